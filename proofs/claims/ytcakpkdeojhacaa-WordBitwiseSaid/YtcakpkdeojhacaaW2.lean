/-
  The laws of chapter 1, each by a symbolic run over the functions that it calls. No condition but that an argument is a word.
-/
import Derived.Test.YtcakpkdeojhacaaW1
noncomputable section
namespace Go.Proofs.Ytcakpkdeojhacaa.w2
open Go.R
set_option maxRecDepth 10000
set_option linter.unusedVariables false
open w1
theorem ex_c (ex : FuncId) (H : Heap) : C Try.prog 0 (KX ex) ex [] H fun v H' => ∃ (r : Bool), H' = H ∧ v = .bool r ∧ r = true :=
  c_known (by show (bif Nat.beq ex ex then some (Value.bool true) else none) = _; rw [Nat.beq_refl]; rfl) ⟨true, rfl, rfl, rfl⟩

theorem b17 (a b : Int) : binV 17 a b = truthV (decide (a < b)) := rfl
theorem b15 (a b : Int) : binV 15 a b = truthV (a == b) := rfl
theorem b16 (a b : Int) : binV 16 a b = truthV (a != b) := rfl
theorem b18 (a b : Int) : binV 18 a b = truthV (decide (a ≤ b)) := rfl
theorem b19 (a b : Int) : binV 19 a b = truthV (decide (IntKind.u64.wrap a < IntKind.u64.wrap b)) := rfl
theorem tv (c : Bool) : (truthV c = 1 ∧ c = true) ∨ (truthV c = 0 ∧ c = false) := by cases c <;> simp [truthV]
theorem wu (a : Int) (h : in64 a) : (0 ≤ a ∧ IntKind.u64.wrap a = a) ∨ (a < 0 ∧ IntKind.u64.wrap a = a + 18446744073709551616) := by
  have e : IntKind.u64.wrap a = a % (2 ^ 64 : Int) := rfl
  rw [e]; omega

/-- What the comparisons of two words return. -/
theorem cmp_all (x y : Int) (hx : in64 x) (hy : in64 y) :
    ((x < y ∧ ¬ y < x ∧ x ≠ y ∧ binV 17 x y = 1 ∧ binV 17 y x = 0 ∧ binV 15 x y = 0 ∧ binV 16 x y = 1 ∧ binV 18 x y = 1) ∨ (x = y ∧ binV 17 x y = 0 ∧ binV 17 y x = 0 ∧ binV 15 x y = 1 ∧ binV 16 x y = 0 ∧ binV 18 x y = 1) ∨
      (y < x ∧ ¬ x < y ∧ x ≠ y ∧ binV 17 x y = 0 ∧ binV 17 y x = 1 ∧ binV 15 x y = 0 ∧ binV 16 x y = 1 ∧ binV 18 x y = 0)) ∧
    ((0 ≤ x ∧ y < 0 ∧ binV 19 x y = 1) ∨ (x < 0 ∧ 0 ≤ y ∧ binV 19 x y = 0) ∨ (0 ≤ x ∧ 0 ≤ y ∧ binV 19 x y = binV 17 x y) ∨ (x < 0 ∧ y < 0 ∧ binV 19 x y = binV 17 x y)) := by
  rw [b17, b17, b15, b16, b18, b19]
  constructor
  · rcases Int.lt_trichotomy x y with h | h | h
    · left
      have h1 : ¬ y < x := by omega
      have h2 : x ≠ y := by omega
      have h3 : x ≤ y := by omega
      have h4 : (x == y) = false := by simpa using h2
      simp [h, h1, h2, h3, h4, bne, truthV]
    · right; left; subst h; simp [truthV]
    · right; right
      have h1 : ¬ x < y := by omega
      have h2 : x ≠ y := by omega
      have h3 : ¬ x ≤ y := by omega
      have h4 : (x == y) = false := by simpa using h2
      simp [h, h1, h2, h3, h4, bne, truthV]
  · rcases wu x hx with ⟨h1, e1⟩ | ⟨h1, e1⟩ <;> rcases wu y hy with ⟨h2, e2⟩ | ⟨h2, e2⟩ <;> rw [e1, e2]
    · right; right; left; exact ⟨h1, h2, rfl⟩
    · left
      have : x < y + 18446744073709551616 := by unfold in64 at *; omega
      simp [h1, h2, this, truthV]
    · right; left
      have : ¬ x + 18446744073709551616 < y := by unfold in64 at *; omega
      simp [h1, h2, this, truthV]
    · right; right; right
      refine ⟨h1, h2, ?_⟩
      congr 1
      exact decide_eq_decide.2 (by omega)
theorem w01 : IntKind.i64.wrap (0 + 0) = 0 ∧ IntKind.i64.wrap (0 + 1) = 1 ∧ IntKind.i64.wrap (1 + 0) = 1 ∧ IntKind.i64.wrap (1 - 0) = 1 ∧ IntKind.i64.wrap (1 - 1) = 0 := by decide
theorem cmpA (x y : Int) (hx : in64 x) (hy : in64 y) (c : (((((decide (x < 0)) == (decide (y < 0))) && (binV 19 x y != binV 17 x y)) || (((decide (x < 0)) && (decide ((0 : Int) ≤ y))) && (binV 19 x y != 0))) || (((decide ((0 : Int) ≤ x)) && (decide (y < 0))) && (binV 19 x y != 1))) = true) : false = true := by
  obtain ⟨_, h2⟩ := cmp_all x y hx hy
  revert c
  rcases h2 with ⟨h1, h2, h3⟩ | ⟨h1, h2, h3⟩ | ⟨h1, h2, h3⟩ | ⟨h1, h2, h3⟩
  · have g1 : ¬ x < 0 := by omega
    have g2 : ¬ (0 : Int) ≤ y := by omega
    rw [h3]; simp [h1, h2, g1, g2]
  · have g1 : ¬ y < 0 := by omega
    have g2 : ¬ (0 : Int) ≤ x := by omega
    rw [h3]; simp [h1, h2, g1, g2]
  · have g1 : ¬ x < 0 := by omega
    have g2 : ¬ y < 0 := by omega
    rw [h3]; simp [h1, h2, g1, g2]
  · have g1 : ¬ (0 : Int) ≤ x := by omega
    have g2 : ¬ (0 : Int) ≤ y := by omega
    rw [h3]; simp [h1, h2, g1, g2]
theorem cmpB (x y : Int) (hx : in64 x) (hy : in64 y) : (((((((IntKind.i64.wrap ((IntKind.i64.wrap (binV 17 x y + binV 17 y x)) + binV 15 x y)) == 1) && (binV 16 x y == IntKind.i64.wrap (1 - binV 15 x y))) && (binV 18 x y == IntKind.i64.wrap (binV 17 x y + binV 15 x y))) && ((binV 15 x y == 1) == (x == y))))) = true := by
  obtain ⟨h1, _⟩ := cmp_all x y hx hy
  obtain ⟨w1, w2, w3, w4, w5⟩ := w01
  rcases h1 with ⟨h1, h2, h3, h4, h5, h6, h7, h8⟩ | ⟨h1, h4, h5, h6, h7, h8⟩ | ⟨h1, h2, h3, h4, h5, h6, h7, h8⟩
  · rw [h4, h5, h6, h7, h8, w3, w3, w4]; simp [h3]
  · rw [h4, h5, h6, h7, h8, w1, w2, w5]; simp [h1]
  · rw [h4, h5, h6, h7, h8, w2, w3, w1, w4]; simp [h3]

theorem b12 (a k : Int) : binV 12 a k = IntKind.i64.wrap (a * 2 ^ (k % 64).toNat) := by
  have h : binV 12 a k = IntKind.i64.wrap (a * 2 ^ (Nat.min (byV k).toNat 64)) := rfl
  rw [h, byV, byv]
  have : Nat.min (k % 64).toNat 64 = (k % 64).toNat := by show min _ _ = _; omega
  rw [this]
theorem b13 (a k : Int) : binV 13 a k = IntKind.i64.wrap (Int.fdiv (IntKind.u64.wrap a) (2 ^ (k % 64).toNat)) := by
  have h : binV 13 a k = IntKind.i64.wrap (Int.fdiv (IntKind.u64.wrap a) (2 ^ (Nat.min (byV k).toNat 64))) := rfl
  rw [h, byV, byv]
  have : Nat.min (k % 64).toNat 64 = (k % 64).toNat := by show min _ _ = _; omega
  rw [this]
theorem b14 (a k : Int) : binV 14 a k = Int.fdiv a (2 ^ (k % 64).toNat) := by
  have h : binV 14 a k = Int.fdiv a (2 ^ (Nat.min (byV k).toNat 64)) := rfl
  rw [h, byV, byv]
  have : Nat.min (k % 64).toNat 64 = (k % 64).toNat := by show min _ _ = _; omega
  rw [this]
theorem b4 (a b : Int) : binV 4 a b = IntKind.i64.wrap (a + b) := rfl
theorem b5 (a b : Int) : binV 5 a b = IntKind.i64.wrap (a - b) := rfl
theorem b6 (a b : Int) : binV 6 a b = IntKind.i64.wrap (a * b) := rfl
theorem and_tt {a b : Bool} (h1 : a = true) (h2 : b = true) : (a && b) = true := by rw [h1, h2]; rfl
theorem beq_tt {a b : Int} (h : a = b) : (a == b) = true := beq_iff_eq.2 h

theorem bv_add (x y : BitVec 64) : IntKind.i64.wrap (x.toInt + y.toInt) = (x + y).toInt := by
  rw [w64_bv]
  show (BitVec.ofInt 64 (x.toInt + y.toInt)).toInt = _
  rw [BitVec.ofInt_add, BitVec.ofInt_toInt, BitVec.ofInt_toInt]
theorem bv_of (x : BitVec 64) : bv x.toInt = x := BitVec.ofInt_toInt
theorem bitA (a b k : Int) (ha : in64 a) (hb : in64 b) : ((((((binV 4 (binV 11 a b) (binV 12 (binV 9 a b) 1) == binV 4 a b) && (binV 10 a b == binV 4 (binV 11 a b) (binV 9 a b))) && (binV 12 a k == binV 12 a (binV 9 k 63))) && (binV 13 (binV 12 a k) k == binV 9 a (binV 13 (-1) k))) && ((decide (binV 14 a k < 0)) == (decide (a < 0)))) && (binV 13 (binV 9 a 9223372036854775807) k == binV 14 (binV 9 a 9223372036854775807) k)) = true := by
  have e9 : ∀ x y : Int, binV 9 x y = (bv x &&& bv y).toInt := fun x y => and_bv x y
  have e10 : ∀ x y : Int, binV 10 x y = (bv x ||| bv y).toInt := fun x y => or_bv x y
  have e11 : ∀ x y : Int, binV 11 x y = (bv x ^^^ bv y).toInt := fun x y => xor_bv x y
  obtain ⟨s1, s2⟩ := bv_sum (bv a) (bv b)
  have hj : (k % 64).toNat < 64 := by omega
  refine and_tt (and_tt (and_tt (and_tt (and_tt (beq_tt ?_) (beq_tt ?_)) (beq_tt ?_)) (beq_tt ?_)) ?_) (beq_tt ?_)
  · rw [b12, e9, e11, b4, b4]
    have h1 : ((1 : Int) % 64).toNat = 1 := rfl
    rw [h1, shl_bv, bv_of, bv_add, s1]
    rw [← bv_add, bv_toInt ha, bv_toInt hb]
  · rw [e10, e11, e9, b4, bv_add, s2]
  · have h : binV 9 k 63 = k % 64 := and63 k
    rw [h, b12, b12, show k % 64 % 64 = k % 64 by omega]
  · rw [b13, b12, e9, b13, shl_bv, shr_bv, shr_bv, bv_of, bv_of, bv_back]
    rfl
  · rw [b14]
    have h := (sar_rng ha (k % 64).toNat).2
    rw [decide_eq_decide.2 h]
    exact beq_self_eq_true _
  · rw [b13, b14, e9]
    have h1 : (bv a &&& bv 9223372036854775807).toNat < 2 ^ 63 := by
      have h2 : (bv 9223372036854775807).toNat = 2 ^ 63 - 1 := by decide
      rw [BitVec.toNat_and, h2, Nat.and_two_pow_sub_one_eq_mod]
      exact Nat.mod_lt _ (by decide)
    generalize bv a &&& bv 9223372036854775807 = m at *
    have h3 : m.toInt = (m.toNat : Int) := BitVec.toInt_eq_toNat_of_lt (by omega)
    rw [h3, u64_eq, show ((m.toNat : Int) % 18446744073709551616) = m.toNat by omega]
    exact w64_self (sar_rng ⟨by omega, by omega⟩ _).1

theorem bitwise_c (a : Int) (b : Int) (k : Int) (H : Heap) (ha : in64 a) (hb : in64 b) (hk : in64 k) : C Try.prog 0 (KX 12) 14 [(.int .i64 a), (.int .i64 b), (.int .i64 k)] H fun v H' => ∃ (r : Bool), H' = H ∧ v = .bool r ∧ r = true := by
  refine c_enter Try.func14 rfl rfl ?_
  refine wk_seq ?_
  refine wk_region ?_
  refine wa (.bool false) rfl rfl rfl ?_
  refine wo_nil ?_
  refine wk_skip_seq ?_
  refine wk_seq ?_
  refine wk_region ?_
  refine wm (.int .i64 a) rfl rfl rfl ?_
  refine wm (.int .i64 b) rfl rfl rfl ?_
  refine wo_call (ap_call rfl rfl rfl) rfl rfl (w1.bin_c 12 (9) a b _) ?_
  rintro _ H ⟨r1, rfl, rfl, rfl⟩
  refine wm (.int .i64 a) rfl rfl rfl ?_
  refine wm (.int .i64 b) rfl rfl rfl ?_
  refine wo_call (ap_call rfl rfl rfl) rfl rfl (w1.bin_c 12 (11) a b _) ?_
  rintro _ H ⟨r2, rfl, rfl, rfl⟩
  refine wm (.int .i64 a) rfl rfl rfl ?_
  refine wm (.int .i64 b) rfl rfl rfl ?_
  refine wo_call (ap_call rfl rfl rfl) rfl rfl (w1.bin_c 12 (10) a b _) ?_
  rintro _ H ⟨r3, rfl, rfl, rfl⟩
  refine wa (.int .i64 (binV 9 a b)) rfl rfl rfl ?_
  refine wa (.int .i64 (binV 11 a b)) rfl rfl rfl ?_
  refine wa (.int .i64 (binV 10 a b)) rfl rfl rfl ?_
  refine wo_nil ?_
  refine wk_skip_seq ?_
  refine wk_seq ?_
  refine wk_region ?_
  refine wm (.int .i64 (binV 11 a b)) rfl rfl rfl ?_
  refine wm (.int .i64 (binV 9 a b)) rfl rfl rfl ?_
  refine wo_call (ap_call rfl rfl rfl) rfl rfl (w1.bin_c 12 (12) (binV 9 a b) (1) _) ?_
  rintro _ H ⟨r4, rfl, rfl, rfl⟩
  refine wo_call (ap_call rfl rfl rfl) rfl rfl (w1.bin_c 12 (4) (binV 11 a b) (binV 12 (binV 9 a b) 1) _) ?_
  rintro _ H ⟨r5, rfl, rfl, rfl⟩
  refine wa (.int .i64 (binV 4 (binV 11 a b) (binV 12 (binV 9 a b) 1))) rfl rfl rfl ?_
  refine wo_nil ?_
  refine wk_skip_seq ?_
  refine wk_seq ?_
  refine wk_region ?_
  refine wm (.int .i64 k) rfl rfl rfl ?_
  refine wo_call (ap_call rfl rfl rfl) rfl rfl (w1.bin_c 12 (9) k (63) _) ?_
  rintro _ H ⟨r6, rfl, rfl, rfl⟩
  refine wa (.int .i64 (binV 9 k 63)) rfl rfl rfl ?_
  refine wo_nil ?_
  refine wk_skip_seq ?_
  refine wk_seq ?_
  refine wk_region ?_
  refine wm (.int .i64 a) rfl rfl rfl ?_
  refine wm (.int .i64 k) rfl rfl rfl ?_
  refine wo_call (ap_call rfl rfl rfl) rfl rfl (w1.bin_c 12 (14) a k _) ?_
  rintro _ H ⟨r7, rfl, rfl, rfl⟩
  refine wa (.int .i64 (binV 14 a k)) rfl rfl rfl ?_
  refine wo_nil ?_
  refine wk_skip_seq ?_
  refine wk_seq ?_
  refine wk_region ?_
  refine wm (.int .i64 a) rfl rfl rfl ?_
  refine wm (.int .i64 k) rfl rfl rfl ?_
  refine wo_call (ap_call rfl rfl rfl) rfl rfl (w1.bin_c 12 (12) a k _) ?_
  rintro _ H ⟨r8, rfl, rfl, rfl⟩
  refine wa (.int .i64 (binV 12 a k)) rfl rfl rfl ?_
  refine wo_nil ?_
  refine wk_skip_seq ?_
  refine wk_seq ?_
  refine wk_region ?_
  refine wm (.int .i64 (binV 12 a k)) rfl rfl rfl ?_
  refine wm (.int .i64 k) rfl rfl rfl ?_
  refine wo_call (ap_call rfl rfl rfl) rfl rfl (w1.bin_c 12 (13) (binV 12 a k) k _) ?_
  rintro _ H ⟨r9, rfl, rfl, rfl⟩
  refine wa (.int .i64 (binV 13 (binV 12 a k) k)) rfl rfl rfl ?_
  refine wo_nil ?_
  refine wk_skip_seq ?_
  refine wk_seq ?_
  refine wk_region ?_
  refine wm (.int .i64 k) rfl rfl rfl ?_
  refine wo_call (ap_call rfl rfl rfl) rfl rfl (w1.bin_c 12 (13) ((-1)) k _) ?_
  rintro _ H ⟨r10, rfl, rfl, rfl⟩
  refine wa (.int .i64 (binV 13 (-1) k)) rfl rfl rfl ?_
  refine wo_nil ?_
  refine wk_skip_seq ?_
  refine wk_seq ?_
  refine wk_rcut 6 88 [] [(6, (.bool ((((((binV 4 (binV 11 a b) (binV 12 (binV 9 a b) 1) == binV 4 a b) && (binV 10 a b == binV 4 (binV 11 a b) (binV 9 a b))) && (binV 12 a k == binV 12 a (binV 9 k 63))) && (binV 13 (binV 12 a k) k == binV 9 a (binV 13 (-1) k))) && ((decide (binV 14 a k < 0)) == (decide (a < 0)))) && (binV 13 (binV 9 a 9223372036854775807) k == binV 14 (binV 9 a 9223372036854775807) k))))] (fun H' => H' = H) ?_ ?_
  · skip
    refine wk_region ?_
    refine wm (.int .i64 (binV 4 (binV 11 a b) (binV 12 (binV 9 a b) 1))) rfl rfl rfl ?_
    refine wm (.int .i64 a) rfl rfl rfl ?_
    refine wm (.int .i64 b) rfl rfl rfl ?_
    refine wo_call (ap_call rfl rfl rfl) rfl rfl (w1.bin_c 12 (4) a b _) ?_
    rintro _ H ⟨r21, rfl, rfl, rfl⟩
    refine wo_val (v := (.bool (binV 4 (binV 11 a b) (binV 12 (binV 9 a b) 1) == binV 4 a b))) (ap_cmp rfl rfl rfl rfl) rfl rfl ?_
    refine wm (.bool (binV 4 (binV 11 a b) (binV 12 (binV 9 a b) 1) == binV 4 a b)) rfl rfl rfl ?_
    refine wo_gsT (v := (binV 4 (binV 11 a b) (binV 12 (binV 9 a b) 1) == binV 4 a b)) rfl rfl (fun g22 => ?_) (fun g22 => ?_)
    · have pg22 := g22
      try simp only [BS] at pg22
      refine wm (.int .i64 (binV 10 a b)) rfl rfl rfl ?_
      refine wo_gt rfl g22 ?_
      refine wm (.int .i64 (binV 11 a b)) rfl rfl rfl ?_
      refine wo_gt rfl g22 ?_
      refine wm (.int .i64 (binV 9 a b)) rfl rfl rfl ?_
      refine wo_gt rfl g22 ?_
      refine wo_call (ap_call rfl rfl rfl) rfl rfl (w1.bin_c 12 (4) (binV 11 a b) (binV 9 a b) _) ?_
      rintro _ H ⟨r23, rfl, rfl, rfl⟩
      refine wo_gt rfl g22 ?_
      refine wo_val (v := (.bool (binV 10 a b == binV 4 (binV 11 a b) (binV 9 a b)))) (ap_cmp rfl rfl rfl rfl) rfl rfl ?_
      refine wo_val (v := (.bool (binV 10 a b == binV 4 (binV 11 a b) (binV 9 a b)))) (ap_pickT rfl g22 rfl) rfl rfl ?_
      refine wm (.bool (binV 10 a b == binV 4 (binV 11 a b) (binV 9 a b))) rfl rfl rfl ?_
      refine wo_gsT (v := (binV 10 a b == binV 4 (binV 11 a b) (binV 9 a b))) rfl rfl (fun g24 => ?_) (fun g24 => ?_)
      · have pg24 := g24
        try simp only [BS] at pg24
        refine wm (.int .i64 (binV 12 a k)) rfl rfl rfl ?_
        refine wo_gt rfl g24 ?_
        refine wm (.int .i64 a) rfl rfl rfl ?_
        refine wo_gt rfl g24 ?_
        refine wm (.int .i64 (binV 9 k 63)) rfl rfl rfl ?_
        refine wo_gt rfl g24 ?_
        refine wo_call (ap_call rfl rfl rfl) rfl rfl (w1.bin_c 12 (12) a (binV 9 k 63) _) ?_
        rintro _ H ⟨r25, rfl, rfl, rfl⟩
        refine wo_gt rfl g24 ?_
        refine wo_val (v := (.bool (binV 12 a k == binV 12 a (binV 9 k 63)))) (ap_cmp rfl rfl rfl rfl) rfl rfl ?_
        refine wo_val (v := (.bool (binV 12 a k == binV 12 a (binV 9 k 63)))) (ap_pickT rfl g24 rfl) rfl rfl ?_
        refine wm (.bool (binV 12 a k == binV 12 a (binV 9 k 63))) rfl rfl rfl ?_
        refine wo_gsT (v := (binV 12 a k == binV 12 a (binV 9 k 63))) rfl rfl (fun g26 => ?_) (fun g26 => ?_)
        · have pg26 := g26
          try simp only [BS] at pg26
          refine wm (.int .i64 (binV 13 (binV 12 a k) k)) rfl rfl rfl ?_
          refine wo_gt rfl g26 ?_
          refine wm (.int .i64 a) rfl rfl rfl ?_
          refine wo_gt rfl g26 ?_
          refine wm (.int .i64 (binV 13 (-1) k)) rfl rfl rfl ?_
          refine wo_gt rfl g26 ?_
          refine wo_call (ap_call rfl rfl rfl) rfl rfl (w1.bin_c 12 (9) a (binV 13 (-1) k) _) ?_
          rintro _ H ⟨r27, rfl, rfl, rfl⟩
          refine wo_gt rfl g26 ?_
          refine wo_val (v := (.bool (binV 13 (binV 12 a k) k == binV 9 a (binV 13 (-1) k)))) (ap_cmp rfl rfl rfl rfl) rfl rfl ?_
          refine wo_val (v := (.bool (binV 13 (binV 12 a k) k == binV 9 a (binV 13 (-1) k)))) (ap_pickT rfl g26 rfl) rfl rfl ?_
          refine wm (.bool (binV 13 (binV 12 a k) k == binV 9 a (binV 13 (-1) k))) rfl rfl rfl ?_
          refine wo_gsT (v := (binV 13 (binV 12 a k) k == binV 9 a (binV 13 (-1) k))) rfl rfl (fun g28 => ?_) (fun g28 => ?_)
          · have pg28 := g28
            try simp only [BS] at pg28
            refine wm (.int .i64 (binV 14 a k)) rfl rfl rfl ?_
            refine wo_gt rfl g28 ?_
            refine wo_val (v := (.bool (decide (binV 14 a k < 0)))) (ap_cmp rfl rfl rfl rfl) rfl rfl ?_
            refine wo_gt rfl g28 ?_
            refine wm (.int .i64 a) rfl rfl rfl ?_
            refine wo_gt rfl g28 ?_
            refine wo_val (v := (.bool (decide (a < 0)))) (ap_cmp rfl rfl rfl rfl) rfl rfl ?_
            refine wo_gt rfl g28 ?_
            refine wo_val (v := (.bool ((decide (binV 14 a k < 0)) == (decide (a < 0))))) (ap_boolEq rfl rfl (fun a b => by cases a <;> cases b <;> kernel_rfl)) rfl rfl ?_
            refine wo_val (v := (.bool ((decide (binV 14 a k < 0)) == (decide (a < 0))))) (ap_pickT rfl g28 rfl) rfl rfl ?_
            refine wm (.bool ((decide (binV 14 a k < 0)) == (decide (a < 0)))) rfl rfl rfl ?_
            refine wo_gsT (v := ((decide (binV 14 a k < 0)) == (decide (a < 0)))) rfl rfl (fun g29 => ?_) (fun g29 => ?_)
            · have pg29 := g29
              try simp only [BS] at pg29
              refine wm (.int .i64 a) rfl rfl rfl ?_
              refine wo_gt rfl g29 ?_
              refine wo_call (ap_call rfl rfl rfl) rfl rfl (w1.bin_c 12 (9) a (9223372036854775807) _) ?_
              rintro _ H ⟨r30, rfl, rfl, rfl⟩
              refine wo_gt rfl g29 ?_
              refine wm (.int .i64 k) rfl rfl rfl ?_
              refine wo_gt rfl g29 ?_
              refine wo_call (ap_call rfl rfl rfl) rfl rfl (w1.bin_c 12 (13) (binV 9 a 9223372036854775807) k _) ?_
              rintro _ H ⟨r31, rfl, rfl, rfl⟩
              refine wo_gt rfl g29 ?_
              refine wm (.int .i64 a) rfl rfl rfl ?_
              refine wo_gt rfl g29 ?_
              refine wo_call (ap_call rfl rfl rfl) rfl rfl (w1.bin_c 12 (9) a (9223372036854775807) _) ?_
              rintro _ H ⟨r32, rfl, rfl, rfl⟩
              refine wo_gt rfl g29 ?_
              refine wm (.int .i64 k) rfl rfl rfl ?_
              refine wo_gt rfl g29 ?_
              refine wo_call (ap_call rfl rfl rfl) rfl rfl (w1.bin_c 12 (14) (binV 9 a 9223372036854775807) k _) ?_
              rintro _ H ⟨r33, rfl, rfl, rfl⟩
              refine wo_gt rfl g29 ?_
              refine wo_val (v := (.bool (binV 13 (binV 9 a 9223372036854775807) k == binV 14 (binV 9 a 9223372036854775807) k))) (ap_cmp rfl rfl rfl rfl) rfl rfl ?_
              refine wo_val (v := (.bool (binV 13 (binV 9 a 9223372036854775807) k == binV 14 (binV 9 a 9223372036854775807) k))) (ap_pickT rfl g29 rfl) rfl rfl ?_
              refine wm (.bool (binV 13 (binV 9 a 9223372036854775807) k == binV 14 (binV 9 a 9223372036854775807) k)) rfl rfl rfl ?_
              refine wo_gsT (v := (binV 13 (binV 9 a 9223372036854775807) k == binV 14 (binV 9 a 9223372036854775807) k)) rfl rfl (fun g34 => ?_) (fun g34 => ?_)
              · have pg34 := g34
                try simp only [BS] at pg34
                refine wo_call (ap_call rfl rfl rfl) rfl rfl (ex_c 12 _) ?_
                rintro _ H ⟨r35, rfl, rfl, rfl⟩
                refine wo_val (v := (.bool true)) (ap_pickT rfl g34 rfl) rfl rfl ?_
                refine wa (.bool true) rfl rfl rfl ?_
                refine wo_nil ?_
                exact wk_skip_nil ⟨rfl, rfl, (Lu rfl (Lu rfl (Lu rfl (Lu rfl (Lu rfl (Lu rfl (Lu rfl (Lu rfl (Lu rfl (Lu rfl (Lu rfl (Lu rfl (Lu rfl (Lu rfl (Lu rfl (Lu rfl (Lu rfl (Lu rfl (Lu rfl (Lu rfl (Lu rfl (Lu rfl (Lu rfl (Lu rfl (Lu rfl (Lu rfl (Lu rfl (Lu rfl (Lu rfl (Lu rfl (Lu rfl (Lu rfl (Lu rfl (Lu rfl (Lu rfl (Lu rfl (Lu rfl (Lu rfl (Lu rfl (Lu rfl (Lu rfl (Lu rfl (Lu rfl (Lu rfl (Lu rfl (Lu rfl (Lu rfl (Lu rfl Lr)))))))))))))))))))))))))))))))))))))))))))))))), (agC (congrArg Value.bool (show true = ((((((binV 4 (binV 11 a b) (binV 12 (binV 9 a b) 1) == binV 4 a b) && (binV 10 a b == binV 4 (binV 11 a b) (binV 9 a b))) && (binV 12 a k == binV 12 a (binV 9 k 63))) && (binV 13 (binV 12 a k) k == binV 9 a (binV 13 (-1) k))) && ((decide (binV 14 a k < 0)) == (decide (a < 0)))) && (binV 13 (binV 9 a 9223372036854775807) k == binV 14 (binV 9 a 9223372036854775807) k)) by simp only [↓g22, ↓g24, ↓g26, ↓g28, ↓g29, ↓g34, BT])) agN)⟩
              · have pg34 := g34
                try simp only [BS] at pg34
                refine wo_val (v := (.bool false)) (ap_pickF rfl g34 rfl) rfl rfl ?_
                refine wa (.bool false) rfl rfl rfl ?_
                refine wo_nil ?_
                exact wk_skip_nil ⟨rfl, rfl, (Lu rfl (Lu rfl (Lu rfl (Lu rfl (Lu rfl (Lu rfl (Lu rfl (Lu rfl (Lu rfl (Lu rfl (Lu rfl (Lu rfl (Lu rfl (Lu rfl (Lu rfl (Lu rfl (Lu rfl (Lu rfl (Lu rfl (Lu rfl (Lu rfl (Lu rfl (Lu rfl (Lu rfl (Lu rfl (Lu rfl (Lu rfl (Lu rfl (Lu rfl (Lu rfl (Lu rfl (Lu rfl (Lu rfl (Lu rfl (Lu rfl (Lu rfl (Lu rfl (Lu rfl (Lu rfl (Lu rfl (Lu rfl (Lu rfl (Lu rfl (Lu rfl (Lu rfl (Lu rfl (Lu rfl (Lu rfl Lr)))))))))))))))))))))))))))))))))))))))))))))))), (agC (congrArg Value.bool (show false = ((((((binV 4 (binV 11 a b) (binV 12 (binV 9 a b) 1) == binV 4 a b) && (binV 10 a b == binV 4 (binV 11 a b) (binV 9 a b))) && (binV 12 a k == binV 12 a (binV 9 k 63))) && (binV 13 (binV 12 a k) k == binV 9 a (binV 13 (-1) k))) && ((decide (binV 14 a k < 0)) == (decide (a < 0)))) && (binV 13 (binV 9 a 9223372036854775807) k == binV 14 (binV 9 a 9223372036854775807) k)) by simp only [↓g22, ↓g24, ↓g26, ↓g28, ↓g29, ↓g34, BT])) agN)⟩
            · have pg29 := g29
              try simp only [BS] at pg29
              refine wo_gf1 rfl g29 rfl ?_
              refine wo_gf1 rfl g29 rfl ?_
              refine wo_gf1 rfl g29 rfl ?_
              refine wo_gf1 rfl g29 rfl ?_
              refine wo_gf1 rfl g29 rfl ?_
              refine wo_gf1 rfl g29 rfl ?_
              refine wo_gf1 rfl g29 rfl ?_
              refine wo_gf1 rfl g29 rfl ?_
              refine wo_val (v := (.bool false)) (ap_pickF rfl g29 rfl) rfl rfl ?_
              refine wm (.bool false) rfl rfl rfl ?_
              refine wo_gf1 rfl rfl rfl ?_
              refine wo_val (v := (.bool false)) (ap_pickF rfl rfl rfl) rfl rfl ?_
              refine wa (.bool false) rfl rfl rfl ?_
              refine wo_nil ?_
              exact wk_skip_nil ⟨rfl, rfl, (Lu rfl (Lu rfl (Lu rfl (Lu rfl (Lu rfl (Lu rfl (Lu rfl (Lu rfl (Lu rfl (Lu rfl (Lu rfl (Lu rfl (Lu rfl (Lu rfl (Lu rfl (Lu rfl (Lu rfl (Lu rfl (Lu rfl (Lu rfl (Lu rfl (Lu rfl (Lu rfl (Lu rfl (Lu rfl (Lu rfl (Lu rfl (Lu rfl (Lu rfl (Lu rfl (Lu rfl (Lu rfl (Lu rfl (Lu rfl (Lu rfl (Lu rfl (Lu rfl (Lu rfl (Lu rfl (Lu rfl (Lu rfl (Lu rfl (Lu rfl (Lu rfl (Lu rfl (Lu rfl (Lu rfl (Lu rfl Lr)))))))))))))))))))))))))))))))))))))))))))))))), (agC (congrArg Value.bool (show false = ((((((binV 4 (binV 11 a b) (binV 12 (binV 9 a b) 1) == binV 4 a b) && (binV 10 a b == binV 4 (binV 11 a b) (binV 9 a b))) && (binV 12 a k == binV 12 a (binV 9 k 63))) && (binV 13 (binV 12 a k) k == binV 9 a (binV 13 (-1) k))) && ((decide (binV 14 a k < 0)) == (decide (a < 0)))) && (binV 13 (binV 9 a 9223372036854775807) k == binV 14 (binV 9 a 9223372036854775807) k)) by simp only [↓g22, ↓g24, ↓g26, ↓g28, ↓g29, BT])) agN)⟩
          · have pg28 := g28
            try simp only [BS] at pg28
            refine wo_gf1 rfl g28 rfl ?_
            refine wo_gf1 rfl g28 rfl ?_
            refine wo_gf1 rfl g28 rfl ?_
            refine wo_gf1 rfl g28 rfl ?_
            refine wo_val (v := (.bool false)) (ap_pickF rfl g28 rfl) rfl rfl ?_
            refine wm (.bool false) rfl rfl rfl ?_
            refine wo_gf1 rfl rfl rfl ?_
            refine wo_gf1 rfl rfl rfl ?_
            refine wo_gf1 rfl rfl rfl ?_
            refine wo_gf1 rfl rfl rfl ?_
            refine wo_gf1 rfl rfl rfl ?_
            refine wo_gf1 rfl rfl rfl ?_
            refine wo_gf1 rfl rfl rfl ?_
            refine wo_gf1 rfl rfl rfl ?_
            refine wo_gf1 rfl rfl rfl ?_
            refine wo_val (v := (.bool false)) (ap_pickF rfl rfl rfl) rfl rfl ?_
            refine wm (.bool false) rfl rfl rfl ?_
            refine wo_gf1 rfl rfl rfl ?_
            refine wo_val (v := (.bool false)) (ap_pickF rfl rfl rfl) rfl rfl ?_
            refine wa (.bool false) rfl rfl rfl ?_
            refine wo_nil ?_
            exact wk_skip_nil ⟨rfl, rfl, (Lu rfl (Lu rfl (Lu rfl (Lu rfl (Lu rfl (Lu rfl (Lu rfl (Lu rfl (Lu rfl (Lu rfl (Lu rfl (Lu rfl (Lu rfl (Lu rfl (Lu rfl (Lu rfl (Lu rfl (Lu rfl (Lu rfl (Lu rfl (Lu rfl (Lu rfl (Lu rfl (Lu rfl (Lu rfl (Lu rfl (Lu rfl (Lu rfl (Lu rfl (Lu rfl (Lu rfl (Lu rfl (Lu rfl (Lu rfl (Lu rfl (Lu rfl (Lu rfl (Lu rfl (Lu rfl (Lu rfl (Lu rfl (Lu rfl (Lu rfl (Lu rfl (Lu rfl (Lu rfl (Lu rfl (Lu rfl Lr)))))))))))))))))))))))))))))))))))))))))))))))), (agC (congrArg Value.bool (show false = ((((((binV 4 (binV 11 a b) (binV 12 (binV 9 a b) 1) == binV 4 a b) && (binV 10 a b == binV 4 (binV 11 a b) (binV 9 a b))) && (binV 12 a k == binV 12 a (binV 9 k 63))) && (binV 13 (binV 12 a k) k == binV 9 a (binV 13 (-1) k))) && ((decide (binV 14 a k < 0)) == (decide (a < 0)))) && (binV 13 (binV 9 a 9223372036854775807) k == binV 14 (binV 9 a 9223372036854775807) k)) by simp only [↓g22, ↓g24, ↓g26, ↓g28, BT])) agN)⟩
        · have pg26 := g26
          try simp only [BS] at pg26
          refine wo_gf1 rfl g26 rfl ?_
          refine wo_gf1 rfl g26 rfl ?_
          refine wo_gf1 rfl g26 rfl ?_
          refine wo_gf1 rfl g26 rfl ?_
          refine wo_val (v := (.bool false)) (ap_pickF rfl g26 rfl) rfl rfl ?_
          refine wm (.bool false) rfl rfl rfl ?_
          refine wo_gf1 rfl rfl rfl ?_
          refine wo_gf1 rfl rfl rfl ?_
          refine wo_gf1 rfl rfl rfl ?_
          refine wo_gf1 rfl rfl rfl ?_
          refine wo_gf1 rfl rfl rfl ?_
          refine wo_val (v := (.bool false)) (ap_pickF rfl rfl rfl) rfl rfl ?_
          refine wm (.bool false) rfl rfl rfl ?_
          refine wo_gf1 rfl rfl rfl ?_
          refine wo_gf1 rfl rfl rfl ?_
          refine wo_gf1 rfl rfl rfl ?_
          refine wo_gf1 rfl rfl rfl ?_
          refine wo_gf1 rfl rfl rfl ?_
          refine wo_gf1 rfl rfl rfl ?_
          refine wo_gf1 rfl rfl rfl ?_
          refine wo_gf1 rfl rfl rfl ?_
          refine wo_gf1 rfl rfl rfl ?_
          refine wo_val (v := (.bool false)) (ap_pickF rfl rfl rfl) rfl rfl ?_
          refine wm (.bool false) rfl rfl rfl ?_
          refine wo_gf1 rfl rfl rfl ?_
          refine wo_val (v := (.bool false)) (ap_pickF rfl rfl rfl) rfl rfl ?_
          refine wa (.bool false) rfl rfl rfl ?_
          refine wo_nil ?_
          exact wk_skip_nil ⟨rfl, rfl, (Lu rfl (Lu rfl (Lu rfl (Lu rfl (Lu rfl (Lu rfl (Lu rfl (Lu rfl (Lu rfl (Lu rfl (Lu rfl (Lu rfl (Lu rfl (Lu rfl (Lu rfl (Lu rfl (Lu rfl (Lu rfl (Lu rfl (Lu rfl (Lu rfl (Lu rfl (Lu rfl (Lu rfl (Lu rfl (Lu rfl (Lu rfl (Lu rfl (Lu rfl (Lu rfl (Lu rfl (Lu rfl (Lu rfl (Lu rfl (Lu rfl (Lu rfl (Lu rfl (Lu rfl (Lu rfl (Lu rfl (Lu rfl (Lu rfl (Lu rfl (Lu rfl (Lu rfl (Lu rfl (Lu rfl (Lu rfl Lr)))))))))))))))))))))))))))))))))))))))))))))))), (agC (congrArg Value.bool (show false = ((((((binV 4 (binV 11 a b) (binV 12 (binV 9 a b) 1) == binV 4 a b) && (binV 10 a b == binV 4 (binV 11 a b) (binV 9 a b))) && (binV 12 a k == binV 12 a (binV 9 k 63))) && (binV 13 (binV 12 a k) k == binV 9 a (binV 13 (-1) k))) && ((decide (binV 14 a k < 0)) == (decide (a < 0)))) && (binV 13 (binV 9 a 9223372036854775807) k == binV 14 (binV 9 a 9223372036854775807) k)) by simp only [↓g22, ↓g24, ↓g26, BT])) agN)⟩
      · have pg24 := g24
        try simp only [BS] at pg24
        refine wo_gf1 rfl g24 rfl ?_
        refine wo_gf1 rfl g24 rfl ?_
        refine wo_gf1 rfl g24 rfl ?_
        refine wo_gf1 rfl g24 rfl ?_
        refine wo_val (v := (.bool false)) (ap_pickF rfl g24 rfl) rfl rfl ?_
        refine wm (.bool false) rfl rfl rfl ?_
        refine wo_gf1 rfl rfl rfl ?_
        refine wo_gf1 rfl rfl rfl ?_
        refine wo_gf1 rfl rfl rfl ?_
        refine wo_gf1 rfl rfl rfl ?_
        refine wo_gf1 rfl rfl rfl ?_
        refine wo_val (v := (.bool false)) (ap_pickF rfl rfl rfl) rfl rfl ?_
        refine wm (.bool false) rfl rfl rfl ?_
        refine wo_gf1 rfl rfl rfl ?_
        refine wo_gf1 rfl rfl rfl ?_
        refine wo_gf1 rfl rfl rfl ?_
        refine wo_gf1 rfl rfl rfl ?_
        refine wo_gf1 rfl rfl rfl ?_
        refine wo_val (v := (.bool false)) (ap_pickF rfl rfl rfl) rfl rfl ?_
        refine wm (.bool false) rfl rfl rfl ?_
        refine wo_gf1 rfl rfl rfl ?_
        refine wo_gf1 rfl rfl rfl ?_
        refine wo_gf1 rfl rfl rfl ?_
        refine wo_gf1 rfl rfl rfl ?_
        refine wo_gf1 rfl rfl rfl ?_
        refine wo_gf1 rfl rfl rfl ?_
        refine wo_gf1 rfl rfl rfl ?_
        refine wo_gf1 rfl rfl rfl ?_
        refine wo_gf1 rfl rfl rfl ?_
        refine wo_val (v := (.bool false)) (ap_pickF rfl rfl rfl) rfl rfl ?_
        refine wm (.bool false) rfl rfl rfl ?_
        refine wo_gf1 rfl rfl rfl ?_
        refine wo_val (v := (.bool false)) (ap_pickF rfl rfl rfl) rfl rfl ?_
        refine wa (.bool false) rfl rfl rfl ?_
        refine wo_nil ?_
        exact wk_skip_nil ⟨rfl, rfl, (Lu rfl (Lu rfl (Lu rfl (Lu rfl (Lu rfl (Lu rfl (Lu rfl (Lu rfl (Lu rfl (Lu rfl (Lu rfl (Lu rfl (Lu rfl (Lu rfl (Lu rfl (Lu rfl (Lu rfl (Lu rfl (Lu rfl (Lu rfl (Lu rfl (Lu rfl (Lu rfl (Lu rfl (Lu rfl (Lu rfl (Lu rfl (Lu rfl (Lu rfl (Lu rfl (Lu rfl (Lu rfl (Lu rfl (Lu rfl (Lu rfl (Lu rfl (Lu rfl (Lu rfl (Lu rfl (Lu rfl (Lu rfl (Lu rfl (Lu rfl (Lu rfl (Lu rfl (Lu rfl (Lu rfl (Lu rfl Lr)))))))))))))))))))))))))))))))))))))))))))))))), (agC (congrArg Value.bool (show false = ((((((binV 4 (binV 11 a b) (binV 12 (binV 9 a b) 1) == binV 4 a b) && (binV 10 a b == binV 4 (binV 11 a b) (binV 9 a b))) && (binV 12 a k == binV 12 a (binV 9 k 63))) && (binV 13 (binV 12 a k) k == binV 9 a (binV 13 (-1) k))) && ((decide (binV 14 a k < 0)) == (decide (a < 0)))) && (binV 13 (binV 9 a 9223372036854775807) k == binV 14 (binV 9 a 9223372036854775807) k)) by simp only [↓g22, ↓g24, BT])) agN)⟩
    · have pg22 := g22
      try simp only [BS] at pg22
      refine wo_gf1 rfl g22 rfl ?_
      refine wo_gf1 rfl g22 rfl ?_
      refine wo_gf1 rfl g22 rfl ?_
      refine wo_gf1 rfl g22 rfl ?_
      refine wo_val (v := (.bool false)) (ap_pickF rfl g22 rfl) rfl rfl ?_
      refine wm (.bool false) rfl rfl rfl ?_
      refine wo_gf1 rfl rfl rfl ?_
      refine wo_gf1 rfl rfl rfl ?_
      refine wo_gf1 rfl rfl rfl ?_
      refine wo_gf1 rfl rfl rfl ?_
      refine wo_gf1 rfl rfl rfl ?_
      refine wo_val (v := (.bool false)) (ap_pickF rfl rfl rfl) rfl rfl ?_
      refine wm (.bool false) rfl rfl rfl ?_
      refine wo_gf1 rfl rfl rfl ?_
      refine wo_gf1 rfl rfl rfl ?_
      refine wo_gf1 rfl rfl rfl ?_
      refine wo_gf1 rfl rfl rfl ?_
      refine wo_gf1 rfl rfl rfl ?_
      refine wo_val (v := (.bool false)) (ap_pickF rfl rfl rfl) rfl rfl ?_
      refine wm (.bool false) rfl rfl rfl ?_
      refine wo_gf1 rfl rfl rfl ?_
      refine wo_gf1 rfl rfl rfl ?_
      refine wo_gf1 rfl rfl rfl ?_
      refine wo_gf1 rfl rfl rfl ?_
      refine wo_gf1 rfl rfl rfl ?_
      refine wo_val (v := (.bool false)) (ap_pickF rfl rfl rfl) rfl rfl ?_
      refine wm (.bool false) rfl rfl rfl ?_
      refine wo_gf1 rfl rfl rfl ?_
      refine wo_gf1 rfl rfl rfl ?_
      refine wo_gf1 rfl rfl rfl ?_
      refine wo_gf1 rfl rfl rfl ?_
      refine wo_gf1 rfl rfl rfl ?_
      refine wo_gf1 rfl rfl rfl ?_
      refine wo_gf1 rfl rfl rfl ?_
      refine wo_gf1 rfl rfl rfl ?_
      refine wo_gf1 rfl rfl rfl ?_
      refine wo_val (v := (.bool false)) (ap_pickF rfl rfl rfl) rfl rfl ?_
      refine wm (.bool false) rfl rfl rfl ?_
      refine wo_gf1 rfl rfl rfl ?_
      refine wo_val (v := (.bool false)) (ap_pickF rfl rfl rfl) rfl rfl ?_
      refine wa (.bool false) rfl rfl rfl ?_
      refine wo_nil ?_
      exact wk_skip_nil ⟨rfl, rfl, (Lu rfl (Lu rfl (Lu rfl (Lu rfl (Lu rfl (Lu rfl (Lu rfl (Lu rfl (Lu rfl (Lu rfl (Lu rfl (Lu rfl (Lu rfl (Lu rfl (Lu rfl (Lu rfl (Lu rfl (Lu rfl (Lu rfl (Lu rfl (Lu rfl (Lu rfl (Lu rfl (Lu rfl (Lu rfl (Lu rfl (Lu rfl (Lu rfl (Lu rfl (Lu rfl (Lu rfl (Lu rfl (Lu rfl (Lu rfl (Lu rfl (Lu rfl (Lu rfl (Lu rfl (Lu rfl (Lu rfl (Lu rfl (Lu rfl (Lu rfl (Lu rfl (Lu rfl (Lu rfl (Lu rfl (Lu rfl Lr)))))))))))))))))))))))))))))))))))))))))))))))), (agC (congrArg Value.bool (show false = ((((((binV 4 (binV 11 a b) (binV 12 (binV 9 a b) 1) == binV 4 a b) && (binV 10 a b == binV 4 (binV 11 a b) (binV 9 a b))) && (binV 12 a k == binV 12 a (binV 9 k 63))) && (binV 13 (binV 12 a k) k == binV 9 a (binV 13 (-1) k))) && ((decide (binV 14 a k < 0)) == (decide (a < 0)))) && (binV 13 (binV 9 a 9223372036854775807) k == binV 14 (binV 9 a 9223372036854775807) k)) by simp only [↓g22, BT])) agN)⟩
  · skip
    rintro g20 H rfl
    refine wk_skip_seq ?_
    refine wk_ret ⟨.inr rfl, _, rfl, ((((((binV 4 (binV 11 a b) (binV 12 (binV 9 a b) 1) == binV 4 a b) && (binV 10 a b == binV 4 (binV 11 a b) (binV 9 a b))) && (binV 12 a k == binV 12 a (binV 9 k 63))) && (binV 13 (binV 12 a k) k == binV 9 a (binV 13 (-1) k))) && ((decide (binV 14 a k < 0)) == (decide (a < 0)))) && (binV 13 (binV 9 a 9223372036854775807) k == binV 14 (binV 9 a 9223372036854775807) k)), rfl, rfl, (by exact bitA a b k ha hb)⟩
end Go.Proofs.Ytcakpkdeojhacaa.w2
