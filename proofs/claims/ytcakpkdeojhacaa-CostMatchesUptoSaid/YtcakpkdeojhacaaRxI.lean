/-
  Words as residues: wrapping, shifts, bits. No program; no condition beyond those that each statement names.
-/
import Derived.Test.YtcakpkdeojhacaaRxQ
import Derived.Laws.Bits128
noncomputable section
namespace Go.R

theorem w64_in (n : Int) : in64 (IntKind.i64.wrap n) := by rw [IntKind.wrap_i64]; constructor <;> omega
theorem w64_mod (n : Int) : IntKind.i64.wrap n % 18446744073709551616 = n % 18446744073709551616 := by rw [IntKind.wrap_i64]; omega
theorem w64_k (n : Int) : ∃ k, IntKind.i64.wrap n = n + 18446744073709551616 * k := ⟨-((n + 9223372036854775808) / 18446744073709551616), by rw [IntKind.wrap_i64]; omega⟩
theorem w64_cg {x y : Int} (h : x % 18446744073709551616 = y % 18446744073709551616) : IntKind.i64.wrap x = IntKind.i64.wrap y := by rw [IntKind.wrap_i64, IntKind.wrap_i64]; omega
theorem in64_cg {x y : Int} (hx : in64 x) (hy : in64 y) (k : Int) (h : x = y + 18446744073709551616 * k) : x = y := by
  obtain ⟨h1, h2⟩ := hx; obtain ⟨h3, h4⟩ := hy; omega
theorem w64_self {x : Int} (h : in64 x) : IntKind.i64.wrap x = x := w_i64 h
theorem w64_ww (n : Int) : IntKind.i64.wrap (IntKind.i64.wrap n) = IntKind.i64.wrap n := w64_self (w64_in n)
theorem w64_mul_l (x y : Int) : IntKind.i64.wrap (IntKind.i64.wrap x * y) = IntKind.i64.wrap (x * y) := by
  apply w64_cg
  rw [Int.mul_emod, w64_mod, ← Int.mul_emod]
theorem w64_mul_r (x y : Int) : IntKind.i64.wrap (x * IntKind.i64.wrap y) = IntKind.i64.wrap (x * y) := by
  apply w64_cg
  rw [Int.mul_emod, w64_mod, ← Int.mul_emod]
theorem w64_add_l (x y : Int) : IntKind.i64.wrap (IntKind.i64.wrap x + y) = IntKind.i64.wrap (x + y) := by
  apply w64_cg
  rw [Int.add_emod, w64_mod, ← Int.add_emod]
theorem w64_add_r (x y : Int) : IntKind.i64.wrap (x + IntKind.i64.wrap y) = IntKind.i64.wrap (x + y) := by
  apply w64_cg
  rw [Int.add_emod, w64_mod, ← Int.add_emod]
theorem w64_sub_l (x y : Int) : IntKind.i64.wrap (IntKind.i64.wrap x - y) = IntKind.i64.wrap (x - y) := by
  apply w64_cg
  rw [Int.sub_emod, w64_mod, ← Int.sub_emod]
theorem u64_eq (n : Int) : IntKind.u64.wrap n = n % 18446744073709551616 := rfl

/-! Bits. -/
abbrev bv (n : Int) : BitVec 64 := BitVec.ofInt 64 n
theorem w64_bv (n : Int) : IntKind.i64.wrap n = (bv n).toInt := by
  rw [IntKind.wrap_i64, BitVec.toInt_ofInt, Int.bmod_def]
  split <;> omega
theorem bv_toInt {n : Int} (h : in64 n) : (bv n).toInt = n := by rw [← w64_bv, w64_self h]
theorem w64_nat (b : BitVec 64) : IntKind.i64.wrap (b.toNat : Int) = b.toInt := by
  rw [w64_bv]
  congr 1
  rw [bv, BitVec.ofInt_natCast]
  simp
theorem and_bv (a b : Int) : bitsOf .and .i64 a b = (bv a &&& bv b).toInt := by
  show IntKind.i64.wrap ((bv a &&& bv b).toNat : Int) = _
  exact w64_nat _
theorem or_bv (a b : Int) : bitsOf .or .i64 a b = (bv a ||| bv b).toInt := by
  show IntKind.i64.wrap ((bv a ||| bv b).toNat : Int) = _
  exact w64_nat _
theorem xor_bv (a b : Int) : bitsOf .xor .i64 a b = (bv a ^^^ bv b).toInt := by
  show IntKind.i64.wrap ((bv a ^^^ bv b).toNat : Int) = _
  exact w64_nat _
theorem bv_toNat (a : Int) : ((bv a).toNat : Int) = a % 18446744073709551616 := by
  rw [bv, BitVec.toNat_ofInt]
  omega
theorem and63 (n : Int) : bitsOf .and .i64 n 63 = n % 64 := by
  have h63 : (BitVec.ofInt 64 63).toNat = 2 ^ 6 - 1 := by decide
  have key : (BitVec.ofInt 64 n &&& BitVec.ofInt 64 63).toNat = (n % ((2 ^ 64 : Nat) : Int)).toNat % 2 ^ 6 := by
    rw [BitVec.toNat_and, BitVec.toNat_ofInt, h63, Nat.and_two_pow_sub_one_eq_mod]
  show IntKind.i64.wrap ((BitVec.ofInt 64 n &&& BitVec.ofInt 64 63).toNat : Nat) = n % 64
  rw [key, IntKind.wrap_i64]
  omega
theorem add_xor_and : ∀ a b : Nat, a + b = (a ^^^ b) + 2 * (a &&& b) ∧ (a ||| b) = (a ^^^ b) + (a &&& b) := by
  intro a
  induction a using Nat.strongRecOn with
  | _ a ih =>
    intro b
    by_cases ha : a = 0
    · subst ha; simp
    · obtain ⟨h, h'⟩ := ih (a / 2) (by omega) (b / 2)
      have h1 : (a ^^^ b) / 2 = a / 2 ^^^ b / 2 := Nat.xor_div_two
      have h2 : (a &&& b) / 2 = (a / 2 &&& b / 2) := Nat.and_div_two
      have h0 : (a ||| b) / 2 = (a / 2 ||| b / 2) := Nat.or_div_two
      have h3 := @Nat.xor_mod_two_eq_one a b
      have h4 := @Nat.and_mod_two_eq_one a b
      have h5 := @Nat.or_mod_two_eq_one a b
      by_cases p : a % 2 = 1 <;> by_cases q : b % 2 = 1 <;> simp only [p, q, true_and, and_true, and_self, iff_true, true_iff, iff_false, false_iff, not_true, not_false_eq_true, or_true, or_false, or_self, and_false, iff_self] at h3 h4 h5 <;> constructor <;> omega
theorem bv_inj {x y : BitVec 64} (h : x.toInt = y.toInt) : x = y := BitVec.eq_of_toInt_eq h
/-- A sum is the exclusive or, and twice the and. -/
theorem bv_sum (x y : BitVec 64) : (x ^^^ y) + (x &&& y) <<< 1 = x + y ∧ (x ^^^ y) + (x &&& y) = x ||| y := by
  obtain ⟨h1, h2⟩ := add_xor_and x.toNat y.toNat
  constructor
  · apply BitVec.eq_of_toNat_eq
    simp only [BitVec.toNat_add, BitVec.toNat_xor, BitVec.toNat_shiftLeft, BitVec.toNat_and, Nat.shiftLeft_eq]
    omega
  · apply BitVec.eq_of_toNat_eq
    simp only [BitVec.toNat_add, BitVec.toNat_xor, BitVec.toNat_and, BitVec.toNat_or]
    have := (x ||| y).isLt
    rw [BitVec.toNat_or] at this
    omega
theorem bv_back (x : BitVec 64) (j : Nat) : (x <<< j) >>> j = x &&& ((BitVec.allOnes 64) >>> j) := by
  apply BitVec.eq_of_getLsbD_eq
  intro i hi
  simp only [BitVec.getLsbD_ushiftRight, BitVec.getLsbD_shiftLeft, BitVec.getLsbD_and, BitVec.getLsbD_allOnes]
  by_cases h : j + i < 64
  · have h1 : ¬ j + i < j := by omega
    simp [h, h1]
  · simp [h]
/-! Shifts by k, below 64. -/
theorem byv (k : Int) : IntKind.u64.wrap (bitsOf .and .i64 k 63) = k % 64 := by
  rw [and63, u64_eq]; omega
theorem shl_bv (a : Int) (j : Nat) : IntKind.i64.wrap (a * 2 ^ j) = (bv a <<< j).toInt := by
  rw [w64_bv]
  congr 1
  apply BitVec.eq_of_toNat_eq
  rw [BitVec.toNat_shiftLeft, Nat.shiftLeft_eq]
  have h1 : ((bv (a * 2 ^ j)).toNat : Int) = (a * 2 ^ j) % 18446744073709551616 := bv_toNat _
  have h2 : ((bv a).toNat : Int) = a % 18446744073709551616 := bv_toNat _
  have h3 : (((bv a).toNat * 2 ^ j % 2 ^ 64 : Nat) : Int) = (a * 2 ^ j) % 18446744073709551616 := by
    rw [Int.natCast_emod, Int.natCast_mul, h2, Int.natCast_pow, Int.natCast_pow]
    show (a % 18446744073709551616 * 2 ^ j) % 18446744073709551616 = _
    rw [Int.mul_emod, Int.emod_emod_of_dvd _ (Int.dvd_refl _), ← Int.mul_emod]
  omega
theorem shr_bv (a : Int) (j : Nat) : IntKind.i64.wrap (Int.fdiv (IntKind.u64.wrap a) (2 ^ j)) = (bv a >>> j).toInt := by
  have h2 : ((bv a).toNat : Int) = a % 18446744073709551616 := bv_toNat _
  rw [u64_eq, ← h2, Int.fdiv_eq_ediv_of_nonneg _ (by exact Int.pow_nonneg (by decide))]
  have : (((bv a).toNat : Int) / 2 ^ j) = (((bv a) >>> j).toNat : Int) := by
    rw [BitVec.toNat_ushiftRight, Nat.shiftRight_eq_div_pow, Int.natCast_ediv, Int.natCast_pow]
    rfl
  rw [this, w64_nat]
theorem sar_rng {a : Int} (h : in64 a) (j : Nat) : in64 (Int.fdiv a (2 ^ j)) ∧ (Int.fdiv a (2 ^ j) < 0 ↔ a < 0) := by
  have hp : (0 : Int) < 2 ^ j := Int.pow_pos (by decide)
  rw [Int.fdiv_eq_ediv_of_nonneg _ (Int.le_of_lt hp)]
  have h1 := Int.mul_ediv_add_emod a (2 ^ j)
  have h2 := Int.emod_nonneg a (Int.ne_of_gt hp)
  have h3 := Int.emod_lt_of_pos a hp
  generalize a / 2 ^ j = q at *
  generalize a % 2 ^ j = r at *
  generalize (2 : Int) ^ j = m at *
  obtain ⟨h4, h5⟩ := h
  by_cases hq : 0 ≤ q
  · have : q ≤ m * q := by
      have := Int.mul_le_mul_of_nonneg_right (show (1 : Int) ≤ m by omega) hq
      omega
    exact ⟨⟨by omega, by omega⟩, by constructor <;> intro <;> omega⟩
  · have : m * q + m ≤ 0 ∧ m * q ≤ q := by
      have e1 := Int.mul_le_mul_of_nonneg_left (show q ≤ -1 by omega) (Int.le_of_lt hp)
      have e2 := Int.mul_le_mul_of_nonpos_right (show (1 : Int) ≤ m by omega) (show q ≤ 0 by omega)
      omega
    have e3 : -9223372036854775808 ≤ q := by
      rcases Int.lt_or_le q (-9223372036854775808) with hlt | hge
      · have := Int.mul_le_mul_of_nonneg_left (show q ≤ -9223372036854775809 by omega) (Int.le_of_lt hp)
        omega
      · exact hge
    exact ⟨⟨e3, by omega⟩, by constructor <;> intro <;> omega⟩
theorem tdiv_facts (x y : Int) (hy : y ≠ 0) : x.tdiv y * y + x.tmod y = x ∧ (x.tmod y).natAbs < y.natAbs ∧ (0 ≤ x → 0 ≤ x.tmod y ∧ x.tmod y ≤ x) ∧ (x ≤ 0 → x.tmod y ≤ 0 ∧ x ≤ x.tmod y) := by
  have h1 : x.tdiv y * y + x.tmod y = x := by rw [Int.mul_comm]; exact Int.mul_tdiv_add_tmod x y
  have h2 : (x.tmod y).natAbs = x.natAbs % y.natAbs := Int.natAbs_tmod x y
  have h3 : x.natAbs % y.natAbs < y.natAbs := Nat.mod_lt _ (by omega)
  have h4 : x.natAbs % y.natAbs ≤ x.natAbs := Nat.mod_le _ _
  refine ⟨h1, by omega, fun hx => ?_, fun hx => ?_⟩
  · have := Int.tmod_nonneg y hx
    omega
  · have : 0 ≤ (-x).tmod y := Int.tmod_nonneg y (by omega)
    rw [Int.neg_tmod] at this
    omega
theorem not_bv (a : Int) : (~~~ (bv a)).toInt = IntKind.i64.wrap (-1 - a) := by
  rw [w64_bv]
  congr 1
  apply BitVec.eq_of_toNat_eq
  have h1 : ((bv (-1 - a)).toNat : Int) = (-1 - a) % 18446744073709551616 := bv_toNat _
  have h2 : ((bv a).toNat : Int) = a % 18446744073709551616 := bv_toNat _
  have h3 := (bv a).isLt
  rw [BitVec.toNat_not]
  omega
end Go.R
end
