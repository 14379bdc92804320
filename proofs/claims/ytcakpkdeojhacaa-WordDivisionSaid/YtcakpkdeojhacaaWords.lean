/-
  The words' functions, each by a symbolic run: what it returns; and the laws over them. No condition but that an argument is a word.
-/
import Derived.Test.YtcakpkdeojhacaaRxK
import Derived.Test.YtcakpkdeojhacaaChecked
noncomputable section
namespace Go.Proofs.Ytcakpkdeojhacaa.words
open Go.R
set_option maxRecDepth 10000

abbrev w64 (n : Int) : Int := IntKind.i64.wrap n
def truthV (b : Bool) : Int := bif b then 1 else 0
def quoV (a b : Int) : Int := bif b == 0 then 0 else bif b == -1 then w64 (0 - a) else w64 (a.tdiv b)
def byV (b : Int) : Int := IntKind.u64.wrap (bitsOf .and .i64 b 63)
def shcV (op a b : Int) : Int :=
  bif op == 12 then w64 (a * 2 ^ (Nat.min (byV b).toNat 64))
  else bif op == 13 then w64 ((IntKind.u64.wrap a).fdiv (2 ^ (Nat.min (byV b).toNat 64)))
  else bif op == 14 then a.fdiv (2 ^ (Nat.min (byV b).toNat 64))
  else bif op == 15 then truthV (a == b)
  else bif op == 16 then truthV (a != b)
  else bif op == 17 then truthV (decide (a < b))
  else bif op == 18 then truthV (decide (a ≤ b))
  else bif op == 19 then truthV (decide (IntKind.u64.wrap a < IntKind.u64.wrap b))
  else 0
def binV (op a b : Int) : Int :=
  bif op == 4 then w64 (a + b)
  else bif op == 5 then w64 (a - b)
  else bif op == 6 then w64 (a * b)
  else bif op == 7 then quoV a b
  else bif op == 8 then (bif b == 0 then 0 else w64 (a - w64 (quoV a b * b)))
  else bif op == 9 then bitsOf .and .i64 a b
  else bif op == 10 then bitsOf .or .i64 a b
  else bif op == 11 then bitsOf .xor .i64 a b
  else shcV op a b
def unV (op a : Int) : Int :=
  bif op == 20 then w64 (0 - a) else bif op == 21 then bits .xor .i64 (-1) a else 0
def pickV (n m : Int) : Int := bif decide (n.tmod m < 0) then w64 (n.tmod m + m) else n.tmod m

section
variable (ex : FuncId)
theorem truth_c (b : Bool) (H : Heap) : C Try.prog 0 (KX ex) 65 [.bool b] H fun v H' => v = .int .i64 (truthV b) ∧ H' = H := by
  refine c_enter Try.func65 rfl rfl ?_
  repeat' (first
    | apply wk_seq
    | apply wk_region
    | refine wd_region rfl ?_
    | apply wo_nil
    | apply wd_nil
    | apply wk_skip_seq
    | apply wk_skip_block
    | apply wk_block
    | apply wk_exit_seq
    | apply wk_exit_block
    | refine wk_exit_block_ne rfl ?_
    | refine wo_val (ap_assign (v := .int _ _) rfl) rfl rfl ?_
    | refine wo_val (ap_assign (v := .bool _) rfl) rfl rfl ?_
    | refine wo_val (ap_assign (v := .string _) rfl) rfl rfl ?_
    | refine wo_val (ap_assign (v := .slice _ _ _) rfl) rfl rfl ?_
    | refine wo_val (ap_assign (v := .pointer _) rfl) rfl rfl ?_
    | refine wo_val (ap_assign (v := .agg _) rfl) rfl rfl ?_
    | refine wo_val (ap_assign (v := .tuple _) rfl) rfl rfl ?_
    | refine wo_val (ap_move (v := .int _ _) rfl) rfl rfl ?_
    | refine wo_val (ap_move (v := .bool _) rfl) rfl rfl ?_
    | refine wo_val (ap_move (v := .string _) rfl) rfl rfl ?_
    | refine wo_val (ap_move (v := .slice _ _ _) rfl) rfl rfl ?_
    | refine wo_val (ap_move (v := .pointer _) rfl) rfl rfl ?_
    | refine wo_val (ap_move (v := .agg _) rfl) rfl rfl ?_
    | refine wo_val (ap_move (v := .tuple _) rfl) rfl rfl ?_
    | refine wo_val (ap_int rfl rfl rfl) rfl rfl ?_
    | refine wo_val (ap_conv rfl rfl rfl) rfl rfl ?_
    | refine wo_val (ap_not rfl) rfl rfl ?_
    | refine wo_val (ap_neg rfl) rfl rfl ?_
    | refine wo_val (ap_pickT (v := .bool _) rfl (by first | with_reducible rfl | with_reducible assumption | decide) rfl) rfl rfl ?_
    | refine wo_val (ap_pickF (v := .bool _) rfl (by first | with_reducible rfl | with_reducible assumption | decide) rfl) rfl rfl ?_
    | refine wo_val (ap_pickT (v := .int _ _) rfl (by first | with_reducible rfl | with_reducible assumption | decide) rfl) rfl rfl ?_
    | refine wo_val (ap_pickF (v := .int _ _) rfl (by first | with_reducible rfl | with_reducible assumption | decide) rfl) rfl rfl ?_
    | refine wo_val (ap_boolEq rfl rfl (fun a b => by cases a <;> cases b <;> kernel_rfl)) rfl rfl ?_
    | refine wk_true rfl (by first | with_reducible rfl | with_reducible assumption | decide) rfl ?_
    | refine wk_false rfl (by first | with_reducible rfl | with_reducible assumption | decide) rfl ?_
    | (refine wk_cond rfl rfl ?_ ?_ <;> intro hc)
    | fail)
  all_goals refine wk_ret ⟨.inr rfl, _, rfl, ?_⟩; subst hc; exact ⟨rfl, rfl⟩

theorem quo_c (a b : Int) (H : Heap) : C Try.prog 0 (KX ex) 48 [.int .i64 a, .int .i64 b] H fun v H' => v = .int .i64 (quoV a b) ∧ H' = H := by
  refine c_enter Try.func48 rfl rfl ?_
  repeat' (first
    | apply wk_seq
    | apply wk_region
    | refine wd_region rfl ?_
    | apply wo_nil
    | apply wd_nil
    | apply wk_skip_seq
    | apply wk_skip_block
    | apply wk_block
    | apply wk_exit_seq
    | apply wk_exit_block
    | refine wk_exit_block_ne rfl ?_
    | refine wo_val (ap_assign (v := .int _ _) rfl) rfl rfl ?_
    | refine wo_val (ap_assign (v := .bool _) rfl) rfl rfl ?_
    | refine wo_val (ap_assign (v := .string _) rfl) rfl rfl ?_
    | refine wo_val (ap_assign (v := .slice _ _ _) rfl) rfl rfl ?_
    | refine wo_val (ap_assign (v := .pointer _) rfl) rfl rfl ?_
    | refine wo_val (ap_assign (v := .agg _) rfl) rfl rfl ?_
    | refine wo_val (ap_assign (v := .tuple _) rfl) rfl rfl ?_
    | refine wo_val (ap_move (v := .int _ _) rfl) rfl rfl ?_
    | refine wo_val (ap_move (v := .bool _) rfl) rfl rfl ?_
    | refine wo_val (ap_move (v := .string _) rfl) rfl rfl ?_
    | refine wo_val (ap_move (v := .slice _ _ _) rfl) rfl rfl ?_
    | refine wo_val (ap_move (v := .pointer _) rfl) rfl rfl ?_
    | refine wo_val (ap_move (v := .agg _) rfl) rfl rfl ?_
    | refine wo_val (ap_move (v := .tuple _) rfl) rfl rfl ?_
    | refine wo_val (ap_int rfl rfl rfl) rfl rfl ?_
    | refine wo_val (ap_conv rfl rfl rfl) rfl rfl ?_
    | refine wo_val (ap_not rfl) rfl rfl ?_
    | refine wo_val (ap_neg rfl) rfl rfl ?_
    | refine wo_val (ap_pickT (v := .bool _) rfl (by first | with_reducible rfl | with_reducible assumption | decide) rfl) rfl rfl ?_
    | refine wo_val (ap_pickF (v := .bool _) rfl (by first | with_reducible rfl | with_reducible assumption | decide) rfl) rfl rfl ?_
    | refine wo_val (ap_pickT (v := .int _ _) rfl (by first | with_reducible rfl | with_reducible assumption | decide) rfl) rfl rfl ?_
    | refine wo_val (ap_pickF (v := .int _ _) rfl (by first | with_reducible rfl | with_reducible assumption | decide) rfl) rfl rfl ?_
    | refine wo_val (ap_boolEq rfl rfl (fun a b => by cases a <;> cases b <;> kernel_rfl)) rfl rfl ?_
    | refine wk_true rfl (by first | with_reducible rfl | with_reducible assumption | decide) rfl ?_
    | refine wk_false rfl (by first | with_reducible rfl | with_reducible assumption | decide) rfl ?_
    | (refine wk_cond rfl rfl ?_ ?_ <;> intro hc)
    | refine wo_val (ap_neg rfl) rfl rfl ?_
    | refine wo_val (ap_quo rfl rfl rfl (by assumption)) rfl rfl ?_
    | fail)
  all_goals refine wk_ret ⟨.inr rfl, _, rfl, congrArg (Value.int .i64) (?_ : _ = quoV a b), rfl⟩
  all_goals simp only [quoV, *, cond_true, cond_false]

theorem byV_nonneg (b : Int) : 0 ≤ IntKind.u64.wrap (bitsOf .and .i64 b 63) := by
  have : ∀ n : Int, 0 ≤ IntKind.u64.wrap n := fun n => by
    have h : IntKind.u64.wrap n = n % (2 ^ 64 : Int) := rfl
    rw [h]; exact Int.emod_nonneg _ (by decide)
  exact this _
theorem sho_c (op a b : Int) (H : Heap) : C Try.prog 0 (KX ex) 49 [.int .i64 op, .int .i64 a, .int .i64 b] H fun v H' => v = .int .i64 (shcV op a b) ∧ H' = H := by
  have hb := byV_nonneg b
  refine c_enter Try.func49 rfl rfl ?_
  repeat' (first
    | apply wk_seq
    | apply wk_region
    | refine wd_region rfl ?_
    | apply wo_nil
    | apply wd_nil
    | apply wk_skip_seq
    | apply wk_skip_block
    | apply wk_block
    | apply wk_exit_seq
    | apply wk_exit_block
    | refine wk_exit_block_ne rfl ?_
    | refine wo_val (ap_assign (v := .int _ _) rfl) rfl rfl ?_
    | refine wo_val (ap_assign (v := .bool _) rfl) rfl rfl ?_
    | refine wo_val (ap_assign (v := .string _) rfl) rfl rfl ?_
    | refine wo_val (ap_assign (v := .slice _ _ _) rfl) rfl rfl ?_
    | refine wo_val (ap_assign (v := .pointer _) rfl) rfl rfl ?_
    | refine wo_val (ap_assign (v := .agg _) rfl) rfl rfl ?_
    | refine wo_val (ap_assign (v := .tuple _) rfl) rfl rfl ?_
    | refine wo_val (ap_move (v := .int _ _) rfl) rfl rfl ?_
    | refine wo_val (ap_move (v := .bool _) rfl) rfl rfl ?_
    | refine wo_val (ap_move (v := .string _) rfl) rfl rfl ?_
    | refine wo_val (ap_move (v := .slice _ _ _) rfl) rfl rfl ?_
    | refine wo_val (ap_move (v := .pointer _) rfl) rfl rfl ?_
    | refine wo_val (ap_move (v := .agg _) rfl) rfl rfl ?_
    | refine wo_val (ap_move (v := .tuple _) rfl) rfl rfl ?_
    | refine wo_val (ap_int rfl rfl rfl) rfl rfl ?_
    | refine wo_val (ap_conv rfl rfl rfl) rfl rfl ?_
    | refine wo_val (ap_not rfl) rfl rfl ?_
    | refine wo_val (ap_neg rfl) rfl rfl ?_
    | refine wo_val (ap_pickT (v := .bool _) rfl (by first | with_reducible rfl | with_reducible assumption | decide) rfl) rfl rfl ?_
    | refine wo_val (ap_pickF (v := .bool _) rfl (by first | with_reducible rfl | with_reducible assumption | decide) rfl) rfl rfl ?_
    | refine wo_val (ap_pickT (v := .int _ _) rfl (by first | with_reducible rfl | with_reducible assumption | decide) rfl) rfl rfl ?_
    | refine wo_val (ap_pickF (v := .int _ _) rfl (by first | with_reducible rfl | with_reducible assumption | decide) rfl) rfl rfl ?_
    | refine wo_val (ap_boolEq rfl rfl (fun a b => by cases a <;> cases b <;> kernel_rfl)) rfl rfl ?_
    | refine wk_true rfl (by first | with_reducible rfl | with_reducible assumption | decide) rfl ?_
    | refine wk_false rfl (by first | with_reducible rfl | with_reducible assumption | decide) rfl ?_
    | (refine wk_cond rfl rfl ?_ ?_ <;> intro hc)
    | refine wo_val (ap_shl rfl rfl hb) rfl rfl ?_
    | refine wo_val (ap_shr rfl rfl hb) rfl rfl ?_
    | (refine wo_call (ap_call rfl rfl rfl) rfl rfl (truth_c ex _ _) ?_; rintro _ _ ⟨rfl, rfl⟩)
    | fail)
  all_goals refine wk_ret ⟨.inr rfl, _, rfl, congrArg (Value.int .i64) (?_ : _ = shcV op a b), rfl⟩
  all_goals simp only [shcV, byV, *, cond_true, cond_false]
  all_goals rfl
theorem bin_c (op a b : Int) (H : Heap) : C Try.prog 0 (KX ex) 30 [.int .i64 op, .int .i64 a, .int .i64 b] H fun v H' => v = .int .i64 (binV op a b) ∧ H' = H := by
  refine c_enter Try.func30 rfl rfl ?_
  repeat' (first
    | apply wk_seq
    | apply wk_region
    | refine wd_region rfl ?_
    | apply wo_nil
    | apply wd_nil
    | apply wk_skip_seq
    | apply wk_skip_block
    | apply wk_block
    | apply wk_exit_seq
    | apply wk_exit_block
    | refine wk_exit_block_ne rfl ?_
    | refine wo_val (ap_assign (v := .int _ _) rfl) rfl rfl ?_
    | refine wo_val (ap_assign (v := .bool _) rfl) rfl rfl ?_
    | refine wo_val (ap_assign (v := .string _) rfl) rfl rfl ?_
    | refine wo_val (ap_assign (v := .slice _ _ _) rfl) rfl rfl ?_
    | refine wo_val (ap_assign (v := .pointer _) rfl) rfl rfl ?_
    | refine wo_val (ap_assign (v := .agg _) rfl) rfl rfl ?_
    | refine wo_val (ap_assign (v := .tuple _) rfl) rfl rfl ?_
    | refine wo_val (ap_move (v := .int _ _) rfl) rfl rfl ?_
    | refine wo_val (ap_move (v := .bool _) rfl) rfl rfl ?_
    | refine wo_val (ap_move (v := .string _) rfl) rfl rfl ?_
    | refine wo_val (ap_move (v := .slice _ _ _) rfl) rfl rfl ?_
    | refine wo_val (ap_move (v := .pointer _) rfl) rfl rfl ?_
    | refine wo_val (ap_move (v := .agg _) rfl) rfl rfl ?_
    | refine wo_val (ap_move (v := .tuple _) rfl) rfl rfl ?_
    | refine wo_val (ap_int rfl rfl rfl) rfl rfl ?_
    | refine wo_val (ap_conv rfl rfl rfl) rfl rfl ?_
    | refine wo_val (ap_not rfl) rfl rfl ?_
    | refine wo_val (ap_neg rfl) rfl rfl ?_
    | refine wo_val (ap_pickT (v := .bool _) rfl (by first | with_reducible rfl | with_reducible assumption | decide) rfl) rfl rfl ?_
    | refine wo_val (ap_pickF (v := .bool _) rfl (by first | with_reducible rfl | with_reducible assumption | decide) rfl) rfl rfl ?_
    | refine wo_val (ap_pickT (v := .int _ _) rfl (by first | with_reducible rfl | with_reducible assumption | decide) rfl) rfl rfl ?_
    | refine wo_val (ap_pickF (v := .int _ _) rfl (by first | with_reducible rfl | with_reducible assumption | decide) rfl) rfl rfl ?_
    | refine wo_val (ap_boolEq rfl rfl (fun a b => by cases a <;> cases b <;> kernel_rfl)) rfl rfl ?_
    | refine wk_true rfl (by first | with_reducible rfl | with_reducible assumption | decide) rfl ?_
    | refine wk_false rfl (by first | with_reducible rfl | with_reducible assumption | decide) rfl ?_
    | (refine wk_cond rfl rfl ?_ ?_ <;> intro hc)
    | (refine wo_call (ap_call rfl rfl rfl) rfl rfl (quo_c ex _ _ _) ?_; rintro _ _ ⟨rfl, rfl⟩)
    | (refine wo_call (ap_call rfl rfl rfl) rfl rfl (sho_c ex _ _ _ _) ?_; rintro _ _ ⟨rfl, rfl⟩)
    | fail)
  all_goals refine wk_ret ⟨.inr rfl, _, rfl, congrArg (Value.int .i64) (?_ : _ = binV op a b), rfl⟩
  all_goals simp only [binV, *, cond_true, cond_false]
theorem pick_c (n m : Int) (hm : (m == 0) = false) (H : Heap) : C Try.prog 0 (KX ex) 19 [.int .i64 n, .int .i64 m] H fun v H' => v = .int .i64 (pickV n m) ∧ H' = H := by
  refine c_enter Try.func19 rfl rfl ?_
  repeat' (first
    | apply wk_seq
    | apply wk_region
    | refine wd_region rfl ?_
    | apply wo_nil
    | apply wd_nil
    | apply wk_skip_seq
    | apply wk_skip_block
    | apply wk_block
    | apply wk_exit_seq
    | apply wk_exit_block
    | refine wk_exit_block_ne rfl ?_
    | refine wo_val (ap_assign (v := .int _ _) rfl) rfl rfl ?_
    | refine wo_val (ap_assign (v := .bool _) rfl) rfl rfl ?_
    | refine wo_val (ap_assign (v := .string _) rfl) rfl rfl ?_
    | refine wo_val (ap_assign (v := .slice _ _ _) rfl) rfl rfl ?_
    | refine wo_val (ap_assign (v := .pointer _) rfl) rfl rfl ?_
    | refine wo_val (ap_assign (v := .agg _) rfl) rfl rfl ?_
    | refine wo_val (ap_assign (v := .tuple _) rfl) rfl rfl ?_
    | refine wo_val (ap_move (v := .int _ _) rfl) rfl rfl ?_
    | refine wo_val (ap_move (v := .bool _) rfl) rfl rfl ?_
    | refine wo_val (ap_move (v := .string _) rfl) rfl rfl ?_
    | refine wo_val (ap_move (v := .slice _ _ _) rfl) rfl rfl ?_
    | refine wo_val (ap_move (v := .pointer _) rfl) rfl rfl ?_
    | refine wo_val (ap_move (v := .agg _) rfl) rfl rfl ?_
    | refine wo_val (ap_move (v := .tuple _) rfl) rfl rfl ?_
    | refine wo_val (ap_int rfl rfl rfl) rfl rfl ?_
    | refine wo_val (ap_conv rfl rfl rfl) rfl rfl ?_
    | refine wo_val (ap_not rfl) rfl rfl ?_
    | refine wo_val (ap_neg rfl) rfl rfl ?_
    | refine wo_val (ap_pickT (v := .bool _) rfl (by first | with_reducible rfl | with_reducible assumption | decide) rfl) rfl rfl ?_
    | refine wo_val (ap_pickF (v := .bool _) rfl (by first | with_reducible rfl | with_reducible assumption | decide) rfl) rfl rfl ?_
    | refine wo_val (ap_pickT (v := .int _ _) rfl (by first | with_reducible rfl | with_reducible assumption | decide) rfl) rfl rfl ?_
    | refine wo_val (ap_pickF (v := .int _ _) rfl (by first | with_reducible rfl | with_reducible assumption | decide) rfl) rfl rfl ?_
    | refine wo_val (ap_boolEq rfl rfl (fun a b => by cases a <;> cases b <;> kernel_rfl)) rfl rfl ?_
    | refine wk_true rfl (by first | with_reducible rfl | with_reducible assumption | decide) rfl ?_
    | refine wk_false rfl (by first | with_reducible rfl | with_reducible assumption | decide) rfl ?_
    | (refine wk_cond rfl rfl ?_ ?_ <;> intro hc)
    | refine wo_val (ap_rem rfl rfl rfl hm) rfl rfl ?_
    | fail)
  all_goals refine wk_ret ⟨.inr rfl, _, rfl, congrArg (Value.int .i64) (?_ : _ = pickV n m), rfl⟩
  all_goals simp only [pickV, *, cond_true, cond_false]

def in64 (n : Int) : Prop := -9223372036854775808 ≤ n ∧ n < 9223372036854775808
theorem w64_in (n : Int) : in64 (w64 n) := by
  have h : IntKind.i64.wrap n = if (true && decide (n % (2 ^ 64 : Int) ≥ (2 ^ 63 : Int))) then n % (2 ^ 64 : Int) - (2 ^ 64 : Int) else n % (2 ^ 64 : Int) := rfl
  unfold in64 w64
  rw [h]
  have h1 : 0 ≤ n % (2 ^ 64 : Int) := Int.emod_nonneg _ (by decide)
  have h2 : n % (2 ^ 64 : Int) < 2 ^ 64 := Int.emod_lt_of_pos _ (by decide)
  split
  · rename_i hc; simp at hc; omega
  · rename_i hc; simp at hc; omega
theorem w64_mod (n : Int) : w64 n % 18446744073709551616 = n % 18446744073709551616 := by
  have h : IntKind.i64.wrap n = if (true && decide (n % (2 ^ 64 : Int) ≥ (2 ^ 63 : Int))) then n % (2 ^ 64 : Int) - (2 ^ 64 : Int) else n % (2 ^ 64 : Int) := rfl
  unfold w64
  rw [h]
  split <;> omega
theorem w64_eq {n : Int} (h : in64 n) : w64 n = n := by
  have h1 := w64_in n
  have h2 := w64_mod n
  unfold in64 at h h1
  omega
/-- Two words are equal if they are so modulo 2^64. -/
theorem in64_ext {a b : Int} (ha : in64 a) (hb : in64 b) (h : a % 18446744073709551616 = b % 18446744073709551616) : a = b := by
  unfold in64 at ha hb; omega
theorem tdiv_facts (x y : Int) (hy : y ≠ 0) : x.tdiv y * y + x.tmod y = x ∧ (x.tmod y).natAbs < y.natAbs ∧ (0 ≤ x → 0 ≤ x.tmod y ∧ x.tmod y ≤ x) ∧ (x ≤ 0 → x.tmod y ≤ 0 ∧ x ≤ x.tmod y) := by
  have h1 : x.tdiv y * y + x.tmod y = x := by rw [Int.mul_comm]; exact Int.mul_tdiv_add_tmod x y
  have h2 : (x.tmod y).natAbs = x.natAbs % y.natAbs := Int.natAbs_tmod x y
  have h3 : x.natAbs % y.natAbs < y.natAbs := Nat.mod_lt _ (by omega)
  have h4 : x.natAbs % y.natAbs ≤ x.natAbs := Nat.mod_le _ _
  refine ⟨h1, by omega, fun hx => ?_, fun hx => ?_⟩
  · have := Int.tmod_nonneg y hx
    omega
  · have : 0 ≤ (-x).tmod y := Int.tmod_nonneg y (by omega)
    rw [Int.neg_tmod] at this
    omega
theorem quo_facts {x y : Int} (hx : in64 x) (hy : in64 y) (h0 : y ≠ 0) : ∃ r, w64 (x - w64 (quoV x y * y)) = r ∧ w64 (w64 (quoV x y * y) + r) = x ∧ (r = 0 ∨ (r < 0 ↔ x < 0)) ∧ r.natAbs < y.natAbs := by
  have e0 : (y == 0) = false := by simpa using h0
  by_cases h1 : y = -1
  · subst h1
    have hq : quoV x (-1) = w64 (0 - x) := rfl
    rw [hq]
    have e1 : w64 (w64 (0 - x) * -1) = x := by
      refine in64_ext (w64_in _) hx ?_
      rw [w64_mod]
      have := w64_mod (0 - x)
      omega
    refine ⟨0, ?_, ?_, .inl rfl, by decide⟩
    · rw [e1, Int.sub_self]; rfl
    · rw [e1, Int.add_zero, w64_eq hx]
  · obtain ⟨f1, f2, f3, f4⟩ := tdiv_facts x y h0
    have e1 : (y == -1) = false := by simpa using h1
    have hq : quoV x y = w64 (x.tdiv y) := by unfold quoV; simp only [e0, e1, cond_false]
    have hin : in64 (x - x.tmod y) := by
      unfold in64 at hx ⊢
      rcases Int.le_total 0 x with h | h
      · have := f3 h; omega
      · have := f4 h; omega
    have e2 : w64 (w64 (x.tdiv y) * y) = x - x.tmod y := by
      refine in64_ext (w64_in _) hin ?_
      rw [w64_mod, Int.mul_emod, w64_mod, ← Int.mul_emod]
      congr 1; omega
    rw [hq, e2]
    have hr : in64 (x.tmod y) := by
      unfold in64 at hx ⊢
      rcases Int.le_total 0 x with h | h
      · have := f3 h; omega
      · have := f4 h; omega
    refine ⟨x.tmod y, ?_, ?_, ?_, f2⟩
    · rw [show x - (x - x.tmod y) = x.tmod y by omega, w64_eq hr]
    · rw [show x - x.tmod y + x.tmod y = x by omega, w64_eq hx]
    · rcases Int.lt_or_le x 0 with h | h
      · have := f4 (Int.le_of_lt h)
        rcases Int.lt_or_eq_of_le this.1 with h5 | h5
        · exact .inr ⟨fun _ => h, fun _ => h5⟩
        · exact .inl h5
      · have := f3 h
        exact .inr ⟨fun h5 => by omega, fun h5 => by omega⟩
theorem pickV_range {n m : Int} (hm : 0 < m) (hm2 : m < 9223372036854775808) : 0 ≤ pickV n m ∧ pickV n m < m := by
  have h1 : -m < n.tmod m := by have := Int.lt_tmod_of_pos n hm; exact this
  have h2 : n.tmod m < m := Int.tmod_lt_of_pos n hm
  unfold pickV
  by_cases hc : n.tmod m < 0
  · have : decide (n.tmod m < 0) = true := decide_eq_true hc
    simp only [this, cond_true]
    rw [w64_eq ⟨by omega, by omega⟩]; omega
  · have : decide (n.tmod m < 0) = false := decide_eq_false hc
    simp only [this, cond_false]; omega
theorem tdiv_in {n m : Int} (h : in64 n) (hm : 1 < m) : in64 (n.tdiv m) := by
  have h1 := Int.natAbs_tdiv n m
  have h2 : (n.tdiv m).natAbs ≤ n.natAbs := by rw [h1]; exact Nat.div_le_self _ _
  obtain ⟨h3, h4⟩ := h
  have h5 : (n.tdiv m).natAbs * 2 ≤ n.natAbs := by
    rw [h1]
    have h6 := Nat.div_mul_le_self n.natAbs m.natAbs
    have h7 : 2 ≤ m.natAbs := by omega
    exact Nat.le_trans (Nat.mul_le_mul_left _ h7) h6
  unfold in64; omega

def edgesL : List Value := [.int .i64 0, .int .i64 1, .int .i64 (-1), .int .i64 2, .int .i64 (-9223372036854775808), .int .i64 9223372036854775807, .int .i64 4294967296, .int .i64 (-2147483648), .int .i64 63, .int .i64 64]
theorem edges_at (k : Int) (h0 : 0 ≤ k) (h1 : k < 10) : ∃ x, edgesL[0 + k.toNat * 1]? = some (.int .i64 x) ∧ in64 x := by
  obtain ⟨n, rfl⟩ := Int.eq_ofNat_of_zero_le h0
  have hn : n < 10 := by omega
  have : n = 0 ∨ n = 1 ∨ n = 2 ∨ n = 3 ∨ n = 4 ∨ n = 5 ∨ n = 6 ∨ n = 7 ∨ n = 8 ∨ n = 9 := by omega
  rcases this with rfl | rfl | rfl | rfl | rfl | rfl | rfl | rfl | rfl | rfl <;> exact ⟨_, rfl, by decide, by decide⟩

theorem word_c (n raw : Int) (hn : in64 n) (hr : in64 raw) (H : Heap) : C Try.prog 0 (KX ex) 32 [.int .i64 n, .int .i64 raw] H fun v H' => ∃ x, v = .int .i64 x ∧ in64 x ∧ Keeps H H' := by
  have hp := @pickV_range n 24 (by decide) (by decide)
  refine c_enter Try.func32 rfl rfl ?_
  repeat' (first
    | apply wk_seq
    | apply wk_region
    | refine wd_region rfl ?_
    | apply wo_nil
    | apply wd_nil
    | apply wk_skip_seq
    | apply wk_skip_block
    | apply wk_block
    | apply wk_exit_seq
    | apply wk_exit_block
    | refine wk_exit_block_ne rfl ?_
    | refine wo_val (ap_assign (v := .int _ _) rfl) rfl rfl ?_
    | refine wo_val (ap_assign (v := .bool _) rfl) rfl rfl ?_
    | refine wo_val (ap_assign (v := .string _) rfl) rfl rfl ?_
    | refine wo_val (ap_assign (v := .slice _ _ _) rfl) rfl rfl ?_
    | refine wo_val (ap_assign (v := .pointer _) rfl) rfl rfl ?_
    | refine wo_val (ap_assign (v := .agg _) rfl) rfl rfl ?_
    | refine wo_val (ap_assign (v := .tuple _) rfl) rfl rfl ?_
    | refine wo_val (ap_move (v := .int _ _) rfl) rfl rfl ?_
    | refine wo_val (ap_move (v := .bool _) rfl) rfl rfl ?_
    | refine wo_val (ap_move (v := .string _) rfl) rfl rfl ?_
    | refine wo_val (ap_move (v := .slice _ _ _) rfl) rfl rfl ?_
    | refine wo_val (ap_move (v := .pointer _) rfl) rfl rfl ?_
    | refine wo_val (ap_move (v := .agg _) rfl) rfl rfl ?_
    | refine wo_val (ap_move (v := .tuple _) rfl) rfl rfl ?_
    | refine wo_val (ap_int rfl rfl rfl) rfl rfl ?_
    | refine wo_val (ap_conv rfl rfl rfl) rfl rfl ?_
    | refine wo_val (ap_not rfl) rfl rfl ?_
    | refine wo_val (ap_neg rfl) rfl rfl ?_
    | refine wo_val (ap_pickT (v := .bool _) rfl (by first | with_reducible rfl | with_reducible assumption | decide) rfl) rfl rfl ?_
    | refine wo_val (ap_pickF (v := .bool _) rfl (by first | with_reducible rfl | with_reducible assumption | decide) rfl) rfl rfl ?_
    | refine wo_val (ap_pickT (v := .int _ _) rfl (by first | with_reducible rfl | with_reducible assumption | decide) rfl) rfl rfl ?_
    | refine wo_val (ap_pickF (v := .int _ _) rfl (by first | with_reducible rfl | with_reducible assumption | decide) rfl) rfl rfl ?_
    | refine wo_val (ap_boolEq rfl rfl (fun a b => by cases a <;> cases b <;> kernel_rfl)) rfl rfl ?_
    | refine wk_true rfl (by first | with_reducible rfl | with_reducible assumption | decide) rfl ?_
    | refine wk_false rfl (by first | with_reducible rfl | with_reducible assumption | decide) rfl ?_
    | refine wo_val (ap_buildSlice (cells := ⟨edgesL⟩) (sz := 1) (z := [.int .i64 0]) (by kernel_rfl) rfl (by kernel_rfl)) rfl rfl ?_
    | (refine wo_call (ap_call rfl rfl rfl) rfl rfl (pick_c ex n 24 rfl _) ?_; rintro _ _ ⟨rfl, rfl⟩)
    | fail)
  refine wk_cond rfl rfl (fun hc => ?_) (fun hc => ?_)
  · have hc' : pickV n 24 < 10 := of_decide_eq_true hc
    obtain ⟨x, hx, hin⟩ := edges_at (pickV n 24) hp.1 hc'
    repeat' (first
      | apply wk_seq
      | apply wk_region
      | refine wd_region rfl ?_
      | apply wo_nil
      | apply wd_nil
      | apply wk_skip_seq
      | apply wk_skip_block
      | apply wk_block
      | apply wk_exit_seq
      | apply wk_exit_block
      | refine wk_exit_block_ne rfl ?_
      | refine wo_val (ap_assign (v := .int _ _) rfl) rfl rfl ?_
      | refine wo_val (ap_assign (v := .bool _) rfl) rfl rfl ?_
      | refine wo_val (ap_assign (v := .string _) rfl) rfl rfl ?_
      | refine wo_val (ap_assign (v := .slice _ _ _) rfl) rfl rfl ?_
      | refine wo_val (ap_assign (v := .pointer _) rfl) rfl rfl ?_
      | refine wo_val (ap_assign (v := .agg _) rfl) rfl rfl ?_
      | refine wo_val (ap_assign (v := .tuple _) rfl) rfl rfl ?_
      | refine wo_val (ap_move (v := .int _ _) rfl) rfl rfl ?_
      | refine wo_val (ap_move (v := .bool _) rfl) rfl rfl ?_
      | refine wo_val (ap_move (v := .string _) rfl) rfl rfl ?_
      | refine wo_val (ap_move (v := .slice _ _ _) rfl) rfl rfl ?_
      | refine wo_val (ap_move (v := .pointer _) rfl) rfl rfl ?_
      | refine wo_val (ap_move (v := .agg _) rfl) rfl rfl ?_
      | refine wo_val (ap_move (v := .tuple _) rfl) rfl rfl ?_
      | refine wo_val (ap_int rfl rfl rfl) rfl rfl ?_
      | refine wo_val (ap_conv rfl rfl rfl) rfl rfl ?_
      | refine wo_val (ap_not rfl) rfl rfl ?_
      | refine wo_val (ap_neg rfl) rfl rfl ?_
      | refine wo_val (ap_pickT (v := .bool _) rfl (by first | with_reducible rfl | with_reducible assumption | decide) rfl) rfl rfl ?_
      | refine wo_val (ap_pickF (v := .bool _) rfl (by first | with_reducible rfl | with_reducible assumption | decide) rfl) rfl rfl ?_
      | refine wo_val (ap_pickT (v := .int _ _) rfl (by first | with_reducible rfl | with_reducible assumption | decide) rfl) rfl rfl ?_
      | refine wo_val (ap_pickF (v := .int _ _) rfl (by first | with_reducible rfl | with_reducible assumption | decide) rfl) rfl rfl ?_
      | refine wo_val (ap_boolEq rfl rfl (fun a b => by cases a <;> cases b <;> kernel_rfl)) rfl rfl ?_
      | refine wk_true rfl (by first | with_reducible rfl | with_reducible assumption | decide) rfl ?_
      | refine wk_false rfl (by first | with_reducible rfl | with_reducible assumption | decide) rfl ?_
      | refine wo_val (ap_indexAddr rfl rfl rfl rfl hp.1 hc' (by decide)) rfl rfl ?_
      | refine wo_val (ap_load1 rfl rfl (Heap.get_push_same _ _) hx) rfl rfl ?_
      | fail)
    exact wk_ret ⟨.inr rfl, _, rfl, x, rfl, hin, Keeps.push _ _⟩
  · skip
    repeat' (first
      | apply wk_seq
      | apply wk_region
      | refine wd_region rfl ?_
      | apply wo_nil
      | apply wd_nil
      | apply wk_skip_seq
      | apply wk_skip_block
      | apply wk_block
      | apply wk_exit_seq
      | apply wk_exit_block
      | refine wk_exit_block_ne rfl ?_
      | refine wo_val (ap_assign (v := .int _ _) rfl) rfl rfl ?_
      | refine wo_val (ap_assign (v := .bool _) rfl) rfl rfl ?_
      | refine wo_val (ap_assign (v := .string _) rfl) rfl rfl ?_
      | refine wo_val (ap_assign (v := .slice _ _ _) rfl) rfl rfl ?_
      | refine wo_val (ap_assign (v := .pointer _) rfl) rfl rfl ?_
      | refine wo_val (ap_assign (v := .agg _) rfl) rfl rfl ?_
      | refine wo_val (ap_assign (v := .tuple _) rfl) rfl rfl ?_
      | refine wo_val (ap_move (v := .int _ _) rfl) rfl rfl ?_
      | refine wo_val (ap_move (v := .bool _) rfl) rfl rfl ?_
      | refine wo_val (ap_move (v := .string _) rfl) rfl rfl ?_
      | refine wo_val (ap_move (v := .slice _ _ _) rfl) rfl rfl ?_
      | refine wo_val (ap_move (v := .pointer _) rfl) rfl rfl ?_
      | refine wo_val (ap_move (v := .agg _) rfl) rfl rfl ?_
      | refine wo_val (ap_move (v := .tuple _) rfl) rfl rfl ?_
      | refine wo_val (ap_int rfl rfl rfl) rfl rfl ?_
      | refine wo_val (ap_conv rfl rfl rfl) rfl rfl ?_
      | refine wo_val (ap_not rfl) rfl rfl ?_
      | refine wo_val (ap_neg rfl) rfl rfl ?_
      | refine wo_val (ap_pickT (v := .bool _) rfl (by first | with_reducible rfl | with_reducible assumption | decide) rfl) rfl rfl ?_
      | refine wo_val (ap_pickF (v := .bool _) rfl (by first | with_reducible rfl | with_reducible assumption | decide) rfl) rfl rfl ?_
      | refine wo_val (ap_pickT (v := .int _ _) rfl (by first | with_reducible rfl | with_reducible assumption | decide) rfl) rfl rfl ?_
      | refine wo_val (ap_pickF (v := .int _ _) rfl (by first | with_reducible rfl | with_reducible assumption | decide) rfl) rfl rfl ?_
      | refine wo_val (ap_boolEq rfl rfl (fun a b => by cases a <;> cases b <;> kernel_rfl)) rfl rfl ?_
      | refine wk_true rfl (by first | with_reducible rfl | with_reducible assumption | decide) rfl ?_
      | refine wk_false rfl (by first | with_reducible rfl | with_reducible assumption | decide) rfl ?_
      | fail)
    refine wk_cond rfl rfl (fun hc2 => ?_) (fun hc2 => ?_)
    · skip
      repeat' (first
        | apply wk_seq
        | apply wk_region
        | refine wd_region rfl ?_
        | apply wo_nil
        | apply wd_nil
        | apply wk_skip_seq
        | apply wk_skip_block
        | apply wk_block
        | apply wk_exit_seq
        | apply wk_exit_block
        | refine wk_exit_block_ne rfl ?_
        | refine wo_val (ap_assign (v := .int _ _) rfl) rfl rfl ?_
        | refine wo_val (ap_assign (v := .bool _) rfl) rfl rfl ?_
        | refine wo_val (ap_assign (v := .string _) rfl) rfl rfl ?_
        | refine wo_val (ap_assign (v := .slice _ _ _) rfl) rfl rfl ?_
        | refine wo_val (ap_assign (v := .pointer _) rfl) rfl rfl ?_
        | refine wo_val (ap_assign (v := .agg _) rfl) rfl rfl ?_
        | refine wo_val (ap_assign (v := .tuple _) rfl) rfl rfl ?_
        | refine wo_val (ap_move (v := .int _ _) rfl) rfl rfl ?_
        | refine wo_val (ap_move (v := .bool _) rfl) rfl rfl ?_
        | refine wo_val (ap_move (v := .string _) rfl) rfl rfl ?_
        | refine wo_val (ap_move (v := .slice _ _ _) rfl) rfl rfl ?_
        | refine wo_val (ap_move (v := .pointer _) rfl) rfl rfl ?_
        | refine wo_val (ap_move (v := .agg _) rfl) rfl rfl ?_
        | refine wo_val (ap_move (v := .tuple _) rfl) rfl rfl ?_
        | refine wo_val (ap_int rfl rfl rfl) rfl rfl ?_
        | refine wo_val (ap_conv rfl rfl rfl) rfl rfl ?_
        | refine wo_val (ap_not rfl) rfl rfl ?_
        | refine wo_val (ap_neg rfl) rfl rfl ?_
        | refine wo_val (ap_pickT (v := .bool _) rfl (by first | with_reducible rfl | with_reducible assumption | decide) rfl) rfl rfl ?_
        | refine wo_val (ap_pickF (v := .bool _) rfl (by first | with_reducible rfl | with_reducible assumption | decide) rfl) rfl rfl ?_
        | refine wo_val (ap_pickT (v := .int _ _) rfl (by first | with_reducible rfl | with_reducible assumption | decide) rfl) rfl rfl ?_
        | refine wo_val (ap_pickF (v := .int _ _) rfl (by first | with_reducible rfl | with_reducible assumption | decide) rfl) rfl rfl ?_
        | refine wo_val (ap_boolEq rfl rfl (fun a b => by cases a <;> cases b <;> kernel_rfl)) rfl rfl ?_
        | refine wk_true rfl (by first | with_reducible rfl | with_reducible assumption | decide) rfl ?_
        | refine wk_false rfl (by first | with_reducible rfl | with_reducible assumption | decide) rfl ?_
        | refine wo_val (ap_quo rfl rfl rfl rfl) rfl rfl ?_
        | (refine wo_call (ap_call rfl rfl rfl) rfl rfl (pick_c ex _ 17 rfl _) ?_; rintro _ _ ⟨rfl, rfl⟩)
        | fail)
      exact wk_ret ⟨.inr rfl, _, rfl, _, rfl, w64_in _, Keeps.push _ _⟩
    · skip
      repeat' (first
        | apply wk_seq
        | apply wk_region
        | refine wd_region rfl ?_
        | apply wo_nil
        | apply wd_nil
        | apply wk_skip_seq
        | apply wk_skip_block
        | apply wk_block
        | apply wk_exit_seq
        | apply wk_exit_block
        | refine wk_exit_block_ne rfl ?_
        | refine wo_val (ap_assign (v := .int _ _) rfl) rfl rfl ?_
        | refine wo_val (ap_assign (v := .bool _) rfl) rfl rfl ?_
        | refine wo_val (ap_assign (v := .string _) rfl) rfl rfl ?_
        | refine wo_val (ap_assign (v := .slice _ _ _) rfl) rfl rfl ?_
        | refine wo_val (ap_assign (v := .pointer _) rfl) rfl rfl ?_
        | refine wo_val (ap_assign (v := .agg _) rfl) rfl rfl ?_
        | refine wo_val (ap_assign (v := .tuple _) rfl) rfl rfl ?_
        | refine wo_val (ap_move (v := .int _ _) rfl) rfl rfl ?_
        | refine wo_val (ap_move (v := .bool _) rfl) rfl rfl ?_
        | refine wo_val (ap_move (v := .string _) rfl) rfl rfl ?_
        | refine wo_val (ap_move (v := .slice _ _ _) rfl) rfl rfl ?_
        | refine wo_val (ap_move (v := .pointer _) rfl) rfl rfl ?_
        | refine wo_val (ap_move (v := .agg _) rfl) rfl rfl ?_
        | refine wo_val (ap_move (v := .tuple _) rfl) rfl rfl ?_
        | refine wo_val (ap_int rfl rfl rfl) rfl rfl ?_
        | refine wo_val (ap_conv rfl rfl rfl) rfl rfl ?_
        | refine wo_val (ap_not rfl) rfl rfl ?_
        | refine wo_val (ap_neg rfl) rfl rfl ?_
        | refine wo_val (ap_pickT (v := .bool _) rfl (by first | with_reducible rfl | with_reducible assumption | decide) rfl) rfl rfl ?_
        | refine wo_val (ap_pickF (v := .bool _) rfl (by first | with_reducible rfl | with_reducible assumption | decide) rfl) rfl rfl ?_
        | refine wo_val (ap_pickT (v := .int _ _) rfl (by first | with_reducible rfl | with_reducible assumption | decide) rfl) rfl rfl ?_
        | refine wo_val (ap_pickF (v := .int _ _) rfl (by first | with_reducible rfl | with_reducible assumption | decide) rfl) rfl rfl ?_
        | refine wo_val (ap_boolEq rfl rfl (fun a b => by cases a <;> cases b <;> kernel_rfl)) rfl rfl ?_
        | refine wk_true rfl (by first | with_reducible rfl | with_reducible assumption | decide) rfl ?_
        | refine wk_false rfl (by first | with_reducible rfl | with_reducible assumption | decide) rfl ?_
        | fail)
      exact wk_ret ⟨.inr rfl, _, rfl, _, rfl, hr, Keeps.push _ _⟩

end
theorem ex_c (H : Heap) : C Try.prog 0 (KX 12) 12 [] H fun v H' => v = .bool true ∧ H' = H := c_known rfl ⟨rfl, rfl⟩

set_option maxHeartbeats 4000000 in
theorem div_c (a b p q : Int) (ha : in64 a) (hb : in64 b) (hp : in64 p) (hq : in64 q) (H : Heap) : C Try.prog 0 (KX 12) 13 [.int .i64 a, .int .i64 b, .int .i64 p, .int .i64 q] H fun v _ => v = .bool true := by
  refine c_enter Try.func13 rfl rfl ?_
  repeat' (first
    | apply wk_seq
    | apply wk_region
    | refine wd_region rfl ?_
    | apply wo_nil
    | apply wd_nil
    | apply wk_skip_seq
    | apply wk_skip_block
    | apply wk_block
    | apply wk_exit_seq
    | apply wk_exit_block
    | refine wk_exit_block_ne rfl ?_
    | refine wo_val (ap_assign (v := .int _ _) rfl) rfl rfl ?_
    | refine wo_val (ap_assign (v := .bool _) rfl) rfl rfl ?_
    | refine wo_val (ap_assign (v := .string _) rfl) rfl rfl ?_
    | refine wo_val (ap_assign (v := .slice _ _ _) rfl) rfl rfl ?_
    | refine wo_val (ap_assign (v := .pointer _) rfl) rfl rfl ?_
    | refine wo_val (ap_assign (v := .agg _) rfl) rfl rfl ?_
    | refine wo_val (ap_assign (v := .tuple _) rfl) rfl rfl ?_
    | refine wo_val (ap_move (v := .int _ _) rfl) rfl rfl ?_
    | refine wo_val (ap_move (v := .bool _) rfl) rfl rfl ?_
    | refine wo_val (ap_move (v := .string _) rfl) rfl rfl ?_
    | refine wo_val (ap_move (v := .slice _ _ _) rfl) rfl rfl ?_
    | refine wo_val (ap_move (v := .pointer _) rfl) rfl rfl ?_
    | refine wo_val (ap_move (v := .agg _) rfl) rfl rfl ?_
    | refine wo_val (ap_move (v := .tuple _) rfl) rfl rfl ?_
    | refine wo_val (ap_int rfl rfl rfl) rfl rfl ?_
    | refine wo_val (ap_conv rfl rfl rfl) rfl rfl ?_
    | refine wo_val (ap_not rfl) rfl rfl ?_
    | refine wo_val (ap_neg rfl) rfl rfl ?_
    | refine wo_val (ap_pickT (v := .bool _) rfl (by first | with_reducible rfl | with_reducible assumption | decide) rfl) rfl rfl ?_
    | refine wo_val (ap_pickF (v := .bool _) rfl (by first | with_reducible rfl | with_reducible assumption | decide) rfl) rfl rfl ?_
    | refine wo_val (ap_pickT (v := .int _ _) rfl (by first | with_reducible rfl | with_reducible assumption | decide) rfl) rfl rfl ?_
    | refine wo_val (ap_pickF (v := .int _ _) rfl (by first | with_reducible rfl | with_reducible assumption | decide) rfl) rfl rfl ?_
    | refine wo_val (ap_boolEq rfl rfl (fun a b => by cases a <;> cases b <;> kernel_rfl)) rfl rfl ?_
    | refine wo_gn rfl rfl ?_
    | refine wo_gt rfl (by first | with_reducible rfl | with_reducible assumption | decide) ?_
    | refine wo_gf1 rfl (by first | with_reducible rfl | with_reducible assumption | decide) rfl ?_
    | refine wo_gf0 rfl (by first | with_reducible rfl | with_reducible assumption | decide) rfl ?_
    | refine wk_true rfl (by first | with_reducible rfl | with_reducible assumption | decide) rfl ?_
    | refine wk_false rfl (by first | with_reducible rfl | with_reducible assumption | decide) rfl ?_
    | (refine wo_call (ap_call rfl rfl rfl) rfl rfl (word_c 12 _ _ (by assumption) (by assumption) _) ?_; rintro _ _ ⟨y, rfl, hy, _⟩)
    | (refine wo_call (ap_call rfl rfl rfl) rfl rfl (bin_c 12 _ _ _ _) ?_; rintro _ _ ⟨rfl, rfl⟩)
    | fail)
  rename_i x hx _ _ _
  by_cases h0 : y = 0
  · subst h0
    have e1 : (binV 7 x 0 == 0) = true := rfl
    have e2 : (binV 8 x 0 == 0) = true := rfl
    repeat' (first
      | apply wk_seq
      | apply wk_region
      | refine wd_region rfl ?_
      | apply wo_nil
      | apply wd_nil
      | apply wk_skip_seq
      | apply wk_skip_block
      | apply wk_block
      | apply wk_exit_seq
      | apply wk_exit_block
      | refine wk_exit_block_ne rfl ?_
      | refine wo_val (ap_assign (v := .int _ _) rfl) rfl rfl ?_
      | refine wo_val (ap_assign (v := .bool _) rfl) rfl rfl ?_
      | refine wo_val (ap_assign (v := .string _) rfl) rfl rfl ?_
      | refine wo_val (ap_assign (v := .slice _ _ _) rfl) rfl rfl ?_
      | refine wo_val (ap_assign (v := .pointer _) rfl) rfl rfl ?_
      | refine wo_val (ap_assign (v := .agg _) rfl) rfl rfl ?_
      | refine wo_val (ap_assign (v := .tuple _) rfl) rfl rfl ?_
      | refine wo_val (ap_move (v := .int _ _) rfl) rfl rfl ?_
      | refine wo_val (ap_move (v := .bool _) rfl) rfl rfl ?_
      | refine wo_val (ap_move (v := .string _) rfl) rfl rfl ?_
      | refine wo_val (ap_move (v := .slice _ _ _) rfl) rfl rfl ?_
      | refine wo_val (ap_move (v := .pointer _) rfl) rfl rfl ?_
      | refine wo_val (ap_move (v := .agg _) rfl) rfl rfl ?_
      | refine wo_val (ap_move (v := .tuple _) rfl) rfl rfl ?_
      | refine wo_val (ap_int rfl rfl rfl) rfl rfl ?_
      | refine wo_val (ap_conv rfl rfl rfl) rfl rfl ?_
      | refine wo_val (ap_not rfl) rfl rfl ?_
      | refine wo_val (ap_neg rfl) rfl rfl ?_
      | refine wo_val (ap_pickT (v := .bool _) rfl (by first | with_reducible rfl | with_reducible assumption | decide) rfl) rfl rfl ?_
      | refine wo_val (ap_pickF (v := .bool _) rfl (by first | with_reducible rfl | with_reducible assumption | decide) rfl) rfl rfl ?_
      | refine wo_val (ap_pickT (v := .int _ _) rfl (by first | with_reducible rfl | with_reducible assumption | decide) rfl) rfl rfl ?_
      | refine wo_val (ap_pickF (v := .int _ _) rfl (by first | with_reducible rfl | with_reducible assumption | decide) rfl) rfl rfl ?_
      | refine wo_val (ap_boolEq rfl rfl (fun a b => by cases a <;> cases b <;> kernel_rfl)) rfl rfl ?_
      | refine wo_gn rfl rfl ?_
      | refine wo_gt rfl (by first | with_reducible rfl | with_reducible assumption | decide) ?_
      | refine wo_gf1 rfl (by first | with_reducible rfl | with_reducible assumption | decide) rfl ?_
      | refine wo_gf0 rfl (by first | with_reducible rfl | with_reducible assumption | decide) rfl ?_
      | refine wk_true rfl (by first | with_reducible rfl | with_reducible assumption | decide) rfl ?_
      | refine wk_false rfl (by first | with_reducible rfl | with_reducible assumption | decide) rfl ?_
      | (refine wo_call (ap_call rfl rfl rfl) rfl rfl (ex_c _) ?_; rintro _ _ ⟨rfl, rfl⟩)
      | fail)
    exact wk_ret ⟨.inr rfl, _, rfl, rfl⟩
  · obtain ⟨r, f1, f2, f3, f4⟩ := quo_facts hx hy h0
    have e0 : (y == 0) = false := by simpa using h0
    have hd : binV 7 x y = quoV x y := rfl
    have hr : binV 8 x y = r := by
      have : binV 8 x y = bif y == 0 then 0 else w64 (x - w64 (quoV x y * y)) := rfl
      rw [this, e0]; exact f1
    have hlast : (binV 4 (binV 6 (binV 7 x y) y) (binV 8 x y) == x) = true := by
      rw [hr, hd]
      have : binV 4 (binV 6 (quoV x y) y) r = w64 (w64 (quoV x y * y) + r) := rfl
      rw [this, f2]; exact beq_self_eq_true x
    have b1 : (binV 8 x y == 0) = true ∨ (binV 8 x y == 0) = false ∧ (decide (binV 8 x y < 0) == decide (x < 0)) = true := by
      rw [hr]
      rcases f3 with f3 | f3
      · exact .inl (by rw [f3]; rfl)
      · by_cases hz : r = 0
        · exact .inl (by rw [hz]; rfl)
        · refine .inr ⟨by simpa using hz, ?_⟩
          rw [decide_eq_decide.2 f3]; exact beq_self_eq_true _
    have b2 : (y == -9223372036854775808) = true ∨ ((y == -9223372036854775808) = false ∧ decide (y < 0) = true ∧ decide (y < binV 8 x y) = true ∧ decide (binV 8 x y < IntKind.i64.wrap (0 - y)) = true) ∨
        ((y == -9223372036854775808) = false ∧ decide (y < 0) = false ∧ decide (0 < y) = true ∧ decide (IntKind.i64.wrap (0 - y) < binV 8 x y) = true ∧ decide (binV 8 x y < y) = true) := by
      rw [hr]
      by_cases hm : y = -9223372036854775808
      · exact .inl (by rw [hm]; rfl)
      · have hw : IntKind.i64.wrap (0 - y) = 0 - y := w64_eq (by unfold in64 at hy ⊢; omega)
        have hm' : (y == -9223372036854775808) = false := by simpa using hm
        rw [hw]
        rcases Int.lt_or_le y 0 with h | h
        · exact .inr (.inl ⟨hm', decide_eq_true h, decide_eq_true (by omega), decide_eq_true (by omega)⟩)
        · exact .inr (.inr ⟨hm', decide_eq_false (by omega), decide_eq_true (by omega), decide_eq_true (by omega), decide_eq_true (by omega)⟩)
    clear hr hd f1 f2 f3 f4
    rcases b1 with b1 | ⟨b1, b1'⟩ <;> rcases b2 with b2 | ⟨b2, b3, b4, b5⟩ | ⟨b2, b3, b4, b5, b6⟩
    all_goals
      repeat' (first
        | apply wk_seq
        | apply wk_region
        | refine wd_region rfl ?_
        | apply wo_nil
        | apply wd_nil
        | apply wk_skip_seq
        | apply wk_skip_block
        | apply wk_block
        | apply wk_exit_seq
        | apply wk_exit_block
        | refine wk_exit_block_ne rfl ?_
        | refine wo_val (ap_assign (v := .int _ _) rfl) rfl rfl ?_
        | refine wo_val (ap_assign (v := .bool _) rfl) rfl rfl ?_
        | refine wo_val (ap_assign (v := .string _) rfl) rfl rfl ?_
        | refine wo_val (ap_assign (v := .slice _ _ _) rfl) rfl rfl ?_
        | refine wo_val (ap_assign (v := .pointer _) rfl) rfl rfl ?_
        | refine wo_val (ap_assign (v := .agg _) rfl) rfl rfl ?_
        | refine wo_val (ap_assign (v := .tuple _) rfl) rfl rfl ?_
        | refine wo_val (ap_move (v := .int _ _) rfl) rfl rfl ?_
        | refine wo_val (ap_move (v := .bool _) rfl) rfl rfl ?_
        | refine wo_val (ap_move (v := .string _) rfl) rfl rfl ?_
        | refine wo_val (ap_move (v := .slice _ _ _) rfl) rfl rfl ?_
        | refine wo_val (ap_move (v := .pointer _) rfl) rfl rfl ?_
        | refine wo_val (ap_move (v := .agg _) rfl) rfl rfl ?_
        | refine wo_val (ap_move (v := .tuple _) rfl) rfl rfl ?_
        | refine wo_val (ap_int rfl rfl rfl) rfl rfl ?_
        | refine wo_val (ap_conv rfl rfl rfl) rfl rfl ?_
        | refine wo_val (ap_not rfl) rfl rfl ?_
        | refine wo_val (ap_neg rfl) rfl rfl ?_
        | refine wo_val (ap_pickT (v := .bool _) rfl (by first | with_reducible rfl | with_reducible assumption | decide) rfl) rfl rfl ?_
        | refine wo_val (ap_pickF (v := .bool _) rfl (by first | with_reducible rfl | with_reducible assumption | decide) rfl) rfl rfl ?_
        | refine wo_val (ap_pickT (v := .int _ _) rfl (by first | with_reducible rfl | with_reducible assumption | decide) rfl) rfl rfl ?_
        | refine wo_val (ap_pickF (v := .int _ _) rfl (by first | with_reducible rfl | with_reducible assumption | decide) rfl) rfl rfl ?_
        | refine wo_val (ap_boolEq rfl rfl (fun a b => by cases a <;> cases b <;> kernel_rfl)) rfl rfl ?_
        | refine wo_gn rfl rfl ?_
        | refine wo_gt rfl (by first | with_reducible rfl | with_reducible assumption | decide) ?_
        | refine wo_gf1 rfl (by first | with_reducible rfl | with_reducible assumption | decide) rfl ?_
        | refine wo_gf0 rfl (by first | with_reducible rfl | with_reducible assumption | decide) rfl ?_
        | refine wk_true rfl (by first | with_reducible rfl | with_reducible assumption | decide) rfl ?_
        | refine wk_false rfl (by first | with_reducible rfl | with_reducible assumption | decide) rfl ?_
        | (refine wo_call (ap_call rfl rfl rfl) rfl rfl (bin_c 12 _ _ _ _) ?_; rintro _ _ ⟨rfl, rfl⟩)
        | (refine wo_call (ap_call rfl rfl rfl) rfl rfl (ex_c _) ?_; rintro _ _ ⟨rfl, rfl⟩)
        | fail)
    all_goals exact wk_ret ⟨.inr rfl, _, rfl, rfl⟩
end Go.Proofs.Ytcakpkdeojhacaa.words
