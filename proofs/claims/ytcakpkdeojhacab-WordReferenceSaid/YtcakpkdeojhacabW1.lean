/-
  The functions on words of the program, of the reference and of the generator, each by a symbolic run. No condition but that an argument is a word.
-/
import Derived.Test.YtcakpkdeojhacabRxI
import Derived.Test.YtcakpkdeojhacabRxK
import Derived.Test.YtcakpkdeojhacabChecked
noncomputable section
namespace Go.Proofs.Ytcakpkdeojhacab.w1
open Go.R
set_option maxRecDepth 10000
set_option linter.unusedVariables false
abbrev w64 (n : Int) : Int := IntKind.i64.wrap n
def truthV (b : Bool) : Int := bif b then 1 else 0
def quoV (a b : Int) : Int := bif b == 0 then 0 else bif b == -1 then w64 (0 - a) else w64 (Int.tdiv a b)
def byV (b : Int) : Int := IntKind.u64.wrap (bitsOf .and .i64 b 63)
def shcV (op a b : Int) : Int :=
  bif op == 12 then w64 (a * 2 ^ (Nat.min (byV b).toNat 64))
  else bif op == 13 then w64 (Int.fdiv (IntKind.u64.wrap a) (2 ^ (Nat.min (byV b).toNat 64)))
  else bif op == 14 then Int.fdiv a (2 ^ (Nat.min (byV b).toNat 64))
  else bif op == 15 then truthV (a == b)
  else bif op == 16 then truthV (a != b)
  else bif op == 17 then truthV (decide (a < b))
  else bif op == 18 then truthV (decide (a ≤ b))
  else bif op == 19 then truthV (decide (IntKind.u64.wrap a < IntKind.u64.wrap b))
  else 0
def binV (op a b : Int) : Int :=
  bif op == 4 then w64 (a + b)
  else bif op == 5 then w64 (a - b)
  else bif op == 6 then w64 (a * b)
  else bif op == 7 then quoV a b
  else bif op == 8 then (bif b == 0 then 0 else w64 (a - w64 (quoV a b * b)))
  else bif op == 9 then bitsOf .and .i64 a b
  else bif op == 10 then bitsOf .or .i64 a b
  else bif op == 11 then bitsOf .xor .i64 a b
  else shcV op a b
def unV (op a : Int) : Int := bif op == 20 then w64 (0 - a) else bif op == 21 then bits .xor .i64 (-1) a else 0
def pickV (n m : Int) : Int := bif decide (Int.tmod n m < 0) then Int.tmod n m + m else Int.tmod n m
theorem byV_nn (b : Int) : 0 ≤ byV b := by
  have h : IntKind.u64.wrap (bitsOf .and .i64 b 63) = (bitsOf .and .i64 b 63) % (2 ^ 64 : Int) := rfl
  unfold byV
  rw [h]; exact Int.emod_nonneg _ (by decide)
theorem pick_rng {n m : Int} (hm : 0 < m) : 0 ≤ pickV n m ∧ pickV n m < m := by
  have h1 : -m < n.tmod m := Int.lt_tmod_of_pos n hm
  have h2 : n.tmod m < m := Int.tmod_lt_of_pos n hm
  unfold pickV
  by_cases hc : n.tmod m < 0
  · simp only [decide_eq_true hc, cond_true]; omega
  · simp only [decide_eq_false hc, cond_false]; omega

theorem pick_c (ex : FuncId) (n : Int) (m : Int) (H : Heap) (hm : 0 < m ∧ m < 9223372036854775808) : C Try.prog 0 (KX ex) 15 [(.int .i64 n), (.int .i64 m)] H fun v H' => ∃ (r : Int), H' = H ∧ v = .int .i64 r ∧ r = pickV n m ∧ (0 ≤ r ∧ r < m) := by
  have h1 : -m < n.tmod m := Int.lt_tmod_of_pos n hm.1
  have h2 : n.tmod m < m := Int.tmod_lt_of_pos n hm.1
  refine c_enter Try.func15 rfl rfl ?_
  refine wk_seq ?_
  refine wk_region ?_
  refine wa (.int .i64 0) rfl rfl rfl ?_
  refine wo_nil ?_
  refine wk_skip_seq ?_
  refine wk_seq ?_
  refine wk_region ?_
  refine wm (.int .i64 n) rfl rfl rfl ?_
  refine wm (.int .i64 m) rfl rfl rfl ?_
  refine wo_val (v := (.int .i64 (Int.tmod n m))) (ap_mod rfl rfl (by omega) rfl) rfl rfl ?_
  refine wa (.int .i64 (Int.tmod n m)) rfl rfl rfl ?_
  refine wo_nil ?_
  refine wk_skip_seq ?_
  refine wk_seq ?_
  refine wk_seq ?_
  refine wk_region ?_
  refine wm (.int .i64 (Int.tmod n m)) rfl rfl rfl ?_
  refine wo_val (v := (.bool (decide (Int.tmod n m < 0)))) (ap_cmp rfl rfl rfl rfl) rfl rfl ?_
  refine wo_nil ?_
  refine wk_skip_seq ?_
  refine wk_cond (v := (decide (Int.tmod n m < 0))) rfl rfl (fun c1b => ?_) (fun c1b => ?_)
  · have c1 := c1b
    try simp only [BS] at c1
    refine wk_region ?_
    refine wm (.int .i64 (Int.tmod n m)) rfl rfl rfl ?_
    refine wm (.int .i64 m) rfl rfl rfl ?_
    refine wo_val (v := (.int .i64 ((Int.tmod n m) + m))) (ap_add rfl rfl (w_i64 (n := (Int.tmod n m) + m) (by omega))) rfl rfl ?_
    refine wa (.int .i64 ((Int.tmod n m) + m)) rfl rfl rfl ?_
    refine wo_nil ?_
    refine wk_skip_seq ?_
    refine wk_seq ?_
    refine wk_region ?_
    refine wm (.int .i64 ((Int.tmod n m) + m)) rfl rfl rfl ?_
    refine wa (.int .i64 ((Int.tmod n m) + m)) rfl rfl rfl ?_
    refine wo_nil ?_
    refine wk_skip_seq ?_
    refine wk_ret ⟨.inr rfl, _, rfl, (Int.tmod n m) + m, rfl, rfl, (by simp only [pickV]; first | rw [c1b]; rfl | simp only [c1b, cond_true, cond_false]), (by omega)⟩
  · have c1 := c1b
    try simp only [BS] at c1
    refine wk_skip_seq ?_
    refine wk_seq ?_
    refine wk_region ?_
    refine wm (.int .i64 (Int.tmod n m)) rfl rfl rfl ?_
    refine wa (.int .i64 (Int.tmod n m)) rfl rfl rfl ?_
    refine wo_nil ?_
    refine wk_skip_seq ?_
    refine wk_ret ⟨.inr rfl, _, rfl, Int.tmod n m, rfl, rfl, (by simp only [pickV]; first | rw [c1b]; rfl | simp only [c1b, cond_true, cond_false]), (by omega)⟩

def edgesL : List Int := [0, 1, -1, 2, -9223372036854775808, 9223372036854775807, 4294967296, -2147483648, 63, 64]
def wordV (n raw : Int) : Int := bif decide (pickV n 24 < 10) then edgesL.getD (pickV n 24).toNat 0 else bif decide (pickV n 24 < 22) then pickV (Int.tdiv n 24) 17 - 6 else raw

theorem word_c (ex : FuncId) (n : Int) (raw : Int) {F : Fz} {H : Heap} {R : List Fp} (hs : HS (.of H []) F H [] R) (hn : in64 n) (hraw : in64 raw) : C Try.prog 0 (KX ex) 10 [(.int .i64 n), (.int .i64 raw)] H fun v H' => ∃ (r : Int) (F' : Fz), Fz.le F F' ∧ HS (.of H []) F' H' [] R ∧ v = .int .i64 r ∧ r = wordV n raw ∧ (in64 r) := by
  refine c_enter Try.func10 rfl rfl ?_
  refine wk_seq ?_
  refine wk_region ?_
  refine wa (.int .i64 0) rfl rfl rfl ?_
  refine wo_nil ?_
  refine wk_skip_seq ?_
  refine wk_seq ?_
  refine wk_region ?_
  refine wo_rs (rs_lit (α := Int) (ps := [(0, (.int .i64 0)), (1, (.int .i64 1)), (2, (.int .i64 (-1))), (3, (.int .i64 2)), (4, (.int .i64 (-9223372036854775808))), (5, (.int .i64 9223372036854775807)), (6, (.int .i64 4294967296)), (7, (.int .i64 (-2147483648))), (8, (.int .i64 63)), (9, (.int .i64 64))]) (cells := [(.int .i64 0), (.int .i64 1), (.int .i64 (-1)), (.int .i64 2), (.int .i64 (-9223372036854775808)), (.int .i64 9223372036854775807), (.int .i64 4294967296), (.int .i64 (-2147483648)), (.int .i64 63), (.int .i64 64)]) ([0, 1, (-1), 2, (-9223372036854775808), 9223372036854775807, 4294967296, (-2147483648), 63, 64] : List Int) hs rfl rfl rfl (by kernel_rfl) ⟨[(.int .i64 0)], [(.int .i64 1), (.int .i64 (-1)), (.int .i64 2), (.int .i64 (-9223372036854775808)), (.int .i64 9223372036854775807), (.int .i64 4294967296), (.int .i64 (-2147483648)), (.int .i64 63), (.int .i64 64)], rfl, ⟨rfl, by first | omega | (simp only [List.length_cons, List.length_nil] at *; omega)⟩, ⟨[(.int .i64 1)], [(.int .i64 (-1)), (.int .i64 2), (.int .i64 (-9223372036854775808)), (.int .i64 9223372036854775807), (.int .i64 4294967296), (.int .i64 (-2147483648)), (.int .i64 63), (.int .i64 64)], rfl, ⟨rfl, by first | omega | (simp only [List.length_cons, List.length_nil] at *; omega)⟩, ⟨[(.int .i64 (-1))], [(.int .i64 2), (.int .i64 (-9223372036854775808)), (.int .i64 9223372036854775807), (.int .i64 4294967296), (.int .i64 (-2147483648)), (.int .i64 63), (.int .i64 64)], rfl, ⟨rfl, by first | omega | (simp only [List.length_cons, List.length_nil] at *; omega)⟩, ⟨[(.int .i64 2)], [(.int .i64 (-9223372036854775808)), (.int .i64 9223372036854775807), (.int .i64 4294967296), (.int .i64 (-2147483648)), (.int .i64 63), (.int .i64 64)], rfl, ⟨rfl, by first | omega | (simp only [List.length_cons, List.length_nil] at *; omega)⟩, ⟨[(.int .i64 (-9223372036854775808))], [(.int .i64 9223372036854775807), (.int .i64 4294967296), (.int .i64 (-2147483648)), (.int .i64 63), (.int .i64 64)], rfl, ⟨rfl, by first | omega | (simp only [List.length_cons, List.length_nil] at *; omega)⟩, ⟨[(.int .i64 9223372036854775807)], [(.int .i64 4294967296), (.int .i64 (-2147483648)), (.int .i64 63), (.int .i64 64)], rfl, ⟨rfl, by first | omega | (simp only [List.length_cons, List.length_nil] at *; omega)⟩, ⟨[(.int .i64 4294967296)], [(.int .i64 (-2147483648)), (.int .i64 63), (.int .i64 64)], rfl, ⟨rfl, by first | omega | (simp only [List.length_cons, List.length_nil] at *; omega)⟩, ⟨[(.int .i64 (-2147483648))], [(.int .i64 63), (.int .i64 64)], rfl, ⟨rfl, by first | omega | (simp only [List.length_cons, List.length_nil] at *; omega)⟩, ⟨[(.int .i64 63)], [(.int .i64 64)], rfl, ⟨rfl, by first | omega | (simp only [List.length_cons, List.length_nil] at *; omega)⟩, ⟨[(.int .i64 64)], [], rfl, ⟨rfl, by first | omega | (simp only [List.length_cons, List.length_nil] at *; omega)⟩, rfl⟩⟩⟩⟩⟩⟩⟩⟩⟩⟩ rfl) rfl rfl ?_
  rintro _ H2 p1 ⟨a1, k1, rfl, ho1, hs2, _⟩
  have hs2 : HS (Base.of H []) F H2 [p1] R := hs2
  refine wa (.slice a1 ([0, 1, (-1), 2, (-9223372036854775808), 9223372036854775807, 4294967296, (-2147483648), 63, 64] : List Int).length k1) rfl rfl rfl ?_
  refine wo_nil ?_
  refine wk_skip_seq ?_
  refine wk_seq ?_
  refine wk_region ?_
  refine wm (.int .i64 n) rfl rfl rfl ?_
  refine wo_call (ap_call rfl rfl rfl) rfl rfl (pick_c ex n (24) _ (by first | omega | (simp only [List.length_cons, List.length_nil] at *; omega))) ?_
  rintro _ H2 ⟨r3, rfl, rfl, rfl, h3⟩
  refine wa (.int .i64 (pickV n (24 : Int))) rfl rfl rfl ?_
  refine wo_nil ?_
  refine wk_skip_seq ?_
  refine wk_seq ?_
  refine wk_block ?_
  refine wk_seq ?_
  refine wk_region ?_
  refine wm (.int .i64 (pickV n (24 : Int))) rfl rfl rfl ?_
  refine wo_val (v := (.bool (decide (pickV n (24 : Int) < 10)))) (ap_cmp rfl rfl rfl rfl) rfl rfl ?_
  refine wa (.bool (decide (pickV n (24 : Int) < 10))) rfl rfl rfl ?_
  refine wo_nil ?_
  refine wk_skip_seq ?_
  refine wk_cond (v := (decide (pickV n (24 : Int) < 10))) rfl rfl (fun c4b => ?_) (fun c4b => ?_)
  · have c4 := c4b
    try simp only [BS] at c4
    refine wk_seq ?_
    refine wk_region ?_
    refine wm (.slice a1 ([0, 1, (-1), 2, (-9223372036854775808), 9223372036854775807, 4294967296, (-2147483648), 63, 64] : List Int).length k1) rfl rfl rfl ?_
    refine wm (.int .i64 (pickV n (24 : Int))) rfl rfl rfl ?_
    refine wo_val (v := (.pointer (some ⟨sB (.slice a1 ([0, 1, (-1), 2, (-9223372036854775808), 9223372036854775807, 4294967296, (-2147483648), 63, 64] : List Int).length k1), sO (.slice a1 ([0, 1, (-1), 2, (-9223372036854775808), 9223372036854775807, 4294967296, (-2147483648), 63, 64] : List Int).length k1) + ((pickV n (24 : Int)).toNat) * Rp.sz Int, none⟩))) (ap_idxV (α := Int) (j := pickV n (24 : Int)) rfl rfl rfl rfl (OS.sv ho1 hs2 (i := 0) rfl) (by first | omega | (simp only [List.length_cons, List.length_nil] at *; omega)) (by first | omega | (simp only [List.length_cons, List.length_nil] at *; omega))) rfl rfl ?_
    obtain ⟨cs5, hr5, hc5⟩ := Sv.at (OS.sv ho1 hs2 (i := 0) rfl) (getD_at (x := (0 : Int)) (show (pickV n (24 : Int)).toNat < ([0, 1, (-1), 2, (-9223372036854775808), 9223372036854775807, 4294967296, (-2147483648), 63, 64] : List Int).length from by first | omega | (simp only [List.length_cons, List.length_nil] at *; omega)))
    obtain ⟨rfl, g6_0⟩ := hr5
    refine wo_val (v := (.int .i64 (([0, 1, (-1), 2, (-9223372036854775808), 9223372036854775807, 4294967296, (-2147483648), 63, 64] : List Int).getD ((pickV n (24 : Int)).toNat) 0))) (ap_ld1 (i := 0) rfl rfl hc5 rfl rfl) rfl rfl ?_
    refine wa (.int .i64 (([0, 1, (-1), 2, (-9223372036854775808), 9223372036854775807, 4294967296, (-2147483648), 63, 64] : List Int).getD ((pickV n (24 : Int)).toNat) 0)) rfl rfl rfl ?_
    refine wo_nil ?_
    refine wk_skip_seq ?_
    refine wk_ret ⟨.inr rfl, _, rfl, (([0, 1, (-1), 2, (-9223372036854775808), 9223372036854775807, 4294967296, (-2147483648), 63, 64] : List Int).getD ((pickV n (24 : Int)).toNat) 0), _, (Fz.le_refl _), (HS.forget hs2), rfl, (by simp only [wordV, c4b, cond_true, cond_false]; try rfl), (by first | assumption | omega)⟩
  · have c4 := c4b
    try simp only [BS] at c4
    refine wk_seq ?_
    refine wk_region ?_
    refine wm (.int .i64 (pickV n (24 : Int))) rfl rfl rfl ?_
    refine wo_val (v := (.bool (decide (pickV n (24 : Int) < 22)))) (ap_cmp rfl rfl rfl rfl) rfl rfl ?_
    refine wa (.bool (decide (pickV n (24 : Int) < 22))) rfl rfl rfl ?_
    refine wo_nil ?_
    refine wk_skip_seq ?_
    refine wk_cond (v := (decide (pickV n (24 : Int) < 22))) rfl rfl (fun c7b => ?_) (fun c7b => ?_)
    · have c7 := c7b
      try simp only [BS] at c7
      refine wk_seq ?_
      refine wk_region ?_
      refine wm (.int .i64 n) rfl rfl rfl ?_
      refine wo_val (v := (.int .i64 (Int.tdiv n 24))) (ap_div rfl rfl (by decide) (w_tdiv (by first | omega | (simp only [List.length_cons, List.length_nil] at *; omega)) (by decide))) rfl rfl ?_
      refine wo_call (ap_call rfl rfl rfl) rfl rfl (pick_c ex (Int.tdiv n 24) (17) _ (by first | omega | (simp only [List.length_cons, List.length_nil] at *; omega))) ?_
      rintro _ H2 ⟨r8, rfl, rfl, rfl, h8⟩
      refine wo_val (v := (.int .i64 ((pickV (Int.tdiv n 24) (17 : Int)) - 6))) (ap_sub rfl rfl (w_i64 (n := (pickV (Int.tdiv n 24) (17 : Int)) - 6) (by first | omega | (simp only [List.length_cons, List.length_nil] at *; omega)))) rfl rfl ?_
      refine wa (.int .i64 ((pickV (Int.tdiv n 24) (17 : Int)) - 6)) rfl rfl rfl ?_
      refine wo_nil ?_
      refine wk_skip_seq ?_
      refine wk_ret ⟨.inr rfl, _, rfl, (pickV (Int.tdiv n 24) (17 : Int)) - 6, _, (Fz.le_refl _), (HS.forget hs2), rfl, (by simp only [wordV, c4b, c7b, cond_true, cond_false]; try rfl), (by first | assumption | omega)⟩
    · have c7 := c7b
      try simp only [BS] at c7
      refine wk_skip_block ?_
      refine wk_skip_seq ?_
      refine wk_seq ?_
      refine wk_region ?_
      refine wm (.int .i64 raw) rfl rfl rfl ?_
      refine wa (.int .i64 raw) rfl rfl rfl ?_
      refine wo_nil ?_
      refine wk_skip_seq ?_
      refine wk_ret ⟨.inr rfl, _, rfl, raw, _, (Fz.le_refl _), (HS.forget hs2), rfl, (by simp only [wordV, c4b, c7b, cond_true, cond_false]; try rfl), (by first | assumption | omega)⟩

theorem truth_c (ex : FuncId) (b : Bool) (H : Heap) : C Try.prog 0 (KX ex) 28 [(.bool b)] H fun v H' => ∃ (r : Int), H' = H ∧ v = .int .i64 r ∧ r = truthV b := by
  refine c_enter Try.func28 rfl rfl ?_
  refine wk_seq ?_
  refine wk_region ?_
  refine wa (.int .i64 0) rfl rfl rfl ?_
  refine wo_nil ?_
  refine wk_skip_seq ?_
  refine wk_seq ?_
  refine wk_seq ?_
  refine wk_region ?_
  refine wm (.bool b) rfl rfl rfl ?_
  refine wo_nil ?_
  refine wk_skip_seq ?_
  refine wk_cond (v := b) rfl rfl (fun c1b => ?_) (fun c1b => ?_)
  · have c1 := c1b
    try simp only [BS] at c1
    refine wk_seq ?_
    refine wk_region ?_
    refine wa (.int .i64 1) rfl rfl rfl ?_
    refine wo_nil ?_
    refine wk_skip_seq ?_
    refine wk_ret ⟨.inr rfl, _, rfl, 1, rfl, rfl, (by simp only [truthV, c1b]; rfl)⟩
  · have c1 := c1b
    try simp only [BS] at c1
    refine wk_skip_seq ?_
    refine wk_seq ?_
    refine wk_region ?_
    refine wa (.int .i64 0) rfl rfl rfl ?_
    refine wo_nil ?_
    refine wk_skip_seq ?_
    refine wk_ret ⟨.inr rfl, _, rfl, 0, rfl, rfl, (by simp only [truthV, c1b]; rfl)⟩

theorem quo_c (ex : FuncId) (a : Int) (b : Int) (H : Heap) : C Try.prog 0 (KX ex) 21 [(.int .i64 a), (.int .i64 b)] H fun v H' => ∃ (r : Int), H' = H ∧ v = .int .i64 r ∧ r = quoV a b := by
  refine c_enter Try.func21 rfl rfl ?_
  refine wk_seq ?_
  refine wk_region ?_
  refine wa (.int .i64 0) rfl rfl rfl ?_
  refine wo_nil ?_
  refine wk_skip_seq ?_
  refine wk_seq ?_
  refine wk_seq ?_
  refine wk_region ?_
  refine wm (.int .i64 b) rfl rfl rfl ?_
  refine wo_nil ?_
  refine wk_skip_seq ?_
  refine wk_block ?_
  refine wk_seq ?_
  refine wk_region ?_
  refine wo_val (v := (.bool (b == 0))) (ap_cmp rfl rfl rfl rfl) rfl rfl ?_
  refine wa (.bool (b == 0)) rfl rfl rfl ?_
  refine wo_nil ?_
  refine wk_skip_seq ?_
  refine wk_cond (v := (b == 0)) rfl rfl (fun c1b => ?_) (fun c1b => ?_)
  · have c1 := c1b
    try simp only [BS] at c1
    refine wk_seq ?_
    refine wk_region ?_
    refine wa (.int .i64 0) rfl rfl rfl ?_
    refine wo_nil ?_
    refine wk_skip_seq ?_
    refine wk_ret ⟨.inr rfl, _, rfl, 0, rfl, rfl, (by simp only [quoV, c1b, cond_true, cond_false])⟩
  · have c1 := c1b
    try simp only [BS] at c1
    refine wk_seq ?_
    refine wk_region ?_
    refine wo_val (v := (.bool (b == (-1)))) (ap_cmp rfl rfl rfl rfl) rfl rfl ?_
    refine wa (.bool (b == (-1))) rfl rfl rfl ?_
    refine wo_nil ?_
    refine wk_skip_seq ?_
    refine wk_cond (v := (b == (-1))) rfl rfl (fun c2b => ?_) (fun c2b => ?_)
    · have c2 := c2b
      try simp only [BS] at c2
      refine wk_seq ?_
      refine wk_region ?_
      refine wm (.int .i64 a) rfl rfl rfl ?_
      refine wo_val (v := (.int .i64 (IntKind.i64.wrap (0 - a)))) (ap_ng rfl rfl) rfl rfl ?_
      refine wa (.int .i64 (IntKind.i64.wrap (0 - a))) rfl rfl rfl ?_
      refine wo_nil ?_
      refine wk_skip_seq ?_
      refine wk_ret ⟨.inr rfl, _, rfl, IntKind.i64.wrap (0 - a), rfl, rfl, (by simp only [quoV, c1b, c2b, cond_true, cond_false])⟩
    · have c2 := c2b
      try simp only [BS] at c2
      refine wk_skip_block ?_
      refine wk_skip_seq ?_
      refine wk_seq ?_
      refine wk_region ?_
      refine wm (.int .i64 a) rfl rfl rfl ?_
      refine wm (.int .i64 b) rfl rfl rfl ?_
      refine wo_val (v := (.int .i64 (IntKind.i64.wrap (Int.tdiv a b)))) (ap_div rfl rfl (by first | assumption | omega) rfl) rfl rfl ?_
      refine wa (.int .i64 (IntKind.i64.wrap (Int.tdiv a b))) rfl rfl rfl ?_
      refine wo_nil ?_
      refine wk_skip_seq ?_
      refine wk_ret ⟨.inr rfl, _, rfl, IntKind.i64.wrap (Int.tdiv a b), rfl, rfl, (by simp only [quoV, c1b, c2b, cond_true, cond_false])⟩

theorem sho_c (ex : FuncId) (op : Int) (a : Int) (b : Int) (H : Heap) : C Try.prog 0 (KX ex) 22 [(.int .i64 op), (.int .i64 a), (.int .i64 b)] H fun v H' => ∃ (r : Int), H' = H ∧ v = .int .i64 r ∧ r = shcV op a b := by
  refine c_enter Try.func22 rfl rfl ?_
  refine wk_seq ?_
  refine wk_region ?_
  refine wa (.int .i64 0) rfl rfl rfl ?_
  refine wo_nil ?_
  refine wk_skip_seq ?_
  refine wk_seq ?_
  refine wk_region ?_
  refine wm (.int .i64 b) rfl rfl rfl ?_
  refine wo_val (v := (.int .i64 (bitsOf .and .i64 b 63))) (ap_int rfl rfl rfl) rfl rfl ?_
  refine wo_val (v := (.int .u64 (IntKind.u64.wrap (bitsOf .and .i64 b 63)))) (ap_cv rfl rfl rfl rfl) rfl rfl ?_
  refine wa (.int .u64 (IntKind.u64.wrap (bitsOf .and .i64 b 63))) rfl rfl rfl ?_
  refine wo_nil ?_
  refine wk_skip_seq ?_
  refine wk_seq ?_
  refine wk_seq ?_
  refine wk_region ?_
  refine wm (.int .i64 op) rfl rfl rfl ?_
  refine wo_nil ?_
  refine wk_skip_seq ?_
  refine wk_block ?_
  refine wk_seq ?_
  refine wk_region ?_
  refine wo_val (v := (.bool (op == 12))) (ap_cmp rfl rfl rfl rfl) rfl rfl ?_
  refine wa (.bool (op == 12)) rfl rfl rfl ?_
  refine wo_nil ?_
  refine wk_skip_seq ?_
  refine wk_cond (v := (op == 12)) rfl rfl (fun c1b => ?_) (fun c1b => ?_)
  · have c1 := c1b
    try simp only [BS] at c1
    refine wk_seq ?_
    refine wk_region ?_
    refine wm (.int .i64 a) rfl rfl rfl ?_
    refine wm (.int .u64 (IntKind.u64.wrap (bitsOf .and .i64 b 63))) rfl rfl rfl ?_
    refine wo_val (v := (.int .i64 (IntKind.i64.wrap (a * 2 ^ (Nat.min (IntKind.u64.wrap (bitsOf .and .i64 b 63)).toNat 64))))) (ap_shl rfl rfl (by exact byV_nn b)) rfl rfl ?_
    refine wa (.int .i64 (IntKind.i64.wrap (a * 2 ^ (Nat.min (IntKind.u64.wrap (bitsOf .and .i64 b 63)).toNat 64)))) rfl rfl rfl ?_
    refine wo_nil ?_
    refine wk_skip_seq ?_
    refine wk_ret ⟨.inr rfl, _, rfl, IntKind.i64.wrap (a * 2 ^ (Nat.min (IntKind.u64.wrap (bitsOf .and .i64 b 63)).toNat 64)), rfl, rfl, (by simp only [shcV, byV, c1b, cond_true, cond_false])⟩
  · have c1 := c1b
    try simp only [BS] at c1
    refine wk_seq ?_
    refine wk_region ?_
    refine wo_val (v := (.bool (op == 13))) (ap_cmp rfl rfl rfl rfl) rfl rfl ?_
    refine wa (.bool (op == 13)) rfl rfl rfl ?_
    refine wo_nil ?_
    refine wk_skip_seq ?_
    refine wk_cond (v := (op == 13)) rfl rfl (fun c2b => ?_) (fun c2b => ?_)
    · have c2 := c2b
      try simp only [BS] at c2
      refine wk_seq ?_
      refine wk_region ?_
      refine wm (.int .i64 a) rfl rfl rfl ?_
      refine wo_val (v := (.int .u64 (IntKind.u64.wrap a))) (ap_cv rfl rfl rfl rfl) rfl rfl ?_
      refine wm (.int .u64 (IntKind.u64.wrap (bitsOf .and .i64 b 63))) rfl rfl rfl ?_
      refine wo_val (v := (.int .u64 (Int.fdiv (IntKind.u64.wrap a) (2 ^ (Nat.min (IntKind.u64.wrap (bitsOf .and .i64 b 63)).toNat 64))))) (ap_shr rfl rfl (by exact byV_nn b)) rfl rfl ?_
      refine wo_val (v := (.int .i64 (IntKind.i64.wrap (Int.fdiv (IntKind.u64.wrap a) (2 ^ (Nat.min (IntKind.u64.wrap (bitsOf .and .i64 b 63)).toNat 64)))))) (ap_cv rfl rfl rfl rfl) rfl rfl ?_
      refine wa (.int .i64 (IntKind.i64.wrap (Int.fdiv (IntKind.u64.wrap a) (2 ^ (Nat.min (IntKind.u64.wrap (bitsOf .and .i64 b 63)).toNat 64))))) rfl rfl rfl ?_
      refine wo_nil ?_
      refine wk_skip_seq ?_
      refine wk_ret ⟨.inr rfl, _, rfl, IntKind.i64.wrap (Int.fdiv (IntKind.u64.wrap a) (2 ^ (Nat.min (IntKind.u64.wrap (bitsOf .and .i64 b 63)).toNat 64))), rfl, rfl, (by simp only [shcV, byV, c1b, c2b, cond_true, cond_false])⟩
    · have c2 := c2b
      try simp only [BS] at c2
      refine wk_seq ?_
      refine wk_region ?_
      refine wo_val (v := (.bool (op == 14))) (ap_cmp rfl rfl rfl rfl) rfl rfl ?_
      refine wa (.bool (op == 14)) rfl rfl rfl ?_
      refine wo_nil ?_
      refine wk_skip_seq ?_
      refine wk_cond (v := (op == 14)) rfl rfl (fun c3b => ?_) (fun c3b => ?_)
      · have c3 := c3b
        try simp only [BS] at c3
        refine wk_seq ?_
        refine wk_region ?_
        refine wm (.int .i64 a) rfl rfl rfl ?_
        refine wm (.int .u64 (IntKind.u64.wrap (bitsOf .and .i64 b 63))) rfl rfl rfl ?_
        refine wo_val (v := (.int .i64 (Int.fdiv a (2 ^ (Nat.min (IntKind.u64.wrap (bitsOf .and .i64 b 63)).toNat 64))))) (ap_shr rfl rfl (by exact byV_nn b)) rfl rfl ?_
        refine wa (.int .i64 (Int.fdiv a (2 ^ (Nat.min (IntKind.u64.wrap (bitsOf .and .i64 b 63)).toNat 64)))) rfl rfl rfl ?_
        refine wo_nil ?_
        refine wk_skip_seq ?_
        refine wk_ret ⟨.inr rfl, _, rfl, Int.fdiv a (2 ^ (Nat.min (IntKind.u64.wrap (bitsOf .and .i64 b 63)).toNat 64)), rfl, rfl, (by simp only [shcV, byV, c1b, c2b, c3b, cond_true, cond_false])⟩
      · have c3 := c3b
        try simp only [BS] at c3
        refine wk_seq ?_
        refine wk_region ?_
        refine wo_val (v := (.bool (op == 15))) (ap_cmp rfl rfl rfl rfl) rfl rfl ?_
        refine wa (.bool (op == 15)) rfl rfl rfl ?_
        refine wo_nil ?_
        refine wk_skip_seq ?_
        refine wk_cond (v := (op == 15)) rfl rfl (fun c4b => ?_) (fun c4b => ?_)
        · have c4 := c4b
          try simp only [BS] at c4
          refine wk_seq ?_
          refine wk_region ?_
          refine wm (.int .i64 a) rfl rfl rfl ?_
          refine wm (.int .i64 b) rfl rfl rfl ?_
          refine wo_val (v := (.bool (a == b))) (ap_cmp rfl rfl rfl rfl) rfl rfl ?_
          refine wo_call (ap_call rfl rfl rfl) rfl rfl (truth_c ex (a == b) _) ?_
          rintro _ H ⟨r5, rfl, rfl, rfl⟩
          refine wa (.int .i64 (truthV (a == b))) rfl rfl rfl ?_
          refine wo_nil ?_
          refine wk_skip_seq ?_
          refine wk_ret ⟨.inr rfl, _, rfl, truthV (a == b), rfl, rfl, (by simp only [shcV, byV, c1b, c2b, c3b, c4b, cond_true, cond_false])⟩
        · have c4 := c4b
          try simp only [BS] at c4
          refine wk_seq ?_
          refine wk_region ?_
          refine wo_val (v := (.bool (op == 16))) (ap_cmp rfl rfl rfl rfl) rfl rfl ?_
          refine wa (.bool (op == 16)) rfl rfl rfl ?_
          refine wo_nil ?_
          refine wk_skip_seq ?_
          refine wk_cond (v := (op == 16)) rfl rfl (fun c6b => ?_) (fun c6b => ?_)
          · have c6 := c6b
            try simp only [BS] at c6
            refine wk_seq ?_
            refine wk_region ?_
            refine wm (.int .i64 a) rfl rfl rfl ?_
            refine wm (.int .i64 b) rfl rfl rfl ?_
            refine wo_val (v := (.bool (a != b))) (ap_cmp rfl rfl rfl rfl) rfl rfl ?_
            refine wo_call (ap_call rfl rfl rfl) rfl rfl (truth_c ex (a != b) _) ?_
            rintro _ H ⟨r7, rfl, rfl, rfl⟩
            refine wa (.int .i64 (truthV (a != b))) rfl rfl rfl ?_
            refine wo_nil ?_
            refine wk_skip_seq ?_
            refine wk_ret ⟨.inr rfl, _, rfl, truthV (a != b), rfl, rfl, (by simp only [shcV, byV, c1b, c2b, c3b, c4b, c6b, cond_true, cond_false])⟩
          · have c6 := c6b
            try simp only [BS] at c6
            refine wk_seq ?_
            refine wk_region ?_
            refine wo_val (v := (.bool (op == 17))) (ap_cmp rfl rfl rfl rfl) rfl rfl ?_
            refine wa (.bool (op == 17)) rfl rfl rfl ?_
            refine wo_nil ?_
            refine wk_skip_seq ?_
            refine wk_cond (v := (op == 17)) rfl rfl (fun c8b => ?_) (fun c8b => ?_)
            · have c8 := c8b
              try simp only [BS] at c8
              refine wk_seq ?_
              refine wk_region ?_
              refine wm (.int .i64 a) rfl rfl rfl ?_
              refine wm (.int .i64 b) rfl rfl rfl ?_
              refine wo_val (v := (.bool (decide (a < b)))) (ap_cmp rfl rfl rfl rfl) rfl rfl ?_
              refine wo_call (ap_call rfl rfl rfl) rfl rfl (truth_c ex (decide (a < b)) _) ?_
              rintro _ H ⟨r9, rfl, rfl, rfl⟩
              refine wa (.int .i64 (truthV (decide (a < b)))) rfl rfl rfl ?_
              refine wo_nil ?_
              refine wk_skip_seq ?_
              refine wk_ret ⟨.inr rfl, _, rfl, truthV (decide (a < b)), rfl, rfl, (by simp only [shcV, byV, c1b, c2b, c3b, c4b, c6b, c8b, cond_true, cond_false])⟩
            · have c8 := c8b
              try simp only [BS] at c8
              refine wk_seq ?_
              refine wk_region ?_
              refine wo_val (v := (.bool (op == 18))) (ap_cmp rfl rfl rfl rfl) rfl rfl ?_
              refine wa (.bool (op == 18)) rfl rfl rfl ?_
              refine wo_nil ?_
              refine wk_skip_seq ?_
              refine wk_cond (v := (op == 18)) rfl rfl (fun c10b => ?_) (fun c10b => ?_)
              · have c10 := c10b
                try simp only [BS] at c10
                refine wk_seq ?_
                refine wk_region ?_
                refine wm (.int .i64 a) rfl rfl rfl ?_
                refine wm (.int .i64 b) rfl rfl rfl ?_
                refine wo_val (v := (.bool (decide (a ≤ b)))) (ap_cmp rfl rfl rfl rfl) rfl rfl ?_
                refine wo_call (ap_call rfl rfl rfl) rfl rfl (truth_c ex (decide (a ≤ b)) _) ?_
                rintro _ H ⟨r11, rfl, rfl, rfl⟩
                refine wa (.int .i64 (truthV (decide (a ≤ b)))) rfl rfl rfl ?_
                refine wo_nil ?_
                refine wk_skip_seq ?_
                refine wk_ret ⟨.inr rfl, _, rfl, truthV (decide (a ≤ b)), rfl, rfl, (by simp only [shcV, byV, c1b, c2b, c3b, c4b, c6b, c8b, c10b, cond_true, cond_false])⟩
              · have c10 := c10b
                try simp only [BS] at c10
                refine wk_seq ?_
                refine wk_region ?_
                refine wo_val (v := (.bool (op == 19))) (ap_cmp rfl rfl rfl rfl) rfl rfl ?_
                refine wa (.bool (op == 19)) rfl rfl rfl ?_
                refine wo_nil ?_
                refine wk_skip_seq ?_
                refine wk_cond (v := (op == 19)) rfl rfl (fun c12b => ?_) (fun c12b => ?_)
                · have c12 := c12b
                  try simp only [BS] at c12
                  refine wk_seq ?_
                  refine wk_region ?_
                  refine wm (.int .i64 a) rfl rfl rfl ?_
                  refine wo_val (v := (.int .u64 (IntKind.u64.wrap a))) (ap_cv rfl rfl rfl rfl) rfl rfl ?_
                  refine wm (.int .i64 b) rfl rfl rfl ?_
                  refine wo_val (v := (.int .u64 (IntKind.u64.wrap b))) (ap_cv rfl rfl rfl rfl) rfl rfl ?_
                  refine wo_val (v := (.bool (decide (IntKind.u64.wrap a < IntKind.u64.wrap b)))) (ap_cmp rfl rfl rfl rfl) rfl rfl ?_
                  refine wo_call (ap_call rfl rfl rfl) rfl rfl (truth_c ex (decide (IntKind.u64.wrap a < IntKind.u64.wrap b)) _) ?_
                  rintro _ H ⟨r13, rfl, rfl, rfl⟩
                  refine wa (.int .i64 (truthV (decide (IntKind.u64.wrap a < IntKind.u64.wrap b)))) rfl rfl rfl ?_
                  refine wo_nil ?_
                  refine wk_skip_seq ?_
                  refine wk_ret ⟨.inr rfl, _, rfl, truthV (decide (IntKind.u64.wrap a < IntKind.u64.wrap b)), rfl, rfl, (by simp only [shcV, byV, c1b, c2b, c3b, c4b, c6b, c8b, c10b, c12b, cond_true, cond_false])⟩
                · have c12 := c12b
                  try simp only [BS] at c12
                  refine wk_skip_block ?_
                  refine wk_skip_seq ?_
                  refine wk_seq ?_
                  refine wk_region ?_
                  refine wa (.int .i64 0) rfl rfl rfl ?_
                  refine wo_nil ?_
                  refine wk_skip_seq ?_
                  refine wk_ret ⟨.inr rfl, _, rfl, 0, rfl, rfl, (by simp only [shcV, byV, c1b, c2b, c3b, c4b, c6b, c8b, c10b, c12b, cond_true, cond_false])⟩

theorem bin_c (ex : FuncId) (op : Int) (a : Int) (b : Int) (H : Heap) : C Try.prog 0 (KX ex) 11 [(.int .i64 op), (.int .i64 a), (.int .i64 b)] H fun v H' => ∃ (r : Int), H' = H ∧ v = .int .i64 r ∧ r = binV op a b := by
  refine c_enter Try.func11 rfl rfl ?_
  refine wk_seq ?_
  refine wk_region ?_
  refine wa (.int .i64 0) rfl rfl rfl ?_
  refine wo_nil ?_
  refine wk_skip_seq ?_
  refine wk_seq ?_
  refine wk_seq ?_
  refine wk_region ?_
  refine wm (.int .i64 op) rfl rfl rfl ?_
  refine wo_nil ?_
  refine wk_skip_seq ?_
  refine wk_block ?_
  refine wk_seq ?_
  refine wk_region ?_
  refine wo_val (v := (.bool (op == 4))) (ap_cmp rfl rfl rfl rfl) rfl rfl ?_
  refine wa (.bool (op == 4)) rfl rfl rfl ?_
  refine wo_nil ?_
  refine wk_skip_seq ?_
  refine wk_cond (v := (op == 4)) rfl rfl (fun c1b => ?_) (fun c1b => ?_)
  · have c1 := c1b
    try simp only [BS] at c1
    refine wk_seq ?_
    refine wk_region ?_
    refine wm (.int .i64 a) rfl rfl rfl ?_
    refine wm (.int .i64 b) rfl rfl rfl ?_
    refine wo_val (v := (.int .i64 (IntKind.i64.wrap (a + b)))) (ap_add rfl rfl rfl) rfl rfl ?_
    refine wa (.int .i64 (IntKind.i64.wrap (a + b))) rfl rfl rfl ?_
    refine wo_nil ?_
    refine wk_skip_seq ?_
    refine wk_ret ⟨.inr rfl, _, rfl, IntKind.i64.wrap (a + b), rfl, rfl, (by simp only [binV, c1b, cond_true, cond_false])⟩
  · have c1 := c1b
    try simp only [BS] at c1
    refine wk_seq ?_
    refine wk_region ?_
    refine wo_val (v := (.bool (op == 5))) (ap_cmp rfl rfl rfl rfl) rfl rfl ?_
    refine wa (.bool (op == 5)) rfl rfl rfl ?_
    refine wo_nil ?_
    refine wk_skip_seq ?_
    refine wk_cond (v := (op == 5)) rfl rfl (fun c2b => ?_) (fun c2b => ?_)
    · have c2 := c2b
      try simp only [BS] at c2
      refine wk_seq ?_
      refine wk_region ?_
      refine wm (.int .i64 a) rfl rfl rfl ?_
      refine wm (.int .i64 b) rfl rfl rfl ?_
      refine wo_val (v := (.int .i64 (IntKind.i64.wrap (a - b)))) (ap_sub rfl rfl rfl) rfl rfl ?_
      refine wa (.int .i64 (IntKind.i64.wrap (a - b))) rfl rfl rfl ?_
      refine wo_nil ?_
      refine wk_skip_seq ?_
      refine wk_ret ⟨.inr rfl, _, rfl, IntKind.i64.wrap (a - b), rfl, rfl, (by simp only [binV, c1b, c2b, cond_true, cond_false])⟩
    · have c2 := c2b
      try simp only [BS] at c2
      refine wk_seq ?_
      refine wk_region ?_
      refine wo_val (v := (.bool (op == 6))) (ap_cmp rfl rfl rfl rfl) rfl rfl ?_
      refine wa (.bool (op == 6)) rfl rfl rfl ?_
      refine wo_nil ?_
      refine wk_skip_seq ?_
      refine wk_cond (v := (op == 6)) rfl rfl (fun c3b => ?_) (fun c3b => ?_)
      · have c3 := c3b
        try simp only [BS] at c3
        refine wk_seq ?_
        refine wk_region ?_
        refine wm (.int .i64 a) rfl rfl rfl ?_
        refine wm (.int .i64 b) rfl rfl rfl ?_
        refine wo_val (v := (.int .i64 (IntKind.i64.wrap (a * b)))) (ap_mul rfl rfl rfl) rfl rfl ?_
        refine wa (.int .i64 (IntKind.i64.wrap (a * b))) rfl rfl rfl ?_
        refine wo_nil ?_
        refine wk_skip_seq ?_
        refine wk_ret ⟨.inr rfl, _, rfl, IntKind.i64.wrap (a * b), rfl, rfl, (by simp only [binV, c1b, c2b, c3b, cond_true, cond_false])⟩
      · have c3 := c3b
        try simp only [BS] at c3
        refine wk_seq ?_
        refine wk_region ?_
        refine wo_val (v := (.bool (op == 7))) (ap_cmp rfl rfl rfl rfl) rfl rfl ?_
        refine wa (.bool (op == 7)) rfl rfl rfl ?_
        refine wo_nil ?_
        refine wk_skip_seq ?_
        refine wk_cond (v := (op == 7)) rfl rfl (fun c4b => ?_) (fun c4b => ?_)
        · have c4 := c4b
          try simp only [BS] at c4
          refine wk_seq ?_
          refine wk_region ?_
          refine wm (.int .i64 a) rfl rfl rfl ?_
          refine wm (.int .i64 b) rfl rfl rfl ?_
          refine wo_call (ap_call rfl rfl rfl) rfl rfl (quo_c ex a b _) ?_
          rintro _ H ⟨r5, rfl, rfl, rfl⟩
          refine wa (.int .i64 (quoV a b)) rfl rfl rfl ?_
          refine wo_nil ?_
          refine wk_skip_seq ?_
          refine wk_ret ⟨.inr rfl, _, rfl, quoV a b, rfl, rfl, (by simp only [binV, c1b, c2b, c3b, c4b, cond_true, cond_false])⟩
        · have c4 := c4b
          try simp only [BS] at c4
          refine wk_seq ?_
          refine wk_region ?_
          refine wo_val (v := (.bool (op == 8))) (ap_cmp rfl rfl rfl rfl) rfl rfl ?_
          refine wa (.bool (op == 8)) rfl rfl rfl ?_
          refine wo_nil ?_
          refine wk_skip_seq ?_
          refine wk_cond (v := (op == 8)) rfl rfl (fun c6b => ?_) (fun c6b => ?_)
          · have c6 := c6b
            try simp only [BS] at c6
            refine wk_seq ?_
            refine wk_seq ?_
            refine wk_region ?_
            refine wm (.int .i64 b) rfl rfl rfl ?_
            refine wo_val (v := (.bool (b == 0))) (ap_cmp rfl rfl rfl rfl) rfl rfl ?_
            refine wo_nil ?_
            refine wk_skip_seq ?_
            refine wk_cond (v := (b == 0)) rfl rfl (fun c7b => ?_) (fun c7b => ?_)
            · have c7 := c7b
              try simp only [BS] at c7
              refine wk_seq ?_
              refine wk_region ?_
              refine wa (.int .i64 0) rfl rfl rfl ?_
              refine wo_nil ?_
              refine wk_skip_seq ?_
              refine wk_ret ⟨.inr rfl, _, rfl, 0, rfl, rfl, (by simp only [binV, c1b, c2b, c3b, c4b, c6b, c7b, cond_true, cond_false])⟩
            · have c7 := c7b
              try simp only [BS] at c7
              refine wk_skip_seq ?_
              refine wk_seq ?_
              refine wk_region ?_
              refine wm (.int .i64 a) rfl rfl rfl ?_
              refine wm (.int .i64 a) rfl rfl rfl ?_
              refine wm (.int .i64 b) rfl rfl rfl ?_
              refine wo_call (ap_call rfl rfl rfl) rfl rfl (quo_c ex a b _) ?_
              rintro _ H ⟨r8, rfl, rfl, rfl⟩
              refine wm (.int .i64 b) rfl rfl rfl ?_
              refine wo_val (v := (.int .i64 (IntKind.i64.wrap ((quoV a b) * b)))) (ap_mul rfl rfl rfl) rfl rfl ?_
              refine wo_val (v := (.int .i64 (IntKind.i64.wrap (a - (IntKind.i64.wrap ((quoV a b) * b)))))) (ap_sub rfl rfl rfl) rfl rfl ?_
              refine wa (.int .i64 (IntKind.i64.wrap (a - (IntKind.i64.wrap ((quoV a b) * b))))) rfl rfl rfl ?_
              refine wo_nil ?_
              refine wk_skip_seq ?_
              refine wk_ret ⟨.inr rfl, _, rfl, IntKind.i64.wrap (a - (IntKind.i64.wrap ((quoV a b) * b))), rfl, rfl, (by simp only [binV, c1b, c2b, c3b, c4b, c6b, c7b, cond_true, cond_false])⟩
          · have c6 := c6b
            try simp only [BS] at c6
            refine wk_seq ?_
            refine wk_region ?_
            refine wo_val (v := (.bool (op == 9))) (ap_cmp rfl rfl rfl rfl) rfl rfl ?_
            refine wa (.bool (op == 9)) rfl rfl rfl ?_
            refine wo_nil ?_
            refine wk_skip_seq ?_
            refine wk_cond (v := (op == 9)) rfl rfl (fun c9b => ?_) (fun c9b => ?_)
            · have c9 := c9b
              try simp only [BS] at c9
              refine wk_seq ?_
              refine wk_region ?_
              refine wm (.int .i64 a) rfl rfl rfl ?_
              refine wm (.int .i64 b) rfl rfl rfl ?_
              refine wo_val (v := (.int .i64 (bitsOf .and .i64 a b))) (ap_int rfl rfl rfl) rfl rfl ?_
              refine wa (.int .i64 (bitsOf .and .i64 a b)) rfl rfl rfl ?_
              refine wo_nil ?_
              refine wk_skip_seq ?_
              refine wk_ret ⟨.inr rfl, _, rfl, bitsOf .and .i64 a b, rfl, rfl, (by simp only [binV, c1b, c2b, c3b, c4b, c6b, c9b, cond_true, cond_false])⟩
            · have c9 := c9b
              try simp only [BS] at c9
              refine wk_seq ?_
              refine wk_region ?_
              refine wo_val (v := (.bool (op == 10))) (ap_cmp rfl rfl rfl rfl) rfl rfl ?_
              refine wa (.bool (op == 10)) rfl rfl rfl ?_
              refine wo_nil ?_
              refine wk_skip_seq ?_
              refine wk_cond (v := (op == 10)) rfl rfl (fun c10b => ?_) (fun c10b => ?_)
              · have c10 := c10b
                try simp only [BS] at c10
                refine wk_seq ?_
                refine wk_region ?_
                refine wm (.int .i64 a) rfl rfl rfl ?_
                refine wm (.int .i64 b) rfl rfl rfl ?_
                refine wo_val (v := (.int .i64 (bitsOf .or .i64 a b))) (ap_int rfl rfl rfl) rfl rfl ?_
                refine wa (.int .i64 (bitsOf .or .i64 a b)) rfl rfl rfl ?_
                refine wo_nil ?_
                refine wk_skip_seq ?_
                refine wk_ret ⟨.inr rfl, _, rfl, bitsOf .or .i64 a b, rfl, rfl, (by simp only [binV, c1b, c2b, c3b, c4b, c6b, c9b, c10b, cond_true, cond_false])⟩
              · have c10 := c10b
                try simp only [BS] at c10
                refine wk_seq ?_
                refine wk_region ?_
                refine wo_val (v := (.bool (op == 11))) (ap_cmp rfl rfl rfl rfl) rfl rfl ?_
                refine wa (.bool (op == 11)) rfl rfl rfl ?_
                refine wo_nil ?_
                refine wk_skip_seq ?_
                refine wk_cond (v := (op == 11)) rfl rfl (fun c11b => ?_) (fun c11b => ?_)
                · have c11 := c11b
                  try simp only [BS] at c11
                  refine wk_seq ?_
                  refine wk_region ?_
                  refine wm (.int .i64 a) rfl rfl rfl ?_
                  refine wm (.int .i64 b) rfl rfl rfl ?_
                  refine wo_val (v := (.int .i64 (bitsOf .xor .i64 a b))) (ap_int rfl rfl rfl) rfl rfl ?_
                  refine wa (.int .i64 (bitsOf .xor .i64 a b)) rfl rfl rfl ?_
                  refine wo_nil ?_
                  refine wk_skip_seq ?_
                  refine wk_ret ⟨.inr rfl, _, rfl, bitsOf .xor .i64 a b, rfl, rfl, (by simp only [binV, c1b, c2b, c3b, c4b, c6b, c9b, c10b, c11b, cond_true, cond_false])⟩
                · have c11 := c11b
                  try simp only [BS] at c11
                  refine wk_skip_block ?_
                  refine wk_skip_seq ?_
                  refine wk_seq ?_
                  refine wk_region ?_
                  refine wm (.int .i64 op) rfl rfl rfl ?_
                  refine wm (.int .i64 a) rfl rfl rfl ?_
                  refine wm (.int .i64 b) rfl rfl rfl ?_
                  refine wo_call (ap_call rfl rfl rfl) rfl rfl (sho_c ex op a b _) ?_
                  rintro _ H ⟨r12, rfl, rfl, rfl⟩
                  refine wa (.int .i64 (shcV op a b)) rfl rfl rfl ?_
                  refine wo_nil ?_
                  refine wk_skip_seq ?_
                  refine wk_ret ⟨.inr rfl, _, rfl, shcV op a b, rfl, rfl, (by simp only [binV, c1b, c2b, c3b, c4b, c6b, c9b, c10b, c11b, cond_true, cond_false])⟩

theorem un_c (ex : FuncId) (op : Int) (a : Int) (H : Heap) : C Try.prog 0 (KX ex) 16 [(.int .i64 op), (.int .i64 a)] H fun v H' => ∃ (r : Int), H' = H ∧ v = .int .i64 r ∧ r = unV op a := by
  refine c_enter Try.func16 rfl rfl ?_
  refine wk_seq ?_
  refine wk_region ?_
  refine wa (.int .i64 0) rfl rfl rfl ?_
  refine wo_nil ?_
  refine wk_skip_seq ?_
  refine wk_seq ?_
  refine wk_seq ?_
  refine wk_region ?_
  refine wm (.int .i64 op) rfl rfl rfl ?_
  refine wo_nil ?_
  refine wk_skip_seq ?_
  refine wk_block ?_
  refine wk_seq ?_
  refine wk_region ?_
  refine wo_val (v := (.bool (op == 20))) (ap_cmp rfl rfl rfl rfl) rfl rfl ?_
  refine wa (.bool (op == 20)) rfl rfl rfl ?_
  refine wo_nil ?_
  refine wk_skip_seq ?_
  refine wk_cond (v := (op == 20)) rfl rfl (fun c1b => ?_) (fun c1b => ?_)
  · have c1 := c1b
    try simp only [BS] at c1
    refine wk_seq ?_
    refine wk_region ?_
    refine wm (.int .i64 a) rfl rfl rfl ?_
    refine wo_val (v := (.int .i64 (IntKind.i64.wrap (0 - a)))) (ap_ng rfl rfl) rfl rfl ?_
    refine wa (.int .i64 (IntKind.i64.wrap (0 - a))) rfl rfl rfl ?_
    refine wo_nil ?_
    refine wk_skip_seq ?_
    refine wk_ret ⟨.inr rfl, _, rfl, IntKind.i64.wrap (0 - a), rfl, rfl, (by simp only [unV, c1b, cond_true, cond_false])⟩
  · have c1 := c1b
    try simp only [BS] at c1
    refine wk_seq ?_
    refine wk_region ?_
    refine wo_val (v := (.bool (op == 21))) (ap_cmp rfl rfl rfl rfl) rfl rfl ?_
    refine wa (.bool (op == 21)) rfl rfl rfl ?_
    refine wo_nil ?_
    refine wk_skip_seq ?_
    refine wk_cond (v := (op == 21)) rfl rfl (fun c2b => ?_) (fun c2b => ?_)
    · have c2 := c2b
      try simp only [BS] at c2
      refine wk_seq ?_
      refine wk_region ?_
      refine wm (.int .i64 a) rfl rfl rfl ?_
      refine wo_val (v := (.int .i64 (bits .xor .i64 (-1) a))) (ap_cpl rfl) rfl rfl ?_
      refine wa (.int .i64 (bits .xor .i64 (-1) a)) rfl rfl rfl ?_
      refine wo_nil ?_
      refine wk_skip_seq ?_
      refine wk_ret ⟨.inr rfl, _, rfl, bits .xor .i64 (-1) a, rfl, rfl, (by simp only [unV, c1b, c2b, cond_true, cond_false])⟩
    · have c2 := c2b
      try simp only [BS] at c2
      refine wk_skip_block ?_
      refine wk_skip_seq ?_
      refine wk_seq ?_
      refine wk_region ?_
      refine wa (.int .i64 0) rfl rfl rfl ?_
      refine wo_nil ?_
      refine wk_skip_seq ?_
      refine wk_ret ⟨.inr rfl, _, rfl, 0, rfl, rfl, (by simp only [unV, c1b, c2b, cond_true, cond_false])⟩

theorem rtruth_c (ex : FuncId) (b : Bool) (H : Heap) : C Try.prog 0 (KX ex) 25 [(.bool b)] H fun v H' => ∃ (r : Int), H' = H ∧ v = .int .i64 r ∧ r = truthV b := by
  refine c_enter Try.func25 rfl rfl ?_
  refine wk_seq ?_
  refine wk_region ?_
  refine wa (.int .i64 0) rfl rfl rfl ?_
  refine wo_nil ?_
  refine wk_skip_seq ?_
  refine wk_seq ?_
  refine wk_seq ?_
  refine wk_region ?_
  refine wm (.bool b) rfl rfl rfl ?_
  refine wo_nil ?_
  refine wk_skip_seq ?_
  refine wk_cond (v := b) rfl rfl (fun c1b => ?_) (fun c1b => ?_)
  · have c1 := c1b
    try simp only [BS] at c1
    refine wk_seq ?_
    refine wk_region ?_
    refine wa (.int .i64 1) rfl rfl rfl ?_
    refine wo_nil ?_
    refine wk_skip_seq ?_
    refine wk_ret ⟨.inr rfl, _, rfl, 1, rfl, rfl, (by simp only [truthV, c1b]; rfl)⟩
  · have c1 := c1b
    try simp only [BS] at c1
    refine wk_skip_seq ?_
    refine wk_seq ?_
    refine wk_region ?_
    refine wa (.int .i64 0) rfl rfl rfl ?_
    refine wo_nil ?_
    refine wk_skip_seq ?_
    refine wk_ret ⟨.inr rfl, _, rfl, 0, rfl, rfl, (by simp only [truthV, c1b]; rfl)⟩

theorem rdiv_c (ex : FuncId) (a : Int) (b : Int) (H : Heap) : C Try.prog 0 (KX ex) 24 [(.int .i64 a), (.int .i64 b)] H fun v H' => ∃ (r : Int), H' = H ∧ v = .int .i64 r ∧ r = quoV a b := by
  refine c_enter Try.func24 rfl rfl ?_
  refine wk_seq ?_
  refine wk_region ?_
  refine wa (.int .i64 0) rfl rfl rfl ?_
  refine wo_nil ?_
  refine wk_skip_seq ?_
  refine wk_seq ?_
  refine wk_block ?_
  refine wk_seq ?_
  refine wk_region ?_
  refine wm (.int .i64 b) rfl rfl rfl ?_
  refine wo_val (v := (.bool (b == 0))) (ap_cmp rfl rfl rfl rfl) rfl rfl ?_
  refine wa (.bool (b == 0)) rfl rfl rfl ?_
  refine wo_nil ?_
  refine wk_skip_seq ?_
  refine wk_cond (v := (b == 0)) rfl rfl (fun c1b => ?_) (fun c1b => ?_)
  · have c1 := c1b
    try simp only [BS] at c1
    refine wk_seq ?_
    refine wk_region ?_
    refine wa (.int .i64 0) rfl rfl rfl ?_
    refine wo_nil ?_
    refine wk_skip_seq ?_
    refine wk_ret ⟨.inr rfl, _, rfl, 0, rfl, rfl, (by simp only [quoV, c1b, cond_true, cond_false])⟩
  · have c1 := c1b
    try simp only [BS] at c1
    refine wk_seq ?_
    refine wk_region ?_
    refine wm (.int .i64 b) rfl rfl rfl ?_
    refine wo_val (v := (.bool (b == (-1)))) (ap_cmp rfl rfl rfl rfl) rfl rfl ?_
    refine wa (.bool (b == (-1))) rfl rfl rfl ?_
    refine wo_nil ?_
    refine wk_skip_seq ?_
    refine wk_cond (v := (b == (-1))) rfl rfl (fun c2b => ?_) (fun c2b => ?_)
    · have c2 := c2b
      try simp only [BS] at c2
      refine wk_seq ?_
      refine wk_region ?_
      refine wm (.int .i64 a) rfl rfl rfl ?_
      refine wo_val (v := (.int .i64 (IntKind.i64.wrap (0 - a)))) (ap_ng rfl rfl) rfl rfl ?_
      refine wa (.int .i64 (IntKind.i64.wrap (0 - a))) rfl rfl rfl ?_
      refine wo_nil ?_
      refine wk_skip_seq ?_
      refine wk_ret ⟨.inr rfl, _, rfl, IntKind.i64.wrap (0 - a), rfl, rfl, (by simp only [quoV, c1b, c2b, cond_true, cond_false])⟩
    · have c2 := c2b
      try simp only [BS] at c2
      refine wk_skip_block ?_
      refine wk_skip_seq ?_
      refine wk_seq ?_
      refine wk_region ?_
      refine wm (.int .i64 a) rfl rfl rfl ?_
      refine wm (.int .i64 b) rfl rfl rfl ?_
      refine wo_val (v := (.int .i64 (IntKind.i64.wrap (Int.tdiv a b)))) (ap_div rfl rfl (by first | assumption | omega) rfl) rfl rfl ?_
      refine wa (.int .i64 (IntKind.i64.wrap (Int.tdiv a b))) rfl rfl rfl ?_
      refine wo_nil ?_
      refine wk_skip_seq ?_
      refine wk_ret ⟨.inr rfl, _, rfl, IntKind.i64.wrap (Int.tdiv a b), rfl, rfl, (by simp only [quoV, c1b, c2b, cond_true, cond_false])⟩

theorem rbin_c (ex : FuncId) (op : Int) (a : Int) (b : Int) (H : Heap) : C Try.prog 0 (KX ex) 18 [(.int .i64 op), (.int .i64 a), (.int .i64 b)] H fun v H' => ∃ (r : Int), H' = H ∧ v = .int .i64 r ∧ r = binV op a b := by
  refine c_enter Try.func18 rfl rfl ?_
  refine wk_seq ?_
  refine wk_region ?_
  refine wa (.int .i64 0) rfl rfl rfl ?_
  refine wo_nil ?_
  refine wk_skip_seq ?_
  refine wk_seq ?_
  refine wk_region ?_
  refine wm (.int .i64 b) rfl rfl rfl ?_
  refine wo_val (v := (.int .i64 (bitsOf .and .i64 b 63))) (ap_int rfl rfl rfl) rfl rfl ?_
  refine wo_val (v := (.int .u64 (IntKind.u64.wrap (bitsOf .and .i64 b 63)))) (ap_cv rfl rfl rfl rfl) rfl rfl ?_
  refine wa (.int .u64 (IntKind.u64.wrap (bitsOf .and .i64 b 63))) rfl rfl rfl ?_
  refine wo_nil ?_
  refine wk_skip_seq ?_
  refine wk_seq ?_
  refine wk_seq ?_
  refine wk_region ?_
  refine wm (.int .i64 op) rfl rfl rfl ?_
  refine wo_nil ?_
  refine wk_skip_seq ?_
  refine wk_block ?_
  refine wk_seq ?_
  refine wk_region ?_
  refine wo_val (v := (.bool (op == 4))) (ap_cmp rfl rfl rfl rfl) rfl rfl ?_
  refine wa (.bool (op == 4)) rfl rfl rfl ?_
  refine wo_nil ?_
  refine wk_skip_seq ?_
  refine wk_cond (v := (op == 4)) rfl rfl (fun c1b => ?_) (fun c1b => ?_)
  · have c1 := c1b
    try simp only [BS] at c1
    refine wk_seq ?_
    refine wk_region ?_
    refine wm (.int .i64 a) rfl rfl rfl ?_
    refine wm (.int .i64 b) rfl rfl rfl ?_
    refine wo_val (v := (.int .i64 (IntKind.i64.wrap (a + b)))) (ap_add rfl rfl rfl) rfl rfl ?_
    refine wa (.int .i64 (IntKind.i64.wrap (a + b))) rfl rfl rfl ?_
    refine wo_nil ?_
    refine wk_skip_seq ?_
    refine wk_ret ⟨.inr rfl, _, rfl, IntKind.i64.wrap (a + b), rfl, rfl, (by simp only [binV, shcV, byV, c1b, cond_true, cond_false])⟩
  · have c1 := c1b
    try simp only [BS] at c1
    refine wk_seq ?_
    refine wk_region ?_
    refine wo_val (v := (.bool (op == 5))) (ap_cmp rfl rfl rfl rfl) rfl rfl ?_
    refine wa (.bool (op == 5)) rfl rfl rfl ?_
    refine wo_nil ?_
    refine wk_skip_seq ?_
    refine wk_cond (v := (op == 5)) rfl rfl (fun c2b => ?_) (fun c2b => ?_)
    · have c2 := c2b
      try simp only [BS] at c2
      refine wk_seq ?_
      refine wk_region ?_
      refine wm (.int .i64 a) rfl rfl rfl ?_
      refine wm (.int .i64 b) rfl rfl rfl ?_
      refine wo_val (v := (.int .i64 (IntKind.i64.wrap (a - b)))) (ap_sub rfl rfl rfl) rfl rfl ?_
      refine wa (.int .i64 (IntKind.i64.wrap (a - b))) rfl rfl rfl ?_
      refine wo_nil ?_
      refine wk_skip_seq ?_
      refine wk_ret ⟨.inr rfl, _, rfl, IntKind.i64.wrap (a - b), rfl, rfl, (by simp only [binV, shcV, byV, c1b, c2b, cond_true, cond_false])⟩
    · have c2 := c2b
      try simp only [BS] at c2
      refine wk_seq ?_
      refine wk_region ?_
      refine wo_val (v := (.bool (op == 6))) (ap_cmp rfl rfl rfl rfl) rfl rfl ?_
      refine wa (.bool (op == 6)) rfl rfl rfl ?_
      refine wo_nil ?_
      refine wk_skip_seq ?_
      refine wk_cond (v := (op == 6)) rfl rfl (fun c3b => ?_) (fun c3b => ?_)
      · have c3 := c3b
        try simp only [BS] at c3
        refine wk_seq ?_
        refine wk_region ?_
        refine wm (.int .i64 a) rfl rfl rfl ?_
        refine wm (.int .i64 b) rfl rfl rfl ?_
        refine wo_val (v := (.int .i64 (IntKind.i64.wrap (a * b)))) (ap_mul rfl rfl rfl) rfl rfl ?_
        refine wa (.int .i64 (IntKind.i64.wrap (a * b))) rfl rfl rfl ?_
        refine wo_nil ?_
        refine wk_skip_seq ?_
        refine wk_ret ⟨.inr rfl, _, rfl, IntKind.i64.wrap (a * b), rfl, rfl, (by simp only [binV, shcV, byV, c1b, c2b, c3b, cond_true, cond_false])⟩
      · have c3 := c3b
        try simp only [BS] at c3
        refine wk_seq ?_
        refine wk_region ?_
        refine wo_val (v := (.bool (op == 7))) (ap_cmp rfl rfl rfl rfl) rfl rfl ?_
        refine wa (.bool (op == 7)) rfl rfl rfl ?_
        refine wo_nil ?_
        refine wk_skip_seq ?_
        refine wk_cond (v := (op == 7)) rfl rfl (fun c4b => ?_) (fun c4b => ?_)
        · have c4 := c4b
          try simp only [BS] at c4
          refine wk_seq ?_
          refine wk_region ?_
          refine wm (.int .i64 a) rfl rfl rfl ?_
          refine wm (.int .i64 b) rfl rfl rfl ?_
          refine wo_call (ap_call rfl rfl rfl) rfl rfl (rdiv_c ex a b _) ?_
          rintro _ H ⟨r5, rfl, rfl, rfl⟩
          refine wa (.int .i64 (quoV a b)) rfl rfl rfl ?_
          refine wo_nil ?_
          refine wk_skip_seq ?_
          refine wk_ret ⟨.inr rfl, _, rfl, quoV a b, rfl, rfl, (by simp only [binV, shcV, byV, c1b, c2b, c3b, c4b, cond_true, cond_false])⟩
        · have c4 := c4b
          try simp only [BS] at c4
          refine wk_seq ?_
          refine wk_region ?_
          refine wo_val (v := (.bool (op == 8))) (ap_cmp rfl rfl rfl rfl) rfl rfl ?_
          refine wa (.bool (op == 8)) rfl rfl rfl ?_
          refine wo_nil ?_
          refine wk_skip_seq ?_
          refine wk_cond (v := (op == 8)) rfl rfl (fun c6b => ?_) (fun c6b => ?_)
          · have c6 := c6b
            try simp only [BS] at c6
            refine wk_seq ?_
            refine wk_seq ?_
            refine wk_region ?_
            refine wm (.int .i64 b) rfl rfl rfl ?_
            refine wo_val (v := (.bool (b == 0))) (ap_cmp rfl rfl rfl rfl) rfl rfl ?_
            refine wo_nil ?_
            refine wk_skip_seq ?_
            refine wk_cond (v := (b == 0)) rfl rfl (fun c7b => ?_) (fun c7b => ?_)
            · have c7 := c7b
              try simp only [BS] at c7
              refine wk_seq ?_
              refine wk_region ?_
              refine wa (.int .i64 0) rfl rfl rfl ?_
              refine wo_nil ?_
              refine wk_skip_seq ?_
              refine wk_ret ⟨.inr rfl, _, rfl, 0, rfl, rfl, (by simp only [binV, shcV, byV, c1b, c2b, c3b, c4b, c6b, c7b, cond_true, cond_false])⟩
            · have c7 := c7b
              try simp only [BS] at c7
              refine wk_skip_seq ?_
              refine wk_seq ?_
              refine wk_region ?_
              refine wm (.int .i64 a) rfl rfl rfl ?_
              refine wm (.int .i64 a) rfl rfl rfl ?_
              refine wm (.int .i64 b) rfl rfl rfl ?_
              refine wo_call (ap_call rfl rfl rfl) rfl rfl (rdiv_c ex a b _) ?_
              rintro _ H ⟨r8, rfl, rfl, rfl⟩
              refine wm (.int .i64 b) rfl rfl rfl ?_
              refine wo_val (v := (.int .i64 (IntKind.i64.wrap ((quoV a b) * b)))) (ap_mul rfl rfl rfl) rfl rfl ?_
              refine wo_val (v := (.int .i64 (IntKind.i64.wrap (a - (IntKind.i64.wrap ((quoV a b) * b)))))) (ap_sub rfl rfl rfl) rfl rfl ?_
              refine wa (.int .i64 (IntKind.i64.wrap (a - (IntKind.i64.wrap ((quoV a b) * b))))) rfl rfl rfl ?_
              refine wo_nil ?_
              refine wk_skip_seq ?_
              refine wk_ret ⟨.inr rfl, _, rfl, IntKind.i64.wrap (a - (IntKind.i64.wrap ((quoV a b) * b))), rfl, rfl, (by simp only [binV, shcV, byV, c1b, c2b, c3b, c4b, c6b, c7b, cond_true, cond_false])⟩
          · have c6 := c6b
            try simp only [BS] at c6
            refine wk_seq ?_
            refine wk_region ?_
            refine wo_val (v := (.bool (op == 9))) (ap_cmp rfl rfl rfl rfl) rfl rfl ?_
            refine wa (.bool (op == 9)) rfl rfl rfl ?_
            refine wo_nil ?_
            refine wk_skip_seq ?_
            refine wk_cond (v := (op == 9)) rfl rfl (fun c9b => ?_) (fun c9b => ?_)
            · have c9 := c9b
              try simp only [BS] at c9
              refine wk_seq ?_
              refine wk_region ?_
              refine wm (.int .i64 a) rfl rfl rfl ?_
              refine wm (.int .i64 b) rfl rfl rfl ?_
              refine wo_val (v := (.int .i64 (bitsOf .and .i64 a b))) (ap_int rfl rfl rfl) rfl rfl ?_
              refine wa (.int .i64 (bitsOf .and .i64 a b)) rfl rfl rfl ?_
              refine wo_nil ?_
              refine wk_skip_seq ?_
              refine wk_ret ⟨.inr rfl, _, rfl, bitsOf .and .i64 a b, rfl, rfl, (by simp only [binV, shcV, byV, c1b, c2b, c3b, c4b, c6b, c9b, cond_true, cond_false])⟩
            · have c9 := c9b
              try simp only [BS] at c9
              refine wk_seq ?_
              refine wk_region ?_
              refine wo_val (v := (.bool (op == 10))) (ap_cmp rfl rfl rfl rfl) rfl rfl ?_
              refine wa (.bool (op == 10)) rfl rfl rfl ?_
              refine wo_nil ?_
              refine wk_skip_seq ?_
              refine wk_cond (v := (op == 10)) rfl rfl (fun c10b => ?_) (fun c10b => ?_)
              · have c10 := c10b
                try simp only [BS] at c10
                refine wk_seq ?_
                refine wk_region ?_
                refine wm (.int .i64 a) rfl rfl rfl ?_
                refine wm (.int .i64 b) rfl rfl rfl ?_
                refine wo_val (v := (.int .i64 (bitsOf .or .i64 a b))) (ap_int rfl rfl rfl) rfl rfl ?_
                refine wa (.int .i64 (bitsOf .or .i64 a b)) rfl rfl rfl ?_
                refine wo_nil ?_
                refine wk_skip_seq ?_
                refine wk_ret ⟨.inr rfl, _, rfl, bitsOf .or .i64 a b, rfl, rfl, (by simp only [binV, shcV, byV, c1b, c2b, c3b, c4b, c6b, c9b, c10b, cond_true, cond_false])⟩
              · have c10 := c10b
                try simp only [BS] at c10
                refine wk_seq ?_
                refine wk_region ?_
                refine wo_val (v := (.bool (op == 11))) (ap_cmp rfl rfl rfl rfl) rfl rfl ?_
                refine wa (.bool (op == 11)) rfl rfl rfl ?_
                refine wo_nil ?_
                refine wk_skip_seq ?_
                refine wk_cond (v := (op == 11)) rfl rfl (fun c11b => ?_) (fun c11b => ?_)
                · have c11 := c11b
                  try simp only [BS] at c11
                  refine wk_seq ?_
                  refine wk_region ?_
                  refine wm (.int .i64 a) rfl rfl rfl ?_
                  refine wm (.int .i64 b) rfl rfl rfl ?_
                  refine wo_val (v := (.int .i64 (bitsOf .xor .i64 a b))) (ap_int rfl rfl rfl) rfl rfl ?_
                  refine wa (.int .i64 (bitsOf .xor .i64 a b)) rfl rfl rfl ?_
                  refine wo_nil ?_
                  refine wk_skip_seq ?_
                  refine wk_ret ⟨.inr rfl, _, rfl, bitsOf .xor .i64 a b, rfl, rfl, (by simp only [binV, shcV, byV, c1b, c2b, c3b, c4b, c6b, c9b, c10b, c11b, cond_true, cond_false])⟩
                · have c11 := c11b
                  try simp only [BS] at c11
                  refine wk_skip_block ?_
                  refine wk_skip_seq ?_
                  refine wk_seq ?_
                  refine wk_seq ?_
                  refine wk_region ?_
                  refine wm (.int .i64 op) rfl rfl rfl ?_
                  refine wo_nil ?_
                  refine wk_skip_seq ?_
                  refine wk_block ?_
                  refine wk_seq ?_
                  refine wk_region ?_
                  refine wo_val (v := (.bool (op == 12))) (ap_cmp rfl rfl rfl rfl) rfl rfl ?_
                  refine wa (.bool (op == 12)) rfl rfl rfl ?_
                  refine wo_nil ?_
                  refine wk_skip_seq ?_
                  refine wk_cond (v := (op == 12)) rfl rfl (fun c12b => ?_) (fun c12b => ?_)
                  · have c12 := c12b
                    try simp only [BS] at c12
                    refine wk_seq ?_
                    refine wk_region ?_
                    refine wm (.int .i64 a) rfl rfl rfl ?_
                    refine wm (.int .u64 (IntKind.u64.wrap (bitsOf .and .i64 b 63))) rfl rfl rfl ?_
                    refine wo_val (v := (.int .i64 (IntKind.i64.wrap (a * 2 ^ (Nat.min (IntKind.u64.wrap (bitsOf .and .i64 b 63)).toNat 64))))) (ap_shl rfl rfl (by exact byV_nn b)) rfl rfl ?_
                    refine wa (.int .i64 (IntKind.i64.wrap (a * 2 ^ (Nat.min (IntKind.u64.wrap (bitsOf .and .i64 b 63)).toNat 64)))) rfl rfl rfl ?_
                    refine wo_nil ?_
                    refine wk_skip_seq ?_
                    refine wk_ret ⟨.inr rfl, _, rfl, IntKind.i64.wrap (a * 2 ^ (Nat.min (IntKind.u64.wrap (bitsOf .and .i64 b 63)).toNat 64)), rfl, rfl, (by simp only [binV, shcV, byV, c1b, c2b, c3b, c4b, c6b, c9b, c10b, c11b, c12b, cond_true, cond_false])⟩
                  · have c12 := c12b
                    try simp only [BS] at c12
                    refine wk_seq ?_
                    refine wk_region ?_
                    refine wo_val (v := (.bool (op == 13))) (ap_cmp rfl rfl rfl rfl) rfl rfl ?_
                    refine wa (.bool (op == 13)) rfl rfl rfl ?_
                    refine wo_nil ?_
                    refine wk_skip_seq ?_
                    refine wk_cond (v := (op == 13)) rfl rfl (fun c13b => ?_) (fun c13b => ?_)
                    · have c13 := c13b
                      try simp only [BS] at c13
                      refine wk_seq ?_
                      refine wk_region ?_
                      refine wm (.int .i64 a) rfl rfl rfl ?_
                      refine wo_val (v := (.int .u64 (IntKind.u64.wrap a))) (ap_cv rfl rfl rfl rfl) rfl rfl ?_
                      refine wm (.int .u64 (IntKind.u64.wrap (bitsOf .and .i64 b 63))) rfl rfl rfl ?_
                      refine wo_val (v := (.int .u64 (Int.fdiv (IntKind.u64.wrap a) (2 ^ (Nat.min (IntKind.u64.wrap (bitsOf .and .i64 b 63)).toNat 64))))) (ap_shr rfl rfl (by exact byV_nn b)) rfl rfl ?_
                      refine wo_val (v := (.int .i64 (IntKind.i64.wrap (Int.fdiv (IntKind.u64.wrap a) (2 ^ (Nat.min (IntKind.u64.wrap (bitsOf .and .i64 b 63)).toNat 64)))))) (ap_cv rfl rfl rfl rfl) rfl rfl ?_
                      refine wa (.int .i64 (IntKind.i64.wrap (Int.fdiv (IntKind.u64.wrap a) (2 ^ (Nat.min (IntKind.u64.wrap (bitsOf .and .i64 b 63)).toNat 64))))) rfl rfl rfl ?_
                      refine wo_nil ?_
                      refine wk_skip_seq ?_
                      refine wk_ret ⟨.inr rfl, _, rfl, IntKind.i64.wrap (Int.fdiv (IntKind.u64.wrap a) (2 ^ (Nat.min (IntKind.u64.wrap (bitsOf .and .i64 b 63)).toNat 64))), rfl, rfl, (by simp only [binV, shcV, byV, c1b, c2b, c3b, c4b, c6b, c9b, c10b, c11b, c12b, c13b, cond_true, cond_false])⟩
                    · have c13 := c13b
                      try simp only [BS] at c13
                      refine wk_seq ?_
                      refine wk_region ?_
                      refine wo_val (v := (.bool (op == 14))) (ap_cmp rfl rfl rfl rfl) rfl rfl ?_
                      refine wa (.bool (op == 14)) rfl rfl rfl ?_
                      refine wo_nil ?_
                      refine wk_skip_seq ?_
                      refine wk_cond (v := (op == 14)) rfl rfl (fun c14b => ?_) (fun c14b => ?_)
                      · have c14 := c14b
                        try simp only [BS] at c14
                        refine wk_seq ?_
                        refine wk_region ?_
                        refine wm (.int .i64 a) rfl rfl rfl ?_
                        refine wm (.int .u64 (IntKind.u64.wrap (bitsOf .and .i64 b 63))) rfl rfl rfl ?_
                        refine wo_val (v := (.int .i64 (Int.fdiv a (2 ^ (Nat.min (IntKind.u64.wrap (bitsOf .and .i64 b 63)).toNat 64))))) (ap_shr rfl rfl (by exact byV_nn b)) rfl rfl ?_
                        refine wa (.int .i64 (Int.fdiv a (2 ^ (Nat.min (IntKind.u64.wrap (bitsOf .and .i64 b 63)).toNat 64)))) rfl rfl rfl ?_
                        refine wo_nil ?_
                        refine wk_skip_seq ?_
                        refine wk_ret ⟨.inr rfl, _, rfl, Int.fdiv a (2 ^ (Nat.min (IntKind.u64.wrap (bitsOf .and .i64 b 63)).toNat 64)), rfl, rfl, (by simp only [binV, shcV, byV, c1b, c2b, c3b, c4b, c6b, c9b, c10b, c11b, c12b, c13b, c14b, cond_true, cond_false])⟩
                      · have c14 := c14b
                        try simp only [BS] at c14
                        refine wk_seq ?_
                        refine wk_region ?_
                        refine wo_val (v := (.bool (op == 15))) (ap_cmp rfl rfl rfl rfl) rfl rfl ?_
                        refine wa (.bool (op == 15)) rfl rfl rfl ?_
                        refine wo_nil ?_
                        refine wk_skip_seq ?_
                        refine wk_cond (v := (op == 15)) rfl rfl (fun c15b => ?_) (fun c15b => ?_)
                        · have c15 := c15b
                          try simp only [BS] at c15
                          refine wk_seq ?_
                          refine wk_region ?_
                          refine wm (.int .i64 a) rfl rfl rfl ?_
                          refine wm (.int .i64 b) rfl rfl rfl ?_
                          refine wo_val (v := (.bool (a == b))) (ap_cmp rfl rfl rfl rfl) rfl rfl ?_
                          refine wo_call (ap_call rfl rfl rfl) rfl rfl (rtruth_c ex (a == b) _) ?_
                          rintro _ H ⟨r16, rfl, rfl, rfl⟩
                          refine wa (.int .i64 (truthV (a == b))) rfl rfl rfl ?_
                          refine wo_nil ?_
                          refine wk_skip_seq ?_
                          refine wk_ret ⟨.inr rfl, _, rfl, truthV (a == b), rfl, rfl, (by simp only [binV, shcV, byV, c1b, c2b, c3b, c4b, c6b, c9b, c10b, c11b, c12b, c13b, c14b, c15b, cond_true, cond_false])⟩
                        · have c15 := c15b
                          try simp only [BS] at c15
                          refine wk_seq ?_
                          refine wk_region ?_
                          refine wo_val (v := (.bool (op == 16))) (ap_cmp rfl rfl rfl rfl) rfl rfl ?_
                          refine wa (.bool (op == 16)) rfl rfl rfl ?_
                          refine wo_nil ?_
                          refine wk_skip_seq ?_
                          refine wk_cond (v := (op == 16)) rfl rfl (fun c17b => ?_) (fun c17b => ?_)
                          · have c17 := c17b
                            try simp only [BS] at c17
                            refine wk_seq ?_
                            refine wk_region ?_
                            refine wm (.int .i64 a) rfl rfl rfl ?_
                            refine wm (.int .i64 b) rfl rfl rfl ?_
                            refine wo_val (v := (.bool (a != b))) (ap_cmp rfl rfl rfl rfl) rfl rfl ?_
                            refine wo_call (ap_call rfl rfl rfl) rfl rfl (rtruth_c ex (a != b) _) ?_
                            rintro _ H ⟨r18, rfl, rfl, rfl⟩
                            refine wa (.int .i64 (truthV (a != b))) rfl rfl rfl ?_
                            refine wo_nil ?_
                            refine wk_skip_seq ?_
                            refine wk_ret ⟨.inr rfl, _, rfl, truthV (a != b), rfl, rfl, (by simp only [binV, shcV, byV, c1b, c2b, c3b, c4b, c6b, c9b, c10b, c11b, c12b, c13b, c14b, c15b, c17b, cond_true, cond_false])⟩
                          · have c17 := c17b
                            try simp only [BS] at c17
                            refine wk_seq ?_
                            refine wk_region ?_
                            refine wo_val (v := (.bool (op == 17))) (ap_cmp rfl rfl rfl rfl) rfl rfl ?_
                            refine wa (.bool (op == 17)) rfl rfl rfl ?_
                            refine wo_nil ?_
                            refine wk_skip_seq ?_
                            refine wk_cond (v := (op == 17)) rfl rfl (fun c19b => ?_) (fun c19b => ?_)
                            · have c19 := c19b
                              try simp only [BS] at c19
                              refine wk_seq ?_
                              refine wk_region ?_
                              refine wm (.int .i64 a) rfl rfl rfl ?_
                              refine wm (.int .i64 b) rfl rfl rfl ?_
                              refine wo_val (v := (.bool (decide (a < b)))) (ap_cmp rfl rfl rfl rfl) rfl rfl ?_
                              refine wo_call (ap_call rfl rfl rfl) rfl rfl (rtruth_c ex (decide (a < b)) _) ?_
                              rintro _ H ⟨r20, rfl, rfl, rfl⟩
                              refine wa (.int .i64 (truthV (decide (a < b)))) rfl rfl rfl ?_
                              refine wo_nil ?_
                              refine wk_skip_seq ?_
                              refine wk_ret ⟨.inr rfl, _, rfl, truthV (decide (a < b)), rfl, rfl, (by simp only [binV, shcV, byV, c1b, c2b, c3b, c4b, c6b, c9b, c10b, c11b, c12b, c13b, c14b, c15b, c17b, c19b, cond_true, cond_false])⟩
                            · have c19 := c19b
                              try simp only [BS] at c19
                              refine wk_seq ?_
                              refine wk_region ?_
                              refine wo_val (v := (.bool (op == 18))) (ap_cmp rfl rfl rfl rfl) rfl rfl ?_
                              refine wa (.bool (op == 18)) rfl rfl rfl ?_
                              refine wo_nil ?_
                              refine wk_skip_seq ?_
                              refine wk_cond (v := (op == 18)) rfl rfl (fun c21b => ?_) (fun c21b => ?_)
                              · have c21 := c21b
                                try simp only [BS] at c21
                                refine wk_seq ?_
                                refine wk_region ?_
                                refine wm (.int .i64 a) rfl rfl rfl ?_
                                refine wm (.int .i64 b) rfl rfl rfl ?_
                                refine wo_val (v := (.bool (decide (a ≤ b)))) (ap_cmp rfl rfl rfl rfl) rfl rfl ?_
                                refine wo_call (ap_call rfl rfl rfl) rfl rfl (rtruth_c ex (decide (a ≤ b)) _) ?_
                                rintro _ H ⟨r22, rfl, rfl, rfl⟩
                                refine wa (.int .i64 (truthV (decide (a ≤ b)))) rfl rfl rfl ?_
                                refine wo_nil ?_
                                refine wk_skip_seq ?_
                                refine wk_ret ⟨.inr rfl, _, rfl, truthV (decide (a ≤ b)), rfl, rfl, (by simp only [binV, shcV, byV, c1b, c2b, c3b, c4b, c6b, c9b, c10b, c11b, c12b, c13b, c14b, c15b, c17b, c19b, c21b, cond_true, cond_false])⟩
                              · have c21 := c21b
                                try simp only [BS] at c21
                                refine wk_seq ?_
                                refine wk_region ?_
                                refine wo_val (v := (.bool (op == 19))) (ap_cmp rfl rfl rfl rfl) rfl rfl ?_
                                refine wa (.bool (op == 19)) rfl rfl rfl ?_
                                refine wo_nil ?_
                                refine wk_skip_seq ?_
                                refine wk_cond (v := (op == 19)) rfl rfl (fun c23b => ?_) (fun c23b => ?_)
                                · have c23 := c23b
                                  try simp only [BS] at c23
                                  refine wk_seq ?_
                                  refine wk_region ?_
                                  refine wm (.int .i64 a) rfl rfl rfl ?_
                                  refine wo_val (v := (.int .u64 (IntKind.u64.wrap a))) (ap_cv rfl rfl rfl rfl) rfl rfl ?_
                                  refine wm (.int .i64 b) rfl rfl rfl ?_
                                  refine wo_val (v := (.int .u64 (IntKind.u64.wrap b))) (ap_cv rfl rfl rfl rfl) rfl rfl ?_
                                  refine wo_val (v := (.bool (decide (IntKind.u64.wrap a < IntKind.u64.wrap b)))) (ap_cmp rfl rfl rfl rfl) rfl rfl ?_
                                  refine wo_call (ap_call rfl rfl rfl) rfl rfl (rtruth_c ex (decide (IntKind.u64.wrap a < IntKind.u64.wrap b)) _) ?_
                                  rintro _ H ⟨r24, rfl, rfl, rfl⟩
                                  refine wa (.int .i64 (truthV (decide (IntKind.u64.wrap a < IntKind.u64.wrap b)))) rfl rfl rfl ?_
                                  refine wo_nil ?_
                                  refine wk_skip_seq ?_
                                  refine wk_ret ⟨.inr rfl, _, rfl, truthV (decide (IntKind.u64.wrap a < IntKind.u64.wrap b)), rfl, rfl, (by simp only [binV, shcV, byV, c1b, c2b, c3b, c4b, c6b, c9b, c10b, c11b, c12b, c13b, c14b, c15b, c17b, c19b, c21b, c23b, cond_true, cond_false])⟩
                                · have c23 := c23b
                                  try simp only [BS] at c23
                                  refine wk_skip_block ?_
                                  refine wk_skip_seq ?_
                                  refine wk_seq ?_
                                  refine wk_region ?_
                                  refine wa (.int .i64 0) rfl rfl rfl ?_
                                  refine wo_nil ?_
                                  refine wk_skip_seq ?_
                                  refine wk_ret ⟨.inr rfl, _, rfl, 0, rfl, rfl, (by simp only [binV, shcV, byV, c1b, c2b, c3b, c4b, c6b, c9b, c10b, c11b, c12b, c13b, c14b, c15b, c17b, c19b, c21b, c23b, cond_true, cond_false])⟩

theorem run_c (ex : FuncId) (op : Int) (a : Int) (H : Heap) : C Try.prog 0 (KX ex) 17 [(.int .i64 op), (.int .i64 a)] H fun v H' => ∃ (r : Int), H' = H ∧ v = .int .i64 r ∧ r = unV op a := by
  refine c_enter Try.func17 rfl rfl ?_
  refine wk_seq ?_
  refine wk_region ?_
  refine wa (.int .i64 0) rfl rfl rfl ?_
  refine wo_nil ?_
  refine wk_skip_seq ?_
  refine wk_seq ?_
  refine wk_seq ?_
  refine wk_region ?_
  refine wm (.int .i64 op) rfl rfl rfl ?_
  refine wo_nil ?_
  refine wk_skip_seq ?_
  refine wk_block ?_
  refine wk_seq ?_
  refine wk_region ?_
  refine wo_val (v := (.bool (op == 20))) (ap_cmp rfl rfl rfl rfl) rfl rfl ?_
  refine wa (.bool (op == 20)) rfl rfl rfl ?_
  refine wo_nil ?_
  refine wk_skip_seq ?_
  refine wk_cond (v := (op == 20)) rfl rfl (fun c1b => ?_) (fun c1b => ?_)
  · have c1 := c1b
    try simp only [BS] at c1
    refine wk_seq ?_
    refine wk_region ?_
    refine wm (.int .i64 a) rfl rfl rfl ?_
    refine wo_val (v := (.int .i64 (IntKind.i64.wrap (0 - a)))) (ap_ng rfl rfl) rfl rfl ?_
    refine wa (.int .i64 (IntKind.i64.wrap (0 - a))) rfl rfl rfl ?_
    refine wo_nil ?_
    refine wk_skip_seq ?_
    refine wk_ret ⟨.inr rfl, _, rfl, IntKind.i64.wrap (0 - a), rfl, rfl, (by simp only [unV, c1b, cond_true, cond_false])⟩
  · have c1 := c1b
    try simp only [BS] at c1
    refine wk_seq ?_
    refine wk_region ?_
    refine wo_val (v := (.bool (op == 21))) (ap_cmp rfl rfl rfl rfl) rfl rfl ?_
    refine wa (.bool (op == 21)) rfl rfl rfl ?_
    refine wo_nil ?_
    refine wk_skip_seq ?_
    refine wk_cond (v := (op == 21)) rfl rfl (fun c2b => ?_) (fun c2b => ?_)
    · have c2 := c2b
      try simp only [BS] at c2
      refine wk_seq ?_
      refine wk_region ?_
      refine wm (.int .i64 a) rfl rfl rfl ?_
      refine wo_val (v := (.int .i64 (bits .xor .i64 (-1) a))) (ap_cpl rfl) rfl rfl ?_
      refine wa (.int .i64 (bits .xor .i64 (-1) a)) rfl rfl rfl ?_
      refine wo_nil ?_
      refine wk_skip_seq ?_
      refine wk_ret ⟨.inr rfl, _, rfl, bits .xor .i64 (-1) a, rfl, rfl, (by simp only [unV, c1b, c2b, cond_true, cond_false])⟩
    · have c2 := c2b
      try simp only [BS] at c2
      refine wk_skip_block ?_
      refine wk_skip_seq ?_
      refine wk_seq ?_
      refine wk_region ?_
      refine wa (.int .i64 0) rfl rfl rfl ?_
      refine wo_nil ?_
      refine wk_skip_seq ?_
      refine wk_ret ⟨.inr rfl, _, rfl, 0, rfl, rfl, (by simp only [unV, c1b, c2b, cond_true, cond_false])⟩
end Go.Proofs.Ytcakpkdeojhacab.w1
