/-
  The laws of chapter 1, each by a symbolic run over the functions that it calls. No condition but that an argument is a word.
-/
import Derived.Test.YtcakpkdeojhacabW1
noncomputable section
namespace Go.Proofs.Ytcakpkdeojhacab.w2
open Go.R
set_option maxRecDepth 10000
set_option linter.unusedVariables false
open w1
theorem ex_c (ex : FuncId) (H : Heap) : C Try.prog 0 (KX ex) ex [] H fun v H' => ∃ (r : Bool), H' = H ∧ v = .bool r ∧ r = true :=
  c_known (by show (bif Nat.beq ex ex then some (Value.bool true) else none) = _; rw [Nat.beq_refl]; rfl) ⟨true, rfl, rfl, rfl⟩

theorem b17 (a b : Int) : binV 17 a b = truthV (decide (a < b)) := rfl
theorem b15 (a b : Int) : binV 15 a b = truthV (a == b) := rfl
theorem b16 (a b : Int) : binV 16 a b = truthV (a != b) := rfl
theorem b18 (a b : Int) : binV 18 a b = truthV (decide (a ≤ b)) := rfl
theorem b19 (a b : Int) : binV 19 a b = truthV (decide (IntKind.u64.wrap a < IntKind.u64.wrap b)) := rfl
theorem tv (c : Bool) : (truthV c = 1 ∧ c = true) ∨ (truthV c = 0 ∧ c = false) := by cases c <;> simp [truthV]
theorem wu (a : Int) (h : in64 a) : (0 ≤ a ∧ IntKind.u64.wrap a = a) ∨ (a < 0 ∧ IntKind.u64.wrap a = a + 18446744073709551616) := by
  have e : IntKind.u64.wrap a = a % (2 ^ 64 : Int) := rfl
  rw [e]; omega

/-- What the comparisons of two words return. -/
theorem cmp_all (x y : Int) (hx : in64 x) (hy : in64 y) :
    ((x < y ∧ ¬ y < x ∧ x ≠ y ∧ binV 17 x y = 1 ∧ binV 17 y x = 0 ∧ binV 15 x y = 0 ∧ binV 16 x y = 1 ∧ binV 18 x y = 1) ∨ (x = y ∧ binV 17 x y = 0 ∧ binV 17 y x = 0 ∧ binV 15 x y = 1 ∧ binV 16 x y = 0 ∧ binV 18 x y = 1) ∨
      (y < x ∧ ¬ x < y ∧ x ≠ y ∧ binV 17 x y = 0 ∧ binV 17 y x = 1 ∧ binV 15 x y = 0 ∧ binV 16 x y = 1 ∧ binV 18 x y = 0)) ∧
    ((0 ≤ x ∧ y < 0 ∧ binV 19 x y = 1) ∨ (x < 0 ∧ 0 ≤ y ∧ binV 19 x y = 0) ∨ (0 ≤ x ∧ 0 ≤ y ∧ binV 19 x y = binV 17 x y) ∨ (x < 0 ∧ y < 0 ∧ binV 19 x y = binV 17 x y)) := by
  rw [b17, b17, b15, b16, b18, b19]
  constructor
  · rcases Int.lt_trichotomy x y with h | h | h
    · left
      have h1 : ¬ y < x := by omega
      have h2 : x ≠ y := by omega
      have h3 : x ≤ y := by omega
      have h4 : (x == y) = false := by simpa using h2
      simp [h, h1, h2, h3, h4, bne, truthV]
    · right; left; subst h; simp [truthV]
    · right; right
      have h1 : ¬ x < y := by omega
      have h2 : x ≠ y := by omega
      have h3 : ¬ x ≤ y := by omega
      have h4 : (x == y) = false := by simpa using h2
      simp [h, h1, h2, h3, h4, bne, truthV]
  · rcases wu x hx with ⟨h1, e1⟩ | ⟨h1, e1⟩ <;> rcases wu y hy with ⟨h2, e2⟩ | ⟨h2, e2⟩ <;> rw [e1, e2]
    · right; right; left; exact ⟨h1, h2, rfl⟩
    · left
      have : x < y + 18446744073709551616 := by unfold in64 at *; omega
      simp [h1, h2, this, truthV]
    · right; left
      have : ¬ x + 18446744073709551616 < y := by unfold in64 at *; omega
      simp [h1, h2, this, truthV]
    · right; right; right
      refine ⟨h1, h2, ?_⟩
      congr 1
      exact decide_eq_decide.2 (by omega)
theorem w01 : IntKind.i64.wrap (0 + 0) = 0 ∧ IntKind.i64.wrap (0 + 1) = 1 ∧ IntKind.i64.wrap (1 + 0) = 1 ∧ IntKind.i64.wrap (1 - 0) = 1 ∧ IntKind.i64.wrap (1 - 1) = 0 := by decide
theorem cmpA (x y : Int) (hx : in64 x) (hy : in64 y) (c : (((((decide (x < 0)) == (decide (y < 0))) && (binV 19 x y != binV 17 x y)) || (((decide (x < 0)) && (decide ((0 : Int) ≤ y))) && (binV 19 x y != 0))) || (((decide ((0 : Int) ≤ x)) && (decide (y < 0))) && (binV 19 x y != 1))) = true) : false = true := by
  obtain ⟨_, h2⟩ := cmp_all x y hx hy
  revert c
  rcases h2 with ⟨h1, h2, h3⟩ | ⟨h1, h2, h3⟩ | ⟨h1, h2, h3⟩ | ⟨h1, h2, h3⟩
  · have g1 : ¬ x < 0 := by omega
    have g2 : ¬ (0 : Int) ≤ y := by omega
    rw [h3]; simp [h1, h2, g1, g2]
  · have g1 : ¬ y < 0 := by omega
    have g2 : ¬ (0 : Int) ≤ x := by omega
    rw [h3]; simp [h1, h2, g1, g2]
  · have g1 : ¬ x < 0 := by omega
    have g2 : ¬ y < 0 := by omega
    rw [h3]; simp [h1, h2, g1, g2]
  · have g1 : ¬ (0 : Int) ≤ x := by omega
    have g2 : ¬ (0 : Int) ≤ y := by omega
    rw [h3]; simp [h1, h2, g1, g2]
theorem cmpB (x y : Int) (hx : in64 x) (hy : in64 y) : (((((((IntKind.i64.wrap ((IntKind.i64.wrap (binV 17 x y + binV 17 y x)) + binV 15 x y)) == 1) && (binV 16 x y == IntKind.i64.wrap (1 - binV 15 x y))) && (binV 18 x y == IntKind.i64.wrap (binV 17 x y + binV 15 x y))) && ((binV 15 x y == 1) == (x == y))))) = true := by
  obtain ⟨h1, _⟩ := cmp_all x y hx hy
  obtain ⟨w1, w2, w3, w4, w5⟩ := w01
  rcases h1 with ⟨h1, h2, h3, h4, h5, h6, h7, h8⟩ | ⟨h1, h4, h5, h6, h7, h8⟩ | ⟨h1, h2, h3, h4, h5, h6, h7, h8⟩
  · rw [h4, h5, h6, h7, h8, w3, w3, w4]; simp [h3]
  · rw [h4, h5, h6, h7, h8, w1, w2, w5]; simp [h1]
  · rw [h4, h5, h6, h7, h8, w2, w3, w1, w4]; simp [h3]

theorem b12 (a k : Int) : binV 12 a k = IntKind.i64.wrap (a * 2 ^ (k % 64).toNat) := by
  have h : binV 12 a k = IntKind.i64.wrap (a * 2 ^ (Nat.min (byV k).toNat 64)) := rfl
  rw [h, byV, byv]
  have : Nat.min (k % 64).toNat 64 = (k % 64).toNat := by show min _ _ = _; omega
  rw [this]
theorem b13 (a k : Int) : binV 13 a k = IntKind.i64.wrap (Int.fdiv (IntKind.u64.wrap a) (2 ^ (k % 64).toNat)) := by
  have h : binV 13 a k = IntKind.i64.wrap (Int.fdiv (IntKind.u64.wrap a) (2 ^ (Nat.min (byV k).toNat 64))) := rfl
  rw [h, byV, byv]
  have : Nat.min (k % 64).toNat 64 = (k % 64).toNat := by show min _ _ = _; omega
  rw [this]
theorem b14 (a k : Int) : binV 14 a k = Int.fdiv a (2 ^ (k % 64).toNat) := by
  have h : binV 14 a k = Int.fdiv a (2 ^ (Nat.min (byV k).toNat 64)) := rfl
  rw [h, byV, byv]
  have : Nat.min (k % 64).toNat 64 = (k % 64).toNat := by show min _ _ = _; omega
  rw [this]
theorem b4 (a b : Int) : binV 4 a b = IntKind.i64.wrap (a + b) := rfl
theorem b5 (a b : Int) : binV 5 a b = IntKind.i64.wrap (a - b) := rfl
theorem b6 (a b : Int) : binV 6 a b = IntKind.i64.wrap (a * b) := rfl
theorem and_tt {a b : Bool} (h1 : a = true) (h2 : b = true) : (a && b) = true := by rw [h1, h2]; rfl
theorem beq_tt {a b : Int} (h : a = b) : (a == b) = true := beq_iff_eq.2 h

theorem comparison_c (a : Int) (b : Int) (p : Int) (q : Int) {F : Fz} {H : Heap} {R : List Fp} (hs : HS (.of H []) F H [] R) (ha : in64 a) (hb : in64 b) (hp : in64 p) (hq : in64 q) : C Try.prog 0 (KX 12) 3 [(.int .i64 a), (.int .i64 b), (.int .i64 p), (.int .i64 q)] H fun v H' => ∃ (r : Bool) (F' : Fz), Fz.le F F' ∧ HS (.of H []) F' H' [] R ∧ v = .bool r ∧ r = true := by
  refine c_enter Try.func3 rfl rfl ?_
  refine wk_seq ?_
  refine wk_region ?_
  refine wa (.bool false) rfl rfl rfl ?_
  refine wo_nil ?_
  refine wk_skip_seq ?_
  refine wk_seq ?_
  refine wk_region ?_
  refine wm (.int .i64 a) rfl rfl rfl ?_
  refine wm (.int .i64 p) rfl rfl rfl ?_
  refine wo_call (ap_call rfl rfl rfl) rfl rfl (w1.word_c 12 a p (HS.call hs) (by omega) (by omega)) ?_
  rintro _ H1 ⟨r1, F1, hF1, hs1, rfl, rfl, h1⟩
  replace hs1 := HS.back hs rfl hs1
  have hs1 : HS (Base.of H []) F1 H1 [] R := hs1
  refine wm (.int .i64 b) rfl rfl rfl ?_
  refine wm (.int .i64 q) rfl rfl rfl ?_
  refine wo_call (ap_call rfl rfl rfl) rfl rfl (w1.word_c 12 b q (HS.call hs1) (by omega) (by omega)) ?_
  rintro _ H2 ⟨r2, F2, hF2, hs2, rfl, rfl, h2⟩
  replace hs2 := HS.back hs1 rfl hs2
  have hs2 : HS (Base.of H []) F2 H2 [] R := hs2
  refine wa (.int .i64 (wordV a p)) rfl rfl rfl ?_
  refine wa (.int .i64 (wordV b q)) rfl rfl rfl ?_
  refine wo_nil ?_
  refine wk_skip_seq ?_
  refine wk_seq ?_
  refine wk_region ?_
  refine wm (.int .i64 (wordV a p)) rfl rfl rfl ?_
  refine wm (.int .i64 (wordV b q)) rfl rfl rfl ?_
  refine wo_call (ap_call rfl rfl rfl) rfl rfl (w1.bin_c 12 (17) (wordV a p) (wordV b q) _) ?_
  rintro _ H2 ⟨r3, rfl, rfl, rfl⟩
  refine wm (.int .i64 (wordV b q)) rfl rfl rfl ?_
  refine wm (.int .i64 (wordV a p)) rfl rfl rfl ?_
  refine wo_call (ap_call rfl rfl rfl) rfl rfl (w1.bin_c 12 (17) (wordV b q) (wordV a p) _) ?_
  rintro _ H2 ⟨r4, rfl, rfl, rfl⟩
  refine wm (.int .i64 (wordV a p)) rfl rfl rfl ?_
  refine wm (.int .i64 (wordV b q)) rfl rfl rfl ?_
  refine wo_call (ap_call rfl rfl rfl) rfl rfl (w1.bin_c 12 (15) (wordV a p) (wordV b q) _) ?_
  rintro _ H2 ⟨r5, rfl, rfl, rfl⟩
  refine wa (.int .i64 (binV (17 : Int) (wordV a p) (wordV b q))) rfl rfl rfl ?_
  refine wa (.int .i64 (binV (17 : Int) (wordV b q) (wordV a p))) rfl rfl rfl ?_
  refine wa (.int .i64 (binV (15 : Int) (wordV a p) (wordV b q))) rfl rfl rfl ?_
  refine wo_nil ?_
  refine wk_skip_seq ?_
  refine wk_seq ?_
  refine wk_region ?_
  refine wm (.int .i64 (wordV a p)) rfl rfl rfl ?_
  refine wm (.int .i64 (wordV b q)) rfl rfl rfl ?_
  refine wo_call (ap_call rfl rfl rfl) rfl rfl (w1.bin_c 12 (19) (wordV a p) (wordV b q) _) ?_
  rintro _ H2 ⟨r6, rfl, rfl, rfl⟩
  refine wa (.int .i64 (binV (19 : Int) (wordV a p) (wordV b q))) rfl rfl rfl ?_
  refine wo_nil ?_
  refine wk_skip_seq ?_
  refine wk_seq ?_
  refine wk_seq ?_
  refine wk_rcut 33 66 [] [(66, (.bool (((((decide (wordV a p < 0)) == (decide (wordV b q < 0))) && (binV (19 : Int) (wordV a p) (wordV b q) != binV (17 : Int) (wordV a p) (wordV b q))) || (((decide (wordV a p < 0)) && (decide ((0 : Int) ≤ wordV b q))) && (binV (19 : Int) (wordV a p) (wordV b q) != 0))) || (((decide ((0 : Int) ≤ wordV a p)) && (decide (wordV b q < 0))) && (binV (19 : Int) (wordV a p) (wordV b q) != 1)))))] (fun H' => H' = H2) ?_ ?_
  · skip
    refine wk_region ?_
    refine wm (.int .i64 (wordV a p)) rfl rfl rfl ?_
    refine wo_val (v := (.bool (decide (wordV a p < 0)))) (ap_cmp rfl rfl rfl rfl) rfl rfl ?_
    refine wm (.int .i64 (wordV b q)) rfl rfl rfl ?_
    refine wo_val (v := (.bool (decide (wordV b q < 0)))) (ap_cmp rfl rfl rfl rfl) rfl rfl ?_
    refine wo_val (v := (.bool ((decide (wordV a p < 0)) == (decide (wordV b q < 0))))) (ap_boolEq rfl rfl (fun a b => by cases a <;> cases b <;> kernel_rfl)) rfl rfl ?_
    refine wm (.bool ((decide (wordV a p < 0)) == (decide (wordV b q < 0)))) rfl rfl rfl ?_
    refine wo_gsT (v := ((decide (wordV a p < 0)) == (decide (wordV b q < 0)))) rfl rfl (fun g8 => ?_) (fun g8 => ?_)
    · have pg8 := g8
      try simp only [BS] at pg8
      refine wm (.int .i64 (binV (19 : Int) (wordV a p) (wordV b q))) rfl rfl rfl ?_
      refine wo_gt rfl g8 ?_
      refine wm (.int .i64 (binV (17 : Int) (wordV a p) (wordV b q))) rfl rfl rfl ?_
      refine wo_gt rfl g8 ?_
      refine wo_val (v := (.bool (binV (19 : Int) (wordV a p) (wordV b q) != binV (17 : Int) (wordV a p) (wordV b q)))) (ap_cmp rfl rfl rfl rfl) rfl rfl ?_
      refine wo_val (v := (.bool (binV (19 : Int) (wordV a p) (wordV b q) != binV (17 : Int) (wordV a p) (wordV b q)))) (ap_pickT rfl g8 rfl) rfl rfl ?_
      refine wm (.bool (binV (19 : Int) (wordV a p) (wordV b q) != binV (17 : Int) (wordV a p) (wordV b q))) rfl rfl rfl ?_
      refine wo_gsF (v := (binV (19 : Int) (wordV a p) (wordV b q) != binV (17 : Int) (wordV a p) (wordV b q))) rfl rfl (fun g9 => ?_) (fun g9 => ?_)
      · have pg9 := g9
        try simp only [BS] at pg9
        refine wm (.int .i64 (wordV a p)) rfl rfl rfl ?_
        refine wo_gt rfl g9 ?_
        refine wo_val (v := (.bool (decide (wordV a p < 0)))) (ap_cmp rfl rfl rfl rfl) rfl rfl ?_
        refine wo_gt rfl g9 ?_
        refine wm (.bool (decide (wordV a p < 0))) rfl rfl rfl ?_
        refine wo_gsT (v := (decide (wordV a p < 0))) rfl rfl (fun g10 => ?_) (fun g10 => ?_)
        · have pg10 := g10
          try simp only [BS] at pg10
          refine wm (.int .i64 (wordV b q)) rfl rfl rfl ?_
          refine wo_gt rfl g10 ?_
          refine wo_val (v := (.bool (decide ((0 : Int) ≤ wordV b q)))) (ap_cmp rfl rfl rfl rfl) rfl rfl ?_
          refine wo_gt rfl g9 ?_
          refine wo_val (v := (.bool (decide ((0 : Int) ≤ wordV b q)))) (ap_pickT rfl g10 rfl) rfl rfl ?_
          refine wo_gt rfl g9 ?_
          refine wm (.bool (decide ((0 : Int) ≤ wordV b q))) rfl rfl rfl ?_
          refine wo_gsT (v := (decide ((0 : Int) ≤ wordV b q))) rfl rfl (fun g11 => ?_) (fun g11 => ?_)
          · have pg11 := g11
            try simp only [BS] at pg11
            refine wm (.int .i64 (binV (19 : Int) (wordV a p) (wordV b q))) rfl rfl rfl ?_
            refine wo_gt rfl g11 ?_
            refine wo_val (v := (.bool (binV (19 : Int) (wordV a p) (wordV b q) != 0))) (ap_cmp rfl rfl rfl rfl) rfl rfl ?_
            refine wo_gt rfl g9 ?_
            refine wo_val (v := (.bool (binV (19 : Int) (wordV a p) (wordV b q) != 0))) (ap_pickT rfl g11 rfl) rfl rfl ?_
            refine wo_val (v := (.bool (binV (19 : Int) (wordV a p) (wordV b q) != 0))) (ap_pickF rfl g9 rfl) rfl rfl ?_
            refine wm (.bool (binV (19 : Int) (wordV a p) (wordV b q) != 0)) rfl rfl rfl ?_
            refine wo_gsF (v := (binV (19 : Int) (wordV a p) (wordV b q) != 0)) rfl rfl (fun g12 => ?_) (fun g12 => ?_)
            · have pg12 := g12
              try simp only [BS] at pg12
              refine wm (.int .i64 (wordV a p)) rfl rfl rfl ?_
              refine wo_gt rfl g12 ?_
              refine wo_val (v := (.bool (decide ((0 : Int) ≤ wordV a p)))) (ap_cmp rfl rfl rfl rfl) rfl rfl ?_
              refine wo_gt rfl g12 ?_
              refine wm (.bool (decide ((0 : Int) ≤ wordV a p))) rfl rfl rfl ?_
              refine wo_gsT (v := (decide ((0 : Int) ≤ wordV a p))) rfl rfl (fun g13 => ?_) (fun g13 => ?_)
              · have pg13 := g13
                try simp only [BS] at pg13
                refine wm (.int .i64 (wordV b q)) rfl rfl rfl ?_
                refine wo_gt rfl g13 ?_
                refine wo_val (v := (.bool (decide (wordV b q < 0)))) (ap_cmp rfl rfl rfl rfl) rfl rfl ?_
                refine wo_gt rfl g12 ?_
                refine wo_val (v := (.bool (decide (wordV b q < 0)))) (ap_pickT rfl g13 rfl) rfl rfl ?_
                refine wo_gt rfl g12 ?_
                refine wm (.bool (decide (wordV b q < 0))) rfl rfl rfl ?_
                refine wo_gsT (v := (decide (wordV b q < 0))) rfl rfl (fun g14 => ?_) (fun g14 => ?_)
                · have pg14 := g14
                  try simp only [BS] at pg14
                  refine wm (.int .i64 (binV (19 : Int) (wordV a p) (wordV b q))) rfl rfl rfl ?_
                  refine wo_gt rfl g14 ?_
                  refine wo_val (v := (.bool (binV (19 : Int) (wordV a p) (wordV b q) != 1))) (ap_cmp rfl rfl rfl rfl) rfl rfl ?_
                  refine wo_gt rfl g12 ?_
                  refine wo_val (v := (.bool (binV (19 : Int) (wordV a p) (wordV b q) != 1))) (ap_pickT rfl g14 rfl) rfl rfl ?_
                  refine wo_val (v := (.bool (binV (19 : Int) (wordV a p) (wordV b q) != 1))) (ap_pickF rfl g12 rfl) rfl rfl ?_
                  refine wo_nil ?_
                  exact wk_skip_nil ⟨rfl, rfl, (Lu rfl (Lu rfl (Lu rfl (Lu rfl (Lu rfl (Lu rfl (Lu rfl (Lu rfl (Lu rfl (Lu rfl (Lu rfl (Lu rfl (Lu rfl (Lu rfl (Lu rfl (Lu rfl (Lu rfl (Lu rfl (Lu rfl (Lu rfl (Lu rfl (Lu rfl (Lu rfl (Lu rfl (Lu rfl (Lu rfl (Lu rfl (Lu rfl (Lu rfl (Lu rfl (Lu rfl (Lu rfl (Lu rfl (Lu rfl Lr)))))))))))))))))))))))))))))))))), (agC (congrArg Value.bool (show (binV (19 : Int) (wordV a p) (wordV b q) != 1) = (((((decide (wordV a p < 0)) == (decide (wordV b q < 0))) && (binV (19 : Int) (wordV a p) (wordV b q) != binV (17 : Int) (wordV a p) (wordV b q))) || (((decide (wordV a p < 0)) && (decide ((0 : Int) ≤ wordV b q))) && (binV (19 : Int) (wordV a p) (wordV b q) != 0))) || (((decide ((0 : Int) ≤ wordV a p)) && (decide (wordV b q < 0))) && (binV (19 : Int) (wordV a p) (wordV b q) != 1))) by simp only [↓g8, ↓g9, ↓g10, ↓g11, ↓g12, ↓g13, ↓g14, BT])) agN)⟩
                · have pg14 := g14
                  try simp only [BS] at pg14
                  refine wo_gf1 rfl g14 rfl ?_
                  refine wo_gt rfl g12 ?_
                  refine wo_val (v := (.bool false)) (ap_pickF rfl g14 rfl) rfl rfl ?_
                  refine wo_val (v := (.bool false)) (ap_pickF rfl g12 rfl) rfl rfl ?_
                  refine wo_nil ?_
                  exact wk_skip_nil ⟨rfl, rfl, (Lu rfl (Lu rfl (Lu rfl (Lu rfl (Lu rfl (Lu rfl (Lu rfl (Lu rfl (Lu rfl (Lu rfl (Lu rfl (Lu rfl (Lu rfl (Lu rfl (Lu rfl (Lu rfl (Lu rfl (Lu rfl (Lu rfl (Lu rfl (Lu rfl (Lu rfl (Lu rfl (Lu rfl (Lu rfl (Lu rfl (Lu rfl (Lu rfl (Lu rfl (Lu rfl (Lu rfl (Lu rfl (Lu rfl (Lu rfl Lr)))))))))))))))))))))))))))))))))), (agC (congrArg Value.bool (show false = (((((decide (wordV a p < 0)) == (decide (wordV b q < 0))) && (binV (19 : Int) (wordV a p) (wordV b q) != binV (17 : Int) (wordV a p) (wordV b q))) || (((decide (wordV a p < 0)) && (decide ((0 : Int) ≤ wordV b q))) && (binV (19 : Int) (wordV a p) (wordV b q) != 0))) || (((decide ((0 : Int) ≤ wordV a p)) && (decide (wordV b q < 0))) && (binV (19 : Int) (wordV a p) (wordV b q) != 1))) by simp only [↓g8, ↓g9, ↓g10, ↓g11, ↓g12, ↓g13, ↓g14, BT])) agN)⟩
              · have pg13 := g13
                try simp only [BS] at pg13
                refine wo_gf1 rfl g13 rfl ?_
                refine wo_gt rfl g12 ?_
                refine wo_val (v := (.bool false)) (ap_pickF rfl g13 rfl) rfl rfl ?_
                refine wo_gt rfl g12 ?_
                refine wm (.bool false) rfl rfl rfl ?_
                refine wo_gf1 rfl rfl rfl ?_
                refine wo_gf1 rfl rfl rfl ?_
                refine wo_gt rfl g12 ?_
                refine wo_val (v := (.bool false)) (ap_pickF rfl rfl rfl) rfl rfl ?_
                refine wo_val (v := (.bool false)) (ap_pickF rfl g12 rfl) rfl rfl ?_
                refine wo_nil ?_
                exact wk_skip_nil ⟨rfl, rfl, (Lu rfl (Lu rfl (Lu rfl (Lu rfl (Lu rfl (Lu rfl (Lu rfl (Lu rfl (Lu rfl (Lu rfl (Lu rfl (Lu rfl (Lu rfl (Lu rfl (Lu rfl (Lu rfl (Lu rfl (Lu rfl (Lu rfl (Lu rfl (Lu rfl (Lu rfl (Lu rfl (Lu rfl (Lu rfl (Lu rfl (Lu rfl (Lu rfl (Lu rfl (Lu rfl (Lu rfl (Lu rfl (Lu rfl (Lu rfl Lr)))))))))))))))))))))))))))))))))), (agC (congrArg Value.bool (show false = (((((decide (wordV a p < 0)) == (decide (wordV b q < 0))) && (binV (19 : Int) (wordV a p) (wordV b q) != binV (17 : Int) (wordV a p) (wordV b q))) || (((decide (wordV a p < 0)) && (decide ((0 : Int) ≤ wordV b q))) && (binV (19 : Int) (wordV a p) (wordV b q) != 0))) || (((decide ((0 : Int) ≤ wordV a p)) && (decide (wordV b q < 0))) && (binV (19 : Int) (wordV a p) (wordV b q) != 1))) by simp only [↓g8, ↓g9, ↓g10, ↓g11, ↓g12, ↓g13, BT])) agN)⟩
            · have pg12 := g12
              try simp only [BS] at pg12
              refine wo_gf0 rfl g12 rfl ?_
              refine wo_gf0 rfl g12 rfl ?_
              refine wo_gn rfl rfl ?_
              refine wo_gn rfl rfl ?_
              refine wo_gf0 rfl g12 rfl ?_
              refine wo_gf0 rfl g12 rfl ?_
              refine wo_gn rfl rfl ?_
              refine wo_gn rfl rfl ?_
              refine wo_gf0 rfl g12 rfl ?_
              refine wo_val (v := (.bool true)) (ap_pickT rfl g12 rfl) rfl rfl ?_
              refine wo_nil ?_
              exact wk_skip_nil ⟨rfl, rfl, (Lu rfl (Lu rfl (Lu rfl (Lu rfl (Lu rfl (Lu rfl (Lu rfl (Lu rfl (Lu rfl (Lu rfl (Lu rfl (Lu rfl (Lu rfl (Lu rfl (Lu rfl (Lu rfl (Lu rfl (Lu rfl (Lu rfl (Lu rfl (Lu rfl (Lu rfl (Lu rfl (Lu rfl (Lu rfl (Lu rfl (Lu rfl (Lu rfl (Lu rfl (Lu rfl (Lu rfl (Lu rfl (Lu rfl (Lu rfl Lr)))))))))))))))))))))))))))))))))), (agC (congrArg Value.bool (show true = (((((decide (wordV a p < 0)) == (decide (wordV b q < 0))) && (binV (19 : Int) (wordV a p) (wordV b q) != binV (17 : Int) (wordV a p) (wordV b q))) || (((decide (wordV a p < 0)) && (decide ((0 : Int) ≤ wordV b q))) && (binV (19 : Int) (wordV a p) (wordV b q) != 0))) || (((decide ((0 : Int) ≤ wordV a p)) && (decide (wordV b q < 0))) && (binV (19 : Int) (wordV a p) (wordV b q) != 1))) by simp only [↓g8, ↓g9, ↓g10, ↓g11, ↓g12, BT])) agN)⟩
          · have pg11 := g11
            try simp only [BS] at pg11
            refine wo_gf1 rfl g11 rfl ?_
            refine wo_gt rfl g9 ?_
            refine wo_val (v := (.bool false)) (ap_pickF rfl g11 rfl) rfl rfl ?_
            refine wo_val (v := (.bool false)) (ap_pickF rfl g9 rfl) rfl rfl ?_
            refine wm (.bool false) rfl rfl rfl ?_
            refine wo_gt rfl rfl ?_
            refine wm (.int .i64 (wordV a p)) rfl rfl rfl ?_
            refine wo_gt rfl rfl ?_
            refine wo_val (v := (.bool (decide ((0 : Int) ≤ wordV a p)))) (ap_cmp rfl rfl rfl rfl) rfl rfl ?_
            refine wo_gt rfl rfl ?_
            refine wm (.bool (decide ((0 : Int) ≤ wordV a p))) rfl rfl rfl ?_
            refine wo_gsT (v := (decide ((0 : Int) ≤ wordV a p))) rfl rfl (fun g15 => ?_) (fun g15 => ?_)
            · have pg15 := g15
              try simp only [BS] at pg15
              refine wm (.int .i64 (wordV b q)) rfl rfl rfl ?_
              refine wo_gt rfl g15 ?_
              refine wo_val (v := (.bool (decide (wordV b q < 0)))) (ap_cmp rfl rfl rfl rfl) rfl rfl ?_
              refine wo_gt rfl rfl ?_
              refine wo_val (v := (.bool (decide (wordV b q < 0)))) (ap_pickT rfl g15 rfl) rfl rfl ?_
              refine wo_gt rfl rfl ?_
              refine wm (.bool (decide (wordV b q < 0))) rfl rfl rfl ?_
              refine wo_gsT (v := (decide (wordV b q < 0))) rfl rfl (fun g16 => ?_) (fun g16 => ?_)
              · have pg16 := g16
                try simp only [BS] at pg16
                refine wm (.int .i64 (binV (19 : Int) (wordV a p) (wordV b q))) rfl rfl rfl ?_
                refine wo_gt rfl g16 ?_
                refine wo_val (v := (.bool (binV (19 : Int) (wordV a p) (wordV b q) != 1))) (ap_cmp rfl rfl rfl rfl) rfl rfl ?_
                refine wo_gt rfl rfl ?_
                refine wo_val (v := (.bool (binV (19 : Int) (wordV a p) (wordV b q) != 1))) (ap_pickT rfl g16 rfl) rfl rfl ?_
                refine wo_val (v := (.bool (binV (19 : Int) (wordV a p) (wordV b q) != 1))) (ap_pickF rfl rfl rfl) rfl rfl ?_
                refine wo_nil ?_
                exact wk_skip_nil ⟨rfl, rfl, (Lu rfl (Lu rfl (Lu rfl (Lu rfl (Lu rfl (Lu rfl (Lu rfl (Lu rfl (Lu rfl (Lu rfl (Lu rfl (Lu rfl (Lu rfl (Lu rfl (Lu rfl (Lu rfl (Lu rfl (Lu rfl (Lu rfl (Lu rfl (Lu rfl (Lu rfl (Lu rfl (Lu rfl (Lu rfl (Lu rfl (Lu rfl (Lu rfl (Lu rfl (Lu rfl (Lu rfl (Lu rfl (Lu rfl (Lu rfl Lr)))))))))))))))))))))))))))))))))), (agC (congrArg Value.bool (show (binV (19 : Int) (wordV a p) (wordV b q) != 1) = (((((decide (wordV a p < 0)) == (decide (wordV b q < 0))) && (binV (19 : Int) (wordV a p) (wordV b q) != binV (17 : Int) (wordV a p) (wordV b q))) || (((decide (wordV a p < 0)) && (decide ((0 : Int) ≤ wordV b q))) && (binV (19 : Int) (wordV a p) (wordV b q) != 0))) || (((decide ((0 : Int) ≤ wordV a p)) && (decide (wordV b q < 0))) && (binV (19 : Int) (wordV a p) (wordV b q) != 1))) by simp only [↓g8, ↓g9, ↓g10, ↓g11, ↓g15, ↓g16, BT])) agN)⟩
              · have pg16 := g16
                try simp only [BS] at pg16
                refine wo_gf1 rfl g16 rfl ?_
                refine wo_gt rfl rfl ?_
                refine wo_val (v := (.bool false)) (ap_pickF rfl g16 rfl) rfl rfl ?_
                refine wo_val (v := (.bool false)) (ap_pickF rfl rfl rfl) rfl rfl ?_
                refine wo_nil ?_
                exact wk_skip_nil ⟨rfl, rfl, (Lu rfl (Lu rfl (Lu rfl (Lu rfl (Lu rfl (Lu rfl (Lu rfl (Lu rfl (Lu rfl (Lu rfl (Lu rfl (Lu rfl (Lu rfl (Lu rfl (Lu rfl (Lu rfl (Lu rfl (Lu rfl (Lu rfl (Lu rfl (Lu rfl (Lu rfl (Lu rfl (Lu rfl (Lu rfl (Lu rfl (Lu rfl (Lu rfl (Lu rfl (Lu rfl (Lu rfl (Lu rfl (Lu rfl (Lu rfl Lr)))))))))))))))))))))))))))))))))), (agC (congrArg Value.bool (show false = (((((decide (wordV a p < 0)) == (decide (wordV b q < 0))) && (binV (19 : Int) (wordV a p) (wordV b q) != binV (17 : Int) (wordV a p) (wordV b q))) || (((decide (wordV a p < 0)) && (decide ((0 : Int) ≤ wordV b q))) && (binV (19 : Int) (wordV a p) (wordV b q) != 0))) || (((decide ((0 : Int) ≤ wordV a p)) && (decide (wordV b q < 0))) && (binV (19 : Int) (wordV a p) (wordV b q) != 1))) by simp only [↓g8, ↓g9, ↓g10, ↓g11, ↓g15, ↓g16, BT])) agN)⟩
            · have pg15 := g15
              try simp only [BS] at pg15
              refine wo_gf1 rfl g15 rfl ?_
              refine wo_gt rfl rfl ?_
              refine wo_val (v := (.bool false)) (ap_pickF rfl g15 rfl) rfl rfl ?_
              refine wo_gt rfl rfl ?_
              refine wm (.bool false) rfl rfl rfl ?_
              refine wo_gf1 rfl rfl rfl ?_
              refine wo_gf1 rfl rfl rfl ?_
              refine wo_gt rfl rfl ?_
              refine wo_val (v := (.bool false)) (ap_pickF rfl rfl rfl) rfl rfl ?_
              refine wo_val (v := (.bool false)) (ap_pickF rfl rfl rfl) rfl rfl ?_
              refine wo_nil ?_
              exact wk_skip_nil ⟨rfl, rfl, (Lu rfl (Lu rfl (Lu rfl (Lu rfl (Lu rfl (Lu rfl (Lu rfl (Lu rfl (Lu rfl (Lu rfl (Lu rfl (Lu rfl (Lu rfl (Lu rfl (Lu rfl (Lu rfl (Lu rfl (Lu rfl (Lu rfl (Lu rfl (Lu rfl (Lu rfl (Lu rfl (Lu rfl (Lu rfl (Lu rfl (Lu rfl (Lu rfl (Lu rfl (Lu rfl (Lu rfl (Lu rfl (Lu rfl (Lu rfl Lr)))))))))))))))))))))))))))))))))), (agC (congrArg Value.bool (show false = (((((decide (wordV a p < 0)) == (decide (wordV b q < 0))) && (binV (19 : Int) (wordV a p) (wordV b q) != binV (17 : Int) (wordV a p) (wordV b q))) || (((decide (wordV a p < 0)) && (decide ((0 : Int) ≤ wordV b q))) && (binV (19 : Int) (wordV a p) (wordV b q) != 0))) || (((decide ((0 : Int) ≤ wordV a p)) && (decide (wordV b q < 0))) && (binV (19 : Int) (wordV a p) (wordV b q) != 1))) by simp only [↓g8, ↓g9, ↓g10, ↓g11, ↓g15, BT])) agN)⟩
        · have pg10 := g10
          try simp only [BS] at pg10
          refine wo_gf1 rfl g10 rfl ?_
          refine wo_gt rfl g9 ?_
          refine wo_val (v := (.bool false)) (ap_pickF rfl g10 rfl) rfl rfl ?_
          refine wo_gt rfl g9 ?_
          refine wm (.bool false) rfl rfl rfl ?_
          refine wo_gf1 rfl rfl rfl ?_
          refine wo_gf1 rfl rfl rfl ?_
          refine wo_gt rfl g9 ?_
          refine wo_val (v := (.bool false)) (ap_pickF rfl rfl rfl) rfl rfl ?_
          refine wo_val (v := (.bool false)) (ap_pickF rfl g9 rfl) rfl rfl ?_
          refine wm (.bool false) rfl rfl rfl ?_
          refine wo_gt rfl rfl ?_
          refine wm (.int .i64 (wordV a p)) rfl rfl rfl ?_
          refine wo_gt rfl rfl ?_
          refine wo_val (v := (.bool (decide ((0 : Int) ≤ wordV a p)))) (ap_cmp rfl rfl rfl rfl) rfl rfl ?_
          refine wo_gt rfl rfl ?_
          refine wm (.bool (decide ((0 : Int) ≤ wordV a p))) rfl rfl rfl ?_
          refine wo_gsT (v := (decide ((0 : Int) ≤ wordV a p))) rfl rfl (fun g17 => ?_) (fun g17 => ?_)
          · have pg17 := g17
            try simp only [BS] at pg17
            refine wm (.int .i64 (wordV b q)) rfl rfl rfl ?_
            refine wo_gt rfl g17 ?_
            refine wo_val (v := (.bool (decide (wordV b q < 0)))) (ap_cmp rfl rfl rfl rfl) rfl rfl ?_
            refine wo_gt rfl rfl ?_
            refine wo_val (v := (.bool (decide (wordV b q < 0)))) (ap_pickT rfl g17 rfl) rfl rfl ?_
            refine wo_gt rfl rfl ?_
            refine wm (.bool (decide (wordV b q < 0))) rfl rfl rfl ?_
            refine wo_gsT (v := (decide (wordV b q < 0))) rfl rfl (fun g18 => ?_) (fun g18 => ?_)
            · have pg18 := g18
              try simp only [BS] at pg18
              refine wm (.int .i64 (binV (19 : Int) (wordV a p) (wordV b q))) rfl rfl rfl ?_
              refine wo_gt rfl g18 ?_
              refine wo_val (v := (.bool (binV (19 : Int) (wordV a p) (wordV b q) != 1))) (ap_cmp rfl rfl rfl rfl) rfl rfl ?_
              refine wo_gt rfl rfl ?_
              refine wo_val (v := (.bool (binV (19 : Int) (wordV a p) (wordV b q) != 1))) (ap_pickT rfl g18 rfl) rfl rfl ?_
              refine wo_val (v := (.bool (binV (19 : Int) (wordV a p) (wordV b q) != 1))) (ap_pickF rfl rfl rfl) rfl rfl ?_
              refine wo_nil ?_
              exact wk_skip_nil ⟨rfl, rfl, (Lu rfl (Lu rfl (Lu rfl (Lu rfl (Lu rfl (Lu rfl (Lu rfl (Lu rfl (Lu rfl (Lu rfl (Lu rfl (Lu rfl (Lu rfl (Lu rfl (Lu rfl (Lu rfl (Lu rfl (Lu rfl (Lu rfl (Lu rfl (Lu rfl (Lu rfl (Lu rfl (Lu rfl (Lu rfl (Lu rfl (Lu rfl (Lu rfl (Lu rfl (Lu rfl (Lu rfl (Lu rfl (Lu rfl (Lu rfl Lr)))))))))))))))))))))))))))))))))), (agC (congrArg Value.bool (show (binV (19 : Int) (wordV a p) (wordV b q) != 1) = (((((decide (wordV a p < 0)) == (decide (wordV b q < 0))) && (binV (19 : Int) (wordV a p) (wordV b q) != binV (17 : Int) (wordV a p) (wordV b q))) || (((decide (wordV a p < 0)) && (decide ((0 : Int) ≤ wordV b q))) && (binV (19 : Int) (wordV a p) (wordV b q) != 0))) || (((decide ((0 : Int) ≤ wordV a p)) && (decide (wordV b q < 0))) && (binV (19 : Int) (wordV a p) (wordV b q) != 1))) by simp only [↓g8, ↓g9, ↓g10, ↓g17, ↓g18, BT])) agN)⟩
            · have pg18 := g18
              try simp only [BS] at pg18
              refine wo_gf1 rfl g18 rfl ?_
              refine wo_gt rfl rfl ?_
              refine wo_val (v := (.bool false)) (ap_pickF rfl g18 rfl) rfl rfl ?_
              refine wo_val (v := (.bool false)) (ap_pickF rfl rfl rfl) rfl rfl ?_
              refine wo_nil ?_
              exact wk_skip_nil ⟨rfl, rfl, (Lu rfl (Lu rfl (Lu rfl (Lu rfl (Lu rfl (Lu rfl (Lu rfl (Lu rfl (Lu rfl (Lu rfl (Lu rfl (Lu rfl (Lu rfl (Lu rfl (Lu rfl (Lu rfl (Lu rfl (Lu rfl (Lu rfl (Lu rfl (Lu rfl (Lu rfl (Lu rfl (Lu rfl (Lu rfl (Lu rfl (Lu rfl (Lu rfl (Lu rfl (Lu rfl (Lu rfl (Lu rfl (Lu rfl (Lu rfl Lr)))))))))))))))))))))))))))))))))), (agC (congrArg Value.bool (show false = (((((decide (wordV a p < 0)) == (decide (wordV b q < 0))) && (binV (19 : Int) (wordV a p) (wordV b q) != binV (17 : Int) (wordV a p) (wordV b q))) || (((decide (wordV a p < 0)) && (decide ((0 : Int) ≤ wordV b q))) && (binV (19 : Int) (wordV a p) (wordV b q) != 0))) || (((decide ((0 : Int) ≤ wordV a p)) && (decide (wordV b q < 0))) && (binV (19 : Int) (wordV a p) (wordV b q) != 1))) by simp only [↓g8, ↓g9, ↓g10, ↓g17, ↓g18, BT])) agN)⟩
          · have pg17 := g17
            try simp only [BS] at pg17
            refine wo_gf1 rfl g17 rfl ?_
            refine wo_gt rfl rfl ?_
            refine wo_val (v := (.bool false)) (ap_pickF rfl g17 rfl) rfl rfl ?_
            refine wo_gt rfl rfl ?_
            refine wm (.bool false) rfl rfl rfl ?_
            refine wo_gf1 rfl rfl rfl ?_
            refine wo_gf1 rfl rfl rfl ?_
            refine wo_gt rfl rfl ?_
            refine wo_val (v := (.bool false)) (ap_pickF rfl rfl rfl) rfl rfl ?_
            refine wo_val (v := (.bool false)) (ap_pickF rfl rfl rfl) rfl rfl ?_
            refine wo_nil ?_
            exact wk_skip_nil ⟨rfl, rfl, (Lu rfl (Lu rfl (Lu rfl (Lu rfl (Lu rfl (Lu rfl (Lu rfl (Lu rfl (Lu rfl (Lu rfl (Lu rfl (Lu rfl (Lu rfl (Lu rfl (Lu rfl (Lu rfl (Lu rfl (Lu rfl (Lu rfl (Lu rfl (Lu rfl (Lu rfl (Lu rfl (Lu rfl (Lu rfl (Lu rfl (Lu rfl (Lu rfl (Lu rfl (Lu rfl (Lu rfl (Lu rfl (Lu rfl (Lu rfl Lr)))))))))))))))))))))))))))))))))), (agC (congrArg Value.bool (show false = (((((decide (wordV a p < 0)) == (decide (wordV b q < 0))) && (binV (19 : Int) (wordV a p) (wordV b q) != binV (17 : Int) (wordV a p) (wordV b q))) || (((decide (wordV a p < 0)) && (decide ((0 : Int) ≤ wordV b q))) && (binV (19 : Int) (wordV a p) (wordV b q) != 0))) || (((decide ((0 : Int) ≤ wordV a p)) && (decide (wordV b q < 0))) && (binV (19 : Int) (wordV a p) (wordV b q) != 1))) by simp only [↓g8, ↓g9, ↓g10, ↓g17, BT])) agN)⟩
      · have pg9 := g9
        try simp only [BS] at pg9
        refine wo_gf0 rfl g9 rfl ?_
        refine wo_gf0 rfl g9 rfl ?_
        refine wo_gn rfl rfl ?_
        refine wo_gn rfl rfl ?_
        refine wo_gf0 rfl g9 rfl ?_
        refine wo_gf0 rfl g9 rfl ?_
        refine wo_gn rfl rfl ?_
        refine wo_gn rfl rfl ?_
        refine wo_gf0 rfl g9 rfl ?_
        refine wo_val (v := (.bool true)) (ap_pickT rfl g9 rfl) rfl rfl ?_
        refine wm (.bool true) rfl rfl rfl ?_
        refine wo_gf0 rfl rfl rfl ?_
        refine wo_gf0 rfl rfl rfl ?_
        refine wo_gf0 rfl rfl rfl ?_
        refine wo_gn rfl rfl ?_
        refine wo_gn rfl rfl ?_
        refine wo_gf0 rfl rfl rfl ?_
        refine wo_gf0 rfl rfl rfl ?_
        refine wo_gn rfl rfl ?_
        refine wo_gn rfl rfl ?_
        refine wo_gf0 rfl rfl rfl ?_
        refine wo_val (v := (.bool true)) (ap_pickT rfl rfl rfl) rfl rfl ?_
        refine wo_nil ?_
        exact wk_skip_nil ⟨rfl, rfl, (Lu rfl (Lu rfl (Lu rfl (Lu rfl (Lu rfl (Lu rfl (Lu rfl (Lu rfl (Lu rfl (Lu rfl (Lu rfl (Lu rfl (Lu rfl (Lu rfl (Lu rfl (Lu rfl (Lu rfl (Lu rfl (Lu rfl (Lu rfl (Lu rfl (Lu rfl (Lu rfl (Lu rfl (Lu rfl (Lu rfl (Lu rfl (Lu rfl (Lu rfl (Lu rfl (Lu rfl (Lu rfl (Lu rfl (Lu rfl Lr)))))))))))))))))))))))))))))))))), (agC (congrArg Value.bool (show true = (((((decide (wordV a p < 0)) == (decide (wordV b q < 0))) && (binV (19 : Int) (wordV a p) (wordV b q) != binV (17 : Int) (wordV a p) (wordV b q))) || (((decide (wordV a p < 0)) && (decide ((0 : Int) ≤ wordV b q))) && (binV (19 : Int) (wordV a p) (wordV b q) != 0))) || (((decide ((0 : Int) ≤ wordV a p)) && (decide (wordV b q < 0))) && (binV (19 : Int) (wordV a p) (wordV b q) != 1))) by simp only [↓g8, ↓g9, BT])) agN)⟩
    · have pg8 := g8
      try simp only [BS] at pg8
      refine wo_gf1 rfl g8 rfl ?_
      refine wo_gf1 rfl g8 rfl ?_
      refine wo_val (v := (.bool false)) (ap_pickF rfl g8 rfl) rfl rfl ?_
      refine wm (.bool false) rfl rfl rfl ?_
      refine wo_gt rfl rfl ?_
      refine wm (.int .i64 (wordV a p)) rfl rfl rfl ?_
      refine wo_gt rfl rfl ?_
      refine wo_val (v := (.bool (decide (wordV a p < 0)))) (ap_cmp rfl rfl rfl rfl) rfl rfl ?_
      refine wo_gt rfl rfl ?_
      refine wm (.bool (decide (wordV a p < 0))) rfl rfl rfl ?_
      refine wo_gsT (v := (decide (wordV a p < 0))) rfl rfl (fun g19 => ?_) (fun g19 => ?_)
      · have pg19 := g19
        try simp only [BS] at pg19
        refine wm (.int .i64 (wordV b q)) rfl rfl rfl ?_
        refine wo_gt rfl g19 ?_
        refine wo_val (v := (.bool (decide ((0 : Int) ≤ wordV b q)))) (ap_cmp rfl rfl rfl rfl) rfl rfl ?_
        refine wo_gt rfl rfl ?_
        refine wo_val (v := (.bool (decide ((0 : Int) ≤ wordV b q)))) (ap_pickT rfl g19 rfl) rfl rfl ?_
        refine wo_gt rfl rfl ?_
        refine wm (.bool (decide ((0 : Int) ≤ wordV b q))) rfl rfl rfl ?_
        refine wo_gsT (v := (decide ((0 : Int) ≤ wordV b q))) rfl rfl (fun g20 => ?_) (fun g20 => ?_)
        · have pg20 := g20
          try simp only [BS] at pg20
          refine wm (.int .i64 (binV (19 : Int) (wordV a p) (wordV b q))) rfl rfl rfl ?_
          refine wo_gt rfl g20 ?_
          refine wo_val (v := (.bool (binV (19 : Int) (wordV a p) (wordV b q) != 0))) (ap_cmp rfl rfl rfl rfl) rfl rfl ?_
          refine wo_gt rfl rfl ?_
          refine wo_val (v := (.bool (binV (19 : Int) (wordV a p) (wordV b q) != 0))) (ap_pickT rfl g20 rfl) rfl rfl ?_
          refine wo_val (v := (.bool (binV (19 : Int) (wordV a p) (wordV b q) != 0))) (ap_pickF rfl rfl rfl) rfl rfl ?_
          refine wm (.bool (binV (19 : Int) (wordV a p) (wordV b q) != 0)) rfl rfl rfl ?_
          refine wo_gsF (v := (binV (19 : Int) (wordV a p) (wordV b q) != 0)) rfl rfl (fun g21 => ?_) (fun g21 => ?_)
          · have pg21 := g21
            try simp only [BS] at pg21
            refine wm (.int .i64 (wordV a p)) rfl rfl rfl ?_
            refine wo_gt rfl g21 ?_
            refine wo_val (v := (.bool (decide ((0 : Int) ≤ wordV a p)))) (ap_cmp rfl rfl rfl rfl) rfl rfl ?_
            refine wo_gt rfl g21 ?_
            refine wm (.bool (decide ((0 : Int) ≤ wordV a p))) rfl rfl rfl ?_
            refine wo_gsT (v := (decide ((0 : Int) ≤ wordV a p))) rfl rfl (fun g22 => ?_) (fun g22 => ?_)
            · have pg22 := g22
              try simp only [BS] at pg22
              refine wm (.int .i64 (wordV b q)) rfl rfl rfl ?_
              refine wo_gt rfl g22 ?_
              refine wo_val (v := (.bool (decide (wordV b q < 0)))) (ap_cmp rfl rfl rfl rfl) rfl rfl ?_
              refine wo_gt rfl g21 ?_
              refine wo_val (v := (.bool (decide (wordV b q < 0)))) (ap_pickT rfl g22 rfl) rfl rfl ?_
              refine wo_gt rfl g21 ?_
              refine wm (.bool (decide (wordV b q < 0))) rfl rfl rfl ?_
              refine wo_gsT (v := (decide (wordV b q < 0))) rfl rfl (fun g23 => ?_) (fun g23 => ?_)
              · have pg23 := g23
                try simp only [BS] at pg23
                refine wm (.int .i64 (binV (19 : Int) (wordV a p) (wordV b q))) rfl rfl rfl ?_
                refine wo_gt rfl g23 ?_
                refine wo_val (v := (.bool (binV (19 : Int) (wordV a p) (wordV b q) != 1))) (ap_cmp rfl rfl rfl rfl) rfl rfl ?_
                refine wo_gt rfl g21 ?_
                refine wo_val (v := (.bool (binV (19 : Int) (wordV a p) (wordV b q) != 1))) (ap_pickT rfl g23 rfl) rfl rfl ?_
                refine wo_val (v := (.bool (binV (19 : Int) (wordV a p) (wordV b q) != 1))) (ap_pickF rfl g21 rfl) rfl rfl ?_
                refine wo_nil ?_
                exact wk_skip_nil ⟨rfl, rfl, (Lu rfl (Lu rfl (Lu rfl (Lu rfl (Lu rfl (Lu rfl (Lu rfl (Lu rfl (Lu rfl (Lu rfl (Lu rfl (Lu rfl (Lu rfl (Lu rfl (Lu rfl (Lu rfl (Lu rfl (Lu rfl (Lu rfl (Lu rfl (Lu rfl (Lu rfl (Lu rfl (Lu rfl (Lu rfl (Lu rfl (Lu rfl (Lu rfl (Lu rfl (Lu rfl (Lu rfl (Lu rfl (Lu rfl (Lu rfl Lr)))))))))))))))))))))))))))))))))), (agC (congrArg Value.bool (show (binV (19 : Int) (wordV a p) (wordV b q) != 1) = (((((decide (wordV a p < 0)) == (decide (wordV b q < 0))) && (binV (19 : Int) (wordV a p) (wordV b q) != binV (17 : Int) (wordV a p) (wordV b q))) || (((decide (wordV a p < 0)) && (decide ((0 : Int) ≤ wordV b q))) && (binV (19 : Int) (wordV a p) (wordV b q) != 0))) || (((decide ((0 : Int) ≤ wordV a p)) && (decide (wordV b q < 0))) && (binV (19 : Int) (wordV a p) (wordV b q) != 1))) by simp only [↓g8, ↓g19, ↓g20, ↓g21, ↓g22, ↓g23, BT])) agN)⟩
              · have pg23 := g23
                try simp only [BS] at pg23
                refine wo_gf1 rfl g23 rfl ?_
                refine wo_gt rfl g21 ?_
                refine wo_val (v := (.bool false)) (ap_pickF rfl g23 rfl) rfl rfl ?_
                refine wo_val (v := (.bool false)) (ap_pickF rfl g21 rfl) rfl rfl ?_
                refine wo_nil ?_
                exact wk_skip_nil ⟨rfl, rfl, (Lu rfl (Lu rfl (Lu rfl (Lu rfl (Lu rfl (Lu rfl (Lu rfl (Lu rfl (Lu rfl (Lu rfl (Lu rfl (Lu rfl (Lu rfl (Lu rfl (Lu rfl (Lu rfl (Lu rfl (Lu rfl (Lu rfl (Lu rfl (Lu rfl (Lu rfl (Lu rfl (Lu rfl (Lu rfl (Lu rfl (Lu rfl (Lu rfl (Lu rfl (Lu rfl (Lu rfl (Lu rfl (Lu rfl (Lu rfl Lr)))))))))))))))))))))))))))))))))), (agC (congrArg Value.bool (show false = (((((decide (wordV a p < 0)) == (decide (wordV b q < 0))) && (binV (19 : Int) (wordV a p) (wordV b q) != binV (17 : Int) (wordV a p) (wordV b q))) || (((decide (wordV a p < 0)) && (decide ((0 : Int) ≤ wordV b q))) && (binV (19 : Int) (wordV a p) (wordV b q) != 0))) || (((decide ((0 : Int) ≤ wordV a p)) && (decide (wordV b q < 0))) && (binV (19 : Int) (wordV a p) (wordV b q) != 1))) by simp only [↓g8, ↓g19, ↓g20, ↓g21, ↓g22, ↓g23, BT])) agN)⟩
            · have pg22 := g22
              try simp only [BS] at pg22
              refine wo_gf1 rfl g22 rfl ?_
              refine wo_gt rfl g21 ?_
              refine wo_val (v := (.bool false)) (ap_pickF rfl g22 rfl) rfl rfl ?_
              refine wo_gt rfl g21 ?_
              refine wm (.bool false) rfl rfl rfl ?_
              refine wo_gf1 rfl rfl rfl ?_
              refine wo_gf1 rfl rfl rfl ?_
              refine wo_gt rfl g21 ?_
              refine wo_val (v := (.bool false)) (ap_pickF rfl rfl rfl) rfl rfl ?_
              refine wo_val (v := (.bool false)) (ap_pickF rfl g21 rfl) rfl rfl ?_
              refine wo_nil ?_
              exact wk_skip_nil ⟨rfl, rfl, (Lu rfl (Lu rfl (Lu rfl (Lu rfl (Lu rfl (Lu rfl (Lu rfl (Lu rfl (Lu rfl (Lu rfl (Lu rfl (Lu rfl (Lu rfl (Lu rfl (Lu rfl (Lu rfl (Lu rfl (Lu rfl (Lu rfl (Lu rfl (Lu rfl (Lu rfl (Lu rfl (Lu rfl (Lu rfl (Lu rfl (Lu rfl (Lu rfl (Lu rfl (Lu rfl (Lu rfl (Lu rfl (Lu rfl (Lu rfl Lr)))))))))))))))))))))))))))))))))), (agC (congrArg Value.bool (show false = (((((decide (wordV a p < 0)) == (decide (wordV b q < 0))) && (binV (19 : Int) (wordV a p) (wordV b q) != binV (17 : Int) (wordV a p) (wordV b q))) || (((decide (wordV a p < 0)) && (decide ((0 : Int) ≤ wordV b q))) && (binV (19 : Int) (wordV a p) (wordV b q) != 0))) || (((decide ((0 : Int) ≤ wordV a p)) && (decide (wordV b q < 0))) && (binV (19 : Int) (wordV a p) (wordV b q) != 1))) by simp only [↓g8, ↓g19, ↓g20, ↓g21, ↓g22, BT])) agN)⟩
          · have pg21 := g21
            try simp only [BS] at pg21
            refine wo_gf0 rfl g21 rfl ?_
            refine wo_gf0 rfl g21 rfl ?_
            refine wo_gn rfl rfl ?_
            refine wo_gn rfl rfl ?_
            refine wo_gf0 rfl g21 rfl ?_
            refine wo_gf0 rfl g21 rfl ?_
            refine wo_gn rfl rfl ?_
            refine wo_gn rfl rfl ?_
            refine wo_gf0 rfl g21 rfl ?_
            refine wo_val (v := (.bool true)) (ap_pickT rfl g21 rfl) rfl rfl ?_
            refine wo_nil ?_
            exact wk_skip_nil ⟨rfl, rfl, (Lu rfl (Lu rfl (Lu rfl (Lu rfl (Lu rfl (Lu rfl (Lu rfl (Lu rfl (Lu rfl (Lu rfl (Lu rfl (Lu rfl (Lu rfl (Lu rfl (Lu rfl (Lu rfl (Lu rfl (Lu rfl (Lu rfl (Lu rfl (Lu rfl (Lu rfl (Lu rfl (Lu rfl (Lu rfl (Lu rfl (Lu rfl (Lu rfl (Lu rfl (Lu rfl (Lu rfl (Lu rfl (Lu rfl (Lu rfl Lr)))))))))))))))))))))))))))))))))), (agC (congrArg Value.bool (show true = (((((decide (wordV a p < 0)) == (decide (wordV b q < 0))) && (binV (19 : Int) (wordV a p) (wordV b q) != binV (17 : Int) (wordV a p) (wordV b q))) || (((decide (wordV a p < 0)) && (decide ((0 : Int) ≤ wordV b q))) && (binV (19 : Int) (wordV a p) (wordV b q) != 0))) || (((decide ((0 : Int) ≤ wordV a p)) && (decide (wordV b q < 0))) && (binV (19 : Int) (wordV a p) (wordV b q) != 1))) by simp only [↓g8, ↓g19, ↓g20, ↓g21, BT])) agN)⟩
        · have pg20 := g20
          try simp only [BS] at pg20
          refine wo_gf1 rfl g20 rfl ?_
          refine wo_gt rfl rfl ?_
          refine wo_val (v := (.bool false)) (ap_pickF rfl g20 rfl) rfl rfl ?_
          refine wo_val (v := (.bool false)) (ap_pickF rfl rfl rfl) rfl rfl ?_
          refine wm (.bool false) rfl rfl rfl ?_
          refine wo_gt rfl rfl ?_
          refine wm (.int .i64 (wordV a p)) rfl rfl rfl ?_
          refine wo_gt rfl rfl ?_
          refine wo_val (v := (.bool (decide ((0 : Int) ≤ wordV a p)))) (ap_cmp rfl rfl rfl rfl) rfl rfl ?_
          refine wo_gt rfl rfl ?_
          refine wm (.bool (decide ((0 : Int) ≤ wordV a p))) rfl rfl rfl ?_
          refine wo_gsT (v := (decide ((0 : Int) ≤ wordV a p))) rfl rfl (fun g24 => ?_) (fun g24 => ?_)
          · have pg24 := g24
            try simp only [BS] at pg24
            refine wm (.int .i64 (wordV b q)) rfl rfl rfl ?_
            refine wo_gt rfl g24 ?_
            refine wo_val (v := (.bool (decide (wordV b q < 0)))) (ap_cmp rfl rfl rfl rfl) rfl rfl ?_
            refine wo_gt rfl rfl ?_
            refine wo_val (v := (.bool (decide (wordV b q < 0)))) (ap_pickT rfl g24 rfl) rfl rfl ?_
            refine wo_gt rfl rfl ?_
            refine wm (.bool (decide (wordV b q < 0))) rfl rfl rfl ?_
            refine wo_gsT (v := (decide (wordV b q < 0))) rfl rfl (fun g25 => ?_) (fun g25 => ?_)
            · have pg25 := g25
              try simp only [BS] at pg25
              refine wm (.int .i64 (binV (19 : Int) (wordV a p) (wordV b q))) rfl rfl rfl ?_
              refine wo_gt rfl g25 ?_
              refine wo_val (v := (.bool (binV (19 : Int) (wordV a p) (wordV b q) != 1))) (ap_cmp rfl rfl rfl rfl) rfl rfl ?_
              refine wo_gt rfl rfl ?_
              refine wo_val (v := (.bool (binV (19 : Int) (wordV a p) (wordV b q) != 1))) (ap_pickT rfl g25 rfl) rfl rfl ?_
              refine wo_val (v := (.bool (binV (19 : Int) (wordV a p) (wordV b q) != 1))) (ap_pickF rfl rfl rfl) rfl rfl ?_
              refine wo_nil ?_
              exact wk_skip_nil ⟨rfl, rfl, (Lu rfl (Lu rfl (Lu rfl (Lu rfl (Lu rfl (Lu rfl (Lu rfl (Lu rfl (Lu rfl (Lu rfl (Lu rfl (Lu rfl (Lu rfl (Lu rfl (Lu rfl (Lu rfl (Lu rfl (Lu rfl (Lu rfl (Lu rfl (Lu rfl (Lu rfl (Lu rfl (Lu rfl (Lu rfl (Lu rfl (Lu rfl (Lu rfl (Lu rfl (Lu rfl (Lu rfl (Lu rfl (Lu rfl (Lu rfl Lr)))))))))))))))))))))))))))))))))), (agC (congrArg Value.bool (show (binV (19 : Int) (wordV a p) (wordV b q) != 1) = (((((decide (wordV a p < 0)) == (decide (wordV b q < 0))) && (binV (19 : Int) (wordV a p) (wordV b q) != binV (17 : Int) (wordV a p) (wordV b q))) || (((decide (wordV a p < 0)) && (decide ((0 : Int) ≤ wordV b q))) && (binV (19 : Int) (wordV a p) (wordV b q) != 0))) || (((decide ((0 : Int) ≤ wordV a p)) && (decide (wordV b q < 0))) && (binV (19 : Int) (wordV a p) (wordV b q) != 1))) by simp only [↓g8, ↓g19, ↓g20, ↓g24, ↓g25, BT])) agN)⟩
            · have pg25 := g25
              try simp only [BS] at pg25
              refine wo_gf1 rfl g25 rfl ?_
              refine wo_gt rfl rfl ?_
              refine wo_val (v := (.bool false)) (ap_pickF rfl g25 rfl) rfl rfl ?_
              refine wo_val (v := (.bool false)) (ap_pickF rfl rfl rfl) rfl rfl ?_
              refine wo_nil ?_
              exact wk_skip_nil ⟨rfl, rfl, (Lu rfl (Lu rfl (Lu rfl (Lu rfl (Lu rfl (Lu rfl (Lu rfl (Lu rfl (Lu rfl (Lu rfl (Lu rfl (Lu rfl (Lu rfl (Lu rfl (Lu rfl (Lu rfl (Lu rfl (Lu rfl (Lu rfl (Lu rfl (Lu rfl (Lu rfl (Lu rfl (Lu rfl (Lu rfl (Lu rfl (Lu rfl (Lu rfl (Lu rfl (Lu rfl (Lu rfl (Lu rfl (Lu rfl (Lu rfl Lr)))))))))))))))))))))))))))))))))), (agC (congrArg Value.bool (show false = (((((decide (wordV a p < 0)) == (decide (wordV b q < 0))) && (binV (19 : Int) (wordV a p) (wordV b q) != binV (17 : Int) (wordV a p) (wordV b q))) || (((decide (wordV a p < 0)) && (decide ((0 : Int) ≤ wordV b q))) && (binV (19 : Int) (wordV a p) (wordV b q) != 0))) || (((decide ((0 : Int) ≤ wordV a p)) && (decide (wordV b q < 0))) && (binV (19 : Int) (wordV a p) (wordV b q) != 1))) by simp only [↓g8, ↓g19, ↓g20, ↓g24, ↓g25, BT])) agN)⟩
          · have pg24 := g24
            try simp only [BS] at pg24
            refine wo_gf1 rfl g24 rfl ?_
            refine wo_gt rfl rfl ?_
            refine wo_val (v := (.bool false)) (ap_pickF rfl g24 rfl) rfl rfl ?_
            refine wo_gt rfl rfl ?_
            refine wm (.bool false) rfl rfl rfl ?_
            refine wo_gf1 rfl rfl rfl ?_
            refine wo_gf1 rfl rfl rfl ?_
            refine wo_gt rfl rfl ?_
            refine wo_val (v := (.bool false)) (ap_pickF rfl rfl rfl) rfl rfl ?_
            refine wo_val (v := (.bool false)) (ap_pickF rfl rfl rfl) rfl rfl ?_
            refine wo_nil ?_
            exact wk_skip_nil ⟨rfl, rfl, (Lu rfl (Lu rfl (Lu rfl (Lu rfl (Lu rfl (Lu rfl (Lu rfl (Lu rfl (Lu rfl (Lu rfl (Lu rfl (Lu rfl (Lu rfl (Lu rfl (Lu rfl (Lu rfl (Lu rfl (Lu rfl (Lu rfl (Lu rfl (Lu rfl (Lu rfl (Lu rfl (Lu rfl (Lu rfl (Lu rfl (Lu rfl (Lu rfl (Lu rfl (Lu rfl (Lu rfl (Lu rfl (Lu rfl (Lu rfl Lr)))))))))))))))))))))))))))))))))), (agC (congrArg Value.bool (show false = (((((decide (wordV a p < 0)) == (decide (wordV b q < 0))) && (binV (19 : Int) (wordV a p) (wordV b q) != binV (17 : Int) (wordV a p) (wordV b q))) || (((decide (wordV a p < 0)) && (decide ((0 : Int) ≤ wordV b q))) && (binV (19 : Int) (wordV a p) (wordV b q) != 0))) || (((decide ((0 : Int) ≤ wordV a p)) && (decide (wordV b q < 0))) && (binV (19 : Int) (wordV a p) (wordV b q) != 1))) by simp only [↓g8, ↓g19, ↓g20, ↓g24, BT])) agN)⟩
      · have pg19 := g19
        try simp only [BS] at pg19
        refine wo_gf1 rfl g19 rfl ?_
        refine wo_gt rfl rfl ?_
        refine wo_val (v := (.bool false)) (ap_pickF rfl g19 rfl) rfl rfl ?_
        refine wo_gt rfl rfl ?_
        refine wm (.bool false) rfl rfl rfl ?_
        refine wo_gf1 rfl rfl rfl ?_
        refine wo_gf1 rfl rfl rfl ?_
        refine wo_gt rfl rfl ?_
        refine wo_val (v := (.bool false)) (ap_pickF rfl rfl rfl) rfl rfl ?_
        refine wo_val (v := (.bool false)) (ap_pickF rfl rfl rfl) rfl rfl ?_
        refine wm (.bool false) rfl rfl rfl ?_
        refine wo_gt rfl rfl ?_
        refine wm (.int .i64 (wordV a p)) rfl rfl rfl ?_
        refine wo_gt rfl rfl ?_
        refine wo_val (v := (.bool (decide ((0 : Int) ≤ wordV a p)))) (ap_cmp rfl rfl rfl rfl) rfl rfl ?_
        refine wo_gt rfl rfl ?_
        refine wm (.bool (decide ((0 : Int) ≤ wordV a p))) rfl rfl rfl ?_
        refine wo_gsT (v := (decide ((0 : Int) ≤ wordV a p))) rfl rfl (fun g26 => ?_) (fun g26 => ?_)
        · have pg26 := g26
          try simp only [BS] at pg26
          refine wm (.int .i64 (wordV b q)) rfl rfl rfl ?_
          refine wo_gt rfl g26 ?_
          refine wo_val (v := (.bool (decide (wordV b q < 0)))) (ap_cmp rfl rfl rfl rfl) rfl rfl ?_
          refine wo_gt rfl rfl ?_
          refine wo_val (v := (.bool (decide (wordV b q < 0)))) (ap_pickT rfl g26 rfl) rfl rfl ?_
          refine wo_gt rfl rfl ?_
          refine wm (.bool (decide (wordV b q < 0))) rfl rfl rfl ?_
          refine wo_gsT (v := (decide (wordV b q < 0))) rfl rfl (fun g27 => ?_) (fun g27 => ?_)
          · have pg27 := g27
            try simp only [BS] at pg27
            refine wm (.int .i64 (binV (19 : Int) (wordV a p) (wordV b q))) rfl rfl rfl ?_
            refine wo_gt rfl g27 ?_
            refine wo_val (v := (.bool (binV (19 : Int) (wordV a p) (wordV b q) != 1))) (ap_cmp rfl rfl rfl rfl) rfl rfl ?_
            refine wo_gt rfl rfl ?_
            refine wo_val (v := (.bool (binV (19 : Int) (wordV a p) (wordV b q) != 1))) (ap_pickT rfl g27 rfl) rfl rfl ?_
            refine wo_val (v := (.bool (binV (19 : Int) (wordV a p) (wordV b q) != 1))) (ap_pickF rfl rfl rfl) rfl rfl ?_
            refine wo_nil ?_
            exact wk_skip_nil ⟨rfl, rfl, (Lu rfl (Lu rfl (Lu rfl (Lu rfl (Lu rfl (Lu rfl (Lu rfl (Lu rfl (Lu rfl (Lu rfl (Lu rfl (Lu rfl (Lu rfl (Lu rfl (Lu rfl (Lu rfl (Lu rfl (Lu rfl (Lu rfl (Lu rfl (Lu rfl (Lu rfl (Lu rfl (Lu rfl (Lu rfl (Lu rfl (Lu rfl (Lu rfl (Lu rfl (Lu rfl (Lu rfl (Lu rfl (Lu rfl (Lu rfl Lr)))))))))))))))))))))))))))))))))), (agC (congrArg Value.bool (show (binV (19 : Int) (wordV a p) (wordV b q) != 1) = (((((decide (wordV a p < 0)) == (decide (wordV b q < 0))) && (binV (19 : Int) (wordV a p) (wordV b q) != binV (17 : Int) (wordV a p) (wordV b q))) || (((decide (wordV a p < 0)) && (decide ((0 : Int) ≤ wordV b q))) && (binV (19 : Int) (wordV a p) (wordV b q) != 0))) || (((decide ((0 : Int) ≤ wordV a p)) && (decide (wordV b q < 0))) && (binV (19 : Int) (wordV a p) (wordV b q) != 1))) by simp only [↓g8, ↓g19, ↓g26, ↓g27, BT])) agN)⟩
          · have pg27 := g27
            try simp only [BS] at pg27
            refine wo_gf1 rfl g27 rfl ?_
            refine wo_gt rfl rfl ?_
            refine wo_val (v := (.bool false)) (ap_pickF rfl g27 rfl) rfl rfl ?_
            refine wo_val (v := (.bool false)) (ap_pickF rfl rfl rfl) rfl rfl ?_
            refine wo_nil ?_
            exact wk_skip_nil ⟨rfl, rfl, (Lu rfl (Lu rfl (Lu rfl (Lu rfl (Lu rfl (Lu rfl (Lu rfl (Lu rfl (Lu rfl (Lu rfl (Lu rfl (Lu rfl (Lu rfl (Lu rfl (Lu rfl (Lu rfl (Lu rfl (Lu rfl (Lu rfl (Lu rfl (Lu rfl (Lu rfl (Lu rfl (Lu rfl (Lu rfl (Lu rfl (Lu rfl (Lu rfl (Lu rfl (Lu rfl (Lu rfl (Lu rfl (Lu rfl (Lu rfl Lr)))))))))))))))))))))))))))))))))), (agC (congrArg Value.bool (show false = (((((decide (wordV a p < 0)) == (decide (wordV b q < 0))) && (binV (19 : Int) (wordV a p) (wordV b q) != binV (17 : Int) (wordV a p) (wordV b q))) || (((decide (wordV a p < 0)) && (decide ((0 : Int) ≤ wordV b q))) && (binV (19 : Int) (wordV a p) (wordV b q) != 0))) || (((decide ((0 : Int) ≤ wordV a p)) && (decide (wordV b q < 0))) && (binV (19 : Int) (wordV a p) (wordV b q) != 1))) by simp only [↓g8, ↓g19, ↓g26, ↓g27, BT])) agN)⟩
        · have pg26 := g26
          try simp only [BS] at pg26
          refine wo_gf1 rfl g26 rfl ?_
          refine wo_gt rfl rfl ?_
          refine wo_val (v := (.bool false)) (ap_pickF rfl g26 rfl) rfl rfl ?_
          refine wo_gt rfl rfl ?_
          refine wm (.bool false) rfl rfl rfl ?_
          refine wo_gf1 rfl rfl rfl ?_
          refine wo_gf1 rfl rfl rfl ?_
          refine wo_gt rfl rfl ?_
          refine wo_val (v := (.bool false)) (ap_pickF rfl rfl rfl) rfl rfl ?_
          refine wo_val (v := (.bool false)) (ap_pickF rfl rfl rfl) rfl rfl ?_
          refine wo_nil ?_
          exact wk_skip_nil ⟨rfl, rfl, (Lu rfl (Lu rfl (Lu rfl (Lu rfl (Lu rfl (Lu rfl (Lu rfl (Lu rfl (Lu rfl (Lu rfl (Lu rfl (Lu rfl (Lu rfl (Lu rfl (Lu rfl (Lu rfl (Lu rfl (Lu rfl (Lu rfl (Lu rfl (Lu rfl (Lu rfl (Lu rfl (Lu rfl (Lu rfl (Lu rfl (Lu rfl (Lu rfl (Lu rfl (Lu rfl (Lu rfl (Lu rfl (Lu rfl (Lu rfl Lr)))))))))))))))))))))))))))))))))), (agC (congrArg Value.bool (show false = (((((decide (wordV a p < 0)) == (decide (wordV b q < 0))) && (binV (19 : Int) (wordV a p) (wordV b q) != binV (17 : Int) (wordV a p) (wordV b q))) || (((decide (wordV a p < 0)) && (decide ((0 : Int) ≤ wordV b q))) && (binV (19 : Int) (wordV a p) (wordV b q) != 0))) || (((decide ((0 : Int) ≤ wordV a p)) && (decide (wordV b q < 0))) && (binV (19 : Int) (wordV a p) (wordV b q) != 1))) by simp only [↓g8, ↓g19, ↓g26, BT])) agN)⟩
  · skip
    rintro g7 H2 rfl
    refine wk_skip_seq ?_
    refine wk_cond (v := (((((decide (wordV a p < 0)) == (decide (wordV b q < 0))) && (binV (19 : Int) (wordV a p) (wordV b q) != binV (17 : Int) (wordV a p) (wordV b q))) || (((decide (wordV a p < 0)) && (decide ((0 : Int) ≤ wordV b q))) && (binV (19 : Int) (wordV a p) (wordV b q) != 0))) || (((decide ((0 : Int) ≤ wordV a p)) && (decide (wordV b q < 0))) && (binV (19 : Int) (wordV a p) (wordV b q) != 1)))) rfl rfl (fun c28b => ?_) (fun c28b => ?_)
    · have c28 := c28b
      try simp only [BS] at c28
      refine wk_seq ?_
      refine wk_region ?_
      refine wa (.bool false) rfl rfl rfl ?_
      refine wo_nil ?_
      refine wk_skip_seq ?_
      refine wk_ret ⟨.inr rfl, _, rfl, false, _, (Fz.le_trans (hF1) hF2), (HS.forget hs2), rfl, (by first | exact cmpA _ _ h1 h2 c28b | exact cmpB _ _ h1 h2)⟩
    · have c28 := c28b
      try simp only [BS] at c28
      refine wk_skip_seq ?_
      refine wk_seq ?_
      refine wk_rcut 8 100 [] [(8, (.bool ((((IntKind.i64.wrap ((IntKind.i64.wrap ((binV (17 : Int) (wordV a p) (wordV b q)) + (binV (17 : Int) (wordV b q) (wordV a p)))) + (binV (15 : Int) (wordV a p) (wordV b q))) == 1) && (binV (16 : Int) (wordV a p) (wordV b q) == IntKind.i64.wrap (1 - (binV (15 : Int) (wordV a p) (wordV b q))))) && (binV (18 : Int) (wordV a p) (wordV b q) == IntKind.i64.wrap ((binV (17 : Int) (wordV a p) (wordV b q)) + (binV (15 : Int) (wordV a p) (wordV b q))))) && ((binV (15 : Int) (wordV a p) (wordV b q) == 1) == (wordV a p == wordV b q)))))] (fun H' => H' = H2) ?_ ?_
      · skip
        refine wk_region ?_
        refine wm (.int .i64 (binV (17 : Int) (wordV a p) (wordV b q))) rfl rfl rfl ?_
        refine wm (.int .i64 (binV (17 : Int) (wordV b q) (wordV a p))) rfl rfl rfl ?_
        refine wo_val (v := (.int .i64 (IntKind.i64.wrap ((binV (17 : Int) (wordV a p) (wordV b q)) + (binV (17 : Int) (wordV b q) (wordV a p)))))) (ap_add rfl rfl rfl) rfl rfl ?_
        refine wm (.int .i64 (binV (15 : Int) (wordV a p) (wordV b q))) rfl rfl rfl ?_
        refine wo_val (v := (.int .i64 (IntKind.i64.wrap ((IntKind.i64.wrap ((binV (17 : Int) (wordV a p) (wordV b q)) + (binV (17 : Int) (wordV b q) (wordV a p)))) + (binV (15 : Int) (wordV a p) (wordV b q)))))) (ap_add rfl rfl rfl) rfl rfl ?_
        refine wo_val (v := (.bool (IntKind.i64.wrap ((IntKind.i64.wrap ((binV (17 : Int) (wordV a p) (wordV b q)) + (binV (17 : Int) (wordV b q) (wordV a p)))) + (binV (15 : Int) (wordV a p) (wordV b q))) == 1))) (ap_cmp rfl rfl rfl rfl) rfl rfl ?_
        refine wm (.bool (IntKind.i64.wrap ((IntKind.i64.wrap ((binV (17 : Int) (wordV a p) (wordV b q)) + (binV (17 : Int) (wordV b q) (wordV a p)))) + (binV (15 : Int) (wordV a p) (wordV b q))) == 1)) rfl rfl rfl ?_
        refine wo_gsT (v := (IntKind.i64.wrap ((IntKind.i64.wrap ((binV (17 : Int) (wordV a p) (wordV b q)) + (binV (17 : Int) (wordV b q) (wordV a p)))) + (binV (15 : Int) (wordV a p) (wordV b q))) == 1)) rfl rfl (fun g33 => ?_) (fun g33 => ?_)
        · have pg33 := g33
          try simp only [BS] at pg33
          refine wm (.int .i64 (wordV a p)) rfl rfl rfl ?_
          refine wo_gt rfl g33 ?_
          refine wm (.int .i64 (wordV b q)) rfl rfl rfl ?_
          refine wo_gt rfl g33 ?_
          refine wo_call (ap_call rfl rfl rfl) rfl rfl (w1.bin_c 12 (16) (wordV a p) (wordV b q) _) ?_
          rintro _ H2 ⟨r34, rfl, rfl, rfl⟩
          refine wo_gt rfl g33 ?_
          refine wm (.int .i64 (binV (15 : Int) (wordV a p) (wordV b q))) rfl rfl rfl ?_
          refine wo_gt rfl g33 ?_
          refine wo_val (v := (.int .i64 (IntKind.i64.wrap (1 - (binV (15 : Int) (wordV a p) (wordV b q)))))) (ap_sub rfl rfl rfl) rfl rfl ?_
          refine wo_gt rfl g33 ?_
          refine wo_val (v := (.bool (binV (16 : Int) (wordV a p) (wordV b q) == IntKind.i64.wrap (1 - (binV (15 : Int) (wordV a p) (wordV b q)))))) (ap_cmp rfl rfl rfl rfl) rfl rfl ?_
          refine wo_val (v := (.bool (binV (16 : Int) (wordV a p) (wordV b q) == IntKind.i64.wrap (1 - (binV (15 : Int) (wordV a p) (wordV b q)))))) (ap_pickT rfl g33 rfl) rfl rfl ?_
          refine wm (.bool (binV (16 : Int) (wordV a p) (wordV b q) == IntKind.i64.wrap (1 - (binV (15 : Int) (wordV a p) (wordV b q))))) rfl rfl rfl ?_
          refine wo_gsT (v := (binV (16 : Int) (wordV a p) (wordV b q) == IntKind.i64.wrap (1 - (binV (15 : Int) (wordV a p) (wordV b q))))) rfl rfl (fun g35 => ?_) (fun g35 => ?_)
          · have pg35 := g35
            try simp only [BS] at pg35
            refine wm (.int .i64 (wordV a p)) rfl rfl rfl ?_
            refine wo_gt rfl g35 ?_
            refine wm (.int .i64 (wordV b q)) rfl rfl rfl ?_
            refine wo_gt rfl g35 ?_
            refine wo_call (ap_call rfl rfl rfl) rfl rfl (w1.bin_c 12 (18) (wordV a p) (wordV b q) _) ?_
            rintro _ H2 ⟨r36, rfl, rfl, rfl⟩
            refine wo_gt rfl g35 ?_
            refine wm (.int .i64 (binV (17 : Int) (wordV a p) (wordV b q))) rfl rfl rfl ?_
            refine wo_gt rfl g35 ?_
            refine wm (.int .i64 (binV (15 : Int) (wordV a p) (wordV b q))) rfl rfl rfl ?_
            refine wo_gt rfl g35 ?_
            refine wo_val (v := (.int .i64 (IntKind.i64.wrap ((binV (17 : Int) (wordV a p) (wordV b q)) + (binV (15 : Int) (wordV a p) (wordV b q)))))) (ap_add rfl rfl rfl) rfl rfl ?_
            refine wo_gt rfl g35 ?_
            refine wo_val (v := (.bool (binV (18 : Int) (wordV a p) (wordV b q) == IntKind.i64.wrap ((binV (17 : Int) (wordV a p) (wordV b q)) + (binV (15 : Int) (wordV a p) (wordV b q)))))) (ap_cmp rfl rfl rfl rfl) rfl rfl ?_
            refine wo_val (v := (.bool (binV (18 : Int) (wordV a p) (wordV b q) == IntKind.i64.wrap ((binV (17 : Int) (wordV a p) (wordV b q)) + (binV (15 : Int) (wordV a p) (wordV b q)))))) (ap_pickT rfl g35 rfl) rfl rfl ?_
            refine wm (.bool (binV (18 : Int) (wordV a p) (wordV b q) == IntKind.i64.wrap ((binV (17 : Int) (wordV a p) (wordV b q)) + (binV (15 : Int) (wordV a p) (wordV b q))))) rfl rfl rfl ?_
            refine wo_gsT (v := (binV (18 : Int) (wordV a p) (wordV b q) == IntKind.i64.wrap ((binV (17 : Int) (wordV a p) (wordV b q)) + (binV (15 : Int) (wordV a p) (wordV b q))))) rfl rfl (fun g37 => ?_) (fun g37 => ?_)
            · have pg37 := g37
              try simp only [BS] at pg37
              refine wm (.int .i64 (binV (15 : Int) (wordV a p) (wordV b q))) rfl rfl rfl ?_
              refine wo_gt rfl g37 ?_
              refine wo_val (v := (.bool (binV (15 : Int) (wordV a p) (wordV b q) == 1))) (ap_cmp rfl rfl rfl rfl) rfl rfl ?_
              refine wo_gt rfl g37 ?_
              refine wm (.int .i64 (wordV a p)) rfl rfl rfl ?_
              refine wo_gt rfl g37 ?_
              refine wm (.int .i64 (wordV b q)) rfl rfl rfl ?_
              refine wo_gt rfl g37 ?_
              refine wo_val (v := (.bool (wordV a p == wordV b q))) (ap_cmp rfl rfl rfl rfl) rfl rfl ?_
              refine wo_gt rfl g37 ?_
              refine wo_val (v := (.bool ((binV (15 : Int) (wordV a p) (wordV b q) == 1) == (wordV a p == wordV b q)))) (ap_boolEq rfl rfl (fun a b => by cases a <;> cases b <;> kernel_rfl)) rfl rfl ?_
              refine wo_val (v := (.bool ((binV (15 : Int) (wordV a p) (wordV b q) == 1) == (wordV a p == wordV b q)))) (ap_pickT rfl g37 rfl) rfl rfl ?_
              refine wm (.bool ((binV (15 : Int) (wordV a p) (wordV b q) == 1) == (wordV a p == wordV b q))) rfl rfl rfl ?_
              refine wo_gsT (v := ((binV (15 : Int) (wordV a p) (wordV b q) == 1) == (wordV a p == wordV b q))) rfl rfl (fun g38 => ?_) (fun g38 => ?_)
              · have pg38 := g38
                try simp only [BS] at pg38
                refine wo_call (ap_call rfl rfl rfl) rfl rfl (ex_c 12 _) ?_
                rintro _ H2 ⟨r39, rfl, rfl, rfl⟩
                refine wo_val (v := (.bool true)) (ap_pickT rfl g38 rfl) rfl rfl ?_
                refine wa (.bool true) rfl rfl rfl ?_
                refine wo_nil ?_
                exact wk_skip_nil ⟨rfl, rfl, (Lu rfl (Lu rfl (Lu rfl (Lu rfl (Lu rfl (Lu rfl (Lu rfl (Lu rfl (Lu rfl (Lu rfl (Lu rfl (Lu rfl (Lu rfl (Lu rfl (Lu rfl (Lu rfl (Lu rfl (Lu rfl (Lu rfl (Lu rfl (Lu rfl (Lu rfl (Lu rfl (Lu rfl (Lu rfl (Lu rfl (Lu rfl (Lu rfl (Lu rfl (Lu rfl (Lu rfl (Lu rfl (Lu rfl (Lu rfl (Lu rfl Lr))))))))))))))))))))))))))))))))))), (agC (congrArg Value.bool (show true = ((((IntKind.i64.wrap ((IntKind.i64.wrap ((binV (17 : Int) (wordV a p) (wordV b q)) + (binV (17 : Int) (wordV b q) (wordV a p)))) + (binV (15 : Int) (wordV a p) (wordV b q))) == 1) && (binV (16 : Int) (wordV a p) (wordV b q) == IntKind.i64.wrap (1 - (binV (15 : Int) (wordV a p) (wordV b q))))) && (binV (18 : Int) (wordV a p) (wordV b q) == IntKind.i64.wrap ((binV (17 : Int) (wordV a p) (wordV b q)) + (binV (15 : Int) (wordV a p) (wordV b q))))) && ((binV (15 : Int) (wordV a p) (wordV b q) == 1) == (wordV a p == wordV b q))) by simp only [↓g33, ↓g35, ↓g37, ↓g38, BT])) agN)⟩
              · have pg38 := g38
                try simp only [BS] at pg38
                refine wo_val (v := (.bool false)) (ap_pickF rfl g38 rfl) rfl rfl ?_
                refine wa (.bool false) rfl rfl rfl ?_
                refine wo_nil ?_
                exact wk_skip_nil ⟨rfl, rfl, (Lu rfl (Lu rfl (Lu rfl (Lu rfl (Lu rfl (Lu rfl (Lu rfl (Lu rfl (Lu rfl (Lu rfl (Lu rfl (Lu rfl (Lu rfl (Lu rfl (Lu rfl (Lu rfl (Lu rfl (Lu rfl (Lu rfl (Lu rfl (Lu rfl (Lu rfl (Lu rfl (Lu rfl (Lu rfl (Lu rfl (Lu rfl (Lu rfl (Lu rfl (Lu rfl (Lu rfl (Lu rfl (Lu rfl (Lu rfl (Lu rfl Lr))))))))))))))))))))))))))))))))))), (agC (congrArg Value.bool (show false = ((((IntKind.i64.wrap ((IntKind.i64.wrap ((binV (17 : Int) (wordV a p) (wordV b q)) + (binV (17 : Int) (wordV b q) (wordV a p)))) + (binV (15 : Int) (wordV a p) (wordV b q))) == 1) && (binV (16 : Int) (wordV a p) (wordV b q) == IntKind.i64.wrap (1 - (binV (15 : Int) (wordV a p) (wordV b q))))) && (binV (18 : Int) (wordV a p) (wordV b q) == IntKind.i64.wrap ((binV (17 : Int) (wordV a p) (wordV b q)) + (binV (15 : Int) (wordV a p) (wordV b q))))) && ((binV (15 : Int) (wordV a p) (wordV b q) == 1) == (wordV a p == wordV b q))) by simp only [↓g33, ↓g35, ↓g37, ↓g38, BT])) agN)⟩
            · have pg37 := g37
              try simp only [BS] at pg37
              refine wo_gf1 rfl g37 rfl ?_
              refine wo_gf1 rfl g37 rfl ?_
              refine wo_gf1 rfl g37 rfl ?_
              refine wo_gf1 rfl g37 rfl ?_
              refine wo_gf1 rfl g37 rfl ?_
              refine wo_val (v := (.bool false)) (ap_pickF rfl g37 rfl) rfl rfl ?_
              refine wm (.bool false) rfl rfl rfl ?_
              refine wo_gf1 rfl rfl rfl ?_
              refine wo_val (v := (.bool false)) (ap_pickF rfl rfl rfl) rfl rfl ?_
              refine wa (.bool false) rfl rfl rfl ?_
              refine wo_nil ?_
              exact wk_skip_nil ⟨rfl, rfl, (Lu rfl (Lu rfl (Lu rfl (Lu rfl (Lu rfl (Lu rfl (Lu rfl (Lu rfl (Lu rfl (Lu rfl (Lu rfl (Lu rfl (Lu rfl (Lu rfl (Lu rfl (Lu rfl (Lu rfl (Lu rfl (Lu rfl (Lu rfl (Lu rfl (Lu rfl (Lu rfl (Lu rfl (Lu rfl (Lu rfl (Lu rfl (Lu rfl (Lu rfl (Lu rfl (Lu rfl (Lu rfl (Lu rfl (Lu rfl (Lu rfl Lr))))))))))))))))))))))))))))))))))), (agC (congrArg Value.bool (show false = ((((IntKind.i64.wrap ((IntKind.i64.wrap ((binV (17 : Int) (wordV a p) (wordV b q)) + (binV (17 : Int) (wordV b q) (wordV a p)))) + (binV (15 : Int) (wordV a p) (wordV b q))) == 1) && (binV (16 : Int) (wordV a p) (wordV b q) == IntKind.i64.wrap (1 - (binV (15 : Int) (wordV a p) (wordV b q))))) && (binV (18 : Int) (wordV a p) (wordV b q) == IntKind.i64.wrap ((binV (17 : Int) (wordV a p) (wordV b q)) + (binV (15 : Int) (wordV a p) (wordV b q))))) && ((binV (15 : Int) (wordV a p) (wordV b q) == 1) == (wordV a p == wordV b q))) by simp only [↓g33, ↓g35, ↓g37, BT])) agN)⟩
          · have pg35 := g35
            try simp only [BS] at pg35
            refine wo_gf1 rfl g35 rfl ?_
            refine wo_gf1 rfl g35 rfl ?_
            refine wo_gf1 rfl g35 rfl ?_
            refine wo_gf1 rfl g35 rfl ?_
            refine wo_gf1 rfl g35 rfl ?_
            refine wo_gf1 rfl g35 rfl ?_
            refine wo_val (v := (.bool false)) (ap_pickF rfl g35 rfl) rfl rfl ?_
            refine wm (.bool false) rfl rfl rfl ?_
            refine wo_gf1 rfl rfl rfl ?_
            refine wo_gf1 rfl rfl rfl ?_
            refine wo_gf1 rfl rfl rfl ?_
            refine wo_gf1 rfl rfl rfl ?_
            refine wo_gf1 rfl rfl rfl ?_
            refine wo_gf1 rfl rfl rfl ?_
            refine wo_val (v := (.bool false)) (ap_pickF rfl rfl rfl) rfl rfl ?_
            refine wm (.bool false) rfl rfl rfl ?_
            refine wo_gf1 rfl rfl rfl ?_
            refine wo_val (v := (.bool false)) (ap_pickF rfl rfl rfl) rfl rfl ?_
            refine wa (.bool false) rfl rfl rfl ?_
            refine wo_nil ?_
            exact wk_skip_nil ⟨rfl, rfl, (Lu rfl (Lu rfl (Lu rfl (Lu rfl (Lu rfl (Lu rfl (Lu rfl (Lu rfl (Lu rfl (Lu rfl (Lu rfl (Lu rfl (Lu rfl (Lu rfl (Lu rfl (Lu rfl (Lu rfl (Lu rfl (Lu rfl (Lu rfl (Lu rfl (Lu rfl (Lu rfl (Lu rfl (Lu rfl (Lu rfl (Lu rfl (Lu rfl (Lu rfl (Lu rfl (Lu rfl (Lu rfl (Lu rfl (Lu rfl (Lu rfl Lr))))))))))))))))))))))))))))))))))), (agC (congrArg Value.bool (show false = ((((IntKind.i64.wrap ((IntKind.i64.wrap ((binV (17 : Int) (wordV a p) (wordV b q)) + (binV (17 : Int) (wordV b q) (wordV a p)))) + (binV (15 : Int) (wordV a p) (wordV b q))) == 1) && (binV (16 : Int) (wordV a p) (wordV b q) == IntKind.i64.wrap (1 - (binV (15 : Int) (wordV a p) (wordV b q))))) && (binV (18 : Int) (wordV a p) (wordV b q) == IntKind.i64.wrap ((binV (17 : Int) (wordV a p) (wordV b q)) + (binV (15 : Int) (wordV a p) (wordV b q))))) && ((binV (15 : Int) (wordV a p) (wordV b q) == 1) == (wordV a p == wordV b q))) by simp only [↓g33, ↓g35, BT])) agN)⟩
        · have pg33 := g33
          try simp only [BS] at pg33
          refine wo_gf1 rfl g33 rfl ?_
          refine wo_gf1 rfl g33 rfl ?_
          refine wo_gf1 rfl g33 rfl ?_
          refine wo_gf1 rfl g33 rfl ?_
          refine wo_gf1 rfl g33 rfl ?_
          refine wo_val (v := (.bool false)) (ap_pickF rfl g33 rfl) rfl rfl ?_
          refine wm (.bool false) rfl rfl rfl ?_
          refine wo_gf1 rfl rfl rfl ?_
          refine wo_gf1 rfl rfl rfl ?_
          refine wo_gf1 rfl rfl rfl ?_
          refine wo_gf1 rfl rfl rfl ?_
          refine wo_gf1 rfl rfl rfl ?_
          refine wo_gf1 rfl rfl rfl ?_
          refine wo_gf1 rfl rfl rfl ?_
          refine wo_val (v := (.bool false)) (ap_pickF rfl rfl rfl) rfl rfl ?_
          refine wm (.bool false) rfl rfl rfl ?_
          refine wo_gf1 rfl rfl rfl ?_
          refine wo_gf1 rfl rfl rfl ?_
          refine wo_gf1 rfl rfl rfl ?_
          refine wo_gf1 rfl rfl rfl ?_
          refine wo_gf1 rfl rfl rfl ?_
          refine wo_gf1 rfl rfl rfl ?_
          refine wo_val (v := (.bool false)) (ap_pickF rfl rfl rfl) rfl rfl ?_
          refine wm (.bool false) rfl rfl rfl ?_
          refine wo_gf1 rfl rfl rfl ?_
          refine wo_val (v := (.bool false)) (ap_pickF rfl rfl rfl) rfl rfl ?_
          refine wa (.bool false) rfl rfl rfl ?_
          refine wo_nil ?_
          exact wk_skip_nil ⟨rfl, rfl, (Lu rfl (Lu rfl (Lu rfl (Lu rfl (Lu rfl (Lu rfl (Lu rfl (Lu rfl (Lu rfl (Lu rfl (Lu rfl (Lu rfl (Lu rfl (Lu rfl (Lu rfl (Lu rfl (Lu rfl (Lu rfl (Lu rfl (Lu rfl (Lu rfl (Lu rfl (Lu rfl (Lu rfl (Lu rfl (Lu rfl (Lu rfl (Lu rfl (Lu rfl (Lu rfl (Lu rfl (Lu rfl (Lu rfl (Lu rfl (Lu rfl Lr))))))))))))))))))))))))))))))))))), (agC (congrArg Value.bool (show false = ((((IntKind.i64.wrap ((IntKind.i64.wrap ((binV (17 : Int) (wordV a p) (wordV b q)) + (binV (17 : Int) (wordV b q) (wordV a p)))) + (binV (15 : Int) (wordV a p) (wordV b q))) == 1) && (binV (16 : Int) (wordV a p) (wordV b q) == IntKind.i64.wrap (1 - (binV (15 : Int) (wordV a p) (wordV b q))))) && (binV (18 : Int) (wordV a p) (wordV b q) == IntKind.i64.wrap ((binV (17 : Int) (wordV a p) (wordV b q)) + (binV (15 : Int) (wordV a p) (wordV b q))))) && ((binV (15 : Int) (wordV a p) (wordV b q) == 1) == (wordV a p == wordV b q))) by simp only [↓g33, BT])) agN)⟩
      · skip
        rintro g32 H2 rfl
        refine wk_skip_seq ?_
        refine wk_ret ⟨.inr rfl, _, rfl, ((((IntKind.i64.wrap ((IntKind.i64.wrap ((binV (17 : Int) (wordV a p) (wordV b q)) + (binV (17 : Int) (wordV b q) (wordV a p)))) + (binV (15 : Int) (wordV a p) (wordV b q))) == 1) && (binV (16 : Int) (wordV a p) (wordV b q) == IntKind.i64.wrap (1 - (binV (15 : Int) (wordV a p) (wordV b q))))) && (binV (18 : Int) (wordV a p) (wordV b q) == IntKind.i64.wrap ((binV (17 : Int) (wordV a p) (wordV b q)) + (binV (15 : Int) (wordV a p) (wordV b q))))) && ((binV (15 : Int) (wordV a p) (wordV b q) == 1) == (wordV a p == wordV b q))), _, (Fz.le_trans (hF1) hF2), (HS.forget hs2), rfl, (by first | exact cmpA _ _ h1 h2 c28b | exact cmpB _ _ h1 h2)⟩

/-- Shifting twice. -/
theorem shl2 (a p q : Int) (hp : 0 ≤ p ∧ p < 64) (hq : 0 ≤ q ∧ q < 64) : binV 12 (binV 12 a p) q = if p + q < 64 then binV 12 a (p + q) else 0 := by
  rw [b12, b12, w64_mul_l, Int.mul_assoc, ← Int.pow_add]
  have e1 : (p % 64).toNat + (q % 64).toNat = (p + q).toNat := by omega
  rw [e1]
  split
  · rename_i h
    rw [b12, show (p + q) % 64 = p + q by omega]
  · rename_i h
    have e2 : (p + q).toNat = 64 + ((p + q).toNat - 64) := by omega
    rw [e2, Int.pow_add]
    have : IntKind.i64.wrap (a * (2 ^ 64 * 2 ^ ((p + q).toNat - 64))) = IntKind.i64.wrap 0 := by
      apply w64_cg
      rw [show a * (2 ^ 64 * 2 ^ ((p + q).toNat - 64)) = 18446744073709551616 * (a * 2 ^ ((p + q).toNat - 64)) by
        rw [← Int.mul_assoc, Int.mul_comm a, Int.mul_assoc]; rfl]
      rw [Int.mul_emod_right]; rfl
    rw [this]; rfl
theorem shlmul (a p : Int) : binV 12 a p = binV 6 a (binV 12 1 p) := by
  rw [b6, b12, b12, w64_mul_r, Int.one_mul]
theorem compA (a j k : Int) : (((pickV j 64) + (pickV k 64) < 64) → ((binV 12 (binV 12 a (pickV j 64)) (pickV k 64) == binV 12 a ((pickV j 64) + (pickV k 64))) && (binV 12 a (pickV j 64) == binV 6 a (binV 12 1 (pickV j 64)))) = true) ∧
    (¬ ((pickV j 64) + (pickV k 64) < 64) → ((binV 12 (binV 12 a (pickV j 64)) (pickV k 64) == 0) && (binV 12 a (pickV j 64) == binV 6 a (binV 12 1 (pickV j 64)))) = true) := by
  have h := shl2 a _ _ (pick_rng (n := j) (m := 64) (by decide)) (pick_rng (n := k) (m := 64) (by decide))
  refine ⟨fun h1 => ?_, fun h1 => ?_⟩
  · rw [if_pos h1] at h; exact and_tt (beq_tt h) (beq_tt (shlmul _ _))
  · rw [if_neg h1] at h; exact and_tt (beq_tt h) (beq_tt (shlmul _ _))

theorem compose_c (a : Int) (j : Int) (k : Int) {F : Fz} {H : Heap} {R : List Fp} (hs : HS (.of H []) F H [] R) (ha : in64 a) (hj : in64 j) (hk : in64 k) : C Try.prog 0 (KX 12) 5 [(.int .i64 a), (.int .i64 j), (.int .i64 k)] H fun v H' => ∃ (r : Bool) (F' : Fz), Fz.le F F' ∧ HS (.of H []) F' H' [] R ∧ v = .bool r ∧ r = true := by
  refine c_enter Try.func5 rfl rfl ?_
  refine wk_seq ?_
  refine wk_region ?_
  refine wa (.bool false) rfl rfl rfl ?_
  refine wo_nil ?_
  refine wk_skip_seq ?_
  refine wk_seq ?_
  refine wk_region ?_
  refine wm (.int .i64 j) rfl rfl rfl ?_
  refine wo_call (ap_call rfl rfl rfl) rfl rfl (w1.pick_c 12 j (64) _ (by omega)) ?_
  rintro _ H ⟨r1, rfl, rfl, rfl, h1⟩
  refine wm (.int .i64 k) rfl rfl rfl ?_
  refine wo_call (ap_call rfl rfl rfl) rfl rfl (w1.pick_c 12 k (64) _ (by omega)) ?_
  rintro _ H ⟨r2, rfl, rfl, rfl, h2⟩
  refine wa (.int .i64 (pickV j (64 : Int))) rfl rfl rfl ?_
  refine wa (.int .i64 (pickV k (64 : Int))) rfl rfl rfl ?_
  refine wo_nil ?_
  refine wk_skip_seq ?_
  refine wk_seq ?_
  refine wk_region ?_
  refine wm (.int .i64 a) rfl rfl rfl ?_
  refine wm (.int .i64 (pickV j (64 : Int))) rfl rfl rfl ?_
  refine wo_call (ap_call rfl rfl rfl) rfl rfl (w1.bin_c 12 (12) a (pickV j (64 : Int)) _) ?_
  rintro _ H ⟨r3, rfl, rfl, rfl⟩
  refine wm (.int .i64 (pickV k (64 : Int))) rfl rfl rfl ?_
  refine wo_call (ap_call rfl rfl rfl) rfl rfl (w1.bin_c 12 (12) (binV (12 : Int) a (pickV j (64 : Int))) (pickV k (64 : Int)) _) ?_
  rintro _ H ⟨r4, rfl, rfl, rfl⟩
  refine wa (.int .i64 (binV (12 : Int) (binV (12 : Int) a (pickV j (64 : Int))) (pickV k (64 : Int)))) rfl rfl rfl ?_
  refine wo_nil ?_
  refine wk_skip_seq ?_
  refine wk_seq ?_
  refine wk_region ?_
  refine wa (.int .i64 0) rfl rfl rfl ?_
  refine wo_nil ?_
  refine wk_skip_seq ?_
  refine wk_seq ?_
  refine wk_seq ?_
  refine wk_region ?_
  refine wm (.int .i64 (pickV j (64 : Int))) rfl rfl rfl ?_
  refine wm (.int .i64 (pickV k (64 : Int))) rfl rfl rfl ?_
  refine wo_val (v := (.int .i64 ((pickV j (64 : Int)) + (pickV k (64 : Int))))) (ap_add rfl rfl (w_i64 (n := (pickV j (64 : Int)) + (pickV k (64 : Int))) (by omega))) rfl rfl ?_
  refine wo_val (v := (.bool (decide ((pickV j (64 : Int)) + (pickV k (64 : Int)) < 64)))) (ap_cmp rfl rfl rfl rfl) rfl rfl ?_
  refine wo_nil ?_
  refine wk_skip_seq ?_
  refine wk_cond (v := (decide ((pickV j (64 : Int)) + (pickV k (64 : Int)) < 64))) rfl rfl (fun c5b => ?_) (fun c5b => ?_)
  · have c5 := c5b
    try simp only [BS] at c5
    refine wk_region ?_
    refine wm (.int .i64 a) rfl rfl rfl ?_
    refine wm (.int .i64 (pickV j (64 : Int))) rfl rfl rfl ?_
    refine wm (.int .i64 (pickV k (64 : Int))) rfl rfl rfl ?_
    refine wo_val (v := (.int .i64 ((pickV j (64 : Int)) + (pickV k (64 : Int))))) (ap_add rfl rfl (w_i64 (n := (pickV j (64 : Int)) + (pickV k (64 : Int))) (by omega))) rfl rfl ?_
    refine wo_call (ap_call rfl rfl rfl) rfl rfl (w1.bin_c 12 (12) a ((pickV j (64 : Int)) + (pickV k (64 : Int))) _) ?_
    rintro _ H ⟨r6, rfl, rfl, rfl⟩
    refine wa (.int .i64 (binV (12 : Int) a ((pickV j (64 : Int)) + (pickV k (64 : Int))))) rfl rfl rfl ?_
    refine wo_nil ?_
    refine wk_skip_seq ?_
    refine wk_seq ?_
    refine wk_region ?_
    refine wm (.int .i64 (pickV j (64 : Int))) rfl rfl rfl ?_
    refine wo_call (ap_call rfl rfl rfl) rfl rfl (w1.bin_c 12 (12) (1) (pickV j (64 : Int)) _) ?_
    rintro _ H ⟨r7, rfl, rfl, rfl⟩
    refine wa (.int .i64 (binV (12 : Int) (1 : Int) (pickV j (64 : Int)))) rfl rfl rfl ?_
    refine wo_nil ?_
    refine wk_skip_seq ?_
    refine wk_seq ?_
    refine wk_rcut 6 46 [] [(6, (.bool ((binV (12 : Int) (binV (12 : Int) a (pickV j (64 : Int))) (pickV k (64 : Int)) == binV (12 : Int) a ((pickV j (64 : Int)) + (pickV k (64 : Int)))) && (binV (12 : Int) a (pickV j (64 : Int)) == binV (6 : Int) a (binV (12 : Int) (1 : Int) (pickV j (64 : Int)))))))] (fun H' => H' = H) ?_ ?_
    · skip
      refine wk_region ?_
      refine wm (.int .i64 (binV (12 : Int) (binV (12 : Int) a (pickV j (64 : Int))) (pickV k (64 : Int)))) rfl rfl rfl ?_
      refine wm (.int .i64 (binV (12 : Int) a ((pickV j (64 : Int)) + (pickV k (64 : Int))))) rfl rfl rfl ?_
      refine wo_val (v := (.bool (binV (12 : Int) (binV (12 : Int) a (pickV j (64 : Int))) (pickV k (64 : Int)) == binV (12 : Int) a ((pickV j (64 : Int)) + (pickV k (64 : Int)))))) (ap_cmp rfl rfl rfl rfl) rfl rfl ?_
      refine wm (.bool (binV (12 : Int) (binV (12 : Int) a (pickV j (64 : Int))) (pickV k (64 : Int)) == binV (12 : Int) a ((pickV j (64 : Int)) + (pickV k (64 : Int))))) rfl rfl rfl ?_
      refine wo_gsT (v := (binV (12 : Int) (binV (12 : Int) a (pickV j (64 : Int))) (pickV k (64 : Int)) == binV (12 : Int) a ((pickV j (64 : Int)) + (pickV k (64 : Int))))) rfl rfl (fun g12 => ?_) (fun g12 => ?_)
      · have pg12 := g12
        try simp only [BS] at pg12
        refine wm (.int .i64 a) rfl rfl rfl ?_
        refine wo_gt rfl g12 ?_
        refine wm (.int .i64 (pickV j (64 : Int))) rfl rfl rfl ?_
        refine wo_gt rfl g12 ?_
        refine wo_call (ap_call rfl rfl rfl) rfl rfl (w1.bin_c 12 (12) a (pickV j (64 : Int)) _) ?_
        rintro _ H ⟨r13, rfl, rfl, rfl⟩
        refine wo_gt rfl g12 ?_
        refine wm (.int .i64 a) rfl rfl rfl ?_
        refine wo_gt rfl g12 ?_
        refine wm (.int .i64 (binV (12 : Int) (1 : Int) (pickV j (64 : Int)))) rfl rfl rfl ?_
        refine wo_gt rfl g12 ?_
        refine wo_call (ap_call rfl rfl rfl) rfl rfl (w1.bin_c 12 (6) a (binV (12 : Int) (1 : Int) (pickV j (64 : Int))) _) ?_
        rintro _ H ⟨r14, rfl, rfl, rfl⟩
        refine wo_gt rfl g12 ?_
        refine wo_val (v := (.bool (binV (12 : Int) a (pickV j (64 : Int)) == binV (6 : Int) a (binV (12 : Int) (1 : Int) (pickV j (64 : Int)))))) (ap_cmp rfl rfl rfl rfl) rfl rfl ?_
        refine wo_val (v := (.bool (binV (12 : Int) a (pickV j (64 : Int)) == binV (6 : Int) a (binV (12 : Int) (1 : Int) (pickV j (64 : Int)))))) (ap_pickT rfl g12 rfl) rfl rfl ?_
        refine wm (.bool (binV (12 : Int) a (pickV j (64 : Int)) == binV (6 : Int) a (binV (12 : Int) (1 : Int) (pickV j (64 : Int))))) rfl rfl rfl ?_
        refine wo_gsT (v := (binV (12 : Int) a (pickV j (64 : Int)) == binV (6 : Int) a (binV (12 : Int) (1 : Int) (pickV j (64 : Int))))) rfl rfl (fun g15 => ?_) (fun g15 => ?_)
        · have pg15 := g15
          try simp only [BS] at pg15
          refine wo_call (ap_call rfl rfl rfl) rfl rfl (ex_c 12 _) ?_
          rintro _ H ⟨r16, rfl, rfl, rfl⟩
          refine wo_val (v := (.bool true)) (ap_pickT rfl g15 rfl) rfl rfl ?_
          refine wa (.bool true) rfl rfl rfl ?_
          refine wo_nil ?_
          exact wk_skip_nil ⟨rfl, rfl, (Lu rfl (Lu rfl (Lu rfl (Lu rfl (Lu rfl (Lu rfl (Lu rfl (Lu rfl (Lu rfl (Lu rfl (Lu rfl (Lu rfl (Lu rfl (Lu rfl (Lu rfl (Lu rfl Lr)))))))))))))))), (agC (congrArg Value.bool (show true = ((binV (12 : Int) (binV (12 : Int) a (pickV j (64 : Int))) (pickV k (64 : Int)) == binV (12 : Int) a ((pickV j (64 : Int)) + (pickV k (64 : Int)))) && (binV (12 : Int) a (pickV j (64 : Int)) == binV (6 : Int) a (binV (12 : Int) (1 : Int) (pickV j (64 : Int))))) by simp only [↓g12, ↓g15, BT])) agN)⟩
        · have pg15 := g15
          try simp only [BS] at pg15
          refine wo_val (v := (.bool false)) (ap_pickF rfl g15 rfl) rfl rfl ?_
          refine wa (.bool false) rfl rfl rfl ?_
          refine wo_nil ?_
          exact wk_skip_nil ⟨rfl, rfl, (Lu rfl (Lu rfl (Lu rfl (Lu rfl (Lu rfl (Lu rfl (Lu rfl (Lu rfl (Lu rfl (Lu rfl (Lu rfl (Lu rfl (Lu rfl (Lu rfl (Lu rfl (Lu rfl Lr)))))))))))))))), (agC (congrArg Value.bool (show false = ((binV (12 : Int) (binV (12 : Int) a (pickV j (64 : Int))) (pickV k (64 : Int)) == binV (12 : Int) a ((pickV j (64 : Int)) + (pickV k (64 : Int)))) && (binV (12 : Int) a (pickV j (64 : Int)) == binV (6 : Int) a (binV (12 : Int) (1 : Int) (pickV j (64 : Int))))) by simp only [↓g12, ↓g15, BT])) agN)⟩
      · have pg12 := g12
        try simp only [BS] at pg12
        refine wo_gf1 rfl g12 rfl ?_
        refine wo_gf1 rfl g12 rfl ?_
        refine wo_gf1 rfl g12 rfl ?_
        refine wo_gf1 rfl g12 rfl ?_
        refine wo_gf1 rfl g12 rfl ?_
        refine wo_gf1 rfl g12 rfl ?_
        refine wo_val (v := (.bool false)) (ap_pickF rfl g12 rfl) rfl rfl ?_
        refine wm (.bool false) rfl rfl rfl ?_
        refine wo_gf1 rfl rfl rfl ?_
        refine wo_val (v := (.bool false)) (ap_pickF rfl rfl rfl) rfl rfl ?_
        refine wa (.bool false) rfl rfl rfl ?_
        refine wo_nil ?_
        exact wk_skip_nil ⟨rfl, rfl, (Lu rfl (Lu rfl (Lu rfl (Lu rfl (Lu rfl (Lu rfl (Lu rfl (Lu rfl (Lu rfl (Lu rfl (Lu rfl (Lu rfl (Lu rfl (Lu rfl (Lu rfl (Lu rfl Lr)))))))))))))))), (agC (congrArg Value.bool (show false = ((binV (12 : Int) (binV (12 : Int) a (pickV j (64 : Int))) (pickV k (64 : Int)) == binV (12 : Int) a ((pickV j (64 : Int)) + (pickV k (64 : Int)))) && (binV (12 : Int) a (pickV j (64 : Int)) == binV (6 : Int) a (binV (12 : Int) (1 : Int) (pickV j (64 : Int))))) by simp only [↓g12, BT])) agN)⟩
    · skip
      rintro g11 H rfl
      refine wk_skip_seq ?_
      refine wk_ret ⟨.inr rfl, _, rfl, ((binV (12 : Int) (binV (12 : Int) a (pickV j (64 : Int))) (pickV k (64 : Int)) == binV (12 : Int) a ((pickV j (64 : Int)) + (pickV k (64 : Int)))) && (binV (12 : Int) a (pickV j (64 : Int)) == binV (6 : Int) a (binV (12 : Int) (1 : Int) (pickV j (64 : Int))))), _, (Fz.le_refl _), (HS.forget hs), rfl, (by first | exact (compA a j k).1 (by assumption) | exact (compA a j k).2 (by assumption))⟩
  · have c5 := c5b
    try simp only [BS] at c5
    refine wk_skip_seq ?_
    refine wk_seq ?_
    refine wk_region ?_
    refine wm (.int .i64 (pickV j (64 : Int))) rfl rfl rfl ?_
    refine wo_call (ap_call rfl rfl rfl) rfl rfl (w1.bin_c 12 (12) (1) (pickV j (64 : Int)) _) ?_
    rintro _ H ⟨r17, rfl, rfl, rfl⟩
    refine wa (.int .i64 (binV (12 : Int) (1 : Int) (pickV j (64 : Int)))) rfl rfl rfl ?_
    refine wo_nil ?_
    refine wk_skip_seq ?_
    refine wk_seq ?_
    refine wk_rcut 6 46 [] [(6, (.bool ((binV (12 : Int) (binV (12 : Int) a (pickV j (64 : Int))) (pickV k (64 : Int)) == 0) && (binV (12 : Int) a (pickV j (64 : Int)) == binV (6 : Int) a (binV (12 : Int) (1 : Int) (pickV j (64 : Int)))))))] (fun H' => H' = H) ?_ ?_
    · skip
      refine wk_region ?_
      refine wm (.int .i64 (binV (12 : Int) (binV (12 : Int) a (pickV j (64 : Int))) (pickV k (64 : Int)))) rfl rfl rfl ?_
      refine wm (.int .i64 0) rfl rfl rfl ?_
      refine wo_val (v := (.bool (binV (12 : Int) (binV (12 : Int) a (pickV j (64 : Int))) (pickV k (64 : Int)) == 0))) (ap_cmp rfl rfl rfl rfl) rfl rfl ?_
      refine wm (.bool (binV (12 : Int) (binV (12 : Int) a (pickV j (64 : Int))) (pickV k (64 : Int)) == 0)) rfl rfl rfl ?_
      refine wo_gsT (v := (binV (12 : Int) (binV (12 : Int) a (pickV j (64 : Int))) (pickV k (64 : Int)) == 0)) rfl rfl (fun g22 => ?_) (fun g22 => ?_)
      · have pg22 := g22
        try simp only [BS] at pg22
        refine wm (.int .i64 a) rfl rfl rfl ?_
        refine wo_gt rfl g22 ?_
        refine wm (.int .i64 (pickV j (64 : Int))) rfl rfl rfl ?_
        refine wo_gt rfl g22 ?_
        refine wo_call (ap_call rfl rfl rfl) rfl rfl (w1.bin_c 12 (12) a (pickV j (64 : Int)) _) ?_
        rintro _ H ⟨r23, rfl, rfl, rfl⟩
        refine wo_gt rfl g22 ?_
        refine wm (.int .i64 a) rfl rfl rfl ?_
        refine wo_gt rfl g22 ?_
        refine wm (.int .i64 (binV (12 : Int) (1 : Int) (pickV j (64 : Int)))) rfl rfl rfl ?_
        refine wo_gt rfl g22 ?_
        refine wo_call (ap_call rfl rfl rfl) rfl rfl (w1.bin_c 12 (6) a (binV (12 : Int) (1 : Int) (pickV j (64 : Int))) _) ?_
        rintro _ H ⟨r24, rfl, rfl, rfl⟩
        refine wo_gt rfl g22 ?_
        refine wo_val (v := (.bool (binV (12 : Int) a (pickV j (64 : Int)) == binV (6 : Int) a (binV (12 : Int) (1 : Int) (pickV j (64 : Int)))))) (ap_cmp rfl rfl rfl rfl) rfl rfl ?_
        refine wo_val (v := (.bool (binV (12 : Int) a (pickV j (64 : Int)) == binV (6 : Int) a (binV (12 : Int) (1 : Int) (pickV j (64 : Int)))))) (ap_pickT rfl g22 rfl) rfl rfl ?_
        refine wm (.bool (binV (12 : Int) a (pickV j (64 : Int)) == binV (6 : Int) a (binV (12 : Int) (1 : Int) (pickV j (64 : Int))))) rfl rfl rfl ?_
        refine wo_gsT (v := (binV (12 : Int) a (pickV j (64 : Int)) == binV (6 : Int) a (binV (12 : Int) (1 : Int) (pickV j (64 : Int))))) rfl rfl (fun g25 => ?_) (fun g25 => ?_)
        · have pg25 := g25
          try simp only [BS] at pg25
          refine wo_call (ap_call rfl rfl rfl) rfl rfl (ex_c 12 _) ?_
          rintro _ H ⟨r26, rfl, rfl, rfl⟩
          refine wo_val (v := (.bool true)) (ap_pickT rfl g25 rfl) rfl rfl ?_
          refine wa (.bool true) rfl rfl rfl ?_
          refine wo_nil ?_
          exact wk_skip_nil ⟨rfl, rfl, (Lu rfl (Lu rfl (Lu rfl (Lu rfl (Lu rfl (Lu rfl (Lu rfl (Lu rfl (Lu rfl (Lu rfl (Lu rfl (Lu rfl (Lu rfl (Lu rfl (Lu rfl (Lu rfl Lr)))))))))))))))), (agC (congrArg Value.bool (show true = ((binV (12 : Int) (binV (12 : Int) a (pickV j (64 : Int))) (pickV k (64 : Int)) == 0) && (binV (12 : Int) a (pickV j (64 : Int)) == binV (6 : Int) a (binV (12 : Int) (1 : Int) (pickV j (64 : Int))))) by simp only [↓g22, ↓g25, BT])) agN)⟩
        · have pg25 := g25
          try simp only [BS] at pg25
          refine wo_val (v := (.bool false)) (ap_pickF rfl g25 rfl) rfl rfl ?_
          refine wa (.bool false) rfl rfl rfl ?_
          refine wo_nil ?_
          exact wk_skip_nil ⟨rfl, rfl, (Lu rfl (Lu rfl (Lu rfl (Lu rfl (Lu rfl (Lu rfl (Lu rfl (Lu rfl (Lu rfl (Lu rfl (Lu rfl (Lu rfl (Lu rfl (Lu rfl (Lu rfl (Lu rfl Lr)))))))))))))))), (agC (congrArg Value.bool (show false = ((binV (12 : Int) (binV (12 : Int) a (pickV j (64 : Int))) (pickV k (64 : Int)) == 0) && (binV (12 : Int) a (pickV j (64 : Int)) == binV (6 : Int) a (binV (12 : Int) (1 : Int) (pickV j (64 : Int))))) by simp only [↓g22, ↓g25, BT])) agN)⟩
      · have pg22 := g22
        try simp only [BS] at pg22
        refine wo_gf1 rfl g22 rfl ?_
        refine wo_gf1 rfl g22 rfl ?_
        refine wo_gf1 rfl g22 rfl ?_
        refine wo_gf1 rfl g22 rfl ?_
        refine wo_gf1 rfl g22 rfl ?_
        refine wo_gf1 rfl g22 rfl ?_
        refine wo_val (v := (.bool false)) (ap_pickF rfl g22 rfl) rfl rfl ?_
        refine wm (.bool false) rfl rfl rfl ?_
        refine wo_gf1 rfl rfl rfl ?_
        refine wo_val (v := (.bool false)) (ap_pickF rfl rfl rfl) rfl rfl ?_
        refine wa (.bool false) rfl rfl rfl ?_
        refine wo_nil ?_
        exact wk_skip_nil ⟨rfl, rfl, (Lu rfl (Lu rfl (Lu rfl (Lu rfl (Lu rfl (Lu rfl (Lu rfl (Lu rfl (Lu rfl (Lu rfl (Lu rfl (Lu rfl (Lu rfl (Lu rfl (Lu rfl (Lu rfl Lr)))))))))))))))), (agC (congrArg Value.bool (show false = ((binV (12 : Int) (binV (12 : Int) a (pickV j (64 : Int))) (pickV k (64 : Int)) == 0) && (binV (12 : Int) a (pickV j (64 : Int)) == binV (6 : Int) a (binV (12 : Int) (1 : Int) (pickV j (64 : Int))))) by simp only [↓g22, BT])) agN)⟩
    · skip
      rintro g21 H rfl
      refine wk_skip_seq ?_
      refine wk_ret ⟨.inr rfl, _, rfl, ((binV (12 : Int) (binV (12 : Int) a (pickV j (64 : Int))) (pickV k (64 : Int)) == 0) && (binV (12 : Int) a (pickV j (64 : Int)) == binV (6 : Int) a (binV (12 : Int) (1 : Int) (pickV j (64 : Int))))), _, (Fz.le_refl _), (HS.forget hs), rfl, (by first | exact (compA a j k).1 (by assumption) | exact (compA a j k).2 (by assumption))⟩

theorem sarA (a k : Int) (ha : in64 a) : (binV 8 a (binV 12 1 (pickV k 63)) < 0 → (binV 14 a (pickV k 63) == binV 5 (binV 7 a (binV 12 1 (pickV k 63))) 1) = true) ∧ (¬ binV 8 a (binV 12 1 (pickV k 63)) < 0 → (binV 14 a (pickV k 63) == binV 7 a (binV 12 1 (pickV k 63))) = true) := by
  have hn := pick_rng (n := k) (m := 63) (by decide)
  generalize pickV k 63 = n at *
  obtain ⟨j, rfl⟩ := Int.eq_ofNat_of_zero_le hn.1
  have hj : j < 63 := by omega
  have hpos : (0 : Int) < 2 ^ j := Int.pow_pos (by decide)
  have hlt : (2 : Int) ^ j ≤ 2 ^ 62 := by
    have : 2 ^ j ≤ 2 ^ 62 := Nat.pow_le_pow_right (by decide) (by omega)
    exact_mod_cast this
  have hP : binV 12 1 (j : Int) = 2 ^ j := by
    rw [b12, Int.one_mul, show ((j : Int) % 64).toNat = j by omega]
    exact w64_self ⟨by omega, by omega⟩
  have hS : binV 14 a (j : Int) = a / 2 ^ j := by
    rw [b14, show ((j : Int) % 64).toNat = j by omega, Int.fdiv_eq_ediv_of_nonneg _ (Int.le_of_lt hpos)]
  rw [hP, hS]
  have hrng := (sar_rng ha j).1
  rw [Int.fdiv_eq_ediv_of_nonneg _ (Int.le_of_lt hpos)] at hrng
  generalize (2 : Int) ^ j = m at *
  have hq : binV 7 a m = Int.tdiv a m := by
    have h0 : (m == 0) = false := by simp; omega
    have h1 : (m == -1) = false := by simp; omega
    show quoV a m = _
    unfold quoV
    rw [h0, h1]
    exact w_tdiv ha (by omega)
  have hm := Int.mul_tdiv_add_tmod a m
  have hm2 := Int.mul_ediv_add_emod a m
  have h3 := Int.emod_nonneg a (Int.ne_of_gt hpos)
  have h4 := Int.emod_lt_of_pos a hpos
  have h5 : -m < a.tmod m := Int.lt_tmod_of_pos a hpos
  have h6 : a.tmod m < m := Int.tmod_lt_of_pos a hpos
  have hr : binV 8 a m = a.tmod m := by
    have h0 : (m == 0) = false := by simp; omega
    show (bif m == 0 then 0 else w64 (a - w64 (quoV a m * m))) = _
    rw [h0]
    have : quoV a m = Int.tdiv a m := hq
    rw [this]
    show w64 (a - w64 (a.tdiv m * m)) = _
    have e1 : a.tdiv m * m = a - a.tmod m := by rw [Int.mul_comm]; omega
    have e2 : in64 (a.tdiv m * m) := by
      rw [e1]
      obtain ⟨g1, g2⟩ := ha
      obtain ⟨_, _, f3, f4⟩ := tdiv_facts a m (by omega)
      rcases Int.le_total 0 a with h | h
      · have := f3 h; constructor <;> omega
      · have := f4 h; constructor <;> omega
    have e3 : w64 (a.tdiv m * m) = a - a.tmod m := (w64_self e2).trans e1
    rw [e3, show a - (a - a.tmod m) = a.tmod m by omega]
    exact w64_self (by constructor <;> omega)
  rw [hr, hq]
  have key : m * (a.tdiv m - a / m) = a % m - a.tmod m := by rw [Int.mul_sub]; omega
  generalize a.tdiv m = t at *
  generalize a / m = q at *
  refine ⟨fun h => beq_tt ?_, fun h => beq_tt ?_⟩
  · have : t - q = 1 := by
      have g1 : m * (t - q) < 2 * m := by omega
      have g2 : 0 < m * (t - q) := by omega
      have g3 : 0 < t - q := by
        rcases Int.lt_or_le 0 (t - q) with g | g
        · exact g
        · have := Int.mul_le_mul_of_nonneg_left g (Int.le_of_lt hpos); omega
      have g4 : t - q < 2 := by
        rcases Int.lt_or_le (t - q) 2 with g | g
        · exact g
        · have := Int.mul_le_mul_of_nonneg_left g (Int.le_of_lt hpos); omega
      omega
    rw [b5, show t - 1 = q by omega, w64_self hrng]
  · have : t - q = 0 := by
      have g1 : m * (t - q) < m := by omega
      have g2 : -m < m * (t - q) := by omega
      have g3 : -1 < t - q := by
        rcases Int.lt_or_le (-1) (t - q) with g | g
        · exact g
        · have := Int.mul_le_mul_of_nonneg_left g (Int.le_of_lt hpos); omega
      have g4 : t - q < 1 := by
        rcases Int.lt_or_le (t - q) 1 with g | g
        · exact g
        · have := Int.mul_le_mul_of_nonneg_left g (Int.le_of_lt hpos); omega
      omega
    omega

theorem sar_c (a : Int) (k : Int) {F : Fz} {H : Heap} {R : List Fp} (hs : HS (.of H []) F H [] R) (ha : in64 a) (hk : in64 k) : C Try.prog 0 (KX 12) 6 [(.int .i64 a), (.int .i64 k)] H fun v H' => ∃ (r : Bool) (F' : Fz), Fz.le F F' ∧ HS (.of H []) F' H' [] R ∧ v = .bool r ∧ r = true := by
  refine c_enter Try.func6 rfl rfl ?_
  refine wk_seq ?_
  refine wk_region ?_
  refine wa (.bool false) rfl rfl rfl ?_
  refine wo_nil ?_
  refine wk_skip_seq ?_
  refine wk_seq ?_
  refine wk_region ?_
  refine wm (.int .i64 k) rfl rfl rfl ?_
  refine wo_call (ap_call rfl rfl rfl) rfl rfl (w1.pick_c 12 k (63) _ (by omega)) ?_
  rintro _ H ⟨r1, rfl, rfl, rfl, h1⟩
  refine wa (.int .i64 (pickV k (63 : Int))) rfl rfl rfl ?_
  refine wo_nil ?_
  refine wk_skip_seq ?_
  refine wk_seq ?_
  refine wk_region ?_
  refine wm (.int .i64 (pickV k (63 : Int))) rfl rfl rfl ?_
  refine wo_call (ap_call rfl rfl rfl) rfl rfl (w1.bin_c 12 (12) (1) (pickV k (63 : Int)) _) ?_
  rintro _ H ⟨r2, rfl, rfl, rfl⟩
  refine wa (.int .i64 (binV (12 : Int) (1 : Int) (pickV k (63 : Int)))) rfl rfl rfl ?_
  refine wo_nil ?_
  refine wk_skip_seq ?_
  refine wk_seq ?_
  refine wk_region ?_
  refine wm (.int .i64 a) rfl rfl rfl ?_
  refine wm (.int .i64 (pickV k (63 : Int))) rfl rfl rfl ?_
  refine wo_call (ap_call rfl rfl rfl) rfl rfl (w1.bin_c 12 (14) a (pickV k (63 : Int)) _) ?_
  rintro _ H ⟨r3, rfl, rfl, rfl⟩
  refine wa (.int .i64 (binV (14 : Int) a (pickV k (63 : Int)))) rfl rfl rfl ?_
  refine wo_nil ?_
  refine wk_skip_seq ?_
  refine wk_seq ?_
  refine wk_region ?_
  refine wm (.int .i64 a) rfl rfl rfl ?_
  refine wm (.int .i64 (binV (12 : Int) (1 : Int) (pickV k (63 : Int)))) rfl rfl rfl ?_
  refine wo_call (ap_call rfl rfl rfl) rfl rfl (w1.bin_c 12 (7) a (binV (12 : Int) (1 : Int) (pickV k (63 : Int))) _) ?_
  rintro _ H ⟨r4, rfl, rfl, rfl⟩
  refine wm (.int .i64 a) rfl rfl rfl ?_
  refine wm (.int .i64 (binV (12 : Int) (1 : Int) (pickV k (63 : Int)))) rfl rfl rfl ?_
  refine wo_call (ap_call rfl rfl rfl) rfl rfl (w1.bin_c 12 (8) a (binV (12 : Int) (1 : Int) (pickV k (63 : Int))) _) ?_
  rintro _ H ⟨r5, rfl, rfl, rfl⟩
  refine wa (.int .i64 (binV (7 : Int) a (binV (12 : Int) (1 : Int) (pickV k (63 : Int))))) rfl rfl rfl ?_
  refine wa (.int .i64 (binV (8 : Int) a (binV (12 : Int) (1 : Int) (pickV k (63 : Int))))) rfl rfl rfl ?_
  refine wo_nil ?_
  refine wk_skip_seq ?_
  refine wk_seq ?_
  refine wk_seq ?_
  refine wk_region ?_
  refine wm (.int .i64 (binV (8 : Int) a (binV (12 : Int) (1 : Int) (pickV k (63 : Int))))) rfl rfl rfl ?_
  refine wo_val (v := (.bool (decide (binV (8 : Int) a (binV (12 : Int) (1 : Int) (pickV k (63 : Int))) < 0)))) (ap_cmp rfl rfl rfl rfl) rfl rfl ?_
  refine wo_nil ?_
  refine wk_skip_seq ?_
  refine wk_cond (v := (decide (binV (8 : Int) a (binV (12 : Int) (1 : Int) (pickV k (63 : Int))) < 0))) rfl rfl (fun c6b => ?_) (fun c6b => ?_)
  · have c6 := c6b
    try simp only [BS] at c6
    refine wk_region ?_
    refine wm (.int .i64 (binV (7 : Int) a (binV (12 : Int) (1 : Int) (pickV k (63 : Int))))) rfl rfl rfl ?_
    refine wo_call (ap_call rfl rfl rfl) rfl rfl (w1.bin_c 12 (5) (binV (7 : Int) a (binV (12 : Int) (1 : Int) (pickV k (63 : Int)))) (1) _) ?_
    rintro _ H ⟨r7, rfl, rfl, rfl⟩
    refine wa (.int .i64 (binV (5 : Int) (binV (7 : Int) a (binV (12 : Int) (1 : Int) (pickV k (63 : Int)))) (1 : Int))) rfl rfl rfl ?_
    refine wo_nil ?_
    refine wk_skip_seq ?_
    refine wk_seq ?_
    refine wk_rcut 4 32 [] [(4, (.bool (binV (14 : Int) a (pickV k (63 : Int)) == binV (5 : Int) (binV (7 : Int) a (binV (12 : Int) (1 : Int) (pickV k (63 : Int)))) (1 : Int))))] (fun H' => H' = H) ?_ ?_
    · skip
      refine wk_region ?_
      refine wm (.int .i64 (binV (14 : Int) a (pickV k (63 : Int)))) rfl rfl rfl ?_
      refine wm (.int .i64 (binV (5 : Int) (binV (7 : Int) a (binV (12 : Int) (1 : Int) (pickV k (63 : Int)))) (1 : Int))) rfl rfl rfl ?_
      refine wo_val (v := (.bool (binV (14 : Int) a (pickV k (63 : Int)) == binV (5 : Int) (binV (7 : Int) a (binV (12 : Int) (1 : Int) (pickV k (63 : Int)))) (1 : Int)))) (ap_cmp rfl rfl rfl rfl) rfl rfl ?_
      refine wm (.bool (binV (14 : Int) a (pickV k (63 : Int)) == binV (5 : Int) (binV (7 : Int) a (binV (12 : Int) (1 : Int) (pickV k (63 : Int)))) (1 : Int))) rfl rfl rfl ?_
      refine wo_gsT (v := (binV (14 : Int) a (pickV k (63 : Int)) == binV (5 : Int) (binV (7 : Int) a (binV (12 : Int) (1 : Int) (pickV k (63 : Int)))) (1 : Int))) rfl rfl (fun g10 => ?_) (fun g10 => ?_)
      · have pg10 := g10
        try simp only [BS] at pg10
        refine wo_call (ap_call rfl rfl rfl) rfl rfl (ex_c 12 _) ?_
        rintro _ H ⟨r11, rfl, rfl, rfl⟩
        refine wo_val (v := (.bool true)) (ap_pickT rfl g10 rfl) rfl rfl ?_
        refine wa (.bool true) rfl rfl rfl ?_
        refine wo_nil ?_
        exact wk_skip_nil ⟨rfl, rfl, (Lu rfl (Lu rfl (Lu rfl (Lu rfl (Lu rfl (Lu rfl (Lu rfl Lr))))))), (agC (congrArg Value.bool (show true = (binV (14 : Int) a (pickV k (63 : Int)) == binV (5 : Int) (binV (7 : Int) a (binV (12 : Int) (1 : Int) (pickV k (63 : Int)))) (1 : Int)) by simp only [↓g10, BT])) agN)⟩
      · have pg10 := g10
        try simp only [BS] at pg10
        refine wo_val (v := (.bool false)) (ap_pickF rfl g10 rfl) rfl rfl ?_
        refine wa (.bool false) rfl rfl rfl ?_
        refine wo_nil ?_
        exact wk_skip_nil ⟨rfl, rfl, (Lu rfl (Lu rfl (Lu rfl (Lu rfl (Lu rfl (Lu rfl (Lu rfl Lr))))))), (agC (congrArg Value.bool (show false = (binV (14 : Int) a (pickV k (63 : Int)) == binV (5 : Int) (binV (7 : Int) a (binV (12 : Int) (1 : Int) (pickV k (63 : Int)))) (1 : Int)) by simp only [↓g10, BT])) agN)⟩
    · skip
      rintro g9 H rfl
      refine wk_skip_seq ?_
      refine wk_ret ⟨.inr rfl, _, rfl, (binV (14 : Int) a (pickV k (63 : Int)) == binV (5 : Int) (binV (7 : Int) a (binV (12 : Int) (1 : Int) (pickV k (63 : Int)))) (1 : Int)), _, (Fz.le_refl _), (HS.forget hs), rfl, (by first | exact (sarA a k ha).1 (by assumption) | exact (sarA a k ha).2 (by assumption))⟩
  · have c6 := c6b
    try simp only [BS] at c6
    refine wk_skip_seq ?_
    refine wk_seq ?_
    refine wk_rcut 4 32 [] [(4, (.bool (binV (14 : Int) a (pickV k (63 : Int)) == binV (7 : Int) a (binV (12 : Int) (1 : Int) (pickV k (63 : Int))))))] (fun H' => H' = H) ?_ ?_
    · skip
      refine wk_region ?_
      refine wm (.int .i64 (binV (14 : Int) a (pickV k (63 : Int)))) rfl rfl rfl ?_
      refine wm (.int .i64 (binV (7 : Int) a (binV (12 : Int) (1 : Int) (pickV k (63 : Int))))) rfl rfl rfl ?_
      refine wo_val (v := (.bool (binV (14 : Int) a (pickV k (63 : Int)) == binV (7 : Int) a (binV (12 : Int) (1 : Int) (pickV k (63 : Int)))))) (ap_cmp rfl rfl rfl rfl) rfl rfl ?_
      refine wm (.bool (binV (14 : Int) a (pickV k (63 : Int)) == binV (7 : Int) a (binV (12 : Int) (1 : Int) (pickV k (63 : Int))))) rfl rfl rfl ?_
      refine wo_gsT (v := (binV (14 : Int) a (pickV k (63 : Int)) == binV (7 : Int) a (binV (12 : Int) (1 : Int) (pickV k (63 : Int))))) rfl rfl (fun g14 => ?_) (fun g14 => ?_)
      · have pg14 := g14
        try simp only [BS] at pg14
        refine wo_call (ap_call rfl rfl rfl) rfl rfl (ex_c 12 _) ?_
        rintro _ H ⟨r15, rfl, rfl, rfl⟩
        refine wo_val (v := (.bool true)) (ap_pickT rfl g14 rfl) rfl rfl ?_
        refine wa (.bool true) rfl rfl rfl ?_
        refine wo_nil ?_
        exact wk_skip_nil ⟨rfl, rfl, (Lu rfl (Lu rfl (Lu rfl (Lu rfl (Lu rfl (Lu rfl (Lu rfl Lr))))))), (agC (congrArg Value.bool (show true = (binV (14 : Int) a (pickV k (63 : Int)) == binV (7 : Int) a (binV (12 : Int) (1 : Int) (pickV k (63 : Int)))) by simp only [↓g14, BT])) agN)⟩
      · have pg14 := g14
        try simp only [BS] at pg14
        refine wo_val (v := (.bool false)) (ap_pickF rfl g14 rfl) rfl rfl ?_
        refine wa (.bool false) rfl rfl rfl ?_
        refine wo_nil ?_
        exact wk_skip_nil ⟨rfl, rfl, (Lu rfl (Lu rfl (Lu rfl (Lu rfl (Lu rfl (Lu rfl (Lu rfl Lr))))))), (agC (congrArg Value.bool (show false = (binV (14 : Int) a (pickV k (63 : Int)) == binV (7 : Int) a (binV (12 : Int) (1 : Int) (pickV k (63 : Int)))) by simp only [↓g14, BT])) agN)⟩
    · skip
      rintro g13 H rfl
      refine wk_skip_seq ?_
      refine wk_ret ⟨.inr rfl, _, rfl, (binV (14 : Int) a (pickV k (63 : Int)) == binV (7 : Int) a (binV (12 : Int) (1 : Int) (pickV k (63 : Int)))), _, (Fz.le_refl _), (HS.forget hs), rfl, (by first | exact (sarA a k ha).1 (by assumption) | exact (sarA a k ha).2 (by assumption))⟩

theorem ringA (a b c : Int) (ha : in64 a) (_ : in64 b) (_ : in64 c) : (((((((binV 4 a b == binV 4 b a) && (binV 6 a b == binV 6 b a)) && (binV 6 c (binV 4 a b) == binV 4 (binV 6 c a) (binV 6 c b))) && (binV 5 (binV 4 a b) b == a)) && (binV 4 a (unV 20 a) == 0)) && (unV 21 a == binV 5 (-1) a)) && (binV 6 (binV 6 a b) c == binV 6 a (binV 6 b c))) = true := by
  have u20 : unV 20 a = IntKind.i64.wrap (0 - a) := rfl
  have u21 : unV 21 a = bits .xor .i64 (-1) a := rfl
  rw [u20, u21]
  simp only [b4, b5, b6]
  refine and_tt (and_tt (and_tt (and_tt (and_tt (and_tt (beq_tt ?_) (beq_tt ?_)) (beq_tt ?_)) (beq_tt ?_)) (beq_tt ?_)) (beq_tt ?_)) (beq_tt ?_)
  · rw [Int.add_comm]
  · rw [Int.mul_comm]
  · rw [w64_mul_r, w64_add_l, w64_add_r, Int.mul_add]
  · rw [w64_sub_l, show a + b - b = a by omega, w64_self ha]
  · rw [w64_add_r, show a + (0 - a) = 0 by omega]; rfl
  · have h1 : bits .xor .i64 (-1) a = (bv (-1) ^^^ bv a).toInt := xor_bv (-1) a
    have h2 : bv (-1) = BitVec.allOnes 64 := by decide
    rw [h1, h2, BitVec.allOnes_xor, not_bv]
  · rw [w64_mul_l, w64_mul_r, Int.mul_assoc]
theorem undefA (op a b : Int) : ((((op == 20) || (op == 21)) || (unV op a == 0)) && (((decide ((4 : Int) ≤ op)) && (decide (op ≤ 19))) || (binV op a b == 0))) = true := by
  apply and_tt
  · by_cases h1 : op = 20
    · subst h1; rfl
    · by_cases h2 : op = 21
      · subst h2; rfl
      · have e1 : (op == 20) = false := by simpa using h1
        have e2 : (op == 21) = false := by simpa using h2
        simp only [unV, e1, e2]; rfl
  · by_cases h : 4 ≤ op ∧ op ≤ 19
    · simp [h.1, h.2]
    · have e : ∀ k : Int, 4 ≤ k → k ≤ 19 → (op == k) = false := fun k h1 h2 => by simp; omega
      simp only [binV, shcV, e 4 (by decide) (by decide), e 5 (by decide) (by decide), e 6 (by decide) (by decide), e 7 (by decide) (by decide), e 8 (by decide) (by decide), e 9 (by decide) (by decide), e 10 (by decide) (by decide), e 11 (by decide) (by decide), e 12 (by decide) (by decide), e 13 (by decide) (by decide), e 14 (by decide) (by decide), e 15 (by decide) (by decide), e 16 (by decide) (by decide), e 17 (by decide) (by decide), e 18 (by decide) (by decide), e 19 (by decide) (by decide), cond_false]
      simp

theorem ring_c (a : Int) (b : Int) (c : Int) (H : Heap) (ha : in64 a) (hb : in64 b) (hc : in64 c) : C Try.prog 0 (KX 12) 8 [(.int .i64 a), (.int .i64 b), (.int .i64 c)] H fun v H' => ∃ (r : Bool), H' = H ∧ v = .bool r ∧ r = true := by
  refine c_enter Try.func8 rfl rfl ?_
  refine wk_seq ?_
  refine wk_region ?_
  refine wa (.bool false) rfl rfl rfl ?_
  refine wo_nil ?_
  refine wk_skip_seq ?_
  refine wk_seq ?_
  refine wk_region ?_
  refine wm (.int .i64 a) rfl rfl rfl ?_
  refine wm (.int .i64 b) rfl rfl rfl ?_
  refine wo_call (ap_call rfl rfl rfl) rfl rfl (w1.bin_c 12 (4) a b _) ?_
  rintro _ H ⟨r1, rfl, rfl, rfl⟩
  refine wm (.int .i64 a) rfl rfl rfl ?_
  refine wm (.int .i64 b) rfl rfl rfl ?_
  refine wo_call (ap_call rfl rfl rfl) rfl rfl (w1.bin_c 12 (6) a b _) ?_
  rintro _ H ⟨r2, rfl, rfl, rfl⟩
  refine wa (.int .i64 (binV (4 : Int) a b)) rfl rfl rfl ?_
  refine wa (.int .i64 (binV (6 : Int) a b)) rfl rfl rfl ?_
  refine wo_nil ?_
  refine wk_skip_seq ?_
  refine wk_seq ?_
  refine wk_region ?_
  refine wm (.int .i64 c) rfl rfl rfl ?_
  refine wm (.int .i64 (binV (4 : Int) a b)) rfl rfl rfl ?_
  refine wo_call (ap_call rfl rfl rfl) rfl rfl (w1.bin_c 12 (6) c (binV (4 : Int) a b) _) ?_
  rintro _ H ⟨r3, rfl, rfl, rfl⟩
  refine wa (.int .i64 (binV (6 : Int) c (binV (4 : Int) a b))) rfl rfl rfl ?_
  refine wo_nil ?_
  refine wk_skip_seq ?_
  refine wk_seq ?_
  refine wk_region ?_
  refine wm (.int .i64 c) rfl rfl rfl ?_
  refine wm (.int .i64 a) rfl rfl rfl ?_
  refine wo_call (ap_call rfl rfl rfl) rfl rfl (w1.bin_c 12 (6) c a _) ?_
  rintro _ H ⟨r4, rfl, rfl, rfl⟩
  refine wm (.int .i64 c) rfl rfl rfl ?_
  refine wm (.int .i64 b) rfl rfl rfl ?_
  refine wo_call (ap_call rfl rfl rfl) rfl rfl (w1.bin_c 12 (6) c b _) ?_
  rintro _ H ⟨r5, rfl, rfl, rfl⟩
  refine wo_call (ap_call rfl rfl rfl) rfl rfl (w1.bin_c 12 (4) (binV (6 : Int) c a) (binV (6 : Int) c b) _) ?_
  rintro _ H ⟨r6, rfl, rfl, rfl⟩
  refine wa (.int .i64 (binV (4 : Int) (binV (6 : Int) c a) (binV (6 : Int) c b))) rfl rfl rfl ?_
  refine wo_nil ?_
  refine wk_skip_seq ?_
  refine wk_seq ?_
  refine wk_rcut 6 78 [] [(6, (.bool (((((((binV (4 : Int) a b == binV (4 : Int) b a) && (binV (6 : Int) a b == binV (6 : Int) b a)) && (binV (6 : Int) c (binV (4 : Int) a b) == binV (4 : Int) (binV (6 : Int) c a) (binV (6 : Int) c b))) && (binV (5 : Int) (binV (4 : Int) a b) b == a)) && (binV (4 : Int) a (unV (20 : Int) a) == 0)) && (unV (21 : Int) a == binV (5 : Int) (-1 : Int) a)) && (binV (6 : Int) (binV (6 : Int) a b) c == binV (6 : Int) a (binV (6 : Int) b c)))))] (fun H' => H' = H) ?_ ?_
  · skip
    refine wk_region ?_
    refine wm (.int .i64 (binV (4 : Int) a b)) rfl rfl rfl ?_
    refine wm (.int .i64 b) rfl rfl rfl ?_
    refine wm (.int .i64 a) rfl rfl rfl ?_
    refine wo_call (ap_call rfl rfl rfl) rfl rfl (w1.bin_c 12 (4) b a _) ?_
    rintro _ H ⟨r19, rfl, rfl, rfl⟩
    refine wo_val (v := (.bool (binV (4 : Int) a b == binV (4 : Int) b a))) (ap_cmp rfl rfl rfl rfl) rfl rfl ?_
    refine wm (.bool (binV (4 : Int) a b == binV (4 : Int) b a)) rfl rfl rfl ?_
    refine wo_gsT (v := (binV (4 : Int) a b == binV (4 : Int) b a)) rfl rfl (fun g20 => ?_) (fun g20 => ?_)
    · have pg20 := g20
      try simp only [BS] at pg20
      refine wm (.int .i64 (binV (6 : Int) a b)) rfl rfl rfl ?_
      refine wo_gt rfl g20 ?_
      refine wm (.int .i64 b) rfl rfl rfl ?_
      refine wo_gt rfl g20 ?_
      refine wm (.int .i64 a) rfl rfl rfl ?_
      refine wo_gt rfl g20 ?_
      refine wo_call (ap_call rfl rfl rfl) rfl rfl (w1.bin_c 12 (6) b a _) ?_
      rintro _ H ⟨r21, rfl, rfl, rfl⟩
      refine wo_gt rfl g20 ?_
      refine wo_val (v := (.bool (binV (6 : Int) a b == binV (6 : Int) b a))) (ap_cmp rfl rfl rfl rfl) rfl rfl ?_
      refine wo_val (v := (.bool (binV (6 : Int) a b == binV (6 : Int) b a))) (ap_pickT rfl g20 rfl) rfl rfl ?_
      refine wm (.bool (binV (6 : Int) a b == binV (6 : Int) b a)) rfl rfl rfl ?_
      refine wo_gsT (v := (binV (6 : Int) a b == binV (6 : Int) b a)) rfl rfl (fun g22 => ?_) (fun g22 => ?_)
      · have pg22 := g22
        try simp only [BS] at pg22
        refine wm (.int .i64 (binV (6 : Int) c (binV (4 : Int) a b))) rfl rfl rfl ?_
        refine wo_gt rfl g22 ?_
        refine wm (.int .i64 (binV (4 : Int) (binV (6 : Int) c a) (binV (6 : Int) c b))) rfl rfl rfl ?_
        refine wo_gt rfl g22 ?_
        refine wo_val (v := (.bool (binV (6 : Int) c (binV (4 : Int) a b) == binV (4 : Int) (binV (6 : Int) c a) (binV (6 : Int) c b)))) (ap_cmp rfl rfl rfl rfl) rfl rfl ?_
        refine wo_val (v := (.bool (binV (6 : Int) c (binV (4 : Int) a b) == binV (4 : Int) (binV (6 : Int) c a) (binV (6 : Int) c b)))) (ap_pickT rfl g22 rfl) rfl rfl ?_
        refine wm (.bool (binV (6 : Int) c (binV (4 : Int) a b) == binV (4 : Int) (binV (6 : Int) c a) (binV (6 : Int) c b))) rfl rfl rfl ?_
        refine wo_gsT (v := (binV (6 : Int) c (binV (4 : Int) a b) == binV (4 : Int) (binV (6 : Int) c a) (binV (6 : Int) c b))) rfl rfl (fun g23 => ?_) (fun g23 => ?_)
        · have pg23 := g23
          try simp only [BS] at pg23
          refine wm (.int .i64 (binV (4 : Int) a b)) rfl rfl rfl ?_
          refine wo_gt rfl g23 ?_
          refine wm (.int .i64 b) rfl rfl rfl ?_
          refine wo_gt rfl g23 ?_
          refine wo_call (ap_call rfl rfl rfl) rfl rfl (w1.bin_c 12 (5) (binV (4 : Int) a b) b _) ?_
          rintro _ H ⟨r24, rfl, rfl, rfl⟩
          refine wo_gt rfl g23 ?_
          refine wm (.int .i64 a) rfl rfl rfl ?_
          refine wo_gt rfl g23 ?_
          refine wo_val (v := (.bool (binV (5 : Int) (binV (4 : Int) a b) b == a))) (ap_cmp rfl rfl rfl rfl) rfl rfl ?_
          refine wo_val (v := (.bool (binV (5 : Int) (binV (4 : Int) a b) b == a))) (ap_pickT rfl g23 rfl) rfl rfl ?_
          refine wm (.bool (binV (5 : Int) (binV (4 : Int) a b) b == a)) rfl rfl rfl ?_
          refine wo_gsT (v := (binV (5 : Int) (binV (4 : Int) a b) b == a)) rfl rfl (fun g25 => ?_) (fun g25 => ?_)
          · have pg25 := g25
            try simp only [BS] at pg25
            refine wm (.int .i64 a) rfl rfl rfl ?_
            refine wo_gt rfl g25 ?_
            refine wm (.int .i64 a) rfl rfl rfl ?_
            refine wo_gt rfl g25 ?_
            refine wo_call (ap_call rfl rfl rfl) rfl rfl (w1.un_c 12 (20) a _) ?_
            rintro _ H ⟨r26, rfl, rfl, rfl⟩
            refine wo_gt rfl g25 ?_
            refine wo_call (ap_call rfl rfl rfl) rfl rfl (w1.bin_c 12 (4) a (unV (20 : Int) a) _) ?_
            rintro _ H ⟨r27, rfl, rfl, rfl⟩
            refine wo_gt rfl g25 ?_
            refine wo_val (v := (.bool (binV (4 : Int) a (unV (20 : Int) a) == 0))) (ap_cmp rfl rfl rfl rfl) rfl rfl ?_
            refine wo_val (v := (.bool (binV (4 : Int) a (unV (20 : Int) a) == 0))) (ap_pickT rfl g25 rfl) rfl rfl ?_
            refine wm (.bool (binV (4 : Int) a (unV (20 : Int) a) == 0)) rfl rfl rfl ?_
            refine wo_gsT (v := (binV (4 : Int) a (unV (20 : Int) a) == 0)) rfl rfl (fun g28 => ?_) (fun g28 => ?_)
            · have pg28 := g28
              try simp only [BS] at pg28
              refine wm (.int .i64 a) rfl rfl rfl ?_
              refine wo_gt rfl g28 ?_
              refine wo_call (ap_call rfl rfl rfl) rfl rfl (w1.un_c 12 (21) a _) ?_
              rintro _ H ⟨r29, rfl, rfl, rfl⟩
              refine wo_gt rfl g28 ?_
              refine wm (.int .i64 a) rfl rfl rfl ?_
              refine wo_gt rfl g28 ?_
              refine wo_call (ap_call rfl rfl rfl) rfl rfl (w1.bin_c 12 (5) ((-1)) a _) ?_
              rintro _ H ⟨r30, rfl, rfl, rfl⟩
              refine wo_gt rfl g28 ?_
              refine wo_val (v := (.bool (unV (21 : Int) a == binV (5 : Int) (-1 : Int) a))) (ap_cmp rfl rfl rfl rfl) rfl rfl ?_
              refine wo_val (v := (.bool (unV (21 : Int) a == binV (5 : Int) (-1 : Int) a))) (ap_pickT rfl g28 rfl) rfl rfl ?_
              refine wm (.bool (unV (21 : Int) a == binV (5 : Int) (-1 : Int) a)) rfl rfl rfl ?_
              refine wo_gsT (v := (unV (21 : Int) a == binV (5 : Int) (-1 : Int) a)) rfl rfl (fun g31 => ?_) (fun g31 => ?_)
              · have pg31 := g31
                try simp only [BS] at pg31
                refine wm (.int .i64 (binV (6 : Int) a b)) rfl rfl rfl ?_
                refine wo_gt rfl g31 ?_
                refine wm (.int .i64 c) rfl rfl rfl ?_
                refine wo_gt rfl g31 ?_
                refine wo_call (ap_call rfl rfl rfl) rfl rfl (w1.bin_c 12 (6) (binV (6 : Int) a b) c _) ?_
                rintro _ H ⟨r32, rfl, rfl, rfl⟩
                refine wo_gt rfl g31 ?_
                refine wm (.int .i64 a) rfl rfl rfl ?_
                refine wo_gt rfl g31 ?_
                refine wm (.int .i64 b) rfl rfl rfl ?_
                refine wo_gt rfl g31 ?_
                refine wm (.int .i64 c) rfl rfl rfl ?_
                refine wo_gt rfl g31 ?_
                refine wo_call (ap_call rfl rfl rfl) rfl rfl (w1.bin_c 12 (6) b c _) ?_
                rintro _ H ⟨r33, rfl, rfl, rfl⟩
                refine wo_gt rfl g31 ?_
                refine wo_call (ap_call rfl rfl rfl) rfl rfl (w1.bin_c 12 (6) a (binV (6 : Int) b c) _) ?_
                rintro _ H ⟨r34, rfl, rfl, rfl⟩
                refine wo_gt rfl g31 ?_
                refine wo_val (v := (.bool (binV (6 : Int) (binV (6 : Int) a b) c == binV (6 : Int) a (binV (6 : Int) b c)))) (ap_cmp rfl rfl rfl rfl) rfl rfl ?_
                refine wo_val (v := (.bool (binV (6 : Int) (binV (6 : Int) a b) c == binV (6 : Int) a (binV (6 : Int) b c)))) (ap_pickT rfl g31 rfl) rfl rfl ?_
                refine wm (.bool (binV (6 : Int) (binV (6 : Int) a b) c == binV (6 : Int) a (binV (6 : Int) b c))) rfl rfl rfl ?_
                refine wo_gsT (v := (binV (6 : Int) (binV (6 : Int) a b) c == binV (6 : Int) a (binV (6 : Int) b c))) rfl rfl (fun g35 => ?_) (fun g35 => ?_)
                · have pg35 := g35
                  try simp only [BS] at pg35
                  refine wo_call (ap_call rfl rfl rfl) rfl rfl (ex_c 12 _) ?_
                  rintro _ H ⟨r36, rfl, rfl, rfl⟩
                  refine wo_val (v := (.bool true)) (ap_pickT rfl g35 rfl) rfl rfl ?_
                  refine wa (.bool true) rfl rfl rfl ?_
                  refine wo_nil ?_
                  exact wk_skip_nil ⟨rfl, rfl, (Lu rfl (Lu rfl (Lu rfl (Lu rfl (Lu rfl (Lu rfl (Lu rfl (Lu rfl (Lu rfl (Lu rfl (Lu rfl (Lu rfl (Lu rfl (Lu rfl (Lu rfl (Lu rfl (Lu rfl (Lu rfl (Lu rfl (Lu rfl (Lu rfl (Lu rfl (Lu rfl (Lu rfl (Lu rfl (Lu rfl (Lu rfl (Lu rfl (Lu rfl (Lu rfl (Lu rfl (Lu rfl (Lu rfl (Lu rfl (Lu rfl (Lu rfl (Lu rfl (Lu rfl (Lu rfl (Lu rfl (Lu rfl (Lu rfl (Lu rfl (Lu rfl (Lu rfl (Lu rfl (Lu rfl (Lu rfl (Lu rfl (Lu rfl (Lu rfl (Lu rfl (Lu rfl Lr))))))))))))))))))))))))))))))))))))))))))))))))))))), (agC (congrArg Value.bool (show true = (((((((binV (4 : Int) a b == binV (4 : Int) b a) && (binV (6 : Int) a b == binV (6 : Int) b a)) && (binV (6 : Int) c (binV (4 : Int) a b) == binV (4 : Int) (binV (6 : Int) c a) (binV (6 : Int) c b))) && (binV (5 : Int) (binV (4 : Int) a b) b == a)) && (binV (4 : Int) a (unV (20 : Int) a) == 0)) && (unV (21 : Int) a == binV (5 : Int) (-1 : Int) a)) && (binV (6 : Int) (binV (6 : Int) a b) c == binV (6 : Int) a (binV (6 : Int) b c))) by simp only [↓g20, ↓g22, ↓g23, ↓g25, ↓g28, ↓g31, ↓g35, BT])) agN)⟩
                · have pg35 := g35
                  try simp only [BS] at pg35
                  refine wo_val (v := (.bool false)) (ap_pickF rfl g35 rfl) rfl rfl ?_
                  refine wa (.bool false) rfl rfl rfl ?_
                  refine wo_nil ?_
                  exact wk_skip_nil ⟨rfl, rfl, (Lu rfl (Lu rfl (Lu rfl (Lu rfl (Lu rfl (Lu rfl (Lu rfl (Lu rfl (Lu rfl (Lu rfl (Lu rfl (Lu rfl (Lu rfl (Lu rfl (Lu rfl (Lu rfl (Lu rfl (Lu rfl (Lu rfl (Lu rfl (Lu rfl (Lu rfl (Lu rfl (Lu rfl (Lu rfl (Lu rfl (Lu rfl (Lu rfl (Lu rfl (Lu rfl (Lu rfl (Lu rfl (Lu rfl (Lu rfl (Lu rfl (Lu rfl (Lu rfl (Lu rfl (Lu rfl (Lu rfl (Lu rfl (Lu rfl (Lu rfl (Lu rfl (Lu rfl (Lu rfl (Lu rfl (Lu rfl (Lu rfl (Lu rfl (Lu rfl (Lu rfl (Lu rfl Lr))))))))))))))))))))))))))))))))))))))))))))))))))))), (agC (congrArg Value.bool (show false = (((((((binV (4 : Int) a b == binV (4 : Int) b a) && (binV (6 : Int) a b == binV (6 : Int) b a)) && (binV (6 : Int) c (binV (4 : Int) a b) == binV (4 : Int) (binV (6 : Int) c a) (binV (6 : Int) c b))) && (binV (5 : Int) (binV (4 : Int) a b) b == a)) && (binV (4 : Int) a (unV (20 : Int) a) == 0)) && (unV (21 : Int) a == binV (5 : Int) (-1 : Int) a)) && (binV (6 : Int) (binV (6 : Int) a b) c == binV (6 : Int) a (binV (6 : Int) b c))) by simp only [↓g20, ↓g22, ↓g23, ↓g25, ↓g28, ↓g31, ↓g35, BT])) agN)⟩
              · have pg31 := g31
                try simp only [BS] at pg31
                refine wo_gf1 rfl g31 rfl ?_
                refine wo_gf1 rfl g31 rfl ?_
                refine wo_gf1 rfl g31 rfl ?_
                refine wo_gf1 rfl g31 rfl ?_
                refine wo_gf1 rfl g31 rfl ?_
                refine wo_gf1 rfl g31 rfl ?_
                refine wo_gf1 rfl g31 rfl ?_
                refine wo_gf1 rfl g31 rfl ?_
                refine wo_val (v := (.bool false)) (ap_pickF rfl g31 rfl) rfl rfl ?_
                refine wm (.bool false) rfl rfl rfl ?_
                refine wo_gf1 rfl rfl rfl ?_
                refine wo_val (v := (.bool false)) (ap_pickF rfl rfl rfl) rfl rfl ?_
                refine wa (.bool false) rfl rfl rfl ?_
                refine wo_nil ?_
                exact wk_skip_nil ⟨rfl, rfl, (Lu rfl (Lu rfl (Lu rfl (Lu rfl (Lu rfl (Lu rfl (Lu rfl (Lu rfl (Lu rfl (Lu rfl (Lu rfl (Lu rfl (Lu rfl (Lu rfl (Lu rfl (Lu rfl (Lu rfl (Lu rfl (Lu rfl (Lu rfl (Lu rfl (Lu rfl (Lu rfl (Lu rfl (Lu rfl (Lu rfl (Lu rfl (Lu rfl (Lu rfl (Lu rfl (Lu rfl (Lu rfl (Lu rfl (Lu rfl (Lu rfl (Lu rfl (Lu rfl (Lu rfl (Lu rfl (Lu rfl (Lu rfl (Lu rfl (Lu rfl (Lu rfl (Lu rfl (Lu rfl (Lu rfl (Lu rfl (Lu rfl (Lu rfl (Lu rfl (Lu rfl (Lu rfl Lr))))))))))))))))))))))))))))))))))))))))))))))))))))), (agC (congrArg Value.bool (show false = (((((((binV (4 : Int) a b == binV (4 : Int) b a) && (binV (6 : Int) a b == binV (6 : Int) b a)) && (binV (6 : Int) c (binV (4 : Int) a b) == binV (4 : Int) (binV (6 : Int) c a) (binV (6 : Int) c b))) && (binV (5 : Int) (binV (4 : Int) a b) b == a)) && (binV (4 : Int) a (unV (20 : Int) a) == 0)) && (unV (21 : Int) a == binV (5 : Int) (-1 : Int) a)) && (binV (6 : Int) (binV (6 : Int) a b) c == binV (6 : Int) a (binV (6 : Int) b c))) by simp only [↓g20, ↓g22, ↓g23, ↓g25, ↓g28, ↓g31, BT])) agN)⟩
            · have pg28 := g28
              try simp only [BS] at pg28
              refine wo_gf1 rfl g28 rfl ?_
              refine wo_gf1 rfl g28 rfl ?_
              refine wo_gf1 rfl g28 rfl ?_
              refine wo_gf1 rfl g28 rfl ?_
              refine wo_val (v := (.bool false)) (ap_pickF rfl g28 rfl) rfl rfl ?_
              refine wm (.bool false) rfl rfl rfl ?_
              refine wo_gf1 rfl rfl rfl ?_
              refine wo_gf1 rfl rfl rfl ?_
              refine wo_gf1 rfl rfl rfl ?_
              refine wo_gf1 rfl rfl rfl ?_
              refine wo_gf1 rfl rfl rfl ?_
              refine wo_gf1 rfl rfl rfl ?_
              refine wo_gf1 rfl rfl rfl ?_
              refine wo_gf1 rfl rfl rfl ?_
              refine wo_gf1 rfl rfl rfl ?_
              refine wo_val (v := (.bool false)) (ap_pickF rfl rfl rfl) rfl rfl ?_
              refine wm (.bool false) rfl rfl rfl ?_
              refine wo_gf1 rfl rfl rfl ?_
              refine wo_val (v := (.bool false)) (ap_pickF rfl rfl rfl) rfl rfl ?_
              refine wa (.bool false) rfl rfl rfl ?_
              refine wo_nil ?_
              exact wk_skip_nil ⟨rfl, rfl, (Lu rfl (Lu rfl (Lu rfl (Lu rfl (Lu rfl (Lu rfl (Lu rfl (Lu rfl (Lu rfl (Lu rfl (Lu rfl (Lu rfl (Lu rfl (Lu rfl (Lu rfl (Lu rfl (Lu rfl (Lu rfl (Lu rfl (Lu rfl (Lu rfl (Lu rfl (Lu rfl (Lu rfl (Lu rfl (Lu rfl (Lu rfl (Lu rfl (Lu rfl (Lu rfl (Lu rfl (Lu rfl (Lu rfl (Lu rfl (Lu rfl (Lu rfl (Lu rfl (Lu rfl (Lu rfl (Lu rfl (Lu rfl (Lu rfl (Lu rfl (Lu rfl (Lu rfl (Lu rfl (Lu rfl (Lu rfl (Lu rfl (Lu rfl (Lu rfl (Lu rfl (Lu rfl Lr))))))))))))))))))))))))))))))))))))))))))))))))))))), (agC (congrArg Value.bool (show false = (((((((binV (4 : Int) a b == binV (4 : Int) b a) && (binV (6 : Int) a b == binV (6 : Int) b a)) && (binV (6 : Int) c (binV (4 : Int) a b) == binV (4 : Int) (binV (6 : Int) c a) (binV (6 : Int) c b))) && (binV (5 : Int) (binV (4 : Int) a b) b == a)) && (binV (4 : Int) a (unV (20 : Int) a) == 0)) && (unV (21 : Int) a == binV (5 : Int) (-1 : Int) a)) && (binV (6 : Int) (binV (6 : Int) a b) c == binV (6 : Int) a (binV (6 : Int) b c))) by simp only [↓g20, ↓g22, ↓g23, ↓g25, ↓g28, BT])) agN)⟩
          · have pg25 := g25
            try simp only [BS] at pg25
            refine wo_gf1 rfl g25 rfl ?_
            refine wo_gf1 rfl g25 rfl ?_
            refine wo_gf1 rfl g25 rfl ?_
            refine wo_gf1 rfl g25 rfl ?_
            refine wo_val (v := (.bool false)) (ap_pickF rfl g25 rfl) rfl rfl ?_
            refine wm (.bool false) rfl rfl rfl ?_
            refine wo_gf1 rfl rfl rfl ?_
            refine wo_gf1 rfl rfl rfl ?_
            refine wo_gf1 rfl rfl rfl ?_
            refine wo_gf1 rfl rfl rfl ?_
            refine wo_gf1 rfl rfl rfl ?_
            refine wo_val (v := (.bool false)) (ap_pickF rfl rfl rfl) rfl rfl ?_
            refine wm (.bool false) rfl rfl rfl ?_
            refine wo_gf1 rfl rfl rfl ?_
            refine wo_gf1 rfl rfl rfl ?_
            refine wo_gf1 rfl rfl rfl ?_
            refine wo_gf1 rfl rfl rfl ?_
            refine wo_gf1 rfl rfl rfl ?_
            refine wo_gf1 rfl rfl rfl ?_
            refine wo_gf1 rfl rfl rfl ?_
            refine wo_gf1 rfl rfl rfl ?_
            refine wo_gf1 rfl rfl rfl ?_
            refine wo_val (v := (.bool false)) (ap_pickF rfl rfl rfl) rfl rfl ?_
            refine wm (.bool false) rfl rfl rfl ?_
            refine wo_gf1 rfl rfl rfl ?_
            refine wo_val (v := (.bool false)) (ap_pickF rfl rfl rfl) rfl rfl ?_
            refine wa (.bool false) rfl rfl rfl ?_
            refine wo_nil ?_
            exact wk_skip_nil ⟨rfl, rfl, (Lu rfl (Lu rfl (Lu rfl (Lu rfl (Lu rfl (Lu rfl (Lu rfl (Lu rfl (Lu rfl (Lu rfl (Lu rfl (Lu rfl (Lu rfl (Lu rfl (Lu rfl (Lu rfl (Lu rfl (Lu rfl (Lu rfl (Lu rfl (Lu rfl (Lu rfl (Lu rfl (Lu rfl (Lu rfl (Lu rfl (Lu rfl (Lu rfl (Lu rfl (Lu rfl (Lu rfl (Lu rfl (Lu rfl (Lu rfl (Lu rfl (Lu rfl (Lu rfl (Lu rfl (Lu rfl (Lu rfl (Lu rfl (Lu rfl (Lu rfl (Lu rfl (Lu rfl (Lu rfl (Lu rfl (Lu rfl (Lu rfl (Lu rfl (Lu rfl (Lu rfl (Lu rfl Lr))))))))))))))))))))))))))))))))))))))))))))))))))))), (agC (congrArg Value.bool (show false = (((((((binV (4 : Int) a b == binV (4 : Int) b a) && (binV (6 : Int) a b == binV (6 : Int) b a)) && (binV (6 : Int) c (binV (4 : Int) a b) == binV (4 : Int) (binV (6 : Int) c a) (binV (6 : Int) c b))) && (binV (5 : Int) (binV (4 : Int) a b) b == a)) && (binV (4 : Int) a (unV (20 : Int) a) == 0)) && (unV (21 : Int) a == binV (5 : Int) (-1 : Int) a)) && (binV (6 : Int) (binV (6 : Int) a b) c == binV (6 : Int) a (binV (6 : Int) b c))) by simp only [↓g20, ↓g22, ↓g23, ↓g25, BT])) agN)⟩
        · have pg23 := g23
          try simp only [BS] at pg23
          refine wo_gf1 rfl g23 rfl ?_
          refine wo_gf1 rfl g23 rfl ?_
          refine wo_gf1 rfl g23 rfl ?_
          refine wo_gf1 rfl g23 rfl ?_
          refine wo_val (v := (.bool false)) (ap_pickF rfl g23 rfl) rfl rfl ?_
          refine wm (.bool false) rfl rfl rfl ?_
          refine wo_gf1 rfl rfl rfl ?_
          refine wo_gf1 rfl rfl rfl ?_
          refine wo_gf1 rfl rfl rfl ?_
          refine wo_gf1 rfl rfl rfl ?_
          refine wo_gf1 rfl rfl rfl ?_
          refine wo_val (v := (.bool false)) (ap_pickF rfl rfl rfl) rfl rfl ?_
          refine wm (.bool false) rfl rfl rfl ?_
          refine wo_gf1 rfl rfl rfl ?_
          refine wo_gf1 rfl rfl rfl ?_
          refine wo_gf1 rfl rfl rfl ?_
          refine wo_gf1 rfl rfl rfl ?_
          refine wo_gf1 rfl rfl rfl ?_
          refine wo_val (v := (.bool false)) (ap_pickF rfl rfl rfl) rfl rfl ?_
          refine wm (.bool false) rfl rfl rfl ?_
          refine wo_gf1 rfl rfl rfl ?_
          refine wo_gf1 rfl rfl rfl ?_
          refine wo_gf1 rfl rfl rfl ?_
          refine wo_gf1 rfl rfl rfl ?_
          refine wo_gf1 rfl rfl rfl ?_
          refine wo_gf1 rfl rfl rfl ?_
          refine wo_gf1 rfl rfl rfl ?_
          refine wo_gf1 rfl rfl rfl ?_
          refine wo_gf1 rfl rfl rfl ?_
          refine wo_val (v := (.bool false)) (ap_pickF rfl rfl rfl) rfl rfl ?_
          refine wm (.bool false) rfl rfl rfl ?_
          refine wo_gf1 rfl rfl rfl ?_
          refine wo_val (v := (.bool false)) (ap_pickF rfl rfl rfl) rfl rfl ?_
          refine wa (.bool false) rfl rfl rfl ?_
          refine wo_nil ?_
          exact wk_skip_nil ⟨rfl, rfl, (Lu rfl (Lu rfl (Lu rfl (Lu rfl (Lu rfl (Lu rfl (Lu rfl (Lu rfl (Lu rfl (Lu rfl (Lu rfl (Lu rfl (Lu rfl (Lu rfl (Lu rfl (Lu rfl (Lu rfl (Lu rfl (Lu rfl (Lu rfl (Lu rfl (Lu rfl (Lu rfl (Lu rfl (Lu rfl (Lu rfl (Lu rfl (Lu rfl (Lu rfl (Lu rfl (Lu rfl (Lu rfl (Lu rfl (Lu rfl (Lu rfl (Lu rfl (Lu rfl (Lu rfl (Lu rfl (Lu rfl (Lu rfl (Lu rfl (Lu rfl (Lu rfl (Lu rfl (Lu rfl (Lu rfl (Lu rfl (Lu rfl (Lu rfl (Lu rfl (Lu rfl (Lu rfl Lr))))))))))))))))))))))))))))))))))))))))))))))))))))), (agC (congrArg Value.bool (show false = (((((((binV (4 : Int) a b == binV (4 : Int) b a) && (binV (6 : Int) a b == binV (6 : Int) b a)) && (binV (6 : Int) c (binV (4 : Int) a b) == binV (4 : Int) (binV (6 : Int) c a) (binV (6 : Int) c b))) && (binV (5 : Int) (binV (4 : Int) a b) b == a)) && (binV (4 : Int) a (unV (20 : Int) a) == 0)) && (unV (21 : Int) a == binV (5 : Int) (-1 : Int) a)) && (binV (6 : Int) (binV (6 : Int) a b) c == binV (6 : Int) a (binV (6 : Int) b c))) by simp only [↓g20, ↓g22, ↓g23, BT])) agN)⟩
      · have pg22 := g22
        try simp only [BS] at pg22
        refine wo_gf1 rfl g22 rfl ?_
        refine wo_gf1 rfl g22 rfl ?_
        refine wo_val (v := (.bool false)) (ap_pickF rfl g22 rfl) rfl rfl ?_
        refine wm (.bool false) rfl rfl rfl ?_
        refine wo_gf1 rfl rfl rfl ?_
        refine wo_gf1 rfl rfl rfl ?_
        refine wo_gf1 rfl rfl rfl ?_
        refine wo_gf1 rfl rfl rfl ?_
        refine wo_gf1 rfl rfl rfl ?_
        refine wo_val (v := (.bool false)) (ap_pickF rfl rfl rfl) rfl rfl ?_
        refine wm (.bool false) rfl rfl rfl ?_
        refine wo_gf1 rfl rfl rfl ?_
        refine wo_gf1 rfl rfl rfl ?_
        refine wo_gf1 rfl rfl rfl ?_
        refine wo_gf1 rfl rfl rfl ?_
        refine wo_gf1 rfl rfl rfl ?_
        refine wo_val (v := (.bool false)) (ap_pickF rfl rfl rfl) rfl rfl ?_
        refine wm (.bool false) rfl rfl rfl ?_
        refine wo_gf1 rfl rfl rfl ?_
        refine wo_gf1 rfl rfl rfl ?_
        refine wo_gf1 rfl rfl rfl ?_
        refine wo_gf1 rfl rfl rfl ?_
        refine wo_gf1 rfl rfl rfl ?_
        refine wo_val (v := (.bool false)) (ap_pickF rfl rfl rfl) rfl rfl ?_
        refine wm (.bool false) rfl rfl rfl ?_
        refine wo_gf1 rfl rfl rfl ?_
        refine wo_gf1 rfl rfl rfl ?_
        refine wo_gf1 rfl rfl rfl ?_
        refine wo_gf1 rfl rfl rfl ?_
        refine wo_gf1 rfl rfl rfl ?_
        refine wo_gf1 rfl rfl rfl ?_
        refine wo_gf1 rfl rfl rfl ?_
        refine wo_gf1 rfl rfl rfl ?_
        refine wo_gf1 rfl rfl rfl ?_
        refine wo_val (v := (.bool false)) (ap_pickF rfl rfl rfl) rfl rfl ?_
        refine wm (.bool false) rfl rfl rfl ?_
        refine wo_gf1 rfl rfl rfl ?_
        refine wo_val (v := (.bool false)) (ap_pickF rfl rfl rfl) rfl rfl ?_
        refine wa (.bool false) rfl rfl rfl ?_
        refine wo_nil ?_
        exact wk_skip_nil ⟨rfl, rfl, (Lu rfl (Lu rfl (Lu rfl (Lu rfl (Lu rfl (Lu rfl (Lu rfl (Lu rfl (Lu rfl (Lu rfl (Lu rfl (Lu rfl (Lu rfl (Lu rfl (Lu rfl (Lu rfl (Lu rfl (Lu rfl (Lu rfl (Lu rfl (Lu rfl (Lu rfl (Lu rfl (Lu rfl (Lu rfl (Lu rfl (Lu rfl (Lu rfl (Lu rfl (Lu rfl (Lu rfl (Lu rfl (Lu rfl (Lu rfl (Lu rfl (Lu rfl (Lu rfl (Lu rfl (Lu rfl (Lu rfl (Lu rfl (Lu rfl (Lu rfl (Lu rfl (Lu rfl (Lu rfl (Lu rfl (Lu rfl (Lu rfl (Lu rfl (Lu rfl (Lu rfl (Lu rfl Lr))))))))))))))))))))))))))))))))))))))))))))))))))))), (agC (congrArg Value.bool (show false = (((((((binV (4 : Int) a b == binV (4 : Int) b a) && (binV (6 : Int) a b == binV (6 : Int) b a)) && (binV (6 : Int) c (binV (4 : Int) a b) == binV (4 : Int) (binV (6 : Int) c a) (binV (6 : Int) c b))) && (binV (5 : Int) (binV (4 : Int) a b) b == a)) && (binV (4 : Int) a (unV (20 : Int) a) == 0)) && (unV (21 : Int) a == binV (5 : Int) (-1 : Int) a)) && (binV (6 : Int) (binV (6 : Int) a b) c == binV (6 : Int) a (binV (6 : Int) b c))) by simp only [↓g20, ↓g22, BT])) agN)⟩
    · have pg20 := g20
      try simp only [BS] at pg20
      refine wo_gf1 rfl g20 rfl ?_
      refine wo_gf1 rfl g20 rfl ?_
      refine wo_gf1 rfl g20 rfl ?_
      refine wo_gf1 rfl g20 rfl ?_
      refine wo_val (v := (.bool false)) (ap_pickF rfl g20 rfl) rfl rfl ?_
      refine wm (.bool false) rfl rfl rfl ?_
      refine wo_gf1 rfl rfl rfl ?_
      refine wo_gf1 rfl rfl rfl ?_
      refine wo_gf1 rfl rfl rfl ?_
      refine wo_val (v := (.bool false)) (ap_pickF rfl rfl rfl) rfl rfl ?_
      refine wm (.bool false) rfl rfl rfl ?_
      refine wo_gf1 rfl rfl rfl ?_
      refine wo_gf1 rfl rfl rfl ?_
      refine wo_gf1 rfl rfl rfl ?_
      refine wo_gf1 rfl rfl rfl ?_
      refine wo_gf1 rfl rfl rfl ?_
      refine wo_val (v := (.bool false)) (ap_pickF rfl rfl rfl) rfl rfl ?_
      refine wm (.bool false) rfl rfl rfl ?_
      refine wo_gf1 rfl rfl rfl ?_
      refine wo_gf1 rfl rfl rfl ?_
      refine wo_gf1 rfl rfl rfl ?_
      refine wo_gf1 rfl rfl rfl ?_
      refine wo_gf1 rfl rfl rfl ?_
      refine wo_val (v := (.bool false)) (ap_pickF rfl rfl rfl) rfl rfl ?_
      refine wm (.bool false) rfl rfl rfl ?_
      refine wo_gf1 rfl rfl rfl ?_
      refine wo_gf1 rfl rfl rfl ?_
      refine wo_gf1 rfl rfl rfl ?_
      refine wo_gf1 rfl rfl rfl ?_
      refine wo_gf1 rfl rfl rfl ?_
      refine wo_val (v := (.bool false)) (ap_pickF rfl rfl rfl) rfl rfl ?_
      refine wm (.bool false) rfl rfl rfl ?_
      refine wo_gf1 rfl rfl rfl ?_
      refine wo_gf1 rfl rfl rfl ?_
      refine wo_gf1 rfl rfl rfl ?_
      refine wo_gf1 rfl rfl rfl ?_
      refine wo_gf1 rfl rfl rfl ?_
      refine wo_gf1 rfl rfl rfl ?_
      refine wo_gf1 rfl rfl rfl ?_
      refine wo_gf1 rfl rfl rfl ?_
      refine wo_gf1 rfl rfl rfl ?_
      refine wo_val (v := (.bool false)) (ap_pickF rfl rfl rfl) rfl rfl ?_
      refine wm (.bool false) rfl rfl rfl ?_
      refine wo_gf1 rfl rfl rfl ?_
      refine wo_val (v := (.bool false)) (ap_pickF rfl rfl rfl) rfl rfl ?_
      refine wa (.bool false) rfl rfl rfl ?_
      refine wo_nil ?_
      exact wk_skip_nil ⟨rfl, rfl, (Lu rfl (Lu rfl (Lu rfl (Lu rfl (Lu rfl (Lu rfl (Lu rfl (Lu rfl (Lu rfl (Lu rfl (Lu rfl (Lu rfl (Lu rfl (Lu rfl (Lu rfl (Lu rfl (Lu rfl (Lu rfl (Lu rfl (Lu rfl (Lu rfl (Lu rfl (Lu rfl (Lu rfl (Lu rfl (Lu rfl (Lu rfl (Lu rfl (Lu rfl (Lu rfl (Lu rfl (Lu rfl (Lu rfl (Lu rfl (Lu rfl (Lu rfl (Lu rfl (Lu rfl (Lu rfl (Lu rfl (Lu rfl (Lu rfl (Lu rfl (Lu rfl (Lu rfl (Lu rfl (Lu rfl (Lu rfl (Lu rfl (Lu rfl (Lu rfl (Lu rfl (Lu rfl Lr))))))))))))))))))))))))))))))))))))))))))))))))))))), (agC (congrArg Value.bool (show false = (((((((binV (4 : Int) a b == binV (4 : Int) b a) && (binV (6 : Int) a b == binV (6 : Int) b a)) && (binV (6 : Int) c (binV (4 : Int) a b) == binV (4 : Int) (binV (6 : Int) c a) (binV (6 : Int) c b))) && (binV (5 : Int) (binV (4 : Int) a b) b == a)) && (binV (4 : Int) a (unV (20 : Int) a) == 0)) && (unV (21 : Int) a == binV (5 : Int) (-1 : Int) a)) && (binV (6 : Int) (binV (6 : Int) a b) c == binV (6 : Int) a (binV (6 : Int) b c))) by simp only [↓g20, BT])) agN)⟩
  · skip
    rintro g18 H rfl
    refine wk_skip_seq ?_
    refine wk_ret ⟨.inr rfl, _, rfl, (((((((binV (4 : Int) a b == binV (4 : Int) b a) && (binV (6 : Int) a b == binV (6 : Int) b a)) && (binV (6 : Int) c (binV (4 : Int) a b) == binV (4 : Int) (binV (6 : Int) c a) (binV (6 : Int) c b))) && (binV (5 : Int) (binV (4 : Int) a b) b == a)) && (binV (4 : Int) a (unV (20 : Int) a) == 0)) && (unV (21 : Int) a == binV (5 : Int) (-1 : Int) a)) && (binV (6 : Int) (binV (6 : Int) a b) c == binV (6 : Int) a (binV (6 : Int) b c))), rfl, rfl, (by exact ringA a b c ha hb hc)⟩

theorem undef_c (op : Int) (a : Int) (b : Int) (H : Heap) (hop : in64 op) (ha : in64 a) (hb : in64 b) : C Try.prog 0 (KX 12) 9 [(.int .i64 op), (.int .i64 a), (.int .i64 b)] H fun v H' => ∃ (r : Bool), H' = H ∧ v = .bool r ∧ r = true := by
  refine c_enter Try.func9 rfl rfl ?_
  refine wk_seq ?_
  refine wk_region ?_
  refine wa (.bool false) rfl rfl rfl ?_
  refine wo_nil ?_
  refine wk_skip_seq ?_
  refine wk_seq ?_
  refine wk_rcut 9 14 [7] [(7, (.bool ((op == 20) || (op == 21))))] (fun H' => H' = H) ?_ ?_
  · skip
    refine wk_region ?_
    refine wm (.int .i64 op) rfl rfl rfl ?_
    refine wo_val (v := (.bool (op == 20))) (ap_cmp rfl rfl rfl rfl) rfl rfl ?_
    refine wm (.bool (op == 20)) rfl rfl rfl ?_
    refine wo_gsF (v := (op == 20)) rfl rfl (fun g2 => ?_) (fun g2 => ?_)
    · have pg2 := g2
      try simp only [BS] at pg2
      refine wm (.int .i64 op) rfl rfl rfl ?_
      refine wo_gt rfl g2 ?_
      refine wo_val (v := (.bool (op == 21))) (ap_cmp rfl rfl rfl rfl) rfl rfl ?_
      refine wo_val (v := (.bool (op == 21))) (ap_pickF rfl g2 rfl) rfl rfl ?_
      refine wa (.bool (op == 21)) rfl rfl rfl ?_
      refine wo_nil ?_
      exact wk_skip_nil ⟨rfl, rfl, (Lu rfl (Lu rfl (Lu rfl (Lu rfl (Lu rfl (Lu rfl (Lu rfl Lr))))))), (agC (congrArg Value.bool (show (op == 21) = ((op == 20) || (op == 21)) by simp only [↓g2, BT])) agN)⟩
    · have pg2 := g2
      try simp only [BS] at pg2
      refine wo_gf0 rfl g2 rfl ?_
      refine wo_val (v := (.bool true)) (ap_pickT rfl g2 rfl) rfl rfl ?_
      refine wa (.bool true) rfl rfl rfl ?_
      refine wo_nil ?_
      exact wk_skip_nil ⟨rfl, rfl, (Lu rfl (Lu rfl (Lu rfl (Lu rfl (Lu rfl (Lu rfl (Lu rfl Lr))))))), (agC (congrArg Value.bool (show true = ((op == 20) || (op == 21)) by simp only [↓g2, BT])) agN)⟩
  · skip
    rintro g1 H rfl
    refine wk_skip_seq ?_
    refine wk_seq ?_
    refine wk_rcut 15 20 [8] [(8, (.bool ((decide ((4 : Int) ≤ op)) && (decide (op ≤ 19)))))] (fun H' => H' = H) ?_ ?_
    · skip
      refine wk_region ?_
      refine wm (.int .i64 op) rfl rfl rfl ?_
      refine wo_val (v := (.bool (decide ((4 : Int) ≤ op)))) (ap_cmp rfl rfl rfl rfl) rfl rfl ?_
      refine wm (.bool (decide ((4 : Int) ≤ op))) rfl rfl rfl ?_
      refine wo_gsT (v := (decide ((4 : Int) ≤ op))) rfl rfl (fun g4 => ?_) (fun g4 => ?_)
      · have pg4 := g4
        try simp only [BS] at pg4
        refine wm (.int .i64 op) rfl rfl rfl ?_
        refine wo_gt rfl g4 ?_
        refine wo_val (v := (.bool (decide (op ≤ 19)))) (ap_cmp rfl rfl rfl rfl) rfl rfl ?_
        refine wo_val (v := (.bool (decide (op ≤ 19)))) (ap_pickT rfl g4 rfl) rfl rfl ?_
        refine wa (.bool (decide (op ≤ 19))) rfl rfl rfl ?_
        refine wo_nil ?_
        exact wk_skip_nil ⟨rfl, rfl, (Lu rfl (Lu rfl (Lu rfl (Lu rfl (Lu rfl (Lu rfl (Lu rfl Lr))))))), (agC (congrArg Value.bool (show (decide (op ≤ 19)) = ((decide ((4 : Int) ≤ op)) && (decide (op ≤ 19))) by simp only [↓g4, BT])) agN)⟩
      · have pg4 := g4
        try simp only [BS] at pg4
        refine wo_gf1 rfl g4 rfl ?_
        refine wo_val (v := (.bool false)) (ap_pickF rfl g4 rfl) rfl rfl ?_
        refine wa (.bool false) rfl rfl rfl ?_
        refine wo_nil ?_
        exact wk_skip_nil ⟨rfl, rfl, (Lu rfl (Lu rfl (Lu rfl (Lu rfl (Lu rfl (Lu rfl (Lu rfl Lr))))))), (agC (congrArg Value.bool (show false = ((decide ((4 : Int) ≤ op)) && (decide (op ≤ 19))) by simp only [↓g4, BT])) agN)⟩
    · skip
      rintro g3 H rfl
      refine wk_skip_seq ?_
      refine wk_seq ?_
      refine wk_rcut 6 40 [] [(6, (.bool ((((op == 20) || (op == 21)) || (unV op a == 0)) && (((decide ((4 : Int) ≤ op)) && (decide (op ≤ 19))) || (binV op a b == 0)))))] (fun H' => H' = H) ?_ ?_
      · skip
        refine wk_region ?_
        refine wm (.bool ((op == 20) || (op == 21))) rfl rfl rfl ?_
        refine wm (.bool ((op == 20) || (op == 21))) rfl rfl rfl ?_
        refine wo_gsF (v := ((op == 20) || (op == 21))) rfl rfl (fun g9 => ?_) (fun g9 => ?_)
        · have pg9 := g9
          try simp only [BS] at pg9
          refine wm (.int .i64 op) rfl rfl rfl ?_
          refine wo_gt rfl g9 ?_
          refine wm (.int .i64 a) rfl rfl rfl ?_
          refine wo_gt rfl g9 ?_
          refine wo_call (ap_call rfl rfl rfl) rfl rfl (w1.un_c 12 op a _) ?_
          rintro _ H ⟨r10, rfl, rfl, rfl⟩
          refine wo_gt rfl g9 ?_
          refine wo_val (v := (.bool (unV op a == 0))) (ap_cmp rfl rfl rfl rfl) rfl rfl ?_
          refine wo_val (v := (.bool (unV op a == 0))) (ap_pickF rfl g9 rfl) rfl rfl ?_
          refine wm (.bool (unV op a == 0)) rfl rfl rfl ?_
          refine wo_gsT (v := (unV op a == 0)) rfl rfl (fun g11 => ?_) (fun g11 => ?_)
          · have pg11 := g11
            try simp only [BS] at pg11
            refine wm (.bool ((decide ((4 : Int) ≤ op)) && (decide (op ≤ 19)))) rfl rfl rfl ?_
            refine wo_gt rfl g11 ?_
            refine wm (.bool ((decide ((4 : Int) ≤ op)) && (decide (op ≤ 19)))) rfl rfl rfl ?_
            refine wo_gsF (v := ((decide ((4 : Int) ≤ op)) && (decide (op ≤ 19)))) rfl rfl (fun g12 => ?_) (fun g12 => ?_)
            · have pg12 := g12
              try simp only [BS] at pg12
              refine wm (.int .i64 op) rfl rfl rfl ?_
              refine wo_gt rfl g12 ?_
              refine wm (.int .i64 a) rfl rfl rfl ?_
              refine wo_gt rfl g12 ?_
              refine wm (.int .i64 b) rfl rfl rfl ?_
              refine wo_gt rfl g12 ?_
              refine wo_call (ap_call rfl rfl rfl) rfl rfl (w1.bin_c 12 op a b _) ?_
              rintro _ H ⟨r13, rfl, rfl, rfl⟩
              refine wo_gt rfl g12 ?_
              refine wo_val (v := (.bool (binV op a b == 0))) (ap_cmp rfl rfl rfl rfl) rfl rfl ?_
              refine wo_gt rfl g11 ?_
              refine wo_val (v := (.bool (binV op a b == 0))) (ap_pickF rfl g12 rfl) rfl rfl ?_
              refine wo_val (v := (.bool (binV op a b == 0))) (ap_pickT rfl g11 rfl) rfl rfl ?_
              refine wm (.bool (binV op a b == 0)) rfl rfl rfl ?_
              refine wo_gsT (v := (binV op a b == 0)) rfl rfl (fun g14 => ?_) (fun g14 => ?_)
              · have pg14 := g14
                try simp only [BS] at pg14
                refine wo_call (ap_call rfl rfl rfl) rfl rfl (ex_c 12 _) ?_
                rintro _ H ⟨r15, rfl, rfl, rfl⟩
                refine wo_val (v := (.bool true)) (ap_pickT rfl g14 rfl) rfl rfl ?_
                refine wa (.bool true) rfl rfl rfl ?_
                refine wo_nil ?_
                exact wk_skip_nil ⟨rfl, rfl, (Lu rfl (Lu rfl (Lu rfl (Lu rfl (Lu rfl (Lu rfl (Lu rfl (Lu rfl (Lu rfl (Lu rfl (Lu rfl (Lu rfl (Lu rfl (Lu rfl (Lu rfl (Lu rfl (Lu rfl (Lu rfl (Lu rfl (Lu rfl (Lu rfl Lr))))))))))))))))))))), (agC (congrArg Value.bool (show true = ((((op == 20) || (op == 21)) || (unV op a == 0)) && (((decide ((4 : Int) ≤ op)) && (decide (op ≤ 19))) || (binV op a b == 0))) by simp only [↓g9, ↓g11, ↓g12, ↓g14, BT])) agN)⟩
              · have pg14 := g14
                try simp only [BS] at pg14
                refine wo_val (v := (.bool false)) (ap_pickF rfl g14 rfl) rfl rfl ?_
                refine wa (.bool false) rfl rfl rfl ?_
                refine wo_nil ?_
                exact wk_skip_nil ⟨rfl, rfl, (Lu rfl (Lu rfl (Lu rfl (Lu rfl (Lu rfl (Lu rfl (Lu rfl (Lu rfl (Lu rfl (Lu rfl (Lu rfl (Lu rfl (Lu rfl (Lu rfl (Lu rfl (Lu rfl (Lu rfl (Lu rfl (Lu rfl (Lu rfl (Lu rfl Lr))))))))))))))))))))), (agC (congrArg Value.bool (show false = ((((op == 20) || (op == 21)) || (unV op a == 0)) && (((decide ((4 : Int) ≤ op)) && (decide (op ≤ 19))) || (binV op a b == 0))) by simp only [↓g9, ↓g11, ↓g12, ↓g14, BT])) agN)⟩
            · have pg12 := g12
              try simp only [BS] at pg12
              refine wo_gf0 rfl g12 rfl ?_
              refine wo_gf0 rfl g12 rfl ?_
              refine wo_gf0 rfl g12 rfl ?_
              refine wo_gf0 rfl g12 rfl ?_
              refine wo_gt rfl g11 ?_
              refine wo_val (v := (.bool true)) (ap_pickT rfl g12 rfl) rfl rfl ?_
              refine wo_val (v := (.bool true)) (ap_pickT rfl g11 rfl) rfl rfl ?_
              refine wm (.bool true) rfl rfl rfl ?_
              refine wo_gt rfl rfl ?_
              refine wo_call (ap_call rfl rfl rfl) rfl rfl (ex_c 12 _) ?_
              rintro _ H ⟨r16, rfl, rfl, rfl⟩
              refine wo_val (v := (.bool true)) (ap_pickT rfl rfl rfl) rfl rfl ?_
              refine wa (.bool true) rfl rfl rfl ?_
              refine wo_nil ?_
              exact wk_skip_nil ⟨rfl, rfl, (Lu rfl (Lu rfl (Lu rfl (Lu rfl (Lu rfl (Lu rfl (Lu rfl (Lu rfl (Lu rfl (Lu rfl (Lu rfl (Lu rfl (Lu rfl (Lu rfl (Lu rfl (Lu rfl (Lu rfl (Lu rfl (Lu rfl (Lu rfl (Lu rfl Lr))))))))))))))))))))), (agC (congrArg Value.bool (show true = ((((op == 20) || (op == 21)) || (unV op a == 0)) && (((decide ((4 : Int) ≤ op)) && (decide (op ≤ 19))) || (binV op a b == 0))) by simp only [↓g9, ↓g11, ↓g12, BT])) agN)⟩
          · have pg11 := g11
            try simp only [BS] at pg11
            refine wo_gf1 rfl g11 rfl ?_
            refine wo_gn rfl rfl ?_
            refine wo_gn rfl rfl ?_
            refine wo_gn rfl rfl ?_
            refine wo_gn rfl rfl ?_
            refine wo_gn rfl rfl ?_
            refine wo_gf1 rfl g11 rfl ?_
            refine wo_val (v := (.bool false)) (ap_pickF rfl g11 rfl) rfl rfl ?_
            refine wm (.bool false) rfl rfl rfl ?_
            refine wo_gf1 rfl rfl rfl ?_
            refine wo_val (v := (.bool false)) (ap_pickF rfl rfl rfl) rfl rfl ?_
            refine wa (.bool false) rfl rfl rfl ?_
            refine wo_nil ?_
            exact wk_skip_nil ⟨rfl, rfl, (Lu rfl (Lu rfl (Lu rfl (Lu rfl (Lu rfl (Lu rfl (Lu rfl (Lu rfl (Lu rfl (Lu rfl (Lu rfl (Lu rfl (Lu rfl (Lu rfl (Lu rfl (Lu rfl (Lu rfl (Lu rfl (Lu rfl (Lu rfl (Lu rfl Lr))))))))))))))))))))), (agC (congrArg Value.bool (show false = ((((op == 20) || (op == 21)) || (unV op a == 0)) && (((decide ((4 : Int) ≤ op)) && (decide (op ≤ 19))) || (binV op a b == 0))) by simp only [↓g9, ↓g11, BT])) agN)⟩
        · have pg9 := g9
          try simp only [BS] at pg9
          refine wo_gf0 rfl g9 rfl ?_
          refine wo_gf0 rfl g9 rfl ?_
          refine wo_gf0 rfl g9 rfl ?_
          refine wo_val (v := (.bool true)) (ap_pickT rfl g9 rfl) rfl rfl ?_
          refine wm (.bool true) rfl rfl rfl ?_
          refine wo_gt rfl rfl ?_
          refine wm (.bool ((decide ((4 : Int) ≤ op)) && (decide (op ≤ 19)))) rfl rfl rfl ?_
          refine wo_gt rfl rfl ?_
          refine wm (.bool ((decide ((4 : Int) ≤ op)) && (decide (op ≤ 19)))) rfl rfl rfl ?_
          refine wo_gsF (v := ((decide ((4 : Int) ≤ op)) && (decide (op ≤ 19)))) rfl rfl (fun g17 => ?_) (fun g17 => ?_)
          · have pg17 := g17
            try simp only [BS] at pg17
            refine wm (.int .i64 op) rfl rfl rfl ?_
            refine wo_gt rfl g17 ?_
            refine wm (.int .i64 a) rfl rfl rfl ?_
            refine wo_gt rfl g17 ?_
            refine wm (.int .i64 b) rfl rfl rfl ?_
            refine wo_gt rfl g17 ?_
            refine wo_call (ap_call rfl rfl rfl) rfl rfl (w1.bin_c 12 op a b _) ?_
            rintro _ H ⟨r18, rfl, rfl, rfl⟩
            refine wo_gt rfl g17 ?_
            refine wo_val (v := (.bool (binV op a b == 0))) (ap_cmp rfl rfl rfl rfl) rfl rfl ?_
            refine wo_gt rfl rfl ?_
            refine wo_val (v := (.bool (binV op a b == 0))) (ap_pickF rfl g17 rfl) rfl rfl ?_
            refine wo_val (v := (.bool (binV op a b == 0))) (ap_pickT rfl rfl rfl) rfl rfl ?_
            refine wm (.bool (binV op a b == 0)) rfl rfl rfl ?_
            refine wo_gsT (v := (binV op a b == 0)) rfl rfl (fun g19 => ?_) (fun g19 => ?_)
            · have pg19 := g19
              try simp only [BS] at pg19
              refine wo_call (ap_call rfl rfl rfl) rfl rfl (ex_c 12 _) ?_
              rintro _ H ⟨r20, rfl, rfl, rfl⟩
              refine wo_val (v := (.bool true)) (ap_pickT rfl g19 rfl) rfl rfl ?_
              refine wa (.bool true) rfl rfl rfl ?_
              refine wo_nil ?_
              exact wk_skip_nil ⟨rfl, rfl, (Lu rfl (Lu rfl (Lu rfl (Lu rfl (Lu rfl (Lu rfl (Lu rfl (Lu rfl (Lu rfl (Lu rfl (Lu rfl (Lu rfl (Lu rfl (Lu rfl (Lu rfl (Lu rfl (Lu rfl (Lu rfl (Lu rfl (Lu rfl (Lu rfl Lr))))))))))))))))))))), (agC (congrArg Value.bool (show true = ((((op == 20) || (op == 21)) || (unV op a == 0)) && (((decide ((4 : Int) ≤ op)) && (decide (op ≤ 19))) || (binV op a b == 0))) by simp only [↓g9, ↓g17, ↓g19, BT])) agN)⟩
            · have pg19 := g19
              try simp only [BS] at pg19
              refine wo_val (v := (.bool false)) (ap_pickF rfl g19 rfl) rfl rfl ?_
              refine wa (.bool false) rfl rfl rfl ?_
              refine wo_nil ?_
              exact wk_skip_nil ⟨rfl, rfl, (Lu rfl (Lu rfl (Lu rfl (Lu rfl (Lu rfl (Lu rfl (Lu rfl (Lu rfl (Lu rfl (Lu rfl (Lu rfl (Lu rfl (Lu rfl (Lu rfl (Lu rfl (Lu rfl (Lu rfl (Lu rfl (Lu rfl (Lu rfl (Lu rfl Lr))))))))))))))))))))), (agC (congrArg Value.bool (show false = ((((op == 20) || (op == 21)) || (unV op a == 0)) && (((decide ((4 : Int) ≤ op)) && (decide (op ≤ 19))) || (binV op a b == 0))) by simp only [↓g9, ↓g17, ↓g19, BT])) agN)⟩
          · have pg17 := g17
            try simp only [BS] at pg17
            refine wo_gf0 rfl g17 rfl ?_
            refine wo_gf0 rfl g17 rfl ?_
            refine wo_gf0 rfl g17 rfl ?_
            refine wo_gf0 rfl g17 rfl ?_
            refine wo_gt rfl rfl ?_
            refine wo_val (v := (.bool true)) (ap_pickT rfl g17 rfl) rfl rfl ?_
            refine wo_val (v := (.bool true)) (ap_pickT rfl rfl rfl) rfl rfl ?_
            refine wm (.bool true) rfl rfl rfl ?_
            refine wo_gt rfl rfl ?_
            refine wo_call (ap_call rfl rfl rfl) rfl rfl (ex_c 12 _) ?_
            rintro _ H ⟨r21, rfl, rfl, rfl⟩
            refine wo_val (v := (.bool true)) (ap_pickT rfl rfl rfl) rfl rfl ?_
            refine wa (.bool true) rfl rfl rfl ?_
            refine wo_nil ?_
            exact wk_skip_nil ⟨rfl, rfl, (Lu rfl (Lu rfl (Lu rfl (Lu rfl (Lu rfl (Lu rfl (Lu rfl (Lu rfl (Lu rfl (Lu rfl (Lu rfl (Lu rfl (Lu rfl (Lu rfl (Lu rfl (Lu rfl (Lu rfl (Lu rfl (Lu rfl (Lu rfl (Lu rfl Lr))))))))))))))))))))), (agC (congrArg Value.bool (show true = ((((op == 20) || (op == 21)) || (unV op a == 0)) && (((decide ((4 : Int) ≤ op)) && (decide (op ≤ 19))) || (binV op a b == 0))) by simp only [↓g9, ↓g17, BT])) agN)⟩
      · skip
        rintro g8 H rfl
        refine wk_skip_seq ?_
        refine wk_ret ⟨.inr rfl, _, rfl, ((((op == 20) || (op == 21)) || (unV op a == 0)) && (((decide ((4 : Int) ≤ op)) && (decide (op ≤ 19))) || (binV op a b == 0))), rfl, rfl, (by exact undefA op a b)⟩
end Go.Proofs.Ytcakpkdeojhacab.w2
