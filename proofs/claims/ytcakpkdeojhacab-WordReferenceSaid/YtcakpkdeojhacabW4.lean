/-
  The laws of chapter 1 on texts, each by a symbolic run. No condition but that an argument is a word.
-/
import Derived.Test.YtcakpkdeojhacabW2
import Derived.Test.YtcakpkdeojhacabW3
noncomputable section
namespace Go.Proofs.Ytcakpkdeojhacab.w4
open Go.R
set_option maxRecDepth 10000
set_option linter.unusedVariables false
open w1 w2 w3
theorem rt {x y : Int} (hx : in64 x) (hy : in64 y) : (((parseS (textS x)).isSome && ((parseS (textS x)).getD 0 == x)) && ((textS x == textS y) == (x == y))) = true := by
  rw [parse_text hx]
  have h1 : ((some x).isSome && ((some x).getD 0 == x)) = true := by simp
  rw [h1, Bool.true_and]
  by_cases h : x = y
  · subst h; simp
  · have h2 : textS x ≠ textS y := fun e => h (textS_inj hx hy e)
    have e1 : (textS x == textS y) = false := by simpa using h2
    have e2 : (x == y) = false := by simpa using h
    rw [e1, e2]; rfl
theorem textS_len {n : Int} (h : in64 n) : (textS n).length ≤ 21 := by
  obtain ⟨h1, h2⟩ := h
  unfold textS
  split
  · have := dec_len 19 n.natAbs (by omega); simp; omega
  · have := dec_len 19 n.toNat (by omega); omega

theorem roundtrip_c (a : Int) (b : Int) (p : Int) (q : Int) {F : Fz} {H : Heap} {R : List Fp} (hs : HS (.of H []) F H [] R) (ha : in64 a) (hb : in64 b) (hp : in64 p) (hq : in64 q) : C Try.prog 0 (KX 12) 4 [(.int .i64 a), (.int .i64 b), (.int .i64 p), (.int .i64 q)] H fun v H' => ∃ (r : Bool) (F' : Fz), Fz.le F F' ∧ HS (.of H []) F' H' [] R ∧ v = .bool r ∧ r = true := by
  refine c_enter Try.func4 rfl rfl ?_
  refine wk_seq ?_
  refine wk_region ?_
  refine wa (.bool false) rfl rfl rfl ?_
  refine wo_nil ?_
  refine wk_skip_seq ?_
  refine wk_seq ?_
  refine wk_region ?_
  refine wm (.int .i64 a) rfl rfl rfl ?_
  refine wm (.int .i64 p) rfl rfl rfl ?_
  refine wo_call (ap_call rfl rfl rfl) rfl rfl (w1.word_c 12 a p (HS.call hs) (by omega) (by omega)) ?_
  rintro _ H1 ⟨r1, F1, hF1, hs1, rfl, rfl, h1⟩
  replace hs1 := HS.back hs rfl hs1
  have hs1 : HS (Base.of H []) F1 H1 [] R := hs1
  refine wm (.int .i64 b) rfl rfl rfl ?_
  refine wm (.int .i64 q) rfl rfl rfl ?_
  refine wo_call (ap_call rfl rfl rfl) rfl rfl (w1.word_c 12 b q (HS.call hs1) (by omega) (by omega)) ?_
  rintro _ H2 ⟨r2, F2, hF2, hs2, rfl, rfl, h2⟩
  replace hs2 := HS.back hs1 rfl hs2
  have hs2 : HS (Base.of H []) F2 H2 [] R := hs2
  refine wa (.int .i64 (wordV a p)) rfl rfl rfl ?_
  refine wa (.int .i64 (wordV b q)) rfl rfl rfl ?_
  refine wo_nil ?_
  refine wk_skip_seq ?_
  refine wk_seq ?_
  refine wk_region ?_
  refine wm (.int .i64 (wordV a p)) rfl rfl rfl ?_
  refine wo_call (ap_call rfl rfl rfl) rfl rfl (w3.text_c 12 (wordV a p) (HS.call hs2) (by omega)) ?_
  rintro _ H3 ⟨r3, F3, hF3, hs3, rfl, rfl⟩
  replace hs3 := HS.back hs2 rfl hs3
  have hs3 : HS (Base.of H []) F3 H3 [] R := hs3
  refine wo_call (ap_call rfl rfl rfl) rfl rfl (w3.parse_c 12 (textS (wordV a p)) _) ?_
  rintro _ H3 ⟨r4, ok4, rfl, rfl, rfl, rfl⟩
  refine wm (.tuple ⟨[(.int .i64 ((parseS (textS (wordV a p))).getD 0)), (.bool ((parseS (textS (wordV a p))).isSome))]⟩) rfl rfl rfl ?_
  refine wo_val (v := (.int .i64 ((parseS (textS (wordV a p))).getD 0))) (ap_ex rfl rfl) rfl rfl ?_
  refine wo_val (v := (.bool ((parseS (textS (wordV a p))).isSome))) (ap_ex rfl rfl) rfl rfl ?_
  refine wa (.int .i64 ((parseS (textS (wordV a p))).getD 0)) rfl rfl rfl ?_
  refine wa (.bool ((parseS (textS (wordV a p))).isSome)) rfl rfl rfl ?_
  refine wo_nil ?_
  refine wk_skip_seq ?_
  refine wk_seq ?_
  refine wk_rcut 8 44 [] [(8, (.bool (((parseS (textS (wordV a p))).isSome && ((parseS (textS (wordV a p))).getD 0 == wordV a p)) && (((textS (wordV a p)) == (textS (wordV b q))) == (wordV a p == wordV b q)))))] (fun H' => ∃ F', Fz.le F3 F' ∧ HS (Base.of H []) F' H' [] R) ?_ ?_
  · skip
    refine wk_region ?_
    refine wm (.bool ((parseS (textS (wordV a p))).isSome)) rfl rfl rfl ?_
    refine wm (.bool ((parseS (textS (wordV a p))).isSome)) rfl rfl rfl ?_
    refine wo_gsT (v := ((parseS (textS (wordV a p))).isSome)) rfl rfl (fun g9 => ?_) (fun g9 => ?_)
    · have pg9 := g9
      try simp only [BS] at pg9
      refine wm (.int .i64 ((parseS (textS (wordV a p))).getD 0)) rfl rfl rfl ?_
      refine wo_gt rfl g9 ?_
      refine wm (.int .i64 (wordV a p)) rfl rfl rfl ?_
      refine wo_gt rfl g9 ?_
      refine wo_val (v := (.bool ((parseS (textS (wordV a p))).getD 0 == wordV a p))) (ap_cmp rfl rfl rfl rfl) rfl rfl ?_
      refine wo_val (v := (.bool ((parseS (textS (wordV a p))).getD 0 == wordV a p))) (ap_pickT rfl g9 rfl) rfl rfl ?_
      refine wm (.bool ((parseS (textS (wordV a p))).getD 0 == wordV a p)) rfl rfl rfl ?_
      refine wo_gsT (v := ((parseS (textS (wordV a p))).getD 0 == wordV a p)) rfl rfl (fun g10 => ?_) (fun g10 => ?_)
      · have pg10 := g10
        try simp only [BS] at pg10
        refine wm (.int .i64 (wordV a p)) rfl rfl rfl ?_
        refine wo_gt rfl g10 ?_
        refine wo_call (ap_call rfl rfl rfl) rfl rfl (w3.text_c 12 (wordV a p) (HS.call hs3) (by omega)) ?_
        rintro _ H11 ⟨r11, F11, hF11, hs11, rfl, rfl⟩
        replace hs11 := HS.back hs3 rfl hs11
        have hs11 : HS (Base.of H []) F11 H11 [] R := hs11
        refine wo_gt rfl g10 ?_
        refine wm (.int .i64 (wordV b q)) rfl rfl rfl ?_
        refine wo_gt rfl g10 ?_
        refine wo_call (ap_call rfl rfl rfl) rfl rfl (w3.text_c 12 (wordV b q) (HS.call hs11) (by omega)) ?_
        rintro _ H12 ⟨r12, F12, hF12, hs12, rfl, rfl⟩
        replace hs12 := HS.back hs11 rfl hs12
        have hs12 : HS (Base.of H []) F12 H12 [] R := hs12
        refine wo_gt rfl g10 ?_
        refine wo_val (v := (.bool ((textS (wordV a p)) == (textS (wordV b q))))) (ap_eqS rfl rfl) rfl rfl ?_
        refine wo_gt rfl g10 ?_
        refine wm (.int .i64 (wordV a p)) rfl rfl rfl ?_
        refine wo_gt rfl g10 ?_
        refine wm (.int .i64 (wordV b q)) rfl rfl rfl ?_
        refine wo_gt rfl g10 ?_
        refine wo_val (v := (.bool (wordV a p == wordV b q))) (ap_cmp rfl rfl rfl rfl) rfl rfl ?_
        refine wo_gt rfl g10 ?_
        refine wo_val (v := (.bool (((textS (wordV a p)) == (textS (wordV b q))) == (wordV a p == wordV b q)))) (ap_boolEq rfl rfl (fun a b => by cases a <;> cases b <;> kernel_rfl)) rfl rfl ?_
        refine wo_val (v := (.bool (((textS (wordV a p)) == (textS (wordV b q))) == (wordV a p == wordV b q)))) (ap_pickT rfl g10 rfl) rfl rfl ?_
        refine wm (.bool (((textS (wordV a p)) == (textS (wordV b q))) == (wordV a p == wordV b q))) rfl rfl rfl ?_
        refine wo_gsT (v := (((textS (wordV a p)) == (textS (wordV b q))) == (wordV a p == wordV b q))) rfl rfl (fun g13 => ?_) (fun g13 => ?_)
        · have pg13 := g13
          try simp only [BS] at pg13
          refine wo_call (ap_call rfl rfl rfl) rfl rfl (w2.ex_c 12 _) ?_
          rintro _ H12 ⟨r14, rfl, rfl, rfl⟩
          refine wo_val (v := (.bool true)) (ap_pickT rfl g13 rfl) rfl rfl ?_
          refine wa (.bool true) rfl rfl rfl ?_
          refine wo_nil ?_
          exact wk_skip_nil ⟨rfl, ⟨_, (Fz.le_trans (Fz.le_trans (Fz.le_refl _) hF11) hF12), HS.sub hs12 (List.Sublist.refl _)⟩, (Lu rfl (Lu rfl (Lu rfl (Lu rfl (Lu rfl (Lu rfl (Lu rfl (Lu rfl (Lu rfl (Lu rfl (Lu rfl (Lu rfl (Lu rfl (Lu rfl (Lu rfl (Lu rfl (Lu rfl (Lu rfl (Lu rfl (Lu rfl (Lu rfl Lr))))))))))))))))))))), (agC (congrArg Value.bool (show true = (((parseS (textS (wordV a p))).isSome && ((parseS (textS (wordV a p))).getD 0 == wordV a p)) && (((textS (wordV a p)) == (textS (wordV b q))) == (wordV a p == wordV b q))) by simp only [↓g9, ↓g10, ↓g13, BT])) agN)⟩
        · have pg13 := g13
          try simp only [BS] at pg13
          refine wo_val (v := (.bool false)) (ap_pickF rfl g13 rfl) rfl rfl ?_
          refine wa (.bool false) rfl rfl rfl ?_
          refine wo_nil ?_
          exact wk_skip_nil ⟨rfl, ⟨_, (Fz.le_trans (Fz.le_trans (Fz.le_refl _) hF11) hF12), HS.sub hs12 (List.Sublist.refl _)⟩, (Lu rfl (Lu rfl (Lu rfl (Lu rfl (Lu rfl (Lu rfl (Lu rfl (Lu rfl (Lu rfl (Lu rfl (Lu rfl (Lu rfl (Lu rfl (Lu rfl (Lu rfl (Lu rfl (Lu rfl (Lu rfl (Lu rfl (Lu rfl (Lu rfl Lr))))))))))))))))))))), (agC (congrArg Value.bool (show false = (((parseS (textS (wordV a p))).isSome && ((parseS (textS (wordV a p))).getD 0 == wordV a p)) && (((textS (wordV a p)) == (textS (wordV b q))) == (wordV a p == wordV b q))) by simp only [↓g9, ↓g10, ↓g13, BT])) agN)⟩
      · have pg10 := g10
        try simp only [BS] at pg10
        refine wo_gf1 rfl g10 rfl ?_
        refine wo_gf1 rfl g10 rfl ?_
        refine wo_gf1 rfl g10 rfl ?_
        refine wo_gf1 rfl g10 rfl ?_
        refine wo_gf1 rfl g10 rfl ?_
        refine wo_gf1 rfl g10 rfl ?_
        refine wo_gf1 rfl g10 rfl ?_
        refine wo_gf1 rfl g10 rfl ?_
        refine wo_val (v := (.bool false)) (ap_pickF rfl g10 rfl) rfl rfl ?_
        refine wm (.bool false) rfl rfl rfl ?_
        refine wo_gf1 rfl rfl rfl ?_
        refine wo_val (v := (.bool false)) (ap_pickF rfl rfl rfl) rfl rfl ?_
        refine wa (.bool false) rfl rfl rfl ?_
        refine wo_nil ?_
        exact wk_skip_nil ⟨rfl, ⟨_, (Fz.le_refl _), HS.sub hs3 (List.Sublist.refl _)⟩, (Lu rfl (Lu rfl (Lu rfl (Lu rfl (Lu rfl (Lu rfl (Lu rfl (Lu rfl (Lu rfl (Lu rfl (Lu rfl (Lu rfl (Lu rfl (Lu rfl (Lu rfl (Lu rfl (Lu rfl (Lu rfl (Lu rfl (Lu rfl (Lu rfl Lr))))))))))))))))))))), (agC (congrArg Value.bool (show false = (((parseS (textS (wordV a p))).isSome && ((parseS (textS (wordV a p))).getD 0 == wordV a p)) && (((textS (wordV a p)) == (textS (wordV b q))) == (wordV a p == wordV b q))) by simp only [↓g9, ↓g10, BT])) agN)⟩
    · have pg9 := g9
      try simp only [BS] at pg9
      refine wo_gf1 rfl g9 rfl ?_
      refine wo_gf1 rfl g9 rfl ?_
      refine wo_val (v := (.bool false)) (ap_pickF rfl g9 rfl) rfl rfl ?_
      refine wm (.bool false) rfl rfl rfl ?_
      refine wo_gf1 rfl rfl rfl ?_
      refine wo_gf1 rfl rfl rfl ?_
      refine wo_gf1 rfl rfl rfl ?_
      refine wo_gf1 rfl rfl rfl ?_
      refine wo_gf1 rfl rfl rfl ?_
      refine wo_gf1 rfl rfl rfl ?_
      refine wo_gf1 rfl rfl rfl ?_
      refine wo_gf1 rfl rfl rfl ?_
      refine wo_gf1 rfl rfl rfl ?_
      refine wo_val (v := (.bool false)) (ap_pickF rfl rfl rfl) rfl rfl ?_
      refine wm (.bool false) rfl rfl rfl ?_
      refine wo_gf1 rfl rfl rfl ?_
      refine wo_val (v := (.bool false)) (ap_pickF rfl rfl rfl) rfl rfl ?_
      refine wa (.bool false) rfl rfl rfl ?_
      refine wo_nil ?_
      exact wk_skip_nil ⟨rfl, ⟨_, (Fz.le_refl _), HS.sub hs3 (List.Sublist.refl _)⟩, (Lu rfl (Lu rfl (Lu rfl (Lu rfl (Lu rfl (Lu rfl (Lu rfl (Lu rfl (Lu rfl (Lu rfl (Lu rfl (Lu rfl (Lu rfl (Lu rfl (Lu rfl (Lu rfl (Lu rfl (Lu rfl (Lu rfl (Lu rfl (Lu rfl Lr))))))))))))))))))))), (agC (congrArg Value.bool (show false = (((parseS (textS (wordV a p))).isSome && ((parseS (textS (wordV a p))).getD 0 == wordV a p)) && (((textS (wordV a p)) == (textS (wordV b q))) == (wordV a p == wordV b q))) by simp only [↓g9, BT])) agN)⟩
  · skip
    rintro g8 H8 ⟨F8, hF8, hs8⟩
    refine wk_skip_seq ?_
    refine wk_ret ⟨.inr rfl, _, rfl, (((parseS (textS (wordV a p))).isSome && ((parseS (textS (wordV a p))).getD 0 == wordV a p)) && (((textS (wordV a p)) == (textS (wordV b q))) == (wordV a p == wordV b q))), _, (Fz.le_trans (Fz.le_trans (Fz.le_trans (hF1) hF2) hF3) hF8), (HS.forget hs8), rfl, (by exact rt h1 h2)⟩

theorem reference_c (op : Int) (a : Int) (b : Int) (p : Int) (q : Int) (raw : List UInt8) {F : Fz} {H : Heap} {R : List Fp} (hs : HS (.of H []) F H [] R) (hop : in64 op) (ha : in64 a) (hb : in64 b) (hp : in64 p) (hq : in64 q) : C Try.prog 0 (KX 12) 7 [(.int .i64 op), (.int .i64 a), (.int .i64 b), (.int .i64 p), (.int .i64 q), (.string ⟨⟨raw⟩⟩)] H fun v H' => ∃ (r : Bool) (F' : Fz), Fz.le F F' ∧ HS (.of H []) F' H' [] R ∧ v = .bool r ∧ r = true := by
  refine c_enter Try.func7 rfl rfl ?_
  refine wk_seq ?_
  refine wk_region ?_
  refine wa (.bool false) rfl rfl rfl ?_
  refine wo_nil ?_
  refine wk_skip_seq ?_
  refine wk_seq ?_
  refine wk_region ?_
  refine wm (.int .i64 a) rfl rfl rfl ?_
  refine wm (.int .i64 p) rfl rfl rfl ?_
  refine wo_call (ap_call rfl rfl rfl) rfl rfl (w1.word_c 12 a p (HS.call hs) (by first | omega | assumption | (simp only [List.length_cons, List.length_nil] at *; omega)) (by first | omega | assumption | (simp only [List.length_cons, List.length_nil] at *; omega))) ?_
  rintro _ H1 ⟨r1, F1, hF1, hs1, rfl, rfl, h1⟩
  replace hs1 := HS.back hs rfl hs1
  have hs1 : HS (Base.of H []) F1 H1 [] R := hs1
  refine wm (.int .i64 b) rfl rfl rfl ?_
  refine wm (.int .i64 q) rfl rfl rfl ?_
  refine wo_call (ap_call rfl rfl rfl) rfl rfl (w1.word_c 12 b q (HS.call hs1) (by first | omega | assumption | (simp only [List.length_cons, List.length_nil] at *; omega)) (by first | omega | assumption | (simp only [List.length_cons, List.length_nil] at *; omega))) ?_
  rintro _ H2 ⟨r2, F2, hF2, hs2, rfl, rfl, h2⟩
  replace hs2 := HS.back hs1 rfl hs2
  have hs2 : HS (Base.of H []) F2 H2 [] R := hs2
  refine wa (.int .i64 (wordV a p)) rfl rfl rfl ?_
  refine wa (.int .i64 (wordV b q)) rfl rfl rfl ?_
  refine wo_nil ?_
  refine wk_skip_seq ?_
  refine wk_seq ?_
  refine wk_seq ?_
  refine wk_region ?_
  refine wm (.int .i64 op) rfl rfl rfl ?_
  refine wm (.int .i64 op) rfl rfl rfl ?_
  refine wo_call (ap_call rfl rfl rfl) rfl rfl (w1.pick_c 12 op (36) _ (by first | omega | assumption | (simp only [List.length_cons, List.length_nil] at *; omega))) ?_
  rintro _ H2 ⟨r3, rfl, rfl, rfl, h3⟩
  refine wm (.int .i64 op) rfl rfl rfl ?_
  refine wo_call (ap_call rfl rfl rfl) rfl rfl (w1.pick_c 12 op (18) _ (by first | omega | assumption | (simp only [List.length_cons, List.length_nil] at *; omega))) ?_
  rintro _ H2 ⟨r4, rfl, rfl, rfl, h4⟩
  refine wo_val (v := (.int .i64 (4 + (pickV op (18 : Int))))) (ap_add rfl rfl (w_i64 (n := 4 + (pickV op (18 : Int))) (by first | omega | assumption | (simp only [List.length_cons, List.length_nil] at *; omega)))) rfl rfl ?_
  refine wo_rs (rs_lit (α := Int) (ps := [(0, (.int .i64 op)), (1, (.int .i64 (pickV op (36 : Int)))), (2, (.int .i64 (4 + (pickV op (18 : Int)))))]) (cells := [(.int .i64 op), (.int .i64 (pickV op (36 : Int))), (.int .i64 (4 + (pickV op (18 : Int))))]) ([op, pickV op (36 : Int), 4 + (pickV op (18 : Int))] : List Int) hs2 rfl rfl rfl (by kernel_rfl) ⟨[(.int .i64 op)], [(.int .i64 (pickV op (36 : Int))), (.int .i64 (4 + (pickV op (18 : Int))))], rfl, ⟨rfl, by first | omega | assumption | (simp only [List.length_cons, List.length_nil] at *; omega)⟩, ⟨[(.int .i64 (pickV op (36 : Int)))], [(.int .i64 (4 + (pickV op (18 : Int))))], rfl, ⟨rfl, by first | omega | assumption | (simp only [List.length_cons, List.length_nil] at *; omega)⟩, ⟨[(.int .i64 (4 + (pickV op (18 : Int))))], [], rfl, ⟨rfl, by first | omega | assumption | (simp only [List.length_cons, List.length_nil] at *; omega)⟩, rfl⟩⟩⟩ rfl) rfl rfl ?_
  rintro _ H6 p5 ⟨a5, k5, rfl, ho5, hs6, _⟩
  have hs6 : HS (Base.of H []) F2 H6 [p5] R := hs6
  refine wo_val (v := (.int .i64 (([op, pickV op (36 : Int), 4 + (pickV op (18 : Int))] : List Int).length : Int))) (ap_lenV (α := Int) rfl rfl (OS.sv ho5 hs6 (i := 0) rfl)) rfl rfl ?_
  refine wm (.int .i64 0) rfl rfl rfl ?_
  refine wo_nil ?_
  refine wk_skip_seq ?_
  refine wk_block ?_
  refine wk_loop_inv (fun (mm : Nat) f H' => ∃ (i : Nat), H' = H6 ∧ agrees f [(5, (.string ⟨⟨raw⟩⟩)), (13, (.int .i64 (wordV a p))), (14, (.int .i64 (wordV b q))), (35, (.slice a5 ([op, pickV op (36 : Int), 4 + (pickV op (18 : Int))] : List Int).length k5)), (36, (.int .i64 (([op, pickV op (36 : Int), 4 + (pickV op (18 : Int))] : List Int).length : Int))), (37, (.int .i64 (i : Int)))] ∧ mm = 3 - i ∧ (i ≤ 3)) _ ⟨0, rfl, (agC rfl (agC rfl (agC rfl (agC rfl (agC rfl (agC rfl agN)))))), rfl, (by first | omega | assumption | (simp only [List.length_cons, List.length_nil] at *; omega))⟩ ?_
  rintro mm7 f7 H6 ⟨i, rfl, hf7, rfl, hi⟩ ih7
  refine wk_canon _ hf7 (fun gg7 => ?_)
  clear hf7
  refine wk_seq ?_
  refine wk_region ?_
  refine wo_val (v := (.bool (decide ((i : Int) < (([op, pickV op (36 : Int), 4 + (pickV op (18 : Int))] : List Int).length : Int))))) (ap_cmp rfl rfl rfl rfl) rfl rfl ?_
  refine wo_nil ?_
  refine wk_skip_seq ?_
  refine wk_seq ?_
  refine wk_cond (v := (decide ((i : Int) < (([op, pickV op (36 : Int), 4 + (pickV op (18 : Int))] : List Int).length : Int)))) rfl rfl (fun c8b => ?_) (fun c8b => ?_)
  · have c8 := c8b
    try simp only [BS] at c8
    refine wk_skip_seq ?_
    refine wk_seq ?_
    refine wk_block ?_
    refine wk_seq ?_
    refine wk_region ?_
    refine wo_val (v := (.pointer (some ⟨sB (.slice a5 ([op, pickV op (36 : Int), 4 + (pickV op (18 : Int))] : List Int).length k5), sO (.slice a5 ([op, pickV op (36 : Int), 4 + (pickV op (18 : Int))] : List Int).length k5) + i * Rp.sz Int, none⟩))) (ap_idxV (α := Int) (j := (i : Int)) rfl rfl rfl rfl (OS.sv ho5 hs6 (i := 0) rfl) (by first | omega | assumption | (simp only [List.length_cons, List.length_nil] at *; omega)) (by first | omega | assumption | (simp only [List.length_cons, List.length_nil] at *; omega))) rfl rfl ?_
    obtain ⟨cs9, hr9, hc9⟩ := Sv.at (OS.sv ho5 hs6 (i := 0) rfl) (getD_at (x := (0 : Int)) (show i < ([op, pickV op (36 : Int), 4 + (pickV op (18 : Int))] : List Int).length from by first | omega | assumption | (simp only [List.length_cons, List.length_nil] at *; omega)))
    obtain ⟨rfl, g10_0⟩ := hr9
    refine wo_val (v := (.int .i64 (([op, pickV op (36 : Int), 4 + (pickV op (18 : Int))] : List Int).getD i 0))) (ap_ld1 (i := 0) rfl rfl hc9 rfl rfl) rfl rfl ?_
    refine wa (.int .i64 (([op, pickV op (36 : Int), 4 + (pickV op (18 : Int))] : List Int).getD i 0)) rfl rfl rfl ?_
    refine wo_nil ?_
    refine wk_skip_seq ?_
    refine wk_seq ?_
    refine wk_rcut 41 58 [] [(58, (.bool ((unV (([op, pickV op (36 : Int), 4 + (pickV op (18 : Int))] : List Int).getD i 0) (wordV a p) != unV (([op, pickV op (36 : Int), 4 + (pickV op (18 : Int))] : List Int).getD i 0) (wordV a p)) || (binV (([op, pickV op (36 : Int), 4 + (pickV op (18 : Int))] : List Int).getD i 0) (wordV a p) (wordV b q) != binV (([op, pickV op (36 : Int), 4 + (pickV op (18 : Int))] : List Int).getD i 0) (wordV a p) (wordV b q)))))] (fun H' => H' = H6) ?_ ?_
    · skip
      refine wk_region ?_
      refine wm (.int .i64 (([op, pickV op (36 : Int), 4 + (pickV op (18 : Int))] : List Int).getD i 0)) rfl rfl rfl ?_
      refine wm (.int .i64 (wordV a p)) rfl rfl rfl ?_
      refine wo_call (ap_call rfl rfl rfl) rfl rfl (w1.un_c 12 (([op, pickV op (36 : Int), 4 + (pickV op (18 : Int))] : List Int).getD i 0) (wordV a p) _) ?_
      rintro _ H6 ⟨r16, rfl, rfl, rfl⟩
      refine wm (.int .i64 (([op, pickV op (36 : Int), 4 + (pickV op (18 : Int))] : List Int).getD i 0)) rfl rfl rfl ?_
      refine wm (.int .i64 (wordV a p)) rfl rfl rfl ?_
      refine wo_call (ap_call rfl rfl rfl) rfl rfl (w1.run_c 12 (([op, pickV op (36 : Int), 4 + (pickV op (18 : Int))] : List Int).getD i 0) (wordV a p) _) ?_
      rintro _ H6 ⟨r17, rfl, rfl, rfl⟩
      refine wo_val (v := (.bool (unV (([op, pickV op (36 : Int), 4 + (pickV op (18 : Int))] : List Int).getD i 0) (wordV a p) != unV (([op, pickV op (36 : Int), 4 + (pickV op (18 : Int))] : List Int).getD i 0) (wordV a p)))) (ap_cmp rfl rfl rfl rfl) rfl rfl ?_
      refine wm (.bool (unV (([op, pickV op (36 : Int), 4 + (pickV op (18 : Int))] : List Int).getD i 0) (wordV a p) != unV (([op, pickV op (36 : Int), 4 + (pickV op (18 : Int))] : List Int).getD i 0) (wordV a p))) rfl rfl rfl ?_
      refine wo_gsF (v := (unV (([op, pickV op (36 : Int), 4 + (pickV op (18 : Int))] : List Int).getD i 0) (wordV a p) != unV (([op, pickV op (36 : Int), 4 + (pickV op (18 : Int))] : List Int).getD i 0) (wordV a p))) rfl rfl (fun g18 => ?_) (fun g18 => ?_)
      · have pg18 := g18
        try simp only [BS] at pg18
        refine wm (.int .i64 (([op, pickV op (36 : Int), 4 + (pickV op (18 : Int))] : List Int).getD i 0)) rfl rfl rfl ?_
        refine wo_gt rfl g18 ?_
        refine wm (.int .i64 (wordV a p)) rfl rfl rfl ?_
        refine wo_gt rfl g18 ?_
        refine wm (.int .i64 (wordV b q)) rfl rfl rfl ?_
        refine wo_gt rfl g18 ?_
        refine wo_call (ap_call rfl rfl rfl) rfl rfl (w1.bin_c 12 (([op, pickV op (36 : Int), 4 + (pickV op (18 : Int))] : List Int).getD i 0) (wordV a p) (wordV b q) _) ?_
        rintro _ H6 ⟨r19, rfl, rfl, rfl⟩
        refine wo_gt rfl g18 ?_
        refine wm (.int .i64 (([op, pickV op (36 : Int), 4 + (pickV op (18 : Int))] : List Int).getD i 0)) rfl rfl rfl ?_
        refine wo_gt rfl g18 ?_
        refine wm (.int .i64 (wordV a p)) rfl rfl rfl ?_
        refine wo_gt rfl g18 ?_
        refine wm (.int .i64 (wordV b q)) rfl rfl rfl ?_
        refine wo_gt rfl g18 ?_
        refine wo_call (ap_call rfl rfl rfl) rfl rfl (w1.rbin_c 12 (([op, pickV op (36 : Int), 4 + (pickV op (18 : Int))] : List Int).getD i 0) (wordV a p) (wordV b q) _) ?_
        rintro _ H6 ⟨r20, rfl, rfl, rfl⟩
        refine wo_gt rfl g18 ?_
        refine wo_val (v := (.bool (binV (([op, pickV op (36 : Int), 4 + (pickV op (18 : Int))] : List Int).getD i 0) (wordV a p) (wordV b q) != binV (([op, pickV op (36 : Int), 4 + (pickV op (18 : Int))] : List Int).getD i 0) (wordV a p) (wordV b q)))) (ap_cmp rfl rfl rfl rfl) rfl rfl ?_
        refine wo_val (v := (.bool (binV (([op, pickV op (36 : Int), 4 + (pickV op (18 : Int))] : List Int).getD i 0) (wordV a p) (wordV b q) != binV (([op, pickV op (36 : Int), 4 + (pickV op (18 : Int))] : List Int).getD i 0) (wordV a p) (wordV b q)))) (ap_pickF rfl g18 rfl) rfl rfl ?_
        refine wo_nil ?_
        exact wk_skip_nil ⟨rfl, rfl, (Lu rfl (Lu rfl (Lu rfl (Lu rfl (Lu rfl (Lu rfl (Lu rfl (Lu rfl (Lu rfl (Lu rfl (Lu rfl (Lu rfl (Lu rfl (Lu rfl (Lu rfl (Lu rfl (Lu rfl (Lu rfl Lr)))))))))))))))))), (agC (congrArg Value.bool (show (binV (([op, pickV op (36 : Int), 4 + (pickV op (18 : Int))] : List Int).getD i 0) (wordV a p) (wordV b q) != binV (([op, pickV op (36 : Int), 4 + (pickV op (18 : Int))] : List Int).getD i 0) (wordV a p) (wordV b q)) = ((unV (([op, pickV op (36 : Int), 4 + (pickV op (18 : Int))] : List Int).getD i 0) (wordV a p) != unV (([op, pickV op (36 : Int), 4 + (pickV op (18 : Int))] : List Int).getD i 0) (wordV a p)) || (binV (([op, pickV op (36 : Int), 4 + (pickV op (18 : Int))] : List Int).getD i 0) (wordV a p) (wordV b q) != binV (([op, pickV op (36 : Int), 4 + (pickV op (18 : Int))] : List Int).getD i 0) (wordV a p) (wordV b q))) by simp only [↓g18, BT])) agN)⟩
      · have pg18 := g18
        try simp only [BS] at pg18
        refine wo_gf0 rfl g18 rfl ?_
        refine wo_gf0 rfl g18 rfl ?_
        refine wo_gf0 rfl g18 rfl ?_
        refine wo_gf0 rfl g18 rfl ?_
        refine wo_gf0 rfl g18 rfl ?_
        refine wo_gf0 rfl g18 rfl ?_
        refine wo_gf0 rfl g18 rfl ?_
        refine wo_gf0 rfl g18 rfl ?_
        refine wo_val (v := (.bool true)) (ap_pickT rfl g18 rfl) rfl rfl ?_
        refine wo_nil ?_
        exact wk_skip_nil ⟨rfl, rfl, (Lu rfl (Lu rfl (Lu rfl (Lu rfl (Lu rfl (Lu rfl (Lu rfl (Lu rfl (Lu rfl (Lu rfl (Lu rfl (Lu rfl (Lu rfl (Lu rfl (Lu rfl (Lu rfl (Lu rfl (Lu rfl Lr)))))))))))))))))), (agC (congrArg Value.bool (show true = ((unV (([op, pickV op (36 : Int), 4 + (pickV op (18 : Int))] : List Int).getD i 0) (wordV a p) != unV (([op, pickV op (36 : Int), 4 + (pickV op (18 : Int))] : List Int).getD i 0) (wordV a p)) || (binV (([op, pickV op (36 : Int), 4 + (pickV op (18 : Int))] : List Int).getD i 0) (wordV a p) (wordV b q) != binV (([op, pickV op (36 : Int), 4 + (pickV op (18 : Int))] : List Int).getD i 0) (wordV a p) (wordV b q))) by simp only [↓g18, BT])) agN)⟩
    · skip
      rintro g15 H6 rfl
      refine wk_skip_seq ?_
      refine wk_cond (v := ((unV (([op, pickV op (36 : Int), 4 + (pickV op (18 : Int))] : List Int).getD i 0) (wordV a p) != unV (([op, pickV op (36 : Int), 4 + (pickV op (18 : Int))] : List Int).getD i 0) (wordV a p)) || (binV (([op, pickV op (36 : Int), 4 + (pickV op (18 : Int))] : List Int).getD i 0) (wordV a p) (wordV b q) != binV (([op, pickV op (36 : Int), 4 + (pickV op (18 : Int))] : List Int).getD i 0) (wordV a p) (wordV b q)))) rfl rfl (fun c21b => ?_) (fun c21b => ?_)
      · have c21 := c21b
        try simp only [BS] at c21
        have pc := c21
        refine wk_seq ?_
        refine wk_region ?_
        refine wa (.bool false) rfl rfl rfl ?_
        refine wo_nil ?_
        refine wk_skip_seq ?_
        refine wk_ret ⟨.inr rfl, _, rfl, false, _, (Fz.le_trans (hF1) hF2), (HS.forget hs6), rfl, (by rcases pc with pc | pc <;> exact absurd rfl pc)⟩
      · have c21 := c21b
        try simp only [BS] at c21
        refine wk_skip_block ?_
        refine wk_skip_seq ?_
        refine wk_region ?_
        refine wo_val (v := (.int .i64 ((i : Int) + 1))) (ap_add rfl rfl (w_i64 (n := (i : Int) + 1) (by first | omega | assumption | (simp only [List.length_cons, List.length_nil] at *; omega)))) rfl rfl ?_
        refine wm (.int .i64 ((i : Int) + 1)) rfl rfl rfl ?_
        refine wo_nil ?_
        refine wk_skip_seq ?_
        refine ih7 _ _ _ ?_ ⟨i + 1, rfl, (agC rfl (agC rfl (agC rfl (agC rfl (agC rfl (agC rfl agN)))))), rfl, (by first | omega | assumption | (simp only [List.length_cons, List.length_nil] at *; omega))⟩
        first | omega | assumption | (simp only [List.length_cons, List.length_nil] at *; omega)
  · have c8 := c8b
    try simp only [BS] at c8
    refine wk_exit_seq ?_
    refine wk_exit_seq ?_
    refine wk_exit_block ?_
    refine wk_skip_seq ?_
    refine wk_seq ?_
    refine wk_seq ?_
    refine wk_region ?_
    refine wm (.string ⟨⟨raw⟩⟩) rfl rfl rfl ?_
    refine wm (.int .i64 (wordV a p)) rfl rfl rfl ?_
    refine wo_call (ap_call rfl rfl rfl) rfl rfl (w3.rtext_c 12 (wordV a p) (HS.call hs6) (by first | omega | assumption | (simp only [List.length_cons, List.length_nil] at *; omega))) ?_
    rintro _ H22 ⟨r22, F22, hF22, hs22, rfl, rfl⟩
    replace hs22 := HS.back hs6 rfl hs22
    have hs22 : HS (Base.of H []) F22 H22 [p5] R := hs22
    replace ho5 := ho5.mono hF22
    refine wm (.int .i64 (wordV a p)) rfl rfl rfl ?_
    refine wo_call (ap_call rfl rfl rfl) rfl rfl (w3.rtext_c 12 (wordV a p) (HS.call hs22) (by first | omega | assumption | (simp only [List.length_cons, List.length_nil] at *; omega))) ?_
    rintro _ H23 ⟨r23, F23, hF23, hs23, rfl, rfl⟩
    replace hs23 := HS.back hs22 rfl hs23
    have hs23 : HS (Base.of H []) F23 H23 [p5] R := hs23
    replace ho5 := ho5.mono hF23
    refine wo_val (v := (.string ⟨⟨[48] ++ (textS (wordV a p))⟩⟩)) (ap_addS rfl rfl (by have := textS_len h1; have := textS_len h2; simp only [List.length_cons, List.length_nil]; omega)) rfl rfl ?_
    refine wm (.int .i64 (wordV a p)) rfl rfl rfl ?_
    refine wo_call (ap_call rfl rfl rfl) rfl rfl (w3.rtext_c 12 (wordV a p) (HS.call hs23) (by first | omega | assumption | (simp only [List.length_cons, List.length_nil] at *; omega))) ?_
    rintro _ H24 ⟨r24, F24, hF24, hs24, rfl, rfl⟩
    replace hs24 := HS.back hs23 rfl hs24
    have hs24 : HS (Base.of H []) F24 H24 [p5] R := hs24
    replace ho5 := ho5.mono hF24
    refine wo_val (v := (.string ⟨⟨[45] ++ (textS (wordV a p))⟩⟩)) (ap_addS rfl rfl (by have := textS_len h1; have := textS_len h2; simp only [List.length_cons, List.length_nil]; omega)) rfl rfl ?_
    refine wm (.int .i64 (wordV a p)) rfl rfl rfl ?_
    refine wo_call (ap_call rfl rfl rfl) rfl rfl (w3.rtext_c 12 (wordV a p) (HS.call hs24) (by first | omega | assumption | (simp only [List.length_cons, List.length_nil] at *; omega))) ?_
    rintro _ H25 ⟨r25, F25, hF25, hs25, rfl, rfl⟩
    replace hs25 := HS.back hs24 rfl hs25
    have hs25 : HS (Base.of H []) F25 H25 [p5] R := hs25
    replace ho5 := ho5.mono hF25
    refine wo_val (v := (.string ⟨⟨(textS (wordV a p)) ++ [48]⟩⟩)) (ap_addS rfl rfl (by have := textS_len h1; have := textS_len h2; simp only [List.length_cons, List.length_nil]; omega)) rfl rfl ?_
    refine wm (.int .i64 (wordV b q)) rfl rfl rfl ?_
    refine wo_call (ap_call rfl rfl rfl) rfl rfl (w3.rtext_c 12 (wordV b q) (HS.call hs25) (by first | omega | assumption | (simp only [List.length_cons, List.length_nil] at *; omega))) ?_
    rintro _ H26 ⟨r26, F26, hF26, hs26, rfl, rfl⟩
    replace hs26 := HS.back hs25 rfl hs26
    have hs26 : HS (Base.of H []) F26 H26 [p5] R := hs26
    replace ho5 := ho5.mono hF26
    refine wo_val (v := (.string ⟨⟨[43] ++ (textS (wordV b q))⟩⟩)) (ap_addS rfl rfl (by have := textS_len h1; have := textS_len h2; simp only [List.length_cons, List.length_nil]; omega)) rfl rfl ?_
    refine wo_rs (rs_lit (α := Str) (ps := [(0, (.string ⟨⟨raw⟩⟩)), (1, (.string ⟨⟨textS (wordV a p)⟩⟩)), (2, (.string ⟨⟨[48] ++ (textS (wordV a p))⟩⟩)), (3, (.string ⟨⟨[45] ++ (textS (wordV a p))⟩⟩)), (4, (.string ⟨⟨(textS (wordV a p)) ++ [48]⟩⟩)), (5, (.string ⟨⟨[43] ++ (textS (wordV b q))⟩⟩))]) (cells := [(.string ⟨⟨raw⟩⟩), (.string ⟨⟨textS (wordV a p)⟩⟩), (.string ⟨⟨[48] ++ (textS (wordV a p))⟩⟩), (.string ⟨⟨[45] ++ (textS (wordV a p))⟩⟩), (.string ⟨⟨(textS (wordV a p)) ++ [48]⟩⟩), (.string ⟨⟨[43] ++ (textS (wordV b q))⟩⟩)]) ([⟨raw⟩, ⟨textS (wordV a p)⟩, ⟨[48] ++ (textS (wordV a p))⟩, ⟨[45] ++ (textS (wordV a p))⟩, ⟨(textS (wordV a p)) ++ [48]⟩, ⟨[43] ++ (textS (wordV b q))⟩] : List Str) hs26 rfl rfl rfl (by kernel_rfl) ⟨[(.string ⟨⟨raw⟩⟩)], [(.string ⟨⟨textS (wordV a p)⟩⟩), (.string ⟨⟨[48] ++ (textS (wordV a p))⟩⟩), (.string ⟨⟨[45] ++ (textS (wordV a p))⟩⟩), (.string ⟨⟨(textS (wordV a p)) ++ [48]⟩⟩), (.string ⟨⟨[43] ++ (textS (wordV b q))⟩⟩)], rfl, rfl, ⟨[(.string ⟨⟨textS (wordV a p)⟩⟩)], [(.string ⟨⟨[48] ++ (textS (wordV a p))⟩⟩), (.string ⟨⟨[45] ++ (textS (wordV a p))⟩⟩), (.string ⟨⟨(textS (wordV a p)) ++ [48]⟩⟩), (.string ⟨⟨[43] ++ (textS (wordV b q))⟩⟩)], rfl, rfl, ⟨[(.string ⟨⟨[48] ++ (textS (wordV a p))⟩⟩)], [(.string ⟨⟨[45] ++ (textS (wordV a p))⟩⟩), (.string ⟨⟨(textS (wordV a p)) ++ [48]⟩⟩), (.string ⟨⟨[43] ++ (textS (wordV b q))⟩⟩)], rfl, rfl, ⟨[(.string ⟨⟨[45] ++ (textS (wordV a p))⟩⟩)], [(.string ⟨⟨(textS (wordV a p)) ++ [48]⟩⟩), (.string ⟨⟨[43] ++ (textS (wordV b q))⟩⟩)], rfl, rfl, ⟨[(.string ⟨⟨(textS (wordV a p)) ++ [48]⟩⟩)], [(.string ⟨⟨[43] ++ (textS (wordV b q))⟩⟩)], rfl, rfl, ⟨[(.string ⟨⟨[43] ++ (textS (wordV b q))⟩⟩)], [], rfl, rfl, rfl⟩⟩⟩⟩⟩⟩ rfl) rfl rfl ?_
    rintro _ H28 p27 ⟨a27, k27, rfl, ho27, hs28, _⟩
    have hs28 : HS (Base.of H []) F26 H28 [p5, p27] R := hs28
    refine wo_val (v := (.int .i64 (([⟨raw⟩, ⟨textS (wordV a p)⟩, ⟨[48] ++ (textS (wordV a p))⟩, ⟨[45] ++ (textS (wordV a p))⟩, ⟨(textS (wordV a p)) ++ [48]⟩, ⟨[43] ++ (textS (wordV b q))⟩] : List Str).length : Int))) (ap_lenV (α := Str) rfl rfl (OS.sv ho27 hs28 (i := 1) rfl)) rfl rfl ?_
    refine wm (.int .i64 0) rfl rfl rfl ?_
    refine wo_nil ?_
    refine wk_skip_seq ?_
    refine wk_block ?_
    refine wk_loop_inv (fun (mm : Nat) f H' => ∃ (i : Nat), H' = H28 ∧ agrees f [(13, (.int .i64 (wordV a p))), (75, (.slice a27 ([⟨raw⟩, ⟨textS (wordV a p)⟩, ⟨[48] ++ (textS (wordV a p))⟩, ⟨[45] ++ (textS (wordV a p))⟩, ⟨(textS (wordV a p)) ++ [48]⟩, ⟨[43] ++ (textS (wordV b q))⟩] : List Str).length k27)), (76, (.int .i64 (([⟨raw⟩, ⟨textS (wordV a p)⟩, ⟨[48] ++ (textS (wordV a p))⟩, ⟨[45] ++ (textS (wordV a p))⟩, ⟨(textS (wordV a p)) ++ [48]⟩, ⟨[43] ++ (textS (wordV b q))⟩] : List Str).length : Int))), (77, (.int .i64 (i : Int)))] ∧ mm = 6 - i ∧ (i ≤ 6)) _ ⟨0, rfl, (agC rfl (agC rfl (agC rfl (agC rfl agN)))), rfl, (by first | omega | assumption | (simp only [List.length_cons, List.length_nil] at *; omega))⟩ ?_
    rintro mm29 f29 H28 ⟨i, rfl, hf29, rfl, hi⟩ ih29
    refine wk_canon _ hf29 (fun gg29 => ?_)
    clear hf29
    refine wk_seq ?_
    refine wk_region ?_
    refine wo_val (v := (.bool (decide ((i : Int) < (([⟨raw⟩, ⟨textS (wordV a p)⟩, ⟨[48] ++ (textS (wordV a p))⟩, ⟨[45] ++ (textS (wordV a p))⟩, ⟨(textS (wordV a p)) ++ [48]⟩, ⟨[43] ++ (textS (wordV b q))⟩] : List Str).length : Int))))) (ap_cmp rfl rfl rfl rfl) rfl rfl ?_
    refine wo_nil ?_
    refine wk_skip_seq ?_
    refine wk_seq ?_
    refine wk_cond (v := (decide ((i : Int) < (([⟨raw⟩, ⟨textS (wordV a p)⟩, ⟨[48] ++ (textS (wordV a p))⟩, ⟨[45] ++ (textS (wordV a p))⟩, ⟨(textS (wordV a p)) ++ [48]⟩, ⟨[43] ++ (textS (wordV b q))⟩] : List Str).length : Int)))) rfl rfl (fun c30b => ?_) (fun c30b => ?_)
    · have c30 := c30b
      try simp only [BS] at c30
      refine wk_skip_seq ?_
      refine wk_seq ?_
      refine wk_block ?_
      refine wk_seq ?_
      refine wk_region ?_
      refine wo_val (v := (.pointer (some ⟨sB (.slice a27 ([⟨raw⟩, ⟨textS (wordV a p)⟩, ⟨[48] ++ (textS (wordV a p))⟩, ⟨[45] ++ (textS (wordV a p))⟩, ⟨(textS (wordV a p)) ++ [48]⟩, ⟨[43] ++ (textS (wordV b q))⟩] : List Str).length k27), sO (.slice a27 ([⟨raw⟩, ⟨textS (wordV a p)⟩, ⟨[48] ++ (textS (wordV a p))⟩, ⟨[45] ++ (textS (wordV a p))⟩, ⟨(textS (wordV a p)) ++ [48]⟩, ⟨[43] ++ (textS (wordV b q))⟩] : List Str).length k27) + i * Rp.sz Str, none⟩))) (ap_idxV (α := Str) (j := (i : Int)) rfl rfl rfl rfl (OS.sv ho27 hs28 (i := 1) rfl) (by first | omega | assumption | (simp only [List.length_cons, List.length_nil] at *; omega)) (by first | omega | assumption | (simp only [List.length_cons, List.length_nil] at *; omega))) rfl rfl ?_
      obtain ⟨cs31, hr31, hc31⟩ := Sv.at (OS.sv ho27 hs28 (i := 1) rfl) (getD_at (x := default) (show i < ([⟨raw⟩, ⟨textS (wordV a p)⟩, ⟨[48] ++ (textS (wordV a p))⟩, ⟨[45] ++ (textS (wordV a p))⟩, ⟨(textS (wordV a p)) ++ [48]⟩, ⟨[43] ++ (textS (wordV b q))⟩] : List Str).length from by first | omega | assumption | (simp only [List.length_cons, List.length_nil] at *; omega)))
      obtain rfl := hr31
      refine wo_val (v := (.string ⟨⟨(([⟨raw⟩, ⟨textS (wordV a p)⟩, ⟨[48] ++ (textS (wordV a p))⟩, ⟨[45] ++ (textS (wordV a p))⟩, ⟨(textS (wordV a p)) ++ [48]⟩, ⟨[43] ++ (textS (wordV b q))⟩] : List Str).getD i default).b⟩⟩)) (ap_ld1 (i := 0) rfl rfl hc31 rfl rfl) rfl rfl ?_
      refine wa (.string ⟨⟨(([⟨raw⟩, ⟨textS (wordV a p)⟩, ⟨[48] ++ (textS (wordV a p))⟩, ⟨[45] ++ (textS (wordV a p))⟩, ⟨(textS (wordV a p)) ++ [48]⟩, ⟨[43] ++ (textS (wordV b q))⟩] : List Str).getD i default).b⟩⟩) rfl rfl rfl ?_
      refine wo_nil ?_
      refine wk_skip_seq ?_
      refine wk_seq ?_
      refine wk_region ?_
      refine wm (.string ⟨⟨(([⟨raw⟩, ⟨textS (wordV a p)⟩, ⟨[48] ++ (textS (wordV a p))⟩, ⟨[45] ++ (textS (wordV a p))⟩, ⟨(textS (wordV a p)) ++ [48]⟩, ⟨[43] ++ (textS (wordV b q))⟩] : List Str).getD i default).b⟩⟩) rfl rfl rfl ?_
      refine wo_call (ap_call rfl rfl rfl) rfl rfl (w3.parse_c 12 ((([⟨raw⟩, ⟨textS (wordV a p)⟩, ⟨[48] ++ (textS (wordV a p))⟩, ⟨[45] ++ (textS (wordV a p))⟩, ⟨(textS (wordV a p)) ++ [48]⟩, ⟨[43] ++ (textS (wordV b q))⟩] : List Str).getD i default).b) _) ?_
      rintro _ H28 ⟨r33, ok33, rfl, rfl, rfl, rfl⟩
      refine wm (.tuple ⟨[(.int .i64 ((parseS ((([⟨raw⟩, ⟨textS (wordV a p)⟩, ⟨[48] ++ (textS (wordV a p))⟩, ⟨[45] ++ (textS (wordV a p))⟩, ⟨(textS (wordV a p)) ++ [48]⟩, ⟨[43] ++ (textS (wordV b q))⟩] : List Str).getD i default).b)).getD 0)), (.bool ((parseS ((([⟨raw⟩, ⟨textS (wordV a p)⟩, ⟨[48] ++ (textS (wordV a p))⟩, ⟨[45] ++ (textS (wordV a p))⟩, ⟨(textS (wordV a p)) ++ [48]⟩, ⟨[43] ++ (textS (wordV b q))⟩] : List Str).getD i default).b)).isSome))]⟩) rfl rfl rfl ?_
      refine wo_val (v := (.int .i64 ((parseS ((([⟨raw⟩, ⟨textS (wordV a p)⟩, ⟨[48] ++ (textS (wordV a p))⟩, ⟨[45] ++ (textS (wordV a p))⟩, ⟨(textS (wordV a p)) ++ [48]⟩, ⟨[43] ++ (textS (wordV b q))⟩] : List Str).getD i default).b)).getD 0))) (ap_ex rfl rfl) rfl rfl ?_
      refine wo_val (v := (.bool ((parseS ((([⟨raw⟩, ⟨textS (wordV a p)⟩, ⟨[48] ++ (textS (wordV a p))⟩, ⟨[45] ++ (textS (wordV a p))⟩, ⟨(textS (wordV a p)) ++ [48]⟩, ⟨[43] ++ (textS (wordV b q))⟩] : List Str).getD i default).b)).isSome))) (ap_ex rfl rfl) rfl rfl ?_
      refine wa (.int .i64 ((parseS ((([⟨raw⟩, ⟨textS (wordV a p)⟩, ⟨[48] ++ (textS (wordV a p))⟩, ⟨[45] ++ (textS (wordV a p))⟩, ⟨(textS (wordV a p)) ++ [48]⟩, ⟨[43] ++ (textS (wordV b q))⟩] : List Str).getD i default).b)).getD 0)) rfl rfl rfl ?_
      refine wa (.bool ((parseS ((([⟨raw⟩, ⟨textS (wordV a p)⟩, ⟨[48] ++ (textS (wordV a p))⟩, ⟨[45] ++ (textS (wordV a p))⟩, ⟨(textS (wordV a p)) ++ [48]⟩, ⟨[43] ++ (textS (wordV b q))⟩] : List Str).getD i default).b)).isSome)) rfl rfl rfl ?_
      refine wo_nil ?_
      refine wk_skip_seq ?_
      refine wk_seq ?_
      refine wk_region ?_
      refine wm (.string ⟨⟨(([⟨raw⟩, ⟨textS (wordV a p)⟩, ⟨[48] ++ (textS (wordV a p))⟩, ⟨[45] ++ (textS (wordV a p))⟩, ⟨(textS (wordV a p)) ++ [48]⟩, ⟨[43] ++ (textS (wordV b q))⟩] : List Str).getD i default).b⟩⟩) rfl rfl rfl ?_
      refine wo_call (ap_call rfl rfl rfl) rfl rfl (w3.rparse_c 12 ((([⟨raw⟩, ⟨textS (wordV a p)⟩, ⟨[48] ++ (textS (wordV a p))⟩, ⟨[45] ++ (textS (wordV a p))⟩, ⟨(textS (wordV a p)) ++ [48]⟩, ⟨[43] ++ (textS (wordV b q))⟩] : List Str).getD i default).b) _) ?_
      rintro _ H28 ⟨r34, ok34, rfl, rfl, rfl, rfl⟩
      refine wm (.tuple ⟨[(.int .i64 ((parseS ((([⟨raw⟩, ⟨textS (wordV a p)⟩, ⟨[48] ++ (textS (wordV a p))⟩, ⟨[45] ++ (textS (wordV a p))⟩, ⟨(textS (wordV a p)) ++ [48]⟩, ⟨[43] ++ (textS (wordV b q))⟩] : List Str).getD i default).b)).getD 0)), (.bool ((parseS ((([⟨raw⟩, ⟨textS (wordV a p)⟩, ⟨[48] ++ (textS (wordV a p))⟩, ⟨[45] ++ (textS (wordV a p))⟩, ⟨(textS (wordV a p)) ++ [48]⟩, ⟨[43] ++ (textS (wordV b q))⟩] : List Str).getD i default).b)).isSome))]⟩) rfl rfl rfl ?_
      refine wo_val (v := (.int .i64 ((parseS ((([⟨raw⟩, ⟨textS (wordV a p)⟩, ⟨[48] ++ (textS (wordV a p))⟩, ⟨[45] ++ (textS (wordV a p))⟩, ⟨(textS (wordV a p)) ++ [48]⟩, ⟨[43] ++ (textS (wordV b q))⟩] : List Str).getD i default).b)).getD 0))) (ap_ex rfl rfl) rfl rfl ?_
      refine wo_val (v := (.bool ((parseS ((([⟨raw⟩, ⟨textS (wordV a p)⟩, ⟨[48] ++ (textS (wordV a p))⟩, ⟨[45] ++ (textS (wordV a p))⟩, ⟨(textS (wordV a p)) ++ [48]⟩, ⟨[43] ++ (textS (wordV b q))⟩] : List Str).getD i default).b)).isSome))) (ap_ex rfl rfl) rfl rfl ?_
      refine wa (.int .i64 ((parseS ((([⟨raw⟩, ⟨textS (wordV a p)⟩, ⟨[48] ++ (textS (wordV a p))⟩, ⟨[45] ++ (textS (wordV a p))⟩, ⟨(textS (wordV a p)) ++ [48]⟩, ⟨[43] ++ (textS (wordV b q))⟩] : List Str).getD i default).b)).getD 0)) rfl rfl rfl ?_
      refine wa (.bool ((parseS ((([⟨raw⟩, ⟨textS (wordV a p)⟩, ⟨[48] ++ (textS (wordV a p))⟩, ⟨[45] ++ (textS (wordV a p))⟩, ⟨(textS (wordV a p)) ++ [48]⟩, ⟨[43] ++ (textS (wordV b q))⟩] : List Str).getD i default).b)).isSome)) rfl rfl rfl ?_
      refine wo_nil ?_
      refine wk_skip_seq ?_
      refine wk_seq ?_
      refine wk_rcut 91 98 [] [(98, (.bool (((parseS ((([⟨raw⟩, ⟨textS (wordV a p)⟩, ⟨[48] ++ (textS (wordV a p))⟩, ⟨[45] ++ (textS (wordV a p))⟩, ⟨(textS (wordV a p)) ++ [48]⟩, ⟨[43] ++ (textS (wordV b q))⟩] : List Str).getD i default).b)).getD 0 != (parseS ((([⟨raw⟩, ⟨textS (wordV a p)⟩, ⟨[48] ++ (textS (wordV a p))⟩, ⟨[45] ++ (textS (wordV a p))⟩, ⟨(textS (wordV a p)) ++ [48]⟩, ⟨[43] ++ (textS (wordV b q))⟩] : List Str).getD i default).b)).getD 0) || ((parseS ((([⟨raw⟩, ⟨textS (wordV a p)⟩, ⟨[48] ++ (textS (wordV a p))⟩, ⟨[45] ++ (textS (wordV a p))⟩, ⟨(textS (wordV a p)) ++ [48]⟩, ⟨[43] ++ (textS (wordV b q))⟩] : List Str).getD i default).b)).isSome != (parseS ((([⟨raw⟩, ⟨textS (wordV a p)⟩, ⟨[48] ++ (textS (wordV a p))⟩, ⟨[45] ++ (textS (wordV a p))⟩, ⟨(textS (wordV a p)) ++ [48]⟩, ⟨[43] ++ (textS (wordV b q))⟩] : List Str).getD i default).b)).isSome))))] (fun H' => H' = H28) ?_ ?_
      · skip
        refine wk_region ?_
        refine wm (.int .i64 ((parseS ((([⟨raw⟩, ⟨textS (wordV a p)⟩, ⟨[48] ++ (textS (wordV a p))⟩, ⟨[45] ++ (textS (wordV a p))⟩, ⟨(textS (wordV a p)) ++ [48]⟩, ⟨[43] ++ (textS (wordV b q))⟩] : List Str).getD i default).b)).getD 0)) rfl rfl rfl ?_
        refine wm (.int .i64 ((parseS ((([⟨raw⟩, ⟨textS (wordV a p)⟩, ⟨[48] ++ (textS (wordV a p))⟩, ⟨[45] ++ (textS (wordV a p))⟩, ⟨(textS (wordV a p)) ++ [48]⟩, ⟨[43] ++ (textS (wordV b q))⟩] : List Str).getD i default).b)).getD 0)) rfl rfl rfl ?_
        refine wo_val (v := (.bool ((parseS ((([⟨raw⟩, ⟨textS (wordV a p)⟩, ⟨[48] ++ (textS (wordV a p))⟩, ⟨[45] ++ (textS (wordV a p))⟩, ⟨(textS (wordV a p)) ++ [48]⟩, ⟨[43] ++ (textS (wordV b q))⟩] : List Str).getD i default).b)).getD 0 != (parseS ((([⟨raw⟩, ⟨textS (wordV a p)⟩, ⟨[48] ++ (textS (wordV a p))⟩, ⟨[45] ++ (textS (wordV a p))⟩, ⟨(textS (wordV a p)) ++ [48]⟩, ⟨[43] ++ (textS (wordV b q))⟩] : List Str).getD i default).b)).getD 0))) (ap_cmp rfl rfl rfl rfl) rfl rfl ?_
        refine wm (.bool ((parseS ((([⟨raw⟩, ⟨textS (wordV a p)⟩, ⟨[48] ++ (textS (wordV a p))⟩, ⟨[45] ++ (textS (wordV a p))⟩, ⟨(textS (wordV a p)) ++ [48]⟩, ⟨[43] ++ (textS (wordV b q))⟩] : List Str).getD i default).b)).getD 0 != (parseS ((([⟨raw⟩, ⟨textS (wordV a p)⟩, ⟨[48] ++ (textS (wordV a p))⟩, ⟨[45] ++ (textS (wordV a p))⟩, ⟨(textS (wordV a p)) ++ [48]⟩, ⟨[43] ++ (textS (wordV b q))⟩] : List Str).getD i default).b)).getD 0)) rfl rfl rfl ?_
        refine wo_gsF (v := ((parseS ((([⟨raw⟩, ⟨textS (wordV a p)⟩, ⟨[48] ++ (textS (wordV a p))⟩, ⟨[45] ++ (textS (wordV a p))⟩, ⟨(textS (wordV a p)) ++ [48]⟩, ⟨[43] ++ (textS (wordV b q))⟩] : List Str).getD i default).b)).getD 0 != (parseS ((([⟨raw⟩, ⟨textS (wordV a p)⟩, ⟨[48] ++ (textS (wordV a p))⟩, ⟨[45] ++ (textS (wordV a p))⟩, ⟨(textS (wordV a p)) ++ [48]⟩, ⟨[43] ++ (textS (wordV b q))⟩] : List Str).getD i default).b)).getD 0)) rfl rfl (fun g36 => ?_) (fun g36 => ?_)
        · have pg36 := g36
          try simp only [BS] at pg36
          refine wm (.bool ((parseS ((([⟨raw⟩, ⟨textS (wordV a p)⟩, ⟨[48] ++ (textS (wordV a p))⟩, ⟨[45] ++ (textS (wordV a p))⟩, ⟨(textS (wordV a p)) ++ [48]⟩, ⟨[43] ++ (textS (wordV b q))⟩] : List Str).getD i default).b)).isSome)) rfl rfl rfl ?_
          refine wo_gt rfl g36 ?_
          refine wm (.bool ((parseS ((([⟨raw⟩, ⟨textS (wordV a p)⟩, ⟨[48] ++ (textS (wordV a p))⟩, ⟨[45] ++ (textS (wordV a p))⟩, ⟨(textS (wordV a p)) ++ [48]⟩, ⟨[43] ++ (textS (wordV b q))⟩] : List Str).getD i default).b)).isSome)) rfl rfl rfl ?_
          refine wo_gt rfl g36 ?_
          refine wo_val (v := (.bool ((parseS ((([⟨raw⟩, ⟨textS (wordV a p)⟩, ⟨[48] ++ (textS (wordV a p))⟩, ⟨[45] ++ (textS (wordV a p))⟩, ⟨(textS (wordV a p)) ++ [48]⟩, ⟨[43] ++ (textS (wordV b q))⟩] : List Str).getD i default).b)).isSome != (parseS ((([⟨raw⟩, ⟨textS (wordV a p)⟩, ⟨[48] ++ (textS (wordV a p))⟩, ⟨[45] ++ (textS (wordV a p))⟩, ⟨(textS (wordV a p)) ++ [48]⟩, ⟨[43] ++ (textS (wordV b q))⟩] : List Str).getD i default).b)).isSome))) (ap_boolNe rfl rfl (fun a b => by cases a <;> cases b <;> kernel_rfl)) rfl rfl ?_
          refine wo_val (v := (.bool ((parseS ((([⟨raw⟩, ⟨textS (wordV a p)⟩, ⟨[48] ++ (textS (wordV a p))⟩, ⟨[45] ++ (textS (wordV a p))⟩, ⟨(textS (wordV a p)) ++ [48]⟩, ⟨[43] ++ (textS (wordV b q))⟩] : List Str).getD i default).b)).isSome != (parseS ((([⟨raw⟩, ⟨textS (wordV a p)⟩, ⟨[48] ++ (textS (wordV a p))⟩, ⟨[45] ++ (textS (wordV a p))⟩, ⟨(textS (wordV a p)) ++ [48]⟩, ⟨[43] ++ (textS (wordV b q))⟩] : List Str).getD i default).b)).isSome))) (ap_pickF rfl g36 rfl) rfl rfl ?_
          refine wo_nil ?_
          exact wk_skip_nil ⟨rfl, rfl, (Lu rfl (Lu rfl (Lu rfl (Lu rfl (Lu rfl (Lu rfl (Lu rfl (Lu rfl Lr)))))))), (agC (congrArg Value.bool (show ((parseS ((([⟨raw⟩, ⟨textS (wordV a p)⟩, ⟨[48] ++ (textS (wordV a p))⟩, ⟨[45] ++ (textS (wordV a p))⟩, ⟨(textS (wordV a p)) ++ [48]⟩, ⟨[43] ++ (textS (wordV b q))⟩] : List Str).getD i default).b)).isSome != (parseS ((([⟨raw⟩, ⟨textS (wordV a p)⟩, ⟨[48] ++ (textS (wordV a p))⟩, ⟨[45] ++ (textS (wordV a p))⟩, ⟨(textS (wordV a p)) ++ [48]⟩, ⟨[43] ++ (textS (wordV b q))⟩] : List Str).getD i default).b)).isSome) = (((parseS ((([⟨raw⟩, ⟨textS (wordV a p)⟩, ⟨[48] ++ (textS (wordV a p))⟩, ⟨[45] ++ (textS (wordV a p))⟩, ⟨(textS (wordV a p)) ++ [48]⟩, ⟨[43] ++ (textS (wordV b q))⟩] : List Str).getD i default).b)).getD 0 != (parseS ((([⟨raw⟩, ⟨textS (wordV a p)⟩, ⟨[48] ++ (textS (wordV a p))⟩, ⟨[45] ++ (textS (wordV a p))⟩, ⟨(textS (wordV a p)) ++ [48]⟩, ⟨[43] ++ (textS (wordV b q))⟩] : List Str).getD i default).b)).getD 0) || ((parseS ((([⟨raw⟩, ⟨textS (wordV a p)⟩, ⟨[48] ++ (textS (wordV a p))⟩, ⟨[45] ++ (textS (wordV a p))⟩, ⟨(textS (wordV a p)) ++ [48]⟩, ⟨[43] ++ (textS (wordV b q))⟩] : List Str).getD i default).b)).isSome != (parseS ((([⟨raw⟩, ⟨textS (wordV a p)⟩, ⟨[48] ++ (textS (wordV a p))⟩, ⟨[45] ++ (textS (wordV a p))⟩, ⟨(textS (wordV a p)) ++ [48]⟩, ⟨[43] ++ (textS (wordV b q))⟩] : List Str).getD i default).b)).isSome)) by simp only [↓g36, BT])) agN)⟩
        · have pg36 := g36
          try simp only [BS] at pg36
          refine wo_gf0 rfl g36 rfl ?_
          refine wo_gf0 rfl g36 rfl ?_
          refine wo_val (v := (.bool true)) (ap_pickT rfl g36 rfl) rfl rfl ?_
          refine wo_nil ?_
          exact wk_skip_nil ⟨rfl, rfl, (Lu rfl (Lu rfl (Lu rfl (Lu rfl (Lu rfl (Lu rfl (Lu rfl (Lu rfl Lr)))))))), (agC (congrArg Value.bool (show true = (((parseS ((([⟨raw⟩, ⟨textS (wordV a p)⟩, ⟨[48] ++ (textS (wordV a p))⟩, ⟨[45] ++ (textS (wordV a p))⟩, ⟨(textS (wordV a p)) ++ [48]⟩, ⟨[43] ++ (textS (wordV b q))⟩] : List Str).getD i default).b)).getD 0 != (parseS ((([⟨raw⟩, ⟨textS (wordV a p)⟩, ⟨[48] ++ (textS (wordV a p))⟩, ⟨[45] ++ (textS (wordV a p))⟩, ⟨(textS (wordV a p)) ++ [48]⟩, ⟨[43] ++ (textS (wordV b q))⟩] : List Str).getD i default).b)).getD 0) || ((parseS ((([⟨raw⟩, ⟨textS (wordV a p)⟩, ⟨[48] ++ (textS (wordV a p))⟩, ⟨[45] ++ (textS (wordV a p))⟩, ⟨(textS (wordV a p)) ++ [48]⟩, ⟨[43] ++ (textS (wordV b q))⟩] : List Str).getD i default).b)).isSome != (parseS ((([⟨raw⟩, ⟨textS (wordV a p)⟩, ⟨[48] ++ (textS (wordV a p))⟩, ⟨[45] ++ (textS (wordV a p))⟩, ⟨(textS (wordV a p)) ++ [48]⟩, ⟨[43] ++ (textS (wordV b q))⟩] : List Str).getD i default).b)).isSome)) by simp only [↓g36, BT])) agN)⟩
      · skip
        rintro g35 H28 rfl
        refine wk_skip_seq ?_
        refine wk_cond (v := (((parseS ((([⟨raw⟩, ⟨textS (wordV a p)⟩, ⟨[48] ++ (textS (wordV a p))⟩, ⟨[45] ++ (textS (wordV a p))⟩, ⟨(textS (wordV a p)) ++ [48]⟩, ⟨[43] ++ (textS (wordV b q))⟩] : List Str).getD i default).b)).getD 0 != (parseS ((([⟨raw⟩, ⟨textS (wordV a p)⟩, ⟨[48] ++ (textS (wordV a p))⟩, ⟨[45] ++ (textS (wordV a p))⟩, ⟨(textS (wordV a p)) ++ [48]⟩, ⟨[43] ++ (textS (wordV b q))⟩] : List Str).getD i default).b)).getD 0) || ((parseS ((([⟨raw⟩, ⟨textS (wordV a p)⟩, ⟨[48] ++ (textS (wordV a p))⟩, ⟨[45] ++ (textS (wordV a p))⟩, ⟨(textS (wordV a p)) ++ [48]⟩, ⟨[43] ++ (textS (wordV b q))⟩] : List Str).getD i default).b)).isSome != (parseS ((([⟨raw⟩, ⟨textS (wordV a p)⟩, ⟨[48] ++ (textS (wordV a p))⟩, ⟨[45] ++ (textS (wordV a p))⟩, ⟨(textS (wordV a p)) ++ [48]⟩, ⟨[43] ++ (textS (wordV b q))⟩] : List Str).getD i default).b)).isSome))) rfl rfl (fun c37b => ?_) (fun c37b => ?_)
        · have c37 := c37b
          try simp only [BS] at c37
          have pc := c37
          refine wk_seq ?_
          refine wk_region ?_
          refine wa (.bool false) rfl rfl rfl ?_
          refine wo_nil ?_
          refine wk_skip_seq ?_
          refine wk_ret ⟨.inr rfl, _, rfl, false, _, (Fz.le_trans (Fz.le_trans (Fz.le_trans (Fz.le_trans (Fz.le_trans (Fz.le_trans (hF1) hF2) hF22) hF23) hF24) hF25) hF26), (HS.forget hs28), rfl, (by rcases pc with pc | pc <;> exact absurd rfl pc)⟩
        · have c37 := c37b
          try simp only [BS] at c37
          refine wk_skip_block ?_
          refine wk_skip_seq ?_
          refine wk_region ?_
          refine wo_val (v := (.int .i64 ((i : Int) + 1))) (ap_add rfl rfl (w_i64 (n := (i : Int) + 1) (by first | omega | assumption | (simp only [List.length_cons, List.length_nil] at *; omega)))) rfl rfl ?_
          refine wm (.int .i64 ((i : Int) + 1)) rfl rfl rfl ?_
          refine wo_nil ?_
          refine wk_skip_seq ?_
          refine ih29 _ _ _ ?_ ⟨i + 1, rfl, (agC rfl (agC rfl (agC rfl (agC rfl agN)))), rfl, (by first | omega | assumption | (simp only [List.length_cons, List.length_nil] at *; omega))⟩
          first | omega | assumption | (simp only [List.length_cons, List.length_nil] at *; omega)
    · have c30 := c30b
      try simp only [BS] at c30
      refine wk_exit_seq ?_
      refine wk_exit_seq ?_
      refine wk_exit_block ?_
      refine wk_skip_seq ?_
      refine wk_seq ?_
      refine wk_rcut 12 107 [] [(12, (.bool ((textS (wordV a p)) == (textS (wordV a p)))))] (fun H' => ∃ F', Fz.le F26 F' ∧ HS (Base.of H []) F' H' [p5, p27] R) ?_ ?_
      · skip
        refine wk_region ?_
        refine wm (.int .i64 (wordV a p)) rfl rfl rfl ?_
        refine wo_call (ap_call rfl rfl rfl) rfl rfl (w3.text_c 12 (wordV a p) (HS.call hs28) (by first | omega | assumption | (simp only [List.length_cons, List.length_nil] at *; omega))) ?_
        rintro _ H42 ⟨r42, F42, hF42, hs42, rfl, rfl⟩
        replace hs42 := HS.back hs28 rfl hs42
        have hs42 : HS (Base.of H []) F42 H42 [p5, p27] R := hs42
        replace ho27 := ho27.mono hF42
        refine wm (.int .i64 (wordV a p)) rfl rfl rfl ?_
        refine wo_call (ap_call rfl rfl rfl) rfl rfl (w3.rtext_c 12 (wordV a p) (HS.call hs42) (by first | omega | assumption | (simp only [List.length_cons, List.length_nil] at *; omega))) ?_
        rintro _ H43 ⟨r43, F43, hF43, hs43, rfl, rfl⟩
        replace hs43 := HS.back hs42 rfl hs43
        have hs43 : HS (Base.of H []) F43 H43 [p5, p27] R := hs43
        replace ho27 := ho27.mono hF43
        refine wo_val (v := (.bool ((textS (wordV a p)) == (textS (wordV a p))))) (ap_eqS rfl rfl) rfl rfl ?_
        refine wm (.bool ((textS (wordV a p)) == (textS (wordV a p)))) rfl rfl rfl ?_
        refine wo_gsT (v := ((textS (wordV a p)) == (textS (wordV a p)))) rfl rfl (fun g44 => ?_) (fun g44 => ?_)
        · have pg44 := g44
          try simp only [BS] at pg44
          refine wo_call (ap_call rfl rfl rfl) rfl rfl (w2.ex_c 12 _) ?_
          rintro _ H43 ⟨r45, rfl, rfl, rfl⟩
          refine wo_val (v := (.bool true)) (ap_pickT rfl g44 rfl) rfl rfl ?_
          refine wa (.bool true) rfl rfl rfl ?_
          refine wo_nil ?_
          exact wk_skip_nil ⟨rfl, ⟨_, (Fz.le_trans (Fz.le_trans (Fz.le_refl _) hF42) hF43), HS.sub hs43 (List.Sublist.refl _)⟩, (Lu rfl (Lu rfl (Lu rfl (Lu rfl (Lu rfl (Lu rfl (Lu rfl (Lu rfl (Lu rfl Lr))))))))), (agC (congrArg Value.bool (show true = ((textS (wordV a p)) == (textS (wordV a p))) by simp only [↓g44, BT])) agN)⟩
        · have pg44 := g44
          try simp only [BS] at pg44
          refine wo_val (v := (.bool false)) (ap_pickF rfl g44 rfl) rfl rfl ?_
          refine wa (.bool false) rfl rfl rfl ?_
          refine wo_nil ?_
          exact wk_skip_nil ⟨rfl, ⟨_, (Fz.le_trans (Fz.le_trans (Fz.le_refl _) hF42) hF43), HS.sub hs43 (List.Sublist.refl _)⟩, (Lu rfl (Lu rfl (Lu rfl (Lu rfl (Lu rfl (Lu rfl (Lu rfl (Lu rfl (Lu rfl Lr))))))))), (agC (congrArg Value.bool (show false = ((textS (wordV a p)) == (textS (wordV a p))) by simp only [↓g44, BT])) agN)⟩
      · skip
        rintro g41 H41 ⟨F41, hF41, hs41⟩
        replace ho27 := ho27.mono hF41
        refine wk_skip_seq ?_
        refine wk_ret ⟨.inr rfl, _, rfl, ((textS (wordV a p)) == (textS (wordV a p))), _, (Fz.le_trans (Fz.le_trans (Fz.le_trans (Fz.le_trans (Fz.le_trans (Fz.le_trans (Fz.le_trans (hF1) hF2) hF22) hF23) hF24) hF25) hF26) hF41), (HS.forget hs41), rfl, (by simp)⟩
end Go.Proofs.Ytcakpkdeojhacab.w4
