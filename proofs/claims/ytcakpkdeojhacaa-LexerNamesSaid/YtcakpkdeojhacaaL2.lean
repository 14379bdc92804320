/-
  The laws of chapter 2, each by a symbolic run over the functions that it calls. No condition.
-/
import Derived.Test.YtcakpkdeojhacaaL1
noncomputable section
namespace Go.Proofs.Ytcakpkdeojhacaa.l2
open Go.R
set_option maxRecDepth 10000
set_option linter.unusedVariables false
open l1
theorem ex_c (ex : FuncId) (H : Heap) : C Try.prog 0 (KX ex) ex [] H fun v H' => ∃ (r : Bool), H' = H ∧ v = .bool r ∧ r = true :=
  c_known (by show (bif Nat.beq ex ex then some (Value.bool true) else none) = _; rw [Nat.beq_refl]; rfl) ⟨true, rfl, rfl, rfl⟩

theorem wordLen_all {s : List UInt8} (h : s.all isWordB = true) : wordLen s = s.length :=
  (takeWhile_at (Nat.le_refl _) (by rw [List.take_length]; exact h) (fun hn => absurd hn (Nat.lt_irrefl _))).symm
theorem firstK_plus (s : List UInt8) : firstK (43 :: s) = (3, [43], 0) := by
  have h1 : wordLen (43 :: s) = 0 := by rw [wordLen, List.takeWhile_cons]; rfl
  have h2 : symLen (43 :: s) = 1 := by
    rw [symLen, if_neg (by simp), if_neg (by simp), if_pos (by simp [singles])]
  simp only [firstK, h1, h2, ↓reduceIte]; rfl
theorem firstK_word {r : List UInt8} (h : (110 :: r).all isWordB = true) : firstK (110 :: r) = if 16 < (110 :: r).length then (0, [], 6) else (1, 110 :: r, 0) := by
  rw [firstK, wordLen_all h, if_neg (by simp), if_neg (show ¬ (isDigB ((110 :: r).getD 0 0) = true) from (show ¬ (isDigB 110 = true) by decide)), List.take_length]
theorem names_scan {r : List UInt8} (h : (110 :: r).all isWordB = true) (hl : r.length ≤ 20) :
    scanS (43 :: 110 :: r) = if 16 < (110 :: r).length then ([], 6, 1) else ([⟨3, ⟨[43]⟩, 0⟩, ⟨1, ⟨110 :: r⟩, 1⟩], 0, 0) := by
  have e0 : spl false (43 :: 110 :: r) = 0 := rfl
  have e1 : spl false (110 :: r) = 0 := rfl
  rw [scanS, if_neg (by simp; omega), e0]
  rw [scanN, if_pos (by simp), List.drop_zero, firstK_plus, if_pos rfl]
  simp only [List.length_singleton, Nat.zero_add, List.drop_succ_cons, List.drop_zero, e1, Nat.add_zero]
  rw [show (43 :: 110 :: r).length = (r.length + 1) + 1 from rfl]
  rw [scanN, if_pos (by simp), show List.drop 1 (43 :: 110 :: r) = 110 :: r from rfl, firstK_word h]
  by_cases hc : 16 < (110 :: r).length
  · simp only [if_pos hc]; rfl
  · simp only [if_neg hc]
    have e3 : List.drop (1 + (110 :: r).length) (43 :: 110 :: r) = [] := List.drop_of_length_le (by simp; omega)
    rw [e3]
    rw [if_pos True.intro, show spl false [] = 0 from rfl, scanN, if_neg (by simp; omega)]
    rfl
theorem names_fin {s : List UInt8} (h1 : 0 < s.length ∧ s.length ≤ 21) (h : s.all isWordB = true) (h3 : s.getD 0 0 = 110) :
    scanS ([43] ++ s) = if 16 < s.length then ([], 6, 1) else ([⟨3, ⟨[43]⟩, 0⟩, ⟨1, ⟨s⟩, 1⟩], 0, 0) := by
  cases s with
  | nil => simp at h1
  | cons c r =>
    obtain rfl : c = 110 := h3
    exact names_scan h (by simpa using h1.2)

theorem pick_rng {n m : Int} (hm : 0 < m) : 0 ≤ pickV n m ∧ pickV n m < m := by
  have h1 : -m < n.tmod m := Int.lt_tmod_of_pos n hm
  have h2 : n.tmod m < m := Int.tmod_lt_of_pos n hm
  unfold pickV
  by_cases hc : n.tmod m < 0
  · simp only [decide_eq_true hc, cond_true]; omega
  · simp only [decide_eq_false hc, cond_false]; omega
theorem pc5 {k : Int} (h : 0 ≤ k ∧ k < 5) : ∃ c, (([⟨[97]⟩, ⟨[90]⟩, ⟨[95]⟩, ⟨[48]⟩, ⟨[57]⟩] : List Str).getD k.toNat default).b = [c] ∧ isWordB c = true := by
  have : k = 0 ∨ k = 1 ∨ k = 2 ∨ k = 3 ∨ k = 4 := by omega
  rcases this with rfl | rfl | rfl | rfl | rfl
  · exact ⟨97, rfl, rfl⟩
  · exact ⟨90, rfl, rfl⟩
  · exact ⟨95, rfl, rfl⟩
  · exact ⟨48, rfl, rfl⟩
  · exact ⟨57, rfl, rfl⟩
theorem head_app {s t : List UInt8} (h : 0 < s.length) : (s ++ t).getD 0 0 = s.getD 0 0 := by
  cases s with
  | nil => simp at h
  | cons c r => rfl

theorem names_c {a_l : Option Addr} {k_l : Nat} (l : List Int) {F : Fz} {H : Heap} {R : List Fp} (hs : HS (.of H []) F H [] R) (hl : SR F (.slice a_l l.length k_l) l) : C Try.prog 0 (KX 6) 11 [(.slice a_l l.length k_l)] H fun v H' => ∃ (r : Bool) (F' : Fz), Fz.le F F' ∧ HS (.of H []) F' H' [] R ∧ v = .bool r ∧ r = true := by
  refine c_enter Try.func11 rfl rfl ?_
  refine wk_seq ?_
  refine wk_region ?_
  refine wa (.bool false) rfl rfl rfl ?_
  refine wo_nil ?_
  refine wk_skip_seq ?_
  refine wk_seq ?_
  refine wk_region ?_
  refine wa (.string ⟨⟨[110]⟩⟩) rfl rfl rfl ?_
  refine wo_nil ?_
  refine wk_skip_seq ?_
  refine wk_seq ?_
  refine wk_seq ?_
  refine wk_region ?_
  refine wa (.int .i64 0) rfl rfl rfl ?_
  refine wo_nil ?_
  refine wk_skip_seq ?_
  refine wk_block ?_
  refine wk_loop_inv (fun (mm : Nat) f H' => ∃ (s : List UInt8) (i : Nat) (F' : Fz), Fz.le F F' ∧ HS (Base.of H []) F' H' [] R ∧ agrees f [(0, (.slice a_l l.length k_l)), (2, (.bool false)), (3, (.string ⟨⟨s⟩⟩)), (4, (.int .i64 (i : Int)))] ∧ mm = 20 - i ∧ (s.length = i + 1) ∧ (s.all isWordB = true) ∧ (s.getD 0 0 = 110) ∧ (i ≤ 20)) _ ⟨[110], 0, _, (Fz.le_refl _), hs, (agC rfl (agC rfl (agC rfl (agC rfl agN)))), rfl, (by rfl), (by rfl), (by rfl), (by first | assumption | omega | (simp at *; omega))⟩ ?_
  rintro mm1 f1 H1 ⟨s, i, F1, hF1, hs1, hf1, rfl, h1, h2, h3, h4⟩ ih1
  refine wk_canon _ hf1 (fun gg1 => ?_)
  clear hf1
  replace hl := hl.mono hF1
  refine wk_seq ?_
  refine wk_seq ?_
  refine wk_rcut 7 14 [] [(14, (.bool ((decide ((i : Int) < (l.length : Int))) && (decide ((i : Int) < 20)))))] (fun H' => H' = H1) ?_ ?_
  · skip
    refine wk_region ?_
    refine wm (.int .i64 (i : Int)) rfl rfl rfl ?_
    refine wm (.slice a_l l.length k_l) rfl rfl rfl ?_
    refine wo_val (v := (.int .i64 (l.length : Int))) (ap_lenV (α := Int) rfl rfl (SR.sv hl hs1)) rfl rfl ?_
    refine wo_val (v := (.bool (decide ((i : Int) < (l.length : Int))))) (ap_cmp rfl rfl rfl rfl) rfl rfl ?_
    refine wm (.bool (decide ((i : Int) < (l.length : Int)))) rfl rfl rfl ?_
    refine wo_gsT (v := (decide ((i : Int) < (l.length : Int)))) rfl rfl (fun g3 => ?_) (fun g3 => ?_)
    · have pg3 := g3
      try simp only [BS] at pg3
      refine wm (.int .i64 (i : Int)) rfl rfl rfl ?_
      refine wo_gt rfl g3 ?_
      refine wo_val (v := (.bool (decide ((i : Int) < 20)))) (ap_cmp rfl rfl rfl rfl) rfl rfl ?_
      refine wo_val (v := (.bool (decide ((i : Int) < 20)))) (ap_pickT rfl g3 rfl) rfl rfl ?_
      refine wo_nil ?_
      exact wk_skip_nil ⟨rfl, rfl, (Lu rfl (Lu rfl (Lu rfl (Lu rfl (Lu rfl (Lu rfl (Lu rfl (Lu rfl Lr)))))))), (agC (congrArg Value.bool (show (decide ((i : Int) < 20)) = ((decide ((i : Int) < (l.length : Int))) && (decide ((i : Int) < 20))) by first | rfl | simp only [↓g3, BT] | grind)) agN)⟩
    · have pg3 := g3
      try simp only [BS] at pg3
      refine wo_gf1 rfl g3 rfl ?_
      refine wo_val (v := (.bool false)) (ap_pickF rfl g3 rfl) rfl rfl ?_
      refine wo_nil ?_
      exact wk_skip_nil ⟨rfl, rfl, (Lu rfl (Lu rfl (Lu rfl (Lu rfl (Lu rfl (Lu rfl (Lu rfl (Lu rfl Lr)))))))), (agC (congrArg Value.bool (show false = ((decide ((i : Int) < (l.length : Int))) && (decide ((i : Int) < 20))) by first | rfl | simp only [↓g3, BT] | grind)) agN)⟩
  · skip
    rintro g2 H1 rfl
    refine wk_skip_seq ?_
    refine wk_cond (v := ((decide ((i : Int) < (l.length : Int))) && (decide ((i : Int) < 20)))) rfl rfl (fun c4b => ?_) (fun c4b => ?_)
    · have c4 := c4b
      try simp only [BS] at c4
      obtain ⟨c, hc, hw⟩ := pc5 (pick_rng (n := l.getD i 0) (m := 5) (by decide))
      refine wk_skip_seq ?_
      refine wk_seq ?_
      refine wk_block ?_
      refine wk_region ?_
      refine wm (.string ⟨⟨s⟩⟩) rfl rfl rfl ?_
      refine wo_rs (rs_lit (α := Str) (ps := [(0, (.string ⟨⟨[97]⟩⟩)), (1, (.string ⟨⟨[90]⟩⟩)), (2, (.string ⟨⟨[95]⟩⟩)), (3, (.string ⟨⟨[48]⟩⟩)), (4, (.string ⟨⟨[57]⟩⟩))]) (cells := [(.string ⟨⟨[97]⟩⟩), (.string ⟨⟨[90]⟩⟩), (.string ⟨⟨[95]⟩⟩), (.string ⟨⟨[48]⟩⟩), (.string ⟨⟨[57]⟩⟩)]) ([⟨[97]⟩, ⟨[90]⟩, ⟨[95]⟩, ⟨[48]⟩, ⟨[57]⟩] : List Str) hs1 rfl rfl rfl (by kernel_rfl) ⟨[(.string ⟨⟨[97]⟩⟩)], [(.string ⟨⟨[90]⟩⟩), (.string ⟨⟨[95]⟩⟩), (.string ⟨⟨[48]⟩⟩), (.string ⟨⟨[57]⟩⟩)], rfl, rfl, ⟨[(.string ⟨⟨[90]⟩⟩)], [(.string ⟨⟨[95]⟩⟩), (.string ⟨⟨[48]⟩⟩), (.string ⟨⟨[57]⟩⟩)], rfl, rfl, ⟨[(.string ⟨⟨[95]⟩⟩)], [(.string ⟨⟨[48]⟩⟩), (.string ⟨⟨[57]⟩⟩)], rfl, rfl, ⟨[(.string ⟨⟨[48]⟩⟩)], [(.string ⟨⟨[57]⟩⟩)], rfl, rfl, ⟨[(.string ⟨⟨[57]⟩⟩)], [], rfl, rfl, rfl⟩⟩⟩⟩⟩ rfl) rfl rfl ?_
      rintro _ H6 p5 ⟨a5, k5, rfl, ho5, hs6, _⟩
      have hs6 : HS (Base.of H []) F1 H6 [p5] R := hs6
      refine wm (.slice a_l l.length k_l) rfl rfl rfl ?_
      refine wm (.int .i64 (i : Int)) rfl rfl rfl ?_
      refine wo_val (v := (.pointer (some ⟨sB (.slice a_l l.length k_l), sO (.slice a_l l.length k_l) + i * Rp.sz Int, none⟩))) (ap_idxV (α := Int) (j := (i : Int)) rfl rfl rfl rfl (SR.sv hl hs6) (by first | omega | (rw [hc, List.length_singleton]; omega) | (simp only [List.length_append, List.length_cons, List.length_nil]; omega)) (by first | omega | (rw [hc, List.length_singleton]; omega) | (simp only [List.length_append, List.length_cons, List.length_nil]; omega))) rfl rfl ?_
      obtain ⟨cs7, hr7, hc7⟩ := Sv.at (SR.sv hl hs6) (getD_at (x := (0 : Int)) (show i < l.length from by first | omega | (rw [hc, List.length_singleton]; omega) | (simp only [List.length_append, List.length_cons, List.length_nil]; omega)))
      obtain ⟨rfl, g8_0⟩ := hr7
      refine wo_val (v := (.int .i64 (l.getD i 0))) (ap_ld1 (i := 0) rfl rfl hc7 rfl rfl) rfl rfl ?_
      refine wo_call (ap_call rfl rfl rfl) rfl rfl (l1.pick_c 6 (l.getD i 0) (5) _ (by first | omega | (rw [hc, List.length_singleton]; omega) | (simp only [List.length_append, List.length_cons, List.length_nil]; omega))) ?_
      rintro _ H6 ⟨r9, rfl, rfl, rfl, h9⟩
      refine wo_val (v := (.pointer (some ⟨sB (.slice a5 ([⟨[97]⟩, ⟨[90]⟩, ⟨[95]⟩, ⟨[48]⟩, ⟨[57]⟩] : List Str).length k5), sO (.slice a5 ([⟨[97]⟩, ⟨[90]⟩, ⟨[95]⟩, ⟨[48]⟩, ⟨[57]⟩] : List Str).length k5) + ((pickV (l.getD i 0) (5 : Int)).toNat) * Rp.sz Str, none⟩))) (ap_idxV (α := Str) (j := pickV (l.getD i 0) (5 : Int)) rfl rfl rfl rfl (OS.sv ho5 hs6 (i := 0) rfl) (by first | omega | (rw [hc, List.length_singleton]; omega) | (simp only [List.length_append, List.length_cons, List.length_nil]; omega)) (by first | omega | (rw [hc, List.length_singleton]; omega) | (simp only [List.length_append, List.length_cons, List.length_nil]; omega))) rfl rfl ?_
      obtain ⟨cs10, hr10, hc10⟩ := Sv.at (OS.sv ho5 hs6 (i := 0) rfl) (getD_at (x := default) (show (pickV (l.getD i 0) (5 : Int)).toNat < ([⟨[97]⟩, ⟨[90]⟩, ⟨[95]⟩, ⟨[48]⟩, ⟨[57]⟩] : List Str).length from by first | omega | (rw [hc, List.length_singleton]; omega) | (simp only [List.length_append, List.length_cons, List.length_nil]; omega)))
      obtain rfl := hr10
      refine wo_val (v := (.string ⟨⟨(([⟨[97]⟩, ⟨[90]⟩, ⟨[95]⟩, ⟨[48]⟩, ⟨[57]⟩] : List Str).getD ((pickV (l.getD i 0) (5 : Int)).toNat) default).b⟩⟩)) (ap_ld1 (i := 0) rfl rfl hc10 rfl rfl) rfl rfl ?_
      refine wo_val (v := (.string ⟨⟨s ++ ((([⟨[97]⟩, ⟨[90]⟩, ⟨[95]⟩, ⟨[48]⟩, ⟨[57]⟩] : List Str).getD ((pickV (l.getD i 0) (5 : Int)).toNat) default).b)⟩⟩)) (ap_addS rfl rfl (by first | omega | (rw [hc, List.length_singleton]; omega) | (simp only [List.length_append, List.length_cons, List.length_nil]; omega))) rfl rfl ?_
      refine wa (.string ⟨⟨s ++ ((([⟨[97]⟩, ⟨[90]⟩, ⟨[95]⟩, ⟨[48]⟩, ⟨[57]⟩] : List Str).getD ((pickV (l.getD i 0) (5 : Int)).toNat) default).b)⟩⟩) rfl rfl rfl ?_
      refine wo_nil ?_
      refine wk_skip_block ?_
      refine wk_skip_seq ?_
      refine wk_region ?_
      refine wm (.int .i64 (i : Int)) rfl rfl rfl ?_
      refine wo_val (v := (.int .i64 ((i : Int) + 1))) (ap_add rfl rfl (w_i64 (n := (i : Int) + 1) (by first | omega | (rw [hc, List.length_singleton]; omega) | (simp only [List.length_append, List.length_cons, List.length_nil]; omega)))) rfl rfl ?_
      refine wa (.int .i64 ((i : Int) + 1)) rfl rfl rfl ?_
      refine wo_nil ?_
      refine wk_skip_seq ?_
      refine ih1 _ _ _ ?_ ⟨s ++ ((([⟨[97]⟩, ⟨[90]⟩, ⟨[95]⟩, ⟨[48]⟩, ⟨[57]⟩] : List Str).getD ((pickV (l.getD i 0) (5 : Int)).toNat) default).b), i + 1, _, (Fz.le_trans hF1 (Fz.le_refl _)), (HS.sub hs6 (List.sublist_append_left _ _)), (agC rfl (agC rfl (agC rfl (agC rfl agN)))), rfl, (by rw [hc, List.length_append, List.length_singleton]; omega), (by rw [hc, List.all_append, h2]; simp [hw]), (by rw [head_app (by omega)]; exact h3), (by first | assumption | omega | (simp at *; omega))⟩
      omega
    · have c4 := c4b
      try simp only [BS] at c4
      refine wk_exit_seq ?_
      refine wk_exit_seq ?_
      refine wk_exit_block ?_
      refine wk_skip_seq ?_
      refine wk_seq ?_
      refine wk_region ?_
      refine wm (.string ⟨⟨s⟩⟩) rfl rfl rfl ?_
      refine wo_val (v := (.string ⟨⟨[43] ++ s⟩⟩)) (ap_addS rfl rfl (by first | omega | (rw [hc, List.length_singleton]; omega) | (simp only [List.length_append, List.length_cons, List.length_nil]; omega))) rfl rfl ?_
      refine wo_call (ap_call rfl rfl rfl) rfl rfl (l1.scan_c 6 ([43] ++ s) (HS.call hs1) (by first | omega | (rw [hc, List.length_singleton]; omega) | (simp only [List.length_append, List.length_cons, List.length_nil]; omega))) ?_
      rintro _ H12 ⟨al12, kl12, l12, p12, e12, F12, hF12, hs12, rfl, hrl12, hge12_0, hge12_1, rfl, rfl⟩
      replace hs12 := HS.back hs1 rfl hs12
      have hs12 : HS (Base.of H []) F12 H12 [p12] R := hs12
      replace hl := hl.mono hF12
      refine wm (.tuple ⟨[(.slice al12 ((scanS ([43] ++ s)).1).length kl12), (.agg ⟨[(.int .i64 ((ErrT.mk (scanS ([43] ++ s)).2.1 (scanS ([43] ++ s)).2.2).why)), (.int .i64 ((ErrT.mk (scanS ([43] ++ s)).2.1 (scanS ([43] ++ s)).2.2).at_))]⟩)]⟩) rfl rfl rfl ?_
      refine wo_val (v := (.slice al12 ((scanS ([43] ++ s)).1).length kl12)) (ap_ex rfl rfl) rfl rfl ?_
      refine wo_val (v := (.agg ⟨[(.int .i64 ((ErrT.mk (scanS ([43] ++ s)).2.1 (scanS ([43] ++ s)).2.2).why)), (.int .i64 ((ErrT.mk (scanS ([43] ++ s)).2.1 (scanS ([43] ++ s)).2.2).at_))]⟩)) (ap_ex rfl rfl) rfl rfl ?_
      refine wo_rs (rs_new hs12 rfl) rfl rfl ?_
      rintro _ H14 _ ⟨b13, rfl, hs14, _⟩
      have hs14 : HS (Base.of H []) F12 H14 [p12, [(b13, .cells [(.int .i64 0), (.int .i64 0)] none false)]] R := hs14
      refine wa (.slice al12 ((scanS ([43] ++ s)).1).length kl12) rfl rfl rfl ?_
      refine wo_rk (rs_rec (q := 1) hs14 rfl rfl rfl rfl rfl rfl rfl rfl rfl) rfl ?_
      rintro _ H15 _ ⟨hs15, _⟩
      have hs15 : HS (Base.of H []) F12 H15 [p12, [(b13, .cells [(.int .i64 ((ErrT.mk (scanS ([43] ++ s)).2.1 (scanS ([43] ++ s)).2.2).why)), (.int .i64 ((ErrT.mk (scanS ([43] ++ s)).2.1 (scanS ([43] ++ s)).2.2).at_))] none false)]] R := hs15
      refine wo_nil ?_
      refine wk_skip_seq ?_
      refine wk_seq ?_
      refine wk_seq ?_
      refine wk_region ?_
      refine wm (.string ⟨⟨s⟩⟩) rfl rfl rfl ?_
      refine wo_val (v := (.int .i64 (s.length : Int))) (ap_lenS rfl rfl) rfl rfl ?_
      refine wo_val (v := (.bool (decide ((16 : Int) < (s.length : Int))))) (ap_cmp rfl rfl rfl rfl) rfl rfl ?_
      refine wo_nil ?_
      refine wk_skip_seq ?_
      refine wk_cond (v := (decide ((16 : Int) < (s.length : Int)))) rfl rfl (fun c16b => ?_) (fun c16b => ?_)
      · have c16 := c16b
        try simp only [BS] at c16
        refine wk_seq ?_
        refine wk_rcut 2 46 [] [(2, (.bool (((((ErrT.mk (scanS ([43] ++ s)).2.1 (scanS ([43] ++ s)).2.2).why) == 6) && ((((ErrT.mk (scanS ([43] ++ s)).2.1 (scanS ([43] ++ s)).2.2).at_) == 1) && true)) && ((((scanS ([43] ++ s)).1).length : Int) == 0))))] (fun H' => H' = H15) ?_ ?_
        · skip
          refine wk_region ?_
          refine wo_val (v := (.agg ⟨[(.int .i64 ((ErrT.mk (scanS ([43] ++ s)).2.1 (scanS ([43] ++ s)).2.2).why)), (.int .i64 ((ErrT.mk (scanS ([43] ++ s)).2.1 (scanS ([43] ++ s)).2.2).at_))]⟩)) (ap_ldN (i := 0) rfl rfl rfl (HS.hc hs15 (i := 1) rfl) rfl rfl rfl) rfl rfl ?_
          refine wo_val (v := (.agg ⟨[(.int .i64 6), (.int .i64 1)]⟩)) (ap_bld rfl rfl (by kernel_rfl)) rfl rfl ?_
          refine wo_val (v := (.bool ((((ErrT.mk (scanS ([43] ++ s)).2.1 (scanS ([43] ++ s)).2.2).why) == 6) && ((((ErrT.mk (scanS ([43] ++ s)).2.1 (scanS ([43] ++ s)).2.2).at_) == 1) && true)))) (ap_agEq (bs := [(((ErrT.mk (scanS ([43] ++ s)).2.1 (scanS ([43] ++ s)).2.2).why) == 6), (((ErrT.mk (scanS ([43] ++ s)).2.1 (scanS ([43] ++ s)).2.2).at_) == 1)]) rfl rfl rfl rfl rfl (by kernel_rfl) (by kernel_rfl) (.cons ⟨by decide, _, _, rfl, rfl, eqI rfl⟩ (.cons ⟨by decide, _, _, rfl, rfl, eqI rfl⟩ .nil))) rfl rfl ?_
          refine wm (.bool ((((ErrT.mk (scanS ([43] ++ s)).2.1 (scanS ([43] ++ s)).2.2).why) == 6) && ((((ErrT.mk (scanS ([43] ++ s)).2.1 (scanS ([43] ++ s)).2.2).at_) == 1) && true))) rfl rfl rfl ?_
          refine wo_gsT (v := ((((ErrT.mk (scanS ([43] ++ s)).2.1 (scanS ([43] ++ s)).2.2).why) == 6) && ((((ErrT.mk (scanS ([43] ++ s)).2.1 (scanS ([43] ++ s)).2.2).at_) == 1) && true))) rfl rfl (fun g19 => ?_) (fun g19 => ?_)
          · have pg19 := g19
            try simp only [BS] at pg19
            refine wm (.slice al12 ((scanS ([43] ++ s)).1).length kl12) rfl rfl rfl ?_
            refine wo_gt rfl g19 ?_
            refine wo_val (v := (.int .i64 (((scanS ([43] ++ s)).1).length : Int))) (ap_lenV (α := Token) rfl rfl (OS.sv hrl12 hs15 (i := 0) rfl)) rfl rfl ?_
            refine wo_gt rfl g19 ?_
            refine wo_val (v := (.bool ((((scanS ([43] ++ s)).1).length : Int) == 0))) (ap_cmp rfl rfl rfl rfl) rfl rfl ?_
            refine wo_val (v := (.bool ((((scanS ([43] ++ s)).1).length : Int) == 0))) (ap_pickT rfl g19 rfl) rfl rfl ?_
            refine wm (.bool ((((scanS ([43] ++ s)).1).length : Int) == 0)) rfl rfl rfl ?_
            refine wo_gsT (v := ((((scanS ([43] ++ s)).1).length : Int) == 0)) rfl rfl (fun g20 => ?_) (fun g20 => ?_)
            · have pg20 := g20
              try simp only [BS] at pg20
              refine wo_call (ap_call rfl rfl rfl) rfl rfl (ex_c 6 _) ?_
              rintro _ H15 ⟨r21, rfl, rfl, rfl⟩
              refine wo_val (v := (.bool true)) (ap_pickT rfl g20 rfl) rfl rfl ?_
              refine wa (.bool true) rfl rfl rfl ?_
              refine wo_nil ?_
              exact wk_skip_nil ⟨rfl, rfl, (Lu rfl (Lu rfl (Lu rfl (Lu rfl (Lu rfl (Lu rfl (Lu rfl (Lu rfl (Lu rfl (Lu rfl (Lu rfl (Lu rfl Lr)))))))))))), (agC (congrArg Value.bool (show true = (((((ErrT.mk (scanS ([43] ++ s)).2.1 (scanS ([43] ++ s)).2.2).why) == 6) && ((((ErrT.mk (scanS ([43] ++ s)).2.1 (scanS ([43] ++ s)).2.2).at_) == 1) && true)) && ((((scanS ([43] ++ s)).1).length : Int) == 0)) by first | rfl | simp only [↓g19, ↓g20, BT] | grind)) agN)⟩
            · have pg20 := g20
              try simp only [BS] at pg20
              refine wo_val (v := (.bool false)) (ap_pickF rfl g20 rfl) rfl rfl ?_
              refine wa (.bool false) rfl rfl rfl ?_
              refine wo_nil ?_
              exact wk_skip_nil ⟨rfl, rfl, (Lu rfl (Lu rfl (Lu rfl (Lu rfl (Lu rfl (Lu rfl (Lu rfl (Lu rfl (Lu rfl (Lu rfl (Lu rfl (Lu rfl Lr)))))))))))), (agC (congrArg Value.bool (show false = (((((ErrT.mk (scanS ([43] ++ s)).2.1 (scanS ([43] ++ s)).2.2).why) == 6) && ((((ErrT.mk (scanS ([43] ++ s)).2.1 (scanS ([43] ++ s)).2.2).at_) == 1) && true)) && ((((scanS ([43] ++ s)).1).length : Int) == 0)) by first | rfl | simp only [↓g19, ↓g20, BT] | grind)) agN)⟩
          · have pg19 := g19
            try simp only [BS] at pg19
            refine wo_gf1 rfl g19 rfl ?_
            refine wo_gf1 rfl g19 rfl ?_
            refine wo_val (v := (.bool false)) (ap_pickF rfl g19 rfl) rfl rfl ?_
            refine wm (.bool false) rfl rfl rfl ?_
            refine wo_gf1 rfl rfl rfl ?_
            refine wo_val (v := (.bool false)) (ap_pickF rfl rfl rfl) rfl rfl ?_
            refine wa (.bool false) rfl rfl rfl ?_
            refine wo_nil ?_
            exact wk_skip_nil ⟨rfl, rfl, (Lu rfl (Lu rfl (Lu rfl (Lu rfl (Lu rfl (Lu rfl (Lu rfl (Lu rfl (Lu rfl (Lu rfl (Lu rfl (Lu rfl Lr)))))))))))), (agC (congrArg Value.bool (show false = (((((ErrT.mk (scanS ([43] ++ s)).2.1 (scanS ([43] ++ s)).2.2).why) == 6) && ((((ErrT.mk (scanS ([43] ++ s)).2.1 (scanS ([43] ++ s)).2.2).at_) == 1) && true)) && ((((scanS ([43] ++ s)).1).length : Int) == 0)) by first | rfl | simp only [↓g19, BT] | grind)) agN)⟩
        · skip
          rintro g18 H15 rfl
          refine wk_skip_seq ?_
          refine wk_ret ⟨.inr rfl, _, rfl, (((((ErrT.mk (scanS ([43] ++ s)).2.1 (scanS ([43] ++ s)).2.2).why) == 6) && ((((ErrT.mk (scanS ([43] ++ s)).2.1 (scanS ([43] ++ s)).2.2).at_) == 1) && true)) && ((((scanS ([43] ++ s)).1).length : Int) == 0)), _, (Fz.le_trans (hF1) hF12), (HS.forget hs15), rfl, (by rw [names_fin (by omega) h2 h3]; first | rw [if_pos (by omega)]; rfl | (rw [if_neg (by omega)]; simp))⟩
      · have c16 := c16b
        try simp only [BS] at c16
        refine wk_skip_seq ?_
        refine wk_seq ?_
        refine wk_rcut 2 65 [] [(2, (.bool ((((((ErrT.mk (scanS ([43] ++ s)).2.1 (scanS ([43] ++ s)).2.2).why) == 0) && ((((ErrT.mk (scanS ([43] ++ s)).2.1 (scanS ([43] ++ s)).2.2).at_) == 0) && true)) && ((((scanS ([43] ++ s)).1).length : Int) == 2)) && ((((((scanS ([43] ++ s)).1).getD 1 default).kind) == 1) && ((((((scanS ([43] ++ s)).1).getD 1 default).text.b) == s) && ((((((scanS ([43] ++ s)).1).getD 1 default).at_) == 1) && true))))))] (fun H' => H' = H15) ?_ ?_
        · skip
          refine wk_region ?_
          refine wo_val (v := (.agg ⟨[(.int .i64 ((ErrT.mk (scanS ([43] ++ s)).2.1 (scanS ([43] ++ s)).2.2).why)), (.int .i64 ((ErrT.mk (scanS ([43] ++ s)).2.1 (scanS ([43] ++ s)).2.2).at_))]⟩)) (ap_ldN (i := 0) rfl rfl rfl (HS.hc hs15 (i := 1) rfl) rfl rfl rfl) rfl rfl ?_
          refine wo_val (v := (.agg ⟨[(.int .i64 0), (.int .i64 0)]⟩)) (ap_bld rfl rfl (by kernel_rfl)) rfl rfl ?_
          refine wo_val (v := (.bool ((((ErrT.mk (scanS ([43] ++ s)).2.1 (scanS ([43] ++ s)).2.2).why) == 0) && ((((ErrT.mk (scanS ([43] ++ s)).2.1 (scanS ([43] ++ s)).2.2).at_) == 0) && true)))) (ap_agEq (bs := [(((ErrT.mk (scanS ([43] ++ s)).2.1 (scanS ([43] ++ s)).2.2).why) == 0), (((ErrT.mk (scanS ([43] ++ s)).2.1 (scanS ([43] ++ s)).2.2).at_) == 0)]) rfl rfl rfl rfl rfl (by kernel_rfl) (by kernel_rfl) (.cons ⟨by decide, _, _, rfl, rfl, eqI rfl⟩ (.cons ⟨by decide, _, _, rfl, rfl, eqI rfl⟩ .nil))) rfl rfl ?_
          refine wm (.bool ((((ErrT.mk (scanS ([43] ++ s)).2.1 (scanS ([43] ++ s)).2.2).why) == 0) && ((((ErrT.mk (scanS ([43] ++ s)).2.1 (scanS ([43] ++ s)).2.2).at_) == 0) && true))) rfl rfl rfl ?_
          refine wo_gsT (v := ((((ErrT.mk (scanS ([43] ++ s)).2.1 (scanS ([43] ++ s)).2.2).why) == 0) && ((((ErrT.mk (scanS ([43] ++ s)).2.1 (scanS ([43] ++ s)).2.2).at_) == 0) && true))) rfl rfl (fun g26 => ?_) (fun g26 => ?_)
          · have pg26 := g26
            try simp only [BS] at pg26
            refine wm (.slice al12 ((scanS ([43] ++ s)).1).length kl12) rfl rfl rfl ?_
            refine wo_gt rfl g26 ?_
            refine wo_val (v := (.int .i64 (((scanS ([43] ++ s)).1).length : Int))) (ap_lenV (α := Token) rfl rfl (OS.sv hrl12 hs15 (i := 0) rfl)) rfl rfl ?_
            refine wo_gt rfl g26 ?_
            refine wo_val (v := (.bool ((((scanS ([43] ++ s)).1).length : Int) == 2))) (ap_cmp rfl rfl rfl rfl) rfl rfl ?_
            refine wo_val (v := (.bool ((((scanS ([43] ++ s)).1).length : Int) == 2))) (ap_pickT rfl g26 rfl) rfl rfl ?_
            refine wm (.bool ((((scanS ([43] ++ s)).1).length : Int) == 2)) rfl rfl rfl ?_
            refine wo_gsT (v := ((((scanS ([43] ++ s)).1).length : Int) == 2)) rfl rfl (fun g27 => ?_) (fun g27 => ?_)
            · have pg27 := g27
              try simp only [BS] at pg27
              refine wm (.slice al12 ((scanS ([43] ++ s)).1).length kl12) rfl rfl rfl ?_
              refine wo_gt rfl g27 ?_
              refine wo_val (v := (.pointer (some ⟨sB (.slice al12 ((scanS ([43] ++ s)).1).length kl12), sO (.slice al12 ((scanS ([43] ++ s)).1).length kl12) + 1 * Rp.sz Token, none⟩))) (ap_idxV (α := Token) (j := 1) rfl rfl rfl rfl (OS.sv hrl12 hs15 (i := 0) rfl) (by decide) (by first | omega | (rw [hc, List.length_singleton]; omega) | (simp only [List.length_append, List.length_cons, List.length_nil]; omega))) rfl rfl ?_
              refine wo_gt rfl g27 ?_
              obtain ⟨cs28, hr28, hc28⟩ := Sv.at (OS.sv hrl12 hs15 (i := 0) rfl) (getD_at (x := default) (show 1 < ((scanS ([43] ++ s)).1).length from by first | omega | (rw [hc, List.length_singleton]; omega) | (simp only [List.length_append, List.length_cons, List.length_nil]; omega)))
              obtain ⟨rfl, g29_0, g29_2⟩ := hr28
              refine wo_val (v := (.agg ⟨[(.int .i64 ((((scanS ([43] ++ s)).1).getD 1 default).kind)), (.string ⟨⟨(((scanS ([43] ++ s)).1).getD 1 default).text.b⟩⟩), (.int .i64 ((((scanS ([43] ++ s)).1).getD 1 default).at_))]⟩)) (ap_ldN (i := 0) rfl rfl rfl hc28 rfl rfl rfl) rfl rfl ?_
              refine wo_gt rfl g27 ?_
              refine wm (.string ⟨⟨s⟩⟩) rfl rfl rfl ?_
              refine wo_gt rfl g27 ?_
              refine wo_val (v := (.agg ⟨[(.int .i64 1), (.string ⟨⟨s⟩⟩), (.int .i64 1)]⟩)) (ap_bld rfl rfl (by kernel_rfl)) rfl rfl ?_
              refine wo_gt rfl g27 ?_
              refine wo_val (v := (.bool ((((((scanS ([43] ++ s)).1).getD 1 default).kind) == 1) && ((((((scanS ([43] ++ s)).1).getD 1 default).text.b) == s) && ((((((scanS ([43] ++ s)).1).getD 1 default).at_) == 1) && true))))) (ap_agEq (bs := [(((((scanS ([43] ++ s)).1).getD 1 default).kind) == 1), (((((scanS ([43] ++ s)).1).getD 1 default).text.b) == s), (((((scanS ([43] ++ s)).1).getD 1 default).at_) == 1)]) rfl rfl rfl rfl rfl (by kernel_rfl) (by kernel_rfl) (.cons ⟨by decide, _, _, rfl, rfl, eqI rfl⟩ (.cons ⟨by decide, _, _, rfl, rfl, eqL rfl⟩ (.cons ⟨by decide, _, _, rfl, rfl, eqI rfl⟩ .nil)))) rfl rfl ?_
              refine wo_val (v := (.bool ((((((scanS ([43] ++ s)).1).getD 1 default).kind) == 1) && ((((((scanS ([43] ++ s)).1).getD 1 default).text.b) == s) && ((((((scanS ([43] ++ s)).1).getD 1 default).at_) == 1) && true))))) (ap_pickT rfl g27 rfl) rfl rfl ?_
              refine wm (.bool ((((((scanS ([43] ++ s)).1).getD 1 default).kind) == 1) && ((((((scanS ([43] ++ s)).1).getD 1 default).text.b) == s) && ((((((scanS ([43] ++ s)).1).getD 1 default).at_) == 1) && true)))) rfl rfl rfl ?_
              refine wo_gsT (v := ((((((scanS ([43] ++ s)).1).getD 1 default).kind) == 1) && ((((((scanS ([43] ++ s)).1).getD 1 default).text.b) == s) && ((((((scanS ([43] ++ s)).1).getD 1 default).at_) == 1) && true)))) rfl rfl (fun g30 => ?_) (fun g30 => ?_)
              · have pg30 := g30
                try simp only [BS] at pg30
                refine wo_call (ap_call rfl rfl rfl) rfl rfl (ex_c 6 _) ?_
                rintro _ H15 ⟨r31, rfl, rfl, rfl⟩
                refine wo_val (v := (.bool true)) (ap_pickT rfl g30 rfl) rfl rfl ?_
                refine wa (.bool true) rfl rfl rfl ?_
                refine wo_nil ?_
                exact wk_skip_nil ⟨rfl, rfl, (Lu rfl (Lu rfl (Lu rfl (Lu rfl (Lu rfl (Lu rfl (Lu rfl (Lu rfl (Lu rfl (Lu rfl (Lu rfl (Lu rfl (Lu rfl (Lu rfl (Lu rfl (Lu rfl (Lu rfl (Lu rfl (Lu rfl (Lu rfl Lr)))))))))))))))))))), (agC (congrArg Value.bool (show true = ((((((ErrT.mk (scanS ([43] ++ s)).2.1 (scanS ([43] ++ s)).2.2).why) == 0) && ((((ErrT.mk (scanS ([43] ++ s)).2.1 (scanS ([43] ++ s)).2.2).at_) == 0) && true)) && ((((scanS ([43] ++ s)).1).length : Int) == 2)) && ((((((scanS ([43] ++ s)).1).getD 1 default).kind) == 1) && ((((((scanS ([43] ++ s)).1).getD 1 default).text.b) == s) && ((((((scanS ([43] ++ s)).1).getD 1 default).at_) == 1) && true)))) by first | rfl | simp only [↓g26, ↓g27, ↓g30, BT] | grind)) agN)⟩
              · have pg30 := g30
                try simp only [BS] at pg30
                refine wo_val (v := (.bool false)) (ap_pickF rfl g30 rfl) rfl rfl ?_
                refine wa (.bool false) rfl rfl rfl ?_
                refine wo_nil ?_
                exact wk_skip_nil ⟨rfl, rfl, (Lu rfl (Lu rfl (Lu rfl (Lu rfl (Lu rfl (Lu rfl (Lu rfl (Lu rfl (Lu rfl (Lu rfl (Lu rfl (Lu rfl (Lu rfl (Lu rfl (Lu rfl (Lu rfl (Lu rfl (Lu rfl (Lu rfl (Lu rfl Lr)))))))))))))))))))), (agC (congrArg Value.bool (show false = ((((((ErrT.mk (scanS ([43] ++ s)).2.1 (scanS ([43] ++ s)).2.2).why) == 0) && ((((ErrT.mk (scanS ([43] ++ s)).2.1 (scanS ([43] ++ s)).2.2).at_) == 0) && true)) && ((((scanS ([43] ++ s)).1).length : Int) == 2)) && ((((((scanS ([43] ++ s)).1).getD 1 default).kind) == 1) && ((((((scanS ([43] ++ s)).1).getD 1 default).text.b) == s) && ((((((scanS ([43] ++ s)).1).getD 1 default).at_) == 1) && true)))) by first | rfl | simp only [↓g26, ↓g27, ↓g30, BT] | grind)) agN)⟩
            · have pg27 := g27
              try simp only [BS] at pg27
              refine wo_gf1 rfl g27 rfl ?_
              refine wo_gf1 rfl g27 rfl ?_
              refine wo_gf1 rfl g27 rfl ?_
              refine wo_gf1 rfl g27 rfl ?_
              refine wo_gf1 rfl g27 rfl ?_
              refine wo_val (v := (.bool false)) (ap_pickF rfl g27 rfl) rfl rfl ?_
              refine wm (.bool false) rfl rfl rfl ?_
              refine wo_gf1 rfl rfl rfl ?_
              refine wo_val (v := (.bool false)) (ap_pickF rfl rfl rfl) rfl rfl ?_
              refine wa (.bool false) rfl rfl rfl ?_
              refine wo_nil ?_
              exact wk_skip_nil ⟨rfl, rfl, (Lu rfl (Lu rfl (Lu rfl (Lu rfl (Lu rfl (Lu rfl (Lu rfl (Lu rfl (Lu rfl (Lu rfl (Lu rfl (Lu rfl (Lu rfl (Lu rfl (Lu rfl (Lu rfl (Lu rfl (Lu rfl (Lu rfl (Lu rfl Lr)))))))))))))))))))), (agC (congrArg Value.bool (show false = ((((((ErrT.mk (scanS ([43] ++ s)).2.1 (scanS ([43] ++ s)).2.2).why) == 0) && ((((ErrT.mk (scanS ([43] ++ s)).2.1 (scanS ([43] ++ s)).2.2).at_) == 0) && true)) && ((((scanS ([43] ++ s)).1).length : Int) == 2)) && ((((((scanS ([43] ++ s)).1).getD 1 default).kind) == 1) && ((((((scanS ([43] ++ s)).1).getD 1 default).text.b) == s) && ((((((scanS ([43] ++ s)).1).getD 1 default).at_) == 1) && true)))) by first | rfl | simp only [↓g26, ↓g27, BT] | grind)) agN)⟩
          · have pg26 := g26
            try simp only [BS] at pg26
            refine wo_gf1 rfl g26 rfl ?_
            refine wo_gf1 rfl g26 rfl ?_
            refine wo_val (v := (.bool false)) (ap_pickF rfl g26 rfl) rfl rfl ?_
            refine wm (.bool false) rfl rfl rfl ?_
            refine wo_gf1 rfl rfl rfl ?_
            refine wo_gf1 rfl rfl rfl ?_
            refine wo_gf1 rfl rfl rfl ?_
            refine wo_gf1 rfl rfl rfl ?_
            refine wo_gf1 rfl rfl rfl ?_
            refine wo_gf1 rfl rfl rfl ?_
            refine wo_val (v := (.bool false)) (ap_pickF rfl rfl rfl) rfl rfl ?_
            refine wm (.bool false) rfl rfl rfl ?_
            refine wo_gf1 rfl rfl rfl ?_
            refine wo_val (v := (.bool false)) (ap_pickF rfl rfl rfl) rfl rfl ?_
            refine wa (.bool false) rfl rfl rfl ?_
            refine wo_nil ?_
            exact wk_skip_nil ⟨rfl, rfl, (Lu rfl (Lu rfl (Lu rfl (Lu rfl (Lu rfl (Lu rfl (Lu rfl (Lu rfl (Lu rfl (Lu rfl (Lu rfl (Lu rfl (Lu rfl (Lu rfl (Lu rfl (Lu rfl (Lu rfl (Lu rfl (Lu rfl (Lu rfl Lr)))))))))))))))))))), (agC (congrArg Value.bool (show false = ((((((ErrT.mk (scanS ([43] ++ s)).2.1 (scanS ([43] ++ s)).2.2).why) == 0) && ((((ErrT.mk (scanS ([43] ++ s)).2.1 (scanS ([43] ++ s)).2.2).at_) == 0) && true)) && ((((scanS ([43] ++ s)).1).length : Int) == 2)) && ((((((scanS ([43] ++ s)).1).getD 1 default).kind) == 1) && ((((((scanS ([43] ++ s)).1).getD 1 default).text.b) == s) && ((((((scanS ([43] ++ s)).1).getD 1 default).at_) == 1) && true)))) by first | rfl | simp only [↓g26, BT] | grind)) agN)⟩
        · skip
          rintro g25 H15 rfl
          refine wk_skip_seq ?_
          refine wk_ret ⟨.inr rfl, _, rfl, ((((((ErrT.mk (scanS ([43] ++ s)).2.1 (scanS ([43] ++ s)).2.2).why) == 0) && ((((ErrT.mk (scanS ([43] ++ s)).2.1 (scanS ([43] ++ s)).2.2).at_) == 0) && true)) && ((((scanS ([43] ++ s)).1).length : Int) == 2)) && ((((((scanS ([43] ++ s)).1).getD 1 default).kind) == 1) && ((((((scanS ([43] ++ s)).1).getD 1 default).text.b) == s) && ((((((scanS ([43] ++ s)).1).getD 1 default).at_) == 1) && true)))), _, (Fz.le_trans (hF1) hF12), (HS.forget hs15), rfl, (by rw [names_fin (by omega) h2 h3]; first | rw [if_pos (by omega)]; rfl | (rw [if_neg (by omega)]; simp))⟩
end Go.Proofs.Ytcakpkdeojhacaa.l2
