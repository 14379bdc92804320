/-
 What is known beforehand: the law of the examples, blanks, the first token, operators. No condition.
-/
import Derived.Test.YtgjpflldlegmjaaZPL1
import Derived.Test.YtgjpflldlegmjaaZPP1
noncomputable section
namespace Go.Proofs.Ytgjpflldlegmjaa.pk
open Go.R l1 p1
set_option maxRecDepth 10000
set_option linter.unusedVariables false
noncomputable def KL : Known := fun f args H => match args with
 | [.string ⟨⟨s⟩⟩] =>
  bif Nat.blt s.length 1000 then
   bif Nat.beq f 35 then some (.int .i64 (spl false s : Nat))
   else bif Nat.beq f 88 then some (.tuple ⟨[.int .i64 (opV s).1, .int .i64 (opV s).2.1, .bool (opV s).2.2]⟩)
   else bif Nat.beq f 36 && Nat.blt 0 s.length then some (.tuple ⟨[.agg ⟨[.int .i64 (firstK s).1, .string ⟨⟨(firstK s).2.1⟩⟩, .int .i64 0]⟩, .int .i64 (firstK s).2.2]⟩)
   else none
  else none
 | _ => KX 3 f args H
theorem kl_ok (hx : ∀ w, Calls Try.prog 3 #[] w fun e w' => e = .returned (.bool true) ∧ Go.RowKit.Below w.heap.size w w') : KnownOK Try.prog 0 KL := by
 have E := kx_ok hx
 intro f args H v hk
 unfold KL at hk
 split at hk
 ·
  rename_i s
  cases hl : Nat.blt s.length 1000 with
  | false => rw [hl] at hk; cases hk
  | true =>
   have hl' : s.length < 1000 := by simpa [Nat.blt_eq] using hl
   rw [hl] at hk
   simp only [cond_true] at hk
   cases I : Nat.beq f 35 with
   | true =>
    obtain rfl := Nat.eq_of_beq_eq_true I
    simp only [Nat.beq_refl, cond_true, Option.some.injEq] at hk
    subst hk
    refine ⟨rfl, rfl, fun μ cargs w hc _ _ => ?_⟩
    obtain ⟨n, v, H', z, r, rfl, rfl, rfl⟩ := (spaceLen_c 3 s Heap.empty (by omega)).out
    exact calls_of_eval E rfl rfl z cargs w hc
   | false =>
    rw [I] at hk
    simp only [cond_false] at hk
    cases J : Nat.beq f 88 with
    | true =>
     obtain rfl := Nat.eq_of_beq_eq_true J
     simp only [Nat.beq_refl, cond_true, Option.some.injEq] at hk
     subst hk
     refine ⟨rfl, rfl, fun μ cargs w hc _ _ => ?_⟩
     obtain ⟨n, v, H', z, rfl, rfl⟩ := (oper_c_q 3 s Heap.empty).out
     exact calls_of_eval E rfl rfl z cargs w hc
    | false =>
     rw [J] at hk
     simp only [cond_false] at hk
     cases A : Nat.beq f 36 && Nat.blt 0 s.length with
     | false => rw [A] at hk; cases hk
     | true =>
      rw [A] at hk
      simp only [cond_true, Option.some.injEq] at hk
      subst hk
      rw [Bool.and_eq_true] at A
      obtain rfl := Nat.eq_of_beq_eq_true A.1
      have N : 0 < s.length := by simpa [Nat.blt_eq] using A.2
      refine ⟨rfl, rfl, fun μ cargs w hc _ _ => ?_⟩
      obtain ⟨n, v, H', z, t, e, F', _, _, rfl, _, _, rfl, rfl⟩ := (first_c 3 s HS.empty N (by omega)).out
      exact calls_of_eval E rfl rfl z cargs w hc
 ·
  exact E f args H v hk
theorem pick_k (n : Int) (m : Int) (H : Heap) (hm : 0 < m ∧ m < 9223372036854775808) : C Try.prog 0 KL 11 [(iI n), (iI m)] H fun v H' => ∃ (r : Int), H' = H ∧ v = .int .i64 r ∧ r = p1.pickV n m := by
 have A : -m < n.tmod m := Int.lt_tmod_of_pos n hm.1
 have E : n.tmod m < m := Int.tmod_lt_of_pos n hm.1
 refine c_enter Try.func11 rfl rfl ?_
 refine wk_foc 1 rfl ?_
 refine wR 2 [] 4 4 [] [(4, (iI 0))] trivial rfl fun _ => ?_
 refine wR 3 [] 5 7 [0] [(0, (iI (Int.tmod n m)))] (vA (show m ≠ 0 from by omega) trivial) rfl fun _ => ?_
 refine wR 1 [] 8 9 [] [(9, (.bool (decide (Int.tmod n m < 0))))] trivial rfl fun _ => ?_
 refine wk_if 0 2 (v := (decide (Int.tmod n m < 0))) rfl rfl rfl rfl (fun z => ?_) (fun z => ?_)
 ·
  have c4 := z
  try simp only [BS] at c4
  refine wR 2 [] 10 12 [0] [(0, (iI ((Int.tmod n m) + m)))] (vA (vi (n := (Int.tmod n m) + m) (by omega)) trivial) rfl fun _ => ?_
  refine wR 1 [] 4 4 [13] [(4, (iI ((Int.tmod n m) + m)))] trivial rfl fun _ => ?_
  refine wk_ret ⟨.inr rfl, _, rfl, (Int.tmod n m) + m, rfl, rfl, (by simp only [p1.pickV, z, cond_true, cond_false])⟩
 ·
  have c4 := z
  try simp only [BS] at c4
  refine wR 1 [] 4 4 [13] [(4, (iI (Int.tmod n m)))] trivial rfl fun _ => ?_
  refine wk_ret ⟨.inr rfl, _, rfl, Int.tmod n m, rfl, rfl, (by simp only [p1.pickV, z, cond_true, cond_false])⟩
theorem pick_k_q (n : Int) (m : Int) (H : Heap) (hm : 0 < m ∧ m < 9223372036854775808) : C Try.prog 0 KL 11 [(iI n), (iI m)] H fun v H' => v = (iI (p1.pickV n m)) ∧ H' = H :=
 cq (pick_k n m H hm) (by rintro _ _ ⟨_, rfl, rfl, rfl⟩; exact ⟨rfl, rfl⟩)
noncomputable def sg : List Value := [.string ⟨⟨[124]⟩⟩, .string ⟨⟨[94]⟩⟩, .string ⟨⟨[38]⟩⟩, .string ⟨⟨[61, 61]⟩⟩, .string ⟨⟨[60]⟩⟩, .string ⟨⟨[60, 60]⟩⟩, .string ⟨⟨[43]⟩⟩, .string ⟨⟨[42]⟩⟩]
noncomputable def H1 : Heap := Heap.empty.push (.cells sg none false)
noncomputable def rest : Code := match Try.f5.body with
 | some (.seq _ (.seq _ (.seq _ c))) => c
 | _ => .skip
noncomputable def st (a b p q : Int) : St := ⟨tabT [.int .i64 a, .int .i64 b] [(7, .int .i64 q), (6, .int .i64 p), (22, .int .i64 q), (21, .int .i64 b), (20, .int .i64 p), (19, .int .i64 a), (5, .slice (some ⟨0, 0, none⟩) 8 8), (18, .slice (some ⟨0, 0, none⟩) 8 8), (4, .bool false)], 131, H1⟩
noncomputable def ok (a b p q : Int) : Bool := endsTrue 4 (exec Try.prog 0 KL 3001 rest (st a b p q))
theorem prec_of (h : ∀ a b : Int, ∀ p q : Nat, p < 8 → q < 8 → ok a b p q = true) (a b : Int) (ha : in64 a) (hb : in64 b) : C Try.prog 0 KL 5 [.int .i64 a, .int .i64 b] Heap.empty fun v _ => v = .bool true := by
 have pa := p1.pick_rng (n := a) (m := 8) (by omega)
 have pb := p1.pick_rng (n := b) (m := 8) (by omega)
 refine c_enter Try.func5 rfl rfl ?_
 refine wk_seq (wk_region ?_)
 refine wo_val ⟨rfl⟩ rfl rfl ?_
 refine wo_nil (wk_skip_seq ?_)
 refine wk_seq (wk_region ?_)
 refine wo_val (v := .slice (some ⟨0, 0, none⟩) 8 8) (H1 := H1) ⟨by kernel_rfl⟩ rfl rfl ?_
 refine wo_val ⟨rfl⟩ rfl rfl ?_
 refine wo_nil (wk_skip_seq ?_)
 refine wk_seq (wk_region ?_)
 refine wo_val ⟨rfl⟩ rfl rfl ?_
 refine wo_call (ap_call rfl rfl rfl) rfl rfl (pick_k_q a 8 _ (by omega)) ?_
 rintro _ _ ⟨rfl, rfl⟩
 refine wo_val ⟨rfl⟩ rfl rfl ?_
 refine wo_call (ap_call rfl rfl rfl) rfl rfl (pick_k_q b 8 _ (by omega)) ?_
 rintro _ _ ⟨rfl, rfl⟩
 refine wo_val ⟨rfl⟩ rfl rfl ?_
 refine wo_val ⟨rfl⟩ rfl rfl ?_
 refine wo_nil (wk_skip_seq ?_)
 generalize p1.pickV a 8 = p at pa ⊢
 generalize p1.pickV b 8 = q at pb ⊢
 obtain ⟨p', rfl⟩ : ∃ n : Nat, p = n := ⟨p.toNat, by omega⟩
 obtain ⟨q', rfl⟩ : ∃ n : Nat, q = n := ⟨q.toNat, by omega⟩
 exact wk_says (st a b p' q').tmps 3000 4 (tabT_fn _ _) (h a b p' q' (by omega) (by omega)) (fun e f' H' he hf => ⟨he, [f' 4], rfl, hf⟩)
end Go.Proofs.Ytgjpflldlegmjaa.pk
