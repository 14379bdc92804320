/-
  The laws on costs, each by a symbolic run over the functions that it calls. No condition but a bound on the number of roots.
-/
import Derived.Test.YtcakpkdeojhacaaK5
noncomputable section
namespace Go.Proofs.Ytcakpkdeojhacaa.k6
open Go.R
set_option maxRecDepth 10000
set_option linter.unusedVariables false
theorem ql {H : Heap} {b o : Nat} {cs : List Value} {w : Value} (t : TypeId) (i : Nat) (hc : HC H.get b o cs) (ha : aggOf Try.prog t = some false) (hv : cs[i]? = some w) : LDv Try.prog H t (.pointer (some ⟨b, o + i, none⟩)) w := ld1 hc ha hv
theorem qn {H : Heap} {b o : Nat} {cs l : List Value} (t : TypeId) (i n : Nat) (hc : HC H.get b o cs) (ha : aggOf Try.prog t = some true) (hs : szOf Try.prog t = some n) (hn : Nat.ble (i + n) cs.length = true) (hl : takeL (dropL cs i) n = l) : LDv Try.prog H t (.pointer (some ⟨b, o + i, none⟩)) (.agg ⟨l⟩) := ldN hc ha hs hn hl
open k1 k2 k3 k4 k5
theorem ex_c (ex : FuncId) (H : Heap) : C Try.prog 0 (KX ex) ex [] H fun v H' => ∃ (r : Bool), H' = H ∧ v = .bool r ∧ r = true :=
  c_known (by show (bif Nat.beq ex ex then some (Value.bool true) else none) = _; rw [Nat.beq_refl]; rfl) ⟨true, rfl, rfl, rfl⟩
theorem ex_c_q (ex : FuncId) (H : Heap) : C Try.prog 0 (KX ex) ex [] H fun v H' => v = .bool true ∧ H' = H := cq (ex_c ex H) (by rintro _ _ ⟨_, rfl, rfl, rfl⟩; exact ⟨rfl, rfl⟩)
theorem wt_gb {l : Nds} {n k : Nat} (h : GB l n k) : wt l (fun _ => false) l.length ≤ n * (k + 1) := by
  have key : ∀ m, wt l (fun _ => false) m ≤ m * (k + 1) := by
    intro m
    induction m with
    | zero => exact Nat.zero_le _
    | succ m ih =>
      have := h.at m
      rw [wt, cond_false, Nat.succ_mul]; omega
  exact Nat.le_trans (key _) (Nat.mul_le_mul_right _ h.len)
theorem rch_mono {l : Nds} {r r' : List Int} (h : ∀ x ∈ r, x ∈ r') {i : Nat} (hi : Rch l r i) : Rch l r' i := by
  induction hi with
  | root hr hl => exact .root (h _ hr) hl
  | kid _ hk hl ih => exact .kid ih hk hl
theorem rch_or {l : Nds} {x y : List Int} {i : Nat} (hi : Rch l (x ++ y) i) : Rch l x i ∨ Rch l y i := by
  induction hi with
  | root hr hl =>
    rcases List.mem_append.1 hr with h | h
    · exact .inl (.root h hl)
    · exact .inr (.root h hl)
  | kid _ hk hl ih =>
    rcases ih with h | h
    · exact .inl (.kid h hk hl)
    · exact .inr (.kid h hk hl)
theorem sum_le {l : Nds} {m m' : Nat → Bool} (h : ∀ i, m i = true → m' i = true) : ∀ n, sumTo l m n ≤ sumTo l m' n
  | 0 => Int.le_refl _
  | n + 1 => by
    have h1 := sum_le (l := l) h n
    have h2 := nodeV_rng (l.getD n default).op
    rw [sumTo, sumTo]
    cases hb : m n with
    | true => rw [h n hb, cond_true]; omega
    | false =>
      rw [cond_false]
      cases m' n
      · rw [cond_false]; omega
      · rw [cond_true]; omega
theorem sum_or {l : Nds} {a b c : Nat → Bool} (h : ∀ i, c i = true → a i = true ∨ b i = true) : ∀ n, sumTo l c n ≤ sumTo l a n + sumTo l b n
  | 0 => by simp [sumTo]
  | n + 1 => by
    have h1 := sum_or (l := l) h n
    have h2 := nodeV_rng (l.getD n default).op
    rw [sumTo, sumTo, sumTo]
    cases hb : c n with
    | true =>
      rcases h n hb with e | e
      · rw [e, cond_true]; cases b n
        · rw [cond_false]; omega
        · rw [cond_true]; omega
      · rw [e, cond_true]; cases a n
        · rw [cond_false]; omega
        · rw [cond_true]; omega
    | false =>
      rw [cond_false]; cases a n <;> cases b n <;> simp only [cond_true, cond_false] <;> omega
theorem tot_mono {l : Nds} {x y : List Int} (h : ∀ q ∈ x, q ∈ y) : totV l x ≤ totV l y := by
  unfold totV
  exact sum_le (fun i hi => by simp only [decide_eq_true_eq] at hi ⊢; exact rch_mono h hi) _
theorem tot_sum {l : Nds} {x y : List Int} : totV l (x ++ y) ≤ totV l x + totV l y := by
  unfold totV
  exact sum_or (fun i hi => by simp only [decide_eq_true_eq] at hi ⊢; exact rch_or hi) _
theorem tot_twice {l : Nds} {x : List Int} : totV l (x ++ x) = totV l x := Int.le_antisymm (tot_mono fun q hq => by rcases List.mem_append.1 hq with h | h <;> exact h) (tot_mono fun q hq => List.mem_append_left _ hq)
theorem tot_rng {l : Nds} {x : List Int} : 0 ≤ totV l x ∧ totV l x ≤ 20 * l.length := sum_rng _
theorem mat_pre {l : Nds} {roots : List Int} (h : GB l 18 4) (hr : roots.length ≤ 1048576) : roots.length + wt l (fun _ => false) l.length ≤ 1073741824 ∧ l.length ≤ 1073741824 := by
  have h1 := wt_gb h
  have h2 := h.len
  omega
theorem mono_all {l : Nds} {x y : List Int} : ((((decide (totV l x ≤ totV l (x ++ y))) && (decide (totV l y ≤ totV l (x ++ y)))) && (decide (totV l (x ++ y) ≤ totV l x + totV l y))) && (totV l ((x ++ y) ++ (x ++ y)) == totV l (x ++ y))) = true := by
  simp only [Bool.and_eq_true, decide_eq_true_eq, beq_iff_eq]
  exact ⟨⟨⟨tot_mono fun q hq => List.mem_append_left _ hq, tot_mono fun q hq => List.mem_append_right _ hq⟩, tot_sum⟩, tot_twice⟩

theorem monotone_c {a_l : Option Addr} {k_l : Nat} (l : List Int) {a_a : Option Addr} {k_a : Nat} (a : List Int) {a_b : Option Addr} {k_b : Nat} (b : List Int) {F : Fz} {H : Heap} {R : List Fp} (hs : HS (.of H []) F H [] R) (hl : SR F (.slice a_l l.length k_l) l) (ha : SR F (.slice a_a a.length k_a) a) (hb : SR F (.slice a_b b.length k_b) b) : C Try.prog 0 (KX 3) 5 [(.slice a_l l.length k_l), (.slice a_a a.length k_a), (.slice a_b b.length k_b)] H fun v H' => ∃ (r : Bool) (F' : Fz), Fz.le F F' ∧ HS (.of H []) F' H' [] R ∧ v = .bool r ∧ r = true := by
  refine c_enter Try.func5 rfl rfl ?_
  refine wk_foc 1 rfl ?_
  refine wr 2 [] 6 6 [] [(6, (.bool false))] trivial (by kernel_rfl) rfl fun gg1 => ?_
  refine wk_region ?_
  refine wm (.slice a_l l.length k_l) rfl rfl rfl ?_
  refine wo_call (ap_call rfl rfl rfl) rfl rfl (k5.nodes_c 3 l false (HS.call hs) hl) ?_
  rintro _ H2 ⟨ar2, kr2, r2, p2, F2, hF2, hs2, rfl, hrr2, hg2, hb2⟩
  replace hs2 := HS.back hs rfl hs2
  have hs2 : HS (Base.of H []) F2 H2 [p2] R := hs2
  replace ha := ha.mono hF2
  replace hb := hb.mono hF2
  replace hl := hl.mono hF2
  refine wa (.slice ar2 r2.length kr2) rfl rfl rfl ?_
  refine wo_end 2 rfl ?_
  refine wr 3 [] 1 0 [8, 9] [(8, (.slice none 0 0)), (9, (.slice none 0 0))] trivial (by kernel_rfl) rfl fun gg3 => ?_
  refine wr 2 [] 1 0 [10] [(10, (.int .i64 0))] trivial (by kernel_rfl) rfl fun gg4 => ?_
  have hs6 := HS.snoc hs2
  have hs6 : HS (Base.of H []) F2 H2 [p2, []] R := hs6
  refine wk_loop_inv (fun (mm : Nat) f H' => ∃ (xs : List Int) (i : Nat) (la5_8 : Option Addr) (lk5_8 : Nat) (lp5_8 : Fp) (F' : Fz), Fz.le F2 F' ∧ HS (Base.of H []) F' H' [p2, lp5_8] R ∧ OS F' (.slice la5_8 xs.length lk5_8) xs lp5_8 ∧ agrees f [(1, (.slice a_a a.length k_a)), (2, (.slice a_b b.length k_b)), (6, (.bool false)), (7, (.slice ar2 r2.length kr2)), (8, (.slice la5_8 xs.length lk5_8)), (9, (.slice none 0 0)), (10, (.int .i64 (i : Int)))] ∧ mm = 4 - i ∧ (xs.length = i) ∧ (i ≤ 4)) _ ⟨([] : List Int), 0, none, 0, [], _, (Fz.le_refl _), hs6, (OS.nil : OS F2 (.slice none 0 0) ([] : List Int) []), (agC rfl (agC rfl (agC rfl (agC rfl (agC rfl (agC rfl (agC rfl agN))))))), rfl, (by rfl), (by first | assumption | omega | (simp at *; omega))⟩ ?_
  rintro mm5 f5 H5 ⟨xs, i, la5_8, lk5_8, lp5_8, F5, hF5, hs5, lh5_8, hf5, rfl, h1xs, h2xs⟩ ih5
  refine wk_canon _ hf5 (fun gg5 => ?_)
  clear hf5
  replace ha := ha.mono hF5
  replace hb := hb.mono hF5
  replace hrr2 := hrr2.mono hF5
  refine wk_foc 2 rfl ?_
  refine wr 1 [] 18 25 [] [(25, (.bool ((decide ((i : Int) < (a.length : Int))) && (decide ((i : Int) < 4)))))] trivial (by kernel_rfl) rfl fun gg7 => ?_
  refine wk_if 3 6 (v := ((decide ((i : Int) < (a.length : Int))) && (decide ((i : Int) < 4)))) rfl rfl rfl rfl (fun c8b => ?_) (fun c8b => ?_)
  · have c8 := c8b
    try simp only [BS] at c8
    have gbl := (by assumption : GB r2 17 3).len
    have gd3 := (by assumption : NdOK r2).l3
    refine wk_region ?_
    obtain ⟨cf9, hv9⟩ := Sv.view (SR.sv ha hs5)
    have g10 := fI (hv9 i)
    have fq11 := pick_imp (a.getD i 0) (r2.length : Int)
    refine wro 8 0 [(4, .o (.int .i64 (a.getD i 0))), (7, .o (.int .i64 (pickV (a.getD i 0) (r2.length : Int))))] 28 35 [] [(28, (.slice la5_8 xs.length lk5_8)), (35, (.int .i64 (pickV (a.getD i 0) (r2.length : Int))))] (vA (Sv.ix (j := (i : Int)) (SR.sv ha hs5) (by omega) (by omega)) (vA (ql 3 0 (vI (hv9 i) (by omega)) rfl rfl) (vA (k1.pick_c_q 3 (a.getD i 0) (r2.length : Int) H5 (by omega)) trivial))) (by kernel_rfl) rfl fun gg12 => ?_
    refine wo_rs (rs_lit (α := Int) (ps := [(0, (.int .i64 (pickV (a.getD i 0) (r2.length : Int))))]) (cells := [(.int .i64 (pickV (a.getD i 0) (r2.length : Int)))]) ([pickV (a.getD i 0) (r2.length : Int)] : List Int) hs5 rfl rfl rfl (by kernel_rfl) ⟨[(.int .i64 (pickV (a.getD i 0) (r2.length : Int)))], [], rfl, ⟨rfl, by omega⟩, rfl⟩ rfl) rfl rfl ?_
    rintro _ H14 p13 ⟨a13, k13, rfl, ho13, hs14, _⟩
    have hs14 : HS (Base.of H []) F5 H14 [p2, lp5_8, p13] R := hs14
    refine wo_rs (rs_app (α := Int) (q := 1) lh5_8 hs14 rfl rfl rfl (OS.sv ho13 hs14 (i := 2) rfl) rfl rfl rfl rfl rfl rfl rfl (by first | omega | (simp only [List.length_append, List.length_cons, List.length_nil]; omega))) rfl rfl ?_
    rintro _ H16 p15 ⟨a15, k15, rfl, ho15, hs16, _⟩
    have hs16 : HS (Base.of H []) F5 H16 [p2, p15, p13] R := hs16
    refine wa (.slice a15 (xs ++ ([pickV (a.getD i 0) (r2.length : Int)] : List Int)).length k15) rfl rfl rfl ?_
    refine wo_end 2 rfl ?_
    refine wr 1 [] 26 27 [10] [(10, (.int .i64 ((i : Int) + 1)))] (vA (vi (n := (i : Int) + 1) (by omega)) trivial) (by kernel_rfl) rfl fun gg17 => ?_
    refine ih5 _ _ _ ?_ ⟨xs ++ ([pickV (a.getD i 0) (r2.length : Int)] : List Int), i + 1, a15, k15, p15, _, (hF5), (HS.sub hs16 (List.sublist_append_left _ _)), ho15, (agC rfl (agC rfl (agC rfl (agC rfl (agC rfl (agC rfl (agC rfl agN))))))), rfl, (by simp; omega), (by first | assumption | omega | (simp at *; omega))⟩
    omega
  · have c8 := c8b
    try simp only [BS] at c8
    have gbl := (by assumption : GB r2 17 3).len
    have gd3 := (by assumption : NdOK r2).l3
    have gw := wt_gb (by assumption : GB r2 17 3)
    refine wr 2 [] 1 0 [11] [(11, (.int .i64 0))] trivial (by kernel_rfl) rfl fun gg18 => ?_
    have hs20 := HS.snoc hs5
    have hs20 : HS (Base.of H []) F5 H5 [p2, lp5_8, []] R := hs20
    refine wk_loop_inv (fun (mm : Nat) f H' => ∃ (ys : List Int) (j : Nat) (la19_9 : Option Addr) (lk19_9 : Nat) (lp19_9 : Fp) (F' : Fz), Fz.le F5 F' ∧ HS (Base.of H []) F' H' [p2, lp5_8, lp19_9] R ∧ OS F' (.slice la19_9 ys.length lk19_9) ys lp19_9 ∧ agrees f [(2, (.slice a_b b.length k_b)), (6, (.bool false)), (7, (.slice ar2 r2.length kr2)), (8, (.slice la5_8 xs.length lk5_8)), (9, (.slice la19_9 ys.length lk19_9)), (11, (.int .i64 (j : Int)))] ∧ mm = 4 - j ∧ (ys.length = j) ∧ (j ≤ 4)) _ ⟨([] : List Int), 0, none, 0, [], _, (Fz.le_refl _), hs20, (OS.nil : OS F5 (.slice none 0 0) ([] : List Int) []), (agC rfl (agC rfl (agC rfl (agC rfl (agC rfl (agC rfl agN)))))), rfl, (by rfl), (by first | assumption | omega | (simp at *; omega))⟩ ?_
    rintro mm19 f19 H19 ⟨ys, j, la19_9, lk19_9, lp19_9, F19, hF19, hs19, lh19_9, hf19, rfl, h1ys, h2ys⟩ ih19
    refine wk_canon _ hf19 (fun gg19 => ?_)
    clear hf19
    replace hb := hb.mono hF19
    replace hrr2 := hrr2.mono hF19
    replace lh5_8 := lh5_8.mono hF19
    refine wk_foc 2 rfl ?_
    refine wr 1 [] 38 45 [] [(45, (.bool ((decide ((j : Int) < (b.length : Int))) && (decide ((j : Int) < 4)))))] trivial (by kernel_rfl) rfl fun gg21 => ?_
    refine wk_if 3 5 (v := ((decide ((j : Int) < (b.length : Int))) && (decide ((j : Int) < 4)))) rfl rfl rfl rfl (fun c22b => ?_) (fun c22b => ?_)
    · have c22 := c22b
      try simp only [BS] at c22
      refine wk_region ?_
      obtain ⟨cf23, hv23⟩ := Sv.view (SR.sv hb hs19)
      have g24 := fI (hv23 j)
      have fq25 := pick_imp (b.getD j 0) (r2.length : Int)
      refine wro 8 0 [(4, .o (.int .i64 (b.getD j 0))), (7, .o (.int .i64 (pickV (b.getD j 0) (r2.length : Int))))] 48 55 [] [(48, (.slice la19_9 ys.length lk19_9)), (55, (.int .i64 (pickV (b.getD j 0) (r2.length : Int))))] (vA (Sv.ix (j := (j : Int)) (SR.sv hb hs19) (by omega) (by omega)) (vA (ql 3 0 (vI (hv23 j) (by omega)) rfl rfl) (vA (k1.pick_c_q 3 (b.getD j 0) (r2.length : Int) H19 (by omega)) trivial))) (by kernel_rfl) rfl fun gg26 => ?_
      refine wo_rs (rs_lit (α := Int) (ps := [(0, (.int .i64 (pickV (b.getD j 0) (r2.length : Int))))]) (cells := [(.int .i64 (pickV (b.getD j 0) (r2.length : Int)))]) ([pickV (b.getD j 0) (r2.length : Int)] : List Int) hs19 rfl rfl rfl (by kernel_rfl) ⟨[(.int .i64 (pickV (b.getD j 0) (r2.length : Int)))], [], rfl, ⟨rfl, by omega⟩, rfl⟩ rfl) rfl rfl ?_
      rintro _ H28 p27 ⟨a27, k27, rfl, ho27, hs28, _⟩
      have hs28 : HS (Base.of H []) F19 H28 [p2, lp5_8, lp19_9, p27] R := hs28
      refine wo_rs (rs_app (α := Int) (q := 2) lh19_9 hs28 rfl rfl rfl (OS.sv ho27 hs28 (i := 3) rfl) rfl rfl rfl rfl rfl rfl rfl (by first | omega | (simp only [List.length_append, List.length_cons, List.length_nil]; omega))) rfl rfl ?_
      rintro _ H30 p29 ⟨a29, k29, rfl, ho29, hs30, _⟩
      have hs30 : HS (Base.of H []) F19 H30 [p2, lp5_8, p29, p27] R := hs30
      refine wa (.slice a29 (ys ++ ([pickV (b.getD j 0) (r2.length : Int)] : List Int)).length k29) rfl rfl rfl ?_
      refine wo_end 2 rfl ?_
      refine wr 1 [] 46 47 [11] [(11, (.int .i64 ((j : Int) + 1)))] (vA (vi (n := (j : Int) + 1) (by omega)) trivial) (by kernel_rfl) rfl fun gg31 => ?_
      refine ih19 _ _ _ ?_ ⟨ys ++ ([pickV (b.getD j 0) (r2.length : Int)] : List Int), j + 1, a29, k29, p29, _, (hF19), (HS.sub hs30 (List.sublist_append_left _ _)), ho29, (agC rfl (agC rfl (agC rfl (agC rfl (agC rfl (agC rfl agN)))))), rfl, (by simp; omega), (by first | assumption | omega | (simp at *; omega))⟩
      omega
    · have c22 := c22b
      try simp only [BS] at c22
      refine wk_region ?_
      refine wm (.slice la5_8 xs.length lk5_8) rfl rfl rfl ?_
      have hs32 := HS.snoc hs19
      have hs32 : HS (Base.of H []) F19 H19 [p2, lp5_8, lp19_9, []] R := hs32
      refine wo_rs (rs_app (α := Int) (q := 3) (OS.nil : OS F19 (.slice none 0 0) ([] : List Int) []) hs32 rfl rfl rfl (OS.sv lh5_8 hs32 (i := 1) rfl) rfl rfl rfl rfl rfl rfl rfl (by first | omega | (simp only [List.length_append, List.length_cons, List.length_nil]; omega))) rfl rfl ?_
      rintro _ H34 p33 ⟨a33, k33, rfl, ho33, hs34, _⟩
      have hs34 : HS (Base.of H []) F19 H34 [p2, lp5_8, lp19_9, p33] R := hs34
      have ho33 : OS F19 (.slice a33 xs.length k33) xs p33 := ho33
      refine wm (.slice la19_9 ys.length lk19_9) rfl rfl rfl ?_
      refine wo_rs (rs_app (α := Int) (q := 3) ho33 hs34 rfl rfl rfl (OS.sv lh19_9 hs34 (i := 2) rfl) rfl rfl rfl rfl rfl rfl rfl (by first | omega | (simp only [List.length_append, List.length_cons, List.length_nil]; omega))) rfl rfl ?_
      rintro _ H36 p35 ⟨a35, k35, rfl, ho35, hs36, _⟩
      have hs36 : HS (Base.of H []) F19 H36 [p2, lp5_8, lp19_9, p35] R := hs36
      refine wa (.slice a35 (xs ++ ys).length k35) rfl rfl rfl ?_
      refine wo_end 2 rfl ?_
      refine wk_region ?_
      refine wro 2 0 [] 62 63 [] [(62, (.slice ar2 r2.length kr2)), (63, (.slice la5_8 xs.length lk5_8))] trivial (by kernel_rfl) rfl fun gg37 => ?_
      obtain ⟨F38, hF38, hs38, hr38, hp38⟩ := OS.frz hrr2 hs36 (i := 0) rfl
      have hs38 : HS (Base.of H []) F38 H36 [[], lp5_8, lp19_9, p35] R := hs38
      obtain ⟨F39, hF39, hs39, hr39, hp39⟩ := OS.frz (OS.mono hF38 lh5_8) hs38 (i := 1) rfl
      have hr38 := hr38.mono hF39
      have hs39 : HS (Base.of H []) F39 H36 [[], [], lp19_9, p35] R := hs39
      refine wo_call (ap_call rfl rfl rfl) rfl rfl (k3.total_c 3 r2 xs (HS.call hs39) hr38 hr39 (by first | omega | (simp only [List.length_append]; omega))) ?_
      rintro _ H40 ⟨r40, F40, hF40, hs40, rfl, rfl⟩
      replace hs40 := HS.back hs39 rfl hs40
      have hs40 : HS (Base.of H []) F40 H40 [[], [], lp19_9, p35] R := hs40
      replace hs40 := HS.thaw hs38 (i := 1) rfl hF39 hp39 hF40 hs40
      replace hs40 := HS.thaw hs36 (i := 0) rfl hF38 hp38 (Fz.le_refl _) hs40
      have hs40 : HS (Base.of H []) F19 H40 [p2, lp5_8, lp19_9, p35] R := hs40
      refine wro 2 3 [] 65 66 [] [(65, (.slice ar2 r2.length kr2)), (66, (.slice la19_9 ys.length lk19_9))] trivial (by kernel_rfl) rfl fun gg41 => ?_
      obtain ⟨F42, hF42, hs42, hr42, hp42⟩ := OS.frz hrr2 hs40 (i := 0) rfl
      have hs42 : HS (Base.of H []) F42 H40 [[], lp5_8, lp19_9, p35] R := hs42
      obtain ⟨F43, hF43, hs43, hr43, hp43⟩ := OS.frz (OS.mono hF42 lh19_9) hs42 (i := 2) rfl
      have hr42 := hr42.mono hF43
      have hs43 : HS (Base.of H []) F43 H40 [[], lp5_8, [], p35] R := hs43
      refine wo_call (ap_call rfl rfl rfl) rfl rfl (k3.total_c 3 r2 ys (HS.call hs43) hr42 hr43 (by first | omega | (simp only [List.length_append]; omega))) ?_
      rintro _ H44 ⟨r44, F44, hF44, hs44, rfl, rfl⟩
      replace hs44 := HS.back hs43 rfl hs44
      have hs44 : HS (Base.of H []) F44 H44 [[], lp5_8, [], p35] R := hs44
      replace hs44 := HS.thaw hs42 (i := 2) rfl hF43 hp43 hF44 hs44
      replace hs44 := HS.thaw hs40 (i := 0) rfl hF42 hp42 (Fz.le_refl _) hs44
      have hs44 : HS (Base.of H []) F19 H44 [p2, lp5_8, lp19_9, p35] R := hs44
      refine wro 2 6 [] 68 69 [] [(68, (.slice ar2 r2.length kr2)), (69, (.slice a35 (xs ++ ys).length k35))] trivial (by kernel_rfl) rfl fun gg45 => ?_
      obtain ⟨F46, hF46, hs46, hr46, hp46⟩ := OS.frz hrr2 hs44 (i := 0) rfl
      have hs46 : HS (Base.of H []) F46 H44 [[], lp5_8, lp19_9, p35] R := hs46
      obtain ⟨F47, hF47, hs47, hr47, hp47⟩ := OS.frz (OS.mono hF46 ho35) hs46 (i := 3) rfl
      have hr46 := hr46.mono hF47
      have hs47 : HS (Base.of H []) F47 H44 [[], lp5_8, lp19_9, []] R := hs47
      refine wo_call (ap_call rfl rfl rfl) rfl rfl (k3.total_c 3 r2 (xs ++ ys) (HS.call hs47) hr46 hr47 (by first | omega | (simp only [List.length_append]; omega))) ?_
      rintro _ H48 ⟨r48, F48, hF48, hs48, rfl, rfl⟩
      replace hs48 := HS.back hs47 rfl hs48
      have hs48 : HS (Base.of H []) F48 H48 [[], lp5_8, lp19_9, []] R := hs48
      replace hs48 := HS.thaw hs46 (i := 3) rfl hF47 hp47 hF48 hs48
      replace hs48 := HS.thaw hs44 (i := 0) rfl hF46 hp46 (Fz.le_refl _) hs48
      have hs48 : HS (Base.of H []) F19 H48 [p2, lp5_8, lp19_9, p35] R := hs48
      refine wro 3 9 [] 1 0 [13, 14, 15] [(13, (.int .i64 (totV r2 xs))), (14, (.int .i64 (totV r2 ys))), (15, (.int .i64 (totV r2 (xs ++ ys))))] trivial (by kernel_rfl) rfl fun gg49 => ?_
      refine wo_end 2 rfl ?_
      have tr1 := tot_rng (l := r2) (x := xs)
      have tr2 := tot_rng (l := r2) (x := ys)
      refine wk_rcut 6 97 [] [(6, (.bool ((((decide (totV r2 xs ≤ totV r2 (xs ++ ys))) && (decide (totV r2 ys ≤ totV r2 (xs ++ ys)))) && (decide (totV r2 (xs ++ ys) ≤ (totV r2 xs) + (totV r2 ys)))) && (totV r2 ((xs ++ ys) ++ (xs ++ ys)) == totV r2 (xs ++ ys)))))] (fun H' => ∃ F', Fz.le F19 F' ∧ HS (Base.of H []) F' H' [[], lp5_8, lp19_9, []] R) ?_ ?_
      · skip
        refine wk_region ?_
        refine wm (.int .i64 (totV r2 (xs ++ ys))) rfl rfl rfl ?_
        refine wm (.int .i64 (totV r2 xs)) rfl rfl rfl ?_
        refine wo_val (v := (.bool (decide (totV r2 xs ≤ totV r2 (xs ++ ys))))) (ap_cmp rfl rfl rfl rfl) rfl rfl ?_
        refine wm (.bool (decide (totV r2 xs ≤ totV r2 (xs ++ ys)))) rfl rfl rfl ?_
        refine wo_gsT (v := (decide (totV r2 xs ≤ totV r2 (xs ++ ys)))) rfl rfl (fun g56 => ?_) (fun g56 => ?_)
        · have pg56 := g56
          try simp only [BS] at pg56
          refine wm (.int .i64 (totV r2 (xs ++ ys))) rfl rfl rfl ?_
          refine wo_gt rfl g56 ?_
          refine wm (.int .i64 (totV r2 ys)) rfl rfl rfl ?_
          refine wo_gt rfl g56 ?_
          refine wo_val (v := (.bool (decide (totV r2 ys ≤ totV r2 (xs ++ ys))))) (ap_cmp rfl rfl rfl rfl) rfl rfl ?_
          refine wo_val (v := (.bool (decide (totV r2 ys ≤ totV r2 (xs ++ ys))))) (ap_pickT rfl g56 rfl) rfl rfl ?_
          refine wm (.bool (decide (totV r2 ys ≤ totV r2 (xs ++ ys)))) rfl rfl rfl ?_
          refine wo_gsT (v := (decide (totV r2 ys ≤ totV r2 (xs ++ ys)))) rfl rfl (fun g57 => ?_) (fun g57 => ?_)
          · have pg57 := g57
            try simp only [BS] at pg57
            refine wm (.int .i64 (totV r2 (xs ++ ys))) rfl rfl rfl ?_
            refine wo_gt rfl g57 ?_
            refine wm (.int .i64 (totV r2 xs)) rfl rfl rfl ?_
            refine wo_gt rfl g57 ?_
            refine wm (.int .i64 (totV r2 ys)) rfl rfl rfl ?_
            refine wo_gt rfl g57 ?_
            refine wo_val (v := (.int .i64 ((totV r2 xs) + (totV r2 ys)))) (ap_add rfl rfl (w_i64 (n := (totV r2 xs) + (totV r2 ys)) (by omega))) rfl rfl ?_
            refine wo_gt rfl g57 ?_
            refine wo_val (v := (.bool (decide (totV r2 (xs ++ ys) ≤ (totV r2 xs) + (totV r2 ys))))) (ap_cmp rfl rfl rfl rfl) rfl rfl ?_
            refine wo_val (v := (.bool (decide (totV r2 (xs ++ ys) ≤ (totV r2 xs) + (totV r2 ys))))) (ap_pickT rfl g57 rfl) rfl rfl ?_
            refine wm (.bool (decide (totV r2 (xs ++ ys) ≤ (totV r2 xs) + (totV r2 ys)))) rfl rfl rfl ?_
            refine wo_gsT (v := (decide (totV r2 (xs ++ ys) ≤ (totV r2 xs) + (totV r2 ys)))) rfl rfl (fun g58 => ?_) (fun g58 => ?_)
            · have pg58 := g58
              try simp only [BS] at pg58
              refine wm (.slice ar2 r2.length kr2) rfl rfl rfl ?_
              refine wo_gt rfl g58 ?_
              refine wm (.slice a35 (xs ++ ys).length k35) rfl rfl rfl ?_
              refine wo_gt rfl g58 ?_
              refine wm (.slice a35 (xs ++ ys).length k35) rfl rfl rfl ?_
              refine wo_gt rfl g58 ?_
              refine wo_rs (rs_app (α := Int) (q := 3) ho35 hs48 rfl rfl rfl (OS.sv ho35 hs48 (i := 3) rfl) rfl rfl rfl rfl rfl rfl rfl (by first | omega | (simp only [List.length_append, List.length_cons, List.length_nil]; omega))) rfl rfl ?_
              rintro _ H60 p59 ⟨a59, k59, rfl, ho59, hs60, _⟩
              have hs60 : HS (Base.of H []) F19 H60 [p2, lp5_8, lp19_9, p59] R := hs60
              refine wo_gt rfl g58 ?_
              obtain ⟨F61, hF61, hs61, hr61, hp61⟩ := OS.frz hrr2 hs60 (i := 0) rfl
              have hs61 : HS (Base.of H []) F61 H60 [[], lp5_8, lp19_9, p59] R := hs61
              obtain ⟨F62, hF62, hs62, hr62, hp62⟩ := OS.frz (OS.mono hF61 ho59) hs61 (i := 3) rfl
              have hr61 := hr61.mono hF62
              have hs62 : HS (Base.of H []) F62 H60 [[], lp5_8, lp19_9, []] R := hs62
              refine wo_call (ap_call rfl rfl rfl) rfl rfl (k3.total_c 3 r2 ((xs ++ ys) ++ (xs ++ ys)) (HS.call hs62) hr61 hr62 (by first | omega | (simp only [List.length_append]; omega))) ?_
              rintro _ H63 ⟨r63, F63, hF63, hs63, rfl, rfl⟩
              replace hs63 := HS.back hs62 rfl hs63
              have hs63 : HS (Base.of H []) F63 H63 [[], lp5_8, lp19_9, []] R := hs63
              replace hs63 := HS.thaw hs61 (i := 3) rfl hF62 hp62 hF63 hs63
              replace hs63 := HS.thaw hs60 (i := 0) rfl hF61 hp61 (Fz.le_refl _) hs63
              have hs63 : HS (Base.of H []) F19 H63 [p2, lp5_8, lp19_9, p59] R := hs63
              refine wo_gt rfl g58 ?_
              refine wm (.int .i64 (totV r2 (xs ++ ys))) rfl rfl rfl ?_
              refine wo_gt rfl g58 ?_
              refine wo_val (v := (.bool (totV r2 ((xs ++ ys) ++ (xs ++ ys)) == totV r2 (xs ++ ys)))) (ap_cmp rfl rfl rfl rfl) rfl rfl ?_
              refine wo_val (v := (.bool (totV r2 ((xs ++ ys) ++ (xs ++ ys)) == totV r2 (xs ++ ys)))) (ap_pickT rfl g58 rfl) rfl rfl ?_
              refine wm (.bool (totV r2 ((xs ++ ys) ++ (xs ++ ys)) == totV r2 (xs ++ ys))) rfl rfl rfl ?_
              refine wo_gsT (v := (totV r2 ((xs ++ ys) ++ (xs ++ ys)) == totV r2 (xs ++ ys))) rfl rfl (fun g64 => ?_) (fun g64 => ?_)
              · have pg64 := g64
                try simp only [BS] at pg64
                refine wo_call (ap_call rfl rfl rfl) rfl rfl (ex_c 3 _) ?_
                rintro _ H63 ⟨r65, rfl, rfl, rfl⟩
                refine wo_val (v := (.bool true)) (ap_pickT rfl g64 rfl) rfl rfl ?_
                refine wa (.bool true) rfl rfl rfl ?_
                refine wo_nil ?_
                exact wk_skip_nil ⟨rfl, ⟨_, (Fz.le_refl _), HS.sub (HS.drop (HS.drop hs63 (i := 0) rfl) (i := 3) rfl) (List.Sublist.refl _)⟩, (Lu rfl (Lu rfl (Lu rfl (Lu rfl (Lu rfl (Lu rfl (Lu rfl (Lu rfl (Lu rfl (Lu rfl (Lu rfl (Lu rfl (Lu rfl (Lu rfl (Lu rfl (Lu rfl (Lu rfl (Lu rfl (Lu rfl (Lu rfl (Lu rfl (Lu rfl (Lu rfl (Lu rfl (Lu rfl (Lu rfl (Lu rfl (Lu rfl Lr)))))))))))))))))))))))))))), (agC (congrArg Value.bool (show true = ((((decide (totV r2 xs ≤ totV r2 (xs ++ ys))) && (decide (totV r2 ys ≤ totV r2 (xs ++ ys)))) && (decide (totV r2 (xs ++ ys) ≤ (totV r2 xs) + (totV r2 ys)))) && (totV r2 ((xs ++ ys) ++ (xs ++ ys)) == totV r2 (xs ++ ys))) by first | rfl | simp only [↓g56, ↓g57, ↓g58, ↓g64, BT] | grind)) agN)⟩
              · have pg64 := g64
                try simp only [BS] at pg64
                refine wo_val (v := (.bool false)) (ap_pickF rfl g64 rfl) rfl rfl ?_
                refine wa (.bool false) rfl rfl rfl ?_
                refine wo_nil ?_
                exact wk_skip_nil ⟨rfl, ⟨_, (Fz.le_refl _), HS.sub (HS.drop (HS.drop hs63 (i := 0) rfl) (i := 3) rfl) (List.Sublist.refl _)⟩, (Lu rfl (Lu rfl (Lu rfl (Lu rfl (Lu rfl (Lu rfl (Lu rfl (Lu rfl (Lu rfl (Lu rfl (Lu rfl (Lu rfl (Lu rfl (Lu rfl (Lu rfl (Lu rfl (Lu rfl (Lu rfl (Lu rfl (Lu rfl (Lu rfl (Lu rfl (Lu rfl (Lu rfl (Lu rfl (Lu rfl (Lu rfl (Lu rfl Lr)))))))))))))))))))))))))))), (agC (congrArg Value.bool (show false = ((((decide (totV r2 xs ≤ totV r2 (xs ++ ys))) && (decide (totV r2 ys ≤ totV r2 (xs ++ ys)))) && (decide (totV r2 (xs ++ ys) ≤ (totV r2 xs) + (totV r2 ys)))) && (totV r2 ((xs ++ ys) ++ (xs ++ ys)) == totV r2 (xs ++ ys))) by first | rfl | simp only [↓g56, ↓g57, ↓g58, ↓g64, BT] | grind)) agN)⟩
            · have pg58 := g58
              try simp only [BS] at pg58
              refine wo_gf1 rfl g58 rfl ?_
              refine wo_gf1 rfl g58 rfl ?_
              refine wo_gf1 rfl g58 rfl ?_
              refine wo_gf1 rfl g58 rfl ?_
              refine wo_gf1 rfl g58 rfl ?_
              refine wo_gf1 rfl g58 rfl ?_
              refine wo_val (v := (.bool false)) (ap_pickF rfl g58 rfl) rfl rfl ?_
              refine wm (.bool false) rfl rfl rfl ?_
              refine wo_gf1 rfl rfl rfl ?_
              refine wo_val (v := (.bool false)) (ap_pickF rfl rfl rfl) rfl rfl ?_
              refine wa (.bool false) rfl rfl rfl ?_
              refine wo_nil ?_
              exact wk_skip_nil ⟨rfl, ⟨_, (Fz.le_refl _), HS.sub (HS.drop (HS.drop hs48 (i := 0) rfl) (i := 3) rfl) (List.Sublist.refl _)⟩, (Lu rfl (Lu rfl (Lu rfl (Lu rfl (Lu rfl (Lu rfl (Lu rfl (Lu rfl (Lu rfl (Lu rfl (Lu rfl (Lu rfl (Lu rfl (Lu rfl (Lu rfl (Lu rfl (Lu rfl (Lu rfl (Lu rfl (Lu rfl (Lu rfl (Lu rfl (Lu rfl (Lu rfl (Lu rfl (Lu rfl (Lu rfl (Lu rfl Lr)))))))))))))))))))))))))))), (agC (congrArg Value.bool (show false = ((((decide (totV r2 xs ≤ totV r2 (xs ++ ys))) && (decide (totV r2 ys ≤ totV r2 (xs ++ ys)))) && (decide (totV r2 (xs ++ ys) ≤ (totV r2 xs) + (totV r2 ys)))) && (totV r2 ((xs ++ ys) ++ (xs ++ ys)) == totV r2 (xs ++ ys))) by first | rfl | simp only [↓g56, ↓g57, ↓g58, BT] | grind)) agN)⟩
          · have pg57 := g57
            try simp only [BS] at pg57
            refine wo_gf1 rfl g57 rfl ?_
            refine wo_gf1 rfl g57 rfl ?_
            refine wo_gf1 rfl g57 rfl ?_
            refine wo_gf1 rfl g57 rfl ?_
            refine wo_val (v := (.bool false)) (ap_pickF rfl g57 rfl) rfl rfl ?_
            refine wm (.bool false) rfl rfl rfl ?_
            refine wo_gf1 rfl rfl rfl ?_
            refine wo_gf1 rfl rfl rfl ?_
            refine wo_gf1 rfl rfl rfl ?_
            refine wo_gf1 rfl rfl rfl ?_
            refine wo_gf1 rfl rfl rfl ?_
            refine wo_gf1 rfl rfl rfl ?_
            refine wo_gf1 rfl rfl rfl ?_
            refine wo_val (v := (.bool false)) (ap_pickF rfl rfl rfl) rfl rfl ?_
            refine wm (.bool false) rfl rfl rfl ?_
            refine wo_gf1 rfl rfl rfl ?_
            refine wo_val (v := (.bool false)) (ap_pickF rfl rfl rfl) rfl rfl ?_
            refine wa (.bool false) rfl rfl rfl ?_
            refine wo_nil ?_
            exact wk_skip_nil ⟨rfl, ⟨_, (Fz.le_refl _), HS.sub (HS.drop (HS.drop hs48 (i := 0) rfl) (i := 3) rfl) (List.Sublist.refl _)⟩, (Lu rfl (Lu rfl (Lu rfl (Lu rfl (Lu rfl (Lu rfl (Lu rfl (Lu rfl (Lu rfl (Lu rfl (Lu rfl (Lu rfl (Lu rfl (Lu rfl (Lu rfl (Lu rfl (Lu rfl (Lu rfl (Lu rfl (Lu rfl (Lu rfl (Lu rfl (Lu rfl (Lu rfl (Lu rfl (Lu rfl (Lu rfl (Lu rfl Lr)))))))))))))))))))))))))))), (agC (congrArg Value.bool (show false = ((((decide (totV r2 xs ≤ totV r2 (xs ++ ys))) && (decide (totV r2 ys ≤ totV r2 (xs ++ ys)))) && (decide (totV r2 (xs ++ ys) ≤ (totV r2 xs) + (totV r2 ys)))) && (totV r2 ((xs ++ ys) ++ (xs ++ ys)) == totV r2 (xs ++ ys))) by first | rfl | simp only [↓g56, ↓g57, BT] | grind)) agN)⟩
        · have pg56 := g56
          try simp only [BS] at pg56
          refine wo_gf1 rfl g56 rfl ?_
          refine wo_gf1 rfl g56 rfl ?_
          refine wo_val (v := (.bool false)) (ap_pickF rfl g56 rfl) rfl rfl ?_
          refine wm (.bool false) rfl rfl rfl ?_
          refine wo_gf1 rfl rfl rfl ?_
          refine wo_gf1 rfl rfl rfl ?_
          refine wo_gf1 rfl rfl rfl ?_
          refine wo_gf1 rfl rfl rfl ?_
          refine wo_gf1 rfl rfl rfl ?_
          refine wo_val (v := (.bool false)) (ap_pickF rfl rfl rfl) rfl rfl ?_
          refine wm (.bool false) rfl rfl rfl ?_
          refine wo_gf1 rfl rfl rfl ?_
          refine wo_gf1 rfl rfl rfl ?_
          refine wo_gf1 rfl rfl rfl ?_
          refine wo_gf1 rfl rfl rfl ?_
          refine wo_gf1 rfl rfl rfl ?_
          refine wo_gf1 rfl rfl rfl ?_
          refine wo_gf1 rfl rfl rfl ?_
          refine wo_val (v := (.bool false)) (ap_pickF rfl rfl rfl) rfl rfl ?_
          refine wm (.bool false) rfl rfl rfl ?_
          refine wo_gf1 rfl rfl rfl ?_
          refine wo_val (v := (.bool false)) (ap_pickF rfl rfl rfl) rfl rfl ?_
          refine wa (.bool false) rfl rfl rfl ?_
          refine wo_nil ?_
          exact wk_skip_nil ⟨rfl, ⟨_, (Fz.le_refl _), HS.sub (HS.drop (HS.drop hs48 (i := 0) rfl) (i := 3) rfl) (List.Sublist.refl _)⟩, (Lu rfl (Lu rfl (Lu rfl (Lu rfl (Lu rfl (Lu rfl (Lu rfl (Lu rfl (Lu rfl (Lu rfl (Lu rfl (Lu rfl (Lu rfl (Lu rfl (Lu rfl (Lu rfl (Lu rfl (Lu rfl (Lu rfl (Lu rfl (Lu rfl (Lu rfl (Lu rfl (Lu rfl (Lu rfl (Lu rfl (Lu rfl (Lu rfl Lr)))))))))))))))))))))))))))), (agC (congrArg Value.bool (show false = ((((decide (totV r2 xs ≤ totV r2 (xs ++ ys))) && (decide (totV r2 ys ≤ totV r2 (xs ++ ys)))) && (decide (totV r2 (xs ++ ys) ≤ (totV r2 xs) + (totV r2 ys)))) && (totV r2 ((xs ++ ys) ++ (xs ++ ys)) == totV r2 (xs ++ ys))) by first | rfl | simp only [↓g56, BT] | grind)) agN)⟩
      · skip
        rintro g55 H55 ⟨F55, hF55, hs55⟩
        replace hb := hb.mono hF55
        replace lh19_9 := lh19_9.mono hF55
        replace lh5_8 := lh5_8.mono hF55
        refine wk_foc 1 rfl ?_
        refine wk_ret ⟨.inr rfl, _, rfl, ((((decide (totV r2 xs ≤ totV r2 (xs ++ ys))) && (decide (totV r2 ys ≤ totV r2 (xs ++ ys)))) && (decide (totV r2 (xs ++ ys) ≤ (totV r2 xs) + (totV r2 ys)))) && (totV r2 ((xs ++ ys) ++ (xs ++ ys)) == totV r2 (xs ++ ys))), _, (Fz.le_trans (Fz.le_trans (Fz.le_trans (hF2) hF5) hF19) hF55), (HS.forget hs55), rfl, (by exact mono_all)⟩

theorem mat_all {a b : Int} : (((a == a) && (b == b))) = true := by simp

theorem matches_c {a_l : Option Addr} {k_l : Nat} (l : List Int) (how : Int) (at_ : Int) (op : Int) {a_roots : Option Addr} {k_roots : Nat} (roots : List Int) {F : Fz} {H : Heap} {R : List Fp} (hs : HS (.of H []) F H [] R) (hl : SR F (.slice a_l l.length k_l) l) (hhow : in64 how) (hat_ : in64 at_) (hop : in64 op) (hroots : SR F (.slice a_roots roots.length k_roots) roots) (hr : roots.length ≤ 1048576) : C Try.prog 0 (KX 3) 4 [(.slice a_l l.length k_l), (.int .i64 how), (.int .i64 at_), (.int .i64 op), (.slice a_roots roots.length k_roots)] H fun v H' => ∃ (r : Bool) (F' : Fz), Fz.le F F' ∧ HS (.of H []) F' H' [] R ∧ v = .bool r ∧ r = true := by
  refine c_enter Try.func4 rfl rfl ?_
  refine wk_foc 1 rfl ?_
  refine wr 2 [] 10 10 [] [(10, (.bool false))] trivial (by kernel_rfl) rfl fun gg1 => ?_
  refine wk_region ?_
  refine wm (.slice a_l l.length k_l) rfl rfl rfl ?_
  refine wo_call (ap_call rfl rfl rfl) rfl rfl (k5.nodes_c 3 l false (HS.call hs) hl) ?_
  rintro _ H2 ⟨ar2, kr2, r2, p2, F2, hF2, hs2, rfl, hrr2, hg2, hb2⟩
  replace hs2 := HS.back hs rfl hs2
  have hs2 : HS (Base.of H []) F2 H2 [p2] R := hs2
  replace hl := hl.mono hF2
  replace hroots := hroots.mono hF2
  refine wro 2 2 [] 17 18 [] [(17, (.int .i64 how)), (18, (.int .i64 at_))] trivial (by kernel_rfl) rfl fun gg3 => ?_
  obtain ⟨F4, hF4, hs4, hr4, hp4⟩ := OS.frz hrr2 hs2 (i := 0) rfl
  have hs4 : HS (Base.of H []) F4 H2 [[]] R := hs4
  replace hl := hl.mono hF4
  replace hroots := hroots.mono hF4
  replace hrr2 := hrr2.mono hF4
  refine wo_call (ap_call rfl rfl rfl) rfl rfl (k5.mutate_c 3 r2 how at_ (HS.call hs4) hr4 (by first | omega | (dsimp only; omega)) (by first | omega | (dsimp only; omega)) (by assumption)) ?_
  rintro _ H5 ⟨ar5, kr5, r5, p5, F5, hF5, hs5, rfl, hrr5, hr5, hl25⟩
  replace hs5 := HS.back hs4 rfl hs5
  have hs5 : HS (Base.of H []) F5 H5 [[], p5] R := hs5
  replace hl := hl.mono hF5
  replace hr4 := hr4.mono hF5
  replace hroots := hroots.mono hF5
  refine wa (.slice ar5 r5.length kr5) rfl rfl rfl ?_
  refine wo_end 2 rfl ?_
  have gd3 := (by assumption : NdOK _).l3
  have gbl := (by assumption : GB _ 18 4).len
  refine wk_region ?_
  have fq6 := pick_imp at_ (r5.length : Int)
  have fq7 := pick_imp how (r5.length : Int)
  refine wro 8 0 [(3, .o (.int .i64 (pickV at_ (r5.length : Int)))), (7, .o (.int .i64 (pickV how (r5.length : Int))))] 20 27 [] [(23, (.int .i64 (pickV at_ (r5.length : Int)))), (27, (.int .i64 (pickV how (r5.length : Int))))] (vA (k1.pick_c_q 3 at_ (r5.length : Int) H5 (by first | omega | (dsimp only; omega))) (vA (k1.pick_c_q 3 how (r5.length : Int) H5 (by first | omega | (dsimp only; omega))) trivial)) (by kernel_rfl) rfl fun gg8 => ?_
  refine wo_rs (rs_lit (α := Int) (ps := [(0, (.int .i64 (pickV at_ (r5.length : Int)))), (1, (.int .i64 (pickV how (r5.length : Int))))]) (cells := [(.int .i64 (pickV at_ (r5.length : Int))), (.int .i64 (pickV how (r5.length : Int)))]) ([pickV at_ (r5.length : Int), pickV how (r5.length : Int)] : List Int) hs5 rfl rfl rfl (by kernel_rfl) ⟨[(.int .i64 (pickV at_ (r5.length : Int)))], [(.int .i64 (pickV how (r5.length : Int)))], rfl, ⟨rfl, by first | omega | (dsimp only; omega)⟩, ⟨[(.int .i64 (pickV how (r5.length : Int)))], [], rfl, ⟨rfl, by first | omega | (dsimp only; omega)⟩, rfl⟩⟩ rfl) rfl rfl ?_
  rintro _ H10 p9 ⟨a9, k9, rfl, ho9, hs10, _⟩
  have hs10 : HS (Base.of H []) F5 H10 [[], p5, p9] R := hs10
  refine wa (.slice a9 ([pickV at_ (r5.length : Int), pickV how (r5.length : Int)] : List Int).length k9) rfl rfl rfl ?_
  refine wo_end 3 rfl ?_
  refine wr 2 [] 1 0 [13] [(13, (.int .i64 (-1)))] trivial (by kernel_rfl) rfl fun gg11 => ?_
  refine wk_loop_inv (fun (mm : Nat) f H' => ∃ (k : Int) (F' : Fz), Fz.le F5 F' ∧ HS (Base.of H []) F' H' [[], p5, p9] R ∧ agrees f [(2, (.int .i64 at_)), (3, (.int .i64 op)), (4, (.slice a_roots roots.length k_roots)), (11, (.slice ar5 r5.length kr5)), (12, (.slice a9 ([pickV at_ (r5.length : Int), pickV how (r5.length : Int)] : List Int).length k9)), (13, (.int .i64 k))] ∧ mm = (40 - k).toNat ∧ (-1 ≤ k ∧ k ≤ 40)) _ ⟨(-1), _, (Fz.le_refl _), hs10, (agC rfl (agC rfl (agC rfl (agC rfl (agC rfl (agC rfl agN)))))), rfl, (by first | assumption | omega | (simp at *; omega))⟩ ?_
  rintro mm12 f12 H12 ⟨k, F12, hF12, hs12, hf12, rfl, h1⟩ ih12
  refine wk_canon _ hf12 (fun gg12 => ?_)
  clear hf12
  replace ho9 := ho9.mono hF12
  replace hroots := hroots.mono hF12
  replace hrr5 := hrr5.mono hF12
  have nvr := nodeV_rng k
  refine wk_foc 2 rfl ?_
  refine wr 1 [] 29 30 [] [(30, (.bool (decide (k < 40))))] trivial (by kernel_rfl) rfl fun gg13 => ?_
  refine wk_if 4 5 (v := (decide (k < 40))) rfl rfl rfl rfl (fun c14b => ?_) (fun c14b => ?_)
  · have c14 := c14b
    try simp only [BS] at c14
    refine wk_region ?_
    refine wro 3 0 [] 33 35 [] [(35, (.agg ⟨[(.int .i64 k), (.int .i64 at_), (.slice none 0 0)]⟩))] trivial (by kernel_rfl) rfl fun gg15 => ?_
    refine wo_rs (rs_new hs12 rfl) rfl rfl ?_
    rintro _ H17 _ ⟨b16, rfl, hs17, _⟩
    have hs17 : HS (Base.of H []) F12 H17 [[], p5, p9, [(b16, .cells [(.int .i64 0), (.int .i64 0), (.slice none 0 0)] none false)]] R := hs17
    refine wo_rk (rs_rec (q := 3) hs17 rfl rfl rfl rfl rfl rfl rfl rfl rfl) rfl ?_
    rintro _ H18 _ ⟨hs18, _⟩
    have hs18 : HS (Base.of H []) F12 H18 [[], p5, p9, [(b16, .cells [(.int .i64 k), (.int .i64 at_), (.slice none 0 0)] none false)]] R := hs18
    refine wo_end 2 rfl ?_
    refine wf_region rfl ?_
    refine wf_pure (v := (.agg ⟨[(.int .i64 k), (.int .i64 at_), (.slice none 0 0)]⟩)) (id := .l b16) (ap_ldN (i := 0) rfl rfl rfl (HS.hc hs18.log0 (i := 3) rfl) rfl rfl rfl) rfl rfl (did_l rfl) trivial ?_
    refine wf_call (W := []) (ap_call rfl rfl rfl) rfl rfl rfl (k1.node_c 3 (⟨k, at_, ([] : List Int)⟩ : NodeT) (HS.call hs18.log0) (by first | omega | (dsimp only; omega)) (by first | omega | (dsimp only; omega)) (SR.nil : SR F12 (.slice none 0 0) ([] : List Int))) (⟨.inl rfl, trivial⟩) ?_
    rintro _ H19 ⟨r19, F19, hF19, hs19, rfl, rfl⟩
    refine ⟨Wr.did hs19.log, fun lg19 hlg19 => ?_⟩
    replace hs19 := HS.back hs18.log0 rfl hs19
    replace hs19 := HS.lg hs19 hs18 hlg19
    generalize ({ H19 with log := lg19 } : Heap) = H19g at hs19 ⊢
    have hs19 : HS (Base.of H []) F19 H19g [[], p5, p9, [(b16, .cells [(.int .i64 k), (.int .i64 at_), (.slice none 0 0)] none false)]] R := hs19
    replace ho9 := ho9.mono hF19
    replace hroots := hroots.mono hF19
    replace hrr5 := hrr5.mono hF19
    refine wf_pure (v := (.agg ⟨[(.int .i64 k), (.int .i64 at_), (.slice none 0 0)]⟩)) (id := .l b16) (ap_ldN (i := 0) rfl rfl rfl (HS.hc hs19.log0 (i := 3) rfl) rfl rfl rfl) rfl rfl (did_l rfl) (⟨.inr List.not_mem_nil, ⟨.inr trivial, trivial⟩⟩) ?_
    refine wf_call (W := []) (ap_call rfl rfl rfl) rfl rfl rfl (k1.refNode_c 3 (⟨k, at_, ([] : List Int)⟩ : NodeT) (HS.call hs19.log0) (by first | omega | (dsimp only; omega)) (by first | omega | (dsimp only; omega)) (SR.nil : SR F19 (.slice none 0 0) ([] : List Int))) (⟨.inl rfl, ⟨.inl rfl, ⟨.inl rfl, trivial⟩⟩⟩) ?_
    rintro _ H20 ⟨r20, F20, hF20, hs20, rfl, rfl⟩
    refine ⟨Wr.did hs20.log, fun lg20 hlg20 => ?_⟩
    replace hs20 := HS.back hs19.log0 rfl hs20
    replace hs20 := HS.lg hs20 hs19 hlg20
    generalize ({ H20 with log := lg20 } : Heap) = H20g at hs20 ⊢
    have hs20 : HS (Base.of H []) F20 H20g [[], p5, p9, [(b16, .cells [(.int .i64 k), (.int .i64 at_), (.slice none 0 0)] none false)]] R := hs20
    replace ho9 := ho9.mono hF20
    replace hroots := hroots.mono hF20
    replace hrr5 := hrr5.mono hF20
    refine wf_pure (v := (.bool (nodeV (⟨k, at_, ([] : List Int)⟩ : NodeT).op != nodeV (⟨k, at_, ([] : List Int)⟩ : NodeT).op))) (id := .v) (ap_cmp rfl rfl rfl rfl) rfl rfl (did_v rfl) (okD_v _) ?_
    refine wf_nil ?_
    refine wk_foc 1 rfl ?_
    refine wk_iff 2 (v := (nodeV (⟨k, at_, ([] : List Int)⟩ : NodeT).op != nodeV (⟨k, at_, ([] : List Int)⟩ : NodeT).op)) rfl (by simp) rfl rfl ?_
    refine wr 1 [] 31 32 [13] [(13, (.int .i64 (k + 1)))] (vA (vi (n := k + 1) (by first | omega | (dsimp only; omega))) trivial) (by kernel_rfl) rfl fun gg21 => ?_
    refine ih12 _ _ _ ?_ ⟨k + 1, _, (Fz.le_trans (Fz.le_trans (hF12) hF19) hF20), (HS.sub hs20 (List.sublist_append_left _ _)), (agC rfl (agC rfl (agC rfl (agC rfl (agC rfl (agC rfl agN)))))), rfl, (by first | assumption | omega | (simp at *; omega))⟩
    omega
  · have c14 := c14b
    try simp only [BS] at c14
    refine wk_rcut 10 68 [] [(10, (.bool (((nodeV (⟨op, 0, ([] : List Int)⟩ : NodeT).op == nodeV (⟨op, 0, ([] : List Int)⟩ : NodeT).op) && (totV r5 roots == totV r5 roots)) && (totV r5 ([pickV at_ (r5.length : Int), pickV how (r5.length : Int)] : List Int) == totV r5 ([pickV at_ (r5.length : Int), pickV how (r5.length : Int)] : List Int)))))] (fun H' => ∃ F', Fz.le F12 F' ∧ HS (Base.of H []) F' H' [[], [], []] R) ?_ ?_
    · skip
      refine wk_region ?_
      refine wm (.int .i64 op) rfl rfl rfl ?_
      refine wo_val (v := (.agg ⟨[(.int .i64 op), (.int .i64 0), (.slice none 0 0)]⟩)) (ap_bld rfl rfl (by kernel_rfl)) rfl rfl ?_
      refine wo_call (ap_call rfl rfl rfl) rfl rfl (k1.node_c 3 (⟨op, 0, ([] : List Int)⟩ : NodeT) (HS.call hs12) (by first | omega | (dsimp only; omega)) (by first | omega | (dsimp only; omega)) (SR.nil : SR F12 (.slice none 0 0) ([] : List Int))) ?_
      rintro _ H36 ⟨r36, F36, hF36, hs36, rfl, rfl⟩
      replace hs36 := HS.back hs12 rfl hs36
      have hs36 : HS (Base.of H []) F36 H36 [[], p5, p9] R := hs36
      replace ho9 := ho9.mono hF36
      replace hroots := hroots.mono hF36
      replace hrr5 := hrr5.mono hF36
      refine wm (.int .i64 op) rfl rfl rfl ?_
      refine wo_val (v := (.agg ⟨[(.int .i64 op), (.int .i64 0), (.slice none 0 0)]⟩)) (ap_bld rfl rfl (by kernel_rfl)) rfl rfl ?_
      refine wo_call (ap_call rfl rfl rfl) rfl rfl (k1.refNode_c 3 (⟨op, 0, ([] : List Int)⟩ : NodeT) (HS.call hs36) (by first | omega | (dsimp only; omega)) (by first | omega | (dsimp only; omega)) (SR.nil : SR F36 (.slice none 0 0) ([] : List Int))) ?_
      rintro _ H37 ⟨r37, F37, hF37, hs37, rfl, rfl⟩
      replace hs37 := HS.back hs36 rfl hs37
      have hs37 : HS (Base.of H []) F37 H37 [[], p5, p9] R := hs37
      replace ho9 := ho9.mono hF37
      replace hroots := hroots.mono hF37
      replace hrr5 := hrr5.mono hF37
      refine wo_val (v := (.bool (nodeV (⟨op, 0, ([] : List Int)⟩ : NodeT).op == nodeV (⟨op, 0, ([] : List Int)⟩ : NodeT).op))) (ap_cmp rfl rfl rfl rfl) rfl rfl ?_
      refine wm (.bool (nodeV (⟨op, 0, ([] : List Int)⟩ : NodeT).op == nodeV (⟨op, 0, ([] : List Int)⟩ : NodeT).op)) rfl rfl rfl ?_
      refine wo_gsT (v := (nodeV (⟨op, 0, ([] : List Int)⟩ : NodeT).op == nodeV (⟨op, 0, ([] : List Int)⟩ : NodeT).op)) rfl rfl (fun g38 => ?_) (fun g38 => ?_)
      · have pg38 := g38
        try simp only [BS] at pg38
        refine wm (.slice ar5 r5.length kr5) rfl rfl rfl ?_
        refine wo_gt rfl g38 ?_
        refine wm (.slice a_roots roots.length k_roots) rfl rfl rfl ?_
        refine wo_gt rfl g38 ?_
        obtain ⟨F39, hF39, hs39, hr39, hp39⟩ := OS.frz hrr5 hs37 (i := 1) rfl
        have hs39 : HS (Base.of H []) F39 H37 [[], [], p9] R := hs39
        refine wo_call (ap_call rfl rfl rfl) rfl rfl (k3.total_c 3 r5 roots (HS.call hs39) hr39 (hroots.mono hF39) (by exact mat_pre (by assumption) (by first | assumption | simp))) ?_
        rintro _ H40 ⟨r40, F40, hF40, hs40, rfl, rfl⟩
        replace hs40 := HS.back hs39 rfl hs40
        have hs40 : HS (Base.of H []) F40 H40 [[], [], p9] R := hs40
        replace hs40 := HS.thaw hs37 (i := 1) rfl hF39 hp39 hF40 hs40
        have hs40 : HS (Base.of H []) F37 H40 [[], p5, p9] R := hs40
        refine wo_gt rfl g38 ?_
        refine wm (.slice ar5 r5.length kr5) rfl rfl rfl ?_
        refine wo_gt rfl g38 ?_
        refine wm (.slice a_roots roots.length k_roots) rfl rfl rfl ?_
        refine wo_gt rfl g38 ?_
        obtain ⟨F41, hF41, hs41, hr41, hp41⟩ := OS.frz hrr5 hs40 (i := 1) rfl
        have hs41 : HS (Base.of H []) F41 H40 [[], [], p9] R := hs41
        refine wo_call (ap_call rfl rfl rfl) rfl rfl (k3.refTotal_c 3 r5 roots (HS.call hs41) hr41 (hroots.mono hF41) (by exact mat_pre (by assumption) (by first | assumption | simp))) ?_
        rintro _ H42 ⟨r42, F42, hF42, hs42, rfl, rfl⟩
        replace hs42 := HS.back hs41 rfl hs42
        have hs42 : HS (Base.of H []) F42 H42 [[], [], p9] R := hs42
        replace hs42 := HS.thaw hs40 (i := 1) rfl hF41 hp41 hF42 hs42
        have hs42 : HS (Base.of H []) F37 H42 [[], p5, p9] R := hs42
        refine wo_gt rfl g38 ?_
        refine wo_val (v := (.bool (totV r5 roots == totV r5 roots))) (ap_cmp rfl rfl rfl rfl) rfl rfl ?_
        refine wo_val (v := (.bool (totV r5 roots == totV r5 roots))) (ap_pickT rfl g38 rfl) rfl rfl ?_
        refine wm (.bool (totV r5 roots == totV r5 roots)) rfl rfl rfl ?_
        refine wo_gsT (v := (totV r5 roots == totV r5 roots)) rfl rfl (fun g43 => ?_) (fun g43 => ?_)
        · have pg43 := g43
          try simp only [BS] at pg43
          refine wm (.slice ar5 r5.length kr5) rfl rfl rfl ?_
          refine wo_gt rfl g43 ?_
          refine wm (.slice a9 ([pickV at_ (r5.length : Int), pickV how (r5.length : Int)] : List Int).length k9) rfl rfl rfl ?_
          refine wo_gt rfl g43 ?_
          obtain ⟨F44, hF44, hs44, hr44, hp44⟩ := OS.frz hrr5 hs42 (i := 1) rfl
          have hs44 : HS (Base.of H []) F44 H42 [[], [], p9] R := hs44
          obtain ⟨F45, hF45, hs45, hr45, hp45⟩ := OS.frz (OS.mono hF44 ho9) hs44 (i := 2) rfl
          have hr44 := hr44.mono hF45
          have hs45 : HS (Base.of H []) F45 H42 [[], [], []] R := hs45
          refine wo_call (ap_call rfl rfl rfl) rfl rfl (k3.total_c 3 r5 ([pickV at_ (r5.length : Int), pickV how (r5.length : Int)] : List Int) (HS.call hs45) hr44 hr45 (by exact mat_pre (by assumption) (by first | assumption | simp))) ?_
          rintro _ H46 ⟨r46, F46, hF46, hs46, rfl, rfl⟩
          replace hs46 := HS.back hs45 rfl hs46
          have hs46 : HS (Base.of H []) F46 H46 [[], [], []] R := hs46
          replace hs46 := HS.thaw hs44 (i := 2) rfl hF45 hp45 hF46 hs46
          replace hs46 := HS.thaw hs42 (i := 1) rfl hF44 hp44 (Fz.le_refl _) hs46
          have hs46 : HS (Base.of H []) F37 H46 [[], p5, p9] R := hs46
          refine wo_gt rfl g43 ?_
          refine wm (.slice ar5 r5.length kr5) rfl rfl rfl ?_
          refine wo_gt rfl g43 ?_
          refine wm (.slice a9 ([pickV at_ (r5.length : Int), pickV how (r5.length : Int)] : List Int).length k9) rfl rfl rfl ?_
          refine wo_gt rfl g43 ?_
          obtain ⟨F47, hF47, hs47, hr47, hp47⟩ := OS.frz hrr5 hs46 (i := 1) rfl
          have hs47 : HS (Base.of H []) F47 H46 [[], [], p9] R := hs47
          obtain ⟨F48, hF48, hs48, hr48, hp48⟩ := OS.frz (OS.mono hF47 ho9) hs47 (i := 2) rfl
          have hr47 := hr47.mono hF48
          have hs48 : HS (Base.of H []) F48 H46 [[], [], []] R := hs48
          refine wo_call (ap_call rfl rfl rfl) rfl rfl (k3.refTotal_c 3 r5 ([pickV at_ (r5.length : Int), pickV how (r5.length : Int)] : List Int) (HS.call hs48) hr47 hr48 (by exact mat_pre (by assumption) (by first | assumption | simp))) ?_
          rintro _ H49 ⟨r49, F49, hF49, hs49, rfl, rfl⟩
          replace hs49 := HS.back hs48 rfl hs49
          have hs49 : HS (Base.of H []) F49 H49 [[], [], []] R := hs49
          replace hs49 := HS.thaw hs47 (i := 2) rfl hF48 hp48 hF49 hs49
          replace hs49 := HS.thaw hs46 (i := 1) rfl hF47 hp47 (Fz.le_refl _) hs49
          have hs49 : HS (Base.of H []) F37 H49 [[], p5, p9] R := hs49
          refine wo_gt rfl g43 ?_
          refine wo_val (v := (.bool (totV r5 ([pickV at_ (r5.length : Int), pickV how (r5.length : Int)] : List Int) == totV r5 ([pickV at_ (r5.length : Int), pickV how (r5.length : Int)] : List Int)))) (ap_cmp rfl rfl rfl rfl) rfl rfl ?_
          refine wo_val (v := (.bool (totV r5 ([pickV at_ (r5.length : Int), pickV how (r5.length : Int)] : List Int) == totV r5 ([pickV at_ (r5.length : Int), pickV how (r5.length : Int)] : List Int)))) (ap_pickT rfl g43 rfl) rfl rfl ?_
          refine wm (.bool (totV r5 ([pickV at_ (r5.length : Int), pickV how (r5.length : Int)] : List Int) == totV r5 ([pickV at_ (r5.length : Int), pickV how (r5.length : Int)] : List Int))) rfl rfl rfl ?_
          refine wo_gsT (v := (totV r5 ([pickV at_ (r5.length : Int), pickV how (r5.length : Int)] : List Int) == totV r5 ([pickV at_ (r5.length : Int), pickV how (r5.length : Int)] : List Int))) rfl rfl (fun g50 => ?_) (fun g50 => ?_)
          · have pg50 := g50
            try simp only [BS] at pg50
            refine wo_call (ap_call rfl rfl rfl) rfl rfl (ex_c 3 _) ?_
            rintro _ H49 ⟨r51, rfl, rfl, rfl⟩
            refine wo_val (v := (.bool true)) (ap_pickT rfl g50 rfl) rfl rfl ?_
            refine wa (.bool true) rfl rfl rfl ?_
            refine wo_nil ?_
            exact wk_skip_nil ⟨rfl, ⟨_, (Fz.le_trans (Fz.le_trans (Fz.le_refl _) hF36) hF37), HS.sub (HS.drop (HS.drop hs49 (i := 1) rfl) (i := 2) rfl) (List.Sublist.refl _)⟩, (Lu rfl (Lu rfl (Lu rfl (Lu rfl (Lu rfl (Lu rfl (Lu rfl (Lu rfl (Lu rfl (Lu rfl (Lu rfl (Lu rfl (Lu rfl (Lu rfl (Lu rfl (Lu rfl (Lu rfl (Lu rfl (Lu rfl (Lu rfl (Lu rfl (Lu rfl (Lu rfl (Lu rfl (Lu rfl (Lu rfl (Lu rfl (Lu rfl (Lu rfl Lr))))))))))))))))))))))))))))), (agC (congrArg Value.bool (show true = (((nodeV (⟨op, 0, ([] : List Int)⟩ : NodeT).op == nodeV (⟨op, 0, ([] : List Int)⟩ : NodeT).op) && (totV r5 roots == totV r5 roots)) && (totV r5 ([pickV at_ (r5.length : Int), pickV how (r5.length : Int)] : List Int) == totV r5 ([pickV at_ (r5.length : Int), pickV how (r5.length : Int)] : List Int))) by first | rfl | simp only [↓g38, ↓g43, ↓g50, BT] | grind)) agN)⟩
          · have pg50 := g50
            try simp only [BS] at pg50
            refine wo_val (v := (.bool false)) (ap_pickF rfl g50 rfl) rfl rfl ?_
            refine wa (.bool false) rfl rfl rfl ?_
            refine wo_nil ?_
            exact wk_skip_nil ⟨rfl, ⟨_, (Fz.le_trans (Fz.le_trans (Fz.le_refl _) hF36) hF37), HS.sub (HS.drop (HS.drop hs49 (i := 1) rfl) (i := 2) rfl) (List.Sublist.refl _)⟩, (Lu rfl (Lu rfl (Lu rfl (Lu rfl (Lu rfl (Lu rfl (Lu rfl (Lu rfl (Lu rfl (Lu rfl (Lu rfl (Lu rfl (Lu rfl (Lu rfl (Lu rfl (Lu rfl (Lu rfl (Lu rfl (Lu rfl (Lu rfl (Lu rfl (Lu rfl (Lu rfl (Lu rfl (Lu rfl (Lu rfl (Lu rfl (Lu rfl (Lu rfl Lr))))))))))))))))))))))))))))), (agC (congrArg Value.bool (show false = (((nodeV (⟨op, 0, ([] : List Int)⟩ : NodeT).op == nodeV (⟨op, 0, ([] : List Int)⟩ : NodeT).op) && (totV r5 roots == totV r5 roots)) && (totV r5 ([pickV at_ (r5.length : Int), pickV how (r5.length : Int)] : List Int) == totV r5 ([pickV at_ (r5.length : Int), pickV how (r5.length : Int)] : List Int))) by first | rfl | simp only [↓g38, ↓g43, ↓g50, BT] | grind)) agN)⟩
        · have pg43 := g43
          try simp only [BS] at pg43
          refine wo_gf1 rfl g43 rfl ?_
          refine wo_gf1 rfl g43 rfl ?_
          refine wo_gf1 rfl g43 rfl ?_
          refine wo_gf1 rfl g43 rfl ?_
          refine wo_gf1 rfl g43 rfl ?_
          refine wo_gf1 rfl g43 rfl ?_
          refine wo_val (v := (.bool false)) (ap_pickF rfl g43 rfl) rfl rfl ?_
          refine wm (.bool false) rfl rfl rfl ?_
          refine wo_gf1 rfl rfl rfl ?_
          refine wo_val (v := (.bool false)) (ap_pickF rfl rfl rfl) rfl rfl ?_
          refine wa (.bool false) rfl rfl rfl ?_
          refine wo_nil ?_
          exact wk_skip_nil ⟨rfl, ⟨_, (Fz.le_trans (Fz.le_trans (Fz.le_refl _) hF36) hF37), HS.sub (HS.drop (HS.drop hs42 (i := 1) rfl) (i := 2) rfl) (List.Sublist.refl _)⟩, (Lu rfl (Lu rfl (Lu rfl (Lu rfl (Lu rfl (Lu rfl (Lu rfl (Lu rfl (Lu rfl (Lu rfl (Lu rfl (Lu rfl (Lu rfl (Lu rfl (Lu rfl (Lu rfl (Lu rfl (Lu rfl (Lu rfl (Lu rfl (Lu rfl (Lu rfl (Lu rfl (Lu rfl (Lu rfl (Lu rfl (Lu rfl (Lu rfl (Lu rfl Lr))))))))))))))))))))))))))))), (agC (congrArg Value.bool (show false = (((nodeV (⟨op, 0, ([] : List Int)⟩ : NodeT).op == nodeV (⟨op, 0, ([] : List Int)⟩ : NodeT).op) && (totV r5 roots == totV r5 roots)) && (totV r5 ([pickV at_ (r5.length : Int), pickV how (r5.length : Int)] : List Int) == totV r5 ([pickV at_ (r5.length : Int), pickV how (r5.length : Int)] : List Int))) by first | rfl | simp only [↓g38, ↓g43, BT] | grind)) agN)⟩
      · have pg38 := g38
        try simp only [BS] at pg38
        refine wo_gf1 rfl g38 rfl ?_
        refine wo_gf1 rfl g38 rfl ?_
        refine wo_gf1 rfl g38 rfl ?_
        refine wo_gf1 rfl g38 rfl ?_
        refine wo_gf1 rfl g38 rfl ?_
        refine wo_gf1 rfl g38 rfl ?_
        refine wo_val (v := (.bool false)) (ap_pickF rfl g38 rfl) rfl rfl ?_
        refine wm (.bool false) rfl rfl rfl ?_
        refine wo_gf1 rfl rfl rfl ?_
        refine wo_gf1 rfl rfl rfl ?_
        refine wo_gf1 rfl rfl rfl ?_
        refine wo_gf1 rfl rfl rfl ?_
        refine wo_gf1 rfl rfl rfl ?_
        refine wo_gf1 rfl rfl rfl ?_
        refine wo_gf1 rfl rfl rfl ?_
        refine wo_val (v := (.bool false)) (ap_pickF rfl rfl rfl) rfl rfl ?_
        refine wm (.bool false) rfl rfl rfl ?_
        refine wo_gf1 rfl rfl rfl ?_
        refine wo_val (v := (.bool false)) (ap_pickF rfl rfl rfl) rfl rfl ?_
        refine wa (.bool false) rfl rfl rfl ?_
        refine wo_nil ?_
        exact wk_skip_nil ⟨rfl, ⟨_, (Fz.le_trans (Fz.le_trans (Fz.le_refl _) hF36) hF37), HS.sub (HS.drop (HS.drop hs37 (i := 1) rfl) (i := 2) rfl) (List.Sublist.refl _)⟩, (Lu rfl (Lu rfl (Lu rfl (Lu rfl (Lu rfl (Lu rfl (Lu rfl (Lu rfl (Lu rfl (Lu rfl (Lu rfl (Lu rfl (Lu rfl (Lu rfl (Lu rfl (Lu rfl (Lu rfl (Lu rfl (Lu rfl (Lu rfl (Lu rfl (Lu rfl (Lu rfl (Lu rfl (Lu rfl (Lu rfl (Lu rfl (Lu rfl (Lu rfl Lr))))))))))))))))))))))))))))), (agC (congrArg Value.bool (show false = (((nodeV (⟨op, 0, ([] : List Int)⟩ : NodeT).op == nodeV (⟨op, 0, ([] : List Int)⟩ : NodeT).op) && (totV r5 roots == totV r5 roots)) && (totV r5 ([pickV at_ (r5.length : Int), pickV how (r5.length : Int)] : List Int) == totV r5 ([pickV at_ (r5.length : Int), pickV how (r5.length : Int)] : List Int))) by first | rfl | simp only [↓g38, BT] | grind)) agN)⟩
    · skip
      rintro g35 H35 ⟨F35, hF35, hs35⟩
      replace hroots := hroots.mono hF35
      refine wk_foc 1 rfl ?_
      refine wk_ret ⟨.inr rfl, _, rfl, (((nodeV (⟨op, 0, ([] : List Int)⟩ : NodeT).op == nodeV (⟨op, 0, ([] : List Int)⟩ : NodeT).op) && (totV r5 roots == totV r5 roots)) && (totV r5 ([pickV at_ (r5.length : Int), pickV how (r5.length : Int)] : List Int) == totV r5 ([pickV at_ (r5.length : Int), pickV how (r5.length : Int)] : List Int))), _, (Fz.le_trans (Fz.le_trans (Fz.le_trans (Fz.le_trans (hF2) hF4) hF5) hF12) hF35), (HS.forget hs35), rfl, (by simp)⟩
end Go.Proofs.Ytcakpkdeojhacaa.k6
