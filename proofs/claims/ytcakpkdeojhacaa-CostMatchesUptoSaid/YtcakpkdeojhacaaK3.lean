/-
  The total cost: the program and the reference, each by a symbolic run. No condition but bounds on lengths.
-/
import Derived.Test.YtcakpkdeojhacaaK2
noncomputable section
namespace Go.Proofs.Ytcakpkdeojhacaa.k3
open Go.R
set_option maxRecDepth 10000
set_option linter.unusedVariables false
theorem ql {H : Heap} {b o : Nat} {cs : List Value} {w : Value} (t : TypeId) (i : Nat) (hc : HC H.get b o cs) (ha : aggOf Try.prog t = some false) (hv : cs[i]? = some w) : LDv Try.prog H t (.pointer (some ⟨b, o + i, none⟩)) w := ld1 hc ha hv
theorem qn {H : Heap} {b o : Nat} {cs l : List Value} (t : TypeId) (i n : Nat) (hc : HC H.get b o cs) (ha : aggOf Try.prog t = some true) (hs : szOf Try.prog t = some n) (hn : Nat.ble (i + n) cs.length = true) (hl : takeL (dropL cs i) n = l) : LDv Try.prog H t (.pointer (some ⟨b, o + i, none⟩)) (.agg ⟨l⟩) := ldN hc ha hs hn hl
open k1 k2
theorem ms_len {l : Nds} {roots st : List Int} {ms : List Bool} (h : JT l roots ms st) : ms.length = l.length := h.len
theorem jt_c {l : Nds} {ms : List Bool} {i : Int} (h : ((((decide (i < 0)) || (decide ((l.length : Int) ≤ i))) || (ms.getD i.toNat false)) = true)) : i < 0 ∨ (l.length : Int) ≤ i ∨ mkd ms i.toNat = true := by
  simpa [or_assoc] using h
theorem mdec {l : Nds} {m0 m1 m2 : List Bool} {mo2 mo1 : Bool} {i k : Nat} (h : MP l m0 (unm m1) m2 mo2 i k) (h1 : mo1 = true) : unm m2 + (bif mo2 then 1 else 0) < unm m1 + (bif mo1 then 1 else 0) := by
  subst h1
  have h2 := h.lt
  have h3 := h.le
  cases mo2 with
  | true => have := h2 rfl; simp; omega
  | false => simp; omega
theorem pn {i : Int} {n : Nat} (h : 0 ≤ i → ¬ i < (n : Int)) : ¬ (0 ≤ i ∧ i < n) := fun q => h q.1 q.2
theorem ile {a b : Nat} (h : a ≤ b) (h2 : ¬ a < b) : a = b := by omega
theorem kn {a : Nat} {n : Nat} {b : Bool} (h : (a : Int) < (n : Int) → b = false) : a < n → b = false := fun q => h (by omega)
theorem kg {l : Nds} {m : List Bool} {q : Int} (h : 0 ≤ q ∧ q < (l.length : Int) → (m.getD q.toNat false) = true) : 0 ≤ q → q < l.length → mkd m q.toNat = true := fun h1 h2 => h ⟨h1, h2⟩
theorem wt_mono {l : Nds} {i : Nat} : ∀ {n : Nat}, i < n → 1 + (l.getD i default).kids.length ≤ wt l (fun _ => false) n
  | n + 1, h => by
    rw [wt]
    rcases Nat.lt_succ_iff_lt_or_eq.1 h with h1 | rfl
    · have := wt_mono (l := l) h1; rw [cond_false]; omega
    · rw [cond_false]; omega
theorem wt_kid {l : Nds} {i : Nat} (h : i < l.length) : (l.getD i default).kids.length ≤ wt l (fun _ => false) l.length := by have := wt_mono (l := l) h; omega
theorem sum0 {l : Nds} : (0 : Int) = sumTo l (mkd (List.replicate l.length false)) l.length := by
  have : ∀ n, sumTo l (mkd (List.replicate l.length false)) n = 0 := by
    intro n
    induction n with
    | zero => rfl
    | succ n ih => rw [sumTo, ih, mk_rep]; rfl
  rw [this]
theorem mk_nc {l : Nds} {ms : List Bool} {i : Int} {p : Prop} (h : p ∧ ms.getD i.toNat false = false) : mkd ms i.toNat = false := h.2
theorem sum1 {l : Nds} {roots st : List Int} {ms : List Bool} {i : Int} {sm : Int} (hj : JT l roots ms st) (c : (¬ i < 0 ∧ ¬ (l.length : Int) ≤ i) ∧ ms.getD i.toNat false = false) (h : sm = sumTo l (mkd ms) l.length) : sm + nodeV (l.getD i.toNat default).op = sumTo l (mkd (ms.set i.toNat true)) l.length := by
  have hl : i.toNat < l.length := by omega
  rw [sum_set (by rw [hj.len]; exact hl) c.2, if_pos hl, h]
theorem wt0d {l : Nds} {st : List Int} {ms : List Bool} (h0 : 0 < st.length) : (st.take (st.length - 1)).length + wt l (mkd ms) l.length < st.length + wt l (mkd ms) l.length := by rw [List.length_take]; omega
theorem wt1d {l : Nds} {roots st : List Int} {ms : List Bool} {i : Int} (hj : JT l roots ms st) (h0 : 0 < st.length) (c : (¬ i < 0 ∧ ¬ (l.length : Int) ≤ i) ∧ ms.getD i.toNat false = false) :
    (st.take (st.length - 1) ++ (l.getD i.toNat default).kids).length + wt l (mkd (ms.set i.toNat true)) l.length < st.length + wt l (mkd ms) l.length := by
  have hl : i.toNat < l.length := by omega
  have := wt_set (l := l) (by rw [hj.len]; exact hl) c.2 l.length
  rw [if_pos hl] at this
  rw [List.length_append, List.length_take]; omega
theorem wt0 {l : Nds} {st : List Int} {ms : List Bool} {b : Nat} (h : st.length + wt l (mkd ms) l.length ≤ b) : (st.take (st.length - 1)).length + wt l (mkd ms) l.length ≤ b := by rw [List.length_take]; omega
theorem wt1 {l : Nds} {roots st : List Int} {ms : List Bool} {i : Int} {b : Nat} (hj : JT l roots ms st) (h0 : 0 < st.length) (c : (¬ i < 0 ∧ ¬ (l.length : Int) ≤ i) ∧ ms.getD i.toNat false = false) (h : st.length + wt l (mkd ms) l.length ≤ b) :
    (st.take (st.length - 1) ++ (l.getD i.toNat default).kids).length + wt l (mkd (ms.set i.toNat true)) l.length ≤ b := by
  have := wt1d hj h0 c; omega
theorem kids_le {l : Nds} {roots st : List Int} {ms : List Bool} {i : Int} (hj : JT l roots ms st) (c : (¬ i < 0 ∧ ¬ (l.length : Int) ≤ i) ∧ ms.getD i.toNat false = false) : 1 + (l.getD i.toNat default).kids.length ≤ wt l (mkd ms) l.length := by
  have hl : i.toNat < l.length := by omega
  have := wt_set (l := l) (by rw [hj.len]; exact hl) c.2 l.length
  rw [if_pos hl] at this; omega

theorem total_c (ex : FuncId) {a_l : Option Addr} {k_l : Nat} (l : List NodeT) {a_roots : Option Addr} {k_roots : Nat} (roots : List Int) {F : Fz} {H : Heap} {R : List Fp} (hs : HS (.of H []) F H [] R) (hl : SR F (.slice a_l l.length k_l) l) (hroots : SR F (.slice a_roots roots.length k_roots) roots) (hb : roots.length + wt l (fun _ => false) l.length ≤ 1073741824 ∧ l.length ≤ 1073741824) : C Try.prog 0 (KX ex) 15 [(.slice a_l l.length k_l), (.slice a_roots roots.length k_roots)] H fun v H' => ∃ (r : Int) (F' : Fz), Fz.le F F' ∧ HS (.of H []) F' H' [] R ∧ v = .int .i64 r ∧ r = totV l roots := by
  refine c_enter Try.func15 rfl rfl ?_
  refine wk_foc 1 rfl ?_
  refine wr 2 [] 4 4 [] [(4, (.int .i64 0))] trivial (by kernel_rfl) rfl fun gg1 => ?_
  refine wk_region ?_
  refine wro 2 0 [] 9 10 [] [(10, (.int .i64 (l.length : Int)))] trivial (by kernel_rfl) rfl fun gg2 => ?_
  refine wo_rs (rs_make false hs rfl rfl rfl rfl rfl rfl rfl rfl rfl rfl (by omega) (by omega)) rfl rfl ?_
  rintro _ H4 p3 ⟨a3, k3, rfl, ho3, hs4, _⟩
  have hs4 : HS (Base.of H []) F H4 [p3] R := hs4
  refine wa (.slice a3 (List.replicate l.length false).length k3) rfl rfl rfl ?_
  refine wo_end 2 rfl ?_
  refine wk_region ?_
  refine wo_rs (rs_lit (α := Int) (ps := []) (cells := []) ([] : List Int) hs4 rfl rfl rfl (by kernel_rfl) rfl rfl) rfl rfl ?_
  rintro _ H6 p5 ⟨a5, k5, rfl, ho5, hs6, _⟩
  have hs6 : HS (Base.of H []) F H6 [p3, p5] R := hs6
  refine wm (.slice a_roots roots.length k_roots) rfl rfl rfl ?_
  refine wo_rs (rs_app (α := Int) (q := 1) ho5 hs6 rfl rfl rfl (SR.sv hroots hs6) rfl rfl rfl rfl rfl rfl rfl (by simp only [List.length_append, List.length_take, List.length_cons, List.length_nil]; omega)) rfl rfl ?_
  rintro _ H8 p7 ⟨a7, k7, rfl, ho7, hs8, _⟩
  have hs8 : HS (Base.of H []) F H8 [p3, p7] R := hs8
  refine wa (.slice a7 (([] : List Int) ++ roots).length k7) rfl rfl rfl ?_
  refine wo_end 2 rfl ?_
  refine wr 3 [] 1 0 [7] [(7, (.int .i64 0))] trivial (by kernel_rfl) rfl fun gg9 => ?_
  refine wk_loop_inv (fun (mm : Nat) f H' => ∃ (ms : List Bool) (st : List Int) (sm : Int) (lp10_5 : Fp) (la10_6 : Option Addr) (lk10_6 : Nat) (lp10_6 : Fp) (F' : Fz), Fz.le F F' ∧ HS (Base.of H []) F' H' [lp10_5, lp10_6] R ∧ OS F' (.slice a3 (List.replicate l.length false).length k3) ms lp10_5 ∧ OS F' (.slice la10_6 st.length lk10_6) st lp10_6 ∧ agrees f [(0, (.slice a_l l.length k_l)), (4, (.int .i64 0)), (5, (.slice a3 (List.replicate l.length false).length k3)), (6, (.slice la10_6 st.length lk10_6)), (7, (.int .i64 sm))] ∧ mm = st.length + wt l (mkd ms) l.length ∧ (JT l roots ms st) ∧ (sm = sumTo l (mkd ms) l.length) ∧ (st.length + wt l (mkd ms) l.length ≤ 1073741824)) _ ⟨List.replicate l.length false, ([] : List Int) ++ roots, 0, p3, a7, k7, p7, _, (Fz.le_refl _), hs8, ho3, ho7, (agC rfl (agC rfl (agC rfl (agC rfl (agC rfl agN))))), rfl, (by exact JT.init), (by exact sum0), (by first | (rw [wt_rep]; simp; omega) | skip)⟩ ?_
  rintro mm10 f10 H10 ⟨ms, st, sm, lp10_5, la10_6, lk10_6, lp10_6, F10, hF10, hs10, lh10_5, lh10_6, hf10, rfl, hj, hsm, hw⟩ ih10
  refine wk_canon _ hf10 (fun gg10 => ?_)
  clear hf10
  replace hl := hl.mono hF10
  have lnlh10_5 := OS.len' lh10_5
  have hml := hj.len
  have hsr := sum_rng (l := l) (m := mkd ms) l.length
  refine wk_foc 2 rfl ?_
  refine wr 1 [] 15 17 [] [(17, (.bool (decide ((0 : Int) < (st.length : Int)))))] trivial (by kernel_rfl) rfl fun gg11 => ?_
  refine wk_if 3 5 (v := (decide ((0 : Int) < (st.length : Int)))) rfl rfl rfl rfl (fun c12b => ?_) (fun c12b => ?_)
  · have c12 := c12b
    try simp only [BS] at c12
    have c0 := c12
    obtain ⟨cf13, hv13⟩ := Sv.view (OS.sv lh10_6 hs10 (i := 1) rfl)
    have g14 := fI (hv13 (st.length - 1))
    refine wr 2 [(3, .e ((st.length - 1 : Nat) : Int)), (5, .o (.int .i64 (st.getD (st.length - 1) 0)))] 18 23 [8] [(8, (.int .i64 (st.getD (st.length - 1) 0)))] (vA (ve (n := (st.length : Int) - 1) (m := ((st.length - 1 : Nat) : Int)) (by omega) (by omega)) (vA (Sv.ix (j := ((st.length - 1 : Nat) : Int)) (OS.sv lh10_6 hs10 (i := 1) rfl) (by omega) (by omega)) (vA (ql 3 0 (vI (hv13 (st.length - 1)) (by omega)) rfl rfl) trivial))) (by kernel_rfl) rfl fun gg15 => ?_
    refine wk_region ?_
    refine wro 4 0 [(3, .e ((st.length - 1 : Nat) : Int))] 24 27 [] [(24, (.slice la10_6 st.length lk10_6)), (27, (.int .i64 ((st.length - 1 : Nat) : Int)))] (vA (ve (n := (st.length : Int) - 1) (m := ((st.length - 1 : Nat) : Int)) (by omega) (by omega)) trivial) (by kernel_rfl) rfl fun gg16 => ?_
    refine wo_rs (rs_cutOt (α := Int) (j := st.length - 1) lh10_6 hs10 (q := 1) rfl rfl rfl rfl (optN (by omega)) (by omega)) rfl rfl ?_
    rintro _ _ _ ⟨a17, k17, rfl, hH17, hq17⟩
    simp only at hH17; subst hH17
    refine wa (.slice a17 (st.take (st.length - 1)).length k17) rfl rfl rfl ?_
    refine wo_end 3 rfl ?_
    obtain ⟨cf18, hv18⟩ := Sv.view (OS.sv lh10_5 hs10 (i := 0) rfl)
    refine wr 1 [(12, .o (.bool (ms.getD ((st.getD (st.length - 1) 0).toNat) false)))] 29 42 [] [(42, (.bool (((decide ((st.getD (st.length - 1) 0) < 0)) || (decide ((l.length : Int) ≤ (st.getD (st.length - 1) 0)))) || (ms.getD ((st.getD (st.length - 1) 0).toNat) false))))] (vA (fun (g1 : ((decide ((st.getD (st.length - 1) 0) < 0)) || (decide ((l.length : Int) ≤ (st.getD (st.length - 1) 0)))) = false) => (Sv.ix (j := (st.getD (st.length - 1) 0)) (OS.sv lh10_5 hs10 (i := 0) rfl) (by (try simp only [BS] at g1); omega) (by (try simp only [BS] at g1); omega))) (vA (fun (g1 : ((decide ((st.getD (st.length - 1) 0) < 0)) || (decide ((l.length : Int) ≤ (st.getD (st.length - 1) 0)))) = false) => (ql 4 0 (vB (hv18 ((st.getD (st.length - 1) 0).toNat)) (by (try simp only [BS] at g1); omega)) rfl rfl)) trivial)) (by kernel_rfl) rfl fun gg20 => ?_
    refine wk_if 3 2 (v := (((decide ((st.getD (st.length - 1) 0) < 0)) || (decide ((l.length : Int) ≤ (st.getD (st.length - 1) 0)))) || (ms.getD ((st.getD (st.length - 1) 0).toNat) false))) rfl rfl rfl rfl (fun c21b => ?_) (fun c21b => ?_)
    · have c21 := c21b
      try simp only [BS] at c21
      have c1 := jt_c c21b
      refine ih10 _ _ _ ?_ ⟨ms, st.take (st.length - 1), sm, lp10_5, a17, k17, lp10_6, _, (hF10), hs10, lh10_5, hq17, (agC rfl (agC rfl (agC rfl (agC rfl (agC rfl agN))))), rfl, (by first | exact hj.skip (by omega) c1 | exact hj.mark (by omega) (by omega) (by omega)), (by first | exact hsm | exact sum1 hj c1 hsm), (by first | exact wt0 hw | exact wt1 hj (by omega) c1 hw)⟩
      first | exact wt0d (by omega) | exact wt1d hj (by omega) c1
    · have c21 := c21b
      try simp only [BS] at c21
      have c1 := c21
      have nvr := nodeV_rng (l.getD (st.getD (st.length - 1) 0).toNat default).op
      have kle := kids_le hj c1
      refine wk_region ?_
      refine wro 3 0 [] 43 45 [] [(45, (.pointer (some ⟨sB (.slice a3 (List.replicate l.length false).length k3), sO (.slice a3 (List.replicate l.length false).length k3) + ((st.getD (st.length - 1) 0).toNat) * Rp.sz Bool, none⟩)))] (vA (Sv.ix (j := (st.getD (st.length - 1) 0)) (OS.sv lh10_5 hs10 (i := 0) rfl) (by omega) (by omega)) trivial) (by kernel_rfl) rfl fun gg22 => ?_
      refine wo_rk (rs_st (α := Bool) (j := (st.getD (st.length - 1) 0).toNat) (off := 0) (q := 0) true lh10_5 hs10 rfl rfl rfl rfl rfl rfl rfl rfl (getD_at (x := false) (by omega)) rfl (by rintro cs rfl; exact ⟨Nat.le_of_ble_eq_true rfl, rfl⟩)) rfl ?_
      rintro _ H25 p23 ⟨ho24, hs25, _⟩
      have hs25 : HS (Base.of H []) F10 H25 [p23, lp10_6] R := hs25
      have hnp23 := OS.len' ho24
      refine wo_end 2 rfl ?_
      refine wk_region ?_
      obtain ⟨cf26, hv26⟩ := Sv.view (SR.sv hl hs25)
      obtain ⟨g27_0, g27_1, s27_2⟩ := NodeT.fx (hv26 ((st.getD (st.length - 1) 0).toNat))
      refine wro 5 0 [(4, .o (.agg ⟨[(.int .i64 ((l.getD ((st.getD (st.length - 1) 0).toNat) default).op)), (.int .i64 ((l.getD ((st.getD (st.length - 1) 0).toNat) default).imm)), (.slice (cA (cf26 ((st.getD (st.length - 1) 0).toNat)) 2) ((l.getD ((st.getD (st.length - 1) 0).toNat) default).kids).length (cK (cf26 ((st.getD (st.length - 1) 0).toNat)) 2))]⟩))] 46 50 [] [(46, (.int .i64 sm)), (50, (.agg ⟨[(.int .i64 ((l.getD ((st.getD (st.length - 1) 0).toNat) default).op)), (.int .i64 ((l.getD ((st.getD (st.length - 1) 0).toNat) default).imm)), (.slice (cA (cf26 ((st.getD (st.length - 1) 0).toNat)) 2) ((l.getD ((st.getD (st.length - 1) 0).toNat) default).kids).length (cK (cf26 ((st.getD (st.length - 1) 0).toNat)) 2))]⟩))] (vA (Sv.ix (j := (st.getD (st.length - 1) 0)) (SR.sv hl hs25) (by omega) (by omega)) (vA (qn 24 0 3 (NodeT.vw (hv26 ((st.getD (st.length - 1) 0).toNat)) (by omega)) rfl rfl rfl rfl) trivial)) (by kernel_rfl) rfl fun gg28 => ?_
      refine wo_call (ap_call rfl rfl rfl) rfl rfl (k1.node_c ex (l.getD ((st.getD (st.length - 1) 0).toNat) default) (HS.call hs25) (by omega) (by omega) s27_2) ?_
      rintro _ H29 ⟨r29, F29, hF29, hs29, rfl, rfl⟩
      replace hs29 := HS.back hs25 rfl hs29
      have hs29 : HS (Base.of H []) F29 H29 [p23, lp10_6] R := hs29
      replace hl := hl.mono hF29
      replace ho24 := ho24.mono hF29
      replace hq17 := hq17.mono hF29
      replace lh10_5 := lh10_5.mono hF29
      replace lh10_6 := lh10_6.mono hF29
      replace s27_2 := s27_2.mono hF29
      refine wro 2 6 [] 52 52 [7] [(7, (.int .i64 (sm + (nodeV (l.getD ((st.getD (st.length - 1) 0).toNat) default).op))))] (vA (vi (n := sm + (nodeV (l.getD ((st.getD (st.length - 1) 0).toNat) default).op)) (by omega)) trivial) (by kernel_rfl) rfl fun gg30 => ?_
      refine wo_end 1 rfl ?_
      refine wk_region ?_
      obtain ⟨cf31, hv31⟩ := Sv.view (SR.sv hl hs29)
      obtain ⟨g32_0, g32_1, s32_2⟩ := NodeT.fx (hv31 ((st.getD (st.length - 1) 0).toNat))
      refine wro 6 0 [(5, .o (.slice (cA (cf31 ((st.getD (st.length - 1) 0).toNat)) 2) ((l.getD ((st.getD (st.length - 1) 0).toNat) default).kids).length (cK (cf31 ((st.getD (st.length - 1) 0).toNat)) 2)))] 53 58 [] [(53, (.slice a17 (st.take (st.length - 1)).length k17)), (58, (.slice (cA (cf31 ((st.getD (st.length - 1) 0).toNat)) 2) ((l.getD ((st.getD (st.length - 1) 0).toNat) default).kids).length (cK (cf31 ((st.getD (st.length - 1) 0).toNat)) 2)))] (vA (Sv.ix (j := (st.getD (st.length - 1) 0)) (SR.sv hl hs29) (by omega) (by omega)) (vA (ql 22 2 (NodeT.vw (hv31 ((st.getD (st.length - 1) 0).toNat)) (by omega)) rfl rfl) trivial)) (by kernel_rfl) rfl fun gg33 => ?_
      refine wo_rs (rs_app (α := Int) (q := 1) hq17 hs29 rfl rfl rfl (SR.sv s32_2 hs29) rfl rfl rfl rfl rfl rfl rfl (by simp only [List.length_append, List.length_take, List.length_cons, List.length_nil]; omega)) rfl rfl ?_
      rintro _ H35 p34 ⟨a34, k34, rfl, ho34, hs35, _⟩
      have hs35 : HS (Base.of H []) F29 H35 [p23, p34] R := hs35
      refine wa (.slice a34 ((st.take (st.length - 1)) ++ ((l.getD ((st.getD (st.length - 1) 0).toNat) default).kids)).length k34) rfl rfl rfl ?_
      refine wo_end 2 rfl ?_
      refine ih10 _ _ _ ?_ ⟨ms.set ((st.getD (st.length - 1) 0).toNat) true, (st.take (st.length - 1)) ++ ((l.getD ((st.getD (st.length - 1) 0).toNat) default).kids), sm + (nodeV (l.getD ((st.getD (st.length - 1) 0).toNat) default).op), p23, a34, k34, p34, _, (Fz.le_trans (hF10) hF29), hs35, ho24, ho34, (agC rfl (agC rfl (agC rfl (agC rfl (agC rfl agN))))), rfl, (by first | exact hj.skip (by omega) c1 | exact hj.mark (by omega) (by omega) (by omega)), (by first | exact hsm | exact sum1 hj c1 hsm), (by first | exact wt0 hw | exact wt1 hj (by omega) c1 hw)⟩
      first | exact wt0d (by omega) | exact wt1d hj (by omega) c1
  · have c12 := c12b
    try simp only [BS] at c12
    have c0 := c12
    refine wr 1 [] 4 4 [60] [(4, (.int .i64 sm))] trivial (by kernel_rfl) rfl fun gg36 => ?_
    refine wk_ret ⟨.inr rfl, _, rfl, sm, _, (hF10), (HS.forget hs10), rfl, (by rw [hsm]; exact hj.fin (by omega))⟩

theorem isNode_c (ex : FuncId) {a_l : Option Addr} {k_l : Nat} (l : List NodeT) (i : Int) {F : Fz} {H : Heap} {R : List Fp} (hs : HS (.of H []) F H [] R) (hl : SR F (.slice a_l l.length k_l) l) : C Try.prog 0 (KX ex) 38 [(.slice a_l l.length k_l), (.int .i64 i)] H fun v H' => ∃ (r : Bool), H' = H ∧ v = .bool r ∧ r = (decide (0 ≤ i) && decide (i < (l.length : Int))) := by
  refine c_enter Try.func38 rfl rfl ?_
  refine wk_foc 1 rfl ?_
  refine wr 2 [] 4 4 [] [(4, (.bool false))] trivial (by kernel_rfl) rfl fun gg1 => ?_
  refine wr 1 [] 4 12 [] [(4, (.bool ((decide ((0 : Int) ≤ i)) && (decide (i < (l.length : Int))))))] trivial (by kernel_rfl) rfl fun gg2 => ?_
  refine wk_ret ⟨.inr rfl, _, rfl, ((decide ((0 : Int) ≤ i)) && (decide (i < (l.length : Int)))), rfl, rfl, (by first | rfl | omega | simp_all)⟩

theorem isNode_c_q (ex : FuncId) {a_l : Option Addr} {k_l : Nat} (l : List NodeT) (i : Int) {F : Fz} {H : Heap} {R : List Fp} (hs : HS (.of H []) F H [] R) (hl : SR F (.slice a_l l.length k_l) l) : C Try.prog 0 (KX ex) 38 [(.slice a_l l.length k_l), (.int .i64 i)] H fun v H' => v = (.bool (decide (0 ≤ i) && decide (i < (l.length : Int)))) ∧ H' = H :=
  cq (isNode_c ex l i hs hl) (by rintro _ _ ⟨_, rfl, rfl, rfl⟩; exact ⟨rfl, rfl⟩)

theorem mark_c (ex : FuncId) {a_l : Option Addr} {k_l : Nat} (l : List NodeT) {a_ms : Option Addr} {n_ms k_ms : Nat} {p_ms : Fp} (ms : List Bool) {F : Fz} {H : Heap} {R : List Fp} (hs : HS (.of H (p_ms.map Prod.fst)) F H [p_ms] R) (hl : SR F (.slice a_l l.length k_l) l) (hms : OS F (.slice a_ms n_ms k_ms) ms p_ms) (hm : ms.length = l.length) (hb : wt l (fun _ => false) l.length ≤ 1073741824 ∧ l.length ≤ 1073741824) : C Try.prog 0 (KX ex) 39 [(.slice a_l l.length k_l), (.slice a_ms n_ms k_ms)] H fun v H' => ∃ (ms' : List Bool) (pm : Fp) (F' : Fz), Fz.le F F' ∧ HS (.of H (p_ms.map Prod.fst)) F' H' [pm] R ∧ v = .tuple #[] ∧ OS F' (.slice a_ms n_ms k_ms) ms' pm ∧ (ms'.length = l.length) ∧ (∀ roots, MK l roots ms → MK l roots ms') ∧ (∀ j, j < l.length → clsd l ms' j) := by
  have lnarg := OS.len' hms
  refine c_enter Try.func39 rfl rfl ?_
  refine wk_foc 1 rfl ?_
  refine wr 2 [] 1 0 [4] [(4, (.bool true))] trivial (by kernel_rfl) rfl fun gg1 => ?_
  refine wk_loop_inv (fun (mm : Nat) f H' => ∃ (m1 : List Bool) (mo1 : Bool) (lp2_1 : Fp) (F' : Fz), Fz.le F F' ∧ HS (Base.of H (p_ms.map Prod.fst)) F' H' [lp2_1] R ∧ OS F' (.slice a_ms n_ms k_ms) m1 lp2_1 ∧ agrees f [(0, (.slice a_l l.length k_l)), (1, (.slice a_ms n_ms k_ms)), (4, (.bool mo1))] ∧ mm = unm m1 + (bif mo1 then 1 else 0) ∧ (m1.length = l.length) ∧ (∀ roots, MK l roots ms → MK l roots m1) ∧ (mo1 = false → ∀ j, j < l.length → clsd l m1 j)) _ ⟨ms, true, p_ms, _, (Fz.le_refl _), hs, hms, (agC rfl (agC rfl (agC rfl agN))), rfl, (by exact hm), (by exact fun _ h => h), (by intro h; cases h)⟩ ?_
  rintro mm2 f2 H2 ⟨m1, mo1, lp2_1, F2, hF2, hs2, lh2_1, hf2, rfl, h1, h2, h3⟩ ih2
  refine wk_canon _ hf2 (fun gg2 => ?_)
  clear hf2
  replace hl := hl.mono hF2
  have lnlh2_1 := OS.len' lh2_1
  refine wk_foc 2 rfl ?_
  refine wr 1 [] 8 8 [] [(8, (.bool mo1))] trivial (by kernel_rfl) rfl fun gg3 => ?_
  refine wk_if 3 3 (v := mo1) rfl rfl rfl rfl (fun c4b => ?_) (fun c4b => ?_)
  · have c4 := c4b
    try simp only [BS] at c4
    refine wr 2 [] 1 0 [4] [(4, (.bool false))] trivial (by kernel_rfl) rfl fun gg5 => ?_
    refine wr 2 [] 1 0 [5] [(5, (.int .i64 0))] trivial (by kernel_rfl) rfl fun gg6 => ?_
    refine wk_loop_inv (fun (mm : Nat) f H' => ∃ (m2 : List Bool) (mo2 : Bool) (i : Nat) (lp7_1 : Fp) (F' : Fz), Fz.le F2 F' ∧ HS (Base.of H (p_ms.map Prod.fst)) F' H' [lp7_1] R ∧ OS F' (.slice a_ms n_ms k_ms) m2 lp7_1 ∧ agrees f [(0, (.slice a_l l.length k_l)), (1, (.slice a_ms n_ms k_ms)), (4, (.bool mo2)), (5, (.int .i64 (i : Int))), (8, (.bool mo1))] ∧ mm = l.length - i ∧ (i ≤ l.length) ∧ (MP l ms (unm m1) m2 mo2 i 0)) _ ⟨m1, false, 0, lp2_1, _, (Fz.le_refl _), hs2, lh2_1, (agC rfl (agC rfl (agC rfl (agC rfl (agC rfl agN))))), rfl, (by first | assumption | omega | (simp at *; omega)), (by exact MP.init h1 h2)⟩ ?_
    rintro mm7 f7 H7 ⟨m2, mo2, i, lp7_1, F7, hF7, hs7, lh7_1, hf7, rfl, hi, hp⟩ ih7
    refine wk_canon _ hf7 (fun gg7 => ?_)
    clear hf7
    replace hl := hl.mono hF7
    have lnlh7_1 := OS.len' lh7_1
    refine wk_foc 2 rfl ?_
    refine wr 1 [] 9 12 [] [(12, (.bool (decide ((i : Int) < (l.length : Int)))))] trivial (by kernel_rfl) rfl fun gg8 => ?_
    refine wk_if 4 5 (v := (decide ((i : Int) < (l.length : Int)))) rfl rfl rfl rfl (fun c9b => ?_) (fun c9b => ?_)
    · have c9 := c9b
      try simp only [BS] at c9
      refine wr 2 [] 1 0 [6] [(6, (.int .i64 0))] trivial (by kernel_rfl) rfl fun gg10 => ?_
      refine wk_loop_inv (fun (mm : Nat) f H' => ∃ (m3 : List Bool) (mo3 : Bool) (k : Nat) (lp11_1 : Fp) (F' : Fz), Fz.le F7 F' ∧ HS (Base.of H (p_ms.map Prod.fst)) F' H' [lp11_1] R ∧ OS F' (.slice a_ms n_ms k_ms) m3 lp11_1 ∧ agrees f [(0, (.slice a_l l.length k_l)), (1, (.slice a_ms n_ms k_ms)), (4, (.bool mo3)), (5, (.int .i64 (i : Int))), (6, (.int .i64 (k : Int))), (8, (.bool mo1)), (12, (.bool (decide ((i : Int) < (l.length : Int)))))] ∧ mm = (l.getD i default).kids.length - k ∧ (k ≤ (l.getD i default).kids.length) ∧ (MP l ms (unm m1) m3 mo3 i k)) _ ⟨m2, mo2, 0, lp7_1, _, (Fz.le_refl _), hs7, lh7_1, (agC rfl (agC rfl (agC rfl (agC rfl (agC rfl (agC rfl (agC rfl agN))))))), rfl, (by first | assumption | omega | (simp at *; omega)), (by exact hp)⟩ ?_
      rintro mm11 f11 H11 ⟨m3, mo3, k, lp11_1, F11, hF11, hs11, lh11_1, hf11, rfl, hk, hp3⟩ ih11
      refine wk_canon _ hf11 (fun gg11 => ?_)
      clear hf11
      replace hl := hl.mono hF11
      have lnlh11_1 := OS.len' lh11_1
      have hl3 := hp3.len
      have hkl := wt_kid (l := l) (i := i) (by omega)
      refine wk_foc 2 rfl ?_
      obtain ⟨cf12, hv12⟩ := Sv.view (SR.sv hl hs11)
      obtain ⟨g13_0, g13_1, s13_2⟩ := NodeT.fx (hv12 i)
      obtain ⟨cf14, hv14⟩ := Sv.view (OS.sv lh11_1 hs11 (i := 0) rfl)
      refine wr 1 [(5, .o (.slice (cA (cf12 i) 2) ((l.getD i default).kids).length (cK (cf12 i) 2))), (12, .o (.bool (m3.getD i false)))] 15 28 [] [(28, (.bool ((decide ((k : Int) < (((l.getD i default).kids).length : Int))) && (m3.getD i false))))] (vA (Sv.ix (j := (i : Int)) (SR.sv hl hs11) (by omega) (by omega)) (vA (ql 22 2 (NodeT.vw (hv12 i) (by omega)) rfl rfl) (vA (fun (g1 : (decide ((k : Int) < (((l.getD i default).kids).length : Int))) = true) => (Sv.ix (j := (i : Int)) (OS.sv lh11_1 hs11 (i := 0) rfl) (by (try simp only [BS] at g1); omega) (by (try simp only [BS] at g1); omega))) (vA (fun (g1 : (decide ((k : Int) < (((l.getD i default).kids).length : Int))) = true) => (ql 4 0 (vB (hv14 i) (by (try simp only [BS] at g1); omega)) rfl rfl)) trivial)))) (by kernel_rfl) rfl fun gg16 => ?_
      refine wk_if 4 5 (v := ((decide ((k : Int) < (((l.getD i default).kids).length : Int))) && (m3.getD i false))) rfl rfl rfl rfl (fun c17b => ?_) (fun c17b => ?_)
      · have c17 := c17b
        try simp only [BS] at c17
        have c2 := c17
        obtain ⟨cf18, hv18⟩ := Sv.view (SR.sv hl hs11)
        obtain ⟨g19_0, g19_1, s19_2⟩ := NodeT.fx (hv18 i)
        obtain ⟨cf20, hv20⟩ := Sv.view (SR.sv s19_2 hs11)
        have g21 := fI (hv20 k)
        refine wr 2 [(4, .o (.slice (cA (cf18 i) 2) ((l.getD i default).kids).length (cK (cf18 i) 2))), (7, .o (.int .i64 (((l.getD i default).kids).getD k 0)))] 31 38 [7] [(7, (.int .i64 (((l.getD i default).kids).getD k 0)))] (vA (Sv.ix (j := (i : Int)) (SR.sv hl hs11) (by omega) (by omega)) (vA (ql 22 2 (NodeT.vw (hv18 i) (by omega)) rfl rfl) (vA (Sv.ix (j := (k : Int)) (SR.sv s19_2 hs11) (by omega) (by omega)) (vA (ql 3 0 (vI (hv20 k) (by omega)) rfl rfl) trivial)))) (by kernel_rfl) rfl fun gg22 => ?_
        obtain ⟨cf23, hv23⟩ := Sv.view (OS.sv lh11_1 hs11 (i := 0) rfl)
        refine wr 1 [(2, .o (.bool (decide (0 ≤ (((l.getD i default).kids).getD k 0)) && decide ((((l.getD i default).kids).getD k 0) < (l.length : Int))))), (7, .o (.bool (m3.getD ((((l.getD i default).kids).getD k 0).toNat) false)))] 39 48 [] [(48, (.bool ((decide (0 ≤ (((l.getD i default).kids).getD k 0)) && decide ((((l.getD i default).kids).getD k 0) < (l.length : Int))) && (!(m3.getD ((((l.getD i default).kids).getD k 0).toNat) false)))))] (vA (isNode_c_q ex l (((l.getD i default).kids).getD k 0) (HS.call hs11) hl) (vA (fun (g1 : (decide (0 ≤ (((l.getD i default).kids).getD k 0)) && decide ((((l.getD i default).kids).getD k 0) < (l.length : Int))) = true) => (Sv.ix (j := (((l.getD i default).kids).getD k 0)) (OS.sv lh11_1 hs11 (i := 0) rfl) (by (try simp only [BS] at g1); omega) (by (try simp only [BS] at g1); omega))) (vA (fun (g1 : (decide (0 ≤ (((l.getD i default).kids).getD k 0)) && decide ((((l.getD i default).kids).getD k 0) < (l.length : Int))) = true) => (ql 4 0 (vB (hv23 ((((l.getD i default).kids).getD k 0).toNat)) (by (try simp only [BS] at g1); omega)) rfl rfl)) trivial))) (by kernel_rfl) rfl fun gg25 => ?_
        refine wk_if 0 2 (v := ((decide (0 ≤ (((l.getD i default).kids).getD k 0)) && decide ((((l.getD i default).kids).getD k 0) < (l.length : Int))) && (!(m3.getD ((((l.getD i default).kids).getD k 0).toNat) false)))) rfl rfl rfl rfl (fun c26b => ?_) (fun c26b => ?_)
        · have c26 := c26b
          try simp only [BS] at c26
          have c3 := c26
          refine wk_region ?_
          refine wro 3 0 [] 49 51 [] [(51, (.pointer (some ⟨sB (.slice a_ms n_ms k_ms), sO (.slice a_ms n_ms k_ms) + ((((l.getD i default).kids).getD k 0).toNat) * Rp.sz Bool, none⟩)))] (vA (Sv.ix (j := (((l.getD i default).kids).getD k 0)) (OS.sv lh11_1 hs11 (i := 0) rfl) (by omega) (by omega)) trivial) (by kernel_rfl) rfl fun gg27 => ?_
          refine wo_rk (rs_st (α := Bool) (j := (((l.getD i default).kids).getD k 0).toNat) (off := 0) (q := 0) true lh11_1 hs11 rfl rfl rfl rfl rfl rfl rfl rfl (getD_at (x := false) (by omega)) rfl (by rintro cs rfl; exact ⟨Nat.le_of_ble_eq_true rfl, rfl⟩)) rfl ?_
          rintro _ H30 p28 ⟨ho29, hs30, _⟩
          have hs30 : HS (Base.of H (p_ms.map Prod.fst)) F11 H30 [p28] R := hs30
          have hnp28 := OS.len' ho29
          refine wa (.bool true) rfl rfl rfl ?_
          refine wo_end 2 rfl ?_
          refine wr 1 [] 29 30 [6] [(6, (.int .i64 ((k : Int) + 1)))] (vA (vi (n := (k : Int) + 1) (by omega)) trivial) (by kernel_rfl) rfl fun gg31 => ?_
          refine ih11 _ _ _ ?_ ⟨m3.set ((((l.getD i default).kids).getD k 0).toNat) true, true, k + 1, p28, _, (hF11), hs30, ho29, (agC rfl (agC rfl (agC rfl (agC rfl (agC rfl (agC rfl (agC rfl agN))))))), rfl, (by first | assumption | omega | (simp at *; omega)), (by first | exact hp3.new (by omega) c2.2 (by omega) (by omega) c3.2 | exact hp3.go (kg c3))⟩
          omega
        · have c26 := c26b
          try simp only [BS] at c26
          have c3 := c26
          refine wr 1 [] 29 30 [6] [(6, (.int .i64 ((k : Int) + 1)))] (vA (vi (n := (k : Int) + 1) (by omega)) trivial) (by kernel_rfl) rfl fun gg32 => ?_
          refine ih11 _ _ _ ?_ ⟨m3, mo3, k + 1, lp11_1, _, (hF11), hs11, lh11_1, (agC rfl (agC rfl (agC rfl (agC rfl (agC rfl (agC rfl (agC rfl agN))))))), rfl, (by first | assumption | omega | (simp at *; omega)), (by first | exact hp3.new (by omega) c2.2 (by omega) (by omega) c3.2 | exact hp3.go (kg c3))⟩
          omega
      · have c17 := c17b
        try simp only [BS] at c17
        have c2 := c17
        refine wr 1 [] 13 14 [5] [(5, (.int .i64 ((i : Int) + 1)))] (vA (vi (n := (i : Int) + 1) (by omega)) trivial) (by kernel_rfl) rfl fun gg33 => ?_
        refine ih7 _ _ _ ?_ ⟨m3, mo3, i + 1, lp11_1, _, (Fz.le_trans (hF7) hF11), hs11, lh11_1, (agC rfl (agC rfl (agC rfl (agC rfl (agC rfl agN))))), rfl, (by first | assumption | omega | (simp at *; omega)), (by exact hp3.node (kn c2))⟩
        omega
    · have c9 := c9b
      try simp only [BS] at c9
      refine ih2 _ _ _ ?_ ⟨m2, mo2, lp7_1, _, (Fz.le_trans (hF2) hF7), hs7, lh7_1, (agC rfl (agC rfl (agC rfl agN))), rfl, (by exact hp.len), (by exact hp.base), (by exact fun h j hj => hp.cl h j (by omega))⟩
      exact mdec hp (by assumption)
  · have c4 := c4b
    try simp only [BS] at c4
    refine wk_skip_nil ⟨.inl rfl, _, rfl, m1, lp2_1, _, (hF2), (HS.first hs2), rfl, lh2_1, (by exact h1), (by exact h2), (by exact h3 (by simpa using c4b))⟩

theorem refTotal_c (ex : FuncId) {a_l : Option Addr} {k_l : Nat} (l : List NodeT) {a_roots : Option Addr} {k_roots : Nat} (roots : List Int) {F : Fz} {H : Heap} {R : List Fp} (hs : HS (.of H []) F H [] R) (hl : SR F (.slice a_l l.length k_l) l) (hroots : SR F (.slice a_roots roots.length k_roots) roots) (hb : roots.length + wt l (fun _ => false) l.length ≤ 1073741824 ∧ l.length ≤ 1073741824) : C Try.prog 0 (KX ex) 21 [(.slice a_l l.length k_l), (.slice a_roots roots.length k_roots)] H fun v H' => ∃ (r : Int) (F' : Fz), Fz.le F F' ∧ HS (.of H []) F' H' [] R ∧ v = .int .i64 r ∧ r = totV l roots := by
  refine c_enter Try.func21 rfl rfl ?_
  refine wk_foc 1 rfl ?_
  refine wr 2 [] 4 4 [] [(4, (.int .i64 0))] trivial (by kernel_rfl) rfl fun gg1 => ?_
  refine wk_region ?_
  refine wro 2 0 [] 9 10 [] [(10, (.int .i64 (l.length : Int)))] trivial (by kernel_rfl) rfl fun gg2 => ?_
  refine wo_rs (rs_make false hs rfl rfl rfl rfl rfl rfl rfl rfl rfl rfl (by omega) (by omega)) rfl rfl ?_
  rintro _ H4 p3 ⟨a3, k3, rfl, ho3, hs4, _⟩
  have hs4 : HS (Base.of H []) F H4 [p3] R := hs4
  refine wa (.slice a3 (List.replicate l.length false).length k3) rfl rfl rfl ?_
  refine wo_end 3 rfl ?_
  refine wr 2 [] 1 0 [6] [(6, (.int .i64 0))] trivial (by kernel_rfl) rfl fun gg5 => ?_
  refine wk_loop_inv (fun (mm : Nat) f H' => ∃ (ms : List Bool) (i : Nat) (lp6_5 : Fp) (F' : Fz), Fz.le F F' ∧ HS (Base.of H []) F' H' [lp6_5] R ∧ OS F' (.slice a3 (List.replicate l.length false).length k3) ms lp6_5 ∧ agrees f [(0, (.slice a_l l.length k_l)), (1, (.slice a_roots roots.length k_roots)), (4, (.int .i64 0)), (5, (.slice a3 (List.replicate l.length false).length k3)), (6, (.int .i64 (i : Int)))] ∧ mm = roots.length - i ∧ (M0 l roots ms i) ∧ (i ≤ roots.length)) _ ⟨List.replicate l.length false, 0, p3, _, (Fz.le_refl _), hs4, ho3, (agC rfl (agC rfl (agC rfl (agC rfl (agC rfl agN))))), rfl, (by exact M0.init), (by first | assumption | omega | (simp at *; omega))⟩ ?_
  rintro mm6 f6 H6 ⟨ms, i, lp6_5, F6, hF6, hs6, lh6_5, hf6, rfl, h1, h2⟩ ih6
  refine wk_canon _ hf6 (fun gg6 => ?_)
  clear hf6
  replace hl := hl.mono hF6
  replace hroots := hroots.mono hF6
  have lnlh6_5 := OS.len' lh6_5
  have hml := h1.len
  refine wk_foc 2 rfl ?_
  refine wr 1 [] 12 15 [] [(15, (.bool (decide ((i : Int) < (roots.length : Int)))))] trivial (by kernel_rfl) rfl fun gg7 => ?_
  refine wk_if 4 5 (v := (decide ((i : Int) < (roots.length : Int)))) rfl rfl rfl rfl (fun c8b => ?_) (fun c8b => ?_)
  · have c8 := c8b
    try simp only [BS] at c8
    obtain ⟨cf9, hv9⟩ := Sv.view (SR.sv hroots hs6)
    have g10 := fI (hv9 i)
    refine wr 1 [(4, .o (.int .i64 (roots.getD i 0))), (5, .o (.bool (decide (0 ≤ (roots.getD i 0)) && decide ((roots.getD i 0) < (l.length : Int)))))] 18 23 [] [(23, (.bool (decide (0 ≤ (roots.getD i 0)) && decide ((roots.getD i 0) < (l.length : Int)))))] (vA (Sv.ix (j := (i : Int)) (SR.sv hroots hs6) (by omega) (by omega)) (vA (ql 3 0 (vI (hv9 i) (by omega)) rfl rfl) (vA (isNode_c_q ex l (roots.getD i 0) (HS.call hs6) hl) trivial))) (by kernel_rfl) rfl fun gg11 => ?_
    refine wk_if 0 2 (v := (decide (0 ≤ (roots.getD i 0)) && decide ((roots.getD i 0) < (l.length : Int)))) rfl rfl rfl rfl (fun c12b => ?_) (fun c12b => ?_)
    · have c12 := c12b
      try simp only [BS] at c12
      have c1 := c12
      refine wk_region ?_
      obtain ⟨cf13, hv13⟩ := Sv.view (SR.sv hroots hs6)
      have g14 := fI (hv13 i)
      refine wro 6 0 [(4, .o (.int .i64 (roots.getD i 0)))] 24 29 [] [(29, (.pointer (some ⟨sB (.slice a3 (List.replicate l.length false).length k3), sO (.slice a3 (List.replicate l.length false).length k3) + ((roots.getD i 0).toNat) * Rp.sz Bool, none⟩)))] (vA (Sv.ix (j := (i : Int)) (SR.sv hroots hs6) (by omega) (by omega)) (vA (ql 3 0 (vI (hv13 i) (by omega)) rfl rfl) (vA (Sv.ix (j := (roots.getD i 0)) (OS.sv lh6_5 hs6 (i := 0) rfl) (by omega) (by omega)) trivial))) (by kernel_rfl) rfl fun gg15 => ?_
      refine wo_rk (rs_st (α := Bool) (j := (roots.getD i 0).toNat) (off := 0) (q := 0) true lh6_5 hs6 rfl rfl rfl rfl rfl rfl rfl rfl (getD_at (x := false) (by omega)) rfl (by rintro cs rfl; exact ⟨Nat.le_of_ble_eq_true rfl, rfl⟩)) rfl ?_
      rintro _ H18 p16 ⟨ho17, hs18, _⟩
      have hs18 : HS (Base.of H []) F6 H18 [p16] R := hs18
      have hnp16 := OS.len' ho17
      refine wo_end 2 rfl ?_
      refine wr 1 [] 16 17 [6] [(6, (.int .i64 ((i : Int) + 1)))] (vA (vi (n := (i : Int) + 1) (by omega)) trivial) (by kernel_rfl) rfl fun gg19 => ?_
      refine ih6 _ _ _ ?_ ⟨ms.set ((roots.getD i 0).toNat) true, i + 1, p16, _, (hF6), hs18, ho17, (agC rfl (agC rfl (agC rfl (agC rfl (agC rfl agN))))), rfl, (by first | exact h1.step (by omega) (by omega) (by omega) | exact h1.pass (pn c1)), (by first | assumption | omega | (simp at *; omega))⟩
      omega
    · have c12 := c12b
      try simp only [BS] at c12
      have c1 := c12
      refine wr 1 [] 16 17 [6] [(6, (.int .i64 ((i : Int) + 1)))] (vA (vi (n := (i : Int) + 1) (by omega)) trivial) (by kernel_rfl) rfl fun gg20 => ?_
      refine ih6 _ _ _ ?_ ⟨ms, i + 1, lp6_5, _, (hF6), hs6, lh6_5, (agC rfl (agC rfl (agC rfl (agC rfl (agC rfl agN))))), rfl, (by first | exact h1.step (by omega) (by omega) (by omega) | exact h1.pass (pn c1)), (by first | assumption | omega | (simp at *; omega))⟩
      omega
  · have c8 := c8b
    try simp only [BS] at c8
    have hfin := h1.fin (by omega)
    refine wk_region ?_
    refine wro 2 0 [] 30 31 [] [(30, (.slice a_l l.length k_l)), (31, (.slice a3 (List.replicate l.length false).length k3))] trivial (by kernel_rfl) rfl fun gg21 => ?_
    refine wo_call (ap_call rfl rfl rfl) rfl rfl (mark_c ex l ms (HS.callOwn hs6 (i := 0) rfl) hl lh6_5 (by omega) (by omega)) ?_
    rintro _ H22 ⟨msm22, pm22, F22, hF22, hs22, rfl, hm22, hk22, hr22, hc22⟩
    replace hs22 := HS.backOwn hs6 (i := 0) rfl rfl (fun _ hb => hb) hs22
    have hs22 : HS (Base.of H []) F22 H22 [pm22] R := hs22
    replace hl := hl.mono hF22
    replace hroots := hroots.mono hF22
    replace lh6_5 := lh6_5.mono hF22
    have ln22 := OS.len' hm22
    refine wo_end 2 rfl ?_
    refine wr 3 [] 1 0 [7] [(7, (.int .i64 0))] trivial (by kernel_rfl) rfl fun gg23 => ?_
    refine wr 2 [] 1 0 [8] [(8, (.int .i64 0))] trivial (by kernel_rfl) rfl fun gg24 => ?_
    refine wk_loop_inv (fun (mm : Nat) f H' => ∃ (sm : Int) (i2 : Nat) (F' : Fz), Fz.le F22 F' ∧ HS (Base.of H []) F' H' [pm22] R ∧ agrees f [(0, (.slice a_l l.length k_l)), (4, (.int .i64 0)), (5, (.slice a3 (List.replicate l.length false).length k3)), (7, (.int .i64 sm)), (8, (.int .i64 (i2 : Int)))] ∧ mm = l.length - i2 ∧ (sm = sumTo l (mkd msm22) i2) ∧ (i2 ≤ l.length)) _ ⟨0, 0, _, (Fz.le_refl _), hs22, (agC rfl (agC rfl (agC rfl (agC rfl (agC rfl agN))))), rfl, (by rfl), (by first | assumption | omega | (simp at *; omega))⟩ ?_
    rintro mm25 f25 H25 ⟨sm, i2, F25, hF25, hs25, hf25, rfl, g1, g2⟩ ih25
    refine wk_canon _ hf25 (fun gg25 => ?_)
    clear hf25
    replace hl := hl.mono hF25
    replace hm22 := hm22.mono hF25
    have sr := sum_rng (l := l) (m := mkd msm22) i2
    have nvr := nodeV_rng (l.getD i2 default).op
    refine wk_foc 2 rfl ?_
    refine wr 1 [] 33 36 [] [(36, (.bool (decide ((i2 : Int) < (l.length : Int)))))] trivial (by kernel_rfl) rfl fun gg26 => ?_
    refine wk_if 4 5 (v := (decide ((i2 : Int) < (l.length : Int)))) rfl rfl rfl rfl (fun c27b => ?_) (fun c27b => ?_)
    · have c27 := c27b
      try simp only [BS] at c27
      obtain ⟨cf28, hv28⟩ := Sv.view (OS.sv hm22 hs25 (i := 0) rfl)
      refine wr 1 [(3, .o (.bool (msm22.getD i2 false)))] 39 42 [] [(42, (.bool (msm22.getD i2 false)))] (vA (Sv.ix (j := (i2 : Int)) (OS.sv hm22 hs25 (i := 0) rfl) (by omega) (by omega)) (vA (ql 4 0 (vB (hv28 i2) (by omega)) rfl rfl) trivial)) (by kernel_rfl) rfl fun gg30 => ?_
      refine wk_if 0 2 (v := (msm22.getD i2 false)) rfl rfl rfl rfl (fun c31b => ?_) (fun c31b => ?_)
      · have c31 := c31b
        try simp only [BS] at c31
        have c3 := c31
        refine wk_region ?_
        obtain ⟨cf32, hv32⟩ := Sv.view (SR.sv hl hs25)
        obtain ⟨g33_0, g33_1, s33_2⟩ := NodeT.fx (hv32 i2)
        refine wro 5 0 [(4, .o (.agg ⟨[(.int .i64 ((l.getD i2 default).op)), (.int .i64 ((l.getD i2 default).imm)), (.slice (cA (cf32 i2) 2) ((l.getD i2 default).kids).length (cK (cf32 i2) 2))]⟩))] 43 47 [] [(43, (.int .i64 sm)), (47, (.agg ⟨[(.int .i64 ((l.getD i2 default).op)), (.int .i64 ((l.getD i2 default).imm)), (.slice (cA (cf32 i2) 2) ((l.getD i2 default).kids).length (cK (cf32 i2) 2))]⟩))] (vA (Sv.ix (j := (i2 : Int)) (SR.sv hl hs25) (by omega) (by omega)) (vA (qn 24 0 3 (NodeT.vw (hv32 i2) (by omega)) rfl rfl rfl rfl) trivial)) (by kernel_rfl) rfl fun gg34 => ?_
        refine wo_call (ap_call rfl rfl rfl) rfl rfl (k1.refNode_c ex (l.getD i2 default) (HS.call hs25) (by omega) (by omega) s33_2) ?_
        rintro _ H35 ⟨r35, F35, hF35, hs35, rfl, rfl⟩
        replace hs35 := HS.back hs25 rfl hs35
        have hs35 : HS (Base.of H []) F35 H35 [pm22] R := hs35
        replace hl := hl.mono hF35
        replace hm22 := hm22.mono hF35
        replace s33_2 := s33_2.mono hF35
        refine wro 2 6 [] 49 49 [7] [(7, (.int .i64 (sm + (nodeV (l.getD i2 default).op))))] (vA (vi (n := sm + (nodeV (l.getD i2 default).op)) (by omega)) trivial) (by kernel_rfl) rfl fun gg36 => ?_
        refine wo_end 2 rfl ?_
        refine wr 1 [] 37 38 [8] [(8, (.int .i64 ((i2 : Int) + 1)))] (vA (vi (n := (i2 : Int) + 1) (by omega)) trivial) (by kernel_rfl) rfl fun gg37 => ?_
        refine ih25 _ _ _ ?_ ⟨sm + (nodeV (l.getD i2 default).op), i2 + 1, _, (Fz.le_trans (hF25) hF35), hs35, (agC rfl (agC rfl (agC rfl (agC rfl (agC rfl agN))))), rfl, (by first | exact sumN g1 c3 | exact sumS g1 c3), (by first | assumption | omega | (simp at *; omega))⟩
        omega
      · have c31 := c31b
        try simp only [BS] at c31
        have c3 := c31
        refine wr 1 [] 37 38 [8] [(8, (.int .i64 ((i2 : Int) + 1)))] (vA (vi (n := (i2 : Int) + 1) (by omega)) trivial) (by kernel_rfl) rfl fun gg38 => ?_
        refine ih25 _ _ _ ?_ ⟨sm, i2 + 1, _, (hF25), hs25, (agC rfl (agC rfl (agC rfl (agC rfl (agC rfl agN))))), rfl, (by first | exact sumN g1 c3 | exact sumS g1 c3), (by first | assumption | omega | (simp at *; omega))⟩
        omega
    · have c27 := c27b
      try simp only [BS] at c27
      refine wr 1 [] 4 4 [50] [(4, (.int .i64 sm))] trivial (by kernel_rfl) rfl fun gg39 => ?_
      refine wk_ret ⟨.inr rfl, _, rfl, sm, _, (Fz.le_trans (Fz.le_trans (hF6) hF22) hF25), (HS.forget hs25), rfl, (by rw [g1, ile g2 (by omega)]; exact MK.fin ((by assumption : ∀ roots, MK l roots ms → MK l roots _) roots hfin) (by assumption))⟩
end Go.Proofs.Ytcakpkdeojhacaa.k3
