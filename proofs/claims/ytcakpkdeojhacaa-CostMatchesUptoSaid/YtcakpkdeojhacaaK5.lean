/-
  The generator of nodes, whole, and the change of one node, each by a symbolic run. No condition but that arguments are words.
-/
import Derived.Test.YtcakpkdeojhacaaK4
noncomputable section
namespace Go.Proofs.Ytcakpkdeojhacaa.k5
open Go.R
set_option maxRecDepth 10000
set_option linter.unusedVariables false
theorem ql {H : Heap} {b o : Nat} {cs : List Value} {w : Value} (t : TypeId) (i : Nat) (hc : HC H.get b o cs) (ha : aggOf Try.prog t = some false) (hv : cs[i]? = some w) : LDv Try.prog H t (.pointer (some ⟨b, o + i, none⟩)) w := ld1 hc ha hv
theorem qn {H : Heap} {b o : Nat} {cs l : List Value} (t : TypeId) (i n : Nat) (hc : HC H.get b o cs) (ha : aggOf Try.prog t = some true) (hs : szOf Try.prog t = some n) (hn : Nat.ble (i + n) cs.length = true) (hl : takeL (dropL cs i) n = l) : LDv Try.prog H t (.pointer (some ⟨b, o + i, none⟩)) (.agg ⟨l⟩) := ldN hc ha hs hn hl
open k1 k2 k3 k4
structure GB (l : Nds) (n k : Nat) : Prop where
  len : l.length ≤ n
  kds : ∀ x ∈ l, x.kids.length ≤ k
theorem GB.at {l : Nds} {n k : Nat} (h : GB l n k) (i : Nat) : (l.getD i default).kids.length ≤ k := by
  rcases Nat.lt_or_ge i l.length with hi | hi
  · exact h.kds _ (getD_mem hi)
  · rw [getD_out hi]; exact Nat.zero_le _
theorem GB.app {l : Nds} {n k : Nat} {x : NodeT} (h : GB l n k) (hx : x.kids.length ≤ k) : GB (l ++ [x]) (n + 1) k :=
  ⟨by rw [List.length_append, List.length_singleton]; have := h.len; omega, fun y hy => by
    rcases List.mem_append.1 hy with hy | hy
    · exact h.kds y hy
    · rw [List.mem_singleton] at hy; rw [hy]; exact hx⟩
theorem GB.mono {l : Nds} {n n' k : Nat} (h : GB l n k) (hn : n ≤ n') : GB l n' k := ⟨Nat.le_trans h.len hn, h.kds⟩
theorem gdN {a b : Nds} {j : Nat} (h : j < a.length) : (a ++ b).getD j default = a.getD j default := by
  rw [List.getD_eq_getElem?_getD, List.getD_eq_getElem?_getD, List.getElem?_append_left h]
theorem NdOK.app {l : Nds} {x : NodeT} (h : NdOK l) (hx : okOp x.op) : NdOK (l ++ [x]) :=
  ⟨fun y hy => by
    rcases List.mem_append.1 hy with hy | hy
    · exact h.ok y hy
    · rw [List.mem_singleton] at hy; rw [hy]; exact hx, by rw [List.length_append]; have := h.l3; omega, by rw [gdN (by have := h.l3; omega)]; exact h.n0, by rw [gdN (by have := h.l3; omega)]; exact h.n2⟩
theorem of4 {l : Nds} {i : Nat} {s al : List Int} {st : Int} (hs : srtF l l.length s) (hi : i < l.length) (h4 : 0 < i → st = 1 → 0 < al.length) (h5 : 2 < i → st = 2 → 0 < al.length) (c : ¬ s.getD i 0 = st) : (0 < i + 1 → st = 1 → 0 < al.length) ∧ (2 < i + 1 → st = 2 → 0 < al.length) := by
  refine ⟨fun _ e => ?_, fun hi2 e => ?_⟩
  · rcases Nat.eq_zero_or_pos i with rfl | h
    · exact absurd (by rw [hs.2.1 hi, e]) c
    · exact h4 h e
  · rcases Nat.lt_or_ge 2 i with h | h
    · exact h5 h e
    · have : i = 2 := by omega
      subst this; exact absurd (by rw [hs.2.2 (by omega), e]) c
theorem app_rng {al : List Int} {i n : Nat} (h : ∀ x ∈ al, 0 ≤ x ∧ x < (n : Int)) (hi : i < n) : ∀ x ∈ al ++ [(i : Int)], 0 ≤ x ∧ x < (n : Int) := by
  intro x hx
  rcases List.mem_append.1 hx with hx | hx
  · exact h x hx
  · rw [List.mem_singleton] at hx; omega
theorem lit5 {k : Nat} (h : k < 5) : okOp (([23, 27, 28, 29, 24] : List Int).getD k 0) := by
  have : k = 0 ∨ k = 1 ∨ k = 2 ∨ k = 3 ∨ k = 4 := by omega
  rcases this with rfl | rfl | rfl | rfl | rfl <;> (unfold okOp; simp)
theorem ar_rng {op : Int} (h : okOp op) : 0 ≤ arV op ∧ arV op ≤ 3 := by
  unfold okOp at h; unfold arV; (repeat' split) <;> omega

theorem of_c (ex : FuncId) {a_l : Option Addr} {k_l : Nat} (l : List NodeT) (sort : Int) (n : Int) {F : Fz} {H : Heap} {R : List Fp} (hs : HS (.of H []) F H [] R) (hl : SR F (.slice a_l l.length k_l) l) (hn : in64 n) (hg : NdOK l) (hb : GB l 1000 1000) (hst : sort = 1 ∨ sort = 2) : C Try.prog 0 (KX ex) 34 [(.slice a_l l.length k_l), (.int .i64 sort), (.int .i64 n)] H fun v H' => ∃ (r : Int) (F' : Fz), Fz.le F F' ∧ HS (.of H []) F' H' [] R ∧ v = .int .i64 r ∧ (0 ≤ r ∧ r < (l.length : Int)) := by
  refine c_enter Try.func34 rfl rfl ?_
  refine wk_foc 1 rfl ?_
  refine wr 2 [] 6 6 [] [(6, (.int .i64 0))] trivial (by kernel_rfl) rfl fun gg1 => ?_
  refine wk_region ?_
  refine wm (.slice a_l l.length k_l) rfl rfl rfl ?_
  refine wo_call (ap_call rfl rfl rfl) rfl rfl (k4.sorts_c ex l (HS.call hs) hl (by first | exact hg | exact ⟨hb.len, fun i => hb.at i⟩) (by first | exact hg | exact ⟨hb.len, fun i => hb.at i⟩)) ?_
  rintro _ H2 ⟨ar2, kr2, r2, p2, F2, hF2, hs2, rfl, hrr2, h2⟩
  replace hs2 := HS.back hs rfl hs2
  have hs2 : HS (Base.of H []) F2 H2 [p2] R := hs2
  replace hl := hl.mono hF2
  refine wa (.slice ar2 r2.length kr2) rfl rfl rfl ?_
  refine wo_end 2 rfl ?_
  refine wr 3 [] 1 0 [8] [(8, (.slice none 0 0))] trivial (by kernel_rfl) rfl fun gg3 => ?_
  refine wr 2 [] 1 0 [9] [(9, (.int .i64 0))] trivial (by kernel_rfl) rfl fun gg4 => ?_
  have hs6 := HS.snoc hs2
  have hs6 : HS (Base.of H []) F2 H2 [p2, []] R := hs6
  refine wk_loop_inv (fun (mm : Nat) f H' => ∃ (al : List Int) (i : Nat) (la5_8 : Option Addr) (lk5_8 : Nat) (lp5_8 : Fp) (F' : Fz), Fz.le F2 F' ∧ HS (Base.of H []) F' H' [p2, lp5_8] R ∧ OS F' (.slice la5_8 al.length lk5_8) al lp5_8 ∧ agrees f [(0, (.slice a_l l.length k_l)), (1, (.int .i64 sort)), (2, (.int .i64 n)), (6, (.int .i64 0)), (7, (.slice ar2 r2.length kr2)), (8, (.slice la5_8 al.length lk5_8)), (9, (.int .i64 (i : Int)))] ∧ mm = l.length - i ∧ (i ≤ l.length) ∧ (∀ x ∈ al, 0 ≤ x ∧ x < (l.length : Int)) ∧ (0 < i → sort = 1 → 0 < al.length) ∧ (2 < i → sort = 2 → 0 < al.length) ∧ (al.length ≤ i)) _ ⟨([] : List Int), 0, none, 0, [], _, (Fz.le_refl _), hs6, (OS.nil : OS F2 (.slice none 0 0) ([] : List Int) []), (agC rfl (agC rfl (agC rfl (agC rfl (agC rfl (agC rfl (agC rfl agN))))))), rfl, (by first | assumption | omega | (simp at *; omega)), (by intro x hx; simp at hx), (by intro h; omega), (by intro h; omega), (by exact Nat.le_refl _)⟩ ?_
  rintro mm5 f5 H5 ⟨al, i, la5_8, lk5_8, lp5_8, F5, hF5, hs5, lh5_8, hf5, rfl, h1, h3, h4, h5, h6⟩ ih5
  refine wk_canon _ hf5 (fun gg5 => ?_)
  clear hf5
  replace hl := hl.mono hF5
  replace hrr2 := hrr2.mono hF5
  have hsf : srtF l l.length r2 := by assumption
  have hsl := hsf.1
  have hgl := hb.len
  have hg3 := hg.l3
  refine wk_foc 2 rfl ?_
  refine wr 1 [] 12 15 [] [(15, (.bool (decide ((i : Int) < (l.length : Int)))))] trivial (by kernel_rfl) rfl fun gg7 => ?_
  refine wk_if 4 5 (v := (decide ((i : Int) < (l.length : Int)))) rfl rfl rfl rfl (fun c8b => ?_) (fun c8b => ?_)
  · have c8 := c8b
    try simp only [BS] at c8
    obtain ⟨cf9, hv9⟩ := Sv.view (OS.sv hrr2 hs5 (i := 0) rfl)
    have g10 := fI (hv9 i)
    refine wr 1 [(3, .o (.int .i64 (r2.getD i 0)))] 18 23 [] [(23, (.bool ((r2.getD i 0) == sort)))] (vA (Sv.ix (j := (i : Int)) (OS.sv hrr2 hs5 (i := 0) rfl) (by omega) (by omega)) (vA (ql 3 0 (vI (hv9 i) (by omega)) rfl rfl) trivial)) (by kernel_rfl) rfl fun gg11 => ?_
    refine wk_if 0 2 (v := ((r2.getD i 0) == sort)) rfl rfl rfl rfl (fun c12b => ?_) (fun c12b => ?_)
    · have c12 := c12b
      try simp only [BS] at c12
      have c1 := c12
      refine wk_region ?_
      refine wro 2 0 [] 24 25 [] [(24, (.slice la5_8 al.length lk5_8)), (25, (.int .i64 (i : Int)))] trivial (by kernel_rfl) rfl fun gg13 => ?_
      refine wo_rs (rs_lit (α := Int) (ps := [(0, (.int .i64 (i : Int)))]) (cells := [(.int .i64 (i : Int))]) ([(i : Int)] : List Int) hs5 rfl rfl rfl (by kernel_rfl) ⟨[(.int .i64 (i : Int))], [], rfl, ⟨rfl, by omega⟩, rfl⟩ rfl) rfl rfl ?_
      rintro _ H15 p14 ⟨a14, k14, rfl, ho14, hs15, _⟩
      have hs15 : HS (Base.of H []) F5 H15 [p2, lp5_8, p14] R := hs15
      refine wo_rs (rs_app (α := Int) (q := 1) lh5_8 hs15 rfl rfl rfl (OS.sv ho14 hs15 (i := 2) rfl) rfl rfl rfl rfl rfl rfl rfl (by simp only [List.length_append, List.length_cons, List.length_nil]; omega)) rfl rfl ?_
      rintro _ H17 p16 ⟨a16, k16, rfl, ho16, hs17, _⟩
      have hs17 : HS (Base.of H []) F5 H17 [p2, p16, p14] R := hs17
      refine wa (.slice a16 (al ++ ([(i : Int)] : List Int)).length k16) rfl rfl rfl ?_
      refine wo_end 2 rfl ?_
      refine wr 1 [] 16 17 [9] [(9, (.int .i64 ((i : Int) + 1)))] (vA (vi (n := (i : Int) + 1) (by omega)) trivial) (by kernel_rfl) rfl fun gg18 => ?_
      refine ih5 _ _ _ ?_ ⟨al ++ ([(i : Int)] : List Int), i + 1, a16, k16, p16, _, (hF5), (HS.sub hs17 (List.sublist_append_left _ _)), ho16, (agC rfl (agC rfl (agC rfl (agC rfl (agC rfl (agC rfl (agC rfl agN))))))), rfl, (by first | assumption | omega | (simp at *; omega)), (by first | exact h3 | exact app_rng h3 (by omega)), (by first | exact (of4 hsf (by omega) h4 h5 c1).1 | (intro _ _; simp)), (by first | exact (of4 hsf (by omega) h4 h5 c1).2 | (intro _ _; simp)), (by first | omega | (simp; omega))⟩
      omega
    · have c12 := c12b
      try simp only [BS] at c12
      have c1 := c12
      refine wr 1 [] 16 17 [9] [(9, (.int .i64 ((i : Int) + 1)))] (vA (vi (n := (i : Int) + 1) (by omega)) trivial) (by kernel_rfl) rfl fun gg19 => ?_
      refine ih5 _ _ _ ?_ ⟨al, i + 1, la5_8, lk5_8, lp5_8, _, (hF5), hs5, lh5_8, (agC rfl (agC rfl (agC rfl (agC rfl (agC rfl (agC rfl (agC rfl agN))))))), rfl, (by first | assumption | omega | (simp at *; omega)), (by first | exact h3 | exact app_rng h3 (by omega)), (by first | exact (of4 hsf (by omega) h4 h5 c1).1 | (intro _ _; simp)), (by first | exact (of4 hsf (by omega) h4 h5 c1).2 | (intro _ _; simp)), (by first | omega | (simp; omega))⟩
      omega
  · have c8 := c8b
    try simp only [BS] at c8
    have fq20 := pick_imp n (al.length : Int)
    obtain ⟨cf21, hv21⟩ := Sv.view (OS.sv lh5_8 hs5 (i := 1) rfl)
    have g22 := fI (hv21 ((((al.length : Int) - 1) - (pickV n (al.length : Int))).toNat))
    refine wr 1 [(7, .o (.int .i64 (pickV n (al.length : Int)))), (10, .o (.int .i64 (al.getD ((((al.length : Int) - 1) - (pickV n (al.length : Int))).toNat) 0)))] 28 38 [6] [(6, (.int .i64 (al.getD ((((al.length : Int) - 1) - (pickV n (al.length : Int))).toNat) 0)))] (vA (vi (n := (al.length : Int) - 1) (by omega)) (vA (k1.pick_c_q ex n (al.length : Int) H5 (by omega)) (vA (vi (n := ((al.length : Int) - 1) - (pickV n (al.length : Int))) (by omega)) (vA (Sv.ix (j := ((al.length : Int) - 1) - (pickV n (al.length : Int))) (OS.sv lh5_8 hs5 (i := 1) rfl) (by omega) (by omega)) (vA (ql 3 0 (vI (hv21 ((((al.length : Int) - 1) - (pickV n (al.length : Int))).toNat)) (by omega)) rfl rfl) trivial))))) (by kernel_rfl) rfl fun gg23 => ?_
    refine wk_ret ⟨.inr rfl, _, rfl, (al.getD ((((al.length : Int) - 1) - (pickV n (al.length : Int))).toNat) 0), _, (Fz.le_trans (hF2) hF5), (HS.forget hs5), rfl, (by exact h3 _ (getD_mem (by omega)))⟩

theorem init_gd : NdOK ([⟨2, 0, []⟩, ⟨2, 1, []⟩, ⟨26, 0, []⟩] : List NodeT) := ⟨by intro x hx; simp at hx; rcases hx with rfl | rfl | rfl <;> (unfold okOp; simp), by simp, ⟨rfl, rfl, rfl⟩, ⟨rfl, rfl, rfl⟩⟩
theorem init_gb : GB ([⟨2, 0, []⟩, ⟨2, 1, []⟩, ⟨26, 0, []⟩] : List NodeT) (3 + 0) 3 := ⟨by simp, by intro x hx; simp at hx; rcases hx with rfl | rfl | rfl <;> simp⟩

theorem nodes_c (ex : FuncId) {a_l : Option Addr} {k_l : Nat} (l : List Int) (values : Bool) {F : Fz} {H : Heap} {R : List Fp} (hs : HS (.of H []) F H [] R) (hl : SR F (.slice a_l l.length k_l) l) : C Try.prog 0 (KX ex) 18 [(.slice a_l l.length k_l), (.bool values)] H fun v H' => ∃ (ar : Option Addr) (kr : Nat) (r : List NodeT) (p : Fp) (F' : Fz), Fz.le F F' ∧ HS (.of H []) F' H' [p] R ∧ v = .slice ar r.length kr ∧ OS F' (.slice ar r.length kr) r p ∧ (NdOK r) ∧ (GB r 17 3) := by
  refine c_enter Try.func18 rfl rfl ?_
  refine wk_foc 1 rfl ?_
  refine wr 2 [] 4 4 [] [(4, (.slice none 0 0))] trivial (by kernel_rfl) rfl fun gg1 => ?_
  refine wk_region ?_
  refine wro 3 0 [] 12 14 [] [(12, (.agg ⟨[(.int .i64 2), (.int .i64 0), (.slice none 0 0)]⟩)), (13, (.agg ⟨[(.int .i64 2), (.int .i64 1), (.slice none 0 0)]⟩)), (14, (.agg ⟨[(.int .i64 26), (.int .i64 0), (.slice none 0 0)]⟩))] trivial (by kernel_rfl) rfl fun gg2 => ?_
  refine wo_rs (rs_lit (α := NodeT) (ps := [(0, (.agg ⟨[(.int .i64 2), (.int .i64 0), (.slice none 0 0)]⟩)), (1, (.agg ⟨[(.int .i64 2), (.int .i64 1), (.slice none 0 0)]⟩)), (2, (.agg ⟨[(.int .i64 26), (.int .i64 0), (.slice none 0 0)]⟩))]) (cells := [(.int .i64 2), (.int .i64 0), (.slice none 0 0), (.int .i64 2), (.int .i64 1), (.slice none 0 0), (.int .i64 26), (.int .i64 0), (.slice none 0 0)]) ([(⟨2, 0, ([] : List Int)⟩ : NodeT), (⟨2, 1, ([] : List Int)⟩ : NodeT), (⟨26, 0, ([] : List Int)⟩ : NodeT)] : List NodeT) hs rfl rfl rfl (by kernel_rfl) ⟨[(.int .i64 2), (.int .i64 0), (.slice none 0 0)], [(.int .i64 2), (.int .i64 1), (.slice none 0 0), (.int .i64 26), (.int .i64 0), (.slice none 0 0)], rfl, ⟨none, 0, rfl, by first | omega | decide | (dsimp only; omega), by first | omega | decide | (dsimp only; omega), SR.nil⟩, ⟨[(.int .i64 2), (.int .i64 1), (.slice none 0 0)], [(.int .i64 26), (.int .i64 0), (.slice none 0 0)], rfl, ⟨none, 0, rfl, by first | omega | decide | (dsimp only; omega), by first | omega | decide | (dsimp only; omega), SR.nil⟩, ⟨[(.int .i64 26), (.int .i64 0), (.slice none 0 0)], [], rfl, ⟨none, 0, rfl, by first | omega | decide | (dsimp only; omega), by first | omega | decide | (dsimp only; omega), SR.nil⟩, rfl⟩⟩⟩ rfl) rfl rfl ?_
  rintro _ H4 p3 ⟨a3, k3, rfl, ho3, hs4, _⟩
  have hs4 : HS (Base.of H []) F H4 [p3] R := hs4
  refine wa (.slice a3 ([(⟨2, 0, ([] : List Int)⟩ : NodeT), (⟨2, 1, ([] : List Int)⟩ : NodeT), (⟨26, 0, ([] : List Int)⟩ : NodeT)] : List NodeT).length k3) rfl rfl rfl ?_
  refine wo_end 3 rfl ?_
  refine wr 2 [] 1 0 [6] [(6, (.int .i64 0))] trivial (by kernel_rfl) rfl fun gg5 => ?_
  refine wk_loop_inv (fun (mm : Nat) f H' => ∃ (out : List NodeT) (i : Nat) (la6_5 : Option Addr) (lk6_5 : Nat) (lp6_5 : Fp) (F' : Fz), Fz.le F F' ∧ HS (Base.of H []) F' H' [lp6_5] R ∧ OS F' (.slice la6_5 out.length lk6_5) out lp6_5 ∧ agrees f [(0, (.slice a_l l.length k_l)), (1, (.bool values)), (4, (.slice none 0 0)), (5, (.slice la6_5 out.length lk6_5)), (6, (.int .i64 (i : Int)))] ∧ mm = 14 - i ∧ (i ≤ 14) ∧ (NdOK out) ∧ (GB out (3 + i) 3)) _ ⟨([(⟨2, 0, ([] : List Int)⟩ : NodeT), (⟨2, 1, ([] : List Int)⟩ : NodeT), (⟨26, 0, ([] : List Int)⟩ : NodeT)] : List NodeT), 0, a3, k3, p3, _, (Fz.le_refl _), hs4, ho3, (agC rfl (agC rfl (agC rfl (agC rfl (agC rfl agN))))), rfl, (by first | assumption | omega | (simp at *; omega)), (by exact init_gd), (by exact init_gb)⟩ ?_
  rintro mm6 f6 H6 ⟨out, i, la6_5, lk6_5, lp6_5, F6, hF6, hs6, lh6_5, hf6, rfl, h1, hg, hb⟩ ih6
  refine wk_canon _ hf6 (fun gg6 => ?_)
  clear hf6
  replace hl := hl.mono hF6
  have hbl := hb.len
  refine wk_foc 2 rfl ?_
  refine wr 1 [] 16 23 [] [(23, (.bool ((decide ((i : Int) < (l.length : Int))) && (decide ((i : Int) < 14)))))] trivial (by kernel_rfl) rfl fun gg7 => ?_
  refine wk_if 4 5 (v := ((decide ((i : Int) < (l.length : Int))) && (decide ((i : Int) < 14)))) rfl rfl rfl rfl (fun c8b => ?_) (fun c8b => ?_)
  · have c8 := c8b
    try simp only [BS] at c8
    refine wf_region rfl ?_
    refine fm (.slice a_l l.length k_l) rfl rfl rfl ?_
    refine fm (.int .i64 (i : Int)) rfl rfl rfl ?_
    refine wf_pure (v := (.pointer (some ⟨sB (.slice a_l l.length k_l), sO (.slice a_l l.length k_l) + i * Rp.sz Int, none⟩))) (id := .v) (ap_idxV (α := Int) (j := (i : Int)) rfl rfl rfl rfl (SR.sv hl hs6.log0) (by first | omega | decide | (dsimp only; omega)) (by first | omega | decide | (dsimp only; omega))) rfl rfl (did_v rfl) (okD_v _) ?_
    obtain ⟨cs9, hr9, hc9⟩ := Sv.at (SR.sv hl hs6.log0) (getD_at (x := (0 : Int)) (show i < l.length from by first | omega | decide | (dsimp only; omega)))
    obtain ⟨rfl, g10_0⟩ := hr9
    refine wf_pure (v := (.int .i64 (l.getD i 0))) (id := .l (sB (.slice a_l l.length k_l))) (ap_ld1 (i := 0) rfl rfl hc9 rfl rfl) rfl rfl (did_l rfl) (⟨.inl rfl, ⟨.inl rfl, ⟨.inl rfl, trivial⟩⟩⟩) ?_
    have tq11 : in64 (l.getD i 0) → in64 (Int.tdiv (l.getD i 0) 7) := fun h => vq h (by decide)
    refine wf_pure (v := (.int .i64 (Int.tdiv (l.getD i 0) 7))) (id := .v) (ap_div rfl rfl (by decide) (w_tdiv (by first | omega | decide | (dsimp only; omega)) (by decide))) rfl rfl (did_v rfl) (okD_v _) ?_
    refine fm (.slice a_l l.length k_l) rfl rfl rfl ?_
    refine fm (.int .i64 (i : Int)) rfl rfl rfl ?_
    refine wf_pure (v := (.pointer (some ⟨sB (.slice a_l l.length k_l), sO (.slice a_l l.length k_l) + i * Rp.sz Int, none⟩))) (id := .v) (ap_idxV (α := Int) (j := (i : Int)) rfl rfl rfl rfl (SR.sv hl hs6.log0) (by first | omega | decide | (dsimp only; omega)) (by first | omega | decide | (dsimp only; omega))) rfl rfl (did_v rfl) (okD_v _) ?_
    obtain ⟨cs12, hr12, hc12⟩ := Sv.at (SR.sv hl hs6.log0) (getD_at (x := (0 : Int)) (show i < l.length from by first | omega | decide | (dsimp only; omega)))
    obtain ⟨rfl, g13_0⟩ := hr12
    refine wf_pure (v := (.int .i64 (l.getD i 0))) (id := .l (sB (.slice a_l l.length k_l))) (ap_ld1 (i := 0) rfl rfl hc12 rfl rfl) rfl rfl (did_l rfl) (⟨.inl rfl, ⟨.inl rfl, ⟨.inl rfl, ⟨.inr trivial, ⟨.inr trivial, ⟨.inr trivial, ⟨.inr trivial, ⟨.inr trivial, trivial⟩⟩⟩⟩⟩⟩⟩⟩) ?_
    have tq14 : in64 (l.getD i 0) → in64 (Int.tdiv (l.getD i 0) 101) := fun h => vq h (by decide)
    refine wf_pure (v := (.int .i64 (Int.tdiv (l.getD i 0) 101))) (id := .v) (ap_div rfl rfl (by decide) (w_tdiv (by first | omega | decide | (dsimp only; omega)) (by decide))) rfl rfl (did_v rfl) (okD_v _) ?_
    refine fm (.slice a_l l.length k_l) rfl rfl rfl ?_
    refine fm (.int .i64 (i : Int)) rfl rfl rfl ?_
    refine wf_pure (v := (.pointer (some ⟨sB (.slice a_l l.length k_l), sO (.slice a_l l.length k_l) + i * Rp.sz Int, none⟩))) (id := .v) (ap_idxV (α := Int) (j := (i : Int)) rfl rfl rfl rfl (SR.sv hl hs6.log0) (by first | omega | decide | (dsimp only; omega)) (by first | omega | decide | (dsimp only; omega))) rfl rfl (did_v rfl) (okD_v _) ?_
    obtain ⟨cs15, hr15, hc15⟩ := Sv.at (SR.sv hl hs6.log0) (getD_at (x := (0 : Int)) (show i < l.length from by first | omega | decide | (dsimp only; omega)))
    obtain ⟨rfl, g16_0⟩ := hr15
    refine wf_pure (v := (.int .i64 (l.getD i 0))) (id := .l (sB (.slice a_l l.length k_l))) (ap_ld1 (i := 0) rfl rfl hc15 rfl rfl) rfl rfl (did_l rfl) (⟨.inl rfl, ⟨.inl rfl, ⟨.inl rfl, ⟨.inr trivial, ⟨.inr trivial, ⟨.inr trivial, ⟨.inr trivial, ⟨.inr trivial, ⟨.inr trivial, ⟨.inr trivial, ⟨.inr trivial, ⟨.inr trivial, ⟨.inr trivial, trivial⟩⟩⟩⟩⟩⟩⟩⟩⟩⟩⟩⟩⟩) ?_
    have tq17 : in64 (l.getD i 0) → in64 (Int.tdiv (l.getD i 0) 1009) := fun h => vq h (by decide)
    refine wf_pure (v := (.int .i64 (Int.tdiv (l.getD i 0) 1009))) (id := .v) (ap_div rfl rfl (by decide) (w_tdiv (by first | omega | decide | (dsimp only; omega)) (by decide))) rfl rfl (did_v rfl) (okD_v _) ?_
    refine wf_rs (id := .a) (rs_lit (α := Int) (ps := [(0, (.int .i64 (Int.tdiv (l.getD i 0) 7))), (1, (.int .i64 (Int.tdiv (l.getD i 0) 101))), (2, (.int .i64 (Int.tdiv (l.getD i 0) 1009)))]) (cells := [(.int .i64 (Int.tdiv (l.getD i 0) 7)), (.int .i64 (Int.tdiv (l.getD i 0) 101)), (.int .i64 (Int.tdiv (l.getD i 0) 1009))]) ([Int.tdiv (l.getD i 0) 7, Int.tdiv (l.getD i 0) 101, Int.tdiv (l.getD i 0) 1009] : List Int) hs6.log0 rfl rfl rfl (by kernel_rfl) ⟨[(.int .i64 (Int.tdiv (l.getD i 0) 7))], [(.int .i64 (Int.tdiv (l.getD i 0) 101)), (.int .i64 (Int.tdiv (l.getD i 0) 1009))], rfl, ⟨rfl, by first | omega | decide | (dsimp only; omega)⟩, ⟨[(.int .i64 (Int.tdiv (l.getD i 0) 101))], [(.int .i64 (Int.tdiv (l.getD i 0) 1009))], rfl, ⟨rfl, by first | omega | decide | (dsimp only; omega)⟩, ⟨[(.int .i64 (Int.tdiv (l.getD i 0) 1009))], [], rfl, ⟨rfl, by first | omega | decide | (dsimp only; omega)⟩, rfl⟩⟩⟩ rfl) rfl rfl (fun _ _ _ _ => did_a rfl rfl rfl) (⟨.inl rfl, ⟨.inl rfl, ⟨.inl rfl, ⟨.inl rfl, ⟨.inl rfl, ⟨.inl rfl, ⟨.inl rfl, ⟨.inl rfl, ⟨.inl rfl, ⟨.inl rfl, ⟨.inl rfl, ⟨.inl rfl, ⟨.inl rfl, ⟨.inl rfl, ⟨.inl rfl, trivial⟩⟩⟩⟩⟩⟩⟩⟩⟩⟩⟩⟩⟩⟩⟩) ?_
    rintro _ H19 p18 ⟨a18, k18, rfl, ho18, hs19, _⟩ lg19 hlg19
    replace hs19 := HS.lg hs19 hs6 hlg19
    generalize ({ H19 with log := lg19 } : Heap) = H19g at hs19 ⊢
    have hs19 : HS (Base.of H []) F6 H19g [lp6_5, p18] R := hs19
    refine wf_pure (v := (.agg ⟨[(.slice a18 ([Int.tdiv (l.getD i 0) 7, Int.tdiv (l.getD i 0) 101, Int.tdiv (l.getD i 0) 1009] : List Int).length k18), (.int .i64 0)]⟩)) (id := .v) (ap_bld rfl rfl (by kernel_rfl)) rfl rfl (did_v rfl) (okD_v _) ?_
    refine wf_rs (id := .a) (rs_box hs19.log0 rfl rfl) rfl rfl (fun _ _ _ _ => did_a rfl rfl rfl) (⟨.inl rfl, ⟨.inl rfl, ⟨.inl rfl, ⟨.inl rfl, ⟨.inl rfl, ⟨.inl rfl, ⟨.inl rfl, ⟨.inl rfl, ⟨.inl rfl, ⟨.inl rfl, ⟨.inl rfl, ⟨.inl rfl, ⟨.inl rfl, ⟨.inl rfl, ⟨.inl rfl, ⟨.inl rfl, ⟨.inl rfl, trivial⟩⟩⟩⟩⟩⟩⟩⟩⟩⟩⟩⟩⟩⟩⟩⟩⟩) ?_
    rintro _ H21 _ ⟨b20, rfl, hs21, _⟩ lg21 hlg21
    replace hs21 := HS.lg hs21 hs19 hlg21
    generalize ({ H21 with log := lg21 } : Heap) = H21g at hs21 ⊢
    have hs21 : HS (Base.of H []) F6 H21g [lp6_5, p18, [(b20, .cells [(.slice a18 ([Int.tdiv (l.getD i 0) 7, Int.tdiv (l.getD i 0) 101, Int.tdiv (l.getD i 0) 1009] : List Int).length k18), (.int .i64 0)] none false)]] R := hs21
    refine fa (.pointer (some ⟨b20, 0, none⟩)) rfl rfl rfl ?_
    refine wf_nil ?_
    refine wk_foc 2 rfl ?_
    refine wk_region ?_
    obtain ⟨cf22, hv22⟩ := Sv.view (SR.sv hl hs21)
    have g23 := fI (hv22 i)
    have fq24 := pick_imp (l.getD i 0) (19 : Int)
    refine wro 7 0 [(3, .o (.int .i64 (l.getD i 0))), (4, .o (.int .i64 (pickV (l.getD i 0) (19 : Int))))] 44 50 [] [(50, (.agg ⟨[(.int .i64 (4 + (pickV (l.getD i 0) (19 : Int)))), (.int .i64 0), (.slice none 0 0)]⟩))] (vA (Sv.ix (j := (i : Int)) (SR.sv hl hs21) (by first | omega | decide | (dsimp only; omega)) (by first | omega | decide | (dsimp only; omega))) (vA (ql 3 0 (vI (hv22 i) (by first | omega | decide | (dsimp only; omega))) rfl rfl) (vA (k1.pick_c_q ex (l.getD i 0) (19) H21g (by first | omega | decide | (dsimp only; omega))) (vA (vi (n := 4 + (pickV (l.getD i 0) (19 : Int))) (by first | omega | decide | (dsimp only; omega))) trivial)))) (by kernel_rfl) rfl fun gg25 => ?_
    refine wo_rs (rs_new hs21 rfl) rfl rfl ?_
    rintro _ H27 _ ⟨b26, rfl, hs27, _⟩
    have hs27 : HS (Base.of H []) F6 H27 [lp6_5, p18, [(b20, .cells [(.slice a18 ([Int.tdiv (l.getD i 0) 7, Int.tdiv (l.getD i 0) 101, Int.tdiv (l.getD i 0) 1009] : List Int).length k18), (.int .i64 0)] none false)], [(b26, .cells [(.int .i64 0), (.int .i64 0), (.slice none 0 0)] none false)]] R := hs27
    refine wo_rk (rs_rec (q := 3) hs27 rfl rfl rfl rfl rfl rfl rfl rfl rfl) rfl ?_
    rintro _ H28 _ ⟨hs28, _⟩
    have hs28 : HS (Base.of H []) F6 H28 [lp6_5, p18, [(b20, .cells [(.slice a18 ([Int.tdiv (l.getD i 0) 7, Int.tdiv (l.getD i 0) 101, Int.tdiv (l.getD i 0) 1009] : List Int).length k18), (.int .i64 0)] none false)], [(b26, .cells [(.int .i64 (4 + (pickV (l.getD i 0) (19 : Int)))), (.int .i64 0), (.slice none 0 0)] none false)]] R := hs28
    refine wo_end 3 rfl ?_
    obtain ⟨cf29, hv29⟩ := Sv.view (SR.sv hl hs28)
    have g30 := fI (hv29 i)
    have fq31 := pick_imp (l.getD i 0) (9 : Int)
    refine wr 1 [(6, .o (.int .i64 (l.getD i 0))), (7, .o (.int .i64 (pickV (l.getD i 0) (9 : Int))))] 51 60 [] [(60, (.bool ((!values) && (decide ((5 : Int) < pickV (l.getD i 0) (9 : Int))))))] (vA (fun (g1 : (!values) = true) => (Sv.ix (j := (i : Int)) (SR.sv hl hs28) (by (try simp only [BS] at g1); (first | omega | decide | (dsimp only; omega))) (by (try simp only [BS] at g1); (first | omega | decide | (dsimp only; omega))))) (vA (fun (g1 : (!values) = true) => (ql 3 0 (vI (hv29 i) (by (try simp only [BS] at g1); (first | omega | decide | (dsimp only; omega)))) rfl rfl)) (vA (fun (g1 : (!values) = true) => (k1.pick_c_q ex (l.getD i 0) (9) H28 (by (try simp only [BS] at g1); (first | omega | decide | (dsimp only; omega))))) trivial))) (by kernel_rfl) rfl fun gg32 => ?_
    refine wk_join (fun f H' => ∃ (op1 : Int) (F' : Fz), Fz.le F6 F' ∧ HS (Base.of H []) F' H' [lp6_5, p18, [(b20, .cells [(.slice a18 ([Int.tdiv (l.getD i 0) 7, Int.tdiv (l.getD i 0) 101, Int.tdiv (l.getD i 0) 1009] : List Int).length k18), (.int .i64 0)] none false)], [(b26, .cells [(.int .i64 op1), (.int .i64 0), (.slice none 0 0)] none false)]] R ∧ agrees f [(0, (.slice a_l l.length k_l)), (1, (.bool values)), (4, (.slice none 0 0)), (5, (.slice la6_5 out.length lk6_5)), (6, (.int .i64 (i : Int))), (7, (.pointer (some ⟨b20, 0, none⟩))), (8, (.pointer (some ⟨b26, 0, none⟩))), (23, (.bool ((decide ((i : Int) < (l.length : Int))) && (decide ((i : Int) < 14))))), (26, (.slice a_l l.length k_l)), (27, (.int .i64 (i : Int))), (28, (.pointer (some ⟨sB (.slice a_l l.length k_l), sO (.slice a_l l.length k_l) + i * Rp.sz Int, none⟩))), (29, (.int .i64 (l.getD i 0))), (30, (.int .i64 (Int.tdiv (l.getD i 0) 7))), (31, (.slice a_l l.length k_l)), (32, (.int .i64 (i : Int))), (33, (.pointer (some ⟨sB (.slice a_l l.length k_l), sO (.slice a_l l.length k_l) + i * Rp.sz Int, none⟩))), (34, (.int .i64 (l.getD i 0))), (35, (.int .i64 (Int.tdiv (l.getD i 0) 101))), (36, (.slice a_l l.length k_l)), (37, (.int .i64 (i : Int))), (38, (.pointer (some ⟨sB (.slice a_l l.length k_l), sO (.slice a_l l.length k_l) + i * Rp.sz Int, none⟩))), (39, (.int .i64 (l.getD i 0))), (40, (.int .i64 (Int.tdiv (l.getD i 0) 1009))), (41, (.slice a18 ([Int.tdiv (l.getD i 0) 7, Int.tdiv (l.getD i 0) 101, Int.tdiv (l.getD i 0) 1009] : List Int).length k18)), (42, (.agg ⟨[(.slice a18 ([Int.tdiv (l.getD i 0) 7, Int.tdiv (l.getD i 0) 101, Int.tdiv (l.getD i 0) 1009] : List Int).length k18), (.int .i64 0)]⟩)), (43, (.pointer (some ⟨b20, 0, none⟩))), (50, (.agg ⟨[(.int .i64 (4 + (pickV (l.getD i 0) (19 : Int)))), (.int .i64 0), (.slice none 0 0)]⟩)), (60, (.bool ((!values) && (decide ((5 : Int) < pickV (l.getD i 0) (9 : Int))))))] ∧ (okOp op1) ∧ (in64 op1)) (fun jn33 => ?_) ?_
    · skip
      refine wk_if 0 0 (v := ((!values) && (decide ((5 : Int) < pickV (l.getD i 0) (9 : Int))))) rfl rfl rfl rfl (fun c34b => ?_) (fun c34b => ?_)
      · have c34 := c34b
        try simp only [BS] at c34
        refine wk_region ?_
        refine wo_rs (rs_lit (α := Int) (ps := [(0, (.int .i64 23)), (1, (.int .i64 27)), (2, (.int .i64 28)), (3, (.int .i64 29)), (4, (.int .i64 24))]) (cells := [(.int .i64 23), (.int .i64 27), (.int .i64 28), (.int .i64 29), (.int .i64 24)]) ([23, 27, 28, 29, 24] : List Int) hs28 rfl rfl rfl (by kernel_rfl) ⟨[(.int .i64 23)], [(.int .i64 27), (.int .i64 28), (.int .i64 29), (.int .i64 24)], rfl, ⟨rfl, by first | omega | decide | (dsimp only; omega)⟩, ⟨[(.int .i64 27)], [(.int .i64 28), (.int .i64 29), (.int .i64 24)], rfl, ⟨rfl, by first | omega | decide | (dsimp only; omega)⟩, ⟨[(.int .i64 28)], [(.int .i64 29), (.int .i64 24)], rfl, ⟨rfl, by first | omega | decide | (dsimp only; omega)⟩, ⟨[(.int .i64 29)], [(.int .i64 24)], rfl, ⟨rfl, by first | omega | decide | (dsimp only; omega)⟩, ⟨[(.int .i64 24)], [], rfl, ⟨rfl, by first | omega | decide | (dsimp only; omega)⟩, rfl⟩⟩⟩⟩⟩ rfl) rfl rfl ?_
        rintro _ H36 p35 ⟨a35, k35, rfl, ho35, hs36, _⟩
        have hs36 : HS (Base.of H []) F6 H36 [lp6_5, p18, [(b20, .cells [(.slice a18 ([Int.tdiv (l.getD i 0) 7, Int.tdiv (l.getD i 0) 101, Int.tdiv (l.getD i 0) 1009] : List Int).length k18), (.int .i64 0)] none false)], [(b26, .cells [(.int .i64 (4 + (pickV (l.getD i 0) (19 : Int)))), (.int .i64 0), (.slice none 0 0)] none false)], p35] R := hs36
        obtain ⟨cf37, hv37⟩ := Sv.view (SR.sv hl hs36)
        have g38 := fI (hv37 i)
        have tq39 : in64 (l.getD i 0) → in64 (Int.tdiv (l.getD i 0) 9) := fun h => vq h (by decide)
        have fq40 := pick_imp (Int.tdiv (l.getD i 0) 9) (5 : Int)
        obtain ⟨cf41, hv41⟩ := Sv.view (OS.sv ho35 hs36 (i := 4) rfl)
        have g42 := fI (hv41 ((pickV (Int.tdiv (l.getD i 0) 9) (5 : Int)).toNat))
        refine wro 9 1 [(4, .o (.int .i64 (l.getD i 0))), (6, .o (.int .i64 (pickV (Int.tdiv (l.getD i 0) 9) (5 : Int)))), (8, .o (.int .i64 (([23, 27, 28, 29, 24] : List Int).getD ((pickV (Int.tdiv (l.getD i 0) 9) (5 : Int)).toNat) 0)))] 62 70 [] [(69, (.int .i64 (([23, 27, 28, 29, 24] : List Int).getD ((pickV (Int.tdiv (l.getD i 0) 9) (5 : Int)).toNat) 0))), (70, (.pointer (some ⟨b26, 0, none⟩)))] (vA (Sv.ix (j := (i : Int)) (SR.sv hl hs36) (by first | omega | decide | (dsimp only; omega)) (by first | omega | decide | (dsimp only; omega))) (vA (ql 3 0 (vI (hv37 i) (by first | omega | decide | (dsimp only; omega))) rfl rfl) (vA (vA (show (9 : Int) ≠ 0 from by decide) (vq (a := (l.getD i 0)) (b := 9) (by first | omega | decide | (dsimp only; omega)) (by decide))) (vA (k1.pick_c_q ex (Int.tdiv (l.getD i 0) 9) (5) H36 (by first | omega | decide | (dsimp only; omega))) (vA (Sv.ix (j := pickV (Int.tdiv (l.getD i 0) 9) (5 : Int)) (OS.sv ho35 hs36 (i := 4) rfl) (by first | omega | decide | (dsimp only; omega)) (show pickV (Int.tdiv (l.getD i 0) 9) (5 : Int) < (5 : Int) from by first | omega | decide | (dsimp only; omega))) (vA (ql 3 0 (vI (hv41 ((pickV (Int.tdiv (l.getD i 0) 9) (5 : Int)).toNat)) (show (pickV (Int.tdiv (l.getD i 0) 9) (5 : Int)).toNat < 5 from by first | omega | decide | (dsimp only; omega))) rfl rfl) trivial)))))) (by kernel_rfl) rfl fun gg43 => ?_
        refine wo_rk (rs_rec (q := 3) hs36 rfl rfl rfl rfl rfl rfl rfl rfl rfl) rfl ?_
        rintro _ H44 _ ⟨hs44, _⟩
        have hs44 : HS (Base.of H []) F6 H44 [lp6_5, p18, [(b20, .cells [(.slice a18 ([Int.tdiv (l.getD i 0) 7, Int.tdiv (l.getD i 0) 101, Int.tdiv (l.getD i 0) 1009] : List Int).length k18), (.int .i64 0)] none false)], [(b26, .cells [(.int .i64 (([23, 27, 28, 29, 24] : List Int).getD ((pickV (Int.tdiv (l.getD i 0) 9) (5 : Int)).toNat) 0)), (.int .i64 0), (.slice none 0 0)] none false)], p35] R := hs44
        refine wo_end 0 rfl ?_
        exact jn33 _ _ ⟨(([23, 27, 28, 29, 24] : List Int).getD ((pickV (Int.tdiv (l.getD i 0) 9) (5 : Int)).toNat) 0), _, (Fz.le_refl _), (HS.sub hs44 (List.sublist_append_left _ _)), (agC rfl (agC rfl (agC rfl (agC rfl (agC rfl (agC rfl (agC rfl (agC rfl (agC rfl (agC rfl (agC rfl (agC rfl (agC rfl (agC rfl (agC rfl (agC rfl (agC rfl (agC rfl (agC rfl (agC rfl (agC rfl (agC rfl (agC rfl (agC rfl (agC rfl (agC rfl (agC rfl (agC rfl agN)))))))))))))))))))))))))))), (by first | exact lit5 (by omega) | (unfold okOp; omega)), (by first | omega | (have h5 := lit5 (k := (pickV (Int.tdiv (l.getD i 0) 9) 5).toNat) (by omega); unfold okOp at h5; omega))⟩
      · have c34 := c34b
        try simp only [BS] at c34
        exact jn33 _ _ ⟨4 + (pickV (l.getD i 0) (19 : Int)), _, (Fz.le_refl _), hs28, (agC rfl (agC rfl (agC rfl (agC rfl (agC rfl (agC rfl (agC rfl (agC rfl (agC rfl (agC rfl (agC rfl (agC rfl (agC rfl (agC rfl (agC rfl (agC rfl (agC rfl (agC rfl (agC rfl (agC rfl (agC rfl (agC rfl (agC rfl (agC rfl (agC rfl (agC rfl (agC rfl (agC rfl agN)))))))))))))))))))))))))))), (by first | exact lit5 (by omega) | (unfold okOp; omega)), (by first | omega | (have h5 := lit5 (k := (pickV (Int.tdiv (l.getD i 0) 9) 5).toNat) (by omega); unfold okOp at h5; omega))⟩
    · skip
      rintro f33 H33 ⟨op1, F33, hF33, hs33, hf33, ho1, hi1⟩
      refine wk_canon _ hf33 (fun gg33 => ?_)
      clear hf33
      replace hl := hl.mono hF33
      replace ho18 := ho18.mono hF33
      replace lh6_5 := lh6_5.mono hF33
      refine wk_foc 3 rfl ?_
      obtain ⟨cf45, hv45⟩ := Sv.view (SR.sv hl hs33)
      have g46 := fI (hv45 i)
      have fq47 := pick_imp (l.getD i 0) (11 : Int)
      refine wr 1 [(3, .o (.int .i64 (l.getD i 0))), (4, .o (.int .i64 (pickV (l.getD i 0) (11 : Int))))] 71 76 [] [(76, (.bool (pickV (l.getD i 0) (11 : Int) == 0)))] (vA (Sv.ix (j := (i : Int)) (SR.sv hl hs33) (by first | omega | decide | (dsimp only; omega)) (by first | omega | decide | (dsimp only; omega))) (vA (ql 3 0 (vI (hv45 i) (by first | omega | decide | (dsimp only; omega))) rfl rfl) (vA (k1.pick_c_q ex (l.getD i 0) (11) H33 (by first | omega | decide | (dsimp only; omega))) trivial))) (by kernel_rfl) rfl fun gg48 => ?_
      refine wk_join (fun f H' => ∃ (op2 : Int) (im2 : Int) (F' : Fz), Fz.le F33 F' ∧ HS (Base.of H []) F' H' [lp6_5, p18, [(b20, .cells [(.slice a18 ([Int.tdiv (l.getD i 0) 7, Int.tdiv (l.getD i 0) 101, Int.tdiv (l.getD i 0) 1009] : List Int).length k18), (.int .i64 0)] none false)], [(b26, .cells [(.int .i64 op2), (.int .i64 im2), (.slice none 0 0)] none false)]] R ∧ agrees f [(0, (.slice a_l l.length k_l)), (1, (.bool values)), (4, (.slice none 0 0)), (5, (.slice la6_5 out.length lk6_5)), (6, (.int .i64 (i : Int))), (7, (.pointer (some ⟨b20, 0, none⟩))), (8, (.pointer (some ⟨b26, 0, none⟩))), (23, (.bool ((decide ((i : Int) < (l.length : Int))) && (decide ((i : Int) < 14))))), (26, (.slice a_l l.length k_l)), (27, (.int .i64 (i : Int))), (28, (.pointer (some ⟨sB (.slice a_l l.length k_l), sO (.slice a_l l.length k_l) + i * Rp.sz Int, none⟩))), (29, (.int .i64 (l.getD i 0))), (30, (.int .i64 (Int.tdiv (l.getD i 0) 7))), (31, (.slice a_l l.length k_l)), (32, (.int .i64 (i : Int))), (33, (.pointer (some ⟨sB (.slice a_l l.length k_l), sO (.slice a_l l.length k_l) + i * Rp.sz Int, none⟩))), (34, (.int .i64 (l.getD i 0))), (35, (.int .i64 (Int.tdiv (l.getD i 0) 101))), (36, (.slice a_l l.length k_l)), (37, (.int .i64 (i : Int))), (38, (.pointer (some ⟨sB (.slice a_l l.length k_l), sO (.slice a_l l.length k_l) + i * Rp.sz Int, none⟩))), (39, (.int .i64 (l.getD i 0))), (40, (.int .i64 (Int.tdiv (l.getD i 0) 1009))), (41, (.slice a18 ([Int.tdiv (l.getD i 0) 7, Int.tdiv (l.getD i 0) 101, Int.tdiv (l.getD i 0) 1009] : List Int).length k18)), (42, (.agg ⟨[(.slice a18 ([Int.tdiv (l.getD i 0) 7, Int.tdiv (l.getD i 0) 101, Int.tdiv (l.getD i 0) 1009] : List Int).length k18), (.int .i64 0)]⟩)), (43, (.pointer (some ⟨b20, 0, none⟩))), (50, (.agg ⟨[(.int .i64 (4 + (pickV (l.getD i 0) (19 : Int)))), (.int .i64 0), (.slice none 0 0)]⟩)), (60, (.bool ((!values) && (decide ((5 : Int) < pickV (l.getD i 0) (9 : Int)))))), (76, (.bool (pickV (l.getD i 0) (11 : Int) == 0)))] ∧ (okOp op2) ∧ (in64 op2) ∧ (in64 im2)) (fun jn49 => ?_) ?_
      · skip
        refine wk_if 0 0 (v := (pickV (l.getD i 0) (11 : Int) == 0)) rfl rfl rfl rfl (fun c50b => ?_) (fun c50b => ?_)
        · have c50 := c50b
          try simp only [BS] at c50
          refine wf_region rfl ?_
          refine fm (.slice a_l l.length k_l) rfl rfl rfl ?_
          refine fm (.int .i64 (i : Int)) rfl rfl rfl ?_
          refine wf_pure (v := (.pointer (some ⟨sB (.slice a_l l.length k_l), sO (.slice a_l l.length k_l) + i * Rp.sz Int, none⟩))) (id := .v) (ap_idxV (α := Int) (j := (i : Int)) rfl rfl rfl rfl (SR.sv hl hs33.log0) (by first | omega | decide | (dsimp only; omega)) (by first | omega | decide | (dsimp only; omega))) rfl rfl (did_v rfl) (okD_v _) ?_
          obtain ⟨cs51, hr51, hc51⟩ := Sv.at (SR.sv hl hs33.log0) (getD_at (x := (0 : Int)) (show i < l.length from by first | omega | decide | (dsimp only; omega)))
          obtain ⟨rfl, g52_0⟩ := hr51
          refine wf_pure (v := (.int .i64 (l.getD i 0))) (id := .l (sB (.slice a_l l.length k_l))) (ap_ld1 (i := 0) rfl rfl hc51 rfl rfl) rfl rfl (did_l rfl) (⟨.inl rfl, ⟨.inl rfl, ⟨.inl rfl, trivial⟩⟩⟩) ?_
          have tq53 : in64 (l.getD i 0) → in64 (Int.tdiv (l.getD i 0) 11) := fun h => vq h (by decide)
          refine wf_pure (v := (.int .i64 (Int.tdiv (l.getD i 0) 11))) (id := .v) (ap_div rfl rfl (by decide) (w_tdiv (by first | omega | decide | (dsimp only; omega)) (by decide))) rfl rfl (did_v rfl) (okD_v _) ?_
          refine fm (.slice a_l l.length k_l) rfl rfl rfl ?_
          refine fm (.int .i64 (i : Int)) rfl rfl rfl ?_
          refine wf_pure (v := (.pointer (some ⟨sB (.slice a_l l.length k_l), sO (.slice a_l l.length k_l) + i * Rp.sz Int, none⟩))) (id := .v) (ap_idxV (α := Int) (j := (i : Int)) rfl rfl rfl rfl (SR.sv hl hs33.log0) (by first | omega | decide | (dsimp only; omega)) (by first | omega | decide | (dsimp only; omega))) rfl rfl (did_v rfl) (okD_v _) ?_
          obtain ⟨cs54, hr54, hc54⟩ := Sv.at (SR.sv hl hs33.log0) (getD_at (x := (0 : Int)) (show i < l.length from by first | omega | decide | (dsimp only; omega)))
          obtain ⟨rfl, g55_0⟩ := hr54
          refine wf_pure (v := (.int .i64 (l.getD i 0))) (id := .l (sB (.slice a_l l.length k_l))) (ap_ld1 (i := 0) rfl rfl hc54 rfl rfl) rfl rfl (did_l rfl) (⟨.inl rfl, ⟨.inl rfl, ⟨.inl rfl, ⟨.inr trivial, ⟨.inr trivial, ⟨.inr trivial, ⟨.inr trivial, ⟨.inr trivial, trivial⟩⟩⟩⟩⟩⟩⟩⟩) ?_
          refine wf_call (W := []) (ap_call rfl rfl rfl) rfl rfl rfl (k4.word_c ex (Int.tdiv (l.getD i 0) 11) (l.getD i 0) (HS.call hs33.log0) (by first | omega | decide | (dsimp only; omega)) (by first | omega | decide | (dsimp only; omega))) (⟨.inl rfl, ⟨.inl rfl, ⟨.inl rfl, ⟨.inl rfl, ⟨.inl rfl, ⟨.inl rfl, ⟨.inl rfl, ⟨.inl rfl, ⟨.inl rfl, trivial⟩⟩⟩⟩⟩⟩⟩⟩⟩) ?_
          rintro _ H56 ⟨r56, F56, hF56, hs56, rfl, h56⟩
          refine ⟨Wr.did hs56.log, fun lg56 hlg56 => ?_⟩
          replace hs56 := HS.back hs33.log0 rfl hs56
          replace hs56 := HS.lg hs56 hs33 hlg56
          generalize ({ H56 with log := lg56 } : Heap) = H56g at hs56 ⊢
          have hs56 : HS (Base.of H []) F56 H56g [lp6_5, p18, [(b20, .cells [(.slice a18 ([Int.tdiv (l.getD i 0) 7, Int.tdiv (l.getD i 0) 101, Int.tdiv (l.getD i 0) 1009] : List Int).length k18), (.int .i64 0)] none false)], [(b26, .cells [(.int .i64 op1), (.int .i64 0), (.slice none 0 0)] none false)]] R := hs56
          replace hl := hl.mono hF56
          replace ho18 := ho18.mono hF56
          replace lh6_5 := lh6_5.mono hF56
          refine wf_pure (v := (.agg ⟨[(.int .i64 1), (.int .i64 r56), (.slice none 0 0)]⟩)) (id := .v) (ap_bld rfl rfl (by kernel_rfl)) rfl rfl (did_v rfl) (okD_v _) ?_
          refine wf_rk (id := .x [b26]) (rs_rec (q := 3) hs56.log0 rfl rfl rfl rfl rfl rfl rfl rfl rfl) rfl (by rintro _ _ _ ⟨_, hwr⟩; exact did_x rfl rfl (Wr.did hwr)) (⟨.inl rfl, ⟨.inl rfl, ⟨.inl rfl, ⟨.inl rfl, ⟨.inl rfl, ⟨.inl rfl, ⟨.inl rfl, ⟨.inl rfl, ⟨.inl rfl, ⟨.inl rfl, ⟨.inl rfl, trivial⟩⟩⟩⟩⟩⟩⟩⟩⟩⟩⟩) ?_
          rintro _ H57 _ ⟨hs57, _⟩ lg57 hlg57
          replace hs57 := HS.lg hs57 hs56 hlg57
          generalize ({ H57 with log := lg57 } : Heap) = H57g at hs57 ⊢
          have hs57 : HS (Base.of H []) F56 H57g [lp6_5, p18, [(b20, .cells [(.slice a18 ([Int.tdiv (l.getD i 0) 7, Int.tdiv (l.getD i 0) 101, Int.tdiv (l.getD i 0) 1009] : List Int).length k18), (.int .i64 0)] none false)], [(b26, .cells [(.int .i64 1), (.int .i64 r56), (.slice none 0 0)] none false)]] R := hs57
          refine wf_nil ?_
          exact jn49 _ _ ⟨1, r56, _, (hF56), hs57, (agC rfl (agC rfl (agC rfl (agC rfl (agC rfl (agC rfl (agC rfl (agC rfl (agC rfl (agC rfl (agC rfl (agC rfl (agC rfl (agC rfl (agC rfl (agC rfl (agC rfl (agC rfl (agC rfl (agC rfl (agC rfl (agC rfl (agC rfl (agC rfl (agC rfl (agC rfl (agC rfl (agC rfl (agC rfl agN))))))))))))))))))))))))))))), (by first | exact ho1 | (unfold okOp; omega)), (by first | assumption | omega | (simp at *; omega)), (by first | assumption | decide | omega)⟩
        · have c50 := c50b
          try simp only [BS] at c50
          exact jn49 _ _ ⟨op1, 0, _, (Fz.le_refl _), hs33, (agC rfl (agC rfl (agC rfl (agC rfl (agC rfl (agC rfl (agC rfl (agC rfl (agC rfl (agC rfl (agC rfl (agC rfl (agC rfl (agC rfl (agC rfl (agC rfl (agC rfl (agC rfl (agC rfl (agC rfl (agC rfl (agC rfl (agC rfl (agC rfl (agC rfl (agC rfl (agC rfl (agC rfl (agC rfl agN))))))))))))))))))))))))))))), (by first | exact ho1 | (unfold okOp; omega)), (by first | assumption | omega | (simp at *; omega)), (by first | assumption | decide | omega)⟩
      · skip
        rintro f49 H49 ⟨op2, im2, F49, hF49, hs49, hf49, ho, hi2, hm2⟩
        refine wk_canon _ hf49 (fun gg49 => ?_)
        clear hf49
        replace hl := hl.mono hF49
        replace ho18 := ho18.mono hF49
        replace lh6_5 := lh6_5.mono hF49
        have har := ar_rng ho
        refine wk_foc 2 rfl ?_
        refine wr 3 [(1, .o (.int .i64 op2)), (2, .o (.tuple ⟨[(.int .i64 (arV op2)), (.bool (arOk op2))]⟩))] 88 93 [9, 10] [(9, (.int .i64 (arV op2)))] (vA (ql 3 0 (HS.hc hs49 (i := 3) rfl) rfl rfl) (vA (k4.arity_c_q ex op2 H49) trivial)) (by kernel_rfl) rfl fun gg58 => ?_
        obtain ⟨F59, hF59, hs59, hr59, hp59⟩ := OS.frz ho18 hs49 (i := 1) rfl
        have hs59 : HS (Base.of H []) F59 H49 [lp6_5, [], [(b20, .cells [(.slice a18 ([Int.tdiv (l.getD i 0) 7, Int.tdiv (l.getD i 0) 101, Int.tdiv (l.getD i 0) 1009] : List Int).length k18), (.int .i64 0)] none false)], [(b26, .cells [(.int .i64 op2), (.int .i64 im2), (.slice none 0 0)] none false)]] R := hs59
        replace hl := hl.mono hF59
        replace ho18 := ho18.mono hF59
        replace lh6_5 := lh6_5.mono hF59
        refine wr 2 [] 1 0 [11] [(11, (.int .i64 0))] trivial (by kernel_rfl) rfl fun gg60 => ?_
        have hs62 := HS.snoc hs59
        have hs62 : HS (Base.of H []) F59 H49 [lp6_5, [], [(b20, .cells [(.slice a18 ([Int.tdiv (l.getD i 0) 7, Int.tdiv (l.getD i 0) 101, Int.tdiv (l.getD i 0) 1009] : List Int).length k18), (.int .i64 0)] none false)], [(b26, .cells [(.int .i64 op2), (.int .i64 im2), (.slice none 0 0)] none false)], []] R := hs62
        refine wk_loop_inv (fun (mm : Nat) f H' => ∃ (ks : List Int) (xr : RdrT) (j : Nat) (ar61_2_0 : Option Addr) (kr61_2_0 : Nat) (lrp61_3_2 : Fp) (lra61_3_2 : Option Addr) (lrk61_3_2 : Nat) (F' : Fz), Fz.le F59 F' ∧ HS (Base.of H []) F' H' [lp6_5, [], [(b20, .cells [(.slice ar61_2_0 xr.l.length kr61_2_0), (.int .i64 xr.loops)] none false)], [(b26, .cells [(.int .i64 op2), (.int .i64 im2), (.slice lra61_3_2 ks.length lrk61_3_2)] none false)], lrp61_3_2] R ∧ SR F' (.slice ar61_2_0 xr.l.length kr61_2_0) xr.l ∧ OS F' (.slice lra61_3_2 ks.length lrk61_3_2) ks lrp61_3_2 ∧ agrees f [(0, (.slice a_l l.length k_l)), (1, (.bool values)), (4, (.slice none 0 0)), (5, (.slice la6_5 out.length lk6_5)), (6, (.int .i64 (i : Int))), (7, (.pointer (some ⟨b20, 0, none⟩))), (8, (.pointer (some ⟨b26, 0, none⟩))), (9, (.int .i64 (arV op2))), (11, (.int .i64 (j : Int))), (23, (.bool ((decide ((i : Int) < (l.length : Int))) && (decide ((i : Int) < 14))))), (26, (.slice a_l l.length k_l)), (27, (.int .i64 (i : Int))), (28, (.pointer (some ⟨sB (.slice a_l l.length k_l), sO (.slice a_l l.length k_l) + i * Rp.sz Int, none⟩))), (29, (.int .i64 (l.getD i 0))), (30, (.int .i64 (Int.tdiv (l.getD i 0) 7))), (31, (.slice a_l l.length k_l)), (32, (.int .i64 (i : Int))), (33, (.pointer (some ⟨sB (.slice a_l l.length k_l), sO (.slice a_l l.length k_l) + i * Rp.sz Int, none⟩))), (34, (.int .i64 (l.getD i 0))), (35, (.int .i64 (Int.tdiv (l.getD i 0) 101))), (36, (.slice a_l l.length k_l)), (37, (.int .i64 (i : Int))), (38, (.pointer (some ⟨sB (.slice a_l l.length k_l), sO (.slice a_l l.length k_l) + i * Rp.sz Int, none⟩))), (39, (.int .i64 (l.getD i 0))), (40, (.int .i64 (Int.tdiv (l.getD i 0) 1009))), (41, (.slice a18 ([Int.tdiv (l.getD i 0) 7, Int.tdiv (l.getD i 0) 101, Int.tdiv (l.getD i 0) 1009] : List Int).length k18)), (42, (.agg ⟨[(.slice a18 ([Int.tdiv (l.getD i 0) 7, Int.tdiv (l.getD i 0) 101, Int.tdiv (l.getD i 0) 1009] : List Int).length k18), (.int .i64 0)]⟩)), (43, (.pointer (some ⟨b20, 0, none⟩))), (50, (.agg ⟨[(.int .i64 (4 + (pickV (l.getD i 0) (19 : Int)))), (.int .i64 0), (.slice none 0 0)]⟩)), (60, (.bool ((!values) && (decide ((5 : Int) < pickV (l.getD i 0) (9 : Int)))))), (76, (.bool (pickV (l.getD i 0) (11 : Int) == 0)))] ∧ mm = 3 - j ∧ (ks.length = j) ∧ (in64 xr.loops) ∧ (j ≤ 3)) _ ⟨([] : List Int), (⟨([Int.tdiv (l.getD i 0) 7, Int.tdiv (l.getD i 0) 101, Int.tdiv (l.getD i 0) 1009] : List Int), 0⟩ : RdrT), 0, a18, k18, [], none, 0, _, (Fz.le_refl _), hs62, hr59, (OS.nil : OS F59 (.slice none 0 0) ([] : List Int) []), (agC rfl (agC rfl (agC rfl (agC rfl (agC rfl (agC rfl (agC rfl (agC rfl (agC rfl (agC rfl (agC rfl (agC rfl (agC rfl (agC rfl (agC rfl (agC rfl (agC rfl (agC rfl (agC rfl (agC rfl (agC rfl (agC rfl (agC rfl (agC rfl (agC rfl (agC rfl (agC rfl (agC rfl (agC rfl (agC rfl (agC rfl agN))))))))))))))))))))))))))))))), rfl, (by rfl), (by show in64 0; decide), (by first | assumption | omega | (simp at *; omega))⟩ ?_
        rintro mm61 f61 H61 ⟨ks, xr, j, ar61_2_0, kr61_2_0, lrp61_3_2, lra61_3_2, lrk61_3_2, F61, hF61, hs61, sr61_2_0, lrh61_3_2, hf61, rfl, q1, q2, q3⟩ ih61
        refine wk_canon _ hf61 (fun gg61 => ?_)
        clear hf61
        replace hl := hl.mono hF61
        replace ho18 := ho18.mono hF61
        replace hr59 := hr59.mono hF61
        replace lh6_5 := lh6_5.mono hF61
        refine wk_foc 2 rfl ?_
        refine wr 1 [] 94 96 [] [(96, (.bool (decide ((j : Int) < arV op2))))] trivial (by kernel_rfl) rfl fun gg63 => ?_
        refine wk_if 3 6 (v := (decide ((j : Int) < arV op2))) rfl rfl rfl rfl (fun c64b => ?_) (fun c64b => ?_)
        · have c64 := c64b
          try simp only [BS] at c64
          refine wf_region rfl ?_
          refine wf_pure (v := (.pointer (some ⟨b26, 2, none⟩))) (id := .v) (ap_fa rfl rfl) rfl rfl (did_v rfl) (okD_v _) ?_
          refine wf_pure (v := (.slice lra61_3_2 ks.length lrk61_3_2)) (id := .l b26) (ap_ld1 (i := 2) rfl rfl (HS.hc hs61.log0 (i := 3) rfl) rfl rfl) rfl rfl (did_l rfl) (⟨.inl rfl, trivial⟩) ?_
          refine fm (.slice la6_5 out.length lk6_5) rfl rfl rfl ?_
          refine wf_pure (v := (.pointer (some ⟨b26, 0, none⟩))) (id := .v) (ap_fa rfl rfl) rfl rfl (did_v rfl) (okD_v _) ?_
          refine wf_pure (v := (.int .i64 op2)) (id := .l b26) (ap_ld1 (i := 0) rfl rfl (HS.hc hs61.log0 (i := 3) rfl) rfl rfl) rfl rfl (did_l rfl) (⟨.inl rfl, ⟨.inr trivial, ⟨.inr trivial, ⟨.inr trivial, trivial⟩⟩⟩⟩) ?_
          refine fm (.int .i64 (j : Int)) rfl rfl rfl ?_
          refine wf_call (W := []) (ap_call rfl rfl rfl) rfl rfl rfl (k4.opSort_c ex op2 (j : Int) _) (⟨.inl rfl, ⟨.inl rfl, ⟨.inl rfl, ⟨.inr trivial, ⟨.inr List.not_mem_nil, ⟨.inr trivial, trivial⟩⟩⟩⟩⟩⟩) ?_
          rintro _ _ ⟨r65, rfl, rfl, rfl⟩
          refine ⟨fun b hb => absurd hb List.not_mem_nil, fun lg65 hlg65 => ?_⟩
          have hs65 := HS.lg hs61.log0 hs61 hlg65
          generalize ({ { H61 with log := [] } with log := lg65 } : Heap) = H65g at hs65 ⊢
          refine fm (.pointer (some ⟨b20, 0, none⟩)) rfl rfl rfl ?_
          refine wf_call (W := [b20]) (ap_call rfl rfl rfl) rfl rfl rfl (k4.next_c ex (⟨xr.l, xr.loops⟩ : RdrT) (HS.callOwn hs65.log0 (i := 2) rfl) sr61_2_0 (by first | omega | decide | (dsimp only; omega))) (⟨.inl rfl, ⟨.inl rfl, ⟨.inl rfl, ⟨.inl rfl, ⟨.inl rfl, ⟨.inr trivial, ⟨.inr (HS.nin hs65 (i := 3) (j := 2) rfl rfl (by decide) (by simp)), ⟨.inr trivial, trivial⟩⟩⟩⟩⟩⟩⟩⟩) ?_
          rintro _ H66 ⟨r66, xm66, am66_0, km66_0, F66, hF66, hs66, rfl, gm66_1, sm66_0, rfl, h66⟩
          refine ⟨HS.didW hs66, fun lg66 hlg66 => ?_⟩
          replace hs66 := HS.backOwn hs65.log0 (i := 2) rfl rfl (fun _ hb => hb) hs66
          replace hs66 := HS.lg hs66 hs65 hlg66
          generalize ({ H66 with log := lg66 } : Heap) = H66g at hs66 ⊢
          have hs66 : HS (Base.of H []) F66 H66g [lp6_5, [], [(b20, .cells [(.slice am66_0 ((RdrT.mk ((⟨xr.l, xr.loops⟩ : RdrT).l.drop 1) (⟨xr.l, xr.loops⟩ : RdrT).loops).l).length km66_0), (.int .i64 ((RdrT.mk ((⟨xr.l, xr.loops⟩ : RdrT).l.drop 1) (⟨xr.l, xr.loops⟩ : RdrT).loops).loops))] none false)], [(b26, .cells [(.int .i64 op2), (.int .i64 im2), (.slice lra61_3_2 ks.length lrk61_3_2)] none false)], lrp61_3_2] R := hs66
          replace hl := hl.mono hF66
          replace ho18 := ho18.mono hF66
          replace hr59 := hr59.mono hF66
          replace lh6_5 := lh6_5.mono hF66
          replace lrh61_3_2 := lrh61_3_2.mono hF66
          obtain ⟨F67, hF67, hs67, hr67, hp67⟩ := OS.frz lh6_5 hs66 (i := 0) rfl
          have hs67 : HS (Base.of H []) F67 H66g [[], [], [(b20, .cells [(.slice am66_0 ((RdrT.mk ((⟨xr.l, xr.loops⟩ : RdrT).l.drop 1) (⟨xr.l, xr.loops⟩ : RdrT).loops).l).length km66_0), (.int .i64 ((RdrT.mk ((⟨xr.l, xr.loops⟩ : RdrT).l.drop 1) (⟨xr.l, xr.loops⟩ : RdrT).loops).loops))] none false)], [(b26, .cells [(.int .i64 op2), (.int .i64 im2), (.slice lra61_3_2 ks.length lrk61_3_2)] none false)], lrp61_3_2] R := hs67
          refine wf_call (W := []) (ap_call rfl rfl rfl) rfl rfl rfl (of_c ex out (srV op2 (j : Int)) r66 (HS.call hs67.log0) hr67 (by first | omega | decide | (dsimp only; omega)) (by first | exact hg | exact ⟨by omega, fun x hx => Nat.le_trans (hb.kds x hx) (by omega)⟩ | exact srV_or _ _) (by first | exact hg | exact ⟨by omega, fun x hx => Nat.le_trans (hb.kds x hx) (by omega)⟩ | exact srV_or _ _) (by first | exact hg | exact ⟨by omega, fun x hx => Nat.le_trans (hb.kds x hx) (by omega)⟩ | exact srV_or _ _)) (⟨.inl rfl, ⟨.inl rfl, ⟨.inl rfl, ⟨.inl rfl, ⟨.inl rfl, ⟨.inl rfl, ⟨.inl rfl, ⟨.inr List.not_mem_nil, ⟨.inr trivial, trivial⟩⟩⟩⟩⟩⟩⟩⟩⟩) ?_
          rintro _ H68 ⟨r68, F68, hF68, hs68, rfl, h68⟩
          refine ⟨Wr.did hs68.log, fun lg68 hlg68 => ?_⟩
          replace hs68 := HS.back hs67.log0 rfl hs68
          replace hs68 := HS.lg hs68 hs67 hlg68
          generalize ({ H68 with log := lg68 } : Heap) = H68g at hs68 ⊢
          have hs68 : HS (Base.of H []) F68 H68g [[], [], [(b20, .cells [(.slice am66_0 ((RdrT.mk ((⟨xr.l, xr.loops⟩ : RdrT).l.drop 1) (⟨xr.l, xr.loops⟩ : RdrT).loops).l).length km66_0), (.int .i64 ((RdrT.mk ((⟨xr.l, xr.loops⟩ : RdrT).l.drop 1) (⟨xr.l, xr.loops⟩ : RdrT).loops).loops))] none false)], [(b26, .cells [(.int .i64 op2), (.int .i64 im2), (.slice lra61_3_2 ks.length lrk61_3_2)] none false)], lrp61_3_2] R := hs68
          replace hs68 := HS.thaw hs66 (i := 0) rfl hF67 hp67 hF68 hs68
          have hs68 : HS (Base.of H []) F66 H68g [lp6_5, [], [(b20, .cells [(.slice am66_0 ((RdrT.mk ((⟨xr.l, xr.loops⟩ : RdrT).l.drop 1) (⟨xr.l, xr.loops⟩ : RdrT).loops).l).length km66_0), (.int .i64 ((RdrT.mk ((⟨xr.l, xr.loops⟩ : RdrT).l.drop 1) (⟨xr.l, xr.loops⟩ : RdrT).loops).loops))] none false)], [(b26, .cells [(.int .i64 op2), (.int .i64 im2), (.slice lra61_3_2 ks.length lrk61_3_2)] none false)], lrp61_3_2] R := hs68
          refine wf_rs (id := .a) (rs_lit (α := Int) (ps := [(0, (.int .i64 r68))]) (cells := [(.int .i64 r68)]) ([r68] : List Int) hs68.log0 rfl rfl rfl (by kernel_rfl) ⟨[(.int .i64 r68)], [], rfl, ⟨rfl, by first | omega | decide | (dsimp only; omega)⟩, rfl⟩ rfl) rfl rfl (fun _ _ _ _ => did_a rfl rfl rfl) (⟨.inl rfl, ⟨.inl rfl, ⟨.inl rfl, ⟨.inl rfl, ⟨.inl rfl, ⟨.inl rfl, ⟨.inl rfl, ⟨.inl rfl, ⟨.inr trivial, ⟨.inr trivial, trivial⟩⟩⟩⟩⟩⟩⟩⟩⟩⟩) ?_
          rintro _ H70 p69 ⟨a69, k69, rfl, ho69, hs70, _⟩ lg70 hlg70
          replace hs70 := HS.lg hs70 hs68 hlg70
          generalize ({ H70 with log := lg70 } : Heap) = H70g at hs70 ⊢
          have hs70 : HS (Base.of H []) F66 H70g [lp6_5, [], [(b20, .cells [(.slice am66_0 ((RdrT.mk ((⟨xr.l, xr.loops⟩ : RdrT).l.drop 1) (⟨xr.l, xr.loops⟩ : RdrT).loops).l).length km66_0), (.int .i64 ((RdrT.mk ((⟨xr.l, xr.loops⟩ : RdrT).l.drop 1) (⟨xr.l, xr.loops⟩ : RdrT).loops).loops))] none false)], [(b26, .cells [(.int .i64 op2), (.int .i64 im2), (.slice lra61_3_2 ks.length lrk61_3_2)] none false)], lrp61_3_2, p69] R := hs70
          refine wf_rs (id := .x (lrp61_3_2.map Prod.fst)) (rs_app (α := Int) (q := 4) lrh61_3_2 hs70.log0 rfl rfl rfl (OS.sv ho69 hs70.log0 (i := 5) rfl) rfl rfl rfl rfl rfl rfl rfl (by simp only [List.length_append, List.length_cons, List.length_nil]; omega)) rfl rfl (by rintro _ _ p71 ⟨a71, k71, rfl, ho71, _, hwr⟩; exact did_x rfl rfl (Wr.did hwr)) (⟨.inl rfl, ⟨.inl rfl, ⟨.inl rfl, ⟨.inl rfl, ⟨.inl rfl, ⟨.inl rfl, ⟨.inl rfl, ⟨.inl rfl, ⟨.inl rfl, ⟨.inl rfl, ⟨.inl rfl, trivial⟩⟩⟩⟩⟩⟩⟩⟩⟩⟩⟩) ?_
          rintro _ H72 p71 ⟨a71, k71, rfl, ho71, hs72, _⟩ lg72 hlg72
          replace hs72 := HS.lg hs72 hs70 hlg72
          generalize ({ H72 with log := lg72 } : Heap) = H72g at hs72 ⊢
          have hs72 : HS (Base.of H []) F66 H72g [lp6_5, [], [(b20, .cells [(.slice am66_0 ((RdrT.mk ((⟨xr.l, xr.loops⟩ : RdrT).l.drop 1) (⟨xr.l, xr.loops⟩ : RdrT).loops).l).length km66_0), (.int .i64 ((RdrT.mk ((⟨xr.l, xr.loops⟩ : RdrT).l.drop 1) (⟨xr.l, xr.loops⟩ : RdrT).loops).loops))] none false)], [(b26, .cells [(.int .i64 op2), (.int .i64 im2), (.slice lra61_3_2 ks.length lrk61_3_2)] none false)], p71, p69] R := hs72
          refine wf_pure (v := (.pointer (some ⟨b26, 2, none⟩))) (id := .v) (ap_fa rfl rfl) rfl rfl (did_v rfl) (okD_v _) ?_
          refine wf_rk (id := .x [b26]) (rs_rec (q := 3) hs72.log0 rfl rfl rfl rfl rfl rfl rfl rfl rfl) rfl (by rintro _ _ _ ⟨_, hwr⟩; exact did_x rfl rfl (Wr.did hwr)) (⟨.inl rfl, ⟨.inl rfl, ⟨.inl rfl, ⟨.inl rfl, ⟨.inl rfl, ⟨.inl rfl, ⟨.inl rfl, ⟨.inl rfl, ⟨.inl rfl, ⟨.inl rfl, ⟨.inl rfl, ⟨.inl rfl, ⟨.inl rfl, trivial⟩⟩⟩⟩⟩⟩⟩⟩⟩⟩⟩⟩⟩) ?_
          rintro _ H73 _ ⟨hs73, _⟩ lg73 hlg73
          replace hs73 := HS.lg hs73 hs72 hlg73
          generalize ({ H73 with log := lg73 } : Heap) = H73g at hs73 ⊢
          have hs73 : HS (Base.of H []) F66 H73g [lp6_5, [], [(b20, .cells [(.slice am66_0 ((RdrT.mk ((⟨xr.l, xr.loops⟩ : RdrT).l.drop 1) (⟨xr.l, xr.loops⟩ : RdrT).loops).l).length km66_0), (.int .i64 ((RdrT.mk ((⟨xr.l, xr.loops⟩ : RdrT).l.drop 1) (⟨xr.l, xr.loops⟩ : RdrT).loops).loops))] none false)], [(b26, .cells [(.int .i64 op2), (.int .i64 im2), (.slice a71 (ks ++ ([r68] : List Int)).length k71)] none false)], p71, p69] R := hs73
          refine wf_nil ?_
          refine wk_foc 2 rfl ?_
          refine wr 1 [] 97 98 [11] [(11, (.int .i64 ((j : Int) + 1)))] (vA (vi (n := (j : Int) + 1) (by first | omega | decide | (dsimp only; omega))) trivial) (by kernel_rfl) rfl fun gg74 => ?_
          refine ih61 _ _ _ ?_ ⟨ks ++ ([r68] : List Int), (⟨(RdrT.mk ((⟨xr.l, xr.loops⟩ : RdrT).l.drop 1) (⟨xr.l, xr.loops⟩ : RdrT).loops).l, (RdrT.mk ((⟨xr.l, xr.loops⟩ : RdrT).l.drop 1) (⟨xr.l, xr.loops⟩ : RdrT).loops).loops⟩ : RdrT), j + 1, am66_0, km66_0, p71, a71, k71, _, (Fz.le_trans (hF61) hF66), (HS.sub hs73 (List.sublist_append_left _ _)), sm66_0, ho71, (agC rfl (agC rfl (agC rfl (agC rfl (agC rfl (agC rfl (agC rfl (agC rfl (agC rfl (agC rfl (agC rfl (agC rfl (agC rfl (agC rfl (agC rfl (agC rfl (agC rfl (agC rfl (agC rfl (agC rfl (agC rfl (agC rfl (agC rfl (agC rfl (agC rfl (agC rfl (agC rfl (agC rfl (agC rfl (agC rfl (agC rfl agN))))))))))))))))))))))))))))))), rfl, (by simp; omega), (by assumption), (by first | assumption | omega | (simp at *; omega))⟩
          omega
        · have c64 := c64b
          try simp only [BS] at c64
          refine wr 1 [(1, .o (.int .i64 op2))] 112 114 [] [(114, (.bool (op2 == 27)))] (vA (ql 3 0 (HS.hc hs61 (i := 3) rfl) rfl rfl) trivial) (by kernel_rfl) rfl fun gg75 => ?_
          refine wk_join (fun f H' => ∃ (im3 : Int) (F' : Fz), Fz.le F61 F' ∧ HS (Base.of H []) F' H' [lp6_5, [], [(b20, .cells [(.slice ar61_2_0 xr.l.length kr61_2_0), (.int .i64 xr.loops)] none false)], [(b26, .cells [(.int .i64 op2), (.int .i64 im3), (.slice lra61_3_2 ks.length lrk61_3_2)] none false)], lrp61_3_2] R ∧ agrees f [(0, (.slice a_l l.length k_l)), (1, (.bool values)), (4, (.slice none 0 0)), (5, (.slice la6_5 out.length lk6_5)), (6, (.int .i64 (i : Int))), (7, (.pointer (some ⟨b20, 0, none⟩))), (8, (.pointer (some ⟨b26, 0, none⟩))), (9, (.int .i64 (arV op2))), (11, (.int .i64 (j : Int))), (23, (.bool ((decide ((i : Int) < (l.length : Int))) && (decide ((i : Int) < 14))))), (26, (.slice a_l l.length k_l)), (27, (.int .i64 (i : Int))), (28, (.pointer (some ⟨sB (.slice a_l l.length k_l), sO (.slice a_l l.length k_l) + i * Rp.sz Int, none⟩))), (29, (.int .i64 (l.getD i 0))), (30, (.int .i64 (Int.tdiv (l.getD i 0) 7))), (31, (.slice a_l l.length k_l)), (32, (.int .i64 (i : Int))), (33, (.pointer (some ⟨sB (.slice a_l l.length k_l), sO (.slice a_l l.length k_l) + i * Rp.sz Int, none⟩))), (34, (.int .i64 (l.getD i 0))), (35, (.int .i64 (Int.tdiv (l.getD i 0) 101))), (36, (.slice a_l l.length k_l)), (37, (.int .i64 (i : Int))), (38, (.pointer (some ⟨sB (.slice a_l l.length k_l), sO (.slice a_l l.length k_l) + i * Rp.sz Int, none⟩))), (39, (.int .i64 (l.getD i 0))), (40, (.int .i64 (Int.tdiv (l.getD i 0) 1009))), (41, (.slice a18 ([Int.tdiv (l.getD i 0) 7, Int.tdiv (l.getD i 0) 101, Int.tdiv (l.getD i 0) 1009] : List Int).length k18)), (42, (.agg ⟨[(.slice a18 ([Int.tdiv (l.getD i 0) 7, Int.tdiv (l.getD i 0) 101, Int.tdiv (l.getD i 0) 1009] : List Int).length k18), (.int .i64 0)]⟩)), (43, (.pointer (some ⟨b20, 0, none⟩))), (50, (.agg ⟨[(.int .i64 (4 + (pickV (l.getD i 0) (19 : Int)))), (.int .i64 0), (.slice none 0 0)]⟩)), (60, (.bool ((!values) && (decide ((5 : Int) < pickV (l.getD i 0) (9 : Int)))))), (76, (.bool (pickV (l.getD i 0) (11 : Int) == 0))), (96, (.bool (decide ((j : Int) < arV op2)))), (114, (.bool (op2 == 27)))] ∧ (in64 im3)) (fun jn76 => ?_) ?_
          · skip
            refine wk_if 0 0 (v := (op2 == 27)) rfl rfl rfl rfl (fun c77b => ?_) (fun c77b => ?_)
            · have c77 := c77b
              try simp only [BS] at c77
              refine wk_region ?_
              obtain ⟨cf78, hv78⟩ := Sv.view (SR.sv hl hs61)
              have g79 := fI (hv78 i)
              have tq80 : in64 (l.getD i 0) → in64 (Int.tdiv (l.getD i 0) 5) := fun h => vq h (by decide)
              have fq81 := pick_imp (Int.tdiv (l.getD i 0) 5) (2 : Int)
              refine wro 8 0 [(3, .o (.int .i64 (l.getD i 0))), (5, .o (.int .i64 (pickV (Int.tdiv (l.getD i 0) 5) (2 : Int))))] 115 122 [] [(121, (.int .i64 (1 + (pickV (Int.tdiv (l.getD i 0) 5) (2 : Int))))), (122, (.pointer (some ⟨b26, 1, none⟩)))] (vA (Sv.ix (j := (i : Int)) (SR.sv hl hs61) (by first | omega | decide | (dsimp only; omega)) (by first | omega | decide | (dsimp only; omega))) (vA (ql 3 0 (vI (hv78 i) (by first | omega | decide | (dsimp only; omega))) rfl rfl) (vA (vA (show (5 : Int) ≠ 0 from by decide) (vq (a := (l.getD i 0)) (b := 5) (by first | omega | decide | (dsimp only; omega)) (by decide))) (vA (k1.pick_c_q ex (Int.tdiv (l.getD i 0) 5) (2) H61 (by first | omega | decide | (dsimp only; omega))) (vA (vi (n := 1 + (pickV (Int.tdiv (l.getD i 0) 5) (2 : Int))) (by first | omega | decide | (dsimp only; omega))) trivial))))) (by kernel_rfl) rfl fun gg82 => ?_
              refine wo_rk (rs_rec (q := 3) hs61 rfl rfl rfl rfl rfl rfl rfl rfl rfl) rfl ?_
              rintro _ H83 _ ⟨hs83, _⟩
              have hs83 : HS (Base.of H []) F61 H83 [lp6_5, [], [(b20, .cells [(.slice ar61_2_0 xr.l.length kr61_2_0), (.int .i64 xr.loops)] none false)], [(b26, .cells [(.int .i64 op2), (.int .i64 (1 + (pickV (Int.tdiv (l.getD i 0) 5) (2 : Int)))), (.slice lra61_3_2 ks.length lrk61_3_2)] none false)], lrp61_3_2] R := hs83
              refine wo_end 0 rfl ?_
              exact jn76 _ _ ⟨1 + (pickV (Int.tdiv (l.getD i 0) 5) (2 : Int)), _, (Fz.le_refl _), hs83, (agC rfl (agC rfl (agC rfl (agC rfl (agC rfl (agC rfl (agC rfl (agC rfl (agC rfl (agC rfl (agC rfl (agC rfl (agC rfl (agC rfl (agC rfl (agC rfl (agC rfl (agC rfl (agC rfl (agC rfl (agC rfl (agC rfl (agC rfl (agC rfl (agC rfl (agC rfl (agC rfl (agC rfl (agC rfl (agC rfl (agC rfl (agC rfl (agC rfl agN))))))))))))))))))))))))))))))))), (by first | assumption | omega | (simp at *; omega))⟩
            · have c77 := c77b
              try simp only [BS] at c77
              exact jn76 _ _ ⟨im2, _, (Fz.le_refl _), hs61, (agC rfl (agC rfl (agC rfl (agC rfl (agC rfl (agC rfl (agC rfl (agC rfl (agC rfl (agC rfl (agC rfl (agC rfl (agC rfl (agC rfl (agC rfl (agC rfl (agC rfl (agC rfl (agC rfl (agC rfl (agC rfl (agC rfl (agC rfl (agC rfl (agC rfl (agC rfl (agC rfl (agC rfl (agC rfl (agC rfl (agC rfl (agC rfl (agC rfl agN))))))))))))))))))))))))))))))))), (by first | assumption | omega | (simp at *; omega))⟩
          · skip
            rintro f76 H76 ⟨im3, F76, hF76, hs76, hf76, hm3⟩
            refine wk_canon _ hf76 (fun gg76 => ?_)
            clear hf76
            replace hl := hl.mono hF76
            replace ho18 := ho18.mono hF76
            replace hr59 := hr59.mono hF76
            replace lh6_5 := lh6_5.mono hF76
            replace lrh61_3_2 := lrh61_3_2.mono hF76
            replace sr61_2_0 := sr61_2_0.mono hF76
            refine wk_foc 3 rfl ?_
            refine wr 1 [(1, .o (.int .i64 op2)), (5, .o (.int .i64 op2))] 123 130 [] [(130, (.bool ((op2 == 23) || (op2 == 28))))] (vA (ql 3 0 (HS.hc hs76 (i := 3) rfl) rfl rfl) (vA (fun (g1 : (op2 == 23) = false) => (ql 3 0 (HS.hc hs76 (i := 3) rfl) rfl rfl)) trivial)) (by kernel_rfl) rfl fun gg84 => ?_
            refine wk_join (fun f H' => ∃ (im4 : Int) (F' : Fz), Fz.le F76 F' ∧ HS (Base.of H []) F' H' [lp6_5, [], [(b20, .cells [(.slice ar61_2_0 xr.l.length kr61_2_0), (.int .i64 xr.loops)] none false)], [(b26, .cells [(.int .i64 op2), (.int .i64 im4), (.slice lra61_3_2 ks.length lrk61_3_2)] none false)], lrp61_3_2] R ∧ agrees f [(0, (.slice a_l l.length k_l)), (1, (.bool values)), (4, (.slice none 0 0)), (5, (.slice la6_5 out.length lk6_5)), (6, (.int .i64 (i : Int))), (7, (.pointer (some ⟨b20, 0, none⟩))), (8, (.pointer (some ⟨b26, 0, none⟩))), (9, (.int .i64 (arV op2))), (11, (.int .i64 (j : Int))), (23, (.bool ((decide ((i : Int) < (l.length : Int))) && (decide ((i : Int) < 14))))), (26, (.slice a_l l.length k_l)), (27, (.int .i64 (i : Int))), (28, (.pointer (some ⟨sB (.slice a_l l.length k_l), sO (.slice a_l l.length k_l) + i * Rp.sz Int, none⟩))), (29, (.int .i64 (l.getD i 0))), (30, (.int .i64 (Int.tdiv (l.getD i 0) 7))), (31, (.slice a_l l.length k_l)), (32, (.int .i64 (i : Int))), (33, (.pointer (some ⟨sB (.slice a_l l.length k_l), sO (.slice a_l l.length k_l) + i * Rp.sz Int, none⟩))), (34, (.int .i64 (l.getD i 0))), (35, (.int .i64 (Int.tdiv (l.getD i 0) 101))), (36, (.slice a_l l.length k_l)), (37, (.int .i64 (i : Int))), (38, (.pointer (some ⟨sB (.slice a_l l.length k_l), sO (.slice a_l l.length k_l) + i * Rp.sz Int, none⟩))), (39, (.int .i64 (l.getD i 0))), (40, (.int .i64 (Int.tdiv (l.getD i 0) 1009))), (41, (.slice a18 ([Int.tdiv (l.getD i 0) 7, Int.tdiv (l.getD i 0) 101, Int.tdiv (l.getD i 0) 1009] : List Int).length k18)), (42, (.agg ⟨[(.slice a18 ([Int.tdiv (l.getD i 0) 7, Int.tdiv (l.getD i 0) 101, Int.tdiv (l.getD i 0) 1009] : List Int).length k18), (.int .i64 0)]⟩)), (43, (.pointer (some ⟨b20, 0, none⟩))), (50, (.agg ⟨[(.int .i64 (4 + (pickV (l.getD i 0) (19 : Int)))), (.int .i64 0), (.slice none 0 0)]⟩)), (60, (.bool ((!values) && (decide ((5 : Int) < pickV (l.getD i 0) (9 : Int)))))), (76, (.bool (pickV (l.getD i 0) (11 : Int) == 0))), (96, (.bool (decide ((j : Int) < arV op2)))), (114, (.bool (op2 == 27))), (130, (.bool ((op2 == 23) || (op2 == 28))))] ∧ (in64 im4)) (fun jn85 => ?_) ?_
            · skip
              refine wk_if 0 0 (v := ((op2 == 23) || (op2 == 28))) rfl rfl rfl rfl (fun c86b => ?_) (fun c86b => ?_)
              · have c86 := c86b
                try simp only [BS] at c86
                refine wk_region ?_
                obtain ⟨cf87, hv87⟩ := Sv.view (SR.sv hl hs76)
                have g88 := fI (hv87 i)
                have tq89 : in64 (l.getD i 0) → in64 (Int.tdiv (l.getD i 0) 5) := fun h => vq h (by decide)
                have fq90 := pick_imp (Int.tdiv (l.getD i 0) 5) (2 : Int)
                refine wro 7 0 [(3, .o (.int .i64 (l.getD i 0))), (5, .o (.int .i64 (pickV (Int.tdiv (l.getD i 0) 5) (2 : Int))))] 131 137 [] [(136, (.int .i64 (pickV (Int.tdiv (l.getD i 0) 5) (2 : Int)))), (137, (.pointer (some ⟨b26, 1, none⟩)))] (vA (Sv.ix (j := (i : Int)) (SR.sv hl hs76) (by first | omega | decide | (dsimp only; omega)) (by first | omega | decide | (dsimp only; omega))) (vA (ql 3 0 (vI (hv87 i) (by first | omega | decide | (dsimp only; omega))) rfl rfl) (vA (vA (show (5 : Int) ≠ 0 from by decide) (vq (a := (l.getD i 0)) (b := 5) (by first | omega | decide | (dsimp only; omega)) (by decide))) (vA (k1.pick_c_q ex (Int.tdiv (l.getD i 0) 5) (2) H76 (by first | omega | decide | (dsimp only; omega))) trivial)))) (by kernel_rfl) rfl fun gg91 => ?_
                refine wo_rk (rs_rec (q := 3) hs76 rfl rfl rfl rfl rfl rfl rfl rfl rfl) rfl ?_
                rintro _ H92 _ ⟨hs92, _⟩
                have hs92 : HS (Base.of H []) F76 H92 [lp6_5, [], [(b20, .cells [(.slice ar61_2_0 xr.l.length kr61_2_0), (.int .i64 xr.loops)] none false)], [(b26, .cells [(.int .i64 op2), (.int .i64 (pickV (Int.tdiv (l.getD i 0) 5) (2 : Int))), (.slice lra61_3_2 ks.length lrk61_3_2)] none false)], lrp61_3_2] R := hs92
                refine wo_end 0 rfl ?_
                exact jn85 _ _ ⟨pickV (Int.tdiv (l.getD i 0) 5) (2 : Int), _, (Fz.le_refl _), hs92, (agC rfl (agC rfl (agC rfl (agC rfl (agC rfl (agC rfl (agC rfl (agC rfl (agC rfl (agC rfl (agC rfl (agC rfl (agC rfl (agC rfl (agC rfl (agC rfl (agC rfl (agC rfl (agC rfl (agC rfl (agC rfl (agC rfl (agC rfl (agC rfl (agC rfl (agC rfl (agC rfl (agC rfl (agC rfl (agC rfl (agC rfl (agC rfl (agC rfl (agC rfl agN)))))))))))))))))))))))))))))))))), (by first | assumption | omega | (simp at *; omega))⟩
              · have c86 := c86b
                try simp only [BS] at c86
                exact jn85 _ _ ⟨im3, _, (Fz.le_refl _), hs76, (agC rfl (agC rfl (agC rfl (agC rfl (agC rfl (agC rfl (agC rfl (agC rfl (agC rfl (agC rfl (agC rfl (agC rfl (agC rfl (agC rfl (agC rfl (agC rfl (agC rfl (agC rfl (agC rfl (agC rfl (agC rfl (agC rfl (agC rfl (agC rfl (agC rfl (agC rfl (agC rfl (agC rfl (agC rfl (agC rfl (agC rfl (agC rfl (agC rfl (agC rfl agN)))))))))))))))))))))))))))))))))), (by first | assumption | omega | (simp at *; omega))⟩
            · skip
              rintro f85 H85 ⟨im4, F85, hF85, hs85, hf85, hm4⟩
              refine wk_canon _ hf85 (fun gg85 => ?_)
              clear hf85
              replace hl := hl.mono hF85
              replace ho18 := ho18.mono hF85
              replace hr59 := hr59.mono hF85
              replace lh6_5 := lh6_5.mono hF85
              replace lrh61_3_2 := lrh61_3_2.mono hF85
              replace sr61_2_0 := sr61_2_0.mono hF85
              refine wk_foc 2 rfl ?_
              obtain ⟨F93, hF93, hs93, hr93, hp93⟩ := OS.frz lrh61_3_2 hs85 (i := 4) rfl
              have hs93 : HS (Base.of H []) F93 H85 [lp6_5, [], [(b20, .cells [(.slice ar61_2_0 xr.l.length kr61_2_0), (.int .i64 xr.loops)] none false)], [(b26, .cells [(.int .i64 op2), (.int .i64 im4), (.slice lra61_3_2 ks.length lrk61_3_2)] none false)], []] R := hs93
              replace hl := hl.mono hF93
              replace ho18 := ho18.mono hF93
              replace hr59 := hr59.mono hF93
              replace lh6_5 := lh6_5.mono hF93
              replace lrh61_3_2 := lrh61_3_2.mono hF93
              replace sr61_2_0 := sr61_2_0.mono hF93
              refine wk_region ?_
              refine wro 2 0 [(1, .o (.agg ⟨[(.int .i64 op2), (.int .i64 im4), (.slice lra61_3_2 ks.length lrk61_3_2)]⟩))] 138 139 [] [(138, (.slice la6_5 out.length lk6_5)), (139, (.agg ⟨[(.int .i64 op2), (.int .i64 im4), (.slice lra61_3_2 ks.length lrk61_3_2)]⟩))] (vA (qn 24 0 3 (HS.hc hs93 (i := 3) rfl) rfl rfl rfl rfl) trivial) (by kernel_rfl) rfl fun gg94 => ?_
              obtain ⟨F95, hF95, hs95, hr95, hp95⟩ := OS.frz lh6_5 hs93 (i := 0) rfl
              have hs95 : HS (Base.of H []) F95 H85 [[], [], [(b20, .cells [(.slice ar61_2_0 xr.l.length kr61_2_0), (.int .i64 xr.loops)] none false)], [(b26, .cells [(.int .i64 op2), (.int .i64 im4), (.slice lra61_3_2 ks.length lrk61_3_2)] none false)], []] R := hs95
              refine wo_call (ap_call rfl rfl rfl) rfl rfl (k4.contains_c ex out (⟨op2, im4, ks⟩ : NodeT) (HS.call hs95) hr95 (by first | omega | decide | (dsimp only; omega)) (by first | omega | decide | (dsimp only; omega)) (hr93.mono hF95) (by exact ⟨by omega, fun q => Nat.le_trans (hb.at q) (by omega)⟩)) ?_
              rintro _ H96 ⟨r96, F96, hF96, hs96, rfl⟩
              replace hs96 := HS.back hs95 rfl hs96
              have hs96 : HS (Base.of H []) F96 H96 [[], [], [(b20, .cells [(.slice ar61_2_0 xr.l.length kr61_2_0), (.int .i64 xr.loops)] none false)], [(b26, .cells [(.int .i64 op2), (.int .i64 im4), (.slice lra61_3_2 ks.length lrk61_3_2)] none false)], []] R := hs96
              replace hs96 := HS.thaw hs93 (i := 0) rfl hF95 hp95 hF96 hs96
              have hs96 : HS (Base.of H []) F93 H96 [lp6_5, [], [(b20, .cells [(.slice ar61_2_0 xr.l.length kr61_2_0), (.int .i64 xr.loops)] none false)], [(b26, .cells [(.int .i64 op2), (.int .i64 im4), (.slice lra61_3_2 ks.length lrk61_3_2)] none false)], []] R := hs96
              refine wro 1 3 [] 141 141 [] [(141, (.bool (!r96)))] trivial (by kernel_rfl) rfl fun gg97 => ?_
              refine wo_end 1 rfl ?_
              refine wk_if 0 2 (v := (!r96)) rfl rfl rfl rfl (fun c98b => ?_) (fun c98b => ?_)
              · have c98 := c98b
                try simp only [BS] at c98
                refine wk_region ?_
                refine wro 2 0 [(1, .o (.agg ⟨[(.int .i64 op2), (.int .i64 im4), (.slice lra61_3_2 ks.length lrk61_3_2)]⟩))] 142 143 [] [(142, (.slice la6_5 out.length lk6_5)), (143, (.agg ⟨[(.int .i64 op2), (.int .i64 im4), (.slice lra61_3_2 ks.length lrk61_3_2)]⟩))] (vA (qn 24 0 3 (HS.hc hs96 (i := 3) rfl) rfl rfl rfl rfl) trivial) (by kernel_rfl) rfl fun gg99 => ?_
                refine wo_rs (rs_lit (α := NodeT) (ps := [(0, (.agg ⟨[(.int .i64 op2), (.int .i64 im4), (.slice lra61_3_2 ks.length lrk61_3_2)]⟩))]) (cells := [(.int .i64 op2), (.int .i64 im4), (.slice lra61_3_2 ks.length lrk61_3_2)]) ([(⟨op2, im4, ks⟩ : NodeT)] : List NodeT) hs96 rfl rfl rfl (by kernel_rfl) ⟨[(.int .i64 op2), (.int .i64 im4), (.slice lra61_3_2 ks.length lrk61_3_2)], [], rfl, ⟨lra61_3_2, lrk61_3_2, rfl, by first | omega | decide | (dsimp only; omega), by first | omega | decide | (dsimp only; omega), hr93⟩, rfl⟩ rfl) rfl rfl ?_
                rintro _ H101 p100 ⟨a100, k100, rfl, ho100, hs101, _⟩
                have hs101 : HS (Base.of H []) F93 H101 [lp6_5, [], [(b20, .cells [(.slice ar61_2_0 xr.l.length kr61_2_0), (.int .i64 xr.loops)] none false)], [(b26, .cells [(.int .i64 op2), (.int .i64 im4), (.slice lra61_3_2 ks.length lrk61_3_2)] none false)], [], p100] R := hs101
                refine wo_rs (rs_app (α := NodeT) (q := 0) lh6_5 hs101 rfl rfl rfl (OS.sv ho100 hs101 (i := 5) rfl) rfl rfl rfl rfl rfl rfl rfl (by simp only [List.length_append, List.length_cons, List.length_nil]; omega)) rfl rfl ?_
                rintro _ H103 p102 ⟨a102, k102, rfl, ho102, hs103, _⟩
                have hs103 : HS (Base.of H []) F93 H103 [p102, [], [(b20, .cells [(.slice ar61_2_0 xr.l.length kr61_2_0), (.int .i64 xr.loops)] none false)], [(b26, .cells [(.int .i64 op2), (.int .i64 im4), (.slice lra61_3_2 ks.length lrk61_3_2)] none false)], [], p100] R := hs103
                refine wa (.slice a102 (out ++ ([(⟨op2, im4, ks⟩ : NodeT)] : List NodeT)).length k102) rfl rfl rfl ?_
                refine wo_end 2 rfl ?_
                refine wr 1 [] 24 25 [6] [(6, (.int .i64 ((i : Int) + 1)))] (vA (vi (n := (i : Int) + 1) (by first | omega | decide | (dsimp only; omega))) trivial) (by kernel_rfl) rfl fun gg104 => ?_
                refine ih6 _ _ _ ?_ ⟨out ++ ([(⟨op2, im4, ks⟩ : NodeT)] : List NodeT), i + 1, a102, k102, p102, _, (Fz.le_trans (Fz.le_trans (Fz.le_trans (Fz.le_trans (Fz.le_trans (Fz.le_trans (Fz.le_trans (hF6) hF33) hF49) hF59) hF61) hF76) hF85) hF93), (HS.sub hs103 (List.sublist_append_left _ _)), ho102, (agC rfl (agC rfl (agC rfl (agC rfl (agC rfl agN))))), rfl, (by first | assumption | omega | (simp at *; omega)), (by first | exact hg | exact NdOK.app hg ho), (by first | exact hb.mono (by omega) | exact hb.app (by first | omega | (dsimp only; omega)))⟩
                omega
              · have c98 := c98b
                try simp only [BS] at c98
                refine wr 1 [] 24 25 [6] [(6, (.int .i64 ((i : Int) + 1)))] (vA (vi (n := (i : Int) + 1) (by first | omega | decide | (dsimp only; omega))) trivial) (by kernel_rfl) rfl fun gg105 => ?_
                refine ih6 _ _ _ ?_ ⟨out, i + 1, la6_5, lk6_5, lp6_5, _, (Fz.le_trans (Fz.le_trans (Fz.le_trans (Fz.le_trans (Fz.le_trans (Fz.le_trans (Fz.le_trans (hF6) hF33) hF49) hF59) hF61) hF76) hF85) hF93), (HS.sub hs96 (List.sublist_append_left _ _)), lh6_5, (agC rfl (agC rfl (agC rfl (agC rfl (agC rfl agN))))), rfl, (by first | assumption | omega | (simp at *; omega)), (by first | exact hg | exact NdOK.app hg ho), (by first | exact hb.mono (by omega) | exact hb.app (by first | omega | (dsimp only; omega)))⟩
                omega
  · have c8 := c8b
    try simp only [BS] at c8
    refine wr 1 [] 4 4 [146] [(4, (.slice la6_5 out.length lk6_5))] trivial (by kernel_rfl) rfl fun gg106 => ?_
    refine wk_ret ⟨.inr rfl, _, rfl, la6_5, lk6_5, out, lp6_5, _, (hF6), (HS.only hs6 (i := 0) rfl), rfl, lh6_5, (by exact hg), (by exact hb.mono (by omega))⟩

theorem GB.set {l : Nds} {n k : Nat} {x : NodeT} {i : Nat} (h : GB l n k) (hx : x.kids.length ≤ k) : GB (l.set i x) n k :=
  ⟨by rw [List.length_set]; exact h.len, fun y hy => by
    rcases List.mem_or_eq_of_mem_set hy with hy | hy
    · exact h.kds y hy
    · rw [hy]; exact hx⟩
theorem GB.up {l : Nds} {n k k' : Nat} (h : GB l n k) (hk : k ≤ k') : GB l n k' := ⟨h.len, fun x hx => Nat.le_trans (h.kds x hx) hk⟩

theorem mutate_c (ex : FuncId) {a_l : Option Addr} {k_l : Nat} (l : List NodeT) (how : Int) (at_ : Int) {F : Fz} {H : Heap} {R : List Fp} (hs : HS (.of H []) F H [] R) (hl : SR F (.slice a_l l.length k_l) l) (hhow : in64 how) (hat_ : in64 at_) (hb : GB l 17 3) : C Try.prog 0 (KX ex) 17 [(.slice a_l l.length k_l), (.int .i64 how), (.int .i64 at_)] H fun v H' => ∃ (ar : Option Addr) (kr : Nat) (r : List NodeT) (p : Fp) (F' : Fz), Fz.le F F' ∧ HS (.of H []) F' H' [p] R ∧ v = .slice ar r.length kr ∧ OS F' (.slice ar r.length kr) r p ∧ (GB r 18 4) ∧ (l.length ≤ r.length) := by
  have hbl := hb.len
  have hkk := hb.at (pickV at_ (l.length : Int)).toNat
  refine c_enter Try.func17 rfl rfl ?_
  refine wk_foc 1 rfl ?_
  refine wr 2 [] 6 6 [] [(6, (.slice none 0 0))] trivial (by kernel_rfl) rfl fun gg1 => ?_
  refine wk_region ?_
  refine wo_rs (rs_lit (α := NodeT) (ps := []) (cells := []) ([] : List NodeT) hs rfl rfl rfl (by kernel_rfl) rfl rfl) rfl rfl ?_
  rintro _ H3 p2 ⟨a2, k2, rfl, ho2, hs3, _⟩
  have hs3 : HS (Base.of H []) F H3 [p2] R := hs3
  refine wm (.slice a_l l.length k_l) rfl rfl rfl ?_
  refine wo_rs (rs_app (α := NodeT) (q := 0) ho2 hs3 rfl rfl rfl (SR.sv hl hs3) rfl rfl rfl rfl rfl rfl rfl (by simp only [List.length_append, List.length_cons, List.length_nil]; omega)) rfl rfl ?_
  rintro _ H5 p4 ⟨a4, k4, rfl, ho4, hs5, _⟩
  have hs5 : HS (Base.of H []) F H5 [p4] R := hs5
  have ho4 : OS F (.slice a4 l.length k4) l p4 := ho4
  refine wa (.slice a4 l.length k4) rfl rfl rfl ?_
  refine wo_end 3 rfl ?_
  refine wr 1 [] 13 15 [] [(15, (.bool ((l.length : Int) == 0)))] trivial (by kernel_rfl) rfl fun gg6 => ?_
  refine wk_if 1 2 (v := ((l.length : Int) == 0)) rfl rfl rfl rfl (fun c7b => ?_) (fun c7b => ?_)
  · have c7 := c7b
    try simp only [BS] at c7
    refine wr 1 [] 6 6 [16] [(6, (.slice a4 l.length k4))] trivial (by kernel_rfl) rfl fun gg8 => ?_
    refine wk_ret ⟨.inr rfl, _, rfl, a4, k4, l, p4, _, (Fz.le_refl _), (HS.only hs5 (i := 0) rfl), rfl, ho4, (by first | exact hb2.set hkl | exact (hb.mono (by omega)).up (by omega)), (by first | omega | (rw [List.length_set]; omega))⟩
  · have c7 := c7b
    try simp only [BS] at c7
    have fq9 := pick_imp at_ (l.length : Int)
    refine wr 2 [(3, .o (.int .i64 (pickV at_ (l.length : Int))))] 17 20 [8] [(8, (.int .i64 (pickV at_ (l.length : Int))))] (vA (k1.pick_c_q ex at_ (l.length : Int) H5 (by first | omega | (dsimp only; omega))) trivial) (by kernel_rfl) rfl fun gg10 => ?_
    refine wk_region ?_
    obtain ⟨cf11, hv11⟩ := Sv.view (OS.sv ho4 hs5 (i := 0) rfl)
    obtain ⟨g12_0, g12_1, s12_2⟩ := NodeT.fx (hv11 ((pickV at_ (l.length : Int)).toNat))
    refine wro 4 0 [(3, .o (.agg ⟨[(.int .i64 ((l.getD ((pickV at_ (l.length : Int)).toNat) default).op)), (.int .i64 ((l.getD ((pickV at_ (l.length : Int)).toNat) default).imm)), (.slice (cA (cf11 ((pickV at_ (l.length : Int)).toNat)) 2) ((l.getD ((pickV at_ (l.length : Int)).toNat) default).kids).length (cK (cf11 ((pickV at_ (l.length : Int)).toNat)) 2))]⟩))] 21 24 [] [(24, (.agg ⟨[(.int .i64 ((l.getD ((pickV at_ (l.length : Int)).toNat) default).op)), (.int .i64 ((l.getD ((pickV at_ (l.length : Int)).toNat) default).imm)), (.slice (cA (cf11 ((pickV at_ (l.length : Int)).toNat)) 2) ((l.getD ((pickV at_ (l.length : Int)).toNat) default).kids).length (cK (cf11 ((pickV at_ (l.length : Int)).toNat)) 2))]⟩))] (vA (Sv.ix (j := pickV at_ (l.length : Int)) (OS.sv ho4 hs5 (i := 0) rfl) (by first | omega | (dsimp only; omega)) (by first | omega | (dsimp only; omega))) (vA (qn 24 0 3 (NodeT.vw (hv11 ((pickV at_ (l.length : Int)).toNat)) (by first | omega | (dsimp only; omega))) rfl rfl rfl rfl) trivial)) (by kernel_rfl) rfl fun gg13 => ?_
    refine wo_rs (rs_new hs5 rfl) rfl rfl ?_
    rintro _ H15 _ ⟨b14, rfl, hs15, _⟩
    have hs15 : HS (Base.of H []) F H15 [p4, [(b14, .cells [(.int .i64 0), (.int .i64 0), (.slice none 0 0)] none false)]] R := hs15
    refine wo_rk (rs_rec (q := 1) hs15 rfl rfl rfl rfl rfl rfl rfl rfl rfl) rfl ?_
    rintro _ H16 _ ⟨hs16, _⟩
    have hs16 : HS (Base.of H []) F H16 [p4, [(b14, .cells [(.int .i64 ((l.getD ((pickV at_ (l.length : Int)).toNat) default).op)), (.int .i64 ((l.getD ((pickV at_ (l.length : Int)).toNat) default).imm)), (.slice (cA (cf11 ((pickV at_ (l.length : Int)).toNat)) 2) ((l.getD ((pickV at_ (l.length : Int)).toNat) default).kids).length (cK (cf11 ((pickV at_ (l.length : Int)).toNat)) 2))] none false)]] R := hs16
    refine wo_end 2 rfl ?_
    refine wk_region ?_
    refine wo_rs (rs_lit (α := Int) (ps := []) (cells := []) ([] : List Int) hs16 rfl rfl rfl (by kernel_rfl) rfl rfl) rfl rfl ?_
    rintro _ H18 p17 ⟨a17, k17, rfl, ho17, hs18, _⟩
    have hs18 : HS (Base.of H []) F H18 [p4, [(b14, .cells [(.int .i64 ((l.getD ((pickV at_ (l.length : Int)).toNat) default).op)), (.int .i64 ((l.getD ((pickV at_ (l.length : Int)).toNat) default).imm)), (.slice (cA (cf11 ((pickV at_ (l.length : Int)).toNat)) 2) ((l.getD ((pickV at_ (l.length : Int)).toNat) default).kids).length (cK (cf11 ((pickV at_ (l.length : Int)).toNat)) 2))] none false)], p17] R := hs18
    refine wro 2 1 [(2, .o (.slice (cA (cf11 ((pickV at_ (l.length : Int)).toNat)) 2) ((l.getD ((pickV at_ (l.length : Int)).toNat) default).kids).length (cK (cf11 ((pickV at_ (l.length : Int)).toNat)) 2)))] 26 27 [] [(27, (.slice (cA (cf11 ((pickV at_ (l.length : Int)).toNat)) 2) ((l.getD ((pickV at_ (l.length : Int)).toNat) default).kids).length (cK (cf11 ((pickV at_ (l.length : Int)).toNat)) 2)))] (vA (ql 22 2 (HS.hc hs18 (i := 1) rfl) rfl rfl) trivial) (by kernel_rfl) rfl fun gg19 => ?_
    refine wo_rs (rs_app (α := Int) (q := 2) ho17 hs18 rfl rfl rfl (SR.sv s12_2 hs18) rfl rfl rfl rfl rfl rfl rfl (by simp only [List.length_append, List.length_cons, List.length_nil]; omega)) rfl rfl ?_
    rintro _ H21 p20 ⟨a20, k20, rfl, ho20, hs21, _⟩
    have hs21 : HS (Base.of H []) F H21 [p4, [(b14, .cells [(.int .i64 ((l.getD ((pickV at_ (l.length : Int)).toNat) default).op)), (.int .i64 ((l.getD ((pickV at_ (l.length : Int)).toNat) default).imm)), (.slice (cA (cf11 ((pickV at_ (l.length : Int)).toNat)) 2) ((l.getD ((pickV at_ (l.length : Int)).toNat) default).kids).length (cK (cf11 ((pickV at_ (l.length : Int)).toNat)) 2))] none false)], p20] R := hs21
    have ho20 : OS F (.slice a20 ((l.getD ((pickV at_ (l.length : Int)).toNat) default).kids).length k20) ((l.getD ((pickV at_ (l.length : Int)).toNat) default).kids) p20 := ho20
    refine wro 1 4 [] 29 29 [] [(29, (.pointer (some ⟨b14, 2, none⟩)))] trivial (by kernel_rfl) rfl fun gg22 => ?_
    refine wo_rk (rs_rec (q := 1) hs21 rfl rfl rfl rfl rfl rfl rfl rfl rfl) rfl ?_
    rintro _ H23 _ ⟨hs23, _⟩
    have hs23 : HS (Base.of H []) F H23 [p4, [(b14, .cells [(.int .i64 ((l.getD ((pickV at_ (l.length : Int)).toNat) default).op)), (.int .i64 ((l.getD ((pickV at_ (l.length : Int)).toNat) default).imm)), (.slice a20 ((l.getD ((pickV at_ (l.length : Int)).toNat) default).kids).length k20)] none false)], p20] R := hs23
    refine wo_end 3 rfl ?_
    have fq24 := pick_imp how (10 : Int)
    refine wr 3 [(1, .o (.int .i64 (pickV how (10 : Int))))] 30 31 [] [(31, (.int .i64 (pickV how (10 : Int))))] (vA (k1.pick_c_q ex how (10) H23 (by first | omega | (dsimp only; omega))) trivial) (by kernel_rfl) rfl fun gg25 => ?_
    refine wr 1 [] 32 33 [] [(32, (.bool (pickV how (10 : Int) == 0)))] trivial (by kernel_rfl) rfl fun gg26 => ?_
    refine wk_join (fun f H' => ∃ (o2 : List NodeT) (op1 : Int) (im1 : Int) (ks : List Int) (la27_7 : Option Addr) (lk27_7 : Nat) (lp27_7 : Fp) (lrp27_1_2 : Fp) (lra27_1_2 : Option Addr) (lrk27_1_2 : Nat) (F' : Fz), Fz.le F F' ∧ HS (Base.of H []) F' H' [lp27_7, [(b14, .cells [(.int .i64 op1), (.int .i64 im1), (.slice lra27_1_2 ks.length lrk27_1_2)] none false)], lrp27_1_2] R ∧ OS F' (.slice la27_7 o2.length lk27_7) o2 lp27_7 ∧ SR F' (.slice lra27_1_2 ks.length lrk27_1_2) ks ∧ agrees f [(1, (.int .i64 how)), (2, (.int .i64 at_)), (6, (.slice none 0 0)), (7, (.slice la27_7 o2.length lk27_7)), (8, (.int .i64 (pickV at_ (l.length : Int)))), (9, (.pointer (some ⟨b14, 0, none⟩))), (31, (.int .i64 (pickV how (10 : Int)))), (32, (.bool (pickV how (10 : Int) == 0)))] ∧ (GB o2 18 4) ∧ (l.length ≤ o2.length) ∧ (ks.length ≤ 4) ∧ (in64 op1) ∧ (in64 im1) ∧ ((pickV at_ (l.length : Int)).toNat < o2.length)) (fun jn27 => ?_) ?_
    · skip
      refine wk_if 0 1 (v := (pickV how (10 : Int) == 0)) rfl rfl rfl rfl (fun c28b => ?_) (fun c28b => ?_)
      · have c28 := c28b
        try simp only [BS] at c28
        refine wk_region ?_
        have tq29 : in64 how → in64 (Int.tdiv how 10) := fun h => vq h (by decide)
        have fq30 := pick_imp (Int.tdiv how 10) (36 : Int)
        refine wro 5 0 [(2, .o (.int .i64 (pickV (Int.tdiv how 10) (36 : Int))))] 34 38 [] [(37, (.int .i64 ((pickV (Int.tdiv how 10) (36 : Int)) - 1))), (38, (.pointer (some ⟨b14, 0, none⟩)))] (vA (vA (show (10 : Int) ≠ 0 from by decide) (vq (a := how) (b := 10) (by first | omega | (dsimp only; omega)) (by decide))) (vA (k1.pick_c_q ex (Int.tdiv how 10) (36) H23 (by first | omega | (dsimp only; omega))) (vA (vi (n := (pickV (Int.tdiv how 10) (36 : Int)) - 1) (by first | omega | (dsimp only; omega))) trivial))) (by kernel_rfl) rfl fun gg31 => ?_
        refine wo_rk (rs_rec (q := 1) hs23 rfl rfl rfl rfl rfl rfl rfl rfl rfl) rfl ?_
        rintro _ H32 _ ⟨hs32, _⟩
        have hs32 : HS (Base.of H []) F H32 [p4, [(b14, .cells [(.int .i64 ((pickV (Int.tdiv how 10) (36 : Int)) - 1)), (.int .i64 ((l.getD ((pickV at_ (l.length : Int)).toNat) default).imm)), (.slice a20 ((l.getD ((pickV at_ (l.length : Int)).toNat) default).kids).length k20)] none false)], p20] R := hs32
        refine wo_end 0 rfl ?_
        obtain ⟨F33, hF33, hs33, hr33, hp33⟩ := OS.frz ho20 hs32 (i := 2) rfl
        have hs33 : HS (Base.of H []) F33 H32 [p4, [(b14, .cells [(.int .i64 ((pickV (Int.tdiv how 10) (36 : Int)) - 1)), (.int .i64 ((l.getD ((pickV at_ (l.length : Int)).toNat) default).imm)), (.slice a20 ((l.getD ((pickV at_ (l.length : Int)).toNat) default).kids).length k20)] none false)], []] R := hs33
        replace hl := hl.mono hF33
        replace ho17 := ho17.mono hF33
        replace ho2 := ho2.mono hF33
        replace ho20 := ho20.mono hF33
        replace ho4 := ho4.mono hF33
        replace s12_2 := s12_2.mono hF33
        exact jn27 _ _ ⟨l, (pickV (Int.tdiv how 10) (36 : Int)) - 1, (l.getD ((pickV at_ (l.length : Int)).toNat) default).imm, ((l.getD ((pickV at_ (l.length : Int)).toNat) default).kids), a4, k4, p4, [], a20, k20, _, (hF33), hs33, ho4, hr33, (agC rfl (agC rfl (agC rfl (agC rfl (agC rfl (agC rfl (agC rfl (agC rfl agN)))))))), (by first | exact (hb.mono (by omega)).up (by omega) | exact ((hb.up (by omega)).app (by first | omega | (dsimp only; omega)))), (by first | omega | (simp only [List.length_append, List.length_cons, List.length_nil]; omega)), (by first | omega | (simp only [List.length_append, List.length_set, List.length_drop, List.length_cons, List.length_nil]; omega)), (by first | assumption | omega | decide), (by first | assumption | omega | decide), (by first | omega | (simp only [List.length_append, List.length_cons, List.length_nil]; omega))⟩
      · have c28 := c28b
        try simp only [BS] at c28
        refine wr 1 [] 39 40 [] [(39, (.bool (pickV how (10 : Int) == 1)))] trivial (by kernel_rfl) rfl fun gg34 => ?_
        refine wk_if 0 1 (v := (pickV how (10 : Int) == 1)) rfl rfl rfl rfl (fun c35b => ?_) (fun c35b => ?_)
        · have c35 := c35b
          try simp only [BS] at c35
          refine wk_region ?_
          have tq36 : in64 how → in64 (Int.tdiv how 10) := fun h => vq h (by decide)
          have fq37 := pick_imp (Int.tdiv how 10) (300 : Int)
          refine wro 5 0 [(2, .o (.int .i64 (pickV (Int.tdiv how 10) (300 : Int))))] 41 45 [] [(44, (.int .i64 ((pickV (Int.tdiv how 10) (300 : Int)) - 3))), (45, (.pointer (some ⟨b14, 1, none⟩)))] (vA (vA (show (10 : Int) ≠ 0 from by decide) (vq (a := how) (b := 10) (by first | omega | (dsimp only; omega)) (by decide))) (vA (k1.pick_c_q ex (Int.tdiv how 10) (300) H23 (by first | omega | (dsimp only; omega))) (vA (vi (n := (pickV (Int.tdiv how 10) (300 : Int)) - 3) (by first | omega | (dsimp only; omega))) trivial))) (by kernel_rfl) rfl fun gg38 => ?_
          refine wo_rk (rs_rec (q := 1) hs23 rfl rfl rfl rfl rfl rfl rfl rfl rfl) rfl ?_
          rintro _ H39 _ ⟨hs39, _⟩
          have hs39 : HS (Base.of H []) F H39 [p4, [(b14, .cells [(.int .i64 ((l.getD ((pickV at_ (l.length : Int)).toNat) default).op)), (.int .i64 ((pickV (Int.tdiv how 10) (300 : Int)) - 3)), (.slice a20 ((l.getD ((pickV at_ (l.length : Int)).toNat) default).kids).length k20)] none false)], p20] R := hs39
          refine wo_end 0 rfl ?_
          obtain ⟨F40, hF40, hs40, hr40, hp40⟩ := OS.frz ho20 hs39 (i := 2) rfl
          have hs40 : HS (Base.of H []) F40 H39 [p4, [(b14, .cells [(.int .i64 ((l.getD ((pickV at_ (l.length : Int)).toNat) default).op)), (.int .i64 ((pickV (Int.tdiv how 10) (300 : Int)) - 3)), (.slice a20 ((l.getD ((pickV at_ (l.length : Int)).toNat) default).kids).length k20)] none false)], []] R := hs40
          replace hl := hl.mono hF40
          replace ho17 := ho17.mono hF40
          replace ho2 := ho2.mono hF40
          replace ho20 := ho20.mono hF40
          replace ho4 := ho4.mono hF40
          replace s12_2 := s12_2.mono hF40
          exact jn27 _ _ ⟨l, (l.getD ((pickV at_ (l.length : Int)).toNat) default).op, (pickV (Int.tdiv how 10) (300 : Int)) - 3, ((l.getD ((pickV at_ (l.length : Int)).toNat) default).kids), a4, k4, p4, [], a20, k20, _, (hF40), hs40, ho4, hr40, (agC rfl (agC rfl (agC rfl (agC rfl (agC rfl (agC rfl (agC rfl (agC rfl agN)))))))), (by first | exact (hb.mono (by omega)).up (by omega) | exact ((hb.up (by omega)).app (by first | omega | (dsimp only; omega)))), (by first | omega | (simp only [List.length_append, List.length_cons, List.length_nil]; omega)), (by first | omega | (simp only [List.length_append, List.length_set, List.length_drop, List.length_cons, List.length_nil]; omega)), (by first | assumption | omega | decide), (by first | assumption | omega | decide), (by first | omega | (simp only [List.length_append, List.length_cons, List.length_nil]; omega))⟩
        · have c35 := c35b
          try simp only [BS] at c35
          refine wr 1 [] 46 47 [] [(46, (.bool (pickV how (10 : Int) == 2)))] trivial (by kernel_rfl) rfl fun gg41 => ?_
          refine wk_if 0 1 (v := (pickV how (10 : Int) == 2)) rfl rfl rfl rfl (fun c42b => ?_) (fun c42b => ?_)
          · have c42 := c42b
            try simp only [BS] at c42
            refine wf_region rfl ?_
            refine wf_pure (v := (.pointer (some ⟨b14, 2, none⟩))) (id := .v) (ap_fa rfl rfl) rfl rfl (did_v rfl) (okD_v _) ?_
            refine wf_pure (v := (.slice a20 ((l.getD ((pickV at_ (l.length : Int)).toNat) default).kids).length k20)) (id := .l b14) (ap_ld1 (i := 2) rfl rfl (HS.hc hs23.log0 (i := 1) rfl) rfl rfl) rfl rfl (did_l rfl) (⟨.inl rfl, trivial⟩) ?_
            refine fm (.int .i64 how) rfl rfl rfl ?_
            have tq43 : in64 how → in64 (Int.tdiv how 10) := fun h => vq h (by decide)
            refine wf_pure (v := (.int .i64 (Int.tdiv how 10))) (id := .v) (ap_div rfl rfl (by decide) (w_tdiv (by first | omega | (dsimp only; omega)) (by decide))) rfl rfl (did_v rfl) (okD_v _) ?_
            refine fm (.slice a4 l.length k4) rfl rfl rfl ?_
            refine wf_pure (v := (.int .i64 (l.length : Int))) (id := .x []) (ap_lenV (α := NodeT) rfl rfl (OS.sv ho4 hs23.log0 (i := 0) rfl)) rfl rfl (did_x (W := []) rfl rfl fun b hb => absurd hb List.not_mem_nil) (⟨.inl rfl, ⟨.inr trivial, ⟨.inr trivial, ⟨.inr List.not_mem_nil, ⟨.inr trivial, trivial⟩⟩⟩⟩⟩) ?_
            refine wf_pure (v := (.int .i64 ((l.length : Int) + 2))) (id := .v) (ap_add rfl rfl (w_i64 (n := (l.length : Int) + 2) (by first | omega | (dsimp only; omega)))) rfl rfl (did_v rfl) (okD_v _) ?_
            have fq44 := pick_imp (Int.tdiv how 10) ((l.length : Int) + 2)
            refine wf_call (W := []) (ap_call rfl rfl rfl) rfl rfl rfl (k1.pick_c ex (Int.tdiv how 10) ((l.length : Int) + 2) _ (by first | omega | (dsimp only; omega))) (⟨.inl rfl, ⟨.inl rfl, ⟨.inl rfl, ⟨.inl rfl, ⟨.inl rfl, ⟨.inr List.not_mem_nil, ⟨.inr trivial, trivial⟩⟩⟩⟩⟩⟩⟩) ?_
            rintro _ _ ⟨r45, rfl, rfl, rfl⟩
            refine ⟨fun b hb => absurd hb List.not_mem_nil, fun lg45 hlg45 => ?_⟩
            have hs45 := HS.lg hs23.log0 hs23 hlg45
            generalize ({ { H23 with log := [] } with log := lg45 } : Heap) = H45g at hs45 ⊢
            refine wf_pure (v := (.int .i64 ((pickV (Int.tdiv how 10) ((l.length : Int) + 2)) - 1))) (id := .v) (ap_sub rfl rfl (w_i64 (n := (pickV (Int.tdiv how 10) ((l.length : Int) + 2)) - 1) (by first | omega | (dsimp only; omega)))) rfl rfl (did_v rfl) (okD_v _) ?_
            refine wf_rs (id := .a) (rs_lit (α := Int) (ps := [(0, (.int .i64 ((pickV (Int.tdiv how 10) ((l.length : Int) + 2)) - 1)))]) (cells := [(.int .i64 ((pickV (Int.tdiv how 10) ((l.length : Int) + 2)) - 1))]) ([(pickV (Int.tdiv how 10) ((l.length : Int) + 2)) - 1] : List Int) hs45.log0 rfl rfl rfl (by kernel_rfl) ⟨[(.int .i64 ((pickV (Int.tdiv how 10) ((l.length : Int) + 2)) - 1))], [], rfl, ⟨rfl, by first | omega | (dsimp only; omega)⟩, rfl⟩ rfl) rfl rfl (fun _ _ _ _ => did_a rfl rfl rfl) (⟨.inl rfl, ⟨.inl rfl, ⟨.inl rfl, ⟨.inl rfl, ⟨.inl rfl, ⟨.inl rfl, ⟨.inl rfl, ⟨.inr trivial, ⟨.inr trivial, trivial⟩⟩⟩⟩⟩⟩⟩⟩⟩) ?_
            rintro _ H47 p46 ⟨a46, k46, rfl, ho46, hs47, _⟩ lg47 hlg47
            replace hs47 := HS.lg hs47 hs45 hlg47
            generalize ({ H47 with log := lg47 } : Heap) = H47g at hs47 ⊢
            have hs47 : HS (Base.of H []) F H47g [p4, [(b14, .cells [(.int .i64 ((l.getD ((pickV at_ (l.length : Int)).toNat) default).op)), (.int .i64 ((l.getD ((pickV at_ (l.length : Int)).toNat) default).imm)), (.slice a20 ((l.getD ((pickV at_ (l.length : Int)).toNat) default).kids).length k20)] none false)], p20, p46] R := hs47
            refine wf_rs (id := .x (p20.map Prod.fst)) (rs_app (α := Int) (q := 2) ho20 hs47.log0 rfl rfl rfl (OS.sv ho46 hs47.log0 (i := 3) rfl) rfl rfl rfl rfl rfl rfl rfl (by simp only [List.length_append, List.length_cons, List.length_nil]; omega)) rfl rfl (by rintro _ _ p48 ⟨a48, k48, rfl, ho48, _, hwr⟩; exact did_x rfl rfl (Wr.did hwr)) (⟨.inl rfl, ⟨.inl rfl, ⟨.inl rfl, ⟨.inl rfl, ⟨.inl rfl, ⟨.inl rfl, ⟨.inl rfl, ⟨.inl rfl, ⟨.inl rfl, ⟨.inl rfl, trivial⟩⟩⟩⟩⟩⟩⟩⟩⟩⟩) ?_
            rintro _ H49 p48 ⟨a48, k48, rfl, ho48, hs49, _⟩ lg49 hlg49
            replace hs49 := HS.lg hs49 hs47 hlg49
            generalize ({ H49 with log := lg49 } : Heap) = H49g at hs49 ⊢
            have hs49 : HS (Base.of H []) F H49g [p4, [(b14, .cells [(.int .i64 ((l.getD ((pickV at_ (l.length : Int)).toNat) default).op)), (.int .i64 ((l.getD ((pickV at_ (l.length : Int)).toNat) default).imm)), (.slice a20 ((l.getD ((pickV at_ (l.length : Int)).toNat) default).kids).length k20)] none false)], p48, p46] R := hs49
            refine wf_pure (v := (.pointer (some ⟨b14, 2, none⟩))) (id := .v) (ap_fa rfl rfl) rfl rfl (did_v rfl) (okD_v _) ?_
            refine wf_rk (id := .x [b14]) (rs_rec (q := 1) hs49.log0 rfl rfl rfl rfl rfl rfl rfl rfl rfl) rfl (by rintro _ _ _ ⟨_, hwr⟩; exact did_x rfl rfl (Wr.did hwr)) (⟨.inl rfl, ⟨.inl rfl, ⟨.inl rfl, ⟨.inl rfl, ⟨.inl rfl, ⟨.inl rfl, ⟨.inl rfl, ⟨.inl rfl, ⟨.inl rfl, ⟨.inl rfl, ⟨.inl rfl, ⟨.inl rfl, trivial⟩⟩⟩⟩⟩⟩⟩⟩⟩⟩⟩⟩) ?_
            rintro _ H50 _ ⟨hs50, _⟩ lg50 hlg50
            replace hs50 := HS.lg hs50 hs49 hlg50
            generalize ({ H50 with log := lg50 } : Heap) = H50g at hs50 ⊢
            have hs50 : HS (Base.of H []) F H50g [p4, [(b14, .cells [(.int .i64 ((l.getD ((pickV at_ (l.length : Int)).toNat) default).op)), (.int .i64 ((l.getD ((pickV at_ (l.length : Int)).toNat) default).imm)), (.slice a48 (((l.getD ((pickV at_ (l.length : Int)).toNat) default).kids) ++ ([(pickV (Int.tdiv how 10) ((l.length : Int) + 2)) - 1] : List Int)).length k48)] none false)], p48, p46] R := hs50
            refine wf_nil ?_
            obtain ⟨F51, hF51, hs51, hr51, hp51⟩ := OS.frz ho48 hs50 (i := 2) rfl
            have hs51 : HS (Base.of H []) F51 H50g [p4, [(b14, .cells [(.int .i64 ((l.getD ((pickV at_ (l.length : Int)).toNat) default).op)), (.int .i64 ((l.getD ((pickV at_ (l.length : Int)).toNat) default).imm)), (.slice a48 (((l.getD ((pickV at_ (l.length : Int)).toNat) default).kids) ++ ([(pickV (Int.tdiv how 10) ((l.length : Int) + 2)) - 1] : List Int)).length k48)] none false)], [], p46] R := hs51
            replace hl := hl.mono hF51
            replace ho17 := ho17.mono hF51
            replace ho2 := ho2.mono hF51
            replace ho20 := ho20.mono hF51
            replace ho4 := ho4.mono hF51
            replace ho46 := ho46.mono hF51
            replace ho48 := ho48.mono hF51
            replace s12_2 := s12_2.mono hF51
            exact jn27 _ _ ⟨l, (l.getD ((pickV at_ (l.length : Int)).toNat) default).op, (l.getD ((pickV at_ (l.length : Int)).toNat) default).imm, ((l.getD ((pickV at_ (l.length : Int)).toNat) default).kids) ++ ([(pickV (Int.tdiv how 10) ((l.length : Int) + 2)) - 1] : List Int), a4, k4, p4, [], a48, k48, _, (hF51), (HS.sub hs51 (List.sublist_append_left _ _)), ho4, hr51, (agC rfl (agC rfl (agC rfl (agC rfl (agC rfl (agC rfl (agC rfl (agC rfl agN)))))))), (by first | exact (hb.mono (by omega)).up (by omega) | exact ((hb.up (by omega)).app (by first | omega | (dsimp only; omega)))), (by first | omega | (simp only [List.length_append, List.length_cons, List.length_nil]; omega)), (by first | omega | (simp only [List.length_append, List.length_set, List.length_drop, List.length_cons, List.length_nil]; omega)), (by first | assumption | omega | decide), (by first | assumption | omega | decide), (by first | omega | (simp only [List.length_append, List.length_cons, List.length_nil]; omega))⟩
          · have c42 := c42b
            try simp only [BS] at c42
            refine wr 1 [] 60 61 [] [(60, (.bool (pickV how (10 : Int) == 3)))] trivial (by kernel_rfl) rfl fun gg52 => ?_
            refine wk_if 1 1 (v := (pickV how (10 : Int) == 3)) rfl rfl rfl rfl (fun c53b => ?_) (fun c53b => ?_)
            · have c53 := c53b
              try simp only [BS] at c53
              refine wr 1 [(1, .o (.slice a20 ((l.getD ((pickV at_ (l.length : Int)).toNat) default).kids).length k20))] 62 65 [] [(65, (.bool (decide ((0 : Int) < (((l.getD ((pickV at_ (l.length : Int)).toNat) default).kids).length : Int)))))] (vA (ql 22 2 (HS.hc hs23 (i := 1) rfl) rfl rfl) trivial) (by kernel_rfl) rfl fun gg54 => ?_
              refine wk_if 0 0 (v := (decide ((0 : Int) < (((l.getD ((pickV at_ (l.length : Int)).toNat) default).kids).length : Int)))) rfl rfl rfl rfl (fun c55b => ?_) (fun c55b => ?_)
              · have c55 := c55b
                try simp only [BS] at c55
                refine wf_region rfl ?_
                refine wf_pure (v := (.pointer (some ⟨b14, 2, none⟩))) (id := .v) (ap_fa rfl rfl) rfl rfl (did_v rfl) (okD_v _) ?_
                refine wf_pure (v := (.slice a20 ((l.getD ((pickV at_ (l.length : Int)).toNat) default).kids).length k20)) (id := .l b14) (ap_ld1 (i := 2) rfl rfl (HS.hc hs23.log0 (i := 1) rfl) rfl rfl) rfl rfl (did_l rfl) (⟨.inl rfl, trivial⟩) ?_
                refine fm (.int .i64 how) rfl rfl rfl ?_
                have tq56 : in64 how → in64 (Int.tdiv how 10) := fun h => vq h (by decide)
                refine wf_pure (v := (.int .i64 (Int.tdiv how 10))) (id := .v) (ap_div rfl rfl (by decide) (w_tdiv (by first | omega | (dsimp only; omega)) (by decide))) rfl rfl (did_v rfl) (okD_v _) ?_
                refine wf_pure (v := (.pointer (some ⟨b14, 2, none⟩))) (id := .v) (ap_fa rfl rfl) rfl rfl (did_v rfl) (okD_v _) ?_
                refine wf_pure (v := (.slice a20 ((l.getD ((pickV at_ (l.length : Int)).toNat) default).kids).length k20)) (id := .l b14) (ap_ld1 (i := 2) rfl rfl (HS.hc hs23.log0 (i := 1) rfl) rfl rfl) rfl rfl (did_l rfl) (⟨.inl rfl, ⟨.inr trivial, ⟨.inr trivial, ⟨.inr trivial, ⟨.inr trivial, trivial⟩⟩⟩⟩⟩) ?_
                refine wf_pure (v := (.int .i64 (((l.getD ((pickV at_ (l.length : Int)).toNat) default).kids).length : Int))) (id := .x []) (ap_lenV (α := Int) rfl rfl (OS.sv ho20 hs23.log0 (i := 2) rfl)) rfl rfl (did_x (W := []) rfl rfl fun b hb => absurd hb List.not_mem_nil) (⟨.inl rfl, ⟨.inl rfl, ⟨.inr trivial, ⟨.inr trivial, ⟨.inr List.not_mem_nil, ⟨.inr trivial, trivial⟩⟩⟩⟩⟩⟩) ?_
                have fq57 := pick_imp (Int.tdiv how 10) (((l.getD ((pickV at_ (l.length : Int)).toNat) default).kids).length : Int)
                refine wf_call (W := []) (ap_call rfl rfl rfl) rfl rfl rfl (k1.pick_c ex (Int.tdiv how 10) (((l.getD ((pickV at_ (l.length : Int)).toNat) default).kids).length : Int) _ (by first | omega | (dsimp only; omega))) (⟨.inl rfl, ⟨.inl rfl, ⟨.inl rfl, ⟨.inl rfl, ⟨.inl rfl, ⟨.inr List.not_mem_nil, ⟨.inr trivial, trivial⟩⟩⟩⟩⟩⟩⟩) ?_
                rintro _ _ ⟨r58, rfl, rfl, rfl⟩
                refine ⟨fun b hb => absurd hb List.not_mem_nil, fun lg58 hlg58 => ?_⟩
                have hs58 := HS.lg hs23.log0 hs23 hlg58
                generalize ({ { H23 with log := [] } with log := lg58 } : Heap) = H58g at hs58 ⊢
                refine fm (.int .i64 at_) rfl rfl rfl ?_
                have tq59 : in64 at_ → in64 (Int.tdiv at_ 3) := fun h => vq h (by decide)
                refine wf_pure (v := (.int .i64 (Int.tdiv at_ 3))) (id := .v) (ap_div rfl rfl (by decide) (w_tdiv (by first | omega | (dsimp only; omega)) (by decide))) rfl rfl (did_v rfl) (okD_v _) ?_
                refine fm (.slice a4 l.length k4) rfl rfl rfl ?_
                refine wf_pure (v := (.int .i64 (l.length : Int))) (id := .x []) (ap_lenV (α := NodeT) rfl rfl (OS.sv ho4 hs58.log0 (i := 0) rfl)) rfl rfl (did_x (W := []) rfl rfl fun b hb => absurd hb List.not_mem_nil) (⟨.inl rfl, ⟨.inr trivial, ⟨.inr trivial, ⟨.inr ⟨trivial, trivial⟩, ⟨.inr ⟨trivial, trivial⟩, ⟨.inr List.not_mem_nil, ⟨.inr trivial, ⟨.inr trivial, ⟨.inr trivial, ⟨.inr List.not_mem_nil, ⟨.inr trivial, trivial⟩⟩⟩⟩⟩⟩⟩⟩⟩⟩⟩) ?_
                refine wf_pure (v := (.int .i64 ((l.length : Int) + 2))) (id := .v) (ap_add rfl rfl (w_i64 (n := (l.length : Int) + 2) (by first | omega | (dsimp only; omega)))) rfl rfl (did_v rfl) (okD_v _) ?_
                have fq60 := pick_imp (Int.tdiv at_ 3) ((l.length : Int) + 2)
                refine wf_call (W := []) (ap_call rfl rfl rfl) rfl rfl rfl (k1.pick_c ex (Int.tdiv at_ 3) ((l.length : Int) + 2) _ (by first | omega | (dsimp only; omega))) (⟨.inl rfl, ⟨.inl rfl, ⟨.inl rfl, ⟨.inl rfl, ⟨.inl rfl, ⟨.inl rfl, ⟨.inl rfl, ⟨.inl rfl, ⟨.inl rfl, ⟨.inl rfl, ⟨.inl rfl, ⟨.inr List.not_mem_nil, ⟨.inr trivial, trivial⟩⟩⟩⟩⟩⟩⟩⟩⟩⟩⟩⟩⟩) ?_
                rintro _ _ ⟨r61, rfl, rfl, rfl⟩
                refine ⟨fun b hb => absurd hb List.not_mem_nil, fun lg61 hlg61 => ?_⟩
                have hs61 := HS.lg hs58.log0 hs58 hlg61
                generalize ({ { H58g with log := [] } with log := lg61 } : Heap) = H61g at hs61 ⊢
                refine wf_pure (v := (.int .i64 ((pickV (Int.tdiv at_ 3) ((l.length : Int) + 2)) - 1))) (id := .v) (ap_sub rfl rfl (w_i64 (n := (pickV (Int.tdiv at_ 3) ((l.length : Int) + 2)) - 1) (by first | omega | (dsimp only; omega)))) rfl rfl (did_v rfl) (okD_v _) ?_
                refine wf_pure (v := (.pointer (some ⟨sB (.slice a20 ((l.getD ((pickV at_ (l.length : Int)).toNat) default).kids).length k20), sO (.slice a20 ((l.getD ((pickV at_ (l.length : Int)).toNat) default).kids).length k20) + ((pickV (Int.tdiv how 10) (((l.getD ((pickV at_ (l.length : Int)).toNat) default).kids).length : Int)).toNat) * Rp.sz Int, none⟩))) (id := .v) (ap_idxV (α := Int) (j := pickV (Int.tdiv how 10) (((l.getD ((pickV at_ (l.length : Int)).toNat) default).kids).length : Int)) rfl rfl rfl rfl (OS.sv ho20 hs61.log0 (i := 2) rfl) (by first | omega | (dsimp only; omega)) (by first | omega | (dsimp only; omega))) rfl rfl (did_v rfl) (okD_v _) ?_
                refine wf_rk (id := .x (p20.map Prod.fst)) (rs_st (α := Int) (j := (pickV (Int.tdiv how 10) (((l.getD ((pickV at_ (l.length : Int)).toNat) default).kids).length : Int)).toNat) (off := 0) (q := 2) ((pickV (Int.tdiv at_ 3) ((l.length : Int) + 2)) - 1) ho20 hs61.log0 rfl rfl rfl rfl rfl rfl rfl rfl (getD_at (x := (0 : Int)) (by first | omega | (dsimp only; omega))) rfl (by rintro cs ⟨rfl, _⟩; exact ⟨Nat.le_of_ble_eq_true rfl, rfl, by first | omega | (dsimp only; omega)⟩)) rfl (by rintro _ _ p62 ⟨ho63, _, hwr⟩; exact did_x rfl rfl (Wr.did hwr)) (⟨.inl rfl, ⟨.inl rfl, ⟨.inl rfl, ⟨.inl rfl, ⟨.inl rfl, ⟨.inl rfl, ⟨.inl rfl, ⟨.inl rfl, ⟨.inl rfl, ⟨.inl rfl, ⟨.inl rfl, ⟨.inl rfl, ⟨.inl rfl, ⟨.inl rfl, ⟨.inl rfl, ⟨.inl rfl, trivial⟩⟩⟩⟩⟩⟩⟩⟩⟩⟩⟩⟩⟩⟩⟩⟩) ?_
                rintro _ H64 p62 ⟨ho63, hs64, _⟩ lg64 hlg64
                replace hs64 := HS.lg hs64 hs61 hlg64
                generalize ({ H64 with log := lg64 } : Heap) = H64g at hs64 ⊢
                have hs64 : HS (Base.of H []) F H64g [p4, [(b14, .cells [(.int .i64 ((l.getD ((pickV at_ (l.length : Int)).toNat) default).op)), (.int .i64 ((l.getD ((pickV at_ (l.length : Int)).toNat) default).imm)), (.slice a20 ((l.getD ((pickV at_ (l.length : Int)).toNat) default).kids).length k20)] none false)], p62] R := hs64
                have hnp62 := OS.len' ho63
                refine wf_nil ?_
                obtain ⟨F65, hF65, hs65, hr65, hp65⟩ := OS.frz ho63 hs64 (i := 2) rfl
                have hs65 : HS (Base.of H []) F65 H64g [p4, [(b14, .cells [(.int .i64 ((l.getD ((pickV at_ (l.length : Int)).toNat) default).op)), (.int .i64 ((l.getD ((pickV at_ (l.length : Int)).toNat) default).imm)), (.slice a20 ((l.getD ((pickV at_ (l.length : Int)).toNat) default).kids).length k20)] none false)], []] R := hs65
                replace hl := hl.mono hF65
                replace ho17 := ho17.mono hF65
                replace ho2 := ho2.mono hF65
                replace ho20 := ho20.mono hF65
                replace ho4 := ho4.mono hF65
                replace ho63 := ho63.mono hF65
                replace s12_2 := s12_2.mono hF65
                exact jn27 _ _ ⟨l, (l.getD ((pickV at_ (l.length : Int)).toNat) default).op, (l.getD ((pickV at_ (l.length : Int)).toNat) default).imm, ((l.getD ((pickV at_ (l.length : Int)).toNat) default).kids).set ((pickV (Int.tdiv how 10) (((l.getD ((pickV at_ (l.length : Int)).toNat) default).kids).length : Int)).toNat) ((pickV (Int.tdiv at_ 3) ((l.length : Int) + 2)) - 1), a4, k4, p4, [], a20, k20, _, (hF65), (by simpa only [List.length_set] using hs65), ho4, (SR.norm hr65), (agC rfl (agC rfl (agC rfl (agC rfl (agC rfl (agC rfl (agC rfl (agC rfl agN)))))))), (by first | exact (hb.mono (by omega)).up (by omega) | exact ((hb.up (by omega)).app (by first | omega | (dsimp only; omega)))), (by first | omega | (simp only [List.length_append, List.length_cons, List.length_nil]; omega)), (by first | omega | (simp only [List.length_append, List.length_set, List.length_drop, List.length_cons, List.length_nil]; omega)), (by first | assumption | omega | decide), (by first | assumption | omega | decide), (by first | omega | (simp only [List.length_append, List.length_cons, List.length_nil]; omega))⟩
              · have c55 := c55b
                try simp only [BS] at c55
                obtain ⟨F66, hF66, hs66, hr66, hp66⟩ := OS.frz ho20 hs23 (i := 2) rfl
                have hs66 : HS (Base.of H []) F66 H23 [p4, [(b14, .cells [(.int .i64 ((l.getD ((pickV at_ (l.length : Int)).toNat) default).op)), (.int .i64 ((l.getD ((pickV at_ (l.length : Int)).toNat) default).imm)), (.slice a20 ((l.getD ((pickV at_ (l.length : Int)).toNat) default).kids).length k20)] none false)], []] R := hs66
                replace hl := hl.mono hF66
                replace ho17 := ho17.mono hF66
                replace ho2 := ho2.mono hF66
                replace ho20 := ho20.mono hF66
                replace ho4 := ho4.mono hF66
                replace s12_2 := s12_2.mono hF66
                exact jn27 _ _ ⟨l, (l.getD ((pickV at_ (l.length : Int)).toNat) default).op, (l.getD ((pickV at_ (l.length : Int)).toNat) default).imm, ((l.getD ((pickV at_ (l.length : Int)).toNat) default).kids), a4, k4, p4, [], a20, k20, _, (hF66), hs66, ho4, hr66, (agC rfl (agC rfl (agC rfl (agC rfl (agC rfl (agC rfl (agC rfl (agC rfl agN)))))))), (by first | exact (hb.mono (by omega)).up (by omega) | exact ((hb.up (by omega)).app (by first | omega | (dsimp only; omega)))), (by first | omega | (simp only [List.length_append, List.length_cons, List.length_nil]; omega)), (by first | omega | (simp only [List.length_append, List.length_set, List.length_drop, List.length_cons, List.length_nil]; omega)), (by first | assumption | omega | decide), (by first | assumption | omega | decide), (by first | omega | (simp only [List.length_append, List.length_cons, List.length_nil]; omega))⟩
            · have c53 := c53b
              try simp only [BS] at c53
              refine wr 1 [] 82 83 [] [(82, (.bool (pickV how (10 : Int) == 4)))] trivial (by kernel_rfl) rfl fun gg67 => ?_
              refine wk_if 1 1 (v := (pickV how (10 : Int) == 4)) rfl rfl rfl rfl (fun c68b => ?_) (fun c68b => ?_)
              · have c68 := c68b
                try simp only [BS] at c68
                refine wr 1 [(1, .o (.slice a20 ((l.getD ((pickV at_ (l.length : Int)).toNat) default).kids).length k20))] 84 87 [] [(87, (.bool (decide ((0 : Int) < (((l.getD ((pickV at_ (l.length : Int)).toNat) default).kids).length : Int)))))] (vA (ql 22 2 (HS.hc hs23 (i := 1) rfl) rfl rfl) trivial) (by kernel_rfl) rfl fun gg69 => ?_
                refine wk_if 0 0 (v := (decide ((0 : Int) < (((l.getD ((pickV at_ (l.length : Int)).toNat) default).kids).length : Int)))) rfl rfl rfl rfl (fun c70b => ?_) (fun c70b => ?_)
                · have c70 := c70b
                  try simp only [BS] at c70
                  refine wk_region ?_
                  refine wro 2 0 [(1, .o (.slice a20 ((l.getD ((pickV at_ (l.length : Int)).toNat) default).kids).length k20))] 88 89 [] [(89, (.slice a20 ((l.getD ((pickV at_ (l.length : Int)).toNat) default).kids).length k20))] (vA (ql 22 2 (HS.hc hs23 (i := 1) rfl) rfl rfl) trivial) (by kernel_rfl) rfl fun gg71 => ?_
                  refine wo_rs (rs_cutOd (α := Int) (i := 1) ho20 hs23 (q := 2) rfl rfl rfl rfl (optN (by decide)) (by first | omega | (dsimp only; omega))) rfl rfl ?_
                  rintro _ _ _ ⟨a72, k72, rfl, hH72, hq72⟩
                  simp only at hH72; replace hH72 := hH72.symm; subst hH72
                  refine wro 1 3 [] 91 91 [] [(91, (.pointer (some ⟨b14, 2, none⟩)))] trivial (by kernel_rfl) rfl fun gg73 => ?_
                  refine wo_rk (rs_rec (q := 1) hs23 rfl rfl rfl rfl rfl rfl rfl rfl rfl) rfl ?_
                  rintro _ H74 _ ⟨hs74, _⟩
                  have hs74 : HS (Base.of H []) F H74 [p4, [(b14, .cells [(.int .i64 ((l.getD ((pickV at_ (l.length : Int)).toNat) default).op)), (.int .i64 ((l.getD ((pickV at_ (l.length : Int)).toNat) default).imm)), (.slice a72 (((l.getD ((pickV at_ (l.length : Int)).toNat) default).kids).drop 1).length k72)] none false)], p20] R := hs74
                  refine wo_end 0 rfl ?_
                  obtain ⟨F75, hF75, hs75, hr75, hp75⟩ := OS.frz hq72 hs74 (i := 2) rfl
                  have hs75 : HS (Base.of H []) F75 H74 [p4, [(b14, .cells [(.int .i64 ((l.getD ((pickV at_ (l.length : Int)).toNat) default).op)), (.int .i64 ((l.getD ((pickV at_ (l.length : Int)).toNat) default).imm)), (.slice a72 (((l.getD ((pickV at_ (l.length : Int)).toNat) default).kids).drop 1).length k72)] none false)], []] R := hs75
                  replace hl := hl.mono hF75
                  replace ho17 := ho17.mono hF75
                  replace ho2 := ho2.mono hF75
                  replace ho20 := ho20.mono hF75
                  replace ho4 := ho4.mono hF75
                  replace hq72 := hq72.mono hF75
                  replace s12_2 := s12_2.mono hF75
                  exact jn27 _ _ ⟨l, (l.getD ((pickV at_ (l.length : Int)).toNat) default).op, (l.getD ((pickV at_ (l.length : Int)).toNat) default).imm, ((l.getD ((pickV at_ (l.length : Int)).toNat) default).kids).drop 1, a4, k4, p4, [], a72, k72, _, (hF75), hs75, ho4, hr75, (agC rfl (agC rfl (agC rfl (agC rfl (agC rfl (agC rfl (agC rfl (agC rfl agN)))))))), (by first | exact (hb.mono (by omega)).up (by omega) | exact ((hb.up (by omega)).app (by first | omega | (dsimp only; omega)))), (by first | omega | (simp only [List.length_append, List.length_cons, List.length_nil]; omega)), (by first | omega | (simp only [List.length_append, List.length_set, List.length_drop, List.length_cons, List.length_nil]; omega)), (by first | assumption | omega | decide), (by first | assumption | omega | decide), (by first | omega | (simp only [List.length_append, List.length_cons, List.length_nil]; omega))⟩
                · have c70 := c70b
                  try simp only [BS] at c70
                  obtain ⟨F76, hF76, hs76, hr76, hp76⟩ := OS.frz ho20 hs23 (i := 2) rfl
                  have hs76 : HS (Base.of H []) F76 H23 [p4, [(b14, .cells [(.int .i64 ((l.getD ((pickV at_ (l.length : Int)).toNat) default).op)), (.int .i64 ((l.getD ((pickV at_ (l.length : Int)).toNat) default).imm)), (.slice a20 ((l.getD ((pickV at_ (l.length : Int)).toNat) default).kids).length k20)] none false)], []] R := hs76
                  replace hl := hl.mono hF76
                  replace ho17 := ho17.mono hF76
                  replace ho2 := ho2.mono hF76
                  replace ho20 := ho20.mono hF76
                  replace ho4 := ho4.mono hF76
                  replace s12_2 := s12_2.mono hF76
                  exact jn27 _ _ ⟨l, (l.getD ((pickV at_ (l.length : Int)).toNat) default).op, (l.getD ((pickV at_ (l.length : Int)).toNat) default).imm, ((l.getD ((pickV at_ (l.length : Int)).toNat) default).kids), a4, k4, p4, [], a20, k20, _, (hF76), hs76, ho4, hr76, (agC rfl (agC rfl (agC rfl (agC rfl (agC rfl (agC rfl (agC rfl (agC rfl agN)))))))), (by first | exact (hb.mono (by omega)).up (by omega) | exact ((hb.up (by omega)).app (by first | omega | (dsimp only; omega)))), (by first | omega | (simp only [List.length_append, List.length_cons, List.length_nil]; omega)), (by first | omega | (simp only [List.length_append, List.length_set, List.length_drop, List.length_cons, List.length_nil]; omega)), (by first | assumption | omega | decide), (by first | assumption | omega | decide), (by first | omega | (simp only [List.length_append, List.length_cons, List.length_nil]; omega))⟩
              · have c68 := c68b
                try simp only [BS] at c68
                refine wr 1 [] 92 93 [] [(92, (.bool (pickV how (10 : Int) == 5)))] trivial (by kernel_rfl) rfl fun gg77 => ?_
                refine wk_if 0 1 (v := (pickV how (10 : Int) == 5)) rfl rfl rfl rfl (fun c78b => ?_) (fun c78b => ?_)
                · have c78 := c78b
                  try simp only [BS] at c78
                  refine wk_region ?_
                  refine wro 2 0 [(1, .o (.agg ⟨[(.int .i64 ((l.getD ((pickV at_ (l.length : Int)).toNat) default).op)), (.int .i64 ((l.getD ((pickV at_ (l.length : Int)).toNat) default).imm)), (.slice a20 ((l.getD ((pickV at_ (l.length : Int)).toNat) default).kids).length k20)]⟩))] 94 95 [] [(94, (.slice a4 l.length k4)), (95, (.agg ⟨[(.int .i64 ((l.getD ((pickV at_ (l.length : Int)).toNat) default).op)), (.int .i64 ((l.getD ((pickV at_ (l.length : Int)).toNat) default).imm)), (.slice a20 ((l.getD ((pickV at_ (l.length : Int)).toNat) default).kids).length k20)]⟩))] (vA (qn 24 0 3 (HS.hc hs23 (i := 1) rfl) rfl rfl rfl rfl) trivial) (by kernel_rfl) rfl fun gg79 => ?_
                  obtain ⟨F80, hF80, hs80, hr80, hp80⟩ := OS.frz ho20 hs23 (i := 2) rfl
                  have hs80 : HS (Base.of H []) F80 H23 [p4, [(b14, .cells [(.int .i64 ((l.getD ((pickV at_ (l.length : Int)).toNat) default).op)), (.int .i64 ((l.getD ((pickV at_ (l.length : Int)).toNat) default).imm)), (.slice a20 ((l.getD ((pickV at_ (l.length : Int)).toNat) default).kids).length k20)] none false)], []] R := hs80
                  replace hl := hl.mono hF80
                  replace ho17 := ho17.mono hF80
                  replace ho2 := ho2.mono hF80
                  replace ho20 := ho20.mono hF80
                  replace ho4 := ho4.mono hF80
                  replace s12_2 := s12_2.mono hF80
                  refine wo_rs (rs_lit (α := NodeT) (ps := [(0, (.agg ⟨[(.int .i64 ((l.getD ((pickV at_ (l.length : Int)).toNat) default).op)), (.int .i64 ((l.getD ((pickV at_ (l.length : Int)).toNat) default).imm)), (.slice a20 ((l.getD ((pickV at_ (l.length : Int)).toNat) default).kids).length k20)]⟩))]) (cells := [(.int .i64 ((l.getD ((pickV at_ (l.length : Int)).toNat) default).op)), (.int .i64 ((l.getD ((pickV at_ (l.length : Int)).toNat) default).imm)), (.slice a20 ((l.getD ((pickV at_ (l.length : Int)).toNat) default).kids).length k20)]) ([(⟨(l.getD ((pickV at_ (l.length : Int)).toNat) default).op, (l.getD ((pickV at_ (l.length : Int)).toNat) default).imm, ((l.getD ((pickV at_ (l.length : Int)).toNat) default).kids)⟩ : NodeT)] : List NodeT) hs80 rfl rfl rfl (by kernel_rfl) ⟨[(.int .i64 ((l.getD ((pickV at_ (l.length : Int)).toNat) default).op)), (.int .i64 ((l.getD ((pickV at_ (l.length : Int)).toNat) default).imm)), (.slice a20 ((l.getD ((pickV at_ (l.length : Int)).toNat) default).kids).length k20)], [], rfl, ⟨a20, k20, rfl, by first | omega | (dsimp only; omega), by first | omega | (dsimp only; omega), hr80⟩, rfl⟩ rfl) rfl rfl ?_
                  rintro _ H82 p81 ⟨a81, k81, rfl, ho81, hs82, _⟩
                  have hs82 : HS (Base.of H []) F80 H82 [p4, [(b14, .cells [(.int .i64 ((l.getD ((pickV at_ (l.length : Int)).toNat) default).op)), (.int .i64 ((l.getD ((pickV at_ (l.length : Int)).toNat) default).imm)), (.slice a20 ((l.getD ((pickV at_ (l.length : Int)).toNat) default).kids).length k20)] none false)], [], p81] R := hs82
                  refine wo_rs (rs_app (α := NodeT) (q := 0) ho4 hs82 rfl rfl rfl (OS.sv ho81 hs82 (i := 3) rfl) rfl rfl rfl rfl rfl rfl rfl (by simp only [List.length_append, List.length_cons, List.length_nil]; omega)) rfl rfl ?_
                  rintro _ H84 p83 ⟨a83, k83, rfl, ho83, hs84, _⟩
                  have hs84 : HS (Base.of H []) F80 H84 [p83, [(b14, .cells [(.int .i64 ((l.getD ((pickV at_ (l.length : Int)).toNat) default).op)), (.int .i64 ((l.getD ((pickV at_ (l.length : Int)).toNat) default).imm)), (.slice a20 ((l.getD ((pickV at_ (l.length : Int)).toNat) default).kids).length k20)] none false)], [], p81] R := hs84
                  refine wa (.slice a83 (l ++ ([(⟨(l.getD ((pickV at_ (l.length : Int)).toNat) default).op, (l.getD ((pickV at_ (l.length : Int)).toNat) default).imm, ((l.getD ((pickV at_ (l.length : Int)).toNat) default).kids)⟩ : NodeT)] : List NodeT)).length k83) rfl rfl rfl ?_
                  refine wo_end 0 rfl ?_
                  exact jn27 _ _ ⟨l ++ ([(⟨(l.getD ((pickV at_ (l.length : Int)).toNat) default).op, (l.getD ((pickV at_ (l.length : Int)).toNat) default).imm, ((l.getD ((pickV at_ (l.length : Int)).toNat) default).kids)⟩ : NodeT)] : List NodeT), (l.getD ((pickV at_ (l.length : Int)).toNat) default).op, (l.getD ((pickV at_ (l.length : Int)).toNat) default).imm, ((l.getD ((pickV at_ (l.length : Int)).toNat) default).kids), a83, k83, p83, [], a20, k20, _, (hF80), (HS.sub hs84 (List.sublist_append_left _ _)), ho83, hr80, (agC rfl (agC rfl (agC rfl (agC rfl (agC rfl (agC rfl (agC rfl (agC rfl agN)))))))), (by first | exact (hb.mono (by omega)).up (by omega) | exact ((hb.up (by omega)).app (by first | omega | (dsimp only; omega)))), (by first | omega | (simp only [List.length_append, List.length_cons, List.length_nil]; omega)), (by first | omega | (simp only [List.length_append, List.length_set, List.length_drop, List.length_cons, List.length_nil]; omega)), (by first | assumption | omega | decide), (by first | assumption | omega | decide), (by first | omega | (simp only [List.length_append, List.length_cons, List.length_nil]; omega))⟩
                · have c78 := c78b
                  try simp only [BS] at c78
                  refine wr 1 [] 98 99 [] [(98, (.bool (pickV how (10 : Int) == 6)))] trivial (by kernel_rfl) rfl fun gg85 => ?_
                  refine wk_if 1 0 (v := (pickV how (10 : Int) == 6)) rfl rfl rfl rfl (fun c86b => ?_) (fun c86b => ?_)
                  · have c86 := c86b
                    try simp only [BS] at c86
                    refine wk_region ?_
                    refine wro 1 0 [] 100 100 [] [(100, (.pointer (some ⟨b14, 0, none⟩)))] trivial (by kernel_rfl) rfl fun gg87 => ?_
                    refine wo_rk (rs_rec (q := 1) hs23 rfl rfl rfl rfl rfl rfl rfl rfl rfl) rfl ?_
                    rintro _ H88 _ ⟨hs88, _⟩
                    have hs88 : HS (Base.of H []) F H88 [p4, [(b14, .cells [(.int .i64 3), (.int .i64 ((l.getD ((pickV at_ (l.length : Int)).toNat) default).imm)), (.slice a20 ((l.getD ((pickV at_ (l.length : Int)).toNat) default).kids).length k20)] none false)], p20] R := hs88
                    refine wo_end 2 rfl ?_
                    refine wk_region ?_
                    have tq89 : in64 how → in64 (Int.tdiv how 10) := fun h => vq h (by decide)
                    have fq90 := pick_imp (Int.tdiv how 10) (40 : Int)
                    refine wro 4 0 [(2, .o (.int .i64 (pickV (Int.tdiv how 10) (40 : Int))))] 101 104 [] [(103, (.int .i64 (pickV (Int.tdiv how 10) (40 : Int)))), (104, (.pointer (some ⟨b14, 1, none⟩)))] (vA (vA (show (10 : Int) ≠ 0 from by decide) (vq (a := how) (b := 10) (by first | omega | (dsimp only; omega)) (by decide))) (vA (k1.pick_c_q ex (Int.tdiv how 10) (40) H88 (by first | omega | (dsimp only; omega))) trivial)) (by kernel_rfl) rfl fun gg91 => ?_
                    refine wo_rk (rs_rec (q := 1) hs88 rfl rfl rfl rfl rfl rfl rfl rfl rfl) rfl ?_
                    rintro _ H92 _ ⟨hs92, _⟩
                    have hs92 : HS (Base.of H []) F H92 [p4, [(b14, .cells [(.int .i64 3), (.int .i64 (pickV (Int.tdiv how 10) (40 : Int))), (.slice a20 ((l.getD ((pickV at_ (l.length : Int)).toNat) default).kids).length k20)] none false)], p20] R := hs92
                    refine wo_end 1 rfl ?_
                    refine wk_region ?_
                    refine wro 1 0 [] 105 105 [] [(105, (.pointer (some ⟨b14, 2, none⟩)))] trivial (by kernel_rfl) rfl fun gg93 => ?_
                    refine wo_rk (rs_rec (q := 1) hs92 rfl rfl rfl rfl rfl rfl rfl rfl rfl) rfl ?_
                    rintro _ H94 _ ⟨hs94, _⟩
                    have hs94 : HS (Base.of H []) F H94 [p4, [(b14, .cells [(.int .i64 3), (.int .i64 (pickV (Int.tdiv how 10) (40 : Int))), (.slice none 0 0)] none false)], p20] R := hs94
                    refine wo_end 0 rfl ?_
                    exact jn27 _ _ ⟨l, 3, pickV (Int.tdiv how 10) (40 : Int), ([] : List Int), a4, k4, p4, p20, none, 0, _, (Fz.le_refl _), hs94, ho4, (SR.nil : SR F (.slice none 0 0) ([] : List Int)), (agC rfl (agC rfl (agC rfl (agC rfl (agC rfl (agC rfl (agC rfl (agC rfl agN)))))))), (by first | exact (hb.mono (by omega)).up (by omega) | exact ((hb.up (by omega)).app (by first | omega | (dsimp only; omega)))), (by first | omega | (simp only [List.length_append, List.length_cons, List.length_nil]; omega)), (by first | omega | (simp only [List.length_append, List.length_set, List.length_drop, List.length_cons, List.length_nil]; omega)), (by first | assumption | omega | decide), (by first | assumption | omega | decide), (by first | omega | (simp only [List.length_append, List.length_cons, List.length_nil]; omega))⟩
                  · have c86 := c86b
                    try simp only [BS] at c86
                    obtain ⟨F95, hF95, hs95, hr95, hp95⟩ := OS.frz ho20 hs23 (i := 2) rfl
                    have hs95 : HS (Base.of H []) F95 H23 [p4, [(b14, .cells [(.int .i64 ((l.getD ((pickV at_ (l.length : Int)).toNat) default).op)), (.int .i64 ((l.getD ((pickV at_ (l.length : Int)).toNat) default).imm)), (.slice a20 ((l.getD ((pickV at_ (l.length : Int)).toNat) default).kids).length k20)] none false)], []] R := hs95
                    replace hl := hl.mono hF95
                    replace ho17 := ho17.mono hF95
                    replace ho2 := ho2.mono hF95
                    replace ho20 := ho20.mono hF95
                    replace ho4 := ho4.mono hF95
                    replace s12_2 := s12_2.mono hF95
                    exact jn27 _ _ ⟨l, (l.getD ((pickV at_ (l.length : Int)).toNat) default).op, (l.getD ((pickV at_ (l.length : Int)).toNat) default).imm, ((l.getD ((pickV at_ (l.length : Int)).toNat) default).kids), a4, k4, p4, [], a20, k20, _, (hF95), hs95, ho4, hr95, (agC rfl (agC rfl (agC rfl (agC rfl (agC rfl (agC rfl (agC rfl (agC rfl agN)))))))), (by first | exact (hb.mono (by omega)).up (by omega) | exact ((hb.up (by omega)).app (by first | omega | (dsimp only; omega)))), (by first | omega | (simp only [List.length_append, List.length_cons, List.length_nil]; omega)), (by first | omega | (simp only [List.length_append, List.length_set, List.length_drop, List.length_cons, List.length_nil]; omega)), (by first | assumption | omega | decide), (by first | assumption | omega | decide), (by first | omega | (simp only [List.length_append, List.length_cons, List.length_nil]; omega))⟩
    · skip
      rintro f27 H27 ⟨o2, op1, im1, ks, la27_7, lk27_7, lp27_7, lrp27_1_2, lra27_1_2, lrk27_1_2, F27, hF27, hs27, lh27_7, lrh27_1_2, hf27, hb2, hlo, hkl, hi1, hi2, hlt⟩
      refine wk_canon _ hf27 (fun gg27 => ?_)
      clear hf27
      refine wk_foc 3 rfl ?_
      refine wk_region ?_
      refine wro 4 0 [(2, .o (.agg ⟨[(.int .i64 op1), (.int .i64 im1), (.slice lra27_1_2 ks.length lrk27_1_2)]⟩))] 106 109 [] [(108, (.agg ⟨[(.int .i64 op1), (.int .i64 im1), (.slice lra27_1_2 ks.length lrk27_1_2)]⟩)), (109, (.pointer (some ⟨sB (.slice la27_7 o2.length lk27_7), sO (.slice la27_7 o2.length lk27_7) + ((pickV at_ (l.length : Int)).toNat) * Rp.sz NodeT, none⟩)))] (vA (qn 24 0 3 (HS.hc hs27 (i := 1) rfl) rfl rfl rfl rfl) (vA (Sv.ix (j := pickV at_ (l.length : Int)) (OS.sv lh27_7 hs27 (i := 0) rfl) (by first | omega | (dsimp only; omega)) (by first | omega | (dsimp only; omega))) trivial)) (by kernel_rfl) rfl fun gg96 => ?_
      refine wo_rk (rs_st (α := NodeT) (j := (pickV at_ (l.length : Int)).toNat) (off := 0) (q := 0) (⟨op1, im1, ks⟩ : NodeT) lh27_7 hs27 rfl rfl rfl rfl rfl rfl rfl rfl (getD_at (x := default) (by first | omega | (dsimp only; omega))) rfl (st_whole (F := F27) (Y := (⟨op1, im1, ks⟩ : NodeT)) (cl := [(.int .i64 op1), (.int .i64 im1), (.slice lra27_1_2 ks.length lrk27_1_2)]) ⟨lra27_1_2, lrk27_1_2, rfl, by first | omega | (dsimp only; omega), by first | omega | (dsimp only; omega), lrh27_1_2⟩)) rfl ?_
      rintro _ H99 p97 ⟨ho98, hs99, _⟩
      have hs99 : HS (Base.of H []) F27 H99 [p97, [(b14, .cells [(.int .i64 op1), (.int .i64 im1), (.slice lra27_1_2 ks.length lrk27_1_2)] none false)], lrp27_1_2] R := hs99
      have hnp97 := OS.len' ho98
      refine wo_end 2 rfl ?_
      refine wr 1 [] 6 6 [110] [(6, (.slice la27_7 o2.length lk27_7))] trivial (by kernel_rfl) rfl fun gg100 => ?_
      refine wk_ret ⟨.inr rfl, _, rfl, la27_7, lk27_7, o2.set ((pickV at_ (l.length : Int)).toNat) (⟨op1, im1, ks⟩ : NodeT), p97, _, (hF27), (HS.only hs99 (i := 0) rfl), (Eq.trans (b := Value.slice la27_7 o2.length lk27_7) rfl (by rw [OS.len' ho98])), (OS.norm ho98), (by first | exact hb2.set hkl | exact (hb.mono (by omega)).up (by omega)), (by first | omega | (rw [List.length_set]; omega))⟩
end Go.Proofs.Ytcakpkdeojhacaa.k5
