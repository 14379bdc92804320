/-
  Live registers: Blocks, Points and AcrossCalls, each by a symbolic run. No condition but bounds on lengths.
-/
import Derived.Test.YtlabedbmgmfbaaaDoorMC
noncomputable section
namespace Go.Proofs.YtlabedbmgmfbaaaDoor.md
open Go.R
set_option maxRecDepth 10000
set_option linter.unusedVariables false
theorem ql {H : Heap} {b o : Nat} {cs : List Value} {w : Value} (t : TypeId) (i : Nat) (hc : HC H.get b o cs) (ha : aggOf Tryd.prog t = some false) (hv : cs[i]? = some w) : LDv Tryd.prog H t (.pointer (some ⟨b, o + i, none⟩)) w := ld1 hc ha hv
theorem qn {H : Heap} {b o : Nat} {cs l : List Value} (t : TypeId) (i n : Nat) (hc : HC H.get b o cs) (ha : aggOf Tryd.prog t = some true) (hs : szOf Tryd.prog t = some n) (hn : Nat.ble (i + n) cs.length = true) (hl : takeL (dropL cs i) n = l) : LDv Tryd.prog H t (.pointer (some ⟨b, o + i, none⟩)) (.agg ⟨l⟩) := ldN hc ha hs hn hl
open m1 m2 m3 m4 m5 m6 ma ml mb mc
/-- An ascending list of a set's members. -/
structure Lst (l : List Int) (S : Nat → Prop) : Prop where
  asc : Asc l
  mem : ∀ x, x ∈ l ↔ 0 ≤ x ∧ S x.toNat
theorem asc_ext : ∀ {l m : List Int}, Asc l → Asc m → (∀ x, x ∈ l ↔ x ∈ m) → l = m
  | [], [], _, _, _ => rfl
  | [], y :: m, _, _, h => absurd ((h y).2 (List.mem_cons_self ..)) List.not_mem_nil
  | x :: l, [], _, _, h => absurd ((h x).1 (List.mem_cons_self ..)) List.not_mem_nil
  | x :: l, y :: m, hl, hm, h => by
    replace hl := List.pairwise_cons.1 hl
    replace hm := List.pairwise_cons.1 hm
    have hxy : x = y := by
      rcases List.mem_cons.1 ((h x).1 (List.mem_cons_self ..)) with e | e
      · exact e
      · rcases List.mem_cons.1 ((h y).2 (List.mem_cons_self ..)) with e2 | e2
        · exact e2.symm
        · have := hl.1 y e2; have := hm.1 x e; omega
    subst hxy
    congr 1
    refine asc_ext hl.2 hm.2 fun z => ?_
    constructor
    · intro hz
      rcases List.mem_cons.1 ((h z).1 (List.mem_cons_of_mem _ hz)) with e | e
      · subst e; have := hl.1 z hz; omega
      · exact e
    · intro hz
      rcases List.mem_cons.1 ((h z).2 (List.mem_cons_of_mem _ hz)) with e | e
      · subst e; have := hm.1 z hz; omega
      · exact e
theorem Lst.uniq {l m : List Int} {S S' : Nat → Prop} (h : Lst l S) (k : Lst m S') (hs : ∀ r, S r ↔ S' r) : l = m := asc_ext h.asc k.asc fun x => by rw [h.mem, k.mem, hs]
theorem lst_of {s : List U64} {S : Nat → Prop} (h : ∀ r, bitOf s r = true ↔ S r) : Lst (lstV s) S := ⟨lst_asc, fun x => by rw [lst_mem, h]⟩
structure BkF (c : VFnT) (x y : List (List Int)) : Prop where
  lx : x.length = c.blocks.length
  ly : y.length = c.blocks.length
  hx : ∀ b, b < c.blocks.length → Lst (x.getD b default) (LIn c b)
  hy : ∀ b, b < c.blocks.length → Lst (y.getD b default) (LOut c b)
def ptS (c : VFnT) (b i : Nat) : Nat → Prop := tr ((blkN c b).ins.drop i) (endS (blkN c b) (LOut c b))
structure PtF (c : VFnT) (b : Nat) (l : List (List Int)) : Prop where
  len : l.length = (blkN c b).ins.length + 1
  pt : ∀ i, i ≤ (blkN c b).ins.length → Lst (l.getD i default) (ptS c b i)
def acI (c : VFnT) (b i r : Nat) : Prop := ((blkN c b).ins.getD i default).i.op = 6 ∧ ((ptS c b (i + 1) r ∧ (r : Int) ≠ ((blkN c b).ins.getD i default).i.a) ∨ (r : Int) ∈ ((blkN c b).ins.getD i default).args)
def acS (c : VFnT) (r : Nat) : Prop := ∃ b i, b < c.blocks.length ∧ i < (blkN c b).ins.length ∧ acI c b i r
theorem at_snoc {α : Type} {d : α} {l : List α} {x : α} {j : Nat} : (l ++ [x]).getD j d = if j = l.length then x else l.getD j d := by
  rw [List.getD_eq_getElem?_getD, List.getD_eq_getElem?_getD, List.getElem?_append]
  by_cases h : j < l.length
  · rw [if_pos h, if_neg (by omega)]
  · rw [if_neg h]
    by_cases h2 : j = l.length
    · subst h2; rw [if_pos rfl, Nat.sub_self]; rfl
    · rw [if_neg h2, List.getElem?_eq_none (by simp; omega), List.getElem?_eq_none (by omega)]
theorem lst_snoc {l : List (List Int)} {S : Nat → Nat → Prop} {k : Nat} {x : List Int} (hl : l.length = k) (h : ∀ b, b < k → Lst (l.getD b default) (S b)) (hx : Lst x (S k)) : ∀ b, b < k + 1 → Lst ((l ++ [x]).getD b default) (S b) := fun b hb => by
  rw [at_snoc]
  split
  · rename_i e; rw [hl] at e; subst e; exact hx
  · exact h b (by omega)
theorem pt_start {c : VFnT} {b n : Nat} {s z : List U64} (hn : (blkN c b).ins.length ≤ n) (hs : ∀ r, bitOf s r = true ↔ LOut c b r) (h : ∀ i, bitOf z i = (bitOf s i || decide ((i : Int) ∈ endV (blkN c b)))) (r : Nat) : bitOf z r = true ↔ ptS c b n r := tr_start hn hs h r
theorem set_pt {c : VFnT} {b i : Nat} {l : List (List Int)} {x : List Int} (hl : l.length = (blkN c b).ins.length + 1) (h : ∀ j, i < j → j ≤ (blkN c b).ins.length → Lst (l.getD j default) (ptS c b j)) (hi : i ≤ (blkN c b).ins.length) (hx : Lst x (ptS c b i)) : ∀ j, i ≤ j → j ≤ (blkN c b).ins.length → Lst ((l.set i x).getD j default) (ptS c b j) := fun j h1 h2 => by
  rw [at_set]
  split
  · rename_i e; obtain ⟨rfl, _⟩ := e; exact hx
  · rename_i e; exact h j (by omega) h2

set_option maxHeartbeats 1000000 in
theorem blocks_c (ex : FuncId) {ac_2 : Option Addr} {kc_2 : Nat} (c : VFnT) {F : Fz} {H : Heap} {R : List Fp} (hs : HS (.of H []) F H [] R) (hc_0 : in64 c.params) (hc_1 : in64 c.regs) (hc_2 : SR F (.slice ac_2 c.blocks.length kc_2) c.blocks) (hT : TB 37 tabC F) (hins : ∀ j, (c.blocks.getD j default).ins.length ≤ 1073741824) : C Tryd.prog 1 (KT 60 ex 37 tabC) 19 [(.agg ⟨[(.int .i64 c.params), (.int .i64 c.regs), (.slice ac_2 c.blocks.length kc_2)]⟩)] H fun v H' => ∃ (ax : Option Addr) (kx : Nat) (x : List (List Int)) (ay : Option Addr) (ky : Nat) (y : List (List Int)) (F' : Fz), Fz.le F F' ∧ HS (.of H []) F' H' [] R ∧ v = .tuple ⟨[.slice ax x.length kx, .slice ay y.length ky]⟩ ∧ SR F' (.slice ax x.length kx) x ∧ SR F' (.slice ay y.length ky) y ∧ (valV c = true → BkF c x y) ∧ (valV c = false → x = [] ∧ y = []) := by
  refine c_enter Tryd.func19 rfl rfl ?_
  refine wk_foc 1 rfl ?_
  refine wk_region ?_
  refine wo_rs (rs_box hs rfl rfl) rfl rfl ?_
  rintro _ H2 _ ⟨b1, rfl, hs2, _⟩
  have hs2 : HS _ _ _ [[(b1, .cells [(.int .i64 c.params), (.int .i64 c.regs), (.slice ac_2 c.blocks.length kc_2)] none false)]] _ := hs2
  refine wro 2 1 [] 2 3 [] [(2, (.slice none 0 0)), (3, (.slice none 0 0))] trivial (by kernel_rfl) rfl fun gg3 => ?_
  refine wo_end 3 rfl ?_
  refine wk_region ?_
  refine wro 1 0 [(0, .o (.agg ⟨[(.int .i64 c.params), (.int .i64 c.regs), (.slice ac_2 c.blocks.length kc_2)]⟩))] 9 9 [] [(9, (.agg ⟨[(.int .i64 c.params), (.int .i64 c.regs), (.slice ac_2 c.blocks.length kc_2)]⟩))] (vA (qn 24 0 3 (HS.hc hs2 (i := 0) rfl) rfl rfl rfl rfl) trivial) (by kernel_rfl) rfl fun gg4 => ?_
  refine wo_call (ap_call rfl rfl rfl) rfl rfl (m3.valid_c ex c (HS.call hs2) (by omega) (by omega) hc_2 hT (by exact fun j => Nat.le_trans (hins j) (by omega))) ?_
  rintro _ H5 ⟨r5, F5, hF5, hs5, rfl, rfl⟩
  replace hs5 := HS.back hs2 rfl hs5
  have hs5 : HS _ _ _ [_] _ := hs5
  replace hT := hT.mono hF5
  replace hc_2 := hc_2.mono hF5
  refine wro 1 2 [] 11 11 [] [(11, (.bool (!(valV c))))] trivial (by kernel_rfl) rfl fun gg6 => ?_
  refine wo_end 1 rfl ?_
  refine wk_if 1 2 (v := (!(valV c))) rfl rfl rfl rfl (fun c7b => ?_) (fun c7b => ?_)
  · have c7 := c7b
    try simp only [BS] at c7
    have hv := c7
    refine wr 1 [] 2 3 [] [(2, (.slice none 0 0)), (3, (.slice none 0 0))] trivial (by kernel_rfl) rfl fun gg8 => ?_
    refine wk_ret ⟨.inr rfl, _, rfl, none, 0, ([] : List (List Int)), none, 0, ([] : List (List Int)), _, (hF5), (HS.forget hs5), rfl, (SR.nil : SR F5 (.slice none 0 0) ([] : List (List Int))), (SR.nil : SR F5 (.slice none 0 0) ([] : List (List Int))), (by first | exact fun h => absurd (h.symm.trans hv) (by decide) | exact fun _ => ⟨by omega, by omega, fun b hb => e4 b (by omega), fun b hb => e5 b (by omega)⟩), (by first | exact fun _ => ⟨rfl, rfl⟩ | exact fun h => absurd (hv.symm.trans h) (by decide))⟩
  · have c7 := c7b
    try simp only [BS] at c7
    have hv := c7
    have vF := vF_of hv
    have hnb := vF.nb
    refine wk_region ?_
    refine wro 1 0 [(0, .o (.agg ⟨[(.int .i64 c.params), (.int .i64 c.regs), (.slice ac_2 c.blocks.length kc_2)]⟩))] 13 13 [] [(13, (.agg ⟨[(.int .i64 c.params), (.int .i64 c.regs), (.slice ac_2 c.blocks.length kc_2)]⟩))] (vA (qn 24 0 3 (HS.hc hs5 (i := 0) rfl) rfl rfl rfl rfl) trivial) (by kernel_rfl) rfl fun gg9 => ?_
    refine wo_call (ap_call rfl rfl rfl) rfl rfl (mc.analyze_c ex c (HS.call hs5) (by omega) (by omega) hc_2 hT (by first | assumption | exact fun j => Nat.le_trans (hins j) (by omega)) (by first | assumption | exact fun j => Nat.le_trans (hins j) (by omega))) ?_
    rintro _ H10 ⟨ail10, kil10, il10, aol10, kol10, ol10, F10, hF10, hs10, rfl, hril10, hrol10, h10⟩
    replace hs10 := HS.back hs5 rfl hs10
    have hs10 : HS _ _ _ [_] _ := hs10
    replace hT := hT.mono hF10
    replace hc_2 := hc_2.mono hF10
    refine wro 5 2 [] 15 16 [4, 5, 12] [(4, (.slice ail10 il10.length kil10)), (5, (.slice aol10 ol10.length kol10))] trivial (by kernel_rfl) rfl fun gg11 => ?_
    refine wo_end 2 rfl ?_
    have an := (by assumption : AnF c _ _)
    have hli := an.li
    have hlo := an.lo
    refine wr 3 [] 1 0 [6, 7] [(6, (.slice none 0 0)), (7, (.slice none 0 0))] trivial (by kernel_rfl) rfl fun gg12 => ?_
    refine wr 2 [] 17 19 [] [(18, (.int .i64 (il10.length : Int))), (19, (.int .i64 0))] trivial (by kernel_rfl) rfl fun gg13 => ?_
    have hs15 := HS.snoc hs10
    have hs15 : HS _ _ _ [_, []] _ := hs15
    have hs16 := HS.snoc hs15
    have hs16 : HS _ _ _ [_, _, []] _ := hs16
    refine wk_loop_inv (fun (mm : Nat) f H' => ∃ (xs : List (List Int)) (ys : List (List Int)) (k : Nat) (la14_6 : Option Addr) (lk14_6 : Nat) (lp14_6 : Fp) (la14_7 : Option Addr) (lk14_7 : Nat) (lp14_7 : Fp) (F' : Fz), Fz.le F10 F' ∧ HS (Base.of H []) F' H' [[(b1, .cells [(.int .i64 c.params), (.int .i64 c.regs), (.slice ac_2 c.blocks.length kc_2)] none false)], lp14_6, lp14_7] R ∧ OS F' (.slice la14_6 xs.length lk14_6) xs lp14_6 ∧ OS F' (.slice la14_7 ys.length lk14_7) ys lp14_7 ∧ agrees f [(2, (.slice none 0 0)), (3, (.slice none 0 0)), (4, (.slice ail10 il10.length kil10)), (5, (.slice aol10 ol10.length kol10)), (6, (.slice la14_6 xs.length lk14_6)), (7, (.slice la14_7 ys.length lk14_7)), (18, (.int .i64 (il10.length : Int))), (19, (.int .i64 (k : Int)))] ∧ mm = c.blocks.length - k ∧ (xs.length = k) ∧ (ys.length = k) ∧ (k ≤ c.blocks.length) ∧ (∀ b, b < k → Lst (xs.getD b default) (LIn c b)) ∧ (∀ b, b < k → Lst (ys.getD b default) (LOut c b))) _ ⟨([] : List (List Int)), ([] : List (List Int)), 0, none, 0, [], none, 0, [], _, (Fz.le_refl _), hs16, (OS.nil : OS F10 (.slice none 0 0) ([] : List (List Int)) []), (OS.nil : OS F10 (.slice none 0 0) ([] : List (List Int)) []), (agC rfl (agC rfl (agC rfl (agC rfl (agC rfl (agC rfl (agC rfl (agC rfl agN)))))))), rfl, (by rfl), (by rfl), (by first | assumption | omega | (simp at *; omega)), (by intro b hb; omega), (by intro b hb; omega)⟩ ?_
    rintro mm14 f14 H14 ⟨xs, ys, k, la14_6, lk14_6, lp14_6, la14_7, lk14_7, lp14_7, F14, hF14, hs14, lh14_6, lh14_7, hf14, rfl, e1, e2, e3, e4, e5⟩ ih14
    refine wk_canon _ hf14 (fun gg14 => ?_)
    clear hf14
    replace hT := hT.mono hF14
    replace hc_2 := hc_2.mono hF14
    replace hril10 := hril10.mono hF14
    replace hrol10 := hrol10.mono hF14
    refine wk_foc 1 rfl ?_
    refine wr 2 [] 20 20 [] [(20, (.bool (decide ((k : Int) < (il10.length : Int)))))] trivial (by kernel_rfl) rfl fun gg17 => ?_
    refine wk_if 4 5 (v := (decide ((k : Int) < (il10.length : Int)))) rfl rfl rfl rfl (fun c18b => ?_) (fun c18b => ?_)
    · have c18 := c18b
      try simp only [BS] at c18
      refine wr 1 [] 21 21 [8] [(8, (.int .i64 (k : Int)))] trivial (by kernel_rfl) rfl fun gg19 => ?_
      refine wf_region rfl ?_
      refine fm (.slice la14_6 xs.length lk14_6) rfl rfl rfl ?_
      refine fm (.slice ail10 il10.length kil10) rfl rfl rfl ?_
      refine fm (.int .i64 (k : Int)) rfl rfl rfl ?_
      refine wf_pure (v := (.pointer (some ⟨sB (.slice ail10 il10.length kil10), sO (.slice ail10 il10.length kil10) + k * Rp.sz (List U64), none⟩))) (id := .v) (ap_idxV (α := (List U64)) (j := (k : Int)) rfl rfl rfl rfl (SR.sv hril10 hs14.log0) (by omega) (by omega)) rfl rfl (did_v rfl) (okD_v _) ?_
      obtain ⟨cs20, hr20, hc20⟩ := Sv.at (SR.sv hril10 hs14.log0) (getD_at (x := default) (show k < il10.length from by omega))
      obtain ⟨a21_0, k21_0, rfl, s21_0⟩ := hr20
      refine wf_pure (v := (.slice a21_0 (il10.getD k default).length k21_0)) (id := .l (sB (.slice ail10 il10.length kil10))) (ap_ld1 (i := 0) rfl rfl hc20 rfl rfl) rfl rfl (did_l rfl) (⟨.inl rfl, ⟨.inl rfl, ⟨.inl rfl, ⟨.inr trivial, trivial⟩⟩⟩⟩) ?_
      refine wf_call (W := []) (ap_call rfl rfl rfl) rfl rfl rfl (mb.list_c ex (il10.getD k default) (HS.call hs14.log0) s21_0 hT (by first | (rw [an.wi k (by omega)]; have := wd_le vF.regs; omega) | (rw [an.wo k (by omega)]; have := wd_le vF.regs; omega))) (⟨.inl rfl, ⟨.inl rfl, ⟨.inl rfl, ⟨.inl rfl, ⟨.inr trivial, trivial⟩⟩⟩⟩⟩) ?_
      rintro _ H22 ⟨ar22, kr22, r22, p22, F22, hF22, hs22, rfl, hrr22, rfl⟩
      refine ⟨Wr.did hs22.log, fun lg22 hlg22 => ?_⟩
      replace hs22 := HS.back hs14.log0 rfl hs22
      replace hs22 := HS.lg hs22 hs14 hlg22
      generalize ({ H22 with log := lg22 } : Heap) = H22g at hs22 ⊢
      have hs22 : HS _ _ _ [_, lp14_6, lp14_7, p22] _ := hs22
      replace hT := hT.mono hF22
      replace hc_2 := hc_2.mono hF22
      replace hril10 := hril10.mono hF22
      replace hrol10 := hrol10.mono hF22
      replace lh14_6 := lh14_6.mono hF22
      replace lh14_7 := lh14_7.mono hF22
      replace s21_0 := s21_0.mono hF22
      obtain ⟨F23, hF23, hs23, hr23, hp23⟩ := OS.frz hrr22 hs22 (i := 3) rfl
      have hs23 : HS _ _ _ [_, _, _, []] _ := hs23
      replace hT := hT.mono hF23
      replace hc_2 := hc_2.mono hF23
      replace hril10 := hril10.mono hF23
      replace hrol10 := hrol10.mono hF23
      replace hrr22 := hrr22.mono hF23
      replace lh14_6 := lh14_6.mono hF23
      replace lh14_7 := lh14_7.mono hF23
      replace s21_0 := s21_0.mono hF23
      refine wf_rs (id := .a) (rs_lit (α := (List Int)) (ps := [(0, (.slice ar22 (lstV (il10.getD k default)).length kr22))]) (cells := [(.slice ar22 (lstV (il10.getD k default)).length kr22)]) ([lstV (il10.getD k default)] : List (List Int)) hs23.log0 rfl rfl rfl (by kernel_rfl) ⟨[(.slice ar22 (lstV (il10.getD k default)).length kr22)], [], rfl, ⟨ar22, kr22, rfl, hr23⟩, rfl⟩ rfl) rfl rfl (fun _ _ _ _ => did_a rfl rfl rfl) (⟨.inl rfl, ⟨.inl rfl, ⟨.inl rfl, ⟨.inl rfl, ⟨.inl rfl, ⟨.inr trivial, trivial⟩⟩⟩⟩⟩⟩) ?_
      rintro _ H25 p24 ⟨a24, k24, rfl, ho24, hs25, _⟩ lg25 hlg25
      replace hs25 := HS.lg hs25 hs23 hlg25
      generalize ({ H25 with log := lg25 } : Heap) = H25g at hs25 ⊢
      have hs25 : HS _ _ _ [_, _, _, _, p24] _ := hs25
      refine wf_rs (id := .x (lp14_6.map Prod.fst)) (rs_app (α := (List Int)) (q := 1) lh14_6 hs25.log0 rfl rfl rfl (OS.sv ho24 hs25.log0 (i := 4) rfl) rfl rfl rfl rfl rfl rfl rfl (by first | omega | (simp only [List.length_append, List.length_cons, List.length_nil]; omega))) rfl rfl (by rintro _ _ p26 ⟨a26, k26, rfl, ho26, _, hwr⟩; exact did_x rfl rfl (Wr.did hwr)) (⟨.inl rfl, ⟨.inl rfl, ⟨.inl rfl, ⟨.inl rfl, ⟨.inl rfl, ⟨.inl rfl, ⟨.inl rfl, trivial⟩⟩⟩⟩⟩⟩⟩) ?_
      rintro _ H27 p26 ⟨a26, k26, rfl, ho26, hs27, _⟩ lg27 hlg27
      replace hs27 := HS.lg hs27 hs25 hlg27
      generalize ({ H27 with log := lg27 } : Heap) = H27g at hs27 ⊢
      have hs27 : HS _ _ _ [_, p26, _, _, _] _ := hs27
      refine fm (.slice la14_7 ys.length lk14_7) rfl rfl rfl ?_
      refine fm (.slice aol10 ol10.length kol10) rfl rfl rfl ?_
      refine fm (.int .i64 (k : Int)) rfl rfl rfl ?_
      refine wf_pure (v := (.pointer (some ⟨sB (.slice aol10 ol10.length kol10), sO (.slice aol10 ol10.length kol10) + k * Rp.sz (List U64), none⟩))) (id := .v) (ap_idxV (α := (List U64)) (j := (k : Int)) rfl rfl rfl rfl (SR.sv hrol10 hs27.log0) (by omega) (by omega)) rfl rfl (did_v rfl) (okD_v _) ?_
      obtain ⟨cs28, hr28, hc28⟩ := Sv.at (SR.sv hrol10 hs27.log0) (getD_at (x := default) (show k < ol10.length from by omega))
      obtain ⟨a29_0, k29_0, rfl, s29_0⟩ := hr28
      refine wf_pure (v := (.slice a29_0 (ol10.getD k default).length k29_0)) (id := .l (sB (.slice aol10 ol10.length kol10))) (ap_ld1 (i := 0) rfl rfl hc28 rfl rfl) rfl rfl (did_l rfl) (⟨.inl rfl, ⟨.inl rfl, ⟨.inl rfl, ⟨.inr trivial, ⟨.inr (SR.nin hrol10 hs25 (i := 1) rfl (show k < ol10.length from by omega)), ⟨.inr trivial, ⟨.inr List.not_mem_nil, ⟨.inr trivial, ⟨.inr trivial, ⟨.inr trivial, ⟨.inr trivial, ⟨.inr trivial, trivial⟩⟩⟩⟩⟩⟩⟩⟩⟩⟩⟩⟩) ?_
      refine wf_call (W := []) (ap_call rfl rfl rfl) rfl rfl rfl (mb.list_c ex (ol10.getD k default) (HS.call hs27.log0) s29_0 hT (by first | (rw [an.wi k (by omega)]; have := wd_le vF.regs; omega) | (rw [an.wo k (by omega)]; have := wd_le vF.regs; omega))) (⟨.inl rfl, ⟨.inl rfl, ⟨.inl rfl, ⟨.inl rfl, ⟨.inr trivial, ⟨.inl rfl, ⟨.inl rfl, ⟨.inl rfl, ⟨.inl rfl, ⟨.inl rfl, ⟨.inl rfl, ⟨.inl rfl, ⟨.inl rfl, trivial⟩⟩⟩⟩⟩⟩⟩⟩⟩⟩⟩⟩⟩) ?_
      rintro _ H30 ⟨ar30, kr30, r30, p30, F30, hF30, hs30, rfl, hrr30, rfl⟩
      refine ⟨Wr.did hs30.log, fun lg30 hlg30 => ?_⟩
      replace hs30 := HS.back hs27.log0 rfl hs30
      replace hs30 := HS.lg hs30 hs27 hlg30
      generalize ({ H30 with log := lg30 } : Heap) = H30g at hs30 ⊢
      have hs30 : HS _ _ _ [_, _, _, _, _, p30] _ := hs30
      replace hT := hT.mono hF30
      replace hc_2 := hc_2.mono hF30
      replace ho24 := ho24.mono hF30
      replace ho26 := ho26.mono hF30
      replace hr23 := hr23.mono hF30
      replace hril10 := hril10.mono hF30
      replace hrol10 := hrol10.mono hF30
      replace lh14_6 := lh14_6.mono hF30
      replace lh14_7 := lh14_7.mono hF30
      replace s21_0 := s21_0.mono hF30
      replace s29_0 := s29_0.mono hF30
      obtain ⟨F31, hF31, hs31, hr31, hp31⟩ := OS.frz hrr30 hs30 (i := 5) rfl
      have hs31 : HS _ _ _ [_, _, _, _, _, []] _ := hs31
      replace hT := hT.mono hF31
      replace hc_2 := hc_2.mono hF31
      replace ho24 := ho24.mono hF31
      replace ho26 := ho26.mono hF31
      replace hr23 := hr23.mono hF31
      replace hril10 := hril10.mono hF31
      replace hrol10 := hrol10.mono hF31
      replace hrr30 := hrr30.mono hF31
      replace lh14_6 := lh14_6.mono hF31
      replace lh14_7 := lh14_7.mono hF31
      replace s21_0 := s21_0.mono hF31
      replace s29_0 := s29_0.mono hF31
      refine wf_rs (id := .a) (rs_lit (α := (List Int)) (ps := [(0, (.slice ar30 (lstV (ol10.getD k default)).length kr30))]) (cells := [(.slice ar30 (lstV (ol10.getD k default)).length kr30)]) ([lstV (ol10.getD k default)] : List (List Int)) hs31.log0 rfl rfl rfl (by kernel_rfl) ⟨[(.slice ar30 (lstV (ol10.getD k default)).length kr30)], [], rfl, ⟨ar30, kr30, rfl, hr31⟩, rfl⟩ rfl) rfl rfl (fun _ _ _ _ => did_a rfl rfl rfl) (⟨.inl rfl, ⟨.inl rfl, ⟨.inl rfl, ⟨.inl rfl, ⟨.inl rfl, ⟨.inr trivial, ⟨.inl rfl, ⟨.inl rfl, ⟨.inl rfl, ⟨.inl rfl, ⟨.inl rfl, ⟨.inl rfl, ⟨.inl rfl, ⟨.inl rfl, trivial⟩⟩⟩⟩⟩⟩⟩⟩⟩⟩⟩⟩⟩⟩) ?_
      rintro _ H33 p32 ⟨a32, k32, rfl, ho32, hs33, _⟩ lg33 hlg33
      replace hs33 := HS.lg hs33 hs31 hlg33
      generalize ({ H33 with log := lg33 } : Heap) = H33g at hs33 ⊢
      have hs33 : HS _ _ _ [_, _, _, _, _, _, p32] _ := hs33
      refine wf_rs (id := .x (lp14_7.map Prod.fst)) (rs_app (α := (List Int)) (q := 2) lh14_7 hs33.log0 rfl rfl rfl (OS.sv ho32 hs33.log0 (i := 6) rfl) rfl rfl rfl rfl rfl rfl rfl (by first | omega | (simp only [List.length_append, List.length_cons, List.length_nil]; omega))) rfl rfl (by rintro _ _ p34 ⟨a34, k34, rfl, ho34, _, hwr⟩; exact did_x rfl rfl (Wr.did hwr)) (⟨.inl rfl, ⟨.inl rfl, ⟨.inl rfl, ⟨.inl rfl, ⟨.inl rfl, ⟨.inl rfl, ⟨.inl rfl, ⟨.inl rfl, ⟨.inl rfl, ⟨.inl rfl, ⟨.inl rfl, ⟨.inl rfl, ⟨.inl rfl, ⟨.inl rfl, ⟨.inl rfl, trivial⟩⟩⟩⟩⟩⟩⟩⟩⟩⟩⟩⟩⟩⟩⟩) ?_
      rintro _ H35 p34 ⟨a34, k34, rfl, ho34, hs35, _⟩ lg35 hlg35
      replace hs35 := HS.lg hs35 hs33 hlg35
      generalize ({ H35 with log := lg35 } : Heap) = H35g at hs35 ⊢
      have hs35 : HS _ _ _ [_, _, p34, _, _, _, _] _ := hs35
      refine fa (.slice a26 (xs ++ ([lstV (il10.getD k default)] : List (List Int))).length k26) rfl rfl rfl ?_
      refine fa (.slice a34 (ys ++ ([lstV (ol10.getD k default)] : List (List Int))).length k34) rfl rfl rfl ?_
      refine wf_nil ?_
      refine wk_foc 2 rfl ?_
      refine wr 1 [] 19 19 [38] [(19, (.int .i64 ((k : Int) + 1)))] (vA (vi (n := (k : Int) + 1) (by omega)) trivial) (by kernel_rfl) rfl fun gg36 => ?_
      refine ih14 _ _ _ ?_ ⟨xs ++ ([lstV (il10.getD k default)] : List (List Int)), ys ++ ([lstV (ol10.getD k default)] : List (List Int)), k + 1, a26, k26, p26, a34, k34, p34, _, (Fz.le_trans (Fz.le_trans (Fz.le_trans (Fz.le_trans (hF14) hF22) hF23) hF30) hF31), (HS.sub hs35 (List.sublist_append_left _ _)), ho26, ho34, (agC rfl (agC rfl (agC rfl (agC rfl (agC rfl (agC rfl (agC rfl (agC rfl agN)))))))), rfl, (by simp; omega), (by simp; omega), (by first | assumption | omega | (simp at *; omega)), (by exact lst_snoc e1 e4 (lst_of (an.hi k))), (by exact lst_snoc e2 e5 (lst_of (an.ho k (by omega))))⟩
      omega
    · have c18 := c18b
      try simp only [BS] at c18
      refine wr 1 [] 2 3 [39, 40] [(2, (.slice la14_6 xs.length lk14_6)), (3, (.slice la14_7 ys.length lk14_7))] trivial (by kernel_rfl) rfl fun gg37 => ?_
      obtain ⟨F38, hF38, hs38, hr38, hp38⟩ := OS.frz lh14_6 hs14 (i := 1) rfl
      have hs38 : HS _ _ _ [_, _, lp14_7] _ := hs38
      replace hT := hT.mono hF38
      replace hc_2 := hc_2.mono hF38
      replace hril10 := hril10.mono hF38
      replace hrol10 := hrol10.mono hF38
      replace lh14_6 := lh14_6.mono hF38
      replace lh14_7 := lh14_7.mono hF38
      obtain ⟨F39, hF39, hs39, hr39, hp39⟩ := OS.frz lh14_7 hs38 (i := 2) rfl
      have hs39 : HS _ _ _ [_, _, []] _ := hs39
      replace hT := hT.mono hF39
      replace hc_2 := hc_2.mono hF39
      replace hr38 := hr38.mono hF39
      replace hril10 := hril10.mono hF39
      replace hrol10 := hrol10.mono hF39
      replace lh14_7 := lh14_7.mono hF39
      refine wk_ret ⟨.inr rfl, _, rfl, la14_6, lk14_6, xs, la14_7, lk14_7, ys, _, (Fz.le_trans (Fz.le_trans (Fz.le_trans (Fz.le_trans (hF5) hF10) hF14) hF38) hF39), (HS.forget hs39), rfl, hr38, hr39, (by first | exact fun h => absurd (h.symm.trans hv) (by decide) | exact fun _ => ⟨by omega, by omega, fun b hb => e4 b (by omega), fun b hb => e5 b (by omega)⟩), (by first | exact fun _ => ⟨rfl, rfl⟩ | exact fun h => absurd (hv.symm.trans h) (by decide))⟩

set_option maxHeartbeats 1000000 in
theorem points_c (ex : FuncId) {ac_2 : Option Addr} {kc_2 : Nat} (c : VFnT) (block : Int) {F : Fz} {H : Heap} {R : List Fp} (hs : HS (.of H []) F H [] R) (hc_0 : in64 c.params) (hc_1 : in64 c.regs) (hc_2 : SR F (.slice ac_2 c.blocks.length kc_2) c.blocks) (hblock : in64 block) (hT : TB 37 tabC F) (hins : ∀ j, (c.blocks.getD j default).ins.length ≤ 1073741824) : C Tryd.prog 1 (KT 60 ex 37 tabC) 25 [(.agg ⟨[(.int .i64 c.params), (.int .i64 c.regs), (.slice ac_2 c.blocks.length kc_2)]⟩), (.int .i64 block)] H fun v H' => ∃ (al : Option Addr) (kl : Nat) (l : List (List Int)) (F' : Fz), Fz.le F F' ∧ HS (.of H []) F' H' [] R ∧ v = .slice al l.length kl ∧ SR F' (.slice al l.length kl) l ∧ (valV c = true → 0 ≤ block → block < (c.blocks.length : Int) → PtF c block.toNat l) ∧ ((valV c = false ∨ block < 0 ∨ (c.blocks.length : Int) ≤ block) → l = []) := by
  refine c_enter Tryd.func25 rfl rfl ?_
  refine wk_foc 1 rfl ?_
  refine wk_region ?_
  refine wo_rs (rs_box hs rfl rfl) rfl rfl ?_
  rintro _ H2 _ ⟨b1, rfl, hs2, _⟩
  have hs2 : HS _ _ _ [[(b1, .cells [(.int .i64 c.params), (.int .i64 c.regs), (.slice ac_2 c.blocks.length kc_2)] none false)]] _ := hs2
  refine wa (.slice none 0 0) rfl rfl rfl ?_
  refine wo_end 3 rfl ?_
  refine wk_region ?_
  refine wro 1 0 [(0, .o (.agg ⟨[(.int .i64 c.params), (.int .i64 c.regs), (.slice ac_2 c.blocks.length kc_2)]⟩))] 11 11 [] [(11, (.agg ⟨[(.int .i64 c.params), (.int .i64 c.regs), (.slice ac_2 c.blocks.length kc_2)]⟩))] (vA (qn 24 0 3 (HS.hc hs2 (i := 0) rfl) rfl rfl rfl rfl) trivial) (by kernel_rfl) rfl fun gg3 => ?_
  refine wo_call (ap_call rfl rfl rfl) rfl rfl (m3.valid_c ex c (HS.call hs2) (by first | (dsimp only; omega) | omega) (by first | (dsimp only; omega) | omega) hc_2 hT (by exact fun j => Nat.le_trans (hins j) (by omega))) ?_
  rintro _ H4 ⟨r4, F4, hF4, hs4, rfl, rfl⟩
  replace hs4 := HS.back hs2 rfl hs4
  have hs4 : HS _ _ _ [_] _ := hs4
  replace hT := hT.mono hF4
  replace hc_2 := hc_2.mono hF4
  refine wro 12 2 [(10, .o (.slice ac_2 c.blocks.length kc_2))] 13 24 [] [(24, (.bool (((!(valV c)) || (decide (block < 0))) || (decide ((c.blocks.length : Int) ≤ block)))))] (vA (fun (g1 : ((!(valV c)) || (decide (block < 0))) = false) => (ql 22 2 (HS.hc hs4 (i := 0) rfl) rfl rfl)) trivial) (by kernel_rfl) rfl fun gg5 => ?_
  refine wo_end 1 rfl ?_
  refine wk_if 1 2 (v := (((!(valV c)) || (decide (block < 0))) || (decide ((c.blocks.length : Int) ≤ block)))) rfl rfl rfl rfl (fun c6b => ?_) (fun c6b => ?_)
  · have c6 := c6b
    try simp only [BS] at c6
    have hb := c6
    refine wr 1 [] 4 4 [] [(4, (.slice none 0 0))] trivial (by kernel_rfl) rfl fun gg7 => ?_
    refine wk_ret ⟨.inr rfl, _, rfl, none, 0, ([] : List (List Int)), _, (hF4), (HS.forget hs4), rfl, (SR.nil : SR F4 (.slice none 0 0) ([] : List (List Int))), (by first | exact fun h h2 h3 => absurd hb (by simp [h]; omega) | exact fun _ _ _ => ⟨e2, fun i hi => e5 i (show (iz + 1).toNat ≤ i by omega) hi⟩), (by first | exact fun _ => rfl | exact fun h => by rw [hv] at h; simp at h; omega)⟩
  · have c6 := c6b
    try simp only [BS] at c6
    have hb := c6
    have hv : valV c = true := hb.1.1
    have vF := vF_of hv
    have hnb := vF.nb
    have hbn : block.toNat < c.blocks.length := by omega
    have hwd := wd_le vF.regs
    have hfn : ((c.blocks.getD block.toNat default).fin = 2 ∨ (c.blocks.getD block.toNat default).fin = 3) → 0 ≤ (c.blocks.getD block.toNat default).reg ∧ (c.blocks.getD block.toNat default).reg < c.regs := vF.fin block.toNat hbn
    have hbl := hins block.toNat
    refine wk_region ?_
    refine wro 1 0 [(0, .o (.agg ⟨[(.int .i64 c.params), (.int .i64 c.regs), (.slice ac_2 c.blocks.length kc_2)]⟩))] 26 26 [] [(26, (.agg ⟨[(.int .i64 c.params), (.int .i64 c.regs), (.slice ac_2 c.blocks.length kc_2)]⟩))] (vA (qn 24 0 3 (HS.hc hs4 (i := 0) rfl) rfl rfl rfl rfl) trivial) (by kernel_rfl) rfl fun gg8 => ?_
    refine wo_call (ap_call rfl rfl rfl) rfl rfl (mc.analyze_c ex c (HS.call hs4) (by first | (dsimp only; omega) | omega) (by first | (dsimp only; omega) | omega) hc_2 hT (by first | assumption | exact fun j => Nat.le_trans (hins j) (by omega)) (by first | assumption | exact fun j => Nat.le_trans (hins j) (by omega))) ?_
    rintro _ H9 ⟨ail9, kil9, il9, aol9, kol9, ol9, F9, hF9, hs9, rfl, hril9, hrol9, h9⟩
    replace hs9 := HS.back hs4 rfl hs9
    have hs9 : HS _ _ _ [_] _ := hs9
    replace hT := hT.mono hF9
    replace hc_2 := hc_2.mono hF9
    refine wro 5 2 [] 28 29 [5, 6, 25] [(6, (.slice aol9 ol9.length kol9))] trivial (by kernel_rfl) rfl fun gg10 => ?_
    refine wo_end 2 rfl ?_
    have an := (by assumption : AnF c _ _)
    have hli := an.li
    have hlo := an.lo
    have hwo := an.wo block.toNat hbn
    have hwo2 : (ol9.getD block.toNat []).length = wds c := hwo
    refine wk_region ?_
    obtain ⟨cf11, hv11⟩ := Sv.view (SR.sv hc_2 hs9)
    obtain ⟨g12_1, g12_2, g12_3, g12_4, s12_0⟩ := BlkT.fx (hv11 block.toNat)
    refine wro 5 0 [(1, .o (.slice ac_2 c.blocks.length kc_2)), (4, .o (.agg ⟨[(.slice (cA (cf11 block.toNat) 0) ((c.blocks.getD block.toNat default).ins).length (cK (cf11 block.toNat) 0)), (.int .i64 ((c.blocks.getD block.toNat default).fin)), (.int .i64 ((c.blocks.getD block.toNat default).reg)), (.int .i64 ((c.blocks.getD block.toNat default).tgt)), (.int .i64 ((c.blocks.getD block.toNat default).els))]⟩))] 30 34 [] [(34, (.agg ⟨[(.slice (cA (cf11 block.toNat) 0) ((c.blocks.getD block.toNat default).ins).length (cK (cf11 block.toNat) 0)), (.int .i64 ((c.blocks.getD block.toNat default).fin)), (.int .i64 ((c.blocks.getD block.toNat default).reg)), (.int .i64 ((c.blocks.getD block.toNat default).tgt)), (.int .i64 ((c.blocks.getD block.toNat default).els))]⟩))] (vA (ql 22 2 (HS.hc hs9 (i := 0) rfl) rfl rfl) (vA (Sv.ix (j := block) (SR.sv hc_2 hs9) (by first | (dsimp only; omega) | omega) (by first | (dsimp only; omega) | omega)) (vA (qn 42 0 5 (BlkT.vw (hv11 block.toNat) (by first | (dsimp only; omega) | omega)) rfl rfl rfl rfl) trivial))) (by kernel_rfl) rfl fun gg13 => ?_
    refine wo_rs (rs_new hs9 rfl) rfl rfl ?_
    rintro _ H15 _ ⟨b14, rfl, hs15, _⟩
    have hs15 : HS _ _ _ [_, [(b14, .cells [(.slice none 0 0), (.int .i64 0), (.int .i64 0), (.int .i64 0), (.int .i64 0)] none false)]] _ := hs15
    refine wo_rk (rs_rec (q := 1) hs15 rfl rfl rfl rfl rfl rfl rfl rfl rfl) rfl ?_
    rintro _ H16 _ ⟨hs16, _⟩
    have hs16 : HS _ _ _ [_, [(b14, .cells [(.slice (cA (cf11 block.toNat) 0) ((c.blocks.getD block.toNat default).ins).length (cK (cf11 block.toNat) 0)), (.int .i64 ((c.blocks.getD block.toNat default).fin)), (.int .i64 ((c.blocks.getD block.toNat default).reg)), (.int .i64 ((c.blocks.getD block.toNat default).tgt)), (.int .i64 ((c.blocks.getD block.toNat default).els))] none false)]] _ := hs16
    refine wo_end 2 rfl ?_
    refine wk_region ?_
    refine wo_rs (rs_lit (α := U64) (ps := []) (cells := []) ([] : List U64) hs16 rfl rfl rfl (by kernel_rfl) rfl rfl) rfl rfl ?_
    rintro _ H18 p17 ⟨a17, k17, rfl, ho17, hs18, _⟩
    have hs18 : HS _ _ _ [_, _, p17] _ := hs18
    obtain ⟨cf19, hv19⟩ := Sv.view (SR.sv hrol9 hs18)
    have s20 := fL (hv19 block.toNat)
    refine wro 4 1 [(4, .o (.slice (cA (cf19 block.toNat) 0) (ol9.getD block.toNat default).length (cK (cf19 block.toNat) 0)))] 36 39 [] [(39, (.slice (cA (cf19 block.toNat) 0) (ol9.getD block.toNat default).length (cK (cf19 block.toNat) 0)))] (vA (Sv.ix (j := block) (SR.sv hrol9 hs18) (by first | (dsimp only; omega) | omega) (by first | (dsimp only; omega) | omega)) (vA (ql 83 0 (vL (hv19 block.toNat) (by first | (dsimp only; omega) | omega)) rfl rfl) trivial)) (by kernel_rfl) rfl fun gg21 => ?_
    refine wo_rs (rs_app (α := U64) (q := 2) ho17 hs18 rfl rfl rfl (SR.sv s20 hs18) rfl rfl rfl rfl rfl rfl rfl (by first | omega | (simp only [List.length_append, List.length_cons, List.length_nil]; omega))) rfl rfl ?_
    rintro _ H23 p22 ⟨a22, k22, rfl, ho22, hs23, _⟩
    have hs23 : HS _ _ _ [_, _, p22] _ := hs23
    have ho22 : OS F9 (.slice a22 (ol9.getD block.toNat default).length k22) (ol9.getD block.toNat default) p22 := ho22
    refine wa (.slice a22 (ol9.getD block.toNat default).length k22) rfl rfl rfl ?_
    refine wo_end 2 rfl ?_
    refine wk_region ?_
    refine wro 2 0 [(1, .o (.agg ⟨[(.slice (cA (cf11 block.toNat) 0) ((c.blocks.getD block.toNat default).ins).length (cK (cf11 block.toNat) 0)), (.int .i64 ((c.blocks.getD block.toNat default).fin)), (.int .i64 ((c.blocks.getD block.toNat default).reg)), (.int .i64 ((c.blocks.getD block.toNat default).tgt)), (.int .i64 ((c.blocks.getD block.toNat default).els))]⟩))] 41 42 [] [(41, (.slice a22 (ol9.getD block.toNat default).length k22)), (42, (.agg ⟨[(.slice (cA (cf11 block.toNat) 0) ((c.blocks.getD block.toNat default).ins).length (cK (cf11 block.toNat) 0)), (.int .i64 ((c.blocks.getD block.toNat default).fin)), (.int .i64 ((c.blocks.getD block.toNat default).reg)), (.int .i64 ((c.blocks.getD block.toNat default).tgt)), (.int .i64 ((c.blocks.getD block.toNat default).els))]⟩))] (vA (qn 42 0 5 (HS.hc hs23 (i := 1) rfl) rfl rfl rfl rfl) trivial) (by kernel_rfl) rfl fun gg24 => ?_
    refine wo_call (ap_call rfl rfl rfl) rfl rfl (mb.addT_c ex (ol9.getD block.toNat default) (c.blocks.getD block.toNat default) (HS.callOwn hs23 (i := 2) rfl) ho22 s12_0 (by first | (dsimp only; omega) | omega) (by first | (dsimp only; omega) | omega) (by first | (dsimp only; omega) | omega) (by first | (dsimp only; omega) | omega) hT (by first | omega | exact fun hf => by have := hfn hf; omega) (by first | omega | exact fun hf => by have := hfn hf; omega)) ?_
    rintro _ H25 ⟨zm25, pm25, F25, hF25, hs25, rfl, hm25, h125, h225⟩
    replace hs25 := HS.backOwn hs23 (i := 2) rfl rfl (fun _ hb => hb) hs25
    have hs25 : HS _ _ _ [_, _, pm25] _ := hs25
    replace hT := hT.mono hF25
    replace hc_2 := hc_2.mono hF25
    replace ho17 := ho17.mono hF25
    replace ho22 := ho22.mono hF25
    replace hril9 := hril9.mono hF25
    replace hrol9 := hrol9.mono hF25
    replace s12_0 := s12_0.mono hF25
    replace s20 := s20.mono hF25
    have ln25 := OS.len' hm25
    refine wo_end 2 rfl ?_
    refine wk_region ?_
    refine wro 4 0 [(1, .o (.slice (cA (cf11 block.toNat) 0) ((c.blocks.getD block.toNat default).ins).length (cK (cf11 block.toNat) 0)))] 44 47 [] [(47, (.int .i64 ((((c.blocks.getD block.toNat default).ins).length : Int) + 1)))] (vA (ql 40 0 (HS.hc hs25 (i := 1) rfl) rfl rfl) (vA (vi (n := (((c.blocks.getD block.toNat default).ins).length : Int) + 1) (by first | (dsimp only; omega) | omega)) trivial)) (by kernel_rfl) rfl fun gg26 => ?_
    refine wo_rs (rs_make ([] : (List Int)) hs25 rfl rfl rfl rfl rfl rfl rfl rfl rfl ⟨none, 0, rfl, SR.nil⟩ (by first | (dsimp only; omega) | omega) (by first | (dsimp only; omega) | omega)) rfl rfl ?_
    rintro _ H28 p27 ⟨a27, k27, rfl, ho27, hs28, _⟩
    have hs28 : HS _ _ _ [_, _, _, p27] _ := hs28
    have ho27 : OS F25 (.slice a27 (List.replicate ((((c.blocks.getD block.toNat default).ins).length) + 1) ([] : (List Int))).length k27) (List.replicate ((((c.blocks.getD block.toNat default).ins).length) + 1) ([] : (List Int))) p27 := ho27
    refine wa (.slice a27 (List.replicate ((((c.blocks.getD block.toNat default).ins).length) + 1) ([] : (List Int))).length k27) rfl rfl rfl ?_
    refine wo_end 2 rfl ?_
    have hrl : (List.replicate ((c.blocks.getD block.toNat default).ins.length + 1) ([] : List Int)).length = (c.blocks.getD block.toNat default).ins.length + 1 := List.length_replicate
    refine wf_region rfl ?_
    refine fm (.slice a27 (List.replicate ((((c.blocks.getD block.toNat default).ins).length) + 1) ([] : (List Int))).length k27) rfl rfl rfl ?_
    refine wf_pure (v := (.pointer (some ⟨b14, 0, none⟩))) (id := .v) (ap_fa rfl rfl) rfl rfl (did_v rfl) (okD_v _) ?_
    refine wf_pure (v := (.slice (cA (cf11 block.toNat) 0) ((c.blocks.getD block.toNat default).ins).length (cK (cf11 block.toNat) 0))) (id := .l b14) (ap_ld1 (i := 0) rfl rfl (HS.hc hs28.log0 (i := 1) rfl) rfl rfl) rfl rfl (did_l rfl) (⟨.inl rfl, ⟨.inr trivial, trivial⟩⟩) ?_
    refine wf_pure (v := (.int .i64 (((c.blocks.getD block.toNat default).ins).length : Int))) (id := .x []) (ap_lenV (α := VInT) rfl rfl (SR.sv s12_0 hs28.log0)) rfl rfl (did_x (W := []) rfl rfl fun b hb => absurd hb List.not_mem_nil) (⟨.inl rfl, ⟨.inl rfl, ⟨.inr trivial, trivial⟩⟩⟩) ?_
    refine fm (.slice a22 (ol9.getD block.toNat default).length k22) rfl rfl rfl ?_
    obtain ⟨Fz29, hFz29, hsz29, hrz29, hpz29⟩ := OS.frz hm25 hs28 (i := 2) rfl
    have hsz29 : HS _ _ _ [_, _, [], _] _ := hsz29
    refine wf_call (W := []) (ap_call rfl rfl rfl) rfl rfl rfl (mb.list_c ex zm25 (HS.call hsz29.log0) hrz29 (hT.mono hFz29) (by first | (dsimp only; omega) | omega)) (⟨.inl rfl, ⟨.inr ⟨trivial, trivial⟩, ⟨.inr List.not_mem_nil, ⟨.inr trivial, ⟨.inr trivial, trivial⟩⟩⟩⟩⟩) ?_
    rintro _ H29 ⟨ar29, kr29, r29, p29, F29, hF29, hs29, rfl, hrr29, rfl⟩
    refine ⟨Wr.did hs29.log, fun lg29 hlg29 => ?_⟩
    replace hs29 := HS.back hsz29.log0 rfl hs29
    replace hs29 := HS.lg hs29 hs28 hlg29
    generalize ({ H29 with log := lg29 } : Heap) = H29g at hs29 ⊢
    replace hs29 := HS.thawX (M := [p29]) hs28 (i := 2) rfl hFz29 hpz29 hF29 hs29
    replace hrr29 := OS.ind (F' := F25) hrr29
    have hs29 : HS _ _ _ [[(b1, .cells [(.int .i64 c.params), (.int .i64 c.regs), (.slice ac_2 c.blocks.length kc_2)] none false)], [(b14, .cells [(.slice (cA (cf11 block.toNat) 0) ((c.blocks.getD block.toNat default).ins).length (cK (cf11 block.toNat) 0)), (.int .i64 ((c.blocks.getD block.toNat default).fin)), (.int .i64 ((c.blocks.getD block.toNat default).reg)), (.int .i64 ((c.blocks.getD block.toNat default).tgt)), (.int .i64 ((c.blocks.getD block.toNat default).els))] none false)], pm25, p27, p29] _ := hs29
    refine wf_pure (v := (.pointer (some ⟨sB (.slice a27 (List.replicate ((((c.blocks.getD block.toNat default).ins).length) + 1) ([] : (List Int))).length k27), sO (.slice a27 (List.replicate ((((c.blocks.getD block.toNat default).ins).length) + 1) ([] : (List Int))).length k27) + (((c.blocks.getD block.toNat default).ins).length) * Rp.sz (List Int), none⟩))) (id := .v) (ap_idxV (α := (List Int)) (j := (((c.blocks.getD block.toNat default).ins).length : Int)) rfl rfl rfl rfl (OS.sv ho27 hs29.log0 (i := 3) rfl) (by first | (dsimp only; omega) | omega) (by first | (dsimp only; omega) | omega)) rfl rfl (did_v rfl) (okD_v _) ?_
    obtain ⟨F30, hF30, hs30, hr30, hp30⟩ := OS.frz hrr29 hs29 (i := 4) rfl
    have hs30 : HS _ _ _ [_, _, _, _, []] _ := hs30
    replace hT := hT.mono hF30
    replace hc_2 := hc_2.mono hF30
    replace hm25 := hm25.mono hF30
    replace ho27 := ho27.mono hF30
    replace hril9 := hril9.mono hF30
    replace hrol9 := hrol9.mono hF30
    replace hrr29 := hrr29.mono hF30
    replace s12_0 := s12_0.mono hF30
    replace s20 := s20.mono hF30
    refine wf_rk (id := .x (p27.map Prod.fst)) (rs_st (α := (List Int)) (j := ((c.blocks.getD block.toNat default).ins).length) (off := 0) (q := 3) (lstV zm25) ho27 hs30.log0 rfl rfl rfl rfl rfl rfl rfl rfl (getD_at (x := default) (by first | (dsimp only; omega) | omega)) rfl (by rintro cs ⟨_, _, rfl, _⟩; exact ⟨Nat.le_of_ble_eq_true rfl, ⟨ar29, kr29, rfl, hr30⟩⟩)) rfl (by rintro _ _ p31 ⟨ho32, _, hwr⟩; exact did_x rfl rfl (Wr.did hwr)) (⟨.inl rfl, ⟨.inl rfl, ⟨.inl rfl, ⟨.inl rfl, ⟨.inl rfl, ⟨.inl rfl, ⟨.inl rfl, trivial⟩⟩⟩⟩⟩⟩⟩) ?_
    rintro _ H33 p31 ⟨ho32, hs33, _⟩ lg33 hlg33
    replace hs33 := HS.lg hs33 hs30 hlg33
    generalize ({ H33 with log := lg33 } : Heap) = H33g at hs33 ⊢
    have hs33 : HS _ _ _ [_, _, _, p31, _] _ := hs33
    have hnp31 := OS.len' ho32
    refine wf_nil ?_
    refine wk_foc 3 rfl ?_
    refine wr 2 [(1, .o (.slice (cA (cf11 block.toNat) 0) ((c.blocks.getD block.toNat default).ins).length (cK (cf11 block.toNat) 0)))] 56 59 [10] [(10, (.int .i64 ((((c.blocks.getD block.toNat default).ins).length : Int) - 1)))] (vA (ql 40 0 (HS.hc hs33 (i := 1) rfl) rfl rfl) (vA (vi (n := (((c.blocks.getD block.toNat default).ins).length : Int) - 1) (by first | (dsimp only; omega) | omega)) trivial)) (by kernel_rfl) rfl fun gg34 => ?_
    refine wk_loop_inv (fun (mm : Nat) f H' => ∃ (sw : List U64) (pl : List (List Int)) (iz : Int) (la35_8 : Option Addr) (lk35_8 : Nat) (lp35_8 : Fp) (la35_9 : Option Addr) (lk35_9 : Nat) (lp35_9 : Fp) (F' : Fz), Fz.le F30 F' ∧ HS (Base.of H []) F' H' [[(b1, .cells [(.int .i64 c.params), (.int .i64 c.regs), (.slice ac_2 c.blocks.length kc_2)] none false)], [(b14, .cells [(.slice (cA (cf11 block.toNat) 0) ((c.blocks.getD block.toNat default).ins).length (cK (cf11 block.toNat) 0)), (.int .i64 ((c.blocks.getD block.toNat default).fin)), (.int .i64 ((c.blocks.getD block.toNat default).reg)), (.int .i64 ((c.blocks.getD block.toNat default).tgt)), (.int .i64 ((c.blocks.getD block.toNat default).els))] none false)], lp35_8, lp35_9, []] R ∧ OS F' (.slice la35_8 sw.length lk35_8) sw lp35_8 ∧ OS F' (.slice la35_9 pl.length lk35_9) pl lp35_9 ∧ agrees f [(4, (.slice none 0 0)), (7, (.pointer (some ⟨b14, 0, none⟩))), (8, (.slice la35_8 sw.length lk35_8)), (9, (.slice la35_9 pl.length lk35_9)), (10, (.int .i64 iz))] ∧ mm = (iz + 1).toNat ∧ (sw.length = wds c) ∧ (pl.length = (c.blocks.getD block.toNat default).ins.length + 1) ∧ (-1 ≤ iz ∧ iz < ((c.blocks.getD block.toNat default).ins.length : Int)) ∧ (∀ r, bitOf sw r = true ↔ ptS c block.toNat (iz + 1).toNat r) ∧ (∀ j, (iz + 1).toNat ≤ j → j ≤ (c.blocks.getD block.toNat default).ins.length → Lst (pl.getD j default) (ptS c block.toNat j))) _ ⟨zm25, (List.replicate ((((c.blocks.getD block.toNat default).ins).length) + 1) ([] : (List Int))).set (((c.blocks.getD block.toNat default).ins).length) (lstV zm25), (((c.blocks.getD block.toNat default).ins).length : Int) - 1, a22, k22, pm25, a27, k27, p31, _, (Fz.le_refl _), hs33, (OS.norm hm25), (OS.norm ho32), (agC rfl (agC rfl (agC (show Value.slice a22 (ol9.getD block.toNat default).length k22 = Value.slice a22 zm25.length k22 by rw [OS.len' hm25]) (agC (show Value.slice a27 (List.replicate ((((c.blocks.getD block.toNat default).ins).length) + 1) ([] : (List Int))).length k27 = Value.slice a27 ((List.replicate ((((c.blocks.getD block.toNat default).ins).length) + 1) ([] : (List Int))).set (((c.blocks.getD block.toNat default).ins).length) (lstV zm25)).length k27 by rw [OS.len' ho32]) (agC rfl agN))))), rfl, (by omega), (by simp), (by first | assumption | omega | (simp at *; omega)), (by exact pt_start (show (c.blocks.getD block.toNat default).ins.length ≤ _ by first | omega | (dsimp only; omega)) (an.ho _ hbn) (by assumption)), (by exact fun j h1 h2 => by (rw [show j = (c.blocks.getD block.toNat default).ins.length by omega, at_set, if_pos ⟨rfl, by simp⟩]; exact lst_of (pt_start (Nat.le_refl _) (an.ho _ hbn) (by assumption))))⟩ ?_
    rintro mm35 f35 H35 ⟨sw, pl, iz, la35_8, lk35_8, lp35_8, la35_9, lk35_9, lp35_9, F35, hF35, hs35, lh35_8, lh35_9, hf35, rfl, e1, e2, e3, e4, e5⟩ ih35
    refine wk_canon _ hf35 (fun gg35 => ?_)
    clear hf35
    replace hT := hT.mono hF35
    replace hc_2 := hc_2.mono hF35
    replace s12_0 := s12_0.mono hF35
    refine wk_foc 2 rfl ?_
    refine wr 1 [] 60 61 [] [(61, (.bool (decide ((0 : Int) ≤ iz))))] trivial (by kernel_rfl) rfl fun gg36 => ?_
    refine wk_if 4 5 (v := (decide ((0 : Int) ≤ iz))) rfl rfl rfl rfl (fun c37b => ?_) (fun c37b => ?_)
    · have c37 := c37b
      try simp only [BS] at c37
      have hvl : (∀ x ∈ readsV ((c.blocks.getD block.toNat default).ins.getD iz.toNat default), 0 ≤ x ∧ x < c.regs) ∧ (∀ x ∈ writesV ((c.blocks.getD block.toNat default).ins.getD iz.toNat default), 0 ≤ x ∧ x < c.regs) ∧ ((c.blocks.getD block.toNat default).ins.getD iz.toNat default).args.length ≤ 6 := reads_lim (vF.ins block.toNat hbn iz.toNat (show iz.toNat < (c.blocks.getD block.toNat default).ins.length by omega))
      have hvl3 := hvl.2.2
      refine wk_region ?_
      obtain ⟨cf38, hv38⟩ := Sv.view (SR.sv s12_0 hs35)
      obtain ⟨g39_0, g39_1, g39_2, g39_3, g39_4, s39_5⟩ := VInT.fx (hv38 iz.toNat)
      refine wro 6 0 [(2, .o (.slice (cA (cf11 block.toNat) 0) ((c.blocks.getD block.toNat default).ins).length (cK (cf11 block.toNat) 0))), (5, .o (.agg ⟨[(.int .i64 ((((c.blocks.getD block.toNat default).ins).getD iz.toNat default).i.op)), (.int .i64 ((((c.blocks.getD block.toNat default).ins).getD iz.toNat default).i.a)), (.int .i64 ((((c.blocks.getD block.toNat default).ins).getD iz.toNat default).i.b)), (.int .i64 ((((c.blocks.getD block.toNat default).ins).getD iz.toNat default).i.c)), (.int .i64 ((((c.blocks.getD block.toNat default).ins).getD iz.toNat default).i.n)), (.slice (cA (cf38 iz.toNat) 5) ((((c.blocks.getD block.toNat default).ins).getD iz.toNat default).args).length (cK (cf38 iz.toNat) 5))]⟩))] 64 69 [] [(64, (.slice la35_8 sw.length lk35_8)), (69, (.agg ⟨[(.int .i64 ((((c.blocks.getD block.toNat default).ins).getD iz.toNat default).i.op)), (.int .i64 ((((c.blocks.getD block.toNat default).ins).getD iz.toNat default).i.a)), (.int .i64 ((((c.blocks.getD block.toNat default).ins).getD iz.toNat default).i.b)), (.int .i64 ((((c.blocks.getD block.toNat default).ins).getD iz.toNat default).i.c)), (.int .i64 ((((c.blocks.getD block.toNat default).ins).getD iz.toNat default).i.n)), (.slice (cA (cf38 iz.toNat) 5) ((((c.blocks.getD block.toNat default).ins).getD iz.toNat default).args).length (cK (cf38 iz.toNat) 5))]⟩))] (vA (ql 40 0 (HS.hc hs35 (i := 1) rfl) rfl rfl) (vA (Sv.ix (j := iz) (SR.sv s12_0 hs35) (by first | (dsimp only; omega) | omega) (by first | (dsimp only; omega) | omega)) (vA (qn 47 0 6 (VInT.vw (hv38 iz.toNat) (by first | (dsimp only; omega) | omega)) rfl rfl rfl rfl) trivial))) (by kernel_rfl) rfl fun gg40 => ?_
      refine wo_call (ap_call rfl rfl rfl) rfl rfl (mb.transfer_c ex sw (((c.blocks.getD block.toNat default).ins).getD iz.toNat default) (HS.callOwn hs35 (i := 2) rfl) lh35_8 (by first | (dsimp only; omega) | omega) (by first | (dsimp only; omega) | omega) (by first | (dsimp only; omega) | omega) (by first | (dsimp only; omega) | omega) (by first | (dsimp only; omega) | omega) s39_5 hT (by first | omega | exact fun x hx => by have := hvl.1 x hx; omega | exact fun x hx => by have := hvl.2.1 x hx; omega) (by first | omega | exact fun x hx => by have := hvl.1 x hx; omega | exact fun x hx => by have := hvl.2.1 x hx; omega) (by first | omega | exact fun x hx => by have := hvl.1 x hx; omega | exact fun x hx => by have := hvl.2.1 x hx; omega) (by first | omega | exact fun x hx => by have := hvl.1 x hx; omega | exact fun x hx => by have := hvl.2.1 x hx; omega)) ?_
      rintro _ H41 ⟨zm41, pm41, F41, hF41, hs41, rfl, hm41, h141, h241⟩
      replace hs41 := HS.backOwn hs35 (i := 2) rfl rfl (fun _ hb => hb) hs41
      have hs41 : HS _ _ _ [_, _, pm41, lp35_9, _] _ := hs41
      replace hT := hT.mono hF41
      replace hc_2 := hc_2.mono hF41
      replace lh35_8 := lh35_8.mono hF41
      replace lh35_9 := lh35_9.mono hF41
      replace s12_0 := s12_0.mono hF41
      replace s39_5 := s39_5.mono hF41
      have ln41 := OS.len' hm41
      refine wo_end 1 rfl ?_
      refine wk_region ?_
      refine wro 3 0 [] 71 73 [] [(71, (.slice la35_9 pl.length lk35_9)), (72, (.int .i64 iz)), (73, (.slice la35_8 sw.length lk35_8))] trivial (by kernel_rfl) rfl fun gg42 => ?_
      obtain ⟨Fz43, hFz43, hsz43, hrz43, hpz43⟩ := OS.frz hm41 hs41 (i := 2) rfl
      have hsz43 : HS _ _ _ [_, _, [], _, _] _ := hsz43
      refine wo_call (ap_call rfl rfl rfl) rfl rfl (mb.list_c ex zm41 (HS.call hsz43) hrz43 (hT.mono hFz43) (by first | (dsimp only; omega) | omega)) ?_
      rintro _ H43 ⟨ar43, kr43, r43, p43, F43, hF43, hs43, rfl, hrr43, rfl⟩
      replace hs43 := HS.back hsz43 rfl hs43
      replace hs43 := HS.thawX (M := [p43]) hs41 (i := 2) rfl hFz43 hpz43 hF43 hs43
      replace hrr43 := OS.ind (F' := F41) hrr43
      have hs43 : HS _ _ _ [[(b1, .cells [(.int .i64 c.params), (.int .i64 c.regs), (.slice ac_2 c.blocks.length kc_2)] none false)], [(b14, .cells [(.slice (cA (cf11 block.toNat) 0) ((c.blocks.getD block.toNat default).ins).length (cK (cf11 block.toNat) 0)), (.int .i64 ((c.blocks.getD block.toNat default).fin)), (.int .i64 ((c.blocks.getD block.toNat default).reg)), (.int .i64 ((c.blocks.getD block.toNat default).tgt)), (.int .i64 ((c.blocks.getD block.toNat default).els))] none false)], pm41, lp35_9, [], p43] _ := hs43
      refine wro 1 4 [] 75 75 [] [(75, (.pointer (some ⟨sB (.slice la35_9 pl.length lk35_9), sO (.slice la35_9 pl.length lk35_9) + iz.toNat * Rp.sz (List Int), none⟩)))] (vA (Sv.ix (j := iz) (OS.sv lh35_9 hs43 (i := 3) rfl) (by first | (dsimp only; omega) | omega) (by first | (dsimp only; omega) | omega)) trivial) (by kernel_rfl) rfl fun gg44 => ?_
      obtain ⟨F45, hF45, hs45, hr45, hp45⟩ := OS.frz hrr43 hs43 (i := 5) rfl
      have hs45 : HS _ _ _ [_, _, _, _, _, []] _ := hs45
      replace hT := hT.mono hF45
      replace hc_2 := hc_2.mono hF45
      replace hm41 := hm41.mono hF45
      replace hrr43 := hrr43.mono hF45
      replace lh35_9 := lh35_9.mono hF45
      replace s12_0 := s12_0.mono hF45
      replace s39_5 := s39_5.mono hF45
      refine wo_rk (rs_st (α := (List Int)) (j := iz.toNat) (off := 0) (q := 3) (lstV zm41) lh35_9 hs45 rfl rfl rfl rfl rfl rfl rfl rfl (getD_at (x := default) (by first | (dsimp only; omega) | omega)) rfl (by rintro cs ⟨_, _, rfl, _⟩; exact ⟨Nat.le_of_ble_eq_true rfl, ⟨ar43, kr43, rfl, hr45⟩⟩)) rfl ?_
      rintro _ H48 p46 ⟨ho47, hs48, _⟩
      have hs48 : HS _ _ _ [_, _, _, p46, _, _] _ := hs48
      have hnp46 := OS.len' ho47
      refine wo_end 2 rfl ?_
      refine wr 1 [] 62 63 [10] [(10, (.int .i64 (iz - 1)))] (vA (vi (n := iz - 1) (by first | (dsimp only; omega) | omega)) trivial) (by kernel_rfl) rfl fun gg49 => ?_
      refine ih35 _ _ _ ?_ ⟨zm41, pl.set iz.toNat (lstV zm41), iz - 1, la35_8, lk35_8, pm41, la35_9, lk35_9, p46, _, (Fz.le_trans (Fz.le_trans (hF35) hF41) hF45), (HS.sub hs48 (List.sublist_append_left _ _)), (OS.norm hm41), (OS.norm ho47), (agC rfl (agC rfl (agC (show Value.slice la35_8 sw.length lk35_8 = Value.slice la35_8 zm41.length lk35_8 by rw [OS.len' hm41]) (agC (show Value.slice la35_9 pl.length lk35_9 = Value.slice la35_9 (pl.set iz.toNat (lstV zm41)).length lk35_9 by rw [OS.len' ho47]) (agC rfl agN))))), rfl, (by omega), (by rw [List.length_set]; exact e2), (by first | assumption | omega | (simp at *; omega)), (by rw [show (iz - 1 + 1).toNat = iz.toNat by omega]; exact tr_next (show iz.toNat < (c.blocks.getD block.toNat default).ins.length by omega) (by rw [show iz.toNat + 1 = (iz + 1).toNat by omega]; exact e4) (by assumption)), (by rw [show (iz - 1 + 1).toNat = iz.toNat by omega]; exact set_pt e2 (fun j h1 h2 => e5 j (show (iz + 1).toNat ≤ j by omega) h2) (show iz.toNat ≤ (c.blocks.getD block.toNat default).ins.length by omega) (lst_of (tr_next (show iz.toNat < (c.blocks.getD block.toNat default).ins.length by omega) (by rw [show iz.toNat + 1 = (iz + 1).toNat by omega]; exact e4) (by assumption))))⟩
      omega
    · have c37 := c37b
      try simp only [BS] at c37
      refine wr 1 [] 4 4 [76] [(4, (.slice la35_9 pl.length lk35_9))] trivial (by kernel_rfl) rfl fun gg50 => ?_
      obtain ⟨F51, hF51, hs51, hr51, hp51⟩ := OS.frz lh35_9 hs35 (i := 3) rfl
      have hs51 : HS _ _ _ [_, _, lp35_8, [], _] _ := hs51
      replace hT := hT.mono hF51
      replace hc_2 := hc_2.mono hF51
      replace lh35_8 := lh35_8.mono hF51
      replace lh35_9 := lh35_9.mono hF51
      replace s12_0 := s12_0.mono hF51
      refine wk_ret ⟨.inr rfl, _, rfl, la35_9, lk35_9, pl, _, (Fz.le_trans (Fz.le_trans (Fz.le_trans (Fz.le_trans (Fz.le_trans (hF4) hF9) hF25) hF30) hF35) hF51), (HS.forget hs51), rfl, hr51, (by first | exact fun h h2 h3 => absurd hb (by simp [h]; omega) | exact fun _ _ _ => ⟨e2, fun i hi => e5 i (show (iz + 1).toNat ≤ i by omega) hi⟩), (by first | exact fun _ => rfl | exact fun h => by rw [hv] at h; simp at h; omega)⟩

-- STUCK fulling/liveness.AcrossCalls loop 0 lacks its assertion

/-
set_option maxHeartbeats 2000000 in
theorem across_c (ex : FuncId) {ac_2 : Option Addr} {kc_2 : Nat} (c : VFnT) {F : Fz} {H : Heap} {R : List Fp} (hs : HS (.of H []) F H [] R) (hc_0 : in64 c.params) (hc_1 : in64 c.regs) (hc_2 : SR F (.slice ac_2 c.blocks.length kc_2) c.blocks) (hT : TB 37 tabC F) (hins : ∀ j, (c.blocks.getD j default).ins.length ≤ 1073741824) : C Tryd.prog 1 (KT 60 ex 37 tabC) 23 [(.agg ⟨[(.int .i64 c.params), (.int .i64 c.regs), (.slice ac_2 c.blocks.length kc_2)]⟩)] H fun v H' => ∃ (ar : Option Addr) (kr : Nat) (r : List Int) (p : Fp) (F' : Fz), Fz.le F F' ∧ HS (.of H []) F' H' [p] R ∧ v = .slice ar r.length kr ∧ OS F' (.slice ar r.length kr) r p ∧ (valV c = true → Lst r (acS c)) ∧ (valV c = false → r = []) := by
  refine c_enter Tryd.func23 rfl rfl ?_
  refine wk_foc 1 rfl ?_
  refine wk_region ?_
  refine wo_rs (rs_box hs rfl rfl) rfl rfl ?_
  rintro _ H2 _ ⟨b1, rfl, hs2, _⟩
  have hs2 : HS _ _ _ [[(b1, .cells [(.int .i64 c.params), (.int .i64 c.regs), (.slice ac_2 c.blocks.length kc_2)] none false)]] _ := hs2
  refine wa (.slice none 0 0) rfl rfl rfl ?_
  refine wo_end 3 rfl ?_
  refine wk_region ?_
  refine wro 1 0 [(0, .o (.agg ⟨[(.int .i64 c.params), (.int .i64 c.regs), (.slice ac_2 c.blocks.length kc_2)]⟩))] 14 14 [] [(14, (.agg ⟨[(.int .i64 c.params), (.int .i64 c.regs), (.slice ac_2 c.blocks.length kc_2)]⟩))] (vA (qn 24 0 3 (HS.hc hs2 (i := 0) rfl) rfl rfl rfl rfl) trivial) (by kernel_rfl) rfl fun gg3 => ?_
  refine wo_call (ap_call rfl rfl rfl) rfl rfl (m3.valid_c ex c (HS.call hs2) (by first | (dsimp only; omega) | omega) (by first | (dsimp only; omega) | omega) hc_2 hT (by first | (dsimp only; omega) | omega)) ?_
  rintro _ H4 ⟨r4, F4, hF4, hs4, rfl, rfl⟩
  replace hs4 := HS.back hs2 rfl hs4
  have hs4 : HS _ _ _ [_] _ := hs4
  replace hT := hT.mono hF4
  replace hc_2 := hc_2.mono hF4
  refine wro 1 2 [] 16 16 [] [(16, (.bool (!(valV c))))] trivial (by kernel_rfl) rfl fun gg5 => ?_
  refine wo_end 1 rfl ?_
  refine wk_if 1 2 (v := (!(valV c))) rfl rfl rfl rfl (fun c6b => ?_) (fun c6b => ?_)
  · have c6 := c6b
    try simp only [BS] at c6
    refine wr 1 [] 2 2 [] [(2, (.slice none 0 0))] trivial (by kernel_rfl) rfl fun gg7 => ?_
    refine wk_ret ⟨.inr rfl, _, rfl, none, 0, ([] : List Int), [], _, (hF4), (HS.cons (HS.forget hs4)), rfl, (OS.nil : OS _ _ _ []), (by first | assumption | omega | simp_all), (by first | assumption | omega | simp_all)⟩
  · have c6 := c6b
    try simp only [BS] at c6
    refine wk_region ?_
    refine wro 1 0 [(0, .o (.agg ⟨[(.int .i64 c.params), (.int .i64 c.regs), (.slice ac_2 c.blocks.length kc_2)]⟩))] 18 18 [] [(18, (.agg ⟨[(.int .i64 c.params), (.int .i64 c.regs), (.slice ac_2 c.blocks.length kc_2)]⟩))] (vA (qn 24 0 3 (HS.hc hs4 (i := 0) rfl) rfl rfl rfl rfl) trivial) (by kernel_rfl) rfl fun gg8 => ?_
    refine wo_call (ap_call rfl rfl rfl) rfl rfl (mc.analyze_c ex c (HS.call hs4) (by first | (dsimp only; omega) | omega) (by first | (dsimp only; omega) | omega) hc_2 hT (by first | (dsimp only; omega) | omega) (by first | (dsimp only; omega) | omega)) ?_
    rintro _ H9 ⟨ail9, kil9, il9, aol9, kol9, ol9, F9, hF9, hs9, rfl, hril9, hrol9, h9⟩
    replace hs9 := HS.back hs4 rfl hs9
    have hs9 : HS _ _ _ [_] _ := hs9
    replace hT := hT.mono hF9
    replace hc_2 := hc_2.mono hF9
    refine wro 5 2 [] 20 21 [3, 4, 17] [(4, (.slice aol9 ol9.length kol9))] trivial (by kernel_rfl) rfl fun gg10 => ?_
    refine wo_end 2 rfl ?_
    refine wk_region ?_
    refine wro 2 0 [(1, .o (.int .i64 c.regs))] 22 23 [] [(23, (.int .i64 c.regs))] (vA (ql 3 1 (HS.hc hs9 (i := 0) rfl) rfl rfl) trivial) (by kernel_rfl) rfl fun gg11 => ?_
    refine wo_call (ap_call rfl rfl rfl) rfl rfl (mb.empty_c ex c.regs (HS.call hs9) (by first | (dsimp only; omega) | omega) hT (by first | (dsimp only; omega) | omega)) ?_
    rintro _ H12 ⟨ar12, kr12, r12, p12, F12, hF12, hs12, rfl, hrr12, rfl⟩
    replace hs12 := HS.back hs9 rfl hs12
    have hs12 : HS _ _ _ [_, p12] _ := hs12
    replace hT := hT.mono hF12
    replace hc_2 := hc_2.mono hF12
    replace hril9 := hril9.mono hF12
    replace hrol9 := hrol9.mono hF12
    refine wa (.slice ar12 (List.replicate (Int.tdiv (c.regs + 63) 64).toNat (⟨0⟩ : U64)).length kr12) rfl rfl rfl ?_
    refine wo_end 3 rfl ?_
    refine wr 2 [(1, .o (.slice ac_2 c.blocks.length kc_2))] 25 28 [] [(26, (.slice ac_2 c.blocks.length kc_2)), (27, (.int .i64 (c.blocks.length : Int))), (28, (.int .i64 0))] (vA (ql 22 2 (HS.hc hs12 (i := 0) rfl) rfl rfl) trivial) (by kernel_rfl) rfl fun gg13 => ?_
-/
end Go.Proofs.YtlabedbmgmfbaaaDoor.md
