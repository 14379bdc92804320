/-
  Live registers: Blocks, Points and AcrossCalls, each by a symbolic run. No condition but bounds on lengths.
-/
import Derived.Test.YtlabedbmgmfbaaaDoorMC
noncomputable section
namespace Go.Proofs.YtlabedbmgmfbaaaDoor.md
open Go.R
set_option maxRecDepth 10000
set_option linter.unusedVariables false
theorem ql {H : Heap} {b o : Nat} {cs : List Value} {w : Value} (t : TypeId) (i : Nat) (hc : HC H.get b o cs) (ha : aggOf Tryd.prog t = some false) (hv : cs[i]? = some w) : LDv Tryd.prog H t (.pointer (some ⟨b, o + i, none⟩)) w := ld1 hc ha hv
theorem qn {H : Heap} {b o : Nat} {cs l : List Value} (t : TypeId) (i n : Nat) (hc : HC H.get b o cs) (ha : aggOf Tryd.prog t = some true) (hs : szOf Tryd.prog t = some n) (hn : Nat.ble (i + n) cs.length = true) (hl : takeL (dropL cs i) n = l) : LDv Tryd.prog H t (.pointer (some ⟨b, o + i, none⟩)) (.agg ⟨l⟩) := ldN hc ha hs hn hl
open m1 m2 m3 m4 m5 m6 ma ml mb mc
/-- An ascending list of a set's members. -/
structure Lst (l : List Int) (S : Nat → Prop) : Prop where
  asc : Asc l
  mem : ∀ x, x ∈ l ↔ 0 ≤ x ∧ S x.toNat
theorem lst_of {s : List U64} {S : Nat → Prop} (h : ∀ r, bitOf s r = true ↔ S r) : Lst (lstV s) S := ⟨lst_asc, fun x => by rw [lst_mem, h]⟩
structure BkF (c : VFnT) (x y : List (List Int)) : Prop where
  lx : x.length = c.blocks.length
  ly : y.length = c.blocks.length
  hx : ∀ b, b < c.blocks.length → Lst (x.getD b default) (LIn c b)
  hy : ∀ b, b < c.blocks.length → Lst (y.getD b default) (LOut c b)
def ptS (c : VFnT) (b i : Nat) : Nat → Prop := tr ((blkN c b).ins.drop i) (endS (blkN c b) (LOut c b))
structure PtF (c : VFnT) (b : Nat) (l : List (List Int)) : Prop where
  len : l.length = (blkN c b).ins.length + 1
  pt : ∀ i, i ≤ (blkN c b).ins.length → Lst (l.getD i default) (ptS c b i)
def acI (c : VFnT) (b i r : Nat) : Prop := ((blkN c b).ins.getD i default).i.op = 6 ∧ ((ptS c b (i + 1) r ∧ (r : Int) ≠ ((blkN c b).ins.getD i default).i.a) ∨ (r : Int) ∈ ((blkN c b).ins.getD i default).args)
def acS (c : VFnT) (r : Nat) : Prop := ∃ b i, b < c.blocks.length ∧ i < (blkN c b).ins.length ∧ acI c b i r
theorem at_snoc {α : Type} {d : α} {l : List α} {x : α} {j : Nat} : (l ++ [x]).getD j d = if j = l.length then x else l.getD j d := by
  rw [List.getD_eq_getElem?_getD, List.getD_eq_getElem?_getD, List.getElem?_append]
  by_cases h : j < l.length
  · rw [if_pos h, if_neg (by omega)]
  · rw [if_neg h]
    by_cases h2 : j = l.length
    · subst h2; rw [if_pos rfl, Nat.sub_self]; rfl
    · rw [if_neg h2, List.getElem?_eq_none (by simp; omega), List.getElem?_eq_none (by omega)]
theorem lst_snoc {l : List (List Int)} {S : Nat → Nat → Prop} {k : Nat} {x : List Int} (hl : l.length = k) (h : ∀ b, b < k → Lst (l.getD b default) (S b)) (hx : Lst x (S k)) : ∀ b, b < k + 1 → Lst ((l ++ [x]).getD b default) (S b) := fun b hb => by
  rw [at_snoc]
  split
  · rename_i e; rw [hl] at e; subst e; exact hx
  · exact h b (by omega)
set_option maxHeartbeats 1000000 in
theorem blocks_c (ex : FuncId) {ac_2 : Option Addr} {kc_2 : Nat} (c : VFnT) {F : Fz} {H : Heap} {R : List Fp} (hs : HS (.of H []) F H [] R) (hc_0 : in64 c.params) (hc_1 : in64 c.regs) (hc_2 : SR F (.slice ac_2 c.blocks.length kc_2) c.blocks) (hT : TB 37 tabC F) (hins : ∀ j, (c.blocks.getD j default).ins.length ≤ 1073741824) : C Tryd.prog 1 (KT 60 ex 37 tabC) 19 [(.agg ⟨[(.int .i64 c.params), (.int .i64 c.regs), (.slice ac_2 c.blocks.length kc_2)]⟩)] H fun v H' => ∃ (ax : Option Addr) (kx : Nat) (x : List (List Int)) (ay : Option Addr) (ky : Nat) (y : List (List Int)) (F' : Fz), Fz.le F F' ∧ HS (.of H []) F' H' [] R ∧ v = .tuple ⟨[.slice ax x.length kx, .slice ay y.length ky]⟩ ∧ SR F' (.slice ax x.length kx) x ∧ SR F' (.slice ay y.length ky) y ∧ (valV c = true → BkF c x y) ∧ (valV c = false → x = [] ∧ y = []) := by
  refine c_enter Tryd.func19 rfl rfl ?_
  refine wk_foc 1 rfl ?_
  refine wk_region ?_
  refine wo_rs (rs_box hs rfl rfl) rfl rfl ?_
  rintro _ H2 _ ⟨b1, rfl, hs2, _⟩
  have hs2 : HS _ _ _ [[(b1, .cells [(.int .i64 c.params), (.int .i64 c.regs), (.slice ac_2 c.blocks.length kc_2)] none false)]] _ := hs2
  refine wro 2 1 [] 2 3 [] [(2, (.slice none 0 0)), (3, (.slice none 0 0))] trivial (by kernel_rfl) rfl fun gg3 => ?_
  refine wo_end 3 rfl ?_
  refine wk_region ?_
  refine wro 1 0 [(0, .o (.agg ⟨[(.int .i64 c.params), (.int .i64 c.regs), (.slice ac_2 c.blocks.length kc_2)]⟩))] 9 9 [] [(9, (.agg ⟨[(.int .i64 c.params), (.int .i64 c.regs), (.slice ac_2 c.blocks.length kc_2)]⟩))] (vA (qn 24 0 3 (HS.hc hs2 (i := 0) rfl) rfl rfl rfl rfl) trivial) (by kernel_rfl) rfl fun gg4 => ?_
  refine wo_call (ap_call rfl rfl rfl) rfl rfl (m3.valid_c ex c (HS.call hs2) (by omega) (by omega) hc_2 hT (by exact fun j => Nat.le_trans (hins j) (by omega))) ?_
  rintro _ H5 ⟨r5, F5, hF5, hs5, rfl, rfl⟩
  replace hs5 := HS.back hs2 rfl hs5
  have hs5 : HS _ _ _ [_] _ := hs5
  replace hT := hT.mono hF5
  replace hc_2 := hc_2.mono hF5
  refine wro 1 2 [] 11 11 [] [(11, (.bool (!(valV c))))] trivial (by kernel_rfl) rfl fun gg6 => ?_
  refine wo_end 1 rfl ?_
  refine wk_if 1 2 (v := (!(valV c))) rfl rfl rfl rfl (fun c7b => ?_) (fun c7b => ?_)
  · have c7 := c7b
    try simp only [BS] at c7
    have hv := c7
    refine wr 1 [] 2 3 [] [(2, (.slice none 0 0)), (3, (.slice none 0 0))] trivial (by kernel_rfl) rfl fun gg8 => ?_
    refine wk_ret ⟨.inr rfl, _, rfl, none, 0, ([] : List (List Int)), none, 0, ([] : List (List Int)), _, (hF5), (HS.forget hs5), rfl, (SR.nil : SR F5 (.slice none 0 0) ([] : List (List Int))), (SR.nil : SR F5 (.slice none 0 0) ([] : List (List Int))), (by first | exact fun h => absurd (h.symm.trans hv) (by decide) | exact fun _ => ⟨by omega, by omega, fun b hb => e4 b (by omega), fun b hb => e5 b (by omega)⟩), (by first | exact fun _ => ⟨rfl, rfl⟩ | exact fun h => absurd (hv.symm.trans h) (by decide))⟩
  · have c7 := c7b
    try simp only [BS] at c7
    have hv := c7
    have vF := vF_of hv
    have hnb := vF.nb
    refine wk_region ?_
    refine wro 1 0 [(0, .o (.agg ⟨[(.int .i64 c.params), (.int .i64 c.regs), (.slice ac_2 c.blocks.length kc_2)]⟩))] 13 13 [] [(13, (.agg ⟨[(.int .i64 c.params), (.int .i64 c.regs), (.slice ac_2 c.blocks.length kc_2)]⟩))] (vA (qn 24 0 3 (HS.hc hs5 (i := 0) rfl) rfl rfl rfl rfl) trivial) (by kernel_rfl) rfl fun gg9 => ?_
    refine wo_call (ap_call rfl rfl rfl) rfl rfl (mc.analyze_c ex c (HS.call hs5) (by omega) (by omega) hc_2 hT (by first | assumption | exact fun j => Nat.le_trans (hins j) (by omega)) (by first | assumption | exact fun j => Nat.le_trans (hins j) (by omega))) ?_
    rintro _ H10 ⟨ail10, kil10, il10, aol10, kol10, ol10, F10, hF10, hs10, rfl, hril10, hrol10, h10⟩
    replace hs10 := HS.back hs5 rfl hs10
    have hs10 : HS _ _ _ [_] _ := hs10
    replace hT := hT.mono hF10
    replace hc_2 := hc_2.mono hF10
    refine wro 5 2 [] 15 16 [4, 5, 12] [(4, (.slice ail10 il10.length kil10)), (5, (.slice aol10 ol10.length kol10))] trivial (by kernel_rfl) rfl fun gg11 => ?_
    refine wo_end 2 rfl ?_
    have an := (by assumption : AnF c _ _)
    have hli := an.li
    have hlo := an.lo
    refine wr 3 [] 1 0 [6, 7] [(6, (.slice none 0 0)), (7, (.slice none 0 0))] trivial (by kernel_rfl) rfl fun gg12 => ?_
    refine wr 2 [] 17 19 [] [(18, (.int .i64 (il10.length : Int))), (19, (.int .i64 0))] trivial (by kernel_rfl) rfl fun gg13 => ?_
    have hs15 := HS.snoc hs10
    have hs15 : HS _ _ _ [_, []] _ := hs15
    have hs16 := HS.snoc hs15
    have hs16 : HS _ _ _ [_, _, []] _ := hs16
    refine wk_loop_inv (fun (mm : Nat) f H' => ∃ (xs : List (List Int)) (ys : List (List Int)) (k : Nat) (la14_6 : Option Addr) (lk14_6 : Nat) (lp14_6 : Fp) (la14_7 : Option Addr) (lk14_7 : Nat) (lp14_7 : Fp) (F' : Fz), Fz.le F10 F' ∧ HS (Base.of H []) F' H' [[(b1, .cells [(.int .i64 c.params), (.int .i64 c.regs), (.slice ac_2 c.blocks.length kc_2)] none false)], lp14_6, lp14_7] R ∧ OS F' (.slice la14_6 xs.length lk14_6) xs lp14_6 ∧ OS F' (.slice la14_7 ys.length lk14_7) ys lp14_7 ∧ agrees f [(2, (.slice none 0 0)), (3, (.slice none 0 0)), (4, (.slice ail10 il10.length kil10)), (5, (.slice aol10 ol10.length kol10)), (6, (.slice la14_6 xs.length lk14_6)), (7, (.slice la14_7 ys.length lk14_7)), (18, (.int .i64 (il10.length : Int))), (19, (.int .i64 (k : Int)))] ∧ mm = c.blocks.length - k ∧ (xs.length = k) ∧ (ys.length = k) ∧ (k ≤ c.blocks.length) ∧ (∀ b, b < k → Lst (xs.getD b default) (LIn c b)) ∧ (∀ b, b < k → Lst (ys.getD b default) (LOut c b))) _ ⟨([] : List (List Int)), ([] : List (List Int)), 0, none, 0, [], none, 0, [], _, (Fz.le_refl _), hs16, (OS.nil : OS F10 (.slice none 0 0) ([] : List (List Int)) []), (OS.nil : OS F10 (.slice none 0 0) ([] : List (List Int)) []), (agC rfl (agC rfl (agC rfl (agC rfl (agC rfl (agC rfl (agC rfl (agC rfl agN)))))))), rfl, (by rfl), (by rfl), (by first | assumption | omega | (simp at *; omega)), (by intro b hb; omega), (by intro b hb; omega)⟩ ?_
    rintro mm14 f14 H14 ⟨xs, ys, k, la14_6, lk14_6, lp14_6, la14_7, lk14_7, lp14_7, F14, hF14, hs14, lh14_6, lh14_7, hf14, rfl, e1, e2, e3, e4, e5⟩ ih14
    refine wk_canon _ hf14 (fun gg14 => ?_)
    clear hf14
    replace hT := hT.mono hF14
    replace hc_2 := hc_2.mono hF14
    replace hril10 := hril10.mono hF14
    replace hrol10 := hrol10.mono hF14
    refine wk_foc 1 rfl ?_
    refine wr 2 [] 20 20 [] [(20, (.bool (decide ((k : Int) < (il10.length : Int)))))] trivial (by kernel_rfl) rfl fun gg17 => ?_
    refine wk_if 4 5 (v := (decide ((k : Int) < (il10.length : Int)))) rfl rfl rfl rfl (fun c18b => ?_) (fun c18b => ?_)
    · have c18 := c18b
      try simp only [BS] at c18
      refine wr 1 [] 21 21 [8] [(8, (.int .i64 (k : Int)))] trivial (by kernel_rfl) rfl fun gg19 => ?_
      refine wf_region rfl ?_
      refine fm (.slice la14_6 xs.length lk14_6) rfl rfl rfl ?_
      refine fm (.slice ail10 il10.length kil10) rfl rfl rfl ?_
      refine fm (.int .i64 (k : Int)) rfl rfl rfl ?_
      refine wf_pure (v := (.pointer (some ⟨sB (.slice ail10 il10.length kil10), sO (.slice ail10 il10.length kil10) + k * Rp.sz (List U64), none⟩))) (id := .v) (ap_idxV (α := (List U64)) (j := (k : Int)) rfl rfl rfl rfl (SR.sv hril10 hs14.log0) (by omega) (by omega)) rfl rfl (did_v rfl) (okD_v _) ?_
      obtain ⟨cs20, hr20, hc20⟩ := Sv.at (SR.sv hril10 hs14.log0) (getD_at (x := default) (show k < il10.length from by omega))
      obtain ⟨a21_0, k21_0, rfl, s21_0⟩ := hr20
      refine wf_pure (v := (.slice a21_0 (il10.getD k default).length k21_0)) (id := .l (sB (.slice ail10 il10.length kil10))) (ap_ld1 (i := 0) rfl rfl hc20 rfl rfl) rfl rfl (did_l rfl) (⟨.inl rfl, ⟨.inl rfl, ⟨.inl rfl, ⟨.inr trivial, trivial⟩⟩⟩⟩) ?_
      refine wf_call (W := []) (ap_call rfl rfl rfl) rfl rfl rfl (mb.list_c ex (il10.getD k default) (HS.call hs14.log0) s21_0 hT (by first | (rw [an.wi k (by omega)]; have := wd_le vF.regs; omega) | (rw [an.wo k (by omega)]; have := wd_le vF.regs; omega))) (⟨.inl rfl, ⟨.inl rfl, ⟨.inl rfl, ⟨.inl rfl, ⟨.inr trivial, trivial⟩⟩⟩⟩⟩) ?_
      rintro _ H22 ⟨ar22, kr22, r22, p22, F22, hF22, hs22, rfl, hrr22, rfl⟩
      refine ⟨Wr.did hs22.log, fun lg22 hlg22 => ?_⟩
      replace hs22 := HS.back hs14.log0 rfl hs22
      replace hs22 := HS.lg hs22 hs14 hlg22
      generalize ({ H22 with log := lg22 } : Heap) = H22g at hs22 ⊢
      have hs22 : HS _ _ _ [_, lp14_6, lp14_7, p22] _ := hs22
      replace hT := hT.mono hF22
      replace hc_2 := hc_2.mono hF22
      replace hril10 := hril10.mono hF22
      replace hrol10 := hrol10.mono hF22
      replace lh14_6 := lh14_6.mono hF22
      replace lh14_7 := lh14_7.mono hF22
      replace s21_0 := s21_0.mono hF22
      obtain ⟨F23, hF23, hs23, hr23, hp23⟩ := OS.frz hrr22 hs22 (i := 3) rfl
      have hs23 : HS _ _ _ [_, _, _, []] _ := hs23
      replace hT := hT.mono hF23
      replace hc_2 := hc_2.mono hF23
      replace hril10 := hril10.mono hF23
      replace hrol10 := hrol10.mono hF23
      replace hrr22 := hrr22.mono hF23
      replace lh14_6 := lh14_6.mono hF23
      replace lh14_7 := lh14_7.mono hF23
      replace s21_0 := s21_0.mono hF23
      refine wf_rs (id := .a) (rs_lit (α := (List Int)) (ps := [(0, (.slice ar22 (lstV (il10.getD k default)).length kr22))]) (cells := [(.slice ar22 (lstV (il10.getD k default)).length kr22)]) ([lstV (il10.getD k default)] : List (List Int)) hs23.log0 rfl rfl rfl (by kernel_rfl) ⟨[(.slice ar22 (lstV (il10.getD k default)).length kr22)], [], rfl, ⟨ar22, kr22, rfl, hr23⟩, rfl⟩ rfl) rfl rfl (fun _ _ _ _ => did_a rfl rfl rfl) (⟨.inl rfl, ⟨.inl rfl, ⟨.inl rfl, ⟨.inl rfl, ⟨.inl rfl, ⟨.inr trivial, trivial⟩⟩⟩⟩⟩⟩) ?_
      rintro _ H25 p24 ⟨a24, k24, rfl, ho24, hs25, _⟩ lg25 hlg25
      replace hs25 := HS.lg hs25 hs23 hlg25
      generalize ({ H25 with log := lg25 } : Heap) = H25g at hs25 ⊢
      have hs25 : HS _ _ _ [_, _, _, _, p24] _ := hs25
      refine wf_rs (id := .x (lp14_6.map Prod.fst)) (rs_app (α := (List Int)) (q := 1) lh14_6 hs25.log0 rfl rfl rfl (OS.sv ho24 hs25.log0 (i := 4) rfl) rfl rfl rfl rfl rfl rfl rfl (by first | omega | (simp only [List.length_append, List.length_cons, List.length_nil]; omega))) rfl rfl (by rintro _ _ p26 ⟨a26, k26, rfl, ho26, _, hwr⟩; exact did_x rfl rfl (Wr.did hwr)) (⟨.inl rfl, ⟨.inl rfl, ⟨.inl rfl, ⟨.inl rfl, ⟨.inl rfl, ⟨.inl rfl, ⟨.inl rfl, trivial⟩⟩⟩⟩⟩⟩⟩) ?_
      rintro _ H27 p26 ⟨a26, k26, rfl, ho26, hs27, _⟩ lg27 hlg27
      replace hs27 := HS.lg hs27 hs25 hlg27
      generalize ({ H27 with log := lg27 } : Heap) = H27g at hs27 ⊢
      have hs27 : HS _ _ _ [_, p26, _, _, _] _ := hs27
      refine fm (.slice la14_7 ys.length lk14_7) rfl rfl rfl ?_
      refine fm (.slice aol10 ol10.length kol10) rfl rfl rfl ?_
      refine fm (.int .i64 (k : Int)) rfl rfl rfl ?_
      refine wf_pure (v := (.pointer (some ⟨sB (.slice aol10 ol10.length kol10), sO (.slice aol10 ol10.length kol10) + k * Rp.sz (List U64), none⟩))) (id := .v) (ap_idxV (α := (List U64)) (j := (k : Int)) rfl rfl rfl rfl (SR.sv hrol10 hs27.log0) (by omega) (by omega)) rfl rfl (did_v rfl) (okD_v _) ?_
      obtain ⟨cs28, hr28, hc28⟩ := Sv.at (SR.sv hrol10 hs27.log0) (getD_at (x := default) (show k < ol10.length from by omega))
      obtain ⟨a29_0, k29_0, rfl, s29_0⟩ := hr28
      refine wf_pure (v := (.slice a29_0 (ol10.getD k default).length k29_0)) (id := .l (sB (.slice aol10 ol10.length kol10))) (ap_ld1 (i := 0) rfl rfl hc28 rfl rfl) rfl rfl (did_l rfl) (⟨.inl rfl, ⟨.inl rfl, ⟨.inl rfl, ⟨.inr trivial, ⟨.inr (SR.nin hrol10 hs25 (i := 1) rfl (show k < ol10.length from by omega)), ⟨.inr trivial, ⟨.inr List.not_mem_nil, ⟨.inr trivial, ⟨.inr trivial, ⟨.inr trivial, ⟨.inr trivial, ⟨.inr trivial, trivial⟩⟩⟩⟩⟩⟩⟩⟩⟩⟩⟩⟩) ?_
      refine wf_call (W := []) (ap_call rfl rfl rfl) rfl rfl rfl (mb.list_c ex (ol10.getD k default) (HS.call hs27.log0) s29_0 hT (by first | (rw [an.wi k (by omega)]; have := wd_le vF.regs; omega) | (rw [an.wo k (by omega)]; have := wd_le vF.regs; omega))) (⟨.inl rfl, ⟨.inl rfl, ⟨.inl rfl, ⟨.inl rfl, ⟨.inr trivial, ⟨.inl rfl, ⟨.inl rfl, ⟨.inl rfl, ⟨.inl rfl, ⟨.inl rfl, ⟨.inl rfl, ⟨.inl rfl, ⟨.inl rfl, trivial⟩⟩⟩⟩⟩⟩⟩⟩⟩⟩⟩⟩⟩) ?_
      rintro _ H30 ⟨ar30, kr30, r30, p30, F30, hF30, hs30, rfl, hrr30, rfl⟩
      refine ⟨Wr.did hs30.log, fun lg30 hlg30 => ?_⟩
      replace hs30 := HS.back hs27.log0 rfl hs30
      replace hs30 := HS.lg hs30 hs27 hlg30
      generalize ({ H30 with log := lg30 } : Heap) = H30g at hs30 ⊢
      have hs30 : HS _ _ _ [_, _, _, _, _, p30] _ := hs30
      replace hT := hT.mono hF30
      replace hc_2 := hc_2.mono hF30
      replace ho24 := ho24.mono hF30
      replace ho26 := ho26.mono hF30
      replace hr23 := hr23.mono hF30
      replace hril10 := hril10.mono hF30
      replace hrol10 := hrol10.mono hF30
      replace lh14_6 := lh14_6.mono hF30
      replace lh14_7 := lh14_7.mono hF30
      replace s21_0 := s21_0.mono hF30
      replace s29_0 := s29_0.mono hF30
      obtain ⟨F31, hF31, hs31, hr31, hp31⟩ := OS.frz hrr30 hs30 (i := 5) rfl
      have hs31 : HS _ _ _ [_, _, _, _, _, []] _ := hs31
      replace hT := hT.mono hF31
      replace hc_2 := hc_2.mono hF31
      replace ho24 := ho24.mono hF31
      replace ho26 := ho26.mono hF31
      replace hr23 := hr23.mono hF31
      replace hril10 := hril10.mono hF31
      replace hrol10 := hrol10.mono hF31
      replace hrr30 := hrr30.mono hF31
      replace lh14_6 := lh14_6.mono hF31
      replace lh14_7 := lh14_7.mono hF31
      replace s21_0 := s21_0.mono hF31
      replace s29_0 := s29_0.mono hF31
      refine wf_rs (id := .a) (rs_lit (α := (List Int)) (ps := [(0, (.slice ar30 (lstV (ol10.getD k default)).length kr30))]) (cells := [(.slice ar30 (lstV (ol10.getD k default)).length kr30)]) ([lstV (ol10.getD k default)] : List (List Int)) hs31.log0 rfl rfl rfl (by kernel_rfl) ⟨[(.slice ar30 (lstV (ol10.getD k default)).length kr30)], [], rfl, ⟨ar30, kr30, rfl, hr31⟩, rfl⟩ rfl) rfl rfl (fun _ _ _ _ => did_a rfl rfl rfl) (⟨.inl rfl, ⟨.inl rfl, ⟨.inl rfl, ⟨.inl rfl, ⟨.inl rfl, ⟨.inr trivial, ⟨.inl rfl, ⟨.inl rfl, ⟨.inl rfl, ⟨.inl rfl, ⟨.inl rfl, ⟨.inl rfl, ⟨.inl rfl, ⟨.inl rfl, trivial⟩⟩⟩⟩⟩⟩⟩⟩⟩⟩⟩⟩⟩⟩) ?_
      rintro _ H33 p32 ⟨a32, k32, rfl, ho32, hs33, _⟩ lg33 hlg33
      replace hs33 := HS.lg hs33 hs31 hlg33
      generalize ({ H33 with log := lg33 } : Heap) = H33g at hs33 ⊢
      have hs33 : HS _ _ _ [_, _, _, _, _, _, p32] _ := hs33
      refine wf_rs (id := .x (lp14_7.map Prod.fst)) (rs_app (α := (List Int)) (q := 2) lh14_7 hs33.log0 rfl rfl rfl (OS.sv ho32 hs33.log0 (i := 6) rfl) rfl rfl rfl rfl rfl rfl rfl (by first | omega | (simp only [List.length_append, List.length_cons, List.length_nil]; omega))) rfl rfl (by rintro _ _ p34 ⟨a34, k34, rfl, ho34, _, hwr⟩; exact did_x rfl rfl (Wr.did hwr)) (⟨.inl rfl, ⟨.inl rfl, ⟨.inl rfl, ⟨.inl rfl, ⟨.inl rfl, ⟨.inl rfl, ⟨.inl rfl, ⟨.inl rfl, ⟨.inl rfl, ⟨.inl rfl, ⟨.inl rfl, ⟨.inl rfl, ⟨.inl rfl, ⟨.inl rfl, ⟨.inl rfl, trivial⟩⟩⟩⟩⟩⟩⟩⟩⟩⟩⟩⟩⟩⟩⟩) ?_
      rintro _ H35 p34 ⟨a34, k34, rfl, ho34, hs35, _⟩ lg35 hlg35
      replace hs35 := HS.lg hs35 hs33 hlg35
      generalize ({ H35 with log := lg35 } : Heap) = H35g at hs35 ⊢
      have hs35 : HS _ _ _ [_, _, p34, _, _, _, _] _ := hs35
      refine fa (.slice a26 (xs ++ ([lstV (il10.getD k default)] : List (List Int))).length k26) rfl rfl rfl ?_
      refine fa (.slice a34 (ys ++ ([lstV (ol10.getD k default)] : List (List Int))).length k34) rfl rfl rfl ?_
      refine wf_nil ?_
      refine wk_foc 2 rfl ?_
      refine wr 1 [] 19 19 [38] [(19, (.int .i64 ((k : Int) + 1)))] (vA (vi (n := (k : Int) + 1) (by omega)) trivial) (by kernel_rfl) rfl fun gg36 => ?_
      refine ih14 _ _ _ ?_ ⟨xs ++ ([lstV (il10.getD k default)] : List (List Int)), ys ++ ([lstV (ol10.getD k default)] : List (List Int)), k + 1, a26, k26, p26, a34, k34, p34, _, (Fz.le_trans (Fz.le_trans (Fz.le_trans (Fz.le_trans (hF14) hF22) hF23) hF30) hF31), (HS.sub hs35 (List.sublist_append_left _ _)), ho26, ho34, (agC rfl (agC rfl (agC rfl (agC rfl (agC rfl (agC rfl (agC rfl (agC rfl agN)))))))), rfl, (by simp; omega), (by simp; omega), (by first | assumption | omega | (simp at *; omega)), (by exact lst_snoc e1 e4 (lst_of (an.hi k))), (by exact lst_snoc e2 e5 (lst_of (an.ho k (by omega))))⟩
      omega
    · have c18 := c18b
      try simp only [BS] at c18
      refine wr 1 [] 2 3 [39, 40] [(2, (.slice la14_6 xs.length lk14_6)), (3, (.slice la14_7 ys.length lk14_7))] trivial (by kernel_rfl) rfl fun gg37 => ?_
      obtain ⟨F38, hF38, hs38, hr38, hp38⟩ := OS.frz lh14_6 hs14 (i := 1) rfl
      have hs38 : HS _ _ _ [_, _, lp14_7] _ := hs38
      replace hT := hT.mono hF38
      replace hc_2 := hc_2.mono hF38
      replace hril10 := hril10.mono hF38
      replace hrol10 := hrol10.mono hF38
      replace lh14_6 := lh14_6.mono hF38
      replace lh14_7 := lh14_7.mono hF38
      obtain ⟨F39, hF39, hs39, hr39, hp39⟩ := OS.frz lh14_7 hs38 (i := 2) rfl
      have hs39 : HS _ _ _ [_, _, []] _ := hs39
      replace hT := hT.mono hF39
      replace hc_2 := hc_2.mono hF39
      replace hr38 := hr38.mono hF39
      replace hril10 := hril10.mono hF39
      replace hrol10 := hrol10.mono hF39
      replace lh14_7 := lh14_7.mono hF39
      refine wk_ret ⟨.inr rfl, _, rfl, la14_6, lk14_6, xs, la14_7, lk14_7, ys, _, (Fz.le_trans (Fz.le_trans (Fz.le_trans (Fz.le_trans (hF5) hF10) hF14) hF38) hF39), (HS.forget hs39), rfl, hr38, hr39, (by first | exact fun h => absurd (h.symm.trans hv) (by decide) | exact fun _ => ⟨by omega, by omega, fun b hb => e4 b (by omega), fun b hb => e5 b (by omega)⟩), (by first | exact fun _ => ⟨rfl, rfl⟩ | exact fun h => absurd (hv.symm.trans h) (by decide))⟩

-- STUCK fulling/liveness.AcrossCalls loop 0 lacks its assertion

/-
set_option maxHeartbeats 2000000 in
theorem across_c (ex : FuncId) {ac_2 : Option Addr} {kc_2 : Nat} (c : VFnT) {F : Fz} {H : Heap} {R : List Fp} (hs : HS (.of H []) F H [] R) (hc_0 : in64 c.params) (hc_1 : in64 c.regs) (hc_2 : SR F (.slice ac_2 c.blocks.length kc_2) c.blocks) (hT : TB 37 tabC F) (hins : ∀ j, (c.blocks.getD j default).ins.length ≤ 1073741824) : C Tryd.prog 1 (KT 60 ex 37 tabC) 23 [(.agg ⟨[(.int .i64 c.params), (.int .i64 c.regs), (.slice ac_2 c.blocks.length kc_2)]⟩)] H fun v H' => ∃ (ar : Option Addr) (kr : Nat) (r : List Int) (p : Fp) (F' : Fz), Fz.le F F' ∧ HS (.of H []) F' H' [p] R ∧ v = .slice ar r.length kr ∧ OS F' (.slice ar r.length kr) r p ∧ (valV c = true → Lst r (acS c)) ∧ (valV c = false → r = []) := by
  refine c_enter Tryd.func23 rfl rfl ?_
  refine wk_foc 1 rfl ?_
  refine wk_region ?_
  refine wo_rs (rs_box hs rfl rfl) rfl rfl ?_
  rintro _ H2 _ ⟨b1, rfl, hs2, _⟩
  have hs2 : HS _ _ _ [[(b1, .cells [(.int .i64 c.params), (.int .i64 c.regs), (.slice ac_2 c.blocks.length kc_2)] none false)]] _ := hs2
  refine wa (.slice none 0 0) rfl rfl rfl ?_
  refine wo_end 3 rfl ?_
  refine wk_region ?_
  refine wro 1 0 [(0, .o (.agg ⟨[(.int .i64 c.params), (.int .i64 c.regs), (.slice ac_2 c.blocks.length kc_2)]⟩))] 14 14 [] [(14, (.agg ⟨[(.int .i64 c.params), (.int .i64 c.regs), (.slice ac_2 c.blocks.length kc_2)]⟩))] (vA (qn 24 0 3 (HS.hc hs2 (i := 0) rfl) rfl rfl rfl rfl) trivial) (by kernel_rfl) rfl fun gg3 => ?_
  refine wo_call (ap_call rfl rfl rfl) rfl rfl (m3.valid_c ex c (HS.call hs2) (by first | (dsimp only; omega) | omega) (by first | (dsimp only; omega) | omega) hc_2 hT (by first | (dsimp only; omega) | omega)) ?_
  rintro _ H4 ⟨r4, F4, hF4, hs4, rfl, rfl⟩
  replace hs4 := HS.back hs2 rfl hs4
  have hs4 : HS _ _ _ [_] _ := hs4
  replace hT := hT.mono hF4
  replace hc_2 := hc_2.mono hF4
  refine wro 1 2 [] 16 16 [] [(16, (.bool (!(valV c))))] trivial (by kernel_rfl) rfl fun gg5 => ?_
  refine wo_end 1 rfl ?_
  refine wk_if 1 2 (v := (!(valV c))) rfl rfl rfl rfl (fun c6b => ?_) (fun c6b => ?_)
  · have c6 := c6b
    try simp only [BS] at c6
    refine wr 1 [] 2 2 [] [(2, (.slice none 0 0))] trivial (by kernel_rfl) rfl fun gg7 => ?_
    refine wk_ret ⟨.inr rfl, _, rfl, none, 0, ([] : List Int), [], _, (hF4), (HS.cons (HS.forget hs4)), rfl, (OS.nil : OS _ _ _ []), (by first | assumption | omega | simp_all), (by first | assumption | omega | simp_all)⟩
  · have c6 := c6b
    try simp only [BS] at c6
    refine wk_region ?_
    refine wro 1 0 [(0, .o (.agg ⟨[(.int .i64 c.params), (.int .i64 c.regs), (.slice ac_2 c.blocks.length kc_2)]⟩))] 18 18 [] [(18, (.agg ⟨[(.int .i64 c.params), (.int .i64 c.regs), (.slice ac_2 c.blocks.length kc_2)]⟩))] (vA (qn 24 0 3 (HS.hc hs4 (i := 0) rfl) rfl rfl rfl rfl) trivial) (by kernel_rfl) rfl fun gg8 => ?_
    refine wo_call (ap_call rfl rfl rfl) rfl rfl (mc.analyze_c ex c (HS.call hs4) (by first | (dsimp only; omega) | omega) (by first | (dsimp only; omega) | omega) hc_2 hT (by first | (dsimp only; omega) | omega) (by first | (dsimp only; omega) | omega)) ?_
    rintro _ H9 ⟨ail9, kil9, il9, aol9, kol9, ol9, F9, hF9, hs9, rfl, hril9, hrol9, h9⟩
    replace hs9 := HS.back hs4 rfl hs9
    have hs9 : HS _ _ _ [_] _ := hs9
    replace hT := hT.mono hF9
    replace hc_2 := hc_2.mono hF9
    refine wro 5 2 [] 20 21 [3, 4, 17] [(4, (.slice aol9 ol9.length kol9))] trivial (by kernel_rfl) rfl fun gg10 => ?_
    refine wo_end 2 rfl ?_
    refine wk_region ?_
    refine wro 2 0 [(1, .o (.int .i64 c.regs))] 22 23 [] [(23, (.int .i64 c.regs))] (vA (ql 3 1 (HS.hc hs9 (i := 0) rfl) rfl rfl) trivial) (by kernel_rfl) rfl fun gg11 => ?_
    refine wo_call (ap_call rfl rfl rfl) rfl rfl (mb.empty_c ex c.regs (HS.call hs9) (by first | (dsimp only; omega) | omega) hT (by first | (dsimp only; omega) | omega)) ?_
    rintro _ H12 ⟨ar12, kr12, r12, p12, F12, hF12, hs12, rfl, hrr12, rfl⟩
    replace hs12 := HS.back hs9 rfl hs12
    have hs12 : HS _ _ _ [_, p12] _ := hs12
    replace hT := hT.mono hF12
    replace hc_2 := hc_2.mono hF12
    replace hril9 := hril9.mono hF12
    replace hrol9 := hrol9.mono hF12
    refine wa (.slice ar12 (List.replicate (Int.tdiv (c.regs + 63) 64).toNat (⟨0⟩ : U64)).length kr12) rfl rfl rfl ?_
    refine wo_end 3 rfl ?_
    refine wr 2 [(1, .o (.slice ac_2 c.blocks.length kc_2))] 25 28 [] [(26, (.slice ac_2 c.blocks.length kc_2)), (27, (.int .i64 (c.blocks.length : Int))), (28, (.int .i64 0))] (vA (ql 22 2 (HS.hc hs12 (i := 0) rfl) rfl rfl) trivial) (by kernel_rfl) rfl fun gg13 => ?_
-/
end Go.Proofs.YtlabedbmgmfbaaaDoor.md
