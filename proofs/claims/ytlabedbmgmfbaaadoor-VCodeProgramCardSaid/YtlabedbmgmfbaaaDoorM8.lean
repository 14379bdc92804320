/-
  Which programs of virtual code are valid: the program and the reference, each by a symbolic run. No condition but bounds on lengths.
-/
import Derived.Test.YtlabedbmgmfbaaaDoorM7
noncomputable section
namespace Go.Proofs.YtlabedbmgmfbaaaDoor.m8
open Go.R
set_option maxRecDepth 10000
set_option linter.unusedVariables false
theorem ql {H : Heap} {b o : Nat} {cs : List Value} {w : Value} (t : TypeId) (i : Nat) (hc : HC H.get b o cs) (ha : aggOf Tryd.prog t = some false) (hv : cs[i]? = some w) : LDv Tryd.prog H t (.pointer (some ⟨b, o + i, none⟩)) w := ld1 hc ha hv
theorem qn {H : Heap} {b o : Nat} {cs l : List Value} (t : TypeId) (i n : Nat) (hc : HC H.get b o cs) (ha : aggOf Tryd.prog t = some true) (hs : szOf Tryd.prog t = some n) (hn : Nat.ble (i + n) cs.length = true) (hl : takeL (dropL cs i) n = l) : LDv Tryd.prog H t (.pointer (some ⟨b, o + i, none⟩)) (.agg ⟨l⟩) := ldN hc ha hs hn hl
open m1 m2 m3 m4 m5 m6 m7

set_option maxHeartbeats 2000000 in
theorem vprog_c (ex : FuncId) {a_l : Option Addr} {k_l : Nat} (l : List VFnT) {a_lens : Option Addr} {k_lens : Nat} (lens : List Int) {F : Fz} {H : Heap} {R : List Fp} (hs : HS (.of H []) F H [] R) (hl : SR F (.slice a_l l.length k_l) l) (hlens : SR F (.slice a_lens lens.length k_lens) lens) (hT : TB 37 tabC F) (hbd : lens.length ≤ 1073741824 ∧ ∀ k j, ((l.getD k default).blocks.getD j default).ins.length ≤ 1099511627776) : C Tryd.prog 1 (KT 60 ex 37 tabC) 41 [(.slice a_l l.length k_l), (.slice a_lens lens.length k_lens)] H fun v H' => ∃ (r : Bool) (F' : Fz), Fz.le F F' ∧ HS (.of H []) F' H' [] R ∧ v = .bool r ∧ r = vpV l lens := by
  refine c_enter Tryd.func41 rfl rfl ?_
  refine wk_foc 1 rfl ?_
  refine wr 3 [] 4 4 [] [(4, (.bool false))] trivial (by kernel_rfl) rfl fun gg1 => ?_
  refine wr 1 [] 13 25 [] [(25, (.bool (((decide ((l.length : Int) < 1)) || (decide ((8 : Int) < (l.length : Int)))) || (decide ((4 : Int) < (lens.length : Int))))))] trivial (by kernel_rfl) rfl fun gg2 => ?_
  refine wk_if 1 3 (v := (((decide ((l.length : Int) < 1)) || (decide ((8 : Int) < (l.length : Int)))) || (decide ((4 : Int) < (lens.length : Int))))) rfl rfl rfl rfl (fun c3b => ?_) (fun c3b => ?_)
  · have c3 := c3b
    try simp only [BS] at c3
    refine wr 1 [] 4 4 [] [(4, (.bool false))] trivial (by kernel_rfl) rfl fun gg4 => ?_
    refine wk_ret ⟨.inr rfl, _, rfl, false, _, (Fz.le_refl _), (HS.forget hs), rfl, (by first | exact vp_lim (by omega) | exact vp_len (all_not (k := q) (by omega) (decide_eq_false (show ¬ (1 ≤ lens.getD q 0 ∧ lens.getD q 0 ≤ 16) by omega))) | exact vp_f (all_not (k := k) (by omega) (vpF_no (show valV (l.getD k default) = false by assumption))) | exact vp_not (k := k) (b := b) (i := i) (by omega) (by omega) (by omega) (vpI_not (by omega)) | exact vp_yes (by omega) (upto_all hqa (by omega)) (upto_all hka (by omega)))⟩
  · have c3 := c3b
    try simp only [BS] at c3
    refine wr 2 [] 26 28 [] [(26, (.slice a_lens lens.length k_lens)), (27, (.int .i64 (lens.length : Int))), (28, (.int .i64 0))] trivial (by kernel_rfl) rfl fun gg5 => ?_
    refine wk_loop_inv (fun (mm : Nat) f H' => ∃ (q : Nat) (F' : Fz), Fz.le F F' ∧ HS (Base.of H []) F' H' [] R ∧ agrees f [(0, (.slice a_l l.length k_l)), (1, (.slice a_lens lens.length k_lens)), (26, (.slice a_lens lens.length k_lens)), (27, (.int .i64 (lens.length : Int))), (28, (.int .i64 (q : Int)))] ∧ mm = lens.length - q ∧ (q ≤ lens.length) ∧ (∀ j, j < q → lenOK (lens.getD j default) = true)) _ ⟨0, _, (Fz.le_refl _), hs, (agC rfl (agC rfl (agC rfl (agC rfl (agC rfl agN))))), rfl, (by first | assumption | omega | (simp at *; omega)), (by exact upto_zero)⟩ ?_
    rintro mm6 f6 H6 ⟨q, F6, hF6, hs6, hf6, rfl, hq, hqa⟩ ih6
    refine wk_canon _ hf6 (fun gg6 => ?_)
    clear hf6
    replace hT := hT.mono hF6
    replace hl := hl.mono hF6
    replace hlens := hlens.mono hF6
    refine wk_foc 1 rfl ?_
    refine wr 2 [] 29 29 [] [(29, (.bool (decide ((q : Int) < (lens.length : Int)))))] trivial (by kernel_rfl) rfl fun gg7 => ?_
    refine wk_if 4 6 (v := (decide ((q : Int) < (lens.length : Int)))) rfl rfl rfl rfl (fun c8b => ?_) (fun c8b => ?_)
    · have c8 := c8b
      try simp only [BS] at c8
      obtain ⟨cf9, hv9⟩ := Sv.view (SR.sv hlens hs6)
      have g10 := fI (hv9 q)
      refine wr 2 [(1, .o (.int .i64 (lens.getD q 0)))] 30 31 [6] [(6, (.int .i64 (lens.getD q 0)))] (vA (Sv.ix (j := (q : Int)) (SR.sv hlens hs6) (by omega) (by omega)) (vA (ql 3 0 (vI (hv9 q) (by omega)) rfl rfl) trivial)) (by kernel_rfl) rfl fun gg11 => ?_
      refine wr 1 [] 32 37 [] [(37, (.bool ((decide ((lens.getD q 0) < 1)) || (decide ((16 : Int) < (lens.getD q 0))))))] trivial (by kernel_rfl) rfl fun gg12 => ?_
      refine wk_if 1 2 (v := ((decide ((lens.getD q 0) < 1)) || (decide ((16 : Int) < (lens.getD q 0))))) rfl rfl rfl rfl (fun c13b => ?_) (fun c13b => ?_)
      · have c13 := c13b
        try simp only [BS] at c13
        refine wr 1 [] 4 4 [] [(4, (.bool false))] trivial (by kernel_rfl) rfl fun gg14 => ?_
        refine wk_ret ⟨.inr rfl, _, rfl, false, _, (hF6), (HS.forget hs6), rfl, (by first | exact vp_lim (by omega) | exact vp_len (all_not (k := q) (by omega) (decide_eq_false (show ¬ (1 ≤ lens.getD q 0 ∧ lens.getD q 0 ≤ 16) by omega))) | exact vp_f (all_not (k := k) (by omega) (vpF_no (show valV (l.getD k default) = false by assumption))) | exact vp_not (k := k) (b := b) (i := i) (by omega) (by omega) (by omega) (vpI_not (by omega)) | exact vp_yes (by omega) (upto_all hqa (by omega)) (upto_all hka (by omega)))⟩
      · have c13 := c13b
        try simp only [BS] at c13
        refine wr 1 [] 28 28 [38] [(28, (.int .i64 ((q : Int) + 1)))] (vA (vi (n := (q : Int) + 1) (by omega)) trivial) (by kernel_rfl) rfl fun gg15 => ?_
        refine ih6 _ _ _ ?_ ⟨q + 1, _, (hF6), hs6, (agC rfl (agC rfl (agC rfl (agC rfl (agC rfl agN))))), rfl, (by first | assumption | omega | (simp at *; omega)), (by exact upto_succ hqa (decide_eq_true (show 1 ≤ lens.getD q 0 ∧ lens.getD q 0 ≤ 16 by omega)))⟩
        omega
    · have c8 := c8b
      try simp only [BS] at c8
      refine wr 2 [] 39 41 [] [(39, (.slice a_l l.length k_l)), (40, (.int .i64 (l.length : Int))), (41, (.int .i64 0))] trivial (by kernel_rfl) rfl fun gg16 => ?_
      refine wk_loop_inv (fun (mm : Nat) f H' => ∃ (k : Nat) (F' : Fz), Fz.le F6 F' ∧ HS (Base.of H []) F' H' [] R ∧ agrees f [(0, (.slice a_l l.length k_l)), (1, (.slice a_lens lens.length k_lens)), (39, (.slice a_l l.length k_l)), (40, (.int .i64 (l.length : Int))), (41, (.int .i64 (k : Int)))] ∧ mm = l.length - k ∧ (k ≤ l.length) ∧ (∀ j, j < k → vpF l (lens.length : Int) (l.getD j default) = true)) _ ⟨0, _, (Fz.le_refl _), hs6, (agC rfl (agC rfl (agC rfl (agC rfl (agC rfl agN))))), rfl, (by first | assumption | omega | (simp at *; omega)), (by exact upto_zero)⟩ ?_
      rintro mm17 f17 H17 ⟨k, F17, hF17, hs17, hf17, rfl, hk, hka⟩ ih17
      refine wk_canon _ hf17 (fun gg17 => ?_)
      clear hf17
      replace hT := hT.mono hF17
      replace hl := hl.mono hF17
      replace hlens := hlens.mono hF17
      refine wk_foc 1 rfl ?_
      refine wr 2 [] 42 42 [] [(42, (.bool (decide ((k : Int) < (l.length : Int)))))] trivial (by kernel_rfl) rfl fun gg18 => ?_
      refine wk_if 4 5 (v := (decide ((k : Int) < (l.length : Int)))) rfl rfl rfl rfl (fun c19b => ?_) (fun c19b => ?_)
      · have c19 := c19b
        try simp only [BS] at c19
        refine wk_region ?_
        obtain ⟨cf20, hv20⟩ := Sv.view (SR.sv hl hs17)
        obtain ⟨g21_0, g21_1, s21_2⟩ := VFnT.fx (hv20 k)
        refine wro 2 0 [(1, .o (.agg ⟨[(.int .i64 ((l.getD k default).params)), (.int .i64 ((l.getD k default).regs)), (.slice (cA (cf20 k) 2) ((l.getD k default).blocks).length (cK (cf20 k) 2))]⟩))] 43 44 [] [(44, (.agg ⟨[(.int .i64 ((l.getD k default).params)), (.int .i64 ((l.getD k default).regs)), (.slice (cA (cf20 k) 2) ((l.getD k default).blocks).length (cK (cf20 k) 2))]⟩))] (vA (Sv.ix (j := (k : Int)) (SR.sv hl hs17) (by omega) (by omega)) (vA (qn 24 0 3 (VFnT.vw (hv20 k) (by omega)) rfl rfl rfl rfl) trivial)) (by kernel_rfl) rfl fun gg22 => ?_
        refine wo_rs (rs_new hs17 rfl) rfl rfl ?_
        rintro _ H24 _ ⟨b23, rfl, hs24, _⟩
        have hs24 : HS _ _ _ [[(b23, .cells [(.int .i64 0), (.int .i64 0), (.slice none 0 0)] none false)]] _ := hs24
        refine wo_rk (rs_rec (q := 0) hs24 rfl rfl rfl rfl rfl rfl rfl rfl rfl) rfl ?_
        rintro _ H25 _ ⟨hs25, _⟩
        have hs25 : HS _ _ _ [[(b23, .cells [(.int .i64 ((l.getD k default).params)), (.int .i64 ((l.getD k default).regs)), (.slice (cA (cf20 k) 2) ((l.getD k default).blocks).length (cK (cf20 k) 2))] none false)]] _ := hs25
        refine wo_end 3 rfl ?_
        refine wk_region ?_
        refine wro 1 0 [(0, .o (.agg ⟨[(.int .i64 ((l.getD k default).params)), (.int .i64 ((l.getD k default).regs)), (.slice (cA (cf20 k) 2) ((l.getD k default).blocks).length (cK (cf20 k) 2))]⟩))] 45 45 [] [(45, (.agg ⟨[(.int .i64 ((l.getD k default).params)), (.int .i64 ((l.getD k default).regs)), (.slice (cA (cf20 k) 2) ((l.getD k default).blocks).length (cK (cf20 k) 2))]⟩))] (vA (qn 24 0 3 (HS.hc hs25 (i := 0) rfl) rfl rfl rfl rfl) trivial) (by kernel_rfl) rfl fun gg26 => ?_
        refine wo_call (ap_call rfl rfl rfl) rfl rfl (m3.valid_c ex (⟨(l.getD k default).params, (l.getD k default).regs, (l.getD k default).blocks⟩ : VFnT) (HS.call hs25) (by omega) (by omega) s21_2 hT (by exact fun j => hbd.2 k j)) ?_
        rintro _ H27 ⟨r27, F27, hF27, hs27, rfl, rfl⟩
        replace hs27 := HS.back hs25 rfl hs27
        have hs27 : HS _ _ _ [_] _ := hs27
        replace hT := hT.mono hF27
        replace hl := hl.mono hF27
        replace hlens := hlens.mono hF27
        replace s21_2 := s21_2.mono hF27
        refine wro 1 2 [] 47 47 [] [(47, (.bool (!(valV (⟨(l.getD k default).params, (l.getD k default).regs, (l.getD k default).blocks⟩ : VFnT)))))] trivial (by kernel_rfl) rfl fun gg28 => ?_
        refine wo_end 1 rfl ?_
        refine wk_if 1 2 (v := (!(valV (⟨(l.getD k default).params, (l.getD k default).regs, (l.getD k default).blocks⟩ : VFnT)))) rfl rfl rfl rfl (fun c29b => ?_) (fun c29b => ?_)
        · have c29 := c29b
          try simp only [BS] at c29
          refine wr 1 [] 4 4 [] [(4, (.bool false))] trivial (by kernel_rfl) rfl fun gg30 => ?_
          refine wk_ret ⟨.inr rfl, _, rfl, false, _, (Fz.le_trans (Fz.le_trans (hF6) hF17) hF27), (HS.forget hs27), rfl, (by first | exact vp_lim (by omega) | exact vp_len (all_not (k := q) (by omega) (decide_eq_false (show ¬ (1 ≤ lens.getD q 0 ∧ lens.getD q 0 ≤ 16) by omega))) | exact vp_f (all_not (k := k) (by omega) (vpF_no (show valV (l.getD k default) = false by assumption))) | exact vp_not (k := k) (b := b) (i := i) (by omega) (by omega) (by omega) (vpI_not (by omega)) | exact vp_yes (by omega) (upto_all hqa (by omega)) (upto_all hka (by omega)))⟩
        · have c29 := c29b
          try simp only [BS] at c29
          have hval : valV (l.getD k default) = true := c29
          have hvb := val_bd hval
          refine wr 2 [(1, .o (.slice (cA (cf20 k) 2) ((l.getD k default).blocks).length (cK (cf20 k) 2)))] 48 51 [] [(49, (.slice (cA (cf20 k) 2) ((l.getD k default).blocks).length (cK (cf20 k) 2))), (50, (.int .i64 (((l.getD k default).blocks).length : Int))), (51, (.int .i64 0))] (vA (ql 22 2 (HS.hc hs27 (i := 0) rfl) rfl rfl) trivial) (by kernel_rfl) rfl fun gg31 => ?_
          refine wk_loop_inv (fun (mm : Nat) f H' => ∃ (b : Nat) (F' : Fz), Fz.le F27 F' ∧ HS (Base.of H []) F' H' [[(b23, .cells [(.int .i64 ((l.getD k default).params)), (.int .i64 ((l.getD k default).regs)), (.slice (cA (cf20 k) 2) ((l.getD k default).blocks).length (cK (cf20 k) 2))] none false)]] R ∧ agrees f [(0, (.slice a_l l.length k_l)), (1, (.slice a_lens lens.length k_lens)), (8, (.pointer (some ⟨b23, 0, none⟩))), (39, (.slice a_l l.length k_l)), (40, (.int .i64 (l.length : Int))), (41, (.int .i64 (k : Int))), (42, (.bool (decide ((k : Int) < (l.length : Int))))), (44, (.agg ⟨[(.int .i64 ((l.getD k default).params)), (.int .i64 ((l.getD k default).regs)), (.slice (cA (cf20 k) 2) ((l.getD k default).blocks).length (cK (cf20 k) 2))]⟩)), (45, (.agg ⟨[(.int .i64 ((l.getD k default).params)), (.int .i64 ((l.getD k default).regs)), (.slice (cA (cf20 k) 2) ((l.getD k default).blocks).length (cK (cf20 k) 2))]⟩)), (46, (.bool (valV (⟨(l.getD k default).params, (l.getD k default).regs, (l.getD k default).blocks⟩ : VFnT)))), (47, (.bool (!(valV (⟨(l.getD k default).params, (l.getD k default).regs, (l.getD k default).blocks⟩ : VFnT))))), (49, (.slice (cA (cf20 k) 2) ((l.getD k default).blocks).length (cK (cf20 k) 2))), (50, (.int .i64 (((l.getD k default).blocks).length : Int))), (51, (.int .i64 (b : Int)))] ∧ mm = (l.getD k default).blocks.length - b ∧ (b ≤ (l.getD k default).blocks.length) ∧ (∀ j, j < b → vpB l (lens.length : Int) ((l.getD k default).blocks.getD j default) = true)) _ ⟨0, _, (Fz.le_refl _), hs27, (agC rfl (agC rfl (agC rfl (agC rfl (agC rfl (agC rfl (agC rfl (agC rfl (agC rfl (agC rfl (agC rfl (agC rfl (agC rfl (agC rfl agN)))))))))))))), rfl, (by first | assumption | omega | (simp at *; omega)), (by exact upto_zero)⟩ ?_
          rintro mm32 f32 H32 ⟨b, F32, hF32, hs32, hf32, rfl, hb, hba⟩ ih32
          refine wk_canon _ hf32 (fun gg32 => ?_)
          clear hf32
          replace hT := hT.mono hF32
          replace hl := hl.mono hF32
          replace hlens := hlens.mono hF32
          replace s21_2 := s21_2.mono hF32
          have hbk := hbd.2 k b
          refine wk_foc 1 rfl ?_
          refine wr 2 [] 52 52 [] [(52, (.bool (decide ((b : Int) < (((l.getD k default).blocks).length : Int)))))] trivial (by kernel_rfl) rfl fun gg33 => ?_
          refine wk_if 4 5 (v := (decide ((b : Int) < (((l.getD k default).blocks).length : Int)))) rfl rfl rfl rfl (fun c34b => ?_) (fun c34b => ?_)
          · have c34 := c34b
            try simp only [BS] at c34
            refine wk_region ?_
            obtain ⟨cf35, hv35⟩ := Sv.view (SR.sv s21_2 hs32)
            obtain ⟨g36_1, g36_2, g36_3, g36_4, s36_0⟩ := BlkT.fx (hv35 b)
            refine wro 2 0 [(1, .o (.agg ⟨[(.slice (cA (cf35 b) 0) ((((l.getD k default).blocks).getD b default).ins).length (cK (cf35 b) 0)), (.int .i64 ((((l.getD k default).blocks).getD b default).fin)), (.int .i64 ((((l.getD k default).blocks).getD b default).reg)), (.int .i64 ((((l.getD k default).blocks).getD b default).tgt)), (.int .i64 ((((l.getD k default).blocks).getD b default).els))]⟩))] 53 54 [] [(54, (.agg ⟨[(.slice (cA (cf35 b) 0) ((((l.getD k default).blocks).getD b default).ins).length (cK (cf35 b) 0)), (.int .i64 ((((l.getD k default).blocks).getD b default).fin)), (.int .i64 ((((l.getD k default).blocks).getD b default).reg)), (.int .i64 ((((l.getD k default).blocks).getD b default).tgt)), (.int .i64 ((((l.getD k default).blocks).getD b default).els))]⟩))] (vA (Sv.ix (j := (b : Int)) (SR.sv s21_2 hs32) (by omega) (by omega)) (vA (qn 42 0 5 (BlkT.vw (hv35 b) (by omega)) rfl rfl rfl rfl) trivial)) (by kernel_rfl) rfl fun gg37 => ?_
            refine wo_rs (rs_new hs32 rfl) rfl rfl ?_
            rintro _ H39 _ ⟨b38, rfl, hs39, _⟩
            have hs39 : HS _ _ _ [_, [(b38, .cells [(.slice none 0 0), (.int .i64 0), (.int .i64 0), (.int .i64 0), (.int .i64 0)] none false)]] _ := hs39
            refine wo_rk (rs_rec (q := 1) hs39 rfl rfl rfl rfl rfl rfl rfl rfl rfl) rfl ?_
            rintro _ H40 _ ⟨hs40, _⟩
            have hs40 : HS _ _ _ [_, [(b38, .cells [(.slice (cA (cf35 b) 0) ((((l.getD k default).blocks).getD b default).ins).length (cK (cf35 b) 0)), (.int .i64 ((((l.getD k default).blocks).getD b default).fin)), (.int .i64 ((((l.getD k default).blocks).getD b default).reg)), (.int .i64 ((((l.getD k default).blocks).getD b default).tgt)), (.int .i64 ((((l.getD k default).blocks).getD b default).els))] none false)]] _ := hs40
            refine wo_end 2 rfl ?_
            refine wr 2 [(1, .o (.slice (cA (cf35 b) 0) ((((l.getD k default).blocks).getD b default).ins).length (cK (cf35 b) 0)))] 55 58 [] [(56, (.slice (cA (cf35 b) 0) ((((l.getD k default).blocks).getD b default).ins).length (cK (cf35 b) 0))), (57, (.int .i64 (((((l.getD k default).blocks).getD b default).ins).length : Int))), (58, (.int .i64 0))] (vA (ql 40 0 (HS.hc hs40 (i := 1) rfl) rfl rfl) trivial) (by kernel_rfl) rfl fun gg41 => ?_
            refine wk_loop_inv (fun (mm : Nat) f H' => ∃ (i : Nat) (F' : Fz), Fz.le F32 F' ∧ HS (Base.of H []) F' H' [[(b23, .cells [(.int .i64 ((l.getD k default).params)), (.int .i64 ((l.getD k default).regs)), (.slice (cA (cf20 k) 2) ((l.getD k default).blocks).length (cK (cf20 k) 2))] none false)], [(b38, .cells [(.slice (cA (cf35 b) 0) ((((l.getD k default).blocks).getD b default).ins).length (cK (cf35 b) 0)), (.int .i64 ((((l.getD k default).blocks).getD b default).fin)), (.int .i64 ((((l.getD k default).blocks).getD b default).reg)), (.int .i64 ((((l.getD k default).blocks).getD b default).tgt)), (.int .i64 ((((l.getD k default).blocks).getD b default).els))] none false)]] R ∧ agrees f [(0, (.slice a_l l.length k_l)), (1, (.slice a_lens lens.length k_lens)), (8, (.pointer (some ⟨b23, 0, none⟩))), (10, (.pointer (some ⟨b38, 0, none⟩))), (39, (.slice a_l l.length k_l)), (40, (.int .i64 (l.length : Int))), (41, (.int .i64 (k : Int))), (42, (.bool (decide ((k : Int) < (l.length : Int))))), (44, (.agg ⟨[(.int .i64 ((l.getD k default).params)), (.int .i64 ((l.getD k default).regs)), (.slice (cA (cf20 k) 2) ((l.getD k default).blocks).length (cK (cf20 k) 2))]⟩)), (45, (.agg ⟨[(.int .i64 ((l.getD k default).params)), (.int .i64 ((l.getD k default).regs)), (.slice (cA (cf20 k) 2) ((l.getD k default).blocks).length (cK (cf20 k) 2))]⟩)), (46, (.bool (valV (⟨(l.getD k default).params, (l.getD k default).regs, (l.getD k default).blocks⟩ : VFnT)))), (47, (.bool (!(valV (⟨(l.getD k default).params, (l.getD k default).regs, (l.getD k default).blocks⟩ : VFnT))))), (49, (.slice (cA (cf20 k) 2) ((l.getD k default).blocks).length (cK (cf20 k) 2))), (50, (.int .i64 (((l.getD k default).blocks).length : Int))), (51, (.int .i64 (b : Int))), (52, (.bool (decide ((b : Int) < (((l.getD k default).blocks).length : Int))))), (54, (.agg ⟨[(.slice (cA (cf35 b) 0) ((((l.getD k default).blocks).getD b default).ins).length (cK (cf35 b) 0)), (.int .i64 ((((l.getD k default).blocks).getD b default).fin)), (.int .i64 ((((l.getD k default).blocks).getD b default).reg)), (.int .i64 ((((l.getD k default).blocks).getD b default).tgt)), (.int .i64 ((((l.getD k default).blocks).getD b default).els))]⟩)), (56, (.slice (cA (cf35 b) 0) ((((l.getD k default).blocks).getD b default).ins).length (cK (cf35 b) 0))), (57, (.int .i64 (((((l.getD k default).blocks).getD b default).ins).length : Int))), (58, (.int .i64 (i : Int)))] ∧ mm = ((l.getD k default).blocks.getD b default).ins.length - i ∧ (i ≤ ((l.getD k default).blocks.getD b default).ins.length) ∧ (∀ j, j < i → vpI l (lens.length : Int) (((l.getD k default).blocks.getD b default).ins.getD j default) = true)) _ ⟨0, _, (Fz.le_refl _), hs40, (agC rfl (agC rfl (agC rfl (agC rfl (agC rfl (agC rfl (agC rfl (agC rfl (agC rfl (agC rfl (agC rfl (agC rfl (agC rfl (agC rfl (agC rfl (agC rfl (agC rfl (agC rfl (agC rfl (agC rfl agN)))))))))))))))))))), rfl, (by first | assumption | omega | (simp at *; omega)), (by exact upto_zero)⟩ ?_
            rintro mm42 f42 H42 ⟨i, F42, hF42, hs42, hf42, rfl, hi, hia⟩ ih42
            refine wk_canon _ hf42 (fun gg42 => ?_)
            clear hf42
            replace hT := hT.mono hF42
            replace hl := hl.mono hF42
            replace hlens := hlens.mono hF42
            replace s21_2 := s21_2.mono hF42
            replace s36_0 := s36_0.mono hF42
            have hnn : i < ((l.getD k default).blocks.getD b default).ins.length → ((((l.getD k default).blocks.getD b default).ins.getD i default).i.op = 6 ∨ (((l.getD k default).blocks.getD b default).ins.getD i default).i.op = 34 ∨ (((l.getD k default).blocks.getD b default).ins.getD i default).i.op = 35) → 0 ≤ (((l.getD k default).blocks.getD b default).ins.getD i default).i.n := fun q1 q2 => val_nn hval (by omega) q1 q2
            refine wk_foc 1 rfl ?_
            refine wr 2 [] 59 59 [] [(59, (.bool (decide ((i : Int) < (((((l.getD k default).blocks).getD b default).ins).length : Int)))))] trivial (by kernel_rfl) rfl fun gg43 => ?_
            refine wk_if 4 5 (v := (decide ((i : Int) < (((((l.getD k default).blocks).getD b default).ins).length : Int)))) rfl rfl rfl rfl (fun c44b => ?_) (fun c44b => ?_)
            · have c44 := c44b
              try simp only [BS] at c44
              refine wk_region ?_
              obtain ⟨cf45, hv45⟩ := Sv.view (SR.sv s36_0 hs42)
              obtain ⟨g46_0, g46_1, g46_2, g46_3, g46_4, s46_5⟩ := VInT.fx (hv45 i)
              refine wro 2 0 [(1, .o (.agg ⟨[(.int .i64 ((((((l.getD k default).blocks).getD b default).ins).getD i default).i.op)), (.int .i64 ((((((l.getD k default).blocks).getD b default).ins).getD i default).i.a)), (.int .i64 ((((((l.getD k default).blocks).getD b default).ins).getD i default).i.b)), (.int .i64 ((((((l.getD k default).blocks).getD b default).ins).getD i default).i.c)), (.int .i64 ((((((l.getD k default).blocks).getD b default).ins).getD i default).i.n)), (.slice (cA (cf45 i) 5) ((((((l.getD k default).blocks).getD b default).ins).getD i default).args).length (cK (cf45 i) 5))]⟩))] 60 61 [] [(61, (.agg ⟨[(.int .i64 ((((((l.getD k default).blocks).getD b default).ins).getD i default).i.op)), (.int .i64 ((((((l.getD k default).blocks).getD b default).ins).getD i default).i.a)), (.int .i64 ((((((l.getD k default).blocks).getD b default).ins).getD i default).i.b)), (.int .i64 ((((((l.getD k default).blocks).getD b default).ins).getD i default).i.c)), (.int .i64 ((((((l.getD k default).blocks).getD b default).ins).getD i default).i.n)), (.slice (cA (cf45 i) 5) ((((((l.getD k default).blocks).getD b default).ins).getD i default).args).length (cK (cf45 i) 5))]⟩))] (vA (Sv.ix (j := (i : Int)) (SR.sv s36_0 hs42) (by omega) (by omega)) (vA (qn 47 0 6 (VInT.vw (hv45 i) (by omega)) rfl rfl rfl rfl) trivial)) (by kernel_rfl) rfl fun gg47 => ?_
              refine wo_rs (rs_new hs42 rfl) rfl rfl ?_
              rintro _ H49 _ ⟨b48, rfl, hs49, _⟩
              have hs49 : HS _ _ _ [_, _, [(b48, .cells [(.int .i64 0), (.int .i64 0), (.int .i64 0), (.int .i64 0), (.int .i64 0), (.slice none 0 0)] none false)]] _ := hs49
              refine wo_rk (rs_rec (q := 2) hs49 rfl rfl rfl rfl rfl rfl rfl rfl rfl) rfl ?_
              rintro _ H50 _ ⟨hs50, _⟩
              have hs50 : HS _ _ _ [_, _, [(b48, .cells [(.int .i64 ((((((l.getD k default).blocks).getD b default).ins).getD i default).i.op)), (.int .i64 ((((((l.getD k default).blocks).getD b default).ins).getD i default).i.a)), (.int .i64 ((((((l.getD k default).blocks).getD b default).ins).getD i default).i.b)), (.int .i64 ((((((l.getD k default).blocks).getD b default).ins).getD i default).i.c)), (.int .i64 ((((((l.getD k default).blocks).getD b default).ins).getD i default).i.n)), (.slice (cA (cf45 i) 5) ((((((l.getD k default).blocks).getD b default).ins).getD i default).args).length (cK (cf45 i) 5))] none false)]] _ := hs50
              refine wo_end 2 rfl ?_
              refine wr 3 [(2, .o (.int .i64 ((((((l.getD k default).blocks).getD b default).ins).getD i default).i.op)))] 62 64 [] [(64, (.int .i64 ((((((l.getD k default).blocks).getD b default).ins).getD i default).i.op)))] (vA (ql 3 0 (HS.hc hs50 (i := 2) rfl) rfl rfl) trivial) (by kernel_rfl) rfl fun gg51 => ?_
              refine wr 1 [] 65 66 [] [(65, (.bool ((((((l.getD k default).blocks).getD b default).ins).getD i default).i.op == 6)))] trivial (by kernel_rfl) rfl fun gg52 => ?_
              refine wk_if 1 2 (v := ((((((l.getD k default).blocks).getD b default).ins).getD i default).i.op == 6)) rfl rfl rfl rfl (fun c53b => ?_) (fun c53b => ?_)
              · have c53 := c53b
                try simp only [BS] at c53
                obtain ⟨cf54, hv54⟩ := Sv.view (SR.sv hl hs50)
                obtain ⟨g55_0, g55_1, s55_2⟩ := VFnT.fx (hv54 (((((((l.getD k default).blocks).getD b default).ins).getD i default).i.n).toNat))
                refine wrD 1 [(2, .o (.int .i64 ((((((l.getD k default).blocks).getD b default).ins).getD i default).i.n))), (8, .o (.slice (cA (cf45 i) 5) ((((((l.getD k default).blocks).getD b default).ins).getD i default).args).length (cK (cf45 i) 5))), (13, .o (.int .i64 ((((((l.getD k default).blocks).getD b default).ins).getD i default).i.n))), (16, .o (.int .i64 ((l.getD (((((((l.getD k default).blocks).getD b default).ins).getD i default).i.n).toNat) default).params)))] 67 85 [] [(85, (.bool ((decide ((l.length : Int) ≤ (((((l.getD k default).blocks).getD b default).ins).getD i default).i.n)) || ((((((((l.getD k default).blocks).getD b default).ins).getD i default).args).length : Int) != (l.getD (((((((l.getD k default).blocks).getD b default).ins).getD i default).i.n).toNat) default).params))))] (vA (ql 2 4 (hc0 (HS.hc hs50 (i := 2) rfl)) rfl rfl) (vA (fun (g1 : (decide ((l.length : Int) ≤ (((((l.getD k default).blocks).getD b default).ins).getD i default).i.n)) = false) => (ql 25 5 (hc0 (HS.hc hs50 (i := 2) rfl)) rfl rfl)) (vA (fun (g1 : (decide ((l.length : Int) ≤ (((((l.getD k default).blocks).getD b default).ins).getD i default).i.n)) = false) => (ql 2 4 (hc0 (HS.hc hs50 (i := 2) rfl)) rfl rfl)) (vA (fun (g1 : (decide ((l.length : Int) ≤ (((((l.getD k default).blocks).getD b default).ins).getD i default).i.n)) = false) => (Sv.ix (j := (((((l.getD k default).blocks).getD b default).ins).getD i default).i.n) (SR.sv hl hs50) (by (try simp only [BS] at g1); omega) (by (try simp only [BS] at g1); omega))) (vA (fun (g1 : (decide ((l.length : Int) ≤ (((((l.getD k default).blocks).getD b default).ins).getD i default).i.n)) = false) => (ql 3 0 (hc0 (VFnT.vw (hv54 (((((((l.getD k default).blocks).getD b default).ins).getD i default).i.n).toNat)) (by (try simp only [BS] at g1); omega))) rfl rfl)) trivial))))) rfl (by kernel_rfl) rfl fun gg56 => ?_
                refine wk_if 1 3 (v := ((decide ((l.length : Int) ≤ (((((l.getD k default).blocks).getD b default).ins).getD i default).i.n)) || ((((((((l.getD k default).blocks).getD b default).ins).getD i default).args).length : Int) != (l.getD (((((((l.getD k default).blocks).getD b default).ins).getD i default).i.n).toNat) default).params))) rfl rfl rfl rfl (fun c57b => ?_) (fun c57b => ?_)
                · have c57 := c57b
                  try simp only [BS] at c57
                  refine wr 1 [] 4 4 [] [(4, (.bool false))] trivial (by kernel_rfl) rfl fun gg58 => ?_
                  refine wk_ret ⟨.inr rfl, _, rfl, false, _, (Fz.le_trans (Fz.le_trans (Fz.le_trans (Fz.le_trans (hF6) hF17) hF27) hF32) hF42), (HS.forget hs50), rfl, (by first | exact vp_lim (by omega) | exact vp_len (all_not (k := q) (by omega) (decide_eq_false (show ¬ (1 ≤ lens.getD q 0 ∧ lens.getD q 0 ≤ 16) by omega))) | exact vp_f (all_not (k := k) (by omega) (vpF_no (show valV (l.getD k default) = false by assumption))) | exact vp_not (k := k) (b := b) (i := i) (by omega) (by omega) (by omega) (vpI_not (by omega)) | exact vp_yes (by omega) (upto_all hqa (by omega)) (upto_all hka (by omega)))⟩
                · have c57 := c57b
                  try simp only [BS] at c57
                  refine wr 1 [] 58 58 [95] [(58, (.int .i64 ((i : Int) + 1)))] (vA (vi (n := (i : Int) + 1) (by omega)) trivial) (by kernel_rfl) rfl fun gg59 => ?_
                  refine ih42 _ _ _ ?_ ⟨i + 1, _, (hF42), (HS.sub hs50 (List.sublist_append_left _ _)), (agC rfl (agC rfl (agC rfl (agC rfl (agC rfl (agC rfl (agC rfl (agC rfl (agC rfl (agC rfl (agC rfl (agC rfl (agC rfl (agC rfl (agC rfl (agC rfl (agC rfl (agC rfl (agC rfl (agC rfl agN)))))))))))))))))))), rfl, (by first | assumption | omega | (simp at *; omega)), (by exact upto_succ hia (vpI_iff.2 ⟨by omega, by omega⟩))⟩
                  omega
              · have c53 := c53b
                try simp only [BS] at c53
                refine wr 1 [] 86 87 [] [(86, (.bool ((((((l.getD k default).blocks).getD b default).ins).getD i default).i.op == 34)))] trivial (by kernel_rfl) rfl fun gg60 => ?_
                refine wk_if 1 0 (v := ((((((l.getD k default).blocks).getD b default).ins).getD i default).i.op == 34)) rfl rfl rfl rfl (fun c61b => ?_) (fun c61b => ?_)
                · have c61 := c61b
                  try simp only [BS] at c61
                  refine wk_ift 1 (v := ((((((l.getD k default).blocks).getD b default).ins).getD i default).i.op == 34)) rfl c61b rfl rfl ?_
                  refine wr 1 [(2, .o (.int .i64 ((((((l.getD k default).blocks).getD b default).ins).getD i default).i.n)))] 89 94 [] [(94, (.bool (decide ((lens.length : Int) ≤ (((((l.getD k default).blocks).getD b default).ins).getD i default).i.n))))] (vA (ql 2 4 (HS.hc hs50 (i := 2) rfl) rfl rfl) trivial) (by kernel_rfl) rfl fun gg62 => ?_
                  refine wk_if 1 3 (v := (decide ((lens.length : Int) ≤ (((((l.getD k default).blocks).getD b default).ins).getD i default).i.n))) rfl rfl rfl rfl (fun c63b => ?_) (fun c63b => ?_)
                  · have c63 := c63b
                    try simp only [BS] at c63
                    refine wr 1 [] 4 4 [] [(4, (.bool false))] trivial (by kernel_rfl) rfl fun gg64 => ?_
                    refine wk_ret ⟨.inr rfl, _, rfl, false, _, (Fz.le_trans (Fz.le_trans (Fz.le_trans (Fz.le_trans (hF6) hF17) hF27) hF32) hF42), (HS.forget hs50), rfl, (by first | exact vp_lim (by omega) | exact vp_len (all_not (k := q) (by omega) (decide_eq_false (show ¬ (1 ≤ lens.getD q 0 ∧ lens.getD q 0 ≤ 16) by omega))) | exact vp_f (all_not (k := k) (by omega) (vpF_no (show valV (l.getD k default) = false by assumption))) | exact vp_not (k := k) (b := b) (i := i) (by omega) (by omega) (by omega) (vpI_not (by omega)) | exact vp_yes (by omega) (upto_all hqa (by omega)) (upto_all hka (by omega)))⟩
                  · have c63 := c63b
                    try simp only [BS] at c63
                    refine wr 1 [] 58 58 [95] [(58, (.int .i64 ((i : Int) + 1)))] (vA (vi (n := (i : Int) + 1) (by omega)) trivial) (by kernel_rfl) rfl fun gg65 => ?_
                    refine ih42 _ _ _ ?_ ⟨i + 1, _, (hF42), (HS.sub hs50 (List.sublist_append_left _ _)), (agC rfl (agC rfl (agC rfl (agC rfl (agC rfl (agC rfl (agC rfl (agC rfl (agC rfl (agC rfl (agC rfl (agC rfl (agC rfl (agC rfl (agC rfl (agC rfl (agC rfl (agC rfl (agC rfl (agC rfl agN)))))))))))))))))))), rfl, (by first | assumption | omega | (simp at *; omega)), (by exact upto_succ hia (vpI_iff.2 ⟨by omega, by omega⟩))⟩
                    omega
                · have c61 := c61b
                  try simp only [BS] at c61
                  refine wr 1 [] 86 88 [] [(86, (.bool ((((((l.getD k default).blocks).getD b default).ins).getD i default).i.op == 35)))] trivial (by kernel_rfl) rfl fun gg66 => ?_
                  refine wk_if 1 3 (v := ((((((l.getD k default).blocks).getD b default).ins).getD i default).i.op == 35)) rfl rfl rfl rfl (fun c67b => ?_) (fun c67b => ?_)
                  · have c67 := c67b
                    try simp only [BS] at c67
                    refine wr 1 [(2, .o (.int .i64 ((((((l.getD k default).blocks).getD b default).ins).getD i default).i.n)))] 89 94 [] [(94, (.bool (decide ((lens.length : Int) ≤ (((((l.getD k default).blocks).getD b default).ins).getD i default).i.n))))] (vA (ql 2 4 (HS.hc hs50 (i := 2) rfl) rfl rfl) trivial) (by kernel_rfl) rfl fun gg68 => ?_
                    refine wk_if 1 3 (v := (decide ((lens.length : Int) ≤ (((((l.getD k default).blocks).getD b default).ins).getD i default).i.n))) rfl rfl rfl rfl (fun c69b => ?_) (fun c69b => ?_)
                    · have c69 := c69b
                      try simp only [BS] at c69
                      refine wr 1 [] 4 4 [] [(4, (.bool false))] trivial (by kernel_rfl) rfl fun gg70 => ?_
                      refine wk_ret ⟨.inr rfl, _, rfl, false, _, (Fz.le_trans (Fz.le_trans (Fz.le_trans (Fz.le_trans (hF6) hF17) hF27) hF32) hF42), (HS.forget hs50), rfl, (by first | exact vp_lim (by omega) | exact vp_len (all_not (k := q) (by omega) (decide_eq_false (show ¬ (1 ≤ lens.getD q 0 ∧ lens.getD q 0 ≤ 16) by omega))) | exact vp_f (all_not (k := k) (by omega) (vpF_no (show valV (l.getD k default) = false by assumption))) | exact vp_not (k := k) (b := b) (i := i) (by omega) (by omega) (by omega) (vpI_not (by omega)) | exact vp_yes (by omega) (upto_all hqa (by omega)) (upto_all hka (by omega)))⟩
                    · have c69 := c69b
                      try simp only [BS] at c69
                      refine wr 1 [] 58 58 [95] [(58, (.int .i64 ((i : Int) + 1)))] (vA (vi (n := (i : Int) + 1) (by omega)) trivial) (by kernel_rfl) rfl fun gg71 => ?_
                      refine ih42 _ _ _ ?_ ⟨i + 1, _, (hF42), (HS.sub hs50 (List.sublist_append_left _ _)), (agC rfl (agC rfl (agC rfl (agC rfl (agC rfl (agC rfl (agC rfl (agC rfl (agC rfl (agC rfl (agC rfl (agC rfl (agC rfl (agC rfl (agC rfl (agC rfl (agC rfl (agC rfl (agC rfl (agC rfl agN)))))))))))))))))))), rfl, (by first | assumption | omega | (simp at *; omega)), (by exact upto_succ hia (vpI_iff.2 ⟨by omega, by omega⟩))⟩
                      omega
                  · have c67 := c67b
                    try simp only [BS] at c67
                    refine wr 1 [] 58 58 [95] [(58, (.int .i64 ((i : Int) + 1)))] (vA (vi (n := (i : Int) + 1) (by omega)) trivial) (by kernel_rfl) rfl fun gg72 => ?_
                    refine ih42 _ _ _ ?_ ⟨i + 1, _, (hF42), (HS.sub hs50 (List.sublist_append_left _ _)), (agC rfl (agC rfl (agC rfl (agC rfl (agC rfl (agC rfl (agC rfl (agC rfl (agC rfl (agC rfl (agC rfl (agC rfl (agC rfl (agC rfl (agC rfl (agC rfl (agC rfl (agC rfl (agC rfl (agC rfl agN)))))))))))))))))))), rfl, (by first | assumption | omega | (simp at *; omega)), (by exact upto_succ hia (vpI_iff.2 ⟨by omega, by omega⟩))⟩
                    omega
            · have c44 := c44b
              try simp only [BS] at c44
              refine wr 1 [] 51 51 [96] [(51, (.int .i64 ((b : Int) + 1)))] (vA (vi (n := (b : Int) + 1) (by omega)) trivial) (by kernel_rfl) rfl fun gg73 => ?_
              refine ih32 _ _ _ ?_ ⟨b + 1, _, (Fz.le_trans (hF32) hF42), (HS.sub hs42 (List.sublist_append_left _ _)), (agC rfl (agC rfl (agC rfl (agC rfl (agC rfl (agC rfl (agC rfl (agC rfl (agC rfl (agC rfl (agC rfl (agC rfl (agC rfl (agC rfl agN)))))))))))))), rfl, (by first | assumption | omega | (simp at *; omega)), (by exact upto_succ hba (upto_all hia (by omega)))⟩
              omega
          · have c34 := c34b
            try simp only [BS] at c34
            refine wr 1 [] 41 41 [97] [(41, (.int .i64 ((k : Int) + 1)))] (vA (vi (n := (k : Int) + 1) (by omega)) trivial) (by kernel_rfl) rfl fun gg74 => ?_
            refine ih17 _ _ _ ?_ ⟨k + 1, _, (Fz.le_trans (Fz.le_trans (hF17) hF27) hF32), (HS.sub hs32 (List.sublist_append_left _ _)), (agC rfl (agC rfl (agC rfl (agC rfl (agC rfl agN))))), rfl, (by first | assumption | omega | (simp at *; omega)), (by exact upto_succ hka (vpF_yes hval (upto_all hba (by omega))))⟩
            omega
      · have c19 := c19b
        try simp only [BS] at c19
        refine wr 1 [] 4 4 [] [(4, (.bool true))] trivial (by kernel_rfl) rfl fun gg75 => ?_
        refine wk_ret ⟨.inr rfl, _, rfl, true, _, (Fz.le_trans (hF6) hF17), (HS.forget hs17), rfl, (by first | exact vp_lim (by omega) | exact vp_len (all_not (k := q) (by omega) (decide_eq_false (show ¬ (1 ≤ lens.getD q 0 ∧ lens.getD q 0 ≤ 16) by omega))) | exact vp_f (all_not (k := k) (by omega) (vpF_no (show valV (l.getD k default) = false by assumption))) | exact vp_not (k := k) (b := b) (i := i) (by omega) (by omega) (by omega) (vpI_not (by omega)) | exact vp_yes (by omega) (upto_all hqa (by omega)) (upto_all hka (by omega)))⟩

set_option maxHeartbeats 2000000 in
theorem rprog_c (ex : FuncId) {a_l : Option Addr} {k_l : Nat} (l : List VFnT) {a_lens : Option Addr} {k_lens : Nat} (lens : List Int) {F : Fz} {H : Heap} {R : List Fp} (hs : HS (.of H []) F H [] R) (hl : SR F (.slice a_l l.length k_l) l) (hlens : SR F (.slice a_lens lens.length k_lens) lens) (hT : TB 37 tabC F) (hbd : lens.length ≤ 1073741824 ∧ ∀ k j, ((l.getD k default).blocks.getD j default).ins.length ≤ 1099511627776) : C Tryd.prog 1 (KT 60 ex 37 tabC) 42 [(.slice a_l l.length k_l), (.slice a_lens lens.length k_lens)] H fun v H' => ∃ (r : Bool) (F' : Fz), Fz.le F F' ∧ HS (.of H []) F' H' [] R ∧ v = .bool r ∧ r = vpV l lens := by
  refine c_enter Tryd.func42 rfl rfl ?_
  refine wk_foc 1 rfl ?_
  refine wr 3 [] 4 4 [] [(4, (.bool false))] trivial (by kernel_rfl) rfl fun gg1 => ?_
  refine wr 1 [] 10 22 [] [(22, (.bool (((decide ((l.length : Int) < 1)) || (decide ((8 : Int) < (l.length : Int)))) || (decide ((4 : Int) < (lens.length : Int))))))] trivial (by kernel_rfl) rfl fun gg2 => ?_
  refine wk_if 1 3 (v := (((decide ((l.length : Int) < 1)) || (decide ((8 : Int) < (l.length : Int)))) || (decide ((4 : Int) < (lens.length : Int))))) rfl rfl rfl rfl (fun c3b => ?_) (fun c3b => ?_)
  · have c3 := c3b
    try simp only [BS] at c3
    refine wr 1 [] 4 4 [] [(4, (.bool false))] trivial (by kernel_rfl) rfl fun gg4 => ?_
    refine wk_ret ⟨.inr rfl, _, rfl, false, _, (Fz.le_refl _), (HS.forget hs), rfl, (by first | exact vp_lim (by omega) | exact vp_len (all_not (k := q) (by omega) (decide_eq_false (show ¬ (1 ≤ lens.getD q 0 ∧ lens.getD q 0 ≤ 16) by omega))) | exact vp_f (all_not (k := k) (by omega) (vpF_no (show valV (l.getD k default) = false by assumption))) | exact vp_not (k := k) (b := b) (i := i) (by omega) (by omega) (by omega) (vpI_not (by omega)) | exact vp_yes (by omega) (upto_all hqa (by omega)) (upto_all hka (by omega)))⟩
  · have c3 := c3b
    try simp only [BS] at c3
    refine wr 2 [] 1 0 [5] [(5, (.int .i64 0))] trivial (by kernel_rfl) rfl fun gg5 => ?_
    refine wk_loop_inv (fun (mm : Nat) f H' => ∃ (q : Nat) (F' : Fz), Fz.le F F' ∧ HS (Base.of H []) F' H' [] R ∧ agrees f [(0, (.slice a_l l.length k_l)), (1, (.slice a_lens lens.length k_lens)), (5, (.int .i64 (q : Int)))] ∧ mm = lens.length - q ∧ (q ≤ lens.length) ∧ (∀ j, j < q → lenOK (lens.getD j default) = true)) _ ⟨0, _, (Fz.le_refl _), hs, (agC rfl (agC rfl (agC rfl agN))), rfl, (by first | assumption | omega | (simp at *; omega)), (by exact upto_zero)⟩ ?_
    rintro mm6 f6 H6 ⟨q, F6, hF6, hs6, hf6, rfl, hq, hqa⟩ ih6
    refine wk_canon _ hf6 (fun gg6 => ?_)
    clear hf6
    replace hT := hT.mono hF6
    replace hl := hl.mono hF6
    replace hlens := hlens.mono hF6
    refine wk_foc 2 rfl ?_
    refine wr 1 [] 23 26 [] [(26, (.bool (decide ((q : Int) < (lens.length : Int)))))] trivial (by kernel_rfl) rfl fun gg7 => ?_
    refine wk_if 4 6 (v := (decide ((q : Int) < (lens.length : Int)))) rfl rfl rfl rfl (fun c8b => ?_) (fun c8b => ?_)
    · have c8 := c8b
      try simp only [BS] at c8
      obtain ⟨cf9, hv9⟩ := Sv.view (SR.sv hlens hs6)
      have g10 := fI (hv9 q)
      refine wr 1 [(3, .o (.int .i64 (lens.getD q 0))), (9, .o (.int .i64 (lens.getD q 0)))] 29 40 [] [(40, (.bool ((decide ((lens.getD q 0) < 1)) || (decide ((16 : Int) < (lens.getD q 0))))))] (vA (Sv.ix (j := (q : Int)) (SR.sv hlens hs6) (by omega) (by omega)) (vA (ql 3 0 (vI (hv9 q) (by omega)) rfl rfl) (vA (fun (g1 : (decide ((lens.getD q 0) < 1)) = false) => (Sv.ix (j := (q : Int)) (SR.sv hlens hs6) (by (try simp only [BS] at g1); omega) (by (try simp only [BS] at g1); omega))) (vA (fun (g1 : (decide ((lens.getD q 0) < 1)) = false) => (ql 3 0 (vI (hv9 q) (by (try simp only [BS] at g1); omega)) rfl rfl)) trivial)))) (by kernel_rfl) rfl fun gg11 => ?_
      refine wk_if 1 2 (v := ((decide ((lens.getD q 0) < 1)) || (decide ((16 : Int) < (lens.getD q 0))))) rfl rfl rfl rfl (fun c12b => ?_) (fun c12b => ?_)
      · have c12 := c12b
        try simp only [BS] at c12
        refine wr 1 [] 4 4 [] [(4, (.bool false))] trivial (by kernel_rfl) rfl fun gg13 => ?_
        refine wk_ret ⟨.inr rfl, _, rfl, false, _, (hF6), (HS.forget hs6), rfl, (by first | exact vp_lim (by omega) | exact vp_len (all_not (k := q) (by omega) (decide_eq_false (show ¬ (1 ≤ lens.getD q 0 ∧ lens.getD q 0 ≤ 16) by omega))) | exact vp_f (all_not (k := k) (by omega) (vpF_no (show valV (l.getD k default) = false by assumption))) | exact vp_not (k := k) (b := b) (i := i) (by omega) (by omega) (by omega) (vpI_not (by omega)) | exact vp_yes (by omega) (upto_all hqa (by omega)) (upto_all hka (by omega)))⟩
      · have c12 := c12b
        try simp only [BS] at c12
        refine wr 1 [] 27 28 [5] [(5, (.int .i64 ((q : Int) + 1)))] (vA (vi (n := (q : Int) + 1) (by omega)) trivial) (by kernel_rfl) rfl fun gg14 => ?_
        refine ih6 _ _ _ ?_ ⟨q + 1, _, (hF6), hs6, (agC rfl (agC rfl (agC rfl agN))), rfl, (by first | assumption | omega | (simp at *; omega)), (by exact upto_succ hqa (decide_eq_true (show 1 ≤ lens.getD q 0 ∧ lens.getD q 0 ≤ 16 by omega)))⟩
        omega
    · have c8 := c8b
      try simp only [BS] at c8
      refine wr 2 [] 1 0 [6] [(6, (.int .i64 0))] trivial (by kernel_rfl) rfl fun gg15 => ?_
      refine wk_loop_inv (fun (mm : Nat) f H' => ∃ (k : Nat) (F' : Fz), Fz.le F6 F' ∧ HS (Base.of H []) F' H' [] R ∧ agrees f [(0, (.slice a_l l.length k_l)), (1, (.slice a_lens lens.length k_lens)), (6, (.int .i64 (k : Int)))] ∧ mm = l.length - k ∧ (k ≤ l.length) ∧ (∀ j, j < k → vpF l (lens.length : Int) (l.getD j default) = true)) _ ⟨0, _, (Fz.le_refl _), hs6, (agC rfl (agC rfl (agC rfl agN))), rfl, (by first | assumption | omega | (simp at *; omega)), (by exact upto_zero)⟩ ?_
      rintro mm16 f16 H16 ⟨k, F16, hF16, hs16, hf16, rfl, hk, hka⟩ ih16
      refine wk_canon _ hf16 (fun gg16 => ?_)
      clear hf16
      replace hT := hT.mono hF16
      replace hl := hl.mono hF16
      replace hlens := hlens.mono hF16
      refine wk_foc 2 rfl ?_
      refine wr 1 [] 41 44 [] [(44, (.bool (decide ((k : Int) < (l.length : Int)))))] trivial (by kernel_rfl) rfl fun gg17 => ?_
      refine wk_if 5 5 (v := (decide ((k : Int) < (l.length : Int)))) rfl rfl rfl rfl (fun c18b => ?_) (fun c18b => ?_)
      · have c18 := c18b
        try simp only [BS] at c18
        refine wk_region ?_
        obtain ⟨cf19, hv19⟩ := Sv.view (SR.sv hl hs16)
        obtain ⟨g20_0, g20_1, s20_2⟩ := VFnT.fx (hv19 k)
        refine wro 4 0 [(3, .o (.agg ⟨[(.int .i64 ((l.getD k default).params)), (.int .i64 ((l.getD k default).regs)), (.slice (cA (cf19 k) 2) ((l.getD k default).blocks).length (cK (cf19 k) 2))]⟩))] 47 50 [] [(50, (.agg ⟨[(.int .i64 ((l.getD k default).params)), (.int .i64 ((l.getD k default).regs)), (.slice (cA (cf19 k) 2) ((l.getD k default).blocks).length (cK (cf19 k) 2))]⟩))] (vA (Sv.ix (j := (k : Int)) (SR.sv hl hs16) (by omega) (by omega)) (vA (qn 24 0 3 (VFnT.vw (hv19 k) (by omega)) rfl rfl rfl rfl) trivial)) (by kernel_rfl) rfl fun gg21 => ?_
        refine wo_call (ap_call rfl rfl rfl) rfl rfl (m3.rvalid_c ex (l.getD k default) (HS.call hs16) (by omega) (by omega) s20_2 hT (by exact fun j => hbd.2 k j)) ?_
        rintro _ H22 ⟨r22, F22, hF22, hs22, rfl, rfl⟩
        replace hs22 := HS.back hs16 rfl hs22
        have hs22 : HS _ _ _ [] _ := hs22
        replace hT := hT.mono hF22
        replace hl := hl.mono hF22
        replace hlens := hlens.mono hF22
        replace s20_2 := s20_2.mono hF22
        refine wro 1 5 [] 52 52 [] [(52, (.bool (!(valV (l.getD k default)))))] trivial (by kernel_rfl) rfl fun gg23 => ?_
        refine wo_end 1 rfl ?_
        refine wk_if 1 2 (v := (!(valV (l.getD k default)))) rfl rfl rfl rfl (fun c24b => ?_) (fun c24b => ?_)
        · have c24 := c24b
          try simp only [BS] at c24
          refine wr 1 [] 4 4 [] [(4, (.bool false))] trivial (by kernel_rfl) rfl fun gg25 => ?_
          refine wk_ret ⟨.inr rfl, _, rfl, false, _, (Fz.le_trans (Fz.le_trans (hF6) hF16) hF22), (HS.forget hs22), rfl, (by first | exact vp_lim (by omega) | exact vp_len (all_not (k := q) (by omega) (decide_eq_false (show ¬ (1 ≤ lens.getD q 0 ∧ lens.getD q 0 ≤ 16) by omega))) | exact vp_f (all_not (k := k) (by omega) (vpF_no (show valV (l.getD k default) = false by assumption))) | exact vp_not (k := k) (b := b) (i := i) (by omega) (by omega) (by omega) (vpI_not (by omega)) | exact vp_yes (by omega) (upto_all hqa (by omega)) (upto_all hka (by omega)))⟩
        · have c24 := c24b
          try simp only [BS] at c24
          have hval : valV (l.getD k default) = true := c24
          have hvb := val_bd hval
          refine wr 2 [] 1 0 [7] [(7, (.int .i64 0))] trivial (by kernel_rfl) rfl fun gg26 => ?_
          refine wk_loop_inv (fun (mm : Nat) f H' => ∃ (b : Nat) (F' : Fz), Fz.le F22 F' ∧ HS (Base.of H []) F' H' [] R ∧ agrees f [(0, (.slice a_l l.length k_l)), (1, (.slice a_lens lens.length k_lens)), (6, (.int .i64 (k : Int))), (7, (.int .i64 (b : Int))), (44, (.bool (decide ((k : Int) < (l.length : Int))))), (50, (.agg ⟨[(.int .i64 ((l.getD k default).params)), (.int .i64 ((l.getD k default).regs)), (.slice (cA (cf19 k) 2) ((l.getD k default).blocks).length (cK (cf19 k) 2))]⟩)), (51, (.bool (valV (l.getD k default)))), (52, (.bool (!(valV (l.getD k default)))))] ∧ mm = (l.getD k default).blocks.length - b ∧ (b ≤ (l.getD k default).blocks.length) ∧ (∀ j, j < b → vpB l (lens.length : Int) ((l.getD k default).blocks.getD j default) = true)) _ ⟨0, _, (Fz.le_refl _), hs22, (agC rfl (agC rfl (agC rfl (agC rfl (agC rfl (agC rfl (agC rfl (agC rfl agN)))))))), rfl, (by first | assumption | omega | (simp at *; omega)), (by exact upto_zero)⟩ ?_
          rintro mm27 f27 H27 ⟨b, F27, hF27, hs27, hf27, rfl, hb, hba⟩ ih27
          refine wk_canon _ hf27 (fun gg27 => ?_)
          clear hf27
          replace hT := hT.mono hF27
          replace hl := hl.mono hF27
          replace hlens := hlens.mono hF27
          replace s20_2 := s20_2.mono hF27
          have hbk := hbd.2 k b
          refine wk_foc 2 rfl ?_
          obtain ⟨cf28, hv28⟩ := Sv.view (SR.sv hl hs27)
          obtain ⟨g29_0, g29_1, s29_2⟩ := VFnT.fx (hv28 k)
          refine wr 1 [(5, .o (.slice (cA (cf28 k) 2) ((l.getD k default).blocks).length (cK (cf28 k) 2)))] 53 60 [] [(60, (.bool (decide ((b : Int) < (((l.getD k default).blocks).length : Int)))))] (vA (Sv.ix (j := (k : Int)) (SR.sv hl hs27) (by omega) (by omega)) (vA (ql 22 2 (VFnT.vw (hv28 k) (by omega)) rfl rfl) trivial)) (by kernel_rfl) rfl fun gg30 => ?_
          refine wk_if 4 5 (v := (decide ((b : Int) < (((l.getD k default).blocks).length : Int)))) rfl rfl rfl rfl (fun c31b => ?_) (fun c31b => ?_)
          · have c31 := c31b
            try simp only [BS] at c31
            refine wr 2 [] 1 0 [8] [(8, (.int .i64 0))] trivial (by kernel_rfl) rfl fun gg32 => ?_
            refine wk_loop_inv (fun (mm : Nat) f H' => ∃ (i : Nat) (F' : Fz), Fz.le F27 F' ∧ HS (Base.of H []) F' H' [] R ∧ agrees f [(0, (.slice a_l l.length k_l)), (1, (.slice a_lens lens.length k_lens)), (6, (.int .i64 (k : Int))), (7, (.int .i64 (b : Int))), (8, (.int .i64 (i : Int))), (44, (.bool (decide ((k : Int) < (l.length : Int))))), (50, (.agg ⟨[(.int .i64 ((l.getD k default).params)), (.int .i64 ((l.getD k default).regs)), (.slice (cA (cf19 k) 2) ((l.getD k default).blocks).length (cK (cf19 k) 2))]⟩)), (51, (.bool (valV (l.getD k default)))), (52, (.bool (!(valV (l.getD k default))))), (60, (.bool (decide ((b : Int) < (((l.getD k default).blocks).length : Int)))))] ∧ mm = ((l.getD k default).blocks.getD b default).ins.length - i ∧ (i ≤ ((l.getD k default).blocks.getD b default).ins.length) ∧ (∀ j, j < i → vpI l (lens.length : Int) (((l.getD k default).blocks.getD b default).ins.getD j default) = true)) _ ⟨0, _, (Fz.le_refl _), hs27, (agC rfl (agC rfl (agC rfl (agC rfl (agC rfl (agC rfl (agC rfl (agC rfl (agC rfl (agC rfl agN)))))))))), rfl, (by first | assumption | omega | (simp at *; omega)), (by exact upto_zero)⟩ ?_
            rintro mm33 f33 H33 ⟨i, F33, hF33, hs33, hf33, rfl, hi, hia⟩ ih33
            refine wk_canon _ hf33 (fun gg33 => ?_)
            clear hf33
            replace hT := hT.mono hF33
            replace hl := hl.mono hF33
            replace hlens := hlens.mono hF33
            replace s20_2 := s20_2.mono hF33
            have hnn : i < ((l.getD k default).blocks.getD b default).ins.length → ((((l.getD k default).blocks.getD b default).ins.getD i default).i.op = 6 ∨ (((l.getD k default).blocks.getD b default).ins.getD i default).i.op = 34 ∨ (((l.getD k default).blocks.getD b default).ins.getD i default).i.op = 35) → 0 ≤ (((l.getD k default).blocks.getD b default).ins.getD i default).i.n := fun q1 q2 => val_nn hval (by omega) q1 q2
            refine wk_foc 2 rfl ?_
            obtain ⟨cf34, hv34⟩ := Sv.view (SR.sv hl hs33)
            obtain ⟨g35_0, g35_1, s35_2⟩ := VFnT.fx (hv34 k)
            obtain ⟨cf36, hv36⟩ := Sv.view (SR.sv s35_2 hs33)
            obtain ⟨g37_1, g37_2, g37_3, g37_4, s37_0⟩ := BlkT.fx (hv36 b)
            refine wr 1 [(5, .o (.slice (cA (cf34 k) 2) ((l.getD k default).blocks).length (cK (cf34 k) 2))), (9, .o (.slice (cA (cf36 b) 0) ((((l.getD k default).blocks).getD b default).ins).length (cK (cf36 b) 0)))] 63 74 [] [(74, (.bool (decide ((i : Int) < (((((l.getD k default).blocks).getD b default).ins).length : Int)))))] (vA (Sv.ix (j := (k : Int)) (SR.sv hl hs33) (by omega) (by omega)) (vA (ql 22 2 (VFnT.vw (hv34 k) (by omega)) rfl rfl) (vA (Sv.ix (j := (b : Int)) (SR.sv s35_2 hs33) (by omega) (by omega)) (vA (ql 40 0 (BlkT.vw (hv36 b) (by omega)) rfl rfl) trivial)))) (by kernel_rfl) rfl fun gg38 => ?_
            refine wk_if 4 5 (v := (decide ((i : Int) < (((((l.getD k default).blocks).getD b default).ins).length : Int)))) rfl rfl rfl rfl (fun c39b => ?_) (fun c39b => ?_)
            · have c39 := c39b
              try simp only [BS] at c39
              refine wk_region ?_
              obtain ⟨cf40, hv40⟩ := Sv.view (SR.sv hl hs33)
              obtain ⟨g41_0, g41_1, s41_2⟩ := VFnT.fx (hv40 k)
              obtain ⟨cf42, hv42⟩ := Sv.view (SR.sv s41_2 hs33)
              obtain ⟨g43_1, g43_2, g43_3, g43_4, s43_0⟩ := BlkT.fx (hv42 b)
              obtain ⟨cf44, hv44⟩ := Sv.view (SR.sv s43_0 hs33)
              obtain ⟨g45_0, g45_1, g45_2, g45_3, g45_4, s45_5⟩ := VInT.fx (hv44 i)
              refine wro 12 0 [(4, .o (.slice (cA (cf40 k) 2) ((l.getD k default).blocks).length (cK (cf40 k) 2))), (8, .o (.slice (cA (cf42 b) 0) ((((l.getD k default).blocks).getD b default).ins).length (cK (cf42 b) 0))), (11, .o (.agg ⟨[(.int .i64 ((((((l.getD k default).blocks).getD b default).ins).getD i default).i.op)), (.int .i64 ((((((l.getD k default).blocks).getD b default).ins).getD i default).i.a)), (.int .i64 ((((((l.getD k default).blocks).getD b default).ins).getD i default).i.b)), (.int .i64 ((((((l.getD k default).blocks).getD b default).ins).getD i default).i.c)), (.int .i64 ((((((l.getD k default).blocks).getD b default).ins).getD i default).i.n)), (.slice (cA (cf44 i) 5) ((((((l.getD k default).blocks).getD b default).ins).getD i default).args).length (cK (cf44 i) 5))]⟩))] 77 88 [] [(88, (.agg ⟨[(.int .i64 ((((((l.getD k default).blocks).getD b default).ins).getD i default).i.op)), (.int .i64 ((((((l.getD k default).blocks).getD b default).ins).getD i default).i.a)), (.int .i64 ((((((l.getD k default).blocks).getD b default).ins).getD i default).i.b)), (.int .i64 ((((((l.getD k default).blocks).getD b default).ins).getD i default).i.c)), (.int .i64 ((((((l.getD k default).blocks).getD b default).ins).getD i default).i.n)), (.slice (cA (cf44 i) 5) ((((((l.getD k default).blocks).getD b default).ins).getD i default).args).length (cK (cf44 i) 5))]⟩))] (vA (Sv.ix (j := (k : Int)) (SR.sv hl hs33) (by omega) (by omega)) (vA (ql 22 2 (VFnT.vw (hv40 k) (by omega)) rfl rfl) (vA (Sv.ix (j := (b : Int)) (SR.sv s41_2 hs33) (by omega) (by omega)) (vA (ql 40 0 (BlkT.vw (hv42 b) (by omega)) rfl rfl) (vA (Sv.ix (j := (i : Int)) (SR.sv s43_0 hs33) (by omega) (by omega)) (vA (qn 47 0 6 (VInT.vw (hv44 i) (by omega)) rfl rfl rfl rfl) trivial)))))) (by kernel_rfl) rfl fun gg46 => ?_
              refine wo_rs (rs_new hs33 rfl) rfl rfl ?_
              rintro _ H48 _ ⟨b47, rfl, hs48, _⟩
              have hs48 : HS _ _ _ [[(b47, .cells [(.int .i64 0), (.int .i64 0), (.int .i64 0), (.int .i64 0), (.int .i64 0), (.slice none 0 0)] none false)]] _ := hs48
              refine wo_rk (rs_rec (q := 0) hs48 rfl rfl rfl rfl rfl rfl rfl rfl rfl) rfl ?_
              rintro _ H49 _ ⟨hs49, _⟩
              have hs49 : HS _ _ _ [[(b47, .cells [(.int .i64 ((((((l.getD k default).blocks).getD b default).ins).getD i default).i.op)), (.int .i64 ((((((l.getD k default).blocks).getD b default).ins).getD i default).i.a)), (.int .i64 ((((((l.getD k default).blocks).getD b default).ins).getD i default).i.b)), (.int .i64 ((((((l.getD k default).blocks).getD b default).ins).getD i default).i.c)), (.int .i64 ((((((l.getD k default).blocks).getD b default).ins).getD i default).i.n)), (.slice (cA (cf44 i) 5) ((((((l.getD k default).blocks).getD b default).ins).getD i default).args).length (cK (cf44 i) 5))] none false)]] _ := hs49
              refine wo_end 3 rfl ?_
              obtain ⟨cf50, hv50⟩ := Sv.view (SR.sv hl hs49)
              obtain ⟨g51_0, g51_1, s51_2⟩ := VFnT.fx (hv50 (((((((l.getD k default).blocks).getD b default).ins).getD i default).i.n).toNat))
              refine wrD 1 [(2, .o (.int .i64 ((((((l.getD k default).blocks).getD b default).ins).getD i default).i.op))), (7, .o (.int .i64 ((((((l.getD k default).blocks).getD b default).ins).getD i default).i.n))), (15, .o (.int .i64 ((((((l.getD k default).blocks).getD b default).ins).getD i default).i.n))), (18, .o (.int .i64 ((l.getD (((((((l.getD k default).blocks).getD b default).ins).getD i default).i.n).toNat) default).params))), (20, .o (.slice (cA (cf44 i) 5) ((((((l.getD k default).blocks).getD b default).ins).getD i default).args).length (cK (cf44 i) 5)))] 89 113 [] [(113, (.bool (((((((l.getD k default).blocks).getD b default).ins).getD i default).i.op == 6) && ((decide ((l.length : Int) ≤ (((((l.getD k default).blocks).getD b default).ins).getD i default).i.n)) || ((l.getD (((((((l.getD k default).blocks).getD b default).ins).getD i default).i.n).toNat) default).params != (((((((l.getD k default).blocks).getD b default).ins).getD i default).args).length : Int))))))] (vA (ql 3 0 (hc0 (HS.hc hs49 (i := 0) rfl)) rfl rfl) (vA (fun (g1 : ((((((l.getD k default).blocks).getD b default).ins).getD i default).i.op == 6) = true) => (ql 2 4 (hc0 (HS.hc hs49 (i := 0) rfl)) rfl rfl)) (vA (fun (g1 : (decide ((l.length : Int) ≤ (((((l.getD k default).blocks).getD b default).ins).getD i default).i.n)) = false) (g2 : ((((((l.getD k default).blocks).getD b default).ins).getD i default).i.op == 6) = true) => (ql 2 4 (hc0 (HS.hc hs49 (i := 0) rfl)) rfl rfl)) (vA (fun (g1 : (decide ((l.length : Int) ≤ (((((l.getD k default).blocks).getD b default).ins).getD i default).i.n)) = false) (g2 : ((((((l.getD k default).blocks).getD b default).ins).getD i default).i.op == 6) = true) => (Sv.ix (j := (((((l.getD k default).blocks).getD b default).ins).getD i default).i.n) (SR.sv hl hs49) (by (try simp only [BS] at g1 g2); omega) (by (try simp only [BS] at g1 g2); omega))) (vA (fun (g1 : (decide ((l.length : Int) ≤ (((((l.getD k default).blocks).getD b default).ins).getD i default).i.n)) = false) (g2 : ((((((l.getD k default).blocks).getD b default).ins).getD i default).i.op == 6) = true) => (ql 3 0 (hc0 (VFnT.vw (hv50 (((((((l.getD k default).blocks).getD b default).ins).getD i default).i.n).toNat)) (by (try simp only [BS] at g1 g2); omega))) rfl rfl)) (vA (fun (g1 : (decide ((l.length : Int) ≤ (((((l.getD k default).blocks).getD b default).ins).getD i default).i.n)) = false) (g2 : ((((((l.getD k default).blocks).getD b default).ins).getD i default).i.op == 6) = true) => (ql 25 5 (hc0 (HS.hc hs49 (i := 0) rfl)) rfl rfl)) trivial)))))) rfl (by kernel_rfl) rfl fun gg52 => ?_
              refine wk_if 1 2 (v := (((((((l.getD k default).blocks).getD b default).ins).getD i default).i.op == 6) && ((decide ((l.length : Int) ≤ (((((l.getD k default).blocks).getD b default).ins).getD i default).i.n)) || ((l.getD (((((((l.getD k default).blocks).getD b default).ins).getD i default).i.n).toNat) default).params != (((((((l.getD k default).blocks).getD b default).ins).getD i default).args).length : Int))))) rfl rfl rfl rfl (fun c53b => ?_) (fun c53b => ?_)
              · have c53 := c53b
                try simp only [BS] at c53
                refine wr 1 [] 4 4 [] [(4, (.bool false))] trivial (by kernel_rfl) rfl fun gg54 => ?_
                refine wk_ret ⟨.inr rfl, _, rfl, false, _, (Fz.le_trans (Fz.le_trans (Fz.le_trans (Fz.le_trans (hF6) hF16) hF22) hF27) hF33), (HS.forget hs49), rfl, (by first | exact vp_lim (by omega) | exact vp_len (all_not (k := q) (by omega) (decide_eq_false (show ¬ (1 ≤ lens.getD q 0 ∧ lens.getD q 0 ≤ 16) by omega))) | exact vp_f (all_not (k := k) (by omega) (vpF_no (show valV (l.getD k default) = false by assumption))) | exact vp_not (k := k) (b := b) (i := i) (by omega) (by omega) (by omega) (vpI_not (by omega)) | exact vp_yes (by omega) (upto_all hqa (by omega)) (upto_all hka (by omega)))⟩
              · have c53 := c53b
                try simp only [BS] at c53
                refine wr 1 [(2, .o (.int .i64 ((((((l.getD k default).blocks).getD b default).ins).getD i default).i.op))), (7, .o (.int .i64 ((((((l.getD k default).blocks).getD b default).ins).getD i default).i.op))), (13, .o (.int .i64 ((((((l.getD k default).blocks).getD b default).ins).getD i default).i.n)))] 114 131 [] [(131, (.bool ((((((((l.getD k default).blocks).getD b default).ins).getD i default).i.op == 34) || ((((((l.getD k default).blocks).getD b default).ins).getD i default).i.op == 35)) && (decide ((lens.length : Int) ≤ (((((l.getD k default).blocks).getD b default).ins).getD i default).i.n)))))] (vA (ql 3 0 (HS.hc hs49 (i := 0) rfl) rfl rfl) (vA (fun (g1 : ((((((l.getD k default).blocks).getD b default).ins).getD i default).i.op == 34) = false) => (ql 3 0 (HS.hc hs49 (i := 0) rfl) rfl rfl)) (vA (fun (g1 : (((((((l.getD k default).blocks).getD b default).ins).getD i default).i.op == 34) || ((((((l.getD k default).blocks).getD b default).ins).getD i default).i.op == 35)) = true) => (ql 2 4 (HS.hc hs49 (i := 0) rfl) rfl rfl)) trivial))) (by kernel_rfl) rfl fun gg55 => ?_
                refine wk_if 1 2 (v := ((((((((l.getD k default).blocks).getD b default).ins).getD i default).i.op == 34) || ((((((l.getD k default).blocks).getD b default).ins).getD i default).i.op == 35)) && (decide ((lens.length : Int) ≤ (((((l.getD k default).blocks).getD b default).ins).getD i default).i.n)))) rfl rfl rfl rfl (fun c56b => ?_) (fun c56b => ?_)
                · have c56 := c56b
                  try simp only [BS] at c56
                  refine wr 1 [] 4 4 [] [(4, (.bool false))] trivial (by kernel_rfl) rfl fun gg57 => ?_
                  refine wk_ret ⟨.inr rfl, _, rfl, false, _, (Fz.le_trans (Fz.le_trans (Fz.le_trans (Fz.le_trans (hF6) hF16) hF22) hF27) hF33), (HS.forget hs49), rfl, (by first | exact vp_lim (by omega) | exact vp_len (all_not (k := q) (by omega) (decide_eq_false (show ¬ (1 ≤ lens.getD q 0 ∧ lens.getD q 0 ≤ 16) by omega))) | exact vp_f (all_not (k := k) (by omega) (vpF_no (show valV (l.getD k default) = false by assumption))) | exact vp_not (k := k) (b := b) (i := i) (by omega) (by omega) (by omega) (vpI_not (by omega)) | exact vp_yes (by omega) (upto_all hqa (by omega)) (upto_all hka (by omega)))⟩
                · have c56 := c56b
                  try simp only [BS] at c56
                  refine wr 1 [] 75 76 [8] [(8, (.int .i64 ((i : Int) + 1)))] (vA (vi (n := (i : Int) + 1) (by omega)) trivial) (by kernel_rfl) rfl fun gg58 => ?_
                  refine ih33 _ _ _ ?_ ⟨i + 1, _, (hF33), (HS.sub hs49 (List.sublist_append_left _ _)), (agC rfl (agC rfl (agC rfl (agC rfl (agC rfl (agC rfl (agC rfl (agC rfl (agC rfl (agC rfl agN)))))))))), rfl, (by first | assumption | omega | (simp at *; omega)), (by exact upto_succ hia (vpI_iff.2 ⟨by omega, by omega⟩))⟩
                  omega
            · have c39 := c39b
              try simp only [BS] at c39
              refine wr 1 [] 61 62 [7] [(7, (.int .i64 ((b : Int) + 1)))] (vA (vi (n := (b : Int) + 1) (by omega)) trivial) (by kernel_rfl) rfl fun gg59 => ?_
              refine ih27 _ _ _ ?_ ⟨b + 1, _, (Fz.le_trans (hF27) hF33), hs33, (agC rfl (agC rfl (agC rfl (agC rfl (agC rfl (agC rfl (agC rfl (agC rfl agN)))))))), rfl, (by first | assumption | omega | (simp at *; omega)), (by exact upto_succ hba (upto_all hia (by omega)))⟩
              omega
          · have c31 := c31b
            try simp only [BS] at c31
            refine wr 1 [] 45 46 [6] [(6, (.int .i64 ((k : Int) + 1)))] (vA (vi (n := (k : Int) + 1) (by omega)) trivial) (by kernel_rfl) rfl fun gg60 => ?_
            refine ih16 _ _ _ ?_ ⟨k + 1, _, (Fz.le_trans (Fz.le_trans (hF16) hF22) hF27), hs27, (agC rfl (agC rfl (agC rfl agN))), rfl, (by first | assumption | omega | (simp at *; omega)), (by exact upto_succ hka (vpF_yes hval (upto_all hba (by omega))))⟩
            omega
      · have c18 := c18b
        try simp only [BS] at c18
        refine wr 1 [] 4 4 [] [(4, (.bool true))] trivial (by kernel_rfl) rfl fun gg61 => ?_
        refine wk_ret ⟨.inr rfl, _, rfl, true, _, (Fz.le_trans (hF6) hF16), (HS.forget hs16), rfl, (by first | exact vp_lim (by omega) | exact vp_len (all_not (k := q) (by omega) (decide_eq_false (show ¬ (1 ≤ lens.getD q 0 ∧ lens.getD q 0 ≤ 16) by omega))) | exact vp_f (all_not (k := k) (by omega) (vpF_no (show valV (l.getD k default) = false by assumption))) | exact vp_not (k := k) (b := b) (i := i) (by omega) (by omega) (by omega) (vpI_not (by omega)) | exact vp_yes (by omega) (upto_all hqa (by omega)) (upto_all hka (by omega)))⟩
end Go.Proofs.YtlabedbmgmfbaaaDoor.m8
