/-
  The law on live registers that are read, by a symbolic run. No condition but that the table lies as laid.
-/
import Derived.Test.YtlabedbmgmfbaaaDoorMF
noncomputable section
namespace Go.Proofs.YtlabedbmgmfbaaaDoor.ll
open Go.R
set_option maxRecDepth 10000
set_option linter.unusedVariables false
theorem ql {H : Heap} {b o : Nat} {cs : List Value} {w : Value} (t : TypeId) (i : Nat) (hc : HC H.get b o cs) (ha : aggOf Tryd.prog t = some false) (hv : cs[i]? = some w) : LDv Tryd.prog H t (.pointer (some ⟨b, o + i, none⟩)) w := ld1 hc ha hv
theorem qn {H : Heap} {b o : Nat} {cs l : List Value} (t : TypeId) (i n : Nat) (hc : HC H.get b o cs) (ha : aggOf Tryd.prog t = some true) (hs : szOf Tryd.prog t = some n) (hn : Nat.ble (i + n) cs.length = true) (hl : takeL (dropL cs i) n = l) : LDv Tryd.prog H t (.pointer (some ⟨b, o + i, none⟩)) (.agg ⟨l⟩) := ldN hc ha hs hn hl
open m1 m2 m3 m4 m5 m6 ma ml mb mc md mf
def rdB (b : BlkT) (r : Int) : Prop := r ∈ endV b ∨ ∃ i, i < b.ins.length ∧ r ∈ readsV (b.ins.getD i default)
def rdP (c : VFnT) (r : Int) : Prop := ∃ j, j < c.blocks.length ∧ rdB (blkN c j) r
theorem lin_rd {c : VFnT} {b r : Nat} (h : LIn c b r) : rdP c (r : Int) := by
  refine h (fun _ r => rdP c (r : Int)) fun b hb r hr => ?_
  have key : ∀ (l : List VInT), (∀ w ∈ l, w ∈ (blkN c b).ins) → ∀ r, tr l (endS (blkN c b) (outS c (fun _ r => rdP c (r : Int)) b)) r → rdP c (r : Int) := by
    intro l
    induction l with
    | nil =>
      intro _ r hr
      rcases hr with ⟨t, _, h2⟩ | h2
      · exact h2
      · exact ⟨b, hb, .inl h2⟩
    | cons w l ih =>
      intro hw r hr
      rcases hr with hr | hr
      · obtain ⟨i, hi, he⟩ := List.mem_iff_getElem.1 (hw w (List.mem_cons_self ..))
        refine ⟨b, hb, .inr ⟨i, hi, ?_⟩⟩
        rw [List.getD_eq_getElem?_getD, List.getElem?_eq_getElem hi, Option.getD_some, he]; exact hr
      · exact ih (fun x hx => hw x (List.mem_cons_of_mem _ hx)) r hr.1
  exact key _ (fun w hw => hw) r hr
theorem lst_rd {c : VFnT} {b : Nat} {l : List Int} {r : Int} (h : Lst l (LIn c b)) (hr : conV l r = true) : rdP c r := by
  obtain ⟨h1, h2⟩ := (h.mem r).1 (con_iff.1 hr)
  have := lin_rd h2
  rwa [show ((r.toNat : Nat) : Int) = r by omega] at this
theorem lst_rd2 {c : VFnT} {b : Nat} {l : List Int} {r : Int} (h : Lst l (LOut c b)) (hr : conV l r = true) : rdP c r := by
  obtain ⟨h1, t, _, h2⟩ := (h.mem r).1 (con_iff.1 hr)
  have := lin_rd h2
  rwa [show ((r.toNat : Nat) : Int) = r by omega] at this
theorem en_hit {rd : Bool} {b : BlkT} {r : Int} (h : r ∈ endV b) : (rd || ((decide (b.fin = 2) || decide (b.fin = 3)) && decide (b.reg = r))) = true := by
  unfold endV at h
  split at h
  · rename_i hf
    rw [List.mem_singleton] at h
    subst h
    rcases hf with hf | hf <;> simp [hf]
  · cases h
theorem b_step {b k : Nat} {P : Nat → Prop} {c : VFnT} {r : Int} {rd : Bool} (h1 : ∀ j, j < b → rdB (blkN c j) r → rd = true) (h2 : r ∈ endV (blkN c b) → rd = true) (h3 : ∀ i, i < k → r ∈ readsV ((blkN c b).ins.getD i default) → rd = true) (hk : (blkN c b).ins.length ≤ k) : ∀ j, j < b + 1 → rdB (blkN c j) r → rd = true := fun j hj h => by
  rcases Nat.lt_or_ge j b with hb | hb
  · exact h1 j hb h
  · rw [show j = b by omega] at h
    rcases h with h | ⟨i, hi, h⟩
    · exact h2 h
    · exact h3 i (by omega) h
theorem i_step {k : Nat} {l : List VInT} {r : Int} {rd : Bool} (h3 : ∀ i, i < k → r ∈ readsV (l.getD i default) → rd = true) : ∀ i, i < k + 1 → r ∈ readsV (l.getD i default) → (rd || conV (readsV (l.getD k default)) r) = true := fun i hi h => by
  rcases Nat.lt_or_ge i k with hb | hb
  · rw [h3 i hb h]; rfl
  · rw [show i = k by omega] at h
    rw [con_iff.2 h, Bool.or_true]
theorem or_l {a b : Bool} (h : a = true) : (a || b) = true := by rw [h]; rfl

theorem ex_c (_ : FuncId) {F : Fz} {H : Heap} {R : List Fp} (hs : HS (.of H []) F H [] R) (hT : TB 37 tabC F) : C Tryd.prog 1 (KT 60 15 37 tabC) 15 [] H fun v H' => ∃ (r : Bool), H' = H ∧ v = .bool r ∧ r = true :=
  ⟨0, .bool true, H, by unfold call callK; rw [(hT.heap hs).known (by decide)], true, rfl, rfl, rfl⟩
theorem ex_c_q (e : FuncId) {F : Fz} {H : Heap} {R : List Fp} (hs : HS (.of H []) F H [] R) (hT : TB 37 tabC F) : C Tryd.prog 1 (KT 60 15 37 tabC) 15 [] H fun v H' => v = .bool true ∧ H' = H := cq (ex_c e hs hT) (by rintro _ _ ⟨_, rfl, rfl, rfl⟩; exact ⟨rfl, rfl⟩)

set_option maxHeartbeats 2000000 in
theorem live_c {a_l : Option Addr} {k_l : Nat} (l : List Int) (params : Int) (reg : Int) {F : Fz} {H : Heap} {R : List Fp} (hs : HS (.of H []) F H [] R) (hl : SR F (.slice a_l l.length k_l) l) (hparams : in64 params) (hreg : in64 reg) (hT : TB 37 tabC F) : C Tryd.prog 1 (KT 60 15 37 tabC) 6 [(.slice a_l l.length k_l), (.int .i64 params), (.int .i64 reg)] H fun v H' => ∃ (r : Bool) (F' : Fz), Fz.le F F' ∧ HS (.of H []) F' H' [] R ∧ v = .bool r ∧ r = true := by
  refine c_enter Tryd.func6 rfl rfl ?_
  refine wk_foc 1 rfl ?_
  refine wr 2 [] 6 6 [] [(6, (.bool false))] trivial (by kernel_rfl) rfl fun gg1 => ?_
  refine wf_region rfl ?_
  refine fm (.slice a_l l.length k_l) rfl rfl rfl ?_
  refine fm (.slice a_l l.length k_l) rfl rfl rfl ?_
  refine wf_pure (v := (.int .i64 (l.length : Int))) (id := .x []) (ap_lenV (α := Int) rfl rfl (SR.sv hl hs.log0)) rfl rfl (did_x (W := []) rfl rfl fun b hb => absurd hb List.not_mem_nil) (⟨.inl rfl, ⟨.inr trivial, trivial⟩⟩) ?_
  refine wf_pure (v := (.int .i64 (if (36 : Int) < (l.length : Int) then (36 : Int) else (l.length : Int)))) (id := .x []) (pmm_ok (w := true) rfl rfl rfl) rfl rfl (did_x (W := []) rfl rfl fun b hb => absurd hb List.not_mem_nil) (⟨.inl rfl, ⟨.inl rfl, ⟨.inr trivial, trivial⟩⟩⟩) ?_
  refine wf_rs (id := .q fun b => F b ≠ none) (rs_cutt (α := Int) (j := (if (36 : Int) < (l.length : Int) then (36 : Int) else (l.length : Int)).toNat) hl hs.log0 rfl rfl rfl (optN (by omega)) (by omega)) rfl rfl (by rintro _ _ _ ⟨_, _, _, hH, _⟩; exact did_q rfl (SR.q hl)) (⟨.inl rfl, ⟨.inl rfl, ⟨.inl rfl, ⟨.inl rfl, trivial⟩⟩⟩⟩) ?_
  rintro _ _ _ ⟨a2, k2, rfl, hH2, hq2⟩ lg2 hlg2
  simp only at hH2; replace hH2 := hH2.symm; subst hH2
  have hs2 := HS.lg hs.log0 hs hlg2
  generalize ({ { H with log := [] } with log := lg2 } : Heap) = H2g at hs2 ⊢
  refine fm (.int .i64 params) rfl rfl rfl ?_
  have fq3 := pick_imp params (3 : Int)
  refine wf_call (W := []) (ap_call rfl rfl rfl) rfl rfl rfl (m1.pick_c 15 params (3) _ (by omega)) (⟨.inl rfl, ⟨.inr (fun b hb => absurd hb List.not_mem_nil), ⟨.inr ⟨trivial, trivial⟩, ⟨.inr ⟨trivial, trivial⟩, ⟨.inr trivial, ⟨.inr trivial, trivial⟩⟩⟩⟩⟩⟩) ?_
  rintro _ _ ⟨r4, rfl, rfl, rfl⟩
  refine ⟨fun b hb => absurd hb List.not_mem_nil, fun lg4 hlg4 => ?_⟩
  have hs4 := HS.lg hs2.log0 hs2 hlg4
  generalize ({ { H2g with log := [] } with log := lg4 } : Heap) = H4g at hs4 ⊢
  refine wf_call (W := []) (ap_call rfl rfl rfl) rfl rfl rfl (m5.vf_c 15 (l.take ((if (36 : Int) < (l.length : Int) then (36 : Int) else (l.length : Int)).toNat)) (pickV params (3 : Int)) (HS.call hs4.log0) hq2 hT (by first | omega | (rw [List.length_take]; exact Nat.le_trans (Nat.min_le_left _ _) (by split <;> omega))) (by first | omega | (rw [List.length_take]; exact Nat.le_trans (Nat.min_le_left _ _) (by split <;> omega)))) (⟨.inl rfl, ⟨.inl rfl, ⟨.inl rfl, ⟨.inl rfl, ⟨.inl rfl, ⟨.inl rfl, ⟨.inl rfl, trivial⟩⟩⟩⟩⟩⟩⟩) ?_
  rintro _ H5 ⟨x5, ax5_2, kx5_2, F5, hF5, hs5, rfl, hgx5_0, hgx5_1, hrx5_2, h5⟩
  refine ⟨Wr.did hs5.log, fun lg5 hlg5 => ?_⟩
  replace hs5 := HS.back hs4.log0 rfl hs5
  replace hs5 := HS.lg hs5 hs4 hlg5
  generalize ({ H5 with log := lg5 } : Heap) = H5g at hs5 ⊢
  have hs5 : HS _ _ _ [] _ := hs5
  replace hT := hT.mono hF5
  replace hl := hl.mono hF5
  replace hq2 := hq2.mono hF5
  refine wf_rs (id := .a) (rs_new hs5.log0 rfl) rfl rfl (fun _ _ _ _ => did_a rfl rfl rfl) (⟨.inr trivial, ⟨.inr trivial, ⟨.inr trivial, ⟨.inr trivial, ⟨.inr trivial, ⟨.inr trivial, ⟨.inr trivial, ⟨.inr trivial, trivial⟩⟩⟩⟩⟩⟩⟩⟩) ?_
  rintro _ H7 _ ⟨b6, rfl, hs7, _⟩ lg7 hlg7
  replace hs7 := HS.lg hs7 hs5 hlg7
  generalize ({ H7 with log := lg7 } : Heap) = H7g at hs7 ⊢
  have hs7 : HS _ _ _ [[(b6, .cells [(.int .i64 0), (.int .i64 0), (.slice none 0 0)] none false)]] _ := hs7
  refine wf_rk (id := .x [b6]) (rs_rec (q := 0) hs7.log0 rfl rfl rfl rfl rfl rfl rfl rfl rfl) rfl (by rintro _ _ _ ⟨_, hwr⟩; exact did_x rfl rfl (Wr.did hwr)) (⟨.inl rfl, ⟨.inl rfl, ⟨.inl rfl, ⟨.inl rfl, ⟨.inl rfl, ⟨.inl rfl, ⟨.inl rfl, ⟨.inl rfl, ⟨.inl rfl, trivial⟩⟩⟩⟩⟩⟩⟩⟩⟩) ?_
  rintro _ H8 _ ⟨hs8, _⟩ lg8 hlg8
  replace hs8 := HS.lg hs8 hs7 hlg8
  generalize ({ H8 with log := lg8 } : Heap) = H8g at hs8 ⊢
  have hs8 : HS _ _ _ [[(b6, .cells [(.int .i64 x5.params), (.int .i64 x5.regs), (.slice ax5_2 x5.blocks.length kx5_2)] none false)]] _ := hs8
  refine wf_nil ?_
  refine wk_foc 2 rfl ?_
  have hG : vfG x5 (pickV params 3) := by assumption
  have hins := hG.ins
  have vF := vF_of hG.val
  have hnb := vF.nb
  have hrg := vF.regs
  have hgr := hG.reg
  have fq9 := pick_imp reg x5.regs
  refine wr 2 [(2, .o (.int .i64 x5.regs)), (3, .o (.int .i64 (pickV reg x5.regs)))] 24 27 [2] [(2, (.int .i64 (pickV reg x5.regs)))] (vA (ql 3 1 (HS.hc hs8 (i := 0) rfl) rfl rfl) (vA (m1.pick_c_q 15 reg x5.regs H8g (by omega)) trivial)) (by kernel_rfl) rfl fun gg10 => ?_
  refine wr 3 [] 1 0 [8] [(8, (.bool false))] trivial (by kernel_rfl) rfl fun gg11 => ?_
  refine wr 2 [] 1 0 [9] [(9, (.int .i64 0))] trivial (by kernel_rfl) rfl fun gg12 => ?_
  refine wk_loop_inv (fun (mm : Nat) f H' => ∃ (rd : Bool) (b : Nat) (F' : Fz), Fz.le F5 F' ∧ HS (Base.of H []) F' H' [[(b6, .cells [(.int .i64 x5.params), (.int .i64 x5.regs), (.slice ax5_2 x5.blocks.length kx5_2)] none false)]] R ∧ agrees f [(2, (.int .i64 (pickV reg x5.regs))), (6, (.bool false)), (7, (.pointer (some ⟨b6, 0, none⟩))), (8, (.bool rd)), (9, (.int .i64 (b : Int)))] ∧ mm = x5.blocks.length - b ∧ (b ≤ x5.blocks.length) ∧ (∀ j, j < b → rdB (blkN x5 j) (pickV reg x5.regs) → rd = true)) _ ⟨false, 0, _, (Fz.le_refl _), hs8, (agC rfl (agC rfl (agC rfl (agC rfl (agC rfl agN))))), rfl, (by first | assumption | omega | (simp at *; omega)), (by exact fun j hj => absurd hj (Nat.not_lt_zero _))⟩ ?_
  rintro mm13 f13 H13 ⟨rd, b, F13, hF13, hs13, hf13, rfl, hb, hr0⟩ ih13
  refine wk_canon _ hf13 (fun gg13 => ?_)
  clear hf13
  replace hT := hT.mono hF13
  replace hrx5_2 := hrx5_2.mono hF13
  refine wk_foc 2 rfl ?_
  refine wr 1 [(2, .o (.slice ax5_2 x5.blocks.length kx5_2))] 28 32 [] [(32, (.bool (decide ((b : Int) < (x5.blocks.length : Int)))))] (vA (ql 22 2 (HS.hc hs13 (i := 0) rfl) rfl rfl) trivial) (by kernel_rfl) rfl fun gg14 => ?_
  refine wk_if 4 5 (v := (decide ((b : Int) < (x5.blocks.length : Int)))) rfl rfl rfl rfl (fun c15b => ?_) (fun c15b => ?_)
  · have c15 := c15b
    try simp only [BS] at c15
    have hbn : b < x5.blocks.length := by omega
    have hbl := hins b
    refine wk_region ?_
    obtain ⟨cf16, hv16⟩ := Sv.view (SR.sv hrx5_2 hs13)
    obtain ⟨g17_1, g17_2, g17_3, g17_4, s17_0⟩ := BlkT.fx (hv16 b)
    refine wro 5 0 [(1, .o (.slice ax5_2 x5.blocks.length kx5_2)), (4, .o (.agg ⟨[(.slice (cA (cf16 b) 0) ((x5.blocks.getD b default).ins).length (cK (cf16 b) 0)), (.int .i64 ((x5.blocks.getD b default).fin)), (.int .i64 ((x5.blocks.getD b default).reg)), (.int .i64 ((x5.blocks.getD b default).tgt)), (.int .i64 ((x5.blocks.getD b default).els))]⟩))] 35 39 [] [(39, (.agg ⟨[(.slice (cA (cf16 b) 0) ((x5.blocks.getD b default).ins).length (cK (cf16 b) 0)), (.int .i64 ((x5.blocks.getD b default).fin)), (.int .i64 ((x5.blocks.getD b default).reg)), (.int .i64 ((x5.blocks.getD b default).tgt)), (.int .i64 ((x5.blocks.getD b default).els))]⟩))] (vA (ql 22 2 (HS.hc hs13 (i := 0) rfl) rfl rfl) (vA (Sv.ix (j := (b : Int)) (SR.sv hrx5_2 hs13) (by omega) (by omega)) (vA (qn 42 0 5 (BlkT.vw (hv16 b) (by omega)) rfl rfl rfl rfl) trivial))) (by kernel_rfl) rfl fun gg18 => ?_
    refine wo_rs (rs_new hs13 rfl) rfl rfl ?_
    rintro _ H20 _ ⟨b19, rfl, hs20, _⟩
    have hs20 : HS _ _ _ [_, [(b19, .cells [(.slice none 0 0), (.int .i64 0), (.int .i64 0), (.int .i64 0), (.int .i64 0)] none false)]] _ := hs20
    refine wo_rk (rs_rec (q := 1) hs20 rfl rfl rfl rfl rfl rfl rfl rfl rfl) rfl ?_
    rintro _ H21 _ ⟨hs21, _⟩
    have hs21 : HS _ _ _ [_, [(b19, .cells [(.slice (cA (cf16 b) 0) ((x5.blocks.getD b default).ins).length (cK (cf16 b) 0)), (.int .i64 ((x5.blocks.getD b default).fin)), (.int .i64 ((x5.blocks.getD b default).reg)), (.int .i64 ((x5.blocks.getD b default).tgt)), (.int .i64 ((x5.blocks.getD b default).els))] none false)]] _ := hs21
    refine wo_end 2 rfl ?_
    refine wr 2 [(3, .o (.int .i64 ((x5.blocks.getD b default).fin))), (7, .o (.int .i64 ((x5.blocks.getD b default).fin))), (12, .o (.int .i64 ((x5.blocks.getD b default).reg)))] 40 56 [8] [(8, (.bool (rd || ((((x5.blocks.getD b default).fin == 2) || ((x5.blocks.getD b default).fin == 3)) && ((x5.blocks.getD b default).reg == pickV reg x5.regs)))))] (vA (fun (g1 : rd = false) => (ql 3 1 (HS.hc hs21 (i := 1) rfl) rfl rfl)) (vA (fun (g1 : ((x5.blocks.getD b default).fin == 2) = false) (g2 : rd = false) => (ql 3 1 (HS.hc hs21 (i := 1) rfl) rfl rfl)) (vA (fun (g1 : (((x5.blocks.getD b default).fin == 2) || ((x5.blocks.getD b default).fin == 3)) = true) (g2 : rd = false) => (ql 3 2 (HS.hc hs21 (i := 1) rfl) rfl rfl)) trivial))) (by kernel_rfl) rfl fun gg22 => ?_
    refine wr 2 [] 1 0 [11] [(11, (.int .i64 0))] trivial (by kernel_rfl) rfl fun gg23 => ?_
    refine wk_loop_inv (fun (mm : Nat) f H' => ∃ (rd2 : Bool) (k : Nat) (F' : Fz), Fz.le F13 F' ∧ HS (Base.of H []) F' H' [[(b6, .cells [(.int .i64 x5.params), (.int .i64 x5.regs), (.slice ax5_2 x5.blocks.length kx5_2)] none false)], [(b19, .cells [(.slice (cA (cf16 b) 0) ((x5.blocks.getD b default).ins).length (cK (cf16 b) 0)), (.int .i64 ((x5.blocks.getD b default).fin)), (.int .i64 ((x5.blocks.getD b default).reg)), (.int .i64 ((x5.blocks.getD b default).tgt)), (.int .i64 ((x5.blocks.getD b default).els))] none false)]] R ∧ agrees f [(2, (.int .i64 (pickV reg x5.regs))), (6, (.bool false)), (7, (.pointer (some ⟨b6, 0, none⟩))), (8, (.bool rd2)), (9, (.int .i64 (b : Int))), (10, (.pointer (some ⟨b19, 0, none⟩))), (11, (.int .i64 (k : Int))), (32, (.bool (decide ((b : Int) < (x5.blocks.length : Int))))), (39, (.agg ⟨[(.slice (cA (cf16 b) 0) ((x5.blocks.getD b default).ins).length (cK (cf16 b) 0)), (.int .i64 ((x5.blocks.getD b default).fin)), (.int .i64 ((x5.blocks.getD b default).reg)), (.int .i64 ((x5.blocks.getD b default).tgt)), (.int .i64 ((x5.blocks.getD b default).els))]⟩))] ∧ mm = (x5.blocks.getD b default).ins.length - k ∧ (k ≤ (x5.blocks.getD b default).ins.length) ∧ (∀ j, j < b → rdB (blkN x5 j) (pickV reg x5.regs) → rd2 = true) ∧ ((pickV reg x5.regs) ∈ endV (x5.blocks.getD b default) → rd2 = true) ∧ (∀ i, i < k → (pickV reg x5.regs) ∈ readsV ((x5.blocks.getD b default).ins.getD i default) → rd2 = true)) _ ⟨(rd || ((((x5.blocks.getD b default).fin == 2) || ((x5.blocks.getD b default).fin == 3)) && ((x5.blocks.getD b default).reg == pickV reg x5.regs))), 0, _, (Fz.le_refl _), hs21, (agC rfl (agC rfl (agC rfl (agC rfl (agC rfl (agC rfl (agC rfl (agC rfl (agC rfl agN))))))))), rfl, (by first | assumption | omega | (simp at *; omega)), (by exact fun j h1 h2 => or_l (hr0 j h1 h2)), (by exact fun h => en_hit h), (by exact fun j hj => absurd hj (Nat.not_lt_zero _))⟩ ?_
    rintro mm24 f24 H24 ⟨rd2, k, F24, hF24, hs24, hf24, rfl, hk, hr1, hr2, hr3⟩ ih24
    refine wk_canon _ hf24 (fun gg24 => ?_)
    clear hf24
    replace hT := hT.mono hF24
    replace hrx5_2 := hrx5_2.mono hF24
    replace s17_0 := s17_0.mono hF24
    refine wk_foc 2 rfl ?_
    refine wr 1 [(2, .o (.slice (cA (cf16 b) 0) ((x5.blocks.getD b default).ins).length (cK (cf16 b) 0)))] 57 61 [] [(61, (.bool (decide ((k : Int) < (((x5.blocks.getD b default).ins).length : Int)))))] (vA (ql 40 0 (HS.hc hs24 (i := 1) rfl) rfl rfl) trivial) (by kernel_rfl) rfl fun gg25 => ?_
    refine wk_if 3 5 (v := (decide ((k : Int) < (((x5.blocks.getD b default).ins).length : Int)))) rfl rfl rfl rfl (fun c26b => ?_) (fun c26b => ?_)
    · have c26 := c26b
      try simp only [BS] at c26
      have hkn : k < (x5.blocks.getD b default).ins.length := by omega
      have hvl := reads_lim (vF.ins b hbn k hkn)
      have hvl3 : ((x5.blocks.getD b default).ins.getD k default).args.length ≤ 6 := hvl.2.2
      have hrl := reads_len (v := (x5.blocks.getD b default).ins.getD k default)
      refine wk_rcut 64 74 [8] [(8, (.bool (rd2 || conV (readsV (((x5.blocks.getD b default).ins).getD k default)) (pickV reg x5.regs))))] (fun H' => ∃ F', Fz.le F24 F' ∧ HS (Base.of H []) F' H' [[(b6, .cells [(.int .i64 x5.params), (.int .i64 x5.regs), (.slice ax5_2 x5.blocks.length kx5_2)] none false)], [(b19, .cells [(.slice (cA (cf16 b) 0) ((x5.blocks.getD b default).ins).length (cK (cf16 b) 0)), (.int .i64 ((x5.blocks.getD b default).fin)), (.int .i64 ((x5.blocks.getD b default).reg)), (.int .i64 ((x5.blocks.getD b default).tgt)), (.int .i64 ((x5.blocks.getD b default).els))] none false)]] R) ?_ ?_
      · skip
        refine wk_region ?_
        refine wm (.bool rd2) rfl rfl rfl ?_
        refine wm (.bool rd2) rfl rfl rfl ?_
        refine wo_gsF (v := rd2) rfl rfl (fun g32 => ?_) (fun g32 => ?_)
        · have pg32 := g32
          try simp only [BS] at pg32
          refine wo_val (v := (.pointer (some ⟨b19, 0, none⟩))) (ap_fa rfl rfl) rfl rfl ?_
          refine wo_gt rfl g32 ?_
          refine wo_val (v := (.slice (cA (cf16 b) 0) ((x5.blocks.getD b default).ins).length (cK (cf16 b) 0))) (ap_ld1 (i := 0) rfl rfl (HS.hc hs24 (i := 1) rfl) rfl rfl) rfl rfl ?_
          refine wo_gt rfl g32 ?_
          refine wm (.int .i64 (k : Int)) rfl rfl rfl ?_
          refine wo_gt rfl g32 ?_
          refine wo_val (v := (.pointer (some ⟨sB (.slice (cA (cf16 b) 0) ((x5.blocks.getD b default).ins).length (cK (cf16 b) 0)), sO (.slice (cA (cf16 b) 0) ((x5.blocks.getD b default).ins).length (cK (cf16 b) 0)) + k * Rp.sz VInT, none⟩))) (ap_idxV (α := VInT) (j := (k : Int)) rfl rfl rfl rfl (SR.sv s17_0 hs24) (by omega) (by omega)) rfl rfl ?_
          refine wo_gt rfl g32 ?_
          obtain ⟨cs33, hr33, hc33⟩ := Sv.at (SR.sv s17_0 hs24) (getD_at (x := default) (show k < ((x5.blocks.getD b default).ins).length from by omega))
          obtain ⟨a34_5, k34_5, rfl, g34_0, g34_1, g34_2, g34_3, g34_4, s34_5⟩ := hr33
          refine wo_val (v := (.agg ⟨[(.int .i64 ((((x5.blocks.getD b default).ins).getD k default).i.op)), (.int .i64 ((((x5.blocks.getD b default).ins).getD k default).i.a)), (.int .i64 ((((x5.blocks.getD b default).ins).getD k default).i.b)), (.int .i64 ((((x5.blocks.getD b default).ins).getD k default).i.c)), (.int .i64 ((((x5.blocks.getD b default).ins).getD k default).i.n)), (.slice a34_5 ((((x5.blocks.getD b default).ins).getD k default).args).length k34_5)]⟩)) (ap_ldN (i := 0) rfl rfl rfl hc33 rfl rfl rfl) rfl rfl ?_
          refine wo_gt rfl g32 ?_
          refine wo_call (ap_call rfl rfl rfl) rfl rfl (ma.rreads_c 15 (((x5.blocks.getD b default).ins).getD k default) (HS.call hs24) (by omega) (by omega) (by omega) (by omega) (by omega) s34_5 hT (by omega)) ?_
          rintro _ H35 ⟨ar35, kr35, r35, F35, hF35, hs35, rfl, hrr35, rfl⟩
          replace hs35 := HS.back hs24 rfl hs35
          have hs35 : HS _ _ _ [_, _] _ := hs35
          replace hT := hT.mono hF35
          replace hrx5_2 := hrx5_2.mono hF35
          replace s17_0 := s17_0.mono hF35
          replace s34_5 := s34_5.mono hF35
          refine wo_gt rfl g32 ?_
          refine wm (.int .i64 (pickV reg x5.regs)) rfl rfl rfl ?_
          refine wo_gt rfl g32 ?_
          refine wo_call (ap_call rfl rfl rfl) rfl rfl (m6.contains_c 15 (readsV (((x5.blocks.getD b default).ins).getD k default)) (pickV reg x5.regs) (HS.call hs35) hrr35 (by omega) hT (by omega)) ?_
          rintro _ H35 ⟨r36, rfl, rfl, rfl⟩
          refine wo_val (v := (.bool (conV (readsV (((x5.blocks.getD b default).ins).getD k default)) (pickV reg x5.regs)))) (ap_pickF rfl g32 rfl) rfl rfl ?_
          refine wa (.bool (conV (readsV (((x5.blocks.getD b default).ins).getD k default)) (pickV reg x5.regs))) rfl rfl rfl ?_
          refine wo_nil ?_
          exact wk_skip_nil ⟨rfl, ⟨_, (Fz.le_trans (Fz.le_refl _) hF35), HS.sub hs35 (List.Sublist.refl _)⟩, (Lu rfl (Lu rfl (Lu rfl (Lu rfl (Lu rfl (Lu rfl (Lu rfl (Lu rfl (Lu rfl (Lu rfl (Lu rfl (Lu rfl Lr)))))))))))), (agC (congrArg Value.bool (show conV (readsV (((x5.blocks.getD b default).ins).getD k default)) (pickV reg x5.regs) = (rd2 || conV (readsV (((x5.blocks.getD b default).ins).getD k default)) (pickV reg x5.regs)) by first | rfl | simp only [↓g32, BT] | grind)) agN)⟩
        · have pg32 := g32
          try simp only [BS] at pg32
          refine wo_gf0 rfl g32 rfl ?_
          refine wo_gf0 rfl g32 rfl ?_
          refine wo_gf0 rfl g32 rfl ?_
          refine wo_gf0 rfl g32 rfl ?_
          refine wo_gf0 rfl g32 rfl ?_
          refine wo_gf0 rfl g32 rfl ?_
          refine wo_gf0 rfl g32 rfl ?_
          refine wo_val (v := (.bool true)) (ap_pickT rfl g32 rfl) rfl rfl ?_
          refine wa (.bool true) rfl rfl rfl ?_
          refine wo_nil ?_
          exact wk_skip_nil ⟨rfl, ⟨_, (Fz.le_refl _), HS.sub hs24 (List.Sublist.refl _)⟩, (Lu rfl (Lu rfl (Lu rfl (Lu rfl (Lu rfl (Lu rfl (Lu rfl (Lu rfl (Lu rfl (Lu rfl (Lu rfl (Lu rfl Lr)))))))))))), (agC (congrArg Value.bool (show true = (rd2 || conV (readsV (((x5.blocks.getD b default).ins).getD k default)) (pickV reg x5.regs)) by first | rfl | simp only [↓g32, BT] | grind)) agN)⟩
      · skip
        rintro g31 H31 ⟨F31, hF31, hs31⟩
        replace hT := hT.mono hF31
        replace hrx5_2 := hrx5_2.mono hF31
        replace s17_0 := s17_0.mono hF31
        refine wk_foc 2 rfl ?_
        refine wr 1 [] 62 63 [11] [(11, (.int .i64 ((k : Int) + 1)))] (vA (vi (n := (k : Int) + 1) (by omega)) trivial) (by kernel_rfl) rfl fun gg37 => ?_
        refine ih24 _ _ _ ?_ ⟨(rd2 || conV (readsV (((x5.blocks.getD b default).ins).getD k default)) (pickV reg x5.regs)), k + 1, _, (Fz.le_trans (hF24) hF31), hs31, (agC rfl (agC rfl (agC rfl (agC rfl (agC rfl (agC rfl (agC rfl (agC rfl (agC rfl agN))))))))), rfl, (by first | assumption | omega | (simp at *; omega)), (by exact fun j h1 h2 => or_l (hr1 j h1 h2)), (by exact fun h => or_l (hr2 h)), (by exact i_step hr3)⟩
        omega
    · have c26 := c26b
      try simp only [BS] at c26
      have hkk : (blkN x5 b).ins.length ≤ k := (show (x5.blocks.getD b default).ins.length ≤ k by omega)
      refine wr 1 [] 33 34 [9] [(9, (.int .i64 ((b : Int) + 1)))] (vA (vi (n := (b : Int) + 1) (by omega)) trivial) (by kernel_rfl) rfl fun gg38 => ?_
      refine ih13 _ _ _ ?_ ⟨rd2, b + 1, _, (Fz.le_trans (hF13) hF24), (HS.sub hs24 (List.sublist_append_left _ _)), (agC rfl (agC rfl (agC rfl (agC rfl (agC rfl agN))))), rfl, (by first | assumption | omega | (simp at *; omega)), (by exact b_step (P := fun _ => True) hr1 hr2 hr3 hkk)⟩
      omega
  · have c15 := c15b
    try simp only [BS] at c15
    have hrall : rdP x5 (pickV reg x5.regs) → rd = true := fun ⟨j, hj, h⟩ => hr0 j (by omega) h
    refine wk_region ?_
    refine wro 1 0 [(0, .o (.agg ⟨[(.int .i64 x5.params), (.int .i64 x5.regs), (.slice ax5_2 x5.blocks.length kx5_2)]⟩))] 76 76 [] [(76, (.agg ⟨[(.int .i64 x5.params), (.int .i64 x5.regs), (.slice ax5_2 x5.blocks.length kx5_2)]⟩))] (vA (qn 24 0 3 (HS.hc hs13 (i := 0) rfl) rfl rfl rfl rfl) trivial) (by kernel_rfl) rfl fun gg39 => ?_
    refine wo_call (ap_call rfl rfl rfl) rfl rfl (md.blocks_c 15 x5 (HS.call hs13) (by omega) (by omega) hrx5_2 hT (by exact fun j => Nat.le_trans (hins j) (by omega))) ?_
    rintro _ H40 ⟨ax40, kx40, x40, ay40, ky40, y40, F40, hF40, hs40, rfl, hrx40, hry40, h140, h040⟩
    replace hs40 := HS.back hs13 rfl hs40
    have hs40 : HS _ _ _ [_] _ := hs40
    replace hT := hT.mono hF40
    replace hrx5_2 := hrx5_2.mono hF40
    refine wro 5 2 [] 78 79 [12, 13, 75] [(12, (.slice ax40 x40.length kx40)), (13, (.slice ay40 y40.length ky40))] trivial (by kernel_rfl) rfl fun gg41 => ?_
    refine wo_end 2 rfl ?_
    have bk : BkF x5 x40 y40 := by (first | exact (by assumption : valV x5 = true → _) hG.val | exact h_)
    have hlx := bk.lx
    have hly := bk.ly
    refine wr 3 [] 1 0 [14] [(14, (.bool false))] trivial (by kernel_rfl) rfl fun gg42 => ?_
    refine wr 2 [] 1 0 [15] [(15, (.int .i64 0))] trivial (by kernel_rfl) rfl fun gg43 => ?_
    refine wk_loop_inv (fun (mm : Nat) f H' => ∃ (lv : Bool) (q : Nat), H' = H40 ∧ agrees f [(2, (.int .i64 (pickV reg x5.regs))), (6, (.bool false)), (7, (.pointer (some ⟨b6, 0, none⟩))), (8, (.bool rd)), (12, (.slice ax40 x40.length kx40)), (13, (.slice ay40 y40.length ky40)), (14, (.bool lv)), (15, (.int .i64 (q : Int)))] ∧ mm = x5.blocks.length - q ∧ (q ≤ x5.blocks.length) ∧ (lv = true → rdP x5 (pickV reg x5.regs))) _ ⟨false, 0, rfl, (agC rfl (agC rfl (agC rfl (agC rfl (agC rfl (agC rfl (agC rfl (agC rfl agN)))))))), rfl, (by first | assumption | omega | (simp at *; omega)), (by intro h; cases h)⟩ ?_
    rintro mm44 f44 H40 ⟨lv, q, rfl, hf44, rfl, hq, hlv⟩ ih44
    refine wk_canon _ hf44 (fun gg44 => ?_)
    clear hf44
    refine wk_foc 2 rfl ?_
    refine wr 1 [] 80 89 [] [(89, (.bool ((decide ((q : Int) < (x40.length : Int))) && (decide ((q : Int) < (y40.length : Int))))))] trivial (by kernel_rfl) rfl fun gg45 => ?_
    refine wk_if 3 5 (v := ((decide ((q : Int) < (x40.length : Int))) && (decide ((q : Int) < (y40.length : Int))))) rfl rfl rfl rfl (fun c46b => ?_) (fun c46b => ?_)
    · have c46 := c46b
      try simp only [BS] at c46
      have hqn : q < x5.blocks.length := by omega
      have hxl := Lst.len (bk.hx q hqn) (by omega) (fun r h => lin_lt vF h)
      have hyl := Lst.len (bk.hy q hqn) (by omega) (fun r h => lout_lt vF h)
      obtain ⟨cf47, hv47⟩ := Sv.view (SR.sv hrx40 hs40)
      have s48 := fL (hv47 q)
      obtain ⟨cf49, hv49⟩ := Sv.view (SR.sv hry40 hs40)
      have s50 := fL (hv49 q)
      refine wr 2 [(5, .o (.slice (cA (cf47 q) 0) (x40.getD q default).length (cK (cf47 q) 0))), (7, .o (.bool (conV (x40.getD q default) (pickV reg x5.regs)))), (13, .o (.slice (cA (cf49 q) 0) (y40.getD q default).length (cK (cf49 q) 0))), (15, .o (.bool (conV (y40.getD q default) (pickV reg x5.regs))))] 92 108 [14] [(14, (.bool ((lv || conV (x40.getD q default) (pickV reg x5.regs)) || conV (y40.getD q default) (pickV reg x5.regs))))] (vA (fun (g1 : lv = false) => (Sv.ix (j := (q : Int)) (SR.sv hrx40 hs40) (by (try simp only [BS] at g1); omega) (by (try simp only [BS] at g1); omega))) (vA (fun (g1 : lv = false) => (ql 25 0 (vL (hv47 q) (by (try simp only [BS] at g1); omega)) rfl rfl)) (vA (fun (g1 : lv = false) => (m6.contains_c_q 15 (x40.getD q default) (pickV reg x5.regs) (HS.call hs40) s48 (by (try simp only [BS] at g1); omega) hT (by (try simp only [BS] at g1); omega))) (vA (fun (g1 : (lv || conV (x40.getD q default) (pickV reg x5.regs)) = false) => (Sv.ix (j := (q : Int)) (SR.sv hry40 hs40) (by (try simp only [BS] at g1); omega) (by (try simp only [BS] at g1); omega))) (vA (fun (g1 : (lv || conV (x40.getD q default) (pickV reg x5.regs)) = false) => (ql 25 0 (vL (hv49 q) (by (try simp only [BS] at g1); omega)) rfl rfl)) (vA (fun (g1 : (lv || conV (x40.getD q default) (pickV reg x5.regs)) = false) => (m6.contains_c_q 15 (y40.getD q default) (pickV reg x5.regs) (HS.call hs40) s50 (by (try simp only [BS] at g1); omega) hT (by (try simp only [BS] at g1); omega))) trivial)))))) (by kernel_rfl) rfl fun gg51 => ?_
      refine wr 1 [] 90 91 [15] [(15, (.int .i64 ((q : Int) + 1)))] (vA (vi (n := (q : Int) + 1) (by omega)) trivial) (by kernel_rfl) rfl fun gg52 => ?_
      refine ih44 _ _ _ ?_ ⟨((lv || conV (x40.getD q default) (pickV reg x5.regs)) || conV (y40.getD q default) (pickV reg x5.regs)), q + 1, rfl, (agC rfl (agC rfl (agC rfl (agC rfl (agC rfl (agC rfl (agC rfl (agC rfl agN)))))))), rfl, (by first | assumption | omega | (simp at *; omega)), (by intro h; simp only [Bool.or_eq_true] at h; rcases h with (h | h) | h; exact hlv h; exact lst_rd (bk.hx q (by omega)) h; exact lst_rd2 (bk.hy q (by omega)) h)⟩
      omega
    · have c46 := c46b
      try simp only [BS] at c46
      refine wr 1 [(9, .o (.slice ax5_2 x5.blocks.length kx5_2)), (14, .o (.bool true))] 109 124 [6] [(6, (.bool (((rd || (!lv)) && ((x40.length : Int) == (x5.blocks.length : Int))) && true)))] (vA (fun (g1 : (rd || (!lv)) = true) => (ql 22 2 (HS.hc hs40 (i := 0) rfl) rfl rfl)) (vA (fun (g1 : ((rd || (!lv)) && ((x40.length : Int) == (x5.blocks.length : Int))) = true) => (ex_c_q 15 (HS.call hs40) hT)) trivial)) (by kernel_rfl) rfl fun gg53 => ?_
      refine wk_ret ⟨.inr rfl, _, rfl, (((rd || (!lv)) && ((x40.length : Int) == (x5.blocks.length : Int))) && true), _, (Fz.le_trans (Fz.le_trans (hF5) hF13) hF40), (HS.forget hs40), rfl, (by have hfin : lv = true → rd = true := fun h => hrall (hlv h); cases lv <;> cases rd <;> simp_all)⟩
end Go.Proofs.YtlabedbmgmfbaaaDoor.ll
