/-
  Live registers: the solution of the equations, by a symbolic run. No condition but that the function is valid.
-/
import Derived.Test.YtlabedbmgmfbaaaDoorMB
noncomputable section
namespace Go.Proofs.YtlabedbmgmfbaaaDoor.mc
open Go.R
set_option maxRecDepth 10000
set_option linter.unusedVariables false
theorem ql {H : Heap} {b o : Nat} {cs : List Value} {w : Value} (t : TypeId) (i : Nat) (hc : HC H.get b o cs) (ha : aggOf Tryd.prog t = some false) (hv : cs[i]? = some w) : LDv Tryd.prog H t (.pointer (some ⟨b, o + i, none⟩)) w := ld1 hc ha hv
theorem qn {H : Heap} {b o : Nat} {cs l : List Value} (t : TypeId) (i n : Nat) (hc : HC H.get b o cs) (ha : aggOf Tryd.prog t = some true) (hs : szOf Tryd.prog t = some n) (hn : Nat.ble (i + n) cs.length = true) (hl : takeL (dropL cs i) n = l) : LDv Tryd.prog H t (.pointer (some ⟨b, o + i, none⟩)) (.agg ⟨l⟩) := ldN hc ha hs hn hl
open m1 m2 m3 m4 m5 m6 ma ml mb
theorem zset {l : List (List U64)} {k : Nat} {z : List U64} (h : ∀ j, j < k → l.getD j default = z) (hk : k < l.length) : ∀ j, j < k + 1 → (l.set k z).getD j default = z := fun j hj => by
  rw [at_set]
  split
  · rfl
  · rename_i hq; exact h j (by omega)
theorem mem_at {l : List Int} {q : Nat} (h : q < l.length) : l.getD q 0 ∈ l := by
  rw [List.getD_eq_getElem?_getD, List.getElem?_eq_getElem h]; exact List.getElem_mem h
theorem succ_step {I O : List (List U64)} {k q : Nat} {s : List U64} {l : List Int} (hq : q < l.length) (hk : k < O.length) (h : ∀ t ∈ l.take q, ∀ r, bI I t.toNat r → bI O k r) (hb : ∀ i, bitOf s i = (bitOf (O.getD k default) i || bitOf (I.getD (l.getD q 0).toNat default) i)) : ∀ t ∈ l.take (q + 1), ∀ r, bI I t.toNat r → bI (O.set k s) k r := by
  intro t ht r hr
  unfold bI
  rw [at_set, if_pos ⟨rfl, hk⟩, hb, Bool.or_eq_true]
  rw [take_snoc hq (d := 0), List.mem_append, List.mem_singleton] at ht
  rcases ht with ht | rfl
  · exact .inl (h t ht r hr)
  · exact .inr hr
theorem tr_start {b : BlkT} {S : Nat → Prop} {s z : List U64} {n : Nat} (hn : b.ins.length ≤ n) (hs : ∀ r, bitOf s r = true ↔ S r) (h : ∀ i, bitOf z i = (bitOf s i || decide ((i : Int) ∈ endV b))) (r : Nat) : bitOf z r = true ↔ tr (b.ins.drop n) (endS b S) r := by
  rw [List.drop_of_length_le hn, h, Bool.or_eq_true, hs, decide_eq_true_eq]; exact Iff.rfl
theorem cl_step {c : VFnT} {I O O3 : List (List U64)} {s z : List U64} {k : Nat} (hk : k < c.blocks.length) (hcl : ∀ b : Nat, (k : Int) < (b : Int) → b < c.blocks.length → Cl1 c I O b) (ho : ∀ j, j ≠ k → O3.getD j default = O.getD j default) (hs : ∀ t ∈ succV (blkN c k), ∀ r, bI I t.toNat r → bI O3 k r)
    (ht : ∀ r, bitOf s r = true ↔ inS (blkN c k) (bI O3 k) r) (hz : z = I.getD k default) (hb : ∀ i, bitOf z i = (bitOf (I.getD k default) i || bitOf s i)) : ∀ b : Nat, (k : Int) - 1 < (b : Int) → b < c.blocks.length → Cl1 c (I.set k z) O3 b := by
  intro b h1 h2
  rw [hz, set_getD]
  by_cases e : b = k
  · subst e
    refine ⟨hs, fun r hr => ?_⟩
    have := hb r
    rw [hz] at this
    unfold bI
    rw [this, (ht r).2 hr, Bool.or_true]
  · have h3 := hcl b (by omega) h2
    have e2 : bI O3 b = bI O b := by unfold bI; rw [ho b e]
    exact ⟨fun t ht r hr => by rw [e2]; exact h3.1 t ht r hr, fun r hr => h3.2 r (by rw [e2] at hr; exact hr)⟩
theorem cnt_t {m2 : Bool} {A B D : List (List U64)} (h0 : m2 = false → B = A) (h1 : m2 = true → cntI A < cntI B) (h : cntI B < cntI D) : cntI A < cntI D := by
  cases m2 with
  | false => rw [h0 rfl] at h; exact h
  | true => have := h1 rfl; omega
theorem keep0 {m2 r : Bool} {A B : List (List U64)} {k : Nat} {z : List U64} (h3 : r = false → z = B.getD k default) (hr : r = false) (h0 : m2 = false → B = A) : m2 = false → B.set k z = A := fun h => by rw [h3 hr, set_getD]; exact h0 h
theorem keep1 {m2 r : Bool} {A B : List (List U64)} {k : Nat} {z : List U64} (h3 : r = false → z = B.getD k default) (hr : r = false) (h1 : m2 = true → cntI A < cntI B) : m2 = true → cntI A < cntI (B.set k z) := fun h => by rw [h3 hr, set_getD]; exact h1 h
theorem use3 {α : Prop} {r : Bool} (h : r = false → α) (hr : r = false) : α := h hr
theorem use4 {α : Prop} {r : Bool} (h : r = true → α) (hr : r = true) : α := h hr
theorem succ_len {b : BlkT} : (succV b).length ≤ 2 := by
  unfold succV
  split
  · simp
  · split
    · exact ins_len
    · simp
theorem wd_le {c : VFnT} (h : 0 ≤ c.regs ∧ c.regs ≤ 3000) : c.regs ≤ 64 * ((wds c : Nat) : Int) ∧ wds c ≤ 48 := by
  unfold wds
  rw [Int.tdiv_eq_ediv_of_nonneg (by omega)]; omega

set_option maxHeartbeats 2000000 in
theorem analyze_c (ex : FuncId) {ac_2 : Option Addr} {kc_2 : Nat} (c : VFnT) {F : Fz} {H : Heap} {R : List Fp} (hs : HS (.of H []) F H [] R) (hc_0 : in64 c.params) (hc_1 : in64 c.regs) (hc_2 : SR F (.slice ac_2 c.blocks.length kc_2) c.blocks) (hT : TB 37 tabC F) (hval : valV c = true) (hins : ∀ j, (c.blocks.getD j default).ins.length ≤ 1099511627776) : C Tryd.prog 1 (KT 60 ex 37 tabC) 51 [(.agg ⟨[(.int .i64 c.params), (.int .i64 c.regs), (.slice ac_2 c.blocks.length kc_2)]⟩)] H fun v H' => ∃ (ail : Option Addr) (kil : Nat) (il : List (List U64)) (aol : Option Addr) (kol : Nat) (ol : List (List U64)) (F' : Fz), Fz.le F F' ∧ HS (.of H []) F' H' [] R ∧ v = .tuple ⟨[.slice ail il.length kil, .slice aol ol.length kol]⟩ ∧ SR F' (.slice ail il.length kil) il ∧ SR F' (.slice aol ol.length kol) ol ∧ (AnF c il ol) := by
  have vF := vF_of hval
  have hnb := vF.nb
  have hrg := vF.regs
  have hwd := wd_le hrg
  refine c_enter Tryd.func51 rfl rfl ?_
  refine wk_foc 1 rfl ?_
  refine wk_region ?_
  refine wo_rs (rs_box hs rfl rfl) rfl rfl ?_
  rintro _ H2 _ ⟨b1, rfl, hs2, _⟩
  have hs2 : HS _ _ _ [[(b1, .cells [(.int .i64 c.params), (.int .i64 c.regs), (.slice ac_2 c.blocks.length kc_2)] none false)]] _ := hs2
  refine wro 2 1 [] 1 0 [2, 3] [(2, (.slice none 0 0)), (3, (.slice none 0 0))] trivial (by kernel_rfl) rfl fun gg3 => ?_
  refine wo_end 2 rfl ?_
  refine wr 2 [(1, .o (.slice ac_2 c.blocks.length kc_2))] 13 15 [4] [(4, (.int .i64 (c.blocks.length : Int)))] (vA (ql 22 2 (HS.hc hs2 (i := 0) rfl) rfl rfl) trivial) (by kernel_rfl) rfl fun gg4 => ?_
  refine wf_region rfl ?_
  refine fm (.int .i64 (c.blocks.length : Int)) rfl rfl rfl ?_
  refine wf_rs (id := .x []) (rs_make (default : Hd) hs2.log0 rfl rfl rfl rfl rfl rfl rfl rfl rfl rfl (by first | (dsimp only; omega) | omega) (by first | (dsimp only; omega) | omega)) rfl rfl (by rintro _ _ p5 ⟨a5, k5, rfl, ho5, _, hwr⟩; exact did_x rfl rfl (Wr.did hwr)) (⟨.inl rfl, trivial⟩) ?_
  rintro _ H6 p5 ⟨a5, k5, rfl, ho5, hs6, _⟩ lg6 hlg6
  replace hs6 := HS.lg hs6 hs2 hlg6
  generalize ({ H6 with log := lg6 } : Heap) = H6g at hs6 ⊢
  have hs6 : HS _ _ _ [_, p5] _ := hs6
  have hs7 := HS.snoc hs6
  have hs7 : HS _ _ _ [_, _, []] _ := hs7
  have hf7 : SF F (List.replicate c.blocks.length (default : Hd)) (List.replicate c.blocks.length ([] : List U64)) [] := SF.rep _
  have fl7 := FAM.len hf7
  refine fm (.int .i64 (c.blocks.length : Int)) rfl rfl rfl ?_
  refine wf_rs (id := .x []) (rs_make (default : Hd) hs7.log0 rfl rfl rfl rfl rfl rfl rfl rfl rfl rfl (by first | (dsimp only; omega) | omega) (by first | (dsimp only; omega) | omega)) rfl rfl (by rintro _ _ p8 ⟨a8, k8, rfl, ho8, _, hwr⟩; exact did_x rfl rfl (Wr.did hwr)) (⟨.inl rfl, ⟨.inr ⟨trivial, trivial⟩, ⟨.inr trivial, trivial⟩⟩⟩) ?_
  rintro _ H9 p8 ⟨a8, k8, rfl, ho8, hs9, _⟩ lg9 hlg9
  replace hs9 := HS.lg hs9 hs7 hlg9
  generalize ({ H9 with log := lg9 } : Heap) = H9g at hs9 ⊢
  have hs9 : HS _ _ _ [_, _, _, p8] _ := hs9
  have hs10 := HS.snoc hs9
  have hs10 : HS _ _ _ [_, _, _, _, []] _ := hs10
  have hf10 : SF F (List.replicate c.blocks.length (default : Hd)) (List.replicate c.blocks.length ([] : List U64)) [] := SF.rep _
  have fl10 := FAM.len hf10
  refine fa (.slice a5 (List.replicate c.blocks.length (default : Hd)).length k5) rfl rfl rfl ?_
  refine fa (.slice a8 (List.replicate c.blocks.length (default : Hd)).length k8) rfl rfl rfl ?_
  refine wf_nil ?_
  refine wk_foc 3 rfl ?_
  refine wr 2 [] 20 22 [] [(21, (.int .i64 ((List.replicate c.blocks.length (default : Hd)).length : Int))), (22, (.int .i64 0))] trivial (by kernel_rfl) rfl fun gg11 => ?_
  refine wk_loop_inv (fun (mm : Nat) f H' => ∃ (oh : List Hd) (ol : List (List U64)) (ih : List Hd) (il : List (List U64)) (k : Nat) (la12_2 : Option Addr) (lk12_2 : Nat) (lp12_2 : Fp) (la12_3 : Option Addr) (lk12_3 : Nat) (lp12_3 : Fp) (lq12_1 : Fp) (lq12_3 : Fp) (F' : Fz), Fz.le F F' ∧ HS (Base.of H []) F' H' [[(b1, .cells [(.int .i64 c.params), (.int .i64 c.regs), (.slice ac_2 c.blocks.length kc_2)] none false)], lp12_2, lq12_1, lp12_3, lq12_3] R ∧ OS F' (.slice la12_2 ih.length lk12_2) ih lp12_2 ∧ OS F' (.slice la12_3 oh.length lk12_3) oh lp12_3 ∧ SF F' ih il lq12_1 ∧ SF F' oh ol lq12_3 ∧ agrees f [(1, (.pointer (some ⟨b1, 0, none⟩))), (2, (.slice la12_2 ih.length lk12_2)), (3, (.slice la12_3 oh.length lk12_3)), (4, (.int .i64 (c.blocks.length : Int))), (21, (.int .i64 ((List.replicate c.blocks.length (default : Hd)).length : Int))), (22, (.int .i64 (k : Int)))] ∧ mm = c.blocks.length - k ∧ (il.length = c.blocks.length) ∧ (ol.length = c.blocks.length) ∧ (∀ j, j < k → il.getD j default = List.replicate (wds c) ⟨0⟩) ∧ (∀ j, j < k → ol.getD j default = List.replicate (wds c) ⟨0⟩) ∧ (k ≤ c.blocks.length)) _ ⟨List.replicate c.blocks.length (default : Hd), List.replicate c.blocks.length ([] : List U64), List.replicate c.blocks.length (default : Hd), List.replicate c.blocks.length ([] : List U64), 0, a5, k5, p5, a8, k8, p8, [], [], _, (Fz.le_refl _), hs10, ho5, ho8, hf7, hf10, (agC rfl (agC rfl (agC rfl (agC rfl (agC rfl (agC rfl agN)))))), rfl, (by simp), (by simp), (by intro j hj; omega), (by intro j hj; omega), (by first | assumption | omega | (simp at *; omega))⟩ ?_
  rintro mm12 f12 H12 ⟨oh, ol, ih, il, k, la12_2, lk12_2, lp12_2, la12_3, lk12_3, lp12_3, lq12_1, lq12_3, F12, hF12, hs12, lh12_2, lh12_3, lf12_1, lf12_3, hf12, rfl, li, lo, zi, zo, hk⟩ ih12
  refine wk_canon _ hf12 (fun gg12 => ?_)
  clear hf12
  replace hT := hT.mono hF12
  replace hc_2 := hc_2.mono hF12
  have flf12_1 := FAM.len lf12_1
  have flf12_3 := FAM.len lf12_3
  have hrl : (List.replicate c.blocks.length (default : Hd)).length = c.blocks.length := List.length_replicate
  refine wk_foc 1 rfl ?_
  refine wr 2 [] 23 23 [] [(23, (.bool (decide ((k : Int) < ((List.replicate c.blocks.length (default : Hd)).length : Int)))))] trivial (by kernel_rfl) rfl fun gg13 => ?_
  refine wk_if 4 6 (v := (decide ((k : Int) < ((List.replicate c.blocks.length (default : Hd)).length : Int)))) rfl rfl rfl rfl (fun c14b => ?_) (fun c14b => ?_)
  · have c14 := c14b
    try simp only [BS] at c14
    refine wr 1 [] 24 24 [5] [(5, (.int .i64 (k : Int)))] trivial (by kernel_rfl) rfl fun gg15 => ?_
    refine wf_region rfl ?_
    refine fm (.slice la12_2 ih.length lk12_2) rfl rfl rfl ?_
    refine fm (.int .i64 (k : Int)) rfl rfl rfl ?_
    refine fm (.slice la12_3 oh.length lk12_3) rfl rfl rfl ?_
    refine fm (.int .i64 (k : Int)) rfl rfl rfl ?_
    refine wf_pure (v := (.pointer (some ⟨b1, 1, none⟩))) (id := .v) (ap_fa rfl rfl) rfl rfl (did_v rfl) (okD_v _) ?_
    refine wf_pure (v := (.int .i64 c.regs)) (id := .l b1) (ap_ld1 (i := 1) rfl rfl (HS.hc hs12.log0 (i := 0) rfl) rfl rfl) rfl rfl (did_l rfl) (⟨.inl rfl, ⟨.inr trivial, ⟨.inr trivial, ⟨.inr trivial, ⟨.inr trivial, trivial⟩⟩⟩⟩⟩) ?_
    refine wf_call (W := []) (ap_call rfl rfl rfl) rfl rfl rfl (mb.empty_c ex c.regs (HS.call hs12.log0) (by first | (dsimp only; omega) | omega) hT (by first | (dsimp only; omega) | omega)) (⟨.inl rfl, ⟨.inl rfl, ⟨.inr trivial, ⟨.inr trivial, ⟨.inr trivial, ⟨.inr trivial, trivial⟩⟩⟩⟩⟩⟩) ?_
    rintro _ H16 ⟨ar16, kr16, r16, p16, F16, hF16, hs16, rfl, hrr16, rfl⟩
    refine ⟨Wr.did hs16.log, fun lg16 hlg16 => ?_⟩
    replace hs16 := HS.back hs12.log0 rfl hs16
    replace hs16 := HS.lg hs16 hs12 hlg16
    generalize ({ H16 with log := lg16 } : Heap) = H16g at hs16 ⊢
    have hs16 : HS _ _ _ [_, lp12_2, lq12_1, lp12_3, lq12_3, p16] _ := hs16
    replace hT := hT.mono hF16
    replace hc_2 := hc_2.mono hF16
    replace lh12_2 := lh12_2.mono hF16
    replace lh12_3 := lh12_3.mono hF16
    replace lf12_1 := SF.mono hF16 lf12_1
    replace lf12_3 := SF.mono hF16 lf12_3
    refine wf_pure (v := (.pointer (some ⟨b1, 1, none⟩))) (id := .v) (ap_fa rfl rfl) rfl rfl (did_v rfl) (okD_v _) ?_
    refine wf_pure (v := (.int .i64 c.regs)) (id := .l b1) (ap_ld1 (i := 1) rfl rfl (HS.hc hs16.log0 (i := 0) rfl) rfl rfl) rfl rfl (did_l rfl) (⟨.inl rfl, ⟨.inr List.not_mem_nil, ⟨.inr trivial, ⟨.inr trivial, ⟨.inr trivial, ⟨.inr trivial, ⟨.inr trivial, ⟨.inr trivial, trivial⟩⟩⟩⟩⟩⟩⟩⟩) ?_
    refine wf_call (W := []) (ap_call rfl rfl rfl) rfl rfl rfl (mb.empty_c ex c.regs (HS.call hs16.log0) (by first | (dsimp only; omega) | omega) hT (by first | (dsimp only; omega) | omega)) (⟨.inl rfl, ⟨.inl rfl, ⟨.inl rfl, ⟨.inl rfl, ⟨.inl rfl, ⟨.inr trivial, ⟨.inr trivial, ⟨.inr trivial, ⟨.inr trivial, trivial⟩⟩⟩⟩⟩⟩⟩⟩⟩) ?_
    rintro _ H17 ⟨ar17, kr17, r17, p17, F17, hF17, hs17, rfl, hrr17, rfl⟩
    refine ⟨Wr.did hs17.log, fun lg17 hlg17 => ?_⟩
    replace hs17 := HS.back hs16.log0 rfl hs17
    replace hs17 := HS.lg hs17 hs16 hlg17
    generalize ({ H17 with log := lg17 } : Heap) = H17g at hs17 ⊢
    have hs17 : HS _ _ _ [_, _, _, _, _, _, p17] _ := hs17
    replace hT := hT.mono hF17
    replace hc_2 := hc_2.mono hF17
    replace hrr16 := hrr16.mono hF17
    replace lh12_2 := lh12_2.mono hF17
    replace lh12_3 := lh12_3.mono hF17
    replace lf12_1 := SF.mono hF17 lf12_1
    replace lf12_3 := SF.mono hF17 lf12_3
    refine wf_pure (v := (.pointer (some ⟨sB (.slice la12_2 ih.length lk12_2), sO (.slice la12_2 ih.length lk12_2) + k * Rp.sz Hd, none⟩))) (id := .v) (ap_idxV (α := Hd) (j := (k : Int)) rfl rfl rfl rfl (OS.sv lh12_2 hs17.log0 (i := 1) rfl) (by first | (dsimp only; omega) | omega) (by first | (dsimp only; omega) | omega)) rfl rfl (did_v rfl) (okD_v _) ?_
    obtain ⟨fp18, fc18, hs18, ho18, fw18⟩ := SF.open lf12_1 hs17 (q := 2) (i := k) rfl (by first | (dsimp only; omega) | omega)
    have hs18 : HS _ _ _ [_, _, fp18, _, _, _, _, fc18] _ := hs18
    have ho18 : OS F17 (.slice (ih.getD k default).a (ih.getD k default).n (ih.getD k default).k) (il.getD k default) fc18 := ho18
    have ln18 := OS.nlen ho18
    obtain ⟨fq19, hs19, hf19⟩ := SF.shutN (⟨ar16, (List.replicate (Int.tdiv (c.regs + 63) 64).toNat (⟨0⟩ : U64)).length, kr16⟩ : Hd) fw18 (Fz.le_refl _) hs18 (q := 2) (m := 5) (by decide) rfl rfl hrr16
    have hs19 : HS _ _ _ [_, _, fq19, _, _, [], _, _] _ := hs19
    have fl19 := FAM.len hf19
    refine wf_rk (id := .x (lp12_2.map Prod.fst)) (rs_st (α := Hd) (j := k) (off := 0) (q := 1) (⟨ar16, (List.replicate (Int.tdiv (c.regs + 63) 64).toNat (⟨0⟩ : U64)).length, kr16⟩ : Hd) lh12_2 hs19.log0 rfl rfl rfl rfl rfl rfl rfl rfl (getD_at (x := default) (by first | (dsimp only; omega) | omega)) rfl (by rintro cs rfl; exact ⟨Nat.le_of_ble_eq_true rfl, rfl⟩)) rfl (by rintro _ _ p20 ⟨ho21, _, hwr⟩; exact did_x rfl rfl (Wr.did hwr)) (⟨.inl rfl, ⟨.inl rfl, ⟨.inl rfl, ⟨.inl rfl, ⟨.inl rfl, ⟨.inl rfl, ⟨.inl rfl, ⟨.inr trivial, ⟨.inr trivial, ⟨.inl rfl, ⟨.inl rfl, trivial⟩⟩⟩⟩⟩⟩⟩⟩⟩⟩⟩) ?_
    rintro _ H22 p20 ⟨ho21, hs22, _⟩ lg22 hlg22
    replace hs22 := HS.lg hs22 hs19 hlg22
    generalize ({ H22 with log := lg22 } : Heap) = H22g at hs22 ⊢
    have hs22 : HS _ _ _ [_, p20, _, _, _, _, _, _] _ := hs22
    have hnp20 := OS.len' ho21
    refine wf_pure (v := (.pointer (some ⟨sB (.slice la12_3 oh.length lk12_3), sO (.slice la12_3 oh.length lk12_3) + k * Rp.sz Hd, none⟩))) (id := .v) (ap_idxV (α := Hd) (j := (k : Int)) rfl rfl rfl rfl (OS.sv lh12_3 hs22.log0 (i := 3) rfl) (by first | (dsimp only; omega) | omega) (by first | (dsimp only; omega) | omega)) rfl rfl (did_v rfl) (okD_v _) ?_
    obtain ⟨fp23, fc23, hs23, ho23, fw23⟩ := SF.open lf12_3 hs22 (q := 4) (i := k) rfl (by first | (dsimp only; omega) | omega)
    have hs23 : HS _ _ _ [_, _, _, _, fp23, _, _, _, fc23] _ := hs23
    have ho23 : OS F17 (.slice (oh.getD k default).a (oh.getD k default).n (oh.getD k default).k) (ol.getD k default) fc23 := ho23
    have ln23 := OS.nlen ho23
    obtain ⟨fq24, hs24, hf24⟩ := SF.shutN (⟨ar17, (List.replicate (Int.tdiv (c.regs + 63) 64).toNat (⟨0⟩ : U64)).length, kr17⟩ : Hd) fw23 (Fz.le_refl _) hs23 (q := 4) (m := 6) (by decide) rfl rfl hrr17
    have hs24 : HS _ _ _ [_, _, _, _, fq24, _, [], _, _] _ := hs24
    have fl24 := FAM.len hf24
    refine wf_rk (id := .x (lp12_3.map Prod.fst)) (rs_st (α := Hd) (j := k) (off := 0) (q := 3) (⟨ar17, (List.replicate (Int.tdiv (c.regs + 63) 64).toNat (⟨0⟩ : U64)).length, kr17⟩ : Hd) lh12_3 hs24.log0 rfl rfl rfl rfl rfl rfl rfl rfl (getD_at (x := default) (by first | (dsimp only; omega) | omega)) rfl (by rintro cs rfl; exact ⟨Nat.le_of_ble_eq_true rfl, rfl⟩)) rfl (by rintro _ _ p25 ⟨ho26, _, hwr⟩; exact did_x rfl rfl (Wr.did hwr)) (⟨.inl rfl, ⟨.inl rfl, ⟨.inl rfl, ⟨.inl rfl, ⟨.inl rfl, ⟨.inl rfl, ⟨.inl rfl, ⟨.inl rfl, ⟨.inl rfl, ⟨.inl rfl, ⟨.inl rfl, ⟨.inl rfl, ⟨.inl rfl, trivial⟩⟩⟩⟩⟩⟩⟩⟩⟩⟩⟩⟩⟩) ?_
    rintro _ H27 p25 ⟨ho26, hs27, _⟩ lg27 hlg27
    replace hs27 := HS.lg hs27 hs24 hlg27
    generalize ({ H27 with log := lg27 } : Heap) = H27g at hs27 ⊢
    have hs27 : HS _ _ _ [_, _, _, p25, _, _, _, _, _] _ := hs27
    have hnp25 := OS.len' ho26
    refine wf_nil ?_
    refine wk_foc 2 rfl ?_
    refine wr 1 [] 22 22 [37] [(22, (.int .i64 ((k : Int) + 1)))] (vA (vi (n := (k : Int) + 1) (by first | (dsimp only; omega) | omega)) trivial) (by kernel_rfl) rfl fun gg28 => ?_
    refine ih12 _ _ _ ?_ ⟨oh.set k (⟨ar17, (List.replicate (Int.tdiv (c.regs + 63) 64).toNat (⟨0⟩ : U64)).length, kr17⟩ : Hd), ol.set k (List.replicate (Int.tdiv (c.regs + 63) 64).toNat (⟨0⟩ : U64)), ih.set k (⟨ar16, (List.replicate (Int.tdiv (c.regs + 63) 64).toNat (⟨0⟩ : U64)).length, kr16⟩ : Hd), il.set k (List.replicate (Int.tdiv (c.regs + 63) 64).toNat (⟨0⟩ : U64)), k + 1, la12_2, lk12_2, p20, la12_3, lk12_3, p25, fq19, fq24, _, (Fz.le_trans (Fz.le_trans (hF12) hF16) hF17), (HS.sub hs27 (List.sublist_append_left _ _)), (OS.norm ho21), (OS.norm ho26), hf19, hf24, (agC rfl (agC (show Value.slice la12_2 ih.length lk12_2 = Value.slice la12_2 (ih.set k (⟨ar16, (List.replicate (Int.tdiv (c.regs + 63) 64).toNat (⟨0⟩ : U64)).length, kr16⟩ : Hd)).length lk12_2 by rw [OS.len' ho21]) (agC (show Value.slice la12_3 oh.length lk12_3 = Value.slice la12_3 (oh.set k (⟨ar17, (List.replicate (Int.tdiv (c.regs + 63) 64).toNat (⟨0⟩ : U64)).length, kr17⟩ : Hd)).length lk12_3 by rw [OS.len' ho26]) (agC rfl (agC rfl (agC rfl agN)))))), rfl, (by rw [List.length_set]; exact li), (by rw [List.length_set]; exact lo), (by exact zset zi (by omega)), (by exact zset zo (by omega)), (by first | assumption | omega | (simp at *; omega))⟩
    omega
  · have c14 := c14b
    try simp only [BS] at c14
    refine wr 2 [] 1 0 [6] [(6, (.bool true))] trivial (by kernel_rfl) rfl fun gg29 => ?_
    refine wk_loop_inv (fun (mm : Nat) f H' => ∃ (oh1 : List Hd) (ol1 : List (List U64)) (ih1 : List Hd) (il1 : List (List U64)) (mo : Bool) (la30_2 : Option Addr) (lk30_2 : Nat) (lp30_2 : Fp) (la30_3 : Option Addr) (lk30_3 : Nat) (lp30_3 : Fp) (lq30_1 : Fp) (lq30_3 : Fp) (F' : Fz), Fz.le F12 F' ∧ HS (Base.of H []) F' H' [[(b1, .cells [(.int .i64 c.params), (.int .i64 c.regs), (.slice ac_2 c.blocks.length kc_2)] none false)], lp30_2, lq30_1, lp30_3, lq30_3] R ∧ OS F' (.slice la30_2 ih1.length lk30_2) ih1 lp30_2 ∧ OS F' (.slice la30_3 oh1.length lk30_3) oh1 lp30_3 ∧ SF F' ih1 il1 lq30_1 ∧ SF F' oh1 ol1 lq30_3 ∧ agrees f [(1, (.pointer (some ⟨b1, 0, none⟩))), (2, (.slice la30_2 ih1.length lk30_2)), (3, (.slice la30_3 oh1.length lk30_3)), (4, (.int .i64 (c.blocks.length : Int))), (6, (.bool mo))] ∧ mm = mea mo (c.blocks.length * (64 * wds c)) (cntI il1) ∧ (Snd c il1 ol1) ∧ (mo = false → ∀ b, b < c.blocks.length → Cl1 c il1 ol1 b)) _ ⟨oh, ol, ih, il, true, la12_2, lk12_2, lp12_2, la12_3, lk12_3, lp12_3, lq12_1, lq12_3, _, (Fz.le_refl _), hs12, lh12_2, lh12_3, lf12_1, lf12_3, (agC rfl (agC rfl (agC rfl (agC rfl (agC rfl agN))))), rfl, (by exact snd_start li lo (fun j hj => zi j (by omega)) (fun j hj => zo j (by omega))), (by intro h; cases h)⟩ ?_
    rintro mm30 f30 H30 ⟨oh1, ol1, ih1, il1, mo, la30_2, lk30_2, lp30_2, la30_3, lk30_3, lp30_3, lq30_1, lq30_3, F30, hF30, hs30, lh30_2, lh30_3, lf30_1, lf30_3, hf30, rfl, snd, cl⟩ ih30
    refine wk_canon _ hf30 (fun gg30 => ?_)
    clear hf30
    replace hT := hT.mono hF30
    replace hc_2 := hc_2.mono hF30
    have flf30_1 := FAM.len lf30_1
    have flf30_3 := FAM.len lf30_3
    have hli := snd.li
    have hlo := snd.lo
    refine wk_foc 2 rfl ?_
    refine wr 1 [] 38 38 [] [(38, (.bool mo))] trivial (by kernel_rfl) rfl fun gg31 => ?_
    refine wk_if 3 5 (v := mo) rfl rfl rfl rfl (fun c32b => ?_) (fun c32b => ?_)
    · have c32 := c32b
      try simp only [BS] at c32
      have hmo := c32
      refine wr 2 [] 1 0 [6] [(6, (.bool false))] trivial (by kernel_rfl) rfl fun gg33 => ?_
      refine wr 2 [] 39 40 [7] [(7, (.int .i64 ((c.blocks.length : Int) - 1)))] (vA (vi (n := (c.blocks.length : Int) - 1) (by first | (dsimp only; omega) | omega)) trivial) (by kernel_rfl) rfl fun gg34 => ?_
      refine wk_loop_inv (fun (mm : Nat) f H' => ∃ (oh2 : List Hd) (ol2 : List (List U64)) (ih2 : List Hd) (il2 : List (List U64)) (kz : Int) (m2 : Bool) (la35_2 : Option Addr) (lk35_2 : Nat) (lp35_2 : Fp) (la35_3 : Option Addr) (lk35_3 : Nat) (lp35_3 : Fp) (lq35_1 : Fp) (lq35_3 : Fp) (F' : Fz), Fz.le F30 F' ∧ HS (Base.of H []) F' H' [[(b1, .cells [(.int .i64 c.params), (.int .i64 c.regs), (.slice ac_2 c.blocks.length kc_2)] none false)], lp35_2, lq35_1, lp35_3, lq35_3] R ∧ OS F' (.slice la35_2 ih2.length lk35_2) ih2 lp35_2 ∧ OS F' (.slice la35_3 oh2.length lk35_3) oh2 lp35_3 ∧ SF F' ih2 il2 lq35_1 ∧ SF F' oh2 ol2 lq35_3 ∧ agrees f [(1, (.pointer (some ⟨b1, 0, none⟩))), (2, (.slice la35_2 ih2.length lk35_2)), (3, (.slice la35_3 oh2.length lk35_3)), (4, (.int .i64 (c.blocks.length : Int))), (6, (.bool m2)), (7, (.int .i64 kz)), (38, (.bool mo))] ∧ mm = (kz + 1).toNat ∧ (Snd c il2 ol2) ∧ (-1 ≤ kz ∧ kz < (c.blocks.length : Int)) ∧ (m2 = false → il2 = il1) ∧ (m2 = true → cntI il1 < cntI il2) ∧ (m2 = false → ∀ b : Nat, kz < (b : Int) → b < c.blocks.length → Cl1 c il2 ol2 b)) _ ⟨oh1, ol1, ih1, il1, (c.blocks.length : Int) - 1, false, la30_2, lk30_2, lp30_2, la30_3, lk30_3, lp30_3, lq30_1, lq30_3, _, (Fz.le_refl _), hs30, lh30_2, lh30_3, lf30_1, lf30_3, (agC rfl (agC rfl (agC rfl (agC rfl (agC rfl (agC rfl (agC rfl agN))))))), rfl, (by exact snd), (by first | assumption | omega | (simp at *; omega)), (by exact fun _ => rfl), (by intro h; cases h), (by intro _ b h1 h2; omega)⟩ ?_
      rintro mm35 f35 H35 ⟨oh2, ol2, ih2, il2, kz, m2, la35_2, lk35_2, lp35_2, la35_3, lk35_3, lp35_3, lq35_1, lq35_3, F35, hF35, hs35, lh35_2, lh35_3, lf35_1, lf35_3, hf35, rfl, snd2, hkz, hm0, hm1, hcl⟩ ih35
      refine wk_canon _ hf35 (fun gg35 => ?_)
      clear hf35
      replace hT := hT.mono hF35
      replace hc_2 := hc_2.mono hF35
      have flf35_1 := FAM.len lf35_1
      have flf35_3 := FAM.len lf35_3
      have hli2 := snd2.li
      have hlo2 := snd2.lo
      refine wk_foc 2 rfl ?_
      refine wr 1 [] 41 42 [] [(42, (.bool (decide ((0 : Int) ≤ kz))))] trivial (by kernel_rfl) rfl fun gg36 => ?_
      refine wk_if 4 5 (v := (decide ((0 : Int) ≤ kz))) rfl rfl rfl rfl (fun c37b => ?_) (fun c37b => ?_)
      · have c37 := c37b
        try simp only [BS] at c37
        have hkn : kz.toNat < c.blocks.length := by omega
        have hbl := hins kz.toNat
        have hfn : ((c.blocks.getD kz.toNat default).fin = 2 ∨ (c.blocks.getD kz.toNat default).fin = 3) → 0 ≤ (c.blocks.getD kz.toNat default).reg ∧ (c.blocks.getD kz.toNat default).reg < c.regs := vF.fin kz.toNat hkn
        have clk : ∀ {Q : Nat → Prop}, (∀ b : Nat, ((kz.toNat : Nat) : Int) - 1 < (b : Int) → Q b) → ∀ b : Nat, kz - 1 < (b : Int) → Q b := fun h b hb => h b (by omega)
        refine wk_region ?_
        obtain ⟨cf38, hv38⟩ := Sv.view (SR.sv hc_2 hs35)
        obtain ⟨g39_1, g39_2, g39_3, g39_4, s39_0⟩ := BlkT.fx (hv38 kz.toNat)
        refine wro 5 0 [(1, .o (.slice ac_2 c.blocks.length kc_2)), (4, .o (.agg ⟨[(.slice (cA (cf38 kz.toNat) 0) ((c.blocks.getD kz.toNat default).ins).length (cK (cf38 kz.toNat) 0)), (.int .i64 ((c.blocks.getD kz.toNat default).fin)), (.int .i64 ((c.blocks.getD kz.toNat default).reg)), (.int .i64 ((c.blocks.getD kz.toNat default).tgt)), (.int .i64 ((c.blocks.getD kz.toNat default).els))]⟩))] 45 49 [] [(49, (.agg ⟨[(.slice (cA (cf38 kz.toNat) 0) ((c.blocks.getD kz.toNat default).ins).length (cK (cf38 kz.toNat) 0)), (.int .i64 ((c.blocks.getD kz.toNat default).fin)), (.int .i64 ((c.blocks.getD kz.toNat default).reg)), (.int .i64 ((c.blocks.getD kz.toNat default).tgt)), (.int .i64 ((c.blocks.getD kz.toNat default).els))]⟩))] (vA (ql 22 2 (HS.hc hs35 (i := 0) rfl) rfl rfl) (vA (Sv.ix (j := kz) (SR.sv hc_2 hs35) (by first | (dsimp only; omega) | omega) (by first | (dsimp only; omega) | omega)) (vA (qn 42 0 5 (BlkT.vw (hv38 kz.toNat) (by first | (dsimp only; omega) | omega)) rfl rfl rfl rfl) trivial))) (by kernel_rfl) rfl fun gg40 => ?_
        refine wo_rs (rs_new hs35 rfl) rfl rfl ?_
        rintro _ H42 _ ⟨b41, rfl, hs42, _⟩
        have hs42 : HS _ _ _ [_, lp35_2, lq35_1, lp35_3, lq35_3, [(b41, .cells [(.slice none 0 0), (.int .i64 0), (.int .i64 0), (.int .i64 0), (.int .i64 0)] none false)]] _ := hs42
        refine wo_rk (rs_rec (q := 5) hs42 rfl rfl rfl rfl rfl rfl rfl rfl rfl) rfl ?_
        rintro _ H43 _ ⟨hs43, _⟩
        have hs43 : HS _ _ _ [_, _, _, _, _, [(b41, .cells [(.slice (cA (cf38 kz.toNat) 0) ((c.blocks.getD kz.toNat default).ins).length (cK (cf38 kz.toNat) 0)), (.int .i64 ((c.blocks.getD kz.toNat default).fin)), (.int .i64 ((c.blocks.getD kz.toNat default).reg)), (.int .i64 ((c.blocks.getD kz.toNat default).tgt)), (.int .i64 ((c.blocks.getD kz.toNat default).els))] none false)]] _ := hs43
        refine wo_end 3 rfl ?_
        refine wk_region ?_
        refine wro 1 0 [(0, .o (.agg ⟨[(.slice (cA (cf38 kz.toNat) 0) ((c.blocks.getD kz.toNat default).ins).length (cK (cf38 kz.toNat) 0)), (.int .i64 ((c.blocks.getD kz.toNat default).fin)), (.int .i64 ((c.blocks.getD kz.toNat default).reg)), (.int .i64 ((c.blocks.getD kz.toNat default).tgt)), (.int .i64 ((c.blocks.getD kz.toNat default).els))]⟩))] 50 50 [] [(50, (.agg ⟨[(.slice (cA (cf38 kz.toNat) 0) ((c.blocks.getD kz.toNat default).ins).length (cK (cf38 kz.toNat) 0)), (.int .i64 ((c.blocks.getD kz.toNat default).fin)), (.int .i64 ((c.blocks.getD kz.toNat default).reg)), (.int .i64 ((c.blocks.getD kz.toNat default).tgt)), (.int .i64 ((c.blocks.getD kz.toNat default).els))]⟩))] (vA (qn 42 0 5 (HS.hc hs43 (i := 5) rfl) rfl rfl rfl rfl) trivial) (by kernel_rfl) rfl fun gg44 => ?_
        refine wo_call (ap_call rfl rfl rfl) rfl rfl (ma.vsucc_c ex (c.blocks.getD kz.toNat default) (HS.call hs43) s39_0 (by first | (dsimp only; omega) | omega) (by first | (dsimp only; omega) | omega) (by first | (dsimp only; omega) | omega) (by first | (dsimp only; omega) | omega) hT) ?_
        rintro _ H45 ⟨ar45, kr45, r45, p45, F45, hF45, hs45, rfl, hrr45, rfl⟩
        replace hs45 := HS.back hs43 rfl hs45
        have hs45 : HS _ _ _ [_, _, _, _, _, _, p45] _ := hs45
        replace hT := hT.mono hF45
        replace hc_2 := hc_2.mono hF45
        replace lh35_2 := lh35_2.mono hF45
        replace lh35_3 := lh35_3.mono hF45
        replace s39_0 := s39_0.mono hF45
        replace lf35_1 := SF.mono hF45 lf35_1
        replace lf35_3 := SF.mono hF45 lf35_3
        refine wro 2 2 [] 52 53 [] [(52, (.int .i64 ((succV (c.blocks.getD kz.toNat default)).length : Int))), (53, (.int .i64 0))] trivial (by kernel_rfl) rfl fun gg46 => ?_
        refine wo_end 2 rfl ?_
        refine wk_loop_inv (fun (mm : Nat) f H' => ∃ (oh3 : List Hd) (ol3 : List (List U64)) (q : Nat) (la47_3 : Option Addr) (lk47_3 : Nat) (lp47_3 : Fp) (lq47_3 : Fp) (lq47_1 : Fp) (F' : Fz), Fz.le F45 F' ∧ HS (Base.of H []) F' H' [[(b1, .cells [(.int .i64 c.params), (.int .i64 c.regs), (.slice ac_2 c.blocks.length kc_2)] none false)], lp35_2, lq47_1, lp47_3, lq47_3, [(b41, .cells [(.slice (cA (cf38 kz.toNat) 0) ((c.blocks.getD kz.toNat default).ins).length (cK (cf38 kz.toNat) 0)), (.int .i64 ((c.blocks.getD kz.toNat default).fin)), (.int .i64 ((c.blocks.getD kz.toNat default).reg)), (.int .i64 ((c.blocks.getD kz.toNat default).tgt)), (.int .i64 ((c.blocks.getD kz.toNat default).els))] none false)], p45] R ∧ OS F' (.slice la47_3 oh3.length lk47_3) oh3 lp47_3 ∧ SF F' oh3 ol3 lq47_3 ∧ SF F' ih2 il2 lq47_1 ∧ agrees f [(1, (.pointer (some ⟨b1, 0, none⟩))), (2, (.slice la35_2 ih2.length lk35_2)), (3, (.slice la47_3 oh3.length lk47_3)), (4, (.int .i64 (c.blocks.length : Int))), (6, (.bool m2)), (7, (.int .i64 kz)), (8, (.pointer (some ⟨b41, 0, none⟩))), (38, (.bool mo)), (42, (.bool (decide ((0 : Int) ≤ kz)))), (49, (.agg ⟨[(.slice (cA (cf38 kz.toNat) 0) ((c.blocks.getD kz.toNat default).ins).length (cK (cf38 kz.toNat) 0)), (.int .i64 ((c.blocks.getD kz.toNat default).fin)), (.int .i64 ((c.blocks.getD kz.toNat default).reg)), (.int .i64 ((c.blocks.getD kz.toNat default).tgt)), (.int .i64 ((c.blocks.getD kz.toNat default).els))]⟩)), (50, (.agg ⟨[(.slice (cA (cf38 kz.toNat) 0) ((c.blocks.getD kz.toNat default).ins).length (cK (cf38 kz.toNat) 0)), (.int .i64 ((c.blocks.getD kz.toNat default).fin)), (.int .i64 ((c.blocks.getD kz.toNat default).reg)), (.int .i64 ((c.blocks.getD kz.toNat default).tgt)), (.int .i64 ((c.blocks.getD kz.toNat default).els))]⟩)), (51, (.slice ar45 (succV (c.blocks.getD kz.toNat default)).length kr45)), (52, (.int .i64 ((succV (c.blocks.getD kz.toNat default)).length : Int))), (53, (.int .i64 (q : Int)))] ∧ mm = (succV (c.blocks.getD kz.toNat default)).length - q ∧ (Snd c il2 ol3) ∧ (q ≤ (succV (c.blocks.getD kz.toNat default)).length) ∧ (∀ j, j ≠ kz.toNat → ol3.getD j default = ol2.getD j default) ∧ (∀ t ∈ (succV (c.blocks.getD kz.toNat default)).take q, ∀ r, bI il2 t.toNat r → bI ol3 kz.toNat r)) _ ⟨oh2, ol2, 0, la35_3, lk35_3, lp35_3, lq35_3, lq35_1, _, (Fz.le_refl _), hs45, lh35_3, lf35_3, lf35_1, (agC rfl (agC rfl (agC rfl (agC rfl (agC rfl (agC rfl (agC rfl (agC rfl (agC rfl (agC rfl (agC rfl (agC rfl (agC rfl (agC rfl agN)))))))))))))), rfl, (by exact snd2), (by first | assumption | omega | (simp at *; omega)), (by exact fun _ _ => rfl), (by intro t ht; cases ht)⟩ ?_
        rintro mm47 f47 H47 ⟨oh3, ol3, q, la47_3, lk47_3, lp47_3, lq47_3, lq47_1, F47, hF47, hs47, lh47_3, lf47_3, lf47_1, hf47, rfl, snd3, hq, ho3, hs3⟩ ih47
        refine wk_canon _ hf47 (fun gg47 => ?_)
        clear hf47
        replace hT := hT.mono hF47
        replace hc_2 := hc_2.mono hF47
        replace hrr45 := hrr45.mono hF47
        replace lh35_2 := lh35_2.mono hF47
        replace s39_0 := s39_0.mono hF47
        have flf47_3 := FAM.len lf47_3
        have flf47_1 := FAM.len lf47_1
        have hsl2 := succ_len (b := (c.blocks.getD kz.toNat default))
        have hlo3 := snd3.lo
        have hwo3 := snd3.wo kz.toNat hkn
        refine wk_foc 1 rfl ?_
        refine wr 2 [] 54 54 [] [(54, (.bool (decide ((q : Int) < ((succV (c.blocks.getD kz.toNat default)).length : Int)))))] trivial (by kernel_rfl) rfl fun gg48 => ?_
        refine wk_if 4 5 (v := (decide ((q : Int) < ((succV (c.blocks.getD kz.toNat default)).length : Int)))) rfl rfl rfl rfl (fun c49b => ?_) (fun c49b => ?_)
        · have c49 := c49b
          try simp only [BS] at c49
          have hmem := mem_at (l := succV (c.blocks.getD kz.toNat default)) (q := q) (by omega)
          have hst := vF.succ kz.toNat hkn _ hmem
          have hwi3 := snd3.wi ((succV (c.blocks.getD kz.toNat default)).getD q 0).toNat (by omega)
          obtain ⟨cf50, hv50⟩ := Sv.view (OS.sv hrr45 hs47 (i := 6) rfl)
          have g51 := fI (hv50 q)
          refine wr 1 [(1, .o (.int .i64 ((succV (c.blocks.getD kz.toNat default)).getD q 0)))] 55 56 [10] [(10, (.int .i64 ((succV (c.blocks.getD kz.toNat default)).getD q 0)))] (vA (Sv.ix (j := (q : Int)) (OS.sv hrr45 hs47 (i := 6) rfl) (by first | (dsimp only; omega) | omega) (by first | (dsimp only; omega) | omega)) (vA (ql 3 0 (vI (hv50 q) (by first | (dsimp only; omega) | omega)) rfl rfl) trivial)) (by kernel_rfl) rfl fun gg52 => ?_
          refine wf_region rfl ?_
          refine fm (.slice la47_3 oh3.length lk47_3) rfl rfl rfl ?_
          refine fm (.int .i64 kz) rfl rfl rfl ?_
          refine wf_pure (v := (.pointer (some ⟨sB (.slice la47_3 oh3.length lk47_3), sO (.slice la47_3 oh3.length lk47_3) + kz.toNat * Rp.sz Hd, none⟩))) (id := .v) (ap_idxV (α := Hd) (j := kz) rfl rfl rfl rfl (OS.sv lh47_3 hs47.log0 (i := 3) rfl) (by first | (dsimp only; omega) | omega) (by first | (dsimp only; omega) | omega)) rfl rfl (did_v rfl) (okD_v _) ?_
          obtain ⟨cf53, hv53⟩ := Sv.view (OS.sv lh47_3 hs47.log0 (i := 3) rfl)
          obtain ⟨fp55, fc55, hs55, ho55, fw55⟩ := SF.open lf47_3 hs47 (q := 4) (i := kz.toNat) rfl (by first | (dsimp only; omega) | omega)
          have hs55 : HS _ _ _ [_, _, lq47_1, lp47_3, fp55, _, _, fc55] _ := hs55
          have ho55 : OS F47 (.slice (oh3.getD kz.toNat default).a (oh3.getD kz.toNat default).n (oh3.getD kz.toNat default).k) (ol3.getD kz.toNat default) fc55 := ho55
          have ln55 := OS.nlen ho55
          refine wf_pure (v := (.slice (oh3.getD kz.toNat default).a (oh3.getD kz.toNat default).n (oh3.getD kz.toNat default).k)) (id := .l (sB (.slice la47_3 oh3.length lk47_3))) (ap_ld1 (i := 0) rfl rfl (vH (hv53 kz.toNat) (by first | (dsimp only; omega) | omega)) rfl rfl) rfl rfl (did_l rfl) (⟨.inl rfl, ⟨.inl rfl, ⟨.inl rfl, trivial⟩⟩⟩) ?_
          refine fm (.slice la35_2 ih2.length lk35_2) rfl rfl rfl ?_
          refine fm (.int .i64 ((succV (c.blocks.getD kz.toNat default)).getD q 0)) rfl rfl rfl ?_
          refine wf_pure (v := (.pointer (some ⟨sB (.slice la35_2 ih2.length lk35_2), sO (.slice la35_2 ih2.length lk35_2) + (((succV (c.blocks.getD kz.toNat default)).getD q 0).toNat) * Rp.sz Hd, none⟩))) (id := .v) (ap_idxV (α := Hd) (j := ((succV (c.blocks.getD kz.toNat default)).getD q 0)) rfl rfl rfl rfl (OS.sv lh35_2 hs55.log0 (i := 1) rfl) (by first | (dsimp only; omega) | omega) (by first | (dsimp only; omega) | omega)) rfl rfl (did_v rfl) (okD_v _) ?_
          obtain ⟨cf56, hv56⟩ := Sv.view (OS.sv lh35_2 hs55.log0 (i := 1) rfl)
          obtain ⟨fp58, fc58, hs58, ho58, fw58⟩ := SF.open lf47_1 hs55 (q := 2) (i := ((succV (c.blocks.getD kz.toNat default)).getD q 0).toNat) rfl (by first | (dsimp only; omega) | omega)
          have hs58 : HS _ _ _ [_, _, fp58, _, _, _, _, _, fc58] _ := hs58
          have ho58 : OS F47 (.slice (ih2.getD (((succV (c.blocks.getD kz.toNat default)).getD q 0).toNat) default).a (ih2.getD (((succV (c.blocks.getD kz.toNat default)).getD q 0).toNat) default).n (ih2.getD (((succV (c.blocks.getD kz.toNat default)).getD q 0).toNat) default).k) (il2.getD (((succV (c.blocks.getD kz.toNat default)).getD q 0).toNat) default) fc58 := ho58
          have ln58 := OS.nlen ho58
          refine wf_pure (v := (.slice (ih2.getD (((succV (c.blocks.getD kz.toNat default)).getD q 0).toNat) default).a (ih2.getD (((succV (c.blocks.getD kz.toNat default)).getD q 0).toNat) default).n (ih2.getD (((succV (c.blocks.getD kz.toNat default)).getD q 0).toNat) default).k)) (id := .l (sB (.slice la35_2 ih2.length lk35_2))) (ap_ld1 (i := 0) rfl rfl (vH (hv56 (((succV (c.blocks.getD kz.toNat default)).getD q 0).toNat)) (by first | (dsimp only; omega) | omega)) rfl rfl) rfl rfl (did_l rfl) (⟨.inl rfl, ⟨.inl rfl, ⟨.inl rfl, ⟨.inr trivial, ⟨.inr trivial, ⟨.inr trivial, ⟨.inr trivial, trivial⟩⟩⟩⟩⟩⟩⟩) ?_
          obtain ⟨Fz59, hFz59, hsz59, hrz59, hpz59⟩ := OS.frz ho58 hs58 (i := 8) rfl
          have hsz59 : HS _ _ _ [_, _, _, _, _, _, _, _, []] _ := hsz59
          refine wf_call (W := (fc55.map Prod.fst)) (ap_call rfl rfl rfl) rfl rfl rfl (mb.union_c ex (ol3.getD kz.toNat default) (il2.getD (((succV (c.blocks.getD kz.toNat default)).getD q 0).toNat) default) (HS.callOwn hsz59.log0 (i := 7) rfl) (OS.mono hFz59 ho55) hrz59 (hT.mono hFz59) (by first | (dsimp only; omega) | omega) (by first | (dsimp only; omega) | omega)) (⟨.inl rfl, ⟨.inl rfl, ⟨.inl rfl, ⟨.inl rfl, ⟨.inl rfl, ⟨.inl rfl, ⟨.inl rfl, ⟨.inl rfl, trivial⟩⟩⟩⟩⟩⟩⟩⟩) ?_
          rintro _ H59 ⟨r59, zm59, pm59, F59, hF59, hs59, rfl, hm59, h159, h259, h359, h459⟩
          refine ⟨HS.didW hs59, fun lg59 hlg59 => ?_⟩
          replace hs59 := HS.backOwn hsz59.log0 (i := 7) rfl rfl (fun _ hb => hb) hs59
          replace hs59 := HS.lg hs59 hs58 hlg59
          generalize ({ H59 with log := lg59 } : Heap) = H59g at hs59 ⊢
          replace hs59 := HS.thawL hs58 (i := 8) rfl (Fz.le_trans hFz59 hF59) (fun b o hb => hF59 _ _ (hpz59 b o hb)) (i' := 8) rfl hs59
          replace hm59 := OS.ind (F' := F47) hm59
          have hs59 : HS _ _ _ [[(b1, .cells [(.int .i64 c.params), (.int .i64 c.regs), (.slice ac_2 c.blocks.length kc_2)] none false)], lp35_2, fp58, lp47_3, fp55, [(b41, .cells [(.slice (cA (cf38 kz.toNat) 0) ((c.blocks.getD kz.toNat default).ins).length (cK (cf38 kz.toNat) 0)), (.int .i64 ((c.blocks.getD kz.toNat default).fin)), (.int .i64 ((c.blocks.getD kz.toNat default).reg)), (.int .i64 ((c.blocks.getD kz.toNat default).tgt)), (.int .i64 ((c.blocks.getD kz.toNat default).els))] none false)], p45, pm59, fc58] _ := hs59
          have ln59 := OS.len' hm59
          refine wf_nil ?_
          refine wk_foc 2 rfl ?_
          refine wr 1 [] 53 53 [66] [(53, (.int .i64 ((q : Int) + 1)))] (vA (vi (n := (q : Int) + 1) (by first | (dsimp only; omega) | omega)) trivial) (by kernel_rfl) rfl fun gg60 => ?_
          obtain ⟨fq61, hs61, hf61⟩ := SF.shut0 fw58 (Fz.le_refl _) hs59 (q := 2) (m := 8) (by decide) rfl rfl ho58
          have hs61 : HS _ _ _ [_, _, fq61, _, _, _, _, _, []] _ := hs61
          have fl61 := FAM.len hf61
          obtain ⟨fq62, hs62, hf62⟩ := SF.shut fw55 (Fz.le_refl _) hs61 (q := 4) (m := 7) (by decide) rfl rfl hm59
          have hs62 : HS _ _ _ [_, _, _, _, fq62, _, _, [], _] _ := hs62
          have fl62 := FAM.len hf62
          refine ih47 _ _ _ ?_ ⟨oh3, ol3.set kz.toNat zm59, q + 1, la47_3, lk47_3, lp47_3, fq62, fq61, _, (hF47), (HS.sub hs62 (List.sublist_append_left _ _)), lh47_3, hf62, hf61, (agC rfl (agC rfl (agC rfl (agC rfl (agC rfl (agC rfl (agC rfl (agC rfl (agC rfl (agC rfl (agC rfl (agC rfl (agC rfl (agC rfl agN)))))))))))))), rfl, (by exact snd_out snd3 hkn hmem (by assumption) (by assumption)), (by first | assumption | omega | (simp at *; omega)), (by exact fun j hj => by rw [at_set, if_neg (fun e => hj e.1.symm)]; exact ho3 j hj), (by exact succ_step (by omega) (by omega) hs3 (by assumption))⟩
          omega
        · have c49 := c49b
          try simp only [BS] at c49
          have hsall : ∀ t ∈ succV (c.blocks.getD kz.toNat default), ∀ r, bI il2 t.toNat r → bI ol3 kz.toNat r := fun t ht => hs3 t (by rw [List.take_of_length_le (by omega)]; exact ht)
          have hwi4 := snd3.wi kz.toNat hkn
          refine wk_region ?_
          refine wo_rs (rs_lit (α := U64) (ps := []) (cells := []) ([] : List U64) hs47 rfl rfl rfl (by kernel_rfl) rfl rfl) rfl rfl ?_
          rintro _ H64 p63 ⟨a63, k63, rfl, ho63, hs64, _⟩
          have hs64 : HS _ _ _ [_, _, lq47_1, lp47_3, lq47_3, _, _, p63] _ := hs64
          obtain ⟨cf65, hv65⟩ := Sv.view (OS.sv lh47_3 hs64 (i := 3) rfl)
          obtain ⟨fp67, fc67, hs67, ho67, fw67⟩ := SF.open lf47_3 hs64 (q := 4) (i := kz.toNat) rfl (by first | (dsimp only; omega) | omega)
          have hs67 : HS _ _ _ [_, _, _, _, fp67, _, _, _, fc67] _ := hs67
          have ho67 : OS F47 (.slice (oh3.getD kz.toNat default).a (oh3.getD kz.toNat default).n (oh3.getD kz.toNat default).k) (ol3.getD kz.toNat default) fc67 := ho67
          have ln67 := OS.nlen ho67
          refine wro 4 1 [(4, .o (.slice (oh3.getD kz.toNat default).a (oh3.getD kz.toNat default).n (oh3.getD kz.toNat default).k))] 68 71 [] [(71, (.slice (oh3.getD kz.toNat default).a (oh3.getD kz.toNat default).n (oh3.getD kz.toNat default).k))] (vA (Sv.ix (j := kz) (OS.sv lh47_3 hs64 (i := 3) rfl) (by first | (dsimp only; omega) | omega) (by first | (dsimp only; omega) | omega)) (vA (ql 83 0 (vH (hv65 kz.toNat) (by first | (dsimp only; omega) | omega)) rfl rfl) trivial)) (by kernel_rfl) rfl fun gg68 => ?_
          refine wo_rs (rs_app (α := U64) (q := 7) ho63 hs67 rfl rfl rfl (OS.sv ho67 hs67 (i := 8) rfl) rfl rfl rfl rfl rfl rfl rfl (by first | omega | (simp only [List.length_append, List.length_cons, List.length_nil]; omega))) rfl rfl ?_
          rintro _ H70 p69 ⟨a69, k69, rfl, ho69, hs70, _⟩
          have hs70 : HS _ _ _ [_, _, _, _, _, _, _, p69, _] _ := hs70
          have ho69 : OS F47 (.slice a69 (ol3.getD kz.toNat default).length k69) (ol3.getD kz.toNat default) p69 := ho69
          refine wa (.slice a69 (ol3.getD kz.toNat default).length k69) rfl rfl rfl ?_
          refine wo_end 2 rfl ?_
          refine wk_region ?_
          refine wro 2 0 [(1, .o (.agg ⟨[(.slice (cA (cf38 kz.toNat) 0) ((c.blocks.getD kz.toNat default).ins).length (cK (cf38 kz.toNat) 0)), (.int .i64 ((c.blocks.getD kz.toNat default).fin)), (.int .i64 ((c.blocks.getD kz.toNat default).reg)), (.int .i64 ((c.blocks.getD kz.toNat default).tgt)), (.int .i64 ((c.blocks.getD kz.toNat default).els))]⟩))] 73 74 [] [(73, (.slice a69 (ol3.getD kz.toNat default).length k69)), (74, (.agg ⟨[(.slice (cA (cf38 kz.toNat) 0) ((c.blocks.getD kz.toNat default).ins).length (cK (cf38 kz.toNat) 0)), (.int .i64 ((c.blocks.getD kz.toNat default).fin)), (.int .i64 ((c.blocks.getD kz.toNat default).reg)), (.int .i64 ((c.blocks.getD kz.toNat default).tgt)), (.int .i64 ((c.blocks.getD kz.toNat default).els))]⟩))] (vA (qn 42 0 5 (HS.hc hs70 (i := 5) rfl) rfl rfl rfl rfl) trivial) (by kernel_rfl) rfl fun gg71 => ?_
          refine wo_call (ap_call rfl rfl rfl) rfl rfl (mb.addT_c ex (ol3.getD kz.toNat default) (c.blocks.getD kz.toNat default) (HS.callOwn hs70 (i := 7) rfl) ho69 s39_0 (by first | (dsimp only; omega) | omega) (by first | (dsimp only; omega) | omega) (by first | (dsimp only; omega) | omega) (by first | (dsimp only; omega) | omega) hT (by first | omega | exact fun hf => by have := hfn hf; omega) (by first | omega | exact fun hf => by have := hfn hf; omega)) ?_
          rintro _ H72 ⟨zm72, pm72, F72, hF72, hs72, rfl, hm72, h172, h272⟩
          replace hs72 := HS.backOwn hs70 (i := 7) rfl rfl (fun _ hb => hb) hs72
          have hs72 : HS _ _ _ [_, _, _, _, _, _, _, pm72, _] _ := hs72
          replace hT := hT.mono hF72
          replace hc_2 := hc_2.mono hF72
          replace ho63 := ho63.mono hF72
          replace ho67 := ho67.mono hF72
          replace ho69 := ho69.mono hF72
          replace hrr45 := hrr45.mono hF72
          replace lh35_2 := lh35_2.mono hF72
          replace lh47_3 := lh47_3.mono hF72
          replace s39_0 := s39_0.mono hF72
          replace lf47_1 := SF.mono hF72 lf47_1
          have ln72 := OS.len' hm72
          refine wo_end 3 rfl ?_
          refine wr 2 [(1, .o (.slice (cA (cf38 kz.toNat) 0) ((c.blocks.getD kz.toNat default).ins).length (cK (cf38 kz.toNat) 0)))] 76 79 [12] [(12, (.int .i64 ((((c.blocks.getD kz.toNat default).ins).length : Int) - 1)))] (vA (ql 40 0 (HS.hc hs72 (i := 5) rfl) rfl rfl) (vA (vi (n := (((c.blocks.getD kz.toNat default).ins).length : Int) - 1) (by first | (dsimp only; omega) | omega)) trivial)) (by kernel_rfl) rfl fun gg73 => ?_
          obtain ⟨fq74, hs74, hf74⟩ := SF.shut0 fw67 (hF72) hs72 (q := 4) (m := 8) (by decide) rfl rfl ho67
          have hs74 : HS _ _ _ [_, _, _, _, fq74, _, _, _, []] _ := hs74
          have fl74 := FAM.len hf74
          refine wk_loop_inv (fun (mm : Nat) f H' => ∃ (sw : List U64) (iz : Int) (la75_11 : Option Addr) (lk75_11 : Nat) (lp75_11 : Fp) (F' : Fz), Fz.le F72 F' ∧ HS (Base.of H []) F' H' [[(b1, .cells [(.int .i64 c.params), (.int .i64 c.regs), (.slice ac_2 c.blocks.length kc_2)] none false)], lp35_2, lq47_1, lp47_3, fq74, [(b41, .cells [(.slice (cA (cf38 kz.toNat) 0) ((c.blocks.getD kz.toNat default).ins).length (cK (cf38 kz.toNat) 0)), (.int .i64 ((c.blocks.getD kz.toNat default).fin)), (.int .i64 ((c.blocks.getD kz.toNat default).reg)), (.int .i64 ((c.blocks.getD kz.toNat default).tgt)), (.int .i64 ((c.blocks.getD kz.toNat default).els))] none false)], p45, lp75_11, []] R ∧ OS F' (.slice la75_11 sw.length lk75_11) sw lp75_11 ∧ agrees f [(1, (.pointer (some ⟨b1, 0, none⟩))), (2, (.slice la35_2 ih2.length lk35_2)), (3, (.slice la47_3 oh3.length lk47_3)), (4, (.int .i64 (c.blocks.length : Int))), (6, (.bool m2)), (7, (.int .i64 kz)), (8, (.pointer (some ⟨b41, 0, none⟩))), (11, (.slice la75_11 sw.length lk75_11)), (12, (.int .i64 iz)), (38, (.bool mo)), (42, (.bool (decide ((0 : Int) ≤ kz)))), (49, (.agg ⟨[(.slice (cA (cf38 kz.toNat) 0) ((c.blocks.getD kz.toNat default).ins).length (cK (cf38 kz.toNat) 0)), (.int .i64 ((c.blocks.getD kz.toNat default).fin)), (.int .i64 ((c.blocks.getD kz.toNat default).reg)), (.int .i64 ((c.blocks.getD kz.toNat default).tgt)), (.int .i64 ((c.blocks.getD kz.toNat default).els))]⟩)), (50, (.agg ⟨[(.slice (cA (cf38 kz.toNat) 0) ((c.blocks.getD kz.toNat default).ins).length (cK (cf38 kz.toNat) 0)), (.int .i64 ((c.blocks.getD kz.toNat default).fin)), (.int .i64 ((c.blocks.getD kz.toNat default).reg)), (.int .i64 ((c.blocks.getD kz.toNat default).tgt)), (.int .i64 ((c.blocks.getD kz.toNat default).els))]⟩)), (51, (.slice ar45 (succV (c.blocks.getD kz.toNat default)).length kr45)), (52, (.int .i64 ((succV (c.blocks.getD kz.toNat default)).length : Int))), (53, (.int .i64 (q : Int))), (54, (.bool (decide ((q : Int) < ((succV (c.blocks.getD kz.toNat default)).length : Int))))), (74, (.agg ⟨[(.slice (cA (cf38 kz.toNat) 0) ((c.blocks.getD kz.toNat default).ins).length (cK (cf38 kz.toNat) 0)), (.int .i64 ((c.blocks.getD kz.toNat default).fin)), (.int .i64 ((c.blocks.getD kz.toNat default).reg)), (.int .i64 ((c.blocks.getD kz.toNat default).tgt)), (.int .i64 ((c.blocks.getD kz.toNat default).els))]⟩))] ∧ mm = (iz + 1).toNat ∧ (sw.length = wds c) ∧ (∀ r, bitOf sw r = true ↔ tr ((c.blocks.getD kz.toNat default).ins.drop (iz + 1).toNat) (endS (c.blocks.getD kz.toNat default) (bI ol3 kz.toNat)) r) ∧ (-1 ≤ iz ∧ iz < ((c.blocks.getD kz.toNat default).ins.length : Int))) _ ⟨zm72, (((c.blocks.getD kz.toNat default).ins).length : Int) - 1, a69, k69, pm72, _, (Fz.le_refl _), hs74, (OS.norm hm72), (agC rfl (agC rfl (agC rfl (agC rfl (agC rfl (agC rfl (agC rfl (agC (show Value.slice a69 (ol3.getD kz.toNat default).length k69 = Value.slice a69 zm72.length k69 by rw [OS.len' hm72]) (agC rfl (agC rfl (agC rfl (agC rfl (agC rfl (agC rfl (agC rfl (agC rfl (agC rfl (agC rfl agN)))))))))))))))))), rfl, (by omega), (by exact tr_start (by omega) (fun r => Iff.rfl) (by assumption)), (by first | assumption | omega | (simp at *; omega))⟩ ?_
          rintro mm75 f75 H75 ⟨sw, iz, la75_11, lk75_11, lp75_11, F75, hF75, hs75, lh75_11, hf75, rfl, hsw, htr, hiz⟩ ih75
          refine wk_canon _ hf75 (fun gg75 => ?_)
          clear hf75
          replace hT := hT.mono hF75
          replace hc_2 := hc_2.mono hF75
          replace hrr45 := hrr45.mono hF75
          replace lh35_2 := lh35_2.mono hF75
          replace lh47_3 := lh47_3.mono hF75
          replace s39_0 := s39_0.mono hF75
          replace lf47_1 := SF.mono hF75 lf47_1
          replace hf74 := SF.mono hF75 hf74
          refine wk_foc 2 rfl ?_
          refine wr 1 [] 80 81 [] [(81, (.bool (decide ((0 : Int) ≤ iz))))] trivial (by kernel_rfl) rfl fun gg76 => ?_
          refine wk_if 3 5 (v := (decide ((0 : Int) ≤ iz))) rfl rfl rfl rfl (fun c77b => ?_) (fun c77b => ?_)
          · have c77 := c77b
            try simp only [BS] at c77
            have hvl : (∀ x ∈ readsV ((c.blocks.getD kz.toNat default).ins.getD iz.toNat default), 0 ≤ x ∧ x < c.regs) ∧ (∀ x ∈ writesV ((c.blocks.getD kz.toNat default).ins.getD iz.toNat default), 0 ≤ x ∧ x < c.regs) ∧ ((c.blocks.getD kz.toNat default).ins.getD iz.toNat default).args.length ≤ 6 := reads_lim (vF.ins kz.toNat hkn iz.toNat (show iz.toNat < (c.blocks.getD kz.toNat default).ins.length by omega))
            have hvl3 := hvl.2.2
            refine wk_region ?_
            obtain ⟨cf78, hv78⟩ := Sv.view (SR.sv s39_0 hs75)
            obtain ⟨g79_0, g79_1, g79_2, g79_3, g79_4, s79_5⟩ := VInT.fx (hv78 iz.toNat)
            refine wro 6 0 [(2, .o (.slice (cA (cf38 kz.toNat) 0) ((c.blocks.getD kz.toNat default).ins).length (cK (cf38 kz.toNat) 0))), (5, .o (.agg ⟨[(.int .i64 ((((c.blocks.getD kz.toNat default).ins).getD iz.toNat default).i.op)), (.int .i64 ((((c.blocks.getD kz.toNat default).ins).getD iz.toNat default).i.a)), (.int .i64 ((((c.blocks.getD kz.toNat default).ins).getD iz.toNat default).i.b)), (.int .i64 ((((c.blocks.getD kz.toNat default).ins).getD iz.toNat default).i.c)), (.int .i64 ((((c.blocks.getD kz.toNat default).ins).getD iz.toNat default).i.n)), (.slice (cA (cf78 iz.toNat) 5) ((((c.blocks.getD kz.toNat default).ins).getD iz.toNat default).args).length (cK (cf78 iz.toNat) 5))]⟩))] 84 89 [] [(84, (.slice la75_11 sw.length lk75_11)), (89, (.agg ⟨[(.int .i64 ((((c.blocks.getD kz.toNat default).ins).getD iz.toNat default).i.op)), (.int .i64 ((((c.blocks.getD kz.toNat default).ins).getD iz.toNat default).i.a)), (.int .i64 ((((c.blocks.getD kz.toNat default).ins).getD iz.toNat default).i.b)), (.int .i64 ((((c.blocks.getD kz.toNat default).ins).getD iz.toNat default).i.c)), (.int .i64 ((((c.blocks.getD kz.toNat default).ins).getD iz.toNat default).i.n)), (.slice (cA (cf78 iz.toNat) 5) ((((c.blocks.getD kz.toNat default).ins).getD iz.toNat default).args).length (cK (cf78 iz.toNat) 5))]⟩))] (vA (ql 40 0 (HS.hc hs75 (i := 5) rfl) rfl rfl) (vA (Sv.ix (j := iz) (SR.sv s39_0 hs75) (by first | (dsimp only; omega) | omega) (by first | (dsimp only; omega) | omega)) (vA (qn 47 0 6 (VInT.vw (hv78 iz.toNat) (by first | (dsimp only; omega) | omega)) rfl rfl rfl rfl) trivial))) (by kernel_rfl) rfl fun gg80 => ?_
            refine wo_call (ap_call rfl rfl rfl) rfl rfl (mb.transfer_c ex sw (((c.blocks.getD kz.toNat default).ins).getD iz.toNat default) (HS.callOwn hs75 (i := 7) rfl) lh75_11 (by first | (dsimp only; omega) | omega) (by first | (dsimp only; omega) | omega) (by first | (dsimp only; omega) | omega) (by first | (dsimp only; omega) | omega) (by first | (dsimp only; omega) | omega) s79_5 hT (by first | omega | exact fun x hx => by have := hvl.1 x hx; omega | exact fun x hx => by have := hvl.2.1 x hx; omega) (by first | omega | exact fun x hx => by have := hvl.1 x hx; omega | exact fun x hx => by have := hvl.2.1 x hx; omega) (by first | omega | exact fun x hx => by have := hvl.1 x hx; omega | exact fun x hx => by have := hvl.2.1 x hx; omega) (by first | omega | exact fun x hx => by have := hvl.1 x hx; omega | exact fun x hx => by have := hvl.2.1 x hx; omega)) ?_
            rintro _ H81 ⟨zm81, pm81, F81, hF81, hs81, rfl, hm81, h181, h281⟩
            replace hs81 := HS.backOwn hs75 (i := 7) rfl rfl (fun _ hb => hb) hs81
            have hs81 : HS _ _ _ [_, _, _, _, _, _, _, pm81, _] _ := hs81
            replace hT := hT.mono hF81
            replace hc_2 := hc_2.mono hF81
            replace hrr45 := hrr45.mono hF81
            replace lh35_2 := lh35_2.mono hF81
            replace lh47_3 := lh47_3.mono hF81
            replace lh75_11 := lh75_11.mono hF81
            replace s39_0 := s39_0.mono hF81
            replace s79_5 := s79_5.mono hF81
            replace lf47_1 := SF.mono hF81 lf47_1
            replace hf74 := SF.mono hF81 hf74
            have ln81 := OS.len' hm81
            refine wo_end 2 rfl ?_
            refine wr 1 [] 82 83 [12] [(12, (.int .i64 (iz - 1)))] (vA (vi (n := iz - 1) (by first | (dsimp only; omega) | omega)) trivial) (by kernel_rfl) rfl fun gg82 => ?_
            refine ih75 _ _ _ ?_ ⟨zm81, iz - 1, la75_11, lk75_11, pm81, _, (Fz.le_trans (hF75) hF81), hs81, (OS.norm hm81), (agC rfl (agC rfl (agC rfl (agC rfl (agC rfl (agC rfl (agC rfl (agC (show Value.slice la75_11 sw.length lk75_11 = Value.slice la75_11 zm81.length lk75_11 by rw [OS.len' hm81]) (agC rfl (agC rfl (agC rfl (agC rfl (agC rfl (agC rfl (agC rfl (agC rfl (agC rfl (agC rfl agN)))))))))))))))))), rfl, (by omega), (by rw [show (iz - 1 + 1).toNat = iz.toNat by omega]; exact tr_next (by omega) (by rw [show iz.toNat + 1 = (iz + 1).toNat by omega]; exact htr) (by assumption)), (by first | assumption | omega | (simp at *; omega))⟩
            omega
          · have c77 := c77b
            try simp only [BS] at c77
            have htr0 : ∀ r, bitOf sw r = true ↔ inS (c.blocks.getD kz.toNat default) (bI ol3 kz.toNat) r := fun r => by have := htr r; rwa [show (iz + 1).toNat = 0 by omega, List.drop_zero] at this
            refine wk_region ?_
            obtain ⟨cf83, hv83⟩ := Sv.view (OS.sv lh35_2 hs75 (i := 1) rfl)
            obtain ⟨fp85, fc85, hs85, ho85, fw85⟩ := SF.open lf47_1 hs75 (q := 2) (i := kz.toNat) rfl (by first | (dsimp only; omega) | omega)
            have hs85 : HS _ _ _ [_, _, fp85, _, _, _, _, lp75_11, _, fc85] _ := hs85
            have ho85 : OS F75 (.slice (ih2.getD kz.toNat default).a (ih2.getD kz.toNat default).n (ih2.getD kz.toNat default).k) (il2.getD kz.toNat default) fc85 := ho85
            have ln85 := OS.nlen ho85
            refine wro 5 0 [(3, .o (.slice (ih2.getD kz.toNat default).a (ih2.getD kz.toNat default).n (ih2.getD kz.toNat default).k))] 91 95 [] [(94, (.slice (ih2.getD kz.toNat default).a (ih2.getD kz.toNat default).n (ih2.getD kz.toNat default).k)), (95, (.slice la75_11 sw.length lk75_11))] (vA (Sv.ix (j := kz) (OS.sv lh35_2 hs75 (i := 1) rfl) (by first | (dsimp only; omega) | omega) (by first | (dsimp only; omega) | omega)) (vA (ql 83 0 (vH (hv83 kz.toNat) (by first | (dsimp only; omega) | omega)) rfl rfl) trivial)) (by kernel_rfl) rfl fun gg86 => ?_
            obtain ⟨F88, hF88, hs88, hr88, hp88⟩ := OS.frz lh75_11 hs85 (i := 7) rfl
            have hs88 : HS _ _ _ [_, _, _, _, _, _, _, [], _, _] _ := hs88
            replace hT := hT.mono hF88
            replace hc_2 := hc_2.mono hF88
            replace ho85 := ho85.mono hF88
            replace hrr45 := hrr45.mono hF88
            replace lh35_2 := lh35_2.mono hF88
            replace lh47_3 := lh47_3.mono hF88
            replace lh75_11 := lh75_11.mono hF88
            replace s39_0 := s39_0.mono hF88
            replace hf74 := SF.mono hF88 hf74
            refine wo_call (ap_call rfl rfl rfl) rfl rfl (mb.union_c ex (il2.getD kz.toNat default) sw (HS.callOwn hs88 (i := 9) rfl) ho85 hr88 hT (by first | (dsimp only; omega) | omega) (by first | (dsimp only; omega) | omega)) ?_
            rintro _ H87 ⟨r87, zm87, pm87, F87, hF87, hs87, rfl, hm87, h187, h287, h387, h487⟩
            replace hs87 := HS.backOwn hs88 (i := 9) rfl rfl (fun _ hb => hb) hs87
            have hs87 : HS _ _ _ [_, _, _, _, _, _, _, _, _, pm87] _ := hs87
            replace hT := hT.mono hF87
            replace hc_2 := hc_2.mono hF87
            replace ho85 := ho85.mono hF87
            replace hr88 := hr88.mono hF87
            replace hrr45 := hrr45.mono hF87
            replace lh35_2 := lh35_2.mono hF87
            replace lh47_3 := lh47_3.mono hF87
            replace s39_0 := s39_0.mono hF87
            replace hf74 := SF.mono hF87 hf74
            have ln87 := OS.len' hm87
            refine wo_end 1 rfl ?_
            refine wk_if 0 2 (v := r87) rfl rfl rfl rfl (fun c89b => ?_) (fun c89b => ?_)
            · have c89 := c89b
              try simp only [BS] at c89
              refine wr 2 [] 1 0 [6] [(6, (.bool true))] trivial (by kernel_rfl) rfl fun gg90 => ?_
              refine wr 1 [] 43 44 [7] [(7, (.int .i64 (kz - 1)))] (vA (vi (n := kz - 1) (by first | (dsimp only; omega) | omega)) trivial) (by kernel_rfl) rfl fun gg91 => ?_
              obtain ⟨fq92, hs92, hf92⟩ := SF.shut fw85 (Fz.le_trans (hF88) hF87) hs87 (q := 2) (m := 9) (by decide) rfl rfl hm87
              have hs92 : HS _ _ _ [_, _, fq92, _, _, _, _, _, _, []] _ := hs92
              have fl92 := FAM.len hf92
              refine ih35 _ _ _ ?_ ⟨oh3, ol3, ih2, il2.set kz.toNat zm87, kz - 1, true, la35_2, lk35_2, lp35_2, la47_3, lk47_3, lp47_3, fq92, fq74, _, (Fz.le_trans (Fz.le_trans (Fz.le_trans (Fz.le_trans (Fz.le_trans (Fz.le_trans (hF35) hF45) hF47) hF72) hF75) hF88) hF87), (HS.sub hs92 (List.sublist_append_left _ _)), lh35_2, lh47_3, hf92, hf74, (agC rfl (agC rfl (agC rfl (agC rfl (agC rfl (agC rfl (agC rfl agN))))))), rfl, (by exact snd_in snd3 hkn (by assumption) (by assumption) htr0), (by first | assumption | omega | (simp at *; omega)), (by first | (intro h; cases h; done) | exact keep0 (by assumption) (by assumption) hm0), (by first | exact fun _ => cnt_t hm0 hm1 (cnt_more (by omega) (by assumption) (by assumption) (use4 (by assumption) (by assumption))) | exact keep1 (by assumption) (by assumption) hm1), (by first | (intro h; cases h; done) | (intro h; exact clk (cl_step hkn (fun b h1 => hcl h b (by omega)) ho3 hsall htr0 (use3 (by assumption) (by assumption)) (by assumption))))⟩
              omega
            · have c89 := c89b
              try simp only [BS] at c89
              refine wr 1 [] 43 44 [7] [(7, (.int .i64 (kz - 1)))] (vA (vi (n := kz - 1) (by first | (dsimp only; omega) | omega)) trivial) (by kernel_rfl) rfl fun gg93 => ?_
              obtain ⟨fq94, hs94, hf94⟩ := SF.shut fw85 (Fz.le_trans (hF88) hF87) hs87 (q := 2) (m := 9) (by decide) rfl rfl hm87
              have hs94 : HS _ _ _ [_, _, fq94, _, _, _, _, _, _, []] _ := hs94
              have fl94 := FAM.len hf94
              refine ih35 _ _ _ ?_ ⟨oh3, ol3, ih2, il2.set kz.toNat zm87, kz - 1, m2, la35_2, lk35_2, lp35_2, la47_3, lk47_3, lp47_3, fq94, fq74, _, (Fz.le_trans (Fz.le_trans (Fz.le_trans (Fz.le_trans (Fz.le_trans (Fz.le_trans (hF35) hF45) hF47) hF72) hF75) hF88) hF87), (HS.sub hs94 (List.sublist_append_left _ _)), lh35_2, lh47_3, hf94, hf74, (agC rfl (agC rfl (agC rfl (agC rfl (agC rfl (agC rfl (agC rfl agN))))))), rfl, (by exact snd_in snd3 hkn (by assumption) (by assumption) htr0), (by first | assumption | omega | (simp at *; omega)), (by first | (intro h; cases h; done) | exact keep0 (by assumption) (by assumption) hm0), (by first | exact fun _ => cnt_t hm0 hm1 (cnt_more (by omega) (by assumption) (by assumption) (use4 (by assumption) (by assumption))) | exact keep1 (by assumption) (by assumption) hm1), (by first | (intro h; cases h; done) | (intro h; exact clk (cl_step hkn (fun b h1 => hcl h b (by omega)) ho3 hsall htr0 (use3 (by assumption) (by assumption)) (by assumption))))⟩
              omega
      · have c37 := c37b
        try simp only [BS] at c37
        refine ih30 _ _ _ ?_ ⟨oh2, ol2, ih2, il2, m2, la35_2, lk35_2, lp35_2, la35_3, lk35_3, lp35_3, lq35_1, lq35_3, _, (Fz.le_trans (hF30) hF35), hs35, lh35_2, lh35_3, lf35_1, lf35_3, (agC rfl (agC rfl (agC rfl (agC rfl (agC rfl agN))))), rfl, (by exact snd2), (by exact fun h b hb => hcl h b (by omega) hb)⟩
        rw [hmo]; exact mea_lt hm1 (cnt_le snd2.li snd2.wi)
    · have c32 := c32b
      try simp only [BS] at c32
      refine wr 1 [] 97 98 [2, 3] [(2, (.slice la30_2 ih1.length lk30_2)), (3, (.slice la30_3 oh1.length lk30_3))] trivial (by kernel_rfl) rfl fun gg95 => ?_
      obtain ⟨F96, hF96, hs96, ha96⟩ := SF.freeze lf30_1 hs30 (q := 2) rfl
      have hs96 : HS _ _ _ [_, lp30_2, _, lp30_3, lq30_3] _ := hs96
      replace hT := hT.mono hF96
      replace hc_2 := hc_2.mono hF96
      replace lh30_2 := lh30_2.mono hF96
      replace lh30_3 := lh30_3.mono hF96
      replace lf30_3 := SF.mono hF96 lf30_3
      obtain ⟨F97, hF97, hs97, hr97, hp97⟩ := OS.frz lh30_2 hs96 (i := 1) rfl
      have hs97 : HS _ _ _ [_, [], _, _, _] _ := hs97
      replace hT := hT.mono hF97
      replace hc_2 := hc_2.mono hF97
      replace lh30_3 := lh30_3.mono hF97
      replace lf30_3 := SF.mono hF97 lf30_3
      have hq97 := SR.rows hr97 (FAM.len lf30_1) (fun i hi => SR.mono hF97 (ha96 i hi))
      have ln97 := SR.len' hq97
      have hq97N := SR.norm hq97
      obtain ⟨F98, hF98, hs98, ha98⟩ := SF.freeze lf30_3 hs97 (q := 4) rfl
      have hs98 : HS _ _ _ [_, _, _, _, []] _ := hs98
      replace hT := hT.mono hF98
      replace hc_2 := hc_2.mono hF98
      replace hq97 := hq97.mono hF98
      replace lh30_3 := lh30_3.mono hF98
      obtain ⟨F99, hF99, hs99, hr99, hp99⟩ := OS.frz lh30_3 hs98 (i := 3) rfl
      have hs99 : HS _ _ _ [_, _, _, [], _] _ := hs99
      replace hT := hT.mono hF99
      replace hc_2 := hc_2.mono hF99
      replace hq97 := hq97.mono hF99
      have hq99 := SR.rows hr99 (FAM.len lf30_3) (fun i hi => SR.mono hF99 (ha98 i hi))
      have ln99 := SR.len' hq99
      have hq99N := SR.norm hq99
      refine wk_ret ⟨.inr rfl, _, rfl, la30_2, lk30_2, il1, la30_3, lk30_3, ol1, _, (Fz.le_trans (Fz.le_trans (Fz.le_trans (Fz.le_trans (Fz.le_trans (hF12) hF30) hF96) hF97) hF98) hF99), (HS.forget hs99), (by simp only [ln97, ln99]; rfl), (SR.norm hq97), (SR.norm hq99), (by exact anF_of snd (cl (by assumption)))⟩
end Go.Proofs.YtlabedbmgmfbaaaDoor.mc
