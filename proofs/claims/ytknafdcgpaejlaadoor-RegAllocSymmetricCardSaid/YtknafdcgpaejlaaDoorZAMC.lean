/-
 Live registers: the solution of the equations, by a symbolic run. No condition but that the function is valid.
-/
import Derived.Test.YtknafdcgpaejlaaDoorZAMB
noncomputable section
namespace Go.Proofs.YtknafdcgpaejlaaDoor.mc
open Go.R
set_option maxRecDepth 10000
set_option linter.unusedVariables false
open m1 m2 m3 m4 m5 m6 ma ml mb
theorem zset {l : List (List U64)} {k : Nat} {z : List U64} (h : ∀ j, j < k → l.getD j default = z) (hk : k < l.length) : ∀ j, j < k + 1 → (l.set k z).getD j default = z := fun j hj => by
 rw [at_set]
 split
 ·
  rfl
 ·
  rename_i hq; exact h j (by omega)
theorem mem_at {l : List Int} {q : Nat} (h : q < l.length) : l.getD q 0 ∈ l := by
 rw [List.getD_eq_getElem?_getD, List.getElem?_eq_getElem h]; exact List.getElem_mem h
theorem succ_step {I O : List (List U64)} {k q : Nat} {s : List U64} {l : List Int} (hq : q < l.length) (hk : k < O.length) (h : ∀ t ∈ l.take q, ∀ r, bI I t.toNat r → bI O k r) (hb : ∀ i, bitOf s i = (bitOf (O.getD k default) i || bitOf (I.getD (l.getD q 0).toNat default) i)) : ∀ t ∈ l.take (q + 1), ∀ r, bI I t.toNat r → bI (O.set k s) k r := by
 intro t ht r hr
 unfold bI
 rw [at_set, if_pos ⟨rfl, hk⟩, hb, Bool.or_eq_true]
 rw [take_snoc hq (d := 0), List.mem_append, List.mem_singleton] at ht
 rcases ht with ht | rfl
 ·
  exact .inl (h t ht r hr)
 ·
  exact .inr hr
theorem tr_start {b : BlkT} {S : Nat → Prop} {s z : List U64} {n : Nat} (hn : b.ins.length ≤ n) (hs : ∀ r, bitOf s r = true ↔ S r) (h : ∀ i, bitOf z i = (bitOf s i || decide ((i : Int) ∈ endV b))) (r : Nat) : bitOf z r = true ↔ tr (b.ins.drop n) (endS b S) r := by
 rw [List.drop_of_length_le hn, h, Bool.or_eq_true, hs, decide_eq_true_eq]; exact Iff.rfl
theorem cl_step {c : VFnT} {I O A : List (List U64)} {s z : List U64} {k : Nat} (hk : k < c.blocks.length) (hcl : ∀ b : Nat, (k : Int) < (b : Int) → b < c.blocks.length → Cl1 c I O b) (ho : ∀ j, j ≠ k → A.getD j default = O.getD j default) (hs : ∀ t ∈ succV (blkN c k), ∀ r, bI I t.toNat r → bI A k r)
  (ht : ∀ r, bitOf s r = true ↔ inS (blkN c k) (bI A k) r) (hz : z = I.getD k default) (hb : ∀ i, bitOf z i = (bitOf (I.getD k default) i || bitOf s i)) : ∀ b : Nat, (k : Int) - 1 < (b : Int) → b < c.blocks.length → Cl1 c (I.set k z) A b := by
 intro b T N
 rw [hz, set_getD]
 by_cases e : b = k
 ·
  subst e
  refine ⟨hs, fun r hr => ?_⟩
  have := hb r
  rw [hz] at this
  unfold bI
  rw [this, (ht r).2 hr, Bool.or_true]
 ·
  have J := hcl b (by omega) N
  have E : bI A b = bI O b := by unfold bI; rw [ho b e]
  exact ⟨fun t ht r hr => by rw [E]; exact J.1 t ht r hr, fun r hr => J.2 r (by rw [E] at hr; exact hr)⟩
theorem cnt_t {m2 : Bool} {A B D : List (List U64)} (z : m2 = false → B = A) (E : m2 = true → cntI A < cntI B) (h : cntI B < cntI D) : cntI A < cntI D := by
 cases m2 with
 | false => rw [z rfl] at h; exact h
 | true => have := E rfl; omega
theorem keep0 {m2 r : Bool} {A B : List (List U64)} {k : Nat} {z : List U64} (I : r = false → z = B.getD k default) (hr : r = false) (E : m2 = false → B = A) : m2 = false → B.set k z = A := fun h => by rw [I hr, set_getD]; exact E h
theorem keep1 {m2 r : Bool} {A B : List (List U64)} {k : Nat} {z : List U64} (I : r = false → z = B.getD k default) (hr : r = false) (E : m2 = true → cntI A < cntI B) : m2 = true → cntI A < cntI (B.set k z) := fun h => by rw [I hr, set_getD]; exact E h
theorem use3 {α : Prop} {r : Bool} (h : r = false → α) (hr : r = false) : α := h hr
theorem use4 {α : Prop} {r : Bool} (h : r = true → α) (hr : r = true) : α := h hr
theorem succ_len {b : BlkT} : (succV b).length ≤ 2 := by
 unfold succV
 split
 ·
  simp
 ·
  split
  ·
   exact ins_len
  ·
   simp
theorem wd_le {c : VFnT} (h : 0 ≤ c.regs ∧ c.regs ≤ 3000) : c.regs ≤ 64 * ((wds c : Nat) : Int) ∧ wds c ≤ 48 := by
 unfold wds
 rw [Int.tdiv_eq_ediv_of_nonneg (by omega)]; omega
set_option maxHeartbeats 2000000 in
theorem analyze_c (ex : FuncId) {am : Option Addr} {ap : Nat} (c : VFnT) {F : Fz} {H : Heap} {R : List Fp} (hs : HS (.of H []) F H [] R) (f4 : in64 c.params) (f5 : in64 c.regs) (aM : SR F (.slice am c.blocks.length ap) c.blocks) (hT : TB 37 tabC F) (hval : valV c = true) (hins : ∀ j, (c.blocks.getD j default).ins.length ≤ 1099511627776) : C Tryd.prog 1 (KT 60 ex 37 tabC) 111 [(.agg ⟨[(.int .i64 c.params), (.int .i64 c.regs), (.slice am c.blocks.length ap)]⟩)] H fun v H' => ∃ (ail : Option Addr) (kil : Nat) (il : List (List U64)) (aol : Option Addr) (kol : Nat) (ol : List (List U64)) (F' : Fz), Fz.le F F' ∧ HS (.of H []) F' H' [] R ∧ v = .tuple ⟨[.slice ail il.length kil, .slice aol ol.length kol]⟩ ∧ SR F' (.slice ail il.length kil) il ∧ SR F' (.slice aol ol.length kol) ol ∧ (AnF c il ol) := by
 have vF := vF_of hval
 have hnb := vF.nb
 have hrg := vF.regs
 have hwd := wd_le hrg
 refine c_enter Tryd.func111 rfl rfl ?_
 refine wk_foc 1 rfl ?_
 refine wk_region ?_
 refine wo_rs (rs_box hs rfl rfl) rfl rfl ?_
 rintro _ H2 _ ⟨b1, rfl, ci, _⟩
 have ci : HS _ _ _ [[(b1, .cells [(.int .i64 c.params), (.int .i64 c.regs), (.slice am c.blocks.length ap)] none false)]] _ := ci
 refine wro 2 1 [] 1 0 [2, 3] [(2, (.slice none 0 0)), (3, (.slice none 0 0))] trivial (by kernel_rfl) rfl fun _ => ?_
 refine wo_end 2 rfl ?_
 refine wr 2 [(1, .o (.slice am c.blocks.length ap))] 13 15 [4] [(4, (.int .i64 (c.blocks.length : Int)))] (vA (ql 22 2 (HS.hc ci (i := 0) rfl) rfl rfl) trivial) (by kernel_rfl) rfl fun _ => ?_
 refine wf_region rfl ?_
 refine fm (.int .i64 (c.blocks.length : Int)) rfl rfl rfl ?_
 refine wf_rs (id := .x []) (rs_make (default : Hd) ci.log0 rfl rfl rfl rfl rfl rfl rfl rfl rfl rfl (by first | (dsimp only; omega) | omega) (by first | (dsimp only; omega) | omega)) rfl rfl (by rintro _ _ p5 ⟨a5, k5, rfl, dY, _, hwr⟩; exact did_x rfl rfl (Wr.did hwr)) (⟨.inl rfl, trivial⟩) ?_
 rintro _ H6 p5 ⟨a5, k5, rfl, dY, bO, _⟩ e4 eh
 replace bO := HS.lg bO ci eh
 generalize ({ H6 with log := e4 } : Heap) = gS at bO ⊢
 have bO : HS _ _ _ [_, p5] _ := bO
 have cX := HS.snoc bO
 have cX : HS _ _ _ [_, _, []] _ := cX
 have dX : SF F (List.replicate c.blocks.length (default : Hd)) (List.replicate c.blocks.length ([] : List U64)) [] := SF.rep _
 have g5 := FAM.len dX
 refine fm (.int .i64 (c.blocks.length : Int)) rfl rfl rfl ?_
 refine wf_rs (id := .x []) (rs_make (default : Hd) cX.log0 rfl rfl rfl rfl rfl rfl rfl rfl rfl rfl (by first | (dsimp only; omega) | omega) (by first | (dsimp only; omega) | omega)) rfl rfl (by rintro _ _ p8 ⟨a8, k8, rfl, dZ, _, hwr⟩; exact did_x rfl rfl (Wr.did hwr)) (⟨.inl rfl, ⟨.inr ⟨trivial, trivial⟩, ⟨.inr trivial, trivial⟩⟩⟩) ?_
 rintro _ H9 p8 ⟨a8, k8, rfl, dZ, bP, _⟩ e5 ei
 replace bP := HS.lg bP cX ei
 generalize ({ H9 with log := e5 } : Heap) = gY at bP ⊢
 have bP : HS _ _ _ [_, _, _, p8] _ := bP
 have cG := HS.snoc bP
 have cG : HS _ _ _ [_, _, _, _, []] _ := cG
 have dm : SF F (List.replicate c.blocks.length (default : Hd)) (List.replicate c.blocks.length ([] : List U64)) [] := SF.rep _
 have fH := FAM.len dm
 refine fa (.slice a5 (List.replicate c.blocks.length (default : Hd)).length k5) rfl rfl rfl ?_
 refine fa (.slice a8 (List.replicate c.blocks.length (default : Hd)).length k8) rfl rfl rfl ?_
 refine wf_nil ?_
 refine wk_foc 3 rfl ?_
 refine wr 2 [] 20 22 [] [(21, (.int .i64 ((List.replicate c.blocks.length (default : Hd)).length : Int))), (22, (.int .i64 0))] trivial (by kernel_rfl) rfl fun _ => ?_
 refine wk_loop_inv (fun (mm : Nat) f H' => ∃ (oh : List Hd) (ol : List (List U64)) (ih : List Hd) (il : List (List U64)) (k : Nat) (V : Option Addr) (Z : Nat) (aB : Fp) (Y : Option Addr) (aa : Nat) (aC : Fp) (aW : Fp) (aX : Fp) (F' : Fz), Fz.le F F' ∧ HS (Base.of H []) F' H' [[(b1, .cells [(.int .i64 c.params), (.int .i64 c.regs), (.slice am c.blocks.length ap)] none false)], aB, aW, aC, aX] R ∧ OS F' (.slice V ih.length Z) ih aB ∧ OS F' (.slice Y oh.length aa) oh aC ∧ SF F' ih il aW ∧ SF F' oh ol aX ∧ agrees f [(1, (.pointer (some ⟨b1, 0, none⟩))), (2, (.slice V ih.length Z)), (3, (.slice Y oh.length aa)), (4, (.int .i64 (c.blocks.length : Int))), (21, (.int .i64 ((List.replicate c.blocks.length (default : Hd)).length : Int))), (22, (.int .i64 (k : Int)))] ∧ mm = c.blocks.length - k ∧ (il.length = c.blocks.length) ∧ (ol.length = c.blocks.length) ∧ (∀ j, j < k → il.getD j default = List.replicate (wds c) ⟨0⟩) ∧ (∀ j, j < k → ol.getD j default = List.replicate (wds c) ⟨0⟩) ∧ (k ≤ c.blocks.length)) _ ⟨List.replicate c.blocks.length (default : Hd), List.replicate c.blocks.length ([] : List U64), List.replicate c.blocks.length (default : Hd), List.replicate c.blocks.length ([] : List U64), 0, a5, k5, p5, a8, k8, p8, [], [], _, (Fz.le_refl _), cG, dY, dZ, dX, dm, (agC rfl (agC rfl (agC rfl (agC rfl (agC rfl (agC rfl agN)))))), rfl, (by simp), (by simp), (by intro j hj; omega), (by intro j hj; omega), (by first | assumption | omega | (simp at *; omega))⟩ ?_
 rintro gv g0 gK ⟨oh, ol, ih, il, k, V, Z, aB, Y, aa, aC, aW, aX, eT, bX, bx, aR, aS, aq, ar, dn, rfl, li, lo, zi, zo, hk⟩ es
 refine wk_canon _ dn (fun _ => ?_)
 clear dn
 replace hT := hT.mono bX
 replace aM := aM.mono bX
 have eL := FAM.len aq
 have eM := FAM.len ar
 have hrl : (List.replicate c.blocks.length (default : Hd)).length = c.blocks.length := List.length_replicate
 refine wk_foc 1 rfl ?_
 refine wr 2 [] 23 23 [] [(23, (.bool (decide ((k : Int) < ((List.replicate c.blocks.length (default : Hd)).length : Int)))))] trivial (by kernel_rfl) rfl fun _ => ?_
 refine wk_if 4 6 (v := (decide ((k : Int) < ((List.replicate c.blocks.length (default : Hd)).length : Int)))) rfl rfl rfl rfl (fun cj => ?_) (fun cj => ?_)
 ·
  have c0 := cj
  try simp only [BS] at c0
  refine wr 1 [] 24 24 [5] [(5, (.int .i64 (k : Int)))] trivial (by kernel_rfl) rfl fun _ => ?_
  refine wf_region rfl ?_
  refine fm (.slice V ih.length Z) rfl rfl rfl ?_
  refine fm (.int .i64 (k : Int)) rfl rfl rfl ?_
  refine fm (.slice Y oh.length aa) rfl rfl rfl ?_
  refine fm (.int .i64 (k : Int)) rfl rfl rfl ?_
  refine wf_pure (v := (.pointer (some ⟨b1, 1, none⟩))) (id := .v) (ap_fa rfl rfl) rfl rfl (did_v rfl) (okD_v _) ?_
  refine wf_pure (v := (.int .i64 c.regs)) (id := .l b1) (ap_ld1 (i := 1) rfl rfl (HS.hc bx.log0 (i := 0) rfl) rfl rfl) rfl rfl (did_l rfl) (⟨.inl rfl, ⟨.inr trivial, ⟨.inr trivial, ⟨.inr trivial, ⟨.inr trivial, trivial⟩⟩⟩⟩⟩) ?_
  refine wf_call (W := []) (ap_call rfl rfl rfl) rfl rfl rfl (mb.empty_c ex c.regs (HS.call bx.log0) (by first | (dsimp only; omega) | omega) hT (by first | (dsimp only; omega) | omega)) (⟨.inl rfl, ⟨.inl rfl, ⟨.inr trivial, ⟨.inr trivial, ⟨.inr trivial, ⟨.inr trivial, trivial⟩⟩⟩⟩⟩⟩) ?_
  rintro _ eY ⟨bT, cd, g8, e6, gA, bf, al, rfl, b7, rfl⟩
  refine ⟨Wr.did al.log, fun ez dN => ?_⟩
  replace al := HS.back bx.log0 rfl al
  replace al := HS.lg al bx dN
  generalize ({ eY with log := ez } : Heap) = ft at al ⊢
  have al : HS _ _ _ [_, aB, aW, aC, aX, e6] _ := al
  replace hT := hT.mono bf
  replace aq := SF.mono bf aq
  replace ar := SF.mono bf ar
  refine wf_pure (v := (.pointer (some ⟨b1, 1, none⟩))) (id := .v) (ap_fa rfl rfl) rfl rfl (did_v rfl) (okD_v _) ?_
  refine wf_pure (v := (.int .i64 c.regs)) (id := .l b1) (ap_ld1 (i := 1) rfl rfl (HS.hc al.log0 (i := 0) rfl) rfl rfl) rfl rfl (did_l rfl) (⟨.inl rfl, ⟨.inr List.not_mem_nil, ⟨.inr trivial, ⟨.inr trivial, ⟨.inr trivial, ⟨.inr trivial, ⟨.inr trivial, ⟨.inr trivial, trivial⟩⟩⟩⟩⟩⟩⟩⟩) ?_
  refine wf_call (W := []) (ap_call rfl rfl rfl) rfl rfl rfl (mb.empty_c ex c.regs (HS.call al.log0) (by first | (dsimp only; omega) | omega) hT (by first | (dsimp only; omega) | omega)) (⟨.inl rfl, ⟨.inl rfl, ⟨.inl rfl, ⟨.inl rfl, ⟨.inl rfl, ⟨.inr trivial, ⟨.inr trivial, ⟨.inr trivial, ⟨.inr trivial, trivial⟩⟩⟩⟩⟩⟩⟩⟩⟩) ?_
  rintro _ eZ ⟨bU, ce, g9, e7, dW, bg, aw, rfl, dT, rfl⟩
  refine ⟨Wr.did aw.log, fun eA dO => ?_⟩
  replace aw := HS.back al.log0 rfl aw
  replace aw := HS.lg aw al dO
  generalize ({ eZ with log := eA } : Heap) = fu at aw ⊢
  have aw : HS _ _ _ [_, _, _, _, _, _, e7] _ := aw
  replace b7 := b7.mono bg
  replace aR := (aR.mono bf).mono bg
  replace aS := (aS.mono bf).mono bg
  replace aq := SF.mono bg aq
  replace ar := SF.mono bg ar
  refine wf_pure (v := (.pointer (some ⟨sB (.slice V ih.length Z), sO (.slice V ih.length Z) + k * Rp.sz Hd, none⟩))) (id := .v) (ap_idxV (α := Hd) (j := (k : Int)) rfl rfl rfl rfl (OS.sv aR aw.log0 (i := 1) rfl) (by first | (dsimp only; omega) | omega) (by first | (dsimp only; omega) | omega)) rfl rfl (did_v rfl) (okD_v _) ?_
  obtain ⟨d5, c7, cH, cB, d9⟩ := SF.open aq aw (q := 2) (i := k) rfl (by first | (dsimp only; omega) | omega)
  have cH : HS _ _ _ [_, _, d5, _, _, _, _, c7] _ := cH
  have cB : OS dW (.slice (ih.getD k default).a (ih.getD k default).n (ih.getD k default).k) (il.getD k default) c7 := cB
  have gj := OS.nlen cB
  obtain ⟨de, b8, dp⟩ := SF.shutN (⟨bT, (List.replicate (Int.tdiv (c.regs + 63) 64).toNat (⟨0⟩ : U64)).length, cd⟩ : Hd) d9 (Fz.le_refl _) cH (q := 2) (m := 5) (by decide) rfl rfl b7
  have b8 : HS _ _ _ [_, _, de, _, _, [], _, _] _ := b8
  have fJ := FAM.len dp
  refine wf_rk (id := .x (aB.map Prod.fst)) (rs_st (α := Hd) (j := k) (off := 0) (q := 1) (⟨bT, (List.replicate (Int.tdiv (c.regs + 63) 64).toNat (⟨0⟩ : U64)).length, cd⟩ : Hd) aR b8.log0 rfl rfl rfl rfl rfl rfl rfl rfl (getD_at (x := default) (by first | (dsimp only; omega) | omega)) rfl (by rintro cs rfl; exact ⟨Nat.le_of_ble_eq_true rfl, rfl⟩)) rfl (by rintro _ _ dG ⟨b4, _, hwr⟩; exact did_x rfl rfl (Wr.did hwr)) (⟨.inl rfl, ⟨.inl rfl, ⟨.inl rfl, ⟨.inl rfl, ⟨.inl rfl, ⟨.inl rfl, ⟨.inl rfl, ⟨.inr trivial, ⟨.inr trivial, ⟨.inl rfl, ⟨.inl rfl, trivial⟩⟩⟩⟩⟩⟩⟩⟩⟩⟩⟩) ?_
  rintro _ e0 dG ⟨b4, a4, _⟩ eB dP
  replace a4 := HS.lg a4 b8 dP
  generalize ({ e0 with log := eB } : Heap) = fv at a4 ⊢
  have a4 : HS _ _ _ [_, dG, _, _, _, _, _, _] _ := a4
  have fk := OS.len' b4
  refine wf_pure (v := (.pointer (some ⟨sB (.slice Y oh.length aa), sO (.slice Y oh.length aa) + k * Rp.sz Hd, none⟩))) (id := .v) (ap_idxV (α := Hd) (j := (k : Int)) rfl rfl rfl rfl (OS.sv aS a4.log0 (i := 3) rfl) (by first | (dsimp only; omega) | omega) (by first | (dsimp only; omega) | omega)) rfl rfl (did_v rfl) (okD_v _) ?_
  obtain ⟨d6, c8, cI, cC, ea⟩ := SF.open ar a4 (q := 4) (i := k) rfl (by first | (dsimp only; omega) | omega)
  have cI : HS _ _ _ [_, _, _, _, d6, _, _, _, c8] _ := cI
  have cC : OS dW (.slice (oh.getD k default).a (oh.getD k default).n (oh.getD k default).k) (ol.getD k default) c8 := cC
  have gk := OS.nlen cC
  obtain ⟨df, b9, dq⟩ := SF.shutN (⟨bU, (List.replicate (Int.tdiv (c.regs + 63) 64).toNat (⟨0⟩ : U64)).length, ce⟩ : Hd) ea (Fz.le_refl _) cI (q := 4) (m := 6) (by decide) rfl rfl dT
  have b9 : HS _ _ _ [_, _, _, _, df, _, [], _, _] _ := b9
  have fK := FAM.len dq
  refine wf_rk (id := .x (aC.map Prod.fst)) (rs_st (α := Hd) (j := k) (off := 0) (q := 3) (⟨bU, (List.replicate (Int.tdiv (c.regs + 63) 64).toNat (⟨0⟩ : U64)).length, ce⟩ : Hd) aS b9.log0 rfl rfl rfl rfl rfl rfl rfl rfl (getD_at (x := default) (by first | (dsimp only; omega) | omega)) rfl (by rintro cs rfl; exact ⟨Nat.le_of_ble_eq_true rfl, rfl⟩)) rfl (by rintro _ _ dH ⟨b5, _, hwr⟩; exact did_x rfl rfl (Wr.did hwr)) (⟨.inl rfl, ⟨.inl rfl, ⟨.inl rfl, ⟨.inl rfl, ⟨.inl rfl, ⟨.inl rfl, ⟨.inl rfl, ⟨.inl rfl, ⟨.inl rfl, ⟨.inl rfl, ⟨.inl rfl, ⟨.inl rfl, ⟨.inl rfl, trivial⟩⟩⟩⟩⟩⟩⟩⟩⟩⟩⟩⟩⟩) ?_
  rintro _ e1 dH ⟨b5, bj, _⟩ eC dQ
  replace bj := HS.lg bj b9 dQ
  generalize ({ e1 with log := eC } : Heap) = fw at bj ⊢
  have bj : HS _ _ _ [_, _, _, dH, _, _, _, _, _] _ := bj
  have fl := OS.len' b5
  refine wf_nil ?_
  refine wk_foc 2 rfl ?_
  refine wr 1 [] 22 22 [37] [(22, (.int .i64 ((k : Int) + 1)))] (vA (vi (n := (k : Int) + 1) (by first | (dsimp only; omega) | omega)) trivial) (by kernel_rfl) rfl fun _ => ?_
  refine es _ _ _ ?_ ⟨oh.set k (⟨bU, (List.replicate (Int.tdiv (c.regs + 63) 64).toNat (⟨0⟩ : U64)).length, ce⟩ : Hd), ol.set k (List.replicate (Int.tdiv (c.regs + 63) 64).toNat (⟨0⟩ : U64)), ih.set k (⟨bT, (List.replicate (Int.tdiv (c.regs + 63) 64).toNat (⟨0⟩ : U64)).length, cd⟩ : Hd), il.set k (List.replicate (Int.tdiv (c.regs + 63) 64).toNat (⟨0⟩ : U64)), k + 1, V, Z, dG, Y, aa, dH, de, df, _, (Fz.le_trans (Fz.le_trans (bX) bf) bg), (HS.sub bj (List.sublist_append_left _ _)), (OS.norm b4), (OS.norm b5), dp, dq, (agC rfl (agC (show Value.slice V ih.length Z = Value.slice V (ih.set k (⟨bT, (List.replicate (Int.tdiv (c.regs + 63) 64).toNat (⟨0⟩ : U64)).length, cd⟩ : Hd)).length Z by rw [OS.len' b4]) (agC (show Value.slice Y oh.length aa = Value.slice Y (oh.set k (⟨bU, (List.replicate (Int.tdiv (c.regs + 63) 64).toNat (⟨0⟩ : U64)).length, ce⟩ : Hd)).length aa by rw [OS.len' b5]) (agC rfl (agC rfl (agC rfl agN)))))), rfl, (by rw [List.length_set]; exact li), (by rw [List.length_set]; exact lo), (by exact zset zi (by omega)), (by exact zset zo (by omega)), (by first | assumption | omega | (simp at *; omega))⟩
  omega
 ·
  have c0 := cj
  try simp only [BS] at c0
  refine wr 2 [] 1 0 [6] [(6, (.bool true))] trivial (by kernel_rfl) rfl fun _ => ?_
  refine wk_loop_inv (fun (mm : Nat) f H' => ∃ (bK : List Hd) (bS : List (List U64)) (bH : List Hd) (a7 : List (List U64)) (mo : Bool) (ax : Option Addr) (az : Nat) (aU : Fp) (ay : Option Addr) (aA : Nat) (aV : Fp) (bd : Fp) (aY : Fp) (F' : Fz), Fz.le eT F' ∧ HS (Base.of H []) F' H' [[(b1, .cells [(.int .i64 c.params), (.int .i64 c.regs), (.slice am c.blocks.length ap)] none false)], aU, bd, aV, aY] R ∧ OS F' (.slice ax bH.length az) bH aU ∧ OS F' (.slice ay bK.length aA) bK aV ∧ SF F' bH a7 bd ∧ SF F' bK bS aY ∧ agrees f [(1, (.pointer (some ⟨b1, 0, none⟩))), (2, (.slice ax bH.length az)), (3, (.slice ay bK.length aA)), (4, (.int .i64 (c.blocks.length : Int))), (6, (.bool mo))] ∧ mm = mea mo (c.blocks.length * (64 * wds c)) (cntI a7) ∧ (Snd c a7 bS) ∧ (mo = false → ∀ b, b < c.blocks.length → Cl1 c a7 bS b)) _ ⟨oh, ol, ih, il, true, V, Z, aB, Y, aa, aC, aW, aX, _, (Fz.le_refl _), bx, aR, aS, aq, ar, (agC rfl (agC rfl (agC rfl (agC rfl (agC rfl agN))))), rfl, (by exact snd_start li lo (fun j hj => zi j (by omega)) (fun j hj => zo j (by omega))), (by intro h; cases h)⟩ ?_
  rintro gw g1 gL ⟨bK, bS, bH, a7, mo, ax, az, aU, ay, aA, aV, bd, aY, eU, bY, dA, ba, bb, a9, ak, dr, rfl, snd, cl⟩ et
  refine wk_canon _ dr (fun _ => ?_)
  clear dr
  replace hT := hT.mono bY
  replace aM := aM.mono bY
  have eN := FAM.len a9
  have eO := FAM.len ak
  have hli := snd.li
  have hlo := snd.lo
  refine wk_foc 2 rfl ?_
  refine wr 1 [] 38 38 [] [(38, (.bool mo))] trivial (by kernel_rfl) rfl fun _ => ?_
  refine wk_if 3 5 (v := mo) rfl rfl rfl rfl (fun cm => ?_) (fun cm => ?_)
  ·
   have cV := cm
   try simp only [BS] at cV
   have hmo := cV
   refine wr 2 [] 1 0 [6] [(6, (.bool false))] trivial (by kernel_rfl) rfl fun _ => ?_
   refine wr 2 [] 39 40 [7] [(7, (.int .i64 ((c.blocks.length : Int) - 1)))] (vA (vi (n := (c.blocks.length : Int) - 1) (by first | (dsimp only; omega) | omega)) trivial) (by kernel_rfl) rfl fun _ => ?_
   refine wk_loop_inv (fun (mm : Nat) f H' => ∃ (bL : List Hd) (bM : List (List U64)) (A : List Hd) (aj : List (List U64)) (kz : Int) (m2 : Bool) (J : Option Addr) (N : Nat) (ab : Fp) (aO : Option Addr) (aT : Nat) (aD : Fp) (aE : Fp) (aF : Fp) (F' : Fz), Fz.le eU F' ∧ HS (Base.of H []) F' H' [[(b1, .cells [(.int .i64 c.params), (.int .i64 c.regs), (.slice am c.blocks.length ap)] none false)], ab, aE, aD, aF] R ∧ OS F' (.slice J A.length N) A ab ∧ OS F' (.slice aO bL.length aT) bL aD ∧ SF F' A aj aE ∧ SF F' bL bM aF ∧ agrees f [(1, (.pointer (some ⟨b1, 0, none⟩))), (2, (.slice J A.length N)), (3, (.slice aO bL.length aT)), (4, (.int .i64 (c.blocks.length : Int))), (6, (.bool m2)), (7, (.int .i64 kz)), (38, (.bool mo))] ∧ mm = (kz + 1).toNat ∧ (Snd c aj bM) ∧ (-1 ≤ kz ∧ kz < (c.blocks.length : Int)) ∧ (m2 = false → aj = a7) ∧ (m2 = true → cntI a7 < cntI aj) ∧ (m2 = false → ∀ b : Nat, kz < (b : Int) → b < c.blocks.length → Cl1 c aj bM b)) _ ⟨bK, bS, bH, a7, (c.blocks.length : Int) - 1, false, ax, az, aU, ay, aA, aV, bd, aY, _, (Fz.le_refl _), dA, ba, bb, a9, ak, (agC rfl (agC rfl (agC rfl (agC rfl (agC rfl (agC rfl (agC rfl agN))))))), rfl, (by exact snd), (by first | assumption | omega | (simp at *; omega)), (by exact fun _ => rfl), (by intro h; cases h), (by intro _ b h1 h2; omega)⟩ ?_
   rintro gx g2 gM ⟨bL, bM, A, aj, kz, m2, J, N, ab, aO, aT, aD, aE, aF, gB, bt, bz, I, bc, aP, aQ, ds, rfl, bn, hkz, cW, ch, hcl⟩ dE
   refine wk_canon _ ds (fun _ => ?_)
   clear ds
   replace hT := hT.mono bt
   replace aM := aM.mono bt
   have eP := FAM.len aP
   have eQ := FAM.len aQ
   have f6 := bn.li
   have f7 := bn.lo
   refine wk_foc 2 rfl ?_
   refine wr 1 [] 41 42 [] [(42, (.bool (decide ((0 : Int) ≤ kz))))] trivial (by kernel_rfl) rfl fun _ => ?_
   refine wk_if 4 5 (v := (decide ((0 : Int) ≤ kz))) rfl rfl rfl rfl (fun cn => ?_) (fun cn => ?_)
   ·
    have c3 := cn
    try simp only [BS] at c3
    have hkn : kz.toNat < c.blocks.length := by omega
    have hbl := hins kz.toNat
    have hfn : ((c.blocks.getD kz.toNat default).fin = 2 ∨ (c.blocks.getD kz.toNat default).fin = 3) → 0 ≤ (c.blocks.getD kz.toNat default).reg ∧ (c.blocks.getD kz.toNat default).reg < c.regs := vF.fin kz.toNat hkn
    have clk : ∀ {Q : Nat → Prop}, (∀ b : Nat, ((kz.toNat : Nat) : Int) - 1 < (b : Int) → Q b) → ∀ b : Nat, kz - 1 < (b : Int) → Q b := fun h b hb => h b (by omega)
    refine wk_region ?_
    obtain ⟨z, dB⟩ := Sv.view (SR.sv aM bz)
    obtain ⟨fb, fc, fd, fe, av⟩ := BlkT.fx (dB kz.toNat)
    refine wro 5 0 [(1, .o (.slice am c.blocks.length ap)), (4, .o (.agg ⟨[(.slice (cA (z kz.toNat) 0) (c.blocks.getD kz.toNat default).ins.length (cK (z kz.toNat) 0)), (.int .i64 (c.blocks.getD kz.toNat default).fin), (.int .i64 (c.blocks.getD kz.toNat default).reg), (.int .i64 (c.blocks.getD kz.toNat default).tgt), (.int .i64 (c.blocks.getD kz.toNat default).els)]⟩))] 45 49 [] [(49, (.agg ⟨[(.slice (cA (z kz.toNat) 0) (c.blocks.getD kz.toNat default).ins.length (cK (z kz.toNat) 0)), (.int .i64 (c.blocks.getD kz.toNat default).fin), (.int .i64 (c.blocks.getD kz.toNat default).reg), (.int .i64 (c.blocks.getD kz.toNat default).tgt), (.int .i64 (c.blocks.getD kz.toNat default).els)]⟩))] (vA (ql 22 2 (HS.hc bz (i := 0) rfl) rfl rfl) (vA (Sv.ix (j := kz) (SR.sv aM bz) (by first | (dsimp only; omega) | omega) (by first | (dsimp only; omega) | omega)) (vA (qn 48 0 5 (BlkT.vw (dB kz.toNat) (by first | (dsimp only; omega) | omega)) rfl rfl rfl rfl) trivial))) (by kernel_rfl) rfl fun _ => ?_
    refine wo_rs (rs_new bz rfl) rfl rfl ?_
    rintro _ gN _ ⟨br, rfl, cJ, _⟩
    have cJ : HS _ _ _ [_, ab, aE, aD, aF, [(br, .cells [(.slice none 0 0), (.int .i64 0), (.int .i64 0), (.int .i64 0), (.int .i64 0)] none false)]] _ := cJ
    refine wo_rk (rs_rec (q := 5) cJ rfl rfl rfl rfl rfl rfl rfl rfl rfl) rfl ?_
    rintro _ gO _ ⟨bA, _⟩
    have bA : HS _ _ _ [_, _, _, _, _, [(br, .cells [(.slice (cA (z kz.toNat) 0) (c.blocks.getD kz.toNat default).ins.length (cK (z kz.toNat) 0)), (.int .i64 (c.blocks.getD kz.toNat default).fin), (.int .i64 (c.blocks.getD kz.toNat default).reg), (.int .i64 (c.blocks.getD kz.toNat default).tgt), (.int .i64 (c.blocks.getD kz.toNat default).els)] none false)]] _ := bA
    refine wo_end 3 rfl ?_
    refine wk_region ?_
    refine wro 1 0 [(0, .o (.agg ⟨[(.slice (cA (z kz.toNat) 0) (c.blocks.getD kz.toNat default).ins.length (cK (z kz.toNat) 0)), (.int .i64 (c.blocks.getD kz.toNat default).fin), (.int .i64 (c.blocks.getD kz.toNat default).reg), (.int .i64 (c.blocks.getD kz.toNat default).tgt), (.int .i64 (c.blocks.getD kz.toNat default).els)]⟩))] 50 50 [] [(50, (.agg ⟨[(.slice (cA (z kz.toNat) 0) (c.blocks.getD kz.toNat default).ins.length (cK (z kz.toNat) 0)), (.int .i64 (c.blocks.getD kz.toNat default).fin), (.int .i64 (c.blocks.getD kz.toNat default).reg), (.int .i64 (c.blocks.getD kz.toNat default).tgt), (.int .i64 (c.blocks.getD kz.toNat default).els)]⟩))] (vA (qn 48 0 5 (HS.hc bA (i := 5) rfl) rfl rfl rfl rfl) trivial) (by kernel_rfl) rfl fun _ => ?_
    refine wo_call (ap_call rfl rfl rfl) rfl rfl (ma.vsucc_c ex (c.blocks.getD kz.toNat default) (HS.call bA) av (by first | (dsimp only; omega) | omega) (by first | (dsimp only; omega) | omega) (by first | (dsimp only; omega) | omega) (by first | (dsimp only; omega) | omega) hT) ?_
    rintro _ gP ⟨cZ, dF, ha, cY, eV, aL, bB, rfl, bo, rfl⟩
    replace bB := HS.back bA rfl bB
    have bB : HS _ _ _ [_, _, _, _, _, _, cY] _ := bB
    replace bc := bc.mono aL
    replace aP := SF.mono aL aP
    replace aQ := SF.mono aL aQ
    refine wro 2 2 [] 52 53 [] [(52, (.int .i64 ((succV (c.blocks.getD kz.toNat default)).length : Int))), (53, (.int .i64 0))] trivial (by kernel_rfl) rfl fun _ => ?_
    refine wo_end 2 rfl ?_
    refine wk_loop_inv (fun (mm : Nat) f H' => ∃ (E : List Hd) (ah : List (List U64)) (q : Nat) (O : Option Addr) (U : Nat) (ad : Fp) (be : Fp) (aG : Fp) (F' : Fz), Fz.le eV F' ∧ HS (Base.of H []) F' H' [[(b1, .cells [(.int .i64 c.params), (.int .i64 c.regs), (.slice am c.blocks.length ap)] none false)], ab, aG, ad, be, [(br, .cells [(.slice (cA (z kz.toNat) 0) (c.blocks.getD kz.toNat default).ins.length (cK (z kz.toNat) 0)), (.int .i64 (c.blocks.getD kz.toNat default).fin), (.int .i64 (c.blocks.getD kz.toNat default).reg), (.int .i64 (c.blocks.getD kz.toNat default).tgt), (.int .i64 (c.blocks.getD kz.toNat default).els)] none false)], cY] R ∧ OS F' (.slice O E.length U) E ad ∧ SF F' E ah be ∧ SF F' A aj aG ∧ agrees f [(1, (.pointer (some ⟨b1, 0, none⟩))), (2, (.slice J A.length N)), (3, (.slice O E.length U)), (4, (.int .i64 (c.blocks.length : Int))), (6, (.bool m2)), (7, (.int .i64 kz)), (8, (.pointer (some ⟨br, 0, none⟩))), (38, (.bool mo)), (42, (.bool (decide ((0 : Int) ≤ kz)))), (49, (.agg ⟨[(.slice (cA (z kz.toNat) 0) (c.blocks.getD kz.toNat default).ins.length (cK (z kz.toNat) 0)), (.int .i64 (c.blocks.getD kz.toNat default).fin), (.int .i64 (c.blocks.getD kz.toNat default).reg), (.int .i64 (c.blocks.getD kz.toNat default).tgt), (.int .i64 (c.blocks.getD kz.toNat default).els)]⟩)), (50, (.agg ⟨[(.slice (cA (z kz.toNat) 0) (c.blocks.getD kz.toNat default).ins.length (cK (z kz.toNat) 0)), (.int .i64 (c.blocks.getD kz.toNat default).fin), (.int .i64 (c.blocks.getD kz.toNat default).reg), (.int .i64 (c.blocks.getD kz.toNat default).tgt), (.int .i64 (c.blocks.getD kz.toNat default).els)]⟩)), (51, (.slice cZ (succV (c.blocks.getD kz.toNat default)).length dF)), (52, (.int .i64 ((succV (c.blocks.getD kz.toNat default)).length : Int))), (53, (.int .i64 (q : Int)))] ∧ mm = (succV (c.blocks.getD kz.toNat default)).length - q ∧ (Snd c aj ah) ∧ (q ≤ (succV (c.blocks.getD kz.toNat default)).length) ∧ (∀ j, j ≠ kz.toNat → ah.getD j default = bM.getD j default) ∧ (∀ t ∈ (succV (c.blocks.getD kz.toNat default)).take q, ∀ r, bI aj t.toNat r → bI ah kz.toNat r)) _ ⟨bL, bM, 0, aO, aT, aD, aF, aE, _, (Fz.le_refl _), bB, bc, aQ, aP, (agC rfl (agC rfl (agC rfl (agC rfl (agC rfl (agC rfl (agC rfl (agC rfl (agC rfl (agC rfl (agC rfl (agC rfl (agC rfl (agC rfl agN)))))))))))))), rfl, (by exact bn), (by first | assumption | omega | (simp at *; omega)), (by exact fun _ _ => rfl), (by intro t ht; cases ht)⟩ ?_
    rintro gy g3 gQ ⟨E, ah, q, O, U, ad, be, aG, cg, a1, bk, T, bJ, au, dt, rfl, a6, hq, dz, d1⟩ eu
    refine wk_canon _ dt (fun _ => ?_)
    clear dt
    replace hT := (hT.mono aL).mono a1
    replace bo := bo.mono a1
    replace I := (I.mono aL).mono a1
    replace av := (av.mono aL).mono a1
    have eS := FAM.len bJ
    have eR := FAM.len au
    have ge := succ_len (b := (c.blocks.getD kz.toNat default))
    have f8 := a6.lo
    have gi := a6.wo kz.toNat hkn
    refine wk_foc 1 rfl ?_
    refine wr 2 [] 54 54 [] [(54, (.bool (decide ((q : Int) < ((succV (c.blocks.getD kz.toNat default)).length : Int)))))] trivial (by kernel_rfl) rfl fun _ => ?_
    refine wk_if 4 5 (v := (decide ((q : Int) < ((succV (c.blocks.getD kz.toNat default)).length : Int)))) rfl rfl rfl rfl (fun co => ?_) (fun co => ?_)
    ·
     have c4 := co
     try simp only [BS] at c4
     have hmem := mem_at (l := succV (c.blocks.getD kz.toNat default)) (q := q) (by omega)
     have hst := vF.succ kz.toNat hkn _ hmem
     have gg := a6.wi ((succV (c.blocks.getD kz.toNat default)).getD q 0).toNat (by omega)
     obtain ⟨fC, dC⟩ := Sv.view (OS.sv bo bk (i := 6) rfl)
     have g6 := fI (dC q)
     refine wr 1 [(1, .o (.int .i64 ((succV (c.blocks.getD kz.toNat default)).getD q 0)))] 55 56 [10] [(10, (.int .i64 ((succV (c.blocks.getD kz.toNat default)).getD q 0)))] (vA (Sv.ix (j := (q : Int)) (OS.sv bo bk (i := 6) rfl) (by first | (dsimp only; omega) | omega) (by first | (dsimp only; omega) | omega)) (vA (ql 3 0 (vI (dC q) (by first | (dsimp only; omega) | omega)) rfl rfl) trivial)) (by kernel_rfl) rfl fun _ => ?_
     refine wf_region rfl ?_
     refine fm (.slice O E.length U) rfl rfl rfl ?_
     refine fm (.int .i64 kz) rfl rfl rfl ?_
     refine wf_pure (v := (.pointer (some ⟨sB (.slice O E.length U), sO (.slice O E.length U) + kz.toNat * Rp.sz Hd, none⟩))) (id := .v) (ap_idxV (α := Hd) (j := kz) rfl rfl rfl rfl (OS.sv T bk.log0 (i := 3) rfl) (by first | (dsimp only; omega) | omega) (by first | (dsimp only; omega) | omega)) rfl rfl (did_v rfl) (okD_v _) ?_
     obtain ⟨fD, en⟩ := Sv.view (OS.sv T bk.log0 (i := 3) rfl)
     obtain ⟨db, ct, bC, b6, eb⟩ := SF.open bJ bk (q := 4) (i := kz.toNat) rfl (by first | (dsimp only; omega) | omega)
     have bC : HS _ _ _ [_, _, aG, ad, db, _, _, ct] _ := bC
     have b6 : OS cg (.slice (E.getD kz.toNat default).a (E.getD kz.toNat default).n (E.getD kz.toNat default).k) (ah.getD kz.toNat default) ct := b6
     have gm := OS.nlen b6
     refine wf_pure (v := (.slice (E.getD kz.toNat default).a (E.getD kz.toNat default).n (E.getD kz.toNat default).k)) (id := .l (sB (.slice O E.length U))) (ap_ld1 (i := 0) rfl rfl (vH (en kz.toNat) (by first | (dsimp only; omega) | omega)) rfl rfl) rfl rfl (did_l rfl) (⟨.inl rfl, ⟨.inl rfl, ⟨.inl rfl, trivial⟩⟩⟩) ?_
     refine fm (.slice J A.length N) rfl rfl rfl ?_
     refine fm (.int .i64 ((succV (c.blocks.getD kz.toNat default)).getD q 0)) rfl rfl rfl ?_
     refine wf_pure (v := (.pointer (some ⟨sB (.slice J A.length N), sO (.slice J A.length N) + ((succV (c.blocks.getD kz.toNat default)).getD q 0).toNat * Rp.sz Hd, none⟩))) (id := .v) (ap_idxV (α := Hd) (j := ((succV (c.blocks.getD kz.toNat default)).getD q 0)) rfl rfl rfl rfl (OS.sv I bC.log0 (i := 1) rfl) (by first | (dsimp only; omega) | omega) (by first | (dsimp only; omega) | omega)) rfl rfl (did_v rfl) (okD_v _) ?_
     obtain ⟨fE, eo⟩ := Sv.view (OS.sv I bC.log0 (i := 1) rfl)
     obtain ⟨dd, cu, bD, bu, ec⟩ := SF.open au bC (q := 2) (i := ((succV (c.blocks.getD kz.toNat default)).getD q 0).toNat) rfl (by first | (dsimp only; omega) | omega)
     have bD : HS _ _ _ [_, _, dd, _, _, _, _, _, cu] _ := bD
     have bu : OS cg (.slice (A.getD ((succV (c.blocks.getD kz.toNat default)).getD q 0).toNat default).a (A.getD ((succV (c.blocks.getD kz.toNat default)).getD q 0).toNat default).n (A.getD ((succV (c.blocks.getD kz.toNat default)).getD q 0).toNat default).k) (aj.getD ((succV (c.blocks.getD kz.toNat default)).getD q 0).toNat default) cu := bu
     have gn := OS.nlen bu
     refine wf_pure (v := (.slice (A.getD ((succV (c.blocks.getD kz.toNat default)).getD q 0).toNat default).a (A.getD ((succV (c.blocks.getD kz.toNat default)).getD q 0).toNat default).n (A.getD ((succV (c.blocks.getD kz.toNat default)).getD q 0).toNat default).k)) (id := .l (sB (.slice J A.length N))) (ap_ld1 (i := 0) rfl rfl (vH (eo ((succV (c.blocks.getD kz.toNat default)).getD q 0).toNat) (by first | (dsimp only; omega) | omega)) rfl rfl) rfl rfl (did_l rfl) (⟨.inl rfl, ⟨.inl rfl, ⟨.inl rfl, ⟨.inr trivial, ⟨.inr trivial, ⟨.inr trivial, ⟨.inr trivial, trivial⟩⟩⟩⟩⟩⟩⟩) ?_
     obtain ⟨fq, b2, bp, dU, dS⟩ := OS.frz bu bD (i := 8) rfl
     have bp : HS _ _ _ [_, _, _, _, _, _, _, _, []] _ := bp
     refine wf_call (W := (ct.map Prod.fst)) (ap_call rfl rfl rfl) rfl rfl rfl (mb.union_c ex (ah.getD kz.toNat default) (aj.getD ((succV (c.blocks.getD kz.toNat default)).getD q 0).toNat default) (HS.callOwn bp.log0 (i := 7) rfl) (OS.mono b2 b6) dU (hT.mono b2) (by first | (dsimp only; omega) | omega) (by first | (dsimp only; omega) | omega)) (⟨.inl rfl, ⟨.inl rfl, ⟨.inl rfl, ⟨.inl rfl, ⟨.inl rfl, ⟨.inl rfl, ⟨.inl rfl, ⟨.inl rfl, trivial⟩⟩⟩⟩⟩⟩⟩⟩) ?_
     rintro _ e2 ⟨he, eK, eI, gC, dl, an, rfl, b3, fR, fW, f0, f2⟩
     refine ⟨HS.didW an, fun eD dR => ?_⟩
     replace an := HS.backOwn bp.log0 (i := 7) rfl rfl (fun _ hb => hb) an
     replace an := HS.lg an bD dR
     generalize ({ e2 with log := eD } : Heap) = fy at an ⊢
     replace an := HS.thawL bD (i := 8) rfl (Fz.le_trans b2 dl) (fun b o hb => dl _ _ (dS b o hb)) (i' := 8) rfl an
     replace b3 := OS.ind (F' := cg) b3
     have an : HS _ _ _ [[(b1, .cells [(.int .i64 c.params), (.int .i64 c.regs), (.slice am c.blocks.length ap)] none false)], ab, dd, ad, db, [(br, .cells [(.slice (cA (z kz.toNat) 0) (c.blocks.getD kz.toNat default).ins.length (cK (z kz.toNat) 0)), (.int .i64 (c.blocks.getD kz.toNat default).fin), (.int .i64 (c.blocks.getD kz.toNat default).reg), (.int .i64 (c.blocks.getD kz.toNat default).tgt), (.int .i64 (c.blocks.getD kz.toNat default).els)] none false)], cY, eI, cu] _ := an
     have go := OS.len' b3
     refine wf_nil ?_
     refine wk_foc 2 rfl ?_
     refine wr 1 [] 53 53 [66] [(53, (.int .i64 ((q : Int) + 1)))] (vA (vi (n := (q : Int) + 1) (by first | (dsimp only; omega) | omega)) trivial) (by kernel_rfl) rfl fun _ => ?_
     obtain ⟨dg, cL, du⟩ := SF.shut0 ec (Fz.le_refl _) an (q := 2) (m := 8) (by decide) rfl rfl bu
     have cL : HS _ _ _ [_, _, dg, _, _, _, _, _, []] _ := cL
     have fM := FAM.len du
     obtain ⟨dh, cM, dv⟩ := SF.shut eb (Fz.le_refl _) cL (q := 4) (m := 7) (by decide) rfl rfl b3
     have cM : HS _ _ _ [_, _, _, _, dh, _, _, [], _] _ := cM
     have fN := FAM.len dv
     refine eu _ _ _ ?_ ⟨E, ah.set kz.toNat eK, q + 1, O, U, ad, dh, dg, _, (a1), (HS.sub cM (List.sublist_append_left _ _)), T, dv, du, (agC rfl (agC rfl (agC rfl (agC rfl (agC rfl (agC rfl (agC rfl (agC rfl (agC rfl (agC rfl (agC rfl (agC rfl (agC rfl (agC rfl agN)))))))))))))), rfl, (by exact snd_out a6 hkn hmem (by assumption) (by assumption)), (by first | assumption | omega | (simp at *; omega)), (by exact fun j hj => by rw [at_set, if_neg (fun e => hj e.1.symm)]; exact dz j hj), (by exact succ_step (by omega) (by omega) d1 (by assumption))⟩
     omega
    ·
     have c4 := co
     try simp only [BS] at c4
     have hsall : ∀ t ∈ succV (c.blocks.getD kz.toNat default), ∀ r, bI aj t.toNat r → bI ah kz.toNat r := fun t ht => d1 t (by rw [List.take_of_length_le (by omega)]; exact ht)
     have gh := a6.wi kz.toNat hkn
     refine wk_region ?_
     refine wo_rs (rs_lit (α := U64) (ps := []) (cells := []) ([] : List U64) bk rfl rfl rfl (by kernel_rfl) rfl rfl) rfl rfl ?_
     rintro _ gR e8 ⟨gZ, g7, rfl, ej, bE, _⟩
     have bE : HS _ _ _ [_, _, aG, ad, be, _, _, e8] _ := bE
     obtain ⟨fF, ep⟩ := Sv.view (OS.sv T bE (i := 3) rfl)
     obtain ⟨d7, c9, ca, a3, ed⟩ := SF.open bJ bE (q := 4) (i := kz.toNat) rfl (by first | (dsimp only; omega) | omega)
     have ca : HS _ _ _ [_, _, _, _, d7, _, _, _, c9] _ := ca
     have a3 : OS cg (.slice (E.getD kz.toNat default).a (E.getD kz.toNat default).n (E.getD kz.toNat default).k) (ah.getD kz.toNat default) c9 := a3
     have gp := OS.nlen a3
     refine wro 4 1 [(4, .o (.slice (E.getD kz.toNat default).a (E.getD kz.toNat default).n (E.getD kz.toNat default).k))] 68 71 [] [(71, (.slice (E.getD kz.toNat default).a (E.getD kz.toNat default).n (E.getD kz.toNat default).k))] (vA (Sv.ix (j := kz) (OS.sv T bE (i := 3) rfl) (by first | (dsimp only; omega) | omega) (by first | (dsimp only; omega) | omega)) (vA (ql 147 0 (vH (ep kz.toNat) (by first | (dsimp only; omega) | omega)) rfl rfl) trivial)) (by kernel_rfl) rfl fun _ => ?_
     refine wo_rs (rs_app (α := U64) (q := 7) ej ca rfl rfl rfl (OS.sv a3 ca (i := 8) rfl) rfl rfl rfl rfl rfl rfl rfl (by first | omega | (simp only [List.length_append, List.length_cons, List.length_nil]; omega))) rfl rfl ?_
     rintro _ gT d2 ⟨bN, bQ, rfl, cE, bF, _⟩
     have bF : HS _ _ _ [_, _, _, _, _, _, _, d2, _] _ := bF
     have cE : OS cg (.slice bN (ah.getD kz.toNat default).length bQ) (ah.getD kz.toNat default) d2 := cE
     refine wa (.slice bN (ah.getD kz.toNat default).length bQ) rfl rfl rfl ?_
     refine wo_end 2 rfl ?_
     refine wk_region ?_
     refine wro 2 0 [(1, .o (.agg ⟨[(.slice (cA (z kz.toNat) 0) (c.blocks.getD kz.toNat default).ins.length (cK (z kz.toNat) 0)), (.int .i64 (c.blocks.getD kz.toNat default).fin), (.int .i64 (c.blocks.getD kz.toNat default).reg), (.int .i64 (c.blocks.getD kz.toNat default).tgt), (.int .i64 (c.blocks.getD kz.toNat default).els)]⟩))] 73 74 [] [(73, (.slice bN (ah.getD kz.toNat default).length bQ)), (74, (.agg ⟨[(.slice (cA (z kz.toNat) 0) (c.blocks.getD kz.toNat default).ins.length (cK (z kz.toNat) 0)), (.int .i64 (c.blocks.getD kz.toNat default).fin), (.int .i64 (c.blocks.getD kz.toNat default).reg), (.int .i64 (c.blocks.getD kz.toNat default).tgt), (.int .i64 (c.blocks.getD kz.toNat default).els)]⟩))] (vA (qn 48 0 5 (HS.hc bF (i := 5) rfl) rfl rfl rfl rfl) trivial) (by kernel_rfl) rfl fun _ => ?_
     refine wo_call (ap_call rfl rfl rfl) rfl rfl (mb.addT_c ex (ah.getD kz.toNat default) (c.blocks.getD kz.toNat default) (HS.callOwn bF (i := 7) rfl) cE av (by first | (dsimp only; omega) | omega) (by first | (dsimp only; omega) | omega) (by first | (dsimp only; omega) | omega) (by first | (dsimp only; omega) | omega) hT (by first | omega | exact fun hf => by have := hfn hf; omega) (by first | omega | exact fun hf => by have := hfn hf; omega)) ?_
     rintro _ gU ⟨dK, dI, eW, aH, bl, rfl, cx, fS, fX⟩
     replace bl := HS.backOwn bF (i := 7) rfl rfl (fun _ hb => hb) bl
     have bl : HS _ _ _ [_, _, _, _, _, _, _, dI, _] _ := bl
     replace a3 := a3.mono aH
     replace au := SF.mono aH au
     have gq := OS.len' cx
     refine wo_end 3 rfl ?_
     refine wr 2 [(1, .o (.slice (cA (z kz.toNat) 0) (c.blocks.getD kz.toNat default).ins.length (cK (z kz.toNat) 0)))] 76 79 [12] [(12, (.int .i64 (((c.blocks.getD kz.toNat default).ins.length : Int) - 1)))] (vA (ql 46 0 (HS.hc bl (i := 5) rfl) rfl rfl) (vA (vi (n := ((c.blocks.getD kz.toNat default).ins.length : Int) - 1) (by first | (dsimp only; omega) | omega)) trivial)) (by kernel_rfl) rfl fun _ => ?_
     obtain ⟨bW, cN, aK⟩ := SF.shut0 ed (aH) bl (q := 4) (m := 8) (by decide) rfl rfl a3
     have cN : HS _ _ _ [_, _, _, _, bW, _, _, _, []] _ := cN
     have fO := FAM.len aK
     refine wk_loop_inv (fun (mm : Nat) f H' => ∃ (sw : List U64) (iz : Int) (ae : Option Addr) (ag : Nat) (aZ : Fp) (F' : Fz), Fz.le eW F' ∧ HS (Base.of H []) F' H' [[(b1, .cells [(.int .i64 c.params), (.int .i64 c.regs), (.slice am c.blocks.length ap)] none false)], ab, aG, ad, bW, [(br, .cells [(.slice (cA (z kz.toNat) 0) (c.blocks.getD kz.toNat default).ins.length (cK (z kz.toNat) 0)), (.int .i64 (c.blocks.getD kz.toNat default).fin), (.int .i64 (c.blocks.getD kz.toNat default).reg), (.int .i64 (c.blocks.getD kz.toNat default).tgt), (.int .i64 (c.blocks.getD kz.toNat default).els)] none false)], cY, aZ, []] R ∧ OS F' (.slice ae sw.length ag) sw aZ ∧ agrees f [(1, (.pointer (some ⟨b1, 0, none⟩))), (2, (.slice J A.length N)), (3, (.slice O E.length U)), (4, (.int .i64 (c.blocks.length : Int))), (6, (.bool m2)), (7, (.int .i64 kz)), (8, (.pointer (some ⟨br, 0, none⟩))), (11, (.slice ae sw.length ag)), (12, (.int .i64 iz)), (38, (.bool mo)), (42, (.bool (decide ((0 : Int) ≤ kz)))), (49, (.agg ⟨[(.slice (cA (z kz.toNat) 0) (c.blocks.getD kz.toNat default).ins.length (cK (z kz.toNat) 0)), (.int .i64 (c.blocks.getD kz.toNat default).fin), (.int .i64 (c.blocks.getD kz.toNat default).reg), (.int .i64 (c.blocks.getD kz.toNat default).tgt), (.int .i64 (c.blocks.getD kz.toNat default).els)]⟩)), (50, (.agg ⟨[(.slice (cA (z kz.toNat) 0) (c.blocks.getD kz.toNat default).ins.length (cK (z kz.toNat) 0)), (.int .i64 (c.blocks.getD kz.toNat default).fin), (.int .i64 (c.blocks.getD kz.toNat default).reg), (.int .i64 (c.blocks.getD kz.toNat default).tgt), (.int .i64 (c.blocks.getD kz.toNat default).els)]⟩)), (51, (.slice cZ (succV (c.blocks.getD kz.toNat default)).length dF)), (52, (.int .i64 ((succV (c.blocks.getD kz.toNat default)).length : Int))), (53, (.int .i64 (q : Int))), (54, (.bool (decide ((q : Int) < ((succV (c.blocks.getD kz.toNat default)).length : Int))))), (74, (.agg ⟨[(.slice (cA (z kz.toNat) 0) (c.blocks.getD kz.toNat default).ins.length (cK (z kz.toNat) 0)), (.int .i64 (c.blocks.getD kz.toNat default).fin), (.int .i64 (c.blocks.getD kz.toNat default).reg), (.int .i64 (c.blocks.getD kz.toNat default).tgt), (.int .i64 (c.blocks.getD kz.toNat default).els)]⟩))] ∧ mm = (iz + 1).toNat ∧ (sw.length = wds c) ∧ (∀ r, bitOf sw r = true ↔ tr ((c.blocks.getD kz.toNat default).ins.drop (iz + 1).toNat) (endS (c.blocks.getD kz.toNat default) (bI ah kz.toNat)) r) ∧ (-1 ≤ iz ∧ iz < ((c.blocks.getD kz.toNat default).ins.length : Int))) _ ⟨dK, ((c.blocks.getD kz.toNat default).ins.length : Int) - 1, bN, bQ, dI, _, (Fz.le_refl _), cN, (OS.norm cx), (agC rfl (agC rfl (agC rfl (agC rfl (agC rfl (agC rfl (agC rfl (agC (show Value.slice bN (ah.getD kz.toNat default).length bQ = Value.slice bN dK.length bQ by rw [OS.len' cx]) (agC rfl (agC rfl (agC rfl (agC rfl (agC rfl (agC rfl (agC rfl (agC rfl (agC rfl (agC rfl agN)))))))))))))))))), rfl, (by omega), (by exact tr_start (by omega) (fun r => Iff.rfl) (by assumption)), (by first | assumption | omega | (simp at *; omega))⟩ ?_
     rintro gz g4 gV ⟨sw, iz, ae, ag, aZ, eX, aI, aN, bR, dw, rfl, hsw, htr, hiz⟩ ev
     refine wk_canon _ dw (fun _ => ?_)
     clear dw
     replace hT := (hT.mono aH).mono aI
     replace I := (I.mono aH).mono aI
     replace T := (T.mono aH).mono aI
     replace av := (av.mono aH).mono aI
     replace au := SF.mono aI au
     replace aK := SF.mono aI aK
     refine wk_foc 2 rfl ?_
     refine wr 1 [] 80 81 [] [(81, (.bool (decide ((0 : Int) ≤ iz))))] trivial (by kernel_rfl) rfl fun _ => ?_
     refine wk_if 3 5 (v := (decide ((0 : Int) ≤ iz))) rfl rfl rfl rfl (fun cp => ?_) (fun cp => ?_)
     ·
      have c5 := cp
      try simp only [BS] at c5
      have hvl : (∀ x ∈ readsV ((c.blocks.getD kz.toNat default).ins.getD iz.toNat default), 0 ≤ x ∧ x < c.regs) ∧ (∀ x ∈ writesV ((c.blocks.getD kz.toNat default).ins.getD iz.toNat default), 0 ≤ x ∧ x < c.regs) ∧ ((c.blocks.getD kz.toNat default).ins.getD iz.toNat default).args.length ≤ 6 := reads_lim (vF.ins kz.toNat hkn iz.toNat (show iz.toNat < (c.blocks.getD kz.toNat default).ins.length by omega))
      have gf := hvl.2.2
      refine wk_region ?_
      obtain ⟨bV, dD⟩ := Sv.view (SR.sv av aN)
      obtain ⟨ff, fg, fh, fi, fj, dV⟩ := VInT.fx (dD iz.toNat)
      refine wro 6 0 [(2, .o (.slice (cA (z kz.toNat) 0) (c.blocks.getD kz.toNat default).ins.length (cK (z kz.toNat) 0))), (5, .o (.agg ⟨[(.int .i64 ((c.blocks.getD kz.toNat default).ins.getD iz.toNat default).i.op), (.int .i64 ((c.blocks.getD kz.toNat default).ins.getD iz.toNat default).i.a), (.int .i64 ((c.blocks.getD kz.toNat default).ins.getD iz.toNat default).i.b), (.int .i64 ((c.blocks.getD kz.toNat default).ins.getD iz.toNat default).i.c), (.int .i64 ((c.blocks.getD kz.toNat default).ins.getD iz.toNat default).i.n), (.slice (cA (bV iz.toNat) 5) ((c.blocks.getD kz.toNat default).ins.getD iz.toNat default).args.length (cK (bV iz.toNat) 5))]⟩))] 84 89 [] [(84, (.slice ae sw.length ag)), (89, (.agg ⟨[(.int .i64 ((c.blocks.getD kz.toNat default).ins.getD iz.toNat default).i.op), (.int .i64 ((c.blocks.getD kz.toNat default).ins.getD iz.toNat default).i.a), (.int .i64 ((c.blocks.getD kz.toNat default).ins.getD iz.toNat default).i.b), (.int .i64 ((c.blocks.getD kz.toNat default).ins.getD iz.toNat default).i.c), (.int .i64 ((c.blocks.getD kz.toNat default).ins.getD iz.toNat default).i.n), (.slice (cA (bV iz.toNat) 5) ((c.blocks.getD kz.toNat default).ins.getD iz.toNat default).args.length (cK (bV iz.toNat) 5))]⟩))] (vA (ql 46 0 (HS.hc aN (i := 5) rfl) rfl rfl) (vA (Sv.ix (j := iz) (SR.sv av aN) (by first | (dsimp only; omega) | omega) (by first | (dsimp only; omega) | omega)) (vA (qn 52 0 6 (VInT.vw (dD iz.toNat) (by first | (dsimp only; omega) | omega)) rfl rfl rfl rfl) trivial))) (by kernel_rfl) rfl fun _ => ?_
      refine wo_call (ap_call rfl rfl rfl) rfl rfl (mb.transfer_c ex sw ((c.blocks.getD kz.toNat default).ins.getD iz.toNat default) (HS.callOwn aN (i := 7) rfl) bR (by first | (dsimp only; omega) | omega) (by first | (dsimp only; omega) | omega) (by first | (dsimp only; omega) | omega) (by first | (dsimp only; omega) | omega) (by first | (dsimp only; omega) | omega) dV hT (by first | omega | exact fun x hx => by have := hvl.1 x hx; omega | exact fun x hx => by have := hvl.2.1 x hx; omega) (by first | omega | exact fun x hx => by have := hvl.1 x hx; omega | exact fun x hx => by have := hvl.2.1 x hx; omega) (by first | omega | exact fun x hx => by have := hvl.1 x hx; omega | exact fun x hx => by have := hvl.2.1 x hx; omega) (by first | omega | exact fun x hx => by have := hvl.1 x hx; omega | exact fun x hx => by have := hvl.2.1 x hx; omega)) ?_
      rintro _ gW ⟨dL, dJ, gD, ee, bG, rfl, cy, fT, fY⟩
      replace bG := HS.backOwn aN (i := 7) rfl rfl (fun _ hb => hb) bG
      have bG : HS _ _ _ [_, _, _, _, _, _, _, dJ, _] _ := bG
      have gr := OS.len' cy
      refine wo_end 2 rfl ?_
      refine wr 1 [] 82 83 [12] [(12, (.int .i64 (iz - 1)))] (vA (vi (n := iz - 1) (by first | (dsimp only; omega) | omega)) trivial) (by kernel_rfl) rfl fun _ => ?_
      refine ev _ _ _ ?_ ⟨dL, iz - 1, ae, ag, dJ, _, (Fz.le_trans (aI) ee), bG, (OS.norm cy), (agC rfl (agC rfl (agC rfl (agC rfl (agC rfl (agC rfl (agC rfl (agC (show Value.slice ae sw.length ag = Value.slice ae dL.length ag by rw [OS.len' cy]) (agC rfl (agC rfl (agC rfl (agC rfl (agC rfl (agC rfl (agC rfl (agC rfl (agC rfl (agC rfl agN)))))))))))))))))), rfl, (by omega), (by rw [show (iz - 1 + 1).toNat = iz.toNat by omega]; exact tr_next (by omega) (by rw [show iz.toNat + 1 = (iz + 1).toNat by omega]; exact htr) (by assumption)), (by first | assumption | omega | (simp at *; omega))⟩
      omega
     ·
      have c5 := cp
      try simp only [BS] at c5
      have cc : ∀ r, bitOf sw r = true ↔ inS (c.blocks.getD kz.toNat default) (bI ah kz.toNat) r := fun r => by have := htr r; rwa [show (iz + 1).toNat = 0 by omega, List.drop_zero] at this
      refine wk_region ?_
      obtain ⟨fG, er⟩ := Sv.view (OS.sv I aN (i := 1) rfl)
      obtain ⟨d8, da, cO, bh, dk⟩ := SF.open au aN (q := 2) (i := kz.toNat) rfl (by first | (dsimp only; omega) | omega)
      have cO : HS _ _ _ [_, _, d8, _, _, _, _, aZ, _, da] _ := cO
      have bh : OS eX (.slice (A.getD kz.toNat default).a (A.getD kz.toNat default).n (A.getD kz.toNat default).k) (aj.getD kz.toNat default) da := bh
      have gt := OS.nlen bh
      refine wro 5 0 [(3, .o (.slice (A.getD kz.toNat default).a (A.getD kz.toNat default).n (A.getD kz.toNat default).k))] 91 95 [] [(94, (.slice (A.getD kz.toNat default).a (A.getD kz.toNat default).n (A.getD kz.toNat default).k)), (95, (.slice ae sw.length ag))] (vA (Sv.ix (j := kz) (OS.sv I aN (i := 1) rfl) (by first | (dsimp only; omega) | omega) (by first | (dsimp only; omega) | omega)) (vA (ql 147 0 (vH (er kz.toNat) (by first | (dsimp only; omega) | omega)) rfl rfl) trivial)) (by kernel_rfl) rfl fun _ => ?_
      obtain ⟨gF, aJ, cb, ek, f9⟩ := OS.frz bR cO (i := 7) rfl
      have cb : HS _ _ _ [_, _, _, _, _, _, _, [], _, _] _ := cb
      replace hT := hT.mono aJ
      replace bh := bh.mono aJ
      replace aK := SF.mono aJ aK
      refine wo_call (ap_call rfl rfl rfl) rfl rfl (mb.union_c ex (aj.getD kz.toNat default) sw (HS.callOwn cb (i := 9) rfl) bh ek hT (by first | (dsimp only; omega) | omega) (by first | (dsimp only; omega) | omega)) ?_
      rintro _ gX ⟨e9, dM, eJ, gE, a2, bm, rfl, cz, fV, fZ, f1, f3⟩
      replace bm := HS.backOwn cb (i := 9) rfl rfl (fun _ hb => hb) bm
      have bm : HS _ _ _ [_, _, _, _, _, _, _, _, _, eJ] _ := bm
      replace I := (I.mono aJ).mono a2
      replace T := (T.mono aJ).mono a2
      replace aK := SF.mono a2 aK
      have gu := OS.len' cz
      refine wo_end 1 rfl ?_
      refine wk_if 0 2 (v := e9) rfl rfl rfl rfl (fun cr => ?_) (fun cr => ?_)
      ·
       have c6 := cr
       try simp only [BS] at c6
       refine wr 2 [] 1 0 [6] [(6, (.bool true))] trivial (by kernel_rfl) rfl fun _ => ?_
       refine wr 1 [] 43 44 [7] [(7, (.int .i64 (kz - 1)))] (vA (vi (n := kz - 1) (by first | (dsimp only; omega) | omega)) trivial) (by kernel_rfl) rfl fun _ => ?_
       obtain ⟨di, cP, dx⟩ := SF.shut dk (Fz.le_trans (aJ) a2) bm (q := 2) (m := 9) (by decide) rfl rfl cz
       have cP : HS _ _ _ [_, _, di, _, _, _, _, _, _, []] _ := cP
       have fP := FAM.len dx
       refine dE _ _ _ ?_ ⟨E, ah, A, aj.set kz.toNat dM, kz - 1, true, J, N, ab, O, U, ad, di, bW, _, (Fz.le_trans (Fz.le_trans (Fz.le_trans (Fz.le_trans (Fz.le_trans (Fz.le_trans (bt) aL) a1) aH) aI) aJ) a2), (HS.sub cP (List.sublist_append_left _ _)), I, T, dx, aK, (agC rfl (agC rfl (agC rfl (agC rfl (agC rfl (agC rfl (agC rfl agN))))))), rfl, (by exact snd_in a6 hkn (by assumption) (by assumption) cc), (by first | assumption | omega | (simp at *; omega)), (by first | (intro h; cases h; done) | exact keep0 (by assumption) (by assumption) cW), (by first | exact fun _ => cnt_t cW ch (cnt_more (by omega) (by assumption) (by assumption) (use4 (by assumption) (by assumption))) | exact keep1 (by assumption) (by assumption) ch), (by first | (intro h; cases h; done) | (intro h; exact clk (cl_step hkn (fun b h1 => hcl h b (by omega)) dz hsall cc (use3 (by assumption) (by assumption)) (by assumption))))⟩
       omega
      ·
       have c6 := cr
       try simp only [BS] at c6
       refine wr 1 [] 43 44 [7] [(7, (.int .i64 (kz - 1)))] (vA (vi (n := kz - 1) (by first | (dsimp only; omega) | omega)) trivial) (by kernel_rfl) rfl fun _ => ?_
       obtain ⟨dj, cQ, dy⟩ := SF.shut dk (Fz.le_trans (aJ) a2) bm (q := 2) (m := 9) (by decide) rfl rfl cz
       have cQ : HS _ _ _ [_, _, dj, _, _, _, _, _, _, []] _ := cQ
       have fQ := FAM.len dy
       refine dE _ _ _ ?_ ⟨E, ah, A, aj.set kz.toNat dM, kz - 1, m2, J, N, ab, O, U, ad, dj, bW, _, (Fz.le_trans (Fz.le_trans (Fz.le_trans (Fz.le_trans (Fz.le_trans (Fz.le_trans (bt) aL) a1) aH) aI) aJ) a2), (HS.sub cQ (List.sublist_append_left _ _)), I, T, dy, aK, (agC rfl (agC rfl (agC rfl (agC rfl (agC rfl (agC rfl (agC rfl agN))))))), rfl, (by exact snd_in a6 hkn (by assumption) (by assumption) cc), (by first | assumption | omega | (simp at *; omega)), (by first | (intro h; cases h; done) | exact keep0 (by assumption) (by assumption) cW), (by first | exact fun _ => cnt_t cW ch (cnt_more (by omega) (by assumption) (by assumption) (use4 (by assumption) (by assumption))) | exact keep1 (by assumption) (by assumption) ch), (by first | (intro h; cases h; done) | (intro h; exact clk (cl_step hkn (fun b h1 => hcl h b (by omega)) dz hsall cc (use3 (by assumption) (by assumption)) (by assumption))))⟩
       omega
   ·
    have c3 := cn
    try simp only [BS] at c3
    refine et _ _ _ ?_ ⟨bL, bM, A, aj, m2, J, N, ab, aO, aT, aD, aE, aF, _, (Fz.le_trans (bY) bt), bz, I, bc, aP, aQ, (agC rfl (agC rfl (agC rfl (agC rfl (agC rfl agN))))), rfl, (by exact bn), (by exact fun h b hb => hcl h b (by omega) hb)⟩
    rw [hmo]; exact mea_lt ch (cnt_le bn.li bn.wi)
  ·
   have cV := cm
   try simp only [BS] at cV
   refine wr 1 [] 97 98 [2, 3] [(2, (.slice ax bH.length az)), (3, (.slice ay bK.length aA))] trivial (by kernel_rfl) rfl fun _ => ?_
   obtain ⟨gG, bZ, cR, ef⟩ := SF.freeze a9 dA (q := 2) rfl
   have cR : HS _ _ _ [_, aU, _, aV, aY] _ := cR
   replace ba := ba.mono bZ
   replace ak := SF.mono bZ ak
   obtain ⟨gH, b0, cS, el, ga⟩ := OS.frz ba cR (i := 1) rfl
   have cS : HS _ _ _ [_, [], _, _, _] _ := cS
   replace ak := SF.mono b0 ak
   have bw := SR.rows el (FAM.len a9) (fun i hi => SR.mono b0 (ef i hi))
   have eE := SR.len' bw
   have fo := SR.norm bw
   obtain ⟨gI, cv, cT, eg⟩ := SF.freeze ak cS (q := 4) rfl
   have cT : HS _ _ _ [_, _, _, _, []] _ := cT
   replace bb := ((bb.mono bZ).mono b0).mono cv
   obtain ⟨gJ, cw, cU, em, gc⟩ := OS.frz bb cT (i := 3) rfl
   have cU : HS _ _ _ [_, _, _, [], _] _ := cU
   replace bw := (bw.mono cv).mono cw
   have cF := SR.rows em (FAM.len ak) (fun i hi => SR.mono cw (eg i hi))
   have eF := SR.len' cF
   have fp := SR.norm cF
   refine wk_ret ⟨.inr rfl, _, rfl, ax, az, a7, ay, aA, bS, _, (Fz.le_trans (Fz.le_trans (Fz.le_trans (Fz.le_trans (Fz.le_trans (bX) bY) bZ) b0) cv) cw), (HS.forget cU), (by simp only [eE, eF]; rfl), (SR.norm bw), (SR.norm cF), (by exact anF_of snd (cl (by assumption)))⟩
end Go.Proofs.YtknafdcgpaejlaaDoor.mc
