/-
 Live registers: the solution of the equations, by a symbolic run. No condition but that the function is valid.
-/
import Derived.Test.YtlabedbmgmfbaaaDoorZBMB
noncomputable section
namespace Go.Proofs.YtlabedbmgmfbaaaDoor.mc
open Go.R
set_option maxRecDepth 10000
set_option linter.unusedVariables false
open m1 m2 m3 m4 m5 m6 ma ml mb
theorem zset {l : List (List U64)} {k : Nat} {z : List U64} (h : ∀ j, j < k → l.getD j default = z) (hk : k < l.length) : ∀ j, j < k + 1 → (l.set k z).getD j default = z := fun j hj => by
 rw [at_set]
 split
 ·
  rfl
 ·
  rename_i hq; exact h j (by omega)
theorem mem_at {l : List Int} {q : Nat} (h : q < l.length) : l.getD q 0 ∈ l := by
 rw [List.getD_eq_getElem?_getD, List.getElem?_eq_getElem h]; exact List.getElem_mem h
theorem succ_step {I O : List (List U64)} {k q : Nat} {s : List U64} {l : List Int} (hq : q < l.length) (hk : k < O.length) (h : ∀ t ∈ l.take q, ∀ r, bI I t.toNat r → bI O k r) (hb : ∀ i, bitOf s i = (bitOf (O.getD k default) i || bitOf (I.getD (l.getD q 0).toNat default) i)) : ∀ t ∈ l.take (q + 1), ∀ r, bI I t.toNat r → bI (O.set k s) k r := by
 intro t ht r hr
 unfold bI
 rw [at_set, if_pos ⟨rfl, hk⟩, hb, Bool.or_eq_true]
 rw [take_snoc hq (d := 0), List.mem_append, List.mem_singleton] at ht
 rcases ht with ht | rfl
 ·
  exact .inl (h t ht r hr)
 ·
  exact .inr hr
theorem tr_start {b : BlkT} {S : Nat → Prop} {s z : List U64} {n : Nat} (hn : b.ins.length ≤ n) (hs : ∀ r, bitOf s r = true ↔ S r) (h : ∀ i, bitOf z i = (bitOf s i || decide ((i : Int) ∈ endV b))) (r : Nat) : bitOf z r = true ↔ tr (b.ins.drop n) (endS b S) r := by
 rw [List.drop_of_length_le hn, h, Bool.or_eq_true, hs, decide_eq_true_eq]; exact Iff.rfl
theorem cl_step {c : VFnT} {I O A : List (List U64)} {s z : List U64} {k : Nat} (hk : k < c.blocks.length) (hcl : ∀ b : Nat, (k : Int) < (b : Int) → b < c.blocks.length → Cl1 c I O b) (ho : ∀ j, j ≠ k → A.getD j default = O.getD j default) (hs : ∀ t ∈ succV (blkN c k), ∀ r, bI I t.toNat r → bI A k r)
  (ht : ∀ r, bitOf s r = true ↔ inS (blkN c k) (bI A k) r) (hz : z = I.getD k default) (hb : ∀ i, bitOf z i = (bitOf (I.getD k default) i || bitOf s i)) : ∀ b : Nat, (k : Int) - 1 < (b : Int) → b < c.blocks.length → Cl1 c (I.set k z) A b := by
 intro b T N
 rw [hz, set_getD]
 by_cases e : b = k
 ·
  subst e
  refine ⟨hs, fun r hr => ?_⟩
  have := hb r
  rw [hz] at this
  unfold bI
  rw [this, (ht r).2 hr, Bool.or_true]
 ·
  have J := hcl b (by omega) N
  have E : bI A b = bI O b := by unfold bI; rw [ho b e]
  exact ⟨fun t ht r hr => by rw [E]; exact J.1 t ht r hr, fun r hr => J.2 r (by rw [E] at hr; exact hr)⟩
theorem cnt_t {m2 : Bool} {A B D : List (List U64)} (z : m2 = false → B = A) (E : m2 = true → cntI A < cntI B) (h : cntI B < cntI D) : cntI A < cntI D := by
 cases m2 with
 | false => rw [z rfl] at h; exact h
 | true => have := E rfl; omega
theorem keep0 {m2 r : Bool} {A B : List (List U64)} {k : Nat} {z : List U64} (I : r = false → z = B.getD k default) (hr : r = false) (E : m2 = false → B = A) : m2 = false → B.set k z = A := fun h => by rw [I hr, set_getD]; exact E h
theorem keep1 {m2 r : Bool} {A B : List (List U64)} {k : Nat} {z : List U64} (I : r = false → z = B.getD k default) (hr : r = false) (E : m2 = true → cntI A < cntI B) : m2 = true → cntI A < cntI (B.set k z) := fun h => by rw [I hr, set_getD]; exact E h
theorem use3 {α : Prop} {r : Bool} (h : r = false → α) (hr : r = false) : α := h hr
theorem use4 {α : Prop} {r : Bool} (h : r = true → α) (hr : r = true) : α := h hr
theorem succ_len {b : BlkT} : (succV b).length ≤ 2 := by
 unfold succV
 split
 ·
  simp
 ·
  split
  ·
   exact ins_len
  ·
   simp
theorem wd_le {c : VFnT} (h : 0 ≤ c.regs ∧ c.regs ≤ 3000) : c.regs ≤ 64 * ((wds c : Nat) : Int) ∧ wds c ≤ 48 := by
 unfold wds
 rw [Int.tdiv_eq_ediv_of_nonneg (by omega)]; omega
set_option maxHeartbeats 2000000 in
theorem analyze_c (ex : FuncId) {al : Option Addr} {an : Nat} (c : VFnT) {F : Fz} {H : Heap} {R : List Fp} (hs : HS (.of H []) F H [] R) (f1 : in64 c.params) (f2 : in64 c.regs) (aK : SR F (.slice al c.blocks.length an) c.blocks) (hT : TB 37 tabC F) (hval : valV c = true) (hins : ∀ j, (c.blocks.getD j default).ins.length ≤ 1099511627776) : C Tryd.prog 1 (KT 60 ex 37 tabC) 51 [(.agg ⟨[(.int .i64 c.params), (.int .i64 c.regs), (.slice al c.blocks.length an)]⟩)] H fun v H' => ∃ (ail : Option Addr) (kil : Nat) (il : List (List U64)) (aol : Option Addr) (kol : Nat) (ol : List (List U64)) (F' : Fz), Fz.le F F' ∧ HS (.of H []) F' H' [] R ∧ v = .tuple ⟨[.slice ail il.length kil, .slice aol ol.length kol]⟩ ∧ SR F' (.slice ail il.length kil) il ∧ SR F' (.slice aol ol.length kol) ol ∧ (AnF c il ol) := by
 have vF := vF_of hval
 have hnb := vF.nb
 have hrg := vF.regs
 have hwd := wd_le hrg
 refine c_enter Tryd.func51 rfl rfl ?_
 refine wk_foc 1 rfl ?_
 refine wk_region ?_
 refine wo_rs (rs_box hs rfl rfl) rfl rfl ?_
 rintro _ H2 _ ⟨b1, rfl, cg, _⟩
 have cg : HS _ _ _ [[(b1, .cells [(.int .i64 c.params), (.int .i64 c.regs), (.slice al c.blocks.length an)] none false)]] _ := cg
 refine wro 2 1 [] 1 0 [2, 3] [(2, (.slice none 0 0)), (3, (.slice none 0 0))] trivial (by kernel_rfl) rfl fun _ => ?_
 refine wo_end 2 rfl ?_
 refine wr 2 [(1, .o (.slice al c.blocks.length an))] 13 15 [4] [(4, (.int .i64 (c.blocks.length : Int)))] (vA (ql 22 2 (HS.hc cg (i := 0) rfl) rfl rfl) trivial) (by kernel_rfl) rfl fun _ => ?_
 refine wf_region rfl ?_
 refine fm (.int .i64 (c.blocks.length : Int)) rfl rfl rfl ?_
 refine wf_rs (id := .x []) (rs_make (default : Hd) cg.log0 rfl rfl rfl rfl rfl rfl rfl rfl rfl rfl (by first | (dsimp only; omega) | omega) (by first | (dsimp only; omega) | omega)) rfl rfl (by rintro _ _ p5 ⟨a5, k5, rfl, dW, _, hwr⟩; exact did_x rfl rfl (Wr.did hwr)) (⟨.inl rfl, trivial⟩) ?_
 rintro _ H6 p5 ⟨a5, k5, rfl, dW, bM, _⟩ e2 ef
 replace bM := HS.lg bM cg ef
 generalize ({ H6 with log := e2 } : Heap) = gO at bM ⊢
 have bM : HS _ _ _ [_, p5] _ := bM
 have cV := HS.snoc bM
 have cV : HS _ _ _ [_, _, []] _ := cV
 have dV : SF F (List.replicate c.blocks.length (default : Hd)) (List.replicate c.blocks.length ([] : List U64)) [] := SF.rep _
 have g1 := FAM.len dV
 refine fm (.int .i64 (c.blocks.length : Int)) rfl rfl rfl ?_
 refine wf_rs (id := .x []) (rs_make (default : Hd) cV.log0 rfl rfl rfl rfl rfl rfl rfl rfl rfl rfl (by first | (dsimp only; omega) | omega) (by first | (dsimp only; omega) | omega)) rfl rfl (by rintro _ _ p8 ⟨a8, k8, rfl, dX, _, hwr⟩; exact did_x rfl rfl (Wr.did hwr)) (⟨.inl rfl, ⟨.inr ⟨trivial, trivial⟩, ⟨.inr trivial, trivial⟩⟩⟩) ?_
 rintro _ H9 p8 ⟨a8, k8, rfl, dX, bN, _⟩ e3 eg
 replace bN := HS.lg bN cV eg
 generalize ({ H9 with log := e3 } : Heap) = gU at bN ⊢
 have bN : HS _ _ _ [_, _, _, p8] _ := bN
 have cE := HS.snoc bN
 have cE : HS _ _ _ [_, _, _, _, []] _ := cE
 have dk : SF F (List.replicate c.blocks.length (default : Hd)) (List.replicate c.blocks.length ([] : List U64)) [] := SF.rep _
 have fF := FAM.len dk
 refine fa (.slice a5 (List.replicate c.blocks.length (default : Hd)).length k5) rfl rfl rfl ?_
 refine fa (.slice a8 (List.replicate c.blocks.length (default : Hd)).length k8) rfl rfl rfl ?_
 refine wf_nil ?_
 refine wk_foc 3 rfl ?_
 refine wr 2 [] 20 22 [] [(21, (.int .i64 ((List.replicate c.blocks.length (default : Hd)).length : Int))), (22, (.int .i64 0))] trivial (by kernel_rfl) rfl fun _ => ?_
 refine wk_loop_inv (fun (mm : Nat) f H' => ∃ (oh : List Hd) (ol : List (List U64)) (ih : List Hd) (il : List (List U64)) (k : Nat) (V : Option Addr) (Z : Nat) (az : Fp) (Y : Option Addr) (aa : Nat) (aA : Fp) (aU : Fp) (aV : Fp) (F' : Fz), Fz.le F F' ∧ HS (Base.of H []) F' H' [[(b1, .cells [(.int .i64 c.params), (.int .i64 c.regs), (.slice al c.blocks.length an)] none false)], az, aU, aA, aV] R ∧ OS F' (.slice V ih.length Z) ih az ∧ OS F' (.slice Y oh.length aa) oh aA ∧ SF F' ih il aU ∧ SF F' oh ol aV ∧ agrees f [(1, (.pointer (some ⟨b1, 0, none⟩))), (2, (.slice V ih.length Z)), (3, (.slice Y oh.length aa)), (4, (.int .i64 (c.blocks.length : Int))), (21, (.int .i64 ((List.replicate c.blocks.length (default : Hd)).length : Int))), (22, (.int .i64 (k : Int)))] ∧ mm = c.blocks.length - k ∧ (il.length = c.blocks.length) ∧ (ol.length = c.blocks.length) ∧ (∀ j, j < k → il.getD j default = List.replicate (wds c) ⟨0⟩) ∧ (∀ j, j < k → ol.getD j default = List.replicate (wds c) ⟨0⟩) ∧ (k ≤ c.blocks.length)) _ ⟨List.replicate c.blocks.length (default : Hd), List.replicate c.blocks.length ([] : List U64), List.replicate c.blocks.length (default : Hd), List.replicate c.blocks.length ([] : List U64), 0, a5, k5, p5, a8, k8, p8, [], [], _, (Fz.le_refl _), cE, dW, dX, dV, dk, (agC rfl (agC rfl (agC rfl (agC rfl (agC rfl (agC rfl agN)))))), rfl, (by simp), (by simp), (by intro j hj; omega), (by intro j hj; omega), (by first | assumption | omega | (simp at *; omega))⟩ ?_
 rintro gq gW gG ⟨oh, ol, ih, il, k, V, Z, az, Y, aa, aA, aU, aV, eR, bV, bu, aP, aQ, ao, ap, dl, rfl, li, lo, zi, zo, hk⟩ ep
 refine wk_canon _ dl (fun _ => ?_)
 clear dl
 replace hT := hT.mono bV
 replace aK := aK.mono bV
 have eJ := FAM.len ao
 have eK := FAM.len ap
 have hrl : (List.replicate c.blocks.length (default : Hd)).length = c.blocks.length := List.length_replicate
 refine wk_foc 1 rfl ?_
 refine wr 2 [] 23 23 [] [(23, (.bool (decide ((k : Int) < ((List.replicate c.blocks.length (default : Hd)).length : Int)))))] trivial (by kernel_rfl) rfl fun _ => ?_
 refine wk_if 4 6 (v := (decide ((k : Int) < ((List.replicate c.blocks.length (default : Hd)).length : Int)))) rfl rfl rfl rfl (fun ch => ?_) (fun ch => ?_)
 ·
  have cY := ch
  try simp only [BS] at cY
  refine wr 1 [] 24 24 [5] [(5, (.int .i64 (k : Int)))] trivial (by kernel_rfl) rfl fun _ => ?_
  refine wf_region rfl ?_
  refine fm (.slice V ih.length Z) rfl rfl rfl ?_
  refine fm (.int .i64 (k : Int)) rfl rfl rfl ?_
  refine fm (.slice Y oh.length aa) rfl rfl rfl ?_
  refine fm (.int .i64 (k : Int)) rfl rfl rfl ?_
  refine wf_pure (v := (.pointer (some ⟨b1, 1, none⟩))) (id := .v) (ap_fa rfl rfl) rfl rfl (did_v rfl) (okD_v _) ?_
  refine wf_pure (v := (.int .i64 c.regs)) (id := .l b1) (ap_ld1 (i := 1) rfl rfl (HS.hc bu.log0 (i := 0) rfl) rfl rfl) rfl rfl (did_l rfl) (⟨.inl rfl, ⟨.inr trivial, ⟨.inr trivial, ⟨.inr trivial, ⟨.inr trivial, trivial⟩⟩⟩⟩⟩) ?_
  refine wf_call (W := []) (ap_call rfl rfl rfl) rfl rfl rfl (mb.empty_c ex c.regs (HS.call bu.log0) (by first | (dsimp only; omega) | omega) hT (by first | (dsimp only; omega) | omega)) (⟨.inl rfl, ⟨.inl rfl, ⟨.inr trivial, ⟨.inr trivial, ⟨.inr trivial, ⟨.inr trivial, trivial⟩⟩⟩⟩⟩⟩) ?_
  rintro _ eW ⟨bR, cb, g4, e4, gw, bd, ak, rfl, b5, rfl⟩
  refine ⟨Wr.did ak.log, fun ew dL => ?_⟩
  replace ak := HS.back bu.log0 rfl ak
  replace ak := HS.lg ak bu dL
  generalize ({ eW with log := ew } : Heap) = fp at ak ⊢
  have ak : HS _ _ _ [_, az, aU, aA, aV, e4] _ := ak
  replace hT := hT.mono bd
  replace ao := SF.mono bd ao
  replace ap := SF.mono bd ap
  refine wf_pure (v := (.pointer (some ⟨b1, 1, none⟩))) (id := .v) (ap_fa rfl rfl) rfl rfl (did_v rfl) (okD_v _) ?_
  refine wf_pure (v := (.int .i64 c.regs)) (id := .l b1) (ap_ld1 (i := 1) rfl rfl (HS.hc ak.log0 (i := 0) rfl) rfl rfl) rfl rfl (did_l rfl) (⟨.inl rfl, ⟨.inr List.not_mem_nil, ⟨.inr trivial, ⟨.inr trivial, ⟨.inr trivial, ⟨.inr trivial, ⟨.inr trivial, ⟨.inr trivial, trivial⟩⟩⟩⟩⟩⟩⟩⟩) ?_
  refine wf_call (W := []) (ap_call rfl rfl rfl) rfl rfl rfl (mb.empty_c ex c.regs (HS.call ak.log0) (by first | (dsimp only; omega) | omega) hT (by first | (dsimp only; omega) | omega)) (⟨.inl rfl, ⟨.inl rfl, ⟨.inl rfl, ⟨.inl rfl, ⟨.inl rfl, ⟨.inr trivial, ⟨.inr trivial, ⟨.inr trivial, ⟨.inr trivial, trivial⟩⟩⟩⟩⟩⟩⟩⟩⟩) ?_
  rintro _ eX ⟨bS, cc, g5, e5, dU, be, au, rfl, dR, rfl⟩
  refine ⟨Wr.did au.log, fun ey dM => ?_⟩
  replace au := HS.back ak.log0 rfl au
  replace au := HS.lg au ak dM
  generalize ({ eX with log := ey } : Heap) = fq at au ⊢
  have au : HS _ _ _ [_, _, _, _, _, _, e5] _ := au
  replace b5 := b5.mono be
  replace aP := (aP.mono bd).mono be
  replace aQ := (aQ.mono bd).mono be
  replace ao := SF.mono be ao
  replace ap := SF.mono be ap
  refine wf_pure (v := (.pointer (some ⟨sB (.slice V ih.length Z), sO (.slice V ih.length Z) + k * Rp.sz Hd, none⟩))) (id := .v) (ap_idxV (α := Hd) (j := (k : Int)) rfl rfl rfl rfl (OS.sv aP au.log0 (i := 1) rfl) (by first | (dsimp only; omega) | omega) (by first | (dsimp only; omega) | omega)) rfl rfl (did_v rfl) (okD_v _) ?_
  obtain ⟨d3, c5, cF, cy, d7⟩ := SF.open ao au (q := 2) (i := k) rfl (by first | (dsimp only; omega) | omega)
  have cF : HS _ _ _ [_, _, d3, _, _, _, _, c5] _ := cF
  have cy : OS dU (.slice (ih.getD k default).a (ih.getD k default).n (ih.getD k default).k) (il.getD k default) c5 := cy
  have gf := OS.nlen cy
  obtain ⟨db, b6, dm⟩ := SF.shutN (⟨bR, (List.replicate (Int.tdiv (c.regs + 63) 64).toNat (⟨0⟩ : U64)).length, cb⟩ : Hd) d7 (Fz.le_refl _) cF (q := 2) (m := 5) (by decide) rfl rfl b5
  have b6 : HS _ _ _ [_, _, db, _, _, [], _, _] _ := b6
  have fG := FAM.len dm
  refine wf_rk (id := .x (az.map Prod.fst)) (rs_st (α := Hd) (j := k) (off := 0) (q := 1) (⟨bR, (List.replicate (Int.tdiv (c.regs + 63) 64).toNat (⟨0⟩ : U64)).length, cb⟩ : Hd) aP b6.log0 rfl rfl rfl rfl rfl rfl rfl rfl (getD_at (x := default) (by first | (dsimp only; omega) | omega)) rfl (by rintro cs rfl; exact ⟨Nat.le_of_ble_eq_true rfl, rfl⟩)) rfl (by rintro _ _ dE ⟨b2, _, hwr⟩; exact did_x rfl rfl (Wr.did hwr)) (⟨.inl rfl, ⟨.inl rfl, ⟨.inl rfl, ⟨.inl rfl, ⟨.inl rfl, ⟨.inl rfl, ⟨.inl rfl, ⟨.inr trivial, ⟨.inr trivial, ⟨.inl rfl, ⟨.inl rfl, trivial⟩⟩⟩⟩⟩⟩⟩⟩⟩⟩⟩) ?_
  rintro _ eY dE ⟨b2, a2, _⟩ ez dN
  replace a2 := HS.lg a2 b6 dN
  generalize ({ eY with log := ez } : Heap) = ft at a2 ⊢
  have a2 : HS _ _ _ [_, dE, _, _, _, _, _, _] _ := a2
  have fi := OS.len' b2
  refine wf_pure (v := (.pointer (some ⟨sB (.slice Y oh.length aa), sO (.slice Y oh.length aa) + k * Rp.sz Hd, none⟩))) (id := .v) (ap_idxV (α := Hd) (j := (k : Int)) rfl rfl rfl rfl (OS.sv aQ a2.log0 (i := 3) rfl) (by first | (dsimp only; omega) | omega) (by first | (dsimp only; omega) | omega)) rfl rfl (did_v rfl) (okD_v _) ?_
  obtain ⟨d4, c6, cG, cz, d8⟩ := SF.open ap a2 (q := 4) (i := k) rfl (by first | (dsimp only; omega) | omega)
  have cG : HS _ _ _ [_, _, _, _, d4, _, _, _, c6] _ := cG
  have cz : OS dU (.slice (oh.getD k default).a (oh.getD k default).n (oh.getD k default).k) (ol.getD k default) c6 := cz
  have gg := OS.nlen cz
  obtain ⟨dd, b7, dn⟩ := SF.shutN (⟨bS, (List.replicate (Int.tdiv (c.regs + 63) 64).toNat (⟨0⟩ : U64)).length, cc⟩ : Hd) d8 (Fz.le_refl _) cG (q := 4) (m := 6) (by decide) rfl rfl dR
  have b7 : HS _ _ _ [_, _, _, _, dd, _, [], _, _] _ := b7
  have fH := FAM.len dn
  refine wf_rk (id := .x (aA.map Prod.fst)) (rs_st (α := Hd) (j := k) (off := 0) (q := 3) (⟨bS, (List.replicate (Int.tdiv (c.regs + 63) 64).toNat (⟨0⟩ : U64)).length, cc⟩ : Hd) aQ b7.log0 rfl rfl rfl rfl rfl rfl rfl rfl (getD_at (x := default) (by first | (dsimp only; omega) | omega)) rfl (by rintro cs rfl; exact ⟨Nat.le_of_ble_eq_true rfl, rfl⟩)) rfl (by rintro _ _ dF ⟨b3, _, hwr⟩; exact did_x rfl rfl (Wr.did hwr)) (⟨.inl rfl, ⟨.inl rfl, ⟨.inl rfl, ⟨.inl rfl, ⟨.inl rfl, ⟨.inl rfl, ⟨.inl rfl, ⟨.inl rfl, ⟨.inl rfl, ⟨.inl rfl, ⟨.inl rfl, ⟨.inl rfl, ⟨.inl rfl, trivial⟩⟩⟩⟩⟩⟩⟩⟩⟩⟩⟩⟩⟩) ?_
  rintro _ eZ dF ⟨b3, bg, _⟩ eA dO
  replace bg := HS.lg bg b7 dO
  generalize ({ eZ with log := eA } : Heap) = fu at bg ⊢
  have bg : HS _ _ _ [_, _, _, dF, _, _, _, _, _] _ := bg
  have fj := OS.len' b3
  refine wf_nil ?_
  refine wk_foc 2 rfl ?_
  refine wr 1 [] 22 22 [37] [(22, (.int .i64 ((k : Int) + 1)))] (vA (vi (n := (k : Int) + 1) (by first | (dsimp only; omega) | omega)) trivial) (by kernel_rfl) rfl fun _ => ?_
  refine ep _ _ _ ?_ ⟨oh.set k (⟨bS, (List.replicate (Int.tdiv (c.regs + 63) 64).toNat (⟨0⟩ : U64)).length, cc⟩ : Hd), ol.set k (List.replicate (Int.tdiv (c.regs + 63) 64).toNat (⟨0⟩ : U64)), ih.set k (⟨bR, (List.replicate (Int.tdiv (c.regs + 63) 64).toNat (⟨0⟩ : U64)).length, cb⟩ : Hd), il.set k (List.replicate (Int.tdiv (c.regs + 63) 64).toNat (⟨0⟩ : U64)), k + 1, V, Z, dE, Y, aa, dF, db, dd, _, (Fz.le_trans (Fz.le_trans (bV) bd) be), (HS.sub bg (List.sublist_append_left _ _)), (OS.norm b2), (OS.norm b3), dm, dn, (agC rfl (agC (show Value.slice V ih.length Z = Value.slice V (ih.set k (⟨bR, (List.replicate (Int.tdiv (c.regs + 63) 64).toNat (⟨0⟩ : U64)).length, cb⟩ : Hd)).length Z by rw [OS.len' b2]) (agC (show Value.slice Y oh.length aa = Value.slice Y (oh.set k (⟨bS, (List.replicate (Int.tdiv (c.regs + 63) 64).toNat (⟨0⟩ : U64)).length, cc⟩ : Hd)).length aa by rw [OS.len' b3]) (agC rfl (agC rfl (agC rfl agN)))))), rfl, (by rw [List.length_set]; exact li), (by rw [List.length_set]; exact lo), (by exact zset zi (by omega)), (by exact zset zo (by omega)), (by first | assumption | omega | (simp at *; omega))⟩
  omega
 ·
  have cY := ch
  try simp only [BS] at cY
  refine wr 2 [] 1 0 [6] [(6, (.bool true))] trivial (by kernel_rfl) rfl fun _ => ?_
  refine wk_loop_inv (fun (mm : Nat) f H' => ∃ (bH : List Hd) (bQ : List (List U64)) (bF : List Hd) (a4 : List (List U64)) (mo : Bool) (av : Option Addr) (ax : Nat) (aS : Fp) (aw : Option Addr) (ay : Nat) (aT : Fp) (bb : Fp) (aW : Fp) (F' : Fz), Fz.le eR F' ∧ HS (Base.of H []) F' H' [[(b1, .cells [(.int .i64 c.params), (.int .i64 c.regs), (.slice al c.blocks.length an)] none false)], aS, bb, aT, aW] R ∧ OS F' (.slice av bF.length ax) bF aS ∧ OS F' (.slice aw bH.length ay) bH aT ∧ SF F' bF a4 bb ∧ SF F' bH bQ aW ∧ agrees f [(1, (.pointer (some ⟨b1, 0, none⟩))), (2, (.slice av bF.length ax)), (3, (.slice aw bH.length ay)), (4, (.int .i64 (c.blocks.length : Int))), (6, (.bool mo))] ∧ mm = mea mo (c.blocks.length * (64 * wds c)) (cntI a4) ∧ (Snd c a4 bQ) ∧ (mo = false → ∀ b, b < c.blocks.length → Cl1 c a4 bQ b)) _ ⟨oh, ol, ih, il, true, V, Z, az, Y, aa, aA, aU, aV, _, (Fz.le_refl _), bu, aP, aQ, ao, ap, (agC rfl (agC rfl (agC rfl (agC rfl (agC rfl agN))))), rfl, (by exact snd_start li lo (fun j hj => zi j (by omega)) (fun j hj => zo j (by omega))), (by intro h; cases h)⟩ ?_
  rintro gr gX gH ⟨bH, bQ, bF, a4, mo, av, ax, aS, aw, ay, aT, bb, aW, eS, bW, dy, a7, a9, a6, aj, dp, rfl, snd, cl⟩ er
  refine wk_canon _ dp (fun _ => ?_)
  clear dp
  replace hT := hT.mono bW
  replace aK := aK.mono bW
  have eL := FAM.len a6
  have eM := FAM.len aj
  have hli := snd.li
  have hlo := snd.lo
  refine wk_foc 2 rfl ?_
  refine wr 1 [] 38 38 [] [(38, (.bool mo))] trivial (by kernel_rfl) rfl fun _ => ?_
  refine wk_if 3 5 (v := mo) rfl rfl rfl rfl (fun ci => ?_) (fun ci => ?_)
  ·
   have cT := ci
   try simp only [BS] at cT
   have hmo := cT
   refine wr 2 [] 1 0 [6] [(6, (.bool false))] trivial (by kernel_rfl) rfl fun _ => ?_
   refine wr 2 [] 39 40 [7] [(7, (.int .i64 ((c.blocks.length : Int) - 1)))] (vA (vi (n := (c.blocks.length : Int) - 1) (by first | (dsimp only; omega) | omega)) trivial) (by kernel_rfl) rfl fun _ => ?_
   refine wk_loop_inv (fun (mm : Nat) f H' => ∃ (bJ : List Hd) (bK : List (List U64)) (A : List Hd) (ai : List (List U64)) (kz : Int) (m2 : Bool) (J : Option Addr) (N : Nat) (ab : Fp) (aM : Option Addr) (aR : Nat) (aB : Fp) (aC : Fp) (aD : Fp) (F' : Fz), Fz.le eS F' ∧ HS (Base.of H []) F' H' [[(b1, .cells [(.int .i64 c.params), (.int .i64 c.regs), (.slice al c.blocks.length an)] none false)], ab, aC, aB, aD] R ∧ OS F' (.slice J A.length N) A ab ∧ OS F' (.slice aM bJ.length aR) bJ aB ∧ SF F' A ai aC ∧ SF F' bJ bK aD ∧ agrees f [(1, (.pointer (some ⟨b1, 0, none⟩))), (2, (.slice J A.length N)), (3, (.slice aM bJ.length aR)), (4, (.int .i64 (c.blocks.length : Int))), (6, (.bool m2)), (7, (.int .i64 kz)), (38, (.bool mo))] ∧ mm = (kz + 1).toNat ∧ (Snd c ai bK) ∧ (-1 ≤ kz ∧ kz < (c.blocks.length : Int)) ∧ (m2 = false → ai = a4) ∧ (m2 = true → cntI a4 < cntI ai) ∧ (m2 = false → ∀ b : Nat, kz < (b : Int) → b < c.blocks.length → Cl1 c ai bK b)) _ ⟨bH, bQ, bF, a4, (c.blocks.length : Int) - 1, false, av, ax, aS, aw, ay, aT, bb, aW, _, (Fz.le_refl _), dy, a7, a9, a6, aj, (agC rfl (agC rfl (agC rfl (agC rfl (agC rfl (agC rfl (agC rfl agN))))))), rfl, (by exact snd), (by first | assumption | omega | (simp at *; omega)), (by exact fun _ => rfl), (by intro h; cases h), (by intro _ b h1 h2; omega)⟩ ?_
   rintro gt gY gI ⟨bJ, bK, A, ai, kz, m2, J, N, ab, aM, aR, aB, aC, aD, gx, bp, bw, I, ba, aN, aO, dq, rfl, bl, hkz, cU, ce, hcl⟩ dC
   refine wk_canon _ dq (fun _ => ?_)
   clear dq
   replace hT := hT.mono bp
   replace aK := aK.mono bp
   have eN := FAM.len aN
   have eO := FAM.len aO
   have f3 := bl.li
   have f4 := bl.lo
   refine wk_foc 2 rfl ?_
   refine wr 1 [] 41 42 [] [(42, (.bool (decide ((0 : Int) ≤ kz))))] trivial (by kernel_rfl) rfl fun _ => ?_
   refine wk_if 4 5 (v := (decide ((0 : Int) ≤ kz))) rfl rfl rfl rfl (fun cj => ?_) (fun cj => ?_)
   ·
    have cZ := cj
    try simp only [BS] at cZ
    have hkn : kz.toNat < c.blocks.length := by omega
    have hbl := hins kz.toNat
    have hfn : ((c.blocks.getD kz.toNat default).fin = 2 ∨ (c.blocks.getD kz.toNat default).fin = 3) → 0 ≤ (c.blocks.getD kz.toNat default).reg ∧ (c.blocks.getD kz.toNat default).reg < c.regs := vF.fin kz.toNat hkn
    have clk : ∀ {Q : Nat → Prop}, (∀ b : Nat, ((kz.toNat : Nat) : Int) - 1 < (b : Int) → Q b) → ∀ b : Nat, kz - 1 < (b : Int) → Q b := fun h b hb => h b (by omega)
    refine wk_region ?_
    obtain ⟨z, dz⟩ := Sv.view (SR.sv aK bw)
    obtain ⟨e8, e9, fb, fc, ar⟩ := BlkT.fx (dz kz.toNat)
    refine wro 5 0 [(1, .o (.slice al c.blocks.length an)), (4, .o (.agg ⟨[(.slice (cA (z kz.toNat) 0) (c.blocks.getD kz.toNat default).ins.length (cK (z kz.toNat) 0)), (.int .i64 (c.blocks.getD kz.toNat default).fin), (.int .i64 (c.blocks.getD kz.toNat default).reg), (.int .i64 (c.blocks.getD kz.toNat default).tgt), (.int .i64 (c.blocks.getD kz.toNat default).els)]⟩))] 45 49 [] [(49, (.agg ⟨[(.slice (cA (z kz.toNat) 0) (c.blocks.getD kz.toNat default).ins.length (cK (z kz.toNat) 0)), (.int .i64 (c.blocks.getD kz.toNat default).fin), (.int .i64 (c.blocks.getD kz.toNat default).reg), (.int .i64 (c.blocks.getD kz.toNat default).tgt), (.int .i64 (c.blocks.getD kz.toNat default).els)]⟩))] (vA (ql 22 2 (HS.hc bw (i := 0) rfl) rfl rfl) (vA (Sv.ix (j := kz) (SR.sv aK bw) (by first | (dsimp only; omega) | omega) (by first | (dsimp only; omega) | omega)) (vA (qn 42 0 5 (BlkT.vw (dz kz.toNat) (by first | (dsimp only; omega) | omega)) rfl rfl rfl rfl) trivial))) (by kernel_rfl) rfl fun _ => ?_
    refine wo_rs (rs_new bw rfl) rfl rfl ?_
    rintro _ gJ _ ⟨bo, rfl, cH, _⟩
    have cH : HS _ _ _ [_, ab, aC, aB, aD, [(bo, .cells [(.slice none 0 0), (.int .i64 0), (.int .i64 0), (.int .i64 0), (.int .i64 0)] none false)]] _ := cH
    refine wo_rk (rs_rec (q := 5) cH rfl rfl rfl rfl rfl rfl rfl rfl rfl) rfl ?_
    rintro _ gK _ ⟨bx, _⟩
    have bx : HS _ _ _ [_, _, _, _, _, [(bo, .cells [(.slice (cA (z kz.toNat) 0) (c.blocks.getD kz.toNat default).ins.length (cK (z kz.toNat) 0)), (.int .i64 (c.blocks.getD kz.toNat default).fin), (.int .i64 (c.blocks.getD kz.toNat default).reg), (.int .i64 (c.blocks.getD kz.toNat default).tgt), (.int .i64 (c.blocks.getD kz.toNat default).els)] none false)]] _ := bx
    refine wo_end 3 rfl ?_
    refine wk_region ?_
    refine wro 1 0 [(0, .o (.agg ⟨[(.slice (cA (z kz.toNat) 0) (c.blocks.getD kz.toNat default).ins.length (cK (z kz.toNat) 0)), (.int .i64 (c.blocks.getD kz.toNat default).fin), (.int .i64 (c.blocks.getD kz.toNat default).reg), (.int .i64 (c.blocks.getD kz.toNat default).tgt), (.int .i64 (c.blocks.getD kz.toNat default).els)]⟩))] 50 50 [] [(50, (.agg ⟨[(.slice (cA (z kz.toNat) 0) (c.blocks.getD kz.toNat default).ins.length (cK (z kz.toNat) 0)), (.int .i64 (c.blocks.getD kz.toNat default).fin), (.int .i64 (c.blocks.getD kz.toNat default).reg), (.int .i64 (c.blocks.getD kz.toNat default).tgt), (.int .i64 (c.blocks.getD kz.toNat default).els)]⟩))] (vA (qn 42 0 5 (HS.hc bx (i := 5) rfl) rfl rfl rfl rfl) trivial) (by kernel_rfl) rfl fun _ => ?_
    refine wo_call (ap_call rfl rfl rfl) rfl rfl (ma.vsucc_c ex (c.blocks.getD kz.toNat default) (HS.call bx) ar (by first | (dsimp only; omega) | omega) (by first | (dsimp only; omega) | omega) (by first | (dsimp only; omega) | omega) (by first | (dsimp only; omega) | omega) hT) ?_
    rintro _ gL ⟨cX, dD, g6, cW, eT, aJ, bz, rfl, bm, rfl⟩
    replace bz := HS.back bx rfl bz
    have bz : HS _ _ _ [_, _, _, _, _, _, cW] _ := bz
    replace ba := ba.mono aJ
    replace aN := SF.mono aJ aN
    replace aO := SF.mono aJ aO
    refine wro 2 2 [] 52 53 [] [(52, (.int .i64 ((succV (c.blocks.getD kz.toNat default)).length : Int))), (53, (.int .i64 0))] trivial (by kernel_rfl) rfl fun _ => ?_
    refine wo_end 2 rfl ?_
    refine wk_loop_inv (fun (mm : Nat) f H' => ∃ (E : List Hd) (ah : List (List U64)) (q : Nat) (O : Option Addr) (U : Nat) (ad : Fp) (bc : Fp) (aE : Fp) (F' : Fz), Fz.le eT F' ∧ HS (Base.of H []) F' H' [[(b1, .cells [(.int .i64 c.params), (.int .i64 c.regs), (.slice al c.blocks.length an)] none false)], ab, aE, ad, bc, [(bo, .cells [(.slice (cA (z kz.toNat) 0) (c.blocks.getD kz.toNat default).ins.length (cK (z kz.toNat) 0)), (.int .i64 (c.blocks.getD kz.toNat default).fin), (.int .i64 (c.blocks.getD kz.toNat default).reg), (.int .i64 (c.blocks.getD kz.toNat default).tgt), (.int .i64 (c.blocks.getD kz.toNat default).els)] none false)], cW] R ∧ OS F' (.slice O E.length U) E ad ∧ SF F' E ah bc ∧ SF F' A ai aE ∧ agrees f [(1, (.pointer (some ⟨b1, 0, none⟩))), (2, (.slice J A.length N)), (3, (.slice O E.length U)), (4, (.int .i64 (c.blocks.length : Int))), (6, (.bool m2)), (7, (.int .i64 kz)), (8, (.pointer (some ⟨bo, 0, none⟩))), (38, (.bool mo)), (42, (.bool (decide ((0 : Int) ≤ kz)))), (49, (.agg ⟨[(.slice (cA (z kz.toNat) 0) (c.blocks.getD kz.toNat default).ins.length (cK (z kz.toNat) 0)), (.int .i64 (c.blocks.getD kz.toNat default).fin), (.int .i64 (c.blocks.getD kz.toNat default).reg), (.int .i64 (c.blocks.getD kz.toNat default).tgt), (.int .i64 (c.blocks.getD kz.toNat default).els)]⟩)), (50, (.agg ⟨[(.slice (cA (z kz.toNat) 0) (c.blocks.getD kz.toNat default).ins.length (cK (z kz.toNat) 0)), (.int .i64 (c.blocks.getD kz.toNat default).fin), (.int .i64 (c.blocks.getD kz.toNat default).reg), (.int .i64 (c.blocks.getD kz.toNat default).tgt), (.int .i64 (c.blocks.getD kz.toNat default).els)]⟩)), (51, (.slice cX (succV (c.blocks.getD kz.toNat default)).length dD)), (52, (.int .i64 ((succV (c.blocks.getD kz.toNat default)).length : Int))), (53, (.int .i64 (q : Int)))] ∧ mm = (succV (c.blocks.getD kz.toNat default)).length - q ∧ (Snd c ai ah) ∧ (q ≤ (succV (c.blocks.getD kz.toNat default)).length) ∧ (∀ j, j ≠ kz.toNat → ah.getD j default = bK.getD j default) ∧ (∀ t ∈ (succV (c.blocks.getD kz.toNat default)).take q, ∀ r, bI ai t.toNat r → bI ah kz.toNat r)) _ ⟨bJ, bK, 0, aM, aR, aB, aD, aC, _, (Fz.le_refl _), bz, ba, aO, aN, (agC rfl (agC rfl (agC rfl (agC rfl (agC rfl (agC rfl (agC rfl (agC rfl (agC rfl (agC rfl (agC rfl (agC rfl (agC rfl (agC rfl agN)))))))))))))), rfl, (by exact bl), (by first | assumption | omega | (simp at *; omega)), (by exact fun _ _ => rfl), (by intro t ht; cases ht)⟩ ?_
    rintro gu gZ gM ⟨E, ah, q, O, U, ad, bc, aE, cd, aZ, bh, T, bG, aq, dr, rfl, a3, hq, dx, dY⟩ es
    refine wk_canon _ dr (fun _ => ?_)
    clear dr
    replace hT := (hT.mono aJ).mono aZ
    replace bm := bm.mono aZ
    replace I := (I.mono aJ).mono aZ
    replace ar := (ar.mono aJ).mono aZ
    have eQ := FAM.len bG
    have eP := FAM.len aq
    have f9 := succ_len (b := (c.blocks.getD kz.toNat default))
    have f5 := a3.lo
    have ge := a3.wo kz.toNat hkn
    refine wk_foc 1 rfl ?_
    refine wr 2 [] 54 54 [] [(54, (.bool (decide ((q : Int) < ((succV (c.blocks.getD kz.toNat default)).length : Int)))))] trivial (by kernel_rfl) rfl fun _ => ?_
    refine wk_if 4 5 (v := (decide ((q : Int) < ((succV (c.blocks.getD kz.toNat default)).length : Int)))) rfl rfl rfl rfl (fun cm => ?_) (fun cm => ?_)
    ·
     have c0 := cm
     try simp only [BS] at c0
     have hmem := mem_at (l := succV (c.blocks.getD kz.toNat default)) (q := q) (by omega)
     have hst := vF.succ kz.toNat hkn _ hmem
     have gb := a3.wi ((succV (c.blocks.getD kz.toNat default)).getD q 0).toNat (by omega)
     obtain ⟨fA, dA⟩ := Sv.view (OS.sv bm bh (i := 6) rfl)
     have g2 := fI (dA q)
     refine wr 1 [(1, .o (.int .i64 ((succV (c.blocks.getD kz.toNat default)).getD q 0)))] 55 56 [10] [(10, (.int .i64 ((succV (c.blocks.getD kz.toNat default)).getD q 0)))] (vA (Sv.ix (j := (q : Int)) (OS.sv bm bh (i := 6) rfl) (by first | (dsimp only; omega) | omega) (by first | (dsimp only; omega) | omega)) (vA (ql 3 0 (vI (dA q) (by first | (dsimp only; omega) | omega)) rfl rfl) trivial)) (by kernel_rfl) rfl fun _ => ?_
     refine wf_region rfl ?_
     refine fm (.slice O E.length U) rfl rfl rfl ?_
     refine fm (.int .i64 kz) rfl rfl rfl ?_
     refine wf_pure (v := (.pointer (some ⟨sB (.slice O E.length U), sO (.slice O E.length U) + kz.toNat * Rp.sz Hd, none⟩))) (id := .v) (ap_idxV (α := Hd) (j := kz) rfl rfl rfl rfl (OS.sv T bh.log0 (i := 3) rfl) (by first | (dsimp only; omega) | omega) (by first | (dsimp only; omega) | omega)) rfl rfl (did_v rfl) (okD_v _) ?_
     obtain ⟨fB, el⟩ := Sv.view (OS.sv T bh.log0 (i := 3) rfl)
     obtain ⟨c9, cp, bA, b4, d9⟩ := SF.open bG bh (q := 4) (i := kz.toNat) rfl (by first | (dsimp only; omega) | omega)
     have bA : HS _ _ _ [_, _, aE, ad, c9, _, _, cp] _ := bA
     have b4 : OS cd (.slice (E.getD kz.toNat default).a (E.getD kz.toNat default).n (E.getD kz.toNat default).k) (ah.getD kz.toNat default) cp := b4
     have gh := OS.nlen b4
     refine wf_pure (v := (.slice (E.getD kz.toNat default).a (E.getD kz.toNat default).n (E.getD kz.toNat default).k)) (id := .l (sB (.slice O E.length U))) (ap_ld1 (i := 0) rfl rfl (vH (el kz.toNat) (by first | (dsimp only; omega) | omega)) rfl rfl) rfl rfl (did_l rfl) (⟨.inl rfl, ⟨.inl rfl, ⟨.inl rfl, trivial⟩⟩⟩) ?_
     refine fm (.slice J A.length N) rfl rfl rfl ?_
     refine fm (.int .i64 ((succV (c.blocks.getD kz.toNat default)).getD q 0)) rfl rfl rfl ?_
     refine wf_pure (v := (.pointer (some ⟨sB (.slice J A.length N), sO (.slice J A.length N) + ((succV (c.blocks.getD kz.toNat default)).getD q 0).toNat * Rp.sz Hd, none⟩))) (id := .v) (ap_idxV (α := Hd) (j := ((succV (c.blocks.getD kz.toNat default)).getD q 0)) rfl rfl rfl rfl (OS.sv I bA.log0 (i := 1) rfl) (by first | (dsimp only; omega) | omega) (by first | (dsimp only; omega) | omega)) rfl rfl (did_v rfl) (okD_v _) ?_
     obtain ⟨fC, em⟩ := Sv.view (OS.sv I bA.log0 (i := 1) rfl)
     obtain ⟨da, cr, bB, br, ea⟩ := SF.open aq bA (q := 2) (i := ((succV (c.blocks.getD kz.toNat default)).getD q 0).toNat) rfl (by first | (dsimp only; omega) | omega)
     have bB : HS _ _ _ [_, _, da, _, _, _, _, _, cr] _ := bB
     have br : OS cd (.slice (A.getD ((succV (c.blocks.getD kz.toNat default)).getD q 0).toNat default).a (A.getD ((succV (c.blocks.getD kz.toNat default)).getD q 0).toNat default).n (A.getD ((succV (c.blocks.getD kz.toNat default)).getD q 0).toNat default).k) (ai.getD ((succV (c.blocks.getD kz.toNat default)).getD q 0).toNat default) cr := br
     have gi := OS.nlen br
     refine wf_pure (v := (.slice (A.getD ((succV (c.blocks.getD kz.toNat default)).getD q 0).toNat default).a (A.getD ((succV (c.blocks.getD kz.toNat default)).getD q 0).toNat default).n (A.getD ((succV (c.blocks.getD kz.toNat default)).getD q 0).toNat default).k)) (id := .l (sB (.slice J A.length N))) (ap_ld1 (i := 0) rfl rfl (vH (em ((succV (c.blocks.getD kz.toNat default)).getD q 0).toNat) (by first | (dsimp only; omega) | omega)) rfl rfl) rfl rfl (did_l rfl) (⟨.inl rfl, ⟨.inl rfl, ⟨.inl rfl, ⟨.inr trivial, ⟨.inr trivial, ⟨.inr trivial, ⟨.inr trivial, trivial⟩⟩⟩⟩⟩⟩⟩) ?_
     obtain ⟨fo, bZ, bn, dS, dQ⟩ := OS.frz br bB (i := 8) rfl
     have bn : HS _ _ _ [_, _, _, _, _, _, _, _, []] _ := bn
     refine wf_call (W := (cp.map Prod.fst)) (ap_call rfl rfl rfl) rfl rfl rfl (mb.union_c ex (ah.getD kz.toNat default) (ai.getD ((succV (c.blocks.getD kz.toNat default)).getD q 0).toNat default) (HS.callOwn bn.log0 (i := 7) rfl) (OS.mono bZ b4) dS (hT.mono bZ) (by first | (dsimp only; omega) | omega) (by first | (dsimp only; omega) | omega)) (⟨.inl rfl, ⟨.inl rfl, ⟨.inl rfl, ⟨.inl rfl, ⟨.inl rfl, ⟨.inl rfl, ⟨.inl rfl, ⟨.inl rfl, trivial⟩⟩⟩⟩⟩⟩⟩⟩) ?_
     rintro _ e0 ⟨g7, eI, eG, gy, dj, am, rfl, b0, fO, fS, fX, fZ⟩
     refine ⟨HS.didW am, fun eB dP => ?_⟩
     replace am := HS.backOwn bn.log0 (i := 7) rfl rfl (fun _ hb => hb) am
     replace am := HS.lg am bB dP
     generalize ({ e0 with log := eB } : Heap) = fv at am ⊢
     replace am := HS.thawL bB (i := 8) rfl (Fz.le_trans bZ dj) (fun b o hb => dj _ _ (dQ b o hb)) (i' := 8) rfl am
     replace b0 := OS.ind (F' := cd) b0
     have am : HS _ _ _ [[(b1, .cells [(.int .i64 c.params), (.int .i64 c.regs), (.slice al c.blocks.length an)] none false)], ab, da, ad, c9, [(bo, .cells [(.slice (cA (z kz.toNat) 0) (c.blocks.getD kz.toNat default).ins.length (cK (z kz.toNat) 0)), (.int .i64 (c.blocks.getD kz.toNat default).fin), (.int .i64 (c.blocks.getD kz.toNat default).reg), (.int .i64 (c.blocks.getD kz.toNat default).tgt), (.int .i64 (c.blocks.getD kz.toNat default).els)] none false)], cW, eG, cr] _ := am
     have gj := OS.len' b0
     refine wf_nil ?_
     refine wk_foc 2 rfl ?_
     refine wr 1 [] 53 53 [66] [(53, (.int .i64 ((q : Int) + 1)))] (vA (vi (n := (q : Int) + 1) (by first | (dsimp only; omega) | omega)) trivial) (by kernel_rfl) rfl fun _ => ?_
     obtain ⟨de, cI, ds⟩ := SF.shut0 ea (Fz.le_refl _) am (q := 2) (m := 8) (by decide) rfl rfl br
     have cI : HS _ _ _ [_, _, de, _, _, _, _, _, []] _ := cI
     have fJ := FAM.len ds
     obtain ⟨df, cJ, dt⟩ := SF.shut d9 (Fz.le_refl _) cI (q := 4) (m := 7) (by decide) rfl rfl b0
     have cJ : HS _ _ _ [_, _, _, _, df, _, _, [], _] _ := cJ
     have fK := FAM.len dt
     refine es _ _ _ ?_ ⟨E, ah.set kz.toNat eI, q + 1, O, U, ad, df, de, _, (aZ), (HS.sub cJ (List.sublist_append_left _ _)), T, dt, ds, (agC rfl (agC rfl (agC rfl (agC rfl (agC rfl (agC rfl (agC rfl (agC rfl (agC rfl (agC rfl (agC rfl (agC rfl (agC rfl (agC rfl agN)))))))))))))), rfl, (by exact snd_out a3 hkn hmem (by assumption) (by assumption)), (by first | assumption | omega | (simp at *; omega)), (by exact fun j hj => by rw [at_set, if_neg (fun e => hj e.1.symm)]; exact dx j hj), (by exact succ_step (by omega) (by omega) dY (by assumption))⟩
     omega
    ·
     have c0 := cm
     try simp only [BS] at c0
     have hsall : ∀ t ∈ succV (c.blocks.getD kz.toNat default), ∀ r, bI ai t.toNat r → bI ah kz.toNat r := fun t ht => dY t (by rw [List.take_of_length_le (by omega)]; exact ht)
     have gc := a3.wi kz.toNat hkn
     refine wk_region ?_
     refine wo_rs (rs_lit (α := U64) (ps := []) (cells := []) ([] : List U64) bh rfl rfl rfl (by kernel_rfl) rfl rfl) rfl rfl ?_
     rintro _ gN e6 ⟨gV, g3, rfl, eh, bC, _⟩
     have bC : HS _ _ _ [_, _, aE, ad, bc, _, _, e6] _ := bC
     obtain ⟨fD, en⟩ := Sv.view (OS.sv T bC (i := 3) rfl)
     obtain ⟨d5, c7, b8, a1, eb⟩ := SF.open bG bC (q := 4) (i := kz.toNat) rfl (by first | (dsimp only; omega) | omega)
     have b8 : HS _ _ _ [_, _, _, _, d5, _, _, _, c7] _ := b8
     have a1 : OS cd (.slice (E.getD kz.toNat default).a (E.getD kz.toNat default).n (E.getD kz.toNat default).k) (ah.getD kz.toNat default) c7 := a1
     have gk := OS.nlen a1
     refine wro 4 1 [(4, .o (.slice (E.getD kz.toNat default).a (E.getD kz.toNat default).n (E.getD kz.toNat default).k))] 68 71 [] [(71, (.slice (E.getD kz.toNat default).a (E.getD kz.toNat default).n (E.getD kz.toNat default).k))] (vA (Sv.ix (j := kz) (OS.sv T bC (i := 3) rfl) (by first | (dsimp only; omega) | omega) (by first | (dsimp only; omega) | omega)) (vA (ql 83 0 (vH (en kz.toNat) (by first | (dsimp only; omega) | omega)) rfl rfl) trivial)) (by kernel_rfl) rfl fun _ => ?_
     refine wo_rs (rs_app (α := U64) (q := 7) eh b8 rfl rfl rfl (OS.sv a1 b8 (i := 8) rfl) rfl rfl rfl rfl rfl rfl rfl (by first | omega | (simp only [List.length_append, List.length_cons, List.length_nil]; omega))) rfl rfl ?_
     rintro _ gP dZ ⟨bL, bO, rfl, cB, bD, _⟩
     have bD : HS _ _ _ [_, _, _, _, _, _, _, dZ, _] _ := bD
     have cB : OS cd (.slice bL (ah.getD kz.toNat default).length bO) (ah.getD kz.toNat default) dZ := cB
     refine wa (.slice bL (ah.getD kz.toNat default).length bO) rfl rfl rfl ?_
     refine wo_end 2 rfl ?_
     refine wk_region ?_
     refine wro 2 0 [(1, .o (.agg ⟨[(.slice (cA (z kz.toNat) 0) (c.blocks.getD kz.toNat default).ins.length (cK (z kz.toNat) 0)), (.int .i64 (c.blocks.getD kz.toNat default).fin), (.int .i64 (c.blocks.getD kz.toNat default).reg), (.int .i64 (c.blocks.getD kz.toNat default).tgt), (.int .i64 (c.blocks.getD kz.toNat default).els)]⟩))] 73 74 [] [(73, (.slice bL (ah.getD kz.toNat default).length bO)), (74, (.agg ⟨[(.slice (cA (z kz.toNat) 0) (c.blocks.getD kz.toNat default).ins.length (cK (z kz.toNat) 0)), (.int .i64 (c.blocks.getD kz.toNat default).fin), (.int .i64 (c.blocks.getD kz.toNat default).reg), (.int .i64 (c.blocks.getD kz.toNat default).tgt), (.int .i64 (c.blocks.getD kz.toNat default).els)]⟩))] (vA (qn 42 0 5 (HS.hc bD (i := 5) rfl) rfl rfl rfl rfl) trivial) (by kernel_rfl) rfl fun _ => ?_
     refine wo_call (ap_call rfl rfl rfl) rfl rfl (mb.addT_c ex (ah.getD kz.toNat default) (c.blocks.getD kz.toNat default) (HS.callOwn bD (i := 7) rfl) cB ar (by first | (dsimp only; omega) | omega) (by first | (dsimp only; omega) | omega) (by first | (dsimp only; omega) | omega) (by first | (dsimp only; omega) | omega) hT (by first | omega | exact fun hf => by have := hfn hf; omega) (by first | omega | exact fun hf => by have := hfn hf; omega)) ?_
     rintro _ gQ ⟨dI, dG, eU, aF, bj, rfl, cv, fP, fT⟩
     replace bj := HS.backOwn bD (i := 7) rfl rfl (fun _ hb => hb) bj
     have bj : HS _ _ _ [_, _, _, _, _, _, _, dG, _] _ := bj
     replace a1 := a1.mono aF
     replace aq := SF.mono aF aq
     have gm := OS.len' cv
     refine wo_end 3 rfl ?_
     refine wr 2 [(1, .o (.slice (cA (z kz.toNat) 0) (c.blocks.getD kz.toNat default).ins.length (cK (z kz.toNat) 0)))] 76 79 [12] [(12, (.int .i64 (((c.blocks.getD kz.toNat default).ins.length : Int) - 1)))] (vA (ql 40 0 (HS.hc bj (i := 5) rfl) rfl rfl) (vA (vi (n := ((c.blocks.getD kz.toNat default).ins.length : Int) - 1) (by first | (dsimp only; omega) | omega)) trivial)) (by kernel_rfl) rfl fun _ => ?_
     obtain ⟨bU, cL, aI⟩ := SF.shut0 eb (aF) bj (q := 4) (m := 8) (by decide) rfl rfl a1
     have cL : HS _ _ _ [_, _, _, _, bU, _, _, _, []] _ := cL
     have fL := FAM.len aI
     refine wk_loop_inv (fun (mm : Nat) f H' => ∃ (sw : List U64) (iz : Int) (ae : Option Addr) (ag : Nat) (aX : Fp) (F' : Fz), Fz.le eU F' ∧ HS (Base.of H []) F' H' [[(b1, .cells [(.int .i64 c.params), (.int .i64 c.regs), (.slice al c.blocks.length an)] none false)], ab, aE, ad, bU, [(bo, .cells [(.slice (cA (z kz.toNat) 0) (c.blocks.getD kz.toNat default).ins.length (cK (z kz.toNat) 0)), (.int .i64 (c.blocks.getD kz.toNat default).fin), (.int .i64 (c.blocks.getD kz.toNat default).reg), (.int .i64 (c.blocks.getD kz.toNat default).tgt), (.int .i64 (c.blocks.getD kz.toNat default).els)] none false)], cW, aX, []] R ∧ OS F' (.slice ae sw.length ag) sw aX ∧ agrees f [(1, (.pointer (some ⟨b1, 0, none⟩))), (2, (.slice J A.length N)), (3, (.slice O E.length U)), (4, (.int .i64 (c.blocks.length : Int))), (6, (.bool m2)), (7, (.int .i64 kz)), (8, (.pointer (some ⟨bo, 0, none⟩))), (11, (.slice ae sw.length ag)), (12, (.int .i64 iz)), (38, (.bool mo)), (42, (.bool (decide ((0 : Int) ≤ kz)))), (49, (.agg ⟨[(.slice (cA (z kz.toNat) 0) (c.blocks.getD kz.toNat default).ins.length (cK (z kz.toNat) 0)), (.int .i64 (c.blocks.getD kz.toNat default).fin), (.int .i64 (c.blocks.getD kz.toNat default).reg), (.int .i64 (c.blocks.getD kz.toNat default).tgt), (.int .i64 (c.blocks.getD kz.toNat default).els)]⟩)), (50, (.agg ⟨[(.slice (cA (z kz.toNat) 0) (c.blocks.getD kz.toNat default).ins.length (cK (z kz.toNat) 0)), (.int .i64 (c.blocks.getD kz.toNat default).fin), (.int .i64 (c.blocks.getD kz.toNat default).reg), (.int .i64 (c.blocks.getD kz.toNat default).tgt), (.int .i64 (c.blocks.getD kz.toNat default).els)]⟩)), (51, (.slice cX (succV (c.blocks.getD kz.toNat default)).length dD)), (52, (.int .i64 ((succV (c.blocks.getD kz.toNat default)).length : Int))), (53, (.int .i64 (q : Int))), (54, (.bool (decide ((q : Int) < ((succV (c.blocks.getD kz.toNat default)).length : Int))))), (74, (.agg ⟨[(.slice (cA (z kz.toNat) 0) (c.blocks.getD kz.toNat default).ins.length (cK (z kz.toNat) 0)), (.int .i64 (c.blocks.getD kz.toNat default).fin), (.int .i64 (c.blocks.getD kz.toNat default).reg), (.int .i64 (c.blocks.getD kz.toNat default).tgt), (.int .i64 (c.blocks.getD kz.toNat default).els)]⟩))] ∧ mm = (iz + 1).toNat ∧ (sw.length = wds c) ∧ (∀ r, bitOf sw r = true ↔ tr ((c.blocks.getD kz.toNat default).ins.drop (iz + 1).toNat) (endS (c.blocks.getD kz.toNat default) (bI ah kz.toNat)) r) ∧ (-1 ≤ iz ∧ iz < ((c.blocks.getD kz.toNat default).ins.length : Int))) _ ⟨dI, ((c.blocks.getD kz.toNat default).ins.length : Int) - 1, bL, bO, dG, _, (Fz.le_refl _), cL, (OS.norm cv), (agC rfl (agC rfl (agC rfl (agC rfl (agC rfl (agC rfl (agC rfl (agC (show Value.slice bL (ah.getD kz.toNat default).length bO = Value.slice bL dI.length bO by rw [OS.len' cv]) (agC rfl (agC rfl (agC rfl (agC rfl (agC rfl (agC rfl (agC rfl (agC rfl (agC rfl (agC rfl agN)))))))))))))))))), rfl, (by omega), (by exact tr_start (by omega) (fun r => Iff.rfl) (by assumption)), (by first | assumption | omega | (simp at *; omega))⟩ ?_
     rintro gv g0 gR ⟨sw, iz, ae, ag, aX, eV, aG, aL, bP, du, rfl, hsw, htr, hiz⟩ et
     refine wk_canon _ du (fun _ => ?_)
     clear du
     replace hT := (hT.mono aF).mono aG
     replace I := (I.mono aF).mono aG
     replace T := (T.mono aF).mono aG
     replace ar := (ar.mono aF).mono aG
     replace aq := SF.mono aG aq
     replace aI := SF.mono aG aI
     refine wk_foc 2 rfl ?_
     refine wr 1 [] 80 81 [] [(81, (.bool (decide ((0 : Int) ≤ iz))))] trivial (by kernel_rfl) rfl fun _ => ?_
     refine wk_if 3 5 (v := (decide ((0 : Int) ≤ iz))) rfl rfl rfl rfl (fun cn => ?_) (fun cn => ?_)
     ·
      have c3 := cn
      try simp only [BS] at c3
      have hvl : (∀ x ∈ readsV ((c.blocks.getD kz.toNat default).ins.getD iz.toNat default), 0 ≤ x ∧ x < c.regs) ∧ (∀ x ∈ writesV ((c.blocks.getD kz.toNat default).ins.getD iz.toNat default), 0 ≤ x ∧ x < c.regs) ∧ ((c.blocks.getD kz.toNat default).ins.getD iz.toNat default).args.length ≤ 6 := reads_lim (vF.ins kz.toNat hkn iz.toNat (show iz.toNat < (c.blocks.getD kz.toNat default).ins.length by omega))
      have ga := hvl.2.2
      refine wk_region ?_
      obtain ⟨bT, dB⟩ := Sv.view (SR.sv ar aL)
      obtain ⟨fd, fe, ff, fg, fh, dT⟩ := VInT.fx (dB iz.toNat)
      refine wro 6 0 [(2, .o (.slice (cA (z kz.toNat) 0) (c.blocks.getD kz.toNat default).ins.length (cK (z kz.toNat) 0))), (5, .o (.agg ⟨[(.int .i64 ((c.blocks.getD kz.toNat default).ins.getD iz.toNat default).i.op), (.int .i64 ((c.blocks.getD kz.toNat default).ins.getD iz.toNat default).i.a), (.int .i64 ((c.blocks.getD kz.toNat default).ins.getD iz.toNat default).i.b), (.int .i64 ((c.blocks.getD kz.toNat default).ins.getD iz.toNat default).i.c), (.int .i64 ((c.blocks.getD kz.toNat default).ins.getD iz.toNat default).i.n), (.slice (cA (bT iz.toNat) 5) ((c.blocks.getD kz.toNat default).ins.getD iz.toNat default).args.length (cK (bT iz.toNat) 5))]⟩))] 84 89 [] [(84, (.slice ae sw.length ag)), (89, (.agg ⟨[(.int .i64 ((c.blocks.getD kz.toNat default).ins.getD iz.toNat default).i.op), (.int .i64 ((c.blocks.getD kz.toNat default).ins.getD iz.toNat default).i.a), (.int .i64 ((c.blocks.getD kz.toNat default).ins.getD iz.toNat default).i.b), (.int .i64 ((c.blocks.getD kz.toNat default).ins.getD iz.toNat default).i.c), (.int .i64 ((c.blocks.getD kz.toNat default).ins.getD iz.toNat default).i.n), (.slice (cA (bT iz.toNat) 5) ((c.blocks.getD kz.toNat default).ins.getD iz.toNat default).args.length (cK (bT iz.toNat) 5))]⟩))] (vA (ql 40 0 (HS.hc aL (i := 5) rfl) rfl rfl) (vA (Sv.ix (j := iz) (SR.sv ar aL) (by first | (dsimp only; omega) | omega) (by first | (dsimp only; omega) | omega)) (vA (qn 47 0 6 (VInT.vw (dB iz.toNat) (by first | (dsimp only; omega) | omega)) rfl rfl rfl rfl) trivial))) (by kernel_rfl) rfl fun _ => ?_
      refine wo_call (ap_call rfl rfl rfl) rfl rfl (mb.transfer_c ex sw ((c.blocks.getD kz.toNat default).ins.getD iz.toNat default) (HS.callOwn aL (i := 7) rfl) bP (by first | (dsimp only; omega) | omega) (by first | (dsimp only; omega) | omega) (by first | (dsimp only; omega) | omega) (by first | (dsimp only; omega) | omega) (by first | (dsimp only; omega) | omega) dT hT (by first | omega | exact fun x hx => by have := hvl.1 x hx; omega | exact fun x hx => by have := hvl.2.1 x hx; omega) (by first | omega | exact fun x hx => by have := hvl.1 x hx; omega | exact fun x hx => by have := hvl.2.1 x hx; omega) (by first | omega | exact fun x hx => by have := hvl.1 x hx; omega | exact fun x hx => by have := hvl.2.1 x hx; omega) (by first | omega | exact fun x hx => by have := hvl.1 x hx; omega | exact fun x hx => by have := hvl.2.1 x hx; omega)) ?_
      rintro _ gS ⟨dJ, dH, gz, ec, bE, rfl, cw, fQ, fV⟩
      replace bE := HS.backOwn aL (i := 7) rfl rfl (fun _ hb => hb) bE
      have bE : HS _ _ _ [_, _, _, _, _, _, _, dH, _] _ := bE
      have gn := OS.len' cw
      refine wo_end 2 rfl ?_
      refine wr 1 [] 82 83 [12] [(12, (.int .i64 (iz - 1)))] (vA (vi (n := iz - 1) (by first | (dsimp only; omega) | omega)) trivial) (by kernel_rfl) rfl fun _ => ?_
      refine et _ _ _ ?_ ⟨dJ, iz - 1, ae, ag, dH, _, (Fz.le_trans (aG) ec), bE, (OS.norm cw), (agC rfl (agC rfl (agC rfl (agC rfl (agC rfl (agC rfl (agC rfl (agC (show Value.slice ae sw.length ag = Value.slice ae dJ.length ag by rw [OS.len' cw]) (agC rfl (agC rfl (agC rfl (agC rfl (agC rfl (agC rfl (agC rfl (agC rfl (agC rfl (agC rfl agN)))))))))))))))))), rfl, (by omega), (by rw [show (iz - 1 + 1).toNat = iz.toNat by omega]; exact tr_next (by omega) (by rw [show iz.toNat + 1 = (iz + 1).toNat by omega]; exact htr) (by assumption)), (by first | assumption | omega | (simp at *; omega))⟩
      omega
     ·
      have c3 := cn
      try simp only [BS] at c3
      have ca : ∀ r, bitOf sw r = true ↔ inS (c.blocks.getD kz.toNat default) (bI ah kz.toNat) r := fun r => by have := htr r; rwa [show (iz + 1).toNat = 0 by omega, List.drop_zero] at this
      refine wk_region ?_
      obtain ⟨fE, eo⟩ := Sv.view (OS.sv I aL (i := 1) rfl)
      obtain ⟨d6, c8, cM, bf, di⟩ := SF.open aq aL (q := 2) (i := kz.toNat) rfl (by first | (dsimp only; omega) | omega)
      have cM : HS _ _ _ [_, _, d6, _, _, _, _, aX, _, c8] _ := cM
      have bf : OS eV (.slice (A.getD kz.toNat default).a (A.getD kz.toNat default).n (A.getD kz.toNat default).k) (ai.getD kz.toNat default) c8 := bf
      have go := OS.nlen bf
      refine wro 5 0 [(3, .o (.slice (A.getD kz.toNat default).a (A.getD kz.toNat default).n (A.getD kz.toNat default).k))] 91 95 [] [(94, (.slice (A.getD kz.toNat default).a (A.getD kz.toNat default).n (A.getD kz.toNat default).k)), (95, (.slice ae sw.length ag))] (vA (Sv.ix (j := kz) (OS.sv I aL (i := 1) rfl) (by first | (dsimp only; omega) | omega) (by first | (dsimp only; omega) | omega)) (vA (ql 83 0 (vH (eo kz.toNat) (by first | (dsimp only; omega) | omega)) rfl rfl) trivial)) (by kernel_rfl) rfl fun _ => ?_
      obtain ⟨gB, aH, b9, ei, f6⟩ := OS.frz bP cM (i := 7) rfl
      have b9 : HS _ _ _ [_, _, _, _, _, _, _, [], _, _] _ := b9
      replace hT := hT.mono aH
      replace bf := bf.mono aH
      replace aI := SF.mono aH aI
      refine wo_call (ap_call rfl rfl rfl) rfl rfl (mb.union_c ex (ai.getD kz.toNat default) sw (HS.callOwn b9 (i := 9) rfl) bf ei hT (by first | (dsimp only; omega) | omega) (by first | (dsimp only; omega) | omega)) ?_
      rintro _ gT ⟨e7, dK, eH, gA, a0, bk, rfl, cx, fR, fW, fY, f0⟩
      replace bk := HS.backOwn b9 (i := 9) rfl rfl (fun _ hb => hb) bk
      have bk : HS _ _ _ [_, _, _, _, _, _, _, _, _, eH] _ := bk
      replace I := (I.mono aH).mono a0
      replace T := (T.mono aH).mono a0
      replace aI := SF.mono a0 aI
      have gp := OS.len' cx
      refine wo_end 1 rfl ?_
      refine wk_if 0 2 (v := e7) rfl rfl rfl rfl (fun co => ?_) (fun co => ?_)
      ·
       have c4 := co
       try simp only [BS] at c4
       refine wr 2 [] 1 0 [6] [(6, (.bool true))] trivial (by kernel_rfl) rfl fun _ => ?_
       refine wr 1 [] 43 44 [7] [(7, (.int .i64 (kz - 1)))] (vA (vi (n := kz - 1) (by first | (dsimp only; omega) | omega)) trivial) (by kernel_rfl) rfl fun _ => ?_
       obtain ⟨dg, cN, dv⟩ := SF.shut di (Fz.le_trans (aH) a0) bk (q := 2) (m := 9) (by decide) rfl rfl cx
       have cN : HS _ _ _ [_, _, dg, _, _, _, _, _, _, []] _ := cN
       have fM := FAM.len dv
       refine dC _ _ _ ?_ ⟨E, ah, A, ai.set kz.toNat dK, kz - 1, true, J, N, ab, O, U, ad, dg, bU, _, (Fz.le_trans (Fz.le_trans (Fz.le_trans (Fz.le_trans (Fz.le_trans (Fz.le_trans (bp) aJ) aZ) aF) aG) aH) a0), (HS.sub cN (List.sublist_append_left _ _)), I, T, dv, aI, (agC rfl (agC rfl (agC rfl (agC rfl (agC rfl (agC rfl (agC rfl agN))))))), rfl, (by exact snd_in a3 hkn (by assumption) (by assumption) ca), (by first | assumption | omega | (simp at *; omega)), (by first | (intro h; cases h; done) | exact keep0 (by assumption) (by assumption) cU), (by first | exact fun _ => cnt_t cU ce (cnt_more (by omega) (by assumption) (by assumption) (use4 (by assumption) (by assumption))) | exact keep1 (by assumption) (by assumption) ce), (by first | (intro h; cases h; done) | (intro h; exact clk (cl_step hkn (fun b h1 => hcl h b (by omega)) dx hsall ca (use3 (by assumption) (by assumption)) (by assumption))))⟩
       omega
      ·
       have c4 := co
       try simp only [BS] at c4
       refine wr 1 [] 43 44 [7] [(7, (.int .i64 (kz - 1)))] (vA (vi (n := kz - 1) (by first | (dsimp only; omega) | omega)) trivial) (by kernel_rfl) rfl fun _ => ?_
       obtain ⟨dh, cO, dw⟩ := SF.shut di (Fz.le_trans (aH) a0) bk (q := 2) (m := 9) (by decide) rfl rfl cx
       have cO : HS _ _ _ [_, _, dh, _, _, _, _, _, _, []] _ := cO
       have fN := FAM.len dw
       refine dC _ _ _ ?_ ⟨E, ah, A, ai.set kz.toNat dK, kz - 1, m2, J, N, ab, O, U, ad, dh, bU, _, (Fz.le_trans (Fz.le_trans (Fz.le_trans (Fz.le_trans (Fz.le_trans (Fz.le_trans (bp) aJ) aZ) aF) aG) aH) a0), (HS.sub cO (List.sublist_append_left _ _)), I, T, dw, aI, (agC rfl (agC rfl (agC rfl (agC rfl (agC rfl (agC rfl (agC rfl agN))))))), rfl, (by exact snd_in a3 hkn (by assumption) (by assumption) ca), (by first | assumption | omega | (simp at *; omega)), (by first | (intro h; cases h; done) | exact keep0 (by assumption) (by assumption) cU), (by first | exact fun _ => cnt_t cU ce (cnt_more (by omega) (by assumption) (by assumption) (use4 (by assumption) (by assumption))) | exact keep1 (by assumption) (by assumption) ce), (by first | (intro h; cases h; done) | (intro h; exact clk (cl_step hkn (fun b h1 => hcl h b (by omega)) dx hsall ca (use3 (by assumption) (by assumption)) (by assumption))))⟩
       omega
   ·
    have cZ := cj
    try simp only [BS] at cZ
    refine er _ _ _ ?_ ⟨bJ, bK, A, ai, m2, J, N, ab, aM, aR, aB, aC, aD, _, (Fz.le_trans (bW) bp), bw, I, ba, aN, aO, (agC rfl (agC rfl (agC rfl (agC rfl (agC rfl agN))))), rfl, (by exact bl), (by exact fun h b hb => hcl h b (by omega) hb)⟩
    rw [hmo]; exact mea_lt ce (cnt_le bl.li bl.wi)
  ·
   have cT := ci
   try simp only [BS] at cT
   refine wr 1 [] 97 98 [2, 3] [(2, (.slice av bF.length ax)), (3, (.slice aw bH.length ay))] trivial (by kernel_rfl) rfl fun _ => ?_
   obtain ⟨gC, bX, cP, ed⟩ := SF.freeze a6 dy (q := 2) rfl
   have cP : HS _ _ _ [_, aS, _, aT, aW] _ := cP
   replace a7 := a7.mono bX
   replace aj := SF.mono bX aj
   obtain ⟨gD, bY, cQ, ej, f7⟩ := OS.frz a7 cP (i := 1) rfl
   have cQ : HS _ _ _ [_, [], _, _, _] _ := cQ
   replace aj := SF.mono bY aj
   have bt := SR.rows ej (FAM.len a6) (fun i hi => SR.mono bY (ed i hi))
   have eC := SR.len' bt
   have fk := SR.norm bt
   obtain ⟨gE, ct, cR, ee⟩ := SF.freeze aj cQ (q := 4) rfl
   have cR : HS _ _ _ [_, _, _, _, []] _ := cR
   replace a9 := ((a9.mono bX).mono bY).mono ct
   obtain ⟨gF, cu, cS, ek, f8⟩ := OS.frz a9 cR (i := 3) rfl
   have cS : HS _ _ _ [_, _, _, [], _] _ := cS
   replace bt := (bt.mono ct).mono cu
   have cC := SR.rows ek (FAM.len aj) (fun i hi => SR.mono cu (ee i hi))
   have eD := SR.len' cC
   have fl := SR.norm cC
   refine wk_ret ⟨.inr rfl, _, rfl, av, ax, a4, aw, ay, bQ, _, (Fz.le_trans (Fz.le_trans (Fz.le_trans (Fz.le_trans (Fz.le_trans (bV) bW) bX) bY) ct) cu), (HS.forget cS), (by simp only [eC, eD]; rfl), (SR.norm bt), (SR.norm cC), (by exact anF_of snd (cl (by assumption)))⟩
end Go.Proofs.YtlabedbmgmfbaaaDoor.mc
