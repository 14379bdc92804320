/-
 Live registers: the solution of the equations, by a symbolic run. No condition but that the function is valid.
-/
import Derived.Test.YtlabedbmgmfbaaaDoorZDMB
import Derived.Test.YtlabedbmgmfbaaaDoorZDRC
noncomputable section
namespace Go.Proofs.YtlabedbmgmfbaaaDoor.mc
open Go.R
set_option maxRecDepth 10000
set_option linter.unusedVariables false
set_option linter.unusedSimpArgs false
open m1 m2 m3 m4 m5 m6 ma ml mb
theorem zset {l : List (List U64)} {k : Nat} {z : List U64} (h : ∀ j, j < k → l.getD j default = z) (hk : k < l.length) : ∀ j, j < k + 1 → (l.set k z).getD j default = z := fun j hj => by
 rw [fP]
 split
 ·
  rfl
 ·
  rename_i hq; exact h j (by omega)
theorem mem_at {l : List Int} {q : Nat} (h : q < l.length) : l.getD q 0 ∈ l := by
 rw [List.getD_eq_getElem?_getD, List.getElem?_eq_getElem h]; exact List.getElem_mem h
theorem succ_step {I O : List (List U64)} {k q : Nat} {s : List U64} {l : List Int} (hq : q < l.length) (hk : k < O.length) (h : ∀ t ∈ l.take q, ∀ r, bI I t.toNat r → bI O k r) (hb : ∀ i, aF s i = (aF (O.getD k default) i || aF (I.getD (l.getD q 0).toNat default) i)) : ∀ t ∈ l.take (q + 1), ∀ r, bI I t.toNat r → bI (O.set k s) k r := by
 intro t ht r hr
 unfold bI
 rw [fP, if_pos ⟨rfl, hk⟩, hb, Bool.or_eq_true]
 rw [gB hq (d := 0), List.mem_append, List.mem_singleton] at ht
 rcases ht with ht | rfl
 ·
  exact .inl (h t ht r hr)
 ·
  exact .inr hr
theorem tr_start {b : BlkT} {S : Nat → Prop} {s z : List U64} {n : Nat} (hn : b.ins.length ≤ n) (hs : ∀ r, aF s r = true ↔ S r) (h : ∀ i, aF z i = (aF s i || decide ((i : Int) ∈ endV b))) (r : Nat) : aF z r = true ↔ tr (b.ins.drop n) (endS b S) r := by
 rw [List.drop_of_length_le hn, h, Bool.or_eq_true, hs, decide_eq_true_eq]; exact Iff.rfl
theorem cl_step {c : VFnT} {I O A : List (List U64)} {s z : List U64} {k : Nat} (hk : k < c.blocks.length) (hcl : ∀ b : Nat, (k : Int) < (b : Int) → b < c.blocks.length → Cl1 c I O b) (ho : ∀ j, j ≠ k → A.getD j default = O.getD j default) (hs : ∀ t ∈ bN (cC c k), ∀ r, bI I t.toNat r → bI A k r)
  (ht : ∀ r, aF s r = true ↔ inS (cC c k) (bI A k) r) (hz : z = I.getD k default) (hb : ∀ i, aF z i = (aF (I.getD k default) i || aF s i)) : ∀ b : Nat, (k : Int) - 1 < (b : Int) → b < c.blocks.length → Cl1 c (I.set k z) A b := by
 intro b V U
 rw [hz, fC]
 by_cases e : b = k
 ·
  subst e
  refine ⟨hs, fun r hr => ?_⟩
  have := hb r
  rw [hz] at this
  unfold bI
  rw [this, (ht r).2 hr, Bool.or_true]
 ·
  have T := hcl b (by omega) U
  have J : bI A b = bI O b := by unfold bI; rw [ho b e]
  exact ⟨fun t ht r hr => by rw [J]; exact T.1 t ht r hr, fun r hr => T.2 r (by rw [J] at hr; exact hr)⟩
theorem cnt_t {m2 : Bool} {A B D : List (List U64)} (h0 : m2 = false → B = A) (z : m2 = true → lw A < lw B) (h : lw B < lw D) : lw A < lw D := by
 cases m2 with
 | false => rw [h0 rfl] at h; exact h
 | true => have := z rfl; omega
theorem keep0 {m2 r : Bool} {A B : List (List U64)} {k : Nat} {z : List U64} (I : r = false → z = B.getD k default) (hr : r = false) (h0 : m2 = false → B = A) : m2 = false → B.set k z = A := fun h => by rw [I hr, fC]; exact h0 h
theorem keep1 {m2 r : Bool} {A B : List (List U64)} {k : Nat} {z : List U64} (J : r = false → z = B.getD k default) (hr : r = false) (I : m2 = true → lw A < lw B) : m2 = true → lw A < lw (B.set k z) := fun h => by rw [J hr, fC]; exact I h
theorem use3 {α : Prop} {r : Bool} (h : r = false → α) (hr : r = false) : α := h hr
theorem use4 {α : Prop} {r : Bool} (h : r = true → α) (hr : r = true) : α := h hr
theorem succ_len {b : BlkT} : (bN b).length ≤ 2 := by
 unfold bN
 split
 ·
  simp
 ·
  split
  ·
   exact ins_len
  ·
   simp
theorem wd_le {c : VFnT} (h : 0 ≤ c.regs ∧ c.regs ≤ 3000) : c.regs ≤ 64 * ((wds c : Nat) : Int) ∧ wds c ≤ 48 := by
 unfold wds
 rw [Int.tdiv_eq_ediv_of_nonneg (by omega)]; omega
set_option maxHeartbeats 2000000 in
theorem analyze_c (ex : FuncId) {f1 : Option Addr} {g7 : Nat} (c : VFnT) {F : Fz} {H : Heap} {R : List Fp} (hs : HS (.of H []) F H [] R) (pf : in64 c.params) (ph : in64 c.regs) (c5 : SR F (.slice f1 c.blocks.length g7) c.blocks) (hT : TB 37 tabC F) (hval : eL c = true) (hins : ∀ j, (c.blocks.getD j default).ins.length ≤ 1099511627776) : C Tryd.prog 1 (KT 60 ex 37 tabC) 51 [(.agg ⟨[(iI c.params), (iI c.regs), (.slice f1 c.blocks.length g7)]⟩)] H fun v H' => ∃ (ail : Option Addr) (kil : Nat) (il : List (List U64)) (aol : Option Addr) (kol : Nat) (ol : List (List U64)) (F' : Fz), Fz.le F F' ∧ HS (.of H []) F' H' [] R ∧ v = .tuple ⟨[.slice ail il.length kil, .slice aol ol.length kol]⟩ ∧ SR F' (.slice ail il.length kil) il ∧ SR F' (.slice aol ol.length kol) ol ∧ (AnF c il ol) := by
 have vF := vF_of hval
 have hnb := vF.nb
 have hrg := vF.regs
 have hwd := wd_le hrg
 refine aL Tryd.func51 rfl rfl ?_
 refine ao 1 rfl ?_
 refine ab ?_
 refine aR (cw hs rfl rfl) rfl rfl ?_
 rintro _ H2 _ ⟨b1, rfl, hV, _⟩
 let hg : Fp := [(b1, .cells [(iI c.params), (iI c.regs), (.slice f1 c.blocks.length g7)] none false)]
 have hV : HS _ _ _ [hg] _ := hV
 refine wRo 2 1 [] 1 0 [2, 3] [(2, (.slice none 0 0)), (3, (.slice none 0 0))] trivial rfl fun _ => ?_
 refine ai 2 rfl ?_
 refine wR 2 [(1, .o (.slice f1 c.blocks.length g7))] 13 15 [4] [(4, (iI (c.blocks.length : Int)))] (vA (ql 22 2 (HS.hc hV (i := 0) rfl) rfl rfl) trivial) rfl fun _ => ?_
 refine aV rfl ?_
 refine fm (iI (c.blocks.length : Int)) rfl rfl rfl ?_
 refine dO (id := .x []) (hZ (default : Hd) hV.log0 rfl rfl rfl rfl rfl rfl rfl rfl rfl rfl (by omega) (by omega)) rfl rfl (by rintro _ _ p5 ⟨a5, k5, rfl, mV, _, hwr⟩; exact cF rfl rfl (Wr.did hwr)) (kb rfl) ?_
 rintro _ H6 p5 ⟨a5, k5, rfl, mV, hm, _⟩ oe ns
 replace hm := HS.lg hm hV ns
 generalize ({ H6 with log := oe } : Heap) = qa at hm ⊢
 have hm : HS _ _ _ [_, p5] _ := hm
 have k4 := HS.snoc hm
 have k4 : HS _ _ _ [_, _, []] _ := k4
 have mS : SF F (List.replicate c.blocks.length (default : Hd)) (List.replicate c.blocks.length ([] : List U64)) [] := SF.rep _
 have qp := FAM.len mS
 refine fm (iI (c.blocks.length : Int)) rfl rfl rfl ?_
 refine dO (id := .x []) (hZ (default : Hd) k4.log0 rfl rfl rfl rfl rfl rfl rfl rfl rfl rfl (by omega) (by omega)) rfl rfl (by rintro _ _ p8 ⟨a8, k8, rfl, mW, _, hwr⟩; exact cF rfl rfl (Wr.did hwr)) (⟨.inl rfl, ⟨.inr ⟨trivial, trivial⟩, ⟨.inr trivial, trivial⟩⟩⟩) ?_
 rintro _ H9 p8 ⟨a8, k8, rfl, mW, hn, _⟩ og nt
 replace hn := HS.lg hn k4 nt
 generalize ({ H9 with log := og } : Heap) = qg at hn ⊢
 have hn : HS _ _ _ [_, _, _, p8] _ := hn
 have iv := HS.snoc hn
 have iv : HS _ _ _ [_, _, _, _, []] _ := iv
 have l8 : SF F (List.replicate c.blocks.length (default : Hd)) (List.replicate c.blocks.length ([] : List U64)) [] := SF.rep _
 have oS := FAM.len l8
 refine fa (.slice a5 (List.replicate c.blocks.length (default : Hd)).length k5) rfl rfl rfl ?_
 refine fa (.slice a8 (List.replicate c.blocks.length (default : Hd)).length k8) rfl rfl rfl ?_
 refine bZ ?_
 refine ao 3 rfl ?_
 refine wR 2 [] 20 22 [] [(21, (iI ((List.replicate c.blocks.length (default : Hd)).length : Int))), (22, (iI 0))] trivial rfl fun _ => ?_
 refine aC (fun (mm : Nat) f H' => ∃ (oh : List Hd) (ol : List (List U64)) (ih : List Hd) (il : List (List U64)) (k : Nat) (Z : Option Addr) (ag : Nat) (b4 : Fp) (ad : Option Addr) (aj : Nat) (b5 : Fp) (dt : Fp) (dv : Fp) (F' : Fz), Fz.le F F' ∧ HS (Base.of H []) F' H' [hg, b4, dt, b5, dv] R ∧ OS F' (.slice Z ih.length ag) ih b4 ∧ OS F' (.slice ad oh.length aj) oh b5 ∧ SF F' ih il dt ∧ SF F' oh ol dv ∧ aT f [(1, (.pointer (some ⟨b1, 0, none⟩))), (2, (.slice Z ih.length ag)), (3, (.slice ad oh.length aj)), (4, (iI (c.blocks.length : Int))), (21, (iI ((List.replicate c.blocks.length (default : Hd)).length : Int))), (22, (iI (k : Int)))] ∧ mm = c.blocks.length - k ∧ (il.length = c.blocks.length) ∧ (ol.length = c.blocks.length) ∧ (∀ j, j < k → il.getD j default = List.replicate (wds c) ⟨0⟩) ∧ (∀ j, j < k → ol.getD j default = List.replicate (wds c) ⟨0⟩) ∧ (k ≤ c.blocks.length)) _ ⟨List.replicate c.blocks.length (default : Hd), List.replicate c.blocks.length ([] : List U64), List.replicate c.blocks.length (default : Hd), List.replicate c.blocks.length ([] : List U64), 0, a5, k5, p5, a8, k8, p8, [], [], _, fR, iv, mV, mW, mS, l8, (agC rfl (agC rfl (agC rfl (agC rfl (agC rfl (agC rfl agN)))))), rfl, (by simp), (by simp), (by intro j hj; omega), (by intro j hj; omega), (by omega)⟩ ?_
 rintro pK qi p0 ⟨oh, ol, ih, il, k, Z, ag, b4, ad, aj, b5, dt, dv, n3, hA, f6, dd, dk, a6, a7, l9, rfl, li, lo, zi, zo, hk⟩ nC
 refine aH _ l9 (fun _ => ?_)
 clear l9
 replace hT := hT.mono hA
 replace c5 := c5.mono hA
 have nU := FAM.len a6
 have nV := FAM.len a7
 have hrl : (List.replicate c.blocks.length (default : Hd)).length = c.blocks.length := List.length_replicate
 refine ao 1 rfl ?_
 refine wR 2 [] 23 23 [] [(23, (.bool (decide ((k : Int) < ((List.replicate c.blocks.length (default : Hd)).length : Int)))))] trivial rfl fun _ => ?_
 refine am 4 6 (v := (decide ((k : Int) < ((List.replicate c.blocks.length (default : Hd)).length : Int)))) rfl rfl rfl rfl (fun la => ?_) (fun la => ?_)
 ·
  try simp only [BS] at la
  refine wR 1 [] 24 24 [5] [(5, (iI (k : Int)))] trivial rfl fun _ => ?_
  refine aV rfl ?_
  refine fm (.slice Z ih.length ag) rfl rfl rfl ?_
  refine fm (iI (k : Int)) rfl rfl rfl ?_
  refine fm (.slice ad oh.length aj) rfl rfl rfl ?_
  refine fm (iI (k : Int)) rfl rfl rfl ?_
  refine wfv (v := (.pointer (some ⟨b1, 1, none⟩))) (bQ rfl rfl) ?_
  refine au (v := (iI c.regs)) (id := .l b1) (aP (i := 1) rfl rfl (HS.hc f6.log0 (i := 0) rfl) rfl rfl) rfl rfl (bg rfl) (kb rfl) ?_
  refine de (W := []) (az rfl rfl rfl) rfl rfl rfl (mb.empty_c ex c.regs (HS.call f6.log0) (by omega) hT (by omega)) (kb rfl) ?_
  rintro _ n8 ⟨hv, hQ, qs, oi, pP, e1, a3, rfl, hK, rfl⟩
  refine ⟨Wr.did a3.log, fun nI mI => ?_⟩
  replace a3 := HS.back f6.log0 rfl a3
  replace a3 := HS.lg a3 f6 mI
  generalize ({ n8 with log := nI } : Heap) = oG at a3 ⊢
  have a3 : HS _ _ _ [_, b4, dt, b5, dv, oi] _ := a3
  replace hT := hT.mono e1
  replace a6 := SF.mono e1 a6
  replace a7 := SF.mono e1 a7
  refine wfv (v := (.pointer (some ⟨b1, 1, none⟩))) (bQ rfl rfl) ?_
  refine au (v := (iI c.regs)) (id := .l b1) (aP (i := 1) rfl rfl (HS.hc a3.log0 (i := 0) rfl) rfl rfl) rfl rfl (bg rfl) (⟨.inl rfl, ⟨.inr List.not_mem_nil, ⟨.inr trivial, ⟨.inr trivial, ⟨.inr trivial, ⟨.inr trivial, ⟨.inr trivial, ⟨.inr trivial, trivial⟩⟩⟩⟩⟩⟩⟩⟩) ?_
  refine de (W := []) (az rfl rfl rfl) rfl rfl rfl (mb.empty_c ex c.regs (HS.call a3.log0) (by omega) hT (by omega)) (kb rfl) ?_
  rintro _ n9 ⟨hw, hR, qt, oj, mR, e2, bj, rfl, mO, rfl⟩
  refine ⟨Wr.did bj.log, fun nJ mJ => ?_⟩
  replace bj := HS.back a3.log0 rfl bj
  replace bj := HS.lg bj a3 mJ
  generalize ({ n9 with log := nJ } : Heap) = oH at bj ⊢
  have bj : HS _ _ _ [_, _, _, _, _, _, oj] _ := bj
  replace hK := hK.mono e2
  replace dd := (dd.mono e1).mono e2
  replace dk := (dk.mono e1).mono e2
  replace a6 := SF.mono e2 a6
  replace a7 := SF.mono e2 a7
  refine wfv (v := (.pointer (some ⟨sB (.slice Z ih.length ag), sO (.slice Z ih.length ag) + k * Rp.sz Hd, none⟩))) (aW (α := Hd) (j := (k : Int)) rfl rfl rfl rfl (OS.sv dd bj.log0 (i := 1) rfl) (by omega) (by omega)) ?_
  obtain ⟨na, lU, i1, h7, ni⟩ := SF.open a6 bj (q := 2) (i := k) rfl (by omega)
  have i1 : HS _ _ _ [_, _, na, _, _, _, _, lU] _ := i1
  have h7 : OS mR (.slice (ih.getD k default).a (ih.getD k default).n (ih.getD k default).k) (il.getD k default) lU := h7
  have pA := OS.nlen h7
  obtain ⟨l0, hL, me⟩ := SF.shutN (⟨hv, (List.replicate (Int.tdiv (c.regs + 63) 64).toNat (⟨0⟩ : U64)).length, hQ⟩ : Hd) ni fR i1 (q := 2) (m := 5) (by decide) rfl rfl hK
  have hL : HS _ _ _ [_, _, l0, _, _, [], _, _] _ := hL
  have oT := FAM.len me
  refine eu (id := .x (b4.map Prod.fst)) (eh (α := Hd) (j := k) (off := 0) (q := 1) (⟨hv, (List.replicate (Int.tdiv (c.regs + 63) 64).toNat (⟨0⟩ : U64)).length, hQ⟩ : Hd) dd hL.log0 rfl rfl rfl rfl rfl rfl rfl rfl (aS (x := default) (by omega)) rfl (by rintro cs rfl; exact ⟨Nat.le_of_ble_eq_true rfl, rfl⟩)) rfl (by rintro _ _ mB ⟨hG, _, hwr⟩; exact cF rfl rfl (Wr.did hwr)) (kb rfl) ?_
  rintro _ ob mB ⟨hG, el, _⟩ nK mK
  replace el := HS.lg el hL mK
  generalize ({ ob with log := nK } : Heap) = oI at el ⊢
  have el : HS _ _ _ [_, mB, _, _, _, _, _, _] _ := el
  have oB := OS.len' hG
  refine wfv (v := (.pointer (some ⟨sB (.slice ad oh.length aj), sO (.slice ad oh.length aj) + k * Rp.sz Hd, none⟩))) (aW (α := Hd) (j := (k : Int)) rfl rfl rfl rfl (OS.sv dk el.log0 (i := 3) rfl) (by omega) (by omega)) ?_
  obtain ⟨ne, lV, i2, h8, nj⟩ := SF.open a7 el (q := 4) (i := k) rfl (by omega)
  have i2 : HS _ _ _ [_, _, _, _, ne, _, _, _, lV] _ := i2
  have h8 : OS mR (.slice (oh.getD k default).a (oh.getD k default).n (oh.getD k default).k) (ol.getD k default) lV := h8
  have pB := OS.nlen h8
  obtain ⟨l1, hM, mg⟩ := SF.shutN (⟨hw, (List.replicate (Int.tdiv (c.regs + 63) 64).toNat (⟨0⟩ : U64)).length, hR⟩ : Hd) nj fR i2 (q := 4) (m := 6) (by decide) rfl rfl mO
  have hM : HS _ _ _ [_, _, _, _, l1, _, [], _, _] _ := hM
  have oU := FAM.len mg
  refine eu (id := .x (b5.map Prod.fst)) (eh (α := Hd) (j := k) (off := 0) (q := 3) (⟨hw, (List.replicate (Int.tdiv (c.regs + 63) 64).toNat (⟨0⟩ : U64)).length, hR⟩ : Hd) dk hM.log0 rfl rfl rfl rfl rfl rfl rfl rfl (aS (x := default) (by omega)) rfl (by rintro cs rfl; exact ⟨Nat.le_of_ble_eq_true rfl, rfl⟩)) rfl (by rintro _ _ mC ⟨hH, _, hwr⟩; exact cF rfl rfl (Wr.did hwr)) (kb rfl) ?_
  rintro _ oc mC ⟨hH, e4, _⟩ nL mL
  replace e4 := HS.lg e4 hM mL
  generalize ({ oc with log := nL } : Heap) = oJ at e4 ⊢
  have e4 : HS _ _ _ [_, _, _, mC, _, _, _, _, _] _ := e4
  have oC := OS.len' hH
  refine bZ ?_
  refine ao 2 rfl ?_
  refine wR 1 [] 22 22 [37] [(22, (iI ((k : Int) + 1)))] (vA (vi (n := (k : Int) + 1) (by omega)) trivial) rfl fun _ => ?_
  refine nC _ _ _ ?_ ⟨oh.set k (⟨hw, (List.replicate (Int.tdiv (c.regs + 63) 64).toNat (⟨0⟩ : U64)).length, hR⟩ : Hd), ol.set k (List.replicate (Int.tdiv (c.regs + 63) 64).toNat (⟨0⟩ : U64)), ih.set k (⟨hv, (List.replicate (Int.tdiv (c.regs + 63) 64).toNat (⟨0⟩ : U64)).length, hQ⟩ : Hd), il.set k (List.replicate (Int.tdiv (c.regs + 63) 64).toNat (⟨0⟩ : U64)), k + 1, Z, ag, mB, ad, aj, mC, l0, l1, _, (fT (fT (hA) e1) e2), (HS.sub e4 (List.sublist_append_left _ _)), (OS.norm hG), (OS.norm hH), me, mg, (agC rfl (agC (show Value.slice Z ih.length ag = Value.slice Z (ih.set k (⟨hv, (List.replicate (Int.tdiv (c.regs + 63) 64).toNat (⟨0⟩ : U64)).length, hQ⟩ : Hd)).length ag by rw [OS.len' hG]) (agC (show Value.slice ad oh.length aj = Value.slice ad (oh.set k (⟨hw, (List.replicate (Int.tdiv (c.regs + 63) 64).toNat (⟨0⟩ : U64)).length, hR⟩ : Hd)).length aj by rw [OS.len' hH]) (agC rfl (agC rfl (agC rfl agN)))))), rfl, (by rw [List.length_set]; exact li), (by rw [List.length_set]; exact lo), (by exact zset zi (by omega)), (by exact zset zo (by omega)), (by (simp at *; omega))⟩
  omega
 ·
  try simp only [BS] at la
  refine wR 2 [] 1 0 [6] [(6, (.bool true))] trivial rfl fun _ => ?_
  refine aC (fun (mm : Nat) f H' => ∃ (g9 : List Hd) (hu : List (List U64)) (g6 : List Hd) (ep : List (List U64)) (mo : Bool) (bl : Option Addr) (b2 : Nat) (dn : Fp) (b0 : Option Addr) (b3 : Nat) (ds : Fp) (ez : Fp) (d1 : Fp) (F' : Fz), Fz.le n3 F' ∧ HS (Base.of H []) F' H' [hg, dn, ez, ds, d1] R ∧ OS F' (.slice bl g6.length b2) g6 dn ∧ OS F' (.slice b0 g9.length b3) g9 ds ∧ SF F' g6 ep ez ∧ SF F' g9 hu d1 ∧ aT f [(1, (.pointer (some ⟨b1, 0, none⟩))), (2, (.slice bl g6.length b2)), (3, (.slice b0 g9.length b3)), (4, (iI (c.blocks.length : Int))), (6, (.bool mo))] ∧ mm = mea mo (c.blocks.length * (64 * wds c)) (lw ep) ∧ (Snd c ep hu) ∧ (mo = false → ∀ b, b < c.blocks.length → Cl1 c ep hu b)) _ ⟨oh, ol, ih, il, true, Z, ag, b4, ad, aj, b5, dt, dv, _, fR, f6, dd, dk, a6, a7, (agC rfl (agC rfl (agC rfl (agC rfl (agC rfl agN))))), rfl, (by exact snd_start li lo (fun j hj => zi j (by omega)) (fun j hj => zo j (by omega))), (by intro h; cases h)⟩ ?_
  rintro pL qj p1 ⟨g9, hu, g6, ep, mo, bl, b2, dn, b0, b3, ds, ez, d1, n4, hB, mv, et, ev, es, a2, mh, rfl, snd, cl⟩ nD
  refine aH _ mh (fun _ => ?_)
  clear mh
  replace hT := hT.mono hB
  replace c5 := c5.mono hB
  have nW := FAM.len es
  have nX := FAM.len a2
  have hli := snd.li
  have hlo := snd.lo
  refine ao 2 rfl ?_
  refine wR 1 [] 38 38 [] [(38, (.bool mo))] trivial rfl fun _ => ?_
  refine am 3 5 (v := mo) rfl rfl rfl rfl (fun k3 => ?_) (fun k3 => ?_)
  ·
   try simp only [BS] at k3
   have hmo := k3
   refine wR 2 [] 1 0 [6] [(6, (.bool false))] trivial rfl fun _ => ?_
   refine wR 2 [] 39 40 [7] [(7, (iI ((c.blocks.length : Int) - 1)))] (vA (vi (n := (c.blocks.length : Int) - 1) (by omega)) trivial) rfl fun _ => ?_
   refine aC (fun (mm : Nat) f H' => ∃ (ha : List Hd) (he : List (List U64)) (z : List Hd) (a1 : List (List U64)) (kz : Int) (m2 : Bool) (J : Option Addr) (O : Nat) (ap : Fp) (c7 : Option Addr) (dl : Nat) (b6 : Fp) (b7 : Fp) (b9 : Fp) (F' : Fz), Fz.le n4 F' ∧ HS (Base.of H []) F' H' [hg, ap, b7, b6, b9] R ∧ OS F' (.slice J z.length O) z ap ∧ OS F' (.slice c7 ha.length dl) ha b6 ∧ SF F' z a1 b7 ∧ SF F' ha he b9 ∧ aT f [(1, (.pointer (some ⟨b1, 0, none⟩))), (2, (.slice J z.length O)), (3, (.slice c7 ha.length dl)), (4, (iI (c.blocks.length : Int))), (6, (.bool m2)), (7, (iI kz)), (38, (.bool mo))] ∧ mm = (kz + 1).toNat ∧ (Snd c a1 he) ∧ (-1 ≤ kz ∧ kz < (c.blocks.length : Int)) ∧ (m2 = false → a1 = ep) ∧ (m2 = true → lw ep < lw a1) ∧ (m2 = false → ∀ b : Nat, kz < (b : Int) → b < c.blocks.length → Cl1 c a1 he b)) _ ⟨g9, hu, g6, ep, (c.blocks.length : Int) - 1, false, bl, b2, dn, b0, b3, ds, ez, d1, _, fR, mv, et, ev, es, a2, (agC rfl (agC rfl (agC rfl (agC rfl (agC rfl (agC rfl (agC rfl agN))))))), rfl, (by exact snd), (by omega), (by exact fun _ => rfl), (by intro h; cases h), (by intro _ b h1 h2; omega)⟩ ?_
   rintro pM qk p2 ⟨ha, he, z, a1, kz, m2, J, O, ap, c7, dl, b6, b7, b9, pQ, f2, f7, I, ey, c8, c9, mi, rfl, fd, hkz, mT, mu, hcl⟩ mz
   refine aH _ mi (fun _ => ?_)
   clear mi
   replace hT := hT.mono f2
   replace c5 := c5.mono f2
   have nY := FAM.len c8
   have nZ := FAM.len c9
   have pi := fd.li
   have pj := fd.lo
   refine ao 2 rfl ?_
   refine wR 1 [] 41 42 [] [(42, (.bool (decide ((0 : Int) ≤ kz))))] trivial rfl fun _ => ?_
   refine am 4 5 (v := (decide ((0 : Int) ≤ kz))) rfl rfl rfl rfl (fun lr => ?_) (fun lr => ?_)
   ·
    try simp only [BS] at lr
    have hkn : kz.toNat < c.blocks.length := by omega
    have hbl := hins kz.toNat
    have hfn : ((c.blocks.getD kz.toNat default).fin = 2 ∨ (c.blocks.getD kz.toNat default).fin = 3) → 0 ≤ (c.blocks.getD kz.toNat default).reg ∧ (c.blocks.getD kz.toNat default).reg < c.regs := vF.fin kz.toNat hkn
    have clk : ∀ {Q : Nat → Prop}, (∀ b : Nat, ((kz.toNat : Nat) : Int) - 1 < (b : Int) → Q b) → ∀ b : Nat, kz - 1 < (b : Int) → Q b := fun h b hb => h b (by omega)
    refine ab ?_
    obtain ⟨c3, mw⟩ := Sv.view (SR.sv c5 f7)
    obtain ⟨oq, ot, ou, ov, bb⟩ := BlkT.fx (mw kz.toNat)
    let d2 : Value := (.agg ⟨[(.slice (cA (c3 kz.toNat) 0) (c.blocks.getD kz.toNat default).ins.length (cK (c3 kz.toNat) 0)), (iI (c.blocks.getD kz.toNat default).fin), (iI (c.blocks.getD kz.toNat default).reg), (iI (c.blocks.getD kz.toNat default).tgt), (iI (c.blocks.getD kz.toNat default).els)]⟩)
    refine wRo 5 0 [(1, .o (.slice f1 c.blocks.length g7)), (4, .o d2)] 45 49 [] [(49, d2)] (vA (ql 22 2 (HS.hc f7 (i := 0) rfl) rfl rfl) (vA (Sv.ix (j := kz) (SR.sv c5 f7) (by omega) (by omega)) (vA (qn 42 0 5 (BlkT.vw (mw kz.toNat) (by omega)) rfl rfl rfl rfl) trivial))) rfl fun _ => ?_
    refine aR (bK f7 rfl) rfl rfl ?_
    rintro _ p3 _ ⟨k0, rfl, i3, _⟩
    have i3 : HS _ _ _ [_, ap, b7, b6, b9, [(k0, .cells [(.slice none 0 0), (iI 0), (iI 0), (iI 0), (iI 0)] none false)]] _ := i3
    refine aU (aG (q := 5) i3 rfl rfl rfl rfl rfl rfl rfl rfl rfl) rfl ?_
    rintro _ p4 _ ⟨f9, _⟩
    let k7 : Fp := [(k0, .cells [(.slice (cA (c3 kz.toNat) 0) (c.blocks.getD kz.toNat default).ins.length (cK (c3 kz.toNat) 0)), (iI (c.blocks.getD kz.toNat default).fin), (iI (c.blocks.getD kz.toNat default).reg), (iI (c.blocks.getD kz.toNat default).tgt), (iI (c.blocks.getD kz.toNat default).els)] none false)]
    have f9 : HS _ _ _ [_, _, _, _, _, k7] _ := f9
    refine ai 3 rfl ?_
    refine ab ?_
    refine wRo 1 0 [(0, .o d2)] 50 50 [] [(50, d2)] (vA (qn 42 0 5 (HS.hc f9 (i := 5) rfl) rfl rfl rfl rfl) trivial) rfl fun _ => ?_
    refine aD (az rfl rfl rfl) rfl rfl (ma.vsucc_c ex (c.blocks.getD kz.toNat default) (HS.call f9) bb (by omega) (by omega) (by omega) (by omega) hT) ?_
    rintro _ p6 ⟨k9, mA, qu, k6, n5, c4, gn, rfl, fi, rfl⟩
    replace gn := HS.back f9 rfl gn
    have gn : HS _ _ _ [_, _, _, _, _, _, k6] _ := gn
    replace ey := ey.mono c4
    replace c8 := SF.mono c4 c8
    replace c9 := SF.mono c4 c9
    refine wRo 2 2 [] 52 53 [] [(52, (iI ((bN (c.blocks.getD kz.toNat default)).length : Int))), (53, (iI 0))] trivial rfl fun _ => ?_
    refine ai 2 rfl ?_
    refine aC (fun (mm : Nat) f H' => ∃ (A : List Hd) (a0 : List (List U64)) (q : Nat) (T : Option Addr) (V : Nat) (aq : Fp) (e0 : Fp) (ch : Fp) (F' : Fz), Fz.le n5 F' ∧ HS (Base.of H []) F' H' [hg, ap, ch, aq, e0, k7, k6] R ∧ OS F' (.slice T A.length V) A aq ∧ SF F' A a0 e0 ∧ SF F' z a1 ch ∧ aT f [(1, (.pointer (some ⟨b1, 0, none⟩))), (2, (.slice J z.length O)), (3, (.slice T A.length V)), (4, (iI (c.blocks.length : Int))), (6, (.bool m2)), (7, (iI kz)), (8, (.pointer (some ⟨k0, 0, none⟩))), (38, (.bool mo)), (42, (.bool (decide ((0 : Int) ≤ kz)))), (49, d2), (50, d2), (51, (.slice k9 (bN (c.blocks.getD kz.toNat default)).length mA)), (52, (iI ((bN (c.blocks.getD kz.toNat default)).length : Int))), (53, (iI (q : Int)))] ∧ mm = (bN (c.blocks.getD kz.toNat default)).length - q ∧ (Snd c a1 a0) ∧ (q ≤ (bN (c.blocks.getD kz.toNat default)).length) ∧ (∀ j, j ≠ kz.toNat → a0.getD j default = he.getD j default) ∧ (∀ t ∈ (bN (c.blocks.getD kz.toNat default)).take q, ∀ r, bI a1 t.toNat r → bI a0 kz.toNat r)) _ ⟨ha, he, 0, c7, dl, b6, b9, b7, _, fR, gn, ey, c9, c8, (agC rfl (agC rfl (agC rfl (agC rfl (agC rfl (agC rfl (agC rfl (agC rfl (agC rfl (agC rfl (agC rfl (agC rfl (agC rfl (agC rfl agN)))))))))))))), rfl, (by exact fd), (by omega), (by exact fun _ _ => rfl), (by intro t ht; cases ht)⟩ ?_
    rintro pN qm p7 ⟨A, a0, q, T, V, aq, e0, ch, hS, eb, e5, U, g8, a9, mj, rfl, em, hq, mU, mX⟩ nE
    refine aH _ mj (fun _ => ?_)
    clear mj
    replace hT := (hT.mono c4).mono eb
    replace fi := fi.mono eb
    replace I := (I.mono c4).mono eb
    replace bb := (bb.mono c4).mono eb
    have n2 := FAM.len g8
    have n1 := FAM.len a9
    have pu := succ_len (b := (c.blocks.getD kz.toNat default))
    have pm := em.lo
    have pz := em.wo kz.toNat hkn
    refine ao 1 rfl ?_
    refine wR 2 [] 54 54 [] [(54, (.bool (decide ((q : Int) < ((bN (c.blocks.getD kz.toNat default)).length : Int)))))] trivial rfl fun _ => ?_
    refine am 4 5 (v := (decide ((q : Int) < ((bN (c.blocks.getD kz.toNat default)).length : Int)))) rfl rfl rfl rfl (fun lQ => ?_) (fun lQ => ?_)
    ·
     try simp only [BS] at lQ
     have hmem := mem_at (l := bN (c.blocks.getD kz.toNat default)) (q := q) (by omega)
     have hst := vF.succ kz.toNat hkn _ hmem
     have px := em.wi ((bN (c.blocks.getD kz.toNat default)).getD q 0).toNat (by omega)
     obtain ⟨oN, mx⟩ := Sv.view (OS.sv fi e5 (i := 6) rfl)
     have qq := fI (mx q)
     refine wR 1 [(1, .o (iI ((bN (c.blocks.getD kz.toNat default)).getD q 0)))] 55 56 [10] [(10, (iI ((bN (c.blocks.getD kz.toNat default)).getD q 0)))] (vA (Sv.ix (j := (q : Int)) (OS.sv fi e5 (i := 6) rfl) (by omega) (by omega)) (vA (ql 3 0 (vI (mx q) (by omega)) rfl rfl) trivial)) rfl fun _ => ?_
     refine aV rfl ?_
     refine fm (.slice T A.length V) rfl rfl rfl ?_
     refine fm (iI kz) rfl rfl rfl ?_
     refine wfv (v := (.pointer (some ⟨sB (.slice T A.length V), sO (.slice T A.length V) + kz.toNat * Rp.sz Hd, none⟩))) (aW (α := Hd) (j := kz) rfl rfl rfl rfl (OS.sv U e5.log0 (i := 3) rfl) (by omega) (by omega)) ?_
     obtain ⟨oO, ny⟩ := Sv.view (OS.sv U e5.log0 (i := 3) rfl)
     obtain ⟨lY, hW, g1, hI, nk⟩ := SF.open g8 e5 (q := 4) (i := kz.toNat) rfl (by omega)
     have g1 : HS _ _ _ [_, _, ch, aq, lY, _, _, hW] _ := g1
     have hI : OS hS (.slice (A.getD kz.toNat default).a (A.getD kz.toNat default).n (A.getD kz.toNat default).k) (a0.getD kz.toNat default) hW := hI
     have pC := OS.nlen hI
     refine au (v := (.slice (A.getD kz.toNat default).a (A.getD kz.toNat default).n (A.getD kz.toNat default).k)) (id := .l (sB (.slice T A.length V))) (aP (i := 0) rfl rfl (vH (ny kz.toNat) (by omega)) rfl rfl) rfl rfl (bg rfl) (kb rfl) ?_
     refine fm (.slice J z.length O) rfl rfl rfl ?_
     refine fm (iI ((bN (c.blocks.getD kz.toNat default)).getD q 0)) rfl rfl rfl ?_
     refine wfv (v := (.pointer (some ⟨sB (.slice J z.length O), sO (.slice J z.length O) + ((bN (c.blocks.getD kz.toNat default)).getD q 0).toNat * Rp.sz Hd, none⟩))) (aW (α := Hd) (j := ((bN (c.blocks.getD kz.toNat default)).getD q 0)) rfl rfl rfl rfl (OS.sv I g1.log0 (i := 1) rfl) (by omega) (by omega)) ?_
     obtain ⟨oP, nz⟩ := Sv.view (OS.sv I g1.log0 (i := 1) rfl)
     obtain ⟨lZ, hX, g2, f3, nm⟩ := SF.open a9 g1 (q := 2) (i := ((bN (c.blocks.getD kz.toNat default)).getD q 0).toNat) rfl (by omega)
     have g2 : HS _ _ _ [_, _, lZ, _, _, _, _, _, hX] _ := g2
     have f3 : OS hS (.slice (z.getD ((bN (c.blocks.getD kz.toNat default)).getD q 0).toNat default).a (z.getD ((bN (c.blocks.getD kz.toNat default)).getD q 0).toNat default).n (z.getD ((bN (c.blocks.getD kz.toNat default)).getD q 0).toNat default).k) (a1.getD ((bN (c.blocks.getD kz.toNat default)).getD q 0).toNat default) hX := f3
     have pD := OS.nlen f3
     refine au (v := (.slice (z.getD ((bN (c.blocks.getD kz.toNat default)).getD q 0).toNat default).a (z.getD ((bN (c.blocks.getD kz.toNat default)).getD q 0).toNat default).n (z.getD ((bN (c.blocks.getD kz.toNat default)).getD q 0).toNat default).k)) (id := .l (sB (.slice J z.length O))) (aP (i := 0) rfl rfl (vH (nz ((bN (c.blocks.getD kz.toNat default)).getD q 0).toNat) (by omega)) rfl rfl) rfl rfl (bg rfl) (kb rfl) ?_
     obtain ⟨oF, hE, fj, mP, mN⟩ := OS.frz f3 g2 (i := 8) rfl
     have fj : HS _ _ _ [_, _, _, _, _, _, _, _, []] _ := fj
     refine de (W := (hW.map Prod.fst)) (az rfl rfl rfl) rfl rfl rfl (mb.union_c ex (a0.getD kz.toNat default) (a1.getD ((bN (c.blocks.getD kz.toNat default)).getD q 0).toNat default) (HS.callOwn fj.log0 (i := 7) rfl) (OS.mono hE hI) mP (hT.mono hE) (by omega) (by omega)) (kb rfl) ?_
     rintro _ od ⟨qv, nT, nR, pR, l7, a4, rfl, hF, o2, o6, pb, pd⟩
     refine ⟨HS.didW a4, fun nM mM => ?_⟩
     replace a4 := HS.backOwn fj.log0 (i := 7) rfl rfl (fun _ hb => hb) a4
     replace a4 := HS.lg a4 g2 mM
     generalize ({ od with log := nM } : Heap) = oK at a4 ⊢
     replace a4 := HS.thawL g2 (i := 8) rfl (fT hE l7) (fun b o hb => l7 _ _ (mN b o hb)) (i' := 8) rfl a4
     replace hF := OS.ind (F' := hS) hF
     have a4 : HS _ _ _ [hg, ap, lZ, aq, lY, k7, k6, nR, hX] _ := a4
     have pE := OS.len' hF
     refine bZ ?_
     refine ao 2 rfl ?_
     refine wR 1 [] 53 53 [66] [(53, (iI ((q : Int) + 1)))] (vA (vi (n := (q : Int) + 1) (by omega)) trivial) rfl fun _ => ?_
     obtain ⟨l2, jb, mn⟩ := SF.shut0 nm fR a4 (q := 2) (m := 8) (by decide) rfl rfl f3
     have jb : HS _ _ _ [_, _, l2, _, _, _, _, _, []] _ := jb
     have oW := FAM.len mn
     obtain ⟨l3, jq, mp⟩ := SF.shut nk fR jb (q := 4) (m := 7) (by decide) rfl rfl hF
     have jq : HS _ _ _ [_, _, _, _, l3, _, _, [], _] _ := jq
     have oX := FAM.len mp
     refine nE _ _ _ ?_ ⟨A, a0.set kz.toNat nT, q + 1, T, V, aq, l3, l2, _, (eb), (HS.sub jq (List.sublist_append_left _ _)), U, mp, mn, (agC rfl (agC rfl (agC rfl (agC rfl (agC rfl (agC rfl (agC rfl (agC rfl (agC rfl (agC rfl (agC rfl (agC rfl (agC rfl (agC rfl agN)))))))))))))), rfl, (by exact snd_out em hkn hmem (by assumption) (by assumption)), (by (simp at *; omega)), (by exact fun j hj => by rw [fP, if_neg (fun e => hj e.1.symm)]; exact mU j hj), (by exact succ_step (by omega) (by omega) mX (by assumption))⟩
     omega
    ·
     try simp only [BS] at lQ
     have hsall : ∀ t ∈ bN (c.blocks.getD kz.toNat default), ∀ r, bI a1 t.toNat r → bI a0 kz.toNat r := fun t ht => mX t (by rw [List.take_of_length_le (by omega)]; exact ht)
     have py := em.wi kz.toNat hkn
     refine ab ?_
     refine aR (ct (α := U64) (ps := []) (cells := []) ([] : List U64) e5 rfl rfl rfl (by kernel_rfl) rfl rfl) rfl rfl ?_
     rintro _ p9 om ⟨qh, qr, rfl, nu, g3, _⟩
     have g3 : HS _ _ _ [_, _, ch, aq, e0, _, _, om] _ := g3
     obtain ⟨oQ, nA⟩ := Sv.view (OS.sv U g3 (i := 3) rfl)
     obtain ⟨ng, lW, hN, ei, nn⟩ := SF.open g8 g3 (q := 4) (i := kz.toNat) rfl (by omega)
     have hN : HS _ _ _ [_, _, _, _, ng, _, _, _, lW] _ := hN
     have ei : OS hS (.slice (A.getD kz.toNat default).a (A.getD kz.toNat default).n (A.getD kz.toNat default).k) (a0.getD kz.toNat default) lW := ei
     have pF := OS.nlen ei
     refine wRo 4 1 [(4, .o (.slice (A.getD kz.toNat default).a (A.getD kz.toNat default).n (A.getD kz.toNat default).k))] 68 71 [] [(71, (.slice (A.getD kz.toNat default).a (A.getD kz.toNat default).n (A.getD kz.toNat default).k))] (vA (Sv.ix (j := kz) (OS.sv U g3 (i := 3) rfl) (by omega) (by omega)) (vA (ql 83 0 (vH (nA kz.toNat) (by omega)) rfl rfl) trivial)) rfl fun _ => ?_
     refine aR (cQ (α := U64) (q := 7) nu hN rfl rfl rfl (OS.sv ei hN (i := 8) rfl) rfl rfl rfl rfl rfl rfl rfl (by (simp only [List.length_append, List.length_cons, List.length_nil]; omega))) rfl rfl ?_
     rintro _ qb mY ⟨hl, hp, rfl, h9, g4, _⟩
     have g4 : HS _ _ _ [_, _, _, _, _, _, _, mY, _] _ := g4
     have h9 : OS hS (.slice hl (a0.getD kz.toNat default).length hp) (a0.getD kz.toNat default) mY := h9
     refine wa (.slice hl (a0.getD kz.toNat default).length hp) rfl rfl rfl ?_
     refine ai 2 rfl ?_
     refine ab ?_
     refine wRo 2 0 [(1, .o d2)] 73 74 [] [(73, (.slice hl (a0.getD kz.toNat default).length hp)), (74, d2)] (vA (qn 42 0 5 (HS.hc g4 (i := 5) rfl) rfl rfl rfl rfl) trivial) rfl fun _ => ?_
     refine aD (az rfl rfl rfl) rfl rfl (mb.addT_c ex (a0.getD kz.toNat default) (c.blocks.getD kz.toNat default) (HS.callOwn g4 (i := 7) rfl) h9 bb (by omega) (by omega) (by omega) (by omega) hT (by exact fun hf => by have := hfn hf; omega) (by first | omega | exact fun hf => by have := hfn hf; omega)) ?_
     rintro _ qc ⟨mF, mD, n6, ci, e6, rfl, h4, o3, o7⟩
     replace e6 := HS.backOwn g4 (i := 7) rfl rfl (fun _ hb => hb) e6
     have e6 : HS _ _ _ [_, _, _, _, _, _, _, mD, _] _ := e6
     replace ei := ei.mono ci
     replace a9 := SF.mono ci a9
     have pG := OS.len' h4
     refine ai 3 rfl ?_
     refine wR 2 [(1, .o (.slice (cA (c3 kz.toNat) 0) (c.blocks.getD kz.toNat default).ins.length (cK (c3 kz.toNat) 0)))] 76 79 [12] [(12, (iI (((c.blocks.getD kz.toNat default).ins.length : Int) - 1)))] (vA (ql 40 0 (HS.hc e6 (i := 5) rfl) rfl rfl) (vA (vi (n := ((c.blocks.getD kz.toNat default).ins.length : Int) - 1) (by omega)) trivial)) rfl fun _ => ?_
     obtain ⟨hz, j2, c0⟩ := SF.shut0 nn (ci) e6 (q := 4) (m := 8) (by decide) rfl rfl ei
     have j2 : HS _ _ _ [_, _, _, _, hz, _, _, _, []] _ := j2
     have oY := FAM.len c0
     refine aC (fun (mm : Nat) f H' => ∃ (sw : List U64) (iz : Int) (ar : Option Addr) (av : Nat) (ea : Fp) (F' : Fz), Fz.le n6 F' ∧ HS (Base.of H []) F' H' [hg, ap, ch, aq, hz, k7, k6, ea, []] R ∧ OS F' (.slice ar sw.length av) sw ea ∧ aT f [(1, (.pointer (some ⟨b1, 0, none⟩))), (2, (.slice J z.length O)), (3, (.slice T A.length V)), (4, (iI (c.blocks.length : Int))), (6, (.bool m2)), (7, (iI kz)), (8, (.pointer (some ⟨k0, 0, none⟩))), (11, (.slice ar sw.length av)), (12, (iI iz)), (38, (.bool mo)), (42, (.bool (decide ((0 : Int) ≤ kz)))), (49, d2), (50, d2), (51, (.slice k9 (bN (c.blocks.getD kz.toNat default)).length mA)), (52, (iI ((bN (c.blocks.getD kz.toNat default)).length : Int))), (53, (iI (q : Int))), (54, (.bool (decide ((q : Int) < ((bN (c.blocks.getD kz.toNat default)).length : Int))))), (74, d2)] ∧ mm = (iz + 1).toNat ∧ (sw.length = wds c) ∧ (∀ r, aF sw r = true ↔ tr ((c.blocks.getD kz.toNat default).ins.drop (iz + 1).toNat) (endS (c.blocks.getD kz.toNat default) (bI a0 kz.toNat)) r) ∧ (-1 ≤ iz ∧ iz < ((c.blocks.getD kz.toNat default).ins.length : Int))) _ ⟨mF, ((c.blocks.getD kz.toNat default).ins.length : Int) - 1, hl, hp, mD, _, fR, j2, (OS.norm h4), (agC rfl (agC rfl (agC rfl (agC rfl (agC rfl (agC rfl (agC rfl (agC (show Value.slice hl (a0.getD kz.toNat default).length hp = Value.slice hl mF.length hp by rw [OS.len' h4]) (agC rfl (agC rfl (agC rfl (agC rfl (agC rfl (agC rfl (agC rfl (agC rfl (agC rfl (agC rfl agN)))))))))))))))))), rfl, (by omega), (by exact tr_start (by omega) (fun r => Iff.rfl) (by assumption)), (by omega)⟩ ?_
     rintro pO qo qd ⟨sw, iz, ar, av, ea, n7, co, c6, hr, mq, rfl, hsw, htr, hiz⟩ nF
     refine aH _ mq (fun _ => ?_)
     clear mq
     replace hT := (hT.mono ci).mono co
     replace I := (I.mono ci).mono co
     replace U := (U.mono ci).mono co
     replace bb := (bb.mono ci).mono co
     replace a9 := SF.mono co a9
     replace c0 := SF.mono co c0
     refine ao 2 rfl ?_
     refine wR 1 [] 80 81 [] [(81, (.bool (decide ((0 : Int) ≤ iz))))] trivial rfl fun _ => ?_
     refine am 3 5 (v := (decide ((0 : Int) ≤ iz))) rfl rfl rfl rfl (fun lR => ?_) (fun lR => ?_)
     ·
      try simp only [BS] at lR
      have hvl : (∀ x ∈ bd ((c.blocks.getD kz.toNat default).ins.getD iz.toNat default), 0 ≤ x ∧ x < c.regs) ∧ (∀ x ∈ aQ ((c.blocks.getD kz.toNat default).ins.getD iz.toNat default), 0 ≤ x ∧ x < c.regs) ∧ ((c.blocks.getD kz.toNat default).ins.getD iz.toNat default).args.length ≤ 6 := gG (vF.ins kz.toNat hkn iz.toNat (show iz.toNat < (c.blocks.getD kz.toNat default).ins.length by omega))
      have pw := hvl.2.2
      refine ab ?_
      obtain ⟨lT, my⟩ := Sv.view (SR.sv bb c6)
      obtain ⟨ow, ox, oy, oz, oA, mQ⟩ := VInT.fx (my iz.toNat)
      let mZ : Value := (.agg ⟨[(iI ((c.blocks.getD kz.toNat default).ins.getD iz.toNat default).i.op), (iI ((c.blocks.getD kz.toNat default).ins.getD iz.toNat default).i.a), (iI ((c.blocks.getD kz.toNat default).ins.getD iz.toNat default).i.b), (iI ((c.blocks.getD kz.toNat default).ins.getD iz.toNat default).i.c), (iI ((c.blocks.getD kz.toNat default).ins.getD iz.toNat default).i.n), (.slice (cA (lT iz.toNat) 5) ((c.blocks.getD kz.toNat default).ins.getD iz.toNat default).args.length (cK (lT iz.toNat) 5))]⟩)
      refine wRo 6 0 [(2, .o (.slice (cA (c3 kz.toNat) 0) (c.blocks.getD kz.toNat default).ins.length (cK (c3 kz.toNat) 0))), (5, .o mZ)] 84 89 [] [(84, (.slice ar sw.length av)), (89, mZ)] (vA (ql 40 0 (HS.hc c6 (i := 5) rfl) rfl rfl) (vA (Sv.ix (j := iz) (SR.sv bb c6) (by omega) (by omega)) (vA (qn 47 0 6 (VInT.vw (my iz.toNat) (by omega)) rfl rfl rfl rfl) trivial))) rfl fun _ => ?_
      refine aD (az rfl rfl rfl) rfl rfl (mb.kj ex sw ((c.blocks.getD kz.toNat default).ins.getD iz.toNat default) (HS.callOwn c6 (i := 7) rfl) hr (by first | (dsimp only; omega) | omega) (by first | (dsimp only; omega) | omega) (by first | (dsimp only; omega) | omega) (by first | (dsimp only; omega) | omega) (by first | (dsimp only; omega) | omega) mQ hT (by first | omega | exact fun x hx => by have := hvl.1 x hx; omega | exact fun x hx => by have := hvl.2.1 x hx; omega) (by first | omega | exact fun x hx => by have := hvl.1 x hx; omega | exact fun x hx => by have := hvl.2.1 x hx; omega) (by first | omega | exact fun x hx => by have := hvl.1 x hx; omega | exact fun x hx => by have := hvl.2.1 x hx; omega) (by first | omega | exact fun x hx => by have := hvl.1 x hx; omega | exact fun x hx => by have := hvl.2.1 x hx; omega)) ?_
      rintro _ qe ⟨mG, mE, pT, np, g5, rfl, h5, o4, o8⟩
      replace g5 := HS.backOwn c6 (i := 7) rfl rfl (fun _ hb => hb) g5
      have g5 : HS _ _ _ [_, _, _, _, _, _, _, mE, _] _ := g5
      have pH := OS.len' h5
      refine ai 2 rfl ?_
      refine wR 1 [] 82 83 [12] [(12, (iI (iz - 1)))] (vA (vi (n := iz - 1) (by omega)) trivial) rfl fun _ => ?_
      refine nF _ _ _ ?_ ⟨mG, iz - 1, ar, av, mE, _, (fT (co) np), g5, (OS.norm h5), (agC rfl (agC rfl (agC rfl (agC rfl (agC rfl (agC rfl (agC rfl (agC (show Value.slice ar sw.length av = Value.slice ar mG.length av by rw [OS.len' h5]) (agC rfl (agC rfl (agC rfl (agC rfl (agC rfl (agC rfl (agC rfl (agC rfl (agC rfl (agC rfl agN)))))))))))))))))), rfl, (by omega), (by rw [show (iz - 1 + 1).toNat = iz.toNat by omega]; exact tr_next (by omega) (by rw [show iz.toNat + 1 = (iz + 1).toNat by omega]; exact htr) (by assumption)), (by omega)⟩
      omega
     ·
      try simp only [BS] at lR
      have kt : ∀ r, aF sw r = true ↔ inS (c.blocks.getD kz.toNat default) (bI a0 kz.toNat) r := fun r => by have := htr r; rwa [show (iz + 1).toNat = 0 by omega, List.drop_zero] at this
      refine ab ?_
      obtain ⟨oR, nB⟩ := Sv.view (OS.sv I c6 (i := 1) rfl)
      obtain ⟨nh, lX, kd, e3, l6⟩ := SF.open a9 c6 (q := 2) (i := kz.toNat) rfl (by omega)
      have kd : HS _ _ _ [_, _, nh, _, _, _, _, ea, _, lX] _ := kd
      have e3 : OS n7 (.slice (z.getD kz.toNat default).a (z.getD kz.toNat default).n (z.getD kz.toNat default).k) (a1.getD kz.toNat default) lX := e3
      have pI := OS.nlen e3
      refine wRo 5 0 [(3, .o (.slice (z.getD kz.toNat default).a (z.getD kz.toNat default).n (z.getD kz.toNat default).k))] 91 95 [] [(94, (.slice (z.getD kz.toNat default).a (z.getD kz.toNat default).n (z.getD kz.toNat default).k)), (95, (.slice ar sw.length av))] (vA (Sv.ix (j := kz) (OS.sv I c6 (i := 1) rfl) (by omega) (by omega)) (vA (ql 83 0 (vH (nB kz.toNat) (by omega)) rfl rfl) trivial)) rfl fun _ => ?_
      obtain ⟨pV, cv, hP, nv, po⟩ := OS.frz hr kd (i := 7) rfl
      have hP : HS _ _ _ [_, _, _, _, _, _, _, [], _, _] _ := hP
      replace hT := hT.mono cv
      replace e3 := e3.mono cv
      replace c0 := SF.mono cv c0
      refine aD (az rfl rfl rfl) rfl rfl (mb.union_c ex (a1.getD kz.toNat default) sw (HS.callOwn hP (i := 9) rfl) e3 nv hT (by omega) (by omega)) ?_
      rintro _ qf ⟨oo, mH, nS, pU, ec, e9, rfl, h6, o5, o9, pc, pe⟩
      replace e9 := HS.backOwn hP (i := 9) rfl rfl (fun _ hb => hb) e9
      have e9 : HS _ _ _ [_, _, _, _, _, _, _, _, _, nS] _ := e9
      replace I := (I.mono cv).mono ec
      replace U := (U.mono cv).mono ec
      replace c0 := SF.mono ec c0
      have pJ := OS.len' h6
      refine ai 1 rfl ?_
      refine am 0 2 (v := oo) rfl rfl rfl rfl (fun lS => ?_) (fun lS => ?_)
      ·
       try simp only [BS] at lS
       refine wR 2 [] 1 0 [6] [(6, (.bool true))] trivial rfl fun _ => ?_
       refine wR 1 [] 43 44 [7] [(7, (iI (kz - 1)))] (vA (vi (n := kz - 1) (by omega)) trivial) rfl fun _ => ?_
       obtain ⟨l4, ki, mr⟩ := SF.shut l6 (fT (cv) ec) e9 (q := 2) (m := 9) (by decide) rfl rfl h6
       have ki : HS _ _ _ [_, _, l4, _, _, _, _, _, _, []] _ := ki
       have oZ := FAM.len mr
       refine mz _ _ _ ?_ ⟨A, a0, z, a1.set kz.toNat mH, kz - 1, true, J, O, ap, T, V, aq, l4, hz, _, (fT (fT (fT (fT (fT (fT (f2) c4) eb) ci) co) cv) ec), (HS.sub ki (List.sublist_append_left _ _)), I, U, mr, c0, (agC rfl (agC rfl (agC rfl (agC rfl (agC rfl (agC rfl (agC rfl agN))))))), rfl, (by exact snd_in em hkn (by assumption) (by assumption) kt), (by omega), (by (intro h; cases h; done)), (by exact fun _ => cnt_t mT mu (cnt_more (by omega) (by assumption) (by assumption) (use4 (by assumption) (by assumption)))), (by (intro h; cases h; done))⟩
       omega
      ·
       try simp only [BS] at lS
       refine wR 1 [] 43 44 [7] [(7, (iI (kz - 1)))] (vA (vi (n := kz - 1) (by omega)) trivial) rfl fun _ => ?_
       obtain ⟨l5, kk, ms⟩ := SF.shut l6 (fT (cv) ec) e9 (q := 2) (m := 9) (by decide) rfl rfl h6
       have kk : HS _ _ _ [_, _, l5, _, _, _, _, _, _, []] _ := kk
       have o0 := FAM.len ms
       refine mz _ _ _ ?_ ⟨A, a0, z, a1.set kz.toNat mH, kz - 1, m2, J, O, ap, T, V, aq, l5, hz, _, (fT (fT (fT (fT (fT (fT (f2) c4) eb) ci) co) cv) ec), (HS.sub kk (List.sublist_append_left _ _)), I, U, ms, c0, (agC rfl (agC rfl (agC rfl (agC rfl (agC rfl (agC rfl (agC rfl agN))))))), rfl, (by exact snd_in em hkn (by assumption) (by assumption) kt), (by omega), (by exact keep0 (by assumption) (by assumption) mT), (by exact keep1 (by assumption) (by assumption) mu), (by (intro h; exact clk (cl_step hkn (fun b h1 => hcl h b (by omega)) mU hsall kt (use3 (by assumption) (by assumption)) (by assumption))))⟩
       omega
   ·
    try simp only [BS] at lr
    refine nD _ _ _ ?_ ⟨ha, he, z, a1, m2, J, O, ap, c7, dl, b6, b7, b9, _, (fT (hB) f2), f7, I, ey, c8, c9, (agC rfl (agC rfl (agC rfl (agC rfl (agC rfl agN))))), rfl, (by exact fd), (by exact fun h b hb => hcl h b (by omega) hb)⟩
    rw [hmo]; exact mea_lt mu (cnt_le fd.li fd.wi)
  ·
   try simp only [BS] at k3
   refine wR 1 [] 97 98 [2, 3] [(2, (.slice bl g6.length b2)), (3, (.slice b0 g9.length b3))] trivial rfl fun _ => ?_
   obtain ⟨pW, hC, kl, nq⟩ := SF.freeze es mv (q := 2) rfl
   have kl : HS _ _ _ [_, dn, _, ds, d1] _ := kl
   replace et := et.mono hC
   replace a2 := SF.mono hC a2
   obtain ⟨pX, hD, kn, nw, pq⟩ := OS.frz et kl (i := 1) rfl
   have kn : HS _ _ _ [_, [], _, _, _] _ := kn
   replace a2 := SF.mono hD a2
   have f4 := SR.rows nw (FAM.len es) (fun i hi => SR.mono hD (nq i hi))
   have nN := SR.len' f4
   have oD := SR.norm f4
   obtain ⟨pY, hY, kp, nr⟩ := SF.freeze a2 kn (q := 4) rfl
   have kp : HS _ _ _ [_, _, _, _, []] _ := kp
   replace ev := ((ev.mono hC).mono hD).mono hY
   obtain ⟨pZ, h3, kr, nx, pr⟩ := OS.frz ev kp (i := 3) rfl
   have kr : HS _ _ _ [_, _, _, [], _] _ := kr
   replace f4 := (f4.mono hY).mono h3
   have ik := SR.rows nx (FAM.len a2) (fun i hi => SR.mono h3 (nr i hi))
   have nO := SR.len' ik
   have oE := SR.norm ik
   refine ah ⟨.inr rfl, _, rfl, bl, b2, ep, b0, b3, hu, _, (fT (fT (fT (fT (fT (hA) hB) hC) hD) hY) h3), (HS.forget kr), (by simp only [nN, nO]; rfl), (SR.norm f4), (SR.norm ik), (by exact anF_of snd (cl (by assumption)))⟩
end Go.Proofs.YtlabedbmgmfbaaaDoor.mc
