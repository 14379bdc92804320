/-
 Live registers: the solution of the equations, by a symbolic run. No condition but that the function is valid.
-/
import Derived.Test.YtlabedbmgmfbaaaDoorZCMB
noncomputable section
namespace Go.Proofs.YtlabedbmgmfbaaaDoor.mc
open Go.R
set_option maxRecDepth 10000
set_option linter.unusedVariables false
open m1 m2 m3 m4 m5 m6 ma ml mb
theorem zset {l : List (List U64)} {k : Nat} {z : List U64} (h : ∀ j, j < k → l.getD j default = z) (hk : k < l.length) : ∀ j, j < k + 1 → (l.set k z).getD j default = z := fun j hj => by
 rw [eM]
 split
 ·
  rfl
 ·
  rename_i hq; exact h j (by omega)
theorem mem_at {l : List Int} {q : Nat} (h : q < l.length) : l.getD q 0 ∈ l := by
 rw [List.getD_eq_getElem?_getD, List.getElem?_eq_getElem h]; exact List.getElem_mem h
theorem succ_step {I O : List (List U64)} {k q : Nat} {s : List U64} {l : List Int} (hq : q < l.length) (hk : k < O.length) (h : ∀ t ∈ l.take q, ∀ r, bI I t.toNat r → bI O k r) (hb : ∀ i, aq s i = (aq (O.getD k default) i || aq (I.getD (l.getD q 0).toNat default) i)) : ∀ t ∈ l.take (q + 1), ∀ r, bI I t.toNat r → bI (O.set k s) k r := by
 intro t ht r hr
 unfold bI
 rw [eM, if_pos ⟨rfl, hk⟩, hb, Bool.or_eq_true]
 rw [dV hq (d := 0), List.mem_append, List.mem_singleton] at ht
 rcases ht with ht | rfl
 ·
  exact .inl (h t ht r hr)
 ·
  exact .inr hr
theorem tr_start {b : BlkT} {S : Nat → Prop} {s z : List U64} {n : Nat} (hn : b.ins.length ≤ n) (hs : ∀ r, aq s r = true ↔ S r) (h : ∀ i, aq z i = (aq s i || decide ((i : Int) ∈ kQ b))) (r : Nat) : aq z r = true ↔ tr (b.ins.drop n) (endS b S) r := by
 rw [List.drop_of_length_le hn, h, Bool.or_eq_true, hs, decide_eq_true_eq]; exact Iff.rfl
theorem cl_step {c : VFnT} {I O A : List (List U64)} {s z : List U64} {k : Nat} (hk : k < c.blocks.length) (hcl : ∀ b : Nat, (k : Int) < (b : Int) → b < c.blocks.length → Cl1 c I O b) (ho : ∀ j, j ≠ k → A.getD j default = O.getD j default) (hs : ∀ t ∈ aT (cC c k), ∀ r, bI I t.toNat r → bI A k r)
  (ht : ∀ r, aq s r = true ↔ inS (cC c k) (bI A k) r) (hz : z = I.getD k default) (hb : ∀ i, aq z i = (aq (I.getD k default) i || aq s i)) : ∀ b : Nat, (k : Int) - 1 < (b : Int) → b < c.blocks.length → Cl1 c (I.set k z) A b := by
 intro b T N
 rw [hz, d7]
 by_cases e : b = k
 ·
  subst e
  refine ⟨hs, fun r hr => ?_⟩
  have := hb r
  rw [hz] at this
  unfold bI
  rw [this, (ht r).2 hr, Bool.or_true]
 ·
  have J := hcl b (by omega) N
  have E : bI A b = bI O b := by unfold bI; rw [ho b e]
  exact ⟨fun t ht r hr => by rw [E]; exact J.1 t ht r hr, fun r hr => J.2 r (by rw [E] at hr; exact hr)⟩
theorem cnt_t {m2 : Bool} {A B D : List (List U64)} (h0 : m2 = false → B = A) (z : m2 = true → kT A < kT B) (h : kT B < kT D) : kT A < kT D := by
 cases m2 with
 | false => rw [h0 rfl] at h; exact h
 | true => have := z rfl; omega
theorem keep0 {m2 r : Bool} {A B : List (List U64)} {k : Nat} {z : List U64} (E : r = false → z = B.getD k default) (hr : r = false) (h0 : m2 = false → B = A) : m2 = false → B.set k z = A := fun h => by rw [E hr, d7]; exact h0 h
theorem keep1 {m2 r : Bool} {A B : List (List U64)} {k : Nat} {z : List U64} (J : r = false → z = B.getD k default) (hr : r = false) (E : m2 = true → kT A < kT B) : m2 = true → kT A < kT (B.set k z) := fun h => by rw [J hr, d7]; exact E h
theorem use3 {α : Prop} {r : Bool} (h : r = false → α) (hr : r = false) : α := h hr
theorem use4 {α : Prop} {r : Bool} (h : r = true → α) (hr : r = true) : α := h hr
theorem succ_len {b : BlkT} : (aT b).length ≤ 2 := by
 unfold aT
 split
 ·
  simp
 ·
  split
  ·
   exact ins_len
  ·
   simp
theorem wd_le {c : VFnT} (h : 0 ≤ c.regs ∧ c.regs ≤ 3000) : c.regs ≤ 64 * ((wds c : Nat) : Int) ∧ wds c ≤ 48 := by
 unfold wds
 rw [Int.tdiv_eq_ediv_of_nonneg (by omega)]; omega
set_option maxHeartbeats 2000000 in
theorem jC (ex : FuncId) {f4 : Option Addr} {g8 : Nat} (c : VFnT) {F : Fz} {H : Heap} {R : List Fp} (hs : HS (.of H []) F H [] R) (oR : in64 c.params) (oT : in64 c.regs) (c0 : SR F (.slice f4 c.blocks.length g8) c.blocks) (hT : TB 37 tabC F) (hval : b8 c = true) (hins : ∀ j, (c.blocks.getD j default).ins.length ≤ 1099511627776) : C Tryd.prog 1 (KT 60 ex 37 tabC) 51 [(.agg ⟨[(iI c.params), (iI c.regs), (.slice f4 c.blocks.length g8)]⟩)] H fun v H' => ∃ (ail : Option Addr) (kil : Nat) (il : List (List U64)) (aol : Option Addr) (kol : Nat) (ol : List (List U64)) (F' : Fz), Fz.le F F' ∧ HS (.of H []) F' H' [] R ∧ v = .tuple ⟨[.slice ail il.length kil, .slice aol ol.length kol]⟩ ∧ SR F' (.slice ail il.length kil) il ∧ SR F' (.slice aol ol.length kol) ol ∧ (AnF c il ol) := by
 have vF := jF hval
 have hnb := vF.nb
 have hrg := vF.regs
 have hwd := wd_le hrg
 refine aG Tryd.func51 rfl rfl ?_
 refine aj 1 rfl ?_
 refine aa ?_
 refine aF (bB hs rfl rfl) rfl rfl ?_
 rintro _ H2 _ ⟨b1, rfl, h5, _⟩
 let hh : Fp := [(b1, .cells [(iI c.params), (iI c.regs), (.slice f4 c.blocks.length g8)] none false)]
 have h5 : HS _ _ _ [hh] _ := h5
 refine wRo 2 1 [] 1 0 [2, 3] [(2, (.slice none 0 0)), (3, (.slice none 0 0))] trivial rfl fun _ => ?_
 refine ae 2 rfl ?_
 refine wR 2 [(1, .o (.slice f4 c.blocks.length g8))] 13 15 [4] [(4, (iI (c.blocks.length : Int)))] (vA (ql 22 2 (HS.hc h5 (i := 0) rfl) rfl rfl) trivial) rfl fun _ => ?_
 refine bc rfl ?_
 refine fm (iI (c.blocks.length : Int)) rfl rfl rfl ?_
 refine dC (id := .x []) (fG (default : Hd) h5.log0 rfl rfl rfl rfl rfl rfl rfl rfl rfl rfl (by omega) (by omega)) rfl rfl (by rintro _ _ p5 ⟨a5, k5, rfl, mD, _, hwr⟩; exact dP rfl rfl (Wr.did hwr)) (⟨.inl rfl, trivial⟩) ?_
 rintro _ H6 p5 ⟨a5, k5, rfl, mD, hn, _⟩ nS mW
 replace hn := HS.lg hn h5 mW
 generalize ({ H6 with log := nS } : Heap) = pH at hn ⊢
 have hn : HS _ _ _ [_, p5] _ := hn
 have kx := HS.snoc hn
 have kx : HS _ _ _ [_, _, []] _ := kx
 have mC : SF F (List.replicate c.blocks.length (default : Hd)) (List.replicate c.blocks.length ([] : List U64)) [] := SF.rep _
 have pU := FAM.len mC
 refine fm (iI (c.blocks.length : Int)) rfl rfl rfl ?_
 refine dC (id := .x []) (fG (default : Hd) kx.log0 rfl rfl rfl rfl rfl rfl rfl rfl rfl rfl (by omega) (by omega)) rfl rfl (by rintro _ _ p8 ⟨a8, k8, rfl, mE, _, hwr⟩; exact dP rfl rfl (Wr.did hwr)) (⟨.inl rfl, ⟨.inr ⟨trivial, trivial⟩, ⟨.inr trivial, trivial⟩⟩⟩) ?_
 rintro _ H9 p8 ⟨a8, k8, rfl, mE, hp, _⟩ nT mX
 replace hp := HS.lg hp kx mX
 generalize ({ H9 with log := nT } : Heap) = pN at hp ⊢
 have hp : HS _ _ _ [_, _, _, p8] _ := hp
 have i3 := HS.snoc hp
 have i3 : HS _ _ _ [_, _, _, _, []] _ := i3
 have lN : SF F (List.replicate c.blocks.length (default : Hd)) (List.replicate c.blocks.length ([] : List U64)) [] := SF.rep _
 have ox := FAM.len lN
 refine fa (.slice a5 (List.replicate c.blocks.length (default : Hd)).length k5) rfl rfl rfl ?_
 refine fa (.slice a8 (List.replicate c.blocks.length (default : Hd)).length k8) rfl rfl rfl ?_
 refine cz ?_
 refine aj 3 rfl ?_
 refine wR 2 [] 20 22 [] [(21, (iI ((List.replicate c.blocks.length (default : Hd)).length : Int))), (22, (iI 0))] trivial rfl fun _ => ?_
 refine ap (fun (mm : Nat) f H' => ∃ (oh : List Hd) (ol : List (List U64)) (ih : List Hd) (il : List (List U64)) (k : Nat) (Y : Option Addr) (ad : Nat) (b0 : Fp) (Z : Option Addr) (al : Nat) (b2 : Fp) (dl : Fp) (dn : Fp) (F' : Fz), Fz.le F F' ∧ HS (Base.of H []) F' H' [hh, b0, dl, b2, dn] R ∧ OS F' (.slice Y ih.length ad) ih b0 ∧ OS F' (.slice Z oh.length al) oh b2 ∧ SF F' ih il dl ∧ SF F' oh ol dn ∧ aI f [(1, (.pointer (some ⟨b1, 0, none⟩))), (2, (.slice Y ih.length ad)), (3, (.slice Z oh.length al)), (4, (iI (c.blocks.length : Int))), (21, (iI ((List.replicate c.blocks.length (default : Hd)).length : Int))), (22, (iI (k : Int)))] ∧ mm = c.blocks.length - k ∧ (il.length = c.blocks.length) ∧ (ol.length = c.blocks.length) ∧ (∀ j, j < k → il.getD j default = List.replicate (wds c) ⟨0⟩) ∧ (∀ j, j < k → ol.getD j default = List.replicate (wds c) ⟨0⟩) ∧ (k ≤ c.blocks.length)) _ ⟨List.replicate c.blocks.length (default : Hd), List.replicate c.blocks.length ([] : List U64), List.replicate c.blocks.length (default : Hd), List.replicate c.blocks.length ([] : List U64), 0, a5, k5, p5, a8, k8, p8, [], [], _, fR, i3, mD, mE, mC, lN, (agC rfl (agC rfl (agC rfl (agC rfl (agC rfl (agC rfl agN)))))), rfl, (by simp), (by simp), (by intro j hj; omega), (by intro j hj; omega), (by first | assumption | omega | (simp at *; omega))⟩ ?_
 rintro pg pP pz ⟨oh, ol, ih, il, k, Y, ad, b0, Z, al, b2, dl, dn, nH, hB, f9, c7, c8, a3, a4, lO, rfl, li, lo, zi, zo, hk⟩ ng
 refine au _ lO (fun _ => ?_)
 clear lO
 replace hT := hT.mono hB
 replace c0 := c0.mono hB
 have nz := FAM.len a3
 have nA := FAM.len a4
 have hrl : (List.replicate c.blocks.length (default : Hd)).length = c.blocks.length := List.length_replicate
 refine aj 1 rfl ?_
 refine wR 2 [] 23 23 [] [(23, (.bool (decide ((k : Int) < ((List.replicate c.blocks.length (default : Hd)).length : Int)))))] trivial rfl fun _ => ?_
 refine ak 4 6 (v := (decide ((k : Int) < ((List.replicate c.blocks.length (default : Hd)).length : Int)))) rfl rfl rfl rfl (fun k4 => ?_) (fun k4 => ?_)
 ·
  try simp only [BS] at k4
  refine wR 1 [] 24 24 [5] [(5, (iI (k : Int)))] trivial rfl fun _ => ?_
  refine bc rfl ?_
  refine fm (.slice Y ih.length ad) rfl rfl rfl ?_
  refine fm (iI (k : Int)) rfl rfl rfl ?_
  refine fm (.slice Z oh.length al) rfl rfl rfl ?_
  refine fm (iI (k : Int)) rfl rfl rfl ?_
  refine am (v := (.pointer (some ⟨b1, 1, none⟩))) (id := .v) (dA rfl rfl) rfl rfl (br rfl) (be _) ?_
  refine am (v := (iI c.regs)) (id := .l b1) (bN (i := 1) rfl rfl (HS.hc f9.log0 (i := 0) rfl) rfl rfl) rfl rfl (bT rfl) (⟨.inl rfl, ⟨.inr trivial, ⟨.inr trivial, ⟨.inr trivial, ⟨.inr trivial, trivial⟩⟩⟩⟩⟩) ?_
  refine aX (W := []) (ah rfl rfl rfl) rfl rfl rfl (mb.empty_c ex c.regs (HS.call f9.log0) (by omega) hT (by omega)) (⟨.inl rfl, ⟨.inl rfl, ⟨.inr trivial, ⟨.inr trivial, ⟨.inr trivial, ⟨.inr trivial, trivial⟩⟩⟩⟩⟩⟩) ?_
  rintro _ nM ⟨hw, hX, pX, nU, pl, e3, a1, rfl, hM, rfl⟩
  refine ⟨Wr.did a1.log, fun nm mq => ?_⟩
  replace a1 := HS.back f9.log0 rfl a1
  replace a1 := HS.lg a1 f9 mq
  generalize ({ nM with log := nm } : Heap) = od at a1 ⊢
  have a1 : HS _ _ _ [_, b0, dl, b2, dn, nU] _ := a1
  replace hT := hT.mono e3
  replace a3 := SF.mono e3 a3
  replace a4 := SF.mono e3 a4
  refine am (v := (.pointer (some ⟨b1, 1, none⟩))) (id := .v) (dA rfl rfl) rfl rfl (br rfl) (be _) ?_
  refine am (v := (iI c.regs)) (id := .l b1) (bN (i := 1) rfl rfl (HS.hc a1.log0 (i := 0) rfl) rfl rfl) rfl rfl (bT rfl) (⟨.inl rfl, ⟨.inr List.not_mem_nil, ⟨.inr trivial, ⟨.inr trivial, ⟨.inr trivial, ⟨.inr trivial, ⟨.inr trivial, ⟨.inr trivial, trivial⟩⟩⟩⟩⟩⟩⟩⟩) ?_
  refine aX (W := []) (ah rfl rfl rfl) rfl rfl rfl (mb.empty_c ex c.regs (HS.call a1.log0) (by omega) hT (by omega)) (⟨.inl rfl, ⟨.inl rfl, ⟨.inl rfl, ⟨.inl rfl, ⟨.inl rfl, ⟨.inr trivial, ⟨.inr trivial, ⟨.inr trivial, ⟨.inr trivial, trivial⟩⟩⟩⟩⟩⟩⟩⟩⟩) ?_
  rintro _ nN ⟨hz, hY, pY, nV, mB, e4, a9, rfl, my, rfl⟩
  refine ⟨Wr.did a9.log, fun nn mr => ?_⟩
  replace a9 := HS.back a1.log0 rfl a9
  replace a9 := HS.lg a9 a1 mr
  generalize ({ nN with log := nn } : Heap) = oe at a9 ⊢
  have a9 : HS _ _ _ [_, _, _, _, _, _, nV] _ := a9
  replace hM := hM.mono e4
  replace c7 := (c7.mono e3).mono e4
  replace c8 := (c8.mono e3).mono e4
  replace a3 := SF.mono e4 a3
  replace a4 := SF.mono e4 a4
  refine am (v := (.pointer (some ⟨sB (.slice Y ih.length ad), sO (.slice Y ih.length ad) + k * Rp.sz Hd, none⟩))) (id := .v) (bU (α := Hd) (j := (k : Int)) rfl rfl rfl rfl (OS.sv c7 a9.log0 (i := 1) rfl) (by omega) (by omega)) rfl rfl (br rfl) (be _) ?_
  obtain ⟨mK, lv, ja, it, mO⟩ := SF.open a3 a9 (q := 2) (i := k) rfl (by omega)
  have ja : HS _ _ _ [_, _, mK, _, _, _, _, lv] _ := ja
  have it : OS mB (.slice (ih.getD k default).a (ih.getD k default).n (ih.getD k default).k) (il.getD k default) lv := it
  have o5 := OS.nlen it
  obtain ⟨lF, hQ, lP⟩ := SF.shutN (⟨hw, (List.replicate (Int.tdiv (c.regs + 63) 64).toNat (⟨0⟩ : U64)).length, hX⟩ : Hd) mO fR ja (q := 2) (m := 5) (by decide) rfl rfl hM
  have hQ : HS _ _ _ [_, _, lF, _, _, [], _, _] _ := hQ
  have oy := FAM.len lP
  refine ku (id := .x (b0.map Prod.fst)) (du (α := Hd) (j := k) (off := 0) (q := 1) (⟨hw, (List.replicate (Int.tdiv (c.regs + 63) 64).toNat (⟨0⟩ : U64)).length, hX⟩ : Hd) c7 hQ.log0 rfl rfl rfl rfl rfl rfl rfl rfl (aS (x := default) (by omega)) rfl (by rintro cs rfl; exact ⟨Nat.le_of_ble_eq_true rfl, rfl⟩)) rfl (by rintro _ _ l6 ⟨hH, _, hwr⟩; exact dP rfl rfl (Wr.did hwr)) (⟨.inl rfl, ⟨.inl rfl, ⟨.inl rfl, ⟨.inl rfl, ⟨.inl rfl, ⟨.inl rfl, ⟨.inl rfl, ⟨.inr trivial, ⟨.inr trivial, ⟨.inl rfl, ⟨.inl rfl, trivial⟩⟩⟩⟩⟩⟩⟩⟩⟩⟩⟩) ?_
  rintro _ nO l6 ⟨hH, d4, _⟩ np ms
  replace d4 := HS.lg d4 hQ ms
  generalize ({ nO with log := np } : Heap) = og at d4 ⊢
  have d4 : HS _ _ _ [_, l6, _, _, _, _, _, _] _ := d4
  have n8 := OS.len' hH
  refine am (v := (.pointer (some ⟨sB (.slice Z oh.length al), sO (.slice Z oh.length al) + k * Rp.sz Hd, none⟩))) (id := .v) (bU (α := Hd) (j := (k : Int)) rfl rfl rfl rfl (OS.sv c8 d4.log0 (i := 3) rfl) (by omega) (by omega)) rfl rfl (br rfl) (be _) ?_
  obtain ⟨mL, lA, jb, iv, mP⟩ := SF.open a4 d4 (q := 4) (i := k) rfl (by omega)
  have jb : HS _ _ _ [_, _, _, _, mL, _, _, _, lA] _ := jb
  have iv : OS mB (.slice (oh.getD k default).a (oh.getD k default).n (oh.getD k default).k) (ol.getD k default) lA := iv
  have o6 := OS.nlen iv
  obtain ⟨lG, hR, lQ⟩ := SF.shutN (⟨hz, (List.replicate (Int.tdiv (c.regs + 63) 64).toNat (⟨0⟩ : U64)).length, hY⟩ : Hd) mP fR jb (q := 4) (m := 6) (by decide) rfl rfl my
  have hR : HS _ _ _ [_, _, _, _, lG, _, [], _, _] _ := hR
  have oz := FAM.len lQ
  refine ku (id := .x (b2.map Prod.fst)) (du (α := Hd) (j := k) (off := 0) (q := 3) (⟨hz, (List.replicate (Int.tdiv (c.regs + 63) 64).toNat (⟨0⟩ : U64)).length, hY⟩ : Hd) c8 hR.log0 rfl rfl rfl rfl rfl rfl rfl rfl (aS (x := default) (by omega)) rfl (by rintro cs rfl; exact ⟨Nat.le_of_ble_eq_true rfl, rfl⟩)) rfl (by rintro _ _ l7 ⟨hI, _, hwr⟩; exact dP rfl rfl (Wr.did hwr)) (⟨.inl rfl, ⟨.inl rfl, ⟨.inl rfl, ⟨.inl rfl, ⟨.inl rfl, ⟨.inl rfl, ⟨.inl rfl, ⟨.inl rfl, ⟨.inl rfl, ⟨.inl rfl, ⟨.inl rfl, ⟨.inl rfl, ⟨.inl rfl, trivial⟩⟩⟩⟩⟩⟩⟩⟩⟩⟩⟩⟩⟩) ?_
  rintro _ nP l7 ⟨hI, e6, _⟩ nq mu
  replace e6 := HS.lg e6 hR mu
  generalize ({ nP with log := nq } : Heap) = oi at e6 ⊢
  have e6 : HS _ _ _ [_, _, _, l7, _, _, _, _, _] _ := e6
  have n9 := OS.len' hI
  refine cz ?_
  refine aj 2 rfl ?_
  refine wR 1 [] 22 22 [37] [(22, (iI ((k : Int) + 1)))] (vA (vi (n := (k : Int) + 1) (by omega)) trivial) rfl fun _ => ?_
  refine ng _ _ _ ?_ ⟨oh.set k (⟨hz, (List.replicate (Int.tdiv (c.regs + 63) 64).toNat (⟨0⟩ : U64)).length, hY⟩ : Hd), ol.set k (List.replicate (Int.tdiv (c.regs + 63) 64).toNat (⟨0⟩ : U64)), ih.set k (⟨hw, (List.replicate (Int.tdiv (c.regs + 63) 64).toNat (⟨0⟩ : U64)).length, hX⟩ : Hd), il.set k (List.replicate (Int.tdiv (c.regs + 63) 64).toNat (⟨0⟩ : U64)), k + 1, Y, ad, l6, Z, al, l7, lF, lG, _, (fT (fT (hB) e3) e4), (HS.sub e6 (List.sublist_append_left _ _)), (OS.norm hH), (OS.norm hI), lP, lQ, (agC rfl (agC (show Value.slice Y ih.length ad = Value.slice Y (ih.set k (⟨hw, (List.replicate (Int.tdiv (c.regs + 63) 64).toNat (⟨0⟩ : U64)).length, hX⟩ : Hd)).length ad by rw [OS.len' hH]) (agC (show Value.slice Z oh.length al = Value.slice Z (oh.set k (⟨hz, (List.replicate (Int.tdiv (c.regs + 63) 64).toNat (⟨0⟩ : U64)).length, hY⟩ : Hd)).length al by rw [OS.len' hI]) (agC rfl (agC rfl (agC rfl agN)))))), rfl, (by rw [List.length_set]; exact li), (by rw [List.length_set]; exact lo), (by exact zset zi (by omega)), (by exact zset zo (by omega)), (by first | assumption | omega | (simp at *; omega))⟩
  omega
 ·
  try simp only [BS] at k4
  refine wR 2 [] 1 0 [6] [(6, (.bool true))] trivial rfl fun _ => ?_
  refine ap (fun (mm : Nat) f H' => ∃ (ha : List Hd) (hv : List (List U64)) (g7 : List Hd) (em : List (List U64)) (mo : Bool) (bb : Option Addr) (bl : Nat) (dd : Fp) (bk : Option Addr) (bz : Nat) (dk : Fp) (e1 : Fp) (ds : Fp) (F' : Fz), Fz.le nH F' ∧ HS (Base.of H []) F' H' [hh, dd, e1, dk, ds] R ∧ OS F' (.slice bb g7.length bl) g7 dd ∧ OS F' (.slice bk ha.length bz) ha dk ∧ SF F' g7 em e1 ∧ SF F' ha hv ds ∧ aI f [(1, (.pointer (some ⟨b1, 0, none⟩))), (2, (.slice bb g7.length bl)), (3, (.slice bk ha.length bz)), (4, (iI (c.blocks.length : Int))), (6, (.bool mo))] ∧ mm = mea mo (c.blocks.length * (64 * wds c)) (kT em) ∧ (Snd c em hv) ∧ (mo = false → ∀ b, b < c.blocks.length → Cl1 c em hv b)) _ ⟨oh, ol, ih, il, true, Y, ad, b0, Z, al, b2, dl, dn, _, fR, f9, c7, c8, a3, a4, (agC rfl (agC rfl (agC rfl (agC rfl (agC rfl agN))))), rfl, (by exact snd_start li lo (fun j hj => zi j (by omega)) (fun j hj => zo j (by omega))), (by intro h; cases h)⟩ ?_
  rintro ph pQ pA ⟨ha, hv, g7, em, mo, bb, bl, dd, bk, bz, dk, e1, ds, nI, hC, l0, et, ez, es, a0, lR, rfl, snd, cl⟩ nh
  refine au _ lR (fun _ => ?_)
  clear lR
  replace hT := hT.mono hC
  replace c0 := c0.mono hC
  have nB := FAM.len es
  have nC := FAM.len a0
  have hli := snd.li
  have hlo := snd.lo
  refine aj 2 rfl ?_
  refine wR 1 [] 38 38 [] [(38, (.bool mo))] trivial rfl fun _ => ?_
  refine ak 3 5 (v := mo) rfl rfl rfl rfl (fun kr => ?_) (fun kr => ?_)
  ·
   try simp only [BS] at kr
   have hmo := kr
   refine wR 2 [] 1 0 [6] [(6, (.bool false))] trivial rfl fun _ => ?_
   refine wR 2 [] 39 40 [7] [(7, (iI ((c.blocks.length : Int) - 1)))] (vA (vi (n := (c.blocks.length : Int) - 1) (by omega)) trivial) rfl fun _ => ?_
   refine ap (fun (mm : Nat) f H' => ∃ (he : List Hd) (hg : List (List U64)) (z : List Hd) (ay : List (List U64)) (kz : Int) (m2 : Bool) (J : Option Addr) (N : Nat) (an : Fp) (c4 : Option Addr) (c9 : Nat) (b3 : Fp) (b4 : Fp) (b5 : Fp) (F' : Fz), Fz.le nI F' ∧ HS (Base.of H []) F' H' [hh, an, b4, b3, b5] R ∧ OS F' (.slice J z.length N) z an ∧ OS F' (.slice c4 he.length c9) he b3 ∧ SF F' z ay b4 ∧ SF F' he hg b5 ∧ aI f [(1, (.pointer (some ⟨b1, 0, none⟩))), (2, (.slice J z.length N)), (3, (.slice c4 he.length c9)), (4, (iI (c.blocks.length : Int))), (6, (.bool m2)), (7, (iI kz)), (38, (.bool mo))] ∧ mm = (kz + 1).toNat ∧ (Snd c ay hg) ∧ (-1 ≤ kz ∧ kz < (c.blocks.length : Int)) ∧ (m2 = false → ay = em) ∧ (m2 = true → kT em < kT ay) ∧ (m2 = false → ∀ b : Nat, kz < (b : Int) → b < c.blocks.length → Cl1 c ay hg b)) _ ⟨ha, hv, g7, em, (c.blocks.length : Int) - 1, false, bb, bl, dd, bk, bz, dk, e1, ds, _, fR, l0, et, ez, es, a0, (agC rfl (agC rfl (agC rfl (agC rfl (agC rfl (agC rfl (agC rfl agN))))))), rfl, (by exact snd), (by first | assumption | omega | (simp at *; omega)), (by exact fun _ => rfl), (by intro h; cases h), (by intro _ b h1 h2; omega)⟩ ?_
   rintro pi pR pB ⟨he, hg, z, ay, kz, m2, J, N, an, c4, c9, b3, b4, b5, pm, f5, go, E, e0, c5, c6, lS, rfl, f1, hkz, kt, h4, hcl⟩ l4
   refine au _ lS (fun _ => ?_)
   clear lS
   replace hT := hT.mono f5
   replace c0 := c0.mono f5
   have nD := FAM.len c5
   have nE := FAM.len c6
   have oU := f1.li
   have oV := f1.lo
   refine aj 2 rfl ?_
   refine wR 1 [] 41 42 [] [(42, (.bool (decide ((0 : Int) ≤ kz))))] trivial rfl fun _ => ?_
   refine ak 4 5 (v := (decide ((0 : Int) ≤ kz))) rfl rfl rfl rfl (fun k6 => ?_) (fun k6 => ?_)
   ·
    try simp only [BS] at k6
    have hkn : kz.toNat < c.blocks.length := by omega
    have hbl := hins kz.toNat
    have hfn : ((c.blocks.getD kz.toNat default).fin = 2 ∨ (c.blocks.getD kz.toNat default).fin = 3) → 0 ≤ (c.blocks.getD kz.toNat default).reg ∧ (c.blocks.getD kz.toNat default).reg < c.regs := vF.fin kz.toNat hkn
    have clk : ∀ {Q : Nat → Prop}, (∀ b : Nat, ((kz.toNat : Nat) : Int) - 1 < (b : Int) → Q b) → ∀ b : Nat, kz - 1 < (b : Int) → Q b := fun h b hb => h b (by omega)
    refine aa ?_
    obtain ⟨ci, l1⟩ := Sv.view (SR.sv c0 go)
    obtain ⟨nY, nZ, n1, n2, a7⟩ := BlkT.fx (l1 kz.toNat)
    let dt : Value := (.agg ⟨[(.slice (cA (ci kz.toNat) 0) (c.blocks.getD kz.toNat default).ins.length (cK (ci kz.toNat) 0)), (iI (c.blocks.getD kz.toNat default).fin), (iI (c.blocks.getD kz.toNat default).reg), (iI (c.blocks.getD kz.toNat default).tgt), (iI (c.blocks.getD kz.toNat default).els)]⟩)
    refine wRo 5 0 [(1, .o (.slice f4 c.blocks.length g8)), (4, .o dt)] 45 49 [] [(49, dt)] (vA (ql 22 2 (HS.hc go (i := 0) rfl) rfl rfl) (vA (Sv.ix (j := kz) (SR.sv c0 go) (by omega) (by omega)) (vA (qn 42 0 5 (BlkT.vw (l1 kz.toNat) (by omega)) rfl rfl rfl rfl) trivial))) rfl fun _ => ?_
    refine aF (bE go rfl) rfl rfl ?_
    rintro _ pC _ ⟨kn, rfl, jc, _⟩
    have jc : HS _ _ _ [_, an, b4, b3, b5, [(kn, .cells [(.slice none 0 0), (iI 0), (iI 0), (iI 0), (iI 0)] none false)]] _ := jc
    refine aM (aD (q := 5) jc rfl rfl rfl rfl rfl rfl rfl rfl rfl) rfl ?_
    rintro _ pD _ ⟨g0, _⟩
    let k0 : Fp := [(kn, .cells [(.slice (cA (ci kz.toNat) 0) (c.blocks.getD kz.toNat default).ins.length (cK (ci kz.toNat) 0)), (iI (c.blocks.getD kz.toNat default).fin), (iI (c.blocks.getD kz.toNat default).reg), (iI (c.blocks.getD kz.toNat default).tgt), (iI (c.blocks.getD kz.toNat default).els)] none false)]
    have g0 : HS _ _ _ [_, _, _, _, _, k0] _ := g0
    refine ae 3 rfl ?_
    refine aa ?_
    refine wRo 1 0 [(0, .o dt)] 50 50 [] [(50, dt)] (vA (qn 42 0 5 (HS.hc g0 (i := 5) rfl) rfl rfl rfl rfl) trivial) rfl fun _ => ?_
    refine aA (ah rfl rfl rfl) rfl rfl (ma.vsucc_c ex (c.blocks.getD kz.toNat default) (HS.call g0) a7 (by omega) (by omega) (by omega) (by omega) hT) ?_
    rintro _ pE ⟨k3, l5, pZ, ky, nJ, co, g1, rfl, f2, rfl⟩
    replace g1 := HS.back g0 rfl g1
    have g1 : HS _ _ _ [_, _, _, _, _, _, ky] _ := g1
    replace e0 := e0.mono co
    replace c5 := SF.mono co c5
    replace c6 := SF.mono co c6
    refine wRo 2 2 [] 52 53 [] [(52, (iI ((aT (c.blocks.getD kz.toNat default)).length : Int))), (53, (iI 0))] trivial rfl fun _ => ?_
    refine ae 2 rfl ?_
    refine ap (fun (mm : Nat) f H' => ∃ (A : List Hd) (ax : List (List U64)) (q : Nat) (T : Option Addr) (V : Nat) (ar : Fp) (e2 : Fp) (b6 : Fp) (F' : Fz), Fz.le nJ F' ∧ HS (Base.of H []) F' H' [hh, an, b6, ar, e2, k0, ky] R ∧ OS F' (.slice T A.length V) A ar ∧ SF F' A ax e2 ∧ SF F' z ay b6 ∧ aI f [(1, (.pointer (some ⟨b1, 0, none⟩))), (2, (.slice J z.length N)), (3, (.slice T A.length V)), (4, (iI (c.blocks.length : Int))), (6, (.bool m2)), (7, (iI kz)), (8, (.pointer (some ⟨kn, 0, none⟩))), (38, (.bool mo)), (42, (.bool (decide ((0 : Int) ≤ kz)))), (49, dt), (50, dt), (51, (.slice k3 (aT (c.blocks.getD kz.toNat default)).length l5)), (52, (iI ((aT (c.blocks.getD kz.toNat default)).length : Int))), (53, (iI (q : Int)))] ∧ mm = (aT (c.blocks.getD kz.toNat default)).length - q ∧ (Snd c ay ax) ∧ (q ≤ (aT (c.blocks.getD kz.toNat default)).length) ∧ (∀ j, j ≠ kz.toNat → ax.getD j default = hg.getD j default) ∧ (∀ t ∈ (aT (c.blocks.getD kz.toNat default)).take q, ∀ r, bI ay t.toNat r → bI ax kz.toNat r)) _ ⟨he, hg, 0, c4, c9, b3, b5, b4, _, fR, g1, e0, c6, c5, (agC rfl (agC rfl (agC rfl (agC rfl (agC rfl (agC rfl (agC rfl (agC rfl (agC rfl (agC rfl (agC rfl (agC rfl (agC rfl (agC rfl agN)))))))))))))), rfl, (by exact f1), (by first | assumption | omega | (simp at *; omega)), (by exact fun _ _ => rfl), (by intro t ht; cases ht)⟩ ?_
    rintro pj pS pF ⟨A, ax, q, T, V, ar, e2, b6, h3, d1, fd, U, g9, a6, lT, rfl, ea, hq, lZ, mF⟩ ni
    refine au _ lT (fun _ => ?_)
    clear lT
    replace hT := (hT.mono co).mono d1
    replace f2 := f2.mono d1
    replace E := (E.mono co).mono d1
    replace a7 := (a7.mono co).mono d1
    have nG := FAM.len g9
    have nF := FAM.len a6
    have o0 := succ_len (b := (c.blocks.getD kz.toNat default))
    have oW := ea.lo
    have o4 := ea.wo kz.toNat hkn
    refine aj 1 rfl ?_
    refine wR 2 [] 54 54 [] [(54, (.bool (decide ((q : Int) < ((aT (c.blocks.getD kz.toNat default)).length : Int)))))] trivial rfl fun _ => ?_
    refine ak 4 5 (v := (decide ((q : Int) < ((aT (c.blocks.getD kz.toNat default)).length : Int)))) rfl rfl rfl rfl (fun k7 => ?_) (fun k7 => ?_)
    ·
     try simp only [BS] at k7
     have hmem := mem_at (l := aT (c.blocks.getD kz.toNat default)) (q := q) (by omega)
     have hst := vF.succ kz.toNat hkn _ hmem
     have o2 := ea.wi ((aT (c.blocks.getD kz.toNat default)).getD q 0).toNat (by omega)
     obtain ⟨oq, l2⟩ := Sv.view (OS.sv f2 fd (i := 6) rfl)
     have pV := fI (l2 q)
     refine wR 1 [(1, .o (iI ((aT (c.blocks.getD kz.toNat default)).getD q 0)))] 55 56 [10] [(10, (iI ((aT (c.blocks.getD kz.toNat default)).getD q 0)))] (vA (Sv.ix (j := (q : Int)) (OS.sv f2 fd (i := 6) rfl) (by omega) (by omega)) (vA (ql 3 0 (vI (l2 q) (by omega)) rfl rfl) trivial)) rfl fun _ => ?_
     refine bc rfl ?_
     refine fm (.slice T A.length V) rfl rfl rfl ?_
     refine fm (iI kz) rfl rfl rfl ?_
     refine am (v := (.pointer (some ⟨sB (.slice T A.length V), sO (.slice T A.length V) + kz.toNat * Rp.sz Hd, none⟩))) (id := .v) (bU (α := Hd) (j := kz) rfl rfl rfl rfl (OS.sv U fd.log0 (i := 3) rfl) (by omega) (by omega)) rfl rfl (br rfl) (be _) ?_
     obtain ⟨ot, m8⟩ := Sv.view (OS.sv U fd.log0 (i := 3) rfl)
     obtain ⟨lD, h6, g2, hK, mQ⟩ := SF.open g9 fd (q := 4) (i := kz.toNat) rfl (by omega)
     have g2 : HS _ _ _ [_, _, b6, ar, lD, _, _, h6] _ := g2
     have hK : OS h3 (.slice (A.getD kz.toNat default).a (A.getD kz.toNat default).n (A.getD kz.toNat default).k) (ax.getD kz.toNat default) h6 := hK
     have o7 := OS.nlen hK
     refine am (v := (.slice (A.getD kz.toNat default).a (A.getD kz.toNat default).n (A.getD kz.toNat default).k)) (id := .l (sB (.slice T A.length V))) (bN (i := 0) rfl rfl (vH (m8 kz.toNat) (by omega)) rfl rfl) rfl rfl (bT rfl) (⟨.inl rfl, ⟨.inl rfl, ⟨.inl rfl, trivial⟩⟩⟩) ?_
     refine fm (.slice J z.length N) rfl rfl rfl ?_
     refine fm (iI ((aT (c.blocks.getD kz.toNat default)).getD q 0)) rfl rfl rfl ?_
     refine am (v := (.pointer (some ⟨sB (.slice J z.length N), sO (.slice J z.length N) + ((aT (c.blocks.getD kz.toNat default)).getD q 0).toNat * Rp.sz Hd, none⟩))) (id := .v) (bU (α := Hd) (j := ((aT (c.blocks.getD kz.toNat default)).getD q 0)) rfl rfl rfl rfl (OS.sv E g2.log0 (i := 1) rfl) (by omega) (by omega)) rfl rfl (br rfl) (be _) ?_
     obtain ⟨ou, na⟩ := Sv.view (OS.sv E g2.log0 (i := 1) rfl)
     obtain ⟨lE, h7, g3, f6, mR⟩ := SF.open a6 g2 (q := 2) (i := ((aT (c.blocks.getD kz.toNat default)).getD q 0).toNat) rfl (by omega)
     have g3 : HS _ _ _ [_, _, lE, _, _, _, _, _, h7] _ := g3
     have f6 : OS h3 (.slice (z.getD ((aT (c.blocks.getD kz.toNat default)).getD q 0).toNat default).a (z.getD ((aT (c.blocks.getD kz.toNat default)).getD q 0).toNat default).n (z.getD ((aT (c.blocks.getD kz.toNat default)).getD q 0).toNat default).k) (ay.getD ((aT (c.blocks.getD kz.toNat default)).getD q 0).toNat default) h7 := f6
     have o8 := OS.nlen f6
     refine am (v := (.slice (z.getD ((aT (c.blocks.getD kz.toNat default)).getD q 0).toNat default).a (z.getD ((aT (c.blocks.getD kz.toNat default)).getD q 0).toNat default).n (z.getD ((aT (c.blocks.getD kz.toNat default)).getD q 0).toNat default).k)) (id := .l (sB (.slice J z.length N))) (bN (i := 0) rfl rfl (vH (na ((aT (c.blocks.getD kz.toNat default)).getD q 0).toNat) (by omega)) rfl rfl) rfl rfl (bT rfl) (⟨.inl rfl, ⟨.inl rfl, ⟨.inl rfl, ⟨.inr trivial, ⟨.inr trivial, ⟨.inr trivial, ⟨.inr trivial, trivial⟩⟩⟩⟩⟩⟩⟩) ?_
     obtain ⟨oc, hF, f3, mz, mx⟩ := OS.frz f6 g3 (i := 8) rfl
     have f3 : HS _ _ _ [_, _, _, _, _, _, _, _, []] _ := f3
     refine aX (W := (h6.map Prod.fst)) (ah rfl rfl rfl) rfl rfl rfl (mb.ev ex (ax.getD kz.toNat default) (ay.getD ((aT (c.blocks.getD kz.toNat default)).getD q 0).toNat default) (HS.callOwn f3.log0 (i := 7) rfl) (OS.mono hF hK) mz (hT.mono hF) (by omega) (by omega)) (⟨.inl rfl, ⟨.inl rfl, ⟨.inl rfl, ⟨.inl rfl, ⟨.inl rfl, ⟨.inl rfl, ⟨.inl rfl, ⟨.inl rfl, trivial⟩⟩⟩⟩⟩⟩⟩⟩) ?_
     rintro _ nQ ⟨p0, ny, nw, pn, lM, a2, rfl, hG, oF, oJ, oN, oP⟩
     refine ⟨HS.didW a2, fun nr mw => ?_⟩
     replace a2 := HS.backOwn f3.log0 (i := 7) rfl rfl (fun _ hb => hb) a2
     replace a2 := HS.lg a2 g3 mw
     generalize ({ nQ with log := nr } : Heap) = oj at a2 ⊢
     replace a2 := HS.thawL g3 (i := 8) rfl (fT hF lM) (fun b o hb => lM _ _ (mx b o hb)) (i' := 8) rfl a2
     replace hG := OS.ind (F' := h3) hG
     have a2 : HS _ _ _ [hh, an, lE, ar, lD, k0, ky, nw, h7] _ := a2
     have o9 := OS.len' hG
     refine cz ?_
     refine aj 2 rfl ?_
     refine wR 1 [] 53 53 [66] [(53, (iI ((q : Int) + 1)))] (vA (vi (n := (q : Int) + 1) (by omega)) trivial) rfl fun _ => ?_
     obtain ⟨lH, jq, lU⟩ := SF.shut0 mR fR a2 (q := 2) (m := 8) (by decide) rfl rfl f6
     have jq : HS _ _ _ [_, _, lH, _, _, _, _, _, []] _ := jq
     have oA := FAM.len lU
     obtain ⟨lI, jw, lV⟩ := SF.shut mQ fR jq (q := 4) (m := 7) (by decide) rfl rfl hG
     have jw : HS _ _ _ [_, _, _, _, lI, _, _, [], _] _ := jw
     have oB := FAM.len lV
     refine ni _ _ _ ?_ ⟨A, ax.set kz.toNat ny, q + 1, T, V, ar, lI, lH, _, (d1), (HS.sub jw (List.sublist_append_left _ _)), U, lV, lU, (agC rfl (agC rfl (agC rfl (agC rfl (agC rfl (agC rfl (agC rfl (agC rfl (agC rfl (agC rfl (agC rfl (agC rfl (agC rfl (agC rfl agN)))))))))))))), rfl, (by exact snd_out ea hkn hmem (by assumption) (by assumption)), (by first | assumption | omega | (simp at *; omega)), (by exact fun j hj => by rw [eM, if_neg (fun e => hj e.1.symm)]; exact lZ j hj), (by exact succ_step (by omega) (by omega) mF (by assumption))⟩
     omega
    ·
     try simp only [BS] at k7
     have hsall : ∀ t ∈ aT (c.blocks.getD kz.toNat default), ∀ r, bI ay t.toNat r → bI ax kz.toNat r := fun t ht => mF t (by rw [List.take_of_length_le (by omega)]; exact ht)
     have o3 := ea.wi kz.toNat hkn
     refine aa ?_
     refine aF (bA (α := U64) (ps := []) (cells := []) ([] : List U64) fd rfl rfl rfl (by kernel_rfl) rfl rfl) rfl rfl ?_
     rintro _ pG nW ⟨pO, pW, rfl, mY, g4, _⟩
     have g4 : HS _ _ _ [_, _, b6, ar, e2, _, _, nW] _ := g4
     obtain ⟨ov, nc⟩ := Sv.view (OS.sv U g4 (i := 3) rfl)
     obtain ⟨mM, lB, hS, d3, mS⟩ := SF.open g9 g4 (q := 4) (i := kz.toNat) rfl (by omega)
     have hS : HS _ _ _ [_, _, _, _, mM, _, _, _, lB] _ := hS
     have d3 : OS h3 (.slice (A.getD kz.toNat default).a (A.getD kz.toNat default).n (A.getD kz.toNat default).k) (ax.getD kz.toNat default) lB := d3
     have pb := OS.nlen d3
     refine wRo 4 1 [(4, .o (.slice (A.getD kz.toNat default).a (A.getD kz.toNat default).n (A.getD kz.toNat default).k))] 68 71 [] [(71, (.slice (A.getD kz.toNat default).a (A.getD kz.toNat default).n (A.getD kz.toNat default).k))] (vA (Sv.ix (j := kz) (OS.sv U g4 (i := 3) rfl) (by omega) (by omega)) (vA (ql 83 0 (vH (nc kz.toNat) (by omega)) rfl rfl) trivial)) rfl fun _ => ?_
     refine aF (bW (α := U64) (q := 7) mY hS rfl rfl rfl (OS.sv d3 hS (i := 8) rfl) rfl rfl rfl rfl rfl rfl rfl (by first | omega | (simp only [List.length_append, List.length_cons, List.length_nil]; omega))) rfl rfl ?_
     rintro _ pI mG ⟨hm, hr, rfl, i1, g5, _⟩
     have g5 : HS _ _ _ [_, _, _, _, _, _, _, mG, _] _ := g5
     have i1 : OS h3 (.slice hm (ax.getD kz.toNat default).length hr) (ax.getD kz.toNat default) mG := i1
     refine wa (.slice hm (ax.getD kz.toNat default).length hr) rfl rfl rfl ?_
     refine ae 2 rfl ?_
     refine aa ?_
     refine wRo 2 0 [(1, .o dt)] 73 74 [] [(73, (.slice hm (ax.getD kz.toNat default).length hr)), (74, dt)] (vA (qn 42 0 5 (HS.hc g5 (i := 5) rfl) rfl rfl rfl rfl) trivial) rfl fun _ => ?_
     refine aA (ah rfl rfl rfl) rfl rfl (mb.addT_c ex (ax.getD kz.toNat default) (c.blocks.getD kz.toNat default) (HS.callOwn g5 (i := 7) rfl) i1 a7 (by omega) (by omega) (by omega) (by omega) hT (by first | omega | exact fun hf => by have := hfn hf; omega) (by first | omega | exact fun hf => by have := hfn hf; omega)) ?_
     rintro _ pJ ⟨mk, l8, nK, b7, fi, rfl, ib, oG, oK⟩
     replace fi := HS.backOwn g5 (i := 7) rfl rfl (fun _ hb => hb) fi
     have fi : HS _ _ _ [_, _, _, _, _, _, _, l8, _] _ := fi
     replace d3 := d3.mono b7
     replace a6 := SF.mono b7 a6
     have pc := OS.len' ib
     refine ae 3 rfl ?_
     refine wR 2 [(1, .o (.slice (cA (ci kz.toNat) 0) (c.blocks.getD kz.toNat default).ins.length (cK (ci kz.toNat) 0)))] 76 79 [12] [(12, (iI (((c.blocks.getD kz.toNat default).ins.length : Int) - 1)))] (vA (ql 40 0 (HS.hc fi (i := 5) rfl) rfl rfl) (vA (vi (n := ((c.blocks.getD kz.toNat default).ins.length : Int) - 1) (by omega)) trivial)) rfl fun _ => ?_
     obtain ⟨hA, j0, ch⟩ := SF.shut0 mS (b7) fi (q := 4) (m := 8) (by decide) rfl rfl d3
     have j0 : HS _ _ _ [_, _, _, _, hA, _, _, _, []] _ := j0
     have oC := FAM.len ch
     refine ap (fun (mm : Nat) f H' => ∃ (sw : List U64) (iz : Int) (av : Option Addr) (aw : Nat) (dv : Fp) (F' : Fz), Fz.le nK F' ∧ HS (Base.of H []) F' H' [hh, an, b6, ar, hA, k0, ky, dv, []] R ∧ OS F' (.slice av sw.length aw) sw dv ∧ aI f [(1, (.pointer (some ⟨b1, 0, none⟩))), (2, (.slice J z.length N)), (3, (.slice T A.length V)), (4, (iI (c.blocks.length : Int))), (6, (.bool m2)), (7, (iI kz)), (8, (.pointer (some ⟨kn, 0, none⟩))), (11, (.slice av sw.length aw)), (12, (iI iz)), (38, (.bool mo)), (42, (.bool (decide ((0 : Int) ≤ kz)))), (49, dt), (50, dt), (51, (.slice k3 (aT (c.blocks.getD kz.toNat default)).length l5)), (52, (iI ((aT (c.blocks.getD kz.toNat default)).length : Int))), (53, (iI (q : Int))), (54, (.bool (decide ((q : Int) < ((aT (c.blocks.getD kz.toNat default)).length : Int))))), (74, dt)] ∧ mm = (iz + 1).toNat ∧ (sw.length = wds c) ∧ (∀ r, aq sw r = true ↔ tr ((c.blocks.getD kz.toNat default).ins.drop (iz + 1).toNat) (endS (c.blocks.getD kz.toNat default) (bI ax kz.toNat)) r) ∧ (-1 ≤ iz ∧ iz < ((c.blocks.getD kz.toNat default).ins.length : Int))) _ ⟨mk, ((c.blocks.getD kz.toNat default).ins.length : Int) - 1, hm, hr, l8, _, fR, j0, (OS.norm ib), (agC rfl (agC rfl (agC rfl (agC rfl (agC rfl (agC rfl (agC rfl (agC (show Value.slice hm (ax.getD kz.toNat default).length hr = Value.slice hm mk.length hr by rw [OS.len' ib]) (agC rfl (agC rfl (agC rfl (agC rfl (agC rfl (agC rfl (agC rfl (agC rfl (agC rfl (agC rfl agN)))))))))))))))))), rfl, (by omega), (by exact tr_start (by omega) (fun r => Iff.rfl) (by assumption)), (by first | assumption | omega | (simp at *; omega))⟩ ?_
     rintro pk pT pK ⟨sw, iz, av, aw, dv, nL, b9, c3, hu, lW, rfl, hsw, htr, hiz⟩ nj
     refine au _ lW (fun _ => ?_)
     clear lW
     replace hT := (hT.mono b7).mono b9
     replace E := (E.mono b7).mono b9
     replace U := (U.mono b7).mono b9
     replace a7 := (a7.mono b7).mono b9
     replace a6 := SF.mono b9 a6
     replace ch := SF.mono b9 ch
     refine aj 2 rfl ?_
     refine wR 1 [] 80 81 [] [(81, (.bool (decide ((0 : Int) ≤ iz))))] trivial rfl fun _ => ?_
     refine ak 3 5 (v := (decide ((0 : Int) ≤ iz))) rfl rfl rfl rfl (fun k9 => ?_) (fun k9 => ?_)
     ·
      try simp only [BS] at k9
      have hvl : (∀ x ∈ aW ((c.blocks.getD kz.toNat default).ins.getD iz.toNat default), 0 ≤ x ∧ x < c.regs) ∧ (∀ x ∈ aN ((c.blocks.getD kz.toNat default).ins.getD iz.toNat default), 0 ≤ x ∧ x < c.regs) ∧ ((c.blocks.getD kz.toNat default).ins.getD iz.toNat default).args.length ≤ 6 := cE (vF.ins kz.toNat hkn iz.toNat (show iz.toNat < (c.blocks.getD kz.toNat default).ins.length by omega))
      have o1 := hvl.2.2
      refine aa ?_
      obtain ⟨lr, l3⟩ := Sv.view (SR.sv a7 c3)
      obtain ⟨n3, n4, n5, n6, n7, mA⟩ := VInT.fx (l3 iz.toNat)
      let mH : Value := (.agg ⟨[(iI ((c.blocks.getD kz.toNat default).ins.getD iz.toNat default).i.op), (iI ((c.blocks.getD kz.toNat default).ins.getD iz.toNat default).i.a), (iI ((c.blocks.getD kz.toNat default).ins.getD iz.toNat default).i.b), (iI ((c.blocks.getD kz.toNat default).ins.getD iz.toNat default).i.c), (iI ((c.blocks.getD kz.toNat default).ins.getD iz.toNat default).i.n), (.slice (cA (lr iz.toNat) 5) ((c.blocks.getD kz.toNat default).ins.getD iz.toNat default).args.length (cK (lr iz.toNat) 5))]⟩)
      refine wRo 6 0 [(2, .o (.slice (cA (ci kz.toNat) 0) (c.blocks.getD kz.toNat default).ins.length (cK (ci kz.toNat) 0))), (5, .o mH)] 84 89 [] [(84, (.slice av sw.length aw)), (89, mH)] (vA (ql 40 0 (HS.hc c3 (i := 5) rfl) rfl rfl) (vA (Sv.ix (j := iz) (SR.sv a7 c3) (by omega) (by omega)) (vA (qn 47 0 6 (VInT.vw (l3 iz.toNat) (by omega)) rfl rfl rfl rfl) trivial))) rfl fun _ => ?_
      refine aA (ah rfl rfl rfl) rfl rfl (mb.gE ex sw ((c.blocks.getD kz.toNat default).ins.getD iz.toNat default) (HS.callOwn c3 (i := 7) rfl) hu (by omega) (by omega) (by omega) (by omega) (by omega) mA hT (by first | omega | exact fun x hx => by have := hvl.1 x hx; omega | exact fun x hx => by have := hvl.2.1 x hx; omega) (by first | omega | exact fun x hx => by have := hvl.1 x hx; omega | exact fun x hx => by have := hvl.2.1 x hx; omega) (by first | omega | exact fun x hx => by have := hvl.1 x hx; omega | exact fun x hx => by have := hvl.2.1 x hx; omega) (by first | omega | exact fun x hx => by have := hvl.1 x hx; omega | exact fun x hx => by have := hvl.2.1 x hx; omega)) ?_
      rintro _ pL ⟨mn, l9, po, mT, g6, rfl, ii, oH, oL⟩
      replace g6 := HS.backOwn c3 (i := 7) rfl rfl (fun _ hb => hb) g6
      have g6 : HS _ _ _ [_, _, _, _, _, _, _, l9, _] _ := g6
      have pd := OS.len' ii
      refine ae 2 rfl ?_
      refine wR 1 [] 82 83 [12] [(12, (iI (iz - 1)))] (vA (vi (n := iz - 1) (by omega)) trivial) rfl fun _ => ?_
      refine nj _ _ _ ?_ ⟨mn, iz - 1, av, aw, l9, _, (fT (b9) mT), g6, (OS.norm ii), (agC rfl (agC rfl (agC rfl (agC rfl (agC rfl (agC rfl (agC rfl (agC (show Value.slice av sw.length aw = Value.slice av mn.length aw by rw [OS.len' ii]) (agC rfl (agC rfl (agC rfl (agC rfl (agC rfl (agC rfl (agC rfl (agC rfl (agC rfl (agC rfl agN)))))))))))))))))), rfl, (by omega), (by rw [show (iz - 1 + 1).toNat = iz.toNat by omega]; exact kA (by omega) (by rw [show iz.toNat + 1 = (iz + 1).toNat by omega]; exact htr) (by assumption)), (by first | assumption | omega | (simp at *; omega))⟩
      omega
     ·
      try simp only [BS] at k9
      have hW : ∀ r, aq sw r = true ↔ inS (c.blocks.getD kz.toNat default) (bI ax kz.toNat) r := fun r => by have := htr r; rwa [show (iz + 1).toNat = 0 by omega, List.drop_zero] at this
      refine aa ?_
      obtain ⟨ow, ne⟩ := Sv.view (OS.sv E c3 (i := 1) rfl)
      obtain ⟨mN, lC, j1, e5, lL⟩ := SF.open a6 c3 (q := 2) (i := kz.toNat) rfl (by omega)
      have j1 : HS _ _ _ [_, _, mN, _, _, _, _, dv, _, lC] _ := j1
      have e5 : OS nL (.slice (z.getD kz.toNat default).a (z.getD kz.toNat default).n (z.getD kz.toNat default).k) (ay.getD kz.toNat default) lC := e5
      have pe := OS.nlen e5
      refine wRo 5 0 [(3, .o (.slice (z.getD kz.toNat default).a (z.getD kz.toNat default).n (z.getD kz.toNat default).k))] 91 95 [] [(94, (.slice (z.getD kz.toNat default).a (z.getD kz.toNat default).n (z.getD kz.toNat default).k)), (95, (.slice av sw.length aw))] (vA (Sv.ix (j := kz) (OS.sv E c3 (i := 1) rfl) (by omega) (by omega)) (vA (ql 83 0 (vH (ne kz.toNat) (by omega)) rfl rfl) trivial)) rfl fun _ => ?_
      obtain ⟨pr, cc, hV, mZ, oX⟩ := OS.frz hu j1 (i := 7) rfl
      have hV : HS _ _ _ [_, _, _, _, _, _, _, [], _, _] _ := hV
      replace hT := hT.mono cc
      replace e5 := e5.mono cc
      replace ch := SF.mono cc ch
      refine aA (ah rfl rfl rfl) rfl rfl (mb.ev ex (ay.getD kz.toNat default) sw (HS.callOwn hV (i := 9) rfl) e5 mZ hT (by omega) (by omega)) ?_
      rintro _ pM ⟨nX, mp, nx, pq, d2, f0, rfl, ik, oI, oM, oO, oQ⟩
      replace f0 := HS.backOwn hV (i := 9) rfl rfl (fun _ hb => hb) f0
      have f0 : HS _ _ _ [_, _, _, _, _, _, _, _, _, nx] _ := f0
      replace E := (E.mono cc).mono d2
      replace U := (U.mono cc).mono d2
      replace ch := SF.mono d2 ch
      have pf := OS.len' ik
      refine ae 1 rfl ?_
      refine ak 0 2 (v := nX) rfl rfl rfl rfl (fun la => ?_) (fun la => ?_)
      ·
       try simp only [BS] at la
       refine wR 2 [] 1 0 [6] [(6, (.bool true))] trivial rfl fun _ => ?_
       refine wR 1 [] 43 44 [7] [(7, (iI (kz - 1)))] (vA (vi (n := kz - 1) (by omega)) trivial) rfl fun _ => ?_
       obtain ⟨lJ, j2, lX⟩ := SF.shut lL (fT (cc) d2) f0 (q := 2) (m := 9) (by decide) rfl rfl ik
       have j2 : HS _ _ _ [_, _, lJ, _, _, _, _, _, _, []] _ := j2
       have oD := FAM.len lX
       refine l4 _ _ _ ?_ ⟨A, ax, z, ay.set kz.toNat mp, kz - 1, true, J, N, an, T, V, ar, lJ, hA, _, (fT (fT (fT (fT (fT (fT (f5) co) d1) b7) b9) cc) d2), (HS.sub j2 (List.sublist_append_left _ _)), E, U, lX, ch, (agC rfl (agC rfl (agC rfl (agC rfl (agC rfl (agC rfl (agC rfl agN))))))), rfl, (by exact snd_in ea hkn (by assumption) (by assumption) hW), (by first | assumption | omega | (simp at *; omega)), (by first | (intro h; cases h; done) | exact keep0 (by assumption) (by assumption) kt), (by first | exact fun _ => cnt_t kt h4 (cnt_more (by omega) (by assumption) (by assumption) (use4 (by assumption) (by assumption))) | exact keep1 (by assumption) (by assumption) h4), (by first | (intro h; cases h; done) | (intro h; exact clk (cl_step hkn (fun b h1 => hcl h b (by omega)) lZ hsall hW (use3 (by assumption) (by assumption)) (by assumption))))⟩
       omega
      ·
       try simp only [BS] at la
       refine wR 1 [] 43 44 [7] [(7, (iI (kz - 1)))] (vA (vi (n := kz - 1) (by omega)) trivial) rfl fun _ => ?_
       obtain ⟨lK, kc, lY⟩ := SF.shut lL (fT (cc) d2) f0 (q := 2) (m := 9) (by decide) rfl rfl ik
       have kc : HS _ _ _ [_, _, lK, _, _, _, _, _, _, []] _ := kc
       have oE := FAM.len lY
       refine l4 _ _ _ ?_ ⟨A, ax, z, ay.set kz.toNat mp, kz - 1, m2, J, N, an, T, V, ar, lK, hA, _, (fT (fT (fT (fT (fT (fT (f5) co) d1) b7) b9) cc) d2), (HS.sub kc (List.sublist_append_left _ _)), E, U, lY, ch, (agC rfl (agC rfl (agC rfl (agC rfl (agC rfl (agC rfl (agC rfl agN))))))), rfl, (by exact snd_in ea hkn (by assumption) (by assumption) hW), (by first | assumption | omega | (simp at *; omega)), (by first | (intro h; cases h; done) | exact keep0 (by assumption) (by assumption) kt), (by first | exact fun _ => cnt_t kt h4 (cnt_more (by omega) (by assumption) (by assumption) (use4 (by assumption) (by assumption))) | exact keep1 (by assumption) (by assumption) h4), (by first | (intro h; cases h; done) | (intro h; exact clk (cl_step hkn (fun b h1 => hcl h b (by omega)) lZ hsall hW (use3 (by assumption) (by assumption)) (by assumption))))⟩
       omega
   ·
    try simp only [BS] at k6
    refine nh _ _ _ ?_ ⟨he, hg, z, ay, m2, J, N, an, c4, c9, b3, b4, b5, _, (fT (hC) f5), go, E, e0, c5, c6, (agC rfl (agC rfl (agC rfl (agC rfl (agC rfl agN))))), rfl, (by exact f1), (by exact fun h b hb => hcl h b (by omega) hb)⟩
    rw [hmo]; exact mea_lt h4 (cnt_le f1.li f1.wi)
  ·
   try simp only [BS] at kr
   refine wR 1 [] 97 98 [2, 3] [(2, (.slice bb g7.length bl)), (3, (.slice bk ha.length bz))] trivial rfl fun _ => ?_
   obtain ⟨pu, hD, kd, mU⟩ := SF.freeze es l0 (q := 2) rfl
   have kd : HS _ _ _ [_, dd, _, dk, ds] _ := kd
   replace et := et.mono hD
   replace a0 := SF.mono hD a0
   obtain ⟨pw, hE, ki, m0, oY⟩ := OS.frz et kd (i := 1) rfl
   have ki : HS _ _ _ [_, [], _, _, _] _ := ki
   replace a0 := SF.mono hE a0
   have f7 := SR.rows m0 (FAM.len es) (fun i hi => SR.mono hE (mU i hi))
   have ns := SR.len' f7
   have oa := SR.norm f7
   obtain ⟨px, h8, kk, mV⟩ := SF.freeze a0 ki (q := 4) rfl
   have kk : HS _ _ _ [_, _, _, _, []] _ := kk
   replace ez := ((ez.mono hD).mono hE).mono h8
   obtain ⟨py, h9, kl, m7, oZ⟩ := OS.frz ez kk (i := 3) rfl
   have kl : HS _ _ _ [_, _, _, [], _] _ := kl
   replace f7 := (f7.mono h8).mono h9
   have i2 := SR.rows m7 (FAM.len a0) (fun i hi => SR.mono h9 (mV i hi))
   have nt := SR.len' i2
   have ob := SR.norm i2
   refine ag ⟨.inr rfl, _, rfl, bb, bl, em, bk, bz, hv, _, (fT (fT (fT (fT (fT (hB) hC) hD) hE) h8) h9), (HS.forget kl), (by simp only [ns, nt]; rfl), (SR.norm f7), (SR.norm i2), (by exact anF_of snd (cl (by assumption)))⟩
end Go.Proofs.YtlabedbmgmfbaaaDoor.mc
