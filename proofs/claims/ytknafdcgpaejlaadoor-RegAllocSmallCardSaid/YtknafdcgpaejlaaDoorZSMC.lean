/-
 Live registers: the solution of the equations, by a symbolic run. No condition but that the function is valid.
-/
import Derived.Test.YtknafdcgpaejlaaDoorZSMB
noncomputable section
namespace Go.Proofs.YtknafdcgpaejlaaDoor.mc
open Go.R
set_option maxRecDepth 10000
set_option linter.unusedVariables false
set_option linter.unusedSimpArgs false
open m1 m2 m3 m4 m5 m6 ma ml mb
theorem zset {l : List (List U64)} {k : Nat} {z : List U64} (h : ∀ j, j < k → l.getD j default = z) (hk : k < l.length) : ∀ j, j < k + 1 → (l.set k z).getD j default = z := fun j hj => by
 rw [ec]
 split
 ·
  rfl
 rename_i hq; exact h j (by omega)
theorem mem_at {l : List Int} {q : Nat} (h : q < l.length) : l.getD q 0 ∈ l := by
 rw [List.getD_eq_getElem?_getD, List.getElem?_eq_getElem h]; exact List.getElem_mem h
theorem succ_step {I O : List (List U64)} {k q : Nat} {s : List U64} {l : List Int} (hq : q < l.length) (hk : k < O.length) (h : ∀ t ∈ l.take q, ∀ r, bI I t.toNat r → bI O k r) (hb : ∀ i, ap s i = (ap (O.getD k default) i || ap (I.getD (l.getD q 0).toNat default) i)) : ∀ t ∈ l.take (q + 1), ∀ r, bI I t.toNat r → bI (O.set k s) k r := by
 intro t ht r hr
 unfold bI
 rw [ec, if_pos ⟨rfl, hk⟩, hb, Bool.or_eq_true]
 rw [bn hq (d := 0), List.mem_append, List.mem_singleton] at ht
 rcases ht with ht | rfl
 ·
  exact .inl (h t ht r hr)
 exact .inr hr
theorem tr_start {b : BlkT} {S : Nat → Prop} {s z : List U64} {n : Nat} (hn : b.ins.length ≤ n) (hs : ∀ r, ap s r = true ↔ S r) (h : ∀ i, ap z i = (ap s i || decide ((i : Int) ∈ endV b))) (r : Nat) : ap z r = true ↔ tr (b.ins.drop n) (endS b S) r := by
 rw [List.drop_of_length_le hn, h, Bool.or_eq_true, hs, decide_eq_true_eq]; exact Iff.rfl
theorem cl_step {c : VFnT} {I O A : List (List U64)} {s z : List U64} {k : Nat} (hk : k < c.blocks.length) (hcl : ∀ b : Nat, (k : Int) < (b : Int) → b < c.blocks.length → Cl1 c I O b) (ho : ∀ j, j ≠ k → A.getD j default = O.getD j default) (hs : ∀ t ∈ br (bz c k), ∀ r, bI I t.toNat r → bI A k r)
  (ht : ∀ r, ap s r = true ↔ inS (bz c k) (bI A k) r) (hz : z = I.getD k default) (hb : ∀ i, ap z i = (ap (I.getD k default) i || ap s i)) : ∀ b : Nat, (k : Int) - 1 < (b : Int) → b < c.blocks.length → Cl1 c (I.set k z) A b := by
 intro b T N
 rw [hz, eF]
 by_cases e : b = k
 ·
  subst e
  refine ⟨hs, fun r hr => ?_⟩
  have := hb r
  rw [hz] at this
  unfold bI
  rw [this, (ht r).2 hr, Bool.or_true]
 have J := hcl b (by omega) N
 have E : bI A b = bI O b := by unfold bI; rw [ho b e]
 exact ⟨fun t ht r hr => by rw [E]; exact J.1 t ht r hr, fun r hr => J.2 r (by rw [E] at hr; exact hr)⟩
theorem cnt_t {m2 : Bool} {A B D : List (List U64)} (E : m2 = false → B = A) (I : m2 = true → jF A < jF B) (h : jF B < jF D) : jF A < jF D := by
 cases m2 with
 | false => rw [E rfl] at h; exact h
 | true => have := I rfl; omega
theorem keep0 {m2 r : Bool} {A B : List (List U64)} {k : Nat} {z : List U64} (I : r = false → z = B.getD k default) (hr : r = false) (E : m2 = false → B = A) : m2 = false → B.set k z = A := fun h => by rw [I hr, eF]; exact E h
theorem keep1 {m2 r : Bool} {A B : List (List U64)} {k : Nat} {z : List U64} (I : r = false → z = B.getD k default) (hr : r = false) (E : m2 = true → jF A < jF B) : m2 = true → jF A < jF (B.set k z) := fun h => by rw [I hr, eF]; exact E h
theorem use3 {α : Prop} {r : Bool} (h : r = false → α) (hr : r = false) : α := h hr
theorem use4 {α : Prop} {r : Bool} (h : r = true → α) (hr : r = true) : α := h hr
theorem succ_len {b : BlkT} : (br b).length ≤ 2 := by
 unfold br
 split
 ·
  simp
 split
 ·
  exact ins_len
 simp
theorem wd_le {c : VFnT} (h : 0 ≤ c.regs ∧ c.regs ≤ 3000) : c.regs ≤ 64 * ((wds c : Nat) : Int) ∧ wds c ≤ 48 := by
 unfold wds
 rw [Int.tdiv_eq_ediv_of_nonneg (by omega)]; omega
set_option maxHeartbeats 2000000 in
theorem analyze_c (ex : FuncId) {e6 : Option Addr} {f3 : Nat} (c : VFnT) {F : Fz} {H : Heap} {R : List Fp} (hs : HS (.of H []) F H [] R) (nV : in64 c.params) (nW : in64 c.regs) (c3 : SR F (.slice e6 c.blocks.length f3) c.blocks) (hT : TB 37 tabC F) (hval : ef c = true) (hins : ∀ j, (c.blocks.getD j default).ins.length ≤ 1099511627776) : C Tryd.prog 1 (KT 60 ex 37 tabC) 111 [(.agg ⟨[(iI c.params), (iI c.regs), (.slice e6 c.blocks.length f3)]⟩)] H fun v H' => ∃ (ail : Option Addr) (kil : Nat) (il : List (List U64)) (aol : Option Addr) (kol : Nat) (ol : List (List U64)) (F' : Fz), Fz.le F F' ∧ HS (.of H []) F' H' [] R ∧ v = .tuple ⟨[.slice ail il.length kil, .slice aol ol.length kol]⟩ ∧ SR F' (.slice ail il.length kil) il ∧ SR F' (.slice aol ol.length kol) ol ∧ (AnF c il ol) := by
 have vF := vF_of hval
 have hnb := vF.nb
 have hrg := vF.regs
 have hwd := wd_le hrg
 refine aM Tryd.func111 rfl rfl ?_
 refine am 1 rfl ?_
 refine aa ?_
 refine aK (cF hs rfl rfl) rfl rfl ?_
 rintro _ H2 _ ⟨b1, rfl, (kX : HS _ _ _ [[(b1, .cells [(iI c.params), (iI c.regs), (.slice e6 c.blocks.length f3)] none false)]] _), _⟩
 refine wRo 2 1 [] 1 0 [2, 3] [(2, (.slice none 0 0)), (3, (.slice none 0 0))] trivial rfl fun _ => ?_
 refine aj 2 rfl ?_
 refine wR 2 [(1, .o (.slice e6 c.blocks.length f3))] 13 15 [4] [(4, (iI (c.blocks.length : Int)))] (vA (ql 22 2 (HS.hc kX (i := 0) rfl) rfl rfl) trivial) rfl fun _ => ?_
 refine bL rfl ?_
 refine fm (iI (c.blocks.length : Int)) rfl rfl rfl ?_
 refine dC (id := .x []) (cV (default : Hd) kX.log0 rfl rfl rfl rfl rfl rfl rfl rfl rfl rfl (by first | (dsimp only; omega) | omega) (by first | (dsimp only; omega) | omega)) rfl rfl (by rintro _ _ p5 ⟨a5, k5, rfl, lA, _, hwr⟩; exact d3 rfl rfl (Wr.did hwr)) (⟨.inl rfl, trivial⟩) ?_
 rintro _ H6 p5 ⟨a5, k5, rfl, lA, he, _⟩ mS lT
 replace he := HS.lg he kX lT
 generalize ({ H6 with log := mS } : Heap) = oO at he ⊢
 have he : HS _ _ _ [_, p5] _ := he
 have kk := HS.snoc he
 have kk : HS _ _ _ [_, _, []] _ := kk
 have lz : SF F (List.replicate c.blocks.length (default : Hd)) (List.replicate c.blocks.length ([] : List U64)) [] := SF.rep _
 have o2 := FAM.len lz
 refine fm (iI (c.blocks.length : Int)) rfl rfl rfl ?_
 refine dC (id := .x []) (cV (default : Hd) kk.log0 rfl rfl rfl rfl rfl rfl rfl rfl rfl rfl (by first | (dsimp only; omega) | omega) (by first | (dsimp only; omega) | omega)) rfl rfl (by rintro _ _ p8 ⟨a8, k8, rfl, lB, _, hwr⟩; exact d3 rfl rfl (Wr.did hwr)) (⟨.inl rfl, ⟨.inr ⟨trivial, trivial⟩, ⟨.inr trivial, trivial⟩⟩⟩) ?_
 rintro _ H9 p8 ⟨a8, k8, rfl, lB, hg, _⟩ mT lU
 replace hg := HS.lg hg kk lU
 generalize ({ H9 with log := mT } : Heap) = oV at hg ⊢
 have hg : HS _ _ _ [_, _, _, p8] _ := hg
 have jZ := HS.snoc hg
 have jZ : HS _ _ _ [_, _, _, _, []] _ := jZ
 have kK : SF F (List.replicate c.blocks.length (default : Hd)) (List.replicate c.blocks.length ([] : List U64)) [] := SF.rep _
 have nB := FAM.len kK
 refine fa (.slice a5 (List.replicate c.blocks.length (default : Hd)).length k5) rfl rfl rfl ?_
 refine fa (.slice a8 (List.replicate c.blocks.length (default : Hd)).length k8) rfl rfl rfl ?_
 refine d8 ?_
 refine am 3 rfl ?_
 refine wR 2 [] 20 22 [] [(21, (iI ((List.replicate c.blocks.length (default : Hd)).length : Int))), (22, (iI 0))] trivial rfl fun _ => ?_
 let hn : Fp := [(b1, .cells [(iI c.params), (iI c.regs), (.slice e6 c.blocks.length f3)] none false)]
 refine ak (fun (mm : Nat) f H' => ∃ (oh : List Hd) (ol : List (List U64)) (ih : List Hd) (il : List (List U64)) (k : Nat) (V : Option Addr) (ad : Nat) (b3 : Fp) (Z : Option Addr) (ag : Nat) (b4 : Fp) (dn : Fp) (ds : Fp) (F' : Fz), Fz.le F F' ∧ HS (Base.of H []) F' H' [hn, b3, dn, b4, ds] R ∧ OS F' (.slice V ih.length ad) ih b3 ∧ OS F' (.slice Z oh.length ag) oh b4 ∧ SF F' ih il dn ∧ SF F' oh ol ds ∧ aH f [(1, (.pointer (some ⟨b1, 0, none⟩))), (2, (.slice V ih.length ad)), (3, (.slice Z oh.length ag)), (4, (iI (c.blocks.length : Int))), (21, (iI ((List.replicate c.blocks.length (default : Hd)).length : Int))), (22, (iI (k : Int)))] ∧ mm = c.blocks.length - k ∧ (il.length = c.blocks.length) ∧ (ol.length = c.blocks.length) ∧ (∀ j, j < k → il.getD j default = List.replicate (wds c) ⟨0⟩) ∧ (∀ j, j < k → ol.getD j default = List.replicate (wds c) ⟨0⟩) ∧ (k ≤ c.blocks.length)) _ ⟨List.replicate c.blocks.length (default : Hd), List.replicate c.blocks.length ([] : List U64), List.replicate c.blocks.length (default : Hd), List.replicate c.blocks.length ([] : List U64), 0, a5, k5, p5, a8, k8, p8, [], [], _, fR, jZ, lA, lB, lz, kK, (agC rfl (agC rfl (agC rfl (agC rfl (agC rfl (agC rfl agN)))))), rfl, (by simp), (by simp), (by intro j hj; omega), (by intro j hj; omega), (by first | assumption | omega | (simp at *; omega))⟩ ?_
 rintro oo oX oG ⟨oh, ol, ih, il, k, V, ad, b3, Z, ag, b4, dn, ds, mH, hv, g1, c8, c9, a2, a3, kL, rfl, li, lo, zi, zo, hk⟩ l4
 refine aq _ kL (fun _ => ?_)
 clear kL
 replace hT := hT.mono hv
 replace c3 := c3.mono hv
 have mz := FAM.len a2
 have mA := FAM.len a3
 have hrl : (List.replicate c.blocks.length (default : Hd)).length = c.blocks.length := List.length_replicate
 refine am 1 rfl ?_
 refine wR 2 [] 23 23 [] [(23, (.bool (decide ((k : Int) < ((List.replicate c.blocks.length (default : Hd)).length : Int)))))] trivial rfl fun _ => ?_
 refine au 4 6 (v := (decide ((k : Int) < ((List.replicate c.blocks.length (default : Hd)).length : Int)))) rfl rfl rfl rfl (fun h5 => ?_) (fun h5 => ?_)
 ·
  have kn := h5
  try simp only [BS] at kn
  refine wR 1 [] 24 24 [5] [(5, (iI (k : Int)))] trivial rfl fun _ => ?_
  refine bL rfl ?_
  refine fm (.slice V ih.length ad) rfl rfl rfl ?_
  refine fm (iI (k : Int)) rfl rfl rfl ?_
  refine fm (.slice Z oh.length ag) rfl rfl rfl ?_
  refine fm (iI (k : Int)) rfl rfl rfl ?_
  refine aO (v := (.pointer (some ⟨b1, 1, none⟩))) (id := .v) (fF rfl rfl) rfl rfl (dD rfl) (du _) ?_
  refine aO (v := (iI c.regs)) (id := .l b1) (b8 (i := 1) rfl rfl (HS.hc g1.log0 (i := 0) rfl) rfl rfl) rfl rfl (ey rfl) (⟨.inl rfl, ⟨.inr trivial, ⟨.inr trivial, ⟨.inr trivial, ⟨.inr trivial, trivial⟩⟩⟩⟩⟩) ?_
  refine eg (W := []) (aB rfl rfl rfl) rfl rfl rfl (mb.empty_c ex c.regs (HS.call g1.log0) (by first | (dsimp only; omega) | omega) hT (by first | (dsimp only; omega) | omega)) (⟨.inl rfl, ⟨.inl rfl, ⟨.inr trivial, ⟨.inr trivial, ⟨.inr trivial, ⟨.inr trivial, trivial⟩⟩⟩⟩⟩⟩) ?_
  rintro _ mM ⟨hp, hW, o5, mU, ow, fd, a0, rfl, hG, rfl⟩
  refine ⟨Wr.did a0.log, fun me lj => ?_⟩
  replace a0 := HS.back g1.log0 rfl a0
  replace a0 := HS.lg a0 g1 lj
  generalize ({ mM with log := me } : Heap) = nn at a0 ⊢
  have a0 : HS _ _ _ [_, b3, dn, b4, ds, mU] _ := a0
  replace hT := hT.mono fd
  replace a2 := SF.mono fd a2
  replace a3 := SF.mono fd a3
  refine aO (v := (.pointer (some ⟨b1, 1, none⟩))) (id := .v) (fF rfl rfl) rfl rfl (dD rfl) (du _) ?_
  refine aO (v := (iI c.regs)) (id := .l b1) (b8 (i := 1) rfl rfl (HS.hc a0.log0 (i := 0) rfl) rfl rfl) rfl rfl (ey rfl) (⟨.inl rfl, ⟨.inr List.not_mem_nil, ⟨.inr trivial, ⟨.inr trivial, ⟨.inr trivial, ⟨.inr trivial, ⟨.inr trivial, ⟨.inr trivial, trivial⟩⟩⟩⟩⟩⟩⟩⟩) ?_
  refine eg (W := []) (aB rfl rfl rfl) rfl rfl rfl (mb.empty_c ex c.regs (HS.call a0.log0) (by first | (dsimp only; omega) | omega) hT (by first | (dsimp only; omega) | omega)) (⟨.inl rfl, ⟨.inl rfl, ⟨.inl rfl, ⟨.inl rfl, ⟨.inl rfl, ⟨.inr trivial, ⟨.inr trivial, ⟨.inr trivial, ⟨.inr trivial, trivial⟩⟩⟩⟩⟩⟩⟩⟩⟩) ?_
  rintro _ mN ⟨hr, hX, o6, mV, lw, fi, a9, rfl, lr, rfl⟩
  refine ⟨Wr.did a9.log, fun mk ll => ?_⟩
  replace a9 := HS.back a0.log0 rfl a9
  replace a9 := HS.lg a9 a0 ll
  generalize ({ mN with log := mk } : Heap) = np at a9 ⊢
  have a9 : HS _ _ _ [_, _, _, _, _, _, mV] _ := a9
  replace hG := hG.mono fi
  replace c8 := (c8.mono fd).mono fi
  replace c9 := (c9.mono fd).mono fi
  replace a2 := SF.mono fi a2
  replace a3 := SF.mono fi a3
  refine aO (v := (.pointer (some ⟨sB (.slice V ih.length ad), sO (.slice V ih.length ad) + k * Rp.sz Hd, none⟩))) (id := .v) (cz (α := Hd) (j := (k : Int)) rfl rfl rfl rfl (OS.sv c8 a9.log0 (i := 1) rfl) (by first | (dsimp only; omega) | omega) (by first | (dsimp only; omega) | omega)) rfl rfl (dD rfl) (du _) ?_
  obtain ⟨lH, kv, j0, jb, lL⟩ := SF.open a2 a9 (q := 2) (i := k) rfl (by first | (dsimp only; omega) | omega)
  have j0 : HS _ _ _ [_, _, lH, _, _, _, _, kv] _ := j0
  have jb : OS lw (.slice (ih.getD k default).a (ih.getD k default).n (ih.getD k default).k) (il.getD k default) kv := jb
  have n9 := OS.nlen jb
  obtain ⟨kC, hH, kM⟩ := SF.shutN (⟨hp, (List.replicate (Int.tdiv (c.regs + 63) 64).toNat (⟨0⟩ : U64)).length, hW⟩ : Hd) lL fR j0 (q := 2) (m := 5) (by decide) rfl rfl hG
  have hH : HS _ _ _ [_, _, kC, _, _, [], _, _] _ := hH
  have nC := FAM.len kM
  refine wf_rk (id := .x (b3.map Prod.fst)) (ei (α := Hd) (j := k) (off := 0) (q := 1) (⟨hp, (List.replicate (Int.tdiv (c.regs + 63) 64).toNat (⟨0⟩ : U64)).length, hW⟩ : Hd) c8 hH.log0 rfl rfl rfl rfl rfl rfl rfl rfl (aY (x := default) (by first | (dsimp only; omega) | omega)) rfl (by rintro cs rfl; exact ⟨Nat.le_of_ble_eq_true rfl, rfl⟩)) rfl (by rintro _ _ k7 ⟨hD, _, hwr⟩; exact d3 rfl rfl (Wr.did hwr)) (⟨.inl rfl, ⟨.inl rfl, ⟨.inl rfl, ⟨.inl rfl, ⟨.inl rfl, ⟨.inl rfl, ⟨.inl rfl, ⟨.inr trivial, ⟨.inr trivial, ⟨.inl rfl, ⟨.inl rfl, trivial⟩⟩⟩⟩⟩⟩⟩⟩⟩⟩⟩) ?_
  rintro _ mO k7 ⟨hD, es, _⟩ mn lm
  replace es := HS.lg es hH lm
  generalize ({ mO with log := mn } : Heap) = nq at es ⊢
  have es : HS _ _ _ [_, k7, _, _, _, _, _, _] _ := es
  have ni := OS.len' hD
  refine aO (v := (.pointer (some ⟨sB (.slice Z oh.length ag), sO (.slice Z oh.length ag) + k * Rp.sz Hd, none⟩))) (id := .v) (cz (α := Hd) (j := (k : Int)) rfl rfl rfl rfl (OS.sv c9 es.log0 (i := 3) rfl) (by first | (dsimp only; omega) | omega) (by first | (dsimp only; omega) | omega)) rfl rfl (dD rfl) (du _) ?_
  obtain ⟨lI, kw, j1, jc, lM⟩ := SF.open a3 es (q := 4) (i := k) rfl (by first | (dsimp only; omega) | omega)
  have j1 : HS _ _ _ [_, _, _, _, lI, _, _, _, kw] _ := j1
  have jc : OS lw (.slice (oh.getD k default).a (oh.getD k default).n (oh.getD k default).k) (ol.getD k default) kw := jc
  have oa := OS.nlen jc
  obtain ⟨kD, hI, kN⟩ := SF.shutN (⟨hr, (List.replicate (Int.tdiv (c.regs + 63) 64).toNat (⟨0⟩ : U64)).length, hX⟩ : Hd) lM fR j1 (q := 4) (m := 6) (by decide) rfl rfl lr
  have hI : HS _ _ _ [_, _, _, _, kD, _, [], _, _] _ := hI
  have nD := FAM.len kN
  refine wf_rk (id := .x (b4.map Prod.fst)) (ei (α := Hd) (j := k) (off := 0) (q := 3) (⟨hr, (List.replicate (Int.tdiv (c.regs + 63) 64).toNat (⟨0⟩ : U64)).length, hX⟩ : Hd) c9 hI.log0 rfl rfl rfl rfl rfl rfl rfl rfl (aY (x := default) (by first | (dsimp only; omega) | omega)) rfl (by rintro cs rfl; exact ⟨Nat.le_of_ble_eq_true rfl, rfl⟩)) rfl (by rintro _ _ k9 ⟨hE, _, hwr⟩; exact d3 rfl rfl (Wr.did hwr)) (⟨.inl rfl, ⟨.inl rfl, ⟨.inl rfl, ⟨.inl rfl, ⟨.inl rfl, ⟨.inl rfl, ⟨.inl rfl, ⟨.inl rfl, ⟨.inl rfl, ⟨.inl rfl, ⟨.inl rfl, ⟨.inl rfl, ⟨.inl rfl, trivial⟩⟩⟩⟩⟩⟩⟩⟩⟩⟩⟩⟩⟩) ?_
  rintro _ mP k9 ⟨hE, f1, _⟩ mp ln
  replace f1 := HS.lg f1 hI ln
  generalize ({ mP with log := mp } : Heap) = nr at f1 ⊢
  have f1 : HS _ _ _ [_, _, _, k9, _, _, _, _, _] _ := f1
  have nj := OS.len' hE
  refine d8 ?_
  refine am 2 rfl ?_
  refine wR 1 [] 22 22 [37] [(22, (iI ((k : Int) + 1)))] (vA (vi (n := (k : Int) + 1) (by first | (dsimp only; omega) | omega)) trivial) rfl fun _ => ?_
  refine l4 _ _ _ ?_ ⟨oh.set k (⟨hr, (List.replicate (Int.tdiv (c.regs + 63) 64).toNat (⟨0⟩ : U64)).length, hX⟩ : Hd), ol.set k (List.replicate (Int.tdiv (c.regs + 63) 64).toNat (⟨0⟩ : U64)), ih.set k (⟨hp, (List.replicate (Int.tdiv (c.regs + 63) 64).toNat (⟨0⟩ : U64)).length, hW⟩ : Hd), il.set k (List.replicate (Int.tdiv (c.regs + 63) 64).toNat (⟨0⟩ : U64)), k + 1, V, ad, k7, Z, ag, k9, kC, kD, _, (fT (fT (hv) fd) fi), (HS.sub f1 (List.sublist_append_left _ _)), (OS.norm hD), (OS.norm hE), kM, kN, (agC rfl (agC (show Value.slice V ih.length ad = Value.slice V (ih.set k (⟨hp, (List.replicate (Int.tdiv (c.regs + 63) 64).toNat (⟨0⟩ : U64)).length, hW⟩ : Hd)).length ad by rw [OS.len' hD]) (agC (show Value.slice Z oh.length ag = Value.slice Z (oh.set k (⟨hr, (List.replicate (Int.tdiv (c.regs + 63) 64).toNat (⟨0⟩ : U64)).length, hX⟩ : Hd)).length ag by rw [OS.len' hE]) (agC rfl (agC rfl (agC rfl agN)))))), rfl, (by rw [List.length_set]; exact li), (by rw [List.length_set]; exact lo), (by exact zset zi (by omega)), (by exact zset zo (by omega)), (by first | assumption | omega | (simp at *; omega))⟩
  omega
 have kn := h5
 try simp only [BS] at kn
 refine wR 2 [] 1 0 [6] [(6, (.bool true))] trivial rfl fun _ => ?_
 refine ak (fun (mm : Nat) f H' => ∃ (g7 : List Hd) (hm : List (List U64)) (g5 : List Hd) (ez : List (List U64)) (mo : Bool) (bb : Option Addr) (b0 : Nat) (dk : Fp) (bk : Option Addr) (b2 : Nat) (dl : Fp) (e4 : Fp) (dt : Fp) (F' : Fz), Fz.le mH F' ∧ HS (Base.of H []) F' H' [hn, dk, e4, dl, dt] R ∧ OS F' (.slice bb g5.length b0) g5 dk ∧ OS F' (.slice bk g7.length b2) g7 dl ∧ SF F' g5 ez e4 ∧ SF F' g7 hm dt ∧ aH f [(1, (.pointer (some ⟨b1, 0, none⟩))), (2, (.slice bb g5.length b0)), (3, (.slice bk g7.length b2)), (4, (iI (c.blocks.length : Int))), (6, (.bool mo))] ∧ mm = mea mo (c.blocks.length * (64 * wds c)) (jF ez) ∧ (Snd c ez hm) ∧ (mo = false → ∀ b, b < c.blocks.length → Cl1 c ez hm b)) _ ⟨oh, ol, ih, il, true, V, ad, b3, Z, ag, b4, dn, ds, _, fR, g1, c8, c9, a2, a3, (agC rfl (agC rfl (agC rfl (agC rfl (agC rfl agN))))), rfl, (by exact snd_start li lo (fun j hj => zi j (by omega)) (fun j hj => zo j (by omega))), (by intro h; cases h)⟩ ?_
 rintro oq oY oH ⟨g7, hm, g5, ez, mo, bb, b0, dk, bk, b2, dl, e4, dt, mI, hw, kY, e1, e2, e0, ay, kO, rfl, snd, cl⟩ l5
 refine aq _ kO (fun _ => ?_)
 clear kO
 replace hT := hT.mono hw
 replace c3 := c3.mono hw
 have mB := FAM.len e0
 have mC := FAM.len ay
 have hli := snd.li
 have hlo := snd.lo
 refine am 2 rfl ?_
 refine wR 1 [] 38 38 [] [(38, (.bool mo))] trivial rfl fun _ => ?_
 refine au 3 5 (v := mo) rfl rfl rfl rfl (fun h6 => ?_) (fun h6 => ?_)
 ·
  have ki := h6
  try simp only [BS] at ki
  have hmo := ki
  refine wR 2 [] 1 0 [6] [(6, (.bool false))] trivial rfl fun _ => ?_
  refine wR 2 [] 39 40 [7] [(7, (iI ((c.blocks.length : Int) - 1)))] (vA (vi (n := (c.blocks.length : Int) - 1) (by first | (dsimp only; omega) | omega)) trivial) rfl fun _ => ?_
  refine ak (fun (mm : Nat) f H' => ∃ (g8 : List Hd) (g9 : List (List U64)) (A : List Hd) (ax : List (List U64)) (kz : Int) (m2 : Bool) (J : Option Addr) (N : Nat) (al : Fp) (c5 : Option Addr) (dd : Nat) (b5 : Fp) (b6 : Fp) (b7 : Fp) (F' : Fz), Fz.le mI F' ∧ HS (Base.of H []) F' H' [hn, al, b6, b5, b7] R ∧ OS F' (.slice J A.length N) A al ∧ OS F' (.slice c5 g8.length dd) g8 b5 ∧ SF F' A ax b6 ∧ SF F' g8 g9 b7 ∧ aH f [(1, (.pointer (some ⟨b1, 0, none⟩))), (2, (.slice J A.length N)), (3, (.slice c5 g8.length dd)), (4, (iI (c.blocks.length : Int))), (6, (.bool m2)), (7, (iI kz)), (38, (.bool mo))] ∧ mm = (kz + 1).toNat ∧ (Snd c ax g9) ∧ (-1 ≤ kz ∧ kz < (c.blocks.length : Int)) ∧ (m2 = false → ax = ez) ∧ (m2 = true → jF ez < jF ax) ∧ (m2 = false → ∀ b : Nat, kz < (b : Int) → b < c.blocks.length → Cl1 c ax g9 b)) _ ⟨g7, hm, g5, ez, (c.blocks.length : Int) - 1, false, bb, b0, dk, bk, b2, dl, e4, dt, _, fR, kY, e1, e2, e0, ay, (agC rfl (agC rfl (agC rfl (agC rfl (agC rfl (agC rfl (agC rfl agN))))))), rfl, (by exact snd), (by first | assumption | omega | (simp at *; omega)), (by exact fun _ => rfl), (by intro h; cases h), (by intro _ b h1 h2; omega)⟩ ?_
  rintro ot oZ oI ⟨g8, g9, A, ax, kz, m2, J, N, al, c5, dd, b5, b6, b7, ox, f9, g2, I, e3, c6, c7, kP, rfl, f4, hkz, kj, h4, hcl⟩ k4
  refine aq _ kP (fun _ => ?_)
  clear kP
  replace hT := hT.mono f9
  replace c3 := c3.mono f9
  have mD := FAM.len c6
  have mE := FAM.len c7
  have nX := f4.li
  have nY := f4.lo
  refine am 2 rfl ?_
  refine wR 1 [] 41 42 [] [(42, (.bool (decide ((0 : Int) ≤ kz))))] trivial rfl fun _ => ?_
  refine au 4 5 (v := (decide ((0 : Int) ≤ kz))) rfl rfl rfl rfl (fun h7 => ?_) (fun h7 => ?_)
  ·
   have ko := h7
   try simp only [BS] at ko
   have hkn : kz.toNat < c.blocks.length := by omega
   have hbl := hins kz.toNat
   have hfn : ((c.blocks.getD kz.toNat default).fin = 2 ∨ (c.blocks.getD kz.toNat default).fin = 3) → 0 ≤ (c.blocks.getD kz.toNat default).reg ∧ (c.blocks.getD kz.toNat default).reg < c.regs := vF.fin kz.toNat hkn
   have clk : ∀ {Q : Nat → Prop}, (∀ b : Nat, ((kz.toNat : Nat) : Int) - 1 < (b : Int) → Q b) → ∀ b : Nat, kz - 1 < (b : Int) → Q b := fun h b hb => h b (by omega)
   refine aa ?_
   obtain ⟨a7, kZ⟩ := Sv.view (SR.sv c3 g2)
   obtain ⟨mY, mZ, m0, m7, a6⟩ := BlkT.fx (kZ kz.toNat)
   let dv : Value := (.agg ⟨[(.slice (cA (a7 kz.toNat) 0) (c.blocks.getD kz.toNat default).ins.length (cK (a7 kz.toNat) 0)), (iI (c.blocks.getD kz.toNat default).fin), (iI (c.blocks.getD kz.toNat default).reg), (iI (c.blocks.getD kz.toNat default).tgt), (iI (c.blocks.getD kz.toNat default).els)]⟩)
   refine wRo 5 0 [(1, .o (.slice e6 c.blocks.length f3)), (4, .o dv)] 45 49 [] [(49, dv)] (vA (ql 22 2 (HS.hc g2 (i := 0) rfl) rfl rfl) (vA (Sv.ix (j := kz) (SR.sv c3 g2) (by first | (dsimp only; omega) | omega) (by first | (dsimp only; omega) | omega)) (vA (qn 48 0 5 (BlkT.vw (kZ kz.toNat) (by first | (dsimp only; omega) | omega)) rfl rfl rfl rfl) trivial))) rfl fun _ => ?_
   refine aK (bx g2 rfl) rfl rfl ?_
   rintro _ oJ _ ⟨h3, rfl, (lZ : HS _ _ _ [_, al, b6, b5, b7, [(h3, .cells [(.slice none 0 0), (iI 0), (iI 0), (iI 0), (iI 0)] none false)]] _), _⟩
   refine aT (aP (q := 5) lZ rfl rfl rfl rfl rfl rfl rfl rfl rfl) rfl ?_
   rintro _ oK _ ⟨(j2 : HS _ _ _ [_, _, _, _, _, [(h3, .cells [(.slice (cA (a7 kz.toNat) 0) (c.blocks.getD kz.toNat default).ins.length (cK (a7 kz.toNat) 0)), (iI (c.blocks.getD kz.toNat default).fin), (iI (c.blocks.getD kz.toNat default).reg), (iI (c.blocks.getD kz.toNat default).tgt), (iI (c.blocks.getD kz.toNat default).els)] none false)]] _), _⟩
   refine aj 3 rfl ?_
   refine aa ?_
   refine wRo 1 0 [(0, .o dv)] 50 50 [] [(50, dv)] (vA (qn 48 0 5 (HS.hc j2 (i := 5) rfl) rfl rfl rfl rfl) trivial) rfl fun _ => ?_
   refine aE (aB rfl rfl rfl) rfl rfl (ma.vsucc_c ex (c.blocks.getD kz.toNat default) (HS.call j2) a6 (by first | (dsimp only; omega) | omega) (by first | (dsimp only; omega) | omega) (by first | (dsimp only; omega) | omega) (by first | (dsimp only; omega) | omega) hT) ?_
   rintro _ oL ⟨km, k6, o7, kl, mJ, c0, j3, rfl, f5, rfl⟩
   replace j3 : HS _ _ _ [_, _, _, _, _, _, kl] _ := HS.back j2 rfl j3
   replace e3 := e3.mono c0
   replace c6 := SF.mono c0 c6
   replace c7 := SF.mono c0 c7
   refine wRo 2 2 [] 52 53 [] [(52, (iI ((br (c.blocks.getD kz.toNat default)).length : Int))), (53, (iI 0))] trivial rfl fun _ => ?_
   refine aj 2 rfl ?_
   let lh : Fp := [(h3, .cells [(.slice (cA (a7 kz.toNat) 0) (c.blocks.getD kz.toNat default).ins.length (cK (a7 kz.toNat) 0)), (iI (c.blocks.getD kz.toNat default).fin), (iI (c.blocks.getD kz.toNat default).reg), (iI (c.blocks.getD kz.toNat default).tgt), (iI (c.blocks.getD kz.toNat default).els)] none false)]
   refine ak (fun (mm : Nat) f H' => ∃ (E : List Hd) (aw : List (List U64)) (q : Nat) (O : Option Addr) (U : Nat) (an : Fp) (e5 : Fp) (b9 : Fp) (F' : Fz), Fz.le mJ F' ∧ HS (Base.of H []) F' H' [hn, al, b9, an, e5, lh, kl] R ∧ OS F' (.slice O E.length U) E an ∧ SF F' E aw e5 ∧ SF F' A ax b9 ∧ aH f [(1, (.pointer (some ⟨b1, 0, none⟩))), (2, (.slice J A.length N)), (3, (.slice O E.length U)), (4, (iI (c.blocks.length : Int))), (6, (.bool m2)), (7, (iI kz)), (8, (.pointer (some ⟨h3, 0, none⟩))), (38, (.bool mo)), (42, (.bool (decide ((0 : Int) ≤ kz)))), (49, dv), (50, dv), (51, (.slice km (br (c.blocks.getD kz.toNat default)).length k6)), (52, (iI ((br (c.blocks.getD kz.toNat default)).length : Int))), (53, (iI (q : Int)))] ∧ mm = (br (c.blocks.getD kz.toNat default)).length - q ∧ (Snd c ax aw) ∧ (q ≤ (br (c.blocks.getD kz.toNat default)).length) ∧ (∀ j, j ≠ kz.toNat → aw.getD j default = g9.getD j default) ∧ (∀ t ∈ (br (c.blocks.getD kz.toNat default)).take q, ∀ r, bI ax t.toNat r → bI aw kz.toNat r)) _ ⟨g8, g9, 0, c5, dd, b5, b7, b6, _, fR, j3, e3, c7, c6, (agC rfl (agC rfl (agC rfl (agC rfl (agC rfl (agC rfl (agC rfl (agC rfl (agC rfl (agC rfl (agC rfl (agC rfl (agC rfl (agC rfl agN)))))))))))))), rfl, (by exact f4), (by first | assumption | omega | (simp at *; omega)), (by exact fun _ _ => rfl), (by intro t ht; cases ht)⟩ ?_
   rintro ou o0 oM ⟨E, aw, q, O, U, an, e5, b9, h0, d2, f2, T, g6, a4, kQ, rfl, et, hq, kW, lC⟩ l6
   refine aq _ kQ (fun _ => ?_)
   clear kQ
   replace hT := (hT.mono c0).mono d2
   replace f5 := f5.mono d2
   replace I := (I.mono c0).mono d2
   replace a6 := (a6.mono c0).mono d2
   have mG := FAM.len g6
   have mF := FAM.len a4
   have n4 := succ_len (b := (c.blocks.getD kz.toNat default))
   have nZ := et.lo
   have n8 := et.wo kz.toNat hkn
   refine am 1 rfl ?_
   refine wR 2 [] 54 54 [] [(54, (.bool (decide ((q : Int) < ((br (c.blocks.getD kz.toNat default)).length : Int)))))] trivial rfl fun _ => ?_
   refine au 4 5 (v := (decide ((q : Int) < ((br (c.blocks.getD kz.toNat default)).length : Int)))) rfl rfl rfl rfl (fun h8 => ?_) (fun h8 => ?_)
   ·
    have kp := h8
    try simp only [BS] at kp
    have hmem := mem_at (l := br (c.blocks.getD kz.toNat default)) (q := q) (by omega)
    have hst := vF.succ kz.toNat hkn _ hmem
    have n6 := et.wi ((br (c.blocks.getD kz.toNat default)).getD q 0).toNat (by omega)
    obtain ⟨nw, k0⟩ := Sv.view (OS.sv f5 f2 (i := 6) rfl)
    have o3 := fI (k0 q)
    refine wR 1 [(1, .o (iI ((br (c.blocks.getD kz.toNat default)).getD q 0)))] 55 56 [10] [(10, (iI ((br (c.blocks.getD kz.toNat default)).getD q 0)))] (vA (Sv.ix (j := (q : Int)) (OS.sv f5 f2 (i := 6) rfl) (by first | (dsimp only; omega) | omega) (by first | (dsimp only; omega) | omega)) (vA (ql 3 0 (vI (k0 q) (by first | (dsimp only; omega) | omega)) rfl rfl) trivial)) rfl fun _ => ?_
    refine bL rfl ?_
    refine fm (.slice O E.length U) rfl rfl rfl ?_
    refine fm (iI kz) rfl rfl rfl ?_
    refine aO (v := (.pointer (some ⟨sB (.slice O E.length U), sO (.slice O E.length U) + kz.toNat * Rp.sz Hd, none⟩))) (id := .v) (cz (α := Hd) (j := kz) rfl rfl rfl rfl (OS.sv T f2.log0 (i := 3) rfl) (by first | (dsimp only; omega) | omega) (by first | (dsimp only; omega) | omega)) rfl rfl (dD rfl) (du _) ?_
    obtain ⟨nx, l0⟩ := Sv.view (OS.sv T f2.log0 (i := 3) rfl)
    obtain ⟨kA, ik, g3, hF, lN⟩ := SF.open g6 f2 (q := 4) (i := kz.toNat) rfl (by first | (dsimp only; omega) | omega)
    have g3 : HS _ _ _ [_, _, b9, an, kA, _, _, ik] _ := g3
    have hF : OS h0 (.slice (E.getD kz.toNat default).a (E.getD kz.toNat default).n (E.getD kz.toNat default).k) (aw.getD kz.toNat default) ik := hF
    have ob := OS.nlen hF
    refine aO (v := (.slice (E.getD kz.toNat default).a (E.getD kz.toNat default).n (E.getD kz.toNat default).k)) (id := .l (sB (.slice O E.length U))) (b8 (i := 0) rfl rfl (vH (l0 kz.toNat) (by first | (dsimp only; omega) | omega)) rfl rfl) rfl rfl (ey rfl) (⟨.inl rfl, ⟨.inl rfl, ⟨.inl rfl, trivial⟩⟩⟩) ?_
    refine fm (.slice J A.length N) rfl rfl rfl ?_
    refine fm (iI ((br (c.blocks.getD kz.toNat default)).getD q 0)) rfl rfl rfl ?_
    refine aO (v := (.pointer (some ⟨sB (.slice J A.length N), sO (.slice J A.length N) + ((br (c.blocks.getD kz.toNat default)).getD q 0).toNat * Rp.sz Hd, none⟩))) (id := .v) (cz (α := Hd) (j := ((br (c.blocks.getD kz.toNat default)).getD q 0)) rfl rfl rfl rfl (OS.sv I g3.log0 (i := 1) rfl) (by first | (dsimp only; omega) | omega) (by first | (dsimp only; omega) | omega)) rfl rfl (dD rfl) (du _) ?_
    obtain ⟨ny, l1⟩ := Sv.view (OS.sv I g3.log0 (i := 1) rfl)
    obtain ⟨kB, it, g4, go, lO⟩ := SF.open a4 g3 (q := 2) (i := ((br (c.blocks.getD kz.toNat default)).getD q 0).toNat) rfl (by first | (dsimp only; omega) | omega)
    have g4 : HS _ _ _ [_, _, kB, _, _, _, _, _, it] _ := g4
    have go : OS h0 (.slice (A.getD ((br (c.blocks.getD kz.toNat default)).getD q 0).toNat default).a (A.getD ((br (c.blocks.getD kz.toNat default)).getD q 0).toNat default).n (A.getD ((br (c.blocks.getD kz.toNat default)).getD q 0).toNat default).k) (ax.getD ((br (c.blocks.getD kz.toNat default)).getD q 0).toNat default) it := go
    have oc := OS.nlen go
    refine aO (v := (.slice (A.getD ((br (c.blocks.getD kz.toNat default)).getD q 0).toNat default).a (A.getD ((br (c.blocks.getD kz.toNat default)).getD q 0).toNat default).n (A.getD ((br (c.blocks.getD kz.toNat default)).getD q 0).toNat default).k)) (id := .l (sB (.slice J A.length N))) (b8 (i := 0) rfl rfl (vH (l1 ((br (c.blocks.getD kz.toNat default)).getD q 0).toNat) (by first | (dsimp only; omega) | omega)) rfl rfl) rfl rfl (ey rfl) (⟨.inl rfl, ⟨.inl rfl, ⟨.inl rfl, ⟨.inr trivial, ⟨.inr trivial, ⟨.inr trivial, ⟨.inr trivial, trivial⟩⟩⟩⟩⟩⟩⟩) ?_
    obtain ⟨nm, hB, f6, lu, lq⟩ := OS.frz go g4 (i := 8) rfl
    have f6 : HS _ _ _ [_, _, _, _, _, _, _, _, []] _ := f6
    refine eg (W := (ik.map Prod.fst)) (aB rfl rfl rfl) rfl rfl rfl (mb.union_c ex (aw.getD kz.toNat default) (ax.getD ((br (c.blocks.getD kz.toNat default)).getD q 0).toNat default) (HS.callOwn f6.log0 (i := 7) rfl) (OS.mono hB hF) lu (hT.mono hB) (by first | (dsimp only; omega) | omega) (by first | (dsimp only; omega) | omega)) (⟨.inl rfl, ⟨.inl rfl, ⟨.inl rfl, ⟨.inl rfl, ⟨.inl rfl, ⟨.inl rfl, ⟨.inl rfl, ⟨.inl rfl, trivial⟩⟩⟩⟩⟩⟩⟩⟩) ?_
    rintro _ mQ ⟨o8, my, mw, oy, kJ, a1, rfl, hC, nJ, nN, nR, nT⟩
    refine ⟨HS.didW a1, fun mq lp => ?_⟩
    replace a1 := HS.backOwn f6.log0 (i := 7) rfl rfl (fun _ hb => hb) a1
    replace a1 := HS.lg a1 g4 lp
    generalize ({ mQ with log := mq } : Heap) = nt at a1 ⊢
    replace a1 := HS.thawL g4 (i := 8) rfl (fT hB kJ) (fun b o hb => kJ _ _ (lq b o hb)) (i' := 8) rfl a1
    replace hC := OS.ind (F' := h0) hC
    have a1 : HS _ _ _ [hn, al, kB, an, kA, lh, kl, mw, it] _ := a1
    have od := OS.len' hC
    refine d8 ?_
    refine am 2 rfl ?_
    refine wR 1 [] 53 53 [66] [(53, (iI ((q : Int) + 1)))] (vA (vi (n := (q : Int) + 1) (by first | (dsimp only; omega) | omega)) trivial) rfl fun _ => ?_
    obtain ⟨kE, j4, kR⟩ := SF.shut0 lO fR a1 (q := 2) (m := 8) (by decide) rfl rfl go
    have j4 : HS _ _ _ [_, _, kE, _, _, _, _, _, []] _ := j4
    have nE := FAM.len kR
    obtain ⟨kF, j5, kS⟩ := SF.shut lN fR j4 (q := 4) (m := 7) (by decide) rfl rfl hC
    have j5 : HS _ _ _ [_, _, _, _, kF, _, _, [], _] _ := j5
    have nF := FAM.len kS
    refine l6 _ _ _ ?_ ⟨E, aw.set kz.toNat my, q + 1, O, U, an, kF, kE, _, (d2), (HS.sub j5 (List.sublist_append_left _ _)), T, kS, kR, (agC rfl (agC rfl (agC rfl (agC rfl (agC rfl (agC rfl (agC rfl (agC rfl (agC rfl (agC rfl (agC rfl (agC rfl (agC rfl (agC rfl agN)))))))))))))), rfl, (by exact snd_out et hkn hmem (by assumption) (by assumption)), (by first | assumption | omega | (simp at *; omega)), (by exact fun j hj => by rw [ec, if_neg (fun e => hj e.1.symm)]; exact kW j hj), (by exact succ_step (by omega) (by omega) lC (by assumption))⟩
    omega
   have kp := h8
   try simp only [BS] at kp
   have hsall : ∀ t ∈ br (c.blocks.getD kz.toNat default), ∀ r, bI ax t.toNat r → bI aw kz.toNat r := fun t ht => lC t (by rw [List.take_of_length_le (by omega)]; exact ht)
   have n7 := et.wi kz.toNat hkn
   refine aa ?_
   refine aK (bF (α := U64) (ps := []) (cells := []) ([] : List U64) f2 rfl rfl rfl (by kernel_rfl) rfl rfl) rfl rfl ?_
   rintro _ oN mW ⟨oW, o4, rfl, lV, (j6 : HS _ _ _ [_, _, b9, an, e5, _, _, mW] _), _⟩
   obtain ⟨nz, l2⟩ := Sv.view (OS.sv T j6 (i := 3) rfl)
   obtain ⟨lJ, kx, hK, em, lP⟩ := SF.open g6 j6 (q := 4) (i := kz.toNat) rfl (by first | (dsimp only; omega) | omega)
   have hK : HS _ _ _ [_, _, _, _, lJ, _, _, _, kx] _ := hK
   have em : OS h0 (.slice (E.getD kz.toNat default).a (E.getD kz.toNat default).n (E.getD kz.toNat default).k) (aw.getD kz.toNat default) kx := em
   have oe := OS.nlen em
   refine wRo 4 1 [(4, .o (.slice (E.getD kz.toNat default).a (E.getD kz.toNat default).n (E.getD kz.toNat default).k))] 68 71 [] [(71, (.slice (E.getD kz.toNat default).a (E.getD kz.toNat default).n (E.getD kz.toNat default).k))] (vA (Sv.ix (j := kz) (OS.sv T j6 (i := 3) rfl) (by first | (dsimp only; omega) | omega) (by first | (dsimp only; omega) | omega)) (vA (ql 147 0 (vH (l2 kz.toNat) (by first | (dsimp only; omega) | omega)) rfl rfl) trivial)) rfl fun _ => ?_
   refine aK (ca (α := U64) (q := 7) lV hK rfl rfl rfl (OS.sv em hK (i := 8) rfl) rfl rfl rfl rfl rfl rfl rfl (by first | omega | (simp only [List.length_append, List.length_cons, List.length_nil]; omega))) rfl rfl ?_
   rintro _ oP lD ⟨ha, hh, rfl, jq, (j7 : HS _ _ _ [_, _, _, _, _, _, _, lD, _] _), _⟩
   have jq : OS h0 (.slice ha (aw.getD kz.toNat default).length hh) (aw.getD kz.toNat default) lD := jq
   refine wa (.slice ha (aw.getD kz.toNat default).length hh) rfl rfl rfl ?_
   refine aj 2 rfl ?_
   refine aa ?_
   refine wRo 2 0 [(1, .o dv)] 73 74 [] [(73, (.slice ha (aw.getD kz.toNat default).length hh)), (74, dv)] (vA (qn 48 0 5 (HS.hc j7 (i := 5) rfl) rfl rfl rfl rfl) trivial) rfl fun _ => ?_
   refine aE (aB rfl rfl rfl) rfl rfl (mb.addT_c ex (aw.getD kz.toNat default) (c.blocks.getD kz.toNat default) (HS.callOwn j7 (i := 7) rfl) jq a6 (by first | (dsimp only; omega) | omega) (by first | (dsimp only; omega) | omega) (by first | (dsimp only; omega) | omega) (by first | (dsimp only; omega) | omega) hT (by first | omega | exact fun hf => by have := hfn hf; omega) (by first | omega | exact fun hf => by have := hfn hf; omega)) ?_
   rintro _ oQ ⟨lc, la, mK, cc, hQ, rfl, i2, nK, nO⟩
   replace hQ : HS _ _ _ [_, _, _, _, _, _, _, la, _] _ := HS.backOwn j7 (i := 7) rfl rfl (fun _ hb => hb) hQ
   replace em := em.mono cc
   replace a4 := SF.mono cc a4
   have og := OS.len' i2
   refine aj 3 rfl ?_
   refine wR 2 [(1, .o (.slice (cA (a7 kz.toNat) 0) (c.blocks.getD kz.toNat default).ins.length (cK (a7 kz.toNat) 0)))] 76 79 [12] [(12, (iI (((c.blocks.getD kz.toNat default).ins.length : Int) - 1)))] (vA (ql 46 0 (HS.hc hQ (i := 5) rfl) rfl rfl) (vA (vi (n := ((c.blocks.getD kz.toNat default).ins.length : Int) - 1) (by first | (dsimp only; omega) | omega)) trivial)) rfl fun _ => ?_
   obtain ⟨hu, j8, co⟩ := SF.shut0 lP (cc) hQ (q := 4) (m := 8) (by decide) rfl rfl em
   have j8 : HS _ _ _ [_, _, _, _, hu, _, _, _, []] _ := j8
   have nG := FAM.len co
   refine ak (fun (mm : Nat) f H' => ∃ (sw : List U64) (iz : Int) (ar : Option Addr) (av : Nat) (d1 : Fp) (F' : Fz), Fz.le mK F' ∧ HS (Base.of H []) F' H' [hn, al, b9, an, hu, lh, kl, d1, []] R ∧ OS F' (.slice ar sw.length av) sw d1 ∧ aH f [(1, (.pointer (some ⟨b1, 0, none⟩))), (2, (.slice J A.length N)), (3, (.slice O E.length U)), (4, (iI (c.blocks.length : Int))), (6, (.bool m2)), (7, (iI kz)), (8, (.pointer (some ⟨h3, 0, none⟩))), (11, (.slice ar sw.length av)), (12, (iI iz)), (38, (.bool mo)), (42, (.bool (decide ((0 : Int) ≤ kz)))), (49, dv), (50, dv), (51, (.slice km (br (c.blocks.getD kz.toNat default)).length k6)), (52, (iI ((br (c.blocks.getD kz.toNat default)).length : Int))), (53, (iI (q : Int))), (54, (.bool (decide ((q : Int) < ((br (c.blocks.getD kz.toNat default)).length : Int))))), (74, dv)] ∧ mm = (iz + 1).toNat ∧ (sw.length = wds c) ∧ (∀ r, ap sw r = true ↔ tr ((c.blocks.getD kz.toNat default).ins.drop (iz + 1).toNat) (endS (c.blocks.getD kz.toNat default) (bI aw kz.toNat)) r) ∧ (-1 ≤ iz ∧ iz < ((c.blocks.getD kz.toNat default).ins.length : Int))) _ ⟨lc, ((c.blocks.getD kz.toNat default).ins.length : Int) - 1, ha, hh, la, _, fR, j8, (OS.norm i2), (agC rfl (agC rfl (agC rfl (agC rfl (agC rfl (agC rfl (agC rfl (agC (show Value.slice ha (aw.getD kz.toNat default).length hh = Value.slice ha lc.length hh by rw [OS.len' i2]) (agC rfl (agC rfl (agC rfl (agC rfl (agC rfl (agC rfl (agC rfl (agC rfl (agC rfl (agC rfl agN)))))))))))))))))), rfl, (by omega), (by exact tr_start (by omega) (fun r => Iff.rfl) (by assumption)), (by first | assumption | omega | (simp at *; omega))⟩ ?_
   rintro ov o1 oR ⟨sw, iz, ar, av, d1, mL, ch, c4, hl, kT, rfl, hsw, htr, hiz⟩ l7
   refine aq _ kT (fun _ => ?_)
   clear kT
   replace hT := (hT.mono cc).mono ch
   replace I := (I.mono cc).mono ch
   replace T := (T.mono cc).mono ch
   replace a6 := (a6.mono cc).mono ch
   replace a4 := SF.mono ch a4
   replace co := SF.mono ch co
   refine am 2 rfl ?_
   refine wR 1 [] 80 81 [] [(81, (.bool (decide ((0 : Int) ≤ iz))))] trivial rfl fun _ => ?_
   refine au 3 5 (v := (decide ((0 : Int) ≤ iz))) rfl rfl rfl rfl (fun h9 => ?_) (fun h9 => ?_)
   ·
    have kr := h9
    try simp only [BS] at kr
    have hvl : (∀ x ∈ aD ((c.blocks.getD kz.toNat default).ins.getD iz.toNat default), 0 ≤ x ∧ x < c.regs) ∧ (∀ x ∈ ab ((c.blocks.getD kz.toNat default).ins.getD iz.toNat default), 0 ≤ x ∧ x < c.regs) ∧ ((c.blocks.getD kz.toNat default).ins.getD iz.toNat default).args.length ≤ 6 := cb (vF.ins kz.toNat hkn iz.toNat (show iz.toNat < (c.blocks.getD kz.toNat default).ins.length by omega))
    have n5 := hvl.2.2
    refine aa ?_
    obtain ⟨ku, k3⟩ := Sv.view (SR.sv a6 c4)
    obtain ⟨m8, m9, ne, ng, nh, lv⟩ := VInT.fx (k3 iz.toNat)
    let lE : Value := (.agg ⟨[(iI ((c.blocks.getD kz.toNat default).ins.getD iz.toNat default).i.op), (iI ((c.blocks.getD kz.toNat default).ins.getD iz.toNat default).i.a), (iI ((c.blocks.getD kz.toNat default).ins.getD iz.toNat default).i.b), (iI ((c.blocks.getD kz.toNat default).ins.getD iz.toNat default).i.c), (iI ((c.blocks.getD kz.toNat default).ins.getD iz.toNat default).i.n), (.slice (cA (ku iz.toNat) 5) ((c.blocks.getD kz.toNat default).ins.getD iz.toNat default).args.length (cK (ku iz.toNat) 5))]⟩)
    refine wRo 6 0 [(2, .o (.slice (cA (a7 kz.toNat) 0) (c.blocks.getD kz.toNat default).ins.length (cK (a7 kz.toNat) 0))), (5, .o lE)] 84 89 [] [(84, (.slice ar sw.length av)), (89, lE)] (vA (ql 46 0 (HS.hc c4 (i := 5) rfl) rfl rfl) (vA (Sv.ix (j := iz) (SR.sv a6 c4) (by first | (dsimp only; omega) | omega) (by first | (dsimp only; omega) | omega)) (vA (qn 52 0 6 (VInT.vw (k3 iz.toNat) (by first | (dsimp only; omega) | omega)) rfl rfl rfl rfl) trivial))) rfl fun _ => ?_
    refine aE (aB rfl rfl rfl) rfl rfl (mb.iM ex sw ((c.blocks.getD kz.toNat default).ins.getD iz.toNat default) (HS.callOwn c4 (i := 7) rfl) hl (by first | (dsimp only; omega) | omega) (by first | (dsimp only; omega) | omega) (by first | (dsimp only; omega) | omega) (by first | (dsimp only; omega) | omega) (by first | (dsimp only; omega) | omega) lv hT (by first | omega | exact fun x hx => by have := hvl.1 x hx; omega | exact fun x hx => by have := hvl.2.1 x hx; omega) (by first | omega | exact fun x hx => by have := hvl.1 x hx; omega | exact fun x hx => by have := hvl.2.1 x hx; omega) (by first | omega | exact fun x hx => by have := hvl.1 x hx; omega | exact fun x hx => by have := hvl.2.1 x hx; omega) (by first | omega | exact fun x hx => by have := hvl.1 x hx; omega | exact fun x hx => by have := hvl.2.1 x hx; omega)) ?_
    rintro _ oT ⟨ld, lb, oz, lQ, j9, rfl, i3, nL, nP⟩
    replace j9 : HS _ _ _ [_, _, _, _, _, _, _, lb, _] _ := HS.backOwn c4 (i := 7) rfl rfl (fun _ hb => hb) j9
    have oi := OS.len' i3
    refine aj 2 rfl ?_
    refine wR 1 [] 82 83 [12] [(12, (iI (iz - 1)))] (vA (vi (n := iz - 1) (by first | (dsimp only; omega) | omega)) trivial) rfl fun _ => ?_
    refine l7 _ _ _ ?_ ⟨ld, iz - 1, ar, av, lb, _, (fT (ch) lQ), j9, (OS.norm i3), (agC rfl (agC rfl (agC rfl (agC rfl (agC rfl (agC rfl (agC rfl (agC (show Value.slice ar sw.length av = Value.slice ar ld.length av by rw [OS.len' i3]) (agC rfl (agC rfl (agC rfl (agC rfl (agC rfl (agC rfl (agC rfl (agC rfl (agC rfl (agC rfl agN)))))))))))))))))), rfl, (by omega), (by rw [show (iz - 1 + 1).toNat = iz.toNat by omega]; exact tr_next (by omega) (by rw [show iz.toNat + 1 = (iz + 1).toNat by omega]; exact htr) (by assumption)), (by first | assumption | omega | (simp at *; omega))⟩
    omega
   have kr := h9
   try simp only [BS] at kr
   have hV : ∀ r, ap sw r = true ↔ inS (c.blocks.getD kz.toNat default) (bI aw kz.toNat) r := fun r => by have := htr r; rwa [show (iz + 1).toNat = 0 by omega, List.drop_zero] at this
   refine aa ?_
   obtain ⟨nA, l3⟩ := Sv.view (OS.sv I c4 (i := 1) rfl)
   obtain ⟨lK, ky, ka, f0, kI⟩ := SF.open a4 c4 (q := 2) (i := kz.toNat) rfl (by first | (dsimp only; omega) | omega)
   have ka : HS _ _ _ [_, _, lK, _, _, _, _, d1, _, ky] _ := ka
   have f0 : OS mL (.slice (A.getD kz.toNat default).a (A.getD kz.toNat default).n (A.getD kz.toNat default).k) (ax.getD kz.toNat default) ky := f0
   have oj := OS.nlen f0
   refine wRo 5 0 [(3, .o (.slice (A.getD kz.toNat default).a (A.getD kz.toNat default).n (A.getD kz.toNat default).k))] 91 95 [] [(94, (.slice (A.getD kz.toNat default).a (A.getD kz.toNat default).n (A.getD kz.toNat default).k)), (95, (.slice ar sw.length av))] (vA (Sv.ix (j := kz) (OS.sv I c4 (i := 1) rfl) (by first | (dsimp only; omega) | omega) (by first | (dsimp only; omega) | omega)) (vA (ql 147 0 (vH (l3 kz.toNat) (by first | (dsimp only; omega) | omega)) rfl rfl) trivial)) rfl fun _ => ?_
   obtain ⟨oB, ci, hS, lW, n1⟩ := OS.frz hl ka (i := 7) rfl
   have hS : HS _ _ _ [_, _, _, _, _, _, _, [], _, _] _ := hS
   replace hT := hT.mono ci
   replace f0 := f0.mono ci
   replace co := SF.mono ci co
   refine aE (aB rfl rfl rfl) rfl rfl (mb.union_c ex (ax.getD kz.toNat default) sw (HS.callOwn hS (i := 9) rfl) f0 lW hT (by first | (dsimp only; omega) | omega) (by first | (dsimp only; omega) | omega)) ?_
   rintro _ oU ⟨mX, lf, mx, oA, ea, hR, rfl, ja, nM, nQ, nS, nU⟩
   replace hR : HS _ _ _ [_, _, _, _, _, _, _, _, _, mx] _ := HS.backOwn hS (i := 9) rfl rfl (fun _ hb => hb) hR
   replace I := (I.mono ci).mono ea
   replace T := (T.mono ci).mono ea
   replace co := SF.mono ea co
   have om := OS.len' ja
   refine aj 1 rfl ?_
   refine au 0 2 (v := mX) rfl rfl rfl rfl (fun ib => ?_) (fun ib => ?_)
   ·
    have kt := ib
    try simp only [BS] at kt
    refine wR 2 [] 1 0 [6] [(6, (.bool true))] trivial rfl fun _ => ?_
    refine wR 1 [] 43 44 [7] [(7, (iI (kz - 1)))] (vA (vi (n := kz - 1) (by first | (dsimp only; omega) | omega)) trivial) rfl fun _ => ?_
    obtain ⟨kG, kc, kU⟩ := SF.shut kI (fT (ci) ea) hR (q := 2) (m := 9) (by decide) rfl rfl ja
    have kc : HS _ _ _ [_, _, kG, _, _, _, _, _, _, []] _ := kc
    have nH := FAM.len kU
    refine k4 _ _ _ ?_ ⟨E, aw, A, ax.set kz.toNat lf, kz - 1, true, J, N, al, O, U, an, kG, hu, _, (fT (fT (fT (fT (fT (fT (f9) c0) d2) cc) ch) ci) ea), (HS.sub kc (List.sublist_append_left _ _)), I, T, kU, co, (agC rfl (agC rfl (agC rfl (agC rfl (agC rfl (agC rfl (agC rfl agN))))))), rfl, (by exact snd_in et hkn (by assumption) (by assumption) hV), (by first | assumption | omega | (simp at *; omega)), (by first | (intro h; cases h; done) | exact keep0 (by assumption) (by assumption) kj), (by first | exact fun _ => cnt_t kj h4 (cnt_more (by omega) (by assumption) (by assumption) (use4 (by assumption) (by assumption))) | exact keep1 (by assumption) (by assumption) h4), (by first | (intro h; cases h; done) | (intro h; exact clk (cl_step hkn (fun b h1 => hcl h b (by omega)) kW hsall hV (use3 (by assumption) (by assumption)) (by assumption))))⟩
    omega
   have kt := ib
   try simp only [BS] at kt
   refine wR 1 [] 43 44 [7] [(7, (iI (kz - 1)))] (vA (vi (n := kz - 1) (by first | (dsimp only; omega) | omega)) trivial) rfl fun _ => ?_
   obtain ⟨kH, kd, kV⟩ := SF.shut kI (fT (ci) ea) hR (q := 2) (m := 9) (by decide) rfl rfl ja
   have kd : HS _ _ _ [_, _, kH, _, _, _, _, _, _, []] _ := kd
   have nI := FAM.len kV
   refine k4 _ _ _ ?_ ⟨E, aw, A, ax.set kz.toNat lf, kz - 1, m2, J, N, al, O, U, an, kH, hu, _, (fT (fT (fT (fT (fT (fT (f9) c0) d2) cc) ch) ci) ea), (HS.sub kd (List.sublist_append_left _ _)), I, T, kV, co, (agC rfl (agC rfl (agC rfl (agC rfl (agC rfl (agC rfl (agC rfl agN))))))), rfl, (by exact snd_in et hkn (by assumption) (by assumption) hV), (by first | assumption | omega | (simp at *; omega)), (by first | (intro h; cases h; done) | exact keep0 (by assumption) (by assumption) kj), (by first | exact fun _ => cnt_t kj h4 (cnt_more (by omega) (by assumption) (by assumption) (use4 (by assumption) (by assumption))) | exact keep1 (by assumption) (by assumption) h4), (by first | (intro h; cases h; done) | (intro h; exact clk (cl_step hkn (fun b h1 => hcl h b (by omega)) kW hsall hV (use3 (by assumption) (by assumption)) (by assumption))))⟩
   omega
  have ko := h7
  try simp only [BS] at ko
  refine l5 _ _ _ ?_ ⟨g8, g9, A, ax, m2, J, N, al, c5, dd, b5, b6, b7, _, (fT (hw) f9), g2, I, e3, c6, c7, (agC rfl (agC rfl (agC rfl (agC rfl (agC rfl agN))))), rfl, (by exact f4), (by exact fun h b hb => hcl h b (by omega) hb)⟩
  rw [hmo]; exact mea_lt h4 (cnt_le f4.li f4.wi)
 have ki := h6
 try simp only [BS] at ki
 refine wR 1 [] 97 98 [2, 3] [(2, (.slice bb g5.length b0)), (3, (.slice bk g7.length b2))] trivial rfl fun _ => ?_
 obtain ⟨oC, hz, ke, lR⟩ := SF.freeze e0 kY (q := 2) rfl
 have ke : HS _ _ _ [_, dk, _, dl, dt] _ := ke
 replace e1 := e1.mono hz
 replace ay := SF.mono hz ay
 obtain ⟨oD, hA, kf, lX, n2⟩ := OS.frz e1 ke (i := 1) rfl
 have kf : HS _ _ _ [_, [], _, _, _] _ := kf
 replace ay := SF.mono hA ay
 have g0 := SR.rows lX (FAM.len e0) (fun i hi => SR.mono hA (lR i hi))
 have mr := SR.len' g0
 have nk := SR.norm g0
 obtain ⟨oE, iv, kg, lS⟩ := SF.freeze ay kf (q := 4) rfl
 have kg : HS _ _ _ [_, _, _, _, []] _ := kg
 replace e2 := ((e2.mono hz).mono hA).mono iv
 obtain ⟨oF, i1, kh, lY, n3⟩ := OS.frz e2 kg (i := 3) rfl
 have kh : HS _ _ _ [_, _, _, [], _] _ := kh
 replace g0 := (g0.mono iv).mono i1
 have jw := SR.rows lY (FAM.len ay) (fun i hi => SR.mono i1 (lS i hi))
 have ms := SR.len' jw
 have nl := SR.norm jw
 refine az ⟨.inr rfl, _, rfl, bb, b0, ez, bk, b2, hm, _, (fT (fT (fT (fT (fT (hv) hw) hz) hA) iv) i1), (HS.forget kh), (by simp only [mr, ms]; rfl), (SR.norm g0), (SR.norm jw), (by exact anF_of snd (cl (by assumption)))⟩
end Go.Proofs.YtknafdcgpaejlaaDoor.mc
