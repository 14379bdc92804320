/-
 Live registers: the solution of the equations, by a symbolic run. No condition but that the function is valid.
-/
import Derived.Test.YtknafdcgpaejlaaDoorZGMB
noncomputable section
namespace Go.Proofs.YtknafdcgpaejlaaDoor.mc
open Go.R
set_option maxRecDepth 10000
set_option linter.unusedVariables false
set_option linter.unusedSimpArgs false
variable (ex : FuncId) {F : Fz} {H : Heap} {R : List Fp}
open m1 m2 m3 m4 m5 m6 ma ml mb
theorem zset {l : List (List U64)} {k : Nat} {z : List U64} (h : ∀ j, j < k → l.getD j default = z) (hk : k < l.length) : ∀ j, j < k + 1 → (l.set k z).getD j default = z := fun j hj => by
 rw [d8]
 split
 ·
  rfl
 rename_i hq; exact h j (by omega)
theorem mem_at {l : List Int} {q : Nat} (h : q < l.length) : l.getD q 0 ∈ l := by
 rw [a01, a03 h]; exact a1l h
theorem succ_step {I O : List (List U64)} {k q : Nat} {s : List U64} {l : List Int} (hq : q < l.length) (hk : k < O.length) (h : ∀ t ∈ l.take q, ∀ r, bI I t.toNat r → bI O k r) (hb : ∀ i, aF s i = (aF (O.getD k default) i || aF (I.getD (l.getD q 0).toNat default) i)) : ∀ t ∈ l.take (q + 1), ∀ r, bI I t.toNat r → bI (O.set k s) k r := by
 intro t ht r hr
 unfold bI
 rw [d8, if_pos ⟨rfl, hk⟩, hb, a0O]
 rw [bo hq (d := 0), a09, a0e] at ht
 rcases ht with ht | rfl
 ·
  exact .inl (h t ht r hr)
 exact .inr hr
theorem tr_start {b : BlkT} {S : Nat → Prop} {s z : List U64} {n : Nat} (hn : b.ins.length ≤ n) (hs : ∀ r, aF s r = true ↔ S r) (h : ∀ i, aF z i = (aF s i || decide ((i : Int) ∈ df b))) (r : Nat) : aF z r = true ↔ tr (b.ins.drop n) (endS b S) r := by
 rw [a1P hn, h, a0O, hs, decide_eq_true_eq]; exact Iff.rfl
theorem cl_step {c : VFnT} {I O A : List (List U64)} {s z : List U64} {k : Nat} (hk : k < c.blocks.length) (hcl : ∀ b : Nat, (k : Int) < (b : Int) → b < c.blocks.length → Cl1 c I O b) (ho : ∀ j, j ≠ k → A.getD j default = O.getD j default) (hs : ∀ t ∈ aW (bQ c k), ∀ r, bI I t.toNat r → bI A k r)
  (ht : ∀ r, aF s r = true ↔ inS (bQ c k) (bI A k) r) (hz : z = I.getD k default) (hb : ∀ i, aF z i = (aF (I.getD k default) i || aF s i)) : ∀ b : Nat, (k : Int) - 1 < (b : Int) → b < c.blocks.length → Cl1 c (I.set k z) A b := by
 intro b T N
 rw [hz, eb]
 by_cases e : b = k
 ·
  subst e
  refine ⟨hs, fun r hr => ?_⟩
  have := hb r
  rw [hz] at this
  unfold bI
  rw [this, (ht r).2 hr, Bool.or_true]
 have J := hcl b (by omega) N
 have E : bI A b = bI O b := by unfold bI; rw [ho b e]
 exact ⟨fun t ht r hr => by rw [E]; exact J.1 t ht r hr, fun r hr => J.2 r (by rw [E] at hr; exact hr)⟩
theorem cnt_t {m2 : Bool} {A B D : List (List U64)} (h0 : m2 = false → B = A) (z : m2 = true → ku A < ku B) (h : ku B < ku D) : ku A < ku D := by
 cases m2 with
 | false => rw [h0 rfl] at h; exact h
 | true => have := z rfl; omega
theorem keep0 {m2 r : Bool} {A B : List (List U64)} {k : Nat} {z : List U64} (E : r = false → z = B.getD k default) (hr : r = false) (h0 : m2 = false → B = A) : m2 = false → B.set k z = A := fun h => by rw [E hr, eb]; exact h0 h
theorem keep1 {m2 r : Bool} {A B : List (List U64)} {k : Nat} {z : List U64} (J : r = false → z = B.getD k default) (hr : r = false) (E : m2 = true → ku A < ku B) : m2 = true → ku A < ku (B.set k z) := fun h => by rw [J hr, eb]; exact E h
theorem use3 {α : Prop} {r : Bool} (h : r = false → α) (hr : r = false) : α := h hr
theorem use4 {α : Prop} {r : Bool} (h : r = true → α) (hr : r = true) : α := h hr
theorem succ_len {b : BlkT} : (aW b).length ≤ 2 := by
 unfold aW
 split
 ·
  simp
 split
 ·
  exact ins_len
 simp
theorem wd_le {c : VFnT} (h : 0 ≤ c.regs ∧ c.regs ≤ 3000) : c.regs ≤ 64 * ((wds c : Nat) : Int) ∧ wds c ≤ 48 := by
 unfold wds
 rw [a15 (by omega)]; omega
set_option maxHeartbeats 2000000 in
theorem analyze_c {e3 : Option Addr} {f0 : Nat} (c : VFnT) (hs : HS (.of H []) F H [] R) (oD : in64 c.params) (oE : in64 c.regs) (c3 : SR F (.slice e3 c.blocks.length f0) c.blocks) (hT : TB 37 tabC F) (hval : cx c = true) (hins : ∀ j, (c.blocks.getD j default).ins.length ≤ 1099511627776) : kKt ex 111 [(.agg ⟨[(iI c.params), (iI c.regs), (.slice e3 c.blocks.length f0)]⟩)] H fun v H' => ∃ (ail : Option Addr) (kil : Nat) (il : List (List U64)) (aol : Option Addr) (kol : Nat) (ol : List (List U64)) (F' : Fz), Fz.le F F' ∧ HS (.of H []) F' H' [] R ∧ v = .tuple ⟨[.slice ail il.length kil, .slice aol ol.length kol]⟩ ∧ SR F' (.slice ail il.length kil) il ∧ SR F' (.slice aol ol.length kol) ol ∧ (AnF c il ol) := by
 have vF := iA hval
 have hnb := vF.nb
 have hrg := vF.regs
 have hwd := wd_le hrg
 refine aI Tryd.func111 rfl rfl (ah 1 rfl (aa (aH (bw hs rfl rfl) rfl rfl ?_)))
 rintro _ H2 _ ⟨b1, rfl, (lC : HS _ _ _ [[(b1, .cells [(iI c.params), (iI c.regs), (.slice e3 c.blocks.length f0)] none false)]] _), _⟩
 refine wTo 2 1 [] 1 0 [2, 3] [(2, (.slice none 0 0)), (3, (.slice none 0 0))] rfl fun _ => ae 2 rfl (wU 2 [(1, .o (.slice e3 c.blocks.length f0))] 13 15 [4] [(4, (iI (c.blocks.length : Int)))] (ql 22 2 (HS.hc lC (i := 0) rfl) rfl rfl) rfl fun _ => aY rfl (fm (iI (c.blocks.length : Int)) rfl rfl rfl (cg (id := .x []) (dg (default : Hd) lC.log0 rfl rfl rfl rfl rfl rfl rfl rfl rfl rfl (by omega) (by omega)) rfl rfl (by rintro _ _ p5 ⟨a5, k5, rfl, l3, _, hwr⟩; exact cz rfl rfl (Wr.did hwr)) (kb rfl) ?_)))
 rintro _ H6 p5 ⟨a5, k5, rfl, l3, g7, _⟩ nD mC
 replace g7 := HS.lg g7 lC mC
 generalize ({ H6 with log := nD } : Heap) = pq at g7 ⊢
 have g7 : HS _ _ _ [_, p5] _ := g7
 have kx := HS.snoc g7
 have kx : HS _ _ _ [_, _, []] _ := kx
 have l0 : SF F (List.replicate c.blocks.length (default : Hd)) (List.replicate c.blocks.length ([] : List U64)) [] := SF.rep _
 have pG := FAM.len l0
 refine fm (iI (c.blocks.length : Int)) rfl rfl rfl (cg (id := .x []) (dg (default : Hd) kx.log0 rfl rfl rfl rfl rfl rfl rfl rfl rfl rfl (by omega) (by omega)) rfl rfl (by rintro _ _ p8 ⟨a8, k8, rfl, l4, _, hwr⟩; exact cz rfl rfl (Wr.did hwr)) (⟨.inl rfl, ⟨.inr ⟨trivial, trivial⟩, ⟨.inr trivial, trivial⟩⟩⟩) ?_)
 rintro _ H9 p8 ⟨a8, k8, rfl, l4, g8, _⟩ nE mD
 replace g8 := HS.lg g8 kx mD
 generalize ({ H9 with log := nE } : Heap) = pz at g8 ⊢
 have g8 : HS _ _ _ [_, _, _, p8] _ := g8
 have i1 := HS.snoc g8
 have i1 : HS _ _ _ [_, _, _, _, []] _ := i1
 have lj : SF F (List.replicate c.blocks.length (default : Hd)) (List.replicate c.blocks.length ([] : List U64)) [] := SF.rep _
 have oa := FAM.len lj
 let hf : Fp := [(b1, .cells [(iI c.params), (iI c.regs), (.slice e3 c.blocks.length f0)] none false)]
 refine fa (.slice a5 (List.replicate c.blocks.length (default : Hd)).length k5) rfl rfl rfl (fa (.slice a8 (List.replicate c.blocks.length (default : Hd)).length k8) rfl rfl rfl (cu (ah 3 rfl (wT 2 [] 20 22 [] [(21, (iI ((List.replicate c.blocks.length (default : Hd)).length : Int))), (22, (iI 0))] rfl fun _ => aj (fun (mm : Nat) f H' => ∃ (oh : List Hd) (ol : List (List U64)) (ih : List Hd) (il : List (List U64)) (k : Nat) (Y : Option Addr) (ad : Nat) (b2 : Fp) (Z : Option Addr) (ag : Nat) (b3 : Fp) (dn : Fp) (ds : Fp) (F' : Fz), Fz.le F F' ∧ HS (Base.of H []) F' H' [hf, b2, dn, b3, ds] R ∧ OS F' (.slice Y ih.length ad) ih b2 ∧ OS F' (.slice Z oh.length ag) oh b3 ∧ SF F' ih il dn ∧ SF F' oh ol ds ∧ aD f [(1, (.pointer (some ⟨b1, 0, none⟩))), (2, (.slice Y ih.length ad)), (3, (.slice Z oh.length ag)), (4, (iI (c.blocks.length : Int))), (21, (iI ((List.replicate c.blocks.length (default : Hd)).length : Int))), (22, (iI (k : Int)))] ∧ mm = c.blocks.length - k ∧ (il.length = c.blocks.length) ∧ (ol.length = c.blocks.length) ∧ (∀ j, j < k → il.getD j default = List.replicate (wds c) ⟨0⟩) ∧ (∀ j, j < k → ol.getD j default = List.replicate (wds c) ⟨0⟩) ∧ (k ≤ c.blocks.length)) _ ⟨List.replicate c.blocks.length (default : Hd), List.replicate c.blocks.length ([] : List U64), List.replicate c.blocks.length (default : Hd), List.replicate c.blocks.length ([] : List U64), 0, a5, k5, p5, a8, k8, p8, [], [], _, fR, i1, l3, l4, l0, lj, ⟨rfl, rfl, rfl, rfl, rfl, rfl, trivial⟩, rfl, (by simp), (by simp), (by intro j hj; omega), (by intro j hj; omega), (by omega)⟩ ?_))))
 rintro o1 pB ph ⟨oh, ol, ih, il, k, Y, ad, b2, Z, ag, b3, dn, ds, nt, hn, f8, c8, c9, a3, a4, ll, rfl, li, lo, zi, zo, hk⟩ mN
 refine au _ ll (fun _ => ?_)
 clear ll
 replace hT := hT.mono hn
 replace c3 := c3.mono hn
 have nj := FAM.len a3
 have nk := FAM.len a4
 have hrl : (List.replicate c.blocks.length (default : Hd)).length = c.blocks.length := a0P
 refine ah 1 rfl (wT 2 [] 23 23 [] [(23, (.bool (decide ((k : Int) < ((List.replicate c.blocks.length (default : Hd)).length : Int)))))] rfl fun _ => am 4 6 (v := (decide ((k : Int) < ((List.replicate c.blocks.length (default : Hd)).length : Int)))) rfl rfl rfl rfl (fun hS => ?_) (fun hS => ?_))
 ·
  have kS := hS
  try simp only [BS] at kS
  refine wT 1 [] 24 24 [5] [(5, (iI (k : Int)))] rfl fun _ => aY rfl (fm (.slice Y ih.length ad) rfl rfl rfl (fm (iI (k : Int)) rfl rfl rfl (fm (.slice Z oh.length ag) rfl rfl rfl (fm (iI (k : Int)) rfl rfl rfl ?_))))
  refine wfv (v := (.pointer (some ⟨b1, 1, none⟩))) (dG rfl rfl) (aB (v := (iI c.regs)) (id := .l b1) (bt (i := 1) rfl rfl (HS.hc f8.log0 (i := 0) rfl) rfl rfl) rfl rfl (bG rfl) (kb rfl) (bj (W := []) (ap rfl rfl rfl) rfl rfl rfl (mb.empty_c ex c.regs (HS.call f8.log0) (by omega) hT (by omega)) (kb rfl) ?_))
  rintro _ ny ⟨hh, hK, pJ, nF, o6, e4, a1, rfl, hC, rfl⟩
  refine ⟨Wr.did a1.log, fun mU lQ => ?_⟩
  replace a1 := HS.back f8.log0 rfl a1
  replace a1 := HS.lg a1 f8 lQ
  generalize ({ ny with log := mU } : Heap) = nX at a1 ⊢
  have a1 : HS _ _ _ [_, b2, dn, b3, ds, nF] _ := a1
  replace hT := hT.mono e4
  replace a3 := SF.mono e4 a3
  replace a4 := SF.mono e4 a4
  refine wfv (v := (.pointer (some ⟨b1, 1, none⟩))) (dG rfl rfl) (aB (v := (iI c.regs)) (id := .l b1) (bt (i := 1) rfl rfl (HS.hc a1.log0 (i := 0) rfl) rfl rfl) rfl rfl (bG rfl) (⟨.inl rfl, ⟨.inr a0f, ⟨.inr trivial, ⟨.inr trivial, ⟨.inr trivial, ⟨.inr trivial, ⟨.inr trivial, ⟨.inr trivial, trivial⟩⟩⟩⟩⟩⟩⟩⟩) (bj (W := []) (ap rfl rfl rfl) rfl rfl rfl (mb.empty_c ex c.regs (HS.call a1.log0) (by omega) hT (by omega)) (kb rfl) ?_))
  rintro _ nz ⟨hl, hM, pK, nG, lZ, e5, bb, rfl, lW, rfl⟩
  refine ⟨Wr.did bb.log, fun mV lR => ?_⟩
  replace bb := HS.back a1.log0 rfl bb
  replace bb := HS.lg bb a1 lR
  generalize ({ nz with log := mV } : Heap) = nY at bb ⊢
  have bb : HS _ _ _ [_, _, _, _, _, _, nG] _ := bb
  replace hC := hC.mono e5
  replace c8 := (c8.mono e4).mono e5
  replace c9 := (c9.mono e4).mono e5
  replace a3 := SF.mono e5 a3
  replace a4 := SF.mono e5 a4
  refine wfv (v := (.pointer (some ⟨sB (.slice Y ih.length ad), sO (.slice Y ih.length ad) + k * Rp.sz Hd, none⟩))) (bd (α := Hd) (j := (k : Int)) rfl rfl rfl rfl (OS.sv c8 bb.log0 (i := 1) rfl) (by omega) (by omega)) ?_
  obtain ⟨mn, kY, i2, ii, ms⟩ := SF.open a3 bb (q := 2) (i := k) rfl (by omega)
  have i2 : HS _ _ _ [_, _, mn, _, _, _, _, kY] _ := i2
  have ii : OS lZ (.slice (ih.getD k default).a (ih.getD k default).n (ih.getD k default).k) (il.getD k default) kY := ii
  have oQ := OS.nlen ii
  obtain ⟨k7, hD, lm⟩ := SF.shutN (⟨hh, (List.replicate (Int.tdiv (c.regs + 63) 64).toNat (⟨0⟩ : U64)).length, hK⟩ : Hd) ms fR i2 (q := 2) (m := 5) (by decide) rfl rfl hC
  have hD : HS _ _ _ [_, _, k7, _, _, [], _, _] _ := hD
  have ob := FAM.len lm
  refine iu (id := .x (b2.map Prod.fst)) (bY (α := Hd) (j := k) (off := 0) (q := 1) (⟨hh, (List.replicate (Int.tdiv (c.regs + 63) 64).toNat (⟨0⟩ : U64)).length, hK⟩ : Hd) c8 hD.log0 rfl rfl rfl rfl rfl rfl rfl rfl (aK (x := default) (by omega)) rfl (by rintro cs rfl; exact ⟨a04 rfl, rfl⟩)) rfl (by rintro _ _ lI ⟨hz, _, hwr⟩; exact cz rfl rfl (Wr.did hwr)) (kb rfl) ?_
  rintro _ nA lI ⟨hz, d4, _⟩ mW lS
  replace d4 := HS.lg d4 hD lS
  generalize ({ nA with log := mW } : Heap) = nZ at d4 ⊢
  have d4 : HS _ _ _ [_, lI, _, _, _, _, _, _] _ := d4
  have nS := OS.len' hz
  refine wfv (v := (.pointer (some ⟨sB (.slice Z oh.length ag), sO (.slice Z oh.length ag) + k * Rp.sz Hd, none⟩))) (bd (α := Hd) (j := (k : Int)) rfl rfl rfl rfl (OS.sv c9 d4.log0 (i := 3) rfl) (by omega) (by omega)) ?_
  obtain ⟨mp, kZ, i3, ik, mu⟩ := SF.open a4 d4 (q := 4) (i := k) rfl (by omega)
  have i3 : HS _ _ _ [_, _, _, _, mp, _, _, _, kZ] _ := i3
  have ik : OS lZ (.slice (oh.getD k default).a (oh.getD k default).n (oh.getD k default).k) (ol.getD k default) kZ := ik
  have oR := OS.nlen ik
  obtain ⟨k9, hE, ln⟩ := SF.shutN (⟨hl, (List.replicate (Int.tdiv (c.regs + 63) 64).toNat (⟨0⟩ : U64)).length, hM⟩ : Hd) mu fR i3 (q := 4) (m := 6) (by decide) rfl rfl lW
  have hE : HS _ _ _ [_, _, _, _, k9, _, [], _, _] _ := hE
  have oc := FAM.len ln
  refine iu (id := .x (b3.map Prod.fst)) (bY (α := Hd) (j := k) (off := 0) (q := 3) (⟨hl, (List.replicate (Int.tdiv (c.regs + 63) 64).toNat (⟨0⟩ : U64)).length, hM⟩ : Hd) c9 hE.log0 rfl rfl rfl rfl rfl rfl rfl rfl (aK (x := default) (by omega)) rfl (by rintro cs rfl; exact ⟨a04 rfl, rfl⟩)) rfl (by rintro _ _ lJ ⟨hA, _, hwr⟩; exact cz rfl rfl (Wr.did hwr)) (kb rfl) ?_
  rintro _ nB lJ ⟨hA, fd, _⟩ mX lT
  replace fd := HS.lg fd hE lT
  generalize ({ nB with log := mX } : Heap) = n1 at fd ⊢
  have fd : HS _ _ _ [_, _, _, lJ, _, _, _, _, _] _ := fd
  have nT := OS.len' hA
  refine cu (ah 2 rfl (wU 1 [] 22 22 [37] [(22, (iI ((k : Int) + 1)))] (vi (n := (k : Int) + 1) (by omega)) rfl fun _ => mN _ _ _ ?_ ⟨oh.set k (⟨hl, (List.replicate (Int.tdiv (c.regs + 63) 64).toNat (⟨0⟩ : U64)).length, hM⟩ : Hd), ol.set k (List.replicate (Int.tdiv (c.regs + 63) 64).toNat (⟨0⟩ : U64)), ih.set k (⟨hh, (List.replicate (Int.tdiv (c.regs + 63) 64).toNat (⟨0⟩ : U64)).length, hK⟩ : Hd), il.set k (List.replicate (Int.tdiv (c.regs + 63) 64).toNat (⟨0⟩ : U64)), k + 1, Y, ad, lI, Z, ag, lJ, k7, k9, _, (fT (fT (hn) e4) e5), (HS.sub fd (a05 _ _)), (OS.norm hz), (OS.norm hA), lm, ln, (agC rfl (agC (show Value.slice Y ih.length ad = Value.slice Y (ih.set k (⟨hh, (List.replicate (Int.tdiv (c.regs + 63) 64).toNat (⟨0⟩ : U64)).length, hK⟩ : Hd)).length ad by rw [OS.len' hz]) (agC (show Value.slice Z oh.length ag = Value.slice Z (oh.set k (⟨hl, (List.replicate (Int.tdiv (c.regs + 63) 64).toNat (⟨0⟩ : U64)).length, hM⟩ : Hd)).length ag by rw [OS.len' hA]) ⟨rfl, rfl, rfl, trivial⟩))), rfl, (by rw [a0i]; exact li), (by rw [a0i]; exact lo), (zset zi (by omega)), (zset zo (by omega)), (by omega)⟩))
  omega
 have kS := hS
 try simp only [BS] at kS
 refine wT 2 [] 1 0 [6] [(6, (.bool true))] rfl fun _ => aj (fun (mm : Nat) f H' => ∃ (g3 : List Hd) (he : List (List U64)) (g1 : List Hd) (em : List (List U64)) (mo : Bool) (bk : Option Addr) (bz : Nat) (dk : Fp) (bl : Option Addr) (b0 : Nat) (dl : Fp) (e1 : Fp) (dt : Fp) (F' : Fz), Fz.le nt F' ∧ HS (Base.of H []) F' H' [hf, dk, e1, dl, dt] R ∧ OS F' (.slice bk g1.length bz) g1 dk ∧ OS F' (.slice bl g3.length b0) g3 dl ∧ SF F' g1 em e1 ∧ SF F' g3 he dt ∧ aD f [(1, (.pointer (some ⟨b1, 0, none⟩))), (2, (.slice bk g1.length bz)), (3, (.slice bl g3.length b0)), (4, (iI (c.blocks.length : Int))), (6, (.bool mo))] ∧ mm = mea mo (c.blocks.length * (64 * wds c)) (ku em) ∧ (Snd c em he) ∧ (mo = false → ∀ b, b < c.blocks.length → Cl1 c em he b)) _ ⟨oh, ol, ih, il, true, Y, ad, b2, Z, ag, b3, dn, ds, _, fR, f8, c8, c9, a3, a4, ⟨rfl, rfl, rfl, rfl, rfl, trivial⟩, rfl, (snd_start li lo (fun j hj => zi j (by omega)) (fun j hj => zo j (by omega))), (by intro h; cases h)⟩ ?_
 rintro o2 pC pi ⟨g3, he, g1, em, mo, bk, bz, dk, bl, b0, dl, e1, dt, nu, hp, lD, et, ez, es, a0, lp, rfl, snd, cl⟩ mO
 refine au _ lp (fun _ => ?_)
 clear lp
 replace hT := hT.mono hp
 replace c3 := c3.mono hp
 have nl := FAM.len es
 have nm := FAM.len a0
 have hli := snd.li
 have hlo := snd.lo
 refine ah 2 rfl (wT 1 [] 38 38 [] [(38, (.bool mo))] rfl fun _ => am 3 5 (v := mo) rfl rfl rfl rfl (fun hV => ?_) (fun hV => ?_))
 ·
  have kr := hV
  try simp only [BS] at kr
  have hmo := kr
  refine wT 2 [] 1 0 [6] [(6, (.bool false))] rfl fun _ => wU 2 [] 39 40 [7] [(7, (iI ((c.blocks.length : Int) - 1)))] (vi (n := (c.blocks.length : Int) - 1) (by omega)) rfl fun _ => aj (fun (mm : Nat) f H' => ∃ (g4 : List Hd) (g5 : List (List U64)) (z : List Hd) (ay : List (List U64)) (kz : Int) (m2 : Bool) (J : Option Addr) (N : Nat) (al : Fp) (c5 : Option Addr) (dd : Nat) (b4 : Fp) (b6 : Fp) (b7 : Fp) (F' : Fz), Fz.le nu F' ∧ HS (Base.of H []) F' H' [hf, al, b6, b4, b7] R ∧ OS F' (.slice J z.length N) z al ∧ OS F' (.slice c5 g4.length dd) g4 b4 ∧ SF F' z ay b6 ∧ SF F' g4 g5 b7 ∧ aD f [(1, (.pointer (some ⟨b1, 0, none⟩))), (2, (.slice J z.length N)), (3, (.slice c5 g4.length dd)), (4, (iI (c.blocks.length : Int))), (6, (.bool m2)), (7, (iI kz))] ∧ mm = (kz + 1).toNat ∧ (Snd c ay g5) ∧ (-1 ≤ kz ∧ kz < (c.blocks.length : Int)) ∧ (m2 = false → ay = em) ∧ (m2 = true → ku em < ku ay) ∧ (m2 = false → ∀ b : Nat, kz < (b : Int) → b < c.blocks.length → Cl1 c ay g5 b)) _ ⟨g3, he, g1, em, (c.blocks.length : Int) - 1, false, bk, bz, dk, bl, b0, dl, e1, dt, _, fR, lD, et, ez, es, a0, ⟨rfl, rfl, rfl, rfl, rfl, rfl, trivial⟩, rfl, (snd), (by omega), (fun _ => rfl), (by intro h; cases h), (by intro _ b h1 h2; omega)⟩ ?_
  rintro o3 pD pj ⟨g4, g5, z, ay, kz, m2, J, N, al, c5, dd, b4, b6, b7, o7, f5, f9, E, e0, c6, c7, lq, rfl, f1, hkz, l1, lB, hcl⟩ lH
  refine au _ lq (fun _ => ?_)
  clear lq
  replace hT := hT.mono f5
  replace c3 := c3.mono f5
  have nn := FAM.len c6
  have nq := FAM.len c7
  have oF := f1.li
  have oG := f1.lo
  refine ah 2 rfl (wT 1 [] 41 42 [] [(42, (.bool (decide ((0 : Int) ≤ kz))))] rfl fun _ => am 4 5 (v := (decide ((0 : Int) ≤ kz))) rfl rfl rfl rfl (fun hW => ?_) (fun hW => ?_))
  ·
   have kT := hW
   try simp only [BS] at kT
   have hkn : kz.toNat < c.blocks.length := by omega
   have hbl := hins kz.toNat
   have hfn : ((c.blocks.getD kz.toNat default).fin = 2 ∨ (c.blocks.getD kz.toNat default).fin = 3) → 0 ≤ (c.blocks.getD kz.toNat default).reg ∧ (c.blocks.getD kz.toNat default).reg < c.regs := vF.fin kz.toNat hkn
   have clk : ∀ {Q : Nat → Prop}, (∀ b : Nat, ((kz.toNat : Nat) : Int) - 1 < (b : Int) → Q b) → ∀ b : Nat, kz - 1 < (b : Int) → Q b := fun h b hb => h b (by omega)
   refine aa ?_
   obtain ⟨a9, lE⟩ := Sv.view (SR.sv c3 f9)
   obtain ⟨nJ, nK, nL, nM, a7⟩ := BlkT.fx (lE kz.toNat)
   let hg : Value := (.agg ⟨[(.slice (cA (a9 kz.toNat) 0) (c.blocks.getD kz.toNat default).ins.length (cK (a9 kz.toNat) 0)), (iI (c.blocks.getD kz.toNat default).fin), (iI (c.blocks.getD kz.toNat default).reg), (iI (c.blocks.getD kz.toNat default).tgt), (iI (c.blocks.getD kz.toNat default).els)]⟩)
   refine wRo 5 0 [(1, .o (.slice e3 c.blocks.length f0)), (4, .o hg)] 45 49 [] [(49, hg)] (vA (ql 22 2 (HS.hc f9 (i := 0) rfl) rfl rfl) (vA (Sv.ix (j := kz) (SR.sv c3 f9) (by omega) (by omega)) (vA (qn 48 0 5 (BlkT.vw (lE kz.toNat) (by omega)) rfl rfl rfl rfl) trivial))) rfl fun _ => aH (bp f9 rfl) rfl rfl ?_
   rintro _ pk _ ⟨hR, rfl, (mI : HS _ _ _ [_, al, b6, b4, b7, [(hR, .cells [(.slice none 0 0), (iI 0), (iI 0), (iI 0), (iI 0)] none false)]] _), _⟩
   refine aL (aE (q := 5) mI rfl rfl rfl rfl rfl rfl rfl rfl rfl) rfl ?_
   rintro _ pl _ ⟨(ja : HS _ _ _ [_, _, _, _, _, [(hR, .cells [(.slice (cA (a9 kz.toNat) 0) (c.blocks.getD kz.toNat default).ins.length (cK (a9 kz.toNat) 0)), (iI (c.blocks.getD kz.toNat default).fin), (iI (c.blocks.getD kz.toNat default).reg), (iI (c.blocks.getD kz.toNat default).tgt), (iI (c.blocks.getD kz.toNat default).els)] none false)]] _), _⟩
   refine ae 3 rfl (aa (wUo 1 0 [(0, .o hg)] 50 50 [] [(50, hg)] (qn 48 0 5 (HS.hc ja (i := 5) rfl) rfl rfl rfl rfl) rfl fun _ => az (ap rfl rfl rfl) rfl rfl (ma.vsucc_c ex (c.blocks.getD kz.toNat default) (HS.call ja) a7 (by omega) (by omega) (by omega) (by omega) hT) ?_))
   rintro _ pm ⟨mk, mT, pL, ky, nv, c0, jb, rfl, f2, rfl⟩
   replace jb : HS _ _ _ [_, _, _, _, _, _, ky] _ := HS.back ja rfl jb
   replace e0 := e0.mono c0
   replace c6 := SF.mono c0 c6
   replace c7 := SF.mono c0 c7
   let lP : Fp := [(hR, .cells [(.slice (cA (a9 kz.toNat) 0) (c.blocks.getD kz.toNat default).ins.length (cK (a9 kz.toNat) 0)), (iI (c.blocks.getD kz.toNat default).fin), (iI (c.blocks.getD kz.toNat default).reg), (iI (c.blocks.getD kz.toNat default).tgt), (iI (c.blocks.getD kz.toNat default).els)] none false)]
   refine wTo 2 2 [] 52 53 [] [(52, (iI ((aW (c.blocks.getD kz.toNat default)).length : Int))), (53, (iI 0))] rfl fun _ => ae 2 rfl (aj (fun (mm : Nat) f H' => ∃ (A : List Hd) (ax : List (List U64)) (q : Nat) (T : Option Addr) (V : Nat) (an : Fp) (e2 : Fp) (b9 : Fp) (F' : Fz), Fz.le nv F' ∧ HS (Base.of H []) F' H' [hf, al, b9, an, e2, lP, ky] R ∧ OS F' (.slice T A.length V) A an ∧ SF F' A ax e2 ∧ SF F' z ay b9 ∧ aD f [(1, (.pointer (some ⟨b1, 0, none⟩))), (2, (.slice J z.length N)), (3, (.slice T A.length V)), (4, (iI (c.blocks.length : Int))), (6, (.bool m2)), (7, (iI kz)), (8, (.pointer (some ⟨hR, 0, none⟩))), (51, (.slice mk (aW (c.blocks.getD kz.toNat default)).length mT)), (52, (iI ((aW (c.blocks.getD kz.toNat default)).length : Int))), (53, (iI (q : Int)))] ∧ mm = (aW (c.blocks.getD kz.toNat default)).length - q ∧ (Snd c ay ax) ∧ (q ≤ (aW (c.blocks.getD kz.toNat default)).length) ∧ (∀ j, j ≠ kz.toNat → ax.getD j default = g5.getD j default) ∧ (∀ t ∈ (aW (c.blocks.getD kz.toNat default)).take q, ∀ r, bI ay t.toNat r → bI ax kz.toNat r)) _ ⟨g4, g5, 0, c5, dd, b4, b7, b6, _, fR, jb, e0, c7, c6, ⟨rfl, rfl, rfl, rfl, rfl, rfl, rfl, rfl, rfl, rfl, trivial⟩, rfl, (f1), (by omega), (fun _ _ => rfl), (by intro t ht; cases ht)⟩ ?_)
   rintro o4 pE pn ⟨A, ax, q, T, V, an, e2, b9, hQ, d1, fi, U, g2, a6, lr, rfl, ea, hq, l2, l5⟩ mP
   refine au _ lr (fun _ => ?_)
   clear lr
   replace hT := (hT.mono c0).mono d1
   replace f2 := f2.mono d1
   replace E := (E.mono c0).mono d1
   replace a7 := (a7.mono c0).mono d1
   have ns := FAM.len g2
   have nr := FAM.len a6
   have oL := succ_len (b := (c.blocks.getD kz.toNat default))
   have oH := ea.lo
   have oP := ea.wo kz.toNat hkn
   refine ah 1 rfl (wT 2 [] 54 54 [] [(54, (.bool (decide ((q : Int) < ((aW (c.blocks.getD kz.toNat default)).length : Int)))))] rfl fun _ => am 4 5 (v := (decide ((q : Int) < ((aW (c.blocks.getD kz.toNat default)).length : Int)))) rfl rfl rfl rfl (fun hX => ?_) (fun hX => ?_))
   ·
    have kU := hX
    try simp only [BS] at kU
    have hmem := mem_at (l := aW (c.blocks.getD kz.toNat default)) (q := q) (by omega)
    have hst := vF.succ kz.toNat hkn _ hmem
    have oN := ea.wi ((aW (c.blocks.getD kz.toNat default)).getD q 0).toNat (by omega)
    obtain ⟨n5, lF⟩ := Sv.view (OS.sv f2 fi (i := 6) rfl)
    have pH := fI (lF q)
    refine wR 1 [(1, .o (iI ((aW (c.blocks.getD kz.toNat default)).getD q 0)))] 55 56 [10] [(10, (iI ((aW (c.blocks.getD kz.toNat default)).getD q 0)))] (vA (Sv.ix (j := (q : Int)) (OS.sv f2 fi (i := 6) rfl) (by omega) (by omega)) (vA (ql 3 0 (vI (lF q) (by omega)) rfl rfl) trivial)) rfl fun _ => aY rfl (fm (.slice T A.length V) rfl rfl rfl (fm (iI kz) rfl rfl rfl (wfv (v := (.pointer (some ⟨sB (.slice T A.length V), sO (.slice T A.length V) + kz.toNat * Rp.sz Hd, none⟩))) (bd (α := Hd) (j := kz) rfl rfl rfl rfl (OS.sv U fi.log0 (i := 3) rfl) (by omega) (by omega)) ?_)))
    obtain ⟨n6, mJ⟩ := Sv.view (OS.sv U fi.log0 (i := 3) rfl)
    obtain ⟨k4, h4, go, hB, mw⟩ := SF.open g2 fi (q := 4) (i := kz.toNat) rfl (by omega)
    have go : HS _ _ _ [_, _, b9, an, k4, _, _, h4] _ := go
    have hB : OS hQ (.slice (A.getD kz.toNat default).a (A.getD kz.toNat default).n (A.getD kz.toNat default).k) (ax.getD kz.toNat default) h4 := hB
    have oT := OS.nlen hB
    refine aB (v := (.slice (A.getD kz.toNat default).a (A.getD kz.toNat default).n (A.getD kz.toNat default).k)) (id := .l (sB (.slice T A.length V))) (bt (i := 0) rfl rfl (vH (mJ kz.toNat) (by omega)) rfl rfl) rfl rfl (bG rfl) (kb rfl) (fm (.slice J z.length N) rfl rfl rfl (fm (iI ((aW (c.blocks.getD kz.toNat default)).getD q 0)) rfl rfl rfl (wfv (v := (.pointer (some ⟨sB (.slice J z.length N), sO (.slice J z.length N) + ((aW (c.blocks.getD kz.toNat default)).getD q 0).toNat * Rp.sz Hd, none⟩))) (bd (α := Hd) (j := ((aW (c.blocks.getD kz.toNat default)).getD q 0)) rfl rfl rfl rfl (OS.sv E go.log0 (i := 1) rfl) (by omega) (by omega)) ?_)))
    obtain ⟨n7, mK⟩ := Sv.view (OS.sv E go.log0 (i := 1) rfl)
    obtain ⟨k6, h5, g0, f6, mx⟩ := SF.open a6 go (q := 2) (i := ((aW (c.blocks.getD kz.toNat default)).getD q 0).toNat) rfl (by omega)
    have g0 : HS _ _ _ [_, _, k6, _, _, _, _, _, h5] _ := g0
    have f6 : OS hQ (.slice (z.getD ((aW (c.blocks.getD kz.toNat default)).getD q 0).toNat default).a (z.getD ((aW (c.blocks.getD kz.toNat default)).getD q 0).toNat default).n (z.getD ((aW (c.blocks.getD kz.toNat default)).getD q 0).toNat default).k) (ay.getD ((aW (c.blocks.getD kz.toNat default)).getD q 0).toNat default) h5 := f6
    have oU := OS.nlen f6
    refine aB (v := (.slice (z.getD ((aW (c.blocks.getD kz.toNat default)).getD q 0).toNat default).a (z.getD ((aW (c.blocks.getD kz.toNat default)).getD q 0).toNat default).n (z.getD ((aW (c.blocks.getD kz.toNat default)).getD q 0).toNat default).k)) (id := .l (sB (.slice J z.length N))) (bt (i := 0) rfl rfl (vH (mK ((aW (c.blocks.getD kz.toNat default)).getD q 0).toNat) (by omega)) rfl rfl) rfl rfl (bG rfl) (kb rfl) ?_
    obtain ⟨nW, hv, f3, lX, lV⟩ := OS.frz f6 g0 (i := 8) rfl
    have f3 : HS _ _ _ [_, _, _, _, _, _, _, _, []] _ := f3
    refine bj (W := (h4.map Prod.fst)) (ap rfl rfl rfl) rfl rfl rfl (mb.gn ex (ax.getD kz.toNat default) (ay.getD ((aW (c.blocks.getD kz.toNat default)).getD q 0).toNat default) (HS.callOwn f3.log0 (i := 7) rfl) (OS.mono hv hB) lX (hT.mono hv) (by omega) (by omega)) (kb rfl) ?_
    rintro _ nC ⟨pM, nh, ne, o8, lh, a2, rfl, hw, oo, ov, oz, oB⟩
    refine ⟨HS.didW a2, fun mY lU => ?_⟩
    replace a2 := HS.backOwn f3.log0 (i := 7) rfl rfl (fun _ hb => hb) a2
    replace a2 := HS.lg a2 g0 lU
    generalize ({ nC with log := mY } : Heap) = n2 at a2 ⊢
    replace a2 := HS.thawL g0 (i := 8) rfl (fT hv lh) (fun b o hb => lh _ _ (lV b o hb)) (i' := 8) rfl a2
    replace hw := OS.ind (F' := hQ) hw
    have a2 : HS _ _ _ [hf, al, k6, an, k4, lP, ky, ne, h5] _ := a2
    have oV := OS.len' hw
    refine cu (ah 2 rfl (wU 1 [] 53 53 [66] [(53, (iI ((q : Int) + 1)))] (vi (n := (q : Int) + 1) (by omega)) rfl fun _ => ?_))
    obtain ⟨la, jc, lu⟩ := SF.shut0 mx fR a2 (q := 2) (m := 8) (by decide) rfl rfl f6
    have jc : HS _ _ _ [_, _, la, _, _, _, _, _, []] _ := jc
    have od := FAM.len lu
    obtain ⟨lb, jq, lv⟩ := SF.shut mw fR jc (q := 4) (m := 7) (by decide) rfl rfl hw
    have jq : HS _ _ _ [_, _, _, _, lb, _, _, [], _] _ := jq
    have oe := FAM.len lv
    refine mP _ _ _ ?_ ⟨A, ax.set kz.toNat nh, q + 1, T, V, an, lb, la, _, (d1), (HS.sub jq (a05 _ _)), U, lv, lu, ⟨rfl, rfl, rfl, rfl, rfl, rfl, rfl, rfl, rfl, rfl, trivial⟩, rfl, (snd_out ea hkn hmem (by assumption) (by assumption)), (by omega), (by exact fun j hj => by rw [d8, if_neg (fun e => hj e.1.symm)]; exact l2 j hj), (succ_step (by omega) (by omega) l5 (by assumption))⟩
    omega
   have kU := hX
   try simp only [BS] at kU
   have hsall : ∀ t ∈ aW (c.blocks.getD kz.toNat default), ∀ r, bI ay t.toNat r → bI ax kz.toNat r := fun t ht => l5 t (by rw [a0h (by omega)]; exact ht)
   have oO := ea.wi kz.toNat hkn
   refine aa (aH (bu (α := U64) (ps := []) (cells := []) ([] : List U64) fi rfl rfl rfl (by kernel_rfl) rfl rfl) rfl rfl ?_)
   rintro _ po nH ⟨pA, pI, rfl, mE, (jw : HS _ _ _ [_, _, b9, an, e2, _, _, nH] _), _⟩
   obtain ⟨n8, mL⟩ := Sv.view (OS.sv U jw (i := 3) rfl)
   obtain ⟨mq, k0, hF, d3, my⟩ := SF.open g2 jw (q := 4) (i := kz.toNat) rfl (by omega)
   have hF : HS _ _ _ [_, _, _, _, mq, _, _, _, k0] _ := hF
   have d3 : OS hQ (.slice (A.getD kz.toNat default).a (A.getD kz.toNat default).n (A.getD kz.toNat default).k) (ax.getD kz.toNat default) k0 := d3
   have oW := OS.nlen d3
   refine wRo 4 1 [(4, .o (.slice (A.getD kz.toNat default).a (A.getD kz.toNat default).n (A.getD kz.toNat default).k))] 68 71 [] [(71, (.slice (A.getD kz.toNat default).a (A.getD kz.toNat default).n (A.getD kz.toNat default).k))] (vA (Sv.ix (j := kz) (OS.sv U jw (i := 3) rfl) (by omega) (by omega)) (vA (ql 147 0 (vH (mL kz.toNat) (by omega)) rfl rfl) trivial)) rfl fun _ => aH (bC (α := U64) (q := 7) mE hF rfl rfl rfl (OS.sv d3 hF (i := 8) rfl) rfl rfl rfl rfl rfl rfl rfl (by (simp only [a06, a0a, a0g]; omega))) rfl rfl ?_
   rintro _ pr l6 ⟨g6, g9, rfl, it, (j0 : HS _ _ _ [_, _, _, _, _, _, _, l6, _] _), _⟩
   have it : OS hQ (.slice g6 (ax.getD kz.toNat default).length g9) (ax.getD kz.toNat default) l6 := it
   refine wa (.slice g6 (ax.getD kz.toNat default).length g9) rfl rfl rfl (ae 2 rfl (aa (wUo 2 0 [(1, .o hg)] 73 74 [] [(73, (.slice g6 (ax.getD kz.toNat default).length g9)), (74, hg)] (qn 48 0 5 (HS.hc j0 (i := 5) rfl) rfl rfl rfl rfl) rfl fun _ => az (ap rfl rfl rfl) rfl rfl (mb.addT_c ex (ax.getD kz.toNat default) (c.blocks.getD kz.toNat default) (HS.callOwn j0 (i := 7) rfl) it a7 (by omega) (by omega) (by omega) (by omega) hT (by omega) (by omega)) ?_)))
   rintro _ pu ⟨lM, lK, nw, cc, hG, rfl, h8, oq, ow⟩
   replace hG : HS _ _ _ [_, _, _, _, _, _, _, lK, _] _ := HS.backOwn j0 (i := 7) rfl rfl (fun _ hb => hb) hG
   replace d3 := d3.mono cc
   replace a6 := SF.mono cc a6
   have oX := OS.len' h8
   refine ae 3 rfl (wR 2 [(1, .o (.slice (cA (a9 kz.toNat) 0) (c.blocks.getD kz.toNat default).ins.length (cK (a9 kz.toNat) 0)))] 76 79 [12] [(12, (iI (((c.blocks.getD kz.toNat default).ins.length : Int) - 1)))] (vA (ql 46 0 (HS.hc hG (i := 5) rfl) rfl rfl) (vA (vi (n := ((c.blocks.getD kz.toNat default).ins.length : Int) - 1) (by omega)) trivial)) rfl fun _ => ?_)
   obtain ⟨hm, j1, co⟩ := SF.shut0 my (cc) hG (q := 4) (m := 8) (by decide) rfl rfl d3
   have j1 : HS _ _ _ [_, _, _, _, hm, _, _, _, []] _ := j1
   have og := FAM.len co
   refine aj (fun (mm : Nat) f H' => ∃ (sw : List U64) (iz : Int) (ar : Option Addr) (av : Nat) (dv : Fp) (F' : Fz), Fz.le nw F' ∧ HS (Base.of H []) F' H' [hf, al, b9, an, hm, lP, ky, dv, []] R ∧ OS F' (.slice ar sw.length av) sw dv ∧ aD f [(1, (.pointer (some ⟨b1, 0, none⟩))), (2, (.slice J z.length N)), (3, (.slice T A.length V)), (4, (iI (c.blocks.length : Int))), (6, (.bool m2)), (7, (iI kz)), (8, (.pointer (some ⟨hR, 0, none⟩))), (11, (.slice ar sw.length av)), (12, (iI iz))] ∧ mm = (iz + 1).toNat ∧ (sw.length = wds c) ∧ (∀ r, aF sw r = true ↔ tr ((c.blocks.getD kz.toNat default).ins.drop (iz + 1).toNat) (endS (c.blocks.getD kz.toNat default) (bI ax kz.toNat)) r) ∧ (-1 ≤ iz ∧ iz < ((c.blocks.getD kz.toNat default).ins.length : Int))) _ ⟨lM, ((c.blocks.getD kz.toNat default).ins.length : Int) - 1, g6, g9, lK, _, fR, j1, (OS.norm h8), (agC rfl (agC rfl (agC rfl (agC rfl (agC rfl (agC rfl (agC rfl (agC (show Value.slice g6 (ax.getD kz.toNat default).length g9 = Value.slice g6 lM.length g9 by rw [OS.len' h8]) ⟨rfl, trivial⟩)))))))), rfl, (by omega), (tr_start (by omega) (fun r => Iff.rfl) (by assumption)), (by omega)⟩ ?_
   rintro o5 pF pw ⟨sw, iz, ar, av, dv, nx, ch, c4, ha, lw, rfl, hsw, htr, hiz⟩ mQ
   refine au _ lw (fun _ => ?_)
   clear lw
   replace hT := (hT.mono cc).mono ch
   replace E := (E.mono cc).mono ch
   replace U := (U.mono cc).mono ch
   replace a7 := (a7.mono cc).mono ch
   replace a6 := SF.mono ch a6
   replace co := SF.mono ch co
   refine ah 2 rfl (wT 1 [] 80 81 [] [(81, (.bool (decide ((0 : Int) ≤ iz))))] rfl fun _ => am 3 5 (v := (decide ((0 : Int) ≤ iz))) rfl rfl rfl rfl (fun hY => ?_) (fun hY => ?_))
   ·
    have kV := hY
    try simp only [BS] at kV
    have hvl : (∀ x ∈ aw ((c.blocks.getD kz.toNat default).ins.getD iz.toNat default), 0 ≤ x ∧ x < c.regs) ∧ (∀ x ∈ ab ((c.blocks.getD kz.toNat default).ins.getD iz.toNat default), 0 ≤ x ∧ x < c.regs) ∧ ((c.blocks.getD kz.toNat default).ins.getD iz.toNat default).args.length ≤ 6 := bR (vF.ins kz.toNat hkn iz.toNat (show iz.toNat < (c.blocks.getD kz.toNat default).ins.length by omega))
    have oM := hvl.2.2
    refine aa ?_
    obtain ⟨kX, lG⟩ := Sv.view (SR.sv a7 c4)
    obtain ⟨nN, nO, nP, nQ, nR, lY⟩ := VInT.fx (lG iz.toNat)
    let l7 : Value := (.agg ⟨[(iI ((c.blocks.getD kz.toNat default).ins.getD iz.toNat default).i.op), (iI ((c.blocks.getD kz.toNat default).ins.getD iz.toNat default).i.a), (iI ((c.blocks.getD kz.toNat default).ins.getD iz.toNat default).i.b), (iI ((c.blocks.getD kz.toNat default).ins.getD iz.toNat default).i.c), (iI ((c.blocks.getD kz.toNat default).ins.getD iz.toNat default).i.n), (.slice (cA (kX iz.toNat) 5) ((c.blocks.getD kz.toNat default).ins.getD iz.toNat default).args.length (cK (kX iz.toNat) 5))]⟩)
    refine wRo 6 0 [(2, .o (.slice (cA (a9 kz.toNat) 0) (c.blocks.getD kz.toNat default).ins.length (cK (a9 kz.toNat) 0))), (5, .o l7)] 84 89 [] [(84, (.slice ar sw.length av)), (89, l7)] (vA (ql 46 0 (HS.hc c4 (i := 5) rfl) rfl rfl) (vA (Sv.ix (j := iz) (SR.sv a7 c4) (by omega) (by omega)) (vA (qn 52 0 6 (VInT.vw (lG iz.toNat) (by omega)) rfl rfl rfl rfl) trivial))) rfl fun _ => az (ap rfl rfl rfl) rfl rfl (mb.transfer_c ex sw ((c.blocks.getD kz.toNat default).ins.getD iz.toNat default) (HS.callOwn c4 (i := 7) rfl) ha (by first | (dsimp only; omega) | omega) (by first | (dsimp only; omega) | omega) (by first | (dsimp only; omega) | omega) (by first | (dsimp only; omega) | omega) (by first | (dsimp only; omega) | omega) lY hT (by first | omega | exact fun x hx => by have := hvl.1 x hx; omega | exact fun x hx => by have := hvl.2.1 x hx; omega) (by first | omega | exact fun x hx => by have := hvl.1 x hx; omega | exact fun x hx => by have := hvl.2.1 x hx; omega) (by first | omega | exact fun x hx => by have := hvl.1 x hx; omega | exact fun x hx => by have := hvl.2.1 x hx; omega) (by first | omega | exact fun x hx => by have := hvl.1 x hx; omega | exact fun x hx => by have := hvl.2.1 x hx; omega)) ?_
    rintro _ px ⟨lN, lL, o9, mz, j2, rfl, h9, ot, ox⟩
    replace j2 : HS _ _ _ [_, _, _, _, _, _, _, lL, _] _ := HS.backOwn c4 (i := 7) rfl rfl (fun _ hb => hb) j2
    have oY := OS.len' h9
    refine ae 2 rfl (wU 1 [] 82 83 [12] [(12, (iI (iz - 1)))] (vi (n := iz - 1) (by omega)) rfl fun _ => mQ _ _ _ ?_ ⟨lN, iz - 1, ar, av, lL, _, (fT (ch) mz), j2, (OS.norm h9), (agC rfl (agC rfl (agC rfl (agC rfl (agC rfl (agC rfl (agC rfl (agC (show Value.slice ar sw.length av = Value.slice ar lN.length av by rw [OS.len' h9]) ⟨rfl, trivial⟩)))))))), rfl, (by omega), (by rw [show (iz - 1 + 1).toNat = iz.toNat by omega]; exact tr_next (by omega) (by rw [show iz.toNat + 1 = (iz + 1).toNat by omega]; exact htr) (by assumption)), (by omega)⟩)
    omega
   have kV := hY
   try simp only [BS] at kV
   have ko : ∀ r, aF sw r = true ↔ inS (c.blocks.getD kz.toNat default) (bI ax kz.toNat) r := fun r => by have := htr r; rwa [show (iz + 1).toNat = 0 by omega, a12] at this
   refine aa ?_
   obtain ⟨n9, mM⟩ := Sv.view (OS.sv E c4 (i := 1) rfl)
   obtain ⟨mr, k3, kc, e6, lf⟩ := SF.open a6 c4 (q := 2) (i := kz.toNat) rfl (by omega)
   have kc : HS _ _ _ [_, _, mr, _, _, _, _, dv, _, k3] _ := kc
   have e6 : OS nx (.slice (z.getD kz.toNat default).a (z.getD kz.toNat default).n (z.getD kz.toNat default).k) (ay.getD kz.toNat default) k3 := e6
   have oZ := OS.nlen e6
   refine wRo 5 0 [(3, .o (.slice (z.getD kz.toNat default).a (z.getD kz.toNat default).n (z.getD kz.toNat default).k))] 91 95 [] [(94, (.slice (z.getD kz.toNat default).a (z.getD kz.toNat default).n (z.getD kz.toNat default).k)), (95, (.slice ar sw.length av))] (vA (Sv.ix (j := kz) (OS.sv E c4 (i := 1) rfl) (by omega) (by omega)) (vA (ql 147 0 (vH (mM kz.toNat) (by omega)) rfl rfl) trivial)) rfl fun _ => ?_
   obtain ⟨pc, ci, hI, mF, oI⟩ := OS.frz ha kc (i := 7) rfl
   have hI : HS _ _ _ [_, _, _, _, _, _, _, [], _, _] _ := hI
   replace hT := hT.mono ci
   replace e6 := e6.mono ci
   replace co := SF.mono ci co
   refine az (ap rfl rfl rfl) rfl rfl (mb.gn ex (ay.getD kz.toNat default) sw (HS.callOwn hI (i := 9) rfl) e6 mF hT (by omega) (by omega)) ?_
   rintro _ py ⟨nI, lO, ng, pb, d2, hH, rfl, ib, ou, oy, oA, oC⟩
   replace hH : HS _ _ _ [_, _, _, _, _, _, _, _, _, ng] _ := HS.backOwn hI (i := 9) rfl rfl (fun _ hb => hb) hH
   replace E := (E.mono ci).mono d2
   replace U := (U.mono ci).mono d2
   replace co := SF.mono d2 co
   have o0 := OS.len' ib
   refine ae 1 rfl (am 0 2 (v := nI) rfl rfl rfl rfl (fun h3 => ?_) (fun h3 => ?_))
   ·
    have kW := h3
    try simp only [BS] at kW
    refine wT 2 [] 1 0 [6] [(6, (.bool true))] rfl fun _ => wU 1 [] 43 44 [7] [(7, (iI (kz - 1)))] (vi (n := kz - 1) (by omega)) rfl fun _ => ?_
    obtain ⟨lc, kd, lz⟩ := SF.shut lf (fT (ci) d2) hH (q := 2) (m := 9) (by decide) rfl rfl ib
    have kd : HS _ _ _ [_, _, lc, _, _, _, _, _, _, []] _ := kd
    have oi := FAM.len lz
    refine lH _ _ _ ?_ ⟨A, ax, z, ay.set kz.toNat lO, kz - 1, true, J, N, al, T, V, an, lc, hm, _, (fT (fT (fT (fT (fT (fT (f5) c0) d1) cc) ch) ci) d2), (HS.sub kd (a05 _ _)), E, U, lz, co, ⟨rfl, rfl, rfl, rfl, rfl, rfl, trivial⟩, rfl, (snd_in ea hkn (by assumption) (by assumption) ko), (by omega), (by (intro h; cases h; done)), (fun _ => cnt_t l1 lB (cnt_more (by omega) (by assumption) (by assumption) (use4 (by assumption) (by assumption)))), (by (intro h; cases h; done))⟩
    omega
   have kW := h3
   try simp only [BS] at kW
   refine wU 1 [] 43 44 [7] [(7, (iI (kz - 1)))] (vi (n := kz - 1) (by omega)) rfl fun _ => ?_
   obtain ⟨ld, kg, lA⟩ := SF.shut lf (fT (ci) d2) hH (q := 2) (m := 9) (by decide) rfl rfl ib
   have kg : HS _ _ _ [_, _, ld, _, _, _, _, _, _, []] _ := kg
   have oj := FAM.len lA
   refine lH _ _ _ ?_ ⟨A, ax, z, ay.set kz.toNat lO, kz - 1, m2, J, N, al, T, V, an, ld, hm, _, (fT (fT (fT (fT (fT (fT (f5) c0) d1) cc) ch) ci) d2), (HS.sub kg (a05 _ _)), E, U, lA, co, ⟨rfl, rfl, rfl, rfl, rfl, rfl, trivial⟩, rfl, (snd_in ea hkn (by assumption) (by assumption) ko), (by omega), (keep0 (by assumption) (by assumption) l1), (keep1 (by assumption) (by assumption) lB), (by (intro h; exact clk (cl_step hkn (fun b h1 => hcl h b (by omega)) l2 hsall ko (use3 (by assumption) (by assumption)) (by assumption))))⟩
   omega
  have kT := hW
  try simp only [BS] at kT
  refine mO _ _ _ ?_ ⟨g4, g5, z, ay, m2, J, N, al, c5, dd, b4, b6, b7, _, (fT (hp) f5), f9, E, e0, c6, c7, ⟨rfl, rfl, rfl, rfl, rfl, trivial⟩, rfl, (f1), (fun h b hb => hcl h b (by omega) hb)⟩
  rw [hmo]; exact mea_lt lB (cnt_le f1.li f1.wi)
 have kr := hV
 try simp only [BS] at kr
 refine wT 1 [] 97 98 [2, 3] [(2, (.slice bk g1.length bz)), (3, (.slice bl g3.length b0))] rfl fun _ => ?_
 obtain ⟨pd, hr, ki, mA⟩ := SF.freeze es lD (q := 2) rfl
 have ki : HS _ _ _ [_, dk, _, dl, dt] _ := ki
 replace et := et.mono hr
 replace a0 := SF.mono hr a0
 obtain ⟨pe, hu, kk, mG, oJ⟩ := OS.frz et ki (i := 1) rfl
 have kk : HS _ _ _ [_, [], _, _, _] _ := kk
 replace a0 := SF.mono hu a0
 have f7 := SR.rows mG (FAM.len es) (fun i hi => SR.mono hu (mA i hi))
 have mZ := SR.len' f7
 have nU := SR.norm f7
 obtain ⟨pf, h6, kl, mB⟩ := SF.freeze a0 kk (q := 4) rfl
 have kl : HS _ _ _ [_, _, _, _, []] _ := kl
 replace ez := ((ez.mono hr).mono hu).mono h6
 obtain ⟨pg, h7, kn, mH, oK⟩ := OS.frz ez kl (i := 3) rfl
 have kn : HS _ _ _ [_, _, _, [], _] _ := kn
 replace f7 := (f7.mono h6).mono h7
 have iv := SR.rows mH (FAM.len a0) (fun i hi => SR.mono h7 (mB i hi))
 have m0 := SR.len' iv
 have nV := SR.norm iv
 refine ak ⟨.inr rfl, _, rfl, bk, bz, em, bl, b0, he, _, (fT (fT (fT (fT (fT (hn) hp) hr) hu) h6) h7), (HS.forget kn), (by simp only [mZ, m0]; rfl), (SR.norm f7), (SR.norm iv), (anF_of snd (cl (by assumption)))⟩
end Go.Proofs.YtknafdcgpaejlaaDoor.mc
