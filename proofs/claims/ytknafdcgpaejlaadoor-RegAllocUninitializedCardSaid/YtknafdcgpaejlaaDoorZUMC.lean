/-
 Live registers: the solution of the equations, by a symbolic run. No condition but that the function is valid.
-/
import Derived.Test.YtknafdcgpaejlaaDoorZUMB
import Derived.Test.YtknafdcgpaejlaaDoorZURC
noncomputable section
namespace Go.Proofs.YtknafdcgpaejlaaDoor.mc
open Go.R
set_option maxRecDepth 10000
set_option linter.unusedVariables false
set_option linter.unusedSimpArgs false
variable (ex : FuncId) {F : Fz} {H : Heap} {R : List Fp}
open m1 m2 m3 m4 m5 m6 ma ml mb
theorem zset {l : List (List U64)} {k : Nat} {z : List U64} (h : ∀ j, j < k → l.getD j default = z) (hk : k < l.length) : ∀ j, j < k + 1 → (l.set k z).getD j default = z := fun j hj => by
 rw [df]
 split
 ·
  rfl
 rename_i hq; exact h j (by omega)
theorem iS {l : List Int} {q : Nat} (h : q < l.length) : l.getD q 0 ∈ l := by
 rw [a01, a06 h]; exact a1l h
theorem succ_step {I O : List (List U64)} {k q : Nat} {s : List U64} {l : List Int} (hq : q < l.length) (hk : k < O.length) (h : ∀ t ∈ l.take q, ∀ r, bI I t.toNat r → bI O k r) (hb : ∀ i, aB s i = (aB (O.getD k default) i || aB (I.getD (l.getD q 0).toNat default) i)) : ∀ t ∈ l.take (q + 1), ∀ r, bI I t.toNat r → bI (O.set k s) k r := by
 intro t ht r hr
 unfold bI
 rw [df, if_pos ⟨rfl, hk⟩, hb, a0H]
 rw [bj hq (d := 0), a04, a0d] at ht
 rcases ht with ht | rfl
 ·
  exact .inl (h t ht r hr)
 exact .inr hr
theorem tr_start {b : BlkT} {S : Nat → Prop} {s z : List U64} {n : Nat} (hn : b.ins.length ≤ n) (hs : ∀ r, aB s r = true ↔ S r) (h : ∀ i, aB z i = (aB s i || decide ((i : Int) ∈ gN b))) (r : Nat) : aB z r = true ↔ tr (b.ins.drop n) (endS b S) r := by
 rw [List.drop_of_length_le hn, h, a0H, hs, decide_eq_true_eq]; exact Iff.rfl
theorem cl_step {c : VFnT} {I O A : List (List U64)} {s z : List U64} {k : Nat} (hk : k < c.blocks.length) (hcl : ∀ b : Nat, (k : Int) < (b : Int) → b < c.blocks.length → Cl1 c I O b) (ho : ∀ j, j ≠ k → A.getD j default = O.getD j default) (hs : ∀ t ∈ aY (bA c k), ∀ r, bI I t.toNat r → bI A k r)
  (ht : ∀ r, aB s r = true ↔ inS (bA c k) (bI A k) r) (hz : z = I.getD k default) (hb : ∀ i, aB z i = (aB (I.getD k default) i || aB s i)) : ∀ b : Nat, (k : Int) - 1 < (b : Int) → b < c.blocks.length → Cl1 c (I.set k z) A b := by
 intro b T N
 rw [hz, d7]
 by_cases e : b = k
 ·
  subst e
  refine ⟨hs, fun r hr => ?_⟩
  have := hb r
  rw [hz] at this
  unfold bI
  rw [this, (ht r).2 hr, Bool.or_true]
 have J := hcl b (by omega) N
 have E : bI A b = bI O b := by unfold bI; rw [ho b e]
 exact ⟨fun t ht r hr => by rw [E]; exact J.1 t ht r hr, fun r hr => J.2 r (by rw [E] at hr; exact hr)⟩
theorem cnt_t {m2 : Bool} {A B D : List (List U64)} (E : m2 = false → B = A) (J : m2 = true → km A < km B) (h : km B < km D) : km A < km D := by
 cases m2 with
 | false => rw [E rfl] at h; exact h
 | true => have := J rfl; omega
theorem keep0 {m2 r : Bool} {A B : List (List U64)} {k : Nat} {z : List U64} (J : r = false → z = B.getD k default) (hr : r = false) (E : m2 = false → B = A) : m2 = false → B.set k z = A := fun h => by rw [J hr, d7]; exact E h
theorem keep1 {m2 r : Bool} {A B : List (List U64)} {k : Nat} {z : List U64} (J : r = false → z = B.getD k default) (hr : r = false) (E : m2 = true → km A < km B) : m2 = true → km A < km (B.set k z) := fun h => by rw [J hr, d7]; exact E h
theorem use3 {α : Prop} {r : Bool} (h : r = false → α) (hr : r = false) : α := h hr
theorem use4 {α : Prop} {r : Bool} (h : r = true → α) (hr : r = true) : α := h hr
theorem succ_len {b : BlkT} : (aY b).length ≤ 2 := by
 unfold aY
 split
 ·
  simp
 split
 ·
  exact ins_len
 simp
theorem wd_le {c : VFnT} (h : 0 ≤ c.regs ∧ c.regs ≤ 3000) : c.regs ≤ 64 * ((wds c : Nat) : Int) ∧ wds c ≤ 48 := by
 unfold wds
 rw [a12 (by omega)]; omega
set_option maxHeartbeats 2000000 in
theorem analyze_c {e4 : Option Addr} {f0 : Nat} (c : VFnT) (hs : HS (.of H []) F H [] R) (oC : in64 c.params) (oD : in64 c.regs) (c0 : SR F (.slice e4 c.blocks.length f0) c.blocks) (hT : TB 37 tabC F) (hval : d6 c = true) (hins : ∀ j, (c.blocks.getD j default).ins.length ≤ 1099511627776) : kKt ex 111 [(.agg ⟨[(iI c.params), (iI c.regs), (.slice e4 c.blocks.length f0)]⟩)] H fun v H' => ∃ (ail : Option Addr) (kil : Nat) (il : List (List U64)) (aol : Option Addr) (kol : Nat) (ol : List (List U64)) (F' : Fz), Fz.le F F' ∧ HS (.of H []) F' H' [] R ∧ v = .tuple ⟨[.slice ail il.length kil, .slice aol ol.length kol]⟩ ∧ SR F' (.slice ail il.length kil) il ∧ SR F' (.slice aol ol.length kol) ol ∧ (AnF c il ol) := by
 have vF := iE hval
 have hnb := vF.nb
 have hrg := vF.regs
 have hwd := wd_le hrg
 refine aH Tryd.func111 rfl rfl (ah 1 rfl (aa (aG (bG hs rfl rfl) rfl rfl ?_)))
 rintro _ H2 _ ⟨b1, rfl, (lD : HS _ _ _ [[(b1, .cells [(iI c.params), (iI c.regs), (.slice e4 c.blocks.length f0)] none false)]] _), _⟩
 refine wTo 2 1 [] 1 0 [2, 3] [(2, (.slice none 0 0)), (3, (.slice none 0 0))] rfl fun _ => ae 2 rfl (wU 2 [(1, .o (.slice e4 c.blocks.length f0))] 13 15 [4] [(4, (iI (c.blocks.length : Int)))] (ql 22 2 (HS.hc lD (i := 0) rfl) rfl rfl) rfl fun _ => aS rfl (fm (iI (c.blocks.length : Int)) rfl rfl rfl (bM (id := .x []) (cE (default : Hd) lD.log0 rfl rfl rfl rfl rfl rfl rfl rfl rfl rfl (by omega) (by omega)) rfl rfl (by rintro _ _ p5 ⟨a5, k5, rfl, l4, _, hwr⟩; exact bQ rfl rfl (Wr.did hwr)) (kb rfl) ?_)))
 rintro _ H6 p5 ⟨a5, k5, rfl, l4, g8, _⟩ nC mC
 replace g8 := HS.lg g8 lD mC
 generalize ({ H6 with log := nC } : Heap) = po at g8 ⊢
 have g8 : HS _ _ _ [_, p5] _ := g8
 have kR := HS.snoc g8
 have kR : HS _ _ _ [_, _, []] _ := kR
 have l1 : SF F (List.replicate c.blocks.length (default : Hd)) (List.replicate c.blocks.length ([] : List U64)) [] := SF.rep _
 have pF := FAM.len l1
 refine fm (iI (c.blocks.length : Int)) rfl rfl rfl (bM (id := .x []) (cE (default : Hd) kR.log0 rfl rfl rfl rfl rfl rfl rfl rfl rfl rfl (by omega) (by omega)) rfl rfl (by rintro _ _ p8 ⟨a8, k8, rfl, l5, _, hwr⟩; exact bQ rfl rfl (Wr.did hwr)) (⟨.inl rfl, ⟨.inr ⟨trivial, trivial⟩, ⟨.inr trivial, trivial⟩⟩⟩) ?_)
 rintro _ H9 p8 ⟨a8, k8, rfl, l5, g9, _⟩ nD mD
 replace g9 := HS.lg g9 kR mD
 generalize ({ H9 with log := nD } : Heap) = py at g9 ⊢
 have g9 : HS _ _ _ [_, _, _, p8] _ := g9
 have i2 := HS.snoc g9
 have i2 : HS _ _ _ [_, _, _, _, []] _ := i2
 have ll : SF F (List.replicate c.blocks.length (default : Hd)) (List.replicate c.blocks.length ([] : List U64)) [] := SF.rep _
 have n9 := FAM.len ll
 let hg : Fp := [(b1, .cells [(iI c.params), (iI c.regs), (.slice e4 c.blocks.length f0)] none false)]
 refine fa (.slice a5 (List.replicate c.blocks.length (default : Hd)).length k5) rfl rfl rfl (fa (.slice a8 (List.replicate c.blocks.length (default : Hd)).length k8) rfl rfl rfl (bT (ah 3 rfl (wT 2 [] 20 22 [] [(21, (iI ((List.replicate c.blocks.length (default : Hd)).length : Int))), (22, (iI 0))] rfl fun _ => aj (fun (mm : Nat) f H' => ∃ (oh : List Hd) (ol : List (List U64)) (ih : List Hd) (il : List (List U64)) (k : Nat) (ad : Option Addr) (al : Nat) (b2 : Fp) (ag : Option Addr) (an : Nat) (b3 : Fp) (dl : Fp) (dn : Fp) (F' : Fz), Fz.le F F' ∧ HS (Base.of H []) F' H' [hg, b2, dl, b3, dn] R ∧ OS F' (.slice ad ih.length al) ih b2 ∧ OS F' (.slice ag oh.length an) oh b3 ∧ SF F' ih il dl ∧ SF F' oh ol dn ∧ aD f [(1, (.pointer (some ⟨b1, 0, none⟩))), (2, (.slice ad ih.length al)), (3, (.slice ag oh.length an)), (4, (iI (c.blocks.length : Int))), (21, (iI ((List.replicate c.blocks.length (default : Hd)).length : Int))), (22, (iI (k : Int)))] ∧ mm = c.blocks.length - k ∧ (il.length = c.blocks.length) ∧ (ol.length = c.blocks.length) ∧ (∀ j, j < k → il.getD j default = List.replicate (wds c) ⟨0⟩) ∧ (∀ j, j < k → ol.getD j default = List.replicate (wds c) ⟨0⟩) ∧ (k ≤ c.blocks.length)) _ ⟨List.replicate c.blocks.length (default : Hd), List.replicate c.blocks.length ([] : List U64), List.replicate c.blocks.length (default : Hd), List.replicate c.blocks.length ([] : List U64), 0, a5, k5, p5, a8, k8, p8, [], [], _, fR, i2, l4, l5, l1, ll, ⟨rfl, rfl, rfl, rfl, rfl, rfl, trivial⟩, rfl, (by simp), (by simp), (by intro j hj; omega), (by intro j hj; omega), (by omega)⟩ ?_))))
 rintro o0 pA pg ⟨oh, ol, ih, il, k, ad, al, b2, ag, an, b3, dl, dn, nr, hp, f8, c7, c8, a4, a6, lm, rfl, li, lo, zi, zo, hk⟩ mN
 refine ap _ lm (fun _ => ?_)
 clear lm
 replace hT := hT.mono hp
 replace c0 := c0.mono hp
 have ni := FAM.len a4
 have nj := FAM.len a6
 have hrl : (List.replicate c.blocks.length (default : Hd)).length = c.blocks.length := a0I
 refine ah 1 rfl (wT 2 [] 23 23 [] [(23, (.bool (decide ((k : Int) < ((List.replicate c.blocks.length (default : Hd)).length : Int)))))] rfl fun _ => am 4 6 (v := (decide ((k : Int) < ((List.replicate c.blocks.length (default : Hd)).length : Int)))) rfl rfl rfl rfl (fun hV => ?_) (fun hV => ?_))
 ·
  have kT := hV
  try simp only [BS] at kT
  refine wT 1 [] 24 24 [5] [(5, (iI (k : Int)))] rfl fun _ => aS rfl (fm (.slice ad ih.length al) rfl rfl rfl (fm (iI (k : Int)) rfl rfl rfl (fm (.slice ag oh.length an) rfl rfl rfl (fm (iI (k : Int)) rfl rfl rfl ?_))))
  refine wfv (v := (.pointer (some ⟨b1, 1, none⟩))) (bn rfl rfl) (aF (v := (iI c.regs)) (id := .l b1) (aU (i := 1) rfl rfl (HS.hc f8.log0 (i := 0) rfl) rfl rfl) rfl rfl (bx rfl) (kb rfl) (bY (W := []) (aq rfl rfl rfl) rfl rfl rfl (mb.empty_c ex c.regs (HS.call f8.log0) (by omega) hT (by omega)) (kb rfl) ?_))
  rintro _ nx ⟨hl, hM, pI, nE, o5, e5, a2, rfl, hD, rfl⟩
  refine ⟨Wr.did a2.log, fun mU lR => ?_⟩
  replace a2 := HS.back f8.log0 rfl a2
  replace a2 := HS.lg a2 f8 lR
  generalize ({ nx with log := mU } : Heap) = nW at a2 ⊢
  have a2 : HS _ _ _ [_, b2, dl, b3, dn, nE] _ := a2
  replace hT := hT.mono e5
  replace a4 := SF.mono e5 a4
  replace a6 := SF.mono e5 a6
  refine wfv (v := (.pointer (some ⟨b1, 1, none⟩))) (bn rfl rfl) (aF (v := (iI c.regs)) (id := .l b1) (aU (i := 1) rfl rfl (HS.hc a2.log0 (i := 0) rfl) rfl rfl) rfl rfl (bx rfl) (⟨.inl rfl, ⟨.inr a0i, ⟨.inr trivial, ⟨.inr trivial, ⟨.inr trivial, ⟨.inr trivial, ⟨.inr trivial, ⟨.inr trivial, trivial⟩⟩⟩⟩⟩⟩⟩⟩) (bY (W := []) (aq rfl rfl rfl) rfl rfl rfl (mb.empty_c ex c.regs (HS.call a2.log0) (by omega) hT (by omega)) (kb rfl) ?_))
  rintro _ ny ⟨hm, hQ, pJ, nF, l0, e6, be, rfl, lX, rfl⟩
  refine ⟨Wr.did be.log, fun mV lS => ?_⟩
  replace be := HS.back a2.log0 rfl be
  replace be := HS.lg be a2 lS
  generalize ({ ny with log := mV } : Heap) = nX at be ⊢
  have be : HS _ _ _ [_, _, _, _, _, _, nF] _ := be
  replace hD := hD.mono e6
  replace c7 := (c7.mono e5).mono e6
  replace c8 := (c8.mono e5).mono e6
  replace a4 := SF.mono e6 a4
  replace a6 := SF.mono e6 a6
  refine wfv (v := (.pointer (some ⟨sB (.slice ad ih.length al), sO (.slice ad ih.length al) + k * Rp.sz Hd, none⟩))) (bh (α := Hd) (j := (k : Int)) rfl rfl rfl rfl (OS.sv c7 be.log0 (i := 1) rfl) (by omega) (by omega)) ?_
  obtain ⟨mn, kZ, i3, ik, ms⟩ := SF.open a4 be (q := 2) (i := k) rfl (by omega)
  have i3 : HS _ _ _ [_, _, mn, _, _, _, _, kZ] _ := i3
  have ik : OS l0 (.slice (ih.getD k default).a (ih.getD k default).n (ih.getD k default).k) (il.getD k default) kZ := ik
  have oP := OS.nlen ik
  obtain ⟨k9, hE, ln⟩ := SF.shutN (⟨hl, (List.replicate (Int.tdiv (c.regs + 63) 64).toNat (⟨0⟩ : U64)).length, hM⟩ : Hd) ms fR i3 (q := 2) (m := 5) (by decide) rfl rfl hD
  have hE : HS _ _ _ [_, _, k9, _, _, [], _, _] _ := hE
  have oa := FAM.len ln
  refine eN (id := .x (b2.map Prod.fst)) (db (α := Hd) (j := k) (off := 0) (q := 1) (⟨hl, (List.replicate (Int.tdiv (c.regs + 63) 64).toNat (⟨0⟩ : U64)).length, hM⟩ : Hd) c7 hE.log0 rfl rfl rfl rfl rfl rfl rfl rfl (aM (x := default) (by omega)) rfl (by rintro cs rfl; exact ⟨a07 rfl, rfl⟩)) rfl (by rintro _ _ lJ ⟨hA, _, hwr⟩; exact bQ rfl rfl (Wr.did hwr)) (kb rfl) ?_
  rintro _ nz lJ ⟨hA, ea, _⟩ mW lT
  replace ea := HS.lg ea hE lT
  generalize ({ nz with log := mW } : Heap) = nY at ea ⊢
  have ea : HS _ _ _ [_, lJ, _, _, _, _, _, _] _ := ea
  have nR := OS.len' hA
  refine wfv (v := (.pointer (some ⟨sB (.slice ag oh.length an), sO (.slice ag oh.length an) + k * Rp.sz Hd, none⟩))) (bh (α := Hd) (j := (k : Int)) rfl rfl rfl rfl (OS.sv c8 ea.log0 (i := 3) rfl) (by omega) (by omega)) ?_
  obtain ⟨mp, k0, ja, it, mu⟩ := SF.open a6 ea (q := 4) (i := k) rfl (by omega)
  have ja : HS _ _ _ [_, _, _, _, mp, _, _, _, k0] _ := ja
  have it : OS l0 (.slice (oh.getD k default).a (oh.getD k default).n (oh.getD k default).k) (ol.getD k default) k0 := it
  have oQ := OS.nlen it
  obtain ⟨la, hF, lp⟩ := SF.shutN (⟨hm, (List.replicate (Int.tdiv (c.regs + 63) 64).toNat (⟨0⟩ : U64)).length, hQ⟩ : Hd) mu fR ja (q := 4) (m := 6) (by decide) rfl rfl lX
  have hF : HS _ _ _ [_, _, _, _, la, _, [], _, _] _ := hF
  have ob := FAM.len lp
  refine eN (id := .x (b3.map Prod.fst)) (db (α := Hd) (j := k) (off := 0) (q := 3) (⟨hm, (List.replicate (Int.tdiv (c.regs + 63) 64).toNat (⟨0⟩ : U64)).length, hQ⟩ : Hd) c8 hF.log0 rfl rfl rfl rfl rfl rfl rfl rfl (aM (x := default) (by omega)) rfl (by rintro cs rfl; exact ⟨a07 rfl, rfl⟩)) rfl (by rintro _ _ lK ⟨hB, _, hwr⟩; exact bQ rfl rfl (Wr.did hwr)) (kb rfl) ?_
  rintro _ nA lK ⟨hB, fd, _⟩ mX lU
  replace fd := HS.lg fd hF lU
  generalize ({ nA with log := mX } : Heap) = nZ at fd ⊢
  have fd : HS _ _ _ [_, _, _, lK, _, _, _, _, _] _ := fd
  have nS := OS.len' hB
  refine bT (ah 2 rfl (wU 1 [] 22 22 [37] [(22, (iI ((k : Int) + 1)))] (vi (n := (k : Int) + 1) (by omega)) rfl fun _ => mN _ _ _ ?_ ⟨oh.set k (⟨hm, (List.replicate (Int.tdiv (c.regs + 63) 64).toNat (⟨0⟩ : U64)).length, hQ⟩ : Hd), ol.set k (List.replicate (Int.tdiv (c.regs + 63) 64).toNat (⟨0⟩ : U64)), ih.set k (⟨hl, (List.replicate (Int.tdiv (c.regs + 63) 64).toNat (⟨0⟩ : U64)).length, hM⟩ : Hd), il.set k (List.replicate (Int.tdiv (c.regs + 63) 64).toNat (⟨0⟩ : U64)), k + 1, ad, al, lJ, ag, an, lK, k9, la, _, (fT (fT (hp) e5) e6), (HS.sub fd (a03 _ _)), (OS.norm hA), (OS.norm hB), ln, lp, (agC rfl (agC (show Value.slice ad ih.length al = Value.slice ad (ih.set k (⟨hl, (List.replicate (Int.tdiv (c.regs + 63) 64).toNat (⟨0⟩ : U64)).length, hM⟩ : Hd)).length al by rw [OS.len' hA]) (agC (show Value.slice ag oh.length an = Value.slice ag (oh.set k (⟨hm, (List.replicate (Int.tdiv (c.regs + 63) 64).toNat (⟨0⟩ : U64)).length, hQ⟩ : Hd)).length an by rw [OS.len' hB]) ⟨rfl, rfl, rfl, trivial⟩))), rfl, (by rw [a0h]; exact li), (by rw [a0h]; exact lo), (by exact zset zi (by omega)), (by exact zset zo (by omega)), (by omega)⟩))
  omega
 have kT := hV
 try simp only [BS] at kT
 refine wT 2 [] 1 0 [6] [(6, (.bool true))] rfl fun _ => aj (fun (mm : Nat) f H' => ∃ (g4 : List Hd) (hf : List (List U64)) (g2 : List Hd) (es : List (List U64)) (mo : Bool) (bk : Option Addr) (bz : Nat) (dd : Fp) (bl : Option Addr) (b0 : Nat) (dk : Fp) (e2 : Fp) (ds : Fp) (F' : Fz), Fz.le nr F' ∧ HS (Base.of H []) F' H' [hg, dd, e2, dk, ds] R ∧ OS F' (.slice bk g2.length bz) g2 dd ∧ OS F' (.slice bl g4.length b0) g4 dk ∧ SF F' g2 es e2 ∧ SF F' g4 hf ds ∧ aD f [(1, (.pointer (some ⟨b1, 0, none⟩))), (2, (.slice bk g2.length bz)), (3, (.slice bl g4.length b0)), (4, (iI (c.blocks.length : Int))), (6, (.bool mo))] ∧ mm = mea mo (c.blocks.length * (64 * wds c)) (km es) ∧ (Snd c es hf) ∧ (mo = false → ∀ b, b < c.blocks.length → Cl1 c es hf b)) _ ⟨oh, ol, ih, il, true, ad, al, b2, ag, an, b3, dl, dn, _, fR, f8, c7, c8, a4, a6, ⟨rfl, rfl, rfl, rfl, rfl, trivial⟩, rfl, (by exact snd_start li lo (fun j hj => zi j (by omega)) (fun j hj => zo j (by omega))), (by intro h; cases h)⟩ ?_
 rintro o1 pB ph ⟨g4, hf, g2, es, mo, bk, bz, dd, bl, b0, dk, e2, ds, ns, hr, lE, ez, e0, et, a1, lq, rfl, snd, cl⟩ mO
 refine ap _ lq (fun _ => ?_)
 clear lq
 replace hT := hT.mono hr
 replace c0 := c0.mono hr
 have nk := FAM.len et
 have nl := FAM.len a1
 have hli := snd.li
 have hlo := snd.lo
 refine ah 2 rfl (wT 1 [] 38 38 [] [(38, (.bool mo))] rfl fun _ => am 3 5 (v := mo) rfl rfl rfl rfl (fun hW => ?_) (fun hW => ?_))
 ·
  have kQ := hW
  try simp only [BS] at kQ
  have hmo := kQ
  refine wT 2 [] 1 0 [6] [(6, (.bool false))] rfl fun _ => wU 2 [] 39 40 [7] [(7, (iI ((c.blocks.length : Int) - 1)))] (vi (n := (c.blocks.length : Int) - 1) (by omega)) rfl fun _ => aj (fun (mm : Nat) f H' => ∃ (g5 : List Hd) (g6 : List (List U64)) (A : List Hd) (a0 : List (List U64)) (kz : Int) (m2 : Bool) (N : Option Addr) (T : Nat) (ar : Fp) (c4 : Option Addr) (c9 : Nat) (b4 : Fp) (b5 : Fp) (b6 : Fp) (F' : Fz), Fz.le ns F' ∧ HS (Base.of H []) F' H' [hg, ar, b5, b4, b6] R ∧ OS F' (.slice N A.length T) A ar ∧ OS F' (.slice c4 g5.length c9) g5 b4 ∧ SF F' A a0 b5 ∧ SF F' g5 g6 b6 ∧ aD f [(1, (.pointer (some ⟨b1, 0, none⟩))), (2, (.slice N A.length T)), (3, (.slice c4 g5.length c9)), (4, (iI (c.blocks.length : Int))), (6, (.bool m2)), (7, (iI kz))] ∧ mm = (kz + 1).toNat ∧ (Snd c a0 g6) ∧ (-1 ≤ kz ∧ kz < (c.blocks.length : Int)) ∧ (m2 = false → a0 = es) ∧ (m2 = true → km es < km a0) ∧ (m2 = false → ∀ b : Nat, kz < (b : Int) → b < c.blocks.length → Cl1 c a0 g6 b)) _ ⟨g4, hf, g2, es, (c.blocks.length : Int) - 1, false, bk, bz, dd, bl, b0, dk, e2, ds, _, fR, lE, ez, e0, et, a1, ⟨rfl, rfl, rfl, rfl, rfl, rfl, trivial⟩, rfl, (by exact snd), (by omega), (by exact fun _ => rfl), (by intro h; cases h), (by intro _ b h1 h2; omega)⟩ ?_
  rintro o2 pC pi ⟨g5, g6, A, a0, kz, m2, N, T, ar, c4, c9, b4, b5, b6, o6, f5, f9, J, e1, c5, c6, lr, rfl, f1, hkz, l2, lC, hcl⟩ lI
  refine ap _ lr (fun _ => ?_)
  clear lr
  replace hT := hT.mono f5
  replace c0 := c0.mono f5
  have nm := FAM.len c5
  have nn := FAM.len c6
  have oE := f1.li
  have oF := f1.lo
  refine ah 2 rfl (wT 1 [] 41 42 [] [(42, (.bool (decide ((0 : Int) ≤ kz))))] rfl fun _ => am 4 5 (v := (decide ((0 : Int) ≤ kz))) rfl rfl rfl rfl (fun hX => ?_) (fun hX => ?_))
  ·
   have kU := hX
   try simp only [BS] at kU
   have hkn : kz.toNat < c.blocks.length := by omega
   have hbl := hins kz.toNat
   have hfn : ((c.blocks.getD kz.toNat default).fin = 2 ∨ (c.blocks.getD kz.toNat default).fin = 3) → 0 ≤ (c.blocks.getD kz.toNat default).reg ∧ (c.blocks.getD kz.toNat default).reg < c.regs := vF.fin kz.toNat hkn
   have clk : ∀ {Q : Nat → Prop}, (∀ b : Nat, ((kz.toNat : Nat) : Int) - 1 < (b : Int) → Q b) → ∀ b : Nat, kz - 1 < (b : Int) → Q b := fun h b hb => h b (by omega)
   refine aa ?_
   obtain ⟨bb, lF⟩ := Sv.view (SR.sv c0 f9)
   obtain ⟨nI, nJ, nK, nL, a9⟩ := BlkT.fx (lF kz.toNat)
   let hh : Value := (.agg ⟨[(.slice (cA (bb kz.toNat) 0) (c.blocks.getD kz.toNat default).ins.length (cK (bb kz.toNat) 0)), (iI (c.blocks.getD kz.toNat default).fin), (iI (c.blocks.getD kz.toNat default).reg), (iI (c.blocks.getD kz.toNat default).tgt), (iI (c.blocks.getD kz.toNat default).els)]⟩)
   refine wRo 5 0 [(1, .o (.slice e4 c.blocks.length f0)), (4, .o hh)] 45 49 [] [(49, hh)] (vA (ql 22 2 (HS.hc f9 (i := 0) rfl) rfl rfl) (vA (Sv.ix (j := kz) (SR.sv c0 f9) (by omega) (by omega)) (vA (qn 48 0 5 (BlkT.vw (lF kz.toNat) (by omega)) rfl rfl rfl rfl) trivial))) rfl fun _ => aG (bp f9 rfl) rfl rfl ?_
   rintro _ pj _ ⟨hS, rfl, (mI : HS _ _ _ [_, ar, b5, b4, b6, [(hS, .cells [(.slice none 0 0), (iI 0), (iI 0), (iI 0), (iI 0)] none false)]] _), _⟩
   refine aN (aI (q := 5) mI rfl rfl rfl rfl rfl rfl rfl rfl rfl) rfl ?_
   rintro _ pk _ ⟨(jb : HS _ _ _ [_, _, _, _, _, [(hS, .cells [(.slice (cA (bb kz.toNat) 0) (c.blocks.getD kz.toNat default).ins.length (cK (bb kz.toNat) 0)), (iI (c.blocks.getD kz.toNat default).fin), (iI (c.blocks.getD kz.toNat default).reg), (iI (c.blocks.getD kz.toNat default).tgt), (iI (c.blocks.getD kz.toNat default).els)] none false)]] _), _⟩
   refine ae 3 rfl (aa (wUo 1 0 [(0, .o hh)] 50 50 [] [(50, hh)] (qn 48 0 5 (HS.hc jb (i := 5) rfl) rfl rfl rfl rfl) rfl fun _ => aA (aq rfl rfl rfl) rfl rfl (ma.vsucc_c ex (c.blocks.getD kz.toNat default) (HS.call jb) a9 (by omega) (by omega) (by omega) (by omega) hT) ?_))
   rintro _ pl ⟨mk, mT, pK, kS, nt, co, jc, rfl, f2, rfl⟩
   replace jc : HS _ _ _ [_, _, _, _, _, _, kS] _ := HS.back jb rfl jc
   replace e1 := e1.mono co
   replace c5 := SF.mono co c5
   replace c6 := SF.mono co c6
   let lQ : Fp := [(hS, .cells [(.slice (cA (bb kz.toNat) 0) (c.blocks.getD kz.toNat default).ins.length (cK (bb kz.toNat) 0)), (iI (c.blocks.getD kz.toNat default).fin), (iI (c.blocks.getD kz.toNat default).reg), (iI (c.blocks.getD kz.toNat default).tgt), (iI (c.blocks.getD kz.toNat default).els)] none false)]
   refine wTo 2 2 [] 52 53 [] [(52, (iI ((aY (c.blocks.getD kz.toNat default)).length : Int))), (53, (iI 0))] rfl fun _ => ae 2 rfl (aj (fun (mm : Nat) f H' => ∃ (E : List Hd) (ay : List (List U64)) (q : Nat) (U : Option Addr) (Z : Nat) (av : Fp) (e3 : Fp) (b7 : Fp) (F' : Fz), Fz.le nt F' ∧ HS (Base.of H []) F' H' [hg, ar, b7, av, e3, lQ, kS] R ∧ OS F' (.slice U E.length Z) E av ∧ SF F' E ay e3 ∧ SF F' A a0 b7 ∧ aD f [(1, (.pointer (some ⟨b1, 0, none⟩))), (2, (.slice N A.length T)), (3, (.slice U E.length Z)), (4, (iI (c.blocks.length : Int))), (6, (.bool m2)), (7, (iI kz)), (8, (.pointer (some ⟨hS, 0, none⟩))), (51, (.slice mk (aY (c.blocks.getD kz.toNat default)).length mT)), (52, (iI ((aY (c.blocks.getD kz.toNat default)).length : Int))), (53, (iI (q : Int)))] ∧ mm = (aY (c.blocks.getD kz.toNat default)).length - q ∧ (Snd c a0 ay) ∧ (q ≤ (aY (c.blocks.getD kz.toNat default)).length) ∧ (∀ j, j ≠ kz.toNat → ay.getD j default = g6.getD j default) ∧ (∀ t ∈ (aY (c.blocks.getD kz.toNat default)).take q, ∀ r, bI a0 t.toNat r → bI ay kz.toNat r)) _ ⟨g5, g6, 0, c4, c9, b4, b6, b5, _, fR, jc, e1, c6, c5, ⟨rfl, rfl, rfl, rfl, rfl, rfl, rfl, rfl, rfl, rfl, trivial⟩, rfl, (by exact f1), (by omega), (by exact fun _ _ => rfl), (by intro t ht; cases ht)⟩ ?_)
   rintro o3 pD pm ⟨E, ay, q, U, Z, av, e3, b7, hR, dv, fi, V, g3, a7, lu, rfl, em, hq, l3, l6⟩ mP
   refine ap _ lu (fun _ => ?_)
   clear lu
   replace hT := (hT.mono co).mono dv
   replace f2 := f2.mono dv
   replace J := (J.mono co).mono dv
   replace a9 := (a9.mono co).mono dv
   have nq := FAM.len g3
   have np := FAM.len a7
   have oK := succ_len (b := (c.blocks.getD kz.toNat default))
   have oG := em.lo
   have oO := em.wo kz.toNat hkn
   refine ah 1 rfl (wT 2 [] 54 54 [] [(54, (.bool (decide ((q : Int) < ((aY (c.blocks.getD kz.toNat default)).length : Int)))))] rfl fun _ => am 4 5 (v := (decide ((q : Int) < ((aY (c.blocks.getD kz.toNat default)).length : Int)))) rfl rfl rfl rfl (fun hY => ?_) (fun hY => ?_))
   ·
    have kV := hY
    try simp only [BS] at kV
    have hmem := iS (l := aY (c.blocks.getD kz.toNat default)) (q := q) (by omega)
    have hst := vF.succ kz.toNat hkn _ hmem
    have oM := em.wi ((aY (c.blocks.getD kz.toNat default)).getD q 0).toNat (by omega)
    obtain ⟨n4, lG⟩ := Sv.view (OS.sv f2 fi (i := 6) rfl)
    have pG := fI (lG q)
    refine wR 1 [(1, .o (iI ((aY (c.blocks.getD kz.toNat default)).getD q 0)))] 55 56 [10] [(10, (iI ((aY (c.blocks.getD kz.toNat default)).getD q 0)))] (vA (Sv.ix (j := (q : Int)) (OS.sv f2 fi (i := 6) rfl) (by omega) (by omega)) (vA (ql 3 0 (vI (lG q) (by omega)) rfl rfl) trivial)) rfl fun _ => aS rfl (fm (.slice U E.length Z) rfl rfl rfl (fm (iI kz) rfl rfl rfl (wfv (v := (.pointer (some ⟨sB (.slice U E.length Z), sO (.slice U E.length Z) + kz.toNat * Rp.sz Hd, none⟩))) (bh (α := Hd) (j := kz) rfl rfl rfl rfl (OS.sv V fi.log0 (i := 3) rfl) (by omega) (by omega)) ?_)))
    obtain ⟨n5, mJ⟩ := Sv.view (OS.sv V fi.log0 (i := 3) rfl)
    obtain ⟨k6, h4, go, hC, mw⟩ := SF.open g3 fi (q := 4) (i := kz.toNat) rfl (by omega)
    have go : HS _ _ _ [_, _, b7, av, k6, _, _, h4] _ := go
    have hC : OS hR (.slice (E.getD kz.toNat default).a (E.getD kz.toNat default).n (E.getD kz.toNat default).k) (ay.getD kz.toNat default) h4 := hC
    have oR := OS.nlen hC
    refine aF (v := (.slice (E.getD kz.toNat default).a (E.getD kz.toNat default).n (E.getD kz.toNat default).k)) (id := .l (sB (.slice U E.length Z))) (aU (i := 0) rfl rfl (vH (mJ kz.toNat) (by omega)) rfl rfl) rfl rfl (bx rfl) (kb rfl) (fm (.slice N A.length T) rfl rfl rfl (fm (iI ((aY (c.blocks.getD kz.toNat default)).getD q 0)) rfl rfl rfl (wfv (v := (.pointer (some ⟨sB (.slice N A.length T), sO (.slice N A.length T) + ((aY (c.blocks.getD kz.toNat default)).getD q 0).toNat * Rp.sz Hd, none⟩))) (bh (α := Hd) (j := ((aY (c.blocks.getD kz.toNat default)).getD q 0)) rfl rfl rfl rfl (OS.sv J go.log0 (i := 1) rfl) (by omega) (by omega)) ?_)))
    obtain ⟨n6, mK⟩ := Sv.view (OS.sv J go.log0 (i := 1) rfl)
    obtain ⟨k7, h5, g1, f6, mx⟩ := SF.open a7 go (q := 2) (i := ((aY (c.blocks.getD kz.toNat default)).getD q 0).toNat) rfl (by omega)
    have g1 : HS _ _ _ [_, _, k7, _, _, _, _, _, h5] _ := g1
    have f6 : OS hR (.slice (A.getD ((aY (c.blocks.getD kz.toNat default)).getD q 0).toNat default).a (A.getD ((aY (c.blocks.getD kz.toNat default)).getD q 0).toNat default).n (A.getD ((aY (c.blocks.getD kz.toNat default)).getD q 0).toNat default).k) (a0.getD ((aY (c.blocks.getD kz.toNat default)).getD q 0).toNat default) h5 := f6
    have oT := OS.nlen f6
    refine aF (v := (.slice (A.getD ((aY (c.blocks.getD kz.toNat default)).getD q 0).toNat default).a (A.getD ((aY (c.blocks.getD kz.toNat default)).getD q 0).toNat default).n (A.getD ((aY (c.blocks.getD kz.toNat default)).getD q 0).toNat default).k)) (id := .l (sB (.slice N A.length T))) (aU (i := 0) rfl rfl (vH (mK ((aY (c.blocks.getD kz.toNat default)).getD q 0).toNat) (by omega)) rfl rfl) rfl rfl (bx rfl) (kb rfl) ?_
    obtain ⟨nV, hw, f3, lY, lW⟩ := OS.frz f6 g1 (i := 8) rfl
    have f3 : HS _ _ _ [_, _, _, _, _, _, _, _, []] _ := f3
    refine bY (W := (h4.map Prod.fst)) (aq rfl rfl rfl) rfl rfl rfl (mb.fk ex (ay.getD kz.toNat default) (a0.getD ((aY (c.blocks.getD kz.toNat default)).getD q 0).toNat default) (HS.callOwn f3.log0 (i := 7) rfl) (OS.mono hw hC) lY (hT.mono hw) (by omega) (by omega)) (kb rfl) ?_
    rintro _ nB ⟨pL, nh, m9, o7, lj, a3, rfl, hz, om, ou, oy, oA⟩
    refine ⟨HS.didW a3, fun mY lV => ?_⟩
    replace a3 := HS.backOwn f3.log0 (i := 7) rfl rfl (fun _ hb => hb) a3
    replace a3 := HS.lg a3 g1 lV
    generalize ({ nB with log := mY } : Heap) = n1 at a3 ⊢
    replace a3 := HS.thawL g1 (i := 8) rfl (fT hw lj) (fun b o hb => lj _ _ (lW b o hb)) (i' := 8) rfl a3
    replace hz := OS.ind (F' := hR) hz
    have a3 : HS _ _ _ [hg, ar, k7, av, k6, lQ, kS, m9, h5] _ := a3
    have oU := OS.len' hz
    refine bT (ah 2 rfl (wU 1 [] 53 53 [66] [(53, (iI ((q : Int) + 1)))] (vi (n := (q : Int) + 1) (by omega)) rfl fun _ => ?_))
    obtain ⟨lb, jq, lv⟩ := SF.shut0 mx fR a3 (q := 2) (m := 8) (by decide) rfl rfl f6
    have jq : HS _ _ _ [_, _, lb, _, _, _, _, _, []] _ := jq
    have oc := FAM.len lv
    obtain ⟨lc, jw, lw⟩ := SF.shut mw fR jq (q := 4) (m := 7) (by decide) rfl rfl hz
    have jw : HS _ _ _ [_, _, _, _, lc, _, _, [], _] _ := jw
    have od := FAM.len lw
    refine mP _ _ _ ?_ ⟨E, ay.set kz.toNat nh, q + 1, U, Z, av, lc, lb, _, (dv), (HS.sub jw (a03 _ _)), V, lw, lv, ⟨rfl, rfl, rfl, rfl, rfl, rfl, rfl, rfl, rfl, rfl, trivial⟩, rfl, (by exact snd_out em hkn hmem (by assumption) (by assumption)), (by omega), (by exact fun j hj => by rw [df, if_neg (fun e => hj e.1.symm)]; exact l3 j hj), (by exact succ_step (by omega) (by omega) l6 (by assumption))⟩
    omega
   have kV := hY
   try simp only [BS] at kV
   have hsall : ∀ t ∈ aY (c.blocks.getD kz.toNat default), ∀ r, bI a0 t.toNat r → bI ay kz.toNat r := fun t ht => l6 t (by rw [a0f (by omega)]; exact ht)
   have oN := em.wi kz.toNat hkn
   refine aa (aG (bt (α := U64) (ps := []) (cells := []) ([] : List U64) fi rfl rfl rfl (by kernel_rfl) rfl rfl) rfl rfl ?_)
   rintro _ pn nG ⟨pz, pH, rfl, mE, (kc : HS _ _ _ [_, _, b7, av, e3, _, _, nG] _), _⟩
   obtain ⟨n7, mL⟩ := Sv.view (OS.sv V kc (i := 3) rfl)
   obtain ⟨mq, k3, hG, d2, my⟩ := SF.open g3 kc (q := 4) (i := kz.toNat) rfl (by omega)
   have hG : HS _ _ _ [_, _, _, _, mq, _, _, _, k3] _ := hG
   have d2 : OS hR (.slice (E.getD kz.toNat default).a (E.getD kz.toNat default).n (E.getD kz.toNat default).k) (ay.getD kz.toNat default) k3 := d2
   have oV := OS.nlen d2
   refine wRo 4 1 [(4, .o (.slice (E.getD kz.toNat default).a (E.getD kz.toNat default).n (E.getD kz.toNat default).k))] 68 71 [] [(71, (.slice (E.getD kz.toNat default).a (E.getD kz.toNat default).n (E.getD kz.toNat default).k))] (vA (Sv.ix (j := kz) (OS.sv V kc (i := 3) rfl) (by omega) (by omega)) (vA (ql 147 0 (vH (mL kz.toNat) (by omega)) rfl rfl) trivial)) rfl fun _ => aG (bw (α := U64) (q := 7) mE hG rfl rfl rfl (OS.sv d2 hG (i := 8) rfl) rfl rfl rfl rfl rfl rfl rfl (by (simp only [a05, a0a, a0e]; omega))) rfl rfl ?_
   rintro _ pq l7 ⟨g7, ha, rfl, iv, (kd : HS _ _ _ [_, _, _, _, _, _, _, l7, _] _), _⟩
   have iv : OS hR (.slice g7 (ay.getD kz.toNat default).length ha) (ay.getD kz.toNat default) l7 := iv
   refine wa (.slice g7 (ay.getD kz.toNat default).length ha) rfl rfl rfl (ae 2 rfl (aa (wUo 2 0 [(1, .o hh)] 73 74 [] [(73, (.slice g7 (ay.getD kz.toNat default).length ha)), (74, hh)] (qn 48 0 5 (HS.hc kd (i := 5) rfl) rfl rfl rfl rfl) rfl fun _ => aA (aq rfl rfl rfl) rfl rfl (mb.addT_c ex (ay.getD kz.toNat default) (c.blocks.getD kz.toNat default) (HS.callOwn kd (i := 7) rfl) iv a9 (by omega) (by omega) (by omega) (by omega) hT (by omega) (by omega)) ?_)))
   rintro _ pr ⟨lN, lL, nv, b9, hH, rfl, h8, oo, ov⟩
   replace hH : HS _ _ _ [_, _, _, _, _, _, _, lL, _] _ := HS.backOwn kd (i := 7) rfl rfl (fun _ hb => hb) hH
   replace d2 := d2.mono b9
   replace a7 := SF.mono b9 a7
   have oW := OS.len' h8
   refine ae 3 rfl (wR 2 [(1, .o (.slice (cA (bb kz.toNat) 0) (c.blocks.getD kz.toNat default).ins.length (cK (bb kz.toNat) 0)))] 76 79 [12] [(12, (iI (((c.blocks.getD kz.toNat default).ins.length : Int) - 1)))] (vA (ql 46 0 (HS.hc hH (i := 5) rfl) rfl rfl) (vA (vi (n := ((c.blocks.getD kz.toNat default).ins.length : Int) - 1) (by omega)) trivial)) rfl fun _ => ?_)
   obtain ⟨hn, kg, ci⟩ := SF.shut0 my (b9) hH (q := 4) (m := 8) (by decide) rfl rfl d2
   have kg : HS _ _ _ [_, _, _, _, hn, _, _, _, []] _ := kg
   have oe := FAM.len ci
   refine aj (fun (mm : Nat) f H' => ∃ (sw : List U64) (iz : Int) (aw : Option Addr) (ax : Nat) (dt : Fp) (F' : Fz), Fz.le nv F' ∧ HS (Base.of H []) F' H' [hg, ar, b7, av, hn, lQ, kS, dt, []] R ∧ OS F' (.slice aw sw.length ax) sw dt ∧ aD f [(1, (.pointer (some ⟨b1, 0, none⟩))), (2, (.slice N A.length T)), (3, (.slice U E.length Z)), (4, (iI (c.blocks.length : Int))), (6, (.bool m2)), (7, (iI kz)), (8, (.pointer (some ⟨hS, 0, none⟩))), (11, (.slice aw sw.length ax)), (12, (iI iz))] ∧ mm = (iz + 1).toNat ∧ (sw.length = wds c) ∧ (∀ r, aB sw r = true ↔ tr ((c.blocks.getD kz.toNat default).ins.drop (iz + 1).toNat) (endS (c.blocks.getD kz.toNat default) (bI ay kz.toNat)) r) ∧ (-1 ≤ iz ∧ iz < ((c.blocks.getD kz.toNat default).ins.length : Int))) _ ⟨lN, ((c.blocks.getD kz.toNat default).ins.length : Int) - 1, g7, ha, lL, _, fR, kg, (OS.norm h8), (agC rfl (agC rfl (agC rfl (agC rfl (agC rfl (agC rfl (agC rfl (agC (show Value.slice g7 (ay.getD kz.toNat default).length ha = Value.slice g7 lN.length ha by rw [OS.len' h8]) ⟨rfl, trivial⟩)))))))), rfl, (by omega), (by exact tr_start (by omega) (fun r => Iff.rfl) (by assumption)), (by omega)⟩ ?_
   rintro o4 pE pu ⟨sw, iz, aw, ax, dt, nw, cc, c3, he, lz, rfl, hsw, htr, hiz⟩ mQ
   refine ap _ lz (fun _ => ?_)
   clear lz
   replace hT := (hT.mono b9).mono cc
   replace J := (J.mono b9).mono cc
   replace V := (V.mono b9).mono cc
   replace a9 := (a9.mono b9).mono cc
   replace a7 := SF.mono cc a7
   replace ci := SF.mono cc ci
   refine ah 2 rfl (wT 1 [] 80 81 [] [(81, (.bool (decide ((0 : Int) ≤ iz))))] rfl fun _ => am 3 5 (v := (decide ((0 : Int) ≤ iz))) rfl rfl rfl rfl (fun h0 => ?_) (fun h0 => ?_))
   ·
    have kW := h0
    try simp only [BS] at kW
    have hvl : (∀ x ∈ az ((c.blocks.getD kz.toNat default).ins.getD iz.toNat default), 0 ≤ x ∧ x < c.regs) ∧ (∀ x ∈ ab ((c.blocks.getD kz.toNat default).ins.getD iz.toNat default), 0 ≤ x ∧ x < c.regs) ∧ ((c.blocks.getD kz.toNat default).ins.getD iz.toNat default).args.length ≤ 6 := bV (vF.ins kz.toNat hkn iz.toNat (show iz.toNat < (c.blocks.getD kz.toNat default).ins.length by omega))
    have oL := hvl.2.2
    refine aa ?_
    obtain ⟨kY, lH⟩ := Sv.view (SR.sv a9 c3)
    obtain ⟨nM, nN, nO, nP, nQ, lZ⟩ := VInT.fx (lH iz.toNat)
    let l8 : Value := (.agg ⟨[(iI ((c.blocks.getD kz.toNat default).ins.getD iz.toNat default).i.op), (iI ((c.blocks.getD kz.toNat default).ins.getD iz.toNat default).i.a), (iI ((c.blocks.getD kz.toNat default).ins.getD iz.toNat default).i.b), (iI ((c.blocks.getD kz.toNat default).ins.getD iz.toNat default).i.c), (iI ((c.blocks.getD kz.toNat default).ins.getD iz.toNat default).i.n), (.slice (cA (kY iz.toNat) 5) ((c.blocks.getD kz.toNat default).ins.getD iz.toNat default).args.length (cK (kY iz.toNat) 5))]⟩)
    refine wRo 6 0 [(2, .o (.slice (cA (bb kz.toNat) 0) (c.blocks.getD kz.toNat default).ins.length (cK (bb kz.toNat) 0))), (5, .o l8)] 84 89 [] [(84, (.slice aw sw.length ax)), (89, l8)] (vA (ql 46 0 (HS.hc c3 (i := 5) rfl) rfl rfl) (vA (Sv.ix (j := iz) (SR.sv a9 c3) (by omega) (by omega)) (vA (qn 52 0 6 (VInT.vw (lH iz.toNat) (by omega)) rfl rfl rfl rfl) trivial))) rfl fun _ => aA (aq rfl rfl rfl) rfl rfl (mb.jo ex sw ((c.blocks.getD kz.toNat default).ins.getD iz.toNat default) (HS.callOwn c3 (i := 7) rfl) he (by first | (dsimp only; omega) | omega) (by first | (dsimp only; omega) | omega) (by first | (dsimp only; omega) | omega) (by first | (dsimp only; omega) | omega) (by first | (dsimp only; omega) | omega) lZ hT (by first | omega | exact fun x hx => by have := hvl.1 x hx; omega | exact fun x hx => by have := hvl.2.1 x hx; omega) (by first | omega | exact fun x hx => by have := hvl.1 x hx; omega | exact fun x hx => by have := hvl.2.1 x hx; omega) (by first | omega | exact fun x hx => by have := hvl.1 x hx; omega | exact fun x hx => by have := hvl.2.1 x hx; omega) (by first | omega | exact fun x hx => by have := hvl.1 x hx; omega | exact fun x hx => by have := hvl.2.1 x hx; omega)) ?_
    rintro _ pw ⟨lO, lM, o8, mz, ki, rfl, h9, oq, ow⟩
    replace ki : HS _ _ _ [_, _, _, _, _, _, _, lM, _] _ := HS.backOwn c3 (i := 7) rfl rfl (fun _ hb => hb) ki
    have oX := OS.len' h9
    refine ae 2 rfl (wU 1 [] 82 83 [12] [(12, (iI (iz - 1)))] (vi (n := iz - 1) (by omega)) rfl fun _ => mQ _ _ _ ?_ ⟨lO, iz - 1, aw, ax, lM, _, (fT (cc) mz), ki, (OS.norm h9), (agC rfl (agC rfl (agC rfl (agC rfl (agC rfl (agC rfl (agC rfl (agC (show Value.slice aw sw.length ax = Value.slice aw lO.length ax by rw [OS.len' h9]) ⟨rfl, trivial⟩)))))))), rfl, (by omega), (by rw [show (iz - 1 + 1).toNat = iz.toNat by omega]; exact tr_next (by omega) (by rw [show iz.toNat + 1 = (iz + 1).toNat by omega]; exact htr) (by assumption)), (by omega)⟩)
    omega
   have kW := h0
   try simp only [BS] at kW
   have kP : ∀ r, aB sw r = true ↔ inS (c.blocks.getD kz.toNat default) (bI ay kz.toNat) r := fun r => by have := htr r; rwa [show (iz + 1).toNat = 0 by omega, a13] at this
   refine aa ?_
   obtain ⟨n8, mM⟩ := Sv.view (OS.sv J c3 (i := 1) rfl)
   obtain ⟨mr, k4, kk, e9, lh⟩ := SF.open a7 c3 (q := 2) (i := kz.toNat) rfl (by omega)
   have kk : HS _ _ _ [_, _, mr, _, _, _, _, dt, _, k4] _ := kk
   have e9 : OS nw (.slice (A.getD kz.toNat default).a (A.getD kz.toNat default).n (A.getD kz.toNat default).k) (a0.getD kz.toNat default) k4 := e9
   have oY := OS.nlen e9
   refine wRo 5 0 [(3, .o (.slice (A.getD kz.toNat default).a (A.getD kz.toNat default).n (A.getD kz.toNat default).k))] 91 95 [] [(94, (.slice (A.getD kz.toNat default).a (A.getD kz.toNat default).n (A.getD kz.toNat default).k)), (95, (.slice aw sw.length ax))] (vA (Sv.ix (j := kz) (OS.sv J c3 (i := 1) rfl) (by omega) (by omega)) (vA (ql 147 0 (vH (mM kz.toNat) (by omega)) rfl rfl) trivial)) rfl fun _ => ?_
   obtain ⟨pb, ch, hK, mF, oH⟩ := OS.frz he kk (i := 7) rfl
   have hK : HS _ _ _ [_, _, _, _, _, _, _, [], _, _] _ := hK
   replace hT := hT.mono ch
   replace e9 := e9.mono ch
   replace ci := SF.mono ch ci
   refine aA (aq rfl rfl rfl) rfl rfl (mb.fk ex (a0.getD kz.toNat default) sw (HS.callOwn hK (i := 9) rfl) e9 mF hT (by omega) (by omega)) ?_
   rintro _ px ⟨nH, lP, ne, o9, d1, hI, rfl, ib, ot, ox, oz, oB⟩
   replace hI : HS _ _ _ [_, _, _, _, _, _, _, _, _, ne] _ := HS.backOwn hK (i := 9) rfl rfl (fun _ hb => hb) hI
   replace J := (J.mono ch).mono d1
   replace V := (V.mono ch).mono d1
   replace ci := SF.mono d1 ci
   have oZ := OS.len' ib
   refine ae 1 rfl (am 0 2 (v := nH) rfl rfl rfl rfl (fun h3 => ?_) (fun h3 => ?_))
   ·
    have kX := h3
    try simp only [BS] at kX
    refine wT 2 [] 1 0 [6] [(6, (.bool true))] rfl fun _ => wU 1 [] 43 44 [7] [(7, (iI (kz - 1)))] (vi (n := kz - 1) (by omega)) rfl fun _ => ?_
    obtain ⟨ld, kl, lA⟩ := SF.shut lh (fT (ch) d1) hI (q := 2) (m := 9) (by decide) rfl rfl ib
    have kl : HS _ _ _ [_, _, ld, _, _, _, _, _, _, []] _ := kl
    have og := FAM.len lA
    refine lI _ _ _ ?_ ⟨E, ay, A, a0.set kz.toNat lP, kz - 1, true, N, T, ar, U, Z, av, ld, hn, _, (fT (fT (fT (fT (fT (fT (f5) co) dv) b9) cc) ch) d1), (HS.sub kl (a03 _ _)), J, V, lA, ci, ⟨rfl, rfl, rfl, rfl, rfl, rfl, trivial⟩, rfl, (by exact snd_in em hkn (by assumption) (by assumption) kP), (by omega), (by (intro h; cases h; done)), (by exact fun _ => cnt_t l2 lC (cnt_more (by omega) (by assumption) (by assumption) (use4 (by assumption) (by assumption)))), (by (intro h; cases h; done))⟩
    omega
   have kX := h3
   try simp only [BS] at kX
   refine wU 1 [] 43 44 [7] [(7, (iI (kz - 1)))] (vi (n := kz - 1) (by omega)) rfl fun _ => ?_
   obtain ⟨lf, kn, lB⟩ := SF.shut lh (fT (ch) d1) hI (q := 2) (m := 9) (by decide) rfl rfl ib
   have kn : HS _ _ _ [_, _, lf, _, _, _, _, _, _, []] _ := kn
   have oi := FAM.len lB
   refine lI _ _ _ ?_ ⟨E, ay, A, a0.set kz.toNat lP, kz - 1, m2, N, T, ar, U, Z, av, lf, hn, _, (fT (fT (fT (fT (fT (fT (f5) co) dv) b9) cc) ch) d1), (HS.sub kn (a03 _ _)), J, V, lB, ci, ⟨rfl, rfl, rfl, rfl, rfl, rfl, trivial⟩, rfl, (by exact snd_in em hkn (by assumption) (by assumption) kP), (by omega), (by exact keep0 (by assumption) (by assumption) l2), (by exact keep1 (by assumption) (by assumption) lC), (by (intro h; exact clk (cl_step hkn (fun b h1 => hcl h b (by omega)) l3 hsall kP (use3 (by assumption) (by assumption)) (by assumption))))⟩
   omega
  have kU := hX
  try simp only [BS] at kU
  refine mO _ _ _ ?_ ⟨g5, g6, A, a0, m2, N, T, ar, c4, c9, b4, b5, b6, _, (fT (hr) f5), f9, J, e1, c5, c6, ⟨rfl, rfl, rfl, rfl, rfl, trivial⟩, rfl, (by exact f1), (by exact fun h b hb => hcl h b (by omega) hb)⟩
  rw [hmo]; exact mea_lt lC (cnt_le f1.li f1.wi)
 have kQ := hW
 try simp only [BS] at kQ
 refine wT 1 [] 97 98 [2, 3] [(2, (.slice bk g2.length bz)), (3, (.slice bl g4.length b0))] rfl fun _ => ?_
 obtain ⟨pc, hu, ko, mA⟩ := SF.freeze et lE (q := 2) rfl
 have ko : HS _ _ _ [_, dd, _, dk, ds] _ := ko
 replace ez := ez.mono hu
 replace a1 := SF.mono hu a1
 obtain ⟨pd, hv, kr, mG, oI⟩ := OS.frz ez ko (i := 1) rfl
 have kr : HS _ _ _ [_, [], _, _, _] _ := kr
 replace a1 := SF.mono hv a1
 have f7 := SR.rows mG (FAM.len et) (fun i hi => SR.mono hv (mA i hi))
 have mZ := SR.len' f7
 have nT := SR.norm f7
 obtain ⟨pe, h6, kx, mB⟩ := SF.freeze a1 kr (q := 4) rfl
 have kx : HS _ _ _ [_, _, _, _, []] _ := kx
 replace e0 := ((e0.mono hu).mono hv).mono h6
 obtain ⟨pf, h7, ky, mH, oJ⟩ := OS.frz e0 kx (i := 3) rfl
 have ky : HS _ _ _ [_, _, _, [], _] _ := ky
 replace f7 := (f7.mono h6).mono h7
 have i1 := SR.rows mH (FAM.len a1) (fun i hi => SR.mono h7 (mB i hi))
 have m0 := SR.len' i1
 have nU := SR.norm i1
 refine ak ⟨.inr rfl, _, rfl, bk, bz, es, bl, b0, hf, _, (fT (fT (fT (fT (fT (hp) hr) hu) hv) h6) h7), (HS.forget ky), (by simp only [mZ, m0]; rfl), (SR.norm f7), (SR.norm i1), (by exact anF_of snd (cl (by assumption)))⟩
end Go.Proofs.YtknafdcgpaejlaaDoor.mc
