/-
 Live registers: the reference, function by function, each by a symbolic run. No condition but bounds on lengths.
-/
import Derived.Test.YtknafdcgpaejlaaDoorZXMG
import Derived.Test.YtknafdcgpaejlaaDoorZXRC
noncomputable section
namespace Go.Proofs.YtknafdcgpaejlaaDoor.mh
open Go.R
set_option maxRecDepth 10000
set_option linter.unusedVariables false
set_option linter.unusedSimpArgs false
open m1 m2 m3 m4 m5 m6 ma ml mb mc md mf mg
def oS (o : List Int) (r : Nat) : Prop := (r : Int) ∈ o
structure RpO (b : BlkT) (o : List Int) (g : Int) : Prop where
 gb : 0 ≤ g ∧ g ≤ 3000
 len : b.ins.length ≤ 1073741824
 ins : ∀ i, i < b.ins.length → (∀ x ∈ aI (b.ins.getD i default), 0 ≤ x ∧ x < g) ∧ (∀ x ∈ ak (b.ins.getD i default), 0 ≤ x ∧ x < g) ∧ (b.ins.getD i default).args.length ≤ 6
 fin : ∀ x ∈ endV b, 0 ≤ x ∧ x < g
 asc : Asc o
 mem : ∀ x ∈ o, 0 ≤ x ∧ x < g
theorem RpO.lst {b : BlkT} {o : List Int} {g : Int} (h : RpO b o g) : Lst o (oS o) := ⟨h.asc, fun x => ⟨fun hx => ⟨(h.mem x hx).1, by have := (h.mem x hx).1; unfold oS; rwa [show ((x.toNat : Nat) : Int) = x by omega]⟩, fun hx => by have := hx.2; unfold oS at this; rwa [show ((x.toNat : Nat) : Int) = x by omega] at this⟩⟩
def rpS (b : BlkT) (o : List Int) (i : Nat) : Nat → Prop := tr (b.ins.drop i) (endS b (oS o))
theorem rp_lt {b : BlkT} {o : List Int} {g : Int} (h : RpO b o g) {i r : Nat} (hr : rpS b o i r) : (r : Int) < g := by
 have key : ∀ (l : List VInT), (∀ w ∈ l, w ∈ b.ins) → ∀ r, tr l (endS b (oS o)) r → (r : Int) < g := by
  intro l
  induction l with
  | nil =>
   intro _ r hr
   rcases hr with z | z
   ·
    exact (h.mem _ z).2
   exact (h.fin _ z).2
  | cons w l ih =>
   intro hw r hr
   rcases hr with hr | hr
   ·
    obtain ⟨i, hi, he⟩ := List.mem_iff_getElem.1 (hw w (List.mem_cons_self ..))
    have := (h.ins i hi).1
    rw [List.getD_eq_getElem?_getD, List.getElem?_eq_getElem hi, Option.getD_some, he] at this
    exact (this _ hr).2
   exact ih (fun x hx => hw x (List.mem_cons_of_mem _ hx)) r hr.1
 exact key _ (fun w hw => List.mem_of_mem_drop hw) r hr
theorem rp_start {b : BlkT} {o : List Int} {g : Int} (h : RpO b o g) : Lst (cv o (endV b)) (rpS b o b.ins.length) := by
 have z := Lst.addL h.lst (fun x hx => (h.fin x hx).1)
 refine ⟨z.asc, fun x => ?_⟩
 rw [z.mem]
 unfold rpS
 rw [List.drop_length]
 exact Iff.rfl
theorem rp_step {b : BlkT} {o l : List Int} {g : Int} {i : Nat} (h : RpO b o g) (hi : i < b.ins.length) (hl : Lst l (rpS b o (i + 1))) : Lst (cv (iS l (ak (b.ins.getD i default))) (aI (b.ins.getD i default))) (rpS b o i) := by
 have hv := h.ins i hi
 have E := Lst.addL (l := aI (b.ins.getD i default)) (Lst.minus (w := ak (b.ins.getD i default)) hl) fun x hx => (hv.1 x hx).1
 refine ⟨E.asc, fun x => ?_⟩
 rw [E.mem]
 unfold rpS
 rw [tr_drop hi]
 constructor
 ·
  rintro ⟨A, z | z⟩
  ·
   exact ⟨A, .inr z⟩
  exact ⟨A, .inl z⟩
 rintro ⟨A, z | z⟩
 ·
  exact ⟨A, .inr z⟩
 exact ⟨A, .inl z⟩
structure RpF (b : BlkT) (o : List Int) (l : List (List Int)) : Prop where
 len : l.length = b.ins.length + 1
 pt : ∀ i, i ≤ b.ins.length → Lst (l.getD i default) (rpS b o i)
theorem rset {b : BlkT} {o : List Int} {i : Nat} {l : List (List Int)} {x : List Int} (hl : l.length = b.ins.length + 1) (h : ∀ j, i < j → j ≤ b.ins.length → Lst (l.getD j default) (rpS b o j)) (hi : i ≤ b.ins.length) (hx : Lst x (rpS b o i)) : ∀ j, i ≤ j → j ≤ b.ins.length → Lst ((l.set i x).getD j default) (rpS b o j) := fun j A z => by
 rw [at_set]
 split
 ·
  rename_i e; obtain ⟨rfl, _⟩ := e; exact hx
 rename_i e; exact h j (by omega) z
theorem end_len {b : BlkT} : (endV b).length ≤ 1 := by unfold endV; split <;> simp
set_option maxHeartbeats 2000000 in
theorem rpoints_c (ex : FuncId) {E : Option Addr} {J : Nat} (b : BlkT) {a_o : Option Addr} {k_o : Nat} (o : List Int) {F : Fz} {H : Heap} {R : List Fp} (hs : HS (.of H []) F H [] R) (V : SR F (.slice E b.ins.length J) b.ins) (h6 : in64 b.fin) (h7 : in64 b.reg) (h8 : in64 b.tgt) (ib : in64 b.els) (ho : SR F (.slice a_o o.length k_o) o) (hT : TB 37 tabC F) (hp : ∃ g, RpO b o g) : C Tryd.prog 1 (KT 60 ex 37 tabC) 67 [(.agg ⟨[(.slice E b.ins.length J), (iI b.fin), (iI b.reg), (iI b.tgt), (iI b.els)]⟩), (.slice a_o o.length k_o)] H fun v H' => ∃ (al : Option Addr) (kl : Nat) (l : List (List Int)) (p : Fp) (F' : Fz), Fz.le F F' ∧ HS (.of H []) F' H' [p] R ∧ v = .slice al l.length kl ∧ OS F' (.slice al l.length kl) l p ∧ (RpF b o l) := by
 obtain ⟨g, hp⟩ := hp
 have hbl := hp.len
 have hg := hp.gb
 have hol := Lst.len hp.lst hg.1 (fun r h => (hp.mem _ h).2)
 have hel := end_len (b := b)
 have hrl : (List.replicate (b.ins.length + 1) ([] : List Int)).length = b.ins.length + 1 := List.length_replicate
 refine aJ Tryd.func67 rfl rfl ?_
 refine aq 1 rfl ?_
 refine aa ?_
 refine aC (be hs rfl rfl) rfl rfl ?_
 rintro _ H2 _ ⟨b1, rfl, (em : HS _ _ _ [[(b1, .cells [(.slice E b.ins.length J), (iI b.fin), (iI b.reg), (iI b.tgt), (iI b.els)] none false)]] _), _⟩
 refine wa (.slice none 0 0) rfl rfl rfl ?_
 refine ab 2 rfl ?_
 refine aa ?_
 refine wRo 4 0 [(1, .o (.slice E b.ins.length J))] 7 10 [] [(10, (iI ((b.ins.length : Int) + 1)))] (vA (ql 46 0 (HS.hc em (i := 0) rfl) rfl rfl) (vA (vi (n := (b.ins.length : Int) + 1) (by omega)) trivial)) rfl fun _ => ?_
 refine aC (hP ([] : (List Int)) em rfl rfl rfl rfl rfl rfl rfl rfl rfl ⟨none, 0, rfl, SR.nil⟩ (by omega) (by omega)) rfl rfl ?_
 rintro _ H5 p4 ⟨a4, k4, rfl, a6, (a7 : HS _ _ _ [_, p4] _), _⟩
 have a6 : OS F (.slice a4 (List.replicate (b.ins.length + 1) ([] : (List Int))).length k4) (List.replicate (b.ins.length + 1) ([] : (List Int))) p4 := a6
 refine wa (.slice a4 (List.replicate (b.ins.length + 1) ([] : (List Int))).length k4) rfl rfl rfl ?_
 refine ab 2 rfl ?_
 refine aQ rfl ?_
 refine fm (.slice a4 (List.replicate (b.ins.length + 1) ([] : (List Int))).length k4) rfl rfl rfl ?_
 refine wfv (v := (.pointer (some ⟨b1, 0, none⟩))) (cg rfl rfl) ?_
 refine aB (v := (.slice E b.ins.length J)) (id := .l b1) (bh (i := 0) rfl rfl (HS.hc a7.log0 (i := 0) rfl) rfl rfl) rfl rfl (bg rfl) (kb rfl) ?_
 refine aB (v := (iI (b.ins.length : Int))) (id := .v) (iM (α := VInT) rfl rfl (SR.sv V a7.log0)) rfl rfl (jR rfl) (dI _) ?_
 refine fm (.slice a_o o.length k_o) rfl rfl rfl ?_
 refine aB (v := (.agg ⟨[(.slice E b.ins.length J), (iI b.fin), (iI b.reg), (iI b.tgt), (iI b.els)]⟩)) (id := .l b1) (bQ (i := 0) rfl rfl rfl (HS.hc a7.log0 (i := 0) rfl) rfl rfl rfl) rfl rfl (bg rfl) (kb rfl) ?_
 refine aX (W := []) (am rfl rfl rfl) rfl rfl rfl (ma.rend_c ex b (HS.call a7.log0) V (by omega) (by omega) (by omega) (by omega) hT) (⟨.inl rfl, ⟨.inr trivial, ⟨.inr trivial, ⟨.inr List.not_mem_nil, ⟨.inr trivial, ⟨.inr trivial, trivial⟩⟩⟩⟩⟩⟩) ?_
 rintro _ H6 ⟨kj, kn, r6, p6, F6, b6, ax, rfl, f3, rfl⟩
 refine ⟨Wr.did ax.log, fun hk e4 => ?_⟩
 replace ax := HS.back a7.log0 rfl ax
 replace ax := HS.lg ax a7 e4
 generalize ({ H6 with log := hk } : Heap) = kg at ax ⊢
 have ax : HS _ _ _ [_, _, p6] _ := ax
 obtain ⟨F7, b7, b8, hh, km⟩ := OS.frz f3 ax (i := 2) rfl
 have b8 : HS _ _ _ [_, _, []] _ := b8
 replace hT := (hT.mono b6).mono b7
 replace ho := (ho.mono b6).mono b7
 refine aX (W := []) (am rfl rfl rfl) rfl rfl rfl (ma.gY ex o (endV b) (HS.call b8.log0) ho hh hT (by omega)) (⟨.inl rfl, ⟨.inl rfl, ⟨.inl rfl, ⟨.inr trivial, ⟨.inr List.not_mem_nil, ⟨.inr trivial, ⟨.inr trivial, trivial⟩⟩⟩⟩⟩⟩⟩) ?_
 rintro _ H8 ⟨he, hj, r8, F8, ch, ar, rfl, f4, rfl⟩
 refine ⟨Wr.did ar.log, fun hl e6 => ?_⟩
 replace ar := HS.back b8.log0 rfl ar
 replace ar := HS.lg ar b8 e6
 generalize ({ H8 with log := hl } : Heap) = ki at ar ⊢
 have ar : HS _ _ _ [_, _, _] _ := ar
 replace a6 := ((a6.mono b6).mono b7).mono ch
 refine wfv (v := (.pointer (some ⟨sB (.slice a4 (List.replicate (b.ins.length + 1) ([] : (List Int))).length k4), sO (.slice a4 (List.replicate (b.ins.length + 1) ([] : (List Int))).length k4) + b.ins.length * Rp.sz (List Int), none⟩))) (br (α := (List Int)) (j := (b.ins.length : Int)) rfl rfl rfl rfl (OS.sv a6 ar.log0 (i := 1) rfl) (by omega) (by omega)) ?_
 refine jz (id := .x (p4.map Prod.fst)) (dF (α := (List Int)) (j := b.ins.length) (off := 0) (q := 1) (cv o (endV b)) a6 ar.log0 rfl rfl rfl rfl rfl rfl rfl rfl (aK (x := default) (by omega)) rfl (by rintro cs ⟨_, _, rfl, _⟩; exact ⟨Nat.le_of_ble_eq_true rfl, ⟨he, hj, rfl, f4⟩⟩)) rfl (by rintro _ _ p9 ⟨bl, _, hwr⟩; exact dh rfl rfl (Wr.did hwr)) (kb rfl) ?_
 rintro _ g6 p9 ⟨bl, av, _⟩ f9 c8
 replace av := HS.lg av ar c8
 generalize ({ g6 with log := f9 } : Heap) = hF at av ⊢
 have av : HS _ _ _ [_, p9, _] _ := av
 have ih := OS.len' bl
 refine bU ?_
 refine aq 3 rfl ?_
 refine wR 2 [(1, .o (.slice E b.ins.length J))] 21 24 [6] [(6, (iI ((b.ins.length : Int) - 1)))] (vA (ql 46 0 (HS.hc av (i := 0) rfl) rfl rfl) (vA (vi (n := (b.ins.length : Int) - 1) (by omega)) trivial)) rfl fun _ => ?_
 refine aE (fun (mm : Nat) f H' => ∃ (pl : List (List Int)) (iz : Int) (z : Option Addr) (A : Nat) (Z : Fp) (F' : Fz), Fz.le F8 F' ∧ HS (Base.of H []) F' H' [[(b1, .cells [(.slice E b.ins.length J), (iI b.fin), (iI b.reg), (iI b.tgt), (iI b.els)] none false)], Z, []] R ∧ OS F' (.slice z pl.length A) pl Z ∧ aH f [(2, (.pointer (some ⟨b1, 0, none⟩))), (4, (.slice none 0 0)), (5, (.slice z pl.length A)), (6, (iI iz))] ∧ mm = (iz + 1).toNat ∧ (pl.length = b.ins.length + 1) ∧ (-1 ≤ iz ∧ iz < (b.ins.length : Int)) ∧ (∀ j, (iz + 1).toNat ≤ j → j ≤ b.ins.length → Lst (pl.getD j default) (rpS b o j))) _ ⟨(List.replicate (b.ins.length + 1) ([] : (List Int))).set b.ins.length (cv o (endV b)), (b.ins.length : Int) - 1, a4, k4, p9, _, fR, av, (OS.norm bl), (agC rfl (agC rfl (agC (show Value.slice a4 (List.replicate (b.ins.length + 1) ([] : (List Int))).length k4 = Value.slice a4 ((List.replicate (b.ins.length + 1) ([] : (List Int))).set b.ins.length (cv o (endV b))).length k4 by rw [OS.len' bl]) ⟨rfl, trivial⟩))), rfl, (by simp), (by omega), (by exact fun j h1 h2 => by (rw [show j = b.ins.length by omega, at_set, if_pos ⟨rfl, by simp⟩]; exact rp_start hp))⟩ ?_
 rintro ja kk kd ⟨pl, iz, z, A, Z, jc, a8, ad, U, c0, rfl, e2, e3, e5⟩ f5
 refine au _ c0 (fun _ => ?_)
 clear c0
 replace hT := (hT.mono ch).mono a8
 replace V := (((V.mono b6).mono b7).mono ch).mono a8
 refine aq 2 rfl ?_
 refine wR 1 [] 25 26 [] [(26, (.bool (decide ((0 : Int) ≤ iz))))] trivial rfl fun _ => ?_
 refine ap 3 5 (v := (decide ((0 : Int) ≤ iz))) rfl rfl rfl rfl (fun cc => ?_) (fun cc => ?_)
 ·
  have ci := cc
  try simp only [BS] at ci
  have hin : iz.toNat < b.ins.length := by omega
  have hvl := hp.ins iz.toNat hin
  have iv : (b.ins.getD iz.toNat default).args.length ≤ 6 := hvl.2.2
  have hpl := Lst.len (e5 (iz + 1).toNat (Nat.le_refl _) (by omega)) hg.1 (fun r h => rp_lt hp h)
  have hwl := iZ (v := (b.ins.getD iz.toNat default))
  have it := h9 (v := (b.ins.getD iz.toNat default))
  have hml : (iS (pl.getD (iz + 1).toNat default) (ak (b.ins.getD iz.toNat default))).length ≤ (pl.getD (iz + 1).toNat default).length := List.length_filter_le _ _
  refine aQ rfl ?_
  refine fm (.slice z pl.length A) rfl rfl rfl ?_
  refine fm (iI iz) rfl rfl rfl ?_
  refine fm (.slice z pl.length A) rfl rfl rfl ?_
  refine fm (iI iz) rfl rfl rfl ?_
  refine wfv (v := (iI (iz + 1))) (ap_add rfl rfl (w_i64 (n := iz + 1) (by omega))) ?_
  refine wfv (v := (.pointer (some ⟨sB (.slice z pl.length A), sO (.slice z pl.length A) + (iz + 1).toNat * Rp.sz (List Int), none⟩))) (br (α := (List Int)) (j := iz + 1) rfl rfl rfl rfl (OS.sv U ad.log0 (i := 1) rfl) (by omega) (by omega)) ?_
  obtain ⟨hY, fd, ez⟩ := Sv.at (OS.sv U ad.log0 (i := 1) rfl) (aK (x := default) (show (iz + 1).toNat < pl.length from by omega))
  obtain ⟨c4, dv, rfl, b3⟩ := fd
  refine aB (v := (.slice c4 (pl.getD (iz + 1).toNat default).length dv)) (id := .l (sB (.slice z pl.length A))) (bh (i := 0) rfl rfl ez rfl rfl) rfl rfl (bg rfl) (kb rfl) ?_
  refine wfv (v := (.pointer (some ⟨b1, 0, none⟩))) (cg rfl rfl) ?_
  refine aB (v := (.slice E b.ins.length J)) (id := .l b1) (bh (i := 0) rfl rfl (HS.hc ad.log0 (i := 0) rfl) rfl rfl) rfl rfl (bg rfl) (kb rfl) ?_
  refine fm (iI iz) rfl rfl rfl ?_
  refine wfv (v := (.pointer (some ⟨sB (.slice E b.ins.length J), sO (.slice E b.ins.length J) + iz.toNat * Rp.sz VInT, none⟩))) (br (α := VInT) (j := iz) rfl rfl rfl rfl (SR.sv V ad.log0) (by omega) (by omega)) ?_
  obtain ⟨h3, fi, e0⟩ := Sv.at (SR.sv V ad.log0) (aK (x := default) (show iz.toNat < b.ins.length from by omega))
  obtain ⟨c5, d1, rfl, hq, hr, ht, hu, hv, d3⟩ := fi
  refine aB (v := (.agg ⟨[(iI (b.ins.getD iz.toNat default).i.op), (iI (b.ins.getD iz.toNat default).i.a), (iI (b.ins.getD iz.toNat default).i.b), (iI (b.ins.getD iz.toNat default).i.c), (iI (b.ins.getD iz.toNat default).i.n), (.slice c5 (b.ins.getD iz.toNat default).args.length d1)]⟩)) (id := .l (sB (.slice E b.ins.length J))) (bQ (i := 0) rfl rfl rfl e0 rfl rfl rfl) rfl rfl (bg rfl) (kb rfl) ?_
  refine aX (W := []) (am rfl rfl rfl) rfl rfl rfl (ma.hN ex (b.ins.getD iz.toNat default) (HS.call ad.log0) (by omega) (by omega) (by omega) (by omega) (by omega) d3 hT) (⟨.inl rfl, ⟨.inl rfl, ⟨.inl rfl, ⟨.inl rfl, ⟨.inl rfl, ⟨.inr List.not_mem_nil, ⟨.inr trivial, ⟨.inr trivial, ⟨.inr trivial, ⟨.inr trivial, ⟨.inr trivial, ⟨.inr trivial, trivial⟩⟩⟩⟩⟩⟩⟩⟩⟩⟩⟩⟩) ?_
  rintro _ g7 ⟨hV, i1, ko, hm, jq, a0, ag, rfl, ds, rfl⟩
  refine ⟨Wr.did ag.log, fun go c9 => ?_⟩
  replace ag := HS.back ad.log0 rfl ag
  replace ag := HS.lg ag ad c9
  generalize ({ g7 with log := go } : Heap) = hG at ag ⊢
  have ag : HS _ _ _ [_, Z, _, hm] _ := ag
  obtain ⟨jw, a1, a2, f0, ii⟩ := OS.frz ds ag (i := 3) rfl
  have a2 : HS _ _ _ [_, _, _, []] _ := a2
  replace hT := (hT.mono a0).mono a1
  replace b3 := (b3.mono a0).mono a1
  refine aX (W := []) (am rfl rfl rfl) rfl rfl rfl (ma.minus_c ex (pl.getD (iz + 1).toNat default) (ak (b.ins.getD iz.toNat default)) (HS.call a2.log0) b3 f0 hT (by omega)) (kb rfl) ?_
  rintro _ g8 ⟨hW, i2, kp, hn, j0, a9, N, rfl, b0, rfl⟩
  refine ⟨Wr.did N.log, fun g0 dd => ?_⟩
  replace N := HS.back a2.log0 rfl N
  replace N := HS.lg N a2 dd
  generalize ({ g8 with log := g0 } : Heap) = hH at N ⊢
  have N : HS _ _ _ [_, _, _, _, hn] _ := N
  replace hT := hT.mono a9
  replace V := ((V.mono a0).mono a1).mono a9
  refine wfv (v := (.pointer (some ⟨b1, 0, none⟩))) (cg rfl rfl) ?_
  refine aB (v := (.slice E b.ins.length J)) (id := .l b1) (bh (i := 0) rfl rfl (HS.hc N.log0 (i := 0) rfl) rfl rfl) rfl rfl (bg rfl) (⟨.inl rfl, ⟨.inr List.not_mem_nil, ⟨.inr List.not_mem_nil, ⟨.inr trivial, ⟨.inr trivial, ⟨.inr trivial, ⟨.inr trivial, ⟨.inr trivial, ⟨.inr trivial, ⟨.inr trivial, ⟨.inr trivial, ⟨.inr trivial, ⟨.inr trivial, ⟨.inr trivial, ⟨.inr trivial, trivial⟩⟩⟩⟩⟩⟩⟩⟩⟩⟩⟩⟩⟩⟩⟩) ?_
  refine fm (iI iz) rfl rfl rfl ?_
  refine wfv (v := (.pointer (some ⟨sB (.slice E b.ins.length J), sO (.slice E b.ins.length J) + iz.toNat * Rp.sz VInT, none⟩))) (br (α := VInT) (j := iz) rfl rfl rfl rfl (SR.sv V N.log0) (by omega) (by omega)) ?_
  obtain ⟨h4, f1, e1⟩ := Sv.at (SR.sv V N.log0) (aK (x := default) (show iz.toNat < b.ins.length from by omega))
  obtain ⟨c6, d2, rfl, hw, hz, hA, hB, hC, d4⟩ := f1
  refine aB (v := (.agg ⟨[(iI (b.ins.getD iz.toNat default).i.op), (iI (b.ins.getD iz.toNat default).i.a), (iI (b.ins.getD iz.toNat default).i.b), (iI (b.ins.getD iz.toNat default).i.c), (iI (b.ins.getD iz.toNat default).i.n), (.slice c6 (b.ins.getD iz.toNat default).args.length d2)]⟩)) (id := .l (sB (.slice E b.ins.length J))) (bQ (i := 0) rfl rfl rfl e1 rfl rfl rfl) rfl rfl (bg rfl) (⟨.inl rfl, ⟨.inl rfl, ⟨.inl rfl, ⟨.inl rfl, ⟨.inr List.not_mem_nil, ⟨.inr List.not_mem_nil, ⟨.inr trivial, ⟨.inr trivial, ⟨.inr trivial, ⟨.inr trivial, ⟨.inr trivial, ⟨.inr trivial, ⟨.inr trivial, ⟨.inr trivial, ⟨.inr trivial, ⟨.inr trivial, ⟨.inr trivial, ⟨.inr trivial, trivial⟩⟩⟩⟩⟩⟩⟩⟩⟩⟩⟩⟩⟩⟩⟩⟩⟩⟩) ?_
  refine aX (W := []) (am rfl rfl rfl) rfl rfl rfl (ma.jG ex (b.ins.getD iz.toNat default) (HS.call N.log0) (by omega) (by omega) (by omega) (by omega) (by omega) d4 hT (by omega)) (kb rfl) ?_
  rintro _ g9 ⟨hX, i3, kr, j1, bb, an, rfl, b2, rfl⟩
  refine ⟨Wr.did an.log, fun g1 dk => ?_⟩
  replace an := HS.back N.log0 rfl an
  replace an := HS.lg an N dk
  generalize ({ g9 with log := g1 } : Heap) = hI at an ⊢
  have an : HS _ _ _ [_, _, _, _, _] _ := an
  replace b0 := b0.mono bb
  obtain ⟨j2, bk, a3, f2, ik⟩ := OS.frz b0 an (i := 4) rfl
  have a3 : HS _ _ _ [_, _, _, _, []] _ := a3
  replace hT := (hT.mono bb).mono bk
  replace b2 := b2.mono bk
  refine aX (W := []) (am rfl rfl rfl) rfl rfl rfl (ma.gY ex (iS (pl.getD (iz + 1).toNat default) (ak (b.ins.getD iz.toNat default))) (aI (b.ins.getD iz.toNat default)) (HS.call a3.log0) f2 b2 hT (by omega)) (kb rfl) ?_
  rintro _ ha ⟨es, f7, kt, kc, co, T, rfl, dt, rfl⟩
  refine ⟨Wr.did T.log, fun g2 dl => ?_⟩
  replace T := HS.back a3.log0 rfl T
  replace T := HS.lg T a3 dl
  generalize ({ ha with log := g2 } : Heap) = hK at T ⊢
  have T : HS _ _ _ [_, _, _, _, _] _ := T
  replace U := (((((U.mono a0).mono a1).mono a9).mono bb).mono bk).mono co
  refine wfv (v := (.pointer (some ⟨sB (.slice z pl.length A), sO (.slice z pl.length A) + iz.toNat * Rp.sz (List Int), none⟩))) (br (α := (List Int)) (j := iz) rfl rfl rfl rfl (OS.sv U T.log0 (i := 1) rfl) (by omega) (by omega)) ?_
  refine jz (id := .x (Z.map Prod.fst)) (dF (α := (List Int)) (j := iz.toNat) (off := 0) (q := 1) (cv (iS (pl.getD (iz + 1).toNat default) (ak (b.ins.getD iz.toNat default))) (aI (b.ins.getD iz.toNat default))) U T.log0 rfl rfl rfl rfl rfl rfl rfl rfl (aK (x := default) (by omega)) rfl (by rintro cs ⟨_, _, rfl, _⟩; exact ⟨Nat.le_of_ble_eq_true rfl, ⟨es, f7, rfl, dt⟩⟩)) rfl (by rintro _ _ c3 ⟨bz, _, hwr⟩; exact dh rfl rfl (Wr.did hwr)) (kb rfl) ?_
  rintro _ hb c3 ⟨bz, ay, _⟩ g3 dn
  replace ay := HS.lg ay T dn
  generalize ({ hb with log := g3 } : Heap) = hM at ay ⊢
  have ay : HS _ _ _ [_, c3, _, _, _] _ := ay
  have hD := OS.len' bz
  refine bU ?_
  refine aq 2 rfl ?_
  refine wR 1 [] 27 28 [6] [(6, (iI (iz - 1)))] (vA (vi (n := iz - 1) (by omega)) trivial) rfl fun _ => ?_
  refine f5 _ _ _ ?_ ⟨pl.set iz.toNat (cv (iS (pl.getD (iz + 1).toNat default) (ak (b.ins.getD iz.toNat default))) (aI (b.ins.getD iz.toNat default))), iz - 1, z, A, c3, _, (fT (fT (fT (fT (fT (fT (a8) a0) a1) a9) bb) bk) co), (HS.sub ay (List.sublist_append_left _ _)), (OS.norm bz), (agC rfl (agC rfl (agC (show Value.slice z pl.length A = Value.slice z (pl.set iz.toNat (cv (iS (pl.getD (iz + 1).toNat default) (ak (b.ins.getD iz.toNat default))) (aI (b.ins.getD iz.toNat default)))).length A by rw [OS.len' bz]) ⟨rfl, trivial⟩))), rfl, (by rw [List.length_set]; exact e2), (by omega), (by rw [show (iz - 1 + 1).toNat = iz.toNat by omega]; exact rset e2 (fun j h1 h2 => e5 j (by omega) h2) (by omega) (rp_step hp hin (by rw [show iz.toNat + 1 = (iz + 1).toNat by omega]; exact e5 _ (Nat.le_refl _) (by omega))))⟩
  omega
 have ci := cc
 try simp only [BS] at ci
 refine wR 1 [] 4 4 [51] [(4, (.slice z pl.length A))] trivial rfl fun _ => ?_
 refine ah ⟨.inr rfl, _, rfl, z, A, pl, Z, _, (fT (fT (fT (b6) b7) ch) a8), (HS.only ad (i := 1) rfl), rfl, U, (by exact ⟨e2, fun i hi => e5 i (by omega) hi⟩)⟩
def acV (v : VInT) (l : List Int) : List Int := if v.i.op = 6 then cv (iS l [v.i.a]) (aI v) else []
theorem after_c (ex : FuncId) {a_l : Option Addr} {k_l : Nat} (l : List (List Int)) (k : Int) {F : Fz} {H : Heap} {R : List Fp} (hs : HS (.of H []) F H [] R) (hl : SR F (.slice a_l l.length k_l) l) (hk : in64 k) (hT : TB 37 tabC F) (hk : 0 ≤ k ∧ k + 1 < (l.length : Int) ∧ l.length ≤ 1073741825) : C Tryd.prog 1 (KT 60 ex 37 tabC) 55 [(.slice a_l l.length k_l), (iI k)] H fun v H' => ∃ (ar : Option Addr) (kr : Nat) (r : List Int), H' = H ∧ v = .slice ar r.length kr ∧ SR F (.slice ar r.length kr) r ∧ r = l.getD (k + 1).toNat default := by
 refine aJ Tryd.func55 rfl rfl ?_
 refine aq 1 rfl ?_
 refine wR 2 [] 4 4 [] [(4, (.slice none 0 0))] trivial rfl fun _ => ?_
 obtain ⟨z, A⟩ := Sv.view (SR.sv hl hs)
 have E := fL (A (k + 1).toNat)
 refine wR 1 [(4, .o (.slice (cA (z (k + 1).toNat) 0) (l.getD (k + 1).toNat default).length (cK (z (k + 1).toNat) 0)))] 4 9 [] [(4, (.slice (cA (z (k + 1).toNat) 0) (l.getD (k + 1).toNat default).length (cK (z (k + 1).toNat) 0)))] (vA (vi (n := k + 1) (by omega)) (vA (Sv.ix (j := k + 1) (SR.sv hl hs) (by omega) (by omega)) (vA (ql 25 0 (vL (A (k + 1).toNat) (by omega)) rfl rfl) trivial))) rfl fun _ => ?_
 refine ah ⟨.inr rfl, _, rfl, (cA (z (k + 1).toNat) 0), (cK (z (k + 1).toNat) 0), (l.getD (k + 1).toNat default), rfl, rfl, E, (by rfl)⟩
theorem acall_c (ex : FuncId) {J : Option Addr} {N : Nat} (iv : VInT) {a_l : Option Addr} {k_l : Nat} (l : List Int) {F : Fz} {H : Heap} {R : List Fp} (hs : HS (.of H []) F H [] R) (b9 : in64 iv.i.op) (cc : in64 iv.i.a) (ch : in64 iv.i.b) (ci : in64 iv.i.c) (co : in64 iv.i.n) (V : SR F (.slice J iv.args.length N) iv.args) (hl : SR F (.slice a_l l.length k_l) l) (hT : TB 37 tabC F) (hll : l.length ≤ 1048576) (hargs : iv.args.length ≤ 1048576) : C Tryd.prog 1 (KT 60 ex 37 tabC) 110 [(.agg ⟨[(iI iv.i.op), (iI iv.i.a), (iI iv.i.b), (iI iv.i.c), (iI iv.i.n), (.slice J iv.args.length N)]⟩), (.slice a_l l.length k_l)] H fun v H' => ∃ (ar : Option Addr) (kr : Nat) (r : List Int) (F' : Fz), Fz.le F F' ∧ HS (.of H []) F' H' [] R ∧ v = .slice ar r.length kr ∧ SR F' (.slice ar r.length kr) r ∧ r = acV iv l := by
 refine aJ Tryd.func110 rfl rfl ?_
 refine aq 1 rfl ?_
 refine aa ?_
 refine aC (be hs rfl rfl) rfl rfl ?_
 rintro _ H2 _ ⟨b1, rfl, (ad : HS _ _ _ [[(b1, .cells [(iI iv.i.op), (iI iv.i.a), (iI iv.i.b), (iI iv.i.c), (iI iv.i.n), (.slice J iv.args.length N)] none false)]] _), _⟩
 refine wa (.slice none 0 0) rfl rfl rfl ?_
 refine ab 3 rfl ?_
 refine wR 1 [(2, .o (iI iv.i.op))] 5 8 [] [(8, (.bool (iv.i.op != 6)))] (vA (ql 3 0 (HS.hc ad (i := 0) rfl) rfl rfl) trivial) rfl fun _ => ?_
 refine ap 1 2 (v := (iv.i.op != 6)) rfl rfl rfl rfl (fun a2 => ?_) (fun a2 => ?_)
 ·
  have c4 := a2
  try simp only [BS] at c4
  have hq := c4
  refine wR 1 [] 4 4 [] [(4, (.slice none 0 0))] trivial rfl fun _ => ?_
  refine ah ⟨.inr rfl, _, rfl, none, 0, ([] : List Int), _, fR, (HS.forget ad), rfl, (SR.nil : SR F (.slice none 0 0) ([] : List Int)), (by exact (if_neg hq).symm)⟩
 have c4 := a2
 try simp only [BS] at c4
 have hq := c4
 refine aQ rfl ?_
 refine fm (.slice a_l l.length k_l) rfl rfl rfl ?_
 refine wfv (v := (.pointer (some ⟨b1, 0, none⟩))) (cg rfl rfl) ?_
 refine wfv (v := (.pointer (some ⟨b1, 1, none⟩))) (cg rfl rfl) ?_
 refine aB (v := (iI iv.i.a)) (id := .l b1) (bh (i := 1) rfl rfl (HS.hc ad.log0 (i := 0) rfl) rfl rfl) rfl rfl (bg rfl) (kb rfl) ?_
 refine cL (id := .a) (aP (α := Int) (ps := [(0, (iI iv.i.a))]) (cells := [(iI iv.i.a)]) ([iv.i.a] : List Int) ad.log0 rfl rfl rfl (by kernel_rfl) ⟨[(iI iv.i.a)], [], rfl, ⟨rfl, by omega⟩, rfl⟩ rfl) rfl rfl (fun _ _ _ _ => iU rfl rfl rfl) (kb rfl) ?_
 rintro _ H7 p6 ⟨a6, k6, rfl, b4, U, _⟩ b7 bb
 replace U := HS.lg U ad bb
 generalize ({ H7 with log := b7 } : Heap) = dt at U ⊢
 have U : HS _ _ _ [_, p6] _ := U
 obtain ⟨F8, ax, ag, b6, d2⟩ := OS.frz b4 U (i := 1) rfl
 have ag : HS _ _ _ [_, []] _ := ag
 replace hT := hT.mono ax
 replace hl := hl.mono ax
 refine aX (W := []) (am rfl rfl rfl) rfl rfl rfl (ma.minus_c ex l ([iv.i.a] : List Int) (HS.call ag.log0) hl b6 hT (by (simp; omega))) (kb rfl) ?_
 rintro _ H9 ⟨d1, d3, r9, p9, F9, a3, E, rfl, av, rfl⟩
 refine ⟨Wr.did E.log, fun b8 bk => ?_⟩
 replace E := HS.back ag.log0 rfl E
 replace E := HS.lg E ag bk
 generalize ({ H9 with log := b8 } : Heap) = dv at E ⊢
 have E : HS _ _ _ [_, _, p9] _ := E
 replace hT := hT.mono a3
 replace V := (V.mono ax).mono a3
 refine aB (v := (.agg ⟨[(iI iv.i.op), (iI iv.i.a), (iI iv.i.b), (iI iv.i.c), (iI iv.i.n), (.slice J iv.args.length N)]⟩)) (id := .l b1) (bQ (i := 0) rfl rfl rfl (HS.hc E.log0 (i := 0) rfl) rfl rfl rfl) rfl rfl (bg rfl) (⟨.inr List.not_mem_nil, ⟨.inr trivial, ⟨.inr trivial, ⟨.inr trivial, ⟨.inr trivial, ⟨.inr trivial, trivial⟩⟩⟩⟩⟩⟩) ?_
 refine aX (W := []) (am rfl rfl rfl) rfl rfl rfl (ma.jG ex iv (HS.call E.log0) (by omega) (by omega) (by omega) (by omega) (by omega) V hT (by omega)) (kb rfl) ?_
 rintro _ b2 ⟨c7, c9, d4, dl, al, z, rfl, Z, rfl⟩
 refine ⟨Wr.did z.log, fun bz a5 => ?_⟩
 replace z := HS.back E.log0 rfl z
 replace z := HS.lg z E a5
 generalize ({ b2 with log := bz } : Heap) = c0 at z ⊢
 have z : HS _ _ _ [_, _, _] _ := z
 replace av := av.mono al
 obtain ⟨dn, an, T, bl, c8⟩ := OS.frz av z (i := 2) rfl
 have T : HS _ _ _ [_, _, []] _ := T
 replace hT := (hT.mono al).mono an
 replace Z := Z.mono an
 refine aX (W := []) (am rfl rfl rfl) rfl rfl rfl (ma.gY ex (iS l ([iv.i.a] : List Int)) (aI iv) (HS.call T.log0) bl Z hT (by have h1 : (iS l [iv.i.a]).length ≤ l.length := List.length_filter_le _ _; have h2 := h9 (v := iv); omega)) (kb rfl) ?_
 rintro _ b3 ⟨ay, a4, em, ds, a9, A, rfl, a8, rfl⟩
 refine ⟨Wr.did A.log, fun b0 a7 => ?_⟩
 replace A := HS.back T.log0 rfl A
 replace A := HS.lg A T a7
 generalize ({ b3 with log := b0 } : Heap) = c3 at A ⊢
 have A : HS _ _ _ [_, _, _] _ := A
 refine fa (.slice ay (cv (iS l ([iv.i.a] : List Int)) (aI iv)).length a4) rfl rfl rfl ?_
 refine bU ?_
 refine aq 1 rfl ?_
 refine ah ⟨.inr rfl, _, rfl, ay, a4, cv (iS l ([iv.i.a] : List Int)) (aI iv), _, (fT (fT (fT (fT (ax) a3) al) an) a9), (HS.forget A), rfl, a8, (by exact (if_pos hq).symm)⟩
end Go.Proofs.YtknafdcgpaejlaaDoor.mh
