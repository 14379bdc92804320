/-
 Live registers: the reference, function by function, each by a symbolic run. No condition but bounds on lengths.
-/
import Derived.Test.YtknafdcgpaejlaaDoorZUMG
import Derived.Test.YtknafdcgpaejlaaDoorZURC
noncomputable section
namespace Go.Proofs.YtknafdcgpaejlaaDoor.mh
open Go.R
set_option maxRecDepth 10000
set_option linter.unusedVariables false
set_option linter.unusedSimpArgs false
variable (ex : FuncId) {F : Fz} {H : Heap} {R : List Fp}
open m1 m2 m3 m4 m5 m6 ma ml mb mc md mf mg
def oS (o : List Int) (r : Nat) : Prop := (r : Int) ∈ o
structure RpO (b : BlkT) (o : List Int) (g : Int) : Prop where
 gb : 0 ≤ g ∧ g ≤ 3000
 len : b.ins.length ≤ 1073741824
 ins : ∀ i, i < b.ins.length → (∀ x ∈ az (b.ins.getD i default), 0 ≤ x ∧ x < g) ∧ (∀ x ∈ ab (b.ins.getD i default), 0 ≤ x ∧ x < g) ∧ (b.ins.getD i default).args.length ≤ 6
 fin : ∀ x ∈ gN b, 0 ≤ x ∧ x < g
 asc : Asc o
 mem : ∀ x ∈ o, 0 ≤ x ∧ x < g
theorem RpO.lst {b : BlkT} {o : List Int} {g : Int} (h : RpO b o g) : Lst o (oS o) := ⟨h.asc, fun x => ⟨fun hx => ⟨(h.mem x hx).1, by have := (h.mem x hx).1; unfold oS; rwa [show ((x.toNat : Nat) : Int) = x by omega]⟩, fun hx => by have := hx.2; unfold oS at this; rwa [show ((x.toNat : Nat) : Int) = x by omega] at this⟩⟩
def rpS (b : BlkT) (o : List Int) (i : Nat) : Nat → Prop := tr (b.ins.drop i) (endS b (oS o))
theorem rp_lt {b : BlkT} {o : List Int} {g : Int} (h : RpO b o g) {i r : Nat} (hr : rpS b o i r) : (r : Int) < g := by
 have key : ∀ (l : List VInT), (∀ w ∈ l, w ∈ b.ins) → ∀ r, tr l (endS b (oS o)) r → (r : Int) < g := by
  intro l
  induction l with
  | nil =>
   intro _ r hr
   rcases hr with A | A
   ·
    exact (h.mem _ A).2
   exact (h.fin _ A).2
  | cons w l ih =>
   intro hw r hr
   rcases hr with hr | hr
   ·
    obtain ⟨i, hi, he⟩ := a0y.1 (hw w (a0B ..))
    have := (h.ins i hi).1
    rw [a01, a06 hi, a0O, he] at this
    exact (this _ hr).2
   exact ih (fun x hx => hw x (a0k _ hx)) r hr.1
 exact key _ (fun w hw => a1E hw) r hr
theorem rp_start {b : BlkT} {o : List Int} {g : Int} (h : RpO b o g) : Lst (cS o (gN b)) (rpS b o b.ins.length) := by
 have A := Lst.addL h.lst (fun x hx => (h.fin x hx).1)
 refine ⟨A.asc, fun x => ?_⟩
 rw [A.mem]
 unfold rpS
 rw [List.drop_length]
 exact Iff.rfl
theorem rp_step {b : BlkT} {o l : List Int} {g : Int} {i : Nat} (h : RpO b o g) (hi : i < b.ins.length) (hl : Lst l (rpS b o (i + 1))) : Lst (cS (da l (ab (b.ins.getD i default))) (az (b.ins.getD i default))) (rpS b o i) := by
 have hv := h.ins i hi
 have J := Lst.addL (l := az (b.ins.getD i default)) (Lst.minus (w := ab (b.ins.getD i default)) hl) fun x hx => (hv.1 x hx).1
 refine ⟨J.asc, fun x => ?_⟩
 rw [J.mem]
 unfold rpS
 rw [tr_drop hi]
 constructor
 ·
  rintro ⟨E, A | A⟩
  ·
   exact ⟨E, .inr A⟩
  exact ⟨E, .inl A⟩
 rintro ⟨E, A | A⟩
 ·
  exact ⟨E, .inr A⟩
 exact ⟨E, .inl A⟩
structure RpF (b : BlkT) (o : List Int) (l : List (List Int)) : Prop where
 len : l.length = b.ins.length + 1
 pt : ∀ i, i ≤ b.ins.length → Lst (l.getD i default) (rpS b o i)
theorem rset {b : BlkT} {o : List Int} {i : Nat} {l : List (List Int)} {x : List Int} (hl : l.length = b.ins.length + 1) (h : ∀ j, i < j → j ≤ b.ins.length → Lst (l.getD j default) (rpS b o j)) (hi : i ≤ b.ins.length) (hx : Lst x (rpS b o i)) : ∀ j, i ≤ j → j ≤ b.ins.length → Lst ((l.set i x).getD j default) (rpS b o j) := fun j E A => by
 rw [df]
 split
 ·
  rename_i e; obtain ⟨rfl, _⟩ := e; exact hx
 rename_i e; exact h j (by omega) A
theorem end_len {b : BlkT} : (gN b).length ≤ 1 := by unfold gN; split <;> simp
set_option maxHeartbeats 2000000 in
theorem rpoints_c {J : Option Addr} {N : Nat} (b : BlkT) {a_o : Option Addr} {k_o : Nat} (o : List Int) (hs : HS (.of H []) F H [] R) (Z : SR F (.slice J b.ins.length N) b.ins) (h0 : in64 b.fin) (h3 : in64 b.reg) (h4 : in64 b.tgt) (h5 : in64 b.els) (ho : SR F (.slice a_o o.length k_o) o) (hT : TB 37 tabC F) (hp : ∃ g, RpO b o g) : kKt ex 67 [(.agg ⟨[(.slice J b.ins.length N), (iI b.fin), (iI b.reg), (iI b.tgt), (iI b.els)]⟩), (.slice a_o o.length k_o)] H fun v H' => ∃ (al : Option Addr) (kl : Nat) (l : List (List Int)) (p : Fp) (F' : Fz), Fz.le F F' ∧ HS (.of H []) F' H' [p] R ∧ v = .slice al l.length kl ∧ OS F' (.slice al l.length kl) l p ∧ (RpF b o l) := by
 obtain ⟨g, hp⟩ := hp
 have hbl := hp.len
 have hg := hp.gb
 have hol := Lst.len hp.lst hg.1 (fun r h => (hp.mem _ h).2)
 have hel := end_len (b := b)
 have hrl : (List.replicate (b.ins.length + 1) ([] : List Int)).length = b.ins.length + 1 := a0I
 refine aH Tryd.func67 rfl rfl (ah 1 rfl (aa (aG (bG hs rfl rfl) rfl rfl ?_)))
 rintro _ H2 _ ⟨b1, rfl, (em : HS _ _ _ [[(b1, .cells [(.slice J b.ins.length N), (iI b.fin), (iI b.reg), (iI b.tgt), (iI b.els)] none false)]] _), _⟩
 refine wa (.slice none 0 0) rfl rfl rfl (ae 2 rfl (aa (wRo 4 0 [(1, .o (.slice J b.ins.length N))] 7 10 [] [(10, (iI ((b.ins.length : Int) + 1)))] (vA (ql 46 0 (HS.hc em (i := 0) rfl) rfl rfl) (vA (vi (n := (b.ins.length : Int) + 1) (by omega)) trivial)) rfl fun _ => aG (cE ([] : (List Int)) em rfl rfl rfl rfl rfl rfl rfl rfl rfl ⟨none, 0, rfl, SR.nil⟩ (by omega) (by omega)) rfl rfl ?_)))
 rintro _ H5 p4 ⟨a4, k4, rfl, a6, (a7 : HS _ _ _ [_, p4] _), _⟩
 have a6 : OS F (.slice a4 (List.replicate (b.ins.length + 1) ([] : (List Int))).length k4) (List.replicate (b.ins.length + 1) ([] : (List Int))) p4 := a6
 refine wa (.slice a4 (List.replicate (b.ins.length + 1) ([] : (List Int))).length k4) rfl rfl rfl (ae 2 rfl (aS rfl (fm (.slice a4 (List.replicate (b.ins.length + 1) ([] : (List Int))).length k4) rfl rfl rfl (wfv (v := (.pointer (some ⟨b1, 0, none⟩))) (bn rfl rfl) (aF (v := (.slice J b.ins.length N)) (id := .l b1) (aU (i := 0) rfl rfl (HS.hc a7.log0 (i := 0) rfl) rfl rfl) rfl rfl (bx rfl) (kb rfl) ?_)))))
 refine aF (v := (iI (b.ins.length : Int))) (id := .v) (jd (α := VInT) rfl rfl (SR.sv Z a7.log0)) rfl rfl (i4 rfl) (j6 _) (fm (.slice a_o o.length k_o) rfl rfl rfl (aF (v := (.agg ⟨[(.slice J b.ins.length N), (iI b.fin), (iI b.reg), (iI b.tgt), (iI b.els)]⟩)) (id := .l b1) (eL (i := 0) rfl rfl rfl (HS.hc a7.log0 (i := 0) rfl) rfl rfl rfl) rfl rfl (bx rfl) (kb rfl) (bY (W := []) (aq rfl rfl rfl) rfl rfl rfl (ma.rend_c ex b (HS.call a7.log0) Z (by omega) (by omega) (by omega) (by omega) hT) (⟨.inl rfl, ⟨.inr trivial, ⟨.inr trivial, ⟨.inr a0i, ⟨.inr trivial, ⟨.inr trivial, trivial⟩⟩⟩⟩⟩⟩) ?_)))
 rintro _ H6 ⟨kg, kn, r6, p6, F6, b4, ax, rfl, f2, rfl⟩
 refine ⟨Wr.did ax.log, fun hh e4 => ?_⟩
 replace ax := HS.back a7.log0 rfl ax
 replace ax := HS.lg ax a7 e4
 generalize ({ H6 with log := hh } : Heap) = kc at ax ⊢
 have ax : HS _ _ _ [_, _, p6] _ := ax
 obtain ⟨F7, b5, b6, he, kk⟩ := OS.frz f2 ax (i := 2) rfl
 have b6 : HS _ _ _ [_, _, []] _ := b6
 replace hT := (hT.mono b4).mono b5
 replace ho := (ho.mono b4).mono b5
 refine bY (W := []) (aq rfl rfl rfl) rfl rfl rfl (ma.fk ex o (gN b) (HS.call b6.log0) ho he hT (by omega)) (⟨.inl rfl, ⟨.inl rfl, ⟨.inl rfl, ⟨.inr trivial, ⟨.inr a0i, ⟨.inr trivial, ⟨.inr trivial, trivial⟩⟩⟩⟩⟩⟩⟩) ?_
 rintro _ H8 ⟨ha, hf, r8, F8, cc, av, rfl, f3, rfl⟩
 refine ⟨Wr.did av.log, fun hj e6 => ?_⟩
 replace av := HS.back b6.log0 rfl av
 replace av := HS.lg av b6 e6
 generalize ({ H8 with log := hj } : Heap) = kd at av ⊢
 have av : HS _ _ _ [_, _, _] _ := av
 replace a6 := ((a6.mono b4).mono b5).mono cc
 refine wfv (v := (.pointer (some ⟨sB (.slice a4 (List.replicate (b.ins.length + 1) ([] : (List Int))).length k4), sO (.slice a4 (List.replicate (b.ins.length + 1) ([] : (List Int))).length k4) + b.ins.length * Rp.sz (List Int), none⟩))) (bh (α := (List Int)) (j := (b.ins.length : Int)) rfl rfl rfl rfl (OS.sv a6 av.log0 (i := 1) rfl) (by omega) (by omega)) (eN (id := .x (p4.map Prod.fst)) (db (α := (List Int)) (j := b.ins.length) (off := 0) (q := 1) (cS o (gN b)) a6 av.log0 rfl rfl rfl rfl rfl rfl rfl rfl (aM (x := default) (by omega)) rfl (by rintro cs ⟨_, _, rfl, _⟩; exact ⟨a07 rfl, ⟨ha, hf, rfl, f3⟩⟩)) rfl (by rintro _ _ p9 ⟨bk, _, hwr⟩; exact bQ rfl rfl (Wr.did hwr)) (kb rfl) ?_)
 rintro _ g4 p9 ⟨bk, aw, _⟩ f6 c7
 replace aw := HS.lg aw av c7
 generalize ({ g4 with log := f6 } : Heap) = hD at aw ⊢
 have aw : HS _ _ _ [_, p9, _] _ := aw
 have h6 := OS.len' bk
 refine bT (ah 3 rfl (wR 2 [(1, .o (.slice J b.ins.length N))] 21 24 [6] [(6, (iI ((b.ins.length : Int) - 1)))] (vA (ql 46 0 (HS.hc aw (i := 0) rfl) rfl rfl) (vA (vi (n := (b.ins.length : Int) - 1) (by omega)) trivial)) rfl fun _ => aj (fun (mm : Nat) f H' => ∃ (pl : List (List Int)) (iz : Int) (A : Option Addr) (E : Nat) (ad : Fp) (F' : Fz), Fz.le F8 F' ∧ HS (Base.of H []) F' H' [[(b1, .cells [(.slice J b.ins.length N), (iI b.fin), (iI b.reg), (iI b.tgt), (iI b.els)] none false)], ad, []] R ∧ OS F' (.slice A pl.length E) pl ad ∧ aD f [(2, (.pointer (some ⟨b1, 0, none⟩))), (5, (.slice A pl.length E)), (6, (iI iz))] ∧ mm = (iz + 1).toNat ∧ (pl.length = b.ins.length + 1) ∧ (-1 ≤ iz ∧ iz < (b.ins.length : Int)) ∧ (∀ j, (iz + 1).toNat ≤ j → j ≤ b.ins.length → Lst (pl.getD j default) (rpS b o j))) _ ⟨(List.replicate (b.ins.length + 1) ([] : (List Int))).set b.ins.length (cS o (gN b)), (b.ins.length : Int) - 1, a4, k4, p9, _, fR, aw, (OS.norm bk), (agC rfl (agC (show Value.slice a4 (List.replicate (b.ins.length + 1) ([] : (List Int))).length k4 = Value.slice a4 ((List.replicate (b.ins.length + 1) ([] : (List Int))).set b.ins.length (cS o (gN b))).length k4 by rw [OS.len' bk]) ⟨rfl, trivial⟩)), rfl, (by simp), (by omega), (by exact fun j h1 h2 => by (rw [show j = b.ins.length by omega, df, if_pos ⟨rfl, by simp⟩]; exact rp_start hp))⟩ ?_))
 rintro it ki jw ⟨pl, iz, A, E, ad, i1, a8, ag, V, co, rfl, e2, e3, e5⟩ f4
 refine ap _ co (fun _ => ?_)
 clear co
 replace hT := (hT.mono cc).mono a8
 replace Z := (((Z.mono b4).mono b5).mono cc).mono a8
 refine ah 2 rfl (wT 1 [] 25 26 [] [(26, (.bool (decide ((0 : Int) ≤ iz))))] rfl fun _ => am 3 5 (v := (decide ((0 : Int) ≤ iz))) rfl rfl rfl rfl (fun b9 => ?_) (fun b9 => ?_))
 ·
  have ch := b9
  try simp only [BS] at ch
  have hin : iz.toNat < b.ins.length := by omega
  have hvl := hp.ins iz.toNat hin
  have ib : (b.ins.getD iz.toNat default).args.length ≤ 6 := hvl.2.2
  have hpl := Lst.len (e5 (iz + 1).toNat (a09 _) (by omega)) hg.1 (fun r h => rp_lt hp h)
  have hwl := dR (v := (b.ins.getD iz.toNat default))
  have h9 := eh (v := (b.ins.getD iz.toNat default))
  have hml : (da (pl.getD (iz + 1).toNat default) (ab (b.ins.getD iz.toNat default))).length ≤ (pl.getD (iz + 1).toNat default).length := a1p _ _
  refine aS rfl (fm (.slice A pl.length E) rfl rfl rfl (fm (iI iz) rfl rfl rfl (fm (.slice A pl.length E) rfl rfl rfl (fm (iI iz) rfl rfl rfl (wfv (v := (iI (iz + 1))) (jQ rfl rfl (jT (n := iz + 1) (by omega))) ?_)))))
  refine wfv (v := (.pointer (some ⟨sB (.slice A pl.length E), sO (.slice A pl.length E) + (iz + 1).toNat * Rp.sz (List Int), none⟩))) (bh (α := (List Int)) (j := iz + 1) rfl rfl rfl rfl (OS.sv V ag.log0 (i := 1) rfl) (by omega) (by omega)) ?_
  obtain ⟨hV, e9, ez⟩ := Sv.at (OS.sv V ag.log0 (i := 1) rfl) (aM (x := default) (show (iz + 1).toNat < pl.length from by omega))
  obtain ⟨c3, dt, rfl, b2⟩ := e9
  refine aF (v := (.slice c3 (pl.getD (iz + 1).toNat default).length dt)) (id := .l (sB (.slice A pl.length E))) (aU (i := 0) rfl rfl ez rfl rfl) rfl rfl (bx rfl) (kb rfl) (wfv (v := (.pointer (some ⟨b1, 0, none⟩))) (bn rfl rfl) (aF (v := (.slice J b.ins.length N)) (id := .l b1) (aU (i := 0) rfl rfl (HS.hc ag.log0 (i := 0) rfl) rfl rfl) rfl rfl (bx rfl) (kb rfl) (fm (iI iz) rfl rfl rfl (wfv (v := (.pointer (some ⟨sB (.slice J b.ins.length N), sO (.slice J b.ins.length N) + iz.toNat * Rp.sz VInT, none⟩))) (bh (α := VInT) (j := iz) rfl rfl rfl rfl (SR.sv Z ag.log0) (by omega) (by omega)) ?_))))
  obtain ⟨hW, fd, e0⟩ := Sv.at (SR.sv Z ag.log0) (aM (x := default) (show iz.toNat < b.ins.length from by omega))
  obtain ⟨c4, dv, rfl, hm, hn, hq, hr, ht, d2⟩ := fd
  refine aF (v := (.agg ⟨[(iI (b.ins.getD iz.toNat default).i.op), (iI (b.ins.getD iz.toNat default).i.a), (iI (b.ins.getD iz.toNat default).i.b), (iI (b.ins.getD iz.toNat default).i.c), (iI (b.ins.getD iz.toNat default).i.n), (.slice c4 (b.ins.getD iz.toNat default).args.length dv)]⟩)) (id := .l (sB (.slice J b.ins.length N))) (eL (i := 0) rfl rfl rfl e0 rfl rfl rfl) rfl rfl (bx rfl) (kb rfl) (bY (W := []) (aq rfl rfl rfl) rfl rfl rfl (ma.rwrites_c ex (b.ins.getD iz.toNat default) (HS.call ag.log0) (by omega) (by omega) (by omega) (by omega) (by omega) d2 hT) (⟨.inl rfl, ⟨.inl rfl, ⟨.inl rfl, ⟨.inl rfl, ⟨.inl rfl, ⟨.inr a0i, ⟨.inr trivial, ⟨.inr trivial, ⟨.inr trivial, ⟨.inr trivial, ⟨.inr trivial, ⟨.inr trivial, trivial⟩⟩⟩⟩⟩⟩⟩⟩⟩⟩⟩⟩) ?_)
  rintro _ g5 ⟨hQ, ih, ko, hk, i2, a0, an, rfl, dn, rfl⟩
  refine ⟨Wr.did an.log, fun f7 c8 => ?_⟩
  replace an := HS.back ag.log0 rfl an
  replace an := HS.lg an ag c8
  generalize ({ g5 with log := f7 } : Heap) = hE at an ⊢
  have an : HS _ _ _ [_, ad, _, hk] _ := an
  obtain ⟨i3, a1, a2, fi, h7⟩ := OS.frz dn an (i := 3) rfl
  have a2 : HS _ _ _ [_, _, _, []] _ := a2
  replace hT := (hT.mono a0).mono a1
  replace b2 := (b2.mono a0).mono a1
  refine bY (W := []) (aq rfl rfl rfl) rfl rfl rfl (ma.minus_c ex (pl.getD (iz + 1).toNat default) (ab (b.ins.getD iz.toNat default)) (HS.call a2.log0) b2 fi hT (by omega)) (kb rfl) ?_
  rintro _ g6 ⟨hR, ik, kr, hl, ja, a9, T, rfl, bz, rfl⟩
  refine ⟨Wr.did T.log, fun f8 c9 => ?_⟩
  replace T := HS.back a2.log0 rfl T
  replace T := HS.lg T a2 c9
  generalize ({ g6 with log := f8 } : Heap) = hF at T ⊢
  have T : HS _ _ _ [_, _, _, _, hl] _ := T
  replace hT := hT.mono a9
  replace Z := ((Z.mono a0).mono a1).mono a9
  refine wfv (v := (.pointer (some ⟨b1, 0, none⟩))) (bn rfl rfl) (aF (v := (.slice J b.ins.length N)) (id := .l b1) (aU (i := 0) rfl rfl (HS.hc T.log0 (i := 0) rfl) rfl rfl) rfl rfl (bx rfl) (⟨.inl rfl, ⟨.inr a0i, ⟨.inr a0i, ⟨.inr trivial, ⟨.inr trivial, ⟨.inr trivial, ⟨.inr trivial, ⟨.inr trivial, ⟨.inr trivial, ⟨.inr trivial, ⟨.inr trivial, ⟨.inr trivial, ⟨.inr trivial, ⟨.inr trivial, ⟨.inr trivial, trivial⟩⟩⟩⟩⟩⟩⟩⟩⟩⟩⟩⟩⟩⟩⟩) (fm (iI iz) rfl rfl rfl (wfv (v := (.pointer (some ⟨sB (.slice J b.ins.length N), sO (.slice J b.ins.length N) + iz.toNat * Rp.sz VInT, none⟩))) (bh (α := VInT) (j := iz) rfl rfl rfl rfl (SR.sv Z T.log0) (by omega) (by omega)) ?_)))
  obtain ⟨hX, f0, e1⟩ := Sv.at (SR.sv Z T.log0) (aM (x := default) (show iz.toNat < b.ins.length from by omega))
  obtain ⟨c5, d1, rfl, hu, hv, hw, hz, hA, ea⟩ := f0
  refine aF (v := (.agg ⟨[(iI (b.ins.getD iz.toNat default).i.op), (iI (b.ins.getD iz.toNat default).i.a), (iI (b.ins.getD iz.toNat default).i.b), (iI (b.ins.getD iz.toNat default).i.c), (iI (b.ins.getD iz.toNat default).i.n), (.slice c5 (b.ins.getD iz.toNat default).args.length d1)]⟩)) (id := .l (sB (.slice J b.ins.length N))) (eL (i := 0) rfl rfl rfl e1 rfl rfl rfl) rfl rfl (bx rfl) (⟨.inl rfl, ⟨.inl rfl, ⟨.inl rfl, ⟨.inl rfl, ⟨.inr a0i, ⟨.inr a0i, ⟨.inr trivial, ⟨.inr trivial, ⟨.inr trivial, ⟨.inr trivial, ⟨.inr trivial, ⟨.inr trivial, ⟨.inr trivial, ⟨.inr trivial, ⟨.inr trivial, ⟨.inr trivial, ⟨.inr trivial, ⟨.inr trivial, trivial⟩⟩⟩⟩⟩⟩⟩⟩⟩⟩⟩⟩⟩⟩⟩⟩⟩⟩) (bY (W := []) (aq rfl rfl rfl) rfl rfl rfl (ma.rreads_c ex (b.ins.getD iz.toNat default) (HS.call T.log0) (by omega) (by omega) (by omega) (by omega) (by omega) ea hT (by omega)) (kb rfl) ?_)
  rintro _ g7 ⟨hS, il, kx, jb, bb, ar, rfl, b0, rfl⟩
  refine ⟨Wr.did ar.log, fun f9 dd => ?_⟩
  replace ar := HS.back T.log0 rfl ar
  replace ar := HS.lg ar T dd
  generalize ({ g7 with log := f9 } : Heap) = hG at ar ⊢
  have ar : HS _ _ _ [_, _, _, _, _] _ := ar
  replace bz := bz.mono bb
  obtain ⟨jc, be, a3, f1, h8⟩ := OS.frz bz ar (i := 4) rfl
  have a3 : HS _ _ _ [_, _, _, _, []] _ := a3
  replace hT := (hT.mono bb).mono be
  replace b0 := b0.mono be
  refine bY (W := []) (aq rfl rfl rfl) rfl rfl rfl (ma.fk ex (da (pl.getD (iz + 1).toNat default) (ab (b.ins.getD iz.toNat default))) (az (b.ins.getD iz.toNat default)) (HS.call a3.log0) f1 b0 hT (by omega)) (kb rfl) ?_
  rintro _ g8 ⟨es, f5, ky, jq, ci, U, rfl, ds, rfl⟩
  refine ⟨Wr.did U.log, fun go dk => ?_⟩
  replace U := HS.back a3.log0 rfl U
  replace U := HS.lg U a3 dk
  generalize ({ g8 with log := go } : Heap) = hH at U ⊢
  have U : HS _ _ _ [_, _, _, _, _] _ := U
  replace V := (((((V.mono a0).mono a1).mono a9).mono bb).mono be).mono ci
  refine wfv (v := (.pointer (some ⟨sB (.slice A pl.length E), sO (.slice A pl.length E) + iz.toNat * Rp.sz (List Int), none⟩))) (bh (α := (List Int)) (j := iz) rfl rfl rfl rfl (OS.sv V U.log0 (i := 1) rfl) (by omega) (by omega)) (eN (id := .x (ad.map Prod.fst)) (db (α := (List Int)) (j := iz.toNat) (off := 0) (q := 1) (cS (da (pl.getD (iz + 1).toNat default) (ab (b.ins.getD iz.toNat default))) (az (b.ins.getD iz.toNat default))) V U.log0 rfl rfl rfl rfl rfl rfl rfl rfl (aM (x := default) (by omega)) rfl (by rintro cs ⟨_, _, rfl, _⟩; exact ⟨a07 rfl, ⟨es, f5, rfl, ds⟩⟩)) rfl (by rintro _ _ c0 ⟨bl, _, hwr⟩; exact bQ rfl rfl (Wr.did hwr)) (kb rfl) ?_)
  rintro _ g9 c0 ⟨bl, ay, _⟩ g1 dl
  replace ay := HS.lg ay U dl
  generalize ({ g9 with log := g1 } : Heap) = hI at ay ⊢
  have ay : HS _ _ _ [_, c0, _, _, _] _ := ay
  have hB := OS.len' bl
  refine bT (ah 2 rfl (wU 1 [] 27 28 [6] [(6, (iI (iz - 1)))] (vi (n := iz - 1) (by omega)) rfl fun _ => f4 _ _ _ ?_ ⟨pl.set iz.toNat (cS (da (pl.getD (iz + 1).toNat default) (ab (b.ins.getD iz.toNat default))) (az (b.ins.getD iz.toNat default))), iz - 1, A, E, c0, _, (fT (fT (fT (fT (fT (fT (a8) a0) a1) a9) bb) be) ci), (HS.sub ay (a03 _ _)), (OS.norm bl), (agC rfl (agC (show Value.slice A pl.length E = Value.slice A (pl.set iz.toNat (cS (da (pl.getD (iz + 1).toNat default) (ab (b.ins.getD iz.toNat default))) (az (b.ins.getD iz.toNat default)))).length E by rw [OS.len' bl]) ⟨rfl, trivial⟩)), rfl, (by rw [a0h]; exact e2), (by omega), (by rw [show (iz - 1 + 1).toNat = iz.toNat by omega]; exact rset e2 (fun j h1 h2 => e5 j (by omega) h2) (by omega) (rp_step hp hin (by rw [show iz.toNat + 1 = (iz + 1).toNat by omega]; exact e5 _ (a09 _) (by omega))))⟩))
  omega
 have ch := b9
 try simp only [BS] at ch
 refine wT 1 [] 4 4 [51] [(4, (.slice A pl.length E))] rfl fun _ => ak ⟨.inr rfl, _, rfl, A, E, pl, ad, _, (fT (fT (fT (b4) b5) cc) a8), (HS.only ag (i := 1) rfl), rfl, V, (by exact ⟨e2, fun i hi => e5 i (by omega) hi⟩)⟩
def acV (v : VInT) (l : List Int) : List Int := if v.i.op = 6 then cS (da l [v.i.a]) (az v) else []
end Go.Proofs.YtknafdcgpaejlaaDoor.mh
