/-
 Live registers: Blocks, Points and AcrossCalls, each by a symbolic run. No condition but bounds on lengths.
-/
import Derived.Test.YtknafdcgpaejlaaDoorZUMC
import Derived.Test.YtknafdcgpaejlaaDoorZURC
noncomputable section
namespace Go.Proofs.YtknafdcgpaejlaaDoor.md
open Go.R
set_option maxRecDepth 10000
set_option linter.unusedVariables false
set_option linter.unusedSimpArgs false
variable (ex : FuncId) {F : Fz} {H : Heap} {R : List Fp}
open m1 m2 m3 m4 m5 m6 ma ml mb mc
structure Lst (l : List Int) (S : Nat → Prop) : Prop where
 asc : Asc l
 mem : ∀ x, x ∈ l ↔ 0 ≤ x ∧ S x.toNat
theorem lst_of {s : List U64} {S : Nat → Prop} (h : ∀ r, aB s r = true ↔ S r) : Lst (fB s) S := ⟨lst_asc, fun x => by rw [lst_mem, h]⟩
structure BkF (c : VFnT) (x y : List (List Int)) : Prop where
 lx : x.length = c.blocks.length
 ly : y.length = c.blocks.length
 hx : ∀ b, b < c.blocks.length → Lst (x.getD b default) (LIn c b)
 hy : ∀ b, b < c.blocks.length → Lst (y.getD b default) (LOut c b)
def ptS (c : VFnT) (b i : Nat) : Nat → Prop := tr ((bA c b).ins.drop i) (endS (bA c b) (LOut c b))
structure PtF (c : VFnT) (b : Nat) (l : List (List Int)) : Prop where
 len : l.length = (bA c b).ins.length + 1
 pt : ∀ i, i ≤ (bA c b).ins.length → Lst (l.getD i default) (ptS c b i)
def acI (c : VFnT) (b i r : Nat) : Prop := ((bA c b).ins.getD i default).i.op = 6 ∧ ((ptS c b (i + 1) r ∧ (r : Int) ≠ ((bA c b).ins.getD i default).i.a) ∨ (r : Int) ∈ ((bA c b).ins.getD i default).args)
def acS (c : VFnT) (r : Nat) : Prop := ∃ b i, b < c.blocks.length ∧ i < (bA c b).ins.length ∧ acI c b i r
theorem at_snoc {α : Type} {d : α} {l : List α} {x : α} {j : Nat} : (l ++ [x]).getD j d = if j = l.length then x else l.getD j d := by
 rw [a01, a01, a1W]
 by_cases h : j < l.length
 ·
  rw [if_pos h, if_neg (by omega)]
 rw [if_neg h]
 by_cases A : j = l.length
 ·
  subst A; rw [if_pos rfl, a1v]; rfl
 rw [if_neg A, a0L (by simp; omega), a0L (by omega)]
theorem lst_snoc {l : List (List Int)} {S : Nat → Nat → Prop} {k : Nat} {x : List Int} (hl : l.length = k) (h : ∀ b, b < k → Lst (l.getD b default) (S b)) (hx : Lst x (S k)) : ∀ b, b < k + 1 → Lst ((l ++ [x]).getD b default) (S b) := fun b hb => by
 rw [at_snoc]
 split
 ·
  rename_i e; rw [hl] at e; subst e; exact hx
 exact h b (by omega)
theorem pt_start {c : VFnT} {b n : Nat} {s z : List U64} (hn : (bA c b).ins.length ≤ n) (hs : ∀ r, aB s r = true ↔ LOut c b r) (h : ∀ i, aB z i = (aB s i || decide ((i : Int) ∈ gN (bA c b)))) (r : Nat) : aB z r = true ↔ ptS c b n r := tr_start hn hs h r
set_option maxHeartbeats 1000000 in
theorem blocks_c {a9 : Option Addr} {bl : Nat} (c : VFnT) (hs : HS (.of H []) F H [] R) (hV : in64 c.params) (hW : in64 c.regs) (b3 : SR F (.slice a9 c.blocks.length bl) c.blocks) (hT : TB 37 tabC F) (hins : ∀ j, (c.blocks.getD j default).ins.length ≤ 1073741824) : kKt ex 71 [(.agg ⟨[(iI c.params), (iI c.regs), (.slice a9 c.blocks.length bl)]⟩)] H fun v H' => ∃ (ax : Option Addr) (kx : Nat) (x : List (List Int)) (ay : Option Addr) (ky : Nat) (y : List (List Int)) (F' : Fz), Fz.le F F' ∧ HS (.of H []) F' H' [] R ∧ v = .tuple ⟨[.slice ax x.length kx, .slice ay y.length ky]⟩ ∧ SR F' (.slice ax x.length kx) x ∧ SR F' (.slice ay y.length ky) y ∧ (d6 c = true → BkF c x y) ∧ (d6 c = false → x = [] ∧ y = []) := by
 refine aH Tryd.func71 rfl rfl (ah 1 rfl (aa (aG (bG hs rfl rfl) rfl rfl ?_)))
 rintro _ H2 _ ⟨b1, rfl, (em : HS _ _ _ [[(b1, .cells [(iI c.params), (iI c.regs), (.slice a9 c.blocks.length bl)] none false)]] _), _⟩
 let c9 : Value := (.agg ⟨[(iI c.params), (iI c.regs), (.slice a9 c.blocks.length bl)]⟩)
 refine wTo 2 1 [] 2 3 [] [(2, (.slice none 0 0)), (3, (.slice none 0 0))] rfl fun _ => ae 3 rfl (aa (wUo 1 0 [(0, .o c9)] 9 9 [] [(9, c9)] (qn 24 0 3 (HS.hc em (i := 0) rfl) rfl rfl rfl rfl) rfl fun _ => aA (aq rfl rfl rfl) rfl rfl (m3.iD ex c (HS.call em) (by omega) (by omega) b3 hT (by exact fun j => a0c (hins j) (by omega))) ?_))
 rintro _ H5 ⟨r5, F5, c8, bz, rfl, rfl⟩
 replace bz : HS _ _ _ [_] _ := HS.back em rfl bz
 replace hT := hT.mono c8
 replace b3 := b3.mono c8
 refine wTo 1 2 [] 11 11 [] [(11, (.bool (!(d6 c))))] rfl fun _ => ae 1 rfl (am 1 2 (v := (!(d6 c))) rfl rfl rfl rfl (fun ds => ?_) (fun ds => ?_))
 ·
  have c7 := ds
  try simp only [BS] at c7
  have hv := c7
  refine wT 1 [] 2 3 [] [(2, (.slice none 0 0)), (3, (.slice none 0 0))] rfl fun _ => ak ⟨.inr rfl, _, rfl, none, 0, ([] : List (List Int)), none, 0, ([] : List (List Int)), _, (c8), (HS.forget bz), rfl, (SR.nil : SR F5 (.slice none 0 0) ([] : List (List Int))), (SR.nil : SR F5 (.slice none 0 0) ([] : List (List Int))), (by exact fun h => absurd (h.symm.trans hv) (by decide)), (by exact fun _ => ⟨rfl, rfl⟩)⟩
 have c7 := ds
 try simp only [BS] at c7
 have hv := c7
 have vF := iE hv
 have hnb := vF.nb
 refine aa (wUo 1 0 [(0, .o c9)] 13 13 [] [(13, c9)] (qn 24 0 3 (HS.hc bz (i := 0) rfl) rfl rfl rfl rfl) rfl fun _ => aA (aq rfl rfl rfl) rfl rfl (mc.analyze_c ex c (HS.call bz) (by omega) (by omega) b3 hT (by assumption) (by exact fun j => a0c (hins j) (by omega))) ?_)
 rintro _ ib ⟨a1, a3, A, a2, a4, E, hk, dt, c0, rfl, a5, J, iv⟩
 replace c0 : HS _ _ _ [_] _ := HS.back bz rfl c0
 refine wTo 5 2 [] 15 16 [4, 5, 12] [(4, (.slice a1 A.length a3)), (5, (.slice a2 E.length a4))] rfl fun _ => ae 2 rfl ?_
 have an := (by assumption : AnF c _ _)
 have hli := an.li
 have hlo := an.lo
 refine wT 3 [] 1 0 [6, 7] [(6, (.slice none 0 0)), (7, (.slice none 0 0))] rfl fun _ => wT 2 [] 17 19 [] [(18, (iI (A.length : Int))), (19, (iI 0))] rfl fun _ => ?_
 have c3 := HS.snoc c0
 have c3 : HS _ _ _ [_, []] _ := c3
 have c4 := HS.snoc c3
 have c4 : HS _ _ _ [_, _, []] _ := c4
 refine aj (fun (mm : Nat) f H' => ∃ (xs : List (List Int)) (ys : List (List Int)) (k : Nat) (T : Option Addr) (Z : Nat) (a0 : Fp) (U : Option Addr) (ad : Nat) (ag : Fp) (F' : Fz), Fz.le hk F' ∧ HS (Base.of H []) F' H' [[(b1, .cells [(iI c.params), (iI c.regs), (.slice a9 c.blocks.length bl)] none false)], a0, ag] R ∧ OS F' (.slice T xs.length Z) xs a0 ∧ OS F' (.slice U ys.length ad) ys ag ∧ aD f [(4, (.slice a1 A.length a3)), (5, (.slice a2 E.length a4)), (6, (.slice T xs.length Z)), (7, (.slice U ys.length ad)), (18, (iI (A.length : Int))), (19, (iI (k : Int)))] ∧ mm = c.blocks.length - k ∧ (xs.length = k) ∧ (ys.length = k) ∧ (k ≤ c.blocks.length) ∧ (∀ b, b < k → Lst (xs.getD b default) (LIn c b)) ∧ (∀ b, b < k → Lst (ys.getD b default) (LOut c b))) _ ⟨([] : List (List Int)), ([] : List (List Int)), 0, none, 0, [], none, 0, [], _, fR, c4, (OS.nil : OS _ (.slice none 0 0) ([] : List (List Int)) []), (OS.nil : OS _ (.slice none 0 0) ([] : List (List Int)) []), ⟨rfl, rfl, rfl, rfl, rfl, rfl, trivial⟩, rfl, (by rfl), (by rfl), (by omega), (by intro b hb; omega), (by intro b hb; omega)⟩ ?_
 rintro h2 it ih ⟨xs, ys, k, T, Z, a0, U, ad, ag, h3, bb, a7, a6, V, d2, rfl, e1, e2, e3, e4, e5⟩ g9
 refine ap _ d2 (fun _ => ?_)
 clear d2
 replace hT := (hT.mono dt).mono bb
 replace a5 := a5.mono bb
 replace J := J.mono bb
 refine ah 1 rfl (wT 2 [] 20 20 [] [(20, (.bool (decide ((k : Int) < (A.length : Int)))))] rfl fun _ => am 4 5 (v := (decide ((k : Int) < (A.length : Int)))) rfl rfl rfl rfl (fun cc => ?_) (fun cc => ?_))
 ·
  have dl := cc
  try simp only [BS] at dl
  refine wT 1 [] 21 21 [8] [(8, (iI (k : Int)))] rfl fun _ => aS rfl (fm (.slice T xs.length Z) rfl rfl rfl (fm (.slice a1 A.length a3) rfl rfl rfl (fm (iI (k : Int)) rfl rfl rfl (wfv (v := (.pointer (some ⟨sB (.slice a1 A.length a3), sO (.slice a1 A.length a3) + k * Rp.sz (List U64), none⟩))) (bh (α := (List U64)) (j := (k : Int)) rfl rfl rfl rfl (SR.sv a5 a7.log0) (by omega) (by omega)) ?_))))
  obtain ⟨hM, g4, go⟩ := Sv.at (SR.sv a5 a7.log0) (aM (x := default) (show k < A.length from by omega))
  obtain ⟨e6, f6, rfl, f8⟩ := g4
  refine aF (v := (.slice e6 (A.getD k default).length f6)) (id := .l (sB (.slice a1 A.length a3))) (aU (i := 0) rfl rfl go rfl rfl) rfl rfl (bx rfl) (kb rfl) (bY (W := []) (aq rfl rfl rfl) rfl rfl rfl (mb.list_c ex (A.getD k default) (HS.call a7.log0) f8 hT (by (rw [an.wi k (by omega)]; have := wd_le vF.regs; omega))) (kb rfl) ?_)
  rintro _ hm ⟨b0, b7, i2, hA, h4, be, al, rfl, f4, rfl⟩
  refine ⟨Wr.did al.log, fun ha fd => ?_⟩
  replace al := HS.back a7.log0 rfl al
  replace al := HS.lg al a7 fd
  generalize ({ hm with log := ha } : Heap) = hE at al ⊢
  have al : HS _ _ _ [_, a0, ag, hA] _ := al
  obtain ⟨h5, bk, b5, g5, hX⟩ := OS.frz f4 al (i := 3) rfl
  have b5 : HS _ _ _ [_, _, _, []] _ := b5
  replace hT := (hT.mono be).mono bk
  replace J := (J.mono be).mono bk
  replace a6 := (a6.mono be).mono bk
  refine bM (id := .a) (bt (α := (List Int)) (ps := [(0, (.slice b0 (fB (A.getD k default)).length b7))]) (cells := [(.slice b0 (fB (A.getD k default)).length b7)]) ([fB (A.getD k default)] : List (List Int)) b5.log0 rfl rfl rfl (by kernel_rfl) ⟨[(.slice b0 (fB (A.getD k default)).length b7)], [], rfl, ⟨b0, b7, rfl, g5⟩, rfl⟩ rfl) rfl rfl (fun _ _ _ _ => gZ rfl rfl rfl) (kb rfl) ?_
  rintro _ hn hB ⟨ik, iz, rfl, g2, ar, _⟩ he fi
  replace ar := HS.lg ar b5 fi
  generalize ({ hn with log := he } : Heap) = hF at ar ⊢
  have ar : HS _ _ _ [_, _, _, _, hB] _ := ar
  refine bM (id := .x (a0.map Prod.fst)) (bw (α := (List Int)) (q := 1) a6 ar.log0 rfl rfl rfl (OS.sv g2 ar.log0 (i := 4) rfl) rfl rfl rfl rfl rfl rfl rfl (by (simp only [a05, a0a, a0e]; omega))) rfl rfl (by rintro _ _ ez ⟨dd, es, rfl, b4, _, hwr⟩; exact bQ rfl rfl (Wr.did hwr)) (kb rfl) ?_
  rintro _ hp ez ⟨dd, es, rfl, b4, N, _⟩ hf f0
  replace N := HS.lg N ar f0
  generalize ({ hp with log := hf } : Heap) = hG at N ⊢
  have N : HS _ _ _ [_, ez, _, _, _] _ := N
  refine fm (.slice U ys.length ad) rfl rfl rfl (fm (.slice a2 E.length a4) rfl rfl rfl (fm (iI (k : Int)) rfl rfl rfl (wfv (v := (.pointer (some ⟨sB (.slice a2 E.length a4), sO (.slice a2 E.length a4) + k * Rp.sz (List U64), none⟩))) (bh (α := (List U64)) (j := (k : Int)) rfl rfl rfl rfl (SR.sv J N.log0) (by omega) (by omega)) ?_)))
  obtain ⟨hQ, g6, g1⟩ := Sv.at (SR.sv J N.log0) (aM (x := default) (show k < E.length from by omega))
  obtain ⟨e9, f7, rfl, f9⟩ := g6
  refine aF (v := (.slice e9 (E.getD k default).length f7)) (id := .l (sB (.slice a2 E.length a4))) (aU (i := 0) rfl rfl g1 rfl rfl) rfl rfl (bx rfl) (⟨.inl rfl, ⟨.inl rfl, ⟨.inl rfl, ⟨.inr trivial, ⟨.inr (SR.nin J ar (i := 1) rfl (show k < E.length from by omega)), ⟨.inr trivial, ⟨.inr a0i, ⟨.inr trivial, ⟨.inr trivial, ⟨.inr trivial, ⟨.inr trivial, ⟨.inr trivial, trivial⟩⟩⟩⟩⟩⟩⟩⟩⟩⟩⟩⟩) (bY (W := []) (aq rfl rfl rfl) rfl rfl rfl (mb.list_c ex (E.getD k default) (HS.call N.log0) f9 hT (by (rw [an.wo k (by omega)]; have := wd_le vF.regs; omega))) (kb rfl) ?_)
  rintro _ hq ⟨b2, b9, i3, hC, h6, ch, av, rfl, f5, rfl⟩
  refine ⟨Wr.did av.log, fun hg f1 => ?_⟩
  replace av := HS.back N.log0 rfl av
  replace av := HS.lg av N f1
  generalize ({ hq with log := hg } : Heap) = hH at av ⊢
  have av : HS _ _ _ [_, _, _, _, _, hC] _ := av
  obtain ⟨h7, ci, b6, g7, hY⟩ := OS.frz f5 av (i := 5) rfl
  have b6 : HS _ _ _ [_, _, _, _, _, []] _ := b6
  replace b4 := (b4.mono ch).mono ci
  replace V := (((V.mono be).mono bk).mono ch).mono ci
  refine bM (id := .a) (bt (α := (List Int)) (ps := [(0, (.slice b2 (fB (E.getD k default)).length b9))]) (cells := [(.slice b2 (fB (E.getD k default)).length b9)]) ([fB (E.getD k default)] : List (List Int)) b6.log0 rfl rfl rfl (by kernel_rfl) ⟨[(.slice b2 (fB (E.getD k default)).length b9)], [], rfl, ⟨b2, b9, rfl, g7⟩, rfl⟩ rfl) rfl rfl (fun _ _ _ _ => gZ rfl rfl rfl) (kb rfl) ?_
  rintro _ hr hD ⟨il, i1, rfl, g3, aw, _⟩ hh f2
  replace aw := HS.lg aw b6 f2
  generalize ({ hr with log := hh } : Heap) = hI at aw ⊢
  have aw : HS _ _ _ [_, _, _, _, _, _, hD] _ := aw
  refine bM (id := .x (ag.map Prod.fst)) (bw (α := (List Int)) (q := 2) V aw.log0 rfl rfl rfl (OS.sv g3 aw.log0 (i := 6) rfl) rfl rfl rfl rfl rfl rfl rfl (by (simp only [a05, a0a, a0e]; omega))) rfl rfl (by rintro _ _ e0 ⟨dk, et, rfl, ea, _, hwr⟩; exact bQ rfl rfl (Wr.did hwr)) (kb rfl) ?_
  rintro _ ht e0 ⟨dk, et, rfl, ea, a8, _⟩ hj f3
  replace a8 := HS.lg a8 aw f3
  generalize ({ ht with log := hj } : Heap) = hK at a8 ⊢
  have a8 : HS _ _ _ [_, _, e0, _, _, _, _] _ := a8
  refine fa (.slice dd (xs ++ ([fB (A.getD k default)] : List (List Int))).length es) rfl rfl rfl (fa (.slice dk (ys ++ ([fB (E.getD k default)] : List (List Int))).length et) rfl rfl rfl (bT (ah 2 rfl (wU 1 [] 19 19 [38] [(19, (iI ((k : Int) + 1)))] (vi (n := (k : Int) + 1) (by omega)) rfl fun _ => g9 _ _ _ ?_ ⟨xs ++ ([fB (A.getD k default)] : List (List Int)), ys ++ ([fB (E.getD k default)] : List (List Int)), k + 1, dd, es, ez, dk, et, e0, _, (fT (fT (fT (fT (bb) be) bk) ch) ci), (HS.sub a8 (a03 _ _)), b4, ea, ⟨rfl, rfl, rfl, rfl, rfl, rfl, trivial⟩, rfl, (by simp; omega), (by simp; omega), (by omega), (by exact lst_snoc e1 e4 (lst_of (an.hi k))), (by exact lst_snoc e2 e5 (lst_of (an.ho k (by omega))))⟩))))
  omega
 have dl := cc
 try simp only [BS] at dl
 refine wT 1 [] 2 3 [39, 40] [(2, (.slice T xs.length Z)), (3, (.slice U ys.length ad))] rfl fun _ => ?_
 obtain ⟨h8, dv, c5, co, h0⟩ := OS.frz a6 a7 (i := 1) rfl
 have c5 : HS _ _ _ [_, _, ag] _ := c5
 replace V := V.mono dv
 obtain ⟨h9, d1, c6, g8, h1⟩ := OS.frz V c5 (i := 2) rfl
 have c6 : HS _ _ _ [_, _, []] _ := c6
 replace co := co.mono d1
 refine ak ⟨.inr rfl, _, rfl, T, Z, xs, U, ad, ys, _, (fT (fT (fT (fT (c8) dt) bb) dv) d1), (HS.forget c6), rfl, co, g8, (by exact fun _ => ⟨by omega, by omega, fun b hb => e4 b (by omega), fun b hb => e5 b (by omega)⟩), (by exact fun h => absurd (hv.symm.trans h) (by decide))⟩
end Go.Proofs.YtknafdcgpaejlaaDoor.md
