/-
 Live registers: Blocks, Points and AcrossCalls, each by a symbolic run. No condition but bounds on lengths.
-/
import Derived.Test.YtlabedbmgmfbaaaDoorZDMC
import Derived.Test.YtlabedbmgmfbaaaDoorZDRC
noncomputable section
namespace Go.Proofs.YtlabedbmgmfbaaaDoor.md
open Go.R
set_option maxRecDepth 10000
set_option linter.unusedVariables false
set_option linter.unusedSimpArgs false
open m1 m2 m3 m4 m5 m6 ma ml mb mc
structure Lst (l : List Int) (S : Nat → Prop) : Prop where
 asc : Asc l
 mem : ∀ x, x ∈ l ↔ 0 ≤ x ∧ S x.toNat
theorem lst_of {s : List U64} {S : Nat → Prop} (h : ∀ r, aF s r = true ↔ S r) : Lst (j4 s) S := ⟨lst_asc, fun x => by rw [lst_mem, h]⟩
structure BkF (c : VFnT) (x y : List (List Int)) : Prop where
 lx : x.length = c.blocks.length
 ly : y.length = c.blocks.length
 hx : ∀ b, b < c.blocks.length → Lst (x.getD b default) (LIn c b)
 hy : ∀ b, b < c.blocks.length → Lst (y.getD b default) (LOut c b)
def ptS (c : VFnT) (b i : Nat) : Nat → Prop := tr ((cC c b).ins.drop i) (endS (cC c b) (LOut c b))
structure PtF (c : VFnT) (b : Nat) (l : List (List Int)) : Prop where
 len : l.length = (cC c b).ins.length + 1
 pt : ∀ i, i ≤ (cC c b).ins.length → Lst (l.getD i default) (ptS c b i)
def acI (c : VFnT) (b i r : Nat) : Prop := ((cC c b).ins.getD i default).i.op = 6 ∧ ((ptS c b (i + 1) r ∧ (r : Int) ≠ ((cC c b).ins.getD i default).i.a) ∨ (r : Int) ∈ ((cC c b).ins.getD i default).args)
def acS (c : VFnT) (r : Nat) : Prop := ∃ b i, b < c.blocks.length ∧ i < (cC c b).ins.length ∧ acI c b i r
theorem pt_start {c : VFnT} {b n : Nat} {s z : List U64} (hn : (cC c b).ins.length ≤ n) (hs : ∀ r, aF s r = true ↔ LOut c b r) (h : ∀ i, aF z i = (aF s i || decide ((i : Int) ∈ endV (cC c b)))) (r : Nat) : aF z r = true ↔ ptS c b n r := tr_start hn hs h r
theorem set_pt {c : VFnT} {b i : Nat} {l : List (List Int)} {x : List Int} (hl : l.length = (cC c b).ins.length + 1) (h : ∀ j, i < j → j ≤ (cC c b).ins.length → Lst (l.getD j default) (ptS c b j)) (hi : i ≤ (cC c b).ins.length) (hx : Lst x (ptS c b i)) : ∀ j, i ≤ j → j ≤ (cC c b).ins.length → Lst ((l.set i x).getD j default) (ptS c b j) := fun j A z => by
 rw [fP]
 split
 ·
  rename_i e; obtain ⟨rfl, _⟩ := e; exact hx
 ·
  rename_i e; exact h j (by omega) z
set_option maxHeartbeats 1000000 in
theorem points_c (ex : FuncId) {a0 : Option Addr} {a8 : Nat} (c : VFnT) (block : Int) {F : Fz} {H : Heap} {R : List Fp} (hs : HS (.of H []) F H [] R) (i3 : in64 c.params) (jb : in64 c.regs) (Z : SR F (.slice a0 c.blocks.length a8) c.blocks) (hblock : in64 block) (hT : TB 37 tabC F) (hins : ∀ j, (c.blocks.getD j default).ins.length ≤ 1073741824) : C Tryd.prog 1 (KT 60 ex 37 tabC) 25 [(.agg ⟨[(iI c.params), (iI c.regs), (.slice a0 c.blocks.length a8)]⟩), (iI block)] H fun v H' => ∃ (al : Option Addr) (kl : Nat) (l : List (List Int)) (F' : Fz), Fz.le F F' ∧ HS (.of H []) F' H' [] R ∧ v = .slice al l.length kl ∧ SR F' (.slice al l.length kl) l ∧ (eL c = true → 0 ≤ block → block < (c.blocks.length : Int) → PtF c block.toNat l) ∧ ((eL c = false ∨ block < 0 ∨ (c.blocks.length : Int) ≤ block) → l = []) := by
 refine aL Tryd.func25 rfl rfl ?_
 refine ao 1 rfl ?_
 refine ab ?_
 refine aR (cw hs rfl rfl) rfl rfl ?_
 rintro _ H2 _ ⟨b1, rfl, c4, _⟩
 let el : Fp := [(b1, .cells [(iI c.params), (iI c.regs), (.slice a0 c.blocks.length a8)] none false)]
 have c4 : HS _ _ _ [el] _ := c4
 refine wa (.slice none 0 0) rfl rfl rfl ?_
 refine ai 3 rfl ?_
 refine ab ?_
 let em : Value := (.agg ⟨[(iI c.params), (iI c.regs), (.slice a0 c.blocks.length a8)]⟩)
 refine wRo 1 0 [(0, .o em)] 11 11 [] [(11, em)] (vA (qn 24 0 3 (HS.hc c4 (i := 0) rfl) rfl rfl rfl rfl) trivial) rfl fun _ => ?_
 refine aD (az rfl rfl rfl) rfl rfl (m3.valid_c ex c (HS.call c4) (by omega) (by omega) Z hT (by exact fun j => Nat.le_trans (hins j) (by omega))) ?_
 rintro _ H4 ⟨r4, F4, d2, ar, rfl, rfl⟩
 replace ar := HS.back c4 rfl ar
 have ar : HS _ _ _ [_] _ := ar
 replace hT := hT.mono d2
 replace Z := Z.mono d2
 refine wRo 12 2 [(10, .o (.slice a0 c.blocks.length a8))] 13 24 [] [(24, (.bool (((!(eL c)) || (decide (block < 0))) || (decide ((c.blocks.length : Int) ≤ block)))))] (vA (fun (g1 : ((!(eL c)) || (decide (block < 0))) = false) => (ql 22 2 (HS.hc ar (i := 0) rfl) rfl rfl)) trivial) rfl fun _ => ?_
 refine ai 1 rfl ?_
 refine am 1 2 (v := (((!(eL c)) || (decide (block < 0))) || (decide ((c.blocks.length : Int) ≤ block)))) rfl rfl rfl rfl (fun c6 => ?_) (fun c6 => ?_)
 ·
  try simp only [BS] at c6
  have hb := c6
  refine wR 1 [] 4 4 [] [(4, (.slice none 0 0))] trivial rfl fun _ => ?_
  refine ah ⟨.inr rfl, _, rfl, none, 0, ([] : List (List Int)), _, (d2), (HS.forget ar), rfl, (SR.nil : SR F4 (.slice none 0 0) ([] : List (List Int))), (by first | exact fun h h2 h3 => absurd hb (by simp [h]; omega) | exact fun _ _ _ => ⟨e2, fun i hi => e5 i (show (iz + 1).toNat ≤ i by omega) hi⟩), (by first | exact fun _ => rfl | exact fun h => by rw [hv] at h; simp at h; omega)⟩
 ·
  try simp only [BS] at c6
  have hb := c6
  have hv : eL c = true := hb.1.1
  have vF := vF_of hv
  have hnb := vF.nb
  have hbn : block.toNat < c.blocks.length := by omega
  have hwd := wd_le vF.regs
  have hfn : ((c.blocks.getD block.toNat default).fin = 2 ∨ (c.blocks.getD block.toNat default).fin = 3) → 0 ≤ (c.blocks.getD block.toNat default).reg ∧ (c.blocks.getD block.toNat default).reg < c.regs := vF.fin block.toNat hbn
  have hbl := hins block.toNat
  refine ab ?_
  refine wRo 1 0 [(0, .o em)] 26 26 [] [(26, em)] (vA (qn 24 0 3 (HS.hc ar (i := 0) rfl) rfl rfl rfl rfl) trivial) rfl fun _ => ?_
  refine aD (az rfl rfl rfl) rfl rfl (mc.analyze_c ex c (HS.call ar) (by omega) (by omega) Z hT (by assumption) (by exact fun j => Nat.le_trans (hins j) (by omega))) ?_
  rintro _ H9 ⟨h8, kn, lW, g8, hr, aj, F9, ez, bl, rfl, hW, ec, h9⟩
  replace bl := HS.back ar rfl bl
  have bl : HS _ _ _ [_] _ := bl
  replace hT := hT.mono ez
  replace Z := Z.mono ez
  refine wRo 5 2 [] 28 29 [5, 6, 25] [(6, (.slice g8 aj.length hr))] trivial rfl fun _ => ?_
  refine ai 2 rfl ?_
  have an := (by assumption : AnF c _ _)
  have hli := an.li
  have hlo := an.lo
  have hwo := an.wo block.toNat hbn
  have kk : (aj.getD block.toNat []).length = wds c := hwo
  refine ab ?_
  obtain ⟨O, e6⟩ := Sv.view (SR.sv Z bl)
  obtain ⟨hH, hI, hK, hL, V⟩ := BlkT.fx (e6 block.toNat)
  let ep : Value := (.agg ⟨[(.slice (cA (O block.toNat) 0) (c.blocks.getD block.toNat default).ins.length (cK (O block.toNat) 0)), (iI (c.blocks.getD block.toNat default).fin), (iI (c.blocks.getD block.toNat default).reg), (iI (c.blocks.getD block.toNat default).tgt), (iI (c.blocks.getD block.toNat default).els)]⟩)
  refine wRo 5 0 [(1, .o (.slice a0 c.blocks.length a8)), (4, .o ep)] 30 34 [] [(34, ep)] (vA (ql 22 2 (HS.hc bl (i := 0) rfl) rfl rfl) (vA (Sv.ix (j := block) (SR.sv Z bl) (by omega) (by omega)) (vA (qn 42 0 5 (BlkT.vw (e6 block.toNat) (by omega)) rfl rfl rfl rfl) trivial))) rfl fun _ => ?_
  refine aR (bK bl rfl) rfl rfl ?_
  rintro _ k6 _ ⟨c3, rfl, dk, _⟩
  have dk : HS _ _ _ [_, [(c3, .cells [(.slice none 0 0), (iI 0), (iI 0), (iI 0), (iI 0)] none false)]] _ := dk
  refine aU (aG (q := 1) dk rfl rfl rfl rfl rfl rfl rfl rfl rfl) rfl ?_
  rintro _ k7 _ ⟨dl, _⟩
  let es : Fp := [(c3, .cells [(.slice (cA (O block.toNat) 0) (c.blocks.getD block.toNat default).ins.length (cK (O block.toNat) 0)), (iI (c.blocks.getD block.toNat default).fin), (iI (c.blocks.getD block.toNat default).reg), (iI (c.blocks.getD block.toNat default).tgt), (iI (c.blocks.getD block.toNat default).els)] none false)]
  have dl : HS _ _ _ [_, es] _ := dl
  refine ai 2 rfl ?_
  refine ab ?_
  refine aR (ct (α := U64) (ps := []) (cells := []) ([] : List U64) dl rfl rfl rfl (by kernel_rfl) rfl rfl) rfl rfl ?_
  rintro _ k8 hF ⟨lU, lX, rfl, hl, a4, _⟩
  have a4 : HS _ _ _ [_, _, hF] _ := a4
  obtain ⟨b9, e9⟩ := Sv.view (SR.sv ec a4)
  have hG := fL (e9 block.toNat)
  refine wRo 4 1 [(4, .o (.slice (cA (b9 block.toNat) 0) (aj.getD block.toNat default).length (cK (b9 block.toNat) 0)))] 36 39 [] [(39, (.slice (cA (b9 block.toNat) 0) (aj.getD block.toNat default).length (cK (b9 block.toNat) 0)))] (vA (Sv.ix (j := block) (SR.sv ec a4) (by omega) (by omega)) (vA (ql 83 0 (vL (e9 block.toNat) (by omega)) rfl rfl) trivial)) rfl fun _ => ?_
  refine aR (cQ (α := U64) (q := 2) hl a4 rfl rfl rfl (SR.sv hG a4) rfl rfl rfl rfl rfl rfl rfl (by (simp only [List.length_append, List.length_cons, List.length_nil]; omega))) rfl rfl ?_
  rintro _ k9 g3 ⟨b4, b7, rfl, c9, b6, _⟩
  have b6 : HS _ _ _ [_, _, g3] _ := b6
  have c9 : OS F9 (.slice b4 (aj.getD block.toNat default).length b7) (aj.getD block.toNat default) g3 := c9
  refine wa (.slice b4 (aj.getD block.toNat default).length b7) rfl rfl rfl ?_
  refine ai 2 rfl ?_
  refine ab ?_
  refine wRo 2 0 [(1, .o ep)] 41 42 [] [(41, (.slice b4 (aj.getD block.toNat default).length b7)), (42, ep)] (vA (qn 42 0 5 (HS.hc b6 (i := 1) rfl) rfl rfl rfl rfl) trivial) rfl fun _ => ?_
  refine aD (az rfl rfl rfl) rfl rfl (mb.addT_c ex (aj.getD block.toNat default) (c.blocks.getD block.toNat default) (HS.callOwn b6 (i := 2) rfl) c9 V (by omega) (by omega) (by omega) (by omega) hT (by exact fun hf => by have := hfn hf; omega) (by first | omega | exact fun hf => by have := hfn hf; omega)) ?_
  rintro _ la ⟨a9, dv, g2, c5, a5, rfl, a1, il, i1⟩
  replace a5 := HS.backOwn b6 (i := 2) rfl rfl (fun _ hb => hb) a5
  have a5 : HS _ _ _ [_, _, dv] _ := a5
  replace hT := hT.mono c5
  replace V := V.mono c5
  have kp := OS.len' a1
  refine ai 2 rfl ?_
  refine ab ?_
  refine wRo 4 0 [(1, .o (.slice (cA (O block.toNat) 0) (c.blocks.getD block.toNat default).ins.length (cK (O block.toNat) 0)))] 44 47 [] [(47, (iI (((c.blocks.getD block.toNat default).ins.length : Int) + 1)))] (vA (ql 40 0 (HS.hc a5 (i := 1) rfl) rfl rfl) (vA (vi (n := ((c.blocks.getD block.toNat default).ins.length : Int) + 1) (by omega)) trivial)) rfl fun _ => ?_
  refine aR (hZ ([] : (List Int)) a5 rfl rfl rfl rfl rfl rfl rfl rfl rfl ⟨none, 0, rfl, SR.nil⟩ (by omega) (by omega)) rfl rfl ?_
  rintro _ lr ei ⟨bj, b0, rfl, a3, ap, _⟩
  have ap : HS _ _ _ [_, _, _, ei] _ := ap
  have a3 : OS g2 (.slice bj (List.replicate ((c.blocks.getD block.toNat default).ins.length + 1) ([] : (List Int))).length b0) (List.replicate ((c.blocks.getD block.toNat default).ins.length + 1) ([] : (List Int))) ei := a3
  refine wa (.slice bj (List.replicate ((c.blocks.getD block.toNat default).ins.length + 1) ([] : (List Int))).length b0) rfl rfl rfl ?_
  refine ai 2 rfl ?_
  have hrl : (List.replicate ((c.blocks.getD block.toNat default).ins.length + 1) ([] : List Int)).length = (c.blocks.getD block.toNat default).ins.length + 1 := List.length_replicate
  refine aV rfl ?_
  refine fm (.slice bj (List.replicate ((c.blocks.getD block.toNat default).ins.length + 1) ([] : (List Int))).length b0) rfl rfl rfl ?_
  refine wfv (v := (.pointer (some ⟨c3, 0, none⟩))) (bQ rfl rfl) ?_
  refine au (v := (.slice (cA (O block.toNat) 0) (c.blocks.getD block.toNat default).ins.length (cK (O block.toNat) 0))) (id := .l c3) (aP (i := 0) rfl rfl (HS.hc ap.log0 (i := 1) rfl) rfl rfl) rfl rfl (bg rfl) (kb rfl) ?_
  refine au (v := (iI ((c.blocks.getD block.toNat default).ins.length : Int))) (id := .v) (ap_lenV (α := VInT) rfl rfl (SR.sv V ap.log0)) rfl rfl (did_len rfl) (gb _) ?_
  refine fm (.slice b4 (aj.getD block.toNat default).length b7) rfl rfl rfl ?_
  obtain ⟨h4, ea, b2, f7, f4⟩ := OS.frz a1 ap (i := 2) rfl
  have b2 : HS _ _ _ [_, _, [], _] _ := b2
  refine de (W := []) (az rfl rfl rfl) rfl rfl rfl (mb.list_c ex a9 (HS.call b2.log0) f7 (hT.mono ea) (by omega)) (⟨.inl rfl, ⟨.inr trivial, ⟨.inr List.not_mem_nil, ⟨.inr trivial, ⟨.inr trivial, trivial⟩⟩⟩⟩⟩) ?_
  rintro _ hC ⟨g9, ht, lY, g4, kz, hh, T, rfl, co, rfl⟩
  refine ⟨Wr.did T.log, fun hw f2 => ?_⟩
  replace T := HS.back b2.log0 rfl T
  replace T := HS.lg T ap f2
  generalize ({ hC with log := hw } : Heap) = h6 at T ⊢
  replace T := HS.thawX (M := [g4]) ap (i := 2) rfl ea f4 hh T
  replace co := OS.ind (F' := g2) co
  have T : HS _ _ _ [el, es, dv, ei, g4] _ := T
  refine wfv (v := (.pointer (some ⟨sB (.slice bj (List.replicate ((c.blocks.getD block.toNat default).ins.length + 1) ([] : (List Int))).length b0), sO (.slice bj (List.replicate ((c.blocks.getD block.toNat default).ins.length + 1) ([] : (List Int))).length b0) + (c.blocks.getD block.toNat default).ins.length * Rp.sz (List Int), none⟩))) (aW (α := (List Int)) (j := ((c.blocks.getD block.toNat default).ins.length : Int)) rfl rfl rfl rfl (OS.sv a3 T.log0 (i := 3) rfl) (by omega) (by omega)) ?_
  obtain ⟨hA, b5, c0, hm, jq⟩ := OS.frz co T (i := 4) rfl
  have c0 : HS _ _ _ [_, _, _, _, []] _ := c0
  replace a1 := a1.mono b5
  replace a3 := a3.mono b5
  refine eu (id := .x (ei.map Prod.fst)) (eh (α := (List Int)) (j := (c.blocks.getD block.toNat default).ins.length) (off := 0) (q := 3) (j4 a9) a3 c0.log0 rfl rfl rfl rfl rfl rfl rfl rfl (aS (x := default) (by omega)) rfl (by rintro cs ⟨_, _, rfl, _⟩; exact ⟨Nat.le_of_ble_eq_true rfl, ⟨g9, ht, rfl, hm⟩⟩)) rfl (by rintro _ _ fj ⟨ci, _, hwr⟩; exact cF rfl rfl (Wr.did hwr)) (kb rfl) ?_
  rintro _ hD fj ⟨ci, aq, _⟩ hz f3
  replace aq := HS.lg aq c0 f3
  generalize ({ hD with log := hz } : Heap) = h7 at aq ⊢
  have aq : HS _ _ _ [_, _, _, fj, _] _ := aq
  have hS := OS.len' ci
  refine bZ ?_
  refine ao 3 rfl ?_
  refine wR 2 [(1, .o (.slice (cA (O block.toNat) 0) (c.blocks.getD block.toNat default).ins.length (cK (O block.toNat) 0)))] 56 59 [10] [(10, (iI (((c.blocks.getD block.toNat default).ins.length : Int) - 1)))] (vA (ql 40 0 (HS.hc aq (i := 1) rfl) rfl rfl) (vA (vi (n := ((c.blocks.getD block.toNat default).ins.length : Int) - 1) (by omega)) trivial)) rfl fun _ => ?_
  refine aC (fun (mm : Nat) f H' => ∃ (sw : List U64) (pl : List (List Int)) (iz : Int) (I : Option Addr) (J : Nat) (av : Fp) (z : Option Addr) (A : Nat) (ag : Fp) (F' : Fz), Fz.le hA F' ∧ HS (Base.of H []) F' H' [el, es, av, ag, []] R ∧ OS F' (.slice I sw.length J) sw av ∧ OS F' (.slice z pl.length A) pl ag ∧ aT f [(4, (.slice none 0 0)), (7, (.pointer (some ⟨c3, 0, none⟩))), (8, (.slice I sw.length J)), (9, (.slice z pl.length A)), (10, (iI iz))] ∧ mm = (iz + 1).toNat ∧ (sw.length = wds c) ∧ (pl.length = (c.blocks.getD block.toNat default).ins.length + 1) ∧ (-1 ≤ iz ∧ iz < ((c.blocks.getD block.toNat default).ins.length : Int)) ∧ (∀ r, aF sw r = true ↔ ptS c block.toNat (iz + 1).toNat r) ∧ (∀ j, (iz + 1).toNat ≤ j → j ≤ (c.blocks.getD block.toNat default).ins.length → Lst (pl.getD j default) (ptS c block.toNat j))) _ ⟨a9, (List.replicate ((c.blocks.getD block.toNat default).ins.length + 1) ([] : (List Int))).set (c.blocks.getD block.toNat default).ins.length (j4 a9), ((c.blocks.getD block.toNat default).ins.length : Int) - 1, b4, b7, dv, bj, b0, fj, _, fR, aq, (OS.norm a1), (OS.norm ci), (agC rfl (agC rfl (agC (show Value.slice b4 (aj.getD block.toNat default).length b7 = Value.slice b4 a9.length b7 by rw [OS.len' a1]) (agC (show Value.slice bj (List.replicate ((c.blocks.getD block.toNat default).ins.length + 1) ([] : (List Int))).length b0 = Value.slice bj ((List.replicate ((c.blocks.getD block.toNat default).ins.length + 1) ([] : (List Int))).set (c.blocks.getD block.toNat default).ins.length (j4 a9)).length b0 by rw [OS.len' ci]) (agC rfl agN))))), rfl, (by omega), (by simp), (by omega), (by exact pt_start (show (c.blocks.getD block.toNat default).ins.length ≤ _ by omega) (an.ho _ hbn) (by assumption)), (by exact fun j h1 h2 => by (rw [show j = (c.blocks.getD block.toNat default).ins.length by omega, fP, if_pos ⟨rfl, by simp⟩]; exact lst_of (pt_start (Nat.le_refl _) (an.ho _ hbn) (by assumption))))⟩ ?_
  rintro kt lV lQ ⟨sw, pl, iz, I, J, av, z, A, ag, k0, ch, a6, fi, U, e0, rfl, e1, e2, e3, e4, e5⟩ hq
  refine aH _ e0 (fun _ => ?_)
  clear e0
  replace hT := (hT.mono b5).mono ch
  replace V := (V.mono b5).mono ch
  refine ao 2 rfl ?_
  refine wR 1 [] 60 61 [] [(61, (.bool (decide ((0 : Int) ≤ iz))))] trivial rfl fun _ => ?_
  refine am 4 5 (v := (decide ((0 : Int) ≤ iz))) rfl rfl rfl rfl (fun et => ?_) (fun et => ?_)
  ·
   try simp only [BS] at et
   have hvl : (∀ x ∈ bd ((c.blocks.getD block.toNat default).ins.getD iz.toNat default), 0 ≤ x ∧ x < c.regs) ∧ (∀ x ∈ aQ ((c.blocks.getD block.toNat default).ins.getD iz.toNat default), 0 ≤ x ∧ x < c.regs) ∧ ((c.blocks.getD block.toNat default).ins.getD iz.toNat default).args.length ≤ 6 := gG (vF.ins block.toNat hbn iz.toNat (show iz.toNat < (c.blocks.getD block.toNat default).ins.length by omega))
   have ki := hvl.2.2
   refine ab ?_
   obtain ⟨ey, fd⟩ := Sv.view (SR.sv V a6)
   obtain ⟨hM, hN, hP, hQ, hR, gn⟩ := VInT.fx (fd iz.toNat)
   let g7 : Value := (.agg ⟨[(iI ((c.blocks.getD block.toNat default).ins.getD iz.toNat default).i.op), (iI ((c.blocks.getD block.toNat default).ins.getD iz.toNat default).i.a), (iI ((c.blocks.getD block.toNat default).ins.getD iz.toNat default).i.b), (iI ((c.blocks.getD block.toNat default).ins.getD iz.toNat default).i.c), (iI ((c.blocks.getD block.toNat default).ins.getD iz.toNat default).i.n), (.slice (cA (ey iz.toNat) 5) ((c.blocks.getD block.toNat default).ins.getD iz.toNat default).args.length (cK (ey iz.toNat) 5))]⟩)
   refine wRo 6 0 [(2, .o (.slice (cA (O block.toNat) 0) (c.blocks.getD block.toNat default).ins.length (cK (O block.toNat) 0))), (5, .o g7)] 64 69 [] [(64, (.slice I sw.length J)), (69, g7)] (vA (ql 40 0 (HS.hc a6 (i := 1) rfl) rfl rfl) (vA (Sv.ix (j := iz) (SR.sv V a6) (by omega) (by omega)) (vA (qn 47 0 6 (VInT.vw (fd iz.toNat) (by omega)) rfl rfl rfl rfl) trivial))) rfl fun _ => ?_
   refine aD (az rfl rfl rfl) rfl rfl (mb.kj ex sw ((c.blocks.getD block.toNat default).ins.getD iz.toNat default) (HS.callOwn a6 (i := 2) rfl) fi (by first | (dsimp only; omega) | omega) (by first | (dsimp only; omega) | omega) (by first | (dsimp only; omega) | omega) (by first | (dsimp only; omega) | omega) (by first | (dsimp only; omega) | omega) gn hT (by first | omega | exact fun x hx => by have := hvl.1 x hx; omega | exact fun x hx => by have := hvl.2.1 x hx; omega) (by first | omega | exact fun x hx => by have := hvl.1 x hx; omega | exact fun x hx => by have := hvl.2.1 x hx; omega) (by first | omega | exact fun x hx => by have := hvl.1 x hx; omega | exact fun x hx => by have := hvl.2.1 x hx; omega) (by first | omega | exact fun x hx => by have := hvl.1 x hx; omega | exact fun x hx => by have := hvl.2.1 x hx; omega)) ?_
   rintro _ lR ⟨bb, d1, hB, c7, a7, rfl, a2, iv, i2⟩
   replace a7 := HS.backOwn a6 (i := 2) rfl rfl (fun _ hb => hb) a7
   have a7 : HS _ _ _ [_, _, d1, ag, _] _ := a7
   replace hT := hT.mono c7
   replace U := U.mono c7
   have kr := OS.len' a2
   refine ai 1 rfl ?_
   refine ab ?_
   refine wRo 3 0 [] 71 73 [] [(71, (.slice z pl.length A)), (72, (iI iz)), (73, (.slice I sw.length J))] trivial rfl fun _ => ?_
   obtain ⟨h5, eb, b3, f9, f6⟩ := OS.frz a2 a7 (i := 2) rfl
   have b3 : HS _ _ _ [_, _, [], _, _] _ := b3
   refine aD (az rfl rfl rfl) rfl rfl (mb.list_c ex bb (HS.call b3) f9 (hT.mono eb) (by omega)) ?_
   rintro _ lS ⟨ha, hu, lZ, g5, k3, hj, ad, rfl, cv, rfl⟩
   replace ad := HS.back b3 rfl ad
   replace ad := HS.thawX (M := [g5]) a7 (i := 2) rfl eb f6 hj ad
   replace cv := OS.ind (F' := hB) cv
   have ad : HS _ _ _ [el, es, d1, ag, [], g5] _ := ad
   refine wRo 1 4 [] 75 75 [] [(75, (.pointer (some ⟨sB (.slice z pl.length A), sO (.slice z pl.length A) + iz.toNat * Rp.sz (List Int), none⟩)))] (vA (Sv.ix (j := iz) (OS.sv U ad (i := 3) rfl) (by omega) (by omega)) trivial) rfl fun _ => ?_
   obtain ⟨k4, c8, dn, hn, j2⟩ := OS.frz cv ad (i := 5) rfl
   have dn : HS _ _ _ [_, _, _, _, _, []] _ := dn
   replace a2 := a2.mono c8
   replace U := U.mono c8
   refine aU (eh (α := (List Int)) (j := iz.toNat) (off := 0) (q := 3) (j4 bb) U dn rfl rfl rfl rfl rfl rfl rfl rfl (aS (x := default) (by omega)) rfl (by rintro cs ⟨_, _, rfl, _⟩; exact ⟨Nat.le_of_ble_eq_true rfl, ⟨ha, hu, rfl, hn⟩⟩)) rfl ?_
   rintro _ lT g6 ⟨dd, ds, _⟩
   have ds : HS _ _ _ [_, _, _, g6, _, _] _ := ds
   have hV := OS.len' dd
   refine ai 2 rfl ?_
   refine wR 1 [] 62 63 [10] [(10, (iI (iz - 1)))] (vA (vi (n := iz - 1) (by omega)) trivial) rfl fun _ => ?_
   refine hq _ _ _ ?_ ⟨bb, pl.set iz.toNat (j4 bb), iz - 1, I, J, d1, z, A, g6, _, (fT (fT (ch) c7) c8), (HS.sub ds (List.sublist_append_left _ _)), (OS.norm a2), (OS.norm dd), (agC rfl (agC rfl (agC (show Value.slice I sw.length J = Value.slice I bb.length J by rw [OS.len' a2]) (agC (show Value.slice z pl.length A = Value.slice z (pl.set iz.toNat (j4 bb)).length A by rw [OS.len' dd]) (agC rfl agN))))), rfl, (by omega), (by rw [List.length_set]; exact e2), (by omega), (by rw [show (iz - 1 + 1).toNat = iz.toNat by omega]; exact tr_next (show iz.toNat < (c.blocks.getD block.toNat default).ins.length by omega) (by rw [show iz.toNat + 1 = (iz + 1).toNat by omega]; exact e4) (by assumption)), (by rw [show (iz - 1 + 1).toNat = iz.toNat by omega]; exact set_pt e2 (fun j h1 h2 => e5 j (show (iz + 1).toNat ≤ j by omega) h2) (show iz.toNat ≤ (c.blocks.getD block.toNat default).ins.length by omega) (lst_of (tr_next (show iz.toNat < (c.blocks.getD block.toNat default).ins.length by omega) (by rw [show iz.toNat + 1 = (iz + 1).toNat by omega]; exact e4) (by assumption))))⟩
   omega
  ·
   try simp only [BS] at et
   refine wR 1 [] 4 4 [76] [(4, (.slice z pl.length A))] trivial rfl fun _ => ?_
   obtain ⟨k5, hk, dt, hp, kd⟩ := OS.frz U a6 (i := 3) rfl
   have dt : HS _ _ _ [_, _, av, [], _] _ := dt
   refine ah ⟨.inr rfl, _, rfl, z, A, pl, _, (fT (fT (fT (fT (fT (d2) ez) c5) b5) ch) hk), (HS.forget dt), rfl, hp, (by exact fun _ _ _ => ⟨e2, fun i hi => e5 i (show (iz + 1).toNat ≤ i by omega) hi⟩), (by exact fun h => by rw [hv] at h; simp at h; omega)⟩
end Go.Proofs.YtlabedbmgmfbaaaDoor.md
