/-
 Live registers: Blocks, Points and AcrossCalls, each by a symbolic run. No condition but bounds on lengths.
-/
import Derived.Test.YtknafdcgpaejlaaDoorZAMC
noncomputable section
namespace Go.Proofs.YtknafdcgpaejlaaDoor.md
open Go.R
set_option maxRecDepth 10000
set_option linter.unusedVariables false
open m1 m2 m3 m4 m5 m6 ma ml mb mc
structure Lst (l : List Int) (S : Nat → Prop) : Prop where
 asc : Asc l
 mem : ∀ x, x ∈ l ↔ 0 ≤ x ∧ S x.toNat
theorem lst_of {s : List U64} {S : Nat → Prop} (h : ∀ r, bitOf s r = true ↔ S r) : Lst (lstV s) S := ⟨lst_asc, fun x => by rw [lst_mem, h]⟩
structure BkF (c : VFnT) (x y : List (List Int)) : Prop where
 lx : x.length = c.blocks.length
 ly : y.length = c.blocks.length
 hx : ∀ b, b < c.blocks.length → Lst (x.getD b default) (LIn c b)
 hy : ∀ b, b < c.blocks.length → Lst (y.getD b default) (LOut c b)
def ptS (c : VFnT) (b i : Nat) : Nat → Prop := tr ((blkN c b).ins.drop i) (endS (blkN c b) (LOut c b))
structure PtF (c : VFnT) (b : Nat) (l : List (List Int)) : Prop where
 len : l.length = (blkN c b).ins.length + 1
 pt : ∀ i, i ≤ (blkN c b).ins.length → Lst (l.getD i default) (ptS c b i)
def acI (c : VFnT) (b i r : Nat) : Prop := ((blkN c b).ins.getD i default).i.op = 6 ∧ ((ptS c b (i + 1) r ∧ (r : Int) ≠ ((blkN c b).ins.getD i default).i.a) ∨ (r : Int) ∈ ((blkN c b).ins.getD i default).args)
def acS (c : VFnT) (r : Nat) : Prop := ∃ b i, b < c.blocks.length ∧ i < (blkN c b).ins.length ∧ acI c b i r
theorem at_snoc {α : Type} {d : α} {l : List α} {x : α} {j : Nat} : (l ++ [x]).getD j d = if j = l.length then x else l.getD j d := by
 rw [List.getD_eq_getElem?_getD, List.getD_eq_getElem?_getD, List.getElem?_append]
 by_cases h : j < l.length
 ·
  rw [if_pos h, if_neg (by omega)]
 ·
  rw [if_neg h]
  by_cases z : j = l.length
  ·
   subst z; rw [if_pos rfl, Nat.sub_self]; rfl
  ·
   rw [if_neg z, List.getElem?_eq_none (by simp; omega), List.getElem?_eq_none (by omega)]
theorem lst_snoc {l : List (List Int)} {S : Nat → Nat → Prop} {k : Nat} {x : List Int} (hl : l.length = k) (h : ∀ b, b < k → Lst (l.getD b default) (S b)) (hx : Lst x (S k)) : ∀ b, b < k + 1 → Lst ((l ++ [x]).getD b default) (S b) := fun b hb => by
 rw [at_snoc]
 split
 ·
  rename_i e; rw [hl] at e; subst e; exact hx
 ·
  exact h b (by omega)
set_option maxHeartbeats 1000000 in
theorem blocks_c (ex : FuncId) {ab : Option Addr} {ae : Nat} (c : VFnT) {F : Fz} {H : Heap} {R : List Fp} (hs : HS (.of H []) F H [] R) (b7 : in64 c.params) (b8 : in64 c.regs) (aD : SR F (.slice ab c.blocks.length ae) c.blocks) (hT : TB 37 tabC F) (hins : ∀ j, (c.blocks.getD j default).ins.length ≤ 1073741824) : C Tryd.prog 1 (KT 60 ex 37 tabC) 71 [(.agg ⟨[(.int .i64 c.params), (.int .i64 c.regs), (.slice ab c.blocks.length ae)]⟩)] H fun v H' => ∃ (ax : Option Addr) (kx : Nat) (x : List (List Int)) (ay : Option Addr) (ky : Nat) (y : List (List Int)) (F' : Fz), Fz.le F F' ∧ HS (.of H []) F' H' [] R ∧ v = .tuple ⟨[.slice ax x.length kx, .slice ay y.length ky]⟩ ∧ SR F' (.slice ax x.length kx) x ∧ SR F' (.slice ay y.length ky) y ∧ (valV c = true → BkF c x y) ∧ (valV c = false → x = [] ∧ y = []) := by
 refine c_enter Tryd.func71 rfl rfl ?_
 refine wk_foc 1 rfl ?_
 refine wk_region ?_
 refine wo_rs (rs_box hs rfl rfl) rfl rfl ?_
 rintro _ H2 _ ⟨b1, rfl, aJ, _⟩
 have aJ : HS _ _ _ [[(b1, .cells [(.int .i64 c.params), (.int .i64 c.regs), (.slice ab c.blocks.length ae)] none false)]] _ := aJ
 refine wro 2 1 [] 2 3 [] [(2, (.slice none 0 0)), (3, (.slice none 0 0))] trivial (by kernel_rfl) rfl fun _ => ?_
 refine wo_end 3 rfl ?_
 refine wk_region ?_
 refine wro 1 0 [(0, .o (.agg ⟨[(.int .i64 c.params), (.int .i64 c.regs), (.slice ab c.blocks.length ae)]⟩))] 9 9 [] [(9, (.agg ⟨[(.int .i64 c.params), (.int .i64 c.regs), (.slice ab c.blocks.length ae)]⟩))] (vA (qn 24 0 3 (HS.hc aJ (i := 0) rfl) rfl rfl rfl rfl) trivial) (by kernel_rfl) rfl fun _ => ?_
 refine wo_call (ap_call rfl rfl rfl) rfl rfl (m3.valid_c ex c (HS.call aJ) (by omega) (by omega) aD hT (by exact fun j => Nat.le_trans (hins j) (by omega))) ?_
 rintro _ H5 ⟨r5, F5, aS, au, rfl, rfl⟩
 replace au := HS.back aJ rfl au
 have au : HS _ _ _ [_] _ := au
 replace hT := hT.mono aS
 replace aD := aD.mono aS
 refine wro 1 2 [] 11 11 [] [(11, (.bool (!(valV c))))] trivial (by kernel_rfl) rfl fun _ => ?_
 refine wo_end 1 rfl ?_
 refine wk_if 1 2 (v := (!(valV c))) rfl rfl rfl rfl (fun aY => ?_) (fun aY => ?_)
 ·
  have c7 := aY
  try simp only [BS] at c7
  have hv := c7
  refine wr 1 [] 2 3 [] [(2, (.slice none 0 0)), (3, (.slice none 0 0))] trivial (by kernel_rfl) rfl fun _ => ?_
  refine wk_ret ⟨.inr rfl, _, rfl, none, 0, ([] : List (List Int)), none, 0, ([] : List (List Int)), _, (aS), (HS.forget au), rfl, (SR.nil : SR F5 (.slice none 0 0) ([] : List (List Int))), (SR.nil : SR F5 (.slice none 0 0) ([] : List (List Int))), (by first | exact fun h => absurd (h.symm.trans hv) (by decide) | exact fun _ => ⟨by omega, by omega, fun b hb => e4 b (by omega), fun b hb => e5 b (by omega)⟩), (by first | exact fun _ => ⟨rfl, rfl⟩ | exact fun h => absurd (hv.symm.trans h) (by decide))⟩
 ·
  have c7 := aY
  try simp only [BS] at c7
  have hv := c7
  have vF := vF_of hv
  have hnb := vF.nb
  refine wk_region ?_
  refine wro 1 0 [(0, .o (.agg ⟨[(.int .i64 c.params), (.int .i64 c.regs), (.slice ab c.blocks.length ae)]⟩))] 13 13 [] [(13, (.agg ⟨[(.int .i64 c.params), (.int .i64 c.regs), (.slice ab c.blocks.length ae)]⟩))] (vA (qn 24 0 3 (HS.hc au (i := 0) rfl) rfl rfl rfl rfl) trivial) (by kernel_rfl) rfl fun _ => ?_
  refine wo_call (ap_call rfl rfl rfl) rfl rfl (mc.analyze_c ex c (HS.call au) (by omega) (by omega) aD hT (by first | assumption | exact fun j => Nat.le_trans (hins j) (by omega)) (by first | assumption | exact fun j => Nat.le_trans (hins j) (by omega))) ?_
  rintro _ cn ⟨ah, ak, z, aj, al, A, aT, aZ, aA, rfl, am, E, cu⟩
  replace aA := HS.back au rfl aA
  have aA : HS _ _ _ [_] _ := aA
  refine wro 5 2 [] 15 16 [4, 5, 12] [(4, (.slice ah z.length ak)), (5, (.slice aj A.length al))] trivial (by kernel_rfl) rfl fun _ => ?_
  refine wo_end 2 rfl ?_
  have an := (by assumption : AnF c _ _)
  have hli := an.li
  have hlo := an.lo
  refine wr 3 [] 1 0 [6, 7] [(6, (.slice none 0 0)), (7, (.slice none 0 0))] trivial (by kernel_rfl) rfl fun _ => ?_
  refine wr 2 [] 17 19 [] [(18, (.int .i64 (z.length : Int))), (19, (.int .i64 0))] trivial (by kernel_rfl) rfl fun _ => ?_
  have aO := HS.snoc aA
  have aO : HS _ _ _ [_, []] _ := aO
  have aP := HS.snoc aO
  have aP : HS _ _ _ [_, _, []] _ := aP
  refine wk_loop_inv (fun (mm : Nat) f H' => ∃ (xs : List (List Int)) (ys : List (List Int)) (k : Nat) (J : Option Addr) (T : Nat) (ag : Fp) (N : Option Addr) (U : Nat) (V : Fp) (F' : Fz), Fz.le aT F' ∧ HS (Base.of H []) F' H' [[(b1, .cells [(.int .i64 c.params), (.int .i64 c.regs), (.slice ab c.blocks.length ae)] none false)], ag, V] R ∧ OS F' (.slice J xs.length T) xs ag ∧ OS F' (.slice N ys.length U) ys V ∧ agrees f [(2, (.slice none 0 0)), (3, (.slice none 0 0)), (4, (.slice ah z.length ak)), (5, (.slice aj A.length al)), (6, (.slice J xs.length T)), (7, (.slice N ys.length U)), (18, (.int .i64 (z.length : Int))), (19, (.int .i64 (k : Int)))] ∧ mm = c.blocks.length - k ∧ (xs.length = k) ∧ (ys.length = k) ∧ (k ≤ c.blocks.length) ∧ (∀ b, b < k → Lst (xs.getD b default) (LIn c b)) ∧ (∀ b, b < k → Lst (ys.getD b default) (LOut c b))) _ ⟨([] : List (List Int)), ([] : List (List Int)), 0, none, 0, [], none, 0, [], _, (Fz.le_refl _), aP, (OS.nil : OS aT (.slice none 0 0) ([] : List (List Int)) []), (OS.nil : OS aT (.slice none 0 0) ([] : List (List Int)) []), (agC rfl (agC rfl (agC rfl (agC rfl (agC rfl (agC rfl (agC rfl (agC rfl agN)))))))), rfl, (by rfl), (by rfl), (by first | assumption | omega | (simp at *; omega)), (by intro b hb; omega), (by intro b hb; omega)⟩ ?_
  rintro cd ct co ⟨xs, ys, k, J, T, ag, N, U, V, ce, av, aq, ap, O, a2, rfl, e1, e2, e3, e4, e5⟩ bC
  refine wk_canon _ a2 (fun _ => ?_)
  clear a2
  replace hT := (hT.mono aZ).mono av
  replace am := am.mono av
  replace E := E.mono av
  refine wk_foc 1 rfl ?_
  refine wr 2 [] 20 20 [] [(20, (.bool (decide ((k : Int) < (z.length : Int)))))] trivial (by kernel_rfl) rfl fun _ => ?_
  refine wk_if 4 5 (v := (decide ((k : Int) < (z.length : Int)))) rfl rfl rfl rfl (fun aK => ?_) (fun aK => ?_)
  ·
   have aW := aK
   try simp only [BS] at aW
   refine wr 1 [] 21 21 [8] [(8, (.int .i64 (k : Int)))] trivial (by kernel_rfl) rfl fun _ => ?_
   refine wf_region rfl ?_
   refine fm (.slice J xs.length T) rfl rfl rfl ?_
   refine fm (.slice ah z.length ak) rfl rfl rfl ?_
   refine fm (.int .i64 (k : Int)) rfl rfl rfl ?_
   refine wf_pure (v := (.pointer (some ⟨sB (.slice ah z.length ak), sO (.slice ah z.length ak) + k * Rp.sz (List U64), none⟩))) (id := .v) (ap_idxV (α := (List U64)) (j := (k : Int)) rfl rfl rfl rfl (SR.sv am aq.log0) (by omega) (by omega)) rfl rfl (did_v rfl) (okD_v _) ?_
   obtain ⟨b3, bw, bp⟩ := Sv.at (SR.sv am aq.log0) (getD_at (x := default) (show k < z.length from by omega))
   obtain ⟨a8, bj, rfl, bl⟩ := bw
   refine wf_pure (v := (.slice a8 (z.getD k default).length bj)) (id := .l (sB (.slice ah z.length ak))) (ap_ld1 (i := 0) rfl rfl bp rfl rfl) rfl rfl (did_l rfl) (⟨.inl rfl, ⟨.inl rfl, ⟨.inl rfl, ⟨.inr trivial, trivial⟩⟩⟩⟩) ?_
   refine wf_call (W := []) (ap_call rfl rfl rfl) rfl rfl rfl (mb.list_c ex (z.getD k default) (HS.call aq.log0) bl hT (by first | (rw [an.wi k (by omega)]; have := wd_le vF.regs; omega) | (rw [an.wo k (by omega)]; have := wd_le vF.regs; omega))) (⟨.inl rfl, ⟨.inl rfl, ⟨.inl rfl, ⟨.inl rfl, ⟨.inr trivial, trivial⟩⟩⟩⟩⟩) ?_
   rintro _ bL ⟨aB, aH, cx, bS, cg, aw, Y, rfl, bg, rfl⟩
   refine ⟨Wr.did Y.log, fun bD ba => ?_⟩
   replace Y := HS.back aq.log0 rfl Y
   replace Y := HS.lg Y aq ba
   generalize ({ bL with log := bD } : Heap) = bW at Y ⊢
   have Y : HS _ _ _ [_, ag, V, bS] _ := Y
   obtain ⟨ch, az, aF, bx, b9⟩ := OS.frz bg Y (i := 3) rfl
   have aF : HS _ _ _ [_, _, _, []] _ := aF
   replace hT := (hT.mono aw).mono az
   replace E := (E.mono aw).mono az
   replace ap := (ap.mono aw).mono az
   refine wf_rs (id := .a) (rs_lit (α := (List Int)) (ps := [(0, (.slice aB (lstV (z.getD k default)).length aH))]) (cells := [(.slice aB (lstV (z.getD k default)).length aH)]) ([lstV (z.getD k default)] : List (List Int)) aF.log0 rfl rfl rfl (by kernel_rfl) ⟨[(.slice aB (lstV (z.getD k default)).length aH)], [], rfl, ⟨aB, aH, rfl, bx⟩, rfl⟩ rfl) rfl rfl (fun _ _ _ _ => did_a rfl rfl rfl) (⟨.inl rfl, ⟨.inl rfl, ⟨.inl rfl, ⟨.inl rfl, ⟨.inl rfl, ⟨.inr trivial, trivial⟩⟩⟩⟩⟩⟩) ?_
   rintro _ bM bT ⟨cp, cv, rfl, bt, Z, _⟩ bE bb
   replace Z := HS.lg Z aF bb
   generalize ({ bM with log := bE } : Heap) = bX at Z ⊢
   have Z : HS _ _ _ [_, _, _, _, bT] _ := Z
   refine wf_rs (id := .x (ag.map Prod.fst)) (rs_app (α := (List Int)) (q := 1) ap Z.log0 rfl rfl rfl (OS.sv bt Z.log0 (i := 4) rfl) rfl rfl rfl rfl rfl rfl rfl (by first | omega | (simp only [List.length_append, List.length_cons, List.length_nil]; omega))) rfl rfl (by rintro _ _ a6 ⟨aU, a4, rfl, aE, _, hwr⟩; exact did_x rfl rfl (Wr.did hwr)) (⟨.inl rfl, ⟨.inl rfl, ⟨.inl rfl, ⟨.inl rfl, ⟨.inl rfl, ⟨.inl rfl, ⟨.inl rfl, trivial⟩⟩⟩⟩⟩⟩⟩) ?_
   rintro _ bN a6 ⟨aU, a4, rfl, aE, I, _⟩ bF bc
   replace I := HS.lg I Z bc
   generalize ({ bN with log := bF } : Heap) = bY at I ⊢
   have I : HS _ _ _ [_, a6, _, _, _] _ := I
   refine fm (.slice N ys.length U) rfl rfl rfl ?_
   refine fm (.slice aj A.length al) rfl rfl rfl ?_
   refine fm (.int .i64 (k : Int)) rfl rfl rfl ?_
   refine wf_pure (v := (.pointer (some ⟨sB (.slice aj A.length al), sO (.slice aj A.length al) + k * Rp.sz (List U64), none⟩))) (id := .v) (ap_idxV (α := (List U64)) (j := (k : Int)) rfl rfl rfl rfl (SR.sv E I.log0) (by omega) (by omega)) rfl rfl (did_v rfl) (okD_v _) ?_
   obtain ⟨b4, bz, br⟩ := Sv.at (SR.sv E I.log0) (getD_at (x := default) (show k < A.length from by omega))
   obtain ⟨a9, bk, rfl, bm⟩ := bz
   refine wf_pure (v := (.slice a9 (A.getD k default).length bk)) (id := .l (sB (.slice aj A.length al))) (ap_ld1 (i := 0) rfl rfl br rfl rfl) rfl rfl (did_l rfl) (⟨.inl rfl, ⟨.inl rfl, ⟨.inl rfl, ⟨.inr trivial, ⟨.inr (SR.nin E Z (i := 1) rfl (show k < A.length from by omega)), ⟨.inr trivial, ⟨.inr List.not_mem_nil, ⟨.inr trivial, ⟨.inr trivial, ⟨.inr trivial, ⟨.inr trivial, ⟨.inr trivial, trivial⟩⟩⟩⟩⟩⟩⟩⟩⟩⟩⟩⟩) ?_
   refine wf_call (W := []) (ap_call rfl rfl rfl) rfl rfl rfl (mb.list_c ex (A.getD k default) (HS.call I.log0) bm hT (by first | (rw [an.wi k (by omega)]; have := wd_le vF.regs; omega) | (rw [an.wo k (by omega)]; have := wd_le vF.regs; omega))) (⟨.inl rfl, ⟨.inl rfl, ⟨.inl rfl, ⟨.inl rfl, ⟨.inr trivial, ⟨.inl rfl, ⟨.inl rfl, ⟨.inl rfl, ⟨.inl rfl, ⟨.inl rfl, ⟨.inl rfl, ⟨.inl rfl, ⟨.inl rfl, trivial⟩⟩⟩⟩⟩⟩⟩⟩⟩⟩⟩⟩⟩) ?_
   rintro _ bO ⟨aC, aI, cy, bU, ci, aL, aa, rfl, bh, rfl⟩
   refine ⟨Wr.did aa.log, fun bG bd => ?_⟩
   replace aa := HS.back I.log0 rfl aa
   replace aa := HS.lg aa I bd
   generalize ({ bO with log := bG } : Heap) = bZ at aa ⊢
   have aa : HS _ _ _ [_, _, _, _, _, bU] _ := aa
   obtain ⟨cj, aM, aG, bA, ca⟩ := OS.frz bh aa (i := 5) rfl
   have aG : HS _ _ _ [_, _, _, _, _, []] _ := aG
   replace aE := (aE.mono aL).mono aM
   replace O := (((O.mono aw).mono az).mono aL).mono aM
   refine wf_rs (id := .a) (rs_lit (α := (List Int)) (ps := [(0, (.slice aC (lstV (A.getD k default)).length aI))]) (cells := [(.slice aC (lstV (A.getD k default)).length aI)]) ([lstV (A.getD k default)] : List (List Int)) aG.log0 rfl rfl rfl (by kernel_rfl) ⟨[(.slice aC (lstV (A.getD k default)).length aI)], [], rfl, ⟨aC, aI, rfl, bA⟩, rfl⟩ rfl) rfl rfl (fun _ _ _ _ => did_a rfl rfl rfl) (⟨.inl rfl, ⟨.inl rfl, ⟨.inl rfl, ⟨.inl rfl, ⟨.inl rfl, ⟨.inr trivial, ⟨.inl rfl, ⟨.inl rfl, ⟨.inl rfl, ⟨.inl rfl, ⟨.inl rfl, ⟨.inl rfl, ⟨.inl rfl, ⟨.inl rfl, trivial⟩⟩⟩⟩⟩⟩⟩⟩⟩⟩⟩⟩⟩⟩) ?_
   rintro _ bP bV ⟨cr, cw, rfl, bu, ad, _⟩ bH be
   replace ad := HS.lg ad aG be
   generalize ({ bP with log := bH } : Heap) = b0 at ad ⊢
   have ad : HS _ _ _ [_, _, _, _, _, _, bV] _ := ad
   refine wf_rs (id := .x (V.map Prod.fst)) (rs_app (α := (List Int)) (q := 2) O ad.log0 rfl rfl rfl (OS.sv bu ad.log0 (i := 6) rfl) rfl rfl rfl rfl rfl rfl rfl (by first | omega | (simp only [List.length_append, List.length_cons, List.length_nil]; omega))) rfl rfl (by rintro _ _ a7 ⟨aV, a5, rfl, a3, _, hwr⟩; exact did_x rfl rfl (Wr.did hwr)) (⟨.inl rfl, ⟨.inl rfl, ⟨.inl rfl, ⟨.inl rfl, ⟨.inl rfl, ⟨.inl rfl, ⟨.inl rfl, ⟨.inl rfl, ⟨.inl rfl, ⟨.inl rfl, ⟨.inl rfl, ⟨.inl rfl, ⟨.inl rfl, ⟨.inl rfl, ⟨.inl rfl, trivial⟩⟩⟩⟩⟩⟩⟩⟩⟩⟩⟩⟩⟩⟩⟩) ?_
   rintro _ bQ a7 ⟨aV, a5, rfl, a3, ar, _⟩ bJ bf
   replace ar := HS.lg ar ad bf
   generalize ({ bQ with log := bJ } : Heap) = b2 at ar ⊢
   have ar : HS _ _ _ [_, _, a7, _, _, _, _] _ := ar
   refine fa (.slice aU (xs ++ ([lstV (z.getD k default)] : List (List Int))).length a4) rfl rfl rfl ?_
   refine fa (.slice aV (ys ++ ([lstV (A.getD k default)] : List (List Int))).length a5) rfl rfl rfl ?_
   refine wf_nil ?_
   refine wk_foc 2 rfl ?_
   refine wr 1 [] 19 19 [38] [(19, (.int .i64 ((k : Int) + 1)))] (vA (vi (n := (k : Int) + 1) (by omega)) trivial) (by kernel_rfl) rfl fun _ => ?_
   refine bC _ _ _ ?_ ⟨xs ++ ([lstV (z.getD k default)] : List (List Int)), ys ++ ([lstV (A.getD k default)] : List (List Int)), k + 1, aU, a4, a6, aV, a5, a7, _, (Fz.le_trans (Fz.le_trans (Fz.le_trans (Fz.le_trans (av) aw) az) aL) aM), (HS.sub ar (List.sublist_append_left _ _)), aE, a3, (agC rfl (agC rfl (agC rfl (agC rfl (agC rfl (agC rfl (agC rfl (agC rfl agN)))))))), rfl, (by simp; omega), (by simp; omega), (by first | assumption | omega | (simp at *; omega)), (by exact lst_snoc e1 e4 (lst_of (an.hi k))), (by exact lst_snoc e2 e5 (lst_of (an.ho k (by omega))))⟩
   omega
  ·
   have aW := aK
   try simp only [BS] at aW
   refine wr 1 [] 2 3 [39, 40] [(2, (.slice J xs.length T)), (3, (.slice N ys.length U))] trivial (by kernel_rfl) rfl fun _ => ?_
   obtain ⟨cl, a0, aQ, aN, cb⟩ := OS.frz ap aq (i := 1) rfl
   have aQ : HS _ _ _ [_, _, V] _ := aQ
   replace O := O.mono a0
   obtain ⟨cm, a1, aR, bB, cc⟩ := OS.frz O aQ (i := 2) rfl
   have aR : HS _ _ _ [_, _, []] _ := aR
   replace aN := aN.mono a1
   refine wk_ret ⟨.inr rfl, _, rfl, J, T, xs, N, U, ys, _, (Fz.le_trans (Fz.le_trans (Fz.le_trans (Fz.le_trans (aS) aZ) av) a0) a1), (HS.forget aR), rfl, aN, bB, (by first | exact fun h => absurd (h.symm.trans hv) (by decide) | exact fun _ => ⟨by omega, by omega, fun b hb => e4 b (by omega), fun b hb => e5 b (by omega)⟩), (by first | exact fun _ => ⟨rfl, rfl⟩ | exact fun h => absurd (hv.symm.trans h) (by decide))⟩
end Go.Proofs.YtknafdcgpaejlaaDoor.md
