/-
 The law that small code needs no spills, by a symbolic run. No condition but that the table lies as laid.
-/
import Derived.Test.YtknafdcgpaejlaaDoorZSND
noncomputable section
namespace Go.Proofs.YtknafdcgpaejlaaDoor.ns
open Go.R
set_option maxRecDepth 10000
set_option linter.unusedVariables false
set_option linter.unusedSimpArgs false
open m1 m2 m3 m4 m5 m6 ma ml mb mc md mf mg mh mi mj na nb nc nd
def ldV (q : Nat) : VInT := ⟨⟨13, (q : Int), 0, 0, 0⟩, []⟩
def ldL (n : Nat) : List VInT := (List.range n).map ldV
theorem ldl_snoc (n : Nat) : ldL n ++ [ldV n] = ldL (n + 1) := by unfold ldL; rw [List.range_succ, List.map_append]; rfl
theorem ldl_len (n : Nat) : (ldL n).length = n := by unfold ldL; rw [List.length_map, List.length_range]
def noI (l : List VInT) : Prop := ∀ y ∈ l, y.i.op ≠ 6
theorem no_snoc {l : List VInT} {x : VInT} (h : noI l) (hx : x.i.op ≠ 6) : noI (l ++ [x]) := fun y hy => by
 rcases List.mem_append.1 hy with hy | hy
 ·
  exact h y hy
 rw [List.mem_singleton] at hy; subst hy; exact hx
theorem no_ld (n : Nat) : noI (ldL n) := fun y hy => by
 obtain ⟨q, _, rfl⟩ := List.mem_map.1 hy
 show (13 : Int) ≠ 6
 decide
theorem vin_ld : (ldL 5).all (eP 0 5) = true := List.all_eq_true.2 fun y hy => by
 obtain ⟨q, hq, rfl⟩ := List.mem_map.1 hy
 have := List.mem_range.1 hq
 exact vin_mk (by decide) (.inr rfl) (by simp [ldV]) rfl (opOK_t (by decide) (show 0 ≤ (q : Int) ∧ (q : Int) < 5 by omega)) (opOK_f (by decide) rfl) (opOK_f (by decide) rfl) rfl
abbrev smC (l : List VInT) : VFnT := ⟨0, 5, [⟨l, 3, 0, 0, 0⟩]⟩
theorem sm_val {l : List VInT} (h : l.all (eP 0 5) = true) : ef (smC l) = true := val_mk (n := 1) (by simp) rfl (by
 have := blk_mk (params := 0) (regs := 5) (nb := 1) (e := 3) (g := 0) (t := 0) (f := 0) h (by omega)
 exact jS (l := []) rfl this)
theorem sm_no {l : List VInT} (h : noI l) (b i : Nat) : (insN (smC l) b i).i.op ≠ 6 := by
 have e : ∀ m : List VInT, noI m → (m.getD i default).i.op ≠ 6 := fun m hm => by
  rw [List.getD_eq_getElem?_getD]
  rcases hi : m[i]? with _ | y
  ·
   show (0 : Int) ≠ 6
   decide
  exact hm y (List.mem_of_getElem? hi)
 cases b with
 | zero => exact e l h
 | succ b => exact e [] (fun y hy => by cases hy)
theorem ld_tr {q r : Nat} {l : List VInT} {S : Nat → Prop} (h : tr (ldV q :: l) S r) : tr l S r ∧ (r : Int) ≠ (q : Int) := by
 have E : aD (ldV q) = [] := rfl
 have I : ab (ldV q) = [(q : Int)] := rfl
 rcases h with h | ⟨h, A⟩
 ·
  rw [E] at h; cases h
 rw [I, List.mem_singleton] at A; exact ⟨h, A⟩
theorem sm_in {l rs : List VInT} (h : l.all (eP 0 5) = true) (e : l = ldL 5 ++ rs) (r : Nat) : ¬ ptS (smC l) 0 0 r := fun hp => by
 have A : (r : Int) < 5 := jr (vF_of (sm_val h)) (b := 0) (i := 0) (show 0 < 1 from by omega) hp
 subst e
 have hp : tr (ldV 0 :: ldV 1 :: ldV 2 :: ldV 3 :: ldV 4 :: rs) (endS (bz (smC (ldL 5 ++ rs)) 0) (LOut (smC (ldL 5 ++ rs)) 0)) r := hp
 obtain ⟨hp, n0⟩ := ld_tr hp
 obtain ⟨hp, E⟩ := ld_tr hp
 obtain ⟨hp, I⟩ := ld_tr hp
 obtain ⟨hp, J⟩ := ld_tr hp
 obtain ⟨_, N⟩ := ld_tr hp
 omega
theorem sm_ins {l : List VInT} (hl : l.length ≤ 35) (j : Nat) : ((smC l).blocks.getD j default).ins.length ≤ 1073741822 := by
 cases j with
 | zero => exact Nat.le_trans hl (by omega)
 | succ j => exact Nat.zero_le _
theorem ex_c (_ : FuncId) {F : Fz} {H : Heap} {R : List Fp} (hs : HS (.of H []) F H [] R) (hT : TB 37 tabC F) : C Tryd.prog 1 (KT 60 15 37 tabC) 15 [] H fun v H' => ∃ (r : Bool), H' = H ∧ v = .bool r ∧ r = true :=
 ⟨0, .bool true, H, by unfold call iG; rw [(hT.heap hs).known (by decide)], true, rfl, rfl, rfl⟩
theorem ex_c_q (e : FuncId) {F : Fz} {H : Heap} {R : List Fp} (hs : HS (.of H []) F H [] R) (hT : TB 37 tabC F) : C Tryd.prog 1 (KT 60 15 37 tabC) 15 [] H fun v H' => v = .bool true ∧ H' = H := cq (ex_c e hs hT) (by rintro _ _ ⟨_, rfl, rfl, rfl⟩; exact ⟨rfl, rfl⟩)
set_option maxHeartbeats 2000000 in
theorem small_law {a_l : Option Addr} {k_l : Nat} (l : List Int) {F : Fz} {H : Heap} {R : List Fp} (hs : HS (.of H []) F H [] R) (hl : SR F (.slice a_l l.length k_l) l) (hT : TB 37 tabC F) : C Tryd.prog 1 (KT 60 15 37 tabC) 7 [(.slice a_l l.length k_l)] H fun v H' => ∃ (r : Bool) (F' : Fz), Fz.le F F' ∧ HS (.of H []) F' H' [] R ∧ v = .bool r ∧ r = true := by
 refine aM Tryd.func7 rfl rfl ?_
 refine am 1 rfl ?_
 refine wR 2 [] 2 2 [] [(2, (.bool false))] trivial rfl fun _ => ?_
 refine aa ?_
 let e3 : Value := (.agg ⟨[(iI 0), (iI 5), (.slice none 0 0)]⟩)
 refine wRo 1 0 [] 10 10 [] [(10, e3)] trivial rfl fun _ => ?_
 refine aK (bx hs rfl) rfl rfl ?_
 rintro _ H4 _ ⟨b3, rfl, (hp : HS _ _ _ [[(b3, .cells [(iI 0), (iI 0), (.slice none 0 0)] none false)]] _), _⟩
 refine aT (aP (q := 0) hp rfl rfl rfl rfl rfl rfl rfl rfl rfl) rfl ?_
 rintro _ H5 _ ⟨(hq : HS _ _ _ [[(b3, .cells [(iI 0), (iI 5), (.slice none 0 0)] none false)]] _), _⟩
 refine aj 2 rfl ?_
 refine aa ?_
 refine aK (bx hq rfl) rfl rfl ?_
 rintro _ H7 _ ⟨b6, rfl, (hr : HS _ _ _ [_, [(b6, .cells [(.slice none 0 0), (iI 0), (iI 0), (iI 0), (iI 0)] none false)]] _), _⟩
 refine aj 3 rfl ?_
 refine wR 2 [] 1 0 [5] [(5, (iI 0))] trivial rfl fun _ => ?_
 have bb := HS.snoc hr
 have bb : HS _ _ _ [_, _, []] _ := bb
 let e4 : Fp := [(b3, .cells [(iI 0), (iI 5), (.slice none 0 0)] none false)]
 refine ak (fun (mm : Nat) f H' => ∃ (fi : List VInT) (r : Nat) (V : Fp) (N : Option Addr) (O : Nat) (F' : Fz), Fz.le F F' ∧ HS (Base.of H []) F' H' [e4, [(b6, .cells [(.slice N fi.length O), (iI 0), (iI 0), (iI 0), (iI 0)] none false)], V] R ∧ OS F' (.slice N fi.length O) fi V ∧ aH f [(0, (.slice a_l l.length k_l)), (2, (.bool false)), (3, (.pointer (some ⟨b3, 0, none⟩))), (4, (.pointer (some ⟨b6, 0, none⟩))), (5, (iI (r : Int)))] ∧ mm = 5 - r ∧ (fi = ldL r) ∧ (r ≤ 5)) _ ⟨([] : List VInT), 0, [], none, 0, _, fR, bb, (OS.nil : OS _ (.slice none 0 0) ([] : List VInT) []), (agC rfl (agC rfl (agC rfl (agC rfl (agC rfl agN))))), rfl, (by rfl), (by first | assumption | omega | (simp at *; omega))⟩ ?_
 rintro jw f9 H9 ⟨fi, r, V, N, O, F9, b1, b2, a3, et, rfl, w1, w2⟩ ht
 refine aq _ et (fun _ => ?_)
 clear et
 replace hT := hT.mono b1
 replace hl := hl.mono b1
 have hfl : fi.length = r := by rw [w1]; exact ldl_len r
 refine am 2 rfl ?_
 refine wR 1 [(2, .o (iI 5))] 11 14 [] [(14, (.bool (decide ((r : Int) < 5))))] (vA (ql 3 1 (HS.hc b2 (i := 0) rfl) rfl rfl) trivial) rfl fun _ => ?_
 refine au 3 6 (v := (decide ((r : Int) < 5))) rfl rfl rfl rfl (fun a6 => ?_) (fun a6 => ?_)
 ·
  have b9 := a6
  try simp only [BS] at b9
  refine aa ?_
  let e5 : Value := (.agg ⟨[(iI 13), (iI (r : Int)), (iI 0), (iI 0), (iI 0), (.slice none 0 0)]⟩)
  refine wRo 5 0 [(1, .o (.slice N fi.length O))] 17 21 [] [(18, (.slice N fi.length O)), (21, e5)] (vA (ql 46 0 (HS.hc b2 (i := 1) rfl) rfl rfl) trivial) rfl fun _ => ?_
  refine aK (bF (α := VInT) (ps := [(0, e5)]) (cells := [(iI 13), (iI (r : Int)), (iI 0), (iI 0), (iI 0), (.slice none 0 0)]) ([(⟨(⟨13, (r : Int), 0, 0, 0⟩ : InsT), ([] : List Int)⟩ : VInT)] : List VInT) b2 rfl rfl rfl (by kernel_rfl) ⟨[(iI 13), (iI (r : Int)), (iI 0), (iI 0), (iI 0), (.slice none 0 0)], [], rfl, ⟨none, 0, rfl, by first | (dsimp only; omega) | omega, by first | (dsimp only; omega) | omega, by first | (dsimp only; omega) | omega, by first | (dsimp only; omega) | omega, by first | (dsimp only; omega) | omega, SR.nil⟩, rfl⟩ rfl) rfl rfl ?_
  rintro _ h4 hu ⟨i1, jc, rfl, f0, (c4 : HS _ _ _ [_, [(b6, .cells [(.slice N fi.length O), (iI 0), (iI 0), (iI 0), (iI 0)] none false)], V, hu] _), _⟩
  refine aK (ca (α := VInT) (q := 2) a3 c4 rfl rfl rfl (OS.sv f0 c4 (i := 3) rfl) rfl rfl rfl rfl rfl rfl rfl (by first | omega | (simp only [List.length_append, List.length_cons, List.length_nil]; omega))) rfl rfl ?_
  rintro _ h5 e1 ⟨d2, ex, rfl, f1, (go : HS _ _ _ [_, _, e1, _] _), _⟩
  refine wRo 1 7 [] 24 24 [] [(24, (.pointer (some ⟨b6, 0, none⟩)))] trivial rfl fun _ => ?_
  refine aT (aP (q := 1) go rfl rfl rfl rfl rfl rfl rfl rfl rfl) rfl ?_
  rintro _ h6 _ ⟨(g0 : HS _ _ _ [_, [(b6, .cells [(.slice d2 (fi ++ ([(⟨(⟨13, (r : Int), 0, 0, 0⟩ : InsT), ([] : List Int)⟩ : VInT)] : List VInT)).length ex), (iI 0), (iI 0), (iI 0), (iI 0)] none false)], _, _] _), _⟩
  refine aj 2 rfl ?_
  refine wR 1 [] 15 16 [5] [(5, (iI ((r : Int) + 1)))] (vA (vi (n := (r : Int) + 1) (by first | (dsimp only; omega) | omega)) trivial) rfl fun _ => ?_
  refine ht _ _ _ ?_ ⟨fi ++ ([(⟨(⟨13, (r : Int), 0, 0, 0⟩ : InsT), ([] : List Int)⟩ : VInT)] : List VInT), r + 1, e1, d2, ex, _, (b1), (HS.sub g0 (List.sublist_append_left _ _)), f1, (agC rfl (agC rfl (agC rfl (agC rfl (agC rfl agN))))), rfl, (by rw [w1]; exact ldl_snoc r), (by first | assumption | omega | (simp at *; omega))⟩
  omega
 have b9 := a6
 try simp only [BS] at b9
 refine wR 2 [] 1 0 [6] [(6, (iI 0))] trivial rfl fun _ => ?_
 refine ak (fun (mm : Nat) f H' => ∃ (xi : List VInT) (k : Nat) (T : Fp) (A : Option Addr) (E : Nat) (F' : Fz), Fz.le F9 F' ∧ HS (Base.of H []) F' H' [e4, [(b6, .cells [(.slice A xi.length E), (iI 0), (iI 0), (iI 0), (iI 0)] none false)], T] R ∧ OS F' (.slice A xi.length E) xi T ∧ aH f [(0, (.slice a_l l.length k_l)), (2, (.bool false)), (3, (.pointer (some ⟨b3, 0, none⟩))), (4, (.pointer (some ⟨b6, 0, none⟩))), (6, (iI (k : Int)))] ∧ mm = 30 - k ∧ (∃ rs, xi = ldL 5 ++ rs) ∧ (xi.length ≤ 5 + k) ∧ (xi.all (eP 0 5) = true) ∧ (noI xi) ∧ (k ≤ 30)) _ ⟨fi, 0, V, N, O, _, fR, b2, a3, (agC rfl (agC rfl (agC rfl (agC rfl (agC rfl agN))))), rfl, (by exact ⟨[], by rw [w1, show r = 5 by omega, List.append_nil]⟩), (by omega), (by rw [w1, show r = 5 by omega]; exact vin_ld), (by rw [w1]; exact no_ld r), (by first | assumption | omega | (simp at *; omega))⟩ ?_
 rintro hR ja h7 ⟨xi, k, T, A, E, hX, a0, an, U, c3, rfl, z0, z1, z2, z3, z4⟩ c8
 refine aq _ c3 (fun _ => ?_)
 clear c3
 replace hT := hT.mono a0
 replace hl := hl.mono a0
 refine am 2 rfl ?_
 refine wR 1 [] 25 32 [] [(32, (.bool ((decide ((k : Int) < (l.length : Int))) && (decide ((k : Int) < 30)))))] trivial rfl fun _ => ?_
 refine au 4 5 (v := ((decide ((k : Int) < (l.length : Int))) && (decide ((k : Int) < 30)))) rfl rfl rfl rfl (fun a7 => ?_) (fun a7 => ?_)
 ·
  have cc := a7
  try simp only [BS] at cc
  refine bL rfl ?_
  refine fm (.slice a_l l.length k_l) rfl rfl rfl ?_
  refine fm (iI (k : Int)) rfl rfl rfl ?_
  refine aO (v := (.pointer (some ⟨sB (.slice a_l l.length k_l), sO (.slice a_l l.length k_l) + k * Rp.sz Int, none⟩))) (id := .v) (cz (α := Int) (j := (k : Int)) rfl rfl rfl rfl (SR.sv hl an.log0) (by first | (dsimp only; omega) | omega) (by first | (dsimp only; omega) | omega)) rfl rfl (dD rfl) (du _) ?_
  obtain ⟨hE, f5, fd⟩ := Sv.at (SR.sv hl an.log0) (aY (x := (0 : Int)) (show k < l.length from by first | (dsimp only; omega) | omega))
  obtain ⟨rfl, hz⟩ := f5
  refine aO (v := (iI (l.getD k 0))) (id := .l (sB (.slice a_l l.length k_l))) (b8 (i := 0) rfl rfl fd rfl rfl) rfl rfl (ey rfl) (⟨.inl rfl, ⟨.inl rfl, ⟨.inl rfl, trivial⟩⟩⟩) ?_
  refine aO (v := e3) (id := .l b3) (ap_ldN (i := 0) rfl rfl rfl (HS.hc an.log0 (i := 0) rfl) rfl rfl rfl) rfl rfl (ey rfl) (⟨.inr trivial, ⟨.inr trivial, ⟨.inr trivial, ⟨.inr trivial, trivial⟩⟩⟩⟩) ?_
  refine eg (W := []) (aB rfl rfl rfl) rfl rfl rfl (m4.vi_c 15 (l.getD k 0) (⟨0, 5, ([] : List BlkT)⟩ : VFnT) (HS.call an.log0) (by first | (dsimp only; omega) | omega) (by first | (dsimp only; omega) | omega) (by first | (dsimp only; omega) | omega) hT (by first | (dsimp only; omega) | omega)) (⟨.inl rfl, ⟨.inl rfl, ⟨.inl rfl, ⟨.inl rfl, ⟨.inl rfl, trivial⟩⟩⟩⟩⟩) ?_
  rintro _ hk ⟨I, ag, al, h0, a9, Z, rfl, g9, ha, hb, he, hf, b4, jb, hI⟩
  refine ⟨Wr.did Z.log, fun g6 dt => ?_⟩
  replace Z := HS.back an.log0 rfl Z
  replace Z := HS.lg Z an dt
  generalize ({ hk with log := g6 } : Heap) = hB at Z ⊢
  have Z : HS _ _ _ [_, [(b6, .cells [(.slice A xi.length E), (iI 0), (iI 0), (iI 0), (iI 0)] none false)], T] _ := Z
  replace U := U.mono a9
  refine dC (id := .a) (bx Z.log0 rfl) rfl rfl (fun _ _ _ _ => did_a rfl rfl rfl) (⟨.inr trivial, ⟨.inr trivial, ⟨.inr trivial, ⟨.inr trivial, ⟨.inr trivial, ⟨.inr trivial, trivial⟩⟩⟩⟩⟩⟩) ?_
  rintro _ hm _ ⟨b7, rfl, ar, _⟩ g7 dv
  replace ar := HS.lg ar Z dv
  generalize ({ hm with log := g7 } : Heap) = hC at ar ⊢
  have ar : HS _ _ _ [_, _, _, [(b7, .cells [(iI 0), (iI 0), (iI 0), (iI 0), (iI 0), (.slice none 0 0)] none false)]] _ := ar
  refine wf_rk (id := .x [b7]) (aP (q := 3) ar.log0 rfl rfl rfl rfl rfl rfl rfl rfl rfl) rfl (by rintro _ _ _ ⟨_, hwr⟩; exact d3 rfl rfl (Wr.did hwr)) (⟨.inl rfl, ⟨.inl rfl, ⟨.inl rfl, ⟨.inl rfl, ⟨.inl rfl, ⟨.inl rfl, ⟨.inl rfl, trivial⟩⟩⟩⟩⟩⟩⟩) ?_
  rintro _ hn _ ⟨ad, _⟩ g8 d1
  replace ad := HS.lg ad ar d1
  generalize ({ hn with log := g8 } : Heap) = hD at ad ⊢
  have ad : HS _ _ _ [_, _, _, [(b7, .cells [(iI I.i.op), (iI I.i.a), (iI I.i.b), (iI I.i.c), (iI I.i.n), (.slice ag I.args.length al)] none false)]] _ := ad
  refine d8 ?_
  refine am 2 rfl ?_
  refine wR 1 [(2, .o (iI I.i.op))] 41 44 [] [(44, (.bool (I.i.op != 6)))] (vA (ql 3 0 (HS.hc ad (i := 3) rfl) rfl rfl) trivial) rfl fun _ => ?_
  refine au 0 2 (v := (I.i.op != 6)) rfl rfl rfl rfl (fun a8 => ?_) (fun a8 => ?_)
  ·
   have ch := a8
   try simp only [BS] at ch
   refine aa ?_
   let dl : Value := (.agg ⟨[(iI I.i.op), (iI I.i.a), (iI I.i.b), (iI I.i.c), (iI I.i.n), (.slice ag I.args.length al)]⟩)
   refine wRo 3 0 [(1, .o (.slice A xi.length E)), (2, .o dl)] 45 47 [] [(46, (.slice A xi.length E)), (47, dl)] (vA (ql 46 0 (HS.hc ad (i := 1) rfl) rfl rfl) (vA (qn 52 0 6 (HS.hc ad (i := 3) rfl) rfl rfl rfl rfl) trivial)) rfl fun _ => ?_
   refine aK (bF (α := VInT) (ps := [(0, dl)]) (cells := [(iI I.i.op), (iI I.i.a), (iI I.i.b), (iI I.i.c), (iI I.i.n), (.slice ag I.args.length al)]) ([I] : List VInT) ad rfl rfl rfl (by kernel_rfl) ⟨[(iI I.i.op), (iI I.i.a), (iI I.i.b), (iI I.i.c), (iI I.i.n), (.slice ag I.args.length al)], [], rfl, ⟨ag, al, rfl, by first | (dsimp only; omega) | omega, by first | (dsimp only; omega) | omega, by first | (dsimp only; omega) | omega, by first | (dsimp only; omega) | omega, by first | (dsimp only; omega) | omega, b4⟩, rfl⟩ rfl) rfl rfl ?_
   rintro _ h8 hv ⟨i2, jq, rfl, f2, (c5 : HS _ _ _ [_, _, _, _, hv] _), _⟩
   refine aK (ca (α := VInT) (q := 2) U c5 rfl rfl rfl (OS.sv f2 c5 (i := 4) rfl) rfl rfl rfl rfl rfl rfl rfl (by first | omega | (simp only [List.length_append, List.length_cons, List.length_nil]; omega))) rfl rfl ?_
   rintro _ h9 e2 ⟨ea, ez, rfl, f3, (g2 : HS _ _ _ [_, _, e2, _, _] _), _⟩
   refine wRo 1 5 [] 50 50 [] [(50, (.pointer (some ⟨b6, 0, none⟩)))] trivial rfl fun _ => ?_
   refine aT (aP (q := 1) g2 rfl rfl rfl rfl rfl rfl rfl rfl rfl) rfl ?_
   rintro _ ib _ ⟨(g3 : HS _ _ _ [_, [(b6, .cells [(.slice ea (xi ++ ([I] : List VInT)).length ez), (iI 0), (iI 0), (iI 0), (iI 0)] none false)], _, _, _] _), _⟩
   refine aj 2 rfl ?_
   refine wR 1 [] 33 34 [6] [(6, (iI ((k : Int) + 1)))] (vA (vi (n := (k : Int) + 1) (by first | (dsimp only; omega) | omega)) trivial) rfl fun _ => ?_
   refine c8 _ _ _ ?_ ⟨xi ++ ([I] : List VInT), k + 1, e2, ea, ez, _, (fT (a0) a9), (HS.sub g3 (List.sublist_append_left _ _)), f3, (agC rfl (agC rfl (agC rfl (agC rfl (agC rfl agN))))), rfl, (by first | exact z0 | (obtain ⟨rs, e⟩ := z0; exact ⟨rs ++ [_], by rw [e, List.append_assoc]⟩)), (by first | omega | (rw [List.length_append, List.length_singleton]; omega)), (by first | exact z2 | exact jS z2 (by assumption)), (by first | exact z3 | exact no_snoc z3 (by assumption)), (by first | assumption | omega | (simp at *; omega))⟩
   omega
  have ch := a8
  try simp only [BS] at ch
  refine wR 1 [] 33 34 [6] [(6, (iI ((k : Int) + 1)))] (vA (vi (n := (k : Int) + 1) (by first | (dsimp only; omega) | omega)) trivial) rfl fun _ => ?_
  refine c8 _ _ _ ?_ ⟨xi, k + 1, T, A, E, _, (fT (a0) a9), (HS.sub ad (List.sublist_append_left _ _)), U, (agC rfl (agC rfl (agC rfl (agC rfl (agC rfl agN))))), rfl, (by first | exact z0 | (obtain ⟨rs, e⟩ := z0; exact ⟨rs ++ [_], by rw [e, List.append_assoc]⟩)), (by first | omega | (rw [List.length_append, List.length_singleton]; omega)), (by first | exact z2 | exact jS z2 (by assumption)), (by first | exact z3 | exact no_snoc z3 (by assumption)), (by first | assumption | omega | (simp at *; omega))⟩
  omega
 have cc := a7
 try simp only [BS] at cc
 refine aa ?_
 refine wRo 1 0 [] 51 51 [] [(51, (.pointer (some ⟨b6, 1, none⟩)))] trivial rfl fun _ => ?_
 refine aT (aP (q := 1) an rfl rfl rfl rfl rfl rfl rfl rfl rfl) rfl ?_
 rintro _ ih _ ⟨(c6 : HS _ _ _ [_, [(b6, .cells [(.slice A xi.length E), (iI 3), (iI 0), (iI 0), (iI 0)] none false)], T] _), _⟩
 refine aj 2 rfl ?_
 refine aa ?_
 let dn : Value := (.agg ⟨[(.slice A xi.length E), (iI 3), (iI 0), (iI 0), (iI 0)]⟩)
 refine wRo 1 0 [(0, .o dn)] 52 52 [] [(52, dn)] (vA (qn 48 0 5 (HS.hc c6 (i := 1) rfl) rfl rfl rfl rfl) trivial) rfl fun _ => ?_
 obtain ⟨h1, ci, bk, f6, hK⟩ := OS.frz U c6 (i := 2) rfl
 have bk : HS _ _ _ [_, _, []] _ := bk
 refine aK (bF (α := BlkT) (ps := [(0, dn)]) (cells := [(.slice A xi.length E), (iI 3), (iI 0), (iI 0), (iI 0)]) ([(⟨xi, 3, 0, 0, 0⟩ : BlkT)] : List BlkT) bk rfl rfl rfl (by kernel_rfl) ⟨[(.slice A xi.length E), (iI 3), (iI 0), (iI 0), (iI 0)], [], rfl, ⟨A, E, rfl, by first | (dsimp only; omega) | omega, by first | (dsimp only; omega) | omega, by first | (dsimp only; omega) | omega, by first | (dsimp only; omega) | omega, f6⟩, rfl⟩ rfl) rfl rfl ?_
 rintro _ ik hw ⟨em, e0, rfl, f4, (g4 : HS _ _ _ [_, _, _, hw] _), _⟩
 refine wRo 1 2 [] 54 54 [] [(54, (.pointer (some ⟨b3, 2, none⟩)))] trivial rfl fun _ => ?_
 refine aT (aP (q := 0) g4 rfl rfl rfl rfl rfl rfl rfl rfl rfl) rfl ?_
 rintro _ il _ ⟨(c7 : HS _ _ _ [[(b3, .cells [(iI 0), (iI 5), (.slice em ([(⟨xi, 3, 0, 0, 0⟩ : BlkT)] : List BlkT).length e0)] none false)], _, _, _] _), _⟩
 refine aj 2 rfl ?_
 obtain ⟨rs, hrs⟩ := z0
 have hsv := sm_val z2
 have hsn := sm_no z3
 have hsi := sm_in z2 hrs
 have hsj := sm_ins (l := xi) (by omega)
 refine aa ?_
 let e6 : Value := (.agg ⟨[(iI 0), (iI 5), (.slice em ([(⟨xi, 3, 0, 0, 0⟩ : BlkT)] : List BlkT).length e0)]⟩)
 refine wRo 1 0 [(0, .o e6)] 56 56 [] [(56, e6)] (vA (qn 24 0 3 (HS.hc c7 (i := 0) rfl) rfl rfl rfl rfl) trivial) rfl fun _ => ?_
 obtain ⟨h2, co, a4, f8, hQ⟩ := OS.frz f4 c7 (i := 3) rfl
 have a4 : HS _ _ _ [_, _, _, []] _ := a4
 replace hT := (hT.mono ci).mono co
 refine aE (aB rfl rfl rfl) rfl rfl (nd.alloc_c 15 (⟨0, 5, ([(⟨xi, 3, 0, 0, 0⟩ : BlkT)] : List BlkT)⟩ : VFnT) (HS.call a4) (by first | (dsimp only; omega) | omega) (by first | (dsimp only; omega) | omega) f8 hT (by first | exact hsv | exact hsn | exact hsi | exact hsj | (show (5 : Int) ≤ 5; decide)) (by first | exact hsv | exact hsn | exact hsi | exact hsj | (show (5 : Int) ≤ 5; decide)) (by first | exact hsv | exact hsn | exact hsi | exact hsj | (show (5 : Int) ≤ 5; decide)) (by first | exact hsv | exact hsn | exact hsi | exact hsj | (show (5 : Int) ≤ 5; decide)) (by first | exact hsv | exact hsn | exact hsi | exact hsj | (show (5 : Int) ≤ 5; decide))) ?_
 rintro _ it ⟨J, ax, a1, ay, a2, i3, h3, c0, b0, rfl, hg, hh, hj, rfl, hF, hG, hH⟩
 replace b0 : HS _ _ _ [_, _, _, _] _ := HS.back a4 rfl b0
 replace hT := hT.mono c0
 refine wRo 3 2 [] 58 59 [55] [(58, (.agg ⟨[(.slice ax J.locs.length a1), (.slice ay J.spi.length a2), (iI J.slots)]⟩)), (59, (iI 0))] trivial rfl fun _ => ?_
 refine aK (bx b0 rfl) rfl rfl ?_
 rintro _ iv _ ⟨es, rfl, (g5 : HS _ _ _ [_, _, _, _, [(es, .cells [(.slice none 0 0), (.slice none 0 0), (iI 0)] none false)]] _), _⟩
 refine aT (aP (q := 4) g5 rfl rfl rfl rfl rfl rfl rfl rfl rfl) rfl ?_
 rintro _ iz _ ⟨(aw : HS _ _ _ [_, _, _, _, [(es, .cells [(.slice ax J.locs.length a1), (.slice ay J.spi.length a2), (iI J.slots)] none false)]] _), _⟩
 refine wa (iI 0) rfl rfl rfl ?_
 refine aj 2 rfl ?_
 have q1 : (J.locs).length = 5 := by assumption
 have q2 : J.spi = [] := by assumption
 have q3 : J.slots = 0 := by assumption
 refine wR 1 [(4, .o (.slice ay J.spi.length a2)), (10, .o (iI J.slots)), (15, .o (.slice ax J.locs.length a1)), (18, .o (iI 5)), (22, .o (.bool true))] 60 83 [2] [(2, (.bool ((((true && ((J.spi.length : Int) == 0)) && (J.slots == 0)) && ((J.locs.length : Int) == 5)) && true)))] (vA (fun (g1 : true = true) => (ql 38 1 (HS.hc aw (i := 4) rfl) rfl rfl)) (vA (fun (g1 : (true && ((J.spi.length : Int) == 0)) = true) => (ql 3 2 (HS.hc aw (i := 4) rfl) rfl rfl)) (vA (fun (g1 : ((true && ((J.spi.length : Int) == 0)) && (J.slots == 0)) = true) => (ql 37 0 (HS.hc aw (i := 4) rfl) rfl rfl)) (vA (fun (g1 : ((true && ((J.spi.length : Int) == 0)) && (J.slots == 0)) = true) => (ql 3 1 (HS.hc aw (i := 0) rfl) rfl rfl)) (vA (fun (g1 : (((true && ((J.spi.length : Int) == 0)) && (J.slots == 0)) && ((J.locs.length : Int) == 5)) = true) => (ex_c_q 15 (HS.call aw) hT)) trivial))))) rfl fun _ => ?_
 refine az ⟨.inr rfl, _, rfl, ((((true && ((J.spi.length : Int) == 0)) && (J.slots == 0)) && ((J.locs.length : Int) == 5)) && true), _, (fT (fT (fT (fT (b1) a0) ci) co) c0), (HS.forget aw), rfl, (by simp [q1, q2, q3])⟩
end Go.Proofs.YtknafdcgpaejlaaDoor.ns
