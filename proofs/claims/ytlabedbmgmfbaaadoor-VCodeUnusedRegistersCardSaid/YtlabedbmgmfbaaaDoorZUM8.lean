/-
 Which programs of virtual code are valid: the program and the reference, each by a symbolic run. No condition but bounds on lengths.
-/
import Derived.Test.YtlabedbmgmfbaaaDoorZUM7
noncomputable section
namespace Go.Proofs.YtlabedbmgmfbaaaDoor.m8
open Go.R
set_option maxRecDepth 10000
set_option linter.unusedVariables false
open m1 m2 m3 m4 m5 m6 m7
set_option maxHeartbeats 2000000 in
theorem vprog_c (ex : FuncId) {a_l : Option Addr} {k_l : Nat} (l : List VFnT) {a_lens : Option Addr} {k_lens : Nat} (lens : List Int) {F : Fz} {H : Heap} {R : List Fp} (hs : HS (.of H []) F H [] R) (hl : SR F (.slice a_l l.length k_l) l) (hlens : SR F (.slice a_lens lens.length k_lens) lens) (hT : TB 37 tabC F) (hbd : lens.length ≤ 1073741824 ∧ ∀ k j, ((l.getD k default).blocks.getD j default).ins.length ≤ 9223372036854775807) : C Tryd.prog 1 (KT 60 ex 37 tabC) 41 [(.slice a_l l.length k_l), (.slice a_lens lens.length k_lens)] H fun v H' => ∃ (r : Bool) (F' : Fz), Fz.le F F' ∧ HS (.of H []) F' H' [] R ∧ v = .bool r ∧ r = vpV l lens := by
 refine aK Tryd.func41 rfl rfl ?_
 refine aw 1 rfl ?_
 refine wR 3 [] 4 4 [] [(4, (.bool false))] trivial rfl fun _ => ?_
 refine wR 1 [] 13 25 [] [(25, (.bool (((decide ((l.length : Int) < 1)) || (decide ((8 : Int) < (l.length : Int)))) || (decide ((4 : Int) < (lens.length : Int))))))] trivial rfl fun _ => ?_
 refine au 1 3 (v := (((decide ((l.length : Int) < 1)) || (decide ((8 : Int) < (l.length : Int)))) || (decide ((4 : Int) < (lens.length : Int))))) rfl rfl rfl rfl (fun c3 => ?_) (fun c3 => ?_)
 ·
  try simp only [BS] at c3
  refine wR 1 [] 4 4 [] [(4, (.bool false))] trivial rfl fun _ => ?_
  refine am ⟨.inr rfl, _, rfl, false, _, fR, (HS.forget hs), rfl, (by first | exact hR (by omega) | exact hU (br (k := q) (by omega) (decide_eq_false (show ¬ (1 ≤ lens.getD q 0 ∧ lens.getD q 0 ≤ 16) by omega))) | exact vp_f (br (k := k) (by omega) (hZ (show ey (l.getD k default) = false by assumption))) | exact hO (k := k) (b := b) (i := i) (by omega) (by omega) (by omega) (ff (by omega)) | exact hL (by omega) (bw hqa (by omega)) (bw hka (by omega)))⟩
 ·
  try simp only [BS] at c3
  refine wR 2 [] 26 28 [] [(26, (.slice a_lens lens.length k_lens)), (27, (iI (lens.length : Int))), (28, (iI 0))] trivial rfl fun _ => ?_
  refine aL (fun (mm : Nat) f H' => ∃ (q : Nat) (F' : Fz), Fz.le F F' ∧ HS (Base.of H []) F' H' [] R ∧ bc f [(0, (.slice a_l l.length k_l)), (1, (.slice a_lens lens.length k_lens)), (26, (.slice a_lens lens.length k_lens)), (27, (iI (lens.length : Int))), (28, (iI (q : Int)))] ∧ mm = lens.length - q ∧ (q ≤ lens.length) ∧ (∀ j, j < q → lenOK (lens.getD j default) = true)) _ ⟨0, _, fR, hs, (agC rfl (agC rfl (agC rfl (agC rfl (agC rfl agN))))), rfl, (by first | assumption | omega | (simp at *; omega)), (by exact dI)⟩ ?_
  rintro hz f6 H6 ⟨q, F6, T, a4, dl, rfl, hq, hqa⟩ es
  refine aO _ dl (fun _ => ?_)
  clear dl
  replace hT := hT.mono T
  replace hl := hl.mono T
  replace hlens := hlens.mono T
  refine aw 1 rfl ?_
  refine wR 2 [] 29 29 [] [(29, (.bool (decide ((q : Int) < (lens.length : Int)))))] trivial rfl fun _ => ?_
  refine au 4 6 (v := (decide ((q : Int) < (lens.length : Int)))) rfl rfl rfl rfl (fun c8 => ?_) (fun c8 => ?_)
  ·
   try simp only [BS] at c8
   obtain ⟨hu, dn⟩ := Sv.view (SR.sv hlens a4)
   have hy := fI (dn q)
   refine wR 2 [(1, .o (iI (lens.getD q 0)))] 30 31 [6] [(6, (iI (lens.getD q 0)))] (vA (Sv.ix (j := (q : Int)) (SR.sv hlens a4) (by omega) (by omega)) (vA (ql 3 0 (vI (dn q) (by omega)) rfl rfl) trivial)) rfl fun _ => ?_
   refine wR 1 [] 32 37 [] [(37, (.bool ((decide ((lens.getD q 0) < 1)) || (decide ((16 : Int) < (lens.getD q 0))))))] trivial rfl fun _ => ?_
   refine au 1 2 (v := ((decide ((lens.getD q 0) < 1)) || (decide ((16 : Int) < (lens.getD q 0))))) rfl rfl rfl rfl (fun b1 => ?_) (fun b1 => ?_)
   ·
    try simp only [BS] at b1
    refine wR 1 [] 4 4 [] [(4, (.bool false))] trivial rfl fun _ => ?_
    refine am ⟨.inr rfl, _, rfl, false, _, (T), (HS.forget a4), rfl, (by first | exact hR (by omega) | exact hU (br (k := q) (by omega) (decide_eq_false (show ¬ (1 ≤ lens.getD q 0 ∧ lens.getD q 0 ≤ 16) by omega))) | exact vp_f (br (k := k) (by omega) (hZ (show ey (l.getD k default) = false by assumption))) | exact hO (k := k) (b := b) (i := i) (by omega) (by omega) (by omega) (ff (by omega)) | exact hL (by omega) (bw hqa (by omega)) (bw hka (by omega)))⟩
   ·
    try simp only [BS] at b1
    refine wR 1 [] 28 28 [38] [(28, (iI ((q : Int) + 1)))] (vA (vi (n := (q : Int) + 1) (by omega)) trivial) rfl fun _ => ?_
    refine es _ _ _ ?_ ⟨q + 1, _, (T), a4, (agC rfl (agC rfl (agC rfl (agC rfl (agC rfl agN))))), rfl, (by first | assumption | omega | (simp at *; omega)), (by exact bM hqa (decide_eq_true (show 1 ≤ lens.getD q 0 ∧ lens.getD q 0 ≤ 16 by omega)))⟩
    omega
  ·
   try simp only [BS] at c8
   refine wR 2 [] 39 41 [] [(39, (.slice a_l l.length k_l)), (40, (iI (l.length : Int))), (41, (iI 0))] trivial rfl fun _ => ?_
   refine aL (fun (mm : Nat) f H' => ∃ (k : Nat) (F' : Fz), Fz.le F6 F' ∧ HS (Base.of H []) F' H' [] R ∧ bc f [(0, (.slice a_l l.length k_l)), (1, (.slice a_lens lens.length k_lens)), (39, (.slice a_l l.length k_l)), (40, (iI (l.length : Int))), (41, (iI (k : Int)))] ∧ mm = l.length - k ∧ (k ≤ l.length) ∧ (∀ j, j < k → vpF l (lens.length : Int) (l.getD j default) = true)) _ ⟨0, _, fR, a4, (agC rfl (agC rfl (agC rfl (agC rfl (agC rfl agN))))), rfl, (by first | assumption | omega | (simp at *; omega)), (by exact dI)⟩ ?_
   rintro g4 hv hf ⟨k, ha, O, av, cl, rfl, hk, hka⟩ d2
   refine aO _ cl (fun _ => ?_)
   clear cl
   replace hT := hT.mono O
   replace hl := hl.mono O
   refine aw 1 rfl ?_
   refine wR 2 [] 42 42 [] [(42, (.bool (decide ((k : Int) < (l.length : Int)))))] trivial rfl fun _ => ?_
   refine au 4 5 (v := (decide ((k : Int) < (l.length : Int)))) rfl rfl rfl rfl (fun b2 => ?_) (fun b2 => ?_)
   ·
    try simp only [BS] at b2
    refine ah ?_
    obtain ⟨A, c4⟩ := Sv.view (SR.sv hl av)
    obtain ⟨et, ez, J⟩ := VFnT.fx (c4 k)
    let ag : Value := (.agg ⟨[(iI (l.getD k default).params), (iI (l.getD k default).regs), (.slice (cA (A k) 2) (l.getD k default).blocks.length (cK (A k) 2))]⟩)
    refine wRo 2 0 [(1, .o ag)] 43 44 [] [(44, ag)] (vA (Sv.ix (j := (k : Int)) (SR.sv hl av) (by omega) (by omega)) (vA (qn 24 0 3 (VFnT.vw (c4 k) (by omega)) rfl rfl rfl rfl) trivial)) rfl fun _ => ?_
    refine bf (bY av rfl) rfl rfl ?_
    rintro _ hg _ ⟨a8, rfl, a5, _⟩
    have a5 : HS _ _ _ [[(a8, .cells [(iI 0), (iI 0), (.slice none 0 0)] none false)]] _ := a5
    refine aN (aC (q := 0) a5 rfl rfl rfl rfl rfl rfl rfl rfl rfl) rfl ?_
    rintro _ hh _ ⟨aq, _⟩
    let c9 : Fp := [(a8, .cells [(iI (l.getD k default).params), (iI (l.getD k default).regs), (.slice (cA (A k) 2) (l.getD k default).blocks.length (cK (A k) 2))] none false)]
    have aq : HS _ _ _ [c9] _ := aq
    refine ao 3 rfl ?_
    refine ah ?_
    refine wRo 1 0 [(0, .o ag)] 45 45 [] [(45, ag)] (vA (qn 24 0 3 (HS.hc aq (i := 0) rfl) rfl rfl rfl rfl) trivial) rfl fun _ => ?_
    refine aJ (ay rfl rfl rfl) rfl rfl (m3.valid_c ex (⟨(l.getD k default).params, (l.getD k default).regs, (l.getD k default).blocks⟩ : VFnT) (HS.call aq) (by omega) (by omega) J hT (by exact fun j => hbd.2 k j)) ?_
    rintro _ hj ⟨hA, ei, U, Z, rfl, rfl⟩
    replace Z := HS.back aq rfl Z
    have Z : HS _ _ _ [_] _ := Z
    replace hl := hl.mono U
    replace J := J.mono U
    refine wRo 1 2 [] 47 47 [] [(47, (.bool (!(ey (⟨(l.getD k default).params, (l.getD k default).regs, (l.getD k default).blocks⟩ : VFnT)))))] trivial rfl fun _ => ?_
    refine ao 1 rfl ?_
    refine au 1 2 (v := (!(ey (⟨(l.getD k default).params, (l.getD k default).regs, (l.getD k default).blocks⟩ : VFnT)))) rfl rfl rfl rfl (fun bb => ?_) (fun bb => ?_)
    ·
     try simp only [BS] at bb
     refine wR 1 [] 4 4 [] [(4, (.bool false))] trivial rfl fun _ => ?_
     refine am ⟨.inr rfl, _, rfl, false, _, (fT (fT (T) O) U), (HS.forget Z), rfl, (by first | exact hR (by omega) | exact hU (br (k := q) (by omega) (decide_eq_false (show ¬ (1 ≤ lens.getD q 0 ∧ lens.getD q 0 ≤ 16) by omega))) | exact vp_f (br (k := k) (by omega) (hZ (show ey (l.getD k default) = false by assumption))) | exact hO (k := k) (b := b) (i := i) (by omega) (by omega) (by omega) (ff (by omega)) | exact hL (by omega) (bw hqa (by omega)) (bw hka (by omega)))⟩
    ·
     try simp only [BS] at bb
     have hval : ey (l.getD k default) = true := bb
     have hvb := val_bd hval
     refine wR 2 [(1, .o (.slice (cA (A k) 2) (l.getD k default).blocks.length (cK (A k) 2)))] 48 51 [] [(49, (.slice (cA (A k) 2) (l.getD k default).blocks.length (cK (A k) 2))), (50, (iI ((l.getD k default).blocks.length : Int))), (51, (iI 0))] (vA (ql 22 2 (HS.hc Z (i := 0) rfl) rfl rfl) trivial) rfl fun _ => ?_
     refine aL (fun (mm : Nat) f H' => ∃ (b : Nat) (F' : Fz), Fz.le ei F' ∧ HS (Base.of H []) F' H' [c9] R ∧ bc f [(0, (.slice a_l l.length k_l)), (1, (.slice a_lens lens.length k_lens)), (8, (.pointer (some ⟨a8, 0, none⟩))), (39, (.slice a_l l.length k_l)), (40, (iI (l.length : Int))), (41, (iI (k : Int))), (42, (.bool (decide ((k : Int) < (l.length : Int))))), (44, ag), (45, ag), (46, (.bool (ey (⟨(l.getD k default).params, (l.getD k default).regs, (l.getD k default).blocks⟩ : VFnT)))), (47, (.bool (!(ey (⟨(l.getD k default).params, (l.getD k default).regs, (l.getD k default).blocks⟩ : VFnT))))), (49, (.slice (cA (A k) 2) (l.getD k default).blocks.length (cK (A k) 2))), (50, (iI ((l.getD k default).blocks.length : Int))), (51, (iI (b : Int)))] ∧ mm = (l.getD k default).blocks.length - b ∧ (b ≤ (l.getD k default).blocks.length) ∧ (∀ j, j < b → vpB l (lens.length : Int) ((l.getD k default).blocks.getD j default) = true)) _ ⟨0, _, fR, Z, (agC rfl (agC rfl (agC rfl (agC rfl (agC rfl (agC rfl (agC rfl (agC rfl (agC rfl (agC rfl (agC rfl (agC rfl (agC rfl (agC rfl agN)))))))))))))), rfl, (by first | assumption | omega | (simp at *; omega)), (by exact dI)⟩ ?_
     rintro g5 hw hm ⟨b, em, V, a0, co, rfl, hb, hba⟩ eb
     refine aO _ co (fun _ => ?_)
     clear co
     replace hl := hl.mono V
     replace J := J.mono V
     have hbk := hbd.2 k b
     refine aw 1 rfl ?_
     refine wR 2 [] 52 52 [] [(52, (.bool (decide ((b : Int) < ((l.getD k default).blocks.length : Int)))))] trivial rfl fun _ => ?_
     refine au 4 5 (v := (decide ((b : Int) < ((l.getD k default).blocks.length : Int)))) rfl rfl rfl rfl (fun b3 => ?_) (fun b3 => ?_)
     ·
      try simp only [BS] at b3
      refine ah ?_
      obtain ⟨E, c5⟩ := Sv.view (SR.sv J a0)
      obtain ⟨e0, e1, e2, e3, ap⟩ := BlkT.fx (c5 b)
      let dd : Value := (.agg ⟨[(.slice (cA (E b) 0) ((l.getD k default).blocks.getD b default).ins.length (cK (E b) 0)), (iI ((l.getD k default).blocks.getD b default).fin), (iI ((l.getD k default).blocks.getD b default).reg), (iI ((l.getD k default).blocks.getD b default).tgt), (iI ((l.getD k default).blocks.getD b default).els)]⟩)
      refine wRo 2 0 [(1, .o dd)] 53 54 [] [(54, dd)] (vA (Sv.ix (j := (b : Int)) (SR.sv J a0) (by omega) (by omega)) (vA (qn 42 0 5 (BlkT.vw (c5 b) (by omega)) rfl rfl rfl rfl) trivial)) rfl fun _ => ?_
      refine bf (bY a0 rfl) rfl rfl ?_
      rintro _ hn _ ⟨b0, rfl, a6, _⟩
      have a6 : HS _ _ _ [_, [(b0, .cells [(.slice none 0 0), (iI 0), (iI 0), (iI 0), (iI 0)] none false)]] _ := a6
      refine aN (aC (q := 1) a6 rfl rfl rfl rfl rfl rfl rfl rfl rfl) rfl ?_
      rintro _ ho _ ⟨a1, _⟩
      let ds : Fp := [(b0, .cells [(.slice (cA (E b) 0) ((l.getD k default).blocks.getD b default).ins.length (cK (E b) 0)), (iI ((l.getD k default).blocks.getD b default).fin), (iI ((l.getD k default).blocks.getD b default).reg), (iI ((l.getD k default).blocks.getD b default).tgt), (iI ((l.getD k default).blocks.getD b default).els)] none false)]
      have a1 : HS _ _ _ [_, ds] _ := a1
      refine ao 2 rfl ?_
      refine wR 2 [(1, .o (.slice (cA (E b) 0) ((l.getD k default).blocks.getD b default).ins.length (cK (E b) 0)))] 55 58 [] [(56, (.slice (cA (E b) 0) ((l.getD k default).blocks.getD b default).ins.length (cK (E b) 0))), (57, (iI (((l.getD k default).blocks.getD b default).ins.length : Int))), (58, (iI 0))] (vA (ql 40 0 (HS.hc a1 (i := 1) rfl) rfl rfl) trivial) rfl fun _ => ?_
      refine aL (fun (mm : Nat) f H' => ∃ (i : Nat) (F' : Fz), Fz.le em F' ∧ HS (Base.of H []) F' H' [c9, ds] R ∧ bc f [(0, (.slice a_l l.length k_l)), (1, (.slice a_lens lens.length k_lens)), (8, (.pointer (some ⟨a8, 0, none⟩))), (10, (.pointer (some ⟨b0, 0, none⟩))), (39, (.slice a_l l.length k_l)), (40, (iI (l.length : Int))), (41, (iI (k : Int))), (42, (.bool (decide ((k : Int) < (l.length : Int))))), (44, ag), (45, ag), (46, (.bool (ey (⟨(l.getD k default).params, (l.getD k default).regs, (l.getD k default).blocks⟩ : VFnT)))), (47, (.bool (!(ey (⟨(l.getD k default).params, (l.getD k default).regs, (l.getD k default).blocks⟩ : VFnT))))), (49, (.slice (cA (A k) 2) (l.getD k default).blocks.length (cK (A k) 2))), (50, (iI ((l.getD k default).blocks.length : Int))), (51, (iI (b : Int))), (52, (.bool (decide ((b : Int) < ((l.getD k default).blocks.length : Int))))), (54, dd), (56, (.slice (cA (E b) 0) ((l.getD k default).blocks.getD b default).ins.length (cK (E b) 0))), (57, (iI (((l.getD k default).blocks.getD b default).ins.length : Int))), (58, (iI (i : Int)))] ∧ mm = ((l.getD k default).blocks.getD b default).ins.length - i ∧ (i ≤ ((l.getD k default).blocks.getD b default).ins.length) ∧ (∀ j, j < i → vpI l (lens.length : Int) (((l.getD k default).blocks.getD b default).ins.getD j default) = true)) _ ⟨0, _, fR, a1, (agC rfl (agC rfl (agC rfl (agC rfl (agC rfl (agC rfl (agC rfl (agC rfl (agC rfl (agC rfl (agC rfl (agC rfl (agC rfl (agC rfl (agC rfl (agC rfl (agC rfl (agC rfl (agC rfl (agC rfl agN)))))))))))))))))))), rfl, (by first | assumption | omega | (simp at *; omega)), (by exact dI)⟩ ?_
      rintro g6 hx hp ⟨i, he, I, a2, c0, rfl, hi, hia⟩ a3
      refine aO _ c0 (fun _ => ?_)
      clear c0
      replace hl := hl.mono I
      replace ap := ap.mono I
      have hnn : i < ((l.getD k default).blocks.getD b default).ins.length → ((((l.getD k default).blocks.getD b default).ins.getD i default).i.op = 6 ∨ (((l.getD k default).blocks.getD b default).ins.getD i default).i.op = 34 ∨ (((l.getD k default).blocks.getD b default).ins.getD i default).i.op = 35) → 0 ≤ (((l.getD k default).blocks.getD b default).ins.getD i default).i.n := fun q1 q2 => val_nn hval (by omega) q1 q2
      refine aw 1 rfl ?_
      refine wR 2 [] 59 59 [] [(59, (.bool (decide ((i : Int) < (((l.getD k default).blocks.getD b default).ins.length : Int)))))] trivial rfl fun _ => ?_
      refine au 4 5 (v := (decide ((i : Int) < (((l.getD k default).blocks.getD b default).ins.length : Int)))) rfl rfl rfl rfl (fun b4 => ?_) (fun b4 => ?_)
      ·
       try simp only [BS] at b4
       refine ah ?_
       obtain ⟨ad, c6⟩ := Sv.view (SR.sv ap a2)
       obtain ⟨e4, e5, e6, fd, fi, f9⟩ := VInT.fx (c6 i)
       let dt : Value := (.agg ⟨[(iI (((l.getD k default).blocks.getD b default).ins.getD i default).i.op), (iI (((l.getD k default).blocks.getD b default).ins.getD i default).i.a), (iI (((l.getD k default).blocks.getD b default).ins.getD i default).i.b), (iI (((l.getD k default).blocks.getD b default).ins.getD i default).i.c), (iI (((l.getD k default).blocks.getD b default).ins.getD i default).i.n), (.slice (cA (ad i) 5) (((l.getD k default).blocks.getD b default).ins.getD i default).args.length (cK (ad i) 5))]⟩)
       refine wRo 2 0 [(1, .o dt)] 60 61 [] [(61, dt)] (vA (Sv.ix (j := (i : Int)) (SR.sv ap a2) (by omega) (by omega)) (vA (qn 47 0 6 (VInT.vw (c6 i) (by omega)) rfl rfl rfl rfl) trivial)) rfl fun _ => ?_
       refine bf (bY a2 rfl) rfl rfl ?_
       rintro _ hr _ ⟨dk, rfl, a7, _⟩
       have a7 : HS _ _ _ [_, _, [(dk, .cells [(iI 0), (iI 0), (iI 0), (iI 0), (iI 0), (.slice none 0 0)] none false)]] _ := a7
       refine aN (aC (q := 2) a7 rfl rfl rfl rfl rfl rfl rfl rfl rfl) rfl ?_
       rintro _ ht _ ⟨z, _⟩
       have z : HS _ _ _ [_, _, [(dk, .cells [(iI (((l.getD k default).blocks.getD b default).ins.getD i default).i.op), (iI (((l.getD k default).blocks.getD b default).ins.getD i default).i.a), (iI (((l.getD k default).blocks.getD b default).ins.getD i default).i.b), (iI (((l.getD k default).blocks.getD b default).ins.getD i default).i.c), (iI (((l.getD k default).blocks.getD b default).ins.getD i default).i.n), (.slice (cA (ad i) 5) (((l.getD k default).blocks.getD b default).ins.getD i default).args.length (cK (ad i) 5))] none false)]] _ := z
       refine ao 2 rfl ?_
       refine wR 3 [(2, .o (iI (((l.getD k default).blocks.getD b default).ins.getD i default).i.op))] 62 64 [] [(64, (iI (((l.getD k default).blocks.getD b default).ins.getD i default).i.op))] (vA (ql 3 0 (HS.hc z (i := 2) rfl) rfl rfl) trivial) rfl fun _ => ?_
       refine wR 1 [] 65 66 [] [(65, (.bool ((((l.getD k default).blocks.getD b default).ins.getD i default).i.op == 6)))] trivial rfl fun _ => ?_
       refine au 1 2 (v := ((((l.getD k default).blocks.getD b default).ins.getD i default).i.op == 6)) rfl rfl rfl rfl (fun b5 => ?_) (fun b5 => ?_)
       ·
        try simp only [BS] at b5
        obtain ⟨g3, c7⟩ := Sv.view (SR.sv hl z)
        obtain ⟨f1, f2, gn⟩ := VFnT.fx (c7 (((l.getD k default).blocks.getD b default).ins.getD i default).i.n.toNat)
        refine wRD 1 [(2, .o (iI (((l.getD k default).blocks.getD b default).ins.getD i default).i.n)), (8, .o (.slice (cA (ad i) 5) (((l.getD k default).blocks.getD b default).ins.getD i default).args.length (cK (ad i) 5))), (13, .o (iI (((l.getD k default).blocks.getD b default).ins.getD i default).i.n)), (16, .o (iI ((l.getD (((l.getD k default).blocks.getD b default).ins.getD i default).i.n.toNat default).params)))] 67 85 [] [(85, (.bool ((decide ((l.length : Int) ≤ (((l.getD k default).blocks.getD b default).ins.getD i default).i.n)) || (((((l.getD k default).blocks.getD b default).ins.getD i default).args.length : Int) != (l.getD (((l.getD k default).blocks.getD b default).ins.getD i default).i.n.toNat default).params))))] (vA (ql 2 4 (hc0 (HS.hc z (i := 2) rfl)) rfl rfl) (vA (fun (g1 : (decide ((l.length : Int) ≤ (((l.getD k default).blocks.getD b default).ins.getD i default).i.n)) = false) => (ql 25 5 (hc0 (HS.hc z (i := 2) rfl)) rfl rfl)) (vA (fun (g1 : (decide ((l.length : Int) ≤ (((l.getD k default).blocks.getD b default).ins.getD i default).i.n)) = false) => (ql 2 4 (hc0 (HS.hc z (i := 2) rfl)) rfl rfl)) (vA (fun (g1 : (decide ((l.length : Int) ≤ (((l.getD k default).blocks.getD b default).ins.getD i default).i.n)) = false) => (Sv.ix (j := (((l.getD k default).blocks.getD b default).ins.getD i default).i.n) (SR.sv hl z) (by (try simp only [BS] at g1); omega) (by (try simp only [BS] at g1); omega))) (vA (fun (g1 : (decide ((l.length : Int) ≤ (((l.getD k default).blocks.getD b default).ins.getD i default).i.n)) = false) => (ql 3 0 (hc0 (VFnT.vw (c7 (((l.getD k default).blocks.getD b default).ins.getD i default).i.n.toNat) (by (try simp only [BS] at g1); omega))) rfl rfl)) trivial))))) rfl rfl fun _ => ?_
        refine au 1 3 (v := ((decide ((l.length : Int) ≤ (((l.getD k default).blocks.getD b default).ins.getD i default).i.n)) || (((((l.getD k default).blocks.getD b default).ins.getD i default).args.length : Int) != (l.getD (((l.getD k default).blocks.getD b default).ins.getD i default).i.n.toNat default).params))) rfl rfl rfl rfl (fun b6 => ?_) (fun b6 => ?_)
        ·
         try simp only [BS] at b6
         refine wR 1 [] 4 4 [] [(4, (.bool false))] trivial rfl fun _ => ?_
         refine am ⟨.inr rfl, _, rfl, false, _, (fT (fT (fT (fT (T) O) U) V) I), (HS.forget z), rfl, (by first | exact hR (by omega) | exact hU (br (k := q) (by omega) (decide_eq_false (show ¬ (1 ≤ lens.getD q 0 ∧ lens.getD q 0 ≤ 16) by omega))) | exact vp_f (br (k := k) (by omega) (hZ (show ey (l.getD k default) = false by assumption))) | exact hO (k := k) (b := b) (i := i) (by omega) (by omega) (by omega) (ff (by omega)) | exact hL (by omega) (bw hqa (by omega)) (bw hka (by omega)))⟩
        ·
         try simp only [BS] at b6
         refine wR 1 [] 58 58 [95] [(58, (iI ((i : Int) + 1)))] (vA (vi (n := (i : Int) + 1) (by omega)) trivial) rfl fun _ => ?_
         refine a3 _ _ _ ?_ ⟨i + 1, _, (I), (HS.sub z (List.sublist_append_left _ _)), (agC rfl (agC rfl (agC rfl (agC rfl (agC rfl (agC rfl (agC rfl (agC rfl (agC rfl (agC rfl (agC rfl (agC rfl (agC rfl (agC rfl (agC rfl (agC rfl (agC rfl (agC rfl (agC rfl (agC rfl agN)))))))))))))))))))), rfl, (by first | assumption | omega | (simp at *; omega)), (by exact bM hia (ea.2 ⟨by omega, by omega⟩))⟩
         omega
       ·
        try simp only [BS] at b5
        refine wR 1 [] 86 87 [] [(86, (.bool ((((l.getD k default).blocks.getD b default).ins.getD i default).i.op == 34)))] trivial rfl fun _ => ?_
        refine au 1 0 (v := ((((l.getD k default).blocks.getD b default).ins.getD i default).i.op == 34)) rfl rfl rfl rfl (fun ar => ?_) (fun ar => ?_)
        ·
         have b7 := ar
         try simp only [BS] at b7
         refine bx 1 (v := ((((l.getD k default).blocks.getD b default).ins.getD i default).i.op == 34)) rfl ar rfl rfl ?_
         refine wR 1 [(2, .o (iI (((l.getD k default).blocks.getD b default).ins.getD i default).i.n))] 89 94 [] [(94, (.bool (decide ((lens.length : Int) ≤ (((l.getD k default).blocks.getD b default).ins.getD i default).i.n))))] (vA (ql 2 4 (HS.hc z (i := 2) rfl) rfl rfl) trivial) rfl fun _ => ?_
         refine au 1 3 (v := (decide ((lens.length : Int) ≤ (((l.getD k default).blocks.getD b default).ins.getD i default).i.n))) rfl rfl rfl rfl (fun cd => ?_) (fun cd => ?_)
         ·
          try simp only [BS] at cd
          refine wR 1 [] 4 4 [] [(4, (.bool false))] trivial rfl fun _ => ?_
          refine am ⟨.inr rfl, _, rfl, false, _, (fT (fT (fT (fT (T) O) U) V) I), (HS.forget z), rfl, (by first | exact hR (by omega) | exact hU (br (k := q) (by omega) (decide_eq_false (show ¬ (1 ≤ lens.getD q 0 ∧ lens.getD q 0 ≤ 16) by omega))) | exact vp_f (br (k := k) (by omega) (hZ (show ey (l.getD k default) = false by assumption))) | exact hO (k := k) (b := b) (i := i) (by omega) (by omega) (by omega) (ff (by omega)) | exact hL (by omega) (bw hqa (by omega)) (bw hka (by omega)))⟩
         ·
          try simp only [BS] at cd
          refine wR 1 [] 58 58 [95] [(58, (iI ((i : Int) + 1)))] (vA (vi (n := (i : Int) + 1) (by omega)) trivial) rfl fun _ => ?_
          refine a3 _ _ _ ?_ ⟨i + 1, _, (I), (HS.sub z (List.sublist_append_left _ _)), (agC rfl (agC rfl (agC rfl (agC rfl (agC rfl (agC rfl (agC rfl (agC rfl (agC rfl (agC rfl (agC rfl (agC rfl (agC rfl (agC rfl (agC rfl (agC rfl (agC rfl (agC rfl (agC rfl (agC rfl agN)))))))))))))))))))), rfl, (by first | assumption | omega | (simp at *; omega)), (by exact bM hia (ea.2 ⟨by omega, by omega⟩))⟩
          omega
        ·
         have b7 := ar
         try simp only [BS] at b7
         refine wR 1 [] 86 88 [] [(86, (.bool ((((l.getD k default).blocks.getD b default).ins.getD i default).i.op == 35)))] trivial rfl fun _ => ?_
         refine au 1 3 (v := ((((l.getD k default).blocks.getD b default).ins.getD i default).i.op == 35)) rfl rfl rfl rfl (fun ch => ?_) (fun ch => ?_)
         ·
          try simp only [BS] at ch
          refine wR 1 [(2, .o (iI (((l.getD k default).blocks.getD b default).ins.getD i default).i.n))] 89 94 [] [(94, (.bool (decide ((lens.length : Int) ≤ (((l.getD k default).blocks.getD b default).ins.getD i default).i.n))))] (vA (ql 2 4 (HS.hc z (i := 2) rfl) rfl rfl) trivial) rfl fun _ => ?_
          refine au 1 3 (v := (decide ((lens.length : Int) ≤ (((l.getD k default).blocks.getD b default).ins.getD i default).i.n))) rfl rfl rfl rfl (fun ci => ?_) (fun ci => ?_)
          ·
           try simp only [BS] at ci
           refine wR 1 [] 4 4 [] [(4, (.bool false))] trivial rfl fun _ => ?_
           refine am ⟨.inr rfl, _, rfl, false, _, (fT (fT (fT (fT (T) O) U) V) I), (HS.forget z), rfl, (by first | exact hR (by omega) | exact hU (br (k := q) (by omega) (decide_eq_false (show ¬ (1 ≤ lens.getD q 0 ∧ lens.getD q 0 ≤ 16) by omega))) | exact vp_f (br (k := k) (by omega) (hZ (show ey (l.getD k default) = false by assumption))) | exact hO (k := k) (b := b) (i := i) (by omega) (by omega) (by omega) (ff (by omega)) | exact hL (by omega) (bw hqa (by omega)) (bw hka (by omega)))⟩
          ·
           try simp only [BS] at ci
           refine wR 1 [] 58 58 [95] [(58, (iI ((i : Int) + 1)))] (vA (vi (n := (i : Int) + 1) (by omega)) trivial) rfl fun _ => ?_
           refine a3 _ _ _ ?_ ⟨i + 1, _, (I), (HS.sub z (List.sublist_append_left _ _)), (agC rfl (agC rfl (agC rfl (agC rfl (agC rfl (agC rfl (agC rfl (agC rfl (agC rfl (agC rfl (agC rfl (agC rfl (agC rfl (agC rfl (agC rfl (agC rfl (agC rfl (agC rfl (agC rfl (agC rfl agN)))))))))))))))))))), rfl, (by first | assumption | omega | (simp at *; omega)), (by exact bM hia (ea.2 ⟨by omega, by omega⟩))⟩
           omega
         ·
          try simp only [BS] at ch
          refine wR 1 [] 58 58 [95] [(58, (iI ((i : Int) + 1)))] (vA (vi (n := (i : Int) + 1) (by omega)) trivial) rfl fun _ => ?_
          refine a3 _ _ _ ?_ ⟨i + 1, _, (I), (HS.sub z (List.sublist_append_left _ _)), (agC rfl (agC rfl (agC rfl (agC rfl (agC rfl (agC rfl (agC rfl (agC rfl (agC rfl (agC rfl (agC rfl (agC rfl (agC rfl (agC rfl (agC rfl (agC rfl (agC rfl (agC rfl (agC rfl (agC rfl agN)))))))))))))))))))), rfl, (by first | assumption | omega | (simp at *; omega)), (by exact bM hia (ea.2 ⟨by omega, by omega⟩))⟩
          omega
      ·
       try simp only [BS] at b4
       refine wR 1 [] 51 51 [96] [(51, (iI ((b : Int) + 1)))] (vA (vi (n := (b : Int) + 1) (by omega)) trivial) rfl fun _ => ?_
       refine eb _ _ _ ?_ ⟨b + 1, _, (fT (V) I), (HS.sub a2 (List.sublist_append_left _ _)), (agC rfl (agC rfl (agC rfl (agC rfl (agC rfl (agC rfl (agC rfl (agC rfl (agC rfl (agC rfl (agC rfl (agC rfl (agC rfl (agC rfl agN)))))))))))))), rfl, (by first | assumption | omega | (simp at *; omega)), (by exact bM hba (bw hia (by omega)))⟩
       omega
     ·
      try simp only [BS] at b3
      refine wR 1 [] 41 41 [97] [(41, (iI ((k : Int) + 1)))] (vA (vi (n := (k : Int) + 1) (by omega)) trivial) rfl fun _ => ?_
      refine d2 _ _ _ ?_ ⟨k + 1, _, (fT (fT (O) U) V), (HS.sub a0 (List.sublist_append_left _ _)), (agC rfl (agC rfl (agC rfl (agC rfl (agC rfl agN))))), rfl, (by first | assumption | omega | (simp at *; omega)), (by exact bM hka (vpF_yes hval (bw hba (by omega))))⟩
      omega
   ·
    try simp only [BS] at b2
    refine wR 1 [] 4 4 [] [(4, (.bool true))] trivial rfl fun _ => ?_
    refine am ⟨.inr rfl, _, rfl, true, _, (fT (T) O), (HS.forget av), rfl, (by first | exact hR (by omega) | exact hU (br (k := q) (by omega) (decide_eq_false (show ¬ (1 ≤ lens.getD q 0 ∧ lens.getD q 0 ≤ 16) by omega))) | exact vp_f (br (k := k) (by omega) (hZ (show ey (l.getD k default) = false by assumption))) | exact hO (k := k) (b := b) (i := i) (by omega) (by omega) (by omega) (ff (by omega)) | exact hL (by omega) (bw hqa (by omega)) (bw hka (by omega)))⟩
end Go.Proofs.YtlabedbmgmfbaaaDoor.m8
