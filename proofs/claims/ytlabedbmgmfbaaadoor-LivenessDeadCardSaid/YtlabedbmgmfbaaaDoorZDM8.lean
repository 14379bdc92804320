/-
 Which programs of virtual code are valid: the program and the reference, each by a symbolic run. No condition but bounds on lengths.
-/
import Derived.Test.YtlabedbmgmfbaaaDoorZDM7
noncomputable section
namespace Go.Proofs.YtlabedbmgmfbaaaDoor.m8
open Go.R
set_option maxRecDepth 10000
set_option linter.unusedVariables false
open m1 m2 m3 m4 m5 m6 m7
set_option maxHeartbeats 2000000 in
theorem rprog_c (ex : FuncId) {a_l : Option Addr} {k_l : Nat} (l : List VFnT) {a_lens : Option Addr} {k_lens : Nat} (lens : List Int) {F : Fz} {H : Heap} {R : List Fp} (hs : HS (.of H []) F H [] R) (hl : SR F (.slice a_l l.length k_l) l) (hlens : SR F (.slice a_lens lens.length k_lens) lens) (hT : TB 37 tabC F) (hbd : lens.length ≤ 1073741824 ∧ ∀ k j, ((l.getD k default).blocks.getD j default).ins.length ≤ 9223372036854775807) : C Tryd.prog 1 (KT 60 ex 37 tabC) 42 [(.slice a_l l.length k_l), (.slice a_lens lens.length k_lens)] H fun v H' => ∃ (r : Bool) (F' : Fz), Fz.le F F' ∧ HS (.of H []) F' H' [] R ∧ v = .bool r ∧ r = vpV l lens := by
 refine aL Tryd.func42 rfl rfl ?_
 refine ao 1 rfl ?_
 refine wR 3 [] 4 4 [] [(4, (.bool false))] trivial rfl fun _ => ?_
 refine wR 1 [] 10 22 [] [(22, (.bool (((decide ((l.length : Int) < 1)) || (decide ((8 : Int) < (l.length : Int)))) || (decide ((4 : Int) < (lens.length : Int))))))] trivial rfl fun _ => ?_
 refine am 1 3 (v := (((decide ((l.length : Int) < 1)) || (decide ((8 : Int) < (l.length : Int)))) || (decide ((4 : Int) < (lens.length : Int))))) rfl rfl rfl rfl (fun c3 => ?_) (fun c3 => ?_)
 ·
  try simp only [BS] at c3
  refine wR 1 [] 4 4 [] [(4, (.bool false))] trivial rfl fun _ => ?_
  refine ah ⟨.inr rfl, _, rfl, false, _, fR, (HS.forget hs), rfl, (by exact vp_lim (by omega))⟩
 ·
  try simp only [BS] at c3
  refine wR 2 [] 1 0 [5] [(5, (iI 0))] trivial rfl fun _ => ?_
  refine aC (fun (mm : Nat) f H' => ∃ (q : Nat) (F' : Fz), Fz.le F F' ∧ HS (Base.of H []) F' H' [] R ∧ aT f [(0, (.slice a_l l.length k_l)), (1, (.slice a_lens lens.length k_lens)), (5, (iI (q : Int)))] ∧ mm = lens.length - q ∧ (q ≤ lens.length) ∧ (∀ j, j < q → lenOK (lens.getD j default) = true)) _ ⟨0, _, fR, hs, ⟨rfl, rfl, rfl, trivial⟩, rfl, (by omega), (by exact cP)⟩ ?_
  rintro hr f6 H6 ⟨q, F6, O, aj, c7, rfl, hq, hqa⟩ d1
  refine aH _ c7 (fun _ => ?_)
  clear c7
  replace hT := hT.mono O
  replace hl := hl.mono O
  replace hlens := hlens.mono O
  refine ao 2 rfl ?_
  refine wR 1 [] 23 26 [] [(26, (.bool (decide ((q : Int) < (lens.length : Int)))))] trivial rfl fun _ => ?_
  refine am 4 6 (v := (decide ((q : Int) < (lens.length : Int)))) rfl rfl rfl rfl (fun c8 => ?_) (fun c8 => ?_)
  ·
   try simp only [BS] at c8
   obtain ⟨hh, c4⟩ := Sv.view (SR.sv hlens aj)
   have hp := fI (c4 q)
   refine wR 1 [(3, .o (iI (lens.getD q 0))), (9, .o (iI (lens.getD q 0)))] 29 40 [] [(40, (.bool ((decide ((lens.getD q 0) < 1)) || (decide ((16 : Int) < (lens.getD q 0))))))] (vA (Sv.ix (j := (q : Int)) (SR.sv hlens aj) (by omega) (by omega)) (vA (ql 3 0 (vI (c4 q) (by omega)) rfl rfl) (vA (fun (J : (decide ((lens.getD q 0) < 1)) = false) => (Sv.ix (j := (q : Int)) (SR.sv hlens aj) (by (try simp only [BS] at J); omega) (by (try simp only [BS] at J); omega))) (vA (fun (J : (decide ((lens.getD q 0) < 1)) = false) => (ql 3 0 (vI (c4 q) (by (try simp only [BS] at J); omega)) rfl rfl)) trivial)))) rfl fun _ => ?_
   refine am 1 2 (v := ((decide ((lens.getD q 0) < 1)) || (decide ((16 : Int) < (lens.getD q 0))))) rfl rfl rfl rfl (fun a4 => ?_) (fun a4 => ?_)
   ·
    try simp only [BS] at a4
    refine wR 1 [] 4 4 [] [(4, (.bool false))] trivial rfl fun _ => ?_
    refine ah ⟨.inr rfl, _, rfl, false, _, (O), (HS.forget aj), rfl, (by exact vp_len (cL (k := q) (by omega) (decide_eq_false (show ¬ (1 ≤ lens.getD q 0 ∧ lens.getD q 0 ≤ 16) by omega))))⟩
   ·
    try simp only [BS] at a4
    refine wR 1 [] 27 28 [5] [(5, (iI ((q : Int) + 1)))] (vA (vi (n := (q : Int) + 1) (by omega)) trivial) rfl fun _ => ?_
    refine d1 _ _ _ ?_ ⟨q + 1, _, (O), aj, ⟨rfl, rfl, rfl, trivial⟩, rfl, (by omega), (by exact b8 hqa (decide_eq_true (show 1 ≤ lens.getD q 0 ∧ lens.getD q 0 ≤ 16 by omega)))⟩
    omega
  ·
   try simp only [BS] at c8
   refine wR 2 [] 1 0 [6] [(6, (iI 0))] trivial rfl fun _ => ?_
   refine aC (fun (mm : Nat) f H' => ∃ (k : Nat) (F' : Fz), Fz.le F6 F' ∧ HS (Base.of H []) F' H' [] R ∧ aT f [(0, (.slice a_l l.length k_l)), (1, (.slice a_lens lens.length k_lens)), (6, (iI (k : Int)))] ∧ mm = l.length - k ∧ (k ≤ l.length) ∧ (∀ j, j < k → vpF l (lens.length : Int) (l.getD j default) = true)) _ ⟨0, _, fR, aj, ⟨rfl, rfl, rfl, trivial⟩, rfl, (by omega), (by exact cP)⟩ ?_
   rintro f9 hj g8 ⟨k, g6, I, ag, b3, rfl, hk, hka⟩ dl
   refine aH _ b3 (fun _ => ?_)
   clear b3
   replace hT := hT.mono I
   replace hl := hl.mono I
   refine ao 2 rfl ?_
   refine wR 1 [] 41 44 [] [(44, (.bool (decide ((k : Int) < (l.length : Int)))))] trivial rfl fun _ => ?_
   refine am 5 5 (v := (decide ((k : Int) < (l.length : Int)))) rfl rfl rfl rfl (fun a5 => ?_) (fun a5 => ?_)
   ·
    try simp only [BS] at a5
    refine ab ?_
    obtain ⟨bb, b6⟩ := Sv.view (SR.sv hl ag)
    obtain ⟨d2, ea, c5⟩ := VFnT.fx (b6 k)
    let a2 : Value := (.agg ⟨[(iI (l.getD k default).params), (iI (l.getD k default).regs), (.slice (cA (bb k) 2) (l.getD k default).blocks.length (cK (bb k) 2))]⟩)
    refine wRo 4 0 [(3, .o a2)] 47 50 [] [(50, a2)] (vA (Sv.ix (j := (k : Int)) (SR.sv hl ag) (by omega) (by omega)) (vA (qn 24 0 3 (VFnT.vw (b6 k) (by omega)) rfl rfl rfl rfl) trivial)) rfl fun _ => ?_
    refine aD (az rfl rfl rfl) rfl rfl (m3.rvalid_c ex (l.getD k default) (HS.call ag) (by omega) (by omega) c5 hT (by exact fun j => hbd.2 k j)) ?_
    rintro _ g9 ⟨ht, dt, V, U, rfl, rfl⟩
    replace U := HS.back ag rfl U
    have U : HS _ _ _ [] _ := U
    replace hl := hl.mono V
    refine wRo 1 5 [] 52 52 [] [(52, (.bool (!(eL (l.getD k default)))))] trivial rfl fun _ => ?_
    refine ai 1 rfl ?_
    refine am 1 2 (v := (!(eL (l.getD k default)))) rfl rfl rfl rfl (fun ar => ?_) (fun ar => ?_)
    ·
     try simp only [BS] at ar
     refine wR 1 [] 4 4 [] [(4, (.bool false))] trivial rfl fun _ => ?_
     refine ah ⟨.inr rfl, _, rfl, false, _, (fT (fT (O) I) V), (HS.forget U), rfl, (by exact vp_f (cL (k := k) (by omega) (vpF_no (show eL (l.getD k default) = false by assumption))))⟩
    ·
     try simp only [BS] at ar
     have hval : eL (l.getD k default) = true := ar
     have hvb := val_bd hval
     refine wR 2 [] 1 0 [7] [(7, (iI 0))] trivial rfl fun _ => ?_
     refine aC (fun (mm : Nat) f H' => ∃ (b : Nat) (F' : Fz), Fz.le dt F' ∧ HS (Base.of H []) F' H' [] R ∧ aT f [(0, (.slice a_l l.length k_l)), (1, (.slice a_lens lens.length k_lens)), (6, (iI (k : Int))), (7, (iI (b : Int))), (44, (.bool (decide ((k : Int) < (l.length : Int))))), (50, a2), (51, (.bool (eL (l.getD k default)))), (52, (.bool (!(eL (l.getD k default)))))] ∧ mm = (l.getD k default).blocks.length - b ∧ (b ≤ (l.getD k default).blocks.length) ∧ (∀ j, j < b → vpB l (lens.length : Int) ((l.getD k default).blocks.getD j default) = true)) _ ⟨0, _, fR, U, ⟨rfl, rfl, rfl, rfl, rfl, rfl, rfl, rfl, trivial⟩, rfl, (by omega), (by exact cP)⟩ ?_
     rintro gn hm ha ⟨b, dv, Z, ap, b4, rfl, hb, hba⟩ dn
     refine aH _ b4 (fun _ => ?_)
     clear b4
     replace hl := hl.mono Z
     have hbk := hbd.2 k b
     refine ao 2 rfl ?_
     obtain ⟨bj, b7⟩ := Sv.view (SR.sv hl ap)
     obtain ⟨eb, ec, fj⟩ := VFnT.fx (b7 k)
     refine wR 1 [(5, .o (.slice (cA (bj k) 2) (l.getD k default).blocks.length (cK (bj k) 2)))] 53 60 [] [(60, (.bool (decide ((b : Int) < ((l.getD k default).blocks.length : Int)))))] (vA (Sv.ix (j := (k : Int)) (SR.sv hl ap) (by omega) (by omega)) (vA (ql 22 2 (VFnT.vw (b7 k) (by omega)) rfl rfl) trivial)) rfl fun _ => ?_
     refine am 4 5 (v := (decide ((b : Int) < ((l.getD k default).blocks.length : Int)))) rfl rfl rfl rfl (fun a6 => ?_) (fun a6 => ?_)
     ·
      try simp only [BS] at a6
      refine wR 2 [] 1 0 [8] [(8, (iI 0))] trivial rfl fun _ => ?_
      refine aC (fun (mm : Nat) f H' => ∃ (i : Nat) (F' : Fz), Fz.le dv F' ∧ HS (Base.of H []) F' H' [] R ∧ aT f [(0, (.slice a_l l.length k_l)), (1, (.slice a_lens lens.length k_lens)), (6, (iI (k : Int))), (7, (iI (b : Int))), (8, (iI (i : Int))), (44, (.bool (decide ((k : Int) < (l.length : Int))))), (50, a2), (51, (.bool (eL (l.getD k default)))), (52, (.bool (!(eL (l.getD k default))))), (60, (.bool (decide ((b : Int) < ((l.getD k default).blocks.length : Int)))))] ∧ mm = ((l.getD k default).blocks.getD b default).ins.length - i ∧ (i ≤ ((l.getD k default).blocks.getD b default).ins.length) ∧ (∀ j, j < i → vpI l (lens.length : Int) (((l.getD k default).blocks.getD b default).ins.getD j default) = true)) _ ⟨0, _, fR, ap, ⟨rfl, rfl, rfl, rfl, rfl, rfl, rfl, rfl, rfl, rfl, trivial⟩, rfl, (by omega), (by exact cP)⟩ ?_
      rintro g3 hn he ⟨i, g7, ad, A, b5, rfl, hi, hia⟩ ds
      refine aH _ b5 (fun _ => ?_)
      clear b5
      replace hl := hl.mono ad
      have hnn : i < ((l.getD k default).blocks.getD b default).ins.length → ((((l.getD k default).blocks.getD b default).ins.getD i default).i.op = 6 ∨ (((l.getD k default).blocks.getD b default).ins.getD i default).i.op = 34 ∨ (((l.getD k default).blocks.getD b default).ins.getD i default).i.op = 35) → 0 ≤ (((l.getD k default).blocks.getD b default).ins.getD i default).i.n := fun q1 q2 => val_nn hval (by omega) q1 q2
      refine ao 2 rfl ?_
      obtain ⟨bl, b9⟩ := Sv.view (SR.sv hl A)
      obtain ⟨ei, el, av⟩ := VFnT.fx (b9 k)
      obtain ⟨b0, ch⟩ := Sv.view (SR.sv av A)
      obtain ⟨em, ep, es, et, f1⟩ := BlkT.fx (ch b)
      refine wR 1 [(5, .o (.slice (cA (bl k) 2) (l.getD k default).blocks.length (cK (bl k) 2))), (9, .o (.slice (cA (b0 b) 0) ((l.getD k default).blocks.getD b default).ins.length (cK (b0 b) 0)))] 63 74 [] [(74, (.bool (decide ((i : Int) < (((l.getD k default).blocks.getD b default).ins.length : Int)))))] (vA (Sv.ix (j := (k : Int)) (SR.sv hl A) (by omega) (by omega)) (vA (ql 22 2 (VFnT.vw (b9 k) (by omega)) rfl rfl) (vA (Sv.ix (j := (b : Int)) (SR.sv av A) (by omega) (by omega)) (vA (ql 40 0 (BlkT.vw (ch b) (by omega)) rfl rfl) trivial)))) rfl fun _ => ?_
      refine am 4 5 (v := (decide ((i : Int) < (((l.getD k default).blocks.getD b default).ins.length : Int)))) rfl rfl rfl rfl (fun a7 => ?_) (fun a7 => ?_)
      ·
       try simp only [BS] at a7
       refine ab ?_
       obtain ⟨b1, ci⟩ := Sv.view (SR.sv hl A)
       obtain ⟨ev, ey, a0⟩ := VFnT.fx (ci k)
       obtain ⟨b2, co⟩ := Sv.view (SR.sv a0 A)
       obtain ⟨ez, e0, e1, e2, a1⟩ := BlkT.fx (co b)
       obtain ⟨T, cv⟩ := Sv.view (SR.sv a1 A)
       obtain ⟨e3, e4, e5, e6, e9, f2⟩ := VInT.fx (cv i)
       let c9 : Value := (.agg ⟨[(iI (((l.getD k default).blocks.getD b default).ins.getD i default).i.op), (iI (((l.getD k default).blocks.getD b default).ins.getD i default).i.a), (iI (((l.getD k default).blocks.getD b default).ins.getD i default).i.b), (iI (((l.getD k default).blocks.getD b default).ins.getD i default).i.c), (iI (((l.getD k default).blocks.getD b default).ins.getD i default).i.n), (.slice (cA (T i) 5) (((l.getD k default).blocks.getD b default).ins.getD i default).args.length (cK (T i) 5))]⟩)
       refine wRo 12 0 [(4, .o (.slice (cA (b1 k) 2) (l.getD k default).blocks.length (cK (b1 k) 2))), (8, .o (.slice (cA (b2 b) 0) ((l.getD k default).blocks.getD b default).ins.length (cK (b2 b) 0))), (11, .o c9)] 77 88 [] [(88, c9)] (vA (Sv.ix (j := (k : Int)) (SR.sv hl A) (by omega) (by omega)) (vA (ql 22 2 (VFnT.vw (ci k) (by omega)) rfl rfl) (vA (Sv.ix (j := (b : Int)) (SR.sv a0 A) (by omega) (by omega)) (vA (ql 40 0 (BlkT.vw (co b) (by omega)) rfl rfl) (vA (Sv.ix (j := (i : Int)) (SR.sv a1 A) (by omega) (by omega)) (vA (qn 47 0 6 (VInT.vw (cv i) (by omega)) rfl rfl rfl rfl) trivial)))))) rfl fun _ => ?_
       refine aR (bK A rfl) rfl rfl ?_
       rintro _ hf _ ⟨c6, rfl, aq, _⟩
       have aq : HS _ _ _ [[(c6, .cells [(iI 0), (iI 0), (iI 0), (iI 0), (iI 0), (.slice none 0 0)] none false)]] _ := aq
       refine aU (aG (q := 0) aq rfl rfl rfl rfl rfl rfl rfl rfl rfl) rfl ?_
       rintro _ hg _ ⟨z, _⟩
       have z : HS _ _ _ [[(c6, .cells [(iI (((l.getD k default).blocks.getD b default).ins.getD i default).i.op), (iI (((l.getD k default).blocks.getD b default).ins.getD i default).i.a), (iI (((l.getD k default).blocks.getD b default).ins.getD i default).i.b), (iI (((l.getD k default).blocks.getD b default).ins.getD i default).i.c), (iI (((l.getD k default).blocks.getD b default).ins.getD i default).i.n), (.slice (cA (T i) 5) (((l.getD k default).blocks.getD b default).ins.getD i default).args.length (cK (T i) 5))] none false)]] _ := z
       refine ai 3 rfl ?_
       obtain ⟨f7, c0⟩ := Sv.view (SR.sv hl z)
       obtain ⟨fd, fi, f3⟩ := VFnT.fx (c0 (((l.getD k default).blocks.getD b default).ins.getD i default).i.n.toNat)
       refine wRD 1 [(2, .o (iI (((l.getD k default).blocks.getD b default).ins.getD i default).i.op)), (7, .o (iI (((l.getD k default).blocks.getD b default).ins.getD i default).i.n)), (15, .o (iI (((l.getD k default).blocks.getD b default).ins.getD i default).i.n)), (18, .o (iI ((l.getD (((l.getD k default).blocks.getD b default).ins.getD i default).i.n.toNat default).params))), (20, .o (.slice (cA (T i) 5) (((l.getD k default).blocks.getD b default).ins.getD i default).args.length (cK (T i) 5)))] 89 113 [] [(113, (.bool (((((l.getD k default).blocks.getD b default).ins.getD i default).i.op == 6) && ((decide ((l.length : Int) ≤ (((l.getD k default).blocks.getD b default).ins.getD i default).i.n)) || ((l.getD (((l.getD k default).blocks.getD b default).ins.getD i default).i.n.toNat default).params != ((((l.getD k default).blocks.getD b default).ins.getD i default).args.length : Int))))))] (vA (ql 3 0 (hc0 (HS.hc z (i := 0) rfl)) rfl rfl) (vA (fun (J : ((((l.getD k default).blocks.getD b default).ins.getD i default).i.op == 6) = true) => (ql 2 4 (hc0 (HS.hc z (i := 0) rfl)) rfl rfl)) (vA (fun (J : (decide ((l.length : Int) ≤ (((l.getD k default).blocks.getD b default).ins.getD i default).i.n)) = false) (g2 : ((((l.getD k default).blocks.getD b default).ins.getD i default).i.op == 6) = true) => (ql 2 4 (hc0 (HS.hc z (i := 0) rfl)) rfl rfl)) (vA (fun (J : (decide ((l.length : Int) ≤ (((l.getD k default).blocks.getD b default).ins.getD i default).i.n)) = false) (g2 : ((((l.getD k default).blocks.getD b default).ins.getD i default).i.op == 6) = true) => (Sv.ix (j := (((l.getD k default).blocks.getD b default).ins.getD i default).i.n) (SR.sv hl z) (by (try simp only [BS] at J g2); omega) (by (try simp only [BS] at J g2); omega))) (vA (fun (J : (decide ((l.length : Int) ≤ (((l.getD k default).blocks.getD b default).ins.getD i default).i.n)) = false) (g2 : ((((l.getD k default).blocks.getD b default).ins.getD i default).i.op == 6) = true) => (ql 3 0 (hc0 (VFnT.vw (c0 (((l.getD k default).blocks.getD b default).ins.getD i default).i.n.toNat) (by (try simp only [BS] at J g2); omega))) rfl rfl)) (vA (fun (J : (decide ((l.length : Int) ≤ (((l.getD k default).blocks.getD b default).ins.getD i default).i.n)) = false) (g2 : ((((l.getD k default).blocks.getD b default).ins.getD i default).i.op == 6) = true) => (ql 25 5 (hc0 (HS.hc z (i := 0) rfl)) rfl rfl)) trivial)))))) rfl rfl fun _ => ?_
       refine am 1 2 (v := (((((l.getD k default).blocks.getD b default).ins.getD i default).i.op == 6) && ((decide ((l.length : Int) ≤ (((l.getD k default).blocks.getD b default).ins.getD i default).i.n)) || ((l.getD (((l.getD k default).blocks.getD b default).ins.getD i default).i.n.toNat default).params != ((((l.getD k default).blocks.getD b default).ins.getD i default).args.length : Int))))) rfl rfl rfl rfl (fun a8 => ?_) (fun a8 => ?_)
       ·
        try simp only [BS] at a8
        refine wR 1 [] 4 4 [] [(4, (.bool false))] trivial rfl fun _ => ?_
        refine ah ⟨.inr rfl, _, rfl, false, _, (fT (fT (fT (fT (O) I) V) Z) ad), (HS.forget z), rfl, (by exact vp_not (k := k) (b := b) (i := i) (by omega) (by omega) (by omega) (vpI_not (by omega)))⟩
       ·
        try simp only [BS] at a8
        refine wR 1 [(2, .o (iI (((l.getD k default).blocks.getD b default).ins.getD i default).i.op)), (7, .o (iI (((l.getD k default).blocks.getD b default).ins.getD i default).i.op)), (13, .o (iI (((l.getD k default).blocks.getD b default).ins.getD i default).i.n))] 114 131 [] [(131, (.bool ((((((l.getD k default).blocks.getD b default).ins.getD i default).i.op == 34) || ((((l.getD k default).blocks.getD b default).ins.getD i default).i.op == 35)) && (decide ((lens.length : Int) ≤ (((l.getD k default).blocks.getD b default).ins.getD i default).i.n)))))] (vA (ql 3 0 (HS.hc z (i := 0) rfl) rfl rfl) (vA (fun (J : ((((l.getD k default).blocks.getD b default).ins.getD i default).i.op == 34) = false) => (ql 3 0 (HS.hc z (i := 0) rfl) rfl rfl)) (vA (fun (J : (((((l.getD k default).blocks.getD b default).ins.getD i default).i.op == 34) || ((((l.getD k default).blocks.getD b default).ins.getD i default).i.op == 35)) = true) => (ql 2 4 (HS.hc z (i := 0) rfl) rfl rfl)) trivial))) rfl fun _ => ?_
        refine am 1 2 (v := ((((((l.getD k default).blocks.getD b default).ins.getD i default).i.op == 34) || ((((l.getD k default).blocks.getD b default).ins.getD i default).i.op == 35)) && (decide ((lens.length : Int) ≤ (((l.getD k default).blocks.getD b default).ins.getD i default).i.n)))) rfl rfl rfl rfl (fun a9 => ?_) (fun a9 => ?_)
        ·
         try simp only [BS] at a9
         refine wR 1 [] 4 4 [] [(4, (.bool false))] trivial rfl fun _ => ?_
         refine ah ⟨.inr rfl, _, rfl, false, _, (fT (fT (fT (fT (O) I) V) Z) ad), (HS.forget z), rfl, (by exact vp_not (k := k) (b := b) (i := i) (by omega) (by omega) (by omega) (vpI_not (by omega)))⟩
        ·
         try simp only [BS] at a9
         refine wR 1 [] 75 76 [8] [(8, (iI ((i : Int) + 1)))] (vA (vi (n := (i : Int) + 1) (by omega)) trivial) rfl fun _ => ?_
         refine ds _ _ _ ?_ ⟨i + 1, _, (ad), (HS.sub z (List.sublist_append_left _ _)), ⟨rfl, rfl, rfl, rfl, rfl, rfl, rfl, rfl, rfl, rfl, trivial⟩, rfl, (by omega), (by exact b8 hia (kU.2 ⟨by omega, by omega⟩))⟩
         omega
      ·
       try simp only [BS] at a7
       refine wR 1 [] 61 62 [7] [(7, (iI ((b : Int) + 1)))] (vA (vi (n := (b : Int) + 1) (by omega)) trivial) rfl fun _ => ?_
       refine dn _ _ _ ?_ ⟨b + 1, _, (fT (Z) ad), A, ⟨rfl, rfl, rfl, rfl, rfl, rfl, rfl, rfl, trivial⟩, rfl, (by omega), (by exact b8 hba (dC hia (by omega)))⟩
       omega
     ·
      try simp only [BS] at a6
      refine wR 1 [] 45 46 [6] [(6, (iI ((k : Int) + 1)))] (vA (vi (n := (k : Int) + 1) (by omega)) trivial) rfl fun _ => ?_
      refine dl _ _ _ ?_ ⟨k + 1, _, (fT (fT (I) V) Z), ap, ⟨rfl, rfl, rfl, trivial⟩, rfl, (by omega), (by exact b8 hka (vpF_yes hval (dC hba (by omega))))⟩
      omega
   ·
    try simp only [BS] at a5
    refine wR 1 [] 4 4 [] [(4, (.bool true))] trivial rfl fun _ => ?_
    refine ah ⟨.inr rfl, _, rfl, true, _, (fT (O) I), (HS.forget ag), rfl, (by exact vp_yes (by omega) (dC hqa (by omega)) (dC hka (by omega)))⟩
end Go.Proofs.YtlabedbmgmfbaaaDoor.m8
