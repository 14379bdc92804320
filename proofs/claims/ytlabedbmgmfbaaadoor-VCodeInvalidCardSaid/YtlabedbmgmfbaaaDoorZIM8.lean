/-
 Which programs of virtual code are valid: the program and the reference, each by a symbolic run. No condition but bounds on lengths.
-/
import Derived.Test.YtlabedbmgmfbaaaDoorZIM7
noncomputable section
namespace Go.Proofs.YtlabedbmgmfbaaaDoor.m8
open Go.R
set_option maxRecDepth 10000
set_option linter.unusedVariables false
open m1 m2 m3 m4 m5 m6 m7
set_option maxHeartbeats 2000000 in
theorem vprog_c (ex : FuncId) {a_l : Option Addr} {k_l : Nat} (l : List VFnT) {a_lens : Option Addr} {k_lens : Nat} (lens : List Int) {F : Fz} {H : Heap} {R : List Fp} (hs : HS (.of H []) F H [] R) (hl : SR F (.slice a_l l.length k_l) l) (hlens : SR F (.slice a_lens lens.length k_lens) lens) (hT : TB 37 tabC F) (hbd : lens.length ≤ 1073741824 ∧ ∀ k j, ((l.getD k default).blocks.getD j default).ins.length ≤ 9223372036854775807) : C Tryd.prog 1 (KT 60 ex 37 tabC) 41 [(.slice a_l l.length k_l), (.slice a_lens lens.length k_lens)] H fun v H' => ∃ (r : Bool) (F' : Fz), Fz.le F F' ∧ HS (.of H []) F' H' [] R ∧ v = .bool r ∧ r = vpV l lens := by
 refine aJ Tryd.func41 rfl rfl ?_
 refine ao 1 rfl ?_
 refine wR 3 [] 4 4 [] [(4, (.bool false))] trivial rfl fun _ => ?_
 refine wR 1 [] 13 25 [] [(25, (.bool (((decide ((l.length : Int) < 1)) || (decide ((8 : Int) < (l.length : Int)))) || (decide ((4 : Int) < (lens.length : Int))))))] trivial rfl fun _ => ?_
 refine aj 1 3 (v := (((decide ((l.length : Int) < 1)) || (decide ((8 : Int) < (l.length : Int)))) || (decide ((4 : Int) < (lens.length : Int))))) rfl rfl rfl rfl (fun c3 => ?_) (fun c3 => ?_)
 ·
  try simp only [BS] at c3
  refine wR 1 [] 4 4 [] [(4, (.bool false))] trivial rfl fun _ => ?_
  refine ah ⟨.inr rfl, _, rfl, false, _, fR, (HS.forget hs), rfl, (by exact vp_lim (by omega))⟩
 ·
  try simp only [BS] at c3
  refine wR 2 [] 26 28 [] [(26, (.slice a_lens lens.length k_lens)), (27, (iI (lens.length : Int))), (28, (iI 0))] trivial rfl fun _ => ?_
  refine aE (fun (mm : Nat) f H' => ∃ (q : Nat) (F' : Fz), Fz.le F F' ∧ HS (Base.of H []) F' H' [] R ∧ aS f [(0, (.slice a_l l.length k_l)), (1, (.slice a_lens lens.length k_lens)), (26, (.slice a_lens lens.length k_lens)), (27, (iI (lens.length : Int))), (28, (iI (q : Int)))] ∧ mm = lens.length - q ∧ (q ≤ lens.length) ∧ (∀ j, j < q → lenOK (lens.getD j default) = true)) _ ⟨0, _, fR, hs, ⟨rfl, rfl, rfl, rfl, rfl, trivial⟩, rfl, (by omega), (by exact bQ)⟩ ?_
  rintro hu f6 H6 ⟨q, F6, T, a4, dd, rfl, hq, hqa⟩ eb
  refine aF _ dd (fun _ => ?_)
  clear dd
  replace hT := hT.mono T
  replace hl := hl.mono T
  replace hlens := hlens.mono T
  refine ao 1 rfl ?_
  refine wR 2 [] 29 29 [] [(29, (.bool (decide ((q : Int) < (lens.length : Int)))))] trivial rfl fun _ => ?_
  refine aj 4 6 (v := (decide ((q : Int) < (lens.length : Int)))) rfl rfl rfl rfl (fun c8 => ?_) (fun c8 => ?_)
  ·
   try simp only [BS] at c8
   obtain ⟨hn, dk⟩ := Sv.view (SR.sv hlens a4)
   have ht := fI (dk q)
   refine wR 2 [(1, .o (iI (lens.getD q 0)))] 30 31 [6] [(6, (iI (lens.getD q 0)))] (vA (Sv.ix (j := (q : Int)) (SR.sv hlens a4) (by omega) (by omega)) (vA (ql 3 0 (vI (dk q) (by omega)) rfl rfl) trivial)) rfl fun _ => ?_
   refine wR 1 [] 32 37 [] [(37, (.bool ((decide ((lens.getD q 0) < 1)) || (decide ((16 : Int) < (lens.getD q 0))))))] trivial rfl fun _ => ?_
   refine aj 1 2 (v := ((decide ((lens.getD q 0) < 1)) || (decide ((16 : Int) < (lens.getD q 0))))) rfl rfl rfl rfl (fun b0 => ?_) (fun b0 => ?_)
   ·
    try simp only [BS] at b0
    refine wR 1 [] 4 4 [] [(4, (.bool false))] trivial rfl fun _ => ?_
    refine ah ⟨.inr rfl, _, rfl, false, _, (T), (HS.forget a4), rfl, (by exact vp_len (cr (k := q) (by omega) (decide_eq_false (show ¬ (1 ≤ lens.getD q 0 ∧ lens.getD q 0 ≤ 16) by omega))))⟩
   ·
    try simp only [BS] at b0
    refine wR 1 [] 28 28 [38] [(28, (iI ((q : Int) + 1)))] (vA (vi (n := (q : Int) + 1) (by omega)) trivial) rfl fun _ => ?_
    refine eb _ _ _ ?_ ⟨q + 1, _, (T), a4, ⟨rfl, rfl, rfl, rfl, rfl, trivial⟩, rfl, (by omega), (by exact bj hqa (decide_eq_true (show 1 ≤ lens.getD q 0 ∧ lens.getD q 0 ≤ 16 by omega)))⟩
    omega
  ·
   try simp only [BS] at c8
   refine wR 2 [] 39 41 [] [(39, (.slice a_l l.length k_l)), (40, (iI (l.length : Int))), (41, (iI 0))] trivial rfl fun _ => ?_
   refine aE (fun (mm : Nat) f H' => ∃ (k : Nat) (F' : Fz), Fz.le F6 F' ∧ HS (Base.of H []) F' H' [] R ∧ aS f [(0, (.slice a_l l.length k_l)), (1, (.slice a_lens lens.length k_lens)), (39, (.slice a_l l.length k_l)), (40, (iI (l.length : Int))), (41, (iI (k : Int)))] ∧ mm = l.length - k ∧ (k ≤ l.length) ∧ (∀ j, j < k → vpF l (lens.length : Int) (l.getD j default) = true)) _ ⟨0, _, fR, a4, ⟨rfl, rfl, rfl, rfl, rfl, trivial⟩, rfl, (by omega), (by exact bQ)⟩ ?_
   rintro f7 ho g6 ⟨k, g4, O, av, ch, rfl, hk, hka⟩ dv
   refine aF _ ch (fun _ => ?_)
   clear ch
   replace hT := hT.mono O
   replace hl := hl.mono O
   refine ao 1 rfl ?_
   refine wR 2 [] 42 42 [] [(42, (.bool (decide ((k : Int) < (l.length : Int)))))] trivial rfl fun _ => ?_
   refine aj 4 5 (v := (decide ((k : Int) < (l.length : Int)))) rfl rfl rfl rfl (fun b1 => ?_) (fun b1 => ?_)
   ·
    try simp only [BS] at b1
    refine ab ?_
    obtain ⟨A, cv⟩ := Sv.view (SR.sv hl av)
    obtain ⟨ec, em, J⟩ := VFnT.fx (cv k)
    let ag : Value := (.agg ⟨[(iI (l.getD k default).params), (iI (l.getD k default).regs), (.slice (cA (A k) 2) (l.getD k default).blocks.length (cK (A k) 2))]⟩)
    refine wRo 2 0 [(1, .o ag)] 43 44 [] [(44, ag)] (vA (Sv.ix (j := (k : Int)) (SR.sv hl av) (by omega) (by omega)) (vA (qn 24 0 3 (VFnT.vw (cv k) (by omega)) rfl rfl rfl rfl) trivial)) rfl fun _ => ?_
    refine aP (bp av rfl) rfl rfl ?_
    rintro _ g7 _ ⟨a8, rfl, a5, _⟩
    have a5 : HS _ _ _ [[(a8, .cells [(iI 0), (iI 0), (.slice none 0 0)] none false)]] _ := a5
    refine aD (ax (q := 0) a5 rfl rfl rfl rfl rfl rfl rfl rfl rfl) rfl ?_
    rintro _ g9 _ ⟨aq, _⟩
    let c6 : Fp := [(a8, .cells [(iI (l.getD k default).params), (iI (l.getD k default).regs), (.slice (cA (A k) 2) (l.getD k default).blocks.length (cK (A k) 2))] none false)]
    have aq : HS _ _ _ [c6] _ := aq
    refine ai 3 rfl ?_
    refine ab ?_
    refine wRo 1 0 [(0, .o ag)] 45 45 [] [(45, ag)] (vA (qn 24 0 3 (HS.hc aq (i := 0) rfl) rfl rfl rfl rfl) trivial) rfl fun _ => ?_
    refine aC (aw rfl rfl rfl) rfl rfl (m3.valid_c ex (⟨(l.getD k default).params, (l.getD k default).regs, (l.getD k default).blocks⟩ : VFnT) (HS.call aq) (by omega) (by omega) J hT (by exact fun j => hbd.2 k j)) ?_
    rintro _ ha ⟨hv, d2, U, Z, rfl, rfl⟩
    replace Z := HS.back aq rfl Z
    have Z : HS _ _ _ [_] _ := Z
    replace hl := hl.mono U
    replace J := J.mono U
    refine wRo 1 2 [] 47 47 [] [(47, (.bool (!(eS (⟨(l.getD k default).params, (l.getD k default).regs, (l.getD k default).blocks⟩ : VFnT)))))] trivial rfl fun _ => ?_
    refine ai 1 rfl ?_
    refine aj 1 2 (v := (!(eS (⟨(l.getD k default).params, (l.getD k default).regs, (l.getD k default).blocks⟩ : VFnT)))) rfl rfl rfl rfl (fun a9 => ?_) (fun a9 => ?_)
    ·
     try simp only [BS] at a9
     refine wR 1 [] 4 4 [] [(4, (.bool false))] trivial rfl fun _ => ?_
     refine ah ⟨.inr rfl, _, rfl, false, _, (fT (fT (T) O) U), (HS.forget Z), rfl, (by exact vp_f (cr (k := k) (by omega) (vpF_no (show eS (l.getD k default) = false by assumption))))⟩
    ·
     try simp only [BS] at a9
     have hval : eS (l.getD k default) = true := a9
     have hvb := val_bd hval
     refine wR 2 [(1, .o (.slice (cA (A k) 2) (l.getD k default).blocks.length (cK (A k) 2)))] 48 51 [] [(49, (.slice (cA (A k) 2) (l.getD k default).blocks.length (cK (A k) 2))), (50, (iI ((l.getD k default).blocks.length : Int))), (51, (iI 0))] (vA (ql 22 2 (HS.hc Z (i := 0) rfl) rfl rfl) trivial) rfl fun _ => ?_
     refine aE (fun (mm : Nat) f H' => ∃ (b : Nat) (F' : Fz), Fz.le d2 F' ∧ HS (Base.of H []) F' H' [c6] R ∧ aS f [(0, (.slice a_l l.length k_l)), (1, (.slice a_lens lens.length k_lens)), (8, (.pointer (some ⟨a8, 0, none⟩))), (39, (.slice a_l l.length k_l)), (40, (iI (l.length : Int))), (41, (iI (k : Int))), (42, (.bool (decide ((k : Int) < (l.length : Int))))), (44, ag), (45, ag), (46, (.bool (eS (⟨(l.getD k default).params, (l.getD k default).regs, (l.getD k default).blocks⟩ : VFnT)))), (47, (.bool (!(eS (⟨(l.getD k default).params, (l.getD k default).regs, (l.getD k default).blocks⟩ : VFnT))))), (49, (.slice (cA (A k) 2) (l.getD k default).blocks.length (cK (A k) 2))), (50, (iI ((l.getD k default).blocks.length : Int))), (51, (iI (b : Int)))] ∧ mm = (l.getD k default).blocks.length - b ∧ (b ≤ (l.getD k default).blocks.length) ∧ (∀ j, j < b → vpB l (lens.length : Int) ((l.getD k default).blocks.getD j default) = true)) _ ⟨0, _, fR, Z, ⟨rfl, rfl, rfl, rfl, rfl, rfl, rfl, rfl, rfl, rfl, rfl, rfl, rfl, rfl, trivial⟩, rfl, (by omega), (by exact bQ)⟩ ?_
     rintro f9 hp he ⟨b, ea, V, a0, ci, rfl, hb, hba⟩ d1
     refine aF _ ci (fun _ => ?_)
     clear ci
     replace hl := hl.mono V
     replace J := J.mono V
     have hbk := hbd.2 k b
     refine ao 1 rfl ?_
     refine wR 2 [] 52 52 [] [(52, (.bool (decide ((b : Int) < ((l.getD k default).blocks.length : Int)))))] trivial rfl fun _ => ?_
     refine aj 4 5 (v := (decide ((b : Int) < ((l.getD k default).blocks.length : Int)))) rfl rfl rfl rfl (fun b2 => ?_) (fun b2 => ?_)
     ·
      try simp only [BS] at b2
      refine ab ?_
      obtain ⟨E, c0⟩ := Sv.view (SR.sv J a0)
      obtain ⟨es, et, ez, e0, ap⟩ := BlkT.fx (c0 b)
      let c7 : Value := (.agg ⟨[(.slice (cA (E b) 0) ((l.getD k default).blocks.getD b default).ins.length (cK (E b) 0)), (iI ((l.getD k default).blocks.getD b default).fin), (iI ((l.getD k default).blocks.getD b default).reg), (iI ((l.getD k default).blocks.getD b default).tgt), (iI ((l.getD k default).blocks.getD b default).els)]⟩)
      refine wRo 2 0 [(1, .o c7)] 53 54 [] [(54, c7)] (vA (Sv.ix (j := (b : Int)) (SR.sv J a0) (by omega) (by omega)) (vA (qn 42 0 5 (BlkT.vw (c0 b) (by omega)) rfl rfl rfl rfl) trivial)) rfl fun _ => ?_
      refine aP (bp a0 rfl) rfl rfl ?_
      rintro _ hf _ ⟨bl, rfl, a6, _⟩
      have a6 : HS _ _ _ [_, [(bl, .cells [(.slice none 0 0), (iI 0), (iI 0), (iI 0), (iI 0)] none false)]] _ := a6
      refine aD (ax (q := 1) a6 rfl rfl rfl rfl rfl rfl rfl rfl rfl) rfl ?_
      rintro _ hg _ ⟨a1, _⟩
      let dl : Fp := [(bl, .cells [(.slice (cA (E b) 0) ((l.getD k default).blocks.getD b default).ins.length (cK (E b) 0)), (iI ((l.getD k default).blocks.getD b default).fin), (iI ((l.getD k default).blocks.getD b default).reg), (iI ((l.getD k default).blocks.getD b default).tgt), (iI ((l.getD k default).blocks.getD b default).els)] none false)]
      have a1 : HS _ _ _ [_, dl] _ := a1
      refine ai 2 rfl ?_
      refine wR 2 [(1, .o (.slice (cA (E b) 0) ((l.getD k default).blocks.getD b default).ins.length (cK (E b) 0)))] 55 58 [] [(56, (.slice (cA (E b) 0) ((l.getD k default).blocks.getD b default).ins.length (cK (E b) 0))), (57, (iI (((l.getD k default).blocks.getD b default).ins.length : Int))), (58, (iI 0))] (vA (ql 40 0 (HS.hc a1 (i := 1) rfl) rfl rfl) trivial) rfl fun _ => ?_
      refine aE (fun (mm : Nat) f H' => ∃ (i : Nat) (F' : Fz), Fz.le ea F' ∧ HS (Base.of H []) F' H' [c6, dl] R ∧ aS f [(0, (.slice a_l l.length k_l)), (1, (.slice a_lens lens.length k_lens)), (8, (.pointer (some ⟨a8, 0, none⟩))), (10, (.pointer (some ⟨bl, 0, none⟩))), (39, (.slice a_l l.length k_l)), (40, (iI (l.length : Int))), (41, (iI (k : Int))), (42, (.bool (decide ((k : Int) < (l.length : Int))))), (44, ag), (45, ag), (46, (.bool (eS (⟨(l.getD k default).params, (l.getD k default).regs, (l.getD k default).blocks⟩ : VFnT)))), (47, (.bool (!(eS (⟨(l.getD k default).params, (l.getD k default).regs, (l.getD k default).blocks⟩ : VFnT))))), (49, (.slice (cA (A k) 2) (l.getD k default).blocks.length (cK (A k) 2))), (50, (iI ((l.getD k default).blocks.length : Int))), (51, (iI (b : Int))), (52, (.bool (decide ((b : Int) < ((l.getD k default).blocks.length : Int))))), (54, c7), (56, (.slice (cA (E b) 0) ((l.getD k default).blocks.getD b default).ins.length (cK (E b) 0))), (57, (iI (((l.getD k default).blocks.getD b default).ins.length : Int))), (58, (iI (i : Int)))] ∧ mm = ((l.getD k default).blocks.getD b default).ins.length - i ∧ (i ≤ ((l.getD k default).blocks.getD b default).ins.length) ∧ (∀ j, j < i → vpI l (lens.length : Int) (((l.getD k default).blocks.getD b default).ins.getD j default) = true)) _ ⟨0, _, fR, a1, ⟨rfl, rfl, rfl, rfl, rfl, rfl, rfl, rfl, rfl, rfl, rfl, rfl, rfl, rfl, rfl, rfl, rfl, rfl, rfl, rfl, trivial⟩, rfl, (by omega), (by exact bQ)⟩ ?_
      rintro gj hr hh ⟨i, g5, I, a2, co, rfl, hi, hia⟩ a3
      refine aF _ co (fun _ => ?_)
      clear co
      replace hl := hl.mono I
      replace ap := ap.mono I
      have hnn : i < ((l.getD k default).blocks.getD b default).ins.length → ((((l.getD k default).blocks.getD b default).ins.getD i default).i.op = 6 ∨ (((l.getD k default).blocks.getD b default).ins.getD i default).i.op = 34 ∨ (((l.getD k default).blocks.getD b default).ins.getD i default).i.op = 35) → 0 ≤ (((l.getD k default).blocks.getD b default).ins.getD i default).i.n := fun q1 q2 => val_nn hval (by omega) q1 q2
      refine ao 1 rfl ?_
      refine wR 2 [] 59 59 [] [(59, (.bool (decide ((i : Int) < (((l.getD k default).blocks.getD b default).ins.length : Int)))))] trivial rfl fun _ => ?_
      refine aj 4 5 (v := (decide ((i : Int) < (((l.getD k default).blocks.getD b default).ins.length : Int)))) rfl rfl rfl rfl (fun b3 => ?_) (fun b3 => ?_)
      ·
       try simp only [BS] at b3
       refine ab ?_
       obtain ⟨ad, c4⟩ := Sv.view (SR.sv ap a2)
       obtain ⟨e1, e2, e3, e4, e5, fd⟩ := VInT.fx (c4 i)
       let dn : Value := (.agg ⟨[(iI (((l.getD k default).blocks.getD b default).ins.getD i default).i.op), (iI (((l.getD k default).blocks.getD b default).ins.getD i default).i.a), (iI (((l.getD k default).blocks.getD b default).ins.getD i default).i.b), (iI (((l.getD k default).blocks.getD b default).ins.getD i default).i.c), (iI (((l.getD k default).blocks.getD b default).ins.getD i default).i.n), (.slice (cA (ad i) 5) (((l.getD k default).blocks.getD b default).ins.getD i default).args.length (cK (ad i) 5))]⟩)
       refine wRo 2 0 [(1, .o dn)] 60 61 [] [(61, dn)] (vA (Sv.ix (j := (i : Int)) (SR.sv ap a2) (by omega) (by omega)) (vA (qn 47 0 6 (VInT.vw (c4 i) (by omega)) rfl rfl rfl rfl) trivial)) rfl fun _ => ?_
       refine aP (bp a2 rfl) rfl rfl ?_
       rintro _ hj _ ⟨c9, rfl, a7, _⟩
       have a7 : HS _ _ _ [_, _, [(c9, .cells [(iI 0), (iI 0), (iI 0), (iI 0), (iI 0), (.slice none 0 0)] none false)]] _ := a7
       refine aD (ax (q := 2) a7 rfl rfl rfl rfl rfl rfl rfl rfl rfl) rfl ?_
       rintro _ hm _ ⟨z, _⟩
       have z : HS _ _ _ [_, _, [(c9, .cells [(iI (((l.getD k default).blocks.getD b default).ins.getD i default).i.op), (iI (((l.getD k default).blocks.getD b default).ins.getD i default).i.a), (iI (((l.getD k default).blocks.getD b default).ins.getD i default).i.b), (iI (((l.getD k default).blocks.getD b default).ins.getD i default).i.c), (iI (((l.getD k default).blocks.getD b default).ins.getD i default).i.n), (.slice (cA (ad i) 5) (((l.getD k default).blocks.getD b default).ins.getD i default).args.length (cK (ad i) 5))] none false)]] _ := z
       refine ai 2 rfl ?_
       refine wR 3 [(2, .o (iI (((l.getD k default).blocks.getD b default).ins.getD i default).i.op))] 62 64 [] [(64, (iI (((l.getD k default).blocks.getD b default).ins.getD i default).i.op))] (vA (ql 3 0 (HS.hc z (i := 2) rfl) rfl rfl) trivial) rfl fun _ => ?_
       refine wR 1 [] 65 66 [] [(65, (.bool ((((l.getD k default).blocks.getD b default).ins.getD i default).i.op == 6)))] trivial rfl fun _ => ?_
       refine aj 1 2 (v := ((((l.getD k default).blocks.getD b default).ins.getD i default).i.op == 6)) rfl rfl rfl rfl (fun b4 => ?_) (fun b4 => ?_)
       ·
        try simp only [BS] at b4
        obtain ⟨f2, c5⟩ := Sv.view (SR.sv hl z)
        obtain ⟨e6, e9, fi⟩ := VFnT.fx (c5 (((l.getD k default).blocks.getD b default).ins.getD i default).i.n.toNat)
        refine wRD 1 [(2, .o (iI (((l.getD k default).blocks.getD b default).ins.getD i default).i.n)), (8, .o (.slice (cA (ad i) 5) (((l.getD k default).blocks.getD b default).ins.getD i default).args.length (cK (ad i) 5))), (13, .o (iI (((l.getD k default).blocks.getD b default).ins.getD i default).i.n)), (16, .o (iI ((l.getD (((l.getD k default).blocks.getD b default).ins.getD i default).i.n.toNat default).params)))] 67 85 [] [(85, (.bool ((decide ((l.length : Int) ≤ (((l.getD k default).blocks.getD b default).ins.getD i default).i.n)) || (((((l.getD k default).blocks.getD b default).ins.getD i default).args.length : Int) != (l.getD (((l.getD k default).blocks.getD b default).ins.getD i default).i.n.toNat default).params))))] (vA (ql 2 4 (hc0 (HS.hc z (i := 2) rfl)) rfl rfl) (vA (fun (g1 : (decide ((l.length : Int) ≤ (((l.getD k default).blocks.getD b default).ins.getD i default).i.n)) = false) => (ql 25 5 (hc0 (HS.hc z (i := 2) rfl)) rfl rfl)) (vA (fun (g1 : (decide ((l.length : Int) ≤ (((l.getD k default).blocks.getD b default).ins.getD i default).i.n)) = false) => (ql 2 4 (hc0 (HS.hc z (i := 2) rfl)) rfl rfl)) (vA (fun (g1 : (decide ((l.length : Int) ≤ (((l.getD k default).blocks.getD b default).ins.getD i default).i.n)) = false) => (Sv.ix (j := (((l.getD k default).blocks.getD b default).ins.getD i default).i.n) (SR.sv hl z) (by (try simp only [BS] at g1); omega) (by (try simp only [BS] at g1); omega))) (vA (fun (g1 : (decide ((l.length : Int) ≤ (((l.getD k default).blocks.getD b default).ins.getD i default).i.n)) = false) => (ql 3 0 (hc0 (VFnT.vw (c5 (((l.getD k default).blocks.getD b default).ins.getD i default).i.n.toNat) (by (try simp only [BS] at g1); omega))) rfl rfl)) trivial))))) rfl rfl fun _ => ?_
        refine aj 1 3 (v := ((decide ((l.length : Int) ≤ (((l.getD k default).blocks.getD b default).ins.getD i default).i.n)) || (((((l.getD k default).blocks.getD b default).ins.getD i default).args.length : Int) != (l.getD (((l.getD k default).blocks.getD b default).ins.getD i default).i.n.toNat default).params))) rfl rfl rfl rfl (fun b5 => ?_) (fun b5 => ?_)
        ·
         try simp only [BS] at b5
         refine wR 1 [] 4 4 [] [(4, (.bool false))] trivial rfl fun _ => ?_
         refine ah ⟨.inr rfl, _, rfl, false, _, (fT (fT (fT (fT (T) O) U) V) I), (HS.forget z), rfl, (by exact vp_not (k := k) (b := b) (i := i) (by omega) (by omega) (by omega) (iT (by omega)))⟩
        ·
         try simp only [BS] at b5
         refine wR 1 [] 58 58 [95] [(58, (iI ((i : Int) + 1)))] (vA (vi (n := (i : Int) + 1) (by omega)) trivial) rfl fun _ => ?_
         refine a3 _ _ _ ?_ ⟨i + 1, _, (I), (HS.sub z (List.sublist_append_left _ _)), ⟨rfl, rfl, rfl, rfl, rfl, rfl, rfl, rfl, rfl, rfl, rfl, rfl, rfl, rfl, rfl, rfl, rfl, rfl, rfl, rfl, trivial⟩, rfl, (by omega), (by exact bj hia (fE.2 ⟨by omega, by omega⟩))⟩
         omega
       ·
        try simp only [BS] at b4
        refine wR 1 [] 86 87 [] [(86, (.bool ((((l.getD k default).blocks.getD b default).ins.getD i default).i.op == 34)))] trivial rfl fun _ => ?_
        refine aj 1 0 (v := ((((l.getD k default).blocks.getD b default).ins.getD i default).i.op == 34)) rfl rfl rfl rfl (fun ar => ?_) (fun ar => ?_)
        ·
         have b6 := ar
         try simp only [BS] at b6
         refine aX 1 (v := ((((l.getD k default).blocks.getD b default).ins.getD i default).i.op == 34)) rfl ar rfl rfl ?_
         refine wR 1 [(2, .o (iI (((l.getD k default).blocks.getD b default).ins.getD i default).i.n))] 89 94 [] [(94, (.bool (decide ((lens.length : Int) ≤ (((l.getD k default).blocks.getD b default).ins.getD i default).i.n))))] (vA (ql 2 4 (HS.hc z (i := 2) rfl) rfl rfl) trivial) rfl fun _ => ?_
         refine aj 1 3 (v := (decide ((lens.length : Int) ≤ (((l.getD k default).blocks.getD b default).ins.getD i default).i.n))) rfl rfl rfl rfl (fun b7 => ?_) (fun b7 => ?_)
         ·
          try simp only [BS] at b7
          refine wR 1 [] 4 4 [] [(4, (.bool false))] trivial rfl fun _ => ?_
          refine ah ⟨.inr rfl, _, rfl, false, _, (fT (fT (fT (fT (T) O) U) V) I), (HS.forget z), rfl, (by exact vp_not (k := k) (b := b) (i := i) (by omega) (by omega) (by omega) (iT (by omega)))⟩
         ·
          try simp only [BS] at b7
          refine wR 1 [] 58 58 [95] [(58, (iI ((i : Int) + 1)))] (vA (vi (n := (i : Int) + 1) (by omega)) trivial) rfl fun _ => ?_
          refine a3 _ _ _ ?_ ⟨i + 1, _, (I), (HS.sub z (List.sublist_append_left _ _)), ⟨rfl, rfl, rfl, rfl, rfl, rfl, rfl, rfl, rfl, rfl, rfl, rfl, rfl, rfl, rfl, rfl, rfl, rfl, rfl, rfl, trivial⟩, rfl, (by omega), (by exact bj hia (fE.2 ⟨by omega, by omega⟩))⟩
          omega
        ·
         have b6 := ar
         try simp only [BS] at b6
         refine wR 1 [] 86 88 [] [(86, (.bool ((((l.getD k default).blocks.getD b default).ins.getD i default).i.op == 35)))] trivial rfl fun _ => ?_
         refine aj 1 3 (v := ((((l.getD k default).blocks.getD b default).ins.getD i default).i.op == 35)) rfl rfl rfl rfl (fun b9 => ?_) (fun b9 => ?_)
         ·
          try simp only [BS] at b9
          refine wR 1 [(2, .o (iI (((l.getD k default).blocks.getD b default).ins.getD i default).i.n))] 89 94 [] [(94, (.bool (decide ((lens.length : Int) ≤ (((l.getD k default).blocks.getD b default).ins.getD i default).i.n))))] (vA (ql 2 4 (HS.hc z (i := 2) rfl) rfl rfl) trivial) rfl fun _ => ?_
          refine aj 1 3 (v := (decide ((lens.length : Int) ≤ (((l.getD k default).blocks.getD b default).ins.getD i default).i.n))) rfl rfl rfl rfl (fun cd => ?_) (fun cd => ?_)
          ·
           try simp only [BS] at cd
           refine wR 1 [] 4 4 [] [(4, (.bool false))] trivial rfl fun _ => ?_
           refine ah ⟨.inr rfl, _, rfl, false, _, (fT (fT (fT (fT (T) O) U) V) I), (HS.forget z), rfl, (by exact vp_not (k := k) (b := b) (i := i) (by omega) (by omega) (by omega) (iT (by omega)))⟩
          ·
           try simp only [BS] at cd
           refine wR 1 [] 58 58 [95] [(58, (iI ((i : Int) + 1)))] (vA (vi (n := (i : Int) + 1) (by omega)) trivial) rfl fun _ => ?_
           refine a3 _ _ _ ?_ ⟨i + 1, _, (I), (HS.sub z (List.sublist_append_left _ _)), ⟨rfl, rfl, rfl, rfl, rfl, rfl, rfl, rfl, rfl, rfl, rfl, rfl, rfl, rfl, rfl, rfl, rfl, rfl, rfl, rfl, trivial⟩, rfl, (by omega), (by exact bj hia (fE.2 ⟨by omega, by omega⟩))⟩
           omega
         ·
          try simp only [BS] at b9
          refine wR 1 [] 58 58 [95] [(58, (iI ((i : Int) + 1)))] (vA (vi (n := (i : Int) + 1) (by omega)) trivial) rfl fun _ => ?_
          refine a3 _ _ _ ?_ ⟨i + 1, _, (I), (HS.sub z (List.sublist_append_left _ _)), ⟨rfl, rfl, rfl, rfl, rfl, rfl, rfl, rfl, rfl, rfl, rfl, rfl, rfl, rfl, rfl, rfl, rfl, rfl, rfl, rfl, trivial⟩, rfl, (by omega), (by exact bj hia (fE.2 ⟨by omega, by omega⟩))⟩
          omega
      ·
       try simp only [BS] at b3
       refine wR 1 [] 51 51 [96] [(51, (iI ((b : Int) + 1)))] (vA (vi (n := (b : Int) + 1) (by omega)) trivial) rfl fun _ => ?_
       refine d1 _ _ _ ?_ ⟨b + 1, _, (fT (V) I), (HS.sub a2 (List.sublist_append_left _ _)), ⟨rfl, rfl, rfl, rfl, rfl, rfl, rfl, rfl, rfl, rfl, rfl, rfl, rfl, rfl, trivial⟩, rfl, (by omega), (by exact bj hba (cu hia (by omega)))⟩
       omega
     ·
      try simp only [BS] at b2
      refine wR 1 [] 41 41 [97] [(41, (iI ((k : Int) + 1)))] (vA (vi (n := (k : Int) + 1) (by omega)) trivial) rfl fun _ => ?_
      refine dv _ _ _ ?_ ⟨k + 1, _, (fT (fT (O) U) V), (HS.sub a0 (List.sublist_append_left _ _)), ⟨rfl, rfl, rfl, rfl, rfl, trivial⟩, rfl, (by omega), (by exact bj hka (vpF_yes hval (cu hba (by omega))))⟩
      omega
   ·
    try simp only [BS] at b1
    refine wR 1 [] 4 4 [] [(4, (.bool true))] trivial rfl fun _ => ?_
    refine ah ⟨.inr rfl, _, rfl, true, _, (fT (T) O), (HS.forget av), rfl, (by exact vp_yes (by omega) (cu hqa (by omega)) (cu hka (by omega)))⟩
set_option maxHeartbeats 2000000 in
theorem rprog_c (ex : FuncId) {a_l : Option Addr} {k_l : Nat} (l : List VFnT) {a_lens : Option Addr} {k_lens : Nat} (lens : List Int) {F : Fz} {H : Heap} {R : List Fp} (hs : HS (.of H []) F H [] R) (hl : SR F (.slice a_l l.length k_l) l) (hlens : SR F (.slice a_lens lens.length k_lens) lens) (hT : TB 37 tabC F) (hbd : lens.length ≤ 1073741824 ∧ ∀ k j, ((l.getD k default).blocks.getD j default).ins.length ≤ 9223372036854775807) : C Tryd.prog 1 (KT 60 ex 37 tabC) 42 [(.slice a_l l.length k_l), (.slice a_lens lens.length k_lens)] H fun v H' => ∃ (r : Bool) (F' : Fz), Fz.le F F' ∧ HS (.of H []) F' H' [] R ∧ v = .bool r ∧ r = vpV l lens := by
 refine aJ Tryd.func42 rfl rfl ?_
 refine ao 1 rfl ?_
 refine wR 3 [] 4 4 [] [(4, (.bool false))] trivial rfl fun _ => ?_
 refine wR 1 [] 10 22 [] [(22, (.bool (((decide ((l.length : Int) < 1)) || (decide ((8 : Int) < (l.length : Int)))) || (decide ((4 : Int) < (lens.length : Int))))))] trivial rfl fun _ => ?_
 refine aj 1 3 (v := (((decide ((l.length : Int) < 1)) || (decide ((8 : Int) < (l.length : Int)))) || (decide ((4 : Int) < (lens.length : Int))))) rfl rfl rfl rfl (fun c3 => ?_) (fun c3 => ?_)
 ·
  try simp only [BS] at c3
  refine wR 1 [] 4 4 [] [(4, (.bool false))] trivial rfl fun _ => ?_
  refine ah ⟨.inr rfl, _, rfl, false, _, fR, (HS.forget hs), rfl, (by exact vp_lim (by omega))⟩
 ·
  try simp only [BS] at c3
  refine wR 2 [] 1 0 [5] [(5, (iI 0))] trivial rfl fun _ => ?_
  refine aE (fun (mm : Nat) f H' => ∃ (q : Nat) (F' : Fz), Fz.le F F' ∧ HS (Base.of H []) F' H' [] R ∧ aS f [(0, (.slice a_l l.length k_l)), (1, (.slice a_lens lens.length k_lens)), (5, (iI (q : Int)))] ∧ mm = lens.length - q ∧ (q ≤ lens.length) ∧ (∀ j, j < q → lenOK (lens.getD j default) = true)) _ ⟨0, _, fR, hs, ⟨rfl, rfl, rfl, trivial⟩, rfl, (by omega), (by exact bQ)⟩ ?_
  rintro hA f6 H6 ⟨q, F6, J, ag, c7, rfl, hq, hqa⟩ d1
  refine aF _ c7 (fun _ => ?_)
  clear c7
  replace hT := hT.mono J
  replace hl := hl.mono J
  replace hlens := hlens.mono J
  refine ao 2 rfl ?_
  refine wR 1 [] 23 26 [] [(26, (.bool (decide ((q : Int) < (lens.length : Int)))))] trivial rfl fun _ => ?_
  refine aj 4 6 (v := (decide ((q : Int) < (lens.length : Int)))) rfl rfl rfl rfl (fun c8 => ?_) (fun c8 => ?_)
  ·
   try simp only [BS] at c8
   obtain ⟨hv, c4⟩ := Sv.view (SR.sv hlens ag)
   have hz := fI (c4 q)
   refine wR 1 [(3, .o (iI (lens.getD q 0))), (9, .o (iI (lens.getD q 0)))] 29 40 [] [(40, (.bool ((decide ((lens.getD q 0) < 1)) || (decide ((16 : Int) < (lens.getD q 0))))))] (vA (Sv.ix (j := (q : Int)) (SR.sv hlens ag) (by omega) (by omega)) (vA (ql 3 0 (vI (c4 q) (by omega)) rfl rfl) (vA (fun (I : (decide ((lens.getD q 0) < 1)) = false) => (Sv.ix (j := (q : Int)) (SR.sv hlens ag) (by (try simp only [BS] at I); omega) (by (try simp only [BS] at I); omega))) (vA (fun (I : (decide ((lens.getD q 0) < 1)) = false) => (ql 3 0 (vI (c4 q) (by (try simp only [BS] at I); omega)) rfl rfl)) trivial)))) rfl fun _ => ?_
   refine aj 1 2 (v := ((decide ((lens.getD q 0) < 1)) || (decide ((16 : Int) < (lens.getD q 0))))) rfl rfl rfl rfl (fun a4 => ?_) (fun a4 => ?_)
   ·
    try simp only [BS] at a4
    refine wR 1 [] 4 4 [] [(4, (.bool false))] trivial rfl fun _ => ?_
    refine ah ⟨.inr rfl, _, rfl, false, _, (J), (HS.forget ag), rfl, (by exact vp_len (cr (k := q) (by omega) (decide_eq_false (show ¬ (1 ≤ lens.getD q 0 ∧ lens.getD q 0 ≤ 16) by omega))))⟩
   ·
    try simp only [BS] at a4
    refine wR 1 [] 27 28 [5] [(5, (iI ((q : Int) + 1)))] (vA (vi (n := (q : Int) + 1) (by omega)) trivial) rfl fun _ => ?_
    refine d1 _ _ _ ?_ ⟨q + 1, _, (J), ag, ⟨rfl, rfl, rfl, trivial⟩, rfl, (by omega), (by exact bj hqa (decide_eq_true (show 1 ≤ lens.getD q 0 ∧ lens.getD q 0 ≤ 16 by omega)))⟩
    omega
  ·
   try simp only [BS] at c8
   refine wR 2 [] 1 0 [6] [(6, (iI 0))] trivial rfl fun _ => ?_
   refine aE (fun (mm : Nat) f H' => ∃ (k : Nat) (F' : Fz), Fz.le F6 F' ∧ HS (Base.of H []) F' H' [] R ∧ aS f [(0, (.slice a_l l.length k_l)), (1, (.slice a_lens lens.length k_lens)), (6, (iI (k : Int)))] ∧ mm = l.length - k ∧ (k ≤ l.length) ∧ (∀ j, j < k → vpF l (lens.length : Int) (l.getD j default) = true)) _ ⟨0, _, fR, ag, ⟨rfl, rfl, rfl, trivial⟩, rfl, (by omega), (by exact bQ)⟩ ?_
   rintro ha hw hn ⟨k, hj, E, ad, b4, rfl, hk, hka⟩ dl
   refine aF _ b4 (fun _ => ?_)
   clear b4
   replace hT := hT.mono E
   replace hl := hl.mono E
   refine ao 2 rfl ?_
   refine wR 1 [] 41 44 [] [(44, (.bool (decide ((k : Int) < (l.length : Int)))))] trivial rfl fun _ => ?_
   refine aj 5 5 (v := (decide ((k : Int) < (l.length : Int)))) rfl rfl rfl rfl (fun a5 => ?_) (fun a5 => ?_)
   ·
    try simp only [BS] at a5
    refine ab ?_
    obtain ⟨bb, b7⟩ := Sv.view (SR.sv hl ad)
    obtain ⟨d2, ea, c5⟩ := VFnT.fx (b7 k)
    let a2 : Value := (.agg ⟨[(iI (l.getD k default).params), (iI (l.getD k default).regs), (.slice (cA (bb k) 2) (l.getD k default).blocks.length (cK (bb k) 2))]⟩)
    refine wRo 4 0 [(3, .o a2)] 47 50 [] [(50, a2)] (vA (Sv.ix (j := (k : Int)) (SR.sv hl ad) (by omega) (by omega)) (vA (qn 24 0 3 (VFnT.vw (b7 k) (by omega)) rfl rfl rfl rfl) trivial)) rfl fun _ => ?_
    refine aC (aw rfl rfl rfl) rfl rfl (m3.rvalid_c ex (l.getD k default) (HS.call ad) (by omega) (by omega) c5 hT (by exact fun j => hbd.2 k j)) ?_
    rintro _ ho ⟨hB, dt, U, T, rfl, rfl⟩
    replace T := HS.back ad rfl T
    have T : HS _ _ _ [] _ := T
    replace hl := hl.mono U
    refine wRo 1 5 [] 52 52 [] [(52, (.bool (!(eS (l.getD k default)))))] trivial rfl fun _ => ?_
    refine ai 1 rfl ?_
    refine aj 1 2 (v := (!(eS (l.getD k default)))) rfl rfl rfl rfl (fun ar => ?_) (fun ar => ?_)
    ·
     try simp only [BS] at ar
     refine wR 1 [] 4 4 [] [(4, (.bool false))] trivial rfl fun _ => ?_
     refine ah ⟨.inr rfl, _, rfl, false, _, (fT (fT (J) E) U), (HS.forget T), rfl, (by exact vp_f (cr (k := k) (by omega) (vpF_no (show eS (l.getD k default) = false by assumption))))⟩
    ·
     try simp only [BS] at ar
     have hval : eS (l.getD k default) = true := ar
     have hvb := val_bd hval
     refine wR 2 [] 1 0 [7] [(7, (iI 0))] trivial rfl fun _ => ?_
     refine aE (fun (mm : Nat) f H' => ∃ (b : Nat) (F' : Fz), Fz.le dt F' ∧ HS (Base.of H []) F' H' [] R ∧ aS f [(0, (.slice a_l l.length k_l)), (1, (.slice a_lens lens.length k_lens)), (6, (iI (k : Int))), (7, (iI (b : Int))), (44, (.bool (decide ((k : Int) < (l.length : Int))))), (50, a2), (51, (.bool (eS (l.getD k default)))), (52, (.bool (!(eS (l.getD k default)))))] ∧ mm = (l.getD k default).blocks.length - b ∧ (b ≤ (l.getD k default).blocks.length) ∧ (∀ j, j < b → vpB l (lens.length : Int) ((l.getD k default).blocks.getD j default) = true)) _ ⟨0, _, fR, T, ⟨rfl, rfl, rfl, rfl, rfl, rfl, rfl, rfl, trivial⟩, rfl, (by omega), (by exact bQ)⟩ ?_
     rintro he hx hp ⟨b, dv, V, ap, b5, rfl, hb, hba⟩ dn
     refine aF _ b5 (fun _ => ?_)
     clear b5
     replace hl := hl.mono V
     have hbk := hbd.2 k b
     refine ao 2 rfl ?_
     obtain ⟨bl, b9⟩ := Sv.view (SR.sv hl ap)
     obtain ⟨eb, ec, g3⟩ := VFnT.fx (b9 k)
     refine wR 1 [(5, .o (.slice (cA (bl k) 2) (l.getD k default).blocks.length (cK (bl k) 2)))] 53 60 [] [(60, (.bool (decide ((b : Int) < ((l.getD k default).blocks.length : Int)))))] (vA (Sv.ix (j := (k : Int)) (SR.sv hl ap) (by omega) (by omega)) (vA (ql 22 2 (VFnT.vw (b9 k) (by omega)) rfl rfl) trivial)) rfl fun _ => ?_
     refine aj 4 5 (v := (decide ((b : Int) < ((l.getD k default).blocks.length : Int)))) rfl rfl rfl rfl (fun a6 => ?_) (fun a6 => ?_)
     ·
      try simp only [BS] at a6
      refine wR 2 [] 1 0 [8] [(8, (iI 0))] trivial rfl fun _ => ?_
      refine aE (fun (mm : Nat) f H' => ∃ (i : Nat) (F' : Fz), Fz.le dv F' ∧ HS (Base.of H []) F' H' [] R ∧ aS f [(0, (.slice a_l l.length k_l)), (1, (.slice a_lens lens.length k_lens)), (6, (iI (k : Int))), (7, (iI (b : Int))), (8, (iI (i : Int))), (44, (.bool (decide ((k : Int) < (l.length : Int))))), (50, a2), (51, (.bool (eS (l.getD k default)))), (52, (.bool (!(eS (l.getD k default))))), (60, (.bool (decide ((b : Int) < ((l.getD k default).blocks.length : Int)))))] ∧ mm = ((l.getD k default).blocks.getD b default).ins.length - i ∧ (i ≤ ((l.getD k default).blocks.getD b default).ins.length) ∧ (∀ j, j < i → vpI l (lens.length : Int) (((l.getD k default).blocks.getD b default).ins.getD j default) = true)) _ ⟨0, _, fR, ap, ⟨rfl, rfl, rfl, rfl, rfl, rfl, rfl, rfl, rfl, rfl, trivial⟩, rfl, (by omega), (by exact bQ)⟩ ?_
      rintro hf hy hr ⟨i, hm, Z, A, b6, rfl, hi, hia⟩ ds
      refine aF _ b6 (fun _ => ?_)
      clear b6
      replace hl := hl.mono Z
      have hnn : i < ((l.getD k default).blocks.getD b default).ins.length → ((((l.getD k default).blocks.getD b default).ins.getD i default).i.op = 6 ∨ (((l.getD k default).blocks.getD b default).ins.getD i default).i.op = 34 ∨ (((l.getD k default).blocks.getD b default).ins.getD i default).i.op = 35) → 0 ≤ (((l.getD k default).blocks.getD b default).ins.getD i default).i.n := fun q1 q2 => val_nn hval (by omega) q1 q2
      refine ao 2 rfl ?_
      obtain ⟨b0, cd⟩ := Sv.view (SR.sv hl A)
      obtain ⟨em, es, av⟩ := VFnT.fx (cd k)
      obtain ⟨b1, ch⟩ := Sv.view (SR.sv av A)
      obtain ⟨et, ez, e0, e1, g4⟩ := BlkT.fx (ch b)
      refine wR 1 [(5, .o (.slice (cA (b0 k) 2) (l.getD k default).blocks.length (cK (b0 k) 2))), (9, .o (.slice (cA (b1 b) 0) ((l.getD k default).blocks.getD b default).ins.length (cK (b1 b) 0)))] 63 74 [] [(74, (.bool (decide ((i : Int) < (((l.getD k default).blocks.getD b default).ins.length : Int)))))] (vA (Sv.ix (j := (k : Int)) (SR.sv hl A) (by omega) (by omega)) (vA (ql 22 2 (VFnT.vw (cd k) (by omega)) rfl rfl) (vA (Sv.ix (j := (b : Int)) (SR.sv av A) (by omega) (by omega)) (vA (ql 40 0 (BlkT.vw (ch b) (by omega)) rfl rfl) trivial)))) rfl fun _ => ?_
      refine aj 4 5 (v := (decide ((i : Int) < (((l.getD k default).blocks.getD b default).ins.length : Int)))) rfl rfl rfl rfl (fun a7 => ?_) (fun a7 => ?_)
      ·
       try simp only [BS] at a7
       refine ab ?_
       obtain ⟨b2, ci⟩ := Sv.view (SR.sv hl A)
       obtain ⟨e2, e3, a0⟩ := VFnT.fx (ci k)
       obtain ⟨b3, co⟩ := Sv.view (SR.sv a0 A)
       obtain ⟨e4, e5, e6, e9, a1⟩ := BlkT.fx (co b)
       obtain ⟨O, cv⟩ := Sv.view (SR.sv a1 A)
       obtain ⟨fd, fi, f1, f2, f7, g5⟩ := VInT.fx (cv i)
       let c9 : Value := (.agg ⟨[(iI (((l.getD k default).blocks.getD b default).ins.getD i default).i.op), (iI (((l.getD k default).blocks.getD b default).ins.getD i default).i.a), (iI (((l.getD k default).blocks.getD b default).ins.getD i default).i.b), (iI (((l.getD k default).blocks.getD b default).ins.getD i default).i.c), (iI (((l.getD k default).blocks.getD b default).ins.getD i default).i.n), (.slice (cA (O i) 5) (((l.getD k default).blocks.getD b default).ins.getD i default).args.length (cK (O i) 5))]⟩)
       refine wRo 12 0 [(4, .o (.slice (cA (b2 k) 2) (l.getD k default).blocks.length (cK (b2 k) 2))), (8, .o (.slice (cA (b3 b) 0) ((l.getD k default).blocks.getD b default).ins.length (cK (b3 b) 0))), (11, .o c9)] 77 88 [] [(88, c9)] (vA (Sv.ix (j := (k : Int)) (SR.sv hl A) (by omega) (by omega)) (vA (ql 22 2 (VFnT.vw (ci k) (by omega)) rfl rfl) (vA (Sv.ix (j := (b : Int)) (SR.sv a0 A) (by omega) (by omega)) (vA (ql 40 0 (BlkT.vw (co b) (by omega)) rfl rfl) (vA (Sv.ix (j := (i : Int)) (SR.sv a1 A) (by omega) (by omega)) (vA (qn 47 0 6 (VInT.vw (cv i) (by omega)) rfl rfl rfl rfl) trivial)))))) rfl fun _ => ?_
       refine aP (bp A rfl) rfl rfl ?_
       rintro _ ht _ ⟨c6, rfl, aq, _⟩
       have aq : HS _ _ _ [[(c6, .cells [(iI 0), (iI 0), (iI 0), (iI 0), (iI 0), (.slice none 0 0)] none false)]] _ := aq
       refine aD (ax (q := 0) aq rfl rfl rfl rfl rfl rfl rfl rfl rfl) rfl ?_
       rintro _ hu _ ⟨z, _⟩
       have z : HS _ _ _ [[(c6, .cells [(iI (((l.getD k default).blocks.getD b default).ins.getD i default).i.op), (iI (((l.getD k default).blocks.getD b default).ins.getD i default).i.a), (iI (((l.getD k default).blocks.getD b default).ins.getD i default).i.b), (iI (((l.getD k default).blocks.getD b default).ins.getD i default).i.c), (iI (((l.getD k default).blocks.getD b default).ins.getD i default).i.n), (.slice (cA (O i) 5) (((l.getD k default).blocks.getD b default).ins.getD i default).args.length (cK (O i) 5))] none false)]] _ := z
       refine ai 3 rfl ?_
       obtain ⟨g9, c0⟩ := Sv.view (SR.sv hl z)
       obtain ⟨f9, gj, g6⟩ := VFnT.fx (c0 (((l.getD k default).blocks.getD b default).ins.getD i default).i.n.toNat)
       refine wRD 1 [(2, .o (iI (((l.getD k default).blocks.getD b default).ins.getD i default).i.op)), (7, .o (iI (((l.getD k default).blocks.getD b default).ins.getD i default).i.n)), (15, .o (iI (((l.getD k default).blocks.getD b default).ins.getD i default).i.n)), (18, .o (iI ((l.getD (((l.getD k default).blocks.getD b default).ins.getD i default).i.n.toNat default).params))), (20, .o (.slice (cA (O i) 5) (((l.getD k default).blocks.getD b default).ins.getD i default).args.length (cK (O i) 5)))] 89 113 [] [(113, (.bool (((((l.getD k default).blocks.getD b default).ins.getD i default).i.op == 6) && ((decide ((l.length : Int) ≤ (((l.getD k default).blocks.getD b default).ins.getD i default).i.n)) || ((l.getD (((l.getD k default).blocks.getD b default).ins.getD i default).i.n.toNat default).params != ((((l.getD k default).blocks.getD b default).ins.getD i default).args.length : Int))))))] (vA (ql 3 0 (hc0 (HS.hc z (i := 0) rfl)) rfl rfl) (vA (fun (I : ((((l.getD k default).blocks.getD b default).ins.getD i default).i.op == 6) = true) => (ql 2 4 (hc0 (HS.hc z (i := 0) rfl)) rfl rfl)) (vA (fun (I : (decide ((l.length : Int) ≤ (((l.getD k default).blocks.getD b default).ins.getD i default).i.n)) = false) (g2 : ((((l.getD k default).blocks.getD b default).ins.getD i default).i.op == 6) = true) => (ql 2 4 (hc0 (HS.hc z (i := 0) rfl)) rfl rfl)) (vA (fun (I : (decide ((l.length : Int) ≤ (((l.getD k default).blocks.getD b default).ins.getD i default).i.n)) = false) (g2 : ((((l.getD k default).blocks.getD b default).ins.getD i default).i.op == 6) = true) => (Sv.ix (j := (((l.getD k default).blocks.getD b default).ins.getD i default).i.n) (SR.sv hl z) (by (try simp only [BS] at I g2); omega) (by (try simp only [BS] at I g2); omega))) (vA (fun (I : (decide ((l.length : Int) ≤ (((l.getD k default).blocks.getD b default).ins.getD i default).i.n)) = false) (g2 : ((((l.getD k default).blocks.getD b default).ins.getD i default).i.op == 6) = true) => (ql 3 0 (hc0 (VFnT.vw (c0 (((l.getD k default).blocks.getD b default).ins.getD i default).i.n.toNat) (by (try simp only [BS] at I g2); omega))) rfl rfl)) (vA (fun (I : (decide ((l.length : Int) ≤ (((l.getD k default).blocks.getD b default).ins.getD i default).i.n)) = false) (g2 : ((((l.getD k default).blocks.getD b default).ins.getD i default).i.op == 6) = true) => (ql 25 5 (hc0 (HS.hc z (i := 0) rfl)) rfl rfl)) trivial)))))) rfl rfl fun _ => ?_
       refine aj 1 2 (v := (((((l.getD k default).blocks.getD b default).ins.getD i default).i.op == 6) && ((decide ((l.length : Int) ≤ (((l.getD k default).blocks.getD b default).ins.getD i default).i.n)) || ((l.getD (((l.getD k default).blocks.getD b default).ins.getD i default).i.n.toNat default).params != ((((l.getD k default).blocks.getD b default).ins.getD i default).args.length : Int))))) rfl rfl rfl rfl (fun a8 => ?_) (fun a8 => ?_)
       ·
        try simp only [BS] at a8
        refine wR 1 [] 4 4 [] [(4, (.bool false))] trivial rfl fun _ => ?_
        refine ah ⟨.inr rfl, _, rfl, false, _, (fT (fT (fT (fT (J) E) U) V) Z), (HS.forget z), rfl, (by exact vp_not (k := k) (b := b) (i := i) (by omega) (by omega) (by omega) (iT (by omega)))⟩
       ·
        try simp only [BS] at a8
        refine wR 1 [(2, .o (iI (((l.getD k default).blocks.getD b default).ins.getD i default).i.op)), (7, .o (iI (((l.getD k default).blocks.getD b default).ins.getD i default).i.op)), (13, .o (iI (((l.getD k default).blocks.getD b default).ins.getD i default).i.n))] 114 131 [] [(131, (.bool ((((((l.getD k default).blocks.getD b default).ins.getD i default).i.op == 34) || ((((l.getD k default).blocks.getD b default).ins.getD i default).i.op == 35)) && (decide ((lens.length : Int) ≤ (((l.getD k default).blocks.getD b default).ins.getD i default).i.n)))))] (vA (ql 3 0 (HS.hc z (i := 0) rfl) rfl rfl) (vA (fun (I : ((((l.getD k default).blocks.getD b default).ins.getD i default).i.op == 34) = false) => (ql 3 0 (HS.hc z (i := 0) rfl) rfl rfl)) (vA (fun (I : (((((l.getD k default).blocks.getD b default).ins.getD i default).i.op == 34) || ((((l.getD k default).blocks.getD b default).ins.getD i default).i.op == 35)) = true) => (ql 2 4 (HS.hc z (i := 0) rfl) rfl rfl)) trivial))) rfl fun _ => ?_
        refine aj 1 2 (v := ((((((l.getD k default).blocks.getD b default).ins.getD i default).i.op == 34) || ((((l.getD k default).blocks.getD b default).ins.getD i default).i.op == 35)) && (decide ((lens.length : Int) ≤ (((l.getD k default).blocks.getD b default).ins.getD i default).i.n)))) rfl rfl rfl rfl (fun a9 => ?_) (fun a9 => ?_)
        ·
         try simp only [BS] at a9
         refine wR 1 [] 4 4 [] [(4, (.bool false))] trivial rfl fun _ => ?_
         refine ah ⟨.inr rfl, _, rfl, false, _, (fT (fT (fT (fT (J) E) U) V) Z), (HS.forget z), rfl, (by exact vp_not (k := k) (b := b) (i := i) (by omega) (by omega) (by omega) (iT (by omega)))⟩
        ·
         try simp only [BS] at a9
         refine wR 1 [] 75 76 [8] [(8, (iI ((i : Int) + 1)))] (vA (vi (n := (i : Int) + 1) (by omega)) trivial) rfl fun _ => ?_
         refine ds _ _ _ ?_ ⟨i + 1, _, (Z), (HS.sub z (List.sublist_append_left _ _)), ⟨rfl, rfl, rfl, rfl, rfl, rfl, rfl, rfl, rfl, rfl, trivial⟩, rfl, (by omega), (by exact bj hia (fE.2 ⟨by omega, by omega⟩))⟩
         omega
      ·
       try simp only [BS] at a7
       refine wR 1 [] 61 62 [7] [(7, (iI ((b : Int) + 1)))] (vA (vi (n := (b : Int) + 1) (by omega)) trivial) rfl fun _ => ?_
       refine dn _ _ _ ?_ ⟨b + 1, _, (fT (V) Z), A, ⟨rfl, rfl, rfl, rfl, rfl, rfl, rfl, rfl, trivial⟩, rfl, (by omega), (by exact bj hba (cu hia (by omega)))⟩
       omega
     ·
      try simp only [BS] at a6
      refine wR 1 [] 45 46 [6] [(6, (iI ((k : Int) + 1)))] (vA (vi (n := (k : Int) + 1) (by omega)) trivial) rfl fun _ => ?_
      refine dl _ _ _ ?_ ⟨k + 1, _, (fT (fT (E) U) V), ap, ⟨rfl, rfl, rfl, trivial⟩, rfl, (by omega), (by exact bj hka (vpF_yes hval (cu hba (by omega))))⟩
      omega
   ·
    try simp only [BS] at a5
    refine wR 1 [] 4 4 [] [(4, (.bool true))] trivial rfl fun _ => ?_
    refine ah ⟨.inr rfl, _, rfl, true, _, (fT (J) E), (HS.forget ad), rfl, (by exact vp_yes (by omega) (cu hqa (by omega)) (cu hka (by omega)))⟩
end Go.Proofs.YtlabedbmgmfbaaaDoor.m8
