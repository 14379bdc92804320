/-
 The reference interpreter: a call, by a symbolic run. No condition but bounds on lengths.
-/
import Derived.Test.YtlabedbmgmfbaaaDoorZDJC
import Derived.Test.YtlabedbmgmfbaaaDoorZDM8
noncomputable section
namespace Go.Proofs.YtlabedbmgmfbaaaDoor.jd
open Go.R
set_option maxRecDepth 10000
set_option linter.unusedVariables false
open m1 m2 m3 m4 m5 m6 m7 m8 iw ia ib ic ja jw jc
theorem in_at {P : List VFnT} {nc : Nat} (hp : PrF P nc) {c : VFnT} (hc : c ∈ P) {a : Int} (ha : 0 ≤ a ∧ a < (c.blocks.length : Int)) {k : Nat} (hk : k < (c.blocks.getD a.toNat default).ins.length) : InF P nc c ((c.blocks.getD a.toNat default).ins.getD k default) ∧ InR c ((c.blocks.getD a.toNat default).ins.getD k default) := by
 obtain ⟨z, A⟩ := hp.ins c hc a.toNat k (by omega) hk
 exact ⟨inF_of (hp.lim c hc).2.2.2.1 z A, inR_of z⟩
theorem vend_reg {nb regs : Int} {b : BlkT} (h : fQ nb regs b = true) : b.fin = 2 ∨ b.fin = 3 → 0 ≤ b.reg ∧ b.reg < regs := by
 have := bE.1 h; omega
set_option maxHeartbeats 4000000 in
theorem call_c (ex : FuncId) {P : List VFnT} {nc N : Nat} (hp : PrF P nc) (hil : ∀ c ∈ P, ∀ k, (c.blocks.getD k default).ins.length ≤ 1000000) (hN : N ≤ 1000000) : ∀ n, CallSpec ex P nc N n := by
 intro n; induction n with
 | zero => (intro F H R b la lk ca cn ck oa on ok q aa ak s fi args hs hq hP ha hf wf hm; omega)
 | succ n ih =>
  intro F H R b la lk ca cn ck oa on ok q aa ak s fi args hs hq hP ha hf wf hm hso hsl
  have hcm := gh ⟨hf.1, hf.2.1⟩; have hlm := hp.lim _ hcm; have hmo := wf.most; have hct := wf.cnt; have hpl := hp.len
  obtain ⟨qv, hs, hq⟩ : ∃ qv, HS (.of H (b :: q.map Prod.fst)) F H [[(b, .cells [.slice la P.length lk, .slice ca cn ck, .int .i64 s.fuel, .int .i64 s.most, .slice oa on ok, .int .i64 s.kind, .int .i64 s.code, .slice none 0 0, .int .i64 0, .bool s.over, .bool s.long] none false)], qv] R ∧ IntQ F s ca cn ck oa on ok qv := ⟨q, hs, hq⟩
  refine aL Tryd.func66 rfl rfl ?_
  refine ao 1 rfl ?_
  refine wR 2 [] 6 6 [] [(6, (iI 0))] trivial rfl fun _ => ?_
  refine ab ?_
  obtain ⟨a8, e9⟩ := Sv.view (SR.sv hP hs)
  obtain ⟨hl, hn, b1⟩ := VFnT.fx (e9 fi.toNat)
  let fd : Value := (.agg ⟨[(iI (P.getD fi.toNat default).params), (iI (P.getD fi.toNat default).regs), (.slice (cA (a8 fi.toNat) 2) (P.getD fi.toNat default).blocks.length (cK (a8 fi.toNat) 2))]⟩)
  refine wRo 7 0 [(3, .o (.slice la P.length lk)), (6, .o fd)] 12 18 [] [(18, fd)] (vA (ql 30 0 (HS.hc hs (i := 0) rfl) rfl rfl) (vA (Sv.ix (j := fi) (SR.sv hP hs) (by omega) (by omega)) (vA (qn 24 0 3 (VFnT.vw (e9 fi.toNat) (by omega)) rfl rfl rfl rfl) trivial))) rfl fun _ => ?_
  refine aR (bK hs rfl) rfl rfl ?_
  rintro _ H6 _ ⟨b5, rfl, em, _⟩
  have em : HS _ _ _ [[(b, .cells [(.slice la P.length lk), (.slice ca cn ck), (iI s.fuel), (iI s.most), (.slice oa on ok), (iI s.kind), (iI s.code), (.slice none 0 0), (iI 0), (.bool s.over), (.bool s.long)] none false)], qv, [(b5, .cells [(iI 0), (iI 0), (.slice none 0 0)] none false)]] _ := em
  refine aU (aG (q := 2) em rfl rfl rfl rfl rfl rfl rfl rfl rfl) rfl ?_
  rintro _ H7 _ ⟨c5, _⟩
  let ar : Fp := [(b5, .cells [(iI (P.getD fi.toNat default).params), (iI (P.getD fi.toNat default).regs), (.slice (cA (a8 fi.toNat) 2) (P.getD fi.toNat default).blocks.length (cK (a8 fi.toNat) 2))] none false)]
  have c5 : HS _ _ _ [_, _, ar] _ := c5
  refine ai 2 rfl ?_
  refine ab ?_
  refine wRo 2 0 [(1, .o (iI (P.getD fi.toNat default).regs))] 19 20 [] [(20, (iI (P.getD fi.toNat default).regs))] (vA (ql 3 1 (HS.hc c5 (i := 2) rfl) rfl rfl) trivial) rfl fun _ => ?_
  refine aR (hZ (0 : Int) c5 rfl rfl rfl rfl rfl rfl rfl rfl rfl ⟨rfl, by decide⟩ (by omega) (by omega)) rfl rfl ?_
  rintro _ hB p9 ⟨a9, k9, rfl, f7, b7, _⟩
  have b7 : HS _ _ _ [_, _, _, p9] _ := b7
  refine wa (.slice a9 (List.replicate (P.getD fi.toNat default).regs.toNat (0 : Int)).length k9) rfl rfl rfl ?_
  refine ai 2 rfl ?_
  refine wR 3 [] 1 0 [9] [(9, (iI 0))] trivial rfl fun _ => ?_
  refine aC (fun (mm : Nat) f H' => ∃ (sv : IntS) (ca : Option Addr) (cn : Nat) (ck : Nat) (oa : Option Addr) (on : Nat) (ok : Nat) (qv : Fp) (rv : List Int) (av : Int) (ap : Fp) (F' : Fz), Fz.le F F' ∧ HS (Base.of H (b :: q.map Prod.fst)) F' H' [[(b, .cells [(.slice la P.length lk), (.slice ca cn ck), (iI sv.fuel), (iI sv.most), (.slice oa on ok), (iI sv.kind), (iI sv.code), (.slice none 0 0), (iI 0), (.bool sv.over), (.bool sv.long)] none false)], qv, ar, ap] R ∧ OS F' (.slice a9 (List.replicate (P.getD fi.toNat default).regs.toNat (0 : Int)).length k9) rv ap ∧ aT f [(0, (.pointer (some ⟨b, 0, none⟩))), (2, (.slice aa args.length ak)), (7, (.pointer (some ⟨b5, 0, none⟩))), (8, (.slice a9 (List.replicate (P.getD fi.toNat default).regs.toNat (0 : Int)).length k9)), (9, (iI av))] ∧ mm = sv.most.toNat ∧ (IntQ F' sv ca cn ck oa on ok qv) ∧ (ce P s fi args = gV P sv (P.getD fi.toNat default) rv args av 0) ∧ (IntOK nc sv N) ∧ (sv.most ≤ s.most) ∧ ((rv.length : Int) = (P.getD fi.toNat default).regs) ∧ (0 ≤ av ∧ av < ((P.getD fi.toNat default).blocks.length : Int))) _ ⟨(⟨s.cells, s.fuel, s.most, s.out, s.kind, s.code, s.over, s.long⟩ : IntS), ca, cn, ck, oa, on, ok, qv, List.replicate (P.getD fi.toNat default).regs.toNat (0 : Int), 0, p9, _, fR, b7, f7, ⟨rfl, rfl, rfl, rfl, rfl, trivial⟩, rfl, (by assumption), (by rfl), (by exact wf), (by exact Int.le_refl _), (by rw [List.length_replicate]; omega), (by omega)⟩ ?_
  rintro hv hL hC ⟨sv, ca, cn, ck, oa, on, ok, qv, rv, av, ap, f4, T, a1, b3, ec, rfl, hqv, hres, hwv, hmv, hrl, hav⟩ b0
  refine aH _ ec (fun _ => ?_)
  clear ec
  replace hP := hP.mono T
  replace ha := ha.mono T
  replace b1 := b1.mono T
  replace hq := IntQ.mono T hq
  have f2 := OS.len' b3
  have hfr := vend_reg (b := ((P.getD fi.toNat default).blocks.getD av.toNat default)) (hp.fin _ hcm av.toNat (by omega))
  have hfx := jp (b := ((P.getD fi.toNat default).blocks.getD av.toNat default)) (hp.fin _ hcm av.toNat (by omega)) hlm.2.2.2.1
  have hmi := hil _ hcm av.toNat
  have hr := hwv.most; have hcv := hwv.cnt
  refine ao 2 rfl ?_
  refine wR 1 [(3, .o (.bool sv.over)), (9, .o (.bool sv.long))] 22 33 [] [(33, (.bool ((!sv.over) && (!sv.long))))] (vA (ql 4 9 (HS.hc a1 (i := 0) rfl) rfl rfl) (vA (fun (g1 : (!sv.over) = true) => (ql 4 10 (HS.hc a1 (i := 0) rfl) rfl rfl)) trivial)) rfl fun _ => ?_
  refine am 3 5 (v := ((!sv.over) && (!sv.long))) rfl rfl rfl rfl (fun c3 => ?_) (fun c3 => ?_)
  ·
   try simp only [BS] at c3
   refine ab ?_
   obtain ⟨ad, ep⟩ := Sv.view (SR.sv b1 a1)
   obtain ⟨gn, g2, g3, g4, a4⟩ := BlkT.fx (ep av.toNat)
   let e4 : Value := (.agg ⟨[(.slice (cA (ad av.toNat) 0) ((P.getD fi.toNat default).blocks.getD av.toNat default).ins.length (cK (ad av.toNat) 0)), (iI ((P.getD fi.toNat default).blocks.getD av.toNat default).fin), (iI ((P.getD fi.toNat default).blocks.getD av.toNat default).reg), (iI ((P.getD fi.toNat default).blocks.getD av.toNat default).tgt), (iI ((P.getD fi.toNat default).blocks.getD av.toNat default).els)]⟩)
   refine wRo 5 0 [(1, .o (.slice (cA (a8 fi.toNat) 2) (P.getD fi.toNat default).blocks.length (cK (a8 fi.toNat) 2))), (4, .o e4)] 34 38 [] [(38, e4)] (vA (ql 22 2 (HS.hc a1 (i := 2) rfl) rfl rfl) (vA (Sv.ix (j := av) (SR.sv b1 a1) (by omega) (by omega)) (vA (qn 42 0 5 (BlkT.vw (ep av.toNat) (by omega)) rfl rfl rfl rfl) trivial))) rfl fun _ => ?_
   refine aR (bK a1 rfl) rfl rfl ?_
   rintro _ hD _ ⟨dd, rfl, b9, _⟩
   have b9 : HS _ _ _ [[(b, .cells [(.slice la P.length lk), (.slice ca cn ck), (iI sv.fuel), (iI sv.most), (.slice oa on ok), (iI sv.kind), (iI sv.code), (.slice none 0 0), (iI 0), (.bool sv.over), (.bool sv.long)] none false)], _, _, ap, [(dd, .cells [(.slice none 0 0), (iI 0), (iI 0), (iI 0), (iI 0)] none false)]] _ := b9
   refine aU (aG (q := 4) b9 rfl rfl rfl rfl rfl rfl rfl rfl rfl) rfl ?_
   rintro _ hE _ ⟨ch, _⟩
   let a0 : Fp := [(dd, .cells [(.slice (cA (ad av.toNat) 0) ((P.getD fi.toNat default).blocks.getD av.toNat default).ins.length (cK (ad av.toNat) 0)), (iI ((P.getD fi.toNat default).blocks.getD av.toNat default).fin), (iI ((P.getD fi.toNat default).blocks.getD av.toNat default).reg), (iI ((P.getD fi.toNat default).blocks.getD av.toNat default).tgt), (iI ((P.getD fi.toNat default).blocks.getD av.toNat default).els)] none false)]
   have ch : HS _ _ _ [_, _, _, _, a0] _ := ch
   refine ai 3 rfl ?_
   refine wR 2 [] 1 0 [11] [(11, (iI 0))] trivial rfl fun _ => ?_
   refine aC (fun (mm : Nat) f H' => ∃ (sw : IntS) (ca : Option Addr) (cn : Nat) (ck : Nat) (oa : Option Addr) (on : Nat) (ok : Nat) (qv : Fp) (rv : List Int) (k : Nat) (z : Fp) (F' : Fz), Fz.le f4 F' ∧ HS (Base.of H (b :: q.map Prod.fst)) F' H' [[(b, .cells [(.slice la P.length lk), (.slice ca cn ck), (iI sw.fuel), (iI sw.most), (.slice oa on ok), (iI sw.kind), (iI sw.code), (.slice none 0 0), (iI 0), (.bool sw.over), (.bool sw.long)] none false)], qv, ar, z, a0] R ∧ OS F' (.slice a9 (List.replicate (P.getD fi.toNat default).regs.toNat (0 : Int)).length k9) rv z ∧ aT f [(0, (.pointer (some ⟨b, 0, none⟩))), (2, (.slice aa args.length ak)), (7, (.pointer (some ⟨b5, 0, none⟩))), (8, (.slice a9 (List.replicate (P.getD fi.toNat default).regs.toNat (0 : Int)).length k9)), (9, (iI av)), (10, (.pointer (some ⟨dd, 0, none⟩))), (11, (iI (k : Int))), (33, (.bool ((!sv.over) && (!sv.long)))), (38, e4)] ∧ mm = ((P.getD fi.toNat default).blocks.getD av.toNat default).ins.length - k ∧ (IntQ F' sw ca cn ck oa on ok qv) ∧ (ce P s fi args = gV P sw (P.getD fi.toNat default) rv args av k) ∧ (IntOK nc sw N) ∧ (sw.most ≤ sv.most) ∧ ((rv.length : Int) = (P.getD fi.toNat default).regs) ∧ (k ≤ ((P.getD fi.toNat default).blocks.getD av.toNat default).ins.length)) _ ⟨(⟨sv.cells, sv.fuel, sv.most, sv.out, sv.kind, sv.code, sv.over, sv.long⟩ : IntS), ca, cn, ck, oa, on, ok, qv, rv, 0, ap, _, fR, ch, b3, ⟨rfl, rfl, rfl, rfl, rfl, rfl, rfl, rfl, rfl, trivial⟩, rfl, (by assumption), (by exact hres), (by exact hwv), (by exact Int.le_refl _), (by exact hrl), (by omega)⟩ ?_
   rintro hw hM hF ⟨sw, ca, cn, ck, oa, on, ok, qv, rv, k, z, hz, U, V, O, ei, rfl, hqv, hres, hwv, hmv, hrl, hk⟩ ey
   refine aH _ ei (fun _ => ?_)
   clear ei
   replace hP := hP.mono U
   replace ha := ha.mono U
   replace a4 := a4.mono U
   have f3 := OS.len' O
   have ht := hwv.most; have hcw := hwv.cnt
   refine ao 2 rfl ?_
   refine wR 1 [(2, .o (.slice (cA (ad av.toNat) 0) ((P.getD fi.toNat default).blocks.getD av.toNat default).ins.length (cK (ad av.toNat) 0))), (9, .o (.bool sw.over)), (16, .o (.bool sw.long))] 39 57 [] [(57, (.bool (((decide ((k : Int) < (((P.getD fi.toNat default).blocks.getD av.toNat default).ins.length : Int))) && (!sw.over)) && (!sw.long))))] (vA (ql 40 0 (HS.hc V (i := 4) rfl) rfl rfl) (vA (fun (g1 : (decide ((k : Int) < (((P.getD fi.toNat default).blocks.getD av.toNat default).ins.length : Int))) = true) => (ql 4 9 (HS.hc V (i := 0) rfl) rfl rfl)) (vA (fun (g1 : ((decide ((k : Int) < (((P.getD fi.toNat default).blocks.getD av.toNat default).ins.length : Int))) && (!sw.over)) = true) => (ql 4 10 (HS.hc V (i := 0) rfl) rfl rfl)) trivial))) rfl fun _ => ?_
   refine am 4 6 (v := (((decide ((k : Int) < (((P.getD fi.toNat default).blocks.getD av.toNat default).ins.length : Int))) && (!sw.over)) && (!sw.long))) rfl rfl rfl rfl (fun bl => ?_) (fun bl => ?_)
   ·
    have b2 := bl
    try simp only [BS] at b2
    have hov : sw.over = false := (b2).1.2
    have hlv : sw.long = false := (b2).2
    refine ab ?_
    refine wm (.pointer (some ⟨b, 0, none⟩)) rfl rfl rfl ?_
    have hov : sw.over = false := by assumption
    have hlv : sw.long = false := by assumption
    refine aD (az rfl rfl rfl) rfl rfl (istep_c ex sw.most sw.long (HS.callOwn V (i := 0) rfl) (by omega)) ?_
    rintro _ hG ⟨fj, J, I, Z, rfl, bb⟩
    replace Z := HS.backOwn V (i := 0) rfl rfl (fun _ hb => hb) Z
    let b4 : Fp := [(b, .cells [(.slice la P.length lk), (.slice ca cn ck), (iI sw.fuel), (iI J), (.slice oa on ok), (iI sw.kind), (iI sw.code), (.slice none 0 0), (iI 0), (.bool sw.over), (.bool I)] none false)]
    have Z : HS _ _ _ [b4, qv, ar, z, a0] _ := Z
    refine ai 1 rfl ?_
    refine am 0 2 (v := fj) rfl rfl rfl rfl (fun a5 => ?_) (fun a5 => ?_)
    ·
     have dk := a5
     try simp only [BS] at dk
     obtain ⟨_, hma, hmb, hmc⟩ := bb.resolve_right (fun h => absurd (h.1.symm.trans a5) (by decide))
     refine ab ?_
     obtain ⟨d2, es⟩ := Sv.view (SR.sv a4 Z)
     obtain ⟨g5, g6, g7, g8, g9, e6⟩ := VInT.fx (es k)
     let e2 : Value := (.agg ⟨[(iI (((P.getD fi.toNat default).blocks.getD av.toNat default).ins.getD k default).i.op), (iI (((P.getD fi.toNat default).blocks.getD av.toNat default).ins.getD k default).i.a), (iI (((P.getD fi.toNat default).blocks.getD av.toNat default).ins.getD k default).i.b), (iI (((P.getD fi.toNat default).blocks.getD av.toNat default).ins.getD k default).i.c), (iI (((P.getD fi.toNat default).blocks.getD av.toNat default).ins.getD k default).i.n), (.slice (cA (d2 k) 5) (((P.getD fi.toNat default).blocks.getD av.toNat default).ins.getD k default).args.length (cK (d2 k) 5))]⟩)
     refine wRo 8 0 [(2, .o (.slice (cA (ad av.toNat) 0) ((P.getD fi.toNat default).blocks.getD av.toNat default).ins.length (cK (ad av.toNat) 0))), (5, .o e2)] 62 69 [] [(62, (.pointer (some ⟨b, 0, none⟩))), (67, e2), (68, (.slice a9 (List.replicate (P.getD fi.toNat default).regs.toNat (0 : Int)).length k9)), (69, (.slice aa args.length ak))] (vA (ql 40 0 (HS.hc Z (i := 4) rfl) rfl rfl) (vA (Sv.ix (j := (k : Int)) (SR.sv a4 Z) (by omega) (by omega)) (vA (qn 47 0 6 (VInT.vw (es k) (by omega)) rfl rfl rfl rfl) trivial))) rfl fun _ => ?_
     have c6 : HS _ _ _ [b4, qv, z, ar, a0] _ := HS.flat Z (permIdx [0, 1, 3, 2, 4] rfl (show List.Perm [0, 1, 3, 2, 4] (List.range 5) by decide))
     have c7 := HS.callN (X := [b4, qv, z]) (Y := [ar, a0]) c6
     rw [show List.map Prod.fst (List.flatten [b4, qv, z]) = b :: (qv ++ z).map Prod.fst from by simp +zetaDelta] at c7
     have c4 := in_at hp hcm hav (k := k) (by omega)
     refine aD (az rfl rfl rfl) rfl rfl (do_c ex (⟨sw.cells, sw.fuel, J, sw.out, sw.kind, sw.code, sw.over, I⟩ : IntS) rv args (((P.getD fi.toNat default).blocks.getD av.toNat default).ins.getD k default) c7 hqv O hP ha e6 ⟨by omega, by omega, by omega, by omega, by omega⟩ hp c4.1 c4.2 hrl (by omega) (⟨hwv.cells, hwv.rows, hwv.fuel, by dsimp only; omega, by dsimp only; omega, hwv.kc⟩) hN ih (by dsimp only; omega) hov (hmc.trans hlv) (by dsimp only; omega)) ?_
     rintro _ hH ⟨rfl, hA, d1, eb, ea, ez, e1, e0, c0, cv, f1, a2, hu, el⟩
     replace a2 := HS.backN (X := [b4, qv, z]) (Y := [ar, a0]) c6 rfl (fun _ hb => by simpa +zetaDelta using hb) a2
     let e3 : Fp := [(b, .cells [(.slice la P.length lk), (.slice d1 eb ea), (iI ((doC P (⟨sw.cells, sw.fuel, J, sw.out, sw.kind, sw.code, sw.over, I⟩ : IntS) rv args (((P.getD fi.toNat default).blocks.getD av.toNat default).ins.getD k default)).1.fuel)), (iI ((doC P (⟨sw.cells, sw.fuel, J, sw.out, sw.kind, sw.code, sw.over, I⟩ : IntS) rv args (((P.getD fi.toNat default).blocks.getD av.toNat default).ins.getD k default)).1.most)), (.slice ez e1 e0), (iI ((doC P (⟨sw.cells, sw.fuel, J, sw.out, sw.kind, sw.code, sw.over, I⟩ : IntS) rv args (((P.getD fi.toNat default).blocks.getD av.toNat default).ins.getD k default)).1.kind)), (iI ((doC P (⟨sw.cells, sw.fuel, J, sw.out, sw.kind, sw.code, sw.over, I⟩ : IntS) rv args (((P.getD fi.toNat default).blocks.getD av.toNat default).ins.getD k default)).1.code)), (.slice none 0 0), (iI 0), (.bool ((doC P (⟨sw.cells, sw.fuel, J, sw.out, sw.kind, sw.code, sw.over, I⟩ : IntS) rv args (((P.getD fi.toNat default).blocks.getD av.toNat default).ins.getD k default)).1.over)), (.bool ((doC P (⟨sw.cells, sw.fuel, J, sw.out, sw.kind, sw.code, sw.over, I⟩ : IntS) rv args (((P.getD fi.toNat default).blocks.getD av.toNat default).ins.getD k default)).1.long))] none false)]
     have a2 : HS _ _ _ [e3, c0, cv, ar, a0] _ := a2
     replace a2 : HS _ _ _ [e3, c0, ar, cv, a0] _ := HS.flat a2 (permIdx [0, 1, 3, 2, 4] rfl (show List.Perm [0, 1, 3, 2, 4] (List.range 5) by decide))
     have he := OS.len' el
     refine ai 2 rfl ?_
     refine wR 1 [] 58 59 [11] [(11, (iI ((k : Int) + 1)))] (vA (vi (n := (k : Int) + 1) (by omega)) trivial) rfl fun _ => ?_
     refine ey _ _ _ ?_ ⟨(⟨(doC P (⟨sw.cells, sw.fuel, J, sw.out, sw.kind, sw.code, sw.over, I⟩ : IntS) rv args (((P.getD fi.toNat default).blocks.getD av.toNat default).ins.getD k default)).1.cells, (doC P (⟨sw.cells, sw.fuel, J, sw.out, sw.kind, sw.code, sw.over, I⟩ : IntS) rv args (((P.getD fi.toNat default).blocks.getD av.toNat default).ins.getD k default)).1.fuel, (doC P (⟨sw.cells, sw.fuel, J, sw.out, sw.kind, sw.code, sw.over, I⟩ : IntS) rv args (((P.getD fi.toNat default).blocks.getD av.toNat default).ins.getD k default)).1.most, (doC P (⟨sw.cells, sw.fuel, J, sw.out, sw.kind, sw.code, sw.over, I⟩ : IntS) rv args (((P.getD fi.toNat default).blocks.getD av.toNat default).ins.getD k default)).1.out, (doC P (⟨sw.cells, sw.fuel, J, sw.out, sw.kind, sw.code, sw.over, I⟩ : IntS) rv args (((P.getD fi.toNat default).blocks.getD av.toNat default).ins.getD k default)).1.kind, (doC P (⟨sw.cells, sw.fuel, J, sw.out, sw.kind, sw.code, sw.over, I⟩ : IntS) rv args (((P.getD fi.toNat default).blocks.getD av.toNat default).ins.getD k default)).1.code, (doC P (⟨sw.cells, sw.fuel, J, sw.out, sw.kind, sw.code, sw.over, I⟩ : IntS) rv args (((P.getD fi.toNat default).blocks.getD av.toNat default).ins.getD k default)).1.over, (doC P (⟨sw.cells, sw.fuel, J, sw.out, sw.kind, sw.code, sw.over, I⟩ : IntS) rv args (((P.getD fi.toNat default).blocks.getD av.toNat default).ins.getD k default)).1.long⟩ : IntS), d1, eb, ea, ez, e1, e0, c0, (doC P (⟨sw.cells, sw.fuel, J, sw.out, sw.kind, sw.code, sw.over, I⟩ : IntS) rv args (((P.getD fi.toNat default).blocks.getD av.toNat default).ins.getD k default)).2, k + 1, cv, _, (fT (U) f1), a2, el, ⟨rfl, rfl, rfl, rfl, rfl, rfl, rfl, rfl, rfl, trivial⟩, rfl, (by assumption), (by (subst hmb hmc; exact hres.trans (g_ins (by rw [hov, hlv]; decide) (by omega) (by omega)))), (by subst hmb hmc; first | exact doC_ok hp (in_at hp hcm hav (k := k) (by omega)).1 hwv (by omega) | exact ⟨hwv.cells, hwv.rows, hwv.fuel, hwv.most, hwv.cnt, hwv.kc⟩), (by (refine Int.le_trans doC_most ?_; dsimp only; omega)), (by (rw [doC_len]; exact hrl)), (by omega)⟩
     omega
    ·
     have dk := a5
     try simp only [BS] at dk
     obtain ⟨_, hma, hmb, hmc⟩ := bb.resolve_left (fun h => absurd (h.1.symm.trans a5) (by decide))
     refine wR 1 [] 58 59 [11] [(11, (iI ((k : Int) + 1)))] (vA (vi (n := (k : Int) + 1) (by omega)) trivial) rfl fun _ => ?_
     refine ey _ _ _ ?_ ⟨(⟨sw.cells, sw.fuel, J, sw.out, sw.kind, sw.code, sw.over, I⟩ : IntS), ca, cn, ck, oa, on, ok, qv, rv, k + 1, z, _, (U), Z, O, ⟨rfl, rfl, rfl, rfl, rfl, rfl, rfl, rfl, rfl, trivial⟩, rfl, (by assumption), (by (rw [hres, g_long (by rw [hov, hlv]; decide) (by omega)]; subst hmb hmc; exact (iJ (.inr rfl)).symm)), (by subst hmb hmc; first | exact doC_ok hp (in_at hp hcm hav (k := k) (by omega)).1 hwv (by omega) | exact ⟨hwv.cells, hwv.rows, hwv.fuel, hwv.most, hwv.cnt, hwv.kc⟩), (by (dsimp only; omega)), (by exact hrl), (by omega)⟩
     omega
   ·
    have b2 := bl
    try simp only [BS] at b2
    have hxe := bl
    refine ab ?_
    refine wm (.pointer (some ⟨b, 0, none⟩)) rfl rfl rfl ?_
    refine bY (v := (.pointer (some ⟨b, 0, none⟩))) (iu rfl) rfl rfl ?_
    refine bY (v := (.pointer (some ⟨b, 9, none⟩))) (bQ rfl rfl) rfl rfl ?_
    refine bY (v := (.bool sw.over)) (aP (i := 9) rfl rfl (HS.hc V (i := 0) rfl) rfl rfl) rfl rfl ?_
    refine wm (.bool sw.over) rfl rfl rfl ?_
    refine wo_gsF (v := sw.over) rfl rfl (fun ag => ?_) (fun ag => ?_)
    ·
     have ci := ag
     try simp only [BS] at ci
     refine wm (.pointer (some ⟨b, 0, none⟩)) rfl rfl rfl ?_
     refine gw rfl ag ?_
     refine bY (v := (.pointer (some ⟨b, 0, none⟩))) (iu rfl) rfl rfl ?_
     refine gw rfl ag ?_
     refine bY (v := (.pointer (some ⟨b, 10, none⟩))) (bQ rfl rfl) rfl rfl ?_
     refine gw rfl ag ?_
     refine bY (v := (.bool sw.long)) (aP (i := 10) rfl rfl (HS.hc V (i := 0) rfl) rfl rfl) rfl rfl ?_
     refine bY (v := (.bool sw.long)) (eW rfl ag rfl) rfl rfl ?_
     refine wm (.bool sw.long) rfl rfl rfl ?_
     refine wo_gsF (v := sw.long) rfl rfl (fun a3 => ?_) (fun a3 => ?_)
     ·
      have co := a3
      try simp only [BS] at co
      refine wm (.pointer (some ⟨b, 0, none⟩)) rfl rfl rfl ?_
      refine gw rfl a3 ?_
      have hov : sw.over = false := by assumption
      have hlv : sw.long = false := by assumption
      refine aD (az rfl rfl rfl) rfl rfl (istep_c ex sw.most sw.long (HS.callOwn V (i := 0) rfl) (by omega)) ?_
      rintro _ hI ⟨b6, aq, aj, A, rfl, bj⟩
      replace A := HS.backOwn V (i := 0) rfl rfl (fun _ hb => hb) A
      have A : HS _ _ _ [[(b, .cells [(.slice la P.length lk), (.slice ca cn ck), (iI sw.fuel), (iI aq), (.slice oa on ok), (iI sw.kind), (iI sw.code), (.slice none 0 0), (iI 0), (.bool sw.over), (.bool aj)] none false)], qv, ar, z, a0] _ := A
      refine gw rfl a3 ?_
      refine bY (v := (.bool (!b6))) (ap_not rfl) rfl rfl ?_
      refine bY (v := (.bool (!b6))) (eW rfl a3 rfl) rfl rfl ?_
      refine gv ?_
      refine ao 1 rfl ?_
      refine am 1 2 (v := (!b6)) rfl rfl rfl rfl (fun a6 => ?_) (fun a6 => ?_)
      ·
       have dl := a6
       try simp only [BS] at dl
       obtain ⟨_, hma, hmb, hmc⟩ := bj.resolve_left (fun h => absurd (h.1.symm.trans (jk a6)) (by decide))
       refine wR 1 [] 6 6 [] [(6, (iI 0))] trivial rfl fun _ => ?_
       have hfin : ce P s fi args = ((⟨sw.cells, sw.fuel, aq, sw.out, sw.kind, sw.code, sw.over, aj⟩ : IntS), (0 : Int)) := by (subst hmb hmc; exact hres.trans (g_long (by rw [hov, hlv]; decide) (by omega)))
       exact ah ⟨.inr rfl, _, rfl, (by rw [hfin]; rfl), by rw [hfin]; first | (show in64 0; exact ⟨by decide, by decide⟩) | (dsimp only; assumption), (by rw [hfin]; exact ⟨_, _, _, _, _, _, _, _, (fT (T) U), HS.sub A (List.sublist_append_left [_, _] _), hqv⟩)⟩
      ·
       have dl := a6
       try simp only [BS] at dl
       obtain ⟨_, hma, hmb, hmc⟩ := bj.resolve_right (fun h => absurd (h.1.symm.trans (jk a6)) (by decide))
       have hkk : ¬ k < ((P.getD fi.toNat default).blocks.getD av.toNat default).ins.length := fun hh => by
        rw [hov, hlv, decide_eq_true (show (k : Int) < (((P.getD fi.toNat default).blocks.getD av.toNat default).ins.length : Int) by omega)] at hxe; cases hxe
       refine wR 3 [(1, .o (iI ((P.getD fi.toNat default).blocks.getD av.toNat default).fin))] 86 87 [] [(87, (iI ((P.getD fi.toNat default).blocks.getD av.toNat default).fin))] (vA (ql 3 1 (HS.hc A (i := 4) rfl) rfl rfl) trivial) rfl fun _ => ?_
       refine wR 1 [] 92 93 [] [(92, (.bool (((P.getD fi.toNat default).blocks.getD av.toNat default).fin == 1)))] trivial rfl fun _ => ?_
       refine am 0 1 (v := (((P.getD fi.toNat default).blocks.getD av.toNat default).fin == 1)) rfl rfl rfl rfl (fun dn => ?_) (fun dn => ?_)
       ·
        try simp only [BS] at dn
        refine wR 3 [(1, .o (iI ((P.getD fi.toNat default).blocks.getD av.toNat default).tgt))] 94 95 [9] [(9, (iI ((P.getD fi.toNat default).blocks.getD av.toNat default).tgt))] (vA (ql 3 3 (HS.hc A (i := 4) rfl) rfl rfl) trivial) rfl fun _ => ?_
        refine b0 _ _ _ ?_ ⟨(⟨sw.cells, sw.fuel, aq, sw.out, sw.kind, sw.code, sw.over, aj⟩ : IntS), ca, cn, ck, oa, on, ok, qv, rv, ((P.getD fi.toNat default).blocks.getD av.toNat default).tgt, z, _, (fT (T) U), (HS.sub A (List.sublist_append_left _ _)), O, ⟨rfl, rfl, rfl, rfl, rfl, trivial⟩, rfl, (by assumption), (by subst hmb hmc; rw [hres, g_end (by rw [hov, hlv]; decide) (by omega) (by omega)]; dsimp only [rg]; (repeat (first | rw [if_pos (by omega)] | rw [if_neg (by omega)])); first | done | rfl | exact (iJ (.inl rfl)).symm), (by subst hmb hmc; first | exact (hwv.dec (by omega)).1 | exact (hwv.dec (by omega)).1.stop (by simp only [in64]; omega)), (by (dsimp only; omega)), (by exact hrl), (by omega)⟩
        first | omega | (dsimp only; omega)
       ·
        try simp only [BS] at dn
        refine wR 1 [] 96 97 [] [(96, (.bool (((P.getD fi.toNat default).blocks.getD av.toNat default).fin == 2)))] trivial rfl fun _ => ?_
        refine am 1 1 (v := (((P.getD fi.toNat default).blocks.getD av.toNat default).fin == 2)) rfl rfl rfl rfl (fun ds => ?_) (fun ds => ?_)
        ·
         try simp only [BS] at ds
         refine wR 2 [(1, .o (iI ((P.getD fi.toNat default).blocks.getD av.toNat default).els))] 98 99 [9] [(9, (iI ((P.getD fi.toNat default).blocks.getD av.toNat default).els))] (vA (ql 3 4 (HS.hc A (i := 4) rfl) rfl rfl) trivial) rfl fun _ => ?_
         obtain ⟨hg, et⟩ := Sv.view (OS.sv O A (i := 3) rfl)
         have hQ := fI (et ((P.getD fi.toNat default).blocks.getD av.toNat default).reg.toNat)
         refine wR 1 [(2, .o (iI ((P.getD fi.toNat default).blocks.getD av.toNat default).reg)), (4, .o (iI (rv.getD ((P.getD fi.toNat default).blocks.getD av.toNat default).reg.toNat 0)))] 100 105 [] [(105, (.bool ((rv.getD ((P.getD fi.toNat default).blocks.getD av.toNat default).reg.toNat 0) != 0)))] (vA (ql 3 2 (HS.hc A (i := 4) rfl) rfl rfl) (vA (Sv.ix (j := ((P.getD fi.toNat default).blocks.getD av.toNat default).reg) (OS.sv O A (i := 3) rfl) (by omega) (by omega)) (vA (ql 2 0 (vI (et ((P.getD fi.toNat default).blocks.getD av.toNat default).reg.toNat) (by omega)) rfl rfl) trivial))) rfl fun _ => ?_
         refine am 0 3 (v := ((rv.getD ((P.getD fi.toNat default).blocks.getD av.toNat default).reg.toNat 0) != 0)) rfl rfl rfl rfl (fun dt => ?_) (fun dt => ?_)
         ·
          try simp only [BS] at dt
          refine wR 3 [(1, .o (iI ((P.getD fi.toNat default).blocks.getD av.toNat default).tgt))] 106 107 [9] [(9, (iI ((P.getD fi.toNat default).blocks.getD av.toNat default).tgt))] (vA (ql 3 3 (HS.hc A (i := 4) rfl) rfl rfl) trivial) rfl fun _ => ?_
          refine b0 _ _ _ ?_ ⟨(⟨sw.cells, sw.fuel, aq, sw.out, sw.kind, sw.code, sw.over, aj⟩ : IntS), ca, cn, ck, oa, on, ok, qv, rv, ((P.getD fi.toNat default).blocks.getD av.toNat default).tgt, z, _, (fT (T) U), (HS.sub A (List.sublist_append_left _ _)), O, ⟨rfl, rfl, rfl, rfl, rfl, trivial⟩, rfl, (by assumption), (by subst hmb hmc; rw [hres, g_end (by rw [hov, hlv]; decide) (by omega) (by omega)]; dsimp only [rg]; (repeat (first | rw [if_pos (by omega)] | rw [if_neg (by omega)])); first | done | rfl | exact (iJ (.inl rfl)).symm), (by subst hmb hmc; first | exact (hwv.dec (by omega)).1 | exact (hwv.dec (by omega)).1.stop (by simp only [in64]; omega)), (by (dsimp only; omega)), (by exact hrl), (by omega)⟩
          first | omega | (dsimp only; omega)
         ·
          try simp only [BS] at dt
          refine b0 _ _ _ ?_ ⟨(⟨sw.cells, sw.fuel, aq, sw.out, sw.kind, sw.code, sw.over, aj⟩ : IntS), ca, cn, ck, oa, on, ok, qv, rv, ((P.getD fi.toNat default).blocks.getD av.toNat default).els, z, _, (fT (T) U), (HS.sub A (List.sublist_append_left _ _)), O, ⟨rfl, rfl, rfl, rfl, rfl, trivial⟩, rfl, (by assumption), (by subst hmb hmc; rw [hres, g_end (by rw [hov, hlv]; decide) (by omega) (by omega)]; dsimp only [rg]; (repeat (first | rw [if_pos (by omega)] | rw [if_neg (by omega)])); first | done | rfl | exact (iJ (.inl rfl)).symm), (by subst hmb hmc; first | exact (hwv.dec (by omega)).1 | exact (hwv.dec (by omega)).1.stop (by simp only [in64]; omega)), (by (dsimp only; omega)), (by exact hrl), (by omega)⟩
          first | omega | (dsimp only; omega)
        ·
         try simp only [BS] at ds
         refine wR 1 [] 108 109 [] [(108, (.bool (((P.getD fi.toNat default).blocks.getD av.toNat default).fin == 3)))] trivial rfl fun _ => ?_
         refine am 1 0 (v := (((P.getD fi.toNat default).blocks.getD av.toNat default).fin == 3)) rfl rfl rfl rfl (fun dv => ?_) (fun dv => ?_)
         ·
          try simp only [BS] at dv
          obtain ⟨hj, ev⟩ := Sv.view (OS.sv O A (i := 3) rfl)
          have hR := fI (ev ((P.getD fi.toNat default).blocks.getD av.toNat default).reg.toNat)
          refine wR 1 [(2, .o (iI ((P.getD fi.toNat default).blocks.getD av.toNat default).reg)), (4, .o (iI (rv.getD ((P.getD fi.toNat default).blocks.getD av.toNat default).reg.toNat 0)))] 110 114 [6] [(6, (iI (rv.getD ((P.getD fi.toNat default).blocks.getD av.toNat default).reg.toNat 0)))] (vA (ql 3 2 (HS.hc A (i := 4) rfl) rfl rfl) (vA (Sv.ix (j := ((P.getD fi.toNat default).blocks.getD av.toNat default).reg) (OS.sv O A (i := 3) rfl) (by omega) (by omega)) (vA (ql 2 0 (vI (ev ((P.getD fi.toNat default).blocks.getD av.toNat default).reg.toNat) (by omega)) rfl rfl) trivial))) rfl fun _ => ?_
          have hfin : ce P s fi args = ((⟨sw.cells, sw.fuel, aq, sw.out, sw.kind, sw.code, sw.over, aj⟩ : IntS), (rv.getD ((P.getD fi.toNat default).blocks.getD av.toNat default).reg.toNat 0)) := by (subst hmb hmc; rw [hres, g_end (by rw [hov, hlv]; decide) (by omega) (by omega)]; dsimp only [rg]; (repeat (first | rw [if_pos (by omega)] | rw [if_neg (by omega)])); first | done | rfl)
          exact ah ⟨.inr rfl, _, rfl, (by rw [hfin]; rfl), by rw [hfin]; first | (show in64 0; exact ⟨by decide, by decide⟩) | (dsimp only; assumption), (by rw [hfin]; exact ⟨_, _, _, _, _, _, _, _, (fT (T) U), HS.sub A (List.sublist_append_left [_, _] _), hqv⟩)⟩
         ·
          try simp only [BS] at dv
          refine ab ?_
          refine wRo 3 0 [(2, .o (iI ((P.getD fi.toNat default).blocks.getD av.toNat default).tgt))] 88 90 [] [(88, (.pointer (some ⟨b, 0, none⟩))), (90, (iI ((P.getD fi.toNat default).blocks.getD av.toNat default).tgt))] (vA (ql 3 3 (HS.hc A (i := 4) rfl) rfl rfl) trivial) rfl fun _ => ?_
          refine aD (az rfl rfl rfl) rfl rfl (jP ex (2) ((P.getD fi.toNat default).blocks.getD av.toNat default).tgt (HS.callOwn A (i := 0) rfl)) ?_
          rintro _ hK ⟨a7, rfl⟩
          replace a7 := HS.backOwn A (i := 0) rfl rfl (fun _ hb => hb) a7
          have a7 : HS _ _ _ [[(b, .cells [(.slice la P.length lk), (.slice ca cn ck), (iI sw.fuel), (iI aq), (.slice oa on ok), (iI 2), (iI ((P.getD fi.toNat default).blocks.getD av.toNat default).tgt), (.slice none 0 0), (iI 0), (.bool true), (.bool aj)] none false)], qv, ar, z, a0] _ := a7
          refine ai 3 rfl ?_
          refine b0 _ _ _ ?_ ⟨(⟨sw.cells, sw.fuel, aq, sw.out, 2, ((P.getD fi.toNat default).blocks.getD av.toNat default).tgt, true, aj⟩ : IntS), ca, cn, ck, oa, on, ok, qv, rv, av, z, _, (fT (T) U), (HS.sub a7 (List.sublist_append_left _ _)), O, ⟨rfl, rfl, rfl, rfl, rfl, trivial⟩, rfl, (by assumption), (by subst hmb hmc; rw [hres, g_end (by rw [hov, hlv]; decide) (by omega) (by omega)]; dsimp only [rg]; (repeat (first | rw [if_pos (by omega)] | rw [if_neg (by omega)])); first | done | rfl | exact (iJ (.inl rfl)).symm), (by subst hmb hmc; first | exact (hwv.dec (by omega)).1 | exact (hwv.dec (by omega)).1.stop (by simp only [in64]; omega)), (by (dsimp only; omega)), (by exact hrl), (by omega)⟩
          first | omega | (dsimp only; omega)
     ·
      have co := a3
      try simp only [BS] at co
      refine fO rfl a3 rfl ?_
      refine fO rfl a3 rfl ?_
      refine bY (v := (.bool true)) (eV rfl a3 rfl) rfl rfl ?_
      refine gv ?_
      refine ao 1 rfl ?_
      refine bh 1 (v := true) rfl rfl rfl rfl ?_
      refine wR 1 [] 6 6 [] [(6, (iI 0))] trivial rfl fun _ => ?_
      have hfin : ce P s fi args = ((⟨sw.cells, sw.fuel, sw.most, sw.out, sw.kind, sw.code, sw.over, sw.long⟩ : IntS), (0 : Int)) := by exact hres.trans (iJ (.inr (by assumption)))
      exact ah ⟨.inr rfl, _, rfl, (by rw [hfin]; rfl), by rw [hfin]; first | (show in64 0; exact ⟨by decide, by decide⟩) | (dsimp only; assumption), (by rw [hfin]; exact ⟨_, _, _, _, _, _, _, _, (fT (T) U), HS.sub V (List.sublist_append_left [_, _] _), hqv⟩)⟩
    ·
     have ci := ag
     try simp only [BS] at ci
     refine fO rfl ag rfl ?_
     refine fO rfl ag rfl ?_
     refine fO rfl ag rfl ?_
     refine bY (v := (.bool true)) (eV rfl ag rfl) rfl rfl ?_
     refine wm (.bool true) rfl rfl rfl ?_
     refine fO rfl rfl rfl ?_
     refine fO rfl rfl rfl ?_
     refine fO rfl rfl rfl ?_
     refine bY (v := (.bool true)) (eV rfl rfl rfl) rfl rfl ?_
     refine gv ?_
     refine ao 1 rfl ?_
     refine bh 1 (v := true) rfl rfl rfl rfl ?_
     refine wR 1 [] 6 6 [] [(6, (iI 0))] trivial rfl fun _ => ?_
     have hfin : ce P s fi args = ((⟨sw.cells, sw.fuel, sw.most, sw.out, sw.kind, sw.code, sw.over, sw.long⟩ : IntS), (0 : Int)) := by exact hres.trans (iJ (.inl (by assumption)))
     exact ah ⟨.inr rfl, _, rfl, (by rw [hfin]; rfl), by rw [hfin]; first | (show in64 0; exact ⟨by decide, by decide⟩) | (dsimp only; assumption), (by rw [hfin]; exact ⟨_, _, _, _, _, _, _, _, (fT (T) U), HS.sub V (List.sublist_append_left [_, _] _), hqv⟩)⟩
  ·
   try simp only [BS] at c3
   have hx : sv.over = true ∨ sv.long = true := by
    cases ho : sv.over with
    | true => exact .inl rfl
    | false => exact .inr (c3 ho)
   refine wR 1 [] 6 6 [] [(6, (iI 0))] trivial rfl fun _ => ?_
   have hfin : ce P s fi args = ((⟨sv.cells, sv.fuel, sv.most, sv.out, sv.kind, sv.code, sv.over, sv.long⟩ : IntS), (0 : Int)) := by exact hres.trans (iJ hx)
   exact ah ⟨.inr rfl, _, rfl, (by rw [hfin]; rfl), by rw [hfin]; first | (show in64 0; exact ⟨by decide, by decide⟩) | (dsimp only; assumption), (by rw [hfin]; exact ⟨_, _, _, _, _, _, _, _, (T), HS.sub a1 (List.sublist_append_left [_, _] _), hqv⟩)⟩
end Go.Proofs.YtlabedbmgmfbaaaDoor.jd
