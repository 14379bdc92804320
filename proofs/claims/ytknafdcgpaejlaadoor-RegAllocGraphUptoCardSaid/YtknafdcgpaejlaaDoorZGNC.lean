/-
 How often registers are used: the allocator, by a symbolic run. No condition but bounds on lengths.
-/
import Derived.Test.YtknafdcgpaejlaaDoorZGNB
noncomputable section
namespace Go.Proofs.YtknafdcgpaejlaaDoor.nc
open Go.R
set_option maxRecDepth 10000
set_option linter.unusedVariables false
set_option linter.unusedSimpArgs false
variable (ex : FuncId) {F : Fz} {H : Heap} {R : List Fp}
open m1 m2 m3 m4 m5 m6 ma ml mb mc md mf mg mh mi mj na nb
def usedI (v : VInT) : List Int := aw v ++ ab v
def usedB (b : BlkT) : List Int := b.ins.flatMap usedI ++ df b
def usedC (c : VFnT) : List Int := c.blocks.flatMap usedB
def UsP (c : VFnT) (k n : Nat) (l : List Int) : List Int := (c.blocks.take k).flatMap usedB ++ ((bQ c k).ins.take n).flatMap usedI ++ l
structure CntF (c : VFnT) (L o : List Int) : Prop where
 len : o.length = c.regs.toNat
 at_ : ∀ r, r < c.regs.toNat → o.getD r 0 = (L.count (r : Int) : Int)
theorem ge {c : VFnT} : CntF c (UsP c 0 0 []) (List.replicate c.regs.toNat 0) := ⟨a0P, fun r hr => by
 have e : UsP c 0 0 [] = [] := by unfold UsP; simp
 rw [e, a01, a1i, if_pos hr]; rfl⟩
theorem gf {c : VFnT} {k n : Nat} {l o : List Int} {x : Int} (h : CntF c (UsP c k n l) o) (hx : 0 ≤ x ∧ x < c.regs) : CntF c (UsP c k n (l ++ [x])) (o.set x.toNat (o.getD x.toNat 0 + 1)) := ⟨a0i.trans h.len, fun r hr => by
 have e : UsP c k n (l ++ [x]) = UsP c k n l ++ [x] := (a0n _ _ _).symm
 rw [e, List.count_append, List.count_singleton]
 have hl := h.len
 by_cases z : x.toNat = r
 ·
  subst z
  have A : ((x.toNat : Nat) : Int) = x := by omega
  rw [a01, List.getElem?_set_self (by omega), a0Q, h.at_ _ hr, A]
  simp
 rw [a01, a1Z z, ← a01, h.at_ r hr, if_neg (by simp; omega)]
 simp⟩
theorem i9 {c : VFnT} {L o : List Int} {x : Int} (h : CntF c L o) (hx : 0 ≤ x ∧ x < c.regs) (hl : L.length ≤ 1125899906842624) : 0 ≤ o.getD x.toNat 0 ∧ o.getD x.toNat 0 ≤ 1125899906842624 ∧ x.toNat < o.length := by
 rw [h.at_ _ (by omega), h.len]
 have := List.count_le_length (a := ((x.toNat : Nat) : Int)) (l := L)
 omega
theorem us_instr {c : VFnT} {k n : Nat} (hn : n < (bQ c k).ins.length) : UsP c k n (aw ((bQ c k).ins.getD n default) ++ ab ((bQ c k).ins.getD n default)) = UsP c k (n + 1) [] := by
 unfold UsP
 rw [bo hn (d := default), List.flatMap_append, a0E]
 simp [usedI]
theorem j4 {c : VFnT} {k : Nat} (hk : k < c.blocks.length) : UsP c k (bQ c k).ins.length (df (bQ c k)) = UsP c (k + 1) 0 [] := by
 unfold UsP
 rw [bo hk (d := default), List.flatMap_append, a17]
 simp [usedB, bQ]
theorem us_all {c : VFnT} {k : Nat} (hk : c.blocks.length ≤ k) : UsP c k 0 [] = usedC c := by
 unfold UsP usedC
 rw [a0h hk]; simp
theorem fm_len {α : Type} {f : α → List Int} {B : Nat} : ∀ {l : List α}, (∀ x ∈ l, (f x).length ≤ B) → (l.flatMap f).length ≤ l.length * B
 | [], _ => a0B _
 | x :: l, h => by
  have z := fm_len (l := l) fun y hy => h y (a0j _ hy)
  have A := h x (a0A ..)
  rw [List.flatMap_cons, a06, a0a, a1e]; omega
theorem us_len {c : VFnT} {k n : Nat} {l : List Int} (v : VF c) (hins : ∀ j, (bQ c j).ins.length ≤ 1073741824) (hk : k < c.blocks.length) (hl : l.length ≤ 20) : (UsP c k n l).length ≤ 1125899906842624 := by
 have hI : ∀ b, b < c.blocks.length → ∀ x ∈ (bQ c b).ins, (usedI x).length ≤ 10 := fun b hb x hx => by
  obtain ⟨i, hi, rfl⟩ := a0D.1 hx
  have z := v.ins b hb i hi
  rw [a01, a03 hi, a0Q] at z
  have A := ej (v := (bQ c b).ins[i])
  have E := cG (v := (bQ c b).ins[i])
  have J := (bR z).2.2
  unfold usedI; rw [a06]; omega
 have hB : ∀ x ∈ c.blocks.take k, (usedB x).length ≤ 10737418241 := fun x hx => by
  obtain ⟨b, hb, rfl⟩ := a0D.1 (a0d hx)
  have e : c.blocks[b] = bQ c b := by unfold bQ; rw [a01, a03 hb]; rfl
  rw [e]
  have z := fm_len (hI b hb)
  have A := hins b
  have E : (df (bQ c b)).length ≤ 1 := by unfold df; split <;> simp
  unfold usedB; rw [a06]; omega
 have z := fm_len hB
 have A := fm_len (l := (bQ c k).ins.take n) fun x hx => hI k hk x (a0d hx)
 have E := hins k
 have J := v.nb
 have N : (c.blocks.take k).length ≤ 1000 := by rw [a0q]; omega
 have T : ((bQ c k).ins.take n).length ≤ 1073741824 := by rw [a0q]; omega
 unfold UsP
 rw [a06, a06]
 have U : (c.blocks.take k).length * 10737418241 ≤ 1000 * 10737418241 := a0z _ N
 omega
theorem end_yes {b : BlkT} (h : b.fin = 2 ∨ b.fin = 3) : df b = [b.reg] := if_pos h
theorem end_no {b : BlkT} (h : ¬ (b.fin = 2 ∨ b.fin = 3)) : df b = [] := if_neg h
set_option maxHeartbeats 2000000 in
theorem uses_c {Y : Option Addr} {ad : Nat} (c : VFnT) (hs : HS (.of H []) F H [] R) (ii : in64 c.params) (ik : in64 c.regs) (a4 : SR F (.slice Y c.blocks.length ad) c.blocks) (hT : TB 37 tabC F) (hins : ∀ j, (c.blocks.getD j default).ins.length ≤ 1073741822) : kKt ex 23 [(.agg ⟨[(iI c.params), (iI c.regs), (.slice Y c.blocks.length ad)]⟩)] H fun v H' => ∃ (ao : Option Addr) (ko : Nat) (o : List Int) (F' : Fz), Fz.le F F' ∧ HS (.of H []) F' H' [] R ∧ v = .slice ao o.length ko ∧ SR F' (.slice ao o.length ko) o ∧ (cx c = true → CntF c (usedC c) o) ∧ (cx c = false → o = []) := by
 refine aI Tryd.func23 rfl rfl (ah 1 rfl (aa (aH (bw hs rfl rfl) rfl rfl ?_)))
 rintro _ H2 _ ⟨b1, rfl, (fd : HS _ _ _ [[(b1, .cells [(iI c.params), (iI c.regs), (.slice Y c.blocks.length ad)] none false)]] _), _⟩
 let g8 : Value := (.agg ⟨[(iI c.params), (iI c.regs), (.slice Y c.blocks.length ad)]⟩)
 refine wa (.slice none 0 0) rfl rfl rfl (ae 3 rfl (aa (wUo 1 0 [(0, .o g8)] 12 12 [] [(12, g8)] (qn 24 0 3 (HS.hc fd (i := 0) rfl) rfl rfl rfl rfl) rfl fun _ => az (ap rfl rfl rfl) rfl rfl (m3.valid_c ex c (HS.call fd) (by omega) (by omega) a4 hT (fun j => a0b (hins j) (by omega))) ?_)))
 rintro _ H4 ⟨r4, F4, d2, cc, rfl, rfl⟩
 replace cc : HS _ _ _ [_] _ := HS.back fd rfl cc
 replace hT := hT.mono d2
 replace a4 := a4.mono d2
 refine wTo 1 2 [] 14 14 [] [(14, (.bool (!(cx c))))] rfl fun _ => ae 1 rfl (am 1 2 (v := (!(cx c))) rfl rfl rfl rfl (fun ez => ?_) (fun ez => ?_))
 ·
  have c6 := ez
  try simp only [BS] at c6
  have hv := c6
  refine wT 1 [] 2 2 [] [(2, (.slice none 0 0))] rfl fun _ => ak ⟨.inr rfl, _, rfl, none, 0, ([] : List Int), _, (d2), (HS.forget cc), rfl, (SR.nil : SR F4 (.slice none 0 0) ([] : List Int)), (fun h => absurd (h.symm.trans hv) (by decide)), (fun _ => rfl)⟩
 have c6 := ez
 try simp only [BS] at c6
 have hv := c6
 have vF := iA hv
 have hnb := vF.nb
 have hrg := vF.regs
 have e5 : ∀ j, (bQ c j).ins.length ≤ 1073741824 := fun j => a0b (hins j) (by omega)
 refine aa (wUo 2 0 [(1, .o (iI c.regs))] 15 16 [] [(16, (iI c.regs))] (ql 3 1 (HS.hc cc (i := 0) rfl) rfl rfl) rfl fun _ => aH (dg (0 : Int) cc rfl rfl rfl rfl rfl rfl rfl rfl rfl ⟨rfl, by decide⟩ (by omega) (by omega)) rfl rfl ?_)
 rintro _ jc p9 ⟨a9, k9, rfl, hI, (e6 : HS _ _ _ [_, p9] _), _⟩
 let d3 : Fp := [(b1, .cells [(iI c.params), (iI c.regs), (.slice Y c.blocks.length ad)] none false)]
 refine wa (.slice a9 (List.replicate c.regs.toNat (0 : Int)).length k9) rfl rfl rfl (ae 3 rfl (wU 2 [(1, .o (.slice Y c.blocks.length ad))] 18 21 [] [(19, (.slice Y c.blocks.length ad)), (20, (iI (c.blocks.length : Int))), (21, (iI 0))] (ql 22 2 (HS.hc e6 (i := 0) rfl) rfl rfl) rfl fun _ => aj (fun (mm : Nat) f H' => ∃ (o1 : List Int) (k : Nat) (al : Option Addr) (an : Nat) (a0 : Fp) (F' : Fz), Fz.le F4 F' ∧ HS (Base.of H []) F' H' [d3, a0] R ∧ OS F' (.slice al o1.length an) o1 a0 ∧ aD f [(3, (.slice al o1.length an)), (19, (.slice Y c.blocks.length ad)), (20, (iI (c.blocks.length : Int))), (21, (iI (k : Int)))] ∧ mm = c.blocks.length - k ∧ (CntF c (UsP c k 0 []) o1) ∧ (k ≤ c.blocks.length)) _ ⟨List.replicate c.regs.toNat (0 : Int), 0, a9, k9, p9, _, fR, e6, hI, ⟨rfl, rfl, rfl, rfl, trivial⟩, rfl, (ge), (by omega)⟩ ?_))
 rintro it kx jq ⟨o1, k, al, an, a0, hB, bz, b7, ch, e1, rfl, c1, hk⟩ f7
 refine au _ e1 (fun _ => ?_)
 clear e1
 replace hT := hT.mono bz
 replace a4 := a4.mono bz
 refine ah 1 rfl (wT 2 [] 22 22 [] [(22, (.bool (decide ((k : Int) < (c.blocks.length : Int)))))] rfl fun _ => am 4 5 (v := (decide ((k : Int) < (c.blocks.length : Int)))) rfl rfl rfl rfl (fun cl => ?_) (fun cl => ?_))
 ·
  have d4 := cl
  try simp only [BS] at d4
  have hbn : k < c.blocks.length := by omega
  have hbl := hins k
  refine aa ?_
  obtain ⟨z, f0⟩ := Sv.view (SR.sv a4 b7)
  obtain ⟨hQ, hR, hS, hV, bk⟩ := BlkT.fx (f0 k)
  let g9 : Value := (.agg ⟨[(.slice (cA (z k) 0) (c.blocks.getD k default).ins.length (cK (z k) 0)), (iI (c.blocks.getD k default).fin), (iI (c.blocks.getD k default).reg), (iI (c.blocks.getD k default).tgt), (iI (c.blocks.getD k default).els)]⟩)
  refine wRo 2 0 [(1, .o g9)] 23 24 [] [(24, g9)] (vA (Sv.ix (j := (k : Int)) (SR.sv a4 b7) (by omega) (by omega)) (vA (qn 48 0 5 (BlkT.vw (f0 k) (by omega)) rfl rfl rfl rfl) trivial)) rfl fun _ => aH (bp b7 rfl) rfl rfl ?_
  rintro _ jw _ ⟨b3, rfl, (hh : HS _ _ _ [_, a0, [(b3, .cells [(.slice none 0 0), (iI 0), (iI 0), (iI 0), (iI 0)] none false)]] _), _⟩
  refine aL (aE (q := 2) hh rfl rfl rfl rfl rfl rfl rfl rfl rfl) rfl ?_
  rintro _ j0 _ ⟨(fi : HS _ _ _ [_, _, [(b3, .cells [(.slice (cA (z k) 0) (c.blocks.getD k default).ins.length (cK (z k) 0)), (iI (c.blocks.getD k default).fin), (iI (c.blocks.getD k default).reg), (iI (c.blocks.getD k default).tgt), (iI (c.blocks.getD k default).els)] none false)]] _), _⟩
  let f9 : Fp := [(b3, .cells [(.slice (cA (z k) 0) (c.blocks.getD k default).ins.length (cK (z k) 0)), (iI (c.blocks.getD k default).fin), (iI (c.blocks.getD k default).reg), (iI (c.blocks.getD k default).tgt), (iI (c.blocks.getD k default).els)] none false)]
  refine ae 3 rfl (wU 2 [(1, .o (.slice (cA (z k) 0) (c.blocks.getD k default).ins.length (cK (z k) 0)))] 25 28 [] [(26, (.slice (cA (z k) 0) (c.blocks.getD k default).ins.length (cK (z k) 0))), (27, (iI ((c.blocks.getD k default).ins.length : Int))), (28, (iI 0))] (ql 46 0 (HS.hc fi (i := 2) rfl) rfl rfl) rfl fun _ => aj (fun (mm : Nat) f H' => ∃ (o2 : List Int) (n : Nat) (A : Option Addr) (E : Nat) (ar : Fp) (F' : Fz), Fz.le hB F' ∧ HS (Base.of H []) F' H' [d3, ar, f9] R ∧ OS F' (.slice A o2.length E) o2 ar ∧ aD f [(3, (.slice A o2.length E)), (5, (.pointer (some ⟨b3, 0, none⟩))), (19, (.slice Y c.blocks.length ad)), (20, (iI (c.blocks.length : Int))), (21, (iI (k : Int))), (26, (.slice (cA (z k) 0) (c.blocks.getD k default).ins.length (cK (z k) 0))), (27, (iI ((c.blocks.getD k default).ins.length : Int))), (28, (iI (n : Int)))] ∧ mm = (c.blocks.getD k default).ins.length - n ∧ (CntF c (UsP c k n []) o2) ∧ (n ≤ (c.blocks.getD k default).ins.length)) _ ⟨o1, 0, al, an, a0, _, fR, fi, ch, ⟨rfl, rfl, rfl, rfl, rfl, rfl, rfl, rfl, trivial⟩, rfl, (by omega), (by omega)⟩ ?_)
  rintro iv ky j1 ⟨o2, n, A, E, ar, i2, b0, Z, V, e2, rfl, c2, hn⟩ ht
  refine au _ e2 (fun _ => ?_)
  clear e2
  replace hT := hT.mono b0
  replace bk := bk.mono b0
  refine ah 1 rfl (wT 2 [] 29 29 [] [(29, (.bool (decide ((n : Int) < ((c.blocks.getD k default).ins.length : Int)))))] rfl fun _ => am 4 5 (v := (decide ((n : Int) < ((c.blocks.getD k default).ins.length : Int)))) rfl rfl rfl rfl (fun co => ?_) (fun co => ?_))
  ·
   have ea := co
   try simp only [BS] at ea
   have hnn : n < (c.blocks.getD k default).ins.length := by omega
   have hvl : (∀ x ∈ aw ((c.blocks.getD k default).ins.getD n default), 0 ≤ x ∧ x < c.regs) ∧ (∀ x ∈ ab ((c.blocks.getD k default).ins.getD n default), 0 ≤ x ∧ x < c.regs) ∧ ((c.blocks.getD k default).ins.getD n default).args.length ≤ 6 := bR (vF.ins k hbn n hnn)
   have hrl := ej (v := ((c.blocks.getD k default).ins.getD n default))
   have hwl := cG (v := ((c.blocks.getD k default).ins.getD n default))
   refine aa ?_
   obtain ⟨a7, f1⟩ := Sv.view (SR.sv bk Z)
   obtain ⟨hW, hX, hY, h1, h2, bl⟩ := VInT.fx (f1 n)
   let b4 : Value := (.agg ⟨[(iI ((c.blocks.getD k default).ins.getD n default).i.op), (iI ((c.blocks.getD k default).ins.getD n default).i.a), (iI ((c.blocks.getD k default).ins.getD n default).i.b), (iI ((c.blocks.getD k default).ins.getD n default).i.c), (iI ((c.blocks.getD k default).ins.getD n default).i.n), (.slice (cA (a7 n) 5) ((c.blocks.getD k default).ins.getD n default).args.length (cK (a7 n) 5))]⟩)
   refine wRo 2 0 [(1, .o b4)] 30 31 [] [(31, b4)] (vA (Sv.ix (j := (n : Int)) (SR.sv bk Z) (by omega) (by omega)) (vA (qn 52 0 6 (VInT.vw (f1 n) (by omega)) rfl rfl rfl rfl) trivial)) rfl fun _ => aH (bp Z rfl) rfl rfl ?_
   rintro _ j2 _ ⟨d1, rfl, (hj : HS _ _ _ [_, ar, _, [(d1, .cells [(iI 0), (iI 0), (iI 0), (iI 0), (iI 0), (.slice none 0 0)] none false)]] _), _⟩
   refine aL (aE (q := 3) hj rfl rfl rfl rfl rfl rfl rfl rfl rfl) rfl ?_
   rintro _ kc _ ⟨(dn : HS _ _ _ [_, _, _, [(d1, .cells [(iI ((c.blocks.getD k default).ins.getD n default).i.op), (iI ((c.blocks.getD k default).ins.getD n default).i.a), (iI ((c.blocks.getD k default).ins.getD n default).i.b), (iI ((c.blocks.getD k default).ins.getD n default).i.c), (iI ((c.blocks.getD k default).ins.getD n default).i.n), (.slice (cA (a7 n) 5) ((c.blocks.getD k default).ins.getD n default).args.length (cK (a7 n) 5))] none false)]] _), _⟩
   refine ae 3 rfl (aa (wUo 1 0 [(0, .o b4)] 32 32 [] [(32, b4)] (qn 52 0 6 (HS.hc dn (i := 3) rfl) rfl rfl rfl rfl) rfl fun _ => az (ap rfl rfl rfl) rfl rfl (ma.jY ex ((c.blocks.getD k default).ins.getD n default) (HS.call dn) (by omega) (by omega) (by omega) (by omega) (by omega) bl hT (by omega)) ?_))
   rintro _ kd ⟨hb, hz, k3, f8, hC, b6, ds, rfl, a8, rfl⟩
   replace ds : HS _ _ _ [_, _, _, _, f8] _ := HS.back dn rfl ds
   replace V := V.mono b6
   let ha : Fp := [(d1, .cells [(iI ((c.blocks.getD k default).ins.getD n default).i.op), (iI ((c.blocks.getD k default).ins.getD n default).i.a), (iI ((c.blocks.getD k default).ins.getD n default).i.b), (iI ((c.blocks.getD k default).ins.getD n default).i.c), (iI ((c.blocks.getD k default).ins.getD n default).i.n), (.slice (cA (a7 n) 5) ((c.blocks.getD k default).ins.getD n default).args.length (cK (a7 n) 5))] none false)]
   refine wTo 2 2 [] 34 35 [] [(34, (iI ((aw ((c.blocks.getD k default).ins.getD n default)).length : Int))), (35, (iI 0))] rfl fun _ => ae 2 rfl (aj (fun (mm : Nat) f H' => ∃ (o3 : List Int) (p : Nat) (J : Option Addr) (T : Nat) (a1 : Fp) (F' : Fz), Fz.le hC F' ∧ HS (Base.of H []) F' H' [d3, a1, f9, ha, f8] R ∧ OS F' (.slice J o3.length T) o3 a1 ∧ aD f [(3, (.slice J o3.length T)), (5, (.pointer (some ⟨b3, 0, none⟩))), (7, (.pointer (some ⟨d1, 0, none⟩))), (19, (.slice Y c.blocks.length ad)), (20, (iI (c.blocks.length : Int))), (21, (iI (k : Int))), (26, (.slice (cA (z k) 0) (c.blocks.getD k default).ins.length (cK (z k) 0))), (27, (iI ((c.blocks.getD k default).ins.length : Int))), (28, (iI (n : Int))), (33, (.slice hb (aw ((c.blocks.getD k default).ins.getD n default)).length hz)), (34, (iI ((aw ((c.blocks.getD k default).ins.getD n default)).length : Int))), (35, (iI (p : Int)))] ∧ mm = (aw ((c.blocks.getD k default).ins.getD n default)).length - p ∧ (CntF c (UsP c k n ((aw ((c.blocks.getD k default).ins.getD n default)).take p)) o3) ∧ (p ≤ (aw ((c.blocks.getD k default).ins.getD n default)).length)) _ ⟨o2, 0, A, E, ar, _, fR, ds, V, ⟨rfl, rfl, rfl, rfl, rfl, rfl, rfl, rfl, rfl, rfl, rfl, rfl, trivial⟩, rfl, (c2), (by omega)⟩ ?_)
   rintro iz kz kg ⟨o3, p, J, T, a1, i3, b2, av, ag, e3, rfl, c3, hp⟩ hu
   refine au _ e3 (fun _ => ?_)
   clear e3
   replace hT := (hT.mono b6).mono b2
   replace a8 := a8.mono b2
   replace bl := (bl.mono b6).mono b2
   refine ah 1 rfl (wT 2 [] 36 36 [] [(36, (.bool (decide ((p : Int) < ((aw ((c.blocks.getD k default).ins.getD n default)).length : Int)))))] rfl fun _ => am 4 5 (v := (decide ((p : Int) < ((aw ((c.blocks.getD k default).ins.getD n default)).length : Int)))) rfl rfl rfl rfl (fun c0 => ?_) (fun c0 => ?_))
   ·
    have em := c0
    try simp only [BS] at em
    have hpn : p < (aw ((c.blocks.getD k default).ins.getD n default)).length := by omega
    have g2 := eQ hvl.1 hpn
    have kY := i9 c3 g2 (us_len vF e5 hbn (by rw [a0q]; omega))
    obtain ⟨h6, f2⟩ := Sv.view (OS.sv a8 av (i := 4) rfl)
    have kT := fI (f2 p)
    refine wR 1 [(1, .o (iI ((aw ((c.blocks.getD k default).ins.getD n default)).getD p 0)))] 37 38 [9] [(9, (iI ((aw ((c.blocks.getD k default).ins.getD n default)).getD p 0)))] (vA (Sv.ix (j := (p : Int)) (OS.sv a8 av (i := 4) rfl) (by omega) (by omega)) (vA (ql 3 0 (vI (f2 p) (by omega)) rfl rfl) trivial)) rfl fun _ => aa ?_
    obtain ⟨h7, f3⟩ := Sv.view (OS.sv ag av (i := 1) rfl)
    have kU := fI (f3 (((aw ((c.blocks.getD k default).ins.getD n default)).getD p 0).toNat))
    refine wRo 6 0 [(3, .o (iI (o3.getD (((aw ((c.blocks.getD k default).ins.getD n default)).getD p 0).toNat) 0)))] 39 44 [] [(43, (iI ((o3.getD (((aw ((c.blocks.getD k default).ins.getD n default)).getD p 0).toNat) 0) + 1))), (44, (.pointer (some ⟨sB (.slice J o3.length T), sO (.slice J o3.length T) + (((aw ((c.blocks.getD k default).ins.getD n default)).getD p 0).toNat) * Rp.sz Int, none⟩)))] (vA (Sv.ix (j := ((aw ((c.blocks.getD k default).ins.getD n default)).getD p 0)) (OS.sv ag av (i := 1) rfl) (by omega) (by omega)) (vA (ql 3 0 (vI (f3 (((aw ((c.blocks.getD k default).ins.getD n default)).getD p 0).toNat)) (by omega)) rfl rfl) (vA (vi (n := (o3.getD (((aw ((c.blocks.getD k default).ins.getD n default)).getD p 0).toNat) 0) + 1) (by omega)) (vA (Sv.ix (j := ((aw ((c.blocks.getD k default).ins.getD n default)).getD p 0)) (OS.sv ag av (i := 1) rfl) (by omega) (by omega)) trivial)))) rfl fun _ => aL (bY (α := Int) (j := ((aw ((c.blocks.getD k default).ins.getD n default)).getD p 0).toNat) (off := 0) (q := 1) ((o3.getD (((aw ((c.blocks.getD k default).ins.getD n default)).getD p 0).toNat) 0) + 1) ag av rfl rfl rfl rfl rfl rfl rfl rfl (aK (x := (0 : Int)) (by omega)) rfl (by rintro cs ⟨rfl, _⟩; exact ⟨a04 rfl, rfl, by omega⟩)) rfl ?_
    rintro _ ki g4 ⟨dd, (hl : HS _ _ _ [_, g4, _, _, _] _), _⟩
    have h3 := OS.len' dd
    refine ae 2 rfl (wU 1 [] 35 35 [45] [(35, (iI ((p : Int) + 1)))] (vi (n := (p : Int) + 1) (by omega)) rfl fun _ => hu _ _ _ ?_ ⟨o3.set (((aw ((c.blocks.getD k default).ins.getD n default)).getD p 0).toNat) ((o3.getD (((aw ((c.blocks.getD k default).ins.getD n default)).getD p 0).toNat) 0) + 1), p + 1, J, T, g4, _, (b2), hl, (OS.norm dd), (agC (show Value.slice J o3.length T = Value.slice J (o3.set (((aw ((c.blocks.getD k default).ins.getD n default)).getD p 0).toNat) ((o3.getD (((aw ((c.blocks.getD k default).ins.getD n default)).getD p 0).toNat) 0) + 1)).length T by rw [OS.len' dd]) ⟨rfl, rfl, rfl, rfl, rfl, rfl, rfl, rfl, rfl, rfl, rfl, trivial⟩), rfl, (by rw [bo (d := 0) hpn]; exact gf c3 g2), (by omega)⟩)
    omega
   have em := c0
   try simp only [BS] at em
   refine aa (wUo 1 0 [(0, .o b4)] 46 46 [] [(46, b4)] (qn 52 0 6 (HS.hc av (i := 3) rfl) rfl rfl rfl rfl) rfl fun _ => az (ap rfl rfl rfl) rfl rfl (ma.fF ex ((c.blocks.getD k default).ins.getD n default) (HS.call av) (by omega) (by omega) (by omega) (by omega) (by omega) bl hT) ?_)
   rintro _ kk ⟨he, hA, k4, g5, hE, e0, dt, rfl, bb, rfl⟩
   replace dt : HS _ _ _ [_, a1, _, _, _, g5] _ := HS.back av rfl dt
   replace ag := ag.mono e0
   refine wTo 2 2 [] 48 49 [] [(48, (iI ((ab ((c.blocks.getD k default).ins.getD n default)).length : Int))), (49, (iI 0))] rfl fun _ => ae 2 rfl (aj (fun (mm : Nat) f H' => ∃ (o4 : List Int) (q : Nat) (N : Option Addr) (U : Nat) (a6 : Fp) (F' : Fz), Fz.le hE F' ∧ HS (Base.of H []) F' H' [d3, a6, f9, ha, f8, g5] R ∧ OS F' (.slice N o4.length U) o4 a6 ∧ aD f [(3, (.slice N o4.length U)), (5, (.pointer (some ⟨b3, 0, none⟩))), (19, (.slice Y c.blocks.length ad)), (20, (iI (c.blocks.length : Int))), (21, (iI (k : Int))), (26, (.slice (cA (z k) 0) (c.blocks.getD k default).ins.length (cK (z k) 0))), (27, (iI ((c.blocks.getD k default).ins.length : Int))), (28, (iI (n : Int))), (47, (.slice he (ab ((c.blocks.getD k default).ins.getD n default)).length hA)), (48, (iI ((ab ((c.blocks.getD k default).ins.getD n default)).length : Int))), (49, (iI (q : Int)))] ∧ mm = (ab ((c.blocks.getD k default).ins.getD n default)).length - q ∧ (CntF c (UsP c k n (aw ((c.blocks.getD k default).ins.getD n default) ++ (ab ((c.blocks.getD k default).ins.getD n default)).take q)) o4) ∧ (q ≤ (ab ((c.blocks.getD k default).ins.getD n default)).length)) _ ⟨o3, 0, J, T, a1, _, fR, dt, ag, ⟨rfl, rfl, rfl, rfl, rfl, rfl, rfl, rfl, rfl, rfl, rfl, trivial⟩, rfl, (by rw [a0h (show (aw ((c.blocks.getD k default).ins.getD n default)).length ≤ p by omega)] at c3; rw [a2b, a0E]; exact c3), (by omega)⟩ ?_)
   rintro i1 kS kl ⟨o4, q, N, U, a6, ja, c8, a5, ay, e4, rfl, c4, hq⟩ hw
   refine au _ e4 (fun _ => ?_)
   clear e4
   replace bb := bb.mono c8
   refine ah 1 rfl (wT 2 [] 50 50 [] [(50, (.bool (decide ((q : Int) < ((ab ((c.blocks.getD k default).ins.getD n default)).length : Int)))))] rfl fun _ => am 4 5 (v := (decide ((q : Int) < ((ab ((c.blocks.getD k default).ins.getD n default)).length : Int)))) rfl rfl rfl rfl (fun c5 => ?_) (fun c5 => ?_))
   ·
    have es := c5
    try simp only [BS] at es
    have hqn : q < (ab ((c.blocks.getD k default).ins.getD n default)).length := by omega
    have g3 := eQ hvl.2.1 hqn
    have kZ := i9 c4 g3 (us_len vF e5 hbn (by rw [a06, a0q]; omega))
    obtain ⟨h8, f4⟩ := Sv.view (OS.sv bb a5 (i := 5) rfl)
    have kV := fI (f4 q)
    refine wR 1 [(1, .o (iI ((ab ((c.blocks.getD k default).ins.getD n default)).getD q 0)))] 51 52 [11] [(11, (iI ((ab ((c.blocks.getD k default).ins.getD n default)).getD q 0)))] (vA (Sv.ix (j := (q : Int)) (OS.sv bb a5 (i := 5) rfl) (by omega) (by omega)) (vA (ql 3 0 (vI (f4 q) (by omega)) rfl rfl) trivial)) rfl fun _ => aa ?_
    obtain ⟨ib, f5⟩ := Sv.view (OS.sv ay a5 (i := 1) rfl)
    have kW := fI (f5 (((ab ((c.blocks.getD k default).ins.getD n default)).getD q 0).toNat))
    refine wRo 6 0 [(3, .o (iI (o4.getD (((ab ((c.blocks.getD k default).ins.getD n default)).getD q 0).toNat) 0)))] 53 58 [] [(57, (iI ((o4.getD (((ab ((c.blocks.getD k default).ins.getD n default)).getD q 0).toNat) 0) + 1))), (58, (.pointer (some ⟨sB (.slice N o4.length U), sO (.slice N o4.length U) + (((ab ((c.blocks.getD k default).ins.getD n default)).getD q 0).toNat) * Rp.sz Int, none⟩)))] (vA (Sv.ix (j := ((ab ((c.blocks.getD k default).ins.getD n default)).getD q 0)) (OS.sv ay a5 (i := 1) rfl) (by omega) (by omega)) (vA (ql 3 0 (vI (f5 (((ab ((c.blocks.getD k default).ins.getD n default)).getD q 0).toNat)) (by omega)) rfl rfl) (vA (vi (n := (o4.getD (((ab ((c.blocks.getD k default).ins.getD n default)).getD q 0).toNat) 0) + 1) (by omega)) (vA (Sv.ix (j := ((ab ((c.blocks.getD k default).ins.getD n default)).getD q 0)) (OS.sv ay a5 (i := 1) rfl) (by omega) (by omega)) trivial)))) rfl fun _ => aL (bY (α := Int) (j := ((ab ((c.blocks.getD k default).ins.getD n default)).getD q 0).toNat) (off := 0) (q := 1) ((o4.getD (((ab ((c.blocks.getD k default).ins.getD n default)).getD q 0).toNat) 0) + 1) ay a5 rfl rfl rfl rfl rfl rfl rfl rfl (aK (x := (0 : Int)) (by omega)) rfl (by rintro cs ⟨rfl, _⟩; exact ⟨a04 rfl, rfl, by omega⟩)) rfl ?_
    rintro _ kn g6 ⟨dk, (hm : HS _ _ _ [_, g6, _, _, _, _] _), _⟩
    have h4 := OS.len' dk
    refine ae 2 rfl (wU 1 [] 49 49 [59] [(49, (iI ((q : Int) + 1)))] (vi (n := (q : Int) + 1) (by omega)) rfl fun _ => hw _ _ _ ?_ ⟨o4.set (((ab ((c.blocks.getD k default).ins.getD n default)).getD q 0).toNat) ((o4.getD (((ab ((c.blocks.getD k default).ins.getD n default)).getD q 0).toNat) 0) + 1), q + 1, N, U, g6, _, (c8), hm, (OS.norm dk), (agC (show Value.slice N o4.length U = Value.slice N (o4.set (((ab ((c.blocks.getD k default).ins.getD n default)).getD q 0).toNat) ((o4.getD (((ab ((c.blocks.getD k default).ins.getD n default)).getD q 0).toNat) 0) + 1)).length U by rw [OS.len' dk]) ⟨rfl, rfl, rfl, rfl, rfl, rfl, rfl, rfl, rfl, rfl, trivial⟩), rfl, (by rw [bo (d := 0) hqn, ← a0n]; exact gf c4 g3), (by omega)⟩)
    omega
   have es := c5
   try simp only [BS] at es
   refine wU 1 [] 28 28 [60] [(28, (iI ((n : Int) + 1)))] (vi (n := (n : Int) + 1) (by omega)) rfl fun _ => ht _ _ _ ?_ ⟨o4, n + 1, N, U, a6, _, (fT (fT (fT (fT (b0) b6) b2) e0) c8), (HS.sub a5 (a05 _ _)), ay, ⟨rfl, rfl, rfl, rfl, rfl, rfl, rfl, rfl, trivial⟩, rfl, (by rw [a0h (show (ab ((c.blocks.getD k default).ins.getD n default)).length ≤ q by omega)] at c4; exact us_instr hnn ▸ c4), (by omega)⟩
   omega
  have ea := co
  try simp only [BS] at ea
  refine wR 1 [(1, .o (iI (c.blocks.getD k default).fin)), (5, .o (iI (c.blocks.getD k default).fin))] 61 68 [] [(68, (.bool (((c.blocks.getD k default).fin == 2) || ((c.blocks.getD k default).fin == 3))))] (vA (ql 3 1 (HS.hc Z (i := 2) rfl) rfl rfl) (vA (fun (g1 : ((c.blocks.getD k default).fin == 2) = false) => (ql 3 1 (HS.hc Z (i := 2) rfl) rfl rfl)) trivial)) rfl fun _ => am 0 2 (v := (((c.blocks.getD k default).fin == 2) || ((c.blocks.getD k default).fin == 3))) rfl rfl rfl rfl (fun c7 => ?_) (fun c7 => ?_)
  ·
   have b9 := c7
   try simp only [BS] at b9
   have hfe := b9
   have hrr : 0 ≤ (c.blocks.getD k default).reg ∧ (c.blocks.getD k default).reg < c.regs := vF.fin k hbn hfe
   have k0 := i9 c2 hrr (us_len vF e5 hbn (by simp))
   refine aa ?_
   obtain ⟨ih, f6⟩ := Sv.view (OS.sv V Z (i := 1) rfl)
   have kX := fI (f6 (c.blocks.getD k default).reg.toNat)
   refine wRo 7 0 [(2, .o (iI (c.blocks.getD k default).reg)), (4, .o (iI (o2.getD (c.blocks.getD k default).reg.toNat 0)))] 69 75 [] [(74, (iI ((o2.getD (c.blocks.getD k default).reg.toNat 0) + 1))), (75, (.pointer (some ⟨sB (.slice A o2.length E), sO (.slice A o2.length E) + (c.blocks.getD k default).reg.toNat * Rp.sz Int, none⟩)))] (vA (ql 3 2 (HS.hc Z (i := 2) rfl) rfl rfl) (vA (Sv.ix (j := (c.blocks.getD k default).reg) (OS.sv V Z (i := 1) rfl) (by omega) (by omega)) (vA (ql 3 0 (vI (f6 (c.blocks.getD k default).reg.toNat) (by omega)) rfl rfl) (vA (vi (n := (o2.getD (c.blocks.getD k default).reg.toNat 0) + 1) (by omega)) (vA (Sv.ix (j := (c.blocks.getD k default).reg) (OS.sv V Z (i := 1) rfl) (by omega) (by omega)) trivial))))) rfl fun _ => aL (bY (α := Int) (j := (c.blocks.getD k default).reg.toNat) (off := 0) (q := 1) ((o2.getD (c.blocks.getD k default).reg.toNat 0) + 1) V Z rfl rfl rfl rfl rfl rfl rfl rfl (aK (x := (0 : Int)) (by omega)) rfl (by rintro cs ⟨rfl, _⟩; exact ⟨a04 rfl, rfl, by omega⟩)) rfl ?_
   rintro _ kr g7 ⟨dl, (hr : HS _ _ _ [_, g7, _] _), _⟩
   have h5 := OS.len' dl
   refine ae 2 rfl (wU 1 [] 21 21 [76] [(21, (iI ((k : Int) + 1)))] (vi (n := (k : Int) + 1) (by omega)) rfl fun _ => f7 _ _ _ ?_ ⟨o2.set (c.blocks.getD k default).reg.toNat ((o2.getD (c.blocks.getD k default).reg.toNat 0) + 1), k + 1, A, E, g7, _, (fT (bz) b0), (HS.sub hr (a05 _ _)), (OS.norm dl), (agC (show Value.slice A o2.length E = Value.slice A (o2.set (c.blocks.getD k default).reg.toNat ((o2.getD (c.blocks.getD k default).reg.toNat 0) + 1)).length E by rw [OS.len' dl]) ⟨rfl, rfl, rfl, trivial⟩), rfl, (by (have c9 := gf c2 hrr; rw [a0Z, ← end_yes hfe, show n = (c.blocks.getD k default).ins.length by omega] at c9; exact j4 hbn ▸ c9)), (by assumption)⟩)
   omega
  have b9 := c7
  try simp only [BS] at b9
  have hfe : ¬ ((c.blocks.getD k default).fin = 2 ∨ (c.blocks.getD k default).fin = 3) := by (have h9 := b9; omega)
  refine wU 1 [] 21 21 [76] [(21, (iI ((k : Int) + 1)))] (vi (n := (k : Int) + 1) (by omega)) rfl fun _ => f7 _ _ _ ?_ ⟨o2, k + 1, A, E, ar, _, (fT (bz) b0), (HS.sub Z (a05 _ _)), V, ⟨rfl, rfl, rfl, rfl, trivial⟩, rfl, (by (rw [show n = (c.blocks.getD k default).ins.length by omega, ← end_no hfe] at c2; exact j4 hbn ▸ c2)), (by assumption)⟩
  omega
 have d4 := cl
 try simp only [BS] at d4
 refine wT 1 [] 2 2 [77] [(2, (.slice al o1.length an))] rfl fun _ => ?_
 obtain ⟨jb, hf, dv, hg, il⟩ := OS.frz ch b7 (i := 1) rfl
 have dv : HS _ _ _ [_, []] _ := dv
 refine ak ⟨.inr rfl, _, rfl, al, an, o1, _, (fT (fT (d2) bz) hf), (HS.forget dv), rfl, hg, (fun _ => us_all (c := c) (k := k) (by omega) ▸ c1), (fun h => absurd (hv.symm.trans h) (by decide))⟩
end Go.Proofs.YtknafdcgpaejlaaDoor.nc
