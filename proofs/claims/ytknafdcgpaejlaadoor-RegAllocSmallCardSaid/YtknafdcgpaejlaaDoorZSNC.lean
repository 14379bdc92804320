/-
 How often registers are used: the allocator, by a symbolic run. No condition but bounds on lengths.
-/
import Derived.Test.YtknafdcgpaejlaaDoorZSNB
noncomputable section
namespace Go.Proofs.YtknafdcgpaejlaaDoor.nc
open Go.R
set_option maxRecDepth 10000
set_option linter.unusedVariables false
set_option linter.unusedSimpArgs false
open m1 m2 m3 m4 m5 m6 ma ml mb mc md mf mg mh mi mj na nb
def usedI (v : VInT) : List Int := aD v ++ ab v
def usedB (b : BlkT) : List Int := b.ins.flatMap usedI ++ endV b
def usedC (c : VFnT) : List Int := c.blocks.flatMap usedB
def UsP (c : VFnT) (k n : Nat) (l : List Int) : List Int := (c.blocks.take k).flatMap usedB ++ ((bz c k).ins.take n).flatMap usedI ++ l
structure CntF (c : VFnT) (L o : List Int) : Prop where
 len : o.length = c.regs.toNat
 at_ : ∀ r, r < c.regs.toNat → o.getD r 0 = (L.count (r : Int) : Int)
theorem gL {c : VFnT} : CntF c (UsP c 0 0 []) (List.replicate c.regs.toNat 0) := ⟨List.length_replicate, fun r hr => by
 have e : UsP c 0 0 [] = [] := by unfold UsP; simp
 rw [e, List.getD_eq_getElem?_getD, List.getElem?_replicate, if_pos hr]; rfl⟩
theorem gM {c : VFnT} {k n : Nat} {l o : List Int} {x : Int} (h : CntF c (UsP c k n l) o) (hx : 0 ≤ x ∧ x < c.regs) : CntF c (UsP c k n (l ++ [x])) (o.set x.toNat (o.getD x.toNat 0 + 1)) := ⟨List.length_set.trans h.len, fun r hr => by
 have e : UsP c k n (l ++ [x]) = UsP c k n l ++ [x] := (List.append_assoc _ _ _).symm
 rw [e, List.count_append, List.count_singleton]
 have hl := h.len
 by_cases A : x.toNat = r
 ·
  subst A
  have E : ((x.toNat : Nat) : Int) = x := by omega
  rw [List.getD_eq_getElem?_getD, List.getElem?_set_self (by omega), Option.getD_some, h.at_ _ hr, E]
  simp
 rw [List.getD_eq_getElem?_getD, List.getElem?_set_ne A, ← List.getD_eq_getElem?_getD, h.at_ r hr, if_neg (by simp; omega)]
 simp⟩
theorem cnt_rng {c : VFnT} {L o : List Int} {x : Int} (h : CntF c L o) (hx : 0 ≤ x ∧ x < c.regs) (hl : L.length ≤ 1125899906842624) : 0 ≤ o.getD x.toNat 0 ∧ o.getD x.toNat 0 ≤ 1125899906842624 ∧ x.toNat < o.length := by
 rw [h.at_ _ (by omega), h.len]
 have := List.count_le_length (a := ((x.toNat : Nat) : Int)) (l := L)
 omega
theorem us_instr {c : VFnT} {k n : Nat} (hn : n < (bz c k).ins.length) : UsP c k n (aD ((bz c k).ins.getD n default) ++ ab ((bz c k).ins.getD n default)) = UsP c k (n + 1) [] := by
 unfold UsP
 rw [bn hn (d := default), List.flatMap_append, List.append_nil]
 simp [usedI]
theorem gD {c : VFnT} {k : Nat} (hk : k < c.blocks.length) : UsP c k (bz c k).ins.length (endV (bz c k)) = UsP c (k + 1) 0 [] := by
 unfold UsP
 rw [bn hk (d := default), List.flatMap_append, List.take_length]
 simp [usedB, bz]
theorem us_all {c : VFnT} {k : Nat} (hk : c.blocks.length ≤ k) : UsP c k 0 [] = usedC c := by
 unfold UsP usedC
 rw [List.take_of_length_le hk]; simp
theorem fm_len {α : Type} {f : α → List Int} {B : Nat} : ∀ {l : List α}, (∀ x ∈ l, (f x).length ≤ B) → (l.flatMap f).length ≤ l.length * B
 | [], _ => Nat.zero_le _
 | x :: l, h => by
  have A := fm_len (l := l) fun y hy => h y (List.mem_cons_of_mem _ hy)
  have E := h x (List.mem_cons_self ..)
  rw [List.flatMap_cons, List.length_append, List.length_cons, Nat.succ_mul]; omega
theorem us_len {c : VFnT} {k n : Nat} {l : List Int} (v : VF c) (hins : ∀ j, (bz c j).ins.length ≤ 1073741824) (hk : k < c.blocks.length) (hl : l.length ≤ 20) : (UsP c k n l).length ≤ 1125899906842624 := by
 have hI : ∀ b, b < c.blocks.length → ∀ x ∈ (bz c b).ins, (usedI x).length ≤ 10 := fun b hb x hx => by
  obtain ⟨i, hi, rfl⟩ := List.mem_iff_getElem.1 hx
  have A := v.ins b hb i hi
  rw [List.getD_eq_getElem?_getD, List.getElem?_eq_getElem hi, Option.getD_some] at A
  have E := fq (v := (bz c b).ins[i])
  have I := dK (v := (bz c b).ins[i])
  have J := (cb A).2.2
  unfold usedI; rw [List.length_append]; omega
 have hB : ∀ x ∈ c.blocks.take k, (usedB x).length ≤ 10737418241 := fun x hx => by
  obtain ⟨b, hb, rfl⟩ := List.mem_iff_getElem.1 (List.mem_of_mem_take hx)
  have e : c.blocks[b] = bz c b := by unfold bz; rw [List.getD_eq_getElem?_getD, List.getElem?_eq_getElem hb]; rfl
  rw [e]
  have A := fm_len (hI b hb)
  have E := hins b
  have I : (endV (bz c b)).length ≤ 1 := by unfold endV; split <;> simp
  unfold usedB; rw [List.length_append]; omega
 have A := fm_len hB
 have E := fm_len (l := (bz c k).ins.take n) fun x hx => hI k hk x (List.mem_of_mem_take hx)
 have I := hins k
 have J := v.nb
 have N : (c.blocks.take k).length ≤ 1000 := by rw [List.length_take]; omega
 have O : ((bz c k).ins.take n).length ≤ 1073741824 := by rw [List.length_take]; omega
 unfold UsP
 rw [List.length_append, List.length_append]
 have T : (c.blocks.take k).length * 10737418241 ≤ 1000 * 10737418241 := Nat.mul_le_mul_right _ N
 omega
theorem end_yes {b : BlkT} (h : b.fin = 2 ∨ b.fin = 3) : endV b = [b.reg] := if_pos h
theorem end_no {b : BlkT} (h : ¬ (b.fin = 2 ∨ b.fin = 3)) : endV b = [] := if_neg h
set_option maxHeartbeats 2000000 in
theorem uses_c (ex : FuncId) {V : Option Addr} {ad : Nat} (c : VFnT) {F : Fz} {H : Heap} {R : List Fp} (hs : HS (.of H []) F H [] R) (i1 : in64 c.params) (i2 : in64 c.regs) (a4 : SR F (.slice V c.blocks.length ad) c.blocks) (hT : TB 37 tabC F) (hins : ∀ j, (c.blocks.getD j default).ins.length ≤ 1073741822) : C Tryd.prog 1 (KT 60 ex 37 tabC) 23 [(.agg ⟨[(iI c.params), (iI c.regs), (.slice V c.blocks.length ad)]⟩)] H fun v H' => ∃ (ao : Option Addr) (ko : Nat) (o : List Int) (F' : Fz), Fz.le F F' ∧ HS (.of H []) F' H' [] R ∧ v = .slice ao o.length ko ∧ SR F' (.slice ao o.length ko) o ∧ (ef c = true → CntF c (usedC c) o) ∧ (ef c = false → o = []) := by
 refine aM Tryd.func23 rfl rfl ?_
 refine am 1 rfl ?_
 refine aa ?_
 refine aK (cF hs rfl rfl) rfl rfl ?_
 rintro _ H2 _ ⟨b1, rfl, (f4 : HS _ _ _ [[(b1, .cells [(iI c.params), (iI c.regs), (.slice V c.blocks.length ad)] none false)]] _), _⟩
 refine wa (.slice none 0 0) rfl rfl rfl ?_
 refine aj 3 rfl ?_
 refine aa ?_
 let hj : Value := (.agg ⟨[(iI c.params), (iI c.regs), (.slice V c.blocks.length ad)]⟩)
 refine wRo 1 0 [(0, .o hj)] 12 12 [] [(12, hj)] (vA (qn 24 0 3 (HS.hc f4 (i := 0) rfl) rfl rfl rfl rfl) trivial) rfl fun _ => ?_
 refine aE (aB rfl rfl rfl) rfl rfl (m3.gV ex c (HS.call f4) (by first | (dsimp only; omega) | omega) (by first | (dsimp only; omega) | omega) a4 hT (by exact fun j => Nat.le_trans (hins j) (by omega))) ?_
 rintro _ H4 ⟨r4, F4, em, ch, rfl, rfl⟩
 replace ch : HS _ _ _ [_] _ := HS.back f4 rfl ch
 replace hT := hT.mono em
 replace a4 := a4.mono em
 refine wRo 1 2 [] 14 14 [] [(14, (.bool (!(ef c))))] trivial rfl fun _ => ?_
 refine aj 1 rfl ?_
 refine au 1 2 (v := (!(ef c))) rfl rfl rfl rfl (fun e4 => ?_) (fun e4 => ?_)
 ·
  have c6 := e4
  try simp only [BS] at c6
  have hv := c6
  refine wR 1 [] 2 2 [] [(2, (.slice none 0 0))] trivial rfl fun _ => ?_
  refine az ⟨.inr rfl, _, rfl, none, 0, ([] : List Int), _, (em), (HS.forget ch), rfl, (SR.nil : SR F4 (.slice none 0 0) ([] : List Int)), (by first | exact fun h => absurd (h.symm.trans hv) (by decide) | exact fun _ => us_all (c := c) (k := k) (by omega) ▸ c1), (by first | exact fun _ => rfl | exact fun h => absurd (hv.symm.trans h) (by decide))⟩
 have c6 := e4
 try simp only [BS] at c6
 have hv := c6
 have vF := vF_of hv
 have hnb := vF.nb
 have hrg := vF.regs
 have f2 : ∀ j, (bz c j).ins.length ≤ 1073741824 := fun j => Nat.le_trans (hins j) (by omega)
 refine aa ?_
 refine wRo 2 0 [(1, .o (iI c.regs))] 15 16 [] [(16, (iI c.regs))] (vA (ql 3 1 (HS.hc ch (i := 0) rfl) rfl rfl) trivial) rfl fun _ => ?_
 refine aK (cV (0 : Int) ch rfl rfl rfl rfl rfl rfl rfl rfl rfl ⟨rfl, by decide⟩ (by first | (dsimp only; omega) | omega) (by first | (dsimp only; omega) | omega)) rfl rfl ?_
 rintro _ j2 p9 ⟨a9, k9, rfl, hS, (f3 : HS _ _ _ [_, p9] _), _⟩
 refine wa (.slice a9 (List.replicate c.regs.toNat (0 : Int)).length k9) rfl rfl rfl ?_
 refine aj 3 rfl ?_
 refine wR 2 [(1, .o (.slice V c.blocks.length ad))] 18 21 [] [(19, (.slice V c.blocks.length ad)), (20, (iI (c.blocks.length : Int))), (21, (iI 0))] (vA (ql 22 2 (HS.hc f3 (i := 0) rfl) rfl rfl) trivial) rfl fun _ => ?_
 let es : Fp := [(b1, .cells [(iI c.params), (iI c.regs), (.slice V c.blocks.length ad)] none false)]
 refine ak (fun (mm : Nat) f H' => ∃ (o1 : List Int) (k : Nat) (al : Option Addr) (an : Nat) (ay : Fp) (F' : Fz), Fz.le F4 F' ∧ HS (Base.of H []) F' H' [es, ay] R ∧ OS F' (.slice al o1.length an) o1 ay ∧ aH f [(2, (.slice none 0 0)), (3, (.slice al o1.length an)), (19, (.slice V c.blocks.length ad)), (20, (iI (c.blocks.length : Int))), (21, (iI (k : Int)))] ∧ mm = c.blocks.length - k ∧ (CntF c (UsP c k 0 []) o1) ∧ (k ≤ c.blocks.length)) _ ⟨List.replicate c.regs.toNat (0 : Int), 0, a9, k9, p9, _, fR, f3, hS, (agC rfl (agC rfl (agC rfl (agC rfl (agC rfl agN))))), rfl, (by exact gL), (by first | assumption | omega | (simp at *; omega))⟩ ?_
 rintro ja kh j3 ⟨o1, k, al, an, ay, hG, b2, b7, ci, fd, rfl, c1, hk⟩ g4
 refine aq _ fd (fun _ => ?_)
 clear fd
 replace hT := hT.mono b2
 replace a4 := a4.mono b2
 refine am 1 rfl ?_
 refine wR 2 [] 22 22 [] [(22, (.bool (decide ((k : Int) < (c.blocks.length : Int)))))] trivial rfl fun _ => ?_
 refine au 4 5 (v := (decide ((k : Int) < (c.blocks.length : Int)))) rfl rfl rfl rfl (fun c5 => ?_) (fun c5 => ?_)
 ·
  have ez := c5
  try simp only [BS] at ez
  have hbn : k < c.blocks.length := by omega
  have hbl := hins k
  refine aa ?_
  obtain ⟨A, f6⟩ := Sv.view (SR.sv a4 b7)
  obtain ⟨hX, h0, h1, h2, bk⟩ := BlkT.fx (f6 k)
  let c0 : Value := (.agg ⟨[(.slice (cA (A k) 0) (c.blocks.getD k default).ins.length (cK (A k) 0)), (iI (c.blocks.getD k default).fin), (iI (c.blocks.getD k default).reg), (iI (c.blocks.getD k default).tgt), (iI (c.blocks.getD k default).els)]⟩)
  refine wRo 2 0 [(1, .o c0)] 23 24 [] [(24, c0)] (vA (Sv.ix (j := (k : Int)) (SR.sv a4 b7) (by first | (dsimp only; omega) | omega) (by first | (dsimp only; omega) | omega)) (vA (qn 48 0 5 (BlkT.vw (f6 k) (by first | (dsimp only; omega) | omega)) rfl rfl rfl rfl) trivial)) rfl fun _ => ?_
  refine aK (bx b7 rfl) rfl rfl ?_
  rintro _ j4 _ ⟨b5, rfl, (hu : HS _ _ _ [_, ay, [(b5, .cells [(.slice none 0 0), (iI 0), (iI 0), (iI 0), (iI 0)] none false)]] _), _⟩
  refine aT (aP (q := 2) hu rfl rfl rfl rfl rfl rfl rfl rfl rfl) rfl ?_
  rintro _ j5 _ ⟨(f5 : HS _ _ _ [_, _, [(b5, .cells [(.slice (cA (A k) 0) (c.blocks.getD k default).ins.length (cK (A k) 0)), (iI (c.blocks.getD k default).fin), (iI (c.blocks.getD k default).reg), (iI (c.blocks.getD k default).tgt), (iI (c.blocks.getD k default).els)] none false)]] _), _⟩
  refine aj 3 rfl ?_
  refine wR 2 [(1, .o (.slice (cA (A k) 0) (c.blocks.getD k default).ins.length (cK (A k) 0)))] 25 28 [] [(26, (.slice (cA (A k) 0) (c.blocks.getD k default).ins.length (cK (A k) 0))), (27, (iI ((c.blocks.getD k default).ins.length : Int))), (28, (iI 0))] (vA (ql 46 0 (HS.hc f5 (i := 2) rfl) rfl rfl) trivial) rfl fun _ => ?_
  let g7 : Fp := [(b5, .cells [(.slice (cA (A k) 0) (c.blocks.getD k default).ins.length (cK (A k) 0)), (iI (c.blocks.getD k default).fin), (iI (c.blocks.getD k default).reg), (iI (c.blocks.getD k default).tgt), (iI (c.blocks.getD k default).els)] none false)]
  refine ak (fun (mm : Nat) f H' => ∃ (o2 : List Int) (n : Nat) (E : Option Addr) (I : Nat) (ar : Fp) (F' : Fz), Fz.le hG F' ∧ HS (Base.of H []) F' H' [es, ar, g7] R ∧ OS F' (.slice E o2.length I) o2 ar ∧ aH f [(2, (.slice none 0 0)), (3, (.slice E o2.length I)), (5, (.pointer (some ⟨b5, 0, none⟩))), (19, (.slice V c.blocks.length ad)), (20, (iI (c.blocks.length : Int))), (21, (iI (k : Int))), (22, (.bool (decide ((k : Int) < (c.blocks.length : Int))))), (24, c0), (26, (.slice (cA (A k) 0) (c.blocks.getD k default).ins.length (cK (A k) 0))), (27, (iI ((c.blocks.getD k default).ins.length : Int))), (28, (iI (n : Int)))] ∧ mm = (c.blocks.getD k default).ins.length - n ∧ (CntF c (UsP c k n []) o2) ∧ (n ≤ (c.blocks.getD k default).ins.length)) _ ⟨o1, 0, al, an, ay, _, fR, f5, ci, (agC rfl (agC rfl (agC rfl (agC rfl (agC rfl (agC rfl (agC rfl (agC rfl (agC rfl (agC rfl (agC rfl agN))))))))))), rfl, (by first | assumption | omega | (simp at *; omega)), (by first | assumption | omega | (simp at *; omega))⟩ ?_
  rintro jb ki j6 ⟨o2, n, E, I, ar, jw, b3, Z, U, fi, rfl, c2, hn⟩ hC
  refine aq _ fi (fun _ => ?_)
  clear fi
  replace hT := hT.mono b3
  replace bk := bk.mono b3
  refine am 1 rfl ?_
  refine wR 2 [] 29 29 [] [(29, (.bool (decide ((n : Int) < ((c.blocks.getD k default).ins.length : Int)))))] trivial rfl fun _ => ?_
  refine au 4 5 (v := (decide ((n : Int) < ((c.blocks.getD k default).ins.length : Int)))) rfl rfl rfl rfl (fun c7 => ?_) (fun c7 => ?_)
  ·
   have e0 := c7
   try simp only [BS] at e0
   have hnn : n < (c.blocks.getD k default).ins.length := by omega
   have hvl : (∀ x ∈ aD ((c.blocks.getD k default).ins.getD n default), 0 ≤ x ∧ x < c.regs) ∧ (∀ x ∈ ab ((c.blocks.getD k default).ins.getD n default), 0 ≤ x ∧ x < c.regs) ∧ ((c.blocks.getD k default).ins.getD n default).args.length ≤ 6 := cb (vF.ins k hbn n hnn)
   have hrl := fq (v := ((c.blocks.getD k default).ins.getD n default))
   have hwl := dK (v := ((c.blocks.getD k default).ins.getD n default))
   refine aa ?_
   obtain ⟨a7, f8⟩ := Sv.view (SR.sv bk Z)
   obtain ⟨h3, h4, h5, h6, h7, b0⟩ := VInT.fx (f8 n)
   let a3 : Value := (.agg ⟨[(iI ((c.blocks.getD k default).ins.getD n default).i.op), (iI ((c.blocks.getD k default).ins.getD n default).i.a), (iI ((c.blocks.getD k default).ins.getD n default).i.b), (iI ((c.blocks.getD k default).ins.getD n default).i.c), (iI ((c.blocks.getD k default).ins.getD n default).i.n), (.slice (cA (a7 n) 5) ((c.blocks.getD k default).ins.getD n default).args.length (cK (a7 n) 5))]⟩)
   refine wRo 2 0 [(1, .o a3)] 30 31 [] [(31, a3)] (vA (Sv.ix (j := (n : Int)) (SR.sv bk Z) (by first | (dsimp only; omega) | omega) (by first | (dsimp only; omega) | omega)) (vA (qn 52 0 6 (VInT.vw (f8 n) (by first | (dsimp only; omega) | omega)) rfl rfl rfl rfl) trivial)) rfl fun _ => ?_
   refine aK (bx Z rfl) rfl rfl ?_
   rintro _ j7 _ ⟨b9, rfl, (hw : HS _ _ _ [_, ar, _, [(b9, .cells [(iI 0), (iI 0), (iI 0), (iI 0), (iI 0), (.slice none 0 0)] none false)]] _), _⟩
   refine aT (aP (q := 3) hw rfl rfl rfl rfl rfl rfl rfl rfl rfl) rfl ?_
   rintro _ j8 _ ⟨(dv : HS _ _ _ [_, _, _, [(b9, .cells [(iI ((c.blocks.getD k default).ins.getD n default).i.op), (iI ((c.blocks.getD k default).ins.getD n default).i.a), (iI ((c.blocks.getD k default).ins.getD n default).i.b), (iI ((c.blocks.getD k default).ins.getD n default).i.c), (iI ((c.blocks.getD k default).ins.getD n default).i.n), (.slice (cA (a7 n) 5) ((c.blocks.getD k default).ins.getD n default).args.length (cK (a7 n) 5))] none false)]] _), _⟩
   refine aj 3 rfl ?_
   refine aa ?_
   refine wRo 1 0 [(0, .o a3)] 32 32 [] [(32, a3)] (vA (qn 52 0 6 (HS.hc dv (i := 3) rfl) rfl rfl rfl rfl) trivial) rfl fun _ => ?_
   refine aE (aB rfl rfl rfl) rfl rfl (ma.jk ex ((c.blocks.getD k default).ins.getD n default) (HS.call dv) (by first | (dsimp only; omega) | omega) (by first | (dsimp only; omega) | omega) (by first | (dsimp only; omega) | omega) (by first | (dsimp only; omega) | omega) (by first | (dsimp only; omega) | omega) b0 hT (by first | (dsimp only; omega) | omega)) ?_
   rintro _ j9 ⟨et, g5, kw, g6, hH, b6, d1, rfl, a8, rfl⟩
   replace d1 : HS _ _ _ [_, _, _, _, g6] _ := HS.back dv rfl d1
   replace U := U.mono b6
   refine wRo 2 2 [] 34 35 [] [(34, (iI ((aD ((c.blocks.getD k default).ins.getD n default)).length : Int))), (35, (iI 0))] trivial rfl fun _ => ?_
   refine aj 2 rfl ?_
   let hl : Fp := [(b9, .cells [(iI ((c.blocks.getD k default).ins.getD n default).i.op), (iI ((c.blocks.getD k default).ins.getD n default).i.a), (iI ((c.blocks.getD k default).ins.getD n default).i.b), (iI ((c.blocks.getD k default).ins.getD n default).i.c), (iI ((c.blocks.getD k default).ins.getD n default).i.n), (.slice (cA (a7 n) 5) ((c.blocks.getD k default).ins.getD n default).args.length (cK (a7 n) 5))] none false)]
   refine ak (fun (mm : Nat) f H' => ∃ (o3 : List Int) (p : Nat) (J : Option Addr) (O : Nat) (a0 : Fp) (F' : Fz), Fz.le hH F' ∧ HS (Base.of H []) F' H' [es, a0, g7, hl, g6] R ∧ OS F' (.slice J o3.length O) o3 a0 ∧ aH f [(2, (.slice none 0 0)), (3, (.slice J o3.length O)), (5, (.pointer (some ⟨b5, 0, none⟩))), (7, (.pointer (some ⟨b9, 0, none⟩))), (19, (.slice V c.blocks.length ad)), (20, (iI (c.blocks.length : Int))), (21, (iI (k : Int))), (22, (.bool (decide ((k : Int) < (c.blocks.length : Int))))), (24, c0), (26, (.slice (cA (A k) 0) (c.blocks.getD k default).ins.length (cK (A k) 0))), (27, (iI ((c.blocks.getD k default).ins.length : Int))), (28, (iI (n : Int))), (29, (.bool (decide ((n : Int) < ((c.blocks.getD k default).ins.length : Int))))), (31, a3), (32, a3), (33, (.slice et (aD ((c.blocks.getD k default).ins.getD n default)).length g5)), (34, (iI ((aD ((c.blocks.getD k default).ins.getD n default)).length : Int))), (35, (iI (p : Int)))] ∧ mm = (aD ((c.blocks.getD k default).ins.getD n default)).length - p ∧ (CntF c (UsP c k n ((aD ((c.blocks.getD k default).ins.getD n default)).take p)) o3) ∧ (p ≤ (aD ((c.blocks.getD k default).ins.getD n default)).length)) _ ⟨o2, 0, E, I, ar, _, fR, d1, U, (agC rfl (agC rfl (agC rfl (agC rfl (agC rfl (agC rfl (agC rfl (agC rfl (agC rfl (agC rfl (agC rfl (agC rfl (agC rfl (agC rfl (agC rfl (agC rfl (agC rfl (agC rfl agN)))))))))))))))))), rfl, (by exact c2), (by first | assumption | omega | (simp at *; omega))⟩ ?_
   rintro jc kj ka ⟨o3, p, J, O, a0, jZ, b4, av, ag, f0, rfl, c3, hp⟩ hD
   refine aq _ f0 (fun _ => ?_)
   clear f0
   replace hT := (hT.mono b6).mono b4
   replace a8 := a8.mono b4
   replace b0 := (b0.mono b6).mono b4
   refine am 1 rfl ?_
   refine wR 2 [] 36 36 [] [(36, (.bool (decide ((p : Int) < ((aD ((c.blocks.getD k default).ins.getD n default)).length : Int)))))] trivial rfl fun _ => ?_
   refine au 4 5 (v := (decide ((p : Int) < ((aD ((c.blocks.getD k default).ins.getD n default)).length : Int)))) rfl rfl rfl rfl (fun c8 => ?_) (fun c8 => ?_)
   ·
    have e1 := c8
    try simp only [BS] at e1
    have hpn : p < (aD ((c.blocks.getD k default).ins.getD n default)).length := by omega
    have ha := fu hvl.1 hpn
    have kt := cnt_rng c3 ha (us_len vF f2 hbn (by rw [List.length_take]; omega))
    obtain ⟨ik, f9⟩ := Sv.view (OS.sv a8 av (i := 4) rfl)
    have kl := fI (f9 p)
    refine wR 1 [(1, .o (iI ((aD ((c.blocks.getD k default).ins.getD n default)).getD p 0)))] 37 38 [9] [(9, (iI ((aD ((c.blocks.getD k default).ins.getD n default)).getD p 0)))] (vA (Sv.ix (j := (p : Int)) (OS.sv a8 av (i := 4) rfl) (by first | (dsimp only; omega) | omega) (by first | (dsimp only; omega) | omega)) (vA (ql 3 0 (vI (f9 p) (by first | (dsimp only; omega) | omega)) rfl rfl) trivial)) rfl fun _ => ?_
    refine aa ?_
    obtain ⟨il, go⟩ := Sv.view (OS.sv ag av (i := 1) rfl)
    have km := fI (go (((aD ((c.blocks.getD k default).ins.getD n default)).getD p 0).toNat))
    refine wRo 6 0 [(3, .o (iI (o3.getD (((aD ((c.blocks.getD k default).ins.getD n default)).getD p 0).toNat) 0)))] 39 44 [] [(43, (iI ((o3.getD (((aD ((c.blocks.getD k default).ins.getD n default)).getD p 0).toNat) 0) + 1))), (44, (.pointer (some ⟨sB (.slice J o3.length O), sO (.slice J o3.length O) + (((aD ((c.blocks.getD k default).ins.getD n default)).getD p 0).toNat) * Rp.sz Int, none⟩)))] (vA (Sv.ix (j := ((aD ((c.blocks.getD k default).ins.getD n default)).getD p 0)) (OS.sv ag av (i := 1) rfl) (by first | (dsimp only; omega) | omega) (by first | (dsimp only; omega) | omega)) (vA (ql 3 0 (vI (go (((aD ((c.blocks.getD k default).ins.getD n default)).getD p 0).toNat)) (by first | (dsimp only; omega) | omega)) rfl rfl) (vA (vi (n := (o3.getD (((aD ((c.blocks.getD k default).ins.getD n default)).getD p 0).toNat) 0) + 1) (by first | (dsimp only; omega) | omega)) (vA (Sv.ix (j := ((aD ((c.blocks.getD k default).ins.getD n default)).getD p 0)) (OS.sv ag av (i := 1) rfl) (by first | (dsimp only; omega) | omega) (by first | (dsimp only; omega) | omega)) trivial)))) rfl fun _ => ?_
    refine aT (ei (α := Int) (j := ((aD ((c.blocks.getD k default).ins.getD n default)).getD p 0).toNat) (off := 0) (q := 1) ((o3.getD (((aD ((c.blocks.getD k default).ins.getD n default)).getD p 0).toNat) 0) + 1) ag av rfl rfl rfl rfl rfl rfl rfl rfl (aY (x := (0 : Int)) (by first | (dsimp only; omega) | omega)) rfl (by rintro cs ⟨rfl, _⟩; exact ⟨Nat.le_of_ble_eq_true rfl, rfl, by first | (dsimp only; omega) | omega⟩)) rfl ?_
    rintro _ kc he ⟨dn, (hz : HS _ _ _ [_, he, _, _, _] _), _⟩
    have h8 := OS.len' dn
    refine aj 2 rfl ?_
    refine wR 1 [] 35 35 [45] [(35, (iI ((p : Int) + 1)))] (vA (vi (n := (p : Int) + 1) (by first | (dsimp only; omega) | omega)) trivial) rfl fun _ => ?_
    refine hD _ _ _ ?_ ⟨o3.set (((aD ((c.blocks.getD k default).ins.getD n default)).getD p 0).toNat) ((o3.getD (((aD ((c.blocks.getD k default).ins.getD n default)).getD p 0).toNat) 0) + 1), p + 1, J, O, he, _, (b4), hz, (OS.norm dn), (agC rfl (agC (show Value.slice J o3.length O = Value.slice J (o3.set (((aD ((c.blocks.getD k default).ins.getD n default)).getD p 0).toNat) ((o3.getD (((aD ((c.blocks.getD k default).ins.getD n default)).getD p 0).toNat) 0) + 1)).length O by rw [OS.len' dn]) (agC rfl (agC rfl (agC rfl (agC rfl (agC rfl (agC rfl (agC rfl (agC rfl (agC rfl (agC rfl (agC rfl (agC rfl (agC rfl (agC rfl (agC rfl (agC rfl agN)))))))))))))))))), rfl, (by rw [bn (d := 0) hpn]; exact gM c3 ha), (by first | assumption | omega | (simp at *; omega))⟩
    omega
   have e1 := c8
   try simp only [BS] at e1
   refine aa ?_
   refine wRo 1 0 [(0, .o a3)] 46 46 [] [(46, a3)] (vA (qn 52 0 6 (HS.hc av (i := 3) rfl) rfl rfl rfl rfl) trivial) rfl fun _ => ?_
   refine aE (aB rfl rfl rfl) rfl rfl (ma.fk ex ((c.blocks.getD k default).ins.getD n default) (HS.call av) (by first | (dsimp only; omega) | omega) (by first | (dsimp only; omega) | omega) (by first | (dsimp only; omega) | omega) (by first | (dsimp only; omega) | omega) (by first | (dsimp only; omega) | omega) b0 hT) ?_
   rintro _ kd ⟨hm, hF, kx, hf, hK, e6, d2, rfl, bb, rfl⟩
   replace d2 : HS _ _ _ [_, a0, _, _, _, hf] _ := HS.back av rfl d2
   replace ag := ag.mono e6
   refine wRo 2 2 [] 48 49 [] [(48, (iI ((ab ((c.blocks.getD k default).ins.getD n default)).length : Int))), (49, (iI 0))] trivial rfl fun _ => ?_
   refine aj 2 rfl ?_
   refine ak (fun (mm : Nat) f H' => ∃ (o4 : List Int) (q : Nat) (N : Option Addr) (T : Nat) (a6 : Fp) (F' : Fz), Fz.le hK F' ∧ HS (Base.of H []) F' H' [es, a6, g7, hl, g6, hf] R ∧ OS F' (.slice N o4.length T) o4 a6 ∧ aH f [(2, (.slice none 0 0)), (3, (.slice N o4.length T)), (5, (.pointer (some ⟨b5, 0, none⟩))), (7, (.pointer (some ⟨b9, 0, none⟩))), (19, (.slice V c.blocks.length ad)), (20, (iI (c.blocks.length : Int))), (21, (iI (k : Int))), (22, (.bool (decide ((k : Int) < (c.blocks.length : Int))))), (24, c0), (26, (.slice (cA (A k) 0) (c.blocks.getD k default).ins.length (cK (A k) 0))), (27, (iI ((c.blocks.getD k default).ins.length : Int))), (28, (iI (n : Int))), (29, (.bool (decide ((n : Int) < ((c.blocks.getD k default).ins.length : Int))))), (31, a3), (32, a3), (33, (.slice et (aD ((c.blocks.getD k default).ins.getD n default)).length g5)), (34, (iI ((aD ((c.blocks.getD k default).ins.getD n default)).length : Int))), (35, (iI (p : Int))), (36, (.bool (decide ((p : Int) < ((aD ((c.blocks.getD k default).ins.getD n default)).length : Int))))), (46, a3), (47, (.slice hm (ab ((c.blocks.getD k default).ins.getD n default)).length hF)), (48, (iI ((ab ((c.blocks.getD k default).ins.getD n default)).length : Int))), (49, (iI (q : Int)))] ∧ mm = (ab ((c.blocks.getD k default).ins.getD n default)).length - q ∧ (CntF c (UsP c k n (aD ((c.blocks.getD k default).ins.getD n default) ++ (ab ((c.blocks.getD k default).ins.getD n default)).take q)) o4) ∧ (q ≤ (ab ((c.blocks.getD k default).ins.getD n default)).length)) _ ⟨o3, 0, J, O, a0, _, fR, d2, ag, (agC rfl (agC rfl (agC rfl (agC rfl (agC rfl (agC rfl (agC rfl (agC rfl (agC rfl (agC rfl (agC rfl (agC rfl (agC rfl (agC rfl (agC rfl (agC rfl (agC rfl (agC rfl (agC rfl (agC rfl (agC rfl (agC rfl (agC rfl agN))))))))))))))))))))))), rfl, (by rw [List.take_of_length_le (show (aD ((c.blocks.getD k default).ins.getD n default)).length ≤ p by omega)] at c3; rw [List.take_zero, List.append_nil]; exact c3), (by first | assumption | omega | (simp at *; omega))⟩ ?_
   rintro jq kk ke ⟨o4, q, N, T, a6, j0, dl, a5, ax, f1, rfl, c4, hq⟩ hE
   refine aq _ f1 (fun _ => ?_)
   clear f1
   replace bb := bb.mono dl
   refine am 1 rfl ?_
   refine wR 2 [] 50 50 [] [(50, (.bool (decide ((q : Int) < ((ab ((c.blocks.getD k default).ins.getD n default)).length : Int)))))] trivial rfl fun _ => ?_
   refine au 4 5 (v := (decide ((q : Int) < ((ab ((c.blocks.getD k default).ins.getD n default)).length : Int)))) rfl rfl rfl rfl (fun dd => ?_) (fun dd => ?_)
   ·
    have e2 := dd
    try simp only [BS] at e2
    have hqn : q < (ab ((c.blocks.getD k default).ins.getD n default)).length := by omega
    have hb := fu hvl.2.1 hqn
    have ku := cnt_rng c4 hb (us_len vF f2 hbn (by rw [List.length_append, List.length_take]; omega))
    obtain ⟨it, g0⟩ := Sv.view (OS.sv bb a5 (i := 5) rfl)
    have kn := fI (g0 q)
    refine wR 1 [(1, .o (iI ((ab ((c.blocks.getD k default).ins.getD n default)).getD q 0)))] 51 52 [11] [(11, (iI ((ab ((c.blocks.getD k default).ins.getD n default)).getD q 0)))] (vA (Sv.ix (j := (q : Int)) (OS.sv bb a5 (i := 5) rfl) (by first | (dsimp only; omega) | omega) (by first | (dsimp only; omega) | omega)) (vA (ql 3 0 (vI (g0 q) (by first | (dsimp only; omega) | omega)) rfl rfl) trivial)) rfl fun _ => ?_
    refine aa ?_
    obtain ⟨iv, g2⟩ := Sv.view (OS.sv ax a5 (i := 1) rfl)
    have kp := fI (g2 (((ab ((c.blocks.getD k default).ins.getD n default)).getD q 0).toNat))
    refine wRo 6 0 [(3, .o (iI (o4.getD (((ab ((c.blocks.getD k default).ins.getD n default)).getD q 0).toNat) 0)))] 53 58 [] [(57, (iI ((o4.getD (((ab ((c.blocks.getD k default).ins.getD n default)).getD q 0).toNat) 0) + 1))), (58, (.pointer (some ⟨sB (.slice N o4.length T), sO (.slice N o4.length T) + (((ab ((c.blocks.getD k default).ins.getD n default)).getD q 0).toNat) * Rp.sz Int, none⟩)))] (vA (Sv.ix (j := ((ab ((c.blocks.getD k default).ins.getD n default)).getD q 0)) (OS.sv ax a5 (i := 1) rfl) (by first | (dsimp only; omega) | omega) (by first | (dsimp only; omega) | omega)) (vA (ql 3 0 (vI (g2 (((ab ((c.blocks.getD k default).ins.getD n default)).getD q 0).toNat)) (by first | (dsimp only; omega) | omega)) rfl rfl) (vA (vi (n := (o4.getD (((ab ((c.blocks.getD k default).ins.getD n default)).getD q 0).toNat) 0) + 1) (by first | (dsimp only; omega) | omega)) (vA (Sv.ix (j := ((ab ((c.blocks.getD k default).ins.getD n default)).getD q 0)) (OS.sv ax a5 (i := 1) rfl) (by first | (dsimp only; omega) | omega) (by first | (dsimp only; omega) | omega)) trivial)))) rfl fun _ => ?_
    refine aT (ei (α := Int) (j := ((ab ((c.blocks.getD k default).ins.getD n default)).getD q 0).toNat) (off := 0) (q := 1) ((o4.getD (((ab ((c.blocks.getD k default).ins.getD n default)).getD q 0).toNat) 0) + 1) ax a5 rfl rfl rfl rfl rfl rfl rfl rfl (aY (x := (0 : Int)) (by first | (dsimp only; omega) | omega)) rfl (by rintro cs ⟨rfl, _⟩; exact ⟨Nat.le_of_ble_eq_true rfl, rfl, by first | (dsimp only; omega) | omega⟩)) rfl ?_
    rintro _ kf hg ⟨ds, (hA : HS _ _ _ [_, hg, _, _, _, _] _), _⟩
    have ib := OS.len' ds
    refine aj 2 rfl ?_
    refine wR 1 [] 49 49 [59] [(49, (iI ((q : Int) + 1)))] (vA (vi (n := (q : Int) + 1) (by first | (dsimp only; omega) | omega)) trivial) rfl fun _ => ?_
    refine hE _ _ _ ?_ ⟨o4.set (((ab ((c.blocks.getD k default).ins.getD n default)).getD q 0).toNat) ((o4.getD (((ab ((c.blocks.getD k default).ins.getD n default)).getD q 0).toNat) 0) + 1), q + 1, N, T, hg, _, (dl), hA, (OS.norm ds), (agC rfl (agC (show Value.slice N o4.length T = Value.slice N (o4.set (((ab ((c.blocks.getD k default).ins.getD n default)).getD q 0).toNat) ((o4.getD (((ab ((c.blocks.getD k default).ins.getD n default)).getD q 0).toNat) 0) + 1)).length T by rw [OS.len' ds]) (agC rfl (agC rfl (agC rfl (agC rfl (agC rfl (agC rfl (agC rfl (agC rfl (agC rfl (agC rfl (agC rfl (agC rfl (agC rfl (agC rfl (agC rfl (agC rfl (agC rfl (agC rfl (agC rfl (agC rfl (agC rfl agN))))))))))))))))))))))), rfl, (by rw [bn (d := 0) hqn, ← List.append_assoc]; exact gM c4 hb), (by first | assumption | omega | (simp at *; omega))⟩
    omega
   have e2 := dd
   try simp only [BS] at e2
   refine wR 1 [] 28 28 [60] [(28, (iI ((n : Int) + 1)))] (vA (vi (n := (n : Int) + 1) (by first | (dsimp only; omega) | omega)) trivial) rfl fun _ => ?_
   refine hC _ _ _ ?_ ⟨o4, n + 1, N, T, a6, _, (fT (fT (fT (fT (b3) b6) b4) e6) dl), (HS.sub a5 (List.sublist_append_left _ _)), ax, (agC rfl (agC rfl (agC rfl (agC rfl (agC rfl (agC rfl (agC rfl (agC rfl (agC rfl (agC rfl (agC rfl agN))))))))))), rfl, (by rw [List.take_of_length_le (show (ab ((c.blocks.getD k default).ins.getD n default)).length ≤ q by omega)] at c4; exact us_instr hnn ▸ c4), (by first | assumption | omega | (simp at *; omega))⟩
   omega
  have e0 := c7
  try simp only [BS] at e0
  refine wR 1 [(1, .o (iI (c.blocks.getD k default).fin)), (5, .o (iI (c.blocks.getD k default).fin))] 61 68 [] [(68, (.bool (((c.blocks.getD k default).fin == 2) || ((c.blocks.getD k default).fin == 3))))] (vA (ql 3 1 (HS.hc Z (i := 2) rfl) rfl rfl) (vA (fun (g1 : ((c.blocks.getD k default).fin == 2) = false) => (ql 3 1 (HS.hc Z (i := 2) rfl) rfl rfl)) trivial)) rfl fun _ => ?_
  refine au 0 2 (v := (((c.blocks.getD k default).fin == 2) || ((c.blocks.getD k default).fin == 3))) rfl rfl rfl rfl (fun dk => ?_) (fun dk => ?_)
  ·
   have cc := dk
   try simp only [BS] at cc
   have hfe := cc
   have hrr : 0 ≤ (c.blocks.getD k default).reg ∧ (c.blocks.getD k default).reg < c.regs := vF.fin k hbn hfe
   have kv := cnt_rng c2 hrr (us_len vF f2 hbn (by simp))
   refine aa ?_
   obtain ⟨iz, g3⟩ := Sv.view (OS.sv U Z (i := 1) rfl)
   have kr := fI (g3 (c.blocks.getD k default).reg.toNat)
   refine wRo 7 0 [(2, .o (iI (c.blocks.getD k default).reg)), (4, .o (iI (o2.getD (c.blocks.getD k default).reg.toNat 0)))] 69 75 [] [(74, (iI ((o2.getD (c.blocks.getD k default).reg.toNat 0) + 1))), (75, (.pointer (some ⟨sB (.slice E o2.length I), sO (.slice E o2.length I) + (c.blocks.getD k default).reg.toNat * Rp.sz Int, none⟩)))] (vA (ql 3 2 (HS.hc Z (i := 2) rfl) rfl rfl) (vA (Sv.ix (j := (c.blocks.getD k default).reg) (OS.sv U Z (i := 1) rfl) (by first | (dsimp only; omega) | omega) (by first | (dsimp only; omega) | omega)) (vA (ql 3 0 (vI (g3 (c.blocks.getD k default).reg.toNat) (by first | (dsimp only; omega) | omega)) rfl rfl) (vA (vi (n := (o2.getD (c.blocks.getD k default).reg.toNat 0) + 1) (by first | (dsimp only; omega) | omega)) (vA (Sv.ix (j := (c.blocks.getD k default).reg) (OS.sv U Z (i := 1) rfl) (by first | (dsimp only; omega) | omega) (by first | (dsimp only; omega) | omega)) trivial))))) rfl fun _ => ?_
   refine aT (ei (α := Int) (j := (c.blocks.getD k default).reg.toNat) (off := 0) (q := 1) ((o2.getD (c.blocks.getD k default).reg.toNat 0) + 1) U Z rfl rfl rfl rfl rfl rfl rfl rfl (aY (x := (0 : Int)) (by first | (dsimp only; omega) | omega)) rfl (by rintro cs ⟨rfl, _⟩; exact ⟨Nat.le_of_ble_eq_true rfl, rfl, by first | (dsimp only; omega) | omega⟩)) rfl ?_
   rintro _ kg hh ⟨dt, (hB : HS _ _ _ [_, hh, _] _), _⟩
   have ih := OS.len' dt
   refine aj 2 rfl ?_
   refine wR 1 [] 21 21 [76] [(21, (iI ((k : Int) + 1)))] (vA (vi (n := (k : Int) + 1) (by first | (dsimp only; omega) | omega)) trivial) rfl fun _ => ?_
   refine g4 _ _ _ ?_ ⟨o2.set (c.blocks.getD k default).reg.toNat ((o2.getD (c.blocks.getD k default).reg.toNat 0) + 1), k + 1, E, I, hh, _, (fT (b2) b3), (HS.sub hB (List.sublist_append_left _ _)), (OS.norm dt), (agC rfl (agC (show Value.slice E o2.length I = Value.slice E (o2.set (c.blocks.getD k default).reg.toNat ((o2.getD (c.blocks.getD k default).reg.toNat 0) + 1)).length I by rw [OS.len' dt]) (agC rfl (agC rfl (agC rfl agN))))), rfl, (by first | (have c9 := gM c2 hrr; rw [List.nil_append, ← end_yes hfe, show n = (c.blocks.getD k default).ins.length by omega] at c9; exact gD hbn ▸ c9) | (rw [show n = (c.blocks.getD k default).ins.length by omega, ← end_no hfe] at c2; exact gD hbn ▸ c2)), (by first | assumption | omega | (simp at *; omega))⟩
   omega
  have cc := dk
  try simp only [BS] at cc
  have hfe : ¬ ((c.blocks.getD k default).fin = 2 ∨ (c.blocks.getD k default).fin = 3) := by (have h9 := cc; omega)
  refine wR 1 [] 21 21 [76] [(21, (iI ((k : Int) + 1)))] (vA (vi (n := (k : Int) + 1) (by first | (dsimp only; omega) | omega)) trivial) rfl fun _ => ?_
  refine g4 _ _ _ ?_ ⟨o2, k + 1, E, I, ar, _, (fT (b2) b3), (HS.sub Z (List.sublist_append_left _ _)), U, (agC rfl (agC rfl (agC rfl (agC rfl (agC rfl agN))))), rfl, (by first | (have c9 := gM c2 hrr; rw [List.nil_append, ← end_yes hfe, show n = (c.blocks.getD k default).ins.length by omega] at c9; exact gD hbn ▸ c9) | (rw [show n = (c.blocks.getD k default).ins.length by omega, ← end_no hfe] at c2; exact gD hbn ▸ c2)), (by first | assumption | omega | (simp at *; omega))⟩
  omega
 have ez := c5
 try simp only [BS] at ez
 refine wR 1 [] 2 2 [77] [(2, (.slice al o1.length an))] trivial rfl fun _ => ?_
 obtain ⟨j1, hr, ea, ht, i3⟩ := OS.frz ci b7 (i := 1) rfl
 have ea : HS _ _ _ [_, []] _ := ea
 refine az ⟨.inr rfl, _, rfl, al, an, o1, _, (fT (fT (em) b2) hr), (HS.forget ea), rfl, ht, (by first | exact fun h => absurd (h.symm.trans hv) (by decide) | exact fun _ => us_all (c := c) (k := k) (by omega) ▸ c1), (by first | exact fun _ => rfl | exact fun h => absurd (hv.symm.trans h) (by decide))⟩
end Go.Proofs.YtknafdcgpaejlaaDoor.nc
