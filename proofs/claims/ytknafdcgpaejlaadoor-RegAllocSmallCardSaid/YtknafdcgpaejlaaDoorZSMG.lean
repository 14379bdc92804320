/-
 Live registers: AcrossCalls, by a symbolic run. No condition but bounds on lengths.
-/
import Derived.Test.YtknafdcgpaejlaaDoorZSMF
noncomputable section
namespace Go.Proofs.YtknafdcgpaejlaaDoor.mg
open Go.R
set_option maxRecDepth 10000
set_option linter.unusedVariables false
set_option linter.unusedSimpArgs false
open m1 m2 m3 m4 m5 m6 ma ml mb mc md mf
def acK (c : VFnT) (k r : Nat) : Prop := ∃ b i, b < k ∧ i < (bz c b).ins.length ∧ acI c b i r
theorem call_a {p g : Int} {v : VInT} (h : eP p g v = true) (ho : v.i.op = 6) : 0 ≤ v.i.a ∧ v.i.a < g ∧ ∀ x ∈ v.args, 0 ≤ x ∧ x < g := by
 unfold eP at h
 simp only [Bool.and_eq_true] at h
 obtain ⟨⟨⟨⟨⟨_, E⟩, A⟩, _⟩, _⟩, _⟩ := h
 rw [ho] at A
 have e : (decide (aC 6 ≠ 1)) = true := by decide
 rw [e] at A
 have A : m2.aG g v.i.a = true := A
 unfold m2.aG at E A
 simp only [decide_eq_true_eq, List.all_eq_true] at E A
 exact ⟨A.1, A.2, E⟩
theorem rem0 {s w : List U64} {n : Nat} {l : List Int} (h : ∀ i, ap w i = (ap s i && !decide (i = n))) (i : Nat) : ap w i = ((ap s i && !decide (i = n)) || decide ((i : Int) ∈ l.take 0)) := by rw [h]; simp
theorem add_f {f : Nat → Bool} {w w' : List U64} {l : List Int} {k : Nat} (hk : k < l.length) (h : ∀ i, ap w i = (f i || decide ((i : Int) ∈ l.take k))) (I : 0 ≤ l.getD k 0) (E : ∀ i, ap w' i = (ap w i || decide (i = (l.getD k 0).toNat))) (i : Nat) : ap w' i = (f i || decide ((i : Int) ∈ l.take (k + 1))) := by
 rw [E, h, bn hk (d := 0), Bool.or_assoc]
 congr 1
 rw [Bool.eq_iff_iff]
 simp only [Bool.or_eq_true, decide_eq_true_eq, List.mem_append, List.mem_singleton]
 constructor
 ·
  rintro (A | A)
  ·
   exact .inl A
  exact .inr (by omega)
 rintro (A | A)
 ·
  exact .inl A
 exact .inr (by omega)
theorem ac_yes {c : VFnT} {b i q : Nat} {s w a a' : List U64} (ho : ((bz c b).ins.getD i default).i.op = 6) (I : 0 ≤ ((bz c b).ins.getD i default).i.a) (hs : ∀ r, ap s r = true ↔ ptS c b (i + 1) r) (hq : ((bz c b).ins.getD i default).args.length ≤ q)
  (hw : ∀ r, ap w r = ((ap s r && !decide (r = ((bz c b).ins.getD i default).i.a.toNat)) || decide ((r : Int) ∈ ((bz c b).ins.getD i default).args.take q))) (ha : ∀ r, ap a' r = (ap a r || ap w r)) (r : Nat) : ap a' r = true ↔ (ap a r = true ∨ acI c b i r) := by
 rw [ha, hw, List.take_of_length_le hq]
 simp only [Bool.or_eq_true, Bool.and_eq_true, Bool.not_eq_true', decide_eq_false_iff_not, decide_eq_true_eq, hs]
 unfold acI
 constructor
 ·
  rintro (h | ⟨A, E⟩ | h)
  ·
   exact .inl h
  ·
   exact .inr ⟨ho, .inl ⟨A, by omega⟩⟩
  exact .inr ⟨ho, .inr h⟩
 rintro (h | ⟨_, ⟨A, E⟩ | h⟩)
 ·
  exact .inl h
 ·
  exact .inr (.inl ⟨A, by omega⟩)
 exact .inr (.inr h)
theorem ac_no {c : VFnT} {b i : Nat} {a : List U64} (ho : ((bz c b).ins.getD i default).i.op ≠ 6) (r : Nat) : ap a r = true ↔ (ap a r = true ∨ acI c b i r) := ⟨.inl, fun h => h.elim id fun h => absurd h.1 ho⟩
theorem ac_step {c : VFnT} {b : Nat} {i : Int} {a a' : List U64} (hi : 0 ≤ i) (hn : i.toNat < (bz c b).ins.length) (h : ∀ r, ap a r = true ↔ (acK c b r ∨ ∃ j, (i + 1).toNat ≤ j ∧ j < (bz c b).ins.length ∧ acI c b j r)) (J : ∀ r, ap a' r = true ↔ (ap a r = true ∨ acI c b i.toNat r)) (r : Nat) :
  ap a' r = true ↔ (acK c b r ∨ ∃ j, (i - 1 + 1).toNat ≤ j ∧ j < (bz c b).ins.length ∧ acI c b j r) := by
 rw [J, h]
 constructor
 ·
  rintro ((A | ⟨j, A, I, E⟩) | A)
  ·
   exact .inl A
  ·
   exact .inr ⟨j, by omega, I, E⟩
  exact .inr ⟨i.toNat, by omega, hn, A⟩
 rintro (A | ⟨j, A, I, E⟩)
 ·
  exact .inl (.inl A)
 rcases Nat.lt_or_ge j (i + 1).toNat with hj | hj
 ·
  have : j = i.toNat := by omega
  subst this; exact .inr E
 exact .inl (.inr ⟨j, hj, I, E⟩)
theorem ac_first {c : VFnT} {b n : Nat} {a : List U64} (hn : (bz c b).ins.length ≤ n) (h : ∀ r, ap a r = true ↔ acK c b r) (r : Nat) : ap a r = true ↔ (acK c b r ∨ ∃ j, n ≤ j ∧ j < (bz c b).ins.length ∧ acI c b j r) := by
 rw [h]
 exact ⟨.inl, fun h => h.elim id fun ⟨j, E, A, _⟩ => absurd A (by omega)⟩
theorem ac_next {c : VFnT} {b : Nat} {i : Int} {a : List U64} (hi : i < 0) (h : ∀ r, ap a r = true ↔ (acK c b r ∨ ∃ j, (i + 1).toNat ≤ j ∧ j < (bz c b).ins.length ∧ acI c b j r)) (r : Nat) : ap a r = true ↔ acK c (b + 1) r := by
 rw [h]
 constructor
 ·
  rintro (⟨b', j, I, A, E⟩ | ⟨j, _, A, E⟩)
  ·
   exact ⟨b', j, by omega, A, E⟩
  exact ⟨b, j, by omega, A, E⟩
 rintro ⟨b', j, I, A, E⟩
 rcases Nat.lt_or_ge b' b with hb | hb
 ·
  exact .inl ⟨b', j, hb, A, E⟩
 have : b' = b := by omega
 subst this
 exact .inr ⟨j, by omega, A, E⟩
theorem ac_zero {c : VFnT} {a : List U64} (h : ∀ i, ap a i = false) (r : Nat) : ap a r = true ↔ acK c 0 r := by
 rw [h]
 exact ⟨fun h => (by cases h), fun ⟨b, _, A, _⟩ => absurd A (Nat.not_lt_zero _)⟩
theorem ac_all {c : VFnT} {a : List U64} {k : Nat} (hk : c.blocks.length = k) (h : ∀ r, ap a r = true ↔ acK c k r) : Lst (e7 a) (acS c) := lst_of fun r => by
 rw [h]
 subst hk
 exact Iff.rfl
set_option maxHeartbeats 2000000 in
theorem across_c (ex : FuncId) {V : Option Addr} {Z : Nat} (c : VFnT) {F : Fz} {H : Heap} {R : List Fp} (hs : HS (.of H []) F H [] R) (kG : in64 c.params) (kH : in64 c.regs) (a2 : SR F (.slice V c.blocks.length Z) c.blocks) (hT : TB 37 tabC F) (hins : ∀ j, (c.blocks.getD j default).ins.length ≤ 1073741824) : C Tryd.prog 1 (KT 60 ex 37 tabC) 72 [(.agg ⟨[(iI c.params), (iI c.regs), (.slice V c.blocks.length Z)]⟩)] H fun v H' => ∃ (ar : Option Addr) (kr : Nat) (r : List Int) (p : Fp) (F' : Fz), Fz.le F F' ∧ HS (.of H []) F' H' [p] R ∧ v = .slice ar r.length kr ∧ OS F' (.slice ar r.length kr) r p ∧ (ef c = true → Lst r (acS c)) ∧ (ef c = false → r = []) := by
 refine aM Tryd.func72 rfl rfl ?_
 refine am 1 rfl ?_
 refine aa ?_
 refine aK (cF hs rfl rfl) rfl rfl ?_
 rintro _ H2 _ ⟨b1, rfl, (hA : HS _ _ _ [[(b1, .cells [(iI c.params), (iI c.regs), (.slice V c.blocks.length Z)] none false)]] _), _⟩
 refine wa (.slice none 0 0) rfl rfl rfl ?_
 refine aj 3 rfl ?_
 refine aa ?_
 let g8 : Value := (.agg ⟨[(iI c.params), (iI c.regs), (.slice V c.blocks.length Z)]⟩)
 refine wRo 1 0 [(0, .o g8)] 14 14 [] [(14, g8)] (vA (qn 24 0 3 (HS.hc hA (i := 0) rfl) rfl rfl rfl rfl) trivial) rfl fun _ => ?_
 refine aE (aB rfl rfl rfl) rfl rfl (m3.gV ex c (HS.call hA) (by first | (dsimp only; omega) | omega) (by first | (dsimp only; omega) | omega) a2 hT (by exact fun j => Nat.le_trans (hins j) (by omega))) ?_
 rintro _ H4 ⟨r4, F4, g6, c7, rfl, rfl⟩
 replace c7 : HS _ _ _ [_] _ := HS.back hA rfl c7
 replace hT := hT.mono g6
 replace a2 := a2.mono g6
 refine wRo 1 2 [] 16 16 [] [(16, (.bool (!(ef c))))] trivial rfl fun _ => ?_
 refine aj 1 rfl ?_
 refine au 1 2 (v := (!(ef c))) rfl rfl rfl rfl (fun hm => ?_) (fun hm => ?_)
 ·
  have c6 := hm
  try simp only [BS] at c6
  have hv := c6
  refine wR 1 [] 2 2 [] [(2, (.slice none 0 0))] trivial rfl fun _ => ?_
  refine az ⟨.inr rfl, _, rfl, none, 0, ([] : List Int), [], _, (g6), (HS.cons (HS.forget c7)), rfl, (OS.nil : OS _ _ _ []), (by first | exact fun h => absurd (h.symm.trans hv) (by decide) | exact fun _ => ac_all (by omega) g9), (by first | exact fun _ => rfl | exact fun h => absurd (hv.symm.trans h) (by decide))⟩
 have c6 := hm
 try simp only [BS] at c6
 have hv := c6
 have vF := vF_of hv
 have hnb := vF.nb
 have hrg := vF.regs
 have hwd := wd_le vF.regs
 refine aa ?_
 refine wRo 1 0 [(0, .o g8)] 18 18 [] [(18, g8)] (vA (qn 24 0 3 (HS.hc c7 (i := 0) rfl) rfl rfl rfl rfl) trivial) rfl fun _ => ?_
 refine aE (aB rfl rfl rfl) rfl rfl (mc.analyze_c ex c (HS.call c7) (by first | (dsimp only; omega) | omega) (by first | (dsimp only; omega) | omega) a2 hT (by first | assumption | exact fun j => Nat.le_trans (hins j) (by omega)) (by first | assumption | exact fun j => Nat.le_trans (hins j) (by omega))) ?_
 rintro _ H9 ⟨kp, kM, lF, b5, co, T, F9, hp, e2, rfl, kn, b3, h9⟩
 replace e2 : HS _ _ _ [_] _ := HS.back c7 rfl e2
 replace hT := hT.mono hp
 refine wRo 5 2 [] 20 21 [3, 4, 17] [(4, (.slice b5 T.length co))] trivial rfl fun _ => ?_
 refine aj 2 rfl ?_
 have an := (by assumption : AnF c _ _)
 have hli := an.li
 have hlo := an.lo
 refine aa ?_
 refine wRo 2 0 [(1, .o (iI c.regs))] 22 23 [] [(23, (iI c.regs))] (vA (ql 3 1 (HS.hc e2 (i := 0) rfl) rfl rfl) trivial) rfl fun _ => ?_
 refine aE (aB rfl rfl rfl) rfl rfl (mb.empty_c ex c.regs (HS.call e2) (by first | (dsimp only; omega) | omega) hT (by first | (dsimp only; omega) | omega)) ?_
 rintro _ k4 ⟨ha, hH, lJ, il, j5, dl, d2, rfl, h7, rfl⟩
 replace d2 : HS _ _ _ [_, il] _ := HS.back e2 rfl d2
 refine wa (.slice ha (List.replicate (Int.tdiv (c.regs + 63) 64).toNat (⟨0⟩ : U64)).length hH) rfl rfl rfl ?_
 refine aj 3 rfl ?_
 refine wR 2 [(1, .o (.slice V c.blocks.length Z))] 25 28 [] [(26, (.slice V c.blocks.length Z)), (27, (iI (c.blocks.length : Int))), (28, (iI 0))] (vA (ql 22 2 (HS.hc d2 (i := 0) rfl) rfl rfl) trivial) rfl fun _ => ?_
 let e5 : Fp := [(b1, .cells [(iI c.params), (iI c.regs), (.slice V c.blocks.length Z)] none false)]
 refine ak (fun (mm : Nat) f H' => ∃ (aw : List U64) (k : Nat) (a3 : Option Addr) (a4 : Nat) (ay : Fp) (F' : Fz), Fz.le j5 F' ∧ HS (Base.of H []) F' H' [e5, ay] R ∧ OS F' (.slice a3 aw.length a4) aw ay ∧ aH f [(2, (.slice none 0 0)), (4, (.slice b5 T.length co)), (5, (.slice a3 aw.length a4)), (26, (.slice V c.blocks.length Z)), (27, (iI (c.blocks.length : Int))), (28, (iI (k : Int)))] ∧ mm = c.blocks.length - k ∧ (aw.length = wds c) ∧ (∀ r, ap aw r = true ↔ acK c k r) ∧ (k ≤ c.blocks.length)) _ ⟨List.replicate (Int.tdiv (c.regs + 63) 64).toNat (⟨0⟩ : U64), 0, ha, hH, il, _, fR, d2, h7, (agC rfl (agC rfl (agC rfl (agC rfl (agC rfl (agC rfl agN)))))), rfl, (by first | omega | (rw [List.length_replicate]; omega) | simp [wds]), (by exact ac_zero (fun i => bit_rep _ _)), (by first | assumption | omega | (simp at *; omega))⟩ ?_
 rintro kS lA k5 ⟨aw, k, a3, a4, ay, ib, b7, cc, a9, ht, rfl, lw, g9, hk⟩ j2
 refine aq _ ht (fun _ => ?_)
 clear ht
 replace hT := (hT.mono dl).mono b7
 replace a2 := ((a2.mono hp).mono dl).mono b7
 replace b3 := (b3.mono dl).mono b7
 refine am 1 rfl ?_
 refine wR 2 [] 29 29 [] [(29, (.bool (decide ((k : Int) < (c.blocks.length : Int)))))] trivial rfl fun _ => ?_
 refine au 4 5 (v := (decide ((k : Int) < (c.blocks.length : Int)))) rfl rfl rfl rfl (fun e6 => ?_) (fun e6 => ?_)
 ·
  have hg := e6
  try simp only [BS] at hg
  have hbn : k < c.blocks.length := by omega
  have hfn : ((c.blocks.getD k default).fin = 2 ∨ (c.blocks.getD k default).fin = 3) → 0 ≤ (c.blocks.getD k default).reg ∧ (c.blocks.getD k default).reg < c.regs := vF.fin k hbn
  have hbl := hins k
  have hwo := an.wo k hbn
  have kL : (T.getD k []).length = wds c := hwo
  refine aa ?_
  obtain ⟨al, hC⟩ := Sv.view (SR.sv a2 cc)
  obtain ⟨ke, kf, kg, kh, b0⟩ := BlkT.fx (hC k)
  let a6 : Value := (.agg ⟨[(.slice (cA (al k) 0) (c.blocks.getD k default).ins.length (cK (al k) 0)), (iI (c.blocks.getD k default).fin), (iI (c.blocks.getD k default).reg), (iI (c.blocks.getD k default).tgt), (iI (c.blocks.getD k default).els)]⟩)
  refine wRo 3 0 [(2, .o a6)] 30 32 [] [(30, (iI (k : Int))), (32, a6)] (vA (Sv.ix (j := (k : Int)) (SR.sv a2 cc) (by first | (dsimp only; omega) | omega) (by first | (dsimp only; omega) | omega)) (vA (qn 48 0 5 (BlkT.vw (hC k) (by first | (dsimp only; omega) | omega)) rfl rfl rfl rfl) trivial)) rfl fun _ => ?_
  refine aK (bx cc rfl) rfl rfl ?_
  rintro _ k6 _ ⟨c5, rfl, (jZ : HS _ _ _ [_, ay, [(c5, .cells [(.slice none 0 0), (iI 0), (iI 0), (iI 0), (iI 0)] none false)]] _), _⟩
  refine wa (iI (k : Int)) rfl rfl rfl ?_
  refine aT (aP (q := 2) jZ rfl rfl rfl rfl rfl rfl rfl rfl rfl) rfl ?_
  rintro _ k7 _ ⟨(j0 : HS _ _ _ [_, _, [(c5, .cells [(.slice (cA (al k) 0) (c.blocks.getD k default).ins.length (cK (al k) 0)), (iI (c.blocks.getD k default).fin), (iI (c.blocks.getD k default).reg), (iI (c.blocks.getD k default).tgt), (iI (c.blocks.getD k default).els)] none false)]] _), _⟩
  refine aj 2 rfl ?_
  refine aa ?_
  refine aK (bF (α := U64) (ps := []) (cells := []) ([] : List U64) j0 rfl rfl rfl (by kernel_rfl) rfl rfl) rfl rfl ?_
  rintro _ k8 ka ⟨lu, lH, rfl, jc, (ea : HS _ _ _ [_, _, _, ka] _), _⟩
  obtain ⟨av, hD⟩ := Sv.view (SR.sv b3 ea)
  have kd := fL (hD k)
  refine wRo 4 1 [(4, .o (.slice (cA (av k) 0) (T.getD k default).length (cK (av k) 0)))] 34 37 [] [(37, (.slice (cA (av k) 0) (T.getD k default).length (cK (av k) 0)))] (vA (Sv.ix (j := (k : Int)) (SR.sv b3 ea) (by first | (dsimp only; omega) | omega) (by first | (dsimp only; omega) | omega)) (vA (ql 147 0 (vL (hD k) (by first | (dsimp only; omega) | omega)) rfl rfl) trivial)) rfl fun _ => ?_
  refine aK (ca (α := U64) (q := 3) jc ea rfl rfl rfl (SR.sv kd ea) rfl rfl rfl rfl rfl rfl rfl (by first | omega | (simp only [List.length_append, List.length_cons, List.length_nil]; omega))) rfl rfl ?_
  rintro _ k9 it ⟨c3, c8, rfl, f8, (go : HS _ _ _ [_, _, _, it] _), _⟩
  have f8 : OS ib (.slice c3 (T.getD k default).length c8) (T.getD k default) it := f8
  refine wa (.slice c3 (T.getD k default).length c8) rfl rfl rfl ?_
  refine aj 2 rfl ?_
  refine aa ?_
  refine wRo 2 0 [(1, .o a6)] 39 40 [] [(39, (.slice c3 (T.getD k default).length c8)), (40, a6)] (vA (qn 48 0 5 (HS.hc go (i := 2) rfl) rfl rfl rfl rfl) trivial) rfl fun _ => ?_
  refine aE (aB rfl rfl rfl) rfl rfl (mb.addT_c ex (T.getD k default) (c.blocks.getD k default) (HS.callOwn go (i := 3) rfl) f8 b0 (by first | (dsimp only; omega) | omega) (by first | (dsimp only; omega) | omega) (by first | (dsimp only; omega) | omega) (by first | (dsimp only; omega) | omega) hT (by first | omega | exact fun hf => by have := hfn hf; omega) (by first | omega | exact fun hf => by have := hfn hf; omega)) ?_
  rintro _ la ⟨h0, hQ, j6, dn, em, rfl, f2, ku, kz⟩
  replace em : HS _ _ _ [_, _, _, hQ] _ := HS.backOwn go (i := 3) rfl rfl (fun _ hb => hb) em
  replace a9 := a9.mono dn
  have kN := OS.len' f2
  refine aj 2 rfl ?_
  refine wR 2 [(1, .o (.slice (cA (al k) 0) (c.blocks.getD k default).ins.length (cK (al k) 0)))] 42 45 [9] [(9, (iI (((c.blocks.getD k default).ins.length : Int) - 1)))] (vA (ql 46 0 (HS.hc em (i := 2) rfl) rfl rfl) (vA (vi (n := ((c.blocks.getD k default).ins.length : Int) - 1) (by first | (dsimp only; omega) | omega)) trivial)) rfl fun _ => ?_
  let h5 : Fp := [(c5, .cells [(.slice (cA (al k) 0) (c.blocks.getD k default).ins.length (cK (al k) 0)), (iI (c.blocks.getD k default).fin), (iI (c.blocks.getD k default).reg), (iI (c.blocks.getD k default).tgt), (iI (c.blocks.getD k default).els)] none false)]
  refine ak (fun (mm : Nat) f H' => ∃ (ax : List U64) (sw : List U64) (iz : Int) (I : Option Addr) (J : Nat) (ag : Fp) (A : Option Addr) (E : Nat) (a0 : Fp) (F' : Fz), Fz.le j6 F' ∧ HS (Base.of H []) F' H' [e5, ag, h5, a0] R ∧ OS F' (.slice I ax.length J) ax ag ∧ OS F' (.slice A sw.length E) sw a0 ∧ aH f [(2, (.slice none 0 0)), (4, (.slice b5 T.length co)), (5, (.slice I ax.length J)), (6, (iI (k : Int))), (7, (.pointer (some ⟨c5, 0, none⟩))), (8, (.slice A sw.length E)), (9, (iI iz)), (26, (.slice V c.blocks.length Z)), (27, (iI (c.blocks.length : Int))), (28, (iI (k : Int))), (29, (.bool (decide ((k : Int) < (c.blocks.length : Int))))), (30, (iI (k : Int))), (32, a6), (37, (.slice (cA (av k) 0) (T.getD k default).length (cK (av k) 0))), (40, a6)] ∧ mm = (iz + 1).toNat ∧ (ax.length = wds c) ∧ (∀ r, ap ax r = true ↔ (acK c k r ∨ ∃ j, (iz + 1).toNat ≤ j ∧ j < (c.blocks.getD k default).ins.length ∧ acI c k j r)) ∧ (sw.length = wds c) ∧ (-1 ≤ iz ∧ iz < ((c.blocks.getD k default).ins.length : Int)) ∧ (∀ r, ap sw r = true ↔ ptS c k (iz + 1).toNat r)) _ ⟨aw, h0, ((c.blocks.getD k default).ins.length : Int) - 1, a3, a4, ay, c3, c8, hQ, _, fR, em, a9, (OS.norm f2), (agC rfl (agC rfl (agC rfl (agC rfl (agC rfl (agC (show Value.slice c3 (T.getD k default).length c8 = Value.slice c3 h0.length c8 by rw [OS.len' f2]) (agC rfl (agC rfl (agC rfl (agC rfl (agC rfl (agC rfl (agC rfl (agC rfl (agC rfl agN))))))))))))))), rfl, (by omega), (by exact ac_first (show (c.blocks.getD k default).ins.length ≤ _ by first | omega | (dsimp only; omega)) g9), (by omega), (by first | assumption | omega | (simp at *; omega)), (by exact pt_start (show (c.blocks.getD k default).ins.length ≤ _ by first | omega | (dsimp only; omega)) (an.ho _ hbn) (by assumption))⟩ ?_
  rintro kT lB lb ⟨ax, sw, iz, I, J, ag, A, E, a0, ih, ds, ch, ad, bb, hu, rfl, lz, ik, e1, e3, e4⟩ j3
  refine aq _ hu (fun _ => ?_)
  clear hu
  replace hT := (hT.mono dn).mono ds
  replace b0 := (b0.mono dn).mono ds
  refine am 2 rfl ?_
  refine wR 1 [] 46 47 [] [(47, (.bool (decide ((0 : Int) ≤ iz))))] trivial rfl fun _ => ?_
  refine au 4 5 (v := (decide ((0 : Int) ≤ iz))) rfl rfl rfl rfl (fun fd => ?_) (fun fd => ?_)
  ·
   have hh := fd
   try simp only [BS] at hh
   have hin : iz.toNat < (c.blocks.getD k default).ins.length := by omega
   have hvv := vF.ins k hbn iz.toNat hin
   have hvl : (∀ x ∈ aD ((c.blocks.getD k default).ins.getD iz.toNat default), 0 ≤ x ∧ x < c.regs) ∧ (∀ x ∈ ab ((c.blocks.getD k default).ins.getD iz.toNat default), 0 ≤ x ∧ x < c.regs) ∧ ((c.blocks.getD k default).ins.getD iz.toNat default).args.length ≤ 6 := cb hvv
   have kK := hvl.2.2
   refine aa ?_
   obtain ⟨U, hE⟩ := Sv.view (SR.sv b0 ch)
   obtain ⟨ki, kj, kk, kl, km, a1⟩ := VInT.fx (hE iz.toNat)
   let dk : Value := (.agg ⟨[(iI ((c.blocks.getD k default).ins.getD iz.toNat default).i.op), (iI ((c.blocks.getD k default).ins.getD iz.toNat default).i.a), (iI ((c.blocks.getD k default).ins.getD iz.toNat default).i.b), (iI ((c.blocks.getD k default).ins.getD iz.toNat default).i.c), (iI ((c.blocks.getD k default).ins.getD iz.toNat default).i.n), (.slice (cA (U iz.toNat) 5) ((c.blocks.getD k default).ins.getD iz.toNat default).args.length (cK (U iz.toNat) 5))]⟩)
   refine wRo 5 0 [(1, .o (.slice (cA (al k) 0) (c.blocks.getD k default).ins.length (cK (al k) 0))), (4, .o dk)] 50 54 [] [(54, dk)] (vA (ql 46 0 (HS.hc ch (i := 2) rfl) rfl rfl) (vA (Sv.ix (j := iz) (SR.sv b0 ch) (by first | (dsimp only; omega) | omega) (by first | (dsimp only; omega) | omega)) (vA (qn 52 0 6 (VInT.vw (hE iz.toNat) (by first | (dsimp only; omega) | omega)) rfl rfl rfl rfl) trivial))) rfl fun _ => ?_
   refine aK (bx ch rfl) rfl rfl ?_
   rintro _ lc _ ⟨ez, rfl, (j1 : HS _ _ _ [_, ag, _, a0, [(ez, .cells [(iI 0), (iI 0), (iI 0), (iI 0), (iI 0), (.slice none 0 0)] none false)]] _), _⟩
   refine aT (aP (q := 4) j1 rfl rfl rfl rfl rfl rfl rfl rfl rfl) rfl ?_
   rintro _ ld _ ⟨(g0 : HS _ _ _ [_, _, _, _, [(ez, .cells [(iI ((c.blocks.getD k default).ins.getD iz.toNat default).i.op), (iI ((c.blocks.getD k default).ins.getD iz.toNat default).i.a), (iI ((c.blocks.getD k default).ins.getD iz.toNat default).i.b), (iI ((c.blocks.getD k default).ins.getD iz.toNat default).i.c), (iI ((c.blocks.getD k default).ins.getD iz.toNat default).i.n), (.slice (cA (U iz.toNat) 5) ((c.blocks.getD k default).ins.getD iz.toNat default).args.length (cK (U iz.toNat) 5))] none false)]] _), _⟩
   refine aj 3 rfl ?_
   refine wR 1 [(2, .o (iI ((c.blocks.getD k default).ins.getD iz.toNat default).i.op))] 55 58 [] [(58, (.bool (((c.blocks.getD k default).ins.getD iz.toNat default).i.op == 6)))] (vA (ql 3 0 (HS.hc g0 (i := 4) rfl) rfl rfl) trivial) rfl fun _ => ?_
   let i1 : Fp := [(ez, .cells [(iI ((c.blocks.getD k default).ins.getD iz.toNat default).i.op), (iI ((c.blocks.getD k default).ins.getD iz.toNat default).i.a), (iI ((c.blocks.getD k default).ins.getD iz.toNat default).i.b), (iI ((c.blocks.getD k default).ins.getD iz.toNat default).i.c), (iI ((c.blocks.getD k default).ins.getD iz.toNat default).i.n), (.slice (cA (U iz.toNat) 5) ((c.blocks.getD k default).ins.getD iz.toNat default).args.length (cK (U iz.toNat) 5))] none false)]
   refine cG (fun f H' => ∃ (b6 : List U64) (a8 : Option Addr) (bk : Nat) (a5 : Fp) (F' : Fz), Fz.le ih F' ∧ HS (Base.of H []) F' H' [e5, a5, h5, a0, i1] R ∧ OS F' (.slice a8 b6.length bk) b6 a5 ∧ aH f [(2, (.slice none 0 0)), (4, (.slice b5 T.length co)), (5, (.slice a8 b6.length bk)), (6, (iI (k : Int))), (7, (.pointer (some ⟨c5, 0, none⟩))), (8, (.slice A sw.length E)), (9, (iI iz)), (10, (.pointer (some ⟨ez, 0, none⟩))), (26, (.slice V c.blocks.length Z)), (27, (iI (c.blocks.length : Int))), (28, (iI (k : Int))), (29, (.bool (decide ((k : Int) < (c.blocks.length : Int))))), (30, (iI (k : Int))), (32, a6), (37, (.slice (cA (av k) 0) (T.getD k default).length (cK (av k) 0))), (40, a6), (47, (.bool (decide ((0 : Int) ≤ iz)))), (54, dk), (58, (.bool (((c.blocks.getD k default).ins.getD iz.toNat default).i.op == 6)))] ∧ (b6.length = wds c) ∧ (∀ r, ap b6 r = true ↔ (ap ax r = true ∨ acI c k iz.toNat r))) (fun hG => ?_) ?_
   ·
    refine au 1 0 (v := (((c.blocks.getD k default).ins.getD iz.toNat default).i.op == 6)) rfl rfl rfl rfl (fun fi => ?_) (fun fi => ?_)
    ·
     have e0 := fi
     try simp only [BS] at e0
     have hop := e0
     have hca : 0 ≤ ((c.blocks.getD k default).ins.getD iz.toNat default).i.a ∧ ((c.blocks.getD k default).ins.getD iz.toNat default).i.a < c.regs ∧ ∀ x ∈ ((c.blocks.getD k default).ins.getD iz.toNat default).args, 0 ≤ x ∧ x < c.regs := call_a hvv hop
     have hr := hca.1
     have kI := hca.2.1
     refine aa ?_
     refine aK (bF (α := U64) (ps := []) (cells := []) ([] : List U64) g0 rfl rfl rfl (by kernel_rfl) rfl rfl) rfl rfl ?_
     rintro _ lh kc ⟨lv, lI, rfl, jq, (hB : HS _ _ _ [_, _, _, _, _, kc] _), _⟩
     refine wm (.slice A sw.length E) rfl rfl rfl ?_
     refine aK (ca (α := U64) (q := 5) jq hB rfl rfl rfl (OS.sv bb hB (i := 3) rfl) rfl rfl rfl rfl rfl rfl rfl (by first | omega | (simp only [List.length_append, List.length_cons, List.length_nil]; omega))) rfl rfl ?_
     rintro _ lj iv ⟨c4, c9, rfl, f9, (g2 : HS _ _ _ [_, _, _, _, _, iv] _), _⟩
     have f9 : OS ih (.slice c4 sw.length c9) sw iv := f9
     refine wa (.slice c4 sw.length c9) rfl rfl rfl ?_
     refine aj 2 rfl ?_
     refine aa ?_
     refine wRo 4 0 [(3, .o (iI ((c.blocks.getD k default).ins.getD iz.toNat default).i.a))] 62 65 [] [(62, (.slice c4 sw.length c9)), (65, (iI ((c.blocks.getD k default).ins.getD iz.toNat default).i.a))] (vA (ql 3 1 (HS.hc g2 (i := 4) rfl) rfl rfl) trivial) rfl fun _ => ?_
     refine aE (aB rfl rfl rfl) rfl rfl (mb.rem_c ex sw ((c.blocks.getD k default).ins.getD iz.toNat default).i.a (HS.callOwn g2 (i := 5) rfl) f9 (by first | (dsimp only; omega) | omega) hT (by first | (dsimp only; omega) | omega) (by first | (dsimp only; omega) | omega)) ?_
     rintro _ ll ⟨h1, hR, j7, dv, es, rfl, f3, kv, kA⟩
     replace es : HS _ _ _ [_, _, _, _, _, hR] _ := HS.backOwn g2 (i := 5) rfl rfl (fun _ hb => hb) es
     have kO := OS.len' f3
     refine aj 3 rfl ?_
     refine wR 2 [(1, .o (.slice (cA (U iz.toNat) 5) ((c.blocks.getD k default).ins.getD iz.toNat default).args.length (cK (U iz.toNat) 5)))] 67 70 [] [(68, (.slice (cA (U iz.toNat) 5) ((c.blocks.getD k default).ins.getD iz.toNat default).args.length (cK (U iz.toNat) 5))), (69, (iI (((c.blocks.getD k default).ins.getD iz.toNat default).args.length : Int))), (70, (iI 0))] (vA (ql 25 5 (HS.hc es (i := 4) rfl) rfl rfl) trivial) rfl fun _ => ?_
     refine ak (fun (mm : Nat) f H' => ∃ (tw : List U64) (q : Nat) (N : Option Addr) (O : Nat) (b2 : Fp) (F' : Fz), Fz.le j7 F' ∧ HS (Base.of H []) F' H' [e5, ag, h5, a0, i1, b2] R ∧ OS F' (.slice N tw.length O) tw b2 ∧ aH f [(2, (.slice none 0 0)), (4, (.slice b5 T.length co)), (5, (.slice I ax.length J)), (6, (iI (k : Int))), (7, (.pointer (some ⟨c5, 0, none⟩))), (8, (.slice A sw.length E)), (9, (iI iz)), (10, (.pointer (some ⟨ez, 0, none⟩))), (11, (.slice N tw.length O)), (26, (.slice V c.blocks.length Z)), (27, (iI (c.blocks.length : Int))), (28, (iI (k : Int))), (29, (.bool (decide ((k : Int) < (c.blocks.length : Int))))), (30, (iI (k : Int))), (32, a6), (37, (.slice (cA (av k) 0) (T.getD k default).length (cK (av k) 0))), (40, a6), (47, (.bool (decide ((0 : Int) ≤ iz)))), (54, dk), (58, (.bool (((c.blocks.getD k default).ins.getD iz.toNat default).i.op == 6))), (60, (.slice A sw.length E)), (65, (iI ((c.blocks.getD k default).ins.getD iz.toNat default).i.a)), (68, (.slice (cA (U iz.toNat) 5) ((c.blocks.getD k default).ins.getD iz.toNat default).args.length (cK (U iz.toNat) 5))), (69, (iI (((c.blocks.getD k default).ins.getD iz.toNat default).args.length : Int))), (70, (iI (q : Int)))] ∧ mm = ((c.blocks.getD k default).ins.getD iz.toNat default).args.length - q ∧ (tw.length = wds c) ∧ (∀ i, ap tw i = ((ap sw i && !decide (i = ((c.blocks.getD k default).ins.getD iz.toNat default).i.a.toNat)) || decide ((i : Int) ∈ ((c.blocks.getD k default).ins.getD iz.toNat default).args.take q))) ∧ (q ≤ ((c.blocks.getD k default).ins.getD iz.toNat default).args.length)) _ ⟨h1, 0, c4, c9, hR, _, fR, es, (OS.norm f3), (agC rfl (agC rfl (agC rfl (agC rfl (agC rfl (agC rfl (agC rfl (agC rfl (agC (show Value.slice c4 sw.length c9 = Value.slice c4 h1.length c9 by rw [OS.len' f3]) (agC rfl (agC rfl (agC rfl (agC rfl (agC rfl (agC rfl (agC rfl (agC rfl (agC rfl (agC rfl (agC rfl (agC rfl (agC rfl (agC rfl (agC rfl (agC rfl agN))))))))))))))))))))))))), rfl, (by omega), (by exact rem0 (by assumption)), (by first | assumption | omega | (simp at *; omega))⟩ ?_
     rintro kU lD lm ⟨tw, q, N, O, b2, kW, b9, ci, dd, hz, rfl, lM, hX, hq⟩ j4
     refine aq _ hz (fun _ => ?_)
     clear hz
     replace hT := (hT.mono dv).mono b9
     replace ad := (ad.mono dv).mono b9
     replace a1 := (a1.mono dv).mono b9
     refine am 1 rfl ?_
     refine wR 2 [] 71 71 [] [(71, (.bool (decide ((q : Int) < (((c.blocks.getD k default).ins.getD iz.toNat default).args.length : Int)))))] trivial rfl fun _ => ?_
     refine au 4 4 (v := (decide ((q : Int) < (((c.blocks.getD k default).ins.getD iz.toNat default).args.length : Int)))) rfl rfl rfl rfl (fun f0 => ?_) (fun f0 => ?_)
     ·
      have hj := f0
      try simp only [BS] at hj
      have har := fu hca.2.2 (k := q) (by omega)
      obtain ⟨kt, hF⟩ := Sv.view (SR.sv a1 ci)
      have lE := fI (hF q)
      refine wR 1 [(1, .o (iI (((c.blocks.getD k default).ins.getD iz.toNat default).args.getD q 0)))] 72 73 [13] [(13, (iI (((c.blocks.getD k default).ins.getD iz.toNat default).args.getD q 0)))] (vA (Sv.ix (j := (q : Int)) (SR.sv a1 ci) (by first | (dsimp only; omega) | omega) (by first | (dsimp only; omega) | omega)) (vA (ql 3 0 (vI (hF q) (by first | (dsimp only; omega) | omega)) rfl rfl) trivial)) rfl fun _ => ?_
      refine aa ?_
      refine wRo 2 0 [] 74 75 [] [(74, (.slice N tw.length O)), (75, (iI (((c.blocks.getD k default).ins.getD iz.toNat default).args.getD q 0)))] trivial rfl fun _ => ?_
      refine aE (aB rfl rfl rfl) rfl rfl (mb.add_c ex tw (((c.blocks.getD k default).ins.getD iz.toNat default).args.getD q 0) (HS.callOwn ci (i := 5) rfl) dd (by first | (dsimp only; omega) | omega) hT (by first | (dsimp only; omega) | omega) (by first | (dsimp only; omega) | omega)) ?_
      rintro _ ln ⟨h2, hS, kX, i3, g3, rfl, f4, kw, kB⟩
      replace g3 : HS _ _ _ [_, _, _, _, _, hS] _ := HS.backOwn ci (i := 5) rfl rfl (fun _ hb => hb) g3
      have kP := OS.len' f4
      refine aj 2 rfl ?_
      refine wR 1 [] 70 70 [77] [(70, (iI ((q : Int) + 1)))] (vA (vi (n := (q : Int) + 1) (by first | (dsimp only; omega) | omega)) trivial) rfl fun _ => ?_
      refine j4 _ _ _ ?_ ⟨h2, q + 1, N, O, hS, _, (fT (b9) i3), g3, (OS.norm f4), (agC rfl (agC rfl (agC rfl (agC rfl (agC rfl (agC rfl (agC rfl (agC rfl (agC (show Value.slice N tw.length O = Value.slice N h2.length O by rw [OS.len' f4]) (agC rfl (agC rfl (agC rfl (agC rfl (agC rfl (agC rfl (agC rfl (agC rfl (agC rfl (agC rfl (agC rfl (agC rfl (agC rfl (agC rfl (agC rfl (agC rfl agN))))))))))))))))))))))))), rfl, (by omega), (by exact add_f (by omega) hX har.1 (by assumption)), (by first | assumption | omega | (simp at *; omega))⟩
      omega
     have hj := f0
     try simp only [BS] at hj
     refine aa ?_
     refine wRo 2 0 [] 78 79 [] [(78, (.slice I ax.length J)), (79, (.slice N tw.length O))] trivial rfl fun _ => ?_
     obtain ⟨kZ, f1, et, jw, kJ⟩ := OS.frz dd ci (i := 5) rfl
     have et : HS _ _ _ [_, _, _, _, _, []] _ := et
     replace hT := hT.mono f1
     replace ad := ad.mono f1
     refine aE (aB rfl rfl rfl) rfl rfl (mb.union_c ex ax tw (HS.callOwn et (i := 1) rfl) ad jw hT (by first | (dsimp only; omega) | omega) (by first | (dsimp only; omega) | omega)) ?_
     rintro _ lp ⟨lK, h3, hV, kY, ja, g4, rfl, f5, kx, kC, kE, kF⟩
     replace g4 : HS _ _ _ [_, hV, _, _, _, _] _ := HS.backOwn et (i := 1) rfl rfl (fun _ hb => hb) g4
     have kQ := OS.len' f5
     refine aj 0 rfl ?_
     exact hG _ _ ⟨h3, I, J, hV, _, (fT (fT (fT (dv) b9) f1) ja), (HS.sub g4 (List.sublist_append_left _ _)), (OS.norm f5), (agC rfl (agC rfl (agC (show Value.slice I ax.length J = Value.slice I h3.length J by rw [OS.len' f5]) (agC rfl (agC rfl (agC rfl (agC rfl (agC rfl (agC rfl (agC rfl (agC rfl (agC rfl (agC rfl (agC rfl (agC rfl (agC rfl (agC rfl (agC rfl (agC rfl agN))))))))))))))))))), (by first | omega | assumption), (by first | exact ac_yes (c := c) (b := k) (i := iz.toNat) (q := q) hop hr (by rw [show iz.toNat + 1 = (iz + 1).toNat by omega]; exact e4) (show ((c.blocks.getD k default).ins.getD iz.toNat default).args.length ≤ q by omega) hX (by assumption) | exact ac_no (c := c) (b := k) (i := iz.toNat) hop)⟩
    have e0 := fi
    try simp only [BS] at e0
    have hop := e0
    exact hG _ _ ⟨ax, I, J, ag, _, fR, g0, ad, (agC rfl (agC rfl (agC rfl (agC rfl (agC rfl (agC rfl (agC rfl (agC rfl (agC rfl (agC rfl (agC rfl (agC rfl (agC rfl (agC rfl (agC rfl (agC rfl (agC rfl (agC rfl (agC rfl agN))))))))))))))))))), (by first | omega | assumption), (by first | exact ac_yes (c := c) (b := k) (i := iz.toNat) (q := q) hop hr (by rw [show iz.toNat + 1 = (iz + 1).toNat by omega]; exact e4) (show ((c.blocks.getD k default).ins.getD iz.toNat default).args.length ≤ q by omega) hX (by assumption) | exact ac_no (c := c) (b := k) (i := iz.toNat) hop)⟩
   skip
   rintro lC lf ⟨b6, a8, bk, a5, kV, dt, g1, c0, hw, lG, j9⟩
   refine aq _ hw (fun _ => ?_)
   clear hw
   replace hT := hT.mono dt
   replace bb := bb.mono dt
   replace a1 := a1.mono dt
   refine am 1 rfl ?_
   refine aa ?_
   refine wRo 2 0 [(1, .o dk)] 81 82 [] [(81, (.slice A sw.length E)), (82, dk)] (vA (qn 52 0 6 (HS.hc g1 (i := 4) rfl) rfl rfl rfl rfl) trivial) rfl fun _ => ?_
   refine aE (aB rfl rfl rfl) rfl rfl (mb.iM ex sw ((c.blocks.getD k default).ins.getD iz.toNat default) (HS.callOwn g1 (i := 3) rfl) bb (by first | (dsimp only; omega) | omega) (by first | (dsimp only; omega) | omega) (by first | (dsimp only; omega) | omega) (by first | (dsimp only; omega) | omega) (by first | (dsimp only; omega) | omega) a1 hT (by first | omega | exact fun x hx => by have := hvl.1 x hx; omega | exact fun x hx => by have := hvl.2.1 x hx; omega) (by first | omega | exact fun x hx => by have := hvl.1 x hx; omega | exact fun x hx => by have := hvl.2.1 x hx; omega) (by first | omega | exact fun x hx => by have := hvl.1 x hx; omega | exact fun x hx => by have := hvl.2.1 x hx; omega) (by first | omega | exact fun x hx => by have := hvl.1 x hx; omega | exact fun x hx => by have := hvl.2.1 x hx; omega)) ?_
   rintro _ lq ⟨h4, hW, k0, hn, g5, rfl, f6, ky, kD⟩
   replace g5 : HS _ _ _ [_, a5, _, hW, _] _ := HS.backOwn g1 (i := 3) rfl rfl (fun _ hb => hb) g5
   replace c0 := c0.mono hn
   have kR := OS.len' f6
   refine aj 2 rfl ?_
   refine wR 1 [] 48 49 [9] [(9, (iI (iz - 1)))] (vA (vi (n := iz - 1) (by first | (dsimp only; omega) | omega)) trivial) rfl fun _ => ?_
   refine j3 _ _ _ ?_ ⟨b6, h4, iz - 1, a8, bk, a5, A, E, hW, _, (fT (fT (ds) dt) hn), (HS.sub g5 (List.sublist_append_left _ _)), c0, (OS.norm f6), (agC rfl (agC rfl (agC rfl (agC rfl (agC rfl (agC (show Value.slice A sw.length E = Value.slice A h4.length E by rw [OS.len' f6]) (agC rfl (agC rfl (agC rfl (agC rfl (agC rfl (agC rfl (agC rfl (agC rfl (agC rfl agN))))))))))))))), rfl, (by omega), (by exact ac_step (by omega) hin ik j9), (by omega), (by first | assumption | omega | (simp at *; omega)), (by rw [show (iz - 1 + 1).toNat = iz.toNat by omega]; exact tr_next hin (by rw [show iz.toNat + 1 = (iz + 1).toNat by omega]; exact e4) (by assumption))⟩
   omega
  have hh := fd
  try simp only [BS] at hh
  refine wR 1 [] 28 28 [84] [(28, (iI ((k : Int) + 1)))] (vA (vi (n := (k : Int) + 1) (by first | (dsimp only; omega) | omega)) trivial) rfl fun _ => ?_
  refine j2 _ _ _ ?_ ⟨ax, k + 1, I, J, ag, _, (fT (fT (b7) dn) ds), (HS.sub ch (List.sublist_append_left _ _)), ad, (agC rfl (agC rfl (agC rfl (agC rfl (agC rfl (agC rfl agN)))))), rfl, (by omega), (by exact ac_next (by omega) ik), (by first | assumption | omega | (simp at *; omega))⟩
  omega
 have hg := e6
 try simp only [BS] at hg
 refine aa ?_
 refine wm (.slice a3 aw.length a4) rfl rfl rfl ?_
 obtain ⟨ko, g7, b4, h8, h6⟩ := OS.frz a9 cc (i := 1) rfl
 have b4 : HS _ _ _ [_, []] _ := b4
 refine aE (aB rfl rfl rfl) rfl rfl (mb.list_c ex aw (HS.call b4) h8 (hT.mono g7) (by first | (dsimp only; omega) | omega)) ?_
 rintro _ lr ⟨he, hI, lL, hK, k3, jb, a7, rfl, d1, rfl⟩
 replace a7 := HS.back b4 rfl a7
 replace a7 := HS.thawX (M := [hK]) cc (i := 1) rfl g7 h6 jb a7
 replace d1 := OS.ind (F' := ib) d1
 have a7 : HS _ _ _ [e5, ay, hK] _ := a7
 refine wa (.slice he (e7 aw).length hI) rfl rfl rfl ?_
 refine aj 1 rfl ?_
 refine az ⟨.inr rfl, _, rfl, he, hI, e7 aw, hK, _, (fT (fT (fT (g6) hp) dl) b7), (HS.only a7 (i := 2) rfl), rfl, d1, (by first | exact fun h => absurd (h.symm.trans hv) (by decide) | exact fun _ => ac_all (by omega) g9), (by first | exact fun _ => rfl | exact fun h => absurd (hv.symm.trans h) (by decide))⟩
end Go.Proofs.YtknafdcgpaejlaaDoor.mg
