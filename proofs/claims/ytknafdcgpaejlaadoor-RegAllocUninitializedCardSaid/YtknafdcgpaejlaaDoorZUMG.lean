/-
 Live registers: AcrossCalls, by a symbolic run. No condition but bounds on lengths.
-/
import Derived.Test.YtknafdcgpaejlaaDoorZUMF
noncomputable section
namespace Go.Proofs.YtknafdcgpaejlaaDoor.mg
open Go.R
set_option maxRecDepth 10000
set_option linter.unusedVariables false
set_option linter.unusedSimpArgs false
variable (ex : FuncId) {F : Fz} {H : Heap} {R : List Fp}
open m1 m2 m3 m4 m5 m6 ma ml mb mc md mf
def acK (c : VFnT) (k r : Nat) : Prop := ∃ b i, b < k ∧ i < (bA c b).ins.length ∧ acI c b i r
theorem call_a {p g : Int} {v : VInT} (h : eJ p g v = true) (ho : v.i.op = 6) : 0 ≤ v.i.a ∧ v.i.a < g ∧ ∀ x ∈ v.args, 0 ≤ x ∧ x < g := by
 unfold eJ at h
 simp only [a0b] at h
 obtain ⟨⟨⟨⟨⟨_, E⟩, A⟩, _⟩, _⟩, _⟩ := h
 rw [ho] at A
 have e : (decide (aC 6 ≠ 1)) = true := by decide
 rw [e] at A
 have A : m2.aL g v.i.a = true := A
 unfold m2.aL at E A
 simp only [decide_eq_true_eq, a0p] at E A
 exact ⟨A.1, A.2, E⟩
theorem rem0 {s w : List U64} {n : Nat} {l : List Int} (h : ∀ i, aB w i = (aB s i && !decide (i = n))) (i : Nat) : aB w i = ((aB s i && !decide (i = n)) || decide ((i : Int) ∈ l.take 0)) := by rw [h]; simp
theorem add_f {f : Nat → Bool} {w w' : List U64} {l : List Int} {k : Nat} (hk : k < l.length) (h : ∀ i, aB w i = (f i || decide ((i : Int) ∈ l.take k))) (J : 0 ≤ l.getD k 0) (E : ∀ i, aB w' i = (aB w i || decide (i = (l.getD k 0).toNat))) (i : Nat) : aB w' i = (f i || decide ((i : Int) ∈ l.take (k + 1))) := by
 rw [E, h, bj hk (d := 0), Bool.or_assoc]
 congr 1
 rw [a0m]
 simp only [a0H, decide_eq_true_eq, a04, a0d]
 constructor
 ·
  rintro (A | A)
  ·
   exact .inl A
  exact .inr (by omega)
 rintro (A | A)
 ·
  exact .inl A
 exact .inr (by omega)
theorem ac_yes {c : VFnT} {b i q : Nat} {s w a a' : List U64} (ho : ((bA c b).ins.getD i default).i.op = 6) (J : 0 ≤ ((bA c b).ins.getD i default).i.a) (hs : ∀ r, aB s r = true ↔ ptS c b (i + 1) r) (hq : ((bA c b).ins.getD i default).args.length ≤ q)
  (hw : ∀ r, aB w r = ((aB s r && !decide (r = ((bA c b).ins.getD i default).i.a.toNat)) || decide ((r : Int) ∈ ((bA c b).ins.getD i default).args.take q))) (ha : ∀ r, aB a' r = (aB a r || aB w r)) (r : Nat) : aB a' r = true ↔ (aB a r = true ∨ acI c b i r) := by
 rw [ha, hw, a0f hq]
 simp only [a0H, a0b, a0J, decide_eq_false_iff_not, decide_eq_true_eq, hs]
 unfold acI
 constructor
 ·
  rintro (h | ⟨A, E⟩ | h)
  ·
   exact .inl h
  ·
   exact .inr ⟨ho, .inl ⟨A, by omega⟩⟩
  exact .inr ⟨ho, .inr h⟩
 rintro (h | ⟨_, ⟨A, E⟩ | h⟩)
 ·
  exact .inl h
 ·
  exact .inr (.inl ⟨A, by omega⟩)
 exact .inr (.inr h)
theorem ac_no {c : VFnT} {b i : Nat} {a : List U64} (ho : ((bA c b).ins.getD i default).i.op ≠ 6) (r : Nat) : aB a r = true ↔ (aB a r = true ∨ acI c b i r) := ⟨.inl, fun h => h.elim id fun h => absurd h.1 ho⟩
theorem ac_step {c : VFnT} {b : Nat} {i : Int} {a a' : List U64} (hi : 0 ≤ i) (hn : i.toNat < (bA c b).ins.length) (h : ∀ r, aB a r = true ↔ (acK c b r ∨ ∃ j, (i + 1).toNat ≤ j ∧ j < (bA c b).ins.length ∧ acI c b j r)) (N : ∀ r, aB a' r = true ↔ (aB a r = true ∨ acI c b i.toNat r)) (r : Nat) :
  aB a' r = true ↔ (acK c b r ∨ ∃ j, (i - 1 + 1).toNat ≤ j ∧ j < (bA c b).ins.length ∧ acI c b j r) := by
 rw [N, h]
 constructor
 ·
  rintro ((A | ⟨j, A, J, E⟩) | A)
  ·
   exact .inl A
  ·
   exact .inr ⟨j, by omega, J, E⟩
  exact .inr ⟨i.toNat, by omega, hn, A⟩
 rintro (A | ⟨j, A, J, E⟩)
 ·
  exact .inl (.inl A)
 rcases a0j j (i + 1).toNat with hj | hj
 ·
  have : j = i.toNat := by omega
  subst this; exact .inr E
 exact .inl (.inr ⟨j, hj, J, E⟩)
theorem ac_first {c : VFnT} {b n : Nat} {a : List U64} (hn : (bA c b).ins.length ≤ n) (h : ∀ r, aB a r = true ↔ acK c b r) (r : Nat) : aB a r = true ↔ (acK c b r ∨ ∃ j, n ≤ j ∧ j < (bA c b).ins.length ∧ acI c b j r) := by
 rw [h]
 exact ⟨.inl, fun h => h.elim id fun ⟨j, E, A, _⟩ => absurd A (by omega)⟩
theorem ac_next {c : VFnT} {b : Nat} {i : Int} {a : List U64} (hi : i < 0) (h : ∀ r, aB a r = true ↔ (acK c b r ∨ ∃ j, (i + 1).toNat ≤ j ∧ j < (bA c b).ins.length ∧ acI c b j r)) (r : Nat) : aB a r = true ↔ acK c (b + 1) r := by
 rw [h]
 constructor
 ·
  rintro (⟨b', j, J, A, E⟩ | ⟨j, _, A, E⟩)
  ·
   exact ⟨b', j, by omega, A, E⟩
  exact ⟨b, j, by omega, A, E⟩
 rintro ⟨b', j, J, A, E⟩
 rcases a0j b' b with hb | hb
 ·
  exact .inl ⟨b', j, hb, A, E⟩
 have : b' = b := by omega
 subst this
 exact .inr ⟨j, by omega, A, E⟩
theorem ac_zero {c : VFnT} {a : List U64} (h : ∀ i, aB a i = false) (r : Nat) : aB a r = true ↔ acK c 0 r := by
 rw [h]
 exact ⟨fun h => (by cases h), fun ⟨b, _, A, _⟩ => absurd A (a1f _)⟩
theorem ac_all {c : VFnT} {a : List U64} {k : Nat} (hk : c.blocks.length = k) (h : ∀ r, aB a r = true ↔ acK c k r) : Lst (fB a) (acS c) := lst_of fun r => by
 rw [h]
 subst hk
 exact Iff.rfl
set_option maxHeartbeats 2000000 in
theorem across_c {Z : Option Addr} {ad : Nat} (c : VFnT) (hs : HS (.of H []) F H [] R) (lf : in64 c.params) (lh : in64 c.regs) (a3 : SR F (.slice Z c.blocks.length ad) c.blocks) (hT : TB 37 tabC F) (hins : ∀ j, (c.blocks.getD j default).ins.length ≤ 1073741824) : kKt ex 72 [(.agg ⟨[(iI c.params), (iI c.regs), (.slice Z c.blocks.length ad)]⟩)] H fun v H' => ∃ (ar : Option Addr) (kr : Nat) (r : List Int) (p : Fp) (F' : Fz), Fz.le F F' ∧ HS (.of H []) F' H' [p] R ∧ v = .slice ar r.length kr ∧ OS F' (.slice ar r.length kr) r p ∧ (d6 c = true → Lst r (acS c)) ∧ (d6 c = false → r = []) := by
 refine aH Tryd.func72 rfl rfl (ah 1 rfl (aa (aG (bG hs rfl rfl) rfl rfl ?_)))
 rintro _ H2 _ ⟨b1, rfl, (ht : HS _ _ _ [[(b1, .cells [(iI c.params), (iI c.regs), (.slice Z c.blocks.length ad)] none false)]] _), _⟩
 let g4 : Value := (.agg ⟨[(iI c.params), (iI c.regs), (.slice Z c.blocks.length ad)]⟩)
 refine wa (.slice none 0 0) rfl rfl rfl (ae 3 rfl (aa (wUo 1 0 [(0, .o g4)] 14 14 [] [(14, g4)] (qn 24 0 3 (HS.hc ht (i := 0) rfl) rfl rfl rfl rfl) rfl fun _ => aA (aq rfl rfl rfl) rfl rfl (m3.iD ex c (HS.call ht) (by omega) (by omega) a3 hT (by exact fun j => a0c (hins j) (by omega))) ?_)))
 rintro _ H4 ⟨r4, F4, g2, c3, rfl, rfl⟩
 replace c3 : HS _ _ _ [_] _ := HS.back ht rfl c3
 replace hT := hT.mono g2
 replace a3 := a3.mono g2
 refine wTo 1 2 [] 16 16 [] [(16, (.bool (!(d6 c))))] rfl fun _ => ae 1 rfl (am 1 2 (v := (!(d6 c))) rfl rfl rfl rfl (fun hh => ?_) (fun hh => ?_))
 ·
  have c6 := hh
  try simp only [BS] at c6
  have hv := c6
  refine wT 1 [] 2 2 [] [(2, (.slice none 0 0))] rfl fun _ => ak ⟨.inr rfl, _, rfl, none, 0, ([] : List Int), [], _, (g2), (HS.cons (HS.forget c3)), rfl, (OS.nil : OS _ _ _ []), (by first | exact fun h => absurd (h.symm.trans hv) (by decide) | exact fun _ => ac_all (by omega) g7), (by first | exact fun _ => rfl | exact fun h => absurd (hv.symm.trans h) (by decide))⟩
 have c6 := hh
 try simp only [BS] at c6
 have hv := c6
 have vF := iE hv
 have hnb := vF.nb
 have hrg := vF.regs
 have hwd := wd_le vF.regs
 refine aa (wUo 1 0 [(0, .o g4)] 18 18 [] [(18, g4)] (qn 24 0 3 (HS.hc c3 (i := 0) rfl) rfl rfl rfl rfl) rfl fun _ => aA (aq rfl rfl rfl) rfl rfl (mc.analyze_c ex c (HS.call c3) (by omega) (by omega) a3 hT (by assumption) (by exact fun j => a0c (hins j) (by omega))) ?_)
 rintro _ H9 ⟨kY, lp, mk, b2, cc, av, F9, hl, et, rfl, kW, bz, h9⟩
 replace et : HS _ _ _ [_] _ := HS.back c3 rfl et
 replace hT := hT.mono hl
 refine wTo 5 2 [] 20 21 [3, 4, 17] [(4, (.slice b2 av.length cc))] rfl fun _ => ae 2 rfl ?_
 have an := (by assumption : AnF c _ _)
 have hli := an.li
 have hlo := an.lo
 refine aa (wUo 2 0 [(1, .o (iI c.regs))] 22 23 [] [(23, (iI c.regs))] (ql 3 1 (HS.hc et (i := 0) rfl) rfl rfl) rfl fun _ => aA (aq rfl rfl rfl) rfl rfl (mb.empty_c ex c.regs (HS.call et) (by omega) hT (by omega)) ?_)
 rintro _ lJ ⟨g8, hD, mr, h5, kc, c9, dt, rfl, h0, rfl⟩
 replace dt : HS _ _ _ [_, h5] _ := HS.back et rfl dt
 let ez : Fp := [(b1, .cells [(iI c.params), (iI c.regs), (.slice Z c.blocks.length ad)] none false)]
 refine wa (.slice g8 (List.replicate (Int.tdiv (c.regs + 63) 64).toNat (⟨0⟩ : U64)).length hD) rfl rfl rfl (ae 3 rfl (wU 2 [(1, .o (.slice Z c.blocks.length ad))] 25 28 [] [(26, (.slice Z c.blocks.length ad)), (27, (iI (c.blocks.length : Int))), (28, (iI 0))] (ql 22 2 (HS.hc dt (i := 0) rfl) rfl rfl) rfl fun _ => aj (fun (mm : Nat) f H' => ∃ (aw : List U64) (k : Nat) (a4 : Option Addr) (a5 : Nat) (a0 : Fp) (F' : Fz), Fz.le kc F' ∧ HS (Base.of H []) F' H' [ez, a0] R ∧ OS F' (.slice a4 aw.length a5) aw a0 ∧ aD f [(4, (.slice b2 av.length cc)), (5, (.slice a4 aw.length a5)), (26, (.slice Z c.blocks.length ad)), (27, (iI (c.blocks.length : Int))), (28, (iI (k : Int)))] ∧ mm = c.blocks.length - k ∧ (aw.length = wds c) ∧ (∀ r, aB aw r = true ↔ acK c k r) ∧ (k ≤ c.blocks.length)) _ ⟨List.replicate (Int.tdiv (c.regs + 63) 64).toNat (⟨0⟩ : U64), 0, g8, hD, h5, _, fR, dt, h0, ⟨rfl, rfl, rfl, rfl, rfl, trivial⟩, rfl, (by simp [wds]), (by exact ac_zero (fun i => bit_rep _ _)), (by first | assumption | omega | (simp at *; omega))⟩ ?_))
 rintro lz l6 lK ⟨aw, k, a4, a5, a0, h2, b4, b6, a9, hm, rfl, l4, g7, hk⟩ jc
 refine ap _ hm (fun _ => ?_)
 clear hm
 replace hT := (hT.mono c9).mono b4
 replace a3 := ((a3.mono hl).mono c9).mono b4
 replace bz := (bz.mono c9).mono b4
 refine ah 1 rfl (wT 2 [] 29 29 [] [(29, (.bool (decide ((k : Int) < (c.blocks.length : Int)))))] rfl fun _ => am 4 5 (v := (decide ((k : Int) < (c.blocks.length : Int)))) rfl rfl rfl rfl (fun e0 => ?_) (fun e0 => ?_))
 ·
  have ha := e0
  try simp only [BS] at ha
  have hbn : k < c.blocks.length := by omega
  have hfn : ((c.blocks.getD k default).fin = 2 ∨ (c.blocks.getD k default).fin = 3) → 0 ≤ (c.blocks.getD k default).reg ∧ (c.blocks.getD k default).reg < c.regs := vF.fin k hbn
  have hbl := hins k
  have hwo := an.wo k hbn
  have ln : (av.getD k []).length = wds c := hwo
  refine aa ?_
  obtain ⟨ax, hw⟩ := Sv.view (SR.sv a3 b6)
  obtain ⟨ky, kz, kP, kQ, bk⟩ := BlkT.fx (hw k)
  let g5 : Value := (.agg ⟨[(.slice (cA (ax k) 0) (c.blocks.getD k default).ins.length (cK (ax k) 0)), (iI (c.blocks.getD k default).fin), (iI (c.blocks.getD k default).reg), (iI (c.blocks.getD k default).tgt), (iI (c.blocks.getD k default).els)]⟩)
  refine wRo 3 0 [(2, .o g5)] 30 32 [] [(30, (iI (k : Int))), (32, g5)] (vA (Sv.ix (j := (k : Int)) (SR.sv a3 b6) (by omega) (by omega)) (vA (qn 48 0 5 (BlkT.vw (hw k) (by omega)) rfl rfl rfl rfl) trivial)) rfl fun _ => aG (bp b6 rfl) rfl rfl ?_
  rintro _ lL _ ⟨c0, rfl, (i3 : HS _ _ _ [_, a0, [(c0, .cells [(.slice none 0 0), (iI 0), (iI 0), (iI 0), (iI 0)] none false)]] _), _⟩
  refine wa (iI (k : Int)) rfl rfl rfl (aN (aI (q := 2) i3 rfl rfl rfl rfl rfl rfl rfl rfl rfl) rfl ?_)
  rintro _ lM _ ⟨(ja : HS _ _ _ [_, _, [(c0, .cells [(.slice (cA (ax k) 0) (c.blocks.getD k default).ins.length (cK (ax k) 0)), (iI (c.blocks.getD k default).fin), (iI (c.blocks.getD k default).reg), (iI (c.blocks.getD k default).tgt), (iI (c.blocks.getD k default).els)] none false)]] _), _⟩
  refine ae 2 rfl (aa (aG (bt (α := U64) (ps := []) (cells := []) ([] : List U64) ja rfl rfl rfl (by kernel_rfl) rfl rfl) rfl rfl ?_))
  rintro _ lN kn ⟨l2, mp, rfl, iv, (dv : HS _ _ _ [_, _, _, kn] _), _⟩
  obtain ⟨c8, hz⟩ := Sv.view (SR.sv bz dv)
  have kx := fL (hz k)
  refine wRo 4 1 [(4, .o (.slice (cA (c8 k) 0) (av.getD k default).length (cK (c8 k) 0)))] 34 37 [] [(37, (.slice (cA (c8 k) 0) (av.getD k default).length (cK (c8 k) 0)))] (vA (Sv.ix (j := (k : Int)) (SR.sv bz dv) (by omega) (by omega)) (vA (ql 147 0 (vL (hz k) (by omega)) rfl rfl) trivial)) rfl fun _ => aG (bw (α := U64) (q := 3) iv dv rfl rfl rfl (SR.sv kx dv) rfl rfl rfl rfl rfl rfl rfl (by (simp only [a05, a0a, a0e]; omega))) rfl rfl ?_
  rintro _ lO h6 ⟨ci, c4, rfl, f3, (f5 : HS _ _ _ [_, _, _, h6] _), _⟩
  have f3 : OS h2 (.slice ci (av.getD k default).length c4) (av.getD k default) h6 := f3
  refine wa (.slice ci (av.getD k default).length c4) rfl rfl rfl (ae 2 rfl (aa (wUo 2 0 [(1, .o g5)] 39 40 [] [(39, (.slice ci (av.getD k default).length c4)), (40, g5)] (qn 48 0 5 (HS.hc f5 (i := 2) rfl) rfl rfl rfl rfl) rfl fun _ => aA (aq rfl rfl rfl) rfl rfl (mb.addT_c ex (av.getD k default) (c.blocks.getD k default) (HS.callOwn f5 (i := 3) rfl) f3 bk (by omega) (by omega) (by omega) (by omega) hT (by omega) (by omega)) ?_)))
  rintro _ lP ⟨hQ, hG, kd, dd, d1, rfl, fd, k0, k7⟩
  replace d1 : HS _ _ _ [_, _, _, hG] _ := HS.backOwn f5 (i := 3) rfl rfl (fun _ hb => hb) d1
  replace a9 := a9.mono dd
  have lq := OS.len' fd
  let hX : Fp := [(c0, .cells [(.slice (cA (ax k) 0) (c.blocks.getD k default).ins.length (cK (ax k) 0)), (iI (c.blocks.getD k default).fin), (iI (c.blocks.getD k default).reg), (iI (c.blocks.getD k default).tgt), (iI (c.blocks.getD k default).els)] none false)]
  refine ae 2 rfl (wR 2 [(1, .o (.slice (cA (ax k) 0) (c.blocks.getD k default).ins.length (cK (ax k) 0)))] 42 45 [9] [(9, (iI (((c.blocks.getD k default).ins.length : Int) - 1)))] (vA (ql 46 0 (HS.hc d1 (i := 2) rfl) rfl rfl) (vA (vi (n := ((c.blocks.getD k default).ins.length : Int) - 1) (by omega)) trivial)) rfl fun _ => aj (fun (mm : Nat) f H' => ∃ (ay : List U64) (sw : List U64) (iz : Int) (A : Option Addr) (J : Nat) (al : Fp) (E : Option Addr) (N : Nat) (a1 : Fp) (F' : Fz), Fz.le kd F' ∧ HS (Base.of H []) F' H' [ez, al, hX, a1] R ∧ OS F' (.slice A ay.length J) ay al ∧ OS F' (.slice E sw.length N) sw a1 ∧ aD f [(4, (.slice b2 av.length cc)), (5, (.slice A ay.length J)), (7, (.pointer (some ⟨c0, 0, none⟩))), (8, (.slice E sw.length N)), (9, (iI iz)), (26, (.slice Z c.blocks.length ad)), (27, (iI (c.blocks.length : Int))), (28, (iI (k : Int)))] ∧ mm = (iz + 1).toNat ∧ (ay.length = wds c) ∧ (∀ r, aB ay r = true ↔ (acK c k r ∨ ∃ j, (iz + 1).toNat ≤ j ∧ j < (c.blocks.getD k default).ins.length ∧ acI c k j r)) ∧ (sw.length = wds c) ∧ (-1 ≤ iz ∧ iz < ((c.blocks.getD k default).ins.length : Int)) ∧ (∀ r, aB sw r = true ↔ ptS c k (iz + 1).toNat r)) _ ⟨aw, hQ, ((c.blocks.getD k default).ins.length : Int) - 1, a4, a5, a0, ci, c4, hG, _, fR, d1, a9, (OS.norm fd), (agC rfl (agC rfl (agC rfl (agC (show Value.slice ci (av.getD k default).length c4 = Value.slice ci hQ.length c4 by rw [OS.len' fd]) ⟨rfl, rfl, rfl, rfl, trivial⟩)))), rfl, (by omega), (by exact ac_first (show (c.blocks.getD k default).ins.length ≤ _ by omega) g7), (by omega), (by omega), (by exact pt_start (show (c.blocks.getD k default).ins.length ≤ _ by omega) (an.ho _ hbn) (by assumption))⟩ ?_)
  rintro lA l7 lQ ⟨ay, sw, iz, A, J, al, E, N, a1, h3, dk, b7, ag, bb, hn, rfl, l5, h4, e1, e3, e4⟩ jq
  refine ap _ hn (fun _ => ?_)
  clear hn
  replace hT := (hT.mono dd).mono dk
  replace bk := (bk.mono dd).mono dk
  refine ah 2 rfl (wT 1 [] 46 47 [] [(47, (.bool (decide ((0 : Int) ≤ iz))))] rfl fun _ => am 4 5 (v := (decide ((0 : Int) ≤ iz))) rfl rfl rfl rfl (fun e2 => ?_) (fun e2 => ?_))
  ·
   have he := e2
   try simp only [BS] at he
   have hin : iz.toNat < (c.blocks.getD k default).ins.length := by omega
   have hvv := vF.ins k hbn iz.toNat hin
   have hvl : (∀ x ∈ az ((c.blocks.getD k default).ins.getD iz.toNat default), 0 ≤ x ∧ x < c.regs) ∧ (∀ x ∈ ab ((c.blocks.getD k default).ins.getD iz.toNat default), 0 ≤ x ∧ x < c.regs) ∧ ((c.blocks.getD k default).ins.getD iz.toNat default).args.length ≤ 6 := bV hvv
   have lm := hvl.2.2
   refine aa ?_
   obtain ⟨V, hA⟩ := Sv.view (SR.sv bk b7)
   obtain ⟨kR, kS, kT, kU, kV, a2⟩ := VInT.fx (hA iz.toNat)
   let g6 : Value := (.agg ⟨[(iI ((c.blocks.getD k default).ins.getD iz.toNat default).i.op), (iI ((c.blocks.getD k default).ins.getD iz.toNat default).i.a), (iI ((c.blocks.getD k default).ins.getD iz.toNat default).i.b), (iI ((c.blocks.getD k default).ins.getD iz.toNat default).i.c), (iI ((c.blocks.getD k default).ins.getD iz.toNat default).i.n), (.slice (cA (V iz.toNat) 5) ((c.blocks.getD k default).ins.getD iz.toNat default).args.length (cK (V iz.toNat) 5))]⟩)
   refine wRo 5 0 [(1, .o (.slice (cA (ax k) 0) (c.blocks.getD k default).ins.length (cK (ax k) 0))), (4, .o g6)] 50 54 [] [(54, g6)] (vA (ql 46 0 (HS.hc b7 (i := 2) rfl) rfl rfl) (vA (Sv.ix (j := iz) (SR.sv bk b7) (by omega) (by omega)) (vA (qn 52 0 6 (VInT.vw (hA iz.toNat) (by omega)) rfl rfl rfl rfl) trivial))) rfl fun _ => aG (bp b7 rfl) rfl rfl ?_
   rintro _ lR _ ⟨em, rfl, (jb : HS _ _ _ [_, al, _, a1, [(em, .cells [(iI 0), (iI 0), (iI 0), (iI 0), (iI 0), (.slice none 0 0)] none false)]] _), _⟩
   refine aN (aI (q := 4) jb rfl rfl rfl rfl rfl rfl rfl rfl rfl) rfl ?_
   rintro _ lS _ ⟨(f6 : HS _ _ _ [_, _, _, _, [(em, .cells [(iI ((c.blocks.getD k default).ins.getD iz.toNat default).i.op), (iI ((c.blocks.getD k default).ins.getD iz.toNat default).i.a), (iI ((c.blocks.getD k default).ins.getD iz.toNat default).i.b), (iI ((c.blocks.getD k default).ins.getD iz.toNat default).i.c), (iI ((c.blocks.getD k default).ins.getD iz.toNat default).i.n), (.slice (cA (V iz.toNat) 5) ((c.blocks.getD k default).ins.getD iz.toNat default).args.length (cK (V iz.toNat) 5))] none false)]] _), _⟩
   let ib : Fp := [(em, .cells [(iI ((c.blocks.getD k default).ins.getD iz.toNat default).i.op), (iI ((c.blocks.getD k default).ins.getD iz.toNat default).i.a), (iI ((c.blocks.getD k default).ins.getD iz.toNat default).i.b), (iI ((c.blocks.getD k default).ins.getD iz.toNat default).i.c), (iI ((c.blocks.getD k default).ins.getD iz.toNat default).i.n), (.slice (cA (V iz.toNat) 5) ((c.blocks.getD k default).ins.getD iz.toNat default).args.length (cK (V iz.toNat) 5))] none false)]
   refine ae 3 rfl (wU 1 [(2, .o (iI ((c.blocks.getD k default).ins.getD iz.toNat default).i.op))] 55 58 [] [(58, (.bool (((c.blocks.getD k default).ins.getD iz.toNat default).i.op == 6)))] (ql 3 0 (HS.hc f6 (i := 4) rfl) rfl rfl) rfl fun _ => bU (fun f H' => ∃ (b3 : List U64) (a8 : Option Addr) (be : Nat) (a6 : Fp) (F' : Fz), Fz.le h3 F' ∧ HS (Base.of H []) F' H' [ez, a6, hX, a1, ib] R ∧ OS F' (.slice a8 b3.length be) b3 a6 ∧ aD f [(4, (.slice b2 av.length cc)), (5, (.slice a8 b3.length be)), (7, (.pointer (some ⟨c0, 0, none⟩))), (8, (.slice E sw.length N)), (9, (iI iz)), (10, (.pointer (some ⟨em, 0, none⟩))), (26, (.slice Z c.blocks.length ad)), (27, (iI (c.blocks.length : Int))), (28, (iI (k : Int)))] ∧ (b3.length = wds c) ∧ (∀ r, aB b3 r = true ↔ (aB ay r = true ∨ acI c k iz.toNat r))) (fun hC => ?_) ?_)
   ·
    refine am 1 0 (v := (((c.blocks.getD k default).ins.getD iz.toNat default).i.op == 6)) rfl rfl rfl rfl (fun e5 => ?_) (fun e5 => ?_)
    ·
     have es := e5
     try simp only [BS] at es
     have hop := es
     have hca : 0 ≤ ((c.blocks.getD k default).ins.getD iz.toNat default).i.a ∧ ((c.blocks.getD k default).ins.getD iz.toNat default).i.a < c.regs ∧ ∀ x ∈ ((c.blocks.getD k default).ins.getD iz.toNat default).args, 0 ≤ x ∧ x < c.regs := call_a hvv hop
     have it := hca.1
     have lj := hca.2.1
     refine aa (aG (bt (α := U64) (ps := []) (cells := []) ([] : List U64) f6 rfl rfl rfl (by kernel_rfl) rfl rfl) rfl rfl ?_)
     rintro _ lU ko ⟨l3, mq, rfl, i1, (hu : HS _ _ _ [_, _, _, _, _, ko] _), _⟩
     refine wm (.slice E sw.length N) rfl rfl rfl (aG (bw (α := U64) (q := 5) i1 hu rfl rfl rfl (OS.sv bb hu (i := 3) rfl) rfl rfl rfl rfl rfl rfl rfl (by (simp only [a05, a0a, a0e]; omega))) rfl rfl ?_)
     rintro _ lV h7 ⟨co, c5, rfl, f4, (f8 : HS _ _ _ [_, _, _, _, _, h7] _), _⟩
     have f4 : OS h3 (.slice co sw.length c5) sw h7 := f4
     refine wa (.slice co sw.length c5) rfl rfl rfl (ae 2 rfl (aa (wUo 4 0 [(3, .o (iI ((c.blocks.getD k default).ins.getD iz.toNat default).i.a))] 62 65 [] [(62, (.slice co sw.length c5)), (65, (iI ((c.blocks.getD k default).ins.getD iz.toNat default).i.a))] (ql 3 1 (HS.hc f8 (i := 4) rfl) rfl rfl) rfl fun _ => aA (aq rfl rfl rfl) rfl rfl (mb.rem_c ex sw ((c.blocks.getD k default).ins.getD iz.toNat default).i.a (HS.callOwn f8 (i := 5) rfl) f4 (by omega) hT (by omega) (by omega)) ?_)))
     rintro _ lW ⟨hR, hH, kg, dn, d2, rfl, fi, k3, k8⟩
     replace d2 : HS _ _ _ [_, _, _, _, _, hH] _ := HS.backOwn f8 (i := 5) rfl rfl (fun _ hb => hb) d2
     have lr := OS.len' fi
     refine ae 3 rfl (wU 2 [(1, .o (.slice (cA (V iz.toNat) 5) ((c.blocks.getD k default).ins.getD iz.toNat default).args.length (cK (V iz.toNat) 5)))] 67 70 [] [(68, (.slice (cA (V iz.toNat) 5) ((c.blocks.getD k default).ins.getD iz.toNat default).args.length (cK (V iz.toNat) 5))), (69, (iI (((c.blocks.getD k default).ins.getD iz.toNat default).args.length : Int))), (70, (iI 0))] (ql 25 5 (HS.hc d2 (i := 4) rfl) rfl rfl) rfl fun _ => aj (fun (mm : Nat) f H' => ∃ (tw : List U64) (q : Nat) (T : Option Addr) (U : Nat) (bl : Fp) (F' : Fz), Fz.le kg F' ∧ HS (Base.of H []) F' H' [ez, al, hX, a1, ib, bl] R ∧ OS F' (.slice T tw.length U) tw bl ∧ aD f [(4, (.slice b2 av.length cc)), (5, (.slice A ay.length J)), (7, (.pointer (some ⟨c0, 0, none⟩))), (8, (.slice E sw.length N)), (9, (iI iz)), (10, (.pointer (some ⟨em, 0, none⟩))), (11, (.slice T tw.length U)), (26, (.slice Z c.blocks.length ad)), (27, (iI (c.blocks.length : Int))), (28, (iI (k : Int))), (68, (.slice (cA (V iz.toNat) 5) ((c.blocks.getD k default).ins.getD iz.toNat default).args.length (cK (V iz.toNat) 5))), (69, (iI (((c.blocks.getD k default).ins.getD iz.toNat default).args.length : Int))), (70, (iI (q : Int)))] ∧ mm = ((c.blocks.getD k default).ins.getD iz.toNat default).args.length - q ∧ (tw.length = wds c) ∧ (∀ i, aB tw i = ((aB sw i && !decide (i = ((c.blocks.getD k default).ins.getD iz.toNat default).i.a.toNat)) || decide ((i : Int) ∈ ((c.blocks.getD k default).ins.getD iz.toNat default).args.take q))) ∧ (q ≤ ((c.blocks.getD k default).ins.getD iz.toNat default).args.length)) _ ⟨hR, 0, co, c5, hH, _, fR, d2, (OS.norm fi), (agC rfl (agC rfl (agC rfl (agC rfl (agC rfl (agC rfl (agC (show Value.slice co sw.length c5 = Value.slice co hR.length c5 by rw [OS.len' fi]) ⟨rfl, rfl, rfl, rfl, rfl, rfl, trivial⟩))))))), rfl, (by omega), (by exact rem0 (by assumption)), (by omega)⟩ ?_)
     rintro lB l9 lX ⟨tw, q, T, U, bl, lD, b5, b9, c7, hr, rfl, mw, h8, hq⟩ jw
     refine ap _ hr (fun _ => ?_)
     clear hr
     replace hT := (hT.mono dn).mono b5
     replace ag := (ag.mono dn).mono b5
     replace a2 := (a2.mono dn).mono b5
     refine ah 1 rfl (wT 2 [] 71 71 [] [(71, (.bool (decide ((q : Int) < (((c.blocks.getD k default).ins.getD iz.toNat default).args.length : Int)))))] rfl fun _ => am 4 4 (v := (decide ((q : Int) < (((c.blocks.getD k default).ins.getD iz.toNat default).args.length : Int)))) rfl rfl rfl rfl (fun e6 => ?_) (fun e6 => ?_))
     ·
      have hf := e6
      try simp only [BS] at hf
      have har := d3 hca.2.2 (k := q) (by omega)
      obtain ⟨kZ, hB⟩ := Sv.view (SR.sv a2 b9)
      have me := fI (hB q)
      refine wR 1 [(1, .o (iI (((c.blocks.getD k default).ins.getD iz.toNat default).args.getD q 0)))] 72 73 [13] [(13, (iI (((c.blocks.getD k default).ins.getD iz.toNat default).args.getD q 0)))] (vA (Sv.ix (j := (q : Int)) (SR.sv a2 b9) (by omega) (by omega)) (vA (ql 3 0 (vI (hB q) (by omega)) rfl rfl) trivial)) rfl fun _ => aa (wTo 2 0 [] 74 75 [] [(74, (.slice T tw.length U)), (75, (iI (((c.blocks.getD k default).ins.getD iz.toNat default).args.getD q 0)))] rfl fun _ => aA (aq rfl rfl rfl) rfl rfl (mb.add_c ex tw (((c.blocks.getD k default).ins.getD iz.toNat default).args.getD q 0) (HS.callOwn b9 (i := 5) rfl) c7 (by omega) hT (by omega) (by omega)) ?_)
      rintro _ lY ⟨hS, hI, lE, ih, f9, rfl, f0, k4, k9⟩
      replace f9 : HS _ _ _ [_, _, _, _, _, hI] _ := HS.backOwn b9 (i := 5) rfl rfl (fun _ hb => hb) f9
      have lu := OS.len' f0
      refine ae 2 rfl (wU 1 [] 70 70 [77] [(70, (iI ((q : Int) + 1)))] (vi (n := (q : Int) + 1) (by omega)) rfl fun _ => jw _ _ _ ?_ ⟨hS, q + 1, T, U, hI, _, (fT (b5) ih), f9, (OS.norm f0), (agC rfl (agC rfl (agC rfl (agC rfl (agC rfl (agC rfl (agC (show Value.slice T tw.length U = Value.slice T hS.length U by rw [OS.len' f0]) ⟨rfl, rfl, rfl, rfl, rfl, rfl, trivial⟩))))))), rfl, (by omega), (by exact add_f (by omega) h8 har.1 (by assumption)), (by omega)⟩)
      omega
     have hf := e6
     try simp only [BS] at hf
     refine aa (wTo 2 0 [] 78 79 [] [(78, (.slice A ay.length J)), (79, (.slice T tw.length U))] rfl fun _ => ?_)
     obtain ⟨lG, e9, ea, i2, ll⟩ := OS.frz c7 b9 (i := 5) rfl
     have ea : HS _ _ _ [_, _, _, _, _, []] _ := ea
     replace hT := hT.mono e9
     replace ag := ag.mono e9
     refine aA (aq rfl rfl rfl) rfl rfl (mb.fk ex ay tw (HS.callOwn ea (i := 1) rfl) ag i2 hT (by omega) (by omega)) ?_
     rintro _ lZ ⟨ms, hV, hK, lF, ik, go, rfl, f1, k5, la, lc, ld⟩
     replace go : HS _ _ _ [_, hK, _, _, _, _] _ := HS.backOwn ea (i := 1) rfl rfl (fun _ hb => hb) go
     have lv := OS.len' f1
     refine ae 0 rfl ?_
     exact hC _ _ ⟨hV, A, J, hK, _, (fT (fT (fT (dn) b5) e9) ik), (HS.sub go (a03 _ _)), (OS.norm f1), (agC rfl (agC (show Value.slice A ay.length J = Value.slice A hV.length J by rw [OS.len' f1]) ⟨rfl, rfl, rfl, rfl, rfl, rfl, rfl, trivial⟩)), (by omega), (by exact ac_yes (c := c) (b := k) (i := iz.toNat) (q := q) hop it (by rw [show iz.toNat + 1 = (iz + 1).toNat by omega]; exact e4) (show ((c.blocks.getD k default).ins.getD iz.toNat default).args.length ≤ q by omega) h8 (by assumption))⟩
    have es := e5
    try simp only [BS] at es
    have hop := es
    exact hC _ _ ⟨ay, A, J, al, _, fR, f6, ag, ⟨rfl, rfl, rfl, rfl, rfl, rfl, rfl, rfl, rfl, trivial⟩, (by omega), (by exact ac_no (c := c) (b := k) (i := iz.toNat) hop)⟩
   skip
   rintro l8 lT ⟨b3, a8, be, a6, lC, dl, f7, ch, hp, mn, kl⟩
   refine ap _ hp (fun _ => ?_)
   clear hp
   replace hT := hT.mono dl
   replace bb := bb.mono dl
   replace a2 := a2.mono dl
   refine ah 1 rfl (aa (wUo 2 0 [(1, .o g6)] 81 82 [] [(81, (.slice E sw.length N)), (82, g6)] (qn 52 0 6 (HS.hc f7 (i := 4) rfl) rfl rfl rfl rfl) rfl fun _ => aA (aq rfl rfl rfl) rfl rfl (mb.jo ex sw ((c.blocks.getD k default).ins.getD iz.toNat default) (HS.callOwn f7 (i := 3) rfl) bb (by first | (dsimp only; omega) | omega) (by first | (dsimp only; omega) | omega) (by first | (dsimp only; omega) | omega) (by first | (dsimp only; omega) | omega) (by first | (dsimp only; omega) | omega) a2 hT (by first | omega | exact fun x hx => by have := hvl.1 x hx; omega | exact fun x hx => by have := hvl.2.1 x hx; omega) (by first | omega | exact fun x hx => by have := hvl.1 x hx; omega | exact fun x hx => by have := hvl.2.1 x hx; omega) (by first | omega | exact fun x hx => by have := hvl.1 x hx; omega | exact fun x hx => by have := hvl.2.1 x hx; omega) (by first | omega | exact fun x hx => by have := hvl.1 x hx; omega | exact fun x hx => by have := hvl.2.1 x hx; omega)) ?_))
   rintro _ l0 ⟨hW, hM, lH, hj, g1, rfl, f2, k6, lb⟩
   replace g1 : HS _ _ _ [_, a6, _, hM, _] _ := HS.backOwn f7 (i := 3) rfl rfl (fun _ hb => hb) g1
   replace ch := ch.mono hj
   have lw := OS.len' f2
   refine ae 2 rfl (wU 1 [] 48 49 [9] [(9, (iI (iz - 1)))] (vi (n := iz - 1) (by omega)) rfl fun _ => jq _ _ _ ?_ ⟨b3, hW, iz - 1, a8, be, a6, E, N, hM, _, (fT (fT (dk) dl) hj), (HS.sub g1 (a03 _ _)), ch, (OS.norm f2), (agC rfl (agC rfl (agC rfl (agC (show Value.slice E sw.length N = Value.slice E hW.length N by rw [OS.len' f2]) ⟨rfl, rfl, rfl, rfl, trivial⟩)))), rfl, (by omega), (by exact ac_step (by omega) hin h4 kl), (by omega), (by omega), (by rw [show (iz - 1 + 1).toNat = iz.toNat by omega]; exact tr_next hin (by rw [show iz.toNat + 1 = (iz + 1).toNat by omega]; exact e4) (by assumption))⟩)
   omega
  have he := e2
  try simp only [BS] at he
  refine wU 1 [] 28 28 [84] [(28, (iI ((k : Int) + 1)))] (vi (n := (k : Int) + 1) (by omega)) rfl fun _ => jc _ _ _ ?_ ⟨ay, k + 1, A, J, al, _, (fT (fT (b4) dd) dk), (HS.sub b7 (a03 _ _)), ag, ⟨rfl, rfl, rfl, rfl, rfl, trivial⟩, rfl, (by omega), (by exact ac_next (by omega) h4), (by omega)⟩
  omega
 have ha := e0
 try simp only [BS] at ha
 refine aa (wm (.slice a4 aw.length a5) rfl rfl rfl ?_)
 obtain ⟨kX, g3, b0, h1, hY⟩ := OS.frz a9 b6 (i := 1) rfl
 have b0 : HS _ _ _ [_, []] _ := b0
 refine aA (aq rfl rfl rfl) rfl rfl (mb.list_c ex aw (HS.call b0) h1 (hT.mono g3) (by omega)) ?_
 rintro _ l1 ⟨g9, hE, mu, hF, lI, il, a7, rfl, ds, rfl⟩
 replace a7 := HS.back b0 rfl a7
 replace a7 := HS.thawX (M := [hF]) b6 (i := 1) rfl g3 hY il a7
 replace ds := OS.ind (F' := h2) ds
 have a7 : HS _ _ _ [ez, a0, hF] _ := a7
 refine wa (.slice g9 (fB aw).length hE) rfl rfl rfl (ae 1 rfl (ak ⟨.inr rfl, _, rfl, g9, hE, fB aw, hF, _, (fT (fT (fT (g2) hl) c9) b4), (HS.only a7 (i := 2) rfl), rfl, ds, (by exact fun _ => ac_all (by omega) g7), (by exact fun h => absurd (hv.symm.trans h) (by decide))⟩))
end Go.Proofs.YtknafdcgpaejlaaDoor.mg
