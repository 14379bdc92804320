/-
 Live registers: AcrossCalls, by a symbolic run. No condition but bounds on lengths.
-/
import Derived.Test.YtlabedbmgmfbaaaDoorZCMF
noncomputable section
namespace Go.Proofs.YtlabedbmgmfbaaaDoor.mg
open Go.R
set_option maxRecDepth 10000
set_option linter.unusedVariables false
open m1 m2 m3 m4 m5 m6 ma ml mb mc md mf
def acK (c : VFnT) (k r : Nat) : Prop := ∃ b i, b < k ∧ i < (cC c b).ins.length ∧ acI c b i r
theorem call_a {p g : Int} {v : VInT} (h : eu p g v = true) (ho : v.i.op = 6) : 0 ≤ v.i.a ∧ v.i.a < g ∧ ∀ x ∈ v.args, 0 ≤ x ∧ x < g := by
 unfold eu at h
 simp only [Bool.and_eq_true] at h
 obtain ⟨⟨⟨⟨⟨_, A⟩, z⟩, _⟩, _⟩, _⟩ := h
 rw [ho] at z
 have e : (decide (az 6 ≠ 1)) = true := by decide
 rw [e] at z
 have z : m2.aK g v.i.a = true := z
 unfold m2.aK at A z
 simp only [decide_eq_true_eq, List.all_eq_true] at A z
 exact ⟨z.1, z.2, A⟩
theorem rem0 {s w : List U64} {n : Nat} {l : List Int} (h : ∀ i, aq w i = (aq s i && !decide (i = n))) (i : Nat) : aq w i = ((aq s i && !decide (i = n)) || decide ((i : Int) ∈ l.take 0)) := by rw [h]; simp
theorem add_f {f : Nat → Bool} {w w' : List U64} {l : List Int} {k : Nat} (hk : k < l.length) (h : ∀ i, aq w i = (f i || decide ((i : Int) ∈ l.take k))) (h0 : 0 ≤ l.getD k 0) (A : ∀ i, aq w' i = (aq w i || decide (i = (l.getD k 0).toNat))) (i : Nat) : aq w' i = (f i || decide ((i : Int) ∈ l.take (k + 1))) := by
 rw [A, h, dV hk (d := 0), Bool.or_assoc]
 congr 1
 rw [Bool.eq_iff_iff]
 simp only [Bool.or_eq_true, decide_eq_true_eq, List.mem_append, List.mem_singleton]
 constructor
 ·
  rintro (z | z)
  ·
   exact .inl z
  ·
   exact .inr (by omega)
 ·
  rintro (z | z)
  ·
   exact .inl z
  ·
   exact .inr (by omega)
theorem ac_yes {c : VFnT} {b i q : Nat} {s w a a' : List U64} (ho : ((cC c b).ins.getD i default).i.op = 6) (h0 : 0 ≤ ((cC c b).ins.getD i default).i.a) (hs : ∀ r, aq s r = true ↔ ptS c b (i + 1) r) (hq : ((cC c b).ins.getD i default).args.length ≤ q)
  (hw : ∀ r, aq w r = ((aq s r && !decide (r = ((cC c b).ins.getD i default).i.a.toNat)) || decide ((r : Int) ∈ ((cC c b).ins.getD i default).args.take q))) (ha : ∀ r, aq a' r = (aq a r || aq w r)) (r : Nat) : aq a' r = true ↔ (aq a r = true ∨ acI c b i r) := by
 rw [ha, hw, List.take_of_length_le hq]
 simp only [Bool.or_eq_true, Bool.and_eq_true, Bool.not_eq_true', decide_eq_false_iff_not, decide_eq_true_eq, hs]
 unfold acI
 constructor
 ·
  rintro (h | ⟨z, A⟩ | h)
  ·
   exact .inl h
  ·
   exact .inr ⟨ho, .inl ⟨z, by omega⟩⟩
  ·
   exact .inr ⟨ho, .inr h⟩
 ·
  rintro (h | ⟨_, ⟨z, A⟩ | h⟩)
  ·
   exact .inl h
  ·
   exact .inr (.inl ⟨z, by omega⟩)
  ·
   exact .inr (.inr h)
theorem ac_no {c : VFnT} {b i : Nat} {a : List U64} (ho : ((cC c b).ins.getD i default).i.op ≠ 6) (r : Nat) : aq a r = true ↔ (aq a r = true ∨ acI c b i r) := ⟨.inl, fun h => h.elim id fun h => absurd h.1 ho⟩
theorem ac_step {c : VFnT} {b : Nat} {i : Int} {a a' : List U64} (hi : 0 ≤ i) (hn : i.toNat < (cC c b).ins.length) (h : ∀ r, aq a r = true ↔ (acK c b r ∨ ∃ j, (i + 1).toNat ≤ j ∧ j < (cC c b).ins.length ∧ acI c b j r)) (J : ∀ r, aq a' r = true ↔ (aq a r = true ∨ acI c b i.toNat r)) (r : Nat) :
  aq a' r = true ↔ (acK c b r ∨ ∃ j, (i - 1 + 1).toNat ≤ j ∧ j < (cC c b).ins.length ∧ acI c b j r) := by
 rw [J, h]
 constructor
 ·
  rintro ((z | ⟨j, z, E, A⟩) | z)
  ·
   exact .inl z
  ·
   exact .inr ⟨j, by omega, E, A⟩
  ·
   exact .inr ⟨i.toNat, by omega, hn, z⟩
 ·
  rintro (z | ⟨j, z, E, A⟩)
  ·
   exact .inl (.inl z)
  ·
   rcases Nat.lt_or_ge j (i + 1).toNat with hj | hj
   ·
    have : j = i.toNat := by omega
    subst this; exact .inr A
   ·
    exact .inl (.inr ⟨j, hj, E, A⟩)
theorem ac_first {c : VFnT} {b n : Nat} {a : List U64} (hn : (cC c b).ins.length ≤ n) (h : ∀ r, aq a r = true ↔ acK c b r) (r : Nat) : aq a r = true ↔ (acK c b r ∨ ∃ j, n ≤ j ∧ j < (cC c b).ins.length ∧ acI c b j r) := by
 rw [h]
 exact ⟨.inl, fun h => h.elim id fun ⟨j, A, z, _⟩ => absurd z (by omega)⟩
theorem ac_next {c : VFnT} {b : Nat} {i : Int} {a : List U64} (hi : i < 0) (h : ∀ r, aq a r = true ↔ (acK c b r ∨ ∃ j, (i + 1).toNat ≤ j ∧ j < (cC c b).ins.length ∧ acI c b j r)) (r : Nat) : aq a r = true ↔ acK c (b + 1) r := by
 rw [h]
 constructor
 ·
  rintro (⟨b', j, E, z, A⟩ | ⟨j, _, z, A⟩)
  ·
   exact ⟨b', j, by omega, z, A⟩
  ·
   exact ⟨b, j, by omega, z, A⟩
 ·
  rintro ⟨b', j, E, z, A⟩
  rcases Nat.lt_or_ge b' b with hb | hb
  ·
   exact .inl ⟨b', j, hb, z, A⟩
  ·
   have : b' = b := by omega
   subst this
   exact .inr ⟨j, by omega, z, A⟩
theorem ac_zero {c : VFnT} {a : List U64} (h : ∀ i, aq a i = false) (r : Nat) : aq a r = true ↔ acK c 0 r := by
 rw [h]
 exact ⟨fun h => (by cases h), fun ⟨b, _, z, _⟩ => absurd z (Nat.not_lt_zero _)⟩
theorem ac_all {c : VFnT} {a : List U64} {k : Nat} (hk : c.blocks.length = k) (h : ∀ r, aq a r = true ↔ acK c k r) : Lst (eO a) (acS c) := lst_of fun r => by
 rw [h]
 subst hk
 exact Iff.rfl
set_option maxHeartbeats 2000000 in
theorem across_c (ex : FuncId) {Z : Option Addr} {av : Nat} (c : VFnT) {F : Fz} {H : Heap} {R : List Fp} (hs : HS (.of H []) F H [] R) (lE : in64 c.params) (lF : in64 c.regs) (a3 : SR F (.slice Z c.blocks.length av) c.blocks) (hT : TB 37 tabC F) (hins : ∀ j, (c.blocks.getD j default).ins.length ≤ 1073741824) : C Tryd.prog 1 (KT 60 ex 37 tabC) 23 [(.agg ⟨[(iI c.params), (iI c.regs), (.slice Z c.blocks.length av)]⟩)] H fun v H' => ∃ (ar : Option Addr) (kr : Nat) (r : List Int) (p : Fp) (F' : Fz), Fz.le F F' ∧ HS (.of H []) F' H' [p] R ∧ v = .slice ar r.length kr ∧ OS F' (.slice ar r.length kr) r p ∧ (b8 c = true → Lst r (acS c)) ∧ (b8 c = false → r = []) := by
 refine aG Tryd.func23 rfl rfl ?_
 refine aj 1 rfl ?_
 refine aa ?_
 refine aF (bB hs rfl rfl) rfl rfl ?_
 rintro _ H2 _ ⟨b1, rfl, fi, _⟩
 let d3 : Fp := [(b1, .cells [(iI c.params), (iI c.regs), (.slice Z c.blocks.length av)] none false)]
 have fi : HS _ _ _ [d3] _ := fi
 refine wa (.slice none 0 0) rfl rfl rfl ?_
 refine ae 3 rfl ?_
 refine aa ?_
 let g5 : Value := (.agg ⟨[(iI c.params), (iI c.regs), (.slice Z c.blocks.length av)]⟩)
 refine wRo 1 0 [(0, .o g5)] 14 14 [] [(14, g5)] (vA (qn 24 0 3 (HS.hc fi (i := 0) rfl) rfl rfl rfl rfl) trivial) rfl fun _ => ?_
 refine aA (ah rfl rfl rfl) rfl rfl (m3.valid_c ex c (HS.call fi) (by omega) (by omega) a3 hT (by exact fun j => Nat.le_trans (hins j) (by omega))) ?_
 rintro _ H4 ⟨r4, F4, g3, b6, rfl, rfl⟩
 replace b6 := HS.back fi rfl b6
 have b6 : HS _ _ _ [_] _ := b6
 replace hT := hT.mono g3
 replace a3 := a3.mono g3
 refine wRo 1 2 [] 16 16 [] [(16, (.bool (!(b8 c))))] trivial rfl fun _ => ?_
 refine ae 1 rfl ?_
 refine ak 1 2 (v := (!(b8 c))) rfl rfl rfl rfl (fun c6 => ?_) (fun c6 => ?_)
 ·
  try simp only [BS] at c6
  have hv := c6
  refine wR 1 [] 2 2 [] [(2, (.slice none 0 0))] trivial rfl fun _ => ?_
  refine ag ⟨.inr rfl, _, rfl, none, 0, ([] : List Int), [], _, (g3), (HS.cons (HS.forget b6)), rfl, (OS.nil : OS _ _ _ []), (by first | exact fun h => absurd (h.symm.trans hv) (by decide) | exact fun _ => ac_all (by omega) g7), (by first | exact fun _ => rfl | exact fun h => absurd (hv.symm.trans h) (by decide))⟩
 ·
  try simp only [BS] at c6
  have hv := c6
  have vF := jF hv
  have hnb := vF.nb
  have hrg := vF.regs
  have hwd := wd_le vF.regs
  refine aa ?_
  refine wRo 1 0 [(0, .o g5)] 18 18 [] [(18, g5)] (vA (qn 24 0 3 (HS.hc b6 (i := 0) rfl) rfl rfl rfl rfl) trivial) rfl fun _ => ?_
  refine aA (ah rfl rfl rfl) rfl rfl (mc.jC ex c (HS.call b6) (by omega) (by omega) a3 hT (by first | assumption | exact fun j => Nat.le_trans (hins j) (by omega)) (by first | assumption | exact fun j => Nat.le_trans (hins j) (by omega))) ?_
  rintro _ H9 ⟨k0, lK, mH, cc, dl, U, F9, hl, dk, rfl, ky, b7, h9⟩
  replace dk := HS.back b6 rfl dk
  have dk : HS _ _ _ [_] _ := dk
  replace hT := hT.mono hl
  refine wRo 5 2 [] 20 21 [3, 4, 17] [(4, (.slice cc U.length dl))] trivial rfl fun _ => ?_
  refine ae 2 rfl ?_
  have an := (by assumption : AnF c _ _)
  have hli := an.li
  have hlo := an.lo
  refine aa ?_
  refine wRo 2 0 [(1, .o (iI c.regs))] 22 23 [] [(23, (iI c.regs))] (vA (ql 3 1 (HS.hc dk (i := 0) rfl) rfl rfl) trivial) rfl fun _ => ?_
  refine aA (ah rfl rfl rfl) rfl rfl (mb.empty_c ex c.regs (HS.call dk) (by omega) hT (by omega)) ?_
  rintro _ l0 ⟨g8, hC, mL, h6, ja, ea, b0, rfl, h1, rfl⟩
  replace b0 := HS.back dk rfl b0
  have b0 : HS _ _ _ [_, h6] _ := b0
  refine wa (.slice g8 (List.replicate (Int.tdiv (c.regs + 63) 64).toNat (⟨0⟩ : U64)).length hC) rfl rfl rfl ?_
  refine ae 3 rfl ?_
  refine wR 2 [(1, .o (.slice Z c.blocks.length av))] 25 28 [] [(26, (.slice Z c.blocks.length av)), (27, (iI (c.blocks.length : Int))), (28, (iI 0))] (vA (ql 22 2 (HS.hc b0 (i := 0) rfl) rfl rfl) trivial) rfl fun _ => ?_
  refine ap (fun (mm : Nat) f H' => ∃ (aw : List U64) (k : Nat) (a4 : Option Addr) (a5 : Nat) (ay : Fp) (F' : Fz), Fz.le ja F' ∧ HS (Base.of H []) F' H' [d3, ay] R ∧ OS F' (.slice a4 aw.length a5) aw ay ∧ aI f [(2, (.slice none 0 0)), (4, (.slice cc U.length dl)), (5, (.slice a4 aw.length a5)), (26, (.slice Z c.blocks.length av)), (27, (iI (c.blocks.length : Int))), (28, (iI (k : Int)))] ∧ mm = c.blocks.length - k ∧ (aw.length = wds c) ∧ (∀ r, aq aw r = true ↔ acK c k r) ∧ (k ≤ c.blocks.length)) _ ⟨List.replicate (Int.tdiv (c.regs + 63) 64).toNat (⟨0⟩ : U64), 0, g8, hC, h6, _, fR, b0, h1, (agC rfl (agC rfl (agC rfl (agC rfl (agC rfl (agC rfl agN)))))), rfl, (by first | omega | (rw [List.length_replicate]; omega) | simp [wds]), (by exact ac_zero (fun i => bit_rep _ _)), (by first | assumption | omega | (simp at *; omega))⟩ ?_
  rintro lQ mC l1 ⟨aw, k, a4, a5, ay, h3, ci, co, bb, hn, rfl, mA, g7, hk⟩ i1
  refine au _ hn (fun _ => ?_)
  clear hn
  replace hT := (hT.mono ea).mono ci
  replace a3 := ((a3.mono hl).mono ea).mono ci
  replace b7 := (b7.mono ea).mono ci
  refine aj 1 rfl ?_
  refine wR 2 [] 29 29 [] [(29, (.bool (decide ((k : Int) < (c.blocks.length : Int)))))] trivial rfl fun _ => ?_
  refine ak 4 5 (v := (decide ((k : Int) < (c.blocks.length : Int)))) rfl rfl rfl rfl (fun ha => ?_) (fun ha => ?_)
  ·
   try simp only [BS] at ha
   have hbn : k < c.blocks.length := by omega
   have hfn : ((c.blocks.getD k default).fin = 2 ∨ (c.blocks.getD k default).fin = 3) → 0 ≤ (c.blocks.getD k default).reg ∧ (c.blocks.getD k default).reg < c.regs := vF.fin k hbn
   have hbl := hins k
   have hwo := an.wo k hbn
   have lJ : (U.getD k []).length = wds c := hwo
   refine aa ?_
   obtain ⟨a2, hu⟩ := Sv.view (SR.sv a3 co)
   obtain ⟨j2, kc, kd, ki, bz⟩ := BlkT.fx (hu k)
   let a7 : Value := (.agg ⟨[(.slice (cA (a2 k) 0) (c.blocks.getD k default).ins.length (cK (a2 k) 0)), (iI (c.blocks.getD k default).fin), (iI (c.blocks.getD k default).reg), (iI (c.blocks.getD k default).tgt), (iI (c.blocks.getD k default).els)]⟩)
   refine wRo 3 0 [(2, .o a7)] 30 32 [] [(30, (iI (k : Int))), (32, a7)] (vA (Sv.ix (j := (k : Int)) (SR.sv a3 co) (by omega) (by omega)) (vA (qn 42 0 5 (BlkT.vw (hu k) (by omega)) rfl rfl rfl rfl) trivial)) rfl fun _ => ?_
   refine aF (bE co rfl) rfl rfl ?_
   rintro _ l2 _ ⟨e6, rfl, f9, _⟩
   have f9 : HS _ _ _ [_, ay, [(e6, .cells [(.slice none 0 0), (iI 0), (iI 0), (iI 0), (iI 0)] none false)]] _ := f9
   refine wa (iI (k : Int)) rfl rfl rfl ?_
   refine aM (aD (q := 2) f9 rfl rfl rfl rfl rfl rfl rfl rfl rfl) rfl ?_
   rintro _ l3 _ ⟨go, _⟩
   let g6 : Fp := [(e6, .cells [(.slice (cA (a2 k) 0) (c.blocks.getD k default).ins.length (cK (a2 k) 0)), (iI (c.blocks.getD k default).fin), (iI (c.blocks.getD k default).reg), (iI (c.blocks.getD k default).tgt), (iI (c.blocks.getD k default).els)] none false)]
   have go : HS _ _ _ [_, _, g6] _ := go
   refine ae 2 rfl ?_
   refine aa ?_
   refine aF (bA (α := U64) (ps := []) (cells := []) ([] : List U64) go rfl rfl rfl (by kernel_rfl) rfl rfl) rfl rfl ?_
   rintro _ l4 jw ⟨my, mJ, rfl, il, b2, _⟩
   have b2 : HS _ _ _ [_, _, _, jw] _ := b2
   obtain ⟨ad, hw⟩ := Sv.view (SR.sv b7 b2)
   have j1 := fL (hw k)
   refine wRo 4 1 [(4, .o (.slice (cA (ad k) 0) (U.getD k default).length (cK (ad k) 0)))] 34 37 [] [(37, (.slice (cA (ad k) 0) (U.getD k default).length (cK (ad k) 0)))] (vA (Sv.ix (j := (k : Int)) (SR.sv b7 b2) (by omega) (by omega)) (vA (ql 83 0 (vL (hw k) (by omega)) rfl rfl) trivial)) rfl fun _ => ?_
   refine aF (bW (α := U64) (q := 3) il b2 rfl rfl rfl (SR.sv j1 b2) rfl rfl rfl rfl rfl rfl rfl (by first | omega | (simp only [List.length_append, List.length_cons, List.length_nil]; omega))) rfl rfl ?_
   rintro _ l5 h7 ⟨ds, dv, rfl, f6, c0, _⟩
   have c0 : HS _ _ _ [_, _, _, h7] _ := c0
   have f6 : OS h3 (.slice ds (U.getD k default).length dv) (U.getD k default) h7 := f6
   refine wa (.slice ds (U.getD k default).length dv) rfl rfl rfl ?_
   refine ae 2 rfl ?_
   refine aa ?_
   refine wRo 2 0 [(1, .o a7)] 39 40 [] [(39, (.slice ds (U.getD k default).length dv)), (40, a7)] (vA (qn 42 0 5 (HS.hc c0 (i := 2) rfl) rfl rfl rfl rfl) trivial) rfl fun _ => ?_
   refine aA (ah rfl rfl rfl) rfl rfl (mb.addT_c ex (U.getD k default) (c.blocks.getD k default) (HS.callOwn c0 (i := 3) rfl) f6 bz (by omega) (by omega) (by omega) (by omega) hT (by first | omega | exact fun hf => by have := hfn hf; omega) (by first | omega | exact fun hf => by have := hfn hf; omega)) ?_
   rintro _ l6 ⟨hQ, hF, jb, em, b3, rfl, f1, k5, la⟩
   replace b3 := HS.backOwn c0 (i := 3) rfl rfl (fun _ hb => hb) b3
   have b3 : HS _ _ _ [_, _, _, hF] _ := b3
   replace bb := bb.mono em
   have lL := OS.len' f1
   refine ae 2 rfl ?_
   refine wR 2 [(1, .o (.slice (cA (a2 k) 0) (c.blocks.getD k default).ins.length (cK (a2 k) 0)))] 42 45 [9] [(9, (iI (((c.blocks.getD k default).ins.length : Int) - 1)))] (vA (ql 40 0 (HS.hc b3 (i := 2) rfl) rfl rfl) (vA (vi (n := ((c.blocks.getD k default).ins.length : Int) - 1) (by omega)) trivial)) rfl fun _ => ?_
   refine ap (fun (mm : Nat) f H' => ∃ (ax : List U64) (sw : List U64) (iz : Int) (E : Option Addr) (J : Nat) (Y : Fp) (z : Option Addr) (A : Nat) (a0 : Fp) (F' : Fz), Fz.le jb F' ∧ HS (Base.of H []) F' H' [d3, Y, g6, a0] R ∧ OS F' (.slice E ax.length J) ax Y ∧ OS F' (.slice z sw.length A) sw a0 ∧ aI f [(2, (.slice none 0 0)), (4, (.slice cc U.length dl)), (5, (.slice E ax.length J)), (6, (iI (k : Int))), (7, (.pointer (some ⟨e6, 0, none⟩))), (8, (.slice z sw.length A)), (9, (iI iz)), (26, (.slice Z c.blocks.length av)), (27, (iI (c.blocks.length : Int))), (28, (iI (k : Int))), (29, (.bool (decide ((k : Int) < (c.blocks.length : Int))))), (30, (iI (k : Int))), (32, a7), (37, (.slice (cA (ad k) 0) (U.getD k default).length (cK (ad k) 0))), (40, a7)] ∧ mm = (iz + 1).toNat ∧ (ax.length = wds c) ∧ (∀ r, aq ax r = true ↔ (acK c k r ∨ ∃ j, (iz + 1).toNat ≤ j ∧ j < (c.blocks.getD k default).ins.length ∧ acI c k j r)) ∧ (sw.length = wds c) ∧ (-1 ≤ iz ∧ iz < ((c.blocks.getD k default).ins.length : Int)) ∧ (∀ r, aq sw r = true ↔ ptS c k (iz + 1).toNat r)) _ ⟨aw, hQ, ((c.blocks.getD k default).ins.length : Int) - 1, a4, a5, ay, ds, dv, hF, _, fR, b3, bb, (OS.norm f1), (agC rfl (agC rfl (agC rfl (agC rfl (agC rfl (agC (show Value.slice ds (U.getD k default).length dv = Value.slice ds hQ.length dv by rw [OS.len' f1]) (agC rfl (agC rfl (agC rfl (agC rfl (agC rfl (agC rfl (agC rfl (agC rfl (agC rfl agN))))))))))))))), rfl, (by omega), (by exact ac_first (show (c.blocks.getD k default).ins.length ≤ _ by first | omega | (dsimp only; omega)) g7), (by omega), (by first | assumption | omega | (simp at *; omega)), (by exact kJ (show (c.blocks.getD k default).ins.length ≤ _ by first | omega | (dsimp only; omega)) (an.ho _ hbn) (by assumption))⟩ ?_
   rintro lR mD l7 ⟨ax, sw, iz, E, J, Y, z, A, a0, h4, es, c3, V, bk, hp, rfl, mB, h5, e1, e3, e4⟩ i2
   refine au _ hp (fun _ => ?_)
   clear hp
   replace hT := (hT.mono em).mono es
   replace bz := (bz.mono em).mono es
   refine aj 2 rfl ?_
   refine wR 1 [] 46 47 [] [(47, (.bool (decide ((0 : Int) ≤ iz))))] trivial rfl fun _ => ?_
   refine ak 4 5 (v := (decide ((0 : Int) ≤ iz))) rfl rfl rfl rfl (fun he => ?_) (fun he => ?_)
   ·
    try simp only [BS] at he
    have hin : iz.toNat < (c.blocks.getD k default).ins.length := by omega
    have hvv := vF.ins k hbn iz.toNat hin
    have hvl : (∀ x ∈ aW ((c.blocks.getD k default).ins.getD iz.toNat default), 0 ≤ x ∧ x < c.regs) ∧ (∀ x ∈ aN ((c.blocks.getD k default).ins.getD iz.toNat default), 0 ≤ x ∧ x < c.regs) ∧ ((c.blocks.getD k default).ins.getD iz.toNat default).args.length ≤ 6 := cE hvv
    have lI := hvl.2.2
    refine aa ?_
    obtain ⟨al, hz⟩ := Sv.view (SR.sv bz c3)
    obtain ⟨kk, kl, kn, kt, kx, a1⟩ := VInT.fx (hz iz.toNat)
    let d4 : Value := (.agg ⟨[(iI ((c.blocks.getD k default).ins.getD iz.toNat default).i.op), (iI ((c.blocks.getD k default).ins.getD iz.toNat default).i.a), (iI ((c.blocks.getD k default).ins.getD iz.toNat default).i.b), (iI ((c.blocks.getD k default).ins.getD iz.toNat default).i.c), (iI ((c.blocks.getD k default).ins.getD iz.toNat default).i.n), (.slice (cA (al iz.toNat) 5) ((c.blocks.getD k default).ins.getD iz.toNat default).args.length (cK (al iz.toNat) 5))]⟩)
    refine wRo 5 0 [(1, .o (.slice (cA (a2 k) 0) (c.blocks.getD k default).ins.length (cK (a2 k) 0))), (4, .o d4)] 50 54 [] [(54, d4)] (vA (ql 40 0 (HS.hc c3 (i := 2) rfl) rfl rfl) (vA (Sv.ix (j := iz) (SR.sv bz c3) (by omega) (by omega)) (vA (qn 47 0 6 (VInT.vw (hz iz.toNat) (by omega)) rfl rfl rfl rfl) trivial))) rfl fun _ => ?_
    refine aF (bE c3 rfl) rfl rfl ?_
    rintro _ l8 _ ⟨g2, rfl, g0, _⟩
    have g0 : HS _ _ _ [_, Y, _, a0, [(g2, .cells [(iI 0), (iI 0), (iI 0), (iI 0), (iI 0), (.slice none 0 0)] none false)]] _ := g0
    refine aM (aD (q := 4) g0 rfl rfl rfl rfl rfl rfl rfl rfl rfl) rfl ?_
    rintro _ l9 _ ⟨c4, _⟩
    let hX : Fp := [(g2, .cells [(iI ((c.blocks.getD k default).ins.getD iz.toNat default).i.op), (iI ((c.blocks.getD k default).ins.getD iz.toNat default).i.a), (iI ((c.blocks.getD k default).ins.getD iz.toNat default).i.b), (iI ((c.blocks.getD k default).ins.getD iz.toNat default).i.c), (iI ((c.blocks.getD k default).ins.getD iz.toNat default).i.n), (.slice (cA (al iz.toNat) 5) ((c.blocks.getD k default).ins.getD iz.toNat default).args.length (cK (al iz.toNat) 5))] none false)]
    have c4 : HS _ _ _ [_, _, _, _, hX] _ := c4
    refine ae 3 rfl ?_
    refine wR 1 [(2, .o (iI ((c.blocks.getD k default).ins.getD iz.toNat default).i.op))] 55 58 [] [(58, (.bool (((c.blocks.getD k default).ins.getD iz.toNat default).i.op == 6)))] (vA (ql 3 0 (HS.hc c4 (i := 4) rfl) rfl rfl) trivial) rfl fun _ => ?_
    refine bP (fun f H' => ∃ (ch : List U64) (a9 : Option Addr) (bl : Nat) (a6 : Fp) (F' : Fz), Fz.le h4 F' ∧ HS (Base.of H []) F' H' [d3, a6, g6, a0, hX] R ∧ OS F' (.slice a9 ch.length bl) ch a6 ∧ aI f [(2, (.slice none 0 0)), (4, (.slice cc U.length dl)), (5, (.slice a9 ch.length bl)), (6, (iI (k : Int))), (7, (.pointer (some ⟨e6, 0, none⟩))), (8, (.slice z sw.length A)), (9, (iI iz)), (10, (.pointer (some ⟨g2, 0, none⟩))), (26, (.slice Z c.blocks.length av)), (27, (iI (c.blocks.length : Int))), (28, (iI (k : Int))), (29, (.bool (decide ((k : Int) < (c.blocks.length : Int))))), (30, (iI (k : Int))), (32, a7), (37, (.slice (cA (ad k) 0) (U.getD k default).length (cK (ad k) 0))), (40, a7), (47, (.bool (decide ((0 : Int) ≤ iz)))), (54, d4), (58, (.bool (((c.blocks.getD k default).ins.getD iz.toNat default).i.op == 6)))] ∧ (ch.length = wds c) ∧ (∀ r, aq ch r = true ↔ (aq ax r = true ∨ acI c k iz.toNat r))) (fun hB => ?_) ?_
    ·
     refine ak 1 0 (v := (((c.blocks.getD k default).ins.getD iz.toNat default).i.op == 6)) rfl rfl rfl rfl (fun fd => ?_) (fun fd => ?_)
     ·
      try simp only [BS] at fd
      have hop := fd
      have hca : 0 ≤ ((c.blocks.getD k default).ins.getD iz.toNat default).i.a ∧ ((c.blocks.getD k default).ins.getD iz.toNat default).i.a < c.regs ∧ ∀ x ∈ ((c.blocks.getD k default).ins.getD iz.toNat default).args, 0 ≤ x ∧ x < c.regs := call_a hvv hop
      have hm := hca.1
      have lG := hca.2.1
      refine aa ?_
      refine aF (bA (α := U64) (ps := []) (cells := []) ([] : List U64) c4 rfl rfl rfl (by kernel_rfl) rfl rfl) rfl rfl ?_
      rintro _ mn j0 ⟨mz, mK, rfl, it, e2, _⟩
      have e2 : HS _ _ _ [_, _, _, _, _, j0] _ := e2
      refine wm (.slice z sw.length A) rfl rfl rfl ?_
      refine aF (bW (α := U64) (q := 5) it e2 rfl rfl rfl (OS.sv bk e2 (i := 3) rfl) rfl rfl rfl rfl rfl rfl rfl (by first | omega | (simp only [List.length_append, List.length_cons, List.length_nil]; omega))) rfl rfl ?_
      rintro _ mp h8 ⟨dt, d1, rfl, f7, c5, _⟩
      have c5 : HS _ _ _ [_, _, _, _, _, h8] _ := c5
      have f7 : OS h4 (.slice dt sw.length d1) sw h8 := f7
      refine wa (.slice dt sw.length d1) rfl rfl rfl ?_
      refine ae 2 rfl ?_
      refine aa ?_
      refine wRo 4 0 [(3, .o (iI ((c.blocks.getD k default).ins.getD iz.toNat default).i.a))] 62 65 [] [(62, (.slice dt sw.length d1)), (65, (iI ((c.blocks.getD k default).ins.getD iz.toNat default).i.a))] (vA (ql 3 1 (HS.hc c5 (i := 4) rfl) rfl rfl) trivial) rfl fun _ => ?_
      refine aA (ah rfl rfl rfl) rfl rfl (mb.rem_c ex sw ((c.blocks.getD k default).ins.getD iz.toNat default).i.a (HS.callOwn c5 (i := 5) rfl) f7 (by omega) hT (by omega) (by omega)) ?_
      rintro _ mq ⟨hR, hG, jc, ez, b4, rfl, f2, k6, lr⟩
      replace b4 := HS.backOwn c5 (i := 5) rfl rfl (fun _ hb => hb) b4
      have b4 : HS _ _ _ [_, _, _, _, _, hG] _ := b4
      have lM := OS.len' f2
      refine ae 3 rfl ?_
      refine wR 2 [(1, .o (.slice (cA (al iz.toNat) 5) ((c.blocks.getD k default).ins.getD iz.toNat default).args.length (cK (al iz.toNat) 5)))] 67 70 [] [(68, (.slice (cA (al iz.toNat) 5) ((c.blocks.getD k default).ins.getD iz.toNat default).args.length (cK (al iz.toNat) 5))), (69, (iI (((c.blocks.getD k default).ins.getD iz.toNat default).args.length : Int))), (70, (iI 0))] (vA (ql 25 5 (HS.hc b4 (i := 4) rfl) rfl rfl) trivial) rfl fun _ => ?_
      refine ap (fun (mm : Nat) f H' => ∃ (tw : List U64) (q : Nat) (N : Option Addr) (T : Nat) (b5 : Fp) (F' : Fz), Fz.le jc F' ∧ HS (Base.of H []) F' H' [d3, Y, g6, a0, hX, b5] R ∧ OS F' (.slice N tw.length T) tw b5 ∧ aI f [(2, (.slice none 0 0)), (4, (.slice cc U.length dl)), (5, (.slice E ax.length J)), (6, (iI (k : Int))), (7, (.pointer (some ⟨e6, 0, none⟩))), (8, (.slice z sw.length A)), (9, (iI iz)), (10, (.pointer (some ⟨g2, 0, none⟩))), (11, (.slice N tw.length T)), (26, (.slice Z c.blocks.length av)), (27, (iI (c.blocks.length : Int))), (28, (iI (k : Int))), (29, (.bool (decide ((k : Int) < (c.blocks.length : Int))))), (30, (iI (k : Int))), (32, a7), (37, (.slice (cA (ad k) 0) (U.getD k default).length (cK (ad k) 0))), (40, a7), (47, (.bool (decide ((0 : Int) ≤ iz)))), (54, d4), (58, (.bool (((c.blocks.getD k default).ins.getD iz.toNat default).i.op == 6))), (60, (.slice z sw.length A)), (65, (iI ((c.blocks.getD k default).ins.getD iz.toNat default).i.a)), (68, (.slice (cA (al iz.toNat) 5) ((c.blocks.getD k default).ins.getD iz.toNat default).args.length (cK (al iz.toNat) 5))), (69, (iI (((c.blocks.getD k default).ins.getD iz.toNat default).args.length : Int))), (70, (iI (q : Int)))] ∧ mm = ((c.blocks.getD k default).ins.getD iz.toNat default).args.length - q ∧ (tw.length = wds c) ∧ (∀ i, aq tw i = ((aq sw i && !decide (i = ((c.blocks.getD k default).ins.getD iz.toNat default).i.a.toNat)) || decide ((i : Int) ∈ ((c.blocks.getD k default).ins.getD iz.toNat default).args.take q))) ∧ (q ≤ ((c.blocks.getD k default).ins.getD iz.toNat default).args.length)) _ ⟨hR, 0, dt, d1, hG, _, fR, b4, (OS.norm f2), (agC rfl (agC rfl (agC rfl (agC rfl (agC rfl (agC rfl (agC rfl (agC rfl (agC (show Value.slice dt sw.length d1 = Value.slice dt hR.length d1 by rw [OS.len' f2]) (agC rfl (agC rfl (agC rfl (agC rfl (agC rfl (agC rfl (agC rfl (agC rfl (agC rfl (agC rfl (agC rfl (agC rfl (agC rfl (agC rfl (agC rfl (agC rfl agN))))))))))))))))))))))))), rfl, (by omega), (by exact rem0 (by assumption)), (by first | assumption | omega | (simp at *; omega))⟩ ?_
      rintro lS mF mr ⟨tw, q, N, T, b5, lU, cl, c7, d2, ht, rfl, mO, hM, hq⟩ i3
      refine au _ ht (fun _ => ?_)
      clear ht
      replace hT := (hT.mono ez).mono cl
      replace V := (V.mono ez).mono cl
      replace a1 := (a1.mono ez).mono cl
      refine aj 1 rfl ?_
      refine wR 2 [] 71 71 [] [(71, (.bool (decide ((q : Int) < (((c.blocks.getD k default).ins.getD iz.toNat default).args.length : Int)))))] trivial rfl fun _ => ?_
      refine ak 4 4 (v := (decide ((q : Int) < (((c.blocks.getD k default).ins.getD iz.toNat default).args.length : Int)))) rfl rfl rfl rfl (fun hg => ?_) (fun hg => ?_)
      ·
       try simp only [BS] at hg
       have har := lim_at hca.2.2 (k := q) (by omega)
       obtain ⟨k4, hA⟩ := Sv.view (SR.sv a1 c7)
       have mG := fI (hA q)
       refine wR 1 [(1, .o (iI (((c.blocks.getD k default).ins.getD iz.toNat default).args.getD q 0)))] 72 73 [13] [(13, (iI (((c.blocks.getD k default).ins.getD iz.toNat default).args.getD q 0)))] (vA (Sv.ix (j := (q : Int)) (SR.sv a1 c7) (by omega) (by omega)) (vA (ql 3 0 (vI (hA q) (by omega)) rfl rfl) trivial)) rfl fun _ => ?_
       refine aa ?_
       refine wRo 2 0 [] 74 75 [] [(74, (.slice N tw.length T)), (75, (iI (((c.blocks.getD k default).ins.getD iz.toNat default).args.getD q 0)))] trivial rfl fun _ => ?_
       refine aA (ah rfl rfl rfl) rfl rfl (mb.add_c ex tw (((c.blocks.getD k default).ins.getD iz.toNat default).args.getD q 0) (HS.callOwn c7 (i := 5) rfl) d2 (by omega) hT (by omega) (by omega)) ?_
       rintro _ ms ⟨hS, hH, lV, ih, c8, rfl, f3, k7, lv⟩
       replace c8 := HS.backOwn c7 (i := 5) rfl rfl (fun _ hb => hb) c8
       have c8 : HS _ _ _ [_, _, _, _, _, hH] _ := c8
       have lN := OS.len' f3
       refine ae 2 rfl ?_
       refine wR 1 [] 70 70 [77] [(70, (iI ((q : Int) + 1)))] (vA (vi (n := (q : Int) + 1) (by omega)) trivial) rfl fun _ => ?_
       refine i3 _ _ _ ?_ ⟨hS, q + 1, N, T, hH, _, (fT (cl) ih), c8, (OS.norm f3), (agC rfl (agC rfl (agC rfl (agC rfl (agC rfl (agC rfl (agC rfl (agC rfl (agC (show Value.slice N tw.length T = Value.slice N hS.length T by rw [OS.len' f3]) (agC rfl (agC rfl (agC rfl (agC rfl (agC rfl (agC rfl (agC rfl (agC rfl (agC rfl (agC rfl (agC rfl (agC rfl (agC rfl (agC rfl (agC rfl (agC rfl agN))))))))))))))))))))))))), rfl, (by omega), (by exact add_f (by omega) hM har.1 (by assumption)), (by first | assumption | omega | (simp at *; omega))⟩
       omega
      ·
       try simp only [BS] at hg
       refine aa ?_
       refine wRo 2 0 [] 78 79 [] [(78, (.slice E ax.length J)), (79, (.slice N tw.length T))] trivial rfl fun _ => ?_
       obtain ⟨lX, f0, e5, iv, lH⟩ := OS.frz d2 c7 (i := 5) rfl
       have e5 : HS _ _ _ [_, _, _, _, _, []] _ := e5
       replace hT := hT.mono f0
       replace V := V.mono f0
       refine aA (ah rfl rfl rfl) rfl rfl (mb.ev ex ax tw (HS.callOwn e5 (i := 1) rfl) V iv hT (by omega) (by omega)) ?_
       rintro _ mu ⟨mM, hV, hI, lW, ii, c9, rfl, f4, k8, lA, lC, lD⟩
       replace c9 := HS.backOwn e5 (i := 1) rfl rfl (fun _ hb => hb) c9
       have c9 : HS _ _ _ [_, hI, _, _, _, _] _ := c9
       have lO := OS.len' f4
       refine ae 0 rfl ?_
       exact hB _ _ ⟨hV, E, J, hI, _, (fT (fT (fT (ez) cl) f0) ii), (HS.sub c9 (List.sublist_append_left _ _)), (OS.norm f4), (agC rfl (agC rfl (agC (show Value.slice E ax.length J = Value.slice E hV.length J by rw [OS.len' f4]) (agC rfl (agC rfl (agC rfl (agC rfl (agC rfl (agC rfl (agC rfl (agC rfl (agC rfl (agC rfl (agC rfl (agC rfl (agC rfl (agC rfl (agC rfl (agC rfl agN))))))))))))))))))), (by first | omega | assumption), (by first | exact ac_yes (c := c) (b := k) (i := iz.toNat) (q := q) hop hm (by rw [show iz.toNat + 1 = (iz + 1).toNat by omega]; exact e4) (show ((c.blocks.getD k default).ins.getD iz.toNat default).args.length ≤ q by omega) hM (by assumption) | exact ac_no (c := c) (b := k) (i := iz.toNat) hop)⟩
     ·
      try simp only [BS] at fd
      have hop := fd
      exact hB _ _ ⟨ax, E, J, Y, _, fR, c4, V, (agC rfl (agC rfl (agC rfl (agC rfl (agC rfl (agC rfl (agC rfl (agC rfl (agC rfl (agC rfl (agC rfl (agC rfl (agC rfl (agC rfl (agC rfl (agC rfl (agC rfl (agC rfl (agC rfl agN))))))))))))))))))), (by first | omega | assumption), (by first | exact ac_yes (c := c) (b := k) (i := iz.toNat) (q := q) hop hm (by rw [show iz.toNat + 1 = (iz + 1).toNat by omega]; exact e4) (show ((c.blocks.getD k default).ins.getD iz.toNat default).args.length ≤ q by omega) hM (by assumption) | exact ac_no (c := c) (b := k) (i := iz.toNat) hop)⟩
    ·
     rintro mE mk ⟨ch, a9, bl, a6, lT, et, g1, dn, hr, mI, jq⟩
     refine au _ hr (fun _ => ?_)
     clear hr
     replace hT := hT.mono et
     replace bk := bk.mono et
     replace a1 := a1.mono et
     refine aj 1 rfl ?_
     refine aa ?_
     refine wRo 2 0 [(1, .o d4)] 81 82 [] [(81, (.slice z sw.length A)), (82, d4)] (vA (qn 47 0 6 (HS.hc g1 (i := 4) rfl) rfl rfl rfl rfl) trivial) rfl fun _ => ?_
     refine aA (ah rfl rfl rfl) rfl rfl (mb.gE ex sw ((c.blocks.getD k default).ins.getD iz.toNat default) (HS.callOwn g1 (i := 3) rfl) bk (by omega) (by omega) (by omega) (by omega) (by omega) a1 hT (by first | omega | exact fun x hx => by have := hvl.1 x hx; omega | exact fun x hx => by have := hvl.2.1 x hx; omega) (by first | omega | exact fun x hx => by have := hvl.1 x hx; omega | exact fun x hx => by have := hvl.2.1 x hx; omega) (by first | omega | exact fun x hx => by have := hvl.1 x hx; omega | exact fun x hx => by have := hvl.2.1 x hx; omega) (by first | omega | exact fun x hx => by have := hvl.1 x hx; omega | exact fun x hx => by have := hvl.2.1 x hx; omega)) ?_
     rintro _ mw ⟨hW, hK, lY, hj, dd, rfl, f5, k9, lB⟩
     replace dd := HS.backOwn g1 (i := 3) rfl rfl (fun _ hb => hb) dd
     have dd : HS _ _ _ [_, a6, _, hK, _] _ := dd
     replace dn := dn.mono hj
     have lP := OS.len' f5
     refine ae 2 rfl ?_
     refine wR 1 [] 48 49 [9] [(9, (iI (iz - 1)))] (vA (vi (n := iz - 1) (by omega)) trivial) rfl fun _ => ?_
     refine i2 _ _ _ ?_ ⟨ch, hW, iz - 1, a9, bl, a6, z, A, hK, _, (fT (fT (es) et) hj), (HS.sub dd (List.sublist_append_left _ _)), dn, (OS.norm f5), (agC rfl (agC rfl (agC rfl (agC rfl (agC rfl (agC (show Value.slice z sw.length A = Value.slice z hW.length A by rw [OS.len' f5]) (agC rfl (agC rfl (agC rfl (agC rfl (agC rfl (agC rfl (agC rfl (agC rfl (agC rfl agN))))))))))))))), rfl, (by omega), (by exact ac_step (by omega) hin h5 jq), (by omega), (by first | assumption | omega | (simp at *; omega)), (by rw [show (iz - 1 + 1).toNat = iz.toNat by omega]; exact kA hin (by rw [show iz.toNat + 1 = (iz + 1).toNat by omega]; exact e4) (by assumption))⟩
     omega
   ·
    try simp only [BS] at he
    refine wR 1 [] 28 28 [84] [(28, (iI ((k : Int) + 1)))] (vA (vi (n := (k : Int) + 1) (by omega)) trivial) rfl fun _ => ?_
    refine i1 _ _ _ ?_ ⟨ax, k + 1, E, J, Y, _, (fT (fT (ci) em) es), (HS.sub c3 (List.sublist_append_left _ _)), V, (agC rfl (agC rfl (agC rfl (agC rfl (agC rfl (agC rfl agN)))))), rfl, (by omega), (by exact ac_next (by omega) h5), (by first | assumption | omega | (simp at *; omega))⟩
    omega
  ·
   try simp only [BS] at ha
   refine aa ?_
   refine wm (.slice a4 aw.length a5) rfl rfl rfl ?_
   obtain ⟨kz, g4, b9, h2, hY⟩ := OS.frz bb co (i := 1) rfl
   have b9 : HS _ _ _ [_, []] _ := b9
   refine aA (ah rfl rfl rfl) rfl rfl (mb.list_c ex aw (HS.call b9) h2 (hT.mono g4) (by omega)) ?_
   rintro _ mx ⟨g9, hD, mN, hE, lZ, ik, a8, rfl, e0, rfl⟩
   replace a8 := HS.back b9 rfl a8
   replace a8 := HS.thawX (M := [hE]) co (i := 1) rfl g4 hY ik a8
   replace e0 := OS.ind (F' := h3) e0
   have a8 : HS _ _ _ [d3, ay, hE] _ := a8
   refine wa (.slice g9 (eO aw).length hD) rfl rfl rfl ?_
   refine ae 1 rfl ?_
   refine ag ⟨.inr rfl, _, rfl, g9, hD, eO aw, hE, _, (fT (fT (fT (g3) hl) ea) ci), (HS.only a8 (i := 2) rfl), rfl, e0, (by first | exact fun h => absurd (h.symm.trans hv) (by decide) | exact fun _ => ac_all (by omega) g7), (by first | exact fun _ => rfl | exact fun h => absurd (hv.symm.trans h) (by decide))⟩
end Go.Proofs.YtlabedbmgmfbaaaDoor.mg
