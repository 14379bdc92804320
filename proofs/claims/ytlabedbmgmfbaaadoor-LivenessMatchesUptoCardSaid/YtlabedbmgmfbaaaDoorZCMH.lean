/-
 Live registers: the reference, function by function, each by a symbolic run. No condition but bounds on lengths.
-/
import Derived.Test.YtlabedbmgmfbaaaDoorZCMG
noncomputable section
namespace Go.Proofs.YtlabedbmgmfbaaaDoor.mh
open Go.R
set_option maxRecDepth 10000
set_option linter.unusedVariables false
open m1 m2 m3 m4 m5 m6 ma ml mb mc md mf mg
theorem iY {a b : List (List Int)} (hl : a.length = b.length) {k : Nat} (h : ∀ j, j < k → a.getD j default = b.getD j default) (hk : a.length ≤ k) : true = decide (a = b) := by
 symm; apply decide_eq_true
 apply List.ext_getElem hl
 intro j z A
 have := h j (by omega)
 rwa [List.getD_eq_getElem?_getD, List.getD_eq_getElem?_getD, List.getElem?_eq_getElem z, List.getElem?_eq_getElem A] at this
theorem kE {a b : List (List Int)} {k : Nat} (h : ¬ a.getD k default = b.getD k default) : false = decide (a = b) := by symm; apply decide_eq_false; intro e; rw [e] at h; exact h rfl
theorem iZ {a b : List (List Int)} (h : ¬ (a.length : Int) = (b.length : Int)) : false = decide (a = b) := by symm; apply decide_eq_false; intro e; rw [e] at h; exact h rfl
theorem ey (ex : FuncId) {a_a : Option Addr} {k_a : Nat} (a : List (List Int)) {a_b : Option Addr} {k_b : Nat} (b : List (List Int)) {F : Fz} {H : Heap} {R : List Fp} (hs : HS (.of H []) F H [] R) (ha : SR F (.slice a_a a.length k_a) a) (hb : SR F (.slice a_b b.length k_b) b) (hT : TB 37 tabC F) (hal : a.length ≤ 1073741824) (hlen : ∀ j, (a.getD j default).length ≤ 1073741824) : C Tryd.prog 1 (KT 60 ex 37 tabC) 21 [(.slice a_a a.length k_a), (.slice a_b b.length k_b)] H fun v H' => ∃ (r : Bool), H' = H ∧ v = .bool r ∧ r = decide (a = b) := by
 refine aG Tryd.func21 rfl rfl ?_
 refine aj 1 rfl ?_
 refine wR 3 [] 4 4 [] [(4, (.bool false))] trivial rfl fun _ => ?_
 refine wR 1 [] 6 10 [] [(10, (.bool ((a.length : Int) != (b.length : Int))))] trivial rfl fun _ => ?_
 refine ak 1 3 (v := ((a.length : Int) != (b.length : Int))) rfl rfl rfl rfl (fun V => ?_) (fun V => ?_)
 ·
  try simp only [BS] at V
  refine wR 1 [] 4 4 [] [(4, (.bool false))] trivial rfl fun _ => ?_
  refine ag ⟨.inr rfl, _, rfl, false, rfl, rfl, (by first | exact iY (by omega) J (by omega) | exact kE (k := k) (by assumption) | exact iZ (by omega))⟩
 ·
  try simp only [BS] at V
  refine wR 2 [] 1 0 [5] [(5, (iI 0))] trivial rfl fun _ => ?_
  refine ap (fun (mm : Nat) f H' => ∃ (k : Nat), H' = H ∧ aI f [(0, (.slice a_a a.length k_a)), (1, (.slice a_b b.length k_b)), (5, (iI (k : Int)))] ∧ mm = a.length - k ∧ (k ≤ a.length) ∧ (∀ j, j < k → a.getD j default = b.getD j default)) _ ⟨0, rfl, (agC rfl (agC rfl (agC rfl agN))), rfl, (by first | assumption | omega | (simp at *; omega)), (by intro j hj; omega)⟩ ?_
  rintro an f6 H ⟨k, rfl, T, rfl, h1, J⟩ Z
  refine au _ T (fun _ => ?_)
  clear T
  refine aj 2 rfl ?_
  refine wR 1 [] 11 14 [] [(14, (.bool (decide ((k : Int) < (a.length : Int)))))] trivial rfl fun _ => ?_
  refine ak 4 5 (v := (decide ((k : Int) < (a.length : Int)))) rfl rfl rfl rfl (fun Y => ?_) (fun Y => ?_)
  ·
   try simp only [BS] at Y
   obtain ⟨N, U⟩ := Sv.view (SR.sv ha hs)
   have ad := fL (U k)
   obtain ⟨A, E⟩ := Sv.view (SR.sv hb hs)
   have al := fL (E k)
   refine wRD 1 [(3, .o (.slice (cA (N k) 0) (a.getD k default).length (cK (N k) 0))), (7, .o (.slice (cA (A k) 0) (b.getD k default).length (cK (A k) 0))), (8, .o (.bool (decide ((a.getD k default) = (b.getD k default)))))] 17 26 [] [(26, (.bool (!(decide ((a.getD k default) = (b.getD k default))))))] (vA (Sv.ix (j := (k : Int)) (SR.sv ha hs) (by omega) (by omega)) (vA (ql 25 0 (hc0 (vL (U k) (by omega))) rfl rfl) (vA (Sv.ix (j := (k : Int)) (SR.sv hb hs) (by omega) (by omega)) (vA (ql 25 0 (hc0 (vL (E k) (by omega))) rfl rfl) (vA (m6.kF ex (a.getD k default) (b.getD k default) (HS.call hs.log0) ad al hT (by exact hlen _)) trivial))))) rfl rfl fun _ => ?_
   refine ak 1 2 (v := (!(decide ((a.getD k default) = (b.getD k default))))) rfl rfl rfl rfl (fun z => ?_) (fun z => ?_)
   ·
    try simp only [BS] at z
    refine wR 1 [] 4 4 [] [(4, (.bool false))] trivial rfl fun _ => ?_
    refine ag ⟨.inr rfl, _, rfl, false, rfl, rfl, (by first | exact iY (by omega) J (by omega) | exact kE (k := k) (by assumption) | exact iZ (by omega))⟩
   ·
    try simp only [BS] at z
    refine wR 1 [] 15 16 [5] [(5, (iI ((k : Int) + 1)))] (vA (vi (n := (k : Int) + 1) (by omega)) trivial) rfl fun _ => ?_
    refine Z _ _ _ ?_ ⟨k + 1, rfl, (agC rfl (agC rfl (agC rfl agN))), rfl, (by first | assumption | omega | (simp at *; omega)), (by exact jj J (by assumption))⟩
    omega
  ·
   try simp only [BS] at Y
   refine wR 1 [] 4 4 [] [(4, (.bool true))] trivial rfl fun _ => ?_
   refine ag ⟨.inr rfl, _, rfl, true, rfl, rfl, (by first | exact iY (by omega) J (by omega) | exact kE (k := k) (by assumption) | exact iZ (by omega))⟩
def oS (o : List Int) (r : Nat) : Prop := (r : Int) ∈ o
structure RpO (b : BlkT) (o : List Int) (g : Int) : Prop where
 gb : 0 ≤ g ∧ g ≤ 3000
 len : b.ins.length ≤ 1073741824
 ins : ∀ i, i < b.ins.length → (∀ x ∈ aW (b.ins.getD i default), 0 ≤ x ∧ x < g) ∧ (∀ x ∈ aN (b.ins.getD i default), 0 ≤ x ∧ x < g) ∧ (b.ins.getD i default).args.length ≤ 6
 fin : ∀ x ∈ kQ b, 0 ≤ x ∧ x < g
 asc : Asc o
 mem : ∀ x ∈ o, 0 ≤ x ∧ x < g
theorem RpO.lst {b : BlkT} {o : List Int} {g : Int} (h : RpO b o g) : Lst o (oS o) := ⟨h.asc, fun x => ⟨fun hx => ⟨(h.mem x hx).1, by have := (h.mem x hx).1; unfold oS; rwa [show ((x.toNat : Nat) : Int) = x by omega]⟩, fun hx => by have := hx.2; unfold oS at this; rwa [show ((x.toNat : Nat) : Int) = x by omega] at this⟩⟩
def rpS (b : BlkT) (o : List Int) (i : Nat) : Nat → Prop := tr (b.ins.drop i) (endS b (oS o))
theorem rp_lt {b : BlkT} {o : List Int} {g : Int} (h : RpO b o g) {i r : Nat} (hr : rpS b o i r) : (r : Int) < g := by
 have key : ∀ (l : List VInT), (∀ w ∈ l, w ∈ b.ins) → ∀ r, tr l (endS b (oS o)) r → (r : Int) < g := by
  intro l
  induction l with
  | nil =>
   intro _ r hr
   rcases hr with z | z
   ·
    exact (h.mem _ z).2
   ·
    exact (h.fin _ z).2
  | cons w l ih =>
   intro hw r hr
   rcases hr with hr | hr
   ·
    obtain ⟨i, hi, he⟩ := List.mem_iff_getElem.1 (hw w (List.mem_cons_self ..))
    have := (h.ins i hi).1
    rw [List.getD_eq_getElem?_getD, List.getElem?_eq_getElem hi, Option.getD_some, he] at this
    exact (this _ hr).2
   ·
    exact ih (fun x hx => hw x (List.mem_cons_of_mem _ hx)) r hr.1
 exact key _ (fun w hw => List.mem_of_mem_drop hw) r hr
theorem rp_start {b : BlkT} {o : List Int} {g : Int} (h : RpO b o g) : Lst (cH o (kQ b)) (rpS b o b.ins.length) := by
 have z := Lst.addL h.lst (fun x hx => (h.fin x hx).1)
 refine ⟨z.asc, fun x => ?_⟩
 rw [z.mem]
 unfold rpS
 rw [List.drop_length]
 exact Iff.rfl
theorem rp_step {b : BlkT} {o l : List Int} {g : Int} {i : Nat} (h : RpO b o g) (hi : i < b.ins.length) (hl : Lst l (rpS b o (i + 1))) : Lst (cH (jI l (aN (b.ins.getD i default))) (aW (b.ins.getD i default))) (rpS b o i) := by
 have hv := h.ins i hi
 have E := Lst.addL (l := aW (b.ins.getD i default)) (Lst.minus (w := aN (b.ins.getD i default)) hl) fun x hx => (hv.1 x hx).1
 refine ⟨E.asc, fun x => ?_⟩
 rw [E.mem]
 unfold rpS
 rw [tr_drop hi]
 constructor
 ·
  rintro ⟨A, z | z⟩
  ·
   exact ⟨A, .inr z⟩
  ·
   exact ⟨A, .inl z⟩
 ·
  rintro ⟨A, z | z⟩
  ·
   exact ⟨A, .inr z⟩
  ·
   exact ⟨A, .inl z⟩
structure RpF (b : BlkT) (o : List Int) (l : List (List Int)) : Prop where
 len : l.length = b.ins.length + 1
 pt : ∀ i, i ≤ b.ins.length → Lst (l.getD i default) (rpS b o i)
theorem rset {b : BlkT} {o : List Int} {i : Nat} {l : List (List Int)} {x : List Int} (hl : l.length = b.ins.length + 1) (h : ∀ j, i < j → j ≤ b.ins.length → Lst (l.getD j default) (rpS b o j)) (hi : i ≤ b.ins.length) (hx : Lst x (rpS b o i)) : ∀ j, i ≤ j → j ≤ b.ins.length → Lst ((l.set i x).getD j default) (rpS b o j) := fun j A z => by
 rw [eM]
 split
 ·
  rename_i e; obtain ⟨rfl, _⟩ := e; exact hx
 ·
  rename_i e; exact h j (by omega) z
theorem end_len {b : BlkT} : (kQ b).length ≤ 1 := by unfold kQ; split <;> simp
set_option maxHeartbeats 2000000 in
theorem rpoints_c (ex : FuncId) {E : Option Addr} {J : Nat} (b : BlkT) {a_o : Option Addr} {k_o : Nat} (o : List Int) {F : Fz} {H : Heap} {R : List Fp} (hs : HS (.of H []) F H [] R) (V : SR F (.slice E b.ins.length J) b.ins) (hX : in64 b.fin) (hY : in64 b.reg) (h3 : in64 b.tgt) (h4 : in64 b.els) (ho : SR F (.slice a_o o.length k_o) o) (hT : TB 37 tabC F) (hp : ∃ g, RpO b o g) : C Tryd.prog 1 (KT 60 ex 37 tabC) 53 [(.agg ⟨[(.slice E b.ins.length J), (iI b.fin), (iI b.reg), (iI b.tgt), (iI b.els)]⟩), (.slice a_o o.length k_o)] H fun v H' => ∃ (al : Option Addr) (kl : Nat) (l : List (List Int)) (p : Fp) (F' : Fz), Fz.le F F' ∧ HS (.of H []) F' H' [p] R ∧ v = .slice al l.length kl ∧ OS F' (.slice al l.length kl) l p ∧ (RpF b o l) := by
 obtain ⟨g, hp⟩ := hp
 have hbl := hp.len
 have hg := hp.gb
 have hol := Lst.len hp.lst hg.1 (fun r h => (hp.mem _ h).2)
 have hel := end_len (b := b)
 have hrl : (List.replicate (b.ins.length + 1) ([] : List Int)).length = b.ins.length + 1 := List.length_replicate
 refine aG Tryd.func53 rfl rfl ?_
 refine aj 1 rfl ?_
 refine aa ?_
 refine aF (bB hs rfl rfl) rfl rfl ?_
 rintro _ H2 _ ⟨b1, rfl, cc, _⟩
 let d3 : Fp := [(b1, .cells [(.slice E b.ins.length J), (iI b.fin), (iI b.reg), (iI b.tgt), (iI b.els)] none false)]
 have cc : HS _ _ _ [d3] _ := cc
 refine wa (.slice none 0 0) rfl rfl rfl ?_
 refine ae 2 rfl ?_
 refine aa ?_
 refine wRo 4 0 [(1, .o (.slice E b.ins.length J))] 7 10 [] [(10, (iI ((b.ins.length : Int) + 1)))] (vA (ql 40 0 (HS.hc cc (i := 0) rfl) rfl rfl) (vA (vi (n := (b.ins.length : Int) + 1) (by first | (dsimp only; omega) | omega)) trivial)) rfl fun _ => ?_
 refine aF (fG ([] : (List Int)) cc rfl rfl rfl rfl rfl rfl rfl rfl rfl ⟨none, 0, rfl, SR.nil⟩ (by first | (dsimp only; omega) | omega) (by first | (dsimp only; omega) | omega)) rfl rfl ?_
 rintro _ H5 p4 ⟨a4, k4, rfl, a5, ay, _⟩
 have ay : HS _ _ _ [_, p4] _ := ay
 have a5 : OS F (.slice a4 (List.replicate (b.ins.length + 1) ([] : (List Int))).length k4) (List.replicate (b.ins.length + 1) ([] : (List Int))) p4 := a5
 refine wa (.slice a4 (List.replicate (b.ins.length + 1) ([] : (List Int))).length k4) rfl rfl rfl ?_
 refine ae 2 rfl ?_
 refine bc rfl ?_
 refine fm (.slice a4 (List.replicate (b.ins.length + 1) ([] : (List Int))).length k4) rfl rfl rfl ?_
 refine am (v := (.pointer (some ⟨b1, 0, none⟩))) (id := .v) (dA rfl rfl) rfl rfl (br rfl) (be _) ?_
 refine am (v := (.slice E b.ins.length J)) (id := .l b1) (bN (i := 0) rfl rfl (HS.hc ay.log0 (i := 0) rfl) rfl rfl) rfl rfl (bT rfl) (⟨.inl rfl, ⟨.inr trivial, trivial⟩⟩) ?_
 refine am (v := (iI (b.ins.length : Int))) (id := .v) (fZ (α := VInT) rfl rfl (SR.sv V ay.log0)) rfl rfl (gP rfl) (be _) ?_
 refine fm (.slice a_o o.length k_o) rfl rfl rfl ?_
 refine am (v := (.agg ⟨[(.slice E b.ins.length J), (iI b.fin), (iI b.reg), (iI b.tgt), (iI b.els)]⟩)) (id := .l b1) (cY (i := 0) rfl rfl rfl (HS.hc ay.log0 (i := 0) rfl) rfl rfl rfl) rfl rfl (bT rfl) (⟨.inr trivial, ⟨.inr trivial, ⟨.inr trivial, ⟨.inr trivial, ⟨.inr trivial, trivial⟩⟩⟩⟩⟩) ?_
 refine aX (W := []) (ah rfl rfl rfl) rfl rfl rfl (ma.rend_c ex b (HS.call ay.log0) V (by first | (dsimp only; omega) | omega) (by first | (dsimp only; omega) | omega) (by first | (dsimp only; omega) | omega) (by first | (dsimp only; omega) | omega) hT) (⟨.inl rfl, ⟨.inr trivial, ⟨.inr trivial, ⟨.inr List.not_mem_nil, ⟨.inr trivial, ⟨.inr trivial, trivial⟩⟩⟩⟩⟩⟩) ?_
 rintro _ H6 ⟨j0, kc, r6, p6, F6, b4, aw, rfl, f0, rfl⟩
 refine ⟨Wr.did aw.log, fun he ez => ?_⟩
 replace aw := HS.back ay.log0 rfl aw
 replace aw := HS.lg aw ay ez
 generalize ({ H6 with log := he } : Heap) = jq at aw ⊢
 have aw : HS _ _ _ [_, _, p6] _ := aw
 obtain ⟨F7, b5, b6, ha, j2⟩ := OS.frz f0 aw (i := 2) rfl
 have b6 : HS _ _ _ [_, _, []] _ := b6
 replace hT := (hT.mono b4).mono b5
 replace ho := (ho.mono b4).mono b5
 refine aX (W := []) (ah rfl rfl rfl) rfl rfl rfl (ma.ev ex o (kQ b) (HS.call b6.log0) ho ha hT (by first | (dsimp only; omega) | omega)) (⟨.inl rfl, ⟨.inl rfl, ⟨.inl rfl, ⟨.inr trivial, ⟨.inr List.not_mem_nil, ⟨.inr trivial, ⟨.inr trivial, trivial⟩⟩⟩⟩⟩⟩⟩) ?_
 rintro _ H8 ⟨g8, hb, r8, F8, b9, ar, rfl, f1, rfl⟩
 refine ⟨Wr.did ar.log, fun hf e0 => ?_⟩
 replace ar := HS.back b6.log0 rfl ar
 replace ar := HS.lg ar b6 e0
 generalize ({ H8 with log := hf } : Heap) = jw at ar ⊢
 have ar : HS _ _ _ [_, _, _] _ := ar
 replace a5 := ((a5.mono b4).mono b5).mono b9
 refine am (v := (.pointer (some ⟨sB (.slice a4 (List.replicate (b.ins.length + 1) ([] : (List Int))).length k4), sO (.slice a4 (List.replicate (b.ins.length + 1) ([] : (List Int))).length k4) + b.ins.length * Rp.sz (List Int), none⟩))) (id := .v) (bU (α := (List Int)) (j := (b.ins.length : Int)) rfl rfl rfl rfl (OS.sv a5 ar.log0 (i := 1) rfl) (by first | (dsimp only; omega) | omega) (by first | (dsimp only; omega) | omega)) rfl rfl (br rfl) (be _) ?_
 refine ku (id := .x (p4.map Prod.fst)) (du (α := (List Int)) (j := b.ins.length) (off := 0) (q := 1) (cH o (kQ b)) a5 ar.log0 rfl rfl rfl rfl rfl rfl rfl rfl (aS (x := default) (by first | (dsimp only; omega) | omega)) rfl (by rintro cs ⟨_, _, rfl, _⟩; exact ⟨Nat.le_of_ble_eq_true rfl, ⟨g8, hb, rfl, f1⟩⟩)) rfl (by rintro _ _ p9 ⟨bk, _, hwr⟩; exact dP rfl rfl (Wr.did hwr)) (⟨.inl rfl, ⟨.inl rfl, ⟨.inl rfl, ⟨.inl rfl, ⟨.inl rfl, ⟨.inl rfl, ⟨.inl rfl, ⟨.inl rfl, ⟨.inl rfl, trivial⟩⟩⟩⟩⟩⟩⟩⟩⟩) ?_
 rintro _ g2 p9 ⟨bk, av, _⟩ f4 c6
 replace av := HS.lg av ar c6
 generalize ({ g2 with log := f4 } : Heap) = hB at av ⊢
 have av : HS _ _ _ [_, p9, _] _ := av
 have h5 := OS.len' bk
 refine cz ?_
 refine aj 3 rfl ?_
 refine wR 2 [(1, .o (.slice E b.ins.length J))] 21 24 [6] [(6, (iI ((b.ins.length : Int) - 1)))] (vA (ql 40 0 (HS.hc av (i := 0) rfl) rfl rfl) (vA (vi (n := (b.ins.length : Int) - 1) (by first | (dsimp only; omega) | omega)) trivial)) rfl fun _ => ?_
 refine ap (fun (mm : Nat) f H' => ∃ (pl : List (List Int)) (iz : Int) (z : Option Addr) (A : Nat) (Y : Fp) (F' : Fz), Fz.le F8 F' ∧ HS (Base.of H []) F' H' [d3, Y, []] R ∧ OS F' (.slice z pl.length A) pl Y ∧ aI f [(2, (.pointer (some ⟨b1, 0, none⟩))), (4, (.slice none 0 0)), (5, (.slice z pl.length A)), (6, (iI iz))] ∧ mm = (iz + 1).toNat ∧ (pl.length = b.ins.length + 1) ∧ (-1 ≤ iz ∧ iz < (b.ins.length : Int)) ∧ (∀ j, (iz + 1).toNat ≤ j → j ≤ b.ins.length → Lst (pl.getD j default) (rpS b o j))) _ ⟨(List.replicate (b.ins.length + 1) ([] : (List Int))).set b.ins.length (cH o (kQ b)), (b.ins.length : Int) - 1, a4, k4, p9, _, fR, av, (OS.norm bk), (agC rfl (agC rfl (agC (show Value.slice a4 (List.replicate (b.ins.length + 1) ([] : (List Int))).length k4 = Value.slice a4 ((List.replicate (b.ins.length + 1) ([] : (List Int))).set b.ins.length (cH o (kQ b))).length k4 by rw [OS.len' bk]) (agC rfl agN)))), rfl, (by simp), (by first | assumption | omega | (simp at *; omega)), (by exact fun j h1 h2 => by (rw [show j = b.ins.length by omega, eM, if_pos ⟨rfl, by simp⟩]; exact rp_start hp))⟩ ?_
 rintro ik j1 jc ⟨pl, iz, z, A, Y, it, a7, Z, U, cl, rfl, e2, e3, e5⟩ f2
 refine au _ cl (fun _ => ?_)
 clear cl
 replace hT := (hT.mono b9).mono a7
 replace V := (((V.mono b4).mono b5).mono b9).mono a7
 refine aj 2 rfl ?_
 refine wR 1 [] 25 26 [] [(26, (.bool (decide ((0 : Int) ≤ iz))))] trivial rfl fun _ => ?_
 refine ak 3 5 (v := (decide ((0 : Int) ≤ iz))) rfl rfl rfl rfl (fun ch => ?_) (fun ch => ?_)
 ·
  try simp only [BS] at ch
  have hin : iz.toNat < b.ins.length := by omega
  have hvl := hp.ins iz.toNat hin
  have h9 : (b.ins.getD iz.toNat default).args.length ≤ 6 := hvl.2.2
  have hpl := Lst.len (e5 (iz + 1).toNat (Nat.le_refl _) (by omega)) hg.1 (fun r h => rp_lt hp h)
  have hwl := jN (v := (b.ins.getD iz.toNat default))
  have h8 := gj (v := (b.ins.getD iz.toNat default))
  have hml : (jI (pl.getD (iz + 1).toNat default) (aN (b.ins.getD iz.toNat default))).length ≤ (pl.getD (iz + 1).toNat default).length := List.length_filter_le _ _
  refine bc rfl ?_
  refine fm (.slice z pl.length A) rfl rfl rfl ?_
  refine fm (iI iz) rfl rfl rfl ?_
  refine fm (.slice z pl.length A) rfl rfl rfl ?_
  refine fm (iI iz) rfl rfl rfl ?_
  refine am (v := (iI (iz + 1))) (id := .v) (ap_add rfl rfl (w_i64 (n := iz + 1) (by first | (dsimp only; omega) | omega))) rfl rfl (br rfl) (be _) ?_
  refine am (v := (.pointer (some ⟨sB (.slice z pl.length A), sO (.slice z pl.length A) + (iz + 1).toNat * Rp.sz (List Int), none⟩))) (id := .v) (bU (α := (List Int)) (j := iz + 1) rfl rfl rfl rfl (OS.sv U Z.log0 (i := 1) rfl) (by first | (dsimp only; omega) | omega) (by first | (dsimp only; omega) | omega)) rfl rfl (br rfl) (be _) ?_
  obtain ⟨hR, e1, em⟩ := Sv.at (OS.sv U Z.log0 (i := 1) rfl) (aS (x := default) (show (iz + 1).toNat < pl.length from by first | (dsimp only; omega) | omega))
  obtain ⟨c0, ds, rfl, b2⟩ := e1
  refine am (v := (.slice c0 (pl.getD (iz + 1).toNat default).length ds)) (id := .l (sB (.slice z pl.length A))) (bN (i := 0) rfl rfl em rfl rfl) rfl rfl (bT rfl) (⟨.inl rfl, ⟨.inl rfl, ⟨.inl rfl, ⟨.inl rfl, ⟨.inr trivial, ⟨.inr trivial, trivial⟩⟩⟩⟩⟩⟩) ?_
  refine am (v := (.pointer (some ⟨b1, 0, none⟩))) (id := .v) (dA rfl rfl) rfl rfl (br rfl) (be _) ?_
  refine am (v := (.slice E b.ins.length J)) (id := .l b1) (bN (i := 0) rfl rfl (HS.hc Z.log0 (i := 0) rfl) rfl rfl) rfl rfl (bT rfl) (⟨.inl rfl, ⟨.inr trivial, ⟨.inr trivial, ⟨.inr trivial, ⟨.inr trivial, ⟨.inr trivial, ⟨.inr trivial, ⟨.inr trivial, trivial⟩⟩⟩⟩⟩⟩⟩⟩) ?_
  refine fm (iI iz) rfl rfl rfl ?_
  refine am (v := (.pointer (some ⟨sB (.slice E b.ins.length J), sO (.slice E b.ins.length J) + iz.toNat * Rp.sz VInT, none⟩))) (id := .v) (bU (α := VInT) (j := iz) rfl rfl rfl rfl (SR.sv V Z.log0) (by first | (dsimp only; omega) | omega) (by first | (dsimp only; omega) | omega)) rfl rfl (br rfl) (be _) ?_
  obtain ⟨hS, e4, es⟩ := Sv.at (SR.sv V Z.log0) (aS (x := default) (show iz.toNat < b.ins.length from by first | (dsimp only; omega) | omega))
  obtain ⟨c3, dt, rfl, hk, hl, hm, hn, hq, d1⟩ := e4
  refine am (v := (.agg ⟨[(iI (b.ins.getD iz.toNat default).i.op), (iI (b.ins.getD iz.toNat default).i.a), (iI (b.ins.getD iz.toNat default).i.b), (iI (b.ins.getD iz.toNat default).i.c), (iI (b.ins.getD iz.toNat default).i.n), (.slice c3 (b.ins.getD iz.toNat default).args.length dt)]⟩)) (id := .l (sB (.slice E b.ins.length J))) (cY (i := 0) rfl rfl rfl es rfl rfl rfl) rfl rfl (bT rfl) (⟨.inl rfl, ⟨.inl rfl, ⟨.inl rfl, ⟨.inl rfl, ⟨.inr trivial, ⟨.inr trivial, ⟨.inr trivial, ⟨.inr trivial, ⟨.inr trivial, ⟨.inr trivial, ⟨.inr trivial, trivial⟩⟩⟩⟩⟩⟩⟩⟩⟩⟩⟩) ?_
  refine aX (W := []) (ah rfl rfl rfl) rfl rfl rfl (ma.rwrites_c ex (b.ins.getD iz.toNat default) (HS.call Z.log0) (by first | (dsimp only; omega) | omega) (by first | (dsimp only; omega) | omega) (by first | (dsimp only; omega) | omega) (by first | (dsimp only; omega) | omega) (by first | (dsimp only; omega) | omega) d1 hT) (⟨.inl rfl, ⟨.inl rfl, ⟨.inl rfl, ⟨.inl rfl, ⟨.inl rfl, ⟨.inr List.not_mem_nil, ⟨.inr trivial, ⟨.inr trivial, ⟨.inr trivial, ⟨.inr trivial, ⟨.inr trivial, ⟨.inr trivial, trivial⟩⟩⟩⟩⟩⟩⟩⟩⟩⟩⟩⟩) ?_
  rintro _ g3 ⟨hK, ib, kd, hh, iv, a0, ad, rfl, dl, rfl⟩
  refine ⟨Wr.did ad.log, fun f5 c7 => ?_⟩
  replace ad := HS.back Z.log0 rfl ad
  replace ad := HS.lg ad Z c7
  generalize ({ g3 with log := f5 } : Heap) = hC at ad ⊢
  have ad : HS _ _ _ [_, Y, _, hh] _ := ad
  obtain ⟨i1, a1, a2, e6, h6⟩ := OS.frz dl ad (i := 3) rfl
  have a2 : HS _ _ _ [_, _, _, []] _ := a2
  replace hT := (hT.mono a0).mono a1
  replace b2 := (b2.mono a0).mono a1
  refine aX (W := []) (ah rfl rfl rfl) rfl rfl rfl (ma.minus_c ex (pl.getD (iz + 1).toNat default) (aN (b.ins.getD iz.toNat default)) (HS.call a2.log0) b2 e6 hT (by first | (dsimp only; omega) | omega)) (⟨.inl rfl, ⟨.inl rfl, ⟨.inl rfl, ⟨.inl rfl, ⟨.inl rfl, ⟨.inl rfl, ⟨.inl rfl, ⟨.inl rfl, ⟨.inl rfl, ⟨.inl rfl, ⟨.inl rfl, ⟨.inr trivial, ⟨.inr trivial, trivial⟩⟩⟩⟩⟩⟩⟩⟩⟩⟩⟩⟩⟩) ?_
  rintro _ g4 ⟨hM, ih, ki, hj, i2, a8, N, rfl, bz, rfl⟩
  refine ⟨Wr.did N.log, fun f6 c8 => ?_⟩
  replace N := HS.back a2.log0 rfl N
  replace N := HS.lg N a2 c8
  generalize ({ g4 with log := f6 } : Heap) = hD at N ⊢
  have N : HS _ _ _ [_, _, _, _, hj] _ := N
  replace hT := hT.mono a8
  replace V := ((V.mono a0).mono a1).mono a8
  refine am (v := (.pointer (some ⟨b1, 0, none⟩))) (id := .v) (dA rfl rfl) rfl rfl (br rfl) (be _) ?_
  refine am (v := (.slice E b.ins.length J)) (id := .l b1) (bN (i := 0) rfl rfl (HS.hc N.log0 (i := 0) rfl) rfl rfl) rfl rfl (bT rfl) (⟨.inl rfl, ⟨.inr List.not_mem_nil, ⟨.inr List.not_mem_nil, ⟨.inr trivial, ⟨.inr trivial, ⟨.inr trivial, ⟨.inr trivial, ⟨.inr trivial, ⟨.inr trivial, ⟨.inr trivial, ⟨.inr trivial, ⟨.inr trivial, ⟨.inr trivial, ⟨.inr trivial, ⟨.inr trivial, trivial⟩⟩⟩⟩⟩⟩⟩⟩⟩⟩⟩⟩⟩⟩⟩) ?_
  refine fm (iI iz) rfl rfl rfl ?_
  refine am (v := (.pointer (some ⟨sB (.slice E b.ins.length J), sO (.slice E b.ins.length J) + iz.toNat * Rp.sz VInT, none⟩))) (id := .v) (bU (α := VInT) (j := iz) rfl rfl rfl rfl (SR.sv V N.log0) (by first | (dsimp only; omega) | omega) (by first | (dsimp only; omega) | omega)) rfl rfl (br rfl) (be _) ?_
  obtain ⟨hV, fd, et⟩ := Sv.at (SR.sv V N.log0) (aS (x := default) (show iz.toNat < b.ins.length from by first | (dsimp only; omega) | omega))
  obtain ⟨c4, dv, rfl, hr, ht, hu, hv, hw, d2⟩ := fd
  refine am (v := (.agg ⟨[(iI (b.ins.getD iz.toNat default).i.op), (iI (b.ins.getD iz.toNat default).i.a), (iI (b.ins.getD iz.toNat default).i.b), (iI (b.ins.getD iz.toNat default).i.c), (iI (b.ins.getD iz.toNat default).i.n), (.slice c4 (b.ins.getD iz.toNat default).args.length dv)]⟩)) (id := .l (sB (.slice E b.ins.length J))) (cY (i := 0) rfl rfl rfl et rfl rfl rfl) rfl rfl (bT rfl) (⟨.inl rfl, ⟨.inl rfl, ⟨.inl rfl, ⟨.inl rfl, ⟨.inr List.not_mem_nil, ⟨.inr List.not_mem_nil, ⟨.inr trivial, ⟨.inr trivial, ⟨.inr trivial, ⟨.inr trivial, ⟨.inr trivial, ⟨.inr trivial, ⟨.inr trivial, ⟨.inr trivial, ⟨.inr trivial, ⟨.inr trivial, ⟨.inr trivial, ⟨.inr trivial, trivial⟩⟩⟩⟩⟩⟩⟩⟩⟩⟩⟩⟩⟩⟩⟩⟩⟩⟩) ?_
  refine aX (W := []) (ah rfl rfl rfl) rfl rfl rfl (ma.rreads_c ex (b.ins.getD iz.toNat default) (HS.call N.log0) (by first | (dsimp only; omega) | omega) (by first | (dsimp only; omega) | omega) (by first | (dsimp only; omega) | omega) (by first | (dsimp only; omega) | omega) (by first | (dsimp only; omega) | omega) d2 hT (by first | (dsimp only; omega) | omega)) (⟨.inl rfl, ⟨.inl rfl, ⟨.inl rfl, ⟨.inl rfl, ⟨.inl rfl, ⟨.inl rfl, ⟨.inl rfl, ⟨.inl rfl, ⟨.inl rfl, ⟨.inl rfl, ⟨.inl rfl, ⟨.inl rfl, ⟨.inl rfl, ⟨.inl rfl, ⟨.inl rfl, ⟨.inl rfl, ⟨.inl rfl, ⟨.inr trivial, ⟨.inr trivial, trivial⟩⟩⟩⟩⟩⟩⟩⟩⟩⟩⟩⟩⟩⟩⟩⟩⟩⟩⟩) ?_
  rintro _ g5 ⟨hQ, ii, kk, i3, a9, an, rfl, b0, rfl⟩
  refine ⟨Wr.did an.log, fun f7 c9 => ?_⟩
  replace an := HS.back N.log0 rfl an
  replace an := HS.lg an N c9
  generalize ({ g5 with log := f7 } : Heap) = hE at an ⊢
  have an : HS _ _ _ [_, _, _, _, _] _ := an
  replace bz := bz.mono a9
  obtain ⟨ja, bb, a3, fi, h7⟩ := OS.frz bz an (i := 4) rfl
  have a3 : HS _ _ _ [_, _, _, _, []] _ := a3
  replace hT := (hT.mono a9).mono bb
  replace b0 := b0.mono bb
  refine aX (W := []) (ah rfl rfl rfl) rfl rfl rfl (ma.ev ex (jI (pl.getD (iz + 1).toNat default) (aN (b.ins.getD iz.toNat default))) (aW (b.ins.getD iz.toNat default)) (HS.call a3.log0) fi b0 hT (by first | (dsimp only; omega) | omega)) (⟨.inl rfl, ⟨.inl rfl, ⟨.inl rfl, ⟨.inl rfl, ⟨.inl rfl, ⟨.inl rfl, ⟨.inl rfl, ⟨.inl rfl, ⟨.inl rfl, ⟨.inl rfl, ⟨.inl rfl, ⟨.inl rfl, ⟨.inl rfl, ⟨.inl rfl, ⟨.inl rfl, ⟨.inl rfl, ⟨.inl rfl, ⟨.inl rfl, ⟨.inr trivial, ⟨.inr trivial, trivial⟩⟩⟩⟩⟩⟩⟩⟩⟩⟩⟩⟩⟩⟩⟩⟩⟩⟩⟩⟩) ?_
  rintro _ g6 ⟨d4, f3, kn, jb, ci, T, rfl, dn, rfl⟩
  refine ⟨Wr.did T.log, fun f9 dd => ?_⟩
  replace T := HS.back a3.log0 rfl T
  replace T := HS.lg T a3 dd
  generalize ({ g6 with log := f9 } : Heap) = hF at T ⊢
  have T : HS _ _ _ [_, _, _, _, _] _ := T
  replace U := (((((U.mono a0).mono a1).mono a8).mono a9).mono bb).mono ci
  refine am (v := (.pointer (some ⟨sB (.slice z pl.length A), sO (.slice z pl.length A) + iz.toNat * Rp.sz (List Int), none⟩))) (id := .v) (bU (α := (List Int)) (j := iz) rfl rfl rfl rfl (OS.sv U T.log0 (i := 1) rfl) (by first | (dsimp only; omega) | omega) (by first | (dsimp only; omega) | omega)) rfl rfl (br rfl) (be _) ?_
  refine ku (id := .x (Y.map Prod.fst)) (du (α := (List Int)) (j := iz.toNat) (off := 0) (q := 1) (cH (jI (pl.getD (iz + 1).toNat default) (aN (b.ins.getD iz.toNat default))) (aW (b.ins.getD iz.toNat default))) U T.log0 rfl rfl rfl rfl rfl rfl rfl rfl (aS (x := default) (by first | (dsimp only; omega) | omega)) rfl (by rintro cs ⟨_, _, rfl, _⟩; exact ⟨Nat.le_of_ble_eq_true rfl, ⟨d4, f3, rfl, dn⟩⟩)) rfl (by rintro _ _ co ⟨bl, _, hwr⟩; exact dP rfl rfl (Wr.did hwr)) (⟨.inl rfl, ⟨.inl rfl, ⟨.inl rfl, ⟨.inl rfl, ⟨.inl rfl, ⟨.inl rfl, ⟨.inl rfl, ⟨.inl rfl, ⟨.inl rfl, ⟨.inl rfl, ⟨.inl rfl, ⟨.inl rfl, ⟨.inl rfl, ⟨.inl rfl, ⟨.inl rfl, ⟨.inl rfl, ⟨.inl rfl, ⟨.inl rfl, ⟨.inl rfl, ⟨.inl rfl, ⟨.inl rfl, ⟨.inl rfl, trivial⟩⟩⟩⟩⟩⟩⟩⟩⟩⟩⟩⟩⟩⟩⟩⟩⟩⟩⟩⟩⟩⟩) ?_
  rintro _ g7 co ⟨bl, ax, _⟩ go dk
  replace ax := HS.lg ax T dk
  generalize ({ g7 with log := go } : Heap) = hG at ax ⊢
  have ax : HS _ _ _ [_, co, _, _, _] _ := ax
  have hz := OS.len' bl
  refine cz ?_
  refine aj 2 rfl ?_
  refine wR 1 [] 27 28 [6] [(6, (iI (iz - 1)))] (vA (vi (n := iz - 1) (by first | (dsimp only; omega) | omega)) trivial) rfl fun _ => ?_
  refine f2 _ _ _ ?_ ⟨pl.set iz.toNat (cH (jI (pl.getD (iz + 1).toNat default) (aN (b.ins.getD iz.toNat default))) (aW (b.ins.getD iz.toNat default))), iz - 1, z, A, co, _, (fT (fT (fT (fT (fT (fT (a7) a0) a1) a8) a9) bb) ci), (HS.sub ax (List.sublist_append_left _ _)), (OS.norm bl), (agC rfl (agC rfl (agC (show Value.slice z pl.length A = Value.slice z (pl.set iz.toNat (cH (jI (pl.getD (iz + 1).toNat default) (aN (b.ins.getD iz.toNat default))) (aW (b.ins.getD iz.toNat default)))).length A by rw [OS.len' bl]) (agC rfl agN)))), rfl, (by rw [List.length_set]; exact e2), (by first | assumption | omega | (simp at *; omega)), (by rw [show (iz - 1 + 1).toNat = iz.toNat by omega]; exact rset e2 (fun j h1 h2 => e5 j (by omega) h2) (by omega) (rp_step hp hin (by rw [show iz.toNat + 1 = (iz + 1).toNat by omega]; exact e5 _ (Nat.le_refl _) (by omega))))⟩
  omega
 ·
  try simp only [BS] at ch
  refine wR 1 [] 4 4 [51] [(4, (.slice z pl.length A))] trivial rfl fun _ => ?_
  refine ag ⟨.inr rfl, _, rfl, z, A, pl, Y, _, (fT (fT (fT (b4) b5) b9) a7), (HS.only Z (i := 1) rfl), rfl, U, (by exact ⟨e2, fun i hi => e5 i (by omega) hi⟩)⟩
def acV (v : VInT) (l : List Int) : List Int := if v.i.op = 6 then cH (jI l [v.i.a]) (aW v) else []
theorem after_c (ex : FuncId) {a_l : Option Addr} {k_l : Nat} (l : List (List Int)) (k : Int) {F : Fz} {H : Heap} {R : List Fp} (hs : HS (.of H []) F H [] R) (hl : SR F (.slice a_l l.length k_l) l) (hk : in64 k) (hT : TB 37 tabC F) (hk : 0 ≤ k ∧ k + 1 < (l.length : Int) ∧ l.length ≤ 1073741825) : C Tryd.prog 1 (KT 60 ex 37 tabC) 62 [(.slice a_l l.length k_l), (iI k)] H fun v H' => ∃ (ar : Option Addr) (kr : Nat) (r : List Int), H' = H ∧ v = .slice ar r.length kr ∧ SR F (.slice ar r.length kr) r ∧ r = l.getD (k + 1).toNat default := by
 refine aG Tryd.func62 rfl rfl ?_
 refine aj 1 rfl ?_
 refine wR 2 [] 4 4 [] [(4, (.slice none 0 0))] trivial rfl fun _ => ?_
 obtain ⟨z, A⟩ := Sv.view (SR.sv hl hs)
 have E := fL (A (k + 1).toNat)
 refine wR 1 [(4, .o (.slice (cA (z (k + 1).toNat) 0) (l.getD (k + 1).toNat default).length (cK (z (k + 1).toNat) 0)))] 4 9 [] [(4, (.slice (cA (z (k + 1).toNat) 0) (l.getD (k + 1).toNat default).length (cK (z (k + 1).toNat) 0)))] (vA (vi (n := k + 1) (by omega)) (vA (Sv.ix (j := k + 1) (SR.sv hl hs) (by omega) (by omega)) (vA (ql 25 0 (vL (A (k + 1).toNat) (by omega)) rfl rfl) trivial))) rfl fun _ => ?_
 refine ag ⟨.inr rfl, _, rfl, (cA (z (k + 1).toNat) 0), (cK (z (k + 1).toNat) 0), (l.getD (k + 1).toNat default), rfl, rfl, E, (by first | rfl | omega | simp_all)⟩
theorem acall_c (ex : FuncId) {J : Option Addr} {N : Nat} (iv : VInT) {a_l : Option Addr} {k_l : Nat} (l : List Int) {F : Fz} {H : Heap} {R : List Fp} (hs : HS (.of H []) F H [] R) (b6 : in64 iv.i.op) (b7 : in64 iv.i.a) (b9 : in64 iv.i.b) (cc : in64 iv.i.c) (ch : in64 iv.i.n) (Y : SR F (.slice J iv.args.length N) iv.args) (hl : SR F (.slice a_l l.length k_l) l) (hT : TB 37 tabC F) (hll : l.length ≤ 1048576) (hargs : iv.args.length ≤ 1048576) : C Tryd.prog 1 (KT 60 ex 37 tabC) 61 [(.agg ⟨[(iI iv.i.op), (iI iv.i.a), (iI iv.i.b), (iI iv.i.c), (iI iv.i.n), (.slice J iv.args.length N)]⟩), (.slice a_l l.length k_l)] H fun v H' => ∃ (ar : Option Addr) (kr : Nat) (r : List Int) (F' : Fz), Fz.le F F' ∧ HS (.of H []) F' H' [] R ∧ v = .slice ar r.length kr ∧ SR F' (.slice ar r.length kr) r ∧ r = acV iv l := by
 refine aG Tryd.func61 rfl rfl ?_
 refine aj 1 rfl ?_
 refine aa ?_
 refine aF (bB hs rfl rfl) rfl rfl ?_
 rintro _ H2 _ ⟨b1, rfl, U, _⟩
 have U : HS _ _ _ [[(b1, .cells [(iI iv.i.op), (iI iv.i.a), (iI iv.i.b), (iI iv.i.c), (iI iv.i.n), (.slice J iv.args.length N)] none false)]] _ := U
 refine wa (.slice none 0 0) rfl rfl rfl ?_
 refine ae 3 rfl ?_
 refine wR 1 [(2, .o (iI iv.i.op))] 5 8 [] [(8, (.bool (iv.i.op != 6)))] (vA (ql 3 0 (HS.hc U (i := 0) rfl) rfl rfl) trivial) rfl fun _ => ?_
 refine ak 1 2 (v := (iv.i.op != 6)) rfl rfl rfl rfl (fun c4 => ?_) (fun c4 => ?_)
 ·
  try simp only [BS] at c4
  have hq := c4
  refine wR 1 [] 4 4 [] [(4, (.slice none 0 0))] trivial rfl fun _ => ?_
  refine ag ⟨.inr rfl, _, rfl, none, 0, ([] : List Int), _, fR, (HS.forget U), rfl, (SR.nil : SR F (.slice none 0 0) ([] : List Int)), (by first | exact (if_neg hq).symm | exact (if_pos hq).symm | exact (if_pos (by omega)).symm)⟩
 ·
  try simp only [BS] at c4
  have hq := c4
  refine bc rfl ?_
  refine fm (.slice a_l l.length k_l) rfl rfl rfl ?_
  refine am (v := (.pointer (some ⟨b1, 0, none⟩))) (id := .v) (dA rfl rfl) rfl rfl (br rfl) (be _) ?_
  refine am (v := (.pointer (some ⟨b1, 1, none⟩))) (id := .v) (dA rfl rfl) rfl rfl (br rfl) (be _) ?_
  refine am (v := (iI iv.i.a)) (id := .l b1) (bN (i := 1) rfl rfl (HS.hc U.log0 (i := 0) rfl) rfl rfl) rfl rfl (bT rfl) (⟨.inl rfl, ⟨.inl rfl, ⟨.inr trivial, trivial⟩⟩⟩) ?_
  refine dC (id := .a) (bA (α := Int) (ps := [(0, (iI iv.i.a))]) (cells := [(iI iv.i.a)]) ([iv.i.a] : List Int) U.log0 rfl rfl rfl (by kernel_rfl) ⟨[(iI iv.i.a)], [], rfl, ⟨rfl, by omega⟩, rfl⟩ rfl) rfl rfl (fun _ _ _ _ => did_a rfl rfl rfl) (⟨.inl rfl, ⟨.inl rfl, ⟨.inl rfl, ⟨.inr trivial, trivial⟩⟩⟩⟩) ?_
  rintro _ H7 p6 ⟨a6, k6, rfl, b2, V, _⟩ b4 a8
  replace V := HS.lg V U a8
  generalize ({ H7 with log := b4 } : Heap) = dl at V ⊢
  have V : HS _ _ _ [_, p6] _ := V
  obtain ⟨F8, aw, ad, b3, dt⟩ := OS.frz b2 V (i := 1) rfl
  have ad : HS _ _ _ [_, []] _ := ad
  replace hT := hT.mono aw
  replace hl := hl.mono aw
  refine aX (W := []) (ah rfl rfl rfl) rfl rfl rfl (ma.minus_c ex l ([iv.i.a] : List Int) (HS.call ad.log0) hl b3 hT (by first | omega | (simp; omega))) (⟨.inl rfl, ⟨.inl rfl, ⟨.inl rfl, ⟨.inl rfl, ⟨.inl rfl, trivial⟩⟩⟩⟩⟩) ?_
  rintro _ H9 ⟨ds, dv, r9, p9, F9, a1, E, rfl, av, rfl⟩
  refine ⟨Wr.did E.log, fun b5 a9 => ?_⟩
  replace E := HS.back ad.log0 rfl E
  replace E := HS.lg E ad a9
  generalize ({ H9 with log := b5 } : Heap) = dn at E ⊢
  have E : HS _ _ _ [_, _, p9] _ := E
  replace hT := hT.mono a1
  replace Y := (Y.mono aw).mono a1
  refine am (v := (.agg ⟨[(iI iv.i.op), (iI iv.i.a), (iI iv.i.b), (iI iv.i.c), (iI iv.i.n), (.slice J iv.args.length N)]⟩)) (id := .l b1) (cY (i := 0) rfl rfl rfl (HS.hc E.log0 (i := 0) rfl) rfl rfl rfl) rfl rfl (bT rfl) (⟨.inr List.not_mem_nil, ⟨.inr trivial, ⟨.inr trivial, ⟨.inr trivial, ⟨.inr trivial, ⟨.inr trivial, trivial⟩⟩⟩⟩⟩⟩) ?_
  refine aX (W := []) (ah rfl rfl rfl) rfl rfl rfl (ma.rreads_c ex iv (HS.call E.log0) (by omega) (by omega) (by omega) (by omega) (by omega) Y hT (by omega)) (⟨.inl rfl, ⟨.inl rfl, ⟨.inl rfl, ⟨.inl rfl, ⟨.inl rfl, ⟨.inl rfl, ⟨.inl rfl, trivial⟩⟩⟩⟩⟩⟩⟩) ?_
  rintro _ bz ⟨c3, c6, d1, c9, al, z, rfl, Z, rfl⟩
  refine ⟨Wr.did z.log, fun bk a3 => ?_⟩
  replace z := HS.back E.log0 rfl z
  replace z := HS.lg z E a3
  generalize ({ bz with log := bk } : Heap) = ci at z ⊢
  have z : HS _ _ _ [_, _, _] _ := z
  replace av := av.mono al
  obtain ⟨dd, an, T, bb, c5⟩ := OS.frz av z (i := 2) rfl
  have T : HS _ _ _ [_, _, []] _ := T
  replace hT := (hT.mono al).mono an
  replace Z := Z.mono an
  refine aX (W := []) (ah rfl rfl rfl) rfl rfl rfl (ma.ev ex (jI l ([iv.i.a] : List Int)) (aW iv) (HS.call T.log0) bb Z hT (by have h1 : (jI l [iv.i.a]).length ≤ l.length := List.length_filter_le _ _; have h2 := gj (v := iv); omega)) (⟨.inl rfl, ⟨.inl rfl, ⟨.inl rfl, ⟨.inl rfl, ⟨.inl rfl, ⟨.inl rfl, ⟨.inl rfl, ⟨.inl rfl, trivial⟩⟩⟩⟩⟩⟩⟩⟩) ?_
  rintro _ b0 ⟨ax, a2, d2, dk, a7, A, rfl, a5, rfl⟩
  refine ⟨Wr.did A.log, fun bl a4 => ?_⟩
  replace A := HS.back T.log0 rfl A
  replace A := HS.lg A T a4
  generalize ({ b0 with log := bl } : Heap) = cl at A ⊢
  have A : HS _ _ _ [_, _, _] _ := A
  refine fa (.slice ax (cH (jI l ([iv.i.a] : List Int)) (aW iv)).length a2) rfl rfl rfl ?_
  refine cz ?_
  refine aj 1 rfl ?_
  refine ag ⟨.inr rfl, _, rfl, ax, a2, cH (jI l ([iv.i.a] : List Int)) (aW iv), _, (fT (fT (fT (fT (aw) a1) al) an) a7), (HS.forget A), rfl, a5, (by first | exact (if_neg hq).symm | exact (if_pos hq).symm | exact (if_pos (by omega)).symm)⟩
end Go.Proofs.YtlabedbmgmfbaaaDoor.mh
