/-
 Live registers: the reference, by symbolic runs. No condition but bounds on lengths.
-/
import Derived.Test.YtknafdcgpaejlaaDoorZGMG
noncomputable section
namespace Go.Proofs.YtknafdcgpaejlaaDoor.mh
open Go.R
set_option maxRecDepth 10000
set_option linter.unusedVariables false
set_option linter.unusedSimpArgs false
variable (ex : FuncId) {F : Fz} {H : Heap} {R : List Fp}
open m1 m2 m3 m4 m5 m6 ma ml mb mc md mf mg
theorem sameL_yes {a b : List (List Int)} (hl : a.length = b.length) {k : Nat} (h : ∀ j, j < k → a.getD j default = b.getD j default) (hk : a.length ≤ k) : true = decide (a = b) := by
 symm; apply decide_eq_true
 apply a1X hl
 intro j z A
 have := h j (by omega)
 rwa [a01, a01, a03 z, a03 A] at this
theorem sameL_no {a b : List (List Int)} {k : Nat} (h : ¬ a.getD k default = b.getD k default) : false = decide (a = b) := by symm; apply decide_eq_false; intro e; rw [e] at h; exact h rfl
theorem sameL_len {a b : List (List Int)} (h : ¬ (a.length : Int) = (b.length : Int)) : false = decide (a = b) := by symm; apply decide_eq_false; intro e; rw [e] at h; exact h rfl
theorem sameLists_c {a_a : Option Addr} {k_a : Nat} (a : List (List Int)) {a_b : Option Addr} {k_b : Nat} (b : List (List Int)) (hs : HS (.of H []) F H [] R) (ha : SR F (.slice a_a a.length k_a) a) (hb : SR F (.slice a_b b.length k_b) b) (hT : TB 37 tabC F) (hal : a.length ≤ 1073741824) (hlen : ∀ j, (a.getD j default).length ≤ 1073741824) : kKt ex 19 [(.slice a_a a.length k_a), (.slice a_b b.length k_b)] H fun v H' => ∃ (r : Bool), H' = H ∧ v = .bool r ∧ r = decide (a = b) := by
 refine aI Tryd.func19 rfl rfl (ah 1 rfl (wT 3 [] 4 4 [] [(4, (.bool false))] rfl fun _ => wT 1 [] 6 10 [] [(10, (.bool ((a.length : Int) != (b.length : Int))))] rfl fun _ => am 1 3 (v := ((a.length : Int) != (b.length : Int))) rfl rfl rfl rfl (fun E => ?_) (fun E => ?_)))
 ·
  have Z := E
  try simp only [BS] at Z
  refine wT 1 [] 4 4 [] [(4, (.bool false))] rfl fun _ => ak ⟨.inr rfl, _, rfl, false, rfl, rfl, (sameL_len (by omega))⟩
 have Z := E
 try simp only [BS] at Z
 refine wT 2 [] 1 0 [5] [(5, (iI 0))] rfl fun _ => aj (fun (mm : Nat) f H' => ∃ (k : Nat), H' = H ∧ aD f [(0, (.slice a_a a.length k_a)), (1, (.slice a_b b.length k_b)), (5, (iI (k : Int)))] ∧ mm = a.length - k ∧ (k ≤ a.length) ∧ (∀ j, j < k → a.getD j default = b.getD j default)) _ ⟨0, rfl, ⟨rfl, rfl, rfl, trivial⟩, rfl, (by omega), (by intro j hj; omega)⟩ ?_
 rintro av f6 H ⟨k, rfl, V, rfl, h1, h2⟩ al
 refine au _ V (fun _ => ?_)
 clear V
 refine ah 2 rfl (wT 1 [] 11 14 [] [(14, (.bool (decide ((k : Int) < (a.length : Int)))))] rfl fun _ => am 4 5 (v := (decide ((k : Int) < (a.length : Int)))) rfl rfl rfl rfl (fun J => ?_) (fun J => ?_))
 ·
  have c8 := J
  try simp only [BS] at c8
  obtain ⟨U, Y⟩ := Sv.view (SR.sv ha hs)
  have an := fL (Y k)
  obtain ⟨N, T⟩ := Sv.view (SR.sv hb hs)
  have ar := fL (T k)
  refine wRD 1 [(3, .o (.slice (cA (U k) 0) (a.getD k default).length (cK (U k) 0))), (7, .o (.slice (cA (N k) 0) (b.getD k default).length (cK (N k) 0))), (8, .o (.bool (decide ((a.getD k default) = (b.getD k default)))))] 17 26 [] [(26, (.bool (!(decide ((a.getD k default) = (b.getD k default))))))] (vA (Sv.ix (j := (k : Int)) (SR.sv ha hs) (by omega) (by omega)) (vA (ql 25 0 (hc0 (vL (Y k) (by omega))) rfl rfl) (vA (Sv.ix (j := (k : Int)) (SR.sv hb hs) (by omega) (by omega)) (vA (ql 25 0 (hc0 (vL (T k) (by omega))) rfl rfl) (vA (m6.j9 ex (a.getD k default) (b.getD k default) (HS.call hs.log0) an ar hT (hlen _)) trivial))))) rfl rfl fun _ => am 1 2 (v := (!(decide ((a.getD k default) = (b.getD k default))))) rfl rfl rfl rfl (fun z => ?_) (fun z => ?_)
  ·
   have A := z
   try simp only [BS] at A
   refine wT 1 [] 4 4 [] [(4, (.bool false))] rfl fun _ => ak ⟨.inr rfl, _, rfl, false, rfl, rfl, (sameL_no (k := k) (by assumption))⟩
  have A := z
  try simp only [BS] at A
  refine wU 1 [] 15 16 [5] [(5, (iI ((k : Int) + 1)))] (vi (n := (k : Int) + 1) (by omega)) rfl fun _ => al _ _ _ ?_ ⟨k + 1, rfl, ⟨rfl, rfl, rfl, trivial⟩, rfl, (by omega), (gw h2 (by assumption))⟩
  omega
 have c8 := J
 try simp only [BS] at c8
 refine wT 1 [] 4 4 [] [(4, (.bool true))] rfl fun _ => ak ⟨.inr rfl, _, rfl, true, rfl, rfl, (sameL_yes (by omega) h2 (by omega))⟩
def oS (o : List Int) (r : Nat) : Prop := (r : Int) ∈ o
structure RpO (b : BlkT) (o : List Int) (g : Int) : Prop where
 gb : 0 ≤ g ∧ g ≤ 3000
 len : b.ins.length ≤ 1073741824
 ins : ∀ i, i < b.ins.length → (∀ x ∈ aw (b.ins.getD i default), 0 ≤ x ∧ x < g) ∧ (∀ x ∈ ab (b.ins.getD i default), 0 ≤ x ∧ x < g) ∧ (b.ins.getD i default).args.length ≤ 6
 fin : ∀ x ∈ df b, 0 ≤ x ∧ x < g
 asc : Asc o
 mem : ∀ x ∈ o, 0 ≤ x ∧ x < g
theorem RpO.lst {b : BlkT} {o : List Int} {g : Int} (h : RpO b o g) : Lst o (oS o) := ⟨h.asc, fun x => ⟨fun hx => ⟨(h.mem x hx).1, by have := (h.mem x hx).1; unfold oS; rwa [show ((x.toNat : Nat) : Int) = x by omega]⟩, fun hx => by have := hx.2; unfold oS at this; rwa [show ((x.toNat : Nat) : Int) = x by omega] at this⟩⟩
def rpS (b : BlkT) (o : List Int) (i : Nat) : Nat → Prop := tr (b.ins.drop i) (endS b (oS o))
theorem rp_lt {b : BlkT} {o : List Int} {g : Int} (h : RpO b o g) {i r : Nat} (hr : rpS b o i r) : (r : Int) < g := by
 have key : ∀ (l : List VInT), (∀ w ∈ l, w ∈ b.ins) → ∀ r, tr l (endS b (oS o)) r → (r : Int) < g := by
  intro l
  induction l with
  | nil =>
   intro _ r hr
   rcases hr with z | z
   ·
    exact (h.mem _ z).2
   exact (h.fin _ z).2
  | cons w l ih =>
   intro hw r hr
   rcases hr with hr | hr
   ·
    obtain ⟨i, hi, he⟩ := a0D.1 (hw w (a0A ..))
    have := (h.ins i hi).1
    rw [a01, a03 hi, a0Q, he] at this
    exact (this _ hr).2
   exact ih (fun x hx => hw x (a0j _ hx)) r hr.1
 exact key _ (fun w hw => a21 hw) r hr
theorem rp_start {b : BlkT} {o : List Int} {g : Int} (h : RpO b o g) : Lst (cR o (df b)) (rpS b o b.ins.length) := by
 have z := Lst.addL h.lst (fun x hx => (h.fin x hx).1)
 refine ⟨z.asc, fun x => ?_⟩
 rw [z.mem]
 unfold rpS
 rw [List.drop_length]
 exact Iff.rfl
theorem rp_step {b : BlkT} {o l : List Int} {g : Int} {i : Nat} (h : RpO b o g) (hi : i < b.ins.length) (hl : Lst l (rpS b o (i + 1))) : Lst (cR (jk l (ab (b.ins.getD i default))) (aw (b.ins.getD i default))) (rpS b o i) := by
 have hv := h.ins i hi
 have E := Lst.addL (l := aw (b.ins.getD i default)) (Lst.minus (w := ab (b.ins.getD i default)) hl) fun x hx => (hv.1 x hx).1
 refine ⟨E.asc, fun x => ?_⟩
 rw [E.mem]
 unfold rpS
 rw [tr_drop hi]
 constructor
 ·
  rintro ⟨A, z | z⟩
  ·
   exact ⟨A, .inr z⟩
  exact ⟨A, .inl z⟩
 rintro ⟨A, z | z⟩
 ·
  exact ⟨A, .inr z⟩
 exact ⟨A, .inl z⟩
structure RpF (b : BlkT) (o : List Int) (l : List (List Int)) : Prop where
 len : l.length = b.ins.length + 1
 pt : ∀ i, i ≤ b.ins.length → Lst (l.getD i default) (rpS b o i)
theorem rset {b : BlkT} {o : List Int} {i : Nat} {l : List (List Int)} {x : List Int} (hl : l.length = b.ins.length + 1) (h : ∀ j, i < j → j ≤ b.ins.length → Lst (l.getD j default) (rpS b o j)) (hi : i ≤ b.ins.length) (hx : Lst x (rpS b o i)) : ∀ j, i ≤ j → j ≤ b.ins.length → Lst ((l.set i x).getD j default) (rpS b o j) := fun j A z => by
 rw [d8]
 split
 ·
  rename_i e; obtain ⟨rfl, _⟩ := e; exact hx
 rename_i e; exact h j (by omega) z
theorem end_len {b : BlkT} : (df b).length ≤ 1 := by unfold df; split <;> simp
set_option maxHeartbeats 2000000 in
theorem rpoints_c {E : Option Addr} {J : Nat} (b : BlkT) {a_o : Option Addr} {k_o : Nat} (o : List Int) (hs : HS (.of H []) F H [] R) (V : SR F (.slice E b.ins.length J) b.ins) (hX : in64 b.fin) (hY : in64 b.reg) (h3 : in64 b.tgt) (h4 : in64 b.els) (ho : SR F (.slice a_o o.length k_o) o) (hT : TB 37 tabC F) (hp : ∃ g, RpO b o g) : kKt ex 67 [(.agg ⟨[(.slice E b.ins.length J), (iI b.fin), (iI b.reg), (iI b.tgt), (iI b.els)]⟩), (.slice a_o o.length k_o)] H fun v H' => ∃ (al : Option Addr) (kl : Nat) (l : List (List Int)) (p : Fp) (F' : Fz), Fz.le F F' ∧ HS (.of H []) F' H' [p] R ∧ v = .slice al l.length kl ∧ OS F' (.slice al l.length kl) l p ∧ (RpF b o l) := by
 obtain ⟨g, hp⟩ := hp
 have hbl := hp.len
 have hg := hp.gb
 have hol := Lst.len hp.lst hg.1 (fun r h => (hp.mem _ h).2)
 have hel := end_len (b := b)
 have hrl : (List.replicate (b.ins.length + 1) ([] : List Int)).length = b.ins.length + 1 := a0P
 refine aI Tryd.func67 rfl rfl (ah 1 rfl (aa (aH (bw hs rfl rfl) rfl rfl ?_)))
 rintro _ H2 _ ⟨b1, rfl, (d4 : HS _ _ _ [[(b1, .cells [(.slice E b.ins.length J), (iI b.fin), (iI b.reg), (iI b.tgt), (iI b.els)] none false)]] _), _⟩
 refine wa (.slice none 0 0) rfl rfl rfl (ae 2 rfl (aa (wRo 4 0 [(1, .o (.slice E b.ins.length J))] 7 10 [] [(10, (iI ((b.ins.length : Int) + 1)))] (vA (ql 46 0 (HS.hc d4 (i := 0) rfl) rfl rfl) (vA (vi (n := (b.ins.length : Int) + 1) (by omega)) trivial)) rfl fun _ => aH (dg ([] : (List Int)) d4 rfl rfl rfl rfl rfl rfl rfl rfl rfl ⟨none, 0, rfl, SR.nil⟩ (by omega) (by omega)) rfl rfl ?_)))
 rintro _ H5 p4 ⟨a4, k4, rfl, a5, (a6 : HS _ _ _ [_, p4] _), _⟩
 have a5 : OS F (.slice a4 (List.replicate (b.ins.length + 1) ([] : (List Int))).length k4) (List.replicate (b.ins.length + 1) ([] : (List Int))) p4 := a5
 refine wa (.slice a4 (List.replicate (b.ins.length + 1) ([] : (List Int))).length k4) rfl rfl rfl (ae 2 rfl (aY rfl (fm (.slice a4 (List.replicate (b.ins.length + 1) ([] : (List Int))).length k4) rfl rfl rfl (wfv (v := (.pointer (some ⟨b1, 0, none⟩))) (dG rfl rfl) (aB (v := (.slice E b.ins.length J)) (id := .l b1) (bt (i := 0) rfl rfl (HS.hc a6.log0 (i := 0) rfl) rfl rfl) rfl rfl (bG rfl) (kb rfl) ?_)))))
 refine aB (v := (iI (b.ins.length : Int))) (id := .v) (jh (α := VInT) rfl rfl (SR.sv V a6.log0)) rfl rfl (i5 rfl) (cO _) (fm (.slice a_o o.length k_o) rfl rfl rfl (aB (v := (.agg ⟨[(.slice E b.ins.length J), (iI b.fin), (iI b.reg), (iI b.tgt), (iI b.els)]⟩)) (id := .l b1) (dL (i := 0) rfl rfl rfl (HS.hc a6.log0 (i := 0) rfl) rfl rfl rfl) rfl rfl (bG rfl) (kb rfl) (bj (W := []) (ap rfl rfl rfl) rfl rfl rfl (ma.rend_c ex b (HS.call a6.log0) V (by omega) (by omega) (by omega) (by omega) hT) (⟨.inl rfl, ⟨.inr trivial, ⟨.inr trivial, ⟨.inr a0f, ⟨.inr trivial, ⟨.inr trivial, trivial⟩⟩⟩⟩⟩⟩) ?_)))
 rintro _ H6 ⟨j0, kc, r6, p6, F6, b4, av, rfl, f1, rfl⟩
 refine ⟨Wr.did av.log, fun he e0 => ?_⟩
 replace av := HS.back a6.log0 rfl av
 replace av := HS.lg av a6 e0
 generalize ({ H6 with log := he } : Heap) = jq at av ⊢
 have av : HS _ _ _ [_, _, p6] _ := av
 obtain ⟨F7, b6, b7, ha, j2⟩ := OS.frz f1 av (i := 2) rfl
 have b7 : HS _ _ _ [_, _, []] _ := b7
 replace hT := (hT.mono b4).mono b6
 replace ho := (ho.mono b4).mono b6
 refine bj (W := []) (ap rfl rfl rfl) rfl rfl rfl (ma.gn ex o (df b) (HS.call b7.log0) ho ha hT (by omega)) (⟨.inl rfl, ⟨.inl rfl, ⟨.inl rfl, ⟨.inr trivial, ⟨.inr a0f, ⟨.inr trivial, ⟨.inr trivial, trivial⟩⟩⟩⟩⟩⟩⟩) ?_
 rintro _ H8 ⟨g8, hb, r8, F8, ch, an, rfl, f2, rfl⟩
 refine ⟨Wr.did an.log, fun hf e1 => ?_⟩
 replace an := HS.back b7.log0 rfl an
 replace an := HS.lg an b7 e1
 generalize ({ H8 with log := hf } : Heap) = jw at an ⊢
 have an : HS _ _ _ [_, _, _] _ := an
 replace a5 := ((a5.mono b4).mono b6).mono ch
 refine wfv (v := (.pointer (some ⟨sB (.slice a4 (List.replicate (b.ins.length + 1) ([] : (List Int))).length k4), sO (.slice a4 (List.replicate (b.ins.length + 1) ([] : (List Int))).length k4) + b.ins.length * Rp.sz (List Int), none⟩))) (bd (α := (List Int)) (j := (b.ins.length : Int)) rfl rfl rfl rfl (OS.sv a5 an.log0 (i := 1) rfl) (by omega) (by omega)) (iu (id := .x (p4.map Prod.fst)) (bY (α := (List Int)) (j := b.ins.length) (off := 0) (q := 1) (cR o (df b)) a5 an.log0 rfl rfl rfl rfl rfl rfl rfl rfl (aK (x := default) (by omega)) rfl (by rintro cs ⟨_, _, rfl, _⟩; exact ⟨a04 rfl, ⟨g8, hb, rfl, f2⟩⟩)) rfl (by rintro _ _ p9 ⟨bk, _, hwr⟩; exact cz rfl rfl (Wr.did hwr)) (kb rfl) ?_)
 rintro _ g2 p9 ⟨bk, ar, _⟩ f5 c7
 replace ar := HS.lg ar an c7
 generalize ({ g2 with log := f5 } : Heap) = hB at ar ⊢
 have ar : HS _ _ _ [_, p9, _] _ := ar
 have h5 := OS.len' bk
 refine cu (ah 3 rfl (wR 2 [(1, .o (.slice E b.ins.length J))] 21 24 [6] [(6, (iI ((b.ins.length : Int) - 1)))] (vA (ql 46 0 (HS.hc ar (i := 0) rfl) rfl rfl) (vA (vi (n := (b.ins.length : Int) - 1) (by omega)) trivial)) rfl fun _ => aj (fun (mm : Nat) f H' => ∃ (pl : List (List Int)) (iz : Int) (z : Option Addr) (A : Nat) (Y : Fp) (F' : Fz), Fz.le F8 F' ∧ HS (Base.of H []) F' H' [[(b1, .cells [(.slice E b.ins.length J), (iI b.fin), (iI b.reg), (iI b.tgt), (iI b.els)] none false)], Y, []] R ∧ OS F' (.slice z pl.length A) pl Y ∧ aD f [(2, (.pointer (some ⟨b1, 0, none⟩))), (5, (.slice z pl.length A)), (6, (iI iz))] ∧ mm = (iz + 1).toNat ∧ (pl.length = b.ins.length + 1) ∧ (-1 ≤ iz ∧ iz < (b.ins.length : Int)) ∧ (∀ j, (iz + 1).toNat ≤ j → j ≤ b.ins.length → Lst (pl.getD j default) (rpS b o j))) _ ⟨(List.replicate (b.ins.length + 1) ([] : (List Int))).set b.ins.length (cR o (df b)), (b.ins.length : Int) - 1, a4, k4, p9, _, fR, ar, (OS.norm bk), (agC rfl (agC (show Value.slice a4 (List.replicate (b.ins.length + 1) ([] : (List Int))).length k4 = Value.slice a4 ((List.replicate (b.ins.length + 1) ([] : (List Int))).set b.ins.length (cR o (df b))).length k4 by rw [OS.len' bk]) ⟨rfl, trivial⟩)), rfl, (by simp), (by omega), (fun j h1 h2 => by (rw [show j = b.ins.length by omega, d8, if_pos ⟨rfl, by simp⟩]; exact rp_start hp))⟩ ?_))
 rintro ik j1 jc ⟨pl, iz, z, A, Y, it, a7, Z, U, co, rfl, e2, e3, e5⟩ f3
 refine au _ co (fun _ => ?_)
 clear co
 replace hT := (hT.mono ch).mono a7
 replace V := (((V.mono b4).mono b6).mono ch).mono a7
 refine ah 2 rfl (wT 1 [] 25 26 [] [(26, (.bool (decide ((0 : Int) ≤ iz))))] rfl fun _ => am 3 5 (v := (decide ((0 : Int) ≤ iz))) rfl rfl rfl rfl (fun cc => ?_) (fun cc => ?_))
 ·
  have ci := cc
  try simp only [BS] at ci
  have hin : iz.toNat < b.ins.length := by omega
  have hvl := hp.ins iz.toNat hin
  have h9 : (b.ins.getD iz.toNat default).args.length ≤ 6 := hvl.2.2
  have hpl := Lst.len (e5 (iz + 1).toNat (a08 _) (by omega)) hg.1 (fun r h => rp_lt hp h)
  have hwl := cG (v := (b.ins.getD iz.toNat default))
  have h8 := ej (v := (b.ins.getD iz.toNat default))
  have hml : (jk (pl.getD (iz + 1).toNat default) (ab (b.ins.getD iz.toNat default))).length ≤ (pl.getD (iz + 1).toNat default).length := a1U _ _
  refine aY rfl (fm (.slice z pl.length A) rfl rfl rfl (fm (iI iz) rfl rfl rfl (fm (.slice z pl.length A) rfl rfl rfl (fm (iI iz) rfl rfl rfl (wfv (v := (iI (iz + 1))) (ap_add rfl rfl (w_i64 (n := iz + 1) (by omega))) ?_)))))
  refine wfv (v := (.pointer (some ⟨sB (.slice z pl.length A), sO (.slice z pl.length A) + (iz + 1).toNat * Rp.sz (List Int), none⟩))) (bd (α := (List Int)) (j := iz + 1) rfl rfl rfl rfl (OS.sv U Z.log0 (i := 1) rfl) (by omega) (by omega)) ?_
  obtain ⟨hR, e4, es⟩ := Sv.at (OS.sv U Z.log0 (i := 1) rfl) (aK (x := default) (show (iz + 1).toNat < pl.length from by omega))
  obtain ⟨c3, dt, rfl, b2⟩ := e4
  refine aB (v := (.slice c3 (pl.getD (iz + 1).toNat default).length dt)) (id := .l (sB (.slice z pl.length A))) (bt (i := 0) rfl rfl es rfl rfl) rfl rfl (bG rfl) (kb rfl) (wfv (v := (.pointer (some ⟨b1, 0, none⟩))) (dG rfl rfl) (aB (v := (.slice E b.ins.length J)) (id := .l b1) (bt (i := 0) rfl rfl (HS.hc Z.log0 (i := 0) rfl) rfl rfl) rfl rfl (bG rfl) (kb rfl) (fm (iI iz) rfl rfl rfl (wfv (v := (.pointer (some ⟨sB (.slice E b.ins.length J), sO (.slice E b.ins.length J) + iz.toNat * Rp.sz VInT, none⟩))) (bd (α := VInT) (j := iz) rfl rfl rfl rfl (SR.sv V Z.log0) (by omega) (by omega)) ?_))))
  obtain ⟨hS, e6, et⟩ := Sv.at (SR.sv V Z.log0) (aK (x := default) (show iz.toNat < b.ins.length from by omega))
  obtain ⟨c4, dv, rfl, hk, hl, hm, hn, hq, d2⟩ := e6
  refine aB (v := (.agg ⟨[(iI (b.ins.getD iz.toNat default).i.op), (iI (b.ins.getD iz.toNat default).i.a), (iI (b.ins.getD iz.toNat default).i.b), (iI (b.ins.getD iz.toNat default).i.c), (iI (b.ins.getD iz.toNat default).i.n), (.slice c4 (b.ins.getD iz.toNat default).args.length dv)]⟩)) (id := .l (sB (.slice E b.ins.length J))) (dL (i := 0) rfl rfl rfl et rfl rfl rfl) rfl rfl (bG rfl) (kb rfl) (bj (W := []) (ap rfl rfl rfl) rfl rfl rfl (ma.iF ex (b.ins.getD iz.toNat default) (HS.call Z.log0) (by omega) (by omega) (by omega) (by omega) (by omega) d2 hT) (⟨.inl rfl, ⟨.inl rfl, ⟨.inl rfl, ⟨.inl rfl, ⟨.inl rfl, ⟨.inr a0f, ⟨.inr trivial, ⟨.inr trivial, ⟨.inr trivial, ⟨.inr trivial, ⟨.inr trivial, ⟨.inr trivial, trivial⟩⟩⟩⟩⟩⟩⟩⟩⟩⟩⟩⟩) ?_)
  rintro _ g3 ⟨hK, ib, kd, hh, iv, ay, ad, rfl, dn, rfl⟩
  refine ⟨Wr.did ad.log, fun f6 c8 => ?_⟩
  replace ad := HS.back Z.log0 rfl ad
  replace ad := HS.lg ad Z c8
  generalize ({ g3 with log := f6 } : Heap) = hC at ad ⊢
  have ad : HS _ _ _ [_, Y, _, hh] _ := ad
  obtain ⟨i1, a0, a1, fd, h6⟩ := OS.frz dn ad (i := 3) rfl
  have a1 : HS _ _ _ [_, _, _, []] _ := a1
  replace hT := (hT.mono ay).mono a0
  replace b2 := (b2.mono ay).mono a0
  refine bj (W := []) (ap rfl rfl rfl) rfl rfl rfl (ma.minus_c ex (pl.getD (iz + 1).toNat default) (ab (b.ins.getD iz.toNat default)) (HS.call a1.log0) b2 fd hT (by omega)) (kb rfl) ?_
  rintro _ g4 ⟨hM, ih, kg, hj, i2, a8, N, rfl, bz, rfl⟩
  refine ⟨Wr.did N.log, fun f7 c9 => ?_⟩
  replace N := HS.back a1.log0 rfl N
  replace N := HS.lg N a1 c9
  generalize ({ g4 with log := f7 } : Heap) = hD at N ⊢
  have N : HS _ _ _ [_, _, _, _, hj] _ := N
  replace hT := hT.mono a8
  replace V := ((V.mono ay).mono a0).mono a8
  refine wfv (v := (.pointer (some ⟨b1, 0, none⟩))) (dG rfl rfl) (aB (v := (.slice E b.ins.length J)) (id := .l b1) (bt (i := 0) rfl rfl (HS.hc N.log0 (i := 0) rfl) rfl rfl) rfl rfl (bG rfl) (⟨.inl rfl, ⟨.inr a0f, ⟨.inr a0f, ⟨.inr trivial, ⟨.inr trivial, ⟨.inr trivial, ⟨.inr trivial, ⟨.inr trivial, ⟨.inr trivial, ⟨.inr trivial, ⟨.inr trivial, ⟨.inr trivial, ⟨.inr trivial, ⟨.inr trivial, ⟨.inr trivial, trivial⟩⟩⟩⟩⟩⟩⟩⟩⟩⟩⟩⟩⟩⟩⟩) (fm (iI iz) rfl rfl rfl (wfv (v := (.pointer (some ⟨sB (.slice E b.ins.length J), sO (.slice E b.ins.length J) + iz.toNat * Rp.sz VInT, none⟩))) (bd (α := VInT) (j := iz) rfl rfl rfl rfl (SR.sv V N.log0) (by omega) (by omega)) ?_)))
  obtain ⟨hV, fi, ez⟩ := Sv.at (SR.sv V N.log0) (aK (x := default) (show iz.toNat < b.ins.length from by omega))
  obtain ⟨c5, d1, rfl, hr, ht, hu, hv, hw, d3⟩ := fi
  refine aB (v := (.agg ⟨[(iI (b.ins.getD iz.toNat default).i.op), (iI (b.ins.getD iz.toNat default).i.a), (iI (b.ins.getD iz.toNat default).i.b), (iI (b.ins.getD iz.toNat default).i.c), (iI (b.ins.getD iz.toNat default).i.n), (.slice c5 (b.ins.getD iz.toNat default).args.length d1)]⟩)) (id := .l (sB (.slice E b.ins.length J))) (dL (i := 0) rfl rfl rfl ez rfl rfl rfl) rfl rfl (bG rfl) (⟨.inl rfl, ⟨.inl rfl, ⟨.inl rfl, ⟨.inl rfl, ⟨.inr a0f, ⟨.inr a0f, ⟨.inr trivial, ⟨.inr trivial, ⟨.inr trivial, ⟨.inr trivial, ⟨.inr trivial, ⟨.inr trivial, ⟨.inr trivial, ⟨.inr trivial, ⟨.inr trivial, ⟨.inr trivial, ⟨.inr trivial, ⟨.inr trivial, trivial⟩⟩⟩⟩⟩⟩⟩⟩⟩⟩⟩⟩⟩⟩⟩⟩⟩⟩) (bj (W := []) (ap rfl rfl rfl) rfl rfl rfl (ma.rreads_c ex (b.ins.getD iz.toNat default) (HS.call N.log0) (by omega) (by omega) (by omega) (by omega) (by omega) d3 hT (by omega)) (kb rfl) ?_)
  rintro _ g5 ⟨hQ, ii, ki, i3, a9, ag, rfl, b0, rfl⟩
  refine ⟨Wr.did ag.log, fun f8 dd => ?_⟩
  replace ag := HS.back N.log0 rfl ag
  replace ag := HS.lg ag N dd
  generalize ({ g5 with log := f8 } : Heap) = hE at ag ⊢
  have ag : HS _ _ _ [_, _, _, _, _] _ := ag
  replace bz := bz.mono a9
  obtain ⟨ja, bb, a2, f0, h7⟩ := OS.frz bz ag (i := 4) rfl
  have a2 : HS _ _ _ [_, _, _, _, []] _ := a2
  replace hT := (hT.mono a9).mono bb
  replace b0 := b0.mono bb
  refine bj (W := []) (ap rfl rfl rfl) rfl rfl rfl (ma.gn ex (jk (pl.getD (iz + 1).toNat default) (ab (b.ins.getD iz.toNat default))) (aw (b.ins.getD iz.toNat default)) (HS.call a2.log0) f0 b0 hT (by omega)) (kb rfl) ?_
  rintro _ g6 ⟨ea, f4, kk, jb, cl, T, rfl, ds, rfl⟩
  refine ⟨Wr.did T.log, fun f9 dk => ?_⟩
  replace T := HS.back a2.log0 rfl T
  replace T := HS.lg T a2 dk
  generalize ({ g6 with log := f9 } : Heap) = hF at T ⊢
  have T : HS _ _ _ [_, _, _, _, _] _ := T
  replace U := (((((U.mono ay).mono a0).mono a8).mono a9).mono bb).mono cl
  refine wfv (v := (.pointer (some ⟨sB (.slice z pl.length A), sO (.slice z pl.length A) + iz.toNat * Rp.sz (List Int), none⟩))) (bd (α := (List Int)) (j := iz) rfl rfl rfl rfl (OS.sv U T.log0 (i := 1) rfl) (by omega) (by omega)) (iu (id := .x (Y.map Prod.fst)) (bY (α := (List Int)) (j := iz.toNat) (off := 0) (q := 1) (cR (jk (pl.getD (iz + 1).toNat default) (ab (b.ins.getD iz.toNat default))) (aw (b.ins.getD iz.toNat default))) U T.log0 rfl rfl rfl rfl rfl rfl rfl rfl (aK (x := default) (by omega)) rfl (by rintro cs ⟨_, _, rfl, _⟩; exact ⟨a04 rfl, ⟨ea, f4, rfl, ds⟩⟩)) rfl (by rintro _ _ c0 ⟨bl, _, hwr⟩; exact cz rfl rfl (Wr.did hwr)) (kb rfl) ?_)
  rintro _ g7 c0 ⟨bl, ax, _⟩ go dl
  replace ax := HS.lg ax T dl
  generalize ({ g7 with log := go } : Heap) = hG at ax ⊢
  have ax : HS _ _ _ [_, c0, _, _, _] _ := ax
  have hz := OS.len' bl
  refine cu (ah 2 rfl (wU 1 [] 27 28 [6] [(6, (iI (iz - 1)))] (vi (n := iz - 1) (by omega)) rfl fun _ => f3 _ _ _ ?_ ⟨pl.set iz.toNat (cR (jk (pl.getD (iz + 1).toNat default) (ab (b.ins.getD iz.toNat default))) (aw (b.ins.getD iz.toNat default))), iz - 1, z, A, c0, _, (fT (fT (fT (fT (fT (fT (a7) ay) a0) a8) a9) bb) cl), (HS.sub ax (a05 _ _)), (OS.norm bl), (agC rfl (agC (show Value.slice z pl.length A = Value.slice z (pl.set iz.toNat (cR (jk (pl.getD (iz + 1).toNat default) (ab (b.ins.getD iz.toNat default))) (aw (b.ins.getD iz.toNat default)))).length A by rw [OS.len' bl]) ⟨rfl, trivial⟩)), rfl, (by rw [a0i]; exact e2), (by omega), (by rw [show (iz - 1 + 1).toNat = iz.toNat by omega]; exact rset e2 (fun j h1 h2 => e5 j (by omega) h2) (by omega) (rp_step hp hin (by rw [show iz.toNat + 1 = (iz + 1).toNat by omega]; exact e5 _ (a08 _) (by omega))))⟩))
  omega
 have ci := cc
 try simp only [BS] at ci
 refine wT 1 [] 4 4 [51] [(4, (.slice z pl.length A))] rfl fun _ => ak ⟨.inr rfl, _, rfl, z, A, pl, Y, _, (fT (fT (fT (b4) b6) ch) a7), (HS.only Z (i := 1) rfl), rfl, U, (⟨e2, fun i hi => e5 i (by omega) hi⟩)⟩
def acV (v : VInT) (l : List Int) : List Int := if v.i.op = 6 then cR (jk l [v.i.a]) (aw v) else []
theorem after_c {a_l : Option Addr} {k_l : Nat} (l : List (List Int)) (k : Int) (hs : HS (.of H []) F H [] R) (hl : SR F (.slice a_l l.length k_l) l) (hk : in64 k) (hT : TB 37 tabC F) (hk : 0 ≤ k ∧ k + 1 < (l.length : Int) ∧ l.length ≤ 1073741825) : kKt ex 55 [(.slice a_l l.length k_l), (iI k)] H fun v H' => ∃ (ar : Option Addr) (kr : Nat) (r : List Int), H' = H ∧ v = .slice ar r.length kr ∧ SR F (.slice ar r.length kr) r ∧ r = l.getD (k + 1).toNat default := by
 refine aI Tryd.func55 rfl rfl (ah 1 rfl (wT 2 [] 4 4 [] [(4, (.slice none 0 0))] rfl fun _ => ?_))
 obtain ⟨z, A⟩ := Sv.view (SR.sv hl hs)
 have E := fL (A (k + 1).toNat)
 refine wR 1 [(4, .o (.slice (cA (z (k + 1).toNat) 0) (l.getD (k + 1).toNat default).length (cK (z (k + 1).toNat) 0)))] 4 9 [] [(4, (.slice (cA (z (k + 1).toNat) 0) (l.getD (k + 1).toNat default).length (cK (z (k + 1).toNat) 0)))] (vA (vi (n := k + 1) (by omega)) (vA (Sv.ix (j := k + 1) (SR.sv hl hs) (by omega) (by omega)) (vA (ql 25 0 (vL (A (k + 1).toNat) (by omega)) rfl rfl) trivial))) rfl fun _ => ak ⟨.inr rfl, _, rfl, (cA (z (k + 1).toNat) 0), (cK (z (k + 1).toNat) 0), (l.getD (k + 1).toNat default), rfl, rfl, E, (by rfl)⟩
end Go.Proofs.YtknafdcgpaejlaaDoor.mh
