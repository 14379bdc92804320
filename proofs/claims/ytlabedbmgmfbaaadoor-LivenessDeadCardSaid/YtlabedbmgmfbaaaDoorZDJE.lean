/-
 A whole run of virtual code by the reference, by a symbolic run. No condition but bounds on lengths and that the table lies as laid.
-/
import Derived.Test.YtlabedbmgmfbaaaDoorZDJD
import Derived.Test.YtlabedbmgmfbaaaDoorZDIT
import Derived.Test.YtlabedbmgmfbaaaDoorZDRC
noncomputable section
namespace Go.Proofs.YtlabedbmgmfbaaaDoor.je
open Go.R
set_option maxRecDepth 10000
set_option linter.unusedVariables false
open m1 m2 m3 m4 m5 m6 m7 m8 iw ia ib id_ ir it ic ja jw jc jd
def iniI (lens : List Int) (fuel most : Int) : IntS := ⟨lens.map (fun n => List.replicate n.toNat 0), fuel, most, [], 0, 0, false, false⟩
open Classical in
def bD (P : List VFnT) (lens : List Int) (f : Int) (args : List Int) (fuel most : Int) : Option OutT :=
 if okR P lens f args fuel then
  (if (ce P (iniI lens fuel most) f args).1.long = true then none
     else if (ce P (iniI lens fuel most) f args).1.over = true then some ⟨(ce P (iniI lens fuel most) f args).1.kind, (ce P (iniI lens fuel most) f args).1.code, (ce P (iniI lens fuel most) f args).1.out, 0⟩
     else some ⟨1, 0, (ce P (iniI lens fuel most) f args).1.out, (ce P (iniI lens fuel most) f args).2⟩)
 else none
def oV (r : Option OutT) : OutT := r.getD ⟨0, 0, [], 0⟩
section
variable {P : List VFnT} {lens : List Int} {f : Int} {args : List Int} {fuel most : Int} {t : IntS × Int}
theorem rf_no (h : ¬ okR P lens f args fuel) : none = bD P lens f args fuel most := by unfold bD; rw [if_neg h]
theorem rf_long (h : okR P lens f args fuel) (ht : t = ce P (iniI lens fuel most) f args) (hl : t.1.long = true) : none = bD P lens f args fuel most := by subst ht; unfold bD; rw [if_pos h, if_pos hl]
theorem rf_over (h : okR P lens f args fuel) (ht : t = ce P (iniI lens fuel most) f args) (hl : t.1.long = false) (ho : t.1.over = true) : some ⟨t.1.kind, t.1.code, t.1.out, 0⟩ = bD P lens f args fuel most := by subst ht; unfold bD; rw [if_pos h, if_neg (by rw [hl]; decide), if_pos ho]
theorem rf_ret (h : okR P lens f args fuel) (ht : t = ce P (iniI lens fuel most) f args) (hl : t.1.long = false) (ho : t.1.over = false) : some ⟨1, 0, t.1.out, t.2⟩ = bD P lens f args fuel most := by subst ht; unfold bD; rw [if_pos h, if_neg (by rw [hl]; decide), if_neg (by rw [ho]; decide)]
theorem of_no {r : Option OutT} (h : none = r) : (⟨0, 0, [], 0⟩ : OutT) = oV r ∧ false = r.isSome := by subst h; exact ⟨rfl, rfl⟩
theorem of_yes {r : Option OutT} {x : OutT} (h : some x = r) : x = oV r ∧ true = r.isSome := by subst h; exact ⟨rfl, rfl⟩
end
set_option maxHeartbeats 2000000 in
theorem rrun_c (ex : FuncId) {a_l : Option Addr} {k_l : Nat} (l : List VFnT) {a_lens : Option Addr} {k_lens : Nat} (lens : List Int) (fi : Int) {a_args : Option Addr} {k_args : Nat} (args : List Int) (fuel : Int) (most : Int) {F : Fz} {H : Heap} {R : List Fp} (hs : HS (.of H []) F H [] R) (hl : SR F (.slice a_l l.length k_l) l) (hlens : SR F (.slice a_lens lens.length k_lens) lens) (hfi : in64 fi) (hargs : SR F (.slice a_args args.length k_args) args) (hfuel : in64 fuel) (hmost : in64 most) (hT : TB 37 tabC F) (hm : most ≤ 100000) (hbd : lens.length ≤ 1073741824 ∧ ∀ k j, ((l.getD k default).blocks.getD j default).ins.length ≤ 9223372036854775807) (hil : ∀ c ∈ l, ∀ k, (c.blocks.getD k default).ins.length ≤ 1000000) : C Tryd.prog 1 (KT 60 ex 37 tabC) 35 [(.slice a_l l.length k_l), (.slice a_lens lens.length k_lens), (iI fi), (.slice a_args args.length k_args), (iI fuel), (iI most)] H fun v H' => ∃ (x : OutT) (dd : Option Addr) (ec : Nat) (o : Bool) (F' : Fz), Fz.le F F' ∧ HS (.of H []) F' H' [] R ∧ v = .tuple ⟨[.agg ⟨[.int .i64 x.kind, .int .i64 x.code, .slice dd x.out.length ec, .int .i64 x.val]⟩, .bool o]⟩ ∧ in64 x.kind ∧ in64 x.code ∧ in64 x.val ∧ SR F' (.slice dd x.out.length ec) x.out ∧ x = oV (bD l lens fi args fuel most) ∧ o = (bD l lens fi args fuel most).isSome ∧ (x.out.length ≤ 1000000) := by
 refine aL Tryd.func35 rfl rfl ?_
 refine ao 1 rfl ?_
 refine ab ?_
 refine aR (bK hs rfl) rfl rfl ?_
 rintro _ H2 _ ⟨b1, rfl, c5, _⟩
 let ad : Fp := [(b1, .cells [(iI 0), (iI 0), (.slice none 0 0), (iI 0)] none false)]
 have c5 : HS _ _ _ [ad] _ := c5
 refine wa (.bool false) rfl rfl rfl ?_
 refine ai 3 rfl ?_
 refine ab ?_
 refine wRo 2 0 [] 17 18 [] [(17, (.slice a_l l.length k_l)), (18, (.slice a_lens lens.length k_lens))] trivial rfl fun _ => ?_
 refine aD (az rfl rfl rfl) rfl rfl (m8.rprog_c ex l lens (HS.call c5) hl hlens hT (by omega)) ?_
 rintro _ H4 ⟨r4, F4, a8, a4, rfl, rfl⟩
 replace a4 := HS.back c5 rfl a4
 have a4 : HS _ _ _ [_] _ := a4
 replace hargs := hargs.mono a8
 replace hl := hl.mono a8
 replace hlens := hlens.mono a8
 obtain ⟨h2, e3⟩ := Sv.view (SR.sv hl a4)
 obtain ⟨hw, hz, hG⟩ := VFnT.fx (e3 fi.toNat)
 refine wRo 29 3 [(21, .o (iI (l.getD fi.toNat default).params))] 20 48 [] [(48, (.bool ((((((!(vpV l lens)) || (decide (fi < 0))) || (decide ((l.length : Int) ≤ fi))) || ((args.length : Int) != (l.getD fi.toNat default).params)) || (decide (fuel < 0))) || (decide ((1000 : Int) < fuel)))))] (vA (fun (g1 : (((!(vpV l lens)) || (decide (fi < 0))) || (decide ((l.length : Int) ≤ fi))) = false) => (Sv.ix (j := fi) (SR.sv hl a4) (by (try simp only [BS] at g1); (first | omega | (dsimp only; omega))) (by (try simp only [BS] at g1); (first | omega | (dsimp only; omega))))) (vA (fun (g1 : (((!(vpV l lens)) || (decide (fi < 0))) || (decide ((l.length : Int) ≤ fi))) = false) => (ql 3 0 (VFnT.vw (e3 fi.toNat) (by (try simp only [BS] at g1); (first | omega | (dsimp only; omega)))) rfl rfl)) trivial)) rfl fun _ => ?_
 refine ai 1 rfl ?_
 refine am 1 2 (v := ((((((!(vpV l lens)) || (decide (fi < 0))) || (decide ((l.length : Int) ≤ fi))) || ((args.length : Int) != (l.getD fi.toNat default).params)) || (decide (fuel < 0))) || (decide ((1000 : Int) < fuel)))) rfl rfl rfl rfl (fun b6 => ?_) (fun b6 => ?_)
 ·
  have c8 := b6
  try simp only [BS] at c8
  have hno : ¬ okR l lens fi args fuel := fun hh => by
   have hc := b6; obtain ⟨q1, q2, q3, q4, q5, q6⟩ := hh; simp only [q1, Bool.not_true, Bool.false_or, Bool.or_eq_true, decide_eq_true_eq, bne_iff_ne] at hc; omega
  refine ab ?_
  refine wRo 1 0 [] 49 49 [] [(49, (.agg ⟨[(iI 0), (iI 0), (.slice none 0 0), (iI 0)]⟩))] trivial rfl fun _ => ?_
  refine aU (aG (q := 0) a4 rfl rfl rfl rfl rfl rfl rfl rfl rfl) rfl ?_
  rintro _ hM _ ⟨bj, _⟩
  have bj : HS _ _ _ [_] _ := bj
  refine wa (.bool false) rfl rfl rfl ?_
  refine ai 1 rfl ?_
  refine ah ⟨.inr rfl, _, (rC rfl (ldVN rfl rfl (HS.hc bj (i := 0) rfl) rfl) (rT rfl rN)), (⟨0, 0, ([] : List Int), 0⟩ : OutT), none, 0, false, _, (a8), (HS.forget bj), rfl, (by (dsimp only; omega)), (by (dsimp only; omega)), (by (dsimp only; omega)), (SR.nil : SR F4 (.slice none 0 0) ([] : List Int)), (by exact (of_no (r := bD l lens fi args fuel most) (rf_no hno)).1), (by exact (of_no (r := bD l lens fi args fuel most) (rf_no hno)).2), (by exact Nat.zero_le _)⟩
 ·
  have c8 := b6
  try simp only [BS] at c8
  have hok : okR l lens fi args fuel := by
   have hc := b6; simp only [Bool.or_eq_false_iff, Bool.not_eq_false', decide_eq_false_iff_not, bne_eq_false_iff_eq] at hc; exact ⟨hc.1.1.1.1.1, by omega, by omega, by omega, by omega, by omega⟩
  have hB := hok.2
  refine ab ?_
  refine wRo 4 0 [] 50 53 [] [(53, (.agg ⟨[(.slice a_l l.length k_l), (.slice none 0 0), (iI fuel), (iI most), (.slice none 0 0), (iI 0), (iI 0), (.slice none 0 0), (iI 0), (.bool false), (.bool false)]⟩))] trivial rfl fun _ => ?_
  refine aR (cw a4 rfl rfl) rfl rfl ?_
  rintro _ hN _ ⟨A, rfl, ch, _⟩
  have ch : HS _ _ _ [_, [(A, .cells [(.slice a_l l.length k_l), (.slice none 0 0), (iI fuel), (iI most), (.slice none 0 0), (iI 0), (iI 0), (.slice none 0 0), (iI 0), (.bool false), (.bool false)] none false)]] _ := ch
  refine wa (.pointer (some ⟨A, 0, none⟩)) rfl rfl rfl ?_
  refine ai 3 rfl ?_
  refine wR 2 [] 1 0 [15] [(15, (iI 0))] trivial rfl fun _ => ?_
  have ci := HS.snoc ch
  have ci : HS _ _ _ [_, _, []] _ := ci
  have co := HS.snoc ci
  have co : HS _ _ _ [_, _, _, []] _ := co
  have ds : SF F4 ([] : List Hd) ([] : List (List Int)) [] := rfl
  have hu := FAM.len ds
  refine aC (fun (mm : Nat) f H' => ∃ (hl_ : List Hd) (cl : List (List Int)) (j : Nat) (z : Fp) (O : Option Addr) (T : Nat) (U : Fp) (F' : Fz), Fz.le F4 F' ∧ HS (Base.of H []) F' H' [ad, [(A, .cells [(.slice a_l l.length k_l), (.slice O hl_.length T), (iI fuel), (iI most), (.slice none 0 0), (iI 0), (iI 0), (.slice none 0 0), (iI 0), (.bool false), (.bool false)] none false)], z, U] R ∧ OS F' (.slice O hl_.length T) hl_ z ∧ SF F' hl_ cl U ∧ aT f [(1, (.slice a_lens lens.length k_lens)), (2, (iI fi)), (3, (.slice a_args args.length k_args)), (12, (.pointer (some ⟨b1, 0, none⟩))), (13, (.bool false)), (14, (.pointer (some ⟨A, 0, none⟩))), (15, (iI (j : Int)))] ∧ mm = lens.length - j ∧ (cl = (lens.take j).map (fun n => List.replicate n.toNat 0)) ∧ (j ≤ lens.length)) _ ⟨([] : List Hd), ([] : List (List Int)), 0, [], none, 0, [], _, fR, co, (OS.nil : OS F4 (.slice none 0 0) ([] : List Hd) []), ds, (agC rfl (agC rfl (agC rfl (agC rfl (agC rfl (agC rfl (agC rfl agN))))))), rfl, (by rfl), (by omega)⟩ ?_
  rintro hE h3 hP ⟨hl_, cl, j, z, O, T, U, g4, ag, a1, a5, a9, dt, rfl, e, hj⟩ f4
  refine aH _ dt (fun _ => ?_)
  clear dt
  replace hargs := hargs.mono ag
  replace hl := hl.mono ag
  replace hlens := hlens.mono ag
  have g3 := FAM.len a9
  have hlj := fun h => len_at hok.1 (j := j) h
  have hcl : cl.length = j := by rw [e, List.length_map, List.length_take]; omega
  have hvl : lens.length ≤ 4 := by have h := hok.1; unfold vpV at h; rw [Bool.and_eq_true, Bool.and_eq_true] at h; exact (of_decide_eq_true h.1.1).2.2
  refine ao 2 rfl ?_
  refine wR 1 [] 55 58 [] [(58, (.bool (decide ((j : Int) < (lens.length : Int)))))] trivial rfl fun _ => ?_
  refine am 3 5 (v := (decide ((j : Int) < (lens.length : Int)))) rfl rfl rfl rfl (fun dk => ?_) (fun dk => ?_)
  ·
   try simp only [BS] at dk
   refine aV rfl ?_
   refine fm (.pointer (some ⟨A, 0, none⟩)) rfl rfl rfl ?_
   refine fm (.pointer (some ⟨A, 0, none⟩)) rfl rfl rfl ?_
   refine wfv (v := (.pointer (some ⟨A, 0, none⟩))) (iu rfl) ?_
   refine wfv (v := (.pointer (some ⟨A, 1, none⟩))) (bQ rfl rfl) ?_
   refine au (v := (.slice O hl_.length T)) (id := .l A) (aP (i := 1) rfl rfl (HS.hc a1.log0 (i := 1) rfl) rfl rfl) rfl rfl (bg rfl) (kb rfl) ?_
   refine fm (.slice a_lens lens.length k_lens) rfl rfl rfl ?_
   refine fm (iI (j : Int)) rfl rfl rfl ?_
   refine wfv (v := (.pointer (some ⟨sB (.slice a_lens lens.length k_lens), sO (.slice a_lens lens.length k_lens) + j * Rp.sz Int, none⟩))) (aW (α := Int) (j := (j : Int)) rfl rfl rfl rfl (SR.sv hlens a1.log0) (by omega) (by omega)) ?_
   obtain ⟨ht, f1, fd⟩ := Sv.at (SR.sv hlens a1.log0) (aS (x := (0 : Int)) (show j < lens.length from by omega))
   obtain ⟨rfl, hg⟩ := f1
   refine au (v := (iI (lens.getD j 0))) (id := .l (sB (.slice a_lens lens.length k_lens))) (aP (i := 0) rfl rfl fd rfl rfl) rfl rfl (bg rfl) (kb rfl) ?_
   refine dO (id := .x []) (hZ (0 : Int) a1.log0 rfl rfl rfl rfl rfl rfl rfl rfl rfl ⟨rfl, by decide⟩ (by omega) (by omega)) rfl rfl (by rintro _ _ e4 ⟨ap, aq, rfl, dv, _, hwr⟩; exact cF rfl rfl (Wr.did hwr)) (⟨.inl rfl, ⟨.inl rfl, ⟨.inl rfl, ⟨.inl rfl, ⟨.inr List.not_mem_nil, ⟨.inr trivial, ⟨.inr trivial, ⟨.inr trivial, ⟨.inr trivial, trivial⟩⟩⟩⟩⟩⟩⟩⟩⟩) ?_
   rintro _ g6 e4 ⟨ap, aq, rfl, dv, aj, _⟩ f6 ez
   replace aj := HS.lg aj a1 ez
   generalize ({ g6 with log := f6 } : Heap) = hn at aj ⊢
   have aj : HS _ _ _ [_, [(A, .cells [(.slice a_l l.length k_l), (.slice O hl_.length T), (iI fuel), (iI most), (.slice none 0 0), (iI 0), (iI 0), (.slice none 0 0), (iI 0), (.bool false), (.bool false)] none false)], z, U, e4] _ := aj
   refine dO (id := .a) (ct (α := Hd) (ps := [(0, (.slice ap (List.replicate (lens.getD j 0).toNat (0 : Int)).length aq))]) (cells := [(.slice ap (List.replicate (lens.getD j 0).toNat (0 : Int)).length aq)]) ([(⟨ap, (List.replicate (lens.getD j 0).toNat (0 : Int)).length, aq⟩ : Hd)] : List Hd) aj.log0 rfl rfl rfl (by kernel_rfl) ⟨[(.slice ap (List.replicate (lens.getD j 0).toNat (0 : Int)).length aq)], [], rfl, rfl, rfl⟩ rfl) rfl rfl (fun _ _ _ _ => did_a rfl rfl rfl) (kb rfl) ?_
   rintro _ g7 hf ⟨h1, h4, rfl, fj, Z, _⟩ f7 e0
   replace Z := HS.lg Z aj e0
   generalize ({ g7 with log := f7 } : Heap) = hp at Z ⊢
   have Z : HS _ _ _ [_, _, _, _, _, hf] _ := Z
   refine dO (id := .x (z.map Prod.fst)) (cQ (α := Hd) (q := 2) a5 Z.log0 rfl rfl rfl (OS.sv fj Z.log0 (i := 5) rfl) rfl rfl rfl rfl rfl rfl rfl (by (simp only [List.length_cons, List.length_nil]; omega))) rfl rfl (by rintro _ _ el ⟨c9, eb, rfl, d1, _, hwr⟩; exact cF rfl rfl (Wr.did hwr)) (kb rfl) ?_
   rintro _ g8 el ⟨c9, eb, rfl, d1, a2, _⟩ f9 e1
   replace a2 := HS.lg a2 Z e1
   generalize ({ g8 with log := f9 } : Heap) = hq at a2 ⊢
   have a2 : HS _ _ _ [_, _, el, _, _, _] _ := a2
   obtain ⟨b7, bl, bb⟩ := SF.add (⟨ap, (List.replicate (lens.getD j 0).toNat (0 : Int)).length, aq⟩ : Hd) a9 a2 (q := 3) (m := 4) (by decide) rfl rfl dv
   have bl : HS _ _ _ [_, _, _, b7, [], _] _ := bl
   have bb : SF g4 (hl_ ++ ([(⟨ap, (List.replicate (lens.getD j 0).toNat (0 : Int)).length, aq⟩ : Hd)] : List Hd)) (cl ++ [List.replicate (lens.getD j 0).toNat (0 : Int)]) b7 := bb
   have hv := FAM.len bb
   refine wfv (v := (.pointer (some ⟨A, 0, none⟩))) (iu rfl) ?_
   refine wfv (v := (.pointer (some ⟨A, 1, none⟩))) (bQ rfl rfl) ?_
   refine eu (id := .x [A]) (aG (q := 1) bl.log0 rfl rfl rfl rfl rfl rfl rfl rfl rfl) rfl (by rintro _ _ _ ⟨_, hwr⟩; exact cF rfl rfl (Wr.did hwr)) (kb rfl) ?_
   rintro _ g9 _ ⟨a3, _⟩ gn e2
   replace a3 := HS.lg a3 bl e2
   generalize ({ g9 with log := gn } : Heap) = hr at a3 ⊢
   have a3 : HS _ _ _ [_, [(A, .cells [(.slice a_l l.length k_l), (.slice c9 (hl_ ++ ([(⟨ap, (List.replicate (lens.getD j 0).toNat (0 : Int)).length, aq⟩ : Hd)] : List Hd)).length eb), (iI fuel), (iI most), (.slice none 0 0), (iI 0), (iI 0), (.slice none 0 0), (iI 0), (.bool false), (.bool false)] none false)], _, _, _, _] _ := a3
   refine bZ ?_
   refine ao 2 rfl ?_
   refine wR 1 [] 59 60 [15] [(15, (iI ((j : Int) + 1)))] (vA (vi (n := (j : Int) + 1) (by omega)) trivial) rfl fun _ => ?_
   refine f4 _ _ _ ?_ ⟨hl_ ++ ([(⟨ap, (List.replicate (lens.getD j 0).toNat (0 : Int)).length, aq⟩ : Hd)] : List Hd), cl ++ [List.replicate (lens.getD j 0).toNat (0 : Int)], j + 1, el, c9, eb, b7, _, (ag), (HS.sub a3 (List.sublist_append_left _ _)), d1, bb, (agC rfl (agC rfl (agC rfl (agC rfl (agC rfl (agC rfl (agC rfl agN))))))), rfl, (by exact rows_step e (by omega)), (by omega)⟩
   omega
  ·
   try simp only [BS] at dk
   have ea := HS.snoc a1
   let c7 : Fp := [(A, .cells [(.slice a_l l.length k_l), (.slice O hl_.length T), (iI fuel), (iI most), (.slice none 0 0), (iI 0), (iI 0), (.slice none 0 0), (iI 0), (.bool false), (.bool false)] none false)]
   have ea : HS _ _ _ [_, c7, z, U, []] _ := ea
   have ha : HS _ _ _ [c7, z, U, [], ad] _ := HS.flat ea (permIdx [1, 2, 3, 4, 0] rfl (show List.Perm [1, 2, 3, 4, 0] (List.range 5) by decide))
   have he : HS _ _ _ [c7, z, U, [], ad] _ := HS.sub ha (List.sublist_append_left _ _)
   obtain ⟨qv, c6, hqz⟩ := IntQ.close (s := (⟨cl, fuel, most, [], 0, 0, false, false⟩ : IntS)) (L := [ad]) he a5 a9 OS.nil
   have hrows := rows_end e (by omega)
   have hini : (⟨cl, fuel, most, [], 0, 0, false, false⟩ : IntS) = iniI lens fuel most := by rw [hrows]; rfl
   have hwi : IntOK lens.length (⟨cl, fuel, most, [], 0, 0, false, false⟩ : IntS) 1000000 := ⟨by rw [hrows, List.length_map], by rw [hrows]; exact len_rep hok.1, by dsimp only; omega, by dsimp only; omega, by dsimp only [List.length_nil]; omega, (show in64 0 from ⟨by decide, by decide⟩), (show in64 0 from ⟨by decide, by decide⟩)⟩
   have c6 : HS _ _ _ [c7, qv, ad] _ := c6
   refine ab ?_
   refine wRo 3 0 [] 75 77 [] [(75, (.pointer (some ⟨A, 0, none⟩))), (76, (iI fi)), (77, (.slice a_args args.length k_args))] trivial rfl fun _ => ?_
   refine aD (az rfl rfl rfl) rfl rfl (call_c ex (jD hok.1) hil (Nat.le_refl 1000000) (most.toNat + 1) (⟨cl, fuel, most, [], 0, 0, false, false⟩ : IntS) fi args (HS.call2 c6 (i := 0) (j := 1) (by decide) rfl rfl) hqz hl hargs ⟨by omega, by omega, by omega⟩ hwi (Nat.lt_succ_self _) rfl rfl) ?_
   rintro _ hQ ⟨rfl, hk, g5, ar, a0, av, I, ei, J, g2, b9, V, d2⟩
   replace V := HS.back2 c6 (i := 0) (j := 1) (by decide) rfl rfl rfl (fun _ hb => hb) V
   have hwo : IntOK lens.length (ce l (⟨cl, fuel, most, [], 0, 0, false, false⟩ : IntS) fi args).1 1000000 := go_ok (jD hok.1) _ _ _ _ _ _ _ (gh ⟨by omega, by omega⟩) ⟨Int.le_refl 0, by have := (jD hok.1).lim _ (gh ⟨by omega, by omega⟩ : l.getD fi.toNat default ∈ l); omega⟩ hwi
   have hcvv : (ce l (⟨cl, fuel, most, [], 0, 0, false, false⟩ : IntS) fi args) = ce l (iniI lens fuel most) fi args := by rw [hini]
   generalize hA : (ce l (⟨cl, fuel, most, [], 0, 0, false, false⟩ : IntS) fi args) = cv at *
   have V : HS _ _ _ [[(A, .cells [(.slice a_l l.length k_l), (.slice ar a0 av), (iI cv.1.fuel), (iI cv.1.most), (.slice I ei J), (iI cv.1.kind), (iI cv.1.code), (.slice none 0 0), (iI 0), (.bool cv.1.over), (.bool cv.1.long)] none false)], g2, ad] _ := V
   have hkc := hwo.kc; have hcn := hwo.cnt
   refine wa (iI cv.2) rfl rfl rfl ?_
   refine ai 3 rfl ?_
   refine wR 1 [(3, .o (.bool cv.1.long))] 79 82 [] [(82, (.bool cv.1.long))] (vA (ql 4 10 (HS.hc V (i := 0) rfl) rfl rfl) trivial) rfl fun _ => ?_
   refine am 1 3 (v := cv.1.long) rfl rfl rfl rfl (fun a6 => ?_) (fun a6 => ?_)
   ·
    have dl := a6
    try simp only [BS] at dl
    have hlo := a6
    refine ab ?_
    refine wRo 1 0 [] 83 83 [] [(83, (.agg ⟨[(iI 0), (iI 0), (.slice none 0 0), (iI 0)]⟩))] trivial rfl fun _ => ?_
    refine aU (aG (q := 2) V rfl rfl rfl rfl rfl rfl rfl rfl rfl) rfl ?_
    rintro _ hR _ ⟨b0, _⟩
    have b0 : HS _ _ _ [_, _, _] _ := b0
    refine wa (.bool false) rfl rfl rfl ?_
    refine ai 1 rfl ?_
    refine ah ⟨.inr rfl, _, (rC rfl (ldVN rfl rfl (HS.hc b0 (i := 2) rfl) rfl) (rT rfl rN)), (⟨0, 0, ([] : List Int), 0⟩ : OutT), none, 0, false, _, (fT (fT (a8) ag) b9), (HS.forget b0), rfl, (by (dsimp only; omega)), (by (dsimp only; omega)), (by (dsimp only; omega)), (SR.nil : SR g5 (.slice none 0 0) ([] : List Int)), (by exact (of_no (r := bD l lens fi args fuel most) (rf_long hok hcvv hlo)).1), (by exact (of_no (r := bD l lens fi args fuel most) (rf_long hok hcvv hlo)).2), (by exact Nat.zero_le _)⟩
   ·
    have dl := a6
    try simp only [BS] at dl
    have hlo := a6
    refine wR 1 [(3, .o (.bool cv.1.over))] 84 88 [] [(88, (.bool (!cv.1.over)))] (vA (ql 4 9 (HS.hc V (i := 0) rfl) rfl rfl) trivial) rfl fun _ => ?_
    refine am 0 2 (v := (!cv.1.over)) rfl rfl rfl rfl (fun a7 => ?_) (fun a7 => ?_)
    ·
     have dn := a7
     try simp only [BS] at dn
     have hov := jk a7
     refine ab ?_
     refine wRo 5 0 [] 89 93 [] [(91, (.agg ⟨[(iI 1), (iI 0), (.slice none 0 0), (iI cv.2)]⟩)), (93, (.pointer (some ⟨A, 5, none⟩)))] trivial rfl fun _ => ?_
     refine aU (aG (q := 0) V rfl rfl rfl rfl rfl rfl rfl rfl rfl) rfl ?_
     rintro _ hS _ ⟨c0, _⟩
     have c0 : HS _ _ _ [[(A, .cells [(.slice a_l l.length k_l), (.slice ar a0 av), (iI cv.1.fuel), (iI cv.1.most), (.slice I ei J), (iI 1), (iI 0), (.slice none 0 0), (iI cv.2), (.bool cv.1.over), (.bool cv.1.long)] none false)], _, _] _ := c0
     refine ai 2 rfl ?_
     obtain ⟨hd, pc, pr, po, hsO, y1, y2, y3⟩ := IntQ.open (L := [ad]) d2 c0
     obtain rfl := OS.nlen y3
     have hsO : HS _ _ _ [[(A, .cells [(.slice a_l l.length k_l), (.slice ar a0 av), (iI cv.1.fuel), (iI cv.1.most), (.slice I cv.1.out.length J), (iI 1), (iI 0), (.slice none 0 0), (iI cv.2), (.bool cv.1.over), (.bool cv.1.long)] none false)], pc, pr, po, ad] _ := hsO
     refine ab ?_
     refine wRo 8 0 [(4, .o (.slice I cv.1.out.length J))] 94 101 [] [(98, (.slice I cv.1.out.length J)), (101, (.pointer (some ⟨A, 7, none⟩)))] (vA (ql 52 4 (HS.hc hsO (i := 0) rfl) rfl rfl) trivial) rfl fun _ => ?_
     refine aU (aG (q := 0) hsO rfl rfl rfl rfl rfl rfl rfl rfl rfl) rfl ?_
     rintro _ hV _ ⟨b2, _⟩
     have b2 : HS _ _ _ [[(A, .cells [(.slice a_l l.length k_l), (.slice ar a0 av), (iI cv.1.fuel), (iI cv.1.most), (.slice I cv.1.out.length J), (iI 1), (iI 0), (.slice I cv.1.out.length J), (iI cv.2), (.bool cv.1.over), (.bool cv.1.long)] none false)], _, _, _, _] _ := b2
     refine ai 2 rfl ?_
     refine ab ?_
     let ep : Value := (.agg ⟨[(iI 1), (iI 0), (.slice I cv.1.out.length J), (iI cv.2)]⟩)
     refine wRo 4 0 [(3, .o ep)] 102 105 [] [(105, ep)] (vA (qn 55 5 4 (HS.hc b2 (i := 0) rfl) rfl rfl rfl rfl) trivial) rfl fun _ => ?_
     refine aU (aG (q := 4) b2 rfl rfl rfl rfl rfl rfl rfl rfl rfl) rfl ?_
     rintro _ hW _ ⟨b3, _⟩
     have b3 : HS _ _ _ [_, _, _, _, [(b1, .cells [(iI 1), (iI 0), (.slice I cv.1.out.length J), (iI cv.2)] none false)]] _ := b3
     refine wa (.bool true) rfl rfl rfl ?_
     refine ai 1 rfl ?_
     obtain ⟨hK, e6, c3, f2, hC⟩ := OS.frz y3 b3 (i := 3) rfl
     have c3 : HS _ _ _ [_, _, _, [], _] _ := c3
     refine ah ⟨.inr rfl, _, (rC rfl (ldVN rfl rfl (HS.hc b3 (i := 4) rfl) rfl) (rT rfl rN)), (⟨1, 0, cv.1.out, cv.2⟩ : OutT), I, J, true, _, (fT (fT (fT (a8) ag) b9) e6), (HS.forget c3), rfl, (by (dsimp only; omega)), (by (dsimp only; omega)), (by omega), f2, (by exact (of_yes (r := bD l lens fi args fuel most) (rf_ret hok hcvv hlo hov)).1), (by exact (of_yes (r := bD l lens fi args fuel most) (rf_ret hok hcvv hlo hov)).2), (by (show cv.1.out.length ≤ 1000000; omega))⟩
    ·
     have dn := a7
     try simp only [BS] at dn
     have hov := jk a7
     obtain ⟨hd, pc, pr, po, hsO, y1, y2, y3⟩ := IntQ.open (L := [ad]) d2 V
     obtain rfl := OS.nlen y3
     have hsO : HS _ _ _ [[(A, .cells [(.slice a_l l.length k_l), (.slice ar a0 av), (iI cv.1.fuel), (iI cv.1.most), (.slice I cv.1.out.length J), (iI cv.1.kind), (iI cv.1.code), (.slice none 0 0), (iI 0), (.bool cv.1.over), (.bool cv.1.long)] none false)], pc, pr, po, ad] _ := hsO
     refine ab ?_
     refine wRo 8 0 [(4, .o (.slice I cv.1.out.length J))] 94 101 [] [(98, (.slice I cv.1.out.length J)), (101, (.pointer (some ⟨A, 7, none⟩)))] (vA (ql 52 4 (HS.hc hsO (i := 0) rfl) rfl rfl) trivial) rfl fun _ => ?_
     refine aU (aG (q := 0) hsO rfl rfl rfl rfl rfl rfl rfl rfl rfl) rfl ?_
     rintro _ hX _ ⟨b4, _⟩
     have b4 : HS _ _ _ [[(A, .cells [(.slice a_l l.length k_l), (.slice ar a0 av), (iI cv.1.fuel), (iI cv.1.most), (.slice I cv.1.out.length J), (iI cv.1.kind), (iI cv.1.code), (.slice I cv.1.out.length J), (iI 0), (.bool cv.1.over), (.bool cv.1.long)] none false)], _, _, _, _] _ := b4
     refine ai 2 rfl ?_
     refine ab ?_
     let es : Value := (.agg ⟨[(iI cv.1.kind), (iI cv.1.code), (.slice I cv.1.out.length J), (iI 0)]⟩)
     refine wRo 4 0 [(3, .o es)] 102 105 [] [(105, es)] (vA (qn 55 5 4 (HS.hc b4 (i := 0) rfl) rfl rfl rfl rfl) trivial) rfl fun _ => ?_
     refine aU (aG (q := 4) b4 rfl rfl rfl rfl rfl rfl rfl rfl rfl) rfl ?_
     rintro _ hY _ ⟨b5, _⟩
     have b5 : HS _ _ _ [_, _, _, _, [(b1, .cells [(iI cv.1.kind), (iI cv.1.code), (.slice I cv.1.out.length J), (iI 0)] none false)]] _ := b5
     refine wa (.bool true) rfl rfl rfl ?_
     refine ai 1 rfl ?_
     obtain ⟨hL, e9, c4, f3, hD⟩ := OS.frz y3 b5 (i := 3) rfl
     have c4 : HS _ _ _ [_, _, _, [], _] _ := c4
     refine ah ⟨.inr rfl, _, (rC rfl (ldVN rfl rfl (HS.hc b5 (i := 4) rfl) rfl) (rT rfl rN)), (⟨cv.1.kind, cv.1.code, cv.1.out, 0⟩ : OutT), I, J, true, _, (fT (fT (fT (a8) ag) b9) e9), (HS.forget c4), rfl, (by (dsimp only; omega)), (by (dsimp only; omega)), (by (dsimp only; omega)), f3, (by exact (of_yes (r := bD l lens fi args fuel most) (rf_over hok hcvv hlo hov)).1), (by exact (of_yes (r := bD l lens fi args fuel most) (rf_over hok hcvv hlo hov)).2), (by (show cv.1.out.length ≤ 1000000; omega))⟩
end Go.Proofs.YtlabedbmgmfbaaaDoor.je
