/-
 A whole run of virtual code by the program, by a symbolic run. No condition but bounds on lengths and that the table lies as laid.
-/
import Derived.Test.YtlabedbmgmfbaaaDoorZMIS
import Derived.Test.YtlabedbmgmfbaaaDoorZMID
noncomputable section
namespace Go.Proofs.YtlabedbmgmfbaaaDoor.ir
open Go.R
set_option maxRecDepth 10000
set_option linter.unusedVariables false
open m1 m2 m3 m4 m5 m6 m7 m8 iw ia ib ic is_ id_
structure OutT where
 kind : Int
 code : Int
 out : (List Int)
 val : Int
 deriving Inhabited, DecidableEq
instance : Rp OutT where
 sz := 4
 rep F cs x := ∃ a2 k2, cs = [.int .i64 x.kind, .int .i64 x.code, .slice a2 x.out.length k2, .int .i64 x.val] ∧ in64 x.kind ∧ in64 x.code ∧ in64 x.val ∧ SR F (.slice a2 x.out.length k2) x.out
 len := by rintro F cs x ⟨a2, k2, rfl, _⟩; rfl
 one := by rintro F cs x ⟨a2, k2, rfl, _⟩; rfl
 mono := by rintro F F' cs x hF ⟨a2, k2, rfl, h0, h1, h2, h3⟩; exact ⟨a2, k2, rfl, h0, h1, h2, h3.mono hF⟩
def aW (r : Option RunS) : OutT := match r with
 | some s => ⟨s.kind, s.code, s.out, s.val⟩
 | none => ⟨0, 0, [], 0⟩
theorem gr {r : Option RunS} (h : none = r) : (⟨0, 0, [], 0⟩ : OutT) = aW r ∧ false = r.isSome := by subst h; exact ⟨rfl, rfl⟩
theorem jH {t : RunS} {r : Option RunS} (h : some t = r) : (⟨t.kind, t.code, t.out, t.val⟩ : OutT) = aW r ∧ true = r.isSome := by subst h; exact ⟨rfl, rfl⟩
set_option maxHeartbeats 2000000 in
theorem vrun_c (ex : FuncId) {a_l : Option Addr} {k_l : Nat} (l : List VFnT) {a_lens : Option Addr} {k_lens : Nat} (lens : List Int) (fi : Int) {a_args : Option Addr} {k_args : Nat} (args : List Int) (fuel : Int) (most : Int) {F : Fz} {H : Heap} {R : List Fp} (hs : HS (.of H []) F H [] R) (hl : SR F (.slice a_l l.length k_l) l) (hlens : SR F (.slice a_lens lens.length k_lens) lens) (hfi : in64 fi) (hargs : SR F (.slice a_args args.length k_args) args) (hfuel : in64 fuel) (hmost : in64 most) (hT : TB 37 tabC F) (hm : most ≤ 100000) (hbd : lens.length ≤ 1073741824 ∧ ∀ k j, ((l.getD k default).blocks.getD j default).ins.length ≤ 9223372036854775807) (hil : ∀ c ∈ l, ∀ k, (c.blocks.getD k default).ins.length ≤ 1000000) : C Tryd.prog 1 (KT 60 ex 37 tabC) 43 [(.slice a_l l.length k_l), (.slice a_lens lens.length k_lens), (iI fi), (.slice a_args args.length k_args), (iI fuel), (iI most)] H fun v H' => ∃ (x : OutT) (dl : Option Addr) (f1 : Nat) (o : Bool) (F' : Fz), Fz.le F F' ∧ HS (.of H []) F' H' [] R ∧ v = .tuple ⟨[.agg ⟨[.int .i64 x.kind, .int .i64 x.code, .slice dl x.out.length f1, .int .i64 x.val]⟩, .bool o]⟩ ∧ in64 x.kind ∧ in64 x.code ∧ in64 x.val ∧ SR F' (.slice dl x.out.length f1) x.out ∧ x = aW (aK l lens fi args fuel most) ∧ o = (aK l lens fi args fuel most).isSome ∧ (x.out.length ≤ 100000) := by
 refine aL Tryd.func43 rfl rfl ?_
 refine ay 1 rfl ?_
 refine ah ?_
 refine br (bX hs rfl) rfl rfl ?_
 rintro _ H2 _ ⟨b1, rfl, c7, _⟩
 let Z : Fp := [(b1, .cells [(iI 0), (iI 0), (.slice none 0 0), (iI 0)] none false)]
 have c7 : HS _ _ _ [Z] _ := c7
 refine wa (.bool false) rfl rfl rfl ?_
 refine au 3 rfl ?_
 refine ah ?_
 refine wRo 2 0 [] 18 19 [] [(18, (.slice a_l l.length k_l)), (19, (.slice a_lens lens.length k_lens))] trivial rfl fun _ => ?_
 refine aJ (ax rfl rfl rfl) rfl rfl (m8.vprog_c ex l lens (HS.call c7) hl hlens hT (by first | omega | (dsimp only; omega))) ?_
 rintro _ H4 ⟨r4, F4, a8, V, rfl, rfl⟩
 replace V := HS.back c7 rfl V
 have V : HS _ _ _ [_] _ := V
 replace hargs := hargs.mono a8
 replace hl := hl.mono a8
 replace hlens := hlens.mono a8
 obtain ⟨kd, hn⟩ := Sv.view (SR.sv hl V)
 obtain ⟨h3, h4, iv⟩ := VFnT.fx (hn fi.toNat)
 refine wRo 29 3 [(21, .o (iI (l.getD fi.toNat default).params))] 21 49 [] [(49, (.bool ((((((!(vpV l lens)) || (decide (fi < 0))) || (decide ((l.length : Int) ≤ fi))) || ((args.length : Int) != (l.getD fi.toNat default).params)) || (decide (fuel < 0))) || (decide ((1000 : Int) < fuel)))))] (vA (fun (g1 : (((!(vpV l lens)) || (decide (fi < 0))) || (decide ((l.length : Int) ≤ fi))) = false) => (Sv.ix (j := fi) (SR.sv hl V) (by (try simp only [BS] at g1); (first | omega | (dsimp only; omega))) (by (try simp only [BS] at g1); (first | omega | (dsimp only; omega))))) (vA (fun (g1 : (((!(vpV l lens)) || (decide (fi < 0))) || (decide ((l.length : Int) ≤ fi))) = false) => (ql 3 0 (VFnT.vw (hn fi.toNat) (by (try simp only [BS] at g1); (first | omega | (dsimp only; omega)))) rfl rfl)) trivial)) rfl fun _ => ?_
 refine au 1 rfl ?_
 refine ao 1 2 (v := ((((((!(vpV l lens)) || (decide (fi < 0))) || (decide ((l.length : Int) ≤ fi))) || ((args.length : Int) != (l.getD fi.toNat default).params)) || (decide (fuel < 0))) || (decide ((1000 : Int) < fuel)))) rfl rfl rfl rfl (fun b7 => ?_) (fun b7 => ?_)
 ·
  have c8 := b7
  try simp only [BS] at c8
  have hno : ¬ okR l lens fi args fuel := fun hh => by
   have hc := b7; obtain ⟨q1, q2, q3, q4, q5, q6⟩ := hh; simp only [q1, Bool.not_true, Bool.false_or, Bool.or_eq_true, decide_eq_true_eq, bne_iff_ne] at hc; omega
  refine ah ?_
  refine wRo 1 0 [] 50 50 [] [(50, (.agg ⟨[(iI 0), (iI 0), (.slice none 0 0), (iI 0)]⟩))] trivial rfl fun _ => ?_
  refine aN (aC (q := 0) V rfl rfl rfl rfl rfl rfl rfl rfl rfl) rfl ?_
  rintro _ i3 _ ⟨b0, _⟩
  have b0 : HS _ _ _ [_] _ := b0
  refine wa (.bool false) rfl rfl rfl ?_
  refine au 1 rfl ?_
  refine am ⟨.inr rfl, _, (rC rfl (ldVN rfl rfl (HS.hc b0 (i := 0) rfl) rfl) (rT rfl rN)), (⟨0, 0, ([] : List Int), 0⟩ : OutT), none, 0, false, _, (a8), (HS.forget b0), rfl, (by first | omega | (dsimp only; omega)), (by first | omega | (dsimp only; omega)), (by first | omega | (dsimp only; omega)), (SR.nil : SR F4 (.slice none 0 0) ([] : List Int)), (by first | exact (gr (r := aK l lens fi args fuel most) (run_no hno)).1 | exact (gr (r := aK l lens fi args fuel most) (run_no hno)).2), (by first | exact (gr (r := aK l lens fi args fuel most) (run_no hno)).1 | exact (gr (r := aK l lens fi args fuel most) (run_no hno)).2), (by first | exact Nat.zero_le _ | (show sv.out.length ≤ 100000; have hcc := hwv.cnt; omega))⟩
 ·
  have c8 := b7
  try simp only [BS] at c8
  have hok : okR l lens fi args fuel := by
   have hc := b7; simp only [Bool.or_eq_false_iff, Bool.not_eq_false', decide_eq_false_iff_not, bne_eq_false_iff_eq] at hc; exact ⟨hc.1.1.1.1.1, by omega, by omega, by omega, by omega, by omega⟩
  have hlen := ini_ok hok
  have h5 := hok.2
  refine ah ?_
  obtain ⟨aq, e1⟩ := Sv.view (SR.sv hl V)
  obtain ⟨hP, hQ, b5⟩ := VFnT.fx (e1 fi.toNat)
  refine wRo 8 0 [(5, .o (.agg ⟨[(iI (l.getD fi.toNat default).params), (iI (l.getD fi.toNat default).regs), (.slice (cA (aq fi.toNat) 2) (l.getD fi.toNat default).blocks.length (cK (aq fi.toNat) 2))]⟩))] 51 58 [] [(51, (.slice a_l l.length k_l)), (52, (iI fuel)), (58, (.agg ⟨[(iI (l.getD fi.toNat default).params), (iI (l.getD fi.toNat default).regs), (.slice (cA (aq fi.toNat) 2) (l.getD fi.toNat default).blocks.length (cK (aq fi.toNat) 2)), (.slice none 0 0), (.slice a_args args.length k_args), (iI 0), (iI 0), (iI 0)]⟩))] (vA (Sv.ix (j := fi) (SR.sv hl V) (by first | omega | (dsimp only; omega)) (by first | omega | (dsimp only; omega))) (vA (qn 24 0 3 (VFnT.vw (e1 fi.toNat) (by first | omega | (dsimp only; omega))) rfl rfl rfl rfl) trivial)) rfl fun _ => ?_
  refine br (dQ V rfl rfl) rfl rfl ?_
  rintro _ ja _ ⟨O, rfl, ci, _⟩
  let dd : Fp := [(O, .cells [(iI (l.getD fi.toNat default).params), (iI (l.getD fi.toNat default).regs), (.slice (cA (aq fi.toNat) 2) (l.getD fi.toNat default).blocks.length (cK (aq fi.toNat) 2)), (.slice none 0 0), (.slice a_args args.length k_args), (iI 0), (iI 0), (iI 0)] none false)]
  have ci : HS _ _ _ [_, dd] _ := ci
  refine br (db (α := PtrT) (ps := [(0, (.pointer (some ⟨O, 0, none⟩)))]) (cells := [(.pointer (some ⟨O, 0, none⟩))]) ([(⟨O⟩ : PtrT)] : List PtrT) ci rfl rfl rfl (by kernel_rfl) ⟨[(.pointer (some ⟨O, 0, none⟩))], [], rfl, rfl, rfl⟩ rfl) rfl rfl ?_
  rintro _ jb c9 ⟨a3, a6, rfl, ch, co, _⟩
  have co : HS _ _ _ [_, _, c9] _ := co
  refine wRo 1 10 [] 61 61 [] [(61, (.agg ⟨[(.slice a_l l.length k_l), (.slice none 0 0), (.slice a3 ([(⟨O⟩ : PtrT)] : List PtrT).length a6), (iI fuel), (.bool false), (iI 0), (iI 0), (.slice none 0 0), (iI 0)]⟩))] trivial rfl fun _ => ?_
  refine br (dQ co rfl rfl) rfl rfl ?_
  rintro _ jc _ ⟨I, rfl, c0, _⟩
  have c0 : HS _ _ _ [_, _, _, [(I, .cells [(.slice a_l l.length k_l), (.slice none 0 0), (.slice a3 ([(⟨O⟩ : PtrT)] : List PtrT).length a6), (iI fuel), (.bool false), (iI 0), (iI 0), (.slice none 0 0), (iI 0)] none false)]] _ := c0
  refine wa (.pointer (some ⟨I, 0, none⟩)) rfl rfl rfl ?_
  refine au 3 rfl ?_
  refine wR 2 [] 63 65 [] [(63, (.slice a_lens lens.length k_lens)), (64, (iI (lens.length : Int))), (65, (iI 0))] trivial rfl fun _ => ?_
  have c3 := HS.snoc c0
  have c3 : HS _ _ _ [_, _, _, _, []] _ := c3
  have c4 := HS.snoc c3
  have c4 : HS _ _ _ [_, _, _, _, _, []] _ := c4
  have em : SF F4 ([] : List Hd) ([] : List (List Int)) [] := rfl
  have h1 := FAM.len em
  refine aQ (fun (mm : Nat) f H' => ∃ (hl_ : List Hd) (cl : List (List Int)) (j : Nat) (z : Fp) (A : Option Addr) (E : Nat) (J : Fp) (F' : Fz), Fz.le F4 F' ∧ HS (Base.of H []) F' H' [Z, dd, c9, [(I, .cells [(.slice a_l l.length k_l), (.slice A hl_.length E), (.slice a3 ([(⟨O⟩ : PtrT)] : List PtrT).length a6), (iI fuel), (.bool false), (iI 0), (iI 0), (.slice none 0 0), (iI 0)] none false)], z, J] R ∧ OS F' (.slice A hl_.length E) hl_ z ∧ SF F' hl_ cl J ∧ be f [(5, (iI most)), (12, (.pointer (some ⟨b1, 0, none⟩))), (13, (.bool false)), (14, (.pointer (some ⟨I, 0, none⟩))), (63, (.slice a_lens lens.length k_lens)), (64, (iI (lens.length : Int))), (65, (iI (j : Int)))] ∧ mm = lens.length - j ∧ (cl = (lens.take j).map (fun n => List.replicate n.toNat 0)) ∧ (j ≤ lens.length)) _ ⟨([] : List Hd), ([] : List (List Int)), 0, [], none, 0, [], _, fR, c4, (OS.nil : OS F4 (.slice none 0 0) ([] : List Hd) []), em, (agC rfl (agC rfl (agC rfl (agC rfl (agC rfl (agC rfl (agC rfl agN))))))), rfl, (by rfl), (by first | assumption | omega | (simp at *; omega))⟩ ?_
  rintro h8 ke jq ⟨hl_, cl, j, z, A, E, J, hk, T, ar, a2, a7, es, rfl, e, hj⟩ hv
  refine aO _ es (fun _ => ?_)
  clear es
  replace hargs := hargs.mono T
  replace hl := hl.mono T
  replace hlens := hlens.mono T
  replace ch := ch.mono T
  replace b5 := b5.mono T
  have hC := FAM.len a7
  have hlj := fun h => len_at hok.1 (j := j) h
  have hcl : cl.length = j := by rw [e, List.length_map, List.length_take]; omega
  have hvl : lens.length ≤ 4 := by have h := hok.1; unfold vpV at h; rw [Bool.and_eq_true, Bool.and_eq_true] at h; exact (of_decide_eq_true h.1.1).2.2
  refine ay 1 rfl ?_
  refine wR 2 [] 66 66 [] [(66, (.bool (decide ((j : Int) < (lens.length : Int)))))] trivial rfl fun _ => ?_
  refine ao 4 6 (v := (decide ((j : Int) < (lens.length : Int)))) rfl rfl rfl rfl (fun dn => ?_) (fun dn => ?_)
  ·
   try simp only [BS] at dn
   obtain ⟨hY, e2⟩ := Sv.view (SR.sv hlens ar)
   have kg := fI (e2 j)
   refine wR 1 [(1, .o (iI (lens.getD j 0)))] 67 68 [16] [(16, (iI (lens.getD j 0)))] (vA (Sv.ix (j := (j : Int)) (SR.sv hlens ar) (by first | omega | (dsimp only; omega)) (by first | omega | (dsimp only; omega))) (vA (ql 3 0 (vI (e2 j) (by first | omega | (dsimp only; omega))) rfl rfl) trivial)) rfl fun _ => ?_
   refine aR rfl ?_
   refine fm (.pointer (some ⟨I, 0, none⟩)) rfl rfl rfl ?_
   refine fm (.pointer (some ⟨I, 0, none⟩)) rfl rfl rfl ?_
   refine ai (v := (.pointer (some ⟨I, 0, none⟩))) (id := .v) (bN rfl) rfl rfl (aI rfl) (aF _) ?_
   refine ai (v := (.pointer (some ⟨I, 1, none⟩))) (id := .v) (bd rfl rfl) rfl rfl (aI rfl) (aF _) ?_
   refine ai (v := (.slice A hl_.length E)) (id := .l I) (aT (i := 1) rfl rfl (HS.hc ar.log0 (i := 3) rfl) rfl rfl) rfl rfl (bn rfl) (⟨.inl rfl, ⟨.inl rfl, ⟨.inl rfl, ⟨.inr trivial, trivial⟩⟩⟩⟩) ?_
   refine fm (iI (lens.getD j 0)) rfl rfl rfl ?_
   refine dU (id := .x []) (rs_make (0 : Int) ar.log0 rfl rfl rfl rfl rfl rfl rfl rfl rfl ⟨rfl, by decide⟩ (by first | omega | (dsimp only; omega)) (by first | omega | (dsimp only; omega))) rfl rfl (by rintro _ _ ho ⟨ag, ap, rfl, ez, _, hwr⟩; exact ee rfl rfl (Wr.did hwr)) (⟨.inl rfl, ⟨.inr List.not_mem_nil, ⟨.inr trivial, ⟨.inr trivial, ⟨.inr trivial, ⟨.inr trivial, trivial⟩⟩⟩⟩⟩⟩) ?_
   rintro _ hE ho ⟨ag, ap, rfl, ez, ad, _⟩ hy ha
   replace ad := HS.lg ad ar ha
   generalize ({ hE with log := hy } : Heap) = hS at ad ⊢
   have ad : HS _ _ _ [_, _, _, [(I, .cells [(.slice a_l l.length k_l), (.slice A hl_.length E), (.slice a3 ([(⟨O⟩ : PtrT)] : List PtrT).length a6), (iI fuel), (.bool false), (iI 0), (iI 0), (.slice none 0 0), (iI 0)] none false)], z, J, ho] _ := ad
   refine dU (id := .a) (db (α := Hd) (ps := [(0, (.slice ag (List.replicate (lens.getD j 0).toNat (0 : Int)).length ap))]) (cells := [(.slice ag (List.replicate (lens.getD j 0).toNat (0 : Int)).length ap)]) ([(⟨ag, (List.replicate (lens.getD j 0).toNat (0 : Int)).length, ap⟩ : Hd)] : List Hd) ad.log0 rfl rfl rfl (by kernel_rfl) ⟨[(.slice ag (List.replicate (lens.getD j 0).toNat (0 : Int)).length ap)], [], rfl, rfl, rfl⟩ rfl) rfl rfl (fun _ _ _ _ => iF rfl rfl rfl) (⟨.inl rfl, ⟨.inl rfl, ⟨.inr trivial, ⟨.inr trivial, ⟨.inr trivial, ⟨.inr trivial, ⟨.inr trivial, trivial⟩⟩⟩⟩⟩⟩⟩) ?_
   rintro _ hF hM ⟨kb, kh, rfl, ht, U, _⟩ hz he
   replace U := HS.lg U ad he
   generalize ({ hF with log := hz } : Heap) = hV at U ⊢
   have U : HS _ _ _ [_, _, _, _, _, _, _, hM] _ := U
   refine dU (id := .x (z.map Prod.fst)) (eW (α := Hd) (q := 4) a2 U.log0 rfl rfl rfl (OS.sv ht U.log0 (i := 7) rfl) rfl rfl rfl rfl rfl rfl rfl (by first | omega | (simp only [List.length_cons, List.length_nil]; omega))) rfl rfl (by rintro _ _ gn ⟨dk, fd, rfl, e0, _, hwr⟩; exact ee rfl rfl (Wr.did hwr)) (⟨.inl rfl, ⟨.inl rfl, ⟨.inl rfl, ⟨.inl rfl, ⟨.inl rfl, ⟨.inl rfl, ⟨.inl rfl, ⟨.inr trivial, trivial⟩⟩⟩⟩⟩⟩⟩⟩) ?_
   rintro _ hG gn ⟨dk, fd, rfl, e0, av, _⟩ hA hf
   replace av := HS.lg av U hf
   generalize ({ hG with log := hA } : Heap) = hW at av ⊢
   have av : HS _ _ _ [_, _, _, _, gn, _, _, _] _ := av
   obtain ⟨cd, b2, bl⟩ := SF.add (⟨ag, (List.replicate (lens.getD j 0).toNat (0 : Int)).length, ap⟩ : Hd) a7 av (q := 5) (m := 6) (by decide) rfl rfl ez
   have b2 : HS _ _ _ [_, _, _, _, _, cd, [], _] _ := b2
   have bl : SF hk (hl_ ++ ([(⟨ag, (List.replicate (lens.getD j 0).toNat (0 : Int)).length, ap⟩ : Hd)] : List Hd)) (cl ++ [List.replicate (lens.getD j 0).toNat (0 : Int)]) cd := bl
   have h2 := FAM.len bl
   refine ai (v := (.pointer (some ⟨I, 0, none⟩))) (id := .v) (bN rfl) rfl rfl (aI rfl) (aF _) ?_
   refine ai (v := (.pointer (some ⟨I, 1, none⟩))) (id := .v) (bd rfl rfl) rfl rfl (aI rfl) (aF _) ?_
   refine jA (id := .x [I]) (aC (q := 3) b2.log0 rfl rfl rfl rfl rfl rfl rfl rfl rfl) rfl (by rintro _ _ _ ⟨_, hwr⟩; exact ee rfl rfl (Wr.did hwr)) (⟨.inl rfl, ⟨.inl rfl, ⟨.inl rfl, ⟨.inl rfl, ⟨.inl rfl, ⟨.inl rfl, ⟨.inl rfl, ⟨.inl rfl, ⟨.inl rfl, ⟨.inl rfl, ⟨.inl rfl, trivial⟩⟩⟩⟩⟩⟩⟩⟩⟩⟩⟩) ?_
   rintro _ hH _ ⟨a0, _⟩ hB hg
   replace a0 := HS.lg a0 b2 hg
   generalize ({ hH with log := hB } : Heap) = hX at a0 ⊢
   have a0 : HS _ _ _ [_, _, _, [(I, .cells [(.slice a_l l.length k_l), (.slice dk (hl_ ++ ([(⟨ag, (List.replicate (lens.getD j 0).toNat (0 : Int)).length, ap⟩ : Hd)] : List Hd)).length fd), (.slice a3 ([(⟨O⟩ : PtrT)] : List PtrT).length a6), (iI fuel), (.bool false), (iI 0), (iI 0), (.slice none 0 0), (iI 0)] none false)], _, _, _, _] _ := a0
   refine bZ ?_
   refine ay 2 rfl ?_
   refine wR 1 [] 65 65 [80] [(65, (iI ((j : Int) + 1)))] (vA (vi (n := (j : Int) + 1) (by first | omega | (dsimp only; omega))) trivial) rfl fun _ => ?_
   refine hv _ _ _ ?_ ⟨hl_ ++ ([(⟨ag, (List.replicate (lens.getD j 0).toNat (0 : Int)).length, ap⟩ : Hd)] : List Hd), cl ++ [List.replicate (lens.getD j 0).toNat (0 : Int)], j + 1, gn, dk, fd, cd, _, (T), (HS.sub a0 (List.sublist_append_left _ _)), e0, bl, (agC rfl (agC rfl (agC rfl (agC rfl (agC rfl (agC rfl (agC rfl agN))))))), rfl, (by exact rows_step e (by omega)), (by first | assumption | omega | (simp at *; omega))⟩
   omega
  ·
   try simp only [BS] at dn
   have e3 := HS.snoc ar
   let b6 : Fp := [(I, .cells [(.slice a_l l.length k_l), (.slice A hl_.length E), (.slice a3 ([(⟨O⟩ : PtrT)] : List PtrT).length a6), (iI fuel), (.bool false), (iI 0), (iI 0), (.slice none 0 0), (iI 0)] none false)]
   have e3 : HS _ _ _ [_, _, _, b6, z, J, []] _ := e3
   have e4 := HS.snoc e3
   have e4 : HS _ _ _ [_, _, _, _, _, _, _, []] _ := e4
   have e5 := HS.snoc e4
   have e5 : HS _ _ _ [_, _, _, _, _, _, _, _, []] _ := e5
   have hI : HS _ _ _ [b6, z, J, c9, [], dd, [], [], Z] _ := HS.flat e5 (permIdx [3, 4, 5, 2, 6, 1, 7, 8, 0] rfl (show List.Perm [3, 4, 5, 2, 6, 1, 7, 8, 0] (List.range 9) by decide))
   have hK : HS _ _ _ [b6, z, J, c9, [], dd, [], [], Z] _ := HS.sub hI (List.sublist_append_left _ _)
   obtain ⟨qv, e6, hqz⟩ := RunQ.close (s := (⟨[], ⟨l.getD fi.toNat default, [], args, 0, 0, 0⟩, cl, fuel, false, 0, 0, [], 0⟩ : RunS)) (ps := []) (bt := ⟨O⟩) (L := [Z]) hK a2 a7 ch rfl OS.nil (show in64 0 from ⟨by decide, by decide⟩) b5 OS.nil hargs
   have hrows := rows_end e (by omega)
   have hini : (⟨[], ⟨l.getD fi.toNat default, [], args, 0, 0, 0⟩, cl, fuel, false, 0, 0, [], 0⟩ : RunS) = iniV l lens fi args fuel := by rw [hrows]; rfl
   have e6 : HS _ _ _ [b6, qv, Z] _ := e6
   refine wR 2 [] 1 0 [17] [(17, (iI 0))] trivial rfl fun _ => ?_
   refine aQ (fun (mm : Nat) f H' => ∃ (sv : RunS) (kv : Nat) (ca : Option Addr) (cn : Nat) (ck : Nat) (pa : Option Addr) (pn : Nat) (pk : Nat) (oa : Option Addr) (on : Nat) (ok : Nat) (qv : Fp) (F' : Fz), Fz.le hk F' ∧ HS (Base.of H []) F' H' [[(I, .cells [(.slice a_l l.length k_l), (.slice ca cn ck), (.slice pa pn pk), (iI sv.fuel), (.bool sv.over), (iI sv.kind), (iI sv.code), (.slice oa on ok), (iI sv.val)] none false)], qv, Z] R ∧ be f [(5, (iI most)), (12, (.pointer (some ⟨b1, 0, none⟩))), (13, (.bool false)), (14, (.pointer (some ⟨I, 0, none⟩))), (17, (iI (kv : Int)))] ∧ mm = most.toNat - kv ∧ (RunQ F' sv ca cn ck pa pn pk oa on ok qv) ∧ (sv = itV l kv (iniV l lens fi args fuel)) ∧ ((kv : Int) ≤ most ∨ kv = 0)) _ ⟨(⟨[], ⟨l.getD fi.toNat default, [], args, 0, 0, 0⟩, cl, fuel, false, 0, 0, [], 0⟩ : RunS), 0, A, hl_.length, E, a3, ([(⟨O⟩ : PtrT)] : List PtrT).length, a6, none, 0, 0, qv, _, fR, e6, (agC rfl (agC rfl (agC rfl (agC rfl (agC rfl agN))))), rfl, (by exact hqz), (by exact hini), (by first | assumption | omega | (simp at *; omega))⟩ ?_
   rintro ih kf jw ⟨sv, kv, ca, cn, ck, pa, pn, pk, oa, on, ok, qv, hD, bb, a1, et, rfl, hqv, hit, hkv⟩ hw
   refine aO _ et (fun _ => ?_)
   clear et
   replace hl := hl.mono bb
   have hwv : RunOK l lens.length sv kv := by rw [hit]; exact it_ok hok kv
   refine ay 2 rfl ?_
   refine wR 1 [(7, .o (.bool sv.over))] 81 90 [] [(90, (.bool ((decide ((kv : Int) < most)) && (!sv.over))))] (vA (fun (g1 : (decide ((kv : Int) < most)) = true) => (ql 4 4 (HS.hc a1 (i := 0) rfl) rfl rfl)) trivial) rfl fun _ => ?_
   refine ao 3 6 (v := ((decide ((kv : Int) < most)) && (!sv.over))) rfl rfl rfl rfl (fun c6 => ?_) (fun c6 => ?_)
   ·
    try simp only [BS] at c6
    refine ah ?_
    refine wm (.pointer (some ⟨I, 0, none⟩)) rfl rfl rfl ?_
    refine aJ (ax rfl rfl rfl) rfl rfl (step_c ex sv (HS.call2 a1 (i := 0) (j := 1) (by decide) rfl rfl) hqv hl (prF_of hok.1) hwv hil (by omega)) ?_
    rintro _ j8 ⟨rfl, i1, dt, d1, dv, g2, g4, g3, f2, f9, f6, g5, hq, a5, h7⟩
    replace a5 := HS.back2 a1 (i := 0) (j := 1) (by decide) rfl rfl rfl (fun _ hb => hb) a5
    have a5 : HS _ _ _ [[(I, .cells [(.slice a_l l.length k_l), (.slice dt d1 dv), (.slice g2 g4 g3), (iI (bI l sv).fuel), (.bool (bI l sv).over), (iI (bI l sv).kind), (iI (bI l sv).code), (.slice f2 f9 f6), (iI (bI l sv).val)] none false)], g5, Z] _ := a5
    refine au 2 rfl ?_
    refine wR 1 [] 91 92 [17] [(17, (iI ((kv : Int) + 1)))] (vA (vi (n := (kv : Int) + 1) (by first | omega | (dsimp only; omega))) trivial) rfl fun _ => ?_
    refine hw _ _ _ ?_ ⟨(bI l sv), kv + 1, dt, d1, dv, g2, g4, g3, f2, f9, f6, g5, _, (fT (bb) hq), a5, (agC rfl (agC rfl (agC rfl (agC rfl (agC rfl agN))))), rfl, (by assumption), (by exact it_step hit (by have hh := (by assumption : _ ∧ sv.over = false); exact hh.2)), (by first | assumption | omega | (simp at *; omega))⟩
    omega
   ·
    try simp only [BS] at c6
    have hx := c6
    refine wR 1 [(3, .o (.bool sv.over))] 95 99 [] [(99, (.bool (!sv.over)))] (vA (ql 4 4 (HS.hc a1 (i := 0) rfl) rfl rfl) trivial) rfl fun _ => ?_
    refine ao 1 2 (v := (!sv.over)) rfl rfl rfl rfl (fun a4 => ?_) (fun a4 => ?_)
    ·
     have ds := a4
     try simp only [BS] at ds
     have hov : sv.over = false := by simpa using a4
     have hen := it_end hit hkv (.inr (by rcases Int.lt_or_le (kv : Int) most with h | h; exact absurd (hx h) (by rw [hov]; decide); exact h))
     refine ah ?_
     refine wRo 1 0 [] 100 100 [] [(100, (.agg ⟨[(iI 0), (iI 0), (.slice none 0 0), (iI 0)]⟩))] trivial rfl fun _ => ?_
     refine aN (aC (q := 2) a1 rfl rfl rfl rfl rfl rfl rfl rfl rfl) rfl ?_
     rintro _ j9 _ ⟨b3, _⟩
     have b3 : HS _ _ _ [[(I, .cells [(.slice a_l l.length k_l), (.slice ca cn ck), (.slice pa pn pk), (iI sv.fuel), (.bool sv.over), (iI sv.kind), (iI sv.code), (.slice oa on ok), (iI sv.val)] none false)], _, _] _ := b3
     refine wa (.bool false) rfl rfl rfl ?_
     refine au 1 rfl ?_
     refine am ⟨.inr rfl, _, (rC rfl (ldVN rfl rfl (HS.hc b3 (i := 2) rfl) rfl) (rT rfl rN)), (⟨0, 0, ([] : List Int), 0⟩ : OutT), none, 0, false, _, (fT (fT (a8) T) bb), (HS.forget b3), rfl, (by first | omega | (dsimp only; omega)), (by first | omega | (dsimp only; omega)), (by first | omega | (dsimp only; omega)), (SR.nil : SR hD (.slice none 0 0) ([] : List Int)), (by first | exact (gr (r := aK l lens fi args fuel most) (gP hen hov)).1 | exact (gr (r := aK l lens fi args fuel most) (gP hen hov)).2), (by first | exact (gr (r := aK l lens fi args fuel most) (gP hen hov)).1 | exact (gr (r := aK l lens fi args fuel most) (gP hen hov)).2), (by first | exact Nat.zero_le _ | (show sv.out.length ≤ 100000; have hcc := hwv.cnt; omega))⟩
    ·
     have ds := a4
     try simp only [BS] at ds
     have hov : sv.over = true := by simpa using a4
     have hen := it_end hit hkv (.inl hov)
     have hkc := hwv.kc
     obtain ⟨hd, ps, bt, pc, pr, pp, pl, po, ba, bk, ra, rn, rk, aa, an, ak, pg, hsO, y1, y2, y3, y4, y6, y7, x1, x2, x3⟩ := RunQ.openL (L := [Z]) hqv a1
     obtain rfl := OS.nlen y6
     have hsO : HS _ _ _ [[(I, .cells [(.slice a_l l.length k_l), (.slice ca cn ck), (.slice pa pn pk), (iI sv.fuel), (.bool sv.over), (iI sv.kind), (iI sv.code), (.slice oa sv.out.length ok), (iI sv.val)] none false)], pc, pr, pp, pl, [(bt.b, .cells [.int .i64 sv.top.code.params, .int .i64 sv.top.code.regs, .slice ba sv.top.code.blocks.length bk, .slice ra rn rk, .slice aa an ak, .int .i64 sv.top.blk, .int .i64 sv.top.at_, .int .i64 sv.top.to_] none false)], pg, po, Z] _ := hsO
     refine ah ?_
     let g6 : Value := (.agg ⟨[(iI sv.kind), (iI sv.code), (.slice oa sv.out.length ok), (iI sv.val)]⟩)
     refine wRo 4 0 [(3, .o g6)] 101 104 [] [(104, g6)] (vA (qn 55 5 4 (HS.hc hsO (i := 0) rfl) rfl rfl rfl rfl) trivial) rfl fun _ => ?_
     refine aN (aC (q := 8) hsO rfl rfl rfl rfl rfl rfl rfl rfl rfl) rfl ?_
     rintro _ ka _ ⟨b4, _⟩
     have b4 : HS _ _ _ [_, _, _, _, _, _, _, _, [(b1, .cells [(iI sv.kind), (iI sv.code), (.slice oa sv.out.length ok), (iI sv.val)] none false)]] _ := b4
     refine wa (.bool true) rfl rfl rfl ?_
     refine au 1 rfl ?_
     obtain ⟨i2, hr, c5, hu, h6⟩ := OS.frz y6 b4 (i := 7) rfl
     have c5 : HS _ _ _ [_, _, _, _, _, _, _, [], _] _ := c5
     refine am ⟨.inr rfl, _, (rC rfl (ldVN rfl rfl (HS.hc b4 (i := 8) rfl) rfl) (rT rfl rN)), (⟨sv.kind, sv.code, sv.out, sv.val⟩ : OutT), oa, ok, true, _, (fT (fT (fT (a8) T) bb) hr), (HS.forget c5), rfl, (by first | omega | (dsimp only; omega)), (by first | omega | (dsimp only; omega)), (by first | omega | (dsimp only; omega)), hu, (by first | exact (jH (r := aK l lens fi args fuel most) (jE hok hen hov)).1 | exact (jH (r := aK l lens fi args fuel most) (jE hok hen hov)).2), (by first | exact (jH (r := aK l lens fi args fuel most) (jE hok hen hov)).1 | exact (jH (r := aK l lens fi args fuel most) (jE hok hen hov)).2), (by first | exact Nat.zero_le _ | (show sv.out.length ≤ 100000; have hcc := hwv.cnt; omega))⟩
end Go.Proofs.YtlabedbmgmfbaaaDoor.ir
