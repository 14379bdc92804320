/-
 A whole run of virtual code by the program, by a symbolic run. No condition but bounds on lengths and that the table lies as laid.
-/
import Derived.Test.YtlabedbmgmfbaaaDoorZIIS
import Derived.Test.YtlabedbmgmfbaaaDoorZIID
import Derived.Test.YtlabedbmgmfbaaaDoorZIRC
noncomputable section
namespace Go.Proofs.YtlabedbmgmfbaaaDoor.ir
open Go.R
set_option maxRecDepth 10000
set_option linter.unusedVariables false
open m1 m2 m3 m4 m5 m6 m7 m8 iw ia ib ic is_ id_
structure OutT where
 kind : Int
 code : Int
 out : (List Int)
 val : Int
 deriving Inhabited, DecidableEq
instance : Rp OutT where
 sz := 4
 rep F cs x := ∃ a2 k2, cs = [.int .i64 x.kind, .int .i64 x.code, .slice a2 x.out.length k2, .int .i64 x.val] ∧ in64 x.kind ∧ in64 x.code ∧ in64 x.val ∧ SR F (.slice a2 x.out.length k2) x.out
 len := by rintro F cs x ⟨a2, k2, rfl, _⟩; rfl
 one := by rintro F cs x ⟨a2, k2, rfl, _⟩; rfl
 mono := by rintro F F' cs x hF ⟨a2, k2, rfl, h0, h1, h2, h3⟩; exact ⟨a2, k2, rfl, h0, h1, h2, h3.mono hF⟩
def bW (r : Option RunS) : OutT := match r with
 | some s => ⟨s.kind, s.code, s.out, s.val⟩
 | none => ⟨0, 0, [], 0⟩
theorem out_no {r : Option RunS} (h : none = r) : (⟨0, 0, [], 0⟩ : OutT) = bW r ∧ false = r.isSome := by subst h; exact ⟨rfl, rfl⟩
theorem out_yes {t : RunS} {r : Option RunS} (h : some t = r) : (⟨t.kind, t.code, t.out, t.val⟩ : OutT) = bW r ∧ true = r.isSome := by subst h; exact ⟨rfl, rfl⟩
set_option maxHeartbeats 2000000 in
theorem vrun_c (ex : FuncId) {a_l : Option Addr} {k_l : Nat} (l : List VFnT) {a_lens : Option Addr} {k_lens : Nat} (lens : List Int) (fi : Int) {a_args : Option Addr} {k_args : Nat} (args : List Int) (fuel : Int) (most : Int) {F : Fz} {H : Heap} {R : List Fp} (hs : HS (.of H []) F H [] R) (hl : SR F (.slice a_l l.length k_l) l) (hlens : SR F (.slice a_lens lens.length k_lens) lens) (hfi : in64 fi) (hargs : SR F (.slice a_args args.length k_args) args) (hfuel : in64 fuel) (hmost : in64 most) (hT : TB 37 tabC F) (hm : most ≤ 100000) (hbd : lens.length ≤ 1073741824 ∧ ∀ k j, ((l.getD k default).blocks.getD j default).ins.length ≤ 9223372036854775807) (hil : ∀ c ∈ l, ∀ k, (c.blocks.getD k default).ins.length ≤ 1000000) : C Tryd.prog 1 (KT 60 ex 37 tabC) 43 [(.slice a_l l.length k_l), (.slice a_lens lens.length k_lens), (iI fi), (.slice a_args args.length k_args), (iI fuel), (iI most)] H fun v H' => ∃ (x : OutT) (c9 : Option Addr) (e2 : Nat) (o : Bool) (F' : Fz), Fz.le F F' ∧ HS (.of H []) F' H' [] R ∧ v = .tuple ⟨[.agg ⟨[.int .i64 x.kind, .int .i64 x.code, .slice c9 x.out.length e2, .int .i64 x.val]⟩, .bool o]⟩ ∧ in64 x.kind ∧ in64 x.code ∧ in64 x.val ∧ SR F' (.slice c9 x.out.length e2) x.out ∧ x = bW (eQ l lens fi args fuel most) ∧ o = (eQ l lens fi args fuel most).isSome ∧ (x.out.length ≤ 100000) := by
 refine aJ Tryd.func43 rfl rfl ?_
 refine ao 1 rfl ?_
 refine ab ?_
 refine aP (bp hs rfl) rfl rfl ?_
 rintro _ H2 _ ⟨b1, rfl, c4, _⟩
 let Z : Fp := [(b1, .cells [(iI 0), (iI 0), (.slice none 0 0), (iI 0)] none false)]
 have c4 : HS _ _ _ [Z] _ := c4
 refine wa (.bool false) rfl rfl rfl ?_
 refine ai 3 rfl ?_
 refine ab ?_
 refine wRo 2 0 [] 18 19 [] [(18, (.slice a_l l.length k_l)), (19, (.slice a_lens lens.length k_lens))] trivial rfl fun _ => ?_
 refine aC (aw rfl rfl rfl) rfl rfl (m8.vprog_c ex l lens (HS.call c4) hl hlens hT (by omega)) ?_
 rintro _ H4 ⟨r4, F4, a8, V, rfl, rfl⟩
 replace V := HS.back c4 rfl V
 have V : HS _ _ _ [_] _ := V
 replace hargs := hargs.mono a8
 replace hl := hl.mono a8
 replace hlens := hlens.mono a8
 obtain ⟨i2, g6⟩ := Sv.view (SR.sv hl V)
 obtain ⟨hQ, hR, h2⟩ := VFnT.fx (g6 fi.toNat)
 refine wRo 29 3 [(21, .o (iI (l.getD fi.toNat default).params))] 21 49 [] [(49, (.bool ((((((!(vpV l lens)) || (decide (fi < 0))) || (decide ((l.length : Int) ≤ fi))) || ((args.length : Int) != (l.getD fi.toNat default).params)) || (decide (fuel < 0))) || (decide ((1000 : Int) < fuel)))))] (vA (fun (g1 : (((!(vpV l lens)) || (decide (fi < 0))) || (decide ((l.length : Int) ≤ fi))) = false) => (Sv.ix (j := fi) (SR.sv hl V) (by (try simp only [BS] at g1); (first | omega | (dsimp only; omega))) (by (try simp only [BS] at g1); (first | omega | (dsimp only; omega))))) (vA (fun (g1 : (((!(vpV l lens)) || (decide (fi < 0))) || (decide ((l.length : Int) ≤ fi))) = false) => (ql 3 0 (VFnT.vw (g6 fi.toNat) (by (try simp only [BS] at g1); (first | omega | (dsimp only; omega)))) rfl rfl)) trivial)) rfl fun _ => ?_
 refine ai 1 rfl ?_
 refine aj 1 2 (v := ((((((!(vpV l lens)) || (decide (fi < 0))) || (decide ((l.length : Int) ≤ fi))) || ((args.length : Int) != (l.getD fi.toNat default).params)) || (decide (fuel < 0))) || (decide ((1000 : Int) < fuel)))) rfl rfl rfl rfl (fun b6 => ?_) (fun b6 => ?_)
 ·
  have c8 := b6
  try simp only [BS] at c8
  have hno : ¬ okR l lens fi args fuel := fun hh => by
   have hc := b6; obtain ⟨q1, q2, q3, q4, q5, q6⟩ := hh; simp only [q1, Bool.not_true, Bool.false_or, Bool.or_eq_true, decide_eq_true_eq, bne_iff_ne] at hc; omega
  refine ab ?_
  refine wRo 1 0 [] 50 50 [] [(50, (.agg ⟨[(iI 0), (iI 0), (.slice none 0 0), (iI 0)]⟩))] trivial rfl fun _ => ?_
  refine aD (ax (q := 0) V rfl rfl rfl rfl rfl rfl rfl rfl rfl) rfl ?_
  rintro _ h5 _ ⟨bl, _⟩
  have bl : HS _ _ _ [_] _ := bl
  refine wa (.bool false) rfl rfl rfl ?_
  refine ai 1 rfl ?_
  refine ah ⟨.inr rfl, _, (rC rfl (ldVN rfl rfl (HS.hc bl (i := 0) rfl) rfl) (rT rfl rN)), (⟨0, 0, ([] : List Int), 0⟩ : OutT), none, 0, false, _, (a8), (HS.forget bl), rfl, (by (dsimp only; omega)), (by (dsimp only; omega)), (by (dsimp only; omega)), (SR.nil : SR F4 (.slice none 0 0) ([] : List Int)), (by exact (out_no (r := eQ l lens fi args fuel most) (run_no hno)).1), (by exact (out_no (r := eQ l lens fi args fuel most) (run_no hno)).2), (by exact Nat.zero_le _)⟩
 ·
  have c8 := b6
  try simp only [BS] at c8
  have hok : okR l lens fi args fuel := by
   have hc := b6; simp only [Bool.or_eq_false_iff, Bool.not_eq_false', decide_eq_false_iff_not, bne_eq_false_iff_eq] at hc; exact ⟨hc.1.1.1.1.1, by omega, by omega, by omega, by omega, by omega⟩
  have hlen := ini_ok hok
  have hS := hok.2
  refine ab ?_
  obtain ⟨aq, ec⟩ := Sv.view (SR.sv hl V)
  obtain ⟨hE, hF, b4⟩ := VFnT.fx (ec fi.toNat)
  refine wRo 8 0 [(5, .o (.agg ⟨[(iI (l.getD fi.toNat default).params), (iI (l.getD fi.toNat default).regs), (.slice (cA (aq fi.toNat) 2) (l.getD fi.toNat default).blocks.length (cK (aq fi.toNat) 2))]⟩))] 51 58 [] [(51, (.slice a_l l.length k_l)), (52, (iI fuel)), (58, (.agg ⟨[(iI (l.getD fi.toNat default).params), (iI (l.getD fi.toNat default).regs), (.slice (cA (aq fi.toNat) 2) (l.getD fi.toNat default).blocks.length (cK (aq fi.toNat) 2)), (.slice none 0 0), (.slice a_args args.length k_args), (iI 0), (iI 0), (iI 0)]⟩))] (vA (Sv.ix (j := fi) (SR.sv hl V) (by omega) (by omega)) (vA (qn 24 0 3 (VFnT.vw (ec fi.toNat) (by omega)) rfl rfl rfl rfl) trivial)) rfl fun _ => ?_
  refine aP (b8 V rfl rfl) rfl rfl ?_
  rintro _ h6 _ ⟨O, rfl, cd, _⟩
  let c6 : Fp := [(O, .cells [(iI (l.getD fi.toNat default).params), (iI (l.getD fi.toNat default).regs), (.slice (cA (aq fi.toNat) 2) (l.getD fi.toNat default).blocks.length (cK (aq fi.toNat) 2)), (.slice none 0 0), (.slice a_args args.length k_args), (iI 0), (iI 0), (iI 0)] none false)]
  have cd : HS _ _ _ [_, c6] _ := cd
  refine aP (bZ (α := PtrT) (ps := [(0, (.pointer (some ⟨O, 0, none⟩)))]) (cells := [(.pointer (some ⟨O, 0, none⟩))]) ([(⟨O⟩ : PtrT)] : List PtrT) cd rfl rfl rfl (by kernel_rfl) ⟨[(.pointer (some ⟨O, 0, none⟩))], [], rfl, rfl, rfl⟩ rfl) rfl rfl ?_
  rintro _ h7 c5 ⟨a3, a6, rfl, b9, ch, _⟩
  have ch : HS _ _ _ [_, _, c5] _ := ch
  refine wRo 1 10 [] 61 61 [] [(61, (.agg ⟨[(.slice a_l l.length k_l), (.slice none 0 0), (.slice a3 ([(⟨O⟩ : PtrT)] : List PtrT).length a6), (iI fuel), (.bool false), (iI 0), (iI 0), (.slice none 0 0), (iI 0)]⟩))] trivial rfl fun _ => ?_
  refine aP (b8 ch rfl rfl) rfl rfl ?_
  rintro _ h8 _ ⟨I, rfl, ci, _⟩
  have ci : HS _ _ _ [_, _, _, [(I, .cells [(.slice a_l l.length k_l), (.slice none 0 0), (.slice a3 ([(⟨O⟩ : PtrT)] : List PtrT).length a6), (iI fuel), (.bool false), (iI 0), (iI 0), (.slice none 0 0), (iI 0)] none false)]] _ := ci
  refine wa (.pointer (some ⟨I, 0, none⟩)) rfl rfl rfl ?_
  refine ai 3 rfl ?_
  refine wR 2 [] 63 65 [] [(63, (.slice a_lens lens.length k_lens)), (64, (iI (lens.length : Int))), (65, (iI 0))] trivial rfl fun _ => ?_
  have co := HS.snoc ci
  have co : HS _ _ _ [_, _, _, _, []] _ := co
  have cv := HS.snoc co
  have cv : HS _ _ _ [_, _, _, _, _, []] _ := cv
  have dv : SF F4 ([] : List Hd) ([] : List (List Int)) [] := rfl
  have hN := FAM.len dv
  refine aE (fun (mm : Nat) f H' => ∃ (hl_ : List Hd) (cl : List (List Int)) (j : Nat) (z : Fp) (A : Option Addr) (E : Nat) (J : Fp) (F' : Fz), Fz.le F4 F' ∧ HS (Base.of H []) F' H' [Z, c6, c5, [(I, .cells [(.slice a_l l.length k_l), (.slice A hl_.length E), (.slice a3 ([(⟨O⟩ : PtrT)] : List PtrT).length a6), (iI fuel), (.bool false), (iI 0), (iI 0), (.slice none 0 0), (iI 0)] none false)], z, J] R ∧ OS F' (.slice A hl_.length E) hl_ z ∧ SF F' hl_ cl J ∧ aS f [(5, (iI most)), (12, (.pointer (some ⟨b1, 0, none⟩))), (13, (.bool false)), (14, (.pointer (some ⟨I, 0, none⟩))), (63, (.slice a_lens lens.length k_lens)), (64, (iI (lens.length : Int))), (65, (iI (j : Int)))] ∧ mm = lens.length - j ∧ (cl = (lens.take j).map (fun n => List.replicate n.toNat 0)) ∧ (j ≤ lens.length)) _ ⟨([] : List Hd), ([] : List (List Int)), 0, [], none, 0, [], _, fR, cv, (OS.nil : OS F4 (.slice none 0 0) ([] : List Hd) []), dv, ⟨rfl, rfl, rfl, rfl, rfl, rfl, rfl, trivial⟩, rfl, (by rfl), (by omega)⟩ ?_
  rintro hX i3 h9 ⟨hl_, cl, j, z, A, E, J, g5, T, ar, a2, a7, d1, rfl, e, hj⟩ hk
  refine aF _ d1 (fun _ => ?_)
  clear d1
  replace hargs := hargs.mono T
  replace hl := hl.mono T
  replace hlens := hlens.mono T
  replace b9 := b9.mono T
  replace b4 := b4.mono T
  have ht := FAM.len a7
  have hlj := fun h => len_at hok.1 (j := j) h
  have hcl : cl.length = j := by rw [e, List.length_map, List.length_take]; omega
  have hvl : lens.length ≤ 4 := by have h := hok.1; unfold vpV at h; rw [Bool.and_eq_true, Bool.and_eq_true] at h; exact (of_decide_eq_true h.1.1).2.2
  refine ao 1 rfl ?_
  refine wR 2 [] 66 66 [] [(66, (.bool (decide ((j : Int) < (lens.length : Int)))))] trivial rfl fun _ => ?_
  refine aj 4 6 (v := (decide ((j : Int) < (lens.length : Int)))) rfl rfl rfl rfl (fun dd => ?_) (fun dd => ?_)
  ·
   try simp only [BS] at dd
   obtain ⟨hM, em⟩ := Sv.view (SR.sv hlens ar)
   have jq := fI (em j)
   refine wR 1 [(1, .o (iI (lens.getD j 0)))] 67 68 [16] [(16, (iI (lens.getD j 0)))] (vA (Sv.ix (j := (j : Int)) (SR.sv hlens ar) (by omega) (by omega)) (vA (ql 3 0 (vI (em j) (by omega)) rfl rfl) trivial)) rfl fun _ => ?_
   refine aG rfl ?_
   refine fm (.pointer (some ⟨I, 0, none⟩)) rfl rfl rfl ?_
   refine fm (.pointer (some ⟨I, 0, none⟩)) rfl rfl rfl ?_
   refine wfv (v := (.pointer (some ⟨I, 0, none⟩))) (bB rfl) ?_
   refine wfv (v := (.pointer (some ⟨I, 1, none⟩))) (aR rfl rfl) ?_
   refine au (v := (.slice A hl_.length E)) (id := .l I) (aA (i := 1) rfl rfl (HS.hc ar.log0 (i := 3) rfl) rfl rfl) rfl rfl (aL rfl) (kb rfl) ?_
   refine fm (iI (lens.getD j 0)) rfl rfl rfl ?_
   refine dJ (id := .x []) (rs_make (0 : Int) ar.log0 rfl rfl rfl rfl rfl rfl rfl rfl rfl ⟨rfl, by decide⟩ (by omega) (by omega)) rfl rfl (by rintro _ _ g7 ⟨ag, ap, rfl, ea, _, hwr⟩; exact cE rfl rfl (Wr.did hwr)) (⟨.inl rfl, ⟨.inr List.not_mem_nil, ⟨.inr trivial, ⟨.inr trivial, ⟨.inr trivial, ⟨.inr trivial, trivial⟩⟩⟩⟩⟩⟩) ?_
   rintro _ hv g7 ⟨ag, ap, rfl, ea, ad, _⟩ ho gj
   replace ad := HS.lg ad ar gj
   generalize ({ hv with log := ho } : Heap) = hG at ad ⊢
   have ad : HS _ _ _ [_, _, _, [(I, .cells [(.slice a_l l.length k_l), (.slice A hl_.length E), (.slice a3 ([(⟨O⟩ : PtrT)] : List PtrT).length a6), (iI fuel), (.bool false), (iI 0), (iI 0), (.slice none 0 0), (iI 0)] none false)], z, J, g7] _ := ad
   refine dJ (id := .a) (bZ (α := Hd) (ps := [(0, (.slice ag (List.replicate (lens.getD j 0).toNat (0 : Int)).length ap))]) (cells := [(.slice ag (List.replicate (lens.getD j 0).toNat (0 : Int)).length ap)]) ([(⟨ag, (List.replicate (lens.getD j 0).toNat (0 : Int)).length, ap⟩ : Hd)] : List Hd) ad.log0 rfl rfl rfl (by kernel_rfl) ⟨[(.slice ag (List.replicate (lens.getD j 0).toNat (0 : Int)).length ap)], [], rfl, rfl, rfl⟩ rfl) rfl rfl (fun _ _ _ _ => gN rfl rfl rfl) (kb rfl) ?_
   rintro _ hw hC ⟨i1, j0, rfl, hf, U, _⟩ hp g2
   replace U := HS.lg U ad g2
   generalize ({ hw with log := hp } : Heap) = hH at U ⊢
   have U : HS _ _ _ [_, _, _, _, _, _, _, hC] _ := U
   refine dJ (id := .x (z.map Prod.fst)) (cT (α := Hd) (q := 4) a2 U.log0 rfl rfl rfl (OS.sv hf U.log0 (i := 7) rfl) rfl rfl rfl rfl rfl rfl rfl (by (simp only [List.length_cons, List.length_nil]; omega))) rfl rfl (by rintro _ _ e6 ⟨c7, e1, rfl, eb, _, hwr⟩; exact cE rfl rfl (Wr.did hwr)) (kb rfl) ?_
   rintro _ hy e6 ⟨c7, e1, rfl, eb, av, _⟩ hq g3
   replace av := HS.lg av U g3
   generalize ({ hy with log := hq } : Heap) = hI at av ⊢
   have av : HS _ _ _ [_, _, _, _, e6, _, _, _] _ := av
   obtain ⟨b7, b0, bb⟩ := SF.add (⟨ag, (List.replicate (lens.getD j 0).toNat (0 : Int)).length, ap⟩ : Hd) a7 av (q := 5) (m := 6) (by decide) rfl rfl ea
   have b0 : HS _ _ _ [_, _, _, _, _, b7, [], _] _ := b0
   have bb : SF g5 (hl_ ++ ([(⟨ag, (List.replicate (lens.getD j 0).toNat (0 : Int)).length, ap⟩ : Hd)] : List Hd)) (cl ++ [List.replicate (lens.getD j 0).toNat (0 : Int)]) b7 := bb
   have hP := FAM.len bb
   refine wfv (v := (.pointer (some ⟨I, 0, none⟩))) (bB rfl) ?_
   refine wfv (v := (.pointer (some ⟨I, 1, none⟩))) (aR rfl rfl) ?_
   refine ed (id := .x [I]) (ax (q := 3) b0.log0 rfl rfl rfl rfl rfl rfl rfl rfl rfl) rfl (by rintro _ _ _ ⟨_, hwr⟩; exact cE rfl rfl (Wr.did hwr)) (kb rfl) ?_
   rintro _ hz _ ⟨a0, _⟩ hr g4
   replace a0 := HS.lg a0 b0 g4
   generalize ({ hz with log := hr } : Heap) = hK at a0 ⊢
   have a0 : HS _ _ _ [_, _, _, [(I, .cells [(.slice a_l l.length k_l), (.slice c7 (hl_ ++ ([(⟨ag, (List.replicate (lens.getD j 0).toNat (0 : Int)).length, ap⟩ : Hd)] : List Hd)).length e1), (.slice a3 ([(⟨O⟩ : PtrT)] : List PtrT).length a6), (iI fuel), (.bool false), (iI 0), (iI 0), (.slice none 0 0), (iI 0)] none false)], _, _, _, _] _ := a0
   refine bw ?_
   refine ao 2 rfl ?_
   refine wR 1 [] 65 65 [80] [(65, (iI ((j : Int) + 1)))] (vA (vi (n := (j : Int) + 1) (by omega)) trivial) rfl fun _ => ?_
   refine hk _ _ _ ?_ ⟨hl_ ++ ([(⟨ag, (List.replicate (lens.getD j 0).toNat (0 : Int)).length, ap⟩ : Hd)] : List Hd), cl ++ [List.replicate (lens.getD j 0).toNat (0 : Int)], j + 1, e6, c7, e1, b7, _, (T), (HS.sub a0 (List.sublist_append_left _ _)), eb, bb, ⟨rfl, rfl, rfl, rfl, rfl, rfl, rfl, trivial⟩, rfl, (by exact rows_step e (by omega)), (by omega)⟩
   omega
  ·
   try simp only [BS] at dd
   have es := HS.snoc ar
   let b5 : Fp := [(I, .cells [(.slice a_l l.length k_l), (.slice A hl_.length E), (.slice a3 ([(⟨O⟩ : PtrT)] : List PtrT).length a6), (iI fuel), (.bool false), (iI 0), (iI 0), (.slice none 0 0), (iI 0)] none false)]
   have es : HS _ _ _ [_, _, _, b5, z, J, []] _ := es
   have et := HS.snoc es
   have et : HS _ _ _ [_, _, _, _, _, _, _, []] _ := et
   have ez := HS.snoc et
   have ez : HS _ _ _ [_, _, _, _, _, _, _, _, []] _ := ez
   have hA : HS _ _ _ [b5, z, J, c5, [], c6, [], [], Z] _ := HS.flat ez (gJ [3, 4, 5, 2, 6, 1, 7, 8, 0] rfl (show List.Perm [3, 4, 5, 2, 6, 1, 7, 8, 0] (List.range 9) by decide))
   have hB : HS _ _ _ [b5, z, J, c5, [], c6, [], [], Z] _ := HS.sub hA (List.sublist_append_left _ _)
   obtain ⟨qv, e0, hqz⟩ := RunQ.close (s := (⟨[], ⟨l.getD fi.toNat default, [], args, 0, 0, 0⟩, cl, fuel, false, 0, 0, [], 0⟩ : RunS)) (ps := []) (bt := ⟨O⟩) (L := [Z]) hB a2 a7 b9 rfl OS.nil (show in64 0 from ⟨by decide, by decide⟩) b4 OS.nil hargs
   have hrows := rows_end e (by omega)
   have hini : (⟨[], ⟨l.getD fi.toNat default, [], args, 0, 0, 0⟩, cl, fuel, false, 0, 0, [], 0⟩ : RunS) = iniV l lens fi args fuel := by rw [hrows]; rfl
   have e0 : HS _ _ _ [b5, qv, Z] _ := e0
   refine wR 2 [] 1 0 [17] [(17, (iI 0))] trivial rfl fun _ => ?_
   refine aE (fun (mm : Nat) f H' => ∃ (sv : RunS) (kv : Nat) (ca : Option Addr) (cn : Nat) (ck : Nat) (pa : Option Addr) (pn : Nat) (pk : Nat) (oa : Option Addr) (on : Nat) (ok : Nat) (qv : Fp) (F' : Fz), Fz.le g5 F' ∧ HS (Base.of H []) F' H' [[(I, .cells [(.slice a_l l.length k_l), (.slice ca cn ck), (.slice pa pn pk), (iI sv.fuel), (.bool sv.over), (iI sv.kind), (iI sv.code), (.slice oa on ok), (iI sv.val)] none false)], qv, Z] R ∧ aS f [(5, (iI most)), (12, (.pointer (some ⟨b1, 0, none⟩))), (13, (.bool false)), (14, (.pointer (some ⟨I, 0, none⟩))), (17, (iI (kv : Int)))] ∧ mm = most.toNat - kv ∧ (RunQ F' sv ca cn ck pa pn pk oa on ok qv) ∧ (sv = itV l kv (iniV l lens fi args fuel)) ∧ ((kv : Int) ≤ most ∨ kv = 0)) _ ⟨(⟨[], ⟨l.getD fi.toNat default, [], args, 0, 0, 0⟩, cl, fuel, false, 0, 0, [], 0⟩ : RunS), 0, A, hl_.length, E, a3, ([(⟨O⟩ : PtrT)] : List PtrT).length, a6, none, 0, 0, qv, _, fR, e0, ⟨rfl, rfl, rfl, rfl, rfl, trivial⟩, rfl, (by exact hqz), (by exact hini), (by omega)⟩ ?_
   rintro hY jb ih ⟨sv, kv, ca, cn, ck, pa, pn, pk, oa, on, ok, qv, hu, a9, a1, d2, rfl, hqv, hit, hkv⟩ hn
   refine aF _ d2 (fun _ => ?_)
   clear d2
   replace hl := hl.mono a9
   have hwv : RunOK l lens.length sv kv := by rw [hit]; exact it_ok hok kv
   refine ao 2 rfl ?_
   refine wR 1 [(7, .o (.bool sv.over))] 81 90 [] [(90, (.bool ((decide ((kv : Int) < most)) && (!sv.over))))] (vA (fun (g1 : (decide ((kv : Int) < most)) = true) => (ql 4 4 (HS.hc a1 (i := 0) rfl) rfl rfl)) trivial) rfl fun _ => ?_
   refine aj 3 6 (v := ((decide ((kv : Int) < most)) && (!sv.over))) rfl rfl rfl rfl (fun c3 => ?_) (fun c3 => ?_)
   ·
    try simp only [BS] at c3
    refine ab ?_
    refine wm (.pointer (some ⟨I, 0, none⟩)) rfl rfl rfl ?_
    refine aC (aw rfl rfl rfl) rfl rfl (step_c ex sv (HS.call2 a1 (i := 0) (j := 1) (by decide) rfl rfl) hqv hl (i8 hok.1) hwv hil (by omega)) ?_
    rintro _ ii ⟨rfl, h3, dl, ds, dn, e9, f1, fd, e3, e5, e4, f2, ha, a5, hW⟩
    replace a5 := HS.back2 a1 (i := 0) (j := 1) (by decide) rfl rfl rfl (fun _ hb => hb) a5
    have a5 : HS _ _ _ [[(I, .cells [(.slice a_l l.length k_l), (.slice dl ds dn), (.slice e9 f1 fd), (iI (bz l sv).fuel), (.bool (bz l sv).over), (iI (bz l sv).kind), (iI (bz l sv).code), (.slice e3 e5 e4), (iI (bz l sv).val)] none false)], f2, Z] _ := a5
    refine ai 2 rfl ?_
    refine wR 1 [] 91 92 [17] [(17, (iI ((kv : Int) + 1)))] (vA (vi (n := (kv : Int) + 1) (by omega)) trivial) rfl fun _ => ?_
    refine hn _ _ _ ?_ ⟨(bz l sv), kv + 1, dl, ds, dn, e9, f1, fd, e3, e5, e4, f2, _, (fT (a9) ha), a5, ⟨rfl, rfl, rfl, rfl, rfl, trivial⟩, rfl, (by assumption), (by exact it_step hit (by have hh := (by assumption : _ ∧ sv.over = false); exact hh.2)), (by omega)⟩
    omega
   ·
    try simp only [BS] at c3
    have hx := c3
    refine wR 1 [(3, .o (.bool sv.over))] 95 99 [] [(99, (.bool (!sv.over)))] (vA (ql 4 4 (HS.hc a1 (i := 0) rfl) rfl rfl) trivial) rfl fun _ => ?_
    refine aj 1 2 (v := (!sv.over)) rfl rfl rfl rfl (fun a4 => ?_) (fun a4 => ?_)
    ·
     have dk := a4
     try simp only [BS] at dk
     have hov : sv.over = false := by simpa using a4
     have hen := it_end hit hkv (.inr (by rcases Int.lt_or_le (kv : Int) most with h | h; exact absurd (hx h) (by rw [hov]; decide); exact h))
     refine ab ?_
     refine wRo 1 0 [] 100 100 [] [(100, (.agg ⟨[(iI 0), (iI 0), (.slice none 0 0), (iI 0)]⟩))] trivial rfl fun _ => ?_
     refine aD (ax (q := 2) a1 rfl rfl rfl rfl rfl rfl rfl rfl rfl) rfl ?_
     rintro _ ik _ ⟨b2, _⟩
     have b2 : HS _ _ _ [[(I, .cells [(.slice a_l l.length k_l), (.slice ca cn ck), (.slice pa pn pk), (iI sv.fuel), (.bool sv.over), (iI sv.kind), (iI sv.code), (.slice oa on ok), (iI sv.val)] none false)], _, _] _ := b2
     refine wa (.bool false) rfl rfl rfl ?_
     refine ai 1 rfl ?_
     refine ah ⟨.inr rfl, _, (rC rfl (ldVN rfl rfl (HS.hc b2 (i := 2) rfl) rfl) (rT rfl rN)), (⟨0, 0, ([] : List Int), 0⟩ : OutT), none, 0, false, _, (fT (fT (a8) T) a9), (HS.forget b2), rfl, (by (dsimp only; omega)), (by (dsimp only; omega)), (by (dsimp only; omega)), (SR.nil : SR hu (.slice none 0 0) ([] : List Int)), (by exact (out_no (r := eQ l lens fi args fuel most) (kA hen hov)).1), (by exact (out_no (r := eQ l lens fi args fuel most) (kA hen hov)).2), (by exact Nat.zero_le _)⟩
    ·
     have dk := a4
     try simp only [BS] at dk
     have hov : sv.over = true := by simpa using a4
     have hen := it_end hit hkv (.inl hov)
     have hkc := hwv.kc
     obtain ⟨hd, ps, bt, pc, pr, pp, pl, po, ba, bk, ra, rn, rk, aa, an, ak, pg, hsO, y1, y2, y3, y4, y6, y7, x1, x2, x3⟩ := RunQ.openL (L := [Z]) hqv a1
     obtain rfl := OS.nlen y6
     have hsO : HS _ _ _ [[(I, .cells [(.slice a_l l.length k_l), (.slice ca cn ck), (.slice pa pn pk), (iI sv.fuel), (.bool sv.over), (iI sv.kind), (iI sv.code), (.slice oa sv.out.length ok), (iI sv.val)] none false)], pc, pr, pp, pl, [(bt.b, .cells [.int .i64 sv.top.code.params, .int .i64 sv.top.code.regs, .slice ba sv.top.code.blocks.length bk, .slice ra rn rk, .slice aa an ak, .int .i64 sv.top.blk, .int .i64 sv.top.at_, .int .i64 sv.top.to_] none false)], pg, po, Z] _ := hsO
     refine ab ?_
     let f6 : Value := (.agg ⟨[(iI sv.kind), (iI sv.code), (.slice oa sv.out.length ok), (iI sv.val)]⟩)
     refine wRo 4 0 [(3, .o f6)] 101 104 [] [(104, f6)] (vA (qn 55 5 4 (HS.hc hsO (i := 0) rfl) rfl rfl rfl rfl) trivial) rfl fun _ => ?_
     refine aD (ax (q := 8) hsO rfl rfl rfl rfl rfl rfl rfl rfl rfl) rfl ?_
     rintro _ iv _ ⟨b3, _⟩
     have b3 : HS _ _ _ [_, _, _, _, _, _, _, _, [(b1, .cells [(iI sv.kind), (iI sv.code), (.slice oa sv.out.length ok), (iI sv.val)] none false)]] _ := b3
     refine wa (.bool true) rfl rfl rfl ?_
     refine ai 1 rfl ?_
     obtain ⟨h4, he, c0, hg, hV⟩ := OS.frz y6 b3 (i := 7) rfl
     have c0 : HS _ _ _ [_, _, _, _, _, _, _, [], _] _ := c0
     refine ah ⟨.inr rfl, _, (rC rfl (ldVN rfl rfl (HS.hc b3 (i := 8) rfl) rfl) (rT rfl rN)), (⟨sv.kind, sv.code, sv.out, sv.val⟩ : OutT), oa, ok, true, _, (fT (fT (fT (a8) T) a9) he), (HS.forget c0), rfl, (by (dsimp only; omega)), (by (dsimp only; omega)), (by omega), hg, (by exact (out_yes (r := eQ l lens fi args fuel most) (kz hok hen hov)).1), (by exact (out_yes (r := eQ l lens fi args fuel most) (kz hok hen hov)).2), (by (show sv.out.length ≤ 100000; have hcc := hwv.cnt; omega))⟩
end Go.Proofs.YtlabedbmgmfbaaaDoor.ir
