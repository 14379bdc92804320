/-
 The reference interpreter: an instruction, by symbolic runs. No condition but bounds on lengths.
-/
import Derived.Test.YtlabedbmgmfbaaaDoorZIJA
import Derived.Test.YtlabedbmgmfbaaaDoorZIJW
import Derived.Test.YtlabedbmgmfbaaaDoorZIIC
import Derived.Test.YtlabedbmgmfbaaaDoorZIRC
noncomputable section
namespace Go.Proofs.YtlabedbmgmfbaaaDoor.jc
open Go.R
set_option maxRecDepth 10000
set_option linter.unusedVariables false
open m1 m2 m3 m4 m5 m6 m7 m8 iw ia ib ic ja jw
theorem iO {b v : Bool} (h : (!b) = v) : b = !v := by cases b <;> cases v <;> simp_all
theorem nin2 {b z : Nat} {o : AObj} {q : Fp} (A : b ∉ ([(z, o)] : Fp).map Prod.fst) (E : b ∉ q.map Prod.fst) : b ∉ z :: q.map Prod.fst := by
 intro h
 rcases List.mem_cons.1 h with h | h
 ·
  exact A (by simp [h])
 ·
  exact E h
theorem kE {f : Int → Int} {l ag : List Int} {j : Nat} (h : ag = (l.take j).map f) (hj : j < l.length) : ag ++ [f (l.getD j 0)] = (l.take (j + 1)).map f := by
 rw [h, List.take_add_one, List.map_append, List.getD_eq_getElem?_getD, List.getElem?_eq_getElem hj]; rfl
theorem map_all {f : Int → Int} {l ag : List Int} {j : Nat} (h : ag = (l.take j).map f) (hj : l.length ≤ j) : ag = l.map f := by rw [h, List.take_of_length_le hj]
def CallSpec (ex : FuncId) (P : List VFnT) (nc N n : Nat) : Prop := ∀ {F : Fz} {H : Heap} {R : List Fp} {b : Nat} {la : Option Addr} {lk : Nat} {ca : Option Addr} {cn ck : Nat} {oa : Option Addr} {on ok : Nat} {q : Fp} {aa : Option Addr} {ak : Nat} (s : IntS) (f : Int) (args : List Int), HS (.of H (b :: q.map Prod.fst)) F H [[(b, .cells [.slice la P.length lk, .slice ca cn ck, .int .i64 s.fuel, .int .i64 s.most, .slice oa on ok, .int .i64 s.kind, .int .i64 s.code, .slice none 0 0, .int .i64 0, .bool s.over, .bool s.long] none false)], q] R → IntQ F s ca cn ck oa on ok q → SR F (.slice la P.length lk) P → SR F (.slice aa args.length ak) args → (0 ≤ f ∧ f < (P.length : Int) ∧ (P.getD f.toNat default).params = (args.length : Int)) → IntOK nc s N → s.most.toNat < n → s.over = false → s.long = false →
 C Tryd.prog 1 (KT 60 ex 37 tabC) 66 [.pointer (some ⟨b, 0, none⟩), .int .i64 f, .slice aa args.length ak] H fun v H' => v = .int .i64 (bY P s f args).2 ∧ in64 (bY P s f args).2 ∧ IntP (.of H (b :: q.map Prod.fst)) F R P la lk b (bY P s f args).1 H'
theorem jr (ex : FuncId) {F : Fz} {H : Heap} {R : List Fp} {b : Nat} {I c1 c2 J O T U V Z c9 z : Value} (k c : Int) (hs : HS (.of H [b]) F H [[(b, .cells [I, c1, c2, J, O, T, U, V, Z, c9, z] none false)]] R) : C Tryd.prog 1 (KT 60 ex 37 tabC) 81 [.pointer (some ⟨b, 0, none⟩), .int .i64 k, .int .i64 c] H fun v H' => HS (.of H [b]) F H' [[(b, .cells [I, c1, c2, J, O, .int .i64 k, .int .i64 c, .slice none 0 0, .int .i64 0, .bool true, z] none false)]] R ∧ v = .tuple #[] := by
 refine aJ Tryd.func81 rfl rfl ?_
 refine ab ?_
 refine wRo 7 0 [] 6 12 [] [(7, (.pointer (some ⟨b, 0, none⟩))), (10, (.agg ⟨[(iI k), (iI c), (.slice none 0 0), (iI 0)]⟩)), (12, (.pointer (some ⟨b, 9, none⟩)))] trivial rfl fun _ => ?_
 refine aD (ax (q := 0) hs rfl rfl rfl rfl rfl rfl rfl rfl rfl) rfl ?_
 rintro _ H2 _ ⟨A, _⟩
 have A : HS _ _ _ [[(b, .cells [I, c1, c2, J, O, T, U, V, Z, (.bool true), z] none false)]] _ := A
 refine wRo 2 8 [] 13 14 [] [(14, (.pointer (some ⟨b, 5, none⟩)))] trivial rfl fun _ => ?_
 refine aD (ax (q := 0) A rfl rfl rfl rfl rfl rfl rfl rfl rfl) rfl ?_
 rintro _ H4 _ ⟨E, _⟩
 have E : HS _ _ _ [[(b, .cells [I, c1, c2, J, O, (iI k), (iI c), (.slice none 0 0), (iI 0), (.bool true), z] none false)]] _ := E
 refine ai 0 rfl ?_
 exact am ⟨.inl rfl, _, rfl, E, rfl⟩
theorem istep_c (ex : FuncId) {F : Fz} {H : Heap} {R : List Fp} {b : Nat} {E c1 c2 I J O T U V : Value} (m : Int) (lg : Bool) (hs : HS (.of H [b]) F H [[(b, .cells [E, c1, c2, .int .i64 m, I, J, O, T, U, V, .bool lg] none false)]] R) (hm : m ≤ 1000000) : C Tryd.prog 1 (KT 60 ex 37 tabC) 79 [.pointer (some ⟨b, 0, none⟩)] H fun v H' => ∃ (bv : Bool) (m' : Int) (lg' : Bool), HS (.of H [b]) F H' [[(b, .cells [E, c1, c2, .int .i64 m', I, J, O, T, U, V, .bool lg'] none false)]] R ∧ v = .bool bv ∧ ((bv = true ∧ 0 < m ∧ m' = m - 1 ∧ lg' = lg) ∨ (bv = false ∧ m ≤ 0 ∧ m' = m ∧ lg' = true)) := by
 refine aJ Tryd.func79 rfl rfl ?_
 refine ao 1 rfl ?_
 refine wR 3 [] 2 2 [] [(2, (.bool false))] trivial rfl fun _ => ?_
 refine wR 1 [(3, .o (iI m))] 3 7 [] [(7, (.bool (decide (m ≤ 0))))] (vA (ql 3 3 (HS.hc hs (i := 0) rfl) rfl rfl) trivial) rfl fun _ => ?_
 refine aj 1 2 (v := (decide (m ≤ 0))) rfl rfl rfl rfl (fun Z => ?_) (fun Z => ?_)
 ·
  try simp only [BS] at Z
  refine ab ?_
  refine wRo 3 0 [] 8 10 [] [(10, (.pointer (some ⟨b, 10, none⟩)))] trivial rfl fun _ => ?_
  refine aD (ax (q := 0) hs rfl rfl rfl rfl rfl rfl rfl rfl rfl) rfl ?_
  rintro _ H5 _ ⟨z, _⟩
  have z : HS _ _ _ [[(b, .cells [E, c1, c2, (iI m), I, J, O, T, U, V, (.bool true)] none false)]] _ := z
  refine ai 2 rfl ?_
  refine wR 1 [] 2 2 [] [(2, (.bool false))] trivial rfl fun _ => ?_
  exact ah ⟨.inr rfl, _, rfl, _, _, _, z, rfl, .inr ⟨rfl, by omega, rfl, rfl⟩⟩
 ·
  try simp only [BS] at Z
  refine ab ?_
  refine wRo 7 0 [(3, .o (iI m))] 11 17 [] [(15, (iI (m - 1))), (17, (.pointer (some ⟨b, 3, none⟩)))] (vA (ql 3 3 (HS.hc hs (i := 0) rfl) rfl rfl) (vA (vi (n := m - 1) (by omega)) trivial)) rfl fun _ => ?_
  refine aD (ax (q := 0) hs rfl rfl rfl rfl rfl rfl rfl rfl rfl) rfl ?_
  rintro _ H8 _ ⟨A, _⟩
  have A : HS _ _ _ [[(b, .cells [E, c1, c2, (iI (m - 1)), I, J, O, T, U, V, (.bool lg)] none false)]] _ := A
  refine ai 2 rfl ?_
  refine wR 1 [] 2 2 [] [(2, (.bool true))] trivial rfl fun _ => ?_
  exact ah ⟨.inr rfl, _, rfl, _, _, _, A, rfl, .inl ⟨rfl, by omega, rfl, rfl⟩⟩
set_option maxHeartbeats 4000000 in
theorem do_c (ex : FuncId) {F : Fz} {H : Heap} {R : List Fp} {b : Nat} {la : Option Addr} {lk : Nat} {ca : Option Addr} {cn ck : Nat} {oa : Option Addr} {on ok : Nat} {q pg : Fp} {ra : Option Addr} {rn rk : Nat} {aa : Option Addr} {ak : Nat} {va : Option Addr} {vk : Nat} {P : List VFnT} {nc N n : Nat} {c : VFnT} (s : IntS) (r args : List Int) (v : VInT) (hs : HS (.of H (b :: (q ++ pg).map Prod.fst)) F H [[(b, .cells [.slice la P.length lk, .slice ca cn ck, .int .i64 s.fuel, .int .i64 s.most, .slice oa on ok, .int .i64 s.kind, .int .i64 s.code, .slice none 0 0, .int .i64 0, .bool s.over, .bool s.long] none false)], q, pg] R) (hq : IntQ F s ca cn ck oa on ok q) (hr : OS F (.slice ra rn rk) r pg) (hP : SR F (.slice la P.length lk) P) (ha : SR F (.slice aa args.length ak) args) (hva : SR F (.slice va v.args.length vk) v.args) (hvi : in64 v.i.op ∧ in64 v.i.a ∧ in64 v.i.b ∧ in64 v.i.c ∧ in64 v.i.n) (hp : PrF P nc) (hI : InF P nc c v) (hR : InR c v) (hrl : (r.length : Int) = c.regs) (hal : (args.length : Int) = c.params) (wf : IntOK nc s N) (hN : N ≤ 1000000) (ih : CallSpec ex P nc N n) (hmn : s.most.toNat < n) (hso : s.over = false) (hsl : s.long = false) (hcnt : s.out.length + 1 ≤ N) : C Tryd.prog 1 (KT 60 ex 37 tabC) 80 [.pointer (some ⟨b, 0, none⟩), .agg ⟨[.int .i64 v.i.op, .int .i64 v.i.a, .int .i64 v.i.b, .int .i64 v.i.c, .int .i64 v.i.n, .slice va v.args.length vk]⟩, .slice ra rn rk, .slice aa args.length ak] H fun v' H' => v' = .tuple #[] ∧ DoP (.of H (b :: (q ++ pg).map Prod.fst)) F R P la lk b ra rn rk (doC P s r args v) H' := by
 obtain rfl := OS.nlen hr
 obtain ⟨hd, pc, pr, po, hsO, T, Z, U⟩ := IntQ.open (L := [pg]) hq hs
 obtain rfl := OS.nlen T; obtain rfl := OS.nlen U
 obtain ⟨oN, oO, oP, oQ, oR⟩ := hvi
 have hgr : ∀ n : Int, in64 (r.getD n.toNat 0) := fun n => sv_in (OS.sv hr hsO (i := 4) rfl) n
 have hcl := wf.cells; have hfu := wf.fuel; have hmo := wf.most; have hct := wf.cnt; have oI := FAM.len Z; have hga := sv_in (SR.sv ha hsO)
 have hia := hI.a; have hib := hI.b; have hic := hI.cc; have hiA := hI.args; have hiM := hI.mem; have hiP := hI.par; have hiC := hI.call; have hiL := hI.al; have hra := hR.a; have hrb := hR.b; have hrc := hR.cc; have hrg := hR.arg
 clear hs hq
 refine aJ Tryd.func80 rfl rfl ?_
 refine ao 1 rfl ?_
 refine ab ?_
 refine aP (b8 hsO rfl rfl) rfl rfl ?_
 rintro _ H2 _ ⟨b1, rfl, ho, _⟩
 let iv : Fp := [(b, .cells [(.slice la P.length lk), (.slice ca hd.length ck), (iI s.fuel), (iI s.most), (.slice oa s.out.length ok), (iI s.kind), (iI s.code), (.slice none 0 0), (iI 0), (.bool s.over), (.bool s.long)] none false)]
 let J : Fp := [(b1, .cells [(iI v.i.op), (iI v.i.a), (iI v.i.b), (iI v.i.c), (iI v.i.n), (.slice va v.args.length vk)] none false)]
 have ho : HS _ _ _ [iv, pc, pr, po, pg, J] _ := ho
 refine ai 2 rfl ?_
 refine ab ?_
 let c8 : Value := (.agg ⟨[(iI v.i.op), (iI v.i.a), (iI v.i.b), (iI v.i.c), (iI v.i.n)]⟩)
 refine wRo 2 0 [(1, .o c8)] 11 12 [] [(12, c8)] (vA (qn 45 0 5 (HS.hc ho (i := 5) rfl) rfl rfl rfl rfl) trivial) rfl fun _ => ?_
 refine aP (bp ho rfl) rfl rfl ?_
 rintro _ H5 _ ⟨A, rfl, h1, _⟩
 have h1 : HS _ _ _ [_, _, _, _, _, _, [(A, .cells [(iI 0), (iI 0), (iI 0), (iI 0), (iI 0)] none false)]] _ := h1
 refine aD (ax (q := 6) h1 rfl rfl rfl rfl rfl rfl rfl rfl rfl) rfl ?_
 rintro _ H6 _ ⟨z, _⟩
 let O : Fp := [(A, .cells [(iI v.i.op), (iI v.i.a), (iI v.i.b), (iI v.i.c), (iI v.i.n)] none false)]
 have z : HS _ _ _ [_, _, _, _, _, _, O] _ := z
 refine ai 2 rfl ?_
 refine wR 3 [(1, .o (iI v.i.op))] 13 14 [] [(14, (iI v.i.op))] (vA (ql 3 0 (HS.hc z (i := 6) rfl) rfl rfl) trivial) rfl fun _ => ?_
 refine wR 1 [] 50 51 [] [(50, (.bool (v.i.op == 3)))] trivial rfl fun _ => ?_
 refine aj 1 1 (v := (v.i.op == 3)) rfl rfl rfl rfl (fun c9 => ?_) (fun c9 => ?_)
 ·
  try simp only [BS] at c9
  refine wR 1 [(3, .o (iI s.fuel))] 52 56 [] [(56, (.bool (s.fuel == 0)))] (vA (ql 3 2 (HS.hc z (i := 0) rfl) rfl rfl) trivial) rfl fun _ => ?_
  refine aj 0 0 (v := (s.fuel == 0)) rfl rfl rfl rfl (fun hu => ?_) (fun hu => ?_)
  ·
   try simp only [BS] at hu
   refine ab ?_
   refine wm (.pointer (some ⟨b, 0, none⟩)) rfl rfl rfl ?_
   refine aC (aw rfl rfl rfl) rfl rfl (jr ex (3) (0) (HS.callOwn z (i := 0) rfl)) ?_
   rintro _ oz ⟨c7, rfl⟩
   replace c7 := HS.backOwn z (i := 0) rfl rfl (fun _ hb => hb) c7
   have c7 : HS _ _ _ [[(b, .cells [(.slice la P.length lk), (.slice ca hd.length ck), (iI s.fuel), (iI s.most), (.slice oa s.out.length ok), (iI 3), (iI 0), (.slice none 0 0), (iI 0), (.bool true), (.bool s.long)] none false)], pc, pr, po, pg, J, O] _ := c7
   refine ai 1 rfl ?_
   exact am ⟨.inl rfl, _, rfl, rfl, DoP.mk (L := [J, O]) (by unfold doC; (repeat (first | rw [if_pos (by omega)] | rw [if_neg (by omega)] | (unfold doV; dsimp only [rg, ist]) | (unfold iy; dsimp only [rg, ist]))); first | done | rfl | (unfold ru; first | rw [if_pos (by omega)] | rw [if_neg (by omega)]) | rw [← bI (hgr _) (hgr _) (by omega)]) c7 fR T Z U hr⟩
  ·
   try simp only [BS] at hu
   refine ab ?_
   refine wRo 7 0 [(3, .o (iI s.fuel))] 59 65 [] [(63, (iI (s.fuel - 1))), (65, (.pointer (some ⟨b, 2, none⟩)))] (vA (ql 3 2 (HS.hc z (i := 0) rfl) rfl rfl) (vA (vi (n := s.fuel - 1) (by omega)) trivial)) rfl fun _ => ?_
   refine aD (ax (q := 0) z rfl rfl rfl rfl rfl rfl rfl rfl rfl) rfl ?_
   rintro _ oA _ ⟨g4, _⟩
   have g4 : HS _ _ _ [[(b, .cells [(.slice la P.length lk), (.slice ca hd.length ck), (iI (s.fuel - 1)), (iI s.most), (.slice oa s.out.length ok), (iI s.kind), (iI s.code), (.slice none 0 0), (iI 0), (.bool s.over), (.bool s.long)] none false)], _, _, _, _, _, _] _ := g4
   refine ai 1 rfl ?_
   exact am ⟨.inl rfl, _, rfl, rfl, DoP.mk (L := [J, O]) (by unfold doC; (repeat (first | rw [if_pos (by omega)] | rw [if_neg (by omega)] | (unfold doV; dsimp only [rg, ist]) | (unfold iy; dsimp only [rg, ist]))); first | done | rfl | (unfold ru; first | rw [if_pos (by omega)] | rw [if_neg (by omega)]) | rw [← bI (hgr _) (hgr _) (by omega)]) g4 fR T Z U hr⟩
 ·
  try simp only [BS] at c9
  refine wR 1 [] 66 67 [] [(66, (.bool (v.i.op == 6)))] trivial rfl fun _ => ?_
  refine aj 1 1 (v := (v.i.op == 6)) rfl rfl rfl rfl (fun hv => ?_) (fun hv => ?_)
  ·
   try simp only [BS] at hv
   refine wR 3 [] 1 0 [9] [(9, (.slice none 0 0))] trivial rfl fun _ => ?_
   refine wR 2 [] 1 0 [10] [(10, (iI 0))] trivial rfl fun _ => ?_
   have g5 := HS.snoc z
   have g5 : HS _ _ _ [_, _, _, _, _, _, _, []] _ := g5
   refine aE (fun (mm : Nat) f H' => ∃ (ag : List Int) (j : Nat) (a3 : Option Addr) (a4 : Nat) (b6 : Fp) (F' : Fz), Fz.le F F' ∧ HS (Base.of H (b :: (q ++ pg).map Prod.fst)) F' H' [iv, pc, pr, po, pg, J, O, b6] R ∧ OS F' (.slice a3 ag.length a4) ag b6 ∧ aS f [(0, (.pointer (some ⟨b, 0, none⟩))), (2, (.slice ra r.length rk)), (5, (.pointer (some ⟨b1, 0, none⟩))), (8, (.pointer (some ⟨A, 0, none⟩))), (9, (.slice a3 ag.length a4)), (10, (iI (j : Int)))] ∧ mm = v.args.length - j ∧ (ag = (v.args.take j).map (rg r)) ∧ (j ≤ v.args.length)) _ ⟨([] : List Int), 0, none, 0, [], _, fR, g5, (OS.nil : OS F (.slice none 0 0) ([] : List Int) []), (agC rfl (agC rfl (agC rfl (agC rfl (agC rfl (agC rfl agN)))))), rfl, (by rfl), (by omega)⟩ ?_
   rintro ov oH oB ⟨ag, j, a3, a4, b6, ox, a1, ad, e3, hK, rfl, e, hj⟩ md
   refine aF _ hK (fun _ => ?_)
   clear hK
   replace hP := hP.mono a1
   replace hr := hr.mono a1
   replace hva := hva.mono a1
   replace T := T.mono a1
   replace U := U.mono a1
   replace Z := SF.mono a1 Z
   have hag : ag.length ≤ 6 := by rw [e, List.length_map, List.length_take]; omega
   have hgj := hrg j
   refine ao 2 rfl ?_
   refine wR 1 [(2, .o (.slice va v.args.length vk))] 68 72 [] [(72, (.bool (decide ((j : Int) < (v.args.length : Int)))))] (vA (ql 25 5 (HS.hc ad (i := 5) rfl) rfl rfl) trivial) rfl fun _ => ?_
   refine aj 3 4 (v := (decide ((j : Int) < (v.args.length : Int)))) rfl rfl rfl rfl (fun hw => ?_) (fun hw => ?_)
   ·
    try simp only [BS] at hw
    refine ab ?_
    obtain ⟨ob, h2⟩ := Sv.view (SR.sv hva ad)
    have oJ := fI (h2 j)
    obtain ⟨oc, h3⟩ := Sv.view (OS.sv hr ad (i := 4) rfl)
    have oK := fI (h3 (v.args.getD j 0).toNat)
    refine wRo 9 0 [(3, .o (.slice va v.args.length vk)), (6, .o (iI (v.args.getD j 0))), (8, .o (iI (r.getD (v.args.getD j 0).toNat 0)))] 75 83 [] [(75, (.slice a3 ag.length a4)), (83, (iI (r.getD (v.args.getD j 0).toNat 0)))] (vA (ql 25 5 (HS.hc ad (i := 5) rfl) rfl rfl) (vA (Sv.ix (j := (j : Int)) (SR.sv hva ad) (by omega) (by omega)) (vA (ql 3 0 (vI (h2 j) (by omega)) rfl rfl) (vA (Sv.ix (j := (v.args.getD j 0)) (OS.sv hr ad (i := 4) rfl) (by omega) (by omega)) (vA (ql 2 0 (vI (h3 (v.args.getD j 0).toNat) (by omega)) rfl rfl) trivial))))) rfl fun _ => ?_
    refine aP (bZ (α := Int) (ps := [(0, (iI (r.getD (v.args.getD j 0).toNat 0)))]) (cells := [(iI (r.getD (v.args.getD j 0).toNat 0))]) ([(r.getD (v.args.getD j 0).toNat 0)] : List Int) ad rfl rfl rfl (by kernel_rfl) ⟨[(iI (r.getD (v.args.getD j 0).toNat 0))], [], rfl, ⟨rfl, by omega⟩, rfl⟩ rfl) rfl rfl ?_
    rintro _ oC mW ⟨oF, oS, rfl, l2, em, _⟩
    have em : HS _ _ _ [_, _, _, _, _, _, _, b6, mW] _ := em
    refine aP (cT (α := Int) (q := 7) e3 em rfl rfl rfl (OS.sv l2 em (i := 8) rfl) rfl rfl rfl rfl rfl rfl rfl (by first | omega | (simp only [List.length_cons, List.length_nil]; omega))) rfl rfl ?_
    rintro _ oD lD ⟨lz, lB, rfl, l3, g6, _⟩
    have g6 : HS _ _ _ [_, _, _, _, _, _, _, lD, _] _ := g6
    refine wa (.slice lz (ag ++ ([(r.getD (v.args.getD j 0).toNat 0)] : List Int)).length lB) rfl rfl rfl ?_
    refine ai 2 rfl ?_
    refine wR 1 [] 73 74 [10] [(10, (iI ((j : Int) + 1)))] (vA (vi (n := (j : Int) + 1) (by omega)) trivial) rfl fun _ => ?_
    refine md _ _ _ ?_ ⟨ag ++ ([(r.getD (v.args.getD j 0).toNat 0)] : List Int), j + 1, lz, lB, lD, _, (a1), (HS.sub g6 (List.sublist_append_left _ _)), l3, (agC rfl (agC rfl (agC rfl (agC rfl (agC rfl (agC rfl agN)))))), rfl, (by exact kE e (by omega)), (by omega)⟩
    omega
   ·
    try simp only [BS] at hw
    refine aG rfl ?_
    refine fm (.slice ra r.length rk) rfl rfl rfl ?_
    refine wfv (v := (.pointer (some ⟨A, 1, none⟩))) (aR rfl rfl) ?_
    refine au (v := (iI v.i.a)) (id := .l A) (aA (i := 1) rfl rfl (HS.hc ad.log0 (i := 6) rfl) rfl rfl) rfl rfl (aL rfl) (kb rfl) ?_
    refine fm (.pointer (some ⟨b, 0, none⟩)) rfl rfl rfl ?_
    refine wfv (v := (.pointer (some ⟨A, 4, none⟩))) (aR rfl rfl) ?_
    refine au (v := (iI v.i.n)) (id := .l A) (aA (i := 4) rfl rfl (HS.hc ad.log0 (i := 6) rfl) rfl rfl) rfl rfl (aL rfl) (kb rfl) ?_
    refine fm (.slice a3 ag.length a4) rfl rfl rfl ?_
    obtain ⟨mx, b7, g7, l6, ou⟩ := OS.frz e3 ad (i := 7) rfl
    have g7 : HS _ _ _ [_, _, _, _, _, _, _, _] _ := g7
    replace hP := hP.mono b7
    replace T := T.mono b7
    replace U := U.mono b7
    replace Z := SF.mono b7 Z
    have hmap := map_all e (by omega)
    obtain ⟨ik, av, d1⟩ := IntQ.close (s := s) (L := [pg, J, O, []]) g7 T Z U
    have av : HS _ _ _ [iv, ik, pg, J, O, []] _ := av
    replace d1 : IntQ mx s _ _ _ _ _ _ _ := d1
    skip
    refine bg (W := (b :: ik.map Prod.fst)) (aw rfl rfl rfl) rfl rfl rfl (by rw [hmap]; exact (ih s v.i.n (v.args.map (rg r)) (HS.call2 av.log0 (i := 0) (j := 1) (by decide) rfl rfl) d1 hP (by rw [← hmap]; exact l6) ⟨(hiC (by omega)).1, (hiC (by omega)).2.1, by rw [List.length_map]; exact (hiC (by omega)).2.2⟩ wf hmn hso hsl)) (⟨.inl rfl, ⟨.inl rfl, ⟨.inl rfl, ⟨.inl rfl, ⟨.inr (nin2 (HS.nin av (i := 4) (j := 0) rfl rfl (by decide) (List.Mem.head _)) (HS.nin av (i := 4) (j := 1) rfl rfl (by decide) (List.Mem.head _))), ⟨.inr trivial, ⟨.inr trivial, trivial⟩⟩⟩⟩⟩⟩⟩) ?_
    rintro _ my ⟨rfl, nN, oy, lT, lV, lU, ms, mv, mu, mw, hH, V, l5⟩
    refine ⟨HS.didW V, fun me kn => ?_⟩
    replace V := HS.back2 av.log0 (i := 0) (j := 1) (by decide) rfl rfl rfl (fun _ hb => hb) V
    replace V := HS.lg V av kn
    generalize ({ my with log := me } : Heap) = nX at V ⊢
    have V : HS _ _ _ [[(b, .cells [(.slice la P.length lk), (.slice lT lV lU), (iI ((bY P s v.i.n (v.args.map (rg r))).1.fuel)), (iI ((bY P s v.i.n (v.args.map (rg r))).1.most)), (.slice ms mv mu), (iI ((bY P s v.i.n (v.args.map (rg r))).1.kind)), (iI ((bY P s v.i.n (v.args.map (rg r))).1.code)), (.slice none 0 0), (iI 0), (.bool ((bY P s v.i.n (v.args.map (rg r))).1.over)), (.bool ((bY P s v.i.n (v.args.map (rg r))).1.long))] none false)], mw, pg, J, O, []] _ := V
    replace hr := (hr.mono b7).mono hH
    refine wfv (v := (.pointer (some ⟨sB (.slice ra r.length rk), sO (.slice ra r.length rk) + v.i.a.toNat * Rp.sz Int, none⟩))) (bd (α := Int) (j := v.i.a) rfl rfl rfl rfl (OS.sv hr V.log0 (i := 2) rfl) (by omega) (by omega)) ?_
    refine ed (id := .x (pg.map Prod.fst)) (de (α := Int) (j := v.i.a.toNat) (off := 0) (q := 2) ((bY P s v.i.n (v.args.map (rg r))).2) hr V.log0 rfl rfl rfl rfl rfl rfl rfl rfl (aI (x := (0 : Int)) (by omega)) rfl (by rintro cs ⟨rfl, _⟩; exact ⟨Nat.le_of_ble_eq_true rfl, rfl, by omega⟩)) rfl (by rintro _ _ lE ⟨f1, _, hwr⟩; exact cE rfl rfl (Wr.did hwr)) (kb rfl) ?_
    rintro _ mz lE ⟨f1, b9, _⟩ mf kp
    replace b9 := HS.lg b9 V kp
    generalize ({ mz with log := mf } : Heap) = nY at b9 ⊢
    have b9 : HS _ _ _ [_, _, lE, _, _, _] _ := b9
    have nG := OS.len' f1
    refine bw ?_
    refine ao 1 rfl ?_
    have hfin : doC P s r args v = ((bY P s v.i.n (v.args.map (rg r))).1, r.set v.i.a.toNat ((bY P s v.i.n (v.args.map (rg r))).2)) := by unfold doC; rw [if_pos (by omega)]
    exact am ⟨.inl rfl, _, rfl, rfl, (by rw [hfin]; exact ⟨_, _, _, _, _, _, _, _, _, (fT (fT (a1) b7) hH), HS.sub b9 (List.sublist_append_left [_, _, _] _), l5, f1⟩)⟩
  ·
   try simp only [BS] at hv
   refine wR 1 [] 95 96 [] [(95, (.bool (v.i.op == 9)))] trivial rfl fun _ => ?_
   refine aj 0 1 (v := (v.i.op == 9)) rfl rfl rfl rfl (fun hx => ?_) (fun hx => ?_)
   ·
    try simp only [BS] at hx
    refine aG rfl ?_
    refine fm (.pointer (some ⟨b, 0, none⟩)) rfl rfl rfl ?_
    refine fm (.pointer (some ⟨b, 0, none⟩)) rfl rfl rfl ?_
    refine wfv (v := (.pointer (some ⟨b, 0, none⟩))) (bB rfl) ?_
    refine wfv (v := (.pointer (some ⟨b, 4, none⟩))) (aR rfl rfl) ?_
    refine au (v := (.slice oa s.out.length ok)) (id := .l b) (aA (i := 4) rfl rfl (HS.hc z.log0 (i := 0) rfl) rfl rfl) rfl rfl (aL rfl) (kb rfl) ?_
    refine fm (.slice ra r.length rk) rfl rfl rfl ?_
    refine wfv (v := (.pointer (some ⟨A, 1, none⟩))) (aR rfl rfl) ?_
    refine au (v := (iI v.i.a)) (id := .l A) (aA (i := 1) rfl rfl (HS.hc z.log0 (i := 6) rfl) rfl rfl) rfl rfl (aL rfl) (kb rfl) ?_
    refine wfv (v := (.pointer (some ⟨sB (.slice ra r.length rk), sO (.slice ra r.length rk) + v.i.a.toNat * Rp.sz Int, none⟩))) (bd (α := Int) (j := v.i.a) rfl rfl rfl rfl (OS.sv hr z.log0 (i := 4) rfl) (by omega) (by omega)) ?_
    obtain ⟨og, l7, lW⟩ := Sv.at (OS.sv hr z.log0 (i := 4) rfl) (aI (x := (0 : Int)) (show v.i.a.toNat < r.length from by first | omega | exact hgr _ | exact hga _ | exact aZ wf.rows _ | exact bH | exact aK _ | (split <;> exact aK _) | (rw [bI (hgr _) (hgr _) (by omega)]; exact bf (hgr _)) | (dsimp only; omega)))
    obtain ⟨rfl, nA⟩ := l7
    refine au (v := (iI (r.getD v.i.a.toNat 0))) (id := .l (sB (.slice ra r.length rk))) (aA (i := 0) rfl rfl lW rfl rfl) rfl rfl (aL rfl) (kb rfl) ?_
    refine dJ (id := .a) (bZ (α := Int) (ps := [(0, (iI (r.getD v.i.a.toNat 0)))]) (cells := [(iI (r.getD v.i.a.toNat 0))]) ([(r.getD v.i.a.toNat 0)] : List Int) z.log0 rfl rfl rfl (by kernel_rfl) ⟨[(iI (r.getD v.i.a.toNat 0))], [], rfl, ⟨rfl, by omega⟩, rfl⟩ rfl) rfl rfl (fun _ _ _ _ => gN rfl rfl rfl) (kb rfl) ?_
    rintro _ mA lF ⟨oG, oT, rfl, l4, a2, _⟩ mg kr
    replace a2 := HS.lg a2 z kr
    generalize ({ mA with log := mg } : Heap) = nZ at a2 ⊢
    have a2 : HS _ _ _ [_, _, _, _, _, _, _, lF] _ := a2
    refine dJ (id := .x (po.map Prod.fst)) (cT (α := Int) (q := 3) U a2.log0 rfl rfl rfl (OS.sv l4 a2.log0 (i := 7) rfl) rfl rfl rfl rfl rfl rfl rfl (by first | omega | (simp only [List.length_cons, List.length_nil]; omega))) rfl rfl (by rintro _ _ lG ⟨lA, lC, rfl, hX, _, hwr⟩; exact cE rfl rfl (Wr.did hwr)) (kb rfl) ?_
    rintro _ mB lG ⟨lA, lC, rfl, hX, b0, _⟩ mh kt
    replace b0 := HS.lg b0 a2 kt
    generalize ({ mB with log := mh } : Heap) = n1 at b0 ⊢
    have b0 : HS _ _ _ [_, _, _, lG, _, _, _, _] _ := b0
    refine wfv (v := (.pointer (some ⟨b, 0, none⟩))) (bB rfl) ?_
    refine wfv (v := (.pointer (some ⟨b, 4, none⟩))) (aR rfl rfl) ?_
    refine ed (id := .x [b]) (ax (q := 0) b0.log0 rfl rfl rfl rfl rfl rfl rfl rfl rfl) rfl (by rintro _ _ _ ⟨_, hwr⟩; exact cE rfl rfl (Wr.did hwr)) (kb rfl) ?_
    rintro _ mC _ ⟨cd, _⟩ mi kv
    replace cd := HS.lg cd b0 kv
    generalize ({ mC with log := mi } : Heap) = n2 at cd ⊢
    have cd : HS _ _ _ [[(b, .cells [(.slice la P.length lk), (.slice ca hd.length ck), (iI s.fuel), (iI s.most), (.slice lA (s.out ++ ([(r.getD v.i.a.toNat 0)] : List Int)).length lC), (iI s.kind), (iI s.code), (.slice none 0 0), (iI 0), (.bool s.over), (.bool s.long)] none false)], _, _, _, _, _, _, _] _ := cd
    refine bw ?_
    refine ao 1 rfl ?_
    exact am ⟨.inl rfl, _, rfl, rfl, DoP.mk (L := [J, O, lF]) (by unfold doC; (repeat (first | rw [if_pos (by omega)] | rw [if_neg (by omega)] | (unfold doV; dsimp only [rg, ist]) | (unfold iy; dsimp only [rg, ist]))); first | done | rfl | (unfold ru; first | rw [if_pos (by omega)] | rw [if_neg (by omega)]) | rw [← bI (hgr _) (hgr _) (by omega)]) cd fR T Z hX hr⟩
   ·
    try simp only [BS] at hx
    refine wR 1 [] 111 112 [] [(111, (.bool (v.i.op == 10)))] trivial rfl fun _ => ?_
    refine aj 0 1 (v := (v.i.op == 10)) rfl rfl rfl rfl (fun hy => ?_) (fun hy => ?_)
    ·
     try simp only [BS] at hy
     refine aG rfl ?_
     refine fm (.slice ra r.length rk) rfl rfl rfl ?_
     refine wfv (v := (.pointer (some ⟨A, 1, none⟩))) (aR rfl rfl) ?_
     refine au (v := (iI v.i.a)) (id := .l A) (aA (i := 1) rfl rfl (HS.hc z.log0 (i := 6) rfl) rfl rfl) rfl rfl (aL rfl) (kb rfl) ?_
     refine fm (.slice ra r.length rk) rfl rfl rfl ?_
     refine wfv (v := (.pointer (some ⟨A, 2, none⟩))) (aR rfl rfl) ?_
     refine au (v := (iI v.i.b)) (id := .l A) (aA (i := 2) rfl rfl (HS.hc z.log0 (i := 6) rfl) rfl rfl) rfl rfl (aL rfl) (kb rfl) ?_
     refine wfv (v := (.pointer (some ⟨sB (.slice ra r.length rk), sO (.slice ra r.length rk) + v.i.b.toNat * Rp.sz Int, none⟩))) (bd (α := Int) (j := v.i.b) rfl rfl rfl rfl (OS.sv hr z.log0 (i := 4) rfl) (by omega) (by omega)) ?_
     obtain ⟨oh, l8, lX⟩ := Sv.at (OS.sv hr z.log0 (i := 4) rfl) (aI (x := (0 : Int)) (show v.i.b.toNat < r.length from by first | omega | exact hgr _ | exact hga _ | exact aZ wf.rows _ | exact bH | exact aK _ | (split <;> exact aK _) | (rw [bI (hgr _) (hgr _) (by omega)]; exact bf (hgr _)) | (dsimp only; omega)))
     obtain ⟨rfl, nB⟩ := l8
     refine au (v := (iI (r.getD v.i.b.toNat 0))) (id := .l (sB (.slice ra r.length rk))) (aA (i := 0) rfl rfl lX rfl rfl) rfl rfl (aL rfl) (kb rfl) ?_
     refine wfv (v := (.pointer (some ⟨sB (.slice ra r.length rk), sO (.slice ra r.length rk) + v.i.a.toNat * Rp.sz Int, none⟩))) (bd (α := Int) (j := v.i.a) rfl rfl rfl rfl (OS.sv hr z.log0 (i := 4) rfl) (by omega) (by omega)) ?_
     refine ed (id := .x (pg.map Prod.fst)) (de (α := Int) (j := v.i.a.toNat) (off := 0) (q := 4) (r.getD v.i.b.toNat 0) hr z.log0 rfl rfl rfl rfl rfl rfl rfl rfl (aI (x := (0 : Int)) (by omega)) rfl (by rintro cs ⟨rfl, _⟩; exact ⟨Nat.le_of_ble_eq_true rfl, rfl, by omega⟩)) rfl (by rintro _ _ lH ⟨f2, _, hwr⟩; exact cE rfl rfl (Wr.did hwr)) (kb rfl) ?_
     rintro _ mD lH ⟨f2, ch, _⟩ mj k0
     replace ch := HS.lg ch z k0
     generalize ({ mD with log := mj } : Heap) = n3 at ch ⊢
     have ch : HS _ _ _ [_, _, _, _, lH, _, _] _ := ch
     have nH := OS.len' f2
     refine bw ?_
     refine ao 1 rfl ?_
     exact am ⟨.inl rfl, _, rfl, rfl, DoP.mk (L := [J, O]) (by unfold doC; (repeat (first | rw [if_pos (by omega)] | rw [if_neg (by omega)] | (unfold doV; dsimp only [rg, ist]) | (unfold iy; dsimp only [rg, ist]))); first | done | rfl | (unfold ru; first | rw [if_pos (by omega)] | rw [if_neg (by omega)]) | rw [← bI (hgr _) (hgr _) (by omega)]) ch fR T Z U f2⟩
    ·
     try simp only [BS] at hy
     refine wR 1 [] 122 123 [] [(122, (.bool (v.i.op == 11)))] trivial rfl fun _ => ?_
     refine aj 1 1 (v := (v.i.op == 11)) rfl rfl rfl rfl (fun hz => ?_) (fun hz => ?_)
     ·
      try simp only [BS] at hz
      obtain ⟨od, h4⟩ := Sv.view (OS.sv hr z (i := 4) rfl)
      have oL := fI (h4 v.i.c.toNat)
      refine wR 1 [(2, .o (iI v.i.c)), (4, .o (iI (r.getD v.i.c.toNat 0)))] 124 129 [] [(129, (.bool ((r.getD v.i.c.toNat 0) == 0)))] (vA (ql 3 3 (HS.hc z (i := 6) rfl) rfl rfl) (vA (Sv.ix (j := v.i.c) (OS.sv hr z (i := 4) rfl) (by omega) (by omega)) (vA (ql 2 0 (vI (h4 v.i.c.toNat) (by omega)) rfl rfl) trivial))) rfl fun _ => ?_
      refine aj 0 1 (v := ((r.getD v.i.c.toNat 0) == 0)) rfl rfl rfl rfl (fun hA => ?_) (fun hA => ?_)
      ·
       try simp only [BS] at hA
       refine aG rfl ?_
       refine fm (.slice ra r.length rk) rfl rfl rfl ?_
       refine wfv (v := (.pointer (some ⟨A, 1, none⟩))) (aR rfl rfl) ?_
       refine au (v := (iI v.i.a)) (id := .l A) (aA (i := 1) rfl rfl (HS.hc z.log0 (i := 6) rfl) rfl rfl) rfl rfl (aL rfl) (kb rfl) ?_
       refine fm (.slice ra r.length rk) rfl rfl rfl ?_
       refine wfv (v := (.pointer (some ⟨A, 2, none⟩))) (aR rfl rfl) ?_
       refine au (v := (iI v.i.b)) (id := .l A) (aA (i := 2) rfl rfl (HS.hc z.log0 (i := 6) rfl) rfl rfl) rfl rfl (aL rfl) (kb rfl) ?_
       refine wfv (v := (.pointer (some ⟨sB (.slice ra r.length rk), sO (.slice ra r.length rk) + v.i.b.toNat * Rp.sz Int, none⟩))) (bd (α := Int) (j := v.i.b) rfl rfl rfl rfl (OS.sv hr z.log0 (i := 4) rfl) (by omega) (by omega)) ?_
       obtain ⟨oi, l9, lY⟩ := Sv.at (OS.sv hr z.log0 (i := 4) rfl) (aI (x := (0 : Int)) (show v.i.b.toNat < r.length from by first | omega | exact hgr _ | exact hga _ | exact aZ wf.rows _ | exact bH | exact aK _ | (split <;> exact aK _) | (rw [bI (hgr _) (hgr _) (by omega)]; exact bf (hgr _)) | (dsimp only; omega)))
       obtain ⟨rfl, nC⟩ := l9
       refine au (v := (iI (r.getD v.i.b.toNat 0))) (id := .l (sB (.slice ra r.length rk))) (aA (i := 0) rfl rfl lY rfl rfl) rfl rfl (aL rfl) (kb rfl) ?_
       refine wfv (v := (.pointer (some ⟨sB (.slice ra r.length rk), sO (.slice ra r.length rk) + v.i.a.toNat * Rp.sz Int, none⟩))) (bd (α := Int) (j := v.i.a) rfl rfl rfl rfl (OS.sv hr z.log0 (i := 4) rfl) (by omega) (by omega)) ?_
       refine ed (id := .x (pg.map Prod.fst)) (de (α := Int) (j := v.i.a.toNat) (off := 0) (q := 4) (r.getD v.i.b.toNat 0) hr z.log0 rfl rfl rfl rfl rfl rfl rfl rfl (aI (x := (0 : Int)) (by omega)) rfl (by rintro cs ⟨rfl, _⟩; exact ⟨Nat.le_of_ble_eq_true rfl, rfl, by omega⟩)) rfl (by rintro _ _ lI ⟨f6, _, hwr⟩; exact cE rfl rfl (Wr.did hwr)) (kb rfl) ?_
       rintro _ mE lI ⟨f6, ci, _⟩ ml k3
       replace ci := HS.lg ci z k3
       generalize ({ mE with log := ml } : Heap) = n4 at ci ⊢
       have ci : HS _ _ _ [_, _, _, _, lI, _, _] _ := ci
       have nI := OS.len' f6
       refine bw ?_
       refine ao 1 rfl ?_
       exact am ⟨.inl rfl, _, rfl, rfl, DoP.mk (L := [J, O]) (by unfold doC; (repeat (first | rw [if_pos (by omega)] | rw [if_neg (by omega)] | (unfold doV; dsimp only [rg, ist]) | (unfold iy; dsimp only [rg, ist]))); first | done | rfl | (unfold ru; first | rw [if_pos (by omega)] | rw [if_neg (by omega)]) | rw [← bI (hgr _) (hgr _) (by omega)]) ci fR T Z U f6⟩
      ·
       try simp only [BS] at hA
       exact am ⟨.inl rfl, _, rfl, rfl, DoP.mk (L := [J, O]) (by unfold doC; (repeat (first | rw [if_pos (by omega)] | rw [if_neg (by omega)] | (unfold doV; dsimp only [rg, ist]) | (unfold iy; dsimp only [rg, ist]))); first | done | rfl | (unfold ru; first | rw [if_pos (by omega)] | rw [if_neg (by omega)]) | rw [← bI (hgr _) (hgr _) (by omega)]) z fR T Z U hr⟩
     ·
      try simp only [BS] at hz
      refine wR 1 [] 139 140 [] [(139, (.bool (v.i.op == 12)))] trivial rfl fun _ => ?_
      refine aj 1 1 (v := (v.i.op == 12)) rfl rfl rfl rfl (fun hB => ?_) (fun hB => ?_)
      ·
       try simp only [BS] at hB
       obtain ⟨oe, h5⟩ := Sv.view (OS.sv hr z (i := 4) rfl)
       have oM := fI (h5 v.i.c.toNat)
       refine wR 1 [(2, .o (iI v.i.c)), (4, .o (iI (r.getD v.i.c.toNat 0)))] 141 146 [] [(146, (.bool ((r.getD v.i.c.toNat 0) != 0)))] (vA (ql 3 3 (HS.hc z (i := 6) rfl) rfl rfl) (vA (Sv.ix (j := v.i.c) (OS.sv hr z (i := 4) rfl) (by omega) (by omega)) (vA (ql 2 0 (vI (h5 v.i.c.toNat) (by omega)) rfl rfl) trivial))) rfl fun _ => ?_
       refine aj 0 1 (v := ((r.getD v.i.c.toNat 0) != 0)) rfl rfl rfl rfl (fun hC => ?_) (fun hC => ?_)
       ·
        try simp only [BS] at hC
        refine aG rfl ?_
        refine fm (.slice ra r.length rk) rfl rfl rfl ?_
        refine wfv (v := (.pointer (some ⟨A, 1, none⟩))) (aR rfl rfl) ?_
        refine au (v := (iI v.i.a)) (id := .l A) (aA (i := 1) rfl rfl (HS.hc z.log0 (i := 6) rfl) rfl rfl) rfl rfl (aL rfl) (kb rfl) ?_
        refine fm (.slice ra r.length rk) rfl rfl rfl ?_
        refine wfv (v := (.pointer (some ⟨A, 2, none⟩))) (aR rfl rfl) ?_
        refine au (v := (iI v.i.b)) (id := .l A) (aA (i := 2) rfl rfl (HS.hc z.log0 (i := 6) rfl) rfl rfl) rfl rfl (aL rfl) (kb rfl) ?_
        refine wfv (v := (.pointer (some ⟨sB (.slice ra r.length rk), sO (.slice ra r.length rk) + v.i.b.toNat * Rp.sz Int, none⟩))) (bd (α := Int) (j := v.i.b) rfl rfl rfl rfl (OS.sv hr z.log0 (i := 4) rfl) (by omega) (by omega)) ?_
        obtain ⟨oj, ma, lZ⟩ := Sv.at (OS.sv hr z.log0 (i := 4) rfl) (aI (x := (0 : Int)) (show v.i.b.toNat < r.length from by first | omega | exact hgr _ | exact hga _ | exact aZ wf.rows _ | exact bH | exact aK _ | (split <;> exact aK _) | (rw [bI (hgr _) (hgr _) (by omega)]; exact bf (hgr _)) | (dsimp only; omega)))
        obtain ⟨rfl, nD⟩ := ma
        refine au (v := (iI (r.getD v.i.b.toNat 0))) (id := .l (sB (.slice ra r.length rk))) (aA (i := 0) rfl rfl lZ rfl rfl) rfl rfl (aL rfl) (kb rfl) ?_
        refine wfv (v := (.pointer (some ⟨sB (.slice ra r.length rk), sO (.slice ra r.length rk) + v.i.a.toNat * Rp.sz Int, none⟩))) (bd (α := Int) (j := v.i.a) rfl rfl rfl rfl (OS.sv hr z.log0 (i := 4) rfl) (by omega) (by omega)) ?_
        refine ed (id := .x (pg.map Prod.fst)) (de (α := Int) (j := v.i.a.toNat) (off := 0) (q := 4) (r.getD v.i.b.toNat 0) hr z.log0 rfl rfl rfl rfl rfl rfl rfl rfl (aI (x := (0 : Int)) (by omega)) rfl (by rintro cs ⟨rfl, _⟩; exact ⟨Nat.le_of_ble_eq_true rfl, rfl, by omega⟩)) rfl (by rintro _ _ lJ ⟨f7, _, hwr⟩; exact cE rfl rfl (Wr.did hwr)) (kb rfl) ?_
        rintro _ mF lJ ⟨f7, co, _⟩ mn k4
        replace co := HS.lg co z k4
        generalize ({ mF with log := mn } : Heap) = n5 at co ⊢
        have co : HS _ _ _ [_, _, _, _, lJ, _, _] _ := co
        have nJ := OS.len' f7
        refine bw ?_
        refine ao 1 rfl ?_
        exact am ⟨.inl rfl, _, rfl, rfl, DoP.mk (L := [J, O]) (by unfold doC; (repeat (first | rw [if_pos (by omega)] | rw [if_neg (by omega)] | (unfold doV; dsimp only [rg, ist]) | (unfold iy; dsimp only [rg, ist]))); first | done | rfl | (unfold ru; first | rw [if_pos (by omega)] | rw [if_neg (by omega)]) | rw [← bI (hgr _) (hgr _) (by omega)]) co fR T Z U f7⟩
       ·
        try simp only [BS] at hC
        exact am ⟨.inl rfl, _, rfl, rfl, DoP.mk (L := [J, O]) (by unfold doC; (repeat (first | rw [if_pos (by omega)] | rw [if_neg (by omega)] | (unfold doV; dsimp only [rg, ist]) | (unfold iy; dsimp only [rg, ist]))); first | done | rfl | (unfold ru; first | rw [if_pos (by omega)] | rw [if_neg (by omega)]) | rw [← bI (hgr _) (hgr _) (by omega)]) z fR T Z U hr⟩
      ·
       try simp only [BS] at hB
       refine wR 1 [] 156 157 [] [(156, (.bool (v.i.op == 13)))] trivial rfl fun _ => ?_
       refine aj 0 2 (v := (v.i.op == 13)) rfl rfl rfl rfl (fun hD => ?_) (fun hD => ?_)
       ·
        try simp only [BS] at hD
        refine ab ?_
        refine wRo 6 0 [(2, .o (iI v.i.a)), (4, .o (iI v.i.n))] 158 163 [] [(162, (iI v.i.n)), (163, (.pointer (some ⟨sB (.slice ra r.length rk), sO (.slice ra r.length rk) + v.i.a.toNat * Rp.sz Int, none⟩)))] (vA (ql 3 1 (HS.hc z (i := 6) rfl) rfl rfl) (vA (ql 2 4 (HS.hc z (i := 6) rfl) rfl rfl) (vA (Sv.ix (j := v.i.a) (OS.sv hr z (i := 4) rfl) (by omega) (by omega)) trivial))) rfl fun _ => ?_
        refine aD (de (α := Int) (j := v.i.a.toNat) (off := 0) (q := 4) v.i.n hr z rfl rfl rfl rfl rfl rfl rfl rfl (aI (x := (0 : Int)) (by omega)) rfl (by rintro cs ⟨rfl, _⟩; exact ⟨Nat.le_of_ble_eq_true rfl, rfl, by omega⟩)) rfl ?_
        rintro _ oE mX ⟨hY, g9, _⟩
        have g9 : HS _ _ _ [_, _, _, _, mX, _, _] _ := g9
        have nK := OS.len' hY
        refine ai 1 rfl ?_
        exact am ⟨.inl rfl, _, rfl, rfl, DoP.mk (L := [J, O]) (by unfold doC; (repeat (first | rw [if_pos (by omega)] | rw [if_neg (by omega)] | (unfold doV; dsimp only [rg, ist]) | (unfold iy; dsimp only [rg, ist]))); first | done | rfl | (unfold ru; first | rw [if_pos (by omega)] | rw [if_neg (by omega)]) | rw [← bI (hgr _) (hgr _) (by omega)]) g9 fR T Z U hY⟩
       ·
        try simp only [BS] at hD
        refine wR 1 [] 164 165 [] [(164, (.bool (v.i.op == 15)))] trivial rfl fun _ => ?_
        refine aj 1 0 (v := (v.i.op == 15)) rfl rfl rfl rfl (fun dd => ?_) (fun dd => ?_)
        ·
         have hE := dd
         try simp only [BS] at hE
         refine aX 0 (v := (v.i.op == 15)) rfl dd rfl rfl ?_
         refine aG rfl ?_
         refine fm (.slice ra r.length rk) rfl rfl rfl ?_
         refine wfv (v := (.pointer (some ⟨A, 1, none⟩))) (aR rfl rfl) ?_
         refine au (v := (iI v.i.a)) (id := .l A) (aA (i := 1) rfl rfl (HS.hc z.log0 (i := 6) rfl) rfl rfl) rfl rfl (aL rfl) (kb rfl) ?_
         refine wfv (v := (.pointer (some ⟨A, 0, none⟩))) (aR rfl rfl) ?_
         refine au (v := (iI v.i.op)) (id := .l A) (aA (i := 0) rfl rfl (HS.hc z.log0 (i := 6) rfl) rfl rfl) rfl rfl (aL rfl) (kb rfl) ?_
         refine fm (.slice ra r.length rk) rfl rfl rfl ?_
         refine wfv (v := (.pointer (some ⟨A, 1, none⟩))) (aR rfl rfl) ?_
         refine au (v := (iI v.i.a)) (id := .l A) (aA (i := 1) rfl rfl (HS.hc z.log0 (i := 6) rfl) rfl rfl) rfl rfl (aL rfl) (kb rfl) ?_
         refine wfv (v := (.pointer (some ⟨sB (.slice ra r.length rk), sO (.slice ra r.length rk) + v.i.a.toNat * Rp.sz Int, none⟩))) (bd (α := Int) (j := v.i.a) rfl rfl rfl rfl (OS.sv hr z.log0 (i := 4) rfl) (by omega) (by omega)) ?_
         obtain ⟨ol, mb, l0⟩ := Sv.at (OS.sv hr z.log0 (i := 4) rfl) (aI (x := (0 : Int)) (show v.i.a.toNat < r.length from by first | omega | exact hgr _ | exact hga _ | exact aZ wf.rows _ | exact bH | exact aK _ | (split <;> exact aK _) | (rw [bI (hgr _) (hgr _) (by omega)]; exact bf (hgr _)) | (dsimp only; omega)))
         obtain ⟨rfl, nE⟩ := mb
         refine au (v := (iI (r.getD v.i.a.toNat 0))) (id := .l (sB (.slice ra r.length rk))) (aA (i := 0) rfl rfl l0 rfl rfl) rfl rfl (aL rfl) (kb rfl) ?_
         refine bg (W := []) (aw rfl rfl rfl) rfl rfl rfl (jw.run_c ex v.i.op (r.getD v.i.a.toNat 0) _) (⟨.inl rfl, ⟨.inl rfl, ⟨.inl rfl, ⟨.inl rfl, ⟨.inl rfl, ⟨.inl rfl, ⟨.inl rfl, ⟨.inr List.not_mem_nil, ⟨.inr trivial, ⟨.inr trivial, trivial⟩⟩⟩⟩⟩⟩⟩⟩⟩⟩) ?_
         rintro _ _ ⟨oU, rfl, rfl, rfl⟩
         refine ⟨fun b hb => absurd hb List.not_mem_nil, fun mo k5 => ?_⟩
         have es := HS.lg z.log0 z k5
         generalize ({ { H6 with log := [] } with log := mo } : Heap) = n6 at es ⊢
         refine wfv (v := (.pointer (some ⟨sB (.slice ra r.length rk), sO (.slice ra r.length rk) + v.i.a.toNat * Rp.sz Int, none⟩))) (bd (α := Int) (j := v.i.a) rfl rfl rfl rfl (OS.sv hr es.log0 (i := 4) rfl) (by omega) (by omega)) ?_
         refine ed (id := .x (pg.map Prod.fst)) (de (α := Int) (j := v.i.a.toNat) (off := 0) (q := 4) (if v.i.op = 15 then w64 (0 - (r.getD v.i.a.toNat 0)) else w64 (-1 - (r.getD v.i.a.toNat 0))) hr es.log0 rfl rfl rfl rfl rfl rfl rfl rfl (aI (x := (0 : Int)) (by first | omega | exact hgr _ | exact hga _ | exact aZ wf.rows _ | exact bH | exact aK _ | (split <;> exact aK _) | (rw [bI (hgr _) (hgr _) (by omega)]; exact bf (hgr _)) | (dsimp only; omega))) rfl (by rintro cs ⟨rfl, _⟩; exact ⟨Nat.le_of_ble_eq_true rfl, rfl, by first | omega | exact hgr _ | exact hga _ | exact aZ wf.rows _ | exact bH | exact aK _ | (split <;> exact aK _) | (rw [bI (hgr _) (hgr _) (by omega)]; exact bf (hgr _)) | (dsimp only; omega)⟩)) rfl (by rintro _ _ lK ⟨f9, _, hwr⟩; exact cE rfl rfl (Wr.did hwr)) (kb rfl) ?_
         rintro _ mG lK ⟨f9, cv, _⟩ mp k6
         replace cv := HS.lg cv es k6
         generalize ({ mG with log := mp } : Heap) = n7 at cv ⊢
         have cv : HS _ _ _ [_, _, _, _, lK, _, _] _ := cv
         have nL := OS.len' f9
         refine bw ?_
         refine ao 1 rfl ?_
         exact am ⟨.inl rfl, _, rfl, rfl, DoP.mk (L := [J, O]) (by unfold doC; (repeat (first | rw [if_pos (by omega)] | rw [if_neg (by omega)] | (unfold doV; dsimp only [rg, ist]) | (unfold iy; dsimp only [rg, ist]))); first | done | rfl | (unfold ru; first | rw [if_pos (by omega)] | rw [if_neg (by omega)]) | rw [← bI (hgr _) (hgr _) (by omega)]) cv fR T Z U f9⟩
        ·
         have hE := dd
         try simp only [BS] at hE
         refine wR 1 [] 164 166 [] [(164, (.bool (v.i.op == 16)))] trivial rfl fun _ => ?_
         refine aj 0 1 (v := (v.i.op == 16)) rfl rfl rfl rfl (fun hF => ?_) (fun hF => ?_)
         ·
          try simp only [BS] at hF
          refine aG rfl ?_
          refine fm (.slice ra r.length rk) rfl rfl rfl ?_
          refine wfv (v := (.pointer (some ⟨A, 1, none⟩))) (aR rfl rfl) ?_
          refine au (v := (iI v.i.a)) (id := .l A) (aA (i := 1) rfl rfl (HS.hc z.log0 (i := 6) rfl) rfl rfl) rfl rfl (aL rfl) (kb rfl) ?_
          refine wfv (v := (.pointer (some ⟨A, 0, none⟩))) (aR rfl rfl) ?_
          refine au (v := (iI v.i.op)) (id := .l A) (aA (i := 0) rfl rfl (HS.hc z.log0 (i := 6) rfl) rfl rfl) rfl rfl (aL rfl) (kb rfl) ?_
          refine fm (.slice ra r.length rk) rfl rfl rfl ?_
          refine wfv (v := (.pointer (some ⟨A, 1, none⟩))) (aR rfl rfl) ?_
          refine au (v := (iI v.i.a)) (id := .l A) (aA (i := 1) rfl rfl (HS.hc z.log0 (i := 6) rfl) rfl rfl) rfl rfl (aL rfl) (kb rfl) ?_
          refine wfv (v := (.pointer (some ⟨sB (.slice ra r.length rk), sO (.slice ra r.length rk) + v.i.a.toNat * Rp.sz Int, none⟩))) (bd (α := Int) (j := v.i.a) rfl rfl rfl rfl (OS.sv hr z.log0 (i := 4) rfl) (by omega) (by omega)) ?_
          obtain ⟨om, mc, l1⟩ := Sv.at (OS.sv hr z.log0 (i := 4) rfl) (aI (x := (0 : Int)) (show v.i.a.toNat < r.length from by first | omega | exact hgr _ | exact hga _ | exact aZ wf.rows _ | exact bH | exact aK _ | (split <;> exact aK _) | (rw [bI (hgr _) (hgr _) (by omega)]; exact bf (hgr _)) | (dsimp only; omega)))
          obtain ⟨rfl, nF⟩ := mc
          refine au (v := (iI (r.getD v.i.a.toNat 0))) (id := .l (sB (.slice ra r.length rk))) (aA (i := 0) rfl rfl l1 rfl rfl) rfl rfl (aL rfl) (kb rfl) ?_
          refine bg (W := []) (aw rfl rfl rfl) rfl rfl rfl (jw.run_c ex v.i.op (r.getD v.i.a.toNat 0) _) (⟨.inl rfl, ⟨.inl rfl, ⟨.inl rfl, ⟨.inl rfl, ⟨.inl rfl, ⟨.inl rfl, ⟨.inl rfl, ⟨.inr List.not_mem_nil, ⟨.inr trivial, ⟨.inr trivial, trivial⟩⟩⟩⟩⟩⟩⟩⟩⟩⟩) ?_
          rintro _ _ ⟨oW, rfl, rfl, rfl⟩
          refine ⟨fun b hb => absurd hb List.not_mem_nil, fun mq k7 => ?_⟩
          have et := HS.lg z.log0 z k7
          generalize ({ { H6 with log := [] } with log := mq } : Heap) = n8 at et ⊢
          refine wfv (v := (.pointer (some ⟨sB (.slice ra r.length rk), sO (.slice ra r.length rk) + v.i.a.toNat * Rp.sz Int, none⟩))) (bd (α := Int) (j := v.i.a) rfl rfl rfl rfl (OS.sv hr et.log0 (i := 4) rfl) (by omega) (by omega)) ?_
          refine ed (id := .x (pg.map Prod.fst)) (de (α := Int) (j := v.i.a.toNat) (off := 0) (q := 4) (if v.i.op = 15 then w64 (0 - (r.getD v.i.a.toNat 0)) else w64 (-1 - (r.getD v.i.a.toNat 0))) hr et.log0 rfl rfl rfl rfl rfl rfl rfl rfl (aI (x := (0 : Int)) (by first | omega | exact hgr _ | exact hga _ | exact aZ wf.rows _ | exact bH | exact aK _ | (split <;> exact aK _) | (rw [bI (hgr _) (hgr _) (by omega)]; exact bf (hgr _)) | (dsimp only; omega))) rfl (by rintro cs ⟨rfl, _⟩; exact ⟨Nat.le_of_ble_eq_true rfl, rfl, by first | omega | exact hgr _ | exact hga _ | exact aZ wf.rows _ | exact bH | exact aK _ | (split <;> exact aK _) | (rw [bI (hgr _) (hgr _) (by omega)]; exact bf (hgr _)) | (dsimp only; omega)⟩)) rfl (by rintro _ _ lL ⟨gj, _, hwr⟩; exact cE rfl rfl (Wr.did hwr)) (kb rfl) ?_
          rintro _ mH lL ⟨gj, c0, _⟩ mr k8
          replace c0 := HS.lg c0 et k8
          generalize ({ mH with log := mr } : Heap) = n9 at c0 ⊢
          have c0 : HS _ _ _ [_, _, _, _, lL, _, _] _ := c0
          have nM := OS.len' gj
          refine bw ?_
          refine ao 1 rfl ?_
          exact am ⟨.inl rfl, _, rfl, rfl, DoP.mk (L := [J, O]) (by unfold doC; (repeat (first | rw [if_pos (by omega)] | rw [if_neg (by omega)] | (unfold doV; dsimp only [rg, ist]) | (unfold iy; dsimp only [rg, ist]))); first | done | rfl | (unfold ru; first | rw [if_pos (by omega)] | rw [if_neg (by omega)]) | rw [← bI (hgr _) (hgr _) (by omega)]) c0 fR T Z U gj⟩
         ·
          try simp only [BS] at hF
          refine wR 1 [] 179 180 [] [(179, (.bool (v.i.op == 33)))] trivial rfl fun _ => ?_
          refine aj 0 2 (v := (v.i.op == 33)) rfl rfl rfl rfl (fun hG => ?_) (fun hG => ?_)
          ·
           try simp only [BS] at hG
           refine aG rfl ?_
           refine fm (.slice ra r.length rk) rfl rfl rfl ?_
           refine wfv (v := (.pointer (some ⟨A, 1, none⟩))) (aR rfl rfl) ?_
           refine au (v := (iI v.i.a)) (id := .l A) (aA (i := 1) rfl rfl (HS.hc z.log0 (i := 6) rfl) rfl rfl) rfl rfl (aL rfl) (kb rfl) ?_
           refine wfv (v := (.pointer (some ⟨sB (.slice ra r.length rk), sO (.slice ra r.length rk) + v.i.a.toNat * Rp.sz Int, none⟩))) (bd (α := Int) (j := v.i.a) rfl rfl rfl rfl (OS.sv hr z.log0 (i := 4) rfl) (by omega) (by omega)) ?_
           obtain ⟨nn, k9, jq⟩ := Sv.at (OS.sv hr z.log0 (i := 4) rfl) (aI (x := (0 : Int)) (show v.i.a.toNat < r.length from by first | omega | exact hgr _ | exact hga _ | exact aZ wf.rows _ | exact bH | exact aK _ | (split <;> exact aK _) | (rw [bI (hgr _) (hgr _) (by omega)]; exact bf (hgr _)) | (dsimp only; omega)))
           obtain ⟨rfl, mJ⟩ := k9
           refine au (v := (iI (r.getD v.i.a.toNat 0))) (id := .l (sB (.slice ra r.length rk))) (aA (i := 0) rfl rfl jq rfl rfl) rfl rfl (aL rfl) (kb rfl) ?_
           refine wfv (v := (.pointer (some ⟨A, 4, none⟩))) (aR rfl rfl) ?_
           refine au (v := (iI v.i.n)) (id := .l A) (aA (i := 4) rfl rfl (HS.hc z.log0 (i := 6) rfl) rfl rfl) rfl rfl (aL rfl) (kb rfl) ?_
           refine wfv (v := (iI (IntKind.i64.wrap ((r.getD v.i.a.toNat 0) + v.i.n)))) (ap_add rfl rfl rfl) ?_
           refine wfv (v := (.pointer (some ⟨sB (.slice ra r.length rk), sO (.slice ra r.length rk) + v.i.a.toNat * Rp.sz Int, none⟩))) (bd (α := Int) (j := v.i.a) rfl rfl rfl rfl (OS.sv hr z.log0 (i := 4) rfl) (by omega) (by omega)) ?_
           refine ed (id := .x (pg.map Prod.fst)) (de (α := Int) (j := v.i.a.toNat) (off := 0) (q := 4) (IntKind.i64.wrap ((r.getD v.i.a.toNat 0) + v.i.n)) hr z.log0 rfl rfl rfl rfl rfl rfl rfl rfl (aI (x := (0 : Int)) (by first | omega | exact hgr _ | exact hga _ | exact aZ wf.rows _ | exact bH | exact aK _ | (split <;> exact aK _) | (rw [bI (hgr _) (hgr _) (by omega)]; exact bf (hgr _)) | (dsimp only; omega))) rfl (by rintro cs ⟨rfl, _⟩; exact ⟨Nat.le_of_ble_eq_true rfl, rfl, by first | omega | exact hgr _ | exact hga _ | exact aZ wf.rows _ | exact bH | exact aK _ | (split <;> exact aK _) | (rw [bI (hgr _) (hgr _) (by omega)]; exact bf (hgr _)) | (dsimp only; omega)⟩)) rfl (by rintro _ _ h6 ⟨dl, _, hwr⟩; exact cE rfl rfl (Wr.did hwr)) (kb rfl) ?_
           rintro _ lM h6 ⟨dl, a7, _⟩ lr hM
           replace a7 := HS.lg a7 z hM
           generalize ({ lM with log := lr } : Heap) = mY at a7 ⊢
           have a7 : HS _ _ _ [_, _, _, _, h6, _, _] _ := a7
           have mR := OS.len' dl
           refine bw ?_
           refine ao 1 rfl ?_
           exact am ⟨.inl rfl, _, rfl, rfl, DoP.mk (L := [J, O]) (by unfold doC; (repeat (first | rw [if_pos (by omega)] | rw [if_neg (by omega)] | (unfold doV; dsimp only [rg, ist]) | (unfold iy; dsimp only [rg, ist]))); first | done | rfl | (unfold ru; first | rw [if_pos (by omega)] | rw [if_neg (by omega)]) | rw [← bI (hgr _) (hgr _) (by omega)]) a7 fR T Z U dl⟩
          ·
           try simp only [BS] at hG
           refine wR 1 [] 190 191 [] [(190, (.bool (v.i.op == 34)))] trivial rfl fun _ => ?_
           refine aj 1 0 (v := (v.i.op == 34)) rfl rfl rfl rfl (fun a5 => ?_) (fun a5 => ?_)
           ·
            have e4 := a5
            try simp only [BS] at e4
            refine aX 0 (v := (v.i.op == 34)) rfl a5 rfl rfl ?_
            refine ab ?_
            refine wRo 3 0 [(1, .o c8)] 193 195 [] [(193, (.pointer (some ⟨b, 0, none⟩))), (194, c8), (195, (.slice ra r.length rk))] (vA (qn 45 0 5 (HS.hc z (i := 6) rfl) rfl rfl rfl rfl) trivial) rfl fun _ => ?_
            refine aC (R := fun w' H' => w' = .tuple #[] ∧ DoP (.of H (b :: (q ++ pg).map Prod.fst)) F R P la lk b ra r.length rk (doC P s r args v) H') (aw rfl rfl rfl) rfl rfl ?_ ?_
            ·
             refine aJ Tryd.func94 rfl rfl ?_
             refine ao 1 rfl ?_
             refine ab ?_
             refine aP (b8 z rfl rfl) rfl rfl ?_
             rintro _ nQ _ ⟨c5, rfl, aq, _⟩
             let e1 : Fp := [(c5, .cells [(iI v.i.op), (iI v.i.a), (iI v.i.b), (iI v.i.c), (iI v.i.n)] none false)]
             have aq : HS _ _ _ [_, _, _, _, _, _, _, e1] _ := aq
             refine ai 2 rfl ?_
             obtain ⟨nh, lp⟩ := Sv.view (OS.sv T aq (i := 1) rfl)
             obtain ⟨he, dk, E, ap, hg⟩ := SF.open Z aq (q := 2) (i := v.i.n.toNat) rfl (by omega)
             have E : HS _ _ _ [_, _, he, _, _, _, _, _, dk] _ := E
             have ap : OS F (.slice (hd.getD v.i.n.toNat default).a (hd.getD v.i.n.toNat default).n (hd.getD v.i.n.toNat default).k) (s.cells.getD v.i.n.toNat default) dk := ap
             have nO := OS.nlen ap
             refine wRD 3 [(3, .o (.slice ca hd.length ck)), (5, .o (iI v.i.n)), (7, .o (.slice (hd.getD v.i.n.toNat default).a (hd.getD v.i.n.toNat default).n (hd.getD v.i.n.toNat default).k))] 7 14 [6] [(6, (.slice (hd.getD v.i.n.toNat default).a (hd.getD v.i.n.toNat default).n (hd.getD v.i.n.toNat default).k))] (vA (ql 99 1 (hc0 (HS.hc aq (i := 0) rfl)) rfl rfl) (vA (ql 2 4 (hc0 (HS.hc aq (i := 7) rfl)) rfl rfl) (vA (Sv.ix (j := v.i.n) (OS.sv T aq (i := 1) rfl) (by omega) (by omega)) (vA (ql 52 0 (hc0 (vH (lp v.i.n.toNat) (by omega))) rfl rfl) trivial)))) rfl rfl fun _ => ?_
             obtain ⟨ni, ez⟩ := Sv.view (OS.sv hr E (i := 4) rfl)
             have oo := fI (ez v.i.b.toNat)
             refine wR 1 [(2, .o (iI v.i.b)), (4, .o (iI (r.getD v.i.b.toNat 0))), (9, .o (iI v.i.b)), (11, .o (iI (r.getD v.i.b.toNat 0)))] 27 43 [] [(27, (.bool ((decide ((r.getD v.i.b.toNat 0) < 0)) || (decide (((hd.getD v.i.n.toNat default).n : Int) ≤ (r.getD v.i.b.toNat 0))))))] (vA (ql 3 2 (HS.hc E (i := 7) rfl) rfl rfl) (vA (Sv.ix (j := v.i.b) (OS.sv hr E (i := 4) rfl) (by omega) (by omega)) (vA (ql 2 0 (vI (ez v.i.b.toNat) (by omega)) rfl rfl) (vA (fun (g1 : (decide ((r.getD v.i.b.toNat 0) < 0)) = false) => (ql 3 2 (HS.hc E (i := 7) rfl) rfl rfl)) (vA (fun (g1 : (decide ((r.getD v.i.b.toNat 0) < 0)) = false) => (Sv.ix (j := v.i.b) (OS.sv hr E (i := 4) rfl) (by (try simp only [BS] at g1); (first | omega | exact hgr _ | exact hga _ | exact aZ wf.rows _ | exact bH | exact aK _ | (split <;> exact aK _) | (rw [bI (hgr _) (hgr _) (by omega)]; exact bf (hgr _)) | (dsimp only; omega))) (by (try simp only [BS] at g1); (first | omega | exact hgr _ | exact hga _ | exact aZ wf.rows _ | exact bH | exact aK _ | (split <;> exact aK _) | (rw [bI (hgr _) (hgr _) (by omega)]; exact bf (hgr _)) | (dsimp only; omega))))) (vA (fun (g1 : (decide ((r.getD v.i.b.toNat 0) < 0)) = false) => (ql 2 0 (vI (ez v.i.b.toNat) (by (try simp only [BS] at g1); (first | omega | exact hgr _ | exact hga _ | exact aZ wf.rows _ | exact bH | exact aK _ | (split <;> exact aK _) | (rw [bI (hgr _) (hgr _) (by omega)]; exact bf (hgr _)) | (dsimp only; omega)))) rfl rfl)) trivial)))))) rfl fun _ => ?_
             refine aj 0 1 (v := ((decide ((r.getD v.i.b.toNat 0) < 0)) || (decide (((hd.getD v.i.n.toNat default).n : Int) ≤ (r.getD v.i.b.toNat 0))))) rfl rfl rfl rfl (fun e5 => ?_) (fun e5 => ?_)
             ·
              try simp only [BS] at e5
              refine ab ?_
              refine wm (.pointer (some ⟨b, 0, none⟩)) rfl rfl rfl ?_
              refine aC (aw rfl rfl rfl) rfl rfl (jr ex (2) (2) (HS.callOwn E (i := 0) rfl)) ?_
              rintro _ nR ⟨b2, rfl⟩
              replace b2 := HS.backOwn E (i := 0) rfl rfl (fun _ hb => hb) b2
              have b2 : HS _ _ _ [[(b, .cells [(.slice la P.length lk), (.slice ca hd.length ck), (iI s.fuel), (iI s.most), (.slice oa s.out.length ok), (iI 2), (iI 2), (.slice none 0 0), (iI 0), (.bool true), (.bool s.long)] none false)], pc, he, po, pg, J, O, e1, dk] _ := b2
              refine ai 1 rfl ?_
              obtain ⟨i1, d2, hk⟩ := SF.shut0 hg fR b2 (q := 2) (m := 8) (by decide) rfl rfl ap
              have d2 : HS _ _ _ [_, _, i1, _, _, _, _, _, []] _ := d2
              have nw := FAM.len hk
              exact am ⟨.inl rfl, _, rfl, rfl, DoP.mk (L := [J, O, e1, []]) (by unfold doC; (repeat (first | rw [if_pos (by omega)] | rw [if_neg (by omega)] | (unfold doV; dsimp only [rg, ist]) | (unfold iy; dsimp only [rg, ist]))); first | done | rfl | (unfold ru; first | rw [if_pos (by omega)] | rw [if_neg (by omega)]) | rw [← bI (hgr _) (hgr _) (by omega)]) d2 fR T hk U hr⟩
             ·
              try simp only [BS] at e5
              refine wR 1 [(1, .o (iI v.i.op))] 46 49 [] [(46, (.bool (v.i.op == 34)))] (vA (ql 3 0 (HS.hc E (i := 7) rfl) rfl rfl) trivial) rfl fun _ => ?_
              refine aX 0 (v := (v.i.op == 34)) rfl a5 rfl rfl ?_
              refine aG rfl ?_
              refine fm (.slice ra r.length rk) rfl rfl rfl ?_
              refine wfv (v := (.pointer (some ⟨c5, 1, none⟩))) (aR rfl rfl) ?_
              refine au (v := (iI v.i.a)) (id := .l c5) (aA (i := 1) rfl rfl (HS.hc E.log0 (i := 7) rfl) rfl rfl) rfl rfl (aL rfl) (kb rfl) ?_
              refine fm (.slice (hd.getD v.i.n.toNat default).a (hd.getD v.i.n.toNat default).n (hd.getD v.i.n.toNat default).k) rfl rfl rfl ?_
              refine fm (.slice ra r.length rk) rfl rfl rfl ?_
              refine wfv (v := (.pointer (some ⟨c5, 2, none⟩))) (aR rfl rfl) ?_
              refine au (v := (iI v.i.b)) (id := .l c5) (aA (i := 2) rfl rfl (HS.hc E.log0 (i := 7) rfl) rfl rfl) rfl rfl (aL rfl) (kb rfl) ?_
              refine wfv (v := (.pointer (some ⟨sB (.slice ra r.length rk), sO (.slice ra r.length rk) + v.i.b.toNat * Rp.sz Int, none⟩))) (bd (α := Int) (j := v.i.b) rfl rfl rfl rfl (OS.sv hr E.log0 (i := 4) rfl) (by omega) (by omega)) ?_
              obtain ⟨np, ld, j0⟩ := Sv.at (OS.sv hr E.log0 (i := 4) rfl) (aI (x := (0 : Int)) (show v.i.b.toNat < r.length from by first | omega | exact hgr _ | exact hga _ | exact aZ wf.rows _ | exact bH | exact aK _ | (split <;> exact aK _) | (rw [bI (hgr _) (hgr _) (by omega)]; exact bf (hgr _)) | (dsimp only; omega)))
              obtain ⟨rfl, mK⟩ := ld
              refine au (v := (iI (r.getD v.i.b.toNat 0))) (id := .l (sB (.slice ra r.length rk))) (aA (i := 0) rfl rfl j0 rfl rfl) rfl rfl (aL rfl) (kb rfl) ?_
              refine wfv (v := (.pointer (some ⟨sB (.slice (hd.getD v.i.n.toNat default).a (hd.getD v.i.n.toNat default).n (hd.getD v.i.n.toNat default).k), sO (.slice (hd.getD v.i.n.toNat default).a (hd.getD v.i.n.toNat default).n (hd.getD v.i.n.toNat default).k) + (r.getD v.i.b.toNat 0).toNat * Rp.sz Int, none⟩))) (bd (α := Int) (j := (r.getD v.i.b.toNat 0)) rfl rfl rfl rfl (OS.sv ap E.log0 (i := 8) rfl) (by omega) (by omega)) ?_
              obtain ⟨nq, lf, j1⟩ := Sv.at (OS.sv ap E.log0 (i := 8) rfl) (aI (x := (0 : Int)) (show (r.getD v.i.b.toNat 0).toNat < (s.cells.getD v.i.n.toNat default).length from by first | omega | exact hgr _ | exact hga _ | exact aZ wf.rows _ | exact bH | exact aK _ | (split <;> exact aK _) | (rw [bI (hgr _) (hgr _) (by omega)]; exact bf (hgr _)) | (dsimp only; omega)))
              obtain ⟨rfl, mL⟩ := lf
              refine au (v := (iI ((s.cells.getD v.i.n.toNat default).getD (r.getD v.i.b.toNat 0).toNat 0))) (id := .l (sB (.slice (hd.getD v.i.n.toNat default).a (hd.getD v.i.n.toNat default).n (hd.getD v.i.n.toNat default).k))) (aA (i := 0) rfl rfl j1 rfl rfl) rfl rfl (aL rfl) (kb rfl) ?_
              refine wfv (v := (.pointer (some ⟨sB (.slice ra r.length rk), sO (.slice ra r.length rk) + v.i.a.toNat * Rp.sz Int, none⟩))) (bd (α := Int) (j := v.i.a) rfl rfl rfl rfl (OS.sv hr E.log0 (i := 4) rfl) (by omega) (by omega)) ?_
              refine ed (id := .x (pg.map Prod.fst)) (de (α := Int) (j := v.i.a.toNat) (off := 0) (q := 4) ((s.cells.getD v.i.n.toNat default).getD (r.getD v.i.b.toNat 0).toNat 0) hr E.log0 rfl rfl rfl rfl rfl rfl rfl rfl (aI (x := (0 : Int)) (by omega)) rfl (by rintro cs ⟨rfl, _⟩; exact ⟨Nat.le_of_ble_eq_true rfl, rfl, by omega⟩)) rfl (by rintro _ _ h7 ⟨dn, _, hwr⟩; exact cE rfl rfl (Wr.did hwr)) (kb rfl) ?_
              rintro _ lN h7 ⟨dn, a8, _⟩ lu hQ
              replace a8 := HS.lg a8 E hQ
              generalize ({ lN with log := lu } : Heap) = mZ at a8 ⊢
              have a8 : HS _ _ _ [_, _, _, _, h7, _, _, _, _] _ := a8
              have mS := OS.len' dn
              refine bw ?_
              refine ao 1 rfl ?_
              obtain ⟨i2, ea, hl⟩ := SF.shut0 hg fR a8 (q := 2) (m := 8) (by decide) rfl rfl ap
              have ea : HS _ _ _ [_, _, i2, _, _, _, _, _, []] _ := ea
              have nx := FAM.len hl
              exact am ⟨.inl rfl, _, rfl, rfl, DoP.mk (L := [J, O, e1, []]) (by unfold doC; (repeat (first | rw [if_pos (by omega)] | rw [if_neg (by omega)] | (unfold doV; dsimp only [rg, ist]) | (unfold iy; dsimp only [rg, ist]))); first | done | rfl | (unfold ru; first | rw [if_pos (by omega)] | rw [if_neg (by omega)]) | rw [← bI (hgr _) (hgr _) (by omega)]) ea fR T hl U dn⟩
            rintro _ nS ⟨rfl, g2⟩
            refine ai 1 rfl ?_
            exact am ⟨.inl rfl, _, rfl, rfl, g2⟩
           ·
            have e4 := a5
            try simp only [BS] at e4
            refine wR 1 [] 190 192 [] [(190, (.bool (v.i.op == 35)))] trivial rfl fun _ => ?_
            refine aj 0 1 (v := (v.i.op == 35)) rfl rfl rfl rfl (fun e6 => ?_) (fun e6 => ?_)
            ·
             try simp only [BS] at e6
             refine ab ?_
             refine wRo 3 0 [(1, .o c8)] 193 195 [] [(193, (.pointer (some ⟨b, 0, none⟩))), (194, c8), (195, (.slice ra r.length rk))] (vA (qn 45 0 5 (HS.hc z (i := 6) rfl) rfl rfl rfl rfl) trivial) rfl fun _ => ?_
             refine aC (R := fun w' H' => w' = .tuple #[] ∧ DoP (.of H (b :: (q ++ pg).map Prod.fst)) F R P la lk b ra r.length rk (doC P s r args v) H') (aw rfl rfl rfl) rfl rfl ?_ ?_
             ·
              refine aJ Tryd.func94 rfl rfl ?_
              refine ao 1 rfl ?_
              refine ab ?_
              refine aP (b8 z rfl rfl) rfl rfl ?_
              rintro _ nT _ ⟨c6, rfl, ar, _⟩
              let e2 : Fp := [(c6, .cells [(iI v.i.op), (iI v.i.a), (iI v.i.b), (iI v.i.c), (iI v.i.n)] none false)]
              have ar : HS _ _ _ [_, _, _, _, _, _, _, e2] _ := ar
              refine ai 2 rfl ?_
              obtain ⟨nj, lq⟩ := Sv.view (OS.sv T ar (i := 1) rfl)
              obtain ⟨hf, c3, I, a6, hh⟩ := SF.open Z ar (q := 2) (i := v.i.n.toNat) rfl (by omega)
              have I : HS _ _ _ [_, _, hf, _, _, _, _, _, c3] _ := I
              have a6 : OS F (.slice (hd.getD v.i.n.toNat default).a (hd.getD v.i.n.toNat default).n (hd.getD v.i.n.toNat default).k) (s.cells.getD v.i.n.toNat default) c3 := a6
              have nP := OS.nlen a6
              refine wRD 3 [(3, .o (.slice ca hd.length ck)), (5, .o (iI v.i.n)), (7, .o (.slice (hd.getD v.i.n.toNat default).a (hd.getD v.i.n.toNat default).n (hd.getD v.i.n.toNat default).k))] 7 14 [6] [(6, (.slice (hd.getD v.i.n.toNat default).a (hd.getD v.i.n.toNat default).n (hd.getD v.i.n.toNat default).k))] (vA (ql 99 1 (hc0 (HS.hc ar (i := 0) rfl)) rfl rfl) (vA (ql 2 4 (hc0 (HS.hc ar (i := 7) rfl)) rfl rfl) (vA (Sv.ix (j := v.i.n) (OS.sv T ar (i := 1) rfl) (by omega) (by omega)) (vA (ql 52 0 (hc0 (vH (lq v.i.n.toNat) (by omega))) rfl rfl) trivial)))) rfl rfl fun _ => ?_
              obtain ⟨nk, e0⟩ := Sv.view (OS.sv hr I (i := 4) rfl)
              have oq := fI (e0 v.i.b.toNat)
              refine wR 1 [(2, .o (iI v.i.b)), (4, .o (iI (r.getD v.i.b.toNat 0))), (9, .o (iI v.i.b)), (11, .o (iI (r.getD v.i.b.toNat 0)))] 27 43 [] [(27, (.bool ((decide ((r.getD v.i.b.toNat 0) < 0)) || (decide (((hd.getD v.i.n.toNat default).n : Int) ≤ (r.getD v.i.b.toNat 0))))))] (vA (ql 3 2 (HS.hc I (i := 7) rfl) rfl rfl) (vA (Sv.ix (j := v.i.b) (OS.sv hr I (i := 4) rfl) (by omega) (by omega)) (vA (ql 2 0 (vI (e0 v.i.b.toNat) (by omega)) rfl rfl) (vA (fun (g1 : (decide ((r.getD v.i.b.toNat 0) < 0)) = false) => (ql 3 2 (HS.hc I (i := 7) rfl) rfl rfl)) (vA (fun (g1 : (decide ((r.getD v.i.b.toNat 0) < 0)) = false) => (Sv.ix (j := v.i.b) (OS.sv hr I (i := 4) rfl) (by (try simp only [BS] at g1); (first | omega | exact hgr _ | exact hga _ | exact aZ wf.rows _ | exact bH | exact aK _ | (split <;> exact aK _) | (rw [bI (hgr _) (hgr _) (by omega)]; exact bf (hgr _)) | (dsimp only; omega))) (by (try simp only [BS] at g1); (first | omega | exact hgr _ | exact hga _ | exact aZ wf.rows _ | exact bH | exact aK _ | (split <;> exact aK _) | (rw [bI (hgr _) (hgr _) (by omega)]; exact bf (hgr _)) | (dsimp only; omega))))) (vA (fun (g1 : (decide ((r.getD v.i.b.toNat 0) < 0)) = false) => (ql 2 0 (vI (e0 v.i.b.toNat) (by (try simp only [BS] at g1); (first | omega | exact hgr _ | exact hga _ | exact aZ wf.rows _ | exact bH | exact aK _ | (split <;> exact aK _) | (rw [bI (hgr _) (hgr _) (by omega)]; exact bf (hgr _)) | (dsimp only; omega)))) rfl rfl)) trivial)))))) rfl fun _ => ?_
              refine aj 0 1 (v := ((decide ((r.getD v.i.b.toNat 0) < 0)) || (decide (((hd.getD v.i.n.toNat default).n : Int) ≤ (r.getD v.i.b.toNat 0))))) rfl rfl rfl rfl (fun e9 => ?_) (fun e9 => ?_)
              ·
               try simp only [BS] at e9
               refine ab ?_
               refine wm (.pointer (some ⟨b, 0, none⟩)) rfl rfl rfl ?_
               refine aC (aw rfl rfl rfl) rfl rfl (jr ex (2) (2) (HS.callOwn I (i := 0) rfl)) ?_
               rintro _ nU ⟨b3, rfl⟩
               replace b3 := HS.backOwn I (i := 0) rfl rfl (fun _ hb => hb) b3
               have b3 : HS _ _ _ [[(b, .cells [(.slice la P.length lk), (.slice ca hd.length ck), (iI s.fuel), (iI s.most), (.slice oa s.out.length ok), (iI 2), (iI 2), (.slice none 0 0), (iI 0), (.bool true), (.bool s.long)] none false)], pc, hf, po, pg, J, O, e2, c3] _ := b3
               refine ai 1 rfl ?_
               obtain ⟨i3, eb, hm⟩ := SF.shut0 hh fR b3 (q := 2) (m := 8) (by decide) rfl rfl a6
               have eb : HS _ _ _ [_, _, i3, _, _, _, _, _, []] _ := eb
               have ny := FAM.len hm
               exact am ⟨.inl rfl, _, rfl, rfl, DoP.mk (L := [J, O, e2, []]) (by unfold doC; (repeat (first | rw [if_pos (by omega)] | rw [if_neg (by omega)] | (unfold doV; dsimp only [rg, ist]) | (unfold iy; dsimp only [rg, ist]))); first | done | rfl | (unfold ru; first | rw [if_pos (by omega)] | rw [if_neg (by omega)]) | rw [← bI (hgr _) (hgr _) (by omega)]) eb fR T hm U hr⟩
              ·
               try simp only [BS] at e9
               refine wR 1 [(1, .o (iI v.i.op))] 46 49 [] [(46, (.bool (v.i.op == 34)))] (vA (ql 3 0 (HS.hc I (i := 7) rfl) rfl rfl) trivial) rfl fun _ => ?_
               refine wk_iff 0 (v := (v.i.op == 34)) rfl a5 rfl rfl ?_
               refine aG rfl ?_
               refine fm (.slice (hd.getD v.i.n.toNat default).a (hd.getD v.i.n.toNat default).n (hd.getD v.i.n.toNat default).k) rfl rfl rfl ?_
               refine fm (.slice ra r.length rk) rfl rfl rfl ?_
               refine wfv (v := (.pointer (some ⟨c6, 2, none⟩))) (aR rfl rfl) ?_
               refine au (v := (iI v.i.b)) (id := .l c6) (aA (i := 2) rfl rfl (HS.hc I.log0 (i := 7) rfl) rfl rfl) rfl rfl (aL rfl) (kb rfl) ?_
               refine wfv (v := (.pointer (some ⟨sB (.slice ra r.length rk), sO (.slice ra r.length rk) + v.i.b.toNat * Rp.sz Int, none⟩))) (bd (α := Int) (j := v.i.b) rfl rfl rfl rfl (OS.sv hr I.log0 (i := 4) rfl) (by omega) (by omega)) ?_
               obtain ⟨nr, lh, j2⟩ := Sv.at (OS.sv hr I.log0 (i := 4) rfl) (aI (x := (0 : Int)) (show v.i.b.toNat < r.length from by first | omega | exact hgr _ | exact hga _ | exact aZ wf.rows _ | exact bH | exact aK _ | (split <;> exact aK _) | (rw [bI (hgr _) (hgr _) (by omega)]; exact bf (hgr _)) | (dsimp only; omega)))
               obtain ⟨rfl, mM⟩ := lh
               refine au (v := (iI (r.getD v.i.b.toNat 0))) (id := .l (sB (.slice ra r.length rk))) (aA (i := 0) rfl rfl j2 rfl rfl) rfl rfl (aL rfl) (kb rfl) ?_
               refine fm (.slice ra r.length rk) rfl rfl rfl ?_
               refine wfv (v := (.pointer (some ⟨c6, 1, none⟩))) (aR rfl rfl) ?_
               refine au (v := (iI v.i.a)) (id := .l c6) (aA (i := 1) rfl rfl (HS.hc I.log0 (i := 7) rfl) rfl rfl) rfl rfl (aL rfl) (kb rfl) ?_
               refine wfv (v := (.pointer (some ⟨sB (.slice ra r.length rk), sO (.slice ra r.length rk) + v.i.a.toNat * Rp.sz Int, none⟩))) (bd (α := Int) (j := v.i.a) rfl rfl rfl rfl (OS.sv hr I.log0 (i := 4) rfl) (by omega) (by omega)) ?_
               obtain ⟨ns, lj, kd⟩ := Sv.at (OS.sv hr I.log0 (i := 4) rfl) (aI (x := (0 : Int)) (show v.i.a.toNat < r.length from by first | omega | exact hgr _ | exact hga _ | exact aZ wf.rows _ | exact bH | exact aK _ | (split <;> exact aK _) | (rw [bI (hgr _) (hgr _) (by omega)]; exact bf (hgr _)) | (dsimp only; omega)))
               obtain ⟨rfl, mN⟩ := lj
               refine au (v := (iI (r.getD v.i.a.toNat 0))) (id := .l (sB (.slice ra r.length rk))) (aA (i := 0) rfl rfl kd rfl rfl) rfl rfl (aL rfl) (kb rfl) ?_
               refine wfv (v := (.pointer (some ⟨sB (.slice (hd.getD v.i.n.toNat default).a (hd.getD v.i.n.toNat default).n (hd.getD v.i.n.toNat default).k), sO (.slice (hd.getD v.i.n.toNat default).a (hd.getD v.i.n.toNat default).n (hd.getD v.i.n.toNat default).k) + (r.getD v.i.b.toNat 0).toNat * Rp.sz Int, none⟩))) (bd (α := Int) (j := (r.getD v.i.b.toNat 0)) rfl rfl rfl rfl (OS.sv a6 I.log0 (i := 8) rfl) (by omega) (by omega)) ?_
               refine ed (id := .x (c3.map Prod.fst)) (de (α := Int) (j := (r.getD v.i.b.toNat 0).toNat) (off := 0) (q := 8) (r.getD v.i.a.toNat 0) a6 I.log0 rfl rfl rfl rfl rfl rfl rfl rfl (aI (x := (0 : Int)) (by omega)) rfl (by rintro cs ⟨rfl, _⟩; exact ⟨Nat.le_of_ble_eq_true rfl, rfl, by omega⟩)) rfl (by rintro _ _ h8 ⟨ds, _, hwr⟩; exact cE rfl rfl (Wr.did hwr)) (kb rfl) ?_
               rintro _ lO h8 ⟨ds, a9, _⟩ lv hS
               replace a9 := HS.lg a9 I hS
               generalize ({ lO with log := lv } : Heap) = m0 at a9 ⊢
               have a9 : HS _ _ _ [_, _, _, _, _, _, _, _, h8] _ := a9
               have mT := OS.len' ds
               refine bw ?_
               refine ao 1 rfl ?_
               obtain ⟨jb, ec, hn⟩ := SF.shut hh fR a9 (q := 2) (m := 8) (by decide) rfl rfl ds
               have ec : HS _ _ _ [_, _, jb, _, _, _, _, _, []] _ := ec
               have nz := FAM.len hn
               exact am ⟨.inl rfl, _, rfl, rfl, DoP.mk (L := [J, O, e2, []]) (by unfold doC; (repeat (first | rw [if_pos (by omega)] | rw [if_neg (by omega)] | (unfold doV; dsimp only [rg, ist]) | (unfold iy; dsimp only [rg, ist]))); first | done | rfl | (unfold ru; first | rw [if_pos (by omega)] | rw [if_neg (by omega)]) | rw [← bI (hgr _) (hgr _) (by omega)]) ec fR T hn U hr⟩
             rintro _ nV ⟨rfl, g3⟩
             refine ai 1 rfl ?_
             exact am ⟨.inl rfl, _, rfl, rfl, g3⟩
            ·
             try simp only [BS] at e6
             refine wR 1 [] 197 198 [] [(197, (.bool (v.i.op == 38)))] trivial rfl fun _ => ?_
             refine aj 0 1 (v := (v.i.op == 38)) rfl rfl rfl rfl (fun fd => ?_) (fun fd => ?_)
             ·
              try simp only [BS] at fd
              refine aG rfl ?_
              refine fm (.slice ra r.length rk) rfl rfl rfl ?_
              refine wfv (v := (.pointer (some ⟨A, 1, none⟩))) (aR rfl rfl) ?_
              refine au (v := (iI v.i.a)) (id := .l A) (aA (i := 1) rfl rfl (HS.hc z.log0 (i := 6) rfl) rfl rfl) rfl rfl (aL rfl) (kb rfl) ?_
              refine fm (.slice aa args.length ak) rfl rfl rfl ?_
              refine wfv (v := (.pointer (some ⟨A, 4, none⟩))) (aR rfl rfl) ?_
              refine au (v := (iI v.i.n)) (id := .l A) (aA (i := 4) rfl rfl (HS.hc z.log0 (i := 6) rfl) rfl rfl) rfl rfl (aL rfl) (kb rfl) ?_
              refine wfv (v := (.pointer (some ⟨sB (.slice aa args.length ak), sO (.slice aa args.length ak) + v.i.n.toNat * Rp.sz Int, none⟩))) (bd (α := Int) (j := v.i.n) rfl rfl rfl rfl (SR.sv ha z.log0) (by omega) (by omega)) ?_
              obtain ⟨nt, ll, ki⟩ := Sv.at (SR.sv ha z.log0) (aI (x := (0 : Int)) (show v.i.n.toNat < args.length from by first | omega | exact hgr _ | exact hga _ | exact aZ wf.rows _ | exact bH | exact aK _ | (split <;> exact aK _) | (rw [bI (hgr _) (hgr _) (by omega)]; exact bf (hgr _)) | (dsimp only; omega)))
              obtain ⟨rfl, mO⟩ := ll
              refine au (v := (iI (args.getD v.i.n.toNat 0))) (id := .l (sB (.slice aa args.length ak))) (aA (i := 0) rfl rfl ki rfl rfl) rfl rfl (aL rfl) (kb rfl) ?_
              refine wfv (v := (.pointer (some ⟨sB (.slice ra r.length rk), sO (.slice ra r.length rk) + v.i.a.toNat * Rp.sz Int, none⟩))) (bd (α := Int) (j := v.i.a) rfl rfl rfl rfl (OS.sv hr z.log0 (i := 4) rfl) (by omega) (by omega)) ?_
              refine ed (id := .x (pg.map Prod.fst)) (de (α := Int) (j := v.i.a.toNat) (off := 0) (q := 4) (args.getD v.i.n.toNat 0) hr z.log0 rfl rfl rfl rfl rfl rfl rfl rfl (aI (x := (0 : Int)) (by omega)) rfl (by rintro cs ⟨rfl, _⟩; exact ⟨Nat.le_of_ble_eq_true rfl, rfl, by omega⟩)) rfl (by rintro _ _ h9 ⟨dt, _, hwr⟩; exact cE rfl rfl (Wr.did hwr)) (kb rfl) ?_
              rintro _ lP h9 ⟨dt, bb, _⟩ lw hT
              replace bb := HS.lg bb z hT
              generalize ({ lP with log := lw } : Heap) = na at bb ⊢
              have bb : HS _ _ _ [_, _, _, _, h9, _, _] _ := bb
              have mU := OS.len' dt
              refine bw ?_
              refine ao 1 rfl ?_
              exact am ⟨.inl rfl, _, rfl, rfl, DoP.mk (L := [J, O]) (by unfold doC; (repeat (first | rw [if_pos (by omega)] | rw [if_neg (by omega)] | (unfold doV; dsimp only [rg, ist]) | (unfold iy; dsimp only [rg, ist]))); first | done | rfl | (unfold ru; first | rw [if_pos (by omega)] | rw [if_neg (by omega)]) | rw [← bI (hgr _) (hgr _) (by omega)]) bb fR T Z U dt⟩
             ·
              try simp only [BS] at fd
              obtain ⟨nm, ht⟩ := Sv.view (OS.sv hr z (i := 4) rfl)
              have ot := fI (ht v.i.b.toNat)
              refine wR 1 [(1, .o (iI v.i.op)), (5, .o (iI v.i.op)), (11, .o (iI v.i.b)), (13, .o (iI (r.getD v.i.b.toNat 0)))] 15 30 [] [(30, (.bool (((v.i.op == 20) || (v.i.op == 21)) && ((r.getD v.i.b.toNat 0) == 0))))] (vA (ql 3 0 (HS.hc z (i := 6) rfl) rfl rfl) (vA (fun (g1 : (v.i.op == 20) = false) => (ql 3 0 (HS.hc z (i := 6) rfl) rfl rfl)) (vA (fun (g1 : ((v.i.op == 20) || (v.i.op == 21)) = true) => (ql 3 2 (HS.hc z (i := 6) rfl) rfl rfl)) (vA (fun (g1 : ((v.i.op == 20) || (v.i.op == 21)) = true) => (Sv.ix (j := v.i.b) (OS.sv hr z (i := 4) rfl) (by (try simp only [BS] at g1); (first | omega | exact hgr _ | exact hga _ | exact aZ wf.rows _ | exact bH | exact aK _ | (split <;> exact aK _) | (rw [bI (hgr _) (hgr _) (by omega)]; exact bf (hgr _)) | (dsimp only; omega))) (by (try simp only [BS] at g1); (first | omega | exact hgr _ | exact hga _ | exact aZ wf.rows _ | exact bH | exact aK _ | (split <;> exact aK _) | (rw [bI (hgr _) (hgr _) (by omega)]; exact bf (hgr _)) | (dsimp only; omega))))) (vA (fun (g1 : ((v.i.op == 20) || (v.i.op == 21)) = true) => (ql 2 0 (vI (ht v.i.b.toNat) (by (try simp only [BS] at g1); (first | omega | exact hgr _ | exact hga _ | exact aZ wf.rows _ | exact bH | exact aK _ | (split <;> exact aK _) | (rw [bI (hgr _) (hgr _) (by omega)]; exact bf (hgr _)) | (dsimp only; omega)))) rfl rfl)) trivial))))) rfl fun _ => ?_
              refine aj 0 0 (v := (((v.i.op == 20) || (v.i.op == 21)) && ((r.getD v.i.b.toNat 0) == 0))) rfl rfl rfl rfl (fun fi => ?_) (fun fi => ?_)
              ·
               try simp only [BS] at fi
               refine ab ?_
               refine wm (.pointer (some ⟨b, 0, none⟩)) rfl rfl rfl ?_
               refine aC (aw rfl rfl rfl) rfl rfl (jr ex (2) (1) (HS.callOwn z (i := 0) rfl)) ?_
               rintro _ nW ⟨b5, rfl⟩
               replace b5 := HS.backOwn z (i := 0) rfl rfl (fun _ hb => hb) b5
               have b5 : HS _ _ _ [[(b, .cells [(.slice la P.length lk), (.slice ca hd.length ck), (iI s.fuel), (iI s.most), (.slice oa s.out.length ok), (iI 2), (iI 1), (.slice none 0 0), (iI 0), (.bool true), (.bool s.long)] none false)], pc, pr, po, pg, J, O] _ := b5
               refine ai 1 rfl ?_
               exact am ⟨.inl rfl, _, rfl, rfl, DoP.mk (L := [J, O]) (by unfold doC; (repeat (first | rw [if_pos (by omega)] | rw [if_neg (by omega)] | (unfold doV; dsimp only [rg, ist]) | (unfold iy; dsimp only [rg, ist]))); first | done | rfl | (unfold ru; first | rw [if_pos (by omega)] | rw [if_neg (by omega)]) | rw [← bI (hgr _) (hgr _) (by omega)]) b5 fR T Z U hr⟩
              ·
               try simp only [BS] at fi
               refine aG rfl ?_
               refine fm (.slice ra r.length rk) rfl rfl rfl ?_
               refine wfv (v := (.pointer (some ⟨A, 1, none⟩))) (aR rfl rfl) ?_
               refine au (v := (iI v.i.a)) (id := .l A) (aA (i := 1) rfl rfl (HS.hc z.log0 (i := 6) rfl) rfl rfl) rfl rfl (aL rfl) (kb rfl) ?_
               refine wfv (v := (.pointer (some ⟨A, 0, none⟩))) (aR rfl rfl) ?_
               refine au (v := (iI v.i.op)) (id := .l A) (aA (i := 0) rfl rfl (HS.hc z.log0 (i := 6) rfl) rfl rfl) rfl rfl (aL rfl) (kb rfl) ?_
               refine fm (.slice ra r.length rk) rfl rfl rfl ?_
               refine wfv (v := (.pointer (some ⟨A, 1, none⟩))) (aR rfl rfl) ?_
               refine au (v := (iI v.i.a)) (id := .l A) (aA (i := 1) rfl rfl (HS.hc z.log0 (i := 6) rfl) rfl rfl) rfl rfl (aL rfl) (kb rfl) ?_
               refine wfv (v := (.pointer (some ⟨sB (.slice ra r.length rk), sO (.slice ra r.length rk) + v.i.a.toNat * Rp.sz Int, none⟩))) (bd (α := Int) (j := v.i.a) rfl rfl rfl rfl (OS.sv hr z.log0 (i := 4) rfl) (by omega) (by omega)) ?_
               obtain ⟨nu, lm, kk⟩ := Sv.at (OS.sv hr z.log0 (i := 4) rfl) (aI (x := (0 : Int)) (show v.i.a.toNat < r.length from by first | omega | exact hgr _ | exact hga _ | exact aZ wf.rows _ | exact bH | exact aK _ | (split <;> exact aK _) | (rw [bI (hgr _) (hgr _) (by omega)]; exact bf (hgr _)) | (dsimp only; omega)))
               obtain ⟨rfl, mP⟩ := lm
               refine au (v := (iI (r.getD v.i.a.toNat 0))) (id := .l (sB (.slice ra r.length rk))) (aA (i := 0) rfl rfl kk rfl rfl) rfl rfl (aL rfl) (kb rfl) ?_
               refine fm (.slice ra r.length rk) rfl rfl rfl ?_
               refine wfv (v := (.pointer (some ⟨A, 2, none⟩))) (aR rfl rfl) ?_
               refine au (v := (iI v.i.b)) (id := .l A) (aA (i := 2) rfl rfl (HS.hc z.log0 (i := 6) rfl) rfl rfl) rfl rfl (aL rfl) (kb rfl) ?_
               refine wfv (v := (.pointer (some ⟨sB (.slice ra r.length rk), sO (.slice ra r.length rk) + v.i.b.toNat * Rp.sz Int, none⟩))) (bd (α := Int) (j := v.i.b) rfl rfl rfl rfl (OS.sv hr z.log0 (i := 4) rfl) (by omega) (by omega)) ?_
               obtain ⟨nv, ln, kl⟩ := Sv.at (OS.sv hr z.log0 (i := 4) rfl) (aI (x := (0 : Int)) (show v.i.b.toNat < r.length from by first | omega | exact hgr _ | exact hga _ | exact aZ wf.rows _ | exact bH | exact aK _ | (split <;> exact aK _) | (rw [bI (hgr _) (hgr _) (by omega)]; exact bf (hgr _)) | (dsimp only; omega)))
               obtain ⟨rfl, mQ⟩ := ln
               refine au (v := (iI (r.getD v.i.b.toNat 0))) (id := .l (sB (.slice ra r.length rk))) (aA (i := 0) rfl rfl kl rfl rfl) rfl rfl (aL rfl) (kb rfl) ?_
               refine bg (W := []) (aw rfl rfl rfl) rfl rfl rfl (jw.rbin_c ex v.i.op (r.getD v.i.a.toNat 0) (r.getD v.i.b.toNat 0) _ (by omega)) (⟨.inl rfl, ⟨.inl rfl, ⟨.inl rfl, ⟨.inl rfl, ⟨.inl rfl, ⟨.inl rfl, ⟨.inl rfl, ⟨.inl rfl, ⟨.inl rfl, ⟨.inl rfl, ⟨.inl rfl, ⟨.inl rfl, ⟨.inr List.not_mem_nil, ⟨.inr trivial, ⟨.inr trivial, trivial⟩⟩⟩⟩⟩⟩⟩⟩⟩⟩⟩⟩⟩⟩⟩) ?_
               rintro _ _ ⟨ow, rfl, rfl, rfl⟩
               refine ⟨fun b hb => absurd hb List.not_mem_nil, fun lx hV => ?_⟩
               have c4 := HS.lg z.log0 z hV
               generalize ({ { H6 with log := [] } with log := lx } : Heap) = ne at c4 ⊢
               refine wfv (v := (.pointer (some ⟨sB (.slice ra r.length rk), sO (.slice ra r.length rk) + v.i.a.toNat * Rp.sz Int, none⟩))) (bd (α := Int) (j := v.i.a) rfl rfl rfl rfl (OS.sv hr c4.log0 (i := 4) rfl) (by omega) (by omega)) ?_
               refine ed (id := .x (pg.map Prod.fst)) (de (α := Int) (j := v.i.a.toNat) (off := 0) (q := 4) (rbV v.i.op (r.getD v.i.a.toNat 0) (r.getD v.i.b.toNat 0)) hr c4.log0 rfl rfl rfl rfl rfl rfl rfl rfl (aI (x := (0 : Int)) (by first | omega | exact hgr _ | exact hga _ | exact aZ wf.rows _ | exact bH | exact aK _ | (split <;> exact aK _) | (rw [bI (hgr _) (hgr _) (by omega)]; exact bf (hgr _)) | (dsimp only; omega))) rfl (by rintro cs ⟨rfl, _⟩; exact ⟨Nat.le_of_ble_eq_true rfl, rfl, by first | omega | exact hgr _ | exact hga _ | exact aZ wf.rows _ | exact bH | exact aK _ | (split <;> exact aK _) | (rw [bI (hgr _) (hgr _) (by omega)]; exact bf (hgr _)) | (dsimp only; omega)⟩)) rfl (by rintro _ _ ii ⟨dv, _, hwr⟩; exact cE rfl rfl (Wr.did hwr)) (kb rfl) ?_
               rintro _ lQ ii ⟨dv, bl, _⟩ ly hW
               replace bl := HS.lg bl c4 hW
               generalize ({ lQ with log := ly } : Heap) = ng at bl ⊢
               have bl : HS _ _ _ [_, _, _, _, ii, _, _] _ := bl
               have mV := OS.len' dv
               refine bw ?_
               refine ao 1 rfl ?_
               exact am ⟨.inl rfl, _, rfl, rfl, DoP.mk (L := [J, O]) (by unfold doC; (repeat (first | rw [if_pos (by omega)] | rw [if_neg (by omega)] | (unfold doV; dsimp only [rg, ist]) | (unfold iy; dsimp only [rg, ist]))); first | done | rfl | (unfold ru; first | rw [if_pos (by omega)] | rw [if_neg (by omega)]) | rw [← bI (hgr _) (hgr _) (by omega)]) bl fR T Z U dv⟩
end Go.Proofs.YtlabedbmgmfbaaaDoor.jc
