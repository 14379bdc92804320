/-
 The reference interpreter: an instruction, by symbolic runs. No condition but bounds on lengths.
-/
import Derived.Test.YtlabedbmgmfbaaaDoorZVJA
import Derived.Test.YtlabedbmgmfbaaaDoorZVJW
import Derived.Test.YtlabedbmgmfbaaaDoorZVIC
noncomputable section
namespace Go.Proofs.YtlabedbmgmfbaaaDoor.jc
open Go.R
set_option maxRecDepth 10000
set_option linter.unusedVariables false
open m1 m2 m3 m4 m5 m6 m7 m8 iw ia ib ic ja jw
theorem iT {b v : Bool} (h : (!b) = v) : b = !v := by cases b <;> cases v <;> simp_all
theorem nin2 {b z : Nat} {o : AObj} {q : Fp} (A : b ∉ ([(z, o)] : Fp).map Prod.fst) (E : b ∉ q.map Prod.fst) : b ∉ z :: q.map Prod.fst := by
 intro h
 rcases List.mem_cons.1 h with h | h
 ·
  exact A (by simp [h])
 ·
  exact E h
theorem kF {f : Int → Int} {l ag : List Int} {j : Nat} (h : ag = (l.take j).map f) (hj : j < l.length) : ag ++ [f (l.getD j 0)] = (l.take (j + 1)).map f := by
 rw [h, List.take_add_one, List.map_append, List.getD_eq_getElem?_getD, List.getElem?_eq_getElem hj]; rfl
theorem map_all {f : Int → Int} {l ag : List Int} {j : Nat} (h : ag = (l.take j).map f) (hj : l.length ≤ j) : ag = l.map f := by rw [h, List.take_of_length_le hj]
def CallSpec (ex : FuncId) (P : List VFnT) (nc N n : Nat) : Prop := ∀ {F : Fz} {H : Heap} {R : List Fp} {b : Nat} {la : Option Addr} {lk : Nat} {ca : Option Addr} {cn ck : Nat} {oa : Option Addr} {on ok : Nat} {q : Fp} {aa : Option Addr} {ak : Nat} (s : IntS) (f : Int) (args : List Int), HS (.of H (b :: q.map Prod.fst)) F H [[(b, .cells [.slice la P.length lk, .slice ca cn ck, .int .i64 s.fuel, .int .i64 s.most, .slice oa on ok, .int .i64 s.kind, .int .i64 s.code, .slice none 0 0, .int .i64 0, .bool s.over, .bool s.long] none false)], q] R → IntQ F s ca cn ck oa on ok q → SR F (.slice la P.length lk) P → SR F (.slice aa args.length ak) args → (0 ≤ f ∧ f < (P.length : Int) ∧ (P.getD f.toNat default).params = (args.length : Int)) → IntOK nc s N → s.most.toNat < n → s.over = false → s.long = false →
 C Tryd.prog 1 (KT 60 ex 37 tabC) 66 [.pointer (some ⟨b, 0, none⟩), .int .i64 f, .slice aa args.length ak] H fun v H' => v = .int .i64 (cb P s f args).2 ∧ in64 (cb P s f args).2 ∧ IntP (.of H (b :: q.map Prod.fst)) F R P la lk b (cb P s f args).1 H'
theorem jy (ex : FuncId) {F : Fz} {H : Heap} {R : List Fp} {b : Nat} {I c1 c2 J O T U V Z c9 z : Value} (k c : Int) (hs : HS (.of H [b]) F H [[(b, .cells [I, c1, c2, J, O, T, U, V, Z, c9, z] none false)]] R) : C Tryd.prog 1 (KT 60 ex 37 tabC) 81 [.pointer (some ⟨b, 0, none⟩), .int .i64 k, .int .i64 c] H fun v H' => HS (.of H [b]) F H' [[(b, .cells [I, c1, c2, J, O, .int .i64 k, .int .i64 c, .slice none 0 0, .int .i64 0, .bool true, z] none false)]] R ∧ v = .tuple #[] := by
 refine aL Tryd.func81 rfl rfl ?_
 refine ae ?_
 refine wRo 7 0 [] 6 12 [] [(7, (.pointer (some ⟨b, 0, none⟩))), (10, (.agg ⟨[(iI k), (iI c), (.slice none 0 0), (iI 0)]⟩)), (12, (.pointer (some ⟨b, 9, none⟩)))] trivial rfl fun _ => ?_
 refine aP (aA (q := 0) hs rfl rfl rfl rfl rfl rfl rfl rfl rfl) rfl ?_
 rintro _ H2 _ ⟨A, _⟩
 have A : HS _ _ _ [[(b, .cells [I, c1, c2, J, O, T, U, V, Z, (.bool true), z] none false)]] _ := A
 refine wRo 2 8 [] 13 14 [] [(14, (.pointer (some ⟨b, 5, none⟩)))] trivial rfl fun _ => ?_
 refine aP (aA (q := 0) A rfl rfl rfl rfl rfl rfl rfl rfl rfl) rfl ?_
 rintro _ H4 _ ⟨E, _⟩
 have E : HS _ _ _ [[(b, .cells [I, c1, c2, J, O, (iI k), (iI c), (.slice none 0 0), (iI 0), (.bool true), z] none false)]] _ := E
 refine ao 0 rfl ?_
 exact au ⟨.inl rfl, _, rfl, E, rfl⟩
theorem istep_c (ex : FuncId) {F : Fz} {H : Heap} {R : List Fp} {b : Nat} {E c1 c2 I J O T U V : Value} (m : Int) (lg : Bool) (hs : HS (.of H [b]) F H [[(b, .cells [E, c1, c2, .int .i64 m, I, J, O, T, U, V, .bool lg] none false)]] R) (hm : m ≤ 1000000) : C Tryd.prog 1 (KT 60 ex 37 tabC) 79 [.pointer (some ⟨b, 0, none⟩)] H fun v H' => ∃ (bv : Bool) (m' : Int) (lg' : Bool), HS (.of H [b]) F H' [[(b, .cells [E, c1, c2, .int .i64 m', I, J, O, T, U, V, .bool lg'] none false)]] R ∧ v = .bool bv ∧ ((bv = true ∧ 0 < m ∧ m' = m - 1 ∧ lg' = lg) ∨ (bv = false ∧ m ≤ 0 ∧ m' = m ∧ lg' = true)) := by
 refine aL Tryd.func79 rfl rfl ?_
 refine aw 1 rfl ?_
 refine wR 3 [] 2 2 [] [(2, (.bool false))] trivial rfl fun _ => ?_
 refine wR 1 [(3, .o (iI m))] 3 7 [] [(7, (.bool (decide (m ≤ 0))))] (vA (ql 3 3 (HS.hc hs (i := 0) rfl) rfl rfl) trivial) rfl fun _ => ?_
 refine am 1 2 (v := (decide (m ≤ 0))) rfl rfl rfl rfl (fun Z => ?_) (fun Z => ?_)
 ·
  try simp only [BS] at Z
  refine ae ?_
  refine wRo 3 0 [] 8 10 [] [(10, (.pointer (some ⟨b, 10, none⟩)))] trivial rfl fun _ => ?_
  refine aP (aA (q := 0) hs rfl rfl rfl rfl rfl rfl rfl rfl rfl) rfl ?_
  rintro _ H5 _ ⟨z, _⟩
  have z : HS _ _ _ [[(b, .cells [E, c1, c2, (iI m), I, J, O, T, U, V, (.bool true)] none false)]] _ := z
  refine ao 2 rfl ?_
  refine wR 1 [] 2 2 [] [(2, (.bool false))] trivial rfl fun _ => ?_
  exact aj ⟨.inr rfl, _, rfl, _, _, _, z, rfl, .inr ⟨rfl, by omega, rfl, rfl⟩⟩
 ·
  try simp only [BS] at Z
  refine ae ?_
  refine wRo 7 0 [(3, .o (iI m))] 11 17 [] [(15, (iI (m - 1))), (17, (.pointer (some ⟨b, 3, none⟩)))] (vA (ql 3 3 (HS.hc hs (i := 0) rfl) rfl rfl) (vA (vi (n := m - 1) (by omega)) trivial)) rfl fun _ => ?_
  refine aP (aA (q := 0) hs rfl rfl rfl rfl rfl rfl rfl rfl rfl) rfl ?_
  rintro _ H8 _ ⟨A, _⟩
  have A : HS _ _ _ [[(b, .cells [E, c1, c2, (iI (m - 1)), I, J, O, T, U, V, (.bool lg)] none false)]] _ := A
  refine ao 2 rfl ?_
  refine wR 1 [] 2 2 [] [(2, (.bool true))] trivial rfl fun _ => ?_
  exact aj ⟨.inr rfl, _, rfl, _, _, _, A, rfl, .inl ⟨rfl, by omega, rfl, rfl⟩⟩
set_option maxHeartbeats 4000000 in
theorem do_c (ex : FuncId) {F : Fz} {H : Heap} {R : List Fp} {b : Nat} {la : Option Addr} {lk : Nat} {ca : Option Addr} {cn ck : Nat} {oa : Option Addr} {on ok : Nat} {q pg : Fp} {ra : Option Addr} {rn rk : Nat} {aa : Option Addr} {ak : Nat} {va : Option Addr} {vk : Nat} {P : List VFnT} {nc N n : Nat} {c : VFnT} (s : IntS) (r args : List Int) (v : VInT) (hs : HS (.of H (b :: (q ++ pg).map Prod.fst)) F H [[(b, .cells [.slice la P.length lk, .slice ca cn ck, .int .i64 s.fuel, .int .i64 s.most, .slice oa on ok, .int .i64 s.kind, .int .i64 s.code, .slice none 0 0, .int .i64 0, .bool s.over, .bool s.long] none false)], q, pg] R) (hq : IntQ F s ca cn ck oa on ok q) (hr : OS F (.slice ra rn rk) r pg) (hP : SR F (.slice la P.length lk) P) (ha : SR F (.slice aa args.length ak) args) (hva : SR F (.slice va v.args.length vk) v.args) (hvi : in64 v.i.op ∧ in64 v.i.a ∧ in64 v.i.b ∧ in64 v.i.c ∧ in64 v.i.n) (hp : PrF P nc) (hI : InF P nc c v) (hR : InR c v) (hrl : (r.length : Int) = c.regs) (hal : (args.length : Int) = c.params) (wf : IntOK nc s N) (hN : N ≤ 1000000) (ih : CallSpec ex P nc N n) (hmn : s.most.toNat < n) (hso : s.over = false) (hsl : s.long = false) (hcnt : s.out.length + 1 ≤ N) : C Tryd.prog 1 (KT 60 ex 37 tabC) 80 [.pointer (some ⟨b, 0, none⟩), .agg ⟨[.int .i64 v.i.op, .int .i64 v.i.a, .int .i64 v.i.b, .int .i64 v.i.c, .int .i64 v.i.n, .slice va v.args.length vk]⟩, .slice ra rn rk, .slice aa args.length ak] H fun v' H' => v' = .tuple #[] ∧ DoP (.of H (b :: (q ++ pg).map Prod.fst)) F R P la lk b ra rn rk (doC P s r args v) H' := by
 obtain rfl := OS.nlen hr
 obtain ⟨hd, pc, pr, po, hsO, T, Z, U⟩ := IntQ.open (L := [pg]) hq hs
 obtain rfl := OS.nlen T; obtain rfl := OS.nlen U
 obtain ⟨oT, oU, oW, oX, oY⟩ := hvi
 have hgr : ∀ n : Int, in64 (r.getD n.toNat 0) := fun n => sv_in (OS.sv hr hsO (i := 4) rfl) n
 have hcl := wf.cells; have hfu := wf.fuel; have hmo := wf.most; have hct := wf.cnt; have oO := FAM.len Z; have hga := sv_in (SR.sv ha hsO)
 have hia := hI.a; have hib := hI.b; have hic := hI.cc; have hiA := hI.args; have hiM := hI.mem; have hiP := hI.par; have hiC := hI.call; have hiL := hI.al; have hra := hR.a; have hrb := hR.b; have hrc := hR.cc; have hrg := hR.arg
 clear hs hq
 refine aL Tryd.func80 rfl rfl ?_
 refine aw 1 rfl ?_
 refine ae ?_
 refine bd (cz hsO rfl rfl) rfl rfl ?_
 rintro _ H2 _ ⟨b1, rfl, hn, _⟩
 let iv : Fp := [(b, .cells [(.slice la P.length lk), (.slice ca hd.length ck), (iI s.fuel), (iI s.most), (.slice oa s.out.length ok), (iI s.kind), (iI s.code), (.slice none 0 0), (iI 0), (.bool s.over), (.bool s.long)] none false)]
 let J : Fp := [(b1, .cells [(iI v.i.op), (iI v.i.a), (iI v.i.b), (iI v.i.c), (iI v.i.n), (.slice va v.args.length vk)] none false)]
 have hn : HS _ _ _ [iv, pc, pr, po, pg, J] _ := hn
 refine ao 2 rfl ?_
 refine ae ?_
 let c7 : Value := (.agg ⟨[(iI v.i.op), (iI v.i.a), (iI v.i.b), (iI v.i.c), (iI v.i.n)]⟩)
 refine wRo 2 0 [(1, .o c7)] 11 12 [] [(12, c7)] (vA (qn 45 0 5 (HS.hc hn (i := 5) rfl) rfl rfl rfl rfl) trivial) rfl fun _ => ?_
 refine bd (bK hn rfl) rfl rfl ?_
 rintro _ H5 _ ⟨A, rfl, hY, _⟩
 have hY : HS _ _ _ [_, _, _, _, _, _, [(A, .cells [(iI 0), (iI 0), (iI 0), (iI 0), (iI 0)] none false)]] _ := hY
 refine aP (aA (q := 6) hY rfl rfl rfl rfl rfl rfl rfl rfl rfl) rfl ?_
 rintro _ H6 _ ⟨z, _⟩
 let O : Fp := [(A, .cells [(iI v.i.op), (iI v.i.a), (iI v.i.b), (iI v.i.c), (iI v.i.n)] none false)]
 have z : HS _ _ _ [_, _, _, _, _, _, O] _ := z
 refine ao 2 rfl ?_
 refine wR 3 [(1, .o (iI v.i.op))] 13 14 [] [(14, (iI v.i.op))] (vA (ql 3 0 (HS.hc z (i := 6) rfl) rfl rfl) trivial) rfl fun _ => ?_
 refine wR 1 [] 50 51 [] [(50, (.bool (v.i.op == 3)))] trivial rfl fun _ => ?_
 refine am 1 1 (v := (v.i.op == 3)) rfl rfl rfl rfl (fun c9 => ?_) (fun c9 => ?_)
 ·
  try simp only [BS] at c9
  refine wR 1 [(3, .o (iI s.fuel))] 52 56 [] [(56, (.bool (s.fuel == 0)))] (vA (ql 3 2 (HS.hc z (i := 0) rfl) rfl rfl) trivial) rfl fun _ => ?_
  refine am 0 0 (v := (s.fuel == 0)) rfl rfl rfl rfl (fun ht => ?_) (fun ht => ?_)
  ·
   try simp only [BS] at ht
   refine ae ?_
   refine wm (.pointer (some ⟨b, 0, none⟩)) rfl rfl rfl ?_
   refine aF (ax rfl rfl rfl) rfl rfl (jy ex (3) (0) (HS.callOwn z (i := 0) rfl)) ?_
   rintro _ oF ⟨c6, rfl⟩
   replace c6 := HS.backOwn z (i := 0) rfl rfl (fun _ hb => hb) c6
   have c6 : HS _ _ _ [[(b, .cells [(.slice la P.length lk), (.slice ca hd.length ck), (iI s.fuel), (iI s.most), (.slice oa s.out.length ok), (iI 3), (iI 0), (.slice none 0 0), (iI 0), (.bool true), (.bool s.long)] none false)], pc, pr, po, pg, J, O] _ := c6
   refine ao 1 rfl ?_
   exact au ⟨.inl rfl, _, rfl, rfl, DoP.mk (L := [J, O]) (by unfold doC; (repeat (first | rw [if_pos (by omega)] | rw [if_neg (by omega)] | (unfold doV; dsimp only [rg, ist]) | (unfold iD; dsimp only [rg, ist]))); first | done | rfl | (unfold ru; first | rw [if_pos (by omega)] | rw [if_neg (by omega)]) | rw [← bL (hgr _) (hgr _) (by omega)]) c6 fR T Z U hr⟩
  ·
   try simp only [BS] at ht
   refine ae ?_
   refine wRo 7 0 [(3, .o (iI s.fuel))] 59 65 [] [(63, (iI (s.fuel - 1))), (65, (.pointer (some ⟨b, 2, none⟩)))] (vA (ql 3 2 (HS.hc z (i := 0) rfl) rfl rfl) (vA (vi (n := s.fuel - 1) (by omega)) trivial)) rfl fun _ => ?_
   refine aP (aA (q := 0) z rfl rfl rfl rfl rfl rfl rfl rfl rfl) rfl ?_
   rintro _ oG _ ⟨g3, _⟩
   have g3 : HS _ _ _ [[(b, .cells [(.slice la P.length lk), (.slice ca hd.length ck), (iI (s.fuel - 1)), (iI s.most), (.slice oa s.out.length ok), (iI s.kind), (iI s.code), (.slice none 0 0), (iI 0), (.bool s.over), (.bool s.long)] none false)], _, _, _, _, _, _] _ := g3
   refine ao 1 rfl ?_
   exact au ⟨.inl rfl, _, rfl, rfl, DoP.mk (L := [J, O]) (by unfold doC; (repeat (first | rw [if_pos (by omega)] | rw [if_neg (by omega)] | (unfold doV; dsimp only [rg, ist]) | (unfold iD; dsimp only [rg, ist]))); first | done | rfl | (unfold ru; first | rw [if_pos (by omega)] | rw [if_neg (by omega)]) | rw [← bL (hgr _) (hgr _) (by omega)]) g3 fR T Z U hr⟩
 ·
  try simp only [BS] at c9
  refine wR 1 [] 66 67 [] [(66, (.bool (v.i.op == 6)))] trivial rfl fun _ => ?_
  refine am 1 1 (v := (v.i.op == 6)) rfl rfl rfl rfl (fun hu => ?_) (fun hu => ?_)
  ·
   try simp only [BS] at hu
   refine wR 3 [] 1 0 [9] [(9, (.slice none 0 0))] trivial rfl fun _ => ?_
   refine wR 2 [] 1 0 [10] [(10, (iI 0))] trivial rfl fun _ => ?_
   have g4 := HS.snoc z
   have g4 : HS _ _ _ [_, _, _, _, _, _, _, []] _ := g4
   refine aG (fun (mm : Nat) f H' => ∃ (ag : List Int) (j : Nat) (a3 : Option Addr) (a4 : Nat) (b6 : Fp) (F' : Fz), Fz.le F F' ∧ HS (Base.of H (b :: (q ++ pg).map Prod.fst)) F' H' [iv, pc, pr, po, pg, J, O, b6] R ∧ OS F' (.slice a3 ag.length a4) ag b6 ∧ aZ f [(0, (.pointer (some ⟨b, 0, none⟩))), (2, (.slice ra r.length rk)), (5, (.pointer (some ⟨b1, 0, none⟩))), (8, (.pointer (some ⟨A, 0, none⟩))), (9, (.slice a3 ag.length a4)), (10, (iI (j : Int)))] ∧ mm = v.args.length - j ∧ (ag = (v.args.take j).map (rg r)) ∧ (j ≤ v.args.length)) _ ⟨([] : List Int), 0, none, 0, [], _, fR, g4, (OS.nil : OS F (.slice none 0 0) ([] : List Int) []), (agC rfl (agC rfl (agC rfl (agC rfl (agC rfl (agC rfl agN)))))), rfl, (by rfl), (by omega)⟩ ?_
   rintro oB oN oH ⟨ag, j, a3, a4, b6, oD, a1, ad, e2, hH, rfl, e, hj⟩ ml
   refine aN _ hH (fun _ => ?_)
   clear hH
   replace hP := hP.mono a1
   replace hr := hr.mono a1
   replace hva := hva.mono a1
   replace T := T.mono a1
   replace U := U.mono a1
   replace Z := SF.mono a1 Z
   have hag : ag.length ≤ 6 := by rw [e, List.length_map, List.length_take]; omega
   have hgj := hrg j
   refine aw 2 rfl ?_
   refine wR 1 [(2, .o (.slice va v.args.length vk))] 68 72 [] [(72, (.bool (decide ((j : Int) < (v.args.length : Int)))))] (vA (ql 25 5 (HS.hc ad (i := 5) rfl) rfl rfl) trivial) rfl fun _ => ?_
   refine am 3 4 (v := (decide ((j : Int) < (v.args.length : Int)))) rfl rfl rfl rfl (fun hv => ?_) (fun hv => ?_)
   ·
    try simp only [BS] at hv
    refine ae ?_
    obtain ⟨oi, h1⟩ := Sv.view (SR.sv hva ad)
    have oP := fI (h1 j)
    obtain ⟨oj, h2⟩ := Sv.view (OS.sv hr ad (i := 4) rfl)
    have oQ := fI (h2 (v.args.getD j 0).toNat)
    refine wRo 9 0 [(3, .o (.slice va v.args.length vk)), (6, .o (iI (v.args.getD j 0))), (8, .o (iI (r.getD (v.args.getD j 0).toNat 0)))] 75 83 [] [(75, (.slice a3 ag.length a4)), (83, (iI (r.getD (v.args.getD j 0).toNat 0)))] (vA (ql 25 5 (HS.hc ad (i := 5) rfl) rfl rfl) (vA (Sv.ix (j := (j : Int)) (SR.sv hva ad) (by omega) (by omega)) (vA (ql 3 0 (vI (h1 j) (by omega)) rfl rfl) (vA (Sv.ix (j := (v.args.getD j 0)) (OS.sv hr ad (i := 4) rfl) (by omega) (by omega)) (vA (ql 2 0 (vI (h2 (v.args.getD j 0).toNat) (by omega)) rfl rfl) trivial))))) rfl fun _ => ?_
    refine bd (cN (α := Int) (ps := [(0, (iI (r.getD (v.args.getD j 0).toNat 0)))]) (cells := [(iI (r.getD (v.args.getD j 0).toNat 0))]) ([(r.getD (v.args.getD j 0).toNat 0)] : List Int) ad rfl rfl rfl (by kernel_rfl) ⟨[(iI (r.getD (v.args.getD j 0).toNat 0))], [], rfl, ⟨rfl, by omega⟩, rfl⟩ rfl) rfl rfl ?_
    rintro _ oI ne ⟨oL, oZ, rfl, l9, ec, _⟩
    have ec : HS _ _ _ [_, _, _, _, _, _, _, b6, ne] _ := ec
    refine bd (ev (α := Int) (q := 7) e2 ec rfl rfl rfl (OS.sv l9 ec (i := 8) rfl) rfl rfl rfl rfl rfl rfl rfl (by first | omega | (simp only [List.length_cons, List.length_nil]; omega))) rfl rfl ?_
    rintro _ oJ lK ⟨lG, lI, rfl, ma, g5, _⟩
    have g5 : HS _ _ _ [_, _, _, _, _, _, _, lK, _] _ := g5
    refine wa (.slice lG (ag ++ ([(r.getD (v.args.getD j 0).toNat 0)] : List Int)).length lI) rfl rfl rfl ?_
    refine ao 2 rfl ?_
    refine wR 1 [] 73 74 [10] [(10, (iI ((j : Int) + 1)))] (vA (vi (n := (j : Int) + 1) (by omega)) trivial) rfl fun _ => ?_
    refine ml _ _ _ ?_ ⟨ag ++ ([(r.getD (v.args.getD j 0).toNat 0)] : List Int), j + 1, lG, lI, lK, _, (a1), (HS.sub g5 (List.sublist_append_left _ _)), ma, (agC rfl (agC rfl (agC rfl (agC rfl (agC rfl (agC rfl agN)))))), rfl, (by exact kF e (by omega)), (by omega)⟩
    omega
   ·
    try simp only [BS] at hv
    refine aI rfl ?_
    refine fm (.slice ra r.length rk) rfl rfl rfl ?_
    refine ab (v := (.pointer (some ⟨A, 1, none⟩))) (id := .v) (aU rfl rfl) rfl rfl (az rfl) (ay _) ?_
    refine ab (v := (iI v.i.a)) (id := .l A) (aD (i := 1) rfl rfl (HS.hc ad.log0 (i := 6) rfl) rfl rfl) rfl rfl (aO rfl) (⟨.inl rfl, ⟨.inr trivial, trivial⟩⟩) ?_
    refine fm (.pointer (some ⟨b, 0, none⟩)) rfl rfl rfl ?_
    refine ab (v := (.pointer (some ⟨A, 4, none⟩))) (id := .v) (aU rfl rfl) rfl rfl (az rfl) (ay _) ?_
    refine ab (v := (iI v.i.n)) (id := .l A) (aD (i := 4) rfl rfl (HS.hc ad.log0 (i := 6) rfl) rfl rfl) rfl rfl (aO rfl) (⟨.inl rfl, ⟨.inr trivial, ⟨.inr trivial, ⟨.inr trivial, ⟨.inr trivial, trivial⟩⟩⟩⟩⟩) ?_
    refine fm (.slice a3 ag.length a4) rfl rfl rfl ?_
    obtain ⟨mE, b7, g6, md, oA⟩ := OS.frz e2 ad (i := 7) rfl
    have g6 : HS _ _ _ [_, _, _, _, _, _, _, _] _ := g6
    replace hP := hP.mono b7
    replace T := T.mono b7
    replace U := U.mono b7
    replace Z := SF.mono b7 Z
    have hmap := map_all e (by omega)
    obtain ⟨ik, av, dv⟩ := IntQ.close (s := s) (L := [pg, J, O, []]) g6 T Z U
    have av : HS _ _ _ [iv, ik, pg, J, O, []] _ := av
    replace dv : IntQ mE s _ _ _ _ _ _ _ := dv
    skip
    refine bm (W := (b :: ik.map Prod.fst)) (ax rfl rfl rfl) rfl rfl rfl (by rw [hmap]; exact (ih s v.i.n (v.args.map (rg r)) (HS.call2 av.log0 (i := 0) (j := 1) (by decide) rfl rfl) dv hP (by rw [← hmap]; exact md) ⟨(hiC (by omega)).1, (hiC (by omega)).2.1, by rw [List.length_map]; exact (hiC (by omega)).2.2⟩ wf hmn hso hsl)) (⟨.inl rfl, ⟨.inl rfl, ⟨.inl rfl, ⟨.inl rfl, ⟨.inr (nin2 (HS.nin av (i := 4) (j := 0) rfl rfl (by decide) (List.Mem.head _)) (HS.nin av (i := 4) (j := 1) rfl rfl (by decide) (List.Mem.head _))), ⟨.inr trivial, ⟨.inr trivial, trivial⟩⟩⟩⟩⟩⟩⟩) ?_
    rintro _ mF ⟨rfl, nT, oE, l0, l2, l1, mA, mC, mB, mD, hG, V, mc⟩
    refine ⟨HS.didW V, fun mn kr => ?_⟩
    replace V := HS.back2 av.log0 (i := 0) (j := 1) (by decide) rfl rfl rfl (fun _ hb => hb) V
    replace V := HS.lg V av kr
    generalize ({ mF with log := mn } : Heap) = n4 at V ⊢
    have V : HS _ _ _ [[(b, .cells [(.slice la P.length lk), (.slice l0 l2 l1), (iI ((cb P s v.i.n (v.args.map (rg r))).1.fuel)), (iI ((cb P s v.i.n (v.args.map (rg r))).1.most)), (.slice mA mC mB), (iI ((cb P s v.i.n (v.args.map (rg r))).1.kind)), (iI ((cb P s v.i.n (v.args.map (rg r))).1.code)), (.slice none 0 0), (iI 0), (.bool ((cb P s v.i.n (v.args.map (rg r))).1.over)), (.bool ((cb P s v.i.n (v.args.map (rg r))).1.long))] none false)], mD, pg, J, O, []] _ := V
    replace hr := (hr.mono b7).mono hG
    refine ab (v := (.pointer (some ⟨sB (.slice ra r.length rk), sO (.slice ra r.length rk) + v.i.a.toNat * Rp.sz Int, none⟩))) (id := .v) (bh (α := Int) (j := v.i.a) rfl rfl rfl rfl (OS.sv hr V.log0 (i := 2) rfl) (by omega) (by omega)) rfl rfl (az rfl) (ay _) ?_
    refine ed (id := .x (pg.map Prod.fst)) (gp (α := Int) (j := v.i.a.toNat) (off := 0) (q := 2) ((cb P s v.i.n (v.args.map (rg r))).2) hr V.log0 rfl rfl rfl rfl rfl rfl rfl rfl (aW (x := (0 : Int)) (by omega)) rfl (by rintro cs ⟨rfl, _⟩; exact ⟨Nat.le_of_ble_eq_true rfl, rfl, by omega⟩)) rfl (by rintro _ _ lL ⟨fi, _, hwr⟩; exact cE rfl rfl (Wr.did hwr)) (⟨.inl rfl, ⟨.inl rfl, ⟨.inl rfl, ⟨.inl rfl, ⟨.inl rfl, ⟨.inl rfl, ⟨.inl rfl, ⟨.inl rfl, ⟨.inl rfl, trivial⟩⟩⟩⟩⟩⟩⟩⟩⟩) ?_
    rintro _ mG lL ⟨fi, b9, _⟩ mo kt
    replace b9 := HS.lg b9 V kt
    generalize ({ mG with log := mo } : Heap) = n5 at b9 ⊢
    have b9 : HS _ _ _ [_, _, lL, _, _, _] _ := b9
    have nM := OS.len' fi
    refine bz ?_
    refine aw 1 rfl ?_
    have hfin : doC P s r args v = ((cb P s v.i.n (v.args.map (rg r))).1, r.set v.i.a.toNat ((cb P s v.i.n (v.args.map (rg r))).2)) := by unfold doC; rw [if_pos (by omega)]
    exact au ⟨.inl rfl, _, rfl, rfl, (by rw [hfin]; exact ⟨_, _, _, _, _, _, _, _, _, (fT (fT (a1) b7) hG), HS.sub b9 (List.sublist_append_left [_, _, _] _), mc, fi⟩)⟩
  ·
   try simp only [BS] at hu
   refine wR 1 [] 95 96 [] [(95, (.bool (v.i.op == 9)))] trivial rfl fun _ => ?_
   refine am 0 1 (v := (v.i.op == 9)) rfl rfl rfl rfl (fun hw => ?_) (fun hw => ?_)
   ·
    try simp only [BS] at hw
    refine aI rfl ?_
    refine fm (.pointer (some ⟨b, 0, none⟩)) rfl rfl rfl ?_
    refine fm (.pointer (some ⟨b, 0, none⟩)) rfl rfl rfl ?_
    refine ab (v := (.pointer (some ⟨b, 0, none⟩))) (id := .v) (bF rfl) rfl rfl (az rfl) (ay _) ?_
    refine ab (v := (.pointer (some ⟨b, 4, none⟩))) (id := .v) (aU rfl rfl) rfl rfl (az rfl) (ay _) ?_
    refine ab (v := (.slice oa s.out.length ok)) (id := .l b) (aD (i := 4) rfl rfl (HS.hc z.log0 (i := 0) rfl) rfl rfl) rfl rfl (aO rfl) (⟨.inl rfl, ⟨.inl rfl, ⟨.inl rfl, ⟨.inr trivial, trivial⟩⟩⟩⟩) ?_
    refine fm (.slice ra r.length rk) rfl rfl rfl ?_
    refine ab (v := (.pointer (some ⟨A, 1, none⟩))) (id := .v) (aU rfl rfl) rfl rfl (az rfl) (ay _) ?_
    refine ab (v := (iI v.i.a)) (id := .l A) (aD (i := 1) rfl rfl (HS.hc z.log0 (i := 6) rfl) rfl rfl) rfl rfl (aO rfl) (⟨.inl rfl, ⟨.inr trivial, ⟨.inr trivial, ⟨.inr trivial, ⟨.inr trivial, ⟨.inr trivial, ⟨.inr trivial, trivial⟩⟩⟩⟩⟩⟩⟩) ?_
    refine ab (v := (.pointer (some ⟨sB (.slice ra r.length rk), sO (.slice ra r.length rk) + v.i.a.toNat * Rp.sz Int, none⟩))) (id := .v) (bh (α := Int) (j := v.i.a) rfl rfl rfl rfl (OS.sv hr z.log0 (i := 4) rfl) (by omega) (by omega)) rfl rfl (az rfl) (ay _) ?_
    obtain ⟨oo, me, l3⟩ := Sv.at (OS.sv hr z.log0 (i := 4) rfl) (aW (x := (0 : Int)) (show v.i.a.toNat < r.length from by first | omega | exact hgr _ | exact hga _ | exact aK wf.rows _ | exact bD | exact aJ _ | (split <;> exact aJ _) | (rw [bL (hgr _) (hgr _) (by omega)]; exact bg (hgr _)) | (dsimp only; omega)))
    obtain ⟨rfl, nG⟩ := me
    refine ab (v := (iI (r.getD v.i.a.toNat 0))) (id := .l (sB (.slice ra r.length rk))) (aD (i := 0) rfl rfl l3 rfl rfl) rfl rfl (aO rfl) (⟨.inl rfl, ⟨.inl rfl, ⟨.inl rfl, ⟨.inl rfl, ⟨.inr trivial, ⟨.inr trivial, ⟨.inr trivial, ⟨.inr trivial, ⟨.inr trivial, trivial⟩⟩⟩⟩⟩⟩⟩⟩⟩) ?_
    refine dC (id := .a) (cN (α := Int) (ps := [(0, (iI (r.getD v.i.a.toNat 0)))]) (cells := [(iI (r.getD v.i.a.toNat 0))]) ([(r.getD v.i.a.toNat 0)] : List Int) z.log0 rfl rfl rfl (by kernel_rfl) ⟨[(iI (r.getD v.i.a.toNat 0))], [], rfl, ⟨rfl, by omega⟩, rfl⟩ rfl) rfl rfl (fun _ _ _ _ => gR rfl rfl rfl) (⟨.inl rfl, ⟨.inl rfl, ⟨.inl rfl, ⟨.inl rfl, ⟨.inl rfl, ⟨.inr trivial, ⟨.inr trivial, ⟨.inr trivial, ⟨.inr trivial, ⟨.inr trivial, trivial⟩⟩⟩⟩⟩⟩⟩⟩⟩⟩) ?_
    rintro _ mH lM ⟨oM, o0, rfl, mb, a2, _⟩ mp kv
    replace a2 := HS.lg a2 z kv
    generalize ({ mH with log := mp } : Heap) = n6 at a2 ⊢
    have a2 : HS _ _ _ [_, _, _, _, _, _, _, lM] _ := a2
    refine dC (id := .x (po.map Prod.fst)) (ev (α := Int) (q := 3) U a2.log0 rfl rfl rfl (OS.sv mb a2.log0 (i := 7) rfl) rfl rfl rfl rfl rfl rfl rfl (by first | omega | (simp only [List.length_cons, List.length_nil]; omega))) rfl rfl (by rintro _ _ lN ⟨lH, lJ, rfl, hW, _, hwr⟩; exact cE rfl rfl (Wr.did hwr)) (⟨.inl rfl, ⟨.inl rfl, ⟨.inl rfl, ⟨.inl rfl, ⟨.inl rfl, ⟨.inl rfl, ⟨.inl rfl, ⟨.inl rfl, ⟨.inl rfl, ⟨.inl rfl, ⟨.inr trivial, trivial⟩⟩⟩⟩⟩⟩⟩⟩⟩⟩⟩) ?_
    rintro _ mI lN ⟨lH, lJ, rfl, hW, b0, _⟩ mq k0
    replace b0 := HS.lg b0 a2 k0
    generalize ({ mI with log := mq } : Heap) = n7 at b0 ⊢
    have b0 : HS _ _ _ [_, _, _, lN, _, _, _, _] _ := b0
    refine ab (v := (.pointer (some ⟨b, 0, none⟩))) (id := .v) (bF rfl) rfl rfl (az rfl) (ay _) ?_
    refine ab (v := (.pointer (some ⟨b, 4, none⟩))) (id := .v) (aU rfl rfl) rfl rfl (az rfl) (ay _) ?_
    refine ed (id := .x [b]) (aA (q := 0) b0.log0 rfl rfl rfl rfl rfl rfl rfl rfl rfl) rfl (by rintro _ _ _ ⟨_, hwr⟩; exact cE rfl rfl (Wr.did hwr)) (⟨.inl rfl, ⟨.inl rfl, ⟨.inl rfl, ⟨.inl rfl, ⟨.inl rfl, ⟨.inl rfl, ⟨.inl rfl, ⟨.inl rfl, ⟨.inl rfl, ⟨.inl rfl, ⟨.inl rfl, ⟨.inl rfl, ⟨.inl rfl, ⟨.inl rfl, trivial⟩⟩⟩⟩⟩⟩⟩⟩⟩⟩⟩⟩⟩⟩) ?_
    rintro _ mJ _ ⟨cd, _⟩ mr k3
    replace cd := HS.lg cd b0 k3
    generalize ({ mJ with log := mr } : Heap) = n8 at cd ⊢
    have cd : HS _ _ _ [[(b, .cells [(.slice la P.length lk), (.slice ca hd.length ck), (iI s.fuel), (iI s.most), (.slice lH (s.out ++ ([(r.getD v.i.a.toNat 0)] : List Int)).length lJ), (iI s.kind), (iI s.code), (.slice none 0 0), (iI 0), (.bool s.over), (.bool s.long)] none false)], _, _, _, _, _, _, _] _ := cd
    refine bz ?_
    refine aw 1 rfl ?_
    exact au ⟨.inl rfl, _, rfl, rfl, DoP.mk (L := [J, O, lM]) (by unfold doC; (repeat (first | rw [if_pos (by omega)] | rw [if_neg (by omega)] | (unfold doV; dsimp only [rg, ist]) | (unfold iD; dsimp only [rg, ist]))); first | done | rfl | (unfold ru; first | rw [if_pos (by omega)] | rw [if_neg (by omega)]) | rw [← bL (hgr _) (hgr _) (by omega)]) cd fR T Z hW hr⟩
   ·
    try simp only [BS] at hw
    refine wR 1 [] 111 112 [] [(111, (.bool (v.i.op == 10)))] trivial rfl fun _ => ?_
    refine am 0 1 (v := (v.i.op == 10)) rfl rfl rfl rfl (fun hx => ?_) (fun hx => ?_)
    ·
     try simp only [BS] at hx
     refine aI rfl ?_
     refine fm (.slice ra r.length rk) rfl rfl rfl ?_
     refine ab (v := (.pointer (some ⟨A, 1, none⟩))) (id := .v) (aU rfl rfl) rfl rfl (az rfl) (ay _) ?_
     refine ab (v := (iI v.i.a)) (id := .l A) (aD (i := 1) rfl rfl (HS.hc z.log0 (i := 6) rfl) rfl rfl) rfl rfl (aO rfl) (⟨.inl rfl, ⟨.inr trivial, trivial⟩⟩) ?_
     refine fm (.slice ra r.length rk) rfl rfl rfl ?_
     refine ab (v := (.pointer (some ⟨A, 2, none⟩))) (id := .v) (aU rfl rfl) rfl rfl (az rfl) (ay _) ?_
     refine ab (v := (iI v.i.b)) (id := .l A) (aD (i := 2) rfl rfl (HS.hc z.log0 (i := 6) rfl) rfl rfl) rfl rfl (aO rfl) (⟨.inl rfl, ⟨.inr trivial, ⟨.inr trivial, ⟨.inr trivial, ⟨.inr trivial, trivial⟩⟩⟩⟩⟩) ?_
     refine ab (v := (.pointer (some ⟨sB (.slice ra r.length rk), sO (.slice ra r.length rk) + v.i.b.toNat * Rp.sz Int, none⟩))) (id := .v) (bh (α := Int) (j := v.i.b) rfl rfl rfl rfl (OS.sv hr z.log0 (i := 4) rfl) (by omega) (by omega)) rfl rfl (az rfl) (ay _) ?_
     obtain ⟨oq, mf, l4⟩ := Sv.at (OS.sv hr z.log0 (i := 4) rfl) (aW (x := (0 : Int)) (show v.i.b.toNat < r.length from by first | omega | exact hgr _ | exact hga _ | exact aK wf.rows _ | exact bD | exact aJ _ | (split <;> exact aJ _) | (rw [bL (hgr _) (hgr _) (by omega)]; exact bg (hgr _)) | (dsimp only; omega)))
     obtain ⟨rfl, nH⟩ := mf
     refine ab (v := (iI (r.getD v.i.b.toNat 0))) (id := .l (sB (.slice ra r.length rk))) (aD (i := 0) rfl rfl l4 rfl rfl) rfl rfl (aO rfl) (⟨.inl rfl, ⟨.inl rfl, ⟨.inl rfl, ⟨.inl rfl, ⟨.inr trivial, ⟨.inr trivial, ⟨.inr trivial, trivial⟩⟩⟩⟩⟩⟩⟩) ?_
     refine ab (v := (.pointer (some ⟨sB (.slice ra r.length rk), sO (.slice ra r.length rk) + v.i.a.toNat * Rp.sz Int, none⟩))) (id := .v) (bh (α := Int) (j := v.i.a) rfl rfl rfl rfl (OS.sv hr z.log0 (i := 4) rfl) (by omega) (by omega)) rfl rfl (az rfl) (ay _) ?_
     refine ed (id := .x (pg.map Prod.fst)) (gp (α := Int) (j := v.i.a.toNat) (off := 0) (q := 4) (r.getD v.i.b.toNat 0) hr z.log0 rfl rfl rfl rfl rfl rfl rfl rfl (aW (x := (0 : Int)) (by omega)) rfl (by rintro cs ⟨rfl, _⟩; exact ⟨Nat.le_of_ble_eq_true rfl, rfl, by omega⟩)) rfl (by rintro _ _ lO ⟨f1, _, hwr⟩; exact cE rfl rfl (Wr.did hwr)) (⟨.inl rfl, ⟨.inl rfl, ⟨.inl rfl, ⟨.inl rfl, ⟨.inl rfl, ⟨.inl rfl, ⟨.inl rfl, ⟨.inl rfl, ⟨.inl rfl, trivial⟩⟩⟩⟩⟩⟩⟩⟩⟩) ?_
     rintro _ mK lO ⟨f1, ch, _⟩ ms k4
     replace ch := HS.lg ch z k4
     generalize ({ mK with log := ms } : Heap) = n9 at ch ⊢
     have ch : HS _ _ _ [_, _, _, _, lO, _, _] _ := ch
     have nN := OS.len' f1
     refine bz ?_
     refine aw 1 rfl ?_
     exact au ⟨.inl rfl, _, rfl, rfl, DoP.mk (L := [J, O]) (by unfold doC; (repeat (first | rw [if_pos (by omega)] | rw [if_neg (by omega)] | (unfold doV; dsimp only [rg, ist]) | (unfold iD; dsimp only [rg, ist]))); first | done | rfl | (unfold ru; first | rw [if_pos (by omega)] | rw [if_neg (by omega)]) | rw [← bL (hgr _) (hgr _) (by omega)]) ch fR T Z U f1⟩
    ·
     try simp only [BS] at hx
     refine wR 1 [] 122 123 [] [(122, (.bool (v.i.op == 11)))] trivial rfl fun _ => ?_
     refine am 1 1 (v := (v.i.op == 11)) rfl rfl rfl rfl (fun hy => ?_) (fun hy => ?_)
     ·
      try simp only [BS] at hy
      obtain ⟨ol, h3⟩ := Sv.view (OS.sv hr z (i := 4) rfl)
      have oR := fI (h3 v.i.c.toNat)
      refine wR 1 [(2, .o (iI v.i.c)), (4, .o (iI (r.getD v.i.c.toNat 0)))] 124 129 [] [(129, (.bool ((r.getD v.i.c.toNat 0) == 0)))] (vA (ql 3 3 (HS.hc z (i := 6) rfl) rfl rfl) (vA (Sv.ix (j := v.i.c) (OS.sv hr z (i := 4) rfl) (by omega) (by omega)) (vA (ql 2 0 (vI (h3 v.i.c.toNat) (by omega)) rfl rfl) trivial))) rfl fun _ => ?_
      refine am 0 1 (v := ((r.getD v.i.c.toNat 0) == 0)) rfl rfl rfl rfl (fun hz => ?_) (fun hz => ?_)
      ·
       try simp only [BS] at hz
       refine aI rfl ?_
       refine fm (.slice ra r.length rk) rfl rfl rfl ?_
       refine ab (v := (.pointer (some ⟨A, 1, none⟩))) (id := .v) (aU rfl rfl) rfl rfl (az rfl) (ay _) ?_
       refine ab (v := (iI v.i.a)) (id := .l A) (aD (i := 1) rfl rfl (HS.hc z.log0 (i := 6) rfl) rfl rfl) rfl rfl (aO rfl) (⟨.inl rfl, ⟨.inr trivial, trivial⟩⟩) ?_
       refine fm (.slice ra r.length rk) rfl rfl rfl ?_
       refine ab (v := (.pointer (some ⟨A, 2, none⟩))) (id := .v) (aU rfl rfl) rfl rfl (az rfl) (ay _) ?_
       refine ab (v := (iI v.i.b)) (id := .l A) (aD (i := 2) rfl rfl (HS.hc z.log0 (i := 6) rfl) rfl rfl) rfl rfl (aO rfl) (⟨.inl rfl, ⟨.inr trivial, ⟨.inr trivial, ⟨.inr trivial, ⟨.inr trivial, trivial⟩⟩⟩⟩⟩) ?_
       refine ab (v := (.pointer (some ⟨sB (.slice ra r.length rk), sO (.slice ra r.length rk) + v.i.b.toNat * Rp.sz Int, none⟩))) (id := .v) (bh (α := Int) (j := v.i.b) rfl rfl rfl rfl (OS.sv hr z.log0 (i := 4) rfl) (by omega) (by omega)) rfl rfl (az rfl) (ay _) ?_
       obtain ⟨ot, mg, l5⟩ := Sv.at (OS.sv hr z.log0 (i := 4) rfl) (aW (x := (0 : Int)) (show v.i.b.toNat < r.length from by first | omega | exact hgr _ | exact hga _ | exact aK wf.rows _ | exact bD | exact aJ _ | (split <;> exact aJ _) | (rw [bL (hgr _) (hgr _) (by omega)]; exact bg (hgr _)) | (dsimp only; omega)))
       obtain ⟨rfl, nI⟩ := mg
       refine ab (v := (iI (r.getD v.i.b.toNat 0))) (id := .l (sB (.slice ra r.length rk))) (aD (i := 0) rfl rfl l5 rfl rfl) rfl rfl (aO rfl) (⟨.inl rfl, ⟨.inl rfl, ⟨.inl rfl, ⟨.inl rfl, ⟨.inr trivial, ⟨.inr trivial, ⟨.inr trivial, trivial⟩⟩⟩⟩⟩⟩⟩) ?_
       refine ab (v := (.pointer (some ⟨sB (.slice ra r.length rk), sO (.slice ra r.length rk) + v.i.a.toNat * Rp.sz Int, none⟩))) (id := .v) (bh (α := Int) (j := v.i.a) rfl rfl rfl rfl (OS.sv hr z.log0 (i := 4) rfl) (by omega) (by omega)) rfl rfl (az rfl) (ay _) ?_
       refine ed (id := .x (pg.map Prod.fst)) (gp (α := Int) (j := v.i.a.toNat) (off := 0) (q := 4) (r.getD v.i.b.toNat 0) hr z.log0 rfl rfl rfl rfl rfl rfl rfl rfl (aW (x := (0 : Int)) (by omega)) rfl (by rintro cs ⟨rfl, _⟩; exact ⟨Nat.le_of_ble_eq_true rfl, rfl, by omega⟩)) rfl (by rintro _ _ lP ⟨f2, _, hwr⟩; exact cE rfl rfl (Wr.did hwr)) (⟨.inl rfl, ⟨.inl rfl, ⟨.inl rfl, ⟨.inl rfl, ⟨.inl rfl, ⟨.inl rfl, ⟨.inl rfl, ⟨.inl rfl, ⟨.inl rfl, trivial⟩⟩⟩⟩⟩⟩⟩⟩⟩) ?_
       rintro _ mL lP ⟨f2, ci, _⟩ mu k5
       replace ci := HS.lg ci z k5
       generalize ({ mL with log := mu } : Heap) = ob at ci ⊢
       have ci : HS _ _ _ [_, _, _, _, lP, _, _] _ := ci
       have nO := OS.len' f2
       refine bz ?_
       refine aw 1 rfl ?_
       exact au ⟨.inl rfl, _, rfl, rfl, DoP.mk (L := [J, O]) (by unfold doC; (repeat (first | rw [if_pos (by omega)] | rw [if_neg (by omega)] | (unfold doV; dsimp only [rg, ist]) | (unfold iD; dsimp only [rg, ist]))); first | done | rfl | (unfold ru; first | rw [if_pos (by omega)] | rw [if_neg (by omega)]) | rw [← bL (hgr _) (hgr _) (by omega)]) ci fR T Z U f2⟩
      ·
       try simp only [BS] at hz
       exact au ⟨.inl rfl, _, rfl, rfl, DoP.mk (L := [J, O]) (by unfold doC; (repeat (first | rw [if_pos (by omega)] | rw [if_neg (by omega)] | (unfold doV; dsimp only [rg, ist]) | (unfold iD; dsimp only [rg, ist]))); first | done | rfl | (unfold ru; first | rw [if_pos (by omega)] | rw [if_neg (by omega)]) | rw [← bL (hgr _) (hgr _) (by omega)]) z fR T Z U hr⟩
     ·
      try simp only [BS] at hy
      refine wR 1 [] 139 140 [] [(139, (.bool (v.i.op == 12)))] trivial rfl fun _ => ?_
      refine am 1 1 (v := (v.i.op == 12)) rfl rfl rfl rfl (fun hA => ?_) (fun hA => ?_)
      ·
       try simp only [BS] at hA
       obtain ⟨om, h4⟩ := Sv.view (OS.sv hr z (i := 4) rfl)
       have oS := fI (h4 v.i.c.toNat)
       refine wR 1 [(2, .o (iI v.i.c)), (4, .o (iI (r.getD v.i.c.toNat 0)))] 141 146 [] [(146, (.bool ((r.getD v.i.c.toNat 0) != 0)))] (vA (ql 3 3 (HS.hc z (i := 6) rfl) rfl rfl) (vA (Sv.ix (j := v.i.c) (OS.sv hr z (i := 4) rfl) (by omega) (by omega)) (vA (ql 2 0 (vI (h4 v.i.c.toNat) (by omega)) rfl rfl) trivial))) rfl fun _ => ?_
       refine am 0 1 (v := ((r.getD v.i.c.toNat 0) != 0)) rfl rfl rfl rfl (fun hB => ?_) (fun hB => ?_)
       ·
        try simp only [BS] at hB
        refine aI rfl ?_
        refine fm (.slice ra r.length rk) rfl rfl rfl ?_
        refine ab (v := (.pointer (some ⟨A, 1, none⟩))) (id := .v) (aU rfl rfl) rfl rfl (az rfl) (ay _) ?_
        refine ab (v := (iI v.i.a)) (id := .l A) (aD (i := 1) rfl rfl (HS.hc z.log0 (i := 6) rfl) rfl rfl) rfl rfl (aO rfl) (⟨.inl rfl, ⟨.inr trivial, trivial⟩⟩) ?_
        refine fm (.slice ra r.length rk) rfl rfl rfl ?_
        refine ab (v := (.pointer (some ⟨A, 2, none⟩))) (id := .v) (aU rfl rfl) rfl rfl (az rfl) (ay _) ?_
        refine ab (v := (iI v.i.b)) (id := .l A) (aD (i := 2) rfl rfl (HS.hc z.log0 (i := 6) rfl) rfl rfl) rfl rfl (aO rfl) (⟨.inl rfl, ⟨.inr trivial, ⟨.inr trivial, ⟨.inr trivial, ⟨.inr trivial, trivial⟩⟩⟩⟩⟩) ?_
        refine ab (v := (.pointer (some ⟨sB (.slice ra r.length rk), sO (.slice ra r.length rk) + v.i.b.toNat * Rp.sz Int, none⟩))) (id := .v) (bh (α := Int) (j := v.i.b) rfl rfl rfl rfl (OS.sv hr z.log0 (i := 4) rfl) (by omega) (by omega)) rfl rfl (az rfl) (ay _) ?_
        obtain ⟨ou, mh, l6⟩ := Sv.at (OS.sv hr z.log0 (i := 4) rfl) (aW (x := (0 : Int)) (show v.i.b.toNat < r.length from by first | omega | exact hgr _ | exact hga _ | exact aK wf.rows _ | exact bD | exact aJ _ | (split <;> exact aJ _) | (rw [bL (hgr _) (hgr _) (by omega)]; exact bg (hgr _)) | (dsimp only; omega)))
        obtain ⟨rfl, nJ⟩ := mh
        refine ab (v := (iI (r.getD v.i.b.toNat 0))) (id := .l (sB (.slice ra r.length rk))) (aD (i := 0) rfl rfl l6 rfl rfl) rfl rfl (aO rfl) (⟨.inl rfl, ⟨.inl rfl, ⟨.inl rfl, ⟨.inl rfl, ⟨.inr trivial, ⟨.inr trivial, ⟨.inr trivial, trivial⟩⟩⟩⟩⟩⟩⟩) ?_
        refine ab (v := (.pointer (some ⟨sB (.slice ra r.length rk), sO (.slice ra r.length rk) + v.i.a.toNat * Rp.sz Int, none⟩))) (id := .v) (bh (α := Int) (j := v.i.a) rfl rfl rfl rfl (OS.sv hr z.log0 (i := 4) rfl) (by omega) (by omega)) rfl rfl (az rfl) (ay _) ?_
        refine ed (id := .x (pg.map Prod.fst)) (gp (α := Int) (j := v.i.a.toNat) (off := 0) (q := 4) (r.getD v.i.b.toNat 0) hr z.log0 rfl rfl rfl rfl rfl rfl rfl rfl (aW (x := (0 : Int)) (by omega)) rfl (by rintro cs ⟨rfl, _⟩; exact ⟨Nat.le_of_ble_eq_true rfl, rfl, by omega⟩)) rfl (by rintro _ _ lQ ⟨f6, _, hwr⟩; exact cE rfl rfl (Wr.did hwr)) (⟨.inl rfl, ⟨.inl rfl, ⟨.inl rfl, ⟨.inl rfl, ⟨.inl rfl, ⟨.inl rfl, ⟨.inl rfl, ⟨.inl rfl, ⟨.inl rfl, trivial⟩⟩⟩⟩⟩⟩⟩⟩⟩) ?_
        rintro _ mM lQ ⟨f6, cl, _⟩ mv k6
        replace cl := HS.lg cl z k6
        generalize ({ mM with log := mv } : Heap) = oc at cl ⊢
        have cl : HS _ _ _ [_, _, _, _, lQ, _, _] _ := cl
        have nP := OS.len' f6
        refine bz ?_
        refine aw 1 rfl ?_
        exact au ⟨.inl rfl, _, rfl, rfl, DoP.mk (L := [J, O]) (by unfold doC; (repeat (first | rw [if_pos (by omega)] | rw [if_neg (by omega)] | (unfold doV; dsimp only [rg, ist]) | (unfold iD; dsimp only [rg, ist]))); first | done | rfl | (unfold ru; first | rw [if_pos (by omega)] | rw [if_neg (by omega)]) | rw [← bL (hgr _) (hgr _) (by omega)]) cl fR T Z U f6⟩
       ·
        try simp only [BS] at hB
        exact au ⟨.inl rfl, _, rfl, rfl, DoP.mk (L := [J, O]) (by unfold doC; (repeat (first | rw [if_pos (by omega)] | rw [if_neg (by omega)] | (unfold doV; dsimp only [rg, ist]) | (unfold iD; dsimp only [rg, ist]))); first | done | rfl | (unfold ru; first | rw [if_pos (by omega)] | rw [if_neg (by omega)]) | rw [← bL (hgr _) (hgr _) (by omega)]) z fR T Z U hr⟩
      ·
       try simp only [BS] at hA
       refine wR 1 [] 156 157 [] [(156, (.bool (v.i.op == 13)))] trivial rfl fun _ => ?_
       refine am 0 2 (v := (v.i.op == 13)) rfl rfl rfl rfl (fun hC => ?_) (fun hC => ?_)
       ·
        try simp only [BS] at hC
        refine ae ?_
        refine wRo 6 0 [(2, .o (iI v.i.a)), (4, .o (iI v.i.n))] 158 163 [] [(162, (iI v.i.n)), (163, (.pointer (some ⟨sB (.slice ra r.length rk), sO (.slice ra r.length rk) + v.i.a.toNat * Rp.sz Int, none⟩)))] (vA (ql 3 1 (HS.hc z (i := 6) rfl) rfl rfl) (vA (ql 2 4 (HS.hc z (i := 6) rfl) rfl rfl) (vA (Sv.ix (j := v.i.a) (OS.sv hr z (i := 4) rfl) (by omega) (by omega)) trivial))) rfl fun _ => ?_
        refine aP (gp (α := Int) (j := v.i.a.toNat) (off := 0) (q := 4) v.i.n hr z rfl rfl rfl rfl rfl rfl rfl rfl (aW (x := (0 : Int)) (by omega)) rfl (by rintro cs ⟨rfl, _⟩; exact ⟨Nat.le_of_ble_eq_true rfl, rfl, by omega⟩)) rfl ?_
        rintro _ oK ng ⟨hX, g7, _⟩
        have g7 : HS _ _ _ [_, _, _, _, ng, _, _] _ := g7
        have nQ := OS.len' hX
        refine ao 1 rfl ?_
        exact au ⟨.inl rfl, _, rfl, rfl, DoP.mk (L := [J, O]) (by unfold doC; (repeat (first | rw [if_pos (by omega)] | rw [if_neg (by omega)] | (unfold doV; dsimp only [rg, ist]) | (unfold iD; dsimp only [rg, ist]))); first | done | rfl | (unfold ru; first | rw [if_pos (by omega)] | rw [if_neg (by omega)]) | rw [← bL (hgr _) (hgr _) (by omega)]) g7 fR T Z U hX⟩
       ·
        try simp only [BS] at hC
        refine wR 1 [] 164 165 [] [(164, (.bool (v.i.op == 15)))] trivial rfl fun _ => ?_
        refine am 1 0 (v := (v.i.op == 15)) rfl rfl rfl rfl (fun c8 => ?_) (fun c8 => ?_)
        ·
         have hD := c8
         try simp only [BS] at hD
         refine be 0 (v := (v.i.op == 15)) rfl c8 rfl rfl ?_
         refine aI rfl ?_
         refine fm (.slice ra r.length rk) rfl rfl rfl ?_
         refine ab (v := (.pointer (some ⟨A, 1, none⟩))) (id := .v) (aU rfl rfl) rfl rfl (az rfl) (ay _) ?_
         refine ab (v := (iI v.i.a)) (id := .l A) (aD (i := 1) rfl rfl (HS.hc z.log0 (i := 6) rfl) rfl rfl) rfl rfl (aO rfl) (⟨.inl rfl, ⟨.inr trivial, trivial⟩⟩) ?_
         refine ab (v := (.pointer (some ⟨A, 0, none⟩))) (id := .v) (aU rfl rfl) rfl rfl (az rfl) (ay _) ?_
         refine ab (v := (iI v.i.op)) (id := .l A) (aD (i := 0) rfl rfl (HS.hc z.log0 (i := 6) rfl) rfl rfl) rfl rfl (aO rfl) (⟨.inl rfl, ⟨.inr trivial, ⟨.inr trivial, ⟨.inr trivial, trivial⟩⟩⟩⟩) ?_
         refine fm (.slice ra r.length rk) rfl rfl rfl ?_
         refine ab (v := (.pointer (some ⟨A, 1, none⟩))) (id := .v) (aU rfl rfl) rfl rfl (az rfl) (ay _) ?_
         refine ab (v := (iI v.i.a)) (id := .l A) (aD (i := 1) rfl rfl (HS.hc z.log0 (i := 6) rfl) rfl rfl) rfl rfl (aO rfl) (⟨.inl rfl, ⟨.inr trivial, ⟨.inr trivial, ⟨.inr trivial, ⟨.inr trivial, ⟨.inr trivial, ⟨.inr trivial, trivial⟩⟩⟩⟩⟩⟩⟩) ?_
         refine ab (v := (.pointer (some ⟨sB (.slice ra r.length rk), sO (.slice ra r.length rk) + v.i.a.toNat * Rp.sz Int, none⟩))) (id := .v) (bh (α := Int) (j := v.i.a) rfl rfl rfl rfl (OS.sv hr z.log0 (i := 4) rfl) (by omega) (by omega)) rfl rfl (az rfl) (ay _) ?_
         obtain ⟨ov, mi, l7⟩ := Sv.at (OS.sv hr z.log0 (i := 4) rfl) (aW (x := (0 : Int)) (show v.i.a.toNat < r.length from by first | omega | exact hgr _ | exact hga _ | exact aK wf.rows _ | exact bD | exact aJ _ | (split <;> exact aJ _) | (rw [bL (hgr _) (hgr _) (by omega)]; exact bg (hgr _)) | (dsimp only; omega)))
         obtain ⟨rfl, nK⟩ := mi
         refine ab (v := (iI (r.getD v.i.a.toNat 0))) (id := .l (sB (.slice ra r.length rk))) (aD (i := 0) rfl rfl l7 rfl rfl) rfl rfl (aO rfl) (⟨.inl rfl, ⟨.inl rfl, ⟨.inl rfl, ⟨.inl rfl, ⟨.inr trivial, ⟨.inr trivial, ⟨.inr trivial, ⟨.inr trivial, ⟨.inr trivial, trivial⟩⟩⟩⟩⟩⟩⟩⟩⟩) ?_
         refine bm (W := []) (ax rfl rfl rfl) rfl rfl rfl (jw.run_c ex v.i.op (r.getD v.i.a.toNat 0) _) (⟨.inl rfl, ⟨.inl rfl, ⟨.inl rfl, ⟨.inl rfl, ⟨.inl rfl, ⟨.inl rfl, ⟨.inl rfl, ⟨.inr List.not_mem_nil, ⟨.inr trivial, ⟨.inr trivial, trivial⟩⟩⟩⟩⟩⟩⟩⟩⟩⟩) ?_
         rintro _ _ ⟨o1, rfl, rfl, rfl⟩
         refine ⟨fun b hb => absurd hb List.not_mem_nil, fun mw k7 => ?_⟩
         have em := HS.lg z.log0 z k7
         generalize ({ { H6 with log := [] } with log := mw } : Heap) = od at em ⊢
         refine ab (v := (.pointer (some ⟨sB (.slice ra r.length rk), sO (.slice ra r.length rk) + v.i.a.toNat * Rp.sz Int, none⟩))) (id := .v) (bh (α := Int) (j := v.i.a) rfl rfl rfl rfl (OS.sv hr em.log0 (i := 4) rfl) (by omega) (by omega)) rfl rfl (az rfl) (ay _) ?_
         refine ed (id := .x (pg.map Prod.fst)) (gp (α := Int) (j := v.i.a.toNat) (off := 0) (q := 4) (if v.i.op = 15 then w64 (0 - (r.getD v.i.a.toNat 0)) else w64 (-1 - (r.getD v.i.a.toNat 0))) hr em.log0 rfl rfl rfl rfl rfl rfl rfl rfl (aW (x := (0 : Int)) (by first | omega | exact hgr _ | exact hga _ | exact aK wf.rows _ | exact bD | exact aJ _ | (split <;> exact aJ _) | (rw [bL (hgr _) (hgr _) (by omega)]; exact bg (hgr _)) | (dsimp only; omega))) rfl (by rintro cs ⟨rfl, _⟩; exact ⟨Nat.le_of_ble_eq_true rfl, rfl, by first | omega | exact hgr _ | exact hga _ | exact aK wf.rows _ | exact bD | exact aJ _ | (split <;> exact aJ _) | (rw [bL (hgr _) (hgr _) (by omega)]; exact bg (hgr _)) | (dsimp only; omega)⟩)) rfl (by rintro _ _ lR ⟨f7, _, hwr⟩; exact cE rfl rfl (Wr.did hwr)) (⟨.inl rfl, ⟨.inl rfl, ⟨.inl rfl, ⟨.inl rfl, ⟨.inl rfl, ⟨.inl rfl, ⟨.inl rfl, ⟨.inl rfl, ⟨.inl rfl, ⟨.inl rfl, ⟨.inl rfl, ⟨.inl rfl, trivial⟩⟩⟩⟩⟩⟩⟩⟩⟩⟩⟩⟩) ?_
         rintro _ mN lR ⟨f7, co, _⟩ mx k8
         replace co := HS.lg co em k8
         generalize ({ mN with log := mx } : Heap) = oe at co ⊢
         have co : HS _ _ _ [_, _, _, _, lR, _, _] _ := co
         have nR := OS.len' f7
         refine bz ?_
         refine aw 1 rfl ?_
         exact au ⟨.inl rfl, _, rfl, rfl, DoP.mk (L := [J, O]) (by unfold doC; (repeat (first | rw [if_pos (by omega)] | rw [if_neg (by omega)] | (unfold doV; dsimp only [rg, ist]) | (unfold iD; dsimp only [rg, ist]))); first | done | rfl | (unfold ru; first | rw [if_pos (by omega)] | rw [if_neg (by omega)]) | rw [← bL (hgr _) (hgr _) (by omega)]) co fR T Z U f7⟩
        ·
         have hD := c8
         try simp only [BS] at hD
         refine wR 1 [] 164 166 [] [(164, (.bool (v.i.op == 16)))] trivial rfl fun _ => ?_
         refine am 0 1 (v := (v.i.op == 16)) rfl rfl rfl rfl (fun hE => ?_) (fun hE => ?_)
         ·
          try simp only [BS] at hE
          refine aI rfl ?_
          refine fm (.slice ra r.length rk) rfl rfl rfl ?_
          refine ab (v := (.pointer (some ⟨A, 1, none⟩))) (id := .v) (aU rfl rfl) rfl rfl (az rfl) (ay _) ?_
          refine ab (v := (iI v.i.a)) (id := .l A) (aD (i := 1) rfl rfl (HS.hc z.log0 (i := 6) rfl) rfl rfl) rfl rfl (aO rfl) (⟨.inl rfl, ⟨.inr trivial, trivial⟩⟩) ?_
          refine ab (v := (.pointer (some ⟨A, 0, none⟩))) (id := .v) (aU rfl rfl) rfl rfl (az rfl) (ay _) ?_
          refine ab (v := (iI v.i.op)) (id := .l A) (aD (i := 0) rfl rfl (HS.hc z.log0 (i := 6) rfl) rfl rfl) rfl rfl (aO rfl) (⟨.inl rfl, ⟨.inr trivial, ⟨.inr trivial, ⟨.inr trivial, trivial⟩⟩⟩⟩) ?_
          refine fm (.slice ra r.length rk) rfl rfl rfl ?_
          refine ab (v := (.pointer (some ⟨A, 1, none⟩))) (id := .v) (aU rfl rfl) rfl rfl (az rfl) (ay _) ?_
          refine ab (v := (iI v.i.a)) (id := .l A) (aD (i := 1) rfl rfl (HS.hc z.log0 (i := 6) rfl) rfl rfl) rfl rfl (aO rfl) (⟨.inl rfl, ⟨.inr trivial, ⟨.inr trivial, ⟨.inr trivial, ⟨.inr trivial, ⟨.inr trivial, ⟨.inr trivial, trivial⟩⟩⟩⟩⟩⟩⟩) ?_
          refine ab (v := (.pointer (some ⟨sB (.slice ra r.length rk), sO (.slice ra r.length rk) + v.i.a.toNat * Rp.sz Int, none⟩))) (id := .v) (bh (α := Int) (j := v.i.a) rfl rfl rfl rfl (OS.sv hr z.log0 (i := 4) rfl) (by omega) (by omega)) rfl rfl (az rfl) (ay _) ?_
          obtain ⟨ow, mj, l8⟩ := Sv.at (OS.sv hr z.log0 (i := 4) rfl) (aW (x := (0 : Int)) (show v.i.a.toNat < r.length from by first | omega | exact hgr _ | exact hga _ | exact aK wf.rows _ | exact bD | exact aJ _ | (split <;> exact aJ _) | (rw [bL (hgr _) (hgr _) (by omega)]; exact bg (hgr _)) | (dsimp only; omega)))
          obtain ⟨rfl, nL⟩ := mj
          refine ab (v := (iI (r.getD v.i.a.toNat 0))) (id := .l (sB (.slice ra r.length rk))) (aD (i := 0) rfl rfl l8 rfl rfl) rfl rfl (aO rfl) (⟨.inl rfl, ⟨.inl rfl, ⟨.inl rfl, ⟨.inl rfl, ⟨.inr trivial, ⟨.inr trivial, ⟨.inr trivial, ⟨.inr trivial, ⟨.inr trivial, trivial⟩⟩⟩⟩⟩⟩⟩⟩⟩) ?_
          refine bm (W := []) (ax rfl rfl rfl) rfl rfl rfl (jw.run_c ex v.i.op (r.getD v.i.a.toNat 0) _) (⟨.inl rfl, ⟨.inl rfl, ⟨.inl rfl, ⟨.inl rfl, ⟨.inl rfl, ⟨.inl rfl, ⟨.inl rfl, ⟨.inr List.not_mem_nil, ⟨.inr trivial, ⟨.inr trivial, trivial⟩⟩⟩⟩⟩⟩⟩⟩⟩⟩) ?_
          rintro _ _ ⟨o2, rfl, rfl, rfl⟩
          refine ⟨fun b hb => absurd hb List.not_mem_nil, fun my k9 => ?_⟩
          have es := HS.lg z.log0 z k9
          generalize ({ { H6 with log := [] } with log := my } : Heap) = og at es ⊢
          refine ab (v := (.pointer (some ⟨sB (.slice ra r.length rk), sO (.slice ra r.length rk) + v.i.a.toNat * Rp.sz Int, none⟩))) (id := .v) (bh (α := Int) (j := v.i.a) rfl rfl rfl rfl (OS.sv hr es.log0 (i := 4) rfl) (by omega) (by omega)) rfl rfl (az rfl) (ay _) ?_
          refine ed (id := .x (pg.map Prod.fst)) (gp (α := Int) (j := v.i.a.toNat) (off := 0) (q := 4) (if v.i.op = 15 then w64 (0 - (r.getD v.i.a.toNat 0)) else w64 (-1 - (r.getD v.i.a.toNat 0))) hr es.log0 rfl rfl rfl rfl rfl rfl rfl rfl (aW (x := (0 : Int)) (by first | omega | exact hgr _ | exact hga _ | exact aK wf.rows _ | exact bD | exact aJ _ | (split <;> exact aJ _) | (rw [bL (hgr _) (hgr _) (by omega)]; exact bg (hgr _)) | (dsimp only; omega))) rfl (by rintro cs ⟨rfl, _⟩; exact ⟨Nat.le_of_ble_eq_true rfl, rfl, by first | omega | exact hgr _ | exact hga _ | exact aK wf.rows _ | exact bD | exact aJ _ | (split <;> exact aJ _) | (rw [bL (hgr _) (hgr _) (by omega)]; exact bg (hgr _)) | (dsimp only; omega)⟩)) rfl (by rintro _ _ lS ⟨f9, _, hwr⟩; exact cE rfl rfl (Wr.did hwr)) (⟨.inl rfl, ⟨.inl rfl, ⟨.inl rfl, ⟨.inl rfl, ⟨.inl rfl, ⟨.inl rfl, ⟨.inl rfl, ⟨.inl rfl, ⟨.inl rfl, ⟨.inl rfl, ⟨.inl rfl, ⟨.inl rfl, trivial⟩⟩⟩⟩⟩⟩⟩⟩⟩⟩⟩⟩) ?_
          rintro _ mO lS ⟨f9, cv, _⟩ mz li
          replace cv := HS.lg cv es li
          generalize ({ mO with log := mz } : Heap) = oh at cv ⊢
          have cv : HS _ _ _ [_, _, _, _, lS, _, _] _ := cv
          have nS := OS.len' f9
          refine bz ?_
          refine aw 1 rfl ?_
          exact au ⟨.inl rfl, _, rfl, rfl, DoP.mk (L := [J, O]) (by unfold doC; (repeat (first | rw [if_pos (by omega)] | rw [if_neg (by omega)] | (unfold doV; dsimp only [rg, ist]) | (unfold iD; dsimp only [rg, ist]))); first | done | rfl | (unfold ru; first | rw [if_pos (by omega)] | rw [if_neg (by omega)]) | rw [← bL (hgr _) (hgr _) (by omega)]) cv fR T Z U f9⟩
         ·
          try simp only [BS] at hE
          refine wR 1 [] 179 180 [] [(179, (.bool (v.i.op == 33)))] trivial rfl fun _ => ?_
          refine am 0 2 (v := (v.i.op == 33)) rfl rfl rfl rfl (fun hF => ?_) (fun hF => ?_)
          ·
           try simp only [BS] at hF
           refine aI rfl ?_
           refine fm (.slice ra r.length rk) rfl rfl rfl ?_
           refine ab (v := (.pointer (some ⟨A, 1, none⟩))) (id := .v) (aU rfl rfl) rfl rfl (az rfl) (ay _) ?_
           refine ab (v := (iI v.i.a)) (id := .l A) (aD (i := 1) rfl rfl (HS.hc z.log0 (i := 6) rfl) rfl rfl) rfl rfl (aO rfl) (⟨.inl rfl, ⟨.inr trivial, trivial⟩⟩) ?_
           refine ab (v := (.pointer (some ⟨sB (.slice ra r.length rk), sO (.slice ra r.length rk) + v.i.a.toNat * Rp.sz Int, none⟩))) (id := .v) (bh (α := Int) (j := v.i.a) rfl rfl rfl rfl (OS.sv hr z.log0 (i := 4) rfl) (by omega) (by omega)) rfl rfl (az rfl) (ay _) ?_
           obtain ⟨nu, lm, jq⟩ := Sv.at (OS.sv hr z.log0 (i := 4) rfl) (aW (x := (0 : Int)) (show v.i.a.toNat < r.length from by first | omega | exact hgr _ | exact hga _ | exact aK wf.rows _ | exact bD | exact aJ _ | (split <;> exact aJ _) | (rw [bL (hgr _) (hgr _) (by omega)]; exact bg (hgr _)) | (dsimp only; omega)))
           obtain ⟨rfl, mQ⟩ := lm
           refine ab (v := (iI (r.getD v.i.a.toNat 0))) (id := .l (sB (.slice ra r.length rk))) (aD (i := 0) rfl rfl jq rfl rfl) rfl rfl (aO rfl) (⟨.inl rfl, ⟨.inl rfl, ⟨.inl rfl, ⟨.inl rfl, trivial⟩⟩⟩⟩) ?_
           refine ab (v := (.pointer (some ⟨A, 4, none⟩))) (id := .v) (aU rfl rfl) rfl rfl (az rfl) (ay _) ?_
           refine ab (v := (iI v.i.n)) (id := .l A) (aD (i := 4) rfl rfl (HS.hc z.log0 (i := 6) rfl) rfl rfl) rfl rfl (aO rfl) (⟨.inl rfl, ⟨.inr trivial, ⟨.inr trivial, ⟨.inr trivial, ⟨.inr trivial, ⟨.inr trivial, trivial⟩⟩⟩⟩⟩⟩) ?_
           refine ab (v := (iI (IntKind.i64.wrap ((r.getD v.i.a.toNat 0) + v.i.n)))) (id := .v) (ap_add rfl rfl rfl) rfl rfl (az rfl) (ay _) ?_
           refine ab (v := (.pointer (some ⟨sB (.slice ra r.length rk), sO (.slice ra r.length rk) + v.i.a.toNat * Rp.sz Int, none⟩))) (id := .v) (bh (α := Int) (j := v.i.a) rfl rfl rfl rfl (OS.sv hr z.log0 (i := 4) rfl) (by omega) (by omega)) rfl rfl (az rfl) (ay _) ?_
           refine ed (id := .x (pg.map Prod.fst)) (gp (α := Int) (j := v.i.a.toNat) (off := 0) (q := 4) (IntKind.i64.wrap ((r.getD v.i.a.toNat 0) + v.i.n)) hr z.log0 rfl rfl rfl rfl rfl rfl rfl rfl (aW (x := (0 : Int)) (by first | omega | exact hgr _ | exact hga _ | exact aK wf.rows _ | exact bD | exact aJ _ | (split <;> exact aJ _) | (rw [bL (hgr _) (hgr _) (by omega)]; exact bg (hgr _)) | (dsimp only; omega))) rfl (by rintro cs ⟨rfl, _⟩; exact ⟨Nat.le_of_ble_eq_true rfl, rfl, by first | omega | exact hgr _ | exact hga _ | exact aK wf.rows _ | exact bD | exact aJ _ | (split <;> exact aJ _) | (rw [bL (hgr _) (hgr _) (by omega)]; exact bg (hgr _)) | (dsimp only; omega)⟩)) rfl (by rintro _ _ h5 ⟨dk, _, hwr⟩; exact cE rfl rfl (Wr.did hwr)) (⟨.inl rfl, ⟨.inl rfl, ⟨.inl rfl, ⟨.inl rfl, ⟨.inl rfl, ⟨.inl rfl, ⟨.inl rfl, ⟨.inl rfl, ⟨.inl rfl, trivial⟩⟩⟩⟩⟩⟩⟩⟩⟩) ?_
           rintro _ lT h5 ⟨dk, a7, _⟩ lA hK
           replace a7 := HS.lg a7 z hK
           generalize ({ lT with log := lA } : Heap) = nh at a7 ⊢
           have a7 : HS _ _ _ [_, _, _, _, h5, _, _] _ := a7
           have mY := OS.len' dk
           refine bz ?_
           refine aw 1 rfl ?_
           exact au ⟨.inl rfl, _, rfl, rfl, DoP.mk (L := [J, O]) (by unfold doC; (repeat (first | rw [if_pos (by omega)] | rw [if_neg (by omega)] | (unfold doV; dsimp only [rg, ist]) | (unfold iD; dsimp only [rg, ist]))); first | done | rfl | (unfold ru; first | rw [if_pos (by omega)] | rw [if_neg (by omega)]) | rw [← bL (hgr _) (hgr _) (by omega)]) a7 fR T Z U dk⟩
          ·
           try simp only [BS] at hF
           refine wR 1 [] 190 191 [] [(190, (.bool (v.i.op == 34)))] trivial rfl fun _ => ?_
           refine am 1 0 (v := (v.i.op == 34)) rfl rfl rfl rfl (fun a5 => ?_) (fun a5 => ?_)
           ·
            have e3 := a5
            try simp only [BS] at e3
            refine be 0 (v := (v.i.op == 34)) rfl a5 rfl rfl ?_
            refine ae ?_
            refine wRo 3 0 [(1, .o c7)] 193 195 [] [(193, (.pointer (some ⟨b, 0, none⟩))), (194, c7), (195, (.slice ra r.length rk))] (vA (qn 45 0 5 (HS.hc z (i := 6) rfl) rfl rfl rfl rfl) trivial) rfl fun _ => ?_
            refine aF (R := fun w' H' => w' = .tuple #[] ∧ DoP (.of H (b :: (q ++ pg).map Prod.fst)) F R P la lk b ra r.length rk (doC P s r args v) H') (ax rfl rfl rfl) rfl rfl ?_ ?_
            ·
             refine aL Tryd.func94 rfl rfl ?_
             refine aw 1 rfl ?_
             refine ae ?_
             refine bd (cz z rfl rfl) rfl rfl ?_
             rintro _ nW _ ⟨c4, rfl, aq, _⟩
             let e0 : Fp := [(c4, .cells [(iI v.i.op), (iI v.i.a), (iI v.i.b), (iI v.i.c), (iI v.i.n)] none false)]
             have aq : HS _ _ _ [_, _, _, _, _, _, _, e0] _ := aq
             refine ao 2 rfl ?_
             obtain ⟨np, ly⟩ := Sv.view (OS.sv T aq (i := 1) rfl)
             obtain ⟨g9, dd, E, ap, hf⟩ := SF.open Z aq (q := 2) (i := v.i.n.toNat) rfl (by omega)
             have E : HS _ _ _ [_, _, g9, _, _, _, _, _, dd] _ := E
             have ap : OS F (.slice (hd.getD v.i.n.toNat default).a (hd.getD v.i.n.toNat default).n (hd.getD v.i.n.toNat default).k) (s.cells.getD v.i.n.toNat default) dd := ap
             have nU := OS.nlen ap
             refine wRD 3 [(3, .o (.slice ca hd.length ck)), (5, .o (iI v.i.n)), (7, .o (.slice (hd.getD v.i.n.toNat default).a (hd.getD v.i.n.toNat default).n (hd.getD v.i.n.toNat default).k))] 7 14 [6] [(6, (.slice (hd.getD v.i.n.toNat default).a (hd.getD v.i.n.toNat default).n (hd.getD v.i.n.toNat default).k))] (vA (ql 99 1 (hc0 (HS.hc aq (i := 0) rfl)) rfl rfl) (vA (ql 2 4 (hc0 (HS.hc aq (i := 7) rfl)) rfl rfl) (vA (Sv.ix (j := v.i.n) (OS.sv T aq (i := 1) rfl) (by omega) (by omega)) (vA (ql 52 0 (hc0 (vH (ly v.i.n.toNat) (by omega))) rfl rfl) trivial)))) rfl rfl fun _ => ?_
             obtain ⟨nq, et⟩ := Sv.view (OS.sv hr E (i := 4) rfl)
             have ox := fI (et v.i.b.toNat)
             refine wR 1 [(2, .o (iI v.i.b)), (4, .o (iI (r.getD v.i.b.toNat 0))), (9, .o (iI v.i.b)), (11, .o (iI (r.getD v.i.b.toNat 0)))] 27 43 [] [(27, (.bool ((decide ((r.getD v.i.b.toNat 0) < 0)) || (decide (((hd.getD v.i.n.toNat default).n : Int) ≤ (r.getD v.i.b.toNat 0))))))] (vA (ql 3 2 (HS.hc E (i := 7) rfl) rfl rfl) (vA (Sv.ix (j := v.i.b) (OS.sv hr E (i := 4) rfl) (by omega) (by omega)) (vA (ql 2 0 (vI (et v.i.b.toNat) (by omega)) rfl rfl) (vA (fun (g1 : (decide ((r.getD v.i.b.toNat 0) < 0)) = false) => (ql 3 2 (HS.hc E (i := 7) rfl) rfl rfl)) (vA (fun (g1 : (decide ((r.getD v.i.b.toNat 0) < 0)) = false) => (Sv.ix (j := v.i.b) (OS.sv hr E (i := 4) rfl) (by (try simp only [BS] at g1); (first | omega | exact hgr _ | exact hga _ | exact aK wf.rows _ | exact bD | exact aJ _ | (split <;> exact aJ _) | (rw [bL (hgr _) (hgr _) (by omega)]; exact bg (hgr _)) | (dsimp only; omega))) (by (try simp only [BS] at g1); (first | omega | exact hgr _ | exact hga _ | exact aK wf.rows _ | exact bD | exact aJ _ | (split <;> exact aJ _) | (rw [bL (hgr _) (hgr _) (by omega)]; exact bg (hgr _)) | (dsimp only; omega))))) (vA (fun (g1 : (decide ((r.getD v.i.b.toNat 0) < 0)) = false) => (ql 2 0 (vI (et v.i.b.toNat) (by (try simp only [BS] at g1); (first | omega | exact hgr _ | exact hga _ | exact aK wf.rows _ | exact bD | exact aJ _ | (split <;> exact aJ _) | (rw [bL (hgr _) (hgr _) (by omega)]; exact bg (hgr _)) | (dsimp only; omega)))) rfl rfl)) trivial)))))) rfl fun _ => ?_
             refine am 0 1 (v := ((decide ((r.getD v.i.b.toNat 0) < 0)) || (decide (((hd.getD v.i.n.toNat default).n : Int) ≤ (r.getD v.i.b.toNat 0))))) rfl rfl rfl rfl (fun e4 => ?_) (fun e4 => ?_)
             ·
              try simp only [BS] at e4
              refine ae ?_
              refine wm (.pointer (some ⟨b, 0, none⟩)) rfl rfl rfl ?_
              refine aF (ax rfl rfl rfl) rfl rfl (jy ex (2) (2) (HS.callOwn E (i := 0) rfl)) ?_
              rintro _ nX ⟨b2, rfl⟩
              replace b2 := HS.backOwn E (i := 0) rfl rfl (fun _ hb => hb) b2
              have b2 : HS _ _ _ [[(b, .cells [(.slice la P.length lk), (.slice ca hd.length ck), (iI s.fuel), (iI s.most), (.slice oa s.out.length ok), (iI 2), (iI 2), (.slice none 0 0), (iI 0), (.bool true), (.bool s.long)] none false)], pc, g9, po, pg, J, O, e0, dd] _ := b2
              refine ao 1 rfl ?_
              obtain ⟨i1, d1, hh⟩ := SF.shut0 hf fR b2 (q := 2) (m := 8) (by decide) rfl rfl ap
              have d1 : HS _ _ _ [_, _, i1, _, _, _, _, _, []] _ := d1
              have nC := FAM.len hh
              exact au ⟨.inl rfl, _, rfl, rfl, DoP.mk (L := [J, O, e0, []]) (by unfold doC; (repeat (first | rw [if_pos (by omega)] | rw [if_neg (by omega)] | (unfold doV; dsimp only [rg, ist]) | (unfold iD; dsimp only [rg, ist]))); first | done | rfl | (unfold ru; first | rw [if_pos (by omega)] | rw [if_neg (by omega)]) | rw [← bL (hgr _) (hgr _) (by omega)]) d1 fR T hh U hr⟩
             ·
              try simp only [BS] at e4
              refine wR 1 [(1, .o (iI v.i.op))] 46 49 [] [(46, (.bool (v.i.op == 34)))] (vA (ql 3 0 (HS.hc E (i := 7) rfl) rfl rfl) trivial) rfl fun _ => ?_
              refine be 0 (v := (v.i.op == 34)) rfl a5 rfl rfl ?_
              refine aI rfl ?_
              refine fm (.slice ra r.length rk) rfl rfl rfl ?_
              refine ab (v := (.pointer (some ⟨c4, 1, none⟩))) (id := .v) (aU rfl rfl) rfl rfl (az rfl) (ay _) ?_
              refine ab (v := (iI v.i.a)) (id := .l c4) (aD (i := 1) rfl rfl (HS.hc E.log0 (i := 7) rfl) rfl rfl) rfl rfl (aO rfl) (⟨.inl rfl, ⟨.inr trivial, trivial⟩⟩) ?_
              refine fm (.slice (hd.getD v.i.n.toNat default).a (hd.getD v.i.n.toNat default).n (hd.getD v.i.n.toNat default).k) rfl rfl rfl ?_
              refine fm (.slice ra r.length rk) rfl rfl rfl ?_
              refine ab (v := (.pointer (some ⟨c4, 2, none⟩))) (id := .v) (aU rfl rfl) rfl rfl (az rfl) (ay _) ?_
              refine ab (v := (iI v.i.b)) (id := .l c4) (aD (i := 2) rfl rfl (HS.hc E.log0 (i := 7) rfl) rfl rfl) rfl rfl (aO rfl) (⟨.inl rfl, ⟨.inr trivial, ⟨.inr trivial, ⟨.inr trivial, ⟨.inr trivial, ⟨.inr trivial, trivial⟩⟩⟩⟩⟩⟩) ?_
              refine ab (v := (.pointer (some ⟨sB (.slice ra r.length rk), sO (.slice ra r.length rk) + v.i.b.toNat * Rp.sz Int, none⟩))) (id := .v) (bh (α := Int) (j := v.i.b) rfl rfl rfl rfl (OS.sv hr E.log0 (i := 4) rfl) (by omega) (by omega)) rfl rfl (az rfl) (ay _) ?_
              obtain ⟨nv, ln, j2⟩ := Sv.at (OS.sv hr E.log0 (i := 4) rfl) (aW (x := (0 : Int)) (show v.i.b.toNat < r.length from by first | omega | exact hgr _ | exact hga _ | exact aK wf.rows _ | exact bD | exact aJ _ | (split <;> exact aJ _) | (rw [bL (hgr _) (hgr _) (by omega)]; exact bg (hgr _)) | (dsimp only; omega)))
              obtain ⟨rfl, mR⟩ := ln
              refine ab (v := (iI (r.getD v.i.b.toNat 0))) (id := .l (sB (.slice ra r.length rk))) (aD (i := 0) rfl rfl j2 rfl rfl) rfl rfl (aO rfl) (⟨.inl rfl, ⟨.inl rfl, ⟨.inl rfl, ⟨.inl rfl, ⟨.inr trivial, ⟨.inr trivial, ⟨.inr trivial, ⟨.inr trivial, trivial⟩⟩⟩⟩⟩⟩⟩⟩) ?_
              refine ab (v := (.pointer (some ⟨sB (.slice (hd.getD v.i.n.toNat default).a (hd.getD v.i.n.toNat default).n (hd.getD v.i.n.toNat default).k), sO (.slice (hd.getD v.i.n.toNat default).a (hd.getD v.i.n.toNat default).n (hd.getD v.i.n.toNat default).k) + (r.getD v.i.b.toNat 0).toNat * Rp.sz Int, none⟩))) (id := .v) (bh (α := Int) (j := (r.getD v.i.b.toNat 0)) rfl rfl rfl rfl (OS.sv ap E.log0 (i := 8) rfl) (by omega) (by omega)) rfl rfl (az rfl) (ay _) ?_
              obtain ⟨nw, lp, kd⟩ := Sv.at (OS.sv ap E.log0 (i := 8) rfl) (aW (x := (0 : Int)) (show (r.getD v.i.b.toNat 0).toNat < (s.cells.getD v.i.n.toNat default).length from by first | omega | exact hgr _ | exact hga _ | exact aK wf.rows _ | exact bD | exact aJ _ | (split <;> exact aJ _) | (rw [bL (hgr _) (hgr _) (by omega)]; exact bg (hgr _)) | (dsimp only; omega)))
              obtain ⟨rfl, mS⟩ := lp
              refine ab (v := (iI ((s.cells.getD v.i.n.toNat default).getD (r.getD v.i.b.toNat 0).toNat 0))) (id := .l (sB (.slice (hd.getD v.i.n.toNat default).a (hd.getD v.i.n.toNat default).n (hd.getD v.i.n.toNat default).k))) (aD (i := 0) rfl rfl kd rfl rfl) rfl rfl (aO rfl) (⟨.inl rfl, ⟨.inl rfl, ⟨.inl rfl, ⟨.inl rfl, ⟨.inl rfl, ⟨.inl rfl, ⟨.inl rfl, ⟨.inr trivial, ⟨.inr trivial, ⟨.inr trivial, trivial⟩⟩⟩⟩⟩⟩⟩⟩⟩⟩) ?_
              refine ab (v := (.pointer (some ⟨sB (.slice ra r.length rk), sO (.slice ra r.length rk) + v.i.a.toNat * Rp.sz Int, none⟩))) (id := .v) (bh (α := Int) (j := v.i.a) rfl rfl rfl rfl (OS.sv hr E.log0 (i := 4) rfl) (by omega) (by omega)) rfl rfl (az rfl) (ay _) ?_
              refine ed (id := .x (pg.map Prod.fst)) (gp (α := Int) (j := v.i.a.toNat) (off := 0) (q := 4) ((s.cells.getD v.i.n.toNat default).getD (r.getD v.i.b.toNat 0).toNat 0) hr E.log0 rfl rfl rfl rfl rfl rfl rfl rfl (aW (x := (0 : Int)) (by omega)) rfl (by rintro cs ⟨rfl, _⟩; exact ⟨Nat.le_of_ble_eq_true rfl, rfl, by omega⟩)) rfl (by rintro _ _ h6 ⟨dl, _, hwr⟩; exact cE rfl rfl (Wr.did hwr)) (⟨.inl rfl, ⟨.inl rfl, ⟨.inl rfl, ⟨.inl rfl, ⟨.inl rfl, ⟨.inl rfl, ⟨.inl rfl, ⟨.inl rfl, ⟨.inl rfl, ⟨.inl rfl, ⟨.inl rfl, ⟨.inl rfl, trivial⟩⟩⟩⟩⟩⟩⟩⟩⟩⟩⟩⟩) ?_
              rintro _ lU h6 ⟨dl, a8, _⟩ lB hM
              replace a8 := HS.lg a8 E hM
              generalize ({ lU with log := lB } : Heap) = ni at a8 ⊢
              have a8 : HS _ _ _ [_, _, _, _, h6, _, _, _, _] _ := a8
              have mZ := OS.len' dl
              refine bz ?_
              refine aw 1 rfl ?_
              obtain ⟨i2, d2, hk⟩ := SF.shut0 hf fR a8 (q := 2) (m := 8) (by decide) rfl rfl ap
              have d2 : HS _ _ _ [_, _, i2, _, _, _, _, _, []] _ := d2
              have nD := FAM.len hk
              exact au ⟨.inl rfl, _, rfl, rfl, DoP.mk (L := [J, O, e0, []]) (by unfold doC; (repeat (first | rw [if_pos (by omega)] | rw [if_neg (by omega)] | (unfold doV; dsimp only [rg, ist]) | (unfold iD; dsimp only [rg, ist]))); first | done | rfl | (unfold ru; first | rw [if_pos (by omega)] | rw [if_neg (by omega)]) | rw [← bL (hgr _) (hgr _) (by omega)]) d2 fR T hk U dl⟩
            rintro _ nY ⟨rfl, gn⟩
            refine ao 1 rfl ?_
            exact au ⟨.inl rfl, _, rfl, rfl, gn⟩
           ·
            have e3 := a5
            try simp only [BS] at e3
            refine wR 1 [] 190 192 [] [(190, (.bool (v.i.op == 35)))] trivial rfl fun _ => ?_
            refine am 0 1 (v := (v.i.op == 35)) rfl rfl rfl rfl (fun e5 => ?_) (fun e5 => ?_)
            ·
             try simp only [BS] at e5
             refine ae ?_
             refine wRo 3 0 [(1, .o c7)] 193 195 [] [(193, (.pointer (some ⟨b, 0, none⟩))), (194, c7), (195, (.slice ra r.length rk))] (vA (qn 45 0 5 (HS.hc z (i := 6) rfl) rfl rfl rfl rfl) trivial) rfl fun _ => ?_
             refine aF (R := fun w' H' => w' = .tuple #[] ∧ DoP (.of H (b :: (q ++ pg).map Prod.fst)) F R P la lk b ra r.length rk (doC P s r args v) H') (ax rfl rfl rfl) rfl rfl ?_ ?_
             ·
              refine aL Tryd.func94 rfl rfl ?_
              refine aw 1 rfl ?_
              refine ae ?_
              refine bd (cz z rfl rfl) rfl rfl ?_
              rintro _ nZ _ ⟨c5, rfl, ar, _⟩
              let e1 : Fp := [(c5, .cells [(iI v.i.op), (iI v.i.a), (iI v.i.b), (iI v.i.c), (iI v.i.n)] none false)]
              have ar : HS _ _ _ [_, _, _, _, _, _, _, e1] _ := ar
              refine ao 2 rfl ?_
              obtain ⟨nr, lz⟩ := Sv.view (OS.sv T ar (i := 1) rfl)
              obtain ⟨he, c0, I, a6, hg⟩ := SF.open Z ar (q := 2) (i := v.i.n.toNat) rfl (by omega)
              have I : HS _ _ _ [_, _, he, _, _, _, _, _, c0] _ := I
              have a6 : OS F (.slice (hd.getD v.i.n.toNat default).a (hd.getD v.i.n.toNat default).n (hd.getD v.i.n.toNat default).k) (s.cells.getD v.i.n.toNat default) c0 := a6
              have nV := OS.nlen a6
              refine wRD 3 [(3, .o (.slice ca hd.length ck)), (5, .o (iI v.i.n)), (7, .o (.slice (hd.getD v.i.n.toNat default).a (hd.getD v.i.n.toNat default).n (hd.getD v.i.n.toNat default).k))] 7 14 [6] [(6, (.slice (hd.getD v.i.n.toNat default).a (hd.getD v.i.n.toNat default).n (hd.getD v.i.n.toNat default).k))] (vA (ql 99 1 (hc0 (HS.hc ar (i := 0) rfl)) rfl rfl) (vA (ql 2 4 (hc0 (HS.hc ar (i := 7) rfl)) rfl rfl) (vA (Sv.ix (j := v.i.n) (OS.sv T ar (i := 1) rfl) (by omega) (by omega)) (vA (ql 52 0 (hc0 (vH (lz v.i.n.toNat) (by omega))) rfl rfl) trivial)))) rfl rfl fun _ => ?_
              obtain ⟨ns, ez⟩ := Sv.view (OS.sv hr I (i := 4) rfl)
              have oy := fI (ez v.i.b.toNat)
              refine wR 1 [(2, .o (iI v.i.b)), (4, .o (iI (r.getD v.i.b.toNat 0))), (9, .o (iI v.i.b)), (11, .o (iI (r.getD v.i.b.toNat 0)))] 27 43 [] [(27, (.bool ((decide ((r.getD v.i.b.toNat 0) < 0)) || (decide (((hd.getD v.i.n.toNat default).n : Int) ≤ (r.getD v.i.b.toNat 0))))))] (vA (ql 3 2 (HS.hc I (i := 7) rfl) rfl rfl) (vA (Sv.ix (j := v.i.b) (OS.sv hr I (i := 4) rfl) (by omega) (by omega)) (vA (ql 2 0 (vI (ez v.i.b.toNat) (by omega)) rfl rfl) (vA (fun (g1 : (decide ((r.getD v.i.b.toNat 0) < 0)) = false) => (ql 3 2 (HS.hc I (i := 7) rfl) rfl rfl)) (vA (fun (g1 : (decide ((r.getD v.i.b.toNat 0) < 0)) = false) => (Sv.ix (j := v.i.b) (OS.sv hr I (i := 4) rfl) (by (try simp only [BS] at g1); (first | omega | exact hgr _ | exact hga _ | exact aK wf.rows _ | exact bD | exact aJ _ | (split <;> exact aJ _) | (rw [bL (hgr _) (hgr _) (by omega)]; exact bg (hgr _)) | (dsimp only; omega))) (by (try simp only [BS] at g1); (first | omega | exact hgr _ | exact hga _ | exact aK wf.rows _ | exact bD | exact aJ _ | (split <;> exact aJ _) | (rw [bL (hgr _) (hgr _) (by omega)]; exact bg (hgr _)) | (dsimp only; omega))))) (vA (fun (g1 : (decide ((r.getD v.i.b.toNat 0) < 0)) = false) => (ql 2 0 (vI (ez v.i.b.toNat) (by (try simp only [BS] at g1); (first | omega | exact hgr _ | exact hga _ | exact aK wf.rows _ | exact bD | exact aJ _ | (split <;> exact aJ _) | (rw [bL (hgr _) (hgr _) (by omega)]; exact bg (hgr _)) | (dsimp only; omega)))) rfl rfl)) trivial)))))) rfl fun _ => ?_
              refine am 0 1 (v := ((decide ((r.getD v.i.b.toNat 0) < 0)) || (decide (((hd.getD v.i.n.toNat default).n : Int) ≤ (r.getD v.i.b.toNat 0))))) rfl rfl rfl rfl (fun e6 => ?_) (fun e6 => ?_)
              ·
               try simp only [BS] at e6
               refine ae ?_
               refine wm (.pointer (some ⟨b, 0, none⟩)) rfl rfl rfl ?_
               refine aF (ax rfl rfl rfl) rfl rfl (jy ex (2) (2) (HS.callOwn I (i := 0) rfl)) ?_
               rintro _ n1 ⟨b3, rfl⟩
               replace b3 := HS.backOwn I (i := 0) rfl rfl (fun _ hb => hb) b3
               have b3 : HS _ _ _ [[(b, .cells [(.slice la P.length lk), (.slice ca hd.length ck), (iI s.fuel), (iI s.most), (.slice oa s.out.length ok), (iI 2), (iI 2), (.slice none 0 0), (iI 0), (.bool true), (.bool s.long)] none false)], pc, he, po, pg, J, O, e1, c0] _ := b3
               refine ao 1 rfl ?_
               obtain ⟨i3, ea, hl⟩ := SF.shut0 hg fR b3 (q := 2) (m := 8) (by decide) rfl rfl a6
               have ea : HS _ _ _ [_, _, i3, _, _, _, _, _, []] _ := ea
               have nE := FAM.len hl
               exact au ⟨.inl rfl, _, rfl, rfl, DoP.mk (L := [J, O, e1, []]) (by unfold doC; (repeat (first | rw [if_pos (by omega)] | rw [if_neg (by omega)] | (unfold doV; dsimp only [rg, ist]) | (unfold iD; dsimp only [rg, ist]))); first | done | rfl | (unfold ru; first | rw [if_pos (by omega)] | rw [if_neg (by omega)]) | rw [← bL (hgr _) (hgr _) (by omega)]) ea fR T hl U hr⟩
              ·
               try simp only [BS] at e6
               refine wR 1 [(1, .o (iI v.i.op))] 46 49 [] [(46, (.bool (v.i.op == 34)))] (vA (ql 3 0 (HS.hc I (i := 7) rfl) rfl rfl) trivial) rfl fun _ => ?_
               refine wk_iff 0 (v := (v.i.op == 34)) rfl a5 rfl rfl ?_
               refine aI rfl ?_
               refine fm (.slice (hd.getD v.i.n.toNat default).a (hd.getD v.i.n.toNat default).n (hd.getD v.i.n.toNat default).k) rfl rfl rfl ?_
               refine fm (.slice ra r.length rk) rfl rfl rfl ?_
               refine ab (v := (.pointer (some ⟨c5, 2, none⟩))) (id := .v) (aU rfl rfl) rfl rfl (az rfl) (ay _) ?_
               refine ab (v := (iI v.i.b)) (id := .l c5) (aD (i := 2) rfl rfl (HS.hc I.log0 (i := 7) rfl) rfl rfl) rfl rfl (aO rfl) (⟨.inl rfl, ⟨.inr trivial, ⟨.inr trivial, trivial⟩⟩⟩) ?_
               refine ab (v := (.pointer (some ⟨sB (.slice ra r.length rk), sO (.slice ra r.length rk) + v.i.b.toNat * Rp.sz Int, none⟩))) (id := .v) (bh (α := Int) (j := v.i.b) rfl rfl rfl rfl (OS.sv hr I.log0 (i := 4) rfl) (by omega) (by omega)) rfl rfl (az rfl) (ay _) ?_
               obtain ⟨nx, lq, ki⟩ := Sv.at (OS.sv hr I.log0 (i := 4) rfl) (aW (x := (0 : Int)) (show v.i.b.toNat < r.length from by first | omega | exact hgr _ | exact hga _ | exact aK wf.rows _ | exact bD | exact aJ _ | (split <;> exact aJ _) | (rw [bL (hgr _) (hgr _) (by omega)]; exact bg (hgr _)) | (dsimp only; omega)))
               obtain ⟨rfl, mT⟩ := lq
               refine ab (v := (iI (r.getD v.i.b.toNat 0))) (id := .l (sB (.slice ra r.length rk))) (aD (i := 0) rfl rfl ki rfl rfl) rfl rfl (aO rfl) (⟨.inl rfl, ⟨.inl rfl, ⟨.inl rfl, ⟨.inl rfl, ⟨.inr trivial, trivial⟩⟩⟩⟩⟩) ?_
               refine fm (.slice ra r.length rk) rfl rfl rfl ?_
               refine ab (v := (.pointer (some ⟨c5, 1, none⟩))) (id := .v) (aU rfl rfl) rfl rfl (az rfl) (ay _) ?_
               refine ab (v := (iI v.i.a)) (id := .l c5) (aD (i := 1) rfl rfl (HS.hc I.log0 (i := 7) rfl) rfl rfl) rfl rfl (aO rfl) (⟨.inl rfl, ⟨.inr trivial, ⟨.inr trivial, ⟨.inr trivial, ⟨.inr trivial, ⟨.inr trivial, ⟨.inr trivial, ⟨.inr trivial, trivial⟩⟩⟩⟩⟩⟩⟩⟩) ?_
               refine ab (v := (.pointer (some ⟨sB (.slice ra r.length rk), sO (.slice ra r.length rk) + v.i.a.toNat * Rp.sz Int, none⟩))) (id := .v) (bh (α := Int) (j := v.i.a) rfl rfl rfl rfl (OS.sv hr I.log0 (i := 4) rfl) (by omega) (by omega)) rfl rfl (az rfl) (ay _) ?_
               obtain ⟨ny, lu, kk⟩ := Sv.at (OS.sv hr I.log0 (i := 4) rfl) (aW (x := (0 : Int)) (show v.i.a.toNat < r.length from by first | omega | exact hgr _ | exact hga _ | exact aK wf.rows _ | exact bD | exact aJ _ | (split <;> exact aJ _) | (rw [bL (hgr _) (hgr _) (by omega)]; exact bg (hgr _)) | (dsimp only; omega)))
               obtain ⟨rfl, mU⟩ := lu
               refine ab (v := (iI (r.getD v.i.a.toNat 0))) (id := .l (sB (.slice ra r.length rk))) (aD (i := 0) rfl rfl kk rfl rfl) rfl rfl (aO rfl) (⟨.inl rfl, ⟨.inl rfl, ⟨.inl rfl, ⟨.inl rfl, ⟨.inr trivial, ⟨.inr trivial, ⟨.inr trivial, ⟨.inr trivial, ⟨.inr trivial, ⟨.inr trivial, trivial⟩⟩⟩⟩⟩⟩⟩⟩⟩⟩) ?_
               refine ab (v := (.pointer (some ⟨sB (.slice (hd.getD v.i.n.toNat default).a (hd.getD v.i.n.toNat default).n (hd.getD v.i.n.toNat default).k), sO (.slice (hd.getD v.i.n.toNat default).a (hd.getD v.i.n.toNat default).n (hd.getD v.i.n.toNat default).k) + (r.getD v.i.b.toNat 0).toNat * Rp.sz Int, none⟩))) (id := .v) (bh (α := Int) (j := (r.getD v.i.b.toNat 0)) rfl rfl rfl rfl (OS.sv a6 I.log0 (i := 8) rfl) (by omega) (by omega)) rfl rfl (az rfl) (ay _) ?_
               refine ed (id := .x (c0.map Prod.fst)) (gp (α := Int) (j := (r.getD v.i.b.toNat 0).toNat) (off := 0) (q := 8) (r.getD v.i.a.toNat 0) a6 I.log0 rfl rfl rfl rfl rfl rfl rfl rfl (aW (x := (0 : Int)) (by omega)) rfl (by rintro cs ⟨rfl, _⟩; exact ⟨Nat.le_of_ble_eq_true rfl, rfl, by omega⟩)) rfl (by rintro _ _ h7 ⟨dn, _, hwr⟩; exact cE rfl rfl (Wr.did hwr)) (⟨.inl rfl, ⟨.inl rfl, ⟨.inl rfl, ⟨.inl rfl, ⟨.inl rfl, ⟨.inl rfl, ⟨.inl rfl, ⟨.inl rfl, ⟨.inl rfl, ⟨.inl rfl, ⟨.inl rfl, ⟨.inl rfl, trivial⟩⟩⟩⟩⟩⟩⟩⟩⟩⟩⟩⟩) ?_
               rintro _ lV h7 ⟨dn, a9, _⟩ lC hQ
               replace a9 := HS.lg a9 I hQ
               generalize ({ lV with log := lC } : Heap) = nj at a9 ⊢
               have a9 : HS _ _ _ [_, _, _, _, _, _, _, _, h7] _ := a9
               have m0 := OS.len' dn
               refine bz ?_
               refine aw 1 rfl ?_
               obtain ⟨jb, eb, hm⟩ := SF.shut hg fR a9 (q := 2) (m := 8) (by decide) rfl rfl dn
               have eb : HS _ _ _ [_, _, jb, _, _, _, _, _, []] _ := eb
               have nF := FAM.len hm
               exact au ⟨.inl rfl, _, rfl, rfl, DoP.mk (L := [J, O, e1, []]) (by unfold doC; (repeat (first | rw [if_pos (by omega)] | rw [if_neg (by omega)] | (unfold doV; dsimp only [rg, ist]) | (unfold iD; dsimp only [rg, ist]))); first | done | rfl | (unfold ru; first | rw [if_pos (by omega)] | rw [if_neg (by omega)]) | rw [← bL (hgr _) (hgr _) (by omega)]) eb fR T hm U hr⟩
             rintro _ n2 ⟨rfl, g2⟩
             refine ao 1 rfl ?_
             exact au ⟨.inl rfl, _, rfl, rfl, g2⟩
            ·
             try simp only [BS] at e5
             refine wR 1 [] 197 198 [] [(197, (.bool (v.i.op == 38)))] trivial rfl fun _ => ?_
             refine am 0 1 (v := (v.i.op == 38)) rfl rfl rfl rfl (fun e9 => ?_) (fun e9 => ?_)
             ·
              try simp only [BS] at e9
              refine aI rfl ?_
              refine fm (.slice ra r.length rk) rfl rfl rfl ?_
              refine ab (v := (.pointer (some ⟨A, 1, none⟩))) (id := .v) (aU rfl rfl) rfl rfl (az rfl) (ay _) ?_
              refine ab (v := (iI v.i.a)) (id := .l A) (aD (i := 1) rfl rfl (HS.hc z.log0 (i := 6) rfl) rfl rfl) rfl rfl (aO rfl) (⟨.inl rfl, ⟨.inr trivial, trivial⟩⟩) ?_
              refine fm (.slice aa args.length ak) rfl rfl rfl ?_
              refine ab (v := (.pointer (some ⟨A, 4, none⟩))) (id := .v) (aU rfl rfl) rfl rfl (az rfl) (ay _) ?_
              refine ab (v := (iI v.i.n)) (id := .l A) (aD (i := 4) rfl rfl (HS.hc z.log0 (i := 6) rfl) rfl rfl) rfl rfl (aO rfl) (⟨.inl rfl, ⟨.inr trivial, ⟨.inr trivial, ⟨.inr trivial, ⟨.inr trivial, trivial⟩⟩⟩⟩⟩) ?_
              refine ab (v := (.pointer (some ⟨sB (.slice aa args.length ak), sO (.slice aa args.length ak) + v.i.n.toNat * Rp.sz Int, none⟩))) (id := .v) (bh (α := Int) (j := v.i.n) rfl rfl rfl rfl (SR.sv ha z.log0) (by omega) (by omega)) rfl rfl (az rfl) (ay _) ?_
              obtain ⟨nz, lv, kl⟩ := Sv.at (SR.sv ha z.log0) (aW (x := (0 : Int)) (show v.i.n.toNat < args.length from by first | omega | exact hgr _ | exact hga _ | exact aK wf.rows _ | exact bD | exact aJ _ | (split <;> exact aJ _) | (rw [bL (hgr _) (hgr _) (by omega)]; exact bg (hgr _)) | (dsimp only; omega)))
              obtain ⟨rfl, mV⟩ := lv
              refine ab (v := (iI (args.getD v.i.n.toNat 0))) (id := .l (sB (.slice aa args.length ak))) (aD (i := 0) rfl rfl kl rfl rfl) rfl rfl (aO rfl) (⟨.inl rfl, ⟨.inl rfl, ⟨.inl rfl, ⟨.inl rfl, ⟨.inr trivial, ⟨.inr trivial, ⟨.inr trivial, trivial⟩⟩⟩⟩⟩⟩⟩) ?_
              refine ab (v := (.pointer (some ⟨sB (.slice ra r.length rk), sO (.slice ra r.length rk) + v.i.a.toNat * Rp.sz Int, none⟩))) (id := .v) (bh (α := Int) (j := v.i.a) rfl rfl rfl rfl (OS.sv hr z.log0 (i := 4) rfl) (by omega) (by omega)) rfl rfl (az rfl) (ay _) ?_
              refine ed (id := .x (pg.map Prod.fst)) (gp (α := Int) (j := v.i.a.toNat) (off := 0) (q := 4) (args.getD v.i.n.toNat 0) hr z.log0 rfl rfl rfl rfl rfl rfl rfl rfl (aW (x := (0 : Int)) (by omega)) rfl (by rintro cs ⟨rfl, _⟩; exact ⟨Nat.le_of_ble_eq_true rfl, rfl, by omega⟩)) rfl (by rintro _ _ h8 ⟨ds, _, hwr⟩; exact cE rfl rfl (Wr.did hwr)) (⟨.inl rfl, ⟨.inl rfl, ⟨.inl rfl, ⟨.inl rfl, ⟨.inl rfl, ⟨.inl rfl, ⟨.inl rfl, ⟨.inl rfl, ⟨.inl rfl, trivial⟩⟩⟩⟩⟩⟩⟩⟩⟩) ?_
              rintro _ lW h8 ⟨ds, bb, _⟩ lD hS
              replace bb := HS.lg bb z hS
              generalize ({ lW with log := lD } : Heap) = nk at bb ⊢
              have bb : HS _ _ _ [_, _, _, _, h8, _, _] _ := bb
              have m9 := OS.len' ds
              refine bz ?_
              refine aw 1 rfl ?_
              exact au ⟨.inl rfl, _, rfl, rfl, DoP.mk (L := [J, O]) (by unfold doC; (repeat (first | rw [if_pos (by omega)] | rw [if_neg (by omega)] | (unfold doV; dsimp only [rg, ist]) | (unfold iD; dsimp only [rg, ist]))); first | done | rfl | (unfold ru; first | rw [if_pos (by omega)] | rw [if_neg (by omega)]) | rw [← bL (hgr _) (hgr _) (by omega)]) bb fR T Z U ds⟩
             ·
              try simp only [BS] at e9
              obtain ⟨nt, ho⟩ := Sv.view (OS.sv hr z (i := 4) rfl)
              have oz := fI (ho v.i.b.toNat)
              refine wR 1 [(1, .o (iI v.i.op)), (5, .o (iI v.i.op)), (11, .o (iI v.i.b)), (13, .o (iI (r.getD v.i.b.toNat 0)))] 15 30 [] [(30, (.bool (((v.i.op == 20) || (v.i.op == 21)) && ((r.getD v.i.b.toNat 0) == 0))))] (vA (ql 3 0 (HS.hc z (i := 6) rfl) rfl rfl) (vA (fun (g1 : (v.i.op == 20) = false) => (ql 3 0 (HS.hc z (i := 6) rfl) rfl rfl)) (vA (fun (g1 : ((v.i.op == 20) || (v.i.op == 21)) = true) => (ql 3 2 (HS.hc z (i := 6) rfl) rfl rfl)) (vA (fun (g1 : ((v.i.op == 20) || (v.i.op == 21)) = true) => (Sv.ix (j := v.i.b) (OS.sv hr z (i := 4) rfl) (by (try simp only [BS] at g1); (first | omega | exact hgr _ | exact hga _ | exact aK wf.rows _ | exact bD | exact aJ _ | (split <;> exact aJ _) | (rw [bL (hgr _) (hgr _) (by omega)]; exact bg (hgr _)) | (dsimp only; omega))) (by (try simp only [BS] at g1); (first | omega | exact hgr _ | exact hga _ | exact aK wf.rows _ | exact bD | exact aJ _ | (split <;> exact aJ _) | (rw [bL (hgr _) (hgr _) (by omega)]; exact bg (hgr _)) | (dsimp only; omega))))) (vA (fun (g1 : ((v.i.op == 20) || (v.i.op == 21)) = true) => (ql 2 0 (vI (ho v.i.b.toNat) (by (try simp only [BS] at g1); (first | omega | exact hgr _ | exact hga _ | exact aK wf.rows _ | exact bD | exact aJ _ | (split <;> exact aJ _) | (rw [bL (hgr _) (hgr _) (by omega)]; exact bg (hgr _)) | (dsimp only; omega)))) rfl rfl)) trivial))))) rfl fun _ => ?_
              refine am 0 0 (v := (((v.i.op == 20) || (v.i.op == 21)) && ((r.getD v.i.b.toNat 0) == 0))) rfl rfl rfl rfl (fun fd => ?_) (fun fd => ?_)
              ·
               try simp only [BS] at fd
               refine ae ?_
               refine wm (.pointer (some ⟨b, 0, none⟩)) rfl rfl rfl ?_
               refine aF (ax rfl rfl rfl) rfl rfl (jy ex (2) (1) (HS.callOwn z (i := 0) rfl)) ?_
               rintro _ n3 ⟨b5, rfl⟩
               replace b5 := HS.backOwn z (i := 0) rfl rfl (fun _ hb => hb) b5
               have b5 : HS _ _ _ [[(b, .cells [(.slice la P.length lk), (.slice ca hd.length ck), (iI s.fuel), (iI s.most), (.slice oa s.out.length ok), (iI 2), (iI 1), (.slice none 0 0), (iI 0), (.bool true), (.bool s.long)] none false)], pc, pr, po, pg, J, O] _ := b5
               refine ao 1 rfl ?_
               exact au ⟨.inl rfl, _, rfl, rfl, DoP.mk (L := [J, O]) (by unfold doC; (repeat (first | rw [if_pos (by omega)] | rw [if_neg (by omega)] | (unfold doV; dsimp only [rg, ist]) | (unfold iD; dsimp only [rg, ist]))); first | done | rfl | (unfold ru; first | rw [if_pos (by omega)] | rw [if_neg (by omega)]) | rw [← bL (hgr _) (hgr _) (by omega)]) b5 fR T Z U hr⟩
              ·
               try simp only [BS] at fd
               refine aI rfl ?_
               refine fm (.slice ra r.length rk) rfl rfl rfl ?_
               refine ab (v := (.pointer (some ⟨A, 1, none⟩))) (id := .v) (aU rfl rfl) rfl rfl (az rfl) (ay _) ?_
               refine ab (v := (iI v.i.a)) (id := .l A) (aD (i := 1) rfl rfl (HS.hc z.log0 (i := 6) rfl) rfl rfl) rfl rfl (aO rfl) (⟨.inl rfl, ⟨.inr trivial, trivial⟩⟩) ?_
               refine ab (v := (.pointer (some ⟨A, 0, none⟩))) (id := .v) (aU rfl rfl) rfl rfl (az rfl) (ay _) ?_
               refine ab (v := (iI v.i.op)) (id := .l A) (aD (i := 0) rfl rfl (HS.hc z.log0 (i := 6) rfl) rfl rfl) rfl rfl (aO rfl) (⟨.inl rfl, ⟨.inr trivial, ⟨.inr trivial, ⟨.inr trivial, trivial⟩⟩⟩⟩) ?_
               refine fm (.slice ra r.length rk) rfl rfl rfl ?_
               refine ab (v := (.pointer (some ⟨A, 1, none⟩))) (id := .v) (aU rfl rfl) rfl rfl (az rfl) (ay _) ?_
               refine ab (v := (iI v.i.a)) (id := .l A) (aD (i := 1) rfl rfl (HS.hc z.log0 (i := 6) rfl) rfl rfl) rfl rfl (aO rfl) (⟨.inl rfl, ⟨.inr trivial, ⟨.inr trivial, ⟨.inr trivial, ⟨.inr trivial, ⟨.inr trivial, ⟨.inr trivial, trivial⟩⟩⟩⟩⟩⟩⟩) ?_
               refine ab (v := (.pointer (some ⟨sB (.slice ra r.length rk), sO (.slice ra r.length rk) + v.i.a.toNat * Rp.sz Int, none⟩))) (id := .v) (bh (α := Int) (j := v.i.a) rfl rfl rfl rfl (OS.sv hr z.log0 (i := 4) rfl) (by omega) (by omega)) rfl rfl (az rfl) (ay _) ?_
               obtain ⟨nA, lw, kn⟩ := Sv.at (OS.sv hr z.log0 (i := 4) rfl) (aW (x := (0 : Int)) (show v.i.a.toNat < r.length from by first | omega | exact hgr _ | exact hga _ | exact aK wf.rows _ | exact bD | exact aJ _ | (split <;> exact aJ _) | (rw [bL (hgr _) (hgr _) (by omega)]; exact bg (hgr _)) | (dsimp only; omega)))
               obtain ⟨rfl, mW⟩ := lw
               refine ab (v := (iI (r.getD v.i.a.toNat 0))) (id := .l (sB (.slice ra r.length rk))) (aD (i := 0) rfl rfl kn rfl rfl) rfl rfl (aO rfl) (⟨.inl rfl, ⟨.inl rfl, ⟨.inl rfl, ⟨.inl rfl, ⟨.inr trivial, ⟨.inr trivial, ⟨.inr trivial, ⟨.inr trivial, ⟨.inr trivial, trivial⟩⟩⟩⟩⟩⟩⟩⟩⟩) ?_
               refine fm (.slice ra r.length rk) rfl rfl rfl ?_
               refine ab (v := (.pointer (some ⟨A, 2, none⟩))) (id := .v) (aU rfl rfl) rfl rfl (az rfl) (ay _) ?_
               refine ab (v := (iI v.i.b)) (id := .l A) (aD (i := 2) rfl rfl (HS.hc z.log0 (i := 6) rfl) rfl rfl) rfl rfl (aO rfl) (⟨.inl rfl, ⟨.inr trivial, ⟨.inr trivial, ⟨.inr trivial, ⟨.inr trivial, ⟨.inr trivial, ⟨.inr trivial, ⟨.inr trivial, ⟨.inr trivial, ⟨.inr trivial, ⟨.inr trivial, ⟨.inr trivial, trivial⟩⟩⟩⟩⟩⟩⟩⟩⟩⟩⟩⟩) ?_
               refine ab (v := (.pointer (some ⟨sB (.slice ra r.length rk), sO (.slice ra r.length rk) + v.i.b.toNat * Rp.sz Int, none⟩))) (id := .v) (bh (α := Int) (j := v.i.b) rfl rfl rfl rfl (OS.sv hr z.log0 (i := 4) rfl) (by omega) (by omega)) rfl rfl (az rfl) (ay _) ?_
               obtain ⟨nB, lx, kp⟩ := Sv.at (OS.sv hr z.log0 (i := 4) rfl) (aW (x := (0 : Int)) (show v.i.b.toNat < r.length from by first | omega | exact hgr _ | exact hga _ | exact aK wf.rows _ | exact bD | exact aJ _ | (split <;> exact aJ _) | (rw [bL (hgr _) (hgr _) (by omega)]; exact bg (hgr _)) | (dsimp only; omega)))
               obtain ⟨rfl, mX⟩ := lx
               refine ab (v := (iI (r.getD v.i.b.toNat 0))) (id := .l (sB (.slice ra r.length rk))) (aD (i := 0) rfl rfl kp rfl rfl) rfl rfl (aO rfl) (⟨.inl rfl, ⟨.inl rfl, ⟨.inl rfl, ⟨.inl rfl, ⟨.inr trivial, ⟨.inr trivial, ⟨.inr trivial, ⟨.inr trivial, ⟨.inr trivial, ⟨.inr trivial, ⟨.inr trivial, ⟨.inr trivial, ⟨.inr trivial, ⟨.inr trivial, trivial⟩⟩⟩⟩⟩⟩⟩⟩⟩⟩⟩⟩⟩⟩) ?_
               refine bm (W := []) (ax rfl rfl rfl) rfl rfl rfl (jw.rbin_c ex v.i.op (r.getD v.i.a.toNat 0) (r.getD v.i.b.toNat 0) _ (by omega)) (⟨.inl rfl, ⟨.inl rfl, ⟨.inl rfl, ⟨.inl rfl, ⟨.inl rfl, ⟨.inl rfl, ⟨.inl rfl, ⟨.inl rfl, ⟨.inl rfl, ⟨.inl rfl, ⟨.inl rfl, ⟨.inl rfl, ⟨.inr List.not_mem_nil, ⟨.inr trivial, ⟨.inr trivial, trivial⟩⟩⟩⟩⟩⟩⟩⟩⟩⟩⟩⟩⟩⟩⟩) ?_
               rintro _ _ ⟨oC, rfl, rfl, rfl⟩
               refine ⟨fun b hb => absurd hb List.not_mem_nil, fun lE hT => ?_⟩
               have c3 := HS.lg z.log0 z hT
               generalize ({ { H6 with log := [] } with log := lE } : Heap) = nm at c3 ⊢
               refine ab (v := (.pointer (some ⟨sB (.slice ra r.length rk), sO (.slice ra r.length rk) + v.i.a.toNat * Rp.sz Int, none⟩))) (id := .v) (bh (α := Int) (j := v.i.a) rfl rfl rfl rfl (OS.sv hr c3.log0 (i := 4) rfl) (by omega) (by omega)) rfl rfl (az rfl) (ay _) ?_
               refine ed (id := .x (pg.map Prod.fst)) (gp (α := Int) (j := v.i.a.toNat) (off := 0) (q := 4) (rbV v.i.op (r.getD v.i.a.toNat 0) (r.getD v.i.b.toNat 0)) hr c3.log0 rfl rfl rfl rfl rfl rfl rfl rfl (aW (x := (0 : Int)) (by first | omega | exact hgr _ | exact hga _ | exact aK wf.rows _ | exact bD | exact aJ _ | (split <;> exact aJ _) | (rw [bL (hgr _) (hgr _) (by omega)]; exact bg (hgr _)) | (dsimp only; omega))) rfl (by rintro cs ⟨rfl, _⟩; exact ⟨Nat.le_of_ble_eq_true rfl, rfl, by first | omega | exact hgr _ | exact hga _ | exact aK wf.rows _ | exact bD | exact aJ _ | (split <;> exact aJ _) | (rw [bL (hgr _) (hgr _) (by omega)]; exact bg (hgr _)) | (dsimp only; omega)⟩)) rfl (by rintro _ _ h9 ⟨dt, _, hwr⟩; exact cE rfl rfl (Wr.did hwr)) (⟨.inl rfl, ⟨.inl rfl, ⟨.inl rfl, ⟨.inl rfl, ⟨.inl rfl, ⟨.inl rfl, ⟨.inl rfl, ⟨.inl rfl, ⟨.inl rfl, ⟨.inl rfl, ⟨.inl rfl, ⟨.inl rfl, ⟨.inl rfl, ⟨.inl rfl, ⟨.inl rfl, ⟨.inl rfl, ⟨.inl rfl, trivial⟩⟩⟩⟩⟩⟩⟩⟩⟩⟩⟩⟩⟩⟩⟩⟩⟩) ?_
               rintro _ lX h9 ⟨dt, bl, _⟩ lF hV
               replace bl := HS.lg bl c3 hV
               generalize ({ lX with log := lF } : Heap) = nn at bl ⊢
               have bl : HS _ _ _ [_, _, _, _, h9, _, _] _ := bl
               have na := OS.len' dt
               refine bz ?_
               refine aw 1 rfl ?_
               exact au ⟨.inl rfl, _, rfl, rfl, DoP.mk (L := [J, O]) (by unfold doC; (repeat (first | rw [if_pos (by omega)] | rw [if_neg (by omega)] | (unfold doV; dsimp only [rg, ist]) | (unfold iD; dsimp only [rg, ist]))); first | done | rfl | (unfold ru; first | rw [if_pos (by omega)] | rw [if_neg (by omega)]) | rw [← bL (hgr _) (hgr _) (by omega)]) bl fR T Z U dt⟩
end Go.Proofs.YtlabedbmgmfbaaaDoor.jc
