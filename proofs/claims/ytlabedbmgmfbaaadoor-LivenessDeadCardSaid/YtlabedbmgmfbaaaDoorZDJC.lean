/-
 The reference interpreter: an instruction, by symbolic runs. No condition but bounds on lengths.
-/
import Derived.Test.YtlabedbmgmfbaaaDoorZDJA
import Derived.Test.YtlabedbmgmfbaaaDoorZDJW
import Derived.Test.YtlabedbmgmfbaaaDoorZDIC
import Derived.Test.YtlabedbmgmfbaaaDoorZDRC
noncomputable section
namespace Go.Proofs.YtlabedbmgmfbaaaDoor.jc
open Go.R
set_option maxRecDepth 10000
set_option linter.unusedVariables false
open m1 m2 m3 m4 m5 m6 m7 m8 iw ia ib ic ja jw
theorem jk {b v : Bool} (h : (!b) = v) : b = !v := by cases b <;> cases v <;> simp_all
theorem nin2 {b z : Nat} {o : AObj} {q : Fp} (A : b ∉ ([(z, o)] : Fp).map Prod.fst) (I : b ∉ q.map Prod.fst) : b ∉ z :: q.map Prod.fst := by
 intro h
 rcases List.mem_cons.1 h with h | h
 ·
  exact A (by simp [h])
 ·
  exact I h
theorem map_step {f : Int → Int} {l ag : List Int} {j : Nat} (h : ag = (l.take j).map f) (hj : j < l.length) : ag ++ [f (l.getD j 0)] = (l.take (j + 1)).map f := by
 rw [h, List.take_add_one, List.map_append, List.getD_eq_getElem?_getD, List.getElem?_eq_getElem hj]; rfl
theorem map_all {f : Int → Int} {l ag : List Int} {j : Nat} (h : ag = (l.take j).map f) (hj : l.length ≤ j) : ag = l.map f := by rw [h, List.take_of_length_le hj]
def CallSpec (ex : FuncId) (P : List VFnT) (nc N n : Nat) : Prop := ∀ {F : Fz} {H : Heap} {R : List Fp} {b : Nat} {la : Option Addr} {lk : Nat} {ca : Option Addr} {cn ck : Nat} {oa : Option Addr} {on ok : Nat} {q : Fp} {aa : Option Addr} {ak : Nat} (s : IntS) (f : Int) (args : List Int), HS (.of H (b :: q.map Prod.fst)) F H [[(b, .cells [.slice la P.length lk, .slice ca cn ck, .int .i64 s.fuel, .int .i64 s.most, .slice oa on ok, .int .i64 s.kind, .int .i64 s.code, .slice none 0 0, .int .i64 0, .bool s.over, .bool s.long] none false)], q] R → IntQ F s ca cn ck oa on ok q → SR F (.slice la P.length lk) P → SR F (.slice aa args.length ak) args → (0 ≤ f ∧ f < (P.length : Int) ∧ (P.getD f.toNat default).params = (args.length : Int)) → IntOK nc s N → s.most.toNat < n → s.over = false → s.long = false →
 C Tryd.prog 1 (KT 60 ex 37 tabC) 66 [.pointer (some ⟨b, 0, none⟩), .int .i64 f, .slice aa args.length ak] H fun v H' => v = .int .i64 (ce P s f args).2 ∧ in64 (ce P s f args).2 ∧ IntP (.of H (b :: q.map Prod.fst)) F R P la lk b (ce P s f args).1 H'
theorem jP (ex : FuncId) {F : Fz} {H : Heap} {R : List Fp} {b : Nat} {J c1 c2 O T U V Z c8 c9 z : Value} (k c : Int) (hs : HS (.of H [b]) F H [[(b, .cells [J, c1, c2, O, T, U, V, Z, c8, c9, z] none false)]] R) : C Tryd.prog 1 (KT 60 ex 37 tabC) 81 [.pointer (some ⟨b, 0, none⟩), .int .i64 k, .int .i64 c] H fun v H' => HS (.of H [b]) F H' [[(b, .cells [J, c1, c2, O, T, .int .i64 k, .int .i64 c, .slice none 0 0, .int .i64 0, .bool true, z] none false)]] R ∧ v = .tuple #[] := by
 refine aL Tryd.func81 rfl rfl ?_
 refine ab ?_
 refine wRo 7 0 [] 6 12 [] [(7, (.pointer (some ⟨b, 0, none⟩))), (10, (.agg ⟨[(iI k), (iI c), (.slice none 0 0), (iI 0)]⟩)), (12, (.pointer (some ⟨b, 9, none⟩)))] trivial rfl fun _ => ?_
 refine aU (aG (q := 0) hs rfl rfl rfl rfl rfl rfl rfl rfl rfl) rfl ?_
 rintro _ H2 _ ⟨A, _⟩
 have A : HS _ _ _ [[(b, .cells [J, c1, c2, O, T, U, V, Z, c8, (.bool true), z] none false)]] _ := A
 refine wRo 2 8 [] 13 14 [] [(14, (.pointer (some ⟨b, 5, none⟩)))] trivial rfl fun _ => ?_
 refine aU (aG (q := 0) A rfl rfl rfl rfl rfl rfl rfl rfl rfl) rfl ?_
 rintro _ H4 _ ⟨I, _⟩
 have I : HS _ _ _ [[(b, .cells [J, c1, c2, O, T, (iI k), (iI c), (.slice none 0 0), (iI 0), (.bool true), z] none false)]] _ := I
 refine ai 0 rfl ?_
 exact aE ⟨.inl rfl, _, rfl, I, rfl⟩
theorem istep_c (ex : FuncId) {F : Fz} {H : Heap} {R : List Fp} {b : Nat} {I c1 c2 J O T U V Z : Value} (m : Int) (lg : Bool) (hs : HS (.of H [b]) F H [[(b, .cells [I, c1, c2, .int .i64 m, J, O, T, U, V, Z, .bool lg] none false)]] R) (hm : m ≤ 1000000) : C Tryd.prog 1 (KT 60 ex 37 tabC) 79 [.pointer (some ⟨b, 0, none⟩)] H fun v H' => ∃ (bv : Bool) (m' : Int) (lg' : Bool), HS (.of H [b]) F H' [[(b, .cells [I, c1, c2, .int .i64 m', J, O, T, U, V, Z, .bool lg'] none false)]] R ∧ v = .bool bv ∧ ((bv = true ∧ 0 < m ∧ m' = m - 1 ∧ lg' = lg) ∨ (bv = false ∧ m ≤ 0 ∧ m' = m ∧ lg' = true)) := by
 refine aL Tryd.func79 rfl rfl ?_
 refine ao 1 rfl ?_
 refine wR 3 [] 2 2 [] [(2, (.bool false))] trivial rfl fun _ => ?_
 refine wR 1 [(3, .o (iI m))] 3 7 [] [(7, (.bool (decide (m ≤ 0))))] (vA (ql 3 3 (HS.hc hs (i := 0) rfl) rfl rfl) trivial) rfl fun _ => ?_
 refine am 1 2 (v := (decide (m ≤ 0))) rfl rfl rfl rfl (fun c3 => ?_) (fun c3 => ?_)
 ·
  try simp only [BS] at c3
  refine ab ?_
  refine wRo 3 0 [] 8 10 [] [(10, (.pointer (some ⟨b, 10, none⟩)))] trivial rfl fun _ => ?_
  refine aU (aG (q := 0) hs rfl rfl rfl rfl rfl rfl rfl rfl rfl) rfl ?_
  rintro _ H5 _ ⟨z, _⟩
  have z : HS _ _ _ [[(b, .cells [I, c1, c2, (iI m), J, O, T, U, V, Z, (.bool true)] none false)]] _ := z
  refine ai 2 rfl ?_
  refine wR 1 [] 2 2 [] [(2, (.bool false))] trivial rfl fun _ => ?_
  exact ah ⟨.inr rfl, _, rfl, _, _, _, z, rfl, .inr ⟨rfl, by omega, rfl, rfl⟩⟩
 ·
  try simp only [BS] at c3
  refine ab ?_
  refine wRo 7 0 [(3, .o (iI m))] 11 17 [] [(15, (iI (m - 1))), (17, (.pointer (some ⟨b, 3, none⟩)))] (vA (ql 3 3 (HS.hc hs (i := 0) rfl) rfl rfl) (vA (vi (n := m - 1) (by omega)) trivial)) rfl fun _ => ?_
  refine aU (aG (q := 0) hs rfl rfl rfl rfl rfl rfl rfl rfl rfl) rfl ?_
  rintro _ H8 _ ⟨A, _⟩
  have A : HS _ _ _ [[(b, .cells [I, c1, c2, (iI (m - 1)), J, O, T, U, V, Z, (.bool lg)] none false)]] _ := A
  refine ai 2 rfl ?_
  refine wR 1 [] 2 2 [] [(2, (.bool true))] trivial rfl fun _ => ?_
  exact ah ⟨.inr rfl, _, rfl, _, _, _, A, rfl, .inl ⟨rfl, by omega, rfl, rfl⟩⟩
set_option maxHeartbeats 4000000 in
theorem do_c (ex : FuncId) {F : Fz} {H : Heap} {R : List Fp} {b : Nat} {la : Option Addr} {lk : Nat} {ca : Option Addr} {cn ck : Nat} {oa : Option Addr} {on ok : Nat} {q pg : Fp} {ra : Option Addr} {rn rk : Nat} {aa : Option Addr} {ak : Nat} {va : Option Addr} {vk : Nat} {P : List VFnT} {nc N n : Nat} {c : VFnT} (s : IntS) (r args : List Int) (v : VInT) (hs : HS (.of H (b :: (q ++ pg).map Prod.fst)) F H [[(b, .cells [.slice la P.length lk, .slice ca cn ck, .int .i64 s.fuel, .int .i64 s.most, .slice oa on ok, .int .i64 s.kind, .int .i64 s.code, .slice none 0 0, .int .i64 0, .bool s.over, .bool s.long] none false)], q, pg] R) (hq : IntQ F s ca cn ck oa on ok q) (hr : OS F (.slice ra rn rk) r pg) (hP : SR F (.slice la P.length lk) P) (ha : SR F (.slice aa args.length ak) args) (hva : SR F (.slice va v.args.length vk) v.args) (hvi : in64 v.i.op ∧ in64 v.i.a ∧ in64 v.i.b ∧ in64 v.i.c ∧ in64 v.i.n) (hp : PrF P nc) (hI : InF P nc c v) (hR : InR c v) (hrl : (r.length : Int) = c.regs) (hal : (args.length : Int) = c.params) (wf : IntOK nc s N) (hN : N ≤ 1000000) (ih : CallSpec ex P nc N n) (hmn : s.most.toNat < n) (hso : s.over = false) (hsl : s.long = false) (hcnt : s.out.length + 1 ≤ N) : C Tryd.prog 1 (KT 60 ex 37 tabC) 80 [.pointer (some ⟨b, 0, none⟩), .agg ⟨[.int .i64 v.i.op, .int .i64 v.i.a, .int .i64 v.i.b, .int .i64 v.i.c, .int .i64 v.i.n, .slice va v.args.length vk]⟩, .slice ra rn rk, .slice aa args.length ak] H fun v' H' => v' = .tuple #[] ∧ DoP (.of H (b :: (q ++ pg).map Prod.fst)) F R P la lk b ra rn rk (doC P s r args v) H' := by
 obtain rfl := OS.nlen hr
 obtain ⟨hd, pc, pr, po, hsO, U, y2, V⟩ := IntQ.open (L := [pg]) hq hs
 obtain rfl := OS.nlen U; obtain rfl := OS.nlen V
 obtain ⟨pq, pu, pw, px, py⟩ := hvi
 have hgr : ∀ n : Int, in64 (r.getD n.toNat 0) := fun n => sv_in (OS.sv hr hsO (i := 4) rfl) n
 have hcl := wf.cells; have hfu := wf.fuel; have hmo := wf.most; have hct := wf.cnt; have pf := FAM.len y2; have hga := sv_in (SR.sv ha hsO)
 have hia := hI.a; have hib := hI.b; have hic := hI.cc; have hiA := hI.args; have hiM := hI.mem; have hiP := hI.par; have hiC := hI.call; have hiL := hI.al; have hra := hR.a; have hrb := hR.b; have hrc := hR.cc; have hrg := hR.arg
 clear hs hq
 refine aL Tryd.func80 rfl rfl ?_
 refine ao 1 rfl ?_
 refine ab ?_
 refine aR (cw hsO rfl rfl) rfl rfl ?_
 rintro _ H2 _ ⟨b1, rfl, g9, _⟩
 let h5 : Fp := [(b, .cells [(.slice la P.length lk), (.slice ca hd.length ck), (iI s.fuel), (iI s.most), (.slice oa s.out.length ok), (iI s.kind), (iI s.code), (.slice none 0 0), (iI 0), (.bool s.over), (.bool s.long)] none false)]
 let O : Fp := [(b1, .cells [(iI v.i.op), (iI v.i.a), (iI v.i.b), (iI v.i.c), (iI v.i.n), (.slice va v.args.length vk)] none false)]
 have g9 : HS _ _ _ [h5, pc, pr, po, pg, O] _ := g9
 refine ai 2 rfl ?_
 refine ab ?_
 let c8 : Value := (.agg ⟨[(iI v.i.op), (iI v.i.a), (iI v.i.b), (iI v.i.c), (iI v.i.n)]⟩)
 refine wRo 2 0 [(1, .o c8)] 11 12 [] [(12, c8)] (vA (qn 45 0 5 (HS.hc g9 (i := 5) rfl) rfl rfl rfl rfl) trivial) rfl fun _ => ?_
 refine aR (bK g9 rfl) rfl rfl ?_
 rintro _ H5 _ ⟨A, rfl, hQ, _⟩
 have hQ : HS _ _ _ [_, _, _, _, _, _, [(A, .cells [(iI 0), (iI 0), (iI 0), (iI 0), (iI 0)] none false)]] _ := hQ
 refine aU (aG (q := 6) hQ rfl rfl rfl rfl rfl rfl rfl rfl rfl) rfl ?_
 rintro _ H6 _ ⟨z, _⟩
 let T : Fp := [(A, .cells [(iI v.i.op), (iI v.i.a), (iI v.i.b), (iI v.i.c), (iI v.i.n)] none false)]
 have z : HS _ _ _ [_, _, _, _, _, _, T] _ := z
 refine ai 2 rfl ?_
 refine wR 3 [(1, .o (iI v.i.op))] 13 14 [] [(14, (iI v.i.op))] (vA (ql 3 0 (HS.hc z (i := 6) rfl) rfl rfl) trivial) rfl fun _ => ?_
 refine wR 1 [] 50 51 [] [(50, (.bool (v.i.op == 3)))] trivial rfl fun _ => ?_
 refine am 1 1 (v := (v.i.op == 3)) rfl rfl rfl rfl (fun c9 => ?_) (fun c9 => ?_)
 ·
  try simp only [BS] at c9
  refine wR 1 [(3, .o (iI s.fuel))] 52 56 [] [(56, (.bool (s.fuel == 0)))] (vA (ql 3 2 (HS.hc z (i := 0) rfl) rfl rfl) trivial) rfl fun _ => ?_
  refine am 0 0 (v := (s.fuel == 0)) rfl rfl rfl rfl (fun hf => ?_) (fun hf => ?_)
  ·
   try simp only [BS] at hf
   refine ab ?_
   refine wm (.pointer (some ⟨b, 0, none⟩)) rfl rfl rfl ?_
   refine aD (az rfl rfl rfl) rfl rfl (jP ex (3) (0) (HS.callOwn z (i := 0) rfl)) ?_
   rintro _ o4 ⟨c7, rfl⟩
   replace c7 := HS.backOwn z (i := 0) rfl rfl (fun _ hb => hb) c7
   have c7 : HS _ _ _ [[(b, .cells [(.slice la P.length lk), (.slice ca hd.length ck), (iI s.fuel), (iI s.most), (.slice oa s.out.length ok), (iI 3), (iI 0), (.slice none 0 0), (iI 0), (.bool true), (.bool s.long)] none false)], pc, pr, po, pg, O, T] _ := c7
   refine ai 1 rfl ?_
   exact aE ⟨.inl rfl, _, rfl, rfl, DoP.mk (L := [O, T]) (by unfold doC; (repeat (first | rw [if_pos (by omega)] | rw [if_neg (by omega)] | (unfold doV; dsimp only [rg, ist]) | (unfold iW; dsimp only [rg, ist]))); first | done | rfl | (unfold ru; first | rw [if_pos (by omega)] | rw [if_neg (by omega)]) | rw [← bJ (hgr _) (hgr _) (by omega)]) c7 fR U y2 V hr⟩
  ·
   try simp only [BS] at hf
   refine ab ?_
   refine wRo 7 0 [(3, .o (iI s.fuel))] 59 65 [] [(63, (iI (s.fuel - 1))), (65, (.pointer (some ⟨b, 2, none⟩)))] (vA (ql 3 2 (HS.hc z (i := 0) rfl) rfl rfl) (vA (vi (n := s.fuel - 1) (by omega)) trivial)) rfl fun _ => ?_
   refine aU (aG (q := 0) z rfl rfl rfl rfl rfl rfl rfl rfl rfl) rfl ?_
   rintro _ o5 _ ⟨f3, _⟩
   have f3 : HS _ _ _ [[(b, .cells [(.slice la P.length lk), (.slice ca hd.length ck), (iI (s.fuel - 1)), (iI s.most), (.slice oa s.out.length ok), (iI s.kind), (iI s.code), (.slice none 0 0), (iI 0), (.bool s.over), (.bool s.long)] none false)], _, _, _, _, _, _] _ := f3
   refine ai 1 rfl ?_
   exact aE ⟨.inl rfl, _, rfl, rfl, DoP.mk (L := [O, T]) (by unfold doC; (repeat (first | rw [if_pos (by omega)] | rw [if_neg (by omega)] | (unfold doV; dsimp only [rg, ist]) | (unfold iW; dsimp only [rg, ist]))); first | done | rfl | (unfold ru; first | rw [if_pos (by omega)] | rw [if_neg (by omega)]) | rw [← bJ (hgr _) (hgr _) (by omega)]) f3 fR U y2 V hr⟩
 ·
  try simp only [BS] at c9
  refine wR 1 [] 66 67 [] [(66, (.bool (v.i.op == 6)))] trivial rfl fun _ => ?_
  refine am 1 1 (v := (v.i.op == 6)) rfl rfl rfl rfl (fun hg => ?_) (fun hg => ?_)
  ·
   try simp only [BS] at hg
   refine wR 3 [] 1 0 [9] [(9, (.slice none 0 0))] trivial rfl fun _ => ?_
   refine wR 2 [] 1 0 [10] [(10, (iI 0))] trivial rfl fun _ => ?_
   have f4 := HS.snoc z
   have f4 : HS _ _ _ [_, _, _, _, _, _, _, []] _ := f4
   refine aC (fun (mm : Nat) f H' => ∃ (ag : List Int) (j : Nat) (a3 : Option Addr) (a4 : Nat) (b5 : Fp) (F' : Fz), Fz.le F F' ∧ HS (Base.of H (b :: (q ++ pg).map Prod.fst)) F' H' [h5, pc, pr, po, pg, O, T, b5] R ∧ OS F' (.slice a3 ag.length a4) ag b5 ∧ aT f [(0, (.pointer (some ⟨b, 0, none⟩))), (2, (.slice ra r.length rk)), (5, (.pointer (some ⟨b1, 0, none⟩))), (8, (.pointer (some ⟨A, 0, none⟩))), (9, (.slice a3 ag.length a4)), (10, (iI (j : Int)))] ∧ mm = v.args.length - j ∧ (ag = (v.args.take j).map (rg r)) ∧ (j ≤ v.args.length)) _ ⟨([] : List Int), 0, none, 0, [], _, fR, f4, (OS.nil : OS F (.slice none 0 0) ([] : List Int) []), (agC rfl (agC rfl (agC rfl (agC rfl (agC rfl (agC rfl agN)))))), rfl, (by rfl), (by omega)⟩ ?_
   rintro o0 pe o6 ⟨ag, j, a3, a4, b5, o2, a1, aj, ey, hC, rfl, e, hj⟩ mL
   refine aH _ hC (fun _ => ?_)
   clear hC
   replace hP := hP.mono a1
   replace hr := hr.mono a1
   replace hva := hva.mono a1
   replace U := U.mono a1
   replace V := V.mono a1
   replace y2 := SF.mono a1 y2
   have hag : ag.length ≤ 6 := by rw [e, List.length_map, List.length_take]; omega
   have hgj := hrg j
   refine ao 2 rfl ?_
   refine wR 1 [(2, .o (.slice va v.args.length vk))] 68 72 [] [(72, (.bool (decide ((j : Int) < (v.args.length : Int)))))] (vA (ql 25 5 (HS.hc aj (i := 5) rfl) rfl rfl) trivial) rfl fun _ => ?_
   refine am 3 4 (v := (decide ((j : Int) < (v.args.length : Int)))) rfl rfl rfl rfl (fun hh => ?_) (fun hh => ?_)
   ·
    try simp only [BS] at hh
    refine ab ?_
    obtain ⟨oL, hS⟩ := Sv.view (SR.sv hva aj)
    have ph := fI (hS j)
    obtain ⟨oM, hT⟩ := Sv.view (OS.sv hr aj (i := 4) rfl)
    have pi := fI (hT (v.args.getD j 0).toNat)
    refine wRo 9 0 [(3, .o (.slice va v.args.length vk)), (6, .o (iI (v.args.getD j 0))), (8, .o (iI (r.getD (v.args.getD j 0).toNat 0)))] 75 83 [] [(75, (.slice a3 ag.length a4)), (83, (iI (r.getD (v.args.getD j 0).toNat 0)))] (vA (ql 25 5 (HS.hc aj (i := 5) rfl) rfl rfl) (vA (Sv.ix (j := (j : Int)) (SR.sv hva aj) (by omega) (by omega)) (vA (ql 3 0 (vI (hS j) (by omega)) rfl rfl) (vA (Sv.ix (j := (v.args.getD j 0)) (OS.sv hr aj (i := 4) rfl) (by omega) (by omega)) (vA (ql 2 0 (vI (hT (v.args.getD j 0).toNat) (by omega)) rfl rfl) trivial))))) rfl fun _ => ?_
    refine aR (ct (α := Int) (ps := [(0, (iI (r.getD (v.args.getD j 0).toNat 0)))]) (cells := [(iI (r.getD (v.args.getD j 0).toNat 0))]) ([(r.getD (v.args.getD j 0).toNat 0)] : List Int) aj rfl rfl rfl (by kernel_rfl) ⟨[(iI (r.getD (v.args.getD j 0).toNat 0))], [], rfl, ⟨rfl, by omega⟩, rfl⟩ rfl) rfl rfl ?_
    rintro _ o7 nF ⟨pb, pz, rfl, mA, ei, _⟩
    have ei : HS _ _ _ [_, _, _, _, _, _, _, b5, nF] _ := ei
    refine aR (cQ (α := Int) (q := 7) ey ei rfl rfl rfl (OS.sv mA ei (i := 8) rfl) rfl rfl rfl rfl rfl rfl rfl (by first | omega | (simp only [List.length_cons, List.length_nil]; omega))) rfl rfl ?_
    rintro _ o8 l2 ⟨lY, l0, rfl, mB, f6, _⟩
    have f6 : HS _ _ _ [_, _, _, _, _, _, _, l2, _] _ := f6
    refine wa (.slice lY (ag ++ ([(r.getD (v.args.getD j 0).toNat 0)] : List Int)).length l0) rfl rfl rfl ?_
    refine ai 2 rfl ?_
    refine wR 1 [] 73 74 [10] [(10, (iI ((j : Int) + 1)))] (vA (vi (n := (j : Int) + 1) (by omega)) trivial) rfl fun _ => ?_
    refine mL _ _ _ ?_ ⟨ag ++ ([(r.getD (v.args.getD j 0).toNat 0)] : List Int), j + 1, lY, l0, l2, _, (a1), (HS.sub f6 (List.sublist_append_left _ _)), mB, (agC rfl (agC rfl (agC rfl (agC rfl (agC rfl (agC rfl agN)))))), rfl, (by exact map_step e (by omega)), (by omega)⟩
    omega
   ·
    try simp only [BS] at hh
    refine aV rfl ?_
    refine fm (.slice ra r.length rk) rfl rfl rfl ?_
    refine wfv (v := (.pointer (some ⟨A, 1, none⟩))) (bQ rfl rfl) ?_
    refine au (v := (iI v.i.a)) (id := .l A) (aP (i := 1) rfl rfl (HS.hc aj.log0 (i := 6) rfl) rfl rfl) rfl rfl (bg rfl) (kb rfl) ?_
    refine fm (.pointer (some ⟨b, 0, none⟩)) rfl rfl rfl ?_
    refine wfv (v := (.pointer (some ⟨A, 4, none⟩))) (bQ rfl rfl) ?_
    refine au (v := (iI v.i.n)) (id := .l A) (aP (i := 4) rfl rfl (HS.hc aj.log0 (i := 6) rfl) rfl rfl) rfl rfl (bg rfl) (kb rfl) ?_
    refine fm (.slice a3 ag.length a4) rfl rfl rfl ?_
    obtain ⟨na, b6, f7, mE, oZ⟩ := OS.frz ey aj (i := 7) rfl
    have f7 : HS _ _ _ [_, _, _, _, _, _, _, _] _ := f7
    replace hP := hP.mono b6
    replace U := U.mono b6
    replace V := V.mono b6
    replace y2 := SF.mono b6 y2
    have hmap := map_all e (by omega)
    obtain ⟨h4, av, d1⟩ := IntQ.close (s := s) (L := [pg, O, T, []]) f7 U y2 V
    have av : HS _ _ _ [h5, h4, pg, O, T, []] _ := av
    replace d1 : IntQ na s _ _ _ _ _ _ _ := d1
    skip
    refine de (W := (b :: h4.map Prod.fst)) (az rfl rfl rfl) rfl rfl rfl (by rw [hmap]; exact (ih s v.i.n (v.args.map (rg r)) (HS.call2 av.log0 (i := 0) (j := 1) (by decide) rfl rfl) d1 hP (by rw [← hmap]; exact mE) ⟨(hiC (by omega)).1, (hiC (by omega)).2.1, by rw [List.length_map]; exact (hiC (by omega)).2.2⟩ wf hmn hso hsl)) (⟨.inl rfl, ⟨.inl rfl, ⟨.inl rfl, ⟨.inl rfl, ⟨.inr (nin2 (HS.nin av (i := 4) (j := 0) rfl rfl (by decide) (List.Mem.head _)) (HS.nin av (i := 4) (j := 1) rfl rfl (by decide) (List.Mem.head _))), ⟨.inr trivial, ⟨.inr trivial, trivial⟩⟩⟩⟩⟩⟩⟩) ?_
    rintro _ ne ⟨rfl, ol, o3, mq, ms, mr, mY, m0, mZ, m9, hB, Z, mD⟩
    refine ⟨HS.didW Z, fun mM jq => ?_⟩
    replace Z := HS.back2 av.log0 (i := 0) (j := 1) (by decide) rfl rfl rfl (fun _ hb => hb) Z
    replace Z := HS.lg Z av jq
    generalize ({ ne with log := mM } : Heap) = oz at Z ⊢
    have Z : HS _ _ _ [[(b, .cells [(.slice la P.length lk), (.slice mq ms mr), (iI ((ce P s v.i.n (v.args.map (rg r))).1.fuel)), (iI ((ce P s v.i.n (v.args.map (rg r))).1.most)), (.slice mY m0 mZ), (iI ((ce P s v.i.n (v.args.map (rg r))).1.kind)), (iI ((ce P s v.i.n (v.args.map (rg r))).1.code)), (.slice none 0 0), (iI 0), (.bool ((ce P s v.i.n (v.args.map (rg r))).1.over)), (.bool ((ce P s v.i.n (v.args.map (rg r))).1.long))] none false)], m9, pg, O, T, []] _ := Z
    replace hr := (hr.mono b6).mono hB
    refine wfv (v := (.pointer (some ⟨sB (.slice ra r.length rk), sO (.slice ra r.length rk) + v.i.a.toNat * Rp.sz Int, none⟩))) (aW (α := Int) (j := v.i.a) rfl rfl rfl rfl (OS.sv hr Z.log0 (i := 2) rfl) (by omega) (by omega)) ?_
    refine eu (id := .x (pg.map Prod.fst)) (eh (α := Int) (j := v.i.a.toNat) (off := 0) (q := 2) ((ce P s v.i.n (v.args.map (rg r))).2) hr Z.log0 rfl rfl rfl rfl rfl rfl rfl rfl (aS (x := (0 : Int)) (by omega)) rfl (by rintro cs ⟨rfl, _⟩; exact ⟨Nat.le_of_ble_eq_true rfl, rfl, by omega⟩)) rfl (by rintro _ _ l3 ⟨e5, _, hwr⟩; exact cF rfl rfl (Wr.did hwr)) (kb rfl) ?_
    rintro _ ng l3 ⟨e5, b7, _⟩ mN j2
    replace b7 := HS.lg b7 Z j2
    generalize ({ ng with log := mN } : Heap) = oA at b7 ⊢
    have b7 : HS _ _ _ [_, _, l3, _, _, _] _ := b7
    have oc := OS.len' e5
    refine bZ ?_
    refine ao 1 rfl ?_
    have hfin : doC P s r args v = ((ce P s v.i.n (v.args.map (rg r))).1, r.set v.i.a.toNat ((ce P s v.i.n (v.args.map (rg r))).2)) := by unfold doC; rw [if_pos (by omega)]
    exact aE ⟨.inl rfl, _, rfl, rfl, (by rw [hfin]; exact ⟨_, _, _, _, _, _, _, _, _, (fT (fT (a1) b6) hB), HS.sub b7 (List.sublist_append_left [_, _, _] _), mD, e5⟩)⟩
  ·
   try simp only [BS] at hg
   refine wR 1 [] 95 96 [] [(95, (.bool (v.i.op == 9)))] trivial rfl fun _ => ?_
   refine am 0 1 (v := (v.i.op == 9)) rfl rfl rfl rfl (fun hk => ?_) (fun hk => ?_)
   ·
    try simp only [BS] at hk
    refine aV rfl ?_
    refine fm (.pointer (some ⟨b, 0, none⟩)) rfl rfl rfl ?_
    refine fm (.pointer (some ⟨b, 0, none⟩)) rfl rfl rfl ?_
    refine wfv (v := (.pointer (some ⟨b, 0, none⟩))) (iu rfl) ?_
    refine wfv (v := (.pointer (some ⟨b, 4, none⟩))) (bQ rfl rfl) ?_
    refine au (v := (.slice oa s.out.length ok)) (id := .l b) (aP (i := 4) rfl rfl (HS.hc z.log0 (i := 0) rfl) rfl rfl) rfl rfl (bg rfl) (kb rfl) ?_
    refine fm (.slice ra r.length rk) rfl rfl rfl ?_
    refine wfv (v := (.pointer (some ⟨A, 1, none⟩))) (bQ rfl rfl) ?_
    refine au (v := (iI v.i.a)) (id := .l A) (aP (i := 1) rfl rfl (HS.hc z.log0 (i := 6) rfl) rfl rfl) rfl rfl (bg rfl) (kb rfl) ?_
    refine wfv (v := (.pointer (some ⟨sB (.slice ra r.length rk), sO (.slice ra r.length rk) + v.i.a.toNat * Rp.sz Int, none⟩))) (aW (α := Int) (j := v.i.a) rfl rfl rfl rfl (OS.sv hr z.log0 (i := 4) rfl) (by omega) (by omega)) ?_
    obtain ⟨oP, mF, mu⟩ := Sv.at (OS.sv hr z.log0 (i := 4) rfl) (aS (x := (0 : Int)) (show v.i.a.toNat < r.length from by first | omega | exact hgr _ | exact hga _ | exact bf wf.rows _ | exact unV_in | exact aM _ | (split <;> exact aM _) | (rw [bJ (hgr _) (hgr _) (by omega)]; exact bn (hgr _)) | (dsimp only; omega)))
    obtain ⟨rfl, n5⟩ := mF
    refine au (v := (iI (r.getD v.i.a.toNat 0))) (id := .l (sB (.slice ra r.length rk))) (aP (i := 0) rfl rfl mu rfl rfl) rfl rfl (bg rfl) (kb rfl) ?_
    refine dO (id := .a) (ct (α := Int) (ps := [(0, (iI (r.getD v.i.a.toNat 0)))]) (cells := [(iI (r.getD v.i.a.toNat 0))]) ([(r.getD v.i.a.toNat 0)] : List Int) z.log0 rfl rfl rfl (by kernel_rfl) ⟨[(iI (r.getD v.i.a.toNat 0))], [], rfl, ⟨rfl, by omega⟩, rfl⟩ rfl) rfl rfl (fun _ _ _ _ => did_a rfl rfl rfl) (kb rfl) ?_
    rintro _ nh l4 ⟨pd, pA, rfl, mC, a2, _⟩ mO kd
    replace a2 := HS.lg a2 z kd
    generalize ({ nh with log := mO } : Heap) = oB at a2 ⊢
    have a2 : HS _ _ _ [_, _, _, _, _, _, _, l4] _ := a2
    refine dO (id := .x (po.map Prod.fst)) (cQ (α := Int) (q := 3) V a2.log0 rfl rfl rfl (OS.sv mC a2.log0 (i := 7) rfl) rfl rfl rfl rfl rfl rfl rfl (by first | omega | (simp only [List.length_cons, List.length_nil]; omega))) rfl rfl (by rintro _ _ l5 ⟨lZ, l1, rfl, hL, _, hwr⟩; exact cF rfl rfl (Wr.did hwr)) (kb rfl) ?_
    rintro _ ni l5 ⟨lZ, l1, rfl, hL, bl, _⟩ mP ki
    replace bl := HS.lg bl a2 ki
    generalize ({ ni with log := mP } : Heap) = oC at bl ⊢
    have bl : HS _ _ _ [_, _, _, l5, _, _, _, _] _ := bl
    refine wfv (v := (.pointer (some ⟨b, 0, none⟩))) (iu rfl) ?_
    refine wfv (v := (.pointer (some ⟨b, 4, none⟩))) (bQ rfl rfl) ?_
    refine eu (id := .x [b]) (aG (q := 0) bl.log0 rfl rfl rfl rfl rfl rfl rfl rfl rfl) rfl (by rintro _ _ _ ⟨_, hwr⟩; exact cF rfl rfl (Wr.did hwr)) (kb rfl) ?_
    rintro _ nj _ ⟨b9, _⟩ mQ kk
    replace b9 := HS.lg b9 bl kk
    generalize ({ nj with log := mQ } : Heap) = oD at b9 ⊢
    have b9 : HS _ _ _ [[(b, .cells [(.slice la P.length lk), (.slice ca hd.length ck), (iI s.fuel), (iI s.most), (.slice lZ (s.out ++ ([(r.getD v.i.a.toNat 0)] : List Int)).length l1), (iI s.kind), (iI s.code), (.slice none 0 0), (iI 0), (.bool s.over), (.bool s.long)] none false)], _, _, _, _, _, _, _] _ := b9
    refine bZ ?_
    refine ao 1 rfl ?_
    exact aE ⟨.inl rfl, _, rfl, rfl, DoP.mk (L := [O, T, l4]) (by unfold doC; (repeat (first | rw [if_pos (by omega)] | rw [if_neg (by omega)] | (unfold doV; dsimp only [rg, ist]) | (unfold iW; dsimp only [rg, ist]))); first | done | rfl | (unfold ru; first | rw [if_pos (by omega)] | rw [if_neg (by omega)]) | rw [← bJ (hgr _) (hgr _) (by omega)]) b9 fR U y2 hL hr⟩
   ·
    try simp only [BS] at hk
    refine wR 1 [] 111 112 [] [(111, (.bool (v.i.op == 10)))] trivial rfl fun _ => ?_
    refine am 0 1 (v := (v.i.op == 10)) rfl rfl rfl rfl (fun hl => ?_) (fun hl => ?_)
    ·
     try simp only [BS] at hl
     refine aV rfl ?_
     refine fm (.slice ra r.length rk) rfl rfl rfl ?_
     refine wfv (v := (.pointer (some ⟨A, 1, none⟩))) (bQ rfl rfl) ?_
     refine au (v := (iI v.i.a)) (id := .l A) (aP (i := 1) rfl rfl (HS.hc z.log0 (i := 6) rfl) rfl rfl) rfl rfl (bg rfl) (kb rfl) ?_
     refine fm (.slice ra r.length rk) rfl rfl rfl ?_
     refine wfv (v := (.pointer (some ⟨A, 2, none⟩))) (bQ rfl rfl) ?_
     refine au (v := (iI v.i.b)) (id := .l A) (aP (i := 2) rfl rfl (HS.hc z.log0 (i := 6) rfl) rfl rfl) rfl rfl (bg rfl) (kb rfl) ?_
     refine wfv (v := (.pointer (some ⟨sB (.slice ra r.length rk), sO (.slice ra r.length rk) + v.i.b.toNat * Rp.sz Int, none⟩))) (aW (α := Int) (j := v.i.b) rfl rfl rfl rfl (OS.sv hr z.log0 (i := 4) rfl) (by omega) (by omega)) ?_
     obtain ⟨oQ, mG, mv⟩ := Sv.at (OS.sv hr z.log0 (i := 4) rfl) (aS (x := (0 : Int)) (show v.i.b.toNat < r.length from by first | omega | exact hgr _ | exact hga _ | exact bf wf.rows _ | exact unV_in | exact aM _ | (split <;> exact aM _) | (rw [bJ (hgr _) (hgr _) (by omega)]; exact bn (hgr _)) | (dsimp only; omega)))
     obtain ⟨rfl, n6⟩ := mG
     refine au (v := (iI (r.getD v.i.b.toNat 0))) (id := .l (sB (.slice ra r.length rk))) (aP (i := 0) rfl rfl mv rfl rfl) rfl rfl (bg rfl) (kb rfl) ?_
     refine wfv (v := (.pointer (some ⟨sB (.slice ra r.length rk), sO (.slice ra r.length rk) + v.i.a.toNat * Rp.sz Int, none⟩))) (aW (α := Int) (j := v.i.a) rfl rfl rfl rfl (OS.sv hr z.log0 (i := 4) rfl) (by omega) (by omega)) ?_
     refine eu (id := .x (pg.map Prod.fst)) (eh (α := Int) (j := v.i.a.toNat) (off := 0) (q := 4) (r.getD v.i.b.toNat 0) hr z.log0 rfl rfl rfl rfl rfl rfl rfl rfl (aS (x := (0 : Int)) (by omega)) rfl (by rintro cs ⟨rfl, _⟩; exact ⟨Nat.le_of_ble_eq_true rfl, rfl, by omega⟩)) rfl (by rintro _ _ l6 ⟨e6, _, hwr⟩; exact cF rfl rfl (Wr.did hwr)) (kb rfl) ?_
     rintro _ nk l6 ⟨e6, ch, _⟩ mR kl
     replace ch := HS.lg ch z kl
     generalize ({ nk with log := mR } : Heap) = oE at ch ⊢
     have ch : HS _ _ _ [_, _, _, _, l6, _, _] _ := ch
     have od := OS.len' e6
     refine bZ ?_
     refine ao 1 rfl ?_
     exact aE ⟨.inl rfl, _, rfl, rfl, DoP.mk (L := [O, T]) (by unfold doC; (repeat (first | rw [if_pos (by omega)] | rw [if_neg (by omega)] | (unfold doV; dsimp only [rg, ist]) | (unfold iW; dsimp only [rg, ist]))); first | done | rfl | (unfold ru; first | rw [if_pos (by omega)] | rw [if_neg (by omega)]) | rw [← bJ (hgr _) (hgr _) (by omega)]) ch fR U y2 V e6⟩
    ·
     try simp only [BS] at hl
     refine wR 1 [] 122 123 [] [(122, (.bool (v.i.op == 11)))] trivial rfl fun _ => ?_
     refine am 1 1 (v := (v.i.op == 11)) rfl rfl rfl rfl (fun hm => ?_) (fun hm => ?_)
     ·
      try simp only [BS] at hm
      obtain ⟨oN, hV⟩ := Sv.view (OS.sv hr z (i := 4) rfl)
      have pj := fI (hV v.i.c.toNat)
      refine wR 1 [(2, .o (iI v.i.c)), (4, .o (iI (r.getD v.i.c.toNat 0)))] 124 129 [] [(129, (.bool ((r.getD v.i.c.toNat 0) == 0)))] (vA (ql 3 3 (HS.hc z (i := 6) rfl) rfl rfl) (vA (Sv.ix (j := v.i.c) (OS.sv hr z (i := 4) rfl) (by omega) (by omega)) (vA (ql 2 0 (vI (hV v.i.c.toNat) (by omega)) rfl rfl) trivial))) rfl fun _ => ?_
      refine am 0 1 (v := ((r.getD v.i.c.toNat 0) == 0)) rfl rfl rfl rfl (fun hn => ?_) (fun hn => ?_)
      ·
       try simp only [BS] at hn
       refine aV rfl ?_
       refine fm (.slice ra r.length rk) rfl rfl rfl ?_
       refine wfv (v := (.pointer (some ⟨A, 1, none⟩))) (bQ rfl rfl) ?_
       refine au (v := (iI v.i.a)) (id := .l A) (aP (i := 1) rfl rfl (HS.hc z.log0 (i := 6) rfl) rfl rfl) rfl rfl (bg rfl) (kb rfl) ?_
       refine fm (.slice ra r.length rk) rfl rfl rfl ?_
       refine wfv (v := (.pointer (some ⟨A, 2, none⟩))) (bQ rfl rfl) ?_
       refine au (v := (iI v.i.b)) (id := .l A) (aP (i := 2) rfl rfl (HS.hc z.log0 (i := 6) rfl) rfl rfl) rfl rfl (bg rfl) (kb rfl) ?_
       refine wfv (v := (.pointer (some ⟨sB (.slice ra r.length rk), sO (.slice ra r.length rk) + v.i.b.toNat * Rp.sz Int, none⟩))) (aW (α := Int) (j := v.i.b) rfl rfl rfl rfl (OS.sv hr z.log0 (i := 4) rfl) (by omega) (by omega)) ?_
       obtain ⟨oR, mH, mw⟩ := Sv.at (OS.sv hr z.log0 (i := 4) rfl) (aS (x := (0 : Int)) (show v.i.b.toNat < r.length from by first | omega | exact hgr _ | exact hga _ | exact bf wf.rows _ | exact unV_in | exact aM _ | (split <;> exact aM _) | (rw [bJ (hgr _) (hgr _) (by omega)]; exact bn (hgr _)) | (dsimp only; omega)))
       obtain ⟨rfl, n7⟩ := mH
       refine au (v := (iI (r.getD v.i.b.toNat 0))) (id := .l (sB (.slice ra r.length rk))) (aP (i := 0) rfl rfl mw rfl rfl) rfl rfl (bg rfl) (kb rfl) ?_
       refine wfv (v := (.pointer (some ⟨sB (.slice ra r.length rk), sO (.slice ra r.length rk) + v.i.a.toNat * Rp.sz Int, none⟩))) (aW (α := Int) (j := v.i.a) rfl rfl rfl rfl (OS.sv hr z.log0 (i := 4) rfl) (by omega) (by omega)) ?_
       refine eu (id := .x (pg.map Prod.fst)) (eh (α := Int) (j := v.i.a.toNat) (off := 0) (q := 4) (r.getD v.i.b.toNat 0) hr z.log0 rfl rfl rfl rfl rfl rfl rfl rfl (aS (x := (0 : Int)) (by omega)) rfl (by rintro cs ⟨rfl, _⟩; exact ⟨Nat.le_of_ble_eq_true rfl, rfl, by omega⟩)) rfl (by rintro _ _ l7 ⟨e9, _, hwr⟩; exact cF rfl rfl (Wr.did hwr)) (kb rfl) ?_
       rintro _ nm l7 ⟨e9, ci, _⟩ mS kn
       replace ci := HS.lg ci z kn
       generalize ({ nm with log := mS } : Heap) = oF at ci ⊢
       have ci : HS _ _ _ [_, _, _, _, l7, _, _] _ := ci
       have oe := OS.len' e9
       refine bZ ?_
       refine ao 1 rfl ?_
       exact aE ⟨.inl rfl, _, rfl, rfl, DoP.mk (L := [O, T]) (by unfold doC; (repeat (first | rw [if_pos (by omega)] | rw [if_neg (by omega)] | (unfold doV; dsimp only [rg, ist]) | (unfold iW; dsimp only [rg, ist]))); first | done | rfl | (unfold ru; first | rw [if_pos (by omega)] | rw [if_neg (by omega)]) | rw [← bJ (hgr _) (hgr _) (by omega)]) ci fR U y2 V e9⟩
      ·
       try simp only [BS] at hn
       exact aE ⟨.inl rfl, _, rfl, rfl, DoP.mk (L := [O, T]) (by unfold doC; (repeat (first | rw [if_pos (by omega)] | rw [if_neg (by omega)] | (unfold doV; dsimp only [rg, ist]) | (unfold iW; dsimp only [rg, ist]))); first | done | rfl | (unfold ru; first | rw [if_pos (by omega)] | rw [if_neg (by omega)]) | rw [← bJ (hgr _) (hgr _) (by omega)]) z fR U y2 V hr⟩
     ·
      try simp only [BS] at hm
      refine wR 1 [] 139 140 [] [(139, (.bool (v.i.op == 12)))] trivial rfl fun _ => ?_
      refine am 1 1 (v := (v.i.op == 12)) rfl rfl rfl rfl (fun ht => ?_) (fun ht => ?_)
      ·
       try simp only [BS] at ht
       obtain ⟨oO, hW⟩ := Sv.view (OS.sv hr z (i := 4) rfl)
       have pm := fI (hW v.i.c.toNat)
       refine wR 1 [(2, .o (iI v.i.c)), (4, .o (iI (r.getD v.i.c.toNat 0)))] 141 146 [] [(146, (.bool ((r.getD v.i.c.toNat 0) != 0)))] (vA (ql 3 3 (HS.hc z (i := 6) rfl) rfl rfl) (vA (Sv.ix (j := v.i.c) (OS.sv hr z (i := 4) rfl) (by omega) (by omega)) (vA (ql 2 0 (vI (hW v.i.c.toNat) (by omega)) rfl rfl) trivial))) rfl fun _ => ?_
       refine am 0 1 (v := ((r.getD v.i.c.toNat 0) != 0)) rfl rfl rfl rfl (fun hu => ?_) (fun hu => ?_)
       ·
        try simp only [BS] at hu
        refine aV rfl ?_
        refine fm (.slice ra r.length rk) rfl rfl rfl ?_
        refine wfv (v := (.pointer (some ⟨A, 1, none⟩))) (bQ rfl rfl) ?_
        refine au (v := (iI v.i.a)) (id := .l A) (aP (i := 1) rfl rfl (HS.hc z.log0 (i := 6) rfl) rfl rfl) rfl rfl (bg rfl) (kb rfl) ?_
        refine fm (.slice ra r.length rk) rfl rfl rfl ?_
        refine wfv (v := (.pointer (some ⟨A, 2, none⟩))) (bQ rfl rfl) ?_
        refine au (v := (iI v.i.b)) (id := .l A) (aP (i := 2) rfl rfl (HS.hc z.log0 (i := 6) rfl) rfl rfl) rfl rfl (bg rfl) (kb rfl) ?_
        refine wfv (v := (.pointer (some ⟨sB (.slice ra r.length rk), sO (.slice ra r.length rk) + v.i.b.toNat * Rp.sz Int, none⟩))) (aW (α := Int) (j := v.i.b) rfl rfl rfl rfl (OS.sv hr z.log0 (i := 4) rfl) (by omega) (by omega)) ?_
        obtain ⟨oS, mI, mx⟩ := Sv.at (OS.sv hr z.log0 (i := 4) rfl) (aS (x := (0 : Int)) (show v.i.b.toNat < r.length from by first | omega | exact hgr _ | exact hga _ | exact bf wf.rows _ | exact unV_in | exact aM _ | (split <;> exact aM _) | (rw [bJ (hgr _) (hgr _) (by omega)]; exact bn (hgr _)) | (dsimp only; omega)))
        obtain ⟨rfl, n8⟩ := mI
        refine au (v := (iI (r.getD v.i.b.toNat 0))) (id := .l (sB (.slice ra r.length rk))) (aP (i := 0) rfl rfl mx rfl rfl) rfl rfl (bg rfl) (kb rfl) ?_
        refine wfv (v := (.pointer (some ⟨sB (.slice ra r.length rk), sO (.slice ra r.length rk) + v.i.a.toNat * Rp.sz Int, none⟩))) (aW (α := Int) (j := v.i.a) rfl rfl rfl rfl (OS.sv hr z.log0 (i := 4) rfl) (by omega) (by omega)) ?_
        refine eu (id := .x (pg.map Prod.fst)) (eh (α := Int) (j := v.i.a.toNat) (off := 0) (q := 4) (r.getD v.i.b.toNat 0) hr z.log0 rfl rfl rfl rfl rfl rfl rfl rfl (aS (x := (0 : Int)) (by omega)) rfl (by rintro cs ⟨rfl, _⟩; exact ⟨Nat.le_of_ble_eq_true rfl, rfl, by omega⟩)) rfl (by rintro _ _ l8 ⟨fd, _, hwr⟩; exact cF rfl rfl (Wr.did hwr)) (kb rfl) ?_
        rintro _ nn l8 ⟨fd, co, _⟩ mT kp
        replace co := HS.lg co z kp
        generalize ({ nn with log := mT } : Heap) = oG at co ⊢
        have co : HS _ _ _ [_, _, _, _, l8, _, _] _ := co
        have og := OS.len' fd
        refine bZ ?_
        refine ao 1 rfl ?_
        exact aE ⟨.inl rfl, _, rfl, rfl, DoP.mk (L := [O, T]) (by unfold doC; (repeat (first | rw [if_pos (by omega)] | rw [if_neg (by omega)] | (unfold doV; dsimp only [rg, ist]) | (unfold iW; dsimp only [rg, ist]))); first | done | rfl | (unfold ru; first | rw [if_pos (by omega)] | rw [if_neg (by omega)]) | rw [← bJ (hgr _) (hgr _) (by omega)]) co fR U y2 V fd⟩
       ·
        try simp only [BS] at hu
        exact aE ⟨.inl rfl, _, rfl, rfl, DoP.mk (L := [O, T]) (by unfold doC; (repeat (first | rw [if_pos (by omega)] | rw [if_neg (by omega)] | (unfold doV; dsimp only [rg, ist]) | (unfold iW; dsimp only [rg, ist]))); first | done | rfl | (unfold ru; first | rw [if_pos (by omega)] | rw [if_neg (by omega)]) | rw [← bJ (hgr _) (hgr _) (by omega)]) z fR U y2 V hr⟩
      ·
       try simp only [BS] at ht
       refine wR 1 [] 156 157 [] [(156, (.bool (v.i.op == 13)))] trivial rfl fun _ => ?_
       refine am 0 2 (v := (v.i.op == 13)) rfl rfl rfl rfl (fun hv => ?_) (fun hv => ?_)
       ·
        try simp only [BS] at hv
        refine ab ?_
        refine wRo 6 0 [(2, .o (iI v.i.a)), (4, .o (iI v.i.n))] 158 163 [] [(162, (iI v.i.n)), (163, (.pointer (some ⟨sB (.slice ra r.length rk), sO (.slice ra r.length rk) + v.i.a.toNat * Rp.sz Int, none⟩)))] (vA (ql 3 1 (HS.hc z (i := 6) rfl) rfl rfl) (vA (ql 2 4 (HS.hc z (i := 6) rfl) rfl rfl) (vA (Sv.ix (j := v.i.a) (OS.sv hr z (i := 4) rfl) (by omega) (by omega)) trivial))) rfl fun _ => ?_
        refine aU (eh (α := Int) (j := v.i.a.toNat) (off := 0) (q := 4) v.i.n hr z rfl rfl rfl rfl rfl rfl rfl rfl (aS (x := (0 : Int)) (by omega)) rfl (by rintro cs ⟨rfl, _⟩; exact ⟨Nat.le_of_ble_eq_true rfl, rfl, by omega⟩)) rfl ?_
        rintro _ o9 nG ⟨hM, f9, _⟩
        have f9 : HS _ _ _ [_, _, _, _, nG, _, _] _ := f9
        have oh := OS.len' hM
        refine ai 1 rfl ?_
        exact aE ⟨.inl rfl, _, rfl, rfl, DoP.mk (L := [O, T]) (by unfold doC; (repeat (first | rw [if_pos (by omega)] | rw [if_neg (by omega)] | (unfold doV; dsimp only [rg, ist]) | (unfold iW; dsimp only [rg, ist]))); first | done | rfl | (unfold ru; first | rw [if_pos (by omega)] | rw [if_neg (by omega)]) | rw [← bJ (hgr _) (hgr _) (by omega)]) f9 fR U y2 V hM⟩
       ·
        try simp only [BS] at hv
        refine wR 1 [] 164 165 [] [(164, (.bool (v.i.op == 15)))] trivial rfl fun _ => ?_
        refine am 1 0 (v := (v.i.op == 15)) rfl rfl rfl rfl (fun dd => ?_) (fun dd => ?_)
        ·
         have hw := dd
         try simp only [BS] at hw
         refine bh 0 (v := (v.i.op == 15)) rfl dd rfl rfl ?_
         refine aV rfl ?_
         refine fm (.slice ra r.length rk) rfl rfl rfl ?_
         refine wfv (v := (.pointer (some ⟨A, 1, none⟩))) (bQ rfl rfl) ?_
         refine au (v := (iI v.i.a)) (id := .l A) (aP (i := 1) rfl rfl (HS.hc z.log0 (i := 6) rfl) rfl rfl) rfl rfl (bg rfl) (kb rfl) ?_
         refine wfv (v := (.pointer (some ⟨A, 0, none⟩))) (bQ rfl rfl) ?_
         refine au (v := (iI v.i.op)) (id := .l A) (aP (i := 0) rfl rfl (HS.hc z.log0 (i := 6) rfl) rfl rfl) rfl rfl (bg rfl) (kb rfl) ?_
         refine fm (.slice ra r.length rk) rfl rfl rfl ?_
         refine wfv (v := (.pointer (some ⟨A, 1, none⟩))) (bQ rfl rfl) ?_
         refine au (v := (iI v.i.a)) (id := .l A) (aP (i := 1) rfl rfl (HS.hc z.log0 (i := 6) rfl) rfl rfl) rfl rfl (bg rfl) (kb rfl) ?_
         refine wfv (v := (.pointer (some ⟨sB (.slice ra r.length rk), sO (.slice ra r.length rk) + v.i.a.toNat * Rp.sz Int, none⟩))) (aW (α := Int) (j := v.i.a) rfl rfl rfl rfl (OS.sv hr z.log0 (i := 4) rfl) (by omega) (by omega)) ?_
         obtain ⟨oT, mJ, my⟩ := Sv.at (OS.sv hr z.log0 (i := 4) rfl) (aS (x := (0 : Int)) (show v.i.a.toNat < r.length from by first | omega | exact hgr _ | exact hga _ | exact bf wf.rows _ | exact unV_in | exact aM _ | (split <;> exact aM _) | (rw [bJ (hgr _) (hgr _) (by omega)]; exact bn (hgr _)) | (dsimp only; omega)))
         obtain ⟨rfl, n9⟩ := mJ
         refine au (v := (iI (r.getD v.i.a.toNat 0))) (id := .l (sB (.slice ra r.length rk))) (aP (i := 0) rfl rfl my rfl rfl) rfl rfl (bg rfl) (kb rfl) ?_
         refine de (W := []) (az rfl rfl rfl) rfl rfl rfl (jw.run_c ex v.i.op (r.getD v.i.a.toNat 0) _) (⟨.inl rfl, ⟨.inl rfl, ⟨.inl rfl, ⟨.inl rfl, ⟨.inl rfl, ⟨.inl rfl, ⟨.inl rfl, ⟨.inr List.not_mem_nil, ⟨.inr trivial, ⟨.inr trivial, trivial⟩⟩⟩⟩⟩⟩⟩⟩⟩⟩) ?_
         rintro _ _ ⟨pB, rfl, rfl, rfl⟩
         refine ⟨fun b hb => absurd hb List.not_mem_nil, fun mU kr => ?_⟩
         have el := HS.lg z.log0 z kr
         generalize ({ { H6 with log := [] } with log := mU } : Heap) = oH at el ⊢
         refine wfv (v := (.pointer (some ⟨sB (.slice ra r.length rk), sO (.slice ra r.length rk) + v.i.a.toNat * Rp.sz Int, none⟩))) (aW (α := Int) (j := v.i.a) rfl rfl rfl rfl (OS.sv hr el.log0 (i := 4) rfl) (by omega) (by omega)) ?_
         refine eu (id := .x (pg.map Prod.fst)) (eh (α := Int) (j := v.i.a.toNat) (off := 0) (q := 4) (if v.i.op = 15 then w64 (0 - (r.getD v.i.a.toNat 0)) else w64 (-1 - (r.getD v.i.a.toNat 0))) hr el.log0 rfl rfl rfl rfl rfl rfl rfl rfl (aS (x := (0 : Int)) (by first | omega | exact hgr _ | exact hga _ | exact bf wf.rows _ | exact unV_in | exact aM _ | (split <;> exact aM _) | (rw [bJ (hgr _) (hgr _) (by omega)]; exact bn (hgr _)) | (dsimp only; omega))) rfl (by rintro cs ⟨rfl, _⟩; exact ⟨Nat.le_of_ble_eq_true rfl, rfl, by first | omega | exact hgr _ | exact hga _ | exact bf wf.rows _ | exact unV_in | exact aM _ | (split <;> exact aM _) | (rw [bJ (hgr _) (hgr _) (by omega)]; exact bn (hgr _)) | (dsimp only; omega)⟩)) rfl (by rintro _ _ l9 ⟨fi, _, hwr⟩; exact cF rfl rfl (Wr.did hwr)) (kb rfl) ?_
         rintro _ np l9 ⟨fi, cv, _⟩ mV kt
         replace cv := HS.lg cv el kt
         generalize ({ np with log := mV } : Heap) = oI at cv ⊢
         have cv : HS _ _ _ [_, _, _, _, l9, _, _] _ := cv
         have oi := OS.len' fi
         refine bZ ?_
         refine ao 1 rfl ?_
         exact aE ⟨.inl rfl, _, rfl, rfl, DoP.mk (L := [O, T]) (by unfold doC; (repeat (first | rw [if_pos (by omega)] | rw [if_neg (by omega)] | (unfold doV; dsimp only [rg, ist]) | (unfold iW; dsimp only [rg, ist]))); first | done | rfl | (unfold ru; first | rw [if_pos (by omega)] | rw [if_neg (by omega)]) | rw [← bJ (hgr _) (hgr _) (by omega)]) cv fR U y2 V fi⟩
        ·
         have hw := dd
         try simp only [BS] at hw
         refine wR 1 [] 164 166 [] [(164, (.bool (v.i.op == 16)))] trivial rfl fun _ => ?_
         refine am 0 1 (v := (v.i.op == 16)) rfl rfl rfl rfl (fun hz => ?_) (fun hz => ?_)
         ·
          try simp only [BS] at hz
          refine aV rfl ?_
          refine fm (.slice ra r.length rk) rfl rfl rfl ?_
          refine wfv (v := (.pointer (some ⟨A, 1, none⟩))) (bQ rfl rfl) ?_
          refine au (v := (iI v.i.a)) (id := .l A) (aP (i := 1) rfl rfl (HS.hc z.log0 (i := 6) rfl) rfl rfl) rfl rfl (bg rfl) (kb rfl) ?_
          refine wfv (v := (.pointer (some ⟨A, 0, none⟩))) (bQ rfl rfl) ?_
          refine au (v := (iI v.i.op)) (id := .l A) (aP (i := 0) rfl rfl (HS.hc z.log0 (i := 6) rfl) rfl rfl) rfl rfl (bg rfl) (kb rfl) ?_
          refine fm (.slice ra r.length rk) rfl rfl rfl ?_
          refine wfv (v := (.pointer (some ⟨A, 1, none⟩))) (bQ rfl rfl) ?_
          refine au (v := (iI v.i.a)) (id := .l A) (aP (i := 1) rfl rfl (HS.hc z.log0 (i := 6) rfl) rfl rfl) rfl rfl (bg rfl) (kb rfl) ?_
          refine wfv (v := (.pointer (some ⟨sB (.slice ra r.length rk), sO (.slice ra r.length rk) + v.i.a.toNat * Rp.sz Int, none⟩))) (aW (α := Int) (j := v.i.a) rfl rfl rfl rfl (OS.sv hr z.log0 (i := 4) rfl) (by omega) (by omega)) ?_
          obtain ⟨oU, mK, mz⟩ := Sv.at (OS.sv hr z.log0 (i := 4) rfl) (aS (x := (0 : Int)) (show v.i.a.toNat < r.length from by first | omega | exact hgr _ | exact hga _ | exact bf wf.rows _ | exact unV_in | exact aM _ | (split <;> exact aM _) | (rw [bJ (hgr _) (hgr _) (by omega)]; exact bn (hgr _)) | (dsimp only; omega)))
          obtain ⟨rfl, ob⟩ := mK
          refine au (v := (iI (r.getD v.i.a.toNat 0))) (id := .l (sB (.slice ra r.length rk))) (aP (i := 0) rfl rfl mz rfl rfl) rfl rfl (bg rfl) (kb rfl) ?_
          refine de (W := []) (az rfl rfl rfl) rfl rfl rfl (jw.run_c ex v.i.op (r.getD v.i.a.toNat 0) _) (⟨.inl rfl, ⟨.inl rfl, ⟨.inl rfl, ⟨.inl rfl, ⟨.inl rfl, ⟨.inl rfl, ⟨.inl rfl, ⟨.inr List.not_mem_nil, ⟨.inr trivial, ⟨.inr trivial, trivial⟩⟩⟩⟩⟩⟩⟩⟩⟩⟩) ?_
          rintro _ _ ⟨pC, rfl, rfl, rfl⟩
          refine ⟨fun b hb => absurd hb List.not_mem_nil, fun mW kz => ?_⟩
          have em := HS.lg z.log0 z kz
          generalize ({ { H6 with log := [] } with log := mW } : Heap) = oJ at em ⊢
          refine wfv (v := (.pointer (some ⟨sB (.slice ra r.length rk), sO (.slice ra r.length rk) + v.i.a.toNat * Rp.sz Int, none⟩))) (aW (α := Int) (j := v.i.a) rfl rfl rfl rfl (OS.sv hr em.log0 (i := 4) rfl) (by omega) (by omega)) ?_
          refine eu (id := .x (pg.map Prod.fst)) (eh (α := Int) (j := v.i.a.toNat) (off := 0) (q := 4) (if v.i.op = 15 then w64 (0 - (r.getD v.i.a.toNat 0)) else w64 (-1 - (r.getD v.i.a.toNat 0))) hr em.log0 rfl rfl rfl rfl rfl rfl rfl rfl (aS (x := (0 : Int)) (by first | omega | exact hgr _ | exact hga _ | exact bf wf.rows _ | exact unV_in | exact aM _ | (split <;> exact aM _) | (rw [bJ (hgr _) (hgr _) (by omega)]; exact bn (hgr _)) | (dsimp only; omega))) rfl (by rintro cs ⟨rfl, _⟩; exact ⟨Nat.le_of_ble_eq_true rfl, rfl, by first | omega | exact hgr _ | exact hga _ | exact bf wf.rows _ | exact unV_in | exact aM _ | (split <;> exact aM _) | (rw [bJ (hgr _) (hgr _) (by omega)]; exact bn (hgr _)) | (dsimp only; omega)⟩)) rfl (by rintro _ _ me ⟨fj, _, hwr⟩; exact cF rfl rfl (Wr.did hwr)) (kb rfl) ?_
          rintro _ nq me ⟨fj, c0, _⟩ mX k0
          replace c0 := HS.lg c0 em k0
          generalize ({ nq with log := mX } : Heap) = oK at c0 ⊢
          have c0 : HS _ _ _ [_, _, _, _, me, _, _] _ := c0
          have oj := OS.len' fj
          refine bZ ?_
          refine ao 1 rfl ?_
          exact aE ⟨.inl rfl, _, rfl, rfl, DoP.mk (L := [O, T]) (by unfold doC; (repeat (first | rw [if_pos (by omega)] | rw [if_neg (by omega)] | (unfold doV; dsimp only [rg, ist]) | (unfold iW; dsimp only [rg, ist]))); first | done | rfl | (unfold ru; first | rw [if_pos (by omega)] | rw [if_neg (by omega)]) | rw [← bJ (hgr _) (hgr _) (by omega)]) c0 fR U y2 V fj⟩
         ·
          try simp only [BS] at hz
          refine wR 1 [] 179 180 [] [(179, (.bool (v.i.op == 33)))] trivial rfl fun _ => ?_
          refine am 0 2 (v := (v.i.op == 33)) rfl rfl rfl rfl (fun hA => ?_) (fun hA => ?_)
          ·
           try simp only [BS] at hA
           refine aV rfl ?_
           refine fm (.slice ra r.length rk) rfl rfl rfl ?_
           refine wfv (v := (.pointer (some ⟨A, 1, none⟩))) (bQ rfl rfl) ?_
           refine au (v := (iI v.i.a)) (id := .l A) (aP (i := 1) rfl rfl (HS.hc z.log0 (i := 6) rfl) rfl rfl) rfl rfl (bg rfl) (kb rfl) ?_
           refine wfv (v := (.pointer (some ⟨sB (.slice ra r.length rk), sO (.slice ra r.length rk) + v.i.a.toNat * Rp.sz Int, none⟩))) (aW (α := Int) (j := v.i.a) rfl rfl rfl rfl (OS.sv hr z.log0 (i := 4) rfl) (by omega) (by omega)) ?_
           obtain ⟨nS, k3, ik⟩ := Sv.at (OS.sv hr z.log0 (i := 4) rfl) (aS (x := (0 : Int)) (show v.i.a.toNat < r.length from by first | omega | exact hgr _ | exact hga _ | exact bf wf.rows _ | exact unV_in | exact aM _ | (split <;> exact aM _) | (rw [bJ (hgr _) (hgr _) (by omega)]; exact bn (hgr _)) | (dsimp only; omega)))
           obtain ⟨rfl, ns⟩ := k3
           refine au (v := (iI (r.getD v.i.a.toNat 0))) (id := .l (sB (.slice ra r.length rk))) (aP (i := 0) rfl rfl ik rfl rfl) rfl rfl (bg rfl) (kb rfl) ?_
           refine wfv (v := (.pointer (some ⟨A, 4, none⟩))) (bQ rfl rfl) ?_
           refine au (v := (iI v.i.n)) (id := .l A) (aP (i := 4) rfl rfl (HS.hc z.log0 (i := 6) rfl) rfl rfl) rfl rfl (bg rfl) (kb rfl) ?_
           refine wfv (v := (iI (IntKind.i64.wrap ((r.getD v.i.a.toNat 0) + v.i.n)))) (ap_add rfl rfl rfl) ?_
           refine wfv (v := (.pointer (some ⟨sB (.slice ra r.length rk), sO (.slice ra r.length rk) + v.i.a.toNat * Rp.sz Int, none⟩))) (aW (α := Int) (j := v.i.a) rfl rfl rfl rfl (OS.sv hr z.log0 (i := 4) rfl) (by omega) (by omega)) ?_
           refine eu (id := .x (pg.map Prod.fst)) (eh (α := Int) (j := v.i.a.toNat) (off := 0) (q := 4) (IntKind.i64.wrap ((r.getD v.i.a.toNat 0) + v.i.n)) hr z.log0 rfl rfl rfl rfl rfl rfl rfl rfl (aS (x := (0 : Int)) (by first | omega | exact hgr _ | exact hga _ | exact bf wf.rows _ | exact unV_in | exact aM _ | (split <;> exact aM _) | (rw [bJ (hgr _) (hgr _) (by omega)]; exact bn (hgr _)) | (dsimp only; omega))) rfl (by rintro cs ⟨rfl, _⟩; exact ⟨Nat.le_of_ble_eq_true rfl, rfl, by first | omega | exact hgr _ | exact hga _ | exact bf wf.rows _ | exact unV_in | exact aM _ | (split <;> exact aM _) | (rw [bJ (hgr _) (hgr _) (by omega)]; exact bn (hgr _)) | (dsimp only; omega)⟩)) rfl (by rintro _ _ hX ⟨dl, _, hwr⟩; exact cF rfl rfl (Wr.did hwr)) (kb rfl) ?_
           rintro _ mg hX ⟨dl, a7, _⟩ lS hD
           replace a7 := HS.lg a7 z hD
           generalize ({ mg with log := lS } : Heap) = nH at a7 ⊢
           have a7 : HS _ _ _ [_, _, _, _, hX, _, _] _ := a7
           have nA := OS.len' dl
           refine bZ ?_
           refine ao 1 rfl ?_
           exact aE ⟨.inl rfl, _, rfl, rfl, DoP.mk (L := [O, T]) (by unfold doC; (repeat (first | rw [if_pos (by omega)] | rw [if_neg (by omega)] | (unfold doV; dsimp only [rg, ist]) | (unfold iW; dsimp only [rg, ist]))); first | done | rfl | (unfold ru; first | rw [if_pos (by omega)] | rw [if_neg (by omega)]) | rw [← bJ (hgr _) (hgr _) (by omega)]) a7 fR U y2 V dl⟩
          ·
           try simp only [BS] at hA
           refine wR 1 [] 190 191 [] [(190, (.bool (v.i.op == 34)))] trivial rfl fun _ => ?_
           refine am 1 0 (v := (v.i.op == 34)) rfl rfl rfl rfl (fun a5 => ?_) (fun a5 => ?_)
           ·
            have ez := a5
            try simp only [BS] at ez
            refine bh 0 (v := (v.i.op == 34)) rfl a5 rfl rfl ?_
            refine ab ?_
            refine wRo 3 0 [(1, .o c8)] 193 195 [] [(193, (.pointer (some ⟨b, 0, none⟩))), (194, c8), (195, (.slice ra r.length rk))] (vA (qn 45 0 5 (HS.hc z (i := 6) rfl) rfl rfl rfl rfl) trivial) rfl fun _ => ?_
            refine aD (R := fun w' H' => w' = .tuple #[] ∧ DoP (.of H (b :: (q ++ pg).map Prod.fst)) F R P la lk b ra r.length rk (doC P s r args v) H') (az rfl rfl rfl) rfl rfl ?_ ?_
            ·
             refine aL Tryd.func94 rfl rfl ?_
             refine ao 1 rfl ?_
             refine ab ?_
             refine aR (cw z rfl rfl) rfl rfl ?_
             rintro _ oq _ ⟨c5, rfl, aq, _⟩
             let et : Fp := [(c5, .cells [(iI v.i.op), (iI v.i.a), (iI v.i.b), (iI v.i.c), (iI v.i.n)] none false)]
             have aq : HS _ _ _ [_, _, _, _, _, _, _, et] _ := aq
             refine ai 2 rfl ?_
             obtain ⟨nN, lQ⟩ := Sv.view (OS.sv U aq (i := 1) rfl)
             obtain ⟨gn, dk, I, ap, g3⟩ := SF.open y2 aq (q := 2) (i := v.i.n.toNat) rfl (by omega)
             have I : HS _ _ _ [_, _, gn, _, _, _, _, _, dk] _ := I
             have ap : OS F (.slice (hd.getD v.i.n.toNat default).a (hd.getD v.i.n.toNat default).n (hd.getD v.i.n.toNat default).k) (s.cells.getD v.i.n.toNat default) dk := ap
             have om := OS.nlen ap
             refine wRD 3 [(3, .o (.slice ca hd.length ck)), (5, .o (iI v.i.n)), (7, .o (.slice (hd.getD v.i.n.toNat default).a (hd.getD v.i.n.toNat default).n (hd.getD v.i.n.toNat default).k))] 7 14 [6] [(6, (.slice (hd.getD v.i.n.toNat default).a (hd.getD v.i.n.toNat default).n (hd.getD v.i.n.toNat default).k))] (vA (ql 99 1 (hc0 (HS.hc aq (i := 0) rfl)) rfl rfl) (vA (ql 2 4 (hc0 (HS.hc aq (i := 7) rfl)) rfl rfl) (vA (Sv.ix (j := v.i.n) (OS.sv U aq (i := 1) rfl) (by omega) (by omega)) (vA (ql 52 0 (hc0 (vH (lQ v.i.n.toNat) (by omega))) rfl rfl) trivial)))) rfl rfl fun _ => ?_
             obtain ⟨nO, ep⟩ := Sv.view (OS.sv hr I (i := 4) rfl)
             have oW := fI (ep v.i.b.toNat)
             refine wR 1 [(2, .o (iI v.i.b)), (4, .o (iI (r.getD v.i.b.toNat 0))), (9, .o (iI v.i.b)), (11, .o (iI (r.getD v.i.b.toNat 0)))] 27 43 [] [(27, (.bool ((decide ((r.getD v.i.b.toNat 0) < 0)) || (decide (((hd.getD v.i.n.toNat default).n : Int) ≤ (r.getD v.i.b.toNat 0))))))] (vA (ql 3 2 (HS.hc I (i := 7) rfl) rfl rfl) (vA (Sv.ix (j := v.i.b) (OS.sv hr I (i := 4) rfl) (by omega) (by omega)) (vA (ql 2 0 (vI (ep v.i.b.toNat) (by omega)) rfl rfl) (vA (fun (g1 : (decide ((r.getD v.i.b.toNat 0) < 0)) = false) => (ql 3 2 (HS.hc I (i := 7) rfl) rfl rfl)) (vA (fun (g1 : (decide ((r.getD v.i.b.toNat 0) < 0)) = false) => (Sv.ix (j := v.i.b) (OS.sv hr I (i := 4) rfl) (by (try simp only [BS] at g1); (first | omega | exact hgr _ | exact hga _ | exact bf wf.rows _ | exact unV_in | exact aM _ | (split <;> exact aM _) | (rw [bJ (hgr _) (hgr _) (by omega)]; exact bn (hgr _)) | (dsimp only; omega))) (by (try simp only [BS] at g1); (first | omega | exact hgr _ | exact hga _ | exact bf wf.rows _ | exact unV_in | exact aM _ | (split <;> exact aM _) | (rw [bJ (hgr _) (hgr _) (by omega)]; exact bn (hgr _)) | (dsimp only; omega))))) (vA (fun (g1 : (decide ((r.getD v.i.b.toNat 0) < 0)) = false) => (ql 2 0 (vI (ep v.i.b.toNat) (by (try simp only [BS] at g1); (first | omega | exact hgr _ | exact hga _ | exact bf wf.rows _ | exact unV_in | exact aM _ | (split <;> exact aM _) | (rw [bJ (hgr _) (hgr _) (by omega)]; exact bn (hgr _)) | (dsimp only; omega)))) rfl rfl)) trivial)))))) rfl fun _ => ?_
             refine am 0 1 (v := ((decide ((r.getD v.i.b.toNat 0) < 0)) || (decide (((hd.getD v.i.n.toNat default).n : Int) ≤ (r.getD v.i.b.toNat 0))))) rfl rfl rfl rfl (fun e0 => ?_) (fun e0 => ?_)
             ·
              try simp only [BS] at e0
              refine ab ?_
              refine wm (.pointer (some ⟨b, 0, none⟩)) rfl rfl rfl ?_
              refine aD (az rfl rfl rfl) rfl rfl (jP ex (2) (2) (HS.callOwn I (i := 0) rfl)) ?_
              rintro _ ot ⟨b0, rfl⟩
              replace b0 := HS.backOwn I (i := 0) rfl rfl (fun _ hb => hb) b0
              have b0 : HS _ _ _ [[(b, .cells [(.slice la P.length lk), (.slice ca hd.length ck), (iI s.fuel), (iI s.most), (.slice oa s.out.length ok), (iI 2), (iI 2), (.slice none 0 0), (iI 0), (.bool true), (.bool s.long)] none false)], pc, gn, po, pg, O, T, et, dk] _ := b0
              refine ai 1 rfl ?_
              obtain ⟨h6, d2, g5⟩ := SF.shut0 g3 fR b0 (q := 2) (m := 8) (by decide) rfl rfl ap
              have d2 : HS _ _ _ [_, _, h6, _, _, _, _, _, []] _ := d2
              have n1 := FAM.len g5
              exact aE ⟨.inl rfl, _, rfl, rfl, DoP.mk (L := [O, T, et, []]) (by unfold doC; (repeat (first | rw [if_pos (by omega)] | rw [if_neg (by omega)] | (unfold doV; dsimp only [rg, ist]) | (unfold iW; dsimp only [rg, ist]))); first | done | rfl | (unfold ru; first | rw [if_pos (by omega)] | rw [if_neg (by omega)]) | rw [← bJ (hgr _) (hgr _) (by omega)]) d2 fR U g5 V hr⟩
             ·
              try simp only [BS] at e0
              refine wR 1 [(1, .o (iI v.i.op))] 46 49 [] [(46, (.bool (v.i.op == 34)))] (vA (ql 3 0 (HS.hc I (i := 7) rfl) rfl rfl) trivial) rfl fun _ => ?_
              refine bh 0 (v := (v.i.op == 34)) rfl a5 rfl rfl ?_
              refine aV rfl ?_
              refine fm (.slice ra r.length rk) rfl rfl rfl ?_
              refine wfv (v := (.pointer (some ⟨c5, 1, none⟩))) (bQ rfl rfl) ?_
              refine au (v := (iI v.i.a)) (id := .l c5) (aP (i := 1) rfl rfl (HS.hc I.log0 (i := 7) rfl) rfl rfl) rfl rfl (bg rfl) (kb rfl) ?_
              refine fm (.slice (hd.getD v.i.n.toNat default).a (hd.getD v.i.n.toNat default).n (hd.getD v.i.n.toNat default).k) rfl rfl rfl ?_
              refine fm (.slice ra r.length rk) rfl rfl rfl ?_
              refine wfv (v := (.pointer (some ⟨c5, 2, none⟩))) (bQ rfl rfl) ?_
              refine au (v := (iI v.i.b)) (id := .l c5) (aP (i := 2) rfl rfl (HS.hc I.log0 (i := 7) rfl) rfl rfl) rfl rfl (bg rfl) (kb rfl) ?_
              refine wfv (v := (.pointer (some ⟨sB (.slice ra r.length rk), sO (.slice ra r.length rk) + v.i.b.toNat * Rp.sz Int, none⟩))) (aW (α := Int) (j := v.i.b) rfl rfl rfl rfl (OS.sv hr I.log0 (i := 4) rfl) (by omega) (by omega)) ?_
              obtain ⟨nT, k4, il⟩ := Sv.at (OS.sv hr I.log0 (i := 4) rfl) (aS (x := (0 : Int)) (show v.i.b.toNat < r.length from by first | omega | exact hgr _ | exact hga _ | exact bf wf.rows _ | exact unV_in | exact aM _ | (split <;> exact aM _) | (rw [bJ (hgr _) (hgr _) (by omega)]; exact bn (hgr _)) | (dsimp only; omega)))
              obtain ⟨rfl, nt⟩ := k4
              refine au (v := (iI (r.getD v.i.b.toNat 0))) (id := .l (sB (.slice ra r.length rk))) (aP (i := 0) rfl rfl il rfl rfl) rfl rfl (bg rfl) (kb rfl) ?_
              refine wfv (v := (.pointer (some ⟨sB (.slice (hd.getD v.i.n.toNat default).a (hd.getD v.i.n.toNat default).n (hd.getD v.i.n.toNat default).k), sO (.slice (hd.getD v.i.n.toNat default).a (hd.getD v.i.n.toNat default).n (hd.getD v.i.n.toNat default).k) + (r.getD v.i.b.toNat 0).toNat * Rp.sz Int, none⟩))) (aW (α := Int) (j := (r.getD v.i.b.toNat 0)) rfl rfl rfl rfl (OS.sv ap I.log0 (i := 8) rfl) (by omega) (by omega)) ?_
              obtain ⟨nU, k5, iv⟩ := Sv.at (OS.sv ap I.log0 (i := 8) rfl) (aS (x := (0 : Int)) (show (r.getD v.i.b.toNat 0).toNat < (s.cells.getD v.i.n.toNat default).length from by first | omega | exact hgr _ | exact hga _ | exact bf wf.rows _ | exact unV_in | exact aM _ | (split <;> exact aM _) | (rw [bJ (hgr _) (hgr _) (by omega)]; exact bn (hgr _)) | (dsimp only; omega)))
              obtain ⟨rfl, nu⟩ := k5
              refine au (v := (iI ((s.cells.getD v.i.n.toNat default).getD (r.getD v.i.b.toNat 0).toNat 0))) (id := .l (sB (.slice (hd.getD v.i.n.toNat default).a (hd.getD v.i.n.toNat default).n (hd.getD v.i.n.toNat default).k))) (aP (i := 0) rfl rfl iv rfl rfl) rfl rfl (bg rfl) (kb rfl) ?_
              refine wfv (v := (.pointer (some ⟨sB (.slice ra r.length rk), sO (.slice ra r.length rk) + v.i.a.toNat * Rp.sz Int, none⟩))) (aW (α := Int) (j := v.i.a) rfl rfl rfl rfl (OS.sv hr I.log0 (i := 4) rfl) (by omega) (by omega)) ?_
              refine eu (id := .x (pg.map Prod.fst)) (eh (α := Int) (j := v.i.a.toNat) (off := 0) (q := 4) ((s.cells.getD v.i.n.toNat default).getD (r.getD v.i.b.toNat 0).toNat 0) hr I.log0 rfl rfl rfl rfl rfl rfl rfl rfl (aS (x := (0 : Int)) (by omega)) rfl (by rintro cs ⟨rfl, _⟩; exact ⟨Nat.le_of_ble_eq_true rfl, rfl, by omega⟩)) rfl (by rintro _ _ hY ⟨dn, _, hwr⟩; exact cF rfl rfl (Wr.did hwr)) (kb rfl) ?_
              rintro _ mh hY ⟨dn, a8, _⟩ lT hE
              replace a8 := HS.lg a8 I hE
              generalize ({ mh with log := lT } : Heap) = nI at a8 ⊢
              have a8 : HS _ _ _ [_, _, _, _, hY, _, _, _, _] _ := a8
              have nB := OS.len' dn
              refine bZ ?_
              refine ao 1 rfl ?_
              obtain ⟨h7, ea, g6⟩ := SF.shut0 g3 fR a8 (q := 2) (m := 8) (by decide) rfl rfl ap
              have ea : HS _ _ _ [_, _, h7, _, _, _, _, _, []] _ := ea
              have n2 := FAM.len g6
              exact aE ⟨.inl rfl, _, rfl, rfl, DoP.mk (L := [O, T, et, []]) (by unfold doC; (repeat (first | rw [if_pos (by omega)] | rw [if_neg (by omega)] | (unfold doV; dsimp only [rg, ist]) | (unfold iW; dsimp only [rg, ist]))); first | done | rfl | (unfold ru; first | rw [if_pos (by omega)] | rw [if_neg (by omega)]) | rw [← bJ (hgr _) (hgr _) (by omega)]) ea fR U g6 V dn⟩
            rintro _ ou ⟨rfl, f1⟩
            refine ai 1 rfl ?_
            exact aE ⟨.inl rfl, _, rfl, rfl, f1⟩
           ·
            have ez := a5
            try simp only [BS] at ez
            refine wR 1 [] 190 192 [] [(190, (.bool (v.i.op == 35)))] trivial rfl fun _ => ?_
            refine am 0 1 (v := (v.i.op == 35)) rfl rfl rfl rfl (fun e1 => ?_) (fun e1 => ?_)
            ·
             try simp only [BS] at e1
             refine ab ?_
             refine wRo 3 0 [(1, .o c8)] 193 195 [] [(193, (.pointer (some ⟨b, 0, none⟩))), (194, c8), (195, (.slice ra r.length rk))] (vA (qn 45 0 5 (HS.hc z (i := 6) rfl) rfl rfl rfl rfl) trivial) rfl fun _ => ?_
             refine aD (R := fun w' H' => w' = .tuple #[] ∧ DoP (.of H (b :: (q ++ pg).map Prod.fst)) F R P la lk b ra r.length rk (doC P s r args v) H') (az rfl rfl rfl) rfl rfl ?_ ?_
             ·
              refine aL Tryd.func94 rfl rfl ?_
              refine ao 1 rfl ?_
              refine ab ?_
              refine aR (cw z rfl rfl) rfl rfl ?_
              rintro _ ov _ ⟨c6, rfl, ar, _⟩
              let ev : Fp := [(c6, .cells [(iI v.i.op), (iI v.i.a), (iI v.i.b), (iI v.i.c), (iI v.i.n)] none false)]
              have ar : HS _ _ _ [_, _, _, _, _, _, _, ev] _ := ar
              refine ai 2 rfl ?_
              obtain ⟨nP, lR⟩ := Sv.view (OS.sv U ar (i := 1) rfl)
              obtain ⟨g2, c3, J, a6, g4⟩ := SF.open y2 ar (q := 2) (i := v.i.n.toNat) rfl (by omega)
              have J : HS _ _ _ [_, _, g2, _, _, _, _, _, c3] _ := J
              have a6 : OS F (.slice (hd.getD v.i.n.toNat default).a (hd.getD v.i.n.toNat default).n (hd.getD v.i.n.toNat default).k) (s.cells.getD v.i.n.toNat default) c3 := a6
              have oo := OS.nlen a6
              refine wRD 3 [(3, .o (.slice ca hd.length ck)), (5, .o (iI v.i.n)), (7, .o (.slice (hd.getD v.i.n.toNat default).a (hd.getD v.i.n.toNat default).n (hd.getD v.i.n.toNat default).k))] 7 14 [6] [(6, (.slice (hd.getD v.i.n.toNat default).a (hd.getD v.i.n.toNat default).n (hd.getD v.i.n.toNat default).k))] (vA (ql 99 1 (hc0 (HS.hc ar (i := 0) rfl)) rfl rfl) (vA (ql 2 4 (hc0 (HS.hc ar (i := 7) rfl)) rfl rfl) (vA (Sv.ix (j := v.i.n) (OS.sv U ar (i := 1) rfl) (by omega) (by omega)) (vA (ql 52 0 (hc0 (vH (lR v.i.n.toNat) (by omega))) rfl rfl) trivial)))) rfl rfl fun _ => ?_
              obtain ⟨nQ, es⟩ := Sv.view (OS.sv hr J (i := 4) rfl)
              have oX := fI (es v.i.b.toNat)
              refine wR 1 [(2, .o (iI v.i.b)), (4, .o (iI (r.getD v.i.b.toNat 0))), (9, .o (iI v.i.b)), (11, .o (iI (r.getD v.i.b.toNat 0)))] 27 43 [] [(27, (.bool ((decide ((r.getD v.i.b.toNat 0) < 0)) || (decide (((hd.getD v.i.n.toNat default).n : Int) ≤ (r.getD v.i.b.toNat 0))))))] (vA (ql 3 2 (HS.hc J (i := 7) rfl) rfl rfl) (vA (Sv.ix (j := v.i.b) (OS.sv hr J (i := 4) rfl) (by omega) (by omega)) (vA (ql 2 0 (vI (es v.i.b.toNat) (by omega)) rfl rfl) (vA (fun (g1 : (decide ((r.getD v.i.b.toNat 0) < 0)) = false) => (ql 3 2 (HS.hc J (i := 7) rfl) rfl rfl)) (vA (fun (g1 : (decide ((r.getD v.i.b.toNat 0) < 0)) = false) => (Sv.ix (j := v.i.b) (OS.sv hr J (i := 4) rfl) (by (try simp only [BS] at g1); (first | omega | exact hgr _ | exact hga _ | exact bf wf.rows _ | exact unV_in | exact aM _ | (split <;> exact aM _) | (rw [bJ (hgr _) (hgr _) (by omega)]; exact bn (hgr _)) | (dsimp only; omega))) (by (try simp only [BS] at g1); (first | omega | exact hgr _ | exact hga _ | exact bf wf.rows _ | exact unV_in | exact aM _ | (split <;> exact aM _) | (rw [bJ (hgr _) (hgr _) (by omega)]; exact bn (hgr _)) | (dsimp only; omega))))) (vA (fun (g1 : (decide ((r.getD v.i.b.toNat 0) < 0)) = false) => (ql 2 0 (vI (es v.i.b.toNat) (by (try simp only [BS] at g1); (first | omega | exact hgr _ | exact hga _ | exact bf wf.rows _ | exact unV_in | exact aM _ | (split <;> exact aM _) | (rw [bJ (hgr _) (hgr _) (by omega)]; exact bn (hgr _)) | (dsimp only; omega)))) rfl rfl)) trivial)))))) rfl fun _ => ?_
              refine am 0 1 (v := ((decide ((r.getD v.i.b.toNat 0) < 0)) || (decide (((hd.getD v.i.n.toNat default).n : Int) ≤ (r.getD v.i.b.toNat 0))))) rfl rfl rfl rfl (fun e2 => ?_) (fun e2 => ?_)
              ·
               try simp only [BS] at e2
               refine ab ?_
               refine wm (.pointer (some ⟨b, 0, none⟩)) rfl rfl rfl ?_
               refine aD (az rfl rfl rfl) rfl rfl (jP ex (2) (2) (HS.callOwn J (i := 0) rfl)) ?_
               rintro _ ow ⟨b2, rfl⟩
               replace b2 := HS.backOwn J (i := 0) rfl rfl (fun _ hb => hb) b2
               have b2 : HS _ _ _ [[(b, .cells [(.slice la P.length lk), (.slice ca hd.length ck), (iI s.fuel), (iI s.most), (.slice oa s.out.length ok), (iI 2), (iI 2), (.slice none 0 0), (iI 0), (.bool true), (.bool s.long)] none false)], pc, g2, po, pg, O, T, ev, c3] _ := b2
               refine ai 1 rfl ?_
               obtain ⟨h8, eb, g7⟩ := SF.shut0 g4 fR b2 (q := 2) (m := 8) (by decide) rfl rfl a6
               have eb : HS _ _ _ [_, _, h8, _, _, _, _, _, []] _ := eb
               have n3 := FAM.len g7
               exact aE ⟨.inl rfl, _, rfl, rfl, DoP.mk (L := [O, T, ev, []]) (by unfold doC; (repeat (first | rw [if_pos (by omega)] | rw [if_neg (by omega)] | (unfold doV; dsimp only [rg, ist]) | (unfold iW; dsimp only [rg, ist]))); first | done | rfl | (unfold ru; first | rw [if_pos (by omega)] | rw [if_neg (by omega)]) | rw [← bJ (hgr _) (hgr _) (by omega)]) eb fR U g7 V hr⟩
              ·
               try simp only [BS] at e2
               refine wR 1 [(1, .o (iI v.i.op))] 46 49 [] [(46, (.bool (v.i.op == 34)))] (vA (ql 3 0 (HS.hc J (i := 7) rfl) rfl rfl) trivial) rfl fun _ => ?_
               refine wk_iff 0 (v := (v.i.op == 34)) rfl a5 rfl rfl ?_
               refine aV rfl ?_
               refine fm (.slice (hd.getD v.i.n.toNat default).a (hd.getD v.i.n.toNat default).n (hd.getD v.i.n.toNat default).k) rfl rfl rfl ?_
               refine fm (.slice ra r.length rk) rfl rfl rfl ?_
               refine wfv (v := (.pointer (some ⟨c6, 2, none⟩))) (bQ rfl rfl) ?_
               refine au (v := (iI v.i.b)) (id := .l c6) (aP (i := 2) rfl rfl (HS.hc J.log0 (i := 7) rfl) rfl rfl) rfl rfl (bg rfl) (kb rfl) ?_
               refine wfv (v := (.pointer (some ⟨sB (.slice ra r.length rk), sO (.slice ra r.length rk) + v.i.b.toNat * Rp.sz Int, none⟩))) (aW (α := Int) (j := v.i.b) rfl rfl rfl rfl (OS.sv hr J.log0 (i := 4) rfl) (by omega) (by omega)) ?_
               obtain ⟨nV, k6, iz⟩ := Sv.at (OS.sv hr J.log0 (i := 4) rfl) (aS (x := (0 : Int)) (show v.i.b.toNat < r.length from by first | omega | exact hgr _ | exact hga _ | exact bf wf.rows _ | exact unV_in | exact aM _ | (split <;> exact aM _) | (rw [bJ (hgr _) (hgr _) (by omega)]; exact bn (hgr _)) | (dsimp only; omega)))
               obtain ⟨rfl, nv⟩ := k6
               refine au (v := (iI (r.getD v.i.b.toNat 0))) (id := .l (sB (.slice ra r.length rk))) (aP (i := 0) rfl rfl iz rfl rfl) rfl rfl (bg rfl) (kb rfl) ?_
               refine fm (.slice ra r.length rk) rfl rfl rfl ?_
               refine wfv (v := (.pointer (some ⟨c6, 1, none⟩))) (bQ rfl rfl) ?_
               refine au (v := (iI v.i.a)) (id := .l c6) (aP (i := 1) rfl rfl (HS.hc J.log0 (i := 7) rfl) rfl rfl) rfl rfl (bg rfl) (kb rfl) ?_
               refine wfv (v := (.pointer (some ⟨sB (.slice ra r.length rk), sO (.slice ra r.length rk) + v.i.a.toNat * Rp.sz Int, none⟩))) (aW (α := Int) (j := v.i.a) rfl rfl rfl rfl (OS.sv hr J.log0 (i := 4) rfl) (by omega) (by omega)) ?_
               obtain ⟨nW, k7, i1⟩ := Sv.at (OS.sv hr J.log0 (i := 4) rfl) (aS (x := (0 : Int)) (show v.i.a.toNat < r.length from by first | omega | exact hgr _ | exact hga _ | exact bf wf.rows _ | exact unV_in | exact aM _ | (split <;> exact aM _) | (rw [bJ (hgr _) (hgr _) (by omega)]; exact bn (hgr _)) | (dsimp only; omega)))
               obtain ⟨rfl, nw⟩ := k7
               refine au (v := (iI (r.getD v.i.a.toNat 0))) (id := .l (sB (.slice ra r.length rk))) (aP (i := 0) rfl rfl i1 rfl rfl) rfl rfl (bg rfl) (kb rfl) ?_
               refine wfv (v := (.pointer (some ⟨sB (.slice (hd.getD v.i.n.toNat default).a (hd.getD v.i.n.toNat default).n (hd.getD v.i.n.toNat default).k), sO (.slice (hd.getD v.i.n.toNat default).a (hd.getD v.i.n.toNat default).n (hd.getD v.i.n.toNat default).k) + (r.getD v.i.b.toNat 0).toNat * Rp.sz Int, none⟩))) (aW (α := Int) (j := (r.getD v.i.b.toNat 0)) rfl rfl rfl rfl (OS.sv a6 J.log0 (i := 8) rfl) (by omega) (by omega)) ?_
               refine eu (id := .x (c3.map Prod.fst)) (eh (α := Int) (j := (r.getD v.i.b.toNat 0).toNat) (off := 0) (q := 8) (r.getD v.i.a.toNat 0) a6 J.log0 rfl rfl rfl rfl rfl rfl rfl rfl (aS (x := (0 : Int)) (by omega)) rfl (by rintro cs ⟨rfl, _⟩; exact ⟨Nat.le_of_ble_eq_true rfl, rfl, by omega⟩)) rfl (by rintro _ _ h1 ⟨ds, _, hwr⟩; exact cF rfl rfl (Wr.did hwr)) (kb rfl) ?_
               rintro _ mi h1 ⟨ds, a9, _⟩ lU hF
               replace a9 := HS.lg a9 J hF
               generalize ({ mi with log := lU } : Heap) = nJ at a9 ⊢
               have a9 : HS _ _ _ [_, _, _, _, _, _, _, _, h1] _ := a9
               have nC := OS.len' ds
               refine bZ ?_
               refine ao 1 rfl ?_
               obtain ⟨h9, ec, g8⟩ := SF.shut g4 fR a9 (q := 2) (m := 8) (by decide) rfl rfl ds
               have ec : HS _ _ _ [_, _, h9, _, _, _, _, _, []] _ := ec
               have n4 := FAM.len g8
               exact aE ⟨.inl rfl, _, rfl, rfl, DoP.mk (L := [O, T, ev, []]) (by unfold doC; (repeat (first | rw [if_pos (by omega)] | rw [if_neg (by omega)] | (unfold doV; dsimp only [rg, ist]) | (unfold iW; dsimp only [rg, ist]))); first | done | rfl | (unfold ru; first | rw [if_pos (by omega)] | rw [if_neg (by omega)]) | rw [← bJ (hgr _) (hgr _) (by omega)]) ec fR U g8 V hr⟩
             rintro _ ox ⟨rfl, f2⟩
             refine ai 1 rfl ?_
             exact aE ⟨.inl rfl, _, rfl, rfl, f2⟩
            ·
             try simp only [BS] at e1
             refine wR 1 [] 197 198 [] [(197, (.bool (v.i.op == 38)))] trivial rfl fun _ => ?_
             refine am 0 1 (v := (v.i.op == 38)) rfl rfl rfl rfl (fun e3 => ?_) (fun e3 => ?_)
             ·
              try simp only [BS] at e3
              refine aV rfl ?_
              refine fm (.slice ra r.length rk) rfl rfl rfl ?_
              refine wfv (v := (.pointer (some ⟨A, 1, none⟩))) (bQ rfl rfl) ?_
              refine au (v := (iI v.i.a)) (id := .l A) (aP (i := 1) rfl rfl (HS.hc z.log0 (i := 6) rfl) rfl rfl) rfl rfl (bg rfl) (kb rfl) ?_
              refine fm (.slice aa args.length ak) rfl rfl rfl ?_
              refine wfv (v := (.pointer (some ⟨A, 4, none⟩))) (bQ rfl rfl) ?_
              refine au (v := (iI v.i.n)) (id := .l A) (aP (i := 4) rfl rfl (HS.hc z.log0 (i := 6) rfl) rfl rfl) rfl rfl (bg rfl) (kb rfl) ?_
              refine wfv (v := (.pointer (some ⟨sB (.slice aa args.length ak), sO (.slice aa args.length ak) + v.i.n.toNat * Rp.sz Int, none⟩))) (aW (α := Int) (j := v.i.n) rfl rfl rfl rfl (SR.sv ha z.log0) (by omega) (by omega)) ?_
              obtain ⟨nX, k8, i2⟩ := Sv.at (SR.sv ha z.log0) (aS (x := (0 : Int)) (show v.i.n.toNat < args.length from by first | omega | exact hgr _ | exact hga _ | exact bf wf.rows _ | exact unV_in | exact aM _ | (split <;> exact aM _) | (rw [bJ (hgr _) (hgr _) (by omega)]; exact bn (hgr _)) | (dsimp only; omega)))
              obtain ⟨rfl, nx⟩ := k8
              refine au (v := (iI (args.getD v.i.n.toNat 0))) (id := .l (sB (.slice aa args.length ak))) (aP (i := 0) rfl rfl i2 rfl rfl) rfl rfl (bg rfl) (kb rfl) ?_
              refine wfv (v := (.pointer (some ⟨sB (.slice ra r.length rk), sO (.slice ra r.length rk) + v.i.a.toNat * Rp.sz Int, none⟩))) (aW (α := Int) (j := v.i.a) rfl rfl rfl rfl (OS.sv hr z.log0 (i := 4) rfl) (by omega) (by omega)) ?_
              refine eu (id := .x (pg.map Prod.fst)) (eh (α := Int) (j := v.i.a.toNat) (off := 0) (q := 4) (args.getD v.i.n.toNat 0) hr z.log0 rfl rfl rfl rfl rfl rfl rfl rfl (aS (x := (0 : Int)) (by omega)) rfl (by rintro cs ⟨rfl, _⟩; exact ⟨Nat.le_of_ble_eq_true rfl, rfl, by omega⟩)) rfl (by rintro _ _ h2 ⟨dt, _, hwr⟩; exact cF rfl rfl (Wr.did hwr)) (kb rfl) ?_
              rintro _ mj h2 ⟨dt, bb, _⟩ lV hG
              replace bb := HS.lg bb z hG
              generalize ({ mj with log := lV } : Heap) = nK at bb ⊢
              have bb : HS _ _ _ [_, _, _, _, h2, _, _] _ := bb
              have nD := OS.len' dt
              refine bZ ?_
              refine ao 1 rfl ?_
              exact aE ⟨.inl rfl, _, rfl, rfl, DoP.mk (L := [O, T]) (by unfold doC; (repeat (first | rw [if_pos (by omega)] | rw [if_neg (by omega)] | (unfold doV; dsimp only [rg, ist]) | (unfold iW; dsimp only [rg, ist]))); first | done | rfl | (unfold ru; first | rw [if_pos (by omega)] | rw [if_neg (by omega)]) | rw [← bJ (hgr _) (hgr _) (by omega)]) bb fR U y2 V dt⟩
             ·
              try simp only [BS] at e3
              obtain ⟨nR, he⟩ := Sv.view (OS.sv hr z (i := 4) rfl)
              have oY := fI (he v.i.b.toNat)
              refine wR 1 [(1, .o (iI v.i.op)), (5, .o (iI v.i.op)), (11, .o (iI v.i.b)), (13, .o (iI (r.getD v.i.b.toNat 0)))] 15 30 [] [(30, (.bool (((v.i.op == 20) || (v.i.op == 21)) && ((r.getD v.i.b.toNat 0) == 0))))] (vA (ql 3 0 (HS.hc z (i := 6) rfl) rfl rfl) (vA (fun (g1 : (v.i.op == 20) = false) => (ql 3 0 (HS.hc z (i := 6) rfl) rfl rfl)) (vA (fun (g1 : ((v.i.op == 20) || (v.i.op == 21)) = true) => (ql 3 2 (HS.hc z (i := 6) rfl) rfl rfl)) (vA (fun (g1 : ((v.i.op == 20) || (v.i.op == 21)) = true) => (Sv.ix (j := v.i.b) (OS.sv hr z (i := 4) rfl) (by (try simp only [BS] at g1); (first | omega | exact hgr _ | exact hga _ | exact bf wf.rows _ | exact unV_in | exact aM _ | (split <;> exact aM _) | (rw [bJ (hgr _) (hgr _) (by omega)]; exact bn (hgr _)) | (dsimp only; omega))) (by (try simp only [BS] at g1); (first | omega | exact hgr _ | exact hga _ | exact bf wf.rows _ | exact unV_in | exact aM _ | (split <;> exact aM _) | (rw [bJ (hgr _) (hgr _) (by omega)]; exact bn (hgr _)) | (dsimp only; omega))))) (vA (fun (g1 : ((v.i.op == 20) || (v.i.op == 21)) = true) => (ql 2 0 (vI (he v.i.b.toNat) (by (try simp only [BS] at g1); (first | omega | exact hgr _ | exact hga _ | exact bf wf.rows _ | exact unV_in | exact aM _ | (split <;> exact aM _) | (rw [bJ (hgr _) (hgr _) (by omega)]; exact bn (hgr _)) | (dsimp only; omega)))) rfl rfl)) trivial))))) rfl fun _ => ?_
              refine am 0 0 (v := (((v.i.op == 20) || (v.i.op == 21)) && ((r.getD v.i.b.toNat 0) == 0))) rfl rfl rfl rfl (fun e4 => ?_) (fun e4 => ?_)
              ·
               try simp only [BS] at e4
               refine ab ?_
               refine wm (.pointer (some ⟨b, 0, none⟩)) rfl rfl rfl ?_
               refine aD (az rfl rfl rfl) rfl rfl (jP ex (2) (1) (HS.callOwn z (i := 0) rfl)) ?_
               rintro _ oy ⟨b3, rfl⟩
               replace b3 := HS.backOwn z (i := 0) rfl rfl (fun _ hb => hb) b3
               have b3 : HS _ _ _ [[(b, .cells [(.slice la P.length lk), (.slice ca hd.length ck), (iI s.fuel), (iI s.most), (.slice oa s.out.length ok), (iI 2), (iI 1), (.slice none 0 0), (iI 0), (.bool true), (.bool s.long)] none false)], pc, pr, po, pg, O, T] _ := b3
               refine ai 1 rfl ?_
               exact aE ⟨.inl rfl, _, rfl, rfl, DoP.mk (L := [O, T]) (by unfold doC; (repeat (first | rw [if_pos (by omega)] | rw [if_neg (by omega)] | (unfold doV; dsimp only [rg, ist]) | (unfold iW; dsimp only [rg, ist]))); first | done | rfl | (unfold ru; first | rw [if_pos (by omega)] | rw [if_neg (by omega)]) | rw [← bJ (hgr _) (hgr _) (by omega)]) b3 fR U y2 V hr⟩
              ·
               try simp only [BS] at e4
               refine aV rfl ?_
               refine fm (.slice ra r.length rk) rfl rfl rfl ?_
               refine wfv (v := (.pointer (some ⟨A, 1, none⟩))) (bQ rfl rfl) ?_
               refine au (v := (iI v.i.a)) (id := .l A) (aP (i := 1) rfl rfl (HS.hc z.log0 (i := 6) rfl) rfl rfl) rfl rfl (bg rfl) (kb rfl) ?_
               refine wfv (v := (.pointer (some ⟨A, 0, none⟩))) (bQ rfl rfl) ?_
               refine au (v := (iI v.i.op)) (id := .l A) (aP (i := 0) rfl rfl (HS.hc z.log0 (i := 6) rfl) rfl rfl) rfl rfl (bg rfl) (kb rfl) ?_
               refine fm (.slice ra r.length rk) rfl rfl rfl ?_
               refine wfv (v := (.pointer (some ⟨A, 1, none⟩))) (bQ rfl rfl) ?_
               refine au (v := (iI v.i.a)) (id := .l A) (aP (i := 1) rfl rfl (HS.hc z.log0 (i := 6) rfl) rfl rfl) rfl rfl (bg rfl) (kb rfl) ?_
               refine wfv (v := (.pointer (some ⟨sB (.slice ra r.length rk), sO (.slice ra r.length rk) + v.i.a.toNat * Rp.sz Int, none⟩))) (aW (α := Int) (j := v.i.a) rfl rfl rfl rfl (OS.sv hr z.log0 (i := 4) rfl) (by omega) (by omega)) ?_
               obtain ⟨nY, k9, i3⟩ := Sv.at (OS.sv hr z.log0 (i := 4) rfl) (aS (x := (0 : Int)) (show v.i.a.toNat < r.length from by first | omega | exact hgr _ | exact hga _ | exact bf wf.rows _ | exact unV_in | exact aM _ | (split <;> exact aM _) | (rw [bJ (hgr _) (hgr _) (by omega)]; exact bn (hgr _)) | (dsimp only; omega)))
               obtain ⟨rfl, ny⟩ := k9
               refine au (v := (iI (r.getD v.i.a.toNat 0))) (id := .l (sB (.slice ra r.length rk))) (aP (i := 0) rfl rfl i3 rfl rfl) rfl rfl (bg rfl) (kb rfl) ?_
               refine fm (.slice ra r.length rk) rfl rfl rfl ?_
               refine wfv (v := (.pointer (some ⟨A, 2, none⟩))) (bQ rfl rfl) ?_
               refine au (v := (iI v.i.b)) (id := .l A) (aP (i := 2) rfl rfl (HS.hc z.log0 (i := 6) rfl) rfl rfl) rfl rfl (bg rfl) (kb rfl) ?_
               refine wfv (v := (.pointer (some ⟨sB (.slice ra r.length rk), sO (.slice ra r.length rk) + v.i.b.toNat * Rp.sz Int, none⟩))) (aW (α := Int) (j := v.i.b) rfl rfl rfl rfl (OS.sv hr z.log0 (i := 4) rfl) (by omega) (by omega)) ?_
               obtain ⟨nZ, lr, jb⟩ := Sv.at (OS.sv hr z.log0 (i := 4) rfl) (aS (x := (0 : Int)) (show v.i.b.toNat < r.length from by first | omega | exact hgr _ | exact hga _ | exact bf wf.rows _ | exact unV_in | exact aM _ | (split <;> exact aM _) | (rw [bJ (hgr _) (hgr _) (by omega)]; exact bn (hgr _)) | (dsimp only; omega)))
               obtain ⟨rfl, nz⟩ := lr
               refine au (v := (iI (r.getD v.i.b.toNat 0))) (id := .l (sB (.slice ra r.length rk))) (aP (i := 0) rfl rfl jb rfl rfl) rfl rfl (bg rfl) (kb rfl) ?_
               refine de (W := []) (az rfl rfl rfl) rfl rfl rfl (jw.rbin_c ex v.i.op (r.getD v.i.a.toNat 0) (r.getD v.i.b.toNat 0) _ (by omega)) (⟨.inl rfl, ⟨.inl rfl, ⟨.inl rfl, ⟨.inl rfl, ⟨.inl rfl, ⟨.inl rfl, ⟨.inl rfl, ⟨.inl rfl, ⟨.inl rfl, ⟨.inl rfl, ⟨.inl rfl, ⟨.inl rfl, ⟨.inr List.not_mem_nil, ⟨.inr trivial, ⟨.inr trivial, trivial⟩⟩⟩⟩⟩⟩⟩⟩⟩⟩⟩⟩⟩⟩⟩) ?_
               rintro _ _ ⟨o1, rfl, rfl, rfl⟩
               refine ⟨fun b hb => absurd hb List.not_mem_nil, fun lW hH => ?_⟩
               have c4 := HS.lg z.log0 z hH
               generalize ({ { H6 with log := [] } with log := lW } : Heap) = nL at c4 ⊢
               refine wfv (v := (.pointer (some ⟨sB (.slice ra r.length rk), sO (.slice ra r.length rk) + v.i.a.toNat * Rp.sz Int, none⟩))) (aW (α := Int) (j := v.i.a) rfl rfl rfl rfl (OS.sv hr c4.log0 (i := 4) rfl) (by omega) (by omega)) ?_
               refine eu (id := .x (pg.map Prod.fst)) (eh (α := Int) (j := v.i.a.toNat) (off := 0) (q := 4) (rbV v.i.op (r.getD v.i.a.toNat 0) (r.getD v.i.b.toNat 0)) hr c4.log0 rfl rfl rfl rfl rfl rfl rfl rfl (aS (x := (0 : Int)) (by first | omega | exact hgr _ | exact hga _ | exact bf wf.rows _ | exact unV_in | exact aM _ | (split <;> exact aM _) | (rw [bJ (hgr _) (hgr _) (by omega)]; exact bn (hgr _)) | (dsimp only; omega))) rfl (by rintro cs ⟨rfl, _⟩; exact ⟨Nat.le_of_ble_eq_true rfl, rfl, by first | omega | exact hgr _ | exact hga _ | exact bf wf.rows _ | exact unV_in | exact aM _ | (split <;> exact aM _) | (rw [bJ (hgr _) (hgr _) (by omega)]; exact bn (hgr _)) | (dsimp only; omega)⟩)) rfl (by rintro _ _ h3 ⟨dv, _, hwr⟩; exact cF rfl rfl (Wr.did hwr)) (kb rfl) ?_
               rintro _ mn h3 ⟨dv, bj, _⟩ lX hK
               replace bj := HS.lg bj c4 hK
               generalize ({ mn with log := lX } : Heap) = nM at bj ⊢
               have bj : HS _ _ _ [_, _, _, _, h3, _, _] _ := bj
               have nE := OS.len' dv
               refine bZ ?_
               refine ao 1 rfl ?_
               exact aE ⟨.inl rfl, _, rfl, rfl, DoP.mk (L := [O, T]) (by unfold doC; (repeat (first | rw [if_pos (by omega)] | rw [if_neg (by omega)] | (unfold doV; dsimp only [rg, ist]) | (unfold iW; dsimp only [rg, ist]))); first | done | rfl | (unfold ru; first | rw [if_pos (by omega)] | rw [if_neg (by omega)]) | rw [← bJ (hgr _) (hgr _) (by omega)]) bj fR U y2 V dv⟩
end Go.Proofs.YtlabedbmgmfbaaaDoor.jc
