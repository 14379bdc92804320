/-
 The generator of virtual code, function by function, each by a symbolic run: what it makes is valid. No condition but that the table lies as laid.
-/
import Derived.Test.YtlabedbmgmfbaaaDoorZIM3
import Derived.Test.YtlabedbmgmfbaaaDoorZIRC
noncomputable section
namespace Go.Proofs.YtlabedbmgmfbaaaDoor.m4
open Go.R
set_option maxRecDepth 10000
set_option linter.unusedVariables false
open m1 m2 m3
theorem wr64 (n : Int) : in64 (IntKind.i64.wrap n) := aK n
theorem td64 (n : Int) {m : Int} (h : 0 < m) : in64 (Int.tdiv (IntKind.i64.wrap n) m) := vq (wr64 n) (by omega)
theorem opOK_t {p : Prop} [Decidable p] {n r : Int} (h : p) (hn : 0 ≤ n ∧ n < r) : dq (decide p) n r = true := by rw [decide_eq_true h]; exact br.2 hn
theorem ji {p : Prop} [Decidable p] {n r : Int} (h : ¬ p) (hn : n = 0) : dq (decide p) n r = true := by rw [decide_eq_false h, hn]; rfl
def opG (op : Int) : Prop := (op = 3 ∨ op = 6 ∨ (9 ≤ op ∧ op ≤ 13) ∨ (15 ≤ op ∧ op ≤ 35)) ∧ alV op = true
theorem ops_al {op : Int} (h : 15 ≤ op ∧ op ≤ 32) : opG op := ⟨by omega, decide_eq_true (by omega)⟩
theorem lit12 {k : Nat} (h : k < 12) : opG (([3, 6, 9, 10, 11, 12, 13, 33, 34, 35, 10, 9] : List Int).getD k 0) := by
 have : ∀ k : Fin 12, ((([3, 6, 9, 10, 11, 12, 13, 33, 34, 35, 10, 9] : List Int).getD k.val 0) = 3 ∨ (([3, 6, 9, 10, 11, 12, 13, 33, 34, 35, 10, 9] : List Int).getD k.val 0) = 6 ∨ (9 ≤ (([3, 6, 9, 10, 11, 12, 13, 33, 34, 35, 10, 9] : List Int).getD k.val 0) ∧ (([3, 6, 9, 10, 11, 12, 13, 33, 34, 35, 10, 9] : List Int).getD k.val 0) ≤ 13) ∨ (15 ≤ (([3, 6, 9, 10, 11, 12, 13, 33, 34, 35, 10, 9] : List Int).getD k.val 0) ∧ (([3, 6, 9, 10, 11, 12, 13, 33, 34, 35, 10, 9] : List Int).getD k.val 0) ≤ 35)) ∧ alV (([3, 6, 9, 10, 11, 12, 13, 33, 34, 35, 10, 9] : List Int).getD k.val 0) = true := by decide
 exact this ⟨k, h⟩
theorem immT {p op n : Int} (h : op = 13 ∨ op = 33 ∧ -4194304 ≤ n ∧ n < 4194304 ∨ op = 6 ∧ 0 ≤ n ∧ n < 8 ∨ (op = 34 ∨ op = 35) ∧ 0 ≤ n ∧ n < 4 ∨ (op ≠ 13 ∧ op ≠ 33 ∧ op ≠ 6 ∧ op ≠ 34 ∧ op ≠ 35 ∧ op ≠ 38) ∧ n = 0) : gq p op n = true := by
 unfold gq
 (repeat' split) <;> first | rfl | (apply decide_eq_true; omega) | (exfalso; omega)
theorem all_app {p : Int → Bool} {l : List Int} {x : Int} (h : l.all p = true) (hx : p x = true) : (l ++ [x]).all p = true := by rw [List.all_append, h]; simp [hx]
theorem vin_mk {params regs op a b c n : Int} {l : List Int} (z : alV op = true) (A : op = 6 ∨ l.length = 0) (E : l.length ≤ 6) (I : l.all (aH regs) = true) (J : dq (decide (ay op ≠ 1)) a regs = true) (O : dq (decide (ay op = 3 ∨ ay op = 4 ∨ ay op = 7)) b regs = true) (T : dq (decide (ay op = 4)) c regs = true) (U : gq params op n = true) : ey params regs ⟨⟨op, a, b, c, n⟩, l⟩ = true := by
 unfold ey
 simp only [z, decide_eq_true A, decide_eq_true E, I, J, O, T, U, Bool.and_self]
def ckI (v : VInT) : Bool := decide ((v.i.op = 6 → (v.i.n = 0 ∧ v.args.length = 2 ∨ v.i.n = 1 ∧ v.args.length = 1)) ∧ (v.i.op = 34 ∨ v.i.op = 35 → v.i.n < 2))
theorem cL (ex : FuncId) {b_d : Nat} (d : DigT) (m : Int) {F : Fz} {H : Heap} {R : List Fp} (hs : HS (.of H [b_d]) F H [[(b_d, .cells [(iI d.n)] none false)]] R) (A : in64 d.n) (hm : in64 m) (hT : TB 37 tabC F) (hm : 0 < m) : C Tryd.prog 1 (KT 60 ex 37 tabC) 49 [(.pointer (some ⟨b_d, 0, none⟩)), (iI m)] H fun v H' => ∃ (r : Int) (d' : DigT) (F' : Fz), Fz.le F F' ∧ HS (.of H [b_d]) F' H' [[(b_d, .cells [(iI d'.n)] none false)]] R ∧ v = .int .i64 r ∧ in64 d'.n ∧ (0 ≤ r ∧ r < m) := by
 refine aJ Tryd.func49 rfl rfl ?_
 refine ao 1 rfl ?_
 refine wR 2 [] 4 4 [] [(4, (iI 0))] trivial rfl fun _ => ?_
 have E := dT d.n m
 refine wR 2 [(3, .o (iI d.n)), (5, .o (iI (aQ d.n m)))] 6 11 [5] [(5, (iI (aQ d.n m)))] (vA (ql 3 0 (HS.hc hs (i := 0) rfl) rfl rfl) (vA (m1.ef ex d.n m H (by omega)) trivial)) rfl fun _ => ?_
 refine ab ?_
 refine wRo 11 0 [(4, .o (iI d.n)), (6, .w)] 12 22 [] [(20, (iI (Int.tdiv (IntKind.i64.wrap (d.n - (aQ d.n m))) m))), (22, (.pointer (some ⟨b_d, 0, none⟩)))] (vA (ql 3 0 (HS.hc hs (i := 0) rfl) rfl rfl) (vA (vA (show m ≠ 0 from by omega) (vq (a := IntKind.i64.wrap (d.n - (aQ d.n m))) (b := m) (by exact wr64 _) (by omega))) trivial)) rfl fun _ => ?_
 refine aD (ax (q := 0) hs rfl rfl rfl rfl rfl rfl rfl rfl rfl) rfl ?_
 rintro _ I _ ⟨z, _⟩
 have z : HS _ _ _ [[(b_d, .cells [(iI (Int.tdiv (IntKind.i64.wrap (d.n - (aQ d.n m))) m))] none false)]] _ := z
 refine ai 2 rfl ?_
 refine wR 1 [] 4 4 [23] [(4, (iI (aQ d.n m)))] trivial rfl fun _ => ?_
 refine ah ⟨.inr rfl, _, rfl, aQ d.n m, (⟨Int.tdiv (IntKind.i64.wrap (d.n - (aQ d.n m))) m⟩ : DigT), _, fR, (HS.first z), rfl, (by exact td64 _ (by omega)), (by omega)⟩
theorem word_c (ex : FuncId) (n : Int) (raw : Int) {F : Fz} {H : Heap} {R : List Fp} (hs : HS (.of H []) F H [] R) (hn : in64 n) (hraw : in64 raw) (hT : TB 37 tabC F) : C Tryd.prog 1 (KT 60 ex 37 tabC) 50 [(iI n), (iI raw)] H fun v H' => ∃ (r : Int) (F' : Fz), Fz.le F F' ∧ HS (.of H []) F' H' [] R ∧ v = .int .i64 r ∧ (in64 r) := by
 refine aJ Tryd.func50 rfl rfl ?_
 refine ao 1 rfl ?_
 refine wR 2 [] 4 4 [] [(4, (iI 0))] trivial rfl fun _ => ?_
 refine ab ?_
 refine aP (bZ (α := Int) (ps := [(0, (iI 0)), (1, (iI 1)), (2, (iI (-1))), (3, (iI 2)), (4, (iI (-9223372036854775808))), (5, (iI 9223372036854775807)), (6, (iI 4294967296)), (7, (iI (-2147483648))), (8, (iI 63)), (9, (iI 64))]) (cells := [(iI 0), (iI 1), (iI (-1)), (iI 2), (iI (-9223372036854775808)), (iI 9223372036854775807), (iI 4294967296), (iI (-2147483648)), (iI 63), (iI 64)]) ([0, 1, (-1), 2, (-9223372036854775808), 9223372036854775807, 4294967296, (-2147483648), 63, 64] : List Int) hs rfl rfl rfl (by kernel_rfl) ⟨[(iI 0)], _, rfl, ⟨rfl, by omega⟩, ⟨[(iI 1)], _, rfl, ⟨rfl, by omega⟩, ⟨[(iI (-1))], _, rfl, ⟨rfl, by omega⟩, ⟨[(iI 2)], _, rfl, ⟨rfl, by omega⟩, ⟨[(iI (-9223372036854775808))], _, rfl, ⟨rfl, by omega⟩, ⟨[(iI 9223372036854775807)], _, rfl, ⟨rfl, by omega⟩, ⟨[(iI 4294967296)], _, rfl, ⟨rfl, by omega⟩, ⟨[(iI (-2147483648))], _, rfl, ⟨rfl, by omega⟩, ⟨[(iI 63)], _, rfl, ⟨rfl, by omega⟩, ⟨[(iI 64)], _, rfl, ⟨rfl, by omega⟩, rfl⟩⟩⟩⟩⟩⟩⟩⟩⟩⟩ rfl) rfl rfl ?_
 rintro _ O V ⟨T, k2, rfl, E, z, _⟩
 have z : HS _ _ _ [V] _ := z
 refine wa (.slice T ([0, 1, (-1), 2, (-9223372036854775808), 9223372036854775807, 4294967296, (-2147483648), 63, 64] : List Int).length k2) rfl rfl rfl ?_
 refine ai 2 rfl ?_
 have ag := dT n (24 : Int)
 refine wR 4 [(1, .o (iI (aQ n (24 : Int))))] 8 9 [6] [(6, (iI (aQ n (24 : Int))))] (vA (m1.ef ex n (24) O (by omega)) trivial) rfl fun _ => ?_
 refine wR 1 [] 10 12 [] [(10, (.bool (decide (aQ n (24 : Int) < 10))))] trivial rfl fun _ => ?_
 refine aj 1 1 (v := (decide (aQ n (24 : Int) < 10))) rfl rfl rfl rfl (fun J => ?_) (fun J => ?_)
 ·
  try simp only [BS] at J
  obtain ⟨ad, I⟩ := Sv.view (OS.sv E z (i := 0) rfl)
  have g9 := fI (I (aQ n (24 : Int)).toNat)
  refine wR 1 [(3, .o (iI (([0, 1, (-1), 2, (-9223372036854775808), 9223372036854775807, 4294967296, (-2147483648), 63, 64] : List Int).getD (aQ n (24 : Int)).toNat 0)))] 13 16 [4] [(4, (iI (([0, 1, (-1), 2, (-9223372036854775808), 9223372036854775807, 4294967296, (-2147483648), 63, 64] : List Int).getD (aQ n (24 : Int)).toNat 0)))] (vA (Sv.ix (j := aQ n (24 : Int)) (OS.sv E z (i := 0) rfl) (by omega) (show aQ n (24 : Int) < (10 : Int) from by omega)) (vA (ql 2 0 (vI (I (aQ n (24 : Int)).toNat) (show (aQ n (24 : Int)).toNat < 10 from by omega)) rfl rfl) trivial)) rfl fun _ => ?_
  refine ah ⟨.inr rfl, _, rfl, (([0, 1, (-1), 2, (-9223372036854775808), 9223372036854775807, 4294967296, (-2147483648), 63, 64] : List Int).getD (aQ n (24 : Int)).toNat 0), _, fR, (HS.forget z), rfl, (by omega)⟩
 ·
  try simp only [BS] at J
  refine wR 1 [] 17 19 [] [(17, (.bool (decide (aQ n (24 : Int) < 22))))] trivial rfl fun _ => ?_
  refine aj 1 3 (v := (decide (aQ n (24 : Int) < 22))) rfl rfl rfl rfl (fun A => ?_) (fun A => ?_)
  ·
   try simp only [BS] at A
   have Z : in64 n → in64 (Int.tdiv n 24) := fun h => vq h (by decide)
   have U := dT (Int.tdiv n 24) (17 : Int)
   refine wR 1 [(2, .o (iI (aQ (Int.tdiv n 24) (17 : Int))))] 20 23 [4] [(4, (iI ((aQ (Int.tdiv n 24) (17 : Int)) - 6)))] (vA (vA (show (24 : Int) ≠ 0 from by decide) (vq (a := n) (b := 24) (by omega) (by decide))) (vA (m1.ef ex (Int.tdiv n 24) (17) O (by omega)) (vA (vi (n := (aQ (Int.tdiv n 24) (17 : Int)) - 6) (by omega)) trivial))) rfl fun _ => ?_
   refine ah ⟨.inr rfl, _, rfl, (aQ (Int.tdiv n 24) (17 : Int)) - 6, _, fR, (HS.forget z), rfl, (by omega)⟩
  ·
   try simp only [BS] at A
   refine wR 1 [] 4 4 [24] [(4, (iI raw))] trivial rfl fun _ => ?_
   refine ah ⟨.inr rfl, _, rfl, raw, _, fR, (HS.forget z), rfl, (by omega)⟩
set_option maxHeartbeats 1000000 in
theorem vi_c (ex : FuncId) (n : Int) {fd : Option Addr} {hP : Nat} (c : VFnT) {F : Fz} {H : Heap} {R : List Fp} (hs : HS (.of H []) F H [] R) (hn : in64 n) (lJ : in64 c.params) (lK : in64 c.regs) (hT : TB 37 tabC F) (hr : 1 ≤ c.regs ∧ c.regs ≤ 3000) : C Tryd.prog 1 (KT 60 ex 37 tabC) 44 [(iI n), (.agg ⟨[(iI c.params), (iI c.regs), (.slice fd c.blocks.length hP)]⟩)] H fun v H' => ∃ (x : VInT) (fi : Option Addr) (hQ : Nat) (F' : Fz), Fz.le F F' ∧ HS (.of H []) F' H' [] R ∧ v = .agg ⟨[.int .i64 x.i.op, .int .i64 x.i.a, .int .i64 x.i.b, .int .i64 x.i.c, .int .i64 x.i.n, .slice fi x.args.length hQ]⟩ ∧ in64 x.i.op ∧ in64 x.i.a ∧ in64 x.i.b ∧ in64 x.i.c ∧ in64 x.i.n ∧ SR F' (.slice fi x.args.length hQ) x.args ∧ (ey c.params c.regs x = true) ∧ (ckI x = true) := by
 refine aJ Tryd.func44 rfl rfl ?_
 refine ao 1 rfl ?_
 refine ab ?_
 refine aP (b8 hs rfl rfl) rfl rfl ?_
 rintro _ H2 _ ⟨b1, rfl, c8, _⟩
 let cd : Fp := [(b1, .cells [(iI c.params), (iI c.regs), (.slice fd c.blocks.length hP)] none false)]
 have c8 : HS _ _ _ [cd] _ := c8
 refine aP (bp c8 rfl) rfl rfl ?_
 rintro _ H4 _ ⟨b3, rfl, hD, _⟩
 let ch : Fp := [(b3, .cells [(iI 0), (iI 0), (iI 0), (iI 0), (iI 0), (.slice none 0 0)] none false)]
 have hD : HS _ _ _ [_, ch] _ := hD
 refine ai 2 rfl ?_
 refine ab ?_
 refine wRo 2 0 [] 14 15 [] [(15, (.agg ⟨[(iI n)]⟩))] trivial rfl fun _ => ?_
 refine aP (b8 hD rfl rfl) rfl rfl ?_
 rintro _ H7 _ ⟨E, rfl, hF, _⟩
 have hF : HS _ _ _ [_, _, [(E, .cells [(iI n)] none false)]] _ := hF
 refine wa (.pointer (some ⟨E, 0, none⟩)) rfl rfl rfl ?_
 refine ai 2 rfl ?_
 refine ab ?_
 refine aP (bZ (α := Int) (ps := [(0, (iI 3)), (1, (iI 6)), (2, (iI 9)), (3, (iI 10)), (4, (iI 11)), (5, (iI 12)), (6, (iI 13)), (7, (iI 33)), (8, (iI 34)), (9, (iI 35)), (10, (iI 10)), (11, (iI 9))]) (cells := [(iI 3), (iI 6), (iI 9), (iI 10), (iI 11), (iI 12), (iI 13), (iI 33), (iI 34), (iI 35), (iI 10), (iI 9)]) ([3, 6, 9, 10, 11, 12, 13, 33, 34, 35, 10, 9] : List Int) hF rfl rfl rfl (by kernel_rfl) ⟨[(iI 3)], _, rfl, ⟨rfl, by omega⟩, ⟨[(iI 6)], _, rfl, ⟨rfl, by omega⟩, ⟨[(iI 9)], _, rfl, ⟨rfl, by omega⟩, ⟨[(iI 10)], _, rfl, ⟨rfl, by omega⟩, ⟨[(iI 11)], _, rfl, ⟨rfl, by omega⟩, ⟨[(iI 12)], _, rfl, ⟨rfl, by omega⟩, ⟨[(iI 13)], _, rfl, ⟨rfl, by omega⟩, ⟨[(iI 33)], _, rfl, ⟨rfl, by omega⟩, ⟨[(iI 34)], _, rfl, ⟨rfl, by omega⟩, ⟨[(iI 35)], _, rfl, ⟨rfl, by omega⟩, ⟨[(iI 10)], _, rfl, ⟨rfl, by omega⟩, ⟨[(iI 9)], _, rfl, ⟨rfl, by omega⟩, rfl⟩⟩⟩⟩⟩⟩⟩⟩⟩⟩⟩⟩ rfl) rfl rfl ?_
 rintro _ H9 p8 ⟨a8, k8, rfl, e2, e3, _⟩
 have e3 : HS _ _ _ [_, _, _, p8] _ := e3
 refine wa (.slice a8 ([3, 6, 9, 10, 11, 12, 13, 33, 34, 35, 10, 9] : List Int).length k8) rfl rfl rfl ?_
 refine ai 2 rfl ?_
 refine ab ?_
 refine wm (.pointer (some ⟨E, 0, none⟩)) rfl rfl rfl ?_
 refine aC (aw rfl rfl rfl) rfl rfl (cL ex (⟨n⟩ : DigT) (18) (HS.callOwn e3 (i := 2) rfl) (by omega) (by omega) hT (by omega)) ?_
 rintro _ l3 ⟨hS, g5, lT, ds, a3, rfl, ln, mH⟩
 replace a3 := HS.backOwn e3 (i := 2) rfl rfl (fun _ hb => hb) a3
 have a3 : HS _ _ _ [_, _, [(E, .cells [(iI g5.n)] none false)], _] _ := a3
 replace hT := hT.mono ds
 refine wRo 2 2 [] 20 20 [7] [(7, (iI (15 + hS)))] (vA (vi (n := 15 + hS) (by omega)) trivial) rfl fun _ => ?_
 refine ai 3 rfl ?_
 refine ab ?_
 refine wm (.pointer (some ⟨E, 0, none⟩)) rfl rfl rfl ?_
 refine aC (aw rfl rfl rfl) rfl rfl (cL ex (⟨g5.n⟩ : DigT) (24) (HS.callOwn a3 (i := 2) rfl) (by omega) (by omega) hT (by omega)) ?_
 rintro _ h4 ⟨ap, dn, lU, dt, ar, rfl, lp, mI⟩
 replace ar := HS.backOwn a3 (i := 2) rfl rfl (fun _ hb => hb) ar
 have ar : HS _ _ _ [_, _, [(E, .cells [(iI dn.n)] none false)], _] _ := ar
 replace hT := hT.mono dt
 replace e2 := (e2.mono ds).mono dt
 refine wa (iI ap) rfl rfl rfl ?_
 refine ai 2 rfl ?_
 refine wR 1 [] 23 26 [] [(26, (.bool (decide (ap < 12))))] trivial rfl fun _ => ?_
 refine dp (fun f H' => ∃ (z : Int), H' = h4 ∧ aS f [(0, (iI n)), (3, (.pointer (some ⟨b1, 0, none⟩))), (4, (.pointer (some ⟨b3, 0, none⟩))), (5, (.pointer (some ⟨E, 0, none⟩))), (7, (iI z))] ∧ (opG z)) (fun hH => ?_) ?_
 ·
  refine aj 0 0 (v := (decide (ap < 12))) rfl rfl rfl rfl (fun f1 => ?_) (fun f1 => ?_)
  ·
   try simp only [BS] at f1
   obtain ⟨lI, hG⟩ := Sv.view (OS.sv e2 ar (i := 3) rfl)
   have mG := fI (hG ap.toNat)
   refine wR 0 [(3, .o (iI (([3, 6, 9, 10, 11, 12, 13, 33, 34, 35, 10, 9] : List Int).getD ap.toNat 0)))] 27 30 [7] [(7, (iI (([3, 6, 9, 10, 11, 12, 13, 33, 34, 35, 10, 9] : List Int).getD ap.toNat 0)))] (vA (Sv.ix (j := ap) (OS.sv e2 ar (i := 3) rfl) (by omega) (show ap < (12 : Int) from by omega)) (vA (ql 3 0 (vI (hG ap.toNat) (show ap.toNat < 12 from by omega)) rfl rfl) trivial)) rfl fun _ => ?_
   exact hH _ _ ⟨(([3, 6, 9, 10, 11, 12, 13, 33, 34, 35, 10, 9] : List Int).getD ap.toNat 0), rfl, ⟨rfl, rfl, rfl, rfl, rfl, trivial⟩, (by exact lit12 (by omega))⟩
  ·
   try simp only [BS] at f1
   exact hH _ _ ⟨15 + hS, rfl, ⟨rfl, rfl, rfl, rfl, rfl, trivial⟩, (by exact ops_al (by omega))⟩
 ·
  rintro mA h4 ⟨z, rfl, hw, ho⟩
  refine aF _ hw (fun _ => ?_)
  clear hw
  have hf := aY ho.2
  have hvf : ay z = (be z).form := if_neg (by have := ho.1; omega)
  have mT := ho.1
  refine ao 2 rfl ?_
  refine ab ?_
  refine wRo 3 0 [] 31 33 [] [(33, (.agg ⟨[(iI z), (iI 0), (iI 0), (iI 0), (iI 0), (.slice none 0 0)]⟩))] trivial rfl fun _ => ?_
  refine aP (bp ar rfl) rfl rfl ?_
  rintro _ l4 _ ⟨A, rfl, d1, _⟩
  have d1 : HS _ _ _ [_, _, _, _, [(A, .cells [(iI 0), (iI 0), (iI 0), (iI 0), (iI 0), (.slice none 0 0)] none false)]] _ := d1
  refine aD (ax (q := 4) d1 rfl rfl rfl rfl rfl rfl rfl rfl rfl) rfl ?_
  rintro _ l5 _ ⟨cv, _⟩
  have cv : HS _ _ _ [_, _, _, _, [(A, .cells [(iI z), (iI 0), (iI 0), (iI 0), (iI 0), (.slice none 0 0)] none false)]] _ := cv
  refine ai 2 rfl ?_
  refine ab ?_
  refine wm (iI z) rfl rfl rfl ?_
  refine aC (aw rfl rfl rfl) rfl rfl (m1.rInfo_c ex z (HS.call cv) (by omega) hT) ?_
  rintro _ l6 ⟨mW, mV, k5, hl, a7, rfl, k3, k4, rfl, rfl⟩
  replace a7 := HS.back cv rfl a7
  have a7 : HS _ _ _ [_, _, _, _, _] _ := a7
  replace hT := hT.mono hl
  refine wRo 3 2 [] 37 38 [34] [(37, (.agg ⟨[(.string ⟨⟨(be z).name.b⟩⟩), (iI (be z).form), (.bool (be z).ra), (.bool (be z).wa), (.bool (be z).rb), (.bool (be z).mt), (iI (be z).words)]⟩)), (38, (.bool (infO z)))] trivial rfl fun _ => ?_
  refine aP (bp a7 rfl) rfl rfl ?_
  rintro _ l7 _ ⟨h5, rfl, d2, _⟩
  have d2 : HS _ _ _ [_, _, _, _, _, [(h5, .cells [(.string ⟨⟨[]⟩⟩), (iI 0), (.bool false), (.bool false), (.bool false), (.bool false), (iI 0)] none false)]] _ := d2
  refine aD (ax (q := 5) d2 rfl rfl rfl rfl rfl rfl rfl rfl rfl) rfl ?_
  rintro _ l8 _ ⟨av, _⟩
  let ci : Fp := [(h5, .cells [(.string ⟨⟨(be z).name.b⟩⟩), (iI (be z).form), (.bool (be z).ra), (.bool (be z).wa), (.bool (be z).rb), (.bool (be z).mt), (iI (be z).words)] none false)]
  have av : HS _ _ _ [_, _, _, _, _, ci] _ := av
  refine wa (.bool (infO z)) rfl rfl rfl ?_
  refine ai 2 rfl ?_
  refine wR 3 [(1, .o (iI (be z).form))] 39 40 [12] [(12, (iI (be z).form))] (vA (ql 3 1 (HS.hc av (i := 5) rfl) rfl rfl) trivial) rfl fun _ => ?_
  refine wR 1 [] 41 42 [] [(42, (.bool ((be z).form != 1)))] trivial rfl fun _ => ?_
  refine dp (fun f H' => ∃ (ja : Int) (c9 : DigT) (F' : Fz), Fz.le k5 F' ∧ HS (Base.of H []) F' H' [cd, ch, [(E, .cells [(iI c9.n)] none false)], p8, [(A, .cells [(iI z), (iI ja), (iI 0), (iI 0), (iI 0), (.slice none 0 0)] none false)], ci] R ∧ aS f [(0, (iI n)), (3, (.pointer (some ⟨b1, 0, none⟩))), (4, (.pointer (some ⟨b3, 0, none⟩))), (5, (.pointer (some ⟨E, 0, none⟩))), (7, (iI z)), (9, (.pointer (some ⟨A, 0, none⟩))), (12, (iI (be z).form))] ∧ (dq (decide (ay z ≠ 1)) ja c.regs = true) ∧ (in64 ja) ∧ (in64 c9.n)) (fun hI => ?_) ?_
  ·
   refine aj 0 0 (v := ((be z).form != 1)) rfl rfl rfl rfl (fun f2 => ?_) (fun f2 => ?_)
   ·
    try simp only [BS] at f2
    refine ab ?_
    refine wRo 3 0 [(2, .o (iI c.regs))] 43 45 [] [(43, (.pointer (some ⟨E, 0, none⟩))), (45, (iI c.regs))] (vA (ql 3 1 (HS.hc av (i := 0) rfl) rfl rfl) trivial) rfl fun _ => ?_
    refine aC (aw rfl rfl rfl) rfl rfl (cL ex (⟨dn.n⟩ : DigT) c.regs (HS.callOwn av (i := 2) rfl) (by omega) (by omega) hT (by omega)) ?_
    rintro _ ma ⟨h7, g6, lV, iv, a9, rfl, lq, mJ⟩
    replace a9 := HS.backOwn av (i := 2) rfl rfl (fun _ hb => hb) a9
    have a9 : HS _ _ _ [_, _, [(E, .cells [(iI g6.n)] none false)], _, _, _] _ := a9
    refine wRo 2 4 [] 47 48 [] [(48, (.pointer (some ⟨A, 1, none⟩)))] trivial rfl fun _ => ?_
    refine aD (ax (q := 4) a9 rfl rfl rfl rfl rfl rfl rfl rfl rfl) rfl ?_
    rintro _ mb _ ⟨ea, _⟩
    have ea : HS _ _ _ [_, _, _, _, [(A, .cells [(iI z), (iI h7), (iI 0), (iI 0), (iI 0), (.slice none 0 0)] none false)], _] _ := ea
    refine ai 0 rfl ?_
    exact hI _ _ ⟨h7, (⟨g6.n⟩ : DigT), _, (iv), ea, ⟨rfl, rfl, rfl, rfl, rfl, rfl, rfl, trivial⟩, (by exact opOK_t (by omega) (by omega)), (by omega), (by assumption)⟩
   ·
    try simp only [BS] at f2
    exact hI _ _ ⟨0, (⟨dn.n⟩ : DigT), _, fR, av, ⟨rfl, rfl, rfl, rfl, rfl, rfl, rfl, trivial⟩, (by exact ji (by omega) rfl), (by omega), (by assumption)⟩
  ·
   rintro mB l9 ⟨ja, c9, k6, hm, c0, hx, hja, rja, lP⟩
   refine aF _ hx (fun _ => ?_)
   clear hx
   replace hT := hT.mono hm
   refine ao 3 rfl ?_
   refine wR 1 [] 49 58 [] [(58, (.bool ((((be z).form == 3) || ((be z).form == 4)) || ((be z).form == 7))))] trivial rfl fun _ => ?_
   refine dp (fun f H' => ∃ (jb : Int) (dd : DigT) (F' : Fz), Fz.le k6 F' ∧ HS (Base.of H []) F' H' [cd, ch, [(E, .cells [(iI dd.n)] none false)], p8, [(A, .cells [(iI z), (iI ja), (iI jb), (iI 0), (iI 0), (.slice none 0 0)] none false)], ci] R ∧ aS f [(0, (iI n)), (3, (.pointer (some ⟨b1, 0, none⟩))), (4, (.pointer (some ⟨b3, 0, none⟩))), (5, (.pointer (some ⟨E, 0, none⟩))), (7, (iI z)), (9, (.pointer (some ⟨A, 0, none⟩))), (12, (iI (be z).form))] ∧ (dq (decide (ay z = 3 ∨ ay z = 4 ∨ ay z = 7)) jb c.regs = true) ∧ (in64 jb) ∧ (in64 dd.n)) (fun hK => ?_) ?_
   ·
    refine aj 0 0 (v := ((((be z).form == 3) || ((be z).form == 4)) || ((be z).form == 7))) rfl rfl rfl rfl (fun f6 => ?_) (fun f6 => ?_)
    ·
     try simp only [BS] at f6
     refine ab ?_
     refine wRo 3 0 [(2, .o (iI c.regs))] 59 61 [] [(59, (.pointer (some ⟨E, 0, none⟩))), (61, (iI c.regs))] (vA (ql 3 1 (HS.hc c0 (i := 0) rfl) rfl rfl) trivial) rfl fun _ => ?_
     refine aC (aw rfl rfl rfl) rfl rfl (cL ex (⟨c9.n⟩ : DigT) c.regs (HS.callOwn c0 (i := 2) rfl) (by omega) (by omega) hT (by omega)) ?_
     rintro _ md ⟨h8, g7, lW, i1, bb, rfl, lr, mK⟩
     replace bb := HS.backOwn c0 (i := 2) rfl rfl (fun _ hb => hb) bb
     have bb : HS _ _ _ [_, _, [(E, .cells [(iI g7.n)] none false)], _, [(A, .cells [(iI z), (iI ja), (iI 0), (iI 0), (iI 0), (.slice none 0 0)] none false)], _] _ := bb
     refine wRo 2 4 [] 63 64 [] [(64, (.pointer (some ⟨A, 2, none⟩)))] trivial rfl fun _ => ?_
     refine aD (ax (q := 4) bb rfl rfl rfl rfl rfl rfl rfl rfl rfl) rfl ?_
     rintro _ me _ ⟨eb, _⟩
     have eb : HS _ _ _ [_, _, _, _, [(A, .cells [(iI z), (iI ja), (iI h8), (iI 0), (iI 0), (.slice none 0 0)] none false)], _] _ := eb
     refine ai 0 rfl ?_
     exact hK _ _ ⟨h8, (⟨g7.n⟩ : DigT), _, (i1), eb, ⟨rfl, rfl, rfl, rfl, rfl, rfl, rfl, trivial⟩, (by exact opOK_t (by omega) (by omega)), (by omega), (by assumption)⟩
    ·
     try simp only [BS] at f6
     exact hK _ _ ⟨0, (⟨c9.n⟩ : DigT), _, fR, c0, ⟨rfl, rfl, rfl, rfl, rfl, rfl, rfl, trivial⟩, (by exact ji (by omega) rfl), (by omega), (by assumption)⟩
   ·
    rintro mC mc ⟨jb, dd, k7, hp, c3, hy, hjb, rjb, lQ⟩
    refine aF _ hy (fun _ => ?_)
    clear hy
    replace hT := hT.mono hp
    refine ao 3 rfl ?_
    refine wR 1 [] 65 66 [] [(66, (.bool ((be z).form == 4)))] trivial rfl fun _ => ?_
    refine dp (fun f H' => ∃ (jc : Int) (a2 : DigT) (F' : Fz), Fz.le k7 F' ∧ HS (Base.of H []) F' H' [cd, ch, [(E, .cells [(iI a2.n)] none false)], p8, [(A, .cells [(iI z), (iI ja), (iI jb), (iI jc), (iI 0), (.slice none 0 0)] none false)], ci] R ∧ aS f [(0, (iI n)), (3, (.pointer (some ⟨b1, 0, none⟩))), (4, (.pointer (some ⟨b3, 0, none⟩))), (5, (.pointer (some ⟨E, 0, none⟩))), (7, (iI z)), (9, (.pointer (some ⟨A, 0, none⟩)))] ∧ (dq (decide (ay z = 4)) jc c.regs = true) ∧ (in64 jc) ∧ (in64 a2.n)) (fun hM => ?_) ?_
    ·
     refine aj 0 0 (v := ((be z).form == 4)) rfl rfl rfl rfl (fun f7 => ?_) (fun f7 => ?_)
     ·
      try simp only [BS] at f7
      refine ab ?_
      refine wRo 3 0 [(2, .o (iI c.regs))] 67 69 [] [(67, (.pointer (some ⟨E, 0, none⟩))), (69, (iI c.regs))] (vA (ql 3 1 (HS.hc c3 (i := 0) rfl) rfl rfl) trivial) rfl fun _ => ?_
      refine aC (aw rfl rfl rfl) rfl rfl (cL ex (⟨dd.n⟩ : DigT) c.regs (HS.callOwn c3 (i := 2) rfl) (by omega) (by omega) hT (by omega)) ?_
      rintro _ mg ⟨h9, g9, lX, i2, bl, rfl, lu, mL⟩
      replace bl := HS.backOwn c3 (i := 2) rfl rfl (fun _ hb => hb) bl
      have bl : HS _ _ _ [_, _, [(E, .cells [(iI g9.n)] none false)], _, [(A, .cells [(iI z), (iI ja), (iI jb), (iI 0), (iI 0), (.slice none 0 0)] none false)], _] _ := bl
      refine wRo 2 4 [] 71 72 [] [(72, (.pointer (some ⟨A, 3, none⟩)))] trivial rfl fun _ => ?_
      refine aD (ax (q := 4) bl rfl rfl rfl rfl rfl rfl rfl rfl rfl) rfl ?_
      rintro _ mh _ ⟨ec, _⟩
      have ec : HS _ _ _ [_, _, _, _, [(A, .cells [(iI z), (iI ja), (iI jb), (iI h9), (iI 0), (.slice none 0 0)] none false)], _] _ := ec
      refine ai 0 rfl ?_
      exact hM _ _ ⟨h9, (⟨g9.n⟩ : DigT), _, (i2), ec, ⟨rfl, rfl, rfl, rfl, rfl, rfl, trivial⟩, (by exact opOK_t (by omega) (by omega)), (by omega), (by assumption)⟩
     ·
      try simp only [BS] at f7
      exact hM _ _ ⟨0, (⟨dd.n⟩ : DigT), _, fR, c3, ⟨rfl, rfl, rfl, rfl, rfl, rfl, trivial⟩, (by exact ji (by omega) rfl), (by omega), (by assumption)⟩
    ·
     rintro mD mf ⟨jc, a2, h2, hq, V, hz, hjc, rjc, lR⟩
     refine aF _ hz (fun _ => ?_)
     clear hz
     replace hT := hT.mono hq
     refine ao 3 rfl ?_
     refine wR 3 [] 73 73 [] [(73, (iI z))] trivial rfl fun _ => ?_
     refine wR 1 [] 74 75 [] [(74, (.bool (z == 13)))] trivial rfl fun _ => ?_
     refine dp (fun f H' => ∃ (jq : Int) (asl : List Int) (e4 : DigT) (I : Option Addr) (O : Nat) (F' : Fz), Fz.le h2 F' ∧ HS (Base.of H []) F' H' [cd, ch, [(E, .cells [(iI e4.n)] none false)], p8, [(A, .cells [(iI z), (iI ja), (iI jb), (iI jc), (iI jq), (.slice I asl.length O)] none false)], ci] R ∧ SR F' (.slice I asl.length O) asl ∧ aS f [(4, (.pointer (some ⟨b3, 0, none⟩))), (9, (.pointer (some ⟨A, 0, none⟩)))] ∧ (gq c.params z jq = true) ∧ (in64 jq) ∧ ((z = 6 ∨ asl.length = 0) ∧ asl.length ≤ 6) ∧ (asl.all (aH c.regs) = true) ∧ ((z = 6 → (jq = 0 ∧ asl.length = 2 ∨ jq = 1 ∧ asl.length = 1)) ∧ (z = 34 ∨ z = 35 → jq < 2)) ∧ (in64 e4.n)) (fun a6 => ?_) ?_
     ·
      refine aj 0 1 (v := (z == 13)) rfl rfl rfl rfl (fun f9 => ?_) (fun f9 => ?_)
      ·
       try simp only [BS] at f9
       refine ab ?_
       refine wm (.pointer (some ⟨E, 0, none⟩)) rfl rfl rfl ?_
       refine aC (aw rfl rfl rfl) rfl rfl (cL ex (⟨a2.n⟩ : DigT) (400) (HS.callOwn V (i := 2) rfl) (by omega) (by omega) hT (by omega)) ?_
       rintro _ mj ⟨lC, ha, lZ, ht, a4, rfl, lv, mM⟩
       replace a4 := HS.backOwn V (i := 2) rfl rfl (fun _ hb => hb) a4
       have a4 : HS _ _ _ [_, _, [(E, .cells [(iI ha.n)] none false)], _, [(A, .cells [(iI z), (iI ja), (iI jb), (iI jc), (iI 0), (.slice none 0 0)] none false)], _] _ := a4
       replace hT := hT.mono ht
       refine wm (iI n) rfl rfl rfl ?_
       refine aC (aw rfl rfl rfl) rfl rfl (word_c ex lC n (HS.call a4) (by omega) (by omega) hT) ?_
       rintro _ ml ⟨ih, k9, j0, b0, rfl, mN⟩
       replace b0 := HS.back a4 rfl b0
       have b0 : HS _ _ _ [_, _, _, _, _, _] _ := b0
       refine wRo 2 4 [] 80 81 [] [(81, (.pointer (some ⟨A, 4, none⟩)))] trivial rfl fun _ => ?_
       refine aD (ax (q := 4) b0 rfl rfl rfl rfl rfl rfl rfl rfl rfl) rfl ?_
       rintro _ mn _ ⟨em, _⟩
       have em : HS _ _ _ [_, _, _, _, [(A, .cells [(iI z), (iI ja), (iI jb), (iI jc), (iI ih), (.slice none 0 0)] none false)], _] _ := em
       refine ai 0 rfl ?_
       exact a6 _ _ ⟨ih, ([] : List Int), (⟨ha.n⟩ : DigT), none, 0, _, (fT (ht) j0), em, (SR.nil : SR k9 (.slice none 0 0) ([] : List Int)), ⟨rfl, rfl, trivial⟩, (by exact immT (by omega)), (by assumption), (by (simp <;> omega)), (by rfl), (by omega), (by assumption)⟩
      ·
       try simp only [BS] at f9
       refine wR 1 [] 82 83 [] [(82, (.bool (z == 33)))] trivial rfl fun _ => ?_
       refine aj 0 2 (v := (z == 33)) rfl rfl rfl rfl (fun gj => ?_) (fun gj => ?_)
       ·
        try simp only [BS] at gj
        refine ab ?_
        refine wm (.pointer (some ⟨E, 0, none⟩)) rfl rfl rfl ?_
        refine aC (aw rfl rfl rfl) rfl rfl (cL ex (⟨a2.n⟩ : DigT) (9) (HS.callOwn V (i := 2) rfl) (by omega) (by omega) hT (by omega)) ?_
        rintro _ mo ⟨e5, he, la, j1, b2, rfl, lw, mO⟩
        replace b2 := HS.backOwn V (i := 2) rfl rfl (fun _ hb => hb) b2
        have b2 : HS _ _ _ [_, _, [(E, .cells [(iI he.n)] none false)], _, [(A, .cells [(iI z), (iI ja), (iI jb), (iI jc), (iI 0), (.slice none 0 0)] none false)], _] _ := b2
        refine wRo 3 2 [] 86 88 [] [(86, (iI (e5 - 4))), (88, (.pointer (some ⟨A, 4, none⟩)))] (vA (vi (n := e5 - 4) (by omega)) trivial) rfl fun _ => ?_
        refine aD (ax (q := 4) b2 rfl rfl rfl rfl rfl rfl rfl rfl rfl) rfl ?_
        rintro _ mp _ ⟨es, _⟩
        have es : HS _ _ _ [_, _, _, _, [(A, .cells [(iI z), (iI ja), (iI jb), (iI jc), (iI (e5 - 4)), (.slice none 0 0)] none false)], _] _ := es
        refine ai 0 rfl ?_
        exact a6 _ _ ⟨e5 - 4, ([] : List Int), (⟨he.n⟩ : DigT), none, 0, _, (j1), es, (SR.nil : SR la (.slice none 0 0) ([] : List Int)), ⟨rfl, rfl, trivial⟩, (by exact immT (by omega)), (by omega), (by (simp <;> omega)), (by rfl), (by omega), (by assumption)⟩
       ·
        try simp only [BS] at gj
        refine wR 1 [] 89 90 [] [(89, (.bool (z == 34)))] trivial rfl fun _ => ?_
        refine aj 1 0 (v := (z == 34)) rfl rfl rfl rfl (fun co => ?_) (fun co => ?_)
        ·
         have g1 := co
         try simp only [BS] at g1
         refine aX 0 (v := (z == 34)) rfl co rfl rfl ?_
         refine ab ?_
         refine wm (.pointer (some ⟨E, 0, none⟩)) rfl rfl rfl ?_
         refine aC (aw rfl rfl rfl) rfl rfl (cL ex (⟨a2.n⟩ : DigT) (2) (HS.callOwn V (i := 2) rfl) (by omega) (by omega) hT (by omega)) ?_
         rintro _ mq ⟨ii, hg, ld, j2, b4, rfl, lx, mP⟩
         replace b4 := HS.backOwn V (i := 2) rfl rfl (fun _ hb => hb) b4
         have b4 : HS _ _ _ [_, _, [(E, .cells [(iI hg.n)] none false)], _, [(A, .cells [(iI z), (iI ja), (iI jb), (iI jc), (iI 0), (.slice none 0 0)] none false)], _] _ := b4
         refine wRo 2 2 [] 94 95 [] [(95, (.pointer (some ⟨A, 4, none⟩)))] trivial rfl fun _ => ?_
         refine aD (ax (q := 4) b4 rfl rfl rfl rfl rfl rfl rfl rfl rfl) rfl ?_
         rintro _ mr _ ⟨et, _⟩
         have et : HS _ _ _ [_, _, _, _, [(A, .cells [(iI z), (iI ja), (iI jb), (iI jc), (iI ii), (.slice none 0 0)] none false)], _] _ := et
         refine ai 0 rfl ?_
         exact a6 _ _ ⟨ii, ([] : List Int), (⟨hg.n⟩ : DigT), none, 0, _, (j2), et, (SR.nil : SR ld (.slice none 0 0) ([] : List Int)), ⟨rfl, rfl, trivial⟩, (by exact immT (by omega)), (by omega), (by (simp <;> omega)), (by rfl), (by omega), (by assumption)⟩
        ·
         have g1 := co
         try simp only [BS] at g1
         refine wR 1 [] 89 91 [] [(89, (.bool (z == 35)))] trivial rfl fun _ => ?_
         refine aj 0 1 (v := (z == 35)) rfl rfl rfl rfl (fun g2 => ?_) (fun g2 => ?_)
         ·
          try simp only [BS] at g2
          refine ab ?_
          refine wm (.pointer (some ⟨E, 0, none⟩)) rfl rfl rfl ?_
          refine aC (aw rfl rfl rfl) rfl rfl (cL ex (⟨a2.n⟩ : DigT) (2) (HS.callOwn V (i := 2) rfl) (by omega) (by omega) hT (by omega)) ?_
          rintro _ ms ⟨ik, hh, lf, kd, b5, rfl, ly, mQ⟩
          replace b5 := HS.backOwn V (i := 2) rfl rfl (fun _ hb => hb) b5
          have b5 : HS _ _ _ [_, _, [(E, .cells [(iI hh.n)] none false)], _, [(A, .cells [(iI z), (iI ja), (iI jb), (iI jc), (iI 0), (.slice none 0 0)] none false)], _] _ := b5
          refine wRo 2 2 [] 94 95 [] [(95, (.pointer (some ⟨A, 4, none⟩)))] trivial rfl fun _ => ?_
          refine aD (ax (q := 4) b5 rfl rfl rfl rfl rfl rfl rfl rfl rfl) rfl ?_
          rintro _ mu _ ⟨ez, _⟩
          have ez : HS _ _ _ [_, _, _, _, [(A, .cells [(iI z), (iI ja), (iI jb), (iI jc), (iI ik), (.slice none 0 0)] none false)], _] _ := ez
          refine ai 0 rfl ?_
          exact a6 _ _ ⟨ik, ([] : List Int), (⟨hh.n⟩ : DigT), none, 0, _, (kd), ez, (SR.nil : SR lf (.slice none 0 0) ([] : List Int)), ⟨rfl, rfl, trivial⟩, (by exact immT (by omega)), (by omega), (by (simp <;> omega)), (by rfl), (by omega), (by assumption)⟩
         ·
          try simp only [BS] at g2
          refine wR 1 [] 96 97 [] [(96, (.bool (z == 6)))] trivial rfl fun _ => ?_
          refine aj 1 0 (v := (z == 6)) rfl rfl rfl rfl (fun g3 => ?_) (fun g3 => ?_)
          ·
           try simp only [BS] at g3
           refine ab ?_
           refine wm (.pointer (some ⟨E, 0, none⟩)) rfl rfl rfl ?_
           refine aC (aw rfl rfl rfl) rfl rfl (cL ex (⟨a2.n⟩ : DigT) (2) (HS.callOwn V (i := 2) rfl) (by omega) (by omega) hT (by omega)) ?_
           rintro _ mv ⟨aq, hj, h3, hu, b7, rfl, lz, mR⟩
           replace b7 := HS.backOwn V (i := 2) rfl rfl (fun _ hb => hb) b7
           have b7 : HS _ _ _ [_, _, [(E, .cells [(iI hj.n)] none false)], _, [(A, .cells [(iI z), (iI ja), (iI jb), (iI jc), (iI 0), (.slice none 0 0)] none false)], _] _ := b7
           refine wRo 2 2 [] 100 101 [] [(101, (.pointer (some ⟨A, 4, none⟩)))] trivial rfl fun _ => ?_
           refine aD (ax (q := 4) b7 rfl rfl rfl rfl rfl rfl rfl rfl rfl) rfl ?_
           rintro _ mw _ ⟨c4, _⟩
           have c4 : HS _ _ _ [_, _, _, _, [(A, .cells [(iI z), (iI ja), (iI jb), (iI jc), (iI aq), (.slice none 0 0)] none false)], _] _ := c4
           refine ai 2 rfl ?_
           refine wR 2 [(2, .o (iI aq))] 102 105 [13] [(13, (iI (2 - aq)))] (vA (ql 2 4 (HS.hc c4 (i := 4) rfl) rfl rfl) (vA (vi (n := 2 - aq) (by omega)) trivial)) rfl fun _ => ?_
           have e0 := HS.snoc c4
           have e0 : HS _ _ _ [_, _, _, _, _, _, []] _ := e0
           refine aE (fun (mm : Nat) f H' => ∃ (kk : Int) (al : List Int) (dl : DigT) (U : Fp) (J : Option Addr) (T : Nat) (F' : Fz), Fz.le h3 F' ∧ HS (Base.of H []) F' H' [cd, ch, [(E, .cells [(iI dl.n)] none false)], p8, [(A, .cells [(iI z), (iI ja), (iI jb), (iI jc), (iI aq), (.slice J al.length T)] none false)], ci, U] R ∧ OS F' (.slice J al.length T) al U ∧ aS f [(3, (.pointer (some ⟨b1, 0, none⟩))), (4, (.pointer (some ⟨b3, 0, none⟩))), (5, (.pointer (some ⟨E, 0, none⟩))), (9, (.pointer (some ⟨A, 0, none⟩))), (13, (iI kk))] ∧ mm = kk.toNat ∧ ((al.length : Int) + kk = 2 - aq ∧ 0 ≤ kk) ∧ (al.all (aH c.regs) = true) ∧ (in64 dl.n) ∧ (kk ≤ 2)) _ ⟨2 - aq, ([] : List Int), (⟨hj.n⟩ : DigT), [], none, 0, _, fR, e0, (OS.nil : OS h3 (.slice none 0 0) ([] : List Int) []), ⟨rfl, rfl, rfl, rfl, rfl, trivial⟩, rfl, (by simp; omega), (by rfl), (by omega), (by omega)⟩ ?_
           rintro lN mF mx ⟨kk, al, dl, U, J, T, l0, dv, a0, Z, hB, rfl, q1, q2, q3, q4⟩ kp
           refine aF _ hB (fun _ => ?_)
           clear hB
           replace hT := (hT.mono hu).mono dv
           refine ao 2 rfl ?_
           refine wR 1 [] 106 107 [] [(107, (.bool (decide ((0 : Int) < kk))))] trivial rfl fun _ => ?_
           refine aj 3 3 (v := (decide ((0 : Int) < kk))) rfl rfl rfl rfl (fun g4 => ?_) (fun g4 => ?_)
           ·
            try simp only [BS] at g4
            refine aG rfl ?_
            refine wfv (v := (.pointer (some ⟨A, 5, none⟩))) (aR rfl rfl) ?_
            refine au (v := (.slice J al.length T)) (id := .l A) (aA (i := 5) rfl rfl (HS.hc a0.log0 (i := 4) rfl) rfl rfl) rfl rfl (aL rfl) (kb rfl) ?_
            refine fm (.pointer (some ⟨E, 0, none⟩)) rfl rfl rfl ?_
            refine wfv (v := (.pointer (some ⟨b1, 1, none⟩))) (aR rfl rfl) ?_
            refine au (v := (iI c.regs)) (id := .l b1) (aA (i := 1) rfl rfl (HS.hc a0.log0 (i := 0) rfl) rfl rfl) rfl rfl (aL rfl) (kb rfl) ?_
            refine bg (W := [E]) (aw rfl rfl rfl) rfl rfl rfl (cL ex (⟨dl.n⟩ : DigT) c.regs (HS.callOwn a0.log0 (i := 2) rfl) (by omega) (by omega) hT (by omega)) (⟨.inl rfl, ⟨.inl rfl, ⟨.inl rfl, ⟨.inr (HS.nin a0 (i := 4) (j := 2) rfl rfl (by decide) (by simp)), ⟨.inr trivial, trivial⟩⟩⟩⟩⟩) ?_
            rintro _ lh ⟨b9, hk, l1, hv, ad, rfl, lA, mS⟩
            refine ⟨HS.didW ad, fun kr hW => ?_⟩
            replace ad := HS.backOwn a0.log0 (i := 2) rfl rfl (fun _ hb => hb) ad
            replace ad := HS.lg ad a0 hW
            generalize ({ lh with log := kr } : Heap) = lD at ad ⊢
            have ad : HS _ _ _ [_, _, [(E, .cells [(iI hk.n)] none false)], _, [(A, .cells [(iI z), (iI ja), (iI jb), (iI jc), (iI aq), (.slice J al.length T)] none false)], _, U] _ := ad
            replace Z := Z.mono hv
            refine dJ (id := .a) (bZ (α := Int) (ps := [(0, (iI b9))]) (cells := [(iI b9)]) ([b9] : List Int) ad.log0 rfl rfl rfl (by kernel_rfl) ⟨[(iI b9)], [], rfl, ⟨rfl, by omega⟩, rfl⟩ rfl) rfl rfl (fun _ _ _ _ => gN rfl rfl rfl) (kb rfl) ?_
            rintro _ lj lB ⟨mz, mU, rfl, kl, ag, _⟩ kt hX
            replace ag := HS.lg ag ad hX
            generalize ({ lj with log := kt } : Heap) = lE at ag ⊢
            have ag : HS _ _ _ [_, _, _, _, _, _, _, lB] _ := ag
            refine dJ (id := .x (U.map Prod.fst)) (cT (α := Int) (q := 6) Z ag.log0 rfl rfl rfl (OS.sv kl ag.log0 (i := 7) rfl) rfl rfl rfl rfl rfl rfl rfl (by (simp only [List.length_cons, List.length_nil]; omega))) rfl rfl (by rintro _ _ hR ⟨e9, hN, rfl, hC, _, hwr⟩; exact cE rfl rfl (Wr.did hwr)) (kb rfl) ?_
            rintro _ ll hR ⟨e9, hN, rfl, hC, a1, _⟩ kv hY
            replace a1 := HS.lg a1 ag hY
            generalize ({ ll with log := kv } : Heap) = lF at a1 ⊢
            have a1 : HS _ _ _ [_, _, _, _, _, _, hR, _] _ := a1
            refine wfv (v := (.pointer (some ⟨A, 5, none⟩))) (aR rfl rfl) ?_
            refine ed (id := .x [A]) (ax (q := 4) a1.log0 rfl rfl rfl rfl rfl rfl rfl rfl rfl) rfl (by rintro _ _ _ ⟨_, hwr⟩; exact cE rfl rfl (Wr.did hwr)) (kb rfl) ?_
            rintro _ lm _ ⟨a5, _⟩ k0 h1
            replace a5 := HS.lg a5 a1 h1
            generalize ({ lm with log := k0 } : Heap) = lG at a5 ⊢
            have a5 : HS _ _ _ [_, _, _, _, [(A, .cells [(iI z), (iI ja), (iI jb), (iI jc), (iI aq), (.slice e9 (al ++ ([b9] : List Int)).length hN)] none false)], _, _, _] _ := a5
            refine bw ?_
            refine ao 2 rfl ?_
            refine wR 1 [] 108 109 [13] [(13, (iI (kk - 1)))] (vA (vi (n := kk - 1) (by omega)) trivial) rfl fun _ => ?_
            refine kp _ _ _ ?_ ⟨kk - 1, al ++ ([b9] : List Int), (⟨hk.n⟩ : DigT), hR, e9, hN, _, (fT (dv) hv), (HS.sub a5 (List.sublist_append_left _ _)), hC, ⟨rfl, rfl, rfl, rfl, rfl, trivial⟩, rfl, (by simp; omega), (by exact all_app q2 (br.2 (by omega))), (by omega), (by omega)⟩
            omega
           ·
            try simp only [BS] at g4
            obtain ⟨l2, ki, e1, kn, lL⟩ := OS.frz Z a0 (i := 6) rfl
            have e1 : HS _ _ _ [_, _, [(E, .cells [(iI dl.n)] none false)], _, [(A, .cells [(iI z), (iI ja), (iI jb), (iI jc), (iI aq), (.slice J al.length T)] none false)], _, _] _ := e1
            exact a6 _ _ ⟨aq, al, (⟨dl.n⟩ : DigT), J, T, _, (fT (fT (hu) dv) ki), (HS.sub e1 (List.sublist_append_left _ _)), kn, ⟨rfl, rfl, trivial⟩, (by exact immT (by omega)), (by omega), (by omega), (by assumption), (by omega), (by omega)⟩
          ·
           try simp only [BS] at g3
           exact a6 _ _ ⟨0, ([] : List Int), (⟨a2.n⟩ : DigT), none, 0, _, fR, V, (SR.nil : SR h2 (.slice none 0 0) ([] : List Int)), ⟨rfl, rfl, trivial⟩, (by exact immT (by omega)), (by omega), (by (simp <;> omega)), (by rfl), (by omega), (by assumption)⟩
     ·
      rintro mE mi ⟨jq, asl, e4, I, O, lY, i3, hE, dk, hA, hjq, rjq, h6, c8, hck, lS⟩
      refine aF _ hA (fun _ => ?_)
      clear hA
      refine ao 3 rfl ?_
      refine ab ?_
      let hV : Value := (.agg ⟨[(iI z), (iI ja), (iI jb), (iI jc), (iI jq), (.slice I asl.length O)]⟩)
      refine wRo 1 0 [(0, .o hV)] 119 119 [] [(119, hV)] (vA (qn 47 0 6 (HS.hc hE (i := 4) rfl) rfl rfl rfl rfl) trivial) rfl fun _ => ?_
      refine aD (ax (q := 1) hE rfl rfl rfl rfl rfl rfl rfl rfl rfl) rfl ?_
      rintro _ my _ ⟨c5, _⟩
      have c5 : HS _ _ _ [_, [(b3, .cells [(iI z), (iI ja), (iI jb), (iI jc), (iI jq), (.slice I asl.length O)] none false)], [(E, .cells [(iI e4.n)] none false)], _, [(A, .cells [(iI z), (iI ja), (iI jb), (iI jc), (iI jq), (.slice I asl.length O)] none false)], _] _ := c5
      refine ai 1 rfl ?_
      refine ah ⟨.inr rfl, _, (rC rfl (ldVN rfl rfl (HS.hc c5 (i := 1) rfl) rfl) rN), (⟨(⟨z, ja, jb, jc, jq⟩ : InsT), asl⟩ : VInT), I, O, _, (fT (fT (fT (fT (fT (fT (ds) dt) hl) hm) hp) hq) i3), (HS.forget c5), rfl, (by (dsimp only; omega)), (by omega), (by omega), (by omega), (by omega), dk, (by exact vin_mk ho.2 h6.1 h6.2 c8 hja hjb hjc hjq), (by exact decide_eq_true hck)⟩
end Go.Proofs.YtlabedbmgmfbaaaDoor.m4
