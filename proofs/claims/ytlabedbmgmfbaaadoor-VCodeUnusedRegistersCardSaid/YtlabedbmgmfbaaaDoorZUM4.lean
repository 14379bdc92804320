/-
 The generator of virtual code, function by function, each by a symbolic run: what it makes is valid. No condition but that the table lies as laid.
-/
import Derived.Test.YtlabedbmgmfbaaaDoorZUM3
noncomputable section
namespace Go.Proofs.YtlabedbmgmfbaaaDoor.m4
open Go.R
set_option maxRecDepth 10000
set_option linter.unusedVariables false
open m1 m2 m3
theorem wr64 (n : Int) : in64 (IntKind.i64.wrap n) := cB n
theorem td64 (n : Int) {m : Int} (h : 0 < m) : in64 (Int.tdiv (IntKind.i64.wrap n) m) := vq (wr64 n) (by omega)
theorem gv {p : Prop} [Decidable p] {n r : Int} (h : p) (hn : 0 ≤ n ∧ n < r) : iC (decide p) n r = true := by rw [decide_eq_true h]; exact bg.2 hn
theorem e8 {p : Prop} [Decidable p] {n r : Int} (h : ¬ p) (hn : n = 0) : iC (decide p) n r = true := by rw [decide_eq_false h, hn]; rfl
def opG (op : Int) : Prop := (op = 3 ∨ op = 6 ∨ (9 ≤ op ∧ op ≤ 13) ∨ (15 ≤ op ∧ op ≤ 35)) ∧ alV op = true
theorem ops_al {op : Int} (h : 15 ≤ op ∧ op ≤ 32) : opG op := ⟨by omega, decide_eq_true (by omega)⟩
theorem lit12 {k : Nat} (h : k < 12) : opG (([3, 6, 9, 10, 11, 12, 13, 33, 34, 35, 10, 9] : List Int).getD k 0) := by
 have : ∀ k : Fin 12, ((([3, 6, 9, 10, 11, 12, 13, 33, 34, 35, 10, 9] : List Int).getD k.val 0) = 3 ∨ (([3, 6, 9, 10, 11, 12, 13, 33, 34, 35, 10, 9] : List Int).getD k.val 0) = 6 ∨ (9 ≤ (([3, 6, 9, 10, 11, 12, 13, 33, 34, 35, 10, 9] : List Int).getD k.val 0) ∧ (([3, 6, 9, 10, 11, 12, 13, 33, 34, 35, 10, 9] : List Int).getD k.val 0) ≤ 13) ∨ (15 ≤ (([3, 6, 9, 10, 11, 12, 13, 33, 34, 35, 10, 9] : List Int).getD k.val 0) ∧ (([3, 6, 9, 10, 11, 12, 13, 33, 34, 35, 10, 9] : List Int).getD k.val 0) ≤ 35)) ∧ alV (([3, 6, 9, 10, 11, 12, 13, 33, 34, 35, 10, 9] : List Int).getD k.val 0) = true := by decide
 exact this ⟨k, h⟩
theorem immT {p op n : Int} (h : op = 13 ∨ op = 33 ∧ -4194304 ≤ n ∧ n < 4194304 ∨ op = 6 ∧ 0 ≤ n ∧ n < 8 ∨ (op = 34 ∨ op = 35) ∧ 0 ≤ n ∧ n < 4 ∨ (op ≠ 13 ∧ op ≠ 33 ∧ op ≠ 6 ∧ op ≠ 34 ∧ op ≠ 35 ∧ op ≠ 38) ∧ n = 0) : iW p op n = true := by
 unfold iW
 (repeat' split) <;> first | rfl | (apply decide_eq_true; omega) | (exfalso; omega)
theorem all_app {p : Int → Bool} {l : List Int} {x : Int} (h : l.all p = true) (hx : p x = true) : (l ++ [x]).all p = true := by rw [List.all_append, h]; simp [hx]
theorem vin_mk {params regs op a b c n : Int} {l : List Int} (z : alV op = true) (A : op = 6 ∨ l.length = 0) (E : l.length ≤ 6) (I : l.all (aE regs) = true) (J : iC (decide (aB op ≠ 1)) a regs = true) (O : iC (decide (aB op = 3 ∨ aB op = 4 ∨ aB op = 7)) b regs = true) (T : iC (decide (aB op = 4)) c regs = true) (U : iW params op n = true) : fg params regs ⟨⟨op, a, b, c, n⟩, l⟩ = true := by
 unfold fg
 simp only [z, decide_eq_true A, decide_eq_true E, I, J, O, T, U, Bool.and_self]
def ckI (v : VInT) : Bool := decide ((v.i.op = 6 → (v.i.n = 0 ∧ v.args.length = 2 ∨ v.i.n = 1 ∧ v.args.length = 1)) ∧ (v.i.op = 34 ∨ v.i.op = 35 → v.i.n < 2))
theorem cT (ex : FuncId) {b_d : Nat} (d : DigT) (m : Int) {F : Fz} {H : Heap} {R : List Fp} (hs : HS (.of H [b_d]) F H [[(b_d, .cells [(iI d.n)] none false)]] R) (A : in64 d.n) (hm : in64 m) (hT : TB 37 tabC F) (hm : 0 < m) : C Tryd.prog 1 (KT 60 ex 37 tabC) 49 [(.pointer (some ⟨b_d, 0, none⟩)), (iI m)] H fun v H' => ∃ (r : Int) (d' : DigT) (F' : Fz), Fz.le F F' ∧ HS (.of H [b_d]) F' H' [[(b_d, .cells [(iI d'.n)] none false)]] R ∧ v = .int .i64 r ∧ in64 d'.n ∧ (0 ≤ r ∧ r < m) := by
 refine aK Tryd.func49 rfl rfl ?_
 refine aw 1 rfl ?_
 refine wR 2 [] 4 4 [] [(4, (iI 0))] trivial rfl fun _ => ?_
 have E := dA d.n m
 refine wR 2 [(3, .o (iI d.n)), (5, .o (iI (ab d.n m)))] 6 11 [5] [(5, (iI (ab d.n m)))] (vA (ql 3 0 (HS.hc hs (i := 0) rfl) rfl rfl) (vA (m1.fP ex d.n m H (by first | omega | exact wr64 _ | exact td64 _ (by omega))) trivial)) rfl fun _ => ?_
 refine ah ?_
 refine wRo 11 0 [(4, .o (iI d.n)), (6, .w)] 12 22 [] [(20, (iI (Int.tdiv (IntKind.i64.wrap (d.n - (ab d.n m))) m))), (22, (.pointer (some ⟨b_d, 0, none⟩)))] (vA (ql 3 0 (HS.hc hs (i := 0) rfl) rfl rfl) (vA (vA (show m ≠ 0 from by first | omega | exact wr64 _ | exact td64 _ (by omega)) (vq (a := IntKind.i64.wrap (d.n - (ab d.n m))) (b := m) (by first | omega | exact wr64 _ | exact td64 _ (by omega)) (by first | omega | exact wr64 _ | exact td64 _ (by omega)))) trivial)) rfl fun _ => ?_
 refine aN (aC (q := 0) hs rfl rfl rfl rfl rfl rfl rfl rfl rfl) rfl ?_
 rintro _ I _ ⟨z, _⟩
 have z : HS _ _ _ [[(b_d, .cells [(iI (Int.tdiv (IntKind.i64.wrap (d.n - (ab d.n m))) m))] none false)]] _ := z
 refine ao 2 rfl ?_
 refine wR 1 [] 4 4 [23] [(4, (iI (ab d.n m)))] trivial rfl fun _ => ?_
 refine am ⟨.inr rfl, _, rfl, ab d.n m, (⟨Int.tdiv (IntKind.i64.wrap (d.n - (ab d.n m))) m⟩ : DigT), _, fR, (HS.first z), rfl, (by first | omega | exact wr64 _ | exact td64 _ (by omega)), (by first | assumption | omega | simp_all)⟩
theorem word_c (ex : FuncId) (n : Int) (raw : Int) {F : Fz} {H : Heap} {R : List Fp} (hs : HS (.of H []) F H [] R) (hn : in64 n) (hraw : in64 raw) (hT : TB 37 tabC F) : C Tryd.prog 1 (KT 60 ex 37 tabC) 50 [(iI n), (iI raw)] H fun v H' => ∃ (r : Int) (F' : Fz), Fz.le F F' ∧ HS (.of H []) F' H' [] R ∧ v = .int .i64 r ∧ (in64 r) := by
 refine aK Tryd.func50 rfl rfl ?_
 refine aw 1 rfl ?_
 refine wR 2 [] 4 4 [] [(4, (iI 0))] trivial rfl fun _ => ?_
 refine ah ?_
 refine bf (cS (α := Int) (ps := [(0, (iI 0)), (1, (iI 1)), (2, (iI (-1))), (3, (iI 2)), (4, (iI (-9223372036854775808))), (5, (iI 9223372036854775807)), (6, (iI 4294967296)), (7, (iI (-2147483648))), (8, (iI 63)), (9, (iI 64))]) (cells := [(iI 0), (iI 1), (iI (-1)), (iI 2), (iI (-9223372036854775808)), (iI 9223372036854775807), (iI 4294967296), (iI (-2147483648)), (iI 63), (iI 64)]) ([0, 1, (-1), 2, (-9223372036854775808), 9223372036854775807, 4294967296, (-2147483648), 63, 64] : List Int) hs rfl rfl rfl (by kernel_rfl) ⟨[(iI 0)], _, rfl, ⟨rfl, by omega⟩, ⟨[(iI 1)], _, rfl, ⟨rfl, by omega⟩, ⟨[(iI (-1))], _, rfl, ⟨rfl, by omega⟩, ⟨[(iI 2)], _, rfl, ⟨rfl, by omega⟩, ⟨[(iI (-9223372036854775808))], _, rfl, ⟨rfl, by omega⟩, ⟨[(iI 9223372036854775807)], _, rfl, ⟨rfl, by omega⟩, ⟨[(iI 4294967296)], _, rfl, ⟨rfl, by omega⟩, ⟨[(iI (-2147483648))], _, rfl, ⟨rfl, by omega⟩, ⟨[(iI 63)], _, rfl, ⟨rfl, by omega⟩, ⟨[(iI 64)], _, rfl, ⟨rfl, by omega⟩, rfl⟩⟩⟩⟩⟩⟩⟩⟩⟩⟩ rfl) rfl rfl ?_
 rintro _ O V ⟨T, k2, rfl, E, z, _⟩
 have z : HS _ _ _ [V] _ := z
 refine wa (.slice T ([0, 1, (-1), 2, (-9223372036854775808), 9223372036854775807, 4294967296, (-2147483648), 63, 64] : List Int).length k2) rfl rfl rfl ?_
 refine ao 2 rfl ?_
 have ag := dA n (24 : Int)
 refine wR 4 [(1, .o (iI (ab n (24 : Int))))] 8 9 [6] [(6, (iI (ab n (24 : Int))))] (vA (m1.fP ex n (24) O (by omega)) trivial) rfl fun _ => ?_
 refine wR 1 [] 10 12 [] [(10, (.bool (decide (ab n (24 : Int) < 10))))] trivial rfl fun _ => ?_
 refine au 1 1 (v := (decide (ab n (24 : Int) < 10))) rfl rfl rfl rfl (fun J => ?_) (fun J => ?_)
 ·
  try simp only [BS] at J
  obtain ⟨ad, I⟩ := Sv.view (OS.sv E z (i := 0) rfl)
  have g9 := fI (I (ab n (24 : Int)).toNat)
  refine wR 1 [(3, .o (iI (([0, 1, (-1), 2, (-9223372036854775808), 9223372036854775807, 4294967296, (-2147483648), 63, 64] : List Int).getD (ab n (24 : Int)).toNat 0)))] 13 16 [4] [(4, (iI (([0, 1, (-1), 2, (-9223372036854775808), 9223372036854775807, 4294967296, (-2147483648), 63, 64] : List Int).getD (ab n (24 : Int)).toNat 0)))] (vA (Sv.ix (j := ab n (24 : Int)) (OS.sv E z (i := 0) rfl) (by omega) (show ab n (24 : Int) < (10 : Int) from by omega)) (vA (ql 2 0 (vI (I (ab n (24 : Int)).toNat) (show (ab n (24 : Int)).toNat < 10 from by omega)) rfl rfl) trivial)) rfl fun _ => ?_
  refine am ⟨.inr rfl, _, rfl, (([0, 1, (-1), 2, (-9223372036854775808), 9223372036854775807, 4294967296, (-2147483648), 63, 64] : List Int).getD (ab n (24 : Int)).toNat 0), _, fR, (HS.forget z), rfl, (by omega)⟩
 ·
  try simp only [BS] at J
  refine wR 1 [] 17 19 [] [(17, (.bool (decide (ab n (24 : Int) < 22))))] trivial rfl fun _ => ?_
  refine au 1 3 (v := (decide (ab n (24 : Int) < 22))) rfl rfl rfl rfl (fun A => ?_) (fun A => ?_)
  ·
   try simp only [BS] at A
   have Z : in64 n → in64 (Int.tdiv n 24) := fun h => vq h (by decide)
   have U := dA (Int.tdiv n 24) (17 : Int)
   refine wR 1 [(2, .o (iI (ab (Int.tdiv n 24) (17 : Int))))] 20 23 [4] [(4, (iI ((ab (Int.tdiv n 24) (17 : Int)) - 6)))] (vA (vA (show (24 : Int) ≠ 0 from by decide) (vq (a := n) (b := 24) (by omega) (by decide))) (vA (m1.fP ex (Int.tdiv n 24) (17) O (by omega)) (vA (vi (n := (ab (Int.tdiv n 24) (17 : Int)) - 6) (by omega)) trivial))) rfl fun _ => ?_
   refine am ⟨.inr rfl, _, rfl, (ab (Int.tdiv n 24) (17 : Int)) - 6, _, fR, (HS.forget z), rfl, (by omega)⟩
  ·
   try simp only [BS] at A
   refine wR 1 [] 4 4 [24] [(4, (iI raw))] trivial rfl fun _ => ?_
   refine am ⟨.inr rfl, _, rfl, raw, _, fR, (HS.forget z), rfl, (by omega)⟩
set_option maxHeartbeats 1000000 in
theorem vi_c (ex : FuncId) (n : Int) {f6 : Option Addr} {hX : Nat} (c : VFnT) {F : Fz} {H : Heap} {R : List Fp} (hs : HS (.of H []) F H [] R) (hn : in64 n) (k9 : in64 c.params) (la : in64 c.regs) (hT : TB 37 tabC F) (hr : 1 ≤ c.regs ∧ c.regs ≤ 3000) : C Tryd.prog 1 (KT 60 ex 37 tabC) 44 [(iI n), (.agg ⟨[(iI c.params), (iI c.regs), (.slice f6 c.blocks.length hX)]⟩)] H fun v H' => ∃ (x : VInT) (f9 : Option Addr) (hY : Nat) (F' : Fz), Fz.le F F' ∧ HS (.of H []) F' H' [] R ∧ v = .agg ⟨[.int .i64 x.i.op, .int .i64 x.i.a, .int .i64 x.i.b, .int .i64 x.i.c, .int .i64 x.i.n, .slice f9 x.args.length hY]⟩ ∧ in64 x.i.op ∧ in64 x.i.a ∧ in64 x.i.b ∧ in64 x.i.c ∧ in64 x.i.n ∧ SR F' (.slice f9 x.args.length hY) x.args ∧ (fg c.params c.regs x = true) ∧ (ckI x = true) := by
 refine aK Tryd.func44 rfl rfl ?_
 refine aw 1 rfl ?_
 refine ah ?_
 refine bf (dQ hs rfl rfl) rfl rfl ?_
 rintro _ H2 _ ⟨b1, rfl, dd, _⟩
 let ci : Fp := [(b1, .cells [(iI c.params), (iI c.regs), (.slice f6 c.blocks.length hX)] none false)]
 have dd : HS _ _ _ [ci] _ := dd
 refine bf (bY dd rfl) rfl rfl ?_
 rintro _ H4 _ ⟨b3, rfl, hI, _⟩
 let cl : Fp := [(b3, .cells [(iI 0), (iI 0), (iI 0), (iI 0), (iI 0), (.slice none 0 0)] none false)]
 have hI : HS _ _ _ [_, cl] _ := hI
 refine ao 2 rfl ?_
 refine ah ?_
 refine wRo 2 0 [] 14 15 [] [(15, (.agg ⟨[(iI n)]⟩))] trivial rfl fun _ => ?_
 refine bf (dQ hI rfl rfl) rfl rfl ?_
 rintro _ H7 _ ⟨E, rfl, hM, _⟩
 have hM : HS _ _ _ [_, _, [(E, .cells [(iI n)] none false)]] _ := hM
 refine wa (.pointer (some ⟨E, 0, none⟩)) rfl rfl rfl ?_
 refine ao 2 rfl ?_
 refine ah ?_
 refine bf (cS (α := Int) (ps := [(0, (iI 3)), (1, (iI 6)), (2, (iI 9)), (3, (iI 10)), (4, (iI 11)), (5, (iI 12)), (6, (iI 13)), (7, (iI 33)), (8, (iI 34)), (9, (iI 35)), (10, (iI 10)), (11, (iI 9))]) (cells := [(iI 3), (iI 6), (iI 9), (iI 10), (iI 11), (iI 12), (iI 13), (iI 33), (iI 34), (iI 35), (iI 10), (iI 9)]) ([3, 6, 9, 10, 11, 12, 13, 33, 34, 35, 10, 9] : List Int) hM rfl rfl rfl (by kernel_rfl) ⟨[(iI 3)], _, rfl, ⟨rfl, by first | omega | (dsimp only; omega)⟩, ⟨[(iI 6)], _, rfl, ⟨rfl, by first | omega | (dsimp only; omega)⟩, ⟨[(iI 9)], _, rfl, ⟨rfl, by first | omega | (dsimp only; omega)⟩, ⟨[(iI 10)], _, rfl, ⟨rfl, by first | omega | (dsimp only; omega)⟩, ⟨[(iI 11)], _, rfl, ⟨rfl, by first | omega | (dsimp only; omega)⟩, ⟨[(iI 12)], _, rfl, ⟨rfl, by first | omega | (dsimp only; omega)⟩, ⟨[(iI 13)], _, rfl, ⟨rfl, by first | omega | (dsimp only; omega)⟩, ⟨[(iI 33)], _, rfl, ⟨rfl, by first | omega | (dsimp only; omega)⟩, ⟨[(iI 34)], _, rfl, ⟨rfl, by first | omega | (dsimp only; omega)⟩, ⟨[(iI 35)], _, rfl, ⟨rfl, by first | omega | (dsimp only; omega)⟩, ⟨[(iI 10)], _, rfl, ⟨rfl, by first | omega | (dsimp only; omega)⟩, ⟨[(iI 9)], _, rfl, ⟨rfl, by first | omega | (dsimp only; omega)⟩, rfl⟩⟩⟩⟩⟩⟩⟩⟩⟩⟩⟩⟩ rfl) rfl rfl ?_
 rintro _ H9 p8 ⟨a8, k8, rfl, e5, e6, _⟩
 have e6 : HS _ _ _ [_, _, _, p8] _ := e6
 refine wa (.slice a8 ([3, 6, 9, 10, 11, 12, 13, 33, 34, 35, 10, 9] : List Int).length k8) rfl rfl rfl ?_
 refine ao 2 rfl ?_
 refine ah ?_
 refine wm (.pointer (some ⟨E, 0, none⟩)) rfl rfl rfl ?_
 refine aJ (ay rfl rfl rfl) rfl rfl (cT ex (⟨n⟩ : DigT) (18) (HS.callOwn e6 (i := 2) rfl) (by first | omega | (dsimp only; omega)) (by first | omega | (dsimp only; omega)) hT (by first | omega | (dsimp only; omega))) ?_
 rintro _ lA ⟨h2, he, lm, dv, a3, rfl, kN, mb⟩
 replace a3 := HS.backOwn e6 (i := 2) rfl rfl (fun _ hb => hb) a3
 have a3 : HS _ _ _ [_, _, [(E, .cells [(iI he.n)] none false)], _] _ := a3
 replace hT := hT.mono dv
 refine wRo 2 2 [] 20 20 [7] [(7, (iI (15 + h2)))] (vA (vi (n := 15 + h2) (by first | omega | (dsimp only; omega))) trivial) rfl fun _ => ?_
 refine ao 3 rfl ?_
 refine ah ?_
 refine wm (.pointer (some ⟨E, 0, none⟩)) rfl rfl rfl ?_
 refine aJ (ay rfl rfl rfl) rfl rfl (cT ex (⟨he.n⟩ : DigT) (24) (HS.callOwn a3 (i := 2) rfl) (by first | omega | (dsimp only; omega)) (by first | omega | (dsimp only; omega)) hT (by first | omega | (dsimp only; omega))) ?_
 rintro _ ik ⟨ap, dt, ln, d1, ar, rfl, kO, mc⟩
 replace ar := HS.backOwn a3 (i := 2) rfl rfl (fun _ hb => hb) ar
 have ar : HS _ _ _ [_, _, [(E, .cells [(iI dt.n)] none false)], _] _ := ar
 replace hT := hT.mono d1
 replace e5 := (e5.mono dv).mono d1
 refine wa (iI ap) rfl rfl rfl ?_
 refine ao 2 rfl ?_
 refine wR 1 [] 23 26 [] [(26, (.bool (decide (ap < 12))))] trivial rfl fun _ => ?_
 refine dH (fun f H' => ∃ (z : Int), H' = ik ∧ bc f [(0, (iI n)), (3, (.pointer (some ⟨b1, 0, none⟩))), (4, (.pointer (some ⟨b3, 0, none⟩))), (5, (.pointer (some ⟨E, 0, none⟩))), (7, (iI z))] ∧ (opG z)) (fun hP => ?_) ?_
 ·
  refine au 0 0 (v := (decide (ap < 12))) rfl rfl rfl rfl (fun gn => ?_) (fun gn => ?_)
  ·
   try simp only [BS] at gn
   obtain ⟨k7, hN⟩ := Sv.view (OS.sv e5 ar (i := 3) rfl)
   have ma := fI (hN ap.toNat)
   refine wR 0 [(3, .o (iI (([3, 6, 9, 10, 11, 12, 13, 33, 34, 35, 10, 9] : List Int).getD ap.toNat 0)))] 27 30 [7] [(7, (iI (([3, 6, 9, 10, 11, 12, 13, 33, 34, 35, 10, 9] : List Int).getD ap.toNat 0)))] (vA (Sv.ix (j := ap) (OS.sv e5 ar (i := 3) rfl) (by first | omega | (dsimp only; omega)) (show ap < (12 : Int) from by first | omega | (dsimp only; omega))) (vA (ql 3 0 (vI (hN ap.toNat) (show ap.toNat < 12 from by first | omega | (dsimp only; omega))) rfl rfl) trivial)) rfl fun _ => ?_
   exact hP _ _ ⟨(([3, 6, 9, 10, 11, 12, 13, 33, 34, 35, 10, 9] : List Int).getD ap.toNat 0), rfl, (agC rfl (agC rfl (agC rfl (agC rfl (agC rfl agN))))), (by first | exact lit12 (by omega) | exact ops_al (by omega))⟩
  ·
   try simp only [BS] at gn
   exact hP _ _ ⟨15 + h2, rfl, (agC rfl (agC rfl (agC rfl (agC rfl (agC rfl agN))))), (by first | exact lit12 (by omega) | exact ops_al (by omega))⟩
 ·
  rintro l4 ik ⟨z, rfl, hB, ho⟩
  refine aO _ hB (fun _ => ?_)
  clear hB
  have hf := aD ho.2
  have hvf : aB z = (bH z).form := if_neg (by have := ho.1; omega)
  have mp := ho.1
  refine aw 2 rfl ?_
  refine ah ?_
  refine wRo 3 0 [] 31 33 [] [(33, (.agg ⟨[(iI z), (iI 0), (iI 0), (iI 0), (iI 0), (.slice none 0 0)]⟩))] trivial rfl fun _ => ?_
  refine bf (bY ar rfl) rfl rfl ?_
  rintro _ lB _ ⟨A, rfl, eb, _⟩
  have eb : HS _ _ _ [_, _, _, _, [(A, .cells [(iI 0), (iI 0), (iI 0), (iI 0), (iI 0), (.slice none 0 0)] none false)]] _ := eb
  refine aN (aC (q := 4) eb rfl rfl rfl rfl rfl rfl rfl rfl rfl) rfl ?_
  rintro _ lC _ ⟨c3, _⟩
  have c3 : HS _ _ _ [_, _, _, _, [(A, .cells [(iI z), (iI 0), (iI 0), (iI 0), (iI 0), (.slice none 0 0)] none false)]] _ := c3
  refine ao 2 rfl ?_
  refine ah ?_
  refine wm (iI z) rfl rfl rfl ?_
  refine aJ (ay rfl rfl rfl) rfl rfl (m1.rInfo_c ex z (HS.call c3) (by first | omega | (dsimp only; omega)) hT) ?_
  rintro _ lD ⟨ms, mr, kC, hu, a7, rfl, kA, kB, rfl, rfl⟩
  replace a7 := HS.back c3 rfl a7
  have a7 : HS _ _ _ [_, _, _, _, _] _ := a7
  replace hT := hT.mono hu
  refine wRo 3 2 [] 37 38 [34] [(37, (.agg ⟨[(.string ⟨⟨(bH z).name.b⟩⟩), (iI (bH z).form), (.bool (bH z).ra), (.bool (bH z).wa), (.bool (bH z).rb), (.bool (bH z).mt), (iI (bH z).words)]⟩)), (38, (.bool (infO z)))] trivial rfl fun _ => ?_
  refine bf (bY a7 rfl) rfl rfl ?_
  rintro _ lE _ ⟨iv, rfl, ei, _⟩
  have ei : HS _ _ _ [_, _, _, _, _, [(iv, .cells [(.string ⟨⟨[]⟩⟩), (iI 0), (.bool false), (.bool false), (.bool false), (.bool false), (iI 0)] none false)]] _ := ei
  refine aN (aC (q := 5) ei rfl rfl rfl rfl rfl rfl rfl rfl rfl) rfl ?_
  rintro _ lF _ ⟨av, _⟩
  let co : Fp := [(iv, .cells [(.string ⟨⟨(bH z).name.b⟩⟩), (iI (bH z).form), (.bool (bH z).ra), (.bool (bH z).wa), (.bool (bH z).rb), (.bool (bH z).mt), (iI (bH z).words)] none false)]
  have av : HS _ _ _ [_, _, _, _, _, co] _ := av
  refine wa (.bool (infO z)) rfl rfl rfl ?_
  refine ao 2 rfl ?_
  refine wR 3 [(1, .o (iI (bH z).form))] 39 40 [12] [(12, (iI (bH z).form))] (vA (ql 3 1 (HS.hc av (i := 5) rfl) rfl rfl) trivial) rfl fun _ => ?_
  refine wR 1 [] 41 42 [] [(42, (.bool ((bH z).form != 1)))] trivial rfl fun _ => ?_
  refine dH (fun f H' => ∃ (ja : Int) (dk : DigT) (F' : Fz), Fz.le kC F' ∧ HS (Base.of H []) F' H' [ci, cl, [(E, .cells [(iI dk.n)] none false)], p8, [(A, .cells [(iI z), (iI ja), (iI 0), (iI 0), (iI 0), (.slice none 0 0)] none false)], co] R ∧ bc f [(0, (iI n)), (3, (.pointer (some ⟨b1, 0, none⟩))), (4, (.pointer (some ⟨b3, 0, none⟩))), (5, (.pointer (some ⟨E, 0, none⟩))), (7, (iI z)), (9, (.pointer (some ⟨A, 0, none⟩))), (12, (iI (bH z).form))] ∧ (iC (decide (aB z ≠ 1)) ja c.regs = true) ∧ (in64 ja) ∧ (in64 dk.n)) (fun hQ => ?_) ?_
  ·
   refine au 0 0 (v := ((bH z).form != 1)) rfl rfl rfl rfl (fun g1 => ?_) (fun g1 => ?_)
   ·
    try simp only [BS] at g1
    refine ah ?_
    refine wRo 3 0 [(2, .o (iI c.regs))] 43 45 [] [(43, (.pointer (some ⟨E, 0, none⟩))), (45, (iI c.regs))] (vA (ql 3 1 (HS.hc av (i := 0) rfl) rfl rfl) trivial) rfl fun _ => ?_
    refine aJ (ay rfl rfl rfl) rfl rfl (cT ex (⟨dt.n⟩ : DigT) c.regs (HS.callOwn av (i := 2) rfl) (by first | omega | (dsimp only; omega)) (by first | omega | (dsimp only; omega)) hT (by first | omega | (dsimp only; omega))) ?_
    rintro _ lH ⟨i2, hg, lp, kh, bb, rfl, kP, md⟩
    replace bb := HS.backOwn av (i := 2) rfl rfl (fun _ hb => hb) bb
    have bb : HS _ _ _ [_, _, [(E, .cells [(iI hg.n)] none false)], _, _, _] _ := bb
    refine wRo 2 4 [] 47 48 [] [(48, (.pointer (some ⟨A, 1, none⟩)))] trivial rfl fun _ => ?_
    refine aN (aC (q := 4) bb rfl rfl rfl rfl rfl rfl rfl rfl rfl) rfl ?_
    rintro _ lI _ ⟨em, _⟩
    have em : HS _ _ _ [_, _, _, _, [(A, .cells [(iI z), (iI i2), (iI 0), (iI 0), (iI 0), (.slice none 0 0)] none false)], _] _ := em
    refine ao 0 rfl ?_
    exact hQ _ _ ⟨i2, (⟨hg.n⟩ : DigT), _, (kh), em, (agC rfl (agC rfl (agC rfl (agC rfl (agC rfl (agC rfl (agC rfl agN))))))), (by first | exact gv (by omega) (by omega) | exact e8 (by omega) rfl), (by first | assumption | omega | (simp at *; omega)), (by first | assumption | omega | (simp at *; omega))⟩
   ·
    try simp only [BS] at g1
    exact hQ _ _ ⟨0, (⟨dt.n⟩ : DigT), _, fR, av, (agC rfl (agC rfl (agC rfl (agC rfl (agC rfl (agC rfl (agC rfl agN))))))), (by first | exact gv (by omega) (by omega) | exact e8 (by omega) rfl), (by first | assumption | omega | (simp at *; omega)), (by first | assumption | omega | (simp at *; omega))⟩
  ·
   rintro l5 lG ⟨ja, dk, kD, hv, c4, hC, hja, rja, lh⟩
   refine aO _ hC (fun _ => ?_)
   clear hC
   replace hT := hT.mono hv
   refine aw 3 rfl ?_
   refine wR 1 [] 49 58 [] [(58, (.bool ((((bH z).form == 3) || ((bH z).form == 4)) || ((bH z).form == 7))))] trivial rfl fun _ => ?_
   refine dH (fun f H' => ∃ (jb : Int) (dn : DigT) (F' : Fz), Fz.le kD F' ∧ HS (Base.of H []) F' H' [ci, cl, [(E, .cells [(iI dn.n)] none false)], p8, [(A, .cells [(iI z), (iI ja), (iI jb), (iI 0), (iI 0), (.slice none 0 0)] none false)], co] R ∧ bc f [(0, (iI n)), (3, (.pointer (some ⟨b1, 0, none⟩))), (4, (.pointer (some ⟨b3, 0, none⟩))), (5, (.pointer (some ⟨E, 0, none⟩))), (7, (iI z)), (9, (.pointer (some ⟨A, 0, none⟩))), (12, (iI (bH z).form))] ∧ (iC (decide (aB z = 3 ∨ aB z = 4 ∨ aB z = 7)) jb c.regs = true) ∧ (in64 jb) ∧ (in64 dn.n)) (fun hS => ?_) ?_
   ·
    refine au 0 0 (v := ((((bH z).form == 3) || ((bH z).form == 4)) || ((bH z).form == 7))) rfl rfl rfl rfl (fun g2 => ?_) (fun g2 => ?_)
    ·
     try simp only [BS] at g2
     refine ah ?_
     refine wRo 3 0 [(2, .o (iI c.regs))] 59 61 [] [(59, (.pointer (some ⟨E, 0, none⟩))), (61, (iI c.regs))] (vA (ql 3 1 (HS.hc c4 (i := 0) rfl) rfl rfl) trivial) rfl fun _ => ?_
     refine aJ (ay rfl rfl rfl) rfl rfl (cT ex (⟨dk.n⟩ : DigT) c.regs (HS.callOwn c4 (i := 2) rfl) (by first | omega | (dsimp only; omega)) (by first | omega | (dsimp only; omega)) hT (by first | omega | (dsimp only; omega))) ?_
     rintro _ lK ⟨i3, hh, lq, ki, bl, rfl, kQ, me⟩
     replace bl := HS.backOwn c4 (i := 2) rfl rfl (fun _ hb => hb) bl
     have bl : HS _ _ _ [_, _, [(E, .cells [(iI hh.n)] none false)], _, [(A, .cells [(iI z), (iI ja), (iI 0), (iI 0), (iI 0), (.slice none 0 0)] none false)], _] _ := bl
     refine wRo 2 4 [] 63 64 [] [(64, (.pointer (some ⟨A, 2, none⟩)))] trivial rfl fun _ => ?_
     refine aN (aC (q := 4) bl rfl rfl rfl rfl rfl rfl rfl rfl rfl) rfl ?_
     rintro _ lL _ ⟨es, _⟩
     have es : HS _ _ _ [_, _, _, _, [(A, .cells [(iI z), (iI ja), (iI i3), (iI 0), (iI 0), (.slice none 0 0)] none false)], _] _ := es
     refine ao 0 rfl ?_
     exact hS _ _ ⟨i3, (⟨hh.n⟩ : DigT), _, (ki), es, (agC rfl (agC rfl (agC rfl (agC rfl (agC rfl (agC rfl (agC rfl agN))))))), (by first | exact gv (by omega) (by omega) | exact e8 (by omega) rfl), (by first | assumption | omega | (simp at *; omega)), (by first | assumption | omega | (simp at *; omega))⟩
    ·
     try simp only [BS] at g2
     exact hS _ _ ⟨0, (⟨dk.n⟩ : DigT), _, fR, c4, (agC rfl (agC rfl (agC rfl (agC rfl (agC rfl (agC rfl (agC rfl agN))))))), (by first | exact gv (by omega) (by omega) | exact e8 (by omega) rfl), (by first | assumption | omega | (simp at *; omega)), (by first | assumption | omega | (simp at *; omega))⟩
   ·
    rintro l6 lJ ⟨jb, dn, kE, hw, c5, hD, hjb, rjb, li⟩
    refine aO _ hD (fun _ => ?_)
    clear hD
    replace hT := hT.mono hw
    refine aw 3 rfl ?_
    refine wR 1 [] 65 66 [] [(66, (.bool ((bH z).form == 4)))] trivial rfl fun _ => ?_
    refine dH (fun f H' => ∃ (jc : Int) (a2 : DigT) (F' : Fz), Fz.le kE F' ∧ HS (Base.of H []) F' H' [ci, cl, [(E, .cells [(iI a2.n)] none false)], p8, [(A, .cells [(iI z), (iI ja), (iI jb), (iI jc), (iI 0), (.slice none 0 0)] none false)], co] R ∧ bc f [(0, (iI n)), (3, (.pointer (some ⟨b1, 0, none⟩))), (4, (.pointer (some ⟨b3, 0, none⟩))), (5, (.pointer (some ⟨E, 0, none⟩))), (7, (iI z)), (9, (.pointer (some ⟨A, 0, none⟩)))] ∧ (iC (decide (aB z = 4)) jc c.regs = true) ∧ (in64 jc) ∧ (in64 a2.n)) (fun hV => ?_) ?_
    ·
     refine au 0 0 (v := ((bH z).form == 4)) rfl rfl rfl rfl (fun g3 => ?_) (fun g3 => ?_)
     ·
      try simp only [BS] at g3
      refine ah ?_
      refine wRo 3 0 [(2, .o (iI c.regs))] 67 69 [] [(67, (.pointer (some ⟨E, 0, none⟩))), (69, (iI c.regs))] (vA (ql 3 1 (HS.hc c5 (i := 0) rfl) rfl rfl) trivial) rfl fun _ => ?_
      refine aJ (ay rfl rfl rfl) rfl rfl (cT ex (⟨dn.n⟩ : DigT) c.regs (HS.callOwn c5 (i := 2) rfl) (by first | omega | (dsimp only; omega)) (by first | omega | (dsimp only; omega)) hT (by first | omega | (dsimp only; omega))) ?_
      rintro _ lN ⟨jw, hj, lr, kj, b0, rfl, kR, mf⟩
      replace b0 := HS.backOwn c5 (i := 2) rfl rfl (fun _ hb => hb) b0
      have b0 : HS _ _ _ [_, _, [(E, .cells [(iI hj.n)] none false)], _, [(A, .cells [(iI z), (iI ja), (iI jb), (iI 0), (iI 0), (.slice none 0 0)] none false)], _] _ := b0
      refine wRo 2 4 [] 71 72 [] [(72, (.pointer (some ⟨A, 3, none⟩)))] trivial rfl fun _ => ?_
      refine aN (aC (q := 4) b0 rfl rfl rfl rfl rfl rfl rfl rfl rfl) rfl ?_
      rintro _ lO _ ⟨et, _⟩
      have et : HS _ _ _ [_, _, _, _, [(A, .cells [(iI z), (iI ja), (iI jb), (iI jw), (iI 0), (.slice none 0 0)] none false)], _] _ := et
      refine ao 0 rfl ?_
      exact hV _ _ ⟨jw, (⟨hj.n⟩ : DigT), _, (kj), et, (agC rfl (agC rfl (agC rfl (agC rfl (agC rfl (agC rfl agN)))))), (by first | exact gv (by omega) (by omega) | exact e8 (by omega) rfl), (by first | assumption | omega | (simp at *; omega)), (by first | assumption | omega | (simp at *; omega))⟩
     ·
      try simp only [BS] at g3
      exact hV _ _ ⟨0, (⟨dn.n⟩ : DigT), _, fR, c5, (agC rfl (agC rfl (agC rfl (agC rfl (agC rfl (agC rfl agN)))))), (by first | exact gv (by omega) (by omega) | exact e8 (by omega) rfl), (by first | assumption | omega | (simp at *; omega)), (by first | assumption | omega | (simp at *; omega))⟩
    ·
     rintro l7 lM ⟨jc, a2, h8, hx, V, hE, hjc, rjc, lj⟩
     refine aO _ hE (fun _ => ?_)
     clear hE
     replace hT := hT.mono hx
     refine aw 3 rfl ?_
     refine wR 3 [] 73 73 [] [(73, (iI z))] trivial rfl fun _ => ?_
     refine wR 1 [] 74 75 [] [(74, (.bool (z == 13)))] trivial rfl fun _ => ?_
     refine dH (fun f H' => ∃ (jq : Int) (asl : List Int) (fd : DigT) (I : Option Addr) (O : Nat) (F' : Fz), Fz.le h8 F' ∧ HS (Base.of H []) F' H' [ci, cl, [(E, .cells [(iI fd.n)] none false)], p8, [(A, .cells [(iI z), (iI ja), (iI jb), (iI jc), (iI jq), (.slice I asl.length O)] none false)], co] R ∧ SR F' (.slice I asl.length O) asl ∧ bc f [(4, (.pointer (some ⟨b3, 0, none⟩))), (9, (.pointer (some ⟨A, 0, none⟩)))] ∧ (iW c.params z jq = true) ∧ (in64 jq) ∧ ((z = 6 ∨ asl.length = 0) ∧ asl.length ≤ 6) ∧ (asl.all (aE c.regs) = true) ∧ ((z = 6 → (jq = 0 ∧ asl.length = 2 ∨ jq = 1 ∧ asl.length = 1)) ∧ (z = 34 ∨ z = 35 → jq < 2)) ∧ (in64 fd.n)) (fun a6 => ?_) ?_
     ·
      refine au 0 1 (v := (z == 13)) rfl rfl rfl rfl (fun g4 => ?_) (fun g4 => ?_)
      ·
       try simp only [BS] at g4
       refine ah ?_
       refine wm (.pointer (some ⟨E, 0, none⟩)) rfl rfl rfl ?_
       refine aJ (ay rfl rfl rfl) rfl rfl (cT ex (⟨a2.n⟩ : DigT) (400) (HS.callOwn V (i := 2) rfl) (by first | omega | (dsimp only; omega)) (by first | omega | (dsimp only; omega)) hT (by first | omega | (dsimp only; omega))) ?_
       rintro _ lQ ⟨kZ, hk, lw, hy, a4, rfl, kS, mg⟩
       replace a4 := HS.backOwn V (i := 2) rfl rfl (fun _ hb => hb) a4
       have a4 : HS _ _ _ [_, _, [(E, .cells [(iI hk.n)] none false)], _, [(A, .cells [(iI z), (iI ja), (iI jb), (iI jc), (iI 0), (.slice none 0 0)] none false)], _] _ := a4
       replace hT := hT.mono hy
       refine wm (iI n) rfl rfl rfl ?_
       refine aJ (ay rfl rfl rfl) rfl rfl (word_c ex kZ n (HS.call a4) (by first | omega | (dsimp only; omega)) (by first | omega | (dsimp only; omega)) hT) ?_
       rintro _ lR ⟨kd, kF, km, b2, rfl, mh⟩
       replace b2 := HS.back a4 rfl b2
       have b2 : HS _ _ _ [_, _, _, _, _, _] _ := b2
       refine wRo 2 4 [] 80 81 [] [(81, (.pointer (some ⟨A, 4, none⟩)))] trivial rfl fun _ => ?_
       refine aN (aC (q := 4) b2 rfl rfl rfl rfl rfl rfl rfl rfl rfl) rfl ?_
       rintro _ lS _ ⟨ez, _⟩
       have ez : HS _ _ _ [_, _, _, _, [(A, .cells [(iI z), (iI ja), (iI jb), (iI jc), (iI kd), (.slice none 0 0)] none false)], _] _ := ez
       refine ao 0 rfl ?_
       exact a6 _ _ ⟨kd, ([] : List Int), (⟨hk.n⟩ : DigT), none, 0, _, (fT (hy) km), ez, (SR.nil : SR kF (.slice none 0 0) ([] : List Int)), (agC rfl (agC rfl agN)), (by exact immT (by omega)), (by first | assumption | omega | (simp at *; omega)), (by first | omega | (simp <;> omega)), (by first | assumption | rfl), (by first | omega | (simp <;> omega)), (by first | assumption | omega | (simp at *; omega))⟩
      ·
       try simp only [BS] at g4
       refine wR 1 [] 82 83 [] [(82, (.bool (z == 33)))] trivial rfl fun _ => ?_
       refine au 0 2 (v := (z == 33)) rfl rfl rfl rfl (fun g5 => ?_) (fun g5 => ?_)
       ·
        try simp only [BS] at g5
        refine ah ?_
        refine wm (.pointer (some ⟨E, 0, none⟩)) rfl rfl rfl ?_
        refine aJ (ay rfl rfl rfl) rfl rfl (cT ex (⟨a2.n⟩ : DigT) (9) (HS.callOwn V (i := 2) rfl) (by first | omega | (dsimp only; omega)) (by first | omega | (dsimp only; omega)) hT (by first | omega | (dsimp only; omega))) ?_
        rintro _ lT ⟨fi, hl, kG, kn, b4, rfl, kT, mi⟩
        replace b4 := HS.backOwn V (i := 2) rfl rfl (fun _ hb => hb) b4
        have b4 : HS _ _ _ [_, _, [(E, .cells [(iI hl.n)] none false)], _, [(A, .cells [(iI z), (iI ja), (iI jb), (iI jc), (iI 0), (.slice none 0 0)] none false)], _] _ := b4
        refine wRo 3 2 [] 86 88 [] [(86, (iI (fi - 4))), (88, (.pointer (some ⟨A, 4, none⟩)))] (vA (vi (n := fi - 4) (by first | omega | (dsimp only; omega))) trivial) rfl fun _ => ?_
        refine aN (aC (q := 4) b4 rfl rfl rfl rfl rfl rfl rfl rfl rfl) rfl ?_
        rintro _ lU _ ⟨e0, _⟩
        have e0 : HS _ _ _ [_, _, _, _, [(A, .cells [(iI z), (iI ja), (iI jb), (iI jc), (iI (fi - 4)), (.slice none 0 0)] none false)], _] _ := e0
        refine ao 0 rfl ?_
        exact a6 _ _ ⟨fi - 4, ([] : List Int), (⟨hl.n⟩ : DigT), none, 0, _, (kn), e0, (SR.nil : SR kG (.slice none 0 0) ([] : List Int)), (agC rfl (agC rfl agN)), (by exact immT (by omega)), (by first | assumption | omega | (simp at *; omega)), (by first | omega | (simp <;> omega)), (by first | assumption | rfl), (by first | omega | (simp <;> omega)), (by first | assumption | omega | (simp at *; omega))⟩
       ·
        try simp only [BS] at g5
        refine wR 1 [] 89 90 [] [(89, (.bool (z == 34)))] trivial rfl fun _ => ?_
        refine au 1 0 (v := (z == 34)) rfl rfl rfl rfl (fun c0 => ?_) (fun c0 => ?_)
        ·
         have g6 := c0
         try simp only [BS] at g6
         refine bx 0 (v := (z == 34)) rfl c0 rfl rfl ?_
         refine ah ?_
         refine wm (.pointer (some ⟨E, 0, none⟩)) rfl rfl rfl ?_
         refine aJ (ay rfl rfl rfl) rfl rfl (cT ex (⟨a2.n⟩ : DigT) (2) (HS.callOwn V (i := 2) rfl) (by first | omega | (dsimp only; omega)) (by first | omega | (dsimp only; omega)) hT (by first | omega | (dsimp only; omega))) ?_
         rintro _ lV ⟨kf, hm, kH, ko, b5, rfl, kU, mj⟩
         replace b5 := HS.backOwn V (i := 2) rfl rfl (fun _ hb => hb) b5
         have b5 : HS _ _ _ [_, _, [(E, .cells [(iI hm.n)] none false)], _, [(A, .cells [(iI z), (iI ja), (iI jb), (iI jc), (iI 0), (.slice none 0 0)] none false)], _] _ := b5
         refine wRo 2 2 [] 94 95 [] [(95, (.pointer (some ⟨A, 4, none⟩)))] trivial rfl fun _ => ?_
         refine aN (aC (q := 4) b5 rfl rfl rfl rfl rfl rfl rfl rfl rfl) rfl ?_
         rintro _ lW _ ⟨e1, _⟩
         have e1 : HS _ _ _ [_, _, _, _, [(A, .cells [(iI z), (iI ja), (iI jb), (iI jc), (iI kf), (.slice none 0 0)] none false)], _] _ := e1
         refine ao 0 rfl ?_
         exact a6 _ _ ⟨kf, ([] : List Int), (⟨hm.n⟩ : DigT), none, 0, _, (ko), e1, (SR.nil : SR kH (.slice none 0 0) ([] : List Int)), (agC rfl (agC rfl agN)), (by exact immT (by omega)), (by first | assumption | omega | (simp at *; omega)), (by first | omega | (simp <;> omega)), (by first | assumption | rfl), (by first | omega | (simp <;> omega)), (by first | assumption | omega | (simp at *; omega))⟩
        ·
         have g6 := c0
         try simp only [BS] at g6
         refine wR 1 [] 89 91 [] [(89, (.bool (z == 35)))] trivial rfl fun _ => ?_
         refine au 0 1 (v := (z == 35)) rfl rfl rfl rfl (fun g7 => ?_) (fun g7 => ?_)
         ·
          try simp only [BS] at g7
          refine ah ?_
          refine wm (.pointer (some ⟨E, 0, none⟩)) rfl rfl rfl ?_
          refine aJ (ay rfl rfl rfl) rfl rfl (cT ex (⟨a2.n⟩ : DigT) (2) (HS.callOwn V (i := 2) rfl) (by first | omega | (dsimp only; omega)) (by first | omega | (dsimp only; omega)) hT (by first | omega | (dsimp only; omega))) ?_
          rintro _ lX ⟨kg, hp, kI, kp, b7, rfl, kV, ml⟩
          replace b7 := HS.backOwn V (i := 2) rfl rfl (fun _ hb => hb) b7
          have b7 : HS _ _ _ [_, _, [(E, .cells [(iI hp.n)] none false)], _, [(A, .cells [(iI z), (iI ja), (iI jb), (iI jc), (iI 0), (.slice none 0 0)] none false)], _] _ := b7
          refine wRo 2 2 [] 94 95 [] [(95, (.pointer (some ⟨A, 4, none⟩)))] trivial rfl fun _ => ?_
          refine aN (aC (q := 4) b7 rfl rfl rfl rfl rfl rfl rfl rfl rfl) rfl ?_
          rintro _ lY _ ⟨e2, _⟩
          have e2 : HS _ _ _ [_, _, _, _, [(A, .cells [(iI z), (iI ja), (iI jb), (iI jc), (iI kg), (.slice none 0 0)] none false)], _] _ := e2
          refine ao 0 rfl ?_
          exact a6 _ _ ⟨kg, ([] : List Int), (⟨hp.n⟩ : DigT), none, 0, _, (kp), e2, (SR.nil : SR kI (.slice none 0 0) ([] : List Int)), (agC rfl (agC rfl agN)), (by exact immT (by omega)), (by first | assumption | omega | (simp at *; omega)), (by first | omega | (simp <;> omega)), (by first | assumption | rfl), (by first | omega | (simp <;> omega)), (by first | assumption | omega | (simp at *; omega))⟩
         ·
          try simp only [BS] at g7
          refine wR 1 [] 96 97 [] [(96, (.bool (z == 6)))] trivial rfl fun _ => ?_
          refine au 1 0 (v := (z == 6)) rfl rfl rfl rfl (fun g9 => ?_) (fun g9 => ?_)
          ·
           try simp only [BS] at g9
           refine ah ?_
           refine wm (.pointer (some ⟨E, 0, none⟩)) rfl rfl rfl ?_
           refine aJ (ay rfl rfl rfl) rfl rfl (cT ex (⟨a2.n⟩ : DigT) (2) (HS.callOwn V (i := 2) rfl) (by first | omega | (dsimp only; omega)) (by first | omega | (dsimp only; omega)) hT (by first | omega | (dsimp only; omega))) ?_
           rintro _ lZ ⟨aq, hq, ih, hz, cd, rfl, kW, mn⟩
           replace cd := HS.backOwn V (i := 2) rfl rfl (fun _ hb => hb) cd
           have cd : HS _ _ _ [_, _, [(E, .cells [(iI hq.n)] none false)], _, [(A, .cells [(iI z), (iI ja), (iI jb), (iI jc), (iI 0), (.slice none 0 0)] none false)], _] _ := cd
           refine wRo 2 2 [] 100 101 [] [(101, (.pointer (some ⟨A, 4, none⟩)))] trivial rfl fun _ => ?_
           refine aN (aC (q := 4) cd rfl rfl rfl rfl rfl rfl rfl rfl rfl) rfl ?_
           rintro _ l0 _ ⟨c6, _⟩
           have c6 : HS _ _ _ [_, _, _, _, [(A, .cells [(iI z), (iI ja), (iI jb), (iI jc), (iI aq), (.slice none 0 0)] none false)], _] _ := c6
           refine ao 2 rfl ?_
           refine wR 2 [(2, .o (iI aq))] 102 105 [13] [(13, (iI (2 - aq)))] (vA (ql 2 4 (HS.hc c6 (i := 4) rfl) rfl rfl) (vA (vi (n := 2 - aq) (by first | omega | (dsimp only; omega))) trivial)) rfl fun _ => ?_
           have e3 := HS.snoc c6
           have e3 : HS _ _ _ [_, _, _, _, _, _, []] _ := e3
           refine aL (fun (mm : Nat) f H' => ∃ (kk : Int) (al : List Int) (dl : DigT) (U : Fp) (J : Option Addr) (T : Nat) (F' : Fz), Fz.le ih F' ∧ HS (Base.of H []) F' H' [ci, cl, [(E, .cells [(iI dl.n)] none false)], p8, [(A, .cells [(iI z), (iI ja), (iI jb), (iI jc), (iI aq), (.slice J al.length T)] none false)], co, U] R ∧ OS F' (.slice J al.length T) al U ∧ bc f [(3, (.pointer (some ⟨b1, 0, none⟩))), (4, (.pointer (some ⟨b3, 0, none⟩))), (5, (.pointer (some ⟨E, 0, none⟩))), (9, (.pointer (some ⟨A, 0, none⟩))), (13, (iI kk))] ∧ mm = kk.toNat ∧ ((al.length : Int) + kk = 2 - aq ∧ 0 ≤ kk) ∧ (al.all (aE c.regs) = true) ∧ (in64 dl.n) ∧ (kk ≤ 2)) _ ⟨2 - aq, ([] : List Int), (⟨hq.n⟩ : DigT), [], none, 0, _, fR, e3, (OS.nil : OS ih (.slice none 0 0) ([] : List Int) []), (agC rfl (agC rfl (agC rfl (agC rfl (agC rfl agN))))), rfl, (by simp; omega), (by rfl), (by first | assumption | omega | (simp at *; omega)), (by first | assumption | omega | (simp at *; omega))⟩ ?_
           rintro ld l9 l1 ⟨kk, al, dl, U, J, T, lx, d2, a0, Z, hG, rfl, q1, q2, q3, q4⟩ kv
           refine aO _ hG (fun _ => ?_)
           clear hG
           replace hT := (hT.mono hz).mono d2
           refine aw 2 rfl ?_
           refine wR 1 [] 106 107 [] [(107, (.bool (decide ((0 : Int) < kk))))] trivial rfl fun _ => ?_
           refine au 3 3 (v := (decide ((0 : Int) < kk))) rfl rfl rfl rfl (fun ha => ?_) (fun ha => ?_)
           ·
            try simp only [BS] at ha
            refine aP rfl ?_
            refine ai (v := (.pointer (some ⟨A, 5, none⟩))) (id := .v) (aZ rfl rfl) rfl rfl (aG rfl) (aF _) ?_
            refine ai (v := (.slice J al.length T)) (id := .l A) (aT (i := 5) rfl rfl (HS.hc a0.log0 (i := 4) rfl) rfl rfl) rfl rfl (bj rfl) (⟨.inl rfl, trivial⟩) ?_
            refine fm (.pointer (some ⟨E, 0, none⟩)) rfl rfl rfl ?_
            refine ai (v := (.pointer (some ⟨b1, 1, none⟩))) (id := .v) (aZ rfl rfl) rfl rfl (aG rfl) (aF _) ?_
            refine ai (v := (iI c.regs)) (id := .l b1) (aT (i := 1) rfl rfl (HS.hc a0.log0 (i := 0) rfl) rfl rfl) rfl rfl (bj rfl) (⟨.inl rfl, ⟨.inr trivial, ⟨.inr trivial, ⟨.inr trivial, trivial⟩⟩⟩⟩) ?_
            refine aY (W := [E]) (ay rfl rfl rfl) rfl rfl rfl (cT ex (⟨dl.n⟩ : DigT) c.regs (HS.callOwn a0.log0 (i := 2) rfl) (by first | omega | (dsimp only; omega)) (by first | omega | (dsimp only; omega)) hT (by first | omega | (dsimp only; omega))) (⟨.inl rfl, ⟨.inl rfl, ⟨.inl rfl, ⟨.inr (HS.nin a0 (i := 4) (j := 2) rfl rfl (by decide) (by simp)), ⟨.inr trivial, trivial⟩⟩⟩⟩⟩) ?_
            rintro _ kJ ⟨ch, ht, ly, hA, ad, rfl, kX, mo⟩
            refine ⟨HS.didW ad, fun kw h4 => ?_⟩
            replace ad := HS.backOwn a0.log0 (i := 2) rfl rfl (fun _ hb => hb) ad
            replace ad := HS.lg ad a0 h4
            generalize ({ kJ with log := kw } : Heap) = k0 at ad ⊢
            have ad : HS _ _ _ [_, _, [(E, .cells [(iI ht.n)] none false)], _, [(A, .cells [(iI z), (iI ja), (iI jb), (iI jc), (iI aq), (.slice J al.length T)] none false)], _, U] _ := ad
            replace Z := Z.mono hA
            refine dV (id := .a) (cS (α := Int) (ps := [(0, (iI ch))]) (cells := [(iI ch)]) ([ch] : List Int) ad.log0 rfl rfl rfl (by kernel_rfl) ⟨[(iI ch)], [], rfl, ⟨rfl, by first | omega | (dsimp only; omega)⟩, rfl⟩ rfl) rfl rfl (fun _ _ _ _ => iK rfl rfl rfl) (⟨.inl rfl, ⟨.inl rfl, ⟨.inl rfl, ⟨.inl rfl, ⟨.inr trivial, ⟨.inr trivial, trivial⟩⟩⟩⟩⟩⟩) ?_
            rintro _ kK kY ⟨l3, mq, rfl, kt, ag, _⟩ kx h5
            replace ag := HS.lg ag ad h5
            generalize ({ kK with log := kx } : Heap) = k3 at ag ⊢
            have ag : HS _ _ _ [_, _, _, _, _, _, _, kY] _ := ag
            refine dV (id := .x (U.map Prod.fst)) (d3 (α := Int) (q := 6) Z ag.log0 rfl rfl rfl (OS.sv kt ag.log0 (i := 7) rfl) rfl rfl rfl rfl rfl rfl rfl (by first | omega | (simp only [List.length_cons, List.length_nil]; omega))) rfl rfl (by rintro _ _ h1 ⟨f2, hW, rfl, hH, _, hwr⟩; exact d6 rfl rfl (Wr.did hwr)) (⟨.inl rfl, ⟨.inl rfl, ⟨.inl rfl, ⟨.inl rfl, ⟨.inl rfl, ⟨.inl rfl, ⟨.inl rfl, trivial⟩⟩⟩⟩⟩⟩⟩) ?_
            rintro _ kL h1 ⟨f2, hW, rfl, hH, a1, _⟩ ky h6
            replace a1 := HS.lg a1 ag h6
            generalize ({ kL with log := ky } : Heap) = k4 at a1 ⊢
            have a1 : HS _ _ _ [_, _, _, _, _, _, h1, _] _ := a1
            refine ai (v := (.pointer (some ⟨A, 5, none⟩))) (id := .v) (aZ rfl rfl) rfl rfl (aG rfl) (aF _) ?_
            refine iT (id := .x [A]) (aC (q := 4) a1.log0 rfl rfl rfl rfl rfl rfl rfl rfl rfl) rfl (by rintro _ _ _ ⟨_, hwr⟩; exact d6 rfl rfl (Wr.did hwr)) (⟨.inl rfl, ⟨.inl rfl, ⟨.inl rfl, ⟨.inl rfl, ⟨.inl rfl, ⟨.inl rfl, ⟨.inl rfl, ⟨.inl rfl, ⟨.inl rfl, trivial⟩⟩⟩⟩⟩⟩⟩⟩⟩) ?_
            rintro _ kM _ ⟨a5, _⟩ kz h7
            replace a5 := HS.lg a5 a1 h7
            generalize ({ kM with log := kz } : Heap) = k5 at a5 ⊢
            have a5 : HS _ _ _ [_, _, _, _, [(A, .cells [(iI z), (iI ja), (iI jb), (iI jc), (iI aq), (.slice f2 (al ++ ([ch] : List Int)).length hW)] none false)], _, _, _] _ := a5
            refine bX ?_
            refine aw 2 rfl ?_
            refine wR 1 [] 108 109 [13] [(13, (iI (kk - 1)))] (vA (vi (n := kk - 1) (by first | omega | (dsimp only; omega))) trivial) rfl fun _ => ?_
            refine kv _ _ _ ?_ ⟨kk - 1, al ++ ([ch] : List Int), (⟨ht.n⟩ : DigT), h1, f2, hW, _, (fT (d2) hA), (HS.sub a5 (List.sublist_append_left _ _)), hH, (agC rfl (agC rfl (agC rfl (agC rfl (agC rfl agN))))), rfl, (by simp; omega), (by exact all_app q2 (bg.2 (by omega))), (by first | assumption | omega | (simp at *; omega)), (by first | assumption | omega | (simp at *; omega))⟩
            omega
           ·
            try simp only [BS] at ha
            obtain ⟨lz, kr, e4, ku, lb⟩ := OS.frz Z a0 (i := 6) rfl
            have e4 : HS _ _ _ [_, _, [(E, .cells [(iI dl.n)] none false)], _, [(A, .cells [(iI z), (iI ja), (iI jb), (iI jc), (iI aq), (.slice J al.length T)] none false)], _, _] _ := e4
            exact a6 _ _ ⟨aq, al, (⟨dl.n⟩ : DigT), J, T, _, (fT (fT (hz) d2) kr), (HS.sub e4 (List.sublist_append_left _ _)), ku, (agC rfl (agC rfl agN)), (by exact immT (by omega)), (by first | assumption | omega | (simp at *; omega)), (by first | omega | (simp <;> omega)), (by first | assumption | rfl), (by first | omega | (simp <;> omega)), (by first | assumption | omega | (simp at *; omega))⟩
          ·
           try simp only [BS] at g9
           exact a6 _ _ ⟨0, ([] : List Int), (⟨a2.n⟩ : DigT), none, 0, _, fR, V, (SR.nil : SR h8 (.slice none 0 0) ([] : List Int)), (agC rfl (agC rfl agN)), (by exact immT (by omega)), (by first | assumption | omega | (simp at *; omega)), (by first | omega | (simp <;> omega)), (by first | assumption | rfl), (by first | omega | (simp <;> omega)), (by first | assumption | omega | (simp at *; omega))⟩
     ·
      rintro l8 lP ⟨jq, asl, fd, I, O, lv, kl, hK, ds, hF, hjq, rjq, i1, dd, hck, ll⟩
      refine aO _ hF (fun _ => ?_)
      clear hF
      refine aw 3 rfl ?_
      refine ah ?_
      let h3 : Value := (.agg ⟨[(iI z), (iI ja), (iI jb), (iI jc), (iI jq), (.slice I asl.length O)]⟩)
      refine wRo 1 0 [(0, .o h3)] 119 119 [] [(119, h3)] (vA (qn 47 0 6 (HS.hc hK (i := 4) rfl) rfl rfl rfl rfl) trivial) rfl fun _ => ?_
      refine aN (aC (q := 1) hK rfl rfl rfl rfl rfl rfl rfl rfl rfl) rfl ?_
      rintro _ l2 _ ⟨c7, _⟩
      have c7 : HS _ _ _ [_, [(b3, .cells [(iI z), (iI ja), (iI jb), (iI jc), (iI jq), (.slice I asl.length O)] none false)], [(E, .cells [(iI fd.n)] none false)], _, [(A, .cells [(iI z), (iI ja), (iI jb), (iI jc), (iI jq), (.slice I asl.length O)] none false)], _] _ := c7
      refine ao 1 rfl ?_
      refine am ⟨.inr rfl, _, (rC rfl (ldVN rfl rfl (HS.hc c7 (i := 1) rfl) rfl) rN), (⟨(⟨z, ja, jb, jc, jq⟩ : InsT), asl⟩ : VInT), I, O, _, (fT (fT (fT (fT (fT (fT (dv) d1) hu) hv) hw) hx) kl), (HS.forget c7), rfl, (by first | omega | (dsimp only; omega)), (by first | omega | (dsimp only; omega)), (by first | omega | (dsimp only; omega)), (by first | omega | (dsimp only; omega)), (by first | omega | (dsimp only; omega)), ds, (by exact vin_mk ho.2 i1.1 i1.2 dd hja hjb hjc hjq), (by exact decide_eq_true hck)⟩
end Go.Proofs.YtlabedbmgmfbaaaDoor.m4
