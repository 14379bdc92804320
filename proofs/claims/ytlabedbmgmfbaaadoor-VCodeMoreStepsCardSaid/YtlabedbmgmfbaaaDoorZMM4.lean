/-
 The generator of virtual code, function by function, each by a symbolic run: what it makes is valid. No condition but that the table lies as laid.
-/
import Derived.Test.YtlabedbmgmfbaaaDoorZMM3
noncomputable section
namespace Go.Proofs.YtlabedbmgmfbaaaDoor.m4
open Go.R
set_option maxRecDepth 10000
set_option linter.unusedVariables false
open m1 m2 m3
theorem wr64 (n : Int) : in64 (IntKind.i64.wrap n) := cx n
theorem td64 (n : Int) {m : Int} (h : 0 < m) : in64 (Int.tdiv (IntKind.i64.wrap n) m) := vq (wr64 n) (by omega)
theorem gt {p : Prop} [Decidable p] {n r : Int} (h : p) (hn : 0 ≤ n ∧ n < r) : iR (decide p) n r = true := by rw [decide_eq_true h]; exact bz.2 hn
theorem eX {p : Prop} [Decidable p] {n r : Int} (h : ¬ p) (hn : n = 0) : iR (decide p) n r = true := by rw [decide_eq_false h, hn]; rfl
def opG (op : Int) : Prop := (op = 3 ∨ op = 6 ∨ (9 ≤ op ∧ op ≤ 13) ∨ (15 ≤ op ∧ op ≤ 35)) ∧ alV op = true
theorem ops_al {op : Int} (h : 15 ≤ op ∧ op ≤ 32) : opG op := ⟨by omega, decide_eq_true (by omega)⟩
theorem lit12 {k : Nat} (h : k < 12) : opG (([3, 6, 9, 10, 11, 12, 13, 33, 34, 35, 10, 9] : List Int).getD k 0) := by
 have : ∀ k : Fin 12, ((([3, 6, 9, 10, 11, 12, 13, 33, 34, 35, 10, 9] : List Int).getD k.val 0) = 3 ∨ (([3, 6, 9, 10, 11, 12, 13, 33, 34, 35, 10, 9] : List Int).getD k.val 0) = 6 ∨ (9 ≤ (([3, 6, 9, 10, 11, 12, 13, 33, 34, 35, 10, 9] : List Int).getD k.val 0) ∧ (([3, 6, 9, 10, 11, 12, 13, 33, 34, 35, 10, 9] : List Int).getD k.val 0) ≤ 13) ∨ (15 ≤ (([3, 6, 9, 10, 11, 12, 13, 33, 34, 35, 10, 9] : List Int).getD k.val 0) ∧ (([3, 6, 9, 10, 11, 12, 13, 33, 34, 35, 10, 9] : List Int).getD k.val 0) ≤ 35)) ∧ alV (([3, 6, 9, 10, 11, 12, 13, 33, 34, 35, 10, 9] : List Int).getD k.val 0) = true := by decide
 exact this ⟨k, h⟩
theorem immT {p op n : Int} (h : op = 13 ∨ op = 33 ∧ -4194304 ≤ n ∧ n < 4194304 ∨ op = 6 ∧ 0 ≤ n ∧ n < 8 ∨ (op = 34 ∨ op = 35) ∧ 0 ≤ n ∧ n < 4 ∨ (op ≠ 13 ∧ op ≠ 33 ∧ op ≠ 6 ∧ op ≠ 34 ∧ op ≠ 35 ∧ op ≠ 38) ∧ n = 0) : iS p op n = true := by
 unfold iS
 (repeat' split) <;> first | rfl | (apply decide_eq_true; omega) | (exfalso; omega)
theorem all_app {p : Int → Bool} {l : List Int} {x : Int} (h : l.all p = true) (hx : p x = true) : (l ++ [x]).all p = true := by rw [List.all_append, h]; simp [hx]
theorem vin_mk {params regs op a b c n : Int} {l : List Int} (z : alV op = true) (A : op = 6 ∨ l.length = 0) (E : l.length ≤ 6) (I : l.all (aE regs) = true) (J : iR (decide (aB op ≠ 1)) a regs = true) (O : iR (decide (aB op = 3 ∨ aB op = 4 ∨ aB op = 7)) b regs = true) (T : iR (decide (aB op = 4)) c regs = true) (U : iS params op n = true) : f0 params regs ⟨⟨op, a, b, c, n⟩, l⟩ = true := by
 unfold f0
 simp only [z, decide_eq_true A, decide_eq_true E, I, J, O, T, U, Bool.and_self]
def ckI (v : VInT) : Bool := decide ((v.i.op = 6 → (v.i.n = 0 ∧ v.args.length = 2 ∨ v.i.n = 1 ∧ v.args.length = 1)) ∧ (v.i.op = 34 ∨ v.i.op = 35 → v.i.n < 2))
theorem cS (ex : FuncId) {b_d : Nat} (d : DigT) (m : Int) {F : Fz} {H : Heap} {R : List Fp} (hs : HS (.of H [b_d]) F H [[(b_d, .cells [(iI d.n)] none false)]] R) (A : in64 d.n) (hm : in64 m) (hT : TB 37 tabC F) (hm : 0 < m) : C Tryd.prog 1 (KT 60 ex 37 tabC) 49 [(.pointer (some ⟨b_d, 0, none⟩)), (iI m)] H fun v H' => ∃ (r : Int) (d' : DigT) (F' : Fz), Fz.le F F' ∧ HS (.of H [b_d]) F' H' [[(b_d, .cells [(iI d'.n)] none false)]] R ∧ v = .int .i64 r ∧ in64 d'.n ∧ (0 ≤ r ∧ r < m) := by
 refine aL Tryd.func49 rfl rfl ?_
 refine ay 1 rfl ?_
 refine wR 2 [] 4 4 [] [(4, (iI 0))] trivial rfl fun _ => ?_
 have E := cM d.n m
 refine wR 2 [(3, .o (iI d.n)), (5, .o (iI (ab d.n m)))] 6 11 [5] [(5, (iI (ab d.n m)))] (vA (ql 3 0 (HS.hc hs (i := 0) rfl) rfl rfl) (vA (m1.d8 ex d.n m H (by first | omega | exact wr64 _ | exact td64 _ (by omega))) trivial)) rfl fun _ => ?_
 refine ah ?_
 refine wRo 11 0 [(4, .o (iI d.n)), (6, .w)] 12 22 [] [(20, (iI (Int.tdiv (IntKind.i64.wrap (d.n - (ab d.n m))) m))), (22, (.pointer (some ⟨b_d, 0, none⟩)))] (vA (ql 3 0 (HS.hc hs (i := 0) rfl) rfl rfl) (vA (vA (show m ≠ 0 from by first | omega | exact wr64 _ | exact td64 _ (by omega)) (vq (a := IntKind.i64.wrap (d.n - (ab d.n m))) (b := m) (by first | omega | exact wr64 _ | exact td64 _ (by omega)) (by first | omega | exact wr64 _ | exact td64 _ (by omega)))) trivial)) rfl fun _ => ?_
 refine aN (aC (q := 0) hs rfl rfl rfl rfl rfl rfl rfl rfl rfl) rfl ?_
 rintro _ I _ ⟨z, _⟩
 have z : HS _ _ _ [[(b_d, .cells [(iI (Int.tdiv (IntKind.i64.wrap (d.n - (ab d.n m))) m))] none false)]] _ := z
 refine au 2 rfl ?_
 refine wR 1 [] 4 4 [23] [(4, (iI (ab d.n m)))] trivial rfl fun _ => ?_
 refine am ⟨.inr rfl, _, rfl, ab d.n m, (⟨Int.tdiv (IntKind.i64.wrap (d.n - (ab d.n m))) m⟩ : DigT), _, fR, (HS.first z), rfl, (by first | omega | exact wr64 _ | exact td64 _ (by omega)), (by first | assumption | omega | simp_all)⟩
theorem word_c (ex : FuncId) (n : Int) (raw : Int) {F : Fz} {H : Heap} {R : List Fp} (hs : HS (.of H []) F H [] R) (hn : in64 n) (hraw : in64 raw) (hT : TB 37 tabC F) : C Tryd.prog 1 (KT 60 ex 37 tabC) 50 [(iI n), (iI raw)] H fun v H' => ∃ (r : Int) (F' : Fz), Fz.le F F' ∧ HS (.of H []) F' H' [] R ∧ v = .int .i64 r ∧ (in64 r) := by
 refine aL Tryd.func50 rfl rfl ?_
 refine ay 1 rfl ?_
 refine wR 2 [] 4 4 [] [(4, (iI 0))] trivial rfl fun _ => ?_
 refine ah ?_
 refine br (db (α := Int) (ps := [(0, (iI 0)), (1, (iI 1)), (2, (iI (-1))), (3, (iI 2)), (4, (iI (-9223372036854775808))), (5, (iI 9223372036854775807)), (6, (iI 4294967296)), (7, (iI (-2147483648))), (8, (iI 63)), (9, (iI 64))]) (cells := [(iI 0), (iI 1), (iI (-1)), (iI 2), (iI (-9223372036854775808)), (iI 9223372036854775807), (iI 4294967296), (iI (-2147483648)), (iI 63), (iI 64)]) ([0, 1, (-1), 2, (-9223372036854775808), 9223372036854775807, 4294967296, (-2147483648), 63, 64] : List Int) hs rfl rfl rfl (by kernel_rfl) ⟨[(iI 0)], _, rfl, ⟨rfl, by omega⟩, ⟨[(iI 1)], _, rfl, ⟨rfl, by omega⟩, ⟨[(iI (-1))], _, rfl, ⟨rfl, by omega⟩, ⟨[(iI 2)], _, rfl, ⟨rfl, by omega⟩, ⟨[(iI (-9223372036854775808))], _, rfl, ⟨rfl, by omega⟩, ⟨[(iI 9223372036854775807)], _, rfl, ⟨rfl, by omega⟩, ⟨[(iI 4294967296)], _, rfl, ⟨rfl, by omega⟩, ⟨[(iI (-2147483648))], _, rfl, ⟨rfl, by omega⟩, ⟨[(iI 63)], _, rfl, ⟨rfl, by omega⟩, ⟨[(iI 64)], _, rfl, ⟨rfl, by omega⟩, rfl⟩⟩⟩⟩⟩⟩⟩⟩⟩⟩ rfl) rfl rfl ?_
 rintro _ O V ⟨T, k2, rfl, E, z, _⟩
 have z : HS _ _ _ [V] _ := z
 refine wa (.slice T ([0, 1, (-1), 2, (-9223372036854775808), 9223372036854775807, 4294967296, (-2147483648), 63, 64] : List Int).length k2) rfl rfl rfl ?_
 refine au 2 rfl ?_
 have ag := cM n (24 : Int)
 refine wR 4 [(1, .o (iI (ab n (24 : Int))))] 8 9 [6] [(6, (iI (ab n (24 : Int))))] (vA (m1.d8 ex n (24) O (by omega)) trivial) rfl fun _ => ?_
 refine wR 1 [] 10 12 [] [(10, (.bool (decide (ab n (24 : Int) < 10))))] trivial rfl fun _ => ?_
 refine ao 1 1 (v := (decide (ab n (24 : Int) < 10))) rfl rfl rfl rfl (fun J => ?_) (fun J => ?_)
 ·
  try simp only [BS] at J
  obtain ⟨ad, I⟩ := Sv.view (OS.sv E z (i := 0) rfl)
  have g9 := fI (I (ab n (24 : Int)).toNat)
  refine wR 1 [(3, .o (iI (([0, 1, (-1), 2, (-9223372036854775808), 9223372036854775807, 4294967296, (-2147483648), 63, 64] : List Int).getD (ab n (24 : Int)).toNat 0)))] 13 16 [4] [(4, (iI (([0, 1, (-1), 2, (-9223372036854775808), 9223372036854775807, 4294967296, (-2147483648), 63, 64] : List Int).getD (ab n (24 : Int)).toNat 0)))] (vA (Sv.ix (j := ab n (24 : Int)) (OS.sv E z (i := 0) rfl) (by omega) (show ab n (24 : Int) < (10 : Int) from by omega)) (vA (ql 2 0 (vI (I (ab n (24 : Int)).toNat) (show (ab n (24 : Int)).toNat < 10 from by omega)) rfl rfl) trivial)) rfl fun _ => ?_
  refine am ⟨.inr rfl, _, rfl, (([0, 1, (-1), 2, (-9223372036854775808), 9223372036854775807, 4294967296, (-2147483648), 63, 64] : List Int).getD (ab n (24 : Int)).toNat 0), _, fR, (HS.forget z), rfl, (by omega)⟩
 ·
  try simp only [BS] at J
  refine wR 1 [] 17 19 [] [(17, (.bool (decide (ab n (24 : Int) < 22))))] trivial rfl fun _ => ?_
  refine ao 1 3 (v := (decide (ab n (24 : Int) < 22))) rfl rfl rfl rfl (fun A => ?_) (fun A => ?_)
  ·
   try simp only [BS] at A
   have Z : in64 n → in64 (Int.tdiv n 24) := fun h => vq h (by decide)
   have U := cM (Int.tdiv n 24) (17 : Int)
   refine wR 1 [(2, .o (iI (ab (Int.tdiv n 24) (17 : Int))))] 20 23 [4] [(4, (iI ((ab (Int.tdiv n 24) (17 : Int)) - 6)))] (vA (vA (show (24 : Int) ≠ 0 from by decide) (vq (a := n) (b := 24) (by omega) (by decide))) (vA (m1.d8 ex (Int.tdiv n 24) (17) O (by omega)) (vA (vi (n := (ab (Int.tdiv n 24) (17 : Int)) - 6) (by omega)) trivial))) rfl fun _ => ?_
   refine am ⟨.inr rfl, _, rfl, (ab (Int.tdiv n 24) (17 : Int)) - 6, _, fR, (HS.forget z), rfl, (by omega)⟩
  ·
   try simp only [BS] at A
   refine wR 1 [] 4 4 [24] [(4, (iI raw))] trivial rfl fun _ => ?_
   refine am ⟨.inr rfl, _, rfl, raw, _, fR, (HS.forget z), rfl, (by omega)⟩
set_option maxHeartbeats 1000000 in
theorem vi_c (ex : FuncId) (n : Int) {gn : Option Addr} {h1 : Nat} (c : VFnT) {F : Fz} {H : Heap} {R : List Fp} (hs : HS (.of H []) F H [] R) (hn : in64 n) (k5 : in64 c.params) (k6 : in64 c.regs) (hT : TB 37 tabC F) (hr : 1 ≤ c.regs ∧ c.regs ≤ 3000) : C Tryd.prog 1 (KT 60 ex 37 tabC) 44 [(iI n), (.agg ⟨[(iI c.params), (iI c.regs), (.slice gn c.blocks.length h1)]⟩)] H fun v H' => ∃ (x : VInT) (g1 : Option Addr) (h2 : Nat) (F' : Fz), Fz.le F F' ∧ HS (.of H []) F' H' [] R ∧ v = .agg ⟨[.int .i64 x.i.op, .int .i64 x.i.a, .int .i64 x.i.b, .int .i64 x.i.c, .int .i64 x.i.n, .slice g1 x.args.length h2]⟩ ∧ in64 x.i.op ∧ in64 x.i.a ∧ in64 x.i.b ∧ in64 x.i.c ∧ in64 x.i.n ∧ SR F' (.slice g1 x.args.length h2) x.args ∧ (f0 c.params c.regs x = true) ∧ (ckI x = true) := by
 refine aL Tryd.func44 rfl rfl ?_
 refine ay 1 rfl ?_
 refine ah ?_
 refine br (dQ hs rfl rfl) rfl rfl ?_
 rintro _ H2 _ ⟨b1, rfl, dd, _⟩
 let ci : Fp := [(b1, .cells [(iI c.params), (iI c.regs), (.slice gn c.blocks.length h1)] none false)]
 have dd : HS _ _ _ [ci] _ := dd
 refine br (bX dd rfl) rfl rfl ?_
 rintro _ H4 _ ⟨b3, rfl, hM, _⟩
 let cl : Fp := [(b3, .cells [(iI 0), (iI 0), (iI 0), (iI 0), (iI 0), (.slice none 0 0)] none false)]
 have hM : HS _ _ _ [_, cl] _ := hM
 refine au 2 rfl ?_
 refine ah ?_
 refine wRo 2 0 [] 14 15 [] [(15, (.agg ⟨[(iI n)]⟩))] trivial rfl fun _ => ?_
 refine br (dQ hM rfl rfl) rfl rfl ?_
 rintro _ H7 _ ⟨E, rfl, hP, _⟩
 have hP : HS _ _ _ [_, _, [(E, .cells [(iI n)] none false)]] _ := hP
 refine wa (.pointer (some ⟨E, 0, none⟩)) rfl rfl rfl ?_
 refine au 2 rfl ?_
 refine ah ?_
 refine br (db (α := Int) (ps := [(0, (iI 3)), (1, (iI 6)), (2, (iI 9)), (3, (iI 10)), (4, (iI 11)), (5, (iI 12)), (6, (iI 13)), (7, (iI 33)), (8, (iI 34)), (9, (iI 35)), (10, (iI 10)), (11, (iI 9))]) (cells := [(iI 3), (iI 6), (iI 9), (iI 10), (iI 11), (iI 12), (iI 13), (iI 33), (iI 34), (iI 35), (iI 10), (iI 9)]) ([3, 6, 9, 10, 11, 12, 13, 33, 34, 35, 10, 9] : List Int) hP rfl rfl rfl (by kernel_rfl) ⟨[(iI 3)], _, rfl, ⟨rfl, by first | omega | (dsimp only; omega)⟩, ⟨[(iI 6)], _, rfl, ⟨rfl, by first | omega | (dsimp only; omega)⟩, ⟨[(iI 9)], _, rfl, ⟨rfl, by first | omega | (dsimp only; omega)⟩, ⟨[(iI 10)], _, rfl, ⟨rfl, by first | omega | (dsimp only; omega)⟩, ⟨[(iI 11)], _, rfl, ⟨rfl, by first | omega | (dsimp only; omega)⟩, ⟨[(iI 12)], _, rfl, ⟨rfl, by first | omega | (dsimp only; omega)⟩, ⟨[(iI 13)], _, rfl, ⟨rfl, by first | omega | (dsimp only; omega)⟩, ⟨[(iI 33)], _, rfl, ⟨rfl, by first | omega | (dsimp only; omega)⟩, ⟨[(iI 34)], _, rfl, ⟨rfl, by first | omega | (dsimp only; omega)⟩, ⟨[(iI 35)], _, rfl, ⟨rfl, by first | omega | (dsimp only; omega)⟩, ⟨[(iI 10)], _, rfl, ⟨rfl, by first | omega | (dsimp only; omega)⟩, ⟨[(iI 9)], _, rfl, ⟨rfl, by first | omega | (dsimp only; omega)⟩, rfl⟩⟩⟩⟩⟩⟩⟩⟩⟩⟩⟩⟩ rfl) rfl rfl ?_
 rintro _ H9 p8 ⟨a8, k8, rfl, fd, fi, _⟩
 have fi : HS _ _ _ [_, _, _, p8] _ := fi
 refine wa (.slice a8 ([3, 6, 9, 10, 11, 12, 13, 33, 34, 35, 10, 9] : List Int).length k8) rfl rfl rfl ?_
 refine au 2 rfl ?_
 refine ah ?_
 refine wm (.pointer (some ⟨E, 0, none⟩)) rfl rfl rfl ?_
 refine aJ (ax rfl rfl rfl) rfl rfl (cS ex (⟨n⟩ : DigT) (18) (HS.callOwn fi (i := 2) rfl) (by first | omega | (dsimp only; omega)) (by first | omega | (dsimp only; omega)) hT (by first | omega | (dsimp only; omega))) ?_
 rintro _ lw ⟨h4, hh, li, dv, a3, rfl, kK, l8⟩
 replace a3 := HS.backOwn fi (i := 2) rfl rfl (fun _ hb => hb) a3
 have a3 : HS _ _ _ [_, _, [(E, .cells [(iI hh.n)] none false)], _] _ := a3
 replace hT := hT.mono dv
 refine wRo 2 2 [] 20 20 [7] [(7, (iI (15 + h4)))] (vA (vi (n := 15 + h4) (by first | omega | (dsimp only; omega))) trivial) rfl fun _ => ?_
 refine au 3 rfl ?_
 refine ah ?_
 refine wm (.pointer (some ⟨E, 0, none⟩)) rfl rfl rfl ?_
 refine aJ (ax rfl rfl rfl) rfl rfl (cS ex (⟨hh.n⟩ : DigT) (24) (HS.callOwn a3 (i := 2) rfl) (by first | omega | (dsimp only; omega)) (by first | omega | (dsimp only; omega)) hT (by first | omega | (dsimp only; omega))) ?_
 rintro _ i1 ⟨ap, dt, lj, d1, ar, rfl, kL, l9⟩
 replace ar := HS.backOwn a3 (i := 2) rfl rfl (fun _ hb => hb) ar
 have ar : HS _ _ _ [_, _, [(E, .cells [(iI dt.n)] none false)], _] _ := ar
 replace hT := hT.mono d1
 replace fd := (fd.mono dv).mono d1
 refine wa (iI ap) rfl rfl rfl ?_
 refine au 2 rfl ?_
 refine wR 1 [] 23 26 [] [(26, (.bool (decide (ap < 12))))] trivial rfl fun _ => ?_
 refine dG (fun f H' => ∃ (z : Int), H' = i1 ∧ be f [(0, (iI n)), (3, (.pointer (some ⟨b1, 0, none⟩))), (4, (.pointer (some ⟨b3, 0, none⟩))), (5, (.pointer (some ⟨E, 0, none⟩))), (7, (iI z))] ∧ (opG z)) (fun hS => ?_) ?_
 ·
  refine ao 0 0 (v := (decide (ap < 12))) rfl rfl rfl rfl (fun g2 => ?_) (fun g2 => ?_)
  ·
   try simp only [BS] at g2
   obtain ⟨k4, hQ⟩ := Sv.view (OS.sv fd ar (i := 3) rfl)
   have l7 := fI (hQ ap.toNat)
   refine wR 0 [(3, .o (iI (([3, 6, 9, 10, 11, 12, 13, 33, 34, 35, 10, 9] : List Int).getD ap.toNat 0)))] 27 30 [7] [(7, (iI (([3, 6, 9, 10, 11, 12, 13, 33, 34, 35, 10, 9] : List Int).getD ap.toNat 0)))] (vA (Sv.ix (j := ap) (OS.sv fd ar (i := 3) rfl) (by first | omega | (dsimp only; omega)) (show ap < (12 : Int) from by first | omega | (dsimp only; omega))) (vA (ql 3 0 (vI (hQ ap.toNat) (show ap.toNat < 12 from by first | omega | (dsimp only; omega))) rfl rfl) trivial)) rfl fun _ => ?_
   exact hS _ _ ⟨(([3, 6, 9, 10, 11, 12, 13, 33, 34, 35, 10, 9] : List Int).getD ap.toNat 0), rfl, (agC rfl (agC rfl (agC rfl (agC rfl (agC rfl agN))))), (by first | exact lit12 (by omega) | exact ops_al (by omega))⟩
  ·
   try simp only [BS] at g2
   exact hS _ _ ⟨15 + h4, rfl, (agC rfl (agC rfl (agC rfl (agC rfl (agC rfl agN))))), (by first | exact lit12 (by omega) | exact ops_al (by omega))⟩
 ·
  rintro l1 i1 ⟨z, rfl, hD, ho⟩
  refine aO _ hD (fun _ => ?_)
  clear hD
  have hf := aD ho.2
  have hvf : aB z = (bG z).form := if_neg (by have := ho.1; omega)
  have ml := ho.1
  refine ay 2 rfl ?_
  refine ah ?_
  refine wRo 3 0 [] 31 33 [] [(33, (.agg ⟨[(iI z), (iI 0), (iI 0), (iI 0), (iI 0), (.slice none 0 0)]⟩))] trivial rfl fun _ => ?_
  refine br (bX ar rfl) rfl rfl ?_
  rintro _ ly _ ⟨A, rfl, em, _⟩
  have em : HS _ _ _ [_, _, _, _, [(A, .cells [(iI 0), (iI 0), (iI 0), (iI 0), (iI 0), (.slice none 0 0)] none false)]] _ := em
  refine aN (aC (q := 4) em rfl rfl rfl rfl rfl rfl rfl rfl rfl) rfl ?_
  rintro _ lz _ ⟨c3, _⟩
  have c3 : HS _ _ _ [_, _, _, _, [(A, .cells [(iI z), (iI 0), (iI 0), (iI 0), (iI 0), (.slice none 0 0)] none false)]] _ := c3
  refine au 2 rfl ?_
  refine ah ?_
  refine wm (iI z) rfl rfl rfl ?_
  refine aJ (ax rfl rfl rfl) rfl rfl (m1.rInfo_c ex z (HS.call c3) (by first | omega | (dsimp only; omega)) hT) ?_
  rintro _ lA ⟨mp, mo, kz, hw, a7, rfl, kx, ky, rfl, rfl⟩
  replace a7 := HS.back c3 rfl a7
  have a7 : HS _ _ _ [_, _, _, _, _] _ := a7
  replace hT := hT.mono hw
  refine wRo 3 2 [] 37 38 [34] [(37, (.agg ⟨[(.string ⟨⟨(bG z).name.b⟩⟩), (iI (bG z).form), (.bool (bG z).ra), (.bool (bG z).wa), (.bool (bG z).rb), (.bool (bG z).mt), (iI (bG z).words)]⟩)), (38, (.bool (infO z)))] trivial rfl fun _ => ?_
  refine br (bX a7 rfl) rfl rfl ?_
  rintro _ lB _ ⟨i2, rfl, es, _⟩
  have es : HS _ _ _ [_, _, _, _, _, [(i2, .cells [(.string ⟨⟨[]⟩⟩), (iI 0), (.bool false), (.bool false), (.bool false), (.bool false), (iI 0)] none false)]] _ := es
  refine aN (aC (q := 5) es rfl rfl rfl rfl rfl rfl rfl rfl rfl) rfl ?_
  rintro _ lC _ ⟨av, _⟩
  let co : Fp := [(i2, .cells [(.string ⟨⟨(bG z).name.b⟩⟩), (iI (bG z).form), (.bool (bG z).ra), (.bool (bG z).wa), (.bool (bG z).rb), (.bool (bG z).mt), (iI (bG z).words)] none false)]
  have av : HS _ _ _ [_, _, _, _, _, co] _ := av
  refine wa (.bool (infO z)) rfl rfl rfl ?_
  refine au 2 rfl ?_
  refine wR 3 [(1, .o (iI (bG z).form))] 39 40 [12] [(12, (iI (bG z).form))] (vA (ql 3 1 (HS.hc av (i := 5) rfl) rfl rfl) trivial) rfl fun _ => ?_
  refine wR 1 [] 41 42 [] [(42, (.bool ((bG z).form != 1)))] trivial rfl fun _ => ?_
  refine dG (fun f H' => ∃ (ja : Int) (dk : DigT) (F' : Fz), Fz.le kz F' ∧ HS (Base.of H []) F' H' [ci, cl, [(E, .cells [(iI dk.n)] none false)], p8, [(A, .cells [(iI z), (iI ja), (iI 0), (iI 0), (iI 0), (.slice none 0 0)] none false)], co] R ∧ be f [(0, (iI n)), (3, (.pointer (some ⟨b1, 0, none⟩))), (4, (.pointer (some ⟨b3, 0, none⟩))), (5, (.pointer (some ⟨E, 0, none⟩))), (7, (iI z)), (9, (.pointer (some ⟨A, 0, none⟩))), (12, (iI (bG z).form))] ∧ (iR (decide (aB z ≠ 1)) ja c.regs = true) ∧ (in64 ja) ∧ (in64 dk.n)) (fun hV => ?_) ?_
  ·
   refine ao 0 0 (v := ((bG z).form != 1)) rfl rfl rfl rfl (fun g3 => ?_) (fun g3 => ?_)
   ·
    try simp only [BS] at g3
    refine ah ?_
    refine wRo 3 0 [(2, .o (iI c.regs))] 43 45 [] [(43, (.pointer (some ⟨E, 0, none⟩))), (45, (iI c.regs))] (vA (ql 3 1 (HS.hc av (i := 0) rfl) rfl rfl) trivial) rfl fun _ => ?_
    refine aJ (ax rfl rfl rfl) rfl rfl (cS ex (⟨dt.n⟩ : DigT) c.regs (HS.callOwn av (i := 2) rfl) (by first | omega | (dsimp only; omega)) (by first | omega | (dsimp only; omega)) hT (by first | omega | (dsimp only; omega))) ?_
    rintro _ lE ⟨jw, hj, ll, ke, bb, rfl, kM, ma⟩
    replace bb := HS.backOwn av (i := 2) rfl rfl (fun _ hb => hb) bb
    have bb : HS _ _ _ [_, _, [(E, .cells [(iI hj.n)] none false)], _, _, _] _ := bb
    refine wRo 2 4 [] 47 48 [] [(48, (.pointer (some ⟨A, 1, none⟩)))] trivial rfl fun _ => ?_
    refine aN (aC (q := 4) bb rfl rfl rfl rfl rfl rfl rfl rfl rfl) rfl ?_
    rintro _ lF _ ⟨et, _⟩
    have et : HS _ _ _ [_, _, _, _, [(A, .cells [(iI z), (iI jw), (iI 0), (iI 0), (iI 0), (.slice none 0 0)] none false)], _] _ := et
    refine au 0 rfl ?_
    exact hV _ _ ⟨jw, (⟨hj.n⟩ : DigT), _, (ke), et, (agC rfl (agC rfl (agC rfl (agC rfl (agC rfl (agC rfl (agC rfl agN))))))), (by first | exact gt (by omega) (by omega) | exact eX (by omega) rfl), (by first | assumption | omega | (simp at *; omega)), (by first | assumption | omega | (simp at *; omega))⟩
   ·
    try simp only [BS] at g3
    exact hV _ _ ⟨0, (⟨dt.n⟩ : DigT), _, fR, av, (agC rfl (agC rfl (agC rfl (agC rfl (agC rfl (agC rfl (agC rfl agN))))))), (by first | exact gt (by omega) (by omega) | exact eX (by omega) rfl), (by first | assumption | omega | (simp at *; omega)), (by first | assumption | omega | (simp at *; omega))⟩
  ·
   rintro l2 lD ⟨ja, dk, kA, hx, c4, hE, hja, rja, lc⟩
   refine aO _ hE (fun _ => ?_)
   clear hE
   replace hT := hT.mono hx
   refine ay 3 rfl ?_
   refine wR 1 [] 49 58 [] [(58, (.bool ((((bG z).form == 3) || ((bG z).form == 4)) || ((bG z).form == 7))))] trivial rfl fun _ => ?_
   refine dG (fun f H' => ∃ (jb : Int) (dn : DigT) (F' : Fz), Fz.le kA F' ∧ HS (Base.of H []) F' H' [ci, cl, [(E, .cells [(iI dn.n)] none false)], p8, [(A, .cells [(iI z), (iI ja), (iI jb), (iI 0), (iI 0), (.slice none 0 0)] none false)], co] R ∧ be f [(0, (iI n)), (3, (.pointer (some ⟨b1, 0, none⟩))), (4, (.pointer (some ⟨b3, 0, none⟩))), (5, (.pointer (some ⟨E, 0, none⟩))), (7, (iI z)), (9, (.pointer (some ⟨A, 0, none⟩))), (12, (iI (bG z).form))] ∧ (iR (decide (aB z = 3 ∨ aB z = 4 ∨ aB z = 7)) jb c.regs = true) ∧ (in64 jb) ∧ (in64 dn.n)) (fun hW => ?_) ?_
   ·
    refine ao 0 0 (v := ((((bG z).form == 3) || ((bG z).form == 4)) || ((bG z).form == 7))) rfl rfl rfl rfl (fun g4 => ?_) (fun g4 => ?_)
    ·
     try simp only [BS] at g4
     refine ah ?_
     refine wRo 3 0 [(2, .o (iI c.regs))] 59 61 [] [(59, (.pointer (some ⟨E, 0, none⟩))), (61, (iI c.regs))] (vA (ql 3 1 (HS.hc c4 (i := 0) rfl) rfl rfl) trivial) rfl fun _ => ?_
     refine aJ (ax rfl rfl rfl) rfl rfl (cS ex (⟨dk.n⟩ : DigT) c.regs (HS.callOwn c4 (i := 2) rfl) (by first | omega | (dsimp only; omega)) (by first | omega | (dsimp only; omega)) hT (by first | omega | (dsimp only; omega))) ?_
     rintro _ lH ⟨j8, hk, lm, kf, bl, rfl, kN, mb⟩
     replace bl := HS.backOwn c4 (i := 2) rfl rfl (fun _ hb => hb) bl
     have bl : HS _ _ _ [_, _, [(E, .cells [(iI hk.n)] none false)], _, [(A, .cells [(iI z), (iI ja), (iI 0), (iI 0), (iI 0), (.slice none 0 0)] none false)], _] _ := bl
     refine wRo 2 4 [] 63 64 [] [(64, (.pointer (some ⟨A, 2, none⟩)))] trivial rfl fun _ => ?_
     refine aN (aC (q := 4) bl rfl rfl rfl rfl rfl rfl rfl rfl rfl) rfl ?_
     rintro _ lI _ ⟨ez, _⟩
     have ez : HS _ _ _ [_, _, _, _, [(A, .cells [(iI z), (iI ja), (iI j8), (iI 0), (iI 0), (.slice none 0 0)] none false)], _] _ := ez
     refine au 0 rfl ?_
     exact hW _ _ ⟨j8, (⟨hk.n⟩ : DigT), _, (kf), ez, (agC rfl (agC rfl (agC rfl (agC rfl (agC rfl (agC rfl (agC rfl agN))))))), (by first | exact gt (by omega) (by omega) | exact eX (by omega) rfl), (by first | assumption | omega | (simp at *; omega)), (by first | assumption | omega | (simp at *; omega))⟩
    ·
     try simp only [BS] at g4
     exact hW _ _ ⟨0, (⟨dk.n⟩ : DigT), _, fR, c4, (agC rfl (agC rfl (agC rfl (agC rfl (agC rfl (agC rfl (agC rfl agN))))))), (by first | exact gt (by omega) (by omega) | exact eX (by omega) rfl), (by first | assumption | omega | (simp at *; omega)), (by first | assumption | omega | (simp at *; omega))⟩
   ·
    rintro l3 lG ⟨jb, dn, kB, hy, c5, hF, hjb, rjb, ld⟩
    refine aO _ hF (fun _ => ?_)
    clear hF
    replace hT := hT.mono hy
    refine ay 3 rfl ?_
    refine wR 1 [] 65 66 [] [(66, (.bool ((bG z).form == 4)))] trivial rfl fun _ => ?_
    refine dG (fun f H' => ∃ (jc : Int) (a2 : DigT) (F' : Fz), Fz.le kB F' ∧ HS (Base.of H []) F' H' [ci, cl, [(E, .cells [(iI a2.n)] none false)], p8, [(A, .cells [(iI z), (iI ja), (iI jb), (iI jc), (iI 0), (.slice none 0 0)] none false)], co] R ∧ be f [(0, (iI n)), (3, (.pointer (some ⟨b1, 0, none⟩))), (4, (.pointer (some ⟨b3, 0, none⟩))), (5, (.pointer (some ⟨E, 0, none⟩))), (7, (iI z)), (9, (.pointer (some ⟨A, 0, none⟩)))] ∧ (iR (decide (aB z = 4)) jc c.regs = true) ∧ (in64 jc) ∧ (in64 a2.n)) (fun hX => ?_) ?_
    ·
     refine ao 0 0 (v := ((bG z).form == 4)) rfl rfl rfl rfl (fun g5 => ?_) (fun g5 => ?_)
     ·
      try simp only [BS] at g5
      refine ah ?_
      refine wRo 3 0 [(2, .o (iI c.regs))] 67 69 [] [(67, (.pointer (some ⟨E, 0, none⟩))), (69, (iI c.regs))] (vA (ql 3 1 (HS.hc c5 (i := 0) rfl) rfl rfl) trivial) rfl fun _ => ?_
      refine aJ (ax rfl rfl rfl) rfl rfl (cS ex (⟨dn.n⟩ : DigT) c.regs (HS.callOwn c5 (i := 2) rfl) (by first | omega | (dsimp only; omega)) (by first | omega | (dsimp only; omega)) hT (by first | omega | (dsimp only; omega))) ?_
      rintro _ lK ⟨j9, hl, ln, kg, b0, rfl, kO, mc⟩
      replace b0 := HS.backOwn c5 (i := 2) rfl rfl (fun _ hb => hb) b0
      have b0 : HS _ _ _ [_, _, [(E, .cells [(iI hl.n)] none false)], _, [(A, .cells [(iI z), (iI ja), (iI jb), (iI 0), (iI 0), (.slice none 0 0)] none false)], _] _ := b0
      refine wRo 2 4 [] 71 72 [] [(72, (.pointer (some ⟨A, 3, none⟩)))] trivial rfl fun _ => ?_
      refine aN (aC (q := 4) b0 rfl rfl rfl rfl rfl rfl rfl rfl rfl) rfl ?_
      rintro _ lL _ ⟨e0, _⟩
      have e0 : HS _ _ _ [_, _, _, _, [(A, .cells [(iI z), (iI ja), (iI jb), (iI j9), (iI 0), (.slice none 0 0)] none false)], _] _ := e0
      refine au 0 rfl ?_
      exact hX _ _ ⟨j9, (⟨hl.n⟩ : DigT), _, (kg), e0, (agC rfl (agC rfl (agC rfl (agC rfl (agC rfl (agC rfl agN)))))), (by first | exact gt (by omega) (by omega) | exact eX (by omega) rfl), (by first | assumption | omega | (simp at *; omega)), (by first | assumption | omega | (simp at *; omega))⟩
     ·
      try simp only [BS] at g5
      exact hX _ _ ⟨0, (⟨dn.n⟩ : DigT), _, fR, c5, (agC rfl (agC rfl (agC rfl (agC rfl (agC rfl (agC rfl agN)))))), (by first | exact gt (by omega) (by omega) | exact eX (by omega) rfl), (by first | assumption | omega | (simp at *; omega)), (by first | assumption | omega | (simp at *; omega))⟩
    ·
     rintro l4 lJ ⟨jc, a2, ik, hz, V, hG, hjc, rjc, lf⟩
     refine aO _ hG (fun _ => ?_)
     clear hG
     replace hT := hT.mono hz
     refine ay 3 rfl ?_
     refine wR 3 [] 73 73 [] [(73, (iI z))] trivial rfl fun _ => ?_
     refine wR 1 [] 74 75 [] [(74, (.bool (z == 13)))] trivial rfl fun _ => ?_
     refine dG (fun f H' => ∃ (jq : Int) (asl : List Int) (f1 : DigT) (I : Option Addr) (O : Nat) (F' : Fz), Fz.le ik F' ∧ HS (Base.of H []) F' H' [ci, cl, [(E, .cells [(iI f1.n)] none false)], p8, [(A, .cells [(iI z), (iI ja), (iI jb), (iI jc), (iI jq), (.slice I asl.length O)] none false)], co] R ∧ SR F' (.slice I asl.length O) asl ∧ be f [(4, (.pointer (some ⟨b3, 0, none⟩))), (9, (.pointer (some ⟨A, 0, none⟩)))] ∧ (iS c.params z jq = true) ∧ (in64 jq) ∧ ((z = 6 ∨ asl.length = 0) ∧ asl.length ≤ 6) ∧ (asl.all (aE c.regs) = true) ∧ ((z = 6 → (jq = 0 ∧ asl.length = 2 ∨ jq = 1 ∧ asl.length = 1)) ∧ (z = 34 ∨ z = 35 → jq < 2)) ∧ (in64 f1.n)) (fun a6 => ?_) ?_
     ·
      refine ao 0 1 (v := (z == 13)) rfl rfl rfl rfl (fun g6 => ?_) (fun g6 => ?_)
      ·
       try simp only [BS] at g6
       refine ah ?_
       refine wm (.pointer (some ⟨E, 0, none⟩)) rfl rfl rfl ?_
       refine aJ (ax rfl rfl rfl) rfl rfl (cS ex (⟨a2.n⟩ : DigT) (400) (HS.callOwn V (i := 2) rfl) (by first | omega | (dsimp only; omega)) (by first | omega | (dsimp only; omega)) hT (by first | omega | (dsimp only; omega))) ?_
       rintro _ lN ⟨kW, hm, lq, hA, a4, rfl, kP, md⟩
       replace a4 := HS.backOwn V (i := 2) rfl rfl (fun _ hb => hb) a4
       have a4 : HS _ _ _ [_, _, [(E, .cells [(iI hm.n)] none false)], _, [(A, .cells [(iI z), (iI ja), (iI jb), (iI jc), (iI 0), (.slice none 0 0)] none false)], _] _ := a4
       replace hT := hT.mono hA
       refine wm (iI n) rfl rfl rfl ?_
       refine aJ (ax rfl rfl rfl) rfl rfl (word_c ex kW n (HS.call a4) (by first | omega | (dsimp only; omega)) (by first | omega | (dsimp only; omega)) hT) ?_
       rintro _ lO ⟨ka, kC, ki, b2, rfl, me⟩
       replace b2 := HS.back a4 rfl b2
       have b2 : HS _ _ _ [_, _, _, _, _, _] _ := b2
       refine wRo 2 4 [] 80 81 [] [(81, (.pointer (some ⟨A, 4, none⟩)))] trivial rfl fun _ => ?_
       refine aN (aC (q := 4) b2 rfl rfl rfl rfl rfl rfl rfl rfl rfl) rfl ?_
       rintro _ lP _ ⟨e1, _⟩
       have e1 : HS _ _ _ [_, _, _, _, [(A, .cells [(iI z), (iI ja), (iI jb), (iI jc), (iI ka), (.slice none 0 0)] none false)], _] _ := e1
       refine au 0 rfl ?_
       exact a6 _ _ ⟨ka, ([] : List Int), (⟨hm.n⟩ : DigT), none, 0, _, (fT (hA) ki), e1, (SR.nil : SR kC (.slice none 0 0) ([] : List Int)), (agC rfl (agC rfl agN)), (by exact immT (by omega)), (by first | assumption | omega | (simp at *; omega)), (by first | omega | (simp <;> omega)), (by first | assumption | rfl), (by first | omega | (simp <;> omega)), (by first | assumption | omega | (simp at *; omega))⟩
      ·
       try simp only [BS] at g6
       refine wR 1 [] 82 83 [] [(82, (.bool (z == 33)))] trivial rfl fun _ => ?_
       refine ao 0 2 (v := (z == 33)) rfl rfl rfl rfl (fun g7 => ?_) (fun g7 => ?_)
       ·
        try simp only [BS] at g7
        refine ah ?_
        refine wm (.pointer (some ⟨E, 0, none⟩)) rfl rfl rfl ?_
        refine aJ (ax rfl rfl rfl) rfl rfl (cS ex (⟨a2.n⟩ : DigT) (9) (HS.callOwn V (i := 2) rfl) (by first | omega | (dsimp only; omega)) (by first | omega | (dsimp only; omega)) hT (by first | omega | (dsimp only; omega))) ?_
        rintro _ lQ ⟨f2, hp, kD, kj, b4, rfl, kQ, mf⟩
        replace b4 := HS.backOwn V (i := 2) rfl rfl (fun _ hb => hb) b4
        have b4 : HS _ _ _ [_, _, [(E, .cells [(iI hp.n)] none false)], _, [(A, .cells [(iI z), (iI ja), (iI jb), (iI jc), (iI 0), (.slice none 0 0)] none false)], _] _ := b4
        refine wRo 3 2 [] 86 88 [] [(86, (iI (f2 - 4))), (88, (.pointer (some ⟨A, 4, none⟩)))] (vA (vi (n := f2 - 4) (by first | omega | (dsimp only; omega))) trivial) rfl fun _ => ?_
        refine aN (aC (q := 4) b4 rfl rfl rfl rfl rfl rfl rfl rfl rfl) rfl ?_
        rintro _ lR _ ⟨e2, _⟩
        have e2 : HS _ _ _ [_, _, _, _, [(A, .cells [(iI z), (iI ja), (iI jb), (iI jc), (iI (f2 - 4)), (.slice none 0 0)] none false)], _] _ := e2
        refine au 0 rfl ?_
        exact a6 _ _ ⟨f2 - 4, ([] : List Int), (⟨hp.n⟩ : DigT), none, 0, _, (kj), e2, (SR.nil : SR kD (.slice none 0 0) ([] : List Int)), (agC rfl (agC rfl agN)), (by exact immT (by omega)), (by first | assumption | omega | (simp at *; omega)), (by first | omega | (simp <;> omega)), (by first | assumption | rfl), (by first | omega | (simp <;> omega)), (by first | assumption | omega | (simp at *; omega))⟩
       ·
        try simp only [BS] at g7
        refine wR 1 [] 89 90 [] [(89, (.bool (z == 34)))] trivial rfl fun _ => ?_
        refine ao 1 0 (v := (z == 34)) rfl rfl rfl rfl (fun c0 => ?_) (fun c0 => ?_)
        ·
         have g9 := c0
         try simp only [BS] at g9
         refine bw 0 (v := (z == 34)) rfl c0 rfl rfl ?_
         refine ah ?_
         refine wm (.pointer (some ⟨E, 0, none⟩)) rfl rfl rfl ?_
         refine aJ (ax rfl rfl rfl) rfl rfl (cS ex (⟨a2.n⟩ : DigT) (2) (HS.callOwn V (i := 2) rfl) (by first | omega | (dsimp only; omega)) (by first | omega | (dsimp only; omega)) hT (by first | omega | (dsimp only; omega))) ?_
         rintro _ lS ⟨kb, hq, kE, kl, b5, rfl, kR, mg⟩
         replace b5 := HS.backOwn V (i := 2) rfl rfl (fun _ hb => hb) b5
         have b5 : HS _ _ _ [_, _, [(E, .cells [(iI hq.n)] none false)], _, [(A, .cells [(iI z), (iI ja), (iI jb), (iI jc), (iI 0), (.slice none 0 0)] none false)], _] _ := b5
         refine wRo 2 2 [] 94 95 [] [(95, (.pointer (some ⟨A, 4, none⟩)))] trivial rfl fun _ => ?_
         refine aN (aC (q := 4) b5 rfl rfl rfl rfl rfl rfl rfl rfl rfl) rfl ?_
         rintro _ lT _ ⟨e3, _⟩
         have e3 : HS _ _ _ [_, _, _, _, [(A, .cells [(iI z), (iI ja), (iI jb), (iI jc), (iI kb), (.slice none 0 0)] none false)], _] _ := e3
         refine au 0 rfl ?_
         exact a6 _ _ ⟨kb, ([] : List Int), (⟨hq.n⟩ : DigT), none, 0, _, (kl), e3, (SR.nil : SR kE (.slice none 0 0) ([] : List Int)), (agC rfl (agC rfl agN)), (by exact immT (by omega)), (by first | assumption | omega | (simp at *; omega)), (by first | omega | (simp <;> omega)), (by first | assumption | rfl), (by first | omega | (simp <;> omega)), (by first | assumption | omega | (simp at *; omega))⟩
        ·
         have g9 := c0
         try simp only [BS] at g9
         refine wR 1 [] 89 91 [] [(89, (.bool (z == 35)))] trivial rfl fun _ => ?_
         refine ao 0 1 (v := (z == 35)) rfl rfl rfl rfl (fun ha => ?_) (fun ha => ?_)
         ·
          try simp only [BS] at ha
          refine ah ?_
          refine wm (.pointer (some ⟨E, 0, none⟩)) rfl rfl rfl ?_
          refine aJ (ax rfl rfl rfl) rfl rfl (cS ex (⟨a2.n⟩ : DigT) (2) (HS.callOwn V (i := 2) rfl) (by first | omega | (dsimp only; omega)) (by first | omega | (dsimp only; omega)) hT (by first | omega | (dsimp only; omega))) ?_
          rintro _ lU ⟨kd, ht, kF, km, b7, rfl, kS, mh⟩
          replace b7 := HS.backOwn V (i := 2) rfl rfl (fun _ hb => hb) b7
          have b7 : HS _ _ _ [_, _, [(E, .cells [(iI ht.n)] none false)], _, [(A, .cells [(iI z), (iI ja), (iI jb), (iI jc), (iI 0), (.slice none 0 0)] none false)], _] _ := b7
          refine wRo 2 2 [] 94 95 [] [(95, (.pointer (some ⟨A, 4, none⟩)))] trivial rfl fun _ => ?_
          refine aN (aC (q := 4) b7 rfl rfl rfl rfl rfl rfl rfl rfl rfl) rfl ?_
          rintro _ lV _ ⟨e4, _⟩
          have e4 : HS _ _ _ [_, _, _, _, [(A, .cells [(iI z), (iI ja), (iI jb), (iI jc), (iI kd), (.slice none 0 0)] none false)], _] _ := e4
          refine au 0 rfl ?_
          exact a6 _ _ ⟨kd, ([] : List Int), (⟨ht.n⟩ : DigT), none, 0, _, (km), e4, (SR.nil : SR kF (.slice none 0 0) ([] : List Int)), (agC rfl (agC rfl agN)), (by exact immT (by omega)), (by first | assumption | omega | (simp at *; omega)), (by first | omega | (simp <;> omega)), (by first | assumption | rfl), (by first | omega | (simp <;> omega)), (by first | assumption | omega | (simp at *; omega))⟩
         ·
          try simp only [BS] at ha
          refine wR 1 [] 96 97 [] [(96, (.bool (z == 6)))] trivial rfl fun _ => ?_
          refine ao 1 0 (v := (z == 6)) rfl rfl rfl rfl (fun he => ?_) (fun he => ?_)
          ·
           try simp only [BS] at he
           refine ah ?_
           refine wm (.pointer (some ⟨E, 0, none⟩)) rfl rfl rfl ?_
           refine aJ (ax rfl rfl rfl) rfl rfl (cS ex (⟨a2.n⟩ : DigT) (2) (HS.callOwn V (i := 2) rfl) (by first | omega | (dsimp only; omega)) (by first | omega | (dsimp only; omega)) hT (by first | omega | (dsimp only; omega))) ?_
           rintro _ lW ⟨aq, hu, iv, hB, cd, rfl, kT, mi⟩
           replace cd := HS.backOwn V (i := 2) rfl rfl (fun _ hb => hb) cd
           have cd : HS _ _ _ [_, _, [(E, .cells [(iI hu.n)] none false)], _, [(A, .cells [(iI z), (iI ja), (iI jb), (iI jc), (iI 0), (.slice none 0 0)] none false)], _] _ := cd
           refine wRo 2 2 [] 100 101 [] [(101, (.pointer (some ⟨A, 4, none⟩)))] trivial rfl fun _ => ?_
           refine aN (aC (q := 4) cd rfl rfl rfl rfl rfl rfl rfl rfl rfl) rfl ?_
           rintro _ lX _ ⟨c6, _⟩
           have c6 : HS _ _ _ [_, _, _, _, [(A, .cells [(iI z), (iI ja), (iI jb), (iI jc), (iI aq), (.slice none 0 0)] none false)], _] _ := c6
           refine au 2 rfl ?_
           refine wR 2 [(2, .o (iI aq))] 102 105 [13] [(13, (iI (2 - aq)))] (vA (ql 2 4 (HS.hc c6 (i := 4) rfl) rfl rfl) (vA (vi (n := 2 - aq) (by first | omega | (dsimp only; omega))) trivial)) rfl fun _ => ?_
           have e5 := HS.snoc c6
           have e5 : HS _ _ _ [_, _, _, _, _, _, []] _ := e5
           refine aQ (fun (mm : Nat) f H' => ∃ (kk : Int) (al : List Int) (dl : DigT) (U : Fp) (J : Option Addr) (T : Nat) (F' : Fz), Fz.le iv F' ∧ HS (Base.of H []) F' H' [ci, cl, [(E, .cells [(iI dl.n)] none false)], p8, [(A, .cells [(iI z), (iI ja), (iI jb), (iI jc), (iI aq), (.slice J al.length T)] none false)], co, U] R ∧ OS F' (.slice J al.length T) al U ∧ be f [(3, (.pointer (some ⟨b1, 0, none⟩))), (4, (.pointer (some ⟨b3, 0, none⟩))), (5, (.pointer (some ⟨E, 0, none⟩))), (9, (.pointer (some ⟨A, 0, none⟩))), (13, (iI kk))] ∧ mm = kk.toNat ∧ ((al.length : Int) + kk = 2 - aq ∧ 0 ≤ kk) ∧ (al.all (aE c.regs) = true) ∧ (in64 dl.n) ∧ (kk ≤ 2)) _ ⟨2 - aq, ([] : List Int), (⟨hu.n⟩ : DigT), [], none, 0, _, fR, e5, (OS.nil : OS iv (.slice none 0 0) ([] : List Int) []), (agC rfl (agC rfl (agC rfl (agC rfl (agC rfl agN))))), rfl, (by simp; omega), (by rfl), (by first | assumption | omega | (simp at *; omega)), (by first | assumption | omega | (simp at *; omega))⟩ ?_
           rintro la l6 lY ⟨kk, al, dl, U, J, T, lr, d2, a0, Z, hI, rfl, q1, q2, q3, q4⟩ kr
           refine aO _ hI (fun _ => ?_)
           clear hI
           replace hT := (hT.mono hB).mono d2
           refine ay 2 rfl ?_
           refine wR 1 [] 106 107 [] [(107, (.bool (decide ((0 : Int) < kk))))] trivial rfl fun _ => ?_
           refine ao 3 3 (v := (decide ((0 : Int) < kk))) rfl rfl rfl rfl (fun hg => ?_) (fun hg => ?_)
           ·
            try simp only [BS] at hg
            refine aR rfl ?_
            refine ai (v := (.pointer (some ⟨A, 5, none⟩))) (id := .v) (bd rfl rfl) rfl rfl (aI rfl) (aF _) ?_
            refine ai (v := (.slice J al.length T)) (id := .l A) (aT (i := 5) rfl rfl (HS.hc a0.log0 (i := 4) rfl) rfl rfl) rfl rfl (bn rfl) (⟨.inl rfl, trivial⟩) ?_
            refine fm (.pointer (some ⟨E, 0, none⟩)) rfl rfl rfl ?_
            refine ai (v := (.pointer (some ⟨b1, 1, none⟩))) (id := .v) (bd rfl rfl) rfl rfl (aI rfl) (aF _) ?_
            refine ai (v := (iI c.regs)) (id := .l b1) (aT (i := 1) rfl rfl (HS.hc a0.log0 (i := 0) rfl) rfl rfl) rfl rfl (bn rfl) (⟨.inl rfl, ⟨.inr trivial, ⟨.inr trivial, ⟨.inr trivial, trivial⟩⟩⟩⟩) ?_
            refine a9 (W := [E]) (ax rfl rfl rfl) rfl rfl rfl (cS ex (⟨dl.n⟩ : DigT) c.regs (HS.callOwn a0.log0 (i := 2) rfl) (by first | omega | (dsimp only; omega)) (by first | omega | (dsimp only; omega)) hT (by first | omega | (dsimp only; omega))) (⟨.inl rfl, ⟨.inl rfl, ⟨.inl rfl, ⟨.inr (HS.nin a0 (i := 4) (j := 2) rfl rfl (by decide) (by simp)), ⟨.inr trivial, trivial⟩⟩⟩⟩⟩) ?_
            rintro _ kG ⟨ch, hv, lu, hC, ad, rfl, kU, mj⟩
            refine ⟨HS.didW ad, fun kt h6 => ?_⟩
            replace ad := HS.backOwn a0.log0 (i := 2) rfl rfl (fun _ hb => hb) ad
            replace ad := HS.lg ad a0 h6
            generalize ({ kG with log := kt } : Heap) = kX at ad ⊢
            have ad : HS _ _ _ [_, _, [(E, .cells [(iI hv.n)] none false)], _, [(A, .cells [(iI z), (iI ja), (iI jb), (iI jc), (iI aq), (.slice J al.length T)] none false)], _, U] _ := ad
            replace Z := Z.mono hC
            refine dU (id := .a) (db (α := Int) (ps := [(0, (iI ch))]) (cells := [(iI ch)]) ([ch] : List Int) ad.log0 rfl rfl rfl (by kernel_rfl) ⟨[(iI ch)], [], rfl, ⟨rfl, by first | omega | (dsimp only; omega)⟩, rfl⟩ rfl) rfl rfl (fun _ _ _ _ => iF rfl rfl rfl) (⟨.inl rfl, ⟨.inl rfl, ⟨.inl rfl, ⟨.inl rfl, ⟨.inr trivial, ⟨.inr trivial, trivial⟩⟩⟩⟩⟩⟩) ?_
            rintro _ kH kV ⟨l0, mn, rfl, ko, ag, _⟩ ku h7
            replace ag := HS.lg ag ad h7
            generalize ({ kH with log := ku } : Heap) = kY at ag ⊢
            have ag : HS _ _ _ [_, _, _, _, _, _, _, kV] _ := ag
            refine dU (id := .x (U.map Prod.fst)) (eW (α := Int) (q := 6) Z ag.log0 rfl rfl rfl (OS.sv ko ag.log0 (i := 7) rfl) rfl rfl rfl rfl rfl rfl rfl (by first | omega | (simp only [List.length_cons, List.length_nil]; omega))) rfl rfl (by rintro _ _ h3 ⟨f9, hY, rfl, hK, _, hwr⟩; exact ee rfl rfl (Wr.did hwr)) (⟨.inl rfl, ⟨.inl rfl, ⟨.inl rfl, ⟨.inl rfl, ⟨.inl rfl, ⟨.inl rfl, ⟨.inl rfl, trivial⟩⟩⟩⟩⟩⟩⟩) ?_
            rintro _ kI h3 ⟨f9, hY, rfl, hK, a1, _⟩ kv h8
            replace a1 := HS.lg a1 ag h8
            generalize ({ kI with log := kv } : Heap) = kZ at a1 ⊢
            have a1 : HS _ _ _ [_, _, _, _, _, _, h3, _] _ := a1
            refine ai (v := (.pointer (some ⟨A, 5, none⟩))) (id := .v) (bd rfl rfl) rfl rfl (aI rfl) (aF _) ?_
            refine jA (id := .x [A]) (aC (q := 4) a1.log0 rfl rfl rfl rfl rfl rfl rfl rfl rfl) rfl (by rintro _ _ _ ⟨_, hwr⟩; exact ee rfl rfl (Wr.did hwr)) (⟨.inl rfl, ⟨.inl rfl, ⟨.inl rfl, ⟨.inl rfl, ⟨.inl rfl, ⟨.inl rfl, ⟨.inl rfl, ⟨.inl rfl, ⟨.inl rfl, trivial⟩⟩⟩⟩⟩⟩⟩⟩⟩) ?_
            rintro _ kJ _ ⟨a5, _⟩ kw ih
            replace a5 := HS.lg a5 a1 ih
            generalize ({ kJ with log := kw } : Heap) = k0 at a5 ⊢
            have a5 : HS _ _ _ [_, _, _, _, [(A, .cells [(iI z), (iI ja), (iI jb), (iI jc), (iI aq), (.slice f9 (al ++ ([ch] : List Int)).length hY)] none false)], _, _, _] _ := a5
            refine bZ ?_
            refine ay 2 rfl ?_
            refine wR 1 [] 108 109 [13] [(13, (iI (kk - 1)))] (vA (vi (n := kk - 1) (by first | omega | (dsimp only; omega))) trivial) rfl fun _ => ?_
            refine kr _ _ _ ?_ ⟨kk - 1, al ++ ([ch] : List Int), (⟨hv.n⟩ : DigT), h3, f9, hY, _, (fT (d2) hC), (HS.sub a5 (List.sublist_append_left _ _)), hK, (agC rfl (agC rfl (agC rfl (agC rfl (agC rfl agN))))), rfl, (by simp; omega), (by exact all_app q2 (bz.2 (by omega))), (by first | assumption | omega | (simp at *; omega)), (by first | assumption | omega | (simp at *; omega))⟩
            omega
           ·
            try simp only [BS] at hg
            obtain ⟨lv, kn, e6, kp, k7⟩ := OS.frz Z a0 (i := 6) rfl
            have e6 : HS _ _ _ [_, _, [(E, .cells [(iI dl.n)] none false)], _, [(A, .cells [(iI z), (iI ja), (iI jb), (iI jc), (iI aq), (.slice J al.length T)] none false)], _, _] _ := e6
            exact a6 _ _ ⟨aq, al, (⟨dl.n⟩ : DigT), J, T, _, (fT (fT (hB) d2) kn), (HS.sub e6 (List.sublist_append_left _ _)), kp, (agC rfl (agC rfl agN)), (by exact immT (by omega)), (by first | assumption | omega | (simp at *; omega)), (by first | omega | (simp <;> omega)), (by first | assumption | rfl), (by first | omega | (simp <;> omega)), (by first | assumption | omega | (simp at *; omega))⟩
          ·
           try simp only [BS] at he
           exact a6 _ _ ⟨0, ([] : List Int), (⟨a2.n⟩ : DigT), none, 0, _, fR, V, (SR.nil : SR ik (.slice none 0 0) ([] : List Int)), (agC rfl (agC rfl agN)), (by exact immT (by omega)), (by first | assumption | omega | (simp at *; omega)), (by first | omega | (simp <;> omega)), (by first | assumption | rfl), (by first | omega | (simp <;> omega)), (by first | assumption | omega | (simp at *; omega))⟩
     ·
      rintro l5 lM ⟨jq, asl, f1, I, O, lp, kh, hN, ds, hH, hjq, rjq, i3, dd, hck, lh⟩
      refine aO _ hH (fun _ => ?_)
      clear hH
      refine ay 3 rfl ?_
      refine ah ?_
      let h5 : Value := (.agg ⟨[(iI z), (iI ja), (iI jb), (iI jc), (iI jq), (.slice I asl.length O)]⟩)
      refine wRo 1 0 [(0, .o h5)] 119 119 [] [(119, h5)] (vA (qn 47 0 6 (HS.hc hN (i := 4) rfl) rfl rfl rfl rfl) trivial) rfl fun _ => ?_
      refine aN (aC (q := 1) hN rfl rfl rfl rfl rfl rfl rfl rfl rfl) rfl ?_
      rintro _ lZ _ ⟨c7, _⟩
      have c7 : HS _ _ _ [_, [(b3, .cells [(iI z), (iI ja), (iI jb), (iI jc), (iI jq), (.slice I asl.length O)] none false)], [(E, .cells [(iI f1.n)] none false)], _, [(A, .cells [(iI z), (iI ja), (iI jb), (iI jc), (iI jq), (.slice I asl.length O)] none false)], _] _ := c7
      refine au 1 rfl ?_
      refine am ⟨.inr rfl, _, (rC rfl (ldVN rfl rfl (HS.hc c7 (i := 1) rfl) rfl) rN), (⟨(⟨z, ja, jb, jc, jq⟩ : InsT), asl⟩ : VInT), I, O, _, (fT (fT (fT (fT (fT (fT (dv) d1) hw) hx) hy) hz) kh), (HS.forget c7), rfl, (by first | omega | (dsimp only; omega)), (by first | omega | (dsimp only; omega)), (by first | omega | (dsimp only; omega)), (by first | omega | (dsimp only; omega)), (by first | omega | (dsimp only; omega)), ds, (by exact vin_mk ho.2 i3.1 i3.2 dd hja hjb hjc hjq), (by exact decide_eq_true hck)⟩
end Go.Proofs.YtlabedbmgmfbaaaDoor.m4
