/-
 The generator of virtual code, function by function, each by a symbolic run: what it makes is valid. No condition but that the table lies as laid.
-/
import Derived.Test.YtknafdcgpaejlaaDoorZSM3
import Derived.Test.YtknafdcgpaejlaaDoorZSRC
noncomputable section
namespace Go.Proofs.YtknafdcgpaejlaaDoor.m4
open Go.R
set_option maxRecDepth 10000
set_option linter.unusedVariables false
set_option linter.unusedSimpArgs false
open m1 m2 m3
theorem wr64 (n : Int) : in64 (IntKind.i64.wrap n) := w64_in n
theorem td64 (n : Int) {m : Int} (h : 0 < m) : in64 (Int.tdiv (IntKind.i64.wrap n) m) := vq (wr64 n) (by omega)
theorem opOK_t {p : Prop} [Decidable p] {n r : Int} (h : p) (hn : 0 ≤ n ∧ n < r) : iP (decide p) n r = true := by rw [decide_eq_true h]; exact bl.2 hn
theorem opOK_f {p : Prop} [Decidable p] {n r : Int} (h : ¬ p) (hn : n = 0) : iP (decide p) n r = true := by rw [decide_eq_false h, hn]; rfl
def opG (op : Int) : Prop := (op = 3 ∨ op = 6 ∨ (9 ≤ op ∧ op ≤ 13) ∨ (15 ≤ op ∧ op ≤ 35)) ∧ alV op = true
theorem ops_al {op : Int} (h : 15 ≤ op ∧ op ≤ 32) : opG op := ⟨by omega, decide_eq_true (by omega)⟩
theorem lit12 {k : Nat} (h : k < 12) : opG (([3, 6, 9, 10, 11, 12, 13, 33, 34, 35, 10, 9] : List Int).getD k 0) := by
 have : ∀ k : Fin 12, ((([3, 6, 9, 10, 11, 12, 13, 33, 34, 35, 10, 9] : List Int).getD k.val 0) = 3 ∨ (([3, 6, 9, 10, 11, 12, 13, 33, 34, 35, 10, 9] : List Int).getD k.val 0) = 6 ∨ (9 ≤ (([3, 6, 9, 10, 11, 12, 13, 33, 34, 35, 10, 9] : List Int).getD k.val 0) ∧ (([3, 6, 9, 10, 11, 12, 13, 33, 34, 35, 10, 9] : List Int).getD k.val 0) ≤ 13) ∨ (15 ≤ (([3, 6, 9, 10, 11, 12, 13, 33, 34, 35, 10, 9] : List Int).getD k.val 0) ∧ (([3, 6, 9, 10, 11, 12, 13, 33, 34, 35, 10, 9] : List Int).getD k.val 0) ≤ 35)) ∧ alV (([3, 6, 9, 10, 11, 12, 13, 33, 34, 35, 10, 9] : List Int).getD k.val 0) = true := by decide
 exact this ⟨k, h⟩
theorem immT {p op n : Int} (h : op = 13 ∨ op = 33 ∧ -4194304 ≤ n ∧ n < 4194304 ∨ op = 6 ∧ 0 ≤ n ∧ n < 8 ∨ (op = 34 ∨ op = 35) ∧ 0 ≤ n ∧ n < 4 ∨ (op ≠ 13 ∧ op ≠ 33 ∧ op ≠ 6 ∧ op ≠ 34 ∧ op ≠ 35 ∧ op ≠ 38) ∧ n = 0) : jB p op n = true := by
 unfold jB
 (repeat' split) <;> first | rfl | (apply decide_eq_true; omega) | (exfalso; omega)
theorem all_app {p : Int → Bool} {l : List Int} {x : Int} (h : l.all p = true) (hx : p x = true) : (l ++ [x]).all p = true := by rw [List.all_append, h]; simp [hx]
theorem vin_mk {params regs op a b c n : Int} {l : List Int} (A : alV op = true) (E : op = 6 ∨ l.length = 0) (I : l.length ≤ 6) (J : l.all (aG regs) = true) (N : iP (decide (aC op ≠ 1)) a regs = true) (O : iP (decide (aC op = 3 ∨ aC op = 4 ∨ aC op = 7)) b regs = true) (T : iP (decide (aC op = 4)) c regs = true) (U : jB params op n = true) : eP params regs ⟨⟨op, a, b, c, n⟩, l⟩ = true := by
 unfold eP
 simp only [A, decide_eq_true E, decide_eq_true I, J, N, O, T, U, Bool.and_self]
def ckI (v : VInT) : Bool := decide ((v.i.op = 6 → (v.i.n = 0 ∧ v.args.length = 2 ∨ v.i.n = 1 ∧ v.args.length = 1)) ∧ (v.i.op = 34 ∨ v.i.op = 35 → v.i.n < 2))
theorem eo (ex : FuncId) {b_d : Nat} (d : DigT) (m : Int) {F : Fz} {H : Heap} {R : List Fp} (hs : HS (.of H [b_d]) F H [[(b_d, .cells [(iI d.n)] none false)]] R) (E : in64 d.n) (hm : in64 m) (hT : TB 37 tabC F) (hm : 0 < m) : C Tryd.prog 1 (KT 60 ex 37 tabC) 46 [(.pointer (some ⟨b_d, 0, none⟩)), (iI m)] H fun v H' => ∃ (r : Int) (d' : DigT) (F' : Fz), Fz.le F F' ∧ HS (.of H [b_d]) F' H' [[(b_d, .cells [(iI d'.n)] none false)]] R ∧ v = .int .i64 r ∧ in64 d'.n ∧ (0 ≤ r ∧ r < m) := by
 refine aM Tryd.func46 rfl rfl ?_
 refine am 1 rfl ?_
 refine wR 2 [] 4 4 [] [(4, (iI 0))] trivial rfl fun _ => ?_
 have I := jt d.n m
 refine wR 2 [(3, .o (iI d.n)), (5, .o (iI (bT d.n m)))] 6 11 [5] [(5, (iI (bT d.n m)))] (vA (ql 3 0 (HS.hc hs (i := 0) rfl) rfl rfl) (vA (m1.ju ex d.n m H (by omega)) trivial)) rfl fun _ => ?_
 refine aa ?_
 refine wRo 11 0 [(4, .o (iI d.n)), (6, .w)] 12 22 [] [(20, (iI (Int.tdiv (IntKind.i64.wrap (d.n - (bT d.n m))) m))), (22, (.pointer (some ⟨b_d, 0, none⟩)))] (vA (ql 3 0 (HS.hc hs (i := 0) rfl) rfl rfl) (vA (vA (show m ≠ 0 from by omega) (vq (a := IntKind.i64.wrap (d.n - (bT d.n m))) (b := m) (by exact wr64 _) (by omega))) trivial)) rfl fun _ => ?_
 refine aT (aP (q := 0) hs rfl rfl rfl rfl rfl rfl rfl rfl rfl) rfl ?_
 rintro _ J _ ⟨(A : HS _ _ _ [[(b_d, .cells [(iI (Int.tdiv (IntKind.i64.wrap (d.n - (bT d.n m))) m))] none false)]] _), _⟩
 refine aj 2 rfl ?_
 refine wR 1 [] 4 4 [23] [(4, (iI (bT d.n m)))] trivial rfl fun _ => ?_
 refine az ⟨.inr rfl, _, rfl, bT d.n m, (⟨Int.tdiv (IntKind.i64.wrap (d.n - (bT d.n m))) m⟩ : DigT), _, fR, (HS.first A), rfl, (by exact td64 _ (by omega)), (by omega)⟩
theorem word_c (ex : FuncId) (n : Int) (raw : Int) {F : Fz} {H : Heap} {R : List Fp} (hs : HS (.of H []) F H [] R) (hn : in64 n) (hraw : in64 raw) (hT : TB 37 tabC F) : C Tryd.prog 1 (KT 60 ex 37 tabC) 47 [(iI n), (iI raw)] H fun v H' => ∃ (r : Int) (F' : Fz), Fz.le F F' ∧ HS (.of H []) F' H' [] R ∧ v = .int .i64 r ∧ (in64 r) := by
 refine aM Tryd.func47 rfl rfl ?_
 refine am 1 rfl ?_
 refine wR 2 [] 4 4 [] [(4, (iI 0))] trivial rfl fun _ => ?_
 refine aa ?_
 refine aK (bF (α := Int) (ps := [(0, (iI 0)), (1, (iI 1)), (2, (iI (-1))), (3, (iI 2)), (4, (iI (-9223372036854775808))), (5, (iI 9223372036854775807)), (6, (iI 4294967296)), (7, (iI (-2147483648))), (8, (iI 63)), (9, (iI 64))]) (cells := [(iI 0), (iI 1), (iI (-1)), (iI 2), (iI (-9223372036854775808)), (iI 9223372036854775807), (iI 4294967296), (iI (-2147483648)), (iI 63), (iI 64)]) ([0, 1, (-1), 2, (-9223372036854775808), 9223372036854775807, 4294967296, (-2147483648), 63, 64] : List Int) hs rfl rfl rfl (by kernel_rfl) ⟨[(iI 0)], _, rfl, ⟨rfl, by omega⟩, ⟨[(iI 1)], _, rfl, ⟨rfl, by omega⟩, ⟨[(iI (-1))], _, rfl, ⟨rfl, by omega⟩, ⟨[(iI 2)], _, rfl, ⟨rfl, by omega⟩, ⟨[(iI (-9223372036854775808))], _, rfl, ⟨rfl, by omega⟩, ⟨[(iI 9223372036854775807)], _, rfl, ⟨rfl, by omega⟩, ⟨[(iI 4294967296)], _, rfl, ⟨rfl, by omega⟩, ⟨[(iI (-2147483648))], _, rfl, ⟨rfl, by omega⟩, ⟨[(iI 63)], _, rfl, ⟨rfl, by omega⟩, ⟨[(iI 64)], _, rfl, ⟨rfl, by omega⟩, rfl⟩⟩⟩⟩⟩⟩⟩⟩⟩⟩ rfl) rfl rfl ?_
 rintro _ U p2 ⟨V, k2, rfl, N, (A : HS _ _ _ [p2] _), _⟩
 refine wa (.slice V ([0, 1, (-1), 2, (-9223372036854775808), 9223372036854775807, 4294967296, (-2147483648), 63, 64] : List Int).length k2) rfl rfl rfl ?_
 refine aj 2 rfl ?_
 have an := jt n (24 : Int)
 refine wR 4 [(1, .o (iI (bT n (24 : Int))))] 8 9 [6] [(6, (iI (bT n (24 : Int))))] (vA (m1.ju ex n (24) U (by omega)) trivial) rfl fun _ => ?_
 refine wR 1 [] 10 12 [] [(10, (.bool (decide (bT n (24 : Int) < 10))))] trivial rfl fun _ => ?_
 refine au 1 1 (v := (decide (bT n (24 : Int) < 10))) rfl rfl rfl rfl (fun J => ?_) (fun J => ?_)
 ·
  have T := J
  try simp only [BS] at T
  obtain ⟨al, O⟩ := Sv.view (OS.sv N A (i := 0) rfl)
  have g9 := fI (O (bT n (24 : Int)).toNat)
  refine wR 1 [(3, .o (iI (([0, 1, (-1), 2, (-9223372036854775808), 9223372036854775807, 4294967296, (-2147483648), 63, 64] : List Int).getD (bT n (24 : Int)).toNat 0)))] 13 16 [4] [(4, (iI (([0, 1, (-1), 2, (-9223372036854775808), 9223372036854775807, 4294967296, (-2147483648), 63, 64] : List Int).getD (bT n (24 : Int)).toNat 0)))] (vA (Sv.ix (j := bT n (24 : Int)) (OS.sv N A (i := 0) rfl) (by omega) (show bT n (24 : Int) < (10 : Int) from by omega)) (vA (ql 2 0 (vI (O (bT n (24 : Int)).toNat) (show (bT n (24 : Int)).toNat < 10 from by omega)) rfl rfl) trivial)) rfl fun _ => ?_
  refine az ⟨.inr rfl, _, rfl, (([0, 1, (-1), 2, (-9223372036854775808), 9223372036854775807, 4294967296, (-2147483648), 63, 64] : List Int).getD (bT n (24 : Int)).toNat 0), _, fR, (HS.forget A), rfl, (by omega)⟩
 have T := J
 try simp only [BS] at T
 refine wR 1 [] 17 19 [] [(17, (.bool (decide (bT n (24 : Int) < 22))))] trivial rfl fun _ => ?_
 refine au 1 3 (v := (decide (bT n (24 : Int) < 22))) rfl rfl rfl rfl (fun E => ?_) (fun E => ?_)
 ·
  have I := E
  try simp only [BS] at I
  have ag : in64 n → in64 (Int.tdiv n 24) := fun h => vq h (by decide)
  have Z := jt (Int.tdiv n 24) (17 : Int)
  refine wR 1 [(2, .o (iI (bT (Int.tdiv n 24) (17 : Int))))] 20 23 [4] [(4, (iI ((bT (Int.tdiv n 24) (17 : Int)) - 6)))] (vA (vA (show (24 : Int) ≠ 0 from by decide) (vq (a := n) (b := 24) (by omega) (by decide))) (vA (m1.ju ex (Int.tdiv n 24) (17) U (by omega)) (vA (vi (n := (bT (Int.tdiv n 24) (17 : Int)) - 6) (by omega)) trivial))) rfl fun _ => ?_
  refine az ⟨.inr rfl, _, rfl, (bT (Int.tdiv n 24) (17 : Int)) - 6, _, fR, (HS.forget A), rfl, (by omega)⟩
 have I := E
 try simp only [BS] at I
 refine wR 1 [] 4 4 [24] [(4, (iI raw))] trivial rfl fun _ => ?_
 refine az ⟨.inr rfl, _, rfl, raw, _, fR, (HS.forget A), rfl, (by omega)⟩
set_option maxHeartbeats 1000000 in
theorem vi_c (ex : FuncId) (n : Int) {cc : Option Addr} {e0 : Nat} (c : VFnT) {F : Fz} {H : Heap} {R : List Fp} (hs : HS (.of H []) F H [] R) (hn : in64 n) (kR : in64 c.params) (kS : in64 c.regs) (hT : TB 37 tabC F) (hr : 1 ≤ c.regs ∧ c.regs ≤ 3000) : C Tryd.prog 1 (KT 60 ex 37 tabC) 31 [(iI n), (.agg ⟨[(iI c.params), (iI c.regs), (.slice cc c.blocks.length e0)]⟩)] H fun v H' => ∃ (x : VInT) (e6 : Option Addr) (hK : Nat) (F' : Fz), Fz.le F F' ∧ HS (.of H []) F' H' [] R ∧ v = .agg ⟨[.int .i64 x.i.op, .int .i64 x.i.a, .int .i64 x.i.b, .int .i64 x.i.c, .int .i64 x.i.n, .slice e6 x.args.length hK]⟩ ∧ in64 x.i.op ∧ in64 x.i.a ∧ in64 x.i.b ∧ in64 x.i.c ∧ in64 x.i.n ∧ SR F' (.slice e6 x.args.length hK) x.args ∧ (eP c.params c.regs x = true) ∧ (ckI x = true) := by
 refine aM Tryd.func31 rfl rfl ?_
 refine am 1 rfl ?_
 refine aa ?_
 refine aK (cF hs rfl rfl) rfl rfl ?_
 rintro _ H2 _ ⟨b1, rfl, (hw : HS _ _ _ [[(b1, .cells [(iI c.params), (iI c.regs), (.slice cc c.blocks.length e0)] none false)]] _), _⟩
 refine aK (bx hw rfl) rfl rfl ?_
 rintro _ H4 _ ⟨b3, rfl, (kH : HS _ _ _ [_, [(b3, .cells [(iI 0), (iI 0), (iI 0), (iI 0), (iI 0), (.slice none 0 0)] none false)]] _), _⟩
 refine aj 2 rfl ?_
 refine aa ?_
 refine wRo 2 0 [] 14 15 [] [(15, (.agg ⟨[(iI n)]⟩))] trivial rfl fun _ => ?_
 refine aK (cF kH rfl rfl) rfl rfl ?_
 rintro _ H7 _ ⟨I, rfl, (kI : HS _ _ _ [_, _, [(I, .cells [(iI n)] none false)]] _), _⟩
 refine wa (.pointer (some ⟨I, 0, none⟩)) rfl rfl rfl ?_
 refine aj 2 rfl ?_
 refine aa ?_
 refine aK (bF (α := Int) (ps := [(0, (iI 3)), (1, (iI 6)), (2, (iI 9)), (3, (iI 10)), (4, (iI 11)), (5, (iI 12)), (6, (iI 13)), (7, (iI 33)), (8, (iI 34)), (9, (iI 35)), (10, (iI 10)), (11, (iI 9))]) (cells := [(iI 3), (iI 6), (iI 9), (iI 10), (iI 11), (iI 12), (iI 13), (iI 33), (iI 34), (iI 35), (iI 10), (iI 9)]) ([3, 6, 9, 10, 11, 12, 13, 33, 34, 35, 10, 9] : List Int) kI rfl rfl rfl (by kernel_rfl) ⟨[(iI 3)], _, rfl, ⟨rfl, by omega⟩, ⟨[(iI 6)], _, rfl, ⟨rfl, by omega⟩, ⟨[(iI 9)], _, rfl, ⟨rfl, by omega⟩, ⟨[(iI 10)], _, rfl, ⟨rfl, by omega⟩, ⟨[(iI 11)], _, rfl, ⟨rfl, by omega⟩, ⟨[(iI 12)], _, rfl, ⟨rfl, by omega⟩, ⟨[(iI 13)], _, rfl, ⟨rfl, by omega⟩, ⟨[(iI 33)], _, rfl, ⟨rfl, by omega⟩, ⟨[(iI 34)], _, rfl, ⟨rfl, by omega⟩, ⟨[(iI 35)], _, rfl, ⟨rfl, by omega⟩, ⟨[(iI 10)], _, rfl, ⟨rfl, by omega⟩, ⟨[(iI 9)], _, rfl, ⟨rfl, by omega⟩, rfl⟩⟩⟩⟩⟩⟩⟩⟩⟩⟩⟩⟩ rfl) rfl rfl ?_
 rintro _ H9 p8 ⟨a8, k8, rfl, e1, (h5 : HS _ _ _ [_, _, _, p8] _), _⟩
 refine wa (.slice a8 ([3, 6, 9, 10, 11, 12, 13, 33, 34, 35, 10, 9] : List Int).length k8) rfl rfl rfl ?_
 refine aj 2 rfl ?_
 refine aa ?_
 refine wm (.pointer (some ⟨I, 0, none⟩)) rfl rfl rfl ?_
 refine aE (aB rfl rfl rfl) rfl rfl (eo ex (⟨n⟩ : DigT) (18) (HS.callOwn h5 (i := 2) rfl) (by omega) (by omega) hT (by omega)) ?_
 rintro _ lf ⟨hR, go, k3, c9, a7, rfl, kw, lY⟩
 replace a7 : HS _ _ _ [_, _, [(I, .cells [(iI go.n)] none false)], _] _ := HS.backOwn h5 (i := 2) rfl rfl (fun _ hb => hb) a7
 replace hT := hT.mono c9
 refine wRo 2 2 [] 20 20 [7] [(7, (iI (15 + hR)))] (vA (vi (n := 15 + hR) (by omega)) trivial) rfl fun _ => ?_
 refine aj 3 rfl ?_
 refine aa ?_
 refine wm (.pointer (some ⟨I, 0, none⟩)) rfl rfl rfl ?_
 refine aE (aB rfl rfl rfl) rfl rfl (eo ex (⟨go.n⟩ : DigT) (24) (HS.callOwn a7 (i := 2) rfl) (by omega) (by omega) hT (by omega)) ?_
 rintro _ h3 ⟨an, c8, k4, dd, a1, rfl, kx, lZ⟩
 replace a1 : HS _ _ _ [_, _, [(I, .cells [(iI c8.n)] none false)], _] _ := HS.backOwn a7 (i := 2) rfl rfl (fun _ hb => hb) a1
 replace hT := hT.mono dd
 replace e1 := (e1.mono c9).mono dd
 refine wa (iI an) rfl rfl rfl ?_
 refine aj 2 rfl ?_
 refine wR 1 [] 23 26 [] [(26, (.bool (decide (an < 12))))] trivial rfl fun _ => ?_
 refine cG (fun f H' => ∃ (A : Int), H' = h3 ∧ aH f [(0, (iI n)), (3, (.pointer (some ⟨b1, 0, none⟩))), (4, (.pointer (some ⟨b3, 0, none⟩))), (5, (.pointer (some ⟨I, 0, none⟩))), (7, (iI A))] ∧ (opG A)) (fun hE => ?_) ?_
 ·
  refine au 0 0 (v := (decide (an < 12))) rfl rfl rfl rfl (fun ch => ?_) (fun ch => ?_)
  ·
   have fi := ch
   try simp only [BS] at fi
   obtain ⟨kQ, hD⟩ := Sv.view (OS.sv e1 a1 (i := 3) rfl)
   have lX := fI (hD an.toNat)
   refine wR 0 [(3, .o (iI (([3, 6, 9, 10, 11, 12, 13, 33, 34, 35, 10, 9] : List Int).getD an.toNat 0)))] 27 30 [7] [(7, (iI (([3, 6, 9, 10, 11, 12, 13, 33, 34, 35, 10, 9] : List Int).getD an.toNat 0)))] (vA (Sv.ix (j := an) (OS.sv e1 a1 (i := 3) rfl) (by omega) (show an < (12 : Int) from by omega)) (vA (ql 3 0 (vI (hD an.toNat) (show an.toNat < 12 from by omega)) rfl rfl) trivial)) rfl fun _ => ?_
   exact hE _ _ ⟨(([3, 6, 9, 10, 11, 12, 13, 33, 34, 35, 10, 9] : List Int).getD an.toNat 0), rfl, ⟨rfl, rfl, rfl, rfl, rfl, trivial⟩, (by exact lit12 (by omega))⟩
  have fi := ch
  try simp only [BS] at fi
  exact hE _ _ ⟨15 + hR, rfl, ⟨rfl, rfl, rfl, rfl, rfl, trivial⟩, (by exact ops_al (by omega))⟩
 skip
 rintro lR h3 ⟨A, rfl, hl, ho⟩
 refine aq _ hl (fun _ => ?_)
 clear hl
 have hf := aF ho.2
 have hvf : aC A = (aN A).form := if_neg (by have := ho.1; omega)
 have me := ho.1
 refine am 2 rfl ?_
 refine aa ?_
 refine wRo 3 0 [] 31 33 [] [(33, (.agg ⟨[(iI A), (iI 0), (iI 0), (iI 0), (iI 0), (.slice none 0 0)]⟩))] trivial rfl fun _ => ?_
 refine aK (bx a1 rfl) rfl rfl ?_
 rintro _ lh _ ⟨E, rfl, (j1 : HS _ _ _ [_, _, _, _, [(E, .cells [(iI 0), (iI 0), (iI 0), (iI 0), (iI 0), (.slice none 0 0)] none false)]] _), _⟩
 refine aT (aP (q := 4) j1 rfl rfl rfl rfl rfl rfl rfl rfl rfl) rfl ?_
 rintro _ lj _ ⟨(hz : HS _ _ _ [_, _, _, _, [(E, .cells [(iI A), (iI 0), (iI 0), (iI 0), (iI 0), (.slice none 0 0)] none false)]] _), _⟩
 refine aj 2 rfl ?_
 refine aa ?_
 refine wm (iI A) rfl rfl rfl ?_
 refine aE (aB rfl rfl rfl) rfl rfl (m1.rInfo_c ex A (HS.call hz) (by omega) hT) ?_
 rintro _ ll ⟨mp, mn, ki, g9, dn, rfl, kg, kh, rfl, rfl⟩
 replace dn : HS _ _ _ [_, _, _, _, _] _ := HS.back hz rfl dn
 replace hT := hT.mono g9
 refine wRo 3 2 [] 37 38 [34] [(37, (.agg ⟨[(.string ⟨⟨(aN A).name.b⟩⟩), (iI (aN A).form), (.bool (aN A).ra), (.bool (aN A).wa), (.bool (aN A).rb), (.bool (aN A).mt), (iI (aN A).words)]⟩)), (38, (.bool (infO A)))] trivial rfl fun _ => ?_
 refine aK (bx dn rfl) rfl rfl ?_
 rintro _ lm _ ⟨fd, rfl, (j2 : HS _ _ _ [_, _, _, _, _, [(fd, .cells [(.string ⟨⟨[]⟩⟩), (iI 0), (.bool false), (.bool false), (.bool false), (.bool false), (iI 0)] none false)]] _), _⟩
 refine aT (aP (q := 5) j2 rfl rfl rfl rfl rfl rfl rfl rfl rfl) rfl ?_
 rintro _ ln _ ⟨(a2 : HS _ _ _ [_, _, _, _, _, [(fd, .cells [(.string ⟨⟨(aN A).name.b⟩⟩), (iI (aN A).form), (.bool (aN A).ra), (.bool (aN A).wa), (.bool (aN A).rb), (.bool (aN A).mt), (iI (aN A).words)] none false)]] _), _⟩
 refine wa (.bool (infO A)) rfl rfl rfl ?_
 refine aj 2 rfl ?_
 refine wR 3 [(1, .o (iI (aN A).form))] 39 40 [12] [(12, (iI (aN A).form))] (vA (ql 3 1 (HS.hc a2 (i := 5) rfl) rfl rfl) trivial) rfl fun _ => ?_
 refine wR 1 [] 41 42 [] [(42, (.bool ((aN A).form != 1)))] trivial rfl fun _ => ?_
 let b5 : Fp := [(b1, .cells [(iI c.params), (iI c.regs), (.slice cc c.blocks.length e0)] none false)]
 let b7 : Fp := [(b3, .cells [(iI 0), (iI 0), (iI 0), (iI 0), (iI 0), (.slice none 0 0)] none false)]
 let b9 : Fp := [(fd, .cells [(.string ⟨⟨(aN A).name.b⟩⟩), (iI (aN A).form), (.bool (aN A).ra), (.bool (aN A).wa), (.bool (aN A).rb), (.bool (aN A).mt), (iI (aN A).words)] none false)]
 refine cG (fun f H' => ∃ (ja : Int) (b0 : DigT) (F' : Fz), Fz.le ki F' ∧ HS (Base.of H []) F' H' [b5, b7, [(I, .cells [(iI b0.n)] none false)], p8, [(E, .cells [(iI A), (iI ja), (iI 0), (iI 0), (iI 0), (.slice none 0 0)] none false)], b9] R ∧ aH f [(0, (iI n)), (3, (.pointer (some ⟨b1, 0, none⟩))), (4, (.pointer (some ⟨b3, 0, none⟩))), (5, (.pointer (some ⟨I, 0, none⟩))), (7, (iI A)), (9, (.pointer (some ⟨E, 0, none⟩))), (12, (iI (aN A).form))] ∧ (iP (decide (aC A ≠ 1)) ja c.regs = true) ∧ (in64 ja) ∧ (in64 b0.n)) (fun hF => ?_) ?_
 ·
  refine au 0 0 (v := ((aN A).form != 1)) rfl rfl rfl rfl (fun ci => ?_) (fun ci => ?_)
  ·
   have f0 := ci
   try simp only [BS] at f0
   refine aa ?_
   refine wRo 3 0 [(2, .o (iI c.regs))] 43 45 [] [(43, (.pointer (some ⟨I, 0, none⟩))), (45, (iI c.regs))] (vA (ql 3 1 (HS.hc a2 (i := 0) rfl) rfl rfl) trivial) rfl fun _ => ?_
   refine aE (aB rfl rfl rfl) rfl rfl (eo ex (⟨c8.n⟩ : DigT) c.regs (HS.callOwn a2 (i := 2) rfl) (by omega) (by omega) hT (by omega)) ?_
   rintro _ lq ⟨h6, g0, k5, ik, ds, rfl, ky, l0⟩
   replace ds : HS _ _ _ [_, _, [(I, .cells [(iI g0.n)] none false)], _, _, _] _ := HS.backOwn a2 (i := 2) rfl rfl (fun _ hb => hb) ds
   refine wRo 2 4 [] 47 48 [] [(48, (.pointer (some ⟨E, 1, none⟩)))] trivial rfl fun _ => ?_
   refine aT (aP (q := 4) ds rfl rfl rfl rfl rfl rfl rfl rfl rfl) rfl ?_
   rintro _ lr _ ⟨(j3 : HS _ _ _ [_, _, _, _, [(E, .cells [(iI A), (iI h6), (iI 0), (iI 0), (iI 0), (.slice none 0 0)] none false)], _] _), _⟩
   refine aj 0 rfl ?_
   exact hF _ _ ⟨h6, (⟨g0.n⟩ : DigT), _, (ik), j3, ⟨rfl, rfl, rfl, rfl, rfl, rfl, rfl, trivial⟩, (by exact opOK_t (by omega) (by omega)), (by omega), (by assumption)⟩
  have f0 := ci
  try simp only [BS] at f0
  exact hF _ _ ⟨0, (⟨c8.n⟩ : DigT), _, fR, a2, ⟨rfl, rfl, rfl, rfl, rfl, rfl, rfl, trivial⟩, (by exact opOK_f (by omega) rfl), (by omega), (by assumption)⟩
 skip
 rintro lS lp ⟨ja, b0, kj, ha, a9, hm, hja, rja, kX⟩
 refine aq _ hm (fun _ => ?_)
 clear hm
 replace hT := hT.mono ha
 refine am 3 rfl ?_
 refine wR 1 [] 49 58 [] [(58, (.bool ((((aN A).form == 3) || ((aN A).form == 4)) || ((aN A).form == 7))))] trivial rfl fun _ => ?_
 refine cG (fun f H' => ∃ (jb : Int) (b2 : DigT) (F' : Fz), Fz.le kj F' ∧ HS (Base.of H []) F' H' [b5, b7, [(I, .cells [(iI b2.n)] none false)], p8, [(E, .cells [(iI A), (iI ja), (iI jb), (iI 0), (iI 0), (.slice none 0 0)] none false)], b9] R ∧ aH f [(0, (iI n)), (3, (.pointer (some ⟨b1, 0, none⟩))), (4, (.pointer (some ⟨b3, 0, none⟩))), (5, (.pointer (some ⟨I, 0, none⟩))), (7, (iI A)), (9, (.pointer (some ⟨E, 0, none⟩))), (12, (iI (aN A).form))] ∧ (iP (decide (aC A = 3 ∨ aC A = 4 ∨ aC A = 7)) jb c.regs = true) ∧ (in64 jb) ∧ (in64 b2.n)) (fun hG => ?_) ?_
 ·
  refine au 0 0 (v := ((((aN A).form == 3) || ((aN A).form == 4)) || ((aN A).form == 7))) rfl rfl rfl rfl (fun co => ?_) (fun co => ?_)
  ·
   have f1 := co
   try simp only [BS] at f1
   refine aa ?_
   refine wRo 3 0 [(2, .o (iI c.regs))] 59 61 [] [(59, (.pointer (some ⟨I, 0, none⟩))), (61, (iI c.regs))] (vA (ql 3 1 (HS.hc a9 (i := 0) rfl) rfl rfl) trivial) rfl fun _ => ?_
   refine aE (aB rfl rfl rfl) rfl rfl (eo ex (⟨b0.n⟩ : DigT) c.regs (HS.callOwn a9 (i := 2) rfl) (by omega) (by omega) hT (by omega)) ?_
   rintro _ lv ⟨h7, g1, k6, il, dt, rfl, kz, l1⟩
   replace dt : HS _ _ _ [_, _, [(I, .cells [(iI g1.n)] none false)], _, [(E, .cells [(iI A), (iI ja), (iI 0), (iI 0), (iI 0), (.slice none 0 0)] none false)], _] _ := HS.backOwn a9 (i := 2) rfl rfl (fun _ hb => hb) dt
   refine wRo 2 4 [] 63 64 [] [(64, (.pointer (some ⟨E, 2, none⟩)))] trivial rfl fun _ => ?_
   refine aT (aP (q := 4) dt rfl rfl rfl rfl rfl rfl rfl rfl rfl) rfl ?_
   rintro _ lw _ ⟨(j4 : HS _ _ _ [_, _, _, _, [(E, .cells [(iI A), (iI ja), (iI h7), (iI 0), (iI 0), (.slice none 0 0)] none false)], _] _), _⟩
   refine aj 0 rfl ?_
   exact hG _ _ ⟨h7, (⟨g1.n⟩ : DigT), _, (il), j4, ⟨rfl, rfl, rfl, rfl, rfl, rfl, rfl, trivial⟩, (by exact opOK_t (by omega) (by omega)), (by omega), (by assumption)⟩
  have f1 := co
  try simp only [BS] at f1
  exact hG _ _ ⟨0, (⟨b0.n⟩ : DigT), _, fR, a9, ⟨rfl, rfl, rfl, rfl, rfl, rfl, rfl, trivial⟩, (by exact opOK_f (by omega) rfl), (by omega), (by assumption)⟩
 skip
 rintro lT lu ⟨jb, b2, kl, he, bb, hp, hjb, rjb, kY⟩
 refine aq _ hp (fun _ => ?_)
 clear hp
 replace hT := hT.mono he
 refine am 3 rfl ?_
 refine wR 1 [] 65 66 [] [(66, (.bool ((aN A).form == 4)))] trivial rfl fun _ => ?_
 refine cG (fun f H' => ∃ (jc : Int) (ax : DigT) (F' : Fz), Fz.le kl F' ∧ HS (Base.of H []) F' H' [b5, b7, [(I, .cells [(iI ax.n)] none false)], p8, [(E, .cells [(iI A), (iI ja), (iI jb), (iI jc), (iI 0), (.slice none 0 0)] none false)], b9] R ∧ aH f [(0, (iI n)), (3, (.pointer (some ⟨b1, 0, none⟩))), (4, (.pointer (some ⟨b3, 0, none⟩))), (5, (.pointer (some ⟨I, 0, none⟩))), (7, (iI A)), (9, (.pointer (some ⟨E, 0, none⟩)))] ∧ (iP (decide (aC A = 4)) jc c.regs = true) ∧ (in64 jc) ∧ (in64 ax.n)) (fun hH => ?_) ?_
 ·
  refine au 0 0 (v := ((aN A).form == 4)) rfl rfl rfl rfl (fun c0 => ?_) (fun c0 => ?_)
  ·
   have f2 := c0
   try simp only [BS] at f2
   refine aa ?_
   refine wRo 3 0 [(2, .o (iI c.regs))] 67 69 [] [(67, (.pointer (some ⟨I, 0, none⟩))), (69, (iI c.regs))] (vA (ql 3 1 (HS.hc bb (i := 0) rfl) rfl rfl) trivial) rfl fun _ => ?_
   refine aE (aB rfl rfl rfl) rfl rfl (eo ex (⟨b2.n⟩ : DigT) c.regs (HS.callOwn bb (i := 2) rfl) (by omega) (by omega) hT (by omega)) ?_
   rintro _ lA ⟨h8, g2, k7, it, dv, rfl, kA, l2⟩
   replace dv : HS _ _ _ [_, _, [(I, .cells [(iI g2.n)] none false)], _, [(E, .cells [(iI A), (iI ja), (iI jb), (iI 0), (iI 0), (.slice none 0 0)] none false)], _] _ := HS.backOwn bb (i := 2) rfl rfl (fun _ hb => hb) dv
   refine wRo 2 4 [] 71 72 [] [(72, (.pointer (some ⟨E, 3, none⟩)))] trivial rfl fun _ => ?_
   refine aT (aP (q := 4) dv rfl rfl rfl rfl rfl rfl rfl rfl rfl) rfl ?_
   rintro _ lB _ ⟨(j5 : HS _ _ _ [_, _, _, _, [(E, .cells [(iI A), (iI ja), (iI jb), (iI h8), (iI 0), (.slice none 0 0)] none false)], _] _), _⟩
   refine aj 0 rfl ?_
   exact hH _ _ ⟨h8, (⟨g2.n⟩ : DigT), _, (it), j5, ⟨rfl, rfl, rfl, rfl, rfl, rfl, trivial⟩, (by exact opOK_t (by omega) (by omega)), (by omega), (by assumption)⟩
  have f2 := c0
  try simp only [BS] at f2
  exact hH _ _ ⟨0, (⟨b2.n⟩ : DigT), _, fR, bb, ⟨rfl, rfl, rfl, rfl, rfl, rfl, trivial⟩, (by exact opOK_f (by omega) rfl), (by omega), (by assumption)⟩
 skip
 rintro lU lz ⟨jc, ax, h1, hg, V, hq, hjc, rjc, kZ⟩
 refine aq _ hq (fun _ => ?_)
 clear hq
 replace hT := hT.mono hg
 refine am 3 rfl ?_
 refine wR 3 [] 73 73 [] [(73, (iI A))] trivial rfl fun _ => ?_
 refine wR 1 [] 74 75 [] [(74, (.bool (A == 13)))] trivial rfl fun _ => ?_
 refine cG (fun f H' => ∃ (jq : Int) (asl : List Int) (e2 : DigT) (J : Option Addr) (O : Nat) (F' : Fz), Fz.le h1 F' ∧ HS (Base.of H []) F' H' [b5, b7, [(I, .cells [(iI e2.n)] none false)], p8, [(E, .cells [(iI A), (iI ja), (iI jb), (iI jc), (iI jq), (.slice J asl.length O)] none false)], b9] R ∧ SR F' (.slice J asl.length O) asl ∧ aH f [(4, (.pointer (some ⟨b3, 0, none⟩))), (9, (.pointer (some ⟨E, 0, none⟩)))] ∧ (jB c.params A jq = true) ∧ (in64 jq) ∧ ((A = 6 ∨ asl.length = 0) ∧ asl.length ≤ 6) ∧ (asl.all (aG c.regs) = true) ∧ ((A = 6 → (jq = 0 ∧ asl.length = 2 ∨ jq = 1 ∧ asl.length = 1)) ∧ (A = 34 ∨ A = 35 → jq < 2)) ∧ (in64 e2.n)) (fun a0 => ?_) ?_
 ·
  refine au 0 1 (v := (A == 13)) rfl rfl rfl rfl (fun c3 => ?_) (fun c3 => ?_)
  ·
   have f3 := c3
   try simp only [BS] at f3
   refine aa ?_
   refine wm (.pointer (some ⟨I, 0, none⟩)) rfl rfl rfl ?_
   refine aE (aB rfl rfl rfl) rfl rfl (eo ex (⟨ax.n⟩ : DigT) (400) (HS.callOwn V (i := 2) rfl) (by omega) (by omega) hT (by omega)) ?_
   rintro _ lD ⟨kK, g3, la, hh, bk, rfl, kB, l3⟩
   replace bk : HS _ _ _ [_, _, [(I, .cells [(iI g3.n)] none false)], _, [(E, .cells [(iI A), (iI ja), (iI jb), (iI jc), (iI 0), (.slice none 0 0)] none false)], _] _ := HS.backOwn V (i := 2) rfl rfl (fun _ hb => hb) bk
   replace hT := hT.mono hh
   refine wm (iI n) rfl rfl rfl ?_
   refine aE (aB rfl rfl rfl) rfl rfl (word_c ex kK n (HS.call bk) (by omega) (by omega) hT) ?_
   rintro _ lE ⟨h9, km, iz, d1, rfl, l4⟩
   replace d1 : HS _ _ _ [_, _, _, _, _, _] _ := HS.back bk rfl d1
   refine wRo 2 4 [] 80 81 [] [(81, (.pointer (some ⟨E, 4, none⟩)))] trivial rfl fun _ => ?_
   refine aT (aP (q := 4) d1 rfl rfl rfl rfl rfl rfl rfl rfl rfl) rfl ?_
   rintro _ lF _ ⟨(j6 : HS _ _ _ [_, _, _, _, [(E, .cells [(iI A), (iI ja), (iI jb), (iI jc), (iI h9), (.slice none 0 0)] none false)], _] _), _⟩
   refine aj 0 rfl ?_
   exact a0 _ _ ⟨h9, ([] : List Int), (⟨g3.n⟩ : DigT), none, 0, _, (fT (hh) iz), j6, (SR.nil : SR km (.slice none 0 0) ([] : List Int)), ⟨rfl, rfl, trivial⟩, (by exact immT (by omega)), (by assumption), (by (simp <;> omega)), (by rfl), (by omega), (by assumption)⟩
  have f3 := c3
  try simp only [BS] at f3
  refine wR 1 [] 82 83 [] [(82, (.bool (A == 33)))] trivial rfl fun _ => ?_
  refine au 0 2 (v := (A == 33)) rfl rfl rfl rfl (fun c4 => ?_) (fun c4 => ?_)
  ·
   have f4 := c4
   try simp only [BS] at f4
   refine aa ?_
   refine wm (.pointer (some ⟨I, 0, none⟩)) rfl rfl rfl ?_
   refine aE (aB rfl rfl rfl) rfl rfl (eo ex (⟨ax.n⟩ : DigT) (9) (HS.callOwn V (i := 2) rfl) (by omega) (by omega) hT (by omega)) ?_
   rintro _ lG ⟨e3, g4, kn, i1, d2, rfl, kC, l5⟩
   replace d2 : HS _ _ _ [_, _, [(I, .cells [(iI g4.n)] none false)], _, [(E, .cells [(iI A), (iI ja), (iI jb), (iI jc), (iI 0), (.slice none 0 0)] none false)], _] _ := HS.backOwn V (i := 2) rfl rfl (fun _ hb => hb) d2
   refine wRo 3 2 [] 86 88 [] [(86, (iI (e3 - 4))), (88, (.pointer (some ⟨E, 4, none⟩)))] (vA (vi (n := e3 - 4) (by omega)) trivial) rfl fun _ => ?_
   refine aT (aP (q := 4) d2 rfl rfl rfl rfl rfl rfl rfl rfl rfl) rfl ?_
   rintro _ lH _ ⟨(j7 : HS _ _ _ [_, _, _, _, [(E, .cells [(iI A), (iI ja), (iI jb), (iI jc), (iI (e3 - 4)), (.slice none 0 0)] none false)], _] _), _⟩
   refine aj 0 rfl ?_
   exact a0 _ _ ⟨e3 - 4, ([] : List Int), (⟨g4.n⟩ : DigT), none, 0, _, (i1), j7, (SR.nil : SR kn (.slice none 0 0) ([] : List Int)), ⟨rfl, rfl, trivial⟩, (by exact immT (by omega)), (by omega), (by (simp <;> omega)), (by rfl), (by omega), (by assumption)⟩
  have f4 := c4
  try simp only [BS] at f4
  refine wR 1 [] 89 90 [] [(89, (.bool (A == 34)))] trivial rfl fun _ => ?_
  refine au 1 0 (v := (A == 34)) rfl rfl rfl rfl (fun a6 => ?_) (fun a6 => ?_)
  ·
   have f5 := a6
   try simp only [BS] at f5
   refine bC 0 (v := (A == 34)) rfl a6 rfl rfl ?_
   refine aa ?_
   refine wm (.pointer (some ⟨I, 0, none⟩)) rfl rfl rfl ?_
   refine aE (aB rfl rfl rfl) rfl rfl (eo ex (⟨ax.n⟩ : DigT) (2) (HS.callOwn V (i := 2) rfl) (by omega) (by omega) hT (by omega)) ?_
   rintro _ lI ⟨ib, g5, ko, i2, ea, rfl, kD, l6⟩
   replace ea : HS _ _ _ [_, _, [(I, .cells [(iI g5.n)] none false)], _, [(E, .cells [(iI A), (iI ja), (iI jb), (iI jc), (iI 0), (.slice none 0 0)] none false)], _] _ := HS.backOwn V (i := 2) rfl rfl (fun _ hb => hb) ea
   refine wRo 2 2 [] 94 95 [] [(95, (.pointer (some ⟨E, 4, none⟩)))] trivial rfl fun _ => ?_
   refine aT (aP (q := 4) ea rfl rfl rfl rfl rfl rfl rfl rfl rfl) rfl ?_
   rintro _ lJ _ ⟨(j8 : HS _ _ _ [_, _, _, _, [(E, .cells [(iI A), (iI ja), (iI jb), (iI jc), (iI ib), (.slice none 0 0)] none false)], _] _), _⟩
   refine aj 0 rfl ?_
   exact a0 _ _ ⟨ib, ([] : List Int), (⟨g5.n⟩ : DigT), none, 0, _, (i2), j8, (SR.nil : SR ko (.slice none 0 0) ([] : List Int)), ⟨rfl, rfl, trivial⟩, (by exact immT (by omega)), (by omega), (by (simp <;> omega)), (by rfl), (by omega), (by assumption)⟩
  have f5 := a6
  try simp only [BS] at f5
  refine wR 1 [] 89 91 [] [(89, (.bool (A == 35)))] trivial rfl fun _ => ?_
  refine au 0 1 (v := (A == 35)) rfl rfl rfl rfl (fun c5 => ?_) (fun c5 => ?_)
  ·
   have f6 := c5
   try simp only [BS] at f6
   refine aa ?_
   refine wm (.pointer (some ⟨I, 0, none⟩)) rfl rfl rfl ?_
   refine aE (aB rfl rfl rfl) rfl rfl (eo ex (⟨ax.n⟩ : DigT) (2) (HS.callOwn V (i := 2) rfl) (by omega) (by omega) hT (by omega)) ?_
   rintro _ lK ⟨ih, g6, kp, i3, em, rfl, kE, l7⟩
   replace em : HS _ _ _ [_, _, [(I, .cells [(iI g6.n)] none false)], _, [(E, .cells [(iI A), (iI ja), (iI jb), (iI jc), (iI 0), (.slice none 0 0)] none false)], _] _ := HS.backOwn V (i := 2) rfl rfl (fun _ hb => hb) em
   refine wRo 2 2 [] 94 95 [] [(95, (.pointer (some ⟨E, 4, none⟩)))] trivial rfl fun _ => ?_
   refine aT (aP (q := 4) em rfl rfl rfl rfl rfl rfl rfl rfl rfl) rfl ?_
   rintro _ lL _ ⟨(j9 : HS _ _ _ [_, _, _, _, [(E, .cells [(iI A), (iI ja), (iI jb), (iI jc), (iI ih), (.slice none 0 0)] none false)], _] _), _⟩
   refine aj 0 rfl ?_
   exact a0 _ _ ⟨ih, ([] : List Int), (⟨g6.n⟩ : DigT), none, 0, _, (i3), j9, (SR.nil : SR kp (.slice none 0 0) ([] : List Int)), ⟨rfl, rfl, trivial⟩, (by exact immT (by omega)), (by omega), (by (simp <;> omega)), (by rfl), (by omega), (by assumption)⟩
  have f6 := c5
  try simp only [BS] at f6
  refine wR 1 [] 96 97 [] [(96, (.bool (A == 6)))] trivial rfl fun _ => ?_
  refine au 1 0 (v := (A == 6)) rfl rfl rfl rfl (fun c6 => ?_) (fun c6 => ?_)
  ·
   have f8 := c6
   try simp only [BS] at f8
   refine aa ?_
   refine wm (.pointer (some ⟨I, 0, none⟩)) rfl rfl rfl ?_
   refine aE (aB rfl rfl rfl) rfl rfl (eo ex (⟨ax.n⟩ : DigT) (2) (HS.callOwn V (i := 2) rfl) (by omega) (by omega) hT (by omega)) ?_
   rintro _ lM ⟨ar, g7, h2, hj, es, rfl, kF, l8⟩
   replace es : HS _ _ _ [_, _, [(I, .cells [(iI g7.n)] none false)], _, [(E, .cells [(iI A), (iI ja), (iI jb), (iI jc), (iI 0), (.slice none 0 0)] none false)], _] _ := HS.backOwn V (i := 2) rfl rfl (fun _ hb => hb) es
   refine wRo 2 2 [] 100 101 [] [(101, (.pointer (some ⟨E, 4, none⟩)))] trivial rfl fun _ => ?_
   refine aT (aP (q := 4) es rfl rfl rfl rfl rfl rfl rfl rfl rfl) rfl ?_
   rintro _ lN _ ⟨(hB : HS _ _ _ [_, _, _, _, [(E, .cells [(iI A), (iI ja), (iI jb), (iI jc), (iI ar), (.slice none 0 0)] none false)], _] _), _⟩
   refine aj 2 rfl ?_
   refine wR 2 [(2, .o (iI ar))] 102 105 [13] [(13, (iI (2 - ar)))] (vA (ql 2 4 (HS.hc hB (i := 4) rfl) rfl rfl) (vA (vi (n := 2 - ar) (by omega)) trivial)) rfl fun _ => ?_
   have et := HS.snoc hB
   have et : HS _ _ _ [_, _, _, _, _, _, []] _ := et
   refine ak (fun (mm : Nat) f H' => ∃ (kk : Int) (al : List Int) (dl : DigT) (U : Fp) (N : Option Addr) (T : Nat) (F' : Fz), Fz.le h2 F' ∧ HS (Base.of H []) F' H' [b5, b7, [(I, .cells [(iI dl.n)] none false)], p8, [(E, .cells [(iI A), (iI ja), (iI jb), (iI jc), (iI ar), (.slice N al.length T)] none false)], b9, U] R ∧ OS F' (.slice N al.length T) al U ∧ aH f [(3, (.pointer (some ⟨b1, 0, none⟩))), (4, (.pointer (some ⟨b3, 0, none⟩))), (5, (.pointer (some ⟨I, 0, none⟩))), (9, (.pointer (some ⟨E, 0, none⟩))), (13, (iI kk))] ∧ mm = kk.toNat ∧ ((al.length : Int) + kk = 2 - ar ∧ 0 ≤ kk) ∧ (al.all (aG c.regs) = true) ∧ (in64 dl.n) ∧ (kk ≤ 2)) _ ⟨2 - ar, ([] : List Int), (⟨g7.n⟩ : DigT), [], none, 0, _, fR, et, (OS.nil : OS h2 (.slice none 0 0) ([] : List Int) []), ⟨rfl, rfl, rfl, rfl, rfl, trivial⟩, rfl, (by simp; omega), (by rfl), (by omega), (by omega)⟩ ?_
   rintro kV lW lO ⟨kk, al, dl, U, N, T, lb, dk, av, Z, hu, rfl, q1, q2, q3, q4⟩ ka
   refine aq _ hu (fun _ => ?_)
   clear hu
   replace hT := (hT.mono hj).mono dk
   refine am 2 rfl ?_
   refine wR 1 [] 106 107 [] [(107, (.bool (decide ((0 : Int) < kk))))] trivial rfl fun _ => ?_
   refine au 3 3 (v := (decide ((0 : Int) < kk))) rfl rfl rfl rfl (fun c7 => ?_) (fun c7 => ?_)
   ·
    have f9 := c7
    try simp only [BS] at f9
    refine bL rfl ?_
    refine wfv (v := (.pointer (some ⟨E, 5, none⟩))) (fF rfl rfl) ?_
    refine aO (v := (.slice N al.length T)) (id := .l E) (b8 (i := 5) rfl rfl (HS.hc av.log0 (i := 4) rfl) rfl rfl) rfl rfl (ey rfl) (kb rfl) ?_
    refine fm (.pointer (some ⟨I, 0, none⟩)) rfl rfl rfl ?_
    refine wfv (v := (.pointer (some ⟨b1, 1, none⟩))) (fF rfl rfl) ?_
    refine aO (v := (iI c.regs)) (id := .l b1) (b8 (i := 1) rfl rfl (HS.hc av.log0 (i := 0) rfl) rfl rfl) rfl rfl (ey rfl) (kb rfl) ?_
    refine eg (W := [I]) (aB rfl rfl rfl) rfl rfl rfl (eo ex (⟨dl.n⟩ : DigT) c.regs (HS.callOwn av.log0 (i := 2) rfl) (by omega) (by omega) hT (by omega)) (⟨.inl rfl, ⟨.inl rfl, ⟨.inl rfl, ⟨.inr (HS.nin av (i := 4) (j := 2) rfl rfl (by decide) (List.Mem.head _)), ⟨.inr trivial, trivial⟩⟩⟩⟩⟩) ?_
    rintro _ kr ⟨a3, g8, lc, hk, ad, rfl, kG, l9⟩
    refine ⟨HS.didW ad, fun kc hV => ?_⟩
    replace ad := HS.backOwn av.log0 (i := 2) rfl rfl (fun _ hb => hb) ad
    replace ad := HS.lg ad av hV
    generalize ({ kr with log := kc } : Heap) = kL at ad ⊢
    have ad : HS _ _ _ [_, _, [(I, .cells [(iI g8.n)] none false)], _, [(E, .cells [(iI A), (iI ja), (iI jb), (iI jc), (iI ar), (.slice N al.length T)] none false)], _, U] _ := ad
    replace Z := Z.mono hk
    refine dC (id := .a) (bF (α := Int) (ps := [(0, (iI a3))]) (cells := [(iI a3)]) ([a3] : List Int) ad.log0 rfl rfl rfl (by kernel_rfl) ⟨[(iI a3)], [], rfl, ⟨rfl, by omega⟩, rfl⟩ rfl) rfl rfl (fun _ _ _ _ => did_a rfl rfl rfl) (kb rfl) ?_
    rintro _ kt kJ ⟨lQ, mk, rfl, jZ, ag, _⟩ kd hW
    replace ag := HS.lg ag ad hW
    generalize ({ kt with log := kd } : Heap) = kM at ag ⊢
    have ag : HS _ _ _ [_, _, _, _, _, _, _, kJ] _ := ag
    refine dC (id := .x (U.map Prod.fst)) (ca (α := Int) (q := 6) Z ag.log0 rfl rfl rfl (OS.sv jZ ag.log0 (i := 7) rfl) rfl rfl rfl rfl rfl rfl rfl (by (simp only [List.length_append, List.length_cons, List.length_nil]; omega))) rfl rfl (by rintro _ _ hQ ⟨e5, hI, rfl, hv, _, hwr⟩; exact d3 rfl rfl (Wr.did hwr)) (kb rfl) ?_
    rintro _ ku hQ ⟨e5, hI, rfl, hv, aw, _⟩ ke hX
    replace aw := HS.lg aw ag hX
    generalize ({ ku with log := ke } : Heap) = kN at aw ⊢
    have aw : HS _ _ _ [_, _, _, _, _, _, hQ, _] _ := aw
    refine wfv (v := (.pointer (some ⟨E, 5, none⟩))) (fF rfl rfl) ?_
    refine wf_rk (id := .x [E]) (aP (q := 4) aw.log0 rfl rfl rfl rfl rfl rfl rfl rfl rfl) rfl (by rintro _ _ _ ⟨_, hwr⟩; exact d3 rfl rfl (Wr.did hwr)) (kb rfl) ?_
    rintro _ kv _ ⟨ay, _⟩ kf h0
    replace ay := HS.lg ay aw h0
    generalize ({ kv with log := kf } : Heap) = kO at ay ⊢
    have ay : HS _ _ _ [_, _, _, _, [(E, .cells [(iI A), (iI ja), (iI jb), (iI jc), (iI ar), (.slice e5 (al ++ ([a3] : List Int)).length hI)] none false)], _, _, _] _ := ay
    refine d8 ?_
    refine am 2 rfl ?_
    refine wR 1 [] 108 109 [13] [(13, (iI (kk - 1)))] (vA (vi (n := kk - 1) (by omega)) trivial) rfl fun _ => ?_
    refine ka _ _ _ ?_ ⟨kk - 1, al ++ ([a3] : List Int), (⟨g8.n⟩ : DigT), hQ, e5, hI, _, (fT (dk) hk), (HS.sub ay (List.sublist_append_left _ _)), hv, ⟨rfl, rfl, rfl, rfl, rfl, trivial⟩, rfl, (by simp; omega), (by exact all_app q2 (bl.2 (by omega))), (by omega), (by omega)⟩
    omega
   have f9 := c7
   try simp only [BS] at f9
   obtain ⟨ld, jw, ez, j0, kT⟩ := OS.frz Z av (i := 6) rfl
   have ez : HS _ _ _ [_, _, [(I, .cells [(iI dl.n)] none false)], _, [(E, .cells [(iI A), (iI ja), (iI jb), (iI jc), (iI ar), (.slice N al.length T)] none false)], _, _] _ := ez
   exact a0 _ _ ⟨ar, al, (⟨dl.n⟩ : DigT), N, T, _, (fT (fT (hj) dk) jw), (HS.sub ez (List.sublist_append_left _ _)), j0, ⟨rfl, rfl, trivial⟩, (by exact immT (by omega)), (by omega), (by omega), (by assumption), (by omega), (by omega)⟩
  have f8 := c6
  try simp only [BS] at f8
  exact a0 _ _ ⟨0, ([] : List Int), (⟨ax.n⟩ : DigT), none, 0, _, fR, V, (SR.nil : SR h1 (.slice none 0 0) ([] : List Int)), ⟨rfl, rfl, trivial⟩, (by exact immT (by omega)), (by omega), (by (simp <;> omega)), (by rfl), (by omega), (by assumption)⟩
 skip
 rintro lV lC ⟨jq, asl, e2, J, O, k9, iv, hA, b4, ht, hjq, rjq, h4, hw, hck, k0⟩
 refine aq _ ht (fun _ => ?_)
 clear ht
 refine am 3 rfl ?_
 refine aa ?_
 let hS : Value := (.agg ⟨[(iI A), (iI ja), (iI jb), (iI jc), (iI jq), (.slice J asl.length O)]⟩)
 refine wRo 1 0 [(0, .o hS)] 119 119 [] [(119, hS)] (vA (qn 52 0 6 (HS.hc hA (i := 4) rfl) rfl rfl rfl rfl) trivial) rfl fun _ => ?_
 refine aT (aP (q := 1) hA rfl rfl rfl rfl rfl rfl rfl rfl rfl) rfl ?_
 rintro _ lP _ ⟨(hC : HS _ _ _ [_, [(b3, .cells [(iI A), (iI ja), (iI jb), (iI jc), (iI jq), (.slice J asl.length O)] none false)], [(I, .cells [(iI e2.n)] none false)], _, [(E, .cells [(iI A), (iI ja), (iI jb), (iI jc), (iI jq), (.slice J asl.length O)] none false)], _] _), _⟩
 refine aj 1 rfl ?_
 refine az ⟨.inr rfl, _, (rC rfl (ldVN rfl rfl (HS.hc hC (i := 1) rfl) rfl) rN), (⟨(⟨A, ja, jb, jc, jq⟩ : InsT), asl⟩ : VInT), J, O, _, (fT (fT (fT (fT (fT (fT (c9) dd) g9) ha) he) hg) iv), (HS.forget hC), rfl, (by (dsimp only; omega)), (by omega), (by omega), (by omega), (by omega), b4, (by exact vin_mk ho.2 h4.1 h4.2 hw hja hjb hjc hjq), (by exact decide_eq_true hck)⟩
end Go.Proofs.YtknafdcgpaejlaaDoor.m4
