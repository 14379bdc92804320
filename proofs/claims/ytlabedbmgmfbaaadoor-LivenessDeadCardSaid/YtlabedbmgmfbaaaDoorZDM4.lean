/-
 The generator of virtual code, function by function, each by a symbolic run: what it makes is valid. No condition but that the table lies as laid.
-/
import Derived.Test.YtlabedbmgmfbaaaDoorZDM3
import Derived.Test.YtlabedbmgmfbaaaDoorZDRC
noncomputable section
namespace Go.Proofs.YtlabedbmgmfbaaaDoor.m4
open Go.R
set_option maxRecDepth 10000
set_option linter.unusedVariables false
open m1 m2 m3
theorem wr64 (n : Int) : in64 (IntKind.i64.wrap n) := aM n
theorem td64 (n : Int) {m : Int} (h : 0 < m) : in64 (Int.tdiv (IntKind.i64.wrap n) m) := vq (wr64 n) (by omega)
theorem opOK_t {p : Prop} [Decidable p] {n r : Int} (h : p) (hn : 0 ≤ n ∧ n < r) : dq (decide p) n r = true := by rw [decide_eq_true h]; exact bp.2 hn
theorem jH {p : Prop} [Decidable p] {n r : Int} (h : ¬ p) (hn : n = 0) : dq (decide p) n r = true := by rw [decide_eq_false h, hn]; rfl
def opG (op : Int) : Prop := (op = 3 ∨ op = 6 ∨ (9 ≤ op ∧ op ≤ 13) ∨ (15 ≤ op ∧ op ≤ 35)) ∧ alV op = true
theorem ops_al {op : Int} (h : 15 ≤ op ∧ op ≤ 32) : opG op := ⟨by omega, decide_eq_true (by omega)⟩
theorem lit12 {k : Nat} (h : k < 12) : opG (([3, 6, 9, 10, 11, 12, 13, 33, 34, 35, 10, 9] : List Int).getD k 0) := by
 have : ∀ k : Fin 12, ((([3, 6, 9, 10, 11, 12, 13, 33, 34, 35, 10, 9] : List Int).getD k.val 0) = 3 ∨ (([3, 6, 9, 10, 11, 12, 13, 33, 34, 35, 10, 9] : List Int).getD k.val 0) = 6 ∨ (9 ≤ (([3, 6, 9, 10, 11, 12, 13, 33, 34, 35, 10, 9] : List Int).getD k.val 0) ∧ (([3, 6, 9, 10, 11, 12, 13, 33, 34, 35, 10, 9] : List Int).getD k.val 0) ≤ 13) ∨ (15 ≤ (([3, 6, 9, 10, 11, 12, 13, 33, 34, 35, 10, 9] : List Int).getD k.val 0) ∧ (([3, 6, 9, 10, 11, 12, 13, 33, 34, 35, 10, 9] : List Int).getD k.val 0) ≤ 35)) ∧ alV (([3, 6, 9, 10, 11, 12, 13, 33, 34, 35, 10, 9] : List Int).getD k.val 0) = true := by decide
 exact this ⟨k, h⟩
theorem immT {p op n : Int} (h : op = 13 ∨ op = 33 ∧ -4194304 ≤ n ∧ n < 4194304 ∨ op = 6 ∧ 0 ≤ n ∧ n < 8 ∨ (op = 34 ∨ op = 35) ∧ 0 ≤ n ∧ n < 4 ∨ (op ≠ 13 ∧ op ≠ 33 ∧ op ≠ 6 ∧ op ≠ 34 ∧ op ≠ 35 ∧ op ≠ 38) ∧ n = 0) : gK p op n = true := by
 unfold gK
 (repeat' split) <;> first | rfl | (apply decide_eq_true; omega) | (exfalso; omega)
theorem all_app {p : Int → Bool} {l : List Int} {x : Int} (h : l.all p = true) (hx : p x = true) : (l ++ [x]).all p = true := by rw [List.all_append, h]; simp [hx]
theorem vin_mk {params regs op a b c n : Int} {l : List Int} (z : alV op = true) (A : op = 6 ∨ l.length = 0) (I : l.length ≤ 6) (J : l.all (aJ regs) = true) (O : dq (decide (aw op ≠ 1)) a regs = true) (T : dq (decide (aw op = 3 ∨ aw op = 4 ∨ aw op = 7)) b regs = true) (U : dq (decide (aw op = 4)) c regs = true) (V : gK params op n = true) : eg params regs ⟨⟨op, a, b, c, n⟩, l⟩ = true := by
 unfold eg
 simp only [z, decide_eq_true A, decide_eq_true I, J, O, T, U, V, Bool.and_self]
def ckI (v : VInT) : Bool := decide ((v.i.op = 6 → (v.i.n = 0 ∧ v.args.length = 2 ∨ v.i.n = 1 ∧ v.args.length = 1)) ∧ (v.i.op = 34 ∨ v.i.op = 35 → v.i.n < 2))
theorem dw (ex : FuncId) {b_d : Nat} (d : DigT) (m : Int) {F : Fz} {H : Heap} {R : List Fp} (hs : HS (.of H [b_d]) F H [[(b_d, .cells [(iI d.n)] none false)]] R) (A : in64 d.n) (hm : in64 m) (hT : TB 37 tabC F) (hm : 0 < m) : C Tryd.prog 1 (KT 60 ex 37 tabC) 49 [(.pointer (some ⟨b_d, 0, none⟩)), (iI m)] H fun v H' => ∃ (r : Int) (d' : DigT) (F' : Fz), Fz.le F F' ∧ HS (.of H [b_d]) F' H' [[(b_d, .cells [(iI d'.n)] none false)]] R ∧ v = .int .i64 r ∧ in64 d'.n ∧ (0 ≤ r ∧ r < m) := by
 refine aL Tryd.func49 rfl rfl ?_
 refine ao 1 rfl ?_
 refine wR 2 [] 4 4 [] [(4, (iI 0))] trivial rfl fun _ => ?_
 have I := dE d.n m
 refine wR 2 [(3, .o (iI d.n)), (5, .o (iI (aB d.n m)))] 6 11 [5] [(5, (iI (aB d.n m)))] (vA (ql 3 0 (HS.hc hs (i := 0) rfl) rfl rfl) (vA (m1.ek ex d.n m H (by omega)) trivial)) rfl fun _ => ?_
 refine ab ?_
 refine wRo 11 0 [(4, .o (iI d.n)), (6, .w)] 12 22 [] [(20, (iI (Int.tdiv (IntKind.i64.wrap (d.n - (aB d.n m))) m))), (22, (.pointer (some ⟨b_d, 0, none⟩)))] (vA (ql 3 0 (HS.hc hs (i := 0) rfl) rfl rfl) (vA (vA (show m ≠ 0 from by omega) (vq (a := IntKind.i64.wrap (d.n - (aB d.n m))) (b := m) (by exact wr64 _) (by omega))) trivial)) rfl fun _ => ?_
 refine aU (aG (q := 0) hs rfl rfl rfl rfl rfl rfl rfl rfl rfl) rfl ?_
 rintro _ J _ ⟨z, _⟩
 have z : HS _ _ _ [[(b_d, .cells [(iI (Int.tdiv (IntKind.i64.wrap (d.n - (aB d.n m))) m))] none false)]] _ := z
 refine ai 2 rfl ?_
 refine wR 1 [] 4 4 [23] [(4, (iI (aB d.n m)))] trivial rfl fun _ => ?_
 refine ah ⟨.inr rfl, _, rfl, aB d.n m, (⟨Int.tdiv (IntKind.i64.wrap (d.n - (aB d.n m))) m⟩ : DigT), _, fR, (HS.first z), rfl, (by exact td64 _ (by omega)), (by omega)⟩
theorem word_c (ex : FuncId) (n : Int) (raw : Int) {F : Fz} {H : Heap} {R : List Fp} (hs : HS (.of H []) F H [] R) (hn : in64 n) (hraw : in64 raw) (hT : TB 37 tabC F) : C Tryd.prog 1 (KT 60 ex 37 tabC) 50 [(iI n), (iI raw)] H fun v H' => ∃ (r : Int) (F' : Fz), Fz.le F F' ∧ HS (.of H []) F' H' [] R ∧ v = .int .i64 r ∧ (in64 r) := by
 refine aL Tryd.func50 rfl rfl ?_
 refine ao 1 rfl ?_
 refine wR 2 [] 4 4 [] [(4, (iI 0))] trivial rfl fun _ => ?_
 refine ab ?_
 refine aR (ct (α := Int) (ps := [(0, (iI 0)), (1, (iI 1)), (2, (iI (-1))), (3, (iI 2)), (4, (iI (-9223372036854775808))), (5, (iI 9223372036854775807)), (6, (iI 4294967296)), (7, (iI (-2147483648))), (8, (iI 63)), (9, (iI 64))]) (cells := [(iI 0), (iI 1), (iI (-1)), (iI 2), (iI (-9223372036854775808)), (iI 9223372036854775807), (iI 4294967296), (iI (-2147483648)), (iI 63), (iI 64)]) ([0, 1, (-1), 2, (-9223372036854775808), 9223372036854775807, 4294967296, (-2147483648), 63, 64] : List Int) hs rfl rfl rfl (by kernel_rfl) ⟨[(iI 0)], _, rfl, ⟨rfl, by omega⟩, ⟨[(iI 1)], _, rfl, ⟨rfl, by omega⟩, ⟨[(iI (-1))], _, rfl, ⟨rfl, by omega⟩, ⟨[(iI 2)], _, rfl, ⟨rfl, by omega⟩, ⟨[(iI (-9223372036854775808))], _, rfl, ⟨rfl, by omega⟩, ⟨[(iI 9223372036854775807)], _, rfl, ⟨rfl, by omega⟩, ⟨[(iI 4294967296)], _, rfl, ⟨rfl, by omega⟩, ⟨[(iI (-2147483648))], _, rfl, ⟨rfl, by omega⟩, ⟨[(iI 63)], _, rfl, ⟨rfl, by omega⟩, ⟨[(iI 64)], _, rfl, ⟨rfl, by omega⟩, rfl⟩⟩⟩⟩⟩⟩⟩⟩⟩⟩ rfl) rfl rfl ?_
 rintro _ T Z ⟨U, k2, rfl, I, z, _⟩
 have z : HS _ _ _ [Z] _ := z
 refine wa (.slice U ([0, 1, (-1), 2, (-9223372036854775808), 9223372036854775807, 4294967296, (-2147483648), 63, 64] : List Int).length k2) rfl rfl rfl ?_
 refine ai 2 rfl ?_
 have aj := dE n (24 : Int)
 refine wR 4 [(1, .o (iI (aB n (24 : Int))))] 8 9 [6] [(6, (iI (aB n (24 : Int))))] (vA (m1.ek ex n (24) T (by omega)) trivial) rfl fun _ => ?_
 refine wR 1 [] 10 12 [] [(10, (.bool (decide (aB n (24 : Int) < 10))))] trivial rfl fun _ => ?_
 refine am 1 1 (v := (decide (aB n (24 : Int) < 10))) rfl rfl rfl rfl (fun O => ?_) (fun O => ?_)
 ·
  try simp only [BS] at O
  obtain ⟨ag, J⟩ := Sv.view (OS.sv I z (i := 0) rfl)
  have g9 := fI (J (aB n (24 : Int)).toNat)
  refine wR 1 [(3, .o (iI (([0, 1, (-1), 2, (-9223372036854775808), 9223372036854775807, 4294967296, (-2147483648), 63, 64] : List Int).getD (aB n (24 : Int)).toNat 0)))] 13 16 [4] [(4, (iI (([0, 1, (-1), 2, (-9223372036854775808), 9223372036854775807, 4294967296, (-2147483648), 63, 64] : List Int).getD (aB n (24 : Int)).toNat 0)))] (vA (Sv.ix (j := aB n (24 : Int)) (OS.sv I z (i := 0) rfl) (by omega) (show aB n (24 : Int) < (10 : Int) from by omega)) (vA (ql 2 0 (vI (J (aB n (24 : Int)).toNat) (show (aB n (24 : Int)).toNat < 10 from by omega)) rfl rfl) trivial)) rfl fun _ => ?_
  refine ah ⟨.inr rfl, _, rfl, (([0, 1, (-1), 2, (-9223372036854775808), 9223372036854775807, 4294967296, (-2147483648), 63, 64] : List Int).getD (aB n (24 : Int)).toNat 0), _, fR, (HS.forget z), rfl, (by omega)⟩
 ·
  try simp only [BS] at O
  refine wR 1 [] 17 19 [] [(17, (.bool (decide (aB n (24 : Int) < 22))))] trivial rfl fun _ => ?_
  refine am 1 3 (v := (decide (aB n (24 : Int) < 22))) rfl rfl rfl rfl (fun A => ?_) (fun A => ?_)
  ·
   try simp only [BS] at A
   have ad : in64 n → in64 (Int.tdiv n 24) := fun h => vq h (by decide)
   have V := dE (Int.tdiv n 24) (17 : Int)
   refine wR 1 [(2, .o (iI (aB (Int.tdiv n 24) (17 : Int))))] 20 23 [4] [(4, (iI ((aB (Int.tdiv n 24) (17 : Int)) - 6)))] (vA (vA (show (24 : Int) ≠ 0 from by decide) (vq (a := n) (b := 24) (by omega) (by decide))) (vA (m1.ek ex (Int.tdiv n 24) (17) T (by omega)) (vA (vi (n := (aB (Int.tdiv n 24) (17 : Int)) - 6) (by omega)) trivial))) rfl fun _ => ?_
   refine ah ⟨.inr rfl, _, rfl, (aB (Int.tdiv n 24) (17 : Int)) - 6, _, fR, (HS.forget z), rfl, (by omega)⟩
  ·
   try simp only [BS] at A
   refine wR 1 [] 4 4 [24] [(4, (iI raw))] trivial rfl fun _ => ?_
   refine ah ⟨.inr rfl, _, rfl, raw, _, fR, (HS.forget z), rfl, (by omega)⟩
set_option maxHeartbeats 1000000 in
theorem vi_c (ex : FuncId) (n : Int) {e3 : Option Addr} {hF : Nat} (c : VFnT) {F : Fz} {H : Heap} {R : List Fp} (hs : HS (.of H []) F H [] R) (hn : in64 n) (l7 : in64 c.params) (l8 : in64 c.regs) (hT : TB 37 tabC F) (hr : 1 ≤ c.regs ∧ c.regs ≤ 3000) : C Tryd.prog 1 (KT 60 ex 37 tabC) 44 [(iI n), (.agg ⟨[(iI c.params), (iI c.regs), (.slice e3 c.blocks.length hF)]⟩)] H fun v H' => ∃ (x : VInT) (e4 : Option Addr) (hG : Nat) (F' : Fz), Fz.le F F' ∧ HS (.of H []) F' H' [] R ∧ v = .agg ⟨[.int .i64 x.i.op, .int .i64 x.i.a, .int .i64 x.i.b, .int .i64 x.i.c, .int .i64 x.i.n, .slice e4 x.args.length hG]⟩ ∧ in64 x.i.op ∧ in64 x.i.a ∧ in64 x.i.b ∧ in64 x.i.c ∧ in64 x.i.n ∧ SR F' (.slice e4 x.args.length hG) x.args ∧ (eg c.params c.regs x = true) ∧ (ckI x = true) := by
 refine aL Tryd.func44 rfl rfl ?_
 refine ao 1 rfl ?_
 refine ab ?_
 refine aR (cw hs rfl rfl) rfl rfl ?_
 rintro _ H2 _ ⟨b1, rfl, c8, _⟩
 let b9 : Fp := [(b1, .cells [(iI c.params), (iI c.regs), (.slice e3 c.blocks.length hF)] none false)]
 have c8 : HS _ _ _ [b9] _ := c8
 refine aR (bK c8 rfl) rfl rfl ?_
 rintro _ H4 _ ⟨b3, rfl, hu, _⟩
 let ch : Fp := [(b3, .cells [(iI 0), (iI 0), (iI 0), (iI 0), (iI 0), (.slice none 0 0)] none false)]
 have hu : HS _ _ _ [_, ch] _ := hu
 refine ai 2 rfl ?_
 refine ab ?_
 refine wRo 2 0 [] 14 15 [] [(15, (.agg ⟨[(iI n)]⟩))] trivial rfl fun _ => ?_
 refine aR (cw hu rfl rfl) rfl rfl ?_
 rintro _ H7 _ ⟨I, rfl, hw, _⟩
 have hw : HS _ _ _ [_, _, [(I, .cells [(iI n)] none false)]] _ := hw
 refine wa (.pointer (some ⟨I, 0, none⟩)) rfl rfl rfl ?_
 refine ai 2 rfl ?_
 refine ab ?_
 refine aR (ct (α := Int) (ps := [(0, (iI 3)), (1, (iI 6)), (2, (iI 9)), (3, (iI 10)), (4, (iI 11)), (5, (iI 12)), (6, (iI 13)), (7, (iI 33)), (8, (iI 34)), (9, (iI 35)), (10, (iI 10)), (11, (iI 9))]) (cells := [(iI 3), (iI 6), (iI 9), (iI 10), (iI 11), (iI 12), (iI 13), (iI 33), (iI 34), (iI 35), (iI 10), (iI 9)]) ([3, 6, 9, 10, 11, 12, 13, 33, 34, 35, 10, 9] : List Int) hw rfl rfl rfl (by kernel_rfl) ⟨[(iI 3)], _, rfl, ⟨rfl, by omega⟩, ⟨[(iI 6)], _, rfl, ⟨rfl, by omega⟩, ⟨[(iI 9)], _, rfl, ⟨rfl, by omega⟩, ⟨[(iI 10)], _, rfl, ⟨rfl, by omega⟩, ⟨[(iI 11)], _, rfl, ⟨rfl, by omega⟩, ⟨[(iI 12)], _, rfl, ⟨rfl, by omega⟩, ⟨[(iI 13)], _, rfl, ⟨rfl, by omega⟩, ⟨[(iI 33)], _, rfl, ⟨rfl, by omega⟩, ⟨[(iI 34)], _, rfl, ⟨rfl, by omega⟩, ⟨[(iI 35)], _, rfl, ⟨rfl, by omega⟩, ⟨[(iI 10)], _, rfl, ⟨rfl, by omega⟩, ⟨[(iI 9)], _, rfl, ⟨rfl, by omega⟩, rfl⟩⟩⟩⟩⟩⟩⟩⟩⟩⟩⟩⟩ rfl) rfl rfl ?_
 rintro _ H9 p8 ⟨a8, k8, rfl, ev, ey, _⟩
 have ey : HS _ _ _ [_, _, _, p8] _ := ey
 refine wa (.slice a8 ([3, 6, 9, 10, 11, 12, 13, 33, 34, 35, 10, 9] : List Int).length k8) rfl rfl rfl ?_
 refine ai 2 rfl ?_
 refine ab ?_
 refine wm (.pointer (some ⟨I, 0, none⟩)) rfl rfl rfl ?_
 refine aD (az rfl rfl rfl) rfl rfl (dw ex (⟨n⟩ : DigT) (18) (HS.callOwn ey (i := 2) rfl) (by omega) (by omega) hT (by omega)) ?_
 rintro _ mA ⟨hI, f6, mp, ds, a3, rfl, la, np⟩
 replace a3 := HS.backOwn ey (i := 2) rfl rfl (fun _ hb => hb) a3
 have a3 : HS _ _ _ [_, _, [(I, .cells [(iI f6.n)] none false)], _] _ := a3
 replace hT := hT.mono ds
 refine wRo 2 2 [] 20 20 [7] [(7, (iI (15 + hI)))] (vA (vi (n := 15 + hI) (by omega)) trivial) rfl fun _ => ?_
 refine ai 3 rfl ?_
 refine ab ?_
 refine wm (.pointer (some ⟨I, 0, none⟩)) rfl rfl rfl ?_
 refine aD (az rfl rfl rfl) rfl rfl (dw ex (⟨f6.n⟩ : DigT) (24) (HS.callOwn a3 (i := 2) rfl) (by omega) (by omega) hT (by omega)) ?_
 rintro _ hS ⟨ap, dn, mq, dt, ar, rfl, lr, nq⟩
 replace ar := HS.backOwn a3 (i := 2) rfl rfl (fun _ hb => hb) ar
 have ar : HS _ _ _ [_, _, [(I, .cells [(iI dn.n)] none false)], _] _ := ar
 replace hT := hT.mono dt
 replace ev := (ev.mono ds).mono dt
 refine wa (iI ap) rfl rfl rfl ?_
 refine ai 2 rfl ?_
 refine wR 1 [] 23 26 [] [(26, (.bool (decide (ap < 12))))] trivial rfl fun _ => ?_
 refine cT (fun f H' => ∃ (z : Int), H' = hS ∧ aT f [(0, (iI n)), (3, (.pointer (some ⟨b1, 0, none⟩))), (4, (.pointer (some ⟨b3, 0, none⟩))), (5, (.pointer (some ⟨I, 0, none⟩))), (7, (iI z))] ∧ (opG z)) (fun hA => ?_) ?_
 ·
  refine am 0 0 (v := (decide (ap < 12))) rfl rfl rfl rfl (fun e5 => ?_) (fun e5 => ?_)
  ·
   try simp only [BS] at e5
   obtain ⟨l6, hz⟩ := Sv.view (OS.sv ev ar (i := 3) rfl)
   have nn := fI (hz ap.toNat)
   refine wR 0 [(3, .o (iI (([3, 6, 9, 10, 11, 12, 13, 33, 34, 35, 10, 9] : List Int).getD ap.toNat 0)))] 27 30 [7] [(7, (iI (([3, 6, 9, 10, 11, 12, 13, 33, 34, 35, 10, 9] : List Int).getD ap.toNat 0)))] (vA (Sv.ix (j := ap) (OS.sv ev ar (i := 3) rfl) (by omega) (show ap < (12 : Int) from by omega)) (vA (ql 3 0 (vI (hz ap.toNat) (show ap.toNat < 12 from by omega)) rfl rfl) trivial)) rfl fun _ => ?_
   exact hA _ _ ⟨(([3, 6, 9, 10, 11, 12, 13, 33, 34, 35, 10, 9] : List Int).getD ap.toNat 0), rfl, ⟨rfl, rfl, rfl, rfl, rfl, trivial⟩, (by exact lit12 (by omega))⟩
  ·
   try simp only [BS] at e5
   exact hA _ _ ⟨15 + hI, rfl, ⟨rfl, rfl, rfl, rfl, rfl, trivial⟩, (by exact ops_al (by omega))⟩
 ·
  rintro ng hS ⟨z, rfl, hj, ho⟩
  refine aH _ hj (fun _ => ?_)
  clear hj
  have hf := bc ho.2
  have hvf : aw z = (aI z).form := if_neg (by have := ho.1; omega)
  have nB := ho.1
  refine ao 2 rfl ?_
  refine ab ?_
  refine wRo 3 0 [] 31 33 [] [(33, (.agg ⟨[(iI z), (iI 0), (iI 0), (iI 0), (iI 0), (.slice none 0 0)]⟩))] trivial rfl fun _ => ?_
  refine aR (bK ar rfl) rfl rfl ?_
  rintro _ mB _ ⟨A, rfl, d1, _⟩
  have d1 : HS _ _ _ [_, _, _, _, [(A, .cells [(iI 0), (iI 0), (iI 0), (iI 0), (iI 0), (.slice none 0 0)] none false)]] _ := d1
  refine aU (aG (q := 4) d1 rfl rfl rfl rfl rfl rfl rfl rfl rfl) rfl ?_
  rintro _ mC _ ⟨cv, _⟩
  have cv : HS _ _ _ [_, _, _, _, [(A, .cells [(iI z), (iI 0), (iI 0), (iI 0), (iI 0), (.slice none 0 0)] none false)]] _ := cv
  refine ai 2 rfl ?_
  refine ab ?_
  refine wm (iI z) rfl rfl rfl ?_
  refine aD (az rfl rfl rfl) rfl rfl (m1.rInfo_c ex z (HS.call cv) (by omega) hT) ?_
  rintro _ mD ⟨nE, nD, kp, g7, a7, rfl, kl, kn, rfl, rfl⟩
  replace a7 := HS.back cv rfl a7
  have a7 : HS _ _ _ [_, _, _, _, _] _ := a7
  replace hT := hT.mono g7
  refine wRo 3 2 [] 37 38 [34] [(37, (.agg ⟨[(.string ⟨⟨(aI z).name.b⟩⟩), (iI (aI z).form), (.bool (aI z).ra), (.bool (aI z).wa), (.bool (aI z).rb), (.bool (aI z).mt), (iI (aI z).words)]⟩)), (38, (.bool (infO z)))] trivial rfl fun _ => ?_
  refine aR (bK a7 rfl) rfl rfl ?_
  rintro _ mE _ ⟨hV, rfl, d2, _⟩
  have d2 : HS _ _ _ [_, _, _, _, _, [(hV, .cells [(.string ⟨⟨[]⟩⟩), (iI 0), (.bool false), (.bool false), (.bool false), (.bool false), (iI 0)] none false)]] _ := d2
  refine aU (aG (q := 5) d2 rfl rfl rfl rfl rfl rfl rfl rfl rfl) rfl ?_
  rintro _ mF _ ⟨av, _⟩
  let ci : Fp := [(hV, .cells [(.string ⟨⟨(aI z).name.b⟩⟩), (iI (aI z).form), (.bool (aI z).ra), (.bool (aI z).wa), (.bool (aI z).rb), (.bool (aI z).mt), (iI (aI z).words)] none false)]
  have av : HS _ _ _ [_, _, _, _, _, ci] _ := av
  refine wa (.bool (infO z)) rfl rfl rfl ?_
  refine ai 2 rfl ?_
  refine wR 3 [(1, .o (iI (aI z).form))] 39 40 [12] [(12, (iI (aI z).form))] (vA (ql 3 1 (HS.hc av (i := 5) rfl) rfl rfl) trivial) rfl fun _ => ?_
  refine wR 1 [] 41 42 [] [(42, (.bool ((aI z).form != 1)))] trivial rfl fun _ => ?_
  refine cT (fun f H' => ∃ (ja : Int) (c9 : DigT) (F' : Fz), Fz.le kp F' ∧ HS (Base.of H []) F' H' [b9, ch, [(I, .cells [(iI c9.n)] none false)], p8, [(A, .cells [(iI z), (iI ja), (iI 0), (iI 0), (iI 0), (.slice none 0 0)] none false)], ci] R ∧ aT f [(0, (iI n)), (3, (.pointer (some ⟨b1, 0, none⟩))), (4, (.pointer (some ⟨b3, 0, none⟩))), (5, (.pointer (some ⟨I, 0, none⟩))), (7, (iI z)), (9, (.pointer (some ⟨A, 0, none⟩))), (12, (iI (aI z).form))] ∧ (dq (decide (aw z ≠ 1)) ja c.regs = true) ∧ (in64 ja) ∧ (in64 c9.n)) (fun hB => ?_) ?_
  ·
   refine am 0 0 (v := ((aI z).form != 1)) rfl rfl rfl rfl (fun e6 => ?_) (fun e6 => ?_)
   ·
    try simp only [BS] at e6
    refine ab ?_
    refine wRo 3 0 [(2, .o (iI c.regs))] 43 45 [] [(43, (.pointer (some ⟨I, 0, none⟩))), (45, (iI c.regs))] (vA (ql 3 1 (HS.hc av (i := 0) rfl) rfl rfl) trivial) rfl fun _ => ?_
    refine aD (az rfl rfl rfl) rfl rfl (dw ex (⟨dn.n⟩ : DigT) c.regs (HS.callOwn av (i := 2) rfl) (by omega) (by omega) hT (by omega)) ?_
    rintro _ mH ⟨hX, f7, mr, h5, a9, rfl, lQ, nr⟩
    replace a9 := HS.backOwn av (i := 2) rfl rfl (fun _ hb => hb) a9
    have a9 : HS _ _ _ [_, _, [(I, .cells [(iI f7.n)] none false)], _, _, _] _ := a9
    refine wRo 2 4 [] 47 48 [] [(48, (.pointer (some ⟨A, 1, none⟩)))] trivial rfl fun _ => ?_
    refine aU (aG (q := 4) a9 rfl rfl rfl rfl rfl rfl rfl rfl rfl) rfl ?_
    rintro _ mI _ ⟨ea, _⟩
    have ea : HS _ _ _ [_, _, _, _, [(A, .cells [(iI z), (iI hX), (iI 0), (iI 0), (iI 0), (.slice none 0 0)] none false)], _] _ := ea
    refine ai 0 rfl ?_
    exact hB _ _ ⟨hX, (⟨f7.n⟩ : DigT), _, (h5), ea, ⟨rfl, rfl, rfl, rfl, rfl, rfl, rfl, trivial⟩, (by exact opOK_t (by omega) (by omega)), (by omega), (by assumption)⟩
   ·
    try simp only [BS] at e6
    exact hB _ _ ⟨0, (⟨dn.n⟩ : DigT), _, fR, av, ⟨rfl, rfl, rfl, rfl, rfl, rfl, rfl, trivial⟩, (by exact jH (by omega) rfl), (by omega), (by assumption)⟩
  ·
   rintro nh mG ⟨ja, c9, kr, g8, c0, hk, hja, rja, mi⟩
   refine aH _ hk (fun _ => ?_)
   clear hk
   replace hT := hT.mono g8
   refine ao 3 rfl ?_
   refine wR 1 [] 49 58 [] [(58, (.bool ((((aI z).form == 3) || ((aI z).form == 4)) || ((aI z).form == 7))))] trivial rfl fun _ => ?_
   refine cT (fun f H' => ∃ (jb : Int) (dd : DigT) (F' : Fz), Fz.le kr F' ∧ HS (Base.of H []) F' H' [b9, ch, [(I, .cells [(iI dd.n)] none false)], p8, [(A, .cells [(iI z), (iI ja), (iI jb), (iI 0), (iI 0), (.slice none 0 0)] none false)], ci] R ∧ aT f [(0, (iI n)), (3, (.pointer (some ⟨b1, 0, none⟩))), (4, (.pointer (some ⟨b3, 0, none⟩))), (5, (.pointer (some ⟨I, 0, none⟩))), (7, (iI z)), (9, (.pointer (some ⟨A, 0, none⟩))), (12, (iI (aI z).form))] ∧ (dq (decide (aw z = 3 ∨ aw z = 4 ∨ aw z = 7)) jb c.regs = true) ∧ (in64 jb) ∧ (in64 dd.n)) (fun hC => ?_) ?_
   ·
    refine am 0 0 (v := ((((aI z).form == 3) || ((aI z).form == 4)) || ((aI z).form == 7))) rfl rfl rfl rfl (fun e9 => ?_) (fun e9 => ?_)
    ·
     try simp only [BS] at e9
     refine ab ?_
     refine wRo 3 0 [(2, .o (iI c.regs))] 59 61 [] [(59, (.pointer (some ⟨I, 0, none⟩))), (61, (iI c.regs))] (vA (ql 3 1 (HS.hc c0 (i := 0) rfl) rfl rfl) trivial) rfl fun _ => ?_
     refine aD (az rfl rfl rfl) rfl rfl (dw ex (⟨c9.n⟩ : DigT) c.regs (HS.callOwn c0 (i := 2) rfl) (by omega) (by omega) hT (by omega)) ?_
     rintro _ mK ⟨hY, f9, ms, h6, bb, rfl, lR, ns⟩
     replace bb := HS.backOwn c0 (i := 2) rfl rfl (fun _ hb => hb) bb
     have bb : HS _ _ _ [_, _, [(I, .cells [(iI f9.n)] none false)], _, [(A, .cells [(iI z), (iI ja), (iI 0), (iI 0), (iI 0), (.slice none 0 0)] none false)], _] _ := bb
     refine wRo 2 4 [] 63 64 [] [(64, (.pointer (some ⟨A, 2, none⟩)))] trivial rfl fun _ => ?_
     refine aU (aG (q := 4) bb rfl rfl rfl rfl rfl rfl rfl rfl rfl) rfl ?_
     rintro _ mL _ ⟨eb, _⟩
     have eb : HS _ _ _ [_, _, _, _, [(A, .cells [(iI z), (iI ja), (iI hY), (iI 0), (iI 0), (.slice none 0 0)] none false)], _] _ := eb
     refine ai 0 rfl ?_
     exact hC _ _ ⟨hY, (⟨f9.n⟩ : DigT), _, (h6), eb, ⟨rfl, rfl, rfl, rfl, rfl, rfl, rfl, trivial⟩, (by exact opOK_t (by omega) (by omega)), (by omega), (by assumption)⟩
    ·
     try simp only [BS] at e9
     exact hC _ _ ⟨0, (⟨c9.n⟩ : DigT), _, fR, c0, ⟨rfl, rfl, rfl, rfl, rfl, rfl, rfl, trivial⟩, (by exact jH (by omega) rfl), (by omega), (by assumption)⟩
   ·
    rintro ni mJ ⟨jb, dd, kt, g9, c3, hl, hjb, rjb, mj⟩
    refine aH _ hl (fun _ => ?_)
    clear hl
    replace hT := hT.mono g9
    refine ao 3 rfl ?_
    refine wR 1 [] 65 66 [] [(66, (.bool ((aI z).form == 4)))] trivial rfl fun _ => ?_
    refine cT (fun f H' => ∃ (jc : Int) (a2 : DigT) (F' : Fz), Fz.le kt F' ∧ HS (Base.of H []) F' H' [b9, ch, [(I, .cells [(iI a2.n)] none false)], p8, [(A, .cells [(iI z), (iI ja), (iI jb), (iI jc), (iI 0), (.slice none 0 0)] none false)], ci] R ∧ aT f [(0, (iI n)), (3, (.pointer (some ⟨b1, 0, none⟩))), (4, (.pointer (some ⟨b3, 0, none⟩))), (5, (.pointer (some ⟨I, 0, none⟩))), (7, (iI z)), (9, (.pointer (some ⟨A, 0, none⟩)))] ∧ (dq (decide (aw z = 4)) jc c.regs = true) ∧ (in64 jc) ∧ (in64 a2.n)) (fun hD => ?_) ?_
    ·
     refine am 0 0 (v := ((aI z).form == 4)) rfl rfl rfl rfl (fun fd => ?_) (fun fd => ?_)
     ·
      try simp only [BS] at fd
      refine ab ?_
      refine wRo 3 0 [(2, .o (iI c.regs))] 67 69 [] [(67, (.pointer (some ⟨I, 0, none⟩))), (69, (iI c.regs))] (vA (ql 3 1 (HS.hc c3 (i := 0) rfl) rfl rfl) trivial) rfl fun _ => ?_
      refine aD (az rfl rfl rfl) rfl rfl (dw ex (⟨dd.n⟩ : DigT) c.regs (HS.callOwn c3 (i := 2) rfl) (by omega) (by omega) hT (by omega)) ?_
      rintro _ mN ⟨h1, gn, mu, h7, bj, rfl, lS, nt⟩
      replace bj := HS.backOwn c3 (i := 2) rfl rfl (fun _ hb => hb) bj
      have bj : HS _ _ _ [_, _, [(I, .cells [(iI gn.n)] none false)], _, [(A, .cells [(iI z), (iI ja), (iI jb), (iI 0), (iI 0), (.slice none 0 0)] none false)], _] _ := bj
      refine wRo 2 4 [] 71 72 [] [(72, (.pointer (some ⟨A, 3, none⟩)))] trivial rfl fun _ => ?_
      refine aU (aG (q := 4) bj rfl rfl rfl rfl rfl rfl rfl rfl rfl) rfl ?_
      rintro _ mO _ ⟨ec, _⟩
      have ec : HS _ _ _ [_, _, _, _, [(A, .cells [(iI z), (iI ja), (iI jb), (iI h1), (iI 0), (.slice none 0 0)] none false)], _] _ := ec
      refine ai 0 rfl ?_
      exact hD _ _ ⟨h1, (⟨gn.n⟩ : DigT), _, (h7), ec, ⟨rfl, rfl, rfl, rfl, rfl, rfl, trivial⟩, (by exact opOK_t (by omega) (by omega)), (by omega), (by assumption)⟩
     ·
      try simp only [BS] at fd
      exact hD _ _ ⟨0, (⟨dd.n⟩ : DigT), _, fR, c3, ⟨rfl, rfl, rfl, rfl, rfl, rfl, trivial⟩, (by exact jH (by omega) rfl), (by omega), (by assumption)⟩
    ·
     rintro nj mM ⟨jc, a2, hQ, ha, Z, hm, hjc, rjc, mn⟩
     refine aH _ hm (fun _ => ?_)
     clear hm
     replace hT := hT.mono ha
     refine ao 3 rfl ?_
     refine wR 3 [] 73 73 [] [(73, (iI z))] trivial rfl fun _ => ?_
     refine wR 1 [] 74 75 [] [(74, (.bool (z == 13)))] trivial rfl fun _ => ?_
     refine cT (fun f H' => ∃ (jq : Int) (asl : List Int) (ez : DigT) (J : Option Addr) (T : Nat) (F' : Fz), Fz.le hQ F' ∧ HS (Base.of H []) F' H' [b9, ch, [(I, .cells [(iI ez.n)] none false)], p8, [(A, .cells [(iI z), (iI ja), (iI jb), (iI jc), (iI jq), (.slice J asl.length T)] none false)], ci] R ∧ SR F' (.slice J asl.length T) asl ∧ aT f [(4, (.pointer (some ⟨b3, 0, none⟩))), (9, (.pointer (some ⟨A, 0, none⟩)))] ∧ (gK c.params z jq = true) ∧ (in64 jq) ∧ ((z = 6 ∨ asl.length = 0) ∧ asl.length ≤ 6) ∧ (asl.all (aJ c.regs) = true) ∧ ((z = 6 → (jq = 0 ∧ asl.length = 2 ∨ jq = 1 ∧ asl.length = 1)) ∧ (z = 34 ∨ z = 35 → jq < 2)) ∧ (in64 ez.n)) (fun a6 => ?_) ?_
     ·
      refine am 0 1 (v := (z == 13)) rfl rfl rfl rfl (fun fi => ?_) (fun fi => ?_)
      ·
       try simp only [BS] at fi
       refine ab ?_
       refine wm (.pointer (some ⟨I, 0, none⟩)) rfl rfl rfl ?_
       refine aD (az rfl rfl rfl) rfl rfl (dw ex (⟨a2.n⟩ : DigT) (400) (HS.callOwn Z (i := 2) rfl) (by omega) (by omega) hT (by omega)) ?_
       rintro _ mQ ⟨l0, g1, mw, he, a4, rfl, lT, nu⟩
       replace a4 := HS.backOwn Z (i := 2) rfl rfl (fun _ hb => hb) a4
       have a4 : HS _ _ _ [_, _, [(I, .cells [(iI g1.n)] none false)], _, [(A, .cells [(iI z), (iI ja), (iI jb), (iI jc), (iI 0), (.slice none 0 0)] none false)], _] _ := a4
       replace hT := hT.mono he
       refine wm (iI n) rfl rfl rfl ?_
       refine aD (az rfl rfl rfl) rfl rfl (word_c ex l0 n (HS.call a4) (by omega) (by omega) hT) ?_
       rintro _ mR ⟨h2, kz, h9, bl, rfl, nv⟩
       replace bl := HS.back a4 rfl bl
       have bl : HS _ _ _ [_, _, _, _, _, _] _ := bl
       refine wRo 2 4 [] 80 81 [] [(81, (.pointer (some ⟨A, 4, none⟩)))] trivial rfl fun _ => ?_
       refine aU (aG (q := 4) bl rfl rfl rfl rfl rfl rfl rfl rfl rfl) rfl ?_
       rintro _ mS _ ⟨ei, _⟩
       have ei : HS _ _ _ [_, _, _, _, [(A, .cells [(iI z), (iI ja), (iI jb), (iI jc), (iI h2), (.slice none 0 0)] none false)], _] _ := ei
       refine ai 0 rfl ?_
       exact a6 _ _ ⟨h2, ([] : List Int), (⟨g1.n⟩ : DigT), none, 0, _, (fT (he) h9), ei, (SR.nil : SR kz (.slice none 0 0) ([] : List Int)), ⟨rfl, rfl, trivial⟩, (by exact immT (by omega)), (by assumption), (by (simp <;> omega)), (by rfl), (by omega), (by assumption)⟩
      ·
       try simp only [BS] at fi
       refine wR 1 [] 82 83 [] [(82, (.bool (z == 33)))] trivial rfl fun _ => ?_
       refine am 0 2 (v := (z == 33)) rfl rfl rfl rfl (fun fj => ?_) (fun fj => ?_)
       ·
        try simp only [BS] at fj
        refine ab ?_
        refine wm (.pointer (some ⟨I, 0, none⟩)) rfl rfl rfl ?_
        refine aD (az rfl rfl rfl) rfl rfl (dw ex (⟨a2.n⟩ : DigT) (9) (HS.callOwn Z (i := 2) rfl) (by omega) (by omega) hT (by omega)) ?_
        rintro _ mT ⟨e0, g2, k0, ih, b0, rfl, lU, nw⟩
        replace b0 := HS.backOwn Z (i := 2) rfl rfl (fun _ hb => hb) b0
        have b0 : HS _ _ _ [_, _, [(I, .cells [(iI g2.n)] none false)], _, [(A, .cells [(iI z), (iI ja), (iI jb), (iI jc), (iI 0), (.slice none 0 0)] none false)], _] _ := b0
        refine wRo 3 2 [] 86 88 [] [(86, (iI (e0 - 4))), (88, (.pointer (some ⟨A, 4, none⟩)))] (vA (vi (n := e0 - 4) (by omega)) trivial) rfl fun _ => ?_
        refine aU (aG (q := 4) b0 rfl rfl rfl rfl rfl rfl rfl rfl rfl) rfl ?_
        rintro _ mU _ ⟨el, _⟩
        have el : HS _ _ _ [_, _, _, _, [(A, .cells [(iI z), (iI ja), (iI jb), (iI jc), (iI (e0 - 4)), (.slice none 0 0)] none false)], _] _ := el
        refine ai 0 rfl ?_
        exact a6 _ _ ⟨e0 - 4, ([] : List Int), (⟨g2.n⟩ : DigT), none, 0, _, (ih), el, (SR.nil : SR k0 (.slice none 0 0) ([] : List Int)), ⟨rfl, rfl, trivial⟩, (by exact immT (by omega)), (by omega), (by (simp <;> omega)), (by rfl), (by omega), (by assumption)⟩
       ·
        try simp only [BS] at fj
        refine wR 1 [] 89 90 [] [(89, (.bool (z == 34)))] trivial rfl fun _ => ?_
        refine am 1 0 (v := (z == 34)) rfl rfl rfl rfl (fun co => ?_) (fun co => ?_)
        ·
         have f1 := co
         try simp only [BS] at f1
         refine bh 0 (v := (z == 34)) rfl co rfl rfl ?_
         refine ab ?_
         refine wm (.pointer (some ⟨I, 0, none⟩)) rfl rfl rfl ?_
         refine aD (az rfl rfl rfl) rfl rfl (dw ex (⟨a2.n⟩ : DigT) (2) (HS.callOwn Z (i := 2) rfl) (by omega) (by omega) hT (by omega)) ?_
         rintro _ mV ⟨h3, g3, k3, ik, b2, rfl, lV, nx⟩
         replace b2 := HS.backOwn Z (i := 2) rfl rfl (fun _ hb => hb) b2
         have b2 : HS _ _ _ [_, _, [(I, .cells [(iI g3.n)] none false)], _, [(A, .cells [(iI z), (iI ja), (iI jb), (iI jc), (iI 0), (.slice none 0 0)] none false)], _] _ := b2
         refine wRo 2 2 [] 94 95 [] [(95, (.pointer (some ⟨A, 4, none⟩)))] trivial rfl fun _ => ?_
         refine aU (aG (q := 4) b2 rfl rfl rfl rfl rfl rfl rfl rfl rfl) rfl ?_
         rintro _ mW _ ⟨em, _⟩
         have em : HS _ _ _ [_, _, _, _, [(A, .cells [(iI z), (iI ja), (iI jb), (iI jc), (iI h3), (.slice none 0 0)] none false)], _] _ := em
         refine ai 0 rfl ?_
         exact a6 _ _ ⟨h3, ([] : List Int), (⟨g3.n⟩ : DigT), none, 0, _, (ik), em, (SR.nil : SR k3 (.slice none 0 0) ([] : List Int)), ⟨rfl, rfl, trivial⟩, (by exact immT (by omega)), (by omega), (by (simp <;> omega)), (by rfl), (by omega), (by assumption)⟩
        ·
         have f1 := co
         try simp only [BS] at f1
         refine wR 1 [] 89 91 [] [(89, (.bool (z == 35)))] trivial rfl fun _ => ?_
         refine am 0 1 (v := (z == 35)) rfl rfl rfl rfl (fun f2 => ?_) (fun f2 => ?_)
         ·
          try simp only [BS] at f2
          refine ab ?_
          refine wm (.pointer (some ⟨I, 0, none⟩)) rfl rfl rfl ?_
          refine aD (az rfl rfl rfl) rfl rfl (dw ex (⟨a2.n⟩ : DigT) (2) (HS.callOwn Z (i := 2) rfl) (by omega) (by omega) hT (by omega)) ?_
          rintro _ mX ⟨h4, g4, k4, il, b4, rfl, lW, ny⟩
          replace b4 := HS.backOwn Z (i := 2) rfl rfl (fun _ hb => hb) b4
          have b4 : HS _ _ _ [_, _, [(I, .cells [(iI g4.n)] none false)], _, [(A, .cells [(iI z), (iI ja), (iI jb), (iI jc), (iI 0), (.slice none 0 0)] none false)], _] _ := b4
          refine wRo 2 2 [] 94 95 [] [(95, (.pointer (some ⟨A, 4, none⟩)))] trivial rfl fun _ => ?_
          refine aU (aG (q := 4) b4 rfl rfl rfl rfl rfl rfl rfl rfl rfl) rfl ?_
          rintro _ mY _ ⟨ep, _⟩
          have ep : HS _ _ _ [_, _, _, _, [(A, .cells [(iI z), (iI ja), (iI jb), (iI jc), (iI h4), (.slice none 0 0)] none false)], _] _ := ep
          refine ai 0 rfl ?_
          exact a6 _ _ ⟨h4, ([] : List Int), (⟨g4.n⟩ : DigT), none, 0, _, (il), ep, (SR.nil : SR k4 (.slice none 0 0) ([] : List Int)), ⟨rfl, rfl, trivial⟩, (by exact immT (by omega)), (by omega), (by (simp <;> omega)), (by rfl), (by omega), (by assumption)⟩
         ·
          try simp only [BS] at f2
          refine wR 1 [] 96 97 [] [(96, (.bool (z == 6)))] trivial rfl fun _ => ?_
          refine am 1 0 (v := (z == 6)) rfl rfl rfl rfl (fun f3 => ?_) (fun f3 => ?_)
          ·
           try simp only [BS] at f3
           refine ab ?_
           refine wm (.pointer (some ⟨I, 0, none⟩)) rfl rfl rfl ?_
           refine aD (az rfl rfl rfl) rfl rfl (dw ex (⟨a2.n⟩ : DigT) (2) (HS.callOwn Z (i := 2) rfl) (by omega) (by omega) hT (by omega)) ?_
           rintro _ mZ ⟨aq, g5, hR, hg, b5, rfl, lX, nz⟩
           replace b5 := HS.backOwn Z (i := 2) rfl rfl (fun _ hb => hb) b5
           have b5 : HS _ _ _ [_, _, [(I, .cells [(iI g5.n)] none false)], _, [(A, .cells [(iI z), (iI ja), (iI jb), (iI jc), (iI 0), (.slice none 0 0)] none false)], _] _ := b5
           refine wRo 2 2 [] 100 101 [] [(101, (.pointer (some ⟨A, 4, none⟩)))] trivial rfl fun _ => ?_
           refine aU (aG (q := 4) b5 rfl rfl rfl rfl rfl rfl rfl rfl rfl) rfl ?_
           rintro _ m0 _ ⟨c4, _⟩
           have c4 : HS _ _ _ [_, _, _, _, [(A, .cells [(iI z), (iI ja), (iI jb), (iI jc), (iI aq), (.slice none 0 0)] none false)], _] _ := c4
           refine ai 2 rfl ?_
           refine wR 2 [(2, .o (iI aq))] 102 105 [13] [(13, (iI (2 - aq)))] (vA (ql 2 4 (HS.hc c4 (i := 4) rfl) rfl rfl) (vA (vi (n := 2 - aq) (by omega)) trivial)) rfl fun _ => ?_
           have es := HS.snoc c4
           have es : HS _ _ _ [_, _, _, _, _, _, []] _ := es
           refine aC (fun (mm : Nat) f H' => ∃ (kk : Int) (al : List Int) (dl : DigT) (V : Fp) (O : Option Addr) (U : Nat) (F' : Fz), Fz.le hR F' ∧ HS (Base.of H []) F' H' [b9, ch, [(I, .cells [(iI dl.n)] none false)], p8, [(A, .cells [(iI z), (iI ja), (iI jb), (iI jc), (iI aq), (.slice O al.length U)] none false)], ci, V] R ∧ OS F' (.slice O al.length U) al V ∧ aT f [(3, (.pointer (some ⟨b1, 0, none⟩))), (4, (.pointer (some ⟨b3, 0, none⟩))), (5, (.pointer (some ⟨I, 0, none⟩))), (9, (.pointer (some ⟨A, 0, none⟩))), (13, (iI kk))] ∧ mm = kk.toNat ∧ ((al.length : Int) + kk = 2 - aq ∧ 0 ≤ kk) ∧ (al.all (aJ c.regs) = true) ∧ (in64 dl.n) ∧ (kk ≤ 2)) _ ⟨2 - aq, ([] : List Int), (⟨g5.n⟩ : DigT), [], none, 0, _, fR, es, (OS.nil : OS hR (.slice none 0 0) ([] : List Int) []), ⟨rfl, rfl, rfl, rfl, rfl, trivial⟩, rfl, (by simp; omega), (by rfl), (by omega), (by omega)⟩ ?_
           rintro mg nm m9 ⟨kk, al, dl, V, O, U, mx, dv, a0, ad, hq, rfl, q1, q2, q3, q4⟩ i2
           refine aH _ hq (fun _ => ?_)
           clear hq
           replace hT := (hT.mono hg).mono dv
           refine ao 2 rfl ?_
           refine wR 1 [] 106 107 [] [(107, (.bool (decide ((0 : Int) < kk))))] trivial rfl fun _ => ?_
           refine am 3 3 (v := (decide ((0 : Int) < kk))) rfl rfl rfl rfl (fun f4 => ?_) (fun f4 => ?_)
           ·
            try simp only [BS] at f4
            refine aV rfl ?_
            refine wfv (v := (.pointer (some ⟨A, 5, none⟩))) (bQ rfl rfl) ?_
            refine au (v := (.slice O al.length U)) (id := .l A) (aP (i := 5) rfl rfl (HS.hc a0.log0 (i := 4) rfl) rfl rfl) rfl rfl (bg rfl) (kb rfl) ?_
            refine fm (.pointer (some ⟨I, 0, none⟩)) rfl rfl rfl ?_
            refine wfv (v := (.pointer (some ⟨b1, 1, none⟩))) (bQ rfl rfl) ?_
            refine au (v := (iI c.regs)) (id := .l b1) (aP (i := 1) rfl rfl (HS.hc a0.log0 (i := 0) rfl) rfl rfl) rfl rfl (bg rfl) (kb rfl) ?_
            refine de (W := [I]) (az rfl rfl rfl) rfl rfl rfl (dw ex (⟨dl.n⟩ : DigT) c.regs (HS.callOwn a0.log0 (i := 2) rfl) (by omega) (by omega) hT (by omega)) (⟨.inl rfl, ⟨.inl rfl, ⟨.inl rfl, ⟨.inr (HS.nin a0 (i := 4) (j := 2) rfl rfl (by decide) (by simp)), ⟨.inr trivial, trivial⟩⟩⟩⟩⟩) ?_
            rintro _ k5 ⟨b7, g6, my, hh, ag, rfl, lY, nA⟩
            refine ⟨HS.didW ag, fun i3 hL => ?_⟩
            replace ag := HS.backOwn a0.log0 (i := 2) rfl rfl (fun _ hb => hb) ag
            replace ag := HS.lg ag a0 hL
            generalize ({ k5 with log := i3 } : Heap) = l1 at ag ⊢
            have ag : HS _ _ _ [_, _, [(I, .cells [(iI g6.n)] none false)], _, [(A, .cells [(iI z), (iI ja), (iI jb), (iI jc), (iI aq), (.slice O al.length U)] none false)], _, V] _ := ag
            replace ad := ad.mono hh
            refine dO (id := .a) (ct (α := Int) (ps := [(0, (iI b7))]) (cells := [(iI b7)]) ([b7] : List Int) ag.log0 rfl rfl rfl (by kernel_rfl) ⟨[(iI b7)], [], rfl, ⟨rfl, by omega⟩, rfl⟩ rfl) rfl rfl (fun _ _ _ _ => did_a rfl rfl rfl) (kb rfl) ?_
            rintro _ k6 lZ ⟨ne, nC, rfl, iz, aj, _⟩ j2 hM
            replace aj := HS.lg aj ag hM
            generalize ({ k6 with log := j2 } : Heap) = l2 at aj ⊢
            have aj : HS _ _ _ [_, _, _, _, _, _, _, lZ] _ := aj
            refine dO (id := .x (V.map Prod.fst)) (cQ (α := Int) (q := 6) ad aj.log0 rfl rfl rfl (OS.sv iz aj.log0 (i := 7) rfl) rfl rfl rfl rfl rfl rfl rfl (by (simp only [List.length_cons, List.length_nil]; omega))) rfl rfl (by rintro _ _ hH ⟨e2, hE, rfl, ht, _, hwr⟩; exact cF rfl rfl (Wr.did hwr)) (kb rfl) ?_
            rintro _ k7 hH ⟨e2, hE, rfl, ht, a1, _⟩ kd hN
            replace a1 := HS.lg a1 aj hN
            generalize ({ k7 with log := kd } : Heap) = l3 at a1 ⊢
            have a1 : HS _ _ _ [_, _, _, _, _, _, hH, _] _ := a1
            refine wfv (v := (.pointer (some ⟨A, 5, none⟩))) (bQ rfl rfl) ?_
            refine eu (id := .x [A]) (aG (q := 4) a1.log0 rfl rfl rfl rfl rfl rfl rfl rfl rfl) rfl (by rintro _ _ _ ⟨_, hwr⟩; exact cF rfl rfl (Wr.did hwr)) (kb rfl) ?_
            rintro _ k9 _ ⟨a5, _⟩ ki hP
            replace a5 := HS.lg a5 a1 hP
            generalize ({ k9 with log := ki } : Heap) = l4 at a5 ⊢
            have a5 : HS _ _ _ [_, _, _, _, [(A, .cells [(iI z), (iI ja), (iI jb), (iI jc), (iI aq), (.slice e2 (al ++ ([b7] : List Int)).length hE)] none false)], _, _, _] _ := a5
            refine bZ ?_
            refine ao 2 rfl ?_
            refine wR 1 [] 108 109 [13] [(13, (iI (kk - 1)))] (vA (vi (n := kk - 1) (by omega)) trivial) rfl fun _ => ?_
            refine i2 _ _ _ ?_ ⟨kk - 1, al ++ ([b7] : List Int), (⟨g6.n⟩ : DigT), hH, e2, hE, _, (fT (dv) hh), (HS.sub a5 (List.sublist_append_left _ _)), ht, ⟨rfl, rfl, rfl, rfl, rfl, trivial⟩, rfl, (by simp; omega), (by exact all_app q2 (bp.2 (by omega))), (by omega), (by omega)⟩
            omega
           ·
            try simp only [BS] at f4
            obtain ⟨mz, iv, et, i1, l9⟩ := OS.frz ad a0 (i := 6) rfl
            have et : HS _ _ _ [_, _, [(I, .cells [(iI dl.n)] none false)], _, [(A, .cells [(iI z), (iI ja), (iI jb), (iI jc), (iI aq), (.slice O al.length U)] none false)], _, _] _ := et
            exact a6 _ _ ⟨aq, al, (⟨dl.n⟩ : DigT), O, U, _, (fT (fT (hg) dv) iv), (HS.sub et (List.sublist_append_left _ _)), i1, ⟨rfl, rfl, trivial⟩, (by exact immT (by omega)), (by omega), (by omega), (by assumption), (by omega), (by omega)⟩
          ·
           try simp only [BS] at f3
           exact a6 _ _ ⟨0, ([] : List Int), (⟨a2.n⟩ : DigT), none, 0, _, fR, Z, (SR.nil : SR hQ (.slice none 0 0) ([] : List Int)), ⟨rfl, rfl, trivial⟩, (by exact immT (by omega)), (by omega), (by (simp <;> omega)), (by rfl), (by omega), (by assumption)⟩
     ·
      rintro nk mP ⟨jq, asl, ez, J, T, mv, h8, hv, dk, hp, hjq, rjq, hW, c8, hck, mo⟩
      refine aH _ hp (fun _ => ?_)
      clear hp
      refine ao 3 rfl ?_
      refine ab ?_
      let hK : Value := (.agg ⟨[(iI z), (iI ja), (iI jb), (iI jc), (iI jq), (.slice J asl.length T)]⟩)
      refine wRo 1 0 [(0, .o hK)] 119 119 [] [(119, hK)] (vA (qn 47 0 6 (HS.hc hv (i := 4) rfl) rfl rfl rfl rfl) trivial) rfl fun _ => ?_
      refine aU (aG (q := 1) hv rfl rfl rfl rfl rfl rfl rfl rfl rfl) rfl ?_
      rintro _ na _ ⟨c5, _⟩
      have c5 : HS _ _ _ [_, [(b3, .cells [(iI z), (iI ja), (iI jb), (iI jc), (iI jq), (.slice J asl.length T)] none false)], [(I, .cells [(iI ez.n)] none false)], _, [(A, .cells [(iI z), (iI ja), (iI jb), (iI jc), (iI jq), (.slice J asl.length T)] none false)], _] _ := c5
      refine ai 1 rfl ?_
      refine ah ⟨.inr rfl, _, (rC rfl (ldVN rfl rfl (HS.hc c5 (i := 1) rfl) rfl) rN), (⟨(⟨z, ja, jb, jc, jq⟩ : InsT), asl⟩ : VInT), J, T, _, (fT (fT (fT (fT (fT (fT (ds) dt) g7) g8) g9) ha) h8), (HS.forget c5), rfl, (by (dsimp only; omega)), (by omega), (by omega), (by omega), (by omega), dk, (by exact vin_mk ho.2 hW.1 hW.2 c8 hja hjb hjc hjq), (by exact decide_eq_true hck)⟩
end Go.Proofs.YtlabedbmgmfbaaaDoor.m4
