/-
 The generator of virtual code, by symbolic runs: what it makes is valid. No condition but that the table lies as laid.
-/
import Derived.Test.YtknafdcgpaejlaaDoorZGM3
noncomputable section
namespace Go.Proofs.YtknafdcgpaejlaaDoor.m4
open Go.R
set_option maxRecDepth 10000
set_option linter.unusedVariables false
set_option linter.unusedSimpArgs false
variable (ex : FuncId) {F : Fz} {H : Heap} {R : List Fp}
open m1 m2 m3
theorem wr64 (n : Int) : in64 (IntKind.i64.wrap n) := w64_in n
theorem td64 (n : Int) {m : Int} (h : 0 < m) : in64 (Int.tdiv (IntKind.i64.wrap n) m) := vq (wr64 n) (by omega)
theorem opOK_t {p : Prop} [Decidable p] {n r : Int} (h : p) (hn : 0 ≤ n ∧ n < r) : dr (decide p) n r = true := by rw [decide_eq_true h]; exact aV.2 hn
theorem iM {p : Prop} [Decidable p] {n r : Int} (h : ¬ p) (hn : n = 0) : dr (decide p) n r = true := by rw [decide_eq_false h, hn]; rfl
def opG (op : Int) : Prop := (op = 3 ∨ op = 6 ∨ (9 ≤ op ∧ op ≤ 13) ∨ (15 ≤ op ∧ op ≤ 35)) ∧ alV op = true
theorem ops_al {op : Int} (h : 15 ≤ op ∧ op ≤ 32) : opG op := ⟨by omega, decide_eq_true (by omega)⟩
theorem lit12 {k : Nat} (h : k < 12) : opG (([3, 6, 9, 10, 11, 12, 13, 33, 34, 35, 10, 9] : List Int).getD k 0) := by
 have : ∀ k : Fin 12, ((([3, 6, 9, 10, 11, 12, 13, 33, 34, 35, 10, 9] : List Int).getD k.val 0) = 3 ∨ (([3, 6, 9, 10, 11, 12, 13, 33, 34, 35, 10, 9] : List Int).getD k.val 0) = 6 ∨ (9 ≤ (([3, 6, 9, 10, 11, 12, 13, 33, 34, 35, 10, 9] : List Int).getD k.val 0) ∧ (([3, 6, 9, 10, 11, 12, 13, 33, 34, 35, 10, 9] : List Int).getD k.val 0) ≤ 13) ∨ (15 ≤ (([3, 6, 9, 10, 11, 12, 13, 33, 34, 35, 10, 9] : List Int).getD k.val 0) ∧ (([3, 6, 9, 10, 11, 12, 13, 33, 34, 35, 10, 9] : List Int).getD k.val 0) ≤ 35)) ∧ alV (([3, 6, 9, 10, 11, 12, 13, 33, 34, 35, 10, 9] : List Int).getD k.val 0) = true := by decide
 exact this ⟨k, h⟩
theorem immT {p op n : Int} (h : op = 13 ∨ op = 33 ∧ -4194304 ≤ n ∧ n < 4194304 ∨ op = 6 ∧ 0 ≤ n ∧ n < 8 ∨ (op = 34 ∨ op = 35) ∧ 0 ≤ n ∧ n < 4 ∨ (op ≠ 13 ∧ op ≠ 33 ∧ op ≠ 6 ∧ op ≠ 34 ∧ op ≠ 35 ∧ op ≠ 38) ∧ n = 0) : gy p op n = true := by
 unfold gy
 (repeat' split) <;> first | rfl | (apply decide_eq_true; omega) | (exfalso; omega)
theorem all_app {p : Int → Bool} {l : List Int} {x : Int} (h : l.all p = true) (hx : p x = true) : (l ++ [x]).all p = true := by rw [a25, h]; simp [hx]
theorem vin_mk {params regs op a b c n : Int} {l : List Int} (z : alV op = true) (A : op = 6 ∨ l.length = 0) (E : l.length ≤ 6) (J : l.all (aN regs) = true) (N : dr (decide (aA op ≠ 1)) a regs = true) (T : dr (decide (aA op = 3 ∨ aA op = 4 ∨ aA op = 7)) b regs = true) (U : dr (decide (aA op = 4)) c regs = true) (V : gy params op n = true) : eI params regs ⟨⟨op, a, b, c, n⟩, l⟩ = true := by
 unfold eI
 simp only [z, decide_eq_true A, decide_eq_true E, J, N, T, U, V, a1d]
def ckI (v : VInT) : Bool := decide ((v.i.op = 6 → (v.i.n = 0 ∧ v.args.length = 2 ∨ v.i.n = 1 ∧ v.args.length = 1)) ∧ (v.i.op = 34 ∨ v.i.op = 35 → v.i.n < 2))
theorem cv {b_d : Nat} (d : DigT) (m : Int) (hs : HS (.of H [b_d]) F H [[(b_d, .cells [(iI d.n)] none false)]] R) (A : in64 d.n) (hm : in64 m) (hT : TB 37 tabC F) (hm : 0 < m) : kKt ex 46 [(.pointer (some ⟨b_d, 0, none⟩)), (iI m)] H fun v H' => ∃ (r : Int) (d' : DigT) (F' : Fz), Fz.le F F' ∧ HS (.of H [b_d]) F' H' [[(b_d, .cells [(iI d'.n)] none false)]] R ∧ v = .int .i64 r ∧ in64 d'.n ∧ (0 ≤ r ∧ r < m) := by
 refine aI Tryd.func46 rfl rfl (ah 1 rfl (wT 2 [] 4 4 [] [(4, (iI 0))] rfl fun _ => ?_))
 have E := eZ d.n m
 refine wR 2 [(3, .o (iI d.n)), (5, .o (iI (bJ d.n m)))] 6 11 [5] [(5, (iI (bJ d.n m)))] (vA (ql 3 0 (HS.hc hs (i := 0) rfl) rfl rfl) (vA (m1.fM ex d.n m H (by omega)) trivial)) rfl fun _ => aa (wRo 11 0 [(4, .o (iI d.n)), (6, .w)] 12 22 [] [(20, (iI (Int.tdiv (IntKind.i64.wrap (d.n - (bJ d.n m))) m))), (22, (.pointer (some ⟨b_d, 0, none⟩)))] (vA (ql 3 0 (HS.hc hs (i := 0) rfl) rfl rfl) (vA (vA (show m ≠ 0 from by omega) (vq (a := IntKind.i64.wrap (d.n - (bJ d.n m))) (b := m) (wr64 _) (by omega))) trivial)) rfl fun _ => aL (aE (q := 0) hs rfl rfl rfl rfl rfl rfl rfl rfl rfl) rfl ?_)
 rintro _ J _ ⟨(z : HS _ _ _ [[(b_d, .cells [(iI (Int.tdiv (IntKind.i64.wrap (d.n - (bJ d.n m))) m))] none false)]] _), _⟩
 refine ae 2 rfl (wT 1 [] 4 4 [23] [(4, (iI (bJ d.n m)))] rfl fun _ => ak ⟨.inr rfl, _, rfl, bJ d.n m, (⟨Int.tdiv (IntKind.i64.wrap (d.n - (bJ d.n m))) m⟩ : DigT), _, fR, (HS.first z), rfl, (td64 _ (by omega)), (by omega)⟩)
theorem word_c (n : Int) (raw : Int) (hs : HS (.of H []) F H [] R) (hn : in64 n) (hraw : in64 raw) (hT : TB 37 tabC F) : kKt ex 47 [(iI n), (iI raw)] H fun v H' => ∃ (r : Int) (F' : Fz), Fz.le F F' ∧ HS (.of H []) F' H' [] R ∧ v = .int .i64 r ∧ (in64 r) := by
 refine aI Tryd.func47 rfl rfl (ah 1 rfl (wT 2 [] 4 4 [] [(4, (iI 0))] rfl fun _ => aa (aH (bu (α := Int) (ps := [(0, (iI 0)), (1, (iI 1)), (2, (iI (-1))), (3, (iI 2)), (4, (iI (-9223372036854775808))), (5, (iI 9223372036854775807)), (6, (iI 4294967296)), (7, (iI (-2147483648))), (8, (iI 63)), (9, (iI 64))]) (cells := [(iI 0), (iI 1), (iI (-1)), (iI 2), (iI (-9223372036854775808)), (iI 9223372036854775807), (iI 4294967296), (iI (-2147483648)), (iI 63), (iI 64)]) ([0, 1, (-1), 2, (-9223372036854775808), 9223372036854775807, 4294967296, (-2147483648), 63, 64] : List Int) hs rfl rfl rfl (by kernel_rfl) ⟨[(iI 0)], _, rfl, ⟨rfl, by omega⟩, ⟨[(iI 1)], _, rfl, ⟨rfl, by omega⟩, ⟨[(iI (-1))], _, rfl, ⟨rfl, by omega⟩, ⟨[(iI 2)], _, rfl, ⟨rfl, by omega⟩, ⟨[(iI (-9223372036854775808))], _, rfl, ⟨rfl, by omega⟩, ⟨[(iI 9223372036854775807)], _, rfl, ⟨rfl, by omega⟩, ⟨[(iI 4294967296)], _, rfl, ⟨rfl, by omega⟩, ⟨[(iI (-2147483648))], _, rfl, ⟨rfl, by omega⟩, ⟨[(iI 63)], _, rfl, ⟨rfl, by omega⟩, ⟨[(iI 64)], _, rfl, ⟨rfl, by omega⟩, rfl⟩⟩⟩⟩⟩⟩⟩⟩⟩⟩ rfl) rfl rfl ?_)))
 rintro _ V p2 ⟨Y, k2, rfl, N, (z : HS _ _ _ [p2] _), _⟩
 refine wa (.slice Y ([0, 1, (-1), 2, (-9223372036854775808), 9223372036854775807, 4294967296, (-2147483648), 63, 64] : List Int).length k2) rfl rfl rfl (ae 2 rfl ?_)
 have an := eZ n (24 : Int)
 refine wU 4 [(1, .o (iI (bJ n (24 : Int))))] 8 9 [6] [(6, (iI (bJ n (24 : Int))))] (m1.fM ex n (24) V (by omega)) rfl fun _ => wT 1 [] 10 12 [] [(10, (.bool (decide (bJ n (24 : Int) < 10))))] rfl fun _ => am 1 1 (v := (decide (bJ n (24 : Int) < 10))) rfl rfl rfl rfl (fun J => ?_) (fun J => ?_)
 ·
  have U := J
  try simp only [BS] at U
  obtain ⟨al, T⟩ := Sv.view (OS.sv N z (i := 0) rfl)
  have g9 := fI (T (bJ n (24 : Int)).toNat)
  refine wR 1 [(3, .o (iI (([0, 1, (-1), 2, (-9223372036854775808), 9223372036854775807, 4294967296, (-2147483648), 63, 64] : List Int).getD (bJ n (24 : Int)).toNat 0)))] 13 16 [4] [(4, (iI (([0, 1, (-1), 2, (-9223372036854775808), 9223372036854775807, 4294967296, (-2147483648), 63, 64] : List Int).getD (bJ n (24 : Int)).toNat 0)))] (vA (Sv.ix (j := bJ n (24 : Int)) (OS.sv N z (i := 0) rfl) (by omega) (show bJ n (24 : Int) < (10 : Int) from by omega)) (vA (ql 2 0 (vI (T (bJ n (24 : Int)).toNat) (show (bJ n (24 : Int)).toNat < 10 from by omega)) rfl rfl) trivial)) rfl fun _ => ak ⟨.inr rfl, _, rfl, (([0, 1, (-1), 2, (-9223372036854775808), 9223372036854775807, 4294967296, (-2147483648), 63, 64] : List Int).getD (bJ n (24 : Int)).toNat 0), _, fR, (HS.forget z), rfl, (by omega)⟩
 have U := J
 try simp only [BS] at U
 refine wT 1 [] 17 19 [] [(17, (.bool (decide (bJ n (24 : Int) < 22))))] rfl fun _ => am 1 3 (v := (decide (bJ n (24 : Int) < 22))) rfl rfl rfl rfl (fun A => ?_) (fun A => ?_)
 ·
  have E := A
  try simp only [BS] at E
  have ag : in64 n → in64 (Int.tdiv n 24) := fun h => vq h (by decide)
  have Z := eZ (Int.tdiv n 24) (17 : Int)
  refine wR 1 [(2, .o (iI (bJ (Int.tdiv n 24) (17 : Int))))] 20 23 [4] [(4, (iI ((bJ (Int.tdiv n 24) (17 : Int)) - 6)))] (vA (vA (show (24 : Int) ≠ 0 from by decide) (vq (a := n) (b := 24) (by omega) (by decide))) (vA (m1.fM ex (Int.tdiv n 24) (17) V (by omega)) (vA (vi (n := (bJ (Int.tdiv n 24) (17 : Int)) - 6) (by omega)) trivial))) rfl fun _ => ak ⟨.inr rfl, _, rfl, (bJ (Int.tdiv n 24) (17 : Int)) - 6, _, fR, (HS.forget z), rfl, (by omega)⟩
 have E := A
 try simp only [BS] at E
 refine wT 1 [] 4 4 [24] [(4, (iI raw))] rfl fun _ => ak ⟨.inr rfl, _, rfl, raw, _, fR, (HS.forget z), rfl, (by omega)⟩
set_option maxHeartbeats 1000000 in
theorem vi_c (n : Int) {cc : Option Addr} {es : Nat} (c : VFnT) (hs : HS (.of H []) F H [] R) (hn : in64 n) (lw : in64 c.params) (lz : in64 c.regs) (hT : TB 37 tabC F) (hr : 1 ≤ c.regs ∧ c.regs ≤ 3000) : kKt ex 31 [(iI n), (.agg ⟨[(iI c.params), (iI c.regs), (.slice cc c.blocks.length es)]⟩)] H fun v H' => ∃ (x : VInT) (e3 : Option Addr) (hF : Nat) (F' : Fz), Fz.le F F' ∧ HS (.of H []) F' H' [] R ∧ v = .agg ⟨[.int .i64 x.i.op, .int .i64 x.i.a, .int .i64 x.i.b, .int .i64 x.i.c, .int .i64 x.i.n, .slice e3 x.args.length hF]⟩ ∧ in64 x.i.op ∧ in64 x.i.a ∧ in64 x.i.b ∧ in64 x.i.c ∧ in64 x.i.n ∧ SR F' (.slice e3 x.args.length hF) x.args ∧ (eI c.params c.regs x = true) ∧ (ckI x = true) := by
 refine aI Tryd.func31 rfl rfl (ah 1 rfl (aa (aH (bw hs rfl rfl) rfl rfl ?_)))
 rintro _ H2 _ ⟨b1, rfl, (hq : HS _ _ _ [[(b1, .cells [(iI c.params), (iI c.regs), (.slice cc c.blocks.length es)] none false)]] _), _⟩
 refine aH (bp hq rfl) rfl rfl ?_
 rintro _ H4 _ ⟨b3, rfl, (lh : HS _ _ _ [_, [(b3, .cells [(iI 0), (iI 0), (iI 0), (iI 0), (iI 0), (.slice none 0 0)] none false)]] _), _⟩
 refine ae 2 rfl (aa (wTo 2 0 [] 14 15 [] [(15, (.agg ⟨[(iI n)]⟩))] rfl fun _ => aH (bw lh rfl rfl) rfl rfl ?_))
 rintro _ H7 _ ⟨E, rfl, (lj : HS _ _ _ [_, _, [(E, .cells [(iI n)] none false)]] _), _⟩
 refine wa (.pointer (some ⟨E, 0, none⟩)) rfl rfl rfl (ae 2 rfl (aa (aH (bu (α := Int) (ps := [(0, (iI 3)), (1, (iI 6)), (2, (iI 9)), (3, (iI 10)), (4, (iI 11)), (5, (iI 12)), (6, (iI 13)), (7, (iI 33)), (8, (iI 34)), (9, (iI 35)), (10, (iI 10)), (11, (iI 9))]) (cells := [(iI 3), (iI 6), (iI 9), (iI 10), (iI 11), (iI 12), (iI 13), (iI 33), (iI 34), (iI 35), (iI 10), (iI 9)]) ([3, 6, 9, 10, 11, 12, 13, 33, 34, 35, 10, 9] : List Int) lj rfl rfl rfl (by kernel_rfl) ⟨[(iI 3)], _, rfl, ⟨rfl, by omega⟩, ⟨[(iI 6)], _, rfl, ⟨rfl, by omega⟩, ⟨[(iI 9)], _, rfl, ⟨rfl, by omega⟩, ⟨[(iI 10)], _, rfl, ⟨rfl, by omega⟩, ⟨[(iI 11)], _, rfl, ⟨rfl, by omega⟩, ⟨[(iI 12)], _, rfl, ⟨rfl, by omega⟩, ⟨[(iI 13)], _, rfl, ⟨rfl, by omega⟩, ⟨[(iI 33)], _, rfl, ⟨rfl, by omega⟩, ⟨[(iI 34)], _, rfl, ⟨rfl, by omega⟩, ⟨[(iI 35)], _, rfl, ⟨rfl, by omega⟩, ⟨[(iI 10)], _, rfl, ⟨rfl, by omega⟩, ⟨[(iI 9)], _, rfl, ⟨rfl, by omega⟩, rfl⟩⟩⟩⟩⟩⟩⟩⟩⟩⟩⟩⟩ rfl) rfl rfl ?_)))
 rintro _ H9 p8 ⟨a8, k8, rfl, et, (hX : HS _ _ _ [_, _, _, p8] _), _⟩
 refine wa (.slice a8 ([3, 6, 9, 10, 11, 12, 13, 33, 34, 35, 10, 9] : List Int).length k8) rfl rfl rfl (ae 2 rfl (aa (wm (.pointer (some ⟨E, 0, none⟩)) rfl rfl rfl (az (ap rfl rfl rfl) rfl rfl (cv ex (⟨n⟩ : DigT) (18) (HS.callOwn hX (i := 2) rfl) (by omega) (by omega) hT (by omega)) ?_))))
 rintro _ lS ⟨hH, f6, lI, c8, a9, rfl, k3, mI⟩
 replace a9 : HS _ _ _ [_, _, [(E, .cells [(iI f6.n)] none false)], _] _ := HS.backOwn hX (i := 2) rfl rfl (fun _ hb => hb) a9
 replace hT := hT.mono c8
 refine wUo 2 2 [] 20 20 [7] [(7, (iI (15 + hH)))] (vi (n := 15 + hH) (by omega)) rfl fun _ => ae 3 rfl (aa (wm (.pointer (some ⟨E, 0, none⟩)) rfl rfl rfl (az (ap rfl rfl rfl) rfl rfl (cv ex (⟨f6.n⟩ : DigT) (24) (HS.callOwn a9 (i := 2) rfl) (by omega) (by omega) hT (by omega)) ?_)))
 rintro _ hV ⟨an, c7, lJ, c9, a2, rfl, k4, mJ⟩
 replace a2 : HS _ _ _ [_, _, [(E, .cells [(iI c7.n)] none false)], _] _ := HS.backOwn a9 (i := 2) rfl rfl (fun _ hb => hb) a2
 replace hT := hT.mono c9
 replace et := (et.mono c8).mono c9
 refine wa (iI an) rfl rfl rfl (ae 2 rfl (wT 1 [] 23 26 [] [(26, (.bool (decide (an < 12))))] rfl fun _ => bN (fun f H' => ∃ (z : Int), H' = hV ∧ aD f [(0, (iI n)), (3, (.pointer (some ⟨b1, 0, none⟩))), (4, (.pointer (some ⟨b3, 0, none⟩))), (5, (.pointer (some ⟨E, 0, none⟩))), (7, (iI z))] ∧ (opG z)) (fun hA => ?_) ?_))
 ·
  refine am 0 0 (v := (decide (an < 12))) rfl rfl rfl rfl (fun ch => ?_) (fun ch => ?_)
  ·
   have e5 := ch
   try simp only [BS] at e5
   obtain ⟨lv, hz⟩ := Sv.view (OS.sv et a2 (i := 3) rfl)
   have mH := fI (hz an.toNat)
   refine wR 0 [(3, .o (iI (([3, 6, 9, 10, 11, 12, 13, 33, 34, 35, 10, 9] : List Int).getD an.toNat 0)))] 27 30 [7] [(7, (iI (([3, 6, 9, 10, 11, 12, 13, 33, 34, 35, 10, 9] : List Int).getD an.toNat 0)))] (vA (Sv.ix (j := an) (OS.sv et a2 (i := 3) rfl) (by omega) (show an < (12 : Int) from by omega)) (vA (ql 3 0 (vI (hz an.toNat) (show an.toNat < 12 from by omega)) rfl rfl) trivial)) rfl fun _ => ?_
   exact hA _ _ ⟨(([3, 6, 9, 10, 11, 12, 13, 33, 34, 35, 10, 9] : List Int).getD an.toNat 0), rfl, ⟨rfl, rfl, rfl, rfl, rfl, trivial⟩, (lit12 (by omega))⟩
  have e5 := ch
  try simp only [BS] at e5
  exact hA _ _ ⟨15 + hH, rfl, ⟨rfl, rfl, rfl, rfl, rfl, trivial⟩, (ops_al (by omega))⟩
 skip
 rintro mB hV ⟨z, rfl, hg, ho⟩
 refine au _ hg (fun _ => ?_)
 clear hg
 have hf := aZ ho.2
 have hvf : aA z = (aM z).form := if_neg (by have := ho.1; omega)
 have mU := ho.1
 refine ah 2 rfl (aa (wTo 3 0 [] 31 33 [] [(33, (.agg ⟨[(iI z), (iI 0), (iI 0), (iI 0), (iI 0), (.slice none 0 0)]⟩))] rfl fun _ => aH (bp a2 rfl) rfl rfl ?_))
 rintro _ lT _ ⟨A, rfl, (iz : HS _ _ _ [_, _, _, _, [(A, .cells [(iI 0), (iI 0), (iI 0), (iI 0), (iI 0), (.slice none 0 0)] none false)]] _), _⟩
 refine aL (aE (q := 4) iz rfl rfl rfl rfl rfl rfl rfl rfl rfl) rfl ?_
 rintro _ lU _ ⟨(ht : HS _ _ _ [_, _, _, _, [(A, .cells [(iI z), (iI 0), (iI 0), (iI 0), (iI 0), (.slice none 0 0)] none false)]] _), _⟩
 refine ae 2 rfl (aa (wm (iI z) rfl rfl rfl (az (ap rfl rfl rfl) rfl rfl (m1.rInfo_c ex z (HS.call ht) (by omega) hT) ?_)))
 rintro _ lV ⟨mX, mW, kx, g5, dk, rfl, ko, kr, rfl, rfl⟩
 replace dk : HS _ _ _ [_, _, _, _, _] _ := HS.back ht rfl dk
 replace hT := hT.mono g5
 refine wTo 3 2 [] 37 38 [34] [(37, (.agg ⟨[(.string ⟨⟨(aM z).name.b⟩⟩), (iI (aM z).form), (.bool (aM z).ra), (.bool (aM z).wa), (.bool (aM z).rb), (.bool (aM z).mt), (iI (aM z).words)]⟩)), (38, (.bool (infO z)))] rfl fun _ => aH (bp dk rfl) rfl rfl ?_
 rintro _ lW _ ⟨e4, rfl, (i1 : HS _ _ _ [_, _, _, _, _, [(e4, .cells [(.string ⟨⟨[]⟩⟩), (iI 0), (.bool false), (.bool false), (.bool false), (.bool false), (iI 0)] none false)]] _), _⟩
 refine aL (aE (q := 5) i1 rfl rfl rfl rfl rfl rfl rfl rfl rfl) rfl ?_
 rintro _ lX _ ⟨(a3 : HS _ _ _ [_, _, _, _, _, [(e4, .cells [(.string ⟨⟨(aM z).name.b⟩⟩), (iI (aM z).form), (.bool (aM z).ra), (.bool (aM z).wa), (.bool (aM z).rb), (.bool (aM z).mt), (iI (aM z).words)] none false)]] _), _⟩
 let b4 : Fp := [(b1, .cells [(iI c.params), (iI c.regs), (.slice cc c.blocks.length es)] none false)]
 let b7 : Fp := [(b3, .cells [(iI 0), (iI 0), (iI 0), (iI 0), (iI 0), (.slice none 0 0)] none false)]
 let b9 : Fp := [(e4, .cells [(.string ⟨⟨(aM z).name.b⟩⟩), (iI (aM z).form), (.bool (aM z).ra), (.bool (aM z).wa), (.bool (aM z).rb), (.bool (aM z).mt), (iI (aM z).words)] none false)]
 refine wa (.bool (infO z)) rfl rfl rfl (ae 2 rfl (wU 3 [(1, .o (iI (aM z).form))] 39 40 [12] [(12, (iI (aM z).form))] (ql 3 1 (HS.hc a3 (i := 5) rfl) rfl rfl) rfl fun _ => wT 1 [] 41 42 [] [(42, (.bool ((aM z).form != 1)))] rfl fun _ => bN (fun f H' => ∃ (ja : Int) (bz : DigT) (F' : Fz), Fz.le kx F' ∧ HS (Base.of H []) F' H' [b4, b7, [(E, .cells [(iI bz.n)] none false)], p8, [(A, .cells [(iI z), (iI ja), (iI 0), (iI 0), (iI 0), (.slice none 0 0)] none false)], b9] R ∧ aD f [(0, (iI n)), (3, (.pointer (some ⟨b1, 0, none⟩))), (4, (.pointer (some ⟨b3, 0, none⟩))), (5, (.pointer (some ⟨E, 0, none⟩))), (7, (iI z)), (9, (.pointer (some ⟨A, 0, none⟩))), (12, (iI (aM z).form))] ∧ (dr (decide (aA z ≠ 1)) ja c.regs = true) ∧ (in64 ja) ∧ (in64 bz.n)) (fun hB => ?_) ?_))
 ·
  refine am 0 0 (v := ((aM z).form != 1)) rfl rfl rfl rfl (fun ci => ?_) (fun ci => ?_)
  ·
   have e6 := ci
   try simp only [BS] at e6
   refine aa (wUo 3 0 [(2, .o (iI c.regs))] 43 45 [] [(43, (.pointer (some ⟨E, 0, none⟩))), (45, (iI c.regs))] (ql 3 1 (HS.hc a3 (i := 0) rfl) rfl rfl) rfl fun _ => az (ap rfl rfl rfl) rfl rfl (cv ex (⟨c7.n⟩ : DigT) c.regs (HS.callOwn a3 (i := 2) rfl) (by omega) (by omega) hT (by omega)) ?_)
   rintro _ lZ ⟨hY, f7, lK, h6, dn, rfl, k5, mK⟩
   replace dn : HS _ _ _ [_, _, [(E, .cells [(iI f7.n)] none false)], _, _, _] _ := HS.backOwn a3 (i := 2) rfl rfl (fun _ hb => hb) dn
   refine wTo 2 4 [] 47 48 [] [(48, (.pointer (some ⟨A, 1, none⟩)))] rfl fun _ => aL (aE (q := 4) dn rfl rfl rfl rfl rfl rfl rfl rfl rfl) rfl ?_
   rintro _ l0 _ ⟨(i2 : HS _ _ _ [_, _, _, _, [(A, .cells [(iI z), (iI hY), (iI 0), (iI 0), (iI 0), (.slice none 0 0)] none false)], _] _), _⟩
   refine ae 0 rfl ?_
   exact hB _ _ ⟨hY, (⟨f7.n⟩ : DigT), _, (h6), i2, ⟨rfl, rfl, rfl, rfl, rfl, rfl, rfl, trivial⟩, (opOK_t (by omega) (by omega)), (by omega), (by assumption)⟩
  have e6 := ci
  try simp only [BS] at e6
  exact hB _ _ ⟨0, (⟨c7.n⟩ : DigT), _, fR, a3, ⟨rfl, rfl, rfl, rfl, rfl, rfl, rfl, trivial⟩, (iM (by omega) rfl), (by omega), (by assumption)⟩
 skip
 rintro mC lY ⟨ja, bz, ky, g6, bb, hh, hja, rja, lE⟩
 refine au _ hh (fun _ => ?_)
 clear hh
 replace hT := hT.mono g6
 refine ah 3 rfl (wT 1 [] 49 58 [] [(58, (.bool ((((aM z).form == 3) || ((aM z).form == 4)) || ((aM z).form == 7))))] rfl fun _ => bN (fun f H' => ∃ (jb : Int) (b0 : DigT) (F' : Fz), Fz.le ky F' ∧ HS (Base.of H []) F' H' [b4, b7, [(E, .cells [(iI b0.n)] none false)], p8, [(A, .cells [(iI z), (iI ja), (iI jb), (iI 0), (iI 0), (.slice none 0 0)] none false)], b9] R ∧ aD f [(0, (iI n)), (3, (.pointer (some ⟨b1, 0, none⟩))), (4, (.pointer (some ⟨b3, 0, none⟩))), (5, (.pointer (some ⟨E, 0, none⟩))), (7, (iI z)), (9, (.pointer (some ⟨A, 0, none⟩))), (12, (iI (aM z).form))] ∧ (dr (decide (aA z = 3 ∨ aA z = 4 ∨ aA z = 7)) jb c.regs = true) ∧ (in64 jb) ∧ (in64 b0.n)) (fun hC => ?_) ?_)
 ·
  refine am 0 0 (v := ((((aM z).form == 3) || ((aM z).form == 4)) || ((aM z).form == 7))) rfl rfl rfl rfl (fun cl => ?_) (fun cl => ?_)
  ·
   have fd := cl
   try simp only [BS] at fd
   refine aa (wUo 3 0 [(2, .o (iI c.regs))] 59 61 [] [(59, (.pointer (some ⟨E, 0, none⟩))), (61, (iI c.regs))] (ql 3 1 (HS.hc bb (i := 0) rfl) rfl rfl) rfl fun _ => az (ap rfl rfl rfl) rfl rfl (cv ex (⟨bz.n⟩ : DigT) c.regs (HS.callOwn bb (i := 2) rfl) (by omega) (by omega) hT (by omega)) ?_)
   rintro _ l2 ⟨h1, f8, lL, h7, ds, rfl, k6, mL⟩
   replace ds : HS _ _ _ [_, _, [(E, .cells [(iI f8.n)] none false)], _, [(A, .cells [(iI z), (iI ja), (iI 0), (iI 0), (iI 0), (.slice none 0 0)] none false)], _] _ := HS.backOwn bb (i := 2) rfl rfl (fun _ hb => hb) ds
   refine wTo 2 4 [] 63 64 [] [(64, (.pointer (some ⟨A, 2, none⟩)))] rfl fun _ => aL (aE (q := 4) ds rfl rfl rfl rfl rfl rfl rfl rfl rfl) rfl ?_
   rintro _ l3 _ ⟨(i3 : HS _ _ _ [_, _, _, _, [(A, .cells [(iI z), (iI ja), (iI h1), (iI 0), (iI 0), (.slice none 0 0)] none false)], _] _), _⟩
   refine ae 0 rfl ?_
   exact hC _ _ ⟨h1, (⟨f8.n⟩ : DigT), _, (h7), i3, ⟨rfl, rfl, rfl, rfl, rfl, rfl, rfl, trivial⟩, (opOK_t (by omega) (by omega)), (by omega), (by assumption)⟩
  have fd := cl
  try simp only [BS] at fd
  exact hC _ _ ⟨0, (⟨bz.n⟩ : DigT), _, fR, bb, ⟨rfl, rfl, rfl, rfl, rfl, rfl, rfl, trivial⟩, (iM (by omega) rfl), (by omega), (by assumption)⟩
 skip
 rintro mD l1 ⟨jb, b0, kz, g7, bk, hj, hjb, rjb, lF⟩
 refine au _ hj (fun _ => ?_)
 clear hj
 replace hT := hT.mono g7
 refine ah 3 rfl (wT 1 [] 65 66 [] [(66, (.bool ((aM z).form == 4)))] rfl fun _ => bN (fun f H' => ∃ (jc : Int) (ay : DigT) (F' : Fz), Fz.le kz F' ∧ HS (Base.of H []) F' H' [b4, b7, [(E, .cells [(iI ay.n)] none false)], p8, [(A, .cells [(iI z), (iI ja), (iI jb), (iI jc), (iI 0), (.slice none 0 0)] none false)], b9] R ∧ aD f [(0, (iI n)), (3, (.pointer (some ⟨b1, 0, none⟩))), (4, (.pointer (some ⟨b3, 0, none⟩))), (5, (.pointer (some ⟨E, 0, none⟩))), (7, (iI z)), (9, (.pointer (some ⟨A, 0, none⟩)))] ∧ (dr (decide (aA z = 4)) jc c.regs = true) ∧ (in64 jc) ∧ (in64 ay.n)) (fun hD => ?_) ?_)
 ·
  refine am 0 0 (v := ((aM z).form == 4)) rfl rfl rfl rfl (fun co => ?_) (fun co => ?_)
  ·
   have fi := co
   try simp only [BS] at fi
   refine aa (wUo 3 0 [(2, .o (iI c.regs))] 67 69 [] [(67, (.pointer (some ⟨E, 0, none⟩))), (69, (iI c.regs))] (ql 3 1 (HS.hc bk (i := 0) rfl) rfl rfl) rfl fun _ => az (ap rfl rfl rfl) rfl rfl (cv ex (⟨b0.n⟩ : DigT) c.regs (HS.callOwn bk (i := 2) rfl) (by omega) (by omega) hT (by omega)) ?_)
   rintro _ l5 ⟨h2, f9, lM, h8, dt, rfl, k7, mM⟩
   replace dt : HS _ _ _ [_, _, [(E, .cells [(iI f9.n)] none false)], _, [(A, .cells [(iI z), (iI ja), (iI jb), (iI 0), (iI 0), (.slice none 0 0)] none false)], _] _ := HS.backOwn bk (i := 2) rfl rfl (fun _ hb => hb) dt
   refine wTo 2 4 [] 71 72 [] [(72, (.pointer (some ⟨A, 3, none⟩)))] rfl fun _ => aL (aE (q := 4) dt rfl rfl rfl rfl rfl rfl rfl rfl rfl) rfl ?_
   rintro _ l6 _ ⟨(jw : HS _ _ _ [_, _, _, _, [(A, .cells [(iI z), (iI ja), (iI jb), (iI h2), (iI 0), (.slice none 0 0)] none false)], _] _), _⟩
   refine ae 0 rfl ?_
   exact hD _ _ ⟨h2, (⟨f9.n⟩ : DigT), _, (h8), jw, ⟨rfl, rfl, rfl, rfl, rfl, rfl, trivial⟩, (opOK_t (by omega) (by omega)), (by omega), (by assumption)⟩
  have fi := co
  try simp only [BS] at fi
  exact hD _ _ ⟨0, (⟨b0.n⟩ : DigT), _, fR, bk, ⟨rfl, rfl, rfl, rfl, rfl, rfl, trivial⟩, (iM (by omega) rfl), (by omega), (by assumption)⟩
 skip
 rintro mE l4 ⟨jc, ay, hS, g8, Y, hk, hjc, rjc, lG⟩
 refine au _ hk (fun _ => ?_)
 clear hk
 replace hT := hT.mono g8
 refine ah 3 rfl (wT 3 [] 73 73 [] [(73, (iI z))] rfl fun _ => wT 1 [] 74 75 [] [(74, (.bool (z == 13)))] rfl fun _ => bN (fun f H' => ∃ (jq : Int) (asl : List Int) (ez : DigT) (J : Option Addr) (T : Nat) (F' : Fz), Fz.le hS F' ∧ HS (Base.of H []) F' H' [b4, b7, [(E, .cells [(iI ez.n)] none false)], p8, [(A, .cells [(iI z), (iI ja), (iI jb), (iI jc), (iI jq), (.slice J asl.length T)] none false)], b9] R ∧ SR F' (.slice J asl.length T) asl ∧ aD f [(4, (.pointer (some ⟨b3, 0, none⟩))), (9, (.pointer (some ⟨A, 0, none⟩)))] ∧ (gy c.params z jq = true) ∧ (in64 jq) ∧ ((z = 6 ∨ asl.length = 0) ∧ asl.length ≤ 6) ∧ (asl.all (aN c.regs) = true) ∧ ((z = 6 → (jq = 0 ∧ asl.length = 2 ∨ jq = 1 ∧ asl.length = 1)) ∧ (z = 34 ∨ z = 35 → jq < 2)) ∧ (in64 ez.n)) (fun a1 => ?_) ?_)
 ·
  refine am 0 1 (v := (z == 13)) rfl rfl rfl rfl (fun c0 => ?_) (fun c0 => ?_)
  ·
   have f0 := c0
   try simp only [BS] at f0
   refine aa (wm (.pointer (some ⟨E, 0, none⟩)) rfl rfl rfl (az (ap rfl rfl rfl) rfl rfl (cv ex (⟨ay.n⟩ : DigT) (400) (HS.callOwn Y (i := 2) rfl) (by omega) (by omega) hT (by omega)) ?_))
   rintro _ l8 ⟨lm, go, lO, g9, bl, rfl, k9, mN⟩
   replace bl : HS _ _ _ [_, _, [(E, .cells [(iI go.n)] none false)], _, [(A, .cells [(iI z), (iI ja), (iI jb), (iI jc), (iI 0), (.slice none 0 0)] none false)], _] _ := HS.backOwn Y (i := 2) rfl rfl (fun _ hb => hb) bl
   replace hT := hT.mono g9
   refine wm (iI n) rfl rfl rfl (az (ap rfl rfl rfl) rfl rfl (word_c ex lm n (HS.call bl) (by omega) (by omega) hT) ?_)
   rintro _ l9 ⟨h3, kS, ib, dv, rfl, mO⟩
   replace dv : HS _ _ _ [_, _, _, _, _, _] _ := HS.back bl rfl dv
   refine wTo 2 4 [] 80 81 [] [(81, (.pointer (some ⟨A, 4, none⟩)))] rfl fun _ => aL (aE (q := 4) dv rfl rfl rfl rfl rfl rfl rfl rfl rfl) rfl ?_
   rintro _ mk _ ⟨(j0 : HS _ _ _ [_, _, _, _, [(A, .cells [(iI z), (iI ja), (iI jb), (iI jc), (iI h3), (.slice none 0 0)] none false)], _] _), _⟩
   refine ae 0 rfl ?_
   exact a1 _ _ ⟨h3, ([] : List Int), (⟨go.n⟩ : DigT), none, 0, _, (fT (g9) ib), j0, (SR.nil : SR kS (.slice none 0 0) ([] : List Int)), ⟨rfl, rfl, trivial⟩, (immT (by omega)), (by assumption), (by (simp <;> omega)), (by rfl), (by omega), (by assumption)⟩
  have f0 := c0
  try simp only [BS] at f0
  refine wT 1 [] 82 83 [] [(82, (.bool (z == 33)))] rfl fun _ => am 0 2 (v := (z == 33)) rfl rfl rfl rfl (fun c3 => ?_) (fun c3 => ?_)
  ·
   have f1 := c3
   try simp only [BS] at f1
   refine aa (wm (.pointer (some ⟨E, 0, none⟩)) rfl rfl rfl (az (ap rfl rfl rfl) rfl rfl (cv ex (⟨ay.n⟩ : DigT) (9) (HS.callOwn Y (i := 2) rfl) (by omega) (by omega) hT (by omega)) ?_))
   rintro _ mn ⟨e0, g0, kT, ih, d1, rfl, la, mP⟩
   replace d1 : HS _ _ _ [_, _, [(E, .cells [(iI g0.n)] none false)], _, [(A, .cells [(iI z), (iI ja), (iI jb), (iI jc), (iI 0), (.slice none 0 0)] none false)], _] _ := HS.backOwn Y (i := 2) rfl rfl (fun _ hb => hb) d1
   refine wUo 3 2 [] 86 88 [] [(86, (iI (e0 - 4))), (88, (.pointer (some ⟨A, 4, none⟩)))] (vi (n := e0 - 4) (by omega)) rfl fun _ => aL (aE (q := 4) d1 rfl rfl rfl rfl rfl rfl rfl rfl rfl) rfl ?_
   rintro _ mp _ ⟨(j1 : HS _ _ _ [_, _, _, _, [(A, .cells [(iI z), (iI ja), (iI jb), (iI jc), (iI (e0 - 4)), (.slice none 0 0)] none false)], _] _), _⟩
   refine ae 0 rfl ?_
   exact a1 _ _ ⟨e0 - 4, ([] : List Int), (⟨g0.n⟩ : DigT), none, 0, _, (ih), j1, (SR.nil : SR kT (.slice none 0 0) ([] : List Int)), ⟨rfl, rfl, trivial⟩, (immT (by omega)), (by omega), (by (simp <;> omega)), (by rfl), (by omega), (by assumption)⟩
  have f1 := c3
  try simp only [BS] at f1
  refine wT 1 [] 89 90 [] [(89, (.bool (z == 34)))] rfl fun _ => am 1 0 (v := (z == 34)) rfl rfl rfl rfl (fun a7 => ?_) (fun a7 => ?_)
  ·
   have f2 := a7
   try simp only [BS] at f2
   refine bn 0 (v := (z == 34)) rfl a7 rfl rfl (aa (wm (.pointer (some ⟨E, 0, none⟩)) rfl rfl rfl (az (ap rfl rfl rfl) rfl rfl (cv ex (⟨ay.n⟩ : DigT) (2) (HS.callOwn Y (i := 2) rfl) (by omega) (by omega) hT (by omega)) ?_)))
   rintro _ mq ⟨h4, g1, kU, ii, d2, rfl, lb, mQ⟩
   replace d2 : HS _ _ _ [_, _, [(E, .cells [(iI g1.n)] none false)], _, [(A, .cells [(iI z), (iI ja), (iI jb), (iI jc), (iI 0), (.slice none 0 0)] none false)], _] _ := HS.backOwn Y (i := 2) rfl rfl (fun _ hb => hb) d2
   refine wTo 2 2 [] 94 95 [] [(95, (.pointer (some ⟨A, 4, none⟩)))] rfl fun _ => aL (aE (q := 4) d2 rfl rfl rfl rfl rfl rfl rfl rfl rfl) rfl ?_
   rintro _ mr _ ⟨(j2 : HS _ _ _ [_, _, _, _, [(A, .cells [(iI z), (iI ja), (iI jb), (iI jc), (iI h4), (.slice none 0 0)] none false)], _] _), _⟩
   refine ae 0 rfl ?_
   exact a1 _ _ ⟨h4, ([] : List Int), (⟨g1.n⟩ : DigT), none, 0, _, (ii), j2, (SR.nil : SR kU (.slice none 0 0) ([] : List Int)), ⟨rfl, rfl, trivial⟩, (immT (by omega)), (by omega), (by (simp <;> omega)), (by rfl), (by omega), (by assumption)⟩
  have f2 := a7
  try simp only [BS] at f2
  refine wT 1 [] 89 91 [] [(89, (.bool (z == 35)))] rfl fun _ => am 0 1 (v := (z == 35)) rfl rfl rfl rfl (fun c4 => ?_) (fun c4 => ?_)
  ·
   have f3 := c4
   try simp only [BS] at f3
   refine aa (wm (.pointer (some ⟨E, 0, none⟩)) rfl rfl rfl (az (ap rfl rfl rfl) rfl rfl (cv ex (⟨ay.n⟩ : DigT) (2) (HS.callOwn Y (i := 2) rfl) (by omega) (by omega) hT (by omega)) ?_))
   rintro _ ms ⟨h5, g2, kV, ik, d3, rfl, lc, mR⟩
   replace d3 : HS _ _ _ [_, _, [(E, .cells [(iI g2.n)] none false)], _, [(A, .cells [(iI z), (iI ja), (iI jb), (iI jc), (iI 0), (.slice none 0 0)] none false)], _] _ := HS.backOwn Y (i := 2) rfl rfl (fun _ hb => hb) d3
   refine wTo 2 2 [] 94 95 [] [(95, (.pointer (some ⟨A, 4, none⟩)))] rfl fun _ => aL (aE (q := 4) d3 rfl rfl rfl rfl rfl rfl rfl rfl rfl) rfl ?_
   rintro _ mu _ ⟨(kc : HS _ _ _ [_, _, _, _, [(A, .cells [(iI z), (iI ja), (iI jb), (iI jc), (iI h5), (.slice none 0 0)] none false)], _] _), _⟩
   refine ae 0 rfl ?_
   exact a1 _ _ ⟨h5, ([] : List Int), (⟨g2.n⟩ : DigT), none, 0, _, (ik), kc, (SR.nil : SR kV (.slice none 0 0) ([] : List Int)), ⟨rfl, rfl, trivial⟩, (immT (by omega)), (by omega), (by (simp <;> omega)), (by rfl), (by omega), (by assumption)⟩
  have f3 := c4
  try simp only [BS] at f3
  refine wT 1 [] 96 97 [] [(96, (.bool (z == 6)))] rfl fun _ => am 1 0 (v := (z == 6)) rfl rfl rfl rfl (fun c5 => ?_) (fun c5 => ?_)
  ·
   have f4 := c5
   try simp only [BS] at f4
   refine aa (wm (.pointer (some ⟨E, 0, none⟩)) rfl rfl rfl (az (ap rfl rfl rfl) rfl rfl (cv ex (⟨ay.n⟩ : DigT) (2) (HS.callOwn Y (i := 2) rfl) (by omega) (by omega) hT (by omega)) ?_))
   rintro _ mw ⟨ar, g3, kW, ha, d4, rfl, ld, mS⟩
   replace d4 : HS _ _ _ [_, _, [(E, .cells [(iI g3.n)] none false)], _, [(A, .cells [(iI z), (iI ja), (iI jb), (iI jc), (iI 0), (.slice none 0 0)] none false)], _] _ := HS.backOwn Y (i := 2) rfl rfl (fun _ hb => hb) d4
   refine wTo 2 2 [] 100 101 [] [(101, (.pointer (some ⟨A, 4, none⟩)))] rfl fun _ => aL (aE (q := 4) d4 rfl rfl rfl rfl rfl rfl rfl rfl rfl) rfl ?_
   rintro _ mx _ ⟨(hv : HS _ _ _ [_, _, _, _, [(A, .cells [(iI z), (iI ja), (iI jb), (iI jc), (iI ar), (.slice none 0 0)] none false)], _] _), _⟩
   refine ae 2 rfl (wR 2 [(2, .o (iI ar))] 102 105 [13] [(13, (iI (2 - ar)))] (vA (ql 2 4 (HS.hc hv (i := 4) rfl) rfl rfl) (vA (vi (n := 2 - ar) (by omega)) trivial)) rfl fun _ => ?_)
   have ea := HS.snoc hv
   have ea : HS _ _ _ [_, _, _, _, _, _, []] _ := ea
   refine aj (fun (mm : Nat) f H' => ∃ (kk : Int) (al : List Int) (dl : DigT) (V : Fp) (N : Option Addr) (U : Nat) (F' : Fz), Fz.le kW F' ∧ HS (Base.of H []) F' H' [b4, b7, [(E, .cells [(iI dl.n)] none false)], p8, [(A, .cells [(iI z), (iI ja), (iI jb), (iI jc), (iI ar), (.slice N al.length U)] none false)], b9, V] R ∧ OS F' (.slice N al.length U) al V ∧ aD f [(3, (.pointer (some ⟨b1, 0, none⟩))), (4, (.pointer (some ⟨b3, 0, none⟩))), (5, (.pointer (some ⟨E, 0, none⟩))), (9, (.pointer (some ⟨A, 0, none⟩))), (13, (iI kk))] ∧ mm = kk.toNat ∧ ((al.length : Int) + kk = 2 - ar ∧ 0 ≤ kk) ∧ (al.all (aN c.regs) = true) ∧ (in64 dl.n) ∧ (kk ≤ 2)) _ ⟨2 - ar, ([] : List Int), (⟨g3.n⟩ : DigT), [], none, 0, _, fR, ea, (OS.nil : OS _ (.slice none 0 0) ([] : List Int) []), ⟨rfl, rfl, rfl, rfl, rfl, trivial⟩, rfl, (by simp; omega), (by rfl), (by omega), (by omega)⟩ ?_
   rintro lC mG my ⟨kk, al, dl, V, N, U, lP, dd, av, Z, hm, rfl, q1, q2, q3, q4⟩ kd
   refine au _ hm (fun _ => ?_)
   clear hm
   replace hT := (hT.mono ha).mono dd
   refine ah 2 rfl (wT 1 [] 106 107 [] [(107, (.bool (decide ((0 : Int) < kk))))] rfl fun _ => am 3 3 (v := (decide ((0 : Int) < kk))) rfl rfl rfl rfl (fun c6 => ?_) (fun c6 => ?_))
   ·
    have f5 := c6
    try simp only [BS] at f5
    refine aY rfl (wfv (v := (.pointer (some ⟨A, 5, none⟩))) (dG rfl rfl) (aB (v := (.slice N al.length U)) (id := .l A) (bt (i := 5) rfl rfl (HS.hc av.log0 (i := 4) rfl) rfl rfl) rfl rfl (bG rfl) (kb rfl) (fm (.pointer (some ⟨E, 0, none⟩)) rfl rfl rfl (wfv (v := (.pointer (some ⟨b1, 1, none⟩))) (dG rfl rfl) (aB (v := (iI c.regs)) (id := .l b1) (bt (i := 1) rfl rfl (HS.hc av.log0 (i := 0) rfl) rfl rfl) rfl rfl (bG rfl) (kb rfl) (bj (W := [E]) (ap rfl rfl rfl) rfl rfl rfl (cv ex (⟨dl.n⟩ : DigT) c.regs (HS.callOwn av.log0 (i := 2) rfl) (by omega) (by omega) hT (by omega)) (⟨.inl rfl, ⟨.inl rfl, ⟨.inl rfl, ⟨.inr (HS.nin av (i := 4) (j := 2) rfl rfl (by decide) (List.Mem.head _)), ⟨.inr trivial, trivial⟩⟩⟩⟩⟩) ?_))))))
    rintro _ kX ⟨a4, g4, lQ, he, ad, rfl, lf, mT⟩
    refine ⟨HS.didW ad, fun kg hK => ?_⟩
    replace ad := HS.backOwn av.log0 (i := 2) rfl rfl (fun _ hb => hb) ad
    replace ad := HS.lg ad av hK
    generalize ({ kX with log := kg } : Heap) = ln at ad ⊢
    have ad : HS _ _ _ [_, _, [(E, .cells [(iI g4.n)] none false)], _, [(A, .cells [(iI z), (iI ja), (iI jb), (iI jc), (iI ar), (.slice N al.length U)] none false)], _, V] _ := ad
    replace Z := Z.mono he
    refine cg (id := .a) (bu (α := Int) (ps := [(0, (iI a4))]) (cells := [(iI a4)]) ([a4] : List Int) ad.log0 rfl rfl rfl (by kernel_rfl) ⟨[(iI a4)], [], rfl, ⟨rfl, by omega⟩, rfl⟩ rfl) rfl rfl (fun _ _ _ _ => km rfl rfl rfl) (kb rfl) ?_
    rintro _ kY ll ⟨mA, mV, rfl, it, ag, _⟩ ki hM
    replace ag := HS.lg ag ad hM
    generalize ({ kY with log := ki } : Heap) = lp at ag ⊢
    have ag : HS _ _ _ [_, _, _, _, _, _, _, ll] _ := ag
    refine cg (id := .x (V.map Prod.fst)) (bC (α := Int) (q := 6) Z ag.log0 rfl rfl rfl (OS.sv it ag.log0 (i := 7) rfl) rfl rfl rfl rfl rfl rfl rfl (by (simp only [a06, a0a, a0g]; omega))) rfl rfl (by rintro _ _ hG ⟨e2, hE, rfl, hp, _, hwr⟩; exact cz rfl rfl (Wr.did hwr)) (kb rfl) ?_
    rintro _ kZ hG ⟨e2, hE, rfl, hp, ax, _⟩ kl hQ
    replace ax := HS.lg ax ag hQ
    generalize ({ kZ with log := kl } : Heap) = lq at ax ⊢
    have ax : HS _ _ _ [_, _, _, _, _, _, hG, _] _ := ax
    refine wfv (v := (.pointer (some ⟨A, 5, none⟩))) (dG rfl rfl) (iu (id := .x [A]) (aE (q := 4) ax.log0 rfl rfl rfl rfl rfl rfl rfl rfl rfl) rfl (by rintro _ _ _ ⟨_, hwr⟩; exact cz rfl rfl (Wr.did hwr)) (kb rfl) ?_)
    rintro _ k0 _ ⟨a0, _⟩ kn hR
    replace a0 := HS.lg a0 ax hR
    generalize ({ k0 with log := kn } : Heap) = lr at a0 ⊢
    have a0 : HS _ _ _ [_, _, _, _, [(A, .cells [(iI z), (iI ja), (iI jb), (iI jc), (iI ar), (.slice e2 (al ++ ([a4] : List Int)).length hE)] none false)], _, _, _] _ := a0
    refine cu (ah 2 rfl (wU 1 [] 108 109 [13] [(13, (iI (kk - 1)))] (vi (n := kk - 1) (by omega)) rfl fun _ => kd _ _ _ ?_ ⟨kk - 1, al ++ ([a4] : List Int), (⟨g4.n⟩ : DigT), hG, e2, hE, _, (fT (dd) he), (HS.sub a0 (a05 _ _)), hp, ⟨rfl, rfl, rfl, rfl, rfl, trivial⟩, rfl, (by simp; omega), (all_app q2 (aV.2 (by omega))), (by omega), (by omega)⟩))
    omega
   have f5 := c6
   try simp only [BS] at f5
   obtain ⟨lR, il, em, iv, lA⟩ := OS.frz Z av (i := 6) rfl
   have em : HS _ _ _ [_, _, [(E, .cells [(iI dl.n)] none false)], _, [(A, .cells [(iI z), (iI ja), (iI jb), (iI jc), (iI ar), (.slice N al.length U)] none false)], _, _] _ := em
   exact a1 _ _ ⟨ar, al, (⟨dl.n⟩ : DigT), N, U, _, (fT (fT (ha) dd) il), (HS.sub em (a05 _ _)), iv, ⟨rfl, rfl, trivial⟩, (immT (by omega)), (by omega), (by omega), (by assumption), (by omega), (by omega)⟩
  have f4 := c5
  try simp only [BS] at f4
  exact a1 _ _ ⟨0, ([] : List Int), (⟨ay.n⟩ : DigT), none, 0, _, fR, Y, (SR.nil : SR hS (.slice none 0 0) ([] : List Int)), ⟨rfl, rfl, trivial⟩, (immT (by omega)), (by omega), (by (simp <;> omega)), (by rfl), (by omega), (by assumption)⟩
 skip
 rintro mF l7 ⟨jq, asl, ez, J, T, lN, h9, hu, b2, hl, hjq, rjq, hW, hq, hck, lH⟩
 refine au _ hl (fun _ => ?_)
 clear hl
 let hI : Value := (.agg ⟨[(iI z), (iI ja), (iI jb), (iI jc), (iI jq), (.slice J asl.length T)]⟩)
 refine ah 3 rfl (aa (wUo 1 0 [(0, .o hI)] 119 119 [] [(119, hI)] (qn 52 0 6 (HS.hc hu (i := 4) rfl) rfl rfl rfl rfl) rfl fun _ => aL (aE (q := 1) hu rfl rfl rfl rfl rfl rfl rfl rfl rfl) rfl ?_))
 rintro _ mz _ ⟨(hw : HS _ _ _ [_, [(b3, .cells [(iI z), (iI ja), (iI jb), (iI jc), (iI jq), (.slice J asl.length T)] none false)], [(E, .cells [(iI ez.n)] none false)], _, [(A, .cells [(iI z), (iI ja), (iI jb), (iI jc), (iI jq), (.slice J asl.length T)] none false)], _] _), _⟩
 refine ae 1 rfl (ak ⟨.inr rfl, _, (rC rfl (ldVN rfl rfl (HS.hc hw (i := 1) rfl) rfl) rN), (⟨(⟨z, ja, jb, jc, jq⟩ : InsT), asl⟩ : VInT), J, T, _, (fT (fT (fT (fT (fT (fT (c8) c9) g5) g6) g7) g8) h9), (HS.forget hw), rfl, (by (dsimp only; omega)), (by omega), (by omega), (by omega), (by omega), b2, (vin_mk ho.2 hW.1 hW.2 hq hja hjb hjc hjq), (decide_eq_true hck)⟩)
end Go.Proofs.YtknafdcgpaejlaaDoor.m4
