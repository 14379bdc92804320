/-
 The generator of virtual code, function by function, each by a symbolic run: what it makes is valid. No condition but that the table lies as laid.
-/
import Derived.Test.YtknafdcgpaejlaaDoorZUM3
import Derived.Test.YtknafdcgpaejlaaDoorZURC
noncomputable section
namespace Go.Proofs.YtknafdcgpaejlaaDoor.m4
open Go.R
set_option maxRecDepth 10000
set_option linter.unusedVariables false
set_option linter.unusedSimpArgs false
variable (ex : FuncId) {F : Fz} {H : Heap} {R : List Fp}
open m1 m2 m3
theorem wr64 (n : Int) : in64 (IntKind.i64.wrap n) := w64_in n
theorem td64 (n : Int) {m : Int} (h : 0 < m) : in64 (Int.tdiv (IntKind.i64.wrap n) m) := vq (wr64 n) (by omega)
theorem opOK_t {p : Prop} [Decidable p] {n r : Int} (h : p) (hn : 0 ≤ n ∧ n < r) : dq (decide p) n r = true := by rw [decide_eq_true h]; exact aX.2 hn
theorem iO {p : Prop} [Decidable p] {n r : Int} (h : ¬ p) (hn : n = 0) : dq (decide p) n r = true := by rw [decide_eq_false h, hn]; rfl
def opG (op : Int) : Prop := (op = 3 ∨ op = 6 ∨ (9 ≤ op ∧ op ≤ 13) ∨ (15 ≤ op ∧ op ≤ 35)) ∧ alV op = true
theorem ops_al {op : Int} (h : 15 ≤ op ∧ op ≤ 32) : opG op := ⟨by omega, decide_eq_true (by omega)⟩
theorem lit12 {k : Nat} (h : k < 12) : opG (([3, 6, 9, 10, 11, 12, 13, 33, 34, 35, 10, 9] : List Int).getD k 0) := by
 have : ∀ k : Fin 12, ((([3, 6, 9, 10, 11, 12, 13, 33, 34, 35, 10, 9] : List Int).getD k.val 0) = 3 ∨ (([3, 6, 9, 10, 11, 12, 13, 33, 34, 35, 10, 9] : List Int).getD k.val 0) = 6 ∨ (9 ≤ (([3, 6, 9, 10, 11, 12, 13, 33, 34, 35, 10, 9] : List Int).getD k.val 0) ∧ (([3, 6, 9, 10, 11, 12, 13, 33, 34, 35, 10, 9] : List Int).getD k.val 0) ≤ 13) ∨ (15 ≤ (([3, 6, 9, 10, 11, 12, 13, 33, 34, 35, 10, 9] : List Int).getD k.val 0) ∧ (([3, 6, 9, 10, 11, 12, 13, 33, 34, 35, 10, 9] : List Int).getD k.val 0) ≤ 35)) ∧ alV (([3, 6, 9, 10, 11, 12, 13, 33, 34, 35, 10, 9] : List Int).getD k.val 0) = true := by decide
 exact this ⟨k, h⟩
theorem immT {p op n : Int} (h : op = 13 ∨ op = 33 ∧ -4194304 ≤ n ∧ n < 4194304 ∨ op = 6 ∧ 0 ≤ n ∧ n < 8 ∨ (op = 34 ∨ op = 35) ∧ 0 ≤ n ∧ n < 4 ∨ (op ≠ 13 ∧ op ≠ 33 ∧ op ≠ 6 ∧ op ≠ 34 ∧ op ≠ 35 ∧ op ≠ 38) ∧ n = 0) : gw p op n = true := by
 unfold gw
 (repeat' split) <;> first | rfl | (apply decide_eq_true; omega) | (exfalso; omega)
theorem all_app {p : Int → Bool} {l : List Int} {x : Int} (h : l.all p = true) (hx : p x = true) : (l ++ [x]).all p = true := by rw [a24, h]; simp [hx]
theorem vin_mk {params regs op a b c n : Int} {l : List Int} (A : alV op = true) (E : op = 6 ∨ l.length = 0) (J : l.length ≤ 6) (N : l.all (aL regs) = true) (T : dq (decide (aC op ≠ 1)) a regs = true) (U : dq (decide (aC op = 3 ∨ aC op = 4 ∨ aC op = 7)) b regs = true) (V : dq (decide (aC op = 4)) c regs = true) (Z : gw params op n = true) : eJ params regs ⟨⟨op, a, b, c, n⟩, l⟩ = true := by
 unfold eJ
 simp only [A, decide_eq_true E, decide_eq_true J, N, T, U, V, Z, a1c]
def ckI (v : VInT) : Bool := decide ((v.i.op = 6 → (v.i.n = 0 ∧ v.args.length = 2 ∨ v.i.n = 1 ∧ v.args.length = 1)) ∧ (v.i.op = 34 ∨ v.i.op = 35 → v.i.n < 2))
theorem de {b_d : Nat} (d : DigT) (m : Int) (hs : HS (.of H [b_d]) F H [[(b_d, .cells [(iI d.n)] none false)]] R) (E : in64 d.n) (hm : in64 m) (hT : TB 37 tabC F) (hm : 0 < m) : kKt ex 46 [(.pointer (some ⟨b_d, 0, none⟩)), (iI m)] H fun v H' => ∃ (r : Int) (d' : DigT) (F' : Fz), Fz.le F F' ∧ HS (.of H [b_d]) F' H' [[(b_d, .cells [(iI d'.n)] none false)]] R ∧ v = .int .i64 r ∧ in64 d'.n ∧ (0 ≤ r ∧ r < m) := by
 refine aH Tryd.func46 rfl rfl (ah 1 rfl (wT 2 [] 4 4 [] [(4, (iI 0))] rfl fun _ => ?_))
 have J := ew d.n m
 refine wR 2 [(3, .o (iI d.n)), (5, .o (iI (bB d.n m)))] 6 11 [5] [(5, (iI (bB d.n m)))] (vA (ql 3 0 (HS.hc hs (i := 0) rfl) rfl rfl) (vA (m1.ie ex d.n m H (by omega)) trivial)) rfl fun _ => aa (wRo 11 0 [(4, .o (iI d.n)), (6, .w)] 12 22 [] [(20, (iI (Int.tdiv (IntKind.i64.wrap (d.n - (bB d.n m))) m))), (22, (.pointer (some ⟨b_d, 0, none⟩)))] (vA (ql 3 0 (HS.hc hs (i := 0) rfl) rfl rfl) (vA (vA (show m ≠ 0 from by omega) (vq (a := IntKind.i64.wrap (d.n - (bB d.n m))) (b := m) (by exact wr64 _) (by omega))) trivial)) rfl fun _ => aN (aI (q := 0) hs rfl rfl rfl rfl rfl rfl rfl rfl rfl) rfl ?_)
 rintro _ N _ ⟨(A : HS _ _ _ [[(b_d, .cells [(iI (Int.tdiv (IntKind.i64.wrap (d.n - (bB d.n m))) m))] none false)]] _), _⟩
 refine ae 2 rfl (wT 1 [] 4 4 [23] [(4, (iI (bB d.n m)))] rfl fun _ => ak ⟨.inr rfl, _, rfl, bB d.n m, (⟨Int.tdiv (IntKind.i64.wrap (d.n - (bB d.n m))) m⟩ : DigT), _, fR, (HS.first A), rfl, (by exact td64 _ (by omega)), (by omega)⟩)
theorem word_c (n : Int) (raw : Int) (hs : HS (.of H []) F H [] R) (hn : in64 n) (hraw : in64 raw) (hT : TB 37 tabC F) : kKt ex 47 [(iI n), (iI raw)] H fun v H' => ∃ (r : Int) (F' : Fz), Fz.le F F' ∧ HS (.of H []) F' H' [] R ∧ v = .int .i64 r ∧ (in64 r) := by
 refine aH Tryd.func47 rfl rfl (ah 1 rfl (wT 2 [] 4 4 [] [(4, (iI 0))] rfl fun _ => aa (aG (bt (α := Int) (ps := [(0, (iI 0)), (1, (iI 1)), (2, (iI (-1))), (3, (iI 2)), (4, (iI (-9223372036854775808))), (5, (iI 9223372036854775807)), (6, (iI 4294967296)), (7, (iI (-2147483648))), (8, (iI 63)), (9, (iI 64))]) (cells := [(iI 0), (iI 1), (iI (-1)), (iI 2), (iI (-9223372036854775808)), (iI 9223372036854775807), (iI 4294967296), (iI (-2147483648)), (iI 63), (iI 64)]) ([0, 1, (-1), 2, (-9223372036854775808), 9223372036854775807, 4294967296, (-2147483648), 63, 64] : List Int) hs rfl rfl rfl (by kernel_rfl) ⟨[(iI 0)], _, rfl, ⟨rfl, by omega⟩, ⟨[(iI 1)], _, rfl, ⟨rfl, by omega⟩, ⟨[(iI (-1))], _, rfl, ⟨rfl, by omega⟩, ⟨[(iI 2)], _, rfl, ⟨rfl, by omega⟩, ⟨[(iI (-9223372036854775808))], _, rfl, ⟨rfl, by omega⟩, ⟨[(iI 9223372036854775807)], _, rfl, ⟨rfl, by omega⟩, ⟨[(iI 4294967296)], _, rfl, ⟨rfl, by omega⟩, ⟨[(iI (-2147483648))], _, rfl, ⟨rfl, by omega⟩, ⟨[(iI 63)], _, rfl, ⟨rfl, by omega⟩, ⟨[(iI 64)], _, rfl, ⟨rfl, by omega⟩, rfl⟩⟩⟩⟩⟩⟩⟩⟩⟩⟩ rfl) rfl rfl ?_)))
 rintro _ Z p2 ⟨a2, k2, rfl, T, (A : HS _ _ _ [p2] _), _⟩
 refine wa (.slice a2 ([0, 1, (-1), 2, (-9223372036854775808), 9223372036854775807, 4294967296, (-2147483648), 63, 64] : List Int).length k2) rfl rfl rfl (ae 2 rfl ?_)
 have av := ew n (24 : Int)
 refine wU 4 [(1, .o (iI (bB n (24 : Int))))] 8 9 [6] [(6, (iI (bB n (24 : Int))))] (m1.ie ex n (24) Z (by omega)) rfl fun _ => wT 1 [] 10 12 [] [(10, (.bool (decide (bB n (24 : Int) < 10))))] rfl fun _ => am 1 1 (v := (decide (bB n (24 : Int) < 10))) rfl rfl rfl rfl (fun N => ?_) (fun N => ?_)
 ·
  have V := N
  try simp only [BS] at V
  obtain ⟨ar, U⟩ := Sv.view (OS.sv T A (i := 0) rfl)
  have g9 := fI (U (bB n (24 : Int)).toNat)
  refine wR 1 [(3, .o (iI (([0, 1, (-1), 2, (-9223372036854775808), 9223372036854775807, 4294967296, (-2147483648), 63, 64] : List Int).getD (bB n (24 : Int)).toNat 0)))] 13 16 [4] [(4, (iI (([0, 1, (-1), 2, (-9223372036854775808), 9223372036854775807, 4294967296, (-2147483648), 63, 64] : List Int).getD (bB n (24 : Int)).toNat 0)))] (vA (Sv.ix (j := bB n (24 : Int)) (OS.sv T A (i := 0) rfl) (by omega) (show bB n (24 : Int) < (10 : Int) from by omega)) (vA (ql 2 0 (vI (U (bB n (24 : Int)).toNat) (show (bB n (24 : Int)).toNat < 10 from by omega)) rfl rfl) trivial)) rfl fun _ => ak ⟨.inr rfl, _, rfl, (([0, 1, (-1), 2, (-9223372036854775808), 9223372036854775807, 4294967296, (-2147483648), 63, 64] : List Int).getD (bB n (24 : Int)).toNat 0), _, fR, (HS.forget A), rfl, (by omega)⟩
 have V := N
 try simp only [BS] at V
 refine wT 1 [] 17 19 [] [(17, (.bool (decide (bB n (24 : Int) < 22))))] rfl fun _ => am 1 3 (v := (decide (bB n (24 : Int) < 22))) rfl rfl rfl rfl (fun E => ?_) (fun E => ?_)
 ·
  have J := E
  try simp only [BS] at J
  have an : in64 n → in64 (Int.tdiv n 24) := fun h => vq h (by decide)
  have ag := ew (Int.tdiv n 24) (17 : Int)
  refine wR 1 [(2, .o (iI (bB (Int.tdiv n 24) (17 : Int))))] 20 23 [4] [(4, (iI ((bB (Int.tdiv n 24) (17 : Int)) - 6)))] (vA (vA (show (24 : Int) ≠ 0 from by decide) (vq (a := n) (b := 24) (by omega) (by decide))) (vA (m1.ie ex (Int.tdiv n 24) (17) Z (by omega)) (vA (vi (n := (bB (Int.tdiv n 24) (17 : Int)) - 6) (by omega)) trivial))) rfl fun _ => ak ⟨.inr rfl, _, rfl, (bB (Int.tdiv n 24) (17 : Int)) - 6, _, fR, (HS.forget A), rfl, (by omega)⟩
 have J := E
 try simp only [BS] at J
 refine wT 1 [] 4 4 [24] [(4, (iI raw))] rfl fun _ => ak ⟨.inr rfl, _, rfl, raw, _, fR, (HS.forget A), rfl, (by omega)⟩
set_option maxHeartbeats 1000000 in
theorem vi_c (n : Int) {b9 : Option Addr} {ez : Nat} (c : VFnT) (hs : HS (.of H []) F H [] R) (hn : in64 n) (lA : in64 c.params) (lB : in64 c.regs) (hT : TB 37 tabC F) (hr : 1 ≤ c.regs ∧ c.regs ≤ 3000) : kKt ex 31 [(iI n), (.agg ⟨[(iI c.params), (iI c.regs), (.slice b9 c.blocks.length ez)]⟩)] H fun v H' => ∃ (x : VInT) (e5 : Option Addr) (hH : Nat) (F' : Fz), Fz.le F F' ∧ HS (.of H []) F' H' [] R ∧ v = .agg ⟨[.int .i64 x.i.op, .int .i64 x.i.a, .int .i64 x.i.b, .int .i64 x.i.c, .int .i64 x.i.n, .slice e5 x.args.length hH]⟩ ∧ in64 x.i.op ∧ in64 x.i.a ∧ in64 x.i.b ∧ in64 x.i.c ∧ in64 x.i.n ∧ SR F' (.slice e5 x.args.length hH) x.args ∧ (eJ c.params c.regs x = true) ∧ (ckI x = true) := by
 refine aH Tryd.func31 rfl rfl (ah 1 rfl (aa (aG (bG hs rfl rfl) rfl rfl ?_)))
 rintro _ H2 _ ⟨b1, rfl, (hu : HS _ _ _ [[(b1, .cells [(iI c.params), (iI c.regs), (.slice b9 c.blocks.length ez)] none false)]] _), _⟩
 refine aG (bp hu rfl) rfl rfl ?_
 rintro _ H4 _ ⟨b3, rfl, (ll : HS _ _ _ [_, [(b3, .cells [(iI 0), (iI 0), (iI 0), (iI 0), (iI 0), (.slice none 0 0)] none false)]] _), _⟩
 refine ae 2 rfl (aa (wTo 2 0 [] 14 15 [] [(15, (.agg ⟨[(iI n)]⟩))] rfl fun _ => aG (bG ll rfl rfl) rfl rfl ?_))
 rintro _ H7 _ ⟨J, rfl, (lm : HS _ _ _ [_, _, [(J, .cells [(iI n)] none false)]] _), _⟩
 refine wa (.pointer (some ⟨J, 0, none⟩)) rfl rfl rfl (ae 2 rfl (aa (aG (bt (α := Int) (ps := [(0, (iI 3)), (1, (iI 6)), (2, (iI 9)), (3, (iI 10)), (4, (iI 11)), (5, (iI 12)), (6, (iI 13)), (7, (iI 33)), (8, (iI 34)), (9, (iI 35)), (10, (iI 10)), (11, (iI 9))]) (cells := [(iI 3), (iI 6), (iI 9), (iI 10), (iI 11), (iI 12), (iI 13), (iI 33), (iI 34), (iI 35), (iI 10), (iI 9)]) ([3, 6, 9, 10, 11, 12, 13, 33, 34, 35, 10, 9] : List Int) lm rfl rfl rfl (by kernel_rfl) ⟨[(iI 3)], _, rfl, ⟨rfl, by omega⟩, ⟨[(iI 6)], _, rfl, ⟨rfl, by omega⟩, ⟨[(iI 9)], _, rfl, ⟨rfl, by omega⟩, ⟨[(iI 10)], _, rfl, ⟨rfl, by omega⟩, ⟨[(iI 11)], _, rfl, ⟨rfl, by omega⟩, ⟨[(iI 12)], _, rfl, ⟨rfl, by omega⟩, ⟨[(iI 13)], _, rfl, ⟨rfl, by omega⟩, ⟨[(iI 33)], _, rfl, ⟨rfl, by omega⟩, ⟨[(iI 34)], _, rfl, ⟨rfl, by omega⟩, ⟨[(iI 35)], _, rfl, ⟨rfl, by omega⟩, ⟨[(iI 10)], _, rfl, ⟨rfl, by omega⟩, ⟨[(iI 9)], _, rfl, ⟨rfl, by omega⟩, rfl⟩⟩⟩⟩⟩⟩⟩⟩⟩⟩⟩⟩ rfl) rfl rfl ?_)))
 rintro _ H9 p8 ⟨a8, k8, rfl, e0, (h0 : HS _ _ _ [_, _, _, p8] _), _⟩
 refine wa (.slice a8 ([3, 6, 9, 10, 11, 12, 13, 33, 34, 35, 10, 9] : List Int).length k8) rfl rfl rfl (ae 2 rfl (aa (wm (.pointer (some ⟨J, 0, none⟩)) rfl rfl rfl (aA (aq rfl rfl rfl) rfl rfl (de ex (⟨n⟩ : DigT) (18) (HS.callOwn h0 (i := 2) rfl) (by omega) (by omega) hT (by omega)) ?_))))
 rintro _ lU ⟨hK, f7, lK, c8, bb, rfl, k5, mJ⟩
 replace bb : HS _ _ _ [_, _, [(J, .cells [(iI f7.n)] none false)], _] _ := HS.backOwn h0 (i := 2) rfl rfl (fun _ hb => hb) bb
 replace hT := hT.mono c8
 refine wUo 2 2 [] 20 20 [7] [(7, (iI (15 + hK)))] (vi (n := 15 + hK) (by omega)) rfl fun _ => ae 3 rfl (aa (wm (.pointer (some ⟨J, 0, none⟩)) rfl rfl rfl (aA (aq rfl rfl rfl) rfl rfl (de ex (⟨f7.n⟩ : DigT) (24) (HS.callOwn bb (i := 2) rfl) (by omega) (by omega) hT (by omega)) ?_)))
 rintro _ hX ⟨av, c7, lL, c9, a3, rfl, k6, mK⟩
 replace a3 : HS _ _ _ [_, _, [(J, .cells [(iI c7.n)] none false)], _] _ := HS.backOwn bb (i := 2) rfl rfl (fun _ hb => hb) a3
 replace hT := hT.mono c9
 replace e0 := (e0.mono c8).mono c9
 refine wa (iI av) rfl rfl rfl (ae 2 rfl (wT 1 [] 23 26 [] [(26, (.bool (decide (av < 12))))] rfl fun _ => bU (fun f H' => ∃ (A : Int), H' = hX ∧ aD f [(0, (iI n)), (3, (.pointer (some ⟨b1, 0, none⟩))), (4, (.pointer (some ⟨b3, 0, none⟩))), (5, (.pointer (some ⟨J, 0, none⟩))), (7, (iI A))] ∧ (opG A)) (fun hC => ?_) ?_))
 ·
  refine am 0 0 (v := (decide (av < 12))) rfl rfl rfl rfl (fun cc => ?_) (fun cc => ?_)
  ·
   have e9 := cc
   try simp only [BS] at e9
   obtain ⟨lz, hB⟩ := Sv.view (OS.sv e0 a3 (i := 3) rfl)
   have mI := fI (hB av.toNat)
   refine wR 0 [(3, .o (iI (([3, 6, 9, 10, 11, 12, 13, 33, 34, 35, 10, 9] : List Int).getD av.toNat 0)))] 27 30 [7] [(7, (iI (([3, 6, 9, 10, 11, 12, 13, 33, 34, 35, 10, 9] : List Int).getD av.toNat 0)))] (vA (Sv.ix (j := av) (OS.sv e0 a3 (i := 3) rfl) (by omega) (show av < (12 : Int) from by omega)) (vA (ql 3 0 (vI (hB av.toNat) (show av.toNat < 12 from by omega)) rfl rfl) trivial)) rfl fun _ => ?_
   exact hC _ _ ⟨(([3, 6, 9, 10, 11, 12, 13, 33, 34, 35, 10, 9] : List Int).getD av.toNat 0), rfl, ⟨rfl, rfl, rfl, rfl, rfl, trivial⟩, (by exact lit12 (by omega))⟩
  have e9 := cc
  try simp only [BS] at e9
  exact hC _ _ ⟨15 + hK, rfl, ⟨rfl, rfl, rfl, rfl, rfl, trivial⟩, (by exact ops_al (by omega))⟩
 skip
 rintro mC hX ⟨A, rfl, hj, ho⟩
 refine ap _ hj (fun _ => ?_)
 clear hj
 have hf := ba ho.2
 have hvf : aC A = (aK A).form := if_neg (by have := ho.1; omega)
 have mV := ho.1
 refine ah 2 rfl (aa (wTo 3 0 [] 31 33 [] [(33, (.agg ⟨[(iI A), (iI 0), (iI 0), (iI 0), (iI 0), (.slice none 0 0)]⟩))] rfl fun _ => aG (bp a3 rfl) rfl rfl ?_))
 rintro _ lV _ ⟨E, rfl, (i2 : HS _ _ _ [_, _, _, _, [(E, .cells [(iI 0), (iI 0), (iI 0), (iI 0), (iI 0), (.slice none 0 0)] none false)]] _), _⟩
 refine aN (aI (q := 4) i2 rfl rfl rfl rfl rfl rfl rfl rfl rfl) rfl ?_
 rintro _ lW _ ⟨(hv : HS _ _ _ [_, _, _, _, [(E, .cells [(iI A), (iI 0), (iI 0), (iI 0), (iI 0), (.slice none 0 0)] none false)]] _), _⟩
 refine ae 2 rfl (aa (wm (iI A) rfl rfl rfl (aA (aq rfl rfl rfl) rfl rfl (m1.rInfo_c ex A (HS.call hv) (by omega) hT) ?_)))
 rintro _ lX ⟨mY, mX, kR, g7, dk, rfl, kP, kQ, rfl, rfl⟩
 replace dk : HS _ _ _ [_, _, _, _, _] _ := HS.back hv rfl dk
 replace hT := hT.mono g7
 refine wTo 3 2 [] 37 38 [34] [(37, (.agg ⟨[(.string ⟨⟨(aK A).name.b⟩⟩), (iI (aK A).form), (.bool (aK A).ra), (.bool (aK A).wa), (.bool (aK A).rb), (.bool (aK A).mt), (iI (aK A).words)]⟩)), (38, (.bool (infO A)))] rfl fun _ => aG (bp dk rfl) rfl rfl ?_
 rintro _ lY _ ⟨e6, rfl, (i3 : HS _ _ _ [_, _, _, _, _, [(e6, .cells [(.string ⟨⟨[]⟩⟩), (iI 0), (.bool false), (.bool false), (.bool false), (.bool false), (iI 0)] none false)]] _), _⟩
 refine aN (aI (q := 5) i3 rfl rfl rfl rfl rfl rfl rfl rfl rfl) rfl ?_
 rintro _ lZ _ ⟨(a4 : HS _ _ _ [_, _, _, _, _, [(e6, .cells [(.string ⟨⟨(aK A).name.b⟩⟩), (iI (aK A).form), (.bool (aK A).ra), (.bool (aK A).wa), (.bool (aK A).rb), (.bool (aK A).mt), (iI (aK A).words)] none false)]] _), _⟩
 let b4 : Fp := [(b1, .cells [(iI c.params), (iI c.regs), (.slice b9 c.blocks.length ez)] none false)]
 let b5 : Fp := [(b3, .cells [(iI 0), (iI 0), (iI 0), (iI 0), (iI 0), (.slice none 0 0)] none false)]
 let b7 : Fp := [(e6, .cells [(.string ⟨⟨(aK A).name.b⟩⟩), (iI (aK A).form), (.bool (aK A).ra), (.bool (aK A).wa), (.bool (aK A).rb), (.bool (aK A).mt), (iI (aK A).words)] none false)]
 refine wa (.bool (infO A)) rfl rfl rfl (ae 2 rfl (wU 3 [(1, .o (iI (aK A).form))] 39 40 [12] [(12, (iI (aK A).form))] (ql 3 1 (HS.hc a4 (i := 5) rfl) rfl rfl) rfl fun _ => wT 1 [] 41 42 [] [(42, (.bool ((aK A).form != 1)))] rfl fun _ => bU (fun f H' => ∃ (ja : Int) (bz : DigT) (F' : Fz), Fz.le kR F' ∧ HS (Base.of H []) F' H' [b4, b5, [(J, .cells [(iI bz.n)] none false)], p8, [(E, .cells [(iI A), (iI ja), (iI 0), (iI 0), (iI 0), (.slice none 0 0)] none false)], b7] R ∧ aD f [(0, (iI n)), (3, (.pointer (some ⟨b1, 0, none⟩))), (4, (.pointer (some ⟨b3, 0, none⟩))), (5, (.pointer (some ⟨J, 0, none⟩))), (7, (iI A)), (9, (.pointer (some ⟨E, 0, none⟩))), (12, (iI (aK A).form))] ∧ (dq (decide (aC A ≠ 1)) ja c.regs = true) ∧ (in64 ja) ∧ (in64 bz.n)) (fun hD => ?_) ?_))
 ·
  refine am 0 0 (v := ((aK A).form != 1)) rfl rfl rfl rfl (fun ch => ?_) (fun ch => ?_)
  ·
   have fd := ch
   try simp only [BS] at fd
   refine aa (wUo 3 0 [(2, .o (iI c.regs))] 43 45 [] [(43, (.pointer (some ⟨J, 0, none⟩))), (45, (iI c.regs))] (ql 3 1 (HS.hc a4 (i := 0) rfl) rfl rfl) rfl fun _ => aA (aq rfl rfl rfl) rfl rfl (de ex (⟨c7.n⟩ : DigT) c.regs (HS.callOwn a4 (i := 2) rfl) (by omega) (by omega) hT (by omega)) ?_)
   rintro _ l1 ⟨h1, f8, lM, h7, dn, rfl, k7, mL⟩
   replace dn : HS _ _ _ [_, _, [(J, .cells [(iI f8.n)] none false)], _, _, _] _ := HS.backOwn a4 (i := 2) rfl rfl (fun _ hb => hb) dn
   refine wTo 2 4 [] 47 48 [] [(48, (.pointer (some ⟨E, 1, none⟩)))] rfl fun _ => aN (aI (q := 4) dn rfl rfl rfl rfl rfl rfl rfl rfl rfl) rfl ?_
   rintro _ l2 _ ⟨(jw : HS _ _ _ [_, _, _, _, [(E, .cells [(iI A), (iI h1), (iI 0), (iI 0), (iI 0), (.slice none 0 0)] none false)], _] _), _⟩
   refine ae 0 rfl ?_
   exact hD _ _ ⟨h1, (⟨f8.n⟩ : DigT), _, (h7), jw, ⟨rfl, rfl, rfl, rfl, rfl, rfl, rfl, trivial⟩, (by exact opOK_t (by omega) (by omega)), (by omega), (by assumption)⟩
  have fd := ch
  try simp only [BS] at fd
  exact hD _ _ ⟨0, (⟨c7.n⟩ : DigT), _, fR, a4, ⟨rfl, rfl, rfl, rfl, rfl, rfl, rfl, trivial⟩, (by exact iO (by omega) rfl), (by omega), (by assumption)⟩
 skip
 rintro mD l0 ⟨ja, bz, kS, g8, be, hk, hja, rja, lG⟩
 refine ap _ hk (fun _ => ?_)
 clear hk
 replace hT := hT.mono g8
 refine ah 3 rfl (wT 1 [] 49 58 [] [(58, (.bool ((((aK A).form == 3) || ((aK A).form == 4)) || ((aK A).form == 7))))] rfl fun _ => bU (fun f H' => ∃ (jb : Int) (b0 : DigT) (F' : Fz), Fz.le kS F' ∧ HS (Base.of H []) F' H' [b4, b5, [(J, .cells [(iI b0.n)] none false)], p8, [(E, .cells [(iI A), (iI ja), (iI jb), (iI 0), (iI 0), (.slice none 0 0)] none false)], b7] R ∧ aD f [(0, (iI n)), (3, (.pointer (some ⟨b1, 0, none⟩))), (4, (.pointer (some ⟨b3, 0, none⟩))), (5, (.pointer (some ⟨J, 0, none⟩))), (7, (iI A)), (9, (.pointer (some ⟨E, 0, none⟩))), (12, (iI (aK A).form))] ∧ (dq (decide (aC A = 3 ∨ aC A = 4 ∨ aC A = 7)) jb c.regs = true) ∧ (in64 jb) ∧ (in64 b0.n)) (fun hE => ?_) ?_)
 ·
  refine am 0 0 (v := ((((aK A).form == 3) || ((aK A).form == 4)) || ((aK A).form == 7))) rfl rfl rfl rfl (fun ci => ?_) (fun ci => ?_)
  ·
   have fi := ci
   try simp only [BS] at fi
   refine aa (wUo 3 0 [(2, .o (iI c.regs))] 59 61 [] [(59, (.pointer (some ⟨J, 0, none⟩))), (61, (iI c.regs))] (ql 3 1 (HS.hc be (i := 0) rfl) rfl rfl) rfl fun _ => aA (aq rfl rfl rfl) rfl rfl (de ex (⟨bz.n⟩ : DigT) c.regs (HS.callOwn be (i := 2) rfl) (by omega) (by omega) hT (by omega)) ?_)
   rintro _ l4 ⟨h2, f9, lN, h8, ds, rfl, k9, mM⟩
   replace ds : HS _ _ _ [_, _, [(J, .cells [(iI f9.n)] none false)], _, [(E, .cells [(iI A), (iI ja), (iI 0), (iI 0), (iI 0), (.slice none 0 0)] none false)], _] _ := HS.backOwn be (i := 2) rfl rfl (fun _ hb => hb) ds
   refine wTo 2 4 [] 63 64 [] [(64, (.pointer (some ⟨E, 2, none⟩)))] rfl fun _ => aN (aI (q := 4) ds rfl rfl rfl rfl rfl rfl rfl rfl rfl) rfl ?_
   rintro _ l5 _ ⟨(kc : HS _ _ _ [_, _, _, _, [(E, .cells [(iI A), (iI ja), (iI h2), (iI 0), (iI 0), (.slice none 0 0)] none false)], _] _), _⟩
   refine ae 0 rfl ?_
   exact hE _ _ ⟨h2, (⟨f9.n⟩ : DigT), _, (h8), kc, ⟨rfl, rfl, rfl, rfl, rfl, rfl, rfl, trivial⟩, (by exact opOK_t (by omega) (by omega)), (by omega), (by assumption)⟩
  have fi := ci
  try simp only [BS] at fi
  exact hE _ _ ⟨0, (⟨bz.n⟩ : DigT), _, fR, be, ⟨rfl, rfl, rfl, rfl, rfl, rfl, rfl, trivial⟩, (by exact iO (by omega) rfl), (by omega), (by assumption)⟩
 skip
 rintro mE l3 ⟨jb, b0, kT, g9, bk, hl, hjb, rjb, lH⟩
 refine ap _ hl (fun _ => ?_)
 clear hl
 replace hT := hT.mono g9
 refine ah 3 rfl (wT 1 [] 65 66 [] [(66, (.bool ((aK A).form == 4)))] rfl fun _ => bU (fun f H' => ∃ (jc : Int) (a0 : DigT) (F' : Fz), Fz.le kT F' ∧ HS (Base.of H []) F' H' [b4, b5, [(J, .cells [(iI a0.n)] none false)], p8, [(E, .cells [(iI A), (iI ja), (iI jb), (iI jc), (iI 0), (.slice none 0 0)] none false)], b7] R ∧ aD f [(0, (iI n)), (3, (.pointer (some ⟨b1, 0, none⟩))), (4, (.pointer (some ⟨b3, 0, none⟩))), (5, (.pointer (some ⟨J, 0, none⟩))), (7, (iI A)), (9, (.pointer (some ⟨E, 0, none⟩)))] ∧ (dq (decide (aC A = 4)) jc c.regs = true) ∧ (in64 jc) ∧ (in64 a0.n)) (fun hF => ?_) ?_)
 ·
  refine am 0 0 (v := ((aK A).form == 4)) rfl rfl rfl rfl (fun co => ?_) (fun co => ?_)
  ·
   have f0 := co
   try simp only [BS] at f0
   refine aa (wUo 3 0 [(2, .o (iI c.regs))] 67 69 [] [(67, (.pointer (some ⟨J, 0, none⟩))), (69, (iI c.regs))] (ql 3 1 (HS.hc bk (i := 0) rfl) rfl rfl) rfl fun _ => aA (aq rfl rfl rfl) rfl rfl (de ex (⟨b0.n⟩ : DigT) c.regs (HS.callOwn bk (i := 2) rfl) (by omega) (by omega) hT (by omega)) ?_)
   rintro _ l7 ⟨h3, go, lO, h9, dt, rfl, la, mN⟩
   replace dt : HS _ _ _ [_, _, [(J, .cells [(iI go.n)] none false)], _, [(E, .cells [(iI A), (iI ja), (iI jb), (iI 0), (iI 0), (.slice none 0 0)] none false)], _] _ := HS.backOwn bk (i := 2) rfl rfl (fun _ hb => hb) dt
   refine wTo 2 4 [] 71 72 [] [(72, (.pointer (some ⟨E, 3, none⟩)))] rfl fun _ => aN (aI (q := 4) dt rfl rfl rfl rfl rfl rfl rfl rfl rfl) rfl ?_
   rintro _ l8 _ ⟨(kd : HS _ _ _ [_, _, _, _, [(E, .cells [(iI A), (iI ja), (iI jb), (iI h3), (iI 0), (.slice none 0 0)] none false)], _] _), _⟩
   refine ae 0 rfl ?_
   exact hF _ _ ⟨h3, (⟨go.n⟩ : DigT), _, (h9), kd, ⟨rfl, rfl, rfl, rfl, rfl, rfl, trivial⟩, (by exact opOK_t (by omega) (by omega)), (by omega), (by assumption)⟩
  have f0 := co
  try simp only [BS] at f0
  exact hF _ _ ⟨0, (⟨b0.n⟩ : DigT), _, fR, bk, ⟨rfl, rfl, rfl, rfl, rfl, rfl, trivial⟩, (by exact iO (by omega) rfl), (by omega), (by assumption)⟩
 skip
 rintro mF l6 ⟨jc, a0, hW, ha, ad, hm, hjc, rjc, lI⟩
 refine ap _ hm (fun _ => ?_)
 clear hm
 replace hT := hT.mono ha
 refine ah 3 rfl (wT 3 [] 73 73 [] [(73, (iI A))] rfl fun _ => wT 1 [] 74 75 [] [(74, (.bool (A == 13)))] rfl fun _ => bU (fun f H' => ∃ (jq : Int) (asl : List Int) (e1 : DigT) (N : Option Addr) (U : Nat) (F' : Fz), Fz.le hW F' ∧ HS (Base.of H []) F' H' [b4, b5, [(J, .cells [(iI e1.n)] none false)], p8, [(E, .cells [(iI A), (iI ja), (iI jb), (iI jc), (iI jq), (.slice N asl.length U)] none false)], b7] R ∧ SR F' (.slice N asl.length U) asl ∧ aD f [(4, (.pointer (some ⟨b3, 0, none⟩))), (9, (.pointer (some ⟨E, 0, none⟩)))] ∧ (gw c.params A jq = true) ∧ (in64 jq) ∧ ((A = 6 ∨ asl.length = 0) ∧ asl.length ≤ 6) ∧ (asl.all (aL c.regs) = true) ∧ ((A = 6 → (jq = 0 ∧ asl.length = 2 ∨ jq = 1 ∧ asl.length = 1)) ∧ (A = 34 ∨ A = 35 → jq < 2)) ∧ (in64 e1.n)) (fun a2 => ?_) ?_)
 ·
  refine am 0 1 (v := (A == 13)) rfl rfl rfl rfl (fun c0 => ?_) (fun c0 => ?_)
  ·
   have f1 := c0
   try simp only [BS] at f1
   refine aa (wm (.pointer (some ⟨J, 0, none⟩)) rfl rfl rfl (aA (aq rfl rfl rfl) rfl rfl (de ex (⟨a0.n⟩ : DigT) (400) (HS.callOwn ad (i := 2) rfl) (by omega) (by omega) hT (by omega)) ?_))
   rintro _ me ⟨lp, g1, lQ, he, bl, rfl, lb, mO⟩
   replace bl : HS _ _ _ [_, _, [(J, .cells [(iI g1.n)] none false)], _, [(E, .cells [(iI A), (iI ja), (iI jb), (iI jc), (iI 0), (.slice none 0 0)] none false)], _] _ := HS.backOwn ad (i := 2) rfl rfl (fun _ hb => hb) bl
   replace hT := hT.mono he
   refine wm (iI n) rfl rfl rfl (aA (aq rfl rfl rfl) rfl rfl (word_c ex lp n (HS.call bl) (by omega) (by omega) hT) ?_)
   rintro _ mk ⟨h4, kU, ih, dv, rfl, mP⟩
   replace dv : HS _ _ _ [_, _, _, _, _, _] _ := HS.back bl rfl dv
   refine wTo 2 4 [] 80 81 [] [(81, (.pointer (some ⟨E, 4, none⟩)))] rfl fun _ => aN (aI (q := 4) dv rfl rfl rfl rfl rfl rfl rfl rfl rfl) rfl ?_
   rintro _ mn _ ⟨(kg : HS _ _ _ [_, _, _, _, [(E, .cells [(iI A), (iI ja), (iI jb), (iI jc), (iI h4), (.slice none 0 0)] none false)], _] _), _⟩
   refine ae 0 rfl ?_
   exact a2 _ _ ⟨h4, ([] : List Int), (⟨g1.n⟩ : DigT), none, 0, _, (fT (he) ih), kg, (SR.nil : SR kU (.slice none 0 0) ([] : List Int)), ⟨rfl, rfl, trivial⟩, (by exact immT (by omega)), (by assumption), (by (simp <;> omega)), (by rfl), (by omega), (by assumption)⟩
  have f1 := c0
  try simp only [BS] at f1
  refine wT 1 [] 82 83 [] [(82, (.bool (A == 33)))] rfl fun _ => am 0 2 (v := (A == 33)) rfl rfl rfl rfl (fun c3 => ?_) (fun c3 => ?_)
  ·
   have f2 := c3
   try simp only [BS] at f2
   refine aa (wm (.pointer (some ⟨J, 0, none⟩)) rfl rfl rfl (aA (aq rfl rfl rfl) rfl rfl (de ex (⟨a0.n⟩ : DigT) (9) (HS.callOwn ad (i := 2) rfl) (by omega) (by omega) hT (by omega)) ?_))
   rintro _ mp ⟨e2, g2, kV, ik, d1, rfl, lc, mQ⟩
   replace d1 : HS _ _ _ [_, _, [(J, .cells [(iI g2.n)] none false)], _, [(E, .cells [(iI A), (iI ja), (iI jb), (iI jc), (iI 0), (.slice none 0 0)] none false)], _] _ := HS.backOwn ad (i := 2) rfl rfl (fun _ hb => hb) d1
   refine wUo 3 2 [] 86 88 [] [(86, (iI (e2 - 4))), (88, (.pointer (some ⟨E, 4, none⟩)))] (vi (n := e2 - 4) (by omega)) rfl fun _ => aN (aI (q := 4) d1 rfl rfl rfl rfl rfl rfl rfl rfl rfl) rfl ?_
   rintro _ mq _ ⟨(ki : HS _ _ _ [_, _, _, _, [(E, .cells [(iI A), (iI ja), (iI jb), (iI jc), (iI (e2 - 4)), (.slice none 0 0)] none false)], _] _), _⟩
   refine ae 0 rfl ?_
   exact a2 _ _ ⟨e2 - 4, ([] : List Int), (⟨g2.n⟩ : DigT), none, 0, _, (ik), ki, (SR.nil : SR kV (.slice none 0 0) ([] : List Int)), ⟨rfl, rfl, trivial⟩, (by exact immT (by omega)), (by omega), (by (simp <;> omega)), (by rfl), (by omega), (by assumption)⟩
  have f2 := c3
  try simp only [BS] at f2
  refine wT 1 [] 89 90 [] [(89, (.bool (A == 34)))] rfl fun _ => am 1 0 (v := (A == 34)) rfl rfl rfl rfl (fun a9 => ?_) (fun a9 => ?_)
  ·
   have f3 := a9
   try simp only [BS] at f3
   refine bu 0 (v := (A == 34)) rfl a9 rfl rfl (aa (wm (.pointer (some ⟨J, 0, none⟩)) rfl rfl rfl (aA (aq rfl rfl rfl) rfl rfl (de ex (⟨a0.n⟩ : DigT) (2) (HS.callOwn ad (i := 2) rfl) (by omega) (by omega) hT (by omega)) ?_)))
   rintro _ mr ⟨h5, g3, kW, il, d2, rfl, ld, mR⟩
   replace d2 : HS _ _ _ [_, _, [(J, .cells [(iI g3.n)] none false)], _, [(E, .cells [(iI A), (iI ja), (iI jb), (iI jc), (iI 0), (.slice none 0 0)] none false)], _] _ := HS.backOwn ad (i := 2) rfl rfl (fun _ hb => hb) d2
   refine wTo 2 2 [] 94 95 [] [(95, (.pointer (some ⟨E, 4, none⟩)))] rfl fun _ => aN (aI (q := 4) d2 rfl rfl rfl rfl rfl rfl rfl rfl rfl) rfl ?_
   rintro _ ms _ ⟨(kl : HS _ _ _ [_, _, _, _, [(E, .cells [(iI A), (iI ja), (iI jb), (iI jc), (iI h5), (.slice none 0 0)] none false)], _] _), _⟩
   refine ae 0 rfl ?_
   exact a2 _ _ ⟨h5, ([] : List Int), (⟨g3.n⟩ : DigT), none, 0, _, (il), kl, (SR.nil : SR kW (.slice none 0 0) ([] : List Int)), ⟨rfl, rfl, trivial⟩, (by exact immT (by omega)), (by omega), (by (simp <;> omega)), (by rfl), (by omega), (by assumption)⟩
  have f3 := a9
  try simp only [BS] at f3
  refine wT 1 [] 89 91 [] [(89, (.bool (A == 35)))] rfl fun _ => am 0 1 (v := (A == 35)) rfl rfl rfl rfl (fun c4 => ?_) (fun c4 => ?_)
  ·
   have f4 := c4
   try simp only [BS] at f4
   refine aa (wm (.pointer (some ⟨J, 0, none⟩)) rfl rfl rfl (aA (aq rfl rfl rfl) rfl rfl (de ex (⟨a0.n⟩ : DigT) (2) (HS.callOwn ad (i := 2) rfl) (by omega) (by omega) hT (by omega)) ?_))
   rintro _ mu ⟨h6, g4, kX, it, ea, rfl, lf, mS⟩
   replace ea : HS _ _ _ [_, _, [(J, .cells [(iI g4.n)] none false)], _, [(E, .cells [(iI A), (iI ja), (iI jb), (iI jc), (iI 0), (.slice none 0 0)] none false)], _] _ := HS.backOwn ad (i := 2) rfl rfl (fun _ hb => hb) ea
   refine wTo 2 2 [] 94 95 [] [(95, (.pointer (some ⟨E, 4, none⟩)))] rfl fun _ => aN (aI (q := 4) ea rfl rfl rfl rfl rfl rfl rfl rfl rfl) rfl ?_
   rintro _ mw _ ⟨(kn : HS _ _ _ [_, _, _, _, [(E, .cells [(iI A), (iI ja), (iI jb), (iI jc), (iI h6), (.slice none 0 0)] none false)], _] _), _⟩
   refine ae 0 rfl ?_
   exact a2 _ _ ⟨h6, ([] : List Int), (⟨g4.n⟩ : DigT), none, 0, _, (it), kn, (SR.nil : SR kX (.slice none 0 0) ([] : List Int)), ⟨rfl, rfl, trivial⟩, (by exact immT (by omega)), (by omega), (by (simp <;> omega)), (by rfl), (by omega), (by assumption)⟩
  have f4 := c4
  try simp only [BS] at f4
  refine wT 1 [] 96 97 [] [(96, (.bool (A == 6)))] rfl fun _ => am 1 0 (v := (A == 6)) rfl rfl rfl rfl (fun c5 => ?_) (fun c5 => ?_)
  ·
   have f5 := c5
   try simp only [BS] at f5
   refine aa (wm (.pointer (some ⟨J, 0, none⟩)) rfl rfl rfl (aA (aq rfl rfl rfl) rfl rfl (de ex (⟨a0.n⟩ : DigT) (2) (HS.callOwn ad (i := 2) rfl) (by omega) (by omega) hT (by omega)) ?_))
   rintro _ mx ⟨aw, g5, kY, hg, em, rfl, lh, mT⟩
   replace em : HS _ _ _ [_, _, [(J, .cells [(iI g5.n)] none false)], _, [(E, .cells [(iI A), (iI ja), (iI jb), (iI jc), (iI 0), (.slice none 0 0)] none false)], _] _ := HS.backOwn ad (i := 2) rfl rfl (fun _ hb => hb) em
   refine wTo 2 2 [] 100 101 [] [(101, (.pointer (some ⟨E, 4, none⟩)))] rfl fun _ => aN (aI (q := 4) em rfl rfl rfl rfl rfl rfl rfl rfl rfl) rfl ?_
   rintro _ my _ ⟨(hz : HS _ _ _ [_, _, _, _, [(E, .cells [(iI A), (iI ja), (iI jb), (iI jc), (iI aw), (.slice none 0 0)] none false)], _] _), _⟩
   refine ae 2 rfl (wR 2 [(2, .o (iI aw))] 102 105 [13] [(13, (iI (2 - aw)))] (vA (ql 2 4 (HS.hc hz (i := 4) rfl) rfl rfl) (vA (vi (n := 2 - aw) (by omega)) trivial)) rfl fun _ => ?_)
   have es := HS.snoc hz
   have es : HS _ _ _ [_, _, _, _, _, _, []] _ := es
   refine aj (fun (mm : Nat) f H' => ∃ (kk : Int) (al : List Int) (dl : DigT) (Z : Fp) (T : Option Addr) (V : Nat) (F' : Fz), Fz.le kY F' ∧ HS (Base.of H []) F' H' [b4, b5, [(J, .cells [(iI dl.n)] none false)], p8, [(E, .cells [(iI A), (iI ja), (iI jb), (iI jc), (iI aw), (.slice T al.length V)] none false)], b7, Z] R ∧ OS F' (.slice T al.length V) al Z ∧ aD f [(3, (.pointer (some ⟨b1, 0, none⟩))), (4, (.pointer (some ⟨b3, 0, none⟩))), (5, (.pointer (some ⟨J, 0, none⟩))), (9, (.pointer (some ⟨E, 0, none⟩))), (13, (iI kk))] ∧ mm = kk.toNat ∧ ((al.length : Int) + kk = 2 - aw ∧ 0 ≤ kk) ∧ (al.all (aL c.regs) = true) ∧ (in64 dl.n) ∧ (kk ≤ 2)) _ ⟨2 - aw, ([] : List Int), (⟨g5.n⟩ : DigT), [], none, 0, _, fR, es, (OS.nil : OS _ (.slice none 0 0) ([] : List Int) []), ⟨rfl, rfl, rfl, rfl, rfl, trivial⟩, rfl, (by simp; omega), (by rfl), (by omega), (by omega)⟩ ?_
   rintro lE mH mz ⟨kk, al, dl, Z, T, V, lR, dd, ax, ag, hq, rfl, q1, q2, q3, q4⟩ ko
   refine ap _ hq (fun _ => ?_)
   clear hq
   replace hT := (hT.mono hg).mono dd
   refine ah 2 rfl (wT 1 [] 106 107 [] [(107, (.bool (decide ((0 : Int) < kk))))] rfl fun _ => am 3 3 (v := (decide ((0 : Int) < kk))) rfl rfl rfl rfl (fun c6 => ?_) (fun c6 => ?_))
   ·
    have f6 := c6
    try simp only [BS] at f6
    refine aS rfl (wfv (v := (.pointer (some ⟨E, 5, none⟩))) (bn rfl rfl) (aF (v := (.slice T al.length V)) (id := .l E) (aU (i := 5) rfl rfl (HS.hc ax.log0 (i := 4) rfl) rfl rfl) rfl rfl (bx rfl) (kb rfl) (fm (.pointer (some ⟨J, 0, none⟩)) rfl rfl rfl (wfv (v := (.pointer (some ⟨b1, 1, none⟩))) (bn rfl rfl) (aF (v := (iI c.regs)) (id := .l b1) (aU (i := 1) rfl rfl (HS.hc ax.log0 (i := 0) rfl) rfl rfl) rfl rfl (bx rfl) (kb rfl) ?_)))))
    refine bY (W := [J]) (aq rfl rfl rfl) rfl rfl rfl (de ex (⟨dl.n⟩ : DigT) c.regs (HS.callOwn ax.log0 (i := 2) rfl) (by omega) (by omega) hT (by omega)) (⟨.inl rfl, ⟨.inl rfl, ⟨.inl rfl, ⟨.inr (HS.nin ax (i := 4) (j := 2) rfl rfl (by decide) (List.Mem.head _)), ⟨.inr trivial, trivial⟩⟩⟩⟩⟩) ?_
    rintro _ kZ ⟨a5, g6, lS, hh, an, rfl, lj, mU⟩
    refine ⟨HS.didW an, fun kr hQ => ?_⟩
    replace an := HS.backOwn ax.log0 (i := 2) rfl rfl (fun _ hb => hb) an
    replace an := HS.lg an ax hQ
    generalize ({ kZ with log := kr } : Heap) = lq at an ⊢
    have an : HS _ _ _ [_, _, [(J, .cells [(iI g6.n)] none false)], _, [(E, .cells [(iI A), (iI ja), (iI jb), (iI jc), (iI aw), (.slice T al.length V)] none false)], _, Z] _ := an
    replace ag := ag.mono hh
    refine bM (id := .a) (bt (α := Int) (ps := [(0, (iI a5))]) (cells := [(iI a5)]) ([a5] : List Int) an.log0 rfl rfl rfl (by kernel_rfl) ⟨[(iI a5)], [], rfl, ⟨rfl, by omega⟩, rfl⟩ rfl) rfl rfl (fun _ _ _ _ => gZ rfl rfl rfl) (kb rfl) ?_
    rintro _ k0 ln ⟨mB, mW, rfl, iz, ar, _⟩ kx hR
    replace ar := HS.lg ar an hR
    generalize ({ k0 with log := kx } : Heap) = lr at ar ⊢
    have ar : HS _ _ _ [_, _, _, _, _, _, _, ln] _ := ar
    refine bM (id := .x (Z.map Prod.fst)) (bw (α := Int) (q := 6) ag ar.log0 rfl rfl rfl (OS.sv iz ar.log0 (i := 7) rfl) rfl rfl rfl rfl rfl rfl rfl (by (simp only [a05, a0a, a0e]; omega))) rfl rfl (by rintro _ _ hI ⟨e4, hG, rfl, ht, _, hwr⟩; exact bQ rfl rfl (Wr.did hwr)) (kb rfl) ?_
    rintro _ k3 hI ⟨e4, hG, rfl, ht, ay, _⟩ ky hS
    replace ay := HS.lg ay ar hS
    generalize ({ k3 with log := ky } : Heap) = lu at ay ⊢
    have ay : HS _ _ _ [_, _, _, _, _, _, hI, _] _ := ay
    refine wfv (v := (.pointer (some ⟨E, 5, none⟩))) (bn rfl rfl) (eN (id := .x [E]) (aI (q := 4) ay.log0 rfl rfl rfl rfl rfl rfl rfl rfl rfl) rfl (by rintro _ _ _ ⟨_, hwr⟩; exact bQ rfl rfl (Wr.did hwr)) (kb rfl) ?_)
    rintro _ k4 _ ⟨a1, _⟩ kz hV
    replace a1 := HS.lg a1 ay hV
    generalize ({ k4 with log := kz } : Heap) = lv at a1 ⊢
    have a1 : HS _ _ _ [_, _, _, _, [(E, .cells [(iI A), (iI ja), (iI jb), (iI jc), (iI aw), (.slice e4 (al ++ ([a5] : List Int)).length hG)] none false)], _, _, _] _ := a1
    refine bT (ah 2 rfl (wU 1 [] 108 109 [13] [(13, (iI (kk - 1)))] (vi (n := kk - 1) (by omega)) rfl fun _ => ko _ _ _ ?_ ⟨kk - 1, al ++ ([a5] : List Int), (⟨g6.n⟩ : DigT), hI, e4, hG, _, (fT (dd) hh), (HS.sub a1 (a03 _ _)), ht, ⟨rfl, rfl, rfl, rfl, rfl, trivial⟩, rfl, (by simp; omega), (by exact all_app q2 (aX.2 (by omega))), (by omega), (by omega)⟩))
    omega
   have f6 := c6
   try simp only [BS] at f6
   obtain ⟨lT, iv, et, i1, lC⟩ := OS.frz ag ax (i := 6) rfl
   have et : HS _ _ _ [_, _, [(J, .cells [(iI dl.n)] none false)], _, [(E, .cells [(iI A), (iI ja), (iI jb), (iI jc), (iI aw), (.slice T al.length V)] none false)], _, _] _ := et
   exact a2 _ _ ⟨aw, al, (⟨dl.n⟩ : DigT), T, V, _, (fT (fT (hg) dd) iv), (HS.sub et (a03 _ _)), i1, ⟨rfl, rfl, trivial⟩, (by exact immT (by omega)), (by omega), (by omega), (by assumption), (by omega), (by omega)⟩
  have f5 := c5
  try simp only [BS] at f5
  exact a2 _ _ ⟨0, ([] : List Int), (⟨a0.n⟩ : DigT), none, 0, _, fR, ad, (SR.nil : SR hW (.slice none 0 0) ([] : List Int)), ⟨rfl, rfl, trivial⟩, (by exact immT (by omega)), (by omega), (by (simp <;> omega)), (by rfl), (by omega), (by assumption)⟩
 skip
 rintro mG l9 ⟨jq, asl, e1, N, U, lP, ib, hw, b2, hp, hjq, rjq, hY, hu, hck, lJ⟩
 refine ap _ hp (fun _ => ?_)
 clear hp
 let hM : Value := (.agg ⟨[(iI A), (iI ja), (iI jb), (iI jc), (iI jq), (.slice N asl.length U)]⟩)
 refine ah 3 rfl (aa (wUo 1 0 [(0, .o hM)] 119 119 [] [(119, hM)] (qn 52 0 6 (HS.hc hw (i := 4) rfl) rfl rfl rfl rfl) rfl fun _ => aN (aI (q := 1) hw rfl rfl rfl rfl rfl rfl rfl rfl rfl) rfl ?_))
 rintro _ mA _ ⟨(hA : HS _ _ _ [_, [(b3, .cells [(iI A), (iI ja), (iI jb), (iI jc), (iI jq), (.slice N asl.length U)] none false)], [(J, .cells [(iI e1.n)] none false)], _, [(E, .cells [(iI A), (iI ja), (iI jb), (iI jc), (iI jq), (.slice N asl.length U)] none false)], _] _), _⟩
 refine ae 1 rfl (ak ⟨.inr rfl, _, (rC rfl (ldVN rfl rfl (HS.hc hA (i := 1) rfl) rfl) rN), (⟨(⟨A, ja, jb, jc, jq⟩ : InsT), asl⟩ : VInT), N, U, _, (fT (fT (fT (fT (fT (fT (c8) c9) g7) g8) g9) ha) ib), (HS.forget hA), rfl, (by (dsimp only; omega)), (by omega), (by omega), (by omega), (by omega), b2, (by exact vin_mk ho.2 hY.1 hY.2 hu hja hjb hjc hjq), (by exact decide_eq_true hck)⟩)
end Go.Proofs.YtknafdcgpaejlaaDoor.m4
