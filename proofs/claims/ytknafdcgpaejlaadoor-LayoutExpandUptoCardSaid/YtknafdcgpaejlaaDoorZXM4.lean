/-
 The generator of virtual code, function by function, each by a symbolic run: what it makes is valid. No condition but that the table lies as laid.
-/
import Derived.Test.YtknafdcgpaejlaaDoorZXM3
import Derived.Test.YtknafdcgpaejlaaDoorZXRC
noncomputable section
namespace Go.Proofs.YtknafdcgpaejlaaDoor.m4
open Go.R
set_option maxRecDepth 10000
set_option linter.unusedVariables false
set_option linter.unusedSimpArgs false
open m1 m2 m3
theorem wr64 (n : Int) : in64 (IntKind.i64.wrap n) := w64_in n
theorem td64 (n : Int) {m : Int} (h : 0 < m) : in64 (Int.tdiv (IntKind.i64.wrap n) m) := vq (wr64 n) (by omega)
theorem opOK_t {p : Prop} [Decidable p] {n r : Int} (h : p) (hn : 0 ≤ n ∧ n < r) : di (decide p) n r = true := by rw [decide_eq_true h]; exact bK.2 hn
theorem ij {p : Prop} [Decidable p] {n r : Int} (h : ¬ p) (hn : n = 0) : di (decide p) n r = true := by rw [decide_eq_false h, hn]; rfl
def opG (op : Int) : Prop := (op = 3 ∨ op = 6 ∨ (9 ≤ op ∧ op ≤ 13) ∨ (15 ≤ op ∧ op ≤ 35)) ∧ alV op = true
theorem ops_al {op : Int} (h : 15 ≤ op ∧ op ≤ 32) : opG op := ⟨by omega, decide_eq_true (by omega)⟩
theorem lit12 {k : Nat} (h : k < 12) : opG (([3, 6, 9, 10, 11, 12, 13, 33, 34, 35, 10, 9] : List Int).getD k 0) := by
 have : ∀ k : Fin 12, ((([3, 6, 9, 10, 11, 12, 13, 33, 34, 35, 10, 9] : List Int).getD k.val 0) = 3 ∨ (([3, 6, 9, 10, 11, 12, 13, 33, 34, 35, 10, 9] : List Int).getD k.val 0) = 6 ∨ (9 ≤ (([3, 6, 9, 10, 11, 12, 13, 33, 34, 35, 10, 9] : List Int).getD k.val 0) ∧ (([3, 6, 9, 10, 11, 12, 13, 33, 34, 35, 10, 9] : List Int).getD k.val 0) ≤ 13) ∨ (15 ≤ (([3, 6, 9, 10, 11, 12, 13, 33, 34, 35, 10, 9] : List Int).getD k.val 0) ∧ (([3, 6, 9, 10, 11, 12, 13, 33, 34, 35, 10, 9] : List Int).getD k.val 0) ≤ 35)) ∧ alV (([3, 6, 9, 10, 11, 12, 13, 33, 34, 35, 10, 9] : List Int).getD k.val 0) = true := by decide
 exact this ⟨k, h⟩
theorem immT {p op n : Int} (h : op = 13 ∨ op = 33 ∧ -4194304 ≤ n ∧ n < 4194304 ∨ op = 6 ∧ 0 ≤ n ∧ n < 8 ∨ (op = 34 ∨ op = 35) ∧ 0 ≤ n ∧ n < 4 ∨ (op ≠ 13 ∧ op ≠ 33 ∧ op ≠ 6 ∧ op ≠ 34 ∧ op ≠ 35 ∧ op ≠ 38) ∧ n = 0) : immV p op n = true := by
 unfold immV
 (repeat' split) <;> first | rfl | (apply decide_eq_true; omega) | (exfalso; omega)
theorem all_app {p : Int → Bool} {l : List Int} {x : Int} (h : l.all p = true) (hx : p x = true) : (l ++ [x]).all p = true := by rw [List.all_append, h]; simp [hx]
theorem vin_mk {params regs op a b c n : Int} {l : List Int} (z : alV op = true) (A : op = 6 ∨ l.length = 0) (E : l.length ≤ 6) (J : l.all (cb regs) = true) (N : di (decide (aM op ≠ 1)) a regs = true) (T : di (decide (aM op = 3 ∨ aM op = 4 ∨ aM op = 7)) b regs = true) (U : di (decide (aM op = 4)) c regs = true) (V : immV params op n = true) : fK params regs ⟨⟨op, a, b, c, n⟩, l⟩ = true := by
 unfold fK
 simp only [z, decide_eq_true A, decide_eq_true E, J, N, T, U, V, Bool.and_self]
def ckI (v : VInT) : Bool := decide ((v.i.op = 6 → (v.i.n = 0 ∧ v.args.length = 2 ∨ v.i.n = 1 ∧ v.args.length = 1)) ∧ (v.i.op = 34 ∨ v.i.op = 35 → v.i.n < 2))
theorem cm (ex : FuncId) {b_d : Nat} (d : DigT) (m : Int) {F : Fz} {H : Heap} {R : List Fp} (hs : HS (.of H [b_d]) F H [[(b_d, .cells [(iI d.n)] none false)]] R) (A : in64 d.n) (hm : in64 m) (hT : TB 37 tabC F) (hm : 0 < m) : C Tryd.prog 1 (KT 60 ex 37 tabC) 46 [(.pointer (some ⟨b_d, 0, none⟩)), (iI m)] H fun v H' => ∃ (r : Int) (d' : DigT) (F' : Fz), Fz.le F F' ∧ HS (.of H [b_d]) F' H' [[(b_d, .cells [(iI d'.n)] none false)]] R ∧ v = .int .i64 r ∧ in64 d'.n ∧ (0 ≤ r ∧ r < m) := by
 refine aJ Tryd.func46 rfl rfl ?_
 refine aq 1 rfl ?_
 refine wR 2 [] 4 4 [] [(4, (iI 0))] trivial rfl fun _ => ?_
 have E := dw d.n m
 refine wR 2 [(3, .o (iI d.n)), (5, .o (iI (aS d.n m)))] 6 11 [5] [(5, (iI (aS d.n m)))] (vA (ql 3 0 (HS.hc hs (i := 0) rfl) rfl rfl) (vA (m1.eK ex d.n m H (by omega)) trivial)) rfl fun _ => ?_
 refine aa ?_
 refine wRo 11 0 [(4, .o (iI d.n)), (6, .w)] 12 22 [] [(20, (iI (Int.tdiv (IntKind.i64.wrap (d.n - (aS d.n m))) m))), (22, (.pointer (some ⟨b_d, 0, none⟩)))] (vA (ql 3 0 (HS.hc hs (i := 0) rfl) rfl rfl) (vA (vA (show m ≠ 0 from by omega) (vq (a := IntKind.i64.wrap (d.n - (aS d.n m))) (b := m) (by exact wr64 _) (by omega))) trivial)) rfl fun _ => ?_
 refine aF (aw (q := 0) hs rfl rfl rfl rfl rfl rfl rfl rfl rfl) rfl ?_
 rintro _ J _ ⟨(z : HS _ _ _ [[(b_d, .cells [(iI (Int.tdiv (IntKind.i64.wrap (d.n - (aS d.n m))) m))] none false)]] _), _⟩
 refine ab 2 rfl ?_
 refine wR 1 [] 4 4 [23] [(4, (iI (aS d.n m)))] trivial rfl fun _ => ?_
 refine ah ⟨.inr rfl, _, rfl, aS d.n m, (⟨Int.tdiv (IntKind.i64.wrap (d.n - (aS d.n m))) m⟩ : DigT), _, fR, (HS.first z), rfl, (by exact td64 _ (by omega)), (by omega)⟩
theorem word_c (ex : FuncId) (n : Int) (raw : Int) {F : Fz} {H : Heap} {R : List Fp} (hs : HS (.of H []) F H [] R) (hn : in64 n) (hraw : in64 raw) (hT : TB 37 tabC F) : C Tryd.prog 1 (KT 60 ex 37 tabC) 47 [(iI n), (iI raw)] H fun v H' => ∃ (r : Int) (F' : Fz), Fz.le F F' ∧ HS (.of H []) F' H' [] R ∧ v = .int .i64 r ∧ (in64 r) := by
 refine aJ Tryd.func47 rfl rfl ?_
 refine aq 1 rfl ?_
 refine wR 2 [] 4 4 [] [(4, (iI 0))] trivial rfl fun _ => ?_
 refine aa ?_
 refine aC (aP (α := Int) (ps := [(0, (iI 0)), (1, (iI 1)), (2, (iI (-1))), (3, (iI 2)), (4, (iI (-9223372036854775808))), (5, (iI 9223372036854775807)), (6, (iI 4294967296)), (7, (iI (-2147483648))), (8, (iI 63)), (9, (iI 64))]) (cells := [(iI 0), (iI 1), (iI (-1)), (iI 2), (iI (-9223372036854775808)), (iI 9223372036854775807), (iI 4294967296), (iI (-2147483648)), (iI 63), (iI 64)]) ([0, 1, (-1), 2, (-9223372036854775808), 9223372036854775807, 4294967296, (-2147483648), 63, 64] : List Int) hs rfl rfl rfl (by kernel_rfl) ⟨[(iI 0)], _, rfl, ⟨rfl, by omega⟩, ⟨[(iI 1)], _, rfl, ⟨rfl, by omega⟩, ⟨[(iI (-1))], _, rfl, ⟨rfl, by omega⟩, ⟨[(iI 2)], _, rfl, ⟨rfl, by omega⟩, ⟨[(iI (-9223372036854775808))], _, rfl, ⟨rfl, by omega⟩, ⟨[(iI 9223372036854775807)], _, rfl, ⟨rfl, by omega⟩, ⟨[(iI 4294967296)], _, rfl, ⟨rfl, by omega⟩, ⟨[(iI (-2147483648))], _, rfl, ⟨rfl, by omega⟩, ⟨[(iI 63)], _, rfl, ⟨rfl, by omega⟩, ⟨[(iI 64)], _, rfl, ⟨rfl, by omega⟩, rfl⟩⟩⟩⟩⟩⟩⟩⟩⟩⟩ rfl) rfl rfl ?_
 rintro _ V p2 ⟨Z, k2, rfl, N, (z : HS _ _ _ [p2] _), _⟩
 refine wa (.slice Z ([0, 1, (-1), 2, (-9223372036854775808), 9223372036854775807, 4294967296, (-2147483648), 63, 64] : List Int).length k2) rfl rfl rfl ?_
 refine ab 2 rfl ?_
 have ar := dw n (24 : Int)
 refine wR 4 [(1, .o (iI (aS n (24 : Int))))] 8 9 [6] [(6, (iI (aS n (24 : Int))))] (vA (m1.eK ex n (24) V (by omega)) trivial) rfl fun _ => ?_
 refine wR 1 [] 10 12 [] [(10, (.bool (decide (aS n (24 : Int) < 10))))] trivial rfl fun _ => ?_
 refine ap 1 1 (v := (decide (aS n (24 : Int) < 10))) rfl rfl rfl rfl (fun J => ?_) (fun J => ?_)
 ·
  have U := J
  try simp only [BS] at U
  obtain ⟨an, T⟩ := Sv.view (OS.sv N z (i := 0) rfl)
  have g9 := fI (T (aS n (24 : Int)).toNat)
  refine wR 1 [(3, .o (iI (([0, 1, (-1), 2, (-9223372036854775808), 9223372036854775807, 4294967296, (-2147483648), 63, 64] : List Int).getD (aS n (24 : Int)).toNat 0)))] 13 16 [4] [(4, (iI (([0, 1, (-1), 2, (-9223372036854775808), 9223372036854775807, 4294967296, (-2147483648), 63, 64] : List Int).getD (aS n (24 : Int)).toNat 0)))] (vA (Sv.ix (j := aS n (24 : Int)) (OS.sv N z (i := 0) rfl) (by omega) (show aS n (24 : Int) < (10 : Int) from by omega)) (vA (ql 2 0 (vI (T (aS n (24 : Int)).toNat) (show (aS n (24 : Int)).toNat < 10 from by omega)) rfl rfl) trivial)) rfl fun _ => ?_
  refine ah ⟨.inr rfl, _, rfl, (([0, 1, (-1), 2, (-9223372036854775808), 9223372036854775807, 4294967296, (-2147483648), 63, 64] : List Int).getD (aS n (24 : Int)).toNat 0), _, fR, (HS.forget z), rfl, (by omega)⟩
 have U := J
 try simp only [BS] at U
 refine wR 1 [] 17 19 [] [(17, (.bool (decide (aS n (24 : Int) < 22))))] trivial rfl fun _ => ?_
 refine ap 1 3 (v := (decide (aS n (24 : Int) < 22))) rfl rfl rfl rfl (fun A => ?_) (fun A => ?_)
 ·
  have E := A
  try simp only [BS] at E
  have al : in64 n → in64 (Int.tdiv n 24) := fun h => vq h (by decide)
  have ad := dw (Int.tdiv n 24) (17 : Int)
  refine wR 1 [(2, .o (iI (aS (Int.tdiv n 24) (17 : Int))))] 20 23 [4] [(4, (iI ((aS (Int.tdiv n 24) (17 : Int)) - 6)))] (vA (vA (show (24 : Int) ≠ 0 from by decide) (vq (a := n) (b := 24) (by omega) (by decide))) (vA (m1.eK ex (Int.tdiv n 24) (17) V (by omega)) (vA (vi (n := (aS (Int.tdiv n 24) (17 : Int)) - 6) (by omega)) trivial))) rfl fun _ => ?_
  refine ah ⟨.inr rfl, _, rfl, (aS (Int.tdiv n 24) (17 : Int)) - 6, _, fR, (HS.forget z), rfl, (by omega)⟩
 have E := A
 try simp only [BS] at E
 refine wR 1 [] 4 4 [24] [(4, (iI raw))] trivial rfl fun _ => ?_
 refine ah ⟨.inr rfl, _, rfl, raw, _, fR, (HS.forget z), rfl, (by omega)⟩
set_option maxHeartbeats 1000000 in
theorem vi_c (ex : FuncId) (n : Int) {cc : Option Addr} {ez : Nat} (c : VFnT) {F : Fz} {H : Heap} {R : List Fp} (hs : HS (.of H []) F H [] R) (hn : in64 n) (k6 : in64 c.params) (k7 : in64 c.regs) (hT : TB 37 tabC F) (hr : 1 ≤ c.regs ∧ c.regs ≤ 3000) : C Tryd.prog 1 (KT 60 ex 37 tabC) 31 [(iI n), (.agg ⟨[(iI c.params), (iI c.regs), (.slice cc c.blocks.length ez)]⟩)] H fun v H' => ∃ (x : VInT) (e5 : Option Addr) (hK : Nat) (F' : Fz), Fz.le F F' ∧ HS (.of H []) F' H' [] R ∧ v = .agg ⟨[.int .i64 x.i.op, .int .i64 x.i.a, .int .i64 x.i.b, .int .i64 x.i.c, .int .i64 x.i.n, .slice e5 x.args.length hK]⟩ ∧ in64 x.i.op ∧ in64 x.i.a ∧ in64 x.i.b ∧ in64 x.i.c ∧ in64 x.i.n ∧ SR F' (.slice e5 x.args.length hK) x.args ∧ (fK c.params c.regs x = true) ∧ (ckI x = true) := by
 refine aJ Tryd.func31 rfl rfl ?_
 refine aq 1 rfl ?_
 refine aa ?_
 refine aC (be hs rfl rfl) rfl rfl ?_
 rintro _ H2 _ ⟨b1, rfl, (hw : HS _ _ _ [[(b1, .cells [(iI c.params), (iI c.regs), (.slice cc c.blocks.length ez)] none false)]] _), _⟩
 refine aC (aR hw rfl) rfl rfl ?_
 rintro _ H4 _ ⟨b3, rfl, (kU : HS _ _ _ [_, [(b3, .cells [(iI 0), (iI 0), (iI 0), (iI 0), (iI 0), (.slice none 0 0)] none false)]] _), _⟩
 refine ab 2 rfl ?_
 refine aa ?_
 refine wRo 2 0 [] 14 15 [] [(15, (.agg ⟨[(iI n)]⟩))] trivial rfl fun _ => ?_
 refine aC (be kU rfl rfl) rfl rfl ?_
 rintro _ H7 _ ⟨E, rfl, (kV : HS _ _ _ [_, _, [(E, .cells [(iI n)] none false)]] _), _⟩
 refine wa (.pointer (some ⟨E, 0, none⟩)) rfl rfl rfl ?_
 refine ab 2 rfl ?_
 refine aa ?_
 refine aC (aP (α := Int) (ps := [(0, (iI 3)), (1, (iI 6)), (2, (iI 9)), (3, (iI 10)), (4, (iI 11)), (5, (iI 12)), (6, (iI 13)), (7, (iI 33)), (8, (iI 34)), (9, (iI 35)), (10, (iI 10)), (11, (iI 9))]) (cells := [(iI 3), (iI 6), (iI 9), (iI 10), (iI 11), (iI 12), (iI 13), (iI 33), (iI 34), (iI 35), (iI 10), (iI 9)]) ([3, 6, 9, 10, 11, 12, 13, 33, 34, 35, 10, 9] : List Int) kV rfl rfl rfl (by kernel_rfl) ⟨[(iI 3)], _, rfl, ⟨rfl, by omega⟩, ⟨[(iI 6)], _, rfl, ⟨rfl, by omega⟩, ⟨[(iI 9)], _, rfl, ⟨rfl, by omega⟩, ⟨[(iI 10)], _, rfl, ⟨rfl, by omega⟩, ⟨[(iI 11)], _, rfl, ⟨rfl, by omega⟩, ⟨[(iI 12)], _, rfl, ⟨rfl, by omega⟩, ⟨[(iI 13)], _, rfl, ⟨rfl, by omega⟩, ⟨[(iI 33)], _, rfl, ⟨rfl, by omega⟩, ⟨[(iI 34)], _, rfl, ⟨rfl, by omega⟩, ⟨[(iI 35)], _, rfl, ⟨rfl, by omega⟩, ⟨[(iI 10)], _, rfl, ⟨rfl, by omega⟩, ⟨[(iI 9)], _, rfl, ⟨rfl, by omega⟩, rfl⟩⟩⟩⟩⟩⟩⟩⟩⟩⟩⟩⟩ rfl) rfl rfl ?_
 rintro _ H9 p8 ⟨a8, k8, rfl, e0, (h5 : HS _ _ _ [_, _, _, p8] _), _⟩
 refine wa (.slice a8 ([3, 6, 9, 10, 11, 12, 13, 33, 34, 35, 10, 9] : List Int).length k8) rfl rfl rfl ?_
 refine ab 2 rfl ?_
 refine aa ?_
 refine wm (.pointer (some ⟨E, 0, none⟩)) rfl rfl rfl ?_
 refine az (am rfl rfl rfl) rfl rfl (cm ex (⟨n⟩ : DigT) (18) (HS.callOwn h5 (i := 2) rfl) (by omega) (by omega) hT (by omega)) ?_
 rintro _ lA ⟨hQ, go, ll, c9, bb, rfl, kJ, mn⟩
 replace bb : HS _ _ _ [_, _, [(E, .cells [(iI go.n)] none false)], _] _ := HS.backOwn h5 (i := 2) rfl rfl (fun _ hb => hb) bb
 replace hT := hT.mono c9
 refine wRo 2 2 [] 20 20 [7] [(7, (iI (15 + hQ)))] (vA (vi (n := 15 + hQ) (by omega)) trivial) rfl fun _ => ?_
 refine ab 3 rfl ?_
 refine aa ?_
 refine wm (.pointer (some ⟨E, 0, none⟩)) rfl rfl rfl ?_
 refine az (am rfl rfl rfl) rfl rfl (cm ex (⟨go.n⟩ : DigT) (24) (HS.callOwn bb (i := 2) rfl) (by omega) (by omega) hT (by omega)) ?_
 rintro _ h3 ⟨ar, c8, lm, dd, a3, rfl, kK, mp⟩
 replace a3 : HS _ _ _ [_, _, [(E, .cells [(iI c8.n)] none false)], _] _ := HS.backOwn bb (i := 2) rfl rfl (fun _ hb => hb) a3
 replace hT := hT.mono dd
 replace e0 := (e0.mono c9).mono dd
 refine wa (iI ar) rfl rfl rfl ?_
 refine ab 2 rfl ?_
 refine wR 1 [] 23 26 [] [(26, (.bool (decide (ar < 12))))] trivial rfl fun _ => ?_
 refine aY (fun f H' => ∃ (z : Int), H' = h3 ∧ aH f [(0, (iI n)), (3, (.pointer (some ⟨b1, 0, none⟩))), (4, (.pointer (some ⟨b3, 0, none⟩))), (5, (.pointer (some ⟨E, 0, none⟩))), (7, (iI z))] ∧ (opG z)) (fun hE => ?_) ?_
 ·
  refine ap 0 0 (v := (decide (ar < 12))) rfl rfl rfl rfl (fun ch => ?_) (fun ch => ?_)
  ·
   have fd := ch
   try simp only [BS] at fd
   obtain ⟨k5, hD⟩ := Sv.view (OS.sv e0 a3 (i := 3) rfl)
   have mk := fI (hD ar.toNat)
   refine wR 0 [(3, .o (iI (([3, 6, 9, 10, 11, 12, 13, 33, 34, 35, 10, 9] : List Int).getD ar.toNat 0)))] 27 30 [7] [(7, (iI (([3, 6, 9, 10, 11, 12, 13, 33, 34, 35, 10, 9] : List Int).getD ar.toNat 0)))] (vA (Sv.ix (j := ar) (OS.sv e0 a3 (i := 3) rfl) (by omega) (show ar < (12 : Int) from by omega)) (vA (ql 3 0 (vI (hD ar.toNat) (show ar.toNat < 12 from by omega)) rfl rfl) trivial)) rfl fun _ => ?_
   exact hE _ _ ⟨(([3, 6, 9, 10, 11, 12, 13, 33, 34, 35, 10, 9] : List Int).getD ar.toNat 0), rfl, ⟨rfl, rfl, rfl, rfl, rfl, trivial⟩, (by exact lit12 (by omega))⟩
  have fd := ch
  try simp only [BS] at fd
  exact hE _ _ ⟨15 + hQ, rfl, ⟨rfl, rfl, rfl, rfl, rfl, trivial⟩, (by exact ops_al (by omega))⟩
 skip
 rintro l4 h3 ⟨z, rfl, hl, ho⟩
 refine au _ hl (fun _ => ?_)
 clear hl
 have hf := vform_cases ho.2
 have hvf : aM z = (aD z).form := if_neg (by have := ho.1; omega)
 have mC := ho.1
 refine aq 2 rfl ?_
 refine aa ?_
 refine wRo 3 0 [] 31 33 [] [(33, (.agg ⟨[(iI z), (iI 0), (iI 0), (iI 0), (iI 0), (.slice none 0 0)]⟩))] trivial rfl fun _ => ?_
 refine aC (aR a3 rfl) rfl rfl ?_
 rintro _ lB _ ⟨A, rfl, (kc : HS _ _ _ [_, _, _, _, [(A, .cells [(iI 0), (iI 0), (iI 0), (iI 0), (iI 0), (.slice none 0 0)] none false)]] _), _⟩
 refine aF (aw (q := 4) kc rfl rfl rfl rfl rfl rfl rfl rfl rfl) rfl ?_
 rintro _ lC _ ⟨(hz : HS _ _ _ [_, _, _, _, [(A, .cells [(iI z), (iI 0), (iI 0), (iI 0), (iI 0), (.slice none 0 0)] none false)]] _), _⟩
 refine ab 2 rfl ?_
 refine aa ?_
 refine wm (iI z) rfl rfl rfl ?_
 refine az (am rfl rfl rfl) rfl rfl (m1.rInfo_c ex z (HS.call hz) (by omega) hT) ?_
 rintro _ lD ⟨mF, mE, ky, g9, dn, rfl, kw, kx, rfl, rfl⟩
 replace dn : HS _ _ _ [_, _, _, _, _] _ := HS.back hz rfl dn
 replace hT := hT.mono g9
 refine wRo 3 2 [] 37 38 [34] [(37, (.agg ⟨[(.string ⟨⟨(aD z).name.b⟩⟩), (iI (aD z).form), (.bool (aD z).ra), (.bool (aD z).wa), (.bool (aD z).rb), (.bool (aD z).mt), (iI (aD z).words)]⟩)), (38, (.bool (infO z)))] trivial rfl fun _ => ?_
 refine aC (aR dn rfl) rfl rfl ?_
 rintro _ lE _ ⟨e6, rfl, (kd : HS _ _ _ [_, _, _, _, _, [(e6, .cells [(.string ⟨⟨[]⟩⟩), (iI 0), (.bool false), (.bool false), (.bool false), (.bool false), (iI 0)] none false)]] _), _⟩
 refine aF (aw (q := 5) kd rfl rfl rfl rfl rfl rfl rfl rfl rfl) rfl ?_
 rintro _ lF _ ⟨(a4 : HS _ _ _ [_, _, _, _, _, [(e6, .cells [(.string ⟨⟨(aD z).name.b⟩⟩), (iI (aD z).form), (.bool (aD z).ra), (.bool (aD z).wa), (.bool (aD z).rb), (.bool (aD z).mt), (iI (aD z).words)] none false)]] _), _⟩
 refine wa (.bool (infO z)) rfl rfl rfl ?_
 refine ab 2 rfl ?_
 refine wR 3 [(1, .o (iI (aD z).form))] 39 40 [12] [(12, (iI (aD z).form))] (vA (ql 3 1 (HS.hc a4 (i := 5) rfl) rfl rfl) trivial) rfl fun _ => ?_
 refine wR 1 [] 41 42 [] [(42, (.bool ((aD z).form != 1)))] trivial rfl fun _ => ?_
 let b7 : Fp := [(b1, .cells [(iI c.params), (iI c.regs), (.slice cc c.blocks.length ez)] none false)]
 let b8 : Fp := [(b3, .cells [(iI 0), (iI 0), (iI 0), (iI 0), (iI 0), (.slice none 0 0)] none false)]
 let b9 : Fp := [(e6, .cells [(.string ⟨⟨(aD z).name.b⟩⟩), (iI (aD z).form), (.bool (aD z).ra), (.bool (aD z).wa), (.bool (aD z).rb), (.bool (aD z).mt), (iI (aD z).words)] none false)]
 refine aY (fun f H' => ∃ (ja : Int) (b0 : DigT) (F' : Fz), Fz.le ky F' ∧ HS (Base.of H []) F' H' [b7, b8, [(E, .cells [(iI b0.n)] none false)], p8, [(A, .cells [(iI z), (iI ja), (iI 0), (iI 0), (iI 0), (.slice none 0 0)] none false)], b9] R ∧ aH f [(0, (iI n)), (3, (.pointer (some ⟨b1, 0, none⟩))), (4, (.pointer (some ⟨b3, 0, none⟩))), (5, (.pointer (some ⟨E, 0, none⟩))), (7, (iI z)), (9, (.pointer (some ⟨A, 0, none⟩))), (12, (iI (aD z).form))] ∧ (di (decide (aM z ≠ 1)) ja c.regs = true) ∧ (in64 ja) ∧ (in64 b0.n)) (fun hF => ?_) ?_
 ·
  refine ap 0 0 (v := ((aD z).form != 1)) rfl rfl rfl rfl (fun ci => ?_) (fun ci => ?_)
  ·
   have fi := ci
   try simp only [BS] at fi
   refine aa ?_
   refine wRo 3 0 [(2, .o (iI c.regs))] 43 45 [] [(43, (.pointer (some ⟨E, 0, none⟩))), (45, (iI c.regs))] (vA (ql 3 1 (HS.hc a4 (i := 0) rfl) rfl rfl) trivial) rfl fun _ => ?_
   refine az (am rfl rfl rfl) rfl rfl (cm ex (⟨c8.n⟩ : DigT) c.regs (HS.callOwn a4 (i := 2) rfl) (by omega) (by omega) hT (by omega)) ?_
   rintro _ lH ⟨h6, g0, ln, ik, ds, rfl, kL, mq⟩
   replace ds : HS _ _ _ [_, _, [(E, .cells [(iI g0.n)] none false)], _, _, _] _ := HS.backOwn a4 (i := 2) rfl rfl (fun _ hb => hb) ds
   refine wRo 2 4 [] 47 48 [] [(48, (.pointer (some ⟨A, 1, none⟩)))] trivial rfl fun _ => ?_
   refine aF (aw (q := 4) ds rfl rfl rfl rfl rfl rfl rfl rfl rfl) rfl ?_
   rintro _ lI _ ⟨(kg : HS _ _ _ [_, _, _, _, [(A, .cells [(iI z), (iI h6), (iI 0), (iI 0), (iI 0), (.slice none 0 0)] none false)], _] _), _⟩
   refine ab 0 rfl ?_
   exact hF _ _ ⟨h6, (⟨g0.n⟩ : DigT), _, (ik), kg, ⟨rfl, rfl, rfl, rfl, rfl, rfl, rfl, trivial⟩, (by exact opOK_t (by omega) (by omega)), (by omega), (by assumption)⟩
  have fi := ci
  try simp only [BS] at fi
  exact hF _ _ ⟨0, (⟨c8.n⟩ : DigT), _, fR, a4, ⟨rfl, rfl, rfl, rfl, rfl, rfl, rfl, trivial⟩, (by exact ij (by omega) rfl), (by omega), (by assumption)⟩
 skip
 rintro l5 lG ⟨ja, b0, kz, ha, bk, hm, hja, rja, ld⟩
 refine au _ hm (fun _ => ?_)
 clear hm
 replace hT := hT.mono ha
 refine aq 3 rfl ?_
 refine wR 1 [] 49 58 [] [(58, (.bool ((((aD z).form == 3) || ((aD z).form == 4)) || ((aD z).form == 7))))] trivial rfl fun _ => ?_
 refine aY (fun f H' => ∃ (jb : Int) (b2 : DigT) (F' : Fz), Fz.le kz F' ∧ HS (Base.of H []) F' H' [b7, b8, [(E, .cells [(iI b2.n)] none false)], p8, [(A, .cells [(iI z), (iI ja), (iI jb), (iI 0), (iI 0), (.slice none 0 0)] none false)], b9] R ∧ aH f [(0, (iI n)), (3, (.pointer (some ⟨b1, 0, none⟩))), (4, (.pointer (some ⟨b3, 0, none⟩))), (5, (.pointer (some ⟨E, 0, none⟩))), (7, (iI z)), (9, (.pointer (some ⟨A, 0, none⟩))), (12, (iI (aD z).form))] ∧ (di (decide (aM z = 3 ∨ aM z = 4 ∨ aM z = 7)) jb c.regs = true) ∧ (in64 jb) ∧ (in64 b2.n)) (fun hG => ?_) ?_
 ·
  refine ap 0 0 (v := ((((aD z).form == 3) || ((aD z).form == 4)) || ((aD z).form == 7))) rfl rfl rfl rfl (fun co => ?_) (fun co => ?_)
  ·
   have f0 := co
   try simp only [BS] at f0
   refine aa ?_
   refine wRo 3 0 [(2, .o (iI c.regs))] 59 61 [] [(59, (.pointer (some ⟨E, 0, none⟩))), (61, (iI c.regs))] (vA (ql 3 1 (HS.hc bk (i := 0) rfl) rfl rfl) trivial) rfl fun _ => ?_
   refine az (am rfl rfl rfl) rfl rfl (cm ex (⟨b0.n⟩ : DigT) c.regs (HS.callOwn bk (i := 2) rfl) (by omega) (by omega) hT (by omega)) ?_
   rintro _ lK ⟨h7, g1, lp, it, dt, rfl, kM, mr⟩
   replace dt : HS _ _ _ [_, _, [(E, .cells [(iI g1.n)] none false)], _, [(A, .cells [(iI z), (iI ja), (iI 0), (iI 0), (iI 0), (.slice none 0 0)] none false)], _] _ := HS.backOwn bk (i := 2) rfl rfl (fun _ hb => hb) dt
   refine wRo 2 4 [] 63 64 [] [(64, (.pointer (some ⟨A, 2, none⟩)))] trivial rfl fun _ => ?_
   refine aF (aw (q := 4) dt rfl rfl rfl rfl rfl rfl rfl rfl rfl) rfl ?_
   rintro _ lL _ ⟨(ki : HS _ _ _ [_, _, _, _, [(A, .cells [(iI z), (iI ja), (iI h7), (iI 0), (iI 0), (.slice none 0 0)] none false)], _] _), _⟩
   refine ab 0 rfl ?_
   exact hG _ _ ⟨h7, (⟨g1.n⟩ : DigT), _, (it), ki, ⟨rfl, rfl, rfl, rfl, rfl, rfl, rfl, trivial⟩, (by exact opOK_t (by omega) (by omega)), (by omega), (by assumption)⟩
  have f0 := co
  try simp only [BS] at f0
  exact hG _ _ ⟨0, (⟨b0.n⟩ : DigT), _, fR, bk, ⟨rfl, rfl, rfl, rfl, rfl, rfl, rfl, trivial⟩, (by exact ij (by omega) rfl), (by omega), (by assumption)⟩
 skip
 rintro l6 lJ ⟨jb, b2, kA, he, bl, hp, hjb, rjb, lf⟩
 refine au _ hp (fun _ => ?_)
 clear hp
 replace hT := hT.mono he
 refine aq 3 rfl ?_
 refine wR 1 [] 65 66 [] [(66, (.bool ((aD z).form == 4)))] trivial rfl fun _ => ?_
 refine aY (fun f H' => ∃ (jc : Int) (a0 : DigT) (F' : Fz), Fz.le kA F' ∧ HS (Base.of H []) F' H' [b7, b8, [(E, .cells [(iI a0.n)] none false)], p8, [(A, .cells [(iI z), (iI ja), (iI jb), (iI jc), (iI 0), (.slice none 0 0)] none false)], b9] R ∧ aH f [(0, (iI n)), (3, (.pointer (some ⟨b1, 0, none⟩))), (4, (.pointer (some ⟨b3, 0, none⟩))), (5, (.pointer (some ⟨E, 0, none⟩))), (7, (iI z)), (9, (.pointer (some ⟨A, 0, none⟩)))] ∧ (di (decide (aM z = 4)) jc c.regs = true) ∧ (in64 jc) ∧ (in64 a0.n)) (fun hH => ?_) ?_
 ·
  refine ap 0 0 (v := ((aD z).form == 4)) rfl rfl rfl rfl (fun c0 => ?_) (fun c0 => ?_)
  ·
   have f1 := c0
   try simp only [BS] at f1
   refine aa ?_
   refine wRo 3 0 [(2, .o (iI c.regs))] 67 69 [] [(67, (.pointer (some ⟨E, 0, none⟩))), (69, (iI c.regs))] (vA (ql 3 1 (HS.hc bl (i := 0) rfl) rfl rfl) trivial) rfl fun _ => ?_
   refine az (am rfl rfl rfl) rfl rfl (cm ex (⟨b2.n⟩ : DigT) c.regs (HS.callOwn bl (i := 2) rfl) (by omega) (by omega) hT (by omega)) ?_
   rintro _ lN ⟨h8, g2, lq, iv, dv, rfl, kN, ms⟩
   replace dv : HS _ _ _ [_, _, [(E, .cells [(iI g2.n)] none false)], _, [(A, .cells [(iI z), (iI ja), (iI jb), (iI 0), (iI 0), (.slice none 0 0)] none false)], _] _ := HS.backOwn bl (i := 2) rfl rfl (fun _ hb => hb) dv
   refine wRo 2 4 [] 71 72 [] [(72, (.pointer (some ⟨A, 3, none⟩)))] trivial rfl fun _ => ?_
   refine aF (aw (q := 4) dv rfl rfl rfl rfl rfl rfl rfl rfl rfl) rfl ?_
   rintro _ lO _ ⟨(kj : HS _ _ _ [_, _, _, _, [(A, .cells [(iI z), (iI ja), (iI jb), (iI h8), (iI 0), (.slice none 0 0)] none false)], _] _), _⟩
   refine ab 0 rfl ?_
   exact hH _ _ ⟨h8, (⟨g2.n⟩ : DigT), _, (iv), kj, ⟨rfl, rfl, rfl, rfl, rfl, rfl, trivial⟩, (by exact opOK_t (by omega) (by omega)), (by omega), (by assumption)⟩
  have f1 := c0
  try simp only [BS] at f1
  exact hH _ _ ⟨0, (⟨b2.n⟩ : DigT), _, fR, bl, ⟨rfl, rfl, rfl, rfl, rfl, rfl, trivial⟩, (by exact ij (by omega) rfl), (by omega), (by assumption)⟩
 skip
 rintro l7 lM ⟨jc, a0, h1, hg, Z, hq, hjc, rjc, lh⟩
 refine au _ hq (fun _ => ?_)
 clear hq
 replace hT := hT.mono hg
 refine aq 3 rfl ?_
 refine wR 3 [] 73 73 [] [(73, (iI z))] trivial rfl fun _ => ?_
 refine wR 1 [] 74 75 [] [(74, (.bool (z == 13)))] trivial rfl fun _ => ?_
 refine aY (fun f H' => ∃ (jq : Int) (asl : List Int) (e1 : DigT) (J : Option Addr) (T : Nat) (F' : Fz), Fz.le h1 F' ∧ HS (Base.of H []) F' H' [b7, b8, [(E, .cells [(iI e1.n)] none false)], p8, [(A, .cells [(iI z), (iI ja), (iI jb), (iI jc), (iI jq), (.slice J asl.length T)] none false)], b9] R ∧ SR F' (.slice J asl.length T) asl ∧ aH f [(4, (.pointer (some ⟨b3, 0, none⟩))), (9, (.pointer (some ⟨A, 0, none⟩)))] ∧ (immV c.params z jq = true) ∧ (in64 jq) ∧ ((z = 6 ∨ asl.length = 0) ∧ asl.length ≤ 6) ∧ (asl.all (cb c.regs) = true) ∧ ((z = 6 → (jq = 0 ∧ asl.length = 2 ∨ jq = 1 ∧ asl.length = 1)) ∧ (z = 34 ∨ z = 35 → jq < 2)) ∧ (in64 e1.n)) (fun a2 => ?_) ?_
 ·
  refine ap 0 1 (v := (z == 13)) rfl rfl rfl rfl (fun c3 => ?_) (fun c3 => ?_)
  ·
   have f2 := c3
   try simp only [BS] at f2
   refine aa ?_
   refine wm (.pointer (some ⟨E, 0, none⟩)) rfl rfl rfl ?_
   refine az (am rfl rfl rfl) rfl rfl (cm ex (⟨a0.n⟩ : DigT) (400) (HS.callOwn Z (i := 2) rfl) (by omega) (by omega) hT (by omega)) ?_
   rintro _ lQ ⟨kX, g3, lu, hh, bz, rfl, kO, mu⟩
   replace bz : HS _ _ _ [_, _, [(E, .cells [(iI g3.n)] none false)], _, [(A, .cells [(iI z), (iI ja), (iI jb), (iI jc), (iI 0), (.slice none 0 0)] none false)], _] _ := HS.backOwn Z (i := 2) rfl rfl (fun _ hb => hb) bz
   replace hT := hT.mono hh
   refine wm (iI n) rfl rfl rfl ?_
   refine az (am rfl rfl rfl) rfl rfl (word_c ex kX n (HS.call bz) (by omega) (by omega) hT) ?_
   rintro _ lR ⟨ib, kB, i1, d1, rfl, mw⟩
   replace d1 : HS _ _ _ [_, _, _, _, _, _] _ := HS.back bz rfl d1
   refine wRo 2 4 [] 80 81 [] [(81, (.pointer (some ⟨A, 4, none⟩)))] trivial rfl fun _ => ?_
   refine aF (aw (q := 4) d1 rfl rfl rfl rfl rfl rfl rfl rfl rfl) rfl ?_
   rintro _ lS _ ⟨(kl : HS _ _ _ [_, _, _, _, [(A, .cells [(iI z), (iI ja), (iI jb), (iI jc), (iI ib), (.slice none 0 0)] none false)], _] _), _⟩
   refine ab 0 rfl ?_
   exact a2 _ _ ⟨ib, ([] : List Int), (⟨g3.n⟩ : DigT), none, 0, _, (fT (hh) i1), kl, (SR.nil : SR kB (.slice none 0 0) ([] : List Int)), ⟨rfl, rfl, trivial⟩, (by exact immT (by omega)), (by assumption), (by (simp <;> omega)), (by rfl), (by omega), (by assumption)⟩
  have f2 := c3
  try simp only [BS] at f2
  refine wR 1 [] 82 83 [] [(82, (.bool (z == 33)))] trivial rfl fun _ => ?_
  refine ap 0 2 (v := (z == 33)) rfl rfl rfl rfl (fun c4 => ?_) (fun c4 => ?_)
  ·
   have f3 := c4
   try simp only [BS] at f3
   refine aa ?_
   refine wm (.pointer (some ⟨E, 0, none⟩)) rfl rfl rfl ?_
   refine az (am rfl rfl rfl) rfl rfl (cm ex (⟨a0.n⟩ : DigT) (9) (HS.callOwn Z (i := 2) rfl) (by omega) (by omega) hT (by omega)) ?_
   rintro _ lT ⟨e2, g4, kC, i2, d2, rfl, kP, mx⟩
   replace d2 : HS _ _ _ [_, _, [(E, .cells [(iI g4.n)] none false)], _, [(A, .cells [(iI z), (iI ja), (iI jb), (iI jc), (iI 0), (.slice none 0 0)] none false)], _] _ := HS.backOwn Z (i := 2) rfl rfl (fun _ hb => hb) d2
   refine wRo 3 2 [] 86 88 [] [(86, (iI (e2 - 4))), (88, (.pointer (some ⟨A, 4, none⟩)))] (vA (vi (n := e2 - 4) (by omega)) trivial) rfl fun _ => ?_
   refine aF (aw (q := 4) d2 rfl rfl rfl rfl rfl rfl rfl rfl rfl) rfl ?_
   rintro _ lU _ ⟨(km : HS _ _ _ [_, _, _, _, [(A, .cells [(iI z), (iI ja), (iI jb), (iI jc), (iI (e2 - 4)), (.slice none 0 0)] none false)], _] _), _⟩
   refine ab 0 rfl ?_
   exact a2 _ _ ⟨e2 - 4, ([] : List Int), (⟨g4.n⟩ : DigT), none, 0, _, (i2), km, (SR.nil : SR kC (.slice none 0 0) ([] : List Int)), ⟨rfl, rfl, trivial⟩, (by exact immT (by omega)), (by omega), (by (simp <;> omega)), (by rfl), (by omega), (by assumption)⟩
  have f3 := c4
  try simp only [BS] at f3
  refine wR 1 [] 89 90 [] [(89, (.bool (z == 34)))] trivial rfl fun _ => ?_
  refine ap 1 0 (v := (z == 34)) rfl rfl rfl rfl (fun a9 => ?_) (fun a9 => ?_)
  ·
   have f4 := a9
   try simp only [BS] at f4
   refine aU 0 (v := (z == 34)) rfl a9 rfl rfl ?_
   refine aa ?_
   refine wm (.pointer (some ⟨E, 0, none⟩)) rfl rfl rfl ?_
   refine az (am rfl rfl rfl) rfl rfl (cm ex (⟨a0.n⟩ : DigT) (2) (HS.callOwn Z (i := 2) rfl) (by omega) (by omega) hT (by omega)) ?_
   rintro _ lV ⟨ih, g5, kD, i3, d3, rfl, kQ, my⟩
   replace d3 : HS _ _ _ [_, _, [(E, .cells [(iI g5.n)] none false)], _, [(A, .cells [(iI z), (iI ja), (iI jb), (iI jc), (iI 0), (.slice none 0 0)] none false)], _] _ := HS.backOwn Z (i := 2) rfl rfl (fun _ hb => hb) d3
   refine wRo 2 2 [] 94 95 [] [(95, (.pointer (some ⟨A, 4, none⟩)))] trivial rfl fun _ => ?_
   refine aF (aw (q := 4) d3 rfl rfl rfl rfl rfl rfl rfl rfl rfl) rfl ?_
   rintro _ lW _ ⟨(kn : HS _ _ _ [_, _, _, _, [(A, .cells [(iI z), (iI ja), (iI jb), (iI jc), (iI ih), (.slice none 0 0)] none false)], _] _), _⟩
   refine ab 0 rfl ?_
   exact a2 _ _ ⟨ih, ([] : List Int), (⟨g5.n⟩ : DigT), none, 0, _, (i3), kn, (SR.nil : SR kD (.slice none 0 0) ([] : List Int)), ⟨rfl, rfl, trivial⟩, (by exact immT (by omega)), (by omega), (by (simp <;> omega)), (by rfl), (by omega), (by assumption)⟩
  have f4 := a9
  try simp only [BS] at f4
  refine wR 1 [] 89 91 [] [(89, (.bool (z == 35)))] trivial rfl fun _ => ?_
  refine ap 0 1 (v := (z == 35)) rfl rfl rfl rfl (fun c5 => ?_) (fun c5 => ?_)
  ·
   have f5 := c5
   try simp only [BS] at f5
   refine aa ?_
   refine wm (.pointer (some ⟨E, 0, none⟩)) rfl rfl rfl ?_
   refine az (am rfl rfl rfl) rfl rfl (cm ex (⟨a0.n⟩ : DigT) (2) (HS.callOwn Z (i := 2) rfl) (by omega) (by omega) hT (by omega)) ?_
   rintro _ lX ⟨ii, g6, kE, jw, d4, rfl, kR, mz⟩
   replace d4 : HS _ _ _ [_, _, [(E, .cells [(iI g6.n)] none false)], _, [(A, .cells [(iI z), (iI ja), (iI jb), (iI jc), (iI 0), (.slice none 0 0)] none false)], _] _ := HS.backOwn Z (i := 2) rfl rfl (fun _ hb => hb) d4
   refine wRo 2 2 [] 94 95 [] [(95, (.pointer (some ⟨A, 4, none⟩)))] trivial rfl fun _ => ?_
   refine aF (aw (q := 4) d4 rfl rfl rfl rfl rfl rfl rfl rfl rfl) rfl ?_
   rintro _ lY _ ⟨(ko : HS _ _ _ [_, _, _, _, [(A, .cells [(iI z), (iI ja), (iI jb), (iI jc), (iI ii), (.slice none 0 0)] none false)], _] _), _⟩
   refine ab 0 rfl ?_
   exact a2 _ _ ⟨ii, ([] : List Int), (⟨g6.n⟩ : DigT), none, 0, _, (jw), ko, (SR.nil : SR kE (.slice none 0 0) ([] : List Int)), ⟨rfl, rfl, trivial⟩, (by exact immT (by omega)), (by omega), (by (simp <;> omega)), (by rfl), (by omega), (by assumption)⟩
  have f5 := c5
  try simp only [BS] at f5
  refine wR 1 [] 96 97 [] [(96, (.bool (z == 6)))] trivial rfl fun _ => ?_
  refine ap 1 0 (v := (z == 6)) rfl rfl rfl rfl (fun c6 => ?_) (fun c6 => ?_)
  ·
   have f7 := c6
   try simp only [BS] at f7
   refine aa ?_
   refine wm (.pointer (some ⟨E, 0, none⟩)) rfl rfl rfl ?_
   refine az (am rfl rfl rfl) rfl rfl (cm ex (⟨a0.n⟩ : DigT) (2) (HS.callOwn Z (i := 2) rfl) (by omega) (by omega) hT (by omega)) ?_
   rintro _ lZ ⟨av, g7, h2, hj, em, rfl, kS, mA⟩
   replace em : HS _ _ _ [_, _, [(E, .cells [(iI g7.n)] none false)], _, [(A, .cells [(iI z), (iI ja), (iI jb), (iI jc), (iI 0), (.slice none 0 0)] none false)], _] _ := HS.backOwn Z (i := 2) rfl rfl (fun _ hb => hb) em
   refine wRo 2 2 [] 100 101 [] [(101, (.pointer (some ⟨A, 4, none⟩)))] trivial rfl fun _ => ?_
   refine aF (aw (q := 4) em rfl rfl rfl rfl rfl rfl rfl rfl rfl) rfl ?_
   rintro _ l0 _ ⟨(hB : HS _ _ _ [_, _, _, _, [(A, .cells [(iI z), (iI ja), (iI jb), (iI jc), (iI av), (.slice none 0 0)] none false)], _] _), _⟩
   refine ab 2 rfl ?_
   refine wR 2 [(2, .o (iI av))] 102 105 [13] [(13, (iI (2 - av)))] (vA (ql 2 4 (HS.hc hB (i := 4) rfl) rfl rfl) (vA (vi (n := 2 - av) (by omega)) trivial)) rfl fun _ => ?_
   have es := HS.snoc hB
   have es : HS _ _ _ [_, _, _, _, _, _, []] _ := es
   refine aE (fun (mm : Nat) f H' => ∃ (kk : Int) (al : List Int) (dl : DigT) (V : Fp) (N : Option Addr) (U : Nat) (F' : Fz), Fz.le h2 F' ∧ HS (Base.of H []) F' H' [b7, b8, [(E, .cells [(iI dl.n)] none false)], p8, [(A, .cells [(iI z), (iI ja), (iI jb), (iI jc), (iI av), (.slice N al.length U)] none false)], b9, V] R ∧ OS F' (.slice N al.length U) al V ∧ aH f [(3, (.pointer (some ⟨b1, 0, none⟩))), (4, (.pointer (some ⟨b3, 0, none⟩))), (5, (.pointer (some ⟨E, 0, none⟩))), (9, (.pointer (some ⟨A, 0, none⟩))), (13, (iI kk))] ∧ mm = kk.toNat ∧ ((al.length : Int) + kk = 2 - av ∧ 0 ≤ kk) ∧ (al.all (cb c.regs) = true) ∧ (in64 dl.n) ∧ (kk ≤ 2)) _ ⟨2 - av, ([] : List Int), (⟨g7.n⟩ : DigT), [], none, 0, _, fR, es, (OS.nil : OS h2 (.slice none 0 0) ([] : List Int) []), ⟨rfl, rfl, rfl, rfl, rfl, trivial⟩, rfl, (by simp; omega), (by rfl), (by omega), (by omega)⟩ ?_
   rintro lb l9 l1 ⟨kk, al, dl, V, N, U, lv, dk, ax, ad, hu, rfl, q1, q2, q3, q4⟩ kp
   refine au _ hu (fun _ => ?_)
   clear hu
   replace hT := (hT.mono hj).mono dk
   refine aq 2 rfl ?_
   refine wR 1 [] 106 107 [] [(107, (.bool (decide ((0 : Int) < kk))))] trivial rfl fun _ => ?_
   refine ap 3 3 (v := (decide ((0 : Int) < kk))) rfl rfl rfl rfl (fun c7 => ?_) (fun c7 => ?_)
   ·
    have f9 := c7
    try simp only [BS] at f9
    refine aQ rfl ?_
    refine wfv (v := (.pointer (some ⟨A, 5, none⟩))) (cg rfl rfl) ?_
    refine aB (v := (.slice N al.length U)) (id := .l A) (bh (i := 5) rfl rfl (HS.hc ax.log0 (i := 4) rfl) rfl rfl) rfl rfl (bg rfl) (kb rfl) ?_
    refine fm (.pointer (some ⟨E, 0, none⟩)) rfl rfl rfl ?_
    refine wfv (v := (.pointer (some ⟨b1, 1, none⟩))) (cg rfl rfl) ?_
    refine aB (v := (iI c.regs)) (id := .l b1) (bh (i := 1) rfl rfl (HS.hc ax.log0 (i := 0) rfl) rfl rfl) rfl rfl (bg rfl) (kb rfl) ?_
    refine aX (W := [E]) (am rfl rfl rfl) rfl rfl rfl (cm ex (⟨dl.n⟩ : DigT) c.regs (HS.callOwn ax.log0 (i := 2) rfl) (by omega) (by omega) hT (by omega)) (⟨.inl rfl, ⟨.inl rfl, ⟨.inl rfl, ⟨.inr (HS.nin ax (i := 4) (j := 2) rfl rfl (by decide) (List.Mem.head _)), ⟨.inr trivial, trivial⟩⟩⟩⟩⟩) ?_
    rintro _ kF ⟨a5, g8, lw, hk, ag, rfl, kT, mB⟩
    refine ⟨HS.didW ag, fun kr hV => ?_⟩
    replace ag := HS.backOwn ax.log0 (i := 2) rfl rfl (fun _ hb => hb) ag
    replace ag := HS.lg ag ax hV
    generalize ({ kF with log := kr } : Heap) = kY at ag ⊢
    have ag : HS _ _ _ [_, _, [(E, .cells [(iI g8.n)] none false)], _, [(A, .cells [(iI z), (iI ja), (iI jb), (iI jc), (iI av), (.slice N al.length U)] none false)], _, V] _ := ag
    replace ad := ad.mono hk
    refine cL (id := .a) (aP (α := Int) (ps := [(0, (iI a5))]) (cells := [(iI a5)]) ([a5] : List Int) ag.log0 rfl rfl rfl (by kernel_rfl) ⟨[(iI a5)], [], rfl, ⟨rfl, by omega⟩, rfl⟩ rfl) rfl rfl (fun _ _ _ _ => iU rfl rfl rfl) (kb rfl) ?_
    rintro _ kG kW ⟨l3, mD, rfl, j1, an, _⟩ kt hW
    replace an := HS.lg an ag hW
    generalize ({ kG with log := kt } : Heap) = kZ at an ⊢
    have an : HS _ _ _ [_, _, _, _, _, _, _, kW] _ := an
    refine cL (id := .x (V.map Prod.fst)) (aW (α := Int) (q := 6) ad an.log0 rfl rfl rfl (OS.sv j1 an.log0 (i := 7) rfl) rfl rfl rfl rfl rfl rfl rfl (by (simp only [List.length_append, List.length_cons, List.length_nil]; omega))) rfl rfl (by rintro _ _ hM ⟨e4, hI, rfl, hv, _, hwr⟩; exact dh rfl rfl (Wr.did hwr)) (kb rfl) ?_
    rintro _ kH hM ⟨e4, hI, rfl, hv, ay, _⟩ ku hX
    replace ay := HS.lg ay an hX
    generalize ({ kH with log := ku } : Heap) = k0 at ay ⊢
    have ay : HS _ _ _ [_, _, _, _, _, _, hM, _] _ := ay
    refine wfv (v := (.pointer (some ⟨A, 5, none⟩))) (cg rfl rfl) ?_
    refine jz (id := .x [A]) (aw (q := 4) ay.log0 rfl rfl rfl rfl rfl rfl rfl rfl rfl) rfl (by rintro _ _ _ ⟨_, hwr⟩; exact dh rfl rfl (Wr.did hwr)) (kb rfl) ?_
    rintro _ kI _ ⟨a1, _⟩ kv hY
    replace a1 := HS.lg a1 ay hY
    generalize ({ kI with log := kv } : Heap) = k3 at a1 ⊢
    have a1 : HS _ _ _ [_, _, _, _, [(A, .cells [(iI z), (iI ja), (iI jb), (iI jc), (iI av), (.slice e4 (al ++ ([a5] : List Int)).length hI)] none false)], _, _, _] _ := a1
    refine bU ?_
    refine aq 2 rfl ?_
    refine wR 1 [] 108 109 [13] [(13, (iI (kk - 1)))] (vA (vi (n := kk - 1) (by omega)) trivial) rfl fun _ => ?_
    refine kp _ _ _ ?_ ⟨kk - 1, al ++ ([a5] : List Int), (⟨g8.n⟩ : DigT), hM, e4, hI, _, (fT (dk) hk), (HS.sub a1 (List.sublist_append_left _ _)), hv, ⟨rfl, rfl, rfl, rfl, rfl, trivial⟩, rfl, (by simp; omega), (by exact all_app q2 (bK.2 (by omega))), (by omega), (by omega)⟩
    omega
   have f9 := c7
   try simp only [BS] at f9
   obtain ⟨lz, j0, et, j2, k9⟩ := OS.frz ad ax (i := 6) rfl
   have et : HS _ _ _ [_, _, [(E, .cells [(iI dl.n)] none false)], _, [(A, .cells [(iI z), (iI ja), (iI jb), (iI jc), (iI av), (.slice N al.length U)] none false)], _, _] _ := et
   exact a2 _ _ ⟨av, al, (⟨dl.n⟩ : DigT), N, U, _, (fT (fT (hj) dk) j0), (HS.sub et (List.sublist_append_left _ _)), j2, ⟨rfl, rfl, trivial⟩, (by exact immT (by omega)), (by omega), (by omega), (by assumption), (by omega), (by omega)⟩
  have f7 := c6
  try simp only [BS] at f7
  exact a2 _ _ ⟨0, ([] : List Int), (⟨a0.n⟩ : DigT), none, 0, _, fR, Z, (SR.nil : SR h1 (.slice none 0 0) ([] : List Int)), ⟨rfl, rfl, trivial⟩, (by exact immT (by omega)), (by omega), (by (simp <;> omega)), (by rfl), (by omega), (by assumption)⟩
 skip
 rintro l8 lP ⟨jq, asl, e1, J, T, lr, iz, hA, b4, ht, hjq, rjq, h4, hw, hck, lj⟩
 refine au _ ht (fun _ => ?_)
 clear ht
 refine aq 3 rfl ?_
 refine aa ?_
 let hS : Value := (.agg ⟨[(iI z), (iI ja), (iI jb), (iI jc), (iI jq), (.slice J asl.length T)]⟩)
 refine wRo 1 0 [(0, .o hS)] 119 119 [] [(119, hS)] (vA (qn 52 0 6 (HS.hc hA (i := 4) rfl) rfl rfl rfl rfl) trivial) rfl fun _ => ?_
 refine aF (aw (q := 1) hA rfl rfl rfl rfl rfl rfl rfl rfl rfl) rfl ?_
 rintro _ l2 _ ⟨(hC : HS _ _ _ [_, [(b3, .cells [(iI z), (iI ja), (iI jb), (iI jc), (iI jq), (.slice J asl.length T)] none false)], [(E, .cells [(iI e1.n)] none false)], _, [(A, .cells [(iI z), (iI ja), (iI jb), (iI jc), (iI jq), (.slice J asl.length T)] none false)], _] _), _⟩
 refine ab 1 rfl ?_
 refine ah ⟨.inr rfl, _, (rC rfl (ldVN rfl rfl (HS.hc hC (i := 1) rfl) rfl) rN), (⟨(⟨z, ja, jb, jc, jq⟩ : InsT), asl⟩ : VInT), J, T, _, (fT (fT (fT (fT (fT (fT (c9) dd) g9) ha) he) hg) iz), (HS.forget hC), rfl, (by (dsimp only; omega)), (by omega), (by omega), (by omega), (by omega), b4, (by exact vin_mk ho.2 h4.1 h4.2 hw hja hjb hjc hjq), (by exact decide_eq_true hck)⟩
end Go.Proofs.YtknafdcgpaejlaaDoor.m4
