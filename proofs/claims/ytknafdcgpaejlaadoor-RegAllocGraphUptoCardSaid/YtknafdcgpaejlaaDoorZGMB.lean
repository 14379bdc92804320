/-
 Live registers: the program, by symbolic runs. No condition but that the function is valid.
-/
import Derived.Test.YtknafdcgpaejlaaDoorZGML
noncomputable section
namespace Go.Proofs.YtknafdcgpaejlaaDoor.mb
open Go.R
set_option maxRecDepth 10000
set_option linter.unusedVariables false
set_option linter.unusedSimpArgs false
variable (ex : FuncId) {F : Fz} {H : Heap} {R : List Fp}
open m1 m2 m3 m4 m5 m6 ma ml
theorem lst_step1 {s : List U64} {o : List Int} {k b : Nat} (ho : o = jC s (64 * k + b)) (h : aF s (64 * k + b) = true) : o ++ ([64 * (k : Int) + (b : Int)] : List Int) = jC s (64 * k + (b + 1)) := by
 rw [show 64 * k + (b + 1) = (64 * k + b) + 1 by omega, iS, if_pos h, ← ho]; simp
theorem lst_step0 {s : List U64} {o : List Int} {k b : Nat} (ho : o = jC s (64 * k + b)) (h : ¬ aF s (64 * k + b) = true) : o = jC s (64 * k + (b + 1)) := by
 rw [show 64 * k + (b + 1) = (64 * k + b) + 1 by omega, iS, if_neg h, ← ho]; simp
theorem end_ok {s s' : List U64} {b : BlkT} (h : ((b.fin = 2 ∨ b.fin = 3) ∧ 0 ≤ b.reg ∧ ∀ i, aF s' i = (aF s i || decide (i = b.reg.toNat))) ∨ (¬ (b.fin = 2 ∨ b.fin = 3) ∧ s' = s)) (i : Nat) : aF s' i = (aF s i || decide ((i : Int) ∈ df b)) := by
 unfold df
 rcases h with ⟨z, E, A⟩ | ⟨z, rfl⟩
 ·
  rw [if_pos z, A]; congr 1; rw [decide_eq_decide, a0e]; omega
 rw [if_neg z]; simp
theorem rem_step {s w w' : List U64} {l : List Int} {k : Nat} (hk : k < l.length) (h : ∀ i, aF w i = (aF s i && !decide ((i : Int) ∈ l.take k))) (h0 : 0 ≤ l.getD k 0) (E : ∀ i, aF w' i = (aF w i && !decide (i = (l.getD k 0).toNat))) (i : Nat) : aF w' i = (aF s i && !decide ((i : Int) ∈ l.take (k + 1))) := by
 rw [E, h, bo hk (d := 0), Bool.and_assoc]
 congr 1
 rw [a0p]
 simp only [a0c, a0L, decide_eq_false_iff_not, a09, a0e]
 constructor
 ·
  rintro ⟨A, J⟩ (z | z)
  ·
   exact A z
  omega
 intro A; exact ⟨fun z => A (.inl z), fun z => A (.inr (by omega))⟩
theorem add_step {s w w' : List U64} {l : List Int} {k : Nat} (hk : k < l.length) (h : ∀ i, aF w i = (aF s i || decide ((i : Int) ∈ l.take k))) (h0 : 0 ≤ l.getD k 0) (A : ∀ i, aF w' i = (aF w i || decide (i = (l.getD k 0).toNat))) (i : Nat) : aF w' i = (aF s i || decide ((i : Int) ∈ l.take (k + 1))) := by
 rw [A, h, bo hk (d := 0), Bool.or_assoc]
 congr 1
 rw [a0p]
 simp only [a0O, decide_eq_true_eq, a09, a0e]
 constructor
 ·
  rintro (z | z)
  ·
   exact .inl z
  exact .inr (by omega)
 rintro (z | z)
 ·
  exact .inl z
 exact .inr (by omega)
theorem eQ {l : List Int} {m : Int} (h : ∀ x ∈ l, 0 ≤ x ∧ x < m) {k : Nat} (hk : k < l.length) : 0 ≤ l.getD k 0 ∧ l.getD k 0 < m := by
 rw [a01, a03 hk]; exact h _ (a1l hk)
theorem cG {v : VInT} : (ab v).length ≤ 1 := by unfold ab; split <;> simp
theorem ej {v : VInT} : (aw v).length ≤ 3 + v.args.length := by
 unfold aw
 split
 ·
  refine a0b er ?_
  unfold jA
  simp only [a06, a0g]
  have z := dX (a := v.i.a) (p := (aM v.i.op).ra = true)
  have A := dX (a := v.i.b) (p := (aM v.i.op).rb = true)
  have E := dX (a := v.i.c) (p := v.i.op = 11 ∨ v.i.op = 12)
  have J : (if v.i.op = 6 then v.args else []).length ≤ v.args.length := by split <;> first | exact a08 _ | exact a0B _
  omega
 exact a0B _
theorem tr_done {s w v' : List U64} {iv : VInT} (z : ∀ i, aF w i = (aF s i && !decide ((i : Int) ∈ ab iv))) (A : ∀ i, aF v' i = (aF w i || decide ((i : Int) ∈ aw iv))) (i : Nat) : aF v' i = ((aF s i && !decide ((i : Int) ∈ ab iv)) || decide ((i : Int) ∈ aw iv)) := by rw [A, z]
theorem empty_c (n : Int) (hs : HS (.of H []) F H [] R) (hn : in64 n) (hT : TB 37 tabC F) (hn : 0 ≤ n ∧ n ≤ 1000000) : kKt ex 113 [(iI n)] H fun v H' => ∃ (ar : Option Addr) (kr : Nat) (r : List U64) (p : Fp) (F' : Fz), Fz.le F F' ∧ HS (.of H []) F' H' [p] R ∧ v = .slice ar r.length kr ∧ OS F' (.slice ar r.length kr) r p ∧ r = List.replicate (Int.tdiv (n + 63) 64).toNat (⟨0⟩ : U64) := by
 have hq : Int.tdiv (n + 63) 64 = (n + 63) / 64 := a15 (by omega)
 refine aI Tryd.func113 rfl rfl (ah 1 rfl (wT 2 [] 2 2 [] [(2, (.slice none 0 0))] rfl fun _ => aa ?_))
 have T : in64 (n + 63) → in64 (Int.tdiv (n + 63) 64) := fun h => vq h (by decide)
 refine wRo 3 0 [] 3 5 [] [(5, (iI (Int.tdiv (n + 63) 64)))] (vA (vi (n := n + 63) (by omega)) (vA (vA (show (64 : Int) ≠ 0 from by decide) (vq (a := n + 63) (b := 64) (by omega) (by decide))) trivial)) rfl fun _ => aH (dg (⟨0⟩ : U64) hs rfl rfl rfl rfl rfl rfl rfl rfl rfl ⟨rfl, by decide⟩ (by omega) (by omega)) rfl rfl ?_
 rintro _ U N ⟨z, J, rfl, A, (E : HS _ _ _ [N] _), _⟩
 refine wa (.slice z (List.replicate (Int.tdiv (n + 63) 64).toNat (⟨0⟩ : U64)).length J) rfl rfl rfl (ae 1 rfl (ak ⟨.inr rfl, _, rfl, z, J, List.replicate (Int.tdiv (n + 63) 64).toNat (⟨0⟩ : U64), N, _, fR, (HS.only E (i := 0) rfl), rfl, A, (by rfl)⟩))
theorem add_c {a_z : Option Addr} {n_z k_z : Nat} {p_z : Fp} (z : List U64) (n : Int) (hs : HS (.of H (p_z.map Prod.fst)) F H [p_z] R) (hz : OS F (.slice a_z n_z k_z) z p_z) (hn : in64 n) (hT : TB 37 tabC F) (hn : 0 ≤ n ∧ n < 64 * (z.length : Int)) (hsl : z.length ≤ 100000) : kKt ex 116 [(.slice a_z n_z k_z), (iI n)] H fun v H' => ∃ (z' : List U64) (pm : Fp) (F' : Fz), Fz.le F F' ∧ HS (.of H (p_z.map Prod.fst)) F' H' [pm] R ∧ v = .tuple #[] ∧ OS F' (.slice a_z n_z k_z) z' pm ∧ (z'.length = z.length) ∧ (∀ i, aF z' i = (aF z i || decide (i = n.toNat))) := by
 have lnarg := OS.len' hz
 have hq := n64 hn
 refine aI Tryd.func116 rfl rfl (aa ?_)
 have V : in64 n → in64 (Int.tdiv n 64) := fun h => vq h (by decide)
 obtain ⟨U, E⟩ := Sv.view (OS.sv hz hs (i := 0) rfl)
 have Z := fU (E (Int.tdiv n 64).toNat)
 refine wRo 11 0 [(4, .o (.int .u64 (z.getD (Int.tdiv n 64).toNat default).n))] 4 14 [] [(13, (.int .u64 (aR .or .u64 (z.getD (Int.tdiv n 64).toNat default).n (IntKind.u64.wrap (1 * 2 ^ (Nat.min (Int.tmod n 64).toNat 64)))))), (14, (.pointer (some ⟨sB (.slice a_z n_z k_z), sO (.slice a_z n_z k_z) + (Int.tdiv n 64).toNat * Rp.sz U64, none⟩)))] (vA (vA (show (64 : Int) ≠ 0 from by decide) (vq (a := n) (b := 64) (by omega) (by decide))) (vA (Sv.ix (j := Int.tdiv n 64) (OS.sv hz hs (i := 0) rfl) (by omega) (by omega)) (vA (ql 87 0 (vU (E (Int.tdiv n 64).toNat) (by omega)) rfl rfl) (vA (show (64 : Int) ≠ 0 from by decide) (vA (vu (n := Int.tmod n 64) (by omega)) (vA (show (0 : Int) ≤ Int.tmod n 64 from by omega) (vA (Sv.ix (j := Int.tdiv n 64) (OS.sv hz hs (i := 0) rfl) (by omega) (by omega)) trivial))))))) rfl fun _ => aL (bY (α := U64) (j := (Int.tdiv n 64).toNat) (off := 0) (q := 0) ⟨aR .or .u64 (z.getD (Int.tdiv n 64).toNat default).n (IntKind.u64.wrap (1 * 2 ^ (Nat.min (Int.tmod n 64).toNat 64)))⟩ hz hs rfl rfl rfl rfl rfl rfl rfl rfl (aK (x := default) (by omega)) rfl (by rintro cs ⟨rfl, _⟩; exact ⟨a04 rfl, rfl, by (dsimp only; exact eE _ _ _)⟩)) rfl ?_
 rintro _ Y N ⟨A, (J : HS _ _ _ [N] _), _⟩
 have T := OS.len' A
 refine ae 0 rfl (bU ⟨.inl rfl, _, rfl, z.set (Int.tdiv n 64).toNat ⟨aR .or .u64 (z.getD (Int.tdiv n 64).toNat default).n (IntKind.u64.wrap (1 * 2 ^ (Nat.min (Int.tmod n 64).toNat 64)))⟩, N, _, fR, (HS.first J), rfl, A, (a0i), (fun i => add_ok hn (by assumption) i)⟩)
theorem rem_c {a_z : Option Addr} {n_z k_z : Nat} {p_z : Fp} (z : List U64) (n : Int) (hs : HS (.of H (p_z.map Prod.fst)) F H [p_z] R) (hz : OS F (.slice a_z n_z k_z) z p_z) (hn : in64 n) (hT : TB 37 tabC F) (hn : 0 ≤ n ∧ n < 64 * (z.length : Int)) (hsl : z.length ≤ 100000) : kKt ex 115 [(.slice a_z n_z k_z), (iI n)] H fun v H' => ∃ (z' : List U64) (pm : Fp) (F' : Fz), Fz.le F F' ∧ HS (.of H (p_z.map Prod.fst)) F' H' [pm] R ∧ v = .tuple #[] ∧ OS F' (.slice a_z n_z k_z) z' pm ∧ (z'.length = z.length) ∧ (∀ i, aF z' i = (aF z i && !decide (i = n.toNat))) := by
 have lnarg := OS.len' hz
 have hq := n64 hn
 refine aI Tryd.func115 rfl rfl (aa ?_)
 have V : in64 n → in64 (Int.tdiv n 64) := fun h => vq h (by decide)
 obtain ⟨U, E⟩ := Sv.view (OS.sv hz hs (i := 0) rfl)
 have Z := fU (E (Int.tdiv n 64).toNat)
 refine wRo 11 0 [(4, .o (.int .u64 (z.getD (Int.tdiv n 64).toNat default).n))] 4 14 [] [(13, (.int .u64 (aR .andNot .u64 (z.getD (Int.tdiv n 64).toNat default).n (IntKind.u64.wrap (1 * 2 ^ (Nat.min (Int.tmod n 64).toNat 64)))))), (14, (.pointer (some ⟨sB (.slice a_z n_z k_z), sO (.slice a_z n_z k_z) + (Int.tdiv n 64).toNat * Rp.sz U64, none⟩)))] (vA (vA (show (64 : Int) ≠ 0 from by decide) (vq (a := n) (b := 64) (by omega) (by decide))) (vA (Sv.ix (j := Int.tdiv n 64) (OS.sv hz hs (i := 0) rfl) (by omega) (by omega)) (vA (ql 87 0 (vU (E (Int.tdiv n 64).toNat) (by omega)) rfl rfl) (vA (show (64 : Int) ≠ 0 from by decide) (vA (vu (n := Int.tmod n 64) (by omega)) (vA (show (0 : Int) ≤ Int.tmod n 64 from by omega) (vA (Sv.ix (j := Int.tdiv n 64) (OS.sv hz hs (i := 0) rfl) (by omega) (by omega)) trivial))))))) rfl fun _ => aL (bY (α := U64) (j := (Int.tdiv n 64).toNat) (off := 0) (q := 0) ⟨aR .andNot .u64 (z.getD (Int.tdiv n 64).toNat default).n (IntKind.u64.wrap (1 * 2 ^ (Nat.min (Int.tmod n 64).toNat 64)))⟩ hz hs rfl rfl rfl rfl rfl rfl rfl rfl (aK (x := default) (by omega)) rfl (by rintro cs ⟨rfl, _⟩; exact ⟨a04 rfl, rfl, by (dsimp only; exact eE _ _ _)⟩)) rfl ?_
 rintro _ Y N ⟨A, (J : HS _ _ _ [N] _), _⟩
 have T := OS.len' A
 refine ae 0 rfl (bU ⟨.inl rfl, _, rfl, z.set (Int.tdiv n 64).toNat ⟨aR .andNot .u64 (z.getD (Int.tdiv n 64).toNat default).n (IntKind.u64.wrap (1 * 2 ^ (Nat.min (Int.tmod n 64).toNat 64)))⟩, N, _, fR, (HS.first J), rfl, A, (a0i), (fun i => rem_ok hn (by assumption) i)⟩)
theorem gn {a_z : Option Addr} {n_z k_z : Nat} {p_z : Fp} (z : List U64) {a_t : Option Addr} {n_t k_t : Nat} (t : List U64) (hs : HS (.of H (p_z.map Prod.fst)) F H [p_z] R) (hz : OS F (.slice a_z n_z k_z) z p_z) (ht : SR F (.slice a_t n_t k_t) t) (hT : TB 37 tabC F) (hl : t.length = z.length) (hsl : z.length ≤ 100000) : kKt ex 117 [(.slice a_z n_z k_z), (.slice a_t n_t k_t)] H fun v H' => ∃ (r : Bool) (z' : List U64) (pm : Fp) (F' : Fz), Fz.le F F' ∧ HS (.of H (p_z.map Prod.fst)) F' H' [pm] R ∧ v = .bool r ∧ OS F' (.slice a_z n_z k_z) z' pm ∧ (z'.length = z.length) ∧ (∀ i, aF z' i = (aF z i || aF t i)) ∧ (r = false → z' = z) ∧ (r = true → ∃ i, aF t i = true ∧ aF z i = false) := by
 have ln_t := SR.len' ht
 have lnarg := OS.len' hz
 refine aI Tryd.func117 rfl rfl (ah 1 rfl (wT 2 [] 4 4 [] [(4, (.bool false))] rfl fun _ => wT 3 [] 1 0 [5] [(5, (.bool false))] rfl fun _ => wT 2 [] 7 9 [] [(8, (iI (n_z : Int))), (9, (iI 0))] rfl fun _ => aj (fun (mm : Nat) f H' => ∃ (w : List U64) (k : Nat) (m : Bool) (J : Fp) (F' : Fz), Fz.le F F' ∧ HS (Base.of H (p_z.map Prod.fst)) F' H' [J] R ∧ OS F' (.slice a_z n_z k_z) w J ∧ aD f [(0, (.slice a_z n_z k_z)), (1, (.slice a_t n_t k_t)), (5, (.bool m)), (8, (iI (n_z : Int))), (9, (iI (k : Int)))] ∧ mm = z.length - k ∧ (uniB z t k w) ∧ (k ≤ z.length) ∧ (m = false → w = z) ∧ (m = true → ∃ i, aF t i = true ∧ aF z i = false)) _ ⟨z, 0, false, p_z, _, fR, hs, hz, ⟨rfl, rfl, rfl, rfl, rfl, trivial⟩, rfl, (uniB_zero), (by omega), (fun _ => rfl), (by intro h; cases h)⟩ ?_))
 rintro b6 f4 H4 ⟨w, k, m, J, F4, V, E, A, an, rfl, hu, hk, a8, a9⟩ av
 refine au _ an (fun _ => ?_)
 clear an
 replace ht := ht.mono V
 have a4 := OS.len' A
 have hwl := hu.1
 refine ah 1 rfl (wT 2 [] 10 10 [] [(10, (.bool (decide ((k : Int) < (n_z : Int)))))] rfl fun _ => am 4 5 (v := (decide ((k : Int) < (n_z : Int)))) rfl rfl rfl rfl (fun Z => ?_) (fun Z => ?_))
 ·
  have c6 := Z
  try simp only [BS] at c6
  refine wT 2 [] 11 11 [6] [(6, (iI (k : Int)))] rfl fun _ => ?_
  obtain ⟨b3, ar⟩ := Sv.view (SR.sv ht E)
  have g9 := fU (ar k)
  obtain ⟨b0, ad⟩ := Sv.view (OS.sv A E (i := 0) rfl)
  have b4 := fU (ad k)
  refine wRD 1 [(3, .o (.int .u64 (t.getD k default).n)), (7, .o (.int .u64 (w.getD k default).n))] 12 21 [] [(21, (.bool (aR .andNot .u64 (t.getD k default).n (w.getD k default).n != 0)))] (vA (Sv.ix (j := (k : Int)) (SR.sv ht E) (by omega) (by omega)) (vA (ql 87 0 (hc0 (vU (ar k) (by omega))) rfl rfl) (vA (Sv.ix (j := (k : Int)) (OS.sv A E (i := 0) rfl) (by omega) (by omega)) (vA (ql 87 0 (hc0 (vU (ad k) (by omega))) rfl rfl) trivial)))) rfl rfl fun _ => am 1 2 (v := (aR .andNot .u64 (t.getD k default).n (w.getD k default).n != 0)) rfl rfl rfl rfl (fun T => ?_) (fun T => ?_)
  ·
   have Y := T
   try simp only [BS] at Y
   refine wT 1 [] 1 0 [5] [(5, (.bool true))] rfl fun _ => aY rfl (fm (.slice a_z n_z k_z) rfl rfl rfl (fm (iI (k : Int)) rfl rfl rfl (wfv (v := (.pointer (some ⟨sB (.slice a_z n_z k_z), sO (.slice a_z n_z k_z) + k * Rp.sz U64, none⟩))) (bd (α := U64) (j := (k : Int)) rfl rfl rfl rfl (OS.sv A E.log0 (i := 0) rfl) (by omega) (by omega)) ?_)))
   obtain ⟨b1, a1, ay⟩ := Sv.at (OS.sv A E.log0 (i := 0) rfl) (aK (x := default) (show k < w.length from by omega))
   obtain ⟨rfl, bb, a6⟩ := a1
   refine aB (v := (.int .u64 (w.getD k default).n)) (id := .l (sB (.slice a_z n_z k_z))) (bt (i := 0) rfl rfl ay rfl rfl) rfl rfl (bG rfl) (kb rfl) (fm (.slice a_t n_t k_t) rfl rfl rfl (fm (iI (k : Int)) rfl rfl rfl (wfv (v := (.pointer (some ⟨sB (.slice a_t n_t k_t), sO (.slice a_t n_t k_t) + k * Rp.sz U64, none⟩))) (bd (α := U64) (j := (k : Int)) rfl rfl rfl rfl (SR.sv ht E.log0) (by omega) (by omega)) ?_)))
   obtain ⟨b2, a2, a0⟩ := Sv.at (SR.sv ht E.log0) (aK (x := default) (show k < t.length from by omega))
   obtain ⟨rfl, bk, a7⟩ := a2
   refine aB (v := (.int .u64 (t.getD k default).n)) (id := .l (sB (.slice a_t n_t k_t))) (bt (i := 0) rfl rfl a0 rfl rfl) rfl rfl (bG rfl) (kb rfl) (wfv (v := (.int .u64 (aR .or .u64 (w.getD k default).n (t.getD k default).n))) (gR rfl rfl rfl) (wfv (v := (.pointer (some ⟨sB (.slice a_z n_z k_z), sO (.slice a_z n_z k_z) + k * Rp.sz U64, none⟩))) (bd (α := U64) (j := (k : Int)) rfl rfl rfl rfl (OS.sv A E.log0 (i := 0) rfl) (by omega) (by omega)) (iu (id := .x (J.map Prod.fst)) (bY (α := U64) (j := k) (off := 0) (q := 0) ⟨aR .or .u64 (w.getD k default).n (t.getD k default).n⟩ A E.log0 rfl rfl rfl rfl rfl rfl rfl rfl (aK (x := default) (by omega)) rfl (by rintro cs ⟨rfl, _⟩; exact ⟨a04 rfl, rfl, by (dsimp only; exact eE _ _ _)⟩)) rfl (by rintro _ _ ag ⟨U, _, hwr⟩; exact cz rfl rfl (Wr.did hwr)) (kb rfl) ?_)))
   rintro _ a5 ag ⟨U, N, _⟩ a3 al
   replace N := HS.lg N E al
   generalize ({ a5 with log := a3 } : Heap) = bz at N ⊢
   have N : HS _ _ _ [ag] _ := N
   have bl := OS.len' U
   refine cu (ah 2 rfl (wU 1 [] 9 9 [32] [(9, (iI ((k : Int) + 1)))] (vi (n := (k : Int) + 1) (by omega)) rfl fun _ => av _ _ _ ?_ ⟨w.set k ⟨aR .or .u64 (w.getD k default).n (t.getD k default).n⟩, k + 1, true, ag, _, (V), N, U, ⟨rfl, rfl, rfl, rfl, rfl, trivial⟩, rfl, (uniB_or hu (by omega) (by assumption) (by assumption)), (by omega), (by (intro h; cases h; done)), (by (intro _; exact uniB_new hu (by assumption) (by assumption) (by assumption)))⟩))
   omega
  have Y := T
  try simp only [BS] at Y
  refine wU 1 [] 9 9 [32] [(9, (iI ((k : Int) + 1)))] (vi (n := (k : Int) + 1) (by omega)) rfl fun _ => av _ _ _ ?_ ⟨w, k + 1, m, J, _, (V), E, A, ⟨rfl, rfl, rfl, rfl, rfl, trivial⟩, rfl, (uniB_same hu (by assumption) (by assumption) (by assumption)), (by omega), (by assumption), (by assumption)⟩
  omega
 have c6 := Z
 try simp only [BS] at c6
 refine wT 1 [] 4 4 [33] [(4, (.bool m))] rfl fun _ => ak ⟨.inr rfl, _, rfl, m, w, J, _, (V), (HS.first E), rfl, A, (hu.1), (uniB_all hu (by omega) hl), (a8), (a9)⟩
theorem list_c {a_z : Option Addr} {n_z k_z : Nat} (z : List U64) (hs : HS (.of H []) F H [] R) (hz : SR F (.slice a_z n_z k_z) z) (hT : TB 37 tabC F) (hsl : z.length ≤ 100000) : kKt ex 112 [(.slice a_z n_z k_z)] H fun v H' => ∃ (ar : Option Addr) (kr : Nat) (r : List Int) (p : Fp) (F' : Fz), Fz.le F F' ∧ HS (.of H []) F' H' [p] R ∧ v = .slice ar r.length kr ∧ OS F' (.slice ar r.length kr) r p ∧ r = gj z := by
 have ln_z := SR.len' hz
 refine aI Tryd.func112 rfl rfl (ah 1 rfl (wT 2 [] 2 2 [] [(2, (.slice none 0 0))] rfl fun _ => wT 3 [] 1 0 [3] [(3, (.slice none 0 0))] rfl fun _ => wT 2 [] 6 8 [] [(7, (iI (n_z : Int))), (8, (iI 0))] rfl fun _ => ?_))
 have a4 := HS.snoc hs
 have a4 : HS _ _ _ [[]] _ := a4
 refine aj (fun (mm : Nat) f H' => ∃ (o : List Int) (k : Nat) (N : Option Addr) (T : Nat) (V : Fp) (F' : Fz), Fz.le F F' ∧ HS (Base.of H []) F' H' [V] R ∧ OS F' (.slice N o.length T) o V ∧ aD f [(0, (.slice a_z n_z k_z)), (3, (.slice N o.length T)), (7, (iI (n_z : Int))), (8, (iI (k : Int)))] ∧ mm = z.length - k ∧ (o = jC z (64 * k)) ∧ (k ≤ z.length)) _ ⟨([] : List Int), 0, none, 0, [], _, fR, a4, (OS.nil : OS _ (.slice none 0 0) ([] : List Int) []), ⟨rfl, rfl, rfl, rfl, trivial⟩, rfl, (by rfl), (by omega)⟩ ?_
 rintro c9 f4 H4 ⟨o, k, N, T, V, F4, a1, bb, ax, a9, rfl, ho, hk⟩ b3
 refine au _ a9 (fun _ => ?_)
 clear a9
 replace hz := hz.mono a1
 refine ah 1 rfl (wT 2 [] 9 9 [] [(9, (.bool (decide ((k : Int) < (n_z : Int)))))] rfl fun _ => am 4 5 (v := (decide ((k : Int) < (n_z : Int)))) rfl rfl rfl rfl (fun a0 => ?_) (fun a0 => ?_))
 ·
  have c7 := a0
  try simp only [BS] at c7
  refine wT 2 [] 10 10 [4] [(4, (iI (k : Int)))] rfl fun _ => wT 2 [] 1 0 [5] [(5, (iI 0))] rfl fun _ => aj (fun (mm : Nat) f H' => ∃ (Z : List Int) (b : Nat) (A : Option Addr) (E : Nat) (J : Fp) (F' : Fz), Fz.le F4 F' ∧ HS (Base.of H []) F' H' [J] R ∧ OS F' (.slice A Z.length E) Z J ∧ aD f [(0, (.slice a_z n_z k_z)), (3, (.slice A Z.length E)), (4, (iI (k : Int))), (5, (iI (b : Int))), (7, (iI (n_z : Int))), (8, (iI (k : Int)))] ∧ mm = 64 - b ∧ (Z = jC z (64 * k + b)) ∧ (b ≤ 64)) _ ⟨o, 0, N, T, V, _, fR, bb, ax, ⟨rfl, rfl, rfl, rfl, rfl, rfl, trivial⟩, rfl, (ho), (by omega)⟩ ?_
  rintro ch c4 cl ⟨Z, b, A, E, J, ci, ad, U, Y, a2, rfl, av, hb⟩ a7
  refine au _ a2 (fun _ => ?_)
  clear a2
  replace hz := hz.mono ad
  have hol : Z.length ≤ 64 * k + b := by rw [av]; exact lstK_len
  refine ah 2 rfl ?_
  obtain ⟨b7, a5⟩ := Sv.view (SR.sv hz U)
  have c5 := fU (a5 k)
  refine wR 1 [(3, .o (.int .u64 (z.getD k default).n))] 11 18 [] [(18, (.bool (Int.fdiv (z.getD k default).n (2 ^ (Nat.min b 64)) != 0)))] (vA (Sv.ix (j := (k : Int)) (SR.sv hz U) (by omega) (by omega)) (vA (ql 87 0 (vU (a5 k) (by omega)) rfl rfl) (vA (vu (n := (b : Int)) (by omega)) (vA (show (0 : Int) ≤ (b : Int) from by omega) trivial)))) rfl fun _ => am 4 5 (v := (Int.fdiv (z.getD k default).n (2 ^ (Nat.min b 64)) != 0)) rfl rfl rfl rfl (fun ag => ?_) (fun ag => ?_)
  ·
   have an := ag
   try simp only [BS] at an
   have cc := list_lt (by assumption) hb an
   obtain ⟨b9, a6⟩ := Sv.view (SR.sv hz U)
   have c6 := fU (a6 k)
   refine wR 1 [(3, .o (.int .u64 (z.getD k default).n))] 21 29 [] [(29, (.bool (aR .and .u64 (Int.fdiv (z.getD k default).n (2 ^ (Nat.min b 64))) 1 == 1)))] (vA (Sv.ix (j := (k : Int)) (SR.sv hz U) (by omega) (by omega)) (vA (ql 87 0 (vU (a6 k) (by omega)) rfl rfl) (vA (vu (n := (b : Int)) (by omega)) (vA (show (0 : Int) ≤ (b : Int) from by omega) trivial)))) rfl fun _ => am 0 2 (v := (aR .and .u64 (Int.fdiv (z.getD k default).n (2 ^ (Nat.min b 64))) 1 == 1)) rfl rfl rfl rfl (fun al => ?_) (fun al => ?_)
   ·
    have ay := al
    try simp only [BS] at ay
    refine aa (wRo 5 0 [] 30 34 [] [(30, (.slice A Z.length E)), (34, (iI ((64 * (k : Int)) + (b : Int))))] (vA (vi (n := 64 * (k : Int)) (by omega)) (vA (vi (n := (64 * (k : Int)) + (b : Int)) (by omega)) trivial)) rfl fun _ => aH (bu (α := Int) (ps := [(0, (iI ((64 * (k : Int)) + (b : Int))))]) (cells := [(iI ((64 * (k : Int)) + (b : Int)))]) ([(64 * (k : Int)) + (b : Int)] : List Int) U rfl rfl rfl (by kernel_rfl) ⟨[(iI ((64 * (k : Int)) + (b : Int)))], [], rfl, ⟨rfl, by omega⟩, rfl⟩ rfl) rfl rfl ?_)
    rintro _ co b4 ⟨c3, c8, rfl, b0, (a3 : HS _ _ _ [J, b4] _), _⟩
    refine aH (bC (α := Int) (q := 0) Y a3 rfl rfl rfl (OS.sv b0 a3 (i := 1) rfl) rfl rfl rfl rfl rfl rfl rfl (by (simp only [a06, a0a, a0g]; omega))) rfl rfl ?_
    rintro _ c0 bl ⟨a8, bk, rfl, b1, (b2 : HS _ _ _ [bl, _] _), _⟩
    refine wa (.slice a8 (Z ++ ([(64 * (k : Int)) + (b : Int)] : List Int)).length bk) rfl rfl rfl (ae 2 rfl (wU 1 [] 19 20 [5] [(5, (iI ((b : Int) + 1)))] (vi (n := (b : Int) + 1) (by omega)) rfl fun _ => a7 _ _ _ ?_ ⟨Z ++ ([(64 * (k : Int)) + (b : Int)] : List Int), b + 1, a8, bk, bl, _, (ad), (HS.sub b2 (a05 _ _)), b1, ⟨rfl, rfl, rfl, rfl, rfl, rfl, trivial⟩, rfl, (lst_step1 av ((ig (by assumption) (by omega)).1 (by assumption))), (by omega)⟩))
    omega
   have ay := al
   try simp only [BS] at ay
   refine wU 1 [] 19 20 [5] [(5, (iI ((b : Int) + 1)))] (vi (n := (b : Int) + 1) (by omega)) rfl fun _ => a7 _ _ _ ?_ ⟨Z, b + 1, A, E, J, _, (ad), U, Y, ⟨rfl, rfl, rfl, rfl, rfl, rfl, trivial⟩, rfl, (lst_step0 av (fun hh => absurd ((ig (by assumption) (by omega)).2 hh) (by assumption))), (by omega)⟩
   omega
  have an := ag
  try simp only [BS] at an
  refine wU 1 [] 8 8 [37] [(8, (iI ((k : Int) + 1)))] (vi (n := (k : Int) + 1) (by omega)) rfl fun _ => b3 _ _ _ ?_ ⟨Z, k + 1, A, E, J, _, (fT (a1) ad), U, Y, ⟨rfl, rfl, rfl, rfl, trivial⟩, rfl, (by rw [av]; exact list_stop (by assumption) hb (by assumption)), (by omega)⟩
  omega
 have c7 := a0
 try simp only [BS] at c7
 refine wT 1 [] 2 2 [38] [(2, (.slice N o.length T))] rfl fun _ => ak ⟨.inr rfl, _, rfl, N, T, o, V, _, (a1), (HS.only bb (i := 0) rfl), rfl, ax, (by rw [ho]; unfold gj; congr 1; omega)⟩
theorem addT_c {a_z : Option Addr} {n_z k_z : Nat} {p_z : Fp} (z : List U64) {E : Option Addr} {J : Nat} (b : BlkT) (hs : HS (.of H (p_z.map Prod.fst)) F H [p_z] R) (hz : OS F (.slice a_z n_z k_z) z p_z) (al : SR F (.slice E b.ins.length J) b.ins) (an : in64 b.fin) (ar : in64 b.reg) (av : in64 b.tgt) (ax : in64 b.els) (hT : TB 37 tabC F) (hb : (b.fin = 2 ∨ b.fin = 3) → 0 ≤ b.reg ∧ b.reg < 64 * (z.length : Int)) (hsl : z.length ≤ 100000) : kKt ex 114 [(.slice a_z n_z k_z), (.agg ⟨[(.slice E b.ins.length J), (iI b.fin), (iI b.reg), (iI b.tgt), (iI b.els)]⟩)] H fun v H' => ∃ (z' : List U64) (pm : Fp) (F' : Fz), Fz.le F F' ∧ HS (.of H (p_z.map Prod.fst)) F' H' [pm] R ∧ v = .tuple #[] ∧ OS F' (.slice a_z n_z k_z) z' pm ∧ (z'.length = z.length) ∧ (∀ i, aF z' i = (aF z i || decide ((i : Int) ∈ df b))) := by
 have lnarg := OS.len' hz
 refine aI Tryd.func114 rfl rfl (ah 1 rfl (aa (aH (bw hs rfl rfl) rfl rfl ?_)))
 rintro _ H2 _ ⟨b1, rfl, (A : HS _ _ _ [p_z, [(b1, .cells [(.slice E b.ins.length J), (iI b.fin), (iI b.reg), (iI b.tgt), (iI b.els)] none false)]] _), _⟩
 refine ae 2 rfl (wR 1 [(1, .o (iI b.fin)), (5, .o (iI b.fin))] 4 11 [] [(11, (.bool ((b.fin == 2) || (b.fin == 3))))] (vA (ql 3 1 (HS.hc A (i := 1) rfl) rfl rfl) (vA (fun (g1 : (b.fin == 2) = false) => (ql 3 1 (HS.hc A (i := 1) rfl) rfl rfl)) trivial)) rfl fun _ => am 0 0 (v := ((b.fin == 2) || (b.fin == 3))) rfl rfl rfl rfl (fun N => ?_) (fun N => ?_))
 ·
  have Y := N
  try simp only [BS] at Y
  have a1 := hb (by omega)
  refine aa (wUo 3 0 [(2, .o (iI b.reg))] 12 14 [] [(12, (.slice a_z n_z k_z)), (14, (iI b.reg))] (ql 3 2 (HS.hc A (i := 1) rfl) rfl rfl) rfl fun _ => az (ap rfl rfl rfl) rfl rfl (add_c ex z b.reg (HS.callOwn A (i := 0) rfl) hz (by omega) hT (by omega) (by omega)) ?_)
  rintro _ H6 ⟨ad, V, F6, Z, T, rfl, U, ay, a0⟩
  replace T : HS _ _ _ [V, _] _ := HS.backOwn A (i := 0) rfl rfl (fun _ hb => hb) T
  have a2 := OS.len' U
  refine ae 0 rfl (bU ⟨.inl rfl, _, rfl, ad, V, _, (Z), (HS.first T), rfl, U, (by assumption), (end_ok (.inl ⟨by omega, by omega, by assumption⟩))⟩)
 have Y := N
 try simp only [BS] at Y
 refine bU ⟨.inl rfl, _, rfl, z, p_z, _, fR, (HS.first A), rfl, hz, (by rfl), (end_ok (.inr ⟨by omega, rfl⟩))⟩
theorem transfer_c {a_z : Option Addr} {n_z k_z : Nat} {p_z : Fp} (z : List U64) {A : Option Addr} {E : Nat} (iv : VInT) (hs : HS (.of H (p_z.map Prod.fst)) F H [p_z] R) (hz : OS F (.slice a_z n_z k_z) z p_z) (dl : in64 iv.i.op) (dn : in64 iv.i.a) (ds : in64 iv.i.b) (dt : in64 iv.i.c) (dv : in64 iv.i.n) (U : SR F (.slice A iv.args.length E) iv.args) (hT : TB 37 tabC F) (hr : ∀ x ∈ aw iv, 0 ≤ x ∧ x < 64 * (z.length : Int)) (hw : ∀ x ∈ ab iv, 0 ≤ x ∧ x < 64 * (z.length : Int)) (hlen : iv.args.length ≤ 1048576) (hsl : z.length ≤ 100000) : kKt ex 118 [(.slice a_z n_z k_z), (.agg ⟨[(iI iv.i.op), (iI iv.i.a), (iI iv.i.b), (iI iv.i.c), (iI iv.i.n), (.slice A iv.args.length E)]⟩)] H fun v H' => ∃ (z' : List U64) (pm : Fp) (F' : Fz), Fz.le F F' ∧ HS (.of H (p_z.map Prod.fst)) F' H' [pm] R ∧ v = .tuple #[] ∧ OS F' (.slice a_z n_z k_z) z' pm ∧ (z'.length = z.length) ∧ (∀ i, aF z' i = ((aF z i && !decide ((i : Int) ∈ ab iv)) || decide ((i : Int) ∈ aw iv))) := by
 have lnarg := OS.len' hz
 have hwl := cG (v := iv)
 have hrl := ej (v := iv)
 refine aI Tryd.func118 rfl rfl (ah 1 rfl (aa (aH (bw hs rfl rfl) rfl rfl ?_)))
 rintro _ H2 _ ⟨b1, rfl, (a8 : HS _ _ _ [p_z, [(b1, .cells [(iI iv.i.op), (iI iv.i.a), (iI iv.i.b), (iI iv.i.c), (iI iv.i.n), (.slice A iv.args.length E)] none false)]] _), _⟩
 let a2 : Value := (.agg ⟨[(iI iv.i.op), (iI iv.i.a), (iI iv.i.b), (iI iv.i.c), (iI iv.i.n), (.slice A iv.args.length E)]⟩)
 refine ae 3 rfl (aa (wUo 1 0 [(0, .o a2)] 8 8 [] [(8, a2)] (qn 52 0 6 (HS.hc a8 (i := 1) rfl) rfl rfl rfl rfl) rfl fun _ => az (ap rfl rfl rfl) rfl rfl (ma.fF ex iv (HS.call a8) (by omega) (by omega) (by omega) (by omega) (by omega) U hT) ?_))
 rintro _ H4 ⟨c6, dk, r4, p4, F4, a1, a9, rfl, al, rfl⟩
 replace a9 : HS _ _ _ [_, _, p4] _ := HS.back a8 rfl a9
 replace hz := hz.mono a1
 let b3 : Fp := [(b1, .cells [(iI iv.i.op), (iI iv.i.a), (iI iv.i.b), (iI iv.i.c), (iI iv.i.n), (.slice A iv.args.length E)] none false)]
 refine wTo 2 2 [] 10 11 [] [(10, (iI ((ab iv).length : Int))), (11, (iI 0))] rfl fun _ => ae 2 rfl (aj (fun (mm : Nat) f H' => ∃ (w : List U64) (k : Nat) (T : Fp) (F' : Fz), Fz.le F4 F' ∧ HS (Base.of H (p_z.map Prod.fst)) F' H' [T, b3, p4] R ∧ OS F' (.slice a_z n_z k_z) w T ∧ aD f [(0, (.slice a_z n_z k_z)), (3, (.pointer (some ⟨b1, 0, none⟩))), (9, (.slice c6 (ab iv).length dk)), (10, (iI ((ab iv).length : Int))), (11, (iI (k : Int)))] ∧ mm = (ab iv).length - k ∧ (w.length = z.length) ∧ (∀ i, aF w i = (aF z i && !decide ((i : Int) ∈ (ab iv).take k))) ∧ (k ≤ (ab iv).length)) _ ⟨z, 0, p_z, _, fR, a9, hz, ⟨rfl, rfl, rfl, rfl, rfl, trivial⟩, rfl, (by rfl), (by intro i; simp), (by omega)⟩ ?_)
 rintro f2 f6 H6 ⟨w, k, T, F6, an, Z, J, bz, rfl, g1, g2, g3⟩ dd
 refine au _ bz (fun _ => ?_)
 clear bz
 replace hT := (hT.mono a1).mono an
 replace U := (U.mono a1).mono an
 replace al := al.mono an
 have c4 := OS.len' J
 refine ah 1 rfl (wT 2 [] 12 12 [] [(12, (.bool (decide ((k : Int) < ((ab iv).length : Int)))))] rfl fun _ => am 4 5 (v := (decide ((k : Int) < ((ab iv).length : Int)))) rfl rfl rfl rfl (fun a4 => ?_) (fun a4 => ?_))
 ·
  have c8 := a4
  try simp only [BS] at c8
  have hlw := eQ hw (by omega : k < (ab iv).length)
  obtain ⟨fd, b0⟩ := Sv.view (OS.sv al Z (i := 2) rfl)
  have f0 := fI (b0 k)
  refine wR 1 [(1, .o (iI ((ab iv).getD k 0)))] 13 14 [5] [(5, (iI ((ab iv).getD k 0)))] (vA (Sv.ix (j := (k : Int)) (OS.sv al Z (i := 2) rfl) (by omega) (by omega)) (vA (ql 3 0 (vI (b0 k) (by omega)) rfl rfl) trivial)) rfl fun _ => aa (wTo 2 0 [] 15 16 [] [(15, (.slice a_z n_z k_z)), (16, (iI ((ab iv).getD k 0)))] rfl fun _ => az (ap rfl rfl rfl) rfl rfl (rem_c ex w ((ab iv).getD k 0) (HS.callOwn Z (i := 0) rfl) J (by omega) hT (by omega) (by omega)) ?_)
  rintro _ e3 ⟨c0, bk, e0, b9, ax, rfl, a6, d3, ea⟩
  replace ax : HS _ _ _ [bk, _, _] _ := HS.backOwn Z (i := 0) rfl rfl (fun _ hb => hb) ax
  have es := OS.len' a6
  refine ae 2 rfl (wU 1 [] 11 11 [18] [(11, (iI ((k : Int) + 1)))] (vi (n := (k : Int) + 1) (by omega)) rfl fun _ => dd _ _ _ ?_ ⟨c0, k + 1, bk, _, (fT (an) b9), ax, a6, ⟨rfl, rfl, rfl, rfl, rfl, trivial⟩, rfl, (by omega), (rem_step (by omega) g2 (eQ hw (by omega)).1 (by assumption)), (by omega)⟩)
  omega
 have c8 := a4
 try simp only [BS] at c8
 refine aa (wUo 1 0 [(0, .o a2)] 19 19 [] [(19, a2)] (qn 52 0 6 (HS.hc Z (i := 1) rfl) rfl rfl rfl rfl) rfl fun _ => az (ap rfl rfl rfl) rfl rfl (ma.jY ex iv (HS.call Z) (by omega) (by omega) (by omega) (by omega) (by omega) U hT (by omega)) ?_)
 rintro _ e4 ⟨b4, ci, f3, b2, c5, av, ay, rfl, V, rfl⟩
 replace ay : HS _ _ _ [T, _, _, b2] _ := HS.back Z rfl ay
 replace J := J.mono av
 refine wTo 2 2 [] 21 22 [] [(21, (iI ((aw iv).length : Int))), (22, (iI 0))] rfl fun _ => ae 2 rfl (aj (fun (mm : Nat) f H' => ∃ (u : List U64) (q : Nat) (N : Fp) (F' : Fz), Fz.le c5 F' ∧ HS (Base.of H (p_z.map Prod.fst)) F' H' [N, b3, p4, b2] R ∧ OS F' (.slice a_z n_z k_z) u N ∧ aD f [(0, (.slice a_z n_z k_z)), (20, (.slice b4 (aw iv).length ci)), (21, (iI ((aw iv).length : Int))), (22, (iI (q : Int)))] ∧ mm = (aw iv).length - q ∧ (u.length = z.length) ∧ (∀ i, aF u i = (aF w i || decide ((i : Int) ∈ (aw iv).take q))) ∧ (q ≤ (aw iv).length)) _ ⟨w, 0, T, _, fR, ay, J, ⟨rfl, rfl, rfl, rfl, trivial⟩, rfl, (by omega), (by intro i; simp), (by omega)⟩ ?_)
 rintro ez fi e5 ⟨u, q, N, e1, ag, Y, ad, a5, rfl, g4, g5, g6⟩ ch
 refine au _ a5 (fun _ => ?_)
 clear a5
 replace hT := (hT.mono av).mono ag
 replace V := V.mono ag
 have cl := OS.len' ad
 refine ah 1 rfl (wT 2 [] 23 23 [] [(23, (.bool (decide ((q : Int) < ((aw iv).length : Int)))))] rfl fun _ => am 4 3 (v := (decide ((q : Int) < ((aw iv).length : Int)))) rfl rfl rfl rfl (fun ar => ?_) (fun ar => ?_))
 ·
  have a3 := ar
  try simp only [BS] at a3
  have hlr := eQ hr (by omega : q < (aw iv).length)
  obtain ⟨d2, bb⟩ := Sv.view (OS.sv V Y (i := 3) rfl)
  have f1 := fI (bb q)
  refine wR 1 [(1, .o (iI ((aw iv).getD q 0)))] 24 25 [7] [(7, (iI ((aw iv).getD q 0)))] (vA (Sv.ix (j := (q : Int)) (OS.sv V Y (i := 3) rfl) (by omega) (by omega)) (vA (ql 3 0 (vI (bb q) (by omega)) rfl rfl) trivial)) rfl fun _ => aa (wTo 2 0 [] 26 27 [] [(26, (.slice a_z n_z k_z)), (27, (iI ((aw iv).getD q 0)))] rfl fun _ => az (ap rfl rfl rfl) rfl rfl (add_c ex u ((aw iv).getD q 0) (HS.callOwn Y (i := 0) rfl) ad (by omega) hT (by omega) (by omega)) ?_)
  rintro _ e6 ⟨c3, bl, e2, cc, a0, rfl, a7, d4, em⟩
  replace a0 : HS _ _ _ [bl, _, _, _] _ := HS.backOwn Y (i := 0) rfl rfl (fun _ hb => hb) a0
  have et := OS.len' a7
  refine ae 2 rfl (wU 1 [] 22 22 [29] [(22, (iI ((q : Int) + 1)))] (vi (n := (q : Int) + 1) (by omega)) rfl fun _ => ch _ _ _ ?_ ⟨c3, q + 1, bl, _, (fT (ag) cc), a0, a7, ⟨rfl, rfl, rfl, rfl, trivial⟩, rfl, (by omega), (add_step (by omega) g5 (eQ hr (by omega)).1 (by assumption)), (by omega)⟩)
  omega
 have a3 := ar
 try simp only [BS] at a3
 refine bU ⟨.inl rfl, _, rfl, u, N, _, (fT (fT (fT (a1) an) av) ag), (HS.first Y), rfl, ad, (by omega), (tr_done (fun i => by rw [g2 i, a0h (by omega)]) (fun i => by rw [g5 i, a0h (by omega)]))⟩
end Go.Proofs.YtknafdcgpaejlaaDoor.mb
