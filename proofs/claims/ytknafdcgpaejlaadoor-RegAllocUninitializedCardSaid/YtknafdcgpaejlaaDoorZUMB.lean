/-
 Live registers: the program, function by function, each by a symbolic run. No condition but that the function is valid.
-/
import Derived.Test.YtknafdcgpaejlaaDoorZUML
import Derived.Test.YtknafdcgpaejlaaDoorZURC
noncomputable section
namespace Go.Proofs.YtknafdcgpaejlaaDoor.mb
open Go.R
set_option maxRecDepth 10000
set_option linter.unusedVariables false
set_option linter.unusedSimpArgs false
variable (ex : FuncId) {F : Fz} {H : Heap} {R : List Fp}
open m1 m2 m3 m4 m5 m6 ma ml
theorem lst_step1 {s : List U64} {o : List Int} {k b : Nat} (ho : o = ju s (64 * k + b)) (h : aB s (64 * k + b) = true) : o ++ ([64 * (k : Int) + (b : Int)] : List Int) = ju s (64 * k + (b + 1)) := by
 rw [show 64 * k + (b + 1) = (64 * k + b) + 1 by omega, iU, if_pos h, ← ho]; simp
theorem lst_step0 {s : List U64} {o : List Int} {k b : Nat} (ho : o = ju s (64 * k + b)) (h : ¬ aB s (64 * k + b) = true) : o = ju s (64 * k + (b + 1)) := by
 rw [show 64 * k + (b + 1) = (64 * k + b) + 1 by omega, iU, if_neg h, ← ho]; simp
theorem end_ok {s s' : List U64} {b : BlkT} (h : ((b.fin = 2 ∨ b.fin = 3) ∧ 0 ≤ b.reg ∧ ∀ i, aB s' i = (aB s i || decide (i = b.reg.toNat))) ∨ (¬ (b.fin = 2 ∨ b.fin = 3) ∧ s' = s)) (i : Nat) : aB s' i = (aB s i || decide ((i : Int) ∈ gN b)) := by
 unfold gN
 rcases h with ⟨A, J, E⟩ | ⟨A, rfl⟩
 ·
  rw [if_pos A, E]; congr 1; rw [decide_eq_decide, a0d]; omega
 rw [if_neg A]; simp
theorem rem_step {s w w' : List U64} {l : List Int} {k : Nat} (hk : k < l.length) (h : ∀ i, aB w i = (aB s i && !decide ((i : Int) ∈ l.take k))) (N : 0 ≤ l.getD k 0) (J : ∀ i, aB w' i = (aB w i && !decide (i = (l.getD k 0).toNat))) (i : Nat) : aB w' i = (aB s i && !decide ((i : Int) ∈ l.take (k + 1))) := by
 rw [J, h, bj hk (d := 0), Bool.and_assoc]
 congr 1
 rw [a0m]
 simp only [a0b, a0J, decide_eq_false_iff_not, a04, a0d]
 constructor
 ·
  rintro ⟨E, T⟩ (A | A)
  ·
   exact E A
  omega
 intro E; exact ⟨fun A => E (.inl A), fun A => E (.inr (by omega))⟩
theorem add_step {s w w' : List U64} {l : List Int} {k : Nat} (hk : k < l.length) (h : ∀ i, aB w i = (aB s i || decide ((i : Int) ∈ l.take k))) (J : 0 ≤ l.getD k 0) (E : ∀ i, aB w' i = (aB w i || decide (i = (l.getD k 0).toNat))) (i : Nat) : aB w' i = (aB s i || decide ((i : Int) ∈ l.take (k + 1))) := by
 rw [E, h, bj hk (d := 0), Bool.or_assoc]
 congr 1
 rw [a0m]
 simp only [a0H, decide_eq_true_eq, a04, a0d]
 constructor
 ·
  rintro (A | A)
  ·
   exact .inl A
  exact .inr (by omega)
 rintro (A | A)
 ·
  exact .inl A
 exact .inr (by omega)
theorem d3 {l : List Int} {m : Int} (h : ∀ x ∈ l, 0 ≤ x ∧ x < m) {k : Nat} (hk : k < l.length) : 0 ≤ l.getD k 0 ∧ l.getD k 0 < m := by
 rw [a01, a06 hk]; exact h _ (a1l hk)
theorem dR {v : VInT} : (ab v).length ≤ 1 := by unfold ab; split <;> simp
theorem eh {v : VInT} : (az v).length ≤ 3 + v.args.length := by
 unfold az
 split
 ·
  refine a0c er ?_
  unfold gI
  simp only [a05, a0e]
  have A := dW (a := v.i.a) (p := (aK v.i.op).ra = true)
  have E := dW (a := v.i.b) (p := (aK v.i.op).rb = true)
  have J := dW (a := v.i.c) (p := v.i.op = 11 ∨ v.i.op = 12)
  have N : (if v.i.op = 6 then v.args else []).length ≤ v.args.length := by split <;> first | exact a09 _ | exact a0S _
  omega
 exact a0S _
theorem tr_done {s w v' : List U64} {iv : VInT} (A : ∀ i, aB w i = (aB s i && !decide ((i : Int) ∈ ab iv))) (E : ∀ i, aB v' i = (aB w i || decide ((i : Int) ∈ az iv))) (i : Nat) : aB v' i = ((aB s i && !decide ((i : Int) ∈ ab iv)) || decide ((i : Int) ∈ az iv)) := by rw [E, A]
theorem empty_c (n : Int) (hs : HS (.of H []) F H [] R) (hn : in64 n) (hT : TB 37 tabC F) (hn : 0 ≤ n ∧ n ≤ 1000000) : kKt ex 113 [(iI n)] H fun v H' => ∃ (ar : Option Addr) (kr : Nat) (r : List U64) (p : Fp) (F' : Fz), Fz.le F F' ∧ HS (.of H []) F' H' [p] R ∧ v = .slice ar r.length kr ∧ OS F' (.slice ar r.length kr) r p ∧ r = List.replicate (Int.tdiv (n + 63) 64).toNat (⟨0⟩ : U64) := by
 have hq : Int.tdiv (n + 63) 64 = (n + 63) / 64 := a12 (by omega)
 refine aH Tryd.func113 rfl rfl (ah 1 rfl (wT 2 [] 2 2 [] [(2, (.slice none 0 0))] rfl fun _ => aa ?_))
 have U : in64 (n + 63) → in64 (Int.tdiv (n + 63) 64) := fun h => vq h (by decide)
 refine wRo 3 0 [] 3 5 [] [(5, (iI (Int.tdiv (n + 63) 64)))] (vA (vi (n := n + 63) (by omega)) (vA (vA (show (64 : Int) ≠ 0 from by decide) (vq (a := n + 63) (b := 64) (by omega) (by decide))) trivial)) rfl fun _ => aG (cE (⟨0⟩ : U64) hs rfl rfl rfl rfl rfl rfl rfl rfl rfl ⟨rfl, by decide⟩ (by omega) (by omega)) rfl rfl ?_
 rintro _ V T ⟨A, N, rfl, E, (J : HS _ _ _ [T] _), _⟩
 refine wa (.slice A (List.replicate (Int.tdiv (n + 63) 64).toNat (⟨0⟩ : U64)).length N) rfl rfl rfl (ae 1 rfl (ak ⟨.inr rfl, _, rfl, A, N, List.replicate (Int.tdiv (n + 63) 64).toNat (⟨0⟩ : U64), T, _, fR, (HS.only J (i := 0) rfl), rfl, E, (by rfl)⟩))
theorem add_c {a_z : Option Addr} {n_z k_z : Nat} {p_z : Fp} (z : List U64) (n : Int) (hs : HS (.of H (p_z.map Prod.fst)) F H [p_z] R) (hz : OS F (.slice a_z n_z k_z) z p_z) (hn : in64 n) (hT : TB 37 tabC F) (hn : 0 ≤ n ∧ n < 64 * (z.length : Int)) (hsl : z.length ≤ 100000) : kKt ex 116 [(.slice a_z n_z k_z), (iI n)] H fun v H' => ∃ (z' : List U64) (pm : Fp) (F' : Fz), Fz.le F F' ∧ HS (.of H (p_z.map Prod.fst)) F' H' [pm] R ∧ v = .tuple #[] ∧ OS F' (.slice a_z n_z k_z) z' pm ∧ (z'.length = z.length) ∧ (∀ i, aB z' i = (aB z i || decide (i = n.toNat))) := by
 have lnarg := OS.len' hz
 have hq := n64 hn
 refine aH Tryd.func116 rfl rfl (aa ?_)
 have V : in64 n → in64 (Int.tdiv n 64) := fun h => vq h (by decide)
 obtain ⟨U, E⟩ := Sv.view (OS.sv hz hs (i := 0) rfl)
 have g3 := fU (E (Int.tdiv n 64).toNat)
 refine wRo 11 0 [(4, .o (.int .u64 (z.getD (Int.tdiv n 64).toNat default).n))] 4 14 [] [(13, (.int .u64 (aQ .or .u64 (z.getD (Int.tdiv n 64).toNat default).n (IntKind.u64.wrap (1 * 2 ^ (Nat.min (Int.tmod n 64).toNat 64)))))), (14, (.pointer (some ⟨sB (.slice a_z n_z k_z), sO (.slice a_z n_z k_z) + (Int.tdiv n 64).toNat * Rp.sz U64, none⟩)))] (vA (vA (show (64 : Int) ≠ 0 from by decide) (vq (a := n) (b := 64) (by omega) (by decide))) (vA (Sv.ix (j := Int.tdiv n 64) (OS.sv hz hs (i := 0) rfl) (by omega) (by omega)) (vA (ql 87 0 (vU (E (Int.tdiv n 64).toNat) (by omega)) rfl rfl) (vA (show (64 : Int) ≠ 0 from by decide) (vA (vu (n := Int.tmod n 64) (by omega)) (vA (show (0 : Int) ≤ Int.tmod n 64 from by omega) (vA (Sv.ix (j := Int.tdiv n 64) (OS.sv hz hs (i := 0) rfl) (by omega) (by omega)) trivial))))))) rfl fun _ => aN (db (α := U64) (j := (Int.tdiv n 64).toNat) (off := 0) (q := 0) ⟨aQ .or .u64 (z.getD (Int.tdiv n 64).toNat default).n (IntKind.u64.wrap (1 * 2 ^ (Nat.min (Int.tmod n 64).toNat 64)))⟩ hz hs rfl rfl rfl rfl rfl rfl rfl rfl (aM (x := default) (by omega)) rfl (by rintro cs ⟨rfl, _⟩; exact ⟨a07 rfl, rfl, by (dsimp only; exact eG _ _ _)⟩)) rfl ?_
 rintro _ Z N ⟨A, (J : HS _ _ _ [N] _), _⟩
 have T := OS.len' A
 refine ae 0 rfl (aT ⟨.inl rfl, _, rfl, z.set (Int.tdiv n 64).toNat ⟨aQ .or .u64 (z.getD (Int.tdiv n 64).toNat default).n (IntKind.u64.wrap (1 * 2 ^ (Nat.min (Int.tmod n 64).toNat 64)))⟩, N, _, fR, (HS.first J), rfl, A, (by exact a0h), (by exact fun i => add_ok hn (by assumption) i)⟩)
theorem rem_c {a_z : Option Addr} {n_z k_z : Nat} {p_z : Fp} (z : List U64) (n : Int) (hs : HS (.of H (p_z.map Prod.fst)) F H [p_z] R) (hz : OS F (.slice a_z n_z k_z) z p_z) (hn : in64 n) (hT : TB 37 tabC F) (hn : 0 ≤ n ∧ n < 64 * (z.length : Int)) (hsl : z.length ≤ 100000) : kKt ex 115 [(.slice a_z n_z k_z), (iI n)] H fun v H' => ∃ (z' : List U64) (pm : Fp) (F' : Fz), Fz.le F F' ∧ HS (.of H (p_z.map Prod.fst)) F' H' [pm] R ∧ v = .tuple #[] ∧ OS F' (.slice a_z n_z k_z) z' pm ∧ (z'.length = z.length) ∧ (∀ i, aB z' i = (aB z i && !decide (i = n.toNat))) := by
 have lnarg := OS.len' hz
 have hq := n64 hn
 refine aH Tryd.func115 rfl rfl (aa ?_)
 have V : in64 n → in64 (Int.tdiv n 64) := fun h => vq h (by decide)
 obtain ⟨U, E⟩ := Sv.view (OS.sv hz hs (i := 0) rfl)
 have g3 := fU (E (Int.tdiv n 64).toNat)
 refine wRo 11 0 [(4, .o (.int .u64 (z.getD (Int.tdiv n 64).toNat default).n))] 4 14 [] [(13, (.int .u64 (aQ .andNot .u64 (z.getD (Int.tdiv n 64).toNat default).n (IntKind.u64.wrap (1 * 2 ^ (Nat.min (Int.tmod n 64).toNat 64)))))), (14, (.pointer (some ⟨sB (.slice a_z n_z k_z), sO (.slice a_z n_z k_z) + (Int.tdiv n 64).toNat * Rp.sz U64, none⟩)))] (vA (vA (show (64 : Int) ≠ 0 from by decide) (vq (a := n) (b := 64) (by omega) (by decide))) (vA (Sv.ix (j := Int.tdiv n 64) (OS.sv hz hs (i := 0) rfl) (by omega) (by omega)) (vA (ql 87 0 (vU (E (Int.tdiv n 64).toNat) (by omega)) rfl rfl) (vA (show (64 : Int) ≠ 0 from by decide) (vA (vu (n := Int.tmod n 64) (by omega)) (vA (show (0 : Int) ≤ Int.tmod n 64 from by omega) (vA (Sv.ix (j := Int.tdiv n 64) (OS.sv hz hs (i := 0) rfl) (by omega) (by omega)) trivial))))))) rfl fun _ => aN (db (α := U64) (j := (Int.tdiv n 64).toNat) (off := 0) (q := 0) ⟨aQ .andNot .u64 (z.getD (Int.tdiv n 64).toNat default).n (IntKind.u64.wrap (1 * 2 ^ (Nat.min (Int.tmod n 64).toNat 64)))⟩ hz hs rfl rfl rfl rfl rfl rfl rfl rfl (aM (x := default) (by omega)) rfl (by rintro cs ⟨rfl, _⟩; exact ⟨a07 rfl, rfl, by (dsimp only; exact eG _ _ _)⟩)) rfl ?_
 rintro _ Z N ⟨A, (J : HS _ _ _ [N] _), _⟩
 have T := OS.len' A
 refine ae 0 rfl (aT ⟨.inl rfl, _, rfl, z.set (Int.tdiv n 64).toNat ⟨aQ .andNot .u64 (z.getD (Int.tdiv n 64).toNat default).n (IntKind.u64.wrap (1 * 2 ^ (Nat.min (Int.tmod n 64).toNat 64)))⟩, N, _, fR, (HS.first J), rfl, A, (by exact a0h), (by exact fun i => rem_ok hn (by assumption) i)⟩)
theorem fk {a_z : Option Addr} {n_z k_z : Nat} {p_z : Fp} (z : List U64) {a_t : Option Addr} {n_t k_t : Nat} (t : List U64) (hs : HS (.of H (p_z.map Prod.fst)) F H [p_z] R) (hz : OS F (.slice a_z n_z k_z) z p_z) (ht : SR F (.slice a_t n_t k_t) t) (hT : TB 37 tabC F) (hl : t.length = z.length) (hsl : z.length ≤ 100000) : kKt ex 117 [(.slice a_z n_z k_z), (.slice a_t n_t k_t)] H fun v H' => ∃ (r : Bool) (z' : List U64) (pm : Fp) (F' : Fz), Fz.le F F' ∧ HS (.of H (p_z.map Prod.fst)) F' H' [pm] R ∧ v = .bool r ∧ OS F' (.slice a_z n_z k_z) z' pm ∧ (z'.length = z.length) ∧ (∀ i, aB z' i = (aB z i || aB t i)) ∧ (r = false → z' = z) ∧ (r = true → ∃ i, aB t i = true ∧ aB z i = false) := by
 have ln_t := SR.len' ht
 have lnarg := OS.len' hz
 refine aH Tryd.func117 rfl rfl (ah 1 rfl (wT 2 [] 4 4 [] [(4, (.bool false))] rfl fun _ => wT 3 [] 1 0 [5] [(5, (.bool false))] rfl fun _ => wT 2 [] 7 9 [] [(8, (iI (n_z : Int))), (9, (iI 0))] rfl fun _ => aj (fun (mm : Nat) f H' => ∃ (w : List U64) (k : Nat) (m : Bool) (J : Fp) (F' : Fz), Fz.le F F' ∧ HS (Base.of H (p_z.map Prod.fst)) F' H' [J] R ∧ OS F' (.slice a_z n_z k_z) w J ∧ aD f [(0, (.slice a_z n_z k_z)), (1, (.slice a_t n_t k_t)), (5, (.bool m)), (8, (iI (n_z : Int))), (9, (iI (k : Int)))] ∧ mm = z.length - k ∧ (uniB z t k w) ∧ (k ≤ z.length) ∧ (m = false → w = z) ∧ (m = true → ∃ i, aB t i = true ∧ aB z i = false)) _ ⟨z, 0, false, p_z, _, fR, hs, hz, ⟨rfl, rfl, rfl, rfl, rfl, trivial⟩, rfl, (by exact uniB_zero), (by omega), (by exact fun _ => rfl), (by intro h; cases h)⟩ ?_))
 rintro b4 f4 H4 ⟨w, k, m, J, F4, V, E, A, ar, rfl, hu, hk, a8, a9⟩ aw
 refine ap _ ar (fun _ => ?_)
 clear ar
 replace ht := ht.mono V
 have a4 := OS.len' A
 have hwl := hu.1
 refine ah 1 rfl (wT 2 [] 10 10 [] [(10, (.bool (decide ((k : Int) < (n_z : Int)))))] rfl fun _ => am 4 5 (v := (decide ((k : Int) < (n_z : Int)))) rfl rfl rfl rfl (fun ad => ?_) (fun ad => ?_))
 ·
  have c6 := ad
  try simp only [BS] at c6
  refine wT 2 [] 11 11 [6] [(6, (iI (k : Int)))] rfl fun _ => ?_
  obtain ⟨b2, av⟩ := Sv.view (SR.sv ht E)
  have g9 := fU (av k)
  obtain ⟨bz, ag⟩ := Sv.view (OS.sv A E (i := 0) rfl)
  have b3 := fU (ag k)
  refine wRD 1 [(3, .o (.int .u64 (t.getD k default).n)), (7, .o (.int .u64 (w.getD k default).n))] 12 21 [] [(21, (.bool (aQ .andNot .u64 (t.getD k default).n (w.getD k default).n != 0)))] (vA (Sv.ix (j := (k : Int)) (SR.sv ht E) (by omega) (by omega)) (vA (ql 87 0 (hc0 (vU (av k) (by omega))) rfl rfl) (vA (Sv.ix (j := (k : Int)) (OS.sv A E (i := 0) rfl) (by omega) (by omega)) (vA (ql 87 0 (hc0 (vU (ag k) (by omega))) rfl rfl) trivial)))) rfl rfl fun _ => am 1 2 (v := (aQ .andNot .u64 (t.getD k default).n (w.getD k default).n != 0)) rfl rfl rfl rfl (fun T => ?_) (fun T => ?_)
  ·
   have Z := T
   try simp only [BS] at Z
   refine wT 1 [] 1 0 [5] [(5, (.bool true))] rfl fun _ => aS rfl (fm (.slice a_z n_z k_z) rfl rfl rfl (fm (iI (k : Int)) rfl rfl rfl (wfv (v := (.pointer (some ⟨sB (.slice a_z n_z k_z), sO (.slice a_z n_z k_z) + k * Rp.sz U64, none⟩))) (bh (α := U64) (j := (k : Int)) rfl rfl rfl rfl (OS.sv A E.log0 (i := 0) rfl) (by omega) (by omega)) ?_)))
   obtain ⟨b0, a1, ay⟩ := Sv.at (OS.sv A E.log0 (i := 0) rfl) (aM (x := default) (show k < w.length from by omega))
   obtain ⟨rfl, bb, a6⟩ := a1
   refine aF (v := (.int .u64 (w.getD k default).n)) (id := .l (sB (.slice a_z n_z k_z))) (aU (i := 0) rfl rfl ay rfl rfl) rfl rfl (bx rfl) (kb rfl) (fm (.slice a_t n_t k_t) rfl rfl rfl (fm (iI (k : Int)) rfl rfl rfl (wfv (v := (.pointer (some ⟨sB (.slice a_t n_t k_t), sO (.slice a_t n_t k_t) + k * Rp.sz U64, none⟩))) (bh (α := U64) (j := (k : Int)) rfl rfl rfl rfl (SR.sv ht E.log0) (by omega) (by omega)) ?_)))
   obtain ⟨b1, a2, a0⟩ := Sv.at (SR.sv ht E.log0) (aM (x := default) (show k < t.length from by omega))
   obtain ⟨rfl, be, a7⟩ := a2
   refine aF (v := (.int .u64 (t.getD k default).n)) (id := .l (sB (.slice a_t n_t k_t))) (aU (i := 0) rfl rfl a0 rfl rfl) rfl rfl (bx rfl) (kb rfl) (wfv (v := (.int .u64 (aQ .or .u64 (w.getD k default).n (t.getD k default).n))) (gQ rfl rfl rfl) (wfv (v := (.pointer (some ⟨sB (.slice a_z n_z k_z), sO (.slice a_z n_z k_z) + k * Rp.sz U64, none⟩))) (bh (α := U64) (j := (k : Int)) rfl rfl rfl rfl (OS.sv A E.log0 (i := 0) rfl) (by omega) (by omega)) (eN (id := .x (J.map Prod.fst)) (db (α := U64) (j := k) (off := 0) (q := 0) ⟨aQ .or .u64 (w.getD k default).n (t.getD k default).n⟩ A E.log0 rfl rfl rfl rfl rfl rfl rfl rfl (aM (x := default) (by omega)) rfl (by rintro cs ⟨rfl, _⟩; exact ⟨a07 rfl, rfl, by (dsimp only; exact eG _ _ _)⟩)) rfl (by rintro _ _ al ⟨U, _, hwr⟩; exact bQ rfl rfl (Wr.did hwr)) (kb rfl) ?_)))
   rintro _ a5 al ⟨U, N, _⟩ a3 an
   replace N := HS.lg N E an
   generalize ({ a5 with log := a3 } : Heap) = bl at N ⊢
   have N : HS _ _ _ [al] _ := N
   have bk := OS.len' U
   refine bT (ah 2 rfl (wU 1 [] 9 9 [32] [(9, (iI ((k : Int) + 1)))] (vi (n := (k : Int) + 1) (by omega)) rfl fun _ => aw _ _ _ ?_ ⟨w.set k ⟨aQ .or .u64 (w.getD k default).n (t.getD k default).n⟩, k + 1, true, al, _, (V), N, U, ⟨rfl, rfl, rfl, rfl, rfl, trivial⟩, rfl, (by exact uniB_or hu (by omega) (by assumption) (by assumption)), (by omega), (by (intro h; cases h; done)), (by (intro _; exact uniB_new hu (by assumption) (by assumption) (by assumption)))⟩))
   omega
  have Z := T
  try simp only [BS] at Z
  refine wU 1 [] 9 9 [32] [(9, (iI ((k : Int) + 1)))] (vi (n := (k : Int) + 1) (by omega)) rfl fun _ => aw _ _ _ ?_ ⟨w, k + 1, m, J, _, (V), E, A, ⟨rfl, rfl, rfl, rfl, rfl, trivial⟩, rfl, (by exact uniB_same hu (by assumption) (by assumption) (by assumption)), (by omega), (by assumption), (by assumption)⟩
  omega
 have c6 := ad
 try simp only [BS] at c6
 refine wT 1 [] 4 4 [33] [(4, (.bool m))] rfl fun _ => ak ⟨.inr rfl, _, rfl, m, w, J, _, (V), (HS.first E), rfl, A, (by exact hu.1), (by exact uniB_all hu (by omega) hl), (by exact a8), (by exact a9)⟩
theorem list_c {a_z : Option Addr} {n_z k_z : Nat} (z : List U64) (hs : HS (.of H []) F H [] R) (hz : SR F (.slice a_z n_z k_z) z) (hT : TB 37 tabC F) (hsl : z.length ≤ 100000) : kKt ex 112 [(.slice a_z n_z k_z)] H fun v H' => ∃ (ar : Option Addr) (kr : Nat) (r : List Int) (p : Fp) (F' : Fz), Fz.le F F' ∧ HS (.of H []) F' H' [p] R ∧ v = .slice ar r.length kr ∧ OS F' (.slice ar r.length kr) r p ∧ r = fB z := by
 have ln_z := SR.len' hz
 refine aH Tryd.func112 rfl rfl (ah 1 rfl (wT 2 [] 2 2 [] [(2, (.slice none 0 0))] rfl fun _ => wT 3 [] 1 0 [3] [(3, (.slice none 0 0))] rfl fun _ => wT 2 [] 6 8 [] [(7, (iI (n_z : Int))), (8, (iI 0))] rfl fun _ => ?_))
 have a4 := HS.snoc hs
 have a4 : HS _ _ _ [[]] _ := a4
 refine aj (fun (mm : Nat) f H' => ∃ (o : List Int) (k : Nat) (N : Option Addr) (T : Nat) (V : Fp) (F' : Fz), Fz.le F F' ∧ HS (Base.of H []) F' H' [V] R ∧ OS F' (.slice N o.length T) o V ∧ aD f [(0, (.slice a_z n_z k_z)), (3, (.slice N o.length T)), (7, (iI (n_z : Int))), (8, (iI (k : Int)))] ∧ mm = z.length - k ∧ (o = ju z (64 * k)) ∧ (k ≤ z.length)) _ ⟨([] : List Int), 0, none, 0, [], _, fR, a4, (OS.nil : OS _ (.slice none 0 0) ([] : List Int) []), ⟨rfl, rfl, rfl, rfl, trivial⟩, rfl, (by rfl), (by omega)⟩ ?_
 rintro c8 f4 H4 ⟨o, k, N, T, V, F4, a1, bb, ax, a9, rfl, ho, hk⟩ b2
 refine ap _ a9 (fun _ => ?_)
 clear a9
 replace hz := hz.mono a1
 refine ah 1 rfl (wT 2 [] 9 9 [] [(9, (.bool (decide ((k : Int) < (n_z : Int)))))] rfl fun _ => am 4 5 (v := (decide ((k : Int) < (n_z : Int)))) rfl rfl rfl rfl (fun a0 => ?_) (fun a0 => ?_))
 ·
  have c7 := a0
  try simp only [BS] at c7
  refine wT 2 [] 10 10 [4] [(4, (iI (k : Int)))] rfl fun _ => wT 2 [] 1 0 [5] [(5, (iI 0))] rfl fun _ => aj (fun (mm : Nat) f H' => ∃ (o2 : List Int) (b : Nat) (A : Option Addr) (E : Nat) (J : Fp) (F' : Fz), Fz.le F4 F' ∧ HS (Base.of H []) F' H' [J] R ∧ OS F' (.slice A o2.length E) o2 J ∧ aD f [(0, (.slice a_z n_z k_z)), (3, (.slice A o2.length E)), (4, (iI (k : Int))), (5, (iI (b : Int))), (7, (iI (n_z : Int))), (8, (iI (k : Int)))] ∧ mm = 64 - b ∧ (o2 = ju z (64 * k + b)) ∧ (b ≤ 64)) _ ⟨o, 0, N, T, V, _, fR, bb, ax, ⟨rfl, rfl, rfl, rfl, rfl, rfl, trivial⟩, rfl, (by exact ho), (by omega)⟩ ?_
  rintro b9 c3 ch ⟨o2, b, A, E, J, cc, ag, U, Z, a2, rfl, aw, hb⟩ a7
  refine ap _ a2 (fun _ => ?_)
  clear a2
  replace hz := hz.mono ag
  have hol : o2.length ≤ 64 * k + b := by rw [aw]; exact lstK_len
  refine ah 2 rfl ?_
  obtain ⟨b5, a5⟩ := Sv.view (SR.sv hz U)
  have c4 := fU (a5 k)
  refine wR 1 [(3, .o (.int .u64 (z.getD k default).n))] 11 18 [] [(18, (.bool (Int.fdiv (z.getD k default).n (2 ^ (Nat.min b 64)) != 0)))] (vA (Sv.ix (j := (k : Int)) (SR.sv hz U) (by omega) (by omega)) (vA (ql 87 0 (vU (a5 k) (by omega)) rfl rfl) (vA (vu (n := (b : Int)) (by omega)) (vA (show (0 : Int) ≤ (b : Int) from by omega) trivial)))) rfl fun _ => am 4 5 (v := (Int.fdiv (z.getD k default).n (2 ^ (Nat.min b 64)) != 0)) rfl rfl rfl rfl (fun al => ?_) (fun al => ?_)
  ·
   have av := al
   try simp only [BS] at av
   have b7 := list_lt (by assumption) hb av
   obtain ⟨b6, a6⟩ := Sv.view (SR.sv hz U)
   have c5 := fU (a6 k)
   refine wR 1 [(3, .o (.int .u64 (z.getD k default).n))] 21 29 [] [(29, (.bool (aQ .and .u64 (Int.fdiv (z.getD k default).n (2 ^ (Nat.min b 64))) 1 == 1)))] (vA (Sv.ix (j := (k : Int)) (SR.sv hz U) (by omega) (by omega)) (vA (ql 87 0 (vU (a6 k) (by omega)) rfl rfl) (vA (vu (n := (b : Int)) (by omega)) (vA (show (0 : Int) ≤ (b : Int) from by omega) trivial)))) rfl fun _ => am 0 2 (v := (aQ .and .u64 (Int.fdiv (z.getD k default).n (2 ^ (Nat.min b 64))) 1 == 1)) rfl rfl rfl rfl (fun an => ?_) (fun an => ?_)
   ·
    have ay := an
    try simp only [BS] at ay
    refine aa (wRo 5 0 [] 30 34 [] [(30, (.slice A o2.length E)), (34, (iI ((64 * (k : Int)) + (b : Int))))] (vA (vi (n := 64 * (k : Int)) (by omega)) (vA (vi (n := (64 * (k : Int)) + (b : Int)) (by omega)) trivial)) rfl fun _ => aG (bt (α := Int) (ps := [(0, (iI ((64 * (k : Int)) + (b : Int))))]) (cells := [(iI ((64 * (k : Int)) + (b : Int)))]) ([(64 * (k : Int)) + (b : Int)] : List Int) U rfl rfl rfl (by kernel_rfl) ⟨[(iI ((64 * (k : Int)) + (b : Int)))], [], rfl, ⟨rfl, by omega⟩, rfl⟩ rfl) rfl rfl ?_)
    rintro _ ci b3 ⟨c0, c6, rfl, bz, (a3 : HS _ _ _ [J, b3] _), _⟩
    refine aG (bw (α := Int) (q := 0) Z a3 rfl rfl rfl (OS.sv bz a3 (i := 1) rfl) rfl rfl rfl rfl rfl rfl rfl (by (simp only [a05, a0a, a0e]; omega))) rfl rfl ?_
    rintro _ co bk ⟨a8, be, rfl, b0, (b1 : HS _ _ _ [bk, _] _), _⟩
    refine wa (.slice a8 (o2 ++ ([(64 * (k : Int)) + (b : Int)] : List Int)).length be) rfl rfl rfl (ae 2 rfl (wU 1 [] 19 20 [5] [(5, (iI ((b : Int) + 1)))] (vi (n := (b : Int) + 1) (by omega)) rfl fun _ => a7 _ _ _ ?_ ⟨o2 ++ ([(64 * (k : Int)) + (b : Int)] : List Int), b + 1, a8, be, bk, _, (ag), (HS.sub b1 (a03 _ _)), b0, ⟨rfl, rfl, rfl, rfl, rfl, rfl, trivial⟩, rfl, (by exact lst_step1 aw ((ij (by assumption) (by omega)).1 (by assumption))), (by omega)⟩))
    omega
   have ay := an
   try simp only [BS] at ay
   refine wU 1 [] 19 20 [5] [(5, (iI ((b : Int) + 1)))] (vi (n := (b : Int) + 1) (by omega)) rfl fun _ => a7 _ _ _ ?_ ⟨o2, b + 1, A, E, J, _, (ag), U, Z, ⟨rfl, rfl, rfl, rfl, rfl, rfl, trivial⟩, rfl, (by exact lst_step0 aw (fun hh => absurd ((ij (by assumption) (by omega)).2 hh) (by assumption))), (by omega)⟩
   omega
  have av := al
  try simp only [BS] at av
  refine wU 1 [] 8 8 [37] [(8, (iI ((k : Int) + 1)))] (vi (n := (k : Int) + 1) (by omega)) rfl fun _ => b2 _ _ _ ?_ ⟨o2, k + 1, A, E, J, _, (fT (a1) ag), U, Z, ⟨rfl, rfl, rfl, rfl, trivial⟩, rfl, (by rw [aw]; exact list_stop (by assumption) hb (by assumption)), (by omega)⟩
  omega
 have c7 := a0
 try simp only [BS] at c7
 refine wT 1 [] 2 2 [38] [(2, (.slice N o.length T))] rfl fun _ => ak ⟨.inr rfl, _, rfl, N, T, o, V, _, (a1), (HS.only bb (i := 0) rfl), rfl, ax, (by rw [ho]; unfold fB; congr 1; omega)⟩
theorem addT_c {a_z : Option Addr} {n_z k_z : Nat} {p_z : Fp} (z : List U64) {E : Option Addr} {J : Nat} (b : BlkT) (hs : HS (.of H (p_z.map Prod.fst)) F H [p_z] R) (hz : OS F (.slice a_z n_z k_z) z p_z) (an : SR F (.slice E b.ins.length J) b.ins) (ar : in64 b.fin) (av : in64 b.reg) (aw : in64 b.tgt) (ax : in64 b.els) (hT : TB 37 tabC F) (hb : (b.fin = 2 ∨ b.fin = 3) → 0 ≤ b.reg ∧ b.reg < 64 * (z.length : Int)) (hsl : z.length ≤ 100000) : kKt ex 114 [(.slice a_z n_z k_z), (.agg ⟨[(.slice E b.ins.length J), (iI b.fin), (iI b.reg), (iI b.tgt), (iI b.els)]⟩)] H fun v H' => ∃ (z' : List U64) (pm : Fp) (F' : Fz), Fz.le F F' ∧ HS (.of H (p_z.map Prod.fst)) F' H' [pm] R ∧ v = .tuple #[] ∧ OS F' (.slice a_z n_z k_z) z' pm ∧ (z'.length = z.length) ∧ (∀ i, aB z' i = (aB z i || decide ((i : Int) ∈ gN b))) := by
 have lnarg := OS.len' hz
 refine aH Tryd.func114 rfl rfl (ah 1 rfl (aa (aG (bG hs rfl rfl) rfl rfl ?_)))
 rintro _ H2 _ ⟨b1, rfl, (A : HS _ _ _ [p_z, [(b1, .cells [(.slice E b.ins.length J), (iI b.fin), (iI b.reg), (iI b.tgt), (iI b.els)] none false)]] _), _⟩
 refine ae 2 rfl (wR 1 [(1, .o (iI b.fin)), (5, .o (iI b.fin))] 4 11 [] [(11, (.bool ((b.fin == 2) || (b.fin == 3))))] (vA (ql 3 1 (HS.hc A (i := 1) rfl) rfl rfl) (vA (fun (g1 : (b.fin == 2) = false) => (ql 3 1 (HS.hc A (i := 1) rfl) rfl rfl)) trivial)) rfl fun _ => am 0 0 (v := ((b.fin == 2) || (b.fin == 3))) rfl rfl rfl rfl (fun N => ?_) (fun N => ?_))
 ·
  have Z := N
  try simp only [BS] at Z
  have a1 := hb (by omega)
  refine aa (wUo 3 0 [(2, .o (iI b.reg))] 12 14 [] [(12, (.slice a_z n_z k_z)), (14, (iI b.reg))] (ql 3 2 (HS.hc A (i := 1) rfl) rfl rfl) rfl fun _ => aA (aq rfl rfl rfl) rfl rfl (add_c ex z b.reg (HS.callOwn A (i := 0) rfl) hz (by omega) hT (by omega) (by omega)) ?_)
  rintro _ H6 ⟨ag, V, F6, ad, T, rfl, U, ay, a0⟩
  replace T : HS _ _ _ [V, _] _ := HS.backOwn A (i := 0) rfl rfl (fun _ hb => hb) T
  have a2 := OS.len' U
  refine ae 0 rfl (aT ⟨.inl rfl, _, rfl, ag, V, _, (ad), (HS.first T), rfl, U, (by assumption), (by exact end_ok (.inl ⟨by omega, by omega, by assumption⟩))⟩)
 have Z := N
 try simp only [BS] at Z
 refine aT ⟨.inl rfl, _, rfl, z, p_z, _, fR, (HS.first A), rfl, hz, (by rfl), (by exact end_ok (.inr ⟨by omega, rfl⟩))⟩
theorem jo {a_z : Option Addr} {n_z k_z : Nat} {p_z : Fp} (z : List U64) {A : Option Addr} {E : Nat} (iv : VInT) (hs : HS (.of H (p_z.map Prod.fst)) F H [p_z] R) (hz : OS F (.slice a_z n_z k_z) z p_z) (dk : in64 iv.i.op) (dl : in64 iv.i.a) (dn : in64 iv.i.b) (ds : in64 iv.i.c) (dt : in64 iv.i.n) (U : SR F (.slice A iv.args.length E) iv.args) (hT : TB 37 tabC F) (hr : ∀ x ∈ az iv, 0 ≤ x ∧ x < 64 * (z.length : Int)) (hw : ∀ x ∈ ab iv, 0 ≤ x ∧ x < 64 * (z.length : Int)) (hlen : iv.args.length ≤ 1048576) (hsl : z.length ≤ 100000) : kKt ex 118 [(.slice a_z n_z k_z), (.agg ⟨[(iI iv.i.op), (iI iv.i.a), (iI iv.i.b), (iI iv.i.c), (iI iv.i.n), (.slice A iv.args.length E)]⟩)] H fun v H' => ∃ (z' : List U64) (pm : Fp) (F' : Fz), Fz.le F F' ∧ HS (.of H (p_z.map Prod.fst)) F' H' [pm] R ∧ v = .tuple #[] ∧ OS F' (.slice a_z n_z k_z) z' pm ∧ (z'.length = z.length) ∧ (∀ i, aB z' i = ((aB z i && !decide ((i : Int) ∈ ab iv)) || decide ((i : Int) ∈ az iv))) := by
 have lnarg := OS.len' hz
 have hwl := dR (v := iv)
 have hrl := eh (v := iv)
 refine aH Tryd.func118 rfl rfl (ah 1 rfl (aa (aG (bG hs rfl rfl) rfl rfl ?_)))
 rintro _ H2 _ ⟨b1, rfl, (a8 : HS _ _ _ [p_z, [(b1, .cells [(iI iv.i.op), (iI iv.i.a), (iI iv.i.b), (iI iv.i.c), (iI iv.i.n), (.slice A iv.args.length E)] none false)]] _), _⟩
 let a2 : Value := (.agg ⟨[(iI iv.i.op), (iI iv.i.a), (iI iv.i.b), (iI iv.i.c), (iI iv.i.n), (.slice A iv.args.length E)]⟩)
 refine ae 3 rfl (aa (wUo 1 0 [(0, .o a2)] 8 8 [] [(8, a2)] (qn 52 0 6 (HS.hc a8 (i := 1) rfl) rfl rfl rfl rfl) rfl fun _ => aA (aq rfl rfl rfl) rfl rfl (ma.fM ex iv (HS.call a8) (by omega) (by omega) (by omega) (by omega) (by omega) U hT) ?_))
 rintro _ H4 ⟨c5, dd, r4, p4, F4, a1, a9, rfl, an, rfl⟩
 replace a9 : HS _ _ _ [_, _, p4] _ := HS.back a8 rfl a9
 replace hz := hz.mono a1
 let b2 : Fp := [(b1, .cells [(iI iv.i.op), (iI iv.i.a), (iI iv.i.b), (iI iv.i.c), (iI iv.i.n), (.slice A iv.args.length E)] none false)]
 refine wTo 2 2 [] 10 11 [] [(10, (iI ((ab iv).length : Int))), (11, (iI 0))] rfl fun _ => ae 2 rfl (aj (fun (mm : Nat) f H' => ∃ (w : List U64) (k : Nat) (T : Fp) (F' : Fz), Fz.le F4 F' ∧ HS (Base.of H (p_z.map Prod.fst)) F' H' [T, b2, p4] R ∧ OS F' (.slice a_z n_z k_z) w T ∧ aD f [(0, (.slice a_z n_z k_z)), (3, (.pointer (some ⟨b1, 0, none⟩))), (9, (.slice c5 (ab iv).length dd)), (10, (iI ((ab iv).length : Int))), (11, (iI (k : Int)))] ∧ mm = (ab iv).length - k ∧ (w.length = z.length) ∧ (∀ i, aB w i = (aB z i && !decide ((i : Int) ∈ (ab iv).take k))) ∧ (k ≤ (ab iv).length)) _ ⟨z, 0, p_z, _, fR, a9, hz, ⟨rfl, rfl, rfl, rfl, rfl, trivial⟩, rfl, (by rfl), (by intro i; simp), (by omega)⟩ ?_)
 rintro f2 f6 H6 ⟨w, k, T, F6, ar, ad, J, bl, rfl, g1, g2, g3⟩ c9
 refine ap _ bl (fun _ => ?_)
 clear bl
 replace hT := (hT.mono a1).mono ar
 replace U := (U.mono a1).mono ar
 replace an := an.mono ar
 have c3 := OS.len' J
 refine ah 1 rfl (wT 2 [] 12 12 [] [(12, (.bool (decide ((k : Int) < ((ab iv).length : Int)))))] rfl fun _ => am 4 5 (v := (decide ((k : Int) < ((ab iv).length : Int)))) rfl rfl rfl rfl (fun a4 => ?_) (fun a4 => ?_))
 ·
  have c8 := a4
  try simp only [BS] at c8
  have hlw := d3 hw (by omega : k < (ab iv).length)
  obtain ⟨fd, bz⟩ := Sv.view (OS.sv an ad (i := 2) rfl)
  have f0 := fI (bz k)
  refine wR 1 [(1, .o (iI ((ab iv).getD k 0)))] 13 14 [5] [(5, (iI ((ab iv).getD k 0)))] (vA (Sv.ix (j := (k : Int)) (OS.sv an ad (i := 2) rfl) (by omega) (by omega)) (vA (ql 3 0 (vI (bz k) (by omega)) rfl rfl) trivial)) rfl fun _ => aa (wTo 2 0 [] 15 16 [] [(15, (.slice a_z n_z k_z)), (16, (iI ((ab iv).getD k 0)))] rfl fun _ => aA (aq rfl rfl rfl) rfl rfl (rem_c ex w ((ab iv).getD k 0) (HS.callOwn ad (i := 0) rfl) J (by omega) hT (by omega) (by omega)) ?_)
  rintro _ e4 ⟨co, be, e1, b6, ax, rfl, a6, d2, em⟩
  replace ax : HS _ _ _ [be, _, _] _ := HS.backOwn ad (i := 0) rfl rfl (fun _ hb => hb) ax
  have et := OS.len' a6
  refine ae 2 rfl (wU 1 [] 11 11 [18] [(11, (iI ((k : Int) + 1)))] (vi (n := (k : Int) + 1) (by omega)) rfl fun _ => c9 _ _ _ ?_ ⟨co, k + 1, be, _, (fT (ar) b6), ax, a6, ⟨rfl, rfl, rfl, rfl, rfl, trivial⟩, rfl, (by omega), (by exact rem_step (by omega) g2 (d3 hw (by omega)).1 (by assumption)), (by omega)⟩)
  omega
 have c8 := a4
 try simp only [BS] at c8
 refine aa (wUo 1 0 [(0, .o a2)] 19 19 [] [(19, a2)] (qn 52 0 6 (HS.hc ad (i := 1) rfl) rfl rfl rfl rfl) rfl fun _ => aA (aq rfl rfl rfl) rfl rfl (ma.hO ex iv (HS.call ad) (by omega) (by omega) (by omega) (by omega) (by omega) U hT (by omega)) ?_)
 rintro _ e5 ⟨b3, cc, f3, b0, c4, aw, ay, rfl, V, rfl⟩
 replace ay : HS _ _ _ [T, _, _, b0] _ := HS.back ad rfl ay
 replace J := J.mono aw
 refine wTo 2 2 [] 21 22 [] [(21, (iI ((az iv).length : Int))), (22, (iI 0))] rfl fun _ => ae 2 rfl (aj (fun (mm : Nat) f H' => ∃ (u : List U64) (q : Nat) (N : Fp) (F' : Fz), Fz.le c4 F' ∧ HS (Base.of H (p_z.map Prod.fst)) F' H' [N, b2, p4, b0] R ∧ OS F' (.slice a_z n_z k_z) u N ∧ aD f [(0, (.slice a_z n_z k_z)), (20, (.slice b3 (az iv).length cc)), (21, (iI ((az iv).length : Int))), (22, (iI (q : Int)))] ∧ mm = (az iv).length - q ∧ (u.length = z.length) ∧ (∀ i, aB u i = (aB w i || decide ((i : Int) ∈ (az iv).take q))) ∧ (q ≤ (az iv).length)) _ ⟨w, 0, T, _, fR, ay, J, ⟨rfl, rfl, rfl, rfl, trivial⟩, rfl, (by omega), (by intro i; simp), (by omega)⟩ ?_)
 rintro e0 fi e6 ⟨u, q, N, e2, al, Z, ag, a5, rfl, g4, g5, g6⟩ b9
 refine ap _ a5 (fun _ => ?_)
 clear a5
 replace hT := (hT.mono aw).mono al
 replace V := V.mono al
 have ch := OS.len' ag
 refine ah 1 rfl (wT 2 [] 23 23 [] [(23, (.bool (decide ((q : Int) < ((az iv).length : Int)))))] rfl fun _ => am 4 3 (v := (decide ((q : Int) < ((az iv).length : Int)))) rfl rfl rfl rfl (fun av => ?_) (fun av => ?_))
 ·
  have a3 := av
  try simp only [BS] at a3
  have hlr := d3 hr (by omega : q < (az iv).length)
  obtain ⟨d1, bb⟩ := Sv.view (OS.sv V Z (i := 3) rfl)
  have f1 := fI (bb q)
  refine wR 1 [(1, .o (iI ((az iv).getD q 0)))] 24 25 [7] [(7, (iI ((az iv).getD q 0)))] (vA (Sv.ix (j := (q : Int)) (OS.sv V Z (i := 3) rfl) (by omega) (by omega)) (vA (ql 3 0 (vI (bb q) (by omega)) rfl rfl) trivial)) rfl fun _ => aa (wTo 2 0 [] 26 27 [] [(26, (.slice a_z n_z k_z)), (27, (iI ((az iv).getD q 0)))] rfl fun _ => aA (aq rfl rfl rfl) rfl rfl (add_c ex u ((az iv).getD q 0) (HS.callOwn Z (i := 0) rfl) ag (by omega) hT (by omega) (by omega)) ?_)
  rintro _ e9 ⟨c0, bk, e3, b7, a0, rfl, a7, ea, es⟩
  replace a0 : HS _ _ _ [bk, _, _, _] _ := HS.backOwn Z (i := 0) rfl rfl (fun _ hb => hb) a0
  have ez := OS.len' a7
  refine ae 2 rfl (wU 1 [] 22 22 [29] [(22, (iI ((q : Int) + 1)))] (vi (n := (q : Int) + 1) (by omega)) rfl fun _ => b9 _ _ _ ?_ ⟨c0, q + 1, bk, _, (fT (al) b7), a0, a7, ⟨rfl, rfl, rfl, rfl, trivial⟩, rfl, (by omega), (by exact add_step (by omega) g5 (d3 hr (by omega)).1 (by assumption)), (by omega)⟩)
  omega
 have a3 := av
 try simp only [BS] at a3
 refine aT ⟨.inl rfl, _, rfl, u, N, _, (fT (fT (fT (a1) ar) aw) al), (HS.first Z), rfl, ag, (by omega), (by exact tr_done (fun i => by rw [g2 i, a0f (by omega)]) (fun i => by rw [g5 i, a0f (by omega)]))⟩
end Go.Proofs.YtknafdcgpaejlaaDoor.mb
