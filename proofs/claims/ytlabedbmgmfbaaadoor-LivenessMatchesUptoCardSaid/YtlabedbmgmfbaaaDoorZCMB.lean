/-
 Live registers: the program, function by function, each by a symbolic run. No condition but that the function is valid.
-/
import Derived.Test.YtlabedbmgmfbaaaDoorZCML
noncomputable section
namespace Go.Proofs.YtlabedbmgmfbaaaDoor.mb
open Go.R
set_option maxRecDepth 10000
set_option linter.unusedVariables false
open m1 m2 m3 m4 m5 m6 ma ml
theorem lst_step1 {s : List U64} {o : List Int} {k b : Nat} (ho : o = jV s (64 * k + b)) (h : aq s (64 * k + b) = true) : o ++ ([64 * (k : Int) + (b : Int)] : List Int) = jV s (64 * k + (b + 1)) := by
 rw [show 64 * k + (b + 1) = (64 * k + b) + 1 by omega, jk, if_pos h, ← ho]; simp
theorem lst_step0 {s : List U64} {o : List Int} {k b : Nat} (ho : o = jV s (64 * k + b)) (h : ¬ aq s (64 * k + b) = true) : o = jV s (64 * k + (b + 1)) := by
 rw [show 64 * k + (b + 1) = (64 * k + b) + 1 by omega, jk, if_neg h, ← ho]; simp
theorem end_ok {s s' : List U64} {b : BlkT} (h : ((b.fin = 2 ∨ b.fin = 3) ∧ 0 ≤ b.reg ∧ ∀ i, aq s' i = (aq s i || decide (i = b.reg.toNat))) ∨ (¬ (b.fin = 2 ∨ b.fin = 3) ∧ s' = s)) (i : Nat) : aq s' i = (aq s i || decide ((i : Int) ∈ kQ b)) := by
 unfold kQ
 rcases h with ⟨z, E, A⟩ | ⟨z, rfl⟩
 ·
  rw [if_pos z, A]; congr 1; rw [decide_eq_decide, List.mem_singleton]; omega
 ·
  rw [if_neg z]; simp
theorem rem_step {s w w' : List U64} {l : List Int} {k : Nat} (hk : k < l.length) (h : ∀ i, aq w i = (aq s i && !decide ((i : Int) ∈ l.take k))) (h0 : 0 ≤ l.getD k 0) (E : ∀ i, aq w' i = (aq w i && !decide (i = (l.getD k 0).toNat))) (i : Nat) : aq w' i = (aq s i && !decide ((i : Int) ∈ l.take (k + 1))) := by
 rw [E, h, dV hk (d := 0), Bool.and_assoc]
 congr 1
 rw [Bool.eq_iff_iff]
 simp only [Bool.and_eq_true, Bool.not_eq_true', decide_eq_false_iff_not, List.mem_append, List.mem_singleton]
 constructor
 ·
  rintro ⟨A, J⟩ (z | z)
  ·
   exact A z
  ·
   omega
 ·
  intro A; exact ⟨fun z => A (.inl z), fun z => A (.inr (by omega))⟩
theorem add_step {s w w' : List U64} {l : List Int} {k : Nat} (hk : k < l.length) (h : ∀ i, aq w i = (aq s i || decide ((i : Int) ∈ l.take k))) (h0 : 0 ≤ l.getD k 0) (A : ∀ i, aq w' i = (aq w i || decide (i = (l.getD k 0).toNat))) (i : Nat) : aq w' i = (aq s i || decide ((i : Int) ∈ l.take (k + 1))) := by
 rw [A, h, dV hk (d := 0), Bool.or_assoc]
 congr 1
 rw [Bool.eq_iff_iff]
 simp only [Bool.or_eq_true, decide_eq_true_eq, List.mem_append, List.mem_singleton]
 constructor
 ·
  rintro (z | z)
  ·
   exact .inl z
  ·
   exact .inr (by omega)
 ·
  rintro (z | z)
  ·
   exact .inl z
  ·
   exact .inr (by omega)
theorem lim_at {l : List Int} {m : Int} (h : ∀ x ∈ l, 0 ≤ x ∧ x < m) {k : Nat} (hk : k < l.length) : 0 ≤ l.getD k 0 ∧ l.getD k 0 < m := by
 rw [List.getD_eq_getElem?_getD, List.getElem?_eq_getElem hk]; exact h _ (List.getElem_mem hk)
theorem jN {v : VInT} : (aN v).length ≤ 1 := by unfold aN; split <;> simp
theorem gj {v : VInT} : (aW v).length ≤ 3 + v.args.length := by
 unfold aW
 split
 ·
  refine Nat.le_trans ed ?_
  unfold i7
  simp only [List.length_append, List.length_nil]
  have z := dX (a := v.i.a) (p := (aH v.i.op).ra = true)
  have A := dX (a := v.i.b) (p := (aH v.i.op).rb = true)
  have E := dX (a := v.i.c) (p := v.i.op = 11 ∨ v.i.op = 12)
  have J : (if v.i.op = 6 then v.args else []).length ≤ v.args.length := by split <;> first | exact Nat.le_refl _ | exact Nat.zero_le _
  omega
 ·
  exact Nat.zero_le _
theorem tr_done {s w v' : List U64} {iv : VInT} (z : ∀ i, aq w i = (aq s i && !decide ((i : Int) ∈ aN iv))) (A : ∀ i, aq v' i = (aq w i || decide ((i : Int) ∈ aW iv))) (i : Nat) : aq v' i = ((aq s i && !decide ((i : Int) ∈ aN iv)) || decide ((i : Int) ∈ aW iv)) := by rw [A, z]
theorem empty_c (ex : FuncId) (n : Int) {F : Fz} {H : Heap} {R : List Fp} (hs : HS (.of H []) F H [] R) (hn : in64 n) (hT : TB 37 tabC F) (hn : 0 ≤ n ∧ n ≤ 1000000) : C Tryd.prog 1 (KT 60 ex 37 tabC) 55 [(iI n)] H fun v H' => ∃ (ar : Option Addr) (kr : Nat) (r : List U64) (p : Fp) (F' : Fz), Fz.le F F' ∧ HS (.of H []) F' H' [p] R ∧ v = .slice ar r.length kr ∧ OS F' (.slice ar r.length kr) r p ∧ r = List.replicate (Int.tdiv (n + 63) 64).toNat (⟨0⟩ : U64) := by
 have hq : Int.tdiv (n + 63) 64 = (n + 63) / 64 := Int.tdiv_eq_ediv_of_nonneg (by omega)
 refine aG Tryd.func55 rfl rfl ?_
 refine aj 1 rfl ?_
 refine wR 2 [] 2 2 [] [(2, (.slice none 0 0))] trivial rfl fun _ => ?_
 refine aa ?_
 have T : in64 (n + 63) → in64 (Int.tdiv (n + 63) 64) := fun h => vq h (by decide)
 refine wRo 3 0 [] 3 5 [] [(5, (iI (Int.tdiv (n + 63) 64)))] (vA (vi (n := n + 63) (by omega)) (vA (vA (show (64 : Int) ≠ 0 from by decide) (vq (a := n + 63) (b := 64) (by omega) (by decide))) trivial)) rfl fun _ => ?_
 refine aF (fG (⟨0⟩ : U64) hs rfl rfl rfl rfl rfl rfl rfl rfl rfl ⟨rfl, by decide⟩ (by omega) (by omega)) rfl rfl ?_
 rintro _ U N ⟨A, J, rfl, E, z, _⟩
 have z : HS _ _ _ [N] _ := z
 refine wa (.slice A (List.replicate (Int.tdiv (n + 63) 64).toNat (⟨0⟩ : U64)).length J) rfl rfl rfl ?_
 refine ae 1 rfl ?_
 refine ag ⟨.inr rfl, _, rfl, A, J, List.replicate (Int.tdiv (n + 63) 64).toNat (⟨0⟩ : U64), N, _, fR, (HS.only z (i := 0) rfl), rfl, E, (by first | rfl | omega | simp_all)⟩
theorem add_c (ex : FuncId) {a_z : Option Addr} {n_z k_z : Nat} {p_z : Fp} (z : List U64) (n : Int) {F : Fz} {H : Heap} {R : List Fp} (hs : HS (.of H (p_z.map Prod.fst)) F H [p_z] R) (hz : OS F (.slice a_z n_z k_z) z p_z) (hn : in64 n) (hT : TB 37 tabC F) (hn : 0 ≤ n ∧ n < 64 * (z.length : Int)) (hsl : z.length ≤ 100000) : C Tryd.prog 1 (KT 60 ex 37 tabC) 58 [(.slice a_z n_z k_z), (iI n)] H fun v H' => ∃ (z' : List U64) (pm : Fp) (F' : Fz), Fz.le F F' ∧ HS (.of H (p_z.map Prod.fst)) F' H' [pm] R ∧ v = .tuple #[] ∧ OS F' (.slice a_z n_z k_z) z' pm ∧ (z'.length = z.length) ∧ (∀ i, aq z' i = (aq z i || decide (i = n.toNat))) := by
 have lnarg := OS.len' hz
 have hq := n64 hn
 refine aG Tryd.func58 rfl rfl ?_
 refine aa ?_
 have V : in64 n → in64 (Int.tdiv n 64) := fun h => vq h (by decide)
 obtain ⟨U, J⟩ := Sv.view (OS.sv hz hs (i := 0) rfl)
 have Z := fU (J (Int.tdiv n 64).toNat)
 refine wRo 11 0 [(4, .o (.int .u64 (z.getD (Int.tdiv n 64).toNat default).n))] 4 14 [] [(13, (.int .u64 (bd .or .u64 (z.getD (Int.tdiv n 64).toNat default).n (IntKind.u64.wrap (1 * 2 ^ (Nat.min (Int.tmod n 64).toNat 64)))))), (14, (.pointer (some ⟨sB (.slice a_z n_z k_z), sO (.slice a_z n_z k_z) + (Int.tdiv n 64).toNat * Rp.sz U64, none⟩)))] (vA (vA (show (64 : Int) ≠ 0 from by decide) (vq (a := n) (b := 64) (by first | omega | (dsimp only; exact aL _ _ _)) (by decide))) (vA (Sv.ix (j := Int.tdiv n 64) (OS.sv hz hs (i := 0) rfl) (by first | omega | (dsimp only; exact aL _ _ _)) (by first | omega | (dsimp only; exact aL _ _ _))) (vA (ql 117 0 (vU (J (Int.tdiv n 64).toNat) (by first | omega | (dsimp only; exact aL _ _ _))) rfl rfl) (vA (show (64 : Int) ≠ 0 from by decide) (vA (vu (n := Int.tmod n 64) (by first | omega | (dsimp only; exact aL _ _ _))) (vA (show (0 : Int) ≤ Int.tmod n 64 from by first | omega | (dsimp only; exact aL _ _ _)) (vA (Sv.ix (j := Int.tdiv n 64) (OS.sv hz hs (i := 0) rfl) (by first | omega | (dsimp only; exact aL _ _ _)) (by first | omega | (dsimp only; exact aL _ _ _))) trivial))))))) rfl fun _ => ?_
 refine aM (du (α := U64) (j := (Int.tdiv n 64).toNat) (off := 0) (q := 0) ⟨bd .or .u64 (z.getD (Int.tdiv n 64).toNat default).n (IntKind.u64.wrap (1 * 2 ^ (Nat.min (Int.tmod n 64).toNat 64)))⟩ hz hs rfl rfl rfl rfl rfl rfl rfl rfl (aS (x := default) (by first | omega | (dsimp only; exact aL _ _ _))) rfl (by rintro cs ⟨rfl, _⟩; exact ⟨Nat.le_of_ble_eq_true rfl, rfl, by first | omega | (dsimp only; exact aL _ _ _)⟩)) rfl ?_
 rintro _ Y N ⟨E, A, _⟩
 have A : HS _ _ _ [N] _ := A
 have T := OS.len' E
 refine ae 0 rfl ?_
 refine bO ⟨.inl rfl, _, rfl, z.set (Int.tdiv n 64).toNat ⟨bd .or .u64 (z.getD (Int.tdiv n 64).toNat default).n (IntKind.u64.wrap (1 * 2 ^ (Nat.min (Int.tmod n 64).toNat 64)))⟩, N, _, fR, (HS.first A), rfl, E, (by exact List.length_set), (by exact fun i => add_ok hn (by assumption) i)⟩
theorem rem_c (ex : FuncId) {a_z : Option Addr} {n_z k_z : Nat} {p_z : Fp} (z : List U64) (n : Int) {F : Fz} {H : Heap} {R : List Fp} (hs : HS (.of H (p_z.map Prod.fst)) F H [p_z] R) (hz : OS F (.slice a_z n_z k_z) z p_z) (hn : in64 n) (hT : TB 37 tabC F) (hn : 0 ≤ n ∧ n < 64 * (z.length : Int)) (hsl : z.length ≤ 100000) : C Tryd.prog 1 (KT 60 ex 37 tabC) 57 [(.slice a_z n_z k_z), (iI n)] H fun v H' => ∃ (z' : List U64) (pm : Fp) (F' : Fz), Fz.le F F' ∧ HS (.of H (p_z.map Prod.fst)) F' H' [pm] R ∧ v = .tuple #[] ∧ OS F' (.slice a_z n_z k_z) z' pm ∧ (z'.length = z.length) ∧ (∀ i, aq z' i = (aq z i && !decide (i = n.toNat))) := by
 have lnarg := OS.len' hz
 have hq := n64 hn
 refine aG Tryd.func57 rfl rfl ?_
 refine aa ?_
 have V : in64 n → in64 (Int.tdiv n 64) := fun h => vq h (by decide)
 obtain ⟨U, J⟩ := Sv.view (OS.sv hz hs (i := 0) rfl)
 have Z := fU (J (Int.tdiv n 64).toNat)
 refine wRo 11 0 [(4, .o (.int .u64 (z.getD (Int.tdiv n 64).toNat default).n))] 4 14 [] [(13, (.int .u64 (bd .andNot .u64 (z.getD (Int.tdiv n 64).toNat default).n (IntKind.u64.wrap (1 * 2 ^ (Nat.min (Int.tmod n 64).toNat 64)))))), (14, (.pointer (some ⟨sB (.slice a_z n_z k_z), sO (.slice a_z n_z k_z) + (Int.tdiv n 64).toNat * Rp.sz U64, none⟩)))] (vA (vA (show (64 : Int) ≠ 0 from by decide) (vq (a := n) (b := 64) (by first | omega | (dsimp only; exact aL _ _ _)) (by decide))) (vA (Sv.ix (j := Int.tdiv n 64) (OS.sv hz hs (i := 0) rfl) (by first | omega | (dsimp only; exact aL _ _ _)) (by first | omega | (dsimp only; exact aL _ _ _))) (vA (ql 117 0 (vU (J (Int.tdiv n 64).toNat) (by first | omega | (dsimp only; exact aL _ _ _))) rfl rfl) (vA (show (64 : Int) ≠ 0 from by decide) (vA (vu (n := Int.tmod n 64) (by first | omega | (dsimp only; exact aL _ _ _))) (vA (show (0 : Int) ≤ Int.tmod n 64 from by first | omega | (dsimp only; exact aL _ _ _)) (vA (Sv.ix (j := Int.tdiv n 64) (OS.sv hz hs (i := 0) rfl) (by first | omega | (dsimp only; exact aL _ _ _)) (by first | omega | (dsimp only; exact aL _ _ _))) trivial))))))) rfl fun _ => ?_
 refine aM (du (α := U64) (j := (Int.tdiv n 64).toNat) (off := 0) (q := 0) ⟨bd .andNot .u64 (z.getD (Int.tdiv n 64).toNat default).n (IntKind.u64.wrap (1 * 2 ^ (Nat.min (Int.tmod n 64).toNat 64)))⟩ hz hs rfl rfl rfl rfl rfl rfl rfl rfl (aS (x := default) (by first | omega | (dsimp only; exact aL _ _ _))) rfl (by rintro cs ⟨rfl, _⟩; exact ⟨Nat.le_of_ble_eq_true rfl, rfl, by first | omega | (dsimp only; exact aL _ _ _)⟩)) rfl ?_
 rintro _ Y N ⟨E, A, _⟩
 have A : HS _ _ _ [N] _ := A
 have T := OS.len' E
 refine ae 0 rfl ?_
 refine bO ⟨.inl rfl, _, rfl, z.set (Int.tdiv n 64).toNat ⟨bd .andNot .u64 (z.getD (Int.tdiv n 64).toNat default).n (IntKind.u64.wrap (1 * 2 ^ (Nat.min (Int.tmod n 64).toNat 64)))⟩, N, _, fR, (HS.first A), rfl, E, (by exact List.length_set), (by exact fun i => rem_ok hn (by assumption) i)⟩
theorem ev (ex : FuncId) {a_z : Option Addr} {n_z k_z : Nat} {p_z : Fp} (z : List U64) {a_t : Option Addr} {n_t k_t : Nat} (t : List U64) {F : Fz} {H : Heap} {R : List Fp} (hs : HS (.of H (p_z.map Prod.fst)) F H [p_z] R) (hz : OS F (.slice a_z n_z k_z) z p_z) (ht : SR F (.slice a_t n_t k_t) t) (hT : TB 37 tabC F) (hl : t.length = z.length) (hsl : z.length ≤ 100000) : C Tryd.prog 1 (KT 60 ex 37 tabC) 59 [(.slice a_z n_z k_z), (.slice a_t n_t k_t)] H fun v H' => ∃ (r : Bool) (z' : List U64) (pm : Fp) (F' : Fz), Fz.le F F' ∧ HS (.of H (p_z.map Prod.fst)) F' H' [pm] R ∧ v = .bool r ∧ OS F' (.slice a_z n_z k_z) z' pm ∧ (z'.length = z.length) ∧ (∀ i, aq z' i = (aq z i || aq t i)) ∧ (r = false → z' = z) ∧ (r = true → ∃ i, aq t i = true ∧ aq z i = false) := by
 have ln_t := SR.len' ht
 have lnarg := OS.len' hz
 refine aG Tryd.func59 rfl rfl ?_
 refine aj 1 rfl ?_
 refine wR 2 [] 4 4 [] [(4, (.bool false))] trivial rfl fun _ => ?_
 refine wR 3 [] 1 0 [5] [(5, (.bool false))] trivial rfl fun _ => ?_
 refine wR 2 [] 7 9 [] [(8, (iI (n_z : Int))), (9, (iI 0))] trivial rfl fun _ => ?_
 refine ap (fun (mm : Nat) f H' => ∃ (w : List U64) (k : Nat) (m : Bool) (J : Fp) (F' : Fz), Fz.le F F' ∧ HS (Base.of H (p_z.map Prod.fst)) F' H' [J] R ∧ OS F' (.slice a_z n_z k_z) w J ∧ aI f [(0, (.slice a_z n_z k_z)), (1, (.slice a_t n_t k_t)), (4, (.bool false)), (5, (.bool m)), (8, (iI (n_z : Int))), (9, (iI (k : Int)))] ∧ mm = z.length - k ∧ (uniB z t k w) ∧ (k ≤ z.length) ∧ (m = false → w = z) ∧ (m = true → ∃ i, aq t i = true ∧ aq z i = false)) _ ⟨z, 0, false, p_z, _, fR, hs, hz, (agC rfl (agC rfl (agC rfl (agC rfl (agC rfl (agC rfl agN)))))), rfl, (by exact uniB_zero), (by first | assumption | omega | (simp at *; omega)), (by exact fun _ => rfl), (by intro h; cases h)⟩ ?_
 rintro b3 f4 H4 ⟨w, k, m, J, F4, U, E, A, al, rfl, hu, hk, a6, a7⟩ ar
 refine au _ al (fun _ => ?_)
 clear al
 replace ht := ht.mono U
 have a2 := OS.len' A
 have hwl := hu.1
 refine aj 1 rfl ?_
 refine wR 2 [] 10 10 [] [(10, (.bool (decide ((k : Int) < (n_z : Int)))))] trivial rfl fun _ => ?_
 refine ak 4 5 (v := (decide ((k : Int) < (n_z : Int)))) rfl rfl rfl rfl (fun c6 => ?_) (fun c6 => ?_)
 ·
  try simp only [BS] at c6
  refine wR 2 [] 11 11 [6] [(6, (iI (k : Int)))] trivial rfl fun _ => ?_
  obtain ⟨b1, an⟩ := Sv.view (SR.sv ht E)
  have g9 := fU (an k)
  obtain ⟨bl, Y⟩ := Sv.view (OS.sv A E (i := 0) rfl)
  have b2 := fU (Y k)
  refine wRD 1 [(3, .o (.int .u64 (t.getD k default).n)), (7, .o (.int .u64 (w.getD k default).n))] 12 21 [] [(21, (.bool (bd .andNot .u64 (t.getD k default).n (w.getD k default).n != 0)))] (vA (Sv.ix (j := (k : Int)) (SR.sv ht E) (by first | omega | (dsimp only; exact aL _ _ _)) (by first | omega | (dsimp only; exact aL _ _ _))) (vA (ql 117 0 (hc0 (vU (an k) (by first | omega | (dsimp only; exact aL _ _ _)))) rfl rfl) (vA (Sv.ix (j := (k : Int)) (OS.sv A E (i := 0) rfl) (by first | omega | (dsimp only; exact aL _ _ _)) (by first | omega | (dsimp only; exact aL _ _ _))) (vA (ql 117 0 (hc0 (vU (Y k) (by first | omega | (dsimp only; exact aL _ _ _)))) rfl rfl) trivial)))) rfl rfl fun _ => ?_
  refine ak 1 2 (v := (bd .andNot .u64 (t.getD k default).n (w.getD k default).n != 0)) rfl rfl rfl rfl (fun V => ?_) (fun V => ?_)
  ·
   try simp only [BS] at V
   refine wR 1 [] 1 0 [5] [(5, (.bool true))] trivial rfl fun _ => ?_
   refine bc rfl ?_
   refine fm (.slice a_z n_z k_z) rfl rfl rfl ?_
   refine fm (iI (k : Int)) rfl rfl rfl ?_
   refine am (v := (.pointer (some ⟨sB (.slice a_z n_z k_z), sO (.slice a_z n_z k_z) + k * Rp.sz U64, none⟩))) (id := .v) (bU (α := U64) (j := (k : Int)) rfl rfl rfl rfl (OS.sv A E.log0 (i := 0) rfl) (by first | omega | (dsimp only; exact aL _ _ _)) (by first | omega | (dsimp only; exact aL _ _ _))) rfl rfl (br rfl) (be _) ?_
   obtain ⟨bz, ay, aw⟩ := Sv.at (OS.sv A E.log0 (i := 0) rfl) (aS (x := default) (show k < w.length from by first | omega | (dsimp only; exact aL _ _ _)))
   obtain ⟨rfl, a8, a4⟩ := ay
   refine am (v := (.int .u64 (w.getD k default).n)) (id := .l (sB (.slice a_z n_z k_z))) (bN (i := 0) rfl rfl aw rfl rfl) rfl rfl (bT rfl) (⟨.inl rfl, ⟨.inl rfl, ⟨.inl rfl, trivial⟩⟩⟩) ?_
   refine fm (.slice a_t n_t k_t) rfl rfl rfl ?_
   refine fm (iI (k : Int)) rfl rfl rfl ?_
   refine am (v := (.pointer (some ⟨sB (.slice a_t n_t k_t), sO (.slice a_t n_t k_t) + k * Rp.sz U64, none⟩))) (id := .v) (bU (α := U64) (j := (k : Int)) rfl rfl rfl rfl (SR.sv ht E.log0) (by first | omega | (dsimp only; exact aL _ _ _)) (by first | omega | (dsimp only; exact aL _ _ _))) rfl rfl (br rfl) (be _) ?_
   obtain ⟨b0, a0, ax⟩ := Sv.at (SR.sv ht E.log0) (aS (x := default) (show k < t.length from by first | omega | (dsimp only; exact aL _ _ _)))
   obtain ⟨rfl, a9, a5⟩ := a0
   refine am (v := (.int .u64 (t.getD k default).n)) (id := .l (sB (.slice a_t n_t k_t))) (bN (i := 0) rfl rfl ax rfl rfl) rfl rfl (bT rfl) (⟨.inl rfl, ⟨.inl rfl, ⟨.inl rfl, ⟨.inr trivial, ⟨.inr trivial, ⟨.inr trivial, ⟨.inr trivial, trivial⟩⟩⟩⟩⟩⟩⟩) ?_
   refine am (v := (.int .u64 (bd .or .u64 (w.getD k default).n (t.getD k default).n))) (id := .v) (jA rfl rfl rfl) rfl rfl (br rfl) (be _) ?_
   refine am (v := (.pointer (some ⟨sB (.slice a_z n_z k_z), sO (.slice a_z n_z k_z) + k * Rp.sz U64, none⟩))) (id := .v) (bU (α := U64) (j := (k : Int)) rfl rfl rfl rfl (OS.sv A E.log0 (i := 0) rfl) (by first | omega | (dsimp only; exact aL _ _ _)) (by first | omega | (dsimp only; exact aL _ _ _))) rfl rfl (br rfl) (be _) ?_
   refine ku (id := .x (J.map Prod.fst)) (du (α := U64) (j := k) (off := 0) (q := 0) ⟨bd .or .u64 (w.getD k default).n (t.getD k default).n⟩ A E.log0 rfl rfl rfl rfl rfl rfl rfl rfl (aS (x := default) (by first | omega | (dsimp only; exact aL _ _ _))) rfl (by rintro cs ⟨rfl, _⟩; exact ⟨Nat.le_of_ble_eq_true rfl, rfl, by first | omega | (dsimp only; exact aL _ _ _)⟩)) rfl (by rintro _ _ Z ⟨T, _, hwr⟩; exact dP rfl rfl (Wr.did hwr)) (⟨.inl rfl, ⟨.inl rfl, ⟨.inl rfl, ⟨.inl rfl, ⟨.inl rfl, ⟨.inl rfl, ⟨.inl rfl, ⟨.inl rfl, ⟨.inl rfl, ⟨.inl rfl, trivial⟩⟩⟩⟩⟩⟩⟩⟩⟩⟩) ?_
   rintro _ a3 Z ⟨T, N, _⟩ a1 ad
   replace N := HS.lg N E ad
   generalize ({ a3 with log := a1 } : Heap) = bk at N ⊢
   have N : HS _ _ _ [Z] _ := N
   have bb := OS.len' T
   refine cz ?_
   refine aj 2 rfl ?_
   refine wR 1 [] 9 9 [32] [(9, (iI ((k : Int) + 1)))] (vA (vi (n := (k : Int) + 1) (by first | omega | (dsimp only; exact aL _ _ _))) trivial) rfl fun _ => ?_
   refine ar _ _ _ ?_ ⟨w.set k ⟨bd .or .u64 (w.getD k default).n (t.getD k default).n⟩, k + 1, true, Z, _, (U), N, T, (agC rfl (agC rfl (agC rfl (agC rfl (agC rfl (agC rfl agN)))))), rfl, (by first | exact uniB_or hu (by omega) (by assumption) (by assumption) | exact uniB_same hu (by assumption) (by assumption) (by assumption)), (by first | assumption | omega | (simp at *; omega)), (by first | assumption | (intro h; cases h; done)), (by first | assumption | (intro _; exact uniB_new hu (by assumption) (by assumption) (by assumption)))⟩
   omega
  ·
   try simp only [BS] at V
   refine wR 1 [] 9 9 [32] [(9, (iI ((k : Int) + 1)))] (vA (vi (n := (k : Int) + 1) (by first | omega | (dsimp only; exact aL _ _ _))) trivial) rfl fun _ => ?_
   refine ar _ _ _ ?_ ⟨w, k + 1, m, J, _, (U), E, A, (agC rfl (agC rfl (agC rfl (agC rfl (agC rfl (agC rfl agN)))))), rfl, (by first | exact uniB_or hu (by omega) (by assumption) (by assumption) | exact uniB_same hu (by assumption) (by assumption) (by assumption)), (by first | assumption | omega | (simp at *; omega)), (by first | assumption | (intro h; cases h; done)), (by first | assumption | (intro _; exact uniB_new hu (by assumption) (by assumption) (by assumption)))⟩
   omega
 ·
  try simp only [BS] at c6
  refine wR 1 [] 4 4 [33] [(4, (.bool m))] trivial rfl fun _ => ?_
  refine ag ⟨.inr rfl, _, rfl, m, w, J, _, (U), (HS.first E), rfl, A, (by exact hu.1), (by exact uniB_all hu (by omega) hl), (by exact a6), (by exact a7)⟩
theorem list_c (ex : FuncId) {a_z : Option Addr} {n_z k_z : Nat} (z : List U64) {F : Fz} {H : Heap} {R : List Fp} (hs : HS (.of H []) F H [] R) (hz : SR F (.slice a_z n_z k_z) z) (hT : TB 37 tabC F) (hsl : z.length ≤ 100000) : C Tryd.prog 1 (KT 60 ex 37 tabC) 52 [(.slice a_z n_z k_z)] H fun v H' => ∃ (ar : Option Addr) (kr : Nat) (r : List Int) (p : Fp) (F' : Fz), Fz.le F F' ∧ HS (.of H []) F' H' [p] R ∧ v = .slice ar r.length kr ∧ OS F' (.slice ar r.length kr) r p ∧ r = eO z := by
 have ln_z := SR.len' hz
 refine aG Tryd.func52 rfl rfl ?_
 refine aj 1 rfl ?_
 refine wR 2 [] 2 2 [] [(2, (.slice none 0 0))] trivial rfl fun _ => ?_
 refine wR 3 [] 1 0 [3] [(3, (.slice none 0 0))] trivial rfl fun _ => ?_
 refine wR 2 [] 6 8 [] [(7, (iI (n_z : Int))), (8, (iI 0))] trivial rfl fun _ => ?_
 have a2 := HS.snoc hs
 have a2 : HS _ _ _ [[]] _ := a2
 refine ap (fun (mm : Nat) f H' => ∃ (o : List Int) (k : Nat) (N : Option Addr) (T : Nat) (V : Fp) (F' : Fz), Fz.le F F' ∧ HS (Base.of H []) F' H' [V] R ∧ OS F' (.slice N o.length T) o V ∧ aI f [(0, (.slice a_z n_z k_z)), (2, (.slice none 0 0)), (3, (.slice N o.length T)), (7, (iI (n_z : Int))), (8, (iI (k : Int)))] ∧ mm = z.length - k ∧ (o = jV z (64 * k)) ∧ (k ≤ z.length)) _ ⟨([] : List Int), 0, none, 0, [], _, fR, a2, (OS.nil : OS F (.slice none 0 0) ([] : List Int) []), (agC rfl (agC rfl (agC rfl (agC rfl (agC rfl agN))))), rfl, (by rfl), (by first | assumption | omega | (simp at *; omega))⟩ ?_
 rintro c4 f4 H4 ⟨o, k, N, T, V, F4, a0, a8, ax, a7, rfl, ho, hk⟩ b0
 refine au _ a7 (fun _ => ?_)
 clear a7
 replace hz := hz.mono a0
 refine aj 1 rfl ?_
 refine wR 2 [] 9 9 [] [(9, (.bool (decide ((k : Int) < (n_z : Int)))))] trivial rfl fun _ => ?_
 refine ak 4 5 (v := (decide ((k : Int) < (n_z : Int)))) rfl rfl rfl rfl (fun c7 => ?_) (fun c7 => ?_)
 ·
  try simp only [BS] at c7
  refine wR 2 [] 10 10 [4] [(4, (iI (k : Int)))] trivial rfl fun _ => ?_
  refine wR 2 [] 1 0 [5] [(5, (iI 0))] trivial rfl fun _ => ?_
  refine ap (fun (mm : Nat) f H' => ∃ (Z : List Int) (b : Nat) (A : Option Addr) (E : Nat) (J : Fp) (F' : Fz), Fz.le F4 F' ∧ HS (Base.of H []) F' H' [J] R ∧ OS F' (.slice A Z.length E) Z J ∧ aI f [(0, (.slice a_z n_z k_z)), (2, (.slice none 0 0)), (3, (.slice A Z.length E)), (4, (iI (k : Int))), (5, (iI (b : Int))), (7, (iI (n_z : Int))), (8, (iI (k : Int))), (9, (.bool (decide ((k : Int) < (n_z : Int)))))] ∧ mm = 64 - b ∧ (Z = jV z (64 * k + b)) ∧ (b ≤ 64)) _ ⟨o, 0, N, T, V, _, fR, a8, ax, (agC rfl (agC rfl (agC rfl (agC rfl (agC rfl (agC rfl (agC rfl (agC rfl agN)))))))), rfl, (by exact ho), (by first | assumption | omega | (simp at *; omega))⟩ ?_
  rintro b6 cl b9 ⟨Z, b, A, E, J, b7, al, U, Y, a1, rfl, ad, hb⟩ a5
  refine au _ a1 (fun _ => ?_)
  clear a1
  replace hz := hz.mono al
  have hol : Z.length ≤ 64 * k + b := by rw [ad]; exact lstK_len
  refine aj 2 rfl ?_
  obtain ⟨b3, a3⟩ := Sv.view (SR.sv hz U)
  have co := fU (a3 k)
  refine wR 1 [(3, .o (.int .u64 (z.getD k default).n))] 11 18 [] [(18, (.bool (Int.fdiv (z.getD k default).n (2 ^ (Nat.min b 64)) != 0)))] (vA (Sv.ix (j := (k : Int)) (SR.sv hz U) (by first | omega | exact cg (by assumption) (by omega)) (by first | omega | exact cg (by assumption) (by omega))) (vA (ql 117 0 (vU (a3 k) (by first | omega | exact cg (by assumption) (by omega))) rfl rfl) (vA (vu (n := (b : Int)) (by first | omega | exact cg (by assumption) (by omega))) (vA (show (0 : Int) ≤ (b : Int) from by first | omega | exact cg (by assumption) (by omega)) trivial)))) rfl fun _ => ?_
  refine ak 4 5 (v := (Int.fdiv (z.getD k default).n (2 ^ (Nat.min b 64)) != 0)) rfl rfl rfl rfl (fun aw => ?_) (fun aw => ?_)
  ·
   try simp only [BS] at aw
   have b5 := list_lt (by assumption) hb aw
   obtain ⟨b4, a4⟩ := Sv.view (SR.sv hz U)
   have c0 := fU (a4 k)
   refine wR 1 [(3, .o (.int .u64 (z.getD k default).n))] 21 29 [] [(29, (.bool (bd .and .u64 (Int.fdiv (z.getD k default).n (2 ^ (Nat.min b 64))) 1 == 1)))] (vA (Sv.ix (j := (k : Int)) (SR.sv hz U) (by first | omega | exact cg (by assumption) (by omega)) (by first | omega | exact cg (by assumption) (by omega))) (vA (ql 117 0 (vU (a4 k) (by first | omega | exact cg (by assumption) (by omega))) rfl rfl) (vA (vu (n := (b : Int)) (by first | omega | exact cg (by assumption) (by omega))) (vA (show (0 : Int) ≤ (b : Int) from by first | omega | exact cg (by assumption) (by omega)) trivial)))) rfl fun _ => ?_
   refine ak 0 2 (v := (bd .and .u64 (Int.fdiv (z.getD k default).n (2 ^ (Nat.min b 64))) 1 == 1)) rfl rfl rfl rfl (fun ay => ?_) (fun ay => ?_)
   ·
    try simp only [BS] at ay
    refine aa ?_
    refine wRo 5 0 [] 30 34 [] [(30, (.slice A Z.length E)), (34, (iI ((64 * (k : Int)) + (b : Int))))] (vA (vi (n := 64 * (k : Int)) (by first | omega | exact cg (by assumption) (by omega))) (vA (vi (n := (64 * (k : Int)) + (b : Int)) (by first | omega | exact cg (by assumption) (by omega))) trivial)) rfl fun _ => ?_
    refine aF (bA (α := Int) (ps := [(0, (iI ((64 * (k : Int)) + (b : Int))))]) (cells := [(iI ((64 * (k : Int)) + (b : Int)))]) ([(64 * (k : Int)) + (b : Int)] : List Int) U rfl rfl rfl (by kernel_rfl) ⟨[(iI ((64 * (k : Int)) + (b : Int)))], [], rfl, ⟨rfl, by first | omega | exact cg (by assumption) (by omega)⟩, rfl⟩ rfl) rfl rfl ?_
    rintro _ cc b1 ⟨ci, c3, rfl, bl, an, _⟩
    have an : HS _ _ _ [J, b1] _ := an
    refine aF (bW (α := Int) (q := 0) Y an rfl rfl rfl (OS.sv bl an (i := 1) rfl) rfl rfl rfl rfl rfl rfl rfl (by first | omega | (simp only [List.length_append, List.length_cons, List.length_nil]; omega))) rfl rfl ?_
    rintro _ ch bb ⟨a6, a9, rfl, bz, av, _⟩
    have av : HS _ _ _ [bb, _] _ := av
    refine wa (.slice a6 (Z ++ ([(64 * (k : Int)) + (b : Int)] : List Int)).length a9) rfl rfl rfl ?_
    refine ae 2 rfl ?_
    refine wR 1 [] 19 20 [5] [(5, (iI ((b : Int) + 1)))] (vA (vi (n := (b : Int) + 1) (by first | omega | exact cg (by assumption) (by omega))) trivial) rfl fun _ => ?_
    refine a5 _ _ _ ?_ ⟨Z ++ ([(64 * (k : Int)) + (b : Int)] : List Int), b + 1, a6, a9, bb, _, (al), (HS.sub av (List.sublist_append_left _ _)), bz, (agC rfl (agC rfl (agC rfl (agC rfl (agC rfl (agC rfl (agC rfl (agC rfl agN)))))))), rfl, (by first | exact lst_step1 ad ((iF (by assumption) (by omega)).1 (by assumption)) | exact lst_step0 ad (fun hh => absurd ((iF (by assumption) (by omega)).2 hh) (by assumption))), (by first | assumption | omega | (simp at *; omega))⟩
    omega
   ·
    try simp only [BS] at ay
    refine wR 1 [] 19 20 [5] [(5, (iI ((b : Int) + 1)))] (vA (vi (n := (b : Int) + 1) (by first | omega | exact cg (by assumption) (by omega))) trivial) rfl fun _ => ?_
    refine a5 _ _ _ ?_ ⟨Z, b + 1, A, E, J, _, (al), U, Y, (agC rfl (agC rfl (agC rfl (agC rfl (agC rfl (agC rfl (agC rfl (agC rfl agN)))))))), rfl, (by first | exact lst_step1 ad ((iF (by assumption) (by omega)).1 (by assumption)) | exact lst_step0 ad (fun hh => absurd ((iF (by assumption) (by omega)).2 hh) (by assumption))), (by first | assumption | omega | (simp at *; omega))⟩
    omega
  ·
   try simp only [BS] at aw
   refine wR 1 [] 8 8 [37] [(8, (iI ((k : Int) + 1)))] (vA (vi (n := (k : Int) + 1) (by first | omega | exact cg (by assumption) (by omega))) trivial) rfl fun _ => ?_
   refine b0 _ _ _ ?_ ⟨Z, k + 1, A, E, J, _, (fT (a0) al), U, Y, (agC rfl (agC rfl (agC rfl (agC rfl (agC rfl agN))))), rfl, (by rw [ad]; exact list_stop (by assumption) hb (by assumption)), (by first | assumption | omega | (simp at *; omega))⟩
   omega
 ·
  try simp only [BS] at c7
  refine wR 1 [] 2 2 [38] [(2, (.slice N o.length T))] trivial rfl fun _ => ?_
  refine ag ⟨.inr rfl, _, rfl, N, T, o, V, _, (a0), (HS.only a8 (i := 0) rfl), rfl, ax, (by rw [ho]; unfold eO; congr 1; omega)⟩
theorem addT_c (ex : FuncId) {a_z : Option Addr} {n_z k_z : Nat} {p_z : Fp} (z : List U64) {J : Option Addr} {N : Nat} (b : BlkT) {F : Fz} {H : Heap} {R : List Fp} (hs : HS (.of H (p_z.map Prod.fst)) F H [p_z] R) (hz : OS F (.slice a_z n_z k_z) z p_z) (al : SR F (.slice J b.ins.length N) b.ins) (an : in64 b.fin) (ar : in64 b.reg) (av : in64 b.tgt) (aw : in64 b.els) (hT : TB 37 tabC F) (hb : (b.fin = 2 ∨ b.fin = 3) → 0 ≤ b.reg ∧ b.reg < 64 * (z.length : Int)) (hsl : z.length ≤ 100000) : C Tryd.prog 1 (KT 60 ex 37 tabC) 56 [(.slice a_z n_z k_z), (.agg ⟨[(.slice J b.ins.length N), (iI b.fin), (iI b.reg), (iI b.tgt), (iI b.els)]⟩)] H fun v H' => ∃ (z' : List U64) (pm : Fp) (F' : Fz), Fz.le F F' ∧ HS (.of H (p_z.map Prod.fst)) F' H' [pm] R ∧ v = .tuple #[] ∧ OS F' (.slice a_z n_z k_z) z' pm ∧ (z'.length = z.length) ∧ (∀ i, aq z' i = (aq z i || decide ((i : Int) ∈ kQ b))) := by
 have lnarg := OS.len' hz
 refine aG Tryd.func56 rfl rfl ?_
 refine aj 1 rfl ?_
 refine aa ?_
 refine aF (bB hs rfl rfl) rfl rfl ?_
 rintro _ H2 _ ⟨b1, rfl, A, _⟩
 have A : HS _ _ _ [p_z, [(b1, .cells [(.slice J b.ins.length N), (iI b.fin), (iI b.reg), (iI b.tgt), (iI b.els)] none false)]] _ := A
 refine ae 2 rfl ?_
 refine wR 1 [(1, .o (iI b.fin)), (5, .o (iI b.fin))] 4 11 [] [(11, (.bool ((b.fin == 2) || (b.fin == 3))))] (vA (ql 3 1 (HS.hc A (i := 1) rfl) rfl rfl) (vA (fun (g1 : (b.fin == 2) = false) => (ql 3 1 (HS.hc A (i := 1) rfl) rfl rfl)) trivial)) rfl fun _ => ?_
 refine ak 0 0 (v := ((b.fin == 2) || (b.fin == 3))) rfl rfl rfl rfl (fun V => ?_) (fun V => ?_)
 ·
  try simp only [BS] at V
  have a0 := hb (by omega)
  refine aa ?_
  refine wRo 3 0 [(2, .o (iI b.reg))] 12 14 [] [(12, (.slice a_z n_z k_z)), (14, (iI b.reg))] (vA (ql 3 2 (HS.hc A (i := 1) rfl) rfl rfl) trivial) rfl fun _ => ?_
  refine aA (ah rfl rfl rfl) rfl rfl (add_c ex z b.reg (HS.callOwn A (i := 0) rfl) hz (by omega) hT (by omega) (by omega)) ?_
  rintro _ H6 ⟨Z, U, F6, Y, E, rfl, T, ax, ay⟩
  replace E := HS.backOwn A (i := 0) rfl rfl (fun _ hb => hb) E
  have E : HS _ _ _ [U, _] _ := E
  have a1 := OS.len' T
  refine ae 0 rfl ?_
  refine bO ⟨.inl rfl, _, rfl, Z, U, _, (Y), (HS.first E), rfl, T, (by first | rfl | assumption), (by first | exact end_ok (.inl ⟨by omega, by omega, by assumption⟩) | exact end_ok (.inr ⟨by omega, rfl⟩))⟩
 ·
  try simp only [BS] at V
  refine bO ⟨.inl rfl, _, rfl, z, p_z, _, fR, (HS.first A), rfl, hz, (by first | rfl | assumption), (by first | exact end_ok (.inl ⟨by omega, by omega, by assumption⟩) | exact end_ok (.inr ⟨by omega, rfl⟩))⟩
theorem gE (ex : FuncId) {a_z : Option Addr} {n_z k_z : Nat} {p_z : Fp} (z : List U64) {N : Option Addr} {V : Nat} (iv : VInT) {F : Fz} {H : Heap} {R : List Fp} (hs : HS (.of H (p_z.map Prod.fst)) F H [p_z] R) (hz : OS F (.slice a_z n_z k_z) z p_z) (c9 : in64 iv.i.op) (dd : in64 iv.i.a) (dk : in64 iv.i.b) (dl : in64 iv.i.c) (dn : in64 iv.i.n) (T : SR F (.slice N iv.args.length V) iv.args) (hT : TB 37 tabC F) (hr : ∀ x ∈ aW iv, 0 ≤ x ∧ x < 64 * (z.length : Int)) (hw : ∀ x ∈ aN iv, 0 ≤ x ∧ x < 64 * (z.length : Int)) (hlen : iv.args.length ≤ 1048576) (hsl : z.length ≤ 100000) : C Tryd.prog 1 (KT 60 ex 37 tabC) 60 [(.slice a_z n_z k_z), (.agg ⟨[(iI iv.i.op), (iI iv.i.a), (iI iv.i.b), (iI iv.i.c), (iI iv.i.n), (.slice N iv.args.length V)]⟩)] H fun v H' => ∃ (z' : List U64) (pm : Fp) (F' : Fz), Fz.le F F' ∧ HS (.of H (p_z.map Prod.fst)) F' H' [pm] R ∧ v = .tuple #[] ∧ OS F' (.slice a_z n_z k_z) z' pm ∧ (z'.length = z.length) ∧ (∀ i, aq z' i = ((aq z i && !decide ((i : Int) ∈ aN iv)) || decide ((i : Int) ∈ aW iv))) := by
 have lnarg := OS.len' hz
 have hwl := jN (v := iv)
 have hrl := gj (v := iv)
 refine aG Tryd.func60 rfl rfl ?_
 refine aj 1 rfl ?_
 refine aa ?_
 refine aF (bB hs rfl rfl) rfl rfl ?_
 rintro _ H2 _ ⟨b1, rfl, ay, _⟩
 let bk : Fp := [(b1, .cells [(iI iv.i.op), (iI iv.i.a), (iI iv.i.b), (iI iv.i.c), (iI iv.i.n), (.slice N iv.args.length V)] none false)]
 have ay : HS _ _ _ [p_z, bk] _ := ay
 refine ae 3 rfl ?_
 refine aa ?_
 let a3 : Value := (.agg ⟨[(iI iv.i.op), (iI iv.i.a), (iI iv.i.b), (iI iv.i.c), (iI iv.i.n), (.slice N iv.args.length V)]⟩)
 refine wRo 1 0 [(0, .o a3)] 8 8 [] [(8, a3)] (vA (qn 47 0 6 (HS.hc ay (i := 1) rfl) rfl rfl rfl rfl) trivial) rfl fun _ => ?_
 refine aA (ah rfl rfl rfl) rfl rfl (ma.vwrites_c ex iv (HS.call ay) (by omega) (by omega) (by omega) (by omega) (by omega) T hT) ?_
 rintro _ H4 ⟨c0, c7, r4, p4, F4, a2, a0, rfl, aw, rfl⟩
 replace a0 := HS.back ay rfl a0
 have a0 : HS _ _ _ [_, _, p4] _ := a0
 replace hz := hz.mono a2
 refine wRo 2 2 [] 10 11 [] [(10, (iI ((aN iv).length : Int))), (11, (iI 0))] trivial rfl fun _ => ?_
 refine ae 2 rfl ?_
 refine ap (fun (mm : Nat) f H' => ∃ (w : List U64) (k : Nat) (J : Fp) (F' : Fz), Fz.le F4 F' ∧ HS (Base.of H (p_z.map Prod.fst)) F' H' [J, bk, p4] R ∧ OS F' (.slice a_z n_z k_z) w J ∧ aI f [(0, (.slice a_z n_z k_z)), (3, (.pointer (some ⟨b1, 0, none⟩))), (9, (.slice c0 (aN iv).length c7)), (10, (iI ((aN iv).length : Int))), (11, (iI (k : Int)))] ∧ mm = (aN iv).length - k ∧ (w.length = z.length) ∧ (∀ i, aq w i = (aq z i && !decide ((i : Int) ∈ (aN iv).take k))) ∧ (k ≤ (aN iv).length)) _ ⟨z, 0, p_z, _, fR, a0, hz, (agC rfl (agC rfl (agC rfl (agC rfl (agC rfl agN))))), rfl, (by rfl), (by intro i; simp), (by first | assumption | omega | (simp at *; omega))⟩ ?_
 rintro fi f6 H6 ⟨w, k, J, F6, ax, an, A, bl, rfl, g1, g2, g3⟩ c6
 refine au _ bl (fun _ => ?_)
 clear bl
 replace hT := (hT.mono a2).mono ax
 replace T := (T.mono a2).mono ax
 replace aw := aw.mono ax
 have cl := OS.len' A
 refine aj 1 rfl ?_
 refine wR 2 [] 12 12 [] [(12, (.bool (decide ((k : Int) < ((aN iv).length : Int)))))] trivial rfl fun _ => ?_
 refine ak 4 5 (v := (decide ((k : Int) < ((aN iv).length : Int)))) rfl rfl rfl rfl (fun c8 => ?_) (fun c8 => ?_)
 ·
  try simp only [BS] at c8
  have hlw := lim_at hw (by omega : k < (aN iv).length)
  obtain ⟨e4, bz⟩ := Sv.view (OS.sv aw an (i := 2) rfl)
  have e6 := fI (bz k)
  refine wR 1 [(1, .o (iI ((aN iv).getD k 0)))] 13 14 [5] [(5, (iI ((aN iv).getD k 0)))] (vA (Sv.ix (j := (k : Int)) (OS.sv aw an (i := 2) rfl) (by omega) (by omega)) (vA (ql 3 0 (vI (bz k) (by omega)) rfl rfl) trivial)) rfl fun _ => ?_
  refine aa ?_
  refine wRo 2 0 [] 15 16 [] [(15, (.slice a_z n_z k_z)), (16, (iI ((aN iv).getD k 0)))] trivial rfl fun _ => ?_
  refine aA (ah rfl rfl rfl) rfl rfl (rem_c ex w ((aN iv).getD k 0) (HS.callOwn an (i := 0) rfl) A (by omega) hT (by omega) (by omega)) ?_
  rintro _ e0 ⟨ch, a9, es, b4, Y, rfl, a6, dv, d2⟩
  replace Y := HS.backOwn an (i := 0) rfl rfl (fun _ hb => hb) Y
  have Y : HS _ _ _ [a9, _, _] _ := Y
  have d4 := OS.len' a6
  refine ae 2 rfl ?_
  refine wR 1 [] 11 11 [18] [(11, (iI ((k : Int) + 1)))] (vA (vi (n := (k : Int) + 1) (by omega)) trivial) rfl fun _ => ?_
  refine c6 _ _ _ ?_ ⟨ch, k + 1, a9, _, (fT (ax) b4), Y, a6, (agC rfl (agC rfl (agC rfl (agC rfl (agC rfl agN))))), rfl, (by omega), (by exact rem_step (by omega) g2 (lim_at hw (by omega)).1 (by assumption)), (by first | assumption | omega | (simp at *; omega))⟩
  omega
 ·
  try simp only [BS] at c8
  refine aa ?_
  refine wRo 1 0 [(0, .o a3)] 19 19 [] [(19, a3)] (vA (qn 47 0 6 (HS.hc an (i := 1) rfl) rfl rfl rfl rfl) trivial) rfl fun _ => ?_
  refine aA (ah rfl rfl rfl) rfl rfl (ma.vreads_c ex iv (HS.call an) (by omega) (by omega) (by omega) (by omega) (by omega) T hT (by omega)) ?_
  rintro _ e1 ⟨b2, b7, f0, b0, co, a1, Z, rfl, U, rfl⟩
  replace Z := HS.back an rfl Z
  have Z : HS _ _ _ [J, _, _, b0] _ := Z
  replace A := A.mono a1
  refine wRo 2 2 [] 21 22 [] [(21, (iI ((aW iv).length : Int))), (22, (iI 0))] trivial rfl fun _ => ?_
  refine ae 2 rfl ?_
  refine ap (fun (mm : Nat) f H' => ∃ (u : List U64) (q : Nat) (E : Fp) (F' : Fz), Fz.le co F' ∧ HS (Base.of H (p_z.map Prod.fst)) F' H' [E, bk, p4, b0] R ∧ OS F' (.slice a_z n_z k_z) u E ∧ aI f [(0, (.slice a_z n_z k_z)), (20, (.slice b2 (aW iv).length b7)), (21, (iI ((aW iv).length : Int))), (22, (iI (q : Int)))] ∧ mm = (aW iv).length - q ∧ (u.length = z.length) ∧ (∀ i, aq u i = (aq w i || decide ((i : Int) ∈ (aW iv).take q))) ∧ (q ≤ (aW iv).length)) _ ⟨w, 0, J, _, fR, Z, A, (agC rfl (agC rfl (agC rfl (agC rfl agN)))), rfl, (by first | assumption | omega | (simp at *; omega)), (by intro i; simp), (by first | assumption | omega | (simp at *; omega))⟩ ?_
  rintro em e5 e2 ⟨u, q, E, et, av, ad, ar, a5, rfl, g4, g5, g6⟩ b6
  refine au _ a5 (fun _ => ?_)
  clear a5
  replace hT := (hT.mono a1).mono av
  replace U := U.mono av
  have b9 := OS.len' ar
  refine aj 1 rfl ?_
  refine wR 2 [] 23 23 [] [(23, (.bool (decide ((q : Int) < ((aW iv).length : Int)))))] trivial rfl fun _ => ?_
  refine ak 4 3 (v := (decide ((q : Int) < ((aW iv).length : Int)))) rfl rfl rfl rfl (fun a4 => ?_) (fun a4 => ?_)
  ·
   try simp only [BS] at a4
   have hlr := lim_at hr (by omega : q < (aW iv).length)
   obtain ⟨dt, a8⟩ := Sv.view (OS.sv U ad (i := 3) rfl)
   have fd := fI (a8 q)
   refine wR 1 [(1, .o (iI ((aW iv).getD q 0)))] 24 25 [7] [(7, (iI ((aW iv).getD q 0)))] (vA (Sv.ix (j := (q : Int)) (OS.sv U ad (i := 3) rfl) (by omega) (by omega)) (vA (ql 3 0 (vI (a8 q) (by omega)) rfl rfl) trivial)) rfl fun _ => ?_
   refine aa ?_
   refine wRo 2 0 [] 26 27 [] [(26, (.slice a_z n_z k_z)), (27, (iI ((aW iv).getD q 0)))] trivial rfl fun _ => ?_
   refine aA (ah rfl rfl rfl) rfl rfl (add_c ex u ((aW iv).getD q 0) (HS.callOwn ad (i := 0) rfl) ar (by omega) hT (by omega) (by omega)) ?_
   rintro _ e3 ⟨ci, bb, ez, b5, al, rfl, a7, d1, d3⟩
   replace al := HS.backOwn ad (i := 0) rfl rfl (fun _ hb => hb) al
   have al : HS _ _ _ [bb, _, _, _] _ := al
   have ea := OS.len' a7
   refine ae 2 rfl ?_
   refine wR 1 [] 22 22 [29] [(22, (iI ((q : Int) + 1)))] (vA (vi (n := (q : Int) + 1) (by omega)) trivial) rfl fun _ => ?_
   refine b6 _ _ _ ?_ ⟨ci, q + 1, bb, _, (fT (av) b5), al, a7, (agC rfl (agC rfl (agC rfl (agC rfl agN)))), rfl, (by omega), (by exact add_step (by omega) g5 (lim_at hr (by omega)).1 (by assumption)), (by first | assumption | omega | (simp at *; omega))⟩
   omega
  ·
   try simp only [BS] at a4
   refine bO ⟨.inl rfl, _, rfl, u, E, _, (fT (fT (fT (a2) ax) a1) av), (HS.first ad), rfl, ar, (by omega), (by exact tr_done (fun i => by rw [g2 i, List.take_of_length_le (by omega)]) (fun i => by rw [g5 i, List.take_of_length_le (by omega)]))⟩
end Go.Proofs.YtlabedbmgmfbaaaDoor.mb
