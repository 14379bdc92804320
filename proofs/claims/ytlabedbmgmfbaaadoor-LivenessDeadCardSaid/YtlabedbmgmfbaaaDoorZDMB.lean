/-
 Live registers: the program, function by function, each by a symbolic run. No condition but that the function is valid.
-/
import Derived.Test.YtlabedbmgmfbaaaDoorZDML
import Derived.Test.YtlabedbmgmfbaaaDoorZDRC
noncomputable section
namespace Go.Proofs.YtlabedbmgmfbaaaDoor.mb
open Go.R
set_option maxRecDepth 10000
set_option linter.unusedVariables false
set_option linter.unusedSimpArgs false
open m1 m2 m3 m4 m5 m6 ma ml
theorem lst_step1 {s : List U64} {o : List Int} {k b : Nat} (ho : o = kx s (64 * k + b)) (h : aF s (64 * k + b) = true) : o ++ ([64 * (k : Int) + (b : Int)] : List Int) = kx s (64 * k + (b + 1)) := by
 rw [show 64 * k + (b + 1) = (64 * k + b) + 1 by omega, jM, if_pos h, ← ho]; simp
theorem lst_step0 {s : List U64} {o : List Int} {k b : Nat} (ho : o = kx s (64 * k + b)) (h : ¬ aF s (64 * k + b) = true) : o = kx s (64 * k + (b + 1)) := by
 rw [show 64 * k + (b + 1) = (64 * k + b) + 1 by omega, jM, if_neg h, ← ho]; simp
theorem end_ok {s s' : List U64} {b : BlkT} (h : ((b.fin = 2 ∨ b.fin = 3) ∧ 0 ≤ b.reg ∧ ∀ i, aF s' i = (aF s i || decide (i = b.reg.toNat))) ∨ (¬ (b.fin = 2 ∨ b.fin = 3) ∧ s' = s)) (i : Nat) : aF s' i = (aF s i || decide ((i : Int) ∈ endV b)) := by
 unfold endV
 rcases h with ⟨z, I, A⟩ | ⟨z, rfl⟩
 ·
  rw [if_pos z, A]; congr 1; rw [decide_eq_decide, List.mem_singleton]; omega
 ·
  rw [if_neg z]; simp
theorem rem_step {s w w' : List U64} {l : List Int} {k : Nat} (hk : k < l.length) (h : ∀ i, aF w i = (aF s i && !decide ((i : Int) ∈ l.take k))) (h0 : 0 ≤ l.getD k 0) (I : ∀ i, aF w' i = (aF w i && !decide (i = (l.getD k 0).toNat))) (i : Nat) : aF w' i = (aF s i && !decide ((i : Int) ∈ l.take (k + 1))) := by
 rw [I, h, gB hk (d := 0), Bool.and_assoc]
 congr 1
 rw [Bool.eq_iff_iff]
 simp only [Bool.and_eq_true, Bool.not_eq_true', decide_eq_false_iff_not, List.mem_append, List.mem_singleton]
 constructor
 ·
  rintro ⟨A, J⟩ (z | z)
  ·
   exact A z
  ·
   omega
 ·
  intro A; exact ⟨fun z => A (.inl z), fun z => A (.inr (by omega))⟩
theorem add_step {s w w' : List U64} {l : List Int} {k : Nat} (hk : k < l.length) (h : ∀ i, aF w i = (aF s i || decide ((i : Int) ∈ l.take k))) (h0 : 0 ≤ l.getD k 0) (A : ∀ i, aF w' i = (aF w i || decide (i = (l.getD k 0).toNat))) (i : Nat) : aF w' i = (aF s i || decide ((i : Int) ∈ l.take (k + 1))) := by
 rw [A, h, gB hk (d := 0), Bool.or_assoc]
 congr 1
 rw [Bool.eq_iff_iff]
 simp only [Bool.or_eq_true, decide_eq_true_eq, List.mem_append, List.mem_singleton]
 constructor
 ·
  rintro (z | z)
  ·
   exact .inl z
  ·
   exact .inr (by omega)
 ·
  rintro (z | z)
  ·
   exact .inl z
  ·
   exact .inr (by omega)
theorem lim_at {l : List Int} {m : Int} (h : ∀ x ∈ l, 0 ≤ x ∧ x < m) {k : Nat} (hk : k < l.length) : 0 ≤ l.getD k 0 ∧ l.getD k 0 < m := by
 rw [List.getD_eq_getElem?_getD, List.getElem?_eq_getElem hk]; exact h _ (List.getElem_mem hk)
theorem writes_len {v : VInT} : (aQ v).length ≤ 1 := by unfold aQ; split <;> simp
theorem reads_len {v : VInT} : (bd v).length ≤ 3 + v.args.length := by
 unfold bd
 split
 ·
  refine Nat.le_trans uni_len ?_
  unfold fe
  simp only [List.length_append, List.length_nil]
  have z := ie (a := v.i.a) (p := (aI v.i.op).ra = true)
  have A := ie (a := v.i.b) (p := (aI v.i.op).rb = true)
  have I := ie (a := v.i.c) (p := v.i.op = 11 ∨ v.i.op = 12)
  have J : (if v.i.op = 6 then v.args else []).length ≤ v.args.length := by split <;> first | exact Nat.le_refl _ | exact Nat.zero_le _
  omega
 ·
  exact Nat.zero_le _
theorem tr_done {s w v' : List U64} {iv : VInT} (z : ∀ i, aF w i = (aF s i && !decide ((i : Int) ∈ aQ iv))) (A : ∀ i, aF v' i = (aF w i || decide ((i : Int) ∈ bd iv))) (i : Nat) : aF v' i = ((aF s i && !decide ((i : Int) ∈ aQ iv)) || decide ((i : Int) ∈ bd iv)) := by rw [A, z]
theorem empty_c (ex : FuncId) (n : Int) {F : Fz} {H : Heap} {R : List Fp} (hs : HS (.of H []) F H [] R) (hn : in64 n) (hT : TB 37 tabC F) (hn : 0 ≤ n ∧ n ≤ 1000000) : C Tryd.prog 1 (KT 60 ex 37 tabC) 55 [(iI n)] H fun v H' => ∃ (ar : Option Addr) (kr : Nat) (r : List U64) (p : Fp) (F' : Fz), Fz.le F F' ∧ HS (.of H []) F' H' [p] R ∧ v = .slice ar r.length kr ∧ OS F' (.slice ar r.length kr) r p ∧ r = List.replicate (Int.tdiv (n + 63) 64).toNat (⟨0⟩ : U64) := by
 have hq : Int.tdiv (n + 63) 64 = (n + 63) / 64 := Int.tdiv_eq_ediv_of_nonneg (by omega)
 refine aL Tryd.func55 rfl rfl ?_
 refine ao 1 rfl ?_
 refine wR 2 [] 2 2 [] [(2, (.slice none 0 0))] trivial rfl fun _ => ?_
 refine ab ?_
 have T : in64 (n + 63) → in64 (Int.tdiv (n + 63) 64) := fun h => vq h (by decide)
 refine wRo 3 0 [] 3 5 [] [(5, (iI (Int.tdiv (n + 63) 64)))] (vA (vi (n := n + 63) (by omega)) (vA (vA (show (64 : Int) ≠ 0 from by decide) (vq (a := n + 63) (b := 64) (by omega) (by decide))) trivial)) rfl fun _ => ?_
 refine aR (hZ (⟨0⟩ : U64) hs rfl rfl rfl rfl rfl rfl rfl rfl rfl ⟨rfl, by decide⟩ (by omega) (by omega)) rfl rfl ?_
 rintro _ U O ⟨A, J, rfl, I, z, _⟩
 have z : HS _ _ _ [O] _ := z
 refine wa (.slice A (List.replicate (Int.tdiv (n + 63) 64).toNat (⟨0⟩ : U64)).length J) rfl rfl rfl ?_
 refine ai 1 rfl ?_
 refine ah ⟨.inr rfl, _, rfl, A, J, List.replicate (Int.tdiv (n + 63) 64).toNat (⟨0⟩ : U64), O, _, fR, (HS.only z (i := 0) rfl), rfl, I, (by rfl)⟩
theorem add_c (ex : FuncId) {a_z : Option Addr} {n_z k_z : Nat} {p_z : Fp} (z : List U64) (n : Int) {F : Fz} {H : Heap} {R : List Fp} (hs : HS (.of H (p_z.map Prod.fst)) F H [p_z] R) (hz : OS F (.slice a_z n_z k_z) z p_z) (hn : in64 n) (hT : TB 37 tabC F) (hn : 0 ≤ n ∧ n < 64 * (z.length : Int)) (hsl : z.length ≤ 100000) : C Tryd.prog 1 (KT 60 ex 37 tabC) 58 [(.slice a_z n_z k_z), (iI n)] H fun v H' => ∃ (z' : List U64) (pm : Fp) (F' : Fz), Fz.le F F' ∧ HS (.of H (p_z.map Prod.fst)) F' H' [pm] R ∧ v = .tuple #[] ∧ OS F' (.slice a_z n_z k_z) z' pm ∧ (z'.length = z.length) ∧ (∀ i, aF z' i = (aF z i || decide (i = n.toNat))) := by
 have lnarg := OS.len' hz
 have hq := n64 hn
 refine aL Tryd.func58 rfl rfl ?_
 refine ab ?_
 have V : in64 n → in64 (Int.tdiv n 64) := fun h => vq h (by decide)
 obtain ⟨U, J⟩ := Sv.view (OS.sv hz hs (i := 0) rfl)
 have g3 := fU (J (Int.tdiv n 64).toNat)
 refine wRo 11 0 [(4, .o (.int .u64 (z.getD (Int.tdiv n 64).toNat default).n))] 4 14 [] [(13, (.int .u64 (aK .or .u64 (z.getD (Int.tdiv n 64).toNat default).n (IntKind.u64.wrap (1 * 2 ^ (Nat.min (Int.tmod n 64).toNat 64)))))), (14, (.pointer (some ⟨sB (.slice a_z n_z k_z), sO (.slice a_z n_z k_z) + (Int.tdiv n 64).toNat * Rp.sz U64, none⟩)))] (vA (vA (show (64 : Int) ≠ 0 from by decide) (vq (a := n) (b := 64) (by omega) (by decide))) (vA (Sv.ix (j := Int.tdiv n 64) (OS.sv hz hs (i := 0) rfl) (by omega) (by omega)) (vA (ql 117 0 (vU (J (Int.tdiv n 64).toNat) (by omega)) rfl rfl) (vA (show (64 : Int) ≠ 0 from by decide) (vA (vu (n := Int.tmod n 64) (by omega)) (vA (show (0 : Int) ≤ Int.tmod n 64 from by omega) (vA (Sv.ix (j := Int.tdiv n 64) (OS.sv hz hs (i := 0) rfl) (by omega) (by omega)) trivial))))))) rfl fun _ => ?_
 refine aU (eh (α := U64) (j := (Int.tdiv n 64).toNat) (off := 0) (q := 0) ⟨aK .or .u64 (z.getD (Int.tdiv n 64).toNat default).n (IntKind.u64.wrap (1 * 2 ^ (Nat.min (Int.tmod n 64).toNat 64)))⟩ hz hs rfl rfl rfl rfl rfl rfl rfl rfl (aS (x := default) (by omega)) rfl (by rintro cs ⟨rfl, _⟩; exact ⟨Nat.le_of_ble_eq_true rfl, rfl, by (dsimp only; exact gU _ _ _)⟩)) rfl ?_
 rintro _ Z O ⟨I, A, _⟩
 have A : HS _ _ _ [O] _ := A
 have T := OS.len' I
 refine ai 0 rfl ?_
 refine aE ⟨.inl rfl, _, rfl, z.set (Int.tdiv n 64).toNat ⟨aK .or .u64 (z.getD (Int.tdiv n 64).toNat default).n (IntKind.u64.wrap (1 * 2 ^ (Nat.min (Int.tmod n 64).toNat 64)))⟩, O, _, fR, (HS.first A), rfl, I, (by exact List.length_set), (by exact fun i => add_ok hn (by assumption) i)⟩
theorem rem_c (ex : FuncId) {a_z : Option Addr} {n_z k_z : Nat} {p_z : Fp} (z : List U64) (n : Int) {F : Fz} {H : Heap} {R : List Fp} (hs : HS (.of H (p_z.map Prod.fst)) F H [p_z] R) (hz : OS F (.slice a_z n_z k_z) z p_z) (hn : in64 n) (hT : TB 37 tabC F) (hn : 0 ≤ n ∧ n < 64 * (z.length : Int)) (hsl : z.length ≤ 100000) : C Tryd.prog 1 (KT 60 ex 37 tabC) 57 [(.slice a_z n_z k_z), (iI n)] H fun v H' => ∃ (z' : List U64) (pm : Fp) (F' : Fz), Fz.le F F' ∧ HS (.of H (p_z.map Prod.fst)) F' H' [pm] R ∧ v = .tuple #[] ∧ OS F' (.slice a_z n_z k_z) z' pm ∧ (z'.length = z.length) ∧ (∀ i, aF z' i = (aF z i && !decide (i = n.toNat))) := by
 have lnarg := OS.len' hz
 have hq := n64 hn
 refine aL Tryd.func57 rfl rfl ?_
 refine ab ?_
 have V : in64 n → in64 (Int.tdiv n 64) := fun h => vq h (by decide)
 obtain ⟨U, J⟩ := Sv.view (OS.sv hz hs (i := 0) rfl)
 have g3 := fU (J (Int.tdiv n 64).toNat)
 refine wRo 11 0 [(4, .o (.int .u64 (z.getD (Int.tdiv n 64).toNat default).n))] 4 14 [] [(13, (.int .u64 (aK .andNot .u64 (z.getD (Int.tdiv n 64).toNat default).n (IntKind.u64.wrap (1 * 2 ^ (Nat.min (Int.tmod n 64).toNat 64)))))), (14, (.pointer (some ⟨sB (.slice a_z n_z k_z), sO (.slice a_z n_z k_z) + (Int.tdiv n 64).toNat * Rp.sz U64, none⟩)))] (vA (vA (show (64 : Int) ≠ 0 from by decide) (vq (a := n) (b := 64) (by omega) (by decide))) (vA (Sv.ix (j := Int.tdiv n 64) (OS.sv hz hs (i := 0) rfl) (by omega) (by omega)) (vA (ql 117 0 (vU (J (Int.tdiv n 64).toNat) (by omega)) rfl rfl) (vA (show (64 : Int) ≠ 0 from by decide) (vA (vu (n := Int.tmod n 64) (by omega)) (vA (show (0 : Int) ≤ Int.tmod n 64 from by omega) (vA (Sv.ix (j := Int.tdiv n 64) (OS.sv hz hs (i := 0) rfl) (by omega) (by omega)) trivial))))))) rfl fun _ => ?_
 refine aU (eh (α := U64) (j := (Int.tdiv n 64).toNat) (off := 0) (q := 0) ⟨aK .andNot .u64 (z.getD (Int.tdiv n 64).toNat default).n (IntKind.u64.wrap (1 * 2 ^ (Nat.min (Int.tmod n 64).toNat 64)))⟩ hz hs rfl rfl rfl rfl rfl rfl rfl rfl (aS (x := default) (by omega)) rfl (by rintro cs ⟨rfl, _⟩; exact ⟨Nat.le_of_ble_eq_true rfl, rfl, by (dsimp only; exact gU _ _ _)⟩)) rfl ?_
 rintro _ Z O ⟨I, A, _⟩
 have A : HS _ _ _ [O] _ := A
 have T := OS.len' I
 refine ai 0 rfl ?_
 refine aE ⟨.inl rfl, _, rfl, z.set (Int.tdiv n 64).toNat ⟨aK .andNot .u64 (z.getD (Int.tdiv n 64).toNat default).n (IntKind.u64.wrap (1 * 2 ^ (Nat.min (Int.tmod n 64).toNat 64)))⟩, O, _, fR, (HS.first A), rfl, I, (by exact List.length_set), (by exact fun i => rem_ok hn (by assumption) i)⟩
theorem union_c (ex : FuncId) {a_z : Option Addr} {n_z k_z : Nat} {p_z : Fp} (z : List U64) {a_t : Option Addr} {n_t k_t : Nat} (t : List U64) {F : Fz} {H : Heap} {R : List Fp} (hs : HS (.of H (p_z.map Prod.fst)) F H [p_z] R) (hz : OS F (.slice a_z n_z k_z) z p_z) (ht : SR F (.slice a_t n_t k_t) t) (hT : TB 37 tabC F) (hl : t.length = z.length) (hsl : z.length ≤ 100000) : C Tryd.prog 1 (KT 60 ex 37 tabC) 59 [(.slice a_z n_z k_z), (.slice a_t n_t k_t)] H fun v H' => ∃ (r : Bool) (z' : List U64) (pm : Fp) (F' : Fz), Fz.le F F' ∧ HS (.of H (p_z.map Prod.fst)) F' H' [pm] R ∧ v = .bool r ∧ OS F' (.slice a_z n_z k_z) z' pm ∧ (z'.length = z.length) ∧ (∀ i, aF z' i = (aF z i || aF t i)) ∧ (r = false → z' = z) ∧ (r = true → ∃ i, aF t i = true ∧ aF z i = false) := by
 have ln_t := SR.len' ht
 have lnarg := OS.len' hz
 refine aL Tryd.func59 rfl rfl ?_
 refine ao 1 rfl ?_
 refine wR 2 [] 4 4 [] [(4, (.bool false))] trivial rfl fun _ => ?_
 refine wR 3 [] 1 0 [5] [(5, (.bool false))] trivial rfl fun _ => ?_
 refine wR 2 [] 7 9 [] [(8, (iI (n_z : Int))), (9, (iI 0))] trivial rfl fun _ => ?_
 refine aC (fun (mm : Nat) f H' => ∃ (w : List U64) (k : Nat) (m : Bool) (J : Fp) (F' : Fz), Fz.le F F' ∧ HS (Base.of H (p_z.map Prod.fst)) F' H' [J] R ∧ OS F' (.slice a_z n_z k_z) w J ∧ aT f [(0, (.slice a_z n_z k_z)), (1, (.slice a_t n_t k_t)), (4, (.bool false)), (5, (.bool m)), (8, (iI (n_z : Int))), (9, (iI (k : Int)))] ∧ mm = z.length - k ∧ (uniB z t k w) ∧ (k ≤ z.length) ∧ (m = false → w = z) ∧ (m = true → ∃ i, aF t i = true ∧ aF z i = false)) _ ⟨z, 0, false, p_z, _, fR, hs, hz, (agC rfl (agC rfl (agC rfl (agC rfl (agC rfl (agC rfl agN)))))), rfl, (by exact uniB_zero), (by omega), (by exact fun _ => rfl), (by intro h; cases h)⟩ ?_
 rintro b6 f4 H4 ⟨w, k, m, J, F4, U, I, A, aj, rfl, hu, hk, a8, a9⟩ aq
 refine aH _ aj (fun _ => ?_)
 clear aj
 replace ht := ht.mono U
 have a4 := OS.len' A
 have hwl := hu.1
 refine ao 1 rfl ?_
 refine wR 2 [] 10 10 [] [(10, (.bool (decide ((k : Int) < (n_z : Int)))))] trivial rfl fun _ => ?_
 refine am 4 5 (v := (decide ((k : Int) < (n_z : Int)))) rfl rfl rfl rfl (fun c6 => ?_) (fun c6 => ?_)
 ·
  try simp only [BS] at c6
  refine wR 2 [] 11 11 [6] [(6, (iI (k : Int)))] trivial rfl fun _ => ?_
  obtain ⟨b4, ap⟩ := Sv.view (SR.sv ht I)
  have g9 := fU (ap k)
  obtain ⟨b1, Z⟩ := Sv.view (OS.sv A I (i := 0) rfl)
  have b5 := fU (Z k)
  refine wRD 1 [(3, .o (.int .u64 (t.getD k default).n)), (7, .o (.int .u64 (w.getD k default).n))] 12 21 [] [(21, (.bool (aK .andNot .u64 (t.getD k default).n (w.getD k default).n != 0)))] (vA (Sv.ix (j := (k : Int)) (SR.sv ht I) (by omega) (by omega)) (vA (ql 117 0 (hc0 (vU (ap k) (by omega))) rfl rfl) (vA (Sv.ix (j := (k : Int)) (OS.sv A I (i := 0) rfl) (by omega) (by omega)) (vA (ql 117 0 (hc0 (vU (Z k) (by omega))) rfl rfl) trivial)))) rfl rfl fun _ => ?_
  refine am 1 2 (v := (aK .andNot .u64 (t.getD k default).n (w.getD k default).n != 0)) rfl rfl rfl rfl (fun V => ?_) (fun V => ?_)
  ·
   try simp only [BS] at V
   refine wR 1 [] 1 0 [5] [(5, (.bool true))] trivial rfl fun _ => ?_
   refine aV rfl ?_
   refine fm (.slice a_z n_z k_z) rfl rfl rfl ?_
   refine fm (iI (k : Int)) rfl rfl rfl ?_
   refine wfv (v := (.pointer (some ⟨sB (.slice a_z n_z k_z), sO (.slice a_z n_z k_z) + k * Rp.sz U64, none⟩))) (aW (α := U64) (j := (k : Int)) rfl rfl rfl rfl (OS.sv A I.log0 (i := 0) rfl) (by omega) (by omega)) ?_
   obtain ⟨b2, a1, av⟩ := Sv.at (OS.sv A I.log0 (i := 0) rfl) (aS (x := default) (show k < w.length from by omega))
   obtain ⟨rfl, bb, a6⟩ := a1
   refine au (v := (.int .u64 (w.getD k default).n)) (id := .l (sB (.slice a_z n_z k_z))) (aP (i := 0) rfl rfl av rfl rfl) rfl rfl (bg rfl) (kb rfl) ?_
   refine fm (.slice a_t n_t k_t) rfl rfl rfl ?_
   refine fm (iI (k : Int)) rfl rfl rfl ?_
   refine wfv (v := (.pointer (some ⟨sB (.slice a_t n_t k_t), sO (.slice a_t n_t k_t) + k * Rp.sz U64, none⟩))) (aW (α := U64) (j := (k : Int)) rfl rfl rfl rfl (SR.sv ht I.log0) (by omega) (by omega)) ?_
   obtain ⟨b3, a2, a0⟩ := Sv.at (SR.sv ht I.log0) (aS (x := default) (show k < t.length from by omega))
   obtain ⟨rfl, bj, a7⟩ := a2
   refine au (v := (.int .u64 (t.getD k default).n)) (id := .l (sB (.slice a_t n_t k_t))) (aP (i := 0) rfl rfl a0 rfl rfl) rfl rfl (bg rfl) (kb rfl) ?_
   refine wfv (v := (.int .u64 (aK .or .u64 (w.getD k default).n (t.getD k default).n))) (kQ rfl rfl rfl) ?_
   refine wfv (v := (.pointer (some ⟨sB (.slice a_z n_z k_z), sO (.slice a_z n_z k_z) + k * Rp.sz U64, none⟩))) (aW (α := U64) (j := (k : Int)) rfl rfl rfl rfl (OS.sv A I.log0 (i := 0) rfl) (by omega) (by omega)) ?_
   refine eu (id := .x (J.map Prod.fst)) (eh (α := U64) (j := k) (off := 0) (q := 0) ⟨aK .or .u64 (w.getD k default).n (t.getD k default).n⟩ A I.log0 rfl rfl rfl rfl rfl rfl rfl rfl (aS (x := default) (by omega)) rfl (by rintro cs ⟨rfl, _⟩; exact ⟨Nat.le_of_ble_eq_true rfl, rfl, by (dsimp only; exact gU _ _ _)⟩)) rfl (by rintro _ _ ad ⟨T, _, hwr⟩; exact cF rfl rfl (Wr.did hwr)) (kb rfl) ?_
   rintro _ a5 ad ⟨T, O, _⟩ a3 ag
   replace O := HS.lg O I ag
   generalize ({ a5 with log := a3 } : Heap) = b0 at O ⊢
   have O : HS _ _ _ [ad] _ := O
   have bl := OS.len' T
   refine bZ ?_
   refine ao 2 rfl ?_
   refine wR 1 [] 9 9 [32] [(9, (iI ((k : Int) + 1)))] (vA (vi (n := (k : Int) + 1) (by omega)) trivial) rfl fun _ => ?_
   refine aq _ _ _ ?_ ⟨w.set k ⟨aK .or .u64 (w.getD k default).n (t.getD k default).n⟩, k + 1, true, ad, _, (U), O, T, (agC rfl (agC rfl (agC rfl (agC rfl (agC rfl (agC rfl agN)))))), rfl, (by exact uniB_or hu (by omega) (by assumption) (by assumption)), (by omega), (by (intro h; cases h; done)), (by (intro _; exact uniB_new hu (by assumption) (by assumption) (by assumption)))⟩
   omega
  ·
   try simp only [BS] at V
   refine wR 1 [] 9 9 [32] [(9, (iI ((k : Int) + 1)))] (vA (vi (n := (k : Int) + 1) (by omega)) trivial) rfl fun _ => ?_
   refine aq _ _ _ ?_ ⟨w, k + 1, m, J, _, (U), I, A, (agC rfl (agC rfl (agC rfl (agC rfl (agC rfl (agC rfl agN)))))), rfl, (by exact uniB_same hu (by assumption) (by assumption) (by assumption)), (by omega), (by assumption), (by assumption)⟩
   omega
 ·
  try simp only [BS] at c6
  refine wR 1 [] 4 4 [33] [(4, (.bool m))] trivial rfl fun _ => ?_
  refine ah ⟨.inr rfl, _, rfl, m, w, J, _, (U), (HS.first I), rfl, A, (by exact hu.1), (by exact uniB_all hu (by omega) hl), (by exact a8), (by exact a9)⟩
theorem list_c (ex : FuncId) {a_z : Option Addr} {n_z k_z : Nat} (z : List U64) {F : Fz} {H : Heap} {R : List Fp} (hs : HS (.of H []) F H [] R) (hz : SR F (.slice a_z n_z k_z) z) (hT : TB 37 tabC F) (hsl : z.length ≤ 100000) : C Tryd.prog 1 (KT 60 ex 37 tabC) 52 [(.slice a_z n_z k_z)] H fun v H' => ∃ (ar : Option Addr) (kr : Nat) (r : List Int) (p : Fp) (F' : Fz), Fz.le F F' ∧ HS (.of H []) F' H' [p] R ∧ v = .slice ar r.length kr ∧ OS F' (.slice ar r.length kr) r p ∧ r = j4 z := by
 have ln_z := SR.len' hz
 refine aL Tryd.func52 rfl rfl ?_
 refine ao 1 rfl ?_
 refine wR 2 [] 2 2 [] [(2, (.slice none 0 0))] trivial rfl fun _ => ?_
 refine wR 3 [] 1 0 [3] [(3, (.slice none 0 0))] trivial rfl fun _ => ?_
 refine wR 2 [] 6 8 [] [(7, (iI (n_z : Int))), (8, (iI 0))] trivial rfl fun _ => ?_
 have a4 := HS.snoc hs
 have a4 : HS _ _ _ [[]] _ := a4
 refine aC (fun (mm : Nat) f H' => ∃ (o : List Int) (k : Nat) (O : Option Addr) (T : Nat) (V : Fp) (F' : Fz), Fz.le F F' ∧ HS (Base.of H []) F' H' [V] R ∧ OS F' (.slice O o.length T) o V ∧ aT f [(0, (.slice a_z n_z k_z)), (2, (.slice none 0 0)), (3, (.slice O o.length T)), (7, (iI (n_z : Int))), (8, (iI (k : Int)))] ∧ mm = z.length - k ∧ (o = kx z (64 * k)) ∧ (k ≤ z.length)) _ ⟨([] : List Int), 0, none, 0, [], _, fR, a4, (OS.nil : OS F (.slice none 0 0) ([] : List Int) []), (agC rfl (agC rfl (agC rfl (agC rfl (agC rfl agN))))), rfl, (by rfl), (by omega)⟩ ?_
 rintro c9 f4 H4 ⟨o, k, O, T, V, F4, a2, bb, a0, a9, rfl, ho, hk⟩ b3
 refine aH _ a9 (fun _ => ?_)
 clear a9
 replace hz := hz.mono a2
 refine ao 1 rfl ?_
 refine wR 2 [] 9 9 [] [(9, (.bool (decide ((k : Int) < (n_z : Int)))))] trivial rfl fun _ => ?_
 refine am 4 5 (v := (decide ((k : Int) < (n_z : Int)))) rfl rfl rfl rfl (fun c7 => ?_) (fun c7 => ?_)
 ·
  try simp only [BS] at c7
  refine wR 2 [] 10 10 [4] [(4, (iI (k : Int)))] trivial rfl fun _ => ?_
  refine wR 2 [] 1 0 [5] [(5, (iI 0))] trivial rfl fun _ => ?_
  refine aC (fun (mm : Nat) f H' => ∃ (o2 : List Int) (b : Nat) (A : Option Addr) (I : Nat) (J : Fp) (F' : Fz), Fz.le F4 F' ∧ HS (Base.of H []) F' H' [J] R ∧ OS F' (.slice A o2.length I) o2 J ∧ aT f [(0, (.slice a_z n_z k_z)), (2, (.slice none 0 0)), (3, (.slice A o2.length I)), (4, (iI (k : Int))), (5, (iI (b : Int))), (7, (iI (n_z : Int))), (8, (iI (k : Int))), (9, (.bool (decide ((k : Int) < (n_z : Int)))))] ∧ mm = 64 - b ∧ (o2 = kx z (64 * k + b)) ∧ (b ≤ 64)) _ ⟨o, 0, O, T, V, _, fR, bb, a0, (agC rfl (agC rfl (agC rfl (agC rfl (agC rfl (agC rfl (agC rfl (agC rfl agN)))))))), rfl, (by exact ho), (by omega)⟩ ?_
  rintro ch c4 co ⟨o2, b, A, I, J, ci, ag, U, Z, a3, rfl, av, hb⟩ a7
  refine aH _ a3 (fun _ => ?_)
  clear a3
  replace hz := hz.mono ag
  have hol : o2.length ≤ 64 * k + b := by rw [av]; exact lstK_len
  refine ao 2 rfl ?_
  obtain ⟨b6, a5⟩ := Sv.view (SR.sv hz U)
  have c5 := fU (a5 k)
  refine wR 1 [(3, .o (.int .u64 (z.getD k default).n))] 11 18 [] [(18, (.bool (Int.fdiv (z.getD k default).n (2 ^ (Nat.min b 64)) != 0)))] (vA (Sv.ix (j := (k : Int)) (SR.sv hz U) (by omega) (by omega)) (vA (ql 117 0 (vU (a5 k) (by omega)) rfl rfl) (vA (vu (n := (b : Int)) (by omega)) (vA (show (0 : Int) ≤ (b : Int) from by omega) trivial)))) rfl fun _ => ?_
  refine am 4 5 (v := (Int.fdiv (z.getD k default).n (2 ^ (Nat.min b 64)) != 0)) rfl rfl rfl rfl (fun aq => ?_) (fun aq => ?_)
  ·
   try simp only [BS] at aq
   have b9 := list_lt (by assumption) hb aq
   obtain ⟨b7, a6⟩ := Sv.view (SR.sv hz U)
   have c6 := fU (a6 k)
   refine wR 1 [(3, .o (.int .u64 (z.getD k default).n))] 21 29 [] [(29, (.bool (aK .and .u64 (Int.fdiv (z.getD k default).n (2 ^ (Nat.min b 64))) 1 == 1)))] (vA (Sv.ix (j := (k : Int)) (SR.sv hz U) (by omega) (by omega)) (vA (ql 117 0 (vU (a6 k) (by omega)) rfl rfl) (vA (vu (n := (b : Int)) (by omega)) (vA (show (0 : Int) ≤ (b : Int) from by omega) trivial)))) rfl fun _ => ?_
   refine am 0 2 (v := (aK .and .u64 (Int.fdiv (z.getD k default).n (2 ^ (Nat.min b 64))) 1 == 1)) rfl rfl rfl rfl (fun a1 => ?_) (fun a1 => ?_)
   ·
    try simp only [BS] at a1
    refine ab ?_
    refine wRo 5 0 [] 30 34 [] [(30, (.slice A o2.length I)), (34, (iI ((64 * (k : Int)) + (b : Int))))] (vA (vi (n := 64 * (k : Int)) (by omega)) (vA (vi (n := (64 * (k : Int)) + (b : Int)) (by omega)) trivial)) rfl fun _ => ?_
    refine aR (ct (α := Int) (ps := [(0, (iI ((64 * (k : Int)) + (b : Int))))]) (cells := [(iI ((64 * (k : Int)) + (b : Int)))]) ([(64 * (k : Int)) + (b : Int)] : List Int) U rfl rfl rfl (by kernel_rfl) ⟨[(iI ((64 * (k : Int)) + (b : Int)))], [], rfl, ⟨rfl, by omega⟩, rfl⟩ rfl) rfl rfl ?_
    rintro _ cv b4 ⟨c3, c8, rfl, b1, aj, _⟩
    have aj : HS _ _ _ [J, b4] _ := aj
    refine aR (cQ (α := Int) (q := 0) Z aj rfl rfl rfl (OS.sv b1 aj (i := 1) rfl) rfl rfl rfl rfl rfl rfl rfl (by (simp only [List.length_append, List.length_cons, List.length_nil]; omega))) rfl rfl ?_
    rintro _ c0 bl ⟨a8, bj, rfl, b2, ap, _⟩
    have ap : HS _ _ _ [bl, _] _ := ap
    refine wa (.slice a8 (o2 ++ ([(64 * (k : Int)) + (b : Int)] : List Int)).length bj) rfl rfl rfl ?_
    refine ai 2 rfl ?_
    refine wR 1 [] 19 20 [5] [(5, (iI ((b : Int) + 1)))] (vA (vi (n := (b : Int) + 1) (by omega)) trivial) rfl fun _ => ?_
    refine a7 _ _ _ ?_ ⟨o2 ++ ([(64 * (k : Int)) + (b : Int)] : List Int), b + 1, a8, bj, bl, _, (ag), (HS.sub ap (List.sublist_append_left _ _)), b2, (agC rfl (agC rfl (agC rfl (agC rfl (agC rfl (agC rfl (agC rfl (agC rfl agN)))))))), rfl, (by exact lst_step1 av ((list_bit (by assumption) (by omega)).1 (by assumption))), (by assumption)⟩
    omega
   ·
    try simp only [BS] at a1
    refine wR 1 [] 19 20 [5] [(5, (iI ((b : Int) + 1)))] (vA (vi (n := (b : Int) + 1) (by omega)) trivial) rfl fun _ => ?_
    refine a7 _ _ _ ?_ ⟨o2, b + 1, A, I, J, _, (ag), U, Z, (agC rfl (agC rfl (agC rfl (agC rfl (agC rfl (agC rfl (agC rfl (agC rfl agN)))))))), rfl, (by exact lst_step0 av (fun hh => absurd ((list_bit (by assumption) (by omega)).2 hh) (by assumption))), (by assumption)⟩
    omega
  ·
   try simp only [BS] at aq
   refine wR 1 [] 8 8 [37] [(8, (iI ((k : Int) + 1)))] (vA (vi (n := (k : Int) + 1) (by omega)) trivial) rfl fun _ => ?_
   refine b3 _ _ _ ?_ ⟨o2, k + 1, A, I, J, _, (fT (a2) ag), U, Z, (agC rfl (agC rfl (agC rfl (agC rfl (agC rfl agN))))), rfl, (by rw [av]; exact list_stop (by assumption) hb (by assumption)), (by omega)⟩
   omega
 ·
  try simp only [BS] at c7
  refine wR 1 [] 2 2 [38] [(2, (.slice O o.length T))] trivial rfl fun _ => ?_
  refine ah ⟨.inr rfl, _, rfl, O, T, o, V, _, (a2), (HS.only bb (i := 0) rfl), rfl, a0, (by rw [ho]; unfold j4; congr 1; omega)⟩
theorem addT_c (ex : FuncId) {a_z : Option Addr} {n_z k_z : Nat} {p_z : Fp} (z : List U64) {J : Option Addr} {O : Nat} (b : BlkT) {F : Fz} {H : Heap} {R : List Fp} (hs : HS (.of H (p_z.map Prod.fst)) F H [p_z] R) (hz : OS F (.slice a_z n_z k_z) z p_z) (aj : SR F (.slice J b.ins.length O) b.ins) (ap : in64 b.fin) (aq : in64 b.reg) (ar : in64 b.tgt) (av : in64 b.els) (hT : TB 37 tabC F) (hb : (b.fin = 2 ∨ b.fin = 3) → 0 ≤ b.reg ∧ b.reg < 64 * (z.length : Int)) (hsl : z.length ≤ 100000) : C Tryd.prog 1 (KT 60 ex 37 tabC) 56 [(.slice a_z n_z k_z), (.agg ⟨[(.slice J b.ins.length O), (iI b.fin), (iI b.reg), (iI b.tgt), (iI b.els)]⟩)] H fun v H' => ∃ (z' : List U64) (pm : Fp) (F' : Fz), Fz.le F F' ∧ HS (.of H (p_z.map Prod.fst)) F' H' [pm] R ∧ v = .tuple #[] ∧ OS F' (.slice a_z n_z k_z) z' pm ∧ (z'.length = z.length) ∧ (∀ i, aF z' i = (aF z i || decide ((i : Int) ∈ endV b))) := by
 have lnarg := OS.len' hz
 refine aL Tryd.func56 rfl rfl ?_
 refine ao 1 rfl ?_
 refine ab ?_
 refine aR (cw hs rfl rfl) rfl rfl ?_
 rintro _ H2 _ ⟨b1, rfl, A, _⟩
 have A : HS _ _ _ [p_z, [(b1, .cells [(.slice J b.ins.length O), (iI b.fin), (iI b.reg), (iI b.tgt), (iI b.els)] none false)]] _ := A
 refine ai 2 rfl ?_
 refine wR 1 [(1, .o (iI b.fin)), (5, .o (iI b.fin))] 4 11 [] [(11, (.bool ((b.fin == 2) || (b.fin == 3))))] (vA (ql 3 1 (HS.hc A (i := 1) rfl) rfl rfl) (vA (fun (g1 : (b.fin == 2) = false) => (ql 3 1 (HS.hc A (i := 1) rfl) rfl rfl)) trivial)) rfl fun _ => ?_
 refine am 0 0 (v := ((b.fin == 2) || (b.fin == 3))) rfl rfl rfl rfl (fun V => ?_) (fun V => ?_)
 ·
  try simp only [BS] at V
  have a2 := hb (by omega)
  refine ab ?_
  refine wRo 3 0 [(2, .o (iI b.reg))] 12 14 [] [(12, (.slice a_z n_z k_z)), (14, (iI b.reg))] (vA (ql 3 2 (HS.hc A (i := 1) rfl) rfl rfl) trivial) rfl fun _ => ?_
  refine aD (az rfl rfl rfl) rfl rfl (add_c ex z b.reg (HS.callOwn A (i := 0) rfl) hz (by omega) hT (by omega) (by omega)) ?_
  rintro _ H6 ⟨ad, U, F6, Z, I, rfl, T, a0, a1⟩
  replace I := HS.backOwn A (i := 0) rfl rfl (fun _ hb => hb) I
  have I : HS _ _ _ [U, _] _ := I
  have a3 := OS.len' T
  refine ai 0 rfl ?_
  refine aE ⟨.inl rfl, _, rfl, ad, U, _, (Z), (HS.first I), rfl, T, (by assumption), (by exact end_ok (.inl ⟨by omega, by omega, by assumption⟩))⟩
 ·
  try simp only [BS] at V
  refine aE ⟨.inl rfl, _, rfl, z, p_z, _, fR, (HS.first A), rfl, hz, (by rfl), (by exact end_ok (.inr ⟨by omega, rfl⟩))⟩
theorem kj (ex : FuncId) {a_z : Option Addr} {n_z k_z : Nat} {p_z : Fp} (z : List U64) {O : Option Addr} {V : Nat} (iv : VInT) {F : Fz} {H : Heap} {R : List Fp} (hs : HS (.of H (p_z.map Prod.fst)) F H [p_z] R) (hz : OS F (.slice a_z n_z k_z) z p_z) (dn : in64 iv.i.op) (ds : in64 iv.i.a) (dt : in64 iv.i.b) (dv : in64 iv.i.c) (d1 : in64 iv.i.n) (T : SR F (.slice O iv.args.length V) iv.args) (hT : TB 37 tabC F) (hr : ∀ x ∈ bd iv, 0 ≤ x ∧ x < 64 * (z.length : Int)) (hw : ∀ x ∈ aQ iv, 0 ≤ x ∧ x < 64 * (z.length : Int)) (hlen : iv.args.length ≤ 1048576) (hsl : z.length ≤ 100000) : C Tryd.prog 1 (KT 60 ex 37 tabC) 60 [(.slice a_z n_z k_z), (.agg ⟨[(iI iv.i.op), (iI iv.i.a), (iI iv.i.b), (iI iv.i.c), (iI iv.i.n), (.slice O iv.args.length V)]⟩)] H fun v H' => ∃ (z' : List U64) (pm : Fp) (F' : Fz), Fz.le F F' ∧ HS (.of H (p_z.map Prod.fst)) F' H' [pm] R ∧ v = .tuple #[] ∧ OS F' (.slice a_z n_z k_z) z' pm ∧ (z'.length = z.length) ∧ (∀ i, aF z' i = ((aF z i && !decide ((i : Int) ∈ aQ iv)) || decide ((i : Int) ∈ bd iv))) := by
 have lnarg := OS.len' hz
 have hwl := writes_len (v := iv)
 have hrl := reads_len (v := iv)
 refine aL Tryd.func60 rfl rfl ?_
 refine ao 1 rfl ?_
 refine ab ?_
 refine aR (cw hs rfl rfl) rfl rfl ?_
 rintro _ H2 _ ⟨b1, rfl, a1, _⟩
 let b0 : Fp := [(b1, .cells [(iI iv.i.op), (iI iv.i.a), (iI iv.i.b), (iI iv.i.c), (iI iv.i.n), (.slice O iv.args.length V)] none false)]
 have a1 : HS _ _ _ [p_z, b0] _ := a1
 refine ai 3 rfl ?_
 refine ab ?_
 let a5 : Value := (.agg ⟨[(iI iv.i.op), (iI iv.i.a), (iI iv.i.b), (iI iv.i.c), (iI iv.i.n), (.slice O iv.args.length V)]⟩)
 refine wRo 1 0 [(0, .o a5)] 8 8 [] [(8, a5)] (vA (qn 47 0 6 (HS.hc a1 (i := 1) rfl) rfl rfl rfl rfl) trivial) rfl fun _ => ?_
 refine aD (az rfl rfl rfl) rfl rfl (ma.vwrites_c ex iv (HS.call a1) (by omega) (by omega) (by omega) (by omega) (by omega) T hT) ?_
 rintro _ H4 ⟨c6, dl, r4, p4, F4, a4, a2, rfl, av, rfl⟩
 replace a2 := HS.back a1 rfl a2
 have a2 : HS _ _ _ [_, _, p4] _ := a2
 replace hz := hz.mono a4
 refine wRo 2 2 [] 10 11 [] [(10, (iI ((aQ iv).length : Int))), (11, (iI 0))] trivial rfl fun _ => ?_
 refine ai 2 rfl ?_
 refine aC (fun (mm : Nat) f H' => ∃ (w : List U64) (k : Nat) (J : Fp) (F' : Fz), Fz.le F4 F' ∧ HS (Base.of H (p_z.map Prod.fst)) F' H' [J, b0, p4] R ∧ OS F' (.slice a_z n_z k_z) w J ∧ aT f [(0, (.slice a_z n_z k_z)), (3, (.pointer (some ⟨b1, 0, none⟩))), (9, (.slice c6 (aQ iv).length dl)), (10, (iI ((aQ iv).length : Int))), (11, (iI (k : Int)))] ∧ mm = (aQ iv).length - k ∧ (w.length = z.length) ∧ (∀ i, aF w i = (aF z i && !decide ((i : Int) ∈ (aQ iv).take k))) ∧ (k ≤ (aQ iv).length)) _ ⟨z, 0, p_z, _, fR, a2, hz, (agC rfl (agC rfl (agC rfl (agC rfl (agC rfl agN))))), rfl, (by rfl), (by intro i; simp), (by omega)⟩ ?_
 rintro e9 f6 H6 ⟨w, k, J, F6, a0, ap, A, b2, rfl, g1, g2, g3⟩ dk
 refine aH _ b2 (fun _ => ?_)
 clear b2
 replace hT := (hT.mono a4).mono a0
 replace T := (T.mono a4).mono a0
 replace av := av.mono a0
 have c4 := OS.len' A
 refine ao 1 rfl ?_
 refine wR 2 [] 12 12 [] [(12, (.bool (decide ((k : Int) < ((aQ iv).length : Int)))))] trivial rfl fun _ => ?_
 refine am 4 5 (v := (decide ((k : Int) < ((aQ iv).length : Int)))) rfl rfl rfl rfl (fun c8 => ?_) (fun c8 => ?_)
 ·
  try simp only [BS] at c8
  have hlw := lim_at hw (by omega : k < (aQ iv).length)
  obtain ⟨e3, b3⟩ := Sv.view (OS.sv av ap (i := 2) rfl)
  have e5 := fI (b3 k)
  refine wR 1 [(1, .o (iI ((aQ iv).getD k 0)))] 13 14 [5] [(5, (iI ((aQ iv).getD k 0)))] (vA (Sv.ix (j := (k : Int)) (OS.sv av ap (i := 2) rfl) (by omega) (by omega)) (vA (ql 3 0 (vI (b3 k) (by omega)) rfl rfl) trivial)) rfl fun _ => ?_
  refine ab ?_
  refine wRo 2 0 [] 15 16 [] [(15, (.slice a_z n_z k_z)), (16, (iI ((aQ iv).getD k 0)))] trivial rfl fun _ => ?_
  refine aD (az rfl rfl rfl) rfl rfl (rem_c ex w ((aQ iv).getD k 0) (HS.callOwn ap (i := 0) rfl) A (by omega) hT (by omega) (by omega)) ?_
  rintro _ ez ⟨c0, bj, et, b7, Z, rfl, a8, eb, ei⟩
  replace Z := HS.backOwn ap (i := 0) rfl rfl (fun _ hb => hb) Z
  have Z : HS _ _ _ [bj, _, _] _ := Z
  have em := OS.len' a8
  refine ai 2 rfl ?_
  refine wR 1 [] 11 11 [18] [(11, (iI ((k : Int) + 1)))] (vA (vi (n := (k : Int) + 1) (by omega)) trivial) rfl fun _ => ?_
  refine dk _ _ _ ?_ ⟨c0, k + 1, bj, _, (fT (a0) b7), Z, a8, (agC rfl (agC rfl (agC rfl (agC rfl (agC rfl agN))))), rfl, (by omega), (by exact rem_step (by omega) g2 (lim_at hw (by omega)).1 (by assumption)), (by omega)⟩
  omega
 ·
  try simp only [BS] at c8
  refine ab ?_
  refine wRo 1 0 [(0, .o a5)] 19 19 [] [(19, a5)] (vA (qn 47 0 6 (HS.hc ap (i := 1) rfl) rfl rfl rfl rfl) trivial) rfl fun _ => ?_
  refine aD (az rfl rfl rfl) rfl rfl (ma.vreads_c ex iv (HS.call ap) (by omega) (by omega) (by omega) (by omega) (by omega) T hT (by omega)) ?_
  rintro _ e0 ⟨b5, ci, fd, b4, c5, a3, ad, rfl, U, rfl⟩
  replace ad := HS.back ap rfl ad
  have ad : HS _ _ _ [J, _, _, b4] _ := ad
  replace A := A.mono a3
  refine wRo 2 2 [] 21 22 [] [(21, (iI ((bd iv).length : Int))), (22, (iI 0))] trivial rfl fun _ => ?_
  refine ai 2 rfl ?_
  refine aC (fun (mm : Nat) f H' => ∃ (u : List U64) (q : Nat) (I : Fp) (F' : Fz), Fz.le c5 F' ∧ HS (Base.of H (p_z.map Prod.fst)) F' H' [I, b0, p4, b4] R ∧ OS F' (.slice a_z n_z k_z) u I ∧ aT f [(0, (.slice a_z n_z k_z)), (20, (.slice b5 (bd iv).length ci)), (21, (iI ((bd iv).length : Int))), (22, (iI (q : Int)))] ∧ mm = (bd iv).length - q ∧ (u.length = z.length) ∧ (∀ i, aF u i = (aF w i || decide ((i : Int) ∈ (bd iv).take q))) ∧ (q ≤ (bd iv).length)) _ ⟨w, 0, J, _, fR, ad, A, (agC rfl (agC rfl (agC rfl (agC rfl agN)))), rfl, (by assumption), (by intro i; simp), (by omega)⟩ ?_
  rintro es e4 e1 ⟨u, q, I, ev, ar, ag, aq, a7, rfl, g4, g5, g6⟩ ch
  refine aH _ a7 (fun _ => ?_)
  clear a7
  replace hT := (hT.mono a3).mono ar
  replace U := U.mono ar
  have co := OS.len' aq
  refine ao 1 rfl ?_
  refine wR 2 [] 23 23 [] [(23, (.bool (decide ((q : Int) < ((bd iv).length : Int)))))] trivial rfl fun _ => ?_
  refine am 4 3 (v := (decide ((q : Int) < ((bd iv).length : Int)))) rfl rfl rfl rfl (fun a6 => ?_) (fun a6 => ?_)
  ·
   try simp only [BS] at a6
   have hlr := lim_at hr (by omega : q < (bd iv).length)
   obtain ⟨ea, bb⟩ := Sv.view (OS.sv U ag (i := 3) rfl)
   have e6 := fI (bb q)
   refine wR 1 [(1, .o (iI ((bd iv).getD q 0)))] 24 25 [7] [(7, (iI ((bd iv).getD q 0)))] (vA (Sv.ix (j := (q : Int)) (OS.sv U ag (i := 3) rfl) (by omega) (by omega)) (vA (ql 3 0 (vI (bb q) (by omega)) rfl rfl) trivial)) rfl fun _ => ?_
   refine ab ?_
   refine wRo 2 0 [] 26 27 [] [(26, (.slice a_z n_z k_z)), (27, (iI ((bd iv).getD q 0)))] trivial rfl fun _ => ?_
   refine aD (az rfl rfl rfl) rfl rfl (add_c ex u ((bd iv).getD q 0) (HS.callOwn ag (i := 0) rfl) aq (by omega) hT (by omega) (by omega)) ?_
   rintro _ e2 ⟨c3, bl, ey, b9, aj, rfl, a9, ec, el⟩
   replace aj := HS.backOwn ag (i := 0) rfl rfl (fun _ hb => hb) aj
   have aj : HS _ _ _ [bl, _, _, _] _ := aj
   have ep := OS.len' a9
   refine ai 2 rfl ?_
   refine wR 1 [] 22 22 [29] [(22, (iI ((q : Int) + 1)))] (vA (vi (n := (q : Int) + 1) (by omega)) trivial) rfl fun _ => ?_
   refine ch _ _ _ ?_ ⟨c3, q + 1, bl, _, (fT (ar) b9), aj, a9, (agC rfl (agC rfl (agC rfl (agC rfl agN)))), rfl, (by omega), (by exact add_step (by omega) g5 (lim_at hr (by omega)).1 (by assumption)), (by omega)⟩
   omega
  ·
   try simp only [BS] at a6
   refine aE ⟨.inl rfl, _, rfl, u, I, _, (fT (fT (fT (a4) a0) a3) ar), (HS.first ag), rfl, aq, (by omega), (by exact tr_done (fun i => by rw [g2 i, List.take_of_length_le (by omega)]) (fun i => by rw [g5 i, List.take_of_length_le (by omega)]))⟩
end Go.Proofs.YtlabedbmgmfbaaaDoor.mb
