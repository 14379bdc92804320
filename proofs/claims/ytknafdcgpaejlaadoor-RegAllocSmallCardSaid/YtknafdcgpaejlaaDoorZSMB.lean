/-
 Live registers: the program, function by function, each by a symbolic run. No condition but that the function is valid.
-/
import Derived.Test.YtknafdcgpaejlaaDoorZSML
noncomputable section
namespace Go.Proofs.YtknafdcgpaejlaaDoor.mb
open Go.R
set_option maxRecDepth 10000
set_option linter.unusedVariables false
set_option linter.unusedSimpArgs false
open m1 m2 m3 m4 m5 m6 ma ml
theorem lst_step1 {s : List U64} {o : List Int} {k b : Nat} (ho : o = iR s (64 * k + b)) (h : ap s (64 * k + b) = true) : o ++ ([64 * (k : Int) + (b : Int)] : List Int) = iR s (64 * k + (b + 1)) := by
 rw [show 64 * k + (b + 1) = (64 * k + b) + 1 by omega, ic, if_pos h, ← ho]; simp
theorem lst_step0 {s : List U64} {o : List Int} {k b : Nat} (ho : o = iR s (64 * k + b)) (h : ¬ ap s (64 * k + b) = true) : o = iR s (64 * k + (b + 1)) := by
 rw [show 64 * k + (b + 1) = (64 * k + b) + 1 by omega, ic, if_neg h, ← ho]; simp
theorem end_ok {s s' : List U64} {b : BlkT} (h : ((b.fin = 2 ∨ b.fin = 3) ∧ 0 ≤ b.reg ∧ ∀ i, ap s' i = (ap s i || decide (i = b.reg.toNat))) ∨ (¬ (b.fin = 2 ∨ b.fin = 3) ∧ s' = s)) (i : Nat) : ap s' i = (ap s i || decide ((i : Int) ∈ endV b)) := by
 unfold endV
 rcases h with ⟨A, I, E⟩ | ⟨A, rfl⟩
 ·
  rw [if_pos A, E]; congr 1; rw [decide_eq_decide, List.mem_singleton]; omega
 rw [if_neg A]; simp
theorem rem_step {s w w' : List U64} {l : List Int} {k : Nat} (hk : k < l.length) (h : ∀ i, ap w i = (ap s i && !decide ((i : Int) ∈ l.take k))) (J : 0 ≤ l.getD k 0) (I : ∀ i, ap w' i = (ap w i && !decide (i = (l.getD k 0).toNat))) (i : Nat) : ap w' i = (ap s i && !decide ((i : Int) ∈ l.take (k + 1))) := by
 rw [I, h, bn hk (d := 0), Bool.and_assoc]
 congr 1
 rw [Bool.eq_iff_iff]
 simp only [Bool.and_eq_true, Bool.not_eq_true', decide_eq_false_iff_not, List.mem_append, List.mem_singleton]
 constructor
 ·
  rintro ⟨E, N⟩ (A | A)
  ·
   exact E A
  omega
 intro E; exact ⟨fun A => E (.inl A), fun A => E (.inr (by omega))⟩
theorem add_step {s w w' : List U64} {l : List Int} {k : Nat} (hk : k < l.length) (h : ∀ i, ap w i = (ap s i || decide ((i : Int) ∈ l.take k))) (I : 0 ≤ l.getD k 0) (E : ∀ i, ap w' i = (ap w i || decide (i = (l.getD k 0).toNat))) (i : Nat) : ap w' i = (ap s i || decide ((i : Int) ∈ l.take (k + 1))) := by
 rw [E, h, bn hk (d := 0), Bool.or_assoc]
 congr 1
 rw [Bool.eq_iff_iff]
 simp only [Bool.or_eq_true, decide_eq_true_eq, List.mem_append, List.mem_singleton]
 constructor
 ·
  rintro (A | A)
  ·
   exact .inl A
  exact .inr (by omega)
 rintro (A | A)
 ·
  exact .inl A
 exact .inr (by omega)
theorem fu {l : List Int} {m : Int} (h : ∀ x ∈ l, 0 ≤ x ∧ x < m) {k : Nat} (hk : k < l.length) : 0 ≤ l.getD k 0 ∧ l.getD k 0 < m := by
 rw [List.getD_eq_getElem?_getD, List.getElem?_eq_getElem hk]; exact h _ (List.getElem_mem hk)
theorem dK {v : VInT} : (ab v).length ≤ 1 := by unfold ab; split <;> simp
theorem fq {v : VInT} : (aD v).length ≤ 3 + v.args.length := by
 unfold aD
 split
 ·
  refine Nat.le_trans uni_len ?_
  unfold readsL
  simp only [List.length_append, List.length_nil]
  have A := fS (a := v.i.a) (p := (aN v.i.op).ra = true)
  have E := fS (a := v.i.b) (p := (aN v.i.op).rb = true)
  have I := fS (a := v.i.c) (p := v.i.op = 11 ∨ v.i.op = 12)
  have J : (if v.i.op = 6 then v.args else []).length ≤ v.args.length := by split <;> first | exact Nat.le_refl _ | exact Nat.zero_le _
  omega
 exact Nat.zero_le _
theorem tr_done {s w v' : List U64} {iv : VInT} (A : ∀ i, ap w i = (ap s i && !decide ((i : Int) ∈ ab iv))) (E : ∀ i, ap v' i = (ap w i || decide ((i : Int) ∈ aD iv))) (i : Nat) : ap v' i = ((ap s i && !decide ((i : Int) ∈ ab iv)) || decide ((i : Int) ∈ aD iv)) := by rw [E, A]
theorem empty_c (ex : FuncId) (n : Int) {F : Fz} {H : Heap} {R : List Fp} (hs : HS (.of H []) F H [] R) (hn : in64 n) (hT : TB 37 tabC F) (hn : 0 ≤ n ∧ n ≤ 1000000) : C Tryd.prog 1 (KT 60 ex 37 tabC) 113 [(iI n)] H fun v H' => ∃ (ar : Option Addr) (kr : Nat) (r : List U64) (p : Fp) (F' : Fz), Fz.le F F' ∧ HS (.of H []) F' H' [p] R ∧ v = .slice ar r.length kr ∧ OS F' (.slice ar r.length kr) r p ∧ r = List.replicate (Int.tdiv (n + 63) 64).toNat (⟨0⟩ : U64) := by
 have hq : Int.tdiv (n + 63) 64 = (n + 63) / 64 := Int.tdiv_eq_ediv_of_nonneg (by omega)
 refine aM Tryd.func113 rfl rfl ?_
 refine am 1 rfl ?_
 refine wR 2 [] 2 2 [] [(2, (.slice none 0 0))] trivial rfl fun _ => ?_
 refine aa ?_
 have O : in64 (n + 63) → in64 (Int.tdiv (n + 63) 64) := fun h => vq h (by decide)
 refine wRo 3 0 [] 3 5 [] [(5, (iI (Int.tdiv (n + 63) 64)))] (vA (vi (n := n + 63) (by omega)) (vA (vA (show (64 : Int) ≠ 0 from by decide) (vq (a := n + 63) (b := 64) (by omega) (by decide))) trivial)) rfl fun _ => ?_
 refine aK (cV (⟨0⟩ : U64) hs rfl rfl rfl rfl rfl rfl rfl rfl rfl ⟨rfl, by decide⟩ (by omega) (by omega)) rfl rfl ?_
 rintro _ T N ⟨A, J, rfl, E, (I : HS _ _ _ [N] _), _⟩
 refine wa (.slice A (List.replicate (Int.tdiv (n + 63) 64).toNat (⟨0⟩ : U64)).length J) rfl rfl rfl ?_
 refine aj 1 rfl ?_
 refine az ⟨.inr rfl, _, rfl, A, J, List.replicate (Int.tdiv (n + 63) 64).toNat (⟨0⟩ : U64), N, _, fR, (HS.only I (i := 0) rfl), rfl, E, (by first | rfl | omega | simp_all)⟩
theorem add_c (ex : FuncId) {a_z : Option Addr} {n_z k_z : Nat} {p_z : Fp} (z : List U64) (n : Int) {F : Fz} {H : Heap} {R : List Fp} (hs : HS (.of H (p_z.map Prod.fst)) F H [p_z] R) (hz : OS F (.slice a_z n_z k_z) z p_z) (hn : in64 n) (hT : TB 37 tabC F) (hn : 0 ≤ n ∧ n < 64 * (z.length : Int)) (hsl : z.length ≤ 100000) : C Tryd.prog 1 (KT 60 ex 37 tabC) 116 [(.slice a_z n_z k_z), (iI n)] H fun v H' => ∃ (z' : List U64) (pm : Fp) (F' : Fz), Fz.le F F' ∧ HS (.of H (p_z.map Prod.fst)) F' H' [pm] R ∧ v = .tuple #[] ∧ OS F' (.slice a_z n_z k_z) z' pm ∧ (z'.length = z.length) ∧ (∀ i, ap z' i = (ap z i || decide (i = n.toNat))) := by
 have lnarg := OS.len' hz
 have hq := n64 hn
 refine aM Tryd.func116 rfl rfl ?_
 refine aa ?_
 have T : in64 n → in64 (Int.tdiv n 64) := fun h => vq h (by decide)
 obtain ⟨O, E⟩ := Sv.view (OS.sv hz hs (i := 0) rfl)
 have V := fU (E (Int.tdiv n 64).toNat)
 refine wRo 11 0 [(4, .o (.int .u64 (z.getD (Int.tdiv n 64).toNat default).n))] 4 14 [] [(13, (.int .u64 (aL .or .u64 (z.getD (Int.tdiv n 64).toNat default).n (IntKind.u64.wrap (1 * 2 ^ (Nat.min (Int.tmod n 64).toNat 64)))))), (14, (.pointer (some ⟨sB (.slice a_z n_z k_z), sO (.slice a_z n_z k_z) + (Int.tdiv n 64).toNat * Rp.sz U64, none⟩)))] (vA (vA (show (64 : Int) ≠ 0 from by decide) (vq (a := n) (b := 64) (by first | omega | (dsimp only; exact ah _ _ _)) (by decide))) (vA (Sv.ix (j := Int.tdiv n 64) (OS.sv hz hs (i := 0) rfl) (by first | omega | (dsimp only; exact ah _ _ _)) (by first | omega | (dsimp only; exact ah _ _ _))) (vA (ql 87 0 (vU (E (Int.tdiv n 64).toNat) (by first | omega | (dsimp only; exact ah _ _ _))) rfl rfl) (vA (show (64 : Int) ≠ 0 from by decide) (vA (vu (n := Int.tmod n 64) (by first | omega | (dsimp only; exact ah _ _ _))) (vA (show (0 : Int) ≤ Int.tmod n 64 from by first | omega | (dsimp only; exact ah _ _ _)) (vA (Sv.ix (j := Int.tdiv n 64) (OS.sv hz hs (i := 0) rfl) (by first | omega | (dsimp only; exact ah _ _ _)) (by first | omega | (dsimp only; exact ah _ _ _))) trivial))))))) rfl fun _ => ?_
 refine aT (ei (α := U64) (j := (Int.tdiv n 64).toNat) (off := 0) (q := 0) ⟨aL .or .u64 (z.getD (Int.tdiv n 64).toNat default).n (IntKind.u64.wrap (1 * 2 ^ (Nat.min (Int.tmod n 64).toNat 64)))⟩ hz hs rfl rfl rfl rfl rfl rfl rfl rfl (aY (x := default) (by first | omega | (dsimp only; exact ah _ _ _))) rfl (by rintro cs ⟨rfl, _⟩; exact ⟨Nat.le_of_ble_eq_true rfl, rfl, by first | omega | (dsimp only; exact ah _ _ _)⟩)) rfl ?_
 rintro _ U J ⟨A, (I : HS _ _ _ [J] _), _⟩
 have N := OS.len' A
 refine aj 0 rfl ?_
 refine aZ ⟨.inl rfl, _, rfl, z.set (Int.tdiv n 64).toNat ⟨aL .or .u64 (z.getD (Int.tdiv n 64).toNat default).n (IntKind.u64.wrap (1 * 2 ^ (Nat.min (Int.tmod n 64).toNat 64)))⟩, J, _, fR, (HS.first I), rfl, A, (by exact List.length_set), (by exact fun i => add_ok hn (by assumption) i)⟩
theorem rem_c (ex : FuncId) {a_z : Option Addr} {n_z k_z : Nat} {p_z : Fp} (z : List U64) (n : Int) {F : Fz} {H : Heap} {R : List Fp} (hs : HS (.of H (p_z.map Prod.fst)) F H [p_z] R) (hz : OS F (.slice a_z n_z k_z) z p_z) (hn : in64 n) (hT : TB 37 tabC F) (hn : 0 ≤ n ∧ n < 64 * (z.length : Int)) (hsl : z.length ≤ 100000) : C Tryd.prog 1 (KT 60 ex 37 tabC) 115 [(.slice a_z n_z k_z), (iI n)] H fun v H' => ∃ (z' : List U64) (pm : Fp) (F' : Fz), Fz.le F F' ∧ HS (.of H (p_z.map Prod.fst)) F' H' [pm] R ∧ v = .tuple #[] ∧ OS F' (.slice a_z n_z k_z) z' pm ∧ (z'.length = z.length) ∧ (∀ i, ap z' i = (ap z i && !decide (i = n.toNat))) := by
 have lnarg := OS.len' hz
 have hq := n64 hn
 refine aM Tryd.func115 rfl rfl ?_
 refine aa ?_
 have T : in64 n → in64 (Int.tdiv n 64) := fun h => vq h (by decide)
 obtain ⟨O, E⟩ := Sv.view (OS.sv hz hs (i := 0) rfl)
 have V := fU (E (Int.tdiv n 64).toNat)
 refine wRo 11 0 [(4, .o (.int .u64 (z.getD (Int.tdiv n 64).toNat default).n))] 4 14 [] [(13, (.int .u64 (aL .andNot .u64 (z.getD (Int.tdiv n 64).toNat default).n (IntKind.u64.wrap (1 * 2 ^ (Nat.min (Int.tmod n 64).toNat 64)))))), (14, (.pointer (some ⟨sB (.slice a_z n_z k_z), sO (.slice a_z n_z k_z) + (Int.tdiv n 64).toNat * Rp.sz U64, none⟩)))] (vA (vA (show (64 : Int) ≠ 0 from by decide) (vq (a := n) (b := 64) (by first | omega | (dsimp only; exact ah _ _ _)) (by decide))) (vA (Sv.ix (j := Int.tdiv n 64) (OS.sv hz hs (i := 0) rfl) (by first | omega | (dsimp only; exact ah _ _ _)) (by first | omega | (dsimp only; exact ah _ _ _))) (vA (ql 87 0 (vU (E (Int.tdiv n 64).toNat) (by first | omega | (dsimp only; exact ah _ _ _))) rfl rfl) (vA (show (64 : Int) ≠ 0 from by decide) (vA (vu (n := Int.tmod n 64) (by first | omega | (dsimp only; exact ah _ _ _))) (vA (show (0 : Int) ≤ Int.tmod n 64 from by first | omega | (dsimp only; exact ah _ _ _)) (vA (Sv.ix (j := Int.tdiv n 64) (OS.sv hz hs (i := 0) rfl) (by first | omega | (dsimp only; exact ah _ _ _)) (by first | omega | (dsimp only; exact ah _ _ _))) trivial))))))) rfl fun _ => ?_
 refine aT (ei (α := U64) (j := (Int.tdiv n 64).toNat) (off := 0) (q := 0) ⟨aL .andNot .u64 (z.getD (Int.tdiv n 64).toNat default).n (IntKind.u64.wrap (1 * 2 ^ (Nat.min (Int.tmod n 64).toNat 64)))⟩ hz hs rfl rfl rfl rfl rfl rfl rfl rfl (aY (x := default) (by first | omega | (dsimp only; exact ah _ _ _))) rfl (by rintro cs ⟨rfl, _⟩; exact ⟨Nat.le_of_ble_eq_true rfl, rfl, by first | omega | (dsimp only; exact ah _ _ _)⟩)) rfl ?_
 rintro _ U J ⟨A, (I : HS _ _ _ [J] _), _⟩
 have N := OS.len' A
 refine aj 0 rfl ?_
 refine aZ ⟨.inl rfl, _, rfl, z.set (Int.tdiv n 64).toNat ⟨aL .andNot .u64 (z.getD (Int.tdiv n 64).toNat default).n (IntKind.u64.wrap (1 * 2 ^ (Nat.min (Int.tmod n 64).toNat 64)))⟩, J, _, fR, (HS.first I), rfl, A, (by exact List.length_set), (by exact fun i => rem_ok hn (by assumption) i)⟩
theorem union_c (ex : FuncId) {a_z : Option Addr} {n_z k_z : Nat} {p_z : Fp} (z : List U64) {a_t : Option Addr} {n_t k_t : Nat} (t : List U64) {F : Fz} {H : Heap} {R : List Fp} (hs : HS (.of H (p_z.map Prod.fst)) F H [p_z] R) (hz : OS F (.slice a_z n_z k_z) z p_z) (ht : SR F (.slice a_t n_t k_t) t) (hT : TB 37 tabC F) (hl : t.length = z.length) (hsl : z.length ≤ 100000) : C Tryd.prog 1 (KT 60 ex 37 tabC) 117 [(.slice a_z n_z k_z), (.slice a_t n_t k_t)] H fun v H' => ∃ (r : Bool) (z' : List U64) (pm : Fp) (F' : Fz), Fz.le F F' ∧ HS (.of H (p_z.map Prod.fst)) F' H' [pm] R ∧ v = .bool r ∧ OS F' (.slice a_z n_z k_z) z' pm ∧ (z'.length = z.length) ∧ (∀ i, ap z' i = (ap z i || ap t i)) ∧ (r = false → z' = z) ∧ (r = true → ∃ i, ap t i = true ∧ ap z i = false) := by
 have ln_t := SR.len' ht
 have lnarg := OS.len' hz
 refine aM Tryd.func117 rfl rfl ?_
 refine am 1 rfl ?_
 refine wR 2 [] 4 4 [] [(4, (.bool false))] trivial rfl fun _ => ?_
 refine wR 3 [] 1 0 [5] [(5, (.bool false))] trivial rfl fun _ => ?_
 refine wR 2 [] 7 9 [] [(8, (iI (n_z : Int))), (9, (iI 0))] trivial rfl fun _ => ?_
 refine ak (fun (mm : Nat) f H' => ∃ (w : List U64) (k : Nat) (m : Bool) (I : Fp) (F' : Fz), Fz.le F F' ∧ HS (Base.of H (p_z.map Prod.fst)) F' H' [I] R ∧ OS F' (.slice a_z n_z k_z) w I ∧ aH f [(0, (.slice a_z n_z k_z)), (1, (.slice a_t n_t k_t)), (4, (.bool false)), (5, (.bool m)), (8, (iI (n_z : Int))), (9, (iI (k : Int)))] ∧ mm = z.length - k ∧ (uniB z t k w) ∧ (k ≤ z.length) ∧ (m = false → w = z) ∧ (m = true → ∃ i, ap t i = true ∧ ap z i = false)) _ ⟨z, 0, false, p_z, _, fR, hs, hz, (agC rfl (agC rfl (agC rfl (agC rfl (agC rfl (agC rfl agN)))))), rfl, (by exact uniB_zero), (by first | assumption | omega | (simp at *; omega)), (by exact fun _ => rfl), (by intro h; cases h)⟩ ?_
 rintro b5 f4 H4 ⟨w, k, m, I, F4, T, E, A, al, rfl, hu, hk, a6, a7⟩ ar
 refine aq _ al (fun _ => ?_)
 clear al
 replace ht := ht.mono T
 have a2 := OS.len' A
 have hwl := hu.1
 refine am 1 rfl ?_
 refine wR 2 [] 10 10 [] [(10, (.bool (decide ((k : Int) < (n_z : Int)))))] trivial rfl fun _ => ?_
 refine au 4 5 (v := (decide ((k : Int) < (n_z : Int)))) rfl rfl rfl rfl (fun V => ?_) (fun V => ?_)
 ·
  have c6 := V
  try simp only [BS] at c6
  refine wR 2 [] 11 11 [6] [(6, (iI (k : Int)))] trivial rfl fun _ => ?_
  obtain ⟨b3, an⟩ := Sv.view (SR.sv ht E)
  have g9 := fU (an k)
  obtain ⟨b0, Z⟩ := Sv.view (OS.sv A E (i := 0) rfl)
  have b4 := fU (Z k)
  refine wRD 1 [(3, .o (.int .u64 (t.getD k default).n)), (7, .o (.int .u64 (w.getD k default).n))] 12 21 [] [(21, (.bool (aL .andNot .u64 (t.getD k default).n (w.getD k default).n != 0)))] (vA (Sv.ix (j := (k : Int)) (SR.sv ht E) (by first | omega | (dsimp only; exact ah _ _ _)) (by first | omega | (dsimp only; exact ah _ _ _))) (vA (ql 87 0 (hc0 (vU (an k) (by first | omega | (dsimp only; exact ah _ _ _)))) rfl rfl) (vA (Sv.ix (j := (k : Int)) (OS.sv A E (i := 0) rfl) (by first | omega | (dsimp only; exact ah _ _ _)) (by first | omega | (dsimp only; exact ah _ _ _))) (vA (ql 87 0 (hc0 (vU (Z k) (by first | omega | (dsimp only; exact ah _ _ _)))) rfl rfl) trivial)))) rfl rfl fun _ => ?_
  refine au 1 2 (v := (aL .andNot .u64 (t.getD k default).n (w.getD k default).n != 0)) rfl rfl rfl rfl (fun N => ?_) (fun N => ?_)
  ·
   have U := N
   try simp only [BS] at U
   refine wR 1 [] 1 0 [5] [(5, (.bool true))] trivial rfl fun _ => ?_
   refine bL rfl ?_
   refine fm (.slice a_z n_z k_z) rfl rfl rfl ?_
   refine fm (iI (k : Int)) rfl rfl rfl ?_
   refine aO (v := (.pointer (some ⟨sB (.slice a_z n_z k_z), sO (.slice a_z n_z k_z) + k * Rp.sz U64, none⟩))) (id := .v) (cz (α := U64) (j := (k : Int)) rfl rfl rfl rfl (OS.sv A E.log0 (i := 0) rfl) (by first | omega | (dsimp only; exact ah _ _ _)) (by first | omega | (dsimp only; exact ah _ _ _))) rfl rfl (dD rfl) (du _) ?_
   obtain ⟨b1, ay, aw⟩ := Sv.at (OS.sv A E.log0 (i := 0) rfl) (aY (x := default) (show k < w.length from by first | omega | (dsimp only; exact ah _ _ _)))
   obtain ⟨rfl, a8, a4⟩ := ay
   refine aO (v := (.int .u64 (w.getD k default).n)) (id := .l (sB (.slice a_z n_z k_z))) (b8 (i := 0) rfl rfl aw rfl rfl) rfl rfl (ey rfl) (⟨.inl rfl, ⟨.inl rfl, ⟨.inl rfl, trivial⟩⟩⟩) ?_
   refine fm (.slice a_t n_t k_t) rfl rfl rfl ?_
   refine fm (iI (k : Int)) rfl rfl rfl ?_
   refine aO (v := (.pointer (some ⟨sB (.slice a_t n_t k_t), sO (.slice a_t n_t k_t) + k * Rp.sz U64, none⟩))) (id := .v) (cz (α := U64) (j := (k : Int)) rfl rfl rfl rfl (SR.sv ht E.log0) (by first | omega | (dsimp only; exact ah _ _ _)) (by first | omega | (dsimp only; exact ah _ _ _))) rfl rfl (dD rfl) (du _) ?_
   obtain ⟨b2, a0, ax⟩ := Sv.at (SR.sv ht E.log0) (aY (x := default) (show k < t.length from by first | omega | (dsimp only; exact ah _ _ _)))
   obtain ⟨rfl, a9, a5⟩ := a0
   refine aO (v := (.int .u64 (t.getD k default).n)) (id := .l (sB (.slice a_t n_t k_t))) (b8 (i := 0) rfl rfl ax rfl rfl) rfl rfl (ey rfl) (⟨.inl rfl, ⟨.inl rfl, ⟨.inl rfl, ⟨.inr trivial, ⟨.inr trivial, ⟨.inr trivial, ⟨.inr trivial, trivial⟩⟩⟩⟩⟩⟩⟩) ?_
   refine aO (v := (.int .u64 (aL .or .u64 (w.getD k default).n (t.getD k default).n))) (id := .v) (iA rfl rfl rfl) rfl rfl (dD rfl) (du _) ?_
   refine aO (v := (.pointer (some ⟨sB (.slice a_z n_z k_z), sO (.slice a_z n_z k_z) + k * Rp.sz U64, none⟩))) (id := .v) (cz (α := U64) (j := (k : Int)) rfl rfl rfl rfl (OS.sv A E.log0 (i := 0) rfl) (by first | omega | (dsimp only; exact ah _ _ _)) (by first | omega | (dsimp only; exact ah _ _ _))) rfl rfl (dD rfl) (du _) ?_
   refine wf_rk (id := .x (I.map Prod.fst)) (ei (α := U64) (j := k) (off := 0) (q := 0) ⟨aL .or .u64 (w.getD k default).n (t.getD k default).n⟩ A E.log0 rfl rfl rfl rfl rfl rfl rfl rfl (aY (x := default) (by first | omega | (dsimp only; exact ah _ _ _))) rfl (by rintro cs ⟨rfl, _⟩; exact ⟨Nat.le_of_ble_eq_true rfl, rfl, by first | omega | (dsimp only; exact ah _ _ _)⟩)) rfl (by rintro _ _ ad ⟨O, _, hwr⟩; exact d3 rfl rfl (Wr.did hwr)) (⟨.inl rfl, ⟨.inl rfl, ⟨.inl rfl, ⟨.inl rfl, ⟨.inl rfl, ⟨.inl rfl, ⟨.inl rfl, ⟨.inl rfl, ⟨.inl rfl, ⟨.inl rfl, trivial⟩⟩⟩⟩⟩⟩⟩⟩⟩⟩) ?_
   rintro _ a3 ad ⟨O, J, _⟩ a1 ag
   replace J := HS.lg J E ag
   generalize ({ a3 with log := a1 } : Heap) = bk at J ⊢
   have J : HS _ _ _ [ad] _ := J
   have bb := OS.len' O
   refine d8 ?_
   refine am 2 rfl ?_
   refine wR 1 [] 9 9 [32] [(9, (iI ((k : Int) + 1)))] (vA (vi (n := (k : Int) + 1) (by first | omega | (dsimp only; exact ah _ _ _))) trivial) rfl fun _ => ?_
   refine ar _ _ _ ?_ ⟨w.set k ⟨aL .or .u64 (w.getD k default).n (t.getD k default).n⟩, k + 1, true, ad, _, (T), J, O, (agC rfl (agC rfl (agC rfl (agC rfl (agC rfl (agC rfl agN)))))), rfl, (by first | exact uniB_or hu (by omega) (by assumption) (by assumption) | exact uniB_same hu (by assumption) (by assumption) (by assumption)), (by first | assumption | omega | (simp at *; omega)), (by first | assumption | (intro h; cases h; done)), (by first | assumption | (intro _; exact uniB_new hu (by assumption) (by assumption) (by assumption)))⟩
   omega
  have U := N
  try simp only [BS] at U
  refine wR 1 [] 9 9 [32] [(9, (iI ((k : Int) + 1)))] (vA (vi (n := (k : Int) + 1) (by first | omega | (dsimp only; exact ah _ _ _))) trivial) rfl fun _ => ?_
  refine ar _ _ _ ?_ ⟨w, k + 1, m, I, _, (T), E, A, (agC rfl (agC rfl (agC rfl (agC rfl (agC rfl (agC rfl agN)))))), rfl, (by first | exact uniB_or hu (by omega) (by assumption) (by assumption) | exact uniB_same hu (by assumption) (by assumption) (by assumption)), (by first | assumption | omega | (simp at *; omega)), (by first | assumption | (intro h; cases h; done)), (by first | assumption | (intro _; exact uniB_new hu (by assumption) (by assumption) (by assumption)))⟩
  omega
 have c6 := V
 try simp only [BS] at c6
 refine wR 1 [] 4 4 [33] [(4, (.bool m))] trivial rfl fun _ => ?_
 refine az ⟨.inr rfl, _, rfl, m, w, I, _, (T), (HS.first E), rfl, A, (by exact hu.1), (by exact uniB_all hu (by omega) hl), (by exact a6), (by exact a7)⟩
theorem list_c (ex : FuncId) {a_z : Option Addr} {n_z k_z : Nat} (z : List U64) {F : Fz} {H : Heap} {R : List Fp} (hs : HS (.of H []) F H [] R) (hz : SR F (.slice a_z n_z k_z) z) (hT : TB 37 tabC F) (hsl : z.length ≤ 100000) : C Tryd.prog 1 (KT 60 ex 37 tabC) 112 [(.slice a_z n_z k_z)] H fun v H' => ∃ (ar : Option Addr) (kr : Nat) (r : List Int) (p : Fp) (F' : Fz), Fz.le F F' ∧ HS (.of H []) F' H' [p] R ∧ v = .slice ar r.length kr ∧ OS F' (.slice ar r.length kr) r p ∧ r = e7 z := by
 have ln_z := SR.len' hz
 refine aM Tryd.func112 rfl rfl ?_
 refine am 1 rfl ?_
 refine wR 2 [] 2 2 [] [(2, (.slice none 0 0))] trivial rfl fun _ => ?_
 refine wR 3 [] 1 0 [3] [(3, (.slice none 0 0))] trivial rfl fun _ => ?_
 refine wR 2 [] 6 8 [] [(7, (iI (n_z : Int))), (8, (iI 0))] trivial rfl fun _ => ?_
 have a2 := HS.snoc hs
 have a2 : HS _ _ _ [[]] _ := a2
 refine ak (fun (mm : Nat) f H' => ∃ (o : List Int) (k : Nat) (J : Option Addr) (N : Nat) (T : Fp) (F' : Fz), Fz.le F F' ∧ HS (Base.of H []) F' H' [T] R ∧ OS F' (.slice J o.length N) o T ∧ aH f [(0, (.slice a_z n_z k_z)), (2, (.slice none 0 0)), (3, (.slice J o.length N)), (7, (iI (n_z : Int))), (8, (iI (k : Int)))] ∧ mm = z.length - k ∧ (o = iR z (64 * k)) ∧ (k ≤ z.length)) _ ⟨([] : List Int), 0, none, 0, [], _, fR, a2, (OS.nil : OS F (.slice none 0 0) ([] : List Int) []), (agC rfl (agC rfl (agC rfl (agC rfl (agC rfl agN))))), rfl, (by rfl), (by first | assumption | omega | (simp at *; omega))⟩ ?_
 rintro c9 f4 H4 ⟨o, k, J, N, T, F4, ay, a8, av, a7, rfl, ho, hk⟩ b3
 refine aq _ a7 (fun _ => ?_)
 clear a7
 replace hz := hz.mono ay
 refine am 1 rfl ?_
 refine wR 2 [] 9 9 [] [(9, (.bool (decide ((k : Int) < (n_z : Int)))))] trivial rfl fun _ => ?_
 refine au 4 5 (v := (decide ((k : Int) < (n_z : Int)))) rfl rfl rfl rfl (fun ax => ?_) (fun ax => ?_)
 ·
  have c7 := ax
  try simp only [BS] at c7
  refine wR 2 [] 10 10 [4] [(4, (iI (k : Int)))] trivial rfl fun _ => ?_
  refine wR 2 [] 1 0 [5] [(5, (iI 0))] trivial rfl fun _ => ?_
  refine ak (fun (mm : Nat) f H' => ∃ (V : List Int) (b : Nat) (A : Option Addr) (E : Nat) (I : Fp) (F' : Fz), Fz.le F4 F' ∧ HS (Base.of H []) F' H' [I] R ∧ OS F' (.slice A V.length E) V I ∧ aH f [(0, (.slice a_z n_z k_z)), (2, (.slice none 0 0)), (3, (.slice A V.length E)), (4, (iI (k : Int))), (5, (iI (b : Int))), (7, (iI (n_z : Int))), (8, (iI (k : Int))), (9, (.bool (decide ((k : Int) < (n_z : Int)))))] ∧ mm = 64 - b ∧ (V = iR z (64 * k + b)) ∧ (b ≤ 64)) _ ⟨o, 0, J, N, T, _, fR, a8, av, (agC rfl (agC rfl (agC rfl (agC rfl (agC rfl (agC rfl (agC rfl (agC rfl agN)))))))), rfl, (by exact ho), (by first | assumption | omega | (simp at *; omega))⟩ ?_
  rintro cc c4 ci ⟨V, b, A, E, I, ch, ad, O, U, a0, rfl, Z, hb⟩ a5
  refine aq _ a0 (fun _ => ?_)
  clear a0
  replace hz := hz.mono ad
  have hol : V.length ≤ 64 * k + b := by rw [Z]; exact lstK_len
  refine am 2 rfl ?_
  obtain ⟨b6, a3⟩ := Sv.view (SR.sv hz O)
  have c5 := fU (a3 k)
  refine wR 1 [(3, .o (.int .u64 (z.getD k default).n))] 11 18 [] [(18, (.bool (Int.fdiv (z.getD k default).n (2 ^ (Nat.min b 64)) != 0)))] (vA (Sv.ix (j := (k : Int)) (SR.sv hz O) (by first | omega | exact bO (by assumption) (by omega)) (by first | omega | exact bO (by assumption) (by omega))) (vA (ql 87 0 (vU (a3 k) (by first | omega | exact bO (by assumption) (by omega))) rfl rfl) (vA (vu (n := (b : Int)) (by first | omega | exact bO (by assumption) (by omega))) (vA (show (0 : Int) ≤ (b : Int) from by first | omega | exact bO (by assumption) (by omega)) trivial)))) rfl fun _ => ?_
  refine au 4 5 (v := (Int.fdiv (z.getD k default).n (2 ^ (Nat.min b 64)) != 0)) rfl rfl rfl rfl (fun ag => ?_) (fun ag => ?_)
  ·
   have an := ag
   try simp only [BS] at an
   have b9 := list_lt (by assumption) hb an
   obtain ⟨b7, a4⟩ := Sv.view (SR.sv hz O)
   have c6 := fU (a4 k)
   refine wR 1 [(3, .o (.int .u64 (z.getD k default).n))] 21 29 [] [(29, (.bool (aL .and .u64 (Int.fdiv (z.getD k default).n (2 ^ (Nat.min b 64))) 1 == 1)))] (vA (Sv.ix (j := (k : Int)) (SR.sv hz O) (by first | omega | exact bO (by assumption) (by omega)) (by first | omega | exact bO (by assumption) (by omega))) (vA (ql 87 0 (vU (a4 k) (by first | omega | exact bO (by assumption) (by omega))) rfl rfl) (vA (vu (n := (b : Int)) (by first | omega | exact bO (by assumption) (by omega))) (vA (show (0 : Int) ≤ (b : Int) from by first | omega | exact bO (by assumption) (by omega)) trivial)))) rfl fun _ => ?_
   refine au 0 2 (v := (aL .and .u64 (Int.fdiv (z.getD k default).n (2 ^ (Nat.min b 64))) 1 == 1)) rfl rfl rfl rfl (fun al => ?_) (fun al => ?_)
   ·
    have aw := al
    try simp only [BS] at aw
    refine aa ?_
    refine wRo 5 0 [] 30 34 [] [(30, (.slice A V.length E)), (34, (iI ((64 * (k : Int)) + (b : Int))))] (vA (vi (n := 64 * (k : Int)) (by first | omega | exact bO (by assumption) (by omega))) (vA (vi (n := (64 * (k : Int)) + (b : Int)) (by first | omega | exact bO (by assumption) (by omega))) trivial)) rfl fun _ => ?_
    refine aK (bF (α := Int) (ps := [(0, (iI ((64 * (k : Int)) + (b : Int))))]) (cells := [(iI ((64 * (k : Int)) + (b : Int)))]) ([(64 * (k : Int)) + (b : Int)] : List Int) O rfl rfl rfl (by kernel_rfl) ⟨[(iI ((64 * (k : Int)) + (b : Int)))], [], rfl, ⟨rfl, by first | omega | exact bO (by assumption) (by omega)⟩, rfl⟩ rfl) rfl rfl ?_
    rintro _ co b4 ⟨c3, c8, rfl, b0, (a1 : HS _ _ _ [I, b4] _), _⟩
    refine aK (ca (α := Int) (q := 0) U a1 rfl rfl rfl (OS.sv b0 a1 (i := 1) rfl) rfl rfl rfl rfl rfl rfl rfl (by first | omega | (simp only [List.length_append, List.length_cons, List.length_nil]; omega))) rfl rfl ?_
    rintro _ c0 bb ⟨a6, a9, rfl, b1, (b2 : HS _ _ _ [bb, _] _), _⟩
    refine wa (.slice a6 (V ++ ([(64 * (k : Int)) + (b : Int)] : List Int)).length a9) rfl rfl rfl ?_
    refine aj 2 rfl ?_
    refine wR 1 [] 19 20 [5] [(5, (iI ((b : Int) + 1)))] (vA (vi (n := (b : Int) + 1) (by first | omega | exact bO (by assumption) (by omega))) trivial) rfl fun _ => ?_
    refine a5 _ _ _ ?_ ⟨V ++ ([(64 * (k : Int)) + (b : Int)] : List Int), b + 1, a6, a9, bb, _, (ad), (HS.sub b2 (List.sublist_append_left _ _)), b1, (agC rfl (agC rfl (agC rfl (agC rfl (agC rfl (agC rfl (agC rfl (agC rfl agN)))))))), rfl, (by first | exact lst_step1 Z ((eK (by assumption) (by omega)).1 (by assumption)) | exact lst_step0 Z (fun hh => absurd ((eK (by assumption) (by omega)).2 hh) (by assumption))), (by first | assumption | omega | (simp at *; omega))⟩
    omega
   have aw := al
   try simp only [BS] at aw
   refine wR 1 [] 19 20 [5] [(5, (iI ((b : Int) + 1)))] (vA (vi (n := (b : Int) + 1) (by first | omega | exact bO (by assumption) (by omega))) trivial) rfl fun _ => ?_
   refine a5 _ _ _ ?_ ⟨V, b + 1, A, E, I, _, (ad), O, U, (agC rfl (agC rfl (agC rfl (agC rfl (agC rfl (agC rfl (agC rfl (agC rfl agN)))))))), rfl, (by first | exact lst_step1 Z ((eK (by assumption) (by omega)).1 (by assumption)) | exact lst_step0 Z (fun hh => absurd ((eK (by assumption) (by omega)).2 hh) (by assumption))), (by first | assumption | omega | (simp at *; omega))⟩
   omega
  have an := ag
  try simp only [BS] at an
  refine wR 1 [] 8 8 [37] [(8, (iI ((k : Int) + 1)))] (vA (vi (n := (k : Int) + 1) (by first | omega | exact bO (by assumption) (by omega))) trivial) rfl fun _ => ?_
  refine b3 _ _ _ ?_ ⟨V, k + 1, A, E, I, _, (fT (ay) ad), O, U, (agC rfl (agC rfl (agC rfl (agC rfl (agC rfl agN))))), rfl, (by rw [Z]; exact list_stop (by assumption) hb (by assumption)), (by first | assumption | omega | (simp at *; omega))⟩
  omega
 have c7 := ax
 try simp only [BS] at c7
 refine wR 1 [] 2 2 [38] [(2, (.slice J o.length N))] trivial rfl fun _ => ?_
 refine az ⟨.inr rfl, _, rfl, J, N, o, T, _, (ay), (HS.only a8 (i := 0) rfl), rfl, av, (by rw [ho]; unfold e7; congr 1; omega)⟩
theorem addT_c (ex : FuncId) {a_z : Option Addr} {n_z k_z : Nat} {p_z : Fp} (z : List U64) {E : Option Addr} {I : Nat} (b : BlkT) {F : Fz} {H : Heap} {R : List Fp} (hs : HS (.of H (p_z.map Prod.fst)) F H [p_z] R) (hz : OS F (.slice a_z n_z k_z) z p_z) (ag : SR F (.slice E b.ins.length I) b.ins) (al : in64 b.fin) (an : in64 b.reg) (ar : in64 b.tgt) (av : in64 b.els) (hT : TB 37 tabC F) (hb : (b.fin = 2 ∨ b.fin = 3) → 0 ≤ b.reg ∧ b.reg < 64 * (z.length : Int)) (hsl : z.length ≤ 100000) : C Tryd.prog 1 (KT 60 ex 37 tabC) 114 [(.slice a_z n_z k_z), (.agg ⟨[(.slice E b.ins.length I), (iI b.fin), (iI b.reg), (iI b.tgt), (iI b.els)]⟩)] H fun v H' => ∃ (z' : List U64) (pm : Fp) (F' : Fz), Fz.le F F' ∧ HS (.of H (p_z.map Prod.fst)) F' H' [pm] R ∧ v = .tuple #[] ∧ OS F' (.slice a_z n_z k_z) z' pm ∧ (z'.length = z.length) ∧ (∀ i, ap z' i = (ap z i || decide ((i : Int) ∈ endV b))) := by
 have lnarg := OS.len' hz
 refine aM Tryd.func114 rfl rfl ?_
 refine am 1 rfl ?_
 refine aa ?_
 refine aK (cF hs rfl rfl) rfl rfl ?_
 rintro _ H2 _ ⟨b1, rfl, (A : HS _ _ _ [p_z, [(b1, .cells [(.slice E b.ins.length I), (iI b.fin), (iI b.reg), (iI b.tgt), (iI b.els)] none false)]] _), _⟩
 refine aj 2 rfl ?_
 refine wR 1 [(1, .o (iI b.fin)), (5, .o (iI b.fin))] 4 11 [] [(11, (.bool ((b.fin == 2) || (b.fin == 3))))] (vA (ql 3 1 (HS.hc A (i := 1) rfl) rfl rfl) (vA (fun (g1 : (b.fin == 2) = false) => (ql 3 1 (HS.hc A (i := 1) rfl) rfl rfl)) trivial)) rfl fun _ => ?_
 refine au 0 0 (v := ((b.fin == 2) || (b.fin == 3))) rfl rfl rfl rfl (fun J => ?_) (fun J => ?_)
 ·
  have U := J
  try simp only [BS] at U
  have ay := hb (by omega)
  refine aa ?_
  refine wRo 3 0 [(2, .o (iI b.reg))] 12 14 [] [(12, (.slice a_z n_z k_z)), (14, (iI b.reg))] (vA (ql 3 2 (HS.hc A (i := 1) rfl) rfl rfl) trivial) rfl fun _ => ?_
  refine aE (aB rfl rfl rfl) rfl rfl (add_c ex z b.reg (HS.callOwn A (i := 0) rfl) hz (by omega) hT (by omega) (by omega)) ?_
  rintro _ H6 ⟨Z, T, F6, V, N, rfl, O, aw, ax⟩
  replace N : HS _ _ _ [T, _] _ := HS.backOwn A (i := 0) rfl rfl (fun _ hb => hb) N
  have a0 := OS.len' O
  refine aj 0 rfl ?_
  refine aZ ⟨.inl rfl, _, rfl, Z, T, _, (V), (HS.first N), rfl, O, (by first | rfl | assumption), (by first | exact end_ok (.inl ⟨by omega, by omega, by assumption⟩) | exact end_ok (.inr ⟨by omega, rfl⟩))⟩
 have U := J
 try simp only [BS] at U
 refine aZ ⟨.inl rfl, _, rfl, z, p_z, _, fR, (HS.first A), rfl, hz, (by first | rfl | assumption), (by first | exact end_ok (.inl ⟨by omega, by omega, by assumption⟩) | exact end_ok (.inr ⟨by omega, rfl⟩))⟩
theorem iM (ex : FuncId) {a_z : Option Addr} {n_z k_z : Nat} {p_z : Fp} (z : List U64) {A : Option Addr} {E : Nat} (iv : VInT) {F : Fz} {H : Heap} {R : List Fp} (hs : HS (.of H (p_z.map Prod.fst)) F H [p_z] R) (hz : OS F (.slice a_z n_z k_z) z p_z) (dl : in64 iv.i.op) (dn : in64 iv.i.a) (ds : in64 iv.i.b) (dt : in64 iv.i.c) (dv : in64 iv.i.n) (O : SR F (.slice A iv.args.length E) iv.args) (hT : TB 37 tabC F) (hr : ∀ x ∈ aD iv, 0 ≤ x ∧ x < 64 * (z.length : Int)) (hw : ∀ x ∈ ab iv, 0 ≤ x ∧ x < 64 * (z.length : Int)) (hlen : iv.args.length ≤ 1048576) (hsl : z.length ≤ 100000) : C Tryd.prog 1 (KT 60 ex 37 tabC) 118 [(.slice a_z n_z k_z), (.agg ⟨[(iI iv.i.op), (iI iv.i.a), (iI iv.i.b), (iI iv.i.c), (iI iv.i.n), (.slice A iv.args.length E)]⟩)] H fun v H' => ∃ (z' : List U64) (pm : Fp) (F' : Fz), Fz.le F F' ∧ HS (.of H (p_z.map Prod.fst)) F' H' [pm] R ∧ v = .tuple #[] ∧ OS F' (.slice a_z n_z k_z) z' pm ∧ (z'.length = z.length) ∧ (∀ i, ap z' i = ((ap z i && !decide ((i : Int) ∈ ab iv)) || decide ((i : Int) ∈ aD iv))) := by
 have lnarg := OS.len' hz
 have hwl := dK (v := iv)
 have hrl := fq (v := iv)
 refine aM Tryd.func118 rfl rfl ?_
 refine am 1 rfl ?_
 refine aa ?_
 refine aK (cF hs rfl rfl) rfl rfl ?_
 rintro _ H2 _ ⟨b1, rfl, (a6 : HS _ _ _ [p_z, [(b1, .cells [(iI iv.i.op), (iI iv.i.a), (iI iv.i.b), (iI iv.i.c), (iI iv.i.n), (.slice A iv.args.length E)] none false)]] _), _⟩
 refine aj 3 rfl ?_
 refine aa ?_
 let a0 : Value := (.agg ⟨[(iI iv.i.op), (iI iv.i.a), (iI iv.i.b), (iI iv.i.c), (iI iv.i.n), (.slice A iv.args.length E)]⟩)
 refine wRo 1 0 [(0, .o a0)] 8 8 [] [(8, a0)] (vA (qn 52 0 6 (HS.hc a6 (i := 1) rfl) rfl rfl rfl rfl) trivial) rfl fun _ => ?_
 refine aE (aB rfl rfl rfl) rfl rfl (ma.fk ex iv (HS.call a6) (by omega) (by omega) (by omega) (by omega) (by omega) O hT) ?_
 rintro _ H4 ⟨c6, dk, r4, p4, F4, ay, a7, rfl, ag, rfl⟩
 replace a7 : HS _ _ _ [_, _, p4] _ := HS.back a6 rfl a7
 replace hz := hz.mono ay
 refine wRo 2 2 [] 10 11 [] [(10, (iI ((ab iv).length : Int))), (11, (iI 0))] trivial rfl fun _ => ?_
 refine aj 2 rfl ?_
 let b3 : Fp := [(b1, .cells [(iI iv.i.op), (iI iv.i.a), (iI iv.i.b), (iI iv.i.c), (iI iv.i.n), (.slice A iv.args.length E)] none false)]
 refine ak (fun (mm : Nat) f H' => ∃ (w : List U64) (k : Nat) (N : Fp) (F' : Fz), Fz.le F4 F' ∧ HS (Base.of H (p_z.map Prod.fst)) F' H' [N, b3, p4] R ∧ OS F' (.slice a_z n_z k_z) w N ∧ aH f [(0, (.slice a_z n_z k_z)), (3, (.pointer (some ⟨b1, 0, none⟩))), (9, (.slice c6 (ab iv).length dk)), (10, (iI ((ab iv).length : Int))), (11, (iI (k : Int)))] ∧ mm = (ab iv).length - k ∧ (w.length = z.length) ∧ (∀ i, ap w i = (ap z i && !decide ((i : Int) ∈ (ab iv).take k))) ∧ (k ≤ (ab iv).length)) _ ⟨z, 0, p_z, _, fR, a7, hz, (agC rfl (agC rfl (agC rfl (agC rfl (agC rfl agN))))), rfl, (by rfl), (by intro i; simp), (by first | assumption | omega | (simp at *; omega))⟩ ?_
 rintro f4 f6 H6 ⟨w, k, N, F6, al, V, I, bk, rfl, g1, g2, g3⟩ dd
 refine aq _ bk (fun _ => ?_)
 clear bk
 replace hT := (hT.mono ay).mono al
 replace O := (O.mono ay).mono al
 replace ag := ag.mono al
 have c4 := OS.len' I
 refine am 1 rfl ?_
 refine wR 2 [] 12 12 [] [(12, (.bool (decide ((k : Int) < ((ab iv).length : Int)))))] trivial rfl fun _ => ?_
 refine au 4 5 (v := (decide ((k : Int) < ((ab iv).length : Int)))) rfl rfl rfl rfl (fun a2 => ?_) (fun a2 => ?_)
 ·
  have c8 := a2
  try simp only [BS] at c8
  have hlw := fu hw (by omega : k < (ab iv).length)
  obtain ⟨f0, b0⟩ := Sv.view (OS.sv ag V (i := 2) rfl)
  have f2 := fI (b0 k)
  refine wR 1 [(1, .o (iI ((ab iv).getD k 0)))] 13 14 [5] [(5, (iI ((ab iv).getD k 0)))] (vA (Sv.ix (j := (k : Int)) (OS.sv ag V (i := 2) rfl) (by omega) (by omega)) (vA (ql 3 0 (vI (b0 k) (by omega)) rfl rfl) trivial)) rfl fun _ => ?_
  refine aa ?_
  refine wRo 2 0 [] 15 16 [] [(15, (.slice a_z n_z k_z)), (16, (iI ((ab iv).getD k 0)))] trivial rfl fun _ => ?_
  refine aE (aB rfl rfl rfl) rfl rfl (rem_c ex w ((ab iv).getD k 0) (HS.callOwn V (i := 0) rfl) I (by omega) hT (by omega) (by omega)) ?_
  rintro _ e5 ⟨c0, a9, e2, b7, av, rfl, a4, ea, es⟩
  replace av : HS _ _ _ [a9, _, _] _ := HS.backOwn V (i := 0) rfl rfl (fun _ hb => hb) av
  have ez := OS.len' a4
  refine aj 2 rfl ?_
  refine wR 1 [] 11 11 [18] [(11, (iI ((k : Int) + 1)))] (vA (vi (n := (k : Int) + 1) (by omega)) trivial) rfl fun _ => ?_
  refine dd _ _ _ ?_ ⟨c0, k + 1, a9, _, (fT (al) b7), av, a4, (agC rfl (agC rfl (agC rfl (agC rfl (agC rfl agN))))), rfl, (by omega), (by exact rem_step (by omega) g2 (fu hw (by omega)).1 (by assumption)), (by first | assumption | omega | (simp at *; omega))⟩
  omega
 have c8 := a2
 try simp only [BS] at c8
 refine aa ?_
 refine wRo 1 0 [(0, .o a0)] 19 19 [] [(19, a0)] (vA (qn 52 0 6 (HS.hc V (i := 1) rfl) rfl rfl rfl rfl) trivial) rfl fun _ => ?_
 refine aE (aB rfl rfl rfl) rfl rfl (ma.jk ex iv (HS.call V) (by omega) (by omega) (by omega) (by omega) (by omega) O hT (by omega)) ?_
 rintro _ e6 ⟨b4, ch, f5, b2, c5, ar, aw, rfl, T, rfl⟩
 replace aw : HS _ _ _ [N, _, _, b2] _ := HS.back V rfl aw
 replace I := I.mono ar
 refine wRo 2 2 [] 21 22 [] [(21, (iI ((aD iv).length : Int))), (22, (iI 0))] trivial rfl fun _ => ?_
 refine aj 2 rfl ?_
 refine ak (fun (mm : Nat) f H' => ∃ (u : List U64) (q : Nat) (J : Fp) (F' : Fz), Fz.le c5 F' ∧ HS (Base.of H (p_z.map Prod.fst)) F' H' [J, b3, p4, b2] R ∧ OS F' (.slice a_z n_z k_z) u J ∧ aH f [(0, (.slice a_z n_z k_z)), (20, (.slice b4 (aD iv).length ch)), (21, (iI ((aD iv).length : Int))), (22, (iI (q : Int)))] ∧ mm = (aD iv).length - q ∧ (u.length = z.length) ∧ (∀ i, ap u i = (ap w i || decide ((i : Int) ∈ (aD iv).take q))) ∧ (q ≤ (aD iv).length)) _ ⟨w, 0, N, _, fR, aw, I, (agC rfl (agC rfl (agC rfl (agC rfl agN)))), rfl, (by first | assumption | omega | (simp at *; omega)), (by intro i; simp), (by first | assumption | omega | (simp at *; omega))⟩ ?_
 rintro e1 f1 fd ⟨u, q, J, e3, ad, U, Z, a3, rfl, g4, g5, g6⟩ cc
 refine aq _ a3 (fun _ => ?_)
 clear a3
 replace hT := (hT.mono ar).mono ad
 replace T := T.mono ad
 have ci := OS.len' Z
 refine am 1 rfl ?_
 refine wR 2 [] 23 23 [] [(23, (.bool (decide ((q : Int) < ((aD iv).length : Int)))))] trivial rfl fun _ => ?_
 refine au 4 3 (v := (decide ((q : Int) < ((aD iv).length : Int)))) rfl rfl rfl rfl (fun an => ?_) (fun an => ?_)
 ·
  have a1 := an
  try simp only [BS] at a1
  have hlr := fu hr (by omega : q < (aD iv).length)
  obtain ⟨d2, a8⟩ := Sv.view (OS.sv T U (i := 3) rfl)
  have f3 := fI (a8 q)
  refine wR 1 [(1, .o (iI ((aD iv).getD q 0)))] 24 25 [7] [(7, (iI ((aD iv).getD q 0)))] (vA (Sv.ix (j := (q : Int)) (OS.sv T U (i := 3) rfl) (by omega) (by omega)) (vA (ql 3 0 (vI (a8 q) (by omega)) rfl rfl) trivial)) rfl fun _ => ?_
  refine aa ?_
  refine wRo 2 0 [] 26 27 [] [(26, (.slice a_z n_z k_z)), (27, (iI ((aD iv).getD q 0)))] trivial rfl fun _ => ?_
  refine aE (aB rfl rfl rfl) rfl rfl (add_c ex u ((aD iv).getD q 0) (HS.callOwn U (i := 0) rfl) Z (by omega) hT (by omega) (by omega)) ?_
  rintro _ fi ⟨c3, bb, e4, b9, ax, rfl, a5, em, et⟩
  replace ax : HS _ _ _ [bb, _, _, _] _ := HS.backOwn U (i := 0) rfl rfl (fun _ hb => hb) ax
  have e0 := OS.len' a5
  refine aj 2 rfl ?_
  refine wR 1 [] 22 22 [29] [(22, (iI ((q : Int) + 1)))] (vA (vi (n := (q : Int) + 1) (by omega)) trivial) rfl fun _ => ?_
  refine cc _ _ _ ?_ ⟨c3, q + 1, bb, _, (fT (ad) b9), ax, a5, (agC rfl (agC rfl (agC rfl (agC rfl agN)))), rfl, (by omega), (by exact add_step (by omega) g5 (fu hr (by omega)).1 (by assumption)), (by first | assumption | omega | (simp at *; omega))⟩
  omega
 have a1 := an
 try simp only [BS] at a1
 refine aZ ⟨.inl rfl, _, rfl, u, J, _, (fT (fT (fT (ay) al) ar) ad), (HS.first U), rfl, Z, (by omega), (by exact tr_done (fun i => by rw [g2 i, List.take_of_length_le (by omega)]) (fun i => by rw [g5 i, List.take_of_length_le (by omega)]))⟩
end Go.Proofs.YtknafdcgpaejlaaDoor.mb
