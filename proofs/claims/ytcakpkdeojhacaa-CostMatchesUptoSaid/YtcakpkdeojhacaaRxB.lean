/-
  Operations: integers without overflow, strings as lists of bytes, slices cut, made and written out.
  No condition beyond those that each statement names.
-/
import Derived.Test.YtcakpkdeojhacaaRxC
noncomputable section
namespace Go.R

theorem w_i64 {n : Int} (h : in64 n) : IntKind.i64.wrap n = n := by
  have e : IntKind.i64.wrap n = if (true && decide (n % (2 ^ 64 : Int) ≥ (2 ^ 63 : Int))) then n % (2 ^ 64 : Int) - (2 ^ 64 : Int) else n % (2 ^ 64 : Int) := rfl
  rw [e]
  obtain ⟨h1, h2⟩ := h
  by_cases hn : 0 ≤ n
  · rw [Int.emod_eq_of_lt hn (by omega)]
    have : decide (n ≥ (2 ^ 63 : Int)) = false := decide_eq_false (by omega)
    rw [this]; rfl
  · have : n % (2 ^ 64 : Int) = n + 2 ^ 64 := by omega
    rw [this]
    have : decide (n + 2 ^ 64 ≥ (2 ^ 63 : Int)) = true := decide_eq_true (by omega)
    rw [this]
    simp only [Bool.and_self, if_true]; omega
theorem w_u64 {n : Int} (h : 0 ≤ n ∧ n < 18446744073709551616) : IntKind.u64.wrap n = n := by
  show n % (2 ^ 64 : Int) = n
  exact Int.emod_eq_of_lt h.1 (by omega)
theorem w_u8 {n : Int} (h : 0 ≤ n ∧ n < 256) : IntKind.u8.wrap n = n := by
  show n % (2 ^ 8 : Int) = n
  exact Int.emod_eq_of_lt h.1 (by omega)
theorem w_u32 {n : Int} (h : 0 ≤ n ∧ n < 4294967296) : IntKind.u32.wrap n = n := by
  show n % (2 ^ 32 : Int) = n
  exact Int.emod_eq_of_lt h.1 (by omega)
theorem u8_lt (b : UInt8) : (b.toNat : Int) < 256 := by have := UInt8.toNat_lt b; omega

section
variable {α : Type} [Rp α] {P : Program} {ρ : Operand → Value} {d : Option Tmp} {ty : TypeId} {pos : String} {af : Array Edge} {gd : Option (Nat × Bool)} {B : Base} {F : Fz} {H : Heap} {L R : List Fp} {v : Value} {l : List α} {p : Fp}
variable {t yt : TypeId} {x y : Operand} {k : IntKind} {a b c : Int}

theorem kindEq_self (k : IntKind) : kindEq k k = true := by cases k <;> rfl
theorem ap_add (hx : ρ x = .int k a) (hy : ρ y = .int k b) (hw : k.wrap (a + b) = c) : AP P ρ ⟨d, .binOp .add t x y yt, ty, pos, af, gd⟩ H (.val (.int k c), H) :=
  ap_int hx hy (by subst hw; show (bif kindEq k k then _ else none : Option Value) = _; rw [kindEq_self]; rfl)
theorem ap_sub (hx : ρ x = .int k a) (hy : ρ y = .int k b) (hw : k.wrap (a - b) = c) : AP P ρ ⟨d, .binOp .sub t x y yt, ty, pos, af, gd⟩ H (.val (.int k c), H) :=
  ap_int hx hy (by subst hw; show (bif kindEq k k then _ else none : Option Value) = _; rw [kindEq_self]; rfl)
theorem ap_mul (hx : ρ x = .int k a) (hy : ρ y = .int k b) (hw : k.wrap (a * b) = c) : AP P ρ ⟨d, .binOp .mul t x y yt, ty, pos, af, gd⟩ H (.val (.int k c), H) :=
  ap_int hx hy (by subst hw; show (bif kindEq k k then _ else none : Option Value) = _; rw [kindEq_self]; rfl)
theorem ap_div (hx : ρ x = .int k a) (hy : ρ y = .int k b) (hb : b ≠ 0) (hw : k.wrap (a.tdiv b) = c) : AP P ρ ⟨d, .binOp .quo t x y yt, ty, pos, af, gd⟩ H (.val (.int k c), H) := by
  subst hw; exact ap_quo hx hy (kindEq_self k) (by simpa using hb)
theorem ap_mod (hx : ρ x = .int k a) (hy : ρ y = .int k b) (hb : b ≠ 0) (hw : a.tmod b = c) : AP P ρ ⟨d, .binOp .rem t x y yt, ty, pos, af, gd⟩ H (.val (.int k c), H) := by
  subst hw; exact ap_rem hx hy (kindEq_self k) (by simpa using hb)
theorem ap_cv {s : TypeId} {k' : IntKind} {u : TypeDesc} (hx : ρ x = .int k a) (hs : P.underlying s = some u) (ht : P.underlying t = some (.int k')) (hw : k'.wrap a = c) :
    AP P ρ ⟨d, .convert s t x, ty, pos, af, gd⟩ H (.val (.int k' c), H) := by subst hw; exact ap_conv hx hs ht
theorem ap_ng (hx : ρ x = .int k a) (hw : k.wrap (0 - a) = c) : AP P ρ ⟨d, .unOp .neg t x, ty, pos, af, gd⟩ H (.val (.int k c), H) := by subst hw; exact ap_neg hx
theorem ap_cmp {op : BinOp} {r : Bool} (hx : ρ x = .int k a) (hy : ρ y = .int k b) (hr : intBin op k a b = some (.bool r)) (hs : isShift op = false) : AP P ρ ⟨d, .binOp op t x y yt, ty, pos, af, gd⟩ H (.val (.bool r), H) :=
  ap_int hx hy (by rw [hs, kindEq_self]; exact hr)

/-! Strings. -/
variable {s u : List UInt8}
theorem ap_idxS {i : Operand} {ki : IntKind} {j : Int} {ch : UInt8} (hx : ρ x = .string ⟨⟨s⟩⟩) (hi : ρ i = .int ki j) (ht : P.underlying t = some .string) (h0 : 0 ≤ j) (hc : s[j.toNat]? = some ch) :
    AP P ρ ⟨d, .index t x i, ty, pos, af, gd⟩ H (.val (.int .u8 ch.toNat), H) := by
  refine ⟨?_⟩
  obtain ⟨m, rfl⟩ := Int.eq_ofNat_of_zero_le h0
  show aIndex P t (ρ x) (ρ i) H = _
  rw [hx, hi]
  show ovl (strAt P t ⟨⟨s⟩⟩ (.int ki (Int.ofNat m))) H = _
  unfold strAt
  rw [ht]
  show ovl (match nth s m with | some b => some (.int .u8 b.toNat) | none => none) H = _
  rw [nth_eq]
  have : s[m]? = some ch := hc
  rw [this]; rfl
theorem ap_eqS (hx : ρ x = .string ⟨⟨s⟩⟩) (hy : ρ y = .string ⟨⟨u⟩⟩) : AP P ρ ⟨d, .binOp .eql t x y yt, ty, pos, af, gd⟩ H (.val (.bool (s == u)), H) := ap_str hx hy rfl
theorem ap_neS (hx : ρ x = .string ⟨⟨s⟩⟩) (hy : ρ y = .string ⟨⟨u⟩⟩) : AP P ρ ⟨d, .binOp .neq t x y yt, ty, pos, af, gd⟩ H (.val (.bool (s != u)), H) := ap_str hx hy rfl
theorem ap_leS (hx : ρ x = .string ⟨⟨s⟩⟩) (hy : ρ y = .string ⟨⟨u⟩⟩) : AP P ρ ⟨d, .binOp .leq t x y yt, ty, pos, af, gd⟩ H (.val (.bool (Op.bytesLess s u || s == u)), H) := ap_str hx hy rfl
theorem ap_ltS (hx : ρ x = .string ⟨⟨s⟩⟩) (hy : ρ y = .string ⟨⟨u⟩⟩) : AP P ρ ⟨d, .binOp .lss t x y yt, ty, pos, af, gd⟩ H (.val (.bool (Op.bytesLess s u)), H) := ap_str hx hy rfl
theorem ap_addS (hx : ρ x = .string ⟨⟨s⟩⟩) (hy : ρ y = .string ⟨⟨u⟩⟩) (hl : s.length + u.length ≤ 1099511627776) : AP P ρ ⟨d, .binOp .add t x y yt, ty, pos, af, gd⟩ H (.val (.string ⟨⟨s ++ u⟩⟩), H) :=
  ap_str hx hy (by
    show (bif Nat.ble (lenL (appL s u)) 1099511627776 then some (Value.string ⟨⟨appL s u⟩⟩) else none) = _
    rw [appL_eq, lenL_eq, List.length_append, Nat.ble_eq_true_of_le hl]; rfl)
/-- The bounds of a cut. -/
def cutAt (n : Nat) (lo hi : Option Value) (i j : Nat) : Prop := bnds n n lo hi = some (i, j)
theorem bnds_of {n k i j : Nat} {lo hi : Option Value} (h1 : optNat n hi = some j) (h2 : optNat 0 lo = some i) (hij : i ≤ j) (hj : j ≤ k) : bnds n k lo hi = some (i, j) := by
  unfold bnds
  simp only [h1, h2, Nat.ble_eq_true_of_le hij, Nat.ble_eq_true_of_le hj, Bool.and_self, cond_true]
theorem optN {d : Nat} {kk : IntKind} {j : Int} (h0 : 0 ≤ j) : optNat d (some (.int kk j)) = some j.toNat := by
  obtain ⟨m, rfl⟩ := Int.eq_ofNat_of_zero_le h0; rfl
theorem optN0 {d : Nat} : optNat d none = some d := rfl
theorem ap_slS {lo hi : Option Operand} {i j : Nat} (hx : ρ x = .string ⟨⟨s⟩⟩) (ht : P.underlying t = some .string) (h1 : optNat s.length (hi.map ρ) = some j) (h2 : optNat 0 (lo.map ρ) = some i) (hij : i ≤ j) (hj : j ≤ s.length) :
    AP P ρ ⟨d, .slice t x lo hi none, ty, pos, af, gd⟩ H (.val (.string ⟨⟨(s.drop i).take (j - i)⟩⟩), H) := by
  refine ⟨?_⟩
  show ovl (aSlice P t (ρ x) (lo.map ρ) (hi.map ρ) (Option.map ρ none) H) H = _
  rw [hx]
  unfold aSlice
  simp only [Option.map_none, ht]
  show ovl (match bnds (lenL s) (lenL s) (lo.map ρ) (hi.map ρ) with | some (l, r) => some (.string ⟨⟨takeL (dropL s l) (r - l)⟩⟩) | none => none) H = _
  rw [lenL_eq, bnds_of h1 h2 hij hj]
  simp only [takeL_eq, dropL_eq]; rfl
theorem bytesOfCells_map : ∀ (l : List UInt8), bytesOfCells (l.map fun c => Value.int .u8 c.toNat) = some l
  | [] => rfl
  | c :: l => by
    show (match bytesOfCells (l.map fun c => Value.int .u8 c.toNat) with | some r => some (UInt8.ofNat (c.toNat : Int).toNat :: r) | none => none) = _
    rw [bytesOfCells_map l]
    simp

/-! Slices cut. -/
theorem Sl_cut {F : Fz} {o : AObj} {off k i j : Nat} {l : List α} (h : Sl F o off k l) (hij : i ≤ j) (hj : j ≤ l.length) : Sl F o (off + i * Rp.sz α) (k - i) ((l.take j).drop i) := by
  obtain ⟨cs, opn, ro, rfl, h1, h2, h3, h4⟩ := h
  have hl := h3.length
  have hlen : ((l.take j).drop i).length = j - i := by simp; omega
  refine ⟨cs, opn, ro, rfl, fun hro => ?_, by rw [hlen]; omega, ?_, h4⟩
  · replace h1 := h1 hro
    have : i * Rp.sz α + (k - i) * Rp.sz α = k * Rp.sz α := by rw [← Nat.add_mul]; congr 1; omega
    omega
  · have h5 := (h3.take j).drop i
    have e : ((cs.drop (off + i * Rp.sz α)).take (((l.take j).drop i).length * Rp.sz α)) = (((cs.drop off).take (l.length * Rp.sz α)).take (j * Rp.sz α)).drop (i * Rp.sz α) := by
      rw [hlen, List.take_take, List.drop_take, List.drop_drop]
      congr 1
      have : j * Rp.sz α ≤ l.length * Rp.sz α := Nat.mul_le_mul_right _ hj
      rw [Nat.min_eq_left this, Nat.sub_mul]
    rw [e]; exact h5
theorem Sl_at0 {F : Fz} {o : AObj} {off k : Nat} {l : List α} (h : Sl F o off k l) : Sl F o off 0 ([] : List α) := by
  obtain ⟨cs, opn, ro, rfl, h1, h2, h3, h4⟩ := h
  exact ⟨cs, opn, ro, rfl, fun hro => (by have := h1 hro; omega), Nat.le_refl _, by simp [RL], h4⟩
/-- Where a cut slice lies: one case. -/
theorem cut_val {lo hi : Option Operand} {t e : TypeId} {i j off k bb : Nat} {o : AObj} (hx : ρ x = .slice (some ⟨bb, off, none⟩) l.length k) (ht : P.underlying t = some (.slice e)) (hz : szOf P e = some (Rp.sz α)) (hb : H.get bb = some o) (h : Sl F o off k l)
    (h1 : optNat l.length (hi.map ρ) = some j) (h2 : optNat 0 (lo.map ρ) = some i) (hij : i ≤ j) (hj : j ≤ l.length) :
    ∃ off' k', AP P ρ ⟨d, .slice t x lo hi none, ty, pos, af, gd⟩ H (.val (.slice (some ⟨bb, off', none⟩) ((l.take j).drop i).length k'), H) ∧ Sl F o off' k' ((l.take j).drop i) := by
  obtain ⟨cs, opn, ro, rfl, g1, g2, g3, g4⟩ := h
  have hlen : ((l.take j).drop i).length = j - i := by simp; omega
  have hcut := Sl_cut (F := F) (o := .cells cs opn ro) ⟨cs, opn, ro, rfl, g1, g2, g3, g4⟩ hij hj
  have run : ∀ w, aSlice P t (.slice (some ⟨bb, off, none⟩) l.length k) (lo.map ρ) (hi.map ρ) none H = some w → AP P ρ ⟨d, .slice t x lo hi none, ty, pos, af, gd⟩ H (.val w, H) := by
    intro w hw
    refine ⟨?_⟩
    show ovl (aSlice P t (ρ x) (lo.map ρ) (hi.map ρ) (Option.map ρ none) H) H = _
    rw [hx, Option.map_none, hw]; rfl
  have hbn := bnds_of (n := l.length) (k := k) h1 h2 hij (Nat.le_trans hj g2)
  rcases g4 with rfl | rfl
  · cases hk : Nat.beq k i with
    | true =>
      have hki := Nat.eq_of_beq_eq_true hk
      have e0 : (l.take j).drop i = [] := List.eq_nil_of_length_eq_zero (by rw [hlen]; omega)
      refine ⟨off, k - i, run _ ?_, ?_⟩
      · unfold aSlice
        simp only [ht, hbn, hz, hb, hk, cond_true, hlen]
      · rw [e0, hki, Nat.sub_self]
        exact Sl_at0 (k := k) (l := l) ⟨cs, none, ro, rfl, g1, g2, g3, .inl rfl⟩
    | false =>
      refine ⟨off + i * Rp.sz α, k - i, run _ ?_, hcut⟩
      unfold aSlice
      simp only [ht, hbn, hz, hb, hk, cond_false, hlen]
  · refine ⟨off + i * Rp.sz α, k - i, run _ ?_, hcut⟩
    unfold aSlice
    simp only [ht, hbn, hz, hb, Nat.beq_refl, cond_true, hlen]
theorem nil_cut {lo hi : Option Operand} {t e : TypeId} {i j : Nat} {sz : Nat} (hx : ρ x = .slice none 0 0) (ht : P.underlying t = some (.slice e)) (hz : szOf P e = some sz) (h1 : optNat 0 (hi.map ρ) = some j) (h2 : optNat 0 (lo.map ρ) = some i) (hij : i ≤ j) (hj : j ≤ 0) :
    AP P ρ ⟨d, .slice t x lo hi none, ty, pos, af, gd⟩ H (.val (.slice none 0 0), H) := by
  refine ⟨?_⟩
  show ovl (aSlice P t (ρ x) (lo.map ρ) (hi.map ρ) (Option.map ρ none) H) H = _
  rw [hx]
  unfold aSlice
  have hbn := bnds_of (n := 0) (k := 0) h1 h2 hij hj
  simp only [Option.map_none, ht, hbn, hz, Option.isSome_some, cond_true]
  rfl
theorem sr_cut {lo hi : Option Operand} {t e : TypeId} {i j : Nat} (h : SR F v l) (hs : HS B F H L R) (hx : ρ x = v) (ht : P.underlying t = some (.slice e)) (hz : szOf P e = some (Rp.sz α))
    (h1 : optNat l.length (hi.map ρ) = some j) (h2 : optNat 0 (lo.map ρ) = some i) (hij : i ≤ j) (hj : j ≤ l.length) :
    ∃ a k, AP P ρ ⟨d, .slice t x lo hi none, ty, pos, af, gd⟩ H (.val (.slice a ((l.take j).drop i).length k), H) ∧ SR F (.slice a ((l.take j).drop i).length k) ((l.take j).drop i) := by
  rcases h with ⟨rfl, rfl⟩ | ⟨b, off, k, o, rfl, g1, g2⟩
  · have e0 : (([] : List α).take j).drop i = [] := by simp
    rw [e0]
    exact ⟨none, 0, nil_cut hx ht hz h1 h2 hij (by simpa using hj), SR.nil⟩
  · obtain ⟨off', k', h3, h4⟩ := cut_val hx ht hz (hs.fz b o g1).1 g2 h1 h2 hij hj
    exact ⟨_, k', h3, .inr ⟨b, off', k', o, rfl, g1, h4⟩⟩
theorem os_cut {lo hi : Option Operand} {t e : TypeId} {i j q : Nat} (h : OS F v l p) (hs : HS B F H L R) (hq : L[q]? = some p) (hx : ρ x = v) (ht : P.underlying t = some (.slice e)) (hz : szOf P e = some (Rp.sz α))
    (h1 : optNat l.length (hi.map ρ) = some j) (h2 : optNat 0 (lo.map ρ) = some i) (hij : i ≤ j) (hj : j ≤ l.length) :
    ∃ a k, AP P ρ ⟨d, .slice t x lo hi none, ty, pos, af, gd⟩ H (.val (.slice a ((l.take j).drop i).length k), H) ∧ OS F (.slice a ((l.take j).drop i).length k) ((l.take j).drop i) p := by
  rcases h with ⟨rfl, rfl, rfl⟩ | ⟨b, off, k, cs, opn, rfl, rfl, g2⟩
  · have e0 : (([] : List α).take j).drop i = [] := by simp
    rw [e0]
    exact ⟨none, 0, nil_cut hx ht hz h1 h2 hij (by simpa using hj), OS.nil⟩
  · obtain ⟨off', k', h3, h4⟩ := cut_val hx ht hz (hs.get hq (List.mem_singleton.2 rfl)) g2 h1 h2 hij hj
    exact ⟨_, k', h3, .inr ⟨b, off', k', cs, opn, rfl, rfl, h4⟩⟩

/-! Slices made. -/
theorem os_make {t e : TypeId} {li ci : Operand} {kl kc : IntKind} {n : Int} {z : List Value} {z0 : α} {by_ : Nat} (hs : HS B F H L R) (hl : ρ li = .int kl n) (hc : ρ ci = .int kc n) (ht : P.underlying t = some (.slice e)) (hz : szOf P e = some (Rp.sz α)) (hby : bytesOf P e = some by_) (hzz : zeroOf P e = some z)
    (hzl : Nat.beq (lenL z) (Rp.sz α) = true) (hb4 : Nat.ble by_ 4096 = true) (hz0 : Nat.beq (Rp.sz α) 0 = false) (hr : Rp.rep F z z0) (h0 : 0 ≤ n) (hn : n ≤ 2147483648) :
    ∃ a k H1 p', AP P ρ ⟨d, .makeSlice t li ci, ty, pos, af, gd⟩ H (.val (.slice a (List.replicate n.toNat z0).length k), H1) ∧ OS F (.slice a (List.replicate n.toNat z0).length k) (List.replicate n.toNat z0) p' ∧ HS B F H1 (L ++ [p']) R ∧ ∀ b, b ∈ H1.log → b ∈ H.log := by
  obtain ⟨m, rfl⟩ := Int.eq_ofNat_of_zero_le h0
  have hm : m ≤ 2147483648 := by omega
  refine ⟨some ⟨H.next, 0, none⟩, m, H.push (.cells (copies m z) none false), [(H.next, .cells (copies m z) none false)], ⟨?_⟩, ?_, hs.push _, fun b hb => by simpa using hb⟩
  · show ovh (aMake P t (ρ li) (ρ ci) H) = _
    rw [hl, hc]
    unfold aMake
    have e1 : asNat (.int kl (Int.ofNat m)) = some m := rfl
    have e2 : asNat (.int kc (Int.ofNat m)) = some m := rfl
    rw [ht]
    simp only [hz, hby, hzz]
    show ovh (match asNat (.int kl (Int.ofNat m)), asNat (.int kc (Int.ofNat m)) with | some n, some k => _ | _, _ => none) = _
    rw [e1, e2]
    simp only [Nat.ble_eq_true_of_le hm, Nat.ble_eq_true_of_le (Nat.le_refl m), hb4, hzl, hz0, Bool.not_false, Bool.and_self, cond_true, List.length_replicate]
    rfl
  · show OS F _ (List.replicate m z0) _
    have hlen : (List.replicate m z0).length = m := by simp
    have hrl := RL.replicate hr m
    have hcl := hrl.length
    rw [hlen] at hcl
    refine .inr ⟨H.next, 0, m, copies m z, none, by simp, rfl, _, _, _, rfl, fun _ => (by omega), by rw [hlen]; exact Nat.le_refl _, ?_, .inl rfl⟩
    rw [hlen, List.drop_zero, ← hcl, List.take_length]; exact hrl
theorem os_lit {t : TypeId} {n : Nat} {z : List Value} {parts : Array (Nat × Operand)} {cells : List Value} (hs : HS B F H L R) (hi : sliceInfo P t = some (Rp.sz α, z)) (hn : Nat.ble (n * Rp.sz α) 16777216 = true)
    (hf : Instr.fill (fun i => some (i * Rp.sz α, Rp.sz α)) ⟨copies n z⟩ (mapL (fun p => (p.1, ρ p.2)) parts.toList) = some ⟨cells⟩) (hr : RL F cells l) (hl : l.length = n) :
    ∃ a H1 p', AP P ρ ⟨d, .buildSlice t n parts, ty, pos, af, gd⟩ H (.val (.slice a n n), H1) ∧ OS F (.slice a n n) l p' ∧ HS B F H1 (L ++ [p']) R ∧ ∀ b, b ∈ H1.log → b ∈ H.log := by
  subst hl
  refine ⟨_, _, [(H.next, .cells cells none false)], ap_buildSlice hi hn hf, ?_, hs.push _, fun b hb => by simpa using hb⟩
  have := hr.length
  exact .inr ⟨H.next, 0, l.length, cells, none, rfl, rfl, _, _, _, rfl, fun _ => (by omega), Nat.le_refl _, by rw [List.drop_zero, ← this, List.take_length]; exact hr, .inl rfl⟩
theorem ap_app {s0 x0 : Operand} {st xt : TypeId} {u w : Value} {H1 : Heap} (hx : ρ s0 = v) (hy : ρ x0 = u) (he : aAppend P #[st, xt] v u H = some (w, H1)) : AP P ρ ⟨d, .call ⟨.builtin .append, #[s0, x0], #[st, xt]⟩, ty, pos, af, gd⟩ H (.val w, H1) := by
  refine ⟨?_⟩
  show ovh (aAppend P #[st, xt] (ρ s0) (ρ x0) H) = _
  rw [hx, hy, he]; rfl
theorem os_app {s0 x0 : Operand} {st e : TypeId} {u : Value} {l2 : List α} {q by_ : Nat} {z : List Value} (h : OS F v l p) (hs : HS B F H L R) (hq : L[q]? = some p) (hx : ρ s0 = v) (hy : ρ x0 = u) (hu : Sv F H.get u l2) (ht : P.underlying st = some (.slice e))
    (hz : szOf P e = some (Rp.sz α)) (hby : bytesOf P e = some by_) (hzz : zeroOf P e = some z) (hzl : Nat.beq (lenL z) (Rp.sz α) = true) (hb4 : Nat.ble by_ 4096 = true) (hz0 : Nat.beq (Rp.sz α) 0 = false) (hlen : l.length + l2.length ≤ 2147483648) :
    ∃ a k H1 p', AP P ρ ⟨d, .call ⟨.builtin .append, #[s0, x0], #[st, st]⟩, ty, pos, af, gd⟩ H (.val (.slice a (l ++ l2).length k), H1) ∧ OS F (.slice a (l ++ l2).length k) (l ++ l2) p' ∧ HS B F H1 (L.set q p') R := by
  obtain ⟨h1, new, h2, h3⟩ := hu.first
  obtain ⟨a, k, H1, p', h4, h5, h6⟩ := os_append (types := #[st, st]) h hs hq (x := u) rfl rfl ht ht (by intro k hk; cases hk) hz hby hzz hzl hb4 hz0 h1 h2 h3 hlen
  exact ⟨a, k, H1, p', ap_app hx hy h4, h5, h6⟩
/-- A store into an owned slice. -/
theorem os_st {t : TypeId} {a0 x0 : Operand} {j q off n b o : Nat} {w : Value} {y y' : α} {cl : List Value} (h : OS F v l p) (hs : HS B F H L R) (hq : L[q]? = some p) (ha : ρ a0 = .pointer (some ⟨b, o, none⟩)) (hb : b = sB v) (ho : o = sO v + j * Rp.sz α + off) (hx : ρ x0 = w) (hn : szOf P t = some n) (hc : w.cells.toList = cl) (hl : Nat.beq cl.length n = true)
    (hy : l[j]? = some y) (h1 : allL Value.oneCell' cl = true) (hr : ∀ cs, Rp.rep F cs y → off + cl.length ≤ cs.length ∧ Rp.rep F (splice cs off cl) y') :
    ∃ H1 p', AP P ρ ⟨d, .store t a0 x0, ty, pos, af, gd⟩ H (.skip, H1) ∧ OS F v (l.set j y') p' ∧ HS B F H1 (L.set q p') R ∧ ∀ b cs opn, p = [(b, .cells cs opn false)] → ∃ cs', p' = [(b, .cells cs' opn false)] := by
  subst hb ho
  obtain ⟨H1, p', h2, h3, h4, h5⟩ := os_set h hs hq hy h1 hr
  exact ⟨H1, p', ap_st ha hx hn hc hl h2, h3, h4, h5⟩
end
end Go.R
end
