/-
  Symbolic runs: results that lie in cells, arrays in blocks, bytes to strings, the greater and the smaller of two.
  No condition beyond those that each statement names.
-/
import Derived.Test.YtcakpkdeojhacaaRxP
noncomputable section
namespace Go.R

section
variable {P : Program} {f : Fn} {H : Heap} {rs : List ResultVar} {l : List Value}
theorem rN : resultsF P f H [] = some [] := rfl
theorem rT {t : Tmp} {v : Value} (hv : f t = v) (h : resultsF P f H rs = some l) : resultsF P f H (.tmp t :: rs) = some (v :: l) := by
  unfold resultsF; rw [h, hv]
theorem rC {a : Tmp} {t : TypeId} {p : Addr} {v : Value} (ha : f a = .pointer (some p)) (hv : H.loadV P t p = some v) (h : resultsF P f H rs = some l) : resultsF P f H (.cell a t :: rs) = some (v :: l) := by
  unfold resultsF; rw [ha]; simp only [hv, h]
theorem ldV1 {t : TypeId} {b o i : Nat} {cs : List Value} {w : Value} (ha : aggOf P t = some false) (hc : HC H.get b o cs) (hv : cs[i]? = some w) : H.loadV P t ⟨b, o + i, none⟩ = some w := by
  obtain ⟨all, opn, ro, h1, h2⟩ := hc.get hv
  unfold Heap.loadV
  rw [ha]
  simp only
  unfold Heap.cellAt
  simp only [h1, nth_eq, h2]
theorem ldVN {t : TypeId} {b n : Nat} {cs : List Value} (ha : aggOf P t = some true) (hs : szOf P t = some n) (hc : HC H.get b 0 cs) (hn : cs.length = n) : H.loadV P t ⟨b, 0, none⟩ = some (.agg ⟨cs⟩) := by
  obtain ⟨all, opn, ro, h1, h2⟩ := hc
  unfold Heap.loadV
  rw [ha]
  simp only [hs]
  unfold Heap.loadN
  rw [List.drop_zero] at h2
  subst hn
  simp only [h1, takeL_eq, dropL_eq, lenL_eq, List.drop_zero, h2, Nat.beq_refl, cond_true]
end

section
variable {α : Type} [Rp α] {P : Program} {ρ : Operand → Value} {d : Option Tmp} {ty : TypeId} {pos : String} {af : Array Edge} {gd : Option (Nat × Bool)} {B : Base} {F : Fz} {H : Heap} {L R : List Fp} {v : Value} {l : List α} {p : Fp}
theorem ap_boolNe {t yt : TypeId} {x y : Operand} {a b : Bool} (hx : ρ x = .bool a) (hy : ρ y = .bool b) (hrun : ∀ a b : Bool, pureRun P (boolEqRun .neq t x y a b) = some (.value (.bool (a != b)))) : AP P ρ ⟨d, .binOp .neq t x y yt, ty, pos, af, gd⟩ H (.val (.bool (a != b)), H) := by
  refine ⟨?_⟩
  show aBin P ρ _ .neq t (ρ x) y H = _
  rw [hx]
  show plainOp P ρ _ H = _
  unfold plainOp
  have h1 : ((Op.binOp .neq t x y yt).operands.toList.all fun x => noA1 (ρ x)) = true := by simp [Op.operands, hx, hy, noA1, noA0]
  simp only [h1, cond_true]
  have h2 : pureRun P (execOp ρ ⟨d, .binOp .neq t x y yt, ty, pos, af, gd⟩) = some (.value (.bool (a != b))) := by
    rw [← hrun a b]
    unfold execOp boolEqRun
    simp only [hx, hy]
  rw [h2]; rfl
theorem bytesCells : ∀ {l : List UInt8} {cs : List Value} {F : Fz}, RL F cs l → bytesOfCells cs = some l
  | [], cs, F, h => by simp only [RL] at h; subst h; rfl
  | c :: l, cs, F, h => by
    obtain ⟨a, r, rfl, rfl, h2⟩ := h
    show (match bytesOfCells r with | some r => some (UInt8.ofNat (c.toNat : Int).toNat :: r) | none => none) = _
    rw [bytesCells h2]; simp
theorem ap_cvB {s t e : TypeId} {x : Operand} {l : List UInt8} (hx : ρ x = v) (hs : P.underlying s = some (.slice e)) (ht : P.underlying t = some .string) (he : P.underlying e = some (.int .u8)) (h : Sv F H.get v l) :
    AP P ρ ⟨d, .convert s t x, ty, pos, af, gd⟩ H (.val (.string ⟨⟨l⟩⟩), H) := by
  refine ⟨?_⟩
  show aConvert P ρ _ s t (ρ x) H = _
  rw [hx]
  rcases h with ⟨rfl, rfl⟩ | ⟨b, off, k, o, rfl, g1, cs, opn, ro, rfl, g2, g3, g4, g5⟩
  · show ovl (convBytes P s t none 0 H) H = _
    unfold convBytes
    simp only [hs, ht, he]; rfl
  · show ovl (convBytes P s t (some ⟨b, off, none⟩) l.length H) H = _
    unfold convBytes
    simp only [hs, ht, he]
    cases hb : Nat.beq l.length 0 with
    | true =>
      have : l = [] := List.eq_nil_of_length_eq_zero (Nat.eq_of_beq_eq_true hb)
      subst this; rfl
    | false =>
      simp only [cond_false]
      have hl := g4.length
      have hz : Rp.sz UInt8 = 1 := rfl
      rw [hz, Nat.mul_one] at hl
      rw [hz, Nat.mul_one] at g4
      have e1 : H.loadN ⟨b, off, none⟩ l.length = some ((cs.drop off).take l.length) := by
        unfold Heap.loadN
        simp only [g1, takeL_eq, dropL_eq, lenL_eq]
        rw [hl, Nat.beq_refl]; rfl
      simp only [e1, bytesCells g4]; rfl
theorem OS.len' {F : Fz} {a : Option Addr} {n k : Nat} {l : List α} {p : Fp} (h : OS F (.slice a n k) l p) : l.length = n := by
  obtain ⟨a', k', e⟩ := h.shape
  injection e with _ e _
  exact e.symm
theorem OS.norm {F : Fz} {a : Option Addr} {n k : Nat} {l : List α} {p : Fp} (h : OS F (.slice a n k) l p) : OS F (.slice a l.length k) l p := by rw [h.len']; exact h
/-- An array in a block of its own. -/
theorem rs_arr {e : TypeId} {z : List Value} (l0 : List α) {n : Nat} (hs : HS B F H L R) (hz : zeroOf P e = some z) (hr : RL F z l0) (hn : l0.length = n) :
    ∃ r : Rs, AP P ρ ⟨d, .alloc e, ty, pos, af, gd⟩ H (.val r.v, r.H) ∧ (∃ b, r.v = .pointer (some ⟨b, 0, none⟩) ∧ OS F (.slice (some ⟨b, 0, none⟩) n n) l0 r.p ∧ HS B F r.H (L ++ [r.p]) R ∧ Wr H r.H [] ∧ ∃ cs, r.p = [(b, .cells cs none false)]) := by
  subst hn
  refine ⟨⟨_, _, [(H.next, .cells z none false)]⟩, ap_alloc hz, _, rfl, ?_, hs.push _, .nil fun b hb => (by simpa using hb), z, rfl⟩
  have := hr.length
  exact .inr ⟨H.next, 0, _, z, none, rfl, rfl, _, _, _, rfl, fun _ => (by omega), Nat.le_refl _, by rw [List.drop_zero, ← this, List.take_length]; exact hr, .inl rfl⟩
theorem ap_idxA {x i : Operand} {t e : TypeId} {ki : IntKind} {j : Int} {b n : Nat} (hx : ρ x = .pointer (some ⟨b, 0, none⟩)) (hi : ρ i = .int ki j) (ht : P.underlying t = some (.array n e)) (hz : szOf P e = some (Rp.sz α)) (h0 : 0 ≤ j) (hj : j < n) :
    AP P ρ ⟨d, .indexAddr t x i, ty, pos, af, gd⟩ H (.val (.pointer (some ⟨sB (.slice (some ⟨b, 0, none⟩) n n), sO (.slice (some ⟨b, 0, none⟩) n n) + j.toNat * Rp.sz α, none⟩)), H) := by
  refine ⟨?_⟩
  obtain ⟨m, rfl⟩ := Int.eq_ofNat_of_zero_le h0
  show ovl (aIndexAddr P t (ρ x) (ρ i)) H = _
  rw [hx, hi]
  unfold aIndexAddr
  rw [ht]
  show ovl (match szOf P e with | some sz => bif Nat.ble (m + 1) n then some (.pointer (some ⟨b, 0 + m * sz, none⟩)) else none | none => none) H = _
  rw [hz]
  have h1 : Nat.ble (m + 1) n = true := Nat.ble_eq_true_of_le (by omega)
  simp only [h1, cond_true]
  rfl
theorem rs_cutA {x : Operand} {lo hi : Option Operand} {t e : TypeId} {i j q b n : Nat} (h : OS F (.slice (some ⟨b, 0, none⟩) n n) l p) (hs : HS B F H L R) (hq : L[q]? = some p) (hx : ρ x = .pointer (some ⟨b, 0, none⟩)) (ht : P.underlying t = some (.array n e)) (hz : szOf P e = some (Rp.sz α))
    (h1 : optNat n (hi.map ρ) = some j) (h2 : optNat 0 (lo.map ρ) = some i) (hij : i ≤ j) (hj : j ≤ l.length) (hopn : ∃ cs, p = [(b, .cells cs none false)]) :
    ∃ r : Rs, AP P ρ ⟨d, .slice t x lo hi none, ty, pos, af, gd⟩ H (.val r.v, r.H) ∧ (∃ a k, r.v = .slice a ((l.take j).drop i).length k ∧ r.H = H ∧ OS F (.slice a ((l.take j).drop i).length k) ((l.take j).drop i) p) := by
  have hn := h.len'
  subst hn
  rcases h with ⟨h0, _⟩ | ⟨b', off, k, cs, opn, h0, rfl, h5⟩
  · cases h0
  · injection h0 with e1 e2 e3
    injection e1 with e1
    injection e1 with e4 e5
    subst e4 e5 e3
    obtain ⟨cs', hcs⟩ := hopn
    simp only [List.cons.injEq, Prod.mk.injEq, AObj.cells.injEq, true_and, and_true] at hcs
    obtain ⟨rfl, rfl⟩ := hcs
    have hg := hs.get hq (List.mem_singleton.2 rfl)
    have hlen : ((l.take j).drop i).length = j - i := by simp; omega
    have hbn := bnds_of (n := l.length) (k := l.length) h1 h2 hij hj
    have run : ∀ w, aSlice P t (.pointer (some ⟨b, 0, none⟩)) (lo.map ρ) (hi.map ρ) none H = some w → AP P ρ ⟨d, .slice t x lo hi none, ty, pos, af, gd⟩ H (.val w, H) := by
      intro w hw
      refine ⟨?_⟩
      show ovl (aSlice P t (ρ x) (lo.map ρ) (hi.map ρ) (Option.map ρ none) H) H = _
      rw [hx, Option.map_none, hw]; rfl
    cases hk : Nat.beq l.length i with
    | true =>
      have hki := Nat.eq_of_beq_eq_true hk
      refine ⟨⟨_, H, []⟩, run (.slice (some ⟨b, 0, none⟩) (j - i) (l.length - i)) ?_, _, _, by rw [hlen], rfl, .inr ⟨b, 0, l.length - i, cs, none, rfl, rfl, ?_⟩⟩
      · unfold aSlice
        simp only [ht, hbn, hz, hg, hk, cond_true]
      · have e0 : (l.take j).drop i = [] := List.eq_nil_of_length_eq_zero (by rw [hlen]; omega)
        rw [e0, ← hki, Nat.sub_self]
        exact Sl_at0 h5
    | false =>
      refine ⟨⟨_, H, []⟩, run (.slice (some ⟨b, 0 + i * Rp.sz α, none⟩) (j - i) (l.length - i)) ?_, _, _, by rw [hlen], rfl, .inr ⟨b, 0 + i * Rp.sz α, l.length - i, cs, none, rfl, rfl, Sl_cut h5 hij hj⟩⟩
      unfold aSlice
      simp only [ht, hbn, hz, hg, hk, cond_false]
theorem rs_stA {t : TypeId} {a0 x0 : Operand} {j q off n b o : Nat} {w : Value} {y : α} (y' : α) {cl : List Value} (h : OS F v l p) (hs : HS B F H L R) (hq : L[q]? = some p) (ha : ρ a0 = .pointer (some ⟨b, o, none⟩)) (hb : b = sB v) (ho : o = sO v + j * Rp.sz α + off) (hx : ρ x0 = w) (hn : szOf P t = some n) (hc : w.cells.toList = cl) (hl : Nat.beq cl.length n = true)
    (hy : l[j]? = some y) (h1 : allL Value.oneCell' cl = true) (hr : ∀ cs, Rp.rep F cs y → off + cl.length ≤ cs.length ∧ Rp.rep F (splice cs off cl) y') {bb : Nat} (hopn : ∃ cs, p = [(bb, .cells cs none false)]) :
    ∃ r : Rs, AP P ρ ⟨d, .store t a0 x0, ty, pos, af, gd⟩ H (.skip, r.H) ∧ (OS F v (l.set j y') r.p ∧ HS B F r.H (L.set q r.p) R ∧ Wr H r.H (p.map Prod.fst) ∧ ∃ cs, r.p = [(bb, .cells cs none false)]) := by
  have hcc := hs.callOwn hq
  obtain ⟨H1, p', g1, g2, g3, g5⟩ := os_st (d := d) (ty := ty) (pos := pos) (af := af) (gd := gd) (q := 0) h hcc rfl ha hb ho hx hn hc hl hy h1 hr
  have h4 := hs.backOwn (M := []) hq rfl (fun b hb => hb) g3
  obtain ⟨cs, hcs⟩ := hopn
  obtain ⟨cs', hcs'⟩ := g5 bb cs none hcs
  exact ⟨⟨.bool true, H1, p'⟩, g1, g2, by simpa using h4, fun b hb => g3.log b hb, cs', hcs'⟩
theorem ap_ixG {x i : Operand} {t : TypeId} {cs : Array Value} {w r : Value} (hx : ρ x = .agg cs) (hi : ρ i = w) (h : pureRun P (Instr.index t (.agg cs) w) = some r) : AP P ρ ⟨d, .index t x i, ty, pos, af, gd⟩ H (.val r, H) := by
  refine ⟨?_⟩
  show aIndex P t (ρ x) (ρ i) H = _
  rw [hx, hi]
  show lift P (Instr.index t (.agg cs) w) H = _
  unfold lift
  rw [h]
end
theorem u8_of {n : Nat} (h : n < 256) : (n : Int) = ((UInt8.ofNat n).toNat : Int) := by rw [UInt8.toNat_ofNat']; omega
theorem u8r {n : Nat} (h : n < 256) : [Value.int .u8 (n : Int)] = [.int .u8 ((UInt8.ofNat n).toNat : Int)] := by rw [← u8_of h]
theorem natsub {k : IntKind} {a b : Nat} (h : b ≤ a) (hw : k.wrap ((a - b : Nat) : Int) = ((a - b : Nat) : Int)) : k.wrap ((a : Int) - (b : Int)) = ((a - b : Nat) : Int) := by rw [← Int.ofNat_sub h]; exact hw
section
variable {α : Type} [Rp α] {P : Program} {ρ : Operand → Value} {d : Option Tmp} {ty : TypeId} {pos : String} {af : Array Edge} {gd : Option (Nat × Bool)} {B : Base} {F : Fz} {H : Heap} {L R : List Fp} {v : Value} {l : List α} {p : Fp} {t e : TypeId} {x : Operand} {i j q : Nat}
theorem ap_slSd {s : List UInt8} {lo : Option Operand} (hx : ρ x = .string ⟨⟨s⟩⟩) (ht : P.underlying t = some .string) (h2 : optNat 0 (lo.map ρ) = some i) (hij : i ≤ s.length) :
    AP P ρ ⟨d, .slice t x lo none none, ty, pos, af, gd⟩ H (.val (.string ⟨⟨s.drop i⟩⟩), H) := by
  have := ap_slS (d := d) (ty := ty) (pos := pos) (af := af) (gd := gd) (H := H) (lo := lo) (hi := none) hx ht optN0 h2 hij (Nat.le_refl _)
  rwa [List.take_of_length_le (by simp)] at this
theorem ap_slSt {s : List UInt8} {hi : Option Operand} (hx : ρ x = .string ⟨⟨s⟩⟩) (ht : P.underlying t = some .string) (h1 : optNat s.length (hi.map ρ) = some j) (hj : j ≤ s.length) :
    AP P ρ ⟨d, .slice t x none hi none, ty, pos, af, gd⟩ H (.val (.string ⟨⟨s.take j⟩⟩), H) := by
  have := ap_slS (d := d) (ty := ty) (pos := pos) (af := af) (gd := gd) (H := H) (lo := none) (hi := hi) hx ht h1 optN0 (Nat.zero_le _) hj
  rwa [List.drop_zero, Nat.sub_zero] at this
theorem rs_cutd {lo : Option Operand} (h : SR F v l) (hs : HS B F H L R) (hx : ρ x = v) (ht : P.underlying t = some (.slice e)) (hz : szOf P e = some (Rp.sz α)) (h2 : optNat 0 (lo.map ρ) = some i) (hij : i ≤ l.length) :
    ∃ r : Rs, AP P ρ ⟨d, .slice t x lo none none, ty, pos, af, gd⟩ H (.val r.v, r.H) ∧ (∃ a k, r.v = .slice a (l.drop i).length k ∧ r.H = H ∧ SR F (.slice a (l.drop i).length k) (l.drop i)) := by
  have := rs_cut (d := d) (ty := ty) (pos := pos) (af := af) (gd := gd) (hi := none) h hs hx ht hz optN0 h2 hij (Nat.le_refl _)
  rwa [List.take_of_length_le (Nat.le_refl _)] at this
theorem rs_cutt {hi : Option Operand} (h : SR F v l) (hs : HS B F H L R) (hx : ρ x = v) (ht : P.underlying t = some (.slice e)) (hz : szOf P e = some (Rp.sz α)) (h1 : optNat l.length (hi.map ρ) = some j) (hj : j ≤ l.length) :
    ∃ r : Rs, AP P ρ ⟨d, .slice t x none hi none, ty, pos, af, gd⟩ H (.val r.v, r.H) ∧ (∃ a k, r.v = .slice a (l.take j).length k ∧ r.H = H ∧ SR F (.slice a (l.take j).length k) (l.take j)) := by
  have := rs_cut (d := d) (ty := ty) (pos := pos) (af := af) (gd := gd) (lo := none) h hs hx ht hz h1 optN0 (Nat.zero_le _) hj
  rwa [List.drop_zero] at this
theorem rs_cutOd {lo : Option Operand} (h : OS F v l p) (hs : HS B F H L R) (hq : L[q]? = some p) (hx : ρ x = v) (ht : P.underlying t = some (.slice e)) (hz : szOf P e = some (Rp.sz α)) (h2 : optNat 0 (lo.map ρ) = some i) (hij : i ≤ l.length) :
    ∃ r : Rs, AP P ρ ⟨d, .slice t x lo none none, ty, pos, af, gd⟩ H (.val r.v, r.H) ∧ (∃ a k, r.v = .slice a (l.drop i).length k ∧ r.H = H ∧ OS F (.slice a (l.drop i).length k) (l.drop i) p) := by
  have := rs_cutO (d := d) (ty := ty) (pos := pos) (af := af) (gd := gd) (hi := none) h hs hq hx ht hz optN0 h2 hij (Nat.le_refl _)
  rwa [List.take_of_length_le (Nat.le_refl _)] at this
theorem rs_cutOt {hi : Option Operand} (h : OS F v l p) (hs : HS B F H L R) (hq : L[q]? = some p) (hx : ρ x = v) (ht : P.underlying t = some (.slice e)) (hz : szOf P e = some (Rp.sz α)) (h1 : optNat l.length (hi.map ρ) = some j) (hj : j ≤ l.length) :
    ∃ r : Rs, AP P ρ ⟨d, .slice t x none hi none, ty, pos, af, gd⟩ H (.val r.v, r.H) ∧ (∃ a k, r.v = .slice a (l.take j).length k ∧ r.H = H ∧ OS F (.slice a (l.take j).length k) (l.take j) p) := by
  have := rs_cutO (d := d) (ty := ty) (pos := pos) (af := af) (gd := gd) (lo := none) h hs hq hx ht hz h1 optN0 (Nat.zero_le _) hj
  rwa [List.drop_zero] at this
end
theorem HS.empty : HS (.of Heap.empty []) (fun _ => none) Heap.empty [] [] :=
  ⟨fun b o h => by simp at h, fun p hp => by simp at hp, by simp, Nat.le_refl _, fun b hb => .inl hb, fun p hp => by simp at hp⟩
end Go.R
end
