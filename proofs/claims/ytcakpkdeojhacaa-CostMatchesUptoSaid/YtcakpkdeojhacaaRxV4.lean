/-
  Symbolic runs by computation: where the code goes on, joins, loads by views (own work).
  No condition beyond those that each statement names.
-/
import Derived.Test.YtcakpkdeojhacaaRxV3
noncomputable section
namespace Go.R

/-- Where a code goes on: the next region, choice, loop or end. -/
def foc : Nat → Code → List Fr → Code × List Fr
  | 0, c, k => (c, k)
  | n + 1, .seq a b, k => foc n a (.seq b :: k)
  | n + 1, .block id b, k => foc n b (.block id :: k)
  | n + 1, .skip, .seq b :: k => foc n b k
  | n + 1, .skip, .block _ :: k => foc n .skip k
  | n + 1, .exit id, .seq _ :: k => foc n (.exit id) k
  | n + 1, .exit id, .block id' :: k => bif Nat.beq id id' then foc n .skip k else foc n (.exit id) k
  | _ + 1, c, k => (c, k)
section
variable {P : Program} {G : Nat} {K : Known} {sz : Nat} {Q : Ex → Fn → Heap → Prop} {f : Fn} {H : Heap}
theorem wk_foc' : ∀ (n : Nat) (c : Code) (k : List Fr), WK P G K sz (foc n c k).1 (foc n c k).2 f H Q → WK P G K sz c k f H Q := by
  intro n
  induction n with
  | zero => intro c k h; exact h
  | succ n ih =>
    intro c k h
    cases c with
    | seq a b => exact wk_seq (ih _ _ h)
    | block id b => exact wk_block (ih _ _ h)
    | skip =>
      cases k with
      | nil => exact h
      | cons x k =>
        cases x with
        | seq b => exact wk_skip_seq (ih _ _ h)
        | block id => exact wk_skip_block (ih _ _ h)
    | exit id =>
      cases k with
      | nil => exact h
      | cons x k =>
        cases x with
        | seq b => exact wk_exit_seq (ih _ _ h)
        | block id' =>
          have h' : WK P G K sz (bif Nat.beq id id' then foc n .skip k else foc n (.exit id) k).1 (bif Nat.beq id id' then foc n .skip k else foc n (.exit id) k).2 f H Q := h
          cases hb : Nat.beq id id' with
          | true =>
            have := Nat.eq_of_beq_eq_true hb
            subst this
            rw [hb] at h'
            exact wk_exit_block (ih _ _ h')
          | false =>
            rw [hb] at h'
            exact wk_exit_block_ne hb (ih _ _ h')
    | _ => exact h
variable {c c1 c2 : Code} {k k1 k2 : List Fr}
theorem wk_foc (n : Nat) (hf : foc n c k = (c1, k1)) (h : WK P G K sz c1 k1 f H Q) : WK P G K sz c k f H Q := wk_foc' n c k (by rw [hf]; exact h)
/-- A choice. -/
theorem wk_if (n m : Nat) {x : Operand} {a b : Code} {v : Bool} (hx : aevF f x = .bool v) (ho : opnOK G x = true) (h1 : foc n a k = (c1, k1)) (h2 : foc m b k = (c2, k2)) (ht : v = true → WK P G K sz c1 k1 f H Q) (he : v = false → WK P G K sz c2 k2 f H Q) : WK P G K sz (.cond x a b) k f H Q :=
  wk_cond hx ho (fun hv => wk_foc n h1 (ht hv)) (fun hv => wk_foc m h2 (he hv))
theorem wk_ift (n : Nat) {x : Operand} {a b : Code} {v : Bool} (hx : aevF f x = .bool v) (hv : v = true) (ho : opnOK G x = true) (h1 : foc n a k = (c1, k1)) (h : WK P G K sz c1 k1 f H Q) : WK P G K sz (.cond x a b) k f H Q := wk_true hx hv ho (wk_foc n h1 h)
theorem wk_iff (n : Nat) {x : Operand} {a b : Code} {v : Bool} (hx : aevF f x = .bool v) (hv : v = false) (ho : opnOK G x = true) (h1 : foc n b k = (c1, k1)) (h : WK P G K sz c1 k1 f H Q) : WK P G K sz (.cond x a b) k f H Q := wk_false hx hv ho (wk_foc n h1 h)
/-- A place that several ways lead to. -/
theorem wk_join (J : Fn → Heap → Prop) (h1 : (∀ f' H', J f' H' → WK P G K sz .skip k f' H' Q) → WK P G K sz c k f H Q) (h2 : ∀ f' H', J f' H' → WK P G K sz .skip k f' H' Q) : WK P G K sz c k f H Q := h1 h2
/-- A region, all of it, and where the code goes on. -/
theorem wr (n : Nat) {id : Nat} {ops : Array Oper} (hs : List (Nat × Hint)) (lo hi : Nat) (ex : List Nat) (l : List (Nat × Value)) {p : Prop} (hp : p) (h : rgTop P G K H sz ops f 0 ops.toList hs lo hi ex (mapL Prod.fst l) = some (l, p)) (hf : foc n .skip k = (c1, k1))
    (hk : ∀ g, WK P G K sz c1 k1 (updL (hav lo hi ex g f) l) H Q) : WK P G K sz (.region id ops false) k f H Q := wk_rg hs lo hi ex h hp fun g => wk_foc n hf (hk g)
theorem wrD (n : Nat) {id : Nat} {ops : Array Oper} (hs : List (Nat × Hint)) (lo hi : Nat) (ex : List Nat) (l : List (Nat × Value)) {p : Prop} (hp : p) (hr : (regOK ops && P.follows .mixedOrders) = true) (h : rgTop P G K { H with log := [] } sz ops f 0 ops.toList hs lo hi ex (mapL Prod.fst l) = some (l, p)) (hf : foc n .skip k = (c1, k1))
    (hk : ∀ g, WK P G K sz c1 k1 (updL (hav lo hi ex g f) l) H Q) : WK P G K sz (.region id ops true) k f H Q := wk_rgD hr hs lo hi ex h hp fun g => wk_foc n hf (hk g)
theorem wro (n i : Nat) {ops : Array Oper} {os os' : List Oper} (hs : List (Nat × Hint)) (lo hi : Nat) (ex : List Nat) (l : List (Nat × Value)) {p : Prop} (hp : p) (h : rgTop P G K H sz ops f i (takeL os n) hs lo hi ex (mapL Prod.fst l) = some (l, p)) (he : dropL os n = os')
    (hk : ∀ g, WO P G K sz ops os' k (updL (hav lo hi ex g f) l) H Q) : WO P G K sz ops os k f H Q := wo_rg n i hs lo hi ex h hp (by rw [he]; exact hk)
theorem wo_end (n : Nat) {ops : Array Oper} (hf : foc n .skip k = (c1, k1)) (h : WK P G K sz c1 k1 f H Q) : WO P G K sz ops [] k f H Q := wo_nil (wk_foc n hf h)
theorem wf_end (n : Nat) {ops : Array Oper} {D : List (Nat × ID)} {i : Nat} (hf : foc n .skip k = (c1, k1)) (h : WK P G K sz c1 k1 f H Q) : WF2 P G K sz ops D i [] k f H Q := wf_nil (wk_foc n hf h)
end

/-! What is asked for. -/
theorem vA {a b : Prop} (h : a) (k : b) : a ∧ b := ⟨h, k⟩
theorem vi {n : Int} (h : -9223372036854775808 ≤ n ∧ n < 9223372036854775808) : rng .i64 n := h
theorem vu {n : Int} (h : 0 ≤ n ∧ n < 18446744073709551616) : rng .u64 n := h
theorem vb {n : Int} (h : 0 ≤ n ∧ n < 256) : rng .u8 n := h
section
variable {P : Program} {G : Nat} {K : Known} {H : Heap} {F : Fz} {B : Base} {L R : List Fp}
theorem ld1 {b o i : Nat} {cs : List Value} {w : Value} {t : TypeId} (hc : HC H.get b o cs) (ha : aggOf P t = some false) (hv : cs[i]? = some w) : LDv P H t (.pointer (some ⟨b, o + i, none⟩)) w := by
  obtain ⟨all, opn, ro, h1, h2⟩ := hc.get hv
  show ovl (H.loadV P t ⟨b, o + i, none⟩) H = _
  unfold Heap.loadV
  rw [ha]
  simp only
  unfold Heap.cellAt
  simp only [h1, nth_eq, h2]
  rfl
theorem ldN {b o i n : Nat} {cs l : List Value} {t : TypeId} (hc : HC H.get b o cs) (ha : aggOf P t = some true) (hs : szOf P t = some n) (hn : Nat.ble (i + n) cs.length = true) (hl : takeL (dropL cs i) n = l) : LDv P H t (.pointer (some ⟨b, o + i, none⟩)) (.agg ⟨l⟩) := by
  obtain ⟨all, opn, ro, h1, h2, h3⟩ := hc.part (Nat.le_of_ble_eq_true hn)
  rw [takeL_eq, dropL_eq] at hl
  show ovl (H.loadV P t ⟨b, o + i, none⟩) H = _
  unfold Heap.loadV
  rw [ha]
  simp only [hs]
  unfold Heap.loadN
  rw [← hl]
  simp only [h1, takeL_eq, dropL_eq, lenL_eq, h2, h3, Nat.beq_refl, cond_true]
  rfl
/-- The same in a region that draws its order. -/
theorem hc0 {b o : Nat} {cs : List Value} (h : HC H.get b o cs) : HC ({ H with log := [] } : Heap).get b o cs := h
theorem cq {f : FuncId} {args : List Value} {Q : Value → Heap → Prop} {v : Value} (h : C P G K f args H Q) (hq : ∀ v' H', Q v' H' → v' = v ∧ H' = H) : C P G K f args H fun v' H' => v' = v ∧ H' = H := h.mono hq
section
variable {α : Type} [Rp α] {v : Value} {l : List α}
/-- The cells of each element. -/
theorem Sv.view {get : Nat → Option AObj} (h : Sv F get v l) : ∃ cf : Nat → List Value, ∀ (j : Nat), (∀ d : α, j < l.length → Rp.rep F (cf j) (l.getD j d) ∧ HC get (sB v) (sO v + j * Rp.sz α) (cf j)) ∧ (l.length ≤ j → cf j = []) := by
  have h0 : ∀ j, ∃ cs, (∀ (d : α), j < l.length → Rp.rep F cs (l.getD j d) ∧ HC get (sB v) (sO v + j * Rp.sz α) cs) ∧ (l.length ≤ j → cs = []) := by
    intro j
    by_cases hj : j < l.length
    · obtain ⟨cs, h1, h2⟩ := h.at (List.getElem?_eq_getElem hj)
      refine ⟨cs, fun d _ => ⟨?_, h2⟩, fun h => absurd h (by omega)⟩
      rw [List.getD_eq_getElem?_getD, List.getElem?_eq_getElem hj]; exact h1
    · exact ⟨[], fun _ hj' => absurd hj' hj, fun _ => rfl⟩
  exact ⟨fun j => (h0 j).choose, fun j => (h0 j).choose_spec⟩
/-- What is known of each element. -/
abbrev VW (F : Fz) (get : Nat → Option AObj) (v : Value) (l : List α) (cf : Nat → List Value) (j : Nat) : Prop := (∀ d : α, j < l.length → Rp.rep F (cf j) (l.getD j d) ∧ HC get (sB v) (sO v + j * Rp.sz α) (cf j)) ∧ (l.length ≤ j → cf j = [])
theorem Sv.ix {get : Nat → Option AObj} (h : Sv F get v l) {j : Int} (h0 : 0 ≤ j) (hj : j < l.length) : IX v j := by
  rcases h with ⟨_, rfl⟩ | ⟨b, off, k, o, rfl, h2, cs, opn, ro, rfl, h3, h4, h5, h6⟩
  · simp at hj; omega
  · exact ⟨b, off, _, k, rfl, h0, hj, h4⟩
end
/-- A slice among cells. -/
def sA : Value → Option Addr
  | .slice a _ _ => a
  | _ => none
def sK : Value → Nat
  | .slice _ _ k => k
  | _ => 0
abbrev cA (cs : List Value) (i : Nat) : Option Addr := sA (cs.getD i undef)
abbrev cK (cs : List Value) (i : Nat) : Nat := sK (cs.getD i undef)
end
theorem getD_out {α : Type} {l : List α} {j : Nat} {d : α} (h : l.length ≤ j) : l.getD j d = d := by
  rw [List.getD_eq_getElem?_getD, List.getElem?_eq_none h]; rfl
/-! Views of the plain kinds: what lies there, and the range. -/
section
variable {F : Fz} {get : Nat → Option AObj} {v : Value} {cf : Nat → List Value} {j : Nat}
theorem vI {l : List Int} (h : VW F get v l cf j) (hj : j < l.length) : HC get (sB v) (sO v + j * Rp.sz Int) [.int .i64 (l.getD j 0)] := by
  obtain ⟨⟨h1, _⟩, h2⟩ := h.1 0 hj
  rw [h1] at h2; exact h2
theorem fI {l : List Int} (h : VW F get v l cf j) : in64 (l.getD j 0) := by
  rcases Nat.lt_or_ge j l.length with hj | hj
  · exact (h.1 0 hj).1.2
  · rw [getD_out hj]; decide
theorem vB {l : List Bool} (h : VW F get v l cf j) (hj : j < l.length) : HC get (sB v) (sO v + j * Rp.sz Bool) [.bool (l.getD j false)] := by
  obtain ⟨h1, h2⟩ := h.1 false hj
  rw [show cf j = _ from h1] at h2; exact h2
theorem vS {l : List Str} (h : VW F get v l cf j) (hj : j < l.length) : HC get (sB v) (sO v + j * Rp.sz Str) [.string ⟨⟨(l.getD j default).b⟩⟩] := by
  obtain ⟨h1, h2⟩ := h.1 default hj
  rw [show cf j = _ from h1] at h2; exact h2
theorem vU {l : List U64} (h : VW F get v l cf j) (hj : j < l.length) : HC get (sB v) (sO v + j * Rp.sz U64) [.int .u64 (l.getD j default).n] := by
  obtain ⟨⟨h1, _⟩, h2⟩ := h.1 default hj
  rw [h1] at h2; exact h2
theorem fU {l : List U64} (h : VW F get v l cf j) : 0 ≤ (l.getD j default).n ∧ (l.getD j default).n < 18446744073709551616 := by
  rcases Nat.lt_or_ge j l.length with hj | hj
  · exact (h.1 default hj).1.2
  · rw [getD_out hj]; exact ⟨Int.le_refl _, by decide⟩
theorem vC {l : List UInt8} (h : VW F get v l cf j) (hj : j < l.length) : HC get (sB v) (sO v + j * Rp.sz UInt8) [.int .u8 (l.getD j 0).toNat] := by
  obtain ⟨h1, h2⟩ := h.1 0 hj
  rw [show cf j = _ from h1] at h2; exact h2
theorem vL {α : Type} [Rp α] {l : List (List α)} (h : VW F get v l cf j) (hj : j < l.length) : HC get (sB v) (sO v + j * Rp.sz (List α)) [.slice (cA (cf j) 0) (l.getD j []).length (cK (cf j) 0)] := by
  obtain ⟨⟨a, k, h1, _⟩, h2⟩ := h.1 [] hj
  rw [h1] at h2 ⊢; exact h2
theorem fL {α : Type} [Rp α] {l : List (List α)} (h : VW F get v l cf j) : SR F (.slice (cA (cf j) 0) (l.getD j []).length (cK (cf j) 0)) (l.getD j []) := by
  rcases Nat.lt_or_ge j l.length with hj | hj
  · obtain ⟨⟨a, k, h1, h3⟩, _⟩ := h.1 [] hj
    rw [h1]; exact h3
  · rw [getD_out hj, h.2 hj]; exact SR.nil
end
theorem vq {a b : Int} (ha : in64 a) (hb : b ≠ -1) : rng .i64 (a.tdiv b) := by
  show in64 _
  by_cases h0 : b = 0
  · subst h0; rw [Int.tdiv_zero]; decide
  · have h1 : (a.tdiv b).natAbs = a.natAbs / b.natAbs := Int.natAbs_tdiv a b
    by_cases h3 : b = 1
    · subst h3; rw [Int.tdiv_one]; exact ha
    · have h4 : 2 ≤ b.natAbs := by omega
      have h5 : (a.tdiv b).natAbs * 2 ≤ a.natAbs := by
        rw [h1]
        exact Nat.le_trans (Nat.mul_le_mul_left _ h4) (Nat.div_mul_le_self _ _)
      obtain ⟨h6, h7⟩ := ha
      clear h1
      constructor <;> omega
theorem ve {n m : Int} (h : n = m) (h2 : -9223372036854775808 ≤ m ∧ m < 9223372036854775808) : n = m ∧ rng .i64 m := ⟨h, h2⟩
theorem veu {n m : Int} (h : n = m) (h2 : 0 ≤ m ∧ m < 18446744073709551616) : n = m ∧ rng .u64 m := ⟨h, h2⟩
/-! Equal aggregates. -/
section
variable {P : Program} {t : TypeId} {fs : Array Field} {xs ys : List Value} {bs : List Bool}
theorem agEq (hax : xs.all noA0 = true) (hay : ys.all noA0 = true) (hu : P.underlying t = some (.struct fs)) (hs : P.stoodInHeld t = false) (hg : P.eqGuardType P.depth t = false) (h : EqFs P 9999 ⟨xs⟩ ⟨ys⟩ fs.toList bs) : AGB P .eql t (.agg ⟨xs⟩) (.agg ⟨ys⟩) (.bool (bs.all id)) :=
  fun _ _ _ _ _ _ _ _ _ _ hx hy => ap_agEq hx hy hax hay hu hs hg h
theorem agNe (hax : xs.all noA0 = true) (hay : ys.all noA0 = true) (hu : P.underlying t = some (.struct fs)) (hs : P.stoodInHeld t = false) (hg : P.eqGuardType P.depth t = false) (h : EqFs P 9999 ⟨xs⟩ ⟨ys⟩ fs.toList bs) : AGB P .neq t (.agg ⟨xs⟩) (.agg ⟨ys⟩) (.bool (!bs.all id)) := by
  intro ρ x y yt d ty pos af gd H hx hy
  refine ⟨?_⟩
  show aBin P ρ _ .neq t (ρ x) y H = _
  rw [hx]
  show plainOp P ρ _ H = _
  unfold plainOp
  have h1 : ((Op.binOp .neq t x y yt).operands.toList.all fun x => noA1 (ρ x)) = true := by
    simp [Op.operands, hx, hy, noA_cells hax, noA_cells hay]
  simp only [h1, cond_true]
  have h2 : pureRun P (execOp ρ ⟨d, .binOp .neq t x y yt, ty, pos, af, gd⟩) = some (.value (Value.bool (!bs.all id))) := by
    unfold execOp
    simp only [hx, hy, pureRun_bind]
    have e1 : pureRun P (eqGuard .neq t x y (.agg ⟨xs⟩) (.agg ⟨ys⟩)) = some () := by
      simp [eqGuard, hg]
    have e2 : pureRun P (binOp .neq t (.agg ⟨xs⟩) (.agg ⟨ys⟩)) = some (Value.bool (!bs.all id)) := by
      show pureRun P (Op.equal t (.agg ⟨xs⟩) (.agg ⟨ys⟩) >>= fun b => (Pure.pure (Value.bool (!b)) : Sem Value)) = _
      rw [pureRun_bind, show Op.equal t (.agg ⟨xs⟩) (.agg ⟨ys⟩) = Op.equalIn (9999 + 1) t (.agg ⟨xs⟩) (.agg ⟨ys⟩) from rfl, eq_struct hu hs h]; rfl
    simp only [e1, e2, Option.bind_some]; rfl
  rw [h2]; rfl
end
end Go.R
end
