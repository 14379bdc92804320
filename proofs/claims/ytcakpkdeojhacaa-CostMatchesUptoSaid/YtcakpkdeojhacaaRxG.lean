/-
  Symbolic runs: operations that are asked for only where another said so; the choice between two; equal bools.
  No condition beyond those that each statement names.
-/
import Derived.Test.YtcakpkdeojhacaaRxD
noncomputable section
namespace Go.R

def yieldF (ops : Array Oper) (f : Fn) (j : Nat) : Option Bool :=
  match (ops[j]?).bind (·.dst) with
  | some d =>
    match f d with
    | .bool b => some b
    | _ => none
  | none => none

theorem aop_guard {P : Program} {ρ : Operand → Value} {d : Option Tmp} {op : Op} {ty : TypeId} {pos : String} {af : Array Edge} (g g' : Option (Nat × Bool)) (H : Heap) :
    aop P ρ ⟨d, op, ty, pos, af, g⟩ H = aop P ρ ⟨d, op, ty, pos, af, g'⟩ H := by
  cases op <;> rfl

section
variable {P : Program} {G : Nat} {K : Known} {sz : Nat} {Q : Ex → Fn → Heap → Prop} {ops : Array Oper} {wr : List Nat} {i j : Nat} {os : List Oper} {k : List Fr} {f : Fn} {H H1 : Heap} {v want : Bool}
  {d : Option Tmp} {op : Op} {ty : TypeId} {pos : String} {af : Array Edge}

theorem wanted_fn {t : Tr Value} (ht : lget t = f) (hy : yieldF ops f j = some v) (o : Oper) (hg : o.guard = some (j, want)) : wantedL ops o t = (v == want) := by
  unfold wantedL
  rw [hg]
  have : yieldL ops t j = some v := by rw [← hy, ← ht]; rfl
  simp only [this]
  cases v <;> cases want <;> rfl

theorem step_guard {cf : CallF} {t : Tr Value} (ht : lget t = f) (hy : yieldF ops f j = some v) (hv : v = want) :
    step P G cf ops ⟨d, op, ty, pos, af, some (j, want)⟩ ⟨t, sz, H⟩ = step P G cf ops ⟨d, op, ty, pos, af, none⟩ ⟨t, sz, H⟩ := by
  unfold step
  rw [wanted_fn ht hy _ rfl, hv]
  have h1 : (want == want) = true := by cases want <;> rfl
  have h2 : wantedL ops ⟨d, op, ty, pos, af, none⟩ t = true := rfl
  simp only [h1, h2, cond_true, aop_guard (some (j, want)) none]
theorem step_unwanted {cf : CallF} {t : Tr Value} (ht : lget t = f) (hy : yieldF ops f j = some v) (hv : v = !want) :
    step P G cf ops ⟨d, op, ty, pos, af, some (j, want)⟩ ⟨t, sz, H⟩ = St.put ⟨t, sz, H⟩ d undef := by
  unfold step
  rw [wanted_fn ht hy _ rfl, hv]
  have h1 : ((!want) == want) = false := by cases want <;> rfl
  simp only [h1, cond_false]

theorem wo_gt (hy : yieldF ops f j = some v) (hv : v = want) (h : WO P G K sz ops (⟨d, op, ty, pos, af, none⟩ :: os) k f H Q) : WO P G K sz ops (⟨d, op, ty, pos, af, some (j, want)⟩ :: os) k f H Q := ⟨fun t ht => by
  obtain ⟨n, e, s', h1, h2⟩ := h.out t ht
  refine ⟨n, e, s', ?_, h2⟩
  rw [runOps_cons] at h1 ⊢
  rw [step_guard ht hy hv]; exact h1⟩
theorem wo_gf {d : Tmp} (hy : yieldF ops f j = some v) (hv : v = !want) (hd : Nat.ble (d + 1) sz = true) (h : WO P G K sz ops os k (upd f d undef) H Q) : WO P G K sz ops (⟨some d, op, ty, pos, af, some (j, want)⟩ :: os) k f H Q := ⟨fun t ht => by
  obtain ⟨t', h3, h4⟩ := put_fn (s := ⟨t, sz, H⟩) (d := some d) (v := undef) hd
  obtain ⟨n, e, s', h1, h2⟩ := h.out t' (by rw [h4, ht]; rfl)
  refine ⟨n, e, s', ?_, h2⟩
  rw [runOps_cons, step_unwanted ht hy hv, h3]; exact h1⟩
theorem wo_gf1 {d : Tmp} (hy : yieldF ops f j = some v) (hv : v = false) (hd : Nat.ble (d + 1) sz = true) (h : WO P G K sz ops os k (upd f d undef) H Q) : WO P G K sz ops (⟨some d, op, ty, pos, af, some (j, true)⟩ :: os) k f H Q := wo_gf hy hv hd h
theorem wo_gf0 {d : Tmp} (hy : yieldF ops f j = some v) (hv : v = true) (hd : Nat.ble (d + 1) sz = true) (h : WO P G K sz ops os k (upd f d undef) H Q) : WO P G K sz ops (⟨some d, op, ty, pos, af, some (j, false)⟩ :: os) k f H Q := wo_gf hy hv hd h
theorem wo_gn {d : Tmp} (hy : yieldF ops f j = none) (hd : Nat.ble (d + 1) sz = true) (h : WO P G K sz ops os k (upd f d undef) H Q) : WO P G K sz ops (⟨some d, op, ty, pos, af, some (j, want)⟩ :: os) k f H Q := ⟨fun t ht => by
  obtain ⟨t', h3, h4⟩ := put_fn (s := ⟨t, sz, H⟩) (d := some d) (v := undef) hd
  obtain ⟨n, e, s', h1, h2⟩ := h.out t' (by rw [h4, ht]; rfl)
  refine ⟨n, e, s', ?_, h2⟩
  have hw : wantedL ops ⟨some d, op, ty, pos, af, some (j, want)⟩ t = false := by
    unfold wantedL
    have : yieldL ops t j = none := by rw [← hy, ← ht]; rfl
    simp only [this]
    cases want <;> rfl
  have hst : step P G (call P G K n) ops ⟨some d, op, ty, pos, af, some (j, want)⟩ ⟨t, sz, H⟩ = St.put ⟨t, sz, H⟩ (some d) undef := by
    unfold step
    simp only [hw, cond_false]
  rw [runOps_cons, hst, h3]; exact h1⟩
theorem wo_gsT {d : Tmp} (hy : yieldF ops f j = some v) (hd : Nat.ble (d + 1) sz = true) (h1 : v = true → WO P G K sz ops (⟨some d, op, ty, pos, af, none⟩ :: os) k f H Q) (h2 : v = false → WO P G K sz ops os k (upd f d undef) H Q) :
    WO P G K sz ops (⟨some d, op, ty, pos, af, some (j, true)⟩ :: os) k f H Q := by
  cases v with
  | true => exact wo_gt hy rfl (h1 rfl)
  | false => exact wo_gf hy rfl hd (h2 rfl)
theorem wo_gsF {d : Tmp} (hy : yieldF ops f j = some v) (hd : Nat.ble (d + 1) sz = true) (h1 : v = false → WO P G K sz ops (⟨some d, op, ty, pos, af, none⟩ :: os) k f H Q) (h2 : v = true → WO P G K sz ops os k (upd f d undef) H Q) :
    WO P G K sz ops (⟨some d, op, ty, pos, af, some (j, false)⟩ :: os) k f H Q := by
  cases v with
  | true => exact wo_gf hy rfl hd (h2 rfl)
  | false => exact wo_gt hy rfl (h1 rfl)
end

section
variable {P : Program} {ρ : Operand → Value} {d : Option Tmp} {ty : TypeId} {pos : String} {af : Array Edge} {gd : Option (Nat × Bool)} {H : Heap}
theorem ap_pickT {c a b : Operand} {t : Bool} {v : Value} (hc : ρ c = .bool t) (ht : t = true) (hv : ρ a = v) : AP P ρ ⟨d, .pick c a b, ty, pos, af, gd⟩ H (.val v, H) := by
  refine ⟨?_⟩
  show opPick ρ c a b H = _
  unfold opPick
  rw [hc, ht, ← hv]; rfl
theorem ap_pickF {c a b : Operand} {t : Bool} {v : Value} (hc : ρ c = .bool t) (ht : t = false) (hv : ρ b = v) : AP P ρ ⟨d, .pick c a b, ty, pos, af, gd⟩ H (.val v, H) := by
  refine ⟨?_⟩
  show opPick ρ c a b H = _
  unfold opPick
  rw [hc, ht, ← hv]; rfl
def boolEqRun (op : BinOp) (t : TypeId) (x y : Operand) (a b : Bool) : Sem Next :=
  ((eqGuard op t x y (.bool a) (.bool b)) >>= fun _ => binOp op t (.bool a) (.bool b)) >>= fun r => Pure.pure (Next.value r)
theorem ap_boolEq {t yt : TypeId} {x y : Operand} {a b : Bool} (hx : ρ x = .bool a) (hy : ρ y = .bool b) (hrun : ∀ a b : Bool, pureRun P (boolEqRun .eql t x y a b) = some (.value (.bool (a == b)))) : AP P ρ ⟨d, .binOp .eql t x y yt, ty, pos, af, gd⟩ H (.val (.bool (a == b)), H) := by
  refine ⟨?_⟩
  show aBin P ρ _ .eql t (ρ x) y H = _
  rw [hx]
  show plainOp P ρ _ H = _
  unfold plainOp
  have h1 : ((Op.binOp .eql t x y yt).operands.toList.all fun x => noA1 (ρ x)) = true := by simp [Op.operands, hx, hy, noA1, noA0]
  simp only [h1, cond_true]
  have h2 : pureRun P (execOp ρ ⟨d, .binOp .eql t x y yt, ty, pos, af, gd⟩) = some (.value (.bool (a == b))) := by
    rw [← hrun a b]
    unfold execOp boolEqRun
    simp only [hx, hy]
  rw [h2]; rfl
end
end Go.R
end
