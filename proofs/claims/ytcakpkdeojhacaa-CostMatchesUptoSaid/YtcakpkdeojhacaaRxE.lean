/-
  Equality of two aggregates, cell by cell. Own work.
-/
import Derived.Test.YtcakpkdeojhacaaRxG
noncomputable section
namespace Go.R
open Go
section
variable {P : Program} {d : Nat} {t : TypeId}
theorem eqI {k : IntKind} {a b : Int} (hu : P.underlying t = some (.int k)) : pureRun P (Op.equalIn (d + 1) t (.int k a) (.int k b)) = some (a == b) := by
  simp [Op.equalIn, underlying, hu]
theorem eqS {a b : ByteArray} (hu : P.underlying t = some .string) : pureRun P (Op.equalIn (d + 1) t (.string a) (.string b)) = some (a == b) := by
  simp [Op.equalIn, underlying, hu]
theorem eqL {a b : List UInt8} (hu : P.underlying t = some .string) : pureRun P (Op.equalIn (d + 1) t (.string ⟨⟨a⟩⟩) (.string ⟨⟨b⟩⟩)) = some (a == b) := by
  rw [eqS hu]
  congr 1
  show ((⟨a⟩ : Array UInt8) == ⟨b⟩) = _
  rw [Bool.eq_iff_iff, beq_iff_eq, beq_iff_eq]
  constructor
  · intro h; injection h
  · intro h; rw [h]
theorem eqB {a b : Bool} (hu : P.underlying t = some .bool) : pureRun P (Op.equalIn (d + 1) t (.bool a) (.bool b)) = some (a == b) := by
  simp [Op.equalIn, underlying, hu]
/-- What is known of a field. -/
structure EqF (P : Program) (d : Nat) (xs ys : Array Value) (f : Field) (b : Bool) : Prop where
  named : f.name ≠ "_"
  ok : ∃ u v, pureRun P (part f.type xs f.offset) = some u ∧ pureRun P (part f.type ys f.offset) = some v ∧ pureRun P (Op.equalIn d f.type u v) = some b
inductive EqFs (P : Program) (d : Nat) (xs ys : Array Value) : List Field → List Bool → Prop
  | nil : EqFs P d xs ys [] []
  | cons {f b fs bs} : EqF P d xs ys f b → EqFs P d xs ys fs bs → EqFs P d xs ys (f :: fs) (b :: bs)
def eqLoop (d : Nat) (xs ys : Array Value) (fs : List Field) : Sem (Option Bool × Unit) :=
  forIn fs ((none : Option Bool), ()) fun f (_ : Option Bool × Unit) =>
    if f.name ≠ "_" then do
      if !(← Op.equalIn d f.type (← part f.type xs f.offset) (← part f.type ys f.offset)) then pure (ForInStep.done (some false, ()))
      else pure (ForInStep.yield (none, ()))
    else pure (ForInStep.yield (none, ()))
theorem eq_loop {xs ys : Array Value} {fs : List Field} {bs : List Bool} (h : EqFs P d xs ys fs bs) :
    pureRun P (eqLoop d xs ys fs) = some (if bs.all id = true then none else some false, ()) := by
  induction h with
  | nil => simp [eqLoop]
  | @cons f b fs bs hf _ ih =>
    obtain ⟨hn, u, v, h1, h2, h3⟩ := hf
    unfold eqLoop at ih ⊢
    rw [List.forIn_cons, if_pos hn]
    simp only [pureRun_bind, h1, h2, h3, Option.bind_some]
    cases b
    · simp
    · simp only [Bool.not_true, Bool.false_eq_true, if_false, pureRun_pure, Option.bind_some, ih]
      simp
theorem eq_struct {fs : Array Field} {xs ys : Array Value} {bs : List Bool} (hu : P.underlying t = some (.struct fs)) (hs : P.stoodInHeld t = false)
    (h : EqFs P d xs ys fs.toList bs) : pureRun P (Op.equalIn (d + 1) t (.agg xs) (.agg ys)) = some (bs.all id) := by
  simp only [Op.equalIn, underlying, pureRun_bind, pureRun_program, Option.bind_some, hu, pureRun_pure, hs, Bool.false_eq_true, if_false]
  rw [← Array.forIn_toList]
  have := eq_loop h
  unfold eqLoop at this
  rw [this]
  cases bs.all id <;> rfl
end
section
variable {P : Program} {ρ : Operand → Value} {d : Option Tmp} {ty : TypeId} {pos : String} {af : Array Edge} {gd : Option (Nat × Bool)} {H : Heap}
theorem noA_cells {cs : List Value} (h : cs.all noA0 = true) : noA1 (.agg ⟨cs⟩) = true := h
theorem ap_agEq {t yt : TypeId} {x y : Operand} {xs ys : List Value} {fs : Array Field} {bs : List Bool} (hx : ρ x = .agg ⟨xs⟩) (hy : ρ y = .agg ⟨ys⟩)
    (hax : xs.all noA0 = true) (hay : ys.all noA0 = true)
    (hu : P.underlying t = some (.struct fs)) (hs : P.stoodInHeld t = false) (hg : P.eqGuardType P.depth t = false)
    (h : EqFs P 9999 ⟨xs⟩ ⟨ys⟩ fs.toList bs) : AP P ρ ⟨d, .binOp .eql t x y yt, ty, pos, af, gd⟩ H (.val (.bool (bs.all id)), H) := by
  refine ⟨?_⟩
  show aBin P ρ _ .eql t (ρ x) y H = _
  rw [hx]
  show plainOp P ρ _ H = _
  unfold plainOp
  have h1 : ((Op.binOp .eql t x y yt).operands.toList.all fun x => noA1 (ρ x)) = true := by
    simp [Op.operands, hx, hy, noA_cells hax, noA_cells hay]
  simp only [h1, cond_true]
  have h2 : pureRun P (execOp ρ ⟨d, .binOp .eql t x y yt, ty, pos, af, gd⟩) = some (.value (Value.bool (bs.all id))) := by
    unfold execOp
    simp only [hx, hy, pureRun_bind]
    have e1 : pureRun P (eqGuard .eql t x y (.agg ⟨xs⟩) (.agg ⟨ys⟩)) = some () := by
      simp [eqGuard, hg]
    have e2 : pureRun P (binOp .eql t (.agg ⟨xs⟩) (.agg ⟨ys⟩)) = some (Value.bool (bs.all id)) := by
      show pureRun P (Op.equal t (.agg ⟨xs⟩) (.agg ⟨ys⟩) >>= fun b => (Pure.pure (Value.bool b) : Sem Value)) = _
      rw [pureRun_bind, show Op.equal t (.agg ⟨xs⟩) (.agg ⟨ys⟩) = Op.equalIn (9999 + 1) t (.agg ⟨xs⟩) (.agg ⟨ys⟩) from rfl, eq_struct hu hs h]; rfl
    simp only [e1, e2, Option.bind_some]; rfl
  rw [h2]; rfl
end
end Go.R
end
