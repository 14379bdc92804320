/-
  Calls that write what the caller owns: back from them (own work).
  No condition beyond those that each statement names.
-/
import Derived.Test.YtcakpkdeojhacaaRxV4
noncomputable section
namespace Go.R
section
variable {B : Base} {F : Fz} {H : Heap} {L R : List Fp} {x : Fp}
theorem HS.first (h : HS B F H (x :: L) R) : HS B F H [x] R := HS.sub h (by simp)
theorem HS.first0 (h : HS B F H (x :: L) R) : HS B F H [x, []] R := by
  have := h.first.snoc
  exact this
theorem HS.pair (h : HS B F H (x :: L) R) {i : Nat} {y : Fp} (hi0 : 0 < i) (hi : (x :: L)[i]? = some y) : HS B F H [x, y] R := by
  obtain ⟨j, rfl⟩ : ∃ j, i = j + 1 := ⟨i - 1, by omega⟩
  refine HS.sub h ?_
  have : y ∈ L := List.mem_of_getElem? (by simpa using hi)
  exact List.Sublist.cons_cons x (List.singleton_sublist.2 this)
theorem HS.didW {H0 : Heap} {W : List Nat} (h : HS (.of { H0 with log := [] } W) F H L R) : ∀ b, b ∈ H.log → H0.next ≤ b ∨ b ∈ W := fun b hb => by
  rcases h.log b hb with h1 | h1 | h1
  · simp [Base.of] at h1
  · exact .inl h1
  · exact .inr h1
end
end Go.R
end
namespace Go.R
theorem ap_nilP {P : Program} {ρ : Operand → Value} {d : Option Tmp} {ty : TypeId} {pos : String} {af : Array Edge} {gd : Option (Nat × Bool)} {H : Heap} {x : Operand} {a : Addr} (hx : ρ x = .pointer (some a)) : AP P ρ ⟨d, .nilCheck x, ty, pos, af, gd⟩ H (.val (.pointer (some a)), H) := by
  refine ⟨?_⟩
  show opNil (ρ x) H = _
  rw [hx]; rfl
end Go.R
namespace Go.R
theorem over_all : ∀ (cs vs : List Value), cs.length = vs.length → over cs vs = vs
  | [], [], _ => rfl
  | [], _ :: _, h => by simp at h
  | _ :: _, [], h => by simp at h
  | c :: cs, v :: vs, h => by
    show v :: over cs vs = _
    rw [over_all cs vs (by simpa using h)]
theorem st_whole {α : Type} [Rp α] {F : Fz} {X Y : α} {cl : List Value} (h : Rp.rep F cl Y) : ∀ cs, Rp.rep F cs X → 0 + cl.length ≤ cs.length ∧ Rp.rep F (splice cs 0 cl) Y := by
  intro cs hc
  have h1 := Rp.len h
  have h2 := Rp.len hc
  refine ⟨by omega, ?_⟩
  have : splice cs 0 cl = over cs cl := by cases cs <;> rfl
  rw [this, over_all _ _ (by omega)]; exact h
end Go.R
namespace Go.R
/-- Two owners' blocks are apart. -/
theorem HS.nin {B : Base} {F : Fz} {H : Heap} {L R : List Fp} (h : HS B F H L R) {i j : Nat} {p q : Fp} (hi : L[i]? = some p) (hj : L[j]? = some q) (hij : i ≠ j) {b : Nat} (hb : b ∈ p.map Prod.fst) : b ∉ q.map Prod.fst := by
  intro hq
  have hc := h.callOwn hi
  have hnd := hc.nd
  have hjm : q ∈ L.set i [] := by
    refine List.mem_of_getElem? (i := j) ?_
    rw [List.getElem?_set_ne hij]; exact hj
  simp only [List.cons_append, List.nil_append, List.flatten_cons, List.map_append, List.nodup_append] at hnd
  refine hnd.2.2 b hb b ?_ rfl
  obtain ⟨⟨b', o⟩, hb', rfl⟩ := List.mem_map.1 hq
  exact List.mem_map.2 ⟨(b', o), List.mem_flatten.2 ⟨q, List.mem_append_left _ hjm, hb'⟩, rfl⟩
end Go.R
namespace Go.R
theorem SR.len' {α : Type} [Rp α] {F : Fz} {a : Option Addr} {n k : Nat} {l : List α} (h : SR F (.slice a n k) l) : l.length = n := by
  obtain ⟨a', k', e⟩ := Sv.shape h
  injection e with _ e _
  exact e.symm
theorem SR.norm {α : Type} [Rp α] {F : Fz} {a : Option Addr} {n k : Nat} {l : List α} (h : SR F (.slice a n k) l) : SR F (.slice a l.length k) l := by rw [h.len']; exact h
end Go.R
