/-
  From an evaluated call to the walk of a law without parameters, and 'post' behind a walk below whose first new block nothing has turned.
  Conditions: none beyond those that the theorems name.
-/
import Derived.Test.YtcakpkdeojhacaaRxExec
import Derived.Below
import Derived.ChangeSame
namespace Go.R
open Go.RowKit

theorem walk_of_eval {P : Program} {K : Known} (hK : KnownOK P K) {n : Nat} {f : FuncId} (h : saysTrue (call P 0 K n f [] Heap.empty) = true) (w : World) :
    Calls P f #[] w fun e w' => e = .returned (.bool true) ∧ Below w.heap.size w w' := by
  revert h
  cases hc : call P 0 K n f [] Heap.empty with
  | none => intro h; cases h
  | some r =>
    obtain ⟨v, H'⟩ := r
    intro h
    have hv : v = .bool true := by
      unfold saysTrue at h
      split at h
      · rename_i heq; simp only [Option.some.injEq, Prod.mk.injEq] at heq; exact heq.1
      · cases h
    subst hv
    exact calls_of_eval hK rfl rfl hc #[] w rfl

open Go.WideShapes Go.ChangeShapes in
theorem post_of_below {H : Type} {enc : TypeId × Value → H} {P : Program} {f : Func} {s : ChangeSpec} {apart fresh handsOn again : Bool} {W W' : World} {args : Array Value} {v : Value} {ds gs : List (DataW H)} {before pa pv : List MemPlace}
    (hW : DataW.Whole enc P f.params.toList s.vars apart W args.toList ds gs before)
    (hres : ∀ (b : Nat) (sp : Nat → Bool) (hd : Bool), DataW.TrodAll enc P W' b sp hd f.resultTypes.toList (v.resultList f.resultTypes.size) (s.fn H (ds ++ gs)).results [])
    (hargs : ∀ sp : Nat → Bool, (∀ p ∈ before, sp p.block = true) → DataW.TrodAll enc P W' 0 sp true f.params.toList args.toList (s.fn H (ds ++ gs)).args pa)
    (hvars : ∀ sp : Nat → Bool, (∀ p ∈ before, sp p.block = true) → DataW.TrodVars enc P W' sp s.vars (s.fn H (ds ++ gs)).vars pv)
    (hps : before = pa ++ pv) (hb : Below W.heap.size W W')
    (hok : ∀ (j : Nat) (t : TypeId) (r : Value), f.resultTypes[j]? = some t → (v.resultList f.resultTypes.size)[j]? = some r → Value.okWide P W' .any 0 t r) :
    s.post enc P f apart fresh handsOn again W args v W' := by
  have hold : ∀ p ∈ before, (fun b => decide (b < W.heap.size)) p.block = true := fun p hp => by simpa using hW.lt p hp
  have hlt : ∀ p ∈ before, p.block < W.heap.size := fun p hp => by simpa using hW.lt p hp
  refine ⟨ds, gs, before, [], pa, pv, hW, hres _ _ _, hargs _ hold, hvars _ hold, World.keptBut_mono (fun p hp => ⟨hp, ?_⟩) (hb.frame (· ∈ before)), fun _ => ?_⟩
  · rw [hps, List.mem_append] at hp
    exact Or.inr hp
  · obtain ⟨_, _, _, _, _, hz, hn⟩ := hW
    refine ⟨hok, _, _, ([] ++ pa) ++ pv, ⟨[] ++ pa, pv, trodAll_append (hargs _ (fun _ _ => rfl)) (hres _ _ _), hvars _ (fun _ _ => rfl), rfl, ?_, ?_⟩, ?_⟩
    · intro b off hp
      have hp' : MemPlace.cell b off ∈ before := by rw [hps]; simpa using hp
      have h1 := hb.frozen (p := ⟨b, off, none⟩) (hlt _ hp')
      have h2 := hz b off hp'
      first | (rw [h1]; exact h2) | (exact h1.trans h2) | (simp_all)
    · intro ha
      have := hn ha
      rw [hps] at this
      simpa using this
    · intro p hp _
      rw [hps]
      simpa using hp
end Go.R
