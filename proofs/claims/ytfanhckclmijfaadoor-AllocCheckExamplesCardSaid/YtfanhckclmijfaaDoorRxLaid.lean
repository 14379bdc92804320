/-
  A table in a package's variable, read as laid: its cells; and a call evaluated over the heap that holds the variable and its table.
  Conditions: those that the theorems name.
-/
import Derived.Test.YtfanhckclmijfaaDoorRxLaw
import Derived.ChangeArms
noncomputable section
namespace Go.R
open Go.RowKit

section
variable {P : Program} {w : World} {base : Nat} {held : Bool} {enc : TypeId × Value → Unit}

def lit1 (P : Program) (t : TypeId) (d : DataW Unit) : Option Value :=
  match P.underlying t, d with
  | some .bool, .lit (.bool b) => some (.bool b)
  | some (.int k), .lit (.int _ n) => some (.int k n)
  | some .string, .lit (.string l) => some (.string ⟨⟨l⟩⟩)
  | _, _ => none

theorem cells_lit1 {spare : Nat → Bool} {fuel : Nat} {t : TypeId} {cs : List Value} {d : DataW Unit} {p : List MemPlace} {v : Value} (h : DataW.trod enc P w base spare held fuel t cs = some (d, p)) (hv : lit1 P t d = some v) : cs = [v] := by
  unfold lit1 at hv
  split at hv
  · rename_i ht
    obtain ⟨b, rfl, hx⟩ := DataW.trod_bool ht h
    simp only [Prod.mk.injEq, DataW.lit.injEq, Lit.bool.injEq] at hx
    injection hv with hv; subst hv; rw [hx.1]
  · rename_i ht
    obtain ⟨n, rfl, hx, _⟩ := DataW.trod_int ht h
    simp only [Prod.mk.injEq, DataW.lit.injEq, Lit.int.injEq] at hx
    injection hv with hv; subst hv; rw [hx.1.2]
  · rename_i ht
    obtain ⟨s, rfl, hx, _⟩ := DataW.trod_string ht h
    simp only [Prod.mk.injEq, DataW.lit.injEq, Lit.string.injEq] at hx
    injection hv with hv; subst hv; rw [hx.1]
  · cases hv

/-- The fields are one cell each, in order. -/
def flatFs (P : Program) : Nat → List Field → Bool
  | _, [] => true
  | i, f :: fs => Nat.beq f.offset i && Nat.beq (P.cellsOf f.type) 1 && flatFs P (i + 1) fs
theorem flatFs_at : ∀ (fs : List Field) (i j : Nat) (f : Field), flatFs P i fs = true → fs[j]? = some f → f.offset = i + j ∧ P.cellsOf f.type = 1
  | [], _, _, _, _, h => by simp at h
  | g :: fs, i, 0, f, h, hf => by
    simp only [flatFs, Bool.and_eq_true] at h
    simp only [List.getElem?_cons_zero, Option.some.injEq] at hf; subst hf
    exact ⟨Nat.eq_of_beq_eq_true h.1.1, Nat.eq_of_beq_eq_true h.1.2⟩
  | g :: fs, i, j + 1, f, h, hf => by
    simp only [flatFs, Bool.and_eq_true] at h
    have := flatFs_at fs (i + 1) j f h.2 (by simpa using hf)
    exact ⟨by omega, this.2⟩
def litFs (P : Program) : List Field → List (DataW Unit) → Option (List Value)
  | [], [] => some []
  | f :: fs, d :: ds =>
    match lit1 P f.type d, litFs P fs ds with
    | some v, some l => some (v :: l)
    | _, _ => none
  | _, _ => none
theorem litFs_at : ∀ (fs : List Field) (ds : List (DataW Unit)) (l : List Value), litFs P fs ds = some l → l.length = fs.length ∧ ds.length = fs.length ∧ ∀ (i : Nat) f d, fs[i]? = some f → ds[i]? = some d → ∃ v, l[i]? = some v ∧ lit1 P f.type d = some v
  | [], [], l, h => by simp only [litFs, Option.some.injEq] at h; subst h; exact ⟨rfl, rfl, fun i f d h => by simp at h⟩
  | [], _ :: _, l, h => by cases h
  | _ :: _, [], l, h => by cases h
  | f :: fs, d :: ds, l, h => by
    simp only [litFs] at h
    split at h
    · rename_i v l1 hv hl
      injection h with h; subst h
      obtain ⟨h1, h2, h3⟩ := litFs_at fs ds l1 hl
      refine ⟨by simp [h1], by simp [h2], fun i g e hg he => ?_⟩
      cases i with
      | zero => simp only [List.getElem?_cons_zero, Option.some.injEq] at hg he; subst hg he; exact ⟨v, rfl, hv⟩
      | succ i => exact h3 i g e (by simpa using hg) (by simpa using he)
    · cases h

theorem cells_struct {spare : Nat → Bool} {fuel : Nat} {t : TypeId} {fs : Array Field} {cs : List Value} {ds : List (DataW Unit)} {p : List MemPlace} {vs : List Value} (ht : P.underlying t = some (.struct fs)) (hfl : flatFs P 0 fs.toList = true) (hc : P.cellsOf t = fs.size)
    (h : DataW.trod enc P w base spare held fuel t cs = some (.agg ds, p)) (hv : litFs P fs.toList ds = some vs) : cs = vs := by
  obtain ⟨xs, n, _, hx, hlen, hxl, hall⟩ := DataW.trod_struct ht h
  simp only [Prod.mk.injEq, DataW.agg.injEq] at hx
  obtain ⟨h1, h2, h3⟩ := litFs_at _ _ _ hv
  have hfl' := h1
  apply List.ext_getElem?
  intro i
  by_cases hi : i < fs.size
  · have hf : fs[i]? = some fs[i] := Array.getElem?_eq_getElem hi
    have hf' : fs.toList[i]? = some fs[i] := by simp [hf]
    obtain ⟨ho, hc1⟩ := flatFs_at _ 0 i _ hfl hf'
    have hr := hall i _ hf
    have hxi : xs[i]? = some (xs[i]'(by omega)) := List.getElem?_eq_getElem (by omega)
    have hdi : ds[i]? = some (xs[i]'(by omega)).1 := by rw [hx.1]; simp [hxi]
    obtain ⟨v, hvi, hl1⟩ := h3 i _ _ hf' hdi
    rw [hxi] at hr
    have hcs := cells_lit1 (p := (xs[i]'(by omega)).2) hr hl1
    rw [hvi]
    have e1 : ((cs.drop fs[i].offset).take (P.cellsOf fs[i].type))[0]? = some v := by rw [hcs]; rfl
    rw [hc1, ho, List.getElem?_take, if_pos (by omega), List.getElem?_drop] at e1
    simpa using e1
  · rw [List.getElem?_eq_none (by rw [hlen, hc]; omega), List.getElem?_eq_none (by rw [h1]; simpa using hi)]

/-- The cells of a table of such structs. -/
def litRows (P : Program) (fs : List Field) : List (DataW Unit) → Option (List (List Value))
  | [] => some []
  | .agg ds :: r =>
    match litFs P fs ds, litRows P fs r with
    | some l, some m => some (l :: m)
    | _, _ => none
  | _ :: _ => none
theorem litRows_at {fs : List Field} : ∀ (ds : List (DataW Unit)) (m : List (List Value)), litRows P fs ds = some m → m.length = ds.length ∧ ∀ (i : Nat) l, m[i]? = some l → ∃ es, ds[i]? = some (.agg es) ∧ litFs P fs es = some l
  | [], m, h => by simp only [litRows, Option.some.injEq] at h; subst h; exact ⟨rfl, fun i l h => by simp at h⟩
  | d :: r, m, h => by
    cases d <;> first | (cases h; done) | skip
    rename_i es
    simp only [litRows] at h
    split at h
    · rename_i l m1 hl hm
      injection h with h; subst h
      obtain ⟨h1, h2⟩ := litRows_at r m1 hm
      refine ⟨by simp [h1], fun i l' hl' => ?_⟩
      cases i with
      | zero => simp only [List.getElem?_cons_zero, Option.some.injEq] at hl'; subst hl'; exact ⟨es, rfl, hl⟩
      | succ i => exact h2 i l' (by simpa using hl')
    · cases h

theorem cells?_at {a : Addr} : ∀ {n : Nat} {l : List Value}, w.cells? base a n = some l → ∀ i, i < n → l[i]? = w.cell? (a.add i) ∧ (w.cell? (a.add i)).isSome := by
  intro n l h i hi
  unfold World.cells? at h
  split at h
  · have key : ∀ (r : List Nat) (l : List Value), r.mapM (fun i => w.cell? (a.add i)) = some l → ∀ (j : Nat) k, r[j]? = some k → l[j]? = w.cell? (a.add k) ∧ (w.cell? (a.add k)).isSome := by
      intro r
      induction r with
      | nil => intro l _ j k hj; simp at hj
      | cons x r ih =>
        intro l hl j k hj
        simp only [List.mapM_cons, Option.bind_eq_bind, Option.bind_eq_some_iff] at hl
        obtain ⟨v, hv, m, hm, hl⟩ := hl
        cases hl
        cases j with
        | zero => simp only [List.getElem?_cons_zero, Option.some.injEq] at hj; subst hj; exact ⟨by rw [hv]; rfl, by rw [hv]; rfl⟩
        | succ j => exact ih m hm j k (by simpa using hj)
    exact key _ _ h i i (by rw [List.getElem?_range hi])
  · cases h

theorem flatten_at (k : Nat) (hk : 0 < k) : ∀ (m : List (List Value)), (∀ l ∈ m, l.length = k) → ∀ (i : Nat) v, m.flatten[i]? = some v → ∃ l, m[i / k]? = some l ∧ l[i % k]? = some v
  | [], _, i, v, h => by simp at h
  | l :: m, hm, i, v, h => by
    have hl := hm l (List.mem_cons_self ..)
    rw [List.flatten_cons] at h
    by_cases hi : i < k
    · rw [List.getElem?_append_left (by omega)] at h
      exact ⟨l, by rw [Nat.div_eq_of_lt hi]; rfl, by rw [Nat.mod_eq_of_lt hi]; exact h⟩
    · rw [List.getElem?_append_right (by omega), hl] at h
      obtain ⟨l', h1, h2⟩ := flatten_at k hk m (fun x hx => hm x (List.mem_cons_of_mem _ hx)) (i - k) v h
      have e1 : i / k = (i - k) / k + 1 := by rw [Nat.div_eq_sub_div hk (by omega)]
      have e2 : i % k = (i - k) % k := by rw [Nat.mod_eq_sub_mod (by omega)]
      exact ⟨l', by rw [e1]; exact h1, by rw [e2]; exact h2⟩

theorem cells_table {fuel : Nat} {t e : TypeId} {fs : Array Field} {cs : List Value} {ds : List (DataW Unit)} {p : List MemPlace} {m : List (List Value)} (ht : P.underlying t = some (.slice e)) (he : P.underlying e = some (.struct fs)) (hfl : flatFs P 0 fs.toList = true)
    (hc : P.cellsOf e = fs.size) (hfs : 0 < fs.size) (hds : 0 < ds.length) (h : DataW.trod enc P w base (fun _ => true) held fuel t cs = some (.slice ds [], p)) (hv : litRows P fs.toList ds = some m) :
    ∃ c o, cs = [.slice (some ⟨c, o, none⟩) ds.length ds.length] ∧ ∀ i v, m.flatten[i]? = some v → w.cell? ⟨c, o + i, none⟩ = some v := by
  rcases DataW.trod_slice ht h with ⟨_, hx⟩ | ⟨a, len, cap, elems, rest, n, _, hcs, hx, _, hl, _, hlen, hel, hsp, _⟩
  · simp at hx
  · simp only [Prod.mk.injEq, DataW.slice.injEq] at hx
    obtain ⟨⟨hd, hr⟩, _⟩ := hx
    have hr' : rest.length = 0 := by
      have := congrArg List.length hr
      simpa using this.symm
    have hcap := (hsp rfl).1
    have hdl : ds.length = len := by rw [hd]; simpa using hlen
    have hck : cap = len := by omega
    subst hck
    obtain ⟨hm1, hm2⟩ := litRows_at _ _ hv
    obtain ⟨c, o, sp⟩ := a
    have cell : ∀ j, j < cap → ∃ l, m[j]? = some l ∧ l.length = fs.size ∧ ∀ q, q < fs.size → w.cell? ((Addr.mk c o sp).add (j * fs.size) |>.add q) = l[q]? ∧ (w.cell? ((Addr.mk c o sp).add (j * fs.size) |>.add q)).isSome := by
      intro j hj
      have hml : m[j]? = some (m[j]'(by omega)) := List.getElem?_eq_getElem (by omega)
      obtain ⟨es, he1, he2⟩ := hm2 j _ hml
      have hE := hel j hj
      rw [hc] at hE
      have hy : elems[j]? = some (elems[j]'(by omega)) := List.getElem?_eq_getElem (by omega)
      rw [hy] at hE
      simp only [Option.bind_eq_some_iff] at hE
      obtain ⟨c1, hc1, hy1⟩ := hE
      have hdj : (elems[j]'(by omega)).1 = .agg es := by
        have e0 : ds[j]? = some (elems[j]'(by omega)).1 := by rw [show ds[j]? = (List.map (fun x => x.fst) elems)[j]? from by rw [← hd], List.getElem?_map, hy]; rfl
        rw [he1] at e0; exact (Option.some.inj e0).symm
      have hrow := cells_struct (p := (elems[j]'(by omega)).2) he hfl hc (by rw [hy1, ← hdj]) he2
      subst hrow
      refine ⟨_, hml, (litFs_at _ _ _ he2).1.trans (by simp), fun q hq => ?_⟩
      have := cells?_at hc1 q hq
      exact ⟨this.1.symm, this.2⟩
    have hsp0 : sp = none := by
      obtain ⟨l, _, _, h3⟩ := cell 0 (by omega)
      have := (h3 0 hfs).2
      cases sp with
      | none => rfl
      | some z =>
        exfalso
        simp only [Addr.add, World.cell?, Option.isSome_some, if_true] at this
        split at this <;> simp at this
    subst hsp0
    refine ⟨c, o, by rw [hcs, hdl], fun i v hiv => ?_⟩
    have hall : ∀ l ∈ m, l.length = fs.size := by
      intro l hl
      obtain ⟨j, hj, rfl⟩ := List.mem_iff_getElem.1 hl
      obtain ⟨l', h1, h2, _⟩ := cell j (by omega)
      rw [List.getElem?_eq_getElem hj] at h1
      rw [Option.some.inj h1]; exact h2
    obtain ⟨l, h1, h2⟩ := flatten_at fs.size hfs m hall i v hiv
    have hj : i / fs.size < cap := by
      have := (List.getElem?_eq_some_iff.1 h1).1
      omega
    obtain ⟨l', h3, h4, h5⟩ := cell _ hj
    rw [h1] at h3
    obtain rfl := Option.some.inj h3
    have h6 := (h5 (i % fs.size) (Nat.mod_lt _ hfs)).1
    rw [h2] at h6
    have e : o + i / fs.size * fs.size + i % fs.size = o + i := by rw [Nat.add_assoc, Nat.mul_comm, Nat.div_add_mod]
    have ad : ∀ x k : Nat, (Addr.mk c x none).add k = ⟨c, x + k, none⟩ := by
      intro x k
      unfold Addr.add
      by_cases hk : k = 0
      · subst hk; rfl
      · simp [hk]
    rw [ad, ad, e] at h6
    exact h6
end

theorem tabHeap_get (n : Nat) (cells : List Value) (b : Nat) : (tabHeap n cells).get b = if b = 1 then some (.cells cells none true) else if b = 0 then some (.cells [.slice (some ⟨1, 0, none⟩) n n] none true) else none := by
  show ((Tr.nil.set 0 _).set 1 _).get b = _
  by_cases h1 : b = 1
  · subst h1; rw [if_pos rfl, Tr.get_set_same]
  · rw [if_neg h1, Tr.get_set_ne _ _ (Ne.symm h1)]
    by_cases h0 : b = 0
    · subst h0; rw [if_pos rfl, Tr.get_set_same]
    · rw [if_neg h0, Tr.get_set_ne _ _ (Ne.symm h0)]; rfl

theorem ble_pos (n : Nat) (h : Nat.ble 1 n = true) : 0 < n := Nat.le_of_ble_eq_true h

theorem walk_of_eval_tab {P : Program} {K : Known} (hK : KnownOK P K) {n m : Nat} {f : FuncId} {cells : List Value} (h : saysTrue (call P 1 K n f [] (tabHeap m cells)) = true) (hat : cells.all noA0 = true) {w : World} {c o : Nat}
    (h0 : w.cell? ⟨0, 0, none⟩ = some (.slice (some ⟨c, o, none⟩) m m)) (hne : cells ≠ []) (h1 : ∀ i v, cells[i]? = some v → w.cell? ⟨c, o + i, none⟩ = some v) :
    Calls P f #[] w fun e w' => e = .returned (.bool true) ∧ Below w.heap.size w w' := by
  have hlt : ∀ {a : Addr} {v : Value}, w.cell? a = some v → a.block < w.heap.size := by
    intro a v hv
    unfold World.cell? at hv
    split at hv
    · rename_i heq; exact (Array.getElem?_eq_some_iff.1 heq).1
    · cases hv
  revert h
  cases hcl : call P 1 K n f [] (tabHeap m cells) with
  | none => intro h; cases h
  | some r =>
    obtain ⟨v, H'⟩ := r
    intro h
    have hv : v = .bool true := by
      unfold saysTrue at h
      split at h
      · rename_i heq; simp only [Option.some.injEq, Prod.mk.injEq] at heq; exact heq.1
      · cases h
    subst hv
    have hwf : WF (tabHeap m cells) := fun b hb => by
      have hb' : 2 ≤ b := hb
      rw [tabHeap_get, if_neg (by omega), if_neg (by omega)]
    obtain ⟨_, hcall⟩ := call_ok (G := 1) hK n f [] (tabHeap m cells) (.bool true) H' hcl hwf
    let μ : Emb := fun b => if b = 1 then some ⟨c, o, none, 0⟩ else if b = 0 then some ⟨0, 0, none, 0⟩ else none
    have hro : ∀ b x, (tabHeap m cells).get b = some x → x.rw = false := by
      intro b x hx
      rw [tabHeap_get] at hx
      split at hx
      · injection hx with hx; subst hx; rfl
      · split at hx
        · injection hx with hx; subst hx; rfl
        · cases hx
    have hrel : WRel μ (tabHeap m cells) w := by
      refine ⟨fun b l x hb hx => ?_, fun b1 b2 l1 l2 o1 o2 _ _ _ h3 _ h5 _ => ?_⟩
      · rw [tabHeap_get] at hx
        by_cases e1 : b = 1
        · subst e1
          rw [if_pos rfl] at hx
          injection hx with hx; subst hx
          have hb' : l = ⟨c, o, none, 0⟩ := (Option.some.inj hb).symm
          subst hb'
          refine ⟨rfl, rfl, ?_, fun i v hv => ⟨v, h1 i v hv, .atom v (List.all_eq_true.1 hat v (List.mem_of_getElem? hv))⟩⟩
          cases cells with
          | nil => exact absurd rfl hne
          | cons v r => exact hlt (h1 0 v rfl)
        · rw [if_neg e1] at hx
          by_cases e0 : b = 0
          · subst e0
            rw [if_pos rfl] at hx
            injection hx with hx; subst hx
            have hb' : l = ⟨0, 0, none, 0⟩ := (Option.some.inj hb).symm
            subst hb'
            refine ⟨rfl, rfl, hlt h0, fun i v hv => ?_⟩
            cases i with
            | zero =>
              simp only [List.getElem?_cons_zero, Option.some.injEq] at hv; subst hv
              exact ⟨_, h0, .sliceC 1 0 m m ⟨c, o, none, 0⟩ rfl rfl⟩
            | succ i => simp at hv
          · rw [if_neg e0] at hx; cases hx
      · rw [hro b1 o1 h3] at h5; cases h5
    refine (hcall μ w #[] LRel.nil (fun g hg => ?_) hrel (fun b hb _ => ?_)).mono ?_
    · have : g = 0 := by omega
      subst this
      exact ⟨⟨0, 0, none, 0⟩, rfl, rfl, rfl⟩
    · have hb' : 2 ≤ b := hb
      show (if b = 1 then _ else if b = 0 then _ else none) = none
      rw [if_neg (by omega), if_neg (by omega)]
    · rintro e w' ⟨μ', v', rfl, hr, hp⟩
      rw [hr.eq2 rfl]
      refine ⟨rfl, hp.os, hp.tape, hp.out, hp.grow, fun k hk => hp.keep k hk fun b l x _ hx hrw => ?_⟩
      rw [hro b x hx] at hrw; cases hrw
end Go.R
end
