/-
  Arguments as data, laid into the evaluator's heap as blocks that nobody writes; what is to be shown behind a law that writes nothing elder.
  No condition beyond those that each statement names.
-/
import Derived.Test.YtcakpkdeojhacaaRxQ
import Derived.Test.YtcakpkdeojhacaaRxK
import Derived.OpenShut
import Derived.ReadAgain
noncomputable section
namespace Go.R
open Go.RowKit Go.WideShapes Go.ChangeShapes

/-- A world's data, each in a block that is never written. -/
structure Em (w : World) (μ : Emb) (H : Heap) : Prop where
  rel : WRel μ H w
  ro : ∀ b o, H.get b = some o → o.rw = false
  wf : WF H
  dom : ∀ b, H.next ≤ b → μ b = none
  log : H.log = []

theorem Em.empty (w : World) : Em w (fun _ => none) Heap.empty :=
  ⟨⟨fun b l o h => by simp at h, fun b1 b2 l1 l2 o1 o2 _ h => by simp at h⟩, fun b o h => (by cases h), fun b _ => rfl, fun b _ => rfl, rfl⟩

section
variable {w : World} {μ : Emb} {H : Heap}
theorem Em.lt (h : Em w μ H) {b : Nat} {o : AObj} (hb : H.get b = some o) : b < H.next := by
  rcases Nat.lt_or_ge b H.next with h1 | h1
  · exact h1
  · rw [h.wf b h1] at hb; cases hb
/-- One more block. -/
theorem Em.add (h : Em w μ H) {c sh : Nat} {cs : List Value} (hc : c < w.heap.size) (hcells : ∀ (i : Nat) v, cs[i]? = some v → ∃ v', w.cell? ⟨c, sh + i, none⟩ = some v' ∧ VRel μ v v') :
    Em w (μ.set H.next ⟨c, sh, none, 0⟩) (H.push (.cells cs none true)) := by
  have hext := Emb.set_ext (μ := μ) (b := H.next) ⟨c, sh, none, 0⟩ (h.dom _ (Nat.le_refl _))
  have hget : ∀ b o, (H.push (.cells cs none true)).get b = some o → (b = H.next ∧ o = .cells cs none true) ∨ (b ≠ H.next ∧ H.get b = some o) := by
    intro b o hb
    by_cases e : b = H.next
    · subst e; rw [Heap.get_push_same] at hb; exact .inl ⟨rfl, (Option.some.inj hb).symm⟩
    · rw [Heap.get_push_ne _ _ (Ne.symm e)] at hb; exact .inr ⟨e, hb⟩
  have hro : ∀ b o, (H.push (.cells cs none true)).get b = some o → o.rw = false := by
    intro b o hb
    rcases hget b o hb with ⟨_, rfl⟩ | ⟨_, h1⟩
    · rfl
    · exact h.ro b o h1
  refine ⟨⟨fun b l o hb ho => ?_, fun b1 b2 l1 l2 o1 o2 _ _ _ h3 _ h5 _ => ?_⟩, hro, fun b hb => ?_, fun b hb => ?_, h.log⟩
  · rcases hget b o ho with ⟨rfl, rfl⟩ | ⟨hne, ho'⟩
    · rw [Emb.set_same] at hb
      obtain rfl := Option.some.inj hb
      refine ⟨rfl, rfl, hc, fun i v hv => ?_⟩
      obtain ⟨v', h1, h2⟩ := hcells i v hv
      exact ⟨v', h1, h2.mono hext⟩
    · rcases Emb.set_inv hb with ⟨e, _⟩ | ⟨_, hb'⟩
      · exact absurd e hne
      · exact (h.rel.obj b l o hb' ho').keep hext (Nat.le_refl _) (fun _ => rfl)
  · rw [hro b1 o1 h3] at h5; cases h5
  · have hb' : H.next + 1 ≤ b := hb
    rw [Heap.get_push_ne _ _ (by omega)]; exact h.wf b (by omega)
  · have hb' : H.next + 1 ≤ b := hb
    unfold Emb.set
    rw [if_neg (by omega)]; exact h.dom b (by omega)
/-- All frozen. -/
theorem Em.hs (h : Em w μ H) : HS (.of H []) H.get H [] [] :=
  ⟨fun b o hb => ⟨hb, h.lt hb⟩, fun p hp => by simp at hp, by simp, Nat.le_refl _, fun b hb => .inl hb, fun p hp => by simp at hp⟩

/-- The walk of a law over such data. -/
theorem walk_of_Em {P : Program} {K : Known} (hK : KnownOK P K) (h : Em w μ H) {f : FuncId} {args : List Value} {cargs : Array Value} (ha : LRel μ args cargs.toList) (hc : C P 0 K f args H fun v _ => v = .bool true) :
    Calls P f cargs w fun e w' => e = .returned (.bool true) ∧ Below w.heap.size w w' := by
  obtain ⟨n, v, H', h1, rfl⟩ := hc.out
  obtain ⟨_, hcall⟩ := call_ok (G := 0) hK n f args H (.bool true) H' h1 h.wf
  refine (hcall μ w cargs ha (fun g hg => by omega) h.rel (fun b hb _ => h.dom b hb)).mono ?_
  rintro e w' ⟨μ', v', rfl, hr, hp⟩
  rw [hr.eq2 rfl]
  exact ⟨rfl, hp.os, hp.tape, hp.out, hp.grow, fun k hk => hp.keep k hk fun b l x _ hx hrw => by rw [h.ro b x hx] at hrw; cases hrw⟩
end

/-! Kinds of arguments: from one to the next. -/
/-- Later data holds the elder. -/
structure EmLe (μ : Emb) (H : Heap) (μ' : Emb) (H' : Heap) : Prop where
  emb : ∀ b l, μ b = some l → μ' b = some l
  heap : Fz.le H.get H'.get
theorem EmLe.refl (μ : Emb) (H : Heap) : EmLe μ H μ H := ⟨fun _ _ h => h, fun _ _ h => h⟩
theorem EmLe.trans {μ μ1 μ2 : Emb} {H H1 H2 : Heap} (h : EmLe μ H μ1 H1) (k : EmLe μ1 H1 μ2 H2) : EmLe μ H μ2 H2 := ⟨fun b l x => k.emb b l (h.emb b l x), fun b o x => k.heap b o (h.heap b o x)⟩
theorem EmLe.add {w : World} {μ : Emb} {H : Heap} (h : Em w μ H) (l : Loc) (o : AObj) : EmLe μ H (μ.set H.next l) (H.push o) :=
  ⟨Emb.set_ext l (h.dom _ (Nat.le_refl _)), fun b x hb => by rw [Heap.get_push_ne _ _ (Nat.ne_of_gt (h.lt hb))]; exact hb⟩

section
variable {X : Type} {enc : TypeId × Value → X} {P : Program} {w : World} {μ : Emb} {H : Heap}
theorem wf_in64 {n : Int} (h : (Lit.int .i64 n).wf = true) : in64 n := by
  simp [Lit.wf, IntKind.min, IntKind.max, IntKind.signed, IntKind.bits] at h
  exact ⟨by omega, by omega⟩
theorem RL_ints {F : Fz} : ∀ (l : List Int), (∀ n ∈ l, in64 n) → RL F (l.map fun n => Value.int .i64 n) l
  | [], _ => rfl
  | n :: l, h => ⟨[.int .i64 n], l.map fun n => Value.int .i64 n, rfl, ⟨rfl, h n (by simp)⟩, RL_ints l fun m hm => h m (by simp [hm])⟩
/-- A slice of integers. -/
theorem em_ints {base : Nat} {t e : TypeId} {v : Value} {d : DataW X} {ps : List MemPlace} (h : Em w μ H) (ht : P.underlying t = some (.slice e)) (he : P.underlying e = some (.int .i64)) (hc : P.cellsOf e = 1) (hval : Value.okWide P w .any base t v)
    (hd : DataW.Trod enc P w 0 (fun _ => true) true t v d ps) :
    ∃ μ' H' a k, ∃ l : List Int, Em w μ' H' ∧ EmLe μ H μ' H' ∧ VRel μ' (.slice a l.length k) v ∧ SR H'.get (.slice a l.length k) l ∧ (l.length ≤ maxLen) ∧ (∃ rest, d = .slice (Go.ChangeShapes.lits .i64 l) rest ∨ d = .nil ∧ l = []) := by
  obtain ⟨a, len, cap, rfl⟩ := okWide_slice ht hval
  obtain ⟨fuel, hf⟩ := hd
  rcases Go.ChangeShapes.open_ints ht he hc hf with ⟨h1, hx⟩ | ⟨a', len', cap', zs, h1, _, hlc, hcm, hlen, hx, hcell, hwf⟩
  · simp [Value.cells] at h1
    obtain ⟨rfl, rfl, rfl⟩ := h1
    simp only [Prod.mk.injEq] at hx
    exact ⟨μ, H, none, 0, [], h, .refl _ _, .atom _ rfl, .nil, Nat.zero_le _, [], .inr ⟨hx.1, rfl⟩⟩
  · simp [Value.cells] at h1
    obtain ⟨rfl, rfl, rfl⟩ := h1
    have hsh : a'.spot = none ∧ a'.block < w.heap.size := by
      have hv2 : Cell.ok P w .any base t (.slice (some a') len cap) := by
        have := hval
        unfold Value.okWide at this
        rw [ht] at this
        simp only at this
        unfold Cell.okWide at this
        rw [ht] at this
        exact this
      unfold Cell.ok at hv2
      rw [ht] at hv2
      obtain ⟨_, _, _, hsp, row, cells, hs, _⟩ := hv2
      refine ⟨hsp, ?_⟩
      unfold World.shape? at hs
      split at hs
      · rename_i heq; exact (Array.getElem?_eq_some_iff.1 heq).1
      · cases hs
    obtain ⟨c, off, sp⟩ := a'
    obtain ⟨rfl, hcl⟩ := hsh
    simp only [if_true] at hlen
    have hall : ∀ n ∈ zs.take len, in64 n := fun n hn => wf_in64 (hwf n (List.mem_of_mem_take hn))
    have hl : (zs.take len).length = len := by rw [List.length_take]; omega
    have hA := h.add (c := c) (sh := off) (cs := (zs.take len).map fun n => Value.int .i64 n) hcl (fun i v hv => by
      rw [List.getElem?_map] at hv
      cases hq : (zs.take len)[i]? with
      | none => rw [hq] at hv; cases hv
      | some n =>
        rw [hq] at hv
        obtain rfl := Option.some.inj hv
        have hi := (List.getElem?_eq_some_iff.1 hq).1
        have hcq := hcell i (by rw [hl] at hi; omega)
        have hn : zs.getD i 0 = n := by
          rw [List.getElem?_take] at hq
          split at hq
          · rw [List.getD_eq_getElem?_getD, hq]; rfl
          · cases hq
        refine ⟨_, ?_, .atom _ rfl⟩
        rw [hn] at hcq
        rw [← hcq]
        congr 1
        unfold Addr.add
        split
        · rename_i h0; subst h0; rfl
        · rfl)
    refine ⟨_, _, some ⟨H.next, 0, none⟩, cap, zs.take len, hA, .add h _ _, ?_, ?_, by rw [hl]; omega, zs.drop len |> Go.ChangeShapes.lits .i64, .inl ?_⟩
    · rw [hl]
      have := VRel.sliceC (μ := μ.set H.next ⟨c, off, none, 0⟩) H.next 0 len cap ⟨c, off, none, 0⟩ (Emb.set_same _ _ _) rfl
      simpa using this
    · refine .inr ⟨H.next, 0, cap, _, rfl, Heap.get_push_same _ _, _, none, true, rfl, fun hx => (by cases hx), (by rw [hl]; exact hlc), ?_, .inl rfl⟩
      have e1 : ((zs.take len).map fun n => Value.int .i64 n).length = (zs.take len).length * Rp.sz Int := by rw [List.length_map]; show _ = _ * 1; omega
      rw [List.drop_zero, ← e1, List.take_length]
      exact RL_ints _ hall
    · simp only [Prod.mk.injEq] at hx
      exact hx.1
end

/-! Behind the call. -/
section
variable {X : Type} {enc : TypeId × Value → X} {P : Program}
theorem TrodAll_carry {w w' : World} {base : Nat} {spare : Nat → Bool} {held : Bool} : ∀ {ts : List TypeId} {vs : List Value} {ds : List (DataW X)} {ps : List MemPlace}, DataW.TrodAll enc P w base spare held ts vs ds ps → (∀ p ∈ ps, w.sameAt w' p) → DataW.TrodAll enc P w' base spare held ts vs ds ps
  | [], [], [], _, h, _ => h
  | _ :: _, _ :: _, _ :: _, _, ⟨p, q, ⟨n, h1⟩, h2, e⟩, hs => ⟨p, q, ⟨n, DataW.trod_carry n _ _ _ h1 fun x hx => hs x (by rw [e]; exact List.mem_append_left _ hx)⟩, TrodAll_carry h2 fun x hx => hs x (by rw [e]; exact List.mem_append_right _ hx), e⟩
/-- A law that returned true and wrote nothing elder. -/
theorem post_law {f : Func} {s : ChangeSpec} {apart fresh handsOn again : Bool} {W W' : World} {args : Array Value} {ds gs : List (DataW X)} {before : List MemPlace} {tb : TypeId}
    (K : Kids P (· < P.types.size)) (full : ∀ t e, t < P.types.size → P.underlying t = some (.slice e) → 0 < P.cellsOf e) (hpar : ∀ t ∈ f.params.toList, t < P.types.size)
    (hW : DataW.Whole enc P f.params.toList s.vars apart W args.toList ds gs before) (hvar : s.vars = []) (hres : f.resultTypes = #[tb]) (htb : P.underlying tb = some .bool)
    (hfn : s.fn X (ds ++ gs) = { results := [.lit (.bool true)], args := ds }) (hb : Below W.heap.size W W') : s.post enc P f apart fresh handsOn again W args (.bool true) W' := by
  have hlt : ∀ p ∈ before, p.block < W.heap.size := fun p hp => by simpa using hW.lt p hp
  have hW' := hW
  obtain ⟨p, q, hA, hV, rfl, hfz, hnd⟩ := hW
  have hq : q = [] ∧ gs = [] := by
    rw [hvar] at hV
    cases gs with
    | nil => exact ⟨hV, rfl⟩
    | cons _ _ => exact absurd hV id
  obtain ⟨rfl, rfl⟩ := hq
  refine post_of_below (pa := p) (pv := []) hW' (fun b sp hd => ?_) (fun sp hsp => ?_) (fun sp _ => ?_) rfl hb ?_
  · rw [hfn, hres]
    exact trodAll_cons_mk (shut_bool htb true) rfl
  · rw [hfn]
    refine DataW.TrodAll.respare K full hpar (TrodAll_carry hA fun x hx => hb.same (hlt x (by simpa using hx))) fun x hx => hsp x (by simpa using hx)
  · rw [hvar, hfn]; rfl
  · rw [hres]
    intro j t r h1 h2
    exact ok_one (f := f) hres rfl (okWide_bool_mk htb true) j t r (by rw [hres]; exact h1) (by rw [hres]; exact h2)
end
end Go.R
end
