/-
  Operations on slices and records, where it is known what the cells stand for.
  No condition beyond those that each statement names.
-/
import Derived.Test.YtcakpkdeojhacaaRxT
noncomputable section
namespace Go.R

section
variable {α : Type} [Rp α] {P : Program} {ρ : Operand → Value} {d : Option Tmp} {ty : TypeId} {pos : String} {af : Array Edge} {gd : Option (Nat × Bool)} {B : Base} {F : Fz} {H : Heap} {L R : List Fp} {v : Value} {l : List α} {p : Fp}

theorem ap_lenV {x : Operand} {t e : TypeId} (hx : ρ x = v) (ht : P.underlying t = some (.slice e)) (h : Sv F H.get v l) :
    AP P ρ ⟨d, .call ⟨.builtin .len, #[x], #[t]⟩, ty, pos, af, gd⟩ H (.val (.int .i64 l.length), H) := by
  refine ⟨?_⟩
  obtain ⟨a, k, hv⟩ := h.shape
  show ovl (aLen P t (ρ x) H) H = _
  rw [hx, hv]
  unfold aLen
  rw [ht]; rfl
theorem ap_lenS {x : Operand} {t : TypeId} {s : List UInt8} (hx : ρ x = .string ⟨⟨s⟩⟩) (ht : P.underlying t = some .string) :
    AP P ρ ⟨d, .call ⟨.builtin .len, #[x], #[t]⟩, ty, pos, af, gd⟩ H (.val (.int .i64 s.length), H) := by
  refine ⟨?_⟩
  show ovl (aLen P t (ρ x) H) H = _
  rw [hx]
  unfold aLen
  rw [ht]
  show ovl (some (goInt (lenL s))) H = _
  rw [lenL_eq]; rfl
theorem ap_idxV {x i : Operand} {t e : TypeId} {ki : IntKind} {j : Int} (hx : ρ x = v) (hi : ρ i = .int ki j) (ht : P.underlying t = some (.slice e)) (hz : szOf P e = some (Rp.sz α)) (h : Sv F H.get v l) (h0 : 0 ≤ j) (hj : j < l.length) :
    AP P ρ ⟨d, .indexAddr t x i, ty, pos, af, gd⟩ H (.val (.pointer (some ⟨sB v, sO v + j.toNat * Rp.sz α, none⟩)), H) := by
  rcases h with ⟨_, rfl⟩ | ⟨b, off, k, o, rfl, h2, cs, opn, ro, rfl, h3, h4, h5, h6⟩
  · simp at hj; omega
  · exact ap_indexAddr hx hi ht hz h0 hj h4
theorem atI {β : Type} {l : List β} {j : Int} (h0 : 0 ≤ j) (hj : j < l.length) : ∃ x, l[j.toNat]? = some x := ⟨l[j.toNat]'(by omega), List.getElem?_eq_getElem _⟩
theorem ap_ld1 {t : TypeId} {x : Operand} {b o o' i : Nat} {cs : List Value} {w : Value} (hx : ρ x = .pointer (some ⟨b, o', none⟩)) (ha : aggOf P t = some false) (hc : HC H.get b o cs) (ho : o' = o + i) (hv : cs[i]? = some w) :
    AP P ρ ⟨d, .load t x, ty, pos, af, gd⟩ H (.val w, H) := by
  subst ho
  obtain ⟨all, opn, ro, h1, h2⟩ := hc.get hv
  exact ap_load1 hx ha h1 h2
theorem ap_ldN {t : TypeId} {x : Operand} {b o o' i n : Nat} {cs l : List Value} (hx : ρ x = .pointer (some ⟨b, o', none⟩)) (ha : aggOf P t = some true) (hs : szOf P t = some n) (hc : HC H.get b o cs) (ho : o' = o + i) (hn : Nat.ble (i + n) cs.length = true) (hl : takeL (dropL cs i) n = l) :
    AP P ρ ⟨d, .load t x, ty, pos, af, gd⟩ H (.val (.agg ⟨l⟩), H) := by
  subst ho
  obtain ⟨all, opn, ro, h1, h2, h3⟩ := hc.part (Nat.le_of_ble_eq_true hn)
  rw [takeL_eq, dropL_eq] at hl
  exact ap_loadN hx ha hs h1 (h2.trans hl) (by rw [← hl]; exact h3)
theorem ap_fa {s : TypeId} {x : Operand} {f b o o' : Nat} (hx : ρ x = .pointer (some ⟨b, o, none⟩)) (h : aField P s (.pointer (some ⟨b, o, none⟩)) f = some (.pointer (some ⟨b, o', none⟩))) :
    AP P ρ ⟨d, .fieldAddr s x f, ty, pos, af, gd⟩ H (.val (.pointer (some ⟨b, o', none⟩)), H) := by
  refine ⟨?_⟩
  show ovl (aField P s (ρ x) f) H = _
  rw [hx, h]; rfl
theorem ap_fv {t : TypeId} {x : Operand} {f : Nat} {u w : Value} (hx : ρ x = u) (h : aFieldV P t u f = some w) : AP P ρ ⟨d, .field t x f, ty, pos, af, gd⟩ H (.val w, H) := by
  refine ⟨?_⟩
  show ovl (aFieldV P t (ρ x) f) H = _
  rw [hx, h]; rfl
theorem ap_ex {x : Operand} {i : Nat} {u w : Value} (hx : ρ x = u) (h : aExtract u i = some w) : AP P ρ ⟨d, .extract x i, ty, pos, af, gd⟩ H (.val w, H) := by
  refine ⟨?_⟩
  show ovl (aExtract (ρ x) i) H = _
  rw [hx, h]; rfl
theorem ap_bld {t : TypeId} {parts : Array (Nat × Operand)} {ps : Array (Nat × Value)} {z : List Value} {w : Value} (hp : parts.map (fun p => (p.1, ρ p.2)) = ps) (hz : zeroOf P t = some z) (h : pureRun P (Instr.build t ps) = some w) :
    AP P ρ ⟨d, .build t parts, ty, pos, af, gd⟩ H (.val w, H) := by
  refine ⟨?_⟩
  show opBuild P t (parts.map fun p => (p.1, ρ p.2)) H = _
  rw [hp]
  unfold opBuild
  rw [hz]
  show lift P (Instr.build t ps) H = _
  unfold lift
  rw [h]
theorem ap_alloc {e : TypeId} {z : List Value} (hz : zeroOf P e = some z) : AP P ρ ⟨d, .alloc e, ty, pos, af, gd⟩ H (.val (.pointer (some ⟨H.next, 0, none⟩)), H.push (.cells z none false)) := by
  refine ⟨?_⟩
  show opAlloc P e H = _
  unfold opAlloc
  rw [hz]; rfl
theorem ap_box {e : TypeId} {x : Operand} {cs : List Value} (hx : (ρ x).cells.toList = cs) : AP P ρ ⟨d, .box e x, ty, pos, af, gd⟩ H (.val (.pointer (some ⟨H.next, 0, none⟩)), H.push (.cells cs none false)) := by
  subst hx; exact ⟨rfl⟩
theorem storeL_of {b o : Nat} {cs vs : List Value} {opn : Option Nat} (hg : H.get b = some (.cells cs opn false)) (hn : o + vs.length ≤ cs.length) (h1 : allL Value.oneCell' vs = true) : H.storeL ⟨b, o, none⟩ vs = some (H.put b (.cells (splice cs o vs) opn false)) := by
  unfold Heap.storeL
  have : Nat.ble (Nat.add o (lenL vs)) (lenL cs) = true := Nat.ble_eq_true_of_le (by rw [lenL_eq, lenL_eq]; exact hn)
  simp only [hg, this, h1, Bool.and_self, cond_true]
theorem ap_st {t : TypeId} {a x : Operand} {b o n : Nat} {u : Value} {cl : List Value} {H1 : Heap} (ha : ρ a = .pointer (some ⟨b, o, none⟩)) (hx : ρ x = u) (hn : szOf P t = some n) (hc : u.cells.toList = cl) (hl : Nat.beq cl.length n = true) (hst : H.storeL ⟨b, o, none⟩ cl = some H1) :
    AP P ρ ⟨d, .store t a x, ty, pos, af, gd⟩ H (.skip, H1) := by
  refine ⟨?_⟩
  show opStore P t (ρ a) (ρ x) H = _
  rw [ha, hx]
  unfold opStore
  have : u.cells.size = cl.length := by rw [← hc]; simp
  rw [this, hn]
  simp only [hl, cond_true, hc, hst]
  rfl
/-- A store into a record's own block. -/
theorem HS.st (hs : HS B F H L R) {i b o : Nat} {cs cl cs' : List Value} (hi : L[i]? = some [(b, .cells cs none false)]) (hn : Nat.ble (o + cl.length) cs.length = true) (h1 : allL Value.oneCell' cl = true) (he : splice cs o cl = cs') :
    ∃ H1, H.storeL ⟨b, o, none⟩ cl = some H1 ∧ HS B F H1 (L.set i [(b, .cells cs' none false)]) R := by
  subst he
  exact ⟨_, storeL_of (hs.get hi (List.mem_singleton.2 rfl)) (Nat.le_of_ble_eq_true hn) h1, hs.put hi⟩
theorem HS.hc (hs : HS B F H L R) {i b : Nat} {cs : List Value} (hi : L[i]? = some [(b, .cells cs none false)]) : HC H.get b 0 cs := HC.same (hs.get hi (List.mem_singleton.2 rfl))

/-! Owned slices. -/
theorem OS.len {F : Fz} {v : Value} {l : List α} {p : Fp} (_ : OS F v l p) : True := trivial
theorem os_set (h : OS F v l p) (hs : HS B F H L R) {i j : Nat} (hi : L[i]? = some p) {x x' : α} {off : Nat} {cl : List Value} (hx : l[j]? = some x) (h1 : allL Value.oneCell' cl = true)
    (hr : ∀ cs, Rp.rep F cs x → off + cl.length ≤ cs.length ∧ Rp.rep F (splice cs off cl) x') :
    ∃ H1 p', H.storeL ⟨sB v, sO v + j * Rp.sz α + off, none⟩ cl = some H1 ∧ OS F v (l.set j x') p' ∧ HS B F H1 (L.set i p') R ∧ ∀ b cs opn, p = [(b, .cells cs opn false)] → ∃ cs', p' = [(b, .cells cs' opn false)] := by
  have hj := (List.getElem?_eq_some_iff.1 hx).1
  rcases h with ⟨_, rfl, _⟩ | ⟨b, o, k, cs, opn, rfl, rfl, cs1, opn1, ro1, he, h3, h4, h5, h6⟩
  · simp at hj
  · injection he with e1 e2 e3
    subst e1 e2 e3
    replace h3 := h3 rfl
    have hel := h5.at hx
    have hlen := h5.length
    have hsz : j * Rp.sz α + Rp.sz α ≤ l.length * Rp.sz α := by rw [← Nat.succ_mul]; exact Nat.mul_le_mul_right _ hj
    have hlk : l.length * Rp.sz α ≤ k * Rp.sz α := Nat.mul_le_mul_right _ h4
    obtain ⟨g1, g2⟩ := hr _ hel
    have g3 := Rp.len hel
    have hb : o + j * Rp.sz α + off + cl.length ≤ cs.length := by rw [g3] at g1; omega
    refine ⟨_, _, storeL_of (b := b) (o := o + j * Rp.sz α + off) (hs.get hi (List.mem_singleton.2 rfl)) hb h1, .inr ⟨b, o, k, _, opn, by rw [List.length_set], rfl, _, _, _, rfl, ?_, by rw [List.length_set]; exact h4, ?_, h6⟩, hs.put hi, ?_⟩
    · intro _; rw [splice_length _ _ _ hb]; exact h3
    rotate_left
    · intro b' cs' opn' he
      simp only [List.cons.injEq, Prod.mk.injEq, AObj.cells.injEq, and_true] at he
      obtain ⟨rfl, rfl, rfl⟩ := he
      exact ⟨_, rfl⟩
    · rw [List.length_set]
      have key : ((splice cs (o + j * Rp.sz α + off) cl).drop o).take (l.length * Rp.sz α) = splice ((cs.drop o).take (l.length * Rp.sz α)) (j * Rp.sz α) (splice ((((cs.drop o).take (l.length * Rp.sz α)).drop (j * Rp.sz α)).take (Rp.sz α)) off cl) := by
        have hA : (splice ((((cs.drop o).take (l.length * Rp.sz α)).drop (j * Rp.sz α)).take (Rp.sz α)) off cl).length = Rp.sz α := by rw [splice_length _ _ _ g1, g3]
        have hB : ((cs.drop o).take (l.length * Rp.sz α)).length = l.length * Rp.sz α := hlen
        apply List.ext_getElem?
        intro q
        rw [splice_get _ _ _ _ (by rw [hA, hB]; exact hsz), List.getElem?_take, List.getElem?_drop, splice_get _ _ _ _ hb, hA]
        rw [g3] at g1
        by_cases c1 : q < l.length * Rp.sz α
        · rw [if_pos c1]
          by_cases c2 : o + j * Rp.sz α + off ≤ o + q ∧ o + q < o + j * Rp.sz α + off + cl.length
          · rw [if_pos c2, if_pos (by omega), splice_get _ _ _ _ (by rw [g3]; exact g1), if_pos (by omega)]
            congr 1; omega
          · rw [if_neg c2]
            by_cases c3 : j * Rp.sz α ≤ q ∧ q < j * Rp.sz α + Rp.sz α
            · rw [if_pos c3, splice_get _ _ _ _ (by rw [g3]; exact g1), if_neg (by omega), List.getElem?_take, if_pos (by omega), List.getElem?_drop, List.getElem?_take, if_pos (by omega), List.getElem?_drop]
              congr 1; omega
            · rw [if_neg c3, List.getElem?_take, if_pos c1, List.getElem?_drop]
        · rw [if_neg c1, if_neg (by omega), List.getElem?_take, if_neg c1]
      rw [key]
      exact h5.set hj g2
/-- What is to be appended. -/
theorem Sv.first {x : Value} {l2 : List α} (h : Sv F H.get x l2) : lenA x = some l2.length ∧ ∃ new, firstL H (Rp.sz α) l2.length x = some new ∧ RL F new l2 := by
  rcases h with ⟨rfl, rfl⟩ | ⟨b, off, k, o, rfl, h2, cs, opn, ro, rfl, h3, h4, h5, h6⟩
  · exact ⟨rfl, [], rfl, rfl⟩
  · refine ⟨rfl, ?_⟩
    unfold firstL
    cases hb : Nat.beq l2.length 0 with
    | true =>
      have := Nat.eq_of_beq_eq_true hb
      have e : l2 = [] := List.eq_nil_of_length_eq_zero this
      subst e
      exact ⟨[], rfl, rfl⟩
    | false =>
      refine ⟨_, ?_, h5⟩
      simp only [cond_false]
      unfold Heap.loadN
      have hl := h5.length
      simp only [h2, takeL_eq, dropL_eq, lenL_eq, hl, Nat.beq_refl, cond_true]
theorem os_append (h : OS F v l p) (hs : HS B F H L R) {i : Nat} (hi : L[i]? = some p) {x : Value} {l2 : List α} {new z : List Value} {types : Array TypeId} {st xt e : TypeId} {xd : TypeDesc} {by_ : Nat}
    (h0 : types[0]? = some st) (h1 : types[1]? = some xt) (hst : P.underlying st = some (.slice e)) (hxt : P.underlying xt = some xd) (hxd : ∀ k, xd ≠ .int k) (hz : szOf P e = some (Rp.sz α)) (hby : bytesOf P e = some by_) (hzz : zeroOf P e = some z)
    (hzl : Nat.beq (lenL z) (Rp.sz α) = true) (hb4 : Nat.ble by_ 4096 = true) (hz0 : Nat.beq (Rp.sz α) 0 = false) (hxl : lenA x = some l2.length) (hf : firstL H (Rp.sz α) l2.length x = some new) (hnew : RL F new l2) (hlen : l.length + l2.length ≤ 2147483648) :
    ∃ a k H1 p', aAppend P types v x H = some (.slice a (l ++ l2).length k, H1) ∧ OS F (.slice a (l ++ l2).length k) (l ++ l2) p' ∧ HS B F H1 (L.set i p') R := by
  have hsame : L.set i p = L := by
    obtain ⟨A, C, e1, e2⟩ := flat_sets L i p hi
    rw [e2 p, ← e1]
  have hone := hnew.one
  have hnl := hnew.length
  have hzpos : 0 < Rp.sz α := by
    rcases Nat.eq_zero_or_pos (Rp.sz α) with hq | hq
    · rw [hq] at hz0; cases hz0
    · exact hq
  have hxd' : ∀ (Y : Option (Value × Heap)), (match xd with | .int _ => none | _ => Y) = Y := by
    intro Y
    cases xd <;> first | rfl | exact absurd rfl (hxd _)
  unfold aAppend
  simp only [h0, h1, hst, hxt, hxd', hz, hby, hzz, hxl, hf]
  rcases h with ⟨rfl, rfl, rfl⟩ | ⟨b, o, k, cs, opn, rfl, rfl, cs1, opn1, ro1, he, h3, h4, h5, h6⟩
  · cases hm : Nat.beq l2.length 0 with
    | true =>
      have : l2 = [] := List.eq_nil_of_length_eq_zero (Nat.eq_of_beq_eq_true hm)
      subst this
      exact ⟨none, 0, H, [], rfl, .nil, by rw [hsame]; exact hs⟩
    | false =>
      have hle : Nat.ble l2.length 2147483648 = true := Nat.ble_eq_true_of_le (by simp at hlen; omega)
      simp only [cond_false, hzl, hle, hb4, hz0, Bool.not_false, Bool.and_self, cond_true]
      refine ⟨_, _, _, [(H.next, .cells new (some (Rp.sz α)) false)], rfl, .inr ⟨_, 0, _, _, _, rfl, rfl, _, _, _, rfl, ?_, by simp, ?_, .inr rfl⟩, ?_⟩
      · intro _
        show 0 + l2.length * Rp.sz α ≤ new.length
        rw [hnl]; omega
      · rw [List.drop_zero, List.nil_append, ← hnl, List.take_length]; exact hnew
      · refine hs.turn hi (H' := newCells H new (some (Rp.sz α))) (by simp [newCells]) (fun b hb _ => Heap.get_push_ne _ _ (by omega)) (fun b o hb => ?_) (by simp) (fun b hb => .inl (by simpa [newCells] using hb))
        simp at hb; obtain ⟨rfl, rfl⟩ := hb
        exact ⟨Heap.get_push_same _ _, by simp [newCells], .inl (Nat.le_refl _)⟩
  · injection he with e1 e2 e3
    subst e1 e2 e3
    replace h3 := h3 rfl
    have hg := hs.get hi (b := b) (o := .cells cs opn false) (by simp)
    simp only [hg]
    cases hk : Nat.ble (l.length + l2.length) k with
    | true =>
      have hk' := Nat.le_of_ble_eq_true hk
      simp only [cond_true]
      cases hm : Nat.beq l2.length 0 with
      | true =>
        have : l2 = [] := List.eq_nil_of_length_eq_zero (Nat.eq_of_beq_eq_true hm)
        subst this
        simp only [cond_true, List.append_nil]
        exact ⟨_, _, _, _, rfl, .inr ⟨b, o, k, cs, opn, rfl, rfl, _, _, _, rfl, fun _ => h3, h4, h5, h6⟩, by rw [hsame]; exact hs⟩
      | false =>
        simp only [cond_false]
        have hkm : (l.length + l2.length) * Rp.sz α ≤ k * Rp.sz α := Nat.mul_le_mul_right _ hk'
        have hb : o + l.length * Rp.sz α + new.length ≤ cs.length := by rw [hnl]; rw [Nat.add_mul] at hkm; omega
        rw [storeL_of hg hb hone]
        simp only
        refine ⟨some ⟨b, o, none⟩, k, _, [(b, .cells (splice cs (o + l.length * Rp.sz α) new) opn false)], by rw [List.length_append], .inr ⟨b, o, k, _, opn, rfl, rfl, _, _, _, rfl, ?_, by rw [List.length_append]; exact hk', ?_, h6⟩, hs.put hi⟩
        · intro _; rw [splice_length _ _ _ hb]; exact h3
        · have key : ((splice cs (o + l.length * Rp.sz α) new).drop o).take ((l ++ l2).length * Rp.sz α) = (cs.drop o).take (l.length * Rp.sz α) ++ new := by
            have hl1 := h5.length
            apply List.ext_getElem?
            intro q
            rw [List.getElem?_take, List.getElem?_drop, splice_get _ _ _ _ hb, List.length_append, Nat.add_mul, List.getElem?_append, hl1]
            by_cases c1 : q < l.length * Rp.sz α
            · rw [if_pos (by omega), if_neg (by omega), if_pos c1, List.getElem?_take, if_pos c1, List.getElem?_drop]
            · rw [if_neg c1]
              by_cases c2 : q < l.length * Rp.sz α + l2.length * Rp.sz α
              · rw [if_pos c2, if_pos (by rw [hnl]; omega)]; congr 1; omega
              · rw [if_neg c2, List.getElem?_eq_none (by rw [hnl]; omega)]
          rw [key]
          exact h5.append hnew
    | false =>
      simp only [cond_false]
      have hle : Nat.ble (l.length + l2.length) 2147483648 = true := Nat.ble_eq_true_of_le hlen
      have hnk : Nat.ble l.length k = true := Nat.ble_eq_true_of_le h4
      simp only [hzl, hle, hb4, hz0, hnk, Bool.not_false, Bool.and_self, cond_true]
      have hold : firstL H (Rp.sz α) l.length (.slice (some ⟨b, o, none⟩) l.length k) = some ((cs.drop o).take (l.length * Rp.sz α)) := by
        unfold firstL
        cases hb : Nat.beq l.length 0 with
        | true =>
          have := Nat.eq_of_beq_eq_true hb
          simp [this]
        | false =>
          simp only [cond_false]
          unfold Heap.loadN
          have hl := h5.length
          simp only [hg, takeL_eq, dropL_eq, lenL_eq, hl, Nat.beq_refl, cond_true]
      rw [hold]
      simp only [appL_eq]
      have hall := h5.append hnew
      have hlall := hall.length
      have hfin : ∀ (k' : Nat) (bb : Nat), k' = (l ++ l2).length → OS F (.slice (some ⟨bb, 0, none⟩) (l ++ l2).length k') (l ++ l2) [(bb, .cells ((cs.drop o).take (l.length * Rp.sz α) ++ new) (some (Rp.sz α)) false)] := by
        rintro k' bb rfl
        refine .inr ⟨bb, 0, _, _, _, rfl, rfl, _, _, _, rfl, fun _ => (by rw [hlall]; omega), Nat.le_refl _, ?_, .inr rfl⟩
        rw [List.drop_zero, ← hlall, List.take_length]; exact hall
      rcases h6 with rfl | rfl
      · simp only
        refine ⟨some ⟨H.next, 0, none⟩, l.length + l2.length, _, _, by rw [List.length_append], hfin _ _ (by rw [List.length_append]), ?_⟩
        refine hs.turn hi (by simp [newCells]) (fun b hb _ => Heap.get_push_ne _ _ (by omega)) (fun b o hb => ?_) (by simp) (fun b hb => .inl (by simpa [newCells] using hb))
        simp at hb; obtain ⟨rfl, rfl⟩ := hb
        exact ⟨Heap.get_push_same _ _, by simp [newCells], .inl (Nat.le_refl _)⟩
      · simp only [Nat.beq_refl, Bool.not_false, Bool.and_self, hone, cond_true]
        refine ⟨some ⟨H.next, 0, none⟩, l.length + l2.length, _, _, by rw [List.length_append], hfin _ _ (by rw [List.length_append]), ?_⟩
        refine hs.turn hi (by simp [newCells]) (fun c hb hne => ?_) (fun c o hb => ?_) (by simp) (fun c hb => ?_)
        · show ((H.put b .dead).push _).get c = _
          rw [Heap.get_push_ne _ _ (by simp; omega), Heap.get_put_ne _ _ fun e => hne (.cells cs (some (Rp.sz α)) false) (by simp [e])]
        · simp at hb; obtain ⟨rfl, rfl⟩ := hb
          exact ⟨Heap.get_push_same (H.put b .dead) _, by simp [newCells], .inl (Nat.le_refl _)⟩
        · simp only [newCells, Heap.log_push, Heap.log_put] at hb
          rcases List.mem_cons.1 hb with rfl | hb
          · exact .inr (.inr ⟨.cells cs (some (Rp.sz α)) false, by simp⟩)
          · exact .inl hb
end
end Go.R
end
