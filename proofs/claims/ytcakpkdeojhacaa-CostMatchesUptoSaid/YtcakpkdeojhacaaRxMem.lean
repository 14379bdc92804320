/-
  The operations that read or write memory, one after the other, at related memory.
  No condition beyond those that each statement names.
-/
import Derived.Test.YtcakpkdeojhacaaRxValue2
import Derived.IntWalk
namespace Go.R

theorem copies_length (l : List Value) : ∀ n, (copies n l).length = n * l.length
  | 0 => by simp [copies]
  | n + 1 => by simp only [copies, List.length_append, copies_length l n]; rw [Nat.add_mul]; omega
theorem copies_get (l : List Value) : ∀ (n i : Nat), i < n * l.length → (copies n l)[i]? = l[i % l.length]?
  | 0, i, h => by simp at h
  | n + 1, i, h => by
    simp only [copies]
    by_cases hi : i < l.length
    · rw [List.getElem?_append_left hi, Nat.mod_eq_of_lt hi]
    · rw [Nat.add_mul, Nat.one_mul] at h
      rw [List.getElem?_append_right (by omega), copies_get l n (i - l.length) (by omega)]
      congr 1
      exact (Nat.mod_eq_sub_mod (by omega)).symm
theorem zeros_eq (z : Array Value) (n : Nat) : (Array.range (n * z.size)).map (fun i => z[i % z.size]!) = ⟨copies n z.toList⟩ := by
  apply Array.ext_getElem?
  intro i
  refine Eq.trans ?_ (mk_get _ _).symm
  by_cases hi : i < n * z.size
  · rw [copies_get _ _ _ (by simpa using hi)]
    have hz : 0 < z.size := by
      rcases Nat.eq_zero_or_pos z.size with h | h
      · rw [h] at hi; simp at hi
      · exact h
    have hm : i % z.size < z.size := Nat.mod_lt _ hz
    simp [hi, hm]
  · rw [List.getElem?_eq_none (by rw [copies_length]; simpa using hi)]
    simp [hi]
theorem copies_noA0 {l : List Value} (h : l.all noA0 = true) : ∀ n, (copies n l).all noA0 = true
  | 0 => rfl
  | n + 1 => by simp only [copies, List.all_append, h, copies_noA0 h n, Bool.and_self]

section
variable {P : Program} {μ : Emb} {H H' : Heap} {w : World}

/-- What is proved of each operation. -/
def OpOK (P : Program) (μ : Emb) (H : Heap) (w : World) (s : Sem Next) (r : AN) (H' : Heap) : Prop :=
  ∃ n w' μ', s.run P w = .ok n w' ∧ Post μ H w μ' H' w' ∧ ANRel μ' r n

theorem OpOK.value {s : Sem Value} {v v' : Value} {w' : World} {μ' : Emb} (h : s.run P w = .ok v' w') (hp : Post μ H w μ' H' w') (hr : VRel μ' v v') :
    OpOK P μ H w (do Pure.pure (.value (← s))) (.val v) H' :=
  ⟨.value v', w', μ', by simp only [Sem.run_bind, h, Result.andThen_ok, Sem.run_pure], hp, hr⟩
theorem OpOK.skip {s : Sem Unit} {w' : World} {μ' : Emb} (h : s.run P w = .ok () w') (hp : Post μ H w μ' H' w') :
    OpOK P μ H w (do s; Pure.pure .skip) .skip H' :=
  ⟨.skip, w', μ', by simp only [Sem.run_bind, h, Result.andThen_ok, Sem.run_pure], hp, trivial⟩

theorem ovh_inv {r : Option (Value × Heap)} {n : AN} (h : ovh r = some (n, H')) : ∃ v, r = some (v, H') ∧ n = .val v := by
  unfold ovh at h
  split at h
  · simp only [Option.some.injEq, Prod.mk.injEq] at h
    obtain ⟨rfl, rfl⟩ := h
    exact ⟨_, rfl, rfl⟩
  · cases h
theorem osk_inv {r : Option Heap} {n : AN} (h : osk r = some (n, H')) : r = some H' ∧ n = .skip := by
  unfold osk at h
  split at h
  · simp only [Option.some.injEq, Prod.mk.injEq] at h
    obtain ⟨rfl, rfl⟩ := h
    exact ⟨rfl, rfl⟩
  · cases h

/-- A new row whose cells are known on both sides. -/
theorem fresh_row (h : WRel μ H w) (hf : μ H.next = none) (e : TypeId) {cs cs' : List Value} (hrel : LRel μ cs cs') :
    ∃ l, l.c = w.heap.size ∧ l.sh = 0 ∧ l.opn = none ∧ (newRow e ⟨cs'⟩).run P w = .ok ⟨w.heap.size, 0, none⟩ (w.alloc (.cells ⟨cs'⟩ e)) ∧
      Post μ H w (μ.set H.next l) (newCells H cs none) (w.alloc (.cells ⟨cs'⟩ e)) := by
  obtain ⟨l, h1, h2, h3, _, h5, h6⟩ := newRow_sound (P := P) h hf e hrel [] none (fun _ => rfl)
  simp only [List.append_nil] at h5 h6
  exact ⟨l, h1, h2, h3, h5, h6⟩

theorem alloc_sound {e : TypeId} {r : AN} (h : WRel μ H w) (hf : ∀ b, H.next ≤ b → b < H'.next → μ b = none) (ho : opAlloc P e H = some (r, H')) :
    OpOK P μ H w (do Pure.pure (.value (← Instr.alloc e true (.tuple #[])))) r H' := by
  unfold opAlloc at ho
  split at ho
  · rename_i z hz
    simp only [Option.some.injEq, Prod.mk.injEq] at ho
    obtain ⟨rfl, rfl⟩ := ho
    obtain ⟨i, v, hi, hv, hc, hall⟩ := zeroOf_spec (P := P) hz
    obtain ⟨l, h1, h2, h3, hrun, hp⟩ := fresh_row (P := P) h (hf H.next (Nat.le_refl _) (by simp [newCells])) e (LRel.refl0 (μ := μ) hall)
    have hvc : v.cells = ⟨z⟩ := by rw [← hc]
    refine OpOK.value (v' := .pointer (some ⟨w.heap.size, 0, none⟩)) ?_ hp ?_
    · simp only [Instr.alloc, Sem.run_bind, run_zeroValue w hi hv, Result.andThen_ok, newVar, hvc, hrun, Sem.run_pure]
    · have := VRel.ptr (μ := μ.set H.next l) H.next 0 l (Emb.set_same _ _ _)
      rw [h1, h2] at this; exact this
  · cases ho

theorem box_sound {e : TypeId} {x x' : Value} (h : WRel μ H w) (hf : μ H.next = none) (hx : VRel μ x x') :
    OpOK P μ H w (do Pure.pure (.value (← Instr.box e x'))) (.val (ptrTo H.next)) (newCells H x.cells.toList none) := by
  obtain ⟨l, h1, h2, h3, hrun, hp⟩ := fresh_row (P := P) h hf e hx.cells
  refine OpOK.value (v' := .pointer (some ⟨w.heap.size, 0, none⟩)) ?_ hp ?_
  · simp only [Instr.box, newVar, Sem.run_bind, hrun, Result.andThen_ok, Sem.run_pure]
  · have := VRel.ptr (μ := μ.set H.next l) H.next 0 l (Emb.set_same _ _ _)
    rw [h1, h2] at this; exact this

theorem sliceInfo_spec {t : TypeId} {sz : Nat} {z : List Value} (h : sliceInfo P t = some (sz, z)) : ∃ e, P.underlying t = some (.slice e) ∧ szOf P e = some sz ∧ zeroOf P e = some z ∧ z.length = sz := by
  unfold sliceInfo at h
  split at h
  · rename_i e hu
    split at h
    · rename_i s' z' hs hz
      cases hq : Nat.beq (lenL z') s' with
      | false => rw [hq] at h; cases h
      | true =>
        rw [hq] at h; simp only [cond_true, Option.some.injEq, Prod.mk.injEq] at h
        obtain ⟨rfl, rfl⟩ := h
        exact ⟨e, hu, hs, hz, by rw [← lenL_eq]; exact Nat.eq_of_beq_eq_true hq⟩
    · cases h
  · cases h

theorem buildSlice_sound {t : TypeId} {n : Nat} {ps : List (Nat × Value)} {ps' : Array (Nat × Value)} {r : AN} (h : WRel μ H w) (hf : ∀ b, H.next ≤ b → b < H'.next → μ b = none)
    (hl : ps.length = ps'.toList.length) (hp : ∀ (i : Nat) x x', ps[i]? = some x → ps'.toList[i]? = some x' → x.1 = x'.1 ∧ VRel μ x.2 x'.2)
    (ho : opBuildSlice P t n ps H = some (r, H')) : OpOK P μ H w (do Pure.pure (.value (← Instr.buildSlice t n ps'))) r H' := by
  unfold opBuildSlice at ho
  split at ho
  · rename_i sz z hsi
    obtain ⟨e, hu, hs, hz, hzl⟩ := sliceInfo_spec hsi
    cases hq : Nat.ble (n * sz) 16777216 with
    | false => rw [hq] at ho; cases ho
    | true =>
      rw [hq] at ho
      simp only [cond_true] at ho
      have hle : n * sz ≤ 16777216 := Nat.le_of_ble_eq_true hq
      split at ho
      · rename_i cells hc
        simp only [Option.some.injEq, Prod.mk.injEq] at ho
        obtain ⟨rfl, rfl⟩ := ho
        obtain ⟨i, v, hi, hv, hvc, hall⟩ := zeroOf_spec (P := P) hz
        obtain ⟨cells', hc', hrel⟩ := fill_rel (μ := μ) ps ps'.toList _ _ cells hl hp (LRel.refl0 (copies_noA0 hall n)) hc
        obtain ⟨l, h1, h2, h3, hrun, hpost⟩ := fresh_row (P := P) h (hf H.next (Nat.le_refl _) (by simp [newCells])) e hrel
        refine OpOK.value (v' := .slice (some ⟨w.heap.size, 0, none⟩) n n) ?_ hpost ?_
        · have hvs : v.cells = ⟨z⟩ := by rw [← hvc]
          simp only [Instr.buildSlice, Sem.run_bind, run_underlying' w hu, Result.andThen_ok, run_sizeOf' w hs, show ¬ (n * sz > 2 ^ 24) by omega, if_false]
          by_cases h0 : n * sz = 0
          · have hcz : copies n z = [] := List.eq_nil_of_length_eq_zero (by rw [copies_length, hzl]; exact h0)
            have hbase : ∀ g : Nat → Value, (Array.range (n * sz)).map g = ⟨copies n z⟩ := fun g => by rw [h0, hcz]; simp
            rw [if_pos h0]
            simp only [Sem.run_bind, Sem.run_pure, Result.andThen_ok, hbase, hc', hrun]
          · have hbase := zeros_eq ⟨z⟩ n
            simp only [show (Array.mk z).size = sz from hzl] at hbase
            rw [if_neg h0]
            simp only [Sem.run_bind, run_zeroValue w hi hv, Sem.run_pure, Result.andThen_ok, hvs, show (Array.mk z).size = sz from hzl, hbase, hc', hrun]
        · have := VRel.sliceC (μ := μ.set H.next l) H.next 0 n n l (Emb.set_same _ _ _) h3
          rw [h1, h2] at this; exact this
      · cases ho
  · cases ho

theorem load_sound {t : TypeId} {a a' : Value} {r : AN} (h : WRel μ H w) (ha : VRel μ a a') (ho : opLoad P t a H = some (r, H')) :
    OpOK P μ H w (do Pure.pure (.value (← Instr.loadAt t a'))) r H' := by
  unfold opLoad at ho
  split at ho
  · rename_i p
    obtain ⟨rfl, v, hv, rfl⟩ := ovl_inv ho
    obtain ⟨b, o, sp⟩ := p
    have hsp : sp = none := ha.ptr_some.1
    subst hsp
    obtain ⟨l, hb, rfl⟩ := ha.ptr_inv
    obtain ⟨v', hrun, hr⟩ := loadV_sound (P := P) h hb hv
    refine OpOK.value (v' := v') ?_ (Post.refl h) hr
    simp only [Instr.loadAt, Instr.sureAddr, Sem.run_bind, Sem.run_pure, Result.andThen_ok, hrun]
  · cases ho

theorem store_sound {t : TypeId} {a a' x x' : Value} {r : AN} (h : WRel μ H w) (ha : VRel μ a a') (hx : VRel μ x x') (ho : opStore P t a x H = some (r, H')) :
    OpOK P μ H w (do Instr.storeAt t a' x'; Pure.pure .skip) r H' := by
  unfold opStore at ho
  split at ho
  · rename_i p
    split at ho
    · rename_i n hn
      cases hq : Nat.beq x.cells.size n with
      | false => rw [hq] at ho; cases ho
      | true =>
        rw [hq] at ho
        obtain ⟨hs, rfl⟩ := osk_inv ho
        have hsz : x.cells.size = n := Nat.eq_of_beq_eq_true hq
        obtain ⟨b, o, sp⟩ := p
        have hsp : sp = none := ha.ptr_some.1
        subst hsp
        obtain ⟨l, hb, rfl⟩ := ha.ptr_inv
        obtain ⟨w', hrun, hp⟩ := storeL_sound (P := P) h hb hs hx.cells
        refine OpOK.skip ?_ hp
        have hsz' : x'.cells.size = n := by
          have := hx.cells.1
          simp only [Array.length_toList] at this; omega
        simp only [Instr.storeAt, Instr.sureAddr, storeVar, Sem.run_bind, Sem.run_pure, Result.andThen_ok, run_sizeOf' w hn, hsz', ne_eq, not_true, if_false, hrun]
    · cases ho
  · cases ho

theorem makeMap_sound (t : TypeId) (h : WRel μ H w) (hf : μ H.next = none) :
    OpOK P μ H w (do Pure.pure (.value (← Instr.makeMap t none))) (.val (.map (some H.next))) (H.push (.tab [])) := by
  refine OpOK.value (v' := .map (some w.heap.size)) (w' := w.alloc (.map #[] 0)) (μ' := μ.set H.next ⟨w.heap.size, 0, none, 0⟩) ?_ (Post.push h hf _ rfl _ _ ?_) ?_
  · simp [Instr.makeMap]
  · exact ⟨#[], 0, heap_push_new w _, rfl, fun i x y hx => by simp at hx⟩
  · exact VRel.map (μ := μ.set H.next ⟨w.heap.size, 0, none, 0⟩) H.next _ (Emb.set_same _ _ _)

theorem range_sound {t : TypeId} {x x' : Value} {r : AN} (h : WRel μ H w) (hf : ∀ b, H.next ≤ b → b < H'.next → μ b = none) (hx : VRel μ x x') (ho : ovh (aRange P t x H) = some (r, H')) :
    OpOK P μ H w (do Pure.pure (.value (← Instr.range t x'))) r H' := by
  obtain ⟨v, hv, rfl⟩ := ovh_inv ho
  unfold aRange at hv
  split at hv
  · rename_i s hu
    simp only [Option.some.injEq, Prod.mk.injEq] at hv
    obtain ⟨rfl, rfl⟩ := hv
    obtain rfl := hx.string_inv
    refine OpOK.value (v' := .pointer (some ⟨w.heap.size, 0, none⟩)) (w' := w.alloc (.stringIter s 0)) (μ' := μ.set H.next ⟨w.heap.size, 0, none, 0⟩) ?_
      (Post.push h (hf H.next (Nat.le_refl _) (by simp)) _ rfl _ _ ⟨rfl, heap_push_new w _⟩) ?_
    · simp [Instr.range, run_underlying' w hu]
    · exact VRel.ptr (μ := μ.set H.next ⟨w.heap.size, 0, none, 0⟩) H.next 0 _ (Emb.set_same _ _ _)
  · cases hv

theorem run_getObj {r : Nat} {o : Obj} (hh : w.heap[r]? = some o) (hc : ∀ c e f, o ≠ .cells c e f) : (getObj r).run P w = .ok o w := by
  cases o <;> first | exact absurd rfl (hc _ _ _) | (simp only [getObj, Sem.run, hh])
theorem run_setObj {r : Nat} {o o' : Obj} (hh : w.heap[r]? = some o) (hc : ∀ c e f, o ≠ .cells c e f) : (setObj r o').run P w = .ok () (setObjAt w r o') := by
  cases o <;> first | exact absurd rfl (hc _ _ _) | (simp only [setObj, Sem.run, hh]; rfl)

theorem next_sound {it it' : Value} {type : TypeId} {r : AN} (h : WRel μ H w) (hx : VRel μ it it') (ho : ovh (aNext H it) = some (r, H')) :
    OpOK P μ H w (do Pure.pure (.value (← Instr.next it' true type))) r H' := by
  obtain ⟨v, hv, rfl⟩ := ovh_inv ho
  unfold aNext at hv
  split at hv
  · rename_i b
    split at hv
    · rename_i s pos hg
      obtain ⟨l, hb, rfl⟩ := hx.ptr_inv
      obtain ⟨hsh, hh⟩ := h.obj b l _ hb hg
      have hget : (getObj l.c).run P w = .ok (.stringIter s pos) w := run_getObj hh (by intros; simp)
      cases hq : Nat.ble (pos + 1) s.size with
      | false =>
        rw [hq] at hv
        simp only [cond_false, Option.some.injEq, Prod.mk.injEq] at hv
        obtain ⟨rfl, rfl⟩ := hv
        have hge : ¬ pos < s.size := fun hlt => by rw [Nat.ble_eq_true_of_le hlt] at hq; cases hq
        refine OpOK.value (v' := .tuple #[.bool false]) ?_ (Post.refl h) (VRel.refl2 rfl)
        simp [Instr.next, hsh, hget, hge]
      | true =>
        rw [hq] at hv
        simp only [cond_true, Option.some.injEq, Prod.mk.injEq] at hv
        obtain ⟨rfl, rfl⟩ := hv
        have hlt : pos < s.size := Nat.le_of_ble_eq_true hq
        refine OpOK.value (v' := .tuple #[.bool true, goInt pos, .int .i32 (Utf8.decode s pos).1]) (w' := setObjAt w l.c (.stringIter s (pos + (Utf8.decode s pos).2))) ?_
          (Post.put h hb hg rfl _ rfl _ ⟨hsh, setObjAt_get_same w _ (lt_of_heap hh)⟩) (VRel.refl2 rfl)
        simp [Instr.next, hsh, hget, hlt, run_setObj hh (by intros; simp)]
    · cases hv
  · cases hv

theorem asNat_run {v v' : Value} {n : Nat} (h : asNat v = some n) (hr : VRel μ v v') : (asInt v').run P w = .ok (n : Int) w := by
  obtain ⟨k, rfl⟩ := asNat_inv h hr
  simp [asInt, asIntOf]

theorem wrap_small {n : Nat} (h : n ≤ 2147483648) : IntKind.i64.wrap (n : Int) = n := IntWalk.i64_in _ (by omega)

theorem bytesOf_info {e : TypeId} {b : Nat} (h : bytesOf P e = some b) : ∃ i, P.info? e = some i ∧ i.bytes = b := by
  unfold bytesOf at h
  split at h
  · rename_i i hi; injection h with h; exact ⟨i, hi, h⟩
  · cases h

theorem make_sound {t : TypeId} {x x' y y' : Value} {r : AN} (h : WRel μ H w) (hf : ∀ b, H.next ≤ b → b < H'.next → μ b = none) (hx : VRel μ x x') (hy : VRel μ y y')
    (ho : ovh (aMake P t x y H) = some (r, H')) : OpOK P μ H w (do Pure.pure (.value (← Instr.makeSlice t x' y'))) r H' := by
  obtain ⟨v, hv, rfl⟩ := ovh_inv ho
  unfold aMake at hv
  split at hv
  · rename_i e hu
    split at hv
    · rename_i sz by_ z n k hs hb hz hn hk
      cases hq : (Nat.ble n k && Nat.ble k 2147483648 && Nat.ble by_ 4096 && Nat.beq (lenL z) sz && !Nat.beq sz 0) with
      | false => rw [hq] at hv; cases hv
      | true =>
        rw [hq] at hv
        simp only [cond_true, Option.some.injEq, Prod.mk.injEq] at hv
        obtain ⟨rfl, rfl⟩ := hv
        simp only [Bool.and_eq_true, Bool.not_eq_true'] at hq
        obtain ⟨⟨⟨⟨q1, q2⟩, q3⟩, q4⟩, q5⟩ := hq
        have q1 : n ≤ k := Nat.le_of_ble_eq_true q1
        have q2 : k ≤ 2147483648 := Nat.le_of_ble_eq_true q2
        have q3 : by_ ≤ 4096 := Nat.le_of_ble_eq_true q3
        have q4 : z.length = sz := by rw [← lenL_eq]; exact Nat.eq_of_beq_eq_true q4
        have q5 : sz ≠ 0 := fun e => by rw [e] at q5; cases q5
        obtain ⟨i, vz, hi, hvz, hvc, hall⟩ := zeroOf_spec (P := P) hz
        obtain ⟨ib, hib, hbb⟩ := bytesOf_info hb
        rw [hi] at hib; injection hib with hib; subst hib
        obtain ⟨l, h1, h2, h3, hrun, hpost⟩ := fresh_row (P := P) h (hf H.next (Nat.le_refl _) (by simp [newCells])) e (LRel.refl0 (μ := μ) (copies_noA0 hall k))
        refine OpOK.value (v' := .slice (some ⟨w.heap.size, 0, none⟩) n k) ?_ hpost ?_
        · obtain ⟨kn, rfl⟩ := asNat_inv hn hx
          obtain ⟨kk, rfl⟩ := asNat_inv hk hy
          have hwn := wrap_small (n := n) (by omega)
          have hwk := wrap_small (n := k) q2
          have hvs : vz.cells = ⟨z⟩ := by rw [← hvc]
          have hmul : by_ * k ≤ 4096 * 2147483648 := Nat.mul_le_mul q3 q2
          have hnot : (decide ((k : Int) < 0) || decide ((i.bytes : Int) * (k : Int) > 2 ^ 48) || decide ((n : Int) < 0) || decide ((n : Int) > (k : Int))) = false := by
            have hm : ((i.bytes : Int) * (k : Int)) ≤ 8796093022208 := by rw [hbb, ← Int.natCast_mul]; exact Int.ofNat_le.2 hmul
            have h1 : ¬ ((k : Int) < 0) := by omega
            have h2 : ¬ ((i.bytes : Int) * (k : Int) > 2 ^ 48) := by
              have : (2 : Int) ^ 48 = 281474976710656 := by decide
              omega
            have h3 : ¬ ((n : Int) < 0) := by omega
            have h4 : ¬ ((n : Int) > (k : Int)) := by omega
            simp only [decide_eq_false h1, decide_eq_false h2, decide_eq_false h3, decide_eq_false h4, Bool.or_self]
          simp only [Instr.makeSlice, Sem.run_bind, run_underlying' w hu, Result.andThen_ok, asInt, asIntOf, Sem.run_pure, run_typeInfo' w hi, hwn, hwk]
          rw [if_neg (by rw [hnot]; exact Bool.false_ne_true)]
          simp only [Sem.run_bind, run_askRoom, Result.andThen_ok, run_sizeOf' w hs, Int.toNat_natCast]
          by_cases h0 : k * sz = 0
          · have hcz : copies k z = [] := List.eq_nil_of_length_eq_zero (by rw [copies_length, q4]; exact h0)
            have hbase : ∀ g : Nat → Value, (Array.range (k * sz)).map g = ⟨copies k z⟩ := fun g => by rw [h0, hcz]; simp
            rw [if_pos h0]
            simp only [Sem.run_bind, Sem.run_pure, Result.andThen_ok, hbase, hrun]
          · have hbase := zeros_eq ⟨z⟩ k
            simp only [show (Array.mk z).size = sz from q4] at hbase
            rw [if_neg h0]
            simp only [Sem.run_bind, run_zeroValue w hi hvz, Sem.run_pure, Result.andThen_ok, hvs, show (Array.mk z).size = sz from q4, hbase, hrun]
        · have := VRel.sliceC (μ := μ.set H.next l) H.next 0 n k l (Emb.set_same _ _ _) h3
          rw [h1, h2] at this; exact this
    · cases hv
  · cases hv
end
end Go.R
