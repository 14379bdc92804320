/-
 Plain laws: what the functions compute answers as the statement says. No condition beyond those that each statement names.
-/
import Derived.Test.YtlabedbmgmfbaaaDoorZDMA
import Derived.Test.YtlabedbmgmfbaaaDoorZDRD
noncomputable section
namespace Go.Proofs.YtlabedbmgmfbaaaDoor.ml
open Go.R m1 m2 m3 m4 m5 m6 ma
set_option linter.unusedVariables false
abbrev cC (c : VFnT) (b : Nat) : BlkT := c.blocks.getD b default
def tr : List VInT → (Nat → Prop) → Nat → Prop
 | [], S, r => S r
 | v :: l, S, r => (r : Int) ∈ bd v ∨ (tr l S r ∧ (r : Int) ∉ aQ v)
theorem tr_mono {S S' : Nat → Prop} (h : ∀ r, S r → S' r) : ∀ (l : List VInT) (r : Nat), tr l S r → tr l S' r
 | [], r, hr => h r hr
 | _ :: l, r, .inl hr => .inl hr
 | _ :: l, r, .inr hr => .inr ⟨tr_mono h l r hr.1, hr.2⟩
def endS (b : BlkT) (S : Nat → Prop) (r : Nat) : Prop := S r ∨ (r : Int) ∈ endV b
theorem endS_mono {b : BlkT} {S S' : Nat → Prop} (h : ∀ r, S r → S' r) (r : Nat) (hr : endS b S r) : endS b S' r := hr.imp (h r) id
def inS (b : BlkT) (S : Nat → Prop) (r : Nat) : Prop := tr b.ins (endS b S) r
theorem lq {b : BlkT} {S S' : Nat → Prop} (h : ∀ r, S r → S' r) (r : Nat) (hr : inS b S r) : inS b S' r := tr_mono (endS_mono h) _ r hr
def outS (c : VFnT) (I : Nat → Nat → Prop) (b : Nat) (r : Nat) : Prop := ∃ t ∈ bN (cC c b), I t.toNat r
theorem outS_mono {c : VFnT} {I I' : Nat → Nat → Prop} (h : ∀ b r, I b r → I' b r) (b r : Nat) : outS c I b r → outS c I' b r := fun ⟨t, z, A⟩ => ⟨t, z, h _ _ A⟩
def Clo (c : VFnT) (I : Nat → Nat → Prop) : Prop := ∀ b, b < c.blocks.length → ∀ r, inS (cC c b) (outS c I b) r → I b r
def LIn (c : VFnT) (b r : Nat) : Prop := ∀ I, Clo c I → I b r
def LOut (c : VFnT) (b r : Nat) : Prop := outS c (LIn c) b r
theorem LIn_clo (c : VFnT) : Clo c (LIn c) := fun b hb r hr I hI => hI b hb r (lq (fun q hq => outS_mono (fun b r h => h I hI) b q hq) r hr)
abbrev wds (c : VFnT) : Nat := (Int.tdiv (c.regs + 63) 64).toNat
def bI (I : List (List U64)) (b r : Nat) : Prop := aF (I.getD b default) r = true
structure Snd (c : VFnT) (I O : List (List U64)) : Prop where
 li : I.length = c.blocks.length
 lo : O.length = c.blocks.length
 wi : ∀ b, b < c.blocks.length → (I.getD b default).length = wds c
 wo : ∀ b, b < c.blocks.length → (O.getD b default).length = wds c
 si : ∀ b r, bI I b r → LIn c b r
 so : ∀ b r, bI O b r → LOut c b r
def Cl1 (c : VFnT) (I O : List (List U64)) (b : Nat) : Prop := (∀ t ∈ bN (cC c b), ∀ r, bI I t.toNat r → bI O b r) ∧ (∀ r, inS (cC c b) (bI O b) r → bI I b r)
structure AnF (c : VFnT) (I O : List (List U64)) : Prop where
 li : I.length = c.blocks.length
 lo : O.length = c.blocks.length
 wi : ∀ b, b < c.blocks.length → (I.getD b default).length = wds c
 wo : ∀ b, b < c.blocks.length → (O.getD b default).length = wds c
 hi : ∀ b r, bI I b r ↔ LIn c b r
 ho : ∀ b, b < c.blocks.length → ∀ r, bI O b r ↔ LOut c b r
theorem anF_of {c : VFnT} {I O : List (List U64)} (h : Snd c I O) (hc : ∀ b, b < c.blocks.length → Cl1 c I O b) : AnF c I O := by
 have hclo : Clo c (bI I) := fun b hb r hr => (hc b hb).2 r (lq (fun q ⟨t, z, A⟩ => (hc b hb).1 t z q A) r hr)
 refine ⟨h.li, h.lo, h.wi, h.wo, fun b r => ⟨h.si b r, fun hl => hl _ hclo⟩, fun b hb r => ⟨h.so b r, fun ⟨t, z, A⟩ => (hc b hb).1 t z r (A _ hclo)⟩⟩
def lw (I : List (List U64)) : Nat := (I.map fun s => (j4 s).length).sum
theorem cnt_le {c : VFnT} {I : List (List U64)} (hl : I.length = c.blocks.length) (hw : ∀ b, b < c.blocks.length → (I.getD b default).length = wds c) : lw I ≤ c.blocks.length * (64 * wds c) := by
 have key : ∀ (l : List (List U64)) (B : Nat), (∀ s ∈ l, (j4 s).length ≤ B) → (l.map fun s => (j4 s).length).sum ≤ l.length * B := by
  intro l B
  induction l with
  | nil => intro _; simp
  | cons s l ih =>
   intro h
   have A := ih fun x hx => h x (List.mem_cons_of_mem _ hx)
   have z := h s (List.mem_cons_self ..)
   rw [List.map_cons, List.sum_cons, List.length_cons, Nat.succ_mul]; omega
 rw [← hl]
 refine key I _ fun s hs => ?_
 obtain ⟨b, hb, rfl⟩ := List.mem_iff_getElem.1 hs
 have := hw b (by omega)
 rw [List.getD_eq_getElem?_getD, List.getElem?_eq_getElem hb] at this
 have z : (j4 I[b]).length ≤ 64 * I[b].length := lstK_len
 simp only [Option.getD_some] at this
 rw [this] at z; exact z
theorem lst_more {s s' : List U64} (hl : s'.length = s.length) (h : ∀ i, aF s i = true → aF s' i = true) {i : Nat} (z : aF s' i = true) (I : aF s i = false) : (j4 s).length < (j4 s').length := by
 have hi : i < 64 * s.length := by
  rcases Nat.lt_or_ge i (64 * s.length) with A | A
  ·
   exact A
  ·
   rw [lE (by rw [hl]; exact A)] at z; cases z
 unfold j4 kx
 rw [List.length_map, List.length_map, hl]
 have key : ∀ l : List Nat, (l.filter (aF s)).length ≤ (l.filter (aF s')).length ∧ (i ∈ l → (l.filter (aF s)).length < (l.filter (aF s')).length) := by
  intro l
  induction l with
  | nil => exact ⟨Nat.le_refl _, fun h => by cases h⟩
  | cons x l ih =>
   rw [List.filter_cons, List.filter_cons]
   by_cases hx : aF s x = true
   ·
    rw [if_pos hx, if_pos (h x hx)]
    refine ⟨by simpa using ih.1, fun hm => ?_⟩
    rcases List.mem_cons.1 hm with rfl | hm
    ·
     rw [I] at hx; cases hx
    ·
     simpa using ih.2 hm
   ·
    rw [if_neg hx]
    by_cases hx' : aF s' x = true
    ·
     rw [if_pos hx']
     exact ⟨by simp; omega, fun _ => by simp; omega⟩
    ·
     rw [if_neg hx']
     refine ⟨ih.1, fun hm => ?_⟩
     rcases List.mem_cons.1 hm with rfl | hm
     ·
      exact absurd z hx'
     ·
      exact ih.2 hm
 exact (key _).2 (List.mem_range.2 hi)
theorem sum_set : ∀ (l : List Nat) (i x : Nat), i < l.length → (l.set i x).sum + l.getD i 0 = l.sum + x
 | [], i, x, h => by simp at h
 | y :: l, 0, x, _ => by simp; omega
 | y :: l, i + 1, x, h => by
  have := sum_set l i x (by simpa using h)
  simp only [List.set_cons_succ, List.sum_cons, List.getD_cons_succ]; omega
theorem cnt_set {I : List (List U64)} {b : Nat} (hb : b < I.length) (s : List U64) : lw (I.set b s) + (j4 (I.getD b default)).length = lw I + (j4 s).length := by
 unfold lw
 rw [List.map_set]
 have := sum_set (I.map fun s => (j4 s).length) b (j4 s).length (by rw [List.length_map]; exact hb)
 rw [List.getD_eq_getElem?_getD, List.getElem?_map, List.getElem?_eq_getElem hb] at this
 rw [List.getD_eq_getElem?_getD, List.getElem?_eq_getElem hb]
 exact this
def mea (mo : Bool) (B n : Nat) : Nat := bif mo then 2 * (B - n) + 1 else 0
theorem mea_lt {m2 : Bool} {B n z : Nat} (h : m2 = true → n < z) (hB : z ≤ B) : mea m2 B z < mea true B n := by
 unfold mea
 cases m2 with
 | false => simp
 | true => have := h rfl; simp; omega
theorem fP {α : Type} {d : α} {l : List α} {i j : Nat} {x : α} : (l.set i x).getD j d = if i = j ∧ j < l.length then x else l.getD j d := by
 simp only [List.getD_eq_getElem?_getD, List.getElem?_set]
 by_cases h : i = j
 ·
  subst h
  by_cases z : i < l.length
  ·
   rw [if_pos rfl, if_pos z, if_pos ⟨rfl, z⟩]; rfl
  ·
   rw [if_pos rfl, if_neg z, if_neg (fun e => z e.2), List.getElem?_eq_none (by omega)]
 ·
  rw [if_neg h, if_neg (fun e => h e.1)]
theorem snd_start {c : VFnT} {I O : List (List U64)} (z : I.length = c.blocks.length) (A : O.length = c.blocks.length) (J : ∀ j, j < c.blocks.length → I.getD j default = List.replicate (wds c) ⟨0⟩) (T : ∀ j, j < c.blocks.length → O.getD j default = List.replicate (wds c) ⟨0⟩) : Snd c I O := by
 have hz : ∀ (X : List (List U64)), X.length = c.blocks.length → (∀ j, j < c.blocks.length → X.getD j default = List.replicate (wds c) ⟨0⟩) → ∀ b r, ¬ bI X b r := by
  intro X hX hx b r hb
  unfold bI at hb
  rcases Nat.lt_or_ge b c.blocks.length with h | h
  ·
   rw [hx b h, bit_rep] at hb; cases hb
  ·
   rw [dj (by omega)] at hb
   rw [lE (Nat.zero_le _)] at hb; cases hb
 exact ⟨z, A, fun b hb => by rw [J b hb, List.length_replicate], fun b hb => by rw [T b hb, List.length_replicate], fun b r h => absurd h (hz I z J b r), fun b r h => absurd h (hz O A T b r)⟩
theorem snd_out {c : VFnT} {I O : List (List U64)} {k : Nat} {t : Int} {s : List U64} (h : Snd c I O) (hk : k < c.blocks.length) (ht : t ∈ bN (cC c k)) (hs : s.length = (O.getD k default).length) (hb : ∀ i, aF s i = (aF (O.getD k default) i || aF (I.getD t.toNat default) i)) : Snd c I (O.set k s) := by
 refine ⟨h.li, by rw [List.length_set]; exact h.lo, h.wi, fun b hb' => ?_, h.si, fun b r hr => ?_⟩
 ·
  rw [fP]
  split
  ·
   rename_i e; rw [hs]; exact h.wo k hk
  ·
   exact h.wo b hb'
 ·
  unfold bI at hr
  rw [fP] at hr
  split at hr
  ·
   rename_i e
   obtain ⟨rfl, _⟩ := e
   rw [hb, Bool.or_eq_true] at hr
   rcases hr with hr | hr
   ·
    exact h.so _ r hr
   ·
    exact ⟨t, ht, h.si _ r hr⟩
  ·
   exact h.so b r hr
theorem snd_in {c : VFnT} {I O : List (List U64)} {k : Nat} {s s' : List U64} (h : Snd c I O) (hk : k < c.blocks.length) (hs : s'.length = (I.getD k default).length) (hb : ∀ i, aF s' i = (aF (I.getD k default) i || aF s i)) (ht : ∀ r, aF s r = true ↔ inS (cC c k) (bI O k) r) : Snd c (I.set k s') O := by
 refine ⟨by rw [List.length_set]; exact h.li, h.lo, fun b hb' => ?_, h.wo, fun b r hr => ?_, h.so⟩
 ·
  rw [fP]
  split
  ·
   rw [hs]; exact h.wi k hk
  ·
   exact h.wi b hb'
 ·
  unfold bI at hr
  rw [fP] at hr
  split at hr
  ·
   rename_i e
   obtain ⟨rfl, _⟩ := e
   rw [hb, Bool.or_eq_true] at hr
   rcases hr with hr | hr
   ·
    exact h.si _ r hr
   ·
    exact LIn_clo c _ hk r (lq (h.so _) r ((ht r).1 hr))
  ·
   exact h.si b r hr
theorem cnt_more {I : List (List U64)} {k : Nat} {s s' : List U64} (hk : k < I.length) (hs : s'.length = (I.getD k default).length) (hb : ∀ i, aF s' i = (aF (I.getD k default) i || aF s i)) (hx : ∃ i, aF s i = true ∧ aF (I.getD k default) i = false) : lw I < lw (I.set k s') := by
 obtain ⟨i, z, A⟩ := hx
 have J := cnt_set hk s'
 have O := lst_more hs (fun i hi => by rw [hb, hi]; rfl) (i := i) (by rw [hb, z, Bool.or_true]) A
 omega
theorem tr_drop {l : List VInT} {i : Nat} (h : i < l.length) (S : Nat → Prop) (r : Nat) : tr (l.drop i) S r ↔ (r : Int) ∈ bd (l.getD i default) ∨ (tr (l.drop (i + 1)) S r ∧ (r : Int) ∉ aQ (l.getD i default)) := by
 rw [List.drop_eq_getElem_cons h, List.getD_eq_getElem?_getD, List.getElem?_eq_getElem h]
 exact Iff.rfl
theorem tr_next {l : List VInT} {i : Nat} {S : Nat → Prop} {s s' : List U64} (h : i < l.length) (hs : ∀ r, aF s r = true ↔ tr (l.drop (i + 1)) S r) (hb : ∀ r, aF s' r = ((aF s r && !decide ((r : Int) ∈ aQ (l.getD i default))) || decide ((r : Int) ∈ bd (l.getD i default)))) (r : Nat) : aF s' r = true ↔ tr (l.drop i) S r := by
 rw [tr_drop h, hb, ← hs r]
 simp only [Bool.or_eq_true, Bool.and_eq_true, Bool.not_eq_true', decide_eq_true_eq, decide_eq_false_iff_not]
 constructor
 ·
  rintro (z | z)
  ·
   exact .inr z
  ·
   exact .inl z
 ·
  rintro (z | z)
  ·
   exact .inr z
  ·
   exact .inl z
theorem gG {params regs : Int} {v : VInT} (h : eg params regs v = true) : (∀ x ∈ bd v, 0 ≤ x ∧ x < regs) ∧ (∀ x ∈ aQ v, 0 ≤ x ∧ x < regs) ∧ v.args.length ≤ 6 := by
 unfold eg at h
 simp only [Bool.and_eq_true, decide_eq_true_eq] at h
 obtain ⟨⟨⟨⟨⟨⟨⟨hal, I⟩, hl⟩, hargs⟩, ha⟩, hb⟩, hc⟩, _⟩ := h
 have A : v.i.op = 38 ∨ (1 ≤ v.i.op ∧ v.i.op ≤ 37 ∧ v.i.op ≠ 38) := by
  unfold alV at hal
  have := of_decide_eq_true hal; omega
 have hT : ∀ {p : Bool} {n : Int}, dq p n regs = true → p = true → 0 ≤ n ∧ n < regs := by
  intro p n hp hq
  subst hq
  unfold dq at hp
  exact bp.1 (by simpa using hp)
 have tabA : ∀ k : Fin 37, ((aI ((k.val : Int) + 1)).ra = true ∨ (aI ((k.val : Int) + 1)).wa = true ∨ ((k.val : Int) + 1) = 6 → aw ((k.val : Int) + 1) ≠ 1) ∧ ((aI ((k.val : Int) + 1)).rb = true → aw ((k.val : Int) + 1) = 3 ∨ aw ((k.val : Int) + 1) = 4 ∨ aw ((k.val : Int) + 1) = 7) ∧ ((((k.val : Int) + 1) = 11 ∨ ((k.val : Int) + 1) = 12) → aw ((k.val : Int) + 1) = 4) := by decide +kernel
 have hA : (aI v.i.op).ra = true ∨ (aI v.i.op).wa = true ∨ v.i.op = 6 ∨ v.i.op = 38 → 0 ≤ v.i.a ∧ v.i.a < regs := by
  intro hq
  refine hT ha (decide_eq_true ?_)
  rcases A with e | e
  ·
   rw [e]; decide
  ·
   obtain ⟨k, hk⟩ := ex37 (op := v.i.op) ⟨e.1, e.2.1⟩
   rw [hk] at hq ⊢
   refine (tabA k).1 ?_
   rcases hq with z | z | z | z
   ·
    exact .inl z
   ·
    exact .inr (.inl z)
   ·
    exact .inr (.inr z)
   ·
    omega
 have hB : (aI v.i.op).rb = true → 0 ≤ v.i.b ∧ v.i.b < regs := by
  intro hq
  refine hT hb (decide_eq_true ?_)
  rcases A with e | e
  ·
   rw [e] at hq; exact absurd hq (by decide)
  ·
   obtain ⟨k, hk⟩ := ex37 (op := v.i.op) ⟨e.1, e.2.1⟩
   rw [hk] at hq ⊢
   exact (tabA k).2.1 hq
 have hC : v.i.op = 11 ∨ v.i.op = 12 → 0 ≤ v.i.c ∧ v.i.c < regs := by
  intro hq
  refine hT hc (decide_eq_true ?_)
  rcases hq with e | e <;> rw [e] <;> decide
 refine ⟨fun x hx => ?_, fun x hx => ?_, hl⟩
 ·
  unfold bd at hx
  rw [if_pos hal, uni_mem] at hx
  rcases hx with hx | hx
  ·
   cases hx
  ·
   unfold fe at hx
   simp only [List.mem_append] at hx
   rcases hx with hx | hx | hx | hx
   ·
    split at hx
    ·
     rename_i hq; rw [List.mem_singleton] at hx; rw [hx]; exact hA (.inl hq)
    ·
     cases hx
   ·
    split at hx
    ·
     rename_i hq; rw [List.mem_singleton] at hx; rw [hx]; exact hB hq
    ·
     cases hx
   ·
    split at hx
    ·
     rename_i hq; rw [List.mem_singleton] at hx; rw [hx]; exact hC hq
    ·
     cases hx
   ·
    split at hx
    ·
     exact bp.1 (List.all_eq_true.1 hargs x hx)
    ·
     cases hx
 ·
  unfold aQ at hx
  split at hx
  ·
   rename_i hq
   rw [List.mem_singleton] at hx; rw [hx]
   refine hA ?_
   rcases hq.2 with z | z | z
   ·
    exact .inr (.inl z)
   ·
    exact .inr (.inr (.inl z))
   ·
    exact .inr (.inr (.inr z))
  ·
   cases hx
structure VF (c : VFnT) : Prop where
 regs : 0 ≤ c.regs ∧ c.regs ≤ 3000
 params : 0 ≤ c.params ∧ c.params ≤ 6
 nb : 1 ≤ c.blocks.length ∧ c.blocks.length ≤ 1000
 succ : ∀ b, b < c.blocks.length → ∀ t ∈ bN (cC c b), 0 ≤ t ∧ t < (c.blocks.length : Int)
 fin : ∀ b, b < c.blocks.length → ((cC c b).fin = 2 ∨ (cC c b).fin = 3) → 0 ≤ (cC c b).reg ∧ (cC c b).reg < c.regs
 ins : ∀ b, b < c.blocks.length → ∀ i, i < (cC c b).ins.length → eg c.params c.regs ((cC c b).ins.getD i default) = true
theorem vF_of {c : VFnT} (h : eL c = true) : VF c := by
 unfold eL at h
 rw [Bool.and_eq_true] at h
 obtain ⟨z, A⟩ := h
 have z := of_decide_eq_true z
 have hB : ∀ b, b < c.blocks.length → jZ c.params c.regs (c.blocks.length : Int) (cC c b) = true := fun b hb => eK A hb
 refine ⟨by omega, by omega, by omega, fun b hb t ht => ?_, fun b hb hf => ?_, fun b hb i hi => ?_⟩
 ·
  have := hB b hb
  unfold jZ at this
  rw [Bool.and_eq_true] at this
  have hv := bE.1 this.2
  unfold bN at ht
  split at ht
  ·
   rw [List.mem_singleton] at ht; subst ht; omega
  ·
   split at ht
   ·
    rw [ln, List.mem_singleton] at ht
    rcases ht with rfl | rfl <;> omega
   ·
    cases ht
 ·
  have := hB b hb
  unfold jZ at this
  rw [Bool.and_eq_true] at this
  have hv := bE.1 this.2
  omega
 ·
  have := hB b hb
  unfold jZ at this
  rw [Bool.and_eq_true] at this
  exact eK this.1 hi
end Go.Proofs.YtlabedbmgmfbaaaDoor.ml
