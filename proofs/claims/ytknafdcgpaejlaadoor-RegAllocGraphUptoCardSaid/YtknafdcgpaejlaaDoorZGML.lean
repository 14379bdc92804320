/-
 Plain laws: what the functions compute answers as the statement says. No condition beyond those that each statement names.
-/
import Derived.Test.YtknafdcgpaejlaaDoorZGMA
noncomputable section
namespace Go.Proofs.YtknafdcgpaejlaaDoor.ml
open Go.R m1 m2 m3 m4 m5 m6 ma
set_option linter.unusedVariables false
set_option linter.unusedSimpArgs false
abbrev bQ (c : VFnT) (b : Nat) : BlkT := c.blocks.getD b default
def tr : List VInT → (Nat → Prop) → Nat → Prop
 | [], S, r => S r
 | v :: l, S, r => (r : Int) ∈ aw v ∨ (tr l S r ∧ (r : Int) ∉ ab v)
theorem j6 {S S' : Nat → Prop} (h : ∀ r, S r → S' r) : ∀ (l : List VInT) (r : Nat), tr l S r → tr l S' r
 | [], r, hr => h r hr
 | _ :: l, r, .inl hr => .inl hr
 | _ :: l, r, .inr hr => .inr ⟨j6 h l r hr.1, hr.2⟩
def endS (b : BlkT) (S : Nat → Prop) (r : Nat) : Prop := S r ∨ (r : Int) ∈ df b
theorem endS_mono {b : BlkT} {S S' : Nat → Prop} (h : ∀ r, S r → S' r) (r : Nat) (hr : endS b S r) : endS b S' r := hr.imp (h r) id
def inS (b : BlkT) (S : Nat → Prop) (r : Nat) : Prop := tr b.ins (endS b S) r
theorem e9 {b : BlkT} {S S' : Nat → Prop} (h : ∀ r, S r → S' r) (r : Nat) (hr : inS b S r) : inS b S' r := j6 (endS_mono h) _ r hr
def outS (c : VFnT) (I : Nat → Nat → Prop) (b : Nat) (r : Nat) : Prop := ∃ t ∈ aW (bQ c b), I t.toNat r
theorem iL {c : VFnT} {I I' : Nat → Nat → Prop} (h : ∀ b r, I b r → I' b r) (b r : Nat) : outS c I b r → outS c I' b r := fun ⟨t, z, A⟩ => ⟨t, z, h _ _ A⟩
def Clo (c : VFnT) (I : Nat → Nat → Prop) : Prop := ∀ b, b < c.blocks.length → ∀ r, inS (bQ c b) (outS c I b) r → I b r
def LIn (c : VFnT) (b r : Nat) : Prop := ∀ I, Clo c I → I b r
def LOut (c : VFnT) (b r : Nat) : Prop := outS c (LIn c) b r
theorem LIn_clo (c : VFnT) : Clo c (LIn c) := fun b hb r hr I hI => hI b hb r (e9 (fun q hq => iL (fun b r h => h I hI) b q hq) r hr)
abbrev wds (c : VFnT) : Nat := (Int.tdiv (c.regs + 63) 64).toNat
def bI (I : List (List U64)) (b r : Nat) : Prop := aF (I.getD b default) r = true
structure Snd (c : VFnT) (I O : List (List U64)) : Prop where
 li : I.length = c.blocks.length
 lo : O.length = c.blocks.length
 wi : ∀ b, b < c.blocks.length → (I.getD b default).length = wds c
 wo : ∀ b, b < c.blocks.length → (O.getD b default).length = wds c
 si : ∀ b r, bI I b r → LIn c b r
 so : ∀ b r, bI O b r → LOut c b r
def Cl1 (c : VFnT) (I O : List (List U64)) (b : Nat) : Prop := (∀ t ∈ aW (bQ c b), ∀ r, bI I t.toNat r → bI O b r) ∧ (∀ r, inS (bQ c b) (bI O b) r → bI I b r)
structure AnF (c : VFnT) (I O : List (List U64)) : Prop where
 li : I.length = c.blocks.length
 lo : O.length = c.blocks.length
 wi : ∀ b, b < c.blocks.length → (I.getD b default).length = wds c
 wo : ∀ b, b < c.blocks.length → (O.getD b default).length = wds c
 hi : ∀ b r, bI I b r ↔ LIn c b r
 ho : ∀ b, b < c.blocks.length → ∀ r, bI O b r ↔ LOut c b r
theorem anF_of {c : VFnT} {I O : List (List U64)} (h : Snd c I O) (hc : ∀ b, b < c.blocks.length → Cl1 c I O b) : AnF c I O := by
 have hclo : Clo c (bI I) := fun b hb r hr => (hc b hb).2 r (e9 (fun q ⟨t, z, A⟩ => (hc b hb).1 t z q A) r hr)
 refine ⟨h.li, h.lo, h.wi, h.wo, fun b r => ⟨h.si b r, fun hl => hl _ hclo⟩, fun b hb r => ⟨h.so b r, fun ⟨t, z, A⟩ => (hc b hb).1 t z r (A _ hclo)⟩⟩
def ku (I : List (List U64)) : Nat := (I.map fun s => (gj s).length).sum
theorem cnt_le {c : VFnT} {I : List (List U64)} (hl : I.length = c.blocks.length) (hw : ∀ b, b < c.blocks.length → (I.getD b default).length = wds c) : ku I ≤ c.blocks.length * (64 * wds c) := by
 have key : ∀ (l : List (List U64)) (B : Nat), (∀ s ∈ l, (gj s).length ≤ B) → (l.map fun s => (gj s).length).sum ≤ l.length * B := by
  intro l B
  induction l with
  | nil => intro _; simp
  | cons s l ih =>
   intro h
   have A := ih fun x hx => h x (a0j _ hx)
   have z := h s (a0A ..)
   rw [List.map_cons, List.sum_cons, a0a, a1e]; omega
 rw [← hl]
 refine key I _ fun s hs => ?_
 obtain ⟨b, hb, rfl⟩ := a0D.1 hs
 have := hw b (by omega)
 rw [a01, a03 hb] at this
 have z : (gj I[b]).length ≤ 64 * I[b].length := lstK_len
 simp only [a0Q] at this
 rw [this] at z; exact z
theorem lst_more {s s' : List U64} (hl : s'.length = s.length) (h : ∀ i, aF s i = true → aF s' i = true) {i : Nat} (z : aF s' i = true) (E : aF s i = false) : (gj s).length < (gj s').length := by
 have hi : i < 64 * s.length := by
  rcases a0k i (64 * s.length) with A | A
  ·
   exact A
  rw [kE (by rw [hl]; exact A)] at z; cases z
 unfold gj jC
 rw [a1q, a1q, hl]
 have key : ∀ l : List Nat, (l.filter (aF s)).length ≤ (l.filter (aF s')).length ∧ (i ∈ l → (l.filter (aF s)).length < (l.filter (aF s')).length) := by
  intro l
  induction l with
  | nil => exact ⟨a08 _, fun h => by cases h⟩
  | cons x l ih =>
   rw [a1E, a1E]
   by_cases hx : aF s x = true
   ·
    rw [if_pos hx, if_pos (h x hx)]
    refine ⟨by simpa using ih.1, fun hm => ?_⟩
    rcases a0r.1 hm with rfl | hm
    ·
     rw [E] at hx; cases hx
    simpa using ih.2 hm
   rw [if_neg hx]
   by_cases hx' : aF s' x = true
   ·
    rw [if_pos hx']
    exact ⟨by simp; omega, fun _ => by simp; omega⟩
   rw [if_neg hx']
   refine ⟨ih.1, fun hm => ?_⟩
   rcases a0r.1 hm with rfl | hm
   ·
    exact absurd z hx'
   exact ih.2 hm
 exact (key _).2 (a1Q.2 hi)
theorem sum_set : ∀ (l : List Nat) (i x : Nat), i < l.length → (l.set i x).sum + l.getD i 0 = l.sum + x
 | [], i, x, h => by simp at h
 | y :: l, 0, x, _ => by simp; omega
 | y :: l, i + 1, x, h => by
  have := sum_set l i x (by simpa using h)
  simp only [List.set_cons_succ, List.sum_cons, a28]; omega
theorem cnt_set {I : List (List U64)} {b : Nat} (hb : b < I.length) (s : List U64) : ku (I.set b s) + (gj (I.getD b default)).length = ku I + (gj s).length := by
 unfold ku
 rw [List.map_set]
 have := sum_set (I.map fun s => (gj s).length) b (gj s).length (by rw [a1q]; exact hb)
 rw [a01, a1b, a03 hb] at this
 rw [a01, a03 hb]
 exact this
def mea (mo : Bool) (B n : Nat) : Nat := bif mo then 2 * (B - n) + 1 else 0
theorem mea_lt {m2 : Bool} {B n z : Nat} (h : m2 = true → n < z) (hB : z ≤ B) : mea m2 B z < mea true B n := by
 unfold mea
 cases m2 with
 | false => simp
 | true => have := h rfl; simp; omega
theorem d8 {α : Type} {d : α} {l : List α} {i j : Nat} {x : α} : (l.set i x).getD j d = if i = j ∧ j < l.length then x else l.getD j d := by
 simp only [a01, List.getElem?_set]
 by_cases h : i = j
 ·
  subst h
  by_cases z : i < l.length
  ·
   rw [if_pos rfl, if_pos z, if_pos ⟨rfl, z⟩]; rfl
  rw [if_pos rfl, if_neg z, if_neg (fun e => z e.2), a0C (by omega)]
 rw [if_neg h, if_neg (fun e => h e.1)]
theorem snd_start {c : VFnT} {I O : List (List U64)} (z : I.length = c.blocks.length) (A : O.length = c.blocks.length) (E : ∀ j, j < c.blocks.length → I.getD j default = List.replicate (wds c) ⟨0⟩) (J : ∀ j, j < c.blocks.length → O.getD j default = List.replicate (wds c) ⟨0⟩) : Snd c I O := by
 have hz : ∀ (X : List (List U64)), X.length = c.blocks.length → (∀ j, j < c.blocks.length → X.getD j default = List.replicate (wds c) ⟨0⟩) → ∀ b r, ¬ bI X b r := by
  intro X hX hx b r hb
  unfold bI at hb
  rcases a0k b c.blocks.length with h | h
  ·
   rw [hx b h, bit_rep] at hb; cases hb
  rw [cr (by omega)] at hb
  rw [kE (a0B _)] at hb; cases hb
 exact ⟨z, A, fun b hb => by rw [E b hb, a0P], fun b hb => by rw [J b hb, a0P], fun b r h => absurd h (hz I z E b r), fun b r h => absurd h (hz O A J b r)⟩
theorem snd_out {c : VFnT} {I O : List (List U64)} {k : Nat} {t : Int} {s : List U64} (h : Snd c I O) (hk : k < c.blocks.length) (ht : t ∈ aW (bQ c k)) (hs : s.length = (O.getD k default).length) (hb : ∀ i, aF s i = (aF (O.getD k default) i || aF (I.getD t.toNat default) i)) : Snd c I (O.set k s) := by
 refine ⟨h.li, by rw [a0i]; exact h.lo, h.wi, fun b hb' => ?_, h.si, fun b r hr => ?_⟩
 ·
  rw [d8]
  split
  ·
   rename_i e; rw [hs]; exact h.wo k hk
  exact h.wo b hb'
 unfold bI at hr
 rw [d8] at hr
 split at hr
 ·
  rename_i e
  obtain ⟨rfl, _⟩ := e
  rw [hb, a0O] at hr
  rcases hr with hr | hr
  ·
   exact h.so _ r hr
  exact ⟨t, ht, h.si _ r hr⟩
 exact h.so b r hr
theorem snd_in {c : VFnT} {I O : List (List U64)} {k : Nat} {s s' : List U64} (h : Snd c I O) (hk : k < c.blocks.length) (hs : s'.length = (I.getD k default).length) (hb : ∀ i, aF s' i = (aF (I.getD k default) i || aF s i)) (ht : ∀ r, aF s r = true ↔ inS (bQ c k) (bI O k) r) : Snd c (I.set k s') O := by
 refine ⟨by rw [a0i]; exact h.li, h.lo, fun b hb' => ?_, h.wo, fun b r hr => ?_, h.so⟩
 ·
  rw [d8]
  split
  ·
   rw [hs]; exact h.wi k hk
  exact h.wi b hb'
 unfold bI at hr
 rw [d8] at hr
 split at hr
 ·
  rename_i e
  obtain ⟨rfl, _⟩ := e
  rw [hb, a0O] at hr
  rcases hr with hr | hr
  ·
   exact h.si _ r hr
  exact LIn_clo c _ hk r (e9 (h.so _) r ((ht r).1 hr))
 exact h.si b r hr
theorem cnt_more {I : List (List U64)} {k : Nat} {s s' : List U64} (hk : k < I.length) (hs : s'.length = (I.getD k default).length) (hb : ∀ i, aF s' i = (aF (I.getD k default) i || aF s i)) (hx : ∃ i, aF s i = true ∧ aF (I.getD k default) i = false) : ku I < ku (I.set k s') := by
 obtain ⟨i, z, A⟩ := hx
 have E := cnt_set hk s'
 have J := lst_more hs (fun i hi => by rw [hb, hi]; rfl) (i := i) (by rw [hb, z, Bool.or_true]) A
 omega
theorem tr_drop {l : List VInT} {i : Nat} (h : i < l.length) (S : Nat → Prop) (r : Nat) : tr (l.drop i) S r ↔ (r : Int) ∈ aw (l.getD i default) ∨ (tr (l.drop (i + 1)) S r ∧ (r : Int) ∉ ab (l.getD i default)) := by
 rw [a1c h, a01, a03 h]
 exact Iff.rfl
theorem tr_next {l : List VInT} {i : Nat} {S : Nat → Prop} {s s' : List U64} (h : i < l.length) (hs : ∀ r, aF s r = true ↔ tr (l.drop (i + 1)) S r) (hb : ∀ r, aF s' r = ((aF s r && !decide ((r : Int) ∈ ab (l.getD i default))) || decide ((r : Int) ∈ aw (l.getD i default)))) (r : Nat) : aF s' r = true ↔ tr (l.drop i) S r := by
 rw [tr_drop h, hb, ← hs r]
 simp only [a0O, a0c, a0L, decide_eq_true_eq, decide_eq_false_iff_not]
 constructor
 ·
  rintro (z | z)
  ·
   exact .inr z
  exact .inl z
 rintro (z | z)
 ·
  exact .inr z
 exact .inl z
theorem bR {params regs : Int} {v : VInT} (h : eI params regs v = true) : (∀ x ∈ aw v, 0 ≤ x ∧ x < regs) ∧ (∀ x ∈ ab v, 0 ≤ x ∧ x < regs) ∧ v.args.length ≤ 6 := by
 unfold eI at h
 simp only [a0c, decide_eq_true_eq] at h
 obtain ⟨⟨⟨⟨⟨⟨⟨hal, E⟩, hl⟩, hargs⟩, ha⟩, hb⟩, hc⟩, _⟩ := h
 have A : v.i.op = 38 ∨ (1 ≤ v.i.op ∧ v.i.op ≤ 37 ∧ v.i.op ≠ 38) := by
  unfold alV at hal
  have := of_decide_eq_true hal; omega
 have hT : ∀ {p : Bool} {n : Int}, dr p n regs = true → p = true → 0 ≤ n ∧ n < regs := by
  intro p n hp hq
  subst hq
  unfold dr at hp
  exact aV.1 (by simpa using hp)
 have tabA : ∀ k : Fin 37, ((aM ((k.val : Int) + 1)).ra = true ∨ (aM ((k.val : Int) + 1)).wa = true ∨ ((k.val : Int) + 1) = 6 → aA ((k.val : Int) + 1) ≠ 1) ∧ ((aM ((k.val : Int) + 1)).rb = true → aA ((k.val : Int) + 1) = 3 ∨ aA ((k.val : Int) + 1) = 4 ∨ aA ((k.val : Int) + 1) = 7) ∧ ((((k.val : Int) + 1) = 11 ∨ ((k.val : Int) + 1) = 12) → aA ((k.val : Int) + 1) = 4) := by decide +kernel
 have hA : (aM v.i.op).ra = true ∨ (aM v.i.op).wa = true ∨ v.i.op = 6 ∨ v.i.op = 38 → 0 ≤ v.i.a ∧ v.i.a < regs := by
  intro hq
  refine hT ha (decide_eq_true ?_)
  rcases A with e | e
  ·
   rw [e]; decide
  obtain ⟨k, hk⟩ := ex37 (op := v.i.op) ⟨e.1, e.2.1⟩
  rw [hk] at hq ⊢
  refine (tabA k).1 ?_
  rcases hq with z | z | z | z
  ·
   exact .inl z
  ·
   exact .inr (.inl z)
  ·
   exact .inr (.inr z)
  omega
 have hB : (aM v.i.op).rb = true → 0 ≤ v.i.b ∧ v.i.b < regs := by
  intro hq
  refine hT hb (decide_eq_true ?_)
  rcases A with e | e
  ·
   rw [e] at hq; exact absurd hq (by decide)
  obtain ⟨k, hk⟩ := ex37 (op := v.i.op) ⟨e.1, e.2.1⟩
  rw [hk] at hq ⊢
  exact (tabA k).2.1 hq
 have hC : v.i.op = 11 ∨ v.i.op = 12 → 0 ≤ v.i.c ∧ v.i.c < regs := by
  intro hq
  refine hT hc (decide_eq_true ?_)
  rcases hq with e | e <;> rw [e] <;> decide
 refine ⟨fun x hx => ?_, fun x hx => ?_, hl⟩
 ·
  unfold aw at hx
  rw [if_pos hal, uni_mem] at hx
  rcases hx with hx | hx
  ·
   cases hx
  unfold jA at hx
  simp only [a09] at hx
  rcases hx with hx | hx | hx | hx
  ·
   split at hx
   ·
    rename_i hq; rw [a0e] at hx; rw [hx]; exact hA (.inl hq)
   cases hx
  ·
   split at hx
   ·
    rename_i hq; rw [a0e] at hx; rw [hx]; exact hB hq
   cases hx
  ·
   split at hx
   ·
    rename_i hq; rw [a0e] at hx; rw [hx]; exact hC hq
   cases hx
  split at hx
  ·
   exact aV.1 (a0v.1 hargs x hx)
  cases hx
 unfold ab at hx
 split at hx
 ·
  rename_i hq
  rw [a0e] at hx; rw [hx]
  refine hA ?_
  rcases hq.2 with z | z | z
  ·
   exact .inr (.inl z)
  ·
   exact .inr (.inr (.inl z))
  exact .inr (.inr (.inr z))
 cases hx
structure VF (c : VFnT) : Prop where
 regs : 0 ≤ c.regs ∧ c.regs ≤ 3000
 params : 0 ≤ c.params ∧ c.params ≤ 6
 nb : 1 ≤ c.blocks.length ∧ c.blocks.length ≤ 1000
 succ : ∀ b, b < c.blocks.length → ∀ t ∈ aW (bQ c b), 0 ≤ t ∧ t < (c.blocks.length : Int)
 fin : ∀ b, b < c.blocks.length → ((bQ c b).fin = 2 ∨ (bQ c b).fin = 3) → 0 ≤ (bQ c b).reg ∧ (bQ c b).reg < c.regs
 ins : ∀ b, b < c.blocks.length → ∀ i, i < (bQ c b).ins.length → eI c.params c.regs ((bQ c b).ins.getD i default) = true
theorem iA {c : VFnT} (h : cx c = true) : VF c := by
 unfold cx at h
 rw [a0c] at h
 obtain ⟨z, A⟩ := h
 have z := of_decide_eq_true z
 have hB : ∀ b, b < c.blocks.length → kD c.params c.regs (c.blocks.length : Int) (bQ c b) = true := fun b hb => all_at A hb
 refine ⟨by omega, by omega, by omega, fun b hb t ht => ?_, fun b hb hf => ?_, fun b hb i hi => ?_⟩
 ·
  have := hB b hb
  unfold kD at this
  rw [a0c] at this
  have hv := bL.1 this.2
  unfold aW at ht
  split at ht
  ·
   rw [a0e] at ht; subst ht; omega
  split at ht
  ·
   rw [iW, a0e] at ht
   rcases ht with rfl | rfl <;> omega
  cases ht
 ·
  have := hB b hb
  unfold kD at this
  rw [a0c] at this
  have hv := bL.1 this.2
  omega
 have := hB b hb
 unfold kD at this
 rw [a0c] at this
 exact all_at this.1 hi
end Go.Proofs.YtknafdcgpaejlaaDoor.ml
