/-
 Plain laws: what the functions compute answers as the statement says. No condition beyond those that each statement names.
-/
import Derived.Test.YtlabedbmgmfbaaaDoorZDJF
import Derived.Test.YtlabedbmgmfbaaaDoorZDML
noncomputable section
namespace Go.Proofs.YtlabedbmgmfbaaaDoor.jg
open Go.R m1 m2 m6 m7 ma ml iw ia ib id_
set_option linter.unusedVariables false
def pS (c : VFnT) (b i r : Nat) : Prop := tr ((cC c b).ins.drop i) (endS (cC c b) (LOut c b)) r
theorem pS_read {c : VFnT} {b i r : Nat} (hi : i < (cC c b).ins.length) (h : (r : Int) ∈ bd ((cC c b).ins.getD i default)) : pS c b i r := (tr_drop hi _ r).2 (.inl h)
theorem pS_next {c : VFnT} {b i r : Nat} (hi : i < (cC c b).ins.length) (h : pS c b (i + 1) r) (hw : (r : Int) ∉ aQ ((cC c b).ins.getD i default)) : pS c b i r := (tr_drop hi _ r).2 (.inr ⟨h, hw⟩)
theorem pS_end {c : VFnT} {b r : Nat} (h : (r : Int) ∈ endV (cC c b)) : pS c b (cC c b).ins.length r := by
 unfold pS; rw [List.drop_length]; exact .inr h
theorem pS_jump {c : VFnT} {b r : Nat} {t : Int} (ht : t ∈ bN (cC c b)) (hb : t.toNat < c.blocks.length) (h : pS c t.toNat 0 r) : pS c b (cC c b).ins.length r := by
 unfold pS; rw [List.drop_length]
 exact .inl ⟨t, ht, LIn_clo c t.toNat hb r h⟩
def insB (b : BlkT) (at_ : Nat) (v : VInT) : BlkT := { b with ins := b.ins.take at_ ++ ([v] ++ b.ins.drop at_) }
def fH (c : VFnT) (bk at_ : Nat) (v : VInT) : VFnT := { c with blocks := c.blocks.set bk (insB (cC c bk) at_ v) }
def ldi (reg x : Int) : VInT := ⟨⟨13, reg, 0, 0, x⟩, []⟩
def posR (bk at_ : Nat) (b i i' : Int) : Prop := (b ≠ bk → i' = i) ∧ (b = bk → (i < at_ → i' = i) ∧ ((at_ : Int) < i → i' = i + 1) ∧ (i = at_ → i' = i ∨ i' = i + 1))
structure FR (c : VFnT) (bk at_ : Nat) (v : VInT) (E : Int → Prop) (x y : CalT) : Prop where
 args : y.args = x.args
 to_ : y.to_ = x.to_
 blk : y.blk = x.blk
 or_ : (y.code = x.code ∧ y.at_ = x.at_ ∧ y.regs = x.regs) ∨ (x.code = c ∧ y.code = fH c bk at_ v ∧ posR bk at_ x.blk x.at_ y.at_ ∧ ∀ r : Nat, pS c x.blk.toNat x.at_.toNat r → ¬ E r → bB x.regs r = bB y.regs r)
inductive LR (c : VFnT) (bk at_ : Nat) (v : VInT) : List CalT → List CalT → Int → Prop
 | nil (t : Int) : LR c bk at_ v [] [] t
 | snoc {l l' : List CalT} {f f' : CalT} {t : Int} (h : LR c bk at_ v l l' f.to_) (hf : FR c bk at_ v (· = t) f f') : LR c bk at_ v (l ++ [f]) (l' ++ [f']) t
structure SR2 (c : VFnT) (bk at_ : Nat) (v : VInT) (s s' : RunS) : Prop where
 cells : s'.cells = s.cells
 fuel : s'.fuel = s.fuel
 over : s'.over = s.over
 kind : s'.kind = s.kind
 code : s'.code = s.code
 out : s'.out = s.out
 val : s'.val = s.val
 top : FR c bk at_ v (fun _ => False) s.top s'.top
 low : LR c bk at_ v s.low s'.low s.top.to_
theorem eS {l : List Int} {n x : Int} {r : Nat} (hn : 0 ≤ n) : bB (gD l n x) r = if (r : Int) = n then x else bB l r := by
 unfold bB gD
 rw [List.getD_eq_getElem?_getD, List.getD_eq_getElem?_getD]
 by_cases h : (r : Int) = n
 ·
  rw [if_pos h, show (r : Int).toNat = n.toNat by omega, List.getElem?_set_self (by rw [List.length_append, List.length_replicate]; omega)]; rfl
 ·
  rw [if_neg h, List.getElem?_set_ne (by omega)]
  rcases Nat.lt_or_ge (r : Int).toNat l.length with hg | hg
  ·
   rw [List.getElem?_append_left hg]
  ·
   rw [List.getElem?_eq_none hg, List.getElem?_append_right hg, List.getElem?_replicate]
   split <;> rfl
theorem tabF : ∀ k : Fin 39, ((k.val = 9 ∨ k.val = 11 ∨ k.val = 12 ∨ k.val = 15 ∨ k.val = 16 ∨ (17 ≤ k.val ∧ k.val ≤ 32) ∨ k.val = 33 ∨ k.val = 35) → (aI (k.val : Int)).ra = true) ∧ ((k.val = 10 ∨ k.val = 11 ∨ k.val = 12 ∨ (17 ≤ k.val ∧ k.val ≤ 32) ∨ k.val = 34 ∨ k.val = 35) → (aI (k.val : Int)).rb = true) ∧
  ((k.val = 10 ∨ k.val = 11 ∨ k.val = 12 ∨ k.val = 13 ∨ k.val = 15 ∨ k.val = 16 ∨ (17 ≤ k.val ∧ k.val ≤ 32) ∨ k.val = 33 ∨ k.val = 34) → (aI (k.val : Int)).wa = true) := by decide
structure RdF (v : VInT) : Prop where
 a : (v.i.op = 9 ∨ v.i.op = 11 ∨ v.i.op = 12 ∨ v.i.op = 15 ∨ v.i.op = 16 ∨ (17 ≤ v.i.op ∧ v.i.op ≤ 32) ∨ v.i.op = 33 ∨ v.i.op = 35) → v.i.a ∈ bd v
 b : (v.i.op = 10 ∨ v.i.op = 11 ∨ v.i.op = 12 ∨ (17 ≤ v.i.op ∧ v.i.op ≤ 32) ∨ v.i.op = 34 ∨ v.i.op = 35) → v.i.b ∈ bd v
 c : (v.i.op = 11 ∨ v.i.op = 12) → v.i.c ∈ bd v
 args : v.i.op = 6 → ∀ x ∈ v.args, x ∈ bd v
 w : (v.i.op = 10 ∨ v.i.op = 11 ∨ v.i.op = 12 ∨ v.i.op = 13 ∨ v.i.op = 15 ∨ v.i.op = 16 ∨ (17 ≤ v.i.op ∧ v.i.op ≤ 32) ∨ v.i.op = 33 ∨ v.i.op = 34 ∨ v.i.op = 38 ∨ v.i.op = 6) → v.i.a ∈ aQ v
theorem rdF_of {v : VInT} (hal : alV v.i.op = true) (hl : v.i.op = 3 ∨ v.i.op = 6 ∨ (9 ≤ v.i.op ∧ v.i.op ≤ 13) ∨ (15 ≤ v.i.op ∧ v.i.op ≤ 35) ∨ v.i.op = 38) : RdF v := by
 obtain ⟨k, hk⟩ : ∃ k : Fin 39, v.i.op = (k.val : Int) := ⟨⟨v.i.op.toNat, by omega⟩, by show v.i.op = ((v.i.op.toNat : Nat) : Int); omega⟩
 have t := tabF k
 rw [← hk] at t
 have hm : ∀ x, x ∈ bd v ↔ x ∈ fe v := fun x => by
  unfold bd
  rw [if_pos hal, uni_mem]; simp
 have hw : ((aI v.i.op).wa = true ∨ v.i.op = 6 ∨ v.i.op = 38) → v.i.a ∈ aQ v := fun h => by
  rw [← ke hal h]; exact List.mem_singleton.2 rfl
 refine ⟨fun h => ?_, fun h => ?_, fun h => ?_, fun h x hx => ?_, fun h => hw ?_⟩
 ·
  rw [hm]; unfold fe
  rw [if_pos (t.1 (by omega))]; simp
 ·
  rw [hm]; unfold fe
  rw [if_pos (t.2.1 (by omega))]; simp
 ·
  rw [hm]; unfold fe
  rw [if_pos h]; simp
 ·
  rw [hm]; unfold fe
  rw [if_pos h]; simp [hx]
 ·
  by_cases z : v.i.op = 6 ∨ v.i.op = 38
  ·
   exact .inr z
  ·
   exact .inl (t.2.2 (by omega))
abbrev regV (o : Option Int) (g : List Int) (a : Int) : List Int := match o with | none => g | some x => gD g a x
structure Eff2 (P Q : List VFnT) (s s' : RunS) (v : VInT) (o : Option Int) (G : RunS) : Prop where
 w : o.isSome = true → ∀ r ∈ aQ v, r = v.i.a
 n : o = none → G.over = true ∨ ∀ r ∈ aQ v, r ∈ bd v
 p : j5 P s v = ⟨s.low, { s.top with regs := regV o s.top.regs v.i.a }, G.cells, G.fuel, G.over, G.kind, G.code, G.out, G.val⟩
 q : j5 Q s' v = ⟨s'.low, { s'.top with regs := regV o s'.top.regs v.i.a }, G.cells, G.fuel, G.over, G.kind, G.code, G.out, G.val⟩
theorem wr_a {v : VInT} : ∀ r ∈ aQ v, r = v.i.a := fun r hr => by
 unfold aQ at hr
 split at hr
 ·
  exact List.mem_singleton.1 hr
 ·
  cases hr
theorem tabW : (aI 3).wa = false ∧ (aI 9).wa = false ∧ (aI 35).wa = false := by decide
theorem no_w {v : VInT} (h : v.i.op = 3 ∨ v.i.op = 9 ∨ v.i.op = 35) : ∀ r ∈ aQ v, r ∈ bd v := fun r hr => by
 unfold aQ at hr
 split at hr
 ·
  rename_i z
  rcases z.2 with z | z | z
  ·
   rcases h with h | h | h
   ·
    rw [h, tabW.1] at z; cases z
   ·
    rw [h, tabW.2.1] at z; cases z
   ·
    rw [h, tabW.2.2] at z; cases z
  ·
   omega
  ·
   omega
 ·
  cases hr
theorem eff_of {P Q : List VFnT} {low low' : List CalT} {cx cy : VFnT} {g g' args : List Int} {bx by_ ax ay tx ty : Int} {cells : List (List Int)} {fuel kind cd val : Int} {over : Bool} {out : List Int} {v : VInT} (hl : v.i.op = 3 ∨ v.i.op = 6 ∨ (9 ≤ v.i.op ∧ v.i.op ≤ 13) ∨ (15 ≤ v.i.op ∧ v.i.op ≤ 35) ∨ v.i.op = 38) (h6 : v.i.op ≠ 6) (hR : RdF v) (hr : ∀ x ∈ bd v, bB g x = bB g' x) :
  ∃ o G, Eff2 P Q ⟨low, ⟨cx, g, args, bx, ax, tx⟩, cells, fuel, over, kind, cd, out, val⟩ ⟨low', ⟨cy, g', args, by_, ay, ty⟩, cells, fuel, over, kind, cd, out, val⟩ v o G := by
 have ra := fun h => hr _ (hR.a h)
 have rb := fun h => hr _ (hR.b h)
 have rc := fun h => hr _ (hR.c h)
 have wa : v.i.op = 11 ∨ v.i.op = 12 ∨ v.i.op = 20 ∨ v.i.op = 21 → ∀ r ∈ aQ v, r ∈ bd v := fun h r hrr => by rw [wr_a r hrr]; exact hR.a (by omega)
 by_cases J : v.i.op = 3
 ·
  by_cases hf : fuel = 0
  ·
   refine ⟨none, ⟨low, ⟨cx, g, args, bx, ax, tx⟩, cells, fuel, true, 3, 0, out, 0⟩, fun _ => wr_a, fun _ => .inl rfl, ?_, ?_⟩ <;> (unfold j5; rw [if_pos J]; exact if_pos hf)
  ·
   refine ⟨none, ⟨low, ⟨cx, g, args, bx, ax, tx⟩, cells, fuel - 1, over, kind, cd, out, val⟩, fun _ => wr_a, fun _ => .inr (no_w (.inl J)), ?_, ?_⟩ <;> (unfold j5; rw [if_pos J]; exact if_neg hf)
 by_cases Z : v.i.op = 9
 ·
  refine ⟨none, ⟨low, ⟨cx, g, args, bx, ax, tx⟩, cells, fuel, over, kind, cd, out ++ [bB g v.i.a], val⟩, fun _ => wr_a, fun _ => .inr (no_w (.inr (.inl Z))), ?_, ?_⟩
  ·
   unfold j5; rw [if_neg J, if_neg h6, if_pos Z]
  ·
   unfold j5; rw [if_neg J, if_neg h6, if_pos Z]
   show (⟨low', ⟨cy, g', args, by_, ay, ty⟩, cells, fuel, over, kind, cd, out ++ [bB g' v.i.a], val⟩ : RunS) = ⟨low', ⟨cy, g', args, by_, ay, ty⟩, cells, fuel, over, kind, cd, out ++ [bB g v.i.a], val⟩
   rw [ra (by omega)]
 by_cases aj : v.i.op = 34 ∨ v.i.op = 35
 ·
  have z : ∀ (R : List VFnT) (s : RunS), j5 R s v = accV s v.i := fun R s => by unfold j5; rw [if_neg J, if_neg h6, if_neg Z, if_pos aj]
  have eb := rb (by omega)
  by_cases hz : ¬ (0 ≤ bB g v.i.b ∧ bB g v.i.b < ((cells.getD v.i.n.toNat default).length : Int))
  ·
   refine ⟨none, ⟨low, ⟨cx, g, args, bx, ax, tx⟩, cells, fuel, true, 2, 2, out, 0⟩, fun _ => wr_a, fun _ => .inl rfl, ?_, ?_⟩
   ·
    rw [z]; unfold accV; exact if_pos hz
   ·
    rw [z]; unfold accV; rw [eb] at hz; exact if_pos hz
  ·
   by_cases h : v.i.op = 34
   ·
    refine ⟨some ((cells.getD v.i.n.toNat default).getD (bB g v.i.b).toNat 0), ⟨low, ⟨cx, g, args, bx, ax, tx⟩, cells, fuel, over, kind, cd, out, val⟩, fun _ => wr_a, fun h => (by cases h), ?_, ?_⟩
    ·
     rw [z]; unfold accV; exact (if_neg hz).trans (if_pos h)
    ·
     rw [z]; unfold accV; rw [eb] at hz
     refine (if_neg hz).trans ((if_pos h).trans ?_)
     show (⟨low', ⟨cy, gD g' v.i.a ((cells.getD v.i.n.toNat default).getD (bB g' v.i.b).toNat 0), args, by_, ay, ty⟩, cells, fuel, over, kind, cd, out, val⟩ : RunS) = ⟨low', ⟨cy, gD g' v.i.a ((cells.getD v.i.n.toNat default).getD (bB g v.i.b).toNat 0), args, by_, ay, ty⟩, cells, fuel, over, kind, cd, out, val⟩
     rw [eb]
   ·
    have ea := ra (by omega)
    refine ⟨none, ⟨low, ⟨cx, g, args, bx, ax, tx⟩, cells.set v.i.n.toNat ((cells.getD v.i.n.toNat default).set (bB g v.i.b).toNat (bB g v.i.a)), fuel, over, kind, cd, out, val⟩, fun _ => wr_a, fun _ => .inr (no_w (by omega)), ?_, ?_⟩
    ·
     rw [z]; unfold accV; exact (if_neg hz).trans (if_neg h)
    ·
     rw [z]; unfold accV; rw [eb] at hz
     refine (if_neg hz).trans ((if_neg h).trans ?_)
     show (⟨low', ⟨cy, g', args, by_, ay, ty⟩, cells.set v.i.n.toNat ((cells.getD v.i.n.toNat default).set (bB g' v.i.b).toNat (bB g' v.i.a)), fuel, over, kind, cd, out, val⟩ : RunS) = ⟨low', ⟨cy, g', args, by_, ay, ty⟩, cells.set v.i.n.toNat ((cells.getD v.i.n.toNat default).set (bB g v.i.b).toNat (bB g v.i.a)), fuel, over, kind, cd, out, val⟩
     rw [eb, ea]
 have z : ∀ (R : List VFnT) (s : RunS), j5 R s v = fb s v.i := fun R s => by unfold j5; rw [if_neg J, if_neg h6, if_neg Z, if_neg aj]
 have put : ∀ x : Int, fb ⟨low, ⟨cx, g, args, bx, ax, tx⟩, cells, fuel, over, kind, cd, out, val⟩ v.i = setT ⟨low, ⟨cx, g, args, bx, ax, tx⟩, cells, fuel, over, kind, cd, out, val⟩ v.i.a x → fb ⟨low', ⟨cy, g', args, by_, ay, ty⟩, cells, fuel, over, kind, cd, out, val⟩ v.i = setT ⟨low', ⟨cy, g', args, by_, ay, ty⟩, cells, fuel, over, kind, cd, out, val⟩ v.i.a x →
   ∃ o G, Eff2 P Q ⟨low, ⟨cx, g, args, bx, ax, tx⟩, cells, fuel, over, kind, cd, out, val⟩ ⟨low', ⟨cy, g', args, by_, ay, ty⟩, cells, fuel, over, kind, cd, out, val⟩ v o G := fun x h1 h2 =>
  ⟨some x, ⟨low, ⟨cx, g, args, bx, ax, tx⟩, cells, fuel, over, kind, cd, out, val⟩, fun _ => wr_a, fun h => (by cases h), by rw [z, h1], by rw [z, h2]⟩
 have stay : (∀ r ∈ aQ v, r ∈ bd v) → fb ⟨low, ⟨cx, g, args, bx, ax, tx⟩, cells, fuel, over, kind, cd, out, val⟩ v.i = ⟨low, ⟨cx, g, args, bx, ax, tx⟩, cells, fuel, over, kind, cd, out, val⟩ → fb ⟨low', ⟨cy, g', args, by_, ay, ty⟩, cells, fuel, over, kind, cd, out, val⟩ v.i = ⟨low', ⟨cy, g', args, by_, ay, ty⟩, cells, fuel, over, kind, cd, out, val⟩ →
   ∃ o G, Eff2 P Q ⟨low, ⟨cx, g, args, bx, ax, tx⟩, cells, fuel, over, kind, cd, out, val⟩ ⟨low', ⟨cy, g', args, by_, ay, ty⟩, cells, fuel, over, kind, cd, out, val⟩ v o G := fun hw h1 h2 =>
  ⟨none, ⟨low, ⟨cx, g, args, bx, ax, tx⟩, cells, fuel, over, kind, cd, out, val⟩, fun _ => wr_a, fun _ => .inr hw, by rw [z, h1], by rw [z, h2]⟩
 by_cases ag : v.i.op = 13
 ·
  refine put v.i.n ?_ ?_ <;> (unfold fb; rw [if_neg (by omega), if_neg (by omega), if_neg (by omega), if_pos ag])
 by_cases ap : v.i.op = 38
 ·
  refine put (args.getD v.i.n.toNat 0) ?_ ?_ <;> (unfold fb; rw [if_neg (by omega), if_neg (by omega), if_neg (by omega), if_neg (by omega), if_pos ap])
 by_cases O : v.i.op = 10
 ·
  refine put (bB g v.i.b) ?_ ?_
  ·
   unfold fb; rw [if_pos O]
  ·
   unfold fb; rw [if_pos O, rb (by omega)]
 by_cases A : v.i.op = 11
 ·
  have ec := rc (by omega)
  by_cases hz : bB g v.i.c = 0
  ·
   refine put (bB g v.i.b) ?_ ?_
   ·
    unfold fb; rw [if_neg (by omega), if_pos A]; exact if_pos hz
   ·
    unfold fb; rw [if_neg (by omega), if_pos A, rb (by omega)]; rw [ec] at hz; exact if_pos hz
  ·
   refine stay (wa (by omega)) ?_ ?_
   ·
    unfold fb; rw [if_neg (by omega), if_pos A]; exact if_neg hz
   ·
    unfold fb; rw [if_neg (by omega), if_pos A]; rw [ec] at hz; exact if_neg hz
 by_cases I : v.i.op = 12
 ·
  have ec := rc (by omega)
  by_cases hz : bB g v.i.c = 0
  ·
   refine stay (wa (by omega)) ?_ ?_
   ·
    unfold fb; rw [if_neg (by omega), if_neg (by omega), if_pos I]; exact if_pos hz
   ·
    unfold fb; rw [if_neg (by omega), if_neg (by omega), if_pos I]; rw [ec] at hz; exact if_pos hz
  ·
   refine put (bB g v.i.b) ?_ ?_
   ·
    unfold fb; rw [if_neg (by omega), if_neg (by omega), if_pos I]; exact if_neg hz
   ·
    unfold fb; rw [if_neg (by omega), if_neg (by omega), if_pos I, rb (by omega)]; rw [ec] at hz; exact if_neg hz
 have ea := ra (by omega)
 by_cases T : v.i.op = 15
 ·
  refine put (unV 20 (bB g v.i.a)) ?_ ?_
  ·
   unfold fb; (repeat (first | rw [if_pos T] | rw [if_neg (by omega)]))
  ·
   unfold fb; (repeat (first | rw [if_pos T] | rw [if_neg (by omega)])); rw [ea]
 by_cases U : v.i.op = 16
 ·
  refine put (unV 21 (bB g v.i.a)) ?_ ?_
  ·
   unfold fb; (repeat (first | rw [if_pos U] | rw [if_neg (by omega)]))
  ·
   unfold fb; (repeat (first | rw [if_pos U] | rw [if_neg (by omega)])); rw [ea]
 by_cases V : v.i.op = 33
 ·
  refine put (w64 (bB g v.i.a + v.i.n)) ?_ ?_
  ·
   unfold fb; (repeat (first | rw [if_pos V] | rw [if_neg (by omega)]))
  ·
   unfold fb; (repeat (first | rw [if_pos V] | rw [if_neg (by omega)])); rw [ea]
 have eb := rb (by omega)
 have ec : ∀ s : RunS, fb s v.i = if (v.i.op = 20 ∨ v.i.op = 21) ∧ bB s.top.regs v.i.b = 0 then stopV s 2 1 0 else setT s v.i.a (binV (v.i.op - 17 + 4) (bB s.top.regs v.i.a) (bB s.top.regs v.i.b)) := fun s => by
  unfold fb; rw [if_neg O, if_neg A, if_neg I, if_neg ag, if_neg ap, if_neg T, if_neg U, if_neg V]
 by_cases hz : (v.i.op = 20 ∨ v.i.op = 21) ∧ bB g v.i.b = 0
 ·
  refine ⟨none, ⟨low, ⟨cx, g, args, bx, ax, tx⟩, cells, fuel, true, 2, 1, out, 0⟩, fun _ => wr_a, fun _ => .inl rfl, ?_, ?_⟩
  ·
   rw [z, ec]; exact if_pos hz
  ·
   rw [z, ec]; rw [eb] at hz; exact if_pos hz
 ·
  refine put (binV (v.i.op - 17 + 4) (bB g v.i.a) (bB g v.i.b)) ?_ ?_
  ·
   rw [ec]; exact if_neg hz
  ·
   rw [ec]; rw [ea, eb]; rw [eb] at hz; exact if_neg hz
section
variable {c : VFnT} {bk at_ : Nat} {v0 : VInT}
theorem blkN_ins {b : Nat} (hb : bk < c.blocks.length) : cC (fH c bk at_ v0) b = if b = bk then insB (cC c bk) at_ v0 else cC c b := by
 show (c.blocks.set bk _).getD b default = _
 rw [List.getD_eq_getElem?_getD]
 by_cases h : b = bk
 ·
  subst h; rw [if_pos rfl, List.getElem?_set_self hb]; rfl
 ·
  rw [if_neg h, List.getElem?_set_ne (fun e => h e.symm), ← List.getD_eq_getElem?_getD]
theorem ins_len2 {b : BlkT} (h : at_ ≤ b.ins.length) : (insB b at_ v0).ins.length = b.ins.length + 1 := by
 show (b.ins.take at_ ++ ([v0] ++ b.ins.drop at_)).length = _
 rw [List.length_append, List.length_append, List.length_take, List.length_drop, List.length_singleton]; omega
theorem ins_lo {b : BlkT} {i : Nat} (h : at_ ≤ b.ins.length) (hi : i < at_) : (insB b at_ v0).ins.getD i default = b.ins.getD i default := by
 show (b.ins.take at_ ++ ([v0] ++ b.ins.drop at_)).getD i default = _
 rw [List.getD_eq_getElem?_getD, List.getElem?_append_left (by rw [List.length_take]; omega), List.getElem?_take_of_lt hi, ← List.getD_eq_getElem?_getD]
theorem ins_at2 {b : BlkT} (h : at_ ≤ b.ins.length) : (insB b at_ v0).ins.getD at_ default = v0 := by
 show (b.ins.take at_ ++ ([v0] ++ b.ins.drop at_)).getD at_ default = _
 rw [List.getD_eq_getElem?_getD, List.getElem?_append_right (by rw [List.length_take]; omega), List.length_take, show at_ - min at_ b.ins.length = 0 by omega]; rfl
theorem ins_hi {b : BlkT} {i : Nat} (h : at_ ≤ b.ins.length) (hi : at_ ≤ i) : (insB b at_ v0).ins.getD (i + 1) default = b.ins.getD i default := by
 show (b.ins.take at_ ++ ([v0] ++ b.ins.drop at_)).getD (i + 1) default = _
 rw [List.getD_eq_getElem?_getD, List.getElem?_append_right (by rw [List.length_take]; omega), List.length_take, List.getElem?_append_right (by rw [List.length_singleton]; omega), List.length_singleton, List.getElem?_drop, ← List.getD_eq_getElem?_getD]
 congr 1; omega
def Rdy (c : VFnT) (bk at_ : Nat) (v0 : VInT) (x y : CalT) : Prop := (y.code = x.code ∧ y.at_ = x.at_ ∧ y.regs = x.regs) ∨
 (x.code = c ∧ y.code = fH c bk at_ v0 ∧ (x.blk ≠ bk → y.at_ = x.at_) ∧ (x.blk = bk → (x.at_ < at_ → y.at_ = x.at_) ∧ ((at_ : Int) ≤ x.at_ → y.at_ = x.at_ + 1)) ∧ ∀ r : Nat, pS c x.blk.toNat x.at_.toNat r → bB x.regs r = bB y.regs r)
structure RdyF (x y : CalT) : Prop where
 e : x.at_ = ((da x).ins.length : Int) ↔ y.at_ = ((da y).ins.length : Int)
 fin : (da y).fin = (da x).fin ∧ (da y).reg = (da x).reg ∧ (da y).tgt = (da x).tgt ∧ (da y).els = (da x).els
 ins : x.at_ ≠ ((da x).ins.length : Int) → gg y = gg x
theorem rdy_of {P : List VFnT} {x y : CalT} (hb : bk < c.blocks.length) (ha : at_ ≤ (cC c bk).ins.length) (hx : CalOK P x) (hbl : y.blk = x.blk) (h : Rdy c bk at_ v0 x y) : RdyF x y := by
 have h1 := hx.blk
 have h2 := hx.at_
 rcases h with ⟨J, I, O⟩ | ⟨J, I, O, Z, e5⟩
 ·
  have eb : da y = da x := by show (y.code.blocks.getD y.blk.toNat default) = _; rw [J, hbl]
  exact ⟨by rw [eb, I], by rw [eb]; exact ⟨rfl, rfl, rfl, rfl⟩, fun _ => by show (da y).ins.getD y.at_.toNat default = _; rw [eb, I]⟩
 ·
  have ex : da x = cC c x.blk.toNat := by show (x.code.blocks.getD _ default) = _; rw [J]
  have ey : da y = if x.blk.toNat = bk then insB (cC c bk) at_ v0 else cC c x.blk.toNat := by
   show (y.code.blocks.getD y.blk.toNat default) = _
   rw [I, hbl]; exact blkN_ins hb
  have T : 0 ≤ x.at_ ∧ x.at_ ≤ ((cC c x.blk.toNat).ins.length : Int) := by rw [← ex]; exact h2
  by_cases hq : x.blk.toNat = bk
  ·
   have A : x.blk = bk := by omega
   rw [if_pos hq] at ey
   obtain ⟨U, V⟩ := Z A
   have el := ins_len2 (v0 := v0) ha
   rw [hq] at ex T
   refine ⟨by rw [ex, ey, el]; constructor <;> intro hh <;> (rcases Int.lt_or_le x.at_ at_ with z | z <;> (first | have := U z | have := V z) <;> omega), by rw [ex, ey]; exact ⟨rfl, rfl, rfl, rfl⟩, fun hne => ?_⟩
   show (da y).ins.getD y.at_.toNat default = (da x).ins.getD x.at_.toNat default
   rw [ey, ex]
   rcases Int.lt_or_le x.at_ at_ with z | z
   ·
    rw [U z]; exact ins_lo ha (by omega)
   ·
    rw [V z, show (x.at_ + 1).toNat = x.at_.toNat + 1 by omega]; exact ins_hi ha (by omega)
  ·
   have A : x.blk ≠ bk := by omega
   rw [if_neg hq] at ey
   have q := O A
   exact ⟨by rw [ex, ey, q], by rw [ex, ey]; exact ⟨rfl, rfl, rfl, rfl⟩, fun hne => by show (da y).ins.getD y.at_.toNat default = (da x).ins.getD x.at_.toNat default; rw [ey, ex, q]⟩
theorem fr_next {P : List VFnT} {x y : CalT} {E : Int → Prop} {o : Option Int} (hx : CalOK P x) (harg : y.args = x.args) (hto : y.to_ = x.to_) (hbl : y.blk = x.blk) (h : Rdy c bk at_ v0 x y) (hne : x.at_ ≠ ((da x).ins.length : Int))
  (hw : ∀ r ∈ aQ (gg x), (o = none → E r ∨ r ∈ bd (gg x)) ∧ (o.isSome = true → r = (gg x).i.a)) (h0 : 0 ≤ (gg x).i.a) :
  FR c bk at_ v0 E { x with at_ := x.at_ + 1, regs := regV o x.regs (gg x).i.a } { y with at_ := y.at_ + 1, regs := regV o y.regs (gg x).i.a } := by
 refine ⟨harg, hto, hbl, ?_⟩
 have h1 := hx.blk
 have h2 : 0 ≤ x.at_ ∧ x.at_ ≤ ((da x).ins.length : Int) := hx.at_
 rcases h with ⟨I, O, J⟩ | ⟨I, O, J, T, V⟩
 ·
  exact .inl ⟨I, by show y.at_ + 1 = x.at_ + 1; rw [O], by cases o with
   | none => exact J
   | some z => show gD y.regs _ z = gD x.regs _ z; rw [J]⟩
 ·
  have ex : da x = cC c x.blk.toNat := by show (x.code.blocks.getD _ default) = _; rw [I]
  have hi : x.at_.toNat < (cC c x.blk.toNat).ins.length := by rw [← ex]; omega
  have ev : gg x = (cC c x.blk.toNat).ins.getD x.at_.toNat default := by show (da x).ins.getD _ default = _; rw [ex]
  refine .inr ⟨I, O, ⟨fun hq => by show y.at_ + 1 = x.at_ + 1; rw [J hq], fun hq => ⟨fun A => ?_, fun A => ?_, fun A => ?_⟩⟩, fun r hr hE => ?_⟩
  ·
   show y.at_ + 1 = x.at_ + 1; rw [(T hq).1 (by have : x.at_ + 1 < at_ := A; omega)]
  ·
   show y.at_ + 1 = x.at_ + 1 + 1; rw [(T hq).2 (by have : (at_ : Int) < x.at_ + 1 := A; omega)]
  ·
   left
   show y.at_ + 1 = x.at_ + 1
   rw [(T hq).1 (by have : x.at_ + 1 = at_ := A; omega)]
  ·
   have hr' : pS c x.blk.toNat (x.at_.toNat + 1) r := by
    have : pS c x.blk.toNat (x.at_ + 1).toNat r := hr
    rwa [show (x.at_ + 1).toNat = x.at_.toNat + 1 by omega] at this
   rw [ev] at hw h0
   by_cases hwr : (r : Int) ∈ aQ ((cC c x.blk.toNat).ins.getD x.at_.toNat default)
   ·
    obtain ⟨w1, w2⟩ := hw _ hwr
    cases o with
    | none =>
     rcases w1 rfl with U | U
     ·
      exact absurd U hE
     ·
      exact V r (pS_read hi U)
    | some z =>
     have Z := w2 rfl
     show bB (gD x.regs (gg x).i.a z) r = bB (gD y.regs (gg x).i.a z) r
     rw [ev, eS h0, eS h0, if_pos Z, if_pos Z]
   ·
    have h8 := V r (pS_next hi hr' hwr)
    cases o with
    | none => exact h8
    | some z =>
     show bB (gD x.regs (gg x).i.a z) r = bB (gD y.regs (gg x).i.a z) r
     rw [ev, eS h0, eS h0, h8]
structure SR3 (c : VFnT) (bk at_ : Nat) (v0 : VInT) (s s' : RunS) : Prop where
 cells : s'.cells = s.cells
 fuel : s'.fuel = s.fuel
 over : s'.over = s.over
 kind : s'.kind = s.kind
 code : s'.code = s.code
 out : s'.out = s.out
 val : s'.val = s.val
 rel : s.over = false → FR c bk at_ v0 (fun _ => False) s.top s'.top ∧ LR c bk at_ v0 s.low s'.low s.top.to_
theorem fr_jump {P : List VFnT} {x y : CalT} {t : Int} (hb : bk < c.blocks.length) (hx : CalOK P x) (harg : y.args = x.args) (hto : y.to_ = x.to_) (h : Rdy c bk at_ v0 x y) (he : x.at_ = ((da x).ins.length : Int)) (ht : t ∈ bN (da x)) (J : 0 ≤ t ∧ t < (x.code.blocks.length : Int)) :
  FR c bk at_ v0 (fun _ => False) { x with blk := t, at_ := 0 } { y with blk := t, at_ := 0 } := by
 refine ⟨harg, hto, rfl, ?_⟩
 rcases h with ⟨z, A, I⟩ | ⟨z, A, I, U, O⟩
 ·
  exact .inl ⟨z, rfl, I⟩
 ·
  have ex : da x = cC c x.blk.toNat := by show (x.code.blocks.getD _ default) = _; rw [z]
  refine .inr ⟨z, A, ⟨fun _ => rfl, fun _ => ⟨fun _ => rfl, fun T => ?_, fun _ => .inl rfl⟩⟩, fun r hr _ => ?_⟩
  ·
   have : (at_ : Int) < 0 := T
   omega
  ·
   refine O r ?_
   rw [show x.at_.toNat = (cC c x.blk.toNat).ins.length by rw [← ex]; omega]
   rw [ex] at ht
   rw [z] at J
   exact pS_jump ht (by omega) hr
theorem end_eq {P : List VFnT} {x y : CalT} (hx : CalOK P x) (h : Rdy c bk at_ v0 x y) (he : x.at_ = ((da x).ins.length : Int)) {r : Int} (h0 : 0 ≤ r) (hr : r ∈ endV (da x)) : bB x.regs r = bB y.regs r := by
 rcases h with ⟨z, I, A⟩ | ⟨z, I, A, O, J⟩
 ·
  rw [A]
 ·
  have ex : da x = cC c x.blk.toNat := by show (x.code.blocks.getD _ default) = _; rw [z]
  have := J r.toNat (by
   rw [show x.at_.toNat = (cC c x.blk.toNat).ins.length by rw [← ex]; omega]
   exact pS_end (by rw [ex] at hr; rwa [Int.toNat_of_nonneg h0]))
  rwa [Int.toNat_of_nonneg h0] at this
theorem read_eq {P : List VFnT} {x y : CalT} (hx : CalOK P x) (h : Rdy c bk at_ v0 x y) (hne : x.at_ ≠ ((da x).ins.length : Int)) {r : Int} (h0 : 0 ≤ r) (hr : r ∈ bd (gg x)) : bB x.regs r = bB y.regs r := by
 rcases h with ⟨z, I, A⟩ | ⟨z, I, A, O, J⟩
 ·
  rw [A]
 ·
  have T : 0 ≤ x.at_ ∧ x.at_ ≤ ((da x).ins.length : Int) := hx.at_
  have ex : da x = cC c x.blk.toNat := by show (x.code.blocks.getD _ default) = _; rw [z]
  have ev : gg x = (cC c x.blk.toNat).ins.getD x.at_.toNat default := by show (da x).ins.getD _ default = _; rw [ex]
  have := J r.toNat (pS_read (by rw [← ex]; omega) (by rw [ev] at hr; rwa [Int.toNat_of_nonneg h0]))
  rwa [Int.toNat_of_nonneg h0] at this
theorem lr_last {l l' : List CalT} {t : Int} (h : LR c bk at_ v0 l l' t) : (l = [] ∧ l' = []) ∨ (l ≠ [] ∧ l' ≠ [] ∧ LR c bk at_ v0 l.dropLast l'.dropLast (l.getLastD default).to_ ∧ FR c bk at_ v0 (· = t) (l.getLastD default) (l'.getLastD default)) := by
 cases h with
 | nil => exact .inl ⟨rfl, rfl⟩
 | snoc z A => exact .inr ⟨by simp, by simp, by simpa only [List.dropLast_concat, List.getLastD_concat] using z, by simpa only [List.getLastD_concat] using A⟩
end
theorem SR3.mk' {c : VFnT} {bk at_ : Nat} {v0 : VInT} {low low' : List CalT} {x y : CalT} {cells : List (List Int)} {fuel kind cd val : Int} {over : Bool} {out : List Int} (h : over = false → FR c bk at_ v0 (fun _ => False) x y ∧ LR c bk at_ v0 low low' x.to_) : SR3 c bk at_ v0 ⟨low, x, cells, fuel, over, kind, cd, out, val⟩ ⟨low', y, cells, fuel, over, kind, cd, out, val⟩ := ⟨rfl, rfl, rfl, rfl, rfl, rfl, rfl, h⟩
theorem sr3_of {c : VFnT} {bk at_ : Nat} {v0 : VInT} {s s' t t' : RunS} (z : s = t) (A : s' = t') (h : SR3 c bk at_ v0 t t') : SR3 c bk at_ v0 s s' := by subst z; subst A; exact h
theorem set_at {P : List VFnT} {f : Nat} {c' : VFnT} {n : Nat} (hf : f < P.length) : (P.set f c').getD n default = if n = f then c' else P.getD n default := by
 rw [List.getD_eq_getElem?_getD]
 by_cases h : n = f
 ·
  subst h; rw [if_pos rfl, List.getElem?_set_self hf]; rfl
 ·
  rw [if_neg h, List.getElem?_set_ne (fun e => h e.symm), ← List.getD_eq_getElem?_getD]
theorem sim_ready {c : VFnT} {bk at_ : Nat} {v0 : VInT} {P : List VFnT} {nc N f : Nat} (hp : PrF P nc) (hf : f < P.length) (hc : P.getD f default = c) (hb : bk < c.blocks.length) (ha : at_ ≤ (cC c bk).ins.length) {low low' : List CalT} {x y : CalT} {cells : List (List Int)} {fuel kind cd val : Int} {over : Bool} {out : List Int}
  (hok : RunOK P nc ⟨low, x, cells, fuel, over, kind, cd, out, val⟩ N) (harg : y.args = x.args) (hto : y.to_ = x.to_) (hbl : y.blk = x.blk) (hr : Rdy c bk at_ v0 x y) (hl : LR c bk at_ v0 low low' x.to_) :
  SR3 c bk at_ v0 (dW P ⟨low, x, cells, fuel, over, kind, cd, out, val⟩) (dW (P.set f (fH c bk at_ v0)) ⟨low', y, cells, fuel, over, kind, cd, out, val⟩) := by
 have hx : CalOK P x := hok.top
 have F := rdy_of hb ha hx hbl hr
 have hcl := hp.lim _ hx.mem
 unfold dW
 show SR3 c bk at_ v0 (if x.at_ = ((da x).ins.length : Int) then _ else _) (if y.at_ = ((da y).ins.length : Int) then _ else _)
 by_cases hat : x.at_ = ((da x).ins.length : Int)
 ·
  rw [if_pos hat, if_pos (F.e.1 hat)]
  show SR3 c bk at_ v0 (kX _ (da x)) (kX _ (da y))
  obtain ⟨q1, q2, q3, q4⟩ := F.fin
  have hve := hx.fin hp
  have hfx := jp hve hcl.2.2.2.1
  unfold kX
  rw [q1, q2, q3, q4]
  by_cases O : (da x).fin = 1
  ·
   rw [if_pos O, if_pos O]
   exact SR3.mk' fun _ => ⟨fr_jump hb hx harg hto hr hat (by rw [← succ1 O]; exact List.mem_singleton.2 rfl) (hfx.2.2.1 O), hl⟩
  ·
   rw [if_neg O, if_neg O]
   by_cases I : (da x).fin = 2
   ·
    rw [if_pos I, if_pos I]
    have he : bB x.regs (da x).reg = bB y.regs (da x).reg := end_eq hx hr hat hfx.1 (by unfold endV; rw [if_pos (.inl I)]; exact List.mem_singleton.2 rfl)
    have ht := hfx.2.2.2.1 I
    show SR3 c bk at_ v0 (goT _ (if bB x.regs (da x).reg ≠ 0 then _ else _)) (goT _ (if bB y.regs (da x).reg ≠ 0 then _ else _))
    rw [← he]
    by_cases hz : bB x.regs (da x).reg = 0
    ·
     rw [if_neg (fun h => h hz)]
     exact SR3.mk' fun _ => ⟨fr_jump hb hx harg hto hr hat (by rw [succ2 I, ln]; exact .inl rfl) ⟨ht.2.2.1, ht.2.2.2⟩, hl⟩
    ·
     rw [if_pos hz]
     exact SR3.mk' fun _ => ⟨fr_jump hb hx harg hto hr hat (by rw [succ2 I, ln]; exact .inr (List.mem_singleton.2 rfl)) ⟨ht.1, ht.2.1⟩, hl⟩
   ·
    rw [if_neg I, if_neg I]
    by_cases T : (da x).fin = 3
    ·
     rw [if_pos T, if_pos T]
     have he : bB x.regs (da x).reg = bB y.regs (da x).reg := end_eq hx hr hat hfx.1 (by unfold endV; rw [if_pos (.inr T)]; exact List.mem_singleton.2 rfl)
     show SR3 c bk at_ v0 (i0 _ (bB x.regs (da x).reg)) (i0 _ (bB y.regs (da x).reg))
     rw [← he]
     generalize bB x.regs (da x).reg = z
     unfold i0
     show SR3 c bk at_ v0 (if low = [] then _ else _) (if low' = [] then _ else _)
     rcases lr_last hl with ⟨Z, e2⟩ | ⟨Z, e2, e3, V⟩
     ·
      rw [if_pos Z, if_pos e2]
      exact SR3.mk' fun h => by cases h
     ·
      rw [if_neg Z, if_neg e2]
      refine SR3.mk' fun _ => ⟨⟨V.args, V.to_, V.blk, ?_⟩, e3⟩
      rcases V.or_ with ⟨J, g2, g3⟩ | ⟨J, g2, g3, g4⟩
      ·
       refine .inl ⟨J, g2, ?_⟩
       show gD (low'.getLastD default).regs y.to_ z = gD (low.getLastD default).regs x.to_ z
       rw [g3, hto]
      ·
       refine .inr ⟨J, g2, g3, fun r ar _ => ?_⟩
       show bB (gD (low.getLastD default).regs x.to_ z) r = bB (gD (low'.getLastD default).regs y.to_ z) r
       rw [hto, eS hx.to_.1, eS hx.to_.1]
       by_cases A : (r : Int) = x.to_
       ·
        rw [if_pos A, if_pos A]
       ·
        rw [if_neg A, if_neg A]; exact g4 r ar A
    ·
     rw [if_neg T, if_neg T]
     exact SR3.mk' fun h => by cases h
 ·
  rw [if_neg hat, if_neg (fun e => hat (F.e.2 e))]
  have hI := hx.inF hp hat
  have hal : alV (gg x).i.op = true := by
   obtain ⟨J, _⟩ := hp.ins x.code hx.mem x.blk.toNat x.at_.toNat (by have := hx.blk; omega) (by have := hx.at_; have h5 : x.at_ ≠ ((x.code.blocks.getD x.blk.toNat default).ins.length : Int) := hat; omega)
   unfold eg at J
   simp only [Bool.and_eq_true] at J
   exact J.1.1.1.1.1.1.1
  have hR := rdF_of hal hI.al
  show SR3 c bk at_ v0 (j5 P _ (gg x)) (j5 _ _ (gg y))
  rw [F.ins hat]
  have hrd : ∀ r ∈ bd (gg x), bB x.regs r = bB y.regs r := fun r hrr => by
   refine read_eq hx hr hat ?_ hrr
   unfold bd at hrr
   rw [if_pos hal, uni_mem] at hrr
   rcases hrr with hrr | hrr
   ·
    cases hrr
   ·
    unfold fe at hrr
    rcases List.mem_append.1 hrr with h | h
    ·
     split at h
     ·
      rw [List.mem_singleton.1 h]; exact hI.a.1
     ·
      cases h
    ·
     rcases List.mem_append.1 h with h | h
     ·
      split at h
      ·
       rw [List.mem_singleton.1 h]; exact hI.b.1
      ·
       cases h
     ·
      rcases List.mem_append.1 h with h | h
      ·
       split at h
       ·
        rw [List.mem_singleton.1 h]; exact hI.cc.1
       ·
        cases h
      ·
       split at h
       ·
        obtain ⟨j, hj, rfl⟩ := List.mem_iff_getElem.1 h
        have := hI.arg j hj
        rw [List.getD_eq_getElem?_getD, List.getElem?_eq_getElem hj] at this
        exact this.1
       ·
        cases h
  by_cases U : (gg x).i.op = 6
  ·
   have a1 := hI.call U
   unfold j5
   rw [if_neg (by omega), if_pos U, if_neg (by omega), if_pos U]
   refine SR3.mk' fun _ => ⟨⟨?_, rfl, rfl, ?_⟩, ?_⟩
   ·
    show (gg x).args.map (bB y.regs) = (gg x).args.map (bB x.regs)
    exact List.map_congr_left fun a haa => (hrd a (hR.args U a haa)).symm
   ·
    show ((P.set f (fH c bk at_ v0)).getD _ default = P.getD _ default ∧ _) ∨ (P.getD _ default = c ∧ (P.set f (fH c bk at_ v0)).getD _ default = fH c bk at_ v0 ∧ _)
    rw [set_at hf]
    by_cases A : (gg x).i.n.toNat = f
    ·
     rw [if_pos A, A]
     refine .inr ⟨hc, rfl, ⟨fun _ => rfl, fun _ => ⟨fun _ => rfl, fun h5 => ?_, fun _ => .inl rfl⟩⟩, fun r _ _ => rfl⟩
     have : (at_ : Int) < 0 := h5
     omega
    ·
     rw [if_neg A]; exact .inl ⟨rfl, rfl, rfl⟩
   ·
    have e := fr_next (E := (· = (gg x).i.a)) (o := none) hx harg hto hbl hr hat (fun r hrr => ⟨fun _ => .inl (wr_a r hrr), fun h => by cases h⟩) hI.a.1
    exact LR.snoc (f := { x with at_ := x.at_ + 1 }) (f' := { y with at_ := y.at_ + 1 }) hl e
  ·
   obtain ⟨o, G, hE⟩ := eff_of (P := P) (Q := P.set f (fH c bk at_ v0)) (low := low) (low' := low') (cx := x.code) (cy := y.code) (g := x.regs) (g' := y.regs) (args := x.args) (bx := x.blk) (by_ := y.blk) (ax := x.at_ + 1) (ay := y.at_ + 1) (tx := x.to_) (ty := y.to_) (cells := cells) (fuel := fuel) (kind := kind) (cd := cd) (val := val) (over := over) (out := out) hI.al U hR hrd
   have ep := hE.p
   have eq := hE.q
   refine sr3_of ep ((congrArg (fun a => j5 (P.set f (fH c bk at_ v0)) ⟨low', ⟨y.code, y.regs, a, y.blk, y.at_ + 1, y.to_⟩, cells, fuel, over, kind, cd, out, val⟩ (gg x)) harg).trans eq) ?_
   refine SR3.mk' fun hov => ⟨?_, hl⟩
   have e9 := fr_next (o := o) (E := fun _ => False) hx harg hto hbl hr hat (fun r hrr => ⟨fun ho => by
    rcases hE.n ho with A | A
    ·
     rw [hov] at A; cases A
    ·
     exact .inr (A r hrr), fun _ => wr_a r hrr⟩) hI.a.1
   exact ⟨rfl, e9.to_, e9.blk, e9.or_⟩
theorem iG {P : List VFnT} {s : RunS} {j : Nat} : ∀ e, itV P (j + e) s = itV P e (itV P j s)
 | 0 => rfl
 | e + 1 => by
  show (if (itV P (j + e) s).over then itV P (j + e) s else dW P (itV P (j + e) s)) = _
  rw [iG e]; rfl
theorem prep {P Q : List VFnT} {c : VFnT} {bk at_ reg : Nat} {val0 : Int} (hb : bk < c.blocks.length) (ha : at_ ≤ (cC c bk).ins.length) (hd : ¬ pS c bk at_ reg)
  {low' : List CalT} {x y : CalT} {cells : List (List Int)} {fuel kind cd val : Int} {out : List Int} (hx : CalOK P x) (h : FR c bk at_ (ldi reg val0) (fun _ => False) x y) :
  ∃ (e : Nat) (y' : CalT), e ≤ 1 ∧ itV Q e ⟨low', y, cells, fuel, false, kind, cd, out, val⟩ = ⟨low', y', cells, fuel, false, kind, cd, out, val⟩ ∧ y'.args = x.args ∧ y'.to_ = x.to_ ∧ y'.blk = x.blk ∧ Rdy c bk at_ (ldi reg val0) x y' := by
 have Z := hx.blk
 have h2 : 0 ≤ x.at_ ∧ x.at_ ≤ ((da x).ins.length : Int) := hx.at_
 rcases h.or_ with e | ⟨I, A, J, O⟩
 ·
  exact ⟨0, y, Nat.zero_le _, rfl, h.args, h.to_, h.blk, .inl e⟩
 ·
  have z : ∀ r : Nat, pS c x.blk.toNat x.at_.toNat r → bB x.regs r = bB y.regs r := fun r hr => O r hr (fun h => h)
  by_cases hbk : x.blk = bk
  ·
   obtain ⟨T, U, V⟩ := J.2 hbk
   by_cases hat : x.at_ = at_ ∧ y.at_ = x.at_
   ·
    refine ⟨1, { y with at_ := y.at_ + 1, regs := gD y.regs reg val0 }, Nat.le_refl _, ?_, h.args, h.to_, h.blk, .inr ⟨I, A, fun h => absurd hbk h, fun _ => ⟨fun h => by omega, fun _ => by show y.at_ + 1 = _; omega⟩, fun r hr => ?_⟩⟩
    ·
     have eb : da y = insB (cC c bk) at_ (ldi reg val0) := by
      show y.code.blocks.getD y.blk.toNat default = _
      rw [A, h.blk, hbk]
      exact (blkN_ins hb).trans (if_pos (Int.toNat_natCast bk))
     have ei : gg y = ldi reg val0 := by
      show (da y).ins.getD y.at_.toNat default = _
      rw [eb, show y.at_.toNat = at_ by omega]; exact ins_at2 ha
     show dW Q _ = _
     unfold dW
     refine (if_neg (show ¬ y.at_ = ((da y).ins.length : Int) by rw [eb, ins_len2 ha]; omega)).trans ?_
     show j5 Q _ (gg y) = _
     rw [ei]
     rfl
    ·
     show bB x.regs r = bB (gD y.regs (reg : Int) val0) r
     rw [eS (by omega)]
     have : r ≠ reg := fun e => hd (by have := hr; rw [e, show x.blk.toNat = bk by omega, show x.at_.toNat = at_ by omega] at this; exact this)
     rw [if_neg (by omega)]; exact z r hr
   ·
    exact ⟨0, y, Nat.zero_le _, rfl, h.args, h.to_, h.blk, .inr ⟨I, A, fun h => absurd hbk h, fun _ => ⟨fun h => T h, fun h => by omega⟩, z⟩⟩
  ·
   exact ⟨0, y, Nat.zero_le _, rfl, h.args, h.to_, h.blk, .inr ⟨I, A, fun h => J.1 h, fun h => absurd h hbk, z⟩⟩
theorem sim_it {P : List VFnT} {lens : List Int} {c : VFnT} {bk at_ reg : Nat} {val0 f fuel : Int} {args : List Int} (hok : okR P lens f args fuel) (hc : P.getD f.toNat default = c) (hb : bk < c.blocks.length) (ha : at_ ≤ (cC c bk).ins.length) (hd : ¬ pS c bk at_ reg) :
  ∀ k, ∃ j, j ≤ 2 * k ∧ SR3 c bk at_ (ldi reg val0) (itV P k (iniV P lens f args fuel)) (itV (P.set f.toNat (fH c bk at_ (ldi reg val0))) j (iniV (P.set f.toNat (fH c bk at_ (ldi reg val0))) lens f args fuel))
 | 0 => by
  have hf : f.toNat < P.length := by have := hok.2; omega
  refine ⟨0, Nat.le_refl _, ?_⟩
  refine SR3.mk' (low := []) (low' := []) fun _ => ⟨⟨rfl, rfl, rfl, .inr ⟨hc, ?_, ⟨fun _ => rfl, fun _ => ⟨fun _ => rfl, fun h => ?_, fun _ => .inl rfl⟩⟩, fun r _ _ => rfl⟩⟩, LR.nil _⟩
  ·
   exact (set_at hf).trans (if_pos rfl)
  ·
   have : (at_ : Int) < 0 := h
   omega
 | k + 1 => by
  obtain ⟨j, hj, h⟩ := sim_it hok hc hb ha hd k
  have hf : f.toNat < P.length := by have := hok.2; omega
  have hr := it_ok hok k
  show ∃ j', _ ∧ SR3 c bk at_ (ldi reg val0) (if (itV P k (iniV P lens f args fuel)).over then itV P k (iniV P lens f args fuel) else dW P (itV P k (iniV P lens f args fuel))) _
  generalize itV P k (iniV P lens f args fuel) = s at h hr ⊢
  generalize hi : iniV (P.set f.toNat (fH c bk at_ (ldi reg val0))) lens f args fuel = ini at h ⊢
  by_cases ho : s.over = true
  ·
   exact ⟨j, by omega, by rw [if_pos ho]; exact h⟩
  ·
   rw [if_neg ho]
   have ho : s.over = false := by simpa using ho
   generalize hs' : itV (P.set f.toNat (fH c bk at_ (ldi reg val0))) j ini = s' at h
   obtain ⟨low, x, cells, A, over, kind, cd, out, val⟩ := s
   obtain ⟨low', y, cells', z, over', kind', cd', out', val'⟩ := s'
   obtain ⟨T, U, V, Z, g5, g6, g7, I⟩ := h
   obtain ⟨hF, hL⟩ := I ho
   have k1 : cells' = cells := T
   have k2 : z = A := U
   have k3 : over' = over := V
   have k4 : kind' = kind := Z
   have k5 : cd' = cd := g5
   have k6 : out' = out := g6
   have k7 : val' = val := g7
   have k8 : over = false := ho
   clear I
   subst k1 k2 k3 k4 k5 k6 k7 k8
   obtain ⟨e, y', he, hst, q1, q2, q3, q4⟩ := prep (Q := P.set f.toNat (fH c bk at_ (ldi reg val0))) (low' := low') (cells := cells') (fuel := z) (kind := kind') (cd := cd') (out := out') (val := val') hb ha hd hr.top hF
   have J := sim_ready (jD hok.1) hf hc hb ha hr q1 q2 q3 q4 hL
   refine ⟨j + e + 1, by omega, ?_⟩
   have O : itV (P.set f.toNat (fH c bk at_ (ldi reg val0))) (j + e + 1) ini = dW (P.set f.toNat (fH c bk at_ (ldi reg val0))) ⟨low', y', cells', z, false, kind', cd', out', val'⟩ := by
    show (if (itV (P.set f.toNat (fH c bk at_ (ldi reg val0))) (j + e) ini).over then _ else dW _ (itV (P.set f.toNat (fH c bk at_ (ldi reg val0))) (j + e) ini)) = _
    rw [iG, hs', hst]; rfl
   rw [O]; exact J
section
variable {P : List VFnT} {lens : List Int} {c : VFnT} {bk at_ reg : Nat} {x : Int} {f : Nat}
theorem ko (hf : f < P.length) (hc : P.getD f default = c) (n : Nat) : ((P.set f (fH c bk at_ (ldi reg x))).getD n default).params = (P.getD n default).params := by
 rw [set_at hf]
 by_cases h : n = f
 ·
  rw [if_pos h, h, hc]; rfl
 ·
  rw [if_neg h]
theorem dead_vin {p r : Int} (hr : (reg : Int) < r) : eg p r (ldi reg x) = true := by
 unfold eg
 simp only [Bool.and_eq_true]
 refine ⟨⟨⟨⟨⟨⟨⟨rfl, rfl⟩, rfl⟩, rfl⟩, ?_⟩, rfl⟩, rfl⟩, rfl⟩
 exact gH.2 (.inl ⟨rfl, by show (0 : Int) ≤ reg; omega, hr⟩)
theorem dead_mem {b : BlkT} {v : VInT} (h : v ∈ (insB b at_ (ldi reg x)).ins) : v ∈ b.ins ∨ v = ldi reg x := by
 rcases List.mem_append.1 (show v ∈ b.ins.take at_ ++ ([ldi reg x] ++ b.ins.drop at_) from h) with h | h
 ·
  exact .inl (List.mem_of_mem_take h)
 ·
  rcases List.mem_append.1 h with h | h
  ·
   exact .inr (List.mem_singleton.1 h)
  ·
   exact .inl (List.mem_of_mem_drop h)
theorem blkN_mem (hb : bk < c.blocks.length) : cC c bk ∈ c.blocks := by
 show c.blocks.getD bk default ∈ _
 rw [List.getD_eq_getElem?_getD, List.getElem?_eq_getElem hb]; exact List.getElem_mem _
theorem dead_val (hb : bk < c.blocks.length) (hr : (reg : Int) < c.regs) (h : eL c = true) : eL (fH c bk at_ (ldi reg x)) = true := by
 unfold eL at h ⊢
 rw [Bool.and_eq_true] at h ⊢
 have hl : (fH c bk at_ (ldi reg x)).blocks.length = c.blocks.length := List.length_set
 rw [hl]
 refine ⟨h.1, List.all_eq_true.2 fun b hbm => ?_⟩
 rcases List.mem_or_eq_of_mem_set hbm with hbm | rfl
 ·
  exact List.all_eq_true.1 h.2 b hbm
 ·
  have := List.all_eq_true.1 h.2 _ (blkN_mem hb)
  unfold jZ at this ⊢
  rw [Bool.and_eq_true] at this ⊢
  refine ⟨List.all_eq_true.2 fun v hv => ?_, this.2⟩
  rcases dead_mem hv with hv | rfl
  ·
   exact List.all_eq_true.1 this.1 v hv
  ·
   exact dead_vin hr
theorem dead_vp (hf : f < P.length) (hc : P.getD f default = c) (hb : bk < c.blocks.length) (hr : (reg : Int) < c.regs) (h : vpV P lens = true) : vpV (P.set f (fH c bk at_ (ldi reg x))) lens = true := by
 unfold vpV at h ⊢
 rw [Bool.and_eq_true, Bool.and_eq_true] at h ⊢
 have hI : ∀ v nl, vpI P nl v = true → vpI (P.set f (fH c bk at_ (ldi reg x))) nl v = true := fun v nl hv => by
  rw [kU] at hv ⊢
  rw [List.length_set, ko hf hc]; exact hv
 have hB : ∀ b nl, vpB P nl b = true → vpB (P.set f (fH c bk at_ (ldi reg x))) nl b = true := fun b nl hv => by
  unfold vpB at hv ⊢
  exact List.all_eq_true.2 fun v hm => hI v nl (List.all_eq_true.1 hv v hm)
 have hcm : c ∈ P := by rw [← hc, List.getD_eq_getElem?_getD, List.getElem?_eq_getElem hf]; exact List.getElem_mem _
 refine ⟨⟨by rw [List.length_set]; exact h.1.1, h.1.2⟩, List.all_eq_true.2 fun y hy => ?_⟩
 rcases List.mem_or_eq_of_mem_set hy with hy | rfl
 ·
  have := List.all_eq_true.1 h.2 y hy
  unfold vpF at this
  rw [Bool.and_eq_true] at this
  exact vpF_yes this.1 (List.all_eq_true.2 fun b hbm => hB b _ (List.all_eq_true.1 this.2 b hbm))
 ·
  have := List.all_eq_true.1 h.2 c hcm
  unfold vpF at this
  rw [Bool.and_eq_true] at this
  refine vpF_yes (dead_val hb hr this.1) (List.all_eq_true.2 fun b hbm => ?_)
  rcases List.mem_or_eq_of_mem_set hbm with hbm | rfl
  ·
   exact hB b _ (List.all_eq_true.1 this.2 b hbm)
  ·
   have z := List.all_eq_true.1 this.2 _ (blkN_mem hb)
   unfold vpB at z ⊢
   refine List.all_eq_true.2 fun v hv => ?_
   rcases dead_mem hv with hv | rfl
   ·
    exact hI v _ (List.all_eq_true.1 z v hv)
   ·
    rfl
theorem dead_run {g fuel : Int} {args : List Int} (hv : 0 ≤ g ∧ g < (P.length : Int)) (hc : P.getD g.toNat default = c) (hb : bk < c.blocks.length) (ha : at_ ≤ (cC c bk).ins.length) (hr : (reg : Int) < c.regs) (hd : ¬ pS c bk at_ reg) {s : RunS} (h : runV P lens g args fuel 100 = some s) :
  ∃ t, runV (P.set g.toNat (fH c bk at_ (ldi reg x))) lens g args fuel 300 = some t ∧ t.kind = s.kind ∧ t.code = s.code ∧ t.out = s.out ∧ t.val = s.val := by
 have hf : g.toNat < P.length := by omega
 unfold runV at h
 by_cases hk : okR P lens g args fuel ∧ (itV P (100 : Int).toNat (iniV P lens g args fuel)).over = true
 ·
  rw [if_pos hk] at h
  obtain ⟨j, hj, z⟩ := sim_it (val0 := x) hk.1 hc hb ha hd 100
  have ho : (itV (P.set g.toNat (fH c bk at_ (ldi reg x))) j (iniV (P.set g.toNat (fH c bk at_ (ldi reg x))) lens g args fuel)).over = true := by rw [z.over]; exact hk.2
  have e := ll ho (300 - j)
  rw [show j + (300 - j) = 300 by omega] at e
  have A : okR (P.set g.toNat (fH c bk at_ (ldi reg x))) lens g args fuel := by
   obtain ⟨I, J, O, T, U⟩ := hk.1
   exact ⟨dead_vp hf hc hb hr I, J, by rw [List.length_set]; exact O, by rw [ko hf hc]; exact T, U⟩
  refine ⟨_, by unfold runV; exact if_pos ⟨A, by show (itV _ 300 _).over = true; rw [e]; exact ho⟩, ?_⟩
  show (itV _ 300 _).kind = _ ∧ (itV _ 300 _).code = _ ∧ (itV _ 300 _).out = _ ∧ (itV _ 300 _).val = _
  rw [e]
  have hs : itV P 100 (iniV P lens g args fuel) = s := Option.some.inj h
  rw [hs] at z
  exact ⟨z.kind, z.code, z.out, z.val⟩
 ·
  rw [if_neg hk] at h; cases h
end
end Go.Proofs.YtlabedbmgmfbaaaDoor.jg
