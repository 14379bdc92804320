/-
 Plain laws: what the functions compute answers as the statement says. No condition beyond those that each statement names.
-/
import Derived.Test.YtlabedbmgmfbaaaDoorZDJA
import Derived.Test.YtlabedbmgmfbaaaDoorZDID
noncomputable section
namespace Go.Proofs.YtlabedbmgmfbaaaDoor.jf
open Go.R m1 m2 m7 iw ia ib id_ ja
set_option linter.unusedVariables false
theorem iG {P : List VFnT} (a : Nat) (m : RunS) : ∀ b, itV P (a + b) m = itV P b (itV P a m)
 | 0 => rfl
 | b + 1 => by
  show (if (itV P (a + b) m).over then itV P (a + b) m else dW P (itV P (a + b) m)) = (if (itV P b (itV P a m)).over then itV P b (itV P a m) else dW P (itV P b (itV P a m)))
  rw [iG a m b]
theorem it_one {P : List VFnT} {m : RunS} (h : m.over = false) (b : Nat) : itV P (b + 1) m = itV P b (dW P m) := by
 rw [Nat.add_comm, iG 1 m b]
 show itV P b (if m.over then m else dW P m) = _
 rw [if_neg (by rw [h]; decide)]
def Mst (s : IntS) (low : List CalT) (top : CalT) : RunS := ⟨low, top, s.cells, s.fuel, s.over, s.kind, s.code, s.out, 0⟩
structure Res (P : List VFnT) (n : Nat) (low : List CalT) (to : Int) (m : RunS) (t : IntS × Int) : Prop where
 long : t.1.long = true → (itV P n m).over = false
 over : t.1.long = false → t.1.over = true → ∃ j, j ≤ n ∧ (itV P j m).over = true ∧ (itV P j m).kind = t.1.kind ∧ (itV P j m).code = t.1.code ∧ (itV P j m).out = t.1.out ∧ (itV P j m).val = 0
 ret : t.1.long = false → t.1.over = false → ∃ j top, j + t.1.most.toNat = n ∧ top.to_ = to ∧ itV P j m = i0 (Mst t.1 low top) t.2
theorem Res.step {P : List VFnT} {n : Nat} {low : List CalT} {to : Int} {m m' : RunS} {t : IntS × Int} (ho : m.over = false) (hs : dW P m = m') (h : Res P n low to m' t) : Res P (n + 1) low to m t := by
 subst hs
 refine ⟨fun hl => by rw [it_one ho]; exact h.long hl, fun hl hv => ?_, fun hl hv => ?_⟩
 ·
  obtain ⟨j, A, z⟩ := h.over hl hv
  exact ⟨j + 1, by omega, by rw [it_one ho]; exact z⟩
 ·
  obtain ⟨j, top, A, z, I⟩ := h.ret hl hv
  exact ⟨j + 1, top, by omega, z, by rw [it_one ho]; exact I⟩
def RgE (c : VFnT) (r g : List Int) : Prop := (r.length : Int) = c.regs ∧ ∀ i : Int, 0 ≤ i → i < c.regs → rg r i = bB g i
theorem RgE.set {c : VFnT} {r g : List Int} (h : RgE c r g) {a x : Int} (ha : 0 ≤ a ∧ a < c.regs) : RgE c (r.set a.toNat x) (gD g a x) := by
 refine ⟨by rw [List.length_set]; exact h.1, fun i h0 z => ?_⟩
 have hl := h.1
 have e := h.2 i h0 z
 unfold bB gD
 unfold bB at e
 show (r.set a.toNat x).getD i.toNat 0 = _
 rw [List.getD_eq_getElem?_getD, List.getD_eq_getElem?_getD]
 by_cases hia : i = a
 ·
  subst hia
  rw [List.getElem?_set_self (by omega), List.getElem?_set_self (by rw [List.length_append, List.length_replicate]; omega)]
 ·
  rw [List.getElem?_set_ne (by omega), List.getElem?_set_ne (by omega), ← List.getD_eq_getElem?_getD, ← List.getD_eq_getElem?_getD]
  show rg r i = _
  rw [e]
  rw [List.getD_eq_getElem?_getD, List.getD_eq_getElem?_getD]
  rcases Nat.lt_or_ge i.toNat g.length with hg | hg
  ·
   rw [List.getElem?_append_left hg]
  ·
   rw [List.getElem?_eq_none hg, List.getElem?_append_right hg, List.getElem?_replicate]
   split <;> rfl
theorem rge_zero {c : VFnT} (h : 0 ≤ c.regs) : RgE c (List.replicate c.regs.toNat 0) [] := by
 refine ⟨by rw [List.length_replicate]; omega, fun i h0 z => ?_⟩
 show (List.replicate c.regs.toNat (0 : Int)).getD i.toNat 0 = 0
 rw [List.getD_eq_getElem?_getD, List.getElem?_replicate]
 split <;> rfl
theorem un_eq (a : Int) : unV 21 a = w64 (-1 - a) := by
 show aK .xor .i64 (-1) a = _
 rw [xor_bv]
 have e : bv (-1) ^^^ bv a = ~~~ bv a := by rw [BitVec.not_def]; rfl
 rw [e]; exact not_bv a
section
variable {P : List VFnT} {nc N : Nat}
theorem do_step {s : IntS} {low : List CalT} {c : VFnT} {r g args : List Int} {at_ to k : Int} {v : VInT} (hv : v = (c.blocks.getD at_.toNat default).ins.getD k.toNat default) (hk : k ≠ ((c.blocks.getD at_.toNat default).ins.length : Int)) (hI : InF P nc c v) (hR : InR c v) (h6 : v.i.op ≠ 6) (hr : RgE c r g) :
  ∃ g', dW P (Mst s low ⟨c, g, args, at_, k, to⟩) = Mst (doV (dec s) r args v.i).1 low ⟨c, g', args, at_, k + 1, to⟩ ∧ RgE c (doV (dec s) r args v.i).2 g' := by
 have hal := hI.al
 have e0 : dW P (Mst s low ⟨c, g, args, at_, k, to⟩) = j5 P (Mst s low ⟨c, g, args, at_, k + 1, to⟩) v := by
  unfold dW
  show (if k = ((c.blocks.getD at_.toNat default).ins.length : Int) then _ else j5 P _ ((c.blocks.getD at_.toNat default).ins.getD k.toNat default)) = _
  rw [if_neg hk, hv]; rfl
 rw [e0]
 unfold j5
 rw [if_neg (show ¬ v.i.op = 6 from h6)]
 by_cases J : v.i.op = 3
 ·
  rw [if_pos J]; unfold doV; rw [if_pos J]
  refine ⟨g, ?_, hr⟩
  show (if s.fuel = 0 then _ else _) = Mst (if s.fuel = 0 then _ else _) _ _
  by_cases hf : s.fuel = 0
  ·
   rw [if_pos hf, if_pos hf]; rfl
  ·
   rw [if_neg hf, if_neg hf]; rfl
 have ha := hR.a J
 have ea := hr.2 v.i.a ha.1 ha.2
 rw [if_neg J]
 by_cases T : v.i.op = 9
 ·
  rw [if_pos T]; unfold doV; rw [if_neg J, if_pos T]
  refine ⟨g, ?_, hr⟩
  rw [ea]; rfl
 rw [if_neg T]
 by_cases V : v.i.op = 13
 ·
  rw [if_neg (by omega)]; unfold fb doV
  (repeat (first | rw [if_pos V] | rw [if_neg (by omega)]))
  exact ⟨_, rfl, hr.set ha⟩
 by_cases ad : v.i.op = 38
 ·
  rw [if_neg (by omega)]; unfold fb doV
  (repeat (first | rw [if_pos ad] | rw [if_neg (by omega)]))
  exact ⟨_, rfl, hr.set ha⟩
 by_cases A : v.i.op = 15
 ·
  rw [if_neg (by omega)]; unfold fb doV
  (repeat (first | rw [if_pos A] | rw [if_pos (Or.inl A)] | rw [if_neg (by omega)]))
  refine ⟨_, rfl, ?_⟩
  unfold ru
  rw [if_pos A, ea]; exact hr.set ha
 by_cases O : v.i.op = 16
 ·
  rw [if_neg (by omega)]; unfold fb doV
  (repeat (first | rw [if_pos O] | rw [if_pos (Or.inr O)] | rw [if_neg (by omega)]))
  refine ⟨_, rfl, ?_⟩
  unfold ru
  show RgE c _ (gD g v.i.a (unV 21 (bB g v.i.a)))
  rw [if_neg A, ea, un_eq]; exact hr.set ha
 by_cases Z : v.i.op = 33
 ·
  rw [if_neg (by omega)]; unfold fb doV
  (repeat (first | rw [if_pos Z] | rw [if_neg (by omega)]))
  refine ⟨_, rfl, ?_⟩
  show RgE c _ (gD g v.i.a (w64 (bB g v.i.a + v.i.n)))
  rw [ea]; exact hr.set ha
 have hb := hR.b (by omega)
 have eb := hr.2 v.i.b hb.1 hb.2
 by_cases U : v.i.op = 10
 ·
  rw [if_neg (by omega)]; unfold fb doV
  (repeat (first | rw [if_pos U] | rw [if_neg (by omega)]))
  refine ⟨_, rfl, ?_⟩
  show RgE c _ (gD g v.i.a (bB g v.i.b))
  rw [eb]; exact hr.set ha
 by_cases z : v.i.op = 11 ∨ v.i.op = 12
 ·
  have hc := hR.cc z
  have ec := hr.2 v.i.c hc.1 hc.2
  rw [if_neg (by omega)]; unfold fb doV
  rw [ec, eb]
  show ∃ g', (if v.i.op = 10 then _ else if v.i.op = 11 then (if bB g v.i.c = 0 then _ else _) else if v.i.op = 12 then (if bB g v.i.c = 0 then _ else _) else _) = _ ∧ _
  by_cases hz : bB g v.i.c = 0
  ·
   rcases z with z | z
   ·
    (repeat (first | rw [if_pos z] | rw [if_pos hz] | rw [if_neg (by omega)]))
    exact ⟨_, rfl, hr.set ha⟩
   ·
    (repeat (first | rw [if_pos z] | rw [if_pos hz] | rw [if_neg (by omega)]))
    exact ⟨g, rfl, hr⟩
  ·
   rcases z with z | z
   ·
    (repeat (first | rw [if_pos z] | rw [if_neg hz] | rw [if_neg (by omega)]))
    exact ⟨g, rfl, hr⟩
   ·
    (repeat (first | rw [if_pos z] | rw [if_neg hz] | rw [if_neg (by omega)]))
    exact ⟨_, rfl, hr.set ha⟩
 by_cases I : v.i.op = 34 ∨ v.i.op = 35
 ·
  rw [if_pos I]; unfold doV
  (repeat (first | rw [if_pos I] | rw [if_neg (by omega)]))
  unfold accV iW
  rw [ea, eb]
  show ∃ g', (if ¬ (0 ≤ bB g v.i.b ∧ bB g v.i.b < ((s.cells.getD v.i.n.toNat default).length : Int)) then _ else if v.i.op = 34 then _ else _) = _ ∧ _
  by_cases hz : ¬ (0 ≤ bB g v.i.b ∧ bB g v.i.b < ((s.cells.getD v.i.n.toNat default).length : Int))
  ·
   rw [if_pos hz, if_pos (show ¬ (0 ≤ bB g v.i.b ∧ bB g v.i.b < (((dec s).cells.getD v.i.n.toNat default).length : Int)) from hz)]
   exact ⟨g, rfl, hr⟩
  ·
   rw [if_neg hz, if_neg (show ¬ ¬ (0 ≤ bB g v.i.b ∧ bB g v.i.b < (((dec s).cells.getD v.i.n.toNat default).length : Int)) from hz)]
   by_cases h : v.i.op = 34
   ·
    rw [if_pos h, if_pos h]; exact ⟨_, rfl, hr.set ha⟩
   ·
    rw [if_neg h, if_neg h]; exact ⟨g, rfl, hr⟩
 ·
  have e1 : doV (dec s) r args v.i = if (v.i.op = 20 ∨ v.i.op = 21) ∧ rg r v.i.b = 0 then (ist (dec s) 2 1, r) else (dec s, r.set v.i.a.toNat (binV (v.i.op - 13) (rg r v.i.a) (rg r v.i.b))) := by
   unfold doV
   (repeat (first | rw [if_neg I] | rw [if_neg (by omega)]))
  rw [if_neg I, e1]; unfold fb
  (repeat (first | rw [if_neg (by omega)]))
  rw [ea, eb, show v.i.op - 17 + 4 = v.i.op - 13 by omega]
  show ∃ g', (if (v.i.op = 20 ∨ v.i.op = 21) ∧ bB g v.i.b = 0 then _ else _) = _ ∧ _
  by_cases hz : (v.i.op = 20 ∨ v.i.op = 21) ∧ bB g v.i.b = 0
  ·
   rw [if_pos hz, if_pos hz]; exact ⟨g, rfl, hr⟩
  ·
   rw [if_neg hz, if_neg hz]; exact ⟨_, rfl, hr.set ha⟩
theorem go_over : ∀ (n : Nat) {s : IntS} {c : VFnT} {r args : List Int} {at_ : Int} {k : Nat}, (s.over = true ∨ s.long = true) → goV P n s c r args at_ k = (s, 0)
 | 0, _, _, _, _, _, _, _ => rfl
 | n + 1, _, _, _, _, _, _, h => by unfold goV; rw [if_pos h]
theorem get_lim (hp : PrF P nc) {c : VFnT} (hc : c ∈ P) {a : Int} (ha : 0 ≤ a ∧ a < (c.blocks.length : Int)) {k : Nat} (hk : k < (c.blocks.getD a.toNat default).ins.length) : InF P nc c ((c.blocks.getD a.toNat default).ins.getD k default) ∧ InR c ((c.blocks.getD a.toNat default).ins.getD k default) := by
 obtain ⟨z, A⟩ := hp.ins c hc a.toNat k (by omega) hk
 exact ⟨inF_of (hp.lim c hc).2.2.2.1 z A, inR_of z⟩
theorem end_reg {nb regs : Int} {b : BlkT} (h : fQ nb regs b = true) : b.fin = 2 ∨ b.fin = 3 → 0 ≤ b.reg ∧ b.reg < regs := by
 have := bE.1 h; omega
theorem res_long {n : Nat} {low : List CalT} {to : Int} {m : RunS} {s : IntS} {x : Int} (hn : n = 0) (ho : m.over = false) : Res P n low to m (lng s, x) := by
 subst hn
 exact ⟨fun _ => ho, fun h => (by cases h), fun h => (by cases h)⟩
theorem res_over {n : Nat} {low : List CalT} {to : Int} {m : RunS} {s : IntS} {x : Int} (hl : s.long = false) (hv : s.over = true) (h : m.over = true ∧ m.kind = s.kind ∧ m.code = s.code ∧ m.out = s.out ∧ m.val = 0) : Res P n low to m (s, x) :=
 ⟨fun z => (by rw [show s.long = true from z] at hl; cases hl), fun _ _ => ⟨0, Nat.zero_le _, h⟩, fun _ z => (by rw [show s.over = false from z] at hv; cases hv)⟩
theorem Res.bind {n : Nat} {low J : List CalT} {to O : Int} {m : RunS} {z t : IntS × Int} (h : Res P n J O m z) (hm : z.1.most.toNat ≤ n) (h1 : z.1.over = true ∨ z.1.long = true → t = (z.1, 0)) (h2 : z.1.over = false → z.1.long = false → ∀ top, top.to_ = O → Res P z.1.most.toNat low to (i0 (Mst z.1 J top) z.2) t) : Res P n low to m t := by
 cases hl : z.1.long with
 | true =>
  rw [h1 (.inr hl)]
  exact ⟨fun _ => h.long hl, fun A => (by rw [show z.1.long = false from A] at hl; cases hl), fun A => (by rw [show z.1.long = false from A] at hl; cases hl)⟩
 | false =>
  cases ho : z.1.over with
  | true =>
   rw [h1 (.inl ho)]
   exact ⟨fun A => (by rw [show z.1.long = true from A] at hl; cases hl), fun _ _ => h.over hl ho, fun _ A => (by rw [show z.1.over = false from A] at ho; cases ho)⟩
  | false =>
   obtain ⟨j, top, g1, g2, g3⟩ := h.ret hl ho
   have k := h2 ho hl top g2
   rw [← g3] at k
   refine ⟨fun I => ?_, fun I T => ?_, fun I T => ?_⟩
   ·
    have := k.long I
    rw [← iG, show j + z.1.most.toNat = n from g1] at this; exact this
   ·
    obtain ⟨U, q1, V⟩ := k.over I T
    exact ⟨j + U, by omega, by rw [iG]; exact V⟩
   ·
    obtain ⟨U, Z, q1, V, q3⟩ := k.ret I T
    exact ⟨j + U, Z, by omega, V, by rw [iG]; exact q3⟩
theorem jQ (hp : PrF P nc) : ∀ (n : Nat) (s : IntS) (c : VFnT) (r g args : List Int) (at_ : Int) (k : Nat) (low : List CalT) (to : Int), s.most.toNat + 1 < n → s.over = false → s.long = false → c ∈ P → 0 ≤ at_ ∧ at_ < (c.blocks.length : Int) → k ≤ (c.blocks.getD at_.toNat default).ins.length → RgE c r g →
  Res P s.most.toNat low to (Mst s low ⟨c, g, args, at_, k, to⟩) (goV P n s c r args at_ k)
 | 0, _, _, _, _, _, _, _, _, _, h, _, _, _, _, _, _ => by omega
 | n + 1, s, c, r, g, args, at_, k, low, to, hn, hso, hsl, hc, hb, hk, hr => by
  have hl := hp.lim c hc
  have hve := hp.fin c hc at_.toNat (by omega)
  have hf := jp hve hl.2.2.2.1
  have hd : (dec s).most = s.most - 1 := rfl
  have hdo : (dec s).over = false := hso
  have hdl : (dec s).long = false := hsl
  unfold goV
  rw [if_neg (by rw [hso, hsl]; decide)]
  by_cases A : k < (c.blocks.getD at_.toNat default).ins.length
  ·
   rw [if_pos A]
   by_cases hm : s.most ≤ 0
   ·
    rw [if_pos hm]; exact res_long (by omega) hso
   ·
    rw [if_neg hm]
    obtain ⟨hI, hR⟩ := get_lim hp hc hb A
    have hke : (k : Int) ≠ ((c.blocks.getD at_.toNat default).ins.length : Int) := by omega
    have hmm : s.most.toNat = (dec s).most.toNat + 1 := by omega
    by_cases U : ((c.blocks.getD at_.toNat default).ins.getD k default).i.op = 6
    ·
     rw [if_pos U, hmm]
     generalize hv : (c.blocks.getD at_.toNat default).ins.getD k default = v at *
     have hcl := hI.call U
     have Z := gh ⟨hcl.1, hcl.2.1⟩
     have ag := hp.lim _ Z
     have hra := hR.a (by omega)
     refine Res.step hso (m' := Mst (dec s) (low ++ [⟨c, g, args, at_, ((k + 1 : Nat) : Int), to⟩]) ⟨P.getD v.i.n.toNat default, [], v.args.map (rg r), 0, ((0 : Nat) : Int), v.i.a⟩) ?_ ?_
     ·
      unfold dW
      show (if (k : Int) = ((c.blocks.getD at_.toNat default).ins.length : Int) then _ else j5 P _ ((c.blocks.getD at_.toNat default).ins.getD ((k : Nat) : Int).toNat default)) = _
      rw [if_neg hke, show ((k : Nat) : Int).toNat = k by omega, hv]
      unfold j5
      rw [if_neg (by omega), if_pos U]
      have em : v.args.map (bB g) = v.args.map (rg r) := by
       refine List.map_congr_left fun a ha => ?_
       obtain ⟨j, hj, rfl⟩ := List.mem_iff_getElem.1 ha
       have := hR.arg j hj
       rw [List.getD_eq_getElem?_getD, List.getElem?_eq_getElem hj] at this
       exact (hr.2 _ this.1 this.2).symm
      rw [← em]; rfl
     ·
      have aj := jQ hp n (dec s) (P.getD v.i.n.toNat default) (List.replicate (P.getD v.i.n.toNat default).regs.toNat 0) [] (v.args.map (rg r)) 0 0 (low ++ [⟨c, g, args, at_, ((k + 1 : Nat) : Int), to⟩]) v.i.a (by omega) hdo hdl Z ⟨Int.le_refl 0, by omega⟩ (Nat.zero_le _) (rge_zero ag.2.2.1)
      have hgm := eR (P := P) n (dec s) (P.getD v.i.n.toNat default) (List.replicate (P.getD v.i.n.toNat default).regs.toNat 0) (v.args.map (rg r)) 0 0
      refine Res.bind aj (by omega) (fun h => go_over n h) fun z ad top htop => ?_
      have eb : ∀ J : IntS × Int, i0 (Mst J.1 (low ++ [⟨c, g, args, at_, ((k + 1 : Nat) : Int), to⟩]) top) J.2 = Mst J.1 low ⟨c, gD g v.i.a J.2, args, at_, ((k + 1 : Nat) : Int), to⟩ := fun J => by
       have hne : ¬ (Mst J.1 (low ++ [⟨c, g, args, at_, ((k + 1 : Nat) : Int), to⟩]) top).low = [] := by show ¬ (low ++ [_]) = []; simp
       unfold i0
       rw [if_neg hne]
       unfold Mst
       simp only [List.dropLast_concat, List.getLastD_concat, htop]
      rw [eb]
      exact jQ hp n _ c _ _ args at_ (k + 1) low to (by omega) z ad hc hb A (hr.set hra)
    ·
     rw [if_neg U, hmm]
     obtain ⟨g', e1, e2⟩ := do_step (P := P) (nc := nc) (s := s) (low := low) (c := c) (r := r) (g := g) (args := args) (at_ := at_) (to := to) (k := k) (v := (c.blocks.getD at_.toNat default).ins.getD k default) (by rw [show ((k : Nat) : Int).toNat = k by omega]) hke hI hR U hr
     refine Res.step hso e1 ?_
     have hdm := jT (s := dec s) (r := r) (args := args) (i := ((c.blocks.getD at_.toNat default).ins.getD k default).i)
     have V : (doV (dec s) r args ((c.blocks.getD at_.toNat default).ins.getD k default).i).1.long = false := by
      have : ∀ (s : IntS) (r : List Int) (i : InsT), (doV s r args i).1.long = s.long := fun s r i => by
       unfold doV iW
       simp only [apply_ite Prod.fst, apply_ite IntS.long, ite_self]
      rw [this]; exact hsl
     have hdv : (doV (dec s) r args ((c.blocks.getD at_.toNat default).ins.getD k default).i).1.most.toNat = (dec s).most.toNat := by rw [hdm]
     cases z : (doV (dec s) r args ((c.blocks.getD at_.toNat default).ins.getD k default).i).1.over with
     | true =>
      rw [go_over n (.inl z)]
      exact res_over V z ⟨z, rfl, rfl, rfl, rfl⟩
     | false =>
      rw [← hdv]
      exact jQ hp n _ c _ _ args at_ (k + 1) low to (by omega) z V hc hb A e2
  ·
   rw [if_neg A]
   have hke : (k : Int) = ((c.blocks.getD at_.toNat default).ins.length : Int) := by omega
   have es : dW P (Mst s low ⟨c, g, args, at_, k, to⟩) = kX (Mst s low ⟨c, g, args, at_, k, to⟩) (c.blocks.getD at_.toNat default) := by
    unfold dW
    show (if (k : Int) = ((c.blocks.getD at_.toNat default).ins.length : Int) then kX _ (c.blocks.getD at_.toNat default) else _) = _
    rw [if_pos hke]
   generalize hbv : c.blocks.getD at_.toNat default = bk at *
   by_cases hm : s.most ≤ 0
   ·
    rw [if_pos hm]; exact res_long (by omega) hso
   ·
    have hmm : s.most.toNat = (dec s).most.toNat + 1 := by omega
    rw [if_neg hm, hmm]
    refine Res.step hso es ?_
    unfold kX
    by_cases O : bk.fin = 1
    ·
     rw [if_pos O, if_pos O]
     exact jQ hp n (dec s) c r g args bk.tgt 0 low to (by omega) hdo hdl hc (hf.2.2.1 O) (Nat.zero_le _) hr
    ·
     rw [if_neg O, if_neg O]
     have hreg := end_reg hve
     by_cases I : bk.fin = 2
     ·
      have hq := hreg (.inl I)
      have e := hr.2 _ hq.1 hq.2
      have ht := hf.2.2.2.1 I
      rw [if_pos I, if_pos I, e]
      by_cases hz : bB g bk.reg = 0
      ·
       rw [if_pos hz]
       show Res P _ low to (goT (Mst s low ⟨c, g, args, at_, k, to⟩) (if bB g bk.reg ≠ 0 then bk.tgt else bk.els)) _
       rw [if_neg (fun h => h hz)]
       exact jQ hp n (dec s) c r g args bk.els 0 low to (by omega) hdo hdl hc ⟨ht.2.2.1, ht.2.2.2⟩ (Nat.zero_le _) hr
      ·
       rw [if_neg hz]
       show Res P _ low to (goT (Mst s low ⟨c, g, args, at_, k, to⟩) (if bB g bk.reg ≠ 0 then bk.tgt else bk.els)) _
       rw [if_pos hz]
       exact jQ hp n (dec s) c r g args bk.tgt 0 low to (by omega) hdo hdl hc ⟨ht.1, ht.2.1⟩ (Nat.zero_le _) hr
     ·
      rw [if_neg I, if_neg I]
      by_cases T : bk.fin = 3
      ·
       have hq := hreg (.inr T)
       have e := hr.2 _ hq.1 hq.2
       rw [if_pos T, if_pos T, e]
       exact ⟨fun h => (by rw [show (dec s).long = true from h] at hdl; cases hdl), fun _ h => (by rw [show (dec s).over = true from h] at hdo; cases hdo), fun _ _ => ⟨0, ⟨c, g, args, at_, k, to⟩, by rw [Nat.zero_add], rfl, rfl⟩⟩
      ·
       rw [if_neg T, if_neg T]
       exact res_over hsl rfl ⟨rfl, rfl, rfl, rfl, rfl⟩
end
end Go.Proofs.YtlabedbmgmfbaaaDoor.jf
