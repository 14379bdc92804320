/-
  Steps that turn memory, each with what it leaves: for plain regions and for regions that draw.
  No condition beyond those that each statement names.
-/
import Derived.Test.YtcakpkdeojhacaaRxB
noncomputable section
namespace Go.R

theorem agN {f : Fn} : agrees f [] := trivial
theorem agC {f : Fn} {i : Nat} {v : Value} {l : List (Nat × Value)} (h : f i = v) (t : agrees f l) : agrees f ((i, v) :: l) := ⟨h, t⟩
theorem okD_v {ops : Array Oper} {i : Nat} : ∀ D, okD ops i .v D
  | [] => trivial
  | (_, e) :: D => ⟨.inr (by cases e <;> trivial), okD_v D⟩
theorem HC.mono {F F' : Fz} (hF : F.le F') {b o : Nat} {cs : List Value} (h : HC F b o cs) : HC F' b o cs := by
  obtain ⟨all, opn, ro, h1, h2⟩ := h
  exact ⟨all, opn, ro, hF _ _ h1, h2⟩

/-- What a step leaves: a value, the heap, an owner's blocks. -/
structure Rs where
  v : Value
  H : Heap
  p : Fp

section
variable {P : Program} {G : Nat} {K : Known} {sz : Nat} {Q : Ex → Fn → Heap → Prop} {ops : Array Oper} {D : List (Nat × ID)} {i : Nat} {os : List Oper} {k : List Fr} {f : Fn} {H H1 : Heap} {v : Value}
  {d : Tmp} {op : Op} {ty : TypeId} {pos : String} {af : Array Edge} {Φ : Rs → Prop}
theorem wo_rs (ha : ∃ r : Rs, AP P (aevF f) ⟨some d, op, ty, pos, af, none⟩ H (.val r.v, r.H) ∧ Φ r) (ho : op.operands.toList.all (opnOK G) = true) (hd : Nat.ble (d + 1) sz = true)
    (h : ∀ v H1 p, Φ ⟨v, H1, p⟩ → WO P G K sz ops os k (upd f d v) H1 Q) : WO P G K sz ops (⟨some d, op, ty, pos, af, none⟩ :: os) k f H Q := by
  obtain ⟨⟨v, H1, p⟩, h1, h2⟩ := ha
  exact wo_val h1 ho hd (h v H1 p h2)
theorem wo_rk (ha : ∃ r : Rs, AP P (aevF f) ⟨none, op, ty, pos, af, none⟩ H (.skip, r.H) ∧ Φ r) (ho : op.operands.toList.all (opnOK G) = true)
    (h : ∀ v H1 p, Φ ⟨v, H1, p⟩ → WO P G K sz ops os k f H1 Q) : WO P G K sz ops (⟨none, op, ty, pos, af, none⟩ :: os) k f H Q := by
  obtain ⟨⟨v, H1, p⟩, h1, h2⟩ := ha
  exact wo_skip h1 ho (h v H1 p h2)
theorem wf_rs {id : ID} (ha : ∃ r : Rs, AP P (aevF f) ⟨some d, op, ty, pos, af, none⟩ { H with log := [] } (.val r.v, r.H) ∧ Φ r) (ho : op.operands.toList.all (opnOK G) = true) (hd : Nat.ble (d + 1) sz = true)
    (hid : ∀ v H1 p, Φ ⟨v, H1, p⟩ → Did ops f ⟨some d, op, ty, pos, af, none⟩ H.next H1.log id) (hok : okD ops i id D)
    (h : ∀ v H1 p, Φ ⟨v, H1, p⟩ → ∀ l, (∀ b, b ∈ l → b ∈ H1.log ∨ b ∈ H.log) → WF2 P G K sz ops ((i, id) :: D) (i + 1) os k (upd f d v) { H1 with log := l } Q) :
    WF2 P G K sz ops D i (⟨some d, op, ty, pos, af, none⟩ :: os) k f H Q := by
  obtain ⟨⟨v, H1, p⟩, h1, h2⟩ := ha
  exact wf_val h1 ho hd (hid v H1 p h2) hok (h v H1 p h2)
theorem wf_rk {id : ID} (ha : ∃ r : Rs, AP P (aevF f) ⟨none, op, ty, pos, af, none⟩ { H with log := [] } (.skip, r.H) ∧ Φ r) (ho : op.operands.toList.all (opnOK G) = true)
    (hid : ∀ v H1 p, Φ ⟨v, H1, p⟩ → Did ops f ⟨none, op, ty, pos, af, none⟩ H.next H1.log id) (hok : okD ops i id D)
    (h : ∀ v H1 p, Φ ⟨v, H1, p⟩ → ∀ l, (∀ b, b ∈ l → b ∈ H1.log ∨ b ∈ H.log) → WF2 P G K sz ops ((i, id) :: D) (i + 1) os k f { H1 with log := l } Q) :
    WF2 P G K sz ops D i (⟨none, op, ty, pos, af, none⟩ :: os) k f H Q := by
  obtain ⟨⟨v, H1, p⟩, h1, h2⟩ := ha
  exact wf_skip h1 ho (hid v H1 p h2) hok (h v H1 p h2)
end

section
variable {α : Type} [Rp α] {P : Program} {ρ : Operand → Value} {d : Option Tmp} {ty : TypeId} {pos : String} {af : Array Edge} {gd : Option (Nat × Bool)} {B : Base} {F : Fz} {H : Heap} {L R : List Fp} {v : Value} {l : List α} {p : Fp}
/-- What was written: what had been written before, new blocks, W's. -/
def Wr (H H1 : Heap) (W : List Nat) : Prop := ∀ b, b ∈ H1.log → b ∈ H.log ∨ H.next ≤ b ∨ b ∈ W
theorem Wr.did {H1 : Heap} {W : List Nat} (h : Wr { H with log := [] } H1 W) : ∀ b, b ∈ H1.log → H.next ≤ b ∨ b ∈ W := fun b hb => by
  rcases h b hb with h | h | h
  · simp at h
  · exact .inl h
  · exact .inr h
theorem Wr.nil {H1 : Heap} (h : ∀ b, b ∈ H1.log → b ∈ H.log) : Wr H H1 [] := fun b hb => .inl (h b hb)
/-- The log behind a step of a region that draws. -/
theorem HS.lg {B : Base} {F F0 : Fz} {H0 H1 : Heap} {L L0 R R0 : List Fp} (h : HS B F H1 L R) (h0 : HS B F0 H0 L0 R0) {l : List Nat} (hl : ∀ b, b ∈ l → b ∈ H1.log ∨ b ∈ H0.log) : HS B F { H1 with log := l } L R :=
  h.relog fun b hb => by
    rcases hl b hb with h1 | h1
    · exact h.log b h1
    · exact h0.log b h1
/-- As a call that owns one alone. -/
theorem HS.wr {H1 : Heap} {i : Nat} {p q : Fp} (h : HS B F H L R) (hi : L[i]? = some p) (step : HS (.of H (p.map Prod.fst)) F H [p] (L.set i [] ++ R) → ∃ F', F.le F' ∧ HS (.of H (p.map Prod.fst)) F' H1 [q] (L.set i [] ++ R)) :
    ∃ F', F.le F' ∧ HS B F' H1 (L.set i q) R ∧ Wr H H1 (p.map Prod.fst) := by
  obtain ⟨F', h1, h2⟩ := step (h.callOwn hi)
  refine ⟨F', h1, ?_, fun b hb => h2.log b hb⟩
  have := h.backOwn (M := []) hi rfl (fun b hb => hb) h2
  simpa using this

theorem rs_new {e : TypeId} {z : List Value} (hs : HS B F H L R) (hz : zeroOf P e = some z) :
    ∃ r : Rs, AP P ρ ⟨d, .alloc e, ty, pos, af, gd⟩ H (.val r.v, r.H) ∧ (∃ b, r.v = .pointer (some ⟨b, 0, none⟩) ∧ HS B F r.H (L ++ [[(b, .cells z none false)]]) R ∧ Wr H r.H []) :=
  ⟨⟨_, _, []⟩, ap_alloc hz, _, rfl, hs.push _, .nil fun b hb => by simpa using hb⟩
theorem rs_box {e : TypeId} {x : Operand} {u : Value} {cs : List Value} (hs : HS B F H L R) (hx : ρ x = u) (hc : u.cells.toList = cs) :
    ∃ r : Rs, AP P ρ ⟨d, .box e x, ty, pos, af, gd⟩ H (.val r.v, r.H) ∧ (∃ b, r.v = .pointer (some ⟨b, 0, none⟩) ∧ HS B F r.H (L ++ [[(b, .cells cs none false)]]) R ∧ Wr H r.H []) :=
  ⟨⟨_, _, []⟩, ap_box (by rw [hx]; exact hc), _, rfl, hs.push _, .nil fun b hb => by simpa using hb⟩
theorem rs_make {t e : TypeId} {li ci : Operand} {kl kc : IntKind} {n : Int} {z : List Value} (z0 : α) {by_ : Nat} (hs : HS B F H L R) (hl : ρ li = .int kl n) (hc : ρ ci = .int kc n) (ht : P.underlying t = some (.slice e)) (hz : szOf P e = some (Rp.sz α)) (hby : bytesOf P e = some by_) (hzz : zeroOf P e = some z)
    (hzl : Nat.beq (lenL z) (Rp.sz α) = true) (hb4 : Nat.ble by_ 4096 = true) (hz0 : Nat.beq (Rp.sz α) 0 = false) (hr : Rp.rep F z z0) (h0 : 0 ≤ n) (hn : n ≤ 2147483648) :
    ∃ r : Rs, AP P ρ ⟨d, .makeSlice t li ci, ty, pos, af, gd⟩ H (.val r.v, r.H) ∧ (∃ a k, r.v = .slice a (List.replicate n.toNat z0).length k ∧ OS F (.slice a (List.replicate n.toNat z0).length k) (List.replicate n.toNat z0) r.p ∧ HS B F r.H (L ++ [r.p]) R ∧ Wr H r.H []) := by
  obtain ⟨a, k, H1, p', h1, h2, h3, h4⟩ := os_make (d := d) (ty := ty) (pos := pos) (af := af) (gd := gd) hs hl hc ht hz hby hzz hzl hb4 hz0 hr h0 hn
  exact ⟨⟨_, H1, p'⟩, h1, a, k, rfl, h2, h3, .nil h4⟩
theorem rs_lit {t : TypeId} {n : Nat} {z : List Value} {parts : Array (Nat × Operand)} {ps : List (Nat × Value)} {cells : List Value} (l : List α) (hs : HS B F H L R) (hps : mapL (fun p => (p.1, ρ p.2)) parts.toList = ps) (hi : sliceInfo P t = some (Rp.sz α, z)) (hn : Nat.ble (n * Rp.sz α) 16777216 = true)
    (hf : Instr.fill (fun i => some (i * Rp.sz α, Rp.sz α)) ⟨copies n z⟩ ps = some ⟨cells⟩) (hr : RL F cells l) (hl : l.length = n) :
    ∃ r : Rs, AP P ρ ⟨d, .buildSlice t n parts, ty, pos, af, gd⟩ H (.val r.v, r.H) ∧ (∃ a k, r.v = .slice a l.length k ∧ OS F (.slice a l.length k) l r.p ∧ HS B F r.H (L ++ [r.p]) R ∧ Wr H r.H []) := by
  subst hps
  obtain ⟨a, H1, p', h1, h2, h3, h4⟩ := os_lit (d := d) (ty := ty) (pos := pos) (af := af) (gd := gd) hs hi hn hf hr hl
  exact ⟨⟨_, H1, p'⟩, h1, a, n, by rw [hl], by rw [hl]; exact h2, h3, .nil h4⟩
theorem rs_cut {x : Operand} {lo hi : Option Operand} {t e : TypeId} {i j : Nat} (h : SR F v l) (hs : HS B F H L R) (hx : ρ x = v) (ht : P.underlying t = some (.slice e)) (hz : szOf P e = some (Rp.sz α))
    (h1 : optNat l.length (hi.map ρ) = some j) (h2 : optNat 0 (lo.map ρ) = some i) (hij : i ≤ j) (hj : j ≤ l.length) :
    ∃ r : Rs, AP P ρ ⟨d, .slice t x lo hi none, ty, pos, af, gd⟩ H (.val r.v, r.H) ∧ (∃ a k, r.v = .slice a ((l.take j).drop i).length k ∧ r.H = H ∧ SR F (.slice a ((l.take j).drop i).length k) ((l.take j).drop i)) := by
  obtain ⟨a, k, g1, g2⟩ := sr_cut (d := d) (ty := ty) (pos := pos) (af := af) (gd := gd) h hs hx ht hz h1 h2 hij hj
  exact ⟨⟨_, H, []⟩, g1, a, k, rfl, rfl, g2⟩
theorem rs_cutO {x : Operand} {lo hi : Option Operand} {t e : TypeId} {i j q : Nat} (h : OS F v l p) (hs : HS B F H L R) (hq : L[q]? = some p) (hx : ρ x = v) (ht : P.underlying t = some (.slice e)) (hz : szOf P e = some (Rp.sz α))
    (h1 : optNat l.length (hi.map ρ) = some j) (h2 : optNat 0 (lo.map ρ) = some i) (hij : i ≤ j) (hj : j ≤ l.length) :
    ∃ r : Rs, AP P ρ ⟨d, .slice t x lo hi none, ty, pos, af, gd⟩ H (.val r.v, r.H) ∧ (∃ a k, r.v = .slice a ((l.take j).drop i).length k ∧ r.H = H ∧ OS F (.slice a ((l.take j).drop i).length k) ((l.take j).drop i) p) := by
  obtain ⟨a, k, g1, g2⟩ := os_cut (d := d) (ty := ty) (pos := pos) (af := af) (gd := gd) h hs hq hx ht hz h1 h2 hij hj
  exact ⟨⟨_, H, []⟩, g1, a, k, rfl, rfl, g2⟩
theorem rs_app {s0 x0 : Operand} {st e : TypeId} {u : Value} {l2 : List α} {q by_ : Nat} {z : List Value} (h : OS F v l p) (hs : HS B F H L R) (hq : L[q]? = some p) (hx : ρ s0 = v) (hy : ρ x0 = u) (hu : Sv F H.get u l2) (ht : P.underlying st = some (.slice e))
    (hz : szOf P e = some (Rp.sz α)) (hby : bytesOf P e = some by_) (hzz : zeroOf P e = some z) (hzl : Nat.beq (lenL z) (Rp.sz α) = true) (hb4 : Nat.ble by_ 4096 = true) (hz0 : Nat.beq (Rp.sz α) 0 = false) (hlen : l.length + l2.length ≤ 2147483648) :
    ∃ r : Rs, AP P ρ ⟨d, .call ⟨.builtin .append, #[s0, x0], #[st, st]⟩, ty, pos, af, gd⟩ H (.val r.v, r.H) ∧ (∃ a k, r.v = .slice a (l ++ l2).length k ∧ OS F (.slice a (l ++ l2).length k) (l ++ l2) r.p ∧ HS B F r.H (L.set q r.p) R ∧ Wr H r.H (p.map Prod.fst)) := by
  have hc := hs.callOwn hq
  obtain ⟨a, k, H1, p', h1, h2, h3⟩ := os_app (d := d) (ty := ty) (pos := pos) (af := af) (gd := gd) (q := 0) h hc rfl hx hy hu ht hz hby hzz hzl hb4 hz0 hlen
  have h4 := hs.backOwn (M := []) hq rfl (fun b hb => hb) h3
  exact ⟨⟨_, H1, p'⟩, h1, a, k, rfl, h2, by simpa using h4, fun b hb => h3.log b hb⟩
theorem rs_st {t : TypeId} {a0 x0 : Operand} {j q off n b o : Nat} {w : Value} {y : α} (y' : α) {cl : List Value} (h : OS F v l p) (hs : HS B F H L R) (hq : L[q]? = some p) (ha : ρ a0 = .pointer (some ⟨b, o, none⟩)) (hb : b = sB v) (ho : o = sO v + j * Rp.sz α + off) (hx : ρ x0 = w) (hn : szOf P t = some n) (hc : w.cells.toList = cl) (hl : Nat.beq cl.length n = true)
    (hy : l[j]? = some y) (h1 : allL Value.oneCell' cl = true) (hr : ∀ cs, Rp.rep F cs y → off + cl.length ≤ cs.length ∧ Rp.rep F (splice cs off cl) y') :
    ∃ r : Rs, AP P ρ ⟨d, .store t a0 x0, ty, pos, af, gd⟩ H (.skip, r.H) ∧ (OS F v (l.set j y') r.p ∧ HS B F r.H (L.set q r.p) R ∧ Wr H r.H (p.map Prod.fst)) := by
  have hcc := hs.callOwn hq
  obtain ⟨H1, p', g1, g2, g3, _⟩ := os_st (d := d) (ty := ty) (pos := pos) (af := af) (gd := gd) (q := 0) h hcc rfl ha hb ho hx hn hc hl hy h1 hr
  have h4 := hs.backOwn (M := []) hq rfl (fun b hb => hb) g3
  exact ⟨⟨.bool true, H1, p'⟩, g1, g2, by simpa using h4, fun b hb => g3.log b hb⟩
theorem rs_rec {t : TypeId} {a0 x0 : Operand} {q n b o : Nat} {w : Value} {cl cs cs' : List Value} (hs : HS B F H L R) (hq : L[q]? = some [(b, .cells cs none false)]) (ha : ρ a0 = .pointer (some ⟨b, o, none⟩)) (hx : ρ x0 = w) (hn : szOf P t = some n) (hc : w.cells.toList = cl) (hl : Nat.beq cl.length n = true)
    (hb : Nat.ble (o + cl.length) cs.length = true) (h1 : allL Value.oneCell' cl = true) (he : splice cs o cl = cs') :
    ∃ r : Rs, AP P ρ ⟨d, .store t a0 x0, ty, pos, af, gd⟩ H (.skip, r.H) ∧ (HS B F r.H (L.set q [(b, .cells cs' none false)]) R ∧ Wr H r.H [b]) := by
  have hcc := hs.callOwn hq
  obtain ⟨H1, g1, g2⟩ := hcc.st (i := 0) rfl hb h1 he
  have h4 := hs.backOwn (M := []) hq rfl (fun b hb => hb) g2
  exact ⟨⟨.bool true, H1, []⟩, ap_st ha hx hn hc hl g1, by simpa using h4, fun b hb => g2.log b hb⟩
end
theorem flat_sub {β : Type} {L' L : List (List β)} (h : List.Sublist L' L) : List.Sublist L'.flatten L.flatten := by
  induction h with
  | slnil => exact List.Sublist.refl _
  | cons a _ ih => rw [List.flatten_cons]; exact ih.trans (List.sublist_append_right _ _)
  | cons_cons a _ ih => rw [List.flatten_cons, List.flatten_cons]; exact (List.Sublist.refl a).append ih
theorem HS.sub {B : Base} {F : Fz} {H : Heap} {L L' R : List Fp} (h : HS B F H L R) (hsub : List.Sublist L' L) : HS B F H L' R :=
  ⟨h.fz, fun p hp b o hb => h.own p (hp.imp (fun x => hsub.subset x) id) b o hb, ((flat_sub (hsub.append (List.Sublist.refl R))).map _).nodup h.nd, h.n0, h.log, fun p hp => h.mine p (hsub.subset hp)⟩
theorem HS.forget {B : Base} {F : Fz} {H : Heap} {L R : List Fp} (h : HS B F H L R) : HS B F H [] R := h.sub (List.nil_sublist _)
theorem HS.only {B : Base} {F : Fz} {H : Heap} {L R : List Fp} {p : Fp} (h : HS B F H L R) {i : Nat} (hi : L[i]? = some p) : HS B F H [p] R := h.sub (List.singleton_sublist.2 (List.mem_of_getElem? hi))
/-- What was frozen for a call alone is owned again. -/
theorem HS.thaw {B : Base} {F F1 F2 : Fz} {H H' : Heap} {L R : List Fp} {i : Nat} {p : Fp} (h : HS B F H L R) (hi : L[i]? = some p) (hF : F.le F1) (hp : ∀ b o, (b, o) ∈ p → F1 b = some o) (hF2 : F1.le F2) (k : HS B F2 H' (L.set i []) R) : HS B F H' L R := by
  obtain ⟨A, C, e1, e2⟩ := flat_sets L i p hi
  refine ⟨fun b o hb => k.fz b o (hF2 _ _ (hF _ _ hb)), fun x hx b o hb => ?_, h.nd, k.n0, k.log, h.mine⟩
  have hF0 := (h.own x hx b o hb).2.2
  by_cases hxp : x = p
  · subst hxp
    obtain ⟨g1, g2⟩ := k.fz b o (hF2 _ _ (hp b o hb))
    exact ⟨g1, g2, hF0⟩
  · have hk : x ∈ L.set i [] ∨ x ∈ R := by
      rcases hx with hx | hx
      · left
        rw [e2]
        rw [e1] at hx
        rcases List.mem_append.1 hx with hx | hx
        · exact List.mem_append.2 (.inl hx)
        · rcases List.mem_cons.1 hx with hx | hx
          · exact absurd hx hxp
          · exact List.mem_append.2 (.inr (List.mem_cons_of_mem _ hx))
      · exact .inr hx
    obtain ⟨g1, g2, _⟩ := k.own x hk b o hb
    exact ⟨g1, g2, hF0⟩
section
variable {α : Type} [Rp α] {F : Fz} {B : Base} {H : Heap} {L R : List Fp} {v : Value} {l : List α} {p : Fp}
/-- An owned slice is frozen, for good or for a call. -/
theorem OS.frz (h : OS F v l p) (hs : HS B F H L R) {i : Nat} (hi : L[i]? = some p) : ∃ F', F.le F' ∧ HS B F' H (L.set i []) R ∧ SR F' v l ∧ ∀ b o, (b, o) ∈ p → F' b = some o := by
  obtain ⟨F', h1, h2, h3⟩ := hs.freeze hi
  refine ⟨F', h1, h2, ?_, h3⟩
  rcases h with ⟨h4, h5, _⟩ | ⟨b, off, k, cs, opn, h4, h5, h6⟩
  · exact .inl ⟨h4, h5⟩
  · exact .inr ⟨b, off, k, _, h4, h3 b _ (by rw [h5]; simp), h6.mono h1⟩
end
theorem getD_at {β : Type} {l : List β} {j : Nat} {x : β} (h : j < l.length) : l[j]? = some (l.getD j x) := by
  rw [List.getD_eq_getElem?_getD, List.getElem?_eq_getElem h]; rfl
theorem w_tdiv {a b : Int} (ha : in64 a) (hb : b ≠ -1) : IntKind.i64.wrap (a.tdiv b) = a.tdiv b := by
  apply w_i64
  by_cases h0 : b = 0
  · subst h0; rw [Int.tdiv_zero]; decide
  · have h1 : (a.tdiv b).natAbs = a.natAbs / b.natAbs := Int.natAbs_tdiv a b
    by_cases h3 : b = 1
    · subst h3; rw [Int.tdiv_one]; exact ha
    · have h4 : 2 ≤ b.natAbs := by omega
      have h5 : (a.tdiv b).natAbs * 2 ≤ a.natAbs := by
        rw [h1]
        exact Nat.le_trans (Nat.mul_le_mul_left _ h4) (Nat.div_mul_le_self _ _)
      obtain ⟨h6, h7⟩ := ha
      clear h1
      constructor <;> omega
theorem tup2 {a b c d : Value} (h1 : a = c) (h2 : b = d) : Value.tuple ⟨[a, b]⟩ = .tuple ⟨[c, d]⟩ := by rw [h1, h2]
/-! Short names for what the printed proofs use most. -/
theorem BS : (∀ a b : Bool, ((a && b) = true) = (a = true ∧ b = true)) ∧ (∀ a b : Bool, ((a || b) = true) = (a = true ∨ b = true)) ∧ (∀ a b : Bool, ((a && b) = false) = (a = true → b = false)) ∧ (∀ a b : Bool, ((a || b) = false) = (a = false ∧ b = false)) ∧
    (∀ a : Bool, ((!a) = true) = (a = false)) ∧ (∀ a : Bool, ((!a) = false) = (a = true)) ∧ (∀ (q : Prop) [Decidable q], (decide q = true) = q) ∧ (∀ (q : Prop) [Decidable q], (decide q = false) = ¬ q) ∧
    (∀ a b : Int, ((a == b) = true) = (a = b)) ∧ (∀ a b : Int, ((a == b) = false) = (a ≠ b)) ∧ (∀ a b : Int, ((a != b) = true) = (a ≠ b)) ∧ (∀ a b : Int, ((a != b) = false) = (a = b)) ∧
    (∀ a b : List UInt8, ((a == b) = true) = (a = b)) ∧ (∀ a b : List UInt8, ((a == b) = false) = (a ≠ b)) ∧ (∀ a b : List UInt8, ((a != b) = true) = (a ≠ b)) ∧ (∀ a b : List UInt8, ((a != b) = false) = (a = b)) ∧
    (∀ a b : Bool, ((a == b) = true) = (a = b)) ∧ (∀ a b : Bool, ((a == b) = false) = (a ≠ b)) ∧ (∀ a b : Bool, ((a != b) = true) = (a ≠ b)) ∧ (∀ a b : Bool, ((a != b) = false) = (a = b)) := by
  refine ⟨?_, ?_, ?_, ?_, ?_, ?_, ?_, ?_, ?_, ?_, ?_, ?_, ?_, ?_, ?_, ?_, ?_, ?_, ?_, ?_⟩ <;> intros <;> simp
theorem BT : (∀ a : Bool, (true && a) = a) ∧ (∀ a : Bool, (false && a) = false) ∧ (∀ a : Bool, (a && true) = a) ∧ (∀ a : Bool, (a && false) = false) ∧ (∀ a : Bool, (true || a) = true) ∧ (∀ a : Bool, (false || a) = a) ∧ (∀ a : Bool, (a || true) = true) ∧ (∀ a : Bool, (a || false) = a) ∧ (!true) = false ∧ (!false) = true := by simp
theorem BC {α : Type} : (∀ a b : α, (bif true then a else b) = a) ∧ (∀ a b : α, (bif false then a else b) = b) := by simp
theorem Lr {lo hi : Nat} {ex : List Nat} {f : Fn} : Leaves lo hi ex f f := .refl
theorem Lu {lo hi : Nat} {ex : List Nat} {f f' : Fn} {i : Nat} {v : Value} (hi' : inR lo hi ex i = true) (h : Leaves lo hi ex f f') : Leaves lo hi ex f (upd f' i v) := .upd hi' h
section
variable {P : Program} {G : Nat} {K : Known} {sz : Nat} {Q : Ex → Fn → Heap → Prop} {ops : Array Oper} {D : List (Nat × ID)} {i : Nat} {os : List Oper} {k : List Fr} {f : Fn} {H H1 : Heap} {d : Tmp} {ty : TypeId} {pos : String} {af : Array Edge} {x : Operand}
theorem wm (v : Value) (hx : aevF f x = v) (ho : (Op.move x).operands.toList.all (opnOK G) = true) (hd : Nat.ble (d + 1) sz = true) (h : WO P G K sz ops os k (upd f d v) H Q) : WO P G K sz ops (⟨some d, .move x, ty, pos, af, none⟩ :: os) k f H Q := wo_val (ap_move hx) ho hd h
theorem wa (v : Value) (hx : aevF f x = v) (ho : (Op.assign x).operands.toList.all (opnOK G) = true) (hd : Nat.ble (d + 1) sz = true) (h : WO P G K sz ops os k (upd f d v) H Q) : WO P G K sz ops (⟨some d, .assign x, ty, pos, af, none⟩ :: os) k f H Q := wo_val (ap_assign hx) ho hd h
theorem fm (v : Value) (hx : aevF f x = v) (ho : (Op.move x).operands.toList.all (opnOK G) = true) (hd : Nat.ble (d + 1) sz = true) (h : WF2 P G K sz ops ((i, .v) :: D) (i + 1) os k (upd f d v) H Q) : WF2 P G K sz ops D i (⟨some d, .move x, ty, pos, af, none⟩ :: os) k f H Q := wf_pure (ap_move hx) ho hd (did_v rfl) (okD_v _) h
theorem fa (v : Value) (hx : aevF f x = v) (ho : (Op.assign x).operands.toList.all (opnOK G) = true) (hd : Nat.ble (d + 1) sz = true) (h : WF2 P G K sz ops ((i, .v) :: D) (i + 1) os k (upd f d v) H Q) : WF2 P G K sz ops D i (⟨some d, .assign x, ty, pos, af, none⟩ :: os) k f H Q := wf_pure (ap_assign hx) ho hd (did_v rfl) (okD_v _) h
end
end Go.R
end
