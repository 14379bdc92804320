/-
 Plain laws: what the functions compute answers as the statement says. No condition beyond those that each statement names.
-/
import Derived.Test.YtlabedbmgmfbaaaDoorZDIB
noncomputable section
namespace Go.Proofs.YtlabedbmgmfbaaaDoor.ja
open Go.R m1 m2 m7 iw ia ib
set_option linter.unusedVariables false
structure IntS where
 cells : List (List Int)
 fuel : Int
 most : Int
 out : List Int
 kind : Int
 code : Int
 over : Bool
 long : Bool
def ru (op a : Int) : Int := if op = 15 then w64 (0 - a) else w64 (-1 - a)
abbrev rg (r : List Int) (n : Int) : Int := r.getD n.toNat 0
abbrev ist (s : IntS) (k c : Int) : IntS := { s with over := true, kind := k, code := c }
abbrev lng (s : IntS) : IntS := { s with long := true }
abbrev dec (s : IntS) : IntS := { s with most := s.most - 1 }
def iW (s : IntS) (r : List Int) (i : InsT) : IntS × List Int :=
 if ¬ (0 ≤ rg r i.b ∧ rg r i.b < (s.cells.getD i.n.toNat default).length) then (ist s 2 2, r)
 else if i.op = 34 then (s, r.set i.a.toNat ((s.cells.getD i.n.toNat default).getD (rg r i.b).toNat 0))
 else ({ s with cells := s.cells.set i.n.toNat ((s.cells.getD i.n.toNat default).set (rg r i.b).toNat (rg r i.a)) }, r)
def doV (s : IntS) (r args : List Int) (i : InsT) : IntS × List Int :=
 if i.op = 3 then (if s.fuel = 0 then ist s 3 0 else { s with fuel := s.fuel - 1 }, r)
 else if i.op = 9 then ({ s with out := s.out ++ [rg r i.a] }, r)
 else if i.op = 10 then (s, r.set i.a.toNat (rg r i.b))
 else if i.op = 11 then (if rg r i.c = 0 then (s, r.set i.a.toNat (rg r i.b)) else (s, r))
 else if i.op = 12 then (if rg r i.c = 0 then (s, r) else (s, r.set i.a.toNat (rg r i.b)))
 else if i.op = 13 then (s, r.set i.a.toNat i.n)
 else if i.op = 15 ∨ i.op = 16 then (s, r.set i.a.toNat (ru i.op (rg r i.a)))
 else if i.op = 33 then (s, r.set i.a.toNat (w64 (rg r i.a + i.n)))
 else if i.op = 34 ∨ i.op = 35 then iW s r i
 else if i.op = 38 then (s, r.set i.a.toNat (args.getD i.n.toNat 0))
 else if (i.op = 20 ∨ i.op = 21) ∧ rg r i.b = 0 then (ist s 2 1, r)
 else (s, r.set i.a.toNat (binV (i.op - 13) (rg r i.a) (rg r i.b)))
def goV (P : List VFnT) : Nat → IntS → VFnT → List Int → List Int → Int → Nat → IntS × Int
 | 0, s, _, _, _, _, _ => (s, 0)
 | n + 1, s, c, r, args, at_, k =>
  if s.over = true ∨ s.long = true then (s, 0)
  else if k < (c.blocks.getD at_.toNat default).ins.length then
   if s.most ≤ 0 then (lng s, 0)
   else if ((c.blocks.getD at_.toNat default).ins.getD k default).i.op = 6 then
    goV P n (goV P n (dec s) (P.getD ((c.blocks.getD at_.toNat default).ins.getD k default).i.n.toNat default) (List.replicate (P.getD ((c.blocks.getD at_.toNat default).ins.getD k default).i.n.toNat default).regs.toNat 0) (((c.blocks.getD at_.toNat default).ins.getD k default).args.map (rg r)) 0 0).1 c
     (r.set ((c.blocks.getD at_.toNat default).ins.getD k default).i.a.toNat (goV P n (dec s) (P.getD ((c.blocks.getD at_.toNat default).ins.getD k default).i.n.toNat default) (List.replicate (P.getD ((c.blocks.getD at_.toNat default).ins.getD k default).i.n.toNat default).regs.toNat 0) (((c.blocks.getD at_.toNat default).ins.getD k default).args.map (rg r)) 0 0).2) args at_ (k + 1)
   else goV P n (doV (dec s) r args ((c.blocks.getD at_.toNat default).ins.getD k default).i).1 c (doV (dec s) r args ((c.blocks.getD at_.toNat default).ins.getD k default).i).2 args at_ (k + 1)
  else if s.most ≤ 0 then (lng s, 0)
  else if (c.blocks.getD at_.toNat default).fin = 1 then goV P n (dec s) c r args (c.blocks.getD at_.toNat default).tgt 0
  else if (c.blocks.getD at_.toNat default).fin = 2 then goV P n (dec s) c r args (if rg r (c.blocks.getD at_.toNat default).reg = 0 then (c.blocks.getD at_.toNat default).els else (c.blocks.getD at_.toNat default).tgt) 0
  else if (c.blocks.getD at_.toNat default).fin = 3 then (dec s, rg r (c.blocks.getD at_.toNat default).reg)
  else (ist (dec s) 2 (c.blocks.getD at_.toNat default).tgt, 0)
theorem jT {s : IntS} {r args : List Int} {i : InsT} : (doV s r args i).1.most = s.most := by
 unfold doV iW
 simp only [apply_ite Prod.fst, apply_ite IntS.most, ite_self]
theorem eR {P : List VFnT} : ∀ (n : Nat) (s : IntS) (c : VFnT) (r args : List Int) (at_ : Int) (k : Nat), (goV P n s c r args at_ k).1.most ≤ s.most
 | 0, s, _, _, _, _, _ => Int.le_refl _
 | n + 1, s, c, r, args, at_, k => by
  unfold goV
  split
  ·
   exact Int.le_refl _
  ·
   split
   ·
    split
    ·
     exact Int.le_refl _
    ·
     split
     ·
      have z := eR (P := P) n (dec s) (P.getD ((c.blocks.getD at_.toNat default).ins.getD k default).i.n.toNat default) (List.replicate (P.getD ((c.blocks.getD at_.toNat default).ins.getD k default).i.n.toNat default).regs.toNat 0) (((c.blocks.getD at_.toNat default).ins.getD k default).args.map (rg r)) 0 0
      have h0 : (dec s).most = s.most - 1 := rfl
      refine Int.le_trans (eR n _ _ _ _ _ _) ?_
      omega
     ·
      have h0 : (dec s).most = s.most - 1 := rfl
      have z := jT (s := dec s) (r := r) (args := args) (i := ((c.blocks.getD at_.toNat default).ins.getD k default).i)
      refine Int.le_trans (eR n _ _ _ _ _ _) ?_
      omega
   ·
    split
    ·
     exact Int.le_refl _
    ·
     have h0 : (dec s).most = s.most - 1 := rfl
     split
     ·
      refine Int.le_trans (eR n _ _ _ _ _ _) ?_; omega
     ·
      split
      ·
       refine Int.le_trans (eR n _ _ _ _ _ _) ?_; omega
      ·
       split
       ·
        show s.most - 1 ≤ s.most; omega
       ·
        show s.most - 1 ≤ s.most; omega
theorem ew {P : List VFnT} : ∀ (n m : Nat) (s : IntS) (c : VFnT) (r args : List Int) (at_ : Int) (k : Nat), s.most.toNat + 1 < n → s.most.toNat + 1 < m → goV P n s c r args at_ k = goV P m s c r args at_ k
 | 0, _, _, _, _, _, _, _, h, _ => by omega
 | _, 0, _, _, _, _, _, _, _, h => by omega
 | n + 1, m + 1, s, c, r, args, at_, k, hn, hm => by
  have h0 : (dec s).most = s.most - 1 := rfl
  unfold goV
  split
  ·
   rfl
  ·
   split
   ·
    split
    ·
     rfl
    ·
     split
     ·
      have e := ew (P := P) n m (dec s) (P.getD ((c.blocks.getD at_.toNat default).ins.getD k default).i.n.toNat default) (List.replicate (P.getD ((c.blocks.getD at_.toNat default).ins.getD k default).i.n.toNat default).regs.toNat 0) (((c.blocks.getD at_.toNat default).ins.getD k default).args.map (rg r)) 0 0 (by omega) (by omega)
      have z := eR (P := P) m (dec s) (P.getD ((c.blocks.getD at_.toNat default).ins.getD k default).i.n.toNat default) (List.replicate (P.getD ((c.blocks.getD at_.toNat default).ins.getD k default).i.n.toNat default).regs.toNat 0) (((c.blocks.getD at_.toNat default).ins.getD k default).args.map (rg r)) 0 0
      rw [e]
      exact ew n m _ _ _ _ _ _ (by omega) (by omega)
     ·
      have z := jT (s := dec s) (r := r) (args := args) (i := ((c.blocks.getD at_.toNat default).ins.getD k default).i)
      exact ew n m _ _ _ _ _ _ (by omega) (by omega)
   ·
    split
    ·
     rfl
    ·
     split
     ·
      exact ew n m _ _ _ _ _ _ (by omega) (by omega)
     ·
      split
      ·
       exact ew n m _ _ _ _ _ _ (by omega) (by omega)
      ·
       rfl
def gV (P : List VFnT) (s : IntS) (c : VFnT) (r args : List Int) (at_ : Int) (k : Nat) : IntS × Int := goV P (s.most.toNat + 2) s c r args at_ k
def ce (P : List VFnT) (s : IntS) (f : Int) (args : List Int) : IntS × Int := gV P s (P.getD f.toNat default) (List.replicate (P.getD f.toNat default).regs.toNat 0) args 0 0
def doC (P : List VFnT) (s : IntS) (r args : List Int) (v : VInT) : IntS × List Int :=
 if v.i.op = 6 then ((ce P s v.i.n (v.args.map (rg r))).1, r.set v.i.a.toNat (ce P s v.i.n (v.args.map (rg r))).2) else doV s r args v.i
section
variable {P : List VFnT} {s : IntS} {c : VFnT} {r args : List Int} {at_ : Int} {k : Nat}
theorem doC_most {v : VInT} : (doC P s r args v).1.most ≤ s.most := by
 unfold doC
 split
 ·
  exact eR _ _ _ _ _ _ _
 ·
  exact Int.le_of_eq jT
theorem iJ (h : s.over = true ∨ s.long = true) : gV P s c r args at_ k = (s, 0) := by
 unfold gV goV; rw [if_pos h]
theorem g_long (h : ¬ (s.over = true ∨ s.long = true)) (hm : s.most ≤ 0) : gV P s c r args at_ k = (lng s, 0) := by
 unfold gV goV; rw [if_neg h]
 split <;> first | rfl | rw [if_pos hm]
theorem g_ins (h : ¬ (s.over = true ∨ s.long = true)) (hk : k < (c.blocks.getD at_.toNat default).ins.length) (hm : ¬ s.most ≤ 0) :
  gV P s c r args at_ k = gV P (doC P (dec s) r args ((c.blocks.getD at_.toNat default).ins.getD k default)).1 c (doC P (dec s) r args ((c.blocks.getD at_.toNat default).ins.getD k default)).2 args at_ (k + 1) := by
 have h0 : (dec s).most = s.most - 1 := rfl
 unfold gV
 rw [goV, if_neg h, if_pos hk, if_neg hm]
 unfold doC
 split
 ·
  have e : goV P (s.most.toNat + 1) (dec s) (P.getD ((c.blocks.getD at_.toNat default).ins.getD k default).i.n.toNat default) (List.replicate (P.getD ((c.blocks.getD at_.toNat default).ins.getD k default).i.n.toNat default).regs.toNat 0) (((c.blocks.getD at_.toNat default).ins.getD k default).args.map (rg r)) 0 0 = ce P (dec s) ((c.blocks.getD at_.toNat default).ins.getD k default).i.n (((c.blocks.getD at_.toNat default).ins.getD k default).args.map (rg r)) := by
   unfold ce gV
   exact ew _ _ _ _ _ _ _ _ (by show (s.most - 1).toNat + 1 < _; omega) (by omega)
  rw [e]
  have z : (ce P (dec s) ((c.blocks.getD at_.toNat default).ins.getD k default).i.n (((c.blocks.getD at_.toNat default).ins.getD k default).args.map (rg r))).1.most ≤ (dec s).most := eR _ _ _ _ _ _ _
  exact ew _ _ _ _ _ _ _ _ (by omega) (by dsimp only; omega)
 ·
  have z := jT (s := dec s) (r := r) (args := args) (i := ((c.blocks.getD at_.toNat default).ins.getD k default).i)
  exact ew _ _ _ _ _ _ _ _ (by omega) (by omega)
theorem g_end (h : ¬ (s.over = true ∨ s.long = true)) (hk : ¬ k < (c.blocks.getD at_.toNat default).ins.length) (hm : ¬ s.most ≤ 0) :
  gV P s c r args at_ k = if (c.blocks.getD at_.toNat default).fin = 1 then gV P (dec s) c r args (c.blocks.getD at_.toNat default).tgt 0
  else if (c.blocks.getD at_.toNat default).fin = 2 then gV P (dec s) c r args (if rg r (c.blocks.getD at_.toNat default).reg = 0 then (c.blocks.getD at_.toNat default).els else (c.blocks.getD at_.toNat default).tgt) 0
  else if (c.blocks.getD at_.toNat default).fin = 3 then (dec s, rg r (c.blocks.getD at_.toNat default).reg)
  else (ist (dec s) 2 (c.blocks.getD at_.toNat default).tgt, 0) := by
 have h0 : (dec s).most = s.most - 1 := rfl
 unfold gV
 rw [goV, if_neg h, if_neg hk, if_neg hm]
 split
 ·
  exact ew _ _ _ _ _ _ _ _ (by omega) (by omega)
 ·
  split
  ·
   exact ew _ _ _ _ _ _ _ _ (by omega) (by omega)
  ·
   rfl
end
def IntQ (F : Fz) (s : IntS) (ca : Option Addr) (cn ck : Nat) (oa : Option Addr) (on ok : Nat) (q : Fp) : Prop :=
 ∃ (hs : List Hd) (pc pr po : Fp), q = pc ++ (pr ++ po) ∧ OS F (.slice ca cn ck) hs pc ∧ SF F hs s.cells pr ∧ OS F (.slice oa on ok) s.out po
section
variable {F F' : Fz} {s : IntS} {ca : Option Addr} {cn ck : Nat} {oa : Option Addr} {on ok : Nat} {q c : Fp} {B : Base} {H : Heap} {R L : List Fp}
theorem IntQ.mono (hF : F.le F') (h : IntQ F s ca cn ck oa on ok q) : IntQ F' s ca cn ck oa on ok q := by
 obtain ⟨hs, pc, pr, po, e, z, A, I⟩ := h
 exact ⟨hs, pc, pr, po, e, z.mono hF, A.mono hF, I.mono hF⟩
theorem IntQ.open (h : IntQ F s ca cn ck oa on ok q) (k : HS B F H ([c, q] ++ L) R) : ∃ (hs : List Hd) (pc pr po : Fp), HS B F H ([c, pc, pr, po] ++ L) R ∧ OS F (.slice ca cn ck) hs pc ∧ SF F hs s.cells pr ∧ OS F (.slice oa on ok) s.out po := by
 obtain ⟨hs, pc, pr, po, e, z, A, I⟩ := h
 refine ⟨hs, pc, pr, po, ?_, z, A, I⟩
 subst e
 exact k.flat (List.Perm.of_eq (by simp))
theorem IntQ.close {hs : List Hd} {pc pr po : Fp} (k : HS B F H ([c, pc, pr, po] ++ L) R) (z : OS F (.slice ca cn ck) hs pc) (A : SF F hs s.cells pr) (I : OS F (.slice oa on ok) s.out po) : ∃ q, HS B F H ([c, q] ++ L) R ∧ IntQ F s ca cn ck oa on ok q :=
 ⟨_, k.flat (List.Perm.of_eq (by simp)), hs, pc, pr, po, rfl, z, A, I⟩
end
def IntP (B : Base) (F0 : Fz) (R : List Fp) (P : List VFnT) (la : Option Addr) (lk b : Nat) (s : IntS) (H : Heap) : Prop := ∃ (F : Fz) (ca : Option Addr) (cn ck : Nat) (oa : Option Addr) (on ok : Nat) (q : Fp), F0.le F ∧
 HS B F H [[(b, .cells [.slice la P.length lk, .slice ca cn ck, .int .i64 s.fuel, .int .i64 s.most, .slice oa on ok, .int .i64 s.kind, .int .i64 s.code, .slice none 0 0, .int .i64 0, .bool s.over, .bool s.long] none false)], q] R ∧ IntQ F s ca cn ck oa on ok q
def DoP (B : Base) (F0 : Fz) (R : List Fp) (P : List VFnT) (la : Option Addr) (lk b : Nat) (ra : Option Addr) (rn rk : Nat) (t : IntS × List Int) (H : Heap) : Prop := ∃ (F : Fz) (ca : Option Addr) (cn ck : Nat) (oa : Option Addr) (on ok : Nat) (q p : Fp), F0.le F ∧
 HS B F H [[(b, .cells [.slice la P.length lk, .slice ca cn ck, .int .i64 t.1.fuel, .int .i64 t.1.most, .slice oa on ok, .int .i64 t.1.kind, .int .i64 t.1.code, .slice none 0 0, .int .i64 0, .bool t.1.over, .bool t.1.long] none false)], q, p] R ∧ IntQ F t.1 ca cn ck oa on ok q ∧ OS F (.slice ra rn rk) t.2 p
theorem DoP.mk {B : Base} {F z : Fz} {H : Heap} {R L : List Fp} {P : List VFnT} {la : Option Addr} {lk b : Nat} {t : IntS × List Int} {ca : Option Addr} {cn ck : Nat} {oa : Option Addr} {on ok : Nat} {hs : List Hd} {pc pr po p : Fp} {ra : Option Addr} {rn rk : Nat}
  {cells : List (List Int)} {fuel most kind cd : Int} {over long : Bool} {out r : List Int} (e : t = (⟨cells, fuel, most, out, kind, cd, over, long⟩, r))
  (k : HS B F H ([[(b, .cells [.slice la P.length lk, .slice ca cn ck, .int .i64 fuel, .int .i64 most, .slice oa on ok, .int .i64 kind, .int .i64 cd, .slice none 0 0, .int .i64 0, .bool over, .bool long] none false)], pc, pr, po, p] ++ L) R)
  (hF : z.le F) (A : OS F (.slice ca cn ck) hs pc) (I : SF F hs cells pr) (J : OS F (.slice oa on ok) out po) (O : OS F (.slice ra rn rk) r p) : DoP B z R P la lk b ra rn rk t H := by
 subst e
 obtain ⟨q, k1, k2⟩ := IntQ.close (s := ⟨cells, fuel, most, out, kind, cd, over, long⟩) (L := p :: L) k A I J
 exact ⟨F, ca, cn, ck, oa, on, ok, q, p, hF, k1.sub (List.sublist_append_left [_, _, _] _), k2, O⟩
structure IntOK (nc : Nat) (s : IntS) (N : Nat) : Prop where
 cells : s.cells.length = nc
 rows : ∀ r ∈ s.cells, r.length ≤ 16
 fuel : 0 ≤ s.fuel ∧ s.fuel ≤ 1000
 most : s.most ≤ 1000000
 cnt : s.out.length + s.most.toNat ≤ N
 kc : in64 s.kind ∧ in64 s.code
structure InR (c : VFnT) (v : VInT) : Prop where
 a : v.i.op ≠ 3 → 0 ≤ v.i.a ∧ v.i.a < c.regs
 b : ((10 ≤ v.i.op ∧ v.i.op ≤ 12) ∨ (17 ≤ v.i.op ∧ v.i.op ≤ 32) ∨ v.i.op = 34 ∨ v.i.op = 35) → 0 ≤ v.i.b ∧ v.i.b < c.regs
 cc : v.i.op = 11 ∨ v.i.op = 12 → 0 ≤ v.i.c ∧ v.i.c < c.regs
 arg : ∀ k, k < v.args.length → 0 ≤ v.args.getD k 0 ∧ v.args.getD k 0 < c.regs
theorem inR_of {c : VFnT} {v : VInT} (h : eg c.params c.regs v = true) : InR c v := by
 unfold eg at h
 simp only [Bool.and_eq_true] at h
 obtain ⟨⟨⟨⟨⟨⟨⟨z, I⟩, J⟩, A⟩, ha⟩, hb⟩, hc⟩, hi⟩ := h
 have hf := bc z
 refine ⟨fun e => ?_, fun e => ?_, fun e => ?_, fun k hk => ?_⟩
 ·
  rcases gH.1 ha with ⟨_, h⟩ | ⟨h, _⟩
  ·
   exact h
  ·
   have := of_decide_eq_false h; omega
 ·
  rcases gH.1 hb with ⟨_, h⟩ | ⟨h, _⟩
  ·
   exact h
  ·
   have := of_decide_eq_false h; omega
 ·
  rcases gH.1 hc with ⟨_, h⟩ | ⟨h, _⟩
  ·
   exact h
  ·
   have := of_decide_eq_false h; omega
 ·
  have := bp.1 (eK A hk)
  have e : v.args.getD k 0 = v.args.getD k default := rfl
  rw [e]; exact this
section
variable {P : List VFnT} {nc N : Nat} {s : IntS} {r args : List Int} {c : VFnT}
theorem do_len {i : InsT} : (doV s r args i).2.length = r.length := by
 unfold doV iW
 simp only [apply_ite Prod.snd, apply_ite List.length, List.length_set, ite_self]
theorem doC_len {v : VInT} : (doC P s r args v).2.length = r.length := by
 unfold doC
 split
 ·
  exact List.length_set
 ·
  exact do_len
theorem IntOK.dec (h : IntOK nc s N) (hm : ¬ s.most ≤ 0) : IntOK nc (dec s) N ∧ (dec s).out.length + (dec s).most.toNat + 1 ≤ N := by
 have z := h.cnt
 have A := h.most
 exact ⟨⟨h.cells, h.rows, h.fuel, by show s.most - 1 ≤ 1000000; omega, by show s.out.length + (s.most - 1).toNat ≤ N; omega, h.kc⟩, by show s.out.length + (s.most - 1).toNat + 1 ≤ N; omega⟩
theorem IntOK.stop (h : IntOK nc s N) {k x : Int} (hk : in64 k ∧ in64 x) : IntOK nc (ist s k x) N := ⟨h.cells, h.rows, h.fuel, h.most, h.cnt, hk⟩
theorem IntOK.do (h : IntOK nc s N) (O : s.out.length + s.most.toNat + 1 ≤ N) {i : InsT} : IntOK nc (doV s r args i).1 N := by
 have z : ∀ k x : Int, (0 ≤ k ∧ k ≤ 9) ∧ 0 ≤ x ∧ x ≤ 9 → IntOK nc (ist s k x) N := fun k x hk => h.stop ⟨⟨by omega, by omega⟩, by omega, by omega⟩
 unfold doV iW
 simp only [apply_ite Prod.fst]
 have hf := h.fuel
 have A : s.fuel ≠ 0 → IntOK nc { s with fuel := s.fuel - 1 } N := fun hz => ⟨h.cells, h.rows, ⟨by show 0 ≤ s.fuel - 1; omega, by show s.fuel - 1 ≤ 1000; omega⟩, h.most, h.cnt, h.kc⟩
 have I : ∀ x, IntOK nc { s with out := s.out ++ [x] } N := fun x => ⟨h.cells, h.rows, h.fuel, h.most, by show (s.out ++ [x]).length + s.most.toNat ≤ N; rw [List.length_append, List.length_singleton]; omega, h.kc⟩
 have J : ∀ (k j : Nat) (x : Int), IntOK nc { s with cells := s.cells.set k ((s.cells.getD k default).set j x) } N := fun k j x => by
  refine ⟨by show (List.set _ _ _).length = nc; rw [List.length_set]; exact h.cells, fun r hr => ?_, h.fuel, h.most, h.cnt, h.kc⟩
  rcases List.mem_or_eq_of_mem_set hr with hr | rfl
  ·
   exact h.rows r hr
  ·
   rw [List.length_set]; exact bf h.rows _
 have ok_ite : ∀ {p : Prop} [Decidable p] {a b : IntS}, (p → IntOK nc a N) → (¬ p → IntOK nc b N) → IntOK nc (if p then a else b) N := fun ha hb => by
  split
  ·
   exact ha (by assumption)
  ·
   exact hb (by assumption)
 repeat' (first | exact h | exact z _ _ (by decide) | exact A (by assumption) | exact I _ | exact J _ _ _ | refine ok_ite (fun _ => ?_) (fun _ => ?_))
end
theorem gh {P : List VFnT} {n : Int} (h : 0 ≤ n ∧ n < (P.length : Int)) : P.getD n.toNat default ∈ P := by rw [List.getD_eq_getElem?_getD, List.getElem?_eq_getElem (by omega)]; exact List.getElem_mem _
theorem go_ok {P : List VFnT} {nc N : Nat} (hp : PrF P nc) : ∀ (n : Nat) (s : IntS) (c : VFnT) (r args : List Int) (at_ : Int) (k : Nat), c ∈ P → 0 ≤ at_ ∧ at_ < (c.blocks.length : Int) → IntOK nc s N → IntOK nc (goV P n s c r args at_ k).1 N
 | 0, _, _, _, _, _, _, _, _, h => h
 | n + 1, s, c, r, args, at_, k, hc, hb, h => by
  have hl := hp.lim c hc
  have hf := jp (hp.fin c hc at_.toNat (by omega)) hl.2.2.2.1
  unfold goV
  split
  ·
   exact h
  ·
   split
   ·
    rename_i hk
    split
    ·
     exact ⟨h.cells, h.rows, h.fuel, h.most, h.cnt, h.kc⟩
    ·
     rename_i hm
     obtain ⟨z, I⟩ := h.dec hm
     split
     ·
      rename_i T
      obtain ⟨J, O⟩ := hp.ins c hc at_.toNat k (by omega) hk
      have hi := (inF_of hl.2.2.2.1 J O).call T
      have A := gh ⟨hi.1, hi.2.1⟩
      have U := hp.lim _ A
      exact go_ok hp n _ _ _ _ _ _ hc hb (go_ok hp n _ _ _ _ _ _ A ⟨Int.le_refl 0, by omega⟩ z)
     ·
      exact go_ok hp n _ _ _ _ _ _ hc hb (z.do I)
   ·
    split
    ·
     exact ⟨h.cells, h.rows, h.fuel, h.most, h.cnt, h.kc⟩
    ·
     rename_i hm
     obtain ⟨z, I⟩ := h.dec hm
     split
     ·
      rename_i hfin; exact go_ok hp n _ _ _ _ _ _ hc (hf.2.2.1 hfin) z
     ·
      split
      ·
       rename_i hfin
       have := hf.2.2.2.1 hfin
       exact go_ok hp n _ _ _ _ _ _ hc (by split <;> omega) z
      ·
       split
       ·
        exact z
       ·
        have := hf.2.2.2.2
        exact z.stop ⟨⟨by decide, by decide⟩, by omega, by omega⟩
theorem doC_ok {P : List VFnT} {nc N : Nat} {s : IntS} {r args : List Int} {v : VInT} {c : VFnT} (hp : PrF P nc) (hi : InF P nc c v) (h : IntOK nc s N) (hm : ¬ s.most ≤ 0) : IntOK nc (doC P (dec s) r args v).1 N := by
 obtain ⟨A, I⟩ := h.dec hm
 unfold doC
 split
 ·
  rename_i J
  have hc := hi.call J
  have z := gh ⟨hc.1, hc.2.1⟩
  have O := hp.lim _ z
  exact go_ok hp _ _ _ _ _ _ _ z ⟨Int.le_refl 0, by omega⟩ A
 ·
  exact A.do I
end Go.Proofs.YtlabedbmgmfbaaaDoor.ja
