/-
 Plain laws: what the functions compute answers as the statement says. No condition beyond those that each statement names.
-/
import Derived.Test.YtlabedbmgmfbaaaDoorZIM8
import Derived.Test.YtlabedbmgmfbaaaDoorZIIW
import Derived.Test.YtlabedbmgmfbaaaDoorZIRD
noncomputable section
namespace Go.Proofs.YtlabedbmgmfbaaaDoor.ia
open Go.R m1 m2 m7 iw
set_option linter.unusedVariables false
instance : Inhabited AObj := ⟨.cells [] none false⟩
structure CalT where
 code : VFnT
 regs : List Int
 args : List Int
 blk : Int
 at_ : Int
 to_ : Int
 deriving Inhabited
def bo (l : List Int) (n : Int) : Int := l.getD n.toNat 0
def setV (l : List Int) (n x : Int) : List Int := (l ++ List.replicate (n.toNat + 1 - l.length) 0).set n.toNat x
structure RunS where
 low : List CalT
 top : CalT
 cells : List (List Int)
 fuel : Int
 over : Bool
 kind : Int
 code : Int
 out : List Int
 val : Int
abbrev aB (s : RunS) (k c x : Int) : RunS := { s with over := true, kind := k, code := c, val := x }
abbrev cO (s : RunS) (n x : Int) : RunS := { s with top := { s.top with regs := setV s.top.regs n x } }
abbrev goT (s : RunS) (b : Int) : RunS := { s with top := { s.top with blk := b, at_ := 0 } }
abbrev f3 (c : CalT) : BlkT := c.code.blocks.getD c.blk.toNat default
def cH (s : RunS) (x : Int) : RunS := if s.low = [] then aB s 1 0 x else { s with low := s.low.dropLast, top := { s.low.getLastD default with regs := setV (s.low.getLastD default).regs s.top.to_ x } }
def cM (s : RunS) (b : BlkT) : RunS :=
 if b.fin = 1 then goT s b.tgt else if b.fin = 2 then goT s (if bo s.top.regs b.reg ≠ 0 then b.tgt else b.els)
 else if b.fin = 3 then cH s (bo s.top.regs b.reg) else aB s 2 b.tgt 0
def ge (s : RunS) (i : InsT) : RunS :=
 if ¬ (0 ≤ bo s.top.regs i.b ∧ bo s.top.regs i.b < (s.cells.getD i.n.toNat default).length) then aB s 2 2 0
 else if i.op = 34 then cO s i.a ((s.cells.getD i.n.toNat default).getD (bo s.top.regs i.b).toNat 0)
 else { s with cells := s.cells.set i.n.toNat ((s.cells.getD i.n.toNat default).set (bo s.top.regs i.b).toNat (bo s.top.regs i.a)) }
def eR (s : RunS) (i : InsT) : RunS :=
 if i.op = 10 then cO s i.a (bo s.top.regs i.b)
 else if i.op = 11 then (if bo s.top.regs i.c = 0 then cO s i.a (bo s.top.regs i.b) else s)
 else if i.op = 12 then (if bo s.top.regs i.c = 0 then s else cO s i.a (bo s.top.regs i.b))
 else if i.op = 13 then cO s i.a i.n
 else if i.op = 38 then cO s i.a (s.top.args.getD i.n.toNat 0)
 else if i.op = 15 then cO s i.a (unV 20 (bo s.top.regs i.a))
 else if i.op = 16 then cO s i.a (unV 21 (bo s.top.regs i.a))
 else if i.op = 33 then cO s i.a (w64 (bo s.top.regs i.a + i.n))
 else if (i.op = 20 ∨ i.op = 21) ∧ bo s.top.regs i.b = 0 then aB s 2 1 0
 else cO s i.a (binV (i.op - 17 + 4) (bo s.top.regs i.a) (bo s.top.regs i.b))
abbrev cC (s : RunS) : RunS := { s with top := { s.top with at_ := s.top.at_ + 1 } }
abbrev gc (c : CalT) : VInT := (f3 c).ins.getD c.at_.toNat default
def fC (P : List VFnT) (s : RunS) (v : VInT) : RunS :=
 if v.i.op = 3 then (if s.fuel = 0 then aB s 3 0 0 else { s with fuel := s.fuel - 1 })
 else if v.i.op = 6 then { s with low := s.low ++ [s.top], top := ⟨P.getD v.i.n.toNat default, [], v.args.map (bo s.top.regs), 0, 0, v.i.a⟩ }
 else if v.i.op = 9 then { s with out := s.out ++ [bo s.top.regs v.i.a] }
 else if v.i.op = 34 ∨ v.i.op = 35 then ge s v.i else eR s v.i
def bz (P : List VFnT) (s : RunS) : RunS := if s.top.at_ = ((f3 s.top).ins.length : Int) then cM s (f3 s.top) else fC P (cC s) (gc s.top)
def CR (F : Fz) (q : PtrT) (c : CalT) (p : Fp) : Prop := ∃ (ba : Option Addr) (bk : Nat) (ra : Option Addr) (rn rk : Nat) (aa : Option Addr) (an ak : Nat) (pr : Fp),
 p = (q.b, .cells [.int .i64 c.code.params, .int .i64 c.code.regs, .slice ba c.code.blocks.length bk, .slice ra rn rk, .slice aa an ak, .int .i64 c.blk, .int .i64 c.at_, .int .i64 c.to_] none false) :: pr ∧
 SR F (.slice ba c.code.blocks.length bk) c.code.blocks ∧ OS F (.slice ra rn rk) c.regs pr ∧ SR F (.slice aa an ak) c.args
theorem CR.mono {F F' : Fz} (hF : F.le F') {q : PtrT} {c : CalT} {p : Fp} (h : CR F q c p) : CR F' q c p := by
 obtain ⟨ba, bk, ra, rn, rk, aa, an, ak, pr, e, z, A, E⟩ := h
 exact ⟨ba, bk, ra, rn, rk, aa, an, ak, pr, e, z.mono hF, A.mono hF, E.mono hF⟩
def RunQ (F : Fz) (s : RunS) (ca : Option Addr) (cn ck : Nat) (pa : Option Addr) (pn pk : Nat) (oa : Option Addr) (on ok : Nat) (q : Fp) : Prop :=
 ∃ (hs : List Hd) (ps : List PtrT) (bt : PtrT) (pc pr pp pl pt po : Fp), q = pc ++ (pr ++ (pp ++ (pl ++ (pt ++ po)))) ∧ OS F (.slice ca cn ck) hs pc ∧ SF F hs s.cells pr ∧ OS F (.slice pa pn pk) (ps ++ [bt]) pp ∧
  FAM CR F ps s.low pl ∧ CR F bt s.top pt ∧ OS F (.slice oa on ok) s.out po ∧ in64 s.val
section
variable {F F' : Fz} {s : RunS} {ca : Option Addr} {cn ck : Nat} {pa : Option Addr} {pn pk : Nat} {oa : Option Addr} {on ok : Nat} {q c : Fp} {B : Base} {H : Heap} {R : List Fp}
theorem RunQ.open (h : RunQ F s ca cn ck pa pn pk oa on ok q) (k : HS B F H [c, q] R) : ∃ (hs : List Hd) (ps : List PtrT) (bt : PtrT) (pc pr pp pl : Fp) (po : Fp) (ba : Option Addr) (bk : Nat) (ra : Option Addr) (rn rk : Nat) (aa : Option Addr) (an ak : Nat) (pg : Fp),
  HS B F H [c, pc, pr, pp, pl, [(bt.b, .cells [.int .i64 s.top.code.params, .int .i64 s.top.code.regs, .slice ba s.top.code.blocks.length bk, .slice ra rn rk, .slice aa an ak, .int .i64 s.top.blk, .int .i64 s.top.at_, .int .i64 s.top.to_] none false)], pg, po] R ∧
  OS F (.slice ca cn ck) hs pc ∧ SF F hs s.cells pr ∧ OS F (.slice pa pn pk) (ps ++ [bt]) pp ∧ FAM CR F ps s.low pl ∧ OS F (.slice oa on ok) s.out po ∧ in64 s.val ∧
  SR F (.slice ba s.top.code.blocks.length bk) s.top.code.blocks ∧ OS F (.slice ra rn rk) s.top.regs pg ∧ SR F (.slice aa an ak) s.top.args := by
 obtain ⟨hs, ps, bt, pc, pr, pp, pl, pt, po, e, J, O, T, U, ⟨ba, bk, ra, rn, rk, aa, an, ak, pg, z, A, E, I⟩, V, Z⟩ := h
 refine ⟨hs, ps, bt, pc, pr, pp, pl, po, ba, bk, ra, rn, rk, aa, an, ak, pg, ?_, J, O, T, U, V, Z, A, E, I⟩
 subst e z
 exact k.flat (List.Perm.of_eq (by simp))
theorem RunQ.openL (h : RunQ F s ca cn ck pa pn pk oa on ok q) {L : List Fp} (k : HS B F H ([c, q] ++ L) R) : ∃ (hs : List Hd) (ps : List PtrT) (bt : PtrT) (pc pr pp pl : Fp) (po : Fp) (ba : Option Addr) (bk : Nat) (ra : Option Addr) (rn rk : Nat) (aa : Option Addr) (an ak : Nat) (pg : Fp),
  HS B F H ([c, pc, pr, pp, pl, [(bt.b, .cells [.int .i64 s.top.code.params, .int .i64 s.top.code.regs, .slice ba s.top.code.blocks.length bk, .slice ra rn rk, .slice aa an ak, .int .i64 s.top.blk, .int .i64 s.top.at_, .int .i64 s.top.to_] none false)], pg, po] ++ L) R ∧
  OS F (.slice ca cn ck) hs pc ∧ SF F hs s.cells pr ∧ OS F (.slice pa pn pk) (ps ++ [bt]) pp ∧ FAM CR F ps s.low pl ∧ OS F (.slice oa on ok) s.out po ∧ in64 s.val ∧
  SR F (.slice ba s.top.code.blocks.length bk) s.top.code.blocks ∧ OS F (.slice ra rn rk) s.top.regs pg ∧ SR F (.slice aa an ak) s.top.args := by
 obtain ⟨hs, ps, bt, pc, pr, pp, pl, pt, po, e, J, O, T, U, ⟨ba, bk, ra, rn, rk, aa, an, ak, pg, z, A, E, I⟩, V, Z⟩ := h
 refine ⟨hs, ps, bt, pc, pr, pp, pl, po, ba, bk, ra, rn, rk, aa, an, ak, pg, ?_, J, O, T, U, V, Z, A, E, I⟩
 subst e z
 exact k.flat (List.Perm.of_eq (by simp))
theorem RunQ.close {hs : List Hd} {ps : List PtrT} {bt : PtrT} {pc pr pp pl pg po : Fp} {ba : Option Addr} {bk : Nat} {ra : Option Addr} {rn rk : Nat} {aa : Option Addr} {an ak : Nat} {L : List Fp}
  (k : HS B F H ([c, pc, pr, pp, pl, [(bt.b, .cells [.int .i64 s.top.code.params, .int .i64 s.top.code.regs, .slice ba s.top.code.blocks.length bk, .slice ra rn rk, .slice aa an ak, .int .i64 s.top.blk, .int .i64 s.top.at_, .int .i64 s.top.to_] none false)], pg, po] ++ L) R)
  (I : OS F (.slice ca cn ck) hs pc) (J : SF F hs s.cells pr) (O : OS F (.slice pa pn pk) (ps ++ [bt]) pp) (T : FAM CR F ps s.low pl) (U : OS F (.slice oa on ok) s.out po) (V : in64 s.val)
  (z : SR F (.slice ba s.top.code.blocks.length bk) s.top.code.blocks) (A : OS F (.slice ra rn rk) s.top.regs pg) (E : SR F (.slice aa an ak) s.top.args) :
  ∃ q, HS B F H ([c, q] ++ L) R ∧ RunQ F s ca cn ck pa pn pk oa on ok q :=
 ⟨_, k.flat (List.Perm.of_eq (by simp)), hs, ps, bt, pc, pr, pp, pl, _ :: pg, po, rfl, I, J, O, T, ⟨ba, bk, ra, rn, rk, aa, an, ak, pg, rfl, z, A, E⟩, U, V⟩
end
def RunP (B : Base) (F0 : Fz) (R : List Fp) (P : List VFnT) (la : Option Addr) (lk b : Nat) (s : RunS) (H : Heap) : Prop := ∃ (F : Fz) (ca : Option Addr) (cn ck : Nat) (pa : Option Addr) (pn pk : Nat) (oa : Option Addr) (on ok : Nat) (q : Fp), F0.le F ∧
 HS B F H [[(b, .cells [.slice la P.length lk, .slice ca cn ck, .slice pa pn pk, .int .i64 s.fuel, .bool s.over, .int .i64 s.kind, .int .i64 s.code, .slice oa on ok, .int .i64 s.val] none false)], q] R ∧ RunQ F s ca cn ck pa pn pk oa on ok q
theorem RunP.mk {B : Base} {F z : Fz} {H : Heap} {R : List Fp} {P : List VFnT} {la : Option Addr} {lk b : Nat} {s : RunS} {ca : Option Addr} {cn ck : Nat} {pa : Option Addr} {pn pk : Nat} {oa : Option Addr} {on ok : Nat} {hs : List Hd} {ps : List PtrT} {bt : PtrT} {pc pr pp pl pg po : Fp} {ba : Option Addr} {bk : Nat} {ra : Option Addr} {rn rk : Nat} {aa : Option Addr} {an ak : Nat} {L : List Fp}
  {low : List CalT} {code : VFnT} {regs args : List Int} {blk at_ to_ : Int} {cells : List (List Int)} {fuel kind cd val : Int} {over : Bool} {out : List Int}
  (e : s = ⟨low, ⟨code, regs, args, blk, at_, to_⟩, cells, fuel, over, kind, cd, out, val⟩)
  (k : HS B F H ([[(b, .cells [.slice la P.length lk, .slice ca cn ck, .slice pa pn pk, .int .i64 fuel, .bool over, .int .i64 kind, .int .i64 cd, .slice oa on ok, .int .i64 val] none false)], pc, pr, pp, pl, [(bt.b, .cells [.int .i64 code.params, .int .i64 code.regs, .slice ba code.blocks.length bk, .slice ra rn rk, .slice aa an ak, .int .i64 blk, .int .i64 at_, .int .i64 to_] none false)], pg, po] ++ L) R)
  (hF : z.le F) (J : OS F (.slice ca cn ck) hs pc) (O : SF F hs cells pr) (T : OS F (.slice pa pn pk) (ps ++ [bt]) pp) (U : FAM CR F ps low pl) (V : OS F (.slice oa on ok) out po) (Z : in64 val)
  (A : SR F (.slice ba code.blocks.length bk) code.blocks) (E : OS F (.slice ra rn rk) regs pg) (I : SR F (.slice aa an ak) args) : RunP B z R P la lk b s H := by
 subst e
 obtain ⟨q, k1, k2⟩ := RunQ.close (s := ⟨low, ⟨code, regs, args, blk, at_, to_⟩, cells, fuel, over, kind, cd, out, val⟩) k J O T U V Z A E I
 exact ⟨F, ca, cn, ck, pa, pn, pk, oa, on, ok, q, hF, k1.sub (List.sublist_append_left _ _), k2⟩
theorem last_eq : ∀ {l : List CalT}, l ≠ [] → l = l.dropLast ++ [l.getLastD default]
 | [], h => absurd rfl h
 | [_], _ => rfl
 | a :: b :: l, _ => by
  have := last_eq (l := b :: l) (by simp)
  rw [List.dropLast_cons_cons, List.cons_append]
  exact congrArg (a :: ·) this
section
variable {F : Fz} {B : Base} {H : Heap} {L R : List Fp} {ps : List PtrT} {bt : PtrT} {low : List CalT} {pl pg : Fp} {ba : Option Addr} {bk : Nat} {ra : Option Addr} {rn rk : Nat} {aa : Option Addr} {an ak : Nat}
theorem pool_push (c : CalT) (h : FAM CR F ps low pl) (k : HS B F H L R) (T : L[4]? = some pl) (z : L[5]? = some [(bt.b, .cells [.int .i64 c.code.params, .int .i64 c.code.regs, .slice ba c.code.blocks.length bk, .slice ra rn rk, .slice aa an ak, .int .i64 c.blk, .int .i64 c.at_, .int .i64 c.to_] none false)]) (U : L[6]? = some pg)
  (I : SR F (.slice ba c.code.blocks.length bk) c.code.blocks) (J : OS F (.slice ra rn rk) c.regs pg) (O : SR F (.slice aa an ak) c.args) : ∃ pl' X, HS B F H ((((L.set 5 X).set 6 []).set 4 pl').set 5 []) R ∧ FAM CR F (ps ++ [bt]) (low ++ [c]) pl' := by
 have k1 := k.close (i := 5) (j := 6) (by decide) z U (.refl _)
 have A : ((L.set 5 ([(bt.b, .cells [.int .i64 c.code.params, .int .i64 c.code.regs, .slice ba c.code.blocks.length bk, .slice ra rn rk, .slice aa an ak, .int .i64 c.blk, .int .i64 c.at_, .int .i64 c.to_] none false)] ++ pg)).set 6 [])[4]? = some pl := by
  rw [List.getElem?_set_ne (by decide), List.getElem?_set_ne (by decide)]; exact T
 have E : ((L.set 5 ([(bt.b, .cells [.int .i64 c.code.params, .int .i64 c.code.regs, .slice ba c.code.blocks.length bk, .slice ra rn rk, .slice aa an ak, .int .i64 c.blk, .int .i64 c.at_, .int .i64 c.to_] none false)] ++ pg)).set 6 [])[5]? = some ([(bt.b, .cells [.int .i64 c.code.params, .int .i64 c.code.regs, .slice ba c.code.blocks.length bk, .slice ra rn rk, .slice aa an ak, .int .i64 c.blk, .int .i64 c.at_, .int .i64 c.to_] none false)] ++ pg) := by
  rw [List.getElem?_set_ne (by decide)]
  exact List.getElem?_set_self (List.getElem?_eq_some_iff.1 z).1
 exact ⟨_, _, k1.close (i := 4) (j := 5) (by decide) A E (.refl _), h.snoc (k := ⟨ba, bk, ra, rn, rk, aa, an, ak, pg, rfl, I, J, O⟩)⟩
theorem pool_pop (h : FAM CR F ps low pl) (hne : low ≠ []) (k : HS B F H L R) (U : L[4]? = some pl) : ∃ (ps' : List PtrT) (bt : PtrT) (pl' pg : Fp) (ba : Option Addr) (bk : Nat) (ra : Option Addr) (rn rk : Nat) (aa : Option Addr) (an ak : Nat), ps = ps' ++ [bt] ∧
  HS B F H (L.set 4 pl' ++ [[(bt.b, .cells [.int .i64 (low.getLastD default).code.params, .int .i64 (low.getLastD default).code.regs, .slice ba (low.getLastD default).code.blocks.length bk, .slice ra rn rk, .slice aa an ak, .int .i64 (low.getLastD default).blk, .int .i64 (low.getLastD default).at_, .int .i64 (low.getLastD default).to_] none false)], pg]) R ∧
  FAM CR F ps' low.dropLast pl' ∧ SR F (.slice ba (low.getLastD default).code.blocks.length bk) (low.getLastD default).code.blocks ∧ OS F (.slice ra rn rk) (low.getLastD default).regs pg ∧ SR F (.slice aa an ak) (low.getLastD default).args := by
 rw [last_eq hne] at h
 obtain ⟨ps', bt, q, r, z, A, I, ⟨ba, bk, ra, rn, rk, aa, an, ak, pg, E, J, O, T⟩⟩ := FAM.last h
 have k1 := k.open U (List.Perm.of_eq A)
 refine ⟨ps', bt, q, pg, ba, bk, ra, rn, rk, aa, an, ak, z, k1.flat (List.Perm.of_eq ?_), I, J, O, T⟩
 rw [E]; simp
end
end Go.Proofs.YtlabedbmgmfbaaaDoor.ia
