/-
 Plain laws: what the functions compute answers as the statement says. No condition beyond those that each statement names.
-/
import Derived.Test.YtlabedbmgmfbaaaDoorZDM8
import Derived.Test.YtlabedbmgmfbaaaDoorZDIW
import Derived.Test.YtlabedbmgmfbaaaDoorZDRD
noncomputable section
namespace Go.Proofs.YtlabedbmgmfbaaaDoor.ia
open Go.R m1 m2 m7 iw
set_option linter.unusedVariables false
instance : Inhabited AObj := ⟨.cells [] none false⟩
structure CalT where
 code : VFnT
 regs : List Int
 args : List Int
 blk : Int
 at_ : Int
 to_ : Int
 deriving Inhabited
def bB (l : List Int) (n : Int) : Int := l.getD n.toNat 0
def gD (l : List Int) (n x : Int) : List Int := (l ++ List.replicate (n.toNat + 1 - l.length) 0).set n.toNat x
structure RunS where
 low : List CalT
 top : CalT
 cells : List (List Int)
 fuel : Int
 over : Bool
 kind : Int
 code : Int
 out : List Int
 val : Int
abbrev stopV (s : RunS) (k c x : Int) : RunS := { s with over := true, kind := k, code := c, val := x }
abbrev setT (s : RunS) (n x : Int) : RunS := { s with top := { s.top with regs := gD s.top.regs n x } }
abbrev goT (s : RunS) (b : Int) : RunS := { s with top := { s.top with blk := b, at_ := 0 } }
abbrev da (c : CalT) : BlkT := c.code.blocks.getD c.blk.toNat default
def i0 (s : RunS) (x : Int) : RunS := if s.low = [] then stopV s 1 0 x else { s with low := s.low.dropLast, top := { s.low.getLastD default with regs := gD (s.low.getLastD default).regs s.top.to_ x } }
def kX (s : RunS) (b : BlkT) : RunS :=
 if b.fin = 1 then goT s b.tgt else if b.fin = 2 then goT s (if bB s.top.regs b.reg ≠ 0 then b.tgt else b.els)
 else if b.fin = 3 then i0 s (bB s.top.regs b.reg) else stopV s 2 b.tgt 0
def accV (s : RunS) (i : InsT) : RunS :=
 if ¬ (0 ≤ bB s.top.regs i.b ∧ bB s.top.regs i.b < (s.cells.getD i.n.toNat default).length) then stopV s 2 2 0
 else if i.op = 34 then setT s i.a ((s.cells.getD i.n.toNat default).getD (bB s.top.regs i.b).toNat 0)
 else { s with cells := s.cells.set i.n.toNat ((s.cells.getD i.n.toNat default).set (bB s.top.regs i.b).toNat (bB s.top.regs i.a)) }
def fb (s : RunS) (i : InsT) : RunS :=
 if i.op = 10 then setT s i.a (bB s.top.regs i.b)
 else if i.op = 11 then (if bB s.top.regs i.c = 0 then setT s i.a (bB s.top.regs i.b) else s)
 else if i.op = 12 then (if bB s.top.regs i.c = 0 then s else setT s i.a (bB s.top.regs i.b))
 else if i.op = 13 then setT s i.a i.n
 else if i.op = 38 then setT s i.a (s.top.args.getD i.n.toNat 0)
 else if i.op = 15 then setT s i.a (unV 20 (bB s.top.regs i.a))
 else if i.op = 16 then setT s i.a (unV 21 (bB s.top.regs i.a))
 else if i.op = 33 then setT s i.a (w64 (bB s.top.regs i.a + i.n))
 else if (i.op = 20 ∨ i.op = 21) ∧ bB s.top.regs i.b = 0 then stopV s 2 1 0
 else setT s i.a (binV (i.op - 17 + 4) (bB s.top.regs i.a) (bB s.top.regs i.b))
abbrev lf (s : RunS) : RunS := { s with top := { s.top with at_ := s.top.at_ + 1 } }
abbrev gg (c : CalT) : VInT := (da c).ins.getD c.at_.toNat default
def j5 (P : List VFnT) (s : RunS) (v : VInT) : RunS :=
 if v.i.op = 3 then (if s.fuel = 0 then stopV s 3 0 0 else { s with fuel := s.fuel - 1 })
 else if v.i.op = 6 then { s with low := s.low ++ [s.top], top := ⟨P.getD v.i.n.toNat default, [], v.args.map (bB s.top.regs), 0, 0, v.i.a⟩ }
 else if v.i.op = 9 then { s with out := s.out ++ [bB s.top.regs v.i.a] }
 else if v.i.op = 34 ∨ v.i.op = 35 then accV s v.i else fb s v.i
def dW (P : List VFnT) (s : RunS) : RunS := if s.top.at_ = ((da s.top).ins.length : Int) then kX s (da s.top) else j5 P (lf s) (gg s.top)
def CR (F : Fz) (q : PtrT) (c : CalT) (p : Fp) : Prop := ∃ (ba : Option Addr) (bk : Nat) (ra : Option Addr) (rn rk : Nat) (aa : Option Addr) (an ak : Nat) (pr : Fp),
 p = (q.b, .cells [.int .i64 c.code.params, .int .i64 c.code.regs, .slice ba c.code.blocks.length bk, .slice ra rn rk, .slice aa an ak, .int .i64 c.blk, .int .i64 c.at_, .int .i64 c.to_] none false) :: pr ∧
 SR F (.slice ba c.code.blocks.length bk) c.code.blocks ∧ OS F (.slice ra rn rk) c.regs pr ∧ SR F (.slice aa an ak) c.args
def RunQ (F : Fz) (s : RunS) (ca : Option Addr) (cn ck : Nat) (pa : Option Addr) (pn pk : Nat) (oa : Option Addr) (on ok : Nat) (q : Fp) : Prop :=
 ∃ (hs : List Hd) (ps : List PtrT) (bt : PtrT) (pc pr pp pl pt po : Fp), q = pc ++ (pr ++ (pp ++ (pl ++ (pt ++ po)))) ∧ OS F (.slice ca cn ck) hs pc ∧ SF F hs s.cells pr ∧ OS F (.slice pa pn pk) (ps ++ [bt]) pp ∧
  FAM CR F ps s.low pl ∧ CR F bt s.top pt ∧ OS F (.slice oa on ok) s.out po ∧ in64 s.val
section
variable {F F' : Fz} {s : RunS} {ca : Option Addr} {cn ck : Nat} {pa : Option Addr} {pn pk : Nat} {oa : Option Addr} {on ok : Nat} {q c : Fp} {B : Base} {H : Heap} {R : List Fp}
end
def RunP (B : Base) (F0 : Fz) (R : List Fp) (P : List VFnT) (la : Option Addr) (lk b : Nat) (s : RunS) (H : Heap) : Prop := ∃ (F : Fz) (ca : Option Addr) (cn ck : Nat) (pa : Option Addr) (pn pk : Nat) (oa : Option Addr) (on ok : Nat) (q : Fp), F0.le F ∧
 HS B F H [[(b, .cells [.slice la P.length lk, .slice ca cn ck, .slice pa pn pk, .int .i64 s.fuel, .bool s.over, .int .i64 s.kind, .int .i64 s.code, .slice oa on ok, .int .i64 s.val] none false)], q] R ∧ RunQ F s ca cn ck pa pn pk oa on ok q
section
variable {F : Fz} {B : Base} {H : Heap} {L R : List Fp} {ps : List PtrT} {bt : PtrT} {low : List CalT} {pl pg : Fp} {ba : Option Addr} {bk : Nat} {ra : Option Addr} {rn rk : Nat} {aa : Option Addr} {an ak : Nat}
end
end Go.Proofs.YtlabedbmgmfbaaaDoor.ia
