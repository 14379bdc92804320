/-
Arguments that are structs: their data laid into the evaluator's heap. No condition beyond those that each statement names.
-/
import Derived.Test.YtknafdcgpaejlaaDoorZMM1
import Derived.KernelRfl
noncomputable section
namespace Go.Proofs.YtknafdcgpaejlaaDoor.me
open Go.R Go.Proofs.YtknafdcgpaejlaaDoor.m1
set_option linter.unusedVariables false
set_option linter.unusedSimpArgs false
theorem u2:Tryd.prog.underlying 2=some (.int .i64):=by kernel_rfl
theorem u3:Tryd.prog.underlying 3=some (.int .i64):=by kernel_rfl
theorem u22:Tryd.prog.underlying 22=some (.slice 48):=by kernel_rfl
theorem u25:Tryd.prog.underlying 25=some (.slice 3):=by kernel_rfl
theorem u46:Tryd.prog.underlying 46=some (.slice 52):=by kernel_rfl
noncomputable def fs50 : Array Field := match Tryd.prog.underlying 50 with | some (.struct fs) => fs | _ => #[]
theorem u50:Tryd.prog.underlying 50=some (.struct fs50):=by kernel_rfl
def bInsT{X:Type}(d:DataW X)(x:InsT):Prop:= ∃d0 A E N T,d= .agg [d0,A,E,N,T]/\(fun _=>in64) d0 x.op/\(fun _=>in64) A x.a/\(fun _=>in64) E x.b/\(fun _=>in64) N x.c/\(fun _=>in64) T x.n
theorem em_InsT{X:Type}{enc:TypeId×Value->X}{w:World}(h0:0<w.heap.size):EmC enc Tryd.prog w 50 InsT bInsT:=fun{μ H n cs x} h hd=>by
 obtain⟨hl,m,ds,hx,ag,hf⟩:=gB u50 hd;have hl:cs.length=5:=hl.trans (by kernel_rfl);have ag:ds.length=5:=ag.trans (by kernel_rfl);obtain⟨x0,d0,f0⟩:=hf 0 3 0 1 (by kernel_rfl) (by kernel_rfl);obtain⟨x1,d1,f1⟩:=hf 1 3 1 1 (by kernel_rfl) (by kernel_rfl);obtain⟨x2,d2,f2⟩:=hf 2 3 2 1 (by kernel_rfl) (by kernel_rfl);obtain⟨x3,d3,f3⟩:=hf 3 3 3 1 (by kernel_rfl) (by kernel_rfl);obtain⟨x4,d4,f4⟩:=hf 4 2 4 1 (by kernel_rfl) (by kernel_rfl);have ao:ds=[x0.1,x1.1,x2.1,x3.1,x4.1]:=a19 fun i=>match i with|0=>f0|1=>f1|2=>f2|3=>f3|4=>f4|i+5=>a0C (by omega)
 obtain⟨m0,H0,c0,y0,e0,l0,r0,U,g0⟩:=(dN u3) h d0;obtain⟨m1,H1,c1,y1,e1,T,r1,V,g1⟩:=(dN u3) e0 d1;obtain⟨m2,H2,c2,y2,e2,N,r2,Z,g2⟩:=(dN u3) e1 d2;obtain⟨m3,H3,c3,y3,e3,E,r3,p3,g3⟩:=(dN u3) e2 d3;obtain⟨m4,H4,c4,y4,e4,A,r4,p4,g4⟩:=(dN u2) e3 d4;replace U:=Rp.mono (T.trans (N.trans (E.trans A))).heap U;replace V:=Rp.mono (N.trans (E.trans A)).heap V;replace Z:=Rp.mono (E.trans A).heap Z;replace p3:=Rp.mono A.heap p3;obtain⟨rfl,w0⟩:=U;obtain⟨rfl,w1⟩:=V;obtain⟨rfl,w2⟩:=Z;obtain⟨rfl,w3⟩:=p3;obtain⟨rfl,w4⟩:=p4;exact⟨_,_,_,⟨y0,y1,y2,y3,y4⟩,e4,(l0.trans (T.trans (N.trans (E.trans A)))),(LRel.put (off:=0) (sz:=1) (r0.mono (T.trans (N.trans (E.trans A))).emb) (LRel.put (off:=1) (sz:=1) (r1.mono (N.trans (E.trans A)).emb) (LRel.put (off:=2) (sz:=1) (r2.mono (E.trans A).emb) (LRel.put (off:=3) (sz:=1) (r3.mono A.emb) (LRel.put (off:=4) (sz:=1) r4 (LRel.stop hl)))))),⟨rfl,w0,w1,w2,w3,w4⟩,x0.1,x1.1,x2.1,x3.1,x4.1,by rw[hx,ao],g0,g1,g2,g3,g4⟩
noncomputable def fs52 : Array Field := match Tryd.prog.underlying 52 with | some (.struct fs) => fs | _ => #[]
theorem u52:Tryd.prog.underlying 52=some (.struct fs52):=by kernel_rfl
def bVInT{X:Type}(d:DataW X)(x:VInT):Prop:= ∃d0 A,d= .agg [d0,A]/\bInsT d0 x.i/\(LB (fun _=>in64)) A x.args
theorem em_VInT{X:Type}{enc:TypeId×Value->X}{w:World}(h0:0<w.heap.size):EmC enc Tryd.prog w 52 VInT bVInT:=fun{μ H n cs x} h hd=>by
 obtain⟨hl,m,ds,hx,ad,hf⟩:=gB u52 hd;have hl:cs.length=6:=hl.trans (by kernel_rfl);have ad:ds.length=2:=ad.trans (by kernel_rfl);obtain⟨x0,d0,f0⟩:=hf 0 50 0 5 (by kernel_rfl) (by kernel_rfl);obtain⟨x1,d1,f1⟩:=hf 1 25 5 1 (by kernel_rfl) (by kernel_rfl);have al:ds=[x0.1,x1.1]:=a19 fun i=>match i with|0=>f0|1=>f1|i+2=>a0C (by omega)
 obtain⟨m0,H0,c0,y0,e0,l0,r0,E,g0⟩:=(em_InsT h0) h d0;obtain⟨m1,H1,c1,y1,e1,A,r1,p1,g1⟩:=(jx (α:=Int) (B:=(fun _=>in64)) h0 u25 (by kernel_rfl) (by decide) (dN u3)) e0 d1;replace E:=Rp.mono A.heap E;obtain⟨rfl,N,T,U,V,Z⟩:=E;obtain⟨a1,k1,rfl,w1⟩:=p1;exact⟨_,_,_,⟨y0,y1⟩,e1,(l0.trans A),(LRel.put (off:=0) (sz:=5) (r0.mono A.emb) (LRel.put (off:=5) (sz:=1) r1 (LRel.stop hl))),⟨a1,k1,rfl,N,T,U,V,Z,w1⟩,x0.1,x1.1,by rw[hx,al],g0,g1⟩
noncomputable def fs48 : Array Field := match Tryd.prog.underlying 48 with | some (.struct fs) => fs | _ => #[]
theorem u48:Tryd.prog.underlying 48=some (.struct fs48):=by kernel_rfl
def bBlkT{X:Type}(d:DataW X)(x:BlkT):Prop:= ∃d0 A E N T,d= .agg [d0,A,E,N,T]/\(LB bVInT) d0 x.ins/\(fun _=>in64) A x.fin/\(fun _=>in64) E x.reg/\(fun _=>in64) N x.tgt/\(fun _=>in64) T x.els
theorem em_BlkT{X:Type}{enc:TypeId×Value->X}{w:World}(h0:0<w.heap.size):EmC enc Tryd.prog w 48 BlkT bBlkT:=fun{μ H n cs x} h hd=>by
 obtain⟨hl,m,ds,hx,ag,hf⟩:=gB u48 hd;have hl:cs.length=5:=hl.trans (by kernel_rfl);have ag:ds.length=5:=ag.trans (by kernel_rfl);obtain⟨x0,d0,f0⟩:=hf 0 46 0 1 (by kernel_rfl) (by kernel_rfl);obtain⟨x1,d1,f1⟩:=hf 1 3 1 1 (by kernel_rfl) (by kernel_rfl);obtain⟨x2,d2,f2⟩:=hf 2 3 2 1 (by kernel_rfl) (by kernel_rfl);obtain⟨x3,d3,f3⟩:=hf 3 3 3 1 (by kernel_rfl) (by kernel_rfl);obtain⟨x4,d4,f4⟩:=hf 4 3 4 1 (by kernel_rfl) (by kernel_rfl);have ao:ds=[x0.1,x1.1,x2.1,x3.1,x4.1]:=a19 fun i=>match i with|0=>f0|1=>f1|2=>f2|3=>f3|4=>f4|i+5=>a0C (by omega)
 obtain⟨m0,H0,c0,y0,e0,l0,r0,U,g0⟩:=(jx (α:=VInT) (B:=bVInT) h0 u46 (by kernel_rfl) (by decide) (em_VInT h0)) h d0;obtain⟨m1,H1,c1,y1,e1,T,r1,V,g1⟩:=(dN u3) e0 d1;obtain⟨m2,H2,c2,y2,e2,N,r2,Z,g2⟩:=(dN u3) e1 d2;obtain⟨m3,H3,c3,y3,e3,E,r3,p3,g3⟩:=(dN u3) e2 d3;obtain⟨m4,H4,c4,y4,e4,A,r4,p4,g4⟩:=(dN u3) e3 d4;replace U:=Rp.mono (T.trans (N.trans (E.trans A))).heap U;replace V:=Rp.mono (N.trans (E.trans A)).heap V;replace Z:=Rp.mono (E.trans A).heap Z;replace p3:=Rp.mono A.heap p3;obtain⟨a0,k0,rfl,w0⟩:=U;obtain⟨rfl,w1⟩:=V;obtain⟨rfl,w2⟩:=Z;obtain⟨rfl,w3⟩:=p3;obtain⟨rfl,w4⟩:=p4;exact⟨_,_,_,⟨y0,y1,y2,y3,y4⟩,e4,(l0.trans (T.trans (N.trans (E.trans A)))),(LRel.put (off:=0) (sz:=1) (r0.mono (T.trans (N.trans (E.trans A))).emb) (LRel.put (off:=1) (sz:=1) (r1.mono (N.trans (E.trans A)).emb) (LRel.put (off:=2) (sz:=1) (r2.mono (E.trans A).emb) (LRel.put (off:=3) (sz:=1) (r3.mono A.emb) (LRel.put (off:=4) (sz:=1) r4 (LRel.stop hl)))))),⟨a0,k0,rfl,w1,w2,w3,w4,w0⟩,x0.1,x1.1,x2.1,x3.1,x4.1,by rw[hx,ao],g0,g1,g2,g3,g4⟩
noncomputable def fs24 : Array Field := match Tryd.prog.underlying 24 with | some (.struct fs) => fs | _ => #[]
theorem u24:Tryd.prog.underlying 24=some (.struct fs24):=by kernel_rfl
def bVFnT{X:Type}(d:DataW X)(x:VFnT):Prop:= ∃d0 A E,d= .agg [d0,A,E]/\(fun _=>in64) d0 x.params/\(fun _=>in64) A x.regs/\(LB bBlkT) E x.blocks
theorem em_VFnT{X:Type}{enc:TypeId×Value->X}{w:World}(h0:0<w.heap.size):EmC enc Tryd.prog w 24 VFnT bVFnT:=fun{μ H n cs x} h hd=>by
 obtain⟨hl,m,ds,hx,ad,hf⟩:=gB u24 hd;have hl:cs.length=3:=hl.trans (by kernel_rfl);have ad:ds.length=3:=ad.trans (by kernel_rfl);obtain⟨U,d0,f0⟩:=hf 0 3 0 1 (by kernel_rfl) (by kernel_rfl);obtain⟨V,d1,f1⟩:=hf 1 3 1 1 (by kernel_rfl) (by kernel_rfl);obtain⟨Z,d2,f2⟩:=hf 2 22 2 1 (by kernel_rfl) (by kernel_rfl);have an:ds=[U.1,V.1,Z.1]:=a19 fun i=>match i with|0=>f0|1=>f1|2=>f2|i+3=>a0C (by omega)
 obtain⟨m0,H0,c0,y0,e0,l0,r0,N,g0⟩:=(dN u3) h d0;obtain⟨m1,H1,c1,y1,e1,E,r1,T,g1⟩:=(dN u3) e0 d1;obtain⟨m2,H2,c2,y2,e2,A,r2,p2,g2⟩:=(jx (α:=BlkT) (B:=bBlkT) h0 u22 (by kernel_rfl) (by decide) (em_BlkT h0)) e1 d2;replace N:=Rp.mono (E.trans A).heap N;replace T:=Rp.mono A.heap T;obtain⟨rfl,w0⟩:=N;obtain⟨rfl,w1⟩:=T;obtain⟨a2,k2,rfl,w2⟩:=p2;exact⟨_,_,_,⟨y0,y1,y2⟩,e2,(l0.trans (E.trans A)),(LRel.put (off:=0) (sz:=1) (r0.mono (E.trans A).emb) (LRel.put (off:=1) (sz:=1) (r1.mono A.emb) (LRel.put (off:=2) (sz:=1) r2 (LRel.stop hl)))),⟨a2,k2,rfl,w0,w1,w2⟩,U.1,V.1,Z.1,by rw[hx,an],g0,g1,g2⟩
end Go.Proofs.YtknafdcgpaejlaaDoor.me
