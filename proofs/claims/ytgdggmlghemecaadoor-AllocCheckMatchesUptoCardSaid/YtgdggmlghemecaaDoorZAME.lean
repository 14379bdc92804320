/-
Arguments that are structs: their data laid into the evaluator's heap. No condition beyond those that each statement names.
-/
import Derived.Test.YtgdggmlghemecaaDoorZANV
import Derived.KernelRfl
noncomputable section
namespace Go.Proofs.YtgdggmlghemecaaDoor.me
open Go.R Go.Proofs.YtgdggmlghemecaaDoor.nv
set_option linter.unusedVariables false
set_option linter.unusedSimpArgs false
theorem u3:Tryd.prog.underlying 3=some (.int .i64):=by kernel_rfl
theorem u4:Tryd.prog.underlying 4=some .bool:=by kernel_rfl
theorem u22:Tryd.prog.underlying 22=some (.slice 3):=by kernel_rfl
theorem u23:Tryd.prog.underlying 23=some (.slice 64):=by kernel_rfl
theorem u24:Tryd.prog.underlying 24=some (.slice 67):=by kernel_rfl
noncomputable def fs64 : Array Field := match Tryd.prog.underlying 64 with | some (.struct fs) => fs | _ => #[]
theorem u64:Tryd.prog.underlying 64=some (.struct fs64):=by kernel_rfl
def bLocT{c_:Type}(d:DataW c_)(x:LocT):Prop:= ∃d0 z,d= .agg [d0,z]/\(fun _ _=>True) d0 x.inS/\(fun _=>in64) z x.idx
theorem em_LocT{c_:Type}{enc:TypeId×Value->c_}{w:World}(h0:0<w.heap.size):EmC enc Tryd.prog w 64 LocT bLocT:=fun{μ H n cs x} h hd=>by
 obtain⟨hl,m,ds,hx,z,hf⟩:=kv u64 hd;have hl:cs.length=2:=hl.trans (by kernel_rfl);have z:ds.length=2:=z.trans (by kernel_rfl);obtain⟨N,d0,f0⟩:=hf 0 4 0 1 (by kernel_rfl) (by kernel_rfl);obtain⟨T,U,f1⟩:=hf 1 3 1 1 (by kernel_rfl) (by kernel_rfl);have ai:ds=[N.1,T.1]:=a1b fun i=>match i with|0=>f0|1=>f1|i+2=>a0L M
 obtain⟨m0,H0,c0,y0,a_,l0,r0,E,g0⟩:=(emC_bool u4) h d0;obtain⟨m1,H1,c1,y1,Z,A,r1,p1,g1⟩:=(gT u3) a_ U;replace E:=Rp.mono A.heap E;obtain rfl:=E;obtain⟨rfl,w1⟩:=p1;exact⟨_,_,_,⟨y0,y1⟩,Z,(l0.trans A),(LRel.put (off:=0) (sz:=1) (r0.mono A.emb) (LRel.put (off:=1) (sz:=1) r1 (LRel.stop hl))),⟨V,w1⟩,N.1,T.1,by rw[hx,ai],g0,g1⟩
noncomputable def fs67 : Array Field := match Tryd.prog.underlying 67 with | some (.struct fs) => fs | _ => #[]
theorem u67:Tryd.prog.underlying 67=some (.struct fs67):=by kernel_rfl
def bSpiT{c_:Type}(d:DataW c_)(x:SpiT):Prop:= ∃d0 z A E N,d= .agg [d0,z,A,E,N]/\(fun _=>in64) d0 x.reg/\(fun _=>in64) z x.why/\(fun _=>in64) A x.blk/\(fun _=>in64) E x.idx/\(LB (fun _=>in64)) N x.oth
theorem em_SpiT{c_:Type}{enc:TypeId×Value->c_}{w:World}(h0:0<w.heap.size):EmC enc Tryd.prog w 67 SpiT bSpiT:=fun{μ H n cs x} h hd=>by
 obtain⟨hl,m,ds,hx,ad,z⟩:=kv u67 hd;have hl:cs.length=5:=hl.trans (by kernel_rfl);have ad:ds.length=5:=ad.trans (by kernel_rfl);obtain⟨x0,d0,f0⟩:=z 0 3 0 1 (by kernel_rfl) (by kernel_rfl);obtain⟨x1,d1,f1⟩:=z 1 3 1 1 (by kernel_rfl) (by kernel_rfl);obtain⟨x2,d2,f2⟩:=z 2 3 2 1 (by kernel_rfl) (by kernel_rfl);obtain⟨x3,d3,f3⟩:=z 3 3 3 1 (by kernel_rfl) (by kernel_rfl);obtain⟨x4,d4,f4⟩:=z 4 22 4 1 (by kernel_rfl) (by kernel_rfl);have an:ds=[x0.1,x1.1,x2.1,x3.1,x4.1]:=a1b fun i=>match i with|0=>f0|1=>f1|2=>f2|3=>f3|4=>f4|i+5=>a0L M
 obtain⟨m0,H0,c0,y0,e0,l0,r0,U,g0⟩:=(gT u3) h d0;obtain⟨m1,H1,c1,y1,e1,T,r1,a_,g1⟩:=(gT u3) e0 d1;obtain⟨m2,H2,c2,y2,e2,N,r2,Z,g2⟩:=(gT u3) e1 d2;obtain⟨m3,H3,c3,y3,e3,E,r3,p3,g3⟩:=(gT u3) e2 d3;obtain⟨m4,H4,c4,y4,e4,A,r4,p4,g4⟩:=(kw (α:=Int) (B:=(fun _=>in64)) h0 u22 (by kernel_rfl) e_ (gT u3)) e3 d4;replace U:=Rp.mono (T.trans (N.trans (E.trans A))).heap U;replace a_:=Rp.mono (N.trans (E.trans A)).heap a_;replace Z:=Rp.mono (E.trans A).heap Z;replace p3:=Rp.mono A.heap p3;obtain⟨rfl,w0⟩:=U;obtain⟨rfl,w1⟩:=a_;obtain⟨rfl,w2⟩:=Z;obtain⟨rfl,w3⟩:=p3;obtain⟨a4,k4,rfl,w4⟩:=p4;exact⟨_,_,_,⟨y0,y1,y2,y3,y4⟩,e4,(l0.trans (T.trans (N.trans (E.trans A)))),(LRel.put (off:=0) (sz:=1) (r0.mono (T.trans (N.trans (E.trans A))).emb) (LRel.put (off:=1) (sz:=1) (r1.mono (N.trans (E.trans A)).emb) (LRel.put (off:=2) (sz:=1) (r2.mono (E.trans A).emb) (LRel.put (off:=3) (sz:=1) (r3.mono A.emb) (LRel.put (off:=4) (sz:=1) r4 (LRel.stop hl)))))),⟨a4,k4,V,w0,w1,w2,w3,w4⟩,x0.1,x1.1,x2.1,x3.1,x4.1,by rw[hx,an],g0,g1,g2,g3,g4⟩
noncomputable def fs26 : Array Field := match Tryd.prog.underlying 26 with | some (.struct fs) => fs | _ => #[]
theorem u26:Tryd.prog.underlying 26=some (.struct fs26):=by kernel_rfl
def bAllT{c_:Type}(d:DataW c_)(x:AllT):Prop:= ∃d0 z A,d= .agg [d0,z,A]/\(LB bLocT) d0 x.locs/\(LB bSpiT) z x.spi/\(fun _=>in64) A x.slots
theorem em_AllT{c_:Type}{enc:TypeId×Value->c_}{w:World}(E:0<w.heap.size):EmC enc Tryd.prog w 26 AllT bAllT:=fun{μ H n cs x} h hd=>by
 obtain⟨hl,m,ds,hx,z,hf⟩:=kv u26 hd;have hl:cs.length=3:=hl.trans (by kernel_rfl);have z:ds.length=3:=z.trans (by kernel_rfl);obtain⟨a_,d0,f0⟩:=hf 0 23 0 1 (by kernel_rfl) (by kernel_rfl);obtain⟨Z,d1,f1⟩:=hf 1 24 1 1 (by kernel_rfl) (by kernel_rfl);obtain⟨x2,d2,f2⟩:=hf 2 3 2 1 (by kernel_rfl) (by kernel_rfl);have al:ds=[a_.1,Z.1,x2.1]:=a1b fun i=>match i with|0=>f0|1=>f1|2=>f2|i+3=>a0L M
 obtain⟨m0,H0,c0,y0,e0,l0,r0,T,g0⟩:=(kw (α:=LocT) (B:=bLocT) E u23 (by kernel_rfl) e_ (em_LocT E)) h d0;obtain⟨m1,H1,c1,y1,e1,N,r1,U,g1⟩:=(kw (α:=SpiT) (B:=bSpiT) E u24 (by kernel_rfl) e_ (em_SpiT E)) e0 d1;obtain⟨m2,H2,c2,y2,e2,A,r2,p2,g2⟩:=(gT u3) e1 d2;replace T:=Rp.mono (N.trans A).heap T;replace U:=Rp.mono A.heap U;obtain⟨a0,k0,rfl,w0⟩:=T;obtain⟨a1,k1,rfl,w1⟩:=U;obtain⟨rfl,w2⟩:=p2;exact⟨_,_,_,⟨y0,y1,y2⟩,e2,(l0.trans (N.trans A)),(LRel.put (off:=0) (sz:=1) (r0.mono (N.trans A).emb) (LRel.put (off:=1) (sz:=1) (r1.mono A.emb) (LRel.put (off:=2) (sz:=1) r2 (LRel.stop hl)))),⟨a0,k0,a1,k1,V,w2,w0,w1⟩,a_.1,Z.1,x2.1,by rw[hx,al],g0,g1,g2⟩
end Go.Proofs.YtgdggmlghemecaaDoor.me
