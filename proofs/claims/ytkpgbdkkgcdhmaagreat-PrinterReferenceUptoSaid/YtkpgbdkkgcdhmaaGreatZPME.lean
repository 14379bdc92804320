/-
A program as an argument: its data laid into the evaluator's heap; how much it dV is bounded by the bulk of the reading. No condition.
-/
import Derived.Test.YtkpgbdkkgcdhmaaGreatZPBK
import Derived.Test.YtkpgbdkkgcdhmaaGreatRows
import Derived.KernelRfl
noncomputable section
namespace Go.Proofs.YtkpgbdkkgcdhmaaGreat.me
open Go.R w3 l1 pt bk
set_option maxRecDepth 10000
set_option linter.unusedVariables false
set_option linter.unusedSimpArgs false
theorem sum_e: ∀l:List ExpT,dv l=(l.map bkE).sum
 | []=>by rw[dv];rfl
 |e::l=>by rw[dv,sum_e l];rfl
theorem sum_s: ∀l:List StmT,bX l=(l.map bkS).sum
 | []=>by rw[bX];rfl
 |e::l=>by rw[bX,sum_s l];rfl
theorem sum_n: ∀l:List Str,bkN l=(l.map fun s=>1+s.b.length).sum
 | []=>rfl
 |e::l=>by rw[bkN,sum_n l];rfl
theorem sum_f: ∀l:List FunT,lP l=(l.map bkF).sum
 | []=>rfl
 |e::l=>by rw[lP,sum_f l];rfl
theorem sum_a: ∀l:List ArrT,i8 l=(l.map bkA).sum
 | []=>rfl
 |e::l=>by rw[i8,sum_a l];rfl
theorem all_sum{c_ α:Type}{f:α->Nat}: ∀(l:List α) (D:Nat->DataW c_),(∀i y,l[i]?=some y->f y<=Rows.uptoBulk (D i))->(l.map f).sum<=Rows.uptoBulkAll ((List.range l.length).map D)
 | [],_,_=>a0r _
 |y::l,D,h=>by have A:=h 0 y V;have E:=all_sum l (fun i=>D (i+1)) (fun i y O=>h (i+1) y O);rw[a01,List.range_succ_eq_map,a1l,a1l,List.map_map,List.sum_cons];simp only[Rows.uptoBulkAll];exact Nat.add_le_add A E
theorem iT{c_ α:Type}{f:α->Nat}{B:DataW c_->α->Prop}(A: ∀d y,B d y->f y<=Rows.uptoBulk d){d:DataW c_}{l:List α}(h:LB B d l):(l.map f).sum<=Rows.uptoBulk d:=by
 obtain⟨_,D,U,hd,E⟩:=h;rcases hd with rfl|⟨_,rfl⟩
 ·refine a0k (all_sum l D (fun i y O=>A _ _ (E i y O))) ?_;simp only[Rows.uptoBulk];omega
 exact a0r _
theorem str_b{c_:Type}{d:DataW c_}{s:Str}(h:d= .lit (.string s.b)/\s.b.length<=maxLen):1+s.b.length<=Rows.uptoBulk d:=by rw[h.1];simp only[Rows.uptoBulk];omega
theorem sz_of{c_:Type}{l r:List (DataW c_)}{d:DataW c_}{N:Nat}(h:SizeOf.sizeOf (DataW.slice l r)<N)(hd:d∈l):SizeOf.sizeOf d<N:=sz_elem (Nat.lt_succ_of_lt h) hd
theorem u3:Tryz.prog.underlying 3=some (.int .i64):=by kernel_rfl
theorem u2:Tryz.prog.underlying 2=some (.int .i64):=by kernel_rfl
theorem u9:Tryz.prog.underlying 9=some .string:=by kernel_rfl
theorem u44:Tryz.prog.underlying 44=some (.slice 46):=by kernel_rfl
noncomputable def fs46 : Array Field := match Tryz.prog.underlying 46 with | some (.struct fs) => fs | _ => #[]
theorem u46:Tryz.prog.underlying 46=some (.struct fs46):=by kernel_rfl
theorem u51:Tryz.prog.underlying 51=some (.slice 63):=by kernel_rfl
noncomputable def fs63 : Array Field := match Tryz.prog.underlying 63 with | some (.struct fs) => fs | _ => #[]
theorem u63:Tryz.prog.underlying 63=some (.struct fs63):=by kernel_rfl
theorem u50:Tryz.prog.underlying 50=some (.slice 9):=by kernel_rfl
noncomputable def fs53 : Array Field := match Tryz.prog.underlying 53 with | some (.struct fs) => fs | _ => #[]
theorem u53:Tryz.prog.underlying 53=some (.struct fs53):=by kernel_rfl
noncomputable def fs49 : Array Field := match Tryz.prog.underlying 49 with | some (.struct fs) => fs | _ => #[]
theorem u49:Tryz.prog.underlying 49=some (.struct fs49):=by kernel_rfl
theorem u22:Tryz.prog.underlying 22=some (.slice 49):=by kernel_rfl
theorem u23:Tryz.prog.underlying 23=some (.slice 53):=by kernel_rfl
noncomputable def fs25 : Array Field := match Tryz.prog.underlying 25 with | some (.struct fs) => fs | _ => #[]
theorem u25:Tryz.prog.underlying 25=some (.struct fs25):=by kernel_rfl
theorem lp{c_:Type}{enc:TypeId×Value->c_}{w:World}(h0:0<w.heap.size): ∀N,EmR enc Tryz.prog w 46 ExpT (fun d=>SizeOf.sizeOf d<N) (fun d y=>bkE y<=Rows.uptoBulk d)
 |0=>fun hx=>absurd hx (a1W _)
 |N+1=>by
  rename_i μ H n cs x;intro hx h hd;obtain⟨hl,m,ds,ax,ar,hf⟩:=gz u46 hd;have hl:cs.length=5:=hl.trans (by kernel_rfl);have ar:ds.length=5:=ar.trans (by kernel_rfl);obtain⟨x0,d0,f0⟩:=hf 0 3 0 1 (by kernel_rfl) (by kernel_rfl);obtain⟨x1,d1,f1⟩:=hf 1 2 1 1 (by kernel_rfl) (by kernel_rfl);obtain⟨x2,d2,f2⟩:=hf 2 9 2 1 (by kernel_rfl) (by kernel_rfl);obtain⟨x3,d3,f3⟩:=hf 3 3 3 1 (by kernel_rfl) (by kernel_rfl);obtain⟨x4,d4,f4⟩:=hf 4 44 4 1 (by kernel_rfl) (by kernel_rfl);have a3:ds=[x0.1,x1.1,x2.1,x3.1,x4.1]:=a0N fun i=>match i with|0=>f0|1=>f1|2=>f2|3=>f3|4=>f4|i+5=>a0J M
  rw[ax]at hx;obtain⟨m0,H0,c0,y0,e0,l0,r0,O,g0⟩:=(jz u3) h d0;obtain⟨m1,H1,c1,y1,e1,l1,r1,U,g1⟩:=(jz u2) e0 d1;obtain⟨m2,H2,c2,y2,e2,l2,r2,a_,g2⟩:=(iy u9) e1 d2;obtain⟨m3,H3,c3,y3,e3,E,r3,Z,g3⟩:=(jz u3) e2 d3;obtain⟨m4,H4,c4,y4,e4,A,r4,p4,g4⟩:=(iZ (α:=ExpT) (S:=fun d=>SizeOf.sizeOf d<N) (B:=fun d y=>bkE y<=Rows.uptoBulk d) (T:=fun d=>SizeOf.sizeOf d<N) h0 u44 (by kernel_rfl) e_ (lp h0 N) (fun _ _ _ a b=>sz_of a b)) (jj hx f4) e3 d4;replace O:=Rp.mono (l1.trans (l2.trans (E.trans A))).heap O;replace U:=Rp.mono (l2.trans (E.trans A)).heap U;replace a_:=Rp.mono (E.trans A).heap a_;replace Z:=Rp.mono A.heap Z;obtain⟨rfl,w0⟩:=O;clear g0;obtain⟨rfl,w1⟩:=U;clear g1;obtain rfl:=a_;have q2:=str_b g2;obtain⟨rfl,w3⟩:=Z;clear g3;obtain⟨a4,k4,rfl,w4⟩:=p4;have q4:=iT (f:=bkE) (fun d y h=>h) g4;rw[←sum_e]at q4;refine⟨_,_,_,(⟨y0,y1,y2,y3,y4⟩:ExpT),e4,(l0.trans (l1.trans (l2.trans (E.trans A)))),(LRel.put (off:=0) (sz:=1) (r0.mono (l1.trans (l2.trans (E.trans A))).emb) (LRel.put (off:=1) (sz:=1) (r1.mono (l2.trans (E.trans A)).emb) (LRel.put (off:=2) (sz:=1) (r2.mono (E.trans A).emb) (LRel.put (off:=3) (sz:=1) (r3.mono A.emb) (LRel.put (off:=4) (sz:=1) r4 (LRel.stop hl)))))),(ExpT.mkr ⟨a4,k4,V,w0,w1,w3,w4⟩),?_⟩;show bkE (⟨y0,y1,y2,y3,y4⟩:ExpT)<=Rows.uptoBulk _;rw[ax,a3];rw[bk_e];simp only[Rows.uptoBulk,Rows.uptoBulkAll]at *;omega
theorem em_StmT{c_:Type}{enc:TypeId×Value->c_}{w:World}(Z:0<w.heap.size): ∀N,EmR enc Tryz.prog w 63 StmT (fun d=>SizeOf.sizeOf d<N) (fun d y=>bkS y<=Rows.uptoBulk d)
 |0=>fun hx=>absurd hx (a1W _)
 |N+1=>by
  rename_i μ H n cs x;intro hx h hd;obtain⟨hl,m,ds,a3,a2,hf⟩:=gz u63 hd;have hl:cs.length=17:=hl.trans (by kernel_rfl);have a2:ds.length=9:=a2.trans (by kernel_rfl);obtain⟨x0,d0,f0⟩:=hf 0 3 0 1 (by kernel_rfl) (by kernel_rfl);obtain⟨x1,d1,f1⟩:=hf 1 9 1 1 (by kernel_rfl) (by kernel_rfl);obtain⟨x2,d2,f2⟩:=hf 2 9 2 1 (by kernel_rfl) (by kernel_rfl);obtain⟨x3,d3,f3⟩:=hf 3 3 3 1 (by kernel_rfl) (by kernel_rfl);obtain⟨x4,d4,f4⟩:=hf 4 46 4 5 (by kernel_rfl) (by kernel_rfl);obtain⟨x5,d5,f5⟩:=hf 5 46 9 5 (by kernel_rfl) (by kernel_rfl);obtain⟨x6,d6,f6⟩:=hf 6 44 14 1 (by kernel_rfl) (by kernel_rfl);obtain⟨x7,d7,f7⟩:=hf 7 51 15 1 (by kernel_rfl) (by kernel_rfl);obtain⟨x8,d8,f8⟩:=hf 8 51 16 1 (by kernel_rfl) (by kernel_rfl);have cv:ds=[x0.1,x1.1,x2.1,x3.1,x4.1,x5.1,x6.1,x7.1,x8.1]:=a0N fun i=>match i with|0=>f0|1=>f1|2=>f2|3=>f3|4=>f4|5=>f5|6=>f6|7=>f7|8=>f8|i+9=>a0J M
  rw[a3]at hx;obtain⟨m0,H0,c0,y0,e0,l0,r0,p0,g0⟩:=(jz u3) h d0;obtain⟨m1,H1,c1,y1,e1,l1,r1,p1,g1⟩:=(iy u9) e0 d1;obtain⟨m2,H2,c2,y2,e2,l2,r2,p2,g2⟩:=(iy u9) e1 d2;obtain⟨m3,H3,c3,y3,e3,l3,r3,p3,g3⟩:=(jz u3) e2 d3;obtain⟨m4,H4,c4,y4,e4,a_,r4,p4,g4⟩:=(lp Z N) (jj hx f4) e3 d4;obtain⟨m5,H5,c5,y5,e5,U,r5,p5,g5⟩:=(lp Z N) (jj hx f5) e4 d5;obtain⟨m6,H6,c6,y6,e6,O,r6,p6,g6⟩:=(iZ (α:=ExpT) (S:=fun d=>SizeOf.sizeOf d<N) (B:=fun d y=>bkE y<=Rows.uptoBulk d) (T:=fun d=>SizeOf.sizeOf d<N) Z u44 (by kernel_rfl) e_ (lp Z N) (fun _ _ _ a b=>sz_of a b)) (jj hx f6) e5 d6;obtain⟨m7,H7,c7,y7,e7,E,r7,p7,g7⟩:=(iZ (α:=StmT) (S:=fun d=>SizeOf.sizeOf d<N) (B:=fun d y=>bkS y<=Rows.uptoBulk d) (T:=fun d=>SizeOf.sizeOf d<N) Z u51 (by kernel_rfl) e_ (em_StmT Z N) (fun _ _ _ a b=>sz_of a b)) (jj hx f7) e6 d7;obtain⟨m8,H8,c8,y8,e8,A,r8,p8,g8⟩:=(iZ (α:=StmT) (S:=fun d=>SizeOf.sizeOf d<N) (B:=fun d y=>bkS y<=Rows.uptoBulk d) (T:=fun d=>SizeOf.sizeOf d<N) Z u51 (by kernel_rfl) e_ (em_StmT Z N) (fun _ _ _ a b=>sz_of a b)) (jj hx f8) e7 d8;replace p0:=Rp.mono (l1.trans (l2.trans (l3.trans (a_.trans (U.trans (O.trans (E.trans A))))))).heap p0;replace p1:=Rp.mono (l2.trans (l3.trans (a_.trans (U.trans (O.trans (E.trans A)))))).heap p1;replace p2:=Rp.mono (l3.trans (a_.trans (U.trans (O.trans (E.trans A))))).heap p2;replace p3:=Rp.mono (a_.trans (U.trans (O.trans (E.trans A)))).heap p3;replace p4:=Rp.mono (U.trans (O.trans (E.trans A))).heap p4;replace p5:=Rp.mono (O.trans (E.trans A)).heap p5;replace p6:=Rp.mono (E.trans A).heap p6;replace p7:=Rp.mono A.heap p7;obtain⟨rfl,w0⟩:=p0;clear g0;obtain rfl:=p1;have q1:=str_b g1;obtain rfl:=p2;have q2:=str_b g2;obtain⟨rfl,w3⟩:=p3;clear g3;obtain⟨an,ax,rfl,bb,bf,bl,bn⟩:=ExpT.out p4;have q4:=g4;obtain⟨ar,aA,rfl,bt,bw,bF,b0⟩:=ExpT.out p5;have q5:=g5;obtain⟨a6,k6,rfl,w6⟩:=p6;have q6:=iT (f:=bkE) (fun d y h=>h) g6;rw[←sum_e]at q6;obtain⟨a7,k7,rfl,w7⟩:=p7;have q7:=iT (f:=bkS) (fun d y h=>h) g7;rw[←sum_s]at q7;obtain⟨a8,k8,rfl,w8⟩:=p8;have q8:=iT (f:=bkS) (fun d y h=>h) g8;rw[←sum_s]at q8;refine⟨_,_,_,(⟨y0,y1,y2,y3,y4,y5,y6,y7,y8⟩:StmT),e8,(l0.trans (l1.trans (l2.trans (l3.trans (a_.trans (U.trans (O.trans (E.trans A)))))))),(LRel.put (off:=0) (sz:=1) (r0.mono (l1.trans (l2.trans (l3.trans (a_.trans (U.trans (O.trans (E.trans A))))))).emb) (LRel.put (off:=1) (sz:=1) (r1.mono (l2.trans (l3.trans (a_.trans (U.trans (O.trans (E.trans A)))))).emb) (LRel.put (off:=2) (sz:=1) (r2.mono (l3.trans (a_.trans (U.trans (O.trans (E.trans A))))).emb) (LRel.put (off:=3) (sz:=1) (r3.mono (a_.trans (U.trans (O.trans (E.trans A)))).emb) (LRel.put (off:=4) (sz:=5) (r4.mono (U.trans (O.trans (E.trans A))).emb) (LRel.put (off:=9) (sz:=5) (r5.mono (O.trans (E.trans A)).emb) (LRel.put (off:=14) (sz:=1) (r6.mono (E.trans A).emb) (LRel.put (off:=15) (sz:=1) (r7.mono A.emb) (LRel.put (off:=16) (sz:=1) r8 (LRel.stop hl)))))))))),(StmT.mkr ⟨an,ax,ar,aA,a6,k6,a7,k7,a8,k8,V,w0,w3,bb,bf,bl,bt,bw,bF,bn,b0,w6,w7,w8⟩),?_⟩;show bkS (⟨y0,y1,y2,y3,y4,y5,y6,y7,y8⟩:StmT)<=Rows.uptoBulk _;rw[a3,cv];rw[bk_s];simp only[Rows.uptoBulk,Rows.uptoBulkAll]at *;omega
theorem em_FunT{c_:Type}{enc:TypeId×Value->c_}{w:World}(O:0<w.heap.size):EmC enc Tryz.prog w 53 FunT (fun d y=>bkF y<=Rows.uptoBulk d):=fun{μ H n cs x} h hd=>by
 obtain⟨hl,m,ds,ba,an,hf⟩:=gz u53 hd;have hl:cs.length=9:=hl.trans (by kernel_rfl);have an:ds.length=5:=an.trans (by kernel_rfl);obtain⟨x0,d0,f0⟩:=hf 0 9 0 1 (by kernel_rfl) (by kernel_rfl);obtain⟨x1,d1,f1⟩:=hf 1 50 1 1 (by kernel_rfl) (by kernel_rfl);obtain⟨x2,d2,f2⟩:=hf 2 50 2 1 (by kernel_rfl) (by kernel_rfl);obtain⟨x3,d3,f3⟩:=hf 3 51 3 1 (by kernel_rfl) (by kernel_rfl);obtain⟨x4,d4,f4⟩:=hf 4 46 4 5 (by kernel_rfl) (by kernel_rfl);have a9:ds=[x0.1,x1.1,x2.1,x3.1,x4.1]:=a0N fun i=>match i with|0=>f0|1=>f1|2=>f2|3=>f3|4=>f4|i+5=>a0J M
 obtain⟨m0,H0,c0,y0,e0,l0,r0,Z,g0⟩:=(iy u9) h d0;obtain⟨m1,H1,c1,y1,e1,l1,r1,p1,g1⟩:=(gA (α:=Str) (B:=fun d s=>d= .lit (.string s.b)/\s.b.length<=maxLen) O u50 (by kernel_rfl) e_ (iy u9)) e0 d1;obtain⟨m2,H2,c2,y2,e2,l2,r2,p2,g2⟩:=(gA (α:=Str) (B:=fun d s=>d= .lit (.string s.b)/\s.b.length<=maxLen) O u50 (by kernel_rfl) e_ (iy u9)) e1 d2;obtain⟨m3,H3,c3,y3,e3,E,r3,p3,g3⟩:=(gA (α:=StmT) (B:=fun d y=>bkS y<=Rows.uptoBulk d) O u51 (by kernel_rfl) e_ (EmR.c (em_StmT O))) e2 d3;obtain⟨m4,H4,c4,y4,e4,A,r4,p4,g4⟩:=(EmR.c (lp O)) e3 d4;replace Z:=Rp.mono (l1.trans (l2.trans (E.trans A))).heap Z;replace p1:=Rp.mono (l2.trans (E.trans A)).heap p1;replace p2:=Rp.mono (E.trans A).heap p2;replace p3:=Rp.mono A.heap p3;obtain rfl:=Z;have q0:=str_b g0;obtain⟨a1,k1,rfl,w1⟩:=p1;have q1:=iT (f:=fun s=>1+s.b.length) (fun d y h=>str_b h) g1;rw[←sum_n]at q1;obtain⟨a2,k2,rfl,w2⟩:=p2;have q2:=iT (f:=fun s=>1+s.b.length) (fun d y h=>str_b h) g2;rw[←sum_n]at q2;obtain⟨a3,k3,rfl,w3⟩:=p3;have q3:=iT (f:=bkS) (fun d y h=>h) g3;rw[←sum_s]at q3;obtain⟨U,a_,rfl,ax,aA,a0,a4⟩:=ExpT.out p4;have q4:=g4;refine⟨_,_,_,(⟨y0,y1,y2,y3,y4⟩:FunT),e4,(l0.trans (l1.trans (l2.trans (E.trans A)))),(LRel.put (off:=0) (sz:=1) (r0.mono (l1.trans (l2.trans (E.trans A))).emb) (LRel.put (off:=1) (sz:=1) (r1.mono (l2.trans (E.trans A)).emb) (LRel.put (off:=2) (sz:=1) (r2.mono (E.trans A).emb) (LRel.put (off:=3) (sz:=1) (r3.mono A.emb) (LRel.put (off:=4) (sz:=5) r4 (LRel.stop hl)))))),⟨a1,k1,a2,k2,a3,k3,U,a_,V,ax,aA,a0,w1,w2,w3,a4⟩,?_⟩;show bkF (⟨y0,y1,y2,y3,y4⟩:FunT)<=Rows.uptoBulk _;rw[ba,a9];unfold bkF;simp only[Rows.uptoBulk,Rows.uptoBulkAll]at *;omega
theorem em_ArrT{c_:Type}{enc:TypeId×Value->c_}{w:World}(h0:0<w.heap.size):EmC enc Tryz.prog w 49 ArrT (fun d y=>bkA y<=Rows.uptoBulk d):=fun{μ H n cs x} h hd=>by
 obtain⟨hl,m,ds,a0,al,hf⟩:=gz u49 hd;have hl:cs.length=2:=hl.trans (by kernel_rfl);have al:ds.length=2:=al.trans (by kernel_rfl);obtain⟨x0,d0,f0⟩:=hf 0 9 0 1 (by kernel_rfl) (by kernel_rfl);obtain⟨x1,U,f1⟩:=hf 1 3 1 1 (by kernel_rfl) (by kernel_rfl);have ax:ds=[x0.1,x1.1]:=a0N fun i=>match i with|0=>f0|1=>f1|i+2=>a0J M
 obtain⟨m0,H0,c0,E,a_,l0,r0,A,g0⟩:=(iy u9) h d0;obtain⟨m1,H1,c1,O,Z,l1,r1,p1,g1⟩:=(jz u3) a_ U;replace A:=Rp.mono l1.heap A;obtain rfl:=A;have q0:=str_b g0;obtain⟨rfl,w1⟩:=p1;clear g1;refine⟨_,_,_,(⟨E,O⟩:ArrT),Z,(l0.trans l1),(LRel.put (off:=0) (sz:=1) (r0.mono l1.emb) (LRel.put (off:=1) (sz:=1) r1 (LRel.stop hl))),⟨V,w1⟩,?_⟩;show bkA (⟨E,O⟩:ArrT)<=Rows.uptoBulk _;rw[a0,ax];unfold bkA;simp only[Rows.uptoBulk,Rows.uptoBulkAll]at *;omega
theorem em_PrgT{c_:Type}{enc:TypeId×Value->c_}{w:World}(A:0<w.heap.size):EmC enc Tryz.prog w 25 PrgT (fun d y=>bkP y<=Rows.uptoBulk d):=fun{μ H n cs x} h hd=>by
 obtain⟨hl,m,ds,a0,al,hf⟩:=gz u25 hd;have hl:cs.length=2:=hl.trans (by kernel_rfl);have al:ds.length=2:=al.trans (by kernel_rfl);obtain⟨x0,d0,f0⟩:=hf 0 22 0 1 (by kernel_rfl) (by kernel_rfl);obtain⟨x1,d1,f1⟩:=hf 1 23 1 1 (by kernel_rfl) (by kernel_rfl);have ax:ds=[x0.1,x1.1]:=a0N fun i=>match i with|0=>f0|1=>f1|i+2=>a0J M
 obtain⟨m0,H0,c0,O,e0,l0,r0,E,g0⟩:=(gA (α:=ArrT) (B:=fun d y=>bkA y<=Rows.uptoBulk d) A u22 (by kernel_rfl) e_ (em_ArrT A)) h d0;obtain⟨m1,H1,c1,U,e1,l1,r1,p1,g1⟩:=(gA (α:=FunT) (B:=fun d y=>bkF y<=Rows.uptoBulk d) A u23 (by kernel_rfl) e_ (em_FunT A)) e0 d1;replace E:=Rp.mono l1.heap E;obtain⟨a_,k0,rfl,w0⟩:=E;have q0:=iT (f:=bkA) (fun d y h=>h) g0;rw[←sum_a]at q0;obtain⟨Z,k1,rfl,w1⟩:=p1;have q1:=iT (f:=bkF) (fun d y h=>h) g1;rw[←sum_f]at q1;refine⟨_,_,_,(⟨O,U⟩:PrgT),e1,(l0.trans l1),(LRel.put (off:=0) (sz:=1) (r0.mono l1.emb) (LRel.put (off:=1) (sz:=1) r1 (LRel.stop hl))),⟨a_,k0,Z,k1,V,w0,w1⟩,?_⟩;show bkP (⟨O,U⟩:PrgT)<=Rows.uptoBulk _;rw[a0,ax];unfold bkP;simp only[Rows.uptoBulk,Rows.uptoBulkAll]at *;omega
theorem nil_of{P:Program}{w:World}{base:Nat}{u e:TypeId}{v:Value}(E: ¬0<w.heap.size)(U:P.underlying u=some (.slice e))(h:Cell.okWide P w .any base u v):v=sL none 0 0:=by
 have A:Cell.ok P w .any base u v:=by unfold Cell.okWide at h;rw[U]at h;cases v<;>exact h
 unfold Cell.ok at A;rw[U]at A;cases v with
 |slice a len cap=>
  cases a with
  |none=>match len,cap,A with|0,0,_=>rfl
  |some a=>
   obtain⟨_,_,_,Z,al,cells,hs,_⟩:=A
   unfold World.shape? at hs
   split at hs
   ·rename_i O;have:=(a0y.1 O).1;omega
   cases hs
 |_=>exact A.elim
theorem prog_arg{c_:Type}{enc:TypeId×Value->c_}{w:World}{μ:Emb}{H:Heap}{base:Nat}{v:Value}{d:DataW c_}{ps:List MemPlace}(h:Em w μ H)(E:Value.okWide Tryz.prog w .any base 25 v)
  (hd:DataW.Trod enc Tryz.prog w 0 (fun _=>true) true 25 v d ps): ∃μ' H' c y,Em w μ' H'/\EmLe μ H μ' H'/\LRel μ' c v.cells.toList/\Rp.rep H'.get c (y:PrgT)/\bkP y<=Rows.uptoBulk d:=by
 by_cases A:0<w.heap.size
 ·exact EmC.arg (α:=PrgT) (B:=fun d y=>bkP y<=Rows.uptoBulk d) (em_PrgT A) h hd
 unfold Value.okWide at E
 rw[u25]at E
 obtain⟨cs,rfl,O,ts,al,_,hc⟩:=E
 obtain rfl:[22,23]=ts:=Option.some.inj (Eq.trans (by kernel_rfl) al)
 have O:cs.size=2:=O.trans (by kernel_rfl)
 have k: ∀i (hi:i<2),cs[i]?=some (sL none 0 0):=fun i hi=>by
  have U:cs[i]?=some cs[i]:=a0D M;obtain⟨u,hu,Z⟩:=hc i _ U;rw[U];rcases (by omega:i=0\/i=1) with rfl|rfl
  ·obtain rfl:22=u:=Option.some.inj hu;exact congrArg some (nil_of A u22 Z)
  obtain rfl:23=u:=Option.some.inj hu;exact congrArg some (nil_of A u23 Z)
 have e:(Value.agg cs).cells.toList=[sL none 0 0,sL none 0 0]:=a0N fun i=>by
  show cs.toList[i]?=_;rw[a1N];match i with
  |0=>exact k 0 M
  |1=>exact k 1 M
  |i+2=>rw[Array.getElem?_eq_none M];rfl
 rw[e]
 exact⟨μ,H,[sL none 0 0,sL none 0 0],⟨[],[]⟩,h,.refl _ _,.cons (.atom _ V) (.cons (.atom _ V) .nil),⟨none,0,none,0,V,.nil,.nil⟩,a0r _⟩
end Go.Proofs.YtkpgbdkkgcdhmaaGreat.me
