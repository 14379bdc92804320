/-
The parser of the program. No condition.
-/
import Derived.Test.YtapgbjedgcpffaaGreatZRL1
import Derived.Test.YtapgbjedgcpffaaGreatZRPF
noncomputable section
namespace Go.Proofs.YtapgbjedgcpffaaGreat.pg
open Go.R
set_option maxRecDepth 10000
set_option linter.unusedVariables false
set_option linter.unusedSimpArgs false
variable (ex:FuncId) {F:Fz} {H:Heap} {R:List Fp}
open w1 w3 l1 pt pa pb pc pd pe pf
theorem kN: ∀(f:Nat) (s:List UInt8) (a:Nat),(dX f s a).1.length<=s.length-a/\∀t∈(dX f s a).1,t.text.b.length<=s.length/\0<=t.at_/\t.at_<=(s.length:Int)
 |0,s,a=>⟨a0l _,fun t h=>by cases h⟩
 |f+1,s,a=>by
  rw[dX];split
  ·next h=>
   split
   ·next e=>
    have q:=mG (s:=s.drop a) (by rw[a0a];omega);obtain⟨T,E⟩:=kN f s (a+(aF (s.drop a)).2.1.length+spl false (s.drop (a+(aF (s.drop a)).2.1.length)));have U:=q.2.1 e;have O:=q.1;rw[a0a]at O;unfold consT;split
    ·refine⟨?_,fun t Y=>?_⟩
     ·show _+1<=_;omega
     rcases a0m.1 Y with rfl|Y
     ·refine⟨?_,a1C _,?_⟩
      ·show(aF (s.drop a)).2.1.length<=_;omega
      show(a:Int)<=_;omega
     exact E t Y
    exact⟨by omega,E⟩
   exact⟨a0l _,fun t h=>by cases h⟩
  exact⟨a0l _,fun t h=>by cases h⟩
theorem bA(s:List UInt8):(aL s).1.length<=20000/\∀i,((aL s).1.getD i default).text.b.length<=1000000:=by
 unfold aL;split
 ·exact⟨a0l _,fun i=>a0l _⟩
 obtain⟨O,E⟩:=kN (s.length+1) s (spl false s);refine⟨by omega,fun i=>?_⟩;rcases a0c i (dX (s.length+1) s (spl false s)).1.length with hi|hi
 ·rw[a08,a09 hi];have:=(E _ (a0E hi)).1;show((dX (s.length+1) s (spl false s)).1[i]).text.b.length<=_;omega
 rw[bh hi];exact a0l _
theorem scan_at(s:List UInt8)(h:s.length<1000000)(i:Int):in64 (offV (aL s).1 i (s.length:Int)):=by
 unfold offV;split
 ·unfold aL;split
  ·show in64 0;decide
  obtain⟨_,E⟩:=kN (s.length+1) s (spl false s);rcases a0c i.toNat (dX (s.length+1) s (spl false s)).1.length with hi|hi
  ·rw[a08,a09 hi];have:=(E _ (a0E hi)).2;show in64 ((dX (s.length+1) s (spl false s)).1[i.toNat]).at_;omega
  rw[bh hi];show in64 0;decide
 omega
theorem Oc.kf{α:Type}{ts:List Token}{w:List UInt8}{g:Nat->Unit->Nat->Rs α}{b O c:Bool}{i T j:Int}{x:α}(q:j=i/\c=b/\(b=false->¬isK ts i.toNat w=true))(E:0<=i)(h:O=true/\T=j):Oc (fun n=>bnd (keyM ts w i.toNat) (g n)) b i x T O:=⟨fun _=>⟨h.1,h.2.trans q.1⟩,fun hb=>by
 rw[h.1,show(fun n=>bnd (keyM ts w i.toNat) (g n))=fun _=> .error i.toNat from funext fun n=>by unfold keyM;rw[if_neg (q.2.2 hb)];rfl];exact .fail (by have:=h.2;have:=q.1;omega)⟩
theorem Oc.ky{α:Type}{ts:List Token}{w:List UInt8}{g:Nat->Unit->Nat->Rs α}{b O c:Bool}{i T j:Int}{x:α}(q:b=false/\isK ts i.toNat w=true/\j=i+1/\c=false)(E:0<=i)(h:Oc (fun n=>g n () j.toNat) c j x T O):Oc (fun n=>bnd (keyM ts w i.toNat) (g n)) b i x T O:=Oc.of q.1 ((h.out q.2.2.2).eqf (funext fun n=>by unfold keyM;rw[if_pos q.2.1,aU q E];rfl))
theorem pr_exit{ts:List Token}{O:List ArrT}{T:List FunT}{r:RdrT}(E:0<=r.at_)(h:r.bad=false->(ts.length:Int)<=r.at_):Oc (fun n=>jB ts n O T r.at_.toNat) r.bad r.at_ (O,T) r.at_ r.bad:=by
 cases hb:r.bad with
 |true=>exact Oc.bad V
 |false=>exact Oc.succ (Oc.iteT (fun _=>show ts.length<=r.at_.toNat by have:=h hb;omega) (Oc.val E fun _=>rfl)) (fun _=>jB.eq_2 ..)
def ParR(s:List UInt8)(p:PrgT)(e:ErrT):Prop:=
 if(aL s).2.1=0 then ∃(x:List ArrT×List FunT) (i:Int) (b:Bool),Outc (fun n=>jB (aL s).1 n [] [] 0) x i b/\i<=((aL s).1.length:Int)/\p=(if b then⟨[],[]⟩ else⟨x.1,x.2⟩)/\e=(if b then⟨2,offV (aL s).1 i (s.length:Int)⟩ else⟨0,0⟩)
 else p=⟨[],[]⟩/\e=⟨(aL s).2.1,(aL s).2.2⟩
theorem pr_err{s:List UInt8}(h:(aL s).2.1≠0):ParR s ⟨[],[]⟩ ⟨(aL s).2.1,(aL s).2.2⟩:=by unfold ParR;rw[if_neg h];exact⟨V,V⟩
theorem pr_bad{s:List UInt8}{x:List ArrT×List FunT}{i:Int}{b:Bool}(h:(aL s).2.1=0)(w:Oc (fun n=>jB (aL s).1 n [] [] 0) false 0 x i b)(hb:b=true)(hi:i<=((aL s).1.length:Int)):ParR s ⟨[],[]⟩ ⟨2,offV (aL s).1 i (s.length:Int)⟩:=by unfold ParR;rw[if_pos h];exact⟨x,i,b,w.out V,hi,by rw[hb];rfl,by rw[hb];rfl⟩
theorem pr_ok{s:List UInt8}{E:List ArrT}{O:List FunT}{i:Int}{b:Bool}(h:(aL s).2.1=0)(w:Oc (fun n=>jB (aL s).1 n [] [] 0) false 0 (E,O) i b)(hb:b=false)(hi:i<=((aL s).1.length:Int)):ParR s ⟨E,O⟩ ⟨0,0⟩:=by unfold ParR;rw[if_pos h];exact⟨_,i,b,w.out V,hi,by rw[hb];rfl,by rw[hb];rfl⟩
theorem ParR.uniq{s:List UInt8}{p q:PrgT}{e f:ErrT}(h:ParR s p e)(k:ParR s q f):p=q/\e=f:=by
 unfold ParR at h k;split at h
 ·next E=>
  rw[if_pos E]at k;obtain⟨x,i,b,h1,_,O,T⟩:=h;obtain⟨y,j,c,k1,_,k2,U⟩:=k;obtain⟨Y,Z,e3⟩:=h1.uniq k1;subst Y Z;cases b with
  |true=>exact⟨O.trans k2.symm,T.trans U.symm⟩
  |false=>obtain rfl:=e3 V;exact⟨O.trans k2.symm,T.trans U.symm⟩
 next E=>
 rw[if_neg E]at k;exact⟨h.1.trans k.1.symm,h.2.trans k.2.symm⟩
set_option maxHeartbeats 800000 in
theorem Parse_c(s:List UInt8)(hs:HS (.of H []) F H [] R)(kk:s.length<1000000):kKt ex 7 [(tX s)] H fun v H'=> ∃(p:PrgT) (e1:Option Addr) (f5:Nat) (e2:Option Addr) (f6:Nat) (e:ErrT) (F':Fz),Fz.le F F'/\HS (.of H []) F' H' [] R/\v= .tuple ⟨[.agg ⟨[sL e1 p.arrs.length f5,sL e2 p.funs.length f6]⟩,.agg ⟨[iI e.why,iI e.at_]⟩]⟩/\SR F' (sL e1 p.arrs.length f5) p.arrs/\SR F' (sL e2 p.funs.length f6) p.funs/\in64 e.why/\in64 e.at_/\(ParR s p e):=by
 have qv:=(bA s).1;refine av Tryz.func7 V V (ai 1 V (ab (zn hs V fun b1 H2 kl=>zn kl V fun b3 H4 g8=>ah 2 V ?_)));refine ab (zm _ (zc (l1.scan_c ex s (HS.call g8) M) ?_));rintro _ H5 ⟨dn,dt,l5,p5,e5,F5,fb,f3,rfl,hq,kd,ki,rfl,rfl⟩;replace f3:=HS.back g8 V f3;refine dA 3 2 12 13 [9] [(12,(sL dn _ dt)),(13,(aG [_,_]))] Hn_ V V fun _=>zn f3 V fun b7 H8 kn=>sgo 2 6 1 0 [4] [(4,(sL dn _ dt))] (Hr_ 7 3 Hn_) kn V V fun o8 H9 ba=>ah 3 V (cP 1 14 16 [] [(16,(.bool ((ErrT.mk _ _).why !=0)))] (Hr_ 1 3 Hn_) ba V V fun _=>zi 1 2 (fun e3=>?_) fun e3=>?_)
 ·try simp only[BS]at e3
  refine aC V (de 2 17 18 [] [(17,(aG [_,_])),(18,(aG [_,_]))] (Hr_ 1 3 Hn_) ba V V fun _=>iz (id:= .x [b1]) (gR (q:=0) ba.log0 V V V V V V V V V) V (by rintro _ _ _ ⟨_,hwr⟩;exact fY V V (Wr.did hwr)) (⟨.inr (HS.nin ba (i:=3) (j:=0) V V e_ (List.Mem.head _)),⟨.inl V,trivial⟩⟩) ?_);rintro _ hX _ ⟨bl,_⟩ hH g2;replace bl:=HS.lg bl ba g2;generalize ({hX with log:=hH}:Heap)=l3 at bl⊢;refine sdo 1 1 0 [] [] (Hr_ 3 1 Hn_) bl V V fun og oK c4=>bt 1 V (ae ⟨.inr V,_,(rC V (bS V V (h_ c4 V) V) (rC V (bS V V (i_ c4 V) V) rN)),(⟨([]:List ArrT),([]:List FunT)⟩:PrgT),_,0,_,0,_,_,(fb),(HS.forget c4),V,(SR.nil:SR F5 _ _),(SR.nil:SR F5 _ _),M,M,(pr_err X)⟩)
 try simp only[BS]at e3
 refine ab (wro 4 0 [] 19 22 [] [(22,(aG [_,_,_,_]))] trivial V V fun _=>dB (cV ba V V) V V ?_);rintro _ oL _ ⟨a0,rfl,hr,_⟩;refine za (pT a0 0) (ah 2 V (ab (zn hr V fun g4 oM ht=>ah 3 V ?_)));obtain⟨hV,e8,hu,ho,oq⟩:=OS.frz hq ht (i:=2) V;have hv:=HS.snoc hu;have hx:=HS.snoc hv;refine aq (fun(mm:Nat) f H'=> ∃(al:List ArrT) (fl:List FunT) (rr:RdrT) (a2:Option Addr) (a4:Nat) (an:Fp) (T:Option Addr) (Y:Nat) (ax:Fp) (U:Option Addr) (Z:Nat) (F':Fz),Fz.le hV F'/\HS _ F' H' [[(b1,.cells [_,_] _ _)],[(b3,.cells [_,_] _ _)],[],_,[(a0,.cells [(sL a2 rr.l.length a4),(.int _ rr.at_),(.int _ rr.fin),(.bool rr.bad)] _ _)],[(g4,.cells [(sL T al.length Y),(sL U fl.length Z)] _ _)],an,ax] R/\SR F' (sL a2 rr.l.length a4) rr.l/\OS F' (sL T al.length Y) al an/\OS F' (sL U fl.length Z) fl ax/\aJ f [(2,(pT b1 0)),(3,(pT b3 0)),(4,(sL dn ((aL s).1).length dt)),(6,(pT a0 0)),(7,(pT g4 0))]/\mm=2 *((aL s).1.length-rr.at_.toNat)+(!rr.bad).toNat/\(rr.l=(aL s).1)/\(0<=rr.at_/\rr.at_<=((aL s).1.length:Int))/\(rr.fin=(s.length:Int))/\((al.length:Int)<=rr.at_/\(fl.length:Int)<=rr.at_)/\(∀x i9 b9,Oc (fun n=>jB (aL s).1 n al fl rr.at_.toNat) rr.bad rr.at_ x i9 b9->Oc (fun n=>jB (aL s).1 n [] [] 0) false 0 x i9 b9)) _ ⟨([]:List ArrT),([]:List FunT),(⟨(aL s).1,0,(s.length:Int),false⟩:RdrT),dn,dt,[],none,0,[],none,0,_,fR,hx,ho,(OS.nil:OS _ (sL none 0 0) ([]:List ArrT) []),(OS.nil:OS _ (sL none 0 0) ([]:List FunT) []),⟨V,V,V,V,V,trivial⟩,V,k_,(⟨Int.le_refl _,a1C _⟩),k_,(⟨Int.le_refl _,Int.le_refl _⟩),(by intro x9 i9 b9 h9;exact h9)⟩ ?_;rintro ov o7 oN ⟨al,fl,rr,a2,a4,an,T,Y,ax,U,Z,oB,a7,a1,a9,O,E,fk,rfl,g5,g6,g7,o9,hw⟩ dd;refine az _ fk (fun _=>?_);clear fk;refine ai 2 V (cP 1 24 37 [] [(37,(.bool ((!rr.bad)&&(decide (rr.at_<(((aL s).1).length:Int))))))] (Hr_ 3 4 (Ho_ 9 (.o (iI _)) (fun(g1:_)=>(ql 3 1 (HS.hc a1 (i:=4) V) V V)) Hn_)) a1 V V fun _=>zi 4 6 (fun b4=>?_) fun b4=>?_)
 ·try simp only[BS]at b4
  have g9:=b4;refine ab (zm (pT a0 0) (zc (pa.cG _ ex rr _ (.mk (HS.callOwn a1 (i:=4) V) a9 M M)) ?_));rintro _ oO ⟨pk,ow,h2,k0,oC,a8,a5,rfl,i1,i2,b8,rfl,hg,he,mx,nm,n7⟩;replace a5:=a1.bO a5;replace O:=O.mono a8;replace E:=E.mono a8;refine za _ (ah 1 V (zi 1 1 (fun b5=>?_) fun b5=>?_))
  ·try simp only[BS]at b5
   have f7:=hg b5;refine ab (zm (pT a0 0) (zc (pa.lJ _ ex _ (.mk (HS.callOwn a5 (i:=4) V) b8 M M)) ?_));rintro _ oP ⟨po,ox,h3,k3,oD,co,b0,rfl,i3,i4,f8,n5,m0,nn,n9,e6⟩;replace b0:=a5.bO b0;refine zm (pT a0 0) (zc (pb.small_c _ ex _ (.mk (HS.callOwn b0 (i:=4) V) f8 M M)) ?_);rintro _ oQ ⟨l0,oy,h4,k4,oE,cw,c5,rfl,i5,i6,f9,oe,m1,n1,oa,e7⟩;replace c5:=b0.bO c5;refine dA 1 4 48 48 [] [(48,(aG [_,_]))] Hn_ V V fun _=>zn c5 V fun o6 oR hy=>sgo 1 6 1 0 [] [] (Hr_ 6 8 Hn_) hy V V fun oh oS fu=>ah 2 V (ab (zm (pT a0 0) ?_))
   refine zc (pa.aM _ ex _ _ (.mk (HS.callOwn fu (i:=4) V) f9 M M)) ?_;rintro _ oT ⟨oz,h5,k5,oF,cL,b2,rfl,i7,i8,gm,n6,m2,n2,ob,ci⟩;replace b2:=fu.bO b2;replace O:=((O.mono co).mono cw).mono cL;replace E:=((E.mono co).mono cw).mono cL;refine ah 1 V (ab (fQ 3 0 51 53 [] [(52,(sL _ _ _)),(53,(aG [_,_]))] (Hr_ 1 5 (Hr_ 2 8 Hn_)) b2 V V fun _=>zlo ([(⟨_,l0⟩:ArrT)]:List ArrT) b2 V (RL.cs ⟨V,by(dsimp only;omega)⟩ RL.nl) V fun o4 pi pm oU hk f1=>zao 6 O f1 (OS.sv hk f1 (i:=9) V) V V V M fun h0 kt ll oV hl hz=>sgo 2 5 56 56 [] [] (Hr_ 6 5 Hn_) hz V V fun oi oW hA=>?_));refine ah 3 V ?_;refine dd _ _ _ ?_ ⟨_,fl,_,_,_,ll,h0,kt,_,_,_,_,(fT (fT (fT (fT (a7) a8) co) cw) cL),(HS.sub hA (a05 _ _)),gm,hl,E,⟨V,V,V,V,V,trivial⟩,V,X,M,M,(by(simp at *;omega)),(by intro x9 i9 b9 h9;refine hw _ _ _ ?_;refine Oc.succ ?_ (fun _=>jB.eq_2 ..);refine Oc.iteF (fun _=>show ¬_<=_ by omega) ?_;refine Oc.yes f7 ?_;rw[aU f7 M];(try dsimp only at e6);refine Oc.seq e6 ?_;(try dsimp only at e7);refine Oc.seq e7 ?_;(try dsimp only at ci);first|exact ci|(refine Oc.seq ci ?_;exact h9))⟩;exact ea M g9.1 M (fun h=>by omega)
  try simp only[BS]at b5
  have a6:=he b5;refine ab (zm (pT a0 0) (zc (pa.cG _ ex _ _ (.mk (HS.callOwn a5 (i:=4) V) b8 M M)) ?_));rintro _ oX ⟨pl,dk,e0,f4,oG,bb,a3,rfl,jw,j2,ch,rfl,hh,hf,m3,n3,oc⟩;replace a3:=a5.bO a3;replace O:=O.mono bb;replace E:=E.mono bb;refine za _ (ah 1 V (zi 0 0 (fun b6=>?_) fun b6=>?_))
  ·try simp only[BS]at b6
   have hJ:=hh b6;refine aC V (de 3 60 62 [] [(61,(sL _ _ _)),(62,(pT a0 0))] (Hr_ 1 5 Hn_) a3 V V fun _=>wcD [a0] (j:=4) a3 V V (pf.function_c _ ex _ (.mk (HS.callOwn a3.log0 (i:=4) V) ch M M)) V V (⟨.inl V,⟨.inr (HS.nin a3 (i:=5) (j:=4) V V e_ (List.Mem.head _)),⟨.inr trivial,trivial⟩⟩⟩) ?_);rintro _ oY ⟨l2,h7,k7,h8,k8,ib,k9,ik,la,oA,h6,k6,oH,c0,c6,rfl,hQ,hS,hT,d2,d3,em,et,ka,kc,go,nc,n4,od,ck⟩;refine⟨_,_,_,c6,fun mg c6=>?_⟩;replace O:=O.mono c0;replace E:=E.mono c0;refine zld ([l2]:List FunT) c6 V (RL.cs ⟨_,_,_,_,_,_,_,_,V,by omega,by omega,by omega,d2,d3,em,et⟩ RL.nl) V fun o5 pj pn mp hm f2=>zad 7 E f2 (OS.sv hm f2 (i:=8) V) V V V M (kb V) fun h1 kx lr ms hn hB=>sdo 2 66 66 [] [] (Hr_ 7 5 Hn_) hB V V fun oj oZ hD=>bt 3 V ?_
   refine dd _ _ _ ?_ ⟨al,_,_,_,_,_,_,_,lr,h1,kx,_,(fT (fT (fT (a7) a8) bb) c0),(HS.sub hD (a05 _ _)),go,O,hn,⟨V,V,V,V,V,trivial⟩,V,X,M,M,(by(simp at *;omega)),(by intro x9 i9 b9 h9;refine hw _ _ _ ?_;refine Oc.succ ?_ (fun _=>jB.eq_2 ..);refine Oc.iteF (fun _=>show ¬_<=_ by omega) ?_;refine Oc.no a6 ?_;rw[←a6.1,←a6.2.1];refine Oc.ky hJ M ?_;(try dsimp only at ck);first|exact ck|(refine Oc.seq ck ?_;exact h9))⟩;exact ea M g9.1 M (fun h=>by omega)
  try simp only[BS]at b6
  have hI:=hf b6;refine sgr 3 38 40 [] [] (Hr_ 3 4 Hn_) a3 V V fun ol o0 hE=>?_
  refine dd _ _ _ ?_ ⟨al,fl,(⟨dk.l,dk.at_,dk.fin,true⟩:RdrT),e0,f4,an,T,Y,ax,U,Z,_,(fT (fT (a7) a8) bb),hE,ch,O,E,⟨V,V,V,V,V,trivial⟩,V,M,M,M,M,(by intro x9 i9 b9 h9;refine hw _ _ _ ?_;refine Oc.succ ?_ (fun _=>jB.eq_2 ..);refine Oc.iteF (fun _=>show ¬_<=_ by omega) ?_;refine Oc.no a6 ?_;rw[←a6.1,←a6.2.1];exact Oc.kf hI M (h9.1 V))⟩;exact ea M g9.1 M (fun h=>by cases h)
 try simp only[BS]at b4
 have ie:rr.bad=false->((aL s).1.length:Int)<=rr.at_:=fun h=>by have:=b4 h;omega
 refine cP 1 67 70 [] [(70,(.bool rr.bad))] (Hr_ 3 4 Hn_) a1 V V fun _=>zi 1 2 (fun e4=>?_) fun e4=>?_
 ·try simp only[BS]at e4
  refine ab (dA 2 0 71 72 [] [(71,(aG [(sL none 0 0),(sL none 0 0)])),(72,(pT a0 0))] Hn_ (by kernel_rfl) V fun _=>zc (pa.offset_c (aL s).1 ex rr (.mk (HS.callOwn a1 (i:=4) V) a9 M M)) ?_);rintro _ o1 ⟨pq,g3,hj,c7,rfl,rfl⟩;replace c7:=a1.bO c7;refine sgo 3 3 74 74 [] [] (Hr_ 4 0 (Hr_ 5 1 Hn_)) c7 V V fun om o2 c8=>ah 1 V (ae ⟨.inr V,_,(rC V (bS V V (h_ c8 V) V) (rC V (bS V V (i_ c8 V) V) rN)),(⟨([]:List ArrT),([]:List FunT)⟩:PrgT),none,0,none,0,(⟨2,offV rr.l rr.at_ rr.fin⟩:ErrT),_,(fT (fT (fT (fb) e8) a7) hj),(HS.forget c8),V,(SR.nil:SR g3 (sL none 0 0) ([]:List ArrT)),(SR.nil:SR g3 (sL none 0 0) ([]:List FunT)),M,(by(rw[g5,g7];exact scan_at s kk _)),(by(rw[g5,g7];exact pr_bad X (hw _ _ _ (pr_exit M ie)) X g6.2))⟩)
 try simp only[BS]at e4
 refine sgr 1 75 76 [] [] (Hr_ 0 5 (Hr_ 2 0 (Hr_ 3 1 Hn_))) a1 V V fun oo o3 c9=>?_
 obtain⟨oI,fd,hF,c3,ot⟩:=OS.frz O c9 (i:=6) V;replace E:=E.mono fd;obtain⟨oJ,fi,hG,hp,ou⟩:=OS.frz E hF (i:=7) V;replace c3:=c3.mono fi;refine ae ⟨.inr V,_,(rC V (bS V V (h_ c9 V) V) (rC V (bS V V (i_ c9 V) V) rN)),(⟨al,fl⟩:PrgT),T,Y,U,Z,(⟨0,0⟩:ErrT),_,(fT (fT (fT (fT (fb) e8) a7) fd) fi),(HS.forget hG),V,c3,hp,M,M,(pr_ok X (hw _ _ _ (pr_exit M ie)) X g6.2)⟩
end Go.Proofs.YtapgbjedgcpffaaGreat.pg
