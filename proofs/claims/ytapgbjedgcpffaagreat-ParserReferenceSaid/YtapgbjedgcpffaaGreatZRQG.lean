/-
The parser of the reference: what it gives. No condition but the length of the text.
-/
import Derived.Test.YtapgbjedgcpffaaGreatZRL1
import Derived.Test.YtapgbjedgcpffaaGreatZRQF
noncomputable section
namespace Go.Proofs.YtapgbjedgcpffaaGreat.qg
open Go.R
set_option maxRecDepth 10000
set_option linter.unusedVariables false
set_option linter.unusedSimpArgs false
variable (ex:FuncId) {F:Fz} {H:Heap} {R:List Fp}
open w1 w3 l1 pt pa pb pc pd pe pf pg ph pi_ qa qb qc qp qd qe qr qf
theorem oc_b{α:Type}{f:Nat->Rs α}{b c E:Bool}{i O:Int}{x:α}(e:b=c)(h:Oc f b i x O E):Oc f c i x O E:=e▸h
theorem eD(s:List UInt8): ∀i,in64 ((aL s).1.getD i default).at_:=by
 unfold aL;split
 ·intro i;show in64 0;decide
 intro i
 next hs=>
 obtain⟨_,E⟩:=kN (s.length+1) s (spl false s);rcases a0c i (dX (s.length+1) s (spl false s)).1.length with hi|hi
 ·rw[a08,a09 hi];have:=(E _ (a0E hi)).2;show in64 ((dX (s.length+1) s (spl false s)).1[i]).at_;omega
 rw[bh hi];show in64 0;decide
theorem scan_z0: ∀(f:Nat) (s:List UInt8) (a:Nat),(dX f s a).2.1=0->(dX f s a).2.2=0
 |0,s,a,_=>rfl
 |f+1,s,a,h=>by
  rw[dX]at h⊢;split at h
  ·next q=>
   rw[if_pos q];split at h
   ·next e=>
    rw[if_pos e];unfold consT at h⊢;split at h
    ·next k=>rw[if_pos k];exact scan_z0 f _ _ k
    next k=>exact absurd h k
   next e=>exact absurd h e
  next q=>rw[if_neg q]
theorem scan_z{s:List UInt8}(h:(aL s).2.1=0):(aL s).2.2=0:=by
 unfold aL at h⊢;split at h
 ·exact absurd h e_
 next q=>rw[if_neg q];exact scan_z0 _ _ _ h
theorem rz{r:PrsT}{w a:Int}(q:w≠0/\r.e.why=w/\r.e.at_=a)(h:bE r.e=false):False:=by unfold bE at h;rw[decide_eq_false_iff_not]at h;exact h (by rw[q.2.1];exact q.1)
theorem rp_exit{ts:List Token}{O:List ArrT}{T:List FunT}{r:PrsT}(E:0<=r.i)(h:bE r.e=false->(ts.length:Int)<=r.i):Oc (fun n=>jB ts n O T r.i.toNat) (bE r.e) r.i (O,T) r.i (bE r.e):=by
 cases hb:bE r.e with
 |true=>exact Oc.bad V
 |false=>exact Oc.succ (Oc.iteT (fun _=>show ts.length<=r.i.toNat by have:=h hb;omega) (Oc.val E fun _=>rfl)) (fun _=>jB.eq_2 ..)
theorem rp_bad{s:List UInt8}{r:PrsT}{Z:List ArrT}{fl:List FunT}(hz:(aL s).2.1=0\/((aL s).2.1≠0/\r.e.why=(aL s).2.1/\r.e.at_=(aL s).2.2))(hE:(aL s).2.1=0->ErE (aL s).1 r)(hf:r.fin=(s.length:Int))(hw:(aL s).2.1=0->∀x O E,Oc (fun n=>jB (aL s).1 n Z fl r.i.toNat) (bE r.e) r.i x O E->Oc (fun n=>jB (aL s).1 n [] [] 0) false 0 x O E)(T:0<=r.i)(Y:bE r.e=false->((aL s).1.length:Int)<=r.i)(hb:bE r.e=true)(hi:r.i<=((aL s).1.length:Int)):ParR s ⟨[],[]⟩ ⟨r.e.why,r.e.at_⟩:=by
 rcases hz with h|h
 ·have U:=of_decide_eq_true (show decide (r.e.why≠0)=true from hb);rcases hE h with q|q
  ·exact absurd q.1 U
  rw[q.1,q.2,hf];exact pr_bad h (hw h _ _ _ (rp_exit T Y)) hb hi
 rw[h.2.1,h.2.2];exact pr_err h.1
theorem rp_ok{s:List UInt8}{r:PrsT}{U:List ArrT}{Y:List FunT}(hz:(aL s).2.1=0\/((aL s).2.1≠0/\r.e.why=(aL s).2.1/\r.e.at_=(aL s).2.2))(hw:(aL s).2.1=0->∀x O E,Oc (fun n=>jB (aL s).1 n U Y r.i.toNat) (bE r.e) r.i x O E->Oc (fun n=>jB (aL s).1 n [] [] 0) false 0 x O E)(T:0<=r.i)(Z:bE r.e=false->((aL s).1.length:Int)<=r.i)(hb:bE r.e=false)(hi:r.i<=((aL s).1.length:Int)):ParR s ⟨U,Y⟩ ⟨0,0⟩:=by have h:=hz.resolve_right (fun q=>rz q hb);exact pr_ok h (hw h _ _ _ (rp_exit T Z)) hb hi
set_option maxHeartbeats 1600000 in
theorem rParse_c(src:List UInt8)(hs:HS (.of H []) F H [] R)(o4:src.length<1000000):kKt ex 8 [(tX src)] H fun v H'=> ∃(p:PrgT) (c7:Option Addr) (fb:Nat) (c8:Option Addr) (fd:Nat) (e:ErrT) (F':Fz),Fz.le F F'/\HS (.of H []) F' H' [] R/\v= .tuple ⟨[.agg ⟨[sL c7 p.arrs.length fb,sL c8 p.funs.length fd]⟩,.agg ⟨[iI e.why,iI e.at_]⟩]⟩/\SR F' (sL c7 p.arrs.length fb) p.arrs/\SR F' (sL c8 p.funs.length fd) p.funs/\in64 e.why/\in64 e.at_/\(ParR src p e):=by
 have p9:=(bA src).1;have dp:=gi src;refine av Tryz.func8 V V (ai 1 V (ab (zn hs V fun b1 H2 kt=>zn kt V fun b3 H4 g2=>ah 2 V ?_)));refine ab (zm _ (zc (pi_.rscan_c ex src (HS.call g2) M) ?_));rintro _ H5 ⟨c6,e8,l5,p5,e5,F5,f9,e4,rfl,hn,kk,kl,rfl,rfl⟩;replace e4:=HS.back g2 V e4;refine dA 3 2 13 14 [10] [(13,(sL c6 _ e8)),(14,(aG [_,_]))] Hn_ V V fun _=>zn e4 V fun b7 H8 kx=>sgo 2 6 1 0 [4] [(4,(sL c6 _ e8))] (Hr_ 7 3 Hn_) kx V V fun o0 H9 g3=>ah 2 V (ab (fQ 5 0 15 19 [] [(19,(aG [_,_,_,_,_]))] (Hr_ 3 3 Hn_) g3 V V fun _=>?_))
 refine dB (cV g3 V V) V V ?_;rintro _ oJ _ ⟨a4,rfl,ho,_⟩;refine za (pT a4 0) (ah 2 V (ab (zn ho V fun f8 oK hp=>ah 3 V ?_)));obtain⟨hH,d3,hq,hl,ou⟩:=OS.frz hn hp (i:=2) V;have hr:=HS.snoc hq;have ht:=HS.snoc hr;refine aq (fun(mm:Nat) f H'=> ∃(al:List ArrT) (fl:List FunT) (rr:PrsT) (a1:Option Addr) (a2:Nat) (ax:Fp) (U:Option Addr) (Z:Nat) (a0:Fp) (Y:Option Addr) (an:Nat) (F':Fz),Fz.le hH F'/\HS _ F' H' [[(b1,.cells [_,_] _ _)],[(b3,.cells [_,_] _ _)],[],_,[(a4,.cells [(sL a1 rr.l.length a2),(.int _ rr.i),(.int _ rr.fin),(.int _ rr.e.why),(.int _ rr.e.at_)] _ _)],[(f8,.cells [(sL U al.length Z),(sL Y fl.length an)] _ _)],ax,a0] R/\SR F' (sL a1 rr.l.length a2) rr.l/\OS F' (sL U al.length Z) al ax/\OS F' (sL Y fl.length an) fl a0/\aJ f [(2,(pT b1 0)),(3,(pT b3 0)),(6,(pT a4 0)),(7,(pT f8 0))]/\mm=2 *((aL src).1.length-rr.i.toNat)+(!bE rr.e).toNat/\(rr.l=(aL src).1)/\(0<=rr.i/\rr.i<=((aL src).1.length:Int))/\(rr.fin=(src.length:Int))/\(in64 rr.e.why)/\(in64 rr.e.at_)/\((aL src).2.1=0->ErE (aL src).1 rr)/\((aL src).2.1=0\/((aL src).2.1≠0/\rr.e.why=(aL src).2.1/\rr.e.at_=(aL src).2.2))/\((al.length:Int)<=rr.i+1/\(fl.length:Int)<=rr.i+1)/\(bE rr.e=false->(al.length:Int)<=rr.i/\(fl.length:Int)<=rr.i)/\((aL src).2.1=0->∀x i9 b9,Oc (fun n=>jB (aL src).1 n al fl rr.i.toNat) (bE rr.e) rr.i x i9 b9->Oc (fun n=>jB (aL src).1 n [] [] 0) false 0 x i9 b9)) _ ⟨([]:List ArrT),([]:List FunT),(⟨(aL src).1,0,(src.length:Int),(⟨(ErrT.mk (aL src).2.1 (aL src).2.2).why,(ErrT.mk (aL src).2.1 (aL src).2.2).at_⟩:ErrT)⟩:PrsT),c6,e8,[],none,0,[],none,0,_,fR,ht,hl,(OS.nil:OS _ (sL none 0 0) ([]:List ArrT) []),(OS.nil:OS _ (sL none 0 0) ([]:List FunT) []),⟨V,V,V,V,trivial⟩,V,k_,(⟨Int.le_refl _,a1C _⟩),k_,M,M,(fun h=>Or.inl ⟨h,scan_z h⟩),((Classical.em _).imp id (fun h=>⟨h,V,V⟩)),(by refine⟨?_,?_⟩<;>(dsimp only[List.length_nil];omega)),(by intro _;refine⟨?_,?_⟩<;>(dsimp only[List.length_nil];omega)),(by intro h0 x9 i9 b9 h9;exact oc_b (by show decide ((aL src).2.1≠0)=false;rw[h0];rfl) h9)⟩ ?_;rintro ox oZ hI ⟨al,fl,rr,a1,a2,ax,U,Z,a0,Y,an,f7,a8,T,a3,O,E,e0,rfl,gm,go,kn,o1,o2,hlE,hz,o3,cL,hw⟩ e7;refine az _ e0 (fun _=>?_);clear e0;refine ai 2 V (wrDp 1 21 34 [] [(34,(.bool (!bE rr.e&&(decide (rr.i<(rr.l.length:Int))))))] (Hc_ 1 (qa.fc ex rr _ (hc0 (HS.hc T (i:=4) V)) M M M M) (Ho_ 6 (.o (iI _)) (fun(g1:_)=>(ql 3 1 (hc0 (HS.hc T (i:=4) V)) V V)) (Ho_ 10 (.o (sL _ _ _)) (fun(g1:_)=>(ql 48 0 (hc0 (HS.hc T (i:=4) V)) V V)) Hn_))) V V V fun _=>zi 4 6 (fun b2=>?_) fun b2=>?_)
 ·try simp only[BS]at b2
  have g5:=b2;have a6:=g5.1;have h0:(aL src).2.1=0:=hz.resolve_right (fun q=>rz q a6);have o7:rr.i<((aL src).1.length:Int):=by have:=g5.2;rw[gm]at this;exact this
  refine wr 1 [(1,.o (.bool (atB _ rr 0 _)))] 35 36 [] [(36,(.bool (atB _ rr 0 _)))] (vA (qa.bZ _ ex rr 0 _ (HS.call T) (HS.hc T (i:=4) V) a3 M M M M X ((bA src).2) (eD src) X X M M) trivial) V V fun _=>zi 1 2 (fun a7=>?_) fun a7=>?_
  ·try simp only[BS]at a7
   have b0:=at_K (r:=rr) dp V a7;have mx:=hO (r:=rr) M a7;have ms:=b0.1;refine sgr 2 37 43 [] [] (Hr_ 3 4 (Ha_ (vi) (Hr_ 7 4 Hn_))) T V V fun ol oL e1=>ab (zm (pT a4 0) (zc (qb.gj _ ex (⟨rr.l,rr.i+1,rr.fin,(⟨rr.e.why,rr.e.at_⟩:ErrT)⟩:PrsT) (.mk (HS.callOwn e1 (i:=4) V) a3 M M M M X ((bA src).2) (eD src) X M M) (cp (hlE h0) X)) ?_))
   rintro _ oM ⟨l3,oz,hS,k4,oC,b5,a9,rfl,h6,h7,h8,ib,fu,g9,nc,g6,hf,g7,dk⟩;replace a9:=e1.bO a9;try dsimp only at g6
   try dsimp only at g7
   try dsimp only at dk
   try dsimp only at hf
   try dsimp only at g9
   refine za (tX l3) (ah 2 V (ab (zm (pT a4 0) (zc (qb.rsmall_c _ ex _ (.mk (HS.callOwn a9 (i:=4) V) fu M M M M X ((bA src).2) (eD src) X M M) X) ?_))));rintro _ oN ⟨g4,oA,hT,k5,oD,b6,ba,rfl,ik,it,i1,i2,f1,oi,nm,n3,od,n7,g8⟩;replace ba:=a9.bO ba;refine za (.int _ g4) (ah 2 V (ab (zm (pT a4 0) (zc (qb.aP _ ex _ _ (.mk (HS.callOwn ba (i:=4) V) f1 M M M M X ((bA src).2) (eD src) X M M) X) ?_))));rintro _ oO ⟨fi,hV,k6,oE,b8,bb,rfl,i3,i4,i5,i6,f2,oc,nn,n4,oe,n9,dn⟩;replace bb:=ba.bO bb;replace O:=((O.mono b5).mono b6).mono b8;replace E:=((E.mono b5).mono b6).mono b8;rw[cI dp (w:=[59]) rfl]at dn;refine ah 2 V (ab (fQ 5 0 50 54 [] [(51,(sL _ _ _)),(54,(aG [_,_]))] (Hr_ 1 5 Hn_) bb V V fun _=>zlo ([(⟨_,g4⟩:ArrT)]:List ArrT) bb V (RL.cs ⟨V,by(dsimp only;omega)⟩ RL.nl) V fun oX o5 o8 oP hg e2=>zao 6 O e2 (OS.sv hg e2 (i:=8) V) V V V M fun hK k0 l0 oQ hh hu=>sgo 2 7 57 57 [] [] (Hr_ 8 5 Hn_) hu V V fun om oR hv=>?_));refine ah 4 V ?_;have b4:bE fi.e=false->rr.i<fi.i:=fun _=>by omega
   refine e7 _ _ _ ?_ ⟨_,fl,_,_,_,l0,hK,k0,_,_,_,_,(fT (fT (fT (a8) b5) b6) b8),(HS.sub hv (a05 _ _)),f2,hh,E,⟨V,V,V,V,trivial⟩,V,M,M,M,M,M,(fun _=>by assumption),(.inl h0),(by(try rw[a00,List.length_singleton]);have q:=cL a6;omega),(by intro hb;(try rw[a00,List.length_singleton]);have q:=cL a6;have q2:=b4 hb;omega),(by intro _ x9 i9 b9 h9;refine hw h0 _ _ _ ?_;refine Oc.succ ?_ (fun _=>jB.eq_2 ..);refine Oc.iteF (fun _=>show ¬_<=_ by omega) ?_;refine Oc.yes b0 ?_;rw[aU b0 M];exact Oc.seq dk (Oc.seq g8 (Oc.seq dn h9)))⟩;exact ea M a6 M b4
  try simp only[BS]at a7
  have f6:=nQ (r:=rr) dp V a7;refine ab (zm (pT a4 0) (zc (qb.aP _ ex rr _ (.mk (HS.callOwn T (i:=4) V) a3 M M M M X ((bA src).2) (eD src) X X M) (hlE h0)) ?_));rintro _ oS ⟨oB,hW,k7,oF,ch,a5,rfl,i7,i8,jw,j2,f3,he,n1,n5,og,oa,dt⟩;replace a5:=T.bO a5;rw[expA_K dp (w:=[102,117,110,99]) rfl]at dt;refine ah 1 V (aC V (de 3 60 62 [] [(61,(sL _ _ _)),(62,(pT a4 0))] (Hr_ 1 5 Hn_) a5 V V fun _=>wcD [a4] (j:=4) a5 V V (qf.rfunction_c _ ex _ (.mk (HS.callOwn a5.log0 (i:=4) V) f3 M M M M X ((bA src).2) (eD src) X M M) X) V V (⟨.inl V,⟨.inr (HS.nin a5 (i:=5) (j:=4) V V e_ (List.Mem.head _)),⟨.inr trivial,trivial⟩⟩⟩) ?_));rintro _ oT ⟨mg,h1,k9,h2,la,h3,ll,h4,lr,fk,hX,k8,oG,ci,cm,rfl,hE,hF,hG,c0,c3,c4,c5,ka,kc,kd,ki,f4,n2,n6,oh,ob,d1⟩;refine⟨_,_,_,cm,fun m0 cm=>?_⟩;replace O:=(O.mono ch).mono ci;replace E:=(E.mono ch).mono ci;refine zld ([mg]:List FunT) cm V (RL.cs ⟨_,_,_,_,_,_,_,_,V,by omega,by omega,by omega,c0,c3,c4,c5⟩ RL.nl) V fun oY o6 o9 m1 hj e3=>zad 7 E e3 (OS.sv hj e3 (i:=8) V) V V V M (kb V) fun hQ k3 l2 m2 hk hx=>sdo 2 66 66 [] [] (Hr_ 7 5 Hn_) hx V V fun oo oU hy=>bt 2 V ?_
  have b4:bE fk.e=false->rr.i<fk.i:=fun hb=>by have q:=he (Oc.back d1 hb);omega
  refine e7 _ _ _ ?_ ⟨al,_,_,_,_,_,_,_,l2,hQ,k3,_,(fT (fT (a8) ch) ci),(HS.sub hy (a05 _ _)),f4,O,hk,⟨V,V,V,V,trivial⟩,V,M,M,M,M,M,(fun _=>by assumption),(.inl h0),(by(try rw[a00,List.length_singleton]);have q:=cL a6;omega),(by intro hb;(try rw[a00,List.length_singleton]);have q:=cL a6;have q2:=b4 hb;omega),(by intro _ x9 i9 b9 h9;refine hw h0 _ _ _ ?_;refine Oc.succ ?_ (fun _=>jB.eq_2 ..);refine Oc.iteF (fun _=>show ¬_<=_ by omega) ?_;refine Oc.iteF f6 ?_;exact Oc.seq dt (Oc.seq d1 h9))⟩;exact ea M a6 M b4
 try simp only[BS]at b2
 have h5:bE rr.e=false->((aL src).1.length:Int)<=rr.i:=fun h=>by have:=b2 h;rw[gm]at this;omega
 refine wr 1 [(1,.o (.bool (!bE rr.e)))] 67 69 [] [(69,(.bool (!(!bE rr.e))))] (vA (qa.fc ex rr hI (HS.hc T (i:=4) V) M M M M) trivial) V V fun _=>zi 1 2 (fun dd=>?_) fun dd=>?_
 ·try simp only[BS]at dd
  refine aC V (de 5 70 74 [] [(70,(aG [_,_])),(74,(aG [_,_]))] (Hr_ 4 4 Hn_) T V V fun _=>iz (id:= .x [b1]) (gR (q:=0) T.log0 V V V V V V V V V) V (by rintro _ _ _ ⟨_,hwr⟩;exact fY V V (Wr.did hwr)) (⟨.inr (HS.nin T (i:=4) (j:=0) V V e_ (List.Mem.head _)),⟨.inr trivial,⟨.inr trivial,⟨.inr trivial,⟨.inl V,trivial⟩⟩⟩⟩⟩) ?_);rintro _ hJ _ ⟨bl,_⟩ hD f5;replace bl:=HS.lg bl T f5;generalize ({hJ with log:=hD}:Heap)=m3 at bl⊢;refine sdo 1 1 0 [] [] (Hr_ 6 1 Hn_) bl V V fun oq oV co=>bt 1 V (ae ⟨.inr V,_,(rC V (bS V V (h_ co V) V) (rC V (bS V V (i_ co V) V) rN)),(⟨([]:List ArrT),([]:List FunT)⟩:PrgT),_,0,_,0,_,_,(fT (fT (f9) d3) a8),(HS.forget co),V,(SR.nil:SR f7 _ _),(SR.nil:SR f7 _ _),M,M,(rp_bad hz hlE kn hw M h5 X go.2)⟩)
 try simp only[BS]at dd
 refine sgr 1 75 76 [] [] (Hr_ 0 5 (Hr_ 2 0 (Hr_ 3 1 Hn_))) T V V fun ot oW cw=>?_
 obtain⟨oH,et,hA,ck,ov⟩:=OS.frz O cw (i:=6) V;replace E:=E.mono et;obtain⟨oI,ez,hB,hm,ow⟩:=OS.frz E hA (i:=7) V;replace ck:=ck.mono ez;refine ae ⟨.inr V,_,(rC V (bS V V (h_ cw V) V) (rC V (bS V V (i_ cw V) V) rN)),_,_,_,_,_,_,_,(fT (fT (fT (fT (f9) d3) a8) et) ez),(HS.forget hB),V,ck,hm,M,M,(rp_ok hz hw M h5 X go.2)⟩
end Go.Proofs.YtapgbjedgcpffaaGreat.qg
