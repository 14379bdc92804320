/-
The parser: expressions. No condition but that its place lies in the list.
-/
import Derived.Test.YtapgbjedgcpffaaGreatZRL1
import Derived.Test.YtapgbjedgcpffaaGreatZRPB
noncomputable section
namespace Go.Proofs.YtapgbjedgcpffaaGreat.pc
open Go.R
set_option maxRecDepth 10000
set_option linter.unusedVariables false
set_option linter.unusedSimpArgs false
open w1 w3 l1 pt pa pb
abbrev zPC1:List ExpT:=[]
theorem Oc.yesF{α:Type}{f g:Nat->Rs α}{p:Prop} [Decidable p]{b c E:Bool}{i j O:Int}{x:α}(q:b=false/\¬p/\j=i+1/\c=false)(h:Oc g c j x O E):Oc (fun n=>if p then f n else g n) b i x O E:=Oc.of q.1 ((h.out q.2.2.2).iteF q.2.1)
theorem Oc.done{α:Type}{x y:α}{b E:Bool}{i T:Int}{m:Nat}(hb:b=false)(O:E=false)(e:T=(m:Int))(U:y=x):Oc (fun _=> .ok (x,m)) b i y T E:=Oc.of hb (by rw[O,U];exact .val e)
theorem op_all: ∀q∈opL,q.2.2.1<=7:=by decide
theorem op_le(s:List UInt8):(opT s).2.1<=7:=by
 unfold opT;cases e:opL.find? fun q=>decide (s=q.1) with
 |none=>decide
 |some q=>exact op_all q (a1x e)
theorem op_all2: ∀q∈opL,0<=q.2.1/\q.2.1<=20:=by decide
theorem op_in(s:List UInt8):in64 (opT s).1:=by
 have:0<=(opT s).1/\(opT s).1<=20:=by
  unfold opT;cases e:opL.find? fun q=>decide (s=q.1) with
  |none=>decide
  |some q=>exact op_all2 q (a1x e)
 omega
theorem op_n{ts:List Token}{r:RdrT}{k:Nat}(E:r.l=ts)(h:((nxT r).kind≠3\/(opT (nxT r).text.b).1=0)\/(opT (nxT r).text.b).2.1≠(k:Int))(hb:r.bad=false):opK ts k r.at_.toNat=0:=by
 have e:nxT r=ts.getD r.at_.toNat default:=by rw[mw,if_neg (by rw[hb];decide),E]
 rw[e]at h;unfold opK;split
 ·next q=>
  rw[a03,decide_eq_true_eq,decide_eq_true_eq]at q;rcases h with(h|h)|h
  ·exact absurd q.1 h
  ·exact h
  exact absurd q.2 h
 rfl
theorem op_y{ts:List Token}{r:RdrT}{i:Int}{k:Nat}(Z:r.l=ts)(U:0<=i)(Y:i<=r.at_)(h:((nxT r).kind=3/\(opT (nxT r).text.b).1≠0)/\(opT (nxT r).text.b).2.1=(k:Int)):r.bad=false/\¬opK ts k r.at_.toNat=0/\r.at_<(ts.length:Int)/\nxT r=ts.getD r.at_.toNat default/\k<=7:=by
 obtain⟨O,T,E⟩:=nxT_tok Z (by rw[h.1.1];decide);refine⟨O,?_,T,E,?_⟩
 ·rw[E]at h;unfold opK;rw[if_pos (by rw[a03,decide_eq_true_eq,decide_eq_true_eq];exact⟨h.1.1,h.2⟩)];exact h.1.2
 have:=op_le (nxT r).text.b;omega
theorem pri_n{ts:List Token}{r:RdrT}{i:Nat}(e:nxT r=ts.getD i default)(h:(aQ (nxT r).text.b).isSome=false): ¬(numV ts i).isSome=true:=by unfold numV;rw[←e,h];decide
theorem pri_y{ts:List Token}{r:RdrT}{i:Nat}(e:nxT r=ts.getD i default)(h:(aQ (nxT r).text.b).isSome=true):(numV ts i).isSome=true:=by unfold numV;rw[←e];exact h
theorem mkB_f{ts:List Token}{r:RdrT}{i:Nat}{a b:ExpT}(e:nxT r=ts.getD i default)(h:(opT (nxT r).text.b).2.2=false):mkB ts i a b=⟨4,0,⟨[]⟩,(opT (nxT r).text.b).1,[a,b]⟩:=by unfold mkB;rw[←e,h];rfl
theorem mkB_t{ts:List Token}{r:RdrT}{i:Nat}{a b:ExpT}(e:nxT r=ts.getD i default)(h:(opT (nxT r).text.b).2.2=true):mkB ts i a b=⟨4,0,⟨[]⟩,(opT (nxT r).text.b).1,[b,a]⟩:=by unfold mkB;rw[←e,h];rfl
variable (ts:List Token)
variable (ex:FuncId) {F:Fz} {H:Heap} {R:List Fp}
abbrev Po5(F:Fz)(H:Heap)(b_r:Nat)(R:List Fp)(Φ:ExpT->RdrT->Prop)(v:Value)(H':Heap):Prop:= ∃(x:ExpT) (ax_4:Option Addr) (kx_4:Nat) (r':RdrT) (am_0:Option Addr) (km_0:Nat) (F':Fz),Fz.le F F'/\HS (.of H [b_r]) F' H' [[(b_r,.cells [(sL am_0 r'.l.length km_0),(iI r'.at_),(iI r'.fin),(.bool r'.bad)] none false)]] R/\v= .agg ⟨[iI x.kind,iI x.n,tX x.name.b,iI x.op,sL ax_4 x.kids.length kx_4]⟩/\in64 x.kind/\in64 x.n/\in64 x.op/\SR F' (sL ax_4 x.kids.length kx_4) x.kids/\in64 r'.at_/\in64 r'.fin/\SR F' (sL am_0 r'.l.length km_0) r'.l/\Φ x r'
def l8(ex:FuncId)(N:Nat):Prop:=
 (∀{T:Option Addr} {U:Nat} {O:Nat} (r:RdrT) {F:Fz} {H:Heap} {R:List Fp} (Y:pa.Pr1 H O F T r U R ts) (hm:12 *(ts.length-r.at_.toNat)+11<N),C Tryz.prog 0 (KX ex) 47 [(pT O 0)] H (Po5 F H O R fun x E=>(E.l=ts)/\(r.at_<=E.at_/\E.at_<=(ts.length:Int))/\(E.fin=r.fin)/\(Oc (fun n=>cH ts n r.at_.toNat) r.bad r.at_ x E.at_ E.bad)))/\
 (∀{T:Option Addr} {U:Nat} {O:Nat} (r:RdrT) (k:Nat) {F:Fz} {H:Heap} {R:List Fp} (Y:pa.Pr1 H O F T r U R ts) (Z:k<=8) (hm:12 *(ts.length-r.at_.toNat)+(10-k)<N),C Tryz.prog 0 (KX ex) 75 [(pT O 0),(iI (k:Int))] H (Po5 F H O R fun x E=>(E.l=ts)/\(r.at_<=E.at_/\E.at_<=(ts.length:Int))/\(E.fin=r.fin)/\(Oc (fun n=>nO ts n k r.at_.toNat) r.bad r.at_ x E.at_ E.bad)))/\
 (∀{T:Option Addr} {U:Nat} {O:Nat} (r:RdrT) {F:Fz} {H:Heap} {R:List Fp} (Y:pa.Pr1 H O F T r U R ts) (hm:12 *(ts.length-r.at_.toNat)+1<N),C Tryz.prog 0 (KX ex) 93 [(pT O 0)] H (Po5 F H O R fun x E=>(E.l=ts)/\(r.at_<=E.at_/\E.at_<=(ts.length:Int))/\(E.fin=r.fin)/\(Oc (fun n=>kA ts n r.at_.toNat) r.bad r.at_ x E.at_ E.bad)))/\
 (∀{T:Option Addr} {U:Nat} {O:Nat} (r:RdrT) {F:Fz} {H:Heap} {R:List Fp} (Y:pa.Pr1 H O F T r U R ts) (hm:12 *(ts.length-r.at_.toNat)<N),C Tryz.prog 0 (KX ex) 101 [(pT O 0)] H (Po5 F H O R fun x E=>(E.l=ts)/\(r.at_<=E.at_/\E.at_<=(ts.length:Int))/\(E.fin=r.fin)/\(Oc (fun n=>priM ts n r.at_.toNat) r.bad r.at_ x E.at_ E.bad)))
theorem expr_c_s{cm:Option Addr}{c4:Nat}{ar:Nat}(r:RdrT)(h0:pa.Pr1 H ar F cm r c4 R ts)(N:Nat)(ih:l8 ts ex N)(hm:12 *(ts.length-r.at_.toNat)+11<N+1):kKt ex 47 [(pT ar 0)] H (Po5 F H ar R fun x r'=>(r'.l=ts)/\(r.at_<=r'.at_/\r'.at_<=(ts.length:Int))/\(r'.fin=r.fin)/\(Oc (fun n=>cH ts n r.at_.toNat) r.bad r.at_ x r'.at_ r'.bad)):=by
 obtain⟨hs,dp,it,i1,i3,hts,hat,i2⟩:=h0;refine av Tryz.func47 V V ?_;refine ai 1 V ?_;refine ab ?_;refine zn hs V fun b1 H2 b8=>?_
 refine ah 2 V ?_;refine ab ?_;refine zm (pT ar 0) ?_;refine zc (ih.2.1 r 0 (.mk (g_ b8 V) dp) M M) ?_;rintro _ H3 ⟨x3,f4,go,ci,f2,f9,F3,b7,b0,rfl,e6,e7,e8,E,f5,f6,b6,hG,hI,hK,a1⟩;replace b0:=b8.bO b0;refine zn b0 V fun b4 H5 fb=>?_
 refine sgo 1 3 1 0 [] [] (Hr_ 3 2 Hn_) fb V V fun hS H6 b9=>?_
 refine ah 3 V ?_;refine ab ?_;refine zm (pT ar 0) ?_;refine zc (pa.el ts ex ci _ (.mk (g_ b9 V) b6)) ?_;rintro _ H7 ⟨o7,ck,f3,gm,F7,a9,Y,rfl,f7,f8,a2,rfl,ez,et,hH,hJ,hQ⟩;replace Y:=b9.bO Y;replace E:=E.mono a9;refine wro 1 2 [] 9 9 [] [(9,(.bool (!(isB ci _))))] trivial V V fun _=>?_
 refine ah 1 V ?_;refine zi 1 2 (fun c9=>?_) fun c9=>?_
 ·try simp only[BS]at c9
  have b2:=et c9;refine sgr 1 10 10 [] [] (Hr_ 0 2 (Hr_ 1 1 Hn_)) Y V V fun hh hx ba=>?_
  refine ae ⟨.inr V,_,(rC V (bS V V (i_ ba V) V) rN),x3,_,_,ck,_,_,_,(fT (b7) a9),(HS.first ba),V,M,M,M,E,M,M,a2,M,M,M,(by(refine Oc.succ ?_ (fun _=>cH.eq_2 ..);(try dsimp only at a1);refine Oc.seq a1 ?_;refine Oc.no b2 ?_;rw[←b2.1,←b2.2.1];exact Oc.val M (fun _=>by rfl)))⟩
 try simp only[BS]at c9
 have ch:=ez c9;refine ab ?_;refine zm (pT ar 0) ?_;refine zc (ih.1 ck (.mk (g_ Y V) a2) M) ?_;rintro _ hy ⟨hV,d3,fu,ho,dt,fi,ht,a7,ax,rfl,c5,c6,c7,T,e0,e1,b3,g3,g6,he,a5⟩;replace ax:=Y.bO ax;refine zn ax V fun hF hz cL=>?_
 refine sgo 1 3 1 0 [] [] (Hr_ 3 3 Hn_) cL V V fun hj hA bb=>?_
 refine ah 2 V ?_;refine ab ?_;refine zm (pT ar 0) ?_;refine zc (pa.aM ts ex _ _ (.mk (g_ bb V) b3)) ?_;rintro _ hB ⟨hp,d1,fk,hu,al,O,rfl,e2,e3,b5,g9,g4,g7,hf,a6⟩;replace O:=bb.bO O;refine ah 2 V ?_;refine aC V ?_;refine de 3 15 17 [] [(15,(aG [_,_,_,_,_])),(16,(aG [_,_,_,_,_])),(17,(pT ar 0))] (Hr_ 0 2 (Hr_ 1 3 Hn_)) O V V fun _=>?_
 refine wcD [ar] (j:=0) O V V (ih.1 _ (.mk (HS.callOwn O.log0 (i:=0) V) b5) M) V V (⟨.inl V,⟨.inr (HS.nin O (i:=3) (j:=0) V V e_ (List.Mem.head _)),⟨.inr (HS.nin O (i:=2) (j:=0) V V e_ (List.Mem.head _)),trivial⟩⟩⟩) ?_;rintro _ hD ⟨hW,em,f1,hq,d2,fl,hv,an,a0,rfl,c8,dd,dk,a3,e4,e5,U,g5,g8,hg,Z⟩;refine⟨_,_,_,a0,fun g1 a0=>?_⟩;replace T:=(T.mono al).mono an;replace E:=((E.mono a7).mono al).mono an;refine zld _ a0 V (RL.cs (ExpT.mq E) (RL.cs (ExpT.mq T) (RL.cs (ExpT.mq a3) RL.nl))) V fun dn fd hT g2 co c0=>?_
 refine sdo 2 20 20 [] [] (Hr_ 6 1 Hn_) c0 V V fun hk hE bl=>?_
 refine bt 1 V ?_;obtain⟨hw,a8,c3,cw,hn⟩:=OS.frz co bl (i:=4) V;replace U:=U.mono a8;refine ae ⟨.inr V,_,(rC V (bS V V (i_ bl V) V) rN),(⟨5,0,_,0,_⟩:ExpT),dn,fd,_,_,_,_,(fT (fT (fT (fT (fT (b7) a9) a7) al) an) a8),(HS.first c3),V,M,M,M,cw,M,M,U,M,M,M,(by(refine Oc.succ ?_ (fun _=>cH.eq_2 ..);(try dsimp only at a1);refine Oc.seq a1 ?_;refine Oc.yes ch ?_;rw[aU ch M];(try dsimp only at a5);refine Oc.seq a5 ?_;(try dsimp only at a6);refine Oc.seq a6 ?_;(try dsimp only at Z);first|exact Z|(refine Oc.seq Z ?_;exact Oc.val M (fun _=>by rfl))))⟩
theorem binary_c_s{em:Option Addr}{f1:Nat}{a1:Nat}(r:RdrT)(k:Nat)(h0:pa.Pr1 H a1 F em r f1 R ts)(hk:k<=8)(N:Nat)(ih:l8 ts ex N)(hm:12 *(ts.length-r.at_.toNat)+(10-k)<N+1):kKt ex 75 [(pT a1 0),(iI (k:Int))] H (Po5 F H a1 R fun x r'=>(r'.l=ts)/\(r.at_<=r'.at_/\r'.at_<=(ts.length:Int))/\(r'.fin=r.fin)/\(Oc (fun n=>nO ts n k r.at_.toNat) r.bad r.at_ x r'.at_ r'.bad)):=by
 obtain⟨hs,df,nn,n0,n3,hts,hat,n2⟩:=h0;refine av Tryz.func75 V V ?_;refine ai 1 V ?_;refine ab ?_;refine zn hs V fun b1 H2 b0=>?_
 refine ah 3 V ?_;refine wr 1 [] 11 12 [] [(12,(.bool ((k:Int)==8)))] trivial V V fun _=>?_
 refine zi 1 2 (fun c4=>?_) fun c4=>?_
 ·try simp only[BS]at c4
  refine ab ?_;refine zm (pT a1 0) ?_;refine zc (ih.2.2.1 r (.mk (g_ b0 V) df) M) ?_;rintro _ H5 ⟨x5,ho,hv,hh,hn,hu,F5,g2,c0,rfl,g4,g5,g6,ci,hp,hq,dt,j2,kc,ki,b4⟩;replace c0:=b0.bO c0;refine sgo 1 2 1 0 [] [] (Hr_ 2 1 Hn_) c0 V V fun kl H6 d3=>?_
  refine ah 1 V ?_;refine ae ⟨.inr V,_,(rC V (bS V V (i_ d3 V) V) rN),x5,_,_,hh,_,_,_,(g2),(HS.first d3),V,M,M,M,ci,M,M,dt,M,M,M,(by(refine Oc.succ ?_ (fun _=>nO.eq_2 ..);refine Oc.iteT (fun _=>show k=8 by omega) ?_;(try dsimp only at b4);first|exact b4|(refine Oc.seq b4 ?_;exact Oc.val M (fun _=>by rfl))))⟩
 try simp only[BS]at c4
 refine ab ?_;refine dA 3 0 15 17 [] [(15,(pT a1 0)),(17,(.int _ _))] (Ha_ (vi) Hn_) V V fun _=>?_
 refine zc (ih.2.1 r (k+1) (.mk (g_ b0 V) df) M M) ?_;rintro _ H8 ⟨x8,dd,dn,hj,c9,dk,F8,g3,c3,rfl,g7,g8,g9,ck,hr,ht,d1,ka,kd,kk,b5⟩;replace c3:=b0.bO c3;refine zn c3 V fun b9 h3 e5=>?_
 refine sgo 1 5 1 0 [] [] (Hr_ 5 2 Hn_) e5 V V fun hz h4 e6=>?_
 refine ah 2 V ?_;refine aq (fun(mm:Nat) f H'=> ∃(a:ExpT) (rr:RdrT) (Z:Option Addr) (an:Nat) (U:Option Addr) (Y:Nat) (F':Fz),Fz.le F8 F'/\HS _ F' H' [[(a1,.cells [(sL Z rr.l.length an),(.int _ rr.at_),(.int _ rr.fin),(.bool rr.bad)] _ _)],[(b1,.cells [_,_,(tX []),_,_] _ _)],[(b9,.cells [(.int _ a.kind),(.int _ a.n),(tX a.name.b),(.int _ a.op),(sL U a.kids.length Y)] _ _)]] R/\SR F' (sL Z rr.l.length an) rr.l/\SR F' (sL U a.kids.length Y) a.kids/\aJ f [(0,(pT a1 0)),(1,(.int _ _)),(4,(pT b1 0)),(5,(pT b9 0))]/\mm=ts.length-rr.at_.toNat/\(rr.l=ts)/\(r.at_<=rr.at_/\rr.at_<=(ts.length:Int))/\(rr.fin=r.fin)/\(in64 a.kind)/\(in64 a.n)/\(in64 a.op)/\(∀x i9 b9,Oc (fun n=>gY ts n k a rr.at_.toNat) rr.bad rr.at_ x i9 b9->Oc (fun n=>nO ts n k r.at_.toNat) r.bad r.at_ x i9 b9)) _ ⟨x8,hj,c9,dk,dd,dn,_,fR,e6,d1,ck,⟨V,V,V,V,trivial⟩,V,M,M,M,X,X,X,(by intro x9 i9 b9 h9;refine Oc.succ ?_ (fun _=>nO.eq_2 ..);refine Oc.iteF (fun _=>show ¬k=8 by omega) ?_;(try dsimp only at b5);first|exact b5|(refine Oc.seq b5 ?_;exact h9))⟩ ?_;rintro hQ jw h5 ⟨a,rr,Z,an,U,Y,hV,a8,cm,O,E,ch,rfl,d2,he,k0,kn,kt,kx,hw⟩ c6;refine az _ ch (fun _=>?_);clear ch;refine ai 2 V ?_;refine ab ?_;refine zm (pT a1 0) ?_;refine zc (pa.lI ts ex rr (.mk (g_ cm V) O)) ?_;rintro _ h6 ⟨k5,hW,a0,ba,rfl,f2,f3,rfl⟩;replace ba:=cm.bO ba;replace O:=O.mono a0;replace E:=E.mono a0;refine zn ba V fun i7 h7 e7=>?_
 refine sgo 1 3 1 0 [] [] (Hr_ 3 3 Hn_) e7 V V fun hA f7 a3=>?_
 refine ah 2 V ?_;refine cP 3 21 27 [7,8,9] [(7,(.int _ _)),(8,(.int _ _)),(9,(.bool ((opT (nxT rr).text.b).2.2)))] (Hr_ 1 3 (Hc_ 2 (pb.operator_c_q ex _ f7) Hn_)) a3 V V fun _=>?_
 refine cP 1 28 39 [] [(39,(.bool ((((nxT rr).kind !=3)||((opT (nxT rr).text.b).1==0))||((opT (nxT rr).text.b).2.1 !=(k:Int)))))] (Hr_ 1 3 Hn_) a3 V V fun _=>?_
 refine zi 1 2 (fun a6=>?_) fun a6=>?_
 ·try simp only[BS]at a6
  refine sgr 1 40 40 [] [] (Hr_ 0 2 (Hr_ 1 1 Hn_)) a3 V V fun hB h8 co=>?_
  refine ae ⟨.inr V,_,(rC V (bS V V (i_ co V) V) rN),a,_,_,rr,_,_,_,(fT (fT (g3) a8) a0),(HS.first co),V,M,M,M,E,M,M,O,M,M,M,(by(refine hw _ _ _ ?_;refine Oc.succ ?_ (fun _=>gY.eq_2 ..);refine Oc.iteT (fun hb=>op_n d2 a6 hb) ?_;exact Oc.val M (fun _=>by rfl)))⟩
 try simp only[BS]at a6
 have o1:=op_y d2 hat.1 he.1 a6;refine sgr 2 41 47 [] [] (Hr_ 3 0 (Ha_ (vi) (Hr_ 7 0 Hn_))) a3 V V fun hD ib cw=>?_
 refine ab ?_;refine dA 3 0 48 50 [] [(48,(pT a1 0)),(50,(.int _ _))] (Ha_ (vi) Hn_) V V fun _=>?_
 refine zc (ih.2.1 (⟨rr.l,rr.at_+1,rr.fin,rr.bad⟩:RdrT) (k+1) (.mk (g_ cw V) O) M M) ?_;rintro _ ik ⟨ax,b2,c7,c8,a4,a7,hX,a9,bb,rfl,f4,f5,f6,a2,go,g1,T,hy,ez,e0,al⟩;replace bb:=cw.bO bb;replace E:=E.mono a9;try dsimp only at ez
 try dsimp only at al
 try dsimp only at e0
 refine zn bb V fun i8 it e8=>?_
 refine sgo 1 5 1 0 [] [] (Hr_ 5 4 Hn_) e8 V V fun hE i1 bl=>?_
 refine ah 3 V ?_;refine wr 1 [] 52 52 [] [(52,(.bool ((opT (nxT rr).text.b).2.2)))] trivial V V fun _=>?_
 refine zi 0 1 (fun b3=>?_) fun b3=>?_
 ·try simp only[BS]at b3
  refine sgr 1 53 54 [] [] (Hr_ 0 4 (Hr_ 1 2 (Hr_ 2 2 (Hr_ 3 4 Hn_)))) bl V V fun hF i2 cL=>?_
  refine ab ?_;refine fQ 3 0 55 57 [] [(55,(.int _ _)),(56,(aG [_,_,_,_,_])),(57,(aG [_,_,_,_,_]))] (Hr_ 1 2 (Hr_ 2 4 Hn_)) cL V V fun _=>?_
  refine zlo _ cL V (RL.cs (ExpT.mq a2) (RL.cs (ExpT.mq E) RL.nl)) V fun f8 hf k3 i3 e1 fb=>?_
  refine sgo 2 4 59 59 [] [] (Hr_ 5 2 Hn_) fb V V fun hG i4 fd=>?_
  refine ah 2 V ?_;obtain⟨h1,b7,fi,e3,hJ⟩:=OS.frz e1 fd (i:=5) V;replace T:=T.mono b7;refine c6 _ _ _ ?_ ⟨(⟨4,0,⟨[]⟩,(opT (nxT rr).text.b).1,([ax,a]:List ExpT)⟩:ExpT),c8,a4,a7,f8,hf,_,(fT (fT (fT (a8) a0) a9) b7),(HS.sub fi (a05 _ _)),T,e3,⟨V,V,V,V,trivial⟩,V,M,M,M,(by(show in64 4;decide)),(by(show in64 0;decide)),(by exact op_in _),(by intro x9 i9 b9 h9;refine hw _ _ _ ?_;refine Oc.succ ?_ (fun _=>gY.eq_2 ..);refine Oc.yesF ⟨o1.1,o1.2.1,(rfl:rr.at_+1=rr.at_+1),o1.1⟩ ?_;rw[show rr.at_.toNat+1=(rr.at_+1).toNat by omega];(try dsimp only at al);first|exact al|(refine Oc.seq al ?_;(try rw[mkB_f o1.2.2.2.1 X]);(try rw[mkB_t o1.2.2.2.1 X]);exact h9))⟩;omega
 try simp only[BS]at b3
 refine ab ?_;refine fQ 3 0 55 57 [] [(55,(iI ((opT (nxT rr).text.b).1))),(56,(aG [(iI a.kind),(iI a.n),(tX a.name.b),(iI a.op),(sL U a.kids.length Y)])),(57,(aG [(iI ax.kind),(iI ax.n),(tX ax.name.b),(iI ax.op),(sL b2 ax.kids.length c7)]))] (Hr_ 1 2 (Hr_ 2 4 Hn_)) bl V V fun _=>?_
 refine zlo ([a,ax]:List ExpT) bl V (RL.cs (ExpT.mq E) (RL.cs (ExpT.mq a2) RL.nl)) V fun f9 hg k4 i5 e2 fk=>?_
 refine sgo 2 4 59 59 [] [] (Hr_ 5 2 Hn_) fk V V fun hH i6 fl=>?_
 refine ah 2 V ?_;obtain⟨h2,b8,fu,e4,hK⟩:=OS.frz e2 fl (i:=5) V;replace T:=T.mono b8;refine c6 _ _ _ ?_ ⟨(⟨4,0,⟨[]⟩,(opT (nxT rr).text.b).1,([a,ax]:List ExpT)⟩:ExpT),c8,a4,a7,f9,hg,_,(fT (fT (fT (a8) a0) a9) b8),(HS.sub fu (a05 _ _)),T,e4,⟨V,V,V,V,trivial⟩,V,M,M,M,(by(show in64 4;decide)),(by(show in64 0;decide)),(by exact op_in _),(by intro x9 i9 b9 h9;refine hw _ _ _ ?_;refine Oc.succ ?_ (fun _=>gY.eq_2 ..);refine Oc.yesF ⟨o1.1,o1.2.1,(rfl:rr.at_+1=rr.at_+1),o1.1⟩ ?_;rw[show rr.at_.toNat+1=(rr.at_+1).toNat by omega];(try dsimp only at al);first|exact al|(refine Oc.seq al ?_;(try rw[mkB_f o1.2.2.2.1 X]);(try rw[mkB_t o1.2.2.2.1 X]);exact h9))⟩;omega
theorem unary_c_s{fu:Option Addr}{hk:Nat}{ar:Nat}(r:RdrT)(h0:pa.Pr1 H ar F fu r hk R ts)(N:Nat)(ih:l8 ts ex N)(hm:12 *(ts.length-r.at_.toNat)+1<N+1):kKt ex 93 [(pT ar 0)] H (Po5 F H ar R fun x r'=>(r'.l=ts)/\(r.at_<=r'.at_/\r'.at_<=(ts.length:Int))/\(r'.fin=r.fin)/\(Oc (fun n=>kA ts n r.at_.toNat) r.bad r.at_ x r'.at_ r'.bad)):=by
 obtain⟨hs,ld,qk,qm,pQ,hts,hat,qu⟩:=h0;refine av Tryz.func93 V V ?_;refine ai 1 V ?_;refine ab ?_;refine zn hs V fun b1 H2 fl=>?_
 refine ah 4 V ?_;refine ab ?_;refine zm (pT ar 0) ?_;refine zc (pa.el ts ex r _ (.mk (g_ fl V) ld)) ?_;rintro _ H3 ⟨o3,a4,l2,mg,F3,a2,a3,rfl,l3,l5,T,rfl,h5,h4,pu,pw,px⟩;replace a3:=fl.bO a3;refine za (.bool (isB r _)) ?_;refine ah 1 V ?_;refine zi 2 1 (fun c4=>?_) fun c4=>?_
 ·try simp only[BS]at c4
  have cL:=h5 c4;refine ab ?_;refine zm (pT ar 0) ?_;refine zc (pa.lI ts ex a4 (.mk (g_ a3 V) T)) ?_;rintro _ H5 ⟨t5,F5,d3,e4,rfl,ka,kc,rfl⟩;replace e4:=a3.bO e4;replace T:=T.mono d3;refine zn e4 V fun b6 H7 kd=>?_
  refine sgo 1 3 1 0 [] [] (Hr_ 3 2 Hn_) kd V V fun py H8 cw=>?_
  refine ah 2 V ?_;refine cP 1 10 12 [] [(12,(.bool ((nxT a4).kind==2)))] (Hr_ 1 2 Hn_) cw V V fun _=>?_
  refine zi 1 2 (fun a6=>?_) fun a6=>?_
  ·try simp only[BS]at a6
   have c1:=nm_y X a6;have pr:(nxT _).text.b.length<=1000000:=c1.2.2.1▸pQ _;refine sgr 2 13 19 [] [] (Hr_ 3 0 (Ha_ (vi) (Hr_ 7 0 Hn_))) cw V V fun om hE g7=>?_
   refine sgr 1 20 23 [] [] (Hr_ 1 2 (Hc_ 2 (pb.negative_c_q ex _ hE M) (Hr_ 4 1 Hn_))) g7 V V fun oo oW em=>?_
   refine ae ⟨.inr V,_,(rC V (bS V V (i_ em V) V) rN),(⟨1,_,_,0,zPC1⟩:ExpT),_,0,(⟨_,a4.at_+1,_,_⟩:RdrT),_,_,_,(fT (a2) d3),(HS.first em),V,(by first|(dsimp only;omega)|omega|(rw[hts];omega)|exact dl|assumption),(by exact dl),(by first|(dsimp only;omega)|omega|(rw[hts];omega)|exact dl|assumption),(SR.nil:SR F5 _ _),(by first|(dsimp only;omega)|omega|(rw[hts];omega)|exact dl|assumption),M,T,M,M,M,(by(refine Oc.succ ?_ (fun _=>kA.eq_2 ..);refine Oc.yes cL ?_;rw[aU cL M];refine Oc.iteT (fun _=>c1.2.2.2) ?_;first|exact Oc.val M (fun _=>rfl)|exact Oc.done c1.1 c1.1 M (by rw[c1.2.2.1]<;>rfl)|exact⟨fun _=>⟨V,V⟩,fun _=> .fail M⟩))⟩
  try simp only[BS]at a6
  refine ab ?_;refine zm (pT ar 0) ?_;refine zc (ih.2.2.1 a4 (.mk (g_ cw V) T) M) ?_;rintro _ oX ⟨pF,hX,k7,oC,hI,kn,oK,f7,b8,rfl,hn,ho,hp,c0,h6,h7,ax,mp,nn,ob,b0⟩;replace b8:=cw.bO b8;refine zlo _ b8 V (RL.cs (ExpT.mq c0) RL.nl) V fun hF ki pC oY g1 g8=>?_
  refine sgo 2 3 27 27 [] [] (Hr_ 4 1 Hn_) g8 V V fun oq oZ et=>?_
  refine ah 1 V ?_;obtain⟨oL,dk,g9,g4,oz⟩:=OS.frz g1 et (i:=3) V;replace ax:=ax.mono dk;refine ae ⟨.inr V,_,(rC V (bS V V (i_ et V) V) rN),(⟨4,0,_,20,_⟩:ExpT),hF,ki,_,_,_,_,(fT (fT (fT (a2) d3) f7) dk),(HS.first g9),V,M,M,M,g4,M,M,ax,M,M,M,(by(refine Oc.succ ?_ (fun _=>kA.eq_2 ..);refine Oc.yes cL ?_;rw[aU cL M];refine Oc.iteF (fun hb=>nm_n X a6 hb) ?_;(try dsimp only at b0);first|exact b0|(refine Oc.seq b0 ?_;first|exact Oc.val M (fun _=>rfl)|exact Oc.done c1.1 c1.1 M (by rw[c1.2.2.1]<;>rfl)|exact⟨fun _=>⟨V,V⟩,fun _=> .fail M⟩)))⟩
 try simp only[BS]at c4
 have O:=h4 c4;refine ab ?_;refine zm (pT ar 0) ?_;refine zc (pa.el ts ex a4 _ (.mk (g_ a3 V) T)) ?_;rintro _ o0 ⟨pz,oD,hJ,kt,oM,a5,Y,rfl,h8,h9,ba,rfl,f4,f1,ms,n1,oc⟩;replace Y:=a3.bO Y;refine za (.bool (isB a4 _)) ?_;refine ah 1 V ?_;refine zi 1 1 (fun a7=>?_) fun a7=>?_
 ·try simp only[BS]at a7
  have e7:=f4 a7;refine ab ?_;refine zm (pT ar 0) ?_;refine zc (ih.2.2.1 _ (.mk (g_ Y V) ba) M) ?_;rintro _ o1 ⟨pG,h1,k8,oE,hK,kx,oN,f8,b9,rfl,hq,hr,ht,c3,ib,ik,a0,mx,n2,od,b2⟩;replace b9:=Y.bO b9;refine zlo _ b9 V (RL.cs (ExpT.mq c3) RL.nl) V fun hG kk pD o2 g2 he=>?_
  refine sgo 2 3 34 34 [] [] (Hr_ 4 1 Hn_) he V V fun ot o4 ez=>?_
  refine ah 1 V ?_;obtain⟨oO,dn,hf,g5,oA⟩:=OS.frz g2 ez (i:=2) V;replace a0:=a0.mono dn;refine ae ⟨.inr V,_,(rC V (bS V V (i_ ez V) V) rN),(⟨4,0,_,21,_⟩:ExpT),hG,kk,_,_,_,_,(fT (fT (fT (a2) a5) f8) dn),(HS.first hf),V,M,M,M,g5,M,M,a0,M,M,M,(by(refine Oc.succ ?_ (fun _=>kA.eq_2 ..);refine Oc.no O ?_;rw[←O.1,←O.2.1];refine Oc.yes e7 ?_;rw[aU e7 M];(try dsimp only at b2);first|exact b2|(refine Oc.seq b2 ?_;first|exact Oc.val M (fun _=>rfl)|exact Oc.done c1.1 c1.1 M (by rw[c1.2.2.1]<;>rfl)|exact⟨fun _=>⟨V,V⟩,fun _=> .fail M⟩)))⟩
 try simp only[BS]at a7
 have E:=f1 a7;refine ab ?_;refine zm (pT ar 0) ?_;refine zc (pa.el ts ex _ _ (.mk (g_ Y V) ba)) ?_;rintro _ o5 ⟨pA,oF,hQ,k0,oP,b7,Z,rfl,it,i1,bb,rfl,f5,f2,m0,n3,oe⟩;replace Z:=Y.bO Z;refine za (.bool (isB _ _)) ?_;refine ah 1 V ?_;refine zi 1 1 (fun a8=>?_) fun a8=>?_
 ·try simp only[BS]at a8
  have e8:=f5 a8;refine ab ?_;refine zm (pT ar 0) ?_;refine zc (ih.2.2.1 _ (.mk (g_ Z V) bb) M) ?_;rintro _ o6 ⟨ll,h2,k9,oG,hS,k3,oQ,f9,ch,rfl,hu,hv,hw,c5,i2,i3,a1,m1,n4,og,b3⟩;replace ch:=Z.bO ch;refine dA 1 2 40 40 [] [(40,(aG [_,_,_,_,_]))] Hn_ V V fun _=>?_
  refine zlo ([ll,(⟨1,0,_,0,zPC1⟩:ExpT)]:List ExpT) ch V (RL.cs (ExpT.mq c5) (RL.cs (ExpT.mq SR.nil) RL.nl)) V fun hH kl pE o7 g3 hg=>?_
  refine sgo 2 4 42 42 [] [] (Hr_ 5 1 Hn_) hg V V fun ou o8 e0=>?_
  refine ah 1 V ?_;obtain⟨oR,dt,hh,g6,oB⟩:=OS.frz g3 e0 (i:=2) V;replace a1:=a1.mono dt;refine ae ⟨.inr V,_,(rC V (bS V V (i_ e0 V) V) rN),(⟨4,0,_,15,_⟩:ExpT),hH,kl,_,_,_,_,(fT (fT (fT (fT (a2) a5) b7) f9) dt),(HS.first hh),V,M,M,M,g6,M,M,a1,M,M,M,(by(refine Oc.succ ?_ (fun _=>kA.eq_2 ..);refine Oc.no O ?_;rw[←O.1,←O.2.1];refine Oc.no E ?_;rw[←E.1,←E.2.1];refine Oc.yes e8 ?_;rw[aU e8 M];(try dsimp only at b3);first|exact b3|(refine Oc.seq b3 ?_;first|exact Oc.val M (fun _=>rfl)|exact Oc.done c1.1 c1.1 M (by rw[c1.2.2.1]<;>rfl)|exact⟨fun _=>⟨V,V⟩,fun _=> .fail M⟩)))⟩
 try simp only[BS]at a8
 have an:=f2 a8;refine ab ?_;refine zm (pT ar 0) ?_;refine zc (pa.el ts ex _ _ (.mk (g_ Z V) bb)) ?_;rintro _ o9 ⟨pB,oH,hT,k4,oS,d1,al,rfl,i4,i5,bl,rfl,f6,f3,m2,n5,oh⟩;replace al:=Z.bO al;refine za (.bool (isB _ _)) ?_;refine ah 1 V ?_;refine zi 1 3 (fun a9=>?_) fun a9=>?_
 ·try simp only[BS]at a9
  have fb:=f6 a9;refine ab ?_;refine zm (pT ar 0) ?_;refine zc (ih.1 _ (.mk (g_ al V) bl) M) ?_;rintro _ pi ⟨lr,h3,la,oI,hV,k5,oT,gm,ci,rfl,hx,hy,hz,U,i6,i7,fd,m3,n6,oi,dd⟩;replace ci:=al.bO ci;refine zn ci V fun pq pj hj=>?_
  refine sgo 1 3 1 0 [] [] (Hr_ 3 2 Hn_) hj V V fun ov pk e1=>?_
  refine ah 2 V ?_;refine ab ?_;refine zm (pT ar 0) ?_;refine zc (pa.aM ts ex _ _ (.mk (g_ e1 V) fd)) ?_;rintro _ pl ⟨oJ,hW,k6,oU,d2,ck,rfl,i8,i9,fi,oa,nc,n7,oj,b4⟩;replace ck:=e1.bO ck;replace U:=U.mono d2;refine ah 2 V ?_;refine sgr 1 50 50 [] [] (Hr_ 0 2 (Hr_ 1 1 Hn_)) ck V V fun ow pm e2=>?_
  refine ae ⟨.inr V,_,(rC V (bS V V (i_ e2 V) V) rN),lr,_,_,_,_,_,_,(fT (fT (fT (fT (fT (a2) a5) b7) d1) gm) d2),(HS.first e2),V,M,M,M,U,M,M,fi,M,M,M,(by(refine Oc.succ ?_ (fun _=>kA.eq_2 ..);refine Oc.no O ?_;rw[←O.1,←O.2.1];refine Oc.no E ?_;rw[←E.1,←E.2.1];refine Oc.no an ?_;rw[←an.1,←an.2.1];refine Oc.yes fb ?_;rw[aU fb M];(try dsimp only at dd);refine Oc.seq dd ?_;(try dsimp only at b4);first|exact b4|(refine Oc.seq b4 ?_;first|exact Oc.val M (fun _=>rfl)|exact Oc.done c1.1 c1.1 M (by rw[c1.2.2.1]<;>rfl)|exact⟨fun _=>⟨V,V⟩,fun _=> .fail M⟩)))⟩
 try simp only[BS]at a9
 have co:=f3 a9;refine ab ?_;refine zm (pT ar 0) ?_;refine zc (ih.2.2.2 _ (.mk (g_ al V) bl) M) ?_;rintro _ pn ⟨l0,c8,e6,hl,c7,e5,oV,go,cm,rfl,hA,hB,hD,c6,jw,j2,fk,nm,n9,ol,b5⟩;replace cm:=al.bO cm;refine sgo 1 2 1 0 [] [] (Hr_ 2 1 Hn_) cm V V fun ox po e3=>?_
 refine ah 1 V ?_;refine ae ⟨.inr V,_,(rC V (bS V V (i_ e3 V) V) rN),l0,c8,e6,hl,c7,e5,_,(fT (fT (fT (fT (a2) a5) b7) d1) go),(HS.first e3),V,M,M,M,c6,M,M,fk,M,M,M,(by(refine Oc.succ ?_ (fun _=>kA.eq_2 ..);refine Oc.no O ?_;rw[←O.1,←O.2.1];refine Oc.no E ?_;rw[←E.1,←E.2.1];refine Oc.no an ?_;rw[←an.1,←an.2.1];refine Oc.no co ?_;rw[←co.1,←co.2.1];(try dsimp only at b5);first|exact b5|(refine Oc.seq b5 ?_;first|exact Oc.val M (fun _=>rfl)|exact Oc.done c1.1 c1.1 M (by rw[c1.2.2.1]<;>rfl)|exact⟨fun _=>⟨V,V⟩,fun _=> .fail M⟩)))⟩
theorem primary_c_s{ci:Option Addr}{c7:Nat}{a5:Nat}(r:RdrT)(h0:pa.Pr1 H a5 F ci r c7 R ts)(N:Nat)(ih:l8 ts ex N)(hm:12 *(ts.length-r.at_.toNat)<N+1):kKt ex 101 [(pT a5 0)] H (Po5 F H a5 R fun x r'=>(r'.l=ts)/\(r.at_<=r'.at_/\r'.at_<=(ts.length:Int))/\(r'.fin=r.fin)/\(Oc (fun n=>priM ts n r.at_.toNat) r.bad r.at_ x r'.at_ r'.bad)):=by
 obtain⟨hs,ar,i4,i5,h2,hts,hat,i6⟩:=h0;refine av Tryz.func101 V V ?_;refine ai 1 V ?_;refine ab ?_;refine zn hs V fun b1 H2 b9=>?_
 refine ah 3 V ?_;refine ab ?_;refine zm (pT a5 0) ?_;refine zc (pa.lI ts ex r (.mk (g_ b9 V) ar)) ?_;rintro _ H3 ⟨t3,F3,a0,b5,rfl,e8,fb,rfl⟩;replace b5:=b9.bO b5;replace ar:=ar.mono a0;refine zn b5 V fun b4 H5 fd=>?_
 refine sgo 1 3 1 0 [] [] (Hr_ 3 2 Hn_) fd V V fun hQ H6 U=>?_
 refine ah 2 V ?_;refine cP 1 10 12 [] [(12,(.bool ((nxT r).kind==2)))] (Hr_ 1 2 Hn_) U V V fun _=>?_
 refine zi 1 2 (fun c8=>?_) fun c8=>?_
 ·try simp only[BS]at c8
  have c1:=nm_y X c8;have hK:(nxT _).text.b.length<=1000000:=c1.2.2.1▸h2 _;refine cP 3 13 18 [4,5] [(4,(.int _ _)),(5,(.bool (aQ (nxT r).text.b).isSome))] (Hr_ 1 2 (Hc_ 2 (w3.lD ex _ H6) Hn_)) U V V fun _=>?_
  refine wr 1 [] 19 20 [] [(20,(.bool (!(aQ (nxT r).text.b).isSome)))] trivial V V fun _=>?_
  refine zi 1 2 (fun an=>?_) fun an=>?_
  ·try simp only[BS]at an
   refine sgr 2 21 23 [] [] (Hr_ 3 0 Hn_) U V V fun g7 hv c0=>?_
   refine sgr 1 24 24 [] [] (Hr_ 1 1 Hn_) c0 V V fun g8 hw bb=>?_
   refine ae ⟨.inr V,_,(rC V (bS V V (i_ bb V) V) rN),(⟨0,0,_,0,zPC1⟩:ExpT),_,0,(⟨r.l,r.at_,_,true⟩:RdrT),_,_,_,(a0),(HS.first bb),V,M,M,M,(SR.nil:SR F3 _ _),M,M,ar,X,M,k_,(by(refine Oc.succ ?_ (fun _=>priM.eq_2 ..);refine Oc.iteT (fun _=>c1.2.2.2) ?_;refine Oc.iteF (fun _=>pri_n c1.2.2.1 an) ?_;first|exact Oc.val M (fun _=>rfl)|exact Oc.done c1.1 c1.1 M (by rw[c1.2.2.1]<;>rfl)|exact⟨fun _=>⟨V,V⟩,fun _=> .fail M⟩))⟩
  try simp only[BS]at an
  refine sgr 2 25 31 [] [] (Hr_ 3 0 (Ha_ (vi) (Hr_ 7 0 Hn_))) U V V fun g9 hx c3=>?_
  refine sgr 1 32 33 [] [] (Hr_ 2 1 Hn_) c3 V V fun he hy bl=>?_
  refine ae ⟨.inr V,_,(rC V (bS V V (i_ bl V) V) rN),(⟨1,_,_,0,zPC1⟩:ExpT),_,0,(⟨r.l,r.at_+1,_,_⟩:RdrT),_,_,_,(a0),(HS.first bl),V,(by first|(dsimp only;omega)|omega|(rw[hts];omega)|exact dl),(by exact dl),(by first|(dsimp only;omega)|omega|(rw[hts];omega)|exact dl),(SR.nil:SR F3 _ _),(by first|(dsimp only;omega)|omega|(rw[hts];omega)|exact dl),M,ar,M,M,k_,(by(refine Oc.succ ?_ (fun _=>priM.eq_2 ..);refine Oc.iteT (fun _=>c1.2.2.2) ?_;refine Oc.iteT (fun _=>pri_y c1.2.2.1 an) ?_;first|exact Oc.val M (fun _=>rfl)|exact Oc.done c1.1 c1.1 M (by rw[c1.2.2.1]<;>rfl)|exact⟨fun _=>⟨V,V⟩,fun _=> .fail M⟩))⟩
 try simp only[BS]at c8
 refine ab ?_;refine zm (pT a5 0) ?_;refine zc (pa.lJ ts ex r (.mk (g_ U V) ar)) ?_;rintro _ hz ⟨ch,hl,d2,fk,hq,a7,Z,rfl,e0,e1,b7,g1,f4,f8,g3,Y⟩;replace Z:=U.bO Z;refine za (tX ch) ?_;refine ah 3 V ?_;refine ab ?_;refine zm (pT a5 0) ?_;refine zc (pa.el ts ex _ _ (.mk (g_ Z V) b7)) ?_;rintro _ hA ⟨hS,hn,d3,fl,dn,a8,O,rfl,e2,e3,a1,rfl,cm,ck,f5,f9,g4⟩;replace O:=Z.bO O;refine wro 1 2 [] 38 38 [] [(38,(.bool (!(isB _ _))))] trivial V V fun _=>?_
 refine ah 1 V ?_;refine zi 1 2 (fun ax=>?_) fun ax=>?_
 ·try simp only[BS]at ax
  have a4:=ck ax;refine sgr 1 39 40 [] [] (Hr_ 2 1 Hn_) O V V fun hf hB b0=>?_
  refine ae ⟨.inr V,_,(rC V (bS V V (i_ b0 V) V) rN),(⟨2,0,_,0,zPC1⟩:ExpT),_,0,_,_,_,_,(fT (fT (a0) a7) a8),(HS.first b0),V,M,M,M,(SR.nil:SR dn _ _),M,M,a1,M,M,M,(by(refine Oc.succ ?_ (fun _=>priM.eq_2 ..);refine Oc.iteF (fun hb=>nm_n X c8 hb) ?_;(try dsimp only at Y);refine Oc.seq Y ?_;refine Oc.no a4 ?_;rw[←a4.1,←a4.2.1];first|exact Oc.val M (fun _=>rfl)|exact Oc.done c1.1 c1.1 M (by rw[c1.2.2.1]<;>rfl)|exact⟨fun _=>⟨V,V⟩,fun _=> .fail M⟩))⟩
 try simp only[BS]at ax
 have b6:=cm ax;refine ab ?_;refine zm (pT a5 0) ?_;refine zc (ih.1 _ (.mk (g_ O V) a1) M) ?_;rintro _ hD ⟨hV,ez,f2,ho,em,fu,hr,co,a3,rfl,c9,dd,dk,E,e4,e5,b8,f6,gm,g5,a6⟩;replace a3:=O.bO a3;refine zn a3 V fun hJ hE c4=>?_
 refine sgo 1 3 1 0 [] [] (Hr_ 3 3 Hn_) c4 V V fun hg hF b2=>?_
 refine ah 2 V ?_;refine ab ?_;refine zm (pT a5 0) ?_;refine zc (pa.aM ts ex _ _ (.mk (g_ b2 V) b8)) ?_;rintro _ hG ⟨hp,et,f1,ht,a9,al,rfl,e6,e7,T,g2,f7,go,g6,a2⟩;replace al:=b2.bO al;replace E:=E.mono a9;refine ah 2 V ?_;refine ab ?_;refine fQ 2 0 45 46 [] [(45,(tX ch)),(46,(aG [_,_,_,_,_]))] (Hr_ 1 3 Hn_) al V V fun _=>?_
 refine zlo _ al V (RL.cs (ExpT.mq E) RL.nl) V fun d1 fi hT hH cw c5=>?_
 refine sgo 2 3 48 48 [] [] (Hr_ 4 1 Hn_) c5 V V fun hh hI b3=>?_
 refine ah 1 V ?_;obtain⟨hu,ba,c6,cL,hk⟩:=OS.frz cw b3 (i:=4) V;replace T:=T.mono ba;refine ae ⟨.inr V,_,(rC V (bS V V (i_ b3 V) V) rN),(⟨3,0,_,0,_⟩:ExpT),d1,fi,_,_,_,_,(fT (fT (fT (fT (fT (a0) a7) a8) co) a9) ba),(HS.first c6),V,M,M,M,cL,M,M,T,M,M,M,(by(refine Oc.succ ?_ (fun _=>priM.eq_2 ..);refine Oc.iteF (fun hb=>nm_n X c8 hb) ?_;(try dsimp only at Y);refine Oc.seq Y ?_;refine Oc.yes b6 ?_;rw[aU b6 M];(try dsimp only at a6);refine Oc.seq a6 ?_;(try dsimp only at a2);first|exact a2|(refine Oc.seq a2 ?_;first|exact Oc.val M (fun _=>rfl)|exact Oc.done c1.1 c1.1 M (by rw[c1.2.2.1]<;>rfl)|exact⟨fun _=>⟨V,V⟩,fun _=> .fail M⟩)))⟩
theorem fv(ex:FuncId): ∀N,l8 ts ex N
 |0=>⟨by intros;omega,by intros;omega,by intros;omega,by intros;omega⟩
 |N+1=>⟨by intros;apply expr_c_s ts ex (N:=N) (ih:=fv ex N)<;>assumption,by intros;apply binary_c_s ts ex (N:=N) (ih:=fv ex N)<;>assumption,by intros;apply unary_c_s ts ex (N:=N) (ih:=fv ex N)<;>assumption,by intros;apply primary_c_s ts ex (N:=N) (ih:=fv ex N)<;>assumption⟩
theorem fo{E:Option Addr}{O:Nat}{Y:Nat}(r:RdrT)(T:pa.Pr1 H Y F E r O R ts):kKt ex 47 [(pT Y 0)] H (Po5 F H Y R fun x U=>(U.l=ts)/\(r.at_<=U.at_/\U.at_<=(ts.length:Int))/\(U.fin=r.fin)/\(Oc (fun n=>cH ts n r.at_.toNat) r.bad r.at_ x U.at_ U.bad)):=by apply(fv ts ex (12 *(ts.length-r.at_.toNat)+11+1)).1<;>first|assumption|exact a0w _
end Go.Proofs.YtapgbjedgcpffaaGreat.pc
