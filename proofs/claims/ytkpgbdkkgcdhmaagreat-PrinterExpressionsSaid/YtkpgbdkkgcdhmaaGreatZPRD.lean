/-
Symbolic runs by computation, data, the laid table.
-/
import Derived.Test.YtkpgbdkkgcdhmaaGreatZPRC
import Derived.Laws.Bits128
import Derived.OpenShut
import Derived.ReadAgain
import Derived.Test.YtkpgbdkkgcdhmaaGreatZPRB
import Derived.Deep.Slices
import Derived.JoinedCond
import Derived.LaidLaws
import Derived.KernelRfl
noncomputable section
namespace Go.R
section
variable {P:Program} {f:Fn} {H:Heap} {rs:List ResultVar} {l:List Value}
theorem rN:bZ P f H []=some []:=rfl
theorem rT{t:Tmp}{v:Value}(A:f t=v)(h:bZ P f H rs=some l):bZ P f H (.tmp t::rs)=some (v::l):=by unfold bZ;rw[h,A]
theorem rC{a:Tmp}{t:TypeId}{p:Addr}{v:Value}(ha:f a= .pointer (some p))(A:H.loadV P t p=some v)(h:bZ P f H rs=some l):bZ P f H (.cell a t::rs)=some (v::l):=by unfold bZ;rw[ha];simp only[A,h]
theorem cM{t:TypeId}{b n:Nat}{cs:List Value}(ha:eJ P t=some true)(hs:di P t=some n)(hc:HC H.get b 0 cs)(O:cs.length=n):H.loadV P t ⟨b,0,none⟩=some (.agg ⟨cs⟩):=by obtain⟨all,T,U,E,A⟩:=hc;unfold Heap.loadV;rw[ha];simp only[hs];unfold Heap.loadN;rw[a1f]at A;subst O;simp only[E,bL,cg,bA,a1f,A,a0S,cond_true]
end
section
variable {α:Type} [Rp α] {P:Program} {ρ:Operand->Value} {d:Option Tmp} {ty:TypeId} {pos:String} {af:Array Edge} {gd:Option (Nat×Bool)} {B:Base} {F:Fz} {H:Heap} {L R:List Fp} {v:Value} {l:List α} {p:Fp}
theorem ap_boolNe{t yt:TypeId}{x y:Operand}{a b:Bool}(E:ρ x= .bool a)(O:ρ y= .bool b)(A: ∀a b:Bool,au P (dQ .neq t x y a b)=some (.value (.bool (a !=b)))):AP P ρ ⟨d,.binOp .neq t x y yt,ty,pos,af,gd⟩ H (.val (.bool (a !=b)),H):=by
 refine⟨?_⟩;show aBin P ρ _ .neq t (ρ x) y H=_;rw[E];show bj P ρ _ H=_;unfold bj;have T:((Op.binOp .neq t x y yt).operands.toList.all fun x=>hZ (ρ x))=true:=by simp[Op.operands,E,O,hZ,cJ]
 simp only[T,cond_true];have U:au P (execOp ρ ⟨d,.binOp .neq t x y yt,ty,pos,af,gd⟩)=some (.value (.bool (a !=b))):=by rw[←A a b];unfold execOp dQ;simp only[E,O]
 rw[U];rfl
theorem lB: ∀{l:List UInt8} {cs:List Value} {F:Fz},RL F cs l->bO cs=some l
 | [],cs,F,h=>by simp only[RL]at h;subst h;rfl
 |c::l,cs,F,h=>by obtain⟨a,r,rfl,rfl,A⟩:=h;show(match bO r with|some r=>some (UInt8.ofNat (c.toNat:Int).toNat::r)|none=>none)=_;rw[lB A];simp
theorem ap_cvB{s t e:TypeId}{x:Operand}{l:List UInt8}(Z:ρ x=v)(hs:P.underlying s=some (.slice e))(T:P.underlying t=some .string)(E:P.underlying e=some (.int .u8))(h:Sv F H.get v l):
  AP P ρ ⟨d,.convert s t x,ty,pos,af,gd⟩ H (.val (.string ⟨⟨l⟩⟩),H):=by
 refine⟨?_⟩
 show eP P ρ _ s t (ρ x) H=_
 rw[Z]
 rcases h with⟨rfl,rfl⟩|⟨b,off,k,o,rfl,Y,cs,al,ro,rfl,g2,g3,A,g5⟩
 ·show ovl (cu P s t none 0 H) H=_;unfold cu;simp only[hs,T,E];rfl
 show ovl (cu P s t (some ⟨b,off,none⟩) l.length H) H=_
 unfold cu
 simp only[hs,T,E]
 cases hb:Nat.beq l.length 0 with
 |true=>
  have:l=[]:=a0f (a07 hb)
  subst this;rfl
 |false=>
  simp only[cond_false]
  have O:=A.length
  have U:Rp.sz UInt8=1:=rfl
  rw[U,Nat.mul_one]at O
  rw[U,Nat.mul_one]at A
  have V:H.loadN ⟨b,off,none⟩ l.length=some ((cs.drop off).take l.length):=by unfold Heap.loadN;simp only[Y,bL,cg,bA];rw[O,a0S];rfl
  simp only[V,lB A];rfl
theorem OS.len'{F:Fz}{a:Option Addr}{n k:Nat}{l:List α}{p:Fp}(h:OS F (.slice a n k) l p):l.length=n:=by obtain⟨A,E,e⟩:=h.shape;injection e with _ e _;exact e.symm
theorem rs_arr{e:TypeId}{z:List Value}(l0:List α){n:Nat}(hs:HS B F H L R)(O:dz P e=some z)(A:RL F z l0)(E:l0.length=n):
  ∃r:Rs,AP P ρ ⟨d,.alloc e,ty,pos,af,gd⟩ H (.val r.v,r.H)/\(∃b,r.v= .pointer (some ⟨b,0,none⟩)/\OS F (.slice (some ⟨b,0,none⟩) n n) l0 r.p/\HS B F r.H (L++[r.p]) R/\Wr H r.H []/\∃cs,r.p=[(b,.cells cs none false)]):=by
 subst E
 refine⟨⟨_,_,[(H.next,.cells z none false)]⟩,ap_alloc O,_,rfl,?_,hs.push _,.nil fun b hb=>(by simpa using hb),z,rfl⟩
 have:=A.length
 exact .inr ⟨H.next,0,_,z,none,rfl,rfl,_,_,_,rfl,fun _=>(by omega),a06 _,by rw[a1f,←this,a0W];exact A,.inl rfl⟩
theorem ap_idxA{x i:Operand}{t e:TypeId}{V:IntKind}{j:Int}{b n:Nat}(T:ρ x= .pointer (some ⟨b,0,none⟩))(hi:ρ i= .int V j)(O:P.underlying t=some (.array n e))(U:di P e=some (Rp.sz α))(A:0<=j)(Y:j<n):
  AP P ρ ⟨d,.indexAddr t x i,ty,pos,af,gd⟩ H (.val (.pointer (some ⟨sB (.slice (some ⟨b,0,none⟩) n n),sO (.slice (some ⟨b,0,none⟩) n n)+j.toNat *Rp.sz α,none⟩)),H):=by
 refine⟨?_⟩
 obtain⟨m,rfl⟩:=a0M A
 show ovl (cm P t (ρ x) (ρ i)) H=_
 rw[T,hi]
 unfold cm
 rw[O]
 show ovl (match di P e with|some sz=>bif Nat.ble (m+1) n then some (.pointer (some ⟨b,0+m *sz,none⟩)) else none|none=>none) H=_
 rw[U]
 have E:Nat.ble (m+1) n=true:=a0r (by omega)
 simp only[E,cond_true]
 rfl
theorem rs_cutA{x:Operand}{lo hi:Option Operand}{t e:TypeId}{i j q b n:Nat}(h:OS F (.slice (some ⟨b,0,none⟩) n n) l p)(hs:HS B F H L R)(hq:L[q]?=some p)(hx:ρ x= .pointer (some ⟨b,0,none⟩))(ht:P.underlying t=some (.array n e))(hz:di P e=some (Rp.sz α))
  (h1:bQ n (hi.map ρ)=some j) (h2:bQ 0 (lo.map ρ)=some i) (T:i<=j) (hj:j<=l.length) (Z: ∃cs,p=[(b,.cells cs none false)]):
  ∃r:Rs,AP P ρ ⟨d,.slice t x lo hi none,ty,pos,af,gd⟩ H (.val r.v,r.H)/\(∃a k,r.v= .slice a ((l.take j).drop i).length k/\r.H=H/\OS F (.slice a ((l.take j).drop i).length k) ((l.take j).drop i) p):=by
 have hn:=h.len'
 subst hn
 rcases h with⟨V,_⟩|⟨b',off,k,cs,bb,V,rfl,h5⟩
 ·cases V
 injection V with e1 e2 e3
 injection e1 with e1
 injection e1 with e4 e5
 subst e4 e5 e3
 obtain⟨ba,O⟩:=Z
 simp only[List.cons.injEq,a04,AObj.cells.injEq,true_and,and_true]at O
 obtain⟨rfl,rfl⟩:=O
 have hg:=hs.get hq (a0E.2 rfl)
 have A:((l.take j).drop i).length=j-i:=by simp;omega
 have E:=mo (n:=l.length) (k:=l.length) h1 h2 T hj
 have U: ∀w,be P t (.pointer (some ⟨b,0,none⟩)) (lo.map ρ) (hi.map ρ) none H=some w->AP P ρ ⟨d,.slice t x lo hi none,ty,pos,af,gd⟩ H (.val w,H):=by intro w hw;refine⟨?_⟩;show ovl (be P t (ρ x) (lo.map ρ) (hi.map ρ) (Option.map ρ none) H) H=_;rw[hx,a1F,hw];rfl
 cases Y:Nat.beq l.length i with
 |true=>
  have ax:=a07 Y
  refine⟨⟨_,H,[]⟩,U (.slice (some ⟨b,0,none⟩) (j-i) (l.length-i)) ?_,_,_,by rw[A],rfl,.inr ⟨b,0,l.length-i,cs,none,rfl,rfl,?_⟩⟩
  ·unfold be;simp only[ht,E,hz,hg,Y,cond_true]
  have e0:(l.take j).drop i=[]:=a0f (by rw[A];omega)
  rw[e0,←ax,Nat.sub_self]
  exact Sl_at0 h5
 |false=>
  refine⟨⟨_,H,[]⟩,U (.slice (some ⟨b,0+i *Rp.sz α,none⟩) (j-i) (l.length-i)) ?_,_,_,by rw[A],rfl,.inr ⟨b,0+i *Rp.sz α,l.length-i,cs,none,rfl,rfl,Sl_cut h5 T hj⟩⟩
  unfold be
  simp only[ht,E,hz,hg,Y,cond_false]
theorem rs_stA{t:TypeId}{a0 x0:Operand}{j q off n b o:Nat}{w:Value}{y:α}(y':α){A:List Value}(h:OS F v l p)(hs:HS B F H L R)(hq:L[q]?=some p)(ha:ρ a0= .pointer (some ⟨b,o,none⟩))(hb:b=sB v)(ho:o=sO v+j *Rp.sz α+off)(hx:ρ x0=w)(hn:di P t=some n)(hc:w.cells.toList=A)(hl:Nat.beq A.length n=true)
  (hy:l[j]?=some y) (h1:allL Value.oneCell' A=true) (hr: ∀cs,Rp.rep F cs y->off+A.length<=cs.length/\Rp.rep F (bu cs off A) y') {E:Nat} (T: ∃cs,p=[(E,.cells cs none false)]):
  ∃r:Rs,AP P ρ ⟨d,.store t a0 x0,ty,pos,af,gd⟩ H (.skip,r.H)/\(OS F v (l.set j y') r.p/\HS B F r.H (L.set q r.p) R/\Wr H r.H (p.map Prod.fst)/\∃cs,r.p=[(E,.cells cs none false)]):=by
 have Y:=hs.callOwn hq
 obtain⟨H1,p',g1,g2,V,g5⟩:=os_st (d:=d) (ty:=ty) (pos:=pos) (af:=af) (gd:=gd) (q:=0) h Y rfl ha hb ho hx hn hc hl hy h1 hr
 have h4:=hs.backOwn (M:=[]) hq rfl (fun b hb=>hb) V
 obtain⟨cs,Z⟩:=T
 obtain⟨U,O⟩:=g5 E cs none Z
 exact⟨⟨.bool true,H1,p'⟩,g1,g2,by simpa using h4,fun b hb=>V.log b hb,U,O⟩
theorem ap_ixG{x i:Operand}{t:TypeId}{cs:Array Value}{w r:Value}(A:ρ x= .agg cs)(hi:ρ i=w)(h:au P (Instr.index t (.agg cs) w)=some r):AP P ρ ⟨d,.index t x i,ty,pos,af,gd⟩ H (.val r,H):=by refine⟨?_⟩;show ku P t (ρ x) (ρ i) H=_;rw[A,hi];show lift P (Instr.index t (.agg cs) w) H=_;unfold lift;rw[h]
end
theorem u8_of{n:Nat}(h:n<256):(n:Int)=((UInt8.ofNat n).toNat:Int):=by rw[UInt8.toNat_ofNat'];omega
theorem u8r{n:Nat}(h:n<256):[Value.int .u8 (n:Int)]=[.int .u8 ((UInt8.ofNat n).toNat:Int)]:=by rw[←u8_of h]
theorem natsub{k:IntKind}{a b:Nat}(h:b<=a)(A:k.wrap ((a-b:Nat):Int)=((a-b:Nat):Int)):k.wrap ((a:Int)-(b:Int))=((a-b:Nat):Int):=by rw[←Int.ofNat_sub h];exact A
section
variable {α:Type} [Rp α] {P:Program} {ρ:Operand->Value} {d:Option Tmp} {ty:TypeId} {pos:String} {af:Array Edge} {gd:Option (Nat×Bool)} {B:Base} {F:Fz} {H:Heap} {L R:List Fp} {v:Value} {l:List α} {p:Fp} {t e:TypeId} {x:Operand} {i j q:Nat}
theorem ap_slSd{s:List UInt8}{lo:Option Operand}(T:ρ x= .string ⟨⟨s⟩⟩)(O:P.underlying t=some .string)(E:bQ 0 (lo.map ρ)=some i)(A:i<=s.length):
  AP P ρ ⟨d,.slice t x lo none none,ty,pos,af,gd⟩ H (.val (.string ⟨⟨s.drop i⟩⟩),H):=by
 have:=ap_slS (d:=d) (ty:=ty) (pos:=pos) (af:=af) (gd:=gd) (H:=H) (lo:=lo) (hi:=none) T O optN0 E A (a06 _)
 rwa [a0o (by simp)]at this
theorem rs_cutd{lo:Option Operand}(h:SR F v l)(hs:HS B F H L R)(T:ρ x=v)(O:P.underlying t=some (.slice e))(U:di P e=some (Rp.sz α))(E:bQ 0 (lo.map ρ)=some i)(A:i<=l.length):
  ∃r:Rs,AP P ρ ⟨d,.slice t x lo none none,ty,pos,af,gd⟩ H (.val r.v,r.H)/\(∃a k,r.v= .slice a (l.drop i).length k/\r.H=H/\SR F (.slice a (l.drop i).length k) (l.drop i)):=by
 have:=rs_cut (d:=d) (ty:=ty) (pos:=pos) (af:=af) (gd:=gd) (hi:=none) h hs T O U optN0 E A (a06 _)
 rwa [a0o (a06 _)]at this
theorem rs_cutt{hi:Option Operand}(h:SR F v l)(hs:HS B F H L R)(T:ρ x=v)(O:P.underlying t=some (.slice e))(U:di P e=some (Rp.sz α))(A:bQ l.length (hi.map ρ)=some j)(E:j<=l.length):
  ∃r:Rs,AP P ρ ⟨d,.slice t x none hi none,ty,pos,af,gd⟩ H (.val r.v,r.H)/\(∃a k,r.v= .slice a (l.take j).length k/\r.H=H/\SR F (.slice a (l.take j).length k) (l.take j)):=by
 have:=rs_cut (d:=d) (ty:=ty) (pos:=pos) (af:=af) (gd:=gd) (lo:=none) h hs T O U A optN0 (a0B _) E
 rwa [a1f]at this
end
end Go.R
end
noncomputable section
namespace Go.R
theorem jP(n:Int):IntKind.u64.wrap n=n%18446744073709551616:=rfl
abbrev bv(n:Int):BitVec 64:=BitVec.ofInt 64 n
end Go.R
end
noncomputable section
namespace Go.R
def decD(d:Nat):UInt8:=UInt8.ofNat (48+d)
def dec(n:Nat):List UInt8:=if n<10 then [decD n] else dec (n/10)++[decD (n%10)]
def eD(c:UInt8):Bool:=decide (48<=c.toNat)&&decide (c.toNat<=57)
def valA(n:Nat)(c:UInt8):Nat:=10 *n+(c.toNat-48)
def val(l:List UInt8):Nat:=l.foldl valA 0
def iJ(t:List UInt8):Bool:=decide (1<=t.length)&&decide (t.length<=19)&&t.all eD&&(t.headD 0 !=48||t.length==1)
def posS(s:List UInt8)(A:Nat):Option Nat:=if iJ s=true/\val s<=A then some (val s) else none
def aL(s:List UInt8):Option Int:=
 if s.headD 0=45 then(match posS s.tail 9223372036854775808 with
  |some 0=>none
  |some n=>some (-(n:Int))
  |none=>none)
 else(match posS s 9223372036854775807 with
  |some n=>some (n:Int)
  |none=>none)
def bS(n:Int):List UInt8:=if n<0 then 45::dec n.natAbs else dec n.toNat
theorem gv{d:Nat}(h:d<10):(decD d).toNat=48+d:=by unfold decD;rw[UInt8.toNat_ofNat'];omega
theorem du{n:Nat}(h:n<10):dec n=[decD n]:=by rw[dec,if_pos h]
theorem iO{n:Nat}(h: ¬n<10):dec n=dec (n/10)++[decD (n%10)]:=by rw[dec,if_neg h]
theorem md(k:Nat): ∀n,n<10^(k+1)->(dec n).length<=k+1:=by
 induction k with
 |zero=>intro n h;rw[du (by omega)];simp
 |succ k ih=>
  intro n h
  by_cases A:n<10
  ·rw[du A];simp
  rw[iO A,a01]
  have:=ih (n/10) (by rw[a1K]at h;omega)
  simp;omega
theorem dec_dig: ∀n,(dec n).all eD=true:=by
 intro n;induction n using Nat.strongRecOn with
 |_ n ih=>
  have hd: ∀d,d<10->eD (decD d)=true:=fun d h=>by
   unfold eD;rw[gv h];have E:48<=48+d:=by omega
   have O:48+d<=57:=by omega
   simp[E,O]
  by_cases A:n<10
  ·rw[du A];simp[hd n A]
  rw[iO A,a1A,ih (n/10) (by omega)]
  simp[hd (n%10) (by omega)]
theorem dec_ne(n:Nat):dec n≠ []:=by
 by_cases A:n<10
 ·rw[du A];simp
 rw[iO A];simp
theorem dec_head: ∀n,0<n->(dec n).headD 0≠48:=by
 intro n;induction n using Nat.strongRecOn with
 |_ n ih=>
  intro T
  by_cases A:n<10
  ·rw[du A];intro h;have:=congrArg UInt8.toNat h;simp only[List.headD_cons]at this;rw[gv A]at this;have e:(48:UInt8).toNat=48:=rfl;omega
  rw[iO A]
  have E:=ih (n/10) (by omega) (by omega)
  cases O:dec (n/10) with
  |nil=>exact absurd O (dec_ne _)
  |cons a t=>rw[O]at E;exact E
theorem dec_45(n:Nat):(dec n).headD 0≠45:=by
 have h:=dec_dig n;cases E:dec n with
 |nil=>exact absurd E (dec_ne _)
 |cons a t=>
  rw[E]at h
  intro A
  simp only[List.headD_cons]at A
  subst A
  simp[eD]at h
theorem kO(l:List UInt8)(c:UInt8):val (l++[c])=10 *val l+(c.toNat-48):=by unfold val;rw[a1H];rfl
theorem jN: ∀n,val (dec n)=n:=by
 intro n;induction n using Nat.strongRecOn with
 |_ n ih=>
  by_cases A:n<10
  ·rw[du A];show valA 0 (decD n)=n;unfold valA;rw[gv A];omega
  rw[iO A,kO,ih (n/10) (by omega),gv (by omega)];omega
theorem dec_len1{n:Nat}(h:(dec n).headD 0=48):(dec n).length=1:=by
 rcases a1o n with h0|h0
 ·subst h0;rw[du (by omega)];rfl
 exact absurd h (dec_head n h0)
theorem j4{n:Nat}(h:n<10^19):iJ (dec n)=true:=by
 unfold iJ;have E:(dec n).length<=19:=md 18 n h;have O:1<=(dec n).length:=by
  rcases a1o (dec n).length with h0|h0
  ·exact absurd (a0f h0) (dec_ne n)
  exact h0
 rw[decide_eq_true E,decide_eq_true O,dec_dig];by_cases A:(dec n).headD 0=48
 ·rw[dec_len1 A];simp
 have:((dec n).headD 0 !=48)=true:=by simpa using A
 rw[this];rfl
theorem kU{n:Int}(h:in64 n):aL (bS n)=some n:=by
 obtain⟨T,U⟩:=h;unfold bS;split
 ·rename_i O;have hb:n.natAbs<10^19:=by omega
  unfold aL;simp only[List.headD_cons,if_true,List.tail_cons];unfold posS;have A:iJ (dec n.natAbs)=true/\val (dec n.natAbs)<=9223372036854775808:=⟨j4 hb,by rw[jN];omega⟩
  rw[if_pos A,jN];obtain⟨m,E⟩: ∃m,n.natAbs=m+1:=⟨n.natAbs-1,by omega⟩
  rw[E];simp only[a00];omega
 rename_i O;have hb:n.toNat<10^19:=by omega
 unfold aL;rw[if_neg (dec_45 _)];unfold posS;have A:iJ (dec n.toNat)=true/\val (dec n.toNat)<=9223372036854775807:=⟨j4 hb,by rw[jN];omega⟩
 rw[if_pos A,jN];simp only[a00];omega
theorem lL{s:List UInt8}{i:Nat}(h:i<s.length):val (s.take (i+1))=10 *val (s.take i)+((s.getD i 0).toNat-48):=by
 have:s.take (i+1)=s.take i++[s.getD i 0]:=by rw[a11,a09,a08 h];rfl
 rw[this,kO]
theorem iw{p:UInt8->Bool}{s:List UInt8}{i:Nat}(h:i<s.length):(s.take (i+1)).all p=((s.take i).all p&&p (s.getD i 0)):=by
 have:s.take (i+1)=s.take i++[s.getD i 0]:=by rw[a11,a09,a08 h];rfl
 rw[this,a1A];simp
theorem val_lt{s:List UInt8}: ∀i,i<=s.length->(s.take i).all eD=true->val (s.take i)<10^i:=by
 intro i;induction i with
 |zero=>intro _ _;rw[List.take_zero];decide
 |succ i ih=>
  intro h hd
  rw[iw (by omega),a02]at hd
  have E:=ih (by omega) hd.1
  have A:=hd.2
  simp only[eD,a02,decide_eq_true_eq]at A
  rw[lL (by omega),a1K]
  omega
end Go.R
end
noncomputable section
namespace Go.R
open Go.RowKit Go.WideShapes Go.ChangeShapes
structure Em(w:World)(μ:Emb)(H:Heap):Prop where
 rel:WRel μ H w
 ro: ∀b o,H.get b=some o->o.rw=false
 wf:WF H
 dom: ∀b,H.next<=b->μ b=none
 log:H.log=[]
theorem Em.empty(w:World):Em w (fun _=>none) Heap.empty:=
 ⟨⟨fun b l o h=>by simp at h,fun A E l1 l2 O T _ h=>by simp at h⟩,fun b o h=>(by cases h),fun b _=>rfl,fun b _=>rfl,rfl⟩
section
variable {w:World} {μ:Emb} {H:Heap}
theorem Em.lt(h:Em w μ H){b:Nat}{o:AObj}(hb:H.get b=some o):b<H.next:=by
 rcases a0k b H.next with h1|h1
 ·exact h1
 rw[h.wf b h1]at hb;cases hb
theorem Em.add(h:Em w μ H){c sh:Nat}{cs:List Value}(hc:c<w.heap.size)(E: ∀(i:Nat) v,cs[i]?=some v->∃v',w.cell? ⟨c,sh+i,none⟩=some v'/\VRel μ v v'):
  Em w (μ.set H.next ⟨c,sh,none,0⟩) (H.push (.cells cs none true)):=by
 have O:=Emb.set_ext (μ:=μ) (b:=H.next) ⟨c,sh,none,0⟩ (h.dom _ (a06 _))
 have T: ∀b o,(H.push (.cells cs none true)).get b=some o->(b=H.next/\o= .cells cs none true)\/(b≠H.next/\H.get b=some o):=by
  intro b o hb;by_cases e:b=H.next
  ·subst e;rw[Heap.get_push_same]at hb;exact .inl ⟨rfl,(Option.some.inj hb).symm⟩
  rw[Heap.get_push_ne _ _ (Ne.symm e)]at hb;exact .inr ⟨e,hb⟩
 have U: ∀b o,(H.push (.cells cs none true)).get b=some o->o.rw=false:=by
  intro b o hb;rcases T b o hb with⟨_,rfl⟩|⟨_,V⟩
  ·rfl
  exact h.ro b o V
 refine⟨⟨fun b l o hb ho=>?_,fun b1 b2 l1 l2 o1 o2 _ _ _ h3 _ Y _=>?_⟩,U,fun b hb=>?_,fun b hb=>?_,h.log⟩
 ·rcases T b o ho with⟨rfl,rfl⟩|⟨Z,al⟩
  ·rw[Emb.set_same]at hb;obtain rfl:=Option.some.inj hb;refine⟨rfl,rfl,hc,fun i v hv=>?_⟩;obtain⟨v',V,h2⟩:=E i v hv;exact⟨v',V,h2.mono O⟩
  rcases Emb.set_inv hb with⟨e,_⟩|⟨_,A⟩
  ·exact absurd e Z
  exact(h.rel.obj b l o A al).keep O (a06 _) (fun _=>rfl)
 ·rw[U b1 o1 h3]at Y;cases Y
 ·have A:H.next+1<=b:=hb;rw[Heap.get_push_ne _ _ (by omega)];exact h.wf b (by omega)
 have A:H.next+1<=b:=hb
 unfold Emb.set
 rw[if_neg (by omega)];exact h.dom b (by omega)
theorem Em.hs(h:Em w μ H):HS (.of H []) H.get H [] []:=
 ⟨fun b o hb=>⟨hb,h.lt hb⟩,fun p A=>by simp at A,by simp,a06 _,fun b hb=> .inl hb,fun p A=>by simp at A⟩
theorem walk_of_Em{P:Program}{K:bp}(U:gk P 0 K)(h:Em w μ H){f:FuncId}{args:List Value}{A:Array Value}(ha:LRel μ args A.toList)(hc:C P 0 K f args H fun v _=>v= .bool true):
  Calls P f A w fun e w'=>e= .returned (.bool true)/\Below w.heap.size w w':=by
 obtain⟨n,v,H',T,rfl⟩:=hc.out
 obtain⟨_,E⟩:=call_ok (G:=0) U n f args H (.bool true) H' T h.wf
 refine(E μ w A ha (fun g Z=>by omega) h.rel (fun b hb _=>h.dom b hb)).mono ?_
 rintro e w' ⟨μ',v',rfl,hr,hp⟩
 rw[hr.eq2 rfl]
 exact⟨rfl,hp.os,hp.tape,hp.out,hp.grow,fun k V=>hp.keep k V fun b l x _ Y O=>by rw[h.ro b x Y]at O;cases O⟩
end
structure EmLe(μ:Emb)(H:Heap)(μ':Emb)(H':Heap):Prop where
 emb: ∀b l,μ b=some l->μ' b=some l
 heap:Fz.le H.get H'.get
theorem EmLe.refl(μ:Emb)(H:Heap):EmLe μ H μ H:=⟨fun _ _ h=>h,fun _ _ h=>h⟩
theorem EmLe.add{w:World}{μ:Emb}{H:Heap}(h:Em w μ H)(l:Loc)(o:AObj):EmLe μ H (μ.set H.next l) (H.push o):=
 ⟨Emb.set_ext l (h.dom _ (a06 _)),fun b x hb=>by rw[Heap.get_push_ne _ _ (Nat.ne_of_gt (h.lt hb))];exact hb⟩
section
variable {X:Type} {enc:TypeId×Value->X} {P:Program} {w:World} {μ:Emb} {H:Heap}
theorem wf_in64{n:Int}(h:(Lit.int .i64 n).wf=true):in64 n:=by simp[Lit.wf,IntKind.min,IntKind.max,IntKind.signed,IntKind.bits]at h;exact⟨by omega,by omega⟩
theorem RL_ints{F:Fz}: ∀(l:List Int),(∀n∈l,in64 n)->RL F (l.map fun n=>Value.int .i64 n) l
 | [],_=>rfl
 |n::l,h=>⟨[.int .i64 n],l.map fun n=>Value.int .i64 n,rfl,⟨rfl,h n (by simp)⟩,RL_ints l fun m A=>h m (by simp[A])⟩
theorem em_ints{base:Nat}{t e:TypeId}{v:Value}{d:DataW X}{ps:List MemPlace}(h:Em w μ H)(V:P.underlying t=some (.slice e))(he:P.underlying e=some (.int .i64))(hc:P.cellsOf e=1)(al:Value.okWide P w .any base t v)
  (hd:DataW.Trod enc P w 0 (fun _=>true) true t v d ps):
  ∃μ' H' a k,∃l:List Int,Em w μ' H'/\EmLe μ H μ' H'/\VRel μ' (.slice a l.length k) v/\SR H'.get (.slice a l.length k) l/\(l.length<=maxLen)/\(∃a5,d= .slice (Go.ChangeShapes.lits .i64 l) a5\/d= .nil/\l=[]):=by
 obtain⟨a,len,T,rfl⟩:=okWide_slice V al
 obtain⟨fuel,hf⟩:=hd
 rcases Go.ChangeShapes.open_ints V he hc hf with⟨U,O⟩|⟨a',len',bf,A,U,_,a8,b0,a3,O,ar,bb⟩
 ·simp[Value.cells]at U;obtain⟨rfl,rfl,rfl⟩:=U;simp only[a04]at O;exact⟨μ,H,none,0,[],h,.refl _ _,.atom _ rfl,.nil,a0B _,[],.inr ⟨O.1,rfl⟩⟩
 simp[Value.cells]at U
 obtain⟨rfl,rfl,rfl⟩:=U
 have a9:a'.spot=none/\a'.block<w.heap.size:=by
  have Z:Cell.ok P w .any base t (.slice (some a') len T):=by have:=al;unfold Value.okWide at this;rw[V]at this;simp only at this;unfold Cell.okWide at this;rw[V]at this;exact this
  unfold Cell.ok at Z;rw[V]at Z;obtain⟨_,_,_,ba,b1,cells,hs,_⟩:=Z;refine⟨ba,?_⟩;unfold World.shape? at hs;split at hs
  ·rename_i a7;exact(a0L.1 a7).1
  cases hs
 obtain⟨c,off,sp⟩:=a'
 obtain⟨rfl,a6⟩:=a9
 simp only[if_true]at a3
 have a2: ∀n∈A.take len,in64 n:=fun n hn=>wf_in64 (bb n (List.mem_of_mem_take hn))
 have hl:(A.take len).length=len:=by rw[a0O];omega
 have hA:=h.add (c:=c) (sh:=off) (cs:=(A.take len).map fun n=>Value.int .i64 n) a6 (fun i v Y=>by
  rw[a1C]at Y;cases E:(A.take len)[i]? with
  |none=>rw[E]at Y;cases Y
  |some n=>
   rw[E]at Y
   obtain rfl:=Option.some.inj Y
   have hi:=(a0v.1 E).1
   have a1:=ar i (by rw[hl]at hi;omega)
   have hn:A.getD i 0=n:=by
    rw[a0x]at E;split at E
    ·rw[a09,E];rfl
    cases E
   refine⟨_,?_,.atom _ rfl⟩
   rw[hn]at a1
   rw[←a1]
   congr 1
   unfold Addr.add
   split
   ·rename_i h0;subst h0;rfl
   rfl)
 refine⟨_,_,some ⟨H.next,0,none⟩,T,A.take len,hA,.add h _ _,?_,?_,by rw[hl];omega,A.drop len|>Go.ChangeShapes.lits .i64,.inl ?_⟩
 ·rw[hl];have:=VRel.sliceC (μ:=μ.set H.next ⟨c,off,none,0⟩) H.next 0 len T ⟨c,off,none,0⟩ (Emb.set_same _ _ _) rfl;simpa using this
 ·refine .inr ⟨H.next,0,T,_,rfl,Heap.get_push_same _ _,_,none,true,rfl,fun O=>(by cases O),(by rw[hl];exact a8),?_,.inl rfl⟩;have e1:((A.take len).map fun n=>Value.int .i64 n).length=(A.take len).length *Rp.sz Int:=by rw[a1h];show _=_ *1;omega
  rw[a1f,←e1,a0W];exact RL_ints _ a2
 simp only[a04]at O
 exact O.1
end
section
variable {X:Type} {enc:TypeId×Value->X} {P:Program}
theorem iz{w w':World}{base:Nat}{A:Nat->Bool}{held:Bool}: ∀{ts:List TypeId} {vs:List Value} {ds:List (DataW X)} {ps:List MemPlace},DataW.TrodAll enc P w base A held ts vs ds ps->(∀p∈ps,w.sameAt w' p)->DataW.TrodAll enc P w' base A held ts vs ds ps
 | [],[],[],_,h,_=>h
 |_::_,_::_,_::_,_,⟨p,q,⟨n,h1⟩,h2,e⟩,hs=>⟨p,q,⟨n,DataW.trod_carry n _ _ _ h1 fun x E=>hs x (by rw[e];exact a1M _ E)⟩,iz h2 fun x E=>hs x (by rw[e];exact List.mem_append_right _ E),e⟩
theorem post_law{f:Func}{s:ChangeSpec}{O Z T Y:Bool}{W W':World}{args:Array Value}{ds gs:List (DataW X)}{E:List MemPlace}{tb:TypeId}
  (K:Kids P (· <P.types.size)) (ax: ∀t e,t<P.types.size->P.underlying t=some (.slice e)->0<P.cellsOf e) (a3: ∀t∈f.params.toList,t<P.types.size)
  (hW:DataW.Whole enc P f.params.toList s.vars O W args.toList ds gs E) (V:s.vars=[]) (A:f.resultTypes= #[tb]) (an:P.underlying tb=some .bool)
  (U:s.fn X (ds++gs)={results:=[.lit (.bool true)],args:=ds}) (hb:Below W.heap.size W W'):s.post enc P f O Z T Y W args (.bool true) W':=by
 have a7: ∀p∈E,p.block<W.heap.size:=fun p hp=>by simpa using hW.lt p hp
 have a6:=hW
 obtain⟨p,q,hA,hV,rfl,bl,bn⟩:=hW
 have hq:q=[]/\gs=[]:=by
  rw[V]at hV;cases gs with
  |nil=>exact⟨hV,rfl⟩
  |cons _ _=>exact absurd hV id
 obtain⟨rfl,rfl⟩:=hq
 refine lU (pa:=p) (pv:=[]) a6 (fun b sp hd=>?_) (fun sp a8=>?_) (fun sp _=>?_) rfl hb ?_
 ·rw[U,A];exact trodAll_cons_mk (shut_bool an true) rfl
 ·rw[U];refine DataW.TrodAll.respare K ax a3 (iz hA fun x hx=>hb.same (a7 x (by simpa using hx))) fun x hx=>a8 x (by simpa using hx)
 ·rw[V,U];rfl
 rw[A]
 intro j t r h1 h2
 exact ok_one (f:=f) A rfl (okWide_bool_mk an true) j t r (by rw[A];exact h1) (by rw[A];exact h2)
end
end Go.R
end
noncomputable section
namespace Go.R
open Go
section
variable {P:Program} {d:Nat} {t:TypeId}
theorem eqI{k:IntKind}{a b:Int}(A:P.underlying t=some (.int k)):au P (Op.equalIn (d+1) t (.int k a) (.int k b))=some (a==b):=by simp[Op.equalIn,underlying,A]
theorem eqB{a b:Bool}(A:P.underlying t=some .bool):au P (Op.equalIn (d+1) t (.bool a) (.bool b))=some (a==b):=by simp[Op.equalIn,underlying,A]
structure EqF(P:Program)(d:Nat)(xs ys:Array Value)(f:Field)(b:Bool):Prop where
 named:f.name≠ "_"
 ok: ∃u v,au P (part f.type xs f.offset)=some u/\au P (part f.type ys f.offset)=some v/\au P (Op.equalIn d f.type u v)=some b
inductive EqFs(P:Program)(d:Nat)(xs ys:Array Value):List Field->List Bool->Prop
 |nil:EqFs P d xs ys [] []
 |cons {f b fs bs}:EqF P d xs ys f b->EqFs P d xs ys fs bs->EqFs P d xs ys (f::fs) (b::bs)
def eqLoop(d:Nat)(xs ys:Array Value)(fs:List Field):Sem (Option Bool×Unit):=
 forIn fs ((none:Option Bool),()) fun f (_:Option Bool×Unit)=>
  if f.name≠ "_" then do
   if !(←Op.equalIn d f.type (←part f.type xs f.offset) (←part f.type ys f.offset)) then pure (ForInStep.done (some false,()))
   else pure (ForInStep.yield (none,()))
  else pure (ForInStep.yield (none,()))
theorem eq_loop{xs ys:Array Value}{fs:List Field}{bs:List Bool}(h:EqFs P d xs ys fs bs):
  au P (eqLoop d xs ys fs)=some (if bs.all id=true then none else some false,()):=by
 induction h with
 |nil=>simp[eqLoop]
 | @cons f b fs bs hf _ ih=>
  obtain⟨T,u,v,A,E,O⟩:=hf
  unfold eqLoop at ih⊢
  rw[List.forIn_cons,if_pos T]
  simp only[aD,A,E,O,a0l]
  cases b
  ·simp
  simp only[a1q,a0g,if_false,bD,a0l,ih]
  simp
theorem eq_struct{fs:Array Field}{xs ys:Array Value}{bs:List Bool}(A:P.underlying t=some (.struct fs))(hs:P.stoodInHeld t=false)
  (h:EqFs P d xs ys fs.toList bs):au P (Op.equalIn (d+1) t (.agg xs) (.agg ys))=some (bs.all id):=by
 simp only[Op.equalIn,underlying,aD,ev,a0l,A,bD,hs,a0g,if_false]
 rw[←Array.forIn_toList]
 have:=eq_loop h
 unfold eqLoop at this
 rw[this]
 cases bs.all id<;>rfl
end
section
variable {P:Program} {ρ:Operand->Value} {d:Option Tmp} {ty:TypeId} {pos:String} {af:Array Edge} {gd:Option (Nat×Bool)} {H:Heap}
theorem noA_cells{cs:List Value}(h:cs.all cJ=true):hZ (.agg ⟨cs⟩)=true:=h
theorem ap_agEq{t yt:TypeId}{x y:Operand}{xs ys:List Value}{fs:Array Field}{bs:List Bool}(A:ρ x= .agg ⟨xs⟩)(T:ρ y= .agg ⟨ys⟩)
  (E:xs.all cJ=true) (O:ys.all cJ=true)
  (hu:P.underlying t=some (.struct fs)) (hs:P.stoodInHeld t=false) (hg:P.eqGuardType P.depth t=false)
  (h:EqFs P 9999 ⟨xs⟩ ⟨ys⟩ fs.toList bs):AP P ρ ⟨d,.binOp .eql t x y yt,ty,pos,af,gd⟩ H (.val (.bool (bs.all id)),H):=by
 refine⟨?_⟩
 show aBin P ρ _ .eql t (ρ x) y H=_
 rw[A]
 show bj P ρ _ H=_
 unfold bj
 have Y:((Op.binOp .eql t x y yt).operands.toList.all fun x=>hZ (ρ x))=true:=by simp[Op.operands,A,T,noA_cells E,noA_cells O]
 simp only[Y,cond_true]
 have Z:au P (execOp ρ ⟨d,.binOp .eql t x y yt,ty,pos,af,gd⟩)=some (.value (Value.bool (bs.all id))):=by
  unfold execOp;simp only[A,T,aD];have U:au P (eqGuard .eql t x y (.agg ⟨xs⟩) (.agg ⟨ys⟩))=some ():=by simp[eqGuard,hg]
  have V:au P (binOp .eql t (.agg ⟨xs⟩) (.agg ⟨ys⟩))=some (Value.bool (bs.all id)):=by show au P (Op.equal t (.agg ⟨xs⟩) (.agg ⟨ys⟩)>>=fun b=>(Pure.pure (Value.bool b):Sem Value))=_;rw[aD,show Op.equal t (.agg ⟨xs⟩) (.agg ⟨ys⟩)=Op.equalIn (9999+1) t (.agg ⟨xs⟩) (.agg ⟨ys⟩) from rfl,eq_struct hu hs h];rfl
  simp only[U,V,a0l];rfl
 rw[Z];rfl
end
end Go.R
end
noncomputable section
namespace Go.R
open Go.RowKit
def tcell(n:Nat):AObj:= .cells [.slice (some ⟨1,0,none⟩) n n] none true
open Classical in
def KT(A ex n:Nat)(cells:List Value):bp:=fun f args H=>match args with
 | []=>bif (Nat.ble f A&&Nat.beq f ex) then(if H.get 0=some (tcell n)/\H.get 1=some (.cells cells none true) then some (.bool true) else none) else none
 |_=>none
structure TB(n:Nat)(cells:List Value)(F:Fz):Prop where
 at0:F 0=some (tcell n)
 at1:F 1=some (.cells cells none true)
section
variable {n:Nat} {cells:List Value} {F F':Fz}
end
end Go.R
end
noncomputable section
set_option linter.unusedVariables false
set_option linter.unusedSimpArgs false
namespace Go.R
inductive Hint where
 |p
 |w
 |e (n:Int)
 |o (v:Value)
abbrev Ch:=List (Nat×Bool)
def bq:Bool->Bool->Bool
 |true,b=>b
 |false,b=> !b
theorem bq_eq{a b:Bool}(h:bq a b=true):a=b:=by cases a<;>cases b<;>first|rfl|cases h
def gl:List (Nat×Bool)->Nat->Option Bool
 | [],_=>none
 |(s,g)::G,t=>bif Nat.beq s t then some g else gl G t
def act(G:List (Nat×Bool)):Ch->Bool
 | []=>true
 |(s,w)::c=>(match gl G s with|some g=>bq g w|none=>false)&&act G c
def memC(s:Nat)(w:Bool):Ch->Bool
 | []=>false
 |(s',w')::c=>(Nat.beq s' s&&bq w' w)||memC s w c
def subC:Ch->Ch->Bool
 | [],_=>true
 |(s,w)::a,c=>memC s w c&&subC a c
def lk:List (Nat×Ch×Value)->Nat->Option (Ch×Value)
 | [],_=>none
 |(s,x)::m,t=>bif Nat.beq s t then some x else lk m t
structure SS where
 m:List (Nat×Ch×Value)
 G:List (Nat×Bool)
def SS.rd(S:SS)(f:Fn):Operand->Value
 | .tmp t=>match lk S.m t with
  |some x=>x.2
  |none=>f t
 | .const v=>v
 | .global g=> .pointer (some ⟨g,0,none⟩)
 | .func i=> .func (.func i) #[] #[]
def SS.can(S:SS)(c:Ch):Operand->Bool
 | .tmp t=>match lk S.m t with
  |some x=>subC x.1 c
  |none=>true
 |_=>true
def impl(G:List (Nat×Bool)):Ch->Prop->Prop
 | [],p=>p
 |(s,w)::c,p=>match gl G s with
  |some g=>g=w->impl G c p
  |none=>True
def jF(G:List (Nat×Bool))(s:Nat)(g:Bool):List (Nat×Bool):=match gl G s with
 |some _=>G
 |none=>(s,g)::G
def eI:Option Prop->Prop
 |none=>True
 |some p=>p
def andO(q:Option Prop)(p:Prop):Prop:=match q with
 |none=>p
 |some q=>q/\p
def rng(k:IntKind)(n:Int):Prop:=match k with
 | .i64=> -9223372036854775808<=n/\n<9223372036854775808
 | .u64=>0<=n/\n<18446744073709551616
 | .u8=>0<=n/\n<256
 |k=>k.wrap n=n
theorem rng_wrap{k:IntKind}{n:Int}(h:rng k n):k.wrap n=n:=by
 cases k with
 |i64=>exact iD h
 |u64=>exact lK h
 |u8=>exact w_u8 h
 |_=>exact h
def kq:IntKind->IntKind->Bool
 | .i64,.i64=>true
 | .u64,.u64=>true
 | .u8,.u8=>true
 | .i32,.i32=>true
 | .u32,.u32=>true
 |_,_=>false
theorem kq_eq{k A:IntKind}(h:kq k A=true):A=k:=by cases k<;>cases A<;>first|rfl|cases h
abbrev VP:=Option (Value×Option Prop)
def ari(h:Hint)(k:IntKind)(n:Int):VP:=match h with
 | .w=>some (.int k (k.wrap n),none)
 | .e m=>some (.int k m,some (n=m/\rng k m))
 |_=>some (.int k n,some (rng k n))
def bi(h:Hint)(k:IntKind)(n:Int):VP:=match h with
 | .e m=>some (.int k m,some (n=m))
 |_=>some (.int k n,none)
def withP(p:Prop):VP->VP
 |some (v,none)=>some (v,some p)
 |some (v,some q)=>some (v,some (p/\q))
 |none=>none
def pint(h:Hint)(op:BinOp)(k:IntKind)(x y:Int):VP:=match op with
 | .add=>ari h k (x+y)
 | .sub=>ari h k (x-y)
 | .mul=>ari h k (x *y)
 | .quo=>withP (y≠0) (ari h k (x.tdiv y))
 | .rem=>withP (y≠0) (bi h k (x.tmod y))
 | .and=>bi h k (cU .and k x y)
 | .or=>bi h k (cU .or k x y)
 | .xor=>bi h k (cU .xor k x y)
 | .andNot=>bi h k (cU .andNot k x y)
 | .eql=>some (.bool (x==y),none)
 | .neq=>some (.bool (x !=y),none)
 | .lss=>some (.bool (decide (x<y)),none)
 | .leq=>some (.bool (decide (x<=y)),none)
 | .gtr=>some (.bool (decide (y<x)),none)
 | .geq=>some (.bool (decide (y<=x)),none)
 |_=>none
def AGB(P:Program)(op:BinOp)(t:TypeId)(a b v:Value):Prop:= ∀(ρ:Operand->Value) (x y:Operand) (yt:TypeId) (d:Option Tmp) (ty:TypeId) (pos:String) (af:Array Edge) (gd:Option (Nat×Bool)) (H:Heap),ρ x=a->ρ y=b->AP P ρ ⟨d,.binOp op t x y yt,ty,pos,af,gd⟩ H (.val v,H)
def isBT(P:Program)(t:TypeId):Bool:=match P.underlying t with
 |some .bool=> !P.eqGuardType P.depth t
 |_=>false
def pbin(P:Program)(h:Hint)(op:BinOp)(t:TypeId)(a b:Value):VP:=match a,b with
 | .int k x,.int k' y=>match op with
  | .shl=>withP (0<=y) (bi h k (k.wrap (x *2^(Nat.min y.toNat k.bits))))
  | .shr=>withP (0<=y) (bi h k (x.fdiv (2^(Nat.min y.toNat k.bits))))
  |op=>bif kq k k' then pint h op k x y else none
 | .string x,.string y=>match op with
  | .eql=>some (.bool (x.data.toList==y.data.toList),none)
  | .neq=>some (.bool (x.data.toList !=y.data.toList),none)
  | .lss=>some (.bool (Op.bytesLess x.data.toList y.data.toList),none)
  | .leq=>some (.bool (Op.bytesLess x.data.toList y.data.toList||x.data.toList==y.data.toList),none)
  | .add=>some (.string ⟨⟨x.data.toList++y.data.toList⟩⟩,some (x.data.toList.length+y.data.toList.length<=1099511627776))
  |_=>none
 | .bool x,.bool y=>bif isBT P t then match op with
  | .eql=>some (.bool (x==y),none)
  | .neq=>some (.bool (x !=y),none)
  |_=>none else none
 | .agg x,.agg y=>match h with
  | .o v=>some (v,some (AGB P op t (.agg x) (.agg y) v))
  |_=>none
 | .pointer a,.pointer b=>match nilEq P t (.pointer a) (.pointer b),op with
  |some r,.eql=>some (.bool r,none)
  |some r,.neq=>some (.bool (!r),none)
  |_,_=>none
 | .slice a n k,.slice b n' k'=>match nilEq P t (.slice a n k) (.slice b n' k'),op with
  |some r,.eql=>some (.bool r,none)
  |some r,.neq=>some (.bool (!r),none)
  |_,_=>none
 |_,_=>none
def pun(h:Hint)(op:UnOp)(v:Value):VP:=match op,v with
 | .not,.bool b=>some (.bool (!b),none)
 | .neg,.int k n=>ari h k (0-n)
 | .xor,.int k n=>bi h k (bits .xor k (if k.signed then-1 else k.max) n)
 |_,_=>none
structure FW where
 ld:TypeId->Value->Value->Prop
 cl:FuncId->List Value->Value->Prop
 cv:TypeId->TypeId->Option Addr->Nat->Value->Prop
 sl:TypeId->Value->Option Value->Option Value->Value->Prop
 lk:TypeId->Value->Value->Bool->Value->Prop
def pconv(P:Program)(W:FW)(h:Hint)(s t:TypeId)(v:Value):VP:=match v with
 | .int _ n=>match P.underlying s,P.underlying t with
  |some _,some (.int k')=>ari h k' n
  |_,_=>none
 | .slice a n k=>match h with
  | .o v=>some (v,some (W.cv s t a n v))
  |_=>none
 |_=>none
def ppick(g:Bool)(a b:Value):Option Value:=match a,b with
 | .bool x,.bool y=>some (.bool (bif g then x else y))
 | .int k x,.int k' y=>bif kq k k' then some (.int k (bif g then x else y)) else none
 | .string x,.string y=>some (.string ⟨⟨bif g then x.data.toList else y.data.toList⟩⟩)
 |_,_=>none
def LDv(P:Program)(H:Heap)(t:TypeId)(a w:Value):Prop:=dY P t a H=some (.val w,H)
def IX(v:Value)(j:Int):Prop:= ∃b o n k,v= .slice (some ⟨b,o,none⟩) n k/\0<=j/\j<n/\n<=k
def pidx(P:Program)(t:TypeId)(a i:Value):VP:=match a,i with
 | .string s,.int _ j=>match P.underlying t with
  |some .string=>some (.int .u8 ((s.data.toList.getD j.toNat 0).toNat:Int),some (0<=j/\j<s.data.toList.length))
  |_=>none
 | .agg x,w=>match au P (Instr.index t (.agg x) w) with
  |some r=>some (r,none)
  |none=>none
 |_,_=>none
def pidxA(P:Program)(t:TypeId)(a i:Value):VP:=match a,i with
 | .slice x n k,.int _ j=>match P.underlying t with
  |some (.slice e)=>match di P e with
   |some z=>some (.pointer (some ⟨sB (.slice x n k),sO (.slice x n k)+j.toNat *z,none⟩),some (IX (.slice x n k) j))
   |none=>none
  |_=>none
 | .pointer (some ⟨b,o,none⟩),.int _ j=>match P.underlying t with
  |some (.array n e)=>match di P e with
   |some z=>some (.pointer (some ⟨b,o+j.toNat *z,none⟩),some (0<=j/\j<n))
   |none=>none
  |_=>none
 |_,_=>none
def pslice(P:Program)(W:FW)(h:Hint)(t:TypeId)(x:Value)(lo hi:Option Value):VP:=match x with
 | .string s=>match P.underlying t with
  |some .string=>match lo,hi with
   |none,none=>some (.string s,none)
   |some (.int _ i),none=>some (.string ⟨⟨s.data.toList.drop i.toNat⟩⟩,some (0<=i/\i<=s.data.toList.length))
   |none,some (.int _ j)=>some (.string ⟨⟨s.data.toList.take j.toNat⟩⟩,some (0<=j/\j<=s.data.toList.length))
   |some (.int _ i),some (.int _ j)=>some (.string ⟨⟨(s.data.toList.drop i.toNat).take (j.toNat-i.toNat)⟩⟩,some (0<=i/\i<=j/\j<=s.data.toList.length))
   |_,_=>none
  |_=>none
 |x=>match h with
  | .o v=>some (v,some (W.sl t x lo hi v))
  |_=>none
def plen(P:Program)(t:TypeId)(x:Value):VP:=match x with
 | .string s=>match P.underlying t with
  |some .string=>some (.int .i64 (s.data.toList.length:Int),none)
  |_=>none
 | .slice _ n _=>match P.underlying t with
  |some (.slice _)=>some (.int .i64 (n:Int),none)
  |_=>none
 |_=>none
def pmm(w:Bool)(a b:Value):VP:=match a,b with
 | .int k x,.int _ y=>some (.int k (bif w then(if y<x then y else x) else(if y>x then y else x)),none)
 |_,_=>none
def pcall(P:Program)(W:FW)(h:Hint)(ρ:Operand->Value)(c:Call):VP:=match c.callee with
 | .builtin .len=>match c.argTypes.toList,c.args.toList with
  | [t],[x]=>plen P t (ρ x)
  |_,_=>none
 | .builtin .min=>match c.args.toList with
  | [x,y]=>pmm true (ρ x) (ρ y)
  |_=>none
 | .builtin .max=>match c.args.toList with
  | [x,y]=>pmm false (ρ x) (ρ y)
  |_=>none
 | .value f=>match fA P (ρ f) (eW ρ c.args.toList),h with
  |some (.enter g args),.o v=>some (v,some (W.cl g args v))
  |_,_=>none
 |_=>none
def optV{α:Type}(r:Option α):Option (α×Option Prop):=match r with
 |some v=>some (v,none)
 |none=>none
def W0(P:Program)(G0:Nat)(K:bp)(H:Heap):FW:=⟨LDv P H,fun g args v=>C P G0 K g args H fun v' H'=>v'=v/\H'=H,fun s t a n v=>cu P s t a n H=some v,fun t x lo hi v=>be P t x lo hi none H=some v,fun t m k ok v=>cP P t m k ok H=some v⟩
def WJ(P:Program)(G0:Nat)(K:bp)(J:Heap->Prop):FW:=⟨fun t a v=> ∀H,J H->LDv P H t a v,fun g args v=> ∀H,J H->C P G0 K g args H fun v' H'=>v'=v/\J H',fun s t a n v=> ∀H,J H->cu P s t a n H=some v,fun t x lo hi v=> ∀H,J H->be P t x lo hi none H=some v,fun t m k ok v=> ∀H,J H->cP P t m k ok H=some v⟩
structure FW.OK(P:Program)(G0:Nat)(K:bp)(J:Heap->Prop)(W:FW):Prop where
 ld: ∀{t a v},W.ld t a v->∀H,J H->LDv P H t a v
 cl: ∀{g args v},W.cl g args v->∀H,J H->C P G0 K g args H fun v' H'=>v'=v/\J H'
 cv: ∀{s t a n v},W.cv s t a n v->∀H,J H->cu P s t a n H=some v
 sl: ∀{t x lo hi v},W.sl t x lo hi v->∀H,J H->be P t x lo hi none H=some v
 lk: ∀{t m k ok v},W.lk t m k ok v->∀H,J H->cP P t m k ok H=some v
theorem ok0{P:Program}{G0:Nat}{K:bp}{H:Heap}:(W0 P G0 K H).OK P G0 K (· =H):=⟨fun h _ e=>e▸h,fun h _ e=>e▸h,fun h _ e=>e▸h,fun h _ e=>e▸h,fun h _ e=>e▸h⟩
theorem okJ{P:Program}{G0:Nat}{K:bp}{J:Heap->Prop}:(WJ P G0 K J).OK P G0 K J:=⟨fun h=>h,fun h=>h,fun h=>h,fun h=>h,fun h=>h⟩
def pop(P:Program)(W:FW)(h:Hint)(ρ:Operand->Value)(op:Op):VP:=match op with
 | .move x=>some (ρ x,none)
 | .assign x=>some (ρ x,none)
 | .binOp op t x y _=>pbin P h op t (ρ x) (ρ y)
 | .unOp op _ x=>pun h op (ρ x)
 | .convert s t x=>pconv P W h s t (ρ x)
 | .load t a=>match h with
  | .o v=>some (v,some (W.ld t (ρ a) v))
  |_=>none
 | .lookup t m x ok=>match h with
  | .o v=>some (v,some (W.lk t (ρ m) (ρ x) ok v))
  |_=>none
 | .index t x i=>pidx P t (ρ x) (ρ i)
 | .indexAddr t x i=>pidxA P t (ρ x) (ρ i)
 | .field t x f=>optV (gZ P t (ρ x) f)
 | .fieldAddr s x f=>optV (iy P s (ρ x) f)
 | .extract x i=>optV (gw (ρ x) i)
 | .build t parts=>match dz P t with
  |some _=>optV (au P (Instr.build t (parts.map fun p=>(p.1,ρ p.2))))
  |none=>none
 | .slice t x lo hi none=>pslice P W h t (ρ x) (lo.map ρ) (hi.map ρ)
 | .call c=>pcall P W h ρ c
 | .nilCheck x=>match ρ x with
  | .pointer (some a)=>some (.pointer (some a),none)
  | .func (.func f) a c=>some (.func (.func f) a c,none)
  |_=>none
 | .makeFunc fn first cap=>some (.func fn (first.map ρ) (cap.map ρ),none)
 |_=>none
def mj(ops:Array Oper)(f:Fn)(S:SS):Option (Nat×Bool)->Option (Ch×List (Nat×Bool))
 |none=>some ([],S.G)
 |some (j,w)=>match (ops[j]?).bind (·.dst) with
  |some d=>match lk S.m d with
   |some (c,.bool g)=>some ((d,w)::c,jF S.G d g)
   |some _=>none
   |none=>match f d with
    | .bool g=>some ([(d,w)],jF S.G d g)
    |_=>none
  |none=>none
def putS(q:Option Prop)(c:Ch)(G:List (Nat×Bool))(m:List (Nat×Ch×Value))(d:Nat)(v:Value):Option (SS×Option Prop):=
 match gl G d with
 |some _=>none
 |none=>some (⟨(d,c,v)::m,G⟩,match q with
  |none=>none
  |some p=>some (impl G c p))
def stepS(P:Program)(G0:Nat)(W:FW)(sz:Nat)(ops:Array Oper)(f:Fn)(S:SS)(h:Hint)(o:Oper):Option (SS×Option Prop):=
 match o.dst with
 |none=>none
 |some d=>
  bif Nat.ble (d+1) sz&&o.op.operands.toList.all (bg G0) then
   match mj ops f S o.guard with
   |none=>none
   |some (c,G1)=>
    match o.op with
    | .pick (.tmp s) a b=>
     match lk S.m s with
     |some (cc,.bool g)=>
      bif subC cc c&&(S.can ((s,true)::c) a&&S.can ((s,false)::c) b) then
       match ppick g (S.rd f a) (S.rd f b) with
       |some v=>putS none c (jF G1 s g) S.m d v
       |none=>none
      else none
     |_=>none
    |op=>
     bif op.operands.toList.all (S.can c) then
      match pop P W h (S.rd f) op with
      |some (v,q)=>putS q c G1 S.m d v
      |none=>none
     else none
  else none
def hintAt:List (Nat×Hint)->Nat->Hint
 | [],_=> .p
 |(i,h)::l,j=>bif Nat.beq i j then h else hintAt l j
def rgL(P:Program)(G0:Nat)(W:FW)(sz:Nat)(ops:Array Oper)(f:Fn)(hs:List (Nat×Hint)):Nat->List Oper->SS->Option (SS×Prop)
 |_,[],S=>some (S,True)
 |i,o::os,S=>match stepS P G0 W sz ops f S (hintAt hs i) o with
  |none=>none
  |some (S1,q)=>match rgL P G0 W sz ops f hs (i+1) os S1 with
   |none=>none
   |some (S2,p)=>some (S2,andO q p)
def fins(m:List (Nat×Ch×Value)):List Nat->Option (List (Nat×Value))
 | []=>some []
 |d::ds=>match lk m d,fins m ds with
  |some ([],v),some l=>some ((d,v)::l)
  |_,_=>none
def fU(P:Program)(G0:Nat)(W:FW)(sz:Nat)(ops:Array Oper)(f:Fn)(i:Nat)(os:List Oper)(hs:List (Nat×Hint))(lo hi:Nat)(ex:List Nat)(A:List Nat):Option (List (Nat×Value)×Prop):=
 match rgL P G0 W sz ops f hs i os ⟨[],[]⟩ with
 |none=>none
 |some (S,p)=>bif S.m.all (fun e=>inR lo hi ex e.1) then
   match fins S.m A with
   |some l=>some (l,p)
   |none=>none
  else none
end Go.R
end
noncomputable section
namespace Go.R
section
variable {P:Program} {G0:Nat} {K:bp} {J:Heap->Prop} {W:FW} {H:Heap} {ρ:Operand->Value} {d:Option Tmp} {ty:TypeId} {pos:String} {af:Array Edge} {gd:Option (Nat×Bool)} {v:Value} {q:Option Prop} {hi:Hint}
theorem lC{k:IntKind}{n:Int}(h:ari hi k n=some (v,q))(A:eI q):v= .int k (k.wrap n):=by
 unfold ari at h;split at h
 ·simp only[a00,a04]at h;exact h.1.symm
 ·simp only[a00,a04]at h;obtain⟨rfl,rfl⟩:=h;obtain⟨rfl,E⟩:=A;rw[rng_wrap E]
 simp only[a00,a04]at h;obtain⟨rfl,rfl⟩:=h;rw[rng_wrap A]
theorem bi_ok{k:IntKind}{n:Int}(h:bi hi k n=some (v,q))(E:eI q):v= .int k n:=by
 unfold bi at h;split at h
 ·simp only[a00,a04]at h;obtain⟨rfl,rfl⟩:=h;have A:n=_:=E;rw[A]
 simp only[a00,a04]at h;exact h.1.symm
theorem jt{p:Prop}{r:VP}(h:withP p r=some (v,q))(A:eI q):p/\∃E,r=some (v,E)/\eI E:=by
 match r,h with
 |some (v',none),h=>
  simp only[withP,a00,a04]at h
  obtain⟨rfl,rfl⟩:=h
  exact⟨A,none,rfl,trivial⟩
 |some (v',some p'),h=>
  simp only[withP,a00,a04]at h
  obtain⟨rfl,rfl⟩:=h
  exact⟨A.1,some p',rfl,A.2⟩
 |none,h=>simp[withP]at h
theorem beq0{b:Int}(hb:b≠0):(b==0)=false:=by simpa using hb
variable {x y:Operand} {t yt:TypeId}
theorem pint_ok{op:BinOp}{k:IntKind}{a b:Int}(Y:ρ x= .int k a)(Z:ρ y= .int k b)(h:pint hi op k a b=some (v,q))(E:eI q):
  AP P ρ ⟨d,.binOp op t x y yt,ty,pos,af,gd⟩ H (.val v,H):=by
 have A: ∀{v':Value},ka op=false->lb op k a b=some v'->AP P ρ ⟨d,.binOp op t x y yt,ty,pos,af,gd⟩ H (.val v',H):=by intro v' hs V;exact ir Y Z (by rw[hs,cN];exact V)
 cases op with
 |add=>rw[lC (n:=a+b) h E];exact A rfl rfl
 |sub=>rw[lC (n:=a-b) h E];exact A rfl rfl
 |mul=>rw[lC (n:=a *b) h E];exact A rfl rfl
 |quo=>
  obtain⟨O,q',T,U⟩:=jt (p:=b≠0) (r:=ari hi k (a.tdiv b)) h E
  rw[lC T U]
  exact A rfl (by show(bif b==0 then none else some (Value.int k (k.wrap (a.tdiv b))))=_;rw[beq0 O];rfl)
 |rem=>
  obtain⟨O,q',T,U⟩:=jt (p:=b≠0) (r:=bi hi k (a.tmod b)) h E
  rw[bi_ok T U]
  exact A rfl (by show(bif b==0 then none else some (Value.int k (a.tmod b)))=_;rw[beq0 O];rfl)
 |and=>rw[bi_ok (n:=cU .and k a b) h E];exact A rfl rfl
 |or=>rw[bi_ok (n:=cU .or k a b) h E];exact A rfl rfl
 |xor=>rw[bi_ok (n:=cU .xor k a b) h E];exact A rfl rfl
 |andNot=>rw[bi_ok (n:=cU .andNot k a b) h E];exact A rfl rfl
 |shl=>cases h
 |shr=>cases h
 |_=>
  simp only[pint,a00,a04]at h
  obtain⟨rfl,_⟩:=h
  exact A rfl rfl
theorem bool_run{a b:Bool}(h:isBT P t=true):au P (dQ .eql t x y a b)=some (.value (.bool (a==b)))/\au P (dQ .neq t x y a b)=some (.value (.bool (a !=b))):=by
 unfold isBT at h;split at h
 ·rename_i T;have U:P.eqGuardType P.depth t=false:=by simpa using h
  have E:au P (eqGuard .eql t x y (.bool a) (.bool b))=some ():=by simp[eqGuard]
  have O:au P (eqGuard .neq t x y (.bool a) (.bool b))=some ():=by simp[eqGuard]
  have A:au P (Op.equal t (.bool a) (.bool b))=some (a==b):=eqB (d:=9999) T;constructor
  ·unfold dQ;simp only[aD,E,a0l];have:au P (binOp .eql t (.bool a) (.bool b))=some (Value.bool (a==b)):=by show au P (Op.equal t (.bool a) (.bool b)>>=fun b=>(Pure.pure (Value.bool b):Sem Value))=_;rw[aD,A];rfl
   rw[this];rfl
  unfold dQ;simp only[aD,O,a0l];have:au P (binOp .neq t (.bool a) (.bool b))=some (Value.bool (a !=b)):=by show au P (Op.equal t (.bool a) (.bool b)>>=fun b=>(Pure.pure (Value.bool (!b)):Sem Value))=_;rw[aD,A];rfl
  rw[this];rfl
 cases h
theorem pbin_ok{op:BinOp}{a b:Value}(A:ρ x=a)(E:ρ y=b)(h:pbin P hi op t a b=some (v,q))(hq:eI q):
  AP P ρ ⟨d,.binOp op t x y yt,ty,pos,af,gd⟩ H (.val v,H):=by
 have T: ∀(a b:Value) (r:Bool),ρ x=a->ρ y=b->(∃p,a= .pointer p)\/(∃p n k,a= .slice p n k)->nilEq P t a b=some r->(op= .eql->v= .bool r)->(op= .neq->v= .bool (!r))->(op= .eql\/op= .neq)->
   AP P ρ ⟨d,.binOp op t x y yt,ty,pos,af,gd⟩ H (.val v,H):=by
  intro a b r A E ha O V Y Z
  refine⟨?_⟩
  show aBin P ρ _ op t (ρ x) y H=_
  have:aBin P ρ ⟨d,.binOp op t x y yt,ty,pos,af,gd⟩ op t (ρ x) y H=nilBin op (nilEq P t a b) H:=by rw[A];rcases ha with⟨p,rfl⟩|⟨p,n,k,rfl⟩<;>(rw[←E];rfl)
  rw[this,O]
  rcases Z with rfl|rfl
  ·rw[V rfl];rfl
  rw[Y rfl];rfl
 unfold pbin at h
 split at h
 ·--integers
  split at h
  ·obtain⟨V,q',Y,Z⟩:=jt h hq;rw[bi_ok Y Z];exact ap_shl A E V
  ·obtain⟨V,q',Y,Z⟩:=jt h hq;rw[bi_ok Y Z];exact ap_shr A E V
  rename_i k a k' b _ _ _;cases hk:kq k k' with
  |false=>rw[hk]at h;cases h
  |true=>
   rw[hk]at h
   have:=kq_eq hk;subst this
   exact pint_ok A E h hq
 ·split at h<;>simp only[a00,a04,reduceCtorEq]at h
  ·obtain⟨rfl,_⟩:=h;exact ap_eqS A E
  ·obtain⟨rfl,_⟩:=h;exact ap_neS A E
  ·obtain⟨rfl,_⟩:=h;exact ap_ltS A E
  ·obtain⟨rfl,_⟩:=h;exact ap_leS A E
  obtain⟨rfl,rfl⟩:=h;exact dG A E hq
 ·cases U:isBT P t with
  |false=>rw[U]at h;cases h
  |true=>
   rw[U]at h
   simp only[cond_true]at h
   split at h<;>simp only[a00,a04,reduceCtorEq]at h
   ·obtain⟨rfl,_⟩:=h;exact ap_boolEq A E (fun a b=>(bool_run U).1)
   obtain⟨rfl,_⟩:=h;exact ap_boolNe A E (fun a b=>(bool_run U).2)
 ·split at h<;>simp only[a00,a04,reduceCtorEq]at h;obtain⟨rfl,rfl⟩:=h;exact hq ρ x y yt d ty pos af gd H A E
 ·split at h<;>simp only[a00,a04,reduceCtorEq]at h
  ·rename_i O;obtain⟨rfl,_⟩:=h;exact T _ _ _ A E (.inl ⟨_,rfl⟩) O (fun _=>rfl) (fun e=>by cases e) (.inl rfl)
  rename_i O;obtain⟨rfl,_⟩:=h;exact T _ _ _ A E (.inl ⟨_,rfl⟩) O (fun e=>by cases e) (fun _=>rfl) (.inr rfl)
 ·split at h<;>simp only[a00,a04,reduceCtorEq]at h
  ·rename_i O;obtain⟨rfl,_⟩:=h;exact T _ _ _ A E (.inr ⟨_,_,_,rfl⟩) O (fun _=>rfl) (fun e=>by cases e) (.inl rfl)
  rename_i O;obtain⟨rfl,_⟩:=h;exact T _ _ _ A E (.inr ⟨_,_,_,rfl⟩) O (fun e=>by cases e) (fun _=>rfl) (.inr rfl)
 cases h
theorem pun_ok{op:UnOp}{a:Value}(A:ρ x=a)(h:pun hi op a=some (v,q))(E:eI q):AP P ρ ⟨d,.unOp op t x,ty,pos,af,gd⟩ H (.val v,H):=by
 unfold pun at h;split at h
 ·simp only[a00,a04]at h;obtain⟨rfl,_⟩:=h;exact eb A
 ·rw[lC h E];exact ap_neg A
 ·rw[bi_ok h E];exact ap_cpl A
 cases h
theorem pconv_ok(Y:W.OK P G0 K J)(V:J H){s:TypeId}{a:Value}(O:ρ x=a)(h:pconv P W hi s t a=some (v,q))(A:eI q):AP P ρ ⟨d,.convert s t x,ty,pos,af,gd⟩ H (.val v,H):=by
 unfold pconv at h;split at h
 ·split at h
  ·rename_i T U;rw[lC h A];exact ap_conv O T U
  cases h
 ·split at h
  ·simp only[a00,a04]at h;obtain⟨rfl,rfl⟩:=h;refine⟨?_⟩;show eP P ρ _ s t (ρ x) H=_;rw[O];show ovl (cu P s t _ _ H) H=_;have E:cu P s t _ _ H=_:=Y.cv A H V;rw[E];rfl
  cases h
 cases h
theorem ppick_ok{g:Bool}{a b v:Value}(h:ppick g a b=some v):v=bif g then a else b:=by
 unfold ppick at h;split at h
 ·simp only[a00]at h;subst h;cases g<;>rfl
 ·rename_i k x E y;cases A:kq k E with
  |false=>rw[A]at h;cases h
  |true=>
   rw[A]at h
   have:=kq_eq A;subst this
   simp only[cond_true,a00]at h;subst h;cases g<;>rfl
 ·simp only[a00]at h;subst h;cases g<;>rfl
 cases h
theorem pidx_ok{i:Operand}{a b:Value}(O:ρ x=a)(A:ρ i=b)(h:pidx P t a b=some (v,q))(T:eI q):AP P ρ ⟨d,.index t x i,ty,pos,af,gd⟩ H (.val v,H):=by
 unfold pidx at h;split at h
 ·rename_i s _ j;split at h
  ·rename_i E;simp only[a00,a04]at h;obtain⟨rfl,rfl⟩:=h;obtain⟨U,V⟩:=T;obtain⟨⟨s⟩⟩:=s;have Y:j<(s.length:Int):=V;exact eU (s:=s) O A E U (bo (by omega))
  cases h
 ·split at h
  ·rename_i E;simp only[a00,a04]at h;obtain⟨rfl,rfl⟩:=h;exact ap_ixG O A E
  cases h
 cases h
theorem pidxA_ok{i:Operand}{a b:Value}(V:ρ x=a)(A:ρ i=b)(h:pidxA P t a b=some (v,q))(U:eI q):AP P ρ ⟨d,.indexAddr t x i,ty,pos,af,gd⟩ H (.val v,H):=by
 unfold pidxA at h;split at h
 ·split at h
  ·rename_i E;split at h
   ·rename_i O;simp only[a00,a04]at h;obtain⟨rfl,rfl⟩:=h;obtain⟨b,o,n,k,e,T,Y,q3⟩:=U;cases e
    exact jd V A E O T Y q3
   cases h
  cases h
 ·split at h
  ·rename_i E;split at h
   ·rename_i O;simp only[a00,a04]at h;obtain⟨rfl,rfl⟩:=h;obtain⟨T,Y⟩:=U;refine⟨?_⟩;rename_i kk j n e z _;obtain⟨m,rfl⟩:=a0M T;show ovl (cm P t (ρ x) (ρ i)) H=_;rw[V,A];unfold cm;rw[E];have Z:Nat.ble (m+1) n=true:=a0r (by omega);show ovl (match di P e with|some sz=>bif Nat.ble (m+1) n then some (.pointer (some ⟨_,_+m *sz,none⟩)) else none|none=>none) H=_;rw[O];simp only[Z,cond_true];rfl
   cases h
  cases h
 cases h
theorem sl_str{lo hi:Option Operand}{s:ByteArray}{i j:Nat}(V:ρ x= .string s)(U:P.underlying t=some .string)(E:bQ s.data.toList.length (hi.map ρ)=some j)(O:bQ 0 (lo.map ρ)=some i)(A:i<=j)(T:j<=s.data.toList.length):
  AP P ρ ⟨d,.slice t x lo hi none,ty,pos,af,gd⟩ H (.val (.string ⟨⟨(s.data.toList.drop i).take (j-i)⟩⟩),H):=by
 obtain⟨⟨s⟩⟩:=s
 exact ap_slS V U E O A T
theorem pslice_ok(hW:W.OK P G0 K J)(hH:J H){lo A:Option Operand}{a:Value}(T:ρ x=a)(h:pslice P W hi t a (lo.map ρ) (A.map ρ)=some (v,q))(Y:eI q):AP P ρ ⟨d,.slice t x lo A none,ty,pos,af,gd⟩ H (.val v,H):=by
 unfold pslice at h;split at h
 ·rename_i s;split at h
  ·rename_i V;split at h
   ·rename_i E O;simp only[a00,a04]at h;obtain⟨rfl,rfl⟩:=h;have:=sl_str (d:=d) (ty:=ty) (pos:=pos) (af:=af) (gd:=gd) (H:=H) (lo:=lo) (hi:=A) (i:=0) (j:=s.data.toList.length) T V (by rw[O];rfl) (by rw[E];rfl) (a0B _) (a06 _);rw[a1f,Nat.sub_zero,a0W]at this;exact this
   ·rename_i k i E O;simp only[a00,a04]at h;obtain⟨rfl,rfl⟩:=h;obtain⟨U,q2⟩:=Y;have:=sl_str (d:=d) (ty:=ty) (pos:=pos) (af:=af) (gd:=gd) (H:=H) (lo:=lo) (hi:=A) (i:=i.toNat) (j:=s.data.toList.length) T V (by rw[O];rfl) (by rw[E];exact optN U) (by omega) (a06 _);rw[a0o (by rw[a0V];omega)]at this;exact this
   ·rename_i k j E O;simp only[a00,a04]at h;obtain⟨rfl,rfl⟩:=h;obtain⟨U,q2⟩:=Y;have:=sl_str (d:=d) (ty:=ty) (pos:=pos) (af:=af) (gd:=gd) (H:=H) (lo:=lo) (hi:=A) (i:=0) (j:=j.toNat) T V (by rw[O];exact optN U) (by rw[E];rfl) (a0B _) (by omega);simpa using this
   ·rename_i k i k' j E O;simp only[a00,a04]at h;obtain⟨rfl,rfl⟩:=h;obtain⟨U,q2,q3⟩:=Y;exact sl_str (lo:=lo) (hi:=A) (i:=i.toNat) (j:=j.toNat) T V (by rw[O];exact optN (by omega)) (by rw[E];exact optN U) (by omega) (by omega)
   cases h
  cases h
 split at h
 ·simp only[a00,a04]at h;obtain⟨rfl,rfl⟩:=h;refine⟨?_⟩;show ovl (be P t (ρ x) (lo.map ρ) (A.map ρ) (Option.map ρ none) H) H=_;have Z:be P t _ (lo.map ρ) (A.map ρ) none H=_:=hW.sl Y H hH;rw[T,a1F,Z];rfl
 cases h
theorem plen_ok{a:Value}(E:ρ x=a)(h:plen P t a=some (v,q)):AP P ρ ⟨d,.call ⟨.builtin .len, #[x], #[t]⟩,ty,pos,af,gd⟩ H (.val v,H):=by
 unfold plen at h;split at h
 ·rename_i s;split at h
  ·rename_i A;simp only[a00,a04]at h;obtain⟨rfl,rfl⟩:=h;obtain⟨⟨s⟩⟩:=s;exact eT (s:=s) E A
  cases h
 ·split at h
  ·rename_i A;simp only[a00,a04]at h;obtain⟨rfl,rfl⟩:=h;refine⟨?_⟩;show ovl (aLen P t (ρ x) H) H=_;rw[E];unfold aLen;rw[A];rfl
  cases h
 cases h
inductive PRes(P:Program)(G0:Nat)(K:bp)(J:Heap->Prop)(ρ:Operand->Value)(o:Oper)(H:Heap)(v:Value):Prop where
 |val (h:AP P ρ o H (.val v,H))
 |call (g:FuncId) (args:List Value) (h:AP P ρ o H (.enter g args,H)) (hk:fV o.op=true) (hc:C P G0 K g args H fun v' H'=>v'=v/\J H')
theorem kX{ρ ρ':Operand->Value}: ∀{l:List Operand},(∀x,x∈l->ρ x=ρ' x)->eW ρ l=eW ρ' l
 | [],_=>rfl
 |x::l,h=>by show ρ x::eW ρ l=ρ' x::eW ρ' l;rw[h x (by simp),kX fun y A=>h y (by simp[A])]
theorem pmm_ok{w:Bool}{y:Operand}{A:Array TypeId}{a b:Value}(E:ρ x=a)(O:ρ y=b)(h:pmm w a b=some (v,q)):AP P ρ ⟨d,.call ⟨.builtin (bif w then .min else .max), #[x,y],A⟩,ty,pos,af,gd⟩ H (.val v,H):=by
 unfold pmm at h;split at h
 ·rename_i k n Y m;simp only[a00,a04]at h;obtain⟨rfl,rfl⟩:=h;have V:([ρ x,ρ y].all fun z=>hZ z)=true:=by simp[E,O,hZ,cJ]
  cases w with
  |true=>
   refine⟨?_⟩
   show bj P ρ ⟨d,.call ⟨.builtin .min, #[x,y],A⟩,ty,pos,af,gd⟩ H=_
   unfold bj
   have U:((Op.call ⟨.builtin .min, #[x,y],A⟩).operands.toList.all fun x=>hZ (ρ x))=true:=by simp[Op.operands,Call.operands,E,O,hZ,cJ]
   simp only[U,cond_true]
   have T:au P (execOp ρ ⟨d,.call ⟨.builtin .min, #[x,y],A⟩,ty,pos,af,gd⟩)=some (.value (.int k (if m<n then m else n))):=by unfold execOp;simp[resolve,invoke,builtin,Builtin.min_,Builtin.min2,E,O]
   rw[T];rfl
  |false=>
   refine⟨?_⟩
   show bj P ρ ⟨d,.call ⟨.builtin .max, #[x,y],A⟩,ty,pos,af,gd⟩ H=_
   unfold bj
   have U:((Op.call ⟨.builtin .max, #[x,y],A⟩).operands.toList.all fun x=>hZ (ρ x))=true:=by simp[Op.operands,Call.operands,E,O,hZ,cJ]
   simp only[U,cond_true]
   have T:au P (execOp ρ ⟨d,.call ⟨.builtin .max, #[x,y],A⟩,ty,pos,af,gd⟩)=some (.value (.int k (if m>n then m else n))):=by unfold execOp;simp[resolve,invoke,builtin,Builtin.max_,Builtin.max2,E,O]
   rw[T];rfl
 cases h
theorem pcall_ok(Y:W.OK P G0 K J)(V:J H){ρ ρ':Operand->Value}{c:Call}(A: ∀x,x∈(Op.call c).operands.toList->ρ x=ρ' x)(h:pcall P W hi ρ' c=some (v,q))(Z:eI q):
  PRes P G0 K J ρ ⟨d,.call c,ty,pos,af,gd⟩ H v:=by
 obtain⟨O,args,E⟩:=c
 cases O with
 |builtin b=>
  cases b with
  |len=>
   obtain⟨E⟩:=E
   obtain⟨args⟩:=args
   simp only[pcall]at h
   split at h
   ·exact .val (plen_ok (A _ (by simp[Op.operands,Call.operands])) h)
   cases h
  |min=>
   obtain⟨args⟩:=args
   simp only[pcall]at h
   split at h
   ·exact .val (pmm_ok (w:=true) (A _ (by simp[Op.operands,Call.operands])) (A _ (by simp[Op.operands,Call.operands])) h)
   cases h
  |max=>
   obtain⟨args⟩:=args
   simp only[pcall]at h
   split at h
   ·exact .val (pmm_ok (w:=false) (A _ (by simp[Op.operands,Call.operands])) (A _ (by simp[Op.operands,Call.operands])) h)
   cases h
  |_=>cases h
 |value f=>
  simp only[pcall]at h
  split at h
  ·rename_i U;simp only[a00,a04]at h;obtain⟨rfl,rfl⟩:=h;refine .call _ _ ⟨?_⟩ rfl (Y.cl Z H V);show fv (fA P (ρ f) (eW ρ args.toList)) H=_;rw[A f (by simp[Op.operands,Call.operands]),kX (ρ':=ρ') (fun x T=>A x (by simp[Op.operands,Call.operands]at T⊢;exact .inr T)),U];rfl
  cases h
 |invoke r m=>cases h
theorem pop_ok(V:W.OK P G0 K J)(U:J H){ρ ρ':Operand->Value}{op:Op}(A: ∀x,x∈op.operands.toList->ρ x=ρ' x)(h:pop P W hi ρ' op=some (v,q))(O:eI q):
  PRes P G0 K J ρ ⟨d,op,ty,pos,af,gd⟩ H v:=by
 cases op with
 |move x=>
  simp only[pop,a00,a04]at h;obtain⟨rfl,rfl⟩:=h
  exact .val (ap_move (A x (by simp[Op.operands])))
 |assign x=>
  simp only[pop,a00,a04]at h;obtain⟨rfl,rfl⟩:=h
  exact .val (kp (A x (by simp[Op.operands])))
 |binOp op t x y yt=>exact .val (pbin_ok (A x (by simp[Op.operands])) (A y (by simp[Op.operands])) h O)
 |unOp op t x=>exact .val (pun_ok (A x (by simp[Op.operands])) h O)
 |convert s t x=>exact .val (pconv_ok V U (A x (by simp[Op.operands])) h O)
 |load t a=>
  simp only[pop]at h
  split at h
  ·simp only[a00,a04]at h;obtain⟨rfl,rfl⟩:=h;refine .val ⟨?_⟩;show dY P t (ρ a) H=_;rw[A a (by simp[Op.operands])];exact V.ld O H U
  cases h
 |lookup t m x ok=>
  simp only[pop]at h
  split at h
  ·simp only[a00,a04]at h;obtain⟨rfl,rfl⟩:=h;refine .val ⟨?_⟩;show ovl (cP P t (ρ m) (ρ x) ok H) H=_;rw[A m (by simp[Op.operands]),A x (by simp[Op.operands]),V.lk O H U];rfl
  cases h
 |index t x i=>exact .val (pidx_ok (A x (by simp[Op.operands])) (A i (by simp[Op.operands])) h O)
 |indexAddr t x i=>exact .val (pidxA_ok (A x (by simp[Op.operands])) (A i (by simp[Op.operands])) h O)
 |field t x f=>
  simp only[pop,optV]at h
  split at h
  ·rename_i T;simp only[a00,a04]at h;obtain⟨rfl,rfl⟩:=h;exact .val (ap_fv (A x (by simp[Op.operands])) T)
  cases h
 |fieldAddr s x f=>
  simp only[pop,optV]at h
  split at h
  ·rename_i T;simp only[a00,a04]at h;obtain⟨rfl,rfl⟩:=h;refine .val ⟨?_⟩;show ovl (iy P s (ρ x) f) H=_;rw[A x (by simp[Op.operands]),T];rfl
  cases h
 |extract x i=>
  simp only[pop,optV]at h
  split at h
  ·rename_i T;simp only[a00,a04]at h;obtain⟨rfl,rfl⟩:=h;exact .val (ap_ex (A x (by simp[Op.operands])) T)
  cases h
 |build t parts=>
  simp only[pop,optV]at h
  split at h
  ·rename_i z hz;split at h
   ·rename_i T;simp only[a00,a04]at h;obtain⟨rfl,rfl⟩:=h;refine .val (lD ?_ hz T);apply a1N;intro p hp;rw[A p.2 (by simp only[Op.operands,a0w];exact⟨p,by simpa using hp,rfl⟩)]
   cases h
  cases h
 |slice t x lo hi2 mx=>
  cases mx with
  |some _=>simp only[pop]at h;cases h
  |none=>
   simp only[pop]at h
   have Y:lo.map ρ=lo.map ρ':=by
    cases lo with
    |none=>rfl
    |some o=>simp only[a1E];rw[A o (by simp[Op.operands])]
   have Z:hi2.map ρ=hi2.map ρ':=by
    cases hi2 with
    |none=>rfl
    |some o=>simp only[a1E];rw[A o (by simp[Op.operands])]
   rw[←Y,←Z]at h
   exact .val (pslice_ok V U (A x (by simp[Op.operands])) h O)
 |call c=>exact pcall_ok V U A h O
 |nilCheck x=>
  simp only[pop]at h
  have E:=A x (by simp[Op.operands])
  split at h
  ·rename_i a ha;simp only[a00,a04]at h;obtain⟨rfl,rfl⟩:=h;refine .val ⟨?_⟩;show opNil (ρ x) H=_;rw[E,ha];rfl
  ·rename_i f a c ha;simp only[a00,a04]at h;obtain⟨rfl,rfl⟩:=h;refine .val ⟨?_⟩;show opNil (ρ x) H=_;rw[E,ha];rfl
  cases h
 |makeFunc fn first cap=>
  simp only[pop,a00,a04]at h;obtain⟨rfl,rfl⟩:=h
  refine .val ⟨?_⟩
  show some (AN.val (.func fn (first.map ρ) (cap.map ρ)),H)=_
  have Y:first.map ρ=first.map ρ':=a1N fun x E=>A x (by simp[Op.operands]at E⊢;first|exact .inl E|exact .inr E)
  have Z:cap.map ρ=cap.map ρ':=a1N fun x E=>A x (by simp[Op.operands]at E⊢;first|exact .inl E|exact .inr E)
  rw[Y,Z]
 |_=>cases h
end
end Go.R
end
noncomputable section
namespace Go.R
structure SS.Rel(S:SS)(f fr:Fn):Prop where
 sl: ∀t c v,lk S.m t=some (c,v)->fr t=(bif act S.G c then v else undef)
 no: ∀t,lk S.m t=none->fr t=f t
 gs: ∀s g,gl S.G s=some g->(∃c,lk S.m s=some (c,.bool g))\/(lk S.m s=none/\f s= .bool g)
 ks: ∀t c v,lk S.m t=some (c,v)->∀s w,(s,w)∈c->∃g,gl S.G s=some g
theorem gl_add{G:List (Nat×Bool)}{d s:Nat}{g r:Bool}(h:gl G s=some r):gl (jF G d g) s=some r:=by
 unfold jF;split
 ·exact h
 rename_i A;show(bif Nat.beq d s then some g else gl G s)=_;cases hb:Nat.beq d s with
 |true=>have:=a07 hb;subst this;rw[A]at h;cases h
 |false=>exact h
theorem kc{G:List (Nat×Bool)}{d:Nat}{g:Bool}(h: ∀r,gl G d=some r->r=g):gl (jF G d g) d=some g:=by
 unfold jF;split
 ·rename_i r A;rw[A,h r A]
 show(bif Nat.beq d d then some g else gl G d)=_;rw[a0S];rfl
theorem gl_add_inv{G:List (Nat×Bool)}{d s:Nat}{g r:Bool}(h:gl (jF G d g) s=some r):gl G s=some r\/(s=d/\r=g):=by
 unfold jF at h;split at h
 ·exact .inl h
 have A:(bif Nat.beq d s then some g else gl G s)=some r:=h;cases hb:Nat.beq d s with
 |true=>rw[hb]at A;exact .inr ⟨(a07 hb).symm,(Option.some.inj A).symm⟩
 |false=>rw[hb]at A;exact .inl A
theorem mA{G:List (Nat×Bool)}{d:Nat}{g:Bool}: ∀{c:Ch},(∀s w,(s,w)∈c->∃r,gl G s=some r)->act (jF G d g) c=act G c
 | [],_=>rfl
 |(s,w)::c,h=>by
  obtain⟨r,A⟩:=h s w (by simp);show((match gl (jF G d g) s with|some g=>bq g w|none=>false)&&act (jF G d g) c)=((match gl G s with|some g=>bq g w|none=>false)&&act G c)
  rw[gl_add A,A,mA fun s w E=>h s w (by simp[E])]
theorem act_mem{G:List (Nat×Bool)}: ∀{c:Ch} {s:Nat} {w:Bool},act G c=true->memC s w c=true->gl G s=some w
 |(s',w')::c,s,w,h,A=>by
  simp only[act,a02]at h;simp only[memC,a0P,a02]at A;rcases A with⟨U,V⟩|A
  ·have O:=a07 U;have T:=bq_eq V;subst O T;have E:=h.1;split at E
   ·rename_i g Y;rw[Y,bq_eq E]
   cases E
  exact act_mem h.2 A
 | [],s,w,_,A=>by cases A
theorem act_sub{G:List (Nat×Bool)}: ∀{a c:Ch},act G c=true->subC a c=true->act G a=true
 | [],_,_,_=>rfl
 |(s,w)::a,c,h,hs=>by simp only[subC,a02]at hs;have A:=act_mem h hs.1;simp only[act,A,act_sub h hs.2,a10];cases w<;>rfl
theorem impl_act{G:List (Nat×Bool)}{p:Prop}: ∀{c:Ch},act G c=true->impl G c p->p
 | [],_,h=>h
 |(s,w)::c,ha,h=>by
  simp only[act,a02]at ha;obtain⟨A,E⟩:=ha;unfold impl at h;split at A
  ·rename_i g O;rw[O]at h;exact impl_act E (h (bq_eq A))
  cases A
section
variable {P:Program} {G0:Nat} {K:bp} {J:Heap->Prop} {W:FW} {sz:Nat} {Q:Ex->Fn->Heap->Prop} {ops:Array Oper} {os:List Oper} {k:List Fr} {f fr:Fn} {H:Heap} {S S':SS}
theorem SS.Rel.add(h:S.Rel f fr){d:Nat}{g:Bool}(hd:(∃c,lk S.m d=some (c,.bool g))\/(lk S.m d=none/\f d= .bool g)):SS.Rel ⟨S.m,jF S.G d g⟩ f fr:=by
 refine⟨fun t c v A=>?_,h.no,fun s r E=>?_,fun t c v A s w O=>?_⟩
 ·rw[h.sl t c v A];show _=bif act (jF S.G d g) c then v else undef
  rw[mA (h.ks t c v A)]
 ·rcases gl_add_inv E with h1|⟨rfl,rfl⟩
  ·exact h.gs s r h1
  exact hd
 obtain⟨r,E⟩:=h.ks t c v A s w O;exact⟨r,gl_add E⟩
theorem SS.Rel.same(h:S.Rel f fr){d:Nat}{g:Bool}(hd:(∃c,lk S.m d=some (c,.bool g))\/(lk S.m d=none/\f d= .bool g)): ∀r,gl S.G d=some r->r=g:=by
 intro r U;rcases h.gs d r U with⟨c,E⟩|⟨E,T⟩<;>rcases hd with⟨V,A⟩|⟨A,O⟩
 ·rw[E]at A;simp only[a00,a04,Value.bool.injEq]at A;exact A.2
 ·rw[E]at A;cases A
 ·rw[E]at A;cases A
 rw[T]at O;simpa using O
structure GOK(ops:Array Oper)(f fr:Fn)(S:SS)(g:Option (Nat×Bool))(c:Ch)(G1:List (Nat×Bool)):Prop where
 rel:SS.Rel ⟨S.m,G1⟩ f fr
 ks: ∀s w,(s,w)∈c->∃g,gl G1 s=some g
 on:act G1 c=true->match g with
  |none=>True
  |some (j,w)=>cn ops fr j=some w
 off:act G1 c=false->match g with
  |none=>False
  |some (j,w)=>cn ops fr j=none\/cn ops fr j=some (!w)
theorem mi(V:S.Rel f fr){g:Option (Nat×Bool)}{c:Ch}{G1:List (Nat×Bool)}(h:mj ops f S g=some (c,G1)):GOK ops f fr S g c G1:=by
 unfold mj at h;split at h
 ·simp only[a00,a04]at h;obtain⟨rfl,rfl⟩:=h;exact⟨V,fun s w O=>by simp at O,fun _=>trivial,fun h=>by cases h⟩
 rename_i j w;split at h
 ·rename_i d hd;have key: ∀(A:Ch) (γ:Bool),((∃c,lk S.m d=some (c,.bool γ))\/(lk S.m d=none/\f d= .bool γ))->(∀s w,(s,w)∈A->∃g,gl S.G s=some g)->(fr d=bif act S.G A then .bool γ else undef)->GOK ops f fr S (some (j,w)) ((d,w)::A) (jF S.G d γ):=by
   intro A γ Z al E;have hG:=kc (G:=S.G) (d:=d) (g:=γ) (V.same Z);have ha:act (jF S.G d γ) ((d,w)::A)=(bq γ w&&act S.G A):=by show((match gl (jF S.G d γ) d with|some g=>bq g w|none=>false)&&act (jF S.G d γ) A)=_;rw[hG,mA al]
   have hy: ∀v,fr d=v->cn ops fr j=match v with| .bool b=>some b|_=>none:=by intro v hv;unfold cn;rw[hd];show(match fr d with| .bool b=>some b|_=>none)=_;rw[hv]
   refine⟨V.add Z,fun s w' O=>?_,fun Y=>?_,fun T=>?_⟩
   ·rcases a0n.1 O with e|O
    ·injection e with e1 e2;subst e1;exact⟨γ,hG⟩
    obtain⟨r,a2⟩:=al s w' O;exact⟨r,gl_add a2⟩
   ·rw[ha,a02]at Y;rw[Y.2]at E;show cn ops fr j=some w;rw[hy _ E,bq_eq Y.1];rfl
   rw[ha]at T;show cn ops fr j=none\/cn ops fr j=some (!w);cases hc:act S.G A with
   |false=>rw[hc]at E;left;rw[hy _ E];rfl
   |true=>
    rw[hc]at E T
    right
    rw[hy _ E]
    cases γ<;>cases w<;>first|rfl|cases T
  split at h
  ·rename_i A γ U;simp only[a00,a04]at h;obtain⟨rfl,rfl⟩:=h;exact key A γ (.inl ⟨_,U⟩) (V.ks d A _ U) (V.sl d A _ U)
  ·cases h
  rename_i U;split at h
  ·rename_i γ hf;simp only[a00,a04]at h;obtain⟨rfl,rfl⟩:=h;exact key [] γ (.inr ⟨U,hf⟩) (fun s w O=>by simp at O) (by rw[V.no d U,hf];rfl)
  cases h
 cases h
theorem rel_put{m:List (Nat×Ch×Value)}{G:List (Nat×Bool)}{q q':Option Prop}{c:Ch}{d:Nat}{v:Value}(U:SS.Rel ⟨m,G⟩ f fr)(hk: ∀s w,(s,w)∈c->∃g,gl G s=some g)(h:putS q c G m d v=some (S',q')):
  SS.Rel S' f (upd fr d (bif act G c then v else undef))/\(eI q'->act G c=true->eI q):=by
 unfold putS at h
 split at h
 ·cases h
 rename_i hd
 simp only[a00,a04]at h
 obtain⟨rfl,rfl⟩:=h
 refine⟨⟨fun t E v' O=>?_,fun t O=>?_,fun s g V=>?_,fun t E v' O s w Y=>?_⟩,fun hq ha=>?_⟩
 ·have A:(bif Nat.beq d t then some (c,v) else lk m t)=some (E,v'):=O;unfold upd;cases hb:Nat.beq d t with
  |true=>
   rw[hb]at A
   simp only[cond_true,a00,a04]at A
   obtain⟨rfl,rfl⟩:=A
   rfl
  |false=>rw[hb]at A;exact U.sl t E v' A
 ·have A:(bif Nat.beq d t then some (c,v) else lk m t)=none:=O;unfold upd;cases hb:Nat.beq d t with
  |true=>rw[hb]at A;cases A
  |false=>rw[hb]at A;exact U.no t A
 ·have Z:Nat.beq d s=false:=by
   cases hb:Nat.beq d s with
   |false=>rfl
   |true=>have:=a07 hb;subst this;rw[hd]at V;cases V
  have e:lk ((d,c,v)::m) s=lk m s:=by show(bif Nat.beq d s then some (c,v) else lk m s)=_;rw[Z];rfl
  rcases U.gs s g V with⟨c0,T⟩|T
  ·exact .inl ⟨c0,e.trans T⟩
  exact .inr ⟨e.trans T.1,T.2⟩
 ·have A:(bif Nat.beq d t then some (c,v) else lk m t)=some (E,v'):=O;cases hb:Nat.beq d t with
  |true=>
   rw[hb]at A
   simp only[cond_true,a00,a04]at A
   obtain⟨rfl,rfl⟩:=A
   exact hk s w Y
  |false=>rw[hb]at A;exact U.ks t E v' A s w Y
 cases q with
 |none=>trivial
 |some p=>exact impl_act ha hq
theorem rd_ok(O:S.Rel f fr){c:Ch}(ha:act S.G c=true){x:Operand}(U:S.can c x=true):dx fr x=S.rd f x:=by
 cases x with
 |tmp t=>
  show fr t=match lk S.m t with|some x=>x.2|none=>f t
  have A:(match lk S.m t with|some x=>subC x.1 c|none=>true)=true:=U
  cases E:lk S.m t with
  |none=>exact O.no t E
  |some y=>
   obtain⟨T,v⟩:=y
   rw[E]at A
   rw[O.sl t T v E,act_sub ha A];rfl
 |_=>rfl
theorem stepS_ok(hW:W.OK P G0 K J){o:Oper}{q:Option Prop}{hi:Hint}(hr:S.Rel f fr)(h:stepS P G0 W sz ops f S hi o=some (S',q))(hq:eI q):
  ∃d c A v,o.dst=some d/\Nat.ble (d+1) sz=true/\o.op.operands.toList.all (bg G0)=true/\mj ops f S o.guard=some (c,A)/\
   (act A c=true->∀H,J H->PRes P G0 K J (dx fr) ⟨some d,o.op,o.type,o.pos,o.after,none⟩ H v)/\SS.Rel S' f (upd fr d (bif act A c then v else undef)):=by
 unfold stepS at h
 split at h
 ·cases h
 rename_i d hd
 cases hb:(Nat.ble (d+1) sz&&o.op.operands.toList.all (bg G0)) with
 |false=>rw[hb]at h;cases h
 |true=>
  rw[hb]at h
  simp only[cond_true]at h
  rw[a02]at hb
  split at h
  ·cases h
  rename_i c A hc
  have O:=mi hr hc
  split at h
  ·rename_i s a b a2;split at h
   ·rename_i cc γ hl;cases E:(subC cc c&&(S.can ((s,true)::c) a&&S.can ((s,false)::c) b)) with
    |false=>rw[E]at h;cases h
    |true=>
     rw[E]at h
     simp only[cond_true]at h
     simp only[a02]at E
     split at h
     ·rename_i v hv;have al:(∃c,lk S.m s=some (c,.bool γ))\/(lk S.m s=none/\f s= .bool γ):= .inl ⟨_,hl⟩;have V:=SS.Rel.add (S:=⟨S.m,A⟩) O.rel (d:=s) (g:=γ) al;have hG:=kc (G:=A) (d:=s) (g:=γ) (O.rel.same al);have an: ∀Z w,(Z,w)∈c->∃g,gl (jF A s γ) Z=some g:=fun Z w hm=>by obtain⟨r,a3⟩:=O.ks Z w hm;exact⟨r,gl_add a3⟩
      have T:act (jF A s γ) c=act A c:=mA O.ks;obtain⟨Y,_⟩:=rel_put V an h;rw[T]at Y;refine⟨d,c,A,v,hd,hb.1,hb.2,hc,fun ha H hH=>?_,Y⟩;refine .val ⟨?_⟩;rw[a2];show fW (dx fr) (.tmp s) a b H=_;have e0:dx fr (.tmp s)= .bool γ:=by have:=O.rel.sl s cc _ hl;rw[act_sub ha E.1]at this;exact this
      unfold fW;rw[e0];show some (AN.val (bif γ then dx fr a else dx fr b),H)=_;rw[ppick_ok hv];have U: ∀(w:Bool) (x:Operand),γ=w->S.can ((s,w)::c) x=true->dx fr x=S.rd f x:=by intro w x hw hx;have a4:SS.Rel ⟨S.m,jF A s γ⟩ f fr:=V;refine rd_ok (S:=⟨S.m,jF A s γ⟩) a4 (c:=(s,w)::c) ?_ hx;show((match gl (jF A s γ) s with|some g=>bq g w|none=>false)&&act (jF A s γ) c)=true;rw[hG,T,ha,hw];cases w<;>rfl
      cases γ with
      |true=>rw[cond_true,cond_true,U true a rfl E.2.1]
      |false=>rw[cond_false,cond_false,U false b rfl E.2.2]
     cases h
   cases h
  cases E:o.op.operands.toList.all (S.can c) with
  |false=>rw[E]at h;cases h
  |true=>
   rw[E]at h
   simp only[cond_true]at h
   split at h
   ·rename_i v q0 hp;obtain⟨Y,h2⟩:=rel_put O.rel O.ks h;refine⟨d,c,A,v,hd,hb.1,hb.2,hc,fun ha H hH=>?_,Y⟩;refine pop_ok hW hH (fun x hx=>?_) hp (h2 hq ha);have:=a0j.1 E x hx;exact rd_ok (S:=⟨S.m,A⟩) O.rel ha this
   cases h
theorem wo_do{d:Nat}{o:Oper}{c:Ch}{A:List (Nat×Bool)}{v:Value}(hd:o.dst=some d)(hb:Nat.ble (d+1) sz=true)(T:o.op.operands.toList.all (bg G0)=true)(O:GOK ops f fr S o.guard c A)
  (U:act A c=true->∀H,J H->PRes P G0 K J (dx fr) ⟨some d,o.op,o.type,o.pos,o.after,none⟩ H v) (E:J H) (h: ∀H,J H->WO P G0 K sz ops os k (upd fr d (bif act A c then v else undef)) H Q):WO P G0 K sz ops (o::os) k fr H Q:=by
 obtain⟨V,op,ty,pos,af,gd⟩:=o
 simp only at hd T O U
 subst hd
 cases ha:act A c with
 |true=>
  rw[ha]at h
  have base:WO P G0 K sz ops (⟨some d,op,ty,pos,af,none⟩::os) k fr H Q:=by
   cases U ha H E with
   |val hv=>exact ak hv T hb (h H E)
   |call g args he _ hc=>exact wo_callG he T hb hc (by rintro v' H' ⟨rfl,hJ⟩;exact h H' hJ)
  cases gd with
  |none=>exact base
  |some jw=>
   obtain⟨j,w⟩:=jw
   exact aX (O.on ha) rfl base
 |false=>
  rw[ha]at h
  have:=O.off ha
  cases gd with
  |none=>exact absurd this id
  |some jw=>
   obtain⟨j,w⟩:=jw
   rcases this with h1|h1
   ·exact dA h1 hb (h H E)
   exact wo_gf h1 rfl hb (h H E)
def bnD:ID->Bool
 | .x []=>true
 | .x _=>false
 |_=>true
theorem okD_r{i:Nat}: ∀{D:List (Nat×ID)},D.all (fun e=>bnD e.2)=true->okD ops i .r D
 | [],_=>trivial
 |(j,e)::D,h=>by
  simp only[a0s,a02]at h;refine⟨.inr ?_,okD_r h.2⟩;cases e with
  |x W=>
   cases W with
   |nil=>trivial
   |cons a b=>exact absurd h.1 (by simp[bnD])
  |_=>trivial
theorem okD_x{i:Nat}: ∀{D:List (Nat×ID)},D.all (fun e=>bnD e.2)=true->okD ops i (.x []) D
 | [],_=>trivial
 |(j,e)::D,h=>by
  simp only[a0s,a02]at h;refine⟨.inr ?_,okD_x h.2⟩;cases e with
  |x W=>
   cases W with
   |nil=>exact⟨trivial,trivial⟩
   |cons a b=>exact absurd h.1 (by simp[bnD])
  |l b=>exact a0h
  |q S=>exact fun b hb=>absurd hb a0h
  |n B=>exact fun b hb=>absurd hb a0h
  |_=>trivial
theorem wf_weak{D:List (Nat×ID)}{i j:Nat}{e:ID}(U: ∀g,e.fits g->gh g=true)(h:WF2 P G0 K sz ops ((j,.r)::D) i os k f H Q):WF2 P G0 K sz ops ((j,e)::D) i os k f H Q:=⟨fun t fs V A=>by
 refine h.out t fs V ?_;cases fs with
 |nil=>exact absurd A id
 |cons x fs=>
  obtain⟨a,g⟩:=x
  obtain⟨E,O,T⟩:=A
  exact⟨E,U g O,T⟩⟩
theorem wf_callx{d:Tmp}{op:Op}{ty:TypeId}{pos:String}{af:Array Edge}{D:List (Nat×ID)}{i:Nat}{v:Value}{g:FuncId}{args:List Value}(ha:AP P (dx f) ⟨some d,op,ty,pos,af,none⟩ {H with log:=[]} (.enter g args,{H with log:=[]}))(ho:op.operands.toList.all (bg G0)=true)(hd:Nat.ble (d+1) sz=true)(hk:fV op=true)
  (hc:C P G0 K g args {H with log:=[]} fun v' H'=>v'=v/\H'={H with log:=[]}) (al:okD ops i (.x []) D)
  (h:WF2 P G0 K sz ops ((i,.x [])::D) (i+1) os k (upd f d v) H Q):WF2 P G0 K sz ops D i (⟨some d,op,ty,pos,af,none⟩::os) k f H Q:=⟨fun t fs Y U=>by
 obtain⟨E,v',H2,Z,rfl,rfl⟩:=hc.out
 obtain⟨T,h1,h2⟩:=iX (s:=⟨t,sz,{H with log:=[]}⟩) (d:=some d) (v:=v') hd
 have hi:=e8 (ops:=ops) (f:=f) (o:=⟨some d,op,ty,pos,af,none⟩) (n:=H.next) (log:=[]) (W:=[]) rfl hk (fun b hb=>by simp at hb) t sz H Y
 obtain⟨A,e,s',h3,h4⟩:=h.out T ((i,dV ops ⟨some d,op,ty,pos,af,none⟩ ⟨t,sz,H⟩ H.next [])::fs) (by rw[h2,Y];rfl) ⟨rfl,hi,U⟩
 refine⟨Nat.max E A,e,s',?_,h4⟩
 have an:step P G0 (call P G0 K (Nat.max E A)) ops ⟨some d,op,ty,pos,af,none⟩ ⟨t,sz,{H with log:=[]}⟩=some ⟨T,sz,{H with log:=[]}⟩:=by unfold step aW;simp only[cond_true,ho,eO,Y,ha.eq,e9 (a1t E A) _ _ _ _ Z];exact h1
 unfold bd gG
 rw[an]
 simp only[dH hi U al,cond_true,dy,a0z]
 refine dM (a1n (a0Z E A)) k _ _ (fun x O=>?_) _ h3
 cases V:bd P G0 (call P G0 K A) ops (i+1) ((i,dV ops ⟨some d,op,ty,pos,af,none⟩ ⟨t,sz,H⟩ H.next [])::fs) os ⟨T,sz,H⟩ with
 |none=>rw[V]at O;cases O
 |some y=>
  have:=eK (e9 (P:=P) (G:=G0) (K:=K) (a0Z E A)) _ _ _ _ _ V
  rw[V]at O
  show dK (bd P G0 (call P G0 K (Nat.max E A)) ops (i+1) _ os ⟨T,sz,H⟩)=_
  rw[this];exact O⟩
theorem wf_do{D:List (Nat×ID)}{i d:Nat}{o:Oper}{c:Ch}{E:List (Nat×Bool)}{v:Value}(U:D.all (fun e=>bnD e.2)=true)(hd:o.dst=some d)(hb:Nat.ble (d+1) sz=true)(O:o.op.operands.toList.all (bg G0)=true)(A:GOK ops f fr S o.guard c E)
  (V:act E c=true->PRes P G0 K (· ={H with log:=[]}) (dx fr) ⟨some d,o.op,o.type,o.pos,o.after,none⟩ {H with log:=[]} v) (h:WF2 P G0 K sz ops ((i,.r)::D) (i+1) os k (upd fr d (bif act E c then v else undef)) H Q):WF2 P G0 K sz ops D i (o::os) k fr H Q:=by
 obtain⟨Z,op,ty,pos,af,gd⟩:=o
 simp only at hd O A V
 subst hd
 cases ha:act E c with
 |true=>
  rw[ha]at h
  have base:WF2 P G0 K sz ops D i (⟨some d,op,ty,pos,af,none⟩::os) k fr H Q:=by
   cases V ha with
   |val hv=>exact aV (id:= .r) hv O hb (did_r fun b hb=>by simp at hb) (okD_r U) h
   |call g args he hk hc=>
    exact wf_callx he O hb hk hc (okD_x U) (wf_weak (fun g A=>by obtain⟨w,rfl,Y⟩:=A;cases w with
     |nil=>rfl
     |cons a b=>exact absurd (Y a (by simp)) a0h) h)
  cases gd with
  |none=>exact base
  |some jw=>
   obtain⟨j,w⟩:=jw
   exact eu (A.on ha) rfl base
 |false=>
  rw[ha]at h
  have:=A.off ha
  cases gd with
  |none=>exact absurd this id
  |some jw=>
   obtain⟨j,w⟩:=jw
   have T:=wf_weak (e:= .v) (fun g A=>by rw[show g= .v from A];rfl) h
   rcases this with h1|h1
   ·exact wf_gn h1 hb T
   exact cH h1 rfl hb T
theorem holds_and{q:Option Prop}{p:Prop}(h:andO q p):eI q/\p:=by
 cases q with
 |none=>exact⟨trivial,h⟩
 |some q=>exact h
theorem wo_row(O:W.OK P G0 K J){hs:List (Nat×Hint)}: ∀{a:List Oper} {i:Nat} {S S':SS} {p:Prop} {fr:Fn} {H:Heap},J H->rgL P G0 W sz ops f hs i a S=some (S',p)->p->S.Rel f fr->
  (∀A H,J H->S'.Rel f A->WO P G0 K sz ops os k A H Q)->WO P G0 K sz ops (a++os) k fr H Q
 | [],i,S,S',p,fr,H,hH,h,_,hr,hk=>by simp only[rgL,a00,a04]at h;obtain⟨rfl,_⟩:=h;exact hk fr H hH hr
 |o::a,i,S,S',p,fr,H,hH,h,hp,hr,hk=>by
  unfold rgL at h;split at h
  ·cases h
  rename_i S1 q h1;split at h
  ·cases h
  rename_i S2 p2 h2;simp only[a00,a04]at h;obtain⟨rfl,rfl⟩:=h;obtain⟨hq,T⟩:=holds_and hp;obtain⟨d,c,G1,v,U,V,Y,Z,e5,e6⟩:=stepS_ok O hr h1 hq;exact wo_do U V Y (mi hr Z) e5 hH fun H' E=>wo_row O E h2 T e6 hk
def rs(i:Nat):List Oper->List (Nat×ID)->List (Nat×ID)
 | [],D=>D
 |_::a,D=>rs (i+1) a ((i,.r)::D)
theorem wf_row{hs:List (Nat×Hint)}: ∀{a:List Oper} {i:Nat} {D:List (Nat×ID)} {S S':SS} {p:Prop} {fr:Fn},D.all (fun e=>bnD e.2)=true->rgL P G0 (W0 P G0 K {H with log:=[]}) sz ops f hs i a S=some (S',p)->p->S.Rel f fr->
  (∀A,S'.Rel f A->WF2 P G0 K sz ops (rs i a D) (i+a.length) os k A H Q)->WF2 P G0 K sz ops D i (a++os) k fr H Q
 | [],i,D,S,S',p,fr,_,h,_,hr,hk=>by simp only[rgL,a00,a04]at h;obtain⟨rfl,_⟩:=h;exact hk fr hr
 |o::a,i,D,S,S',p,fr,hD,h,hp,hr,hk=>by
  unfold rgL at h;split at h
  ·cases h
  rename_i S1 q h1;split at h
  ·cases h
  rename_i S2 p2 h2;simp only[a00,a04]at h;obtain⟨rfl,rfl⟩:=h;obtain⟨hq,E⟩:=holds_and hp;obtain⟨d,c,G1,v,T,U,V,Y,Z,e6⟩:=stepS_ok ok0 hr h1 hq;refine wf_do hD T U V (mi hr Y) (fun ha=>Z ha _ rfl) (wf_row (by simp only[a0s,hD,a10];rfl) h2 E e6 fun A O=>?_);have:=hk A O;rw[a03,show i+(a.length+1)=i+1+a.length by omega]at this;exact this
theorem fins_ok{m:List (Nat×Ch×Value)}{G:List (Nat×Bool)}(E:SS.Rel ⟨m,G⟩ f fr): ∀{A:List Nat} {l:List (Nat×Value)},fins m A=some l->aN fr l
 | [],l,h=>by simp only[fins,a00]at h;subst h;trivial
 |d::A,l,h=>by
  unfold fins at h;split at h
  ·rename_i v l' O T;simp only[a00]at h;subst h;exact⟨by have:=E.sl d [] v O;exact this,fins_ok E T⟩
  cases h
theorem rel_leaves{m:List (Nat×Ch×Value)}{G:List (Nat×Bool)}(O:SS.Rel ⟨m,G⟩ f fr){lo hi:Nat}{ex:List Nat}(h:m.all (fun e=>inR lo hi ex e.1)=true):Leaves lo hi ex f fr:=⟨fun j E=>by
 refine O.no j ?_;have key: ∀(m:List (Nat×Ch×Value)),m.all (fun e=>inR lo hi ex e.1)=true->lk m j=none:=by
  intro m;induction m with
  |nil=>intro _;rfl
  |cons e m ih=>
   obtain⟨s,x⟩:=e
   intro A
   simp only[a0s,a02]at A
   show(bif Nat.beq s j then some x else lk m j)=none
   cases hb:Nat.beq s j with
   |true=>have:=a07 hb;subst this;rw[E]at A;cases A.1
   |false=>exact ih A.2
 exact key m h⟩
theorem rel0:SS.Rel ⟨[],[]⟩ f f:=⟨fun t c v h=>(by cases h),fun _ _=>rfl,fun s g h=>(by cases h),fun t c v h=>(by cases h)⟩
theorem top_ok{i:Nat}{a:List Oper}{hs:List (Nat×Hint)}{lo hi:Nat}{ex E:List Nat}{l:List (Nat×Value)}{p:Prop}(h:fU P G0 W sz ops f i a hs lo hi ex E=some (l,p)):
  ∃S,rgL P G0 W sz ops f hs i a ⟨[],[]⟩=some (S,p)/\∀fr,S.Rel f fr->∃g,fr=kC (hav lo hi ex g f) l:=by
 unfold fU at h
 split at h
 ·cases h
 rename_i S U O
 cases hb:S.m.all (fun e=>inR lo hi ex e.1) with
 |false=>rw[hb]at h;cases h
 |true=>
  rw[hb]at h
  simp only[cond_true]at h
  split at h
  ·rename_i l' T;simp only[a00,a04]at h;obtain⟨rfl,rfl⟩:=h;refine⟨S,O,fun fr A=>⟨fr,?_⟩⟩;rw[←(rel_leaves A hb).eq,hN (fins_ok A T)]
  cases h
theorem wk_rg{id:Nat}(hs:List (Nat×Hint))(lo hi:Nat)(ex:List Nat){A:List Nat}{l:List (Nat×Value)}{p:Prop}(h:fU P G0 (W0 P G0 K H) sz ops f 0 ops.toList hs lo hi ex A=some (l,p))(U:p)
  (T: ∀g,WK P G0 K sz .skip k (kC (hav lo hi ex g f) l) H Q):WK P G0 K sz (.region id ops false) k f H Q:=by
 obtain⟨S,E,O⟩:=top_ok h
 refine ab ?_
 have:=wo_row (os:=[]) (k:=k) (Q:=Q) ok0 rfl E U rel0 (fun fr H' e V=>by obtain⟨g,rfl⟩:=O fr V;subst e;exact aA (T g))
 rwa [a0p]at this
theorem wk_rgD{id:Nat}(A:(jV ops&&P.follows .mixedOrders)=true)(hs:List (Nat×Hint))(lo hi:Nat)(ex:List Nat){E:List Nat}{l:List (Nat×Value)}{p:Prop}(h:fU P G0 (W0 P G0 K {H with log:=[]}) sz ops f 0 ops.toList hs lo hi ex E=some (l,p))(V:p)
  (U: ∀g,WK P G0 K sz .skip k (kC (hav lo hi ex g f) l) H Q):WK P G0 K sz (.region id ops true) k f H Q:=by
 obtain⟨S,O,T⟩:=top_ok h
 refine aS A ?_
 have:=wf_row (os:=[]) (k:=k) (Q:=Q) (D:=[]) rfl O V rel0 (fun fr A=>by obtain⟨g,rfl⟩:=T fr A;exact bR (U g))
 rwa [a0p]at this
theorem wk_rgJ{id:Nat}(J:Heap->Prop)(hs:List (Nat×Hint))(lo hi:Nat)(ex:List Nat){A:List Nat}{l:List (Nat×Value)}{p:Prop}(T:J H)(h:fU P G0 (WJ P G0 K J) sz ops f 0 ops.toList hs lo hi ex A=some (l,p))(V:p)
  (U: ∀g H,J H->WK P G0 K sz .skip k (kC (hav lo hi ex g f) l) H Q):WK P G0 K sz (.region id ops false) k f H Q:=by
 obtain⟨S,E,O⟩:=top_ok h
 refine ab ?_
 have:=wo_row (os:=[]) (k:=k) (Q:=Q) okJ T E V rel0 (fun fr H' e Y=>by obtain⟨g,rfl⟩:=O fr Y;exact aA (U g H' e))
 rwa [a0p]at this
theorem wo_rg(n i:Nat)(hs:List (Nat×Hint))(lo hi:Nat)(ex:List Nat){os:List Oper}{A:List Nat}{l:List (Nat×Value)}{p:Prop}(h:fU P G0 (W0 P G0 K H) sz ops f i (fN os n) hs lo hi ex A=some (l,p))(U:p)
  (T: ∀g,WO P G0 K sz ops (gy os n) k (kC (hav lo hi ex g f) l) H Q):WO P G0 K sz ops os k f H Q:=by
 obtain⟨S,E,O⟩:=top_ok h
 have:=wo_row (os:=gy os n) (k:=k) (Q:=Q) ok0 rfl E U rel0 (fun fr H' e V=>by obtain⟨g,rfl⟩:=O fr V;subst e;exact T g)
 rwa [bL,cg,List.take_append_drop]at this
end
end Go.R
end
noncomputable section
namespace Go.R
def foc:Nat->Code->List Fr->Code×List Fr
 |0,c,k=>(c,k)
 |n+1,.seq a b,k=>foc n a (.seq b::k)
 |n+1,.block id b,k=>foc n b (.block id::k)
 |n+1,.skip,.seq b::k=>foc n b k
 |n+1,.skip,.block _::k=>foc n .skip k
 |n+1,.exit id,.seq _::k=>foc n (.exit id) k
 |n+1,.exit id,.block id'::k=>bif Nat.beq id id' then foc n .skip k else foc n (.exit id) k
 |_+1,c,k=>(c,k)
section
variable {P:Program} {G:Nat} {K:bp} {sz:Nat} {Q:Ex->Fn->Heap->Prop} {f:Fn} {H:Heap}
theorem wk_foc': ∀(n:Nat) (c:Code) (k:List Fr),WK P G K sz (foc n c k).1 (foc n c k).2 f H Q->WK P G K sz c k f H Q:=by
 intro n;induction n with
 |zero=>intro c k h;exact h
 |succ n ih=>
  intro c k h
  cases c with
  |seq a b=>exact aK (ih _ _ h)
  |block id b=>exact fh (ih _ _ h)
  |skip=>
   cases k with
   |nil=>exact h
   |cons x k=>
    cases x with
    |seq b=>exact ai (ih _ _ h)
    |block id=>exact ed (ih _ _ h)
  |exit id=>
   cases k with
   |nil=>exact h
   |cons x k=>
    cases x with
    |seq b=>exact er (ih _ _ h)
    |block id'=>
     have A:WK P G K sz (bif Nat.beq id id' then foc n .skip k else foc n (.exit id) k).1 (bif Nat.beq id id' then foc n .skip k else foc n (.exit id) k).2 f H Q:=h
     cases hb:Nat.beq id id' with
     |true=>
      have:=a07 hb
      subst this
      rw[hb]at A
      exact fg (ih _ _ A)
     |false=>
      rw[hb]at A
      exact ji hb (ih _ _ A)
  |_=>exact h
variable {c c1 c2:Code} {k k1 k2:List Fr}
theorem aj(n:Nat)(A:foc n c k=(c1,k1))(h:WK P G K sz c1 k1 f H Q):WK P G K sz c k f H Q:=wk_foc' n c k (by rw[A];exact h)
theorem wk_if(n m:Nat){x:Operand}{a b:Code}{v:Bool}(Y:dx f x= .bool v)(U:bg G x=true)(E:foc n a k=(c1,k1))(O:foc m b k=(c2,k2))(V:v=true->WK P G K sz c1 k1 f H Q)(T:v=false->WK P G K sz c2 k2 f H Q):WK P G K sz (.cond x a b) k f H Q:=
 cY Y U (fun A=>aj n E (V A)) (fun A=>aj m O (T A))
theorem bI(n:Nat){x:Operand}{a b:Code}{v:Bool}(T:dx f x= .bool v)(O:v=true)(E:bg G x=true)(A:foc n a k=(c1,k1))(h:WK P G K sz c1 k1 f H Q):WK P G K sz (.cond x a b) k f H Q:=wk_true T O E (aj n A h)
theorem kM(n:Nat){x:Operand}{a b:Code}{v:Bool}(T:dx f x= .bool v)(O:v=false)(E:bg G x=true)(A:foc n b k=(c1,k1))(h:WK P G K sz c1 k1 f H Q):WK P G K sz (.cond x a b) k f H Q:=lH T O E (aj n A h)
theorem wk_join(J:Fn->Heap->Prop)(E:(∀A H',J A H'->WK P G K sz .skip k A H' Q)->WK P G K sz c k f H Q)(O: ∀A H',J A H'->WK P G K sz .skip k A H' Q):WK P G K sz c k f H Q:=E O
theorem wr(n:Nat){id:Nat}{ops:Array Oper}(hs:List (Nat×Hint))(lo hi:Nat)(ex:List Nat)(l:List (Nat×Value)){p:Prop}(O:p)(h:fU P G (W0 P G K H) sz ops f 0 ops.toList hs lo hi ex (eW Prod.fst l)=some (l,p))(A:foc n .skip k=(c1,k1))
  (E: ∀g,WK P G K sz c1 k1 (kC (hav lo hi ex g f) l) H Q):WK P G K sz (.region id ops false) k f H Q:=wk_rg hs lo hi ex h O fun g=>aj n A (E g)
theorem wrD(n:Nat){id:Nat}{ops:Array Oper}(hs:List (Nat×Hint))(lo hi:Nat)(ex:List Nat)(l:List (Nat×Value)){p:Prop}(O:p)(T:(jV ops&&P.follows .mixedOrders)=true)(h:fU P G (W0 P G K {H with log:=[]}) sz ops f 0 ops.toList hs lo hi ex (eW Prod.fst l)=some (l,p))(A:foc n .skip k=(c1,k1))
  (E: ∀g,WK P G K sz c1 k1 (kC (hav lo hi ex g f) l) H Q):WK P G K sz (.region id ops true) k f H Q:=wk_rgD T hs lo hi ex h O fun g=>aj n A (E g)
theorem wro(n i:Nat){ops:Array Oper}{os A:List Oper}(hs:List (Nat×Hint))(lo hi:Nat)(ex:List Nat)(l:List (Nat×Value)){p:Prop}(T:p)(h:fU P G (W0 P G K H) sz ops f i (fN os n) hs lo hi ex (eW Prod.fst l)=some (l,p))(E:gy os n=A)
  (O: ∀g,WO P G K sz ops A k (kC (hav lo hi ex g f) l) H Q):WO P G K sz ops os k f H Q:=wo_rg n i hs lo hi ex h T (by rw[E];exact O)
theorem ad(n:Nat){ops:Array Oper}(A:foc n .skip k=(c1,k1))(h:WK P G K sz c1 k1 f H Q):WO P G K sz ops [] k f H Q:=aA (aj n A h)
end
theorem vA{a b:Prop}(h:a)(k:b):a/\b:=⟨h,k⟩
theorem vi{n:Int}(h: -9223372036854775808<=n/\n<9223372036854775808:=by first|(dsimp only;omega)|omega):rng .i64 n:=h
section
variable {P:Program} {G:Nat} {K:bp} {H:Heap} {F:Fz} {B:Base} {L R:List Fp}
theorem ld1{b o i:Nat}{cs:List Value}{w:Value}{t:TypeId}(hc:HC H.get b o cs)(ha:eJ P t=some false)(O:cs[i]?=some w):LDv P H t (.pointer (some ⟨b,o+i,none⟩)) w:=by obtain⟨all,T,U,A,E⟩:=hc.get O;show ovl (H.loadV P t ⟨b,o+i,none⟩) H=_;unfold Heap.loadV;rw[ha];simp only;unfold Heap.cellAt;simp only[A,hY,E];rfl
theorem ldN{b o i n:Nat}{cs l:List Value}{t:TypeId}(hc:HC H.get b o cs)(ha:eJ P t=some true)(hs:di P t=some n)(U:Nat.ble (i+n) cs.length=true)(A:fN (gy cs i) n=l):LDv P H t (.pointer (some ⟨b,o+i,none⟩)) (.agg ⟨l⟩):=by obtain⟨all,V,Y,E,O,T⟩:=hc.part (a0d U);rw[bL,cg]at A;show ovl (H.loadV P t ⟨b,o+i,none⟩) H=_;unfold Heap.loadV;rw[ha];simp only[hs];unfold Heap.loadN;rw[←A];simp only[E,bL,cg,bA,O,T,a0S,cond_true];rfl
theorem hc0{b o:Nat}{cs:List Value}(h:HC H.get b o cs):HC ({H with log:=[]}:Heap).get b o cs:=h
theorem cq{f:FuncId}{args:List Value}{Q:Value->Heap->Prop}{v:Value}(h:C P G K f args H Q)(A: ∀v' H',Q v' H'->v'=v/\H'=H):C P G K f args H fun v' H'=>v'=v/\H'=H:=h.mono A
section
variable {α:Type} [Rp α] {v:Value} {l:List α}
theorem Sv.view{get:Nat->Option AObj}(h:Sv F get v l): ∃cf:Nat->List Value,∀(j:Nat),(∀d:α,j<l.length->Rp.rep F (cf j) (l.getD j d)/\HC get (sB v) (sO v+j *Rp.sz α) (cf j))/\(l.length<=j->cf j=[]):=by
 have E: ∀j,∃cs,(∀(d:α),j<l.length->Rp.rep F cs (l.getD j d)/\HC get (sB v) (sO v+j *Rp.sz α) cs)/\(l.length<=j->cs=[]):=by
  intro j;by_cases A:j<l.length
  ·obtain⟨cs,T,U⟩:=h.at (a08 A);refine⟨cs,fun d _=>⟨?_,U⟩,fun h=>absurd h (by omega)⟩;rw[a09,a08 A];exact T
  exact⟨[],fun _ O=>absurd O A,fun _=>rfl⟩
 exact⟨fun j=>(E j).choose,fun j=>(E j).choose_spec⟩
abbrev VW(F:Fz)(get:Nat->Option AObj)(v:Value)(l:List α)(cf:Nat->List Value)(j:Nat):Prop:=(∀d:α,j<l.length->Rp.rep F (cf j) (l.getD j d)/\HC get (sB v) (sO v+j *Rp.sz α) (cf j))/\(l.length<=j->cf j=[])
theorem Sv.ix{get:Nat->Option AObj}(h:Sv F get v l){j:Int}(E:0<=j:=by first|(dsimp only;omega)|omega)(A:j<l.length:=by first|(dsimp only;omega)|omega):IX v j:=by
 rcases h with⟨_,rfl⟩|⟨b,off,k,o,rfl,U,cs,T,ro,rfl,V,O,Y,Z⟩
 ·simp at A;omega
 exact⟨b,off,_,k,rfl,E,A,O⟩
end
def sA:Value->Option Addr
 | .slice a _ _=>a
 |_=>none
def sK:Value->Nat
 | .slice _ _ k=>k
 |_=>0
abbrev cA(cs:List Value)(i:Nat):Option Addr:=sA (cs.getD i undef)
abbrev cK(cs:List Value)(i:Nat):Nat:=sK (cs.getD i undef)
end
theorem bM{α:Type}{l:List α}{j:Nat}{d:α}(h:l.length<=j):l.getD j d=d:=by rw[a09,a1g h];rfl
section
variable {F:Fz} {get:Nat->Option AObj} {v:Value} {cf:Nat->List Value} {j:Nat}
theorem vI{l:List Int}(h:VW F get v l cf j)(O:j<l.length:=by first|(dsimp only;omega)|omega):HC get (sB v) (sO v+j *Rp.sz Int) [.int .i64 (l.getD j 0)]:=by obtain⟨⟨E,_⟩,A⟩:=h.1 0 O;rw[E]at A;exact A
theorem fI{l:List Int}(h:VW F get v l cf j):in64 (l.getD j 0):=by
 rcases a0k j l.length with hj|hj
 ·exact(h.1 0 hj).1.2
 rw[bM hj];decide
theorem vS{l:List Str}(h:VW F get v l cf j)(O:j<l.length:=by first|(dsimp only;omega)|omega):HC get (sB v) (sO v+j *Rp.sz Str) [.string ⟨⟨(l.getD j default).b⟩⟩]:=by obtain⟨E,A⟩:=h.1 default O;rw[show cf j=_ from E]at A;exact A
theorem vL{α:Type} [Rp α]{l:List (List α)}(h:VW F get v l cf j)(O:j<l.length:=by first|(dsimp only;omega)|omega):HC get (sB v) (sO v+j *Rp.sz (List α)) [.slice (cA (cf j) 0) (l.getD j default).length (cK (cf j) 0)]:=by obtain⟨⟨a,k,E,_⟩,A⟩:=h.1 default O;rw[E]at A⊢;exact A
theorem fL{α:Type} [Rp α]{l:List (List α)}(h:VW F get v l cf j):SR F (.slice (cA (cf j) 0) (l.getD j default).length (cK (cf j) 0)) (l.getD j default):=by
 rcases a0k j l.length with hj|hj
 ·obtain⟨⟨a,k,A,E⟩,_⟩:=h.1 default hj;rw[A];exact E
 rw[bM hj,h.2 hj];exact SR.nil
theorem ap_callc{P:Program}{f0:Operand}{d:Option Tmp}{ty:TypeId}{pos:String}{af:Array Edge}{gd:Option (Nat×Bool)}{H:Heap}{args:Array Operand}{A:Array TypeId}{i:FuncId}{fn:Func}{f:Fn}{l:List Value}{x y:Array Value}(T:dx f f0= .func (.func i) x y)(E:P.funcs[i]?=some fn)(hb:(fn.body.isSome&& !(fn.name== "runtime.NumGoroutine"))=true)(O:jD x.toList (jD (eW (dx f) args.toList) y.toList)=l):
  AP P (dx f) ⟨d,.call ⟨.value f0,args,A⟩,ty,pos,af,gd⟩ H (.enter i l,H):=by
 refine⟨?_⟩
 show fv (fA P (dx f f0) (eW (dx f) args.toList)) H=_
 rw[T]
 unfold fA
 simp only[E,hb,cond_true,O]
 rfl
end
theorem vq{a b:Int}(ha:in64 a)(hb:b≠ -1):rng .i64 (a.tdiv b):=by
 show in64 _;by_cases E:b=0
 ·subst E;rw[Int.tdiv_zero];decide
 have A:(a.tdiv b).natAbs=a.natAbs/b.natAbs:=Int.natAbs_tdiv a b;by_cases O:b=1
 ·subst O;rw[Int.tdiv_one];exact ha
 have T:2<=b.natAbs:=by omega
 have U:(a.tdiv b).natAbs *2<=a.natAbs:=by rw[A];exact a0m (Nat.mul_le_mul_left _ T) (Nat.div_mul_le_self _ _)
 obtain⟨V,Y⟩:=ha;clear A;constructor<;>omega
section
variable {P:Program} {t:TypeId} {fs:Array Field} {xs ys:List Value} {bs:List Bool}
end
end Go.R
end
noncomputable section
namespace Go.R
section
variable {B:Base} {F:Fz} {H:Heap} {L R:List Fp} {x:Fp}
theorem HS.first(h:HS B F H (x::L) R):HS B F H [x] R:=HS.sub h (by simp)
theorem HS.didW{A:Heap}{W:List Nat}(h:HS (.of {A with log:=[]} W) F H L R): ∀b,b∈H.log->A.next<=b\/b∈W:=fun b hb=>by
 rcases h.log b hb with h1|h1|h1
 ·simp[Base.of]at h1
 ·exact .inl h1
 exact .inr h1
end
end Go.R
end
namespace Go.R
theorem eG{P:Program}{ρ:Operand->Value}{d:Option Tmp}{ty:TypeId}{pos:String}{af:Array Edge}{gd:Option (Nat×Bool)}{H:Heap}{x:Operand}{a:Addr}(A:ρ x= .pointer (some a)):AP P ρ ⟨d,.nilCheck x,ty,pos,af,gd⟩ H (.val (.pointer (some a)),H):=by refine⟨?_⟩;show opNil (ρ x) H=_;rw[A];rfl
end Go.R
namespace Go.R
end Go.R
namespace Go.R
theorem HS.nin{B:Base}{F:Fz}{H:Heap}{L R:List Fp}(h:HS B F H L R){i j:Nat}{p q:Fp}(hi:L[i]?=some p)(V:L[j]?=some q)(O:i≠j){b:Nat}(hb:b∈p.map Prod.fst):b∉q.map Prod.fst:=by
 intro Y;have hc:=h.callOwn hi;have A:=hc.nd;have T:q∈L.set i []:=by refine a0q (i:=j) ?_;rw[List.getElem?_set_ne O];exact V
 simp only[a0t,a0z,a0Q,a0F,a1u]at A;refine A.2.2 b hb b ?_ rfl;obtain⟨⟨U,o⟩,E,rfl⟩:=a0w.1 Y;exact a0w.2 ⟨(U,o),a0H.2 ⟨q,a1M _ T,E⟩,rfl⟩
end Go.R
namespace Go.R
theorem HS.ownlt{B:Base}{F:Fz}{H:Heap}{L R:List Fp}(h:HS B F H L R){i:Nat}{p:Fp}(hi:L[i]?=some p): ∀b,b∈p.map Prod.fst->b<H.next:=by intro b hb;obtain⟨⟨E,o⟩,A,rfl⟩:=a0w.1 hb;exact(h.own p (.inl (a0q hi)) E o A).2.1
end Go.R
noncomputable section
set_option linter.unusedVariables false
namespace Go.R
open Go
section
variable {P:Program} {G:Nat} {K:bp} {sz:Nat} {Q:Ex->Fn->Heap->Prop} {ops:Array Oper} {D:List (Nat×ID)} {i:Nat} {os:List Oper} {k k1 k2:List Fr} {c c1 c2:Code} {f:Fn} {H H1:Heap} {v:Value}
variable {d:Tmp} {ty:TypeId} {pos:String} {af:Array Edge} {x y:Operand}
theorem zi(n m:Nat){a b:Code}{v:Bool}(U:v=true->WK P G K sz c1 k1 f H Q)(O:v=false->WK P G K sz c2 k2 f H Q)(V:dx f x= .bool v:=by rfl)(T:bg G x=true:=by rfl)(A:foc n a k=(c1,k1):=by rfl)(E:foc m b k=(c2,k2):=by rfl):WK P G K sz (.cond x a b) k f H Q:=wk_if n m V T A E U O
theorem zd(n m:Nat){a b:Code}{p:Prop}{i:Decidable p}(U:p->WK P G K sz c1 k1 f H Q)(O: ¬p->WK P G K sz c2 k2 f H Q)(V:dx f x= .bool (@decide p i):=by rfl)(T:bg G x=true:=by rfl)(A:foc n a k=(c1,k1):=by rfl)(E:foc m b k=(c2,k2):=by rfl):WK P G K sz (.cond x a b) k f H Q:=wk_if n m V T A E (fun h=>U (of_decide_eq_true h)) fun h=>O (of_decide_eq_false h)
theorem za(v:Value)(h:WO P G K sz ops os k (upd f d v) H Q)(E:dx f x=v:=by rfl)(A:(Op.assign x).operands.toList.all (bg G)=true:=by rfl)(hd:Nat.ble (d+1) sz=true:=by rfl):WO P G K sz ops (⟨some d,.assign x,ty,pos,af,none⟩::os) k f H Q:=wa v E A hd h
theorem zm(v:Value)(h:WO P G K sz ops os k (upd f d v) H Q)(E:dx f x=v:=by rfl)(A:(Op.move x).operands.toList.all (bg G)=true:=by rfl)(hd:Nat.ble (d+1) sz=true:=by rfl):WO P G K sz ops (⟨some d,.move x,ty,pos,af,none⟩::os) k f H Q:=wm v E A hd h
theorem zfm(v:Value)(h:WF2 P G K sz ops ((i,.v)::D) (i+1) os k (upd f d v) H Q)(E:dx f x=v:=by rfl)(A:(Op.move x).operands.toList.all (bg G)=true:=by rfl)(hd:Nat.ble (d+1) sz=true:=by rfl):WF2 P G K sz ops D i (⟨some d,.move x,ty,pos,af,none⟩::os) k f H Q:=fm v E A hd h
theorem zc{args:Array Operand}{A:Array TypeId}{g:FuncId}{fn:Func}{l:List Value}{R:Value->Heap->Prop}(hc:C P G K g l H R)(h: ∀v E,R v E->WO P G K sz ops os k (upd f d v) E Q)(O:P.funcs[g]?=some fn:=by rfl)(hb:(fn.body.isSome&& !(fn.name== "runtime.NumGoroutine"))=true:=by rfl)(T:eW (dx f) args.toList=l:=by rfl)(U:(Op.call ⟨.value (.func g),args,A⟩).operands.toList.all (bg G)=true:=by rfl)(hd:Nat.ble (d+1) sz=true:=by rfl):
  WO P G K sz ops (⟨some d,.call ⟨.value (.func g),args,A⟩,ty,pos,af,none⟩::os) k f H Q:=jH (aY O hb T) U hd hc h
theorem zp{s:TypeId}{b o n:Nat}(A:Nat)(h:WF2 P G K sz ops ((i,.v)::D) (i+1) os k (upd f d (.pointer (some ⟨b,A,none⟩))) H Q)(O:dx f x= .pointer (some ⟨b,o,none⟩):=by rfl)(ha:iy P s (.pointer (some ⟨b,o,none⟩)) n=some (.pointer (some ⟨b,A,none⟩)):=by rfl)(E:(Op.fieldAddr s x n).operands.toList.all (bg G)=true:=by rfl)(hd:Nat.ble (d+1) sz=true:=by rfl):WF2 P G K sz ops D i (⟨some d,.fieldAddr s x n,ty,pos,af,none⟩::os) k f H Q:=aV (jr O ha) E hd (did_v rfl) (kG _) h
theorem zl{t:TypeId}{b o o':Nat}(j:Nat){cs:List Value}{w:Value}(hc:HC ({H with log:=[]}:Heap).get b o cs)(h:WF2 P G K sz ops ((i,.l b)::D) (i+1) os k (upd f d w) H Q)(A:dx f x= .pointer (some ⟨b,o',none⟩):=by rfl)(ha:eJ P t=some false:=by rfl)(E:o'=o+j:=by rfl)(U:cs[j]?=some w:=by rfl)(T:(Op.load t x).operands.toList.all (bg G)=true:=by rfl)(hd:Nat.ble (d+1) sz=true:=by rfl)(O:okB ops i (.l b) D=true:=by rfl):WF2 P G K sz ops D i (⟨some d,.load t x,ty,pos,af,none⟩::os) k f H Q:=aV (eN (H:={H with log:=[]}) A ha hc E U) T hd (ej A) (kb O) h
theorem zx(α:Type) [Rp α]{t e:TypeId}{V:IntKind}{F:Fz}{l:List α}(j:Nat)(hs:Sv F ({H with log:=[]}:Heap).get v l)(h:WF2 P G K sz ops ((i,.v)::D) (i+1) os k (upd f d (.pointer (some ⟨sB v,sO v+j *Rp.sz α,none⟩))) H Q)(A:(j:Int)<l.length:=by first|(dsimp only;omega)|omega)(T:dx f x=v:=by rfl)(hi:dx f y= .int V (j:Int):=by rfl)(O:P.underlying t=some (.slice e):=by rfl)(U:di P e=some (Rp.sz α):=by rfl)(E:(Op.indexAddr t x y).operands.toList.all (bg G)=true:=by rfl)(hd:Nat.ble (d+1) sz=true:=by rfl):
  WF2 P G K sz ops D i (⟨some d,.indexAddr t x y,ty,pos,af,none⟩::os) k f H Q:=aV (mt (H:={H with log:=[]}) T hi O U hs (by omega) A) E hd (did_v rfl) (kG _) h
theorem zy(α:Type) [Rp α]{t e:TypeId}{Y:IntKind}{F:Fz}{l:List α}(j:Int)(hs:Sv F ({H with log:=[]}:Heap).get v l)(h:WF2 P G K sz ops ((i,.v)::D) (i+1) os k (upd f d (.pointer (some ⟨sB v,sO v+j.toNat *Rp.sz α,none⟩))) H Q)(A:0<=j:=by first|(dsimp only;omega)|omega)(E:j<l.length:=by first|(dsimp only;omega)|omega)(U:dx f x=v:=by rfl)(hi:dx f y= .int Y j:=by rfl)(T:P.underlying t=some (.slice e):=by rfl)(V:di P e=some (Rp.sz α):=by rfl)(O:(Op.indexAddr t x y).operands.toList.all (bg G)=true:=by rfl)(hd:Nat.ble (d+1) sz=true:=by rfl):
  WF2 P G K sz ops D i (⟨some d,.indexAddr t x y,ty,pos,af,none⟩::os) k f H Q:=aV (mt (H:={H with log:=[]}) U hi T V hs A E) O hd (did_v rfl) (kG _) h
end
end Go.R
end
noncomputable section
set_option linter.unusedVariables false
namespace Go.R
def JJ(B:Base)(F:Fz)(L R:List Fp)(H:Heap):Prop:= ∃F',Fz.le F F'/\HS B F' H L R
section
variable {P:Program} {G:Nat} {K:bp} {sz:Nat} {Q:Ex->Fn->Heap->Prop} {f:Fn} {H:Heap} {B:Base} {F:Fz} {L R:List Fp} {c1:Code} {k k1:List Fr}
theorem wj(n:Nat)(hs:HS B F H L R){id:Nat}{ops:Array Oper}(A:List (Nat×Hint))(lo hi:Nat)(ex:List Nat)(l:List (Nat×Value)){p:Prop}(T:p)(h:fU P G (WJ P G K (JJ B F L R)) sz ops f 0 ops.toList A lo hi ex (eW Prod.fst l)=some (l,p))
  (O: ∀g H F',Fz.le F F'->HS B F' H L R->WK P G K sz c1 k1 (kC (hav lo hi ex g f) l) H Q) (E:foc n .skip k=(c1,k1):=by rfl):WK P G K sz (.region id ops false) k f H Q:=
 wk_rgJ (JJ B F L R) A lo hi ex ⟨F,Fz.le_refl F,hs⟩ h T fun g H' ⟨F',h1,h2⟩=>aj n E (O g H' F' h1 h2)
theorem jl0(hs:HS B F H L R){b:Nat}{cs:List Value}{w:Value}(t:TypeId)(i j:Nat)(ha:eJ P t=some false)(h:L[j]?=some [(b,.cells cs none false)])(A:cs[i]?=some w): ∀H,JJ B F L R H->LDv P H t (.pointer (some ⟨b,i,none⟩)) w:=
 fun _ ⟨_,_,q⟩=>by have:=ld1 (o:=0) (HS.hc q h) ha A;rwa [a0R]at this
theorem jn0(hs:HS B F H L R){b:Nat}{cs l:List Value}(t:TypeId)(i n j:Nat)(ha:eJ P t=some true)(O:di P t=some n)(h:L[j]?=some [(b,.cells cs none false)])(E:Nat.ble (i+n) cs.length=true)(A:fN (gy cs i) n=l): ∀H,JJ B F L R H->LDv P H t (.pointer (some ⟨b,i,none⟩)) (.agg ⟨l⟩):=
 fun _ ⟨_,_,q⟩=>by have:=ldN (o:=0) (HS.hc q h) ha O E A;rwa [a0R]at this
def FzC(F:Fz)(b:Nat)(cs:List Value):Prop:=F b=some (.cells cs none false)
theorem FzC.mono{F':Fz}{b:Nat}{cs:List Value}(h:FzC F b cs)(A:Fz.le F F'):FzC F' b cs:=A _ _ h
theorem FzC.hc{b:Nat}{cs:List Value}(h:FzC F b cs)(hs:HS B F H L R):HC H.get b 0 cs:=HC.same (hs.fz _ _ h).1
theorem jf0(hs:HS B F H L R){b:Nat}{cs:List Value}{w:Value}(t:TypeId)(i:Nat)(hb:FzC F b cs)(ha:eJ P t=some false)(A:cs[i]?=some w): ∀H,JJ B F L R H->LDv P H t (.pointer (some ⟨b,i,none⟩)) w:=
 fun _ ⟨_,h,q⟩=>by have:=ld1 (o:=0) ((hb.mono h).hc q) ha A;rwa [a0R]at this
theorem HS.frc(hs:HS B F H L R){b i:Nat}{cs:List Value}(h:L[i]?=some [(b,.cells cs none false)]): ∃F',Fz.le F F'/\HS B F' H (L.set i []) R/\FzC F' b cs:=by obtain⟨F',A,E,O⟩:=hs.freeze h;exact⟨F',A,E,O _ _ (a0E.2 rfl)⟩
theorem ap_mkf{ρ:Operand->Value}{d:Option Tmp}{ty:TypeId}{pos:String}{af:Array Edge}{gd:Option (Nat×Bool)}{fn:_}{first A:Array Operand}{v:Value}(h:Value.func fn (first.map ρ) (A.map ρ)=v):AP P ρ ⟨d,.makeFunc fn first A,ty,pos,af,gd⟩ H (.val v,H):=⟨by rw[←h];rfl⟩
theorem HS.reflat{E:List Fp}(h:HS B F H L R)(e:E.flatten=L.flatten):HS B F H E R:=
 have m: ∀p,p∈E->∀b o,(b,o)∈p->∃q,q∈L/\(b,o)∈q:=fun p A b o hb=>by have:(b,o)∈L.flatten:=e▸a0H.2 ⟨p,A,hb⟩;exact a0H.1 this
 ⟨h.fz,fun p A b o hb=>by
   rcases A with A|A
   ·obtain⟨q,O,T⟩:=m p A b o hb;exact h.own q (.inl O) b o T
   exact h.own p (.inr A) b o hb,
  by have:=h.nd;rw[a0N]at this⊢;rwa [e],h.n0,h.log,fun p A b o hb=>by
   obtain⟨q,O,T⟩:=m p A b o hb;exact h.mine q O b o T⟩
theorem HS.own2{p q:Fp}(h:HS B F H (p::q::L) R):HS B F H [p++q] R:=HS.reflat (L:=[p,q]) (h.sub (.cons_cons _ (.cons_cons _ (List.nil_sublist _)))) (by simp)
theorem jc(hs:HS B F H L R){g:FuncId}{args:List Value}{α:Type}{e:α->Value}{X:α}(h: ∀A H1,Fz.le F A->HS (.of H1 []) A H1 [] (L++R)->C P G K g args H1 fun v O=> ∃(o:α) (E:Fz),Fz.le A E/\HS (.of H1 []) E O [] (L++R)/\v=e o/\o=X):
  ∀H,JJ B F L R H->C P G K g args H fun v H'=>v=e X/\JJ B F L R H':=
 fun H ⟨A,h1,q⟩=>(h A H h1 q.call).mono fun v H' ⟨o,E,h2,q2,e1,e2⟩=>⟨by rw[e1,e2],E,Fz.le_trans h1 h2,by
  have:=q.back rfl q2;rwa [a0p]at this⟩
end
end Go.R
end
noncomputable section
set_option linter.unusedVariables false
namespace Go.R
open Go
structure TabS(f:List UInt8->Option Value)(es:List (Value×Value)):Prop where
 key: ∀e,e∈es->∃k,e.1= .string ⟨⟨k⟩⟩
 at_: ∀k,dC .string (.string ⟨⟨k⟩⟩) es=f k
def updS(f:List UInt8->Option Value)(k:List UInt8)(v:Value):List UInt8->Option Value:=fun x=>if x=k then some v else f x
theorem sameS{a b:List UInt8}:cI (.string ⟨⟨a⟩⟩) (.string ⟨⟨b⟩⟩)=decide (a=b):=by
 show(a==b)=_;by_cases h:a=b
 ·subst h;simp
 rw[decide_eq_false h];simpa using h
theorem TabS.nil:TabS (fun _=>none) []:=⟨fun _ h=>absurd h a0h,fun _=>rfl⟩
theorem findS_set{d:TypeDesc}{k x:List UInt8}{v:Value}: ∀{es:List (Value×Value)},(∀e,e∈es->∃k,e.1= .string ⟨⟨k⟩⟩)->dC d (.string ⟨⟨x⟩⟩) (cC (.string ⟨⟨k⟩⟩) v es)=if x=k then some v else dC d (.string ⟨⟨x⟩⟩) es
 | [],_=>by show(bif cI (.string ⟨⟨x⟩⟩) (.string ⟨⟨k⟩⟩) then some v else none)=_;rw[sameS];by_cases h:x=k<;>simp[h,dC]
 |(a,w)::es,h=>by
  obtain⟨j,E⟩:=h (a,w) (a0i ..);have E:a= .string ⟨⟨j⟩⟩:=E;subst E;have ih:=findS_set (d:=d) (k:=k) (x:=x) (v:=v) (es:=es) fun e T=>h e (a0c _ T)
  unfold cC;rw[sameS];by_cases O:k=j
  ·subst O;simp only[decide_true,cond_true];unfold dC;rw[sameS];by_cases A:x=k<;>simp[A]
  rw[decide_eq_false O,cond_false];unfold dC;rw[sameS,ih];by_cases A:x=j
  ·subst A;simp[Ne.symm O]
  rw[decide_eq_false A];rfl
theorem keyS_set{k:List UInt8}{v:Value}: ∀{es:List (Value×Value)},(∀e,e∈es->∃k,e.1= .string ⟨⟨k⟩⟩)->∀e,e∈cC (.string ⟨⟨k⟩⟩) v es->∃k,e.1= .string ⟨⟨k⟩⟩
 | [],_,e,A=>by
  have:e=(.string ⟨⟨k⟩⟩,v):=by simpa[cC] using A
  subst this;exact⟨k,rfl⟩
 |(a,w)::es,h,e,A=>by
  unfold cC at A;cases hb:cI (.string ⟨⟨k⟩⟩) a with
  |true=>
   rw[hb]at A
   rcases a0n.1 A with rfl|A
   ·exact⟨k,rfl⟩
   exact h e (a0c _ A)
  |false=>
   rw[hb]at A
   rcases a0n.1 A with rfl|A
   ·exact h _ (a0i ..)
   exact keyS_set (fun e A=>h e (a0c _ A)) e A
theorem TabS.upd{f:List UInt8->Option Value}{es:List (Value×Value)}(h:TabS f es)(k:List UInt8)(v:Value):TabS (updS f k v) (cC (.string ⟨⟨k⟩⟩) v es):=
 ⟨keyS_set h.key,fun x=>by rw[findS_set h.key,h.at_ x];rfl⟩
theorem TabS.keys{f:List UInt8->Option Value}{es:List (Value×Value)}(h:TabS f es):(es.all fun e=>bB .string e.1)=true:=a0j.2 fun e E=>by obtain⟨k,A⟩:=h.key e E;rw[A];rfl
section
variable {P:Program} {ρ:Operand->Value} {d:Option Tmp} {ty:TypeId} {pos:String} {af:Array Edge} {gd:Option (Nat×Bool)} {B:Base} {F:Fz} {H:Heap} {L R:List Fp} {f:List UInt8->Option Value} {es:List (Value×Value)}
theorem lookS{t T A:TypeId}{z:Value}{b:Nat}{k:List UInt8}{i:TypeInfo}(U:H.get b=some (.tab es))(E:TabS f es)(Y:P.underlying t=some (.map T A))(hd:P.underlying T=some .string)(hi:P.info? A=some i)(Z:i.zero=some z)(V:hZ z=true)(ok:Bool):
  cP P t (.map (some b)) (.string ⟨⟨k⟩⟩) ok H=some (bif ok then .tuple #[(f k).getD z,.bool (f k).isSome] else(f k).getD z):=by
 unfold cP
 have O:bB .string (.string ⟨⟨k⟩⟩)=true:=rfl
 simp only[Y,hd,hi,Z,V,O,U,E.keys,a10,cond_true,E.at_ k]
 cases f k<;>cases ok<;>rfl
theorem ap_lookS{t O E:TypeId}{m A:Operand}{z:Value}{b:Nat}{k:List UInt8}{i:TypeInfo}{ok:Bool}(U:H.get b=some (.tab es))(T:TabS f es)(Y:ρ m= .map (some b))(V:ρ A= .string ⟨⟨k⟩⟩)(ht:P.underlying t=some (.map O E))(hd:P.underlying O=some .string)(hi:P.info? E=some i)(hz:i.zero=some z)(Z:hZ z=true):
  AP P ρ ⟨d,.lookup t m A ok,ty,pos,af,gd⟩ H (.val (bif ok then .tuple #[(f k).getD z,.bool (f k).isSome] else(f k).getD z),H):=⟨by
 show ovl (cP P t (ρ m) (ρ A) ok H) H=_
 rw[Y,V,lookS U T ht hd hi hz Z ok];rfl⟩
end
def tabS(l:List (List UInt8)):List (Value×Value):=l.foldl (fun es k=>cC (.string ⟨⟨k⟩⟩) (.bool true) es) []
def tabB(b:Nat)(l:List (List UInt8)):Fp:=[(b,.tab (tabS l))]
def inS(l:List (List UInt8))(k:List UInt8):Option Value:=if k∈l then some (.bool true) else none
theorem tabS_snoc(l:List (List UInt8))(k:List UInt8):tabS (l++[k])=cC (.string ⟨⟨k⟩⟩) (.bool true) (tabS l):=by unfold tabS;rw[a1H];rfl
theorem tabS_ok(l:List (List UInt8)):TabS (inS l) (tabS l):=by
 have key: ∀(l m:List (List UInt8)),TabS (inS m) (tabS m)->TabS (inS (m++l)) (tabS (m++l)):=by
  intro l;induction l with
  |nil=>intro m h;rwa [a0p]
  |cons k l ih=>
   intro m h
   have E:TabS (inS (m++[k])) (tabS (m++[k])):=by
    rw[tabS_snoc];have:=h.upd k (.bool true);rwa [show updS (inS m) k (.bool true)=inS (m++[k]) from funext fun x=>by
     unfold updS inS;by_cases A:x=k
     ·subst A;simp
     simp[A]]at this
   have:=ih (m++[k]) E
   rwa [a0a]at this
 exact key l [] TabS.nil
section
variable {P:Program} {ρ:Operand->Value} {d:Option Tmp} {ty:TypeId} {pos:String} {af:Array Edge} {gd:Option (Nat×Bool)} {B:Base} {F:Fz} {H:Heap} {L R:List Fp}
theorem rs_mapN{t:TypeId}(hs:HS B F H L R): ∃r:Rs,AP P ρ ⟨d,.makeMap t none,ty,pos,af,gd⟩ H (.val r.v,r.H)/\(∃b,r.v= .map (some b)/\HS B F r.H (L++[tabB b []]) R/\Wr H r.H []):=
 ⟨⟨_,_,[]⟩,⟨rfl⟩,_,rfl,hs.push _,.nil fun b hb=>by simpa using hb⟩
theorem ap_lookN{t E A:TypeId}{m O:Operand}{q b:Nat}{l:List (List UInt8)}{k:List UInt8}{i:TypeInfo}(hs:HS B F H L R)(V:L[q]?=some (tabB b l))(U:ρ m= .map (some b))(T:ρ O= .string ⟨⟨k⟩⟩)(Y:P.underlying t=some (.map E A))(hd:P.underlying E=some .string)(hi:P.info? A=some i)(Z:i.zero=some (.bool false)):
  AP P ρ ⟨d,.lookup t m O false,ty,pos,af,gd⟩ H (.val (.bool (decide (k∈l))),H):=by
 have:=ap_lookS (P:=P) (ρ:=ρ) (d:=d) (ty:=ty) (pos:=pos) (af:=af) (gd:=gd) (ok:=false) (hs.get V (a0E.2 rfl)) (tabS_ok l) U T Y hd hi Z rfl
 rwa [show(bif false then(.tuple #[(inS l k).getD (.bool false),.bool (inS l k).isSome]:Value) else(inS l k).getD (.bool false))= .bool (decide (k∈l)) by
  unfold inS;by_cases h:k∈l<;>simp[h]]at this
theorem rs_updN{t Y Z:TypeId}{m E O:Operand}{q b:Nat}{l:List (List UInt8)}{k:List UInt8}(hs:HS B F H L R)(A:L[q]?=some (tabB b l))(hm:ρ m= .map (some b))(hk:ρ E= .string ⟨⟨k⟩⟩)(hv:ρ O= .bool true)(ht:P.underlying t=some (.map Y Z))(hd:P.underlying Y=some .string):
  ∃r:Rs,AP P ρ ⟨d,.mapUpdate t m E O,ty,pos,af,gd⟩ H (.skip,r.H)/\(HS B F r.H (L.set q (tabB b (l++[k]))) R/\Wr H r.H [b]):=by
 have hg:=hs.get A (a0E.2 rfl)
 have U:=hs.callOwn A
 have T:=U.put (i:=0) (o':= .tab (cC (.string ⟨⟨k⟩⟩) (.bool true) (tabS l))) rfl
 have h4:=hs.backOwn (M:=[]) A rfl (fun b hb=>hb) T
 refine⟨⟨.bool true,H.put b (.tab (cC (.string ⟨⟨k⟩⟩) (.bool true) (tabS l))),[]⟩,⟨?_⟩,by unfold tabB;rw[tabS_snoc];simpa using h4,fun b hb=>T.log b hb⟩
 show osk (dW P t (ρ m) (ρ E) (ρ O) H)=_
 have V:bB .string (.string ⟨⟨k⟩⟩)=true:=rfl
 unfold dW
 simp only[ht,hm,hk,hv,hd,hg,V,(tabS_ok l).keys,a10,cond_true]
 rfl
end
def FzT(F:Fz)(b:Nat)(l:List (List UInt8)):Prop:=F b=some (.tab (tabS l))
section
variable {P:Program} {B:Base} {F F':Fz} {H:Heap} {L R:List Fp} {b:Nat} {l:List (List UInt8)}
theorem FzT.mono(h:FzT F b l)(A:Fz.le F F'):FzT F' b l:=A _ _ h
theorem HS.frt(hs:HS B F H L R){i:Nat}(h:L[i]?=some (tabB b l)): ∃F',Fz.le F F'/\HS B F' H (L.set i []) R/\FzT F' b l:=by obtain⟨F',A,E,O⟩:=hs.freeze h;exact⟨F',A,E,O _ _ (a0E.2 rfl)⟩
theorem FzT.look(h:FzT F b l)(hs:HS B F H L R){t E A:TypeId}{k:List UInt8}{i:TypeInfo}(O:P.underlying t=some (.map E A))(hd:P.underlying E=some .string)(hi:P.info? A=some i)(T:i.zero=some (.bool false)):
  cP P t (.map (some b)) (.string ⟨⟨k⟩⟩) false H=some (.bool (decide (k∈l))):=by
 rw[lookS (hs.fz _ _ h).1 (tabS_ok l) O hd hi T rfl false]
 unfold inS;by_cases h:k∈l<;>simp[h]
end
def tabK(l:List (List UInt8×Int)):List (Value×Value):=l.foldl (fun es k=>cC (.string ⟨⟨k.1⟩⟩) (.int .i64 k.2) es) []
def tabJ(b:Nat)(l:List (List UInt8×Int)):Fp:=[(b,.tab (tabK l))]
def gC(l:List (List UInt8×Int))(k:List UInt8):Option Int:=l.foldl (fun r e=>if k=e.1 then some e.2 else r) none
def inK(l:List (List UInt8×Int))(k:List UInt8):Option Value:=(gC l k).map (.int .i64)
theorem tabK_snoc(l:List (List UInt8×Int))(e:List UInt8×Int):tabK (l++[e])=cC (.string ⟨⟨e.1⟩⟩) (.int .i64 e.2) (tabK l):=by unfold tabK;rw[a1H];rfl
theorem lasK_snoc(l:List (List UInt8×Int))(e:List UInt8×Int)(k:List UInt8):gC (l++[e]) k=if k=e.1 then some e.2 else gC l k:=by unfold gC;rw[a1H];rfl
theorem tabK_ok(l:List (List UInt8×Int)):TabS (inK l) (tabK l):=by
 have key: ∀(l m:List (List UInt8×Int)),TabS (inK m) (tabK m)->TabS (inK (m++l)) (tabK (m++l)):=by
  intro l;induction l with
  |nil=>intro m h;rwa [a0p]
  |cons k l ih=>
   intro m h
   have E:TabS (inK (m++[k])) (tabK (m++[k])):=by
    rw[tabK_snoc];have:=h.upd k.1 (.int .i64 k.2);rwa [show updS (inK m) k.1 (.int .i64 k.2)=inK (m++[k]) from funext fun x=>by
     unfold updS inK;rw[lasK_snoc];by_cases A:x=k.1
     ·rw[if_pos A,if_pos A];rfl
     rw[if_neg A,if_neg A]]at this
   have:=ih (m++[k]) E
   rwa [a0a]at this
 exact key l [] TabS.nil
section
variable {P:Program} {ρ:Operand->Value} {d:Option Tmp} {ty:TypeId} {pos:String} {af:Array Edge} {gd:Option (Nat×Bool)} {B:Base} {F F':Fz} {H:Heap} {L R:List Fp} {b:Nat} {l:List (List UInt8×Int)} {k:List UInt8}
theorem rs_mapK{t:TypeId}(hs:HS B F H L R): ∃r:Rs,AP P ρ ⟨d,.makeMap t none,ty,pos,af,gd⟩ H (.val r.v,r.H)/\(∃b,r.v= .map (some b)/\HS B F r.H (L++[tabJ b []]) R/\Wr H r.H []):=
 ⟨⟨_,_,[]⟩,⟨rfl⟩,_,rfl,hs.push _,.nil fun b hb=>by simpa using hb⟩
theorem rs_updK{t Y Z:TypeId}{m E O:Operand}{q:Nat}{w:Int}(hs:HS B F H L R)(A:L[q]?=some (tabJ b l))(hm:ρ m= .map (some b))(hk:ρ E= .string ⟨⟨k⟩⟩)(hv:ρ O= .int .i64 w)(ht:P.underlying t=some (.map Y Z))(hd:P.underlying Y=some .string):
  ∃r:Rs,AP P ρ ⟨d,.mapUpdate t m E O,ty,pos,af,gd⟩ H (.skip,r.H)/\(HS B F r.H (L.set q (tabJ b (l++[(k,w)]))) R/\Wr H r.H [b]):=by
 have hg:=hs.get A (a0E.2 rfl)
 have U:=hs.callOwn A
 have T:=U.put (i:=0) (o':= .tab (cC (.string ⟨⟨k⟩⟩) (.int .i64 w) (tabK l))) rfl
 have h4:=hs.backOwn (M:=[]) A rfl (fun b hb=>hb) T
 refine⟨⟨.bool true,H.put b (.tab (cC (.string ⟨⟨k⟩⟩) (.int .i64 w) (tabK l))),[]⟩,⟨?_⟩,by unfold tabJ;rw[tabK_snoc];simpa using h4,fun b hb=>T.log b hb⟩
 show osk (dW P t (ρ m) (ρ E) (ρ O) H)=_
 have V:bB .string (.string ⟨⟨k⟩⟩)=true:=rfl
 unfold dW
 simp only[ht,hm,hk,hv,hd,hg,V,(tabK_ok l).keys,a10,cond_true]
 rfl
def FzK(F:Fz)(b:Nat)(l:List (List UInt8×Int)):Prop:=F b=some (.tab (tabK l))
theorem FzK.mono(h:FzK F b l)(A:Fz.le F F'):FzK F' b l:=A _ _ h
theorem HS.frk(hs:HS B F H L R){i:Nat}(h:L[i]?=some (tabJ b l)): ∃F',Fz.le F F'/\HS B F' H (L.set i []) R/\FzK F' b l:=by obtain⟨F',A,E,O⟩:=hs.freeze h;exact⟨F',A,E,O _ _ (a0E.2 rfl)⟩
theorem FzK.look{t E A:TypeId}{i:TypeInfo}(h:FzK F b l)(hs:HS B F H L R)(O:P.underlying t=some (.map E A))(hd:P.underlying E=some .string)(hi:P.info? A=some i)(T:i.zero=some (.int .i64 0)):
  cP P t (.map (some b)) (.string ⟨⟨k⟩⟩) true H=some (.tuple #[.int .i64 ((gC l k).getD 0),.bool (gC l k).isSome]):=by
 rw[lookS (hs.fz _ _ h).1 (tabK_ok l) O hd hi T rfl true]
 unfold inK;cases gC l k<;>rfl
end
end Go.R
end
noncomputable section
set_option linter.unusedVariables false
namespace Go.R
open Go
theorem RL.ofB{F:Fz}: ∀l:List UInt8,RL F (l.map fun c=> .int .u8 c.toNat) l
 | []=>rfl
 |c::l=>⟨[.int .u8 c.toNat],_,rfl,rfl,RL.ofB l⟩
theorem RL.lowB{F F':Fz}: ∀{l:List UInt8} {cs:List Value},RL F cs l->RL F' cs l
 | [],_,h=>h
 |_::_,_,⟨c,r,e,h1,h2⟩=>⟨c,r,e,h1,RL.lowB h2⟩
theorem OS.low{F F':Fz}{v:Value}{l:List UInt8}{p:Fp}(h:OS F v l p):OS F' v l p:=by
 rcases h with h|⟨b,off,k,cs,opn,h1,h2,cs',opn',ro,h3,h4,h5,h6,h7⟩
 ·exact .inl h
 exact .inr ⟨b,off,k,cs,opn,h1,h2,cs',opn',ro,h3,h4,h5,h6.lowB,h7⟩
section
variable {P:Program} {ρ:Operand->Value} {d:Option Tmp} {ty:TypeId} {pos:String} {af:Array Edge} {gd:Option (Nat×Bool)} {B:Base} {F:Fz} {H:Heap} {L R:List Fp} {v:Value} {l:List UInt8} {p:Fp}
theorem rs_appS{s0 x0:Operand}{st O e:TypeId}{l2:List UInt8}{q A:Nat}{z:List Value}(h:OS F v l p)(hs:HS B F H L R)(Y:L[q]?=some p)(hx:ρ s0=v)(hy:ρ x0= .string ⟨⟨l2⟩⟩)(ht:P.underlying st=some (.slice e))(Z:P.underlying O=some .string)
  (hz:di P e=some 1) (V:gg P e=some A) (ar:dz P e=some z) (an:Nat.beq (iA z) 1=true) (U:Nat.ble A 4096=true) (E:l.length+l2.length<=2147483648):
  ∃r:Rs,AP P ρ ⟨d,.call ⟨.builtin .append, #[s0,x0], #[st,O]⟩,ty,pos,af,gd⟩ H (.val r.v,r.H)/\(∃a k,r.v= .slice a (l++l2).length k/\OS F (.slice a (l++l2).length k) (l++l2) r.p/\HS B F r.H (L.set q r.p) R/\Wr H r.H (p.map Prod.fst)):=by
 have hc:=hs.callOwn Y
 have al:di P e=some (Rp.sz UInt8):=hz
 obtain⟨a,k,H1,p',h1,h2,T⟩:=os_append (P:=P) (types:= #[st,O]) (x:= .string ⟨⟨l2⟩⟩) (l2:=l2) (new:=l2.map fun c=> .int .u8 c.toNat) h hc (i:=0) rfl rfl rfl ht Z (by intro k hk;cases hk) al V ar an U rfl
  (by show some (iA l2)=_;rw[bA]) (by show some (eW _ (fN l2 l2.length))=_;rw[bL,a0W,iL]) (RL.ofB l2) E
 have h4:=hs.backOwn (M:=[]) Y rfl (fun b hb=>hb) T
 refine⟨⟨_,H1,p'⟩,ap_app hx hy h1,a,k,rfl,h2,by simpa using h4,fun b hb=>T.log b hb⟩
end
structure GdT where
 b:List UInt8
 a:Option Addr
 k:Nat
 p:Fp
 ok:OS (fun _=>none) (.slice a b.length k) b p
theorem GdT.up(w:GdT){F:Fz}:OS F (.slice w.a w.b.length w.k) w.b w.p:=w.ok.low
def psG(g:Nat)(w:GdT):Fp:=(g,.cells [.slice w.a w.b.length w.k] none false)::w.p
section
variable {B:Base} {F:Fz} {H:Heap} {L R:List Fp}
end
end Go.R
end
noncomputable section
namespace Go.R
section
variable {B:Base} {F F':Fz} {H:Heap} {L R:List Fp}
end
structure Hd where
 a:Option Addr
 n:Nat
 k:Nat
instance :Inhabited Hd:=⟨⟨none,0,0⟩⟩
def Hd.v(h:Hd):Value:= .slice h.a h.n h.k
instance :Rp Hd where
 sz:=1
 rep _ cs h:=cs=[.slice h.a h.n h.k]
 len:=by rintro F cs x rfl;rfl
 one:=by rintro F cs x rfl;rfl
 mono:=by intro F F' cs x _ h;exact h
def FAM{ι β:Type}(Ch:Fz->ι->β->Fp->Prop)(F:Fz):List ι->List β->Fp->Prop
 | [],[],p=>p=[]
 |h::hs,x::xs,p=> ∃q r,p=q++r/\Ch F h x q/\FAM Ch F hs xs r
 |_,_,_=>False
section
variable {ι β:Type} {Ch:Fz->ι->β->Fp->Prop} {F F':Fz}
end
section
variable {α:Type} [Rp α] {F F':Fz}
class Ri(α:Type) [Rp α]:Prop where
 ind: ∀{F F':Fz} {cs:List Value} {x:α},Rp.rep F cs x->Rp.rep F' cs x
instance :Ri Int:=⟨fun h=>h⟩
instance :Ri Bool:=⟨fun h=>h⟩
instance :Ri Str:=⟨fun h=>h⟩
instance :Ri U64:=⟨fun h=>h⟩
instance :Ri UInt8:=⟨fun h=>h⟩
instance :Ri Hd:=⟨fun h=>h⟩
end
class HasHd(ι:Type) where
 hd:ι->Hd
instance :HasHd Hd:=⟨fun h=>h⟩
def OH{ι α:Type} [HasHd ι] [Rp α](F:Fz)(h:ι)(l:List α)(p:Fp):Prop:=OS F (HasHd.hd h).v l p
abbrev SF{ι α:Type} [HasHd ι] [Rp α](F:Fz)(hs:List ι)(ls:List (List α))(p:Fp):Prop:=FAM (OH (ι:=ι) (α:=α)) F hs ls p
section
variable {ι α:Type} [HasHd ι] [Rp α] {F F':Fz} {B:Base} {H:Heap} {L R:List Fp} {hs:List ι} {ls:List (List α)} {p:Fp}
def SB(F:Fz)(hs:List ι)(ls:List (List α))(i:Nat)(T:Fp):Prop:= ∀F',F.le F'->∀A l' O,OH F' A l' O->∃E,E.Perm (T++O)/\SF F' (hs.set i A) (ls.set i l') E
end
section
variable {ι α:Type} [HasHd ι] [Inhabited ι] [Rp α] {F F':Fz} {B:Base} {H:Heap} {L R:List Fp} {hs:List ι} {ls:List (List α)} {p:Fp}
end
section
variable {α:Type} [Rp α] {F F':Fz} {B:Base} {H:Heap} {L R:List Fp}
end
end Go.R
end
noncomputable section
namespace Go.R
section
variable {α:Type} [Rp α] {P:Program} {ρ:Operand->Value} {d:Option Tmp} {ty:TypeId} {pos:String} {af:Array Edge} {gd:Option (Nat×Bool)} {B:Base} {F:Fz} {H:Heap} {L R:List Fp} {v:Value} {l:List α} {p:Fp}
def At(α:Type) [Rp α](v:Value)(n i:Nat)(a:Option Addr):Prop:=n<=i\/a=some ⟨sB v,sO v+i *Rp.sz α,none⟩
def cpL(l:List α)(i:Nat)(l2:List α):List α:=l.take i++(l2.take (l.length-i)++l.drop (i+min l2.length (l.length-i)))
end
end Go.R
end
noncomputable section
namespace Go.R
def tb(a:Int)(i:Nat):Bool:=a.toNat.testBit i
abbrev u64r(a:Int):Prop:=0<=a/\a<18446744073709551616
def bitOf(s:List U64)(n:Nat):Bool:=tb (s.getD (n/64) default).n (n%64)
def uniB(s t:List U64)(k:Nat)(w:List U64):Prop:=w.length=s.length/\∀i,bitOf w i=(bitOf s i||(decide (i<64 *k)&&bitOf t i))
def lstK(s:List U64)(m:Nat):List Int:=List.map (fun i:Nat=>(i:Int)) ((List.range m).filter (bitOf s))
def lstV(s:List U64):List Int:=lstK s (64 *s.length)
end Go.R
end
noncomputable section
namespace Go.R
open Go.RowKit Go.WideShapes Go.ChangeShapes
section
variable {X:Type} {enc:TypeId×Value->X} {P:Program} {w:World} {μ:Emb} {H:Heap}
def EmC(enc:TypeId×Value->X)(P:Program)(w:World)(t:TypeId)(α:Type) [Rp α](B:DataW X->α->Prop):Prop:=
 ∀{μ:Emb} {H:Heap} {n:Nat} {cs:List Value} {x:DataW X×List MemPlace},Em w μ H->DataW.trod enc P w 0 (fun _=>true) true n t cs=some x->
  ∃μ' H' c y,Em w μ' H'/\EmLe μ H μ' H'/\LRel μ' c cs/\Rp.rep H'.get c (y:α)/\B x.1 y
def LB{α:Type}(B:DataW X->α->Prop)(d:DataW X)(l:List α):Prop:=
 l.length<=maxLen/\∃(D:Nat->DataW X) (rest:List (DataW X)),(d= .slice ((List.range l.length).map D) rest\/(d= .nil/\l=[]))/\∀i y,l[i]?=some y->B (D i) y
end
end Go.R
end
noncomputable section
namespace Go.R
open Go.ChangeShapes
section
variable {H:Type} {enc:TypeId×Value->H}
end
end Go.R
end
noncomputable section
set_option linter.unusedVariables false
namespace Go.R
structure Eqs(s s':St):Prop where
 t:cy s.tmps=cy s'.tmps
 n:s.size=s'.size
 h:s.heap=s'.heap
def CgS(f g:St->Option (Ex×St)):Prop:= ∀s E,Eqs s E->∀e r,f s=some (e,r)->∃A,g E=some (e,A)/\Eqs r A
section
variable {P:Program} {G:Nat} {cf:ck} {ops:Array Oper}
end
def tabT(args:List Value):List (Nat×Value)->Tr Value
 | []=>eS 0 args .nil
 |(i,v)::l=>lset (tabT args l) i v
def endsTrue(d:Nat)(r:Option (Ex×St)):Bool:=match r with
 |some (.normal,s)=>(match cy s.tmps d with| .bool b=>b|_=>false)
 |some (.ret,s)=>(match cy s.tmps d with| .bool b=>b|_=>false)
 |_=>false
end Go.R
end
noncomputable section
set_option linter.unusedVariables false
namespace Go.R
structure PtrT where
 b:Nat
 deriving Inhabited
instance :Rp PtrT where
 sz:=1
 rep F cs x:=cs=[.pointer (some ⟨x.b,0,none⟩)]
 len:=by rintro F cs x rfl;rfl
 one:=by rintro F cs x rfl;rfl
 mono:=by intro F F' cs x _ h;exact h
section
variable {B:Base} {F F':Fz} {H:Heap} {L R:List Fp}
end
section
variable {P:Program} {G:Nat} {K:bp} {sz:Nat} {Q:Ex->Fn->Heap->Prop} {ops:Array Oper} {D:List (Nat×ID)} {i:Nat} {os:List Oper} {k:List Fr} {f:Fn} {H:Heap}
end
section
variable {ι β:Type} {Ch:Fz->ι->β->Fp->Prop} {F:Fz}
end
end Go.R
end
noncomputable section
set_option linter.unusedVariables false
namespace Go.R
open Go
theorem RL.imp{α:Type}{i j:Rp α}{F:Fz}(h: ∀cs x,i.rep F cs x->j.rep F cs x): ∀{l:List α} {cs:List Value}, @RL α i F cs l-> @RL α j F cs l
 | [],_,k=>k
 |_::_,_,⟨c,r,e,h1,h2⟩=>⟨c,r,e,h _ _ h1,RL.imp h h2⟩
theorem SR.imp{α:Type}{i j:Rp α}{F:Fz}(A:i.sz=j.sz)(h: ∀cs x,i.rep F cs x->j.rep F cs x){v:Value}{l:List α}(k: @SR α i F v l): @SR α j F v l:=by
 rcases k with k|⟨b,off,n,o,h1,h2,cs,opn,ro,h3,h4,h5,h6,h7⟩
 ·exact .inl k
 exact .inr ⟨b,off,n,o,h1,h2,cs,opn,ro,h3,by rw[←A];exact h4,h5,by rw[←A];exact RL.imp h h6,by rw[←A];exact h7⟩
structure Lv(α:Type)(n:Nat) where
 r:Fz->List Value->α->Prop
 len: ∀{F:Fz} {cs:List Value} {x:α},r F cs x->cs.length=n
 one: ∀{F:Fz} {cs:List Value} {x:α},r F cs x->allL Value.oneCell' cs=true
 mono: ∀{F F':Fz} {cs:List Value} {x:α},F.le F'->r F cs x->r F' cs x
abbrev Lv.rp{α:Type}{n:Nat}(r:Lv α n):Rp α:=⟨n,r.r,r.len,r.one,r.mono⟩
abbrev rpOf{α:Type}{n:Nat}(r:Nat->Lv α n):Rp α:=⟨n,fun F cs x=> ∃d,(r d).r F cs x,fun⟨d,h⟩=>(r d).len h,fun⟨d,h⟩=>(r d).one h,fun hF ⟨d,h⟩=>⟨d,(r d).mono hF h⟩⟩
theorem RL.unif{α:Type}{n:Nat}{r:Nat->Lv α n}{F:Fz}(A: ∀d cs x,(r d).r F cs x->(r (d+1)).r F cs x): ∀{l:List α} {cs:List Value}, @RL α (rpOf r) F cs l->∃d,∀e,d<=e-> @RL α (r e).rp F cs l
 | [],_,h=>⟨0,fun _ _=>h⟩
 |x::l,_,⟨c,t,e,⟨d,h1⟩,h2⟩=>by
  obtain⟨E,O⟩:=RL.unif A h2;have up: ∀e,d<=e->(r e).r F c x:=fun e T=>by
   induction e with
   |zero=>
    have:d=0:=by omega
    subst this;exact h1
   |succ e ih=>
    rcases a0k e d with h|h
    ·have:d=e+1:=by omega
     subst this;exact h1
    exact A _ _ _ (ih h)
  exact⟨max d E,fun q U=>⟨c,t,e,up q (by omega),O q (by omega)⟩⟩
theorem SR.unif{α:Type}{n:Nat}{r:Nat->Lv α n}{F:Fz}(O: ∀d cs x,(r d).r F cs x->(r (d+1)).r F cs x){v:Value}{l:List α}(k: @SR α (rpOf r) F v l): ∃d,∀e,d<=e-> @SR α (r e).rp F v l:=by
 rcases k with k|⟨b,off,n,o,h1,h2,cs,opn,ro,h3,h4,h5,h6,h7⟩
 ·exact⟨0,fun _ _=> .inl k⟩
 obtain⟨d,A⟩:=RL.unif O h6;exact⟨d,fun e E=> .inr ⟨b,off,n,o,h1,h2,cs,opn,ro,h3,h4,h5,A e E,h7⟩⟩
end Go.R
end
namespace Go.R
abbrev iI(n:Int):Value:= .int .i64 n
abbrev pT(b o:Nat):Value:= .pointer (some ⟨b,o,none⟩)
abbrev fP(b:Nat)(l:List Value):Fp:=[(b,.cells l none false)]
abbrev sL(a:Option Addr)(n k:Nat):Value:= .slice a n k
abbrev aG(l:List Value):Value:= .agg ⟨l⟩
theorem fT{a b c:Fz}(h:a.le b)(k:b.le c):a.le c:=Fz.le_trans h k
theorem fR{a:Fz}:a.le a:=Fz.le_refl a
theorem wR{P:Program}{G:Nat}{K:bp}{sz:Nat}{Q:Ex->Fn->Heap->Prop}{f:Fn}{H:Heap}{c1:Code}{k k1:List Fr}(n:Nat){id:Nat}{ops:Array Oper}(hs:List (Nat×Hint))(lo hi:Nat)(ex:List Nat)(l:List (Nat×Value)){p:Prop}(O:p)(A:foc n .skip k=(c1,k1))(E: ∀g,WK P G K sz c1 k1 (kC (hav lo hi ex g f) l) H Q)(h:fU P G (W0 P G K H) sz ops f 0 ops.toList hs lo hi ex (eW Prod.fst l)=some (l,p):=by kernel_rfl):WK P G K sz (.region id ops false) k f H Q:=wr n hs lo hi ex l O h A E
theorem wRD{P:Program}{G:Nat}{K:bp}{sz:Nat}{Q:Ex->Fn->Heap->Prop}{f:Fn}{H:Heap}{c1:Code}{k k1:List Fr}(n:Nat){id:Nat}{ops:Array Oper}(hs:List (Nat×Hint))(lo hi:Nat)(ex:List Nat)(l:List (Nat×Value)){p:Prop}(O:p)(T:(jV ops&&P.follows .mixedOrders)=true)(A:foc n .skip k=(c1,k1))(E: ∀g,WK P G K sz c1 k1 (kC (hav lo hi ex g f) l) H Q)(h:fU P G (W0 P G K {H with log:=[]}) sz ops f 0 ops.toList hs lo hi ex (eW Prod.fst l)=some (l,p):=by kernel_rfl):WK P G K sz (.region id ops true) k f H Q:=wrD n hs lo hi ex l O T h A E
theorem wRo{P:Program}{G:Nat}{K:bp}{sz:Nat}{Q:Ex->Fn->Heap->Prop}{f:Fn}{H:Heap}{k:List Fr}(n i:Nat){ops:Array Oper}{os A:List Oper}(hs:List (Nat×Hint))(lo hi:Nat)(ex:List Nat)(l:List (Nat×Value)){p:Prop}(T:p)(E:gy os n=A)(O: ∀g,WO P G K sz ops A k (kC (hav lo hi ex g f) l) H Q)(h:fU P G (W0 P G K H) sz ops f i (fN os n) hs lo hi ex (eW Prod.fst l)=some (l,p):=by kernel_rfl):WO P G K sz ops os k f H Q:=wro n i hs lo hi ex l T h E O
theorem wT{P:Program}{G:Nat}{K:bp}{sz:Nat}{Q:Ex->Fn->Heap->Prop}{f:Fn}{H:Heap}{c1:Code}{k k1:List Fr}(n:Nat){id:Nat}{ops:Array Oper}(hs:List (Nat×Hint))(lo hi:Nat)(ex:List Nat)(l:List (Nat×Value))(A:foc n .skip k=(c1,k1))(E: ∀g,WK P G K sz c1 k1 (kC (hav lo hi ex g f) l) H Q)(h:fU P G (W0 P G K H) sz ops f 0 ops.toList hs lo hi ex (eW Prod.fst l)=some (l,True):=by kernel_rfl):WK P G K sz (.region id ops false) k f H Q:=wR n hs lo hi ex l trivial A E h
theorem wU{P:Program}{G:Nat}{K:bp}{sz:Nat}{Q:Ex->Fn->Heap->Prop}{f:Fn}{H:Heap}{c1:Code}{k k1:List Fr}(n:Nat){id:Nat}{ops:Array Oper}(hs:List (Nat×Hint))(lo hi:Nat)(ex:List Nat)(l:List (Nat×Value)){p:Prop}(O:p)(A:foc n .skip k=(c1,k1))(E: ∀g,WK P G K sz c1 k1 (kC (hav lo hi ex g f) l) H Q)(h:fU P G (W0 P G K H) sz ops f 0 ops.toList hs lo hi ex (eW Prod.fst l)=some (l,p/\True):=by kernel_rfl):WK P G K sz (.region id ops false) k f H Q:=wR n hs lo hi ex l ⟨O,trivial⟩ A E h
theorem wTo{P:Program}{G:Nat}{K:bp}{sz:Nat}{Q:Ex->Fn->Heap->Prop}{f:Fn}{H:Heap}{k:List Fr}(n i:Nat){ops:Array Oper}{os A:List Oper}(hs:List (Nat×Hint))(lo hi:Nat)(ex:List Nat)(l:List (Nat×Value))(E:gy os n=A)(O: ∀g,WO P G K sz ops A k (kC (hav lo hi ex g f) l) H Q)(h:fU P G (W0 P G K H) sz ops f i (fN os n) hs lo hi ex (eW Prod.fst l)=some (l,True):=by kernel_rfl):WO P G K sz ops os k f H Q:=wRo n i hs lo hi ex l trivial E O h
theorem wUo{P:Program}{G:Nat}{K:bp}{sz:Nat}{Q:Ex->Fn->Heap->Prop}{f:Fn}{H:Heap}{k:List Fr}(n i:Nat){ops:Array Oper}{os A:List Oper}(hs:List (Nat×Hint))(lo hi:Nat)(ex:List Nat)(l:List (Nat×Value)){p:Prop}(T:p)(E:gy os n=A)(O: ∀g,WO P G K sz ops A k (kC (hav lo hi ex g f) l) H Q)(h:fU P G (W0 P G K H) sz ops f i (fN os n) hs lo hi ex (eW Prod.fst l)=some (l,p/\True):=by kernel_rfl):WO P G K sz ops os k f H Q:=wRo n i hs lo hi ex l ⟨T,trivial⟩ E O h
end Go.R
