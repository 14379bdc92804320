/-
Symbolic runs by computation, data, the laid table.
-/
import Derived.Test.YtkpgbdkkgcdhmaaGreatZPRC
import Derived.Laws.Bits128
import Derived.OpenShut
import Derived.ReadAgain
import Derived.Test.YtkpgbdkkgcdhmaaGreatZPRB
import Derived.Deep.Slices
import Derived.JoinedCond
import Derived.LaidLaws
import Derived.KernelRfl
noncomputable section
namespace Go.R
section
variable {P:Program} {f:Fn} {H:Heap} {rs:List ResultVar} {l:List Value}
theorem rN:cg P f H []=some []:=rfl
theorem rT{t:Tmp}{v:Value}(A:f t=v)(h:cg P f H rs=some l):cg P f H (.tmp t::rs)=some (v::l):=by unfold cg;rw[h,A]
theorem rC{a:Tmp}{t:TypeId}{p:Addr}{v:Value}(A:f a= .pointer (some p))(E:H.loadV P t p=some v)(h:cg P f H rs=some l):cg P f H (.cell a t::rs)=some (v::l):=by unfold cg;rw[A];simp only[E,h]
theorem dy{t:TypeId}{b n:Nat}{cs:List Value}(O:aggOf P t=some true)(hs:cT P t=some n)(hc:HC H.get b 0 cs)(U:cs.length=n):H.loadV P t ⟨b,0,none⟩=some (.agg ⟨cs⟩):=by obtain⟨all,Z,ro,E,A⟩:=hc;unfold Heap.loadV;rw[O];simp only[hs];unfold Heap.loadN;rw[a0I]at A;subst U;simp only[E,bu,bE,be,a0I,A,a0Y,cond_true]
end
section
variable {α:Type} [Rp α] {P:Program} {ρ:Operand->Value} {d:Option Tmp} {ty:TypeId} {pos:String} {af:Array Edge} {gd:Option (Nat×Bool)} {B:Base} {F:Fz} {H:Heap} {L R:List Fp} {v:Value} {l:List α} {p:Fp}
theorem ap_boolNe{t yt:TypeId}{x y:Operand}{a b:Bool}(E:ρ x= .bool a)(O:ρ y= .bool b)(A: ∀a b:Bool,aB P (el .neq t x y a b)=some (.value (.bool (a !=b)))):AP P ρ ⟨d,.binOp .neq t x y yt,ty,pos,af,gd⟩ H (.val (.bool (a !=b)),H):=by
 refine⟨?_⟩;show aBin P ρ _ .neq t (ρ x) y H=_;rw[E];show bA P ρ _ H=_;unfold bA;have U:((Op.binOp .neq t x y yt).operands.toList.all fun x=>jr (ρ x))=true:=by simp[Op.operands,E,O,jr,dx]
 simp only[U,cond_true];have Z:aB P (execOp ρ ⟨d,.binOp .neq t x y yt,ty,pos,af,gd⟩)=some (.value (.bool (a !=b))):=by rw[←A a b];unfold execOp el;simp only[E,O]
 rw[Z];rfl
theorem mG: ∀{l:List UInt8} {cs:List Value} {F:Fz},RL F cs l->bR cs=some l
 | [],cs,F,h=>by simp only[RL]at h;subst h;rfl
 |c::l,cs,F,h=>by obtain⟨a,r,rfl,rfl,A⟩:=h;show(match bR r with|some r=>some (UInt8.ofNat (c.toNat:Int).toNat::r)|none=>none)=_;rw[mG A];simp
theorem jR{s t e:TypeId}{x:Operand}{l:List UInt8}(hx:ρ x=v)(hs:P.underlying s=some (.slice e))(U:P.underlying t=some .string)(E:P.underlying e=some (.int .u8))(h:Sv F H.get v l):
  AP P ρ ⟨d,.convert s t x,ty,pos,af,gd⟩ H (.val (.string ⟨⟨l⟩⟩),H):=by
 refine⟨?_⟩
 show fc P ρ _ s t (ρ x) H=_
 rw[hx]
 rcases h with⟨rfl,rfl⟩|⟨b,off,k,o,rfl,g1,cs,aA,ro,rfl,g2,g3,A,g5⟩
 ·show ovl (cF P s t none 0 H) H=_;unfold cF;simp only[hs,U,E];rfl
 show ovl (cF P s t (some ⟨b,off,none⟩) l.length H) H=_
 unfold cF
 simp only[hs,U,E]
 cases hb:Nat.beq l.length 0 with
 |true=>
  have:l=[]:=a0j (a07 hb)
  subst this;rfl
 |false=>
  simp only[cond_false]
  have O:=A.length
  have Z:Rp.sz UInt8=1:=rfl
  rw[Z,Nat.mul_one]at O
  rw[Z,Nat.mul_one]at A
  have e1:H.loadN ⟨b,off,none⟩ l.length=some ((cs.drop off).take l.length):=by unfold Heap.loadN;simp only[g1,bu,bE,be];rw[O,a0Y];rfl
  simp only[e1,mG A];rfl
theorem OS.len'{F:Fz}{a:Option Addr}{n k:Nat}{l:List α}{p:Fp}(h:OS F (.slice a n k) l p):l.length=n:=by obtain⟨A,E,e⟩:=h.shape;injection e with _ e _;exact e.symm
theorem OS.norm{F:Fz}{a:Option Addr}{n k:Nat}{l:List α}{p:Fp}(h:OS F (.slice a n k) l p):OS F (.slice a l.length k) l p:=by rw[h.len'];exact h
theorem rs_arr{e:TypeId}{z:List Value}(A:List α){n:Nat}(hs:HS B F H L R)(Z:cw P e=some z)(E:RL F z A)(U:A.length=n):
  ∃r:Rs,AP P ρ ⟨d,.alloc e,ty,pos,af,gd⟩ H (.val r.v,r.H)/\(∃b,r.v= .pointer (some ⟨b,0,none⟩)/\OS F (.slice (some ⟨b,0,none⟩) n n) A r.p/\HS B F r.H (L++[r.p]) R/\Wr H r.H []/\∃cs,r.p=[(b,.cells cs none false)]):=by
 subst U
 refine⟨⟨_,_,[(H.next,.cells z none false)]⟩,ap_alloc Z,_,V,?_,hs.push _,.nil fun b O=>(by simpa using O),z,V⟩
 have:=E.length
 exact .inr ⟨H.next,0,_,z,none,V,V,_,_,_,V,fun _=>M,a08 _,by rw[a0I,←this,a0T];exact E,.inl V⟩
theorem ap_idxA{x i:Operand}{t e:TypeId}{ki:IntKind}{j:Int}{b n:Nat}(U:ρ x= .pointer (some ⟨b,0,none⟩))(hi:ρ i= .int ki j)(O:P.underlying t=some (.array n e))(Z:cT P e=some (Rp.sz α))(A:0<=j)(hj:j<n):
  AP P ρ ⟨d,.indexAddr t x i,ty,pos,af,gd⟩ H (.val (.pointer (some ⟨sB (.slice (some ⟨b,0,none⟩) n n),sO (.slice (some ⟨b,0,none⟩) n n)+j.toNat *Rp.sz α,none⟩)),H):=by
 refine⟨?_⟩
 obtain⟨m,rfl⟩:=a0K A
 show ovl (cu P t (ρ x) (ρ i)) H=_
 rw[U,hi]
 unfold cu
 rw[O]
 show ovl (match cT P e with|some sz=>bif Nat.ble (m+1) n then some (.pointer (some ⟨b,0+m *sz,none⟩)) else none|none=>none) H=_
 rw[Z]
 have E:Nat.ble (m+1) n=true:=a0t M
 simp only[E,cond_true]
 rfl
theorem rs_cutA{x:Operand}{lo hi:Option Operand}{t e:TypeId}{i j q b n:Nat}(h:OS F (.slice (some ⟨b,0,none⟩) n n) l p)(hs:HS B F H L R)(hq:L[q]?=some p)(hx:ρ x= .pointer (some ⟨b,0,none⟩))(ht:P.underlying t=some (.array n e))(hz:cT P e=some (Rp.sz α))
  (h1:bZ n (hi.map ρ)=some j) (h2:bZ 0 (lo.map ρ)=some i) (U:i<=j) (hj:j<=l.length) (ar: ∃cs,p=[(b,.cells cs none false)]):
  ∃r:Rs,AP P ρ ⟨d,.slice t x lo hi none,ty,pos,af,gd⟩ H (.val r.v,r.H)/\(∃a k,r.v= .slice a ((l.take j).drop i).length k/\r.H=H/\OS F (.slice a ((l.take j).drop i).length k) ((l.take j).drop i) p):=by
 have hn:=h.len'
 subst hn
 rcases h with⟨h0,_⟩|⟨b',off,k,cs,bf,h0,rfl,h5⟩
 ·cases h0
 injection h0 with e1 e2 e3
 injection e1 with e1
 injection e1 with e4 e5
 subst e4 e5 e3
 obtain⟨bb,O⟩:=ar
 simp only[List.cons.injEq,a04,AObj.cells.injEq,true_and,and_true]at O
 obtain⟨rfl,rfl⟩:=O
 have hg:=hs.get hq (a0L.2 V)
 have A:((l.take j).drop i).length=j-i:=by simp;omega
 have E:=nG (n:=l.length) (k:=l.length) h1 h2 U hj
 have Z: ∀w,bj P t (.pointer (some ⟨b,0,none⟩)) (lo.map ρ) (hi.map ρ) none H=some w->AP P ρ ⟨d,.slice t x lo hi none,ty,pos,af,gd⟩ H (.val w,H):=by intro w hw;refine⟨?_⟩;show ovl (bj P t (ρ x) (lo.map ρ) (hi.map ρ) (Option.map ρ none) H) H=_;rw[hx,a1K,hw];rfl
 cases hk:Nat.beq l.length i with
 |true=>
  have a1:=a07 hk
  refine⟨⟨_,H,[]⟩,Z (.slice (some ⟨b,0,none⟩) (j-i) (l.length-i)) ?_,_,_,by rw[A],V,.inr ⟨b,0,l.length-i,cs,none,V,V,?_⟩⟩
  ·unfold bj;simp only[ht,E,hz,hg,hk,cond_true]
  have e0:(l.take j).drop i=[]:=a0j (by rw[A];omega)
  rw[e0,←a1,a1Y]
  exact Sl_at0 h5
 |false=>
  refine⟨⟨_,H,[]⟩,Z (.slice (some ⟨b,0+i *Rp.sz α,none⟩) (j-i) (l.length-i)) ?_,_,_,by rw[A],V,.inr ⟨b,0+i *Rp.sz α,l.length-i,cs,none,V,V,Sl_cut h5 U hj⟩⟩
  unfold bj
  simp only[ht,E,hz,hg,hk,cond_false]
theorem rs_stA{t:TypeId}{Z x0:Operand}{j q off n b o:Nat}{w:Value}{y:α}(y':α){cl:List Value}(h:OS F v l p)(hs:HS B F H L R)(hq:L[q]?=some p)(ha:ρ Z= .pointer (some ⟨b,o,none⟩))(A:b=sB v)(ho:o=sO v+j *Rp.sz α+off)(hx:ρ x0=w)(hn:cT P t=some n)(hc:w.cells.toList=cl)(hl:Nat.beq cl.length n=true)
  (hy:l[j]?=some y) (h1:lQ Value.oneCell' cl=true) (hr: ∀cs,Rp.rep F cs y->off+cl.length<=cs.length/\Rp.rep F (aZ cs off cl) y') {E:Nat} (U: ∃cs,p=[(E,.cells cs none false)]):
  ∃r:Rs,AP P ρ ⟨d,.store t Z x0,ty,pos,af,gd⟩ H (.skip,r.H)/\(OS F v (l.set j y') r.p/\HS B F r.H (L.set q r.p) R/\Wr H r.H (p.map Prod.fst)/\∃cs,r.p=[(E,.cells cs none false)]):=by
 have ar:=hs.callOwn hq
 obtain⟨H1,p',g1,g2,g3,g5⟩:=os_st (d:=d) (ty:=ty) (pos:=pos) (af:=af) (gd:=gd) (q:=0) h ar V ha A ho hx hn hc hl hy h1 hr
 have h4:=hs.backOwn (b_:=[]) hq V (fun b A=>A) g3
 obtain⟨cs,ax⟩:=U
 obtain⟨al,O⟩:=g5 E cs none ax
 exact⟨⟨.bool true,H1,p'⟩,g1,g2,by simpa using h4,fun b A=>g3.log b A,al,O⟩
theorem ap_ixG{x i:Operand}{t:TypeId}{cs:Array Value}{w r:Value}(A:ρ x= .agg cs)(hi:ρ i=w)(h:aB P (Instr.index t (.agg cs) w)=some r):AP P ρ ⟨d,.index t x i,ty,pos,af,gd⟩ H (.val r,H):=by refine⟨?_⟩;show lF P t (ρ x) (ρ i) H=_;rw[A,hi];show lift P (Instr.index t (.agg cs) w) H=_;unfold lift;rw[h]
end
theorem u8_of{n:Nat}(h:n<256):(n:Int)=((UInt8.ofNat n).toNat:Int):=by rw[UInt8.toNat_ofNat'];omega
theorem u8r{n:Nat}(h:n<256):[Value.int .u8 (n:Int)]=[.int .u8 ((UInt8.ofNat n).toNat:Int)]:=by rw[←u8_of h]
theorem natsub{k:IntKind}{a b:Nat}(h:b<=a)(A:k.wrap ((a-b:Nat):Int)=((a-b:Nat):Int)):k.wrap ((a:Int)-(b:Int))=((a-b:Nat):Int):=by rw[←Int.ofNat_sub h];exact A
section
variable {α:Type} [Rp α] {P:Program} {ρ:Operand->Value} {d:Option Tmp} {ty:TypeId} {pos:String} {af:Array Edge} {gd:Option (Nat×Bool)} {B:Base} {F:Fz} {H:Heap} {L R:List Fp} {v:Value} {l:List α} {p:Fp} {t e:TypeId} {x:Operand} {i j q:Nat}
theorem rs_cutd{lo:Option Operand}(h:SR F v l)(hs:HS B F H L R)(U:ρ x=v)(O:P.underlying t=some (.slice e))(Z:cT P e=some (Rp.sz α))(E:bZ 0 (lo.map ρ)=some i)(A:i<=l.length):
  ∃r:Rs,AP P ρ ⟨d,.slice t x lo none none,ty,pos,af,gd⟩ H (.val r.v,r.H)/\(∃a k,r.v= .slice a (l.drop i).length k/\r.H=H/\SR F (.slice a (l.drop i).length k) (l.drop i)):=by
 have:=rs_cut (d:=d) (ty:=ty) (pos:=pos) (af:=af) (gd:=gd) (hi:=none) h hs U O Z optN0 E A (a08 _)
 rwa [a0q (a08 _)]at this
theorem rs_cutt{hi:Option Operand}(h:SR F v l)(hs:HS B F H L R)(U:ρ x=v)(O:P.underlying t=some (.slice e))(Z:cT P e=some (Rp.sz α))(A:bZ l.length (hi.map ρ)=some j)(E:j<=l.length):
  ∃r:Rs,AP P ρ ⟨d,.slice t x none hi none,ty,pos,af,gd⟩ H (.val r.v,r.H)/\(∃a k,r.v= .slice a (l.take j).length k/\r.H=H/\SR F (.slice a (l.take j).length k) (l.take j)):=by
 have:=rs_cut (d:=d) (ty:=ty) (pos:=pos) (af:=af) (gd:=gd) (lo:=none) h hs U O Z A optN0 (a0r _) E
 rwa [a0I]at this
end
end Go.R
end
noncomputable section
namespace Go.R
def kS(P:Program):List Field->Option (List (Nat×Nat))
 | []=>some []
 |f::fs=>match cT P f.type with
  |some n=>match kS P fs with
   |some l=>some ((f.offset,n)::l)
   |none=>none
  |none=>none
def fillL(A:Nat->Option (Nat×Nat)):List Value->List (Nat×Value)->Option (List Value)
 |cs,[]=>some cs
 |cs,(i,v)::r=>match A i with
  |some (off,n)=>bif Nat.beq (eG v.cells.toList) n&&Nat.ble (off+eG v.cells.toList) (eG cs) then fcL (aZ cs off v.cells.toList) fun cs=>fillL A cs r else none
  |none=>none
def bldL(P:Program)(t:TypeId)(ps:List (Nat×Value)):Option (List Value):=match P.underlying t with
 |some (.struct fs)=>match cw P t with
  |some z=>match kS P fs.toList with
   |some pl=>fillL (nth pl) z ps
   |none=>none
  |none=>none
 |_=>none
theorem kM: ∀(l:List Value) (s off:Nat) (A:List Value),off+s+l.length<=A.length->((l.zipIdx s).foldl (fun(cs:Array Value) p=>cs.setIfInBounds (off+p.2) p.1) ⟨A⟩)=⟨aZ A (off+s) l⟩
 | [],s,off,A,h=>by
  have:aZ A (off+s) []=A:=by rw[splice_eq A [] (off+s) h];simp
  rw[this];rfl
 |v::l,s,off,A,h=>by
  rw[List.zipIdx_cons,a1G];show((l.zipIdx (s+1)).foldl (fun(cs:Array Value) p=>cs.setIfInBounds (off+p.2) p.1) ((⟨A⟩:Array Value).setIfInBounds (off+s) v))=_;rw[show(⟨A⟩:Array Value).setIfInBounds (off+s) v=⟨A.set (off+s) v⟩ from by rw[←a12,Array.toList_setIfInBounds]];simp only[a01]at h;rw[kM l (s+1) off _ (by rw[a0z];omega),←a12];show aZ (A.set (off+s) v) (off+(s+1)) l=aZ A (off+s) (v::l);apply a0N;intro i;rw[bm _ _ _ i (by rw[a0z];omega),bm _ _ _ i (by simp only[a01];omega)];simp only[a01,List.getElem?_set];by_cases E:i=off+s
  ·subst E;rw[if_neg M,if_pos V,if_pos M,if_pos M,a1Y,List.getElem?_cons_zero]
  rw[if_neg (show ¬off+s=i from fun e=>E e.symm)];by_cases O:off+(s+1)<=i/\i<off+(s+1)+l.length
  ·rw[if_pos O,if_pos M,show i-(off+s)=(i-(off+(s+1)))+1 by omega,a1k]
  rw[if_neg O,if_neg M]
theorem nw(E:Nat->Option (Nat×Nat)): ∀(ps:List (Nat×Value)) (cs r:List Value),fillL E cs ps=some r->Instr.fill E ⟨cs⟩ ps=some ⟨r⟩
 | [],cs,r,h=>by simp only[fillL,a02]at h;subst h;rfl
 |(i,v)::ps,cs,r,h=>by
  unfold fillL at h;split at h
  ·rename_i off n e;cases A:(Nat.beq (eG v.cells.toList) n&&Nat.ble (off+eG v.cells.toList) (eG cs)) with
   |false=>rw[A]at h;cases h
   |true=>
    rw[A]at h
    simp only[cond_true,mr]at h
    rw[a06]at A
    have U:=a07 A.1
    have O:=a0c A.2
    rw[be]at U O
    rw[be]at O
    unfold Instr.fill
    simp only[e]
    rw[if_neg (by
     simp only[a0P,decide_eq_true_eq,not_or];show ¬(v.cells.size≠n)/\¬(off+v.cells.size>cs.length);rw[←a1F];omega)]
    have:=nw E ps _ _ h
    rw[←this]
    congr 1
    rw[←Array.foldl_toList,Array.toList_zipIdx]
    have:=kM v.cells.toList 0 off cs M
    exact this
  cases h
theorem places_ok{P:Program}: ∀{fs:List Field} {pl:List (Nat×Nat)},kS P fs=some pl->aB P (fs.mapM (m:=Sem) fun f=>do Pure.pure (f.offset,←sizeOf f.type))=some pl
 | [],pl,h=>by simp only[kS,a02]at h;subst h;rfl
 |f::fs,pl,h=>by
  unfold kS at h;split at h
  ·rename_i n e;split at h
   ·rename_i l A;simp only[a02]at h;subst h;rw[List.mapM_cons];simp only[aF,ct,e,a0n,bG,places_ok A]
   cases h
  cases h
theorem bldL_ok{P:Program}{t:TypeId}{ps:Array (Nat×Value)}{cs:List Value}(h:bldL P t ps.toList=some cs):aB P (Instr.build t ps)=some (.agg ⟨cs⟩):=by
 unfold bldL at h;split at h
 ·rename_i fs e1;split at h
  ·rename_i z A;split at h
   ·rename_i O e3;have hz: ∃v,aB P (zeroValue t)=some v/\v.cells.toList=z:=by
     unfold cw at A;split at A
     ·rename_i i hi;split at A
      ·rename_i v E;refine⟨v,?_,?_⟩
       ·unfold zeroValue;simp only[aF,cW,hi,a0n,E];rfl
       cases U:v.cells.toList.all dx with
       |true=>rw[U]at A;simpa using A
       |false=>rw[U]at A;cases A
      cases A
     cases A
    obtain⟨v,E,Z⟩:=hz;unfold Instr.build;simp only[aF,E,a0n,bh,e1];rw[Array.mapM_eq_mapM_toList];simp only[←bind_pure_comp,aF,places_ok e3,a0n,bG];have:=nw (nth O) ps.toList z cs h;rw[show nth O=fun i=>O.toArray[i]? from funext fun i=>by rw[fV,List.getElem?_toArray]]at this;rw[show v.cells=⟨z⟩ from by rw[←Z]];simp only[this];rfl
   cases h
  cases h
 cases h
end Go.R
end
noncomputable section
namespace Go.R
theorem lV(n:Int):IntKind.u64.wrap n=n%18446744073709551616:=rfl
abbrev bv(n:Int):BitVec 64:=BitVec.ofInt 64 n
end Go.R
end
noncomputable section
namespace Go.R
def decD(d:Nat):UInt8:=UInt8.ofNat (48+d)
def dec(n:Nat):List UInt8:=if n<10 then [decD n] else dec (n/10)++[decD (n%10)]
def isDig(c:UInt8):Bool:=decide (48<=c.toNat)&&decide (c.toNat<=57)
def valA(n:Nat)(c:UInt8):Nat:=10 *n+(c.toNat-48)
def val(l:List UInt8):Nat:=l.foldl valA 0
def okNum(t:List UInt8):Bool:=decide (1<=t.length)&&decide (t.length<=19)&&t.all isDig&&(t.headD 0 !=48||t.length==1)
def posS(s:List UInt8)(A:Nat):Option Nat:=if okNum s=true/\val s<=A then some (val s) else none
def parseS(s:List UInt8):Option Int:=
 if s.headD 0=45 then(match posS s.tail 9223372036854775808 with
  |some 0=>none
  |some n=>some (-(n:Int))
  |none=>none)
 else(match posS s 9223372036854775807 with
  |some n=>some (n:Int)
  |none=>none)
def cJ(n:Int):List UInt8:=if n<0 then 45::dec n.natAbs else dec n.toNat
theorem i0{n:Nat}(h:n<10):dec n=[decD n]:=by rw[dec,if_pos h]
theorem dec_big{n:Nat}(h: ¬n<10):dec n=dec (n/10)++[decD (n%10)]:=by rw[dec,if_neg h]
theorem dec_len(k:Nat): ∀n,n<10^(k+1)->(dec n).length<=k+1:=by
 induction k with
 |zero=>intro n h;rw[i0 M];simp
 |succ k ih=>
  intro n h
  by_cases A:n<10
  ·rw[i0 A];simp
  rw[dec_big A,a00]
  have:=ih (n/10) (by rw[Nat.pow_succ]at h;omega)
  simp;omega
theorem all_take{p:UInt8->Bool}{s:List UInt8}{i:Nat}(h:i<s.length):(s.take (i+1)).all p=((s.take i).all p&&p (s.getD i 0)):=by
 have:s.take (i+1)=s.take i++[s.getD i 0]:=by rw[a19,a0b,a09 h];rfl
 rw[this,a1H];simp
end Go.R
end
noncomputable section
namespace Go.R
open Go.RowKit Go.WideShapes Go.ChangeShapes
structure Em(w:World)(μ:Emb)(H:Heap):Prop where
 rel:WRel μ H w
 ro: ∀b o,H.get b=some o->o.rw=false
 wf:WF H
 dom: ∀b,H.next<=b->μ b=none
 log:H.log=[]
theorem Em.empty(w:World):Em w (fun _=>none) Heap.empty:=
 ⟨⟨fun b l o h=>by simp at h,fun A E l1 l2 O U _ h=>by simp at h⟩,fun b o h=>(by cases h),fun b _=>rfl,fun b _=>rfl,V⟩
section
variable {w:World} {μ:Emb} {H:Heap}
theorem Em.lt(h:Em w μ H){b:Nat}{o:AObj}(A:H.get b=some o):b<H.next:=by
 rcases a0s b H.next with h1|h1
 ·exact h1
 rw[h.wf b h1]at A;cases A
theorem Em.add(h:Em w μ H){c sh:Nat}{cs:List Value}(hc:c<w.heap.size)(O: ∀(i:Nat) v,cs[i]?=some v->∃v',w.cell? ⟨c,sh+i,none⟩=some v'/\VRel μ v v'):
  Em w (μ.set H.next ⟨c,sh,none,0⟩) (H.push (.cells cs none true)):=by
 have U:=Emb.set_ext (μ:=μ) (b:=H.next) ⟨c,sh,none,0⟩ (h.dom _ (a08 _))
 have Z: ∀b o,(H.push (.cells cs none true)).get b=some o->(b=H.next/\o= .cells cs none true)\/(b≠H.next/\H.get b=some o):=by
  intro b o A;by_cases e:b=H.next
  ·subst e;rw[Heap.get_push_same]at A;exact .inl ⟨V,(Option.some.inj A).symm⟩
  rw[Heap.get_push_ne _ _ (Ne.symm e)]at A;exact .inr ⟨e,A⟩
 have al: ∀b o,(H.push (.cells cs none true)).get b=some o->o.rw=false:=by
  intro b o A;rcases Z b o A with⟨_,rfl⟩|⟨_,h1⟩
  ·rfl
  exact h.ro b o h1
 refine⟨⟨fun b l o A ho=>?_,fun b1 b2 l1 l2 o1 o2 _ _ _ h3 _ h5 _=>?_⟩,al,fun b A=>?_,fun b A=>?_,h.log⟩
 ·rcases Z b o ho with⟨rfl,rfl⟩|⟨ax,aA⟩
  ·rw[Emb.set_same]at A;obtain rfl:=Option.some.inj A;refine⟨V,V,hc,fun i v hv=>?_⟩;obtain⟨v',h1,h2⟩:=O i v hv;exact⟨v',h1,h2.mono U⟩
  rcases Emb.set_inv A with⟨e,_⟩|⟨_,E⟩
  ·exact absurd e ax
  exact(h.rel.obj b l o E aA).keep U (a08 _) (fun _=>rfl)
 ·rw[al b1 o1 h3]at h5;cases h5
 ·have E:H.next+1<=b:=A;rw[Heap.get_push_ne _ _ M];exact h.wf b M
 have E:H.next+1<=b:=A
 unfold Emb.set
 rw[if_neg M];exact h.dom b M
theorem Em.hs(h:Em w μ H):HS (.of H []) H.get H [] []:=
 ⟨fun b o A=>⟨A,h.lt A⟩,fun p E=>by simp at E,by simp,a08 _,fun b A=> .inl A,fun p E=>by simp at E⟩
theorem walk_of_Em{P:Program}{K:bp}(Z:gI P 0 K)(h:Em w μ H){f:FuncId}{args:List Value}{A:Array Value}(ha:LRel μ args A.toList)(hc:C P 0 K f args H fun v _=>v= .bool true):
  Calls P f A w fun e w'=>e= .returned (.bool true)/\Below w.heap.size w w':=by
 obtain⟨n,v,H',U,rfl⟩:=hc.out
 obtain⟨_,E⟩:=call_ok (G:=0) Z n f args H (.bool true) H' U h.wf
 refine(E μ w A ha (fun g hg=>by omega) h.rel (fun b hb _=>h.dom b hb)).mono ?_
 rintro e w' ⟨μ',v',rfl,hr,hp⟩
 rw[hr.eq2 rfl]
 exact⟨V,hp.os,hp.tape,hp.out,hp.grow,fun k hk=>hp.keep k hk fun b l x _ hx O=>by rw[h.ro b x hx]at O;cases O⟩
end
structure EmLe(μ:Emb)(H:Heap)(μ':Emb)(H':Heap):Prop where
 emb: ∀b l,μ b=some l->μ' b=some l
 heap:Fz.le H.get H'.get
theorem EmLe.refl(μ:Emb)(H:Heap):EmLe μ H μ H:=⟨fun _ _ h=>h,fun _ _ h=>h⟩
theorem EmLe.trans{μ E O:Emb}{H H1 A:Heap}(h:EmLe μ H E H1)(k:EmLe E H1 O A):EmLe μ H O A:=⟨fun b l x=>k.emb b l (h.emb b l x),fun b o x=>k.heap b o (h.heap b o x)⟩
theorem EmLe.add{w:World}{μ:Emb}{H:Heap}(h:Em w μ H)(l:Loc)(o:AObj):EmLe μ H (μ.set H.next l) (H.push o):=
 ⟨Emb.set_ext l (h.dom _ (a08 _)),fun b x A=>by rw[Heap.get_push_ne _ _ (Nat.ne_of_gt (h.lt A))];exact A⟩
section
variable {c_:Type} {enc:TypeId×Value->c_} {P:Program} {w:World} {μ:Emb} {H:Heap}
theorem wf_in64{n:Int}(h:(Lit.int .i64 n).wf=true):in64 n:=by simp[Lit.wf,IntKind.min,IntKind.max,IntKind.signed,IntKind.bits]at h;exact⟨by omega,by omega⟩
theorem RL_ints{F:Fz}: ∀(l:List Int),(∀n∈l,in64 n)->RL F (l.map fun n=>Value.int .i64 n) l
 | [],_=>rfl
 |n::l,h=>⟨[.int .i64 n],l.map fun n=>Value.int .i64 n,V,⟨V,h n (by simp)⟩,RL_ints l fun m A=>h m (by simp[A])⟩
theorem em_ints{base:Nat}{t e:TypeId}{v:Value}{d:DataW c_}{ps:List MemPlace}(h:Em w μ H)(ht:P.underlying t=some (.slice e))(he:P.underlying e=some (.int .i64))(hc:P.cellsOf e=1)(ax:Value.okWide P w .any base t v)
  (hd:DataW.Trod enc P w 0 (fun _=>true) true t v d ps):
  ∃μ' H' a k,∃l:List Int,Em w μ' H'/\EmLe μ H μ' H'/\VRel μ' (.slice a l.length k) v/\SR H'.get (.slice a l.length k) l/\(l.length<=maxLen)/\(∃a6,d= .slice (Go.ChangeShapes.lits .i64 l) a6\/d= .nil/\l=[]):=by
 obtain⟨a,len,U,rfl⟩:=okWide_slice ht ax
 obtain⟨fuel,hf⟩:=hd
 rcases Go.ChangeShapes.open_ints ht he hc hf with⟨Z,O⟩|⟨a',len',bl,A,Z,_,a9,b1,a4,O,a0,bf⟩
 ·simp[Value.cells]at Z;obtain⟨rfl,rfl,rfl⟩:=Z;simp only[a04]at O;exact⟨μ,H,none,0,[],h,.refl _ _,.atom _ V,.nil,a0r _,[],.inr ⟨O.1,V⟩⟩
 simp[Value.cells]at Z
 obtain⟨rfl,rfl,rfl⟩:=Z
 have ba:a'.spot=none/\a'.block<w.heap.size:=by
  have ar:Cell.ok P w .any base t (.slice (some a') len U):=by have:=ax;unfold Value.okWide at this;rw[ht]at this;simp only at this;unfold Cell.okWide at this;rw[ht]at this;exact this
  unfold Cell.ok at ar;rw[ht]at ar;obtain⟨_,_,_,bb,b2,cells,hs,_⟩:=ar;refine⟨bb,?_⟩;unfold World.shape? at hs;split at hs
  ·rename_i a8;exact(a0y.1 a8).1
  cases hs
 obtain⟨c,off,sp⟩:=a'
 obtain⟨rfl,a7⟩:=ba
 simp only[if_true]at a4
 have a3: ∀n∈A.take len,in64 n:=fun n hn=>wf_in64 (bf n (List.mem_of_mem_take hn))
 have hl:(A.take len).length=len:=by rw[a0S];omega
 have hA:=h.add (c:=c) (sh:=off) (cs:=(A.take len).map fun n=>Value.int .i64 n) a7 (fun i v hv=>by
  rw[a1v]at hv;cases E:(A.take len)[i]? with
  |none=>rw[E]at hv;cases hv
  |some n=>
   rw[E]at hv
   obtain rfl:=Option.some.inj hv
   have hi:=(a0m.1 E).1
   have a2:=a0 i (by rw[hl]at hi;omega)
   have hn:A.getD i 0=n:=by
    rw[a0C]at E;split at E
    ·rw[a0b,E];rfl
    cases E
   refine⟨_,?_,.atom _ V⟩
   rw[hn]at a2
   rw[←a2]
   congr 1
   unfold Addr.add
   split
   ·rename_i h0;subst h0;rfl
   rfl)
 refine⟨_,_,some ⟨H.next,0,none⟩,U,A.take len,hA,.add h _ _,?_,?_,by rw[hl];omega,A.drop len|>Go.ChangeShapes.lits .i64,.inl ?_⟩
 ·rw[hl];have:=VRel.sliceC (μ:=μ.set H.next ⟨c,off,none,0⟩) H.next 0 len U ⟨c,off,none,0⟩ (Emb.set_same _ _ _) V;simpa using this
 ·refine .inr ⟨H.next,0,U,_,V,Heap.get_push_same _ _,_,none,true,V,fun O=>(by cases O),(by rw[hl];exact a9),?_,.inl V⟩;have e1:((A.take len).map fun n=>Value.int .i64 n).length=(A.take len).length *Rp.sz Int:=by rw[a1n];show _=_ *1;omega
  rw[a0I,←e1,a0T];exact RL_ints _ a3
 simp only[a04]at O
 exact O.1
end
section
variable {c_:Type} {enc:TypeId×Value->c_} {P:Program}
theorem jd{w w':World}{base:Nat}{A:Nat->Bool}{held:Bool}: ∀{ts:List TypeId} {vs:List Value} {ds:List (DataW c_)} {ps:List MemPlace},DataW.TrodAll enc P w base A held ts vs ds ps->(∀p∈ps,w.sameAt w' p)->DataW.TrodAll enc P w' base A held ts vs ds ps
 | [],[],[],_,h,_=>h
 |_::_,_::_,_::_,_,⟨p,q,⟨n,h1⟩,h2,e⟩,hs=>⟨p,q,⟨n,DataW.trod_carry n _ _ _ h1 fun x E=>hs x (by rw[e];exact a1S _ E)⟩,jd h2 fun x E=>hs x (by rw[e];exact List.mem_append_right _ E),e⟩
theorem post_law{f:Func}{s:ChangeSpec}{O ar U an:Bool}{W W':World}{args:Array Value}{ds gs:List (DataW c_)}{E:List MemPlace}{tb:TypeId}
  (K:Kids P (· <P.types.size)) (a1: ∀t e,t<P.types.size->P.underlying t=some (.slice e)->0<P.cellsOf e) (a4: ∀t∈f.params.toList,t<P.types.size)
  (hW:DataW.Whole enc P f.params.toList s.vars O W args.toList ds gs E) (al:s.vars=[]) (A:f.resultTypes= #[tb]) (aA:P.underlying tb=some .bool)
  (Z:s.fn c_ (ds++gs)={results:=[.lit (.bool true)],args:=ds}) (hb:Below W.heap.size W W'):s.post enc P f O ar U an W args (.bool true) W':=by
 have a9: ∀p∈E,p.block<W.heap.size:=fun p hp=>by simpa using hW.lt p hp
 have a7:=hW
 obtain⟨p,q,hA,hV,rfl,bw,bF⟩:=hW
 have hq:q=[]/\gs=[]:=by
  rw[al]at hV;cases gs with
  |nil=>exact⟨hV,V⟩
  |cons _ _=>exact absurd hV id
 obtain⟨rfl,rfl⟩:=hq
 refine mW (pa:=p) (pv:=[]) a7 (fun b sp hd=>?_) (fun sp ba=>?_) (fun sp _=>?_) V hb ?_
 ·rw[Z,A];exact trodAll_cons_mk (shut_bool aA true) V
 ·rw[Z];refine DataW.TrodAll.respare K a1 a4 (jd hA fun x hx=>hb.same (a9 x (by simpa using hx))) fun x hx=>ba x (by simpa using hx)
 ·rw[al,Z];rfl
 rw[A]
 intro j t r h1 h2
 exact ok_one (f:=f) A V (okWide_bool_mk aA true) j t r (by rw[A];exact h1) (by rw[A];exact h2)
end
end Go.R
end
noncomputable section
namespace Go.R
open Go
section
variable {P:Program} {d:Nat} {t:TypeId}
theorem eqB{a b:Bool}(A:P.underlying t=some .bool):aB P (Op.equalIn (d+1) t (.bool a) (.bool b))=some (a==b):=by simp[Op.equalIn,underlying,A]
structure EqF(P:Program)(d:Nat)(xs ys:Array Value)(f:Field)(b:Bool):Prop where
 named:f.name≠ "_"
 ok: ∃u v,aB P (part f.type xs f.offset)=some u/\aB P (part f.type ys f.offset)=some v/\aB P (Op.equalIn d f.type u v)=some b
inductive EqFs(P:Program)(d:Nat)(xs ys:Array Value):List Field->List Bool->Prop
 |nil:EqFs P d xs ys [] []
 |cons {f b fs bs}:EqF P d xs ys f b->EqFs P d xs ys fs bs->EqFs P d xs ys (f::fs) (b::bs)
def eqLoop(d:Nat)(xs ys:Array Value)(fs:List Field):Sem (Option Bool×Unit):=
 forIn fs ((none:Option Bool),()) fun f (_:Option Bool×Unit)=>
  if f.name≠ "_" then do
   if !(←Op.equalIn d f.type (←part f.type xs f.offset) (←part f.type ys f.offset)) then pure (ForInStep.done (some false,()))
   else pure (ForInStep.yield (none,()))
  else pure (ForInStep.yield (none,()))
end
section
variable {P:Program} {ρ:Operand->Value} {d:Option Tmp} {ty:TypeId} {pos:String} {af:Array Edge} {gd:Option (Nat×Bool)} {H:Heap}
end
end Go.R
end
noncomputable section
namespace Go.R
open Go.RowKit
def tcell(n:Nat):AObj:= .cells [.slice (some ⟨1,0,none⟩) n n] none true
open Classical in
def KT(A ex n:Nat)(cells:List Value):bp:=fun f args H=>match args with
 | []=>bif (Nat.ble f A&&Nat.beq f ex) then(if H.get 0=some (tcell n)/\H.get 1=some (.cells cells none true) then some (.bool true) else none) else none
 |_=>none
structure TB(n:Nat)(cells:List Value)(F:Fz):Prop where
 at0:F 0=some (tcell n)
 at1:F 1=some (.cells cells none true)
section
variable {n:Nat} {cells:List Value} {F F':Fz}
end
end Go.R
end
noncomputable section
set_option linter.unusedVariables false
set_option linter.unusedSimpArgs false
namespace Go.R
inductive Hint where
 |p
 |w
 |e (n:Int)
 |o (v:Value)
 |r (q:Nat)
abbrev Ch:=List (Nat×Bool)
def bq:Bool->Bool->Bool
 |true,b=>b
 |false,b=> !b
theorem bq_eq{a b:Bool}(h:bq a b=true):a=b:=by cases a<;>cases b<;>first|rfl|cases h
def gl:List (Nat×Bool)->Nat->Option Bool
 | [],_=>none
 |(s,g)::G,t=>bif Nat.beq s t then some g else gl G t
def act(G:List (Nat×Bool)):Ch->Bool
 | []=>true
 |(s,w)::c=>(match gl G s with|some g=>bq g w|none=>false)&&act G c
def memC(s:Nat)(w:Bool):Ch->Bool
 | []=>false
 |(s',w')::c=>(Nat.beq s' s&&bq w' w)||memC s w c
def subC:Ch->Ch->Bool
 | [],_=>true
 |(s,w)::a,c=>memC s w c&&subC a c
def lk:List (Nat×Ch×Value)->Nat->Option (Ch×Value)
 | [],_=>none
 |(s,x)::m,t=>bif Nat.beq s t then some x else lk m t
structure SS where
 m:List (Nat×Ch×Value)
 G:List (Nat×Bool)
def SS.rd(S:SS)(f:Fn):Operand->Value
 | .tmp t=>match lk S.m t with
  |some x=>x.2
  |none=>f t
 | .const v=>v
 | .global g=> .pointer (some ⟨g,0,none⟩)
 | .func i=> .func (.func i) #[] #[]
def SS.can(S:SS)(c:Ch):Operand->Bool
 | .tmp t=>match lk S.m t with
  |some x=>subC x.1 c
  |none=>true
 |_=>true
def impl(G:List (Nat×Bool)):Ch->Prop->Prop
 | [],p=>p
 |(s,w)::c,p=>match gl G s with
  |some g=>g=w->impl G c p
  |none=>True
def ky(G:List (Nat×Bool))(s:Nat)(g:Bool):List (Nat×Bool):=match gl G s with
 |some _=>G
 |none=>(s,g)::G
def dV:Option Prop->Prop
 |none=>True
 |some p=>p
def andO(q:Option Prop)(p:Prop):Prop:=match q with
 |none=>p
 |some q=>q/\p
def rng(k:IntKind)(n:Int):Prop:=match k with
 | .i64=> -9223372036854775808<=n/\n<9223372036854775808
 | .u64=>0<=n/\n<18446744073709551616
 | .u8=>0<=n/\n<256
 |k=>k.wrap n=n
theorem rng_wrap{k:IntKind}{n:Int}(h:rng k n):k.wrap n=n:=by
 cases k with
 |i64=>exact lK h
 |u64=>exact mQ h
 |u8=>exact w_u8 h
 |_=>exact h
def kq:IntKind->IntKind->Bool
 | .i64,.i64=>true
 | .u64,.u64=>true
 | .u8,.u8=>true
 | .i32,.i32=>true
 | .u32,.u32=>true
 |_,_=>false
theorem kq_eq{k A:IntKind}(h:kq k A=true):A=k:=by cases k<;>cases A<;>first|rfl|cases h
abbrev VP:=Option (Value×Option Prop)
def ari(h:Hint)(k:IntKind)(n:Int):VP:=match h with
 | .w=>some (.int k (k.wrap n),none)
 | .e m=>some (.int k m,some (n=m/\rng k m))
 |_=>some (.int k n,some (rng k n))
def bi(h:Hint)(k:IntKind)(n:Int):VP:=match h with
 | .e m=>some (.int k m,some (n=m))
 |_=>some (.int k n,none)
def withP(p:Prop):VP->VP
 |some (v,none)=>some (v,some p)
 |some (v,some q)=>some (v,some (p/\q))
 |none=>none
def pint(h:Hint)(op:BinOp)(k:IntKind)(x y:Int):VP:=match op with
 | .add=>ari h k (x+y)
 | .sub=>ari h k (x-y)
 | .mul=>ari h k (x *y)
 | .quo=>withP (y≠0) (ari h k (x.tdiv y))
 | .rem=>withP (y≠0) (bi h k (x.tmod y))
 | .and=>bi h k (dw .and k x y)
 | .or=>bi h k (dw .or k x y)
 | .xor=>bi h k (dw .xor k x y)
 | .andNot=>bi h k (dw .andNot k x y)
 | .eql=>some (.bool (x==y),none)
 | .neq=>some (.bool (x !=y),none)
 | .lss=>some (.bool (decide (x<y)),none)
 | .leq=>some (.bool (decide (x<=y)),none)
 | .gtr=>some (.bool (decide (y<x)),none)
 | .geq=>some (.bool (decide (y<=x)),none)
 |_=>none
def AGB(P:Program)(op:BinOp)(t:TypeId)(a b v:Value):Prop:= ∀(ρ:Operand->Value) (x y:Operand) (yt:TypeId) (d:Option Tmp) (ty:TypeId) (pos:String) (af:Array Edge) (gd:Option (Nat×Bool)) (H:Heap),ρ x=a->ρ y=b->AP P ρ ⟨d,.binOp op t x y yt,ty,pos,af,gd⟩ H (.val v,H)
def isBT(P:Program)(t:TypeId):Bool:=match P.underlying t with
 |some .bool=> !P.eqGuardType P.depth t
 |_=>false
def pbin(P:Program)(h:Hint)(op:BinOp)(t:TypeId)(a b:Value):VP:=match a,b with
 | .int k x,.int k' y=>match op with
  | .shl=>withP (0<=y) (bi h k (k.wrap (x *2^(Nat.min y.toNat k.bits))))
  | .shr=>withP (0<=y) (bi h k (x.fdiv (2^(Nat.min y.toNat k.bits))))
  |op=>bif kq k k' then pint h op k x y else none
 | .string ⟨⟨x⟩⟩,.string ⟨⟨y⟩⟩=>match op with
  | .eql=>some (.bool (x==y),none)
  | .neq=>some (.bool (x !=y),none)
  | .lss=>some (.bool (Op.bytesLess x y),none)
  | .leq=>some (.bool (Op.bytesLess x y||x==y),none)
  | .add=>some (.string ⟨⟨x++y⟩⟩,some (x.length+y.length<=1099511627776))
  |_=>none
 | .bool x,.bool y=>bif isBT P t then match op with
  | .eql=>some (.bool (x==y),none)
  | .neq=>some (.bool (x !=y),none)
  |_=>none else none
 | .agg x,.agg y=>match h with
  | .o v=>some (v,some (AGB P op t (.agg x) (.agg y) v))
  |_=>none
 | .pointer a,.pointer b=>match nilEq P t (.pointer a) (.pointer b),op with
  |some r,.eql=>some (.bool r,none)
  |some r,.neq=>some (.bool (!r),none)
  |_,_=>none
 | .slice a n k,.slice b n' k'=>match nilEq P t (.slice a n k) (.slice b n' k'),op with
  |some r,.eql=>some (.bool r,none)
  |some r,.neq=>some (.bool (!r),none)
  |_,_=>none
 |_,_=>none
def pun(h:Hint)(op:UnOp)(v:Value):VP:=match op,v with
 | .not,.bool b=>some (.bool (!b),none)
 | .neg,.int k n=>ari h k (0-n)
 | .xor,.int k n=>bi h k (bits .xor k (if k.signed then-1 else k.max) n)
 |_,_=>none
structure FW where
 ld:TypeId->Value->Value->Prop
 cl:FuncId->List Value->Value->Prop
 cv:TypeId->TypeId->Option Addr->Nat->Value->Prop
 sl:TypeId->Value->Option Value->Option Value->Value->Prop
 lk:TypeId->Value->Value->Bool->Value->Prop
def pconv(P:Program)(W:FW)(h:Hint)(s t:TypeId)(v:Value):VP:=match v with
 | .int _ n=>match P.underlying s,P.underlying t with
  |some _,some (.int k')=>ari h k' n
  |_,_=>none
 | .slice a n k=>match h with
  | .o v=>some (v,some (W.cv s t a n v))
  |_=>none
 |_=>none
def ppick(g:Bool)(a b:Value):Option Value:=match a,b with
 | .bool x,.bool y=>some (.bool (bif g then x else y))
 | .int k x,.int k' y=>bif kq k k' then some (.int k (bif g then x else y)) else none
 | .string x,.string y=>some (.string ⟨⟨bif g then x.data.toList else y.data.toList⟩⟩)
 |_,_=>none
def LDv(P:Program)(H:Heap)(t:TypeId)(a w:Value):Prop:=eu P t a H=some (.val w,H)
def IX(v:Value)(j:Int):Prop:= ∃b o n k,v= .slice (some ⟨b,o,none⟩) n k/\0<=j/\j<n/\n<=k
def pidx(P:Program)(t:TypeId)(a i:Value):VP:=match a,i with
 | .string ⟨⟨s⟩⟩,.int _ j=>match P.underlying t with
  |some .string=>some (.int .u8 ((s.getD j.toNat 0).toNat:Int),some (0<=j/\j<s.length))
  |_=>none
 | .agg x,w=>match aB P (Instr.index t (.agg x) w) with
  |some r=>some (r,none)
  |none=>none
 |_,_=>none
def pidxA(P:Program)(t:TypeId)(a i:Value):VP:=match a,i with
 | .slice x n k,.int _ j=>match P.underlying t with
  |some (.slice e)=>match cT P e with
   |some z=>some (.pointer (some ⟨sB (.slice x n k),sO (.slice x n k)+j.toNat *z,none⟩),some (IX (.slice x n k) j))
   |none=>none
  |_=>none
 | .pointer (some ⟨b,o,none⟩),.int _ j=>match P.underlying t with
  |some (.array n e)=>match cT P e with
   |some z=>some (.pointer (some ⟨b,o+j.toNat *z,none⟩),some (0<=j/\j<n))
   |none=>none
  |_=>none
 |_,_=>none
def pslice(P:Program)(W:FW)(h:Hint)(t:TypeId)(x:Value)(lo hi:Option Value):VP:=match x with
 | .string ⟨⟨s⟩⟩=>match P.underlying t with
  |some .string=>match lo,hi with
   |none,none=>some (.string ⟨⟨s⟩⟩,none)
   |some (.int _ i),none=>some (.string ⟨⟨s.drop i.toNat⟩⟩,some (0<=i/\i<=s.length))
   |none,some (.int _ j)=>some (.string ⟨⟨s.take j.toNat⟩⟩,some (0<=j/\j<=s.length))
   |some (.int _ i),some (.int _ j)=>some (.string ⟨⟨(s.drop i.toNat).take (j.toNat-i.toNat)⟩⟩,some (0<=i/\i<=j/\j<=s.length))
   |_,_=>none
  |_=>none
 |x=>match h with
  | .o v=>some (v,some (W.sl t x lo hi v))
  |_=>none
def plen(P:Program)(t:TypeId)(x:Value):VP:=match x with
 | .string ⟨⟨s⟩⟩=>match P.underlying t with
  |some .string=>some (.int .i64 (s.length:Int),none)
  |_=>none
 | .slice _ n _=>match P.underlying t with
  |some (.slice _)=>some (.int .i64 (n:Int),none)
  |_=>none
 |_=>none
def pmm(w:Bool)(a b:Value):VP:=match a,b with
 | .int k x,.int _ y=>some (.int k (bif w then(if y<x then y else x) else(if y>x then y else x)),none)
 |_,_=>none
def pcall(P:Program)(W:FW)(h:Hint)(ρ:Operand->Value)(c:Call):VP:=match c.callee with
 | .builtin .len=>match c.argTypes.toList,c.args.toList with
  | [t],[x]=>plen P t (ρ x)
  |_,_=>none
 | .builtin .min=>match c.args.toList with
  | [x,y]=>pmm true (ρ x) (ρ y)
  |_=>none
 | .builtin .max=>match c.args.toList with
  | [x,y]=>pmm false (ρ x) (ρ y)
  |_=>none
 | .value f=>match fO P (ρ f) (dM ρ c.args.toList),h with
  |some (.enter g args),.o v=>some (v,some (W.cl g args v))
  |_,_=>none
 |_=>none
def ppk(a b:Operand)(g:Bool)(x y:Value):Option Value:=match b,x with
 | .const (.bool false),.bool x=>some (.bool (g&&x))
 |_,_=>match a,y with
  | .const (.bool true),.bool y=>some (.bool (g||y))
  |_,_=>ppick g x y
def optV{α:Type}(r:Option α):Option (α×Option Prop):=match r with
 |some v=>some (v,none)
 |none=>none
def W0(P:Program)(G0:Nat)(K:bp)(H:Heap):FW:=⟨LDv P H,fun g args v=>C P G0 K g args H fun v' H'=>v'=v/\H'=H,fun s t a n v=>cF P s t a n H=some v,fun t x lo hi v=>bj P t x lo hi none H=some v,fun t m k ok v=>dl P t m k ok H=some v⟩
def WJ(P:Program)(G0:Nat)(K:bp)(d_:Heap->Prop):FW:=⟨fun t a v=> ∀H,d_ H->LDv P H t a v,fun g args v=> ∀H,d_ H->C P G0 K g args H fun v' H'=>v'=v/\d_ H',fun s t a n v=> ∀H,d_ H->cF P s t a n H=some v,fun t x lo hi v=> ∀H,d_ H->bj P t x lo hi none H=some v,fun t m k ok v=> ∀H,d_ H->dl P t m k ok H=some v⟩
structure FW.OK(P:Program)(G0:Nat)(K:bp)(d_:Heap->Prop)(W:FW):Prop where
 ld: ∀{t a v},W.ld t a v->∀H,d_ H->LDv P H t a v
 cl: ∀{g args v},W.cl g args v->∀H,d_ H->C P G0 K g args H fun v' H'=>v'=v/\d_ H'
 cv: ∀{s t a n v},W.cv s t a n v->∀H,d_ H->cF P s t a n H=some v
 sl: ∀{t x lo hi v},W.sl t x lo hi v->∀H,d_ H->bj P t x lo hi none H=some v
 lk: ∀{t m k ok v},W.lk t m k ok v->∀H,d_ H->dl P t m k ok H=some v
theorem ok0{P:Program}{G0:Nat}{K:bp}{H:Heap}:(W0 P G0 K H).OK P G0 K (· =H):=⟨fun h _ e=>e▸h,fun h _ e=>e▸h,fun h _ e=>e▸h,fun h _ e=>e▸h,fun h _ e=>e▸h⟩
theorem okJ{P:Program}{G0:Nat}{K:bp}{d_:Heap->Prop}:(WJ P G0 K d_).OK P G0 K d_:=⟨fun h=>h,fun h=>h,fun h=>h,fun h=>h,fun h=>h⟩
def pop(P:Program)(W:FW)(h:Hint)(ρ:Operand->Value)(op:Op):VP:=match op with
 | .move x=>some (ρ x,none)
 | .assign x=>some (ρ x,none)
 | .binOp op t x y _=>pbin P h op t (ρ x) (ρ y)
 | .unOp op _ x=>pun h op (ρ x)
 | .convert s t x=>pconv P W h s t (ρ x)
 | .load t a=>match h with
  | .o v=>some (v,some (W.ld t (ρ a) v))
  |_=>none
 | .lookup t m x ok=>match h with
  | .o v=>some (v,some (W.lk t (ρ m) (ρ x) ok v))
  |_=>none
 | .index t x i=>pidx P t (ρ x) (ρ i)
 | .indexAddr t x i=>pidxA P t (ρ x) (ρ i)
 | .field t x f=>optV (iF P t (ρ x) f)
 | .fieldAddr s x f=>optV (jb P s (ρ x) f)
 | .extract x i=>optV (gU (ρ x) i)
 | .build t parts=>match cw P t with
  |some _=>match bldL P t (dM (fun p=>(p.1,ρ p.2)) parts.toList) with
   |some cs=>some (.agg ⟨cs⟩,none)
   |none=>optV (aB P (Instr.build t (parts.map fun p=>(p.1,ρ p.2))))
  |none=>none
 | .slice t x lo hi none=>pslice P W h t (ρ x) (lo.map ρ) (hi.map ρ)
 | .call c=>pcall P W h ρ c
 | .nilCheck x=>match ρ x with
  | .pointer (some a)=>some (.pointer (some a),none)
  | .func (.func f) a c=>some (.func (.func f) a c,none)
  |_=>none
 | .makeFunc fn first cap=>some (.func fn (first.map ρ) (cap.map ρ),none)
 |_=>none
def nD(ops:Array Oper)(f:Fn)(S:SS):Option (Nat×Bool)->Option (Ch×List (Nat×Bool))
 |none=>some ([],S.G)
 |some (j,w)=>match (ops[j]?).bind (·.dst) with
  |some d=>match lk S.m d with
   |some (c,.bool g)=>some ((d,w)::c,ky S.G d g)
   |some _=>none
   |none=>match f d with
    | .bool g=>some ([(d,w)],ky S.G d g)
    |_=>none
  |none=>none
def putS(q:Option Prop)(c:Ch)(G:List (Nat×Bool))(m:List (Nat×Ch×Value))(d:Nat)(v:Value):Option (SS×Option Prop):=
 match gl G d with
 |some _=>none
 |none=>fcL G fun G=>fcL c fun c=>some (⟨(d,c,v)::m,G⟩,match q with
  |none=>none
  |some p=>some (impl G c p))
def fcC{β:Type}(v:Value)(k:Value->β):β:=match v with
 | .int a n=>k (.int a n)
 | .bool b=>k (.bool b)
 | .string ⟨⟨l⟩⟩=>k (.string ⟨⟨l⟩⟩)
 | .pointer a=>k (.pointer a)
 | .slice a n m=>k (.slice a n m)
 |v=>k v
theorem fcC_eq{β:Type}(v:Value)(k:Value->β):fcC v k=k v:=by cases v<;>rfl
def fcM{β:Type}:List Value->(List Value->β)->β
 | [],k=>k []
 |a::l,k=>fcC a fun a=>fcM l fun r=>k (a::r)
theorem fcM_eq{β:Type}: ∀(l:List Value) (k:List Value->β),fcM l k=k l
 | [],_=>rfl
 |a::l,k=>by unfold fcM;rw[fcC_eq,fcM_eq l]
def fcV{β:Type}(v:Value)(k:Value->β):β:=match v with
 | .agg ⟨l⟩=>fcM l fun l=>k (.agg ⟨l⟩)
 |v=>fcC v k
theorem fcV_eq{β:Type}(v:Value)(k:Value->β):fcV v k=k v:=by
 unfold fcV;split
 ·exact fcM_eq _ _
 exact fcC_eq _ _
def fcH{β:Type}(h:Hint)(v:Value)(k:Value->β):β:=match h with
 | .o _=>k v
 |_=>fcV v k
theorem fcH_eq{β:Type}(h:Hint)(v:Value)(k:Value->β):fcH h v k=k v:=by cases h<;>first|rfl|exact fcV_eq _ _
def stepS(P:Program)(G0:Nat)(W:FW)(sz:Nat)(ops:Array Oper)(f:Fn)(S:SS)(h:Hint)(o:Oper):Option (SS×Option Prop):=
 match o.dst with
 |none=>none
 |some d=>
  bif Nat.ble (d+1) sz&&o.op.operands.toList.all (bd G0) then
   match nD ops f S o.guard with
   |none=>none
   |some (c,G1)=>
    match o.op with
    | .pick (.tmp s) a b=>
     match lk S.m s with
     |some (cc,.bool g)=>
      bif subC cc c&&(S.can ((s,true)::c) a&&S.can ((s,false)::c) b) then
       match ppk a b g (S.rd f a) (S.rd f b) with
       |some v=>fcV v fun v=>putS none c (ky G1 s g) S.m d v
       |none=>none
      else none
     |_=>none
    |op=>
     bif op.operands.toList.all (S.can c) then
      match pop P W h (S.rd f) op with
      |some (v,q)=>fcH h v fun v=>putS q c G1 S.m d v
      |none=>none
     else none
  else none
def hintAt:List (Nat×Hint)->Nat->Hint
 | [],_=> .p
 |(i,h)::l,j=>bif Nat.beq i j then h else hintAt l j
def rgL(P:Program)(G0:Nat)(W:FW)(sz:Nat)(ops:Array Oper)(f:Fn)(hs:List (Nat×Hint)):Nat->List Oper->SS->Option (SS×Prop)
 |_,[],S=>some (S,True)
 |i,o::os,S=>match stepS P G0 W sz ops f S (hintAt hs i) o with
  |none=>none
  |some (S1,q)=>match rgL P G0 W sz ops f hs (i+1) os S1 with
   |none=>none
   |some (S2,p)=>some (S2,andO q p)
def fins(m:List (Nat×Ch×Value)):List Nat->Option (List (Nat×Value))
 | []=>some []
 |d::ds=>match lk m d,fins m ds with
  |some ([],v),some l=>some ((d,v)::l)
  |_,_=>none
def fD(P:Program)(G0:Nat)(W:FW)(sz:Nat)(ops:Array Oper)(f:Fn)(i:Nat)(os:List Oper)(hs:List (Nat×Hint))(lo hi:Nat)(ex:List Nat)(A:List Nat):Option (List (Nat×Value)×Prop):=
 match rgL P G0 W sz ops f hs i os ⟨[],[]⟩ with
 |none=>none
 |some (S,p)=>bif S.m.all (fun e=>inR lo hi ex e.1) then
   match fins S.m A with
   |some l=>some (l,p)
   |none=>none
  else none
end Go.R
end
noncomputable section
namespace Go.R
section
variable {P:Program} {G0:Nat} {K:bp} {d_:Heap->Prop} {W:FW} {H:Heap} {ρ:Operand->Value} {d:Option Tmp} {ty:TypeId} {pos:String} {af:Array Edge} {gd:Option (Nat×Bool)} {v:Value} {q:Option Prop} {hi:Hint}
theorem mH{k:IntKind}{n:Int}(h:ari hi k n=some (v,q))(A:dV q):v= .int k (k.wrap n):=by
 unfold ari at h;split at h
 ·simp only[a02,a04]at h;exact h.1.symm
 ·simp only[a02,a04]at h;obtain⟨rfl,rfl⟩:=h;obtain⟨rfl,E⟩:=A;rw[rng_wrap E]
 simp only[a02,a04]at h;obtain⟨rfl,rfl⟩:=h;rw[rng_wrap A]
theorem bi_ok{k:IntKind}{n:Int}(h:bi hi k n=some (v,q))(E:dV q):v= .int k n:=by
 unfold bi at h;split at h
 ·simp only[a02,a04]at h;obtain⟨rfl,rfl⟩:=h;have A:n=_:=E;rw[A]
 simp only[a02,a04]at h;exact h.1.symm
theorem j5{p:Prop}{r:VP}(h:withP p r=some (v,q))(A:dV q):p/\∃E,r=some (v,E)/\dV E:=by
 match r,h with
 |some (v',none),h=>
  simp only[withP,a02,a04]at h
  obtain⟨rfl,rfl⟩:=h
  exact⟨A,none,V,trivial⟩
 |some (v',some p'),h=>
  simp only[withP,a02,a04]at h
  obtain⟨rfl,rfl⟩:=h
  exact⟨A.1,some p',V,A.2⟩
 |none,h=>simp[withP]at h
theorem beq0{b:Int}(A:b≠0):(b==0)=false:=by simpa using A
variable {x y:Operand} {t yt:TypeId}
theorem pint_ok{op:BinOp}{k:IntKind}{a b:Int}(hx:ρ x= .int k a)(hy:ρ y= .int k b)(h:pint hi op k a b=some (v,q))(E:dV q):
  AP P ρ ⟨d,.binOp op t x y yt,ty,pos,af,gd⟩ H (.val v,H):=by
 have A: ∀{v':Value},li op=false->ml op k a b=some v'->AP P ρ ⟨d,.binOp op t x y yt,ty,pos,af,gd⟩ H (.val v',H):=by intro v' hs hv;exact jP hx hy (by rw[hs,dU];exact hv)
 cases op with
 |add=>rw[mH (n:=a+b) h E];exact A V V
 |sub=>rw[mH (n:=a-b) h E];exact A V V
 |mul=>rw[mH (n:=a *b) h E];exact A V V
 |quo=>
  obtain⟨O,q',U,Z⟩:=j5 (p:=b≠0) (r:=ari hi k (a.tdiv b)) h E
  rw[mH U Z]
  exact A V (by show(bif b==0 then none else some (Value.int k (k.wrap (a.tdiv b))))=_;rw[beq0 O];rfl)
 |rem=>
  obtain⟨O,q',U,Z⟩:=j5 (p:=b≠0) (r:=bi hi k (a.tmod b)) h E
  rw[bi_ok U Z]
  exact A V (by show(bif b==0 then none else some (Value.int k (a.tmod b)))=_;rw[beq0 O];rfl)
 |and=>rw[bi_ok (n:=dw .and k a b) h E];exact A V V
 |or=>rw[bi_ok (n:=dw .or k a b) h E];exact A V V
 |xor=>rw[bi_ok (n:=dw .xor k a b) h E];exact A V V
 |andNot=>rw[bi_ok (n:=dw .andNot k a b) h E];exact A V V
 |shl=>cases h
 |shr=>cases h
 |_=>
  simp only[pint,a02,a04]at h
  obtain⟨rfl,_⟩:=h
  exact A V V
theorem bool_run{a b:Bool}(h:isBT P t=true):aB P (el .eql t x y a b)=some (.value (.bool (a==b)))/\aB P (el .neq t x y a b)=some (.value (.bool (a !=b))):=by
 unfold isBT at h;split at h
 ·rename_i U;have Z:P.eqGuardType P.depth t=false:=by simpa using h
  have E:aB P (eqGuard .eql t x y (.bool a) (.bool b))=some ():=by simp[eqGuard]
  have O:aB P (eqGuard .neq t x y (.bool a) (.bool b))=some ():=by simp[eqGuard]
  have A:aB P (Op.equal t (.bool a) (.bool b))=some (a==b):=eqB (d:=9999) U;constructor
  ·unfold el;simp only[aF,E,a0n];have:aB P (binOp .eql t (.bool a) (.bool b))=some (Value.bool (a==b)):=by show aB P (Op.equal t (.bool a) (.bool b)>>=fun b=>(Pure.pure (Value.bool b):Sem Value))=_;rw[aF,A];rfl
   rw[this];rfl
  unfold el;simp only[aF,O,a0n];have:aB P (binOp .neq t (.bool a) (.bool b))=some (Value.bool (a !=b)):=by show aB P (Op.equal t (.bool a) (.bool b)>>=fun b=>(Pure.pure (Value.bool (!b)):Sem Value))=_;rw[aF,A];rfl
  rw[this];rfl
 cases h
theorem pbin_ok{op:BinOp}{a b:Value}(A:ρ x=a)(E:ρ y=b)(h:pbin P hi op t a b=some (v,q))(hq:dV q):
  AP P ρ ⟨d,.binOp op t x y yt,ty,pos,af,gd⟩ H (.val v,H):=by
 have U: ∀(a b:Value) (r:Bool),ρ x=a->ρ y=b->(∃p,a= .pointer p)\/(∃p n k,a= .slice p n k)->nilEq P t a b=some r->(op= .eql->v= .bool r)->(op= .neq->v= .bool (!r))->(op= .eql\/op= .neq)->
   AP P ρ ⟨d,.binOp op t x y yt,ty,pos,af,gd⟩ H (.val v,H):=by
  intro a b r A E ha O h1 h2 h3
  refine⟨?_⟩
  show aBin P ρ _ op t (ρ x) y H=_
  have:aBin P ρ ⟨d,.binOp op t x y yt,ty,pos,af,gd⟩ op t (ρ x) y H=nilBin op (nilEq P t a b) H:=by rw[A];rcases ha with⟨p,rfl⟩|⟨p,n,k,rfl⟩<;>(rw[←E];rfl)
  rw[this,O]
  rcases h3 with rfl|rfl
  ·rw[h1 rfl];rfl
  rw[h2 rfl];rfl
 unfold pbin at h
 split at h
 ·--integers
  split at h
  ·obtain⟨h1,q',h2,h3⟩:=j5 h hq;rw[bi_ok h2 h3];exact ap_shl A E h1
  ·obtain⟨h1,q',h2,h3⟩:=j5 h hq;rw[bi_ok h2 h3];exact ap_shr A E h1
  rename_i k a k' b _ _ _;cases hk:kq k k' with
  |false=>rw[hk]at h;cases h
  |true=>
   rw[hk]at h
   have:=kq_eq hk;subst this
   exact pint_ok A E h hq
 ·split at h<;>simp only[a02,a04,reduceCtorEq]at h
  ·obtain⟨rfl,_⟩:=h;exact ap_eqS A E
  ·obtain⟨rfl,_⟩:=h;exact ap_neS A E
  ·obtain⟨rfl,_⟩:=h;exact ap_ltS A E
  ·obtain⟨rfl,_⟩:=h;exact ap_leS A E
  obtain⟨rfl,rfl⟩:=h;exact jD A E hq
 ·cases Z:isBT P t with
  |false=>rw[Z]at h;cases h
  |true=>
   rw[Z]at h
   simp only[cond_true]at h
   split at h<;>simp only[a02,a04,reduceCtorEq]at h
   ·obtain⟨rfl,_⟩:=h;exact ap_boolEq A E (fun a b=>(bool_run Z).1)
   obtain⟨rfl,_⟩:=h;exact ap_boolNe A E (fun a b=>(bool_run Z).2)
 ·split at h<;>simp only[a02,a04,reduceCtorEq]at h;obtain⟨rfl,rfl⟩:=h;exact hq ρ x y yt d ty pos af gd H A E
 ·split at h<;>simp only[a02,a04,reduceCtorEq]at h
  ·rename_i O;obtain⟨rfl,_⟩:=h;exact U _ _ _ A E (.inl ⟨_,V⟩) O (fun _=>rfl) (fun e=>by cases e) (.inl V)
  rename_i O;obtain⟨rfl,_⟩:=h;exact U _ _ _ A E (.inl ⟨_,V⟩) O (fun e=>by cases e) (fun _=>rfl) (.inr V)
 ·split at h<;>simp only[a02,a04,reduceCtorEq]at h
  ·rename_i O;obtain⟨rfl,_⟩:=h;exact U _ _ _ A E (.inr ⟨_,_,_,V⟩) O (fun _=>rfl) (fun e=>by cases e) (.inl V)
  rename_i O;obtain⟨rfl,_⟩:=h;exact U _ _ _ A E (.inr ⟨_,_,_,V⟩) O (fun e=>by cases e) (fun _=>rfl) (.inr V)
 cases h
theorem pun_ok{op:UnOp}{a:Value}(A:ρ x=a)(h:pun hi op a=some (v,q))(E:dV q):AP P ρ ⟨d,.unOp op t x,ty,pos,af,gd⟩ H (.val v,H):=by
 unfold pun at h;split at h
 ·simp only[a02,a04]at h;obtain⟨rfl,_⟩:=h;exact gE A
 ·rw[mH h E];exact ap_neg A
 ·rw[bi_ok h E];exact ap_cpl A
 cases h
theorem pconv_ok(hW:W.OK P G0 K d_)(hH:d_ H){s:TypeId}{a:Value}(O:ρ x=a)(h:pconv P W hi s t a=some (v,q))(A:dV q):AP P ρ ⟨d,.convert s t x,ty,pos,af,gd⟩ H (.val v,H):=by
 unfold pconv at h;split at h
 ·split at h
  ·rename_i U Z;rw[mH h A];exact ap_conv O U Z
  cases h
 ·split at h
  ·simp only[a02,a04]at h;obtain⟨rfl,rfl⟩:=h;refine⟨?_⟩;show fc P ρ _ s t (ρ x) H=_;rw[O];show ovl (cF P s t _ _ H) H=_;have E:cF P s t _ _ H=_:=hW.cv A H hH;rw[E];rfl
  cases h
 cases h
theorem ppick_ok{g:Bool}{a b v:Value}(h:ppick g a b=some v):v=bif g then a else b:=by
 unfold ppick at h;split at h
 ·simp only[a02]at h;subst h;cases g<;>rfl
 ·rename_i k x E y;cases A:kq k E with
  |false=>rw[A]at h;cases h
  |true=>
   rw[A]at h
   have:=kq_eq A;subst this
   simp only[cond_true,a02]at h;subst h;cases g<;>rfl
 ·simp only[a02]at h;subst h;cases g<;>rfl
 cases h
theorem ppk_ok{g:Bool}{a b:Operand}{v:Value}{r:Operand->Value}(hc: ∀w,r (.const w)=w)(h:ppk a b g (r a) (r b)=some v):v=bif g then r a else r b:=by
 unfold ppk at h;split at h
 ·rename_i x e;simp only[a02]at h;subst h;rw[hc,e];cases g<;>rfl
 split at h
 ·rename_i y e _;simp only[a02]at h;subst h;rw[hc,e];cases g<;>rfl
 exact ppick_ok h
theorem pidx_ok{i:Operand}{a b:Value}(O:ρ x=a)(A:ρ i=b)(h:pidx P t a b=some (v,q))(U:dV q):AP P ρ ⟨d,.index t x i,ty,pos,af,gd⟩ H (.val v,H):=by
 unfold pidx at h;split at h
 ·rename_i s _ j;split at h
  ·rename_i E;simp only[a02,a04]at h;obtain⟨rfl,rfl⟩:=h;obtain⟨Z,q2⟩:=U;have q3:j<(s.length:Int):=q2;exact ap_idxS (s:=s) O A E Z (bC M)
  cases h
 ·split at h
  ·rename_i E;simp only[a02,a04]at h;obtain⟨rfl,rfl⟩:=h;exact ap_ixG O A E
  cases h
 cases h
theorem pidxA_ok{i:Operand}{a b:Value}(hx:ρ x=a)(A:ρ i=b)(h:pidxA P t a b=some (v,q))(Z:dV q):AP P ρ ⟨d,.indexAddr t x i,ty,pos,af,gd⟩ H (.val v,H):=by
 unfold pidxA at h;split at h
 ·split at h
  ·rename_i E;split at h
   ·rename_i O;simp only[a02,a04]at h;obtain⟨rfl,rfl⟩:=h;obtain⟨b,o,n,k,e,U,q2,q3⟩:=Z;cases e
    exact jQ hx A E O U q2 q3
   cases h
  cases h
 ·split at h
  ·rename_i E;split at h
   ·rename_i O;simp only[a02,a04]at h;obtain⟨rfl,rfl⟩:=h;obtain⟨U,q2⟩:=Z;refine⟨?_⟩;rename_i kk j n e z _;obtain⟨m,rfl⟩:=a0K U;show ovl (cu P t (ρ x) (ρ i)) H=_;rw[hx,A];unfold cu;rw[E];have h3:Nat.ble (m+1) n=true:=a0t M;show ovl (match cT P e with|some sz=>bif Nat.ble (m+1) n then some (.pointer (some ⟨_,_+m *sz,none⟩)) else none|none=>none) H=_;rw[O];simp only[h3,cond_true];rfl
   cases h
  cases h
 cases h
theorem sl_str{lo hi:Option Operand}{s:ByteArray}{i j:Nat}(hx:ρ x= .string s)(Z:P.underlying t=some .string)(E:bZ s.data.toList.length (hi.map ρ)=some j)(O:bZ 0 (lo.map ρ)=some i)(A:i<=j)(U:j<=s.data.toList.length):
  AP P ρ ⟨d,.slice t x lo hi none,ty,pos,af,gd⟩ H (.val (.string ⟨⟨(s.data.toList.drop i).take (j-i)⟩⟩),H):=by
 obtain⟨⟨s⟩⟩:=s
 exact ap_slS hx Z E O A U
theorem pslice_ok(hW:W.OK P G0 K d_)(hH:d_ H){lo A:Option Operand}{a:Value}(U:ρ x=a)(h:pslice P W hi t a (lo.map ρ) (A.map ρ)=some (v,q))(hq:dV q):AP P ρ ⟨d,.slice t x lo A none,ty,pos,af,gd⟩ H (.val v,H):=by
 unfold pslice at h;split at h
 ·rename_i s;split at h
  ·rename_i h1;split at h
   ·rename_i E O;simp only[a02,a04]at h;obtain⟨rfl,rfl⟩:=h;have:=sl_str (d:=d) (ty:=ty) (pos:=pos) (af:=af) (gd:=gd) (H:=H) (lo:=lo) (hi:=A) (i:=0) (s:=⟨⟨s⟩⟩) (j:=s.length) U h1 (by rw[O];rfl) (by rw[E];rfl) (a0r _) (a08 _);rw[a0I,a1h,a0T]at this;exact this
   ·rename_i k i E O;simp only[a02,a04]at h;obtain⟨rfl,rfl⟩:=h;obtain⟨Z,q2⟩:=hq;have:=sl_str (d:=d) (ty:=ty) (pos:=pos) (af:=af) (gd:=gd) (H:=H) (lo:=lo) (hi:=A) (i:=i.toNat) (s:=⟨⟨s⟩⟩) (j:=s.length) U h1 (by rw[O];rfl) (by rw[E];exact optN Z) M (a08 _);rw[a0q (by rw[a1y];exact a08 _)]at this;exact this
   ·rename_i k j E O;simp only[a02,a04]at h;obtain⟨rfl,rfl⟩:=h;obtain⟨Z,q2⟩:=hq;have:=sl_str (d:=d) (ty:=ty) (pos:=pos) (af:=af) (gd:=gd) (H:=H) (lo:=lo) (hi:=A) (i:=0) (j:=j.toNat) (s:=⟨⟨s⟩⟩) U h1 (by rw[O];exact optN Z) (by rw[E];rfl) (a0r _) (show j.toNat<=s.length by omega);simpa using this
   ·rename_i k i k' j E O;simp only[a02,a04]at h;obtain⟨rfl,rfl⟩:=h;obtain⟨Z,q2,q3⟩:=hq;exact sl_str (s:=⟨⟨s⟩⟩) (lo:=lo) (hi:=A) (i:=i.toNat) (j:=j.toNat) U h1 (by rw[O];exact optN M) (by rw[E];exact optN Z) M (show j.toNat<=s.length by omega)
   cases h
  cases h
 split at h
 ·simp only[a02,a04]at h;obtain⟨rfl,rfl⟩:=h;refine⟨?_⟩;show ovl (bj P t (ρ x) (lo.map ρ) (A.map ρ) (Option.map ρ none) H) H=_;have ar:bj P t _ (lo.map ρ) (A.map ρ) none H=_:=hW.sl hq H hH;rw[U,a1K,ar];rfl
 cases h
theorem plen_ok{a:Value}(E:ρ x=a)(h:plen P t a=some (v,q)):AP P ρ ⟨d,.call ⟨.builtin .len, #[x], #[t]⟩,ty,pos,af,gd⟩ H (.val v,H):=by
 unfold plen at h;split at h
 ·rename_i s;split at h
  ·rename_i A;simp only[a02,a04]at h;obtain⟨rfl,rfl⟩:=h;exact ap_lenS (s:=s) E A
  cases h
 ·split at h
  ·rename_i A;simp only[a02,a04]at h;obtain⟨rfl,rfl⟩:=h;refine⟨?_⟩;show ovl (aLen P t (ρ x) H) H=_;rw[E];unfold aLen;rw[A];rfl
  cases h
 cases h
inductive PRes(P:Program)(G0:Nat)(K:bp)(d_:Heap->Prop)(ρ:Operand->Value)(o:Oper)(H:Heap)(v:Value):Prop where
 |val (h:AP P ρ o H (.val v,H))
 |call (g:FuncId) (args:List Value) (h:AP P ρ o H (.enter g args,H)) (hk:gk o.op=true) (hc:C P G0 K g args H fun v' H'=>v'=v/\d_ H')
theorem mh{ρ ρ':Operand->Value}: ∀{l:List Operand},(∀x,x∈l->ρ x=ρ' x)->dM ρ l=dM ρ' l
 | [],_=>rfl
 |x::l,h=>by show ρ x::dM ρ l=ρ' x::dM ρ' l;rw[h x (by simp),mh fun y A=>h y (by simp[A])]
theorem pmm_ok{w:Bool}{y:Operand}{A:Array TypeId}{a b:Value}(E:ρ x=a)(O:ρ y=b)(h:pmm w a b=some (v,q)):AP P ρ ⟨d,.call ⟨.builtin (bif w then .min else .max), #[x,y],A⟩,ty,pos,af,gd⟩ H (.val v,H):=by
 unfold pmm at h;split at h
 ·rename_i k n k' m;simp only[a02,a04]at h;obtain⟨rfl,rfl⟩:=h;have h1:([ρ x,ρ y].all fun z=>jr z)=true:=by simp[E,O,jr,dx]
  cases w with
  |true=>
   refine⟨?_⟩
   show bA P ρ ⟨d,.call ⟨.builtin .min, #[x,y],A⟩,ty,pos,af,gd⟩ H=_
   unfold bA
   have Z:((Op.call ⟨.builtin .min, #[x,y],A⟩).operands.toList.all fun x=>jr (ρ x))=true:=by simp[Op.operands,Call.operands,E,O,jr,dx]
   simp only[Z,cond_true]
   have U:aB P (execOp ρ ⟨d,.call ⟨.builtin .min, #[x,y],A⟩,ty,pos,af,gd⟩)=some (.value (.int k (if m<n then m else n))):=by unfold execOp;simp[resolve,invoke,builtin,Builtin.min_,Builtin.min2,E,O]
   rw[U];rfl
  |false=>
   refine⟨?_⟩
   show bA P ρ ⟨d,.call ⟨.builtin .max, #[x,y],A⟩,ty,pos,af,gd⟩ H=_
   unfold bA
   have Z:((Op.call ⟨.builtin .max, #[x,y],A⟩).operands.toList.all fun x=>jr (ρ x))=true:=by simp[Op.operands,Call.operands,E,O,jr,dx]
   simp only[Z,cond_true]
   have U:aB P (execOp ρ ⟨d,.call ⟨.builtin .max, #[x,y],A⟩,ty,pos,af,gd⟩)=some (.value (.int k (if m>n then m else n))):=by unfold execOp;simp[resolve,invoke,builtin,Builtin.max_,Builtin.max2,E,O]
   rw[U];rfl
 cases h
theorem pcall_ok(hW:W.OK P G0 K d_)(hH:d_ H){ρ ρ':Operand->Value}{c:Call}(A: ∀x,x∈(Op.call c).operands.toList->ρ x=ρ' x)(h:pcall P W hi ρ' c=some (v,q))(hq:dV q):
  PRes P G0 K d_ ρ ⟨d,.call c,ty,pos,af,gd⟩ H v:=by
 obtain⟨O,args,E⟩:=c
 cases O with
 |builtin b=>
  cases b with
  |len=>
   obtain⟨E⟩:=E
   obtain⟨args⟩:=args
   simp only[pcall]at h
   split at h
   ·exact .val (plen_ok (A _ (by simp[Op.operands,Call.operands])) h)
   cases h
  |min=>
   obtain⟨args⟩:=args
   simp only[pcall]at h
   split at h
   ·exact .val (pmm_ok (w:=true) (A _ (by simp[Op.operands,Call.operands])) (A _ (by simp[Op.operands,Call.operands])) h)
   cases h
  |max=>
   obtain⟨args⟩:=args
   simp only[pcall]at h
   split at h
   ·exact .val (pmm_ok (w:=false) (A _ (by simp[Op.operands,Call.operands])) (A _ (by simp[Op.operands,Call.operands])) h)
   cases h
  |_=>cases h
 |value f=>
  simp only[pcall]at h
  split at h
  ·rename_i Z;simp only[a02,a04]at h;obtain⟨rfl,rfl⟩:=h;refine .call _ _ ⟨?_⟩ V (hW.cl hq H hH);show fH (fO P (ρ f) (dM ρ args.toList)) H=_;rw[A f (by simp[Op.operands,Call.operands]),mh (ρ':=ρ') (fun x U=>A x (by simp[Op.operands,Call.operands]at U⊢;exact .inr U)),Z];rfl
  cases h
 |invoke r m=>cases h
theorem pop_ok(hW:W.OK P G0 K d_)(Z:d_ H){ρ ρ':Operand->Value}{op:Op}(A: ∀x,x∈op.operands.toList->ρ x=ρ' x)(h:pop P W hi ρ' op=some (v,q))(U:dV q):
  PRes P G0 K d_ ρ ⟨d,op,ty,pos,af,gd⟩ H v:=by
 cases op with
 |move x=>
  simp only[pop,a02,a04]at h;obtain⟨rfl,rfl⟩:=h
  exact .val (ap_move (A x (by simp[Op.operands])))
 |assign x=>
  simp only[pop,a02,a04]at h;obtain⟨rfl,rfl⟩:=h
  exact .val (lC (A x (by simp[Op.operands])))
 |binOp op t x y yt=>exact .val (pbin_ok (A x (by simp[Op.operands])) (A y (by simp[Op.operands])) h U)
 |unOp op t x=>exact .val (pun_ok (A x (by simp[Op.operands])) h U)
 |convert s t x=>exact .val (pconv_ok hW Z (A x (by simp[Op.operands])) h U)
 |load t a=>
  simp only[pop]at h
  split at h
  ·simp only[a02,a04]at h;obtain⟨rfl,rfl⟩:=h;refine .val ⟨?_⟩;show eu P t (ρ a) H=_;rw[A a (by simp[Op.operands])];exact hW.ld U H Z
  cases h
 |lookup t m x ok=>
  simp only[pop]at h
  split at h
  ·simp only[a02,a04]at h;obtain⟨rfl,rfl⟩:=h;refine .val ⟨?_⟩;show ovl (dl P t (ρ m) (ρ x) ok H) H=_;rw[A m (by simp[Op.operands]),A x (by simp[Op.operands]),hW.lk U H Z];rfl
  cases h
 |index t x i=>exact .val (pidx_ok (A x (by simp[Op.operands])) (A i (by simp[Op.operands])) h U)
 |indexAddr t x i=>exact .val (pidxA_ok (A x (by simp[Op.operands])) (A i (by simp[Op.operands])) h U)
 |field t x f=>
  simp only[pop,optV]at h
  split at h
  ·rename_i E;simp only[a02,a04]at h;obtain⟨rfl,rfl⟩:=h;exact .val (ap_fv (A x (by simp[Op.operands])) E)
  cases h
 |fieldAddr s x f=>
  simp only[pop,optV]at h
  split at h
  ·rename_i E;simp only[a02,a04]at h;obtain⟨rfl,rfl⟩:=h;refine .val ⟨?_⟩;show ovl (jb P s (ρ x) f) H=_;rw[A x (by simp[Op.operands]),E];rfl
  cases h
 |extract x i=>
  simp only[pop,optV]at h
  split at h
  ·rename_i E;simp only[a02,a04]at h;obtain⟨rfl,rfl⟩:=h;exact .val (ap_ex (A x (by simp[Op.operands])) E)
  cases h
 |build t parts=>
  have an:parts.map (fun p=>(p.1,ρ p.2))=parts.map (fun p=>(p.1,ρ' p.2)):=by apply a1T;intro p hp;rw[A p.2 (by simp only[Op.operands,a0v];exact⟨p,by simpa using hp,V⟩)]
  simp only[pop,optV]at h
  split at h
  ·rename_i z hz;split at h
   ·rename_i cs E;simp only[a02,a04]at h;obtain⟨rfl,rfl⟩:=h;exact .val (lB an hz (bldL_ok (by rw[io]at E;rw[a1Q];exact E)))
   split at h
   ·rename_i E;simp only[a02,a04]at h;obtain⟨rfl,rfl⟩:=h;exact .val (lB an hz E)
   cases h
  cases h
 |slice t x lo hi2 mx=>
  cases mx with
  |some _=>simp only[pop]at h;cases h
  |none=>
   simp only[pop]at h
   have e1:lo.map ρ=lo.map ρ':=by
    cases lo with
    |none=>rfl
    |some o=>simp only[a1B];rw[A o (by simp[Op.operands])]
   have e2:hi2.map ρ=hi2.map ρ':=by
    cases hi2 with
    |none=>rfl
    |some o=>simp only[a1B];rw[A o (by simp[Op.operands])]
   rw[←e1,←e2]at h
   exact .val (pslice_ok hW Z (A x (by simp[Op.operands])) h U)
 |call c=>exact pcall_ok hW Z A h U
 |nilCheck x=>
  simp only[pop]at h
  have O:=A x (by simp[Op.operands])
  split at h
  ·rename_i a ha;simp only[a02,a04]at h;obtain⟨rfl,rfl⟩:=h;refine .val ⟨?_⟩;show opNil (ρ x) H=_;rw[O,ha];rfl
  ·rename_i f a c ha;simp only[a02,a04]at h;obtain⟨rfl,rfl⟩:=h;refine .val ⟨?_⟩;show opNil (ρ x) H=_;rw[O,ha];rfl
  cases h
 |makeFunc fn first cap=>
  simp only[pop,a02,a04]at h;obtain⟨rfl,rfl⟩:=h
  refine .val ⟨?_⟩
  show some (AN.val (.func fn (first.map ρ) (cap.map ρ)),H)=_
  have e1:first.map ρ=first.map ρ':=a1T fun x O=>A x (by simp[Op.operands]at O⊢;first|exact .inl O|exact .inr O)
  have e2:cap.map ρ=cap.map ρ':=a1T fun x O=>A x (by simp[Op.operands]at O⊢;first|exact .inl O|exact .inr O)
  rw[e1,e2]
 |_=>cases h
end
end Go.R
end
noncomputable section
namespace Go.R
structure SS.Rel(S:SS)(f fr:Fn):Prop where
 sl: ∀t c v,lk S.m t=some (c,v)->fr t=(bif act S.G c then v else undef)
 no: ∀t,lk S.m t=none->fr t=f t
 gs: ∀s g,gl S.G s=some g->(∃c,lk S.m s=some (c,.bool g))\/(lk S.m s=none/\f s= .bool g)
 ks: ∀t c v,lk S.m t=some (c,v)->∀s w,(s,w)∈c->∃g,gl S.G s=some g
theorem gl_add{G:List (Nat×Bool)}{d s:Nat}{g r:Bool}(h:gl G s=some r):gl (ky G d g) s=some r:=by
 unfold ky;split
 ·exact h
 rename_i E;show(bif Nat.beq d s then some g else gl G s)=_;cases A:Nat.beq d s with
 |true=>have:=a07 A;subst this;rw[E]at h;cases h
 |false=>exact h
theorem lj{G:List (Nat×Bool)}{d:Nat}{g:Bool}(h: ∀r,gl G d=some r->r=g):gl (ky G d g) d=some g:=by
 unfold ky;split
 ·rename_i r A;rw[A,h r A]
 show(bif Nat.beq d d then some g else gl G d)=_;rw[a0Y];rfl
theorem gl_add_inv{G:List (Nat×Bool)}{d s:Nat}{g r:Bool}(h:gl (ky G d g) s=some r):gl G s=some r\/(s=d/\r=g):=by
 unfold ky at h;split at h
 ·exact .inl h
 have A:(bif Nat.beq d s then some g else gl G s)=some r:=h;cases E:Nat.beq d s with
 |true=>rw[E]at A;exact .inr ⟨(a07 E).symm,(Option.some.inj A).symm⟩
 |false=>rw[E]at A;exact .inl A
theorem nN{G:List (Nat×Bool)}{d:Nat}{g:Bool}: ∀{c:Ch},(∀s w,(s,w)∈c->∃r,gl G s=some r)->act (ky G d g) c=act G c
 | [],_=>rfl
 |(s,w)::c,h=>by
  obtain⟨r,A⟩:=h s w (by simp);show((match gl (ky G d g) s with|some g=>bq g w|none=>false)&&act (ky G d g) c)=((match gl G s with|some g=>bq g w|none=>false)&&act G c)
  rw[gl_add A,A,nN fun s w E=>h s w (by simp[E])]
theorem act_mem{G:List (Nat×Bool)}: ∀{c:Ch} {s:Nat} {w:Bool},act G c=true->memC s w c=true->gl G s=some w
 |(s',w')::c,s,w,h,A=>by
  simp only[act,a06]at h;simp only[memC,a0P,a06]at A;rcases A with⟨Z,h2⟩|A
  ·have O:=a07 Z;have U:=bq_eq h2;subst O U;have E:=h.1;split at E
   ·rename_i g hg;rw[hg,bq_eq E]
   cases E
  exact act_mem h.2 A
 | [],s,w,_,A=>by cases A
theorem act_sub{G:List (Nat×Bool)}: ∀{a c:Ch},act G c=true->subC a c=true->act G a=true
 | [],_,_,_=>rfl
 |(s,w)::a,c,h,hs=>by simp only[subC,a06]at hs;have A:=act_mem h hs.1;simp only[act,A,act_sub h hs.2,a0A];cases w<;>rfl
theorem impl_act{G:List (Nat×Bool)}{p:Prop}: ∀{c:Ch},act G c=true->impl G c p->p
 | [],_,h=>h
 |(s,w)::c,ha,h=>by
  simp only[act,a06]at ha;obtain⟨A,E⟩:=ha;unfold impl at h;split at A
  ·rename_i g O;rw[O]at h;exact impl_act E (h (bq_eq A))
  cases A
section
variable {P:Program} {G0:Nat} {K:bp} {d_:Heap->Prop} {W:FW} {sz:Nat} {Q:Ex->Fn->Heap->Prop} {ops:Array Oper} {os:List Oper} {k:List Fr} {f fr:Fn} {H:Heap} {S S':SS}
theorem SS.Rel.add(h:S.Rel f fr){d:Nat}{g:Bool}(hd:(∃c,lk S.m d=some (c,.bool g))\/(lk S.m d=none/\f d= .bool g)):SS.Rel ⟨S.m,ky S.G d g⟩ f fr:=by
 refine⟨fun t c v A=>?_,h.no,fun s r E=>?_,fun t c v A s w O=>?_⟩
 ·rw[h.sl t c v A];show _=bif act (ky S.G d g) c then v else undef
  rw[nN (h.ks t c v A)]
 ·rcases gl_add_inv E with h1|⟨rfl,rfl⟩
  ·exact h.gs s r h1
  exact hd
 obtain⟨r,E⟩:=h.ks t c v A s w O;exact⟨r,gl_add E⟩
theorem SS.Rel.same(h:S.Rel f fr){d:Nat}{g:Bool}(hd:(∃c,lk S.m d=some (c,.bool g))\/(lk S.m d=none/\f d= .bool g)): ∀r,gl S.G d=some r->r=g:=by
 intro r Z;rcases h.gs d r Z with⟨c,E⟩|⟨E,U⟩<;>rcases hd with⟨c',A⟩|⟨A,O⟩
 ·rw[E]at A;simp only[a02,a04,Value.bool.injEq]at A;exact A.2
 ·rw[E]at A;cases A
 ·rw[E]at A;cases A
 rw[U]at O;simpa using O
structure GOK(ops:Array Oper)(f fr:Fn)(S:SS)(g:Option (Nat×Bool))(c:Ch)(G1:List (Nat×Bool)):Prop where
 rel:SS.Rel ⟨S.m,G1⟩ f fr
 ks: ∀s w,(s,w)∈c->∃g,gl G1 s=some g
 on:act G1 c=true->match g with
  |none=>True
  |some (j,w)=>cy ops fr j=some w
 off:act G1 c=false->match g with
  |none=>False
  |some (j,w)=>cy ops fr j=none\/cy ops fr j=some (!w)
theorem fN(hr:S.Rel f fr){g:Option (Nat×Bool)}{c:Ch}{G1:List (Nat×Bool)}(h:nD ops f S g=some (c,G1)):GOK ops f fr S g c G1:=by
 unfold nD at h;split at h
 ·simp only[a02,a04]at h;obtain⟨rfl,rfl⟩:=h;exact⟨hr,fun s w O=>by simp at O,fun _=>trivial,fun h=>by cases h⟩
 rename_i j w;split at h
 ·rename_i d hd;have key: ∀(A:Ch) (γ:Bool),((∃c,lk S.m d=some (c,.bool γ))\/(lk S.m d=none/\f d= .bool γ))->(∀s w,(s,w)∈A->∃g,gl S.G s=some g)->(fr d=bif act S.G A then .bool γ else undef)->GOK ops f fr S (some (j,w)) ((d,w)::A) (ky S.G d γ):=by
   intro A γ ar ax E;have hG:=lj (G:=S.G) (d:=d) (g:=γ) (hr.same ar);have ha:act (ky S.G d γ) ((d,w)::A)=(bq γ w&&act S.G A):=by show((match gl (ky S.G d γ) d with|some g=>bq g w|none=>false)&&act (ky S.G d γ) A)=_;rw[hG,nN ax]
   have hy: ∀v,fr d=v->cy ops fr j=match v with| .bool b=>some b|_=>none:=by intro v hv;unfold cy;rw[hd];show(match fr d with| .bool b=>some b|_=>none)=_;rw[hv]
   refine⟨hr.add ar,fun s w' O=>?_,fun an=>?_,fun U=>?_⟩
   ·rcases a0o.1 O with e|O
    ·injection e with e1 e2;subst e1;exact⟨γ,hG⟩
    obtain⟨r,a4⟩:=ax s w' O;exact⟨r,gl_add a4⟩
   ·rw[ha,a06]at an;rw[an.2]at E;show cy ops fr j=some w;rw[hy _ E,bq_eq an.1];rfl
   rw[ha]at U;show cy ops fr j=none\/cy ops fr j=some (!w);cases hc:act S.G A with
   |false=>rw[hc]at E;left;rw[hy _ E];rfl
   |true=>
    rw[hc]at E U
    right
    rw[hy _ E]
    cases γ<;>cases w<;>first|rfl|cases U
  split at h
  ·rename_i A γ Z;simp only[a02,a04]at h;obtain⟨rfl,rfl⟩:=h;exact key A γ (.inl ⟨_,Z⟩) (hr.ks d A _ Z) (hr.sl d A _ Z)
  ·cases h
  rename_i Z;split at h
  ·rename_i γ hf;simp only[a02,a04]at h;obtain⟨rfl,rfl⟩:=h;exact key [] γ (.inr ⟨Z,hf⟩) (fun s w O=>by simp at O) (by rw[hr.no d Z,hf];rfl)
  cases h
 cases h
theorem kP{m:List (Nat×Ch×Value)}{G:List (Nat×Bool)}{q q':Option Prop}{c:Ch}{d:Nat}{v:Value}(hr:SS.Rel ⟨m,G⟩ f fr)(hk: ∀s w,(s,w)∈c->∃g,gl G s=some g)(h:putS q c G m d v=some (S',q')):
  SS.Rel S' f (upd fr d (bif act G c then v else undef))/\(dV q'->act G c=true->dV q):=by
 unfold putS at h
 simp only[mr]at h
 split at h
 ·cases h
 rename_i hd
 simp only[a02,a04]at h
 obtain⟨rfl,rfl⟩:=h
 refine⟨⟨fun t O v' U=>?_,fun t U=>?_,fun s g hg=>?_,fun t O v' U s w hm=>?_⟩,fun hq ha=>?_⟩
 ·have A:(bif Nat.beq d t then some (c,v) else lk m t)=some (O,v'):=U;unfold upd;cases E:Nat.beq d t with
  |true=>
   rw[E]at A
   simp only[cond_true,a02,a04]at A
   obtain⟨rfl,rfl⟩:=A
   rfl
  |false=>rw[E]at A;exact hr.sl t O v' A
 ·have A:(bif Nat.beq d t then some (c,v) else lk m t)=none:=U;unfold upd;cases E:Nat.beq d t with
  |true=>rw[E]at A;cases A
  |false=>rw[E]at A;exact hr.no t A
 ·have ax:Nat.beq d s=false:=by
   cases E:Nat.beq d s with
   |false=>rfl
   |true=>have:=a07 E;subst this;rw[hd]at hg;cases hg
  have e:lk ((d,c,v)::m) s=lk m s:=by show(bif Nat.beq d s then some (c,v) else lk m s)=_;rw[ax];rfl
  rcases hr.gs s g hg with⟨c0,Z⟩|Z
  ·exact .inl ⟨c0,e.trans Z⟩
  exact .inr ⟨e.trans Z.1,Z.2⟩
 ·have A:(bif Nat.beq d t then some (c,v) else lk m t)=some (O,v'):=U;cases E:Nat.beq d t with
  |true=>
   rw[E]at A
   simp only[cond_true,a02,a04]at A
   obtain⟨rfl,rfl⟩:=A
   exact hk s w hm
  |false=>rw[E]at A;exact hr.ks t O v' A s w hm
 cases q with
 |none=>trivial
 |some p=>exact impl_act ha hq
theorem rd_ok(O:S.Rel f fr){c:Ch}(Z:act S.G c=true){x:Operand}(hx:S.can c x=true):cS fr x=S.rd f x:=by
 cases x with
 |tmp t=>
  show fr t=match lk S.m t with|some x=>x.2|none=>f t
  have A:(match lk S.m t with|some x=>subC x.1 c|none=>true)=true:=hx
  cases E:lk S.m t with
  |none=>exact O.no t E
  |some y=>
   obtain⟨U,v⟩:=y
   rw[E]at A
   rw[O.sl t U v E,act_sub Z A];rfl
 |_=>rfl
theorem gK(hW:W.OK P G0 K d_){o:Oper}{q:Option Prop}{hi:Hint}(hr:S.Rel f fr)(h:stepS P G0 W sz ops f S hi o=some (S',q))(hq:dV q):
  ∃d c A v,o.dst=some d/\Nat.ble (d+1) sz=true/\o.op.operands.toList.all (bd G0)=true/\nD ops f S o.guard=some (c,A)/\
   (act A c=true->∀H,d_ H->PRes P G0 K d_ (cS fr) ⟨some d,o.op,o.type,o.pos,o.after,none⟩ H v)/\SS.Rel S' f (upd fr d (bif act A c then v else undef)):=by
 unfold stepS at h
 simp only[fcH_eq,fcV_eq]at h
 split at h
 ·cases h
 rename_i d hd
 cases U:(Nat.ble (d+1) sz&&o.op.operands.toList.all (bd G0)) with
 |false=>rw[U]at h;cases h
 |true=>
  rw[U]at h
  simp only[cond_true]at h
  rw[a06]at U
  split at h
  ·cases h
  rename_i c A hc
  have O:=fN hr hc
  split at h
  ·rename_i s a b a5;split at h
   ·rename_i cc γ hl;cases E:(subC cc c&&(S.can ((s,true)::c) a&&S.can ((s,false)::c) b)) with
    |false=>rw[E]at h;cases h
    |true=>
     rw[E]at h
     simp only[cond_true]at h
     simp only[a06]at E
     split at h
     ·rename_i v hv;have a0:(∃c,lk S.m s=some (c,.bool γ))\/(lk S.m s=none/\f s= .bool γ):= .inl ⟨_,hl⟩;have ar:=SS.Rel.add (S:=⟨S.m,A⟩) O.rel (d:=s) (g:=γ) a0;have hG:=lj (G:=A) (d:=s) (g:=γ) (O.rel.same a0);have a1: ∀s' w,(s',w)∈c->∃g,gl (ky A s γ) s'=some g:=fun s' w hm=>by obtain⟨r,a6⟩:=O.ks s' w hm;exact⟨r,gl_add a6⟩
      have al:act (ky A s γ) c=act A c:=nN O.ks;obtain⟨h1,_⟩:=kP ar a1 h;rw[al]at h1;refine⟨d,c,A,v,hd,U.1,U.2,hc,fun Z H hH=>?_,h1⟩;refine .val ⟨?_⟩;rw[a5];show gn (cS fr) (.tmp s) a b H=_;have e0:cS fr (.tmp s)= .bool γ:=by have:=O.rel.sl s cc _ hl;rw[act_sub Z E.1]at this;exact this
      unfold gn;rw[e0];show some (AN.val (bif γ then cS fr a else cS fr b),H)=_;rw[ppk_ok (fun _=>rfl) hv];have an: ∀(w:Bool) (x:Operand),γ=w->S.can ((s,w)::c) x=true->cS fr x=S.rd f x:=by intro w x hw hx;have a7:SS.Rel ⟨S.m,ky A s γ⟩ f fr:=ar;refine rd_ok (S:=⟨S.m,ky A s γ⟩) a7 (c:=(s,w)::c) ?_ hx;show((match gl (ky A s γ) s with|some g=>bq g w|none=>false)&&act (ky A s γ) c)=true;rw[hG,al,Z,hw];cases w<;>rfl
      cases γ with
      |true=>rw[cond_true,cond_true,an true a V E.2.1]
      |false=>rw[cond_false,cond_false,an false b V E.2.2]
     cases h
   cases h
  cases E:o.op.operands.toList.all (S.can c) with
  |false=>rw[E]at h;cases h
  |true=>
   rw[E]at h
   simp only[cond_true]at h
   split at h
   ·rename_i v q0 hp;obtain⟨h1,h2⟩:=kP O.rel O.ks h;refine⟨d,c,A,v,hd,U.1,U.2,hc,fun Z H hH=>?_,h1⟩;refine pop_ok hW hH (fun x hx=>?_) hp (h2 hq Z);have:=a0u.1 E x hx;exact rd_ok (S:=⟨S.m,A⟩) O.rel Z this
   cases h
theorem wo_do{d:Nat}{o:Oper}{c:Ch}{E:List (Nat×Bool)}{v:Value}(hd:o.dst=some d)(U:Nat.ble (d+1) sz=true)(ho:o.op.operands.toList.all (bd G0)=true)(Z:GOK ops f fr S o.guard c E)
  (hp:act E c=true->∀H,d_ H->PRes P G0 K d_ (cS fr) ⟨some d,o.op,o.type,o.pos,o.after,none⟩ H v) (O:d_ H) (h: ∀H,d_ H->WO P G0 K sz ops os k (upd fr d (bif act E c then v else undef)) H Q):WO P G0 K sz ops (o::os) k fr H Q:=by
 obtain⟨ar,op,ty,pos,af,gd⟩:=o
 simp only at hd ho Z hp
 subst hd
 cases A:act E c with
 |true=>
  rw[A]at h
  have base:WO P G0 K sz ops (⟨some d,op,ty,pos,af,none⟩::os) k fr H Q:=by
   cases hp A H O with
   |val hv=>exact ao hv ho U (h H O)
   |call g args he _ hc=>exact wo_callG he ho U hc (by rintro v' H' ⟨rfl,hJ⟩;exact h H' hJ)
  cases gd with
  |none=>exact base
  |some jw=>
   obtain⟨j,w⟩:=jw
   exact aV (Z.on A) V base
 |false=>
  rw[A]at h
  have:=Z.off A
  cases gd with
  |none=>exact absurd this id
  |some jw=>
   obtain⟨j,w⟩:=jw
   rcases this with h1|h1
   ·exact wo_gn h1 U (h H O)
   exact wo_gf h1 V U (h H O)
def bnD:ID->Bool
 | .x []=>true
 | .x _=>false
 | .s _=>false
 |_=>true
theorem okD_r{i:Nat}: ∀{D:List (Nat×ID)},D.all (fun e=>bnD e.2)=true->okD ops i .r D
 | [],_=>trivial
 |(j,e)::D,h=>by
  simp only[a0f,a06]at h;refine⟨.inr ?_,okD_r h.2⟩;cases e with
  |x W=>
   cases W with
   |nil=>trivial
   |cons a b=>exact absurd h.1 (by simp[bnD])
  |s W=>exact absurd h.1 (by simp[bnD])
  |_=>trivial
theorem okD_x{i:Nat}: ∀{D:List (Nat×ID)},D.all (fun e=>bnD e.2)=true->okD ops i (.x []) D
 | [],_=>trivial
 |(j,e)::D,h=>by
  simp only[a0f,a06]at h;refine⟨.inr ?_,okD_x h.2⟩;cases e with
  |x W=>
   cases W with
   |nil=>exact⟨trivial,trivial⟩
   |cons a b=>exact absurd h.1 (by simp[bnD])
  |s W=>exact absurd h.1 (by simp[bnD])
  |l b=>exact a0a
  |q S=>exact fun b A=>absurd A a0a
  |n B=>exact fun b A=>absurd A a0a
  |_=>trivial
theorem wf_weak{D:List (Nat×ID)}{i j:Nat}{e:ID}(Z: ∀g,e.fits g->gD g=true)(h:WF2 P G0 K sz ops ((j,.r)::D) i os k f H Q):WF2 P G0 K sz ops ((j,e)::D) i os k f H Q:=⟨fun t fs ht A=>by
 refine h.out t fs ht ?_;cases fs with
 |nil=>exact absurd A id
 |cons x fs=>
  obtain⟨a,g⟩:=x
  obtain⟨E,O,U⟩:=A
  exact⟨E,Z g O,U⟩⟩
theorem wf_callx{d:Tmp}{op:Op}{ty:TypeId}{pos:String}{af:Array Edge}{D:List (Nat×ID)}{i:Nat}{v:Value}{g:FuncId}{args:List Value}(ha:AP P (cS f) ⟨some d,op,ty,pos,af,none⟩ {H with log:=[]} (.enter g args,{H with log:=[]}))(ho:op.operands.toList.all (bd G0)=true)(hd:Nat.ble (d+1) sz=true)(hk:gk op=true)
  (hc:C P G0 K g args {H with log:=[]} fun v' H'=>v'=v/\H'={H with log:=[]}) (ax:okD ops i (.x []) D)
  (h:WF2 P G0 K sz ops ((i,.x [])::D) (i+1) os k (upd f d v) H Q):WF2 P G0 K sz ops D i (⟨some d,op,ty,pos,af,none⟩::os) k f H Q:=⟨fun t fs ht Z=>by
 obtain⟨E,v',H2,ar,rfl,rfl⟩:=hc.out
 obtain⟨U,h1,h2⟩:=jJ (s:=⟨t,sz,{H with log:=[]}⟩) (d:=some d) (v:=v') hd
 have hi:=cQ (ops:=ops) (f:=f) (o:=⟨some d,op,ty,pos,af,none⟩) (n:=H.next) (log:=[]) (W:=[]) V hk (fun b hb=>by simp at hb) t sz H ht
 obtain⟨A,e,s',h3,h4⟩:=h.out U ((i,ep ops ⟨some d,op,ty,pos,af,none⟩ ⟨t,sz,H⟩ H.next [])::fs) (by rw[h2,ht];rfl) ⟨V,hi,Z⟩
 refine⟨Nat.max E A,e,s',?_,h4⟩
 have aA:step P G0 (call P G0 K (Nat.max E A)) ops ⟨some d,op,ty,pos,af,none⟩ ⟨t,sz,{H with log:=[]}⟩=some ⟨U,sz,{H with log:=[]}⟩:=by unfold step aW;simp only[cond_true,ho,e9,ht,ha.eq,fy (a1I E A) _ _ _ _ ar];exact h1
 unfold bg hZ
 rw[aA]
 simp only[ea hi Z ax,cond_true,dN,a0i]
 refine eh (a1p (a1j E A)) k _ _ (fun x O=>?_) _ h3
 cases hq:bg P G0 (call P G0 K A) ops (i+1) ((i,ep ops ⟨some d,op,ty,pos,af,none⟩ ⟨t,sz,H⟩ H.next [])::fs) os ⟨U,sz,H⟩ with
 |none=>rw[hq]at O;cases O
 |some y=>
  have:=eV (fy (P:=P) (G:=G0) (K:=K) (a1j E A)) _ _ _ _ _ hq
  rw[hq]at O
  show ef (bg P G0 (call P G0 K (Nat.max E A)) ops (i+1) _ os ⟨U,sz,H⟩)=_
  rw[this];exact O⟩
theorem wf_do{D:List (Nat×ID)}{i d:Nat}{o:Oper}{c:Ch}{U:List (Nat×Bool)}{v:Value}(hD:D.all (fun e=>bnD e.2)=true)(hd:o.dst=some d)(E:Nat.ble (d+1) sz=true)(Z:o.op.operands.toList.all (bd G0)=true)(A:GOK ops f fr S o.guard c U)
  (hp:act U c=true->PRes P G0 K (· ={H with log:=[]}) (cS fr) ⟨some d,o.op,o.type,o.pos,o.after,none⟩ {H with log:=[]} v) (h:WF2 P G0 K sz ops ((i,.r)::D) (i+1) os k (upd fr d (bif act U c then v else undef)) H Q):WF2 P G0 K sz ops D i (o::os) k fr H Q:=by
 obtain⟨aA,op,ty,pos,af,gd⟩:=o
 simp only at hd Z A hp
 subst hd
 cases O:act U c with
 |true=>
  rw[O]at h
  have base:WF2 P G0 K sz ops D i (⟨some d,op,ty,pos,af,none⟩::os) k fr H Q:=by
   cases hp O with
   |val hv=>exact aM (id:= .r) hv Z E (did_r fun b E=>by simp at E) (okD_r hD) h
   |call g args he hk hc=>
    exact wf_callx he Z E hk hc (okD_x hD) (wf_weak (fun g A=>by obtain⟨w,rfl,hw⟩:=A;cases w with
     |nil=>rfl
     |cons a b=>exact absurd (hw a (by simp)) a0a) h)
  cases gd with
  |none=>exact base
  |some jw=>
   obtain⟨j,w⟩:=jw
   exact fY (A.on O) V base
 |false=>
  rw[O]at h
  have:=A.off O
  cases gd with
  |none=>exact absurd this id
  |some jw=>
   obtain⟨j,w⟩:=jw
   have h':=wf_weak (e:= .v) (fun g A=>by rw[show g= .v from A];rfl) h
   rcases this with h1|h1
   ·exact wf_gn h1 E h'
   exact fZ h1 V E h'
theorem fw{q:Option Prop}{p:Prop}(h:andO q p):dV q/\p:=by
 cases q with
 |none=>exact⟨trivial,h⟩
 |some q=>exact h
theorem wo_row(O:W.OK P G0 K d_){hs:List (Nat×Hint)}: ∀{a:List Oper} {i:Nat} {S S':SS} {p:Prop} {fr:Fn} {H:Heap},d_ H->rgL P G0 W sz ops f hs i a S=some (S',p)->p->S.Rel f fr->
  (∀A H,d_ H->S'.Rel f A->WO P G0 K sz ops os k A H Q)->WO P G0 K sz ops (a++os) k fr H Q
 | [],i,S,S',p,fr,H,hH,h,_,hr,hk=>by simp only[rgL,a02,a04]at h;obtain⟨rfl,_⟩:=h;exact hk fr H hH hr
 |o::a,i,S,S',p,fr,H,hH,h,hp,hr,hk=>by
  unfold rgL at h;split at h
  ·cases h
  rename_i S1 q h1;split at h
  ·cases h
  rename_i S2 p2 h2;simp only[a02,a04]at h;obtain⟨rfl,rfl⟩:=h;obtain⟨hq,U⟩:=fw hp;obtain⟨d,c,G1,v,Z,e2,e3,e4,e5,e6⟩:=gK O hr h1 hq;exact wo_do Z e2 e3 (fN hr e4) e5 hH fun H' E=>wo_row O E h2 U e6 hk
def rs(i:Nat):List Oper->List (Nat×ID)->List (Nat×ID)
 | [],D=>D
 |_::a,D=>rs (i+1) a ((i,.r)::D)
theorem wf_row{hs:List (Nat×Hint)}: ∀{a:List Oper} {i:Nat} {D:List (Nat×ID)} {S S':SS} {p:Prop} {fr:Fn},D.all (fun e=>bnD e.2)=true->rgL P G0 (W0 P G0 K {H with log:=[]}) sz ops f hs i a S=some (S',p)->p->S.Rel f fr->
  (∀A,S'.Rel f A->WF2 P G0 K sz ops (rs i a D) (i+a.length) os k A H Q)->WF2 P G0 K sz ops D i (a++os) k fr H Q
 | [],i,D,S,S',p,fr,_,h,_,hr,hk=>by simp only[rgL,a02,a04]at h;obtain⟨rfl,_⟩:=h;exact hk fr hr
 |o::a,i,D,S,S',p,fr,hD,h,hp,hr,hk=>by
  unfold rgL at h;split at h
  ·cases h
  rename_i S1 q h1;split at h
  ·cases h
  rename_i S2 p2 h2;simp only[a02,a04]at h;obtain⟨rfl,rfl⟩:=h;obtain⟨hq,E⟩:=fw hp;obtain⟨d,c,G1,v,U,Z,e3,e4,e5,e6⟩:=gK ok0 hr h1 hq;refine wf_do hD U Z e3 (fN hr e4) (fun ha=>e5 ha _ V) (wf_row (by simp only[a0f,hD,a0A];rfl) h2 E e6 fun A O=>?_);have:=hk A O;rw[a01,show i+(a.length+1)=i+1+a.length by omega]at this;exact this
theorem nv{m:List (Nat×Ch×Value)}{G:List (Nat×Bool)}(E:SS.Rel ⟨m,G⟩ f fr): ∀{A:List Nat} {l:List (Nat×Value)},fins m A=some l->aC fr l
 | [],l,h=>by simp only[fins,a02]at h;subst h;trivial
 |d::A,l,h=>by
  unfold fins at h;split at h
  ·rename_i v l' O U;simp only[a02]at h;subst h;exact⟨by have:=E.sl d [] v O;exact this,nv E U⟩
  cases h
theorem jq{m:List (Nat×Ch×Value)}{G:List (Nat×Bool)}(U:SS.Rel ⟨m,G⟩ f fr){lo hi:Nat}{ex:List Nat}(h:m.all (fun e=>inR lo hi ex e.1)=true):Leaves lo hi ex f fr:=⟨fun j O=>by
 refine U.no j ?_;have key: ∀(m:List (Nat×Ch×Value)),m.all (fun e=>inR lo hi ex e.1)=true->lk m j=none:=by
  intro m;induction m with
  |nil=>intro _;rfl
  |cons e m ih=>
   obtain⟨s,x⟩:=e
   intro A
   simp only[a0f,a06]at A
   show(bif Nat.beq s j then some x else lk m j)=none
   cases E:Nat.beq s j with
   |true=>have:=a07 E;subst this;rw[O]at A;cases A.1
   |false=>exact ih A.2
 exact key m h⟩
theorem rel0:SS.Rel ⟨[],[]⟩ f f:=⟨fun t c v h=>(by cases h),fun _ _=>rfl,fun s g h=>(by cases h),fun t c v h=>(by cases h)⟩
theorem top_ok{i:Nat}{a:List Oper}{hs:List (Nat×Hint)}{lo hi:Nat}{ex O:List Nat}{l:List (Nat×Value)}{p:Prop}(h:fD P G0 W sz ops f i a hs lo hi ex O=some (l,p)):
  ∃S,rgL P G0 W sz ops f hs i a ⟨[],[]⟩=some (S,p)/\∀fr,S.Rel f fr->∃g,fr=gY (hav lo hi ex g f) l:=by
 unfold fD at h
 split at h
 ·cases h
 rename_i S p' U
 cases A:S.m.all (fun e=>inR lo hi ex e.1) with
 |false=>rw[A]at h;cases h
 |true=>
  rw[A]at h
  simp only[cond_true]at h
  split at h
  ·rename_i l' Z;simp only[a02,a04]at h;obtain⟨rfl,rfl⟩:=h;refine⟨S,U,fun fr E=>⟨fr,?_⟩⟩;rw[←(jq E A).eq,fo (nv E Z)]
  cases h
theorem wk_rg{id:Nat}(hs:List (Nat×Hint))(lo hi:Nat)(ex:List Nat){A:List Nat}{l:List (Nat×Value)}{p:Prop}(h:fD P G0 (W0 P G0 K H) sz ops f 0 ops.toList hs lo hi ex A=some (l,p))(Z:p)
  (U: ∀g,WK P G0 K sz .skip k (gY (hav lo hi ex g f) l) H Q):WK P G0 K sz (.region id ops false) k f H Q:=by
 obtain⟨S,E,O⟩:=top_ok h
 refine ab ?_
 have:=wo_row (os:=[]) (k:=k) (Q:=Q) ok0 V E Z rel0 (fun fr H' e hr=>by obtain⟨g,rfl⟩:=O fr hr;subst e;exact aQ (U g))
 rwa [a0l]at this
theorem wk_rgD{id:Nat}(A:(jX ops&&P.follows .mixedOrders)=true)(hs:List (Nat×Hint))(lo hi:Nat)(ex:List Nat){E:List Nat}{l:List (Nat×Value)}{p:Prop}(h:fD P G0 (W0 P G0 K {H with log:=[]}) sz ops f 0 ops.toList hs lo hi ex E=some (l,p))(hp:p)
  (Z: ∀g,WK P G0 K sz .skip k (gY (hav lo hi ex g f) l) H Q):WK P G0 K sz (.region id ops true) k f H Q:=by
 obtain⟨S,O,U⟩:=top_ok h
 refine aq A ?_
 have:=wf_row (os:=[]) (k:=k) (Q:=Q) (D:=[]) V O hp rel0 (fun fr A=>by obtain⟨g,rfl⟩:=U fr A;exact gc (Z g))
 rwa [a0l]at this
theorem wk_rgJ{id:Nat}(d_:Heap->Prop)(hs:List (Nat×Hint))(lo hi:Nat)(ex:List Nat){A:List Nat}{l:List (Nat×Value)}{p:Prop}(U:d_ H)(h:fD P G0 (WJ P G0 K d_) sz ops f 0 ops.toList hs lo hi ex A=some (l,p))(hp:p)
  (Z: ∀g H,d_ H->WK P G0 K sz .skip k (gY (hav lo hi ex g f) l) H Q):WK P G0 K sz (.region id ops false) k f H Q:=by
 obtain⟨S,E,O⟩:=top_ok h
 refine ab ?_
 have:=wo_row (os:=[]) (k:=k) (Q:=Q) okJ U E hp rel0 (fun fr H' e hr=>by obtain⟨g,rfl⟩:=O fr hr;exact aQ (Z g H' e))
 rwa [a0l]at this
theorem wo_rg(n i:Nat)(hs:List (Nat×Hint))(lo hi:Nat)(ex:List Nat){os:List Oper}{A:List Nat}{l:List (Nat×Value)}{p:Prop}(h:fD P G0 (W0 P G0 K H) sz ops f i (dL os n) hs lo hi ex A=some (l,p))(Z:p)
  (U: ∀g,WO P G0 K sz ops (dX os n) k (gY (hav lo hi ex g f) l) H Q):WO P G0 K sz ops os k f H Q:=by
 obtain⟨S,E,O⟩:=top_ok h
 have:=wo_row (os:=dX os n) (k:=k) (Q:=Q) ok0 V E Z rel0 (fun fr H' e hr=>by obtain⟨g,rfl⟩:=O fr hr;subst e;exact U g)
 rwa [bu,bE,a1a]at this
end
end Go.R
end
noncomputable section
namespace Go.R
def foc:Nat->Code->List Fr->Code×List Fr
 |0,c,k=>(c,k)
 |n+1,.seq a b,k=>foc n a (.seq b::k)
 |n+1,.block id b,k=>foc n b (.block id::k)
 |n+1,.skip,.seq b::k=>foc n b k
 |n+1,.skip,.block _::k=>foc n .skip k
 |n+1,.exit id,.seq _::k=>foc n (.exit id) k
 |n+1,.exit id,.block id'::k=>bif Nat.beq id id' then foc n .skip k else foc n (.exit id) k
 |_+1,c,k=>(c,k)
section
variable {P:Program} {G:Nat} {K:bp} {sz:Nat} {Q:Ex->Fn->Heap->Prop} {f:Fn} {H:Heap}
theorem wk_foc': ∀(n:Nat) (c:Code) (k:List Fr),WK P G K sz (foc n c k).1 (foc n c k).2 f H Q->WK P G K sz c k f H Q:=by
 intro n;induction n with
 |zero=>intro c k h;exact h
 |succ n ih=>
  intro c k h
  cases c with
  |seq a b=>exact cx (ih _ _ h)
  |block id b=>exact mN (ih _ _ h)
  |skip=>
   cases k with
   |nil=>exact h
   |cons x k=>
    cases x with
    |seq b=>exact aJ (ih _ _ h)
    |block id=>exact iK (ih _ _ h)
  |exit id=>
   cases k with
   |nil=>exact h
   |cons x k=>
    cases x with
    |seq b=>exact wk_exit_seq (ih _ _ h)
    |block id'=>
     have A:WK P G K sz (bif Nat.beq id id' then foc n .skip k else foc n (.exit id) k).1 (bif Nat.beq id id' then foc n .skip k else foc n (.exit id) k).2 f H Q:=h
     cases E:Nat.beq id id' with
     |true=>
      have:=a07 E
      subst this
      rw[E]at A
      exact mM (ih _ _ A)
     |false=>
      rw[E]at A
      exact jV E (ih _ _ A)
  |_=>exact h
variable {c c1 c2:Code} {k k1 k2:List Fr}
theorem ai(n:Nat)(A:foc n c k=(c1,k1))(h:WK P G K sz c1 k1 f H Q):WK P G K sz c k f H Q:=wk_foc' n c k (by rw[A];exact h)
theorem wk_if(n m:Nat){x:Operand}{a b:Code}{v:Bool}(hx:cS f x= .bool v)(Z:bd G x=true)(E:foc n a k=(c1,k1))(O:foc m b k=(c2,k2))(ht:v=true->WK P G K sz c1 k1 f H Q)(U:v=false->WK P G K sz c2 k2 f H Q):WK P G K sz (.cond x a b) k f H Q:=
 hR hx Z (fun A=>ai n E (ht A)) (fun A=>ai m O (U A))
theorem bI(n:Nat){x:Operand}{a b:Code}{v:Bool}(U:cS f x= .bool v)(O:v=true)(E:bd G x=true)(A:foc n a k=(c1,k1))(h:WK P G K sz c1 k1 f H Q):WK P G K sz (.cond x a b) k f H Q:=wk_true U O E (ai n A h)
theorem wk_iff(n:Nat){x:Operand}{a b:Code}{v:Bool}(U:cS f x= .bool v)(O:v=false)(E:bd G x=true)(A:foc n b k=(c1,k1))(h:WK P G K sz c1 k1 f H Q):WK P G K sz (.cond x a b) k f H Q:=wk_false U O E (ai n A h)
theorem hP(d_:Fn->Heap->Prop)(E:(∀A H',d_ A H'->WK P G K sz .skip k A H' Q)->WK P G K sz c k f H Q)(O: ∀A H',d_ A H'->WK P G K sz .skip k A H' Q):WK P G K sz c k f H Q:=E O
theorem wr(n:Nat){id:Nat}{ops:Array Oper}(hs:List (Nat×Hint))(lo hi:Nat)(ex:List Nat)(l:List (Nat×Value)){p:Prop}(O:p)(h:fD P G (W0 P G K H) sz ops f 0 ops.toList hs lo hi ex (dM Prod.fst l)=some (l,p))(A:foc n .skip k=(c1,k1))
  (E: ∀g,WK P G K sz c1 k1 (gY (hav lo hi ex g f) l) H Q):WK P G K sz (.region id ops false) k f H Q:=wk_rg hs lo hi ex h O fun g=>ai n A (E g)
theorem wrD(n:Nat){id:Nat}{ops:Array Oper}(hs:List (Nat×Hint))(lo hi:Nat)(ex:List Nat)(l:List (Nat×Value)){p:Prop}(O:p)(U:(jX ops&&P.follows .mixedOrders)=true)(h:fD P G (W0 P G K {H with log:=[]}) sz ops f 0 ops.toList hs lo hi ex (dM Prod.fst l)=some (l,p))(A:foc n .skip k=(c1,k1))
  (E: ∀g,WK P G K sz c1 k1 (gY (hav lo hi ex g f) l) H Q):WK P G K sz (.region id ops true) k f H Q:=wk_rgD U hs lo hi ex h O fun g=>ai n A (E g)
theorem wro(n i:Nat){ops:Array Oper}{os A:List Oper}(hs:List (Nat×Hint))(lo hi:Nat)(ex:List Nat)(l:List (Nat×Value)){p:Prop}(U:p)(h:fD P G (W0 P G K H) sz ops f i (dL os n) hs lo hi ex (dM Prod.fst l)=some (l,p))(E:dX os n=A)
  (O: ∀g,WO P G K sz ops A k (gY (hav lo hi ex g f) l) H Q):WO P G K sz ops os k f H Q:=wo_rg n i hs lo hi ex h U (by rw[E];exact O)
def HP(_:List (Nat×Hint))(p:Prop):Prop:=p
theorem Hn_:HP [] True:=trivial
theorem Ha_{hs:List (Nat×Hint)}{p q:Prop}(h:q)(r:HP hs p):HP hs (q/\p):=⟨h,r⟩
theorem Hl_(i:Nat){H:Heap}{t:TypeId}{a v:Value}{hs:List (Nat×Hint)}{p:Prop}(h:LDv P H t a v)(r:HP hs p):HP ((i,.o v)::hs) (LDv P H t a v/\p):=⟨h,r⟩
theorem Hc_(i:Nat){H:Heap}{g:FuncId}{args:List Value}{v:Value}{hs:List (Nat×Hint)}{p:Prop}(h:C P G K g args H fun v' H'=>v'=v/\H'=H)(r:HP hs p):HP ((i,.o v)::hs) ((C P G K g args H fun v' H'=>v'=v/\H'=H)/\p):=⟨h,r⟩
theorem Ho_(i:Nat)(x:Hint){hs:List (Nat×Hint)}{p q:Prop}(h:q)(r:HP hs p):HP ((i,x)::hs) (q/\p):=⟨h,r⟩
theorem Hw_(i:Nat)(x:Hint){hs:List (Nat×Hint)}{p:Prop}(r:HP hs p):HP ((i,x)::hs) p:=r
theorem wrp(n:Nat){id:Nat}{ops:Array Oper}{hs:List (Nat×Hint)}(lo hi:Nat)(ex:List Nat)(l:List (Nat×Value)){p:Prop}(O:HP hs p)(h:fD P G (W0 P G K H) sz ops f 0 ops.toList hs lo hi ex (dM Prod.fst l)=some (l,p))(A:foc n .skip k=(c1,k1))
  (E: ∀g,WK P G K sz c1 k1 (gY (hav lo hi ex g f) l) H Q):WK P G K sz (.region id ops false) k f H Q:=wr n hs lo hi ex l O h A E
theorem bV(n i:Nat){ops:Array Oper}{os A:List Oper}{hs:List (Nat×Hint)}(lo hi:Nat)(ex:List Nat)(l:List (Nat×Value)){p:Prop}(U:HP hs p)(h:fD P G (W0 P G K H) sz ops f i (dL os n) hs lo hi ex (dM Prod.fst l)=some (l,p))(E:dX os n=A)
  (O: ∀g,WO P G K sz ops A k (gY (hav lo hi ex g f) l) H Q):WO P G K sz ops os k f H Q:=wro n i hs lo hi ex l U h E O
theorem ag(n:Nat){ops:Array Oper}(A:foc n .skip k=(c1,k1))(h:WK P G K sz c1 k1 f H Q):WO P G K sz ops [] k f H Q:=aQ (ai n A h)
theorem aO(n:Nat){ops:Array Oper}{D:List (Nat×ID)}{i:Nat}(A:foc n .skip k=(c1,k1))(h:WK P G K sz c1 k1 f H Q):WF2 P G K sz ops D i [] k f H Q:=gc (ai n A h)
end
theorem vA{a b:Prop}(h:a)(k:b):a/\b:=⟨h,k⟩
theorem vi{n:Int}(h: -9223372036854775808<=n/\n<9223372036854775808:=by first|(dsimp only;omega)|omega):rng .i64 n:=h
theorem vb{n:Int}(h:0<=n/\n<256):rng .u8 n:=h
section
variable {P:Program} {G:Nat} {K:bp} {H:Heap} {F:Fz} {B:Base} {L R:List Fp}
theorem ld1{b o i:Nat}{cs:List Value}{w:Value}{t:TypeId}(hc:HC H.get b o cs)(O:aggOf P t=some false)(U:cs[i]?=some w):LDv P H t (.pointer (some ⟨b,o+i,none⟩)) w:=by obtain⟨all,Z,ro,A,E⟩:=hc.get U;show ovl (H.loadV P t ⟨b,o+i,none⟩) H=_;unfold Heap.loadV;rw[O];simp only;unfold Heap.cellAt;simp only[A,fV,E];rfl
theorem ldN{b o i n:Nat}{cs l:List Value}{t:TypeId}(hc:HC H.get b o cs)(Z:aggOf P t=some true)(hs:cT P t=some n)(hn:Nat.ble (i+n) cs.length=true)(A:dL (dX cs i) n=l):LDv P H t (.pointer (some ⟨b,o+i,none⟩)) (.agg ⟨l⟩):=by obtain⟨all,an,ro,E,O,U⟩:=hc.part (a0c hn);rw[bu,bE]at A;show ovl (H.loadV P t ⟨b,o+i,none⟩) H=_;unfold Heap.loadV;rw[Z];simp only[hs];unfold Heap.loadN;rw[←A];simp only[E,bu,bE,be,O,U,a0Y,cond_true];rfl
theorem hc0{b o:Nat}{cs:List Value}(h:HC H.get b o cs):HC ({H with log:=[]}:Heap).get b o cs:=h
theorem cq{f:FuncId}{args:List Value}{Q:Value->Heap->Prop}{v:Value}(h:C P G K f args H Q)(A: ∀v' H',Q v' H'->v'=v/\H'=H):C P G K f args H fun v' H'=>v'=v/\H'=H:=h.mono A
section
variable {α:Type} [Rp α] {v:Value} {l:List α}
theorem Sv.view{get:Nat->Option AObj}(h:Sv F get v l): ∃cf:Nat->List Value,∀(j:Nat),(∀d:α,j<l.length->Rp.rep F (cf j) (l.getD j d)/\HC get (sB v) (sO v+j *Rp.sz α) (cf j))/\(l.length<=j->cf j=[]):=by
 have E: ∀j,∃cs,(∀(d:α),j<l.length->Rp.rep F cs (l.getD j d)/\HC get (sB v) (sO v+j *Rp.sz α) cs)/\(l.length<=j->cs=[]):=by
  intro j;by_cases A:j<l.length
  ·obtain⟨cs,U,Z⟩:=h.at (a09 A);refine⟨cs,fun d _=>⟨?_,Z⟩,fun h=>absurd h M⟩;rw[a0b,a09 A];exact U
  exact⟨[],fun _ O=>absurd O A,fun _=>rfl⟩
 exact⟨fun j=>(E j).choose,fun j=>(E j).choose_spec⟩
abbrev VW(F:Fz)(get:Nat->Option AObj)(v:Value)(l:List α)(cf:Nat->List Value)(j:Nat):Prop:=(∀d:α,j<l.length->Rp.rep F (cf j) (l.getD j d)/\HC get (sB v) (sO v+j *Rp.sz α) (cf j))/\(l.length<=j->cf j=[])
theorem Sv.ix{get:Nat->Option AObj}(h:Sv F get v l){j:Int}(E:0<=j:=by first|(dsimp only;omega)|omega)(A:j<l.length:=by first|(dsimp only;omega)|omega):IX v j:=by
 rcases h with⟨_,rfl⟩|⟨b,off,k,o,rfl,Z,cs,U,ro,rfl,h3,O,h5,h6⟩
 ·simp at A;omega
 exact⟨b,off,_,k,V,E,A,O⟩
end
def sA:Value->Option Addr
 | .slice a _ _=>a
 |_=>none
def sK:Value->Nat
 | .slice _ _ k=>k
 |_=>0
abbrev cA(cs:List Value)(i:Nat):Option Addr:=sA (cs.getD i undef)
abbrev cK(cs:List Value)(i:Nat):Nat:=sK (cs.getD i undef)
end
theorem dG{α:Type}{l:List α}{j:Nat}{d:α}(h:l.length<=j):l.getD j d=d:=by rw[a0b,a0J h];rfl
section
variable {F:Fz} {get:Nat->Option AObj} {v:Value} {cf:Nat->List Value} {j:Nat}
theorem vI{l:List Int}(h:VW F get v l cf j)(O:j<l.length:=by first|(dsimp only;omega)|omega):HC get (sB v) (sO v+j *Rp.sz Int) [.int .i64 (l.getD j 0)]:=by obtain⟨⟨E,_⟩,A⟩:=h.1 0 O;rw[E]at A;exact A
theorem fI{l:List Int}(h:VW F get v l cf j):in64 (l.getD j 0):=by
 rcases a0s j l.length with hj|hj
 ·exact(h.1 0 hj).1.2
 rw[dG hj];decide
theorem vS{l:List Str}(h:VW F get v l cf j)(O:j<l.length:=by first|(dsimp only;omega)|omega):HC get (sB v) (sO v+j *Rp.sz Str) [.string ⟨⟨(l.getD j default).b⟩⟩]:=by obtain⟨E,A⟩:=h.1 default O;rw[show cf j=_ from E]at A;exact A
theorem vL{α:Type} [Rp α]{l:List (List α)}(h:VW F get v l cf j)(O:j<l.length:=by first|(dsimp only;omega)|omega):HC get (sB v) (sO v+j *Rp.sz (List α)) [.slice (cA (cf j) 0) (l.getD j default).length (cK (cf j) 0)]:=by obtain⟨⟨a,k,E,_⟩,A⟩:=h.1 default O;rw[E]at A⊢;exact A
theorem fL{α:Type} [Rp α]{l:List (List α)}(h:VW F get v l cf j):SR F (.slice (cA (cf j) 0) (l.getD j default).length (cK (cf j) 0)) (l.getD j default):=by
 rcases a0s j l.length with hj|hj
 ·obtain⟨⟨a,k,A,E⟩,_⟩:=h.1 default hj;rw[A];exact E
 rw[dG hj,h.2 hj];exact SR.nil
theorem ap_callc{P:Program}{A:Operand}{d:Option Tmp}{ty:TypeId}{pos:String}{af:Array Edge}{gd:Option (Nat×Bool)}{H:Heap}{args:Array Operand}{E:Array TypeId}{i:FuncId}{fn:Func}{f:Fn}{l:List Value}{x y:Array Value}(hv:cS f A= .func (.func i) x y)(U:P.funcs[i]?=some fn)(O:(fn.body.isSome&& !(fn.name== "runtime.NumGoroutine"))=true)(Z:kv x.toList (kv (dM (cS f) args.toList) y.toList)=l):
  AP P (cS f) ⟨d,.call ⟨.value A,args,E⟩,ty,pos,af,gd⟩ H (.enter i l,H):=by
 refine⟨?_⟩
 show fH (fO P (cS f A) (dM (cS f) args.toList)) H=_
 rw[hv]
 unfold fO
 simp only[U,O,cond_true,Z]
 rfl
end
theorem vq{a b:Int}(E:in64 a)(hb:b≠ -1):rng .i64 (a.tdiv b):=by
 show in64 _;by_cases O:b=0
 ·subst O;rw[Int.tdiv_zero];decide
 have A:(a.tdiv b).natAbs=a.natAbs/b.natAbs:=Int.natAbs_tdiv a b;by_cases U:b=1
 ·subst U;rw[Int.tdiv_one];exact E
 have Z:2<=b.natAbs:=M
 have h5:(a.tdiv b).natAbs *2<=a.natAbs:=by rw[A];exact a0k (Nat.mul_le_mul_left _ Z) (Nat.div_mul_le_self _ _)
 obtain⟨h6,h7⟩:=E;clear A;constructor<;>omega
theorem ve{n m:Int}(h:n=m)(A: -9223372036854775808<=m/\m<9223372036854775808):n=m/\rng .i64 m:=⟨h,A⟩
section
variable {P:Program} {t:TypeId} {fs:Array Field} {xs ys:List Value} {bs:List Bool}
end
end Go.R
end
noncomputable section
namespace Go.R
section
variable {B:Base} {F:Fz} {H:Heap} {L R:List Fp} {x:Fp}
theorem HS.first(h:HS B F H (x::L) R):HS B F H [x] R:=HS.sub h (by simp)
theorem HS.pair(h:HS B F H (x::L) R){i:Nat}{y:Fp}(A:0<i)(hi:(x::L)[i]?=some y):HS B F H [x,y] R:=by
 obtain⟨j,rfl⟩: ∃j,i=j+1:=⟨i-1,by omega⟩
 refine HS.sub h ?_;have:y∈L:=a0p (by simpa using hi);exact List.Sublist.cons_cons x (List.singleton_sublist.2 this)
theorem HS.didW{A:Heap}{W:List Nat}(h:HS (.of {A with log:=[]} W) F H L R): ∀b,b∈H.log->A.next<=b\/b∈W:=fun b E=>by
 rcases h.log b E with h1|h1|h1
 ·simp[Base.of]at h1
 ·exact .inl h1
 exact .inr h1
end
end Go.R
end
namespace Go.R
end Go.R
namespace Go.R
theorem over_all: ∀(cs vs:List Value),cs.length=vs.length->over cs vs=vs
 | [],[],_=>rfl
 | [],_::_,h=>by simp at h
 |_::_,[],h=>by simp at h
 |c::cs,v::vs,h=>by show v::over cs vs=_;rw[over_all cs vs (by simpa using h)]
theorem eU{α:Type} [Rp α]{F:Fz}{c_ Y:α}{cl:List Value}(h:Rp.rep F cl Y): ∀cs,Rp.rep F cs c_->0+cl.length<=cs.length/\Rp.rep F (aZ cs 0 cl) Y:=by
 intro cs hc;have A:=Rp.len h;have E:=Rp.len hc;refine⟨by omega,?_⟩;have:aZ cs 0 cl=over cs cl:=by cases cs<;>rfl
 rw[this,over_all _ _ M];exact h
end Go.R
namespace Go.R
theorem HS.nin{B:Base}{F:Fz}{H:Heap}{L R:List Fp}(h:HS B F H L R){i j:Nat}{p q:Fp}(hi:L[i]?=some p)(hj:L[j]?=some q)(O:i≠j){b:Nat}(hb:b∈p.map Prod.fst):b∉q.map Prod.fst:=by
 intro hq;have hc:=h.callOwn hi;have A:=hc.nd;have U:q∈L.set i []:=by refine a0p (i:=j) ?_;rw[List.getElem?_set_ne O];exact hj
 simp only[a0w,a0i,a0X,a0G,a1w]at A;refine A.2.2 b hb b ?_ V;obtain⟨⟨Z,o⟩,E,rfl⟩:=a0v.1 hq;exact a0v.2 ⟨(Z,o),a0M.2 ⟨q,a1S _ U,E⟩,V⟩
end Go.R
namespace Go.R
theorem SR.len'{α:Type} [Rp α]{F:Fz}{a:Option Addr}{n k:Nat}{l:List α}(h:SR F (.slice a n k) l):l.length=n:=by obtain⟨A,E,e⟩:=Sv.shape h;injection e with _ e _;exact e.symm
theorem SR.norm{α:Type} [Rp α]{F:Fz}{a:Option Addr}{n k:Nat}{l:List α}(h:SR F (.slice a n k) l):SR F (.slice a l.length k) l:=by rw[h.len'];exact h
theorem HS.ownlt{B:Base}{F:Fz}{H:Heap}{L R:List Fp}(h:HS B F H L R){i:Nat}{p:Fp}(hi:L[i]?=some p): ∀b,b∈p.map Prod.fst->b<H.next:=by intro b O;obtain⟨⟨E,o⟩,A,rfl⟩:=a0v.1 O;exact(h.own p (.inl (a0p hi)) E o A).2.1
end Go.R
noncomputable section
set_option linter.unusedVariables false
namespace Go.R
open Go
section
variable {P:Program} {G:Nat} {K:bp} {sz:Nat} {Q:Ex->Fn->Heap->Prop} {ops:Array Oper} {D:List (Nat×ID)} {i:Nat} {os:List Oper} {k k1 k2:List Fr} {c c1 c2:Code} {f:Fn} {H H1:Heap} {v:Value}
variable {d:Tmp} {ty:TypeId} {pos:String} {af:Array Edge} {x y:Operand}
theorem zi(n m:Nat){a b:Code}{v:Bool}(Z:v=true->WK P G K sz c1 k1 f H Q)(O:v=false->WK P G K sz c2 k2 f H Q)(hx:cS f x= .bool v:=by rfl)(U:bd G x=true:=by rfl)(A:foc n a k=(c1,k1):=by rfl)(E:foc m b k=(c2,k2):=by rfl):WK P G K sz (.cond x a b) k f H Q:=wk_if n m hx U A E Z O
theorem zd(n m:Nat){a b:Code}{p:Prop}{i:Decidable p}(Z:p->WK P G K sz c1 k1 f H Q)(O: ¬p->WK P G K sz c2 k2 f H Q)(hx:cS f x= .bool (@decide p i):=by rfl)(U:bd G x=true:=by rfl)(A:foc n a k=(c1,k1):=by rfl)(E:foc m b k=(c2,k2):=by rfl):WK P G K sz (.cond x a b) k f H Q:=wk_if n m hx U A E (fun h=>Z (of_decide_eq_true h)) fun h=>O (of_decide_eq_false h)
theorem za(v:Value)(h:WO P G K sz ops os k (upd f d v) H Q)(E:cS f x=v:=by rfl)(A:(Op.assign x).operands.toList.all (bd G)=true:=by rfl)(hd:Nat.ble (d+1) sz=true:=by rfl):WO P G K sz ops (⟨some d,.assign x,ty,pos,af,none⟩::os) k f H Q:=wa v E A hd h
theorem zm(v:Value)(h:WO P G K sz ops os k (upd f d v) H Q)(E:cS f x=v:=by rfl)(A:(Op.move x).operands.toList.all (bd G)=true:=by rfl)(hd:Nat.ble (d+1) sz=true:=by rfl):WO P G K sz ops (⟨some d,.move x,ty,pos,af,none⟩::os) k f H Q:=wm v E A hd h
theorem zfm(v:Value)(h:WF2 P G K sz ops ((i,.v)::D) (i+1) os k (upd f d v) H Q)(E:cS f x=v:=by rfl)(A:(Op.move x).operands.toList.all (bd G)=true:=by rfl)(hd:Nat.ble (d+1) sz=true:=by rfl):WF2 P G K sz ops D i (⟨some d,.move x,ty,pos,af,none⟩::os) k f H Q:=fm v E A hd h
theorem zc{args:Array Operand}{A:Array TypeId}{g:FuncId}{fn:Func}{l:List Value}{R:Value->Heap->Prop}(hc:C P G K g l H R)(h: ∀v E,R v E->WO P G K sz ops os k (upd f d v) E Q)(U:P.funcs[g]?=some fn:=by rfl)(O:(fn.body.isSome&& !(fn.name== "runtime.NumGoroutine"))=true:=by rfl)(Z:dM (cS f) args.toList=l:=by rfl)(ho:(Op.call ⟨.value (.func g),args,A⟩).operands.toList.all (bd G)=true:=by rfl)(hd:Nat.ble (d+1) sz=true:=by rfl):
  WO P G K sz ops (⟨some d,.call ⟨.value (.func g),args,A⟩,ty,pos,af,none⟩::os) k f H Q:=hN (aH U O Z) ho hd hc h
theorem zp{s:TypeId}{b o n:Nat}(A:Nat)(h:WF2 P G K sz ops ((i,.v)::D) (i+1) os k (upd f d (.pointer (some ⟨b,A,none⟩))) H Q)(U:cS f x= .pointer (some ⟨b,o,none⟩):=by rfl)(E:jb P s (.pointer (some ⟨b,o,none⟩)) n=some (.pointer (some ⟨b,A,none⟩)):=by rfl)(O:(Op.fieldAddr s x n).operands.toList.all (bd G)=true:=by rfl)(hd:Nat.ble (d+1) sz=true:=by rfl):WF2 P G K sz ops D i (⟨some d,.fieldAddr s x n,ty,pos,af,none⟩::os) k f H Q:=aM (eP U E) O hd (iz V) (fp _) h
theorem zl{t:TypeId}{b o o':Nat}(j:Nat){cs:List Value}{w:Value}(hc:HC ({H with log:=[]}:Heap).get b o cs)(h:WF2 P G K sz ops ((i,.l b)::D) (i+1) os k (upd f d w) H Q)(A:cS f x= .pointer (some ⟨b,o',none⟩):=by rfl)(E:aggOf P t=some false:=by rfl)(O:o'=o+j:=by rfl)(hv:cs[j]?=some w:=by rfl)(Z:(Op.load t x).operands.toList.all (bd G)=true:=by rfl)(hd:Nat.ble (d+1) sz=true:=by rfl)(U:okB ops i (.l b) D=true:=by rfl):WF2 P G K sz ops D i (⟨some d,.load t x,ty,pos,af,none⟩::os) k f H Q:=aM (bL (H:={H with log:=[]}) A E hc O hv) Z hd (eR A) (kb U) h
theorem zx(α:Type) [Rp α]{t e:TypeId}{ki:IntKind}{F:Fz}{l:List α}(j:Nat)(hs:Sv F ({H with log:=[]}:Heap).get v l)(h:WF2 P G K sz ops ((i,.v)::D) (i+1) os k (upd f d (.pointer (some ⟨sB v,sO v+j *Rp.sz α,none⟩))) H Q)(A:(j:Int)<l.length:=by first|(dsimp only;omega)|omega)(U:cS f x=v:=by rfl)(hi:cS f y= .int ki (j:Int):=by rfl)(O:P.underlying t=some (.slice e):=by rfl)(Z:cT P e=some (Rp.sz α):=by rfl)(E:(Op.indexAddr t x y).operands.toList.all (bd G)=true:=by rfl)(hd:Nat.ble (d+1) sz=true:=by rfl):
  WF2 P G K sz ops D i (⟨some d,.indexAddr t x y,ty,pos,af,none⟩::os) k f H Q:=aM (cH (H:={H with log:=[]}) U hi O Z hs M A) E hd (iz rfl) (fp _) h
end
end Go.R
end
noncomputable section
set_option linter.unusedVariables false
namespace Go.R
def ownAt(L:List Fp)(q:Nat):Option (Nat×List Value):=match nth L q with
 |some [(b,.cells cs none false)]=>some (b,cs)
 |_=>none
theorem mY{L:List Fp}{q b:Nat}{cs:List Value}(h:ownAt L q=some (b,cs)):L[q]?=some [(b,.cells cs none false)]:=by
 unfold ownAt at h;split at h
 ·rename_i A;simp only[a02,a04]at h;obtain⟨rfl,rfl⟩:=h;rw[←fV];exact A
 cases h
def WN:FW:=⟨fun _ _ _=>False,fun _ _ _=>False,fun _ _ _ _ _=>False,fun _ _ _ _ _=>False,fun _ _ _ _ _=>False⟩
theorem okN{P:Program}{G0:Nat}{K:bp}{d_:Heap->Prop}:WN.OK P G0 K d_:=⟨fun h=>h.elim,fun h=>h.elim,fun h=>h.elim,fun h=>h.elim,fun h=>h.elim⟩
def ldR(P:Program)(t:TypeId)(cs:List Value)(o:Nat):Option Value:=match aggOf P t with
 |some false=>nth cs o
 |some true=>match cT P t with
  |some n=>bif Nat.ble (o+n) (eG cs) then fcM (dL (dX cs o) n) fun l=>some (.agg ⟨l⟩) else none
  |none=>none
 |none=>none
def stR(P:Program)(L:List Fp)(q b:Nat)(cs:List Value)(t:TypeId)(o:Nat)(v:Value):Option (List Fp):=match cT P t with
 |some n=>fcV v fun v=>fcM v.cells.toList fun cl=>bif Nat.beq (eG cl) n&&(Nat.ble (o+eG cl) (eG cs)&&lQ Value.oneCell' cl) then
   fcL (aZ cs o cl) fun A=>fcL (L.set q [(b,.cells A none false)]) some
  else none
 |none=>none
def sgL(P:Program)(G0:Nat)(W:FW)(sz:Nat)(ops:Array Oper)(f:Fn)(hs:List (Nat×Hint)):Nat->List Oper->SS->List Fp->Option (SS×List Fp×Prop)
 |_,[],S,L=>some (S,L,True)
 |i,o::os,S,L=>match hintAt hs i with
  | .r q=>match ownAt L q,o.guard,o.op.operands.toList.all (bd G0)&&o.op.operands.toList.all (S.can []) with
   |some (b,cs),none,true=>match o.dst,o.op with
    |some d,.load t a=>match S.rd f a with
     | .pointer (some ⟨b',o',none⟩)=>match ldR P t cs o' with
      |some v=>bif Nat.ble (d+1) sz then match putS none [] S.G S.m d v with
        |some (S1,_)=>match sgL P G0 W sz ops f hs (i+1) os S1 L with
         |some (S2,L2,p)=>some (S2,L2,b'=b/\p)
         |none=>none
        |none=>none else none
      |none=>none
     |_=>none
    |none,.store t a x=>match S.rd f a with
     | .pointer (some ⟨b',o',none⟩)=>match stR P L q b cs t o' (S.rd f x) with
      |some L1=>match sgL P G0 WN sz ops f hs (i+1) os S L1 with
       |some (S2,L2,p)=>some (S2,L2,b'=b/\p)
       |none=>none
      |none=>none
     |_=>none
    |_,_=>none
   |_,_,_=>none
  |h=>match stepS P G0 W sz ops f S h o with
   |some (S1,q)=>match sgL P G0 W sz ops f hs (i+1) os S1 L with
    |some (S2,L2,p)=>some (S2,L2,andO q p)
    |none=>none
   |none=>none
section
variable {P:Program} {G0:Nat} {K:bp} {sz:Nat} {Q:Ex->Fn->Heap->Prop} {ops:Array Oper} {os:List Oper} {k:List Fr} {f fr:Fn} {H:Heap} {S:SS} {B:Base} {F:Fz} {L R:List Fp}
theorem ldR_ok{t:TypeId}{cs:List Value}{o b:Nat}{v:Value}{a:Operand}{ρ:Operand->Value}{d:Option Tmp}{ty:TypeId}{pos:String}{af:Array Edge}{gd:Option (Nat×Bool)}(hc:HC H.get b 0 cs)(O:ρ a= .pointer (some ⟨b,o,none⟩))(h:ldR P t cs o=some v):AP P ρ ⟨d,.load t a,ty,pos,af,gd⟩ H (.val v,H):=by
 unfold ldR at h;split at h
 ·rename_i A;exact bL (i:=o) O A hc (a0H _).symm (by rw[←fV];exact h)
 ·rename_i A;split at h
  ·rename_i n U;cases E:Nat.ble (o+n) (eG cs) with
   |false=>rw[E]at h;cases h
   |true=>
    rw[E]at h
    simp only[cond_true,fcM_eq,a02]at h
    subst h
    exact en (i:=o) O A U hc (a0H _).symm (by rw[←be];exact E) V
  cases h
 cases h
theorem stR_ok{q b o:Nat}{cs:List Value}{t:TypeId}{v:Value}{E:List Fp}{a x:Operand}{ρ:Operand->Value}{d:Option Tmp}{ty:TypeId}{pos:String}{af:Array Edge}{gd:Option (Nat×Bool)}(hs:HS B F H L R)(Z:L[q]?=some [(b,.cells cs none false)])(O:ρ a= .pointer (some ⟨b,o,none⟩))(hx:ρ x=v)(h:stR P L q b cs t o v=some E):
  ∃r:Rs,AP P ρ ⟨d,.store t a x,ty,pos,af,gd⟩ H (.skip,r.H)/\(HS B F r.H E R/\Wr H r.H [b]):=by
 unfold stR at h
 split at h
 ·rename_i n U;simp only[fcV_eq,fcM_eq,mr]at h;cases A:(Nat.beq (eG v.cells.toList) n&&(Nat.ble (o+eG v.cells.toList) (eG cs)&&lQ Value.oneCell' v.cells.toList)) with
  |false=>rw[A]at h;cases h
  |true=>
   rw[A]at h
   simp only[cond_true,a02]at h
   subst h
   simp only[a06,be]at A
   exact cn hs Z O hx U V A.1 A.2.1 A.2.2 (by rw[mr])
 cases h
theorem iB{a:Operand}(A:S.Rel f fr)(h:S.can [] a=true):cS fr a=S.rd f a:=rd_ok (c:=[]) A V h
theorem kL{hs:List (Nat×Hint)}: ∀{a:List Oper} {i:Nat} {W:FW} {S S':SS} {L L':List Fp} {p:Prop} {fr:Fn} {H:Heap},W.OK P G0 K (· =H)->sgL P G0 W sz ops f hs i a S L=some (S',L',p)->p->S.Rel f fr->HS B F H L R->
  (∀A H',HS B F H' L' R->(a.all (fun o=>o.dst.isSome)=true->H'=H)->S'.Rel f A->WO P G0 K sz ops os k A H' Q)->WO P G0 K sz ops (a++os) k fr H Q
 | [],i,W,S,S',L,L',p,fr,H,hW,h,_,hr,hh,hk=>by simp only[sgL,a02,a04]at h;obtain⟨rfl,rfl,_⟩:=h;exact hk fr H hh (fun _=>rfl) hr
 |o::a,i,W,S,S',L,L',p,fr,H,hW,h,E,hr,hh,hk=>by
  unfold sgL at h;split at h
  ·rename_i q _;split at h
   ·rename_i b cs ho hg hc;rw[a06]at hc;have hq:=mY ho;obtain⟨b2,op,ty,pos,af,gd⟩:=o;simp only at hg hc h;subst hg;split at h
    ·rename_i d t x;simp only[Op.operands,a0f,a1i,a0A]at hc;split at h
     ·rename_i b' o' e1;split at h
      ·rename_i v e2;cases hb:Nat.ble (d+1) sz with
       |false=>rw[hb]at h;cases h
       |true=>
        rw[hb]at h
        simp only[cond_true]at h
        split at h
        ·rename_i S1 q1 e3;split at h
         ·rename_i S2 L2 p2 e4;simp only[a02,a04]at h;obtain⟨rfl,rfl,rfl⟩:=h;obtain⟨rfl,E⟩:=E;have h1:=(kP (m:=S.m) (G:=S.G) hr (c:=[]) (fun _ _ hm=>(a0a hm).elim) e3).1;exact ao (ldR_ok (HS.hc hh hq) (by rw[iB hr hc.2];exact e1) e2) (by simp only[Op.operands,a0f,a1i,a0A];exact hc.1) hb (kL hW e4 E h1 hh fun A H' U a2 Z=>hk A H' U (fun O=>a2 (by simpa using O)) Z)
         cases h
        cases h
      cases h
     cases h
    ·rename_i t x y;simp only[Op.operands,a0f,a1i,a0A,a06]at hc;split at h
     ·rename_i b' o' e1;split at h
      ·rename_i L1 e2;split at h
       ·rename_i S2 L2 p2 e4;simp only[a02,a04]at h;obtain⟨rfl,rfl,rfl⟩:=h;obtain⟨rfl,E⟩:=E;refine fj (stR_ok hh hq (by rw[iB hr hc.2.1];exact e1) (iB hr hc.2.2) e2) (by simp only[Op.operands,a0f,a1i,a0A,a06];exact hc.1) ?_;rintro _ H1 _ ⟨h5,_⟩;exact kL okN e4 E hr h5 fun A H' U a2 Z=>hk A H' U (fun O=>by simp at O) Z
       cases h
      cases h
     cases h
    cases h
   cases h
  split at h
  ·rename_i S1 q h1;split at h
   ·rename_i S2 L2 p2 h2;simp only[a02,a04]at h;obtain⟨rfl,rfl,rfl⟩:=h;obtain⟨hq,bb⟩:=fw E;obtain⟨d,c,G1,v,e1,e2,e3,e4,e5,e6⟩:=gK hW hr h1 hq;exact wo_do (d_:=(· =H)) e1 e2 e3 (fN hr e4) e5 V fun H' a9=>by subst a9;exact kL hW h2 bb e6 hh fun A H' U a2 Z=>hk A H' U (fun O=>a2 (by simp only[a0f,a06]at O;exact O.2)) Z
   cases h
  cases h
def sdL(P:Program)(G0:Nat)(W:FW)(sz:Nat)(ops:Array Oper)(f:Fn)(hs:List (Nat×Hint)):Nat->List Oper->SS->List Fp->List (Nat×ID)->Option (SS×List Fp×List (Nat×ID)×Prop)
 |_,[],S,L,D=>some (S,L,D,True)
 |i,o::os,S,L,D=>match hintAt hs i with
  | .r q=>match ownAt L q,o.guard,o.op.operands.toList.all (bd G0)&&o.op.operands.toList.all (S.can []) with
   |some (b,cs),none,true=>match o.dst,o.op with
    |some d,.load t a=>match S.rd f a with
     | .pointer (some ⟨b',o',none⟩)=>match ldR P t cs o' with
      |some v=>bif Nat.ble (d+1) sz&&okB ops i (.l b') D then match putS none [] S.G S.m d v with
        |some (S1,_)=>match sdL P G0 W sz ops f hs (i+1) os S1 L ((i,.l b')::D) with
         |some (S2,L2,D2,p)=>some (S2,L2,D2,b'=b/\p)
         |none=>none
        |none=>none else none
      |none=>none
     |_=>none
    |none,.store t a x=>match S.rd f a with
     | .pointer (some ⟨b',o',none⟩)=>match stR P L q b cs t o' (S.rd f x),okB ops i (.x [b']) D with
      |some L1,true=>match sdL P G0 WN sz ops f hs (i+1) os S L1 ((i,.x [b'])::D) with
       |some (S2,L2,D2,p)=>some (S2,L2,D2,b'=b/\p)
       |none=>none
      |_,_=>none
     |_=>none
    |_,_=>none
   |_,_,_=>none
  |h=>match stepS P G0 W sz ops f S h o with
   |some (S1,q)=>bif aP o.op then match sdL P G0 W sz ops f hs (i+1) os S1 L ((i,.v)::D) with
     |some (S2,L2,D2,p)=>some (S2,L2,D2,andO q p)
     |none=>none
    else bif D.all (fun e=>bnD e.2) then match sdL P G0 W sz ops f hs (i+1) os S1 L ((i,.r)::D) with
     |some (S2,L2,D2,p)=>some (S2,L2,D2,andO q p)
     |none=>none
    else none
   |none=>none
theorem wf_doV{D:List (Nat×ID)}{i d:Nat}{o:Oper}{c:Ch}{E:List (Nat×Bool)}{v:Value}(Z:aP o.op=true)(hd:o.dst=some d)(O:Nat.ble (d+1) sz=true)(ho:o.op.operands.toList.all (bd G0)=true)(U:GOK ops f fr S o.guard c E)
  (hp:act E c=true->PRes P G0 K (· ={H with log:=[]}) (cS fr) ⟨some d,o.op,o.type,o.pos,o.after,none⟩ {H with log:=[]} v) (h:WF2 P G0 K sz ops ((i,.v)::D) (i+1) os k (upd fr d (bif act E c then v else undef)) H Q):WF2 P G0 K sz ops D i (o::os) k fr H Q:=by
 obtain⟨ar,op,ty,pos,af,gd⟩:=o
 simp only at Z hd ho U hp
 subst hd
 cases A:act E c with
 |true=>
  rw[A]at h
  have base:WF2 P G0 K sz ops D i (⟨some d,op,ty,pos,af,none⟩::os) k fr H Q:=by
   cases hp A with
   |val hv'=>exact aM (id:= .v) hv' ho O (iz Z) (fp _) h
   |call g args he hk hc=>
    exfalso
    cases op<;>first|(cases hk;done)|(cases Z;done)
  cases gd with
  |none=>exact base
  |some jw=>exact fY (U.on A) V base
 |false=>
  rw[A]at h
  have:=U.off A
  cases gd with
  |none=>exact absurd this id
  |some jw=>
   rcases this with h1|h1
   ·exact wf_gn h1 O h
   exact fZ h1 V O h
theorem kN{hs:List (Nat×Hint)}: ∀{a:List Oper} {i:Nat} {W:FW} {S S':SS} {L L':List Fp} {D D':List (Nat×ID)} {p:Prop} {fr:Fn} {H:Heap},W.OK P G0 K (· ={H with log:=[]})->sdL P G0 W sz ops f hs i a S L D=some (S',L',D',p)->p->S.Rel f fr->HS B F H L R->
  (∀A H',HS B F H' L' R->(a.all (fun o=>o.dst.isSome)=true->H'=H)->S'.Rel f A->WF2 P G0 K sz ops D' (i+a.length) os k A H' Q)->WF2 P G0 K sz ops D i (a++os) k fr H Q
 | [],i,W,S,S',L,L',D,D',p,fr,H,hW,h,_,hr,hh,hk=>by simp only[sdL,a02,a04]at h;obtain⟨rfl,rfl,rfl,_⟩:=h;exact hk fr H hh (fun _=>rfl) hr
 |o::a,i,W,S,S',L,L',D,D',p,fr,H,hW,h,O,hr,hh,hk=>by
  rw[a01,show i+(a.length+1)=i+1+a.length by omega]at hk;unfold sdL at h;split at h
  ·rename_i q _;split at h
   ·rename_i b cs ho hg hc;rw[a06]at hc;have hq:=mY ho;obtain⟨b6,op,ty,pos,af,gd⟩:=o;simp only at hg hc h;subst hg;split at h
    ·rename_i d t x;simp only[Op.operands,a0f,a1i,a0A]at hc;split at h
     ·rename_i b' o' e1;split at h
      ·rename_i v e2;cases hb:(Nat.ble (d+1) sz&&okB ops i (.l b') D) with
       |false=>rw[hb]at h;cases h
       |true=>
        rw[hb]at h
        rw[a06]at hb
        simp only[cond_true]at h
        split at h
        ·rename_i S1 q1 e3;split at h
         ·rename_i S2 L2 D2 p2 e4;simp only[a02,a04]at h;obtain⟨rfl,rfl,rfl,rfl⟩:=h;obtain⟨rfl,O⟩:=O;have h1:=(kP (m:=S.m) (G:=S.G) hr (c:=[]) (fun _ _ hm=>(a0a hm).elim) e3).1;have e5:cS fr x= .pointer (some ⟨b',o',none⟩):=by rw[iB hr hc.2];exact e1
          exact aM (id:= .l b') (ldR_ok (HS.hc hh.log0 hq) e5 e2) (by simp only[Op.operands,a0f,a1i,a0A];exact hc.1) hb.1 (eR e5) (kb hb.2) (kN hW e4 O h1 hh fun A H' U a2 Z=>hk A H' U (fun E=>a2 (by simpa using E)) Z)
         cases h
        cases h
      cases h
     cases h
    ·rename_i t x y;simp only[Op.operands,a0f,a1i,a0A,a06]at hc;split at h
     ·rename_i b' o' e1;split at h
      ·rename_i L1 e2 e3;split at h
       ·rename_i S2 L2 D2 p2 e4;simp only[a02,a04]at h;obtain⟨rfl,rfl,rfl,rfl⟩:=h;obtain⟨rfl,O⟩:=O;refine eA (id:= .x [b']) (stR_ok hh.log0 hq (by rw[iB hr hc.2.1];exact e1) (iB hr hc.2.2) e2) (by simp only[Op.operands,a0f,a1i,a0A,a06];exact hc.1) ?_ (kb e3) ?_
        ·rintro _ H1 _ ⟨_,hwr⟩;exact cQ V V (Wr.did hwr)
        rintro _ H1 _ ⟨h5,_⟩ l hl;exact kN okN e4 O hr (HS.lg h5 hh hl) fun A H' U a2 Z=>hk A H' U (fun E=>by simp at E) Z
       cases h
      cases h
     cases h
    cases h
   cases h
  split at h
  ·rename_i S1 q h1;cases hv:aP o.op with
   |true=>
    rw[hv]at h
    simp only[cond_true]at h
    split at h
    ·rename_i S2 L2 D2 p2 h2;simp only[a02,a04]at h;obtain⟨rfl,rfl,rfl,rfl⟩:=h;obtain⟨hq,a7⟩:=fw O;obtain⟨d,c,G1,v,e1,e2,e3,e4,e5,e6⟩:=gK hW hr h1 hq;exact wf_doV hv e1 e2 e3 (fN hr e4) (fun E=>e5 E _ V) (kN hW h2 a7 e6 hh fun A H' U a2 Z=>hk A H' U (fun E=>a2 (by simp only[a0f,a06]at E;exact E.2)) Z)
    cases h
   |false=>
    rw[hv]at h
    simp only[cond_false]at h
    cases hD:D.all (fun e=>bnD e.2) with
    |false=>rw[hD]at h;cases h
    |true=>
     rw[hD]at h
     simp only[cond_true]at h
     split at h
     ·rename_i S2 L2 D2 p2 h2;simp only[a02,a04]at h;obtain⟨rfl,rfl,rfl,rfl⟩:=h;obtain⟨hq,a7⟩:=fw O;obtain⟨d,c,G1,v,e1,e2,e3,e4,e5,e6⟩:=gK hW hr h1 hq;exact wf_do hD e1 e2 e3 (fN hr e4) (fun E=>e5 E _ V) (kN hW h2 a7 e6 hh fun A H' U a2 Z=>hk A H' U (fun E=>a2 (by simp only[a0f,a06]at E;exact E.2)) Z)
     cases h
  cases h
theorem Hr_(i q:Nat){b:Nat}{hs:List (Nat×Hint)}{p:Prop}(r:HP hs p):HP ((i,.r q)::hs) (b=b/\p):=⟨V,r⟩
def sgE(lo hi:Nat)(ex A:List Nat)(r:Option (SS×List Fp×Prop)):Option (List (Nat×Value)×List Fp×Prop):=match r with
 |none=>none
 |some (S,L,p)=>bif S.m.all (fun e=>inR lo hi ex e.1) then
   match fins S.m A with
   |some l=>some (l,L,p)
   |none=>none
  else none
def sdE(lo hi:Nat)(ex A:List Nat)(r:Option (SS×List Fp×List (Nat×ID)×Prop)):Option (List (Nat×Value)×List Fp×List (Nat×ID)×Prop):=match r with
 |none=>none
 |some (S,L,D,p)=>bif S.m.all (fun e=>inR lo hi ex e.1) then
   match fins S.m A with
   |some l=>some (l,L,D,p)
   |none=>none
  else none
theorem sgE_ok{lo hi:Nat}{ex U:List Nat}{r:Option (SS×List Fp×Prop)}{l:List (Nat×Value)}{E:List Fp}{p:Prop}(h:sgE lo hi ex U r=some (l,E,p)): ∃S,r=some (S,E,p)/\∀fr,S.Rel f fr->∃g,fr=gY (hav lo hi ex g f) l:=by
 unfold sgE at h;split at h
 ·cases h
 rename_i S L1 p1;cases A:S.m.all (fun e=>inR lo hi ex e.1) with
 |false=>rw[A]at h;cases h
 |true=>
  rw[A]at h
  simp only[cond_true]at h
  split at h
  ·rename_i l' Z;simp only[a02,a04]at h;obtain⟨rfl,rfl,rfl⟩:=h;refine⟨S,V,fun fr O=>⟨fr,?_⟩⟩;rw[←(jq O A).eq,fo (nv O Z)]
  cases h
theorem sdE_ok{lo hi:Nat}{ex Z:List Nat}{r:Option (SS×List Fp×List (Nat×ID)×Prop)}{l:List (Nat×Value)}{O:List Fp}{E:List (Nat×ID)}{p:Prop}(h:sdE lo hi ex Z r=some (l,O,E,p)): ∃S,r=some (S,O,E,p)/\∀fr,S.Rel f fr->∃g,fr=gY (hav lo hi ex g f) l:=by
 unfold sdE at h;split at h
 ·cases h
 rename_i S L1 D1 p1;cases A:S.m.all (fun e=>inR lo hi ex e.1) with
 |false=>rw[A]at h;cases h
 |true=>
  rw[A]at h
  simp only[cond_true]at h
  split at h
  ·rename_i l' h2;simp only[a02,a04]at h;obtain⟨rfl,rfl,rfl,rfl⟩:=h;refine⟨S,V,fun fr U=>⟨fr,?_⟩⟩;rw[←(jq U A).eq,fo (nv U h2)]
  cases h
variable {c1:Code} {k1:List Fr}
theorem sgo(n i:Nat){A:List Oper}{hs:List (Nat×Hint)}(lo hi:Nat)(ex:List Nat)(l:List (Nat×Value)){E:List Fp}{p:Prop}(hp:HP hs p)(hh:HS B F H L R)(h:sgE lo hi ex (dM Prod.fst l) (sgL P G0 (W0 P G0 K H) sz ops f hs i (dL os n) ⟨[],[]⟩ L)=some (l,E,p))(he:dX os n=A)
  (hk: ∀g H',HS B F H' E R->WO P G0 K sz ops A k (gY (hav lo hi ex g f) l) H' Q):WO P G0 K sz ops os k f H Q:=by
 subst he
 obtain⟨S,U,Z⟩:=sgE_ok (f:=f) h
 have:=kL (os:=dX os n) (k:=k) (Q:=Q) ok0 U hp rel0 hh (fun fr H' O _ hr=>by obtain⟨g,rfl⟩:=Z fr hr;exact hk g H' O)
 rwa [bu,bE,a1a]at this
theorem sgr(n:Nat){id:Nat}{hs:List (Nat×Hint)}(lo hi:Nat)(ex:List Nat)(l:List (Nat×Value)){A:List Fp}{p:Prop}(hp:HP hs p)(hh:HS B F H L R)(h:sgE lo hi ex (dM Prod.fst l) (sgL P G0 (W0 P G0 K H) sz ops f hs 0 ops.toList ⟨[],[]⟩ L)=some (l,A,p))(Z:foc n .skip k=(c1,k1))
  (hk: ∀g H',HS B F H' A R->WK P G0 K sz c1 k1 (gY (hav lo hi ex g f) l) H' Q):WK P G0 K sz (.region id ops false) k f H Q:=by
 obtain⟨S,O,U⟩:=sgE_ok (f:=f) h
 refine ab ?_
 have:=kL (os:=[]) (k:=k) (Q:=Q) ok0 O hp rel0 hh (fun fr H' E _ hr=>by obtain⟨g,rfl⟩:=U fr hr;exact aQ (ai n Z (hk g H' E)))
 rwa [a0l]at this
theorem sdo(n:Nat){i i':Nat}{A:List Oper}{hs:List (Nat×Hint)}(lo hi:Nat)(ex:List Nat)(l:List (Nat×Value)){O:List Fp}{D E:List (Nat×ID)}{p:Prop}(hp:HP hs p)(hh:HS B F H L R)(h:sdE lo hi ex (dM Prod.fst l) (sdL P G0 (W0 P G0 K {H with log:=[]}) sz ops f hs i (dL os n) ⟨[],[]⟩ L D)=some (l,O,E,p))(U:(dX os n,i+(dL os n).length)=(A,i'))
  (hk: ∀g H',HS B F H' O R->WF2 P G0 K sz ops E i' A k (gY (hav lo hi ex g f) l) H' Q):WF2 P G0 K sz ops D i os k f H Q:=by
 simp only[a04]at U
 obtain⟨rfl,rfl⟩:=U
 obtain⟨S,h1,h2⟩:=sdE_ok (f:=f) h
 have:=kN (os:=dX os n) (k:=k) (Q:=Q) ok0 h1 hp rel0 hh (fun fr H' Z _ hr=>by obtain⟨g,rfl⟩:=h2 fr hr;exact hk g H' Z)
 rwa [bu,bE,a1a]at this
theorem bW(n i:Nat){E:List Oper}{hs:List (Nat×Hint)}(lo hi:Nat)(ex:List Nat)(l:List (Nat×Value)){O:List Fp}{p:Prop}(hp:HP hs p)(hh:HS B F H L R)(h:sgE lo hi ex (dM Prod.fst l) (sgL P G0 (W0 P G0 K H) sz ops f hs i (dL os n) ⟨[],[]⟩ L)=some (l,O,p))(A:(dX os n,(dL os n).all (fun o=>o.dst.isSome))=(E,true))
  (hk: ∀g,WO P G0 K sz ops E k (gY (hav lo hi ex g f) l) H Q):WO P G0 K sz ops os k f H Q:=by
 simp only[a04]at A
 obtain⟨rfl,A⟩:=A
 obtain⟨S,U,Z⟩:=sgE_ok (f:=f) h
 have:=kL (os:=dX os n) (k:=k) (Q:=Q) ok0 U hp rel0 hh (fun fr H' aA e hr=>by obtain⟨g,rfl⟩:=Z fr hr;rw[e A];exact hk g)
 rwa [bu,bE,a1a]at this
theorem bH(n:Nat){id:Nat}{hs:List (Nat×Hint)}(lo hi:Nat)(ex:List Nat)(l:List (Nat×Value)){E:List Fp}{p:Prop}(hp:HP hs p)(Z:HS B F H L R)(h:sgE lo hi ex (dM Prod.fst l) (sgL P G0 (W0 P G0 K H) sz ops f hs 0 ops.toList ⟨[],[]⟩ L)=some (l,E,p))(A:(foc n .skip k,ops.toList.all (fun o=>o.dst.isSome))=((c1,k1),true))
  (hk: ∀g,WK P G0 K sz c1 k1 (gY (hav lo hi ex g f) l) H Q):WK P G0 K sz (.region id ops false) k f H Q:=by
 rw[a04]at A
 obtain⟨S,O,U⟩:=sgE_ok (f:=f) h
 refine ab ?_
 have:=kL (os:=[]) (k:=k) (Q:=Q) ok0 O hp rel0 Z (fun fr H' ax e hr=>by obtain⟨g,rfl⟩:=U fr hr;rw[e A.2];exact aQ (ai n A.1 (hk g)))
 rwa [a0l]at this
theorem br(n:Nat){i U:Nat}{E:List Oper}{hs:List (Nat×Hint)}(lo hi:Nat)(ex:List Nat)(l:List (Nat×Value)){Z:List Fp}{D O:List (Nat×ID)}{p:Prop}(hp:HP hs p)(hh:HS B F H L R)(h:sdE lo hi ex (dM Prod.fst l) (sdL P G0 (W0 P G0 K {H with log:=[]}) sz ops f hs i (dL os n) ⟨[],[]⟩ L D)=some (l,Z,O,p))(A:(dX os n,i+(dL os n).length,(dL os n).all (fun o=>o.dst.isSome))=(E,U,true))
  (hk: ∀g,WF2 P G0 K sz ops O U E k (gY (hav lo hi ex g f) l) H Q):WF2 P G0 K sz ops D i os k f H Q:=by
 simp only[a04]at A
 obtain⟨rfl,rfl,A⟩:=A
 obtain⟨S,h1,h2⟩:=sdE_ok (f:=f) h
 have:=kN (os:=dX os n) (k:=k) (Q:=Q) ok0 h1 hp rel0 hh (fun fr H' a1 e hr=>by obtain⟨g,rfl⟩:=h2 fr hr;rw[e A];exact hk g)
 rwa [bu,bE,a1a]at this
theorem sdr0(n:Nat){id:Nat}{hs:List (Nat×Hint)}(lo hi:Nat)(ex:List Nat)(l:List (Nat×Value)){U:List Fp}{O:List (Nat×ID)}{p:Prop}(hp:HP hs p)(hh:HS B F H L R)(E:(jX ops&&P.follows .mixedOrders)=true)(h:sdE lo hi ex (dM Prod.fst l) (sdL P G0 (W0 P G0 K {H with log:=[]}) sz ops f hs 0 ops.toList ⟨[],[]⟩ L [])=some (l,U,O,p))(A:(foc n .skip k,ops.toList.all (fun o=>o.dst.isSome))=((c1,k1),true))
  (hk: ∀g,WK P G0 K sz c1 k1 (gY (hav lo hi ex g f) l) H Q):WK P G0 K sz (.region id ops true) k f H Q:=by
 rw[a04]at A
 obtain⟨S,Z,h2⟩:=sdE_ok (f:=f) h
 refine aq E ?_
 have:=kN (os:=[]) (k:=k) (Q:=Q) ok0 Z hp rel0 hh (fun fr H' aA e E=>by obtain⟨g,rfl⟩:=h2 fr E;rw[e A.2];exact gc (ai n A.1 (hk g)))
 rwa [a0l]at this
theorem wcD{D:List (Nat×ID)}{i j:Nat}{d:Tmp}{ty:TypeId}{pos:String}{af:Array Edge}{args:Array Operand}{O:Array TypeId}{g:FuncId}{fn:Func}{al:List Value}{T:Value->Heap->Prop}{q:Fp}(W:List Nat)(hh:HS B F H L R)(hq:L[j]?=some q)(hw:q.map Prod.fst=W)(hc:C P G0 K g al {H with log:=[]} T)
  (A:(P.funcs[g]?,dM (cS f) args.toList,Nat.ble (d+1) sz,(Op.call ⟨.value (.func g),args,O⟩).operands.toList.all (bd G0))=(some fn,al,true,true)) (U:(fn.body.isSome&& !(fn.name== "runtime.NumGoroutine"))=true) (a0:okD ops i (.x W) D)
  (h: ∀v E,T v E->∃F' Z b_,HS (.of {H with log:=[]} W) F' E (Z::b_) (L.set j []++R)/\∀H3,HS B F' H3 (L.set j Z++b_) R->WF2 P G0 K sz ops ((i,.x W)::D) (i+1) os k (upd f d v) H3 Q):
  WF2 P G0 K sz ops D i (⟨some d,.call ⟨.value (.func g),args,O⟩,ty,pos,af,none⟩::os) k f H Q:=by
 subst hw
 simp only[a04]at A
 refine aK (W:=q.map Prod.fst) (aH A.1 U A.2.1) A.2.2.2 A.2.2.1 V hc a0 ?_
 intro v E hT
 obtain⟨F',Z,b_,h1,h2⟩:=h v E hT
 refine⟨HS.didW h1,fun l hl=>h2 _ ?_⟩
 exact HS.lg (HS.backOwn hh.log0 hq V (fun _ U=>U) h1) hh hl
theorem HS.bO{W:List Nat}{p q:Fp}{b_:List Fp}{i:Nat}{F':Fz}{A H':Heap}(h:HS B F H L R)(k:HS (.of A W) F' H' (q::b_) (L.set i []++R))(hi:L[i]?=some p:=by rfl)(E:A=H:=by rfl)(O: ∀b,b∈W->b∈p.map Prod.fst:=by exact fun _ h=>h):HS B F' H' (L.set i q++b_) R:=by exact HS.backOwn h hi E O k
theorem zn{e:TypeId}{d:Tmp}{ty:TypeId}{pos:String}{af:Array Edge}{z:List Value}(E:HS B F H L R)(A:(cw P e,Nat.ble (d+1) sz)=(some z,true))(O: ∀b H1,HS B F H1 (L++[[(b,.cells z none false)]]) R->WO P G0 K sz ops os k (upd f d (.pointer (some ⟨b,0,none⟩))) H1 Q):WO P G0 K sz ops (⟨some d,.alloc e,ty,pos,af,none⟩::os) k f H Q:=by simp only[a04]at A;refine bc (mb E A.1) V A.2 ?_;rintro _ H1 _ ⟨b,rfl,h1,_⟩;exact O b H1 h1
theorem znD{D:List (Nat×ID)}{i:Nat}{e:TypeId}{d:Tmp}{ty:TypeId}{pos:String}{af:Array Edge}{z:List Value}(E:HS B F H L R)(A:(cw P e,Nat.ble (d+1) sz,okB ops i .a D)=(some z,true,true))(O: ∀b H1,HS B F H1 (L++[[(b,.cells z none false)]]) R->WF2 P G0 K sz ops ((i,.a)::D) (i+1) os k (upd f d (.pointer (some ⟨b,0,none⟩))) H1 Q):WF2 P G0 K sz ops D i (⟨some d,.alloc e,ty,pos,af,none⟩::os) k f H Q:=by simp only[a04]at A;refine iL (id:= .a) (mb E.log0 A.1) V A.2.1 (fun _ _ _ _=>did_a V V V) (kb A.2.2) ?_;rintro _ H1 _ ⟨b,rfl,h1,_⟩ l hl;exact O b _ (HS.lg h1 E hl)
def litL(P:Program)(f:Fn)(m:Nat)(t:TypeId)(n:Nat)(A:Array (Nat×Operand)):Option (List Value):=match dB P t with
 |some (s,z)=>bif Nat.beq s m&&Nat.ble (n *s) 16777216 then match fillL (fun i=>some (i *s,s)) (cC n z) (dM (fun p=>(p.1,cS f p.2)) A.toList) with
   |some cs=>fcM cs some
   |none=>none
  else none
 |none=>none
theorem litL_ok{m:Nat}{t:TypeId}{n:Nat}{A:Array (Nat×Operand)}{cs:List Value}(h:litL P f m t n A=some cs): ∃z,dB P t=some (m,z)/\Nat.ble (n *m) 16777216=true/\Instr.fill (fun i=>some (i *m,m)) ⟨cC n z⟩ (dM (fun p=>(p.1,cS f p.2)) A.toList)=some ⟨cs⟩:=by
 unfold litL at h;split at h
 ·rename_i s z e;cases E:(Nat.beq s m&&Nat.ble (n *s) 16777216) with
  |false=>rw[E]at h;cases h
  |true=>
   rw[E]at h
   simp only[cond_true]at h
   rw[a06]at E
   have:=a07 E.1
   subst this
   split at h
   ·rename_i U O;rw[fcM_eq,a02]at h;subst h;exact⟨z,e,E.2,nw _ _ _ _ O⟩
   cases h
 cases h
theorem RL.nl{α:Type} [Rp α]:RL F [] ([]:List α):=rfl
theorem RL.cs{α:Type} [Rp α]{x:α}{l:List α}{c r:List Value}(h:Rp.rep F c x)(t:RL F r l):RL F (c++r) (x::l):=⟨c,r,V,h,t⟩
section
variable {α:Type} [Rp α] {d:Tmp} {ty:TypeId} {pos:String} {af:Array Edge} {D:List (Nat×ID)} {i:Nat}
theorem zlo{t:TypeId}{n:Nat}{A:Array (Nat×Operand)}{cells E:List Value}(l:List α)(hh:HS B F H L R)(O:(litL P f (Rp.sz α) t n A,Nat.ble (d+1) sz,(Op.buildSlice t n A).operands.toList.all (bd G0),eG l)=(some cells,true,true,n))(hr:RL F E l)(hc:cells=E)
  (hk: ∀a U p H1,OS F (.slice a l.length U) l p->HS B F H1 (L++[p]) R->WO P G0 K sz ops os k (upd f d (.slice a l.length U)) H1 Q):WO P G0 K sz ops (⟨some d,.buildSlice t n A,ty,pos,af,none⟩::os) k f H Q:=by
 subst hc
 simp only[a04]at O
 obtain⟨z,Z,h2,h3⟩:=litL_ok O.1
 refine bc (fU l hh V Z h2 h3 hr (by rw[←be];exact O.2.2.2)) O.2.2.1 O.2.1 ?_
 rintro _ H1 p ⟨a,U,rfl,ho,h5,_⟩
 exact hk a U p H1 ho h5
theorem zld{t:TypeId}{n:Nat}{A:Array (Nat×Operand)}{cells E:List Value}(l:List α)(Z:HS B F H L R)(O:(litL P f (Rp.sz α) t n A,Nat.ble (d+1) sz,(Op.buildSlice t n A).operands.toList.all (bd G0),eG l,okB ops i .a D)=(some cells,true,true,n,true))(hr:RL F E l)(hc:cells=E)
  (hk: ∀a U p H1,OS F (.slice a l.length U) l p->HS B F H1 (L++[p]) R->WF2 P G0 K sz ops ((i,.a)::D) (i+1) os k (upd f d (.slice a l.length U)) H1 Q):WF2 P G0 K sz ops D i (⟨some d,.buildSlice t n A,ty,pos,af,none⟩::os) k f H Q:=by
 subst hc
 simp only[a04]at O
 obtain⟨z,h1,h2,h3⟩:=litL_ok O.1
 refine iL (id:= .a) (fU l Z.log0 V h1 h2 h3 hr (by rw[←be];exact O.2.2.2.1)) O.2.2.1 O.2.1 (fun _ _ _ _=>did_a V V V) (kb O.2.2.2.2) ?_
 rintro _ H1 p ⟨a,U,rfl,ho,h5,_⟩ lg hl
 exact hk a U p _ ho (HS.lg h5 Z hl)
theorem zao{s0 x0:Operand}{st e:TypeId}{v u:Value}{l l2:List α}{p:Fp}{al:Nat}{z:List Value}(q:Nat)(ho:OS F v l p)(hh:HS B F H L R)(hu:Sv F H.get u l2)(E:(L[q]?,cS f s0,cS f x0,P.underlying st)=(some p,v,u,some (.slice e)))(O:(cT P e,ff P e,cw P e)=(some (Rp.sz α),some al,some z))
  (A:(Nat.beq (eG z) (Rp.sz α)&&(Nat.ble al 4096&&(!Nat.beq (Rp.sz α) 0&&(Nat.ble (d+1) sz&&(Op.call ⟨.builtin .append, #[s0,x0], #[st,st]⟩).operands.toList.all (bd G0)))))=true) (hl:l.length+l2.length<=2147483648)
  (hk: ∀a U Z H1,OS F (.slice a (l++l2).length U) (l++l2) Z->HS B F H1 (L.set q Z) R->WO P G0 K sz ops os k (upd f d (.slice a (l++l2).length U)) H1 Q):WO P G0 K sz ops (⟨some d,.call ⟨.builtin .append, #[s0,x0], #[st,st]⟩,ty,pos,af,none⟩::os) k f H Q:=by
 simp only[a04]at E O
 simp only[a06,a0W]at A
 refine bc (rs_app ho hh E.1 E.2.1 E.2.2.1 hu E.2.2.2 O.1 O.2.1 O.2.2 A.1 A.2.1 A.2.2.1 hl) A.2.2.2.2 A.2.2.2.1 ?_
 rintro _ H1 Z ⟨a,U,rfl,h5,h6,_⟩
 exact hk a U Z H1 h5 h6
theorem zad{s0 x0:Operand}{st e:TypeId}{v u:Value}{l l2:List α}{p:Fp}{al:Nat}{z:List Value}(q:Nat)(ho:OS F v l p)(hh:HS B F H L R)(hu:Sv F H.get u l2)(E:(L[q]?,cS f s0,cS f x0,P.underlying st)=(some p,v,u,some (.slice e)))(O:(cT P e,ff P e,cw P e)=(some (Rp.sz α),some al,some z))
  (A:(Nat.beq (eG z) (Rp.sz α)&&(Nat.ble al 4096&&(!Nat.beq (Rp.sz α) 0&&(Nat.ble (d+1) sz&&(Op.call ⟨.builtin .append, #[s0,x0], #[st,st]⟩).operands.toList.all (bd G0)))))=true) (hl:l.length+l2.length<=2147483648) (aA:okD ops i (.x (p.map Prod.fst)) D)
  (hk: ∀a U Z H1,OS F (.slice a (l++l2).length U) (l++l2) Z->HS B F H1 (L.set q Z) R->WF2 P G0 K sz ops ((i,.x (p.map Prod.fst))::D) (i+1) os k (upd f d (.slice a (l++l2).length U)) H1 Q):WF2 P G0 K sz ops D i (⟨some d,.call ⟨.builtin .append, #[s0,x0], #[st,st]⟩,ty,pos,af,none⟩::os) k f H Q:=by
 simp only[a04]at E O
 simp only[a06,a0W]at A
 refine iL (id:= .x (p.map Prod.fst)) (rs_app ho hh.log0 E.1 E.2.1 E.2.2.1 hu E.2.2.2 O.1 O.2.1 O.2.2 A.1 A.2.1 A.2.2.1 hl) A.2.2.2.2 A.2.2.2.1 ?_ aA ?_
 ·rintro _ _ _ ⟨_,_,rfl,_,_,hwr⟩;exact cQ V V (Wr.did hwr)
 rintro _ H1 Z ⟨a,U,rfl,h5,h6,_⟩ lg hl'
 exact hk a U Z _ h5 (HS.lg h6 hh hl')
end
end
end Go.R
end
noncomputable section
set_option linter.unusedVariables false
namespace Go.R
def JJ(B:Base)(F:Fz)(L R:List Fp)(H:Heap):Prop:= ∃F',Fz.le F F'/\HS B F' H L R
section
variable {P:Program} {G:Nat} {K:bp} {sz:Nat} {Q:Ex->Fn->Heap->Prop} {f:Fn} {H:Heap} {B:Base} {F:Fz} {L R:List Fp} {c1:Code} {k k1:List Fr}
theorem wj(n:Nat)(hs:HS B F H L R){id:Nat}{ops:Array Oper}(A:List (Nat×Hint))(lo hi:Nat)(ex:List Nat)(l:List (Nat×Value)){p:Prop}(U:p)(h:fD P G (WJ P G K (JJ B F L R)) sz ops f 0 ops.toList A lo hi ex (dM Prod.fst l)=some (l,p))
  (O: ∀g H F',Fz.le F F'->HS B F' H L R->WK P G K sz c1 k1 (gY (hav lo hi ex g f) l) H Q) (E:foc n .skip k=(c1,k1):=by rfl):WK P G K sz (.region id ops false) k f H Q:=
 wk_rgJ (JJ B F L R) A lo hi ex ⟨F,Fz.le_refl F,hs⟩ h U fun g H' ⟨F',h1,h2⟩=>ai n E (O g H' F' h1 h2)
theorem jl0(hs:HS B F H L R){b:Nat}{cs:List Value}{w:Value}(t:TypeId)(i j:Nat)(A:aggOf P t=some false)(h:L[j]?=some [(b,.cells cs none false)])(E:cs[i]?=some w): ∀H,JJ B F L R H->LDv P H t (.pointer (some ⟨b,i,none⟩)) w:=
 fun _ ⟨_,_,q⟩=>by have:=ld1 (o:=0) (HS.hc q h) A E;rwa [a0H]at this
theorem jn0(hs:HS B F H L R){b:Nat}{cs l:List Value}(t:TypeId)(i n j:Nat)(A:aggOf P t=some true)(U:cT P t=some n)(h:L[j]?=some [(b,.cells cs none false)])(O:Nat.ble (i+n) cs.length=true)(E:dL (dX cs i) n=l): ∀H,JJ B F L R H->LDv P H t (.pointer (some ⟨b,i,none⟩)) (.agg ⟨l⟩):=
 fun _ ⟨_,_,q⟩=>by have:=ldN (o:=0) (HS.hc q h) A U O E;rwa [a0H]at this
def FzC(F:Fz)(b:Nat)(cs:List Value):Prop:=F b=some (.cells cs none false)
theorem FzC.mono{F':Fz}{b:Nat}{cs:List Value}(h:FzC F b cs)(A:Fz.le F F'):FzC F' b cs:=A _ _ h
theorem FzC.hc{b:Nat}{cs:List Value}(h:FzC F b cs)(hs:HS B F H L R):HC H.get b 0 cs:=HC.same (hs.fz _ _ h).1
theorem jf0(hs:HS B F H L R){b:Nat}{cs:List Value}{w:Value}(t:TypeId)(i:Nat)(E:FzC F b cs)(A:aggOf P t=some false)(O:cs[i]?=some w): ∀H,JJ B F L R H->LDv P H t (.pointer (some ⟨b,i,none⟩)) w:=
 fun _ ⟨_,h,q⟩=>by have:=ld1 (o:=0) ((E.mono h).hc q) A O;rwa [a0H]at this
theorem HS.frc(hs:HS B F H L R){b i:Nat}{cs:List Value}(h:L[i]?=some [(b,.cells cs none false)]): ∃F',Fz.le F F'/\HS B F' H (L.set i []) R/\FzC F' b cs:=by obtain⟨F',A,E,O⟩:=hs.freeze h;exact⟨F',A,E,O _ _ (a0L.2 V)⟩
theorem ap_mkf{ρ:Operand->Value}{d:Option Tmp}{ty:TypeId}{pos:String}{af:Array Edge}{gd:Option (Nat×Bool)}{fn:_}{first A:Array Operand}{v:Value}(h:Value.func fn (first.map ρ) (A.map ρ)=v):AP P ρ ⟨d,.makeFunc fn first A,ty,pos,af,gd⟩ H (.val v,H):=⟨by rw[←h];rfl⟩
theorem HS.reflat{O:List Fp}(h:HS B F H L R)(e:O.flatten=L.flatten):HS B F H O R:=
 have m: ∀p,p∈O->∀b o,(b,o)∈p->∃q,q∈L/\(b,o)∈q:=fun p A b o E=>by have:(b,o)∈L.flatten:=e▸a0M.2 ⟨p,A,E⟩;exact a0M.1 this
 ⟨h.fz,fun p A b o E=>by
   rcases A with A|A
   ·obtain⟨q,U,Z⟩:=m p A b o E;exact h.own q (.inl U) b o Z
   exact h.own p (.inr A) b o E,
  by have:=h.nd;rw[a0R]at this⊢;rwa [e],h.n0,h.log,fun p A b o E=>by
   obtain⟨q,U,Z⟩:=m p A b o E;exact h.mine q U b o Z⟩
theorem HS.own2{p q:Fp}(h:HS B F H (p::q::L) R):HS B F H [p++q] R:=HS.reflat (L:=[p,q]) (h.sub (.cons_cons _ (.cons_cons _ (List.nil_sublist _)))) (by simp)
theorem jc(hs:HS B F H L R){g:FuncId}{args:List Value}{α:Type}{e:α->Value}{c_:α}(h: ∀A H1,Fz.le F A->HS (.of H1 []) A H1 [] (L++R)->C P G K g args H1 fun v O=> ∃(o:α) (E:Fz),Fz.le A E/\HS (.of H1 []) E O [] (L++R)/\v=e o/\o=c_):
  ∀H,JJ B F L R H->C P G K g args H fun v H'=>v=e c_/\JJ B F L R H':=
 fun H ⟨A,h1,q⟩=>(h A H h1 q.call).mono fun v H' ⟨o,E,h2,q2,e1,e2⟩=>⟨by rw[e1,e2],E,Fz.le_trans h1 h2,by
  have:=q.back V q2;rwa [a0l]at this⟩
theorem jp(hs:HS B F H L R){g:FuncId}{args:List Value}{v:Value}(h: ∀H,C P G K g args H fun v' H'=>v'=v/\H'=H): ∀H,JJ B F L R H->C P G K g args H fun v' H'=>v'=v/\JJ B F L R H':=
 fun H q=>(h H).mono fun v' H' ⟨e1,e2⟩=>⟨e1,by rw[e2];exact q⟩
end
end Go.R
end
noncomputable section
set_option linter.unusedVariables false
namespace Go.R
section
variable {P:Program} {G0:Nat} {K:bp} {sz:Nat} {Q:Ex->Fn->Heap->Prop} {ops:Array Oper} {os:List Oper} {k k1:List Fr} {c1:Code} {f fr:Fn} {H:Heap} {S:SS} {B:Base} {F:Fz} {L R:List Fp}
theorem sj_row{hs:List (Nat×Hint)}: ∀{a:List Oper} {i:Nat} {S S':SS} {O:List Fp} {p:Prop} {fr:Fn} {H:Heap},JJ B F L R H->a.all (fun o=>o.dst.isSome)=true->sgL P G0 (WJ P G0 K (JJ B F L R)) sz ops f hs i a S L=some (S',O,p)->p->S.Rel f fr->
  (∀E H',JJ B F L R H'->S'.Rel f E->WO P G0 K sz ops os k E H' Q)->WO P G0 K sz ops (a++os) k fr H Q
 | [],i,S,S',O,p,fr,H,hJ,_,h,_,hr,hk=>by simp only[sgL,a02,a04]at h;obtain⟨rfl,_,_⟩:=h;exact hk fr H hJ hr
 |o::a,i,S,S',O,p,fr,H,hJ,hd,h,A,hr,hk=>by
  rw[a0f,a06]at hd;unfold sgL at h;split at h
  ·rename_i q _;split at h
   ·rename_i b cs ho hg hc;rw[a06]at hc;have hq:=mY ho;obtain⟨bn,op,ty,pos,af,gd⟩:=o;simp only at hg hc h hd;subst hg;split at h
    ·rename_i d t x;simp only[Op.operands,a0f,a1i,a0A]at hc;split at h
     ·rename_i b' o' U;split at h
      ·rename_i v Z;cases hb:Nat.ble (d+1) sz with
       |false=>rw[hb]at h;cases h
       |true=>
        rw[hb]at h
        simp only[cond_true]at h
        split at h
        ·rename_i S1 q1 e3;split at h
         ·rename_i S2 L2 p2 e4;simp only[a02,a04]at h;obtain⟨rfl,rfl,rfl⟩:=h;obtain⟨rfl,A⟩:=A;have h1:=(kP (m:=S.m) (G:=S.G) hr (c:=[]) (fun _ _ hm=>(a0a hm).elim) e3).1;obtain⟨F',a0,hh⟩:=hJ;exact ao (ldR_ok (HS.hc hh hq) (by rw[iB hr hc.2];exact U) Z) (by simp only[Op.operands,a0f,a1i,a0A];exact hc.1) hb (sj_row ⟨F',a0,hh⟩ hd.2 e4 A h1 hk)
         cases h
        cases h
      cases h
     cases h
    ·cases hd.1
    cases h
   cases h
  split at h
  ·rename_i S1 q h1;split at h
   ·rename_i S2 L2 p2 h2;simp only[a02,a04]at h;obtain⟨rfl,rfl,rfl⟩:=h;obtain⟨hq,a4⟩:=fw A;obtain⟨d,c,G1,v,U,Z,e3,e4,e5,e6⟩:=gK okJ hr h1 hq;exact wo_do U Z e3 (fN hr e4) e5 hJ fun H' a1=>sj_row a1 hd.2 h2 a4 e6 hk
   cases h
  cases h
theorem sj(n:Nat){id:Nat}{hs:List (Nat×Hint)}(lo hi:Nat)(ex:List Nat)(l:List (Nat×Value)){p:Prop}(hp:HP hs p)(U:HS B F H L R)(h:sgE lo hi ex (dM Prod.fst l) (sgL P G0 (WJ P G0 K (JJ B F L R)) sz ops f hs 0 ops.toList ⟨[],[]⟩ L)=some (l,L,p))(A:(foc n .skip k,ops.toList.all (fun o=>o.dst.isSome))=((c1,k1),true))
  (Z: ∀g H F',Fz.le F F'->HS B F' H L R->WK P G0 K sz c1 k1 (gY (hav lo hi ex g f) l) H Q):WK P G0 K sz (.region id ops false) k f H Q:=by
 rw[a04]at A
 obtain⟨S,E,O⟩:=sgE_ok (f:=f) h
 refine ab ?_
 have:=sj_row (os:=[]) (k:=k) (Q:=Q) ⟨F,Fz.le_refl F,U⟩ A.2 E hp rel0 (fun fr H' ⟨F',q1,q2⟩ hr=>by obtain⟨g,rfl⟩:=O fr hr;exact aQ (ai n A.1 (Z g H' F' q1 q2)))
 rwa [a0l]at this
theorem Hj_(i:Nat){d_:Heap->Prop}{t:TypeId}{a v:Value}{hs:List (Nat×Hint)}{p:Prop}(h: ∀H,d_ H->LDv P H t a v)(r:HP hs p):HP ((i,.o v)::hs) ((∀H,d_ H->LDv P H t a v)/\p):=⟨h,r⟩
theorem Hk_(i:Nat){d_:Heap->Prop}{g:FuncId}{args:List Value}{v:Value}{hs:List (Nat×Hint)}{p:Prop}(h: ∀H,d_ H->C P G0 K g args H fun v' H'=>v'=v/\d_ H')(r:HP hs p):HP ((i,.o v)::hs) ((∀H,d_ H->C P G0 K g args H fun v' H'=>v'=v/\d_ H')/\p):=⟨h,r⟩
theorem dK(i:Nat){A w0:Bool}{H:Heap}{t:TypeId}{a v:Value}{hs:List (Nat×Hint)}{p:Prop}(h:A=w0->LDv P H t a v)(r:HP hs p):HP ((i,.o v)::hs) ((A=w0->LDv P H t a v)/\p):=⟨h,r⟩
theorem Hc1_(i:Nat){A w0:Bool}{H:Heap}{g:FuncId}{args:List Value}{v:Value}{hs:List (Nat×Hint)}{p:Prop}(h:A=w0->C P G0 K g args H fun v' H'=>v'=v/\H'=H)(r:HP hs p):HP ((i,.o v)::hs) ((A=w0->C P G0 K g args H fun v' H'=>v'=v/\H'=H)/\p):=⟨h,r⟩
theorem cI(i:Nat){A w0:Bool}{d_:Heap->Prop}{t:TypeId}{a v:Value}{hs:List (Nat×Hint)}{p:Prop}(h:A=w0->∀H,d_ H->LDv P H t a v)(r:HP hs p):HP ((i,.o v)::hs) ((A=w0->∀H,d_ H->LDv P H t a v)/\p):=⟨h,r⟩
theorem fX(i:Nat){A w0:Bool}{d_:Heap->Prop}{g:FuncId}{args:List Value}{v:Value}{hs:List (Nat×Hint)}{p:Prop}(h:A=w0->∀H,d_ H->C P G0 K g args H fun v' H'=>v'=v/\d_ H')(r:HP hs p):HP ((i,.o v)::hs) ((A=w0->∀H,d_ H->C P G0 K g args H fun v' H'=>v'=v/\d_ H')/\p):=⟨h,r⟩
theorem Hl2_(i:Nat){A w0 E w1:Bool}{H:Heap}{t:TypeId}{a v:Value}{hs:List (Nat×Hint)}{p:Prop}(h:A=w0->E=w1->LDv P H t a v)(r:HP hs p):HP ((i,.o v)::hs) ((A=w0->E=w1->LDv P H t a v)/\p):=⟨h,r⟩
theorem Hc2_(i:Nat){A w0 E w1:Bool}{H:Heap}{g:FuncId}{args:List Value}{v:Value}{hs:List (Nat×Hint)}{p:Prop}(h:A=w0->E=w1->C P G0 K g args H fun v' H'=>v'=v/\H'=H)(r:HP hs p):HP ((i,.o v)::hs) ((A=w0->E=w1->C P G0 K g args H fun v' H'=>v'=v/\H'=H)/\p):=⟨h,r⟩
theorem Hl3_(i:Nat){A w0 E w1 O U:Bool}{H:Heap}{t:TypeId}{a v:Value}{hs:List (Nat×Hint)}{p:Prop}(h:A=w0->E=w1->O=U->LDv P H t a v)(r:HP hs p):HP ((i,.o v)::hs) ((A=w0->E=w1->O=U->LDv P H t a v)/\p):=⟨h,r⟩
end
end Go.R
end
noncomputable section
set_option linter.unusedVariables false
namespace Go.R
open Go
structure TabS(f:List UInt8->Option Value)(es:List (Value×Value)):Prop where
 key: ∀e,e∈es->∃k,e.1= .string ⟨⟨k⟩⟩
 at_: ∀k,dW .string (.string ⟨⟨k⟩⟩) es=f k
def updS(f:List UInt8->Option Value)(k:List UInt8)(v:Value):List UInt8->Option Value:=fun x=>if x=k then some v else f x
theorem sameS{a b:List UInt8}:cZ (.string ⟨⟨a⟩⟩) (.string ⟨⟨b⟩⟩)=decide (a=b):=by
 show(a==b)=_;by_cases h:a=b
 ·subst h;simp
 rw[decide_eq_false h];simpa using h
theorem TabS.nil:TabS (fun _=>none) []:=⟨fun _ h=>absurd h a0a,fun _=>rfl⟩
theorem findS_set{d:TypeDesc}{k x:List UInt8}{v:Value}: ∀{es:List (Value×Value)},(∀e,e∈es->∃k,e.1= .string ⟨⟨k⟩⟩)->dW d (.string ⟨⟨x⟩⟩) (cU (.string ⟨⟨k⟩⟩) v es)=if x=k then some v else dW d (.string ⟨⟨x⟩⟩) es
 | [],_=>by show(bif cZ (.string ⟨⟨x⟩⟩) (.string ⟨⟨k⟩⟩) then some v else none)=_;rw[sameS];by_cases h:x=k<;>simp[h,dW]
 |(a,w)::es,h=>by
  obtain⟨j,E⟩:=h (a,w) (a0E ..);have E:a= .string ⟨⟨j⟩⟩:=E;subst E;have ih:=findS_set (d:=d) (k:=k) (x:=x) (v:=v) (es:=es) fun e U=>h e (a0g _ U)
  unfold cU;rw[sameS];by_cases O:k=j
  ·subst O;simp only[decide_true,cond_true];unfold dW;rw[sameS];by_cases A:x=k<;>simp[A]
  rw[decide_eq_false O,cond_false];unfold dW;rw[sameS,ih];by_cases A:x=j
  ·subst A;simp[Ne.symm O]
  rw[decide_eq_false A];rfl
theorem keyS_set{k:List UInt8}{v:Value}: ∀{es:List (Value×Value)},(∀e,e∈es->∃k,e.1= .string ⟨⟨k⟩⟩)->∀e,e∈cU (.string ⟨⟨k⟩⟩) v es->∃k,e.1= .string ⟨⟨k⟩⟩
 | [],_,e,A=>by
  have:e=(.string ⟨⟨k⟩⟩,v):=by simpa[cU] using A
  subst this;exact⟨k,V⟩
 |(a,w)::es,h,e,A=>by
  unfold cU at A;cases E:cZ (.string ⟨⟨k⟩⟩) a with
  |true=>
   rw[E]at A
   rcases a0o.1 A with rfl|A
   ·exact⟨k,V⟩
   exact h e (a0g _ A)
  |false=>
   rw[E]at A
   rcases a0o.1 A with rfl|A
   ·exact h _ (a0E ..)
   exact keyS_set (fun e A=>h e (a0g _ A)) e A
theorem TabS.upd{f:List UInt8->Option Value}{es:List (Value×Value)}(h:TabS f es)(k:List UInt8)(v:Value):TabS (updS f k v) (cU (.string ⟨⟨k⟩⟩) v es):=
 ⟨keyS_set h.key,fun x=>by rw[findS_set h.key,h.at_ x];rfl⟩
theorem TabS.keys{f:List UInt8->Option Value}{es:List (Value×Value)}(h:TabS f es):(es.all fun e=>bB .string e.1)=true:=a0u.2 fun e E=>by obtain⟨k,A⟩:=h.key e E;rw[A];rfl
section
variable {P:Program} {ρ:Operand->Value} {d:Option Tmp} {ty:TypeId} {pos:String} {af:Array Edge} {gd:Option (Nat×Bool)} {B:Base} {F:Fz} {H:Heap} {L R:List Fp} {f:List UInt8->Option Value} {es:List (Value×Value)}
theorem lookS{t U A:TypeId}{z:Value}{b:Nat}{k:List UInt8}{i:TypeInfo}(Z:H.get b=some (.tab es))(E:TabS f es)(ht:P.underlying t=some (.map U A))(hd:P.underlying U=some .string)(hi:P.info? A=some i)(hz:i.zero=some z)(hn:jr z=true)(ok:Bool):
  dl P t (.map (some b)) (.string ⟨⟨k⟩⟩) ok H=some (bif ok then .tuple #[(f k).getD z,.bool (f k).isSome] else(f k).getD z):=by
 unfold dl
 have O:bB .string (.string ⟨⟨k⟩⟩)=true:=rfl
 simp only[ht,hd,hi,hz,hn,O,Z,E.keys,a0A,cond_true,E.at_ k]
 cases f k<;>cases ok<;>rfl
theorem ap_lookS{t O E:TypeId}{m A:Operand}{z:Value}{b:Nat}{k:List UInt8}{i:TypeInfo}{ok:Bool}(Z:H.get b=some (.tab es))(U:TabS f es)(hm:ρ m= .map (some b))(hk:ρ A= .string ⟨⟨k⟩⟩)(ht:P.underlying t=some (.map O E))(hd:P.underlying O=some .string)(hi:P.info? E=some i)(hz:i.zero=some z)(hn:jr z=true):
  AP P ρ ⟨d,.lookup t m A ok,ty,pos,af,gd⟩ H (.val (bif ok then .tuple #[(f k).getD z,.bool (f k).isSome] else(f k).getD z),H):=⟨by
 show ovl (dl P t (ρ m) (ρ A) ok H) H=_
 rw[hm,hk,lookS Z U ht hd hi hz hn ok];rfl⟩
end
def tabS(l:List (List UInt8)):List (Value×Value):=l.foldl (fun es k=>cU (.string ⟨⟨k⟩⟩) (.bool true) es) []
def tabB(b:Nat)(l:List (List UInt8)):Fp:=[(b,.tab (tabS l))]
def inS(l:List (List UInt8))(k:List UInt8):Option Value:=if k∈l then some (.bool true) else none
theorem tabS_snoc(l:List (List UInt8))(k:List UInt8):tabS (l++[k])=cU (.string ⟨⟨k⟩⟩) (.bool true) (tabS l):=by unfold tabS;rw[List.foldl_append];rfl
theorem tabS_ok(l:List (List UInt8)):TabS (inS l) (tabS l):=by
 have key: ∀(l m:List (List UInt8)),TabS (inS m) (tabS m)->TabS (inS (m++l)) (tabS (m++l)):=by
  intro l;induction l with
  |nil=>intro m h;rwa [a0l]
  |cons k l ih=>
   intro m h
   have E:TabS (inS (m++[k])) (tabS (m++[k])):=by
    rw[tabS_snoc];have:=h.upd k (.bool true);rwa [show updS (inS m) k (.bool true)=inS (m++[k]) from funext fun x=>by
     unfold updS inS;by_cases A:x=k
     ·subst A;simp
     simp[A]]at this
   have:=ih (m++[k]) E
   rwa [a0d]at this
 exact key l [] TabS.nil
section
variable {P:Program} {ρ:Operand->Value} {d:Option Tmp} {ty:TypeId} {pos:String} {af:Array Edge} {gd:Option (Nat×Bool)} {B:Base} {F:Fz} {H:Heap} {L R:List Fp}
theorem rs_mapN{t:TypeId}(hs:HS B F H L R): ∃r:Rs,AP P ρ ⟨d,.makeMap t none,ty,pos,af,gd⟩ H (.val r.v,r.H)/\(∃b,r.v= .map (some b)/\HS B F r.H (L++[tabB b []]) R/\Wr H r.H []):=
 ⟨⟨_,_,[]⟩,⟨V⟩,_,V,hs.push _,.nil fun b A=>by simpa using A⟩
theorem ap_lookN{t E A:TypeId}{m O:Operand}{q b:Nat}{l:List (List UInt8)}{k:List UInt8}{i:TypeInfo}(hs:HS B F H L R)(hq:L[q]?=some (tabB b l))(Z:ρ m= .map (some b))(U:ρ O= .string ⟨⟨k⟩⟩)(ht:P.underlying t=some (.map E A))(hd:P.underlying E=some .string)(hi:P.info? A=some i)(hz:i.zero=some (.bool false)):
  AP P ρ ⟨d,.lookup t m O false,ty,pos,af,gd⟩ H (.val (.bool (decide (k∈l))),H):=by
 have:=ap_lookS (P:=P) (ρ:=ρ) (d:=d) (ty:=ty) (pos:=pos) (af:=af) (gd:=gd) (ok:=false) (hs.get hq (a0L.2 V)) (tabS_ok l) Z U ht hd hi hz V
 rwa [show(bif false then(.tuple #[(inS l k).getD (.bool false),.bool (inS l k).isSome]:Value) else(inS l k).getD (.bool false))= .bool (decide (k∈l)) by
  unfold inS;by_cases h:k∈l<;>simp[h]]at this
theorem rs_updN{t kt et:TypeId}{m O U:Operand}{q b:Nat}{l:List (List UInt8)}{k:List UInt8}(hs:HS B F H L R)(E:L[q]?=some (tabB b l))(hm:ρ m= .map (some b))(hk:ρ O= .string ⟨⟨k⟩⟩)(hv:ρ U= .bool true)(ht:P.underlying t=some (.map kt et))(hd:P.underlying kt=some .string):
  ∃r:Rs,AP P ρ ⟨d,.mapUpdate t m O U,ty,pos,af,gd⟩ H (.skip,r.H)/\(HS B F r.H (L.set q (tabB b (l++[k]))) R/\Wr H r.H [b]):=by
 have hg:=hs.get E (a0L.2 V)
 have al:=hs.callOwn E
 have Z:=al.put (i:=0) (o':= .tab (cU (.string ⟨⟨k⟩⟩) (.bool true) (tabS l))) V
 have h4:=hs.backOwn (b_:=[]) E V (fun b A=>A) Z
 refine⟨⟨.bool true,H.put b (.tab (cU (.string ⟨⟨k⟩⟩) (.bool true) (tabS l))),[]⟩,⟨?_⟩,by unfold tabB;rw[tabS_snoc];simpa using h4,fun b A=>Z.log b A⟩
 show osk (er P t (ρ m) (ρ O) (ρ U) H)=_
 have an:bB .string (.string ⟨⟨k⟩⟩)=true:=rfl
 unfold er
 simp only[ht,hm,hk,hv,hd,hg,an,(tabS_ok l).keys,a0A,cond_true]
 rfl
end
def FzT(F:Fz)(b:Nat)(l:List (List UInt8)):Prop:=F b=some (.tab (tabS l))
section
variable {P:Program} {B:Base} {F F':Fz} {H:Heap} {L R:List Fp} {b:Nat} {l:List (List UInt8)}
theorem FzT.mono(h:FzT F b l)(A:Fz.le F F'):FzT F' b l:=A _ _ h
theorem HS.frt(hs:HS B F H L R){i:Nat}(h:L[i]?=some (tabB b l)): ∃F',Fz.le F F'/\HS B F' H (L.set i []) R/\FzT F' b l:=by obtain⟨F',A,E,O⟩:=hs.freeze h;exact⟨F',A,E,O _ _ (a0L.2 V)⟩
theorem FzT.look(h:FzT F b l)(hs:HS B F H L R){t E A:TypeId}{k:List UInt8}{i:TypeInfo}(O:P.underlying t=some (.map E A))(hd:P.underlying E=some .string)(hi:P.info? A=some i)(U:i.zero=some (.bool false)):
  dl P t (.map (some b)) (.string ⟨⟨k⟩⟩) false H=some (.bool (decide (k∈l))):=by
 rw[lookS (hs.fz _ _ h).1 (tabS_ok l) O hd hi U V false]
 unfold inS;by_cases h:k∈l<;>simp[h]
end
def tabK(l:List (List UInt8×Int)):List (Value×Value):=l.foldl (fun es k=>cU (.string ⟨⟨k.1⟩⟩) (.int .i64 k.2) es) []
def tabJ(b:Nat)(l:List (List UInt8×Int)):Fp:=[(b,.tab (tabK l))]
def jt(l:List (List UInt8×Int))(k:List UInt8):Option Int:=l.foldl (fun r e=>if k=e.1 then some e.2 else r) none
def inK(l:List (List UInt8×Int))(k:List UInt8):Option Value:=(jt l k).map (.int .i64)
theorem tabK_snoc(l:List (List UInt8×Int))(e:List UInt8×Int):tabK (l++[e])=cU (.string ⟨⟨e.1⟩⟩) (.int .i64 e.2) (tabK l):=by unfold tabK;rw[List.foldl_append];rfl
theorem lasK_snoc(l:List (List UInt8×Int))(e:List UInt8×Int)(k:List UInt8):jt (l++[e]) k=if k=e.1 then some e.2 else jt l k:=by unfold jt;rw[List.foldl_append];rfl
theorem tabK_ok(l:List (List UInt8×Int)):TabS (inK l) (tabK l):=by
 have key: ∀(l m:List (List UInt8×Int)),TabS (inK m) (tabK m)->TabS (inK (m++l)) (tabK (m++l)):=by
  intro l;induction l with
  |nil=>intro m h;rwa [a0l]
  |cons k l ih=>
   intro m h
   have E:TabS (inK (m++[k])) (tabK (m++[k])):=by
    rw[tabK_snoc];have:=h.upd k.1 (.int .i64 k.2);rwa [show updS (inK m) k.1 (.int .i64 k.2)=inK (m++[k]) from funext fun x=>by
     unfold updS inK;rw[lasK_snoc];by_cases A:x=k.1
     ·rw[if_pos A,if_pos A];rfl
     rw[if_neg A,if_neg A]]at this
   have:=ih (m++[k]) E
   rwa [a0d]at this
 exact key l [] TabS.nil
section
variable {P:Program} {ρ:Operand->Value} {d:Option Tmp} {ty:TypeId} {pos:String} {af:Array Edge} {gd:Option (Nat×Bool)} {B:Base} {F F':Fz} {H:Heap} {L R:List Fp} {b:Nat} {l:List (List UInt8×Int)} {k:List UInt8}
theorem rs_mapK{t:TypeId}(hs:HS B F H L R): ∃r:Rs,AP P ρ ⟨d,.makeMap t none,ty,pos,af,gd⟩ H (.val r.v,r.H)/\(∃b,r.v= .map (some b)/\HS B F r.H (L++[tabJ b []]) R/\Wr H r.H []):=
 ⟨⟨_,_,[]⟩,⟨V⟩,_,V,hs.push _,.nil fun b A=>by simpa using A⟩
theorem rs_updK{t kt et:TypeId}{m O U:Operand}{q:Nat}{w:Int}(hs:HS B F H L R)(E:L[q]?=some (tabJ b l))(hm:ρ m= .map (some b))(hk:ρ O= .string ⟨⟨k⟩⟩)(hv:ρ U= .int .i64 w)(ht:P.underlying t=some (.map kt et))(hd:P.underlying kt=some .string):
  ∃r:Rs,AP P ρ ⟨d,.mapUpdate t m O U,ty,pos,af,gd⟩ H (.skip,r.H)/\(HS B F r.H (L.set q (tabJ b (l++[(k,w)]))) R/\Wr H r.H [b]):=by
 have hg:=hs.get E (a0L.2 V)
 have al:=hs.callOwn E
 have Z:=al.put (i:=0) (o':= .tab (cU (.string ⟨⟨k⟩⟩) (.int .i64 w) (tabK l))) V
 have h4:=hs.backOwn (b_:=[]) E V (fun b A=>A) Z
 refine⟨⟨.bool true,H.put b (.tab (cU (.string ⟨⟨k⟩⟩) (.int .i64 w) (tabK l))),[]⟩,⟨?_⟩,by unfold tabJ;rw[tabK_snoc];simpa using h4,fun b A=>Z.log b A⟩
 show osk (er P t (ρ m) (ρ O) (ρ U) H)=_
 have an:bB .string (.string ⟨⟨k⟩⟩)=true:=rfl
 unfold er
 simp only[ht,hm,hk,hv,hd,hg,an,(tabK_ok l).keys,a0A,cond_true]
 rfl
def FzK(F:Fz)(b:Nat)(l:List (List UInt8×Int)):Prop:=F b=some (.tab (tabK l))
theorem FzK.mono(h:FzK F b l)(A:Fz.le F F'):FzK F' b l:=A _ _ h
theorem HS.frk(hs:HS B F H L R){i:Nat}(h:L[i]?=some (tabJ b l)): ∃F',Fz.le F F'/\HS B F' H (L.set i []) R/\FzK F' b l:=by obtain⟨F',A,E,O⟩:=hs.freeze h;exact⟨F',A,E,O _ _ (a0L.2 V)⟩
theorem FzK.look{t E A:TypeId}{i:TypeInfo}(h:FzK F b l)(hs:HS B F H L R)(O:P.underlying t=some (.map E A))(hd:P.underlying E=some .string)(hi:P.info? A=some i)(U:i.zero=some (.int .i64 0)):
  dl P t (.map (some b)) (.string ⟨⟨k⟩⟩) true H=some (.tuple #[.int .i64 ((jt l k).getD 0),.bool (jt l k).isSome]):=by
 rw[lookS (hs.fz _ _ h).1 (tabK_ok l) O hd hi U V true]
 unfold inK;cases jt l k<;>rfl
end
end Go.R
end
noncomputable section
set_option linter.unusedVariables false
namespace Go.R
open Go
theorem RL.ofB{F:Fz}: ∀l:List UInt8,RL F (l.map fun c=> .int .u8 c.toNat) l
 | []=>rfl
 |c::l=>⟨[.int .u8 c.toNat],_,V,V,RL.ofB l⟩
theorem RL.lowB{F F':Fz}: ∀{l:List UInt8} {cs:List Value},RL F cs l->RL F' cs l
 | [],_,h=>h
 |_::_,_,⟨c,r,e,h1,h2⟩=>⟨c,r,e,h1,RL.lowB h2⟩
theorem OS.low{F F':Fz}{v:Value}{l:List UInt8}{p:Fp}(h:OS F v l p):OS F' v l p:=by
 rcases h with h|⟨b,off,k,cs,opn,h1,h2,cs',opn',ro,h3,h4,h5,h6,h7⟩
 ·exact .inl h
 exact .inr ⟨b,off,k,cs,opn,h1,h2,cs',opn',ro,h3,h4,h5,h6.lowB,h7⟩
section
variable {P:Program} {ρ:Operand->Value} {d:Option Tmp} {ty:TypeId} {pos:String} {af:Array Edge} {gd:Option (Nat×Bool)} {B:Base} {F:Fz} {H:Heap} {L R:List Fp} {v:Value} {l:List UInt8} {p:Fp}
theorem rs_appS{s0 x0:Operand}{st U e:TypeId}{l2:List UInt8}{q A:Nat}{z:List Value}(h:OS F v l p)(hs:HS B F H L R)(hq:L[q]?=some p)(hx:ρ s0=v)(hy:ρ x0= .string ⟨⟨l2⟩⟩)(ht:P.underlying st=some (.slice e))(ax:P.underlying U=some .string)
  (hz:cT P e=some 1) (an:ff P e=some A) (a1:cw P e=some z) (a0:Nat.beq (eG z) 1=true) (al:Nat.ble A 4096=true) (O:l.length+l2.length<=2147483648):
  ∃r:Rs,AP P ρ ⟨d,.call ⟨.builtin .append, #[s0,x0], #[st,U]⟩,ty,pos,af,gd⟩ H (.val r.v,r.H)/\(∃a k,r.v= .slice a (l++l2).length k/\OS F (.slice a (l++l2).length k) (l++l2) r.p/\HS B F r.H (L.set q r.p) R/\Wr H r.H (p.map Prod.fst)):=by
 have hc:=hs.callOwn hq
 have aA:cT P e=some (Rp.sz UInt8):=hz
 obtain⟨a,k,H1,p',h1,h2,Z⟩:=os_append (P:=P) (types:= #[st,U]) (x:= .string ⟨⟨l2⟩⟩) (l2:=l2) (new:=l2.map fun c=> .int .u8 c.toNat) h hc (i:=0) V V V ht ax (by intro k hk;cases hk) aA an a1 a0 al V
  (by show some (eG l2)=_;rw[be]) (by show some (dM _ (dL l2 l2.length))=_;rw[bu,a0T,io]) (RL.ofB l2) O
 have h4:=hs.backOwn (b_:=[]) hq V (fun b E=>E) Z
 refine⟨⟨_,H1,p'⟩,ap_app hx hy h1,a,k,V,h2,by simpa using h4,fun b E=>Z.log b E⟩
end
structure GdT where
 b:List UInt8
 a:Option Addr
 k:Nat
 p:Fp
 ok:OS (fun _=>none) (.slice a b.length k) b p
theorem GdT.up(w:GdT){F:Fz}:OS F (.slice w.a w.b.length w.k) w.b w.p:=w.ok.low
def psG(g:Nat)(w:GdT):Fp:=(g,.cells [.slice w.a w.b.length w.k] none false)::w.p
section
variable {B:Base} {F:Fz} {H:Heap} {L R:List Fp}
end
end Go.R
end
noncomputable section
namespace Go.R
section
variable {B:Base} {F F':Fz} {H:Heap} {L R:List Fp}
end
structure Hd where
 a:Option Addr
 n:Nat
 k:Nat
instance :Inhabited Hd:=⟨⟨none,0,0⟩⟩
def Hd.v(h:Hd):Value:= .slice h.a h.n h.k
instance :Rp Hd where
 sz:=1
 rep _ cs h:=cs=[.slice h.a h.n h.k]
 len:=by rintro F cs x rfl;rfl
 one:=by rintro F cs x rfl;rfl
 mono:=by intro F F' cs x _ h;exact h
def FAM{ι β:Type}(Ch:Fz->ι->β->Fp->Prop)(F:Fz):List ι->List β->Fp->Prop
 | [],[],p=>p=[]
 |h::hs,x::xs,p=> ∃q r,p=q++r/\Ch F h x q/\FAM Ch F hs xs r
 |_,_,_=>False
section
variable {ι β:Type} {Ch:Fz->ι->β->Fp->Prop} {F F':Fz}
end
section
variable {α:Type} [Rp α] {F F':Fz}
theorem SR.nin{B:Base}{H:Heap}{L R:List Fp}{v:Value}{l:List α}{i j:Nat}{p:Fp}(h:SR F v l)(s:HS B F H L R)(hi:L[i]?=some p)(Z:j<l.length):sB v∉p.map Prod.fst:=by
 rcases h with⟨_,rfl⟩|⟨b,off,k,o,rfl,O,_⟩
 ·simp at Z
 intro hm;obtain⟨⟨A,o'⟩,U,e⟩:=a0v.1 hm;have E:A=b:=e;subst E;have:=(s.own p (.inl (a0p hi)) A o' U).2.2;rw[O]at this;cases this
class Ri(α:Type) [Rp α]:Prop where
 ind: ∀{F F':Fz} {cs:List Value} {x:α},Rp.rep F cs x->Rp.rep F' cs x
instance :Ri Int:=⟨fun h=>h⟩
instance :Ri Bool:=⟨fun h=>h⟩
instance :Ri Str:=⟨fun h=>h⟩
instance :Ri U64:=⟨fun h=>h⟩
instance :Ri UInt8:=⟨fun h=>h⟩
instance :Ri Hd:=⟨fun h=>h⟩
end
class HasHd(ι:Type) where
 hd:ι->Hd
instance :HasHd Hd:=⟨fun h=>h⟩
def OH{ι α:Type} [HasHd ι] [Rp α](F:Fz)(h:ι)(l:List α)(p:Fp):Prop:=OS F (HasHd.hd h).v l p
abbrev SF{ι α:Type} [HasHd ι] [Rp α](F:Fz)(hs:List ι)(ls:List (List α))(p:Fp):Prop:=FAM (OH (ι:=ι) (α:=α)) F hs ls p
section
variable {ι α:Type} [HasHd ι] [Rp α] {F F':Fz} {B:Base} {H:Heap} {L R:List Fp} {hs:List ι} {ls:List (List α)} {p:Fp}
def SB(F:Fz)(hs:List ι)(ls:List (List α))(i:Nat)(U:Fp):Prop:= ∀F',F.le F'->∀A l' O,OH F' A l' O->∃E,E.Perm (U++O)/\SF F' (hs.set i A) (ls.set i l') E
end
section
variable {ι α:Type} [HasHd ι] [Inhabited ι] [Rp α] {F F':Fz} {B:Base} {H:Heap} {L R:List Fp} {hs:List ι} {ls:List (List α)} {p:Fp}
end
section
variable {α:Type} [Rp α] {F F':Fz} {B:Base} {H:Heap} {L R:List Fp}
end
end Go.R
end
noncomputable section
namespace Go.R
section
variable {α:Type} [Rp α] {P:Program} {ρ:Operand->Value} {d:Option Tmp} {ty:TypeId} {pos:String} {af:Array Edge} {gd:Option (Nat×Bool)} {B:Base} {F:Fz} {H:Heap} {L R:List Fp} {v:Value} {l:List α} {p:Fp}
def At(α:Type) [Rp α](v:Value)(n i:Nat)(a:Option Addr):Prop:=n<=i\/a=some ⟨sB v,sO v+i *Rp.sz α,none⟩
def cpL(l:List α)(i:Nat)(l2:List α):List α:=l.take i++(l2.take (l.length-i)++l.drop (i+min l2.length (l.length-i)))
end
end Go.R
end
noncomputable section
namespace Go.R
def tb(a:Int)(i:Nat):Bool:=a.toNat.testBit i
abbrev u64r(a:Int):Prop:=0<=a/\a<18446744073709551616
def bitOf(s:List U64)(n:Nat):Bool:=tb (s.getD (n/64) default).n (n%64)
def uniB(s t:List U64)(k:Nat)(w:List U64):Prop:=w.length=s.length/\∀i,bitOf w i=(bitOf s i||(decide (i<64 *k)&&bitOf t i))
def lstK(s:List U64)(m:Nat):List Int:=List.map (fun i:Nat=>(i:Int)) ((List.range m).filter (bitOf s))
def lstV(s:List U64):List Int:=lstK s (64 *s.length)
end Go.R
end
noncomputable section
namespace Go.R
open Go.RowKit Go.WideShapes Go.ChangeShapes
section
variable {c_:Type} {enc:TypeId×Value->c_} {P:Program} {w:World} {μ:Emb} {H:Heap}
theorem Em.void(h:Em w μ H)(A:0<w.heap.size):Em w (μ.set H.next ⟨0,0,none,0⟩) (H.push (.cells [] none true)):=
 h.add (c:=0) (sh:=0) (cs:=[]) A fun i v E=>by simp at E
def EmC(enc:TypeId×Value->c_)(P:Program)(w:World)(t:TypeId)(α:Type) [Rp α](B:DataW c_->α->Prop):Prop:=
 ∀{μ:Emb} {H:Heap} {n:Nat} {cs:List Value} {x:DataW c_×List MemPlace},Em w μ H->DataW.trod enc P w 0 (fun _=>true) true n t cs=some x->
  ∃μ' H' c y,Em w μ' H'/\EmLe μ H μ' H'/\LRel μ' c cs/\Rp.rep H'.get c (y:α)/\B x.1 y
theorem jz{t:TypeId}(A:P.underlying t=some (.int .i64)):EmC enc P w t Int (fun _=>in64):=fun{μ H n cs x} h hd=>by obtain⟨m,rfl,_,E⟩:=DataW.trod_int A hd;have:=wf_in64 E;exact⟨μ,H,_,m,h,.refl _ _,.cons (.atom _ V) .nil,⟨V,this⟩,this⟩
theorem em_row{e:TypeId}{α:Type} [Rp α]{B:DataW c_->α->Prop}(he:EmC enc P w e α B)(hc:P.cellsOf e=Rp.sz α){a:Addr}{n:Nat}{D:Nat->DataW c_}{Pl:Nat->List MemPlace}:
  ∀(len:Nat),(∀i,i<len->∃cs,w.cells? 0 (a.add (i *P.cellsOf e)) (P.cellsOf e)=some cs/\DataW.trod enc P w 0 (fun _=>true) true n e cs=some (D i,Pl i))->∀{μ:Emb} {H:Heap},Em w μ H->
   ∃μ' H' c l,Em w μ' H'/\EmLe μ H μ' H'/\RL H'.get c (l:List α)/\l.length=len/\(∀i y,l[i]?=some y->B (D i) y)/\∀(i:Nat) v,c[i]?=some v->∃v',w.cell? (a.add i)=some v'/\VRel μ' v v'
 |0,_,μ,H,h=>⟨μ,H,[],[],h,.refl _ _,V,V,fun i y hy=>(by simp at hy),fun i v E=>by simp at E⟩
 |len+1,hx,μ,H,h=>by
  obtain⟨μ1,H1,c,l,h1,a3,hr,hl,hB,hg⟩:=em_row he hc len (fun i hi=>hx i M) h;obtain⟨cs,aA,hd⟩:=hx len M;obtain⟨μ2,H2,c2,y,h2,O,an,ar,hy⟩:=he h1 hd;obtain⟨_,ba,Z⟩:=World.cells?_some aA;have bf:c.length=len *P.cellsOf e:=by rw[hr.length,hl,hc]
  refine⟨μ2,H2,c++c2,l++[y],h2,a3.trans O,(hr.mono O.heap).append (.single ar),by simp[hl],fun i z A=>?_,fun i v E=>?_⟩
  ·rw[a1D]at A;split at A
   ·exact hB i z A
   rename_i hi;have:i-l.length=0:=by have:=(a0m.1 A).1;simp at this;omega
   rw[this]at A;simp at A;subst A;rw[show i=len by omega];exact hy
  by_cases hi:i<c.length
  ·rw[a0U hi]at E;obtain⟨v',U,h4⟩:=hg i v E;exact⟨v',U,h4.mono O.emb⟩
  rw[a17 M]at E;obtain⟨v',U,h4⟩:=an.get E;have bl:i-c.length<cs.length:=(a0m.1 U).1;refine⟨v',?_,h4⟩;rw[←U,←Z _ M,Go.Deep.add_add];congr 2;omega
def LB{α:Type}(B:DataW c_->α->Prop)(d:DataW c_)(l:List α):Prop:=
 l.length<=maxLen/\∃(D:Nat->DataW c_) (rest:List (DataW c_)),(d= .slice ((List.range l.length).map D) rest\/(d= .nil/\l=[]))/\∀i y,l[i]?=some y->B (D i) y
theorem gA{t e:TypeId}{α:Type} [Rp α]{B:DataW c_->α->Prop}(h0:0<w.heap.size)(ht:P.underlying t=some (.slice e))(hc:P.cellsOf e=Rp.sz α)(hp:0<Rp.sz α)(he:EmC enc P w e α B):
  EmC enc P w t (List α) (LB B):=fun{μ H n cs x} h hd=>by
 rcases Go.Deep.open_slice ht hd with⟨rfl,E⟩|⟨a,len,b3,m,n',D,Pl,rfl,_,a3,b4,hm,E,O⟩
 ·exact⟨μ,H,[.slice none 0 0],[],h,.refl _ _,.cons (.atom _ V) .nil,⟨none,0,V,.nil⟩,a0r _,fun _=> .nil,[],.inr ⟨by rw[E],V⟩,fun i y hy=>(by simp at hy)⟩
 simp only[if_true]at hm
 subst hm
 rcases a1c m with hz|hpos
 ·subst hz;obtain rfl:len=0:=M
  refine⟨_,_,[.slice (some ⟨H.next,0,none⟩) 0 0],[],h.void h0,EmLe.add h ⟨0,0,none,0⟩ (.cells [] none true),.cons (.sliceZ _ _ _ _ (Emb.set_same _ _ _)) .nil,⟨some ⟨H.next,0,none⟩,0,V,.inr ⟨H.next,0,0,_,V,Heap.get_push_same _ _,[],none,true,V,fun O=>(by cases O),a08 _,?_,.inl V⟩⟩,a0r _,D,_,.inl (by rw[E];rfl),fun i y hy=>(by simp at hy)⟩;simp[RL]
 obtain⟨ax,an,_⟩:=O 0 hpos
 obtain⟨_,a1,Z⟩:=World.cells?_some an
 have a2:0<ax.length:=by rw[a1,hc];exact hp
 have A: ∃v,w.cell? a=some v:=by have:=Z 0 (by rw[hc];exact hp);rw[Go.Deep.add_add]at this;simp only[Nat.zero_mul,a1Z,show a.add 0=a by unfold Addr.add;rw[if_pos rfl]]at this;exact⟨_,this.trans (a09 a2)⟩
 obtain⟨v0,A⟩:=A
 have a7:a.spot=none/\a.block<w.heap.size:=by
  unfold World.cell? at A;split at A
  ·rename_i a0;refine⟨?_,(a0y.1 a0).1⟩;split at A
   ·cases A
   rename_i hs;simpa using hs
  cases A
 obtain⟨μ1,H1,c,l,h1,a8,hr,hl,hB,hg⟩:=em_row he hc (a:=a) len (fun i hi=>O i M) h
 obtain⟨U,off,sp⟩:=a
 obtain⟨rfl,aA⟩:=a7
 have hA:=h1.add (c:=U) (sh:=off) (cs:=c) aA (fun i v hv=>by
  obtain⟨v',e1,e2⟩:=hg i v hv;refine⟨v',?_,e2⟩;rw[←e1];congr 1;unfold Addr.add;split
  ·rename_i e;subst e;rfl
  rfl)
 subst hl
 refine⟨_,_,[.slice (some ⟨H1.next,0,none⟩) l.length m],l,hA,a8.trans (EmLe.add h1 ⟨U,off,none,0⟩ (.cells c none true)),.cons ?_ .nil,⟨_,_,V,?_⟩,by omega,D,_,.inl (by rw[E]),hB⟩
 ·have:=VRel.sliceC (μ:=μ1.set H1.next ⟨U,off,none,0⟩) H1.next 0 l.length m ⟨U,off,none,0⟩ (Emb.set_same _ _ _) V;simpa using this
 refine .inr ⟨H1.next,0,m,_,V,Heap.get_push_same _ _,_,none,true,V,fun O=>(by cases O),a3,?_,.inl V⟩
 rw[a0I,←hr.length,a0T]
 exact hr.mono (EmLe.add h1 ⟨U,off,none,0⟩ (.cells c none true)).heap
theorem gz{t:TypeId}{fs:Array Field}{n:Nat}{cs:List Value}{x:DataW c_×List MemPlace}(ht:P.underlying t=some (.struct fs))(hd:DataW.trod enc P w 0 (fun _=>true) true n t cs=some x):
  cs.length=P.cellsOf t/\∃m U,x.1= .agg U/\U.length=fs.size/\∀(i:Nat) (ty:TypeId) (off sz:Nat),(fs[i]?).map (fun f=>(f.type,f.offset))=some (ty,off)->P.cellsOf ty=sz->∃y,DataW.trod enc P w 0 (fun _=>true) true m ty ((cs.drop off).take sz)=some y/\U[i]?=some y.1:=by
 obtain⟨xs,m,_,hx,hl,O,hf⟩:=DataW.trod_struct ht hd
 refine⟨hl,m,xs.map (·.1),by rw[hx],by rw[a1n];exact O,fun i ty off sz hi Z=>?_⟩
 cases A:fs[i]? with
 |none=>rw[A]at hi;cases hi
 |some f=>
  rw[A]at hi
  simp only[a1B,a02,a04]at hi
  obtain⟨rfl,rfl⟩:=hi
  subst Z
  have h1:=hf i f A
  have E:i<xs.length:=by rw[O];exact(a0y.1 A).1
  exact⟨_,h1.trans (a09 E),by rw[a1v,a09 E];rfl⟩
theorem LRel.put{c r cs:List Value}{off sz:Nat}(h:LRel μ c ((cs.drop off).take sz))(k:LRel μ r (cs.drop (off+sz))):LRel μ (c++r) (cs.drop off):=by have:=h.append k;rwa [←a23,a1a]at this
theorem LRel.stop{cs:List Value}{off:Nat}(h:cs.length=off):LRel μ [] (cs.drop off):=by rw[a1M M];exact .nil
theorem EmC.arg{t:TypeId}{α:Type} [Rp α]{B:DataW c_->α->Prop}(A:EmC enc P w t α B)(h:Em w μ H){v:Value}{d:DataW c_}{ps:List MemPlace}(hd:DataW.Trod enc P w 0 (fun _=>true) true t v d ps):
  ∃μ' H' c y,Em w μ' H'/\EmLe μ H μ' H'/\LRel μ' c v.cells.toList/\Rp.rep H'.get c (y:α)/\B d y:=by
 obtain⟨n,E⟩:=hd
 exact A h E
theorem okWide_struct{fs:Array Field}{t:TypeId}{v:Value}{base:Nat}(O:P.underlying t=some (.struct fs))(A:Value.okWide P w .any base t v): ∃cs,v= .agg cs:=by unfold Value.okWide at A;rw[O]at A;obtain⟨cs,E,_⟩:=A;exact⟨cs,E⟩
theorem VRel.aggOf{c:List Value}{v:Value}(A: ∃cs,v= .agg cs)(h:LRel μ c v.cells.toList):VRel μ (.agg ⟨c⟩) v:=by obtain⟨cs,rfl⟩:=A;exact .agg _ _ h.1 h.2
end
end Go.R
end
noncomputable section
namespace Go.R
open Go.RowKit Go.WideShapes Go.ChangeShapes
section
variable {c_:Type} {enc:TypeId×Value->c_} {P:Program} {w:World} {μ:Emb} {H:Heap}
def EmR(enc:TypeId×Value->c_)(P:Program)(w:World)(t:TypeId)(α:Type) [Rp α](S:DataW c_->Prop)(B:DataW c_->α->Prop):Prop:=
 ∀{μ:Emb} {H:Heap} {n:Nat} {cs:List Value} {x:DataW c_×List MemPlace},S x.1->Em w μ H->DataW.trod enc P w 0 (fun _=>true) true n t cs=some x->
  ∃μ' H' c y,Em w μ' H'/\EmLe μ H μ' H'/\LRel μ' c cs/\Rp.rep H'.get c (y:α)/\B x.1 y
theorem EmR.c{t:TypeId}{α:Type} [Rp α]{B:DataW c_->α->Prop}(h: ∀N,EmR enc P w t α (fun d=>SizeOf.sizeOf d<N) B):EmC enc P w t α B:=fun{_ _ _ _ x} hm hd=>h (SizeOf.sizeOf x.1+1) (a0x _) hm hd
theorem iy{t:TypeId}(E:P.underlying t=some .string):EmC enc P w t Str (fun d s=>d= .lit (.string s.b)/\s.b.length<=maxLen):=fun{μ H n cs x} h hd=>by
 obtain⟨s,rfl,O,A⟩:=DataW.trod_string E hd;refine⟨μ,H,_,⟨s.data.toList⟩,h,.refl _ _,.cons (.atom _ V) .nil,?_,by rw[O],?_⟩
 ·show [Value.string s]=[Value.string ⟨⟨s.data.toList⟩⟩]
  rfl
 exact A
theorem em_row'{e:TypeId}{α:Type} [Rp α]{S:DataW c_->Prop}{B:DataW c_->α->Prop}(he:EmR enc P w e α S B)(hc:P.cellsOf e=Rp.sz α){a:Addr}{n:Nat}{D:Nat->DataW c_}{Pl:Nat->List MemPlace}:
  ∀(len:Nat),(∀i,i<len->S (D i))->(∀i,i<len->∃cs,w.cells? 0 (a.add (i *P.cellsOf e)) (P.cellsOf e)=some cs/\DataW.trod enc P w 0 (fun _=>true) true n e cs=some (D i,Pl i))->∀{μ:Emb} {H:Heap},Em w μ H->
   ∃μ' H' c l,Em w μ' H'/\EmLe μ H μ' H'/\RL H'.get c (l:List α)/\l.length=len/\(∀i y,l[i]?=some y->B (D i) y)/\∀(i:Nat) v,c[i]?=some v->∃v',w.cell? (a.add i)=some v'/\VRel μ' v v'
 |0,_,_,μ,H,h=>⟨μ,H,[],[],h,.refl _ _,V,V,fun i y hy=>(by simp at hy),fun i v E=>by simp at E⟩
 |len+1,hS,hx,μ,H,h=>by
  obtain⟨μ1,H1,c,l,h1,a3,hr,hl,hB,hg⟩:=em_row' he hc len (fun i hi=>hS i M) (fun i hi=>hx i M) h;obtain⟨cs,aA,hd⟩:=hx len M;obtain⟨μ2,H2,c2,y,h2,O,an,ar,hy⟩:=he (hS len M) h1 hd;obtain⟨_,ba,Z⟩:=World.cells?_some aA;have bf:c.length=len *P.cellsOf e:=by rw[hr.length,hl,hc]
  refine⟨μ2,H2,c++c2,l++[y],h2,a3.trans O,(hr.mono O.heap).append (.single ar),by simp[hl],fun i z A=>?_,fun i v E=>?_⟩
  ·rw[a1D]at A;split at A
   ·exact hB i z A
   rename_i hi;have:i-l.length=0:=by have:=(a0m.1 A).1;simp at this;omega
   rw[this]at A;simp at A;subst A;rw[show i=len by omega];exact hy
  by_cases hi:i<c.length
  ·rw[a0U hi]at E;obtain⟨v',U,h4⟩:=hg i v E;exact⟨v',U,h4.mono O.emb⟩
  rw[a17 M]at E;obtain⟨v',U,h4⟩:=an.get E;have bl:i-c.length<cs.length:=(a0m.1 U).1;refine⟨v',?_,h4⟩;rw[←U,←Z _ M,Go.Deep.add_add];congr 2;omega
theorem iZ{t e:TypeId}{α:Type} [Rp α]{S T:DataW c_->Prop}{B:DataW c_->α->Prop}(h0:0<w.heap.size)(ht:P.underlying t=some (.slice e))(hc:P.cellsOf e=Rp.sz α)(hp:0<Rp.sz α)(he:EmR enc P w e α S B)
  (hT: ∀l r d,T (.slice l r)->d∈l->S d):EmR enc P w t (List α) T (LB B):=fun{μ H n cs x} hx9 h hd=>by
 rcases Go.Deep.open_slice ht hd with⟨rfl,E⟩|⟨a,len,b6,m,n',D,Pl,rfl,_,a3,b8,hm,E,O⟩
 ·exact⟨μ,H,[.slice none 0 0],[],h,.refl _ _,.cons (.atom _ V) .nil,⟨none,0,V,.nil⟩,a0r _,fun _=> .nil,[],.inr ⟨by rw[E],V⟩,fun i y hy=>(by simp at hy)⟩
 simp only[if_true]at hm
 subst hm
 rw[E]at hx9
 have hS: ∀i,i<len->S (D i):=fun i hi=>hT _ _ _ hx9 (List.mem_map_of_mem (a22.2 hi))
 rcases a1c m with hz|hpos
 ·subst hz;obtain rfl:len=0:=M
  refine⟨_,_,[.slice (some ⟨H.next,0,none⟩) 0 0],[],h.void h0,EmLe.add h ⟨0,0,none,0⟩ (.cells [] none true),.cons (.sliceZ _ _ _ _ (Emb.set_same _ _ _)) .nil,⟨some ⟨H.next,0,none⟩,0,V,.inr ⟨H.next,0,0,_,V,Heap.get_push_same _ _,[],none,true,V,fun O=>(by cases O),a08 _,?_,.inl V⟩⟩,a0r _,D,_,.inl (by rw[E];rfl),fun i y hy=>(by simp at hy)⟩;simp[RL]
 obtain⟨ax,an,_⟩:=O 0 hpos
 obtain⟨_,a1,Z⟩:=World.cells?_some an
 have a2:0<ax.length:=by rw[a1,hc];exact hp
 have A: ∃v,w.cell? a=some v:=by have:=Z 0 (by rw[hc];exact hp);rw[Go.Deep.add_add]at this;simp only[Nat.zero_mul,a1Z,show a.add 0=a by unfold Addr.add;rw[if_pos rfl]]at this;exact⟨_,this.trans (a09 a2)⟩
 obtain⟨v0,A⟩:=A
 have a7:a.spot=none/\a.block<w.heap.size:=by
  unfold World.cell? at A;split at A
  ·rename_i a0;refine⟨?_,(a0y.1 a0).1⟩;split at A
   ·cases A
   rename_i hs;simpa using hs
  cases A
 obtain⟨μ1,H1,c,l,h1,a8,hr,hl,hB,hg⟩:=em_row' he hc (a:=a) len hS (fun i hi=>O i M) h
 obtain⟨U,off,sp⟩:=a
 obtain⟨rfl,aA⟩:=a7
 have hA:=h1.add (c:=U) (sh:=off) (cs:=c) aA (fun i v hv=>by
  obtain⟨v',e1,e2⟩:=hg i v hv;refine⟨v',?_,e2⟩;rw[←e1];congr 1;unfold Addr.add;split
  ·rename_i e;subst e;rfl
  rfl)
 subst hl
 refine⟨_,_,[.slice (some ⟨H1.next,0,none⟩) l.length m],l,hA,a8.trans (EmLe.add h1 ⟨U,off,none,0⟩ (.cells c none true)),.cons ?_ .nil,⟨_,_,V,?_⟩,by omega,D,_,.inl (by rw[E]),hB⟩
 ·have:=VRel.sliceC (μ:=μ1.set H1.next ⟨U,off,none,0⟩) H1.next 0 l.length m ⟨U,off,none,0⟩ (Emb.set_same _ _ _) V;simpa using this
 refine .inr ⟨H1.next,0,m,_,V,Heap.get_push_same _ _,_,none,true,V,fun O=>(by cases O),a3,?_,.inl V⟩
 rw[a0I,←hr.length,a0T]
 exact hr.mono (EmLe.add h1 ⟨U,off,none,0⟩ (.cells c none true)).heap
theorem sz_elem{l r:List (DataW c_)}{d:DataW c_}{N:Nat}(h:SizeOf.sizeOf (DataW.slice l r)<N+1)(hd:d∈l):SizeOf.sizeOf d<N:=by
 have A:=List.sizeOf_lt_of_mem hd;have E:SizeOf.sizeOf (DataW.slice l r)=1+SizeOf.sizeOf l+SizeOf.sizeOf r:=by simp
 omega
theorem jj{l:List (DataW c_)}{d:DataW c_}{i N:Nat}(h:SizeOf.sizeOf (DataW.agg l)<N+1)(hd:l[i]?=some d):SizeOf.sizeOf d<N:=by
 have A:=List.sizeOf_lt_of_mem (a0p hd);have E:SizeOf.sizeOf (DataW.agg l)=1+SizeOf.sizeOf l:=by simp
 omega
end
end Go.R
end
noncomputable section
namespace Go.R
open Go.ChangeShapes
section
variable {H:Type} {enc:TypeId×Value->H}
end
end Go.R
end
noncomputable section
set_option linter.unusedVariables false
namespace Go.R
structure Eqs(s s':St):Prop where
 t:cN s.tmps=cN s'.tmps
 n:s.size=s'.size
 h:s.heap=s'.heap
def CgS(f g:St->Option (Ex×St)):Prop:= ∀s E,Eqs s E->∀e r,f s=some (e,r)->∃A,g E=some (e,A)/\Eqs r A
section
variable {P:Program} {G:Nat} {cf:cr} {ops:Array Oper}
end
def tabT(args:List Value):List (Nat×Value)->Tr Value
 | []=>fg 0 args .nil
 |(i,v)::l=>lset (tabT args l) i v
def endsTrue(d:Nat)(r:Option (Ex×St)):Bool:=match r with
 |some (.normal,s)=>(match cN s.tmps d with| .bool b=>b|_=>false)
 |some (.ret,s)=>(match cN s.tmps d with| .bool b=>b|_=>false)
 |_=>false
end Go.R
end
noncomputable section
set_option linter.unusedVariables false
namespace Go.R
structure PtrT where
 b:Nat
 deriving Inhabited
instance :Rp PtrT where
 sz:=1
 rep F cs x:=cs=[.pointer (some ⟨x.b,0,none⟩)]
 len:=by rintro F cs x rfl;rfl
 one:=by rintro F cs x rfl;rfl
 mono:=by intro F F' cs x _ h;exact h
section
variable {B:Base} {F F':Fz} {H:Heap} {L R:List Fp}
end
section
variable {P:Program} {G:Nat} {K:bp} {sz:Nat} {Q:Ex->Fn->Heap->Prop} {ops:Array Oper} {D:List (Nat×ID)} {i:Nat} {os:List Oper} {k:List Fr} {f:Fn} {H:Heap}
end
section
variable {ι β:Type} {Ch:Fz->ι->β->Fp->Prop} {F:Fz}
end
end Go.R
end
noncomputable section
set_option linter.unusedVariables false
namespace Go.R
open Go
theorem RL.imp{α:Type}{i j:Rp α}{F:Fz}(h: ∀cs x,i.rep F cs x->j.rep F cs x): ∀{l:List α} {cs:List Value}, @RL α i F cs l-> @RL α j F cs l
 | [],_,k=>k
 |_::_,_,⟨c,r,e,h1,h2⟩=>⟨c,r,e,h _ _ h1,RL.imp h h2⟩
theorem SR.imp{α:Type}{i j:Rp α}{F:Fz}(A:i.sz=j.sz)(h: ∀cs x,i.rep F cs x->j.rep F cs x){v:Value}{l:List α}(k: @SR α i F v l): @SR α j F v l:=by
 rcases k with k|⟨b,off,n,o,h1,h2,cs,opn,ro,h3,h4,h5,h6,h7⟩
 ·exact .inl k
 exact .inr ⟨b,off,n,o,h1,h2,cs,opn,ro,h3,by rw[←A];exact h4,h5,by rw[←A];exact RL.imp h h6,by rw[←A];exact h7⟩
structure Lv(α:Type)(n:Nat) where
 r:Fz->List Value->α->Prop
 len: ∀{F:Fz} {cs:List Value} {x:α},r F cs x->cs.length=n
 one: ∀{F:Fz} {cs:List Value} {x:α},r F cs x->lQ Value.oneCell' cs=true
 mono: ∀{F F':Fz} {cs:List Value} {x:α},F.le F'->r F cs x->r F' cs x
abbrev Lv.rp{α:Type}{n:Nat}(r:Lv α n):Rp α:=⟨n,r.r,r.len,r.one,r.mono⟩
abbrev rpOf{α:Type}{n:Nat}(r:Nat->Lv α n):Rp α:=⟨n,fun F cs x=> ∃d,(r d).r F cs x,fun⟨d,h⟩=>(r d).len h,fun⟨d,h⟩=>(r d).one h,fun hF ⟨d,h⟩=>⟨d,(r d).mono hF h⟩⟩
theorem RL.unif{α:Type}{n:Nat}{r:Nat->Lv α n}{F:Fz}(A: ∀d cs x,(r d).r F cs x->(r (d+1)).r F cs x): ∀{l:List α} {cs:List Value}, @RL α (rpOf r) F cs l->∃d,∀e,d<=e-> @RL α (r e).rp F cs l
 | [],_,h=>⟨0,fun _ _=>h⟩
 |x::l,_,⟨c,t,e,⟨d,h1⟩,h2⟩=>by
  obtain⟨E,O⟩:=RL.unif A h2;have up: ∀e,d<=e->(r e).r F c x:=fun e U=>by
   induction e with
   |zero=>
    have:d=0:=M
    subst this;exact h1
   |succ e ih=>
    rcases a0s e d with h|h
    ·have:d=e+1:=M
     subst this;exact h1
    exact A _ _ _ (ih h)
  exact⟨max d E,fun q Z=>⟨c,t,e,up q M,O q M⟩⟩
theorem SR.unif{α:Type}{n:Nat}{r:Nat->Lv α n}{F:Fz}(O: ∀d cs x,(r d).r F cs x->(r (d+1)).r F cs x){v:Value}{l:List α}(k: @SR α (rpOf r) F v l): ∃d,∀e,d<=e-> @SR α (r e).rp F v l:=by
 rcases k with k|⟨b,off,n,o,h1,h2,cs,opn,ro,h3,h4,h5,h6,h7⟩
 ·exact⟨0,fun _ _=> .inl k⟩
 obtain⟨d,A⟩:=RL.unif O h6;exact⟨d,fun e E=> .inr ⟨b,off,n,o,h1,h2,cs,opn,ro,h3,h4,h5,A e E,h7⟩⟩
end Go.R
end
noncomputable section
set_option linter.unusedVariables false
namespace Go.R
open Go
section
variable {α:Type} [Rp α] {P:Program} {ρ:Operand->Value} {d:Option Tmp} {ty:TypeId} {pos:String} {af:Array Edge} {gd:Option (Nat×Bool)} {B:Base} {F:Fz} {H:Heap} {L R:List Fp} {l:List α}
theorem rs_litC{t:TypeId}{n sz:Nat}{z:List Value}{A:Array (Nat×Operand)}{ps:List (Nat×Value)}{cells:List Value}(hs:HS B F H L R)(E:dM (fun p=>(p.1,ρ p.2)) A.toList=ps)(hi:dB P t=some (sz,z))(Z:Nat.ble (n *sz) 16777216=true)
  (U:Instr.fill (fun i=>some (i *sz,sz)) ⟨cC n z⟩ ps=some ⟨cells⟩):
  ∃r:Rs,AP P ρ ⟨d,.buildSlice t n A,ty,pos,af,gd⟩ H (.val r.v,r.H)/\(∃b,r.v= .slice (some ⟨b,0,none⟩) n n/\HS B F r.H (L++[[(b,.cells cells none false)]]) R/\Wr H r.H []):=by
 subst E
 exact⟨⟨_,_,[]⟩,i9 hi Z U,_,V,hs.push _,.nil fun b O=>by simpa using O⟩
theorem md{b:Nat}{cells:List Value}(A:RL F cells l):OS F (.slice (some ⟨b,0,none⟩) l.length l.length) l [(b,.cells cells none false)]:=by have:=A.length;exact .inr ⟨b,0,l.length,cells,none,V,V,_,_,_,V,fun _=>M,a08 _,by rw[a0I,←this,a0T];exact A,.inl V⟩
end
end Go.R
namespace Go.R
abbrev iI(n:Int):Value:= .int .i64 n
abbrev pT(b o:Nat):Value:= .pointer (some ⟨b,o,none⟩)
abbrev fP(b:Nat)(l:List Value):Fp:=[(b,.cells l none false)]
abbrev sL(a:Option Addr)(n k:Nat):Value:= .slice a n k
abbrev aG(l:List Value):Value:= .agg ⟨l⟩
abbrev tX(b:List UInt8):Value:= .string ⟨⟨b⟩⟩
theorem fT{a b c:Fz}(h:a.le b)(k:b.le c):a.le c:=Fz.le_trans h k
theorem fR{a:Fz}:a.le a:=Fz.le_refl a
theorem wR{P:Program}{G:Nat}{K:bp}{sz:Nat}{Q:Ex->Fn->Heap->Prop}{f:Fn}{H:Heap}{c1:Code}{k k1:List Fr}(n:Nat){id:Nat}{ops:Array Oper}(hs:List (Nat×Hint))(lo hi:Nat)(ex:List Nat)(l:List (Nat×Value)){p:Prop}(O:p)(A:foc n .skip k=(c1,k1))(E: ∀g,WK P G K sz c1 k1 (gY (hav lo hi ex g f) l) H Q)(h:fD P G (W0 P G K H) sz ops f 0 ops.toList hs lo hi ex (dM Prod.fst l)=some (l,p):=by kernel_rfl):WK P G K sz (.region id ops false) k f H Q:=wr n hs lo hi ex l O h A E
theorem wRD{P:Program}{G:Nat}{K:bp}{sz:Nat}{Q:Ex->Fn->Heap->Prop}{f:Fn}{H:Heap}{c1:Code}{k k1:List Fr}(n:Nat){id:Nat}{ops:Array Oper}(hs:List (Nat×Hint))(lo hi:Nat)(ex:List Nat)(l:List (Nat×Value)){p:Prop}(O:p)(U:(jX ops&&P.follows .mixedOrders)=true)(A:foc n .skip k=(c1,k1))(E: ∀g,WK P G K sz c1 k1 (gY (hav lo hi ex g f) l) H Q)(h:fD P G (W0 P G K {H with log:=[]}) sz ops f 0 ops.toList hs lo hi ex (dM Prod.fst l)=some (l,p):=by kernel_rfl):WK P G K sz (.region id ops true) k f H Q:=wrD n hs lo hi ex l O U h A E
theorem wRo{P:Program}{G:Nat}{K:bp}{sz:Nat}{Q:Ex->Fn->Heap->Prop}{f:Fn}{H:Heap}{k:List Fr}(n i:Nat){ops:Array Oper}{os A:List Oper}(hs:List (Nat×Hint))(lo hi:Nat)(ex:List Nat)(l:List (Nat×Value)){p:Prop}(U:p)(E:dX os n=A)(O: ∀g,WO P G K sz ops A k (gY (hav lo hi ex g f) l) H Q)(h:fD P G (W0 P G K H) sz ops f i (dL os n) hs lo hi ex (dM Prod.fst l)=some (l,p):=by kernel_rfl):WO P G K sz ops os k f H Q:=wro n i hs lo hi ex l U h E O
theorem wT{P:Program}{G:Nat}{K:bp}{sz:Nat}{Q:Ex->Fn->Heap->Prop}{f:Fn}{H:Heap}{c1:Code}{k k1:List Fr}(n:Nat){id:Nat}{ops:Array Oper}(hs:List (Nat×Hint))(lo hi:Nat)(ex:List Nat)(l:List (Nat×Value))(A:foc n .skip k=(c1,k1))(E: ∀g,WK P G K sz c1 k1 (gY (hav lo hi ex g f) l) H Q)(h:fD P G (W0 P G K H) sz ops f 0 ops.toList hs lo hi ex (dM Prod.fst l)=some (l,True):=by kernel_rfl):WK P G K sz (.region id ops false) k f H Q:=wR n hs lo hi ex l trivial A E h
theorem wU{P:Program}{G:Nat}{K:bp}{sz:Nat}{Q:Ex->Fn->Heap->Prop}{f:Fn}{H:Heap}{c1:Code}{k k1:List Fr}(n:Nat){id:Nat}{ops:Array Oper}(hs:List (Nat×Hint))(lo hi:Nat)(ex:List Nat)(l:List (Nat×Value)){p:Prop}(O:p)(A:foc n .skip k=(c1,k1))(E: ∀g,WK P G K sz c1 k1 (gY (hav lo hi ex g f) l) H Q)(h:fD P G (W0 P G K H) sz ops f 0 ops.toList hs lo hi ex (dM Prod.fst l)=some (l,p/\True):=by kernel_rfl):WK P G K sz (.region id ops false) k f H Q:=wR n hs lo hi ex l ⟨O,trivial⟩ A E h
theorem wTo{P:Program}{G:Nat}{K:bp}{sz:Nat}{Q:Ex->Fn->Heap->Prop}{f:Fn}{H:Heap}{k:List Fr}(n i:Nat){ops:Array Oper}{os A:List Oper}(hs:List (Nat×Hint))(lo hi:Nat)(ex:List Nat)(l:List (Nat×Value))(E:dX os n=A)(O: ∀g,WO P G K sz ops A k (gY (hav lo hi ex g f) l) H Q)(h:fD P G (W0 P G K H) sz ops f i (dL os n) hs lo hi ex (dM Prod.fst l)=some (l,True):=by kernel_rfl):WO P G K sz ops os k f H Q:=wRo n i hs lo hi ex l trivial E O h
theorem wUo{P:Program}{G:Nat}{K:bp}{sz:Nat}{Q:Ex->Fn->Heap->Prop}{f:Fn}{H:Heap}{k:List Fr}(n i:Nat){ops:Array Oper}{os A:List Oper}(hs:List (Nat×Hint))(lo hi:Nat)(ex:List Nat)(l:List (Nat×Value)){p:Prop}(U:p)(E:dX os n=A)(O: ∀g,WO P G K sz ops A k (gY (hav lo hi ex g f) l) H Q)(h:fD P G (W0 P G K H) sz ops f i (dL os n) hs lo hi ex (dM Prod.fst l)=some (l,p/\True):=by kernel_rfl):WO P G K sz ops os k f H Q:=wRo n i hs lo hi ex l ⟨U,trivial⟩ E O h
end Go.R
namespace Go.R
theorem g_{B:Base}{F:Fz}{H:Heap}{L R:List Fp}(h:HS B F H L R){p:Fp}(e:L[0]?=some p):HS (.of H (p.map Prod.fst)) F H [p] (L.set 0 []++R):=HS.callOwn h e
theorem h_{B:Base}{F:Fz}{H:Heap}{L R:List Fp}(h:HS B F H L R){b:Nat}{cs:List Value}(e:L[0]?=some [(b,.cells cs none false)]):HC H.get b 0 cs:=HS.hc h e
theorem i_{B:Base}{F:Fz}{H:Heap}{L R:List Fp}(h:HS B F H L R){b:Nat}{cs:List Value}(e:L[1]?=some [(b,.cells cs none false)]):HC H.get b 0 cs:=HS.hc h e
theorem j_{F:Fz}:∀{l:List Str},RL F (l.map fun s=>.string ⟨⟨s.b⟩⟩) l
|[]=>RL.nl
|_::_=>RL.cs rfl j_
theorem k_{p:Prop}(h:p:=by rfl):p:=h
end Go.R
