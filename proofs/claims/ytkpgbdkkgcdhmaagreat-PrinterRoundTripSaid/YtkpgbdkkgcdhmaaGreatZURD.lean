/-
Symbolic runs by computation, data, the laid table.
-/
import Derived.Test.YtkpgbdkkgcdhmaaGreatZURC
import Derived.Laws.Bits128
import Derived.OpenShut
import Derived.ReadAgain
import Derived.Test.YtkpgbdkkgcdhmaaGreatZURB
import Derived.Deep.Slices
import Derived.JoinedCond
import Derived.LaidLaws
import Derived.KernelRfl
noncomputable section
namespace Go.R
open List renaming getD→N,length→J
section
variable {P:Program} {f:Fn} {H:Heap} {rs:List ResultVar} {l:List Value}
theorem rN:cQ P f H []=some []:=rfl
theorem rT{t v}(E:f t=v)(h:cQ P f H rs=some l):cQ P f H (.tmp t::rs)=some (v::l):=by unfold cQ;rw[h,E]
theorem rC{a}{t:TypeId}{p v}(ha:f a= .pointer (some p))(E:H.loadV P t p=some v)(h:cQ P f H rs=some l):cQ P f H (.cell a t::rs)=some (v::l):=by unfold cQ;rw[ha];simp only[E,h]
theorem bV{t:TypeId}{b n cs}(ha:ff P t=some true)(hs:dL P t=some n)(hc:HC H.get b 0 cs)(T:J cs=n):H.loadV P t ⟨b,0,none⟩=some (.agg ⟨cs⟩):=by have⟨all,U,Z,O,E⟩:=hc;unfold Heap.loadV;rw[ha];simp only[hs];unfold Heap.loadN;rw[a0R]at E;subst T;simp only[O,bL,bX,bp,a0R,E,a0Y,cond_true]
end
section
variable {α:Type} [Rp α] {P:Program} {ρ:Operand->Value} {d:Option Tmp} {ty:TypeId} {pos:String} {af:Array Edge} {gd:Option (Nat×Bool)} {B:Base} {F:Fz} {H:Heap} {L R:List Fp} {v:Value} {l:List α} {p:Fp}
theorem ap_boolNe{t yt:TypeId}{x y a b}(O:ρ x= .bool a)(T:ρ y= .bool b)(E: ∀a b:Bool,aD P (eZ .neq t x y a b)=some (.value (.bool (a !=b)))):AP P ρ ⟨d,.binOp .neq t x y yt,ty,pos,af,gd⟩ H (.val (.bool (a !=b)),H):=by
 refine⟨?_⟩;show aBin P ρ _ .neq t (ρ x) y H=_;rw[O];show bB P ρ _ H=_;unfold bB;have U:((Op.binOp .neq t x y yt).operands.toList.all λx=>jN (ρ x))=true:=by simp[Op.operands,O,T,jN,dG]
 simp only[U,cond_true];have Z:aD P (execOp ρ ⟨d,.binOp .neq t x y yt,ty,pos,af,gd⟩)=some (.value (.bool (a !=b))):=by rw[←E a b];unfold execOp eZ;simp only[O,T]
 rw[Z];rfl
theorem oe: ∀{l:List UInt8} {cs:List Value} {F:Fz},RL F cs l->ct cs=some l
 | [],cs,F,h=>by simp only[RL]at h;subst h;rfl
 |c::l,cs,F,h=>by obtain⟨a,r,rfl,rfl,E⟩:=h;show(match ct r with|some r=>some (UInt8.ofNat (c.toNat:Int).toNat::r)|none=>none)=_;rw[oe E];simp
theorem oi{s t e:TypeId}{x l}(hx:ρ x=v)(hs:P.underlying s=some (.slice e))(U:P.underlying t=some .string)(O:P.underlying e=some (.int .u8))(h:Sv F H.get v l):
  AP P ρ ⟨d,.convert s t x,ty,pos,af,gd⟩ H (.val (.string ⟨⟨l⟩⟩),H):=by
 refine⟨?_⟩
 show gj P ρ _ s t (ρ x) H=_
 rw[hx]
 rcases h with⟨rfl,rfl⟩|⟨b,off,k,o,rfl,g1,cs,ax,ro,rfl,g2,g3,E,g5⟩
 ·show ovl (du P s t none 0 H) H=_;unfold du;simp only[hs,U,O];rfl
 show ovl (du P s t (some ⟨b,off,none⟩) l.length H) H=_
 unfold du
 simp only[hs,U,O]
 cases hb:Nat.beq l.length 0 with
 |true=>
  have:l=[]:=a0e (a0a hb)
  subst this;rfl
 |false=>
  simp only[cond_false]
  have T:=E.length
  have Z:Rp.sz UInt8=1:=rfl
  rw[Z,Nat.mul_one]at T
  rw[Z,Nat.mul_one]at E
  have e1:H.loadN ⟨b,off,none⟩ l.length=some ((cs.drop off).take l.length):=by unfold Heap.loadN;simp only[g1,bL,bX,bp];rw[T,a0Y];rfl
  simp only[e1,oe E];rfl
theorem OS.len'{F:Fz}{a:Option Addr}{n k:Nat}{l:List α}{p:Fp}(h:OS F (.slice a n k) l p):l.length=n:=by obtain⟨E,O,e⟩:=h.shape;injection e with _ e _;exact e.symm
theorem OS.norm{F:Fz}{a:Option Addr}{n k:Nat}{l:List α}{p:Fp}(h:OS F (.slice a n k) l p):OS F (.slice a l.length k) l p:=by rw[h.len'];exact h
theorem rs_arr{e:TypeId}{z}(l0:List α){n:Nat}(hs:HS B F H L R)(T:dm P e=some z)(E:RL F z l0)(O:l0.length=n):
  ∃r:Rs,AP P ρ ⟨d,.alloc e,ty,pos,af,gd⟩ H (.val r.v,r.H)/\(∃b,r.v= .pointer (some ⟨b,0,none⟩)/\OS F (.slice (some ⟨b,0,none⟩) n n) l0 r.p/\HS B F r.H (L++[r.p]) R/\Wr H r.H []/\∃cs,r.p=[(b,.cells cs none false)]):=by
 subst O
 refine⟨⟨_,_,_⟩,ap_alloc T,_,V,?_,hs.push _,.nil λb hb=>(by simpa using hb),z,V⟩
 have:=E.length
 exact .inr ⟨_,0,_,z,_,V,V,_,_,_,V,λ_=>M,a07 _,by rw[a0R,←this,a0W];exact E,.inl V⟩
theorem ap_idxA{x i}{t e:TypeId}{ki:IntKind}{j:Int}{b n}(U:ρ x= .pointer (some ⟨b,0,none⟩))(hi:ρ i= .int ki j)(T:P.underlying t=some (.array n e))(Z:dL P e=some (Rp.sz α))(E:0<=j)(hj:j<n):
  AP P ρ ⟨d,.indexAddr t x i,ty,pos,af,gd⟩ H (.val (.pointer (some ⟨sB (.slice (some ⟨b,0,none⟩) n n),sO (.slice (some ⟨b,0,none⟩) n n)+j.toNat *Rp.sz α,none⟩)),H):=by
 refine⟨?_⟩
 obtain⟨m,rfl⟩:=a0T E
 show ovl (cV P t (ρ x) (ρ i)) H=_
 rw[U,hi]
 unfold cV
 rw[T]
 show ovl (match dL P e with|some sz=>bif Nat.ble (m+1) n then some (.pointer (some ⟨b,0+m *sz,none⟩)) else none|none=>none) H=_
 rw[Z]
 have O:Nat.ble (m+1) n=true:=a0z M
 simp only[O,cond_true]
 rfl
theorem rs_cutA{x:Operand}{lo hi:Option Operand}{t e:TypeId}{i j q b n:Nat}(h:OS F (.slice (some ⟨b,0,none⟩) n n) l p)(hs:HS B F H L R)(hq:L[q]?=some p)(hx:ρ x= .pointer (some ⟨b,0,none⟩))(ht:P.underlying t=some (.array n e))(hz:dL P e=some (Rp.sz α))
  (h1:cy n (hi.map ρ)=some j) (h2:cy 0 (lo.map ρ)=some i) (U:i<=j) (hj:j<=l.length) (ar: ∃cs,p=[(b,.cells cs none false)]):
  ∃r:Rs,AP P ρ ⟨d,.slice t x lo hi none,ty,pos,af,gd⟩ H (.val r.v,r.H)/\(∃a k,r.v= .slice a ((l.take j).drop i).length k/\r.H=H/\OS F (.slice a ((l.take j).drop i).length k) ((l.take j).drop i) p):=by
 have hn:=h.len'
 subst hn
 rcases h with⟨h0,_⟩|⟨b',off,k,cs,bl,h0,rfl,h5⟩
 ·cases h0
 injection h0 with e1 e2 e3
 injection e1 with e1
 injection e1 with e4 e5
 subst e4 e5 e3
 obtain⟨bf,T⟩:=ar
 simp only[List.cons.injEq,a05,AObj.cells.injEq,true_and,and_true]at T
 obtain⟨rfl,rfl⟩:=T
 have hg:=hs.get hq (a0I.2 V)
 have E:((l.take j).drop i).length=j-i:=by simp;omega
 have O:=pI (n:=l.length) (k:=l.length) h1 h2 U hj
 have Z: ∀w,bC P t (.pointer (some ⟨b,0,none⟩)) (lo.map ρ) (hi.map ρ) none H=some w->AP P ρ ⟨d,.slice t x lo hi none,ty,pos,af,gd⟩ H (.val w,H):=by intro w hw;refine⟨?_⟩;show ovl (bC P t (ρ x) (lo.map ρ) (hi.map ρ) (Option.map ρ none) H) H=_;rw[hx,a1P,hw];rfl
 cases hk:Nat.beq l.length i with
 |true=>
  have a2:=a0a hk
  refine⟨⟨_,H,[]⟩,Z (.slice _ _ _) ?_,_,_,by rw[E],V,.inr ⟨b,0,l.length-i,cs,_,V,V,?_⟩⟩
  ·unfold bC;simp only[ht,O,hz,hg,hk,cond_true]
  have e0:(l.take j).drop i=[]:=a0e (by rw[E];omega)
  rw[e0,←a2,a24]
  exact Sl_at0 h5
 |false=>
  refine⟨⟨_,H,[]⟩,Z (.slice _ _ _) ?_,_,_,by rw[E],V,.inr ⟨b,_,_,cs,_,V,V,Sl_cut h5 U hj⟩⟩
  unfold bC
  simp only[ht,O,hz,hg,hk,cond_false]
theorem rs_stA{t:TypeId}{a0 x0 j q off n b o w y}(y':α){cl}(h:OS F v l p)(hs:HS B F H L R)(hq:L[q]?=some p)(ha:ρ a0= .pointer (some ⟨b,o,none⟩))(hb:b=sB v)(ho:o=sO v+j *Rp.sz α+off)(hx:ρ x0=w)(hn:dL P t=some n)(hc:w.cells.toList=cl)(hl:Nat.beq (J cl) n=true)
  (hy:l[j]?=some y) (h1:nw Value.oneCell' cl=true) (hr: ∀cs,Rp.rep F cs y->off+J cl<=J cs/\Rp.rep F (be cs off cl) y') {E} (T: ∃cs,p=[(E,.cells cs none false)]):
  ∃r:Rs,AP P ρ ⟨d,.store t a0 x0,ty,pos,af,gd⟩ H (.skip,r.H)/\(OS F v (l.set j y') r.p/\HS B F r.H (L.set q r.p) R/\Wr H r.H (p.map Prod.fst)/\∃cs,r.p=[(E,.cells cs none false)]):=by
 have al:=hs.Gh hq
 have⟨H1,p',g1,g2,Z,g5⟩:=os_st (d:=d) (ty:=ty) (pos:=pos) (af:=af) (gd:=gd) (q:=0) h al V ha hb ho hx hn hc hl hy h1 hr
 have h4:=hs.backOwn (b_:=[]) hq V (λb hb=>hb) Z
 have⟨cs,an⟩:=T
 have⟨U,O⟩:=g5 E cs none an
 exact⟨⟨.bool true,H1,p'⟩,g1,g2,by simpa using h4,λb hb=>Z.log b hb,U,O⟩
theorem ap_ixG{x i}{t:TypeId}{cs w r}(E:ρ x= .agg cs)(hi:ρ i=w)(h:aD P (Instr.index t (.agg cs) w)=some r):AP P ρ ⟨d,.index t x i,ty,pos,af,gd⟩ H (.val r,H):=by refine⟨?_⟩;show ne P t (ρ x) (ρ i) H=_;rw[E,hi];show lift P (Instr.index t (.agg cs) w) H=_;unfold lift;rw[h]
end
theorem u8_of{n:Nat}(h:n<256):(n:Int)=((UInt8.ofNat n).toNat:Int):=by rw[UInt8.toNat_ofNat'];omega
theorem u8r{n:Nat}(h:n<256):[Value.int .u8 (n:Int)]=[.int .u8 ((UInt8.ofNat n).toNat:Int)]:=by rw[←u8_of h]
theorem natsub{k:IntKind}{a b}(h:b<=a)(E:k.wrap ((a-b:Nat):Int)=((a-b:Nat):Int)):k.wrap ((a:Int)-(b:Int))=((a-b:Nat):Int):=by rw[←Int.ofNat_sub h];exact E
section
variable {α:Type} [Rp α] {P:Program} {ρ:Operand->Value} {d:Option Tmp} {ty:TypeId} {pos:String} {af:Array Edge} {gd:Option (Nat×Bool)} {B:Base} {F:Fz} {H:Heap} {L R:List Fp} {v:Value} {l:List α} {p:Fp} {t e:TypeId} {x:Operand} {i j q:Nat}
theorem ap_slSd{s lo}(U:ρ x= .string ⟨⟨s⟩⟩)(T:P.underlying t=some .string)(O:cy 0 (lo.map ρ)=some i)(E:i<=J s):
  AP P ρ ⟨d,.slice t x lo none none,ty,pos,af,gd⟩ H (.val (.string ⟨⟨s.drop i⟩⟩),H):=by
 have:=ap_slS (d:=d) (ty:=ty) (pos:=pos) (af:=af) (gd:=gd) (H:=H) (lo:=lo) (hi:=none) U T optN0 O E (a07 _)
 rwa [a0s (by simp)]at this
theorem rs_cutd{lo}(h:SR F v l)(hs:HS B F H L R)(U:ρ x=v)(T:P.underlying t=some (.slice e))(Z:dL P e=some (Rp.sz α))(O:cy 0 (lo.map ρ)=some i)(E:i<=J l):
  ∃r:Rs,AP P ρ ⟨d,.slice t x lo none none,ty,pos,af,gd⟩ H (.val r.v,r.H)/\(∃a k,r.v= .slice a (J (l.drop i)) k/\r.H=H/\SR F (.slice a (J (l.drop i)) k) (l.drop i)):=by
 have:=rs_cut (d:=d) (ty:=ty) (pos:=pos) (af:=af) (gd:=gd) (hi:=none) h hs U T Z optN0 O E (a07 _)
 rwa [a0s (a07 _)]at this
theorem rs_cutt{hi}(h:SR F v l)(hs:HS B F H L R)(U:ρ x=v)(T:P.underlying t=some (.slice e))(Z:dL P e=some (Rp.sz α))(E:cy (J l) (hi.map ρ)=some j)(O:j<=J l):
  ∃r:Rs,AP P ρ ⟨d,.slice t x none hi none,ty,pos,af,gd⟩ H (.val r.v,r.H)/\(∃a k,r.v= .slice a (J (l.take j)) k/\r.H=H/\SR F (.slice a (J (l.take j)) k) (l.take j)):=by
 have:=rs_cut (d:=d) (ty:=ty) (pos:=pos) (af:=af) (gd:=gd) (lo:=none) h hs U T Z E optN0 (a0h _) O
 rwa [a0R]at this
end
def mz(P:Program):List Field->Option (List (Nat×Nat))
 | []=>some []
 |f::fs=>match dL P f.type with
  |some n=>match mz P fs with
   |some l=>some ((f.offset,n)::l)
   |none=>none
  |none=>none
def fillL(E:Nat->Option (Nat×Nat)):List Value->List (Nat×Value)->Option (List Value)
 |cs,[]=>some cs
 |cs,(i,v)::r=>match E i with
  |some (off,n)=>bif Nat.beq (fU v.cells.toList) n&&Nat.ble (off+fU v.cells.toList) (fU cs) then fcL (be cs off v.cells.toList) λcs=>fillL E cs r else none
  |none=>none
def bldL(P:Program)(t:TypeId)(ps:List (Nat×Value)):Option (List Value):=match P.underlying t with
 |some (.struct fs)=>match dm P t with
  |some z=>match mz P fs.toList with
   |some pl=>fillL (nth pl) z ps
   |none=>none
  |none=>none
 |_=>none
theorem mi: ∀(l:List Value) (s off:Nat) (A:List Value),off+s+J l<=J A->((l.zipIdx s).foldl (λ(cs:Array Value) p=>cs.setIfInBounds (off+p.2) p.1) ⟨A⟩)=⟨be A (off+s) l⟩
 | [],s,off,A,h=>by
  have:be A (off+s) []=A:=by rw[splice_eq A [] (off+s) h];simp
  rw[this];rfl
 |v::l,s,off,A,h=>by
  rw[List.zipIdx_cons,a1M];show((l.zipIdx (s+1)).foldl (λ(cs:Array Value) p=>cs.setIfInBounds (off+p.2) p.1) ((⟨A⟩:Array Value).setIfInBounds (off+s) v))=_;rw[show(⟨A⟩:Array Value).setIfInBounds (off+s) v=⟨A.set (off+s) v⟩ from by rw[←a12,Array.toList_setIfInBounds]];simp only[a02]at h;rw[mi l (s+1) off _ (by rw[a0u];omega),←a12];show be (A.set (off+s) v) (off+(s+1)) l=be A (off+s) (v::l);apply a1A;intro i;rw[bD _ _ _ i (by rw[a0u];omega),bD _ _ _ i (by simp only[a02];omega)];simp only[a02,List.getElem?_set];by_cases E:i=off+s
  ·subst E;rw[if_neg M,if_pos V,if_pos M,if_pos M,a24,List.getElem?_cons_zero]
  rw[if_neg (show ¬off+s=i from λe=>E e.symm)];by_cases O:off+(s+1)<=i/\i<off+(s+1)+J l
  ·rw[if_pos O,if_pos M,show i-(off+s)=(i-(off+(s+1)))+1 by omega,a1q]
  rw[if_neg O,if_neg M]
theorem pw(E:Nat->Option (Nat×Nat)): ∀(ps:List (Nat×Value)) (cs r:List Value),fillL E cs ps=some r->Instr.fill E ⟨cs⟩ ps=some ⟨r⟩
 | [],cs,r,h=>by simp only[fillL,a01]at h;subst h;rfl
 |(i,v)::ps,cs,r,h=>by
  unfold fillL at h;split at h
  ·rename_i off n e;cases hb:(Nat.beq (fU v.cells.toList) n&&Nat.ble (off+fU v.cells.toList) (fU cs)) with
   |false=>rw[hb]at h;cases h
   |true=>
    rw[hb]at h
    simp only[cond_true,nU]at h
    rw[a04]at hb
    have T:=a0a hb.1
    have O:=a0d hb.2
    rw[bp]at T O
    rw[bp]at O
    unfold Instr.fill
    simp only[e]
    rw[if_neg (by
     simp only[a0E,decide_eq_true_eq,not_or];show ¬(v.cells.size≠n)/\¬(off+v.cells.size>J cs);rw[←a1L];omega)]
    have:=pw E ps _ _ h
    rw[←this]
    congr 1
    rw[←Array.foldl_toList,Array.toList_zipIdx]
    have:=mi v.cells.toList 0 off cs M
    exact this
  cases h
theorem places_ok{P}: ∀{fs:List Field} {pl:List (Nat×Nat)},mz P fs=some pl->aD P (fs.mapM (m:=Sem) λf=>do Pure.pure (f.offset,←sizeOf f.type))=some pl
 | [],pl,h=>by simp only[mz,a01]at h;subst h;rfl
 |f::fs,pl,h=>by
  unfold mz at h;split at h
  ·rename_i n e;split at h
   ·rename_i l E;simp only[a01]at h;subst h;rw[List.mapM_cons];simp only[aJ,cU,e,a0q,bE,places_ok E]
   cases h
  cases h
theorem bldL_ok{P}{t:TypeId}{ps cs}(h:bldL P t ps.toList=some cs):aD P (Instr.build t ps)=some (.agg ⟨cs⟩):=by
 unfold bldL at h;split at h
 ·rename_i fs e1;split at h
  ·rename_i z E;split at h
   ·rename_i T e3;have hz: ∃v,aD P (zeroValue t)=some v/\v.cells.toList=z:=by
     unfold dm at E;split at E
     ·rename_i i hi;split at E
      ·rename_i v O;refine⟨v,?_,?_⟩
       ·unfold zeroValue;simp only[aJ,dM,hi,a0q,O];rfl
       cases U:v.cells.toList.all dG with
       |true=>rw[U]at E;simpa using E
       |false=>rw[U]at E;cases E
      cases E
     cases E
    have⟨v,O,Z⟩:=hz;unfold Instr.build;simp only[aJ,O,a0q,bA,e1];rw[Array.mapM_eq_mapM_toList];simp only[←bind_pure_comp,aJ,places_ok e3,a0q,bE];have:=pw (nth T) ps.toList z cs h;rw[show nth T=λi=>T.toArray[i]? from funext λi=>by rw[hM,List.getElem?_toArray]]at this;rw[show v.cells=⟨z⟩ from by rw[←Z]];simp only[this];rfl
   cases h
  cases h
 cases h
theorem l9(n:Int):IntKind.u64.wrap n=n%18446744073709551616:=rfl
abbrev bv(n:Int):BitVec 64:=BitVec.ofInt 64 n
def decD(d:Nat):UInt8:=UInt8.ofNat (48+d)
def dec(n:Nat):List UInt8:=if n<10 then [decD n] else dec (n/10)++[decD (n%10)]
def fM(c:UInt8):Bool:=decide (48<=c.toNat)&&decide (c.toNat<=57)
def valA(n:Nat)(c:UInt8):Nat:=10 *n+(c.toNat-48)
def val(l:List UInt8):Nat:=l.foldl valA 0
def lB(t:List UInt8):Bool:=decide (1<=J t)&&decide (J t<=19)&&t.all fM&&(t.headD 0 !=48||J t==1)
def posS(s:List UInt8)(E:Nat):Option Nat:=if lB s=true/\val s<=E then some (val s) else none
def bu(s:List UInt8):Option Int:=
 if s.headD 0=45 then(match posS s.tail 9223372036854775808 with
  |some 0=>none
  |some n=>some (-(n:Int))
  |none=>none)
 else(match posS s 9223372036854775807 with
  |some n=>some (n:Int)
  |none=>none)
def dI(n:Int):List UInt8:=if n<0 then 45::dec n.natAbs else dec n.toNat
theorem iQ{d}(h:d<10):(decD d).toNat=48+d:=by unfold decD;rw[UInt8.toNat_ofNat'];omega
theorem eX{n}(h:n<10):dec n=[decD n]:=by rw[dec,if_pos h]
theorem kN{n}(h: ¬n<10):dec n=dec (n/10)++[decD (n%10)]:=by rw[dec,if_neg h]
theorem kM(k:Nat): ∀n,n<10^(k+1)->J (dec n)<=k+1:=by
 induction k with
 |zero=>intro n h;rw[eX M];simp
 |succ k ih=>
  intro n h
  by_cases E:n<10
  ·rw[eX E];simp
  rw[kN E,a00]
  have:=ih (n/10) (by rw[a1U]at h;omega)
  simp;omega
theorem dec_dig: ∀n,(dec n).all fM=true:=by
 intro n;induction n using Nat.strongRecOn with
 |_ n ih=>
  have hd: ∀d,d<10->fM (decD d)=true:=λd h=>by
   unfold fM;rw[iQ h];have O:48<=48+d:=M
   have T:48+d<=57:=M
   simp[O,T]
  by_cases E:n<10
  ·rw[eX E];simp[hd n E]
  rw[kN E,a1H,ih (n/10) M]
  simp[hd (n%10) M]
theorem dec_ne(n:Nat):dec n≠ []:=by
 by_cases E:n<10
 ·rw[eX E];simp
 rw[kN E];simp
theorem dec_head: ∀n,0<n->(dec n).headD 0≠48:=by
 intro n;induction n using Nat.strongRecOn with
 |_ n ih=>
  intro U
  by_cases E:n<10
  ·rw[eX E];intro h;have:=congrArg UInt8.toNat h;simp only[List.headD_cons]at this;rw[iQ E]at this;have e:(48:UInt8).toNat=48:=rfl;omega
  rw[kN E]
  have O:=ih (n/10) M M
  cases T:dec (n/10) with
  |nil=>exact absurd T (dec_ne _)
  |cons a t=>rw[T]at O;exact O
theorem dec_45(n:Nat):(dec n).headD 0≠45:=by
 have h:=dec_dig n;cases O:dec n with
 |nil=>exact absurd O (dec_ne _)
 |cons a t=>
  rw[O]at h
  intro E
  simp only[List.headD_cons]at E
  subst E
  simp[fM]at h
theorem nB(l:List UInt8)(c:UInt8):val (l++[c])=10 *val l+(c.toNat-48):=by unfold val;rw[a1S];rfl
theorem l7: ∀n,val (dec n)=n:=by
 intro n;induction n using Nat.strongRecOn with
 |_ n ih=>
  by_cases E:n<10
  ·rw[eX E];show valA 0 (decD n)=n;unfold valA;rw[iQ E];omega
  rw[kN E,nB,ih (n/10) M,iQ M];omega
theorem dec_len1{n}(h:(dec n).headD 0=48):J (dec n)=1:=by
 rcases a1g n with h0|h0
 ·subst h0;rw[eX M];rfl
 exact absurd h (dec_head n h0)
theorem mD{n}(h:n<10^19):lB (dec n)=true:=by
 unfold lB;have O:J (dec n)<=19:=kM 18 n h;have T:1<=J (dec n):=by
  rcases a1g (J (dec n)) with h0|h0
  ·exact absurd (a0e h0) (dec_ne n)
  exact h0
 rw[decide_eq_true O,decide_eq_true T,dec_dig];by_cases E:(dec n).headD 0=48
 ·rw[dec_len1 E];simp
 have:((dec n).headD 0 !=48)=true:=by simpa using E
 rw[this];rfl
theorem nH{n:Int}(h:in64 n):bu (dI n)=some n:=by
 have⟨U,Z⟩:=h;unfold dI;split
 ·rename_i T;have hb:n.natAbs<10^19:=M
  unfold bu;simp only[List.headD_cons,if_true,List.tail_cons];unfold posS;have E:lB (dec n.natAbs)=true/\val (dec n.natAbs)<=9223372036854775808:=⟨mD hb,by rw[l7];omega⟩
  rw[if_pos E,l7];obtain⟨m,O⟩: ∃m,n.natAbs=m+1:=⟨n.natAbs-1,by omega⟩
  rw[O];simp only[a01];omega
 rename_i T;have hb:n.toNat<10^19:=M
 unfold bu;rw[if_neg (dec_45 _)];unfold posS;have E:lB (dec n.toNat)=true/\val (dec n.toNat)<=9223372036854775807:=⟨mD hb,by rw[l7];omega⟩
 rw[if_pos E,l7];simp only[a01];omega
theorem oz{s:List UInt8}{i:Nat}(h:i<s.length):val (s.take (i+1))=10 *val (s.take i)+((s.getD i 0).toNat-48):=by
 have:s.take (i+1)=s.take i++[s.getD i 0]:=by rw[a19,a09,a08 h];rfl
 rw[this,nB]
theorem kg{p:UInt8->Bool}{s:List UInt8}{i:Nat}(h:i<s.length):(s.take (i+1)).all p=((s.take i).all p&&p (s.getD i 0)):=by
 have:s.take (i+1)=s.take i++[s.getD i 0]:=by rw[a19,a09,a08 h];rfl
 rw[this,a1H];simp
theorem val_lt{s:List UInt8}: ∀i,i<=s.length->(s.take i).all fM=true->val (s.take i)<10^i:=by
 intro i;induction i with
 |zero=>intro _ _;rw[List.take_zero];decide
 |succ i ih=>
  intro h hd
  rw[kg M,a04]at hd
  have O:=ih M hd.1
  have E:=hd.2
  simp only[fM,a04,decide_eq_true_eq]at E
  rw[oz M,a1U]
  omega
open Go.RowKit Go.WideShapes Go.ChangeShapes
structure Em(w:World)(μ:Emb)(H:Heap):Prop where
 rel:WRel μ H w
 ro: ∀b o,H.get b=some o->o.rw=false
 wf:WF H
 dom: ∀b,H.next<=b->μ b=none
 log:H.log=[]
theorem Em.empty(w:World):Em w (λ_=>none) Heap.empty:=
 ⟨⟨λb l o h=>by simp at h,λE O l1 l2 T U _ h=>by simp at h⟩,λb o h=>(by cases h),λb _=>rfl,λb _=>rfl,V⟩
section
variable {w:World} {μ:Emb} {H:Heap}
theorem Em.lt(h:Em w μ H){b o}(hb:H.get b=some o):b<H.next:=by
 rcases a0p b H.next with h1|h1
 ·exact h1
 rw[h.wf b h1]at hb;cases hb
theorem Em.add(h:Em w μ H){c sh cs}(hc:c<w.heap.size)(O: ∀(i:Nat) v,cs[i]?=some v->∃v',w.cell? ⟨c,sh+i,none⟩=some v'/\VRel μ v v'):
  Em w (μ.set H.next ⟨c,sh,none,0⟩) (H.push (.cells cs none true)):=by
 have T:=Emb.set_ext (μ:=μ) (b:=H.next) ⟨c,sh,none,0⟩ (h.dom _ (a07 _))
 have U: ∀b o,(H.push (.cells cs none true)).get b=some o->(b=H.next/\o= .cells cs none true)\/(b≠H.next/\H.get b=some o):=by
  intro b o hb;by_cases e:b=H.next
  ·subst e;rw[Heap.get_push_same]at hb;exact .inl ⟨V,(Option.some.inj hb).symm⟩
  rw[Heap.get_push_ne _ _ (Ne.symm e)]at hb;exact .inr ⟨e,hb⟩
 have Z: ∀b o,(H.push (.cells cs none true)).get b=some o->o.rw=false:=by
  intro b o hb;rcases U b o hb with⟨_,rfl⟩|⟨_,h1⟩
  ·rfl
  exact h.ro b o h1
 refine⟨⟨λb l o hb ho=>?_,λb1 b2 l1 l2 o1 o2 _ _ _ h3 _ h5 _=>?_⟩,Z,λb hb=>?_,λb hb=>?_,h.log⟩
 ·rcases U b o ho with⟨rfl,rfl⟩|⟨ar,ax⟩
  ·rw[Emb.set_same]at hb;obtain rfl:=Option.some.inj hb;refine⟨V,V,hc,λi v hv=>?_⟩;have⟨v',h1,h2⟩:=O i v hv;exact⟨v',h1,h2.ac T⟩
  rcases Emb.set_inv hb with⟨e,_⟩|⟨_,E⟩
  ·exact absurd e ar
  exact(h.rel.obj b l o E ax).keep T (a07 _) (λ_=>rfl)
 ·rw[Z b1 o1 h3]at h5;cases h5
 ·have E:H.next+1<=b:=hb;rw[Heap.get_push_ne _ _ M];exact h.wf b M
 have E:H.next+1<=b:=hb
 unfold Emb.set
 rw[if_neg M];exact h.dom b M
theorem Em.hs(h:Em w μ H):HS (.of H []) H.get H [] []:=
 ⟨λb o hb=>⟨hb,h.lt hb⟩,λp E=>by simp at E,by simp,a07 _,λb hb=> .inl hb,λp E=>by simp at E⟩
theorem walk_of_Em{P:Program}{K:bJ}(Z:iG P 0 K)(h:Em w μ H){f:FuncId}{args:List Value}{E:Array Value}(ha:LRel μ args E.toList)(hc:C P 0 K f args H λv _=>v= .bool true):
  Calls P f E w λe w'=>e= .returned (.bool true)/\Below w.heap.size w w':=by
 obtain⟨n,v,H',U,rfl⟩:=hc.out
 obtain⟨_,O⟩:=call_ok (G:=0) Z n f args H (.bool true) H' U h.wf
 refine(O μ w _ ha (λg hg=>by omega) h.rel (λb hb _=>h.dom b hb)).mono ?_
 rintro e w' ⟨μ',v',rfl,hr,hp⟩
 rw[hr.eq2 rfl]
 exact⟨V,hp.os,hp.tape,hp.out,hp.grow,λk hk=>hp.keep k hk λb l x _ hx T=>by rw[h.ro b x hx]at T;cases T⟩
end
structure EmLe(μ:Emb)(H:Heap)(μ':Emb)(H':Heap):Prop where
 emb: ∀b l,μ b=some l->μ' b=some l
 heap:Fz.le H.get H'.get
theorem EmLe.refl(μ:Emb)(H:Heap):EmLe μ H μ H:=⟨λ_ _ h=>h,λ_ _ h=>h⟩
theorem EmLe.add{w μ H}(h:Em w μ H)(l:Loc)(o:AObj):EmLe μ H (μ.set H.next l) (H.push o):=
 ⟨Emb.set_ext l (h.dom _ (a07 _)),λb x hb=>by rw[Heap.get_push_ne _ _ (Nat.ne_of_gt (h.lt hb))];exact hb⟩
section
variable {c_:Type} {enc:TypeId×Value->c_} {P:Program} {w:World} {μ:Emb} {H:Heap}
theorem wf_in64{n:Int}(h:(Lit.int .i64 n).wf=true):in64 n:=by simp[Lit.wf,IntKind.min,IntKind.max,IntKind.signed,IntKind.bits]at h;exact⟨by omega,by omega⟩
theorem RL_ints{F}: ∀(l:List Int),(∀n∈l,in64 n)->RL F (l.map λn=>Value.int .i64 n) l
 | [],_=>rfl
 |n::l,h=>⟨[.int .i64 n],l.map λn=>Value.int .i64 n,V,⟨V,h n (by simp)⟩,RL_ints l λm E=>h m (by simp[E])⟩
theorem em_ints{base}{t e:TypeId}{v d ps}(h:Em w μ H)(ht:P.underlying t=some (.slice e))(he:P.underlying e=some (.int .i64))(hc:P.cellsOf e=1)(ax:Value.okWide P w .any base t v)
  (hd:DataW.Trod enc P w 0 (λ_=>true) true t v d ps):
  ∃μ' H' a k,∃l:List Int,Em w μ' H'/\EmLe μ H μ' H'/\VRel μ' (.slice a (J l) k) v/\SR H'.get (.slice a (J l) k) l/\(J l<=maxLen)/\(∃a7,d= .slice (Go.ChangeShapes.lits .i64 l) a7\/d= .nil/\l=[]):=by
 obtain⟨a,len,U,rfl⟩:=okWide_slice ht ax
 have⟨fuel,hf⟩:=hd
 rcases Go.ChangeShapes.open_ints ht he hc hf with⟨Z,T⟩|⟨a',len',bn,E,Z,_,ba,b2,a5,T,a1,bl⟩
 ·simp[Value.cells]at Z;obtain⟨rfl,rfl,rfl⟩:=Z;simp only[a05]at T;exact⟨μ,H,_,0,[],h,.refl _ _,.atom _ V,.nil,a0h _,[],.inr ⟨T.1,V⟩⟩
 simp[Value.cells]at Z
 obtain⟨rfl,rfl,rfl⟩:=Z
 have bb:a'.spot=none/\a'.block<w.heap.size:=by
  have ar:Cell.ok P w .any base t (.slice (some a') len U):=by have:=ax;unfold Value.okWide at this;rw[ht]at this;simp only at this;unfold Cell.okWide at this;rw[ht]at this;exact this
  unfold Cell.ok at ar;rw[ht]at ar;have⟨_,_,_,bf,b3,cells,hs,_⟩:=ar;refine⟨bf,?_⟩;unfold World.shape? at hs;split at hs
  ·rename_i a9;exact(a0S.1 a9).1
  cases hs
 have⟨c,off,sp⟩:=a'
 obtain⟨rfl,a8⟩:=bb
 simp only[if_true]at a5
 have a4: ∀n∈E.take len,in64 n:=λn hn=>wf_in64 (bl n (List.mem_of_mem_take hn))
 have hl:J (E.take len)=len:=by rw[a0V];omega
 have hA:=h.add (c:=c) (sh:=off) (cs:=(E.take len).map λn=>Value.int .i64 n) a8 (λi v hv=>by
  rw[a1J]at hv;cases O:(E.take len)[i]? with
  |none=>rw[O]at hv;cases hv
  |some n=>
   rw[O]at hv
   obtain rfl:=Option.some.inj hv
   have hi:=(a0A.1 O).1
   have a3:=a1 i (by rw[hl]at hi;omega)
   have hn:N E i 0=n:=by
    rw[a0F]at O;split at O
    ·rw[a09,O];rfl
    cases O
   refine⟨_,?_,.atom _ V⟩
   rw[hn]at a3
   rw[←a3]
   congr 1
   unfold Addr.add
   split
   ·rename_i h0;subst h0;rfl
   rfl)
 refine⟨_,_,some ⟨H.next,0,none⟩,U,_,hA,.add h _ _,?_,?_,by rw[hl];omega,E.drop len|>Go.ChangeShapes.lits .i64,.inl ?_⟩
 ·rw[hl];have:=VRel.sliceC (μ:=μ.set H.next ⟨c,off,none,0⟩) H.next 0 len U ⟨c,off,none,0⟩ (Emb.set_same _ _ _) V;simpa using this
 ·refine .inr ⟨_,0,U,_,V,Heap.get_push_same _ _,_,_,_,V,λT=>(by cases T),(by rw[hl];exact ba),?_,.inl V⟩;have e1:J ((E.take len).map λn=>Value.int .i64 n)=J (E.take len) *Rp.sz Int:=by rw[a1m];show _=_ *1;omega
  rw[a0R,←e1,a0W];exact RL_ints _ a4
 simp only[a05]at T
 exact T.1
end
section
variable {c_:Type} {enc:TypeId×Value->c_} {P:Program}
theorem kj{w w' base E held}: ∀{ts:List TypeId} {vs:List Value} {ds:List (DataW c_)} {ps:List MemPlace},DataW.TrodAll enc P w base E held ts vs ds ps->(∀p∈ps,w.sameAt w' p)->DataW.TrodAll enc P w' base E held ts vs ds ps
 | [],[],[],_,h,_=>h
 |_::_,_::_,_::_,_,⟨p,q,⟨n,h1⟩,h2,e⟩,hs=>⟨p,q,⟨n,DataW.trod_carry n _ _ _ h1 λx O=>hs x (by rw[e];exact a20 _ O)⟩,kj h2 λx O=>hs x (by rw[e];exact List.mem_append_right _ O),e⟩
theorem post_law{f:Func}{s:ChangeSpec}{T ar U an:Bool}{W W':World}{args:Array Value}{ds gs:List (DataW c_)}{O:List MemPlace}{tb:TypeId}
  (K:Kids P (· <P.types.size)) (a2: ∀t e,t<P.types.size->P.underlying t=some (.slice e)->0<P.cellsOf e) (a5: ∀t∈f.params.toList,t<P.types.size)
  (hW:DataW.Whole enc P f.params.toList s.vars T W args.toList ds gs O) (al:s.vars=[]) (E:f.resultTypes= #[tb]) (aA:P.underlying tb=some .bool)
  (Z:s.fn c_ (ds++gs)={results:=[.lit (.bool true)],args:=ds}) (hb:Below W.heap.size W W'):s.post enc P f T ar U an W args (.bool true) W':=by
 have a9: ∀p∈O,p.block<W.heap.size:=λp hp=>by simpa using hW.lt p hp
 have a8:=hW
 obtain⟨p,q,hA,hV,rfl,bw,bF⟩:=hW
 have hq:q=[]/\gs=[]:=by
  rw[al]at hV;cases gs with
  |nil=>exact⟨hV,V⟩
  |cons _ _=>exact absurd hV id
 obtain⟨rfl,rfl⟩:=hq
 refine oK a8 (λb sp hd=>?_) (λsp ba=>?_) (λsp _=>?_) V hb ?_
 ·rw[Z,E];exact trodAll_cons_mk (shut_bool aA _) V
 ·rw[Z];refine DataW.TrodAll.respare K a2 a5 (kj hA λx hx=>hb.same (a9 x (by simpa using hx))) λx hx=>ba x (by simpa using hx)
 ·rw[al,Z];rfl
 rw[E]
 intro j t r h1 h2
 exact ok_one E V (okWide_bool_mk aA _) j t r (by rw[E];exact h1) (by rw[E];exact h2)
end
open Go
section
variable {P:Program} {d:Nat} {t:TypeId}
theorem eqI{k:IntKind}{a b:Int}(E:P.underlying t=some (.int k)):aD P (Op.equalIn (d+1) t (.int k a) (.int k b))=some (a==b):=by simp[Op.equalIn,underlying,E]
theorem eqS{a b}(E:P.underlying t=some .string):aD P (Op.equalIn (d+1) t (.string a) (.string b))=some (a==b):=by simp[Op.equalIn,underlying,E]
theorem eqL{a b}(E:P.underlying t=some .string):aD P (Op.equalIn (d+1) t (.string ⟨⟨a⟩⟩) (.string ⟨⟨b⟩⟩))=some (a==b):=by
 rw[eqS E];congr 1;show((⟨a⟩:Array UInt8)==⟨b⟩)=_;rw[a0M,beq_iff_eq,beq_iff_eq];constructor
 ·intro h;injection h
 intro h;rw[h]
theorem eqB{a b}(E:P.underlying t=some .bool):aD P (Op.equalIn (d+1) t (.bool a) (.bool b))=some (a==b):=by simp[Op.equalIn,underlying,E]
structure EqF(P:Program)(d:Nat)(xs ys:Array Value)(f:Field)(b:Bool):Prop where
 named:f.name≠ "_"
 ok: ∃u v,aD P (part f.type xs f.offset)=some u/\aD P (part f.type ys f.offset)=some v/\aD P (Op.equalIn d f.type u v)=some b
inductive EqFs(P:Program)(d:Nat)(xs ys:Array Value):List Field->List Bool->Prop
 |nil:EqFs P d xs ys [] []
 |cons {f b fs bs}:EqF P d xs ys f b->EqFs P d xs ys fs bs->EqFs P d xs ys (f::fs) (b::bs)
def eqLoop(d:Nat)(xs ys:Array Value)(fs:List Field):Sem (Option Bool×Unit):=
 forIn fs ((none:Option Bool),()) λf (_:Option Bool×Unit)=>
  if f.name≠ "_" then do
   if !(←Op.equalIn d f.type (←part f.type xs f.offset) (←part f.type ys f.offset)) then pure (ForInStep.done (some false,()))
   else pure (ForInStep.yield (none,()))
  else pure (ForInStep.yield (none,()))
theorem eq_loop{xs ys fs bs}(h:EqFs P d xs ys fs bs):
  aD P (eqLoop d xs ys fs)=some (if bs.all id=true then none else some false,()):=by
 induction h with
 |nil=>simp[eqLoop]
 | @cons f b fs bs hf _ ih=>
  have⟨U,u,v,E,O,T⟩:=hf
  unfold eqLoop at ih⊢
  rw[List.forIn_cons,if_pos U]
  simp only[aJ,E,O,T,a0q]
  cases b
  ·simp
  simp only[a1x,a0j,if_false,bE,a0q,ih]
  simp
theorem eq_struct{fs xs ys bs}(E:P.underlying t=some (.struct fs))(hs:P.stoodInHeld t=false)
  (h:EqFs P d xs ys fs.toList bs):aD P (Op.equalIn (d+1) t (.agg xs) (.agg ys))=some (bs.all id):=by
 simp only[Op.equalIn,underlying,aJ,fF,a0q,E,bE,hs,a0j,if_false]
 rw[←Array.forIn_toList]
 have:=eq_loop h
 unfold eqLoop at this
 rw[this]
 cases bs.all id<;>rfl
end
section
variable {P:Program} {ρ:Operand->Value} {d:Option Tmp} {ty:TypeId} {pos:String} {af:Array Edge} {gd:Option (Nat×Bool)} {H:Heap}
theorem jV{cs}(h:cs.all dG=true):jN (.agg ⟨cs⟩)=true:=h
theorem ap_agEq{t yt:TypeId}{x y xs ys fs bs}(E:ρ x= .agg ⟨xs⟩)(U:ρ y= .agg ⟨ys⟩)
  (O:xs.all dG=true) (T:ys.all dG=true)
  (hu:P.underlying t=some (.struct fs)) (hs:P.stoodInHeld t=false) (hg:P.eqGuardType P.depth t=false)
  (h:EqFs P 9999 ⟨xs⟩ ⟨ys⟩ fs.toList bs):AP P ρ ⟨d,.binOp .eql t x y yt,ty,pos,af,gd⟩ H (.val (.bool (bs.all id)),H):=by
 refine⟨?_⟩
 show aBin P ρ _ .eql t (ρ x) y H=_
 rw[E]
 show bB P ρ _ H=_
 unfold bB
 have h1:((Op.binOp .eql t x y yt).operands.toList.all λx=>jN (ρ x))=true:=by simp[Op.operands,E,U,jV O,jV T]
 simp only[h1,cond_true]
 have h2:aD P (execOp ρ ⟨d,.binOp .eql t x y yt,ty,pos,af,gd⟩)=some (.value (Value.bool (bs.all id))):=by
  unfold execOp;simp only[E,U,aJ];have Z:aD P (eqGuard .eql t x y (.agg ⟨xs⟩) (.agg ⟨ys⟩))=some ():=by simp[eqGuard,hg]
  have e2:aD P (binOp .eql t (.agg ⟨xs⟩) (.agg ⟨ys⟩))=some (Value.bool (bs.all id)):=by show aD P (Op.equal t (.agg ⟨xs⟩) (.agg ⟨ys⟩)>>=λb=>(Pure.pure (Value.bool b):Sem Value))=_;rw[aJ,show Op.equal t (.agg ⟨xs⟩) (.agg ⟨ys⟩)=Op.equalIn (9999+1) t (.agg ⟨xs⟩) (.agg ⟨ys⟩) from V,eq_struct hu hs h];rfl
  simp only[Z,e2,a0q];rfl
 rw[h2];rfl
end
open Go.RowKit
def tcell(n:Nat):AObj:= .cells [.slice (some ⟨1,0,none⟩) n n] none true
open Classical in
structure TB(n:Nat)(cells:List Value)(F:Fz):Prop where
 at0:F 0=some (tcell n)
 at1:F 1=some (.cells cells none true)
section
variable {n:Nat} {cells:List Value} {F F':Fz}
end
end Go.R
end
noncomputable section
set_option linter.unusedVariables false
set_option linter.unusedSimpArgs false
namespace Go.R
open List renaming getD→N,length→J
inductive Hint where
 |p
 |w
 |e (n:Int)
 |o (v:Value)
 |r (q:Nat)
abbrev Ch:=List (Nat×Bool)
def bq:Bool->Bool->Bool
 |true,b=>b
 |false,b=> !b
theorem bq_eq{a b}(h:bq a b=true):a=b:=by cases a<;>cases b<;>first|rfl|cases h
def gl:List (Nat×Bool)->Nat->Option Bool
 | [],_=>none
 |(s,g)::G,t=>bif Nat.beq s t then some g else gl G t
def act(G:List (Nat×Bool)):Ch->Bool
 | []=>true
 |(s,w)::c=>(match gl G s with|some g=>bq g w|none=>false)&&act G c
def memC(s:Nat)(w:Bool):Ch->Bool
 | []=>false
 |(s',w')::c=>(Nat.beq s' s&&bq w' w)||memC s w c
def subC:Ch->Ch->Bool
 | [],_=>true
 |(s,w)::a,c=>memC s w c&&subC a c
def lk:List (Nat×Ch×Value)->Nat->Option (Ch×Value)
 | [],_=>none
 |(s,x)::m,t=>bif Nat.beq s t then some x else lk m t
structure SS where
 m:List (Nat×Ch×Value)
 G:List (Nat×Bool)
def SS.rd(S:SS)(f:Fn):Operand->Value
 | .tmp t=>match lk S.m t with
  |some x=>x.2
  |none=>f t
 | .const v=>v
 | .global g=> .pointer (some ⟨g,0,none⟩)
 | .func i=> .func (.func i) #[] #[]
def SS.can(S:SS)(c:Ch):Operand->Bool
 | .tmp t=>match lk S.m t with
  |some x=>subC x.1 c
  |none=>true
 |_=>true
def impl(G:List (Nat×Bool)):Ch->Prop->Prop
 | [],p=>p
 |(s,w)::c,p=>match gl G s with
  |some g=>g=w->impl G c p
  |none=>True
def na(G:List (Nat×Bool))(s:Nat)(g:Bool):List (Nat×Bool):=match gl G s with
 |some _=>G
 |none=>(s,g)::G
def fe:Option Prop->Prop
 |none=>True
 |some p=>p
def andO(q:Option Prop)(p:Prop):Prop:=match q with
 |none=>p
 |some q=>q/\p
def rng(k:IntKind)(n:Int):Prop:=match k with
 | .i64=> -9223372036854775808<=n/\n<9223372036854775808
 | .u64=>0<=n/\n<18446744073709551616
 | .u8=>0<=n/\n<256
 |k=>k.wrap n=n
theorem rng_wrap{k:IntKind}{n:Int}(h:rng k n):k.wrap n=n:=by
 cases k with
 |i64=>exact lA h
 |u64=>exact oy h
 |u8=>exact w_u8 h
 |_=>exact h
def kq:IntKind->IntKind->Bool
 | .i64,.i64=>true
 | .u64,.u64=>true
 | .u8,.u8=>true
 | .i32,.i32=>true
 | .u32,.u32=>true
 |_,_=>false
theorem kq_eq{k E:IntKind}(h:kq k E=true):E=k:=by cases k<;>cases E<;>first|rfl|cases h
abbrev VP:=Option (Value×Option Prop)
def ari(h:Hint)(k:IntKind)(n:Int):VP:=match h with
 | .w=>some (.int k (k.wrap n),none)
 | .e m=>some (.int k m,some (n=m/\rng k m))
 |_=>some (.int k n,some (rng k n))
def bi(h:Hint)(k:IntKind)(n:Int):VP:=match h with
 | .e m=>some (.int k m,some (n=m))
 |_=>some (.int k n,none)
def withP(p:Prop):VP->VP
 |some (v,none)=>some (v,some p)
 |some (v,some q)=>some (v,some (p/\q))
 |none=>none
def pint(h:Hint)(op:BinOp)(k:IntKind)(x y:Int):VP:=match op with
 | .add=>ari h k (x+y)
 | .sub=>ari h k (x-y)
 | .mul=>ari h k (x *y)
 | .quo=>withP (y≠0) (ari h k (x.tdiv y))
 | .rem=>withP (y≠0) (bi h k (x.tmod y))
 | .and=>bi h k (fj .and k x y)
 | .or=>bi h k (fj .or k x y)
 | .xor=>bi h k (fj .xor k x y)
 | .andNot=>bi h k (fj .andNot k x y)
 | .eql=>some (.bool (x==y),none)
 | .neq=>some (.bool (x !=y),none)
 | .lss=>some (.bool (decide (x<y)),none)
 | .leq=>some (.bool (decide (x<=y)),none)
 | .gtr=>some (.bool (decide (y<x)),none)
 | .geq=>some (.bool (decide (y<=x)),none)
 |_=>none
def AGB(P:Program)(op:BinOp)(t:TypeId)(a b v:Value):Prop:= ∀(ρ:Operand->Value) (x y:Operand) (yt:TypeId) (d:Option Tmp) (ty:TypeId) (pos:String) (af:Array Edge) (gd:Option (Nat×Bool)) (H:Heap),ρ x=a->ρ y=b->AP P ρ ⟨d,.binOp op t x y yt,ty,pos,af,gd⟩ H (.val v,H)
def isBT(P:Program)(t:TypeId):Bool:=match P.underlying t with
 |some .bool=> !P.eqGuardType P.depth t
 |_=>false
def pbin(P:Program)(h:Hint)(op:BinOp)(t:TypeId)(a b:Value):VP:=match a,b with
 | .int k x,.int k' y=>match op with
  | .shl=>withP (0<=y) (bi h k (k.wrap (x *2^(Nat.min y.toNat k.bits))))
  | .shr=>withP (0<=y) (bi h k (x.fdiv (2^(Nat.min y.toNat k.bits))))
  |op=>bif kq k k' then pint h op k x y else none
 | .string ⟨⟨x⟩⟩,.string ⟨⟨y⟩⟩=>match op with
  | .eql=>some (.bool (x==y),none)
  | .neq=>some (.bool (x !=y),none)
  | .lss=>some (.bool (Op.bytesLess x y),none)
  | .leq=>some (.bool (Op.bytesLess x y||x==y),none)
  | .add=>some (.string ⟨⟨x++y⟩⟩,some (J x+J y<=1099511627776))
  |_=>none
 | .bool x,.bool y=>bif isBT P t then match op with
  | .eql=>some (.bool (x==y),none)
  | .neq=>some (.bool (x !=y),none)
  |_=>none else none
 | .agg x,.agg y=>match h with
  | .o v=>some (v,some (AGB P op t (.agg x) (.agg y) v))
  |_=>none
 | .pointer a,.pointer b=>match nilEq P t (.pointer a) (.pointer b),op with
  |some r,.eql=>some (.bool r,none)
  |some r,.neq=>some (.bool (!r),none)
  |_,_=>none
 | .slice a n k,.slice b n' k'=>match nilEq P t (.slice a n k) (.slice b n' k'),op with
  |some r,.eql=>some (.bool r,none)
  |some r,.neq=>some (.bool (!r),none)
  |_,_=>none
 |_,_=>none
def pun(h:Hint)(op:UnOp)(v:Value):VP:=match op,v with
 | .not,.bool b=>some (.bool (!b),none)
 | .neg,.int k n=>ari h k (0-n)
 | .xor,.int k n=>bi h k (bits .xor k (if k.signed then-1 else k.max) n)
 |_,_=>none
structure FW where
 ld:TypeId->Value->Value->Prop
 cl:FuncId->List Value->Value->Prop
 cv:TypeId->TypeId->Option Addr->Nat->Value->Prop
 sl:TypeId->Value->Option Value->Option Value->Value->Prop
 lk:TypeId->Value->Value->Bool->Value->Prop
def pconv(P:Program)(W:FW)(h:Hint)(s t:TypeId)(v:Value):VP:=match v with
 | .int _ n=>match P.underlying s,P.underlying t with
  |some _,some (.int k')=>ari h k' n
  |_,_=>none
 | .slice a n k=>match h with
  | .o v=>some (v,some (W.cv s t a n v))
  |_=>none
 |_=>none
def ppick(g:Bool)(a b:Value):Option Value:=match a,b with
 | .bool x,.bool y=>some (.bool (bif g then x else y))
 | .int k x,.int k' y=>bif kq k k' then some (.int k (bif g then x else y)) else none
 | .string x,.string y=>some (.string ⟨⟨bif g then x.data.toList else y.data.toList⟩⟩)
 |_,_=>none
def LDv(P:Program)(H:Heap)(t:TypeId)(a w:Value):Prop:=fh P t a H=some (.val w,H)
def IX(v:Value)(j:Int):Prop:= ∃b o n k,v= .slice (some ⟨b,o,none⟩) n k/\0<=j/\j<n/\n<=k
def pidx(P:Program)(t:TypeId)(a i:Value):VP:=match a,i with
 | .string ⟨⟨s⟩⟩,.int _ j=>match P.underlying t with
  |some .string=>some (.int .u8 ((N s j.toNat 0).toNat:Int),some (0<=j/\j<J s))
  |_=>none
 | .agg x,w=>match aD P (Instr.index t (.agg x) w) with
  |some r=>some (r,none)
  |none=>none
 |_,_=>none
def pidxA(P:Program)(t:TypeId)(a i:Value):VP:=match a,i with
 | .slice x n k,.int _ j=>match P.underlying t with
  |some (.slice e)=>match dL P e with
   |some z=>some (.pointer (some ⟨sB (.slice x n k),sO (.slice x n k)+j.toNat *z,none⟩),some (IX (.slice x n k) j))
   |none=>none
  |_=>none
 | .pointer (some ⟨b,o,none⟩),.int _ j=>match P.underlying t with
  |some (.array n e)=>match dL P e with
   |some z=>some (.pointer (some ⟨b,o+j.toNat *z,none⟩),some (0<=j/\j<n))
   |none=>none
  |_=>none
 |_,_=>none
def pslice(P:Program)(W:FW)(h:Hint)(t:TypeId)(x:Value)(lo hi:Option Value):VP:=match x with
 | .string ⟨⟨s⟩⟩=>match P.underlying t with
  |some .string=>match lo,hi with
   |none,none=>some (.string ⟨⟨s⟩⟩,none)
   |some (.int _ i),none=>some (.string ⟨⟨s.drop i.toNat⟩⟩,some (0<=i/\i<=J s))
   |none,some (.int _ j)=>some (.string ⟨⟨s.take j.toNat⟩⟩,some (0<=j/\j<=J s))
   |some (.int _ i),some (.int _ j)=>some (.string ⟨⟨(s.drop i.toNat).take (j.toNat-i.toNat)⟩⟩,some (0<=i/\i<=j/\j<=J s))
   |_,_=>none
  |_=>none
 |x=>match h with
  | .o v=>some (v,some (W.sl t x lo hi v))
  |_=>none
def plen(P:Program)(t:TypeId)(x:Value):VP:=match x with
 | .string ⟨⟨s⟩⟩=>match P.underlying t with
  |some .string=>some (.int .i64 (J s:Int),none)
  |_=>none
 | .slice _ n _=>match P.underlying t with
  |some (.slice _)=>some (.int .i64 (n:Int),none)
  |_=>none
 |_=>none
def pmm(w:Bool)(a b:Value):VP:=match a,b with
 | .int k x,.int _ y=>some (.int k (bif w then(if y<x then y else x) else(if y>x then y else x)),none)
 |_,_=>none
def pcall(P:Program)(W:FW)(h:Hint)(ρ:Operand->Value)(c:Call):VP:=match c.callee with
 | .builtin .len=>match c.argTypes.toList,c.args.toList with
  | [t],[x]=>plen P t (ρ x)
  |_,_=>none
 | .builtin .min=>match c.args.toList with
  | [x,y]=>pmm true (ρ x) (ρ y)
  |_=>none
 | .builtin .max=>match c.args.toList with
  | [x,y]=>pmm false (ρ x) (ρ y)
  |_=>none
 | .value f=>match gZ P (ρ f) (eu ρ c.args.toList),h with
  |some (.enter g args),.o v=>some (v,some (W.cl g args v))
  |_,_=>none
 |_=>none
def ppk(a b:Operand)(g:Bool)(x y:Value):Option Value:=match b,x with
 | .const (.bool false),.bool x=>some (.bool (g&&x))
 |_,_=>match a,y with
  | .const (.bool true),.bool y=>some (.bool (g||y))
  |_,_=>ppick g x y
def optV{α:Type}(r:Option α):Option (α×Option Prop):=match r with
 |some v=>some (v,none)
 |none=>none
def W0(P:Program)(G0:Nat)(K:bJ)(H:Heap):FW:=⟨LDv P H,λg args v=>C P G0 K g args H λv' H'=>v'=v/\H'=H,λs t a n v=>du P s t a n H=some v,λt x lo hi v=>bC P t x lo hi none H=some v,λt m k ok v=>dU P t m k ok H=some v⟩
def WJ(P:Program)(G0:Nat)(K:bJ)(d_:Heap->Prop):FW:=⟨λt a v=> ∀H,d_ H->LDv P H t a v,λg args v=> ∀H,d_ H->C P G0 K g args H λv' H'=>v'=v/\d_ H',λs t a n v=> ∀H,d_ H->du P s t a n H=some v,λt x lo hi v=> ∀H,d_ H->bC P t x lo hi none H=some v,λt m k ok v=> ∀H,d_ H->dU P t m k ok H=some v⟩
structure FW.OK(P:Program)(G0:Nat)(K:bJ)(d_:Heap->Prop)(W:FW):Prop where
 ld: ∀{t a v},W.ld t a v->∀H,d_ H->LDv P H t a v
 cl: ∀{g args v},W.cl g args v->∀H,d_ H->C P G0 K g args H λv' H'=>v'=v/\d_ H'
 cv: ∀{s t a n v},W.cv s t a n v->∀H,d_ H->du P s t a n H=some v
 sl: ∀{t x lo hi v},W.sl t x lo hi v->∀H,d_ H->bC P t x lo hi none H=some v
 lk: ∀{t m k ok v},W.lk t m k ok v->∀H,d_ H->dU P t m k ok H=some v
theorem ok0{P G0 K H}:(W0 P G0 K H).OK P G0 K (· =H):=⟨λh _ e=>e▸h,λh _ e=>e▸h,λh _ e=>e▸h,λh _ e=>e▸h,λh _ e=>e▸h⟩
theorem okJ{P G0 K d_}:(WJ P G0 K d_).OK P G0 K d_:=⟨λh=>h,λh=>h,λh=>h,λh=>h,λh=>h⟩
def pop(P:Program)(W:FW)(h:Hint)(ρ:Operand->Value)(op:Op):VP:=match op with
 | .move x=>some (ρ x,none)
 | .assign x=>some (ρ x,none)
 | .binOp op t x y _=>pbin P h op t (ρ x) (ρ y)
 | .unOp op _ x=>pun h op (ρ x)
 | .convert s t x=>pconv P W h s t (ρ x)
 | .load t a=>match h with
  | .o v=>some (v,some (W.ld t (ρ a) v))
  |_=>none
 | .lookup t m x ok=>match h with
  | .o v=>some (v,some (W.lk t (ρ m) (ρ x) ok v))
  |_=>none
 | .index t x i=>pidx P t (ρ x) (ρ i)
 | .indexAddr t x i=>pidxA P t (ρ x) (ρ i)
 | .field t x f=>optV (jJ P t (ρ x) f)
 | .fieldAddr s x f=>optV (kh P s (ρ x) f)
 | .extract x i=>optV (iU (ρ x) i)
 | .build t parts=>match dm P t with
  |some _=>match bldL P t (eu (λp=>(p.1,ρ p.2)) parts.toList) with
   |some cs=>some (.agg ⟨cs⟩,none)
   |none=>optV (aD P (Instr.build t (parts.map λp=>(p.1,ρ p.2))))
  |none=>none
 | .slice t x lo hi none=>pslice P W h t (ρ x) (lo.map ρ) (hi.map ρ)
 | .call c=>pcall P W h ρ c
 | .nilCheck x=>match ρ x with
  | .pointer (some a)=>some (.pointer (some a),none)
  | .func (.func f) a c=>some (.func (.func f) a c,none)
  |_=>none
 | .makeFunc fn first cap=>some (.func fn (first.map ρ) (cap.map ρ),none)
 |_=>none
def pF(ops:Array Oper)(f:Fn)(S:SS):Option (Nat×Bool)->Option (Ch×List (Nat×Bool))
 |none=>some ([],S.G)
 |some (j,w)=>match (ops[j]?).bind (·.dst) with
  |some d=>match lk S.m d with
   |some (c,.bool g)=>some ((d,w)::c,na S.G d g)
   |some _=>none
   |none=>match f d with
    | .bool g=>some ([(d,w)],na S.G d g)
    |_=>none
  |none=>none
def putS(q:Option Prop)(c:Ch)(G:List (Nat×Bool))(m:List (Nat×Ch×Value))(d:Nat)(v:Value):Option (SS×Option Prop):=
 match gl G d with
 |some _=>none
 |none=>fcL G λG=>fcL c λc=>some (⟨(d,c,v)::m,G⟩,match q with
  |none=>none
  |some p=>some (impl G c p))
def fcC{β:Type}(v:Value)(k:Value->β):β:=match v with
 | .int a n=>k (.int a n)
 | .bool b=>k (.bool b)
 | .string ⟨⟨l⟩⟩=>k (.string ⟨⟨l⟩⟩)
 | .pointer a=>k (.pointer a)
 | .slice a n m=>k (.slice a n m)
 |v=>k v
theorem fcC_eq{β:Type}(v:Value)(k:Value->β):fcC v k=k v:=by cases v<;>rfl
def fcM{β:Type}:List Value->(List Value->β)->β
 | [],k=>k []
 |a::l,k=>fcC a λa=>fcM l λr=>k (a::r)
theorem fcM_eq{β:Type}: ∀(l:List Value) (k:List Value->β),fcM l k=k l
 | [],_=>rfl
 |a::l,k=>by unfold fcM;rw[fcC_eq,fcM_eq l]
def fcV{β:Type}(v:Value)(k:Value->β):β:=match v with
 | .agg ⟨l⟩=>fcM l λl=>k (.agg ⟨l⟩)
 |v=>fcC v k
theorem fcV_eq{β:Type}(v:Value)(k:Value->β):fcV v k=k v:=by
 unfold fcV;split
 ·exact fcM_eq _ _
 exact fcC_eq _ _
def fcH{β:Type}(h:Hint)(v:Value)(k:Value->β):β:=match h with
 | .o _=>k v
 |_=>fcV v k
theorem fcH_eq{β:Type}(h:Hint)(v:Value)(k:Value->β):fcH h v k=k v:=by cases h<;>first|rfl|exact fcV_eq _ _
def stepS(P:Program)(G0:Nat)(W:FW)(sz:Nat)(ops:Array Oper)(f:Fn)(S:SS)(h:Hint)(o:Oper):Option (SS×Option Prop):=
 match o.dst with
 |none=>none
 |some d=>
  bif Nat.ble (d+1) sz&&o.op.operands.toList.all (bc G0) then
   match pF ops f S o.guard with
   |none=>none
   |some (c,G1)=>
    match o.op with
    | .pick (.tmp s) a b=>
     match lk S.m s with
     |some (cc,.bool g)=>
      bif subC cc c&&(S.can ((s,true)::c) a&&S.can ((s,false)::c) b) then
       match ppk a b g (S.rd f a) (S.rd f b) with
       |some v=>fcV v λv=>putS none c (na G1 s g) S.m d v
       |none=>none
      else none
     |_=>none
    |op=>
     bif op.operands.toList.all (S.can c) then
      match pop P W h (S.rd f) op with
      |some (v,q)=>fcH h v λv=>putS q c G1 S.m d v
      |none=>none
     else none
  else none
def hintAt:List (Nat×Hint)->Nat->Hint
 | [],_=> .p
 |(i,h)::l,j=>bif Nat.beq i j then h else hintAt l j
def rgL(P:Program)(G0:Nat)(W:FW)(sz:Nat)(ops:Array Oper)(f:Fn)(hs:List (Nat×Hint)):Nat->List Oper->SS->Option (SS×Prop)
 |_,[],S=>some (S,True)
 |i,o::os,S=>match stepS P G0 W sz ops f S (hintAt hs i) o with
  |none=>none
  |some (S1,q)=>match rgL P G0 W sz ops f hs (i+1) os S1 with
   |none=>none
   |some (S2,p)=>some (S2,andO q p)
def fins(m:List (Nat×Ch×Value)):List Nat->Option (List (Nat×Value))
 | []=>some []
 |d::ds=>match lk m d,fins m ds with
  |some ([],v),some l=>some ((d,v)::l)
  |_,_=>none
def gB(P:Program)(G0:Nat)(W:FW)(sz:Nat)(ops:Array Oper)(f:Fn)(i:Nat)(os:List Oper)(hs:List (Nat×Hint))(lo hi:Nat)(ex:List Nat)(E:List Nat):Option (List (Nat×Value)×Prop):=
 match rgL P G0 W sz ops f hs i os ⟨[],[]⟩ with
 |none=>none
 |some (S,p)=>bif S.m.all (λe=>inR lo hi ex e.1) then
   match fins S.m E with
   |some l=>some (l,p)
   |none=>none
  else none
section
variable {P:Program} {G0:Nat} {K:bJ} {d_:Heap->Prop} {W:FW} {H:Heap} {ρ:Operand->Value} {d:Option Tmp} {ty:TypeId} {pos:String} {af:Array Edge} {gd:Option (Nat×Bool)} {v:Value} {q:Option Prop} {hi:Hint}
theorem oh{k:IntKind}{n:Int}(h:ari hi k n=some (v,q))(E:fe q):v= .int k (k.wrap n):=by
 unfold ari at h;split at h
 ·simp only[a01,a05]at h;exact h.1.symm
 ·cases h;obtain⟨rfl,O⟩:=E;rw[rng_wrap O]
 cases h;rw[rng_wrap E]
theorem bi_ok{k:IntKind}{n:Int}(h:bi hi k n=some (v,q))(O:fe q):v= .int k n:=by
 unfold bi at h;split at h
 ·cases h;have E:n=_:=O;rw[E]
 simp only[a01,a05]at h;exact h.1.symm
theorem lJ{p r}(h:withP p r=some (v,q))(E:fe q):p/\∃O,r=some (v,O)/\fe O:=by
 match r,h with
 |some (v',none),h=>
  simp only[withP,a01,a05]at h
  obtain⟨rfl,rfl⟩:=h
  exact⟨E,_,V,trivial⟩
 |some (v',some p'),h=>
  simp only[withP,a01,a05]at h
  obtain⟨rfl,rfl⟩:=h
  exact⟨E.1,_,V,E.2⟩
 |none,h=>simp[withP]at h
theorem beq0{b:Int}(hb:b≠0):(b==0)=false:=by simpa using hb
variable {x y:Operand} {t yt:TypeId}
theorem pint_ok{op}{k:IntKind}{a b:Int}(hx:ρ x= .int k a)(hy:ρ y= .int k b)(h:pint hi op k a b=some (v,q))(O:fe q):
  AP P ρ ⟨d,.binOp op t x y yt,ty,pos,af,gd⟩ H (.val v,H):=by
 have E: ∀{v':Value},mL op=false->nP op k a b=some v'->AP P ρ ⟨d,.binOp op t x y yt,ty,pos,af,gd⟩ H (.val v',H):=by intro v' hs hv;exact kc hx hy (by rw[hs,dR];exact hv)
 cases op with
 |add=>rw[oh (n:=a+b) h O];exact E V V
 |sub=>rw[oh (n:=a-b) h O];exact E V V
 |mul=>rw[oh (n:=a *b) h O];exact E V V
 |quo=>
  have⟨T,q',U,Z⟩:=lJ (p:=b≠0) (r:=ari hi k (a.tdiv b)) h O
  rw[oh U Z]
  exact E V (by show(bif b==0 then none else some (Value.int k (k.wrap (a.tdiv b))))=_;rw[beq0 T];rfl)
 |rem=>
  have⟨T,q',U,Z⟩:=lJ (p:=b≠0) (r:=bi hi k (a.tmod b)) h O
  rw[bi_ok U Z]
  exact E V (by show(bif b==0 then none else some (Value.int k (a.tmod b)))=_;rw[beq0 T];rfl)
 |and=>rw[bi_ok (n:=fj .and k a b) h O];exact E V V
 |or=>rw[bi_ok (n:=fj .or k a b) h O];exact E V V
 |xor=>rw[bi_ok (n:=fj .xor k a b) h O];exact E V V
 |andNot=>rw[bi_ok (n:=fj .andNot k a b) h O];exact E V V
 |shl=>cases h
 |shr=>cases h
 |_=>
  simp only[pint,a01,a05]at h
  obtain⟨rfl,_⟩:=h
  exact E V V
theorem bool_run{a b}(h:isBT P t=true):aD P (eZ .eql t x y a b)=some (.value (.bool (a==b)))/\aD P (eZ .neq t x y a b)=some (.value (.bool (a !=b))):=by
 unfold isBT at h;split at h
 ·rename_i U;have Z:P.eqGuardType P.depth t=false:=by simpa using h
  have O:aD P (eqGuard .eql t x y (.bool a) (.bool b))=some ():=by simp[eqGuard]
  have T:aD P (eqGuard .neq t x y (.bool a) (.bool b))=some ():=by simp[eqGuard]
  have E:aD P (Op.equal t (.bool a) (.bool b))=some (a==b):=eqB (d:=9999) U;constructor
  ·unfold eZ;simp only[aJ,O,a0q];have:aD P (binOp .eql t (.bool a) (.bool b))=some (Value.bool (a==b)):=by show aD P (Op.equal t (.bool a) (.bool b)>>=λb=>(Pure.pure (Value.bool b):Sem Value))=_;rw[aJ,E];rfl
   rw[this];rfl
  unfold eZ;simp only[aJ,T,a0q];have:aD P (binOp .neq t (.bool a) (.bool b))=some (Value.bool (a !=b)):=by show aD P (Op.equal t (.bool a) (.bool b)>>=λb=>(Pure.pure (Value.bool (!b)):Sem Value))=_;rw[aJ,E];rfl
  rw[this];rfl
 cases h
theorem pbin_ok{op a b}(E:ρ x=a)(O:ρ y=b)(h:pbin P hi op t a b=some (v,q))(hq:fe q):
  AP P ρ ⟨d,.binOp op t x y yt,ty,pos,af,gd⟩ H (.val v,H):=by
 have U: ∀(a b:Value) (r:Bool),ρ x=a->ρ y=b->(∃p,a= .pointer p)\/(∃p n k,a= .slice p n k)->nilEq P t a b=some r->(op= .eql->v= .bool r)->(op= .neq->v= .bool (!r))->(op= .eql\/op= .neq)->
   AP P ρ ⟨d,.binOp op t x y yt,ty,pos,af,gd⟩ H (.val v,H):=by
  intro a b r E O ha T h1 h2 h3
  refine⟨?_⟩
  show aBin P ρ _ op t (ρ x) y H=_
  have:aBin P ρ ⟨d,.binOp op t x y yt,ty,pos,af,gd⟩ op t (ρ x) y H=nilBin op (nilEq P t a b) H:=by rw[E];rcases ha with⟨p,rfl⟩|⟨p,n,k,rfl⟩<;>(rw[←O];rfl)
  rw[this,T]
  rcases h3 with rfl|rfl
  ·rw[h1 rfl];rfl
  rw[h2 rfl];rfl
 unfold pbin at h
 split at h
 ·--integers
  split at h
  ·have⟨h1,q',h2,h3⟩:=lJ h hq;rw[bi_ok h2 h3];exact ap_shl E O h1
  ·have⟨h1,q',h2,h3⟩:=lJ h hq;rw[bi_ok h2 h3];exact ap_shr E O h1
  rename_i k a k' b _ _ _;cases hk:kq k k' with
  |false=>rw[hk]at h;cases h
  |true=>
   rw[hk]at h
   have:=kq_eq hk;subst this
   exact pint_ok E O h hq
 ·split at h<;>simp only[a01,a05,reduceCtorEq]at h
  ·obtain⟨rfl,_⟩:=h;exact ap_eqS E O
  ·obtain⟨rfl,_⟩:=h;exact ap_neS E O
  ·obtain⟨rfl,_⟩:=h;exact ap_ltS E O
  ·obtain⟨rfl,_⟩:=h;exact ap_leS E O
  obtain⟨rfl,rfl⟩:=h;exact pL E O hq
 ·cases Z:isBT P t with
  |false=>rw[Z]at h;cases h
  |true=>
   rw[Z]at h
   simp only[cond_true]at h
   split at h<;>simp only[a01,a05,reduceCtorEq]at h
   ·obtain⟨rfl,_⟩:=h;exact ap_boolEq E O (λa b=>(bool_run Z).1)
   obtain⟨rfl,_⟩:=h;exact ap_boolNe E O (λa b=>(bool_run Z).2)
 ·split at h<;>simp only[a01,a05,reduceCtorEq]at h;obtain⟨rfl,rfl⟩:=h;exact hq ρ x y yt d ty pos af gd H E O
 ·split at h<;>simp only[a01,a05,reduceCtorEq]at h
  ·rename_i T;obtain⟨rfl,_⟩:=h;exact U _ _ _ E O (.inl ⟨_,V⟩) T (λ_=>rfl) (λe=>by cases e) (.inl V)
  rename_i T;obtain⟨rfl,_⟩:=h;exact U _ _ _ E O (.inl ⟨_,V⟩) T (λe=>by cases e) (λ_=>rfl) (.inr V)
 ·split at h<;>simp only[a01,a05,reduceCtorEq]at h
  ·rename_i T;obtain⟨rfl,_⟩:=h;exact U _ _ _ E O (.inr ⟨_,_,_,V⟩) T (λ_=>rfl) (λe=>by cases e) (.inl V)
  rename_i T;obtain⟨rfl,_⟩:=h;exact U _ _ _ E O (.inr ⟨_,_,_,V⟩) T (λe=>by cases e) (λ_=>rfl) (.inr V)
 cases h
theorem pun_ok{op a}(E:ρ x=a)(h:pun hi op a=some (v,q))(O:fe q):AP P ρ ⟨d,.unOp op t x,ty,pos,af,gd⟩ H (.val v,H):=by
 unfold pun at h;split at h
 ·simp only[a01,a05]at h;obtain⟨rfl,_⟩:=h;exact bY E
 ·rw[oh h O];exact ap_neg E
 ·rw[bi_ok h O];exact ap_cpl E
 cases h
theorem pconv_ok(hW:W.OK P G0 K d_)(hH:d_ H){s:TypeId}{a}(T:ρ x=a)(h:pconv P W hi s t a=some (v,q))(E:fe q):AP P ρ ⟨d,.convert s t x,ty,pos,af,gd⟩ H (.val v,H):=by
 unfold pconv at h;split at h
 ·split at h
  ·rename_i U Z;rw[oh h E];exact ap_conv T U Z
  cases h
 ·split at h
  ·cases h;refine⟨?_⟩;show gj P ρ _ s t (ρ x) H=_;rw[T];show ovl (du P s t _ _ H) H=_;have O:du P s t _ _ H=_:=hW.cv E H hH;rw[O];rfl
  cases h
 cases h
theorem ppick_ok{g a b v}(h:ppick g a b=some v):v=bif g then a else b:=by
 unfold ppick at h;split at h
 ·simp only[a01]at h;subst h;cases g<;>rfl
 ·rename_i k x O y;cases E:kq k O with
  |false=>rw[E]at h;cases h
  |true=>
   rw[E]at h
   have:=kq_eq E;subst this
   simp only[cond_true,a01]at h;subst h;cases g<;>rfl
 ·simp only[a01]at h;subst h;cases g<;>rfl
 cases h
theorem ppk_ok{g:Bool}{a b:Operand}{v:Value}{r:Operand->Value}(hc: ∀w,r (.const w)=w)(h:ppk a b g (r a) (r b)=some v):v=bif g then r a else r b:=by
 unfold ppk at h;split at h
 ·rename_i x e;simp only[a01]at h;subst h;rw[hc,e];cases g<;>rfl
 split at h
 ·rename_i y e _;simp only[a01]at h;subst h;rw[hc,e];cases g<;>rfl
 exact ppick_ok h
theorem pidx_ok{i a b}(T:ρ x=a)(E:ρ i=b)(h:pidx P t a b=some (v,q))(U:fe q):AP P ρ ⟨d,.index t x i,ty,pos,af,gd⟩ H (.val v,H):=by
 unfold pidx at h;split at h
 ·rename_i s _ j;split at h
  ·rename_i O;cases h;have⟨Z,q2⟩:=U;have q3:j<(J s:Int):=q2;exact gv T E O Z (aT M)
  cases h
 ·split at h
  ·rename_i O;cases h;exact ap_ixG T E O
  cases h
 cases h
theorem pidxA_ok{i a b}(hx:ρ x=a)(E:ρ i=b)(h:pidxA P t a b=some (v,q))(Z:fe q):AP P ρ ⟨d,.indexAddr t x i,ty,pos,af,gd⟩ H (.val v,H):=by
 unfold pidxA at h;split at h
 ·split at h
  ·rename_i O;split at h
   ·rename_i T;cases h;have⟨b,o,n,k,e,U,q2,q3⟩:=Z;cases e
    exact lm hx E O T U q2 q3
   cases h
  cases h
 ·split at h
  ·rename_i O;split at h
   ·rename_i T;cases h;have⟨U,q2⟩:=Z;refine⟨?_⟩;rename_i kk j n e z _;obtain⟨m,rfl⟩:=a0T U;show ovl (cV P t (ρ x) (ρ i)) H=_;rw[hx,E];unfold cV;rw[O];have h3:Nat.ble (m+1) n=true:=a0z M;show ovl (match dL P e with|some sz=>bif Nat.ble (m+1) n then some (.pointer (some ⟨_,_+m *sz,none⟩)) else none|none=>none) H=_;rw[T];simp only[h3,cond_true];rfl
   cases h
  cases h
 cases h
theorem sl_str{lo hi s i j}(hx:ρ x= .string s)(Z:P.underlying t=some .string)(O:cy (J s.data.toList) (hi.map ρ)=some j)(T:cy 0 (lo.map ρ)=some i)(E:i<=j)(U:j<=J s.data.toList):
  AP P ρ ⟨d,.slice t x lo hi none,ty,pos,af,gd⟩ H (.val (.string ⟨⟨(s.data.toList.drop i).take (j-i)⟩⟩),H):=by
 have⟨⟨s⟩⟩:=s
 exact ap_slS hx Z O T E U
theorem pslice_ok(hW:W.OK P G0 K d_)(hH:d_ H){lo E a}(U:ρ x=a)(h:pslice P W hi t a (lo.map ρ) (E.map ρ)=some (v,q))(hq:fe q):AP P ρ ⟨d,.slice t x lo E none,ty,pos,af,gd⟩ H (.val v,H):=by
 unfold pslice at h;split at h
 ·rename_i s;split at h
  ·rename_i h1;split at h
   ·rename_i O T;cases h;have:=sl_str (d:=d) (ty:=ty) (pos:=pos) (af:=af) (gd:=gd) (H:=H) (lo:=lo) (hi:=E) (i:=0) (s:=⟨⟨s⟩⟩) (j:=J s) U h1 (by rw[T];rfl) (by rw[O];rfl) (a0h _) (a07 _);rw[a0R,Nat.sub_zero,a0W]at this;exact this
   ·rename_i k i O T;cases h;have⟨Z,q2⟩:=hq;have:=sl_str (d:=d) (ty:=ty) (pos:=pos) (af:=af) (gd:=gd) (H:=H) (lo:=lo) (hi:=E) (i:=i.toNat) (s:=⟨⟨s⟩⟩) (j:=J s) U h1 (by rw[T];rfl) (by rw[O];exact optN Z) M (a07 _);rw[a0s (by rw[a17];exact a07 _)]at this;exact this
   ·rename_i k j O T;cases h;have⟨Z,q2⟩:=hq;have:=sl_str (d:=d) (ty:=ty) (pos:=pos) (af:=af) (gd:=gd) (H:=H) (lo:=lo) (hi:=E) (i:=0) (j:=j.toNat) (s:=⟨⟨s⟩⟩) U h1 (by rw[T];exact optN Z) (by rw[O];rfl) (a0h _) (show j.toNat<=(J s) by omega);simpa using this
   ·rename_i k i k' j O T;cases h;have⟨Z,q2,q3⟩:=hq;exact sl_str U h1 (by rw[T];exact optN M) (by rw[O];exact optN Z) M (show j.toNat<=(J s) by omega)
   cases h
  cases h
 split at h
 ·cases h;refine⟨?_⟩;show ovl (bC P t (ρ x) (lo.map ρ) (E.map ρ) (Option.map ρ none) H) H=_;have ar:bC P t _ (lo.map ρ) (E.map ρ) none H=_:=hW.sl hq H hH;rw[U,a1P,ar];rfl
 cases h
theorem plen_ok{a}(O:ρ x=a)(h:plen P t a=some (v,q)):AP P ρ ⟨d,.call ⟨.builtin .len, #[x], #[t]⟩,ty,pos,af,gd⟩ H (.val v,H):=by
 unfold plen at h;split at h
 ·rename_i s;split at h
  ·rename_i E;cases h;exact gu O E
  cases h
 ·split at h
  ·rename_i E;cases h;refine⟨?_⟩;show ovl (aLen P t (ρ x) H) H=_;rw[O];unfold aLen;rw[E];rfl
  cases h
 cases h
inductive PRes(P:Program)(G0:Nat)(K:bJ)(d_:Heap->Prop)(ρ:Operand->Value)(o:Oper)(H:Heap)(v:Value):Prop where
 |val (h:AP P ρ o H (.val v,H))
 |call (g:FuncId) (args:List Value) (h:AP P ρ o H (.enter g args,H)) (hk:ij o.op=true) (hc:C P G0 K g args H λv' H'=>v'=v/\d_ H')
theorem nM{ρ ρ':Operand->Value}: ∀{l:List Operand},(∀x,x∈l->ρ x=ρ' x)->eu ρ l=eu ρ' l
 | [],_=>rfl
 |x::l,h=>by show ρ x::eu ρ l=ρ' x::eu ρ' l;rw[h x (by simp),nM λy E=>h y (by simp[E])]
theorem pmm_ok{w y E a b}(O:ρ x=a)(T:ρ y=b)(h:pmm w a b=some (v,q)):AP P ρ ⟨d,.call ⟨.builtin (bif w then .min else .max), #[x,y],E⟩,ty,pos,af,gd⟩ H (.val v,H):=by
 unfold pmm at h;split at h
 ·rename_i k n k' m;cases h;have h1:([ρ x,ρ y].all λz=>jN z)=true:=by simp[O,T,jN,dG]
  cases w with
  |true=>
   refine⟨?_⟩
   show bB P ρ ⟨d,.call ⟨.builtin .min, #[x,y],E⟩,ty,pos,af,gd⟩ H=_
   unfold bB
   have Z:((Op.call ⟨.builtin .min, #[x,y],E⟩).operands.toList.all λx=>jN (ρ x))=true:=by simp[Op.operands,Call.operands,O,T,jN,dG]
   simp only[Z,cond_true]
   have U:aD P (execOp ρ ⟨d,.call ⟨.builtin .min, #[x,y],E⟩,ty,pos,af,gd⟩)=some (.value (.int k (if m<n then m else n))):=by unfold execOp;simp[resolve,invoke,builtin,Builtin.min_,Builtin.min2,O,T]
   rw[U];rfl
  |false=>
   refine⟨?_⟩
   show bB P ρ ⟨d,.call ⟨.builtin .max, #[x,y],E⟩,ty,pos,af,gd⟩ H=_
   unfold bB
   have Z:((Op.call ⟨.builtin .max, #[x,y],E⟩).operands.toList.all λx=>jN (ρ x))=true:=by simp[Op.operands,Call.operands,O,T,jN,dG]
   simp only[Z,cond_true]
   have U:aD P (execOp ρ ⟨d,.call ⟨.builtin .max, #[x,y],E⟩,ty,pos,af,gd⟩)=some (.value (.int k (if m>n then m else n))):=by unfold execOp;simp[resolve,invoke,builtin,Builtin.max_,Builtin.max2,O,T]
   rw[U];rfl
 cases h
theorem pcall_ok(hW:W.OK P G0 K d_)(hH:d_ H){ρ ρ' c}(E: ∀x,x∈(Op.call c).operands.toList->ρ x=ρ' x)(h:pcall P W hi ρ' c=some (v,q))(hq:fe q):
  PRes P G0 K d_ ρ ⟨d,.call c,ty,pos,af,gd⟩ H v:=by
 have⟨T,args,O⟩:=c
 cases T with
 |builtin b=>
  cases b with
  |len=>
   have⟨O⟩:=O
   have⟨args⟩:=args
   simp only[pcall]at h
   split at h
   ·exact .val (plen_ok (E _ (by simp[Op.operands,Call.operands])) h)
   cases h
  |min=>
   have⟨args⟩:=args
   simp only[pcall]at h
   split at h
   ·exact .val (pmm_ok (E _ (by simp[Op.operands,Call.operands])) (E _ (by simp[Op.operands,Call.operands])) h)
   cases h
  |max=>
   have⟨args⟩:=args
   simp only[pcall]at h
   split at h
   ·exact .val (pmm_ok (E _ (by simp[Op.operands,Call.operands])) (E _ (by simp[Op.operands,Call.operands])) h)
   cases h
  |_=>cases h
 |value f=>
  simp only[pcall]at h
  split at h
  ·rename_i Z;cases h;refine .call _ _ ⟨?_⟩ V (hW.cl hq H hH);show gS (gZ P (ρ f) (eu ρ args.toList)) H=_;rw[E f (by simp[Op.operands,Call.operands]),nM (ρ':=ρ') (λx U=>E x (by simp[Op.operands,Call.operands]at U⊢;exact .inr U)),Z];rfl
  cases h
 |invoke r m=>cases h
theorem pop_ok(hW:W.OK P G0 K d_)(Z:d_ H){ρ ρ' op}(E: ∀x,x∈op.operands.toList->ρ x=ρ' x)(h:pop P W hi ρ' op=some (v,q))(U:fe q):
  PRes P G0 K d_ ρ ⟨d,op,ty,pos,af,gd⟩ H v:=by
 cases op with
 |move x=>
  simp only[pop,a01,a05]at h;obtain⟨rfl,rfl⟩:=h
  exact .val (ap_move (E x (by simp[Op.operands])))
 |assign x=>
  simp only[pop,a01,a05]at h;obtain⟨rfl,rfl⟩:=h
  exact .val (m4 (E x (by simp[Op.operands])))
 |binOp op t x y yt=>exact .val (pbin_ok (E x (by simp[Op.operands])) (E y (by simp[Op.operands])) h U)
 |unOp op t x=>exact .val (pun_ok (E x (by simp[Op.operands])) h U)
 |convert s t x=>exact .val (pconv_ok hW Z (E x (by simp[Op.operands])) h U)
 |load t a=>
  simp only[pop]at h
  split at h
  ·cases h;refine .val ⟨?_⟩;show fh P t (ρ a) H=_;rw[E a (by simp[Op.operands])];exact hW.ld U H Z
  cases h
 |lookup t m x ok=>
  simp only[pop]at h
  split at h
  ·cases h;refine .val ⟨?_⟩;show ovl (dU P t (ρ m) (ρ x) ok H) H=_;rw[E m (by simp[Op.operands]),E x (by simp[Op.operands]),hW.lk U H Z];rfl
  cases h
 |index t x i=>exact .val (pidx_ok (E x (by simp[Op.operands])) (E i (by simp[Op.operands])) h U)
 |indexAddr t x i=>exact .val (pidxA_ok (E x (by simp[Op.operands])) (E i (by simp[Op.operands])) h U)
 |field t x f=>
  simp only[pop,optV]at h
  split at h
  ·rename_i O;cases h;exact .val (ap_fv (E x (by simp[Op.operands])) O)
  cases h
 |fieldAddr s x f=>
  simp only[pop,optV]at h
  split at h
  ·rename_i O;cases h;refine .val ⟨?_⟩;show ovl (kh P s (ρ x) f) H=_;rw[E x (by simp[Op.operands]),O];rfl
  cases h
 |extract x i=>
  simp only[pop,optV]at h
  split at h
  ·rename_i O;cases h;exact .val (ap_ex (E x (by simp[Op.operands])) O)
  cases h
 |build t parts=>
  have an:parts.map (λp=>(p.1,ρ p.2))=parts.map (λp=>(p.1,ρ' p.2)):=by apply a21;intro p hp;rw[E p.2 (by simp only[Op.operands,a0B];exact⟨p,by simpa using hp,V⟩)]
  simp only[pop,optV]at h
  split at h
  ·rename_i z hz;split at h
   ·rename_i cs O;cases h;exact .val (lp an hz (bldL_ok (by rw[ju]at O;rw[a1X];exact O)))
   split at h
   ·rename_i O;cases h;exact .val (lp an hz O)
   cases h
  cases h
 |slice t x lo hi2 mx=>
  cases mx with
  |some _=>simp only[pop]at h;cases h
  |none=>
   simp only[pop]at h
   have e1:lo.map ρ=lo.map ρ':=by
    cases lo with
    |none=>rfl
    |some o=>simp only[a1N];rw[E o (by simp[Op.operands])]
   have e2:hi2.map ρ=hi2.map ρ':=by
    cases hi2 with
    |none=>rfl
    |some o=>simp only[a1N];rw[E o (by simp[Op.operands])]
   rw[←e1,←e2]at h
   exact .val (pslice_ok hW Z (E x (by simp[Op.operands])) h U)
 |call c=>exact pcall_ok hW Z E h U
 |nilCheck x=>
  simp only[pop]at h
  have T:=E x (by simp[Op.operands])
  split at h
  ·rename_i a ha;cases h;refine .val ⟨?_⟩;show opNil (ρ x) H=_;rw[T,ha];rfl
  ·rename_i f a c ha;cases h;refine .val ⟨?_⟩;show opNil (ρ x) H=_;rw[T,ha];rfl
  cases h
 |makeFunc fn first cap=>
  simp only[pop,a01,a05]at h;obtain⟨rfl,rfl⟩:=h
  refine .val ⟨?_⟩
  show some (AN.val (.func fn (first.map ρ) (cap.map ρ)),H)=_
  have e1:first.map ρ=first.map ρ':=a21 λx T=>E x (by simp[Op.operands]at T⊢;first|exact .inl T|exact .inr T)
  have e2:cap.map ρ=cap.map ρ':=a21 λx T=>E x (by simp[Op.operands]at T⊢;first|exact .inl T|exact .inr T)
  rw[e1,e2]
 |_=>cases h
end
structure SS.Rel(S:SS)(f fr:Fn):Prop where
 sl: ∀t c v,lk S.m t=some (c,v)->fr t=(bif act S.G c then v else undef)
 no: ∀t,lk S.m t=none->fr t=f t
 gs: ∀s g,gl S.G s=some g->(∃c,lk S.m s=some (c,.bool g))\/(lk S.m s=none/\f s= .bool g)
 ks: ∀t c v,lk S.m t=some (c,v)->∀s w,(s,w)∈c->∃g,gl S.G s=some g
theorem gl_add{G d s g r}(h:gl G s=some r):gl (na G d g) s=some r:=by
 unfold na;split
 ·exact h
 rename_i E;show(bif Nat.beq d s then some g else gl G s)=_;cases hb:Nat.beq d s with
 |true=>have:=a0a hb;subst this;rw[E]at h;cases h
 |false=>exact h
theorem mN{G d g}(h: ∀r,gl G d=some r->r=g):gl (na G d g) d=some g:=by
 unfold na;split
 ·rename_i r E;rw[E,h r E]
 show(bif Nat.beq d d then some g else gl G d)=_;rw[a0Y];rfl
theorem gl_add_inv{G d s g r}(h:gl (na G d g) s=some r):gl G s=some r\/(s=d/\r=g):=by
 unfold na at h;split at h
 ·exact .inl h
 have E:(bif Nat.beq d s then some g else gl G s)=some r:=h;cases hb:Nat.beq d s with
 |true=>rw[hb]at E;exact .inr ⟨(a0a hb).symm,(Option.some.inj E).symm⟩
 |false=>rw[hb]at E;exact .inl E
theorem pP{G d g}: ∀{c:Ch},(∀s w,(s,w)∈c->∃r,gl G s=some r)->act (na G d g) c=act G c
 | [],_=>rfl
 |(s,w)::c,h=>by
  have⟨r,E⟩:=h s w (by simp);show((match gl (na G d g) s with|some g=>bq g w|none=>false)&&act (na G d g) c)=((match gl G s with|some g=>bq g w|none=>false)&&act G c)
  rw[gl_add E,E,pP λs w O=>h s w (by simp[O])]
theorem act_mem{G}: ∀{c:Ch} {s:Nat} {w:Bool},act G c=true->memC s w c=true->gl G s=some w
 |(s',w')::c,s,w,h,E=>by
  simp only[act,a04]at h;simp only[memC,a0E,a04]at E;rcases E with⟨Z,h2⟩|E
  ·have T:=a0a Z;have U:=bq_eq h2;subst T U;have O:=h.1;split at O
   ·rename_i g hg;rw[hg,bq_eq O]
   cases O
  exact act_mem h.2 E
 | [],s,w,_,E=>by cases E
theorem act_sub{G}: ∀{a c:Ch},act G c=true->subC a c=true->act G a=true
 | [],_,_,_=>rfl
 |(s,w)::a,c,h,hs=>by simp only[subC,a04]at hs;have E:=act_mem h hs.1;simp only[act,E,act_sub h hs.2,a0D];cases w<;>rfl
theorem impl_act{G p}: ∀{c:Ch},act G c=true->impl G c p->p
 | [],_,h=>h
 |(s,w)::c,ha,h=>by
  simp only[act,a04]at ha;have⟨E,O⟩:=ha;unfold impl at h;split at E
  ·rename_i g T;rw[T]at h;exact impl_act O (h (bq_eq E))
  cases E
section
variable {P:Program} {G0:Nat} {K:bJ} {d_:Heap->Prop} {W:FW} {sz:Nat} {Q:Ex->Fn->Heap->Prop} {ops:Array Oper} {os:List Oper} {k:List Fr} {f fr:Fn} {H:Heap} {S S':SS}
theorem SS.Rel.add(h:S.Rel f fr){d g}(hd:(∃c,lk S.m d=some (c,.bool g))\/(lk S.m d=none/\f d= .bool g)):SS.Rel ⟨S.m,na S.G d g⟩ f fr:=by
 refine⟨λt c v E=>?_,h.no,λs r O=>?_,λt c v E s w T=>?_⟩
 ·rw[h.sl t c v E];show _=bif act (na S.G d g) c then v else undef
  rw[pP (h.ks t c v E)]
 ·rcases gl_add_inv O with h1|⟨rfl,rfl⟩
  ·exact h.gs s r h1
  exact hd
 have⟨r,O⟩:=h.ks t c v E s w T;exact⟨r,gl_add O⟩
theorem SS.Rel.same(h:S.Rel f fr){d g}(hd:(∃c,lk S.m d=some (c,.bool g))\/(lk S.m d=none/\f d= .bool g)): ∀r,gl S.G d=some r->r=g:=by
 intro r Z;rcases h.gs d r Z with⟨c,O⟩|⟨O,U⟩<;>rcases hd with⟨c',E⟩|⟨E,T⟩
 ·rw[O]at E;simp only[a01,a05,Value.bool.injEq]at E;exact E.2
 ·rw[O]at E;cases E
 ·rw[O]at E;cases E
 rw[U]at T;simpa using T
structure GOK(ops:Array Oper)(f fr:Fn)(S:SS)(g:Option (Nat×Bool))(c:Ch)(G1:List (Nat×Bool)):Prop where
 rel:SS.Rel ⟨S.m,G1⟩ f fr
 ks: ∀s w,(s,w)∈c->∃g,gl G1 s=some g
 on:act G1 c=true->match g with
  |none=>True
  |some (j,w)=>cZ ops fr j=some w
 off:act G1 c=false->match g with
  |none=>False
  |some (j,w)=>cZ ops fr j=none\/cZ ops fr j=some (!w)
theorem gV(hr:S.Rel f fr){g c G1}(h:pF ops f S g=some (c,G1)):GOK ops f fr S g c G1:=by
 unfold pF at h;split at h
 ·cases h;exact⟨hr,λs w T=>by simp at T,λ_=>trivial,λh=>by cases h⟩
 rename_i j w;split at h
 ·rename_i d hd;have key: ∀(E:Ch) (γ:Bool),((∃c,lk S.m d=some (c,.bool γ))\/(lk S.m d=none/\f d= .bool γ))->(∀s w,(s,w)∈E->∃g,gl S.G s=some g)->(fr d=bif act S.G E then .bool γ else undef)->GOK ops f fr S (some (j,w)) ((d,w)::E) (na S.G d γ):=by
   intro E γ ar ax O;have hG:=mN (G:=S.G) (d:=d) (g:=γ) (hr.same ar);have ha:act (na S.G d γ) ((d,w)::E)=(bq γ w&&act S.G E):=by show((match gl (na S.G d γ) d with|some g=>bq g w|none=>false)&&act (na S.G d γ) E)=_;rw[hG,pP ax]
   have hy: ∀v,fr d=v->cZ ops fr j=match v with| .bool b=>some b|_=>none:=by intro v hv;unfold cZ;rw[hd];show(match fr d with| .bool b=>some b|_=>none)=_;rw[hv]
   refine⟨hr.add ar,λs w' T=>?_,λan=>?_,λU=>?_⟩
   ·rcases a0n.1 T with e|T
    ·injection e with e1 e2;subst e1;exact⟨γ,hG⟩
    have⟨r,a4⟩:=ax s w' T;exact⟨r,gl_add a4⟩
   ·rw[ha,a04]at an;rw[an.2]at O;show cZ ops fr j=some w;rw[hy _ O,bq_eq an.1];rfl
   rw[ha]at U;show cZ ops fr j=none\/cZ ops fr j=some (!w);cases hc:act S.G E with
   |false=>rw[hc]at O;left;rw[hy _ O];rfl
   |true=>
    rw[hc]at O U
    right
    rw[hy _ O]
    cases γ<;>cases w<;>first|rfl|cases U
  split at h
  ·rename_i E γ Z;cases h;exact key E γ (.inl ⟨_,Z⟩) (hr.ks d E _ Z) (hr.sl d E _ Z)
  ·cases h
  rename_i Z;split at h
  ·rename_i γ hf;cases h;exact key [] γ (.inr ⟨Z,hf⟩) (λs w T=>by simp at T) (by rw[hr.no d Z,hf];rfl)
  cases h
 cases h
theorem mu{m G q q' c d v}(Z:SS.Rel ⟨m,G⟩ f fr)(hk: ∀s w,(s,w)∈c->∃g,gl G s=some g)(h:putS q c G m d v=some (S',q')):
  SS.Rel S' f (upd fr d (bif act G c then v else undef))/\(fe q'->act G c=true->fe q):=by
 unfold putS at h
 simp only[nU]at h
 split at h
 ·cases h
 rename_i hd
 cases h
 refine⟨⟨λt O v' T=>?_,λt T=>?_,λs g hg=>?_,λt O v' T s w hm=>?_⟩,λhq ha=>?_⟩
 ·have E:(bif Nat.beq d t then some (c,v) else lk m t)=some (O,v'):=T;unfold upd;cases hb:Nat.beq d t with
  |true=>
   rw[hb]at E
   simp only[cond_true,a01,a05]at E
   obtain⟨rfl,rfl⟩:=E
   rfl
  |false=>rw[hb]at E;exact Z.sl t O v' E
 ·have E:(bif Nat.beq d t then some (c,v) else lk m t)=none:=T;unfold upd;cases hb:Nat.beq d t with
  |true=>rw[hb]at E;cases E
  |false=>rw[hb]at E;exact Z.no t E
 ·have ar:Nat.beq d s=false:=by
   cases hb:Nat.beq d s with
   |false=>rfl
   |true=>have:=a0a hb;subst this;rw[hd]at hg;cases hg
  have e:lk ((d,c,v)::m) s=lk m s:=by show(bif Nat.beq d s then some (c,v) else lk m s)=_;rw[ar];rfl
  rcases Z.gs s g hg with⟨c0,U⟩|U
  ·exact .inl ⟨c0,e.trans U⟩
  exact .inr ⟨e.trans U.1,U.2⟩
 ·have E:(bif Nat.beq d t then some (c,v) else lk m t)=some (O,v'):=T;cases hb:Nat.beq d t with
  |true=>
   rw[hb]at E
   simp only[cond_true,a01,a05]at E
   obtain⟨rfl,rfl⟩:=E
   exact hk s w hm
  |false=>rw[hb]at E;exact Z.ks t O v' E s w hm
 cases q with
 |none=>trivial
 |some p=>exact impl_act ha hq
theorem rd_ok(T:S.Rel f fr){c}(ha:act S.G c=true){x}(Z:S.can c x=true):dE fr x=S.rd f x:=by
 cases x with
 |tmp t=>
  show fr t=match lk S.m t with|some x=>x.2|none=>f t
  have E:(match lk S.m t with|some x=>subC x.1 c|none=>true)=true:=Z
  cases O:lk S.m t with
  |none=>exact T.no t O
  |some y=>
   have⟨U,v⟩:=y
   rw[O]at E
   rw[T.sl t U v O,act_sub ha E];rfl
 |_=>rfl
theorem iJ(hW:W.OK P G0 K d_){o q hi}(hr:S.Rel f fr)(h:stepS P G0 W sz ops f S hi o=some (S',q))(hq:fe q):
  ∃d c O v,o.dst=some d/\Nat.ble (d+1) sz=true/\o.op.operands.toList.all (bc G0)=true/\pF ops f S o.guard=some (c,O)/\
   (act O c=true->∀H,d_ H->PRes P G0 K d_ (dE fr) ⟨some d,o.op,o.type,o.pos,o.after,none⟩ H v)/\SS.Rel S' f (upd fr d (bif act O c then v else undef)):=by
 unfold stepS at h
 simp only[fcH_eq,fcV_eq]at h
 split at h
 ·cases h
 rename_i d hd
 cases hb:(Nat.ble (d+1) sz&&o.op.operands.toList.all (bc G0)) with
 |false=>rw[hb]at h;cases h
 |true=>
  rw[hb]at h
  simp only[cond_true]at h
  rw[a04]at hb
  split at h
  ·cases h
  rename_i c O hc
  have T:=gV hr hc
  split at h
  ·rename_i s a b a4;split at h
   ·rename_i cc γ hl;cases E:(subC cc c&&(S.can ((s,true)::c) a&&S.can ((s,false)::c) b)) with
    |false=>rw[E]at h;cases h
    |true=>
     rw[E]at h
     simp only[cond_true]at h
     simp only[a04]at E
     split at h
     ·rename_i v hv;have ax:(∃c,lk S.m s=some (c,.bool γ))\/(lk S.m s=none/\f s= .bool γ):= .inl ⟨_,hl⟩;have al:=SS.Rel.add (S:=⟨S.m,O⟩) T.rel (d:=s) (g:=γ) ax;have hG:=mN (G:=O) (d:=s) (g:=γ) (T.rel.same ax);have aA: ∀s' w,(s',w)∈c->∃g,gl (na O s γ) s'=some g:=λs' w hm=>by have⟨r,a5⟩:=T.ks s' w hm;exact⟨r,gl_add a5⟩
      have U:act (na O s γ) c=act O c:=pP T.ks;have⟨h1,_⟩:=mu al aA h;rw[U]at h1;refine⟨d,c,O,v,hd,hb.1,hb.2,hc,λha H hH=>?_,h1⟩;refine .val ⟨?_⟩;rw[a4];show il (dE fr) (.tmp s) a b H=_;have e0:dE fr (.tmp s)= .bool γ:=by have:=T.rel.sl s cc _ hl;rw[act_sub ha E.1]at this;exact this
      unfold il;rw[e0];show some (AN.val (bif γ then dE fr a else dE fr b),H)=_;rw[ppk_ok (λ_=>rfl) hv];have Z: ∀(w:Bool) (x:Operand),γ=w->S.can ((s,w)::c) x=true->dE fr x=S.rd f x:=by intro w x hw hx;have a6:SS.Rel ⟨S.m,na O s γ⟩ f fr:=al;refine rd_ok a6 ?_ hx;show((match gl (na O s γ) s with|some g=>bq g w|none=>false)&&act (na O s γ) c)=true;rw[hG,U,ha,hw];cases w<;>rfl
      cases γ with
      |true=>rw[cond_true,cond_true,Z true a V E.2.1]
      |false=>rw[cond_false,cond_false,Z false b V E.2.2]
     cases h
   cases h
  cases E:o.op.operands.toList.all (S.can c) with
  |false=>rw[E]at h;cases h
  |true=>
   rw[E]at h
   simp only[cond_true]at h
   split at h
   ·rename_i v q0 hp;have⟨h1,h2⟩:=mu T.rel T.ks h;refine⟨d,c,O,v,hd,hb.1,hb.2,hc,λha H hH=>?_,h1⟩;refine pop_ok hW hH (λx hx=>?_) hp (h2 hq ha);have:=a0r.1 E x hx;exact rd_ok T.rel ha this
   cases h
theorem wo_do{d o c E v}(hd:o.dst=some d)(hb:Nat.ble (d+1) sz=true)(U:o.op.operands.toList.all (bc G0)=true)(T:GOK ops f fr S o.guard c E)
  (Z:act E c=true->∀H,d_ H->PRes P G0 K d_ (dE fr) ⟨some d,o.op,o.type,o.pos,o.after,none⟩ H v) (O:d_ H) (h: ∀H,d_ H->WO P G0 K sz ops os k (upd fr d (bif act E c then v else undef)) H Q):WO P G0 K sz ops (o::os) k fr H Q:=by
 have⟨al,op,ty,pos,af,gd⟩:=o
 simp only at hd U T Z
 subst hd
 cases ha:act E c with
 |true=>
  rw[ha]at h
  have base:WO P G0 K sz ops (⟨some d,op,ty,pos,af,none⟩::os) k fr H Q:=by
   cases Z ha H O with
   |val hv=>exact ad hv U hb (h H O)
   |call g args he _ hc=>exact wo_callG he U hb hc (by rintro v' H' ⟨rfl,hJ⟩;exact h H' hJ)
  cases gd with
  |none=>exact base
  |some jw=>
   have⟨j,w⟩:=jw
   exact aC (T.on ha) V base
 |false=>
  rw[ha]at h
  have:=T.off ha
  cases gd with
  |none=>exact absurd this id
  |some jw=>
   have⟨j,w⟩:=jw
   rcases this with h1|h1
   ·exact dH h1 hb (h H O)
   exact wo_gf h1 V hb (h H O)
def bnD:ID->Bool
 | .x []=>true
 | .x _=>false
 | .s _=>false
 |_=>true
theorem okD_r{i}: ∀{D:List (Nat×ID)},D.all (λe=>bnD e.2)=true->okD ops i .r D
 | [],_=>trivial
 |(j,e)::D,h=>by
  simp only[a0l,a04]at h;refine⟨.inr ?_,okD_r h.2⟩;cases e with
  |x W=>
   cases W with
   |nil=>trivial
   |cons a b=>exact absurd h.1 (by simp[bnD])
  |s W=>exact absurd h.1 (by simp[bnD])
  |_=>trivial
theorem okD_x{i}: ∀{D:List (Nat×ID)},D.all (λe=>bnD e.2)=true->okD ops i (.x []) D
 | [],_=>trivial
 |(j,e)::D,h=>by
  simp only[a0l,a04]at h;refine⟨.inr ?_,okD_x h.2⟩;cases e with
  |x W=>
   cases W with
   |nil=>exact⟨trivial,trivial⟩
   |cons a b=>exact absurd h.1 (by simp[bnD])
  |s W=>exact absurd h.1 (by simp[bnD])
  |l b=>exact a0g
  |q S=>exact λb hb=>absurd hb a0g
  |n B=>exact λb hb=>absurd hb a0g
  |_=>trivial
theorem wf_weak{D i j e}(Z: ∀g,e.fits g->iB g=true)(h:WF2 P G0 K sz ops ((j,.r)::D) i os k f H Q):WF2 P G0 K sz ops ((j,e)::D) i os k f H Q:=⟨λt fs ht E=>by
 refine h.out t fs ht ?_;cases fs with
 |nil=>exact absurd E id
 |cons x fs=>
  have⟨a,g⟩:=x
  have⟨O,T,U⟩:=E
  exact⟨O,Z g T,U⟩⟩
theorem wf_callx{d op}{ty:TypeId}{pos af D i v g args}(ha:AP P (dE f) ⟨some d,op,ty,pos,af,none⟩ {H with log:=[]} (.enter g args,{H with log:=[]}))(ho:op.operands.toList.all (bc G0)=true)(hd:Nat.ble (d+1) sz=true)(hk:ij op=true)
  (hc:C P G0 K g args {H with log:=[]} λv' H'=>v'=v/\H'={H with log:=[]}) (ax:okD ops i (.x []) D)
  (h:WF2 P G0 K sz ops ((i,.x [])::D) (i+1) os k (upd f d v) H Q):WF2 P G0 K sz ops D i (⟨some d,op,ty,pos,af,none⟩::os) k f H Q:=⟨λt fs ht Z=>by
 obtain⟨O,v',H2,ar,rfl,rfl⟩:=hc.out
 have⟨U,h1,h2⟩:=kW (s:=⟨t,sz,{H with log:=[]}⟩) (d:=some d) (v:=v') hd
 have hi:=dl (ops:=ops) (f:=f) (o:=⟨some d,op,ty,pos,af,none⟩) (n:=H.next) (log:=[]) (W:=[]) V hk (λb hb=>by simp at hb) t sz H ht
 have⟨E,e,s',h3,h4⟩:=h.out U ((i,fc ops ⟨some d,op,ty,pos,af,none⟩ ⟨t,sz,H⟩ H.next [])::fs) (by rw[h2,ht];rfl) ⟨V,hi,Z⟩
 refine⟨Nat.max O E,e,s',?_,h4⟩
 have aA:step P G0 (call P G0 K (Nat.max O E)) ops ⟨some d,op,ty,pos,af,none⟩ ⟨t,sz,{H with log:=[]}⟩=some ⟨U,sz,{H with log:=[]}⟩:=by unfold step aX;simp only[cond_true,ho,gi,ht,ha.eq,gG (a1B O E) _ _ _ _ ar];exact h1
 unfold bz ji
 rw[aA]
 simp only[eP hi Z ax,cond_true,eN,a0o]
 refine eU (a1v (a1d O E)) k _ _ (λx T=>?_) _ h3
 cases hq:bz P G0 (call P G0 K E) ops (i+1) ((i,fc ops ⟨some d,op,ty,pos,af,none⟩ ⟨t,sz,H⟩ H.next [])::fs) os ⟨U,sz,H⟩ with
 |none=>rw[hq]at T;cases T
 |some y=>
  have:=fY (gG (P:=P) (G:=G0) (K:=K) (a1d O E)) _ _ _ _ _ hq
  rw[hq]at T
  show eS (bz P G0 (call P G0 K (Nat.max O E)) ops (i+1) _ os ⟨U,sz,H⟩)=_
  rw[this];exact T⟩
theorem wf_do{D i d o c O v}(Z:D.all (λe=>bnD e.2)=true)(hd:o.dst=some d)(hb:Nat.ble (d+1) sz=true)(T:o.op.operands.toList.all (bc G0)=true)(E:GOK ops f fr S o.guard c O)
  (hp:act O c=true->PRes P G0 K (· ={H with log:=[]}) (dE fr) ⟨some d,o.op,o.type,o.pos,o.after,none⟩ {H with log:=[]} v) (h:WF2 P G0 K sz ops ((i,.r)::D) (i+1) os k (upd fr d (bif act O c then v else undef)) H Q):WF2 P G0 K sz ops D i (o::os) k fr H Q:=by
 have⟨ar,op,ty,pos,af,gd⟩:=o
 simp only at hd T E hp
 subst hd
 cases ha:act O c with
 |true=>
  rw[ha]at h
  have base:WF2 P G0 K sz ops D i (⟨some d,op,ty,pos,af,none⟩::os) k fr H Q:=by
   cases hp ha with
   |val hv=>exact bh hv T hb (did_r λb hb=>by simp at hb) (okD_r Z) h
   |call g args he hk hc=>
    exact wf_callx he T hb hk hc (okD_x Z) (wf_weak (λg E=>by obtain⟨w,rfl,hw⟩:=E;cases w with
     |nil=>rfl
     |cons a b=>exact absurd (hw a (by simp)) a0g) h)
  cases gd with
  |none=>exact base
  |some jw=>
   have⟨j,w⟩:=jw
   exact eg (E.on ha) V base
 |false=>
  rw[ha]at h
  have:=E.off ha
  cases gd with
  |none=>exact absurd this id
  |some jw=>
   have⟨j,w⟩:=jw
   have U:=wf_weak (e:= .v) (λg E=>by rw[show g= .v from E];rfl) h
   rcases this with h1|h1
   ·exact wf_gn h1 hb U
   exact eh h1 V hb U
theorem gF{q p}(h:andO q p):fe q/\p:=by
 cases q with
 |none=>exact⟨trivial,h⟩
 |some q=>exact h
theorem wo_row(T:W.OK P G0 K d_){hs}: ∀{a:List Oper} {i:Nat} {S S':SS} {p:Prop} {fr:Fn} {H:Heap},d_ H->rgL P G0 W sz ops f hs i a S=some (S',p)->p->S.Rel f fr->
  (∀E H,d_ H->S'.Rel f E->WO P G0 K sz ops os k E H Q)->WO P G0 K sz ops (a++os) k fr H Q
 | [],i,S,S',p,fr,H,hH,h,_,hr,hk=>by simp only[rgL,a01,a05]at h;obtain⟨rfl,_⟩:=h;exact hk fr H hH hr
 |o::a,i,S,S',p,fr,H,hH,h,hp,hr,hk=>by
  unfold rgL at h;split at h
  ·cases h
  rename_i S1 q h1;split at h
  ·cases h
  rename_i S2 p2 h2;cases h;have⟨hq,U⟩:=gF hp;have⟨d,c,G1,v,Z,e2,e3,e4,e5,e6⟩:=iJ T hr h1 hq;exact wo_do Z e2 e3 (gV hr e4) e5 hH λH' O=>wo_row T O h2 U e6 hk
def rs(i:Nat):List Oper->List (Nat×ID)->List (Nat×ID)
 | [],D=>D
 |_::a,D=>rs (i+1) a ((i,.r)::D)
theorem wf_row{hs}: ∀{a:List Oper} {i:Nat} {D:List (Nat×ID)} {S S':SS} {p:Prop} {fr:Fn},D.all (λe=>bnD e.2)=true->rgL P G0 (W0 P G0 K {H with log:=[]}) sz ops f hs i a S=some (S',p)->p->S.Rel f fr->
  (∀E,S'.Rel f E->WF2 P G0 K sz ops (rs i a D) (i+J a) os k E H Q)->WF2 P G0 K sz ops D i (a++os) k fr H Q
 | [],i,D,S,S',p,fr,_,h,_,hr,hk=>by simp only[rgL,a01,a05]at h;obtain⟨rfl,_⟩:=h;exact hk fr hr
 |o::a,i,D,S,S',p,fr,hD,h,hp,hr,hk=>by
  unfold rgL at h;split at h
  ·cases h
  rename_i S1 q h1;split at h
  ·cases h
  rename_i S2 p2 h2;cases h;have⟨hq,O⟩:=gF hp;have⟨d,c,G1,v,U,Z,e3,e4,e5,e6⟩:=iJ ok0 hr h1 hq;refine wf_do hD U Z e3 (gV hr e4) (λha=>e5 ha _ V) (wf_row (by simp only[a0l,hD,a0D];rfl) h2 O e6 λE T=>?_);have:=hk E T;rw[a02,show i+(J a+1)=i+1+(J a) by omega]at this;exact this
theorem pu{m G}(O:SS.Rel ⟨m,G⟩ f fr): ∀{E:List Nat} {l:List (Nat×Value)},fins m E=some l->aI fr l
 | [],l,h=>by simp only[fins,a01]at h;subst h;trivial
 |d::E,l,h=>by
  unfold fins at h;split at h
  ·rename_i v l' T U;simp only[a01]at h;subst h;exact⟨by have:=O.sl d [] v T;exact this,pu O U⟩
  cases h
theorem kF{m G}(T:SS.Rel ⟨m,G⟩ f fr){lo hi ex}(h:m.all (λe=>inR lo hi ex e.1)=true):Leaves lo hi ex f fr:=⟨λj O=>by
 refine T.no j ?_;have key: ∀(m:List (Nat×Ch×Value)),m.all (λe=>inR lo hi ex e.1)=true->lk m j=none:=by
  intro m;induction m with
  |nil=>intro _;rfl
  |cons e m ih=>
   have⟨s,x⟩:=e
   intro E
   simp only[a0l,a04]at E
   show(bif Nat.beq s j then some x else lk m j)=none
   cases hb:Nat.beq s j with
   |true=>have:=a0a hb;subst this;rw[O]at E;cases E.1
   |false=>exact ih E.2
 exact key m h⟩
theorem rel0:SS.Rel ⟨[],[]⟩ f f:=⟨λt c v h=>(by cases h),λ_ _=>rfl,λs g h=>(by cases h),λt c v h=>(by cases h)⟩
theorem top_ok{i a hs lo hi ex O l p}(h:gB P G0 W sz ops f i a hs lo hi ex O=some (l,p)):
  ∃S,rgL P G0 W sz ops f hs i a ⟨[],[]⟩=some (S,p)/\∀fr,S.Rel f fr->∃g,fr=hY (hav lo hi ex g f) l:=by
 unfold gB at h
 split at h
 ·cases h
 rename_i S Z T
 cases hb:S.m.all (λe=>inR lo hi ex e.1) with
 |false=>rw[hb]at h;cases h
 |true=>
  rw[hb]at h
  simp only[cond_true]at h
  split at h
  ·rename_i l' U;cases h;refine⟨S,T,λfr E=>⟨fr,?_⟩⟩;rw[←(kF E hb).eq,gz (pu E U)]
  cases h
theorem wk_rg{id}(hs:List (Nat×Hint))(lo hi:Nat)(ex:List Nat){E l p}(h:gB P G0 (W0 P G0 K H) sz ops f 0 ops.toList hs lo hi ex E=some (l,p))(Z:p)
  (U: ∀g,WK P G0 K sz .skip k (hY (hav lo hi ex g f) l) H Q):WK P G0 K sz (.region id ops false) k f H Q:=by
 have⟨S,O,T⟩:=top_ok h
 refine ab ?_
 have:=wo_row (os:=[]) (k:=k) (Q:=Q) ok0 V O Z rel0 (λfr H' e hr=>by obtain⟨g,rfl⟩:=T fr hr;subst e;exact aB (U g))
 rwa [a0k]at this
theorem wk_rgD{id}(E:(jU ops&&P.follows .mixedOrders)=true)(hs:List (Nat×Hint))(lo hi:Nat)(ex:List Nat){O l p}(h:gB P G0 (W0 P G0 K {H with log:=[]}) sz ops f 0 ops.toList hs lo hi ex O=some (l,p))(hp:p)
  (Z: ∀g,WK P G0 K sz .skip k (hY (hav lo hi ex g f) l) H Q):WK P G0 K sz (.region id ops true) k f H Q:=by
 have⟨S,T,U⟩:=top_ok h
 refine az E ?_
 have:=wf_row (os:=[]) (k:=k) (Q:=Q) (D:=[]) V T hp rel0 (λfr E=>by obtain⟨g,rfl⟩:=U fr E;exact fE (Z g))
 rwa [a0k]at this
theorem wk_rgJ{id}(d_:Heap->Prop)(hs:List (Nat×Hint))(lo hi:Nat)(ex:List Nat){E l p}(U:d_ H)(h:gB P G0 (WJ P G0 K d_) sz ops f 0 ops.toList hs lo hi ex E=some (l,p))(hp:p)
  (Z: ∀g H,d_ H->WK P G0 K sz .skip k (hY (hav lo hi ex g f) l) H Q):WK P G0 K sz (.region id ops false) k f H Q:=by
 have⟨S,O,T⟩:=top_ok h
 refine ab ?_
 have:=wo_row (os:=[]) (k:=k) (Q:=Q) okJ U O hp rel0 (λfr H' e hr=>by obtain⟨g,rfl⟩:=T fr hr;exact aB (Z g H' e))
 rwa [a0k]at this
theorem wo_rg(n i:Nat)(hs:List (Nat×Hint))(lo hi:Nat)(ex:List Nat){os E l p}(h:gB P G0 (W0 P G0 K H) sz ops f i (eB os n) hs lo hi ex E=some (l,p))(Z:p)
  (U: ∀g,WO P G0 K sz ops (eK os n) k (hY (hav lo hi ex g f) l) H Q):WO P G0 K sz ops os k f H Q:=by
 have⟨S,O,T⟩:=top_ok h
 have:=wo_row (os:=eK os n) (k:=k) (Q:=Q) ok0 V O Z rel0 (λfr H' e hr=>by obtain⟨g,rfl⟩:=T fr hr;subst e;exact U g)
 rwa [bL,bX,a1n]at this
end
def foc:Nat->Code->List Fr->Code×List Fr
 |0,c,k=>(c,k)
 |n+1,.seq a b,k=>foc n a (.seq b::k)
 |n+1,.block id b,k=>foc n b (.block id::k)
 |n+1,.skip,.seq b::k=>foc n b k
 |n+1,.skip,.block _::k=>foc n .skip k
 |n+1,.exit id,.seq _::k=>foc n (.exit id) k
 |n+1,.exit id,.block id'::k=>bif Nat.beq id id' then foc n .skip k else foc n (.exit id) k
 |_+1,c,k=>(c,k)
section
variable {P:Program} {G:Nat} {K:bJ} {sz:Nat} {Q:Ex->Fn->Heap->Prop} {f:Fn} {H:Heap}
theorem wk_foc': ∀(n:Nat) (c:Code) (k:List Fr),WK P G K sz (foc n c k).1 (foc n c k).2 f H Q->WK P G K sz c k f H Q:=by
 intro n;induction n with
 |zero=>intro c k h;exact h
 |succ n ih=>
  intro c k h
  cases c with
  |seq a b=>exact aO (ih _ _ h)
  |block id b=>exact gJ (ih _ _ h)
  |skip=>
   cases k with
   |nil=>exact h
   |cons x k=>
    cases x with
    |seq b=>exact av (ih _ _ h)
    |block id=>exact fp (ih _ _ h)
  |exit id=>
   cases k with
   |nil=>exact h
   |cons x k=>
    cases x with
    |seq b=>exact fD (ih _ _ h)
    |block id'=>
     have E:WK P G K sz (bif Nat.beq id id' then foc n .skip k else foc n (.exit id) k).1 (bif Nat.beq id id' then foc n .skip k else foc n (.exit id) k).2 f H Q:=h
     cases hb:Nat.beq id id' with
     |true=>
      have:=a0a hb
      subst this
      rw[hb]at E
      exact gI (ih _ _ E)
     |false=>
      rw[hb]at E
      exact ly hb (ih _ _ E)
  |_=>exact h
variable {c c1 c2:Code} {k k1 k2:List Fr}
theorem aj(n:Nat)(E:foc n c k=(c1,k1))(h:WK P G K sz c1 k1 f H Q):WK P G K sz c k f H Q:=wk_foc' n c k (by rw[E];exact h)
theorem wk_if(n m:Nat){x a b v}(hx:dE f x= .bool v)(Z:bc G x=true)(O:foc n a k=(c1,k1))(T:foc m b k=(c2,k2))(ht:v=true->WK P G K sz c1 k1 f H Q)(U:v=false->WK P G K sz c2 k2 f H Q):WK P G K sz (.cond x a b) k f H Q:=
 ed hx Z (λE=>aj n O (ht E)) (λE=>aj m T (U E))
theorem bx(n:Nat){x a b v}(U:dE f x= .bool v)(T:v=true)(O:bc G x=true)(E:foc n a k=(c1,k1))(h:WK P G K sz c1 k1 f H Q):WK P G K sz (.cond x a b) k f H Q:=wk_true U T O (aj n E h)
theorem nz(n:Nat){x a b v}(U:dE f x= .bool v)(T:v=false)(O:bc G x=true)(E:foc n b k=(c1,k1))(h:WK P G K sz c1 k1 f H Q):WK P G K sz (.cond x a b) k f H Q:=ou U T O (aj n E h)
theorem jg(d_:Fn->Heap->Prop)(O:(∀E H',d_ E H'->WK P G K sz .skip k E H' Q)->WK P G K sz c k f H Q)(T: ∀E H',d_ E H'->WK P G K sz .skip k E H' Q):WK P G K sz c k f H Q:=O T
theorem wr(n:Nat){id ops}(hs:List (Nat×Hint))(lo hi:Nat)(ex:List Nat)(l:List (Nat×Value)){p}(T:p)(h:gB P G (W0 P G K H) sz ops f 0 ops.toList hs lo hi ex (eu Prod.fst l)=some (l,p))(E:foc n .skip k=(c1,k1))
  (O: ∀g,WK P G K sz c1 k1 (hY (hav lo hi ex g f) l) H Q):WK P G K sz (.region id ops false) k f H Q:=wk_rg hs lo hi ex h T λg=>aj n E (O g)
theorem wrD(n:Nat){id ops}(hs:List (Nat×Hint))(lo hi:Nat)(ex:List Nat)(l:List (Nat×Value)){p}(T:p)(U:(jU ops&&P.follows .mixedOrders)=true)(h:gB P G (W0 P G K {H with log:=[]}) sz ops f 0 ops.toList hs lo hi ex (eu Prod.fst l)=some (l,p))(E:foc n .skip k=(c1,k1))
  (O: ∀g,WK P G K sz c1 k1 (hY (hav lo hi ex g f) l) H Q):WK P G K sz (.region id ops true) k f H Q:=wk_rgD U hs lo hi ex h T λg=>aj n E (O g)
theorem wro(n i:Nat){ops os E}(hs:List (Nat×Hint))(lo hi:Nat)(ex:List Nat)(l:List (Nat×Value)){p}(U:p)(h:gB P G (W0 P G K H) sz ops f i (eB os n) hs lo hi ex (eu Prod.fst l)=some (l,p))(O:eK os n=E)
  (T: ∀g,WO P G K sz ops E k (hY (hav lo hi ex g f) l) H Q):WO P G K sz ops os k f H Q:=wo_rg n i hs lo hi ex h U (by rw[O];exact T)
def HP(_:List (Nat×Hint))(p:Prop):Prop:=p
theorem Hn_:HP [] True:=trivial
theorem Ha_{hs p q}(h:q)(r:HP hs p):HP hs (q/\p):=⟨h,r⟩
theorem Hl_(i:Nat){H}{t:TypeId}{a v hs p}(h:LDv P H t a v)(r:HP hs p):HP ((i,.o v)::hs) (LDv P H t a v/\p):=⟨h,r⟩
theorem Hc_(i:Nat){H g args v hs p}(h:C P G K g args H λv' H'=>v'=v/\H'=H)(r:HP hs p):HP ((i,.o v)::hs) ((C P G K g args H λv' H'=>v'=v/\H'=H)/\p):=⟨h,r⟩
theorem Ho_(i:Nat)(x:Hint){hs p q}(h:q)(r:HP hs p):HP ((i,x)::hs) (q/\p):=⟨h,r⟩
theorem Hw_(i:Nat)(x:Hint){hs p}(r:HP hs p):HP ((i,x)::hs) p:=r
theorem wrp(n:Nat){id ops hs}(lo hi:Nat)(ex:List Nat)(l:List (Nat×Value)){p}(T:HP hs p)(h:gB P G (W0 P G K H) sz ops f 0 ops.toList hs lo hi ex (eu Prod.fst l)=some (l,p))(E:foc n .skip k=(c1,k1))
  (O: ∀g,WK P G K sz c1 k1 (hY (hav lo hi ex g f) l) H Q):WK P G K sz (.region id ops false) k f H Q:=wr n hs lo hi ex l T h E O
theorem wrDp(n:Nat){id ops hs}(lo hi:Nat)(ex:List Nat)(l:List (Nat×Value)){p}(T:HP hs p)(U:(jU ops&&P.follows .mixedOrders)=true)(h:gB P G (W0 P G K {H with log:=[]}) sz ops f 0 ops.toList hs lo hi ex (eu Prod.fst l)=some (l,p))(E:foc n .skip k=(c1,k1))
  (O: ∀g,WK P G K sz c1 k1 (hY (hav lo hi ex g f) l) H Q):WK P G K sz (.region id ops true) k f H Q:=wrD n hs lo hi ex l T U h E O
theorem cu(n i:Nat){ops os E hs}(lo hi:Nat)(ex:List Nat)(l:List (Nat×Value)){p}(U:HP hs p)(h:gB P G (W0 P G K H) sz ops f i (eB os n) hs lo hi ex (eu Prod.fst l)=some (l,p))(O:eK os n=E)
  (T: ∀g,WO P G K sz ops E k (hY (hav lo hi ex g f) l) H Q):WO P G K sz ops os k f H Q:=wro n i hs lo hi ex l U h O T
theorem ai(n:Nat){ops}(E:foc n .skip k=(c1,k1))(h:WK P G K sz c1 k1 f H Q):WO P G K sz ops [] k f H Q:=aB (aj n E h)
theorem aQ(n:Nat){ops D i}(E:foc n .skip k=(c1,k1))(h:WK P G K sz c1 k1 f H Q):WF2 P G K sz ops D i [] k f H Q:=fE (aj n E h)
end
theorem vA{a b}(h:a)(k:b):a/\b:=⟨h,k⟩
theorem vi{n:Int}(h: -9223372036854775808<=n/\n<9223372036854775808:=by first|(dsimp only;omega)|omega):rng .i64 n:=h
theorem vb{n:Int}(h:0<=n/\n<256):rng .u8 n:=h
section
variable {P:Program} {G:Nat} {K:bJ} {H:Heap} {F:Fz} {B:Base} {L R:List Fp}
theorem ld1{b o i cs w}{t:TypeId}(hc:HC H.get b o cs)(ha:ff P t=some false)(T:cs[i]?=some w):LDv P H t (.pointer (some ⟨b,o+i,none⟩)) w:=by have⟨all,U,Z,E,O⟩:=hc.get T;show ovl (H.loadV P t ⟨b,o+i,none⟩) H=_;unfold Heap.loadV;rw[ha];simp only;unfold Heap.cellAt;simp only[E,hM,O];rfl
theorem ldN{b o i n cs l}{t:TypeId}(hc:HC H.get b o cs)(ha:ff P t=some true)(hs:dL P t=some n)(Z:Nat.ble (i+n) (J cs)=true)(E:eB (eK cs i) n=l):LDv P H t (.pointer (some ⟨b,o+i,none⟩)) (.agg ⟨l⟩):=by have⟨all,al,ro,O,T,U⟩:=hc.part (a0d Z);rw[bL,bX]at E;show ovl (H.loadV P t ⟨b,o+i,none⟩) H=_;unfold Heap.loadV;rw[ha];simp only[hs];unfold Heap.loadN;rw[←E];simp only[O,bL,bX,bp,T,U,a0Y,cond_true];rfl
theorem hc0{b o cs}(h:HC H.get b o cs):HC ({H with log:=[]}:Heap).get b o cs:=h
theorem cq{f args Q v}(h:C P G K f args H Q)(E: ∀v' H',Q v' H'->v'=v/\H'=H):C P G K f args H λv' H'=>v'=v/\H'=H:=h.ac E
section
variable {α:Type} [Rp α] {v:Value} {l:List α}
theorem Sv.Gg{get}(h:Sv F get v l): ∃cf:Nat->List Value,∀(j:Nat),(∀d:α,j<J l->Rp.rep F (cf j) (N l j d)/\HC get (sB v) (sO v+j *Rp.sz α) (cf j))/\(J l<=j->cf j=[]):=by
 have O: ∀j,∃cs,(∀(d:α),j<J l->Rp.rep F cs (N l j d)/\HC get (sB v) (sO v+j *Rp.sz α) cs)/\(J l<=j->cs=[]):=by
  intro j;by_cases E:j<J l
  ·have⟨cs,U,Z⟩:=h.at (a08 E);refine⟨cs,λd _=>⟨?_,Z⟩,λh=>absurd h M⟩;rw[a09,a08 E];exact U
  exact⟨[],λ_ T=>absurd T E,λ_=>rfl⟩
 exact⟨λj=>(O j).choose,λj=>(O j).choose_spec⟩
abbrev VW(F:Fz)(get:Nat->Option AObj)(v:Value)(l:List α)(cf:Nat->List Value)(j:Nat):Prop:=(∀d:α,j<l.length->Rp.rep F (cf j) (l.getD j d)/\HC get (sB v) (sO v+j *Rp.sz α) (cf j))/\(l.length<=j->cf j=[])
theorem Sv.ix{get}(h:Sv F get v l){j:Int}(O:0<=j:=by first|(dsimp only;omega)|omega)(E:j<J l:=by first|(dsimp only;omega)|omega):IX v j:=by
 rcases h with⟨_,rfl⟩|⟨b,off,k,o,rfl,Z,cs,U,ro,rfl,h3,T,h5,h6⟩
 ·simp at E;omega
 exact⟨b,off,_,k,V,O,E,T⟩
end
def sA:Value->Option Addr
 | .slice a _ _=>a
 |_=>none
def sK:Value->Nat
 | .slice _ _ k=>k
 |_=>0
abbrev cA(cs:List Value)(i:Nat):Option Addr:=sA (N cs i undef)
abbrev cK(cs:List Value)(i:Nat):Nat:=sK (N cs i undef)
end
theorem bW{α:Type}{l:List α}{j:Nat}{d:α}(h:l.length<=j):l.getD j d=d:=by rw[a09,a1l h];rfl
section
variable {F:Fz} {get:Nat->Option AObj} {v:Value} {cf:Nat->List Value} {j:Nat}
theorem vI{l}(h:VW F get v l cf j)(T:j<J l:=by first|(dsimp only;omega)|omega):HC get (sB v) (sO v+j *Rp.sz Int) [.int .i64 (N l j 0)]:=by have⟨⟨O,_⟩,E⟩:=h.1 0 T;rw[O]at E;exact E
theorem fI{l:List Int}(h:VW F get v l cf j):in64 (l.getD j 0):=by
 rcases a0p j l.length with hj|hj
 ·exact(h.1 0 hj).1.2
 rw[bW hj];decide
theorem vS{l:List Str}(h:VW F get v l cf j)(T:j<l.length:=by first|(dsimp only;omega)|omega):HC get (sB v) (sO v+j *Rp.sz Str) [.string ⟨⟨(l.getD j default).b⟩⟩]:=by obtain⟨O,E⟩:=h.1 default T;rw[show cf j=_ from O]at E;exact E
theorem vL{α:Type} [Rp α]{l:List (List α)}(h:VW F get v l cf j)(T:j<l.length:=by first|(dsimp only;omega)|omega):HC get (sB v) (sO v+j *Rp.sz (List α)) [.slice (cA (cf j) 0) (l.getD j default).length (cK (cf j) 0)]:=by obtain⟨⟨a,k,O,_⟩,E⟩:=h.1 default T;rw[O]at E⊢;exact E
theorem fL{α:Type} [Rp α]{l:List (List α)}(h:VW F get v l cf j):SR F (.slice (cA (cf j) 0) (l.getD j default).length (cK (cf j) 0)) (l.getD j default):=by
 rcases a0p j l.length with hj|hj
 ·obtain⟨⟨a,k,E,O⟩,_⟩:=h.1 default hj;rw[E];exact O
 rw[bW hj,h.2 hj];exact SR.nil
theorem ap_callc{P f0 d}{ty:TypeId}{pos af gd H args E i fn f l x y}(U:dE f f0= .func (.func i) x y)(O:P.funcs[i]?=some fn)(hb:(fn.body.isSome&& !(fn.name== "runtime.NumGoroutine"))=true)(T:lU x.toList (lU (eu (dE f) args.toList) y.toList)=l):
  AP P (dE f) ⟨d,.call ⟨.value f0,args,E⟩,ty,pos,af,gd⟩ H (.enter i l,H):=by
 refine⟨?_⟩
 show gS (gZ P (dE f f0) (eu (dE f) args.toList)) H=_
 rw[U]
 unfold gZ
 simp only[O,hb,cond_true,T]
 rfl
end
theorem vq{a b:Int}(ha:in64 a)(hb:b≠ -1):rng .i64 (a.tdiv b):=by
 show in64 _;by_cases O:b=0
 ·subst O;rw[Int.tdiv_zero];decide
 have E:(a.tdiv b).natAbs=a.natAbs/b.natAbs:=Int.natAbs_tdiv a b;by_cases T:b=1
 ·subst T;rw[Int.tdiv_one];exact ha
 have U:2<=b.natAbs:=M
 have Z:(a.tdiv b).natAbs *2<=a.natAbs:=by rw[E];exact a0i (Nat.mul_le_mul_left _ U) (Nat.div_mul_le_self _ _)
 have⟨h6,h7⟩:=ha;clear E;constructor<;>omega
theorem ve{n m:Int}(h:n=m)(E: -9223372036854775808<=m/\m<9223372036854775808):n=m/\rng .i64 m:=⟨h,E⟩
section
variable {P:Program} {t:TypeId} {fs:Array Field} {xs ys:List Value} {bs:List Bool}
theorem agNe(O:xs.all dG=true)(T:ys.all dG=true)(hu:P.underlying t=some (.struct fs))(hs:P.stoodInHeld t=false)(hg:P.eqGuardType P.depth t=false)(h:EqFs P 9999 ⟨xs⟩ ⟨ys⟩ fs.toList bs):AGB P .neq t (.agg ⟨xs⟩) (.agg ⟨ys⟩) (.bool (!bs.all id)):=by
 intro ρ x y yt d ty pos af gd H E U;refine⟨?_⟩;show aBin P ρ _ .neq t (ρ x) y H=_;rw[E];show bB P ρ _ H=_;unfold bB;have h1:((Op.binOp .neq t x y yt).operands.toList.all λx=>jN (ρ x))=true:=by simp[Op.operands,E,U,jV O,jV T]
 simp only[h1,cond_true];have h2:aD P (execOp ρ ⟨d,.binOp .neq t x y yt,ty,pos,af,gd⟩)=some (.value (Value.bool (!bs.all id))):=by
  unfold execOp;simp only[E,U,aJ];have Z:aD P (eqGuard .neq t x y (.agg ⟨xs⟩) (.agg ⟨ys⟩))=some ():=by simp[eqGuard,hg]
  have e2:aD P (binOp .neq t (.agg ⟨xs⟩) (.agg ⟨ys⟩))=some (Value.bool (!bs.all id)):=by show aD P (Op.equal t (.agg ⟨xs⟩) (.agg ⟨ys⟩)>>=λb=>(Pure.pure (Value.bool (!b)):Sem Value))=_;rw[aJ,show Op.equal t (.agg ⟨xs⟩) (.agg ⟨ys⟩)=Op.equalIn (9999+1) t (.agg ⟨xs⟩) (.agg ⟨ys⟩) from V,eq_struct hu hs h];rfl
  simp only[Z,e2,a0q];rfl
 rw[h2];rfl
end
section
variable {B:Base} {F:Fz} {H:Heap} {L R:List Fp} {x:Fp}
theorem HS.G9(h:HS B F H (x::L) R):HS B F H [x] R:=HS.sub h (by simp)
theorem HS.pair(h:HS B F H (x::L) R){i y}(E:0<i)(hi:(x::L)[i]?=some y):HS B F H [x,y] R:=by
 obtain⟨j,rfl⟩: ∃j,i=j+1:=⟨i-1,by omega⟩
 refine HS.sub h ?_;have:y∈L:=a0w (by simpa using hi);exact List.Sublist.cons_cons x (List.singleton_sublist.2 this)
theorem HS.didW{E:Heap}{W:List Nat}(h:HS (.of {E with log:=[]} W) F H L R): ∀b,b∈H.log->E.next<=b\/b∈W:=λb hb=>by
 rcases h.log b hb with h1|h1|h1
 ·simp[Base.of]at h1
 ·exact .inl h1
 exact .inr h1
end
end Go.R
end
namespace Go.R
open List renaming getD→N,length→J
theorem jH{P ρ d}{ty:TypeId}{pos af gd H x a}(E:ρ x= .pointer (some a)):AP P ρ ⟨d,.nilCheck x,ty,pos,af,gd⟩ H (.val (.pointer (some a)),H):=by refine⟨?_⟩;show opNil (ρ x) H=_;rw[E];rfl
theorem over_all: ∀(cs vs:List Value),J cs=J vs->over cs vs=vs
 | [],[],_=>rfl
 | [],_::_,h=>by simp at h
 |_::_,[],h=>by simp at h
 |c::cs,v::vs,h=>by show v::over cs vs=_;rw[over_all cs vs (by simpa using h)]
theorem fX{α:Type} [Rp α]{F:Fz}{c_ Y:α}{cl:List Value}(h:Rp.rep F cl Y): ∀cs,Rp.rep F cs c_->0+cl.length<=cs.length/\Rp.rep F (be cs 0 cl) Y:=by
 intro cs hc;have E:=Rp.len h;have O:=Rp.len hc;refine⟨by omega,?_⟩;have:be cs 0 cl=over cs cl:=by cases cs<;>rfl
 rw[this,over_all _ _ M];exact h
theorem HS.nin{B F H L R}(h:HS B F H L R){i j:Nat}{p q}(hi:L[i]?=some p)(hj:L[j]?=some q)(T:i≠j){b:Nat}(hb:b∈p.map Prod.fst):b∉q.map Prod.fst:=by
 intro hq;have hc:=h.Gh hi;have E:=hc.nd;have U:q∈L.set i []:=by refine a0w (i:=j) ?_;rw[List.getElem?_set_ne T];exact hj
 simp only[a0t,a0o,a0X,a0N,a1C]at E;refine E.2.2 b hb b ?_ V;obtain⟨⟨Z,o⟩,O,rfl⟩:=a0B.1 hq;exact a0B.2 ⟨(Z,o),a0P.2 ⟨q,a20 _ U,O⟩,V⟩
theorem SR.len'{α:Type} [Rp α]{F:Fz}{a:Option Addr}{n k:Nat}{l:List α}(h:SR F (.slice a n k) l):l.length=n:=by obtain⟨E,O,e⟩:=Sv.shape h;injection e with _ e _;exact e.symm
theorem SR.norm{α:Type} [Rp α]{F:Fz}{a:Option Addr}{n k:Nat}{l:List α}(h:SR F (.slice a n k) l):SR F (.slice a l.length k) l:=by rw[h.len'];exact h
theorem HS.ownlt{B F H L R}(h:HS B F H L R){i:Nat}{p}(hi:L[i]?=some p): ∀b,b∈p.map Prod.fst->b<H.next:=by intro b hb;obtain⟨⟨O,o⟩,E,rfl⟩:=a0B.1 hb;exact(h.own p (.inl (a0w hi)) O o E).2.1
end Go.R
noncomputable section
set_option linter.unusedVariables false
namespace Go.R
open List renaming getD→N,length→J
open Go
section
variable {P:Program} {G:Nat} {K:bJ} {sz:Nat} {Q:Ex->Fn->Heap->Prop} {ops:Array Oper} {D:List (Nat×ID)} {i:Nat} {os:List Oper} {k k1 k2:List Fr} {c c1 c2:Code} {f:Fn} {H H1:Heap} {v:Value}
variable {d:Tmp} {ty:TypeId} {pos:String} {af:Array Edge} {x y:Operand}
theorem zi(n m:Nat){a b v}(Z:v=true->WK P G K sz c1 k1 f H Q)(T:v=false->WK P G K sz c2 k2 f H Q)(hx:dE f x= .bool v:=by rfl)(U:bc G x=true:=by rfl)(E:foc n a k=(c1,k1):=by rfl)(O:foc m b k=(c2,k2):=by rfl):WK P G K sz (.cond x a b) k f H Q:=wk_if n m hx U E O Z T
theorem zd(n m:Nat){a b p i}(Z:p->WK P G K sz c1 k1 f H Q)(T: ¬p->WK P G K sz c2 k2 f H Q)(hx:dE f x= .bool (@decide p i):=by rfl)(U:bc G x=true:=by rfl)(E:foc n a k=(c1,k1):=by rfl)(O:foc m b k=(c2,k2):=by rfl):WK P G K sz (.cond x a b) k f H Q:=wk_if n m hx U E O (λh=>Z (of_decide_eq_true h)) λh=>T (of_decide_eq_false h)
theorem za(v:Value)(h:WO P G K sz ops os k (upd f d v) H Q)(O:dE f x=v:=by rfl)(E:(Op.assign x).operands.toList.all (bc G)=true:=by rfl)(hd:Nat.ble (d+1) sz=true:=by rfl):WO P G K sz ops (⟨some d,.assign x,ty,pos,af,none⟩::os) k f H Q:=wa v O E hd h
theorem zm(v:Value)(h:WO P G K sz ops os k (upd f d v) H Q)(O:dE f x=v:=by rfl)(E:(Op.move x).operands.toList.all (bc G)=true:=by rfl)(hd:Nat.ble (d+1) sz=true:=by rfl):WO P G K sz ops (⟨some d,.move x,ty,pos,af,none⟩::os) k f H Q:=wm v O E hd h
theorem zfm(v:Value)(h:WF2 P G K sz ops ((i,.v)::D) (i+1) os k (upd f d v) H Q)(O:dE f x=v:=by rfl)(E:(Op.move x).operands.toList.all (bc G)=true:=by rfl)(hd:Nat.ble (d+1) sz=true:=by rfl):WF2 P G K sz ops D i (⟨some d,.move x,ty,pos,af,none⟩::os) k f H Q:=fm v O E hd h
theorem zc{args E g fn l R}(hc:C P G K g l H R)(h: ∀v O,R v O->WO P G K sz ops os k (upd f d v) O Q)(T:P.funcs[g]?=some fn:=by rfl)(hb:(fn.body.isSome&& !(fn.name== "runtime.NumGoroutine"))=true:=by rfl)(U:eu (dE f) args.toList=l:=by rfl)(Z:(Op.call ⟨.value (.func g),args,E⟩).operands.toList.all (bc G)=true:=by rfl)(hd:Nat.ble (d+1) sz=true:=by rfl):
  WO P G K sz ops (⟨some d,.call ⟨.value (.func g),args,E⟩,ty,pos,af,none⟩::os) k f H Q:=lW (bj T hb U) Z hd hc h
theorem zp{s:TypeId}{b o n}(E:Nat)(h:WF2 P G K sz ops ((i,.v)::D) (i+1) os k (upd f d (.pointer (some ⟨b,E,none⟩))) H Q)(T:dE f x= .pointer (some ⟨b,o,none⟩):=by rfl)(ha:kh P s (.pointer (some ⟨b,o,none⟩)) n=some (.pointer (some ⟨b,E,none⟩)):=by rfl)(O:(Op.fieldAddr s x n).operands.toList.all (bc G)=true:=by rfl)(hd:Nat.ble (d+1) sz=true:=by rfl):WF2 P G K sz ops D i (⟨some d,.fieldAddr s x n,ty,pos,af,none⟩::os) k f H Q:=bh (bI T ha) O hd (did_v V) (lC _) h
theorem zl{t:TypeId}{b o o'}(j:Nat){cs w}(hc:HC ({H with log:=[]}:Heap).get b o cs)(h:WF2 P G K sz ops ((i,.l b)::D) (i+1) os k (upd f d w) H Q)(E:dE f x= .pointer (some ⟨b,o',none⟩):=by rfl)(ha:ff P t=some false:=by rfl)(O:o'=o+j:=by rfl)(Z:cs[j]?=some w:=by rfl)(U:(Op.load t x).operands.toList.all (bc G)=true:=by rfl)(hd:Nat.ble (d+1) sz=true:=by rfl)(T:okB ops i (.l b) D=true:=by rfl):WF2 P G K sz ops D i (⟨some d,.load t x,ty,pos,af,none⟩::os) k f H Q:=bh (aU (H:={H with log:=[]}) E ha hc O Z) U hd (iz E) (kb T) h
theorem zx(α:Type) [Rp α]{t e:TypeId}{ki:IntKind}{F:Fz}{l:List α}(j:Nat)(hs:Sv F ({H with log:=[]}:Heap).get v l)(h:WF2 P G K sz ops ((i,.v)::D) (i+1) os k (upd f d (.pointer (some ⟨sB v,sO v+j *Rp.sz α,none⟩))) H Q)(E:(j:Int)<l.length:=by first|(dsimp only;omega)|omega)(U:dE f x=v:=by rfl)(hi:dE f y= .int ki (j:Int):=by rfl)(T:P.underlying t=some (.slice e):=by rfl)(Z:dL P e=some (Rp.sz α):=by rfl)(O:(Op.indexAddr t x y).operands.toList.all (bc G)=true:=by rfl)(hd:Nat.ble (d+1) sz=true:=by rfl):
  WF2 P G K sz ops D i (⟨some d,.indexAddr t x y,ty,pos,af,none⟩::os) k f H Q:=bh (dw (H:={H with log:=[]}) U hi T Z hs M E) O hd (did_v rfl) (lC _) h
end
open Go
class BV(v:Bool)(p q:outParam Prop):Prop where
 t:(v=true)=p
 e:(v=false)=q
instance (priority:=low) {v:Bool}:BV v (v=true) (v=false):=⟨V,V⟩
instance {p:Prop} {i:Decidable p}:BV (@decide p i) p (¬p):=⟨by simp,by simp⟩
instance {a b:Int}:BV (a==b) (a=b) (a≠b):=⟨by simp,by simp⟩
instance {a b:Int}:BV (a !=b) (a≠b) (a=b):=⟨by simp,by simp⟩
instance {a:Bool} {p q:Prop} [h:BV a p q]:BV (!a) q p:=⟨by rw[←h.e];simp,by rw[←h.t];simp⟩
instance {a b:Bool} {p q r s:Prop} [h:BV a p q] [k:BV b r s]:BV (a&&b) (p/\r) (p->s):=⟨by rw[←h.t,←k.t];simp,by rw[←h.t,←k.e];simp⟩
instance {a b:Bool} {p q r s:Prop} [h:BV a p q] [k:BV b r s]:BV (a||b) (p\/r) (q/\s):=⟨by rw[←h.t,←k.t];simp,by rw[←h.e,←k.e];simp⟩
section
variable {P:Program} {G:Nat} {K:bJ} {sz:Nat} {Q:Ex->Fn->Heap->Prop} {k k1 k2:List Fr} {c1 c2:Code} {f:Fn} {H:Heap} {v:Bool} {x:Operand}
theorem zI(n m:Nat){a b p q} [i:BV v p q](Z:p->WK P G K sz c1 k1 f H Q)(T:q->WK P G K sz c2 k2 f H Q)(hx:dE f x= .bool v:=by rfl)(U:bc G x=true:=by rfl)(E:foc n a k=(c1,k1):=by rfl)(O:foc m b k=(c2,k2):=by rfl):WK P G K sz (.cond x a b) k f H Q:=wk_if n m hx U E O (λh=>Z (i.t▸h)) λh=>T (i.e▸h)
end
end Go.R
noncomputable section
set_option linter.unusedVariables false
namespace Go.R
open List renaming getD→N,length→J
def ownAt(L:List Fp)(q:Nat):Option (Nat×List Value):=match nth L q with
 |some [(b,.cells cs none false)]=>some (b,cs)
 |_=>none
theorem oM{L q b cs}(h:ownAt L q=some (b,cs)):L[q]?=some [(b,.cells cs none false)]:=by
 unfold ownAt at h;split at h
 ·rename_i E;cases h;rw[←hM];exact E
 cases h
def WN:FW:=⟨λ_ _ _=>False,λ_ _ _=>False,λ_ _ _ _ _=>False,λ_ _ _ _ _=>False,λ_ _ _ _ _=>False⟩
theorem okN{P G0 K d_}:WN.OK P G0 K d_:=⟨λh=>h.elim,λh=>h.elim,λh=>h.elim,λh=>h.elim,λh=>h.elim⟩
def ldR(P:Program)(t:TypeId)(cs:List Value)(o:Nat):Option Value:=match ff P t with
 |some false=>nth cs o
 |some true=>match dL P t with
  |some n=>bif Nat.ble (o+n) (fU cs) then fcM (eB (eK cs o) n) λl=>some (.agg ⟨l⟩) else none
  |none=>none
 |none=>none
def stR(P:Program)(L:List Fp)(q b:Nat)(cs:List Value)(t:TypeId)(o:Nat)(v:Value):Option (List Fp):=match dL P t with
 |some n=>fcV v λv=>fcM v.cells.toList λcl=>bif Nat.beq (fU cl) n&&(Nat.ble (o+fU cl) (fU cs)&&nw Value.oneCell' cl) then
   fcL (be cs o cl) λE=>fcL (L.set q [(b,.cells E none false)]) some
  else none
 |none=>none
def sgL(P:Program)(G0:Nat)(W:FW)(sz:Nat)(ops:Array Oper)(f:Fn)(hs:List (Nat×Hint)):Nat->List Oper->SS->List Fp->Option (SS×List Fp×Prop)
 |_,[],S,L=>some (S,L,True)
 |i,o::os,S,L=>match hintAt hs i with
  | .r q=>match ownAt L q,o.guard,o.op.operands.toList.all (bc G0)&&o.op.operands.toList.all (S.can []) with
   |some (b,cs),none,true=>match o.dst,o.op with
    |some d,.load t a=>match S.rd f a with
     | .pointer (some ⟨b',o',none⟩)=>match ldR P t cs o' with
      |some v=>bif Nat.ble (d+1) sz then match putS none [] S.G S.m d v with
        |some (S1,_)=>match sgL P G0 W sz ops f hs (i+1) os S1 L with
         |some (S2,L2,p)=>some (S2,L2,b'=b/\p)
         |none=>none
        |none=>none else none
      |none=>none
     |_=>none
    |none,.store t a x=>match S.rd f a with
     | .pointer (some ⟨b',o',none⟩)=>match stR P L q b cs t o' (S.rd f x) with
      |some L1=>match sgL P G0 WN sz ops f hs (i+1) os S L1 with
       |some (S2,L2,p)=>some (S2,L2,b'=b/\p)
       |none=>none
      |none=>none
     |_=>none
    |_,_=>none
   |_,_,_=>none
  |h=>match stepS P G0 W sz ops f S h o with
   |some (S1,q)=>match sgL P G0 W sz ops f hs (i+1) os S1 L with
    |some (S2,L2,p)=>some (S2,L2,andO q p)
    |none=>none
   |none=>none
section
variable {P:Program} {G0:Nat} {K:bJ} {sz:Nat} {Q:Ex->Fn->Heap->Prop} {ops:Array Oper} {os:List Oper} {k:List Fr} {f fr:Fn} {H:Heap} {S:SS} {B:Base} {F:Fz} {L R:List Fp}
theorem ldR_ok{t:TypeId}{cs o b v a ρ d}{ty:TypeId}{pos af gd}(hc:HC H.get b 0 cs)(E:ρ a= .pointer (some ⟨b,o,none⟩))(h:ldR P t cs o=some v):AP P ρ ⟨d,.load t a,ty,pos,af,gd⟩ H (.val v,H):=by
 unfold ldR at h;split at h
 ·rename_i ha;exact aU E ha hc (a0x _).symm (by rw[←hM];exact h)
 ·rename_i ha;split at h
  ·rename_i n O;cases hb:Nat.ble (o+n) (fU cs) with
   |false=>rw[hb]at h;cases h
   |true=>
    rw[hb]at h
    simp only[cond_true,fcM_eq,a01]at h
    subst h
    exact cm E ha O hc (a0x _).symm (by rw[←bp];exact hb) V
  cases h
 cases h
theorem stR_ok{q b o cs}{t:TypeId}{v E a x ρ d}{ty:TypeId}{pos af gd}(hs:HS B F H L R)(T:L[q]?=some [(b,.cells cs none false)])(ha:ρ a= .pointer (some ⟨b,o,none⟩))(U:ρ x=v)(h:stR P L q b cs t o v=some E):
  ∃r:Rs,AP P ρ ⟨d,.store t a x,ty,pos,af,gd⟩ H (.skip,r.H)/\(HS B F r.H E R/\Wr H r.H [b]):=by
 unfold stR at h
 split at h
 ·rename_i n O;simp only[fcV_eq,fcM_eq,nU]at h;cases hb:(Nat.beq (fU v.cells.toList) n&&(Nat.ble (o+fU v.cells.toList) (fU cs)&&nw Value.oneCell' v.cells.toList)) with
  |false=>rw[hb]at h;cases h
  |true=>
   rw[hb]at h
   simp only[cond_true,a01]at h
   subst h
   simp only[a04,bp]at hb
   exact ck hs T ha U O V hb.1 hb.2.1 hb.2.2 (by rw[nU])
 cases h
theorem jE{a}(E:S.Rel f fr)(h:S.can [] a=true):dE fr a=S.rd f a:=rd_ok (c:=[]) E V h
theorem mh{hs}: ∀{a:List Oper} {i:Nat} {W:FW} {S S':SS} {L L':List Fp} {p:Prop} {fr:Fn} {H:Heap},W.OK P G0 K (· =H)->sgL P G0 W sz ops f hs i a S L=some (S',L',p)->p->S.Rel f fr->HS B F H L R->
  (∀E H',HS B F H' L' R->(a.all (λo=>o.dst.isSome)=true->H'=H)->S'.Rel f E->WO P G0 K sz ops os k E H' Q)->WO P G0 K sz ops (a++os) k fr H Q
 | [],i,W,S,S',L,L',p,fr,H,hW,h,_,hr,hh,hk=>by simp only[sgL,a01,a05]at h;obtain⟨rfl,rfl,_⟩:=h;exact hk fr H hh (λ_=>rfl) hr
 |o::a,i,W,S,S',L,L',p,fr,H,hW,h,O,hr,hh,hk=>by
  unfold sgL at h;split at h
  ·rename_i q _;split at h
   ·rename_i b cs ho hg hc;rw[a04]at hc;have hq:=oM ho;have⟨b1,op,ty,pos,af,gd⟩:=o;simp only at hg hc h;subst hg;split at h
    ·rename_i d t x;simp only[Op.operands,a0l,a1o,a0D]at hc;split at h
     ·rename_i b' o' Z;split at h
      ·rename_i v e2;cases hb:Nat.ble (d+1) sz with
       |false=>rw[hb]at h;cases h
       |true=>
        rw[hb]at h
        simp only[cond_true]at h
        split at h
        ·rename_i S1 q1 e3;split at h
         ·rename_i S2 L2 p2 e4;cases h;obtain⟨rfl,O⟩:=O;have h1:=(mu (m:=S.m) (G:=S.G) hr (c:=[]) (λ_ _ hm=>(a0g hm).elim) e3).1;exact ad (ldR_ok (HS.hc hh hq) (by rw[jE hr hc.2];exact Z) e2) (by simp only[Op.operands,a0l,a1o,a0D];exact hc.1) hb (mh hW e4 O h1 hh λE H' T a2 U=>hk E H' T (λha=>a2 (by simpa using ha)) U)
         cases h
        cases h
      cases h
     cases h
    ·rename_i t x y;simp only[Op.operands,a0l,a1o,a0D,a04]at hc;split at h
     ·rename_i b' o' Z;split at h
      ·rename_i L1 e2;split at h
       ·rename_i S2 L2 p2 e4;cases h;obtain⟨rfl,O⟩:=O;refine gy (stR_ok hh hq (by rw[jE hr hc.2.1];exact Z) (jE hr hc.2.2) e2) (by simp only[Op.operands,a0l,a1o,a0D,a04];exact hc.1) ?_;rintro _ H1 _ ⟨h5,_⟩;exact mh okN e4 O hr h5 λE H' T a2 U=>hk E H' T (λha=>by simp at ha) U
       cases h
      cases h
     cases h
    cases h
   cases h
  split at h
  ·rename_i S1 q h1;split at h
   ·rename_i S2 L2 p2 h2;cases h;have⟨hq,ba⟩:=gF O;have⟨d,c,G1,v,Z,e2,e3,e4,e5,e6⟩:=iJ hW hr h1 hq;exact wo_do Z e2 e3 (gV hr e4) e5 V λH' a8=>by subst a8;exact mh hW h2 ba e6 hh λE H' T a2 U=>hk E H' T (λha=>a2 (by simp only[a0l,a04]at ha;exact ha.2)) U
   cases h
  cases h
def sdL(P:Program)(G0:Nat)(W:FW)(sz:Nat)(ops:Array Oper)(f:Fn)(hs:List (Nat×Hint)):Nat->List Oper->SS->List Fp->List (Nat×ID)->Option (SS×List Fp×List (Nat×ID)×Prop)
 |_,[],S,L,D=>some (S,L,D,True)
 |i,o::os,S,L,D=>match hintAt hs i with
  | .r q=>match ownAt L q,o.guard,o.op.operands.toList.all (bc G0)&&o.op.operands.toList.all (S.can []) with
   |some (b,cs),none,true=>match o.dst,o.op with
    |some d,.load t a=>match S.rd f a with
     | .pointer (some ⟨b',o',none⟩)=>match ldR P t cs o' with
      |some v=>bif Nat.ble (d+1) sz&&okB ops i (.l b') D then match putS none [] S.G S.m d v with
        |some (S1,_)=>match sdL P G0 W sz ops f hs (i+1) os S1 L ((i,.l b')::D) with
         |some (S2,L2,D2,p)=>some (S2,L2,D2,b'=b/\p)
         |none=>none
        |none=>none else none
      |none=>none
     |_=>none
    |none,.store t a x=>match S.rd f a with
     | .pointer (some ⟨b',o',none⟩)=>match stR P L q b cs t o' (S.rd f x),okB ops i (.x [b']) D with
      |some L1,true=>match sdL P G0 WN sz ops f hs (i+1) os S L1 ((i,.x [b'])::D) with
       |some (S2,L2,D2,p)=>some (S2,L2,D2,b'=b/\p)
       |none=>none
      |_,_=>none
     |_=>none
    |_,_=>none
   |_,_,_=>none
  |h=>match stepS P G0 W sz ops f S h o with
   |some (S1,q)=>bif aR o.op then match sdL P G0 W sz ops f hs (i+1) os S1 L ((i,.v)::D) with
     |some (S2,L2,D2,p)=>some (S2,L2,D2,andO q p)
     |none=>none
    else bif D.all (λe=>bnD e.2) then match sdL P G0 W sz ops f hs (i+1) os S1 L ((i,.r)::D) with
     |some (S2,L2,D2,p)=>some (S2,L2,D2,andO q p)
     |none=>none
    else none
   |none=>none
theorem wf_doV{D i d o c E v}(T:aR o.op=true)(hd:o.dst=some d)(hb:Nat.ble (d+1) sz=true)(U:o.op.operands.toList.all (bc G0)=true)(O:GOK ops f fr S o.guard c E)
  (Z:act E c=true->PRes P G0 K (· ={H with log:=[]}) (dE fr) ⟨some d,o.op,o.type,o.pos,o.after,none⟩ {H with log:=[]} v) (h:WF2 P G0 K sz ops ((i,.v)::D) (i+1) os k (upd fr d (bif act E c then v else undef)) H Q):WF2 P G0 K sz ops D i (o::os) k fr H Q:=by
 have⟨al,op,ty,pos,af,gd⟩:=o
 simp only at T hd U O Z
 subst hd
 cases ha:act E c with
 |true=>
  rw[ha]at h
  have base:WF2 P G0 K sz ops D i (⟨some d,op,ty,pos,af,none⟩::os) k fr H Q:=by
   cases Z ha with
   |val hv'=>exact bh hv' U hb (did_v T) (lC _) h
   |call g args he hk hc=>
    exfalso
    cases op<;>first|(cases hk;done)|(cases T;done)
  cases gd with
  |none=>exact base
  |some jw=>exact eg (O.on ha) V base
 |false=>
  rw[ha]at h
  have:=O.off ha
  cases gd with
  |none=>exact absurd this id
  |some jw=>
   rcases this with h1|h1
   ·exact wf_gn h1 hb h
   exact eh h1 V hb h
theorem kT{hs}: ∀{a:List Oper} {i:Nat} {W:FW} {S S':SS} {L L':List Fp} {D D':List (Nat×ID)} {p:Prop} {fr:Fn} {H:Heap},W.OK P G0 K (· ={H with log:=[]})->sdL P G0 W sz ops f hs i a S L D=some (S',L',D',p)->p->S.Rel f fr->HS B F H L R->
  (∀E H',HS B F H' L' R->(a.all (λo=>o.dst.isSome)=true->H'=H)->S'.Rel f E->WF2 P G0 K sz ops D' (i+J a) os k E H' Q)->WF2 P G0 K sz ops D i (a++os) k fr H Q
 | [],i,W,S,S',L,L',D,D',p,fr,H,hW,h,_,hr,hh,hk=>by simp only[sdL,a01,a05]at h;obtain⟨rfl,rfl,rfl,_⟩:=h;exact hk fr H hh (λ_=>rfl) hr
 |o::a,i,W,S,S',L,L',D,D',p,fr,H,hW,h,O,hr,hh,hk=>by
  rw[a02,show i+(J a+1)=i+1+(J a) by omega]at hk;unfold sdL at h;split at h
  ·rename_i q _;split at h
   ·rename_i b cs ho hg hc;rw[a04]at hc;have hq:=oM ho;have⟨b4,op,ty,pos,af,gd⟩:=o;simp only at hg hc h;subst hg;split at h
    ·rename_i d t x;simp only[Op.operands,a0l,a1o,a0D]at hc;split at h
     ·rename_i b' o' Z;split at h
      ·rename_i v e2;cases hb:(Nat.ble (d+1) sz&&okB ops i (.l b') D) with
       |false=>rw[hb]at h;cases h
       |true=>
        rw[hb]at h
        rw[a04]at hb
        simp only[cond_true]at h
        split at h
        ·rename_i S1 q1 e3;split at h
         ·rename_i S2 L2 D2 p2 e4;cases h;obtain⟨rfl,O⟩:=O;have h1:=(mu (m:=S.m) (G:=S.G) hr (c:=[]) (λ_ _ hm=>(a0g hm).elim) e3).1;have e5:dE fr x= .pointer (some ⟨b',o',none⟩):=by rw[jE hr hc.2];exact Z
          exact bh (ldR_ok (HS.hc hh.G5 hq) e5 e2) (by simp only[Op.operands,a0l,a1o,a0D];exact hc.1) hb.1 (iz e5) (kb hb.2) (kT hW e4 O h1 hh λE H' T a2 U=>hk E H' T (λha=>a2 (by simpa using ha)) U)
         cases h
        cases h
      cases h
     cases h
    ·rename_i t x y;simp only[Op.operands,a0l,a1o,a0D,a04]at hc;split at h
     ·rename_i b' o' Z;split at h
      ·rename_i L1 e2 e3;split at h
       ·rename_i S2 L2 D2 p2 e4;cases h;obtain⟨rfl,O⟩:=O;refine ef (stR_ok hh.G5 hq (by rw[jE hr hc.2.1];exact Z) (jE hr hc.2.2) e2) (by simp only[Op.operands,a0l,a1o,a0D,a04];exact hc.1) ?_ (kb e3) ?_
        ·rintro _ H1 _ ⟨_,hwr⟩;exact dl V V (Wr.did hwr)
        rintro _ H1 _ ⟨h5,_⟩ l hl;exact kT okN e4 O hr (HS.lg h5 hh hl) λE H' T a2 U=>hk E H' T (λha=>by simp at ha) U
       cases h
      cases h
     cases h
    cases h
   cases h
  split at h
  ·rename_i S1 q h1;cases hv:aR o.op with
   |true=>
    rw[hv]at h
    simp only[cond_true]at h
    split at h
    ·rename_i S2 L2 D2 p2 h2;cases h;have⟨hq,a5⟩:=gF O;have⟨d,c,G1,v,Z,e2,e3,e4,e5,e6⟩:=iJ hW hr h1 hq;exact wf_doV hv Z e2 e3 (gV hr e4) (λha=>e5 ha _ V) (kT hW h2 a5 e6 hh λE H' T a2 U=>hk E H' T (λha=>a2 (by simp only[a0l,a04]at ha;exact ha.2)) U)
    cases h
   |false=>
    rw[hv]at h
    simp only[cond_false]at h
    cases hD:D.all (λe=>bnD e.2) with
    |false=>rw[hD]at h;cases h
    |true=>
     rw[hD]at h
     simp only[cond_true]at h
     split at h
     ·rename_i S2 L2 D2 p2 h2;cases h;have⟨hq,a5⟩:=gF O;have⟨d,c,G1,v,Z,e2,e3,e4,e5,e6⟩:=iJ hW hr h1 hq;exact wf_do hD Z e2 e3 (gV hr e4) (λha=>e5 ha _ V) (kT hW h2 a5 e6 hh λE H' T a2 U=>hk E H' T (λha=>a2 (by simp only[a0l,a04]at ha;exact ha.2)) U)
     cases h
  cases h
theorem Hr_(i q:Nat){b:Nat}{hs p}(r:HP hs p):HP ((i,.r q)::hs) (b=b/\p):=⟨V,r⟩
def sgE(lo hi:Nat)(ex E:List Nat)(r:Option (SS×List Fp×Prop)):Option (List (Nat×Value)×List Fp×Prop):=match r with
 |none=>none
 |some (S,L,p)=>bif S.m.all (λe=>inR lo hi ex e.1) then
   match fins S.m E with
   |some l=>some (l,L,p)
   |none=>none
  else none
def sdE(lo hi:Nat)(ex E:List Nat)(r:Option (SS×List Fp×List (Nat×ID)×Prop)):Option (List (Nat×Value)×List Fp×List (Nat×ID)×Prop):=match r with
 |none=>none
 |some (S,L,D,p)=>bif S.m.all (λe=>inR lo hi ex e.1) then
   match fins S.m E with
   |some l=>some (l,L,D,p)
   |none=>none
  else none
theorem sgE_ok{lo hi ex T r l E p}(h:sgE lo hi ex T r=some (l,E,p)): ∃S,r=some (S,E,p)/\∀fr,S.Rel f fr->∃g,fr=hY (hav lo hi ex g f) l:=by
 unfold sgE at h;split at h
 ·cases h
 rename_i S Z p1;cases hb:S.m.all (λe=>inR lo hi ex e.1) with
 |false=>rw[hb]at h;cases h
 |true=>
  rw[hb]at h
  simp only[cond_true]at h
  split at h
  ·rename_i l' U;cases h;refine⟨S,V,λfr O=>⟨fr,?_⟩⟩;rw[←(kF O hb).eq,gz (pu O U)]
  cases h
theorem sdE_ok{lo hi ex U r l O E p}(h:sdE lo hi ex U r=some (l,O,E,p)): ∃S,r=some (S,O,E,p)/\∀fr,S.Rel f fr->∃g,fr=hY (hav lo hi ex g f) l:=by
 unfold sdE at h;split at h
 ·cases h
 rename_i S L1 D1 p1;cases hb:S.m.all (λe=>inR lo hi ex e.1) with
 |false=>rw[hb]at h;cases h
 |true=>
  rw[hb]at h
  simp only[cond_true]at h
  split at h
  ·rename_i l' Z;cases h;refine⟨S,V,λfr T=>⟨fr,?_⟩⟩;rw[←(kF T hb).eq,gz (pu T Z)]
  cases h
variable {c1:Code} {k1:List Fr}
theorem sgo(n i:Nat){E hs}(lo hi:Nat)(ex:List Nat)(l:List (Nat×Value)){O p}(hp:HP hs p)(hh:HS B F H L R)(h:sgE lo hi ex (eu Prod.fst l) (sgL P G0 (W0 P G0 K H) sz ops f hs i (eB os n) ⟨[],[]⟩ L)=some (l,O,p))(he:eK os n=E)
  (hk: ∀g H',HS B F H' O R->WO P G0 K sz ops E k (hY (hav lo hi ex g f) l) H' Q):WO P G0 K sz ops os k f H Q:=by
 subst he
 have⟨S,U,Z⟩:=sgE_ok (f:=f) h
 have:=mh (os:=eK os n) (k:=k) (Q:=Q) ok0 U hp rel0 hh (λfr H' T _ hr=>by obtain⟨g,rfl⟩:=Z fr hr;exact hk g H' T)
 rwa [bL,bX,a1n]at this
theorem sgr(n:Nat){id hs}(lo hi:Nat)(ex:List Nat)(l:List (Nat×Value)){E p}(hp:HP hs p)(hh:HS B F H L R)(h:sgE lo hi ex (eu Prod.fst l) (sgL P G0 (W0 P G0 K H) sz ops f hs 0 ops.toList ⟨[],[]⟩ L)=some (l,E,p))(Z:foc n .skip k=(c1,k1))
  (hk: ∀g H',HS B F H' E R->WK P G0 K sz c1 k1 (hY (hav lo hi ex g f) l) H' Q):WK P G0 K sz (.region id ops false) k f H Q:=by
 have⟨S,T,U⟩:=sgE_ok (f:=f) h
 refine ab ?_
 have:=mh (os:=[]) (k:=k) (Q:=Q) ok0 T hp rel0 hh (λfr H' O _ hr=>by obtain⟨g,rfl⟩:=U fr hr;exact aB (aj n Z (hk g H' O)))
 rwa [a0k]at this
theorem sdo(n:Nat){i i' E hs}(lo hi:Nat)(ex:List Nat)(l:List (Nat×Value)){T D O p}(hp:HP hs p)(hh:HS B F H L R)(h:sdE lo hi ex (eu Prod.fst l) (sdL P G0 (W0 P G0 K {H with log:=[]}) sz ops f hs i (eB os n) ⟨[],[]⟩ L D)=some (l,T,O,p))(U:(eK os n,i+J (eB os n))=(E,i'))
  (hk: ∀g H',HS B F H' T R->WF2 P G0 K sz ops O i' E k (hY (hav lo hi ex g f) l) H' Q):WF2 P G0 K sz ops D i os k f H Q:=by
 simp only[a05]at U
 obtain⟨rfl,rfl⟩:=U
 have⟨S,h1,h2⟩:=sdE_ok (f:=f) h
 have:=kT (os:=eK os n) (k:=k) (Q:=Q) ok0 h1 hp rel0 hh (λfr H' Z _ hr=>by obtain⟨g,rfl⟩:=h2 fr hr;exact hk g H' Z)
 rwa [bL,bX,a1n]at this
theorem sdr(n:Nat){id hs}(lo hi:Nat)(ex:List Nat)(l:List (Nat×Value)){O U p}(hp:HP hs p)(hh:HS B F H L R)(E:(jU ops&&P.follows .mixedOrders)=true)(h:sdE lo hi ex (eu Prod.fst l) (sdL P G0 (W0 P G0 K {H with log:=[]}) sz ops f hs 0 ops.toList ⟨[],[]⟩ L [])=some (l,O,U,p))(hf:foc n .skip k=(c1,k1))
  (hk: ∀g H',HS B F H' O R->WK P G0 K sz c1 k1 (hY (hav lo hi ex g f) l) H' Q):WK P G0 K sz (.region id ops true) k f H Q:=by
 have⟨S,Z,h2⟩:=sdE_ok (f:=f) h
 refine az E ?_
 have:=kT (os:=[]) (k:=k) (Q:=Q) ok0 Z hp rel0 hh (λfr H' T _ E=>by obtain⟨g,rfl⟩:=h2 fr E;exact fE (aj n hf (hk g H' T)))
 rwa [a0k]at this
theorem cS(n i:Nat){O hs}(lo hi:Nat)(ex:List Nat)(l:List (Nat×Value)){T p}(hp:HP hs p)(hh:HS B F H L R)(h:sgE lo hi ex (eu Prod.fst l) (sgL P G0 (W0 P G0 K H) sz ops f hs i (eB os n) ⟨[],[]⟩ L)=some (l,T,p))(E:(eK os n,(eB os n).all (λo=>o.dst.isSome))=(O,true))
  (hk: ∀g,WO P G0 K sz ops O k (hY (hav lo hi ex g f) l) H Q):WO P G0 K sz ops os k f H Q:=by
 simp only[a05]at E
 obtain⟨rfl,E⟩:=E
 have⟨S,U,Z⟩:=sgE_ok (f:=f) h
 have:=mh (os:=eK os n) (k:=k) (Q:=Q) ok0 U hp rel0 hh (λfr H' aA e hr=>by obtain⟨g,rfl⟩:=Z fr hr;rw[e E];exact hk g)
 rwa [bL,bX,a1n]at this
theorem bQ(n:Nat){id hs}(lo hi:Nat)(ex:List Nat)(l:List (Nat×Value)){O p}(hp:HP hs p)(Z:HS B F H L R)(h:sgE lo hi ex (eu Prod.fst l) (sgL P G0 (W0 P G0 K H) sz ops f hs 0 ops.toList ⟨[],[]⟩ L)=some (l,O,p))(E:(foc n .skip k,ops.toList.all (λo=>o.dst.isSome))=((c1,k1),true))
  (hk: ∀g,WK P G0 K sz c1 k1 (hY (hav lo hi ex g f) l) H Q):WK P G0 K sz (.region id ops false) k f H Q:=by
 rw[a05]at E
 have⟨S,T,U⟩:=sgE_ok (f:=f) h
 refine ab ?_
 have:=mh (os:=[]) (k:=k) (Q:=Q) ok0 T hp rel0 Z (λfr H' ax e hr=>by obtain⟨g,rfl⟩:=U fr hr;rw[e E.2];exact aB (aj n E.1 (hk g)))
 rwa [a0k]at this
theorem cC(n:Nat){i U O hs}(lo hi:Nat)(ex:List Nat)(l:List (Nat×Value)){Z D T p}(hp:HP hs p)(hh:HS B F H L R)(h:sdE lo hi ex (eu Prod.fst l) (sdL P G0 (W0 P G0 K {H with log:=[]}) sz ops f hs i (eB os n) ⟨[],[]⟩ L D)=some (l,Z,T,p))(E:(eK os n,i+J (eB os n),(eB os n).all (λo=>o.dst.isSome))=(O,U,true))
  (hk: ∀g,WF2 P G0 K sz ops T U O k (hY (hav lo hi ex g f) l) H Q):WF2 P G0 K sz ops D i os k f H Q:=by
 simp only[a05]at E
 obtain⟨rfl,rfl,E⟩:=E
 have⟨S,h1,h2⟩:=sdE_ok (f:=f) h
 have:=kT (os:=eK os n) (k:=k) (Q:=Q) ok0 h1 hp rel0 hh (λfr H' a2 e hr=>by obtain⟨g,rfl⟩:=h2 fr hr;rw[e E];exact hk g)
 rwa [bL,bX,a1n]at this
theorem sdr0(n:Nat){id hs}(lo hi:Nat)(ex:List Nat)(l:List (Nat×Value)){U T p}(hp:HP hs p)(hh:HS B F H L R)(O:(jU ops&&P.follows .mixedOrders)=true)(h:sdE lo hi ex (eu Prod.fst l) (sdL P G0 (W0 P G0 K {H with log:=[]}) sz ops f hs 0 ops.toList ⟨[],[]⟩ L [])=some (l,U,T,p))(E:(foc n .skip k,ops.toList.all (λo=>o.dst.isSome))=((c1,k1),true))
  (hk: ∀g,WK P G0 K sz c1 k1 (hY (hav lo hi ex g f) l) H Q):WK P G0 K sz (.region id ops true) k f H Q:=by
 rw[a05]at E
 have⟨S,Z,h2⟩:=sdE_ok (f:=f) h
 refine az O ?_
 have:=kT (os:=[]) (k:=k) (Q:=Q) ok0 Z hp rel0 hh (λfr H' aA e O=>by obtain⟨g,rfl⟩:=h2 fr O;rw[e E.2];exact fE (aj n E.1 (hk g)))
 rwa [a0k]at this
theorem wcD{D i j d}{ty:TypeId}{pos af args U g fn al T q}(W:List Nat)(hh:HS B F H L R)(hq:L[j]?=some q)(hw:q.map Prod.fst=W)(hc:C P G0 K g al {H with log:=[]} T)
  (E:(P.funcs[g]?,eu (dE f) args.toList,Nat.ble (d+1) sz,(Op.call ⟨.value (.func g),args,U⟩).operands.toList.all (bc G0))=(some fn,al,true,true)) (hb:(fn.body.isSome&& !(fn.name== "runtime.NumGoroutine"))=true) (a1:okD ops i (.x W) D)
  (h: ∀v O,T v O->∃F' Z b_,HS (.of {H with log:=[]} W) F' O (Z::b_) (L.set j []++R)/\∀H3,HS B F' H3 (L.set j Z++b_) R->WF2 P G0 K sz ops ((i,.x W)::D) (i+1) os k (upd f d v) H3 Q):
  WF2 P G0 K sz ops D i (⟨some d,.call ⟨.value (.func g),args,U⟩,ty,pos,af,none⟩::os) k f H Q:=by
 subst hw
 simp only[a05]at E
 refine bH (bj E.1 hb E.2.1) E.2.2.2 E.2.2.1 V hc a1 ?_
 intro v O hT
 have⟨F',Z,b_,h1,h2⟩:=h v O hT
 refine⟨HS.didW h1,λl hl=>h2 _ ?_⟩
 exact HS.lg (HS.backOwn hh.G5 hq V (λ_ hb=>hb) h1) hh hl
theorem HS.bO{W p q b_ i F' E H'}(h:HS B F H L R)(k:HS (.of E W) F' H' (q::b_) (L.set i []++R))(hi:L[i]?=some p:=by rfl)(O:E=H:=by rfl)(T: ∀b,b∈W->b∈p.map Prod.fst:=by exact λ_ h=>h):HS B F' H' (L.set i q++b_) R:=by exact HS.backOwn h hi O T k
theorem zn{e:TypeId}{d}{ty:TypeId}{pos af z}(O:HS B F H L R)(E:(dm P e,Nat.ble (d+1) sz)=(some z,true))(T: ∀b H1,HS B F H1 (L++[[(b,.cells z none false)]]) R->WO P G0 K sz ops os k (upd f d (.pointer (some ⟨b,0,none⟩))) H1 Q):WO P G0 K sz ops (⟨some d,.alloc e,ty,pos,af,none⟩::os) k f H Q:=by simp only[a05]at E;refine bd (nG O E.1) V E.2 ?_;rintro _ H1 _ ⟨b,rfl,h1,_⟩;exact T b H1 h1
theorem znD{D i}{e:TypeId}{d}{ty:TypeId}{pos af z}(O:HS B F H L R)(E:(dm P e,Nat.ble (d+1) sz,okB ops i .a D)=(some z,true,true))(T: ∀b H1,HS B F H1 (L++[[(b,.cells z none false)]]) R->WF2 P G0 K sz ops ((i,.a)::D) (i+1) os k (upd f d (.pointer (some ⟨b,0,none⟩))) H1 Q):WF2 P G0 K sz ops D i (⟨some d,.alloc e,ty,pos,af,none⟩::os) k f H Q:=by simp only[a05]at E;refine kv (nG O.G5 E.1) V E.2.1 (λ_ _ _ _=>did_a V V V) (kb E.2.2) ?_;rintro _ H1 _ ⟨b,rfl,h1,_⟩ l hl;exact T b _ (HS.lg h1 O hl)
def litL(P:Program)(f:Fn)(m:Nat)(t:TypeId)(n:Nat)(E:Array (Nat×Operand)):Option (List Value):=match ej P t with
 |some (s,z)=>bif Nat.beq s m&&Nat.ble (n *s) 16777216 then match fillL (λi=>some (i *s,s)) (dY n z) (eu (λp=>(p.1,dE f p.2)) E.toList) with
   |some cs=>fcM cs some
   |none=>none
  else none
 |none=>none
theorem litL_ok{m}{t:TypeId}{n E cs}(h:litL P f m t n E=some cs): ∃z,ej P t=some (m,z)/\Nat.ble (n *m) 16777216=true/\Instr.fill (λi=>some (i *m,m)) ⟨dY n z⟩ (eu (λp=>(p.1,dE f p.2)) E.toList)=some ⟨cs⟩:=by
 unfold litL at h;split at h
 ·rename_i s z e;cases hb:(Nat.beq s m&&Nat.ble (n *s) 16777216) with
  |false=>rw[hb]at h;cases h
  |true=>
   rw[hb]at h
   simp only[cond_true]at h
   rw[a04]at hb
   have:=a0a hb.1
   subst this
   split at h
   ·rename_i T O;rw[fcM_eq,a01]at h;subst h;exact⟨z,e,hb.2,pw _ _ _ _ O⟩
   cases h
 cases h
theorem RL.nl{α:Type} [Rp α]:RL F [] ([]:List α):=rfl
theorem RL.cs{α:Type} [Rp α]{x:α}{l:List α}{c r:List Value}(h:Rp.rep F c x)(t:RL F r l):RL F (c++r) (x::l):=⟨c,r,V,h,t⟩
section
variable {α:Type} [Rp α] {d:Tmp} {ty:TypeId} {pos:String} {af:Array Edge} {D:List (Nat×ID)} {i:Nat}
theorem zlo{t:TypeId}{n E cells O}(l:List α)(hh:HS B F H L R)(T:(litL P f (Rp.sz α) t n E,Nat.ble (d+1) sz,(Op.buildSlice t n E).operands.toList.all (bc G0),fU l)=(some cells,true,true,n))(hr:RL F O l)(hc:cells=O)
  (hk: ∀a U p H1,OS F (.slice a (J l) U) l p->HS B F H1 (L++[p]) R->WO P G0 K sz ops os k (upd f d (.slice a (J l) U)) H1 Q):WO P G0 K sz ops (⟨some d,.buildSlice t n E,ty,pos,af,none⟩::os) k f H Q:=by
 subst hc
 simp only[a05]at T
 have⟨z,Z,h2,h3⟩:=litL_ok T.1
 refine bd (ja l hh V Z h2 h3 hr (by rw[←bp];exact T.2.2.2)) T.2.2.1 T.2.1 ?_
 rintro _ H1 p ⟨a,U,rfl,ho,h5,_⟩
 exact hk a U p H1 ho h5
theorem zld{t:TypeId}{n E cells O}(l:List α)(Z:HS B F H L R)(T:(litL P f (Rp.sz α) t n E,Nat.ble (d+1) sz,(Op.buildSlice t n E).operands.toList.all (bc G0),fU l,okB ops i .a D)=(some cells,true,true,n,true))(hr:RL F O l)(hc:cells=O)
  (hk: ∀a U p H1,OS F (.slice a (J l) U) l p->HS B F H1 (L++[p]) R->WF2 P G0 K sz ops ((i,.a)::D) (i+1) os k (upd f d (.slice a (J l) U)) H1 Q):WF2 P G0 K sz ops D i (⟨some d,.buildSlice t n E,ty,pos,af,none⟩::os) k f H Q:=by
 subst hc
 simp only[a05]at T
 have⟨z,h1,h2,h3⟩:=litL_ok T.1
 refine kv (ja l Z.G5 V h1 h2 h3 hr (by rw[←bp];exact T.2.2.2.1)) T.2.2.1 T.2.1 (λ_ _ _ _=>did_a V V V) (kb T.2.2.2.2) ?_
 rintro _ H1 p ⟨a,U,rfl,ho,h5,_⟩ lg hl
 exact hk a U p _ ho (HS.lg h5 Z hl)
theorem zao{s0 x0:Operand}{st e:TypeId}{v u:Value}{l l2:List α}{p:Fp}{al:Nat}{z:List Value}(q:Nat)(ho:OS F v l p)(hh:HS B F H L R)(hu:Sv F H.get u l2)(O:(L[q]?,dE f s0,dE f x0,P.underlying st)=(some p,v,u,some (.slice e)))(T:(dL P e,gW P e,dm P e)=(some (Rp.sz α),some al,some z))
  (E:(Nat.beq (fU z) (Rp.sz α)&&(Nat.ble al 4096&&(!Nat.beq (Rp.sz α) 0&&(Nat.ble (d+1) sz&&(Op.call ⟨.builtin .append, #[s0,x0], #[st,st]⟩).operands.toList.all (bc G0)))))=true) (hl:l.length+l2.length<=2147483648)
  (hk: ∀a U Z H1,OS F (.slice a (l++l2).length U) (l++l2) Z->HS B F H1 (L.set q Z) R->WO P G0 K sz ops os k (upd f d (.slice a (l++l2).length U)) H1 Q):WO P G0 K sz ops (⟨some d,.call ⟨.builtin .append, #[s0,x0], #[st,st]⟩,ty,pos,af,none⟩::os) k f H Q:=by
 simp only[a05]at O T
 simp only[a04,a0K]at E
 refine bd (rs_app ho hh O.1 O.2.1 O.2.2.1 hu O.2.2.2 T.1 T.2.1 T.2.2 E.1 E.2.1 E.2.2.1 hl) E.2.2.2.2 E.2.2.2.1 ?_
 rintro _ H1 Z ⟨a,U,rfl,h5,h6,_⟩
 exact hk a U Z H1 h5 h6
theorem zad{s0 x0:Operand}{st e:TypeId}{v u:Value}{l l2:List α}{p:Fp}{al:Nat}{z:List Value}(q:Nat)(ho:OS F v l p)(hh:HS B F H L R)(hu:Sv F H.get u l2)(O:(L[q]?,dE f s0,dE f x0,P.underlying st)=(some p,v,u,some (.slice e)))(T:(dL P e,gW P e,dm P e)=(some (Rp.sz α),some al,some z))
  (E:(Nat.beq (fU z) (Rp.sz α)&&(Nat.ble al 4096&&(!Nat.beq (Rp.sz α) 0&&(Nat.ble (d+1) sz&&(Op.call ⟨.builtin .append, #[s0,x0], #[st,st]⟩).operands.toList.all (bc G0)))))=true) (hl:l.length+l2.length<=2147483648) (aA:okD ops i (.x (p.map Prod.fst)) D)
  (hk: ∀a U Z H1,OS F (.slice a (l++l2).length U) (l++l2) Z->HS B F H1 (L.set q Z) R->WF2 P G0 K sz ops ((i,.x (p.map Prod.fst))::D) (i+1) os k (upd f d (.slice a (l++l2).length U)) H1 Q):WF2 P G0 K sz ops D i (⟨some d,.call ⟨.builtin .append, #[s0,x0], #[st,st]⟩,ty,pos,af,none⟩::os) k f H Q:=by
 simp only[a05]at O T
 simp only[a04,a0K]at E
 refine kv (rs_app ho hh.G5 O.1 O.2.1 O.2.2.1 hu O.2.2.2 T.1 T.2.1 T.2.2 E.1 E.2.1 E.2.2.1 hl) E.2.2.2.2 E.2.2.2.1 ?_ aA ?_
 ·rintro _ _ _ ⟨_,_,rfl,_,_,hwr⟩;exact dl V V (Wr.did hwr)
 rintro _ H1 Z ⟨a,U,rfl,h5,h6,_⟩ lg hl'
 exact hk a U Z _ h5 (HS.lg h6 hh hl')
end
end
def JJ(B:Base)(F:Fz)(L R:List Fp)(H:Heap):Prop:= ∃F',Fz.le F F'/\HS B F' H L R
section
variable {P:Program} {G:Nat} {K:bJ} {sz:Nat} {Q:Ex->Fn->Heap->Prop} {f:Fn} {H:Heap} {B:Base} {F:Fz} {L R:List Fp} {c1:Code} {k k1:List Fr}
theorem wj(n:Nat)(hs:HS B F H L R){id ops}(hts:List (Nat×Hint))(lo hi:Nat)(ex:List Nat)(l:List (Nat×Value)){p}(T:p)(h:gB P G (WJ P G K (JJ B F L R)) sz ops f 0 ops.toList hts lo hi ex (eu Prod.fst l)=some (l,p))
  (O: ∀g H F',Fz.le F F'->HS B F' H L R->WK P G K sz c1 k1 (hY (hav lo hi ex g f) l) H Q) (E:foc n .skip k=(c1,k1):=by rfl):WK P G K sz (.region id ops false) k f H Q:=
 wk_rgJ (JJ B F L R) hts lo hi ex ⟨F,Fz.le_refl F,hs⟩ h T λg H' ⟨F',h1,h2⟩=>aj n E (O g H' F' h1 h2)
theorem jl0(hs:HS B F H L R){b cs w}(t:TypeId)(i j:Nat)(ha:ff P t=some false)(h:L[j]?=some [(b,.cells cs none false)])(E:cs[i]?=some w): ∀H,JJ B F L R H->LDv P H t (.pointer (some ⟨b,i,none⟩)) w:=
 λ_ ⟨_,_,q⟩=>by have:=ld1 (o:=0) (HS.hc q h) ha E;rwa [a0x]at this
theorem jn0(hs:HS B F H L R){b cs l}(t:TypeId)(i n j:Nat)(ha:ff P t=some true)(T:dL P t=some n)(h:L[j]?=some [(b,.cells cs none false)])(O:Nat.ble (i+n) (J cs)=true)(E:eB (eK cs i) n=l): ∀H,JJ B F L R H->LDv P H t (.pointer (some ⟨b,i,none⟩)) (.agg ⟨l⟩):=
 λ_ ⟨_,_,q⟩=>by have:=ldN (o:=0) (HS.hc q h) ha T O E;rwa [a0x]at this
def FzC(F:Fz)(b:Nat)(cs:List Value):Prop:=F b=some (.cells cs none false)
theorem FzC.ac{F' b cs}(h:FzC F b cs)(E:Fz.le F F'):FzC F' b cs:=E _ _ h
instance{F':Fz}{b:Nat}{cs:List Value}:Mo F F' (FzC F b cs) (FzC F' b cs):=⟨λh x=>x.ac h⟩
theorem FzC.hc{b cs}(h:FzC F b cs)(hs:HS B F H L R):HC H.get b 0 cs:=HC.same (hs.fz _ _ h).1
theorem jf0(hs:HS B F H L R){b cs w}(t:TypeId)(i:Nat)(hb:FzC F b cs)(ha:ff P t=some false)(E:cs[i]?=some w): ∀H,JJ B F L R H->LDv P H t (.pointer (some ⟨b,i,none⟩)) w:=
 λ_ ⟨_,h,q⟩=>by have:=ld1 (o:=0) ((hb.ac h).hc q) ha E;rwa [a0x]at this
theorem HS.frc(hs:HS B F H L R){b i cs}(h:L[i]?=some [(b,.cells cs none false)]): ∃F',Fz.le F F'/\HS B F' H (L.set i []) R/\FzC F' b cs:=by have⟨F',E,O,T⟩:=hs.freeze h;exact⟨F',E,O,T _ _ (a0I.2 V)⟩
theorem ap_mkf{ρ d}{ty:TypeId}{pos af gd fn first E v}(h:Value.func fn (first.map ρ) (E.map ρ)=v):AP P ρ ⟨d,.makeFunc fn first E,ty,pos,af,gd⟩ H (.val v,H):=⟨by rw[←h];rfl⟩
theorem HS.reflat{O}(h:HS B F H L R)(e:O.flatten=L.flatten):HS B F H O R:=
 have m: ∀p,p∈O->∀b o,(b,o)∈p->∃q,q∈L/\(b,o)∈q:=λp E b o hb=>by have:(b,o)∈L.flatten:=e▸a0P.2 ⟨p,E,hb⟩;exact a0P.1 this
 ⟨h.fz,λp E b o hb=>by
   rcases E with E|E
   ·have⟨q,T,U⟩:=m p E b o hb;exact h.own q (.inl T) b o U
   exact h.own p (.inr E) b o hb,
  by have:=h.nd;rw[a0U]at this⊢;rwa [e],h.n0,h.log,λp E b o hb=>by
   have⟨q,T,U⟩:=m p E b o hb;exact h.mine q T b o U⟩
theorem HS.own2{p q}(h:HS B F H (p::q::L) R):HS B F H [p++q] R:=HS.reflat (L:=[p,q]) (h.sub (.cons_cons _ (.cons_cons _ (List.nil_sublist _)))) (by simp)
theorem jc(hs:HS B F H L R){g:FuncId}{args:List Value}{α:Type}{e:α->Value}{c_:α}(h: ∀E H1,Fz.le F E->HS (.of H1 []) E H1 [] (L++R)->C P G K g args H1 λv T=> ∃(o:α) (O:Fz),Fz.le E O/\HS (.of H1 []) O T [] (L++R)/\v=e o/\o=c_):
  ∀H,JJ B F L R H->C P G K g args H λv H'=>v=e c_/\JJ B F L R H':=
 λH ⟨E,h1,q⟩=>(h E H h1 q.call).ac λv H' ⟨o,O,h2,q2,e1,e2⟩=>⟨by rw[e1,e2],O,Fz.le_trans h1 h2,by
  have:=q.G8 V q2;rwa [a0k]at this⟩
theorem jp(hs:HS B F H L R){g args v}(h: ∀H,C P G K g args H λv' H'=>v'=v/\H'=H): ∀H,JJ B F L R H->C P G K g args H λv' H'=>v'=v/\JJ B F L R H':=
 λH q=>(h H).ac λv' H' ⟨e1,e2⟩=>⟨e1,by rw[e2];exact q⟩
end
section
variable {P:Program} {G0:Nat} {K:bJ} {sz:Nat} {Q:Ex->Fn->Heap->Prop} {ops:Array Oper} {os:List Oper} {k k1:List Fr} {c1:Code} {f fr:Fn} {H:Heap} {S:SS} {B:Base} {F:Fz} {L R:List Fp}
theorem sj_row{hs}: ∀{a:List Oper} {i:Nat} {S S':SS} {T:List Fp} {p:Prop} {fr:Fn} {H:Heap},JJ B F L R H->a.all (λo=>o.dst.isSome)=true->sgL P G0 (WJ P G0 K (JJ B F L R)) sz ops f hs i a S L=some (S',T,p)->p->S.Rel f fr->
  (∀O H',JJ B F L R H'->S'.Rel f O->WO P G0 K sz ops os k O H' Q)->WO P G0 K sz ops (a++os) k fr H Q
 | [],i,S,S',T,p,fr,H,hJ,_,h,_,hr,hk=>by simp only[sgL,a01,a05]at h;obtain⟨rfl,_,_⟩:=h;exact hk fr H hJ hr
 |o::a,i,S,S',T,p,fr,H,hJ,hd,h,E,hr,hk=>by
  rw[a0l,a04]at hd;unfold sgL at h;split at h
  ·rename_i q _;split at h
   ·rename_i b cs ho hg hc;rw[a04]at hc;have hq:=oM ho;have⟨bn,op,ty,pos,af,gd⟩:=o;simp only at hg hc h hd;subst hg;split at h
    ·rename_i d t x;simp only[Op.operands,a0l,a1o,a0D]at hc;split at h
     ·rename_i b' o' U;split at h
      ·rename_i v Z;cases hb:Nat.ble (d+1) sz with
       |false=>rw[hb]at h;cases h
       |true=>
        rw[hb]at h
        simp only[cond_true]at h
        split at h
        ·rename_i S1 q1 e3;split at h
         ·rename_i S2 L2 p2 e4;cases h;obtain⟨rfl,E⟩:=E;have h1:=(mu (m:=S.m) (G:=S.G) hr (c:=[]) (λ_ _ hm=>(a0g hm).elim) e3).1;have⟨F',aA,hh⟩:=hJ;exact ad (ldR_ok (HS.hc hh hq) (by rw[jE hr hc.2];exact U) Z) (by simp only[Op.operands,a0l,a1o,a0D];exact hc.1) hb (sj_row ⟨F',aA,hh⟩ hd.2 e4 E h1 hk)
         cases h
        cases h
      cases h
     cases h
    ·cases hd.1
    cases h
   cases h
  split at h
  ·rename_i S1 q h1;split at h
   ·rename_i S2 L2 p2 h2;cases h;have⟨hq,a4⟩:=gF E;have⟨d,c,G1,v,U,Z,e3,e4,e5,e6⟩:=iJ okJ hr h1 hq;exact wo_do U Z e3 (gV hr e4) e5 hJ λH' a1=>sj_row a1 hd.2 h2 a4 e6 hk
   cases h
  cases h
theorem sj(n:Nat){id hs}(lo hi:Nat)(ex:List Nat)(l:List (Nat×Value)){p}(hp:HP hs p)(U:HS B F H L R)(h:sgE lo hi ex (eu Prod.fst l) (sgL P G0 (WJ P G0 K (JJ B F L R)) sz ops f hs 0 ops.toList ⟨[],[]⟩ L)=some (l,L,p))(E:(foc n .skip k,ops.toList.all (λo=>o.dst.isSome))=((c1,k1),true))
  (Z: ∀g H F',Fz.le F F'->HS B F' H L R->WK P G0 K sz c1 k1 (hY (hav lo hi ex g f) l) H Q):WK P G0 K sz (.region id ops false) k f H Q:=by
 rw[a05]at E
 have⟨S,O,T⟩:=sgE_ok (f:=f) h
 refine ab ?_
 have:=sj_row (os:=[]) (k:=k) (Q:=Q) ⟨F,Fz.le_refl F,U⟩ E.2 O hp rel0 (λfr H' ⟨F',q1,q2⟩ hr=>by obtain⟨g,rfl⟩:=T fr hr;exact aB (aj n E.1 (Z g H' F' q1 q2)))
 rwa [a0k]at this
theorem Hj_(i:Nat){d_:Heap->Prop}{t:TypeId}{a v:Value}{hs:List (Nat×Hint)}{p:Prop}(h: ∀H,d_ H->LDv P H t a v)(r:HP hs p):HP ((i,.o v)::hs) ((∀H,d_ H->LDv P H t a v)/\p):=⟨h,r⟩
theorem Hk_(i:Nat){d_:Heap->Prop}{g:FuncId}{args:List Value}{v:Value}{hs:List (Nat×Hint)}{p:Prop}(h: ∀H,d_ H->C P G0 K g args H λv' H'=>v'=v/\d_ H')(r:HP hs p):HP ((i,.o v)::hs) ((∀H,d_ H->C P G0 K g args H λv' H'=>v'=v/\d_ H')/\p):=⟨h,r⟩
theorem dj(i:Nat){E w0:Bool}{H:Heap}{t:TypeId}{a v:Value}{hs:List (Nat×Hint)}{p:Prop}(h:E=w0->LDv P H t a v)(r:HP hs p):HP ((i,.o v)::hs) ((E=w0->LDv P H t a v)/\p):=⟨h,r⟩
theorem Hc1_(i:Nat){E w0:Bool}{H:Heap}{g:FuncId}{args:List Value}{v:Value}{hs:List (Nat×Hint)}{p:Prop}(h:E=w0->C P G0 K g args H λv' H'=>v'=v/\H'=H)(r:HP hs p):HP ((i,.o v)::hs) ((E=w0->C P G0 K g args H λv' H'=>v'=v/\H'=H)/\p):=⟨h,r⟩
theorem dx(i:Nat){E w0:Bool}{d_:Heap->Prop}{t:TypeId}{a v:Value}{hs:List (Nat×Hint)}{p:Prop}(h:E=w0->∀H,d_ H->LDv P H t a v)(r:HP hs p):HP ((i,.o v)::hs) ((E=w0->∀H,d_ H->LDv P H t a v)/\p):=⟨h,r⟩
theorem hP(i:Nat){E w0:Bool}{d_:Heap->Prop}{g:FuncId}{args:List Value}{v:Value}{hs:List (Nat×Hint)}{p:Prop}(h:E=w0->∀H,d_ H->C P G0 K g args H λv' H'=>v'=v/\d_ H')(r:HP hs p):HP ((i,.o v)::hs) ((E=w0->∀H,d_ H->C P G0 K g args H λv' H'=>v'=v/\d_ H')/\p):=⟨h,r⟩
theorem Hl2_(i:Nat){E w0 O w1:Bool}{H:Heap}{t:TypeId}{a v:Value}{hs:List (Nat×Hint)}{p:Prop}(h:E=w0->O=w1->LDv P H t a v)(r:HP hs p):HP ((i,.o v)::hs) ((E=w0->O=w1->LDv P H t a v)/\p):=⟨h,r⟩
theorem Hc2_(i:Nat){E w0 O w1:Bool}{H:Heap}{g:FuncId}{args:List Value}{v:Value}{hs:List (Nat×Hint)}{p:Prop}(h:E=w0->O=w1->C P G0 K g args H λv' H'=>v'=v/\H'=H)(r:HP hs p):HP ((i,.o v)::hs) ((E=w0->O=w1->C P G0 K g args H λv' H'=>v'=v/\H'=H)/\p):=⟨h,r⟩
theorem Hl3_(i:Nat){E w0 O w1 T U:Bool}{H:Heap}{t:TypeId}{a v:Value}{hs:List (Nat×Hint)}{p:Prop}(h:E=w0->O=w1->T=U->LDv P H t a v)(r:HP hs p):HP ((i,.o v)::hs) ((E=w0->O=w1->T=U->LDv P H t a v)/\p):=⟨h,r⟩
end
open Go
structure TabS(f:List UInt8->Option Value)(es:List (Value×Value)):Prop where
 key: ∀e,e∈es->∃k,e.1= .string ⟨⟨k⟩⟩
 G2: ∀k,eJ .string (.string ⟨⟨k⟩⟩) es=f k
def updS(f:List UInt8->Option Value)(k:List UInt8)(v:Value):List UInt8->Option Value:=λx=>if x=k then some v else f x
theorem sameS{a b}:dP (.string ⟨⟨a⟩⟩) (.string ⟨⟨b⟩⟩)=decide (a=b):=by
 show(a==b)=_;by_cases h:a=b
 ·subst h;simp
 rw[decide_eq_false h];simpa using h
theorem TabS.nil:TabS (λ_=>none) []:=⟨λ_ h=>absurd h a0g,λ_=>rfl⟩
theorem findS_set{d:TypeDesc}{k x v}: ∀{es:List (Value×Value)},(∀e,e∈es->∃k,e.1= .string ⟨⟨k⟩⟩)->eJ d (.string ⟨⟨x⟩⟩) (el (.string ⟨⟨k⟩⟩) v es)=if x=k then some v else eJ d (.string ⟨⟨x⟩⟩) es
 | [],_=>by show(bif dP (.string ⟨⟨x⟩⟩) (.string ⟨⟨k⟩⟩) then some v else none)=_;rw[sameS];by_cases h:x=k<;>simp[h,eJ]
 |(a,w)::es,h=>by
  have⟨j,O⟩:=h (a,w) (a0m ..);have O:a= .string ⟨⟨j⟩⟩:=O;subst O;have ih:=findS_set (d:=d) (k:=k) (x:=x) (v:=v) (es:=es) λe U=>h e (a0c _ U)
  unfold el;rw[sameS];by_cases T:k=j
  ·subst T;simp only[decide_true,cond_true];unfold eJ;rw[sameS];by_cases E:x=k<;>simp[E]
  rw[decide_eq_false T,cond_false];unfold eJ;rw[sameS,ih];by_cases E:x=j
  ·subst E;simp[Ne.symm T]
  rw[decide_eq_false E];rfl
theorem keyS_set{k v}: ∀{es:List (Value×Value)},(∀e,e∈es->∃k,e.1= .string ⟨⟨k⟩⟩)->∀e,e∈el (.string ⟨⟨k⟩⟩) v es->∃k,e.1= .string ⟨⟨k⟩⟩
 | [],_,e,E=>by
  have:e=(.string ⟨⟨k⟩⟩,v):=by simpa[el] using E
  subst this;exact⟨k,V⟩
 |(a,w)::es,h,e,E=>by
  unfold el at E;cases hb:dP (.string ⟨⟨k⟩⟩) a with
  |true=>
   rw[hb]at E
   rcases a0n.1 E with rfl|E
   ·exact⟨k,V⟩
   exact h e (a0c _ E)
  |false=>
   rw[hb]at E
   rcases a0n.1 E with rfl|E
   ·exact h _ (a0m ..)
   exact keyS_set (λe E=>h e (a0c _ E)) e E
theorem TabS.upd{f es}(h:TabS f es)(k:List UInt8)(v:Value):TabS (updS f k v) (el (.string ⟨⟨k⟩⟩) v es):=
 ⟨keyS_set h.key,λx=>by rw[findS_set h.key,h.G2 x];rfl⟩
theorem TabS.keys{f es}(h:TabS f es):(es.all λe=>bR .string e.1)=true:=a0r.2 λe O=>by have⟨k,E⟩:=h.key e O;rw[E];rfl
section
variable {P:Program} {ρ:Operand->Value} {d:Option Tmp} {ty:TypeId} {pos:String} {af:Array Edge} {gd:Option (Nat×Bool)} {B:Base} {F:Fz} {H:Heap} {L R:List Fp} {f:List UInt8->Option Value} {es:List (Value×Value)}
theorem lookS{t U E:TypeId}{z}{b:Nat}{k}{i:TypeInfo}(Z:H.get b=some (.tab es))(O:TabS f es)(ht:P.underlying t=some (.map U E))(hd:P.underlying U=some .string)(hi:P.info? E=some i)(hz:i.zero=some z)(hn:jN z=true)(ok:Bool):
  dU P t (.map (some b)) (.string ⟨⟨k⟩⟩) ok H=some (bif ok then .tuple #[(f k).getD z,.bool (f k).isSome] else(f k).getD z):=by
 unfold dU
 have T:bR .string (.string ⟨⟨k⟩⟩)=true:=rfl
 simp only[ht,hd,hi,hz,hn,T,Z,O.keys,a0D,cond_true,O.G2 k]
 cases f k<;>cases ok<;>rfl
theorem ap_lookS{t T O:TypeId}{m E z}{b:Nat}{k}{i:TypeInfo}{ok}(Z:H.get b=some (.tab es))(U:TabS f es)(hm:ρ m= .map (some b))(hk:ρ E= .string ⟨⟨k⟩⟩)(ht:P.underlying t=some (.map T O))(hd:P.underlying T=some .string)(hi:P.info? O=some i)(hz:i.zero=some z)(hn:jN z=true):
  AP P ρ ⟨d,.lookup t m E ok,ty,pos,af,gd⟩ H (.val (bif ok then .tuple #[(f k).getD z,.bool (f k).isSome] else(f k).getD z),H):=⟨by
 show ovl (dU P t (ρ m) (ρ E) ok H) H=_
 rw[hm,hk,lookS Z U ht hd hi hz hn ok];rfl⟩
end
def tabS(l:List (List UInt8)):List (Value×Value):=l.foldl (λes k=>el (.string ⟨⟨k⟩⟩) (.bool true) es) []
def tabB(b:Nat)(l:List (List UInt8)):Fp:=[(b,.tab (tabS l))]
def inS(l:List (List UInt8))(k:List UInt8):Option Value:=if k∈l then some (.bool true) else none
theorem tabS_snoc(l:List (List UInt8))(k:List UInt8):tabS (l++[k])=el (.string ⟨⟨k⟩⟩) (.bool true) (tabS l):=by unfold tabS;rw[a1S];rfl
theorem tabS_ok(l:List (List UInt8)):TabS (inS l) (tabS l):=by
 have key: ∀(l m:List (List UInt8)),TabS (inS m) (tabS m)->TabS (inS (m++l)) (tabS (m++l)):=by
  intro l;induction l with
  |nil=>intro m h;rwa [a0k]
  |cons k l ih=>
   intro m h
   have O:TabS (inS (m++[k])) (tabS (m++[k])):=by
    rw[tabS_snoc];have:=h.upd k (.bool true);rwa [show updS (inS m) k (.bool true)=inS (m++[k]) from funext λx=>by
     unfold updS inS;by_cases E:x=k
     ·subst E;simp
     simp[E]]at this
   have:=ih (m++[k]) O
   rwa [a0b]at this
 exact key l [] TabS.nil
section
variable {P:Program} {ρ:Operand->Value} {d:Option Tmp} {ty:TypeId} {pos:String} {af:Array Edge} {gd:Option (Nat×Bool)} {B:Base} {F:Fz} {H:Heap} {L R:List Fp}
theorem rs_mapN{t:TypeId}(hs:HS B F H L R): ∃r:Rs,AP P ρ ⟨d,.makeMap t none,ty,pos,af,gd⟩ H (.val r.v,r.H)/\(∃b,r.v= .map (some b)/\HS B F r.H (L++[tabB b []]) R/\Wr H r.H []):=
 ⟨⟨_,_,[]⟩,⟨V⟩,_,V,hs.push _,.nil λb hb=>by simpa using hb⟩
theorem ap_lookN{t O E:TypeId}{m T}{q b:Nat}{l k}{i:TypeInfo}(hs:HS B F H L R)(hq:L[q]?=some (tabB b l))(Z:ρ m= .map (some b))(U:ρ T= .string ⟨⟨k⟩⟩)(ht:P.underlying t=some (.map O E))(hd:P.underlying O=some .string)(hi:P.info? E=some i)(hz:i.zero=some (.bool false)):
  AP P ρ ⟨d,.lookup t m T false,ty,pos,af,gd⟩ H (.val (.bool (decide (k∈l))),H):=by
 have:=ap_lookS (P:=P) (ρ:=ρ) (d:=d) (ty:=ty) (pos:=pos) (af:=af) (gd:=gd) (ok:=false) (hs.get hq (a0I.2 V)) (tabS_ok l) Z U ht hd hi hz V
 rwa [show(bif false then(.tuple #[(inS l k).getD (.bool false),.bool (inS l k).isSome]:Value) else(inS l k).getD (.bool false))= .bool (decide (k∈l)) by
  unfold inS;by_cases h:k∈l<;>simp[h]]at this
theorem rs_updN{t kt et:TypeId}{m O T q b l k}(hs:HS B F H L R)(E:L[q]?=some (tabB b l))(hm:ρ m= .map (some b))(hk:ρ O= .string ⟨⟨k⟩⟩)(hv:ρ T= .bool true)(ht:P.underlying t=some (.map kt et))(hd:P.underlying kt=some .string):
  ∃r:Rs,AP P ρ ⟨d,.mapUpdate t m O T,ty,pos,af,gd⟩ H (.skip,r.H)/\(HS B F r.H (L.set q (tabB b (l++[k]))) R/\Wr H r.H [b]):=by
 have hg:=hs.get E (a0I.2 V)
 have Z:=hs.Gh E
 have U:=Z.put (i:=0) (o':= .tab (el (.string ⟨⟨k⟩⟩) (.bool true) (tabS l))) V
 have h4:=hs.backOwn (b_:=[]) E V (λb hb=>hb) U
 refine⟨⟨.bool true,H.put b _,[]⟩,⟨?_⟩,by unfold tabB;rw[tabS_snoc];simpa using h4,λb hb=>U.log b hb⟩
 show osk (gx P t (ρ m) (ρ O) (ρ T) H)=_
 have al:bR .string (.string ⟨⟨k⟩⟩)=true:=rfl
 unfold gx
 simp only[ht,hm,hk,hv,hd,hg,al,(tabS_ok l).keys,a0D,cond_true]
 rfl
end
def FzT(F:Fz)(b:Nat)(l:List (List UInt8)):Prop:=F b=some (.tab (tabS l))
section
variable {P:Program} {B:Base} {F F':Fz} {H:Heap} {L R:List Fp} {b:Nat} {l:List (List UInt8)}
theorem FzT.ac(h:FzT F b l)(E:Fz.le F F'):FzT F' b l:=E _ _ h
instance:Mo F F' (FzT F b l) (FzT F' b l):=⟨λh x=>x.ac h⟩
theorem HS.frt(hs:HS B F H L R){i}(h:L[i]?=some (tabB b l)): ∃F',Fz.le F F'/\HS B F' H (L.set i []) R/\FzT F' b l:=by have⟨F',E,O,T⟩:=hs.freeze h;exact⟨F',E,O,T _ _ (a0I.2 V)⟩
theorem FzT.look(h:FzT F b l)(hs:HS B F H L R){t O E:TypeId}{k}{i:TypeInfo}(T:P.underlying t=some (.map O E))(hd:P.underlying O=some .string)(hi:P.info? E=some i)(U:i.zero=some (.bool false)):
  dU P t (.map (some b)) (.string ⟨⟨k⟩⟩) false H=some (.bool (decide (k∈l))):=by
 rw[lookS (hs.fz _ _ h).1 (tabS_ok l) T hd hi U V false]
 unfold inS;by_cases h:k∈l<;>simp[h]
end
def tabK(l:List (List UInt8×Int)):List (Value×Value):=l.foldl (λes k=>el (.string ⟨⟨k.1⟩⟩) (.int .i64 k.2) es) []
def tabJ(b:Nat)(l:List (List UInt8×Int)):Fp:=[(b,.tab (tabK l))]
def nq(l:List (List UInt8×Int))(k:List UInt8):Option Int:=l.foldl (λr e=>if k=e.1 then some e.2 else r) none
def inK(l:List (List UInt8×Int))(k:List UInt8):Option Value:=(nq l k).map (.int .i64)
theorem tabK_snoc(l:List (List UInt8×Int))(e:List UInt8×Int):tabK (l++[e])=el (.string ⟨⟨e.1⟩⟩) (.int .i64 e.2) (tabK l):=by unfold tabK;rw[a1S];rfl
theorem lasK_snoc(l:List (List UInt8×Int))(e:List UInt8×Int)(k:List UInt8):nq (l++[e]) k=if k=e.1 then some e.2 else nq l k:=by unfold nq;rw[a1S];rfl
theorem tabK_ok(l:List (List UInt8×Int)):TabS (inK l) (tabK l):=by
 have key: ∀(l m:List (List UInt8×Int)),TabS (inK m) (tabK m)->TabS (inK (m++l)) (tabK (m++l)):=by
  intro l;induction l with
  |nil=>intro m h;rwa [a0k]
  |cons k l ih=>
   intro m h
   have O:TabS (inK (m++[k])) (tabK (m++[k])):=by
    rw[tabK_snoc];have:=h.upd k.1 (.int .i64 k.2);rwa [show updS (inK m) k.1 (.int .i64 k.2)=inK (m++[k]) from funext λx=>by
     unfold updS inK;rw[lasK_snoc];by_cases E:x=k.1
     ·rw[if_pos E,if_pos E];rfl
     rw[if_neg E,if_neg E]]at this
   have:=ih (m++[k]) O
   rwa [a0b]at this
 exact key l [] TabS.nil
section
variable {P:Program} {ρ:Operand->Value} {d:Option Tmp} {ty:TypeId} {pos:String} {af:Array Edge} {gd:Option (Nat×Bool)} {B:Base} {F F':Fz} {H:Heap} {L R:List Fp} {b:Nat} {l:List (List UInt8×Int)} {k:List UInt8}
theorem rs_mapK{t:TypeId}(hs:HS B F H L R): ∃r:Rs,AP P ρ ⟨d,.makeMap t none,ty,pos,af,gd⟩ H (.val r.v,r.H)/\(∃b,r.v= .map (some b)/\HS B F r.H (L++[tabJ b []]) R/\Wr H r.H []):=
 ⟨⟨_,_,[]⟩,⟨V⟩,_,V,hs.push _,.nil λb hb=>by simpa using hb⟩
theorem rs_updK{t kt et:TypeId}{m O T q}{w:Int}(hs:HS B F H L R)(E:L[q]?=some (tabJ b l))(hm:ρ m= .map (some b))(hk:ρ O= .string ⟨⟨k⟩⟩)(hv:ρ T= .int .i64 w)(ht:P.underlying t=some (.map kt et))(hd:P.underlying kt=some .string):
  ∃r:Rs,AP P ρ ⟨d,.mapUpdate t m O T,ty,pos,af,gd⟩ H (.skip,r.H)/\(HS B F r.H (L.set q (tabJ b (l++[(k,w)]))) R/\Wr H r.H [b]):=by
 have hg:=hs.get E (a0I.2 V)
 have Z:=hs.Gh E
 have U:=Z.put (i:=0) (o':= .tab (el (.string ⟨⟨k⟩⟩) (.int .i64 w) (tabK l))) V
 have h4:=hs.backOwn (b_:=[]) E V (λb hb=>hb) U
 refine⟨⟨.bool true,H.put b _,[]⟩,⟨?_⟩,by unfold tabJ;rw[tabK_snoc];simpa using h4,λb hb=>U.log b hb⟩
 show osk (gx P t (ρ m) (ρ O) (ρ T) H)=_
 have al:bR .string (.string ⟨⟨k⟩⟩)=true:=rfl
 unfold gx
 simp only[ht,hm,hk,hv,hd,hg,al,(tabK_ok l).keys,a0D,cond_true]
 rfl
def FzK(F:Fz)(b:Nat)(l:List (List UInt8×Int)):Prop:=F b=some (.tab (tabK l))
theorem FzK.ac(h:FzK F b l)(E:Fz.le F F'):FzK F' b l:=E _ _ h
instance:Mo F F' (FzK F b l) (FzK F' b l):=⟨λh x=>x.ac h⟩
theorem HS.frk(hs:HS B F H L R){i}(h:L[i]?=some (tabJ b l)): ∃F',Fz.le F F'/\HS B F' H (L.set i []) R/\FzK F' b l:=by have⟨F',E,O,T⟩:=hs.freeze h;exact⟨F',E,O,T _ _ (a0I.2 V)⟩
theorem FzK.look{t O E:TypeId}{i:TypeInfo}(h:FzK F b l)(hs:HS B F H L R)(T:P.underlying t=some (.map O E))(hd:P.underlying O=some .string)(hi:P.info? E=some i)(U:i.zero=some (.int .i64 0)):
  dU P t (.map (some b)) (.string ⟨⟨k⟩⟩) true H=some (.tuple #[.int .i64 ((nq l k).getD 0),.bool (nq l k).isSome]):=by
 rw[lookS (hs.fz _ _ h).1 (tabK_ok l) T hd hi U V true]
 unfold inK;cases nq l k<;>rfl
end
open Go
theorem RL.ofB{F}: ∀l:List UInt8,RL F (l.map λc=> .int .u8 c.toNat) l
 | []=>rfl
 |c::l=>⟨[.int .u8 c.toNat],_,V,V,RL.ofB l⟩
theorem RL.lowB{F F'}: ∀{l:List UInt8} {cs:List Value},RL F cs l->RL F' cs l
 | [],_,h=>h
 |_::_,_,⟨c,r,e,h1,h2⟩=>⟨c,r,e,h1,RL.lowB h2⟩
theorem OS.low{F F':Fz}{v:Value}{l:List UInt8}{p:Fp}(h:OS F v l p):OS F' v l p:=by
 rcases h with h|⟨b,off,k,cs,opn,h1,h2,cs',opn',ro,h3,h4,h5,h6,h7⟩
 ·exact .inl h
 exact .inr ⟨b,off,k,cs,opn,h1,h2,cs',opn',ro,h3,h4,h5,h6.lowB,h7⟩
section
variable {P:Program} {ρ:Operand->Value} {d:Option Tmp} {ty:TypeId} {pos:String} {af:Array Edge} {gd:Option (Nat×Bool)} {B:Base} {F:Fz} {H:Heap} {L R:List Fp} {v:Value} {l:List UInt8} {p:Fp}
theorem rs_appS{s0 x0}{st T e:TypeId}{l2 q E z}(h:OS F v l p)(hs:HS B F H L R)(hq:L[q]?=some p)(hx:ρ s0=v)(hy:ρ x0= .string ⟨⟨l2⟩⟩)(ht:P.underlying st=some (.slice e))(ar:P.underlying T=some .string)
  (hz:dL P e=some 1) (al:gW P e=some E) (a1:dm P e=some z) (aA:Nat.beq (fU z) 1=true) (Z:Nat.ble E 4096=true) (O:J l+J l2<=2147483648):
  ∃r:Rs,AP P ρ ⟨d,.call ⟨.builtin .append, #[s0,x0], #[st,T]⟩,ty,pos,af,gd⟩ H (.val r.v,r.H)/\(∃a k,r.v= .slice a (J (l++l2)) k/\OS F (.slice a (J (l++l2)) k) (l++l2) r.p/\HS B F r.H (L.set q r.p) R/\Wr H r.H (p.map Prod.fst)):=by
 have hc:=hs.Gh hq
 have ax:dL P e=some (Rp.sz UInt8):=hz
 have⟨a,k,H1,p',h1,h2,U⟩:=os_append (P:=P) (types:= #[st,T]) (x:= .string ⟨⟨l2⟩⟩) (l2:=l2) (new:=l2.map λc=> .int .u8 c.toNat) h hc (i:=0) V V V ht ar (by intro k hk;cases hk) ax al a1 aA Z V
  (by show some (fU l2)=_;rw[bp]) (by show some (eu _ (eB l2 (J l2)))=_;rw[bL,a0W,ju]) (RL.ofB l2) O
 have h4:=hs.backOwn (b_:=[]) hq V (λb hb=>hb) U
 refine⟨⟨_,H1,p'⟩,ap_app hx hy h1,a,k,V,h2,by simpa using h4,λb hb=>U.log b hb⟩
end
structure GdT where
 b:List UInt8
 a:Option Addr
 k:Nat
 p:Fp
 ok:OS (λ_=>none) (.slice a (J b) k) b p
theorem GdT.up(w:GdT){F}:OS F (.slice w.a w.b.length w.k) w.b w.p:=w.ok.low
def psG(g:Nat)(w:GdT):Fp:=(g,.cells [.slice w.a (J w.b) w.k] none false)::w.p
section
variable {B:Base} {F:Fz} {H:Heap} {L R:List Fp}
end
section
variable {B:Base} {F F':Fz} {H:Heap} {L R:List Fp}
end
structure Hd where
 a:Option Addr
 n:Nat
 k:Nat
instance :Inhabited Hd:=⟨⟨none,0,0⟩⟩
def Hd.v(h:Hd):Value:= .slice h.a h.n h.k
instance :Rp Hd where
 sz:=1
 rep _ cs h:=cs=[.slice h.a h.n h.k]
 len:=by rintro F cs x rfl;rfl
 one:=by rintro F cs x rfl;rfl
 ac:=by intro F F' cs x _ h;exact h
section
variable {ι β:Type} {Ch:Fz->ι->β->Fp->Prop} {F F':Fz}
end
section
variable {α:Type} [Rp α] {F F':Fz}
theorem SR.nin{B:Base}{H:Heap}{L R:List Fp}{v:Value}{l:List α}{i j:Nat}{p:Fp}(h:SR F v l)(s:HS B F H L R)(hi:L[i]?=some p)(U:j<l.length):sB v∉p.map Prod.fst:=by
 rcases h with⟨_,rfl⟩|⟨b,off,k,o,rfl,T,_⟩
 ·simp at U
 intro Z;obtain⟨⟨E,o'⟩,hb,e⟩:=a0B.1 Z;have O:E=b:=e;subst O;have:=(s.own p (.inl (a0w hi)) E o' hb).2.2;rw[T]at this;cases this
class Ri(α:Type) [Rp α]:Prop where
 ind: ∀{F F':Fz} {cs:List Value} {x:α},Rp.rep F cs x->Rp.rep F' cs x
instance :Ri Int:=⟨λh=>h⟩
instance :Ri Bool:=⟨λh=>h⟩
instance :Ri Str:=⟨λh=>h⟩
instance :Ri U64:=⟨λh=>h⟩
instance :Ri UInt8:=⟨λh=>h⟩
instance :Ri Hd:=⟨λh=>h⟩
end
class HasHd(ι:Type) where
 hd:ι->Hd
instance :HasHd Hd:=⟨λh=>h⟩
section
variable {ι α:Type} [HasHd ι] [Rp α] {F F':Fz} {B:Base} {H:Heap} {L R:List Fp} {hs:List ι} {ls:List (List α)} {p:Fp}
end
section
variable {ι α:Type} [HasHd ι] [Inhabited ι] [Rp α] {F F':Fz} {B:Base} {H:Heap} {L R:List Fp} {hs:List ι} {ls:List (List α)} {p:Fp}
end
section
variable {α:Type} [Rp α] {F F':Fz} {B:Base} {H:Heap} {L R:List Fp}
end
section
variable {α:Type} [Rp α] {P:Program} {ρ:Operand->Value} {d:Option Tmp} {ty:TypeId} {pos:String} {af:Array Edge} {gd:Option (Nat×Bool)} {B:Base} {F:Fz} {H:Heap} {L R:List Fp} {v:Value} {l:List α} {p:Fp}
end
def tb(a:Int)(i:Nat):Bool:=a.toNat.testBit i
open Go.RowKit Go.WideShapes Go.ChangeShapes
section
variable {c_:Type} {enc:TypeId×Value->c_} {P:Program} {w:World} {μ:Emb} {H:Heap}
end
open Go.RowKit Go.WideShapes Go.ChangeShapes
section
variable {c_:Type} {enc:TypeId×Value->c_} {P:Program} {w:World} {μ:Emb} {H:Heap}
end
open Go.ChangeShapes
section
variable {H:Type} {enc:TypeId×Value->H}
end
structure Eqs(s s':St):Prop where
 t:dC s.tmps=dC s'.tmps
 n:s.size=s'.size
 h:s.heap=s'.heap
section
variable {P:Program} {G:Nat} {cf:cT} {ops:Array Oper}
end
structure PtrT where
 b:Nat
 deriving Inhabited
instance :Rp PtrT where
 sz:=1
 rep F cs x:=cs=[.pointer (some ⟨x.b,0,none⟩)]
 len:=by rintro F cs x rfl;rfl
 one:=by rintro F cs x rfl;rfl
 ac:=by intro F F' cs x _ h;exact h
section
variable {B:Base} {F F':Fz} {H:Heap} {L R:List Fp}
end
section
variable {P:Program} {G:Nat} {K:bJ} {sz:Nat} {Q:Ex->Fn->Heap->Prop} {ops:Array Oper} {D:List (Nat×ID)} {i:Nat} {os:List Oper} {k:List Fr} {f:Fn} {H:Heap}
end
section
variable {ι β:Type} {Ch:Fz->ι->β->Fp->Prop} {F:Fz}
end
open Go
theorem RL.imp{α:Type}{i j F}(h: ∀cs x,i.rep F cs x->j.rep F cs x): ∀{l:List α} {cs:List Value}, @RL α i F cs l-> @RL α j F cs l
 | [],_,k=>k
 |_::_,_,⟨c,r,e,h1,h2⟩=>⟨c,r,e,h _ _ h1,RL.imp h h2⟩
theorem SR.imp{α:Type}{i j F}(E:i.sz=j.sz)(h: ∀cs x,i.rep F cs x->j.rep F cs x){v l}(k: @SR α i F v l): @SR α j F v l:=by
 rcases k with k|⟨b,off,n,o,h1,h2,cs,opn,ro,h3,h4,h5,h6,h7⟩
 ·exact .inl k
 exact .inr ⟨b,off,n,o,h1,h2,cs,opn,ro,h3,by rw[←E];exact h4,h5,by rw[←E];exact RL.imp h h6,by rw[←E];exact h7⟩
structure Lv(α:Type)(n:Nat) where
 r:Fz->List Value->α->Prop
 len: ∀{F:Fz} {cs:List Value} {x:α},r F cs x->J cs=n
 one: ∀{F:Fz} {cs:List Value} {x:α},r F cs x->nw Value.oneCell' cs=true
 ac: ∀{F F':Fz} {cs:List Value} {x:α},F.le F'->r F cs x->r F' cs x
abbrev Lv.rp{α:Type}{n:Nat}(r:Lv α n):Rp α:=⟨n,r.r,r.len,r.one,r.ac⟩
abbrev rpOf{α:Type}{n:Nat}(r:Nat->Lv α n):Rp α:=⟨n,λF cs x=> ∃d,(r d).r F cs x,λ⟨d,h⟩=>(r d).len h,λ⟨d,h⟩=>(r d).one h,λhF ⟨d,h⟩=>⟨d,(r d).ac hF h⟩⟩
theorem RL.unif{α:Type}{n:Nat}{r:Nat->Lv α n}{F:Fz}(E: ∀d cs x,(r d).r F cs x->(r (d+1)).r F cs x): ∀{l:List α} {cs:List Value}, @RL α (rpOf r) F cs l->∃d,∀e,d<=e-> @RL α (r e).rp F cs l
 | [],_,h=>⟨0,λ_ _=>h⟩
 |x::l,_,⟨c,t,e,⟨d,h1⟩,h2⟩=>by
  obtain⟨O,T⟩:=RL.unif E h2;have up: ∀e,d<=e->(r e).r F c x:=λe U=>by
   induction e with
   |zero=>
    have:d=0:=M
    subst this;exact h1
   |succ e ih=>
    rcases a0p e d with h|h
    ·have:d=e+1:=M
     subst this;exact h1
    exact E _ _ _ (ih h)
  exact⟨max d O,λq Z=>⟨c,t,e,up q M,T q M⟩⟩
theorem SR.unif{α:Type}{n:Nat}{r:Nat->Lv α n}{F:Fz}(T: ∀d cs x,(r d).r F cs x->(r (d+1)).r F cs x){v:Value}{l:List α}(k: @SR α (rpOf r) F v l): ∃d,∀e,d<=e-> @SR α (r e).rp F v l:=by
 rcases k with k|⟨b,off,n,o,h1,h2,cs,opn,ro,h3,h4,h5,h6,h7⟩
 ·exact⟨0,λ_ _=> .inl k⟩
 obtain⟨d,E⟩:=RL.unif T h6;exact⟨d,λe O=> .inr ⟨b,off,n,o,h1,h2,cs,opn,ro,h3,h4,h5,E e O,h7⟩⟩
open Go
section
variable {α:Type} [Rp α] {P:Program} {ρ:Operand->Value} {d:Option Tmp} {ty:TypeId} {pos:String} {af:Array Edge} {gd:Option (Nat×Bool)} {B:Base} {F:Fz} {H:Heap} {L R:List Fp} {l:List α}
theorem rs_litC{t:TypeId}{n sz z E ps cells}(hs:HS B F H L R)(O:eu (λp=>(p.1,ρ p.2)) E.toList=ps)(hi:ej P t=some (sz,z))(U:Nat.ble (n *sz) 16777216=true)
  (T:Instr.fill (λi=>some (i *sz,sz)) ⟨dY n z⟩ ps=some ⟨cells⟩):
  ∃r:Rs,AP P ρ ⟨d,.buildSlice t n E,ty,pos,af,gd⟩ H (.val r.v,r.H)/\(∃b,r.v= .slice (some ⟨b,0,none⟩) n n/\HS B F r.H (L++[[(b,.cells cells none false)]]) R/\Wr H r.H []):=by
 subst O
 exact⟨⟨_,_,[]⟩,ke hi U T,_,V,hs.push _,.nil λb hb=>by simpa using hb⟩
theorem nI{b:Nat}{cells}(E:RL F cells l):OS F (.slice (some ⟨b,0,none⟩) l.length l.length) l [(b,.cells cells none false)]:=by have:=E.length;exact .inr ⟨b,0,l.length,cells,none,V,V,_,_,_,V,λ_=>M,a07 _,by rw[a0R,←this,a0W];exact E,.inl V⟩
end
end Go.R
noncomputable section
set_option linter.unusedVariables false
namespace Go.R
open List renaming getD→N,length→J
open Go
structure U32 where
 n:Int
 deriving DecidableEq,Inhabited
instance :Rp U32 where
 sz:=1
 rep _ cs s:=cs=[.int .u32 s.n]/\0<=s.n/\s.n<4294967296
 len:=by rintro F cs x ⟨rfl,_⟩;rfl
 one:=by rintro F cs x ⟨rfl,_⟩;rfl
 ac:=by intro F F' cs x _ h;exact h
section
variable {F:Fz} {get:Nat->Option AObj} {v:Value} {cf:Nat->List Value} {j:Nat}
end
class RpI(α:Type) [Rp α]:Prop where
 low: ∀(F F':Fz) (cs:List Value) (x:α),Rp.rep F cs x->Rp.rep F' cs x
instance :RpI Int:=⟨λ_ _ _ _ h=>h⟩
section
variable {B:Base} {F:Fz} {H:Heap} {L R:List Fp}
end
end Go.R
end
namespace Go.R
open List renaming getD→N,length→J
abbrev iI(n:Int):Value:= .int .i64 n
abbrev pT(b o:Nat):Value:= .pointer (some ⟨b,o,none⟩)
abbrev fP(b:Nat)(l:List Value):Fp:=[(b,.cells l none false)]
abbrev sL(a:Option Addr)(n k:Nat):Value:= .slice a n k
abbrev aG(l:List Value):Value:= .agg ⟨l⟩
abbrev tX(b:List UInt8):Value:= .string ⟨⟨b⟩⟩
theorem fT{a b c:Fz}(h:a.le b)(k:b.le c):a.le c:=Fz.le_trans h k
theorem fR{a:Fz}:a.le a:=Fz.le_refl a
theorem wR{P G K sz Q f H c1 k k1}(n:Nat){id ops}(hs:List (Nat×Hint))(lo hi:Nat)(ex:List Nat)(l:List (Nat×Value)){p}(T:p)(E:foc n .skip k=(c1,k1))(O: ∀g,WK P G K sz c1 k1 (hY (hav lo hi ex g f) l) H Q)(h:gB P G (W0 P G K H) sz ops f 0 ops.toList hs lo hi ex (eu Prod.fst l)=some (l,p):=by kernel_rfl):WK P G K sz (.region id ops false) k f H Q:=wr n hs lo hi ex l T h E O
theorem wRD{P G K sz Q f H c1 k k1}(n:Nat){id ops}(hs:List (Nat×Hint))(lo hi:Nat)(ex:List Nat)(l:List (Nat×Value)){p}(T:p)(U:(jU ops&&P.follows .mixedOrders)=true)(E:foc n .skip k=(c1,k1))(O: ∀g,WK P G K sz c1 k1 (hY (hav lo hi ex g f) l) H Q)(h:gB P G (W0 P G K {H with log:=[]}) sz ops f 0 ops.toList hs lo hi ex (eu Prod.fst l)=some (l,p):=by kernel_rfl):WK P G K sz (.region id ops true) k f H Q:=wrD n hs lo hi ex l T U h E O
theorem wRo{P G K sz Q f H k}(n i:Nat){ops os E}(hs:List (Nat×Hint))(lo hi:Nat)(ex:List Nat)(l:List (Nat×Value)){p}(U:p)(O:eK os n=E)(T: ∀g,WO P G K sz ops E k (hY (hav lo hi ex g f) l) H Q)(h:gB P G (W0 P G K H) sz ops f i (eB os n) hs lo hi ex (eu Prod.fst l)=some (l,p):=by kernel_rfl):WO P G K sz ops os k f H Q:=wro n i hs lo hi ex l U h O T
theorem wT{P G K sz Q f H c1 k k1}(n:Nat){id ops}(hs:List (Nat×Hint))(lo hi:Nat)(ex:List Nat)(l:List (Nat×Value))(E:foc n .skip k=(c1,k1))(O: ∀g,WK P G K sz c1 k1 (hY (hav lo hi ex g f) l) H Q)(h:gB P G (W0 P G K H) sz ops f 0 ops.toList hs lo hi ex (eu Prod.fst l)=some (l,True):=by kernel_rfl):WK P G K sz (.region id ops false) k f H Q:=wR n hs lo hi ex l trivial E O h
theorem wU{P G K sz Q f H c1 k k1}(n:Nat){id ops}(hs:List (Nat×Hint))(lo hi:Nat)(ex:List Nat)(l:List (Nat×Value)){p}(T:p)(E:foc n .skip k=(c1,k1))(O: ∀g,WK P G K sz c1 k1 (hY (hav lo hi ex g f) l) H Q)(h:gB P G (W0 P G K H) sz ops f 0 ops.toList hs lo hi ex (eu Prod.fst l)=some (l,p/\True):=by kernel_rfl):WK P G K sz (.region id ops false) k f H Q:=wR n hs lo hi ex l ⟨T,trivial⟩ E O h
theorem wTo{P G K sz Q f H k}(n i:Nat){ops os E}(hs:List (Nat×Hint))(lo hi:Nat)(ex:List Nat)(l:List (Nat×Value))(O:eK os n=E)(T: ∀g,WO P G K sz ops E k (hY (hav lo hi ex g f) l) H Q)(h:gB P G (W0 P G K H) sz ops f i (eB os n) hs lo hi ex (eu Prod.fst l)=some (l,True):=by kernel_rfl):WO P G K sz ops os k f H Q:=wRo n i hs lo hi ex l trivial O T h
theorem wUo{P G K sz Q f H k}(n i:Nat){ops os E}(hs:List (Nat×Hint))(lo hi:Nat)(ex:List Nat)(l:List (Nat×Value)){p}(U:p)(O:eK os n=E)(T: ∀g,WO P G K sz ops E k (hY (hav lo hi ex g f) l) H Q)(h:gB P G (W0 P G K H) sz ops f i (eB os n) hs lo hi ex (eu Prod.fst l)=some (l,p/\True):=by kernel_rfl):WO P G K sz ops os k f H Q:=wRo n i hs lo hi ex l ⟨U,trivial⟩ O T h
theorem g_{B F H L R}(h:HS B F H L R){p}(e:L[0]?=some p):HS (.of H (p.map Prod.fst)) F H [p] (L.set 0 []++R):=HS.Gh h e
theorem h_{B F H L R}(h:HS B F H L R){b cs}(e:L[0]?=some [(b,.cells cs none false)]):HC H.get b 0 cs:=HS.hc h e
theorem i_{B F H L R}(h:HS B F H L R){b cs}(e:L[1]?=some [(b,.cells cs none false)]):HC H.get b 0 cs:=HS.hc h e
theorem j_{F}:∀{l:List Str},RL F (l.map λs=>.string ⟨⟨s.b⟩⟩) l
|[]=>RL.nl
|_::_=>RL.cs rfl j_
theorem k_{p:Prop}(h:p:=by rfl):p:=h
theorem f_{f l}(h:aI f l:=by(repeat refine agC rfl ?_);exact agN):aI f l:=h
theorem l_{o i e D}(h:okD o i e D:=by first|exact kb rfl|(repeat' first|exact trivial|refine⟨.inl rfl,?_⟩|refine⟨.inr trivial,?_⟩)):okD o i e D:=h
theorem m_{p:Prop}(h:p:=by simp):p:=h
theorem K_{p:Prop}(h:p:=by kernel_rfl):p:=h
abbrev S_{α:Type}(a:Option Addr)(l:List α)(k:Nat):Value:=sL a (J l) k
abbrev Sr{α:Type} [Rp α](F:Fz)(a:Option Addr)(l:List α)(k:Nat):Prop:=SR F (sL a (J l) k) l
abbrev OZ{α:Type} [Rp α](F:Fz)(a:Option Addr)(l:List α)(k:Nat)(p:Fp):Prop:=OS F (sL a (J l) k) l p
abbrev Hb(H:Heap):=HS (Base.of H [])
abbrev N_:Value:=sL none 0 0
instance:Coe Int Value:=⟨iI⟩
instance:Coe Bool Value:=⟨.bool⟩
end Go.R
