/-
Symbolic runs of the code that the law reaches, part 3. No condition but bounds on lengths.
-/
import Derived.Test.YtgdggmlghemecaaGreatDoorZVV1
noncomputable section
namespace Go.Proofs.YtgdggmlghemecaaGreatDoor
open Go.R
open Inhabited renaming default→v_
set_option maxRecDepth 10000
set_option maxHeartbeats 8000000
set_option linter.unusedVariables false
set_option linter.unusedSimpArgs false
open m1 m2 m3 m4 m5 m6 m7 m8 ma ml mb mc md mf mg mh mi mj na nb nc ni nv rl
namespace xa
variable (ex:FuncId) {F:Fz} {H:Heap} {R:List Fp}
def lP(to:Int)(b:Bool)(x:Int):List InsT:=if b=true then [⟨36,to,0,0,x⟩] else if x=to then [] else [⟨10,to,x,0,0⟩]
def savV(b:Bool)(x:Int):List InsT:=if b=true then [⟨37,0,0,0,x⟩] else if x=0 then [] else [⟨10,x,0,0,0⟩]
def jS(b:Bool)(x s:Int):Int:=if b=true then s else x
abbrev atV(l:List LocT)(n:Int):LocT:=l.getD n.toNat v_
def lQ(l:List LocT)(a:List Int):Nat->List InsT
 |0=> []
 |k+1=>lQ l a k++lP (k:Int) (atV l (a.getD k 0)).inS (atV l (a.getD k 0)).x
def rngV(v:VInT)(n:Nat):Prop:= ∀x∈aF v++ae v,0<=x/\x<(n:Int)
instance {v:VInT} {n:Nat}:Decidable (rngV v n):=inferInstanceAs (Decidable (∀x∈_,_))
def opV(i:InsT):Int:=if i.op=38 then 36 else if i.op=13/\(i.n< -4194304\/4194304<=i.n) then 14 else i.op
def slA(f:InfT)(i:InsT)(l:List LocT):LocT:=if f.ra=true\/f.wa=true then atV l i.a else v_
def oA(f:InfT)(i:InsT)(l:List LocT):Int:=if f.ra=true\/f.wa=true then jS (atV l i.a).inS (atV l i.a).x 5 else 0
def oB(f:InfT)(i:InsT)(l:List LocT):Int:=if f.rb=true then jS (atV l i.b).inS (atV l i.b).x 6 else 0
def oC(f:InfT)(i:InsT)(l:List LocT):Int:=if f.f=4 then jS (atV l i.c).inS (atV l i.c).x 7 else 0
def oN(f:InfT)(i:InsT):Int:=if f.f=5\/f.f=7 then i.n else 0
def aV(f:InfT)(i:InsT)(l:List LocT):List InsT:=if f.ra=true/\(atV l i.a).inS=true then [⟨36,5,0,0,(atV l i.a).x⟩] else []
def bV(f:InfT)(i:InsT)(l:List LocT):List InsT:=if f.rb=true/\(atV l i.b).inS=true then [⟨36,6,0,0,(atV l i.b).x⟩] else []
def cV(f:InfT)(i:InsT)(l:List LocT):List InsT:=if f.f=4/\(atV l i.c).inS=true then [⟨36,7,0,0,(atV l i.c).x⟩] else []
def wV(f:InfT)(i:InsT)(l:List LocT):List InsT:=if f.wa=true/\(atV l i.a).inS=true then [⟨37,5,0,0,(atV l i.a).x⟩] else []
def kU(f:InfT)(i:InsT)(l:List LocT):List InsT:=((aV f i l++bV f i l)++cV f i l)++[⟨opV i,oA f i l,oB f i l,oC f i l,oN f i⟩]++wV f i l
def movV(i:InsT)(l:List LocT):List InsT:=if atV l i.a=atV l i.b then [] else if(atV l i.b).inS=true/\(atV l i.a).inS=false then [⟨36,(atV l i.a).x,0,0,(atV l i.b).x⟩] else if(atV l i.a).inS=true/\(atV l i.b).inS=false then [⟨37,(atV l i.b).x,0,0,(atV l i.a).x⟩] else kU (aN i.op) i l
def lq(v:VInT)(l:List LocT):List InsT:=
 if alV v.i.op=true/\rngV v l.length then
  if v.i.op=6 then lQ l v.args v.args.length++[⟨6,(v.args.length:Int),0,0,v.i.n⟩]++savV (atV l v.i.a).inS (atV l v.i.a).x
  else if v.i.op=10 then movV v.i l else kU (aN v.i.op) v.i l
 else []
theorem fet1{l:List InsT}{to x:Int}{b:Bool}(h:b=true):l++[⟨36,to,0,0,x⟩]=l++lP to b x:=by unfold lP;rw[if_pos h]
theorem fet2{l:List InsT}{to x:Int}{b:Bool}(h:b=false)(E:x≠to):l++[⟨10,to,x,0,0⟩]=l++lP to b x:=by unfold lP;rw[if_neg (by simp[h]),if_neg E]
theorem fet0{l:List InsT}{to x:Int}{b:Bool}(h:b=false)(E:x=to):l=l++lP to b x:=by unfold lP;rw[if_neg (by simp[h]),if_pos E,a0o]
theorem sav1{l:List InsT}{x:Int}{b:Bool}(h:b=true):l++[⟨37,0,0,0,x⟩]=l++savV b x:=by unfold savV;rw[if_pos h]
theorem sav2{l:List InsT}{x:Int}{b:Bool}(h:b=false)(E:x≠0):l++[⟨10,x,0,0,0⟩]=l++savV b x:=by unfold savV;rw[if_neg (by simp[h]),if_neg E]
theorem sav0{l:List InsT}{x:Int}{b:Bool}(h:b=false)(E:x=0):l=l++savV b x:=by unfold savV;rw[if_neg (by simp[h]),if_pos E,a0o]
theorem fet_len{to x:Int}{b:Bool}:(lP to b x).length<=1:=by unfold lP;split<;>(try split)<;>simp
theorem nP{l:List LocT}{a:List Int}: ∀k,(lQ l a k).length<=k
 |0=>a0d _
 |k+1=>by have:=nP (l:=l) (a:=a) k;have:=fet_len (to:=(k:Int)) (b:=(atV l (a.getD k 0)).inS) (x:=(atV l (a.getD k 0)).x);unfold lQ;rw[a01];omega
theorem rd_mem{v:VInT}{x:Int}(h:alV v.i.op=true)(E:x∈eG v):x∈aF v:=by unfold aF;rw[if_pos h,nh];exact .inr E
structure RgF(v:VInT)(n:Int):Prop where
 a:(aE v.i.op).ra=true\/(aE v.i.op).wa=true\/v.i.op=6\/v.i.op=38->0<=v.i.a/\v.i.a<n
 b:(aE v.i.op).rb=true->0<=v.i.b/\v.i.b<n
 c:v.i.op=11\/v.i.op=12->0<=v.i.c/\v.i.c<n
 g:v.i.op=6->∀k,k<v.args.length->0<=v.args.getD k 0/\v.args.getD k 0<n
theorem rng_of{v:VInT}{n:Nat}(h:alV v.i.op=true)(Z:rngV v n):RgF v n:=by
 have T: ∀x∈eG v,0<=x/\x<(n:Int):=fun x hx=>Z x (a1H _ (rd_mem h hx))
 refine⟨fun ha=>?_,fun hb=>T _ ?_,fun hc=>T _ ?_,fun N k U=>T _ ?_⟩
 ·by_cases E:(aE v.i.op).ra=true
  ·exact T _ (by unfold eG;rw[if_pos E];simp)
  refine Z _ (a1v _ ?_);unfold ae;rw[if_pos ⟨h,ha.resolve_left E⟩];exact a08.2 V
 ·unfold eG;rw[if_pos hb];simp
 ·unfold eG;rw[if_pos hc];simp
 unfold eG;rw[if_pos N];refine a1v _ (a1v _ (a1v _ ?_));rw[a02,a06 U];exact a10 U
theorem rng_no{v:VInT}{n k:Nat}{l:List Int}(e:l=aF v++ae v)(E:k<l.length)(h: ¬(0<=l.getD k 0/\l.getD k 0<(n:Int))): ¬rngV v n:=fun N=>h (N _ (by
 rw[←e,a02,a06 E];exact a10 E))
theorem rng_all{v:VInT}{n k:Nat}{l:List Int}(e:l=aF v++ae v)(U:l.length<=k)(h: ∀j,j<k->0<=l.getD j 0/\l.getD j 0<(n:Int)):rngV v n:=fun x N=>by rw[←e]at N;obtain⟨j,T,E⟩:=a0t.1 N;have:=h j M;rwa [a02,a06 T,a0I,E]at this
theorem exp_no{v:VInT}{l:List LocT}(h: ¬(alV v.i.op=true/\rngV v l.length)):[]=lq v l:=(if_neg h).symm
theorem exp_6{v:VInT}{l:List LocT}(h:alV v.i.op=true)(N:rngV v l.length)(E:v.i.op=6):lQ l v.args v.args.length++[⟨6,(v.args.length:Int),0,0,v.i.n⟩]++savV (atV l v.i.a).inS (atV l v.i.a).x=lq v l:=by unfold lq;rw[if_pos ⟨h,N⟩,if_pos E]
theorem exp_o{v:VInT}{l:List LocT}(h:alV v.i.op=true)(N:rngV v l.length)(E:v.i.op≠6):(if v.i.op=10 then movV v.i l else kU (aN v.i.op) v.i l)=lq v l:=(if_neg E).symm.trans (if_pos (c:=alV v.i.op=true/\rngV v l.length) ⟨h,N⟩).symm
theorem vin_eq{op:Int}(h:op≠38):aN op=aE op:=if_neg h
theorem inf4{op:Int}(h:alV op=true)(E:op≠38):(aE op).f=4↔op=11\/op=12:=by rw[←vin_eq E];exact vf4 h
theorem sr_len{v:VInT}:(aF v).length<=3+v.args.length/\(ae v).length<=1:=by
 constructor
 ·unfold aF;split
  ·refine a0e eE ?_;unfold eG;simp only[a01,a0b];have E:(if(aE v.i.op).ra=true then [v.i.a] else []).length<=1:=da;have N:(if(aE v.i.op).rb=true then [v.i.b] else []).length<=1:=da;have T:(if v.i.op=11\/v.i.op=12 then [v.i.c] else []).length<=1:=da;have U:(if v.i.op=6 then v.args else []).length<=v.args.length:=by split<;>simp
   omega
  exact a0D _
 exact da
theorem len1{p:Prop} [Decidable p]{x:InsT}:(if p then [x] else []).length<=1:=by split<;>simp
theorem lenA{f:InfT}{i:InsT}{l:List LocT}:(aV f i l).length<=1:=len1
theorem lenB{f:InfT}{i:InsT}{l:List LocT}:(bV f i l).length<=1:=len1
theorem lenC{f:InfT}{i:InsT}{l:List LocT}:(cV f i l).length<=1:=len1
theorem oth1{f:InfT}{i:InsT}{l:List LocT}{E N T:List InsT}{oo oa ob oc on tx:Int}{tb:Bool}(U:E=aV f i l)(a_:N=E++bV f i l)(Z:T=N++cV f i l)(ho:oo=opV i)(ha:oa=oA f i l)(hb:ob=oB f i l)(hc:oc=oC f i l)(hn:on=oN f i)
  (ht:f.wa=true->tb=(atV l i.a).inS/\tx=(atV l i.a).x) (hw:f.wa=true/\tb=true):T++[⟨oo,oa,ob,oc,on⟩]++[⟨37,5,0,0,tx⟩]=kU f i l:=by
 obtain⟨h5,h6⟩:=ht hw.1
 unfold kU
 rw[Z,a_,U,ho,ha,hb,hc,hn,h6]
 congr 1
 unfold wV
 rw[if_pos ⟨hw.1,by rw[←h5];exact hw.2⟩]
theorem oth0{f:InfT}{i:InsT}{l:List LocT}{T U a_:List InsT}{oo oa ob oc on:Int}{tb:Bool}(Z:T=aV f i l)(h3:U=T++bV f i l)(h4:a_=U++cV f i l)(ho:oo=opV i)(ha:oa=oA f i l)(hb:ob=oB f i l)(hc:oc=oC f i l)(hn:on=oN f i)
  {tx:Int} (ht:f.wa=true->tb=(atV l i.a).inS/\tx=(atV l i.a).x) (hw:f.wa=true->tb=false):a_++[⟨oo,oa,ob,oc,on⟩]=kU f i l:=by
 unfold kU
 rw[h4,h3,Z,ho,ha,hb,hc,hn]
 have e:wV f i l=[]:=by unfold wV;rw[if_neg];rintro⟨E,N⟩;rw[←(ht E).1,hw E]at N;cases N
 rw[e,a0o]
theorem loc_ext{x y:LocT}(h:x.inS=y.inS/\x.x=y.x):x=y:=by cases x;cases y;simp at h;rw[h.1,h.2]
theorem exp_m{v:VInT}{l:List LocT}(h:alV v.i.op=true)(N:rngV v l.length)(E:v.i.op=10):movV v.i l=lq v l:=(if_pos E).symm.trans (exp_o h N M)
theorem exp_n{v:VInT}{l:List LocT}(h:alV v.i.op=true)(T:rngV v l.length)(N:v.i.op≠6)(E:v.i.op≠10):kU (aN v.i.op) v.i l=lq v l:=by rw[←exp_o h T N,if_neg E]
theorem mov1{i:InsT}{l:List LocT}(h:atV l i.a=atV l i.b):[]=movV i l:=(if_pos h).symm
theorem mov2{i:InsT}{l:List LocT}(h: ¬((atV l i.a).inS=(atV l i.b).inS/\(atV l i.a).x=(atV l i.b).x))(E:(atV l i.b).inS=true/\(atV l i.a).inS=false):[⟨36,(atV l i.a).x,0,0,(atV l i.b).x⟩]=movV i l:=by unfold movV;rw[if_neg (fun e=>h (by rw[e];exact⟨V,V⟩)),if_pos E]
theorem mov3{i:InsT}{l:List LocT}(E:(atV l i.a).inS=true/\(atV l i.b).inS=false):[⟨37,(atV l i.b).x,0,0,(atV l i.a).x⟩]=movV i l:=by unfold movV;rw[if_neg (fun e=>by rw[e,E.2]at E;cases E.1),if_neg (fun h=>by rw[E.1]at h;cases h.2),if_pos E]
theorem mov4{i:InsT}{l:List LocT}(h: ¬((atV l i.a).inS=(atV l i.b).inS/\(atV l i.a).x=(atV l i.b).x))(E: ¬((atV l i.b).inS=true/\(atV l i.a).inS=false))(N: ¬((atV l i.a).inS=true/\(atV l i.b).inS=false)):kU (aN i.op) i l=movV i l:=by unfold movV;rw[if_neg (fun e=>h (by rw[e];exact⟨V,V⟩)),if_neg E,if_neg N]
theorem rng_va{v:VInT}(h:(aN v.i.op).ra=true\/(aN v.i.op).wa=true):(aE v.i.op).ra=true\/(aE v.i.op).wa=true\/v.i.op=6\/v.i.op=38:=by
 rcases h with h|h
 ·exact .inl (by rw[←vra];exact h)
 rcases vwa.1 h with h|h
 ·exact .inr (.inl h)
 exact .inr (.inr (.inr h))
theorem par{v:VInT}{l:List LocT}(E:v.i.op=38):kU (aN v.i.op) v.i l=[⟨36,jS (atV l v.i.a).inS (atV l v.i.a).x 5,0,0,v.i.n⟩]++(if(atV l v.i.a).inS=true then [⟨37,5,0,0,(atV l v.i.a).x⟩] else []):=by
 have e:aN v.i.op=⟨⟨[]⟩,5,false,true,false,false,0⟩:=by unfold aN;rw[if_pos E]
 unfold kU aV bV cV wV oA oB oC oN opV;rw[e,if_pos E];simp
theorem par1{v:VInT}{l:List LocT}(h:alV v.i.op=true)(T:rngV v l.length)(E:v.i.op=38)(N:(atV l v.i.a).inS=false):[⟨36,(atV l v.i.a).x,0,0,v.i.n⟩]=lq v l:=by rw[←exp_n h T M M,par E,N];rfl
theorem par2{v:VInT}{l:List LocT}(h:alV v.i.op=true)(T:rngV v l.length)(E:v.i.op=38)(N:(atV l v.i.a).inS=true):[⟨36,5,0,0,v.i.n⟩,⟨37,5,0,0,(atV l v.i.a).x⟩]=lq v l:=by rw[←exp_n h T M M,par E,N];rfl
theorem iL(to:Int)(n:Int)(hs:HS (.of H []) F H [] R)(aa:in64 to)(hn:in64 n)(hT:TB 37 tabC F):kKt ex 91 [(iI to),(iI n)] H fun v H'=> ∃(x:InsT) (F':Fz),Fz.le F F'/\HS (.of H []) F' H' [] R/\v= .agg ⟨[iI x.op,iI x.a,iI x.b,iI x.c,iI x.n]⟩/\in64 x.op/\in64 x.a/\in64 x.b/\in64 x.c/\in64 x.n/\x=(⟨36,to,0,0,n⟩:InsT):=by refine aC Tryz.func91 V V (am 1 V (ab (zn hs V fun Z U N=>ah 2 V (sgr 1 5 7 [] [] (Hr_ 3 0 Hn_) N V V fun T a_ E=>?_))));refine aj ⟨.inr V,_,(rC V (ldVN V V (h_ E V) V) rN),(⟨36,to,0,0,n⟩:InsT),_,fR,(HS.forget E),V,M,M,M,M,M,m_⟩
theorem kI(to:Int)(n:Int)(hs:HS (.of H []) F H [] R)(aa:in64 to)(hn:in64 n)(hT:TB 37 tabC F):kKt ex 71 [(iI to),(iI n)] H fun v H'=> ∃(x:InsT) (F':Fz),Fz.le F F'/\HS (.of H []) F' H' [] R/\v= .agg ⟨[iI x.op,iI x.a,iI x.b,iI x.c,iI x.n]⟩/\in64 x.op/\in64 x.a/\in64 x.b/\in64 x.c/\in64 x.n/\x=(⟨37,to,0,0,n⟩:InsT):=by refine aC Tryz.func71 V V (am 1 V (ab (zn hs V fun Z U N=>ah 2 V (sgr 1 5 7 [] [] (Hr_ 3 0 Hn_) N V V fun T a_ E=>?_))));refine aj ⟨.inr V,_,(rC V (ldVN V V (h_ E V) V) rN),(⟨37,to,0,0,n⟩:InsT),_,fR,(HS.forget E),V,M,M,M,M,M,m_⟩
theorem move_c(to:Int)(n:Int)(hs:HS (.of H []) F H [] R)(aa:in64 to)(hn:in64 n)(hT:TB 37 tabC F):kKt ex 133 [(iI to),(iI n)] H fun v H'=> ∃(x:InsT) (F':Fz),Fz.le F F'/\HS (.of H []) F' H' [] R/\v= .agg ⟨[iI x.op,iI x.a,iI x.b,iI x.c,iI x.n]⟩/\in64 x.op/\in64 x.a/\in64 x.b/\in64 x.c/\in64 x.n/\x=(⟨10,to,n,0,0⟩:InsT):=by refine aC Tryz.func133 V V (am 1 V (ab (zn hs V fun Z U N=>ah 2 V (sgr 1 5 7 [] [] (Hr_ 3 0 Hn_) N V V fun T a_ E=>?_))));refine aj ⟨.inr V,_,(rC V (ldVN V V (h_ E V) V) rN),(⟨10,to,n,0,0⟩:InsT),_,fR,(HS.forget E),V,M,M,M,M,M,m_⟩
theorem lalw_c(op:Int)(H:Heap):kKt ex 86 [(iI op)] H fun v H'=> ∃(r:Bool),H'=H/\v= .bool r/\r=alV op:=by
 refine aC Tryz.func86 V V (am 1 V (wT 3 [] 2 2 [] [(2,(.bool false))] V fun _=>wT 4 [] 3 3 [] [(3,(iI op))] V fun _=>wT 1 [] 4 5 [] [(4,(.bool (op==3)))] V fun _=>zi 1 1 (fun an=>?_) fun an=>?_))
 ·have c4:=an;try simp only[BS]at c4
  refine aS 1 (v:=(op==3)) V an V V (wT 1 [] 2 2 [] [(2,(.bool true))] V fun _=>aj ⟨.inr V,_,V,true,V,V,(bH l_)⟩)
 have c4:=an;try simp only[BS]at c4
 refine wT 1 [] 4 6 [] [(4,(.bool (op==6)))] V fun _=>zi 1 1 (fun ap=>?_) fun ap=>?_
 ·have c7:=ap;try simp only[BS]at c7
  refine aS 1 (v:=(op==6)) V ap V V (wT 1 [] 2 2 [] [(2,(.bool true))] V fun _=>aj ⟨.inr V,_,V,true,V,V,(bH l_)⟩)
 have c7:=ap;try simp only[BS]at c7
 refine wT 1 [] 4 7 [] [(4,(.bool (op==9)))] V fun _=>zi 1 1 (fun E=>?_) fun E=>?_
 ·have aq:=E;try simp only[BS]at aq
  refine aS 1 (v:=(op==9)) V E V V (wT 1 [] 2 2 [] [(2,(.bool true))] V fun _=>aj ⟨.inr V,_,V,true,V,V,(bH l_)⟩)
 have aq:=E;try simp only[BS]at aq
 refine wT 1 [] 4 8 [] [(4,(.bool (op==10)))] V fun _=>zi 1 1 (fun N=>?_) fun N=>?_
 ·have ar:=N;try simp only[BS]at ar
  refine aS 1 (v:=(op==10)) V N V V (wT 1 [] 2 2 [] [(2,(.bool true))] V fun _=>aj ⟨.inr V,_,V,true,V,V,(bH l_)⟩)
 have ar:=N;try simp only[BS]at ar
 refine wT 1 [] 4 9 [] [(4,(.bool (op==11)))] V fun _=>zi 1 1 (fun T=>?_) fun T=>?_
 ·have av:=T;try simp only[BS]at av
  refine aS 1 (v:=(op==11)) V T V V (wT 1 [] 2 2 [] [(2,(.bool true))] V fun _=>aj ⟨.inr V,_,V,true,V,V,(bH l_)⟩)
 have av:=T;try simp only[BS]at av
 refine wT 1 [] 4 10 [] [(4,(.bool (op==12)))] V fun _=>zi 1 1 (fun U=>?_) fun U=>?_
 ·have aw:=U;try simp only[BS]at aw
  refine aS 1 (v:=(op==12)) V U V V (wT 1 [] 2 2 [] [(2,(.bool true))] V fun _=>aj ⟨.inr V,_,V,true,V,V,(bH l_)⟩)
 have aw:=U;try simp only[BS]at aw
 refine wT 1 [] 4 11 [] [(4,(.bool (op==13)))] V fun _=>zi 1 1 (fun a_=>?_) fun a_=>?_
 ·have ax:=a_;try simp only[BS]at ax
  refine aS 1 (v:=(op==13)) V a_ V V (wT 1 [] 2 2 [] [(2,(.bool true))] V fun _=>aj ⟨.inr V,_,V,true,V,V,(bH l_)⟩)
 have ax:=a_;try simp only[BS]at ax
 refine wT 1 [] 4 12 [] [(4,(.bool (op==33)))] V fun _=>zi 1 1 (fun Z=>?_) fun Z=>?_
 ·have ay:=Z;try simp only[BS]at ay
  refine aS 1 (v:=(op==33)) V Z V V (wT 1 [] 2 2 [] [(2,(.bool true))] V fun _=>aj ⟨.inr V,_,V,true,V,V,(bH l_)⟩)
 have ay:=Z;try simp only[BS]at ay
 refine wT 1 [] 4 13 [] [(4,(.bool (op==34)))] V fun _=>zi 1 1 (fun aa=>?_) fun aa=>?_
 ·have aA:=aa;try simp only[BS]at aA
  refine aS 1 (v:=(op==34)) V aa V V (wT 1 [] 2 2 [] [(2,(.bool true))] V fun _=>aj ⟨.inr V,_,V,true,V,V,(bH l_)⟩)
 have aA:=aa;try simp only[BS]at aA
 refine wT 1 [] 4 14 [] [(4,(.bool (op==35)))] V fun _=>zi 1 0 (fun ag=>?_) fun ag=>?_
 ·have a1:=ag;try simp only[BS]at a1
  refine aS 1 (v:=(op==35)) V ag V V (wT 1 [] 2 2 [] [(2,(.bool true))] V fun _=>aj ⟨.inr V,_,V,true,V,V,(bH l_)⟩)
 have a1:=ag;try simp only[BS]at a1
 refine wT 1 [] 4 15 [] [(4,(.bool (op==38)))] V fun _=>zI 1 3 (fun a3=>?_) fun a3=>?_
 ·refine wT 1 [] 2 2 [] [(2,(.bool true))] V fun _=>aj ⟨.inr V,_,V,true,V,V,(bH l_)⟩
 refine wT 1 [] 16 21 [2] [(2,(.bool ((decide ((15:Int)<=op))&&(decide (op<=32)))))] V fun _=>aj ⟨.inr V,_,V,((decide ((15:Int)<=op))&&(decide (op<=32))),V,V,(bH l_)⟩
theorem lalw_c_q(op:Int)(H:Heap):kKt ex 86 [(iI op)] H fun v H'=>v=(.bool (alV op))/\H'=H:=
 cq (lalw_c ex op H) (by rintro _ _ ⟨_,rfl,rfl,rfl⟩;exact⟨V,V⟩)
theorem xop_c(i:InsT){cg:Option Addr}{d2:Nat}{cc:Option Addr}{d1:Nat}(a:AllT)(hs:HS (.of H []) F H [] R)(ou:in64 i.op)(ov:in64 i.a)(ow:in64 i.b)(ox:in64 i.c)(oy:in64 i.n)(E:SR F (sL cc a.l.length d1) a.l)(ol:SR F (sL cg a.p.length d2) a.p)(ot:in64 a.k)(hT:TB 37 tabC F)(qW:alV i.op=true)(hf:i.op≠38)(hA:(aE i.op).ra=true\/(aE i.op).wa=true->0<=i.a/\i.a<(a.l.length:Int))(hB:(aE i.op).rb=true->0<=i.b/\i.b<(a.l.length:Int))(hC:(aE i.op).f=4->0<=i.c/\i.c<(a.l.length:Int)):kKt ex 92 [(aG [(iI i.op),(iI i.a),(iI i.b),(iI i.c),(iI i.n)]),(aG [(sL cc a.l.length d1),(sL cg a.p.length d2),(iI a.k)])] H fun v H'=> ∃(ar:Option Addr) (kr:Nat) (r:List InsT) (p:Fp) (F':Fz),Fz.le F F'/\HS (.of H []) F' H' [p] R/\v=sL ar r.length kr/\OS F' (sL ar r.length kr) r p/\r=kU (aE i.op) i a.l:=by
 refine aC Tryz.func92 V V (am 1 V (ab (bd (aR hs V V) V V ?_)));rintro _ H2 _ ⟨b1,rfl,k4,_⟩;refine bd (aR k4 V V) V V ?_;rintro _ H4 _ ⟨b3,rfl,f2,_⟩;refine za (sL none 0 0) (ah 2 V (ab (aY 2 0 14 15 [] [(15,(iI i.op))] (Hr_ 1 0 Hn_) f2 V V fun _=>zc (m1.ic ex i.op (HS.call f2) M hT) ?_)));rintro _ H6 ⟨x6,o6,F6,et,f4,rfl,k0,k3,rfl,rfl⟩;replace f4:=HS.back f2 V f4;replace hT:=hT.mono et;replace E:=E.mono et;refine bL 3 3 17 18 [13] [(17,(aG [(tX (aE i.op).name.b),(iI (aE i.op).f),(.bool (aE i.op).ra),(.bool (aE i.op).wa),(.bool (aE i.op).rb),(.bool (aE i.op).mt),(iI (aE i.op).w)])),(18,(.bool (infO i.op)))] Hn_ (by kernel_rfl) V fun _=>zn f4 V fun b8 H9 k5=>sgo 2 7 1 0 [6] [] (Hr_ 7 2 Hn_) k5 V V fun l5 oI f1=>ah 2 V (wT 2 [] 1 0 [7] [(7,(sL none 0 0))] V fun _=>ab ?_)
 let b5:Fp:=(fP b1 [(iI i.op),(iI i.a),(iI i.b),(iI i.c),(iI i.n)])
 let b6:Fp:=(fP b3 [(sL cc a.l.length d1),(sL cg a.p.length d2),(iI a.k)])
 let b7:Fp:=(fP b8 [(tX (aE i.op).name.b),(iI (aE i.op).f),(.bool (aE i.op).ra),(.bool (aE i.op).wa),(.bool (aE i.op).rb),(.bool (aE i.op).mt),(iI (aE i.op).w)])
 refine aY 3 0 19 21 [] [(21,(aG [(iI i.op),(iI 0),(iI 0),(iI 0),(iI 0)]))] (Hr_ 1 0 Hn_) f1 V V fun _=>zn f1 V fun ap oJ hE=>sgo 1 4 1 0 [] [] (Hr_ 4 3 Hn_) hE V V fun l7 oK b2=>ah 3 V (aU 1 22 29 [] [(29,(.bool (((aE i.op).f==5)||((aE i.op).f==7))))] (Hr_ 1 2 (be 5 (fun _=>(ql 3 1 (j_ b2 V) V V)) Hn_)) b2 V V fun _=>bj (fun f H'=> ∃(on:Int) (F':Fz),Fz.le F6 F'/\HS (Base.of H []) F' H' [b5,b6,b7,(fP ap [(iI i.op),(iI 0),(iI 0),(iI 0),(iI on)])] R/\aB f [(2,(pT b1 0)),(3,(pT b3 0)),(5,(pT b8 0)),(7,(sL none 0 0)),(8,(pT ap 0))]/\(on=oN (aE i.op) i)/\(in64 on)) (fun g3=>?_) ?_)
 ·refine zI 0 0 (fun kg=>?_) fun kg=>?_
  ·refine sgr 0 30 32 [] [] (Hr_ 1 0 (Hr_ 3 3 Hn_)) b2 V V fun l8 oM hF=>?_
   exact g3 _ _ ⟨i.n,_,fR,hF,⟨V,V,V,V,V,trivial⟩,(by unfold oN;split<;>first|rfl|omega),M⟩
  exact g3 _ _ ⟨0,_,fR,b2,⟨V,V,V,V,V,trivial⟩,(by unfold oN;split<;>first|rfl|omega),M⟩
 skip;rintro pI oL ⟨on,jq,a9,a3,e8,hn,rn⟩;refine au _ e8 (fun _=>?_);clear e8;replace hT:=hT.mono a9;replace E:=E.mono a9;refine am 3 V (aU 1 33 45 [] [(45,(.bool ((i.op==13)&&((decide (i.n<(-4194304)))||(decide ((4194304:Int)<=i.n))))))] (Hr_ 1 0 (be 5 (fun _=>(ql 2 4 (h_ a3 V) V V)) (jv 9 (fun _ _=>(ql 2 4 (h_ a3 V) V V)) Hn_))) a3 V V fun _=>bj (fun f H'=> ∃(oo:Int) (F':Fz),Fz.le jq F'/\HS (Base.of H []) F' H' [b5,b6,b7,(fP ap [(iI oo),(iI 0),(iI 0),(iI 0),(iI on)])] R/\aB f [(2,(pT b1 0)),(3,(pT b3 0)),(5,(pT b8 0)),(7,(sL none 0 0)),(8,(pT ap 0))]/\(oo=opV i)/\(in64 oo)) (fun g4=>?_) ?_)
 ·refine zI 0 0 (fun ki=>?_) fun ki=>?_
  ·refine sgr 0 46 46 [] [] (Hr_ 1 3 Hn_) a3 V V fun l9 oP hH=>?_
   exact g4 _ _ ⟨14,_,fR,hH,⟨V,V,V,V,V,trivial⟩,(by unfold opV;rw[if_neg hf];split<;>first|rfl|omega),M⟩
  exact g4 _ _ ⟨i.op,_,fR,a3,⟨V,V,V,V,V,trivial⟩,(by unfold opV;rw[if_neg hf];split<;>first|rfl|omega),M⟩
 skip;rintro pJ oO ⟨oo,jw,bb,hG,fd,ho,ro⟩;refine au _ fd (fun _=>?_);clear fd;replace hT:=hT.mono bb;replace E:=E.mono bb;refine am 2 V (ab (bL 1 0 47 47 [] [(47,(aG [(.bool false),(iI 0)]))] Hn_ (by kernel_rfl) V fun _=>zn hG V fun a8 oQ hI=>sgo 1 2 1 0 [] [] (Hr_ 2 4 Hn_) hI V V fun mk oR co=>ah 3 V ?_));refine aU 1 48 53 [] [(53,(.bool ((aE i.op).ra||(aE i.op).wa)))] (Hr_ 1 2 (be 4 (fun _=>(ql 4 3 (j_ co V) V V)) Hn_)) co V V fun _=>?_
 have a4:=HS.snoc co;refine bj (fun f H'=> ∃(o2:List InsT) (oa:Int) (tb:Bool) (tx:Int) (N:Option Addr) (U:Nat) (ag:Fp) (F':Fz),Fz.le jw F'/\HS (Base.of H []) F' H' [b5,b6,b7,(fP ap [(iI oo),(iI oa),(iI 0),(iI 0),(iI on)]),(fP a8 [(.bool tb),(iI tx)]),ag] R/\OS F' (sL N o2.length U) o2 ag/\aB f [(2,(pT b1 0)),(3,(pT b3 0)),(5,(pT b8 0)),(7,(sL N o2.length U)),(8,(pT ap 0)),(9,(pT a8 0))]/\(o2=aV (aE i.op) i a.l)/\(oa=oA (aE i.op) i a.l)/\((aE i.op).wa=true->tb=(atV a.l i.a).inS/\tx=(atV a.l i.a).x)/\(in64 oa)/\(in64 tx)) (fun b4=>?_) ?_
 ·refine zI 1 0 (fun kk=>?_) fun kk=>?_
  ·have pN:=hA X;refine ab ?_;obtain⟨l2,go⟩:=Sv.view (SR.sv E a4);have k9:=LocT.fx (go i.a.toNat);refine aY 6 0 54 59 [] [(59,(aG [(.bool (a.l.getD i.a.toNat v_).inS),(iI (a.l.getD i.a.toNat v_).x)]))] (Hr_ 1 1 (Hr_ 3 0 (Ha_ (Sv.ix (j:=i.a) (SR.sv E a4)) (Hl_ 5 (qn 39 0 2 (LocT.vw (go i.a.toNat)) V V V V) Hn_)))) a4 V V fun _=>zn a4 V fun pF oU hJ=>sgo 1 7 1 0 [] [] (Hr_ 7 6 Hn_) hJ V V fun mm oV hK=>ah 2 V (sgr 2 60 60 [] [] (Hr_ 0 6 (Hr_ 1 4 Hn_)) hK V V fun mx oW hL=>sgr 2 61 63 [] [] (Hr_ 1 6 (Hr_ 3 3 Hn_)) hL V V fun mI oX c5=>?_)
   refine aU 1 64 65 [] [(65,(.bool (a.l.getD i.a.toNat v_).inS))] (Hr_ 1 6 Hn_) c5 V V fun _=>zI 1 0 (fun kl=>?_) fun kl=>?_
   ·refine sgr 2 66 66 [] [] (Hr_ 1 3 Hn_) c5 V V fun m0 oY a5=>aU 1 67 68 [] [(68,(.bool (aE i.op).ra))] (Hr_ 1 2 Hn_) a5 V V fun _=>zI 0 0 (fun kn=>?_) fun kn=>?_
    ·refine ab (aY 3 0 69 71 [] [(69,(sL none 0 0)),(71,(iI (a.l.getD i.a.toNat v_).x))] (Hr_ 2 6 Hn_) a5 V V fun _=>zc (iL ex (5) (a.l.getD i.a.toNat v_).x (HS.call a5) M M hT) ?_);rintro _ oZ ⟨p2,kc,hp,c6,rfl,hX,hY,h0,h1,h5,rfl⟩;replace c6:=HS.back a5 V c6;refine zlo ([(⟨36,(5:Int),0,0,(a.l.getD i.a.toNat v_).x⟩:InsT)]:List InsT) c6 V (RL.cs ⟨V,by(dsimp only;omega),by(dsimp only;omega),by(dsimp only;omega),by(dsimp only;omega),by(dsimp only;omega)⟩ RL.nl) V fun pA pQ pW o0 hq f3=>zao 5 (OS.nil:OS _ (sL none 0 0) ([]:List InsT) []) f3 (OS.sv hq f3 (i:=7) V) V V V M fun e1 g5 hj o1 ci hM=>?_
     have ci:OS kc (sL e1 ([(⟨36,(5:Int),0,0,(a.l.getD i.a.toNat v_).x⟩:InsT)]:List InsT).length g5) ([(⟨36,(5:Int),0,0,(a.l.getD i.a.toNat v_).x⟩:InsT)]:List InsT) hj:=ci;refine za (sL e1 ([(⟨36,(5:Int),0,0,(a.l.getD i.a.toNat v_).x⟩:InsT)]:List InsT).length g5) (ah 0 V ?_);exact b4 _ _ ⟨([(⟨36,(5:Int),0,0,(a.l.getD i.a.toNat v_).x⟩:InsT)]:List InsT),5,(a.l.getD i.a.toNat v_).inS,(a.l.getD i.a.toNat v_).x,e1,g5,hj,_,(hp),(HS.sub hM (a03 _ _)),ci,⟨V,V,V,V,V,V,trivial⟩,(by unfold aV;(repeat' split)<;>first|rfl|omega|simp_all),(by unfold oA jS;(repeat' split)<;>first|rfl|omega|simp_all),(fun _=>⟨V,V⟩),M,M⟩
    exact b4 _ _ ⟨([]:List InsT),5,(a.l.getD i.a.toNat v_).inS,(a.l.getD i.a.toNat v_).x,none,0,[],_,fR,(HS.sub a5 (a03 _ _)),(OS.nil:OS _ (sL none 0 0) ([]:List InsT) []),⟨V,V,V,V,V,V,trivial⟩,(by unfold aV;(repeat' split)<;>first|rfl|omega|simp_all),(by unfold oA jS;(repeat' split)<;>first|rfl|omega|simp_all),(fun _=>⟨V,V⟩),M,M⟩
   exact b4 _ _ ⟨([]:List InsT),(a.l.getD i.a.toNat v_).x,(a.l.getD i.a.toNat v_).inS,(a.l.getD i.a.toNat v_).x,none,0,[],_,fR,(HS.sub c5 (a03 _ _)),(OS.nil:OS _ (sL none 0 0) ([]:List InsT) []),⟨V,V,V,V,V,V,trivial⟩,(by unfold aV;(repeat' split)<;>first|rfl|omega|simp_all),(by unfold oA jS;(repeat' split)<;>first|rfl|omega|simp_all),(fun _=>⟨V,V⟩),M,M⟩
  exact b4 _ _ ⟨([]:List InsT),0,false,0,none,0,[],_,fR,a4,(OS.nil:OS _ (sL none 0 0) ([]:List InsT) []),⟨V,V,V,V,V,V,trivial⟩,(by unfold aV;(repeat' split)<;>first|rfl|omega|simp_all),(by unfold oA jS;(repeat' split)<;>first|rfl|omega|simp_all),(fun h=>absurd h (by simp_all)),M,M⟩
 skip;rintro pK oT ⟨o2,oa,tb,tx,N,U,ag,ka,bk,ax,Z,fi,h2,ha,ht,ra,rx⟩;refine au _ fi (fun _=>?_);clear fi;replace hT:=hT.mono bk;replace E:=E.mono bk;have n2:o2.length<=1:=by rw[h2];exact lenA
 refine am 3 V (aU 1 75 76 [] [(76,(.bool (aE i.op).rb))] (Hr_ 1 2 Hn_) ax V V fun _=>bj (fun f H'=> ∃(o3:List InsT) (ob:Int) (T:Option Addr) (a_:Nat) (an:Fp) (F':Fz),Fz.le ka F'/\HS (Base.of H []) F' H' [b5,b6,b7,(fP ap [(iI oo),(iI oa),(iI ob),(iI 0),(iI on)]),(fP a8 [(.bool tb),(iI tx)]),an] R/\OS F' (sL T o3.length a_) o3 an/\aB f [(2,(pT b1 0)),(3,(pT b3 0)),(5,(pT b8 0)),(7,(sL T o3.length a_)),(8,(pT ap 0)),(9,(pT a8 0))]/\(o3=o2++bV (aE i.op) i a.l)/\(ob=oB (aE i.op) i a.l)/\(in64 ob)) (fun ds=>?_) ?_)
 ·refine zI 1 0 (fun ko=>?_) fun ko=>?_
  ·have pO:=hB X;refine ab ?_;obtain⟨l3,g1⟩:=Sv.view (SR.sv E ax);have lf:=LocT.fx (g1 i.b.toNat);refine aY 6 0 77 82 [] [(82,(aG [(.bool (a.l.getD i.b.toNat v_).inS),(iI (a.l.getD i.b.toNat v_).x)]))] (Hr_ 1 1 (Hr_ 3 0 (Ha_ (Sv.ix (j:=i.b) (SR.sv E ax)) (Hl_ 5 (qn 39 0 2 (LocT.vw (g1 i.b.toNat)) V V V V) Hn_)))) ax V V fun _=>zn ax V fun pG o7 hO=>sgo 1 7 1 0 [] [] (Hr_ 7 6 Hn_) hO V V fun ne o8 hP=>ah 2 V (sgr 2 83 85 [] [] (Hr_ 1 6 (Hr_ 3 3 Hn_)) hP V V fun nm o9 c7=>aU 1 86 87 [] [(87,(.bool (a.l.getD i.b.toNat v_).inS))] (Hr_ 1 6 Hn_) c7 V V fun _=>?_)
   refine zI 1 0 (fun kp=>?_) fun kp=>?_
   ·refine sgr 1 88 88 [] [] (Hr_ 1 3 Hn_) c7 V V fun nx pc c8=>ab (aY 3 0 89 91 [] [(89,(sL N o2.length U)),(91,(iI (a.l.getD i.b.toNat v_).x))] (Hr_ 2 6 Hn_) c8 V V fun _=>zc (iL ex (6) (a.l.getD i.b.toNat v_).x (HS.call c8) M M hT) ?_)
    rintro _ pd ⟨p3,oE,e4,c9,rfl,h6,h7,h8,h9,ib,rfl⟩;replace c9:=HS.back c8 V c9;replace Z:=Z.mono e4;refine zlo ([(⟨36,(6:Int),0,0,(a.l.getD i.b.toNat v_).x⟩:InsT)]:List InsT) c9 V (RL.cs ⟨V,by(dsimp only;omega),by(dsimp only;omega),by(dsimp only;omega),by(dsimp only;omega),by(dsimp only;omega)⟩ RL.nl) V fun pB pR pX pe hr f5=>zao 5 Z f5 (OS.sv hr f5 (i:=7) V) V V V M fun g9 hg k6 pf hu hQ=>za (sL g9 (o2++([(⟨36,(6:Int),0,0,(a.l.getD i.b.toNat v_).x⟩:InsT)]:List InsT)).length hg) (ah 0 V ?_)
    exact ds _ _ ⟨o2++([(⟨36,(6:Int),0,0,(a.l.getD i.b.toNat v_).x⟩:InsT)]:List InsT),6,g9,hg,k6,_,(e4),(HS.sub hQ (a03 _ _)),hu,⟨V,V,V,V,V,V,trivial⟩,(by unfold bV;(repeat' split)<;>first|rfl|omega|simp_all),(by unfold oB jS;(repeat' split)<;>first|rfl|omega|simp_all),M⟩
   exact ds _ _ ⟨o2,(a.l.getD i.b.toNat v_).x,N,U,ag,_,fR,(HS.sub c7 (a03 _ _)),Z,⟨V,V,V,V,V,V,trivial⟩,(by unfold bV;(repeat' split)<;>first|rfl|omega|simp_all),(by unfold oB jS;(repeat' split)<;>first|rfl|omega|simp_all),M⟩
  exact ds _ _ ⟨o2,0,N,U,ag,_,fR,ax,Z,⟨V,V,V,V,V,V,trivial⟩,(by unfold bV;(repeat' split)<;>first|rfl|omega|simp_all),(by unfold oB jS;(repeat' split)<;>first|rfl|omega|simp_all),M⟩
 skip;rintro pL o5 ⟨o3,ob,T,a_,an,kd,bl,ay,aa,fj,h3,hb,rb⟩;refine au _ fj (fun _=>?_);clear fj;replace hT:=hT.mono bl;replace E:=E.mono bl;have n3:o3.length<=2:=by rw[h3,a01];exact a1G n2 lenB
 refine am 3 V (aU 1 95 97 [] [(97,(.bool ((aE i.op).f==4)))] (Hr_ 1 2 Hn_) ay V V fun _=>bj (fun f H'=> ∃(o4:List InsT) (oc:Int) (aq:Option Addr) (av:Nat) (a7:Fp) (F':Fz),Fz.le kd F'/\HS (Base.of H []) F' H' [b5,b6,b7,(fP ap [(iI oo),(iI oa),(iI ob),(iI oc),(iI on)]),(fP a8 [(.bool tb),(iI tx)]),a7] R/\OS F' (sL aq o4.length av) o4 a7/\aB f [(5,(pT b8 0)),(7,(sL aq o4.length av)),(8,(pT ap 0)),(9,(pT a8 0))]/\(o4=o3++cV (aE i.op) i a.l)/\(oc=oC (aE i.op) i a.l)/\(in64 oc)) (fun dt=>?_) ?_)
 ·refine zI 1 0 (fun kx=>?_) fun kx=>?_
  ·have pP:=hC X;refine ab ?_;obtain⟨l4,g2⟩:=Sv.view (SR.sv E ay);have lr:=LocT.fx (g2 i.c.toNat);refine aY 6 0 98 103 [] [(103,(aG [(.bool (a.l.getD i.c.toNat v_).inS),(iI (a.l.getD i.c.toNat v_).x)]))] (Hr_ 1 1 (Hr_ 3 0 (Ha_ (Sv.ix (j:=i.c) (SR.sv E ay)) (Hl_ 5 (qn 39 0 2 (LocT.vw (g2 i.c.toNat)) V V V V) Hn_)))) ay V V fun _=>zn ay V fun pH ph hR=>sgo 1 7 1 0 [] [] (Hr_ 7 6 Hn_) hR V V fun n1 pi hS=>ah 2 V (sgr 2 104 106 [] [] (Hr_ 1 6 (Hr_ 3 3 Hn_)) hS V V fun n6 pj dd=>aU 1 107 108 [] [(108,(.bool (a.l.getD i.c.toNat v_).inS))] (Hr_ 1 6 Hn_) dd V V fun _=>?_)
   refine zI 1 0 (fun ky=>?_) fun ky=>?_
   ·refine sgr 1 109 109 [] [] (Hr_ 1 3 Hn_) dd V V fun oh pm dk=>ab (aY 3 0 110 112 [] [(110,(sL T o3.length a_)),(112,(iI (a.l.getD i.c.toNat v_).x))] (Hr_ 2 6 Hn_) dk V V fun _=>zc (iL ex (7) (a.l.getD i.c.toNat v_).x (HS.call dk) M M hT) ?_)
    rintro _ pn ⟨p4,oG,e5,dl,rfl,ih,ik,il,it,iz,rfl⟩;replace dl:=HS.back dk V dl;replace aa:=aa.mono e5;refine zlo ([(⟨36,(7:Int),0,0,(a.l.getD i.c.toNat v_).x⟩:InsT)]:List InsT) dl V (RL.cs ⟨V,by(dsimp only;omega),by(dsimp only;omega),by(dsimp only;omega),by(dsimp only;omega),by(dsimp only;omega)⟩ RL.nl) V fun pC pS pY pq hv f7=>zao 5 aa f7 (OS.sv hv f7 (i:=7) V) V V V M fun he hh k7 pu hw hV=>za (sL he (o3++([(⟨36,(7:Int),0,0,(a.l.getD i.c.toNat v_).x⟩:InsT)]:List InsT)).length hh) (ah 0 V ?_)
    exact dt _ _ ⟨o3++([(⟨36,(7:Int),0,0,(a.l.getD i.c.toNat v_).x⟩:InsT)]:List InsT),7,he,hh,k7,_,(e5),(HS.sub hV (a03 _ _)),hw,⟨V,V,V,V,trivial⟩,(by unfold cV;(repeat' split)<;>first|rfl|omega|simp_all),(by unfold oC jS;(repeat' split)<;>first|rfl|omega|simp_all),M⟩
   exact dt _ _ ⟨o3,(a.l.getD i.c.toNat v_).x,T,a_,an,_,fR,(HS.sub dd (a03 _ _)),aa,⟨V,V,V,V,trivial⟩,(by unfold cV;(repeat' split)<;>first|rfl|omega|simp_all),(by unfold oC jS;(repeat' split)<;>first|rfl|omega|simp_all),M⟩
  exact dt _ _ ⟨o3,0,T,a_,an,_,fR,ay,aa,⟨V,V,V,V,trivial⟩,(by unfold cV;(repeat' split)<;>first|rfl|omega|simp_all),(by unfold oC jS;(repeat' split)<;>first|rfl|omega|simp_all),M⟩
 skip;rintro pM pg ⟨o4,oc,aq,av,a7,oF,ch,f6,g6,f0,h4,hc,rc⟩;refine au _ f0 (fun _=>?_);clear f0;replace hT:=hT.mono ch;have n4:o4.length<=3:=by rw[h4,a01];exact a1G n3 lenC
 refine am 2 V (ab (aY 2 0 116 117 [] [(116,(sL aq o4.length av)),(117,(aG [(iI oo),(iI oa),(iI ob),(iI oc),(iI on)]))] (Hr_ 1 3 Hn_) f6 V V fun _=>zlo ([(⟨oo,oa,ob,oc,on⟩:InsT)]:List InsT) f6 V (RL.cs ⟨V,by(dsimp only;omega),by(dsimp only;omega),by(dsimp only;omega),by(dsimp only;omega),by(dsimp only;omega)⟩ RL.nl) V fun pD pU pZ pw hz f8=>zao 5 g6 f8 (OS.sv hz f8 (i:=6) V) V V V M fun ef ez k8 px bz aA=>za (sL ef (o4++([(⟨oo,oa,ob,oc,on⟩:InsT)]:List InsT)).length ez) ?_));refine ah 3 V (aU 1 120 125 [] [(125,(.bool ((aE i.op).wa&&tb)))] (Hr_ 1 2 (be 4 (fun _=>(ql 4 0 (HS.hc aA (i:=4) V) V V)) Hn_)) aA V V fun _=>zI 0 2 (fun kz=>?_) fun kz=>?_)
 ·refine ab (aY 3 0 126 128 [] [(126,(sL ef (o4++([(⟨oo,oa,ob,oc,on⟩:InsT)]:List InsT)).length ez)),(128,(iI tx))] (Hr_ 2 4 Hn_) aA V V fun _=>zc (kI ex (5) tx (HS.call aA) M M hT) ?_);rintro _ py ⟨p5,oH,e6,dn,rfl,i1,i2,i3,i4,jb,rfl⟩;replace dn:=HS.back aA V dn;replace bz:=bz.mono e6;refine zlo ([(⟨37,(5:Int),0,0,tx⟩:InsT)]:List InsT) dn V (RL.cs ⟨V,by(dsimp only;omega),by(dsimp only;omega),by(dsimp only;omega),by(dsimp only;omega),by(dsimp only;omega)⟩ RL.nl) V fun pE pV p0 pz hD f9=>zao 5 bz f9 (OS.sv hD f9 (i:=7) V) V V V M fun b9 dv hW l1 g7 g8=>za (sL b9 ((o4++([(⟨oo,oa,ob,oc,on⟩:InsT)]:List InsT))++([(⟨37,(5:Int),0,0,tx⟩:InsT)]:List InsT)).length dv) (ah 2 V (wT 1 [] 4 4 [132] [(4,(sL b9 ((o4++([(⟨oo,oa,ob,oc,on⟩:InsT)]:List InsT))++([(⟨37,(5:Int),0,0,tx⟩:InsT)]:List InsT)).length dv))] V fun _=>aj ⟨.inr V,_,V,b9,dv,(o4++([(⟨oo,oa,ob,oc,on⟩:InsT)]:List InsT))++([(⟨37,(5:Int),0,0,tx⟩:InsT)]:List InsT),hW,_,(fT (fT (fT (fT (fT (fT (et) a9) bb) bk) bl) ch) e6),(HS.only g8 (i:=5) V),V,g7,(oth1 h2 h3 h4 ho ha hb hc hn ht X)⟩))
 refine wT 1 [] 4 4 [132] [(4,(sL ef (o4++([(⟨oo,oa,ob,oc,on⟩:InsT)]:List InsT)).length ez))] V fun _=>aj ⟨.inr V,_,V,ef,ez,o4++([(⟨oo,oa,ob,oc,on⟩:InsT)]:List InsT),k8,_,(fT (fT (fT (fT (fT (et) a9) bb) bk) bl) ch),(HS.only aA (i:=5) V),V,bz,(oth0 h2 h3 h4 ho ha hb hc hn ht X)⟩
theorem expand_c{bb:Option Addr}{bk:Nat}(iv:VInT){cg:Option Addr}{ci:Nat}{bl:Option Addr}{b2:Nat}(a:AllT)(hs:HS (.of H []) F H [] R)(pW:in64 iv.i.op)(pX:in64 iv.i.a)(pY:in64 iv.i.b)(pZ:in64 iv.i.c)(p0:in64 iv.i.n)(an:SR F (sL bb iv.args.length bk) iv.args)(T:SR F (sL bl a.l.length b2) a.l)(c7:SR F (sL cg a.p.length ci) a.p)(qx:in64 a.k)(hT:TB 37 tabC F)(r2:iv.args.length<=1048576):kKt ex 45 [(aG [(iI iv.i.op),(iI iv.i.a),(iI iv.i.b),(iI iv.i.c),(iI iv.i.n),(sL bb iv.args.length bk)]),(aG [(sL bl a.l.length b2),(sL cg a.p.length ci),(iI a.k)])] H fun v H'=> ∃(ar:Option Addr) (kr:Nat) (r:List InsT) (p:Fp) (F':Fz),Fz.le F F'/\HS (.of H []) F' H' [p] R/\v=sL ar r.length kr/\OS F' (sL ar r.length kr) r p/\r=lq iv a.l:=by
 have tk:=sr_len (v:=iv);refine aC Tryz.func45 V V (am 1 V (ab (bd (aR hs V V) V V ?_)));rintro _ H2 _ ⟨b1,rfl,pA,_⟩;refine bd (aR pA V V) V V ?_;rintro _ H4 _ ⟨b3,rfl,it,_⟩;let hv:Value:=(aG [(iI iv.i.op),(iI iv.i.a),(iI iv.i.b),(iI iv.i.c),(iI iv.i.n)])
 refine za (sL none 0 0) (ah 2 V (ab (aY 2 0 14 15 [] [(15,hv)] (Hr_ 1 0 Hn_) it V V fun _=>zn it V fun b6 H7 pB=>sgo 1 3 1 0 [] [] (Hr_ 3 2 Hn_) pB V V fun rq H8 c5=>?_)));refine ah 3 V (aU 1 16 19 [] [(19,(.bool (!(alV iv.i.op))))] (Hr_ 1 2 (Hc_ 2 (lalw_c_q ex iv.i.op H8) Hn_)) c5 V V fun _=>zI 1 3 (fun ik=>?_) fun ik=>?_)
 ·refine wT 1 [] 4 4 [] [(4,(sL none 0 0))] V fun _=>aj ⟨.inr V,_,V,none,0,([]:List InsT),[],_,fR,(HS.cons (HS.forget c5)),V,(OS.nil:OS _ _ _ []),(exp_no (fun h=>by simp_all))⟩
 have ai:=ik;let i4:Value:=(aG [(iI iv.i.op),(iI iv.i.a),(iI iv.i.b),(iI iv.i.c),(iI iv.i.n),(sL bb iv.args.length bk)])
 refine aL V (eO 1 20 20 [] [(20,i4)] (Hr_ 0 0 Hn_) c5 V V fun _=>ba (W:=[]) (aO V V V) V V V (ma.mZ ex iv (HS.call c5.log0) M M M M M an hT M) (kb V) ?_);rintro _ pe ⟨qp,qy,rE,ry,qJ,ag,a3,rfl,c8,rfl⟩;refine⟨Wr.did a3.log,fun oF hK=>?_⟩;replace a3:=HS.back c5.log0 V a3;replace a3:=HS.lg a3 c5 hK;generalize ({pe with log:=oF}:Heap)=qi at a3⊢;replace hT:=hT.mono ag;replace an:=an.mono ag;refine bE (v:=i4) (id:= .l b1) (mT (i:=0) V V V (HS.hc a3.log0 (i:=0) V) V V V) V V (jj V) (⟨.inr a0k,q_⟩) (ba (W:=[]) (aO V V V) V V V (ma.iB ex iv (HS.call a3.log0) M M M M M an hT) (kb V) ?_);rintro _ pf ⟨qq,qz,rF,ht,pd,U,a8,rfl,hR,rfl⟩;refine⟨Wr.did a8.log,fun oG hL=>?_⟩;replace a8:=HS.back a3.log0 V a8;replace a8:=HS.lg a8 a3 hL;generalize ({pf with log:=oG}:Heap)=qk at a8⊢;replace hT:=hT.mono U;replace T:=(T.mono ag).mono U;replace c7:=(c7.mono ag).mono U;replace an:=an.mono U;replace c8:=c8.mono U;refine zad 3 c8 a8 (OS.sv hR a8 (i:=4) V) V V V M (kb V) fun pg pC hu e8 d2 E=>bE (v:=(iI (((aF iv)++(ae iv)).length:Int))) (id:= .v) (nX (α:=Int) V V (OS.sv d2 E.log0 (i:=3) V)) V V (nK V) (i9 _) (zfm (iI 0) (bC 2 V (ak (fun(mm:Nat) f H'=> ∃(k:Nat),H'=e8/\aB f [(2,(pT b1 0)),(3,(pT b3 0)),(5,(pT b6 0)),(24,(sL pg ((aF iv)++(ae iv)).length pC)),(25,(iI (((aF iv)++(ae iv)).length:Int))),(26,(iI (k:Int)))]/\mm=(aF iv++ae iv).length-k/\(k<=(aF iv++ae iv).length)/\(∀j,j<k->0<=(aF iv++ae iv).getD j 0/\(aF iv++ae iv).getD j 0<(a.l.length:Int))) _ ⟨0,V,⟨V,V,V,V,V,V,trivial⟩,V,M,(fun j hj=>absurd hj (a0B _))⟩ ?_)))
 rintro qA rk e8 ⟨k,rfl,f8,rfl,h1,h2⟩ oD;refine au _ f8 (fun _=>?_);clear f8;have ti:(aF iv++ae iv).length<=1048580:=by rw[a01];omega
 refine am 1 V (wT 2 [] 27 27 [] [(27,(.bool (decide ((k:Int)<(((aF iv)++(ae iv)).length:Int)))))] V fun _=>zd 4 5 (fun pj=>?_) fun pj=>?_)
 ·obtain⟨qr,hh⟩:=Sv.view (OS.sv d2 E (i:=3) V);have rn:=fI (hh k);refine wrp 2 28 29 [7] [(7,(iI (((aF iv)++(ae iv)).getD k 0)))] (Ha_ (Sv.ix (j:=(k:Int)) (OS.sv d2 E (i:=3) V)) (Hl_ 1 (ql 3 0 (vI (hh k)) V V) Hn_)) (by kernel_rfl) V fun _=>wrp 1 30 38 [] [(38,(.bool ((decide ((((aF iv)++(ae iv)).getD k 0)<0))||(decide ((a.l.length:Int)<=(((aF iv)++(ae iv)).getD k 0))))))] (be 5 (fun _=>(ql 29 0 (i_ E V) V V)) Hn_) V V fun _=>zI 1 2 (fun pm=>?_) fun pm=>?_
  ·refine wT 1 [] 4 4 [] [(4,(sL none 0 0))] V fun _=>aj ⟨.inr V,_,V,none,0,([]:List InsT),[],_,(fT (ag) U),(HS.cons (HS.forget E)),V,(OS.nil:OS _ _ _ []),(exp_no (fun h=>rng_no V (k:=k) M M h.2))⟩
  refine wU 1 [] 26 26 [39] [(26,(iI ((k:Int)+1)))] (vi (n:=(k:Int)+1)) V fun _=>?_
  refine oD _ _ _ ?_ ⟨k+1,V,⟨V,V,V,V,V,V,trivial⟩,V,M,(fun j hj=>by(rcases a0g j k with h|h;exact h2 j h;rw[show j=k by omega];omega))⟩;omega
 have ao:rngV iv a.l.length:=rng_all V M h2;have rf:=rng_of ai ao;refine wT 3 [] 1 0 [8] [(8,(sL none 0 0))] V fun _=>aU 3 40 41 [] [(41,(iI iv.i.op))] (Hr_ 1 2 Hn_) E V V fun _=>wT 1 [] 42 43 [] [(42,(.bool (iv.i.op==6)))] V fun _=>zI 2 1 (fun f1=>?_) fun f1=>?_
 ·have h6:=f1;have hA:=rf.a (.inr (.inr (.inl h6)));refine aU 2 44 47 [] [(45,(sL bb iv.args.length bk)),(46,(iI (iv.args.length:Int))),(47,(iI 0))] (Hr_ 1 0 Hn_) E V V fun _=>?_
  have oo:=HS.snoc E;let hw:Fp:=(fP b1 [(iI iv.i.op),(iI iv.i.a),(iI iv.i.b),(iI iv.i.c),(iI iv.i.n),(sL bb iv.args.length bk)])
  let hz:Fp:=(fP b3 [(sL bl a.l.length b2),(sL cg a.p.length ci),(iI a.k)])
  let hC:Fp:=(fP b6 [(iI iv.i.op),(iI iv.i.a),(iI iv.i.b),(iI iv.i.c),(iI iv.i.n)])
  refine ak (fun(mm:Nat) f H'=> ∃(o1:List InsT) (k2:Nat) (a_:Option Addr) (Z:Nat) (b9:Fp) (F':Fz),Fz.le pd F'/\HS (Base.of H []) F' H' [hw,hz,hC,hu,ht,b9] R/\OS F' (sL a_ o1.length Z) o1 b9/\aB f [(2,(pT b1 0)),(3,(pT b3 0)),(5,(pT b6 0)),(8,(sL a_ o1.length Z)),(45,(sL bb iv.args.length bk)),(46,(iI (iv.args.length:Int))),(47,(iI (k2:Int)))]/\mm=iv.args.length-k2/\(o1=lQ a.l iv.args k2)/\(k2<=iv.args.length)) _ ⟨([]:List InsT),0,none,0,[],_,fR,oo,(OS.nil:OS _ (sL none 0 0) ([]:List InsT) []),⟨V,V,V,V,V,V,V,trivial⟩,V,m_,M⟩ ?_;rintro qB rm qQ ⟨o1,k2,a_,Z,b9,h7,ch,a9,aw,f9,rfl,g1,g2⟩ oE;refine au _ f9 (fun _=>?_);clear f9;replace hT:=hT.mono ch;replace T:=T.mono ch;replace an:=an.mono ch;have tj:o1.length<=k2:=by rw[g1];exact nP _
  refine am 1 V (wT 2 [] 48 48 [] [(48,(.bool (decide ((k2:Int)<(iv.args.length:Int)))))] V fun _=>zd 4 5 (fun pn=>?_) fun pn=>?_)
  ·have hg:=rf.g h6 k2 M;obtain⟨qs,hk⟩:=Sv.view (SR.sv an a9);have rp:=fI (hk k2);refine wrp 1 49 51 [9,10] [(9,(iI (k2:Int))),(10,(iI (iv.args.getD k2 0)))] (Ha_ (Sv.ix (j:=(k2:Int)) (SR.sv an a9)) (Hl_ 2 (ql 3 0 (vI (hk k2)) V V) Hn_)) (by kernel_rfl) V fun _=>ab ?_
   obtain⟨qt,hl⟩:=Sv.view (SR.sv T a9);have pQ:=LocT.fx (hl (iv.args.getD k2 0).toNat);refine aY 7 0 52 58 [] [(52,(sL a_ o1.length Z)),(53,(iI (k2:Int))),(58,(aG [(.bool (a.l.getD (iv.args.getD k2 0).toNat v_).inS),(iI (a.l.getD (iv.args.getD k2 0).toNat v_).x)]))] (Hr_ 3 1 (Ha_ (Sv.ix (j:=(iv.args.getD k2 0)) (SR.sv T a9)) (Hl_ 6 (qn 39 0 2 (LocT.vw (hl (iv.args.getD k2 0).toNat)) V V V V) Hn_))) a9 V V fun _=>zc (R:=fun v H'=> ∃(o3:List InsT) (aq:Option Addr) (ax:Nat) (a1:Fp) (F':Fz),Fz.le h7 F'/\HS (Base.of H []) F' H' [hw,hz,hC,hu,ht,a1] R/\OS F' (sL aq o3.length ax) o3 a1/\v=(sL aq o3.length ax)/\(o3=o1++lP (k2:Int) (a.l.getD (iv.args.getD k2 0).toNat v_).inS (a.l.getD (iv.args.getD k2 0).toNat v_).x)) ?_ ?_
   ·refine aC Tryz.func89 V V (am 1 V (ab (bd (aR a9 V V) V V ?_)));rintro _ qS _ ⟨ri,rfl,a5,_⟩;refine za (sL none 0 0) (ah 4 V (aU 1 7 9 [] [(7,(.bool (a.l.getD (iv.args.getD k2 0).toNat v_).inS))] (Hr_ 1 6 Hn_) a5 V V fun _=>zI 1 1 (fun pq=>?_) fun pq=>?_))
    ·refine ab (aY 4 0 10 13 [] [(10,(sL a_ o1.length Z)),(11,(iI (k2:Int))),(13,(iI (a.l.getD (iv.args.getD k2 0).toNat v_).x))] (Hr_ 3 6 Hn_) a5 V V fun _=>zc (iL ex (k2:Int) (a.l.getD (iv.args.getD k2 0).toNat v_).x (HS.call a5) M M hT) ?_);rintro _ qT ⟨rG,qL,f4,ef,rfl,oO,oP,oQ,oR,oT,rfl⟩;replace ef:=HS.back a5 V ef;replace aw:=aw.mono f4;refine zlo ([(⟨36,(k2:Int),0,0,(a.l.getD (iv.args.getD k2 0).toNat v_).x⟩:InsT)]:List InsT) ef V (RL.cs ⟨V,by(dsimp only;omega),by(dsimp only;omega),by(dsimp only;omega),by(dsimp only;omega),by(dsimp only;omega)⟩ RL.nl) V fun q9 rr rz qU nx g9=>zao 5 aw g9 (OS.sv nx g9 (i:=7) V) V V V M fun h8 iz pD qV n1 ou=>za (sL h8 (o1++([(⟨36,(k2:Int),0,0,(a.l.getD (iv.args.getD k2 0).toNat v_).x⟩:InsT)]:List InsT)).length iz) (ah 1 V (aj ⟨.inr V,_,V,o1++([(⟨36,(k2:Int),0,0,(a.l.getD (iv.args.getD k2 0).toNat v_).x⟩:InsT)]:List InsT),h8,iz,pD,_,(f4),(HS.sub ou (a03 _ _)),n1,V,(fet1 X)⟩))
    refine aU 1 17 21 [] [(17,(.bool ((a.l.getD (iv.args.getD k2 0).toNat v_).x !=(k2:Int))))] (Hr_ 1 6 Hn_) a5 V V fun _=>zI 1 3 (fun pu=>?_) fun pu=>?_
    ·refine ab (aY 4 0 22 25 [] [(22,(sL a_ o1.length Z)),(23,(iI (k2:Int))),(25,(iI (a.l.getD (iv.args.getD k2 0).toNat v_).x))] (Hr_ 3 6 Hn_) a5 V V fun _=>zc (move_c ex (k2:Int) (a.l.getD (iv.args.getD k2 0).toNat v_).x (HS.call a5) M M hT) ?_);rintro _ qW ⟨rH,qM,f5,et,rfl,oU,oV,oW,oX,oY,rfl⟩;replace et:=HS.back a5 V et;replace aw:=aw.mono f5;refine zlo ([(⟨10,(k2:Int),(a.l.getD (iv.args.getD k2 0).toNat v_).x,0,0⟩:InsT)]:List InsT) et V (RL.cs ⟨V,by(dsimp only;omega),by(dsimp only;omega),by(dsimp only;omega),by(dsimp only;omega),by(dsimp only;omega)⟩ RL.nl) V fun rc rt rA qX n2 ha=>zao 5 aw ha (OS.sv n2 ha (i:=7) V) V V V M fun h9 i1 pE qY n3 ov=>za (sL h9 (o1++([(⟨10,(k2:Int),(a.l.getD (iv.args.getD k2 0).toNat v_).x,0,0⟩:InsT)]:List InsT)).length i1) (ah 1 V (aj ⟨.inr V,_,V,o1++([(⟨10,(k2:Int),(a.l.getD (iv.args.getD k2 0).toNat v_).x,0,0⟩:InsT)]:List InsT),h9,i1,pE,_,(f5),(HS.sub ov (a03 _ _)),n3,V,(fet2 X X)⟩))
    refine wT 1 [] 6 6 [29] [(6,(sL a_ o1.length Z))] V fun _=>aj ⟨.inr V,_,V,o1,a_,Z,b9,_,fR,(HS.sub a5 (a03 _ _)),aw,V,(fet0 X M)⟩
   rintro _ qR ⟨o3,aq,ax,a1,qK,kp,ot,dt,rfl,g6⟩;refine za (sL aq o3.length ax) (ah 2 V (wU 1 [] 47 47 [60] [(47,(iI ((k2:Int)+1)))] (vi (n:=(k2:Int)+1)) V fun _=>?_));refine oE _ _ _ ?_ ⟨o3,k2+1,aq,ax,a1,_,(fT (ch) kp),ot,dt,⟨V,V,V,V,V,V,V,trivial⟩,V,(by rw[g6,g1];rfl),M⟩;omega
  refine ab (aY 7 0 61 67 [] [(61,(sL a_ o1.length Z)),(67,(aG [(iI 6),(iI (iv.args.length:Int)),(iI 0),(iI 0),(iI iv.i.n)]))] (Hr_ 2 0 (Hr_ 5 2 Hn_)) a9 V V fun _=>zlo ([(⟨6,(iv.args.length:Int),0,0,iv.i.n⟩:InsT)]:List InsT) a9 V (RL.cs ⟨V,by(dsimp only;omega),by(dsimp only;omega),by(dsimp only;omega),by(dsimp only;omega),by(dsimp only;omega)⟩ RL.nl) V fun re ru pF qZ n4 hb=>zao 5 aw hb (OS.sv n4 hb (i:=6) V) V V V M fun co c6 pG q0 bz ds=>za (sL co (o1++([(⟨6,(iv.args.length:Int),0,0,iv.i.n⟩:InsT)]:List InsT)).length c6) (ah 2 V ?_));refine ab ?_;obtain⟨qu,hm⟩:=Sv.view (SR.sv T ds);have pR:=LocT.fx (hm iv.i.a.toNat);refine aY 7 0 70 76 [] [(70,(sL co (o1++([(⟨6,(iv.args.length:Int),0,0,iv.i.n⟩:InsT)]:List InsT)).length c6)),(76,(aG [(.bool (a.l.getD iv.i.a.toNat v_).inS),(iI (a.l.getD iv.i.a.toNat v_).x)]))] (Hr_ 2 1 (Hr_ 4 2 (Ha_ (Sv.ix (j:=iv.i.a) (SR.sv T ds)) (Hl_ 6 (qn 39 0 2 (LocT.vw (hm iv.i.a.toNat)) V V V V) Hn_)))) ds V V fun _=>zc (R:=fun v H'=> ∃(o3:List InsT) (av:Option Addr) (ay:Nat) (a2:Fp) (F':Fz),Fz.le h7 F'/\HS (Base.of H []) F' H' [hw,hz,hC,hu,ht,a2,pF] R/\OS F' (sL av o3.length ay) o3 a2/\v=(sL av o3.length ay)/\(o3=(o1++([(⟨6,(iv.args.length:Int),0,0,iv.i.n⟩:InsT)]:List InsT))++savV (a.l.getD iv.i.a.toNat v_).inS (a.l.getD iv.i.a.toNat v_).x)) ?_ ?_
  ·refine aC Tryz.func90 V V (am 1 V (ab (bd (aR ds V V) V V ?_)));rintro _ q2 _ ⟨rj,rfl,a7,_⟩;refine za (sL none 0 0) (ah 4 V (aU 1 7 9 [] [(7,(.bool (a.l.getD iv.i.a.toNat v_).inS))] (Hr_ 1 7 Hn_) a7 V V fun _=>zI 1 1 (fun pw=>?_) fun pw=>?_))
   ·refine ab (aY 4 0 10 13 [] [(10,(sL co (o1++([(⟨6,(iv.args.length:Int),0,0,iv.i.n⟩:InsT)]:List InsT)).length c6)),(11,(iI 0)),(13,(iI (a.l.getD iv.i.a.toNat v_).x))] (Hr_ 3 7 Hn_) a7 V V fun _=>zc (kI ex (0) (a.l.getD iv.i.a.toNat v_).x (HS.call a7) M M hT) ?_);rintro _ q3 ⟨rI,qO,f6,ez,rfl,oZ,o0,o2,o4,o5,rfl⟩;replace ez:=HS.back a7 V ez;replace bz:=bz.mono f6;refine zlo ([(⟨37,(0:Int),0,0,(a.l.getD iv.i.a.toNat v_).x⟩:InsT)]:List InsT) ez V (RL.cs ⟨V,by(dsimp only;omega),by(dsimp only;omega),by(dsimp only;omega),by(dsimp only;omega),by(dsimp only;omega)⟩ RL.nl) V fun rg rv rB q4 n6 he=>zao 5 bz he (OS.sv n6 he (i:=8) V) V V V M fun ib i2 pH q5 oa ox=>za (sL ib ((o1++([(⟨6,(iv.args.length:Int),0,0,iv.i.n⟩:InsT)]:List InsT))++([(⟨37,(0:Int),0,0,(a.l.getD iv.i.a.toNat v_).x⟩:InsT)]:List InsT)).length i2) (ah 1 V (aj ⟨.inr V,_,V,(o1++([(⟨6,(iv.args.length:Int),0,0,iv.i.n⟩:InsT)]:List InsT))++([(⟨37,(0:Int),0,0,(a.l.getD iv.i.a.toNat v_).x⟩:InsT)]:List InsT),ib,i2,pH,_,(f6),(HS.sub ox (a03 _ _)),oa,V,(sav1 X)⟩))
   refine aU 1 17 21 [] [(17,(.bool ((a.l.getD iv.i.a.toNat v_).x !=0)))] (Hr_ 1 7 Hn_) a7 V V fun _=>zI 1 3 (fun px=>?_) fun px=>?_
   ·refine ab (aY 4 0 22 25 [] [(22,(sL co (o1++([(⟨6,(iv.args.length:Int),0,0,iv.i.n⟩:InsT)]:List InsT)).length c6)),(24,(iI (a.l.getD iv.i.a.toNat v_).x)),(25,(iI 0))] (Hr_ 2 7 Hn_) a7 V V fun _=>zc (move_c ex (a.l.getD iv.i.a.toNat v_).x (0) (HS.call a7) M M hT) ?_);rintro _ q6 ⟨rJ,qP,f7,e0,rfl,o6,o7,o8,o9,pc,rfl⟩;replace e0:=HS.back a7 V e0;replace bz:=bz.mono f7;refine zlo ([(⟨10,(a.l.getD iv.i.a.toNat v_).x,(0:Int),0,0⟩:InsT)]:List InsT) e0 V (RL.cs ⟨V,by(dsimp only;omega),by(dsimp only;omega),by(dsimp only;omega),by(dsimp only;omega),by(dsimp only;omega)⟩ RL.nl) V fun rh rx rD q7 ob hf=>zao 5 bz hf (OS.sv ob hf (i:=8) V) V V V M fun ih i3 pI q8 oc oy=>za (sL ih ((o1++([(⟨6,(iv.args.length:Int),0,0,iv.i.n⟩:InsT)]:List InsT))++([(⟨10,(a.l.getD iv.i.a.toNat v_).x,(0:Int),0,0⟩:InsT)]:List InsT)).length i3) (ah 1 V (aj ⟨.inr V,_,V,(o1++([(⟨6,(iv.args.length:Int),0,0,iv.i.n⟩:InsT)]:List InsT))++([(⟨10,(a.l.getD iv.i.a.toNat v_).x,(0:Int),0,0⟩:InsT)]:List InsT),ih,i3,pI,_,(f7),(HS.sub oy (a03 _ _)),oc,V,(sav2 X X)⟩))
   refine wT 1 [] 6 6 [29] [(6,(sL co (o1++([(⟨6,(iv.args.length:Int),0,0,iv.i.n⟩:InsT)]:List InsT)).length c6))] V fun _=>aj ⟨.inr V,_,V,o1++([(⟨6,(iv.args.length:Int),0,0,iv.i.n⟩:InsT)]:List InsT),co,c6,pG,_,fR,(HS.sub a7 (a03 _ _)),bz,V,(sav0 X M)⟩
  rintro _ q1 ⟨o3,av,ay,a2,qN,kx,ow,dv,rfl,g6⟩;refine za (sL av o3.length ay) (ah 1 V (aj ⟨.inr V,_,V,av,ay,o3,a2,_,(fT (fT (fT (ag) U) ch) kx),(HS.only ow (i:=5) V),V,dv,(by rw[g6,g1,show k2=iv.args.length by omega];exact exp_6 ai ao h6)⟩))
 have h6:=f1;refine wT 1 [] 78 79 [] [(78,(.bool (iv.i.op==10)))] V fun _=>zI 1 1 (fun f2=>?_) fun f2=>?_
 ·have cc:=f2;have hA:=rf.a (.inr (.inl (by rw[cc];rfl)));have hB:=rf.b (by rw[cc];rfl);refine aL V (zp 0 (zl 0 (HS.hc E.log0 (i:=1) V) (zp 1 (zl 1 (HS.hc E.log0 (i:=2) V) (zy LocT iv.i.a (SR.sv T E.log0) ?_)))));obtain⟨qv,oh,ky⟩:=Sv.at (SR.sv T E.log0) (bg (x:=v_) (show iv.i.a.toNat<a.l.length from by omega));obtain⟨rfl,pS⟩:=oh;refine bE (v:=(aG [(.bool (a.l.getD iv.i.a.toNat v_).inS),(iI (a.l.getD iv.i.a.toNat v_).x)])) (id:= .l (sB (sL bl a.l.length b2))) (mT (i:=0) V V V ky V V V) V V (jj V) (kb V) (zp 0 (zl 0 (HS.hc E.log0 (i:=1) V) (zp 2 (zl 2 (HS.hc E.log0 (i:=2) V) (zy LocT iv.i.b (SR.sv T E.log0) ?_)))));obtain⟨qw,ol,kz⟩:=Sv.at (SR.sv T E.log0) (bg (x:=v_) (show iv.i.b.toNat<a.l.length from by omega));obtain⟨rfl,pU⟩:=ol;refine bE (v:=(aG [(.bool (a.l.getD iv.i.b.toNat v_).inS),(iI (a.l.getD iv.i.b.toNat v_).x)])) (id:= .l (sB (sL bl a.l.length b2))) (mT (i:=0) V V V kz V V V) V V (jj V) (kb V) (znD E V fun ph qo oz=>znD oz V fun pi pJ b7=>gP (id:= .x [ph]) (rs_rec (q:=5) b7.log0 V V V V V V V V V) V (by rintro _ _ _ ⟨_,hwr⟩;exact dC V V (Wr.did hwr)) (⟨.inl V,.inl V,.inr (SR.nin T b7 (i:=5) (j:=0) V M),.inr trivial,.inr (HS.nin b7 (i:=2) (j:=5) V V e_ (List.Mem.head _)),.inr trivial,.inr (HS.nin b7 (i:=1) (j:=5) V V e_ (List.Mem.head _)),q_⟩) ?_);rintro _ jb _ ⟨b8,_⟩ h0 go;replace b8:=HS.lg b8 b7 go;generalize ({jb with log:=h0}:Heap)=pK at b8⊢;refine gP (id:= .x [pi]) (rs_rec (q:=6) b8.log0 V V V V V V V V V) V (by rintro _ _ _ ⟨_,hwr⟩;exact dC V V (Wr.did hwr)) (kb V) ?_;rintro _ jq _ ⟨N,_⟩ h3 g3;replace N:=HS.lg N b8 g3;generalize ({jq with log:=h3}:Heap)=pL at N⊢;refine gS (am 3 V (aU 1 92 95 [] [(92,(.bool (((a.l.getD iv.i.a.toNat v_).inS==(a.l.getD iv.i.b.toNat v_).inS)&&(((a.l.getD iv.i.a.toNat v_).x==(a.l.getD iv.i.b.toNat v_).x)&&true))))] (Hr_ 0 5 (Hr_ 1 6 (Ho_ 2 (.o (.bool (((a.l.getD iv.i.a.toNat v_).inS==(a.l.getD iv.i.b.toNat v_).inS)&&(((a.l.getD iv.i.a.toNat v_).x==(a.l.getD iv.i.b.toNat v_).x)&&true)))) (agEq (P:=Tryz.prog) (t:=39) (xs:=[(.bool (a.l.getD iv.i.a.toNat v_).inS),(iI (a.l.getD iv.i.a.toNat v_).x)]) (ys:=[(.bool (a.l.getD iv.i.b.toNat v_).inS),(iI (a.l.getD iv.i.b.toNat v_).x)]) (bs:=[((a.l.getD iv.i.a.toNat v_).inS==(a.l.getD iv.i.b.toNat v_).inS),((a.l.getD iv.i.a.toNat v_).x==(a.l.getD iv.i.b.toNat v_).x)]) V V V (by kernel_rfl) (by kernel_rfl) (.cons ⟨by decide,_,_,V,V,eqB V⟩ (.cons ⟨by decide,_,_,V,V,eqI V⟩ .nil))) Hn_))) N V V fun _=>zI 1 1 (fun ki=>?_) fun ki=>?_))
  ·refine wT 1 [] 4 4 [] [(4,(sL none 0 0))] V fun _=>aj ⟨.inr V,_,V,none,0,([]:List InsT),[],_,(fT (ag) U),(HS.cons (HS.forget N)),V,(OS.nil:OS _ _ _ []),(by rw[←exp_m ai ao cc];exact mov1 (loc_ext (by simp_all)))⟩
  have il: ¬((atV a.l iv.i.a).inS=(atV a.l iv.i.b).inS/\(atV a.l iv.i.a).x=(atV a.l iv.i.b).x):=fun h=>by simp_all
  refine aU 1 96 103 [] [(96,(.bool ((a.l.getD iv.i.b.toNat v_).inS&&(!(a.l.getD iv.i.a.toNat v_).inS))))] (Hr_ 1 6 (be 4 (fun _=>(ql 4 0 (HS.hc N (i:=5) V) V V)) Hn_)) N V V fun _=>zI 1 1 (fun kk=>?_) fun kk=>?_
  ·refine ab (aY 4 0 104 107 [] [(105,(iI (a.l.getD iv.i.a.toNat v_).x)),(107,(iI (a.l.getD iv.i.b.toNat v_).x))] (Hr_ 1 5 (Hr_ 3 6 Hn_)) N V V fun _=>zc (iL ex (a.l.getD iv.i.a.toNat v_).x (a.l.getD iv.i.b.toNat v_).x (HS.call N) M M hT) ?_);rintro _ p9 ⟨qE,p2,hE,c9,rfl,k0,k3,k4,k5,k6,rfl⟩;replace c9:=HS.back N V c9;refine zlo ([(⟨36,(a.l.getD iv.i.a.toNat v_).x,0,0,(a.l.getD iv.i.b.toNat v_).x⟩:InsT)]:List InsT) c9 V (RL.cs ⟨V,by(dsimp only;omega),by(dsimp only;omega),by(dsimp only;omega),by(dsimp only;omega),by(dsimp only;omega)⟩ RL.nl) V fun fd hn oH qa hM hS=>za (sL fd ([(⟨36,(a.l.getD iv.i.a.toNat v_).x,0,0,(a.l.getD iv.i.b.toNat v_).x⟩:InsT)]:List InsT).length hn) (ah 1 V (aj ⟨.inr V,_,V,fd,hn,([(⟨36,(a.l.getD iv.i.a.toNat v_).x,0,0,(a.l.getD iv.i.b.toNat v_).x⟩:InsT)]:List InsT),oH,_,(fT (fT (ag) U) hE),(HS.only hS (i:=7) V),V,hM,(by rw[←exp_m ai ao cc];exact mov2 il X)⟩))
  refine aU 1 110 117 [] [(110,(.bool ((a.l.getD iv.i.a.toNat v_).inS&&(!(a.l.getD iv.i.b.toNat v_).inS))))] (Hr_ 1 5 (be 4 (fun _=>(ql 4 0 (HS.hc N (i:=6) V) V V)) Hn_)) N V V fun _=>zI 1 4 (fun kl=>?_) fun kl=>?_
  ·refine ab (aY 4 0 118 121 [] [(119,(iI (a.l.getD iv.i.b.toNat v_).x)),(121,(iI (a.l.getD iv.i.a.toNat v_).x))] (Hr_ 1 6 (Hr_ 3 5 Hn_)) N V V fun _=>zc (kI ex (a.l.getD iv.i.b.toNat v_).x (a.l.getD iv.i.a.toNat v_).x (HS.call N) M M hT) ?_);rintro _ qb ⟨qF,p3,hF,dd,rfl,k7,k8,k9,lf,lr,rfl⟩;replace dd:=HS.back N V dd;refine zlo ([(⟨37,(a.l.getD iv.i.b.toNat v_).x,0,0,(a.l.getD iv.i.a.toNat v_).x⟩:InsT)]:List InsT) dd V (RL.cs ⟨V,by(dsimp only;omega),by(dsimp only;omega),by(dsimp only;omega),by(dsimp only;omega),by(dsimp only;omega)⟩ RL.nl) V fun fi hp oI qc hO hV=>za (sL fi ([(⟨37,(a.l.getD iv.i.b.toNat v_).x,0,0,(a.l.getD iv.i.a.toNat v_).x⟩:InsT)]:List InsT).length hp) (ah 1 V (aj ⟨.inr V,_,V,fi,hp,([(⟨37,(a.l.getD iv.i.b.toNat v_).x,0,0,(a.l.getD iv.i.a.toNat v_).x⟩:InsT)]:List InsT),oI,_,(fT (fT (ag) U) hF),(HS.only hV (i:=7) V),V,hO,(by rw[←exp_m ai ao cc];exact mov3 X)⟩))
  have b5:iv.i.op≠38:=M
  refine ab (aY 2 0 148 149 [] [(148,hv),(149,(aG [(sL bl a.l.length b2),(sL cg a.p.length ci),(iI a.k)]))] (Hr_ 0 2 (Hr_ 1 1 Hn_)) N V V fun _=>zc (xop_c ex iv.i a (HS.call N) M M M M M T c7 M hT X X (fun h=>rf.a (h.elim .inl fun h=> .inr (.inl h))) (rf.b) (fun h=>rf.c ((inf4 ai b5).1 h))) ?_);rintro _ qd ⟨e1,e5,qC,oJ,p4,hG,dk,rfl,g7,rfl⟩;replace dk:=HS.back N V dk;refine za (sL e1 (kU (aE iv.i.op) iv.i a.l).length e5) (ah 1 V (aj ⟨.inr V,_,V,e1,e5,kU (aE iv.i.op) iv.i a.l,oJ,_,(fT (fT (ag) U) hG),(HS.only dk (i:=7) V),V,g7,(by rw[←exp_m ai ao cc,←mov4 il (by simp_all) (by simp_all),vin_eq b5])⟩))
 have cc:=f2;refine wT 1 [] 124 125 [] [(124,(.bool (iv.i.op==38)))] V fun _=>zI 1 3 (fun d1=>?_) fun d1=>?_
 ·have b5:=d1;have hA:=rf.a (.inr (.inr (.inr b5)));refine ab ?_;obtain⟨pP,e4⟩:=Sv.view (SR.sv T E);have py:=LocT.fx (e4 iv.i.a.toNat);refine aY 6 0 126 131 [] [(131,(aG [(.bool (a.l.getD iv.i.a.toNat v_).inS),(iI (a.l.getD iv.i.a.toNat v_).x)]))] (Hr_ 1 1 (Hr_ 3 2 (Ha_ (Sv.ix (j:=iv.i.a) (SR.sv T E)) (Hl_ 5 (qn 39 0 2 (LocT.vw (e4 iv.i.a.toNat)) V V V V) Hn_)))) E V V fun _=>zn E V fun kc qe hW=>sgo 1 7 1 0 [] [] (Hr_ 7 5 Hn_) hW V V fun pV qf aA=>ah 2 V (aU 1 132 134 [] [(134,(.bool (!(a.l.getD iv.i.a.toNat v_).inS)))] (Hr_ 1 5 Hn_) aA V V fun _=>zI 1 1 (fun kn=>?_) fun kn=>?_)
  ·refine ab (aY 4 0 135 138 [] [(136,(iI (a.l.getD iv.i.a.toNat v_).x)),(138,(iI iv.i.n))] (Hr_ 1 5 (Hr_ 3 2 Hn_)) aA V V fun _=>zc (iL ex (a.l.getD iv.i.a.toNat v_).x iv.i.n (HS.call aA) M M hT) ?_);rintro _ qg ⟨qG,p5,hH,dl,rfl,l0,l1,l2,l3,l4,rfl⟩;replace dl:=HS.back aA V dl;refine zlo ([(⟨36,(a.l.getD iv.i.a.toNat v_).x,0,0,iv.i.n⟩:InsT)]:List InsT) dl V (RL.cs ⟨V,by(dsimp only;omega),by(dsimp only;omega),by(dsimp only;omega),by(dsimp only;omega),by(dsimp only;omega)⟩ RL.nl) V fun fj hq oK qh hP hX=>za (sL fj ([(⟨36,(a.l.getD iv.i.a.toNat v_).x,0,0,iv.i.n⟩:InsT)]:List InsT).length hq) (ah 1 V (aj ⟨.inr V,_,V,fj,hq,([(⟨36,(a.l.getD iv.i.a.toNat v_).x,0,0,iv.i.n⟩:InsT)]:List InsT),oK,_,(fT (fT (ag) U) hH),(HS.only hX (i:=6) V),V,hP,(par1 ai ao b5 X)⟩))
  refine aL V (eO 2 141 142 [] [(142,(iI iv.i.n))] (Hr_ 1 2 Hn_) aA V V fun _=>ba (W:=[]) (aO V V V) V V V (iL ex (5) iv.i.n (HS.call aA.log0) M M hT) (kb V) ?_);rintro _ jw ⟨qH,p6,e3,ap,rfl,l5,l7,l8,l9,mk,rfl⟩;refine⟨Wr.did ap.log,fun h4 g4=>?_⟩;replace ap:=HS.back aA.log0 V ap;replace ap:=HS.lg ap aA g4;generalize ({jw with log:=h4}:Heap)=pM at ap⊢;replace hT:=hT.mono e3;refine zp 1 (bE (v:=(iI (a.l.getD iv.i.a.toNat v_).x)) (id:= .l kc) (gB (i:=1) V V (HS.hc ap.log0 (i:=5) V) V V) V V (jj V) (⟨.inl V,.inr a0k,q_⟩) (ba (W:=[]) (aO V V V) V V V (kI ex (5) (a.l.getD iv.i.a.toNat v_).x (HS.call ap.log0) M M hT) (kb V) ?_));rintro _ ka ⟨qI,p7,hI,a4,rfl,mx,mI,m0,ne,nm,rfl⟩;refine⟨Wr.did a4.log,fun h5 g5=>?_⟩;replace a4:=HS.back ap.log0 V a4;replace a4:=HS.lg a4 ap g5;generalize ({ka with log:=h5}:Heap)=pN at a4⊢;refine zld ([(⟨36,(5:Int),0,0,iv.i.n⟩:InsT),(⟨37,(5:Int),0,0,(a.l.getD iv.i.a.toNat v_).x⟩:InsT)]:List InsT) a4 V (RL.cs ⟨V,by(dsimp only;omega),by(dsimp only;omega),by(dsimp only;omega),by(dsimp only;omega),by(dsimp only;omega)⟩ (RL.cs ⟨V,by(dsimp only;omega),by(dsimp only;omega),by(dsimp only;omega),by(dsimp only;omega),by(dsimp only;omega)⟩ RL.nl)) V fun f0 hr oL pO hQ hY=>fa (sL f0 ([(⟨36,(5:Int),0,0,iv.i.n⟩:InsT),(⟨37,(5:Int),0,0,(a.l.getD iv.i.a.toNat v_).x⟩:InsT)]:List InsT).length hr) V V V (bC 1 V (aj ⟨.inr V,_,V,f0,hr,([(⟨36,(5:Int),0,0,iv.i.n⟩:InsT),(⟨37,(5:Int),0,0,(a.l.getD iv.i.a.toNat v_).x⟩:InsT)]:List InsT),oL,_,(fT (fT (fT (ag) U) e3) hI),(HS.only hY (i:=6) V),V,hQ,(par2 ai ao b5 (by simp_all))⟩))
 have b5:iv.i.op≠38:=d1;refine ab (aY 2 0 148 149 [] [(148,hv),(149,(aG [(sL bl a.l.length b2),(sL cg a.p.length ci),(iI a.k)]))] (Hr_ 0 2 (Hr_ 1 1 Hn_)) E V V fun _=>zc (xop_c ex iv.i a (HS.call E) M M M M M T c7 M hT X X (fun h=>rf.a (h.elim .inl fun h=> .inr (.inl h))) (rf.b) (fun h=>rf.c ((inf4 ai b5).1 h))) ?_);rintro _ qj ⟨e2,e6,qD,oM,p8,hJ,dn,rfl,g8,rfl⟩;replace dn:=HS.back E V dn;refine za (sL e2 (kU (aE iv.i.op) iv.i a.l).length e6) (ah 1 V (aj ⟨.inr V,_,V,e2,e6,kU (aE iv.i.op) iv.i a.l,oM,_,(fT (fT (ag) U) hJ),(HS.only dn (i:=5) V),V,g8,(by rw[←exp_n ai ao h6 cc,vin_eq b5])⟩))
end xa
open xa
namespace ej
structure JmpT where
 at_:Int
 to:Int
 deriving Inhabited
instance :Rp JmpT where
 sz:=2
 rep F cs x:=cs=[iI x.at_,iI x.to]/\in64 x.at_/\in64 x.to
 len:=by rintro F cs x ⟨rfl,_⟩;rfl
 one:=by rintro F cs x ⟨rfl,_⟩;rfl
 mono:=by intro F F' cs x _ h;exact h
theorem JmpT.vw{F:Fz}{get:Nat->Option AObj}{v:Value}{cf:Nat->List Value}{j:Nat}{l:List JmpT}(h:VW F get v l cf j)(T:j<l.length:=by first|(dsimp only;omega)|omega):HC get (sB v) (sO v+j *Rp.sz JmpT) [iI (l.getD j default).at_,iI (l.getD j default).to]:=by obtain⟨⟨N,_⟩,E⟩:=h.1 default T;rw[show cf j=_ from N]at E;exact E
theorem JmpT.fx{F:Fz}{get:Nat->Option AObj}{v:Value}{cf:Nat->List Value}{j:Nat}{l:List JmpT}(h:VW F get v l cf j):in64 (l.getD j default).at_/\in64 (l.getD j default).to:=by
 rcases a0g j l.length with hj|hj
 ·obtain⟨⟨T,E,N⟩,_⟩:=h.1 default hj;exact⟨E,N⟩
 rw[cb hj];exact⟨by decide,by decide⟩
structure BinT where
 wd:(List U32)
 en:(List Int)
 pr:(List Int)
 sl:(List Int)
 al:(List Int)
 deriving Inhabited
instance :Rp BinT where
 sz:=5
 rep F cs x:= ∃a0 k0 a1 k1 a2 k2 a3 k3 a4 k4,cs=[sL a0 x.wd.length k0,sL a1 x.en.length k1,sL a2 x.pr.length k2,sL a3 x.sl.length k3,sL a4 x.al.length k4]/\SR F (sL a0 x.wd.length k0) x.wd/\SR F (sL a1 x.en.length k1) x.en/\SR F (sL a2 x.pr.length k2) x.pr/\SR F (sL a3 x.sl.length k3) x.sl/\SR F (sL a4 x.al.length k4) x.al
 len:=by rintro F cs x ⟨a0,k0,a1,k1,a2,k2,a3,k3,a4,k4,rfl,_⟩;rfl
 one:=by rintro F cs x ⟨a0,k0,a1,k1,a2,k2,a3,k3,a4,k4,rfl,_⟩;rfl
 mono:=by rintro F F' cs x hF ⟨a0,k0,a1,k1,a2,k2,a3,k3,a4,k4,rfl,h0,h1,h2,h3,h4⟩;exact⟨a0,k0,a1,k1,a2,k2,a3,k3,a4,k4,V,h0.mono hF,h1.mono hF,h2.mono hF,h3.mono hF,h4.mono hF⟩
end ej
open ej
namespace ea
open Go.R m1 m2 m3 m4 m5 m6 ma ml mb mc md mf mg mh mi mj na nb nc ni nv xa ej
instance :RpI InsT:=⟨fun _ _ _ _ h=>h⟩
instance :RpI JmpT:=⟨fun _ _ _ _ h=>h⟩
structure EmS where
 l:List InsT
 pl:List Int
 sz:Int
 js:List JmpT
 deriving Inhabited
def wdI(i:InsT):Int:=(aE i.op).w
def put1(s:EmS)(i:InsT):EmS:=⟨s.l++[i],s.pl++[s.sz],s.sz+wdI i,s.js⟩
def eS(s:EmS)(l:List InsT):EmS:=l.foldl put1 s
def lj(s:EmS)(i:InsT)(b:Int):EmS:=eS ⟨s.l,s.pl,s.sz,s.js++[⟨(s.l.length:Int),b⟩]⟩ [i]
def brnV(s:EmS)(r:Int)(b:BlkT)(E:Int):EmS:=
 if b.e=E then lj s ⟨8,r,0,0,0⟩ b.t else if b.t=E then lj s ⟨7,r,0,0,0⟩ b.e else lj (lj s ⟨8,r,0,0,0⟩ b.t) ⟨5,0,0,0,0⟩ b.e
def fetS(x:LocT):List InsT:=if x.inS=true then [⟨36,5,0,0,x.x⟩] else []
def fY(s:EmS)(b:BlkT)(ll:List LocT)(E:Int):EmS:=
 if b.f=1 then(if b.t=E then s else lj s ⟨5,0,0,0,0⟩ b.t)
 else if b.f=2 then brnV (eS s (fetS (atV ll b.r))) (jS (atV ll b.r).inS (atV ll b.r).x 5) b E
 else if b.f=3 then eS (eS s (lP 0 (atV ll b.r).inS (atV ll b.r).x)) [⟨2,0,0,0,0⟩]
 else eS s [⟨4,0,0,0,b.t⟩]
def jD(ll:List LocT)(s:EmS)(l:List VInT):EmS:=l.foldl (fun s v=>eS s (lq v ll)) s
def parE(s:EmS):Nat->EmS
 |0=>s
 |k+1=>eS (parE s k) [⟨37,(k:Int),0,0,(k:Int)⟩]
def kt(ll:List LocT):List BlkT->Int->EmS×List Int->EmS×List Int
 | [],_,x=>x
 |b::r,k,x=>kt ll r (k+1) (fY (jD ll x.1 b.v) b ll (k+1),x.2++[x.1.sz])
def gi(c:VFnT)(ll:List LocT)(s:EmS):EmS×List Int:=kt ll c.u 0 (parE ⟨s.l,s.pl,s.sz,[]⟩ c.m.toNat,[])
def fixJ(st pl:List Int)(l:List InsT)(j:JmpT):List InsT:=l.set j.at_.toNat ⟨(l.getD j.at_.toNat v_).op,(l.getD j.at_.toNat v_).a,(l.getD j.at_.toNat v_).b,(l.getD j.at_.toNat v_).c,IntKind.i64.wrap (st.getD j.to.toNat 0-pl.getD j.at_.toNat 0)⟩
def jF(st pl:List Int)(l:List InsT)(js:List JmpT):List InsT:=js.foldl (fixJ st pl) l
theorem fW(i:InsT):0<=wdI i/\wdI i<=3:=by
 unfold wdI;by_cases h:1<=i.op/\i.op<=37
 ·have E: ∀k:Fin 37,0<=(aE ((k.val:Int)+1)).w/\(aE ((k.val:Int)+1)).w<=3:=by decide
  obtain⟨k,N⟩:=ex37 h;rw[N];exact E k
 unfold aE;rw[if_neg h];exact⟨a1q _,by decide⟩
theorem gJ(s:EmS)(i:InsT)(l:List InsT):eS s (i::l)=eS (put1 s i) l:=rfl
theorem put_app(s:EmS)(l m:List InsT):eS s (l++m)=eS (eS s l) m:=List.foldl_append
theorem put_l: ∀(l:List InsT) (s:EmS),(eS s l).l=s.l++l
 | [],s=>(a0o _).symm
 |i::l,s=>by rw[gJ,put_l l];simp[put1]
theorem put_js: ∀(l:List InsT) (s:EmS),(eS s l).js=s.js
 | [],_=>rfl
 |i::l,s=>by rw[gJ,put_js l];rfl
theorem put_step{s w:EmS}{l:List InsT}{k:Nat}(h:w=eS s (l.take k))(E:k<l.length):put1 w (l.getD k v_)=eS s (l.take (k+1)):=by rw[h,aX E (d:=v_),put_app];rfl
structure EmO(s:EmS):Prop where
 pl:s.pl.length=s.l.length
 js:s.js.length<=s.l.length
 sz0:0<=s.sz
 sz1:s.sz<=1000000+3 *(s.l.length:Int)
theorem EmO.p1{s:EmS}(h:EmO s)(i:InsT):EmO (put1 s i):=by have E:=h.pl;have N:=h.js;have T:=h.sz0;have U:=h.sz1;have a_:=fW i;refine⟨?_,?_,?_,?_⟩<;>simp only[put1,a01,a0j]<;>omega
theorem EmO.pt: ∀(l:List InsT) {s:EmS},EmO s->EmO (eS s l)
 | [],_,h=>h
 |i::l,_,h=>EmO.pt l (h.p1 i)
theorem EmO.j0{s:EmS}(h:EmO s):EmO ⟨s.l,s.pl,s.sz,[]⟩:=⟨h.pl,a0D _,h.sz0,h.sz1⟩
theorem put_j0: ∀(l:List InsT) (s:EmS),eS ⟨s.l,s.pl,s.sz,[]⟩ l=⟨(eS s l).l,(eS s l).pl,(eS s l).sz,[]⟩
 | [],_=>rfl
 |i::l,s=>by rw[gJ,gJ,←put_j0 l];rfl
theorem EmO.jm{s:EmS}(h:EmO s)(i:InsT)(b:Int):EmO (lj s i b):=by have E:=h.pl;have N:=h.js;have T:=h.sz0;have U:=h.sz1;have a_:=fW i;unfold lj;refine⟨?_,?_,?_,?_⟩<;>simp only[eS,a2p,List.foldl_nil,put1,a01,a0j]<;>omega
theorem d7(s:EmS)(i:InsT)(b:Int):(lj s i b).l.length=s.l.length+1:=by unfold lj;rw[put_l];simp
theorem cw(s:EmS)(l:List InsT):(eS s l).l.length=s.l.length+l.length:=by rw[put_l,a01]
theorem nI{x:LocT}:(fetS x).length<=1:=by unfold fetS;split<;>simp
theorem EmO.tr{s:EmS}(h:EmO s)(b:BlkT)(ll:List LocT)(E:Int):EmO (fY s b ll E):=by
 unfold fY;split
 ·split
  ·exact h
  exact h.jm _ _
 split
 ·unfold brnV;split
  ·exact(h.pt _).jm _ _
  split
  ·exact(h.pt _).jm _ _
  exact((h.pt _).jm _ _).jm _ _
 split
 ·exact(h.pt _).pt _
 exact h.pt _
theorem trm_len(s:EmS)(b:BlkT)(ll:List LocT)(T:Int):(fY s b ll T).l.length<=s.l.length+3:=by
 unfold fY;have E:=nI (x:=atV ll b.r);have N:=fet_len (to:=0) (b:=(atV ll b.r).inS) (x:=(atV ll b.r).x);split
 ·split
  ·omega
  rw[d7];omega
 split
 ·unfold brnV;split
  ·rw[d7,cw];omega
  split
  ·rw[d7,cw];omega
  rw[d7,d7,cw];omega
 split
 ·rw[cw,cw];simp only[a0j];omega
 rw[cw];simp only[a0j];omega
theorem drp{α:Type}{l:List α}{i:Nat}{d:α}(h:i<l.length):l.drop i=l.getD i d::l.drop (i+1):=by rw[a1f h,a02,a06 h];rfl
theorem dre{α:Type}{l:List α}{i:Nat}(h:l.length<=i):l.drop i=[]:=a1P h
theorem oth_len{f:InfT}{i:InsT}{l:List LocT}:(kU f i l).length<=5:=by have E:=lenA (f:=f) (i:=i) (l:=l);have N:=lenB (f:=f) (i:=i) (l:=l);have T:=lenC (f:=f) (i:=i) (l:=l);have U:(wV f i l).length<=1:=len1;unfold kU;simp only[a01,a05,a0b];omega
theorem exp_len{v:VInT}{l:List LocT}:(lq v l).length<=v.args.length+5:=by
 unfold lq;split
 ·split
  ·have E:=nP (l:=l) (a:=v.args) v.args.length;have N:(savV (atV l v.i.a).inS (atV l v.i.a).x).length<=1:=by unfold savV;split<;>(try split)<;>simp
   simp only[a01,a05,a0b];omega
  split
  ·unfold movV;split
   ·simp
   split
   ·simp
   split
   ·simp
   exact a0e oth_len M
  exact a0e oth_len M
 simp
theorem ins_go{ll:List LocT}{s E c_:EmS}{l:List VInT}{i:Nat}(h:jD ll s (l.drop i)=c_)(hi:i<l.length)(e:E=eS s (lq (l.getD i v_) ll)):jD ll E (l.drop (i+1))=c_:=by rw[drp (d:=v_) hi]at h;rw[e];exact h
theorem ins_end{ll:List LocT}{s c_:EmS}{l:List VInT}{i:Nat}(h:jD ll s (l.drop i)=c_)(hi:l.length<=i):s=c_:=by rw[dre hi]at h;exact h
theorem blk_go{ll:List LocT}{bs:List BlkT}{k:Nat}{s E:EmS}{st:List Int}{c_:EmS×List Int}(h:kt ll (bs.drop k) (k:Int) (s,st)=c_)(N:k<bs.length)(e:E=fY (jD ll s (bs.getD k v_).v) (bs.getD k v_) ll ((k:Int)+1)):kt ll (bs.drop (k+1)) ((k+1:Nat):Int) (E,st++[s.sz])=c_:=by rw[drp (d:=v_) N]at h;rw[e];exact h
theorem gy{ll:List LocT}{bs:List BlkT}{k:Nat}{s:EmS}{st:List Int}{c_:EmS×List Int}(h:kt ll (bs.drop k) (k:Int) (s,st)=c_)(E:bs.length<=k):(s,st)=c_:=by rw[dre E]at h;exact h
theorem fix_go{st pl:List Int}{l l' c_:List InsT}{js:List JmpT}{j:Nat}(h:jF st pl l (js.drop j)=c_)(E:j<js.length)(e:l'=fixJ st pl l (js.getD j v_)):jF st pl l' (js.drop (j+1))=c_:=by rw[drp (d:=v_) E]at h;rw[e];exact h
theorem fix_end{st pl:List Int}{l c_:List InsT}{js:List JmpT}{j:Nat}(h:jF st pl l (js.drop j)=c_)(E:js.length<=j):l=c_:=by rw[dre E]at h;exact h
def JsO(s:EmS)(nb:Int):Prop:= ∀j∈s.js,(0<=j.at_/\j.at_<(s.l.length:Int))/\0<=j.to/\j.to<nb
theorem JsO.pt{s:EmS}{nb:Int}(h:JsO s nb)(l:List InsT):JsO (eS s l) nb:=fun j E=>by rw[put_js]at E;have:=h j E;rw[cw];omega
theorem JsO.jm{s:EmS}{nb b:Int}(h:JsO s nb)(i:InsT)(N:0<=b/\b<nb):JsO (lj s i b) nb:=fun j E=>by
 rw[d7];unfold lj at E;rw[put_js,a07,a08]at E;rcases E with E|rfl
 ·have:=h j E;omega
 exact⟨⟨by dsimp only;omega,by dsimp only;omega⟩,N⟩
def TgO(b:BlkT)(nb:Int):Prop:=(b.f=1->0<=b.t/\b.t<nb)/\(b.f=2->(0<=b.t/\b.t<nb)/\0<=b.e/\b.e<nb)
theorem tg_of{c:VFnT}(v:VF c){k:Nat}(E:k<c.u.length):TgO (c.u.getD k v_) (c.u.length:Int):=by
 have h:=v.succ k E;refine⟨fun e=>h _ ?_,fun e=>⟨h _ ?_,h _ ?_⟩⟩
 ·unfold br;rw[if_pos (show(bB c k).f=1 from e)];exact a08.2 V
 ·unfold br;rw[if_neg (show ¬(bB c k).f=1 by have e:(bB c k).f=2:=e;omega),if_pos (show(bB c k).f=2 from e),im];exact .inr (a08.2 V)
 unfold br;rw[if_neg (show ¬(bB c k).f=1 by have e:(bB c k).f=2:=e;omega),if_pos (show(bB c k).f=2 from e),im];exact .inl V
theorem JsO.tr{s:EmS}{nb:Int}(h:JsO s nb){b:BlkT}(N:TgO b nb)(ll:List LocT)(T:Int):JsO (fY s b ll T) nb:=by
 unfold fY;split
 ·split
  ·exact h
  exact h.jm _ (N.1 X)
 split
 ·have E:=N.2 X;unfold brnV;split
  ·exact(h.pt _).jm _ E.1
  split
  ·exact(h.pt _).jm _ E.2
  exact((h.pt _).jm _ E.1).jm _ E.2
 split
 ·exact(h.pt _).pt _
 exact h.pt _
theorem js_at{s:EmS}{nb:Int}(h:JsO s nb){k:Nat}(E:k<s.js.length):(0<=(s.js.getD k v_).at_/\(s.js.getD k v_).at_<(s.l.length:Int))/\0<=(s.js.getD k v_).to/\(s.js.getD k v_).to<nb:=by rw[a02,a06 E];exact h _ (a10 E)
def gh(c:VFnT)(ll:List LocT)(s:EmS):EmS×List Int:=(⟨jF (gi c ll s).2 (gi c ll s).1.pl (gi c ll s).1.l (gi c ll s).1.js,(gi c ll s).1.pl,(gi c ll s).1.sz,(gi c ll s).1.js⟩,(gi c ll s).2)
end ea
open ea
namespace eb
open Go.R m1 m2 m3 m4 m5 m6 ma ml
def loN(op:Int):Int:=if op=4 then 1 else if op=5 then-33554432 else if op=14 then-9223372036854775808 else if op=7\/op=8\/op=13\/op=33 then-4194304 else 0
def hiN(op:Int):Int:=if op=4\/op=5 then 33554431 else if op=6 then 7 else if op=34\/op=35 then 3 else if op=36\/op=37 then 2999 else if op=14 then 9223372036854775807 else if op=7\/op=8\/op=13\/op=33 then 4194303 else 0
def loP(op:Int):Int:=if op=14 then-9223372036854775808 else if op=4 then 1 else if op=5 then-33554432 else if op=6\/op=34\/op=35\/op=36\/op=37 then 0 else-4194304
def hiP(op:Int):Int:=if op=14 then 9223372036854775807 else if op=4\/op=5 then 33554431 else if op=6 then 7 else if op=34\/op=35 then 3 else if op=36\/op=37 then 2999 else 4194303
abbrev fA(f:Int):Prop:=2<=f/\f<=7
abbrev fB(f:Int):Prop:=f=3\/f=4\/f=7
abbrev fN(f:Int):Prop:=5<=f/\f<=8
structure VldI(i:InsT):Prop where
 o:1<=i.op/\i.op<=37
 a:0<=i.a/\i.a<=7
 a6:i.op=6->i.a<=6
 b:0<=i.b/\i.b<8
 c:0<=i.c/\i.c<8
 a0: ¬fA (aE i.op).f->i.a=0
 b0: ¬fB (aE i.op).f->i.b=0
 c0: ¬(aE i.op).f=4->i.c=0
 n:i.op≠14->loN i.op<=i.n/\i.n<=hiN i.op
theorem nb_at: ∀k:Fin 37,(¬fN (aE ((k.val:Int)+1)).f->loN ((k.val:Int)+1)=0/\hiN ((k.val:Int)+1)=0)/\(fN (aE ((k.val:Int)+1)).f->loP ((k.val:Int)+1)=loN ((k.val:Int)+1)/\hiP ((k.val:Int)+1)=hiN ((k.val:Int)+1)):=by decide
theorem n14:fN (aE 14).f:=by decide
theorem VldI.nr{i:InsT}(v:VldI i)(h:in64 i.n):loN i.op<=i.n/\i.n<=hiN i.op:=by
 by_cases e:i.op=14
 ·rw[e];have h:=h;exact⟨h.1,by have:=h.2;show i.n<=9223372036854775807;omega⟩
 exact v.n e
theorem VldI.n0{i:InsT}(v:VldI i): ¬fN (aE i.op).f->i.n=0:=fun U=>by
 have E:i.op≠14:=fun e=>U (by rw[e];exact n14)
 have N:=v.n E;obtain⟨k,Z⟩:=ex37 v.o;have T:=(nb_at k).1;rw[Z]at N U;have:=T U;omega
theorem VldI.nn{i:InsT}(v:VldI i)(h:in64 i.n):fN (aE i.op).f->loP i.op<=i.n/\i.n<=hiP i.op:=fun T=>by have E:=v.nr h;obtain⟨k,U⟩:=ex37 v.o;have N:=(nb_at k).2;rw[U]at E T⊢;have:=N T;omega
theorem vz{p:Prop} [Decidable p]{x:Int}(h: ¬p->x=0):(!(decide p)&&(x !=0))=false:=by
 by_cases E:p
 ·simp[E]
 simp[E,h E]
theorem VldI.c1{i:InsT}(v:VldI i):((((!(decide (fA (aE i.op).f))&&(i.a !=0))||(!(decide (fB (aE i.op).f))&&(i.b !=0)))||(!(decide ((aE i.op).f=4))&&(i.c !=0)))||(!(decide (fN (aE i.op).f))&&(i.n !=0)))=false:=by rw[vz v.a0,vz v.b0,vz v.c0,vz v.n0];rfl
theorem VldI.c2{i:InsT}(v:VldI i)(E:in64 i.n):(!(decide (fN (aE i.op).f))||(decide (loP i.op<=i.n)&&decide (i.n<=hiP i.op)))=true:=by
 by_cases h:fN (aE i.op).f
 ·have:=v.nn E h;rw[decide_eq_true this.1,decide_eq_true this.2];simp
 rw[decide_eq_false h];rfl
theorem VldI.c3{i:InsT}(v:VldI i)(T:in64 i.n):(((aI i.op==0)||decide (i.n<loN i.op))||decide (hiN i.op<i.n))=false:=by have h:=iP i.op;have E:=v.o;have N:=v.nr T;rw[decide_eq_false M,decide_eq_false M,a1U,a1U];exact beq_eq_false_iff_ne.2 M
theorem inf_form: ∀k:Fin 37,(aE ((k.val:Int)+1)).f=aI ((k.val:Int)+1):=by decide
theorem VldI.ff{i:InsT}(v:VldI i):aI i.op=(aE i.op).f:=by obtain⟨k,E⟩:=ex37 v.o;rw[E];exact(inf_form k).symm
theorem f_rng: ∀k:Fin 37,1<=(aE ((k.val:Int)+1)).f/\(aE ((k.val:Int)+1)).f<=8:=by decide
theorem VldI.c4{i:InsT}(v:VldI i):(((!((aI i.op !=1)&&(aI i.op !=8))&&(i.a !=0))||(!(((aI i.op==3)||(aI i.op==4))||(aI i.op==7))&&(i.b !=0)))||((aI i.op !=4)&&(i.c !=0)))=false:=by
 have hf:=v.ff;have hr:1<=aI i.op/\aI i.op<=8:=by obtain⟨k,hk⟩:=ex37 v.o;rw[hk,←inf_form k];exact f_rng k
 have Z:=v.a0;have hb:=v.b0;have hc:=v.c0;rw[←hf]at Z hb hc;have E:(!((aI i.op !=1)&&(aI i.op !=8))&&(i.a !=0))=false:=by
  by_cases h:aI i.op=1\/aI i.op=8
  ·rw[Z (by unfold fA;omega)];simp
  have U:aI i.op≠1:=fun e=>h (.inl e)
  have a_:aI i.op≠8:=fun e=>h (.inr e)
  simp[U,a_]
 have N:(!(((aI i.op==3)||(aI i.op==4))||(aI i.op==7))&&(i.b !=0))=false:=by
  by_cases h:aI i.op=3\/aI i.op=4\/aI i.op=7
  ·rcases h with h|h|h<;>rw[h]<;>rfl
  rw[hb h];simp
 have T:((aI i.op !=4)&&(i.c !=0))=false:=by
  by_cases h:aI i.op=4
  ·rw[h];rfl
  rw[hc h];simp
 rw[E,N,T];rfl
abbrev u3(n:Int):Int:=IntKind.u32.wrap n
abbrev u6(n:Int):Int:=IntKind.u64.wrap n
abbrev or3(a b:Int):Int:=aD .or .u32 a b
abbrev sh3(a:Int)(k:Nat):Int:=IntKind.u32.wrap (a *2^(Nat.min k 32))
def hdW(i:InsT):Int:=or3 (or3 (or3 (u3 i.op) (sh3 (u3 i.a) 6)) (sh3 (u3 i.b) 9)) (sh3 (u3 i.c) 12)
def shN(f:Int):Nat:=if f=8 then 6 else if f=5 then 9 else if f=7 then 12 else 32
def enW(i:InsT):List U32:=if(aE i.op).f=6 then [⟨hdW i⟩,⟨u3 i.n⟩,⟨u3 (Int.fdiv (u6 i.n) (2^(Nat.min 32 64)))⟩] else [⟨or3 (hdW i) (sh3 (u3 i.n) (shN (aE i.op).f))⟩]
def eC(l:List InsT):List U32:=l.flatMap enW
theorem w32(n:Int):IntKind.u32.wrap n=n%4294967296:=by unfold IntKind.wrap;simp[IntKind.bits,IntKind.signed]
theorem gz(op:BinOp)(a b:Int):0<=aD op .u32 a b/\aD op .u32 a b<4294967296:=by unfold aD bits;cases op<;>first|exact ft _|(constructor<;>decide)
theorem n9{a:Int}(h:iC a)(k:Nat)(hk:k<64):aD .and .u64 a (((2^k-1:Nat)):Int)=a%((2^k:Nat):Int):=by
 have e:aD .and .u64 a (((2^k-1:Nat)):Int)=IntKind.u64.wrap ((bv a&&&bv (((2^k-1:Nat)):Int)).toNat:Int):=rfl;have hp:(2^k:Nat)<2^64:=a1X M hk;have E:0<(2^k:Nat):=Nat.pow_pos M;have U:(2:Nat)^64=18446744073709551616:=by decide
 rw[U]at hp;have N:(bv (((2^k-1:Nat)):Int)).toNat=2^k-1:=by rw[lB (by constructor<;>omega)];omega
 have T:(bv a&&&bv (((2^k-1:Nat)):Int)).toNat=a.toNat%2^k:=by rw[BitVec.toNat_and,lB h,N,Nat.and_two_pow_sub_one_eq_mod]
 have Z:a.toNat%2^k<2^k:=Nat.mod_lt _ E;rw[e,T,fX];have a_:((a.toNat%2^k:Nat):Int)=a%((2^k:Nat):Int):=by rw[Int.natCast_emod,a0Y h.1]
 rw[←a_];omega
def jG(f:Int):Nat:=if f=8 then 6 else if f=5 then 9 else if f=7 then 12 else 0
def fq(f:Int):Nat:=if f=8 then 26 else if f=5 then 23 else if f=7 then 20 else 0
def rnW(i:InsT)(f:Int):Int:=sh3 (u3 (aD .and .u64 (u6 i.n) (u6 (u6 (1 *2^(Nat.min (fq f) 64))-1)))) (jG f)
theorem rn_eq{i:InsT}{f:Int}(hf:f=8\/f=5\/f=7):rnW i f=sh3 (u3 i.n) (shN f):=by
 have hu:iC (u6 i.n):=shl_rng _;have Z: ∀k:Nat,k<64->1<=k->u6 (u6 (1 *2^(Nat.min k 64))-1)=(((2^k-1:Nat)):Int):=fun k hk U=>by
  show IntKind.u64.wrap (IntKind.u64.wrap (1 *2^(Nat.min k 64))-1)=_;rw[shl_one hk,fX];have hp:(2^k:Nat)<2^64:=a1X M hk;have N:0<(2^k:Nat):=Nat.pow_pos M;have T:(2:Nat)^64=18446744073709551616:=by decide
  rw[T]at hp;generalize (2^k:Nat)=q at hp N⊢;omega
 unfold rnW;have E:u6 i.n=i.n%18446744073709551616:=fX _;rcases hf with rfl|rfl|rfl
 ·rw[show fq 8=26 from V,Z 26 M M,n9 hu 26 M,E];show IntKind.u32.wrap (IntKind.u32.wrap _ *2^(Nat.min 6 32))=IntKind.u32.wrap (IntKind.u32.wrap _ *2^(Nat.min 6 32));simp only[w32,show(2:Int)^(Nat.min 6 32)=64 from by decide,show((2^26:Nat):Int)=67108864 from by decide];omega
 ·rw[show fq 5=23 from V,Z 23 M M,n9 hu 23 M,E];show IntKind.u32.wrap (IntKind.u32.wrap _ *2^(Nat.min 9 32))=IntKind.u32.wrap (IntKind.u32.wrap _ *2^(Nat.min 9 32));simp only[w32,show(2:Int)^(Nat.min 9 32)=512 from by decide,show((2^23:Nat):Int)=8388608 from by decide];omega
 rw[show fq 7=20 from V,Z 20 M M,n9 hu 20 M,E];show IntKind.u32.wrap (IntKind.u32.wrap _ *2^(Nat.min 12 32))=IntKind.u32.wrap (IntKind.u32.wrap _ *2^(Nat.min 12 32));simp only[w32,show(2:Int)^(Nat.min 12 32)=4096 from by decide,show((2^20:Nat):Int)=1048576 from by decide];omega
theorem or_zero{a:Int}(h:0<=a/\a<4294967296):or3 a 0=a:=by
 have e:or3 a 0=IntKind.u32.wrap ((BitVec.ofInt 32 a|||BitVec.ofInt 32 0).toNat:Int):=rfl;have E:((BitVec.ofInt 32 a).toNat:Int)=a:=by
  rw[BitVec.toNat_ofInt];have:((2^32:Nat):Int)=4294967296:=by decide
  rw[this];omega
 rw[e,BitVec.toNat_or,show(BitVec.ofInt 32 0).toNat=0 from by decide,Nat.or_zero,E,w32];omega
theorem hd_rng(i:InsT):0<=hdW i/\hdW i<4294967296:=gz _ _ _
theorem sh_32(n:Int):sh3 (u3 n) 32=0:=by show IntKind.u32.wrap (IntKind.u32.wrap n *2^(Nat.min 32 32))=0;simp only[w32,show(2:Int)^(Nat.min 32 32)=4294967296 from by decide];omega
def xW(i:InsT):Int:=if(fq (aI i.op):Int)>0 then or3 (hdW i) (rnW i (aI i.op)) else hdW i
def reW(i:InsT):List U32:=if i.op=14 then [⟨xW i⟩,⟨u3 (u6 i.n)⟩,⟨u3 (Int.fdiv (u6 i.n) (2^(Nat.min 32 64)))⟩] else [⟨xW i⟩]
theorem f6_14: ∀k:Fin 37,aI ((k.val:Int)+1)=6↔((k.val:Int)+1)=14:=by decide
theorem re_eq{i:InsT}(v:VldI i):reW i=enW i:=by
 have hf:=v.ff;have U:aI i.op=6↔i.op=14:=by obtain⟨k,hk⟩:=ex37 v.o;rw[hk];exact f6_14 k
 unfold reW enW;rw[←hf];by_cases h:i.op=14
 ·rw[if_pos h,if_pos (U.2 h)];have N:xW i=hdW i:=by unfold xW;rw[U.2 h];rfl
  have T:u3 (u6 i.n)=u3 i.n:=by show IntKind.u32.wrap (IntKind.u64.wrap i.n)=IntKind.u32.wrap i.n;rw[w32,w32,fX];omega
  rw[N,T]
 rw[if_neg h,if_neg (fun e=>h (U.1 e))];unfold xW;by_cases E:aI i.op=8\/aI i.op=5\/aI i.op=7
 ·rw[rn_eq E,if_pos (by rcases E with e|e|e<;>rw[e]<;>decide)]
 have a_: ¬aI i.op=8:=fun e=>E (.inl e)
 have Z: ¬aI i.op=5:=fun e=>E (.inr (.inl e))
 have h3: ¬aI i.op=7:=fun e=>E (.inr (.inr e))
 have N:fq (aI i.op)=0:=by unfold fq;rw[if_neg a_,if_neg Z,if_neg h3]
 have T:shN (aI i.op)=32:=by unfold shN;rw[if_neg a_,if_neg Z,if_neg h3]
 rw[N,T,sh_32,or_zero (hd_rng i)];rfl
theorem en_len{i:InsT}(v:VldI i):((enW i).length:Int)=(aE i.op).w:=by
 have: ∀k:Fin 37,(aE ((k.val:Int)+1)).w=if(aE ((k.val:Int)+1)).f=6 then 3 else 1:=by decide
 obtain⟨k,E⟩:=ex37 v.o;unfold enW;rw[E,this k];split<;>rfl
theorem en_le(i:InsT):(enW i).length<=3:=by unfold enW;split<;>simp
theorem enc_app(l m:List InsT):eC (l++m)=eC l++eC m:=by unfold eC;rw[a2u]
theorem kh{l:List InsT}{k:Nat}(E:k<l.length):eC (l.take k)++enW (l.getD k default)=eC (l.take (k+1)):=by rw[aX E (d:=default),enc_app];unfold eC;simp
theorem enc_le: ∀l:List InsT,(eC l).length<=3 *l.length
 | []=>a0d _
 |i::l=>by have E:=enc_le l;have N:=en_le i;rw[show eC (i::l)=enW i++eC l from V,a01,a05];omega
end eb
open eb
namespace ed
variable (ex:FuncId) {F:Fz} {H:Heap} {R:List Fp}
theorem flds_c(f:Int)(H:Heap):kKt ex 124 [(iI f)] H fun v H'=> ∃(a:Bool) (b:Bool) (c:Bool) (n:Bool),H'=H/\v= .tuple ⟨[.bool a,.bool b,.bool c,.bool n]⟩/\a=decide (fA f)/\b=decide (fB f)/\c=decide (f=4)/\n=decide (fN f):=by
 refine aC Tryz.func124 V V (am 1 V (wT 3 [] 1 0 [2,3,4,5] [(2,(.bool false)),(3,(.bool false)),(4,(.bool false)),(5,(.bool false))] V fun _=>wT 3 [] 6 6 [] [(6,(iI f))] V fun _=>wT 1 [] 7 8 [] [(7,(.bool (f==2)))] V fun _=>zI 0 1 (fun c4=>?_) fun c4=>?_))
 ·refine wT 2 [] 1 0 [2] [(2,(.bool true))] V fun _=>aj ⟨.inr V,_,V,true,false,false,false,V,V,(decide_eq_true (by first|omega|(unfold fA;omega)|(unfold fB;omega)|(unfold fN;omega))).symm,(decide_eq_false (by first|omega|(unfold fA;omega)|(unfold fB;omega)|(unfold fN;omega))).symm,(decide_eq_false (by first|omega|(unfold fA;omega)|(unfold fB;omega)|(unfold fN;omega))).symm,(decide_eq_false (by first|omega|(unfold fA;omega)|(unfold fB;omega)|(unfold fN;omega))).symm⟩
 refine wT 1 [] 9 10 [] [(9,(.bool (f==3)))] V fun _=>zI 0 1 (fun c7=>?_) fun c7=>?_
 ·refine wT 2 [] 1 0 [2,3] [(2,(.bool true)),(3,(.bool true))] V fun _=>aj ⟨.inr V,_,V,true,true,false,false,V,V,(decide_eq_true (by first|omega|(unfold fA;omega)|(unfold fB;omega)|(unfold fN;omega))).symm,(decide_eq_true (by first|omega|(unfold fA;omega)|(unfold fB;omega)|(unfold fN;omega))).symm,(decide_eq_false (by first|omega|(unfold fA;omega)|(unfold fB;omega)|(unfold fN;omega))).symm,(decide_eq_false (by first|omega|(unfold fA;omega)|(unfold fB;omega)|(unfold fN;omega))).symm⟩
 refine wT 1 [] 11 12 [] [(11,(.bool (f==4)))] V fun _=>zI 0 2 (fun T=>?_) fun T=>?_
 ·refine wT 2 [] 1 0 [2,3,4] [(2,(.bool true)),(3,(.bool true)),(4,(.bool true))] V fun _=>aj ⟨.inr V,_,V,true,true,true,false,V,V,(decide_eq_true (by first|omega|(unfold fA;omega)|(unfold fB;omega)|(unfold fN;omega))).symm,(decide_eq_true (by first|omega|(unfold fA;omega)|(unfold fB;omega)|(unfold fN;omega))).symm,(decide_eq_true (by first|omega|(unfold fA;omega)|(unfold fB;omega)|(unfold fN;omega))).symm,(decide_eq_false (by first|omega|(unfold fA;omega)|(unfold fB;omega)|(unfold fN;omega))).symm⟩
 refine wT 1 [] 13 14 [] [(13,(.bool (f==5)))] V fun _=>zi 1 0 (fun E=>?_) fun E=>?_
 ·have N:=E;try simp only[BS]at N
  refine aS 0 (v:=(f==5)) V E V V (wT 2 [] 1 0 [2,5] [(2,(.bool true)),(5,(.bool true))] V fun _=>aj ⟨.inr V,_,V,true,false,false,true,V,V,(decide_eq_true (by first|omega|(unfold fA;omega)|(unfold fB;omega)|(unfold fN;omega))).symm,(decide_eq_false (by first|omega|(unfold fA;omega)|(unfold fB;omega)|(unfold fN;omega))).symm,(decide_eq_false (by first|omega|(unfold fA;omega)|(unfold fB;omega)|(unfold fN;omega))).symm,(decide_eq_true (by first|omega|(unfold fA;omega)|(unfold fB;omega)|(unfold fN;omega))).symm⟩)
 have N:=E;try simp only[BS]at N
 refine wT 1 [] 13 15 [] [(13,(.bool (f==6)))] V fun _=>zI 0 1 (fun U=>?_) fun U=>?_
 ·refine wT 2 [] 1 0 [2,5] [(2,(.bool true)),(5,(.bool true))] V fun _=>aj ⟨.inr V,_,V,true,false,false,true,V,V,(decide_eq_true (by first|omega|(unfold fA;omega)|(unfold fB;omega)|(unfold fN;omega))).symm,(decide_eq_false (by first|omega|(unfold fA;omega)|(unfold fB;omega)|(unfold fN;omega))).symm,(decide_eq_false (by first|omega|(unfold fA;omega)|(unfold fB;omega)|(unfold fN;omega))).symm,(decide_eq_true (by first|omega|(unfold fA;omega)|(unfold fB;omega)|(unfold fN;omega))).symm⟩
 refine wT 1 [] 16 17 [] [(16,(.bool (f==7)))] V fun _=>zI 0 1 (fun a_=>?_) fun a_=>?_
 ·refine wT 2 [] 1 0 [2,3,5] [(2,(.bool true)),(3,(.bool true)),(5,(.bool true))] V fun _=>aj ⟨.inr V,_,V,true,true,false,true,V,V,(decide_eq_true (by first|omega|(unfold fA;omega)|(unfold fB;omega)|(unfold fN;omega))).symm,(decide_eq_true (by first|omega|(unfold fA;omega)|(unfold fB;omega)|(unfold fN;omega))).symm,(decide_eq_false (by first|omega|(unfold fA;omega)|(unfold fB;omega)|(unfold fN;omega))).symm,(decide_eq_true (by first|omega|(unfold fA;omega)|(unfold fB;omega)|(unfold fN;omega))).symm⟩
 refine wT 1 [] 18 19 [] [(18,(.bool (f==8)))] V fun _=>zI 0 2 (fun Z=>?_) fun Z=>?_
 ·refine wT 2 [] 1 0 [5] [(5,(.bool true))] V fun _=>aj ⟨.inr V,_,V,false,false,false,true,V,V,(decide_eq_false (by first|omega|(unfold fA;omega)|(unfold fB;omega)|(unfold fN;omega))).symm,(decide_eq_false (by first|omega|(unfold fA;omega)|(unfold fB;omega)|(unfold fN;omega))).symm,(decide_eq_false (by first|omega|(unfold fA;omega)|(unfold fB;omega)|(unfold fN;omega))).symm,(decide_eq_true (by first|omega|(unfold fA;omega)|(unfold fB;omega)|(unfold fN;omega))).symm⟩
 refine aj ⟨.inr V,_,V,false,false,false,false,V,V,(decide_eq_false (by first|omega|(unfold fA;omega)|(unfold fB;omega)|(unfold fN;omega))).symm,(decide_eq_false (by first|omega|(unfold fA;omega)|(unfold fB;omega)|(unfold fN;omega))).symm,(decide_eq_false (by first|omega|(unfold fA;omega)|(unfold fB;omega)|(unfold fN;omega))).symm,(decide_eq_false (by first|omega|(unfold fA;omega)|(unfold fB;omega)|(unfold fN;omega))).symm⟩
theorem flds_c_q(f:Int)(H:Heap):kKt ex 124 [(iI f)] H fun v H'=>v=(.tuple ⟨[(.bool (decide (fA f))),(.bool (decide (fB f))),(.bool (decide (f=4))),(.bool (decide (fN f)))]⟩)/\H'=H:=
 cq (flds_c ex f H) (by rintro _ _ ⟨_,_,_,_,rfl,rfl,rfl,rfl,rfl,rfl⟩;exact⟨V,V⟩)
theorem imr_c(op:Int)(H:Heap):kKt ex 125 [(iI op)] H fun v H'=> ∃(lo:Int) (hi:Int),H'=H/\v= .tuple ⟨[iI lo,iI hi]⟩/\lo=loP op/\hi=hiP op:=by
 refine aC Tryz.func125 V V (am 1 V (wT 3 [] 2 3 [] [(2,(iI 0)),(3,(iI 0))] V fun _=>wT 3 [] 4 4 [] [(4,(iI op))] V fun _=>wT 1 [] 5 6 [] [(5,(.bool (op==14)))] V fun _=>zI 1 1 (fun c4=>?_) fun c4=>?_))
 ·refine wT 1 [] 2 3 [] [(2,(iI (-9223372036854775808))),(3,(iI 9223372036854775807))] V fun _=>aj ⟨.inr V,_,V,(-9223372036854775808),9223372036854775807,V,V,(by unfold loP;(repeat' split)<;>first|rfl|omega),(by unfold hiP;(repeat' split)<;>first|rfl|omega)⟩
 refine wT 1 [] 7 8 [] [(7,(.bool (op==4)))] V fun _=>zI 1 1 (fun c7=>?_) fun c7=>?_
 ·refine wT 1 [] 2 3 [] [(2,(iI 1)),(3,(iI 33554431))] V fun _=>aj ⟨.inr V,_,V,1,33554431,V,V,(by unfold loP;(repeat' split)<;>first|rfl|omega),(by unfold hiP;(repeat' split)<;>first|rfl|omega)⟩
 refine wT 1 [] 9 10 [] [(9,(.bool (op==5)))] V fun _=>zI 1 1 (fun a_=>?_) fun a_=>?_
 ·refine wT 1 [] 2 3 [] [(2,(iI (-33554432))),(3,(iI 33554431))] V fun _=>aj ⟨.inr V,_,V,(-33554432),33554431,V,V,(by unfold loP;(repeat' split)<;>first|rfl|omega),(by unfold hiP;(repeat' split)<;>first|rfl|omega)⟩
 refine wT 1 [] 11 12 [] [(11,(.bool (op==6)))] V fun _=>zI 1 2 (fun Z=>?_) fun Z=>?_
 ·refine wT 1 [] 2 3 [] [(2,(iI 0)),(3,(iI 7))] V fun _=>aj ⟨.inr V,_,V,0,7,V,V,(by unfold loP;(repeat' split)<;>first|rfl|omega),(by unfold hiP;(repeat' split)<;>first|rfl|omega)⟩
 refine wT 1 [] 13 14 [] [(13,(.bool (op==34)))] V fun _=>zi 1 0 (fun E=>?_) fun E=>?_
 ·have T:=E;try simp only[BS]at T
  refine aS 1 (v:=(op==34)) V E V V (wT 1 [] 2 3 [] [(2,(iI 0)),(3,(iI 3))] V fun _=>aj ⟨.inr V,_,V,0,3,V,V,(by unfold loP;(repeat' split)<;>first|rfl|omega),(by unfold hiP;(repeat' split)<;>first|rfl|omega)⟩)
 have T:=E;try simp only[BS]at T
 refine wT 1 [] 13 15 [] [(13,(.bool (op==35)))] V fun _=>zI 1 2 (fun aa=>?_) fun aa=>?_
 ·refine wT 1 [] 2 3 [] [(2,(iI 0)),(3,(iI 3))] V fun _=>aj ⟨.inr V,_,V,0,3,V,V,(by unfold loP;(repeat' split)<;>first|rfl|omega),(by unfold hiP;(repeat' split)<;>first|rfl|omega)⟩
 refine wT 1 [] 16 17 [] [(16,(.bool (op==36)))] V fun _=>zi 1 0 (fun N=>?_) fun N=>?_
 ·have U:=N;try simp only[BS]at U
  refine aS 1 (v:=(op==36)) V N V V (wT 1 [] 2 3 [] [(2,(iI 0)),(3,(iI 2999))] V fun _=>aj ⟨.inr V,_,V,0,2999,V,V,(by unfold loP;(repeat' split)<;>first|rfl|omega),(by unfold hiP;(repeat' split)<;>first|rfl|omega)⟩)
 have U:=N;try simp only[BS]at U
 refine wT 1 [] 16 18 [] [(16,(.bool (op==37)))] V fun _=>zI 1 3 (fun ag=>?_) fun ag=>?_
 ·refine wT 1 [] 2 3 [] [(2,(iI 0)),(3,(iI 2999))] V fun _=>aj ⟨.inr V,_,V,0,2999,V,V,(by unfold loP;(repeat' split)<;>first|rfl|omega),(by unfold hiP;(repeat' split)<;>first|rfl|omega)⟩
 refine wT 1 [] 2 3 [] [(2,(iI (-4194304))),(3,(iI 4194303))] V fun _=>aj ⟨.inr V,_,V,(-4194304),4194303,V,V,(by unfold loP;(repeat' split)<;>first|rfl|omega),(by unfold hiP;(repeat' split)<;>first|rfl|omega)⟩
theorem imr_c_q(op:Int)(H:Heap):kKt ex 125 [(iI op)] H fun v H'=>v=(.tuple ⟨[(iI (loP op)),(iI (hiP op))]⟩)/\H'=H:=
 cq (imr_c ex op H) (by rintro _ _ ⟨_,_,rfl,rfl,rfl,rfl⟩;exact⟨V,V⟩)
theorem shf_c(f:Int)(H:Heap):kKt ex 126 [(iI f)] H fun v H'=> ∃(r:Int),H'=H/\v= .int .u64 r/\r=((shN f:Nat):Int):=by
 refine aC Tryz.func126 V V (am 1 V (wT 3 [] 2 2 [] [(2,(.int .u64 0))] V fun _=>wT 3 [] 3 3 [] [(3,(iI f))] V fun _=>wT 1 [] 4 5 [] [(4,(.bool (f==8)))] V fun _=>zI 1 1 (fun c4=>?_) fun c4=>?_))
 ·refine wT 1 [] 2 2 [] [(2,(.int .u64 6))] V fun _=>aj ⟨.inr V,_,V,6,V,V,(by unfold shN;(repeat' split)<;>first|rfl|omega)⟩
 refine wT 1 [] 6 7 [] [(6,(.bool (f==5)))] V fun _=>zI 1 1 (fun N=>?_) fun N=>?_
 ·refine wT 1 [] 2 2 [] [(2,(.int .u64 9))] V fun _=>aj ⟨.inr V,_,V,9,V,V,(by unfold shN;(repeat' split)<;>first|rfl|omega)⟩
 refine wT 1 [] 8 9 [] [(8,(.bool (f==7)))] V fun _=>zI 1 3 (fun E=>?_) fun E=>?_
 ·refine wT 1 [] 2 2 [] [(2,(.int .u64 12))] V fun _=>aj ⟨.inr V,_,V,12,V,V,(by unfold shN;(repeat' split)<;>first|rfl|omega)⟩
 refine wT 1 [] 2 2 [] [(2,(.int .u64 32))] V fun _=>aj ⟨.inr V,_,V,32,V,V,(by unfold shN;(repeat' split)<;>first|rfl|omega)⟩
theorem shf_c_q(f:Int)(H:Heap):kKt ex 126 [(iI f)] H fun v H'=>v=(.int .u64 ((shN f:Nat):Int))/\H'=H:=
 cq (shf_c ex f H) (by rintro _ _ ⟨_,rfl,rfl,rfl⟩;exact⟨V,V⟩)
theorem fld_c(f:Int)(H:Heap):kKt ex 84 [(iI f)] H fun v H'=> ∃(T:Int) (n:Int),H'=H/\v= .tuple ⟨[.int .u64 T,.int .u64 n]⟩/\T=((jG f:Nat):Int)/\n=((fq f:Nat):Int):=by
 refine aC Tryz.func84 V V (am 1 V (wT 3 [] 2 3 [] [(2,(.int .u64 0)),(3,(.int .u64 0))] V fun _=>wT 3 [] 4 4 [] [(4,(iI f))] V fun _=>wT 1 [] 5 6 [] [(5,(.bool (f==8)))] V fun _=>zI 1 1 (fun c4=>?_) fun c4=>?_))
 ·refine wT 1 [] 2 3 [] [(2,(.int .u64 6)),(3,(.int .u64 26))] V fun _=>aj ⟨.inr V,_,V,6,26,V,V,(by unfold jG;(repeat' split)<;>first|rfl|omega),(by unfold fq;(repeat' split)<;>first|rfl|omega)⟩
 refine wT 1 [] 7 8 [] [(7,(.bool (f==5)))] V fun _=>zI 1 1 (fun N=>?_) fun N=>?_
 ·refine wT 1 [] 2 3 [] [(2,(.int .u64 9)),(3,(.int .u64 23))] V fun _=>aj ⟨.inr V,_,V,9,23,V,V,(by unfold jG;(repeat' split)<;>first|rfl|omega),(by unfold fq;(repeat' split)<;>first|rfl|omega)⟩
 refine wT 1 [] 9 10 [] [(9,(.bool (f==7)))] V fun _=>zI 1 3 (fun E=>?_) fun E=>?_
 ·refine wT 1 [] 2 3 [] [(2,(.int .u64 12)),(3,(.int .u64 20))] V fun _=>aj ⟨.inr V,_,V,12,20,V,V,(by unfold jG;(repeat' split)<;>first|rfl|omega),(by unfold fq;(repeat' split)<;>first|rfl|omega)⟩
 refine wT 1 [] 2 3 [] [(2,(.int .u64 0)),(3,(.int .u64 0))] V fun _=>aj ⟨.inr V,_,V,0,0,V,V,(by unfold jG;(repeat' split)<;>first|rfl|omega),(by unfold fq;(repeat' split)<;>first|rfl|omega)⟩
theorem fld_c_q(f:Int)(H:Heap):kKt ex 84 [(iI f)] H fun v H'=>v=(.tuple ⟨[(.int .u64 ((jG f:Nat):Int)),(.int .u64 ((fq f:Nat):Int))]⟩)/\H'=H:=
 cq (fld_c ex f H) (by rintro _ _ ⟨_,_,rfl,rfl,rfl,rfl⟩;exact⟨V,V⟩)
theorem bnd_c(op:Int)(H:Heap):kKt ex 129 [(iI op)] H fun v H'=> ∃(lo:Int) (hi:Int),H'=H/\v= .tuple ⟨[iI lo,iI hi]⟩/\lo=loN op/\hi=hiN op:=by
 refine aC Tryz.func129 V V (am 1 V (wT 3 [] 2 3 [] [(2,(iI 0)),(3,(iI 0))] V fun _=>wT 3 [] 4 4 [] [(4,(iI op))] V fun _=>wT 1 [] 5 6 [] [(5,(.bool (op==4)))] V fun _=>zI 1 1 (fun c4=>?_) fun c4=>?_))
 ·refine wT 1 [] 2 3 [] [(2,(iI 1)),(3,(iI 33554431))] V fun _=>aj ⟨.inr V,_,V,1,33554431,V,V,(by unfold loN;(repeat' split)<;>first|rfl|omega),(by unfold hiN;(repeat' split)<;>first|rfl|omega)⟩
 refine wT 1 [] 7 8 [] [(7,(.bool (op==5)))] V fun _=>zI 1 1 (fun c7=>?_) fun c7=>?_
 ·refine wT 1 [] 2 3 [] [(2,(iI (-33554432))),(3,(iI 33554431))] V fun _=>aj ⟨.inr V,_,V,(-33554432),33554431,V,V,(by unfold loN;(repeat' split)<;>first|rfl|omega),(by unfold hiN;(repeat' split)<;>first|rfl|omega)⟩
 refine wT 1 [] 9 10 [] [(9,(.bool (op==6)))] V fun _=>zI 1 2 (fun aq=>?_) fun aq=>?_
 ·refine wT 1 [] 2 3 [] [(2,(iI 0)),(3,(iI 7))] V fun _=>aj ⟨.inr V,_,V,0,7,V,V,(by unfold loN;(repeat' split)<;>first|rfl|omega),(by unfold hiN;(repeat' split)<;>first|rfl|omega)⟩
 refine wT 1 [] 11 12 [] [(11,(.bool (op==34)))] V fun _=>zi 1 0 (fun E=>?_) fun E=>?_
 ·have Z:=E;try simp only[BS]at Z
  refine aS 1 (v:=(op==34)) V E V V (wT 1 [] 2 3 [] [(2,(iI 0)),(3,(iI 3))] V fun _=>aj ⟨.inr V,_,V,0,3,V,V,(by unfold loN;(repeat' split)<;>first|rfl|omega),(by unfold hiN;(repeat' split)<;>first|rfl|omega)⟩)
 have Z:=E;try simp only[BS]at Z
 refine wT 1 [] 11 13 [] [(11,(.bool (op==35)))] V fun _=>zI 1 2 (fun ar=>?_) fun ar=>?_
 ·refine wT 1 [] 2 3 [] [(2,(iI 0)),(3,(iI 3))] V fun _=>aj ⟨.inr V,_,V,0,3,V,V,(by unfold loN;(repeat' split)<;>first|rfl|omega),(by unfold hiN;(repeat' split)<;>first|rfl|omega)⟩
 refine wT 1 [] 14 15 [] [(14,(.bool (op==36)))] V fun _=>zi 1 0 (fun N=>?_) fun N=>?_
 ·have aa:=N;try simp only[BS]at aa
  refine aS 1 (v:=(op==36)) V N V V (wT 1 [] 2 3 [] [(2,(iI 0)),(3,(iI 2999))] V fun _=>aj ⟨.inr V,_,V,0,2999,V,V,(by unfold loN;(repeat' split)<;>first|rfl|omega),(by unfold hiN;(repeat' split)<;>first|rfl|omega)⟩)
 have aa:=N;try simp only[BS]at aa
 refine wT 1 [] 14 16 [] [(14,(.bool (op==37)))] V fun _=>zI 1 1 (fun av=>?_) fun av=>?_
 ·refine wT 1 [] 2 3 [] [(2,(iI 0)),(3,(iI 2999))] V fun _=>aj ⟨.inr V,_,V,0,2999,V,V,(by unfold loN;(repeat' split)<;>first|rfl|omega),(by unfold hiN;(repeat' split)<;>first|rfl|omega)⟩
 refine wT 1 [] 17 18 [] [(17,(.bool (op==14)))] V fun _=>zI 1 2 (fun aw=>?_) fun aw=>?_
 ·refine wT 1 [] 2 3 [] [(2,(iI (-9223372036854775808))),(3,(iI 9223372036854775807))] V fun _=>aj ⟨.inr V,_,V,(-9223372036854775808),9223372036854775807,V,V,(by unfold loN;(repeat' split)<;>first|rfl|omega),(by unfold hiN;(repeat' split)<;>first|rfl|omega)⟩
 refine wT 1 [] 19 20 [] [(19,(.bool (op==7)))] V fun _=>zi 1 1 (fun T=>?_) fun T=>?_
 ·have ag:=T;try simp only[BS]at ag
  refine aS 1 (v:=(op==7)) V T V V (wT 1 [] 2 3 [] [(2,(iI (-4194304))),(3,(iI 4194303))] V fun _=>aj ⟨.inr V,_,V,(-4194304),4194303,V,V,(by unfold loN;(repeat' split)<;>first|rfl|omega),(by unfold hiN;(repeat' split)<;>first|rfl|omega)⟩)
 have ag:=T;try simp only[BS]at ag
 refine wT 1 [] 19 21 [] [(19,(.bool (op==8)))] V fun _=>zi 1 1 (fun U=>?_) fun U=>?_
 ·have an:=U;try simp only[BS]at an
  refine aS 1 (v:=(op==8)) V U V V (wT 1 [] 2 3 [] [(2,(iI (-4194304))),(3,(iI 4194303))] V fun _=>aj ⟨.inr V,_,V,(-4194304),4194303,V,V,(by unfold loN;(repeat' split)<;>first|rfl|omega),(by unfold hiN;(repeat' split)<;>first|rfl|omega)⟩)
 have an:=U;try simp only[BS]at an
 refine wT 1 [] 19 22 [] [(19,(.bool (op==13)))] V fun _=>zi 1 0 (fun a_=>?_) fun a_=>?_
 ·have ap:=a_;try simp only[BS]at ap
  refine aS 1 (v:=(op==13)) V a_ V V (wT 1 [] 2 3 [] [(2,(iI (-4194304))),(3,(iI 4194303))] V fun _=>aj ⟨.inr V,_,V,(-4194304),4194303,V,V,(by unfold loN;(repeat' split)<;>first|rfl|omega),(by unfold hiN;(repeat' split)<;>first|rfl|omega)⟩)
 have ap:=a_;try simp only[BS]at ap
 refine wT 1 [] 19 23 [] [(19,(.bool (op==33)))] V fun _=>zI 1 3 (fun ax=>?_) fun ax=>?_
 ·refine wT 1 [] 2 3 [] [(2,(iI (-4194304))),(3,(iI 4194303))] V fun _=>aj ⟨.inr V,_,V,(-4194304),4194303,V,V,(by unfold loN;(repeat' split)<;>first|rfl|omega),(by unfold hiN;(repeat' split)<;>first|rfl|omega)⟩
 refine wT 1 [] 2 3 [] [(2,(iI 0)),(3,(iI 0))] V fun _=>aj ⟨.inr V,_,V,0,0,V,V,(by unfold loN;(repeat' split)<;>first|rfl|omega),(by unfold hiN;(repeat' split)<;>first|rfl|omega)⟩
theorem bnd_c_q(op:Int)(H:Heap):kKt ex 129 [(iI op)] H fun v H'=>v=(.tuple ⟨[(iI (loN op)),(iI (hiN op))]⟩)/\H'=H:=
 cq (bnd_c ex op H) (by rintro _ _ ⟨_,_,rfl,rfl,rfl,rfl⟩;exact⟨V,V⟩)
theorem reg_c(n:Int)(H:Heap):kKt ex 130 [(iI n)] H fun v H'=> ∃(r:Bool),H'=H/\v= .bool r/\r=(decide (0<=n)&&decide (n<8)):=by refine aC Tryz.func130 V V (am 1 V (wT 2 [] 2 2 [] [(2,(.bool false))] V fun _=>wT 1 [] 2 8 [] [(2,(.bool ((decide ((0:Int)<=n))&&(decide (n<8)))))] V fun _=>aj ⟨.inr V,_,V,((decide ((0:Int)<=n))&&(decide (n<8))),V,V,m_⟩))
theorem reg_c_q(n:Int)(H:Heap):kKt ex 130 [(iI n)] H fun v H'=>v=(.bool (decide (0<=n)&&decide (n<8)))/\H'=H:=
 cq (reg_c ex n H) (by rintro _ _ ⟨_,rfl,rfl,rfl⟩;exact⟨V,V⟩)
theorem mval_c(i:InsT)(hs:HS (.of H []) F H [] R)(ap:in64 i.op)(aq:in64 i.a)(ar:in64 i.b)(av:in64 i.c)(aw:in64 i.n)(hT:TB 37 tabC F)(hv:VldI i):kKt ex 73 [(aG [(iI i.op),(iI i.a),(iI i.b),(iI i.c),(iI i.n)])] H fun v H'=> ∃(r:Bool) (F':Fz),Fz.le F F'/\HS (.of H []) F' H' [] R/\v= .bool r/\r=true:=by
 have q0:=hv.o;have q1:=hv.a;have q2:=hv.a6;have q3:=hv.b;have q4:=hv.c;refine aC Tryz.func73 V V (am 1 V (ab (bd (aR hs V V) V V ?_)));rintro _ H2 _ ⟨b1,rfl,N,_⟩;refine za (.bool false) (ah 2 V (ab (aY 2 0 13 14 [] [(14,(iI i.op))] (Hr_ 1 0 Hn_) N V V fun _=>zc (m1.ic ex i.op (HS.call N) M hT) ?_)));rintro _ H4 ⟨x4,o4,F4,U,T,rfl,aa,ag,rfl,rfl⟩;replace T:=HS.back N V T;refine bL 3 3 16 17 [12] [(16,(aG [(tX (aE i.op).name.b),(iI (aE i.op).f),(.bool (aE i.op).ra),(.bool (aE i.op).wa),(.bool (aE i.op).rb),(.bool (aE i.op).mt),(iI (aE i.op).w)])),(17,(.bool (infO i.op)))] Hn_ (by kernel_rfl) V fun _=>zn T V fun b6 H7 an=>sgo 2 7 1 0 [4] [(4,(.bool (infO i.op)))] (Hr_ 7 1 Hn_) an V V fun ax a_ E=>ah 3 V (wT 1 [] 18 19 [] [(19,(.bool (!(infO i.op))))] V fun _=>bW 2 (v:=(!(infO i.op))) V (by rw[infO_at (op:=i.op) hv.o];rfl) V V ?_)
 refine aU 3 20 27 [5,6,7,8] [(5,(.bool (decide (fA (aE i.op).f)))),(6,(.bool (decide (fB (aE i.op).f)))),(7,(.bool (decide ((aE i.op).f=4)))),(8,(.bool (decide (fN (aE i.op).f))))] (Hr_ 1 1 (Hc_ 2 (flds_c_q ex (aE i.op).f a_) Hn_)) E V V fun _=>wrp 1 28 61 [] [(61,(.bool (((((!(decide (fA (aE i.op).f)))&&(i.a !=0))||((!(decide (fB (aE i.op).f)))&&(i.b !=0)))||((!(decide ((aE i.op).f=4)))&&(i.c !=0)))||((!(decide (fN (aE i.op).f)))&&(i.n !=0)))))] (be 4 (fun _=>(ql 3 1 (h_ E V) V V)) (jv 12 (fun _ _=>(ql 3 2 (h_ E V) V V)) (jv 21 (fun _ _=>(ql 3 3 (h_ E V) V V)) (jv 30 (fun _ _=>(ql 2 4 (h_ E V) V V)) Hn_)))) V V fun _=>bW 2 (v:=(((((!(decide (fA (aE i.op).f)))&&(i.a !=0))||((!(decide (fB (aE i.op).f)))&&(i.b !=0)))||((!(decide ((aE i.op).f=4)))&&(i.c !=0)))||((!(decide (fN (aE i.op).f)))&&(i.n !=0)))) V (hv.c1) V V (wT 3 [] 1 0 [9] [(9,(iI 7))] V fun _=>aU 1 62 64 [] [(64,(.bool (i.op==6)))] (Hr_ 1 0 Hn_) E V V fun _=>zI 0 3 (fun Z=>?_) fun Z=>?_)
 ·refine wT 3 [] 1 0 [9] [(9,(iI 6))] V fun _=>aU 1 65 93 [] [(93,(.bool ((((((decide (i.a<0))||(decide ((6:Int)<i.a)))||(decide (i.b<0)))||(decide ((8:Int)<=i.b)))||(decide (i.c<0)))||(decide ((8:Int)<=i.c)))))] (Hr_ 1 0 (be 5 (fun _=>(ql 3 1 (h_ E V) V V)) (be 11 (fun _=>(ql 3 2 (h_ E V) V V)) (be 16 (fun _=>(ql 3 2 (h_ E V) V V)) (be 21 (fun _=>(ql 3 3 (h_ E V) V V)) (be 26 (fun _=>(ql 3 3 (h_ E V) V V)) Hn_)))))) E V V fun _=>bW 2 (v:=((((((decide (i.a<0))||(decide ((6:Int)<i.a)))||(decide (i.b<0)))||(decide ((8:Int)<=i.b)))||(decide (i.c<0)))||(decide ((8:Int)<=i.c)))) V l_ V V (aU 2 94 99 [10,11] [(10,(iI (loP i.op))),(11,(iI (hiP i.op)))] (Hr_ 1 0 (Hc_ 2 (imr_c_q ex i.op a_) Hn_)) E V V fun _=>wrp 1 100 113 [2] [(2,(.bool ((!(decide (fN (aE i.op).f)))||((decide (loP i.op<=i.n))&&(decide (i.n<=hiP i.op))))))] (be 4 (fun _=>(ql 2 4 (h_ E V) V V)) (jv 9 (fun _ _=>(ql 2 4 (h_ E V) V V)) Hn_)) V V fun _=>aj ⟨.inr V,_,V,((!(decide (fN (aE i.op).f)))||((decide (loP i.op<=i.n))&&(decide (i.n<=hiP i.op)))),_,(U),(HS.forget E),V,(hv.c2 M)⟩)
 refine aU 1 65 93 [] [(93,(.bool ((((((decide (i.a<0))||(decide ((7:Int)<i.a)))||(decide (i.b<0)))||(decide ((8:Int)<=i.b)))||(decide (i.c<0)))||(decide ((8:Int)<=i.c)))))] (Hr_ 1 0 (be 5 (fun _=>(ql 3 1 (h_ E V) V V)) (be 11 (fun _=>(ql 3 2 (h_ E V) V V)) (be 16 (fun _=>(ql 3 2 (h_ E V) V V)) (be 21 (fun _=>(ql 3 3 (h_ E V) V V)) (be 26 (fun _=>(ql 3 3 (h_ E V) V V)) Hn_)))))) E V V fun _=>bW 2 (v:=((((((decide (i.a<0))||(decide ((7:Int)<i.a)))||(decide (i.b<0)))||(decide ((8:Int)<=i.b)))||(decide (i.c<0)))||(decide ((8:Int)<=i.c)))) V l_ V V (aU 2 94 99 [10,11] [(10,(iI (loP i.op))),(11,(iI (hiP i.op)))] (Hr_ 1 0 (Hc_ 2 (imr_c_q ex i.op a_) Hn_)) E V V fun _=>wrp 1 100 113 [2] [(2,(.bool ((!(decide (fN (aE i.op).f)))||((decide (loP i.op<=i.n))&&(decide (i.n<=hiP i.op))))))] (be 4 (fun _=>(ql 2 4 (h_ E V) V V)) (jv 9 (fun _ _=>(ql 2 4 (h_ E V) V V)) Hn_)) V V fun _=>aj ⟨.inr V,_,V,((!(decide (fN (aE i.op).f)))||((decide (loP i.op<=i.n))&&(decide (i.n<=hiP i.op)))),_,(U),(HS.forget E),V,(hv.c2 M)⟩)
theorem rval_c(i:InsT)(hs:HS (.of H []) F H [] R)(U:in64 i.op)(a_:in64 i.a)(Z:in64 i.b)(aa:in64 i.c)(ag:in64 i.n)(hT:TB 37 tabC F)(hv:VldI i):kKt ex 83 [(aG [(iI i.op),(iI i.a),(iI i.b),(iI i.c),(iI i.n)])] H fun v H'=> ∃(r:Bool) (F':Fz),Fz.le F F'/\HS (.of H []) F' H' [] R/\v= .bool r/\r=true:=by
 have q0:=hv.o;have q1:=hv.a;have q2:=hv.a6;have q3:=hv.b;have q4:=hv.c;refine aC Tryz.func83 V V (am 1 V (ab (bd (aR hs V V) V V ?_)));rintro _ N _ ⟨b1,rfl,E,_⟩;refine za (.bool false) (ah 2 V ?_);have an:=iP i.op;refine aU 2 8 10 [3] [(3,(iI (aI i.op)))] (Hr_ 1 0 (Hc_ 2 (m1.ke ex i.op N) Hn_)) E V V fun _=>aU 3 11 16 [4,5] [(4,(iI (loN i.op))),(5,(iI (hiN i.op)))] (Hr_ 1 0 (Hc_ 2 (bnd_c_q ex i.op N) Hn_)) E V V fun _=>wrp 1 17 30 [] [(30,(.bool (((aI i.op==0)||(decide (i.n<loN i.op)))||(decide (hiN i.op<i.n)))))] (be 4 (fun _=>(ql 2 4 (h_ E V) V V)) (be 10 (fun _=>(ql 2 4 (h_ E V) V V)) Hn_)) V V fun _=>bW 2 (v:=(((aI i.op==0)||(decide (i.n<loN i.op)))||(decide (hiN i.op<i.n)))) V (hv.c3 M) V V (wT 2 [] 31 36 [6] [(6,(.bool ((aI i.op !=1)&&(aI i.op !=8))))] V fun _=>wT 3 [] 37 46 [7] [(7,(.bool (((aI i.op==3)||(aI i.op==4))||(aI i.op==7))))] V fun _=>?_)
 refine wrp 1 47 71 [] [(71,(.bool ((((!((aI i.op !=1)&&(aI i.op !=8)))&&(i.a !=0))||((!(((aI i.op==3)||(aI i.op==4))||(aI i.op==7)))&&(i.b !=0)))||((aI i.op !=4)&&(i.c !=0)))))] (be 4 (fun _=>(ql 3 1 (h_ E V) V V)) (jv 12 (fun _ _=>(ql 3 2 (h_ E V) V V)) (jv 21 (fun _ _=>(ql 3 3 (h_ E V) V V)) Hn_))) V V fun _=>bW 3 (v:=((((!((aI i.op !=1)&&(aI i.op !=8)))&&(i.a !=0))||((!(((aI i.op==3)||(aI i.op==4))||(aI i.op==7)))&&(i.b !=0)))||((aI i.op !=4)&&(i.c !=0)))) V (hv.c4) V V (aU 1 72 74 [] [(74,(.bool (i.op==6)))] (Hr_ 1 0 Hn_) E V V fun _=>zI 1 2 (fun T=>?_) fun T=>?_)
 ·refine aU 1 75 82 [2] [(2,(.bool ((decide ((0:Int)<=i.a))&&(decide (i.a<=6)))))] (Hr_ 1 0 (be 5 (fun _=>(ql 3 1 (h_ E V) V V)) Hn_)) E V V fun _=>aj ⟨.inr V,_,V,((decide ((0:Int)<=i.a))&&(decide (i.a<=6))),_,fR,(HS.forget E),V,l_⟩
 refine aU 1 83 95 [2] [(2,(.bool (((decide (0<=i.a)&&decide (i.a<8))&&(decide (0<=i.b)&&decide (i.b<8)))&&(decide (0<=i.c)&&decide (i.c<8)))))] (Hr_ 1 0 (Hc_ 2 (reg_c_q ex i.a N) (be 5 (fun _=>(ql 3 2 (h_ E V) V V)) (Hc1_ 6 (fun _=>(reg_c_q ex i.b N)) (be 10 (fun _=>(ql 3 3 (h_ E V) V V)) (Hc1_ 11 (fun _=>(reg_c_q ex i.c N)) Hn_)))))) E V V fun _=>aj ⟨.inr V,_,V,(((decide (0<=i.a)&&decide (i.a<8))&&(decide (0<=i.b)&&decide (i.b<8)))&&(decide (0<=i.c)&&decide (i.c<8))),_,fR,(HS.forget E),V,l_⟩
theorem enc_c{ai:Option Addr}{al:Nat}(l:List InsT)(hs:HS (.of H []) F H [] R)(hl:SR F (sL ai l.length al) l)(hT:TB 37 tabC F)(hv: ∀k,k<l.length->VldI (l.getD k v_))(hy:l.length<=200000000):kKt ex 37 [(sL ai l.length al)] H fun v H'=> ∃(ar:Option Addr) (kr:Nat) (r:List U32) (e:Int) (F':Fz),Fz.le F F'/\HS (.of H []) F' H' [] R/\v= .tuple ⟨[sL ar r.length kr,iI e]⟩/\SR F' (sL ar r.length kr) r/\r=eC l/\e=0:=by
 refine aC Tryz.func37 V V (am 1 V (wT 2 [] 2 3 [] [(2,(sL none 0 0)),(3,(iI 0))] V fun _=>wT 3 [] 1 0 [4] [(4,(sL none 0 0))] V fun _=>wT 2 [] 7 9 [] [(7,(sL ai l.length al)),(8,(iI (l.length:Int))),(9,(iI 0))] V fun _=>?_));have dl:=HS.snoc hs;refine ak (fun(mm:Nat) f H'=> ∃(o:List U32) (k:Nat) (T:Option Addr) (U:Nat) (an:Fp) (F':Fz),Fz.le F F'/\HS (Base.of H []) F' H' [an] R/\OS F' (sL T o.length U) o an/\aB f [(4,(sL T o.length U)),(7,(sL ai l.length al)),(8,(iI (l.length:Int))),(9,(iI (k:Int)))]/\mm=l.length-k/\(o=eC (l.take k))/\(k<=l.length)) _ ⟨([]:List U32),0,none,0,[],_,fR,dl,(OS.nil:OS _ (sL none 0 0) ([]:List U32) []),⟨V,V,V,V,trivial⟩,V,m_,M⟩ ?_;rintro g4 f4 H4 ⟨o,k,T,U,an,F4,a1,a2,Z,a9,rfl,h1,hk⟩ dn;refine au _ a9 (fun _=>?_);clear a9;replace hT:=hT.mono a1;replace hl:=hl.mono a1;have hz:o.length<=3 *l.length:=by rw[h1];exact a0e (enc_le _) p_
 have hx:=en_le (l.getD k v_);refine am 1 V (wT 2 [] 10 10 [] [(10,(.bool (decide ((k:Int)<(l.length:Int)))))] V fun _=>zd 4 5 (fun c7=>?_) fun c7=>?_)
 ·have en:=hv k M;refine ab ?_;obtain⟨g1,bb⟩:=Sv.view (SR.sv hl a2);obtain⟨ef,et,ez,e0,e1⟩:=InsT.fx (bb k);let a5:Value:=(aG [(iI (l.getD k v_).op),(iI (l.getD k v_).a),(iI (l.getD k v_).b),(iI (l.getD k v_).c),(iI (l.getD k v_).n)])
  refine bL 2 0 11 12 [] [(12,a5)] (Ha_ (Sv.ix (j:=(k:Int)) (SR.sv hl a2)) (Hl_ 1 (qn 86 0 5 (InsT.vw (bb k)) V V V V) Hn_)) (by kernel_rfl) V fun _=>zn a2 V fun c9 fd b8=>sgo 1 3 1 0 [] [] (Hr_ 3 1 Hn_) b8 V V fun e2 fi aw=>ah 3 V (ab (aY 1 0 13 13 [] [(13,a5)] (Hr_ 0 1 Hn_) aw V V fun _=>?_))
  refine zc (mval_c ex (l.getD k v_) (HS.call aw) M M M M M hT (en)) ?_;rintro _ fj ⟨g8,c6,aq,ag,rfl,rfl⟩;replace ag:=HS.back aw V ag;replace hT:=hT.mono aq;replace Z:=Z.mono aq;refine bL 1 2 15 15 [] [(15,(.bool false))] Hn_ (by kernel_rfl) V fun _=>ah 1 V (bW 1 (v:=false) V V V V (ab (aY 2 0 16 17 [] [(16,(sL T o.length U)),(17,a5)] (Hr_ 1 1 Hn_) ag V V fun _=>zc (R:=fun v H'=> ∃(o3:List U32) (E:Option Addr) (N:Nat) (a_:Fp) (F':Fz),Fz.le c6 F'/\HS (Base.of H []) F' H' [a_,(fP c9 [(iI (l.getD k v_).op),(iI (l.getD k v_).a),(iI (l.getD k v_).b),(iI (l.getD k v_).c),(iI (l.getD k v_).n)])] R/\OS F' (sL E o3.length N) o3 a_/\v=(sL E o3.length N)/\(o3=o++enW (⟨(l.getD k v_).op,(l.getD k v_).a,(l.getD k v_).b,(l.getD k v_).c,(l.getD k v_).n⟩:InsT))) ?_ ?_)))
  ·refine aC Tryz.func74 V V (am 1 V (ab (bd (aR ag V V) V V ?_)));rintro _ f1 _ ⟨f9,rfl,ax,_⟩;refine za (sL none 0 0) (ah 2 V (ab (aY 2 0 9 10 [] [(10,(iI (l.getD k v_).op))] (Hr_ 1 2 Hn_) ax V V fun _=>zc (m1.ic ex (l.getD k v_).op (HS.call ax) M hT) ?_)));rintro _ f2 ⟨g9,g5,e6,av,ay,rfl,co,c5,rfl,rfl⟩;replace ay:=HS.back ax V ay;replace Z:=Z.mono av;refine bL 3 3 12 13 [8] [(12,(aG [(tX (aE (l.getD k v_).op).name.b),(iI (aE (l.getD k v_).op).f),(.bool (aE (l.getD k v_).op).ra),(.bool (aE (l.getD k v_).op).wa),(.bool (aE (l.getD k v_).op).rb),(.bool (aE (l.getD k v_).op).mt),(iI (aE (l.getD k v_).op).w)])),(13,(.bool (infO (l.getD k v_).op)))] Hn_ (by kernel_rfl) V fun _=>zn ay V fun go f3 cc=>sgo 2 7 1 0 [6] [] (Hr_ 7 3 Hn_) cc V V fun e3 c8 aa=>ah 2 V (aU 3 14 31 [7] [(7,(.int .u32 (aD .or .u32 (aD .or .u32 (aD .or .u32 (IntKind.u32.wrap (l.getD k v_).op) (IntKind.u32.wrap ((IntKind.u32.wrap (l.getD k v_).a) *2^(Nat.min 6 32)))) (IntKind.u32.wrap ((IntKind.u32.wrap (l.getD k v_).b) *2^(Nat.min 9 32)))) (IntKind.u32.wrap ((IntKind.u32.wrap (l.getD k v_).c) *2^(Nat.min 12 32))))))] (Hr_ 1 2 (Hw_ 2 (.w) (Hr_ 4 2 (Hw_ 5 (.w) (Ha_ (show(0:Int)<=6 from by decide) (Hr_ 9 2 (Hw_ 10 (.w) (Ha_ (show(0:Int)<=9 from by decide) (Hr_ 14 2 (Hw_ 15 (.w) (Ha_ (show(0:Int)<=12 from by decide) Hn_))))))))))) aa V V fun _=>aU 1 32 34 [] [(34,(.bool ((aE (l.getD k v_).op).f==6)))] (Hr_ 1 3 Hn_) aa V V fun _=>?_)
   refine zI 1 2 (fun dd=>?_) fun dd=>?_
   ·refine ab (aY 10 0 35 44 [] [(35,(sL T o.length U)),(36,(.int .u32 (aD .or .u32 (aD .or .u32 (aD .or .u32 (IntKind.u32.wrap (l.getD k v_).op) (IntKind.u32.wrap ((IntKind.u32.wrap (l.getD k v_).a) *2^(Nat.min 6 32)))) (IntKind.u32.wrap ((IntKind.u32.wrap (l.getD k v_).b) *2^(Nat.min 9 32)))) (IntKind.u32.wrap ((IntKind.u32.wrap (l.getD k v_).c) *2^(Nat.min 12 32)))))),(39,(.int .u32 (IntKind.u32.wrap (l.getD k v_).n))),(44,(.int .u32 (IntKind.u32.wrap (Int.fdiv (IntKind.u64.wrap (l.getD k v_).n) (2^(Nat.min 32 64))))))] (Hr_ 3 2 (Hw_ 4 (.w) (Hr_ 6 2 (Hw_ 7 (.w) (Ha_ (show(0:Int)<=32 from by decide) (Hw_ 9 (.w) Hn_)))))) aa V V fun _=>zlo ([⟨aD .or .u32 (aD .or .u32 (aD .or .u32 (IntKind.u32.wrap (l.getD k v_).op) (IntKind.u32.wrap ((IntKind.u32.wrap (l.getD k v_).a) *2^(Nat.min 6 32)))) (IntKind.u32.wrap ((IntKind.u32.wrap (l.getD k v_).b) *2^(Nat.min 9 32)))) (IntKind.u32.wrap ((IntKind.u32.wrap (l.getD k v_).c) *2^(Nat.min 12 32)))⟩,⟨IntKind.u32.wrap (l.getD k v_).n⟩,⟨IntKind.u32.wrap (Int.fdiv (IntKind.u64.wrap (l.getD k v_).n) (2^(Nat.min 32 64)))⟩]:List U32) aa V (RL.cs ⟨V,by exact ft _⟩ (RL.cs ⟨V,by exact ft _⟩ (RL.cs ⟨V,by exact ft _⟩ RL.nl))) V fun f7 g2 g6 f5 b3 a3=>zao 0 Z a3 (OS.sv b3 a3 (i:=4) V) V V V M fun a7 bk ds f6 b4 cg=>za (sL a7 (o++([⟨aD .or .u32 (aD .or .u32 (aD .or .u32 (IntKind.u32.wrap (l.getD k v_).op) (IntKind.u32.wrap ((IntKind.u32.wrap (l.getD k v_).a) *2^(Nat.min 6 32)))) (IntKind.u32.wrap ((IntKind.u32.wrap (l.getD k v_).b) *2^(Nat.min 9 32)))) (IntKind.u32.wrap ((IntKind.u32.wrap (l.getD k v_).c) *2^(Nat.min 12 32)))⟩,⟨IntKind.u32.wrap (l.getD k v_).n⟩,⟨IntKind.u32.wrap (Int.fdiv (IntKind.u64.wrap (l.getD k v_).n) (2^(Nat.min 32 64)))⟩]:List U32)).length bk) (ah 1 V ?_));refine aj ⟨.inr V,_,V,o++([⟨aD .or .u32 (aD .or .u32 (aD .or .u32 (IntKind.u32.wrap (l.getD k v_).op) (IntKind.u32.wrap ((IntKind.u32.wrap (l.getD k v_).a) *2^(Nat.min 6 32)))) (IntKind.u32.wrap ((IntKind.u32.wrap (l.getD k v_).b) *2^(Nat.min 9 32)))) (IntKind.u32.wrap ((IntKind.u32.wrap (l.getD k v_).c) *2^(Nat.min 12 32)))⟩,⟨IntKind.u32.wrap (l.getD k v_).n⟩,⟨IntKind.u32.wrap (Int.fdiv (IntKind.u64.wrap (l.getD k v_).n) (2^(Nat.min 32 64)))⟩]:List U32),a7,bk,ds,_,(av),(HS.sub cg (a03 _ _)),b4,V,(by(unfold enW;rw[if_pos X];rfl))⟩
   refine aL V (eO 10 47 56 [] [(47,(sL T o.length U)),(56,(.int .u32 (aD .or .u32 (aD .or .u32 (aD .or .u32 (aD .or .u32 (IntKind.u32.wrap (l.getD k v_).op) (IntKind.u32.wrap ((IntKind.u32.wrap (l.getD k v_).a) *2^(Nat.min 6 32)))) (IntKind.u32.wrap ((IntKind.u32.wrap (l.getD k v_).b) *2^(Nat.min 9 32)))) (IntKind.u32.wrap ((IntKind.u32.wrap (l.getD k v_).c) *2^(Nat.min 12 32)))) (IntKind.u32.wrap ((IntKind.u32.wrap (l.getD k v_).n) *2^(Nat.min (shN (aE (l.getD k v_).op).f) 32))))))] (Hr_ 3 2 (Hw_ 4 (.w) (Hr_ 6 3 (Hc_ 7 (shf_c_q ex (aE (l.getD k v_).op).f {c8 with log:=[]}) (Ha_ (show(0:Int)<=((shN (aE (l.getD k v_).op).f:Nat):Int) from by omega) Hn_))))) aa rfl rfl fun _=>zld ([⟨aD .or .u32 (aD .or .u32 (aD .or .u32 (aD .or .u32 (IntKind.u32.wrap (l.getD k v_).op) (IntKind.u32.wrap ((IntKind.u32.wrap (l.getD k v_).a) *2^(Nat.min 6 32)))) (IntKind.u32.wrap ((IntKind.u32.wrap (l.getD k v_).b) *2^(Nat.min 9 32)))) (IntKind.u32.wrap ((IntKind.u32.wrap (l.getD k v_).c) *2^(Nat.min 12 32)))) (IntKind.u32.wrap ((IntKind.u32.wrap (l.getD k v_).n) *2^(Nat.min (shN (aE (l.getD k v_).op).f) 32)))⟩]:List U32) aa rfl (RL.cs ⟨rfl,by exact ft _⟩ RL.nl) rfl fun f8 g3 g7 dv b5 a4=>zad 0 Z a4 (OS.sv b5 a4 (i:=4) rfl) rfl rfl rfl M (kb rfl) fun a8 bl dt d1 b6 ch=>fa (sL a8 (o++([⟨aD .or .u32 (aD .or .u32 (aD .or .u32 (aD .or .u32 (IntKind.u32.wrap (l.getD k v_).op) (IntKind.u32.wrap ((IntKind.u32.wrap (l.getD k v_).a) *2^(Nat.min 6 32)))) (IntKind.u32.wrap ((IntKind.u32.wrap (l.getD k v_).b) *2^(Nat.min 9 32)))) (IntKind.u32.wrap ((IntKind.u32.wrap (l.getD k v_).c) *2^(Nat.min 12 32)))) (IntKind.u32.wrap ((IntKind.u32.wrap (l.getD k v_).n) *2^(Nat.min (shN (aE (l.getD k v_).op).f) 32)))⟩]:List U32)).length bl) rfl rfl rfl (bC 1 rfl ?_));refine aj ⟨.inr V,_,V,o++([⟨aD .or .u32 (aD .or .u32 (aD .or .u32 (aD .or .u32 (IntKind.u32.wrap (l.getD k v_).op) (IntKind.u32.wrap ((IntKind.u32.wrap (l.getD k v_).a) *2^(Nat.min 6 32)))) (IntKind.u32.wrap ((IntKind.u32.wrap (l.getD k v_).b) *2^(Nat.min 9 32)))) (IntKind.u32.wrap ((IntKind.u32.wrap (l.getD k v_).c) *2^(Nat.min 12 32)))) (IntKind.u32.wrap ((IntKind.u32.wrap (l.getD k v_).n) *2^(Nat.min (shN (aE (l.getD k v_).op).f) 32)))⟩]:List U32),a8,bl,dt,_,(av),(HS.sub ch (a03 _ _)),b6,V,(by(unfold enW;rw[if_neg X];rfl))⟩
  rintro _ f0 ⟨o3,E,N,a_,e5,b1,b9,ap,rfl,dk⟩;refine za (sL E o3.length N) (ah 2 V (wU 1 [] 9 9 [19] [(9,(iI ((k:Int)+1)))] (vi (n:=(k:Int)+1)) V fun _=>?_));refine dn _ _ _ ?_ ⟨o3,k+1,E,N,a_,_,(fT (fT (a1) aq) b1),(HS.sub b9 (a03 _ _)),ap,⟨V,V,V,V,trivial⟩,V,(by rw[dk,h1];exact kh M),M⟩;omega
 refine wT 1 [] 2 3 [20] [(2,(sL T o.length U)),(3,(iI 0))] V fun _=>?_
 obtain⟨e8,b2,ci,b7,e4⟩:=OS.frz Z a2 (i:=0) V;refine aj ⟨.inr V,_,V,T,U,o,0,_,(fT (a1) b2),(HS.forget ci),V,b7,(by rw[h1,a0i M]),m_⟩
theorem renc_c{ad:Option Addr}{ai:Nat}(l:List InsT)(hs:HS (.of H []) F H [] R)(hl:SR F (sL ad l.length ai) l)(hT:TB 37 tabC F)(hv: ∀k,k<l.length->VldI (l.getD k v_))(g6:l.length<=200000000):kKt ex 42 [(sL ad l.length ai)] H fun v H'=> ∃(ar:Option Addr) (kr:Nat) (r:List U32) (e:Int) (F':Fz),Fz.le F F'/\HS (.of H []) F' H' [] R/\v= .tuple ⟨[sL ar r.length kr,iI e]⟩/\SR F' (sL ar r.length kr) r/\r=eC l/\e=0:=by
 refine aC Tryz.func42 V V (am 1 V (wT 2 [] 2 3 [] [(2,(sL none 0 0)),(3,(iI 0))] V fun _=>wT 3 [] 1 0 [4] [(4,(sL none 0 0))] V fun _=>wT 2 [] 1 0 [5] [(5,(iI 0))] V fun _=>?_));have ch:=HS.snoc hs;refine ak (fun(mm:Nat) f H'=> ∃(o:List U32) (k:Nat) (E:Option Addr) (N:Nat) (a_:Fp) (F':Fz),Fz.le F F'/\HS (Base.of H []) F' H' [a_] R/\OS F' (sL E o.length N) o a_/\aB f [(0,(sL ad l.length ai)),(4,(sL E o.length N)),(5,(iI (k:Int)))]/\mm=l.length-k/\(o=eC (l.take k))/\(k<=l.length)) _ ⟨([]:List U32),0,none,0,[],_,fR,ch,(OS.nil:OS _ (sL none 0 0) ([]:List U32) []),⟨V,V,V,trivial⟩,V,m_,M⟩ ?_;rintro fd f4 H4 ⟨o,k,E,N,a_,F4,aa,aq,T,a8,rfl,h1,hk⟩ bb;refine au _ a8 (fun _=>?_);clear a8;replace hT:=hT.mono aa;replace hl:=hl.mono aa;have g7:o.length<=3 *l.length:=by rw[h1];exact a0e (enc_le _) p_
 refine am 2 V (wT 1 [] 10 13 [] [(13,(.bool (decide ((k:Int)<(l.length:Int)))))] V fun _=>zd 4 5 (fun c7=>?_) fun c7=>?_)
 ·have al:=hv k M;refine ab ?_;obtain⟨e4,a9⟩:=Sv.view (SR.sv hl aq);obtain⟨c8,c9,dd,dk,dl⟩:=InsT.fx (a9 k);let bl:Value:=(aG [(iI (l.getD k v_).op),(iI (l.getD k v_).a),(iI (l.getD k v_).b),(iI (l.getD k v_).c),(iI (l.getD k v_).n)])
  refine bL 4 0 16 19 [] [(19,bl)] (Ha_ (Sv.ix (j:=(k:Int)) (SR.sv hl aq)) (Hl_ 3 (qn 86 0 5 (InsT.vw (a9 k)) V V V V) Hn_)) (by kernel_rfl) V fun _=>zn aq V fun a7 d1 b5=>sgo 1 5 1 0 [] [] (Hr_ 5 1 Hn_) b5 V V fun dn d2 ap=>ah 3 V (ab (aY 1 0 20 20 [] [(20,bl)] (Hr_ 0 1 Hn_) ap V V fun _=>?_))
  refine zc (rval_c ex (l.getD k v_) (HS.call ap) M M M M M hT (al)) ?_;rintro _ a4 ⟨f0,b9,ag,U,rfl,rfl⟩;replace U:=HS.back ap V U;replace T:=T.mono ag;refine bL 1 2 22 22 [] [(22,(.bool false))] Hn_ (by kernel_rfl) V fun _=>ah 1 V (bW 2 (v:=false) V V V V ?_)
  have c6:=iP (l.getD k v_).op;refine aU 2 23 29 [7,8] [(7,(.int .u64 ((jG (aI (l.getD k v_).op):Nat):Int))),(8,(.int .u64 ((fq (aI (l.getD k v_).op):Nat):Int)))] (Hr_ 1 1 (Hc_ 2 (m1.ke ex (l.getD k v_).op a4) (Hc_ 3 (fld_c_q ex (aI (l.getD k v_).op) a4) Hn_))) U V V fun _=>aU 3 30 47 [9] [(9,(.int .u32 (aD .or .u32 (aD .or .u32 (aD .or .u32 (IntKind.u32.wrap (l.getD k v_).op) (IntKind.u32.wrap ((IntKind.u32.wrap (l.getD k v_).a) *2^(Nat.min 6 32)))) (IntKind.u32.wrap ((IntKind.u32.wrap (l.getD k v_).b) *2^(Nat.min 9 32)))) (IntKind.u32.wrap ((IntKind.u32.wrap (l.getD k v_).c) *2^(Nat.min 12 32))))))] (Hr_ 1 1 (Hw_ 2 (.w) (Hr_ 4 1 (Hw_ 5 (.w) (Ha_ (show(0:Int)<=6 from by decide) (Hr_ 9 1 (Hw_ 10 (.w) (Ha_ (show(0:Int)<=9 from by decide) (Hr_ 14 1 (Hw_ 15 (.w) (Ha_ (show(0:Int)<=12 from by decide) Hn_))))))))))) U V V fun _=>wT 1 [] 48 49 [] [(49,(.bool (decide ((0:Int)<((fq (aI (l.getD k v_).op):Nat):Int)))))] V fun _=>bj (fun f H'=> ∃(x:Int) (F':Fz),Fz.le b9 F'/\HS (Base.of H []) F' H' [a_,(fP a7 [(iI (l.getD k v_).op),(iI (l.getD k v_).a),(iI (l.getD k v_).b),(iI (l.getD k v_).c),(iI (l.getD k v_).n)])] R/\aB f [(0,(sL ad l.length ai)),(4,(sL E o.length N)),(5,(iI (k:Int))),(6,(pT a7 0)),(9,(.int .u32 x))]/\(x=xW (l.getD k v_))/\(0<=x/\x<4294967296)) (fun a1=>?_) ?_
  ·refine zd 0 0 (fun cc=>?_) fun cc=>?_
   ·refine aU 0 50 61 [9] [(9,(.int .u32 (aD .or .u32 (aD .or .u32 (aD .or .u32 (aD .or .u32 (IntKind.u32.wrap (l.getD k v_).op) (IntKind.u32.wrap ((IntKind.u32.wrap (l.getD k v_).a) *2^(Nat.min 6 32)))) (IntKind.u32.wrap ((IntKind.u32.wrap (l.getD k v_).b) *2^(Nat.min 9 32)))) (IntKind.u32.wrap ((IntKind.u32.wrap (l.getD k v_).c) *2^(Nat.min 12 32)))) (IntKind.u32.wrap ((IntKind.u32.wrap (aD .and .u64 (IntKind.u64.wrap (l.getD k v_).n) (IntKind.u64.wrap ((IntKind.u64.wrap (1 *2^(Nat.min (fq (aI (l.getD k v_).op)) 64)))-1)))) *2^(Nat.min (jG (aI (l.getD k v_).op)) 32))))))] (Hr_ 2 1 (Hw_ 3 (.w) (Ha_ (show(0:Int)<=((fq (aI (l.getD k v_).op):Nat):Int) from by omega) (Hw_ 6 (.w) (Hw_ 8 (.w) (Ha_ (show(0:Int)<=((jG (aI (l.getD k v_).op):Nat):Int) from by omega) Hn_)))))) U V V fun _=>?_
    exact a1 _ _ ⟨aD .or .u32 (aD .or .u32 (aD .or .u32 (aD .or .u32 (IntKind.u32.wrap (l.getD k v_).op) (IntKind.u32.wrap ((IntKind.u32.wrap (l.getD k v_).a) *2^(Nat.min 6 32)))) (IntKind.u32.wrap ((IntKind.u32.wrap (l.getD k v_).b) *2^(Nat.min 9 32)))) (IntKind.u32.wrap ((IntKind.u32.wrap (l.getD k v_).c) *2^(Nat.min 12 32)))) (IntKind.u32.wrap ((IntKind.u32.wrap (aD .and .u64 (IntKind.u64.wrap (l.getD k v_).n) (IntKind.u64.wrap ((IntKind.u64.wrap (1 *2^(Nat.min (fq (aI (l.getD k v_).op)) 64)))-1)))) *2^(Nat.min (jG (aI (l.getD k v_).op)) 32))),_,fR,U,⟨V,V,V,V,V,trivial⟩,(by unfold xW;first|(rw[if_pos M];rfl)|(rw[if_neg M];rfl)),(gz _ _ _)⟩
   exact a1 _ _ ⟨aD .or .u32 (aD .or .u32 (aD .or .u32 (IntKind.u32.wrap (l.getD k v_).op) (IntKind.u32.wrap ((IntKind.u32.wrap (l.getD k v_).a) *2^(Nat.min 6 32)))) (IntKind.u32.wrap ((IntKind.u32.wrap (l.getD k v_).b) *2^(Nat.min 9 32)))) (IntKind.u32.wrap ((IntKind.u32.wrap (l.getD k v_).c) *2^(Nat.min 12 32))),_,fR,U,⟨V,V,V,V,V,trivial⟩,(by unfold xW;first|(rw[if_pos M];rfl)|(rw[if_neg M];rfl)),(gz _ _ _)⟩
  skip;rintro e5 ef ⟨x,dt,an,b6,aw,hx,hxr⟩;refine au _ aw (fun _=>?_);clear aw;replace T:=T.mono an;refine am 2 V (ab (wTo 2 0 [] 62 63 [] [(62,(sL E o.length N)),(63,(.int .u32 x))] V fun _=>zlo ([⟨x⟩]:List U32) b6 V (RL.cs ⟨V,by assumption⟩ RL.nl) V fun e2 e6 fi et b1 ay=>zao 0 T ay (OS.sv b1 ay (i:=2) V) V V V M fun av a2 ci ez ax Z=>za (sL av (o++([⟨x⟩]:List U32)).length a2) ?_));refine ah 2 V (aU 1 66 68 [] [(68,(.bool ((l.getD k v_).op==14)))] (Hr_ 1 1 Hn_) Z V V fun _=>zI 0 2 (fun cg=>?_) fun cg=>?_)
  ·refine ab (aY 10 0 69 78 [] [(69,(sL av (o++([⟨x⟩]:List U32)).length a2)),(73,(.int .u32 (IntKind.u32.wrap (IntKind.u64.wrap (l.getD k v_).n)))),(78,(.int .u32 (IntKind.u32.wrap (Int.fdiv (IntKind.u64.wrap (l.getD k v_).n) (2^(Nat.min 32 64))))))] (Hr_ 2 1 (Hw_ 3 (.w) (Hw_ 4 (.w) (Hr_ 6 1 (Hw_ 7 (.w) (Ha_ (show(0:Int)<=32 from by decide) (Hw_ 9 (.w) Hn_))))))) Z V V fun _=>zlo ([⟨IntKind.u32.wrap (IntKind.u64.wrap (l.getD k v_).n)⟩,⟨IntKind.u32.wrap (Int.fdiv (IntKind.u64.wrap (l.getD k v_).n) (2^(Nat.min 32 64)))⟩]:List U32) Z V (RL.cs ⟨V,by exact ft _⟩ (RL.cs ⟨V,by exact ft _⟩ RL.nl)) V fun e3 e8 fj e0 b2 aA=>zao 0 ax aA (OS.sv b2 aA (i:=3) V) V V V M fun a5 bk co e1 b3 b7=>za (sL a5 ((o++([⟨x⟩]:List U32))++([⟨IntKind.u32.wrap (IntKind.u64.wrap (l.getD k v_).n)⟩,⟨IntKind.u32.wrap (Int.fdiv (IntKind.u64.wrap (l.getD k v_).n) (2^(Nat.min 32 64)))⟩]:List U32)).length bk) (ah 2 V ?_));refine wU 1 [] 14 15 [5] [(5,(iI ((k:Int)+1)))] (vi (n:=(k:Int)+1)) V fun _=>?_
   refine bb _ _ _ ?_ ⟨(o++([⟨x⟩]:List U32))++([⟨IntKind.u32.wrap (IntKind.u64.wrap (l.getD k v_).n)⟩,⟨IntKind.u32.wrap (Int.fdiv (IntKind.u64.wrap (l.getD k v_).n) (2^(Nat.min 32 64)))⟩]:List U32),k+1,a5,bk,co,_,(fT (fT (aa) ag) an),(HS.sub b7 (a03 _ _)),b3,⟨V,V,V,trivial⟩,V,(by refine Eq.trans ?_ (kh (k:=k) M);rw[←h1,←re_eq al];unfold reW;first|(rw[if_pos X,hx,a0l];rfl)|(rw[if_neg X,hx])),M⟩;omega
  refine wU 1 [] 14 15 [5] [(5,(iI ((k:Int)+1)))] (vi (n:=(k:Int)+1)) V fun _=>?_
  refine bb _ _ _ ?_ ⟨o++([⟨x⟩]:List U32),k+1,av,a2,ci,_,(fT (fT (aa) ag) an),(HS.sub Z (a03 _ _)),ax,⟨V,V,V,trivial⟩,V,(by refine Eq.trans ?_ (kh (k:=k) M);rw[←h1,←re_eq al];unfold reW;first|(rw[if_pos X,hx,a0l];rfl)|(rw[if_neg X,hx])),M⟩;omega
 refine wT 1 [] 2 3 [81] [(2,(sL E o.length N)),(3,(iI 0))] V fun _=>?_
 obtain⟨dv,bz,b8,b4,ds⟩:=OS.frz T aq (i:=0) V;refine aj ⟨.inr V,_,V,E,N,o,0,_,(fT (aa) bz),(HS.forget b8),V,b4,(by rw[h1,a0i M]),m_⟩
end ed
open ed
namespace ec
variable (ex:FuncId) {F:Fz} {H:Heap} {R:List Fp}
structure EmW where
 s:EmS
 la:Option Addr
 lk:Nat
 lp:Fp
 pa:Option Addr
 pk:Nat
 pp:Fp
 ja:Option Addr
 jk:Nat
 jp:Fp
 lo:OS (fun _=>none) (sL la s.l.length lk) s.l lp
 po:OS (fun _=>none) (sL pa s.pl.length pk) s.pl pp
 jo:OS (fun _=>none) (sL ja s.js.length jk) s.js jp
 gs:in64 s.sz
def psM(b:Nat)(w:EmW):Fp:=(([(b,.cells [sL w.la w.s.l.length w.lk,sL w.pa w.s.pl.length w.pk,iI w.s.sz,sL w.ja w.s.js.length w.jk] none false)]++w.lp)++w.pp)++w.jp
theorem put_c{y:Nat}{ad:Option Addr}{ai:Nat}(l:List InsT)(w:EmW)(hs:HS (.of H ((psM y w).map Prod.fst)) F H [(psM y w)] R)(hl:SR F (sL ad l.length ai) l)(hT:TB 37 tabC F)(hO:EmO ⟨w.s.l,w.s.pl,w.s.sz,[]⟩)(hb:w.s.l.length+l.length<=200000000):kKt ex 70 [(pT y 0),(sL ad l.length ai)] H fun v H'=> ∃(w':EmW) (F':Fz),Fz.le F F'/\HS (.of H ((psM y w).map Prod.fst)) F' H' [(psM y w')] R/\v= .tuple #[]/\(w'.s=eS w.s l):=by
 refine aC Tryz.func70 V V (am 1 V ?_);have c5:OS F (sL w.la w.s.l.length w.lk) w.s.l w.lp:=w.lo.lowI;have c6:OS F (sL w.pa w.s.pl.length w.pk) w.s.pl w.pp:=w.po.lowI;let a5:Value:=sL w.ja w.s.js.length w.jk;have ay:OS F a5 w.s.js w.jp:=w.jo.lowI;have g7:=w.gs;have dk:HS _ _ _ [(fP y [(sL w.la w.s.l.length w.lk),(sL w.pa w.s.pl.length w.pk),(iI w.s.sz),a5]),w.jp,w.pp,w.lp] _:=(HS.cut2 (HS.cut2 (HS.cut2 hs (q:=0) V) (q:=0) V) (q:=0) V)
 refine wT 2 [] 8 10 [] [(8,(sL ad l.length ai)),(9,(iI (l.length:Int))),(10,(iI 0))] V fun _=>ak (fun(mm:Nat) f H'=> ∃(ll:List InsT) (pp:List Int) (sz:Int) (k:Nat) (ag:Fp) (N:Option Addr) (U:Nat) (an:Fp) (T:Option Addr) (a_:Nat) (F':Fz),Fz.le F F'/\HS (Base.of H ((psM y w).map Prod.fst)) F' H' [(fP y [(sL N ll.length U),(sL T pp.length a_),(iI sz),a5]),w.jp,an,ag] R/\OS F' (sL N ll.length U) ll ag/\OS F' (sL T pp.length a_) pp an/\aB f [(0,(pT y 0)),(8,(sL ad l.length ai)),(9,(iI (l.length:Int))),(10,(iI (k:Int)))]/\mm=l.length-k/\((⟨ll,pp,sz,w.s.js⟩:EmS)=eS w.s (l.take k))/\(k<=l.length)/\(in64 sz)) _ ⟨w.s.l,w.s.pl,w.s.sz,0,w.lp,w.la,w.lk,w.pp,w.pa,w.pk,_,fR,dk,c5,c6,⟨V,V,V,V,trivial⟩,V,m_,M,M⟩ ?_
 rintro ha f6 H6 ⟨ll,pp,sz,k,ag,N,U,an,T,a_,F6,ap,ax,Z,aa,a9,rfl,h2,hk,hsz⟩ dl;refine au _ a9 (fun _=>?_);clear a9;replace hT:=hT.mono ap;replace hl:=hl.mono ap;replace ay:=ay.mono ap;have aw:=hO.pt (l.take k);rw[put_j0,←h2]at aw;have c7:=aw.pl;have c9:=aw.sz0;have dd:=aw.sz1;have en:ll.length=w.s.l.length+(l.take k).length:=by have:=congrArg (fun s=>s.l.length) h2;rwa [cw]at this
 rw[a0p,a1y hk]at en;dsimp only at c7 c9 dd;refine am 1 V (wT 2 [] 11 11 [] [(11,(.bool (decide ((k:Int)<(l.length:Int)))))] V fun _=>zd 4 3 (fun c8=>?_) fun c8=>?_)
 ·let E:=gD l k;have hI:0<=(aE E.op).w/\(aE E.op).w<=3:=fW E;refine ab ?_;obtain⟨g6,bb⟩:=Sv.view (SR.sv hl ax);obtain⟨d1,d2,ef,et,ez⟩:=InsT.fx (bb k);let bk:Value:=(aG [(iI (E.op)),(iI (E.a)),(iI (E.b)),(iI (E.c)),(iI (E.n))])
  refine bL 2 0 12 13 [] [(13,bk)] (Ha_ (Sv.ix (j:=(k:Int)) (SR.sv hl ax)) (Hl_ 1 (qn 86 0 5 (InsT.vw (bb k)) V V V V) Hn_)) (by kernel_rfl) V fun _=>zn ax V fun g4 f3 b3=>sgo 1 3 1 0 [] [] (Hr_ 3 4 Hn_) b3 V V fun e8 f4 ar=>ah 2 V (ab (aY 2 0 15 16 [] [(16,(iI (E.op)))] (Hr_ 1 4 Hn_) ar V V fun _=>?_))
  refine zc (m1.ic ex (E.op) (HS.call ar) M hT) ?_;rintro _ f5 ⟨hh,he,f2,aq,av,rfl,cg,ch,rfl,rfl⟩;replace av:=HS.back ar V av;replace Z:=Z.mono aq;replace aa:=aa.mono aq;refine bL 3 3 18 19 [14] [(18,(aG [(tX (aE (E.op)).name.b),(iI (aE (E.op)).f),(.bool (aE (E.op)).ra),(.bool (aE (E.op)).wa),(.bool (aE (E.op)).rb),(.bool (aE (E.op)).mt),(iI (aE (E.op)).w)])),(19,(.bool (infO (E.op))))] Hn_ (by kernel_rfl) V fun _=>zn av V fun g5 f7 b4=>sgo 2 7 1 0 [7] [] (Hr_ 7 5 Hn_) b4 V V fun fd f8 aA=>ah 2 V (aL V (eO 6 20 25 [] [(20,(pT y 0)),(24,(sL N ll.length U)),(25,bk)] (Hr_ 4 0 (Hr_ 5 4 Hn_)) aA V V fun _=>?_))
  refine zld ([E]:List InsT) aA V (RL.cs ⟨V,by omega,by omega,by omega,by omega,by omega⟩ RL.nl) V fun g2 g8 hf e1 bl a1=>zad 3 Z a1 (OS.sv bl a1 (i:=6) V) V V V M (kb V) fun ci dn dt e2 bz b5=>sdo 3 28 29 [] [] (Hr_ 10 0 Hn_) b5 V V fun fi f9 a2=>bC 2 V (aL V (eO 9 30 38 [] [(30,(pT y 0)),(34,(sL T pp.length a_)),(38,(iI sz))] (Hr_ 4 0 (Hr_ 8 0 Hn_)) a2 V V fun _=>?_))
  refine zld ([sz]:List Int) a2 V (RL.cs ⟨V,by omega⟩ RL.nl) V fun g3 g9 hg e3 b1 a3=>zad 2 aa a3 (OS.sv b1 a3 (i:=7) V) V V V M (kb V) fun co ds dv e4 b2 b6=>sdo 3 41 42 [] [] (Hr_ 13 0 Hn_) b6 V V fun fj go b7=>bC 1 V (sdr 2 43 51 [] [] (Hr_ 3 0 (Hr_ 5 5 (Ha_ (vi (n:=sz+(aE (E.op)).w)) (Hr_ 9 0 Hn_)))) b7 V V V fun f0 g1 b8=>wU 1 [] 10 10 [52] [(10,(iI ((k:Int)+1)))] (vi (n:=(k:Int)+1)) V fun _=>?_)
  refine dl _ _ _ ?_ ⟨ll++([E]:List InsT),pp++([sz]:List Int),sz+(aE (E.op)).w,k+1,dt,ci,dn,dv,co,ds,_,(fT (ap) aq),(HS.sub b8 (a03 _ _)),bz,b2,⟨V,V,V,V,trivial⟩,V,(put_step h2 M),M,M⟩;omega
 obtain⟨cc,a8,b9⟩:=ex_eq (P:=fun w9=>HS (Base.of H ((psM y w).map Prod.fst)) F6 H6 [(psM y w9),[],[],[]] R) (⟨⟨ll,pp,sz,w.s.js⟩,N,U,ag,T,a_,an,w.ja,w.jk,w.jp,OS.lowI (Z),OS.lowI (aa),OS.lowI (ay),by(dsimp only;omega)⟩:EmW) (HS.join2 (HS.join2 (HS.join2 ax (q:=0) (i:=3) e_ V V) (q:=0) (i:=2) e_ V V) (q:=0) (i:=1) e_ V V);have a4:=congrArg (·.s) a8;refine aP ⟨.inl V,_,V,cc,_,(ap),(HS.first b9),V,(by simp only[a4];exact h2.trans (by rw[a0i M]))⟩
theorem pjmp_c{y:Nat}(i:InsT)(b:Int)(w:EmW)(hs:HS (.of H ((psM y w).map Prod.fst)) F H [(psM y w)] R)(b6:in64 i.op)(b7:in64 i.a)(b8:in64 i.b)(b9:in64 i.c)(cc:in64 i.n)(hb:in64 b)(hT:TB 37 tabC F)(hO:EmO w.s)(hb:w.s.l.length<=199999998):kKt ex 123 [(pT y 0),(aG [(iI i.op),(iI i.a),(iI i.b),(iI i.c),(iI i.n)]),(iI b)] H fun v H'=> ∃(w':EmW) (F':Fz),Fz.le F F'/\HS (.of H ((psM y w).map Prod.fst)) F' H' [(psM y w')] R/\v= .tuple #[]/\(w'.s=lj w.s i b):=by
 have dk:=hO.js;have dl:=hO.pl;have dn:=hO.sz0;have ds:=hO.sz1;refine aC Tryz.func123 V V (am 1 V (ab (bd (aR hs V V) V V ?_)));rintro _ H2 _ ⟨b1,rfl,bl,_⟩;refine ah 2 V ?_;have a7:OS F (sL w.la w.s.l.length w.lk) w.s.l w.lp:=w.lo.lowI;have a9:OS F (sL w.pa w.s.pl.length w.pk) w.s.pl w.pp:=w.po.lowI;let Z:Value:=sL w.ja w.s.js.length w.jk;have bb:OS F Z w.s.js w.jp:=w.jo.lowI;have dd:=w.gs;let ap:Fp:=(fP b1 [(iI i.op),(iI i.a),(iI i.b),(iI i.c),(iI i.n)])
 have ag:HS _ _ _ [(fP y [(sL w.la w.s.l.length w.lk),(sL w.pa w.s.pl.length w.pk),(iI w.s.sz),Z]),ap,w.jp,w.pp,w.lp] _:=(HS.cut2 (HS.cut2 (HS.cut2 bl (q:=0) V) (q:=0) V) (q:=0) V)
 refine aL V (eO 12 6 17 [] [(6,(pT y 0)),(10,Z),(17,(aG [(iI (w.s.l.length:Int)),(iI b)]))] (Hr_ 4 0 (Hr_ 8 0 Hn_)) ag V V fun _=>zld ([(⟨(w.s.l.length:Int),b⟩:JmpT)]:List JmpT) ag V (RL.cs ⟨V,by(dsimp only;omega),by(dsimp only;omega)⟩ RL.nl) V fun a8 k8 p8 c8 bk an=>zad 2 bb an (OS.sv bk an (i:=5) V) V V V M (kb V) fun a5 bz b2 b3 av ay=>sdo 3 20 21 [] [] (Hr_ 16 0 Hn_) ay V V fun b5 a4 aA=>bC 1 V ?_);obtain⟨a3,aa,U⟩:=ex_eq (P:=fun w9=>HS (Base.of H ((psM y w).map Prod.fst)) F a4 [(psM y w9),ap,[],[],[],p8] R) (⟨⟨w.s.l,w.s.pl,w.s.sz,w.s.js++([(⟨(w.s.l.length:Int),b⟩:JmpT)]:List JmpT)⟩,w.la,w.lk,w.lp,w.pa,w.pk,w.pp,a5,bz,b2,OS.lowI (a7),OS.lowI (a9),OS.lowI (av),by(dsimp only;omega)⟩:EmW) (HS.join2 (HS.join2 (HS.join2 aA (q:=0) (i:=4) e_ V V) (q:=0) (i:=3) e_ V V) (q:=0) (i:=2) e_ V V);have E:=congrArg (·.s) aa;refine ab (aY 2 0 22 23 [] [(22,(pT y 0)),(23,(aG [(iI i.op),(iI i.a),(iI i.b),(iI i.c),(iI i.n)]))] (Hr_ 1 1 Hn_) U V V fun _=>zlo ([i]:List InsT) U V (RL.cs ⟨V,by omega,by omega,by omega,by omega,by omega⟩ RL.nl) V fun c9 dt dv c6 aw a1=>?_);obtain⟨c5,T,a_,ax,cg⟩:=OS.frz aw a1 (i:=6) V;replace hT:=hT.mono T;refine zc (put_c ex ([i]:List InsT) a3 (g_ a_ V) ax hT (by(simp only[E];exact hO.j0)) (by(simp only[E];simp only[a0j];omega))) ?_;rintro _ c7 ⟨a2,co,ar,N,rfl,aq⟩;replace N:=a_.bO N;refine ah 0 V (aP ⟨.inl V,_,V,a2,_,(fT (T) ar),(HS.first N),V,(by simp only[aq,E];rfl)⟩)
theorem trm_c{y:Nat}{aA:Option Addr}{a7:Nat}(b:BlkT){ay:Option Addr}{a5:Nat}{ax:Option Addr}{a4:Nat}(a:AllT)(nx:Int)(w:EmW)(hs:HS (.of H ((psM y w).map Prod.fst)) F H [(psM y w)] R)(jw:SR F (sL aA b.v.length a7) b.v)(ka:in64 b.f)(kc:in64 b.r)(kd:in64 b.t)(kg:in64 b.e)(a3:SR F (sL ax a.l.length a4) a.l)(jb:SR F (sL ay a.p.length a5) a.p)(jq:in64 a.k)(pd:in64 nx)(hT:TB 37 tabC F)(hO:EmO w.s)(hb:w.s.l.length<=199999000)(hr:b.f=2\/b.f=3->0<=b.r/\b.r<(a.l.length:Int)):kKt ex 72 [(pT y 0),(aG [(sL aA b.v.length a7),(iI b.f),(iI b.r),(iI b.t),(iI b.e)]),(aG [(sL ax a.l.length a4),(sL ay a.p.length a5),(iI a.k)]),(iI nx)] H fun v H'=> ∃(w':EmW) (F':Fz),Fz.le F F'/\HS (.of H ((psM y w).map Prod.fst)) F' H' [(psM y w')] R/\v= .tuple #[]/\(w'.s=fY w.s b a.l nx):=by
 refine aC Tryz.func72 V V (am 1 V (ab (bd (aR hs V V) V V ?_)));rintro _ H2 _ ⟨b1,rfl,ih,_⟩;refine bd (aR ih V V) V V ?_;rintro _ H4 _ ⟨b3,rfl,T,_⟩;refine ah 2 V (aU 3 10 11 [] [(11,(iI b.f))] (Hr_ 1 1 Hn_) T V V fun _=>wT 1 [] 18 19 [] [(18,(.bool (b.f==1)))] V fun _=>zI 1 1 (fun c7=>?_) fun c7=>?_)
 ·refine aU 1 20 23 [] [(23,(.bool (b.t !=nx)))] (Hr_ 1 1 Hn_) T V V fun _=>zI 0 1 (fun c9=>?_) fun c9=>?_
  ·refine ab (aY 4 0 24 27 [] [(24,(pT y 0)),(25,(aG [(iI 5),(iI 0),(iI 0),(iI 0),(iI 0)])),(27,(iI b.t))] (Hr_ 3 1 Hn_) T V V fun _=>zc (pjmp_c ex (⟨5,0,0,0,0⟩:InsT) b.t w (g_ T V) M M M M M M hT M M) ?_);rintro _ l1 ⟨ht,kp,f8,b2,rfl,f2⟩;replace b2:=T.bO b2;refine ah 1 V (aP ⟨.inl V,_,V,ht,_,(f8),(HS.first b2),V,(by(try simp only[f2]);(try rw[h3,av]);(try rw[ar]);unfold fY;(try unfold brnV);(repeat (first|rw[if_pos M]|rw[if_neg M]));(try rfl))⟩)
  refine aP ⟨.inl V,_,V,w,_,fR,(HS.first T),V,(by(try simp only[true_and]);(try rw[h3,av]);(try rw[ar]);unfold fY;(try unfold brnV);(repeat (first|rw[if_pos M]|rw[if_neg M]));(try rfl))⟩
 refine wT 1 [] 29 30 [] [(29,(.bool (b.f==2)))] V fun _=>zI 1 1 (fun h2=>?_) fun h2=>?_
 ·refine ab ?_;obtain⟨i1,e5⟩:=Sv.view (SR.sv a3 T);have ik:=LocT.fx (e5 b.r.toNat);let N:=gD a.l b.r.toNat;refine aY 6 0 31 36 [] [(36,(aG [(.bool (N.inS)),(iI (N.x))]))] (Hr_ 1 2 (Hr_ 3 1 (Ha_ (Sv.ix (j:=b.r) (SR.sv a3 T)) (Hl_ 5 (qn 39 0 2 (LocT.vw (e5 b.r.toNat)) V V V V) Hn_)))) T V V fun _=>zn T V fun h0 l2 hh=>sgo 1 7 1 0 [] [] (Hr_ 7 3 Hn_) hh V V fun i3 l3 aq=>ah 2 V (aU 3 37 38 [9] [(9,(iI (N.x)))] (Hr_ 1 3 Hn_) aq V V fun _=>aU 1 39 40 [] [(40,(.bool (N.inS)))] (Hr_ 1 3 Hn_) aq V V fun _=>?_)
  refine bj (fun f H'=> ∃(r:Int) (E:EmW) (F':Fz),Fz.le F F'/\HS (Base.of H ((psM y w).map Prod.fst)) F' H' [(psM y E),(fP b1 [(sL aA b.v.length a7),(iI b.f),(iI b.r),(iI b.t),(iI b.e)]),(fP b3 [(sL ax a.l.length a4),(sL ay a.p.length a5),(iI a.k)]),(fP h0 [(.bool (N.inS)),(iI (N.x))])] R/\aB f [(0,(pT y 0)),(3,(iI nx)),(5,(pT b1 0)),(9,(iI r))]/\(r=jS N.inS N.x 5)/\(in64 r)/\(EmO E.s)/\(E.s=eS w.s (fetS N))) (fun e8=>?_) ?_
  ·refine zi 1 0 (fun a1=>?_) fun a1=>?_
   ·have h4:=a1;try simp only[BS]at h4
    have ap:N.inS=true:=a1;refine wT 1 [] 1 0 [9] [(9,(iI 5))] V fun _=>ab (aY 3 0 41 43 [] [(41,(pT y 0)),(43,(iI (N.x)))] (Hr_ 2 3 Hn_) aq V V fun _=>zc (xa.iL ex (5) (N.x) (HS.call aq) M M hT) ?_)
    rintro _ l5 ⟨oO,kx,dd,b4,rfl,hE,hF,hG,hH,hI,rfl⟩;replace b4:=HS.back aq V b4;refine zlo ([(⟨36,(5:Int),0,0,(N.x)⟩:InsT)]:List InsT) b4 V (RL.cs ⟨V,by(dsimp only;omega),by(dsimp only;omega),by(dsimp only;omega),by(dsimp only;omega),by(dsimp only;omega)⟩ RL.nl) V fun ol oD oI l7 g5 hj=>?_
    obtain⟨kz,dk,ez,ha,kk⟩:=OS.frz g5 hj (i:=4) V;replace hT:=(hT.mono dd).mono dk;refine zc (put_c ex ([(⟨36,(5:Int),0,0,(N.x)⟩:InsT)]:List InsT) w (g_ ez V) ha hT (EmO.j0 X) (by(simp only[true_and,cw,d7,a01,a0j,a0b,a05];omega))) ?_;rintro _ l8 ⟨hu,ky,f9,b5,rfl,c8⟩;replace b5:=ez.bO b5;refine ah 0 V ?_;exact e8 _ _ ⟨5,hu,_,(fT (fT (dd) dk) f9),(HS.sub b5 (a03 _ _)),⟨V,V,V,V,trivial⟩,(by unfold jS;first|(rw[if_pos ap])|(rw[if_neg ap])),M,(by(simp only[c8];exact hO.pt _)),(by unfold fetS;first|(rw[if_pos ap];simp only[c8])|(rw[if_neg ap];rfl))⟩
   have ap: ¬N.inS=true:=by(have h9:=a1;rw[show N.inS=false from h9];decide)
   exact e8 _ _ ⟨N.x,w,_,fR,aq,⟨V,V,V,V,trivial⟩,(by unfold jS;first|(rw[if_pos ap])|(rw[if_neg ap])),M,X,(by unfold fetS;first|(rw[if_pos ap];simp only[true_and])|(rw[if_neg ap];rfl))⟩
  skip;rintro ox l4 ⟨r,E,kr,a2,U,et,av,rr,oy,h3⟩;refine au _ et (fun _=>?_);clear et;replace hT:=hT.mono a2;have oz:E.s.l.length<=w.s.l.length+1:=by rw[h3,cw];exact Nat.add_le_add_left nI _
  refine am 2 V (wT 3 [] 47 47 [] [(47,(iI nx))] V fun _=>aU 1 59 62 [] [(59,(.bool (nx==b.e)))] (Hr_ 1 1 Hn_) U V V fun _=>zI 0 1 (fun h5=>?_) fun h5=>?_)
  ·refine ab (aY 5 0 63 67 [] [(63,(pT y 0)),(65,(aG [(iI 8),(iI r),(iI 0),(iI 0),(iI 0)])),(67,(iI b.t))] (Hr_ 4 1 Hn_) U V V fun _=>zc (pjmp_c ex (⟨8,r,0,0,0⟩:InsT) b.t E (g_ U V) M M M M M M hT M M) ?_);rintro _ l9 ⟨hv,k0,go,b6,rfl,f3⟩;replace b6:=U.bO b6;refine ah 2 V (aP ⟨.inl V,_,V,hv,_,(fT (a2) go),(HS.first b6),V,(by(try simp only[f3]);(try rw[h3,av]);(try rw[ar]);unfold fY;(try unfold brnV);(repeat (first|rw[if_pos M]|rw[if_neg M]));(try rfl))⟩)
  refine aU 1 69 72 [] [(69,(.bool (nx==b.t)))] (Hr_ 1 1 Hn_) U V V fun _=>zI 0 1 (fun h6=>?_) fun h6=>?_
  ·refine ab (aY 5 0 73 77 [] [(73,(pT y 0)),(75,(aG [(iI 7),(iI r),(iI 0),(iI 0),(iI 0)])),(77,(iI b.e))] (Hr_ 4 1 Hn_) U V V fun _=>zc (pjmp_c ex (⟨7,r,0,0,0⟩:InsT) b.e E (g_ U V) M M M M M M hT M M) ?_);rintro _ mk ⟨hw,k3,g1,b7,rfl,f4⟩;replace b7:=U.bO b7;refine ah 2 V (aP ⟨.inl V,_,V,hw,_,(fT (a2) g1),(HS.first b7),V,(by(try simp only[f4]);(try rw[h3,av]);(try rw[ar]);unfold fY;(try unfold brnV);(repeat (first|rw[if_pos M]|rw[if_neg M]));(try rfl))⟩)
  refine ab (aY 5 0 48 52 [] [(48,(pT y 0)),(50,(aG [(iI 8),(iI r),(iI 0),(iI 0),(iI 0)])),(52,(iI b.t))] (Hr_ 4 1 Hn_) U V V fun _=>zc (pjmp_c ex (⟨8,r,0,0,0⟩:InsT) b.t E (g_ U V) M M M M M M hT M M) ?_);rintro _ mm ⟨hz,k4,dl,aw,rfl,bb⟩;replace aw:=U.bO aw;replace hT:=hT.mono dl;refine ah 1 V (ab (aY 4 0 54 57 [] [(54,(pT y 0)),(55,(aG [(iI 5),(iI 0),(iI 0),(iI 0),(iI 0)])),(57,(iI b.e))] (Hr_ 3 1 Hn_) aw V V fun _=>zc (pjmp_c ex (⟨5,0,0,0,0⟩:InsT) b.e hz (g_ aw V) M M M M M M hT (by(simp only[bb];first|exact EmO.jm X _ _|exact EmO.pt _ X)) (by(simp only[bb,cw,d7,a01,a0j,a0b,a05];omega))) ?_));rintro _ mx ⟨hA,k5,g2,b8,rfl,f5⟩;replace b8:=aw.bO b8;refine ah 2 V (aP ⟨.inl V,_,V,hA,_,(fT (fT (a2) dl) g2),(HS.first b8),V,(by(try simp only[f5,bb]);(try rw[h3,av]);(try rw[ar]);unfold fY;(try unfold brnV);(repeat (first|rw[if_pos M]|rw[if_neg M]));(try rfl))⟩)
 refine wT 1 [] 79 80 [] [(79,(.bool (b.f==3)))] V fun _=>zI 1 0 (fun h7=>?_) fun h7=>?_
 ·have pc:=fet_len (to:=0) (b:=(gD a.l b.r.toNat).inS) (x:=(gD a.l b.r.toNat).x);refine ab ?_;obtain⟨i2,e6⟩:=Sv.view (SR.sv a3 T);have il:=LocT.fx (e6 b.r.toNat);refine aY 7 0 81 87 [] [(81,(pT y 0)),(87,(aG [(.bool (gD a.l b.r.toNat).inS),(iI (gD a.l b.r.toNat).x)]))] (Hr_ 2 2 (Hr_ 4 1 (Ha_ (Sv.ix (j:=b.r) (SR.sv a3 T)) (Hl_ 6 (qn 39 0 2 (LocT.vw (e6 b.r.toNat)) V V V V) Hn_)))) T V V fun _=>?_
  have hk:=HS.snoc T;have a_:OS F (sL none 0 0) ([]:List InsT) []:=OS.nil;refine zc (R:=fun v H'=> ∃(o3:List InsT) (aa:Option Addr) (ag:Nat) (an:Fp) (F':Fz),Fz.le F F'/\HS (Base.of H ((psM y w).map Prod.fst)) F' H' [(psM y w),(fP b1 [(sL aA b.v.length a7),(iI b.f),(iI b.r),(iI b.t),(iI b.e)]),(fP b3 [(sL ax a.l.length a4),(sL ay a.p.length a5),(iI a.k)]),an] R/\OS F' (sL aa o3.length ag) o3 an/\v=(sL aa o3.length ag)/\(o3=([]:List InsT)++lP 0 (gD a.l b.r.toNat).inS (gD a.l b.r.toNat).x)) ?_ ?_
  ·refine aC Tryz.func89 V V (am 1 V (ab (bd (aR hk V V) V V ?_)));rintro _ m0 _ ⟨ow,rfl,Z,_⟩;refine za (sL none 0 0) (ah 4 V (aU 1 7 9 [] [(7,(.bool (gD a.l b.r.toNat).inS))] (Hr_ 1 4 Hn_) Z V V fun _=>zI 1 1 (fun h8=>?_) fun h8=>?_))
   ·refine ab (aY 4 0 10 13 [] [(10,(sL none 0 0)),(11,(iI 0)),(13,(iI (gD a.l b.r.toNat).x))] (Hr_ 3 4 Hn_) Z V V fun _=>zc (xa.iL ex (0) (gD a.l b.r.toNat).x (HS.call Z) M M hT) ?_);rintro _ ne ⟨oP,hX,ds,b9,rfl,hJ,hK,hL,hM,hP,rfl⟩;replace b9:=HS.back Z V b9;replace a_:=a_.mono ds;refine zlo ([(⟨36,(0:Int),0,0,(gD a.l b.r.toNat).x⟩:InsT)]:List InsT) b9 V (RL.cs ⟨V,by(dsimp only;omega),by(dsimp only;omega),by(dsimp only;omega),by(dsimp only;omega),by(dsimp only;omega)⟩ RL.nl) V fun oo oE oJ nm g6 e0=>zao 3 a_ e0 (OS.sv g6 e0 (i:=5) V) V V V M fun c5 fd fj n1 bl hm=>?_
    have bl:OS hX (sL c5 ([(⟨36,(0:Int),0,0,(gD a.l b.r.toNat).x⟩:InsT)]:List InsT).length fd) ([(⟨36,(0:Int),0,0,(gD a.l b.r.toNat).x⟩:InsT)]:List InsT) fj:=bl;refine za (sL c5 ([(⟨36,(0:Int),0,0,(gD a.l b.r.toNat).x⟩:InsT)]:List InsT).length fd) (ah 1 V (aj ⟨.inr V,_,V,([(⟨36,(0:Int),0,0,(gD a.l b.r.toNat).x⟩:InsT)]:List InsT),c5,fd,fj,_,(ds),(HS.sub hm (a03 _ _)),bl,V,(fet1 (l:=([]:List InsT)) X)⟩))
   refine aU 1 17 21 [] [(17,(.bool ((gD a.l b.r.toNat).x !=0)))] (Hr_ 1 4 Hn_) Z V V fun _=>zI 1 3 (fun ib=>?_) fun ib=>?_
   ·refine ab (aY 4 0 22 25 [] [(22,(sL none 0 0)),(23,(iI 0)),(25,(iI (gD a.l b.r.toNat).x))] (Hr_ 3 4 Hn_) Z V V fun _=>zc (xa.move_c ex (0) (gD a.l b.r.toNat).x (HS.call Z) M M hT) ?_);rintro _ n2 ⟨oQ,hY,dt,cc,rfl,hQ,hR,hS,hV,hW,rfl⟩;replace cc:=HS.back Z V cc;replace a_:=a_.mono dt;refine zlo ([(⟨10,(0:Int),(gD a.l b.r.toNat).x,0,0⟩:InsT)]:List InsT) cc V (RL.cs ⟨V,by(dsimp only;omega),by(dsimp only;omega),by(dsimp only;omega),by(dsimp only;omega),by(dsimp only;omega)⟩ RL.nl) V fun ot oF oK n3 g7 e1=>zao 3 a_ e1 (OS.sv g7 e1 (i:=5) V) V V V M fun c6 fi f0 n4 bz hn=>?_
    have bz:OS hY (sL c6 ([(⟨10,(0:Int),(gD a.l b.r.toNat).x,0,0⟩:InsT)]:List InsT).length fi) ([(⟨10,(0:Int),(gD a.l b.r.toNat).x,0,0⟩:InsT)]:List InsT) f0:=bz;refine za (sL c6 ([(⟨10,(0:Int),(gD a.l b.r.toNat).x,0,0⟩:InsT)]:List InsT).length fi) (ah 1 V (aj ⟨.inr V,_,V,([(⟨10,(0:Int),(gD a.l b.r.toNat).x,0,0⟩:InsT)]:List InsT),c6,fi,f0,_,(dt),(HS.sub hn (a03 _ _)),bz,V,(fet2 (l:=([]:List InsT)) X X)⟩))
   refine wT 1 [] 6 6 [29] [(6,(sL none 0 0))] V fun _=>aj ⟨.inr V,_,V,([]:List InsT),none,0,[],_,fR,(HS.sub Z (a03 _ _)),a_,V,(fet0 (l:=([]:List InsT)) X M)⟩
  rintro _ mI ⟨o3,aa,ag,an,k6,dn,hl,a9,rfl,ar⟩;have ki:o3.length<=1:=by rw[ar];simp only[a01,a0b];omega
  obtain⟨k8,d1,e2,he,kl⟩:=OS.frz a9 hl (i:=3) V;replace hT:=(hT.mono dn).mono d1;refine zc (put_c ex o3 w (g_ e2 V) he hT (EmO.j0 X) M) ?_;rintro _ n6 ⟨hB,k7,dv,cg,rfl,bk⟩;replace cg:=e2.bO cg;refine ah 1 V (ab (wTo 2 0 [] 90 91 [] [(90,(pT y 0)),(91,(aG [(iI 2),(iI 0),(iI 0),(iI 0),(iI 0)]))] V fun _=>zlo ([(⟨2,0,0,0,0⟩:InsT)]:List InsT) cg V (RL.cs ⟨V,by(dsimp only;omega),by(dsimp only;omega),by(dsimp only;omega),by(dsimp only;omega),by(dsimp only;omega)⟩ RL.nl) V fun ou oG oL oa g8 hp=>?_));obtain⟨lf,d2,e3,hf,kn⟩:=OS.frz g8 hp (i:=4) V;replace hT:=(hT.mono dv).mono d2;refine zc (put_c ex ([(⟨2,0,0,0,0⟩:InsT)]:List InsT) hB (g_ e3 V) hf hT (by(simp only[bk];first|exact(EmO.jm X _ _).j0|exact(EmO.pt _ X).j0)) (by(simp only[bk,cw,d7,a01,a0j,a0b,a05];omega))) ?_;rintro _ ob ⟨hC,k9,g3,ch,rfl,f6⟩;replace ch:=e3.bO ch;refine ah 1 V (aP ⟨.inl V,_,V,hC,_,(fT (fT (fT (fT (dn) d1) dv) d2) g3),(HS.first ch),V,(by(try simp only[f6,bk]);(try rw[h3,av]);(try rw[ar]);unfold fY;(try unfold brnV);(repeat (first|rw[if_pos M]|rw[if_neg M]));(try rfl))⟩)
 refine ab (aY 4 0 12 15 [] [(12,(pT y 0)),(15,(aG [(iI 4),(iI 0),(iI 0),(iI 0),(iI b.t)]))] (Hr_ 2 1 Hn_) T V V fun _=>zlo ([(⟨4,0,0,0,b.t⟩:InsT)]:List InsT) T V (RL.cs ⟨V,by(dsimp only;omega),by(dsimp only;omega),by(dsimp only;omega),by(dsimp only;omega),by(dsimp only;omega)⟩ RL.nl) V fun ov oH oM oc g9 hq=>?_);obtain⟨l0,ef,e4,hg,ko⟩:=OS.frz g9 hq (i:=3) V;replace hT:=hT.mono ef;refine zc (put_c ex ([(⟨4,0,0,0,b.t⟩:InsT)]:List InsT) w (g_ e4 V) hg hT (EmO.j0 X) (by(simp only[true_and,cw,d7,a01,a0j,a0b,a05];omega))) ?_;rintro _ oh ⟨hD,lr,g4,ci,rfl,f7⟩;replace ci:=e4.bO ci;refine ah 1 V (aP ⟨.inl V,_,V,hD,_,(fT (ef) g4),(HS.first ci),V,(by(try simp only[f7]);(try rw[h3,av]);(try rw[ar]);unfold fY;(try unfold brnV);(repeat (first|rw[if_pos M]|rw[if_neg M]));(try rfl))⟩)
theorem fun_c{y:Nat}{a7:Option Addr}{bz:Nat}(c:VFnT){b5:Option Addr}{ci:Nat}{b4:Option Addr}{ch:Nat}(a:AllT)(w:EmW)(hs:HS (.of H ((psM y w).map Prod.fst)) F H [(psM y w)] R)(oT:in64 c.m)(oU:in64 c.r)(bb:SR F (sL a7 c.u.length bz) c.u)(aw:SR F (sL b4 a.l.length ch) a.l)(ax:SR F (sL b5 a.p.length ci) a.p)(oR:in64 a.k)(hT:TB 37 tabC F)(hO:EmO w.s)(hb:w.s.l.length<=100000000)(hv:ca c=true)(hl:(a.l.length:Int)=c.r)(mo: ∀j,(c.u.getD j v_).v.length<=1000):kKt ex 36 [(pT y 0),(aG [(iI c.m),(iI c.r),(sL a7 c.u.length bz)]),(aG [(sL b4 a.l.length ch),(sL b5 a.p.length ci),(iI a.k)])] H fun v H'=> ∃(li:Option Addr) (ly:Nat) (st:List Int) (w':EmW) (F':Fz),Fz.le F F'/\HS (.of H ((psM y w).map Prod.fst)) F' H' [(psM y w')] R/\v=sL li st.length ly/\SR F' (sL li st.length ly) st/\st=(gh c a.l w.s).2/\(w'.s=(gh c a.l w.s).1)/\(EmO w'.s)/\(w'.s.l.length<=w.s.l.length+11003006):=by
 have vF:=e7 hv;have qZ:=vF.nb;have q3:=vF.r;have q0:=vF.m;refine aC Tryz.func36 V V (am 1 V (ab (bd (aR hs V V) V V ?_)));rintro _ H2 _ ⟨b1,rfl,mk,_⟩;refine bd (aR mk V V) V V ?_;rintro _ H4 _ ⟨b3,rfl,mx,_⟩;refine za (sL none 0 0) (ah 2 V ?_);have l8:OS F (sL w.la w.s.l.length w.lk) w.s.l w.lp:=w.lo.lowI;have l9:OS F (sL w.pa w.s.pl.length w.pk) w.s.pl w.pp:=w.po.lowI;have pR:OS F (sL w.ja w.s.js.length w.jk) w.s.js w.jp:=w.jo.lowI;have pO:=w.gs;let a1:Fp:=(fP b1 [(iI c.m),(iI c.r),(sL a7 c.u.length bz)])
 let a2:Fp:=(fP b3 [(sL b4 a.l.length ch),(sL b5 a.p.length ci),(iI a.k)])
 have mI:HS _ _ _ [(fP y [(sL w.la w.s.l.length w.lk),(sL w.pa w.s.pl.length w.pk),(iI w.s.sz),(sL w.ja w.s.js.length w.jk)]),a1,a2,w.jp,w.pp,w.lp] _:=(HS.cut2 (HS.cut2 (HS.cut2 mx (q:=0) V) (q:=0) V) (q:=0) V)
 refine sgr 3 15 17 [] [] (Hr_ 3 0 Hn_) mI V V fun pN H9 m0=>?_
 have h3:=HS.snoc m0;obtain⟨kl,hD,h4⟩:=ex_eq (P:=fun w9=>HS (Base.of H ((psM y w).map Prod.fst)) F H9 [(psM y w9),a1,a2,w.jp,[],[],[]] R) (⟨⟨w.s.l,w.s.pl,w.s.sz,([]:List JmpT)⟩,w.la,w.lk,w.lp,w.pa,w.pk,w.pp,none,0,[],OS.lowI (l8),OS.lowI (l9),OS.lowI ((OS.nil:OS F (sL none 0 0) ([]:List JmpT) [])),by(dsimp only;omega)⟩:EmW) (HS.join2 (HS.join2 (HS.join2 h3 (q:=0) (i:=5) e_ V V) (q:=0) (i:=4) e_ V V) (q:=0) (i:=6) e_ V V);have N:=congrArg (·.s) hD;let c6:=(psM y w).map Prod.fst;refine wT 2 [] 1 0 [7] [(7,(iI 0))] V fun _=>ak (fun(mm:Nat) f H'=> ∃(k:Nat) (aa:EmW) (F':Fz),Fz.le F F'/\HS (Base.of H c6) F' H' [(psM y aa),a1,a2,w.jp,[],[],[]] R/\aB f [(0,(pT y 0)),(4,(pT b1 0)),(5,(pT b3 0)),(7,(iI (k:Int)))]/\mm=c.m.toNat-k/\(aa.s=parE ⟨w.s.l,w.s.pl,w.s.sz,[]⟩ k)/\(EmO aa.s)/\(aa.s.l.length<=w.s.l.length+k)/\(aa.s.js=[])/\(k<=c.m.toNat)) _ ⟨0,kl,_,fR,h4,⟨V,V,V,V,trivial⟩,V,(by simp only[N];rfl),(by simp only[N];exact⟨hO.pl,a0D _,hO.sz0,hO.sz1⟩),(by simp only[N];omega),(by simp only[N]),M⟩ ?_
 rintro o0 pH pf ⟨k,aa,k0,a8,cc,f4,rfl,g1,g2,g3,g4,hk⟩ jq;refine au _ f4 (fun _=>?_);clear f4;replace hT:=hT.mono a8;replace aw:=aw.mono a8;replace ax:=ax.mono a8;replace bb:=bb.mono a8;refine am 2 V (aU 1 18 21 [] [(21,(.bool (decide ((k:Int)<c.m))))] (Hr_ 2 1 Hn_) cc V V fun _=>zd 3 5 (fun k8=>?_) fun k8=>?_)
 ·refine ab (wTo 3 0 [] 24 26 [] [(24,(pT y 0)),(25,(iI (k:Int))),(26,(iI (k:Int)))] V fun _=>zc (xa.kI ex (k:Int) (k:Int) (HS.call cc) M M hT) ?_);rintro _ pg ⟨p2,o4,e8,dt,rfl,kp,kr,kx,ky,kz,rfl⟩;replace dt:=HS.back cc V dt;refine zlo ([(⟨37,(k:Int),0,0,(k:Int)⟩:InsT)]:List InsT) dt V (RL.cs ⟨V,by(dsimp only;omega),by(dsimp only;omega),by(dsimp only;omega),by(dsimp only;omega),by(dsimp only;omega)⟩ RL.nl) V fun pD pV pX ph hR h5=>?_
  obtain⟨o6,fd,f8,h0,oV⟩:=OS.frz hR h5 (i:=7) V;replace hT:=(hT.mono e8).mono fd;refine zc (put_c ex ([(⟨37,(k:Int),0,0,(k:Int)⟩:InsT)]:List InsT) aa (g_ f8 V) h0 hT (EmO.j0 X) (by(simp only[N,cw,d7,a01,a0j,a0b,a05];omega))) ?_;rintro _ pi ⟨kg,o5,hM,dv,rfl,c7⟩;replace dv:=f8.bO dv;refine ah 2 V (wU 1 [] 22 23 [7] [(7,(iI ((k:Int)+1)))] (vi (n:=(k:Int)+1)) V fun _=>?_);refine jq _ _ _ ?_ ⟨k+1,kg,_,(fT (fT (fT (a8) e8) fd) hM),(HS.sub dv (a03 _ _)),⟨V,V,V,V,trivial⟩,V,(by simp only[c7,N,g1];rfl),(by simp only[c7,N];exact EmO.pt _ X),(by simp only[c7,N,cw,a0j];omega),(by simp only[c7,N,put_js];assumption),M⟩;omega
 refine wT 3 [] 1 0 [8] [(8,(sL none 0 0))] V fun _=>aU 2 30 33 [] [(31,(sL a7 c.u.length bz)),(32,(iI (c.u.length:Int))),(33,(iI 0))] (Hr_ 1 1 Hn_) cc V V fun _=>?_
 have h6:=HS.snoc cc;refine ak (fun(mm:Nat) f H'=> ∃(st:List Int) (k:Nat) (an:Option Addr) (ap:Nat) (aq:Fp) (E:EmW) (F':Fz),Fz.le k0 F'/\HS (Base.of H c6) F' H' [(psM y E),a1,a2,w.jp,[],[],[],aq] R/\OS F' (sL an st.length ap) st aq/\aB f [(0,(pT y 0)),(5,(pT b3 0)),(8,(sL an st.length ap)),(31,(sL a7 c.u.length bz)),(32,(iI (c.u.length:Int))),(33,(iI (k:Int)))]/\mm=c.u.length-k/\(kt a.l (c.u.drop k) (k:Int) (E.s,st)=(gi c a.l w.s))/\(EmO E.s)/\(E.s.l.length<=w.s.l.length+6+k *11003)/\(JsO E.s (c.u.length:Int))/\(st.length=k)/\(k<=c.u.length)) _ ⟨([]:List Int),0,none,0,[],aa,_,fR,h6,(OS.nil:OS _ (sL none 0 0) ([]:List Int) []),⟨V,V,V,V,V,V,trivial⟩,V,(by rw[g1,show k=c.m.toNat by omega];rfl),X,M,(fun j hj=>by(rw[g4]at hj;cases hj)),m_,M⟩ ?_;rintro o1 pI pj ⟨st,k,an,ap,aq,E,a4,a9,dd,av,f5,rfl,e1,e2,e3,e4,e5,bk⟩ jw;refine au _ f5 (fun _=>?_);clear f5;replace hT:=hT.mono a9;replace aw:=aw.mono a9;replace ax:=ax.mono a9;replace bb:=bb.mono a9;obtain⟨wk,k7⟩: ∃x,x=E.s:=⟨_,V⟩
 have q4:wk.l.length=E.s.l.length:=by rw[k7]
 have qX:=mo k;have q2:=e2.sz1;have q1:=e2.sz0;refine am 1 V (wT 2 [] 34 34 [] [(34,(.bool (decide ((k:Int)<(c.u.length:Int)))))] V fun _=>zd 4 6 (fun k9=>?_) fun k9=>?_)
 ·have lx:k<c.u.length:=M
  refine ab ?_;obtain⟨ar,g9⟩:=Sv.view (SR.sv bb dd);obtain⟨n4,n6,oa,ob,a5⟩:=BlkT.fx (g9 k);let hr:=(gD c.u k).f;let ht:=(gD c.u k).r;let hu:=(gD c.u k).t;let hw:=(gD c.u k).e;refine bL 3 0 35 37 [] [(35,(iI (k:Int))),(37,(aG [(sL (cA (ar k) 0) (gD c.u k).v.length (cK (ar k) 0)),(iI hr),(iI ht),(iI hu),(iI hw)]))] (Ha_ (Sv.ix (j:=(k:Int)) (SR.sv bb dd)) (Hl_ 2 (qn 82 0 5 (BlkT.vw (g9 k)) V V V V) Hn_)) (by kernel_rfl) V fun _=>zn dd V fun hH pm h7=>sgo 2 4 1 0 [9] [(9,(iI (k:Int)))] (Hr_ 5 8 Hn_) h7 V V fun oK pn ib=>ah 2 V ?_
  have hS:OS a4 (sL E.la E.s.l.length E.lk) E.s.l E.lp:=E.lo.lowI;have hV:OS a4 (sL E.pa E.s.pl.length E.pk) E.s.pl E.pp:=E.po.lowI;have hW:OS a4 (sL E.ja E.s.js.length E.jk) E.s.js E.jp:=E.jo.lowI;have oO:=E.gs;let hz:Fp:=(fP hH [(sL (cA (ar k) 0) (c.u.getD k v_).v.length (cK (ar k) 0)),(iI hr),(iI ht),(iI hu),(iI hw)])
  have go:HS _ _ _ [(fP y [(sL E.la E.s.l.length E.lk),(sL E.pa E.s.pl.length E.pk),(iI E.s.sz),(sL E.ja E.s.js.length E.jk)]),a1,a2,w.jp,[],[],[],aq,hz,E.jp,E.pp,E.lp] _:=(HS.cut2 (HS.cut2 (HS.cut2 ib (q:=0) V) (q:=0) V) (q:=0) V)
  refine ab (aY 5 0 38 42 [] [(38,(sL an st.length ap)),(42,(iI E.s.sz))] (Hr_ 4 0 Hn_) go V V fun _=>zlo ([E.s.sz]:List Int) go V (RL.cs ⟨V,by omega⟩ RL.nl) V fun pE pW hJ pq hX g5=>zao 7 av g5 (OS.sv hX g5 (i:=12) V) V V V M fun e0 hm hn k4 b7 ih=>za (sL e0 (st++([E.s.sz]:List Int)).length hm) (ah 3 V ?_));obtain⟨kn,hE,g6⟩:=ex_eq (P:=fun w9=>HS (Base.of H c6) a4 k4 [(psM y w9),a1,a2,w.jp,[],[],[],hn,hz,[],[],[],hJ] R) (⟨⟨E.s.l,E.s.pl,E.s.sz,E.s.js⟩,E.la,E.lk,E.lp,E.pa,E.pk,E.pp,E.ja,E.jk,E.jp,OS.lowI (hS),OS.lowI (hV),OS.lowI (hW),by(dsimp only;omega)⟩:EmW) (HS.join2 (HS.join2 (HS.join2 ih (q:=0) (i:=11) e_ V V) (q:=0) (i:=10) e_ V V) (q:=0) (i:=9) e_ V V);have T:=congrArg (·.s) hE;refine aU 2 45 48 [] [(46,(sL (cA (ar k) 0) (c.u.getD k v_).v.length (cK (ar k) 0))),(47,(iI ((c.u.getD k v_).v.length:Int))),(48,(iI 0))] (Hr_ 1 8 Hn_) g6 V V fun _=>ak (fun(mm:Nat) f H'=> ∃(i:Nat) (ag:EmW) (F':Fz),Fz.le a4 F'/\HS (Base.of H c6) F' H' [(psM y ag),a1,a2,w.jp,[],[],[],hn,hz,[],[],[],hJ] R/\aB f [(0,(pT y 0)),(5,(pT b3 0)),(8,(sL e0 (st++([E.s.sz]:List Int)).length hm)),(9,(iI (k:Int))),(10,(pT hH 0)),(31,(sL a7 c.u.length bz)),(32,(iI (c.u.length:Int))),(33,(iI (k:Int))),(46,(sL (cA (ar k) 0) (c.u.getD k v_).v.length (cK (ar k) 0))),(47,(iI ((c.u.getD k v_).v.length:Int))),(48,(iI (i:Int)))]/\mm=(c.u.getD k v_).v.length-i/\(jD a.l ag.s ((c.u.getD k v_).v.drop i)=jD a.l wk (c.u.getD k v_).v)/\(EmO ag.s)/\(ag.s.l.length<=wk.l.length+i *11)/\(JsO ag.s (c.u.length:Int))/\(i<=(c.u.getD k v_).v.length)) _ ⟨0,kn,_,fR,g6,⟨V,V,V,V,V,V,V,V,V,V,V,trivial⟩,V,(by simp only[T,N];rw[k7];rfl),(by simp only[T,N];exact e2),(by simp only[T,N];omega),(by simp only[T,N];exact e4),M⟩ ?_
  rintro o2 pJ pu ⟨i,ag,o7,a3,bl,f6,rfl,i1,i2,i3,i4,ik⟩ ka;refine au _ f6 (fun _=>?_);clear f6;replace hT:=hT.mono a3;replace aw:=aw.mono a3;replace ax:=ax.mono a3;replace b7:=b7.mono a3;replace a5:=a5.mono a3;refine am 1 V (wT 2 [] 49 49 [] [(49,(.bool (decide ((i:Int)<((c.u.getD k v_).v.length:Int)))))] V fun _=>zd 4 4 (fun lr=>?_) fun lr=>?_)
  ·have qb:=(bF (vF.v k lx i (by show i<(c.u.getD k v_).v.length;omega))).2.2;have qW:=exp_len (v:=(c.u.getD k v_).v.getD i v_) (l:=a.l);have oY:((c.u.getD k v_).v.getD i v_).args.length<=6:=qb;refine ab ?_;obtain⟨e6,ha⟩:=Sv.view (SR.sv a5 bl);obtain⟨oc,oh,ol,oo,ot,hG⟩:=VInT.fx (ha i);let hL:Value:=(aG [(iI ((c.u.getD k v_).v.getD i v_).i.op),(iI ((c.u.getD k v_).v.getD i v_).i.a),(iI ((c.u.getD k v_).v.getD i v_).i.b),(iI ((c.u.getD k v_).v.getD i v_).i.c),(iI ((c.u.getD k v_).v.getD i v_).i.n),(sL (cA (e6 i) 5) ((c.u.getD k v_).v.getD i v_).args.length (cK (e6 i) 5))])
   refine bL 2 0 50 51 [] [(51,hL)] (Ha_ (Sv.ix (j:=(i:Int)) (SR.sv a5 bl)) (Hl_ 1 (qn 88 0 6 (VInT.vw (ha i)) V V V V) Hn_)) (by kernel_rfl) V fun _=>zn bl V fun pF pw il=>sgo 1 3 1 0 [] [] (Hr_ 3 13 Hn_) il V V fun oL px d1=>ah 1 V (ab (aY 3 0 52 54 [] [(52,(pT y 0)),(53,hL),(54,(aG [(sL b4 a.l.length ch),(sL b5 a.p.length ci),(iI a.k)]))] (Hr_ 1 13 (Hr_ 2 2 Hn_)) d1 V V fun _=>?_))
   refine zc (xa.expand_c ex ((c.u.getD k v_).v.getD i v_) a (HS.call d1) M M M M M hG aw ax M hT M) ?_;rintro _ py ⟨oz,oZ,p0,pY,o8,fi,d2,rfl,hC,rfl⟩;replace d2:=HS.back d1 V d2;obtain⟨pc,f0,g7,h1,oW⟩:=OS.frz hC d2 (i:=14) V;replace hT:=(hT.mono fi).mono f0;refine zc (put_c ex (lq ((c.u.getD k v_).v.getD i v_) a.l) ag (g_ g7 V) h1 hT (EmO.j0 X) M) ?_;rintro _ pz ⟨ki,o9,hP,ef,rfl,c8⟩;replace ef:=g7.bO ef;refine ah 2 V (wU 1 [] 48 48 [57] [(48,(iI ((i:Int)+1)))] (vi (n:=(i:Int)+1)) V fun _=>?_);refine ka _ _ _ ?_ ⟨i+1,ki,_,(fT (fT (fT (a3) fi) f0) hP),(HS.sub ef (a03 _ _)),⟨V,V,V,V,V,V,V,V,V,V,V,trivial⟩,V,(ins_go i1 M (by simp only[c8,T,N])),(by simp only[c8,T,N];exact EmO.pt _ X),(by simp only[c8,T,N,cw];omega),(by simp only[c8,T,N];exact JsO.pt X _),M⟩;omega
  have nm:=ins_end i1 M;refine ab (aY 5 0 58 62 [] [(58,(pT y 0)),(59,(aG [(sL (cA (ar k) 0) (c.u.getD k v_).v.length (cK (ar k) 0)),(iI hr),(iI ht),(iI hu),(iI hw)])),(60,(aG [(sL b4 a.l.length ch),(sL b5 a.p.length ci),(iI a.k)])),(62,(iI ((k:Int)+1)))] (Hr_ 1 8 (Hr_ 2 2 (Ha_ (vi (n:=(k:Int)+1)) Hn_))) bl V V fun _=>zc (trm_c ex (c.u.getD k v_) a ((k:Int)+1) ag (g_ bl V) a5 M M M M aw ax M M hT X M (fun h=>(by have h9:=vF.f k lx h;have h8:0<=(c.u.getD k v_).r/\(c.u.getD k v_).r<c.r:=h9;omega))) ?_);rintro _ pA ⟨kk,pd,f3,et,rfl,c9⟩;replace et:=bl.bO et;replace b7:=b7.mono f3;refine ah 2 V (wU 1 [] 33 33 [64] [(33,(iI ((k:Int)+1)))] (vi (n:=(k:Int)+1)) V fun _=>?_);refine jw _ _ _ ?_ ⟨st++([E.s.sz]:List Int),k+1,e0,hm,hn,kk,_,(fT (fT (a9) a3) f3),(HS.sub et (a03 _ _)),b7,⟨V,V,V,V,V,V,trivial⟩,V,(blk_go e1 M (by simp only[c9,T,N,nm,k7])),(by simp only[c9,T,N];exact EmO.tr X _ _ _),(by simp only[c9,T,N];refine a0e (trm_len _ _ _ _) ?_;omega),(by simp only[c9,T,N];exact JsO.tr X (tg_of vF M) _ _),(by rw[a01,a0j,e5]),M⟩;omega
 have he:=gy e1 M;have co:E.s=(gi c a.l w.s).1:=congrArg Prod.fst he;have hI:st=(gi c a.l w.s).2:=congrArg Prod.snd he;have qa:=fun(j:Nat) (h:j<E.s.js.length)=>js_at e4 (k:=j) h
 have hY:OS a4 (sL E.la E.s.l.length E.lk) E.s.l E.lp:=E.lo.lowI;have b8:OS a4 (sL E.pa E.s.pl.length E.pk) E.s.pl E.pp:=E.po.lowI;have b9:OS a4 (sL E.ja E.s.js.length E.jk) E.s.js E.jp:=E.jo.lowI;have oP:=E.gs;have g8:HS _ _ _ [(fP y [(sL E.la E.s.l.length E.lk),(sL E.pa E.s.pl.length E.pk),(iI E.s.sz),(sL E.ja E.s.js.length E.jk)]),a1,a2,w.jp,[],[],[],aq,E.jp,E.pp,E.lp] _:=(HS.cut2 (HS.cut2 (HS.cut2 dd (q:=0) V) (q:=0) V) (q:=0) V)
 refine aU 2 65 70 [] [(68,(sL E.ja E.s.js.length E.jk)),(69,(iI (E.s.js.length:Int))),(70,(iI 0))] (Hr_ 3 0 Hn_) g8 V V fun _=>ak (fun(mm:Nat) f H'=> ∃(lf:List InsT) (j:Nat) (Z:Fp) (U:Option Addr) (a_:Nat) (F':Fz),Fz.le a4 F'/\HS (Base.of H c6) F' H' [(fP y [(sL U lf.length a_),(sL E.pa E.s.pl.length E.pk),(iI E.s.sz),(sL E.ja E.s.js.length E.jk)]),a1,a2,w.jp,[],[],[],aq,E.jp,E.pp,Z] R/\OS F' (sL U lf.length a_) lf Z/\aB f [(0,(pT y 0)),(8,(sL an st.length ap)),(68,(sL E.ja E.s.js.length E.jk)),(69,(iI (E.s.js.length:Int))),(70,(iI (j:Int)))]/\mm=(gi c a.l w.s).1.js.length-j/\(jF (gi c a.l w.s).2 (gi c a.l w.s).1.pl lf ((gi c a.l w.s).1.js.drop j)=(gh c a.l w.s).1.l)/\(lf.length=(gi c a.l w.s).1.l.length)/\(j<=(gi c a.l w.s).1.js.length)) _ ⟨E.s.l,0,E.lp,E.la,E.lk,_,fR,g8,hY,⟨V,V,V,V,V,trivial⟩,V,(by rw[co];rfl),(by rw[co]),M⟩ ?_
 rintro o3 pK k5 ⟨lf,j,Z,U,a_,k3,b6,dk,aA,f7,rfl,f1,f2,fj⟩ kc;refine au _ f7 (fun _=>?_);clear f7;replace b8:=b8.mono b6;replace b9:=b9.mono b6;replace av:=av.mono b6;have l5:=congrArg (fun s=>s.js.length) co;have l7:=congrArg (fun s=>s.l.length) co;have pP:=e2.pl;have pQ:=e2.js
 (try dsimp only at l5 l7)
 refine am 1 V (wT 2 [] 71 71 [] [(71,(.bool (decide ((j:Int)<(E.s.js.length:Int)))))] V fun _=>zd 4 5 (fun l0=>?_) fun l0=>?_)
 ·have qY:=qa j M;refine ab ?_;obtain⟨oD,hf⟩:=Sv.view (OS.sv b9 dk (i:=8) V);obtain⟨ou,ov⟩:=JmpT.fx (hf j);let ez:=(E.s.js.getD j v_).to;refine bL 2 0 72 73 [] [(73,(aG [(iI (E.s.js.getD j v_).at_),(iI ez)]))] (Ha_ (Sv.ix (j:=(j:Int)) (OS.sv b9 dk (i:=8) V)) (Hl_ 1 (qn 145 0 2 (JmpT.vw (hf j)) V V V V) Hn_)) (by kernel_rfl) V fun _=>zn dk V fun pG pB it=>sgo 1 3 1 0 [] [] (Hr_ 3 11 Hn_) it V V fun oM pC ay=>ah 1 V (aL V ?_)
  obtain⟨oE,hg⟩:=Sv.view (OS.sv av ay (i:=7) V);have pL:=fI (hg (ez.toNat));obtain⟨oF,hh⟩:=Sv.view (OS.sv b8 ay (i:=9) V);let c5:=(E.s.js.getD j v_).at_.toNat;have pM:=fI (hh c5);let hq:=(st.getD (ez.toNat) 0)-(E.s.pl.getD c5 0)
  let b2:=lf.getD c5 v_;refine eO 22 74 95 [] [(93,(iI (IntKind.i64.wrap hq))),(95,(.pointer (some ⟨sB (sL U lf.length a_),sO (sL U lf.length a_)+c5 *Rp.sz InsT+4,none⟩)))] (Hr_ 3 0 (Hr_ 5 11 (Hr_ 8 11 (Ha_ (Sv.ix (j:=(E.s.js.getD j v_).to) (OS.sv av ay (i:=7) V)) (Hl_ 10 (ql 3 0 (hc0 (vI (hg (ez.toNat)))) V V) (Hr_ 14 0 (Hr_ 16 11 (Ha_ (Sv.ix (j:=(E.s.js.getD j v_).at_) (OS.sv b8 ay (i:=9) V)) (Hl_ 18 (ql 3 0 (hc0 (vI (hh c5))) V V) (Hw_ 19 (.w) (Ha_ (Sv.ix (j:=(E.s.js.getD j v_).at_) (OS.sv aA ay (i:=10) V)) Hn_))))))))))) ay V V fun _=>gP (id:= .x (Z.map Prod.fst)) (dm (α:=InsT) (j:=(E.s.js.getD j v_).at_.toNat) (off:=4) (q:=10) (⟨b2.op,b2.a,b2.b,b2.c,IntKind.i64.wrap hq⟩:InsT) aA ay.log0 V V V V V V V V (bg (x:=v_) M) V (by rintro cs ⟨rfl,nx,n1,n2,n3,pZ⟩;exact⟨a0a V,⟨V,nx,n1,n2,n3,by exact w64_in _⟩⟩)) V (by rintro _ _ hK ⟨ds,_,hwr⟩;exact dC V V (Wr.did hwr)) (kb V) ?_
  rintro _ k6 hK ⟨ds,dl,_⟩ kd hB;replace dl:=HS.lg dl ay hB;generalize ({k6 with log:=kd}:Heap)=ox at dl⊢;have ow:=OS.len' ds;refine bC 2 V (wU 1 [] 70 70 [96] [(70,(iI ((j:Int)+1)))] (vi (n:=(j:Int)+1)) V fun _=>?_);refine kc _ _ _ ?_ ⟨lf.set c5 (⟨b2.op,b2.a,b2.b,b2.c,IntKind.i64.wrap hq⟩:InsT),j+1,hK,U,a_,_,(b6),(by(simpa only[a0h] using(HS.sub dl (a03 _ _)))),(OS.norm ds),⟨V,V,V,V,V,trivial⟩,V,(fix_go f1 M (by rw[←co,←hI];rfl)),(by rw[a0h];exact f2),M⟩;omega
 refine wT 1 [] 6 6 [97] [(6,(sL an st.length ap))] V fun _=>?_
 obtain⟨ko,hF,iz⟩:=ex_eq (P:=fun w9=>HS (Base.of H c6) k3 k5 [(psM y w9),a1,a2,w.jp,[],[],[],aq,[],[],[]] R) (⟨⟨lf,E.s.pl,E.s.sz,E.s.js⟩,U,a_,Z,E.pa,E.pk,E.pp,E.ja,E.jk,E.jp,OS.lowI (aA),OS.lowI (b8),OS.lowI (b9),by(dsimp only;omega)⟩:EmW) (HS.join2 (HS.join2 (HS.join2 dk (q:=0) (i:=10) e_ V V) (q:=0) (i:=9) e_ V V) (q:=0) (i:=8) e_ V V);have cg:=congrArg (·.s) hF;obtain⟨pe,hQ,jb,h2,oX⟩:=OS.frz av iz (i:=7) V;refine aj ⟨.inr V,_,V,an,ap,st,ko,_,(fT (fT (fT (a8) a9) b6) hQ),(HS.first jb),V,h2,(hI),(by simp only[cg,N];have f9:=fix_end f1 M;rw[f9,co];rfl),(by simp only[cg,N];have pS:=e2.sz0;have pU:=e2.sz1;exact⟨by(try dsimp only);omega,by(try dsimp only);omega,by(try dsimp only);omega,by(try dsimp only);omega⟩),(by simp only[cg,N];(try dsimp only);omega)⟩
end ec
open ec
namespace eg
open Go.R m1 m2 m3 m4 m5 m6 ma ml mb mc md mf mg mh mi mj na nb nc ni nv m7 xa ej ea eb
structure EmA where
 s:EmS
 en:List Int
 pr:List Int
 sl:List Int
 ad:List (List Int)
def emS(l:List VFnT)(a:List AllT):Nat->EmA
 |0=>⟨⟨[],[],0,[]⟩,[],[],[],[]⟩
 |k+1=>⟨(gh (l.getD k v_) (a.getD k v_).l (emS l a k).s).1,(emS l a k).en++[(emS l a k).s.sz],(emS l a k).pr++[(l.getD k v_).m],(emS l a k).sl++[(a.getD k v_).k],(emS l a k).ad++[(gh (l.getD k v_) (a.getD k v_).l (emS l a k).s).2]⟩
structure emC(l:List VFnT)(a:List AllT)(lens:List Int):Prop where
 vp:vpV l lens=true
 len:a.length=l.length
 snd: ∀k,k<l.length->SndP (l.getD k v_) (a.getD k v_)
def emV(l:List VFnT)(a:List AllT)(lens:List Int):BinT×List (List Int)×Int:=if bP (emC l a lens)=true then(⟨eC (emS l a l.length).s.l,(emS l a l.length).en,(emS l a l.length).pr,(emS l a l.length).sl,lens⟩,(emS l a l.length).ad,0) else(⟨[],[],[],[],[]⟩,[],1)
theorem emV_n{l:List VFnT}{a:List AllT}{lens:List Int}(h: ¬emC l a lens):emV l a lens=(⟨[],[],[],[],[]⟩,[],1):=by unfold emV;rw[←bP_n h];rfl
theorem emV_y{l:List VFnT}{a:List AllT}{lens:List Int}(h:emC l a lens):emV l a lens=(⟨eC (emS l a l.length).s.l,(emS l a l.length).en,(emS l a l.length).pr,(emS l a l.length).sl,lens⟩,(emS l a l.length).ad,0):=by unfold emV;rw[←bP_y h];rfl
structure OkE(l:List VFnT)(a:List AllT):Prop where
 vld: ∀i∈(emS l a l.length).s.l,VldI i
 sz:(emS l a l.length).s.sz<=60000
theorem vp_imp{l:List VFnT}{lens:List Int}(h:vpV l lens=true):(1<=l.length/\l.length<=8/\lens.length<=4)/\∀k,k<l.length->ca (l.getD k v_)=true:=by unfold vpV at h;simp only[a09,decide_eq_true_eq]at h;refine⟨h.1.1,fun k E=>?_⟩;have:=lH h.2 E;unfold vpF at this;rw[a09]at this;exact this.1
theorem vld_at{l:List InsT}(h: ∀i∈l,VldI i){k:Nat}(E:k<l.length):VldI (l.getD k v_):=by rw[a02,a06 E];exact h _ (a10 E)
def ee(l:List InsT):Int:=(l.map wdI).sum
theorem gk(l m:List InsT):ee (l++m)=ee l+ee m:=by unfold ee;rw[a12,List.sum_append]
theorem enc_len: ∀{l:List InsT},(∀i∈l,VldI i)->((eC l).length:Int)=ee l
 | [],_=>rfl
 |i::l,h=>by
  have E:=enc_len (l:=l) fun j T=>h j (a0f _ T)
  have N:=en_len (h i (a0n ..));rw[show eC (i::l)=enW i++eC l from V,a01,show ee (i::l)=wdI i+ee l from by unfold ee;rw[a1K,a29]];unfold wdI;omega
structure ShE(A:List InsT)(Q:List Int)(z:Int)(x y:EmS):Prop where
 l:x.l=A++y.l
 pl:x.pl=Q++y.pl
 sz:x.sz=y.sz
 js:x.js=y.js.map fun j=>⟨j.at_+(A.length:Int),j.to⟩
 q:Q.length=A.length
 yl:y.pl.length=y.l.length
 j0: ∀j∈y.js,0<=j.at_
 sm:y.sz=z+ee y.l
theorem ShE.p1{A:List InsT}{Q:List Int}{z:Int}{x y:EmS}(h:ShE A Q z x y)(i:InsT):ShE A Q z (put1 x i) (put1 y i):=by
 refine⟨?_,?_,?_,h.js,h.q,?_,h.j0,?_⟩
 ·show x.l++[i]=A++(y.l++[i]);rw[h.l,a0l]
 ·show x.pl++[x.sz]=Q++(y.pl++[y.sz]);rw[h.pl,h.sz,a0l]
 ·show x.sz+wdI i=y.sz+wdI i;rw[h.sz]
 ·show(y.pl++[y.sz]).length=(y.l++[i]).length;rw[a01,a01,h.yl];rfl
 show y.sz+wdI i=z+ee (y.l++[i]);rw[gk,h.sm];unfold ee;simp only[a1K,List.map_nil,a29,List.sum_nil];omega
theorem ShE.pt{A:List InsT}{Q:List Int}{z:Int}: ∀(l:List InsT) {x y:EmS},ShE A Q z x y->ShE A Q z (eS x l) (eS y l)
 | [],_,_,h=>h
 |i::l,_,_,h=>ShE.pt l (h.p1 i)
theorem ShE.jm{A:List InsT}{Q:List Int}{z:Int}{x y:EmS}(h:ShE A Q z x y)(i:InsT)(b:Int):ShE A Q z (lj x i b) (lj y i b):=by
 unfold lj;refine ShE.pt _ ⟨h.l,h.pl,h.sz,?_,h.q,h.yl,?_,h.sm⟩
 ·show x.js++[_]=(y.js++[_]).map _;rw[a12,h.js,h.l,a01];congr 1;simp only[a1K,List.map_nil,a2r,and_true];rw[Int.natCast_add,Int.add_comm]
 intro j E;rcases a07.1 E with E|E
 ·exact h.j0 j E
 rw[a08]at E;subst E;exact a1E _
theorem ShE.tr{A:List InsT}{Q:List Int}{z:Int}{x y:EmS}(h:ShE A Q z x y)(b:BlkT)(ll:List LocT)(E:Int):ShE A Q z (fY x b ll E) (fY y b ll E):=by
 unfold fY;split
 ·split
  ·exact h
  exact h.jm _ _
 split
 ·unfold brnV;split
  ·exact(h.pt _).jm _ _
  split
  ·exact(h.pt _).jm _ _
  exact((h.pt _).jm _ _).jm _ _
 split
 ·exact(h.pt _).pt _
 exact h.pt _
theorem ShE.v{A:List InsT}{Q:List Int}{z:Int}(ll:List LocT): ∀(l:List VInT) {x y:EmS},ShE A Q z x y->ShE A Q z (jD ll x l) (jD ll y l)
 | [],_,_,h=>h
 |_::l,_,_,h=>ShE.v ll l (h.pt _)
theorem ShE.par{A:List InsT}{Q:List Int}{z:Int}{x y:EmS}(h:ShE A Q z x y): ∀n,ShE A Q z (parE x n) (parE y n)
 |0=>h
 |n+1=>(ShE.par h n).pt _
theorem ShE.blk{A:List InsT}{Q:List Int}{z:Int}(ll:List LocT): ∀(bs:List BlkT) (k:Int) {x y:EmS} (st:List Int),ShE A Q z x y->ShE A Q z (kt ll bs k (x,st)).1 (kt ll bs k (y,st)).1/\(kt ll bs k (x,st)).2=(kt ll bs k (y,st)).2
 | [],_,_,_,_,h=>⟨h,V⟩
 |b::bs,k,x,y,st,h=>by
  have N:=ShE.blk ll bs (k+1) (st++[x.sz]) ((h.v ll b.v).tr b ll (k+1));have e:x.sz=y.sz:=h.sz;refine⟨?_,?_⟩
  ·have E:=N.1;unfold kt;rw[e]at E⊢;exact E
  have E:=N.2;unfold kt;rw[e]at E⊢;exact E
theorem fixJ_sh{st Q pl:List Int}{A l:List InsT}{j:JmpT}(U:0<=j.at_)(T:Q.length=A.length):fixJ st (Q++pl) (A++l) ⟨j.at_+(A.length:Int),j.to⟩=A++fixJ st pl l j:=by
 have e:(j.at_+(A.length:Int)).toNat=A.length+j.at_.toNat:=M
 have E:(A++l).getD (A.length+j.at_.toNat) v_=l.getD j.at_.toNat v_:=by rw[a02,a0U M,a02,a2b]
 have N:(Q++pl).getD (A.length+j.at_.toNat) 0=pl.getD j.at_.toNat 0:=by rw[a02,a0U M,a02,T,a2b]
 unfold fixJ;dsimp only;rw[e,E,N,List.set_append_right _ _ M,a2b]
theorem fixE_sh{st Q pl:List Int}{A:List InsT}(E:Q.length=A.length): ∀(js:List JmpT) (l:List InsT),(∀j∈js,0<=j.at_)->jF st (Q++pl) (A++l) (js.map fun j=>⟨j.at_+(A.length:Int),j.to⟩)=A++jF st pl l js
 | [],_,_=>rfl
 |j::js,l,h=>by show jF st (Q++pl) (fixJ st (Q++pl) (A++l) _) _=A++jF st pl (fixJ st pl l j) js;rw[fixJ_sh (h j (a0n ..)) E];exact fixE_sh E js _ fun j N=>h j (a0f _ N)
theorem fixJ_sum{st pl:List Int}{l:List InsT}{j:JmpT}:(fixJ st pl l j).map InsT.op=l.map InsT.op:=by
 unfold fixJ;apply a1o;intro i;rw[a14,a14,a1T];split
 ·rename_i h;subst h;rcases a0g j.at_.toNat l.length with E|E
  ·rw[if_pos E,a02,a06 E];rfl
  rw[if_neg M,a0J E]
 rfl
theorem fixE_op{st pl:List Int}: ∀(js:List JmpT) (l:List InsT),(jF st pl l js).map InsT.op=l.map InsT.op
 | [],_=>rfl
 |j::js,l=>(fixE_op js _).trans fixJ_sum
theorem sum_op{l m:List InsT}(h:l.map InsT.op=m.map InsT.op):ee l=ee m:=by
 have e: ∀l:List InsT,l.map wdI=(l.map InsT.op).map fun o=>(aE o).w:=fun l=>by rw[List.map_map];rfl
 unfold ee;rw[e,e,h]
theorem fun_sh(c:VFnT)(ll:List LocT){s:EmS}(h:s.pl.length=s.l.length):
  (gh c ll s).1.l=s.l++(gh c ll ⟨[],[],s.sz,[]⟩).1.l/\(gh c ll s).1.sz=(gh c ll ⟨[],[],s.sz,[]⟩).1.sz/\(gh c ll s).2=(gh c ll ⟨[],[],s.sz,[]⟩).2/\(gh c ll s).1.pl.length=(gh c ll s).1.l.length/\(gh c ll ⟨[],[],s.sz,[]⟩).1.sz=s.sz+ee (gh c ll ⟨[],[],s.sz,[]⟩).1.l:=by
 have U:ShE s.l s.pl s.sz ⟨s.l,s.pl,s.sz,[]⟩ ⟨[],[],s.sz,[]⟩:=⟨by rw[a0o],by rw[a0o],V,V,h,V,(fun j hj=>nomatch hj),by show s.sz=s.sz+0;omega⟩
 obtain⟨E,a_⟩:=ShE.blk ll c.u 0 [] (U.par c.m.toNat)
 have N:(gi c ll s).2=(gi c ll ⟨[],[],s.sz,[]⟩).2:=a_
 have E:ShE s.l s.pl s.sz (gi c ll s).1 (gi c ll ⟨[],[],s.sz,[]⟩).1:=E
 have T:(gh c ll s).1.l=s.l++(gh c ll ⟨[],[],s.sz,[]⟩).1.l:=by show jF (gi c ll s).2 (gi c ll s).1.pl (gi c ll s).1.l (gi c ll s).1.js=_;rw[E.l,E.pl,E.js,fixE_sh h.symm.symm _ _ E.j0,N];rfl
 have Z: ∀x:EmS,(gh c ll x).1.l.length=(gi c ll x).1.l.length:=fun x=>by have:=congrArg List.length (fixE_op (st:=(gi c ll x).2) (pl:=(gi c ll x).1.pl) (gi c ll x).1.js (gi c ll x).1.l);rwa [a1u,a1u]at this
 refine⟨T,E.sz,N,?_,?_⟩
 ·rw[Z];show(gi c ll s).1.pl.length=_;rw[E.pl,E.l,a01,a01,h,E.yl]
 show(gi c ll ⟨[],[],s.sz,[]⟩).1.sz=s.sz+ee (jF _ _ _ _)
 rw[sum_op (fixE_op _ _)];exact E.sm
theorem mL(l:List VFnT)(a:List AllT): ∀k,(emS l a k).s.pl.length=(emS l a k).s.l.length/\(emS l a k).s.sz=ee (emS l a k).s.l
 |0=>⟨V,V⟩
 |k+1=>by obtain⟨a_,Z⟩:=mL l a k;obtain⟨E,N,_,T,U⟩:=fun_sh (l.getD k v_) (a.getD k v_).l a_;refine⟨T,?_⟩;show(gh _ _ (emS l a k).s).1.sz=ee (gh _ _ (emS l a k).s).1.l;rw[E,N,U,gk,Z]
theorem emS_pre(l:List VFnT)(a:List AllT)(k:Nat): ∀n,∃r,(emS l a (k+n)).s.l=(emS l a k).s.l++r
 |0=>⟨[],(a0o _).symm⟩
 |n+1=>by obtain⟨r,h⟩:=emS_pre l a k n;obtain⟨E,_⟩:=fun_sh (l.getD (k+n) v_) (a.getD (k+n) v_).l (mL l a (k+n)).1;exact⟨r++_,by show(gh (l.getD (k+n) v_) (a.getD (k+n) v_).l (emS l a (k+n)).s).1.l=_;rw[E,h,a0l]⟩
theorem emS_vld{l:List VFnT}{a:List AllT}{k n:Nat}(h: ∀i∈(emS l a n).s.l,VldI i)(E:k<=n): ∀i∈(emS l a k).s.l,VldI i:=fun i hi=>by obtain⟨r,e⟩:=emS_pre l a k (n-k);rw[show k+(n-k)=n by omega]at e;exact h i (by rw[e];exact a1H _ hi)
theorem emS_words{l:List VFnT}{a:List AllT}{k n:Nat}(h: ∀i∈(emS l a n).s.l,VldI i)(E:k<=n):((eC (emS l a k).s.l).length:Int)=(emS l a k).s.sz:=by rw[enc_len (emS_vld h E),(mL l a k).2]
theorem l6(l:List InsT):0<=ee l:=by
 induction l with
 |nil=>exact a1q _
 |cons i l ih=>
  rw[show ee (i::l)=wdI i+ee l from by unfold ee;rw[a1K,a29]]
  have:=fW i
  omega
theorem emS_mono{l:List VFnT}{a:List AllT}{k n:Nat}(E:k<=n):(emS l a k).s.sz<=(emS l a n).s.sz:=by obtain⟨r,e⟩:=emS_pre l a k (n-k);rw[show k+(n-k)=n by omega]at e;rw[(mL l a k).2,(mL l a n).2,e,gk];have:=l6 r;omega
end eg
open eg
namespace eh
variable (ex:FuncId) {F:Fz} {H:Heap} {R:List Fp}
theorem em_0n{l:List VFnT}{a:List AllT}{lens:List Int}(h:((!(vpV l lens))||((a.length:Int) !=(l.length:Int)))=true): ¬emC l a lens:=fun g=>by rw[g.vp,g.len]at h;simp at h
theorem em_0y{l:List VFnT}{a:List AllT}{lens:List Int}(h:((!(vpV l lens))||((a.length:Int) !=(l.length:Int)))=false):vpV l lens=true/\a.length=l.length:=by simp only[a1l,a28,bne_eq_false_iff_eq]at h;exact⟨h.1,by omega⟩
theorem em_sn{p:Prop}(h:(!(bP p))=true): ¬p:=fun g=>by rw[←bP_y g]at h;cases h
theorem em_sy{p:Prop}(h:(!(bP p))=false):p:=bP_iff.1 (by simpa using h)
theorem emit_c{em:Option Addr}{gb:Nat}(l:List VFnT){h9:Option Addr}{ks:Nat}(a:List AllT){a0:Option Addr}{a6:Nat}(lens:List Int)(hs:HS (.of H []) F H [] R)(hl:SR F (sL em l.length gb) l)(ha:SR F (sL h9 a.length ks) a)(ai:SR F (sL a0 lens.length a6) lens)(hT:TB 37 tabC F)(oL:lens.length<=1073741824/\∀k j,((l.getD k v_).u.getD j v_).v.length<=1000)(qR:emC l a lens->OkE l a):kKt ex 13 [(sL em l.length gb),(sL h9 a.length ks),(sL a0 lens.length a6)] H fun v H'=> ∃(b:BinT) (fi:Option Addr) (hm:Nat) (fj:Option Addr) (hn:Nat) (f0:Option Addr) (hp:Nat) (f1:Option Addr) (hr:Nat) (f2:Option Addr) (ht:Nat) (n8:Option Addr) (pZ:Nat) (ad:List (List Int)) (e:Int) (F':Fz),Fz.le F F'/\HS (.of H []) F' H' [] R/\v= .tuple ⟨[.agg ⟨[sL fi b.wd.length hm,sL fj b.en.length hn,sL f0 b.pr.length hp,sL f1 b.sl.length hr,sL f2 b.al.length ht]⟩,sL n8 ad.length pZ,iI e]⟩/\SR F' (sL fi b.wd.length hm) b.wd/\SR F' (sL fj b.en.length hn) b.en/\SR F' (sL f0 b.pr.length hp) b.pr/\SR F' (sL f1 b.sl.length hr) b.sl/\SR F' (sL f2 b.al.length ht) b.al/\SR F' (sL n8 ad.length pZ) ad/\b=(emV l a lens).1/\ad=(emV l a lens).2.1/\e=(emV l a lens).2.2:=by
 have hy:=oL.2;refine aC Tryz.func13 V V (am 1 V (ab (zn hs V fun b1 H2 hV=>wTo 2 1 [] 7 8 [] [(7,(sL none 0 0)),(8,(iI 0))] V fun _=>ah 3 V ?_)));refine sj 1 17 27 [] [(27,(.bool ((!(vpV l lens))||((a.length:Int) !=(l.length:Int)))))] (Hk_ 2 (jc hV fun _ _ j q=>m8.vprog_c ex l lens q (hl.mono j) (ai.mono j) (hT.mono j) (⟨oL.1,fun k j=>a0e (hy k j) M⟩)) Hn_) hV (by kernel_rfl) V fun pJ H4 F4 b9 hW=>?_
 replace hT:=hT.mono b9;replace ha:=ha.mono b9;replace hl:=hl.mono b9;replace ai:=ai.mono b9;refine zi 1 3 (fun e6=>?_) fun e6=>?_
 ·have c5:=e6;try simp only[BS]at c5
  have ao:=em_0n e6;refine sgr 1 7 8 [28] [(7,(sL none 0 0)),(8,(iI 1))] (Hr_ 1 0 Hn_) hW V V fun pK H6 hX=>aj ⟨.inr V,_,(rC V (ldVN V V (h_ hX V) V) (rT V (rT V rN))),(⟨([]:List U32),([]:List Int),([]:List Int),([]:List Int),([]:List Int)⟩:BinT),none,0,none,0,none,0,none,0,none,0,none,0,([]:List (List Int)),1,_,(b9),(HS.forget hX),V,(SR.nil:SR F4 (sL none 0 0) ([]:List U32)),(SR.nil:SR F4 (sL none 0 0) ([]:List Int)),(SR.nil:SR F4 (sL none 0 0) ([]:List Int)),(SR.nil:SR F4 (sL none 0 0) ([]:List Int)),(SR.nil:SR F4 (sL none 0 0) ([]:List Int)),(SR.nil:SR F4 (sL none 0 0) ([]:List (List Int))),(by(rw[emV_n ao];try rfl)),(by(rw[emV_n ao];try rfl)),(by(rw[emV_n ao];try rfl))⟩
 have g9:=em_0y e6;have pb:=vp_imp g9.1;let c7:Fp:=(fP b1 [(sL none 0 0),(sL none 0 0),(sL none 0 0),(sL none 0 0),(sL none 0 0)])
 refine wT 2 [] 29 31 [] [(30,(iI (l.length:Int))),(31,(iI 0))] V fun _=>ak (fun(mm:Nat) f H'=> ∃(k:Nat) (F':Fz),Fz.le F4 F'/\HS (Base.of H []) F' H' [c7] R/\aB f [(0,(sL em l.length gb)),(1,(sL h9 a.length ks)),(2,(sL a0 lens.length a6)),(6,(pT b1 0)),(30,(iI (l.length:Int))),(31,(iI (k:Int)))]/\mm=l.length-k/\(k<=l.length)/\(∀q,q<k->SndP (l.getD q v_) (a.getD q v_))) _ ⟨0,_,fR,hW,⟨V,V,V,V,V,V,trivial⟩,V,M,(fun _ h=>absurd h (a0B _))⟩ ?_
 rintro pU f8 H8 ⟨k,F8,cg,bk,hS,rfl,hk,hY⟩ m0;refine au _ hS (fun _=>?_);clear hS;replace hT:=hT.mono cg;replace ha:=ha.mono cg;replace hl:=hl.mono cg;replace ai:=ai.mono cg;refine am 1 V (wT 2 [] 32 32 [] [(32,(.bool (decide ((k:Int)<(l.length:Int)))))] V fun _=>zd 4 5 (fun mk=>?_) fun mk=>?_)
 ·refine wT 2 [] 33 33 [9] [(9,(iI (k:Int)))] V fun _=>aL V ?_
  obtain⟨f4,he⟩:=Sv.view (SR.sv hl bk);obtain⟨oa,ob,hG⟩:=VFnT.fx (he k);obtain⟨c9,hf⟩:=Sv.view (SR.sv ha bk);obtain⟨oc,hH,hI⟩:=AllT.fx (hf k);refine eO 8 34 41 [] [(37,(aG [(iI (l.getD k v_).m),(iI (l.getD k v_).r),(sL (cA (f4 k) 2) (l.getD k v_).u.length (cK (f4 k) 2))])),(41,(aG [(sL (cA (c9 k) 0) (a.getD k v_).l.length (cK (c9 k) 0)),(sL (cA (c9 k) 1) (a.getD k v_).p.length (cK (c9 k) 1)),(iI (a.getD k v_).k)]))] (Ha_ (Sv.ix (j:=(k:Int)) (SR.sv hl bk)) (Hl_ 3 (qn 36 0 3 (hc0 (VFnT.vw (he k))) V V V V) (Ha_ (Sv.ix (j:=(k:Int)) (SR.sv ha bk)) (Hl_ 7 (qn 32 0 3 (hc0 (AllT.vw (hf k))) V V V V) Hn_)))) bk V V fun _=>ba (W:=[]) (aO V V V) V V V (nv.sound_c ex (l.getD k v_) (a.getD k v_) (HS.call bk.log0) M M hG hH hI M hT (fun j=>a0e (hy k j) M)) (kb V) ?_
  rintro _ l4 ⟨pV,ci,f5,a2,rfl,rfl⟩;refine⟨Wr.did a2.log,fun lf hw=>?_⟩;replace a2:=HS.back bk.log0 V a2;replace a2:=HS.lg a2 bk hw;generalize ({l4 with log:=lf}:Heap)=oD at a2⊢;refine wfv (v:=(.bool (!(bP (SndP (l.getD k v_) (a.getD k v_)))))) (ap_not V) (bC 1 V (zi 1 2 (fun c8=>?_) fun c8=>?_))
  ·have mx:=c8;try simp only[BS]at mx
   have ao: ¬emC l a lens:=fun h=>em_sn c8 (h.snd k M)
   refine sgr 1 7 8 [44] [(7,(sL none 0 0)),(8,(iI 1))] (Hr_ 1 0 Hn_) a2 V V fun oO pf f9=>aj ⟨.inr V,_,(rC V (ldVN V V (h_ f9 V) V) (rT V (rT V rN))),(⟨([]:List U32),([]:List Int),([]:List Int),([]:List Int),([]:List Int)⟩:BinT),none,0,none,0,none,0,none,0,none,0,none,0,([]:List (List Int)),1,_,(fT (fT (b9) cg) f5),(HS.forget f9),V,(SR.nil:SR ci (sL none 0 0) ([]:List U32)),(SR.nil:SR ci (sL none 0 0) ([]:List Int)),(SR.nil:SR ci (sL none 0 0) ([]:List Int)),(SR.nil:SR ci (sL none 0 0) ([]:List Int)),(SR.nil:SR ci (sL none 0 0) ([]:List Int)),(SR.nil:SR ci (sL none 0 0) ([]:List (List Int))),(by(rw[emV_n ao];try rfl)),(by(rw[emV_n ao];try rfl)),(by(rw[emV_n ao];try rfl))⟩
  have qV:SndP (l.getD k v_) (a.getD k v_):=em_sy c8;refine wU 1 [] 31 31 [45] [(31,(iI ((k:Int)+1)))] (vi (n:=(k:Int)+1)) V fun _=>?_
  refine m0 _ _ _ ?_ ⟨k+1,_,(fT (cg) f5),a2,⟨V,V,V,V,V,V,trivial⟩,V,M,(gj hY qV)⟩;omega
 have dv:emC l a lens:=⟨g9.1,g9.2,fun q hq=>hY q M⟩
 have hO:=qR dv;refine ab (wTo 1 0 [] 46 46 [] [(46,(aG [(sL none 0 0),(sL none 0 0),(iI 0),(sL none 0 0)]))] V fun _=>bd (aR bk V V) V V ?_);rintro _ pg _ ⟨bb,rfl,jq,_⟩;refine za (pT bb 0) (ah 2 V (ab (zlo ([]:List Int) jq V RL.nl V fun pC pO pW ph ib go=>zm (sL a0 lens.length a6) (zao 2 ib go (SR.sv ai go) V V V M fun b6 b7 c6 pi a8 jw=>?_))));have a8:OS F8 (sL b6 lens.length b7) lens c6:=a8;refine bL 1 3 51 51 [] [(51,(aG [(sL none 0 0),(sL none 0 0),(sL none 0 0),(sL none 0 0),(sL b6 lens.length b7)]))] Hn_ (by kernel_rfl) V fun _=>zn jw V fun co pj ka=>sgo 1 5 1 0 [] [] (Hr_ 5 3 Hn_) ka V V fun oP l5 kc=>ah 2 V (wT 3 [] 1 0 [12] [(12,(sL none 0 0))] V fun _=>?_)
 have kd:=HS.snoc kc;have kg:=HS.snoc kd;have ki:=HS.snoc kg;obtain⟨l2,hD,kk⟩:=ex_eq (P:=fun w9=>HS (Base.of H []) F8 l5 [c7,(psM bb w9),c6,(fP co [(sL none 0 0),(sL none 0 0),(sL none 0 0),(sL none 0 0),(sL b6 lens.length b7)]),[],[],[]] R) (⟨⟨([]:List InsT),([]:List Int),0,([]:List JmpT)⟩,none,0,[],none,0,[],none,0,[],OS.lowI ((OS.nil:OS F8 (sL none 0 0) ([]:List InsT) [])),OS.lowI ((OS.nil:OS F8 (sL none 0 0) ([]:List Int) [])),OS.lowI ((OS.nil:OS F8 (sL none 0 0) ([]:List JmpT) [])),by(dsimp only;omega)⟩:EmW) (HS.join2 (HS.join2 (HS.join2 ki (q:=1) (i:=4) e_ V V) (q:=1) (i:=5) e_ V V) (q:=1) (i:=6) e_ V V);have ag:=congrArg (·.s) hD;refine wT 2 [] 52 54 [] [(52,(sL em l.length gb)),(53,(iI (l.length:Int))),(54,(iI 0))] V fun _=>?_
 have kl:=HS.snoc kk;have kn:=HS.snoc kl;have ko:=HS.snoc kn;have kp:=HS.snoc ko;refine ak (fun(mm:Nat) f H'=> ∃(en:List Int) (pr:List Int) (sl:List Int) (ad:List (List Int)) (k:Nat) (ar:Option Addr) (aw:Nat) (ax:Fp) (an:Fp) (N:Option Addr) (a_:Nat) (ap:Fp) (T:Option Addr) (Z:Nat) (aq:Fp) (U:Option Addr) (aa:Nat) (E:EmW) (F':Fz),Fz.le F8 F'/\HS (Base.of H []) F' H' [c7,(psM bb E),c6,(fP co [(sL none 0 0),(sL N en.length a_),(sL T pr.length Z),(sL U sl.length aa),(sL b6 lens.length b7)]),[],[],[],ax,an,ap,aq] R/\OS F' (sL ar ad.length aw) ad ax/\OS F' (sL N en.length a_) en an/\OS F' (sL T pr.length Z) pr ap/\OS F' (sL U sl.length aa) sl aq/\aB f [(1,(sL h9 a.length ks)),(6,(pT b1 0)),(10,(pT bb 0)),(11,(pT co 0)),(12,(sL ar ad.length aw)),(52,(sL em l.length gb)),(53,(iI (l.length:Int))),(54,(iI (k:Int)))]/\mm=l.length-k/\(E.s=(emS l a k).s)/\(EmO E.s)/\(E.s.l.length<=k *11003006)/\(en=(emS l a k).en)/\(pr=(emS l a k).pr)/\(sl=(emS l a k).sl)/\(ad=(emS l a k).ad)/\(en.length=k/\pr.length=k/\sl.length=k/\ad.length=k)/\(k<=l.length)) _ ⟨([]:List Int),([]:List Int),([]:List Int),([]:List (List Int)),0,none,0,[],[],none,0,[],none,0,[],none,0,l2,_,fR,kp,(OS.nil:OS _ (sL none 0 0) ([]:List (List Int)) []),(OS.nil:OS _ (sL none 0 0) ([]:List Int) []),(OS.nil:OS _ (sL none 0 0) ([]:List Int) []),(OS.nil:OS _ (sL none 0 0) ([]:List Int) []),⟨V,V,V,V,V,V,V,V,trivial⟩,V,(by simp only[ag];rfl),(by simp only[ag];exact⟨V,a0d 0,a1q 0,by decide⟩),(by simp only[ag];exact a0D _),m_,m_,m_,m_,(⟨V,V,V,V⟩),M⟩ ?_;rintro o5 pI pm ⟨en,pr,sl,ad,k,ar,aw,ax,an,N,a_,ap,T,Z,aq,U,aa,E,b8,bl,ds,av,ay,aA,a1,f6,rfl,x1,x2,x3,x4,x5,x6,x7,x8,xk⟩ k9;refine au _ f6 (fun _=>?_);clear f6;replace hT:=hT.mono bl;replace ha:=ha.mono bl;replace hl:=hl.mono bl;replace a8:=a8.mono bl;have pM:=x2.sz0;have pN:=x2.sz1;have pL:=pb.1;refine am 1 V (wT 2 [] 55 55 [] [(55,(.bool (decide ((k:Int)<(l.length:Int)))))] V fun _=>zd 4 6 (fun mI=>?_) fun mI=>?_)
 ·have r4:=pb.2 k M;have r3:=(dv.snd k M).len;refine ab ?_;obtain⟨dd,hg⟩:=Sv.view (SR.sv hl ds);obtain⟨oh,ol,hJ⟩:=VFnT.fx (hg k);let h7:Value:=(aG [(iI (l.getD k v_).m),(iI (l.getD k v_).r),(sL (cA (dd k) 2) (l.getD k v_).u.length (cK (dd k) 2))])
  refine bL 3 0 56 58 [] [(56,(iI (k:Int))),(58,h7)] (Ha_ (Sv.ix (j:=(k:Int)) (SR.sv hl ds)) (Hl_ 2 (qn 36 0 3 (VFnT.vw (hg k)) V V V V) Hn_)) (by kernel_rfl) V fun _=>zn ds V fun l9 pn kr=>sgo 2 4 1 0 [13] [(13,(iI (k:Int)))] (Hr_ 5 11 Hn_) kr V V fun oQ pq kx=>ah 2 V ?_
  have ih:OS b8 (sL E.la E.s.l.length E.lk) E.s.l E.lp:=E.lo.lowI;have ik:OS b8 (sL E.pa E.s.pl.length E.pk) E.s.pl E.pp:=E.po.lowI;have il:OS b8 (sL E.ja E.s.js.length E.jk) E.s.js E.jp:=E.jo.lowI;have oX:=E.gs;let h8:Fp:=(fP l9 [(iI (l.getD k v_).m),(iI (l.getD k v_).r),(sL (cA (dd k) 2) (l.getD k v_).u.length (cK (dd k) 2))])
  have g1:HS _ _ _ [c7,(fP bb [(sL E.la E.s.l.length E.lk),(sL E.pa E.s.pl.length E.pk),(iI E.s.sz),(sL E.ja E.s.js.length E.jk)]),c6,(fP co [(sL none 0 0),(sL N en.length a_),(sL T pr.length Z),(sL U sl.length aa),(sL b6 lens.length b7)]),[],[],[],ax,an,ap,aq,h8,E.jp,E.pp,E.lp] _:=(HS.cut2 (HS.cut2 (HS.cut2 kx (q:=1) V) (q:=1) V) (q:=1) V)
  refine aL V (eO 6 59 64 [] [(60,(sL N en.length a_)),(64,(iI E.s.sz))] (Hr_ 1 3 (Hr_ 5 1 Hn_)) g1 V V fun _=>zld ([E.s.sz]:List Int) g1 V (RL.cs ⟨V,by omega⟩ RL.nl) V fun pD pP ne oE it g2=>zad 8 ay g2 (OS.sv it g2 (i:=15) V) V V V M (kb V) fun hM h0 h4 oF et ky=>sdo 2 67 67 [] [] (Hr_ 9 3 Hn_) ky V V fun oR pu g3=>bC 2 V ?_);refine ab (aY 4 0 68 71 [] [(69,(sL T pr.length Z)),(71,(iI (l.getD k v_).m))] (Hr_ 1 3 (Hr_ 3 11 Hn_)) g3 V V fun _=>zlo ([(l.getD k v_).m]:List Int) g3 V (RL.cs ⟨V,by omega⟩ RL.nl) V fun pE pQ nm pw iz g4=>zao 9 aA g4 (OS.sv iz g4 (i:=16) V) V V V M fun hP h1 h5 px ez kz=>sgo 2 6 74 74 [] [] (Hr_ 7 3 Hn_) kz V V fun oT py dt=>ah 2 V ?_);refine aL V ?_;obtain⟨oM,hh⟩:=Sv.view (SR.sv ha dt);obtain⟨oo,ow,ox⟩:=AllT.fx (hh k);refine eO 7 75 81 [] [(76,(sL U sl.length aa)),(81,(iI (a.getD k v_).k))] (Hr_ 1 3 (Ha_ (Sv.ix (j:=(k:Int)) (SR.sv ha dt)) (Hl_ 6 (ql 3 2 (hc0 (AllT.vw (hh k))) V V) Hn_))) dt V V fun _=>zld ([(a.getD k v_).k]:List Int) dt V (RL.cs ⟨V,by omega⟩ RL.nl) V fun pF pR nx oG i1 g5=>zad 10 a1 g5 (OS.sv i1 g5 (i:=17) V) V V V M (kb V) fun hQ h2 h6 oH e0 k0=>sdo 2 84 84 [] [] (Hr_ 10 3 Hn_) k0 V V fun oU l7 k3=>bC 1 V ?_
  obtain⟨ch,hE,b5⟩:=ex_eq (P:=fun w9=>HS (Base.of H []) b8 l7 [c7,(psM bb w9),c6,(fP co [(sL none 0 0),(sL hM (en++([E.s.sz]:List Int)).length h0),(sL hP (pr++([(l.getD k v_).m]:List Int)).length h1),(sL hQ (sl++([(a.getD k v_).k]:List Int)).length h2),(sL b6 lens.length b7)]),[],[],[],ax,h4,h5,h6,h8,[],[],[],ne,nm,nx] R) (⟨⟨E.s.l,E.s.pl,E.s.sz,E.s.js⟩,E.la,E.lk,E.lp,E.pa,E.pk,E.pp,E.ja,E.jk,E.jp,OS.lowI (ih),OS.lowI (ik),OS.lowI (il),by(dsimp only;omega)⟩:EmW) (HS.join2 (HS.join2 (HS.join2 k3 (q:=1) (i:=14) e_ V V) (q:=1) (i:=13) e_ V V) (q:=1) (i:=12) e_ V V);have a3:=congrArg (·.s) hE;refine aL V ?_;obtain⟨dk,hj⟩:=Sv.view (SR.sv ha b5);obtain⟨ot,hK,hL⟩:=AllT.fx (hj k);refine eO 7 85 91 [] [(85,(sL ar ad.length aw)),(86,(pT bb 0)),(87,h7),(91,(aG [(sL (cA (dk k) 0) (a.getD k v_).l.length (cK (dk k) 0)),(sL (cA (dk k) 1) (a.getD k v_).p.length (cK (dk k) 1)),(iI (a.getD k v_).k)]))] (Hr_ 2 11 (Ha_ (Sv.ix (j:=(k:Int)) (SR.sv ha b5)) (Hl_ 6 (qn 32 0 3 (hc0 (AllT.vw (hj k))) V V V V) Hn_))) b5 V V fun _=>ba (W:=((psM bb ch).map Prod.fst)) (aO V V V) V V V (ec.fun_c ex (l.getD k v_) (a.getD k v_) ch (HS.callOwn b5.log0 (i:=1) V) M M hJ hK hL M hT (by(simp only[a3,ag];exact x2)) (by(simp only[a3,ag];omega)) X X (hy k)) (kb V) ?_
  rintro _ l8 ⟨hv,hF,o6,l0,o7,cc,a9,rfl,f7,rfl,d1,d2,ef⟩;refine⟨HS.didW a9,fun lr hz=>?_⟩;replace a9:=HS.backOwn b5.log0 (i:=1) V V (fun _ hb=>hb) a9;replace a9:=HS.lg a9 b5 hz;generalize ({l8 with log:=lr}:Heap)=oI at a9⊢;replace et:=et.mono cc;replace ez:=ez.mono cc;replace e0:=e0.mono cc;replace av:=av.mono cc;refine zld ([(gh (l.getD k v_) (a.getD k v_).l ch.s).2]:List (List Int)) a9 V (RL.cs ⟨hv,hF,V,f7⟩ RL.nl) V fun pG pS pX oJ i2 g6=>zad 7 av g6 (OS.sv i2 g6 (i:=18) V) V V V M (kb V) fun hR h3 n1 oK i3 k4=>fa (sL hR (ad++([(gh (l.getD k v_) (a.getD k v_).l ch.s).2]:List (List Int))).length h3) V V V (bC 2 V (wU 1 [] 54 54 [95] [(54,(iI ((k:Int)+1)))] (vi (n:=(k:Int)+1)) V fun _=>?_))
  refine k9 _ _ _ ?_ ⟨en++([E.s.sz]:List Int),pr++([(l.getD k v_).m]:List Int),sl++([(a.getD k v_).k]:List Int),ad++([(gh (l.getD k v_) (a.getD k v_).l ch.s).2]:List (List Int)),k+1,hR,h3,n1,h4,hM,h0,h5,hP,h1,h6,hQ,h2,l0,_,(fT (bl) cc),(HS.sub k4 (a03 _ _)),i3,et,ez,e0,⟨V,V,V,V,V,V,V,V,trivial⟩,V,(by simp only[ef,d2,d1,a3,ag,x1];rfl),X,(by refine a0e (by assumption:_<=_+11003006) ?_;simp only[ef,d2,d1,a3,ag];omega),(by rw[x4,x1];rfl),(by rw[x5];rfl),(by rw[x6];rfl),(by simp only[ef,d2,d1,a3,ag];rw[x7,x1];rfl),(by simp only[a01,a0j];omega),M⟩;omega
 have i4:OS b8 (sL E.la E.s.l.length E.lk) E.s.l E.lp:=E.lo.lowI;have oZ:OS b8 (sL E.pa E.s.pl.length E.pk) E.s.pl E.pp:=E.po.lowI;have o0:OS b8 (sL E.ja E.s.js.length E.jk) E.s.js E.jp:=E.jo.lowI;have oY:=E.gs;have e4:HS _ _ _ [c7,(fP bb [(sL E.la E.s.l.length E.lk),(sL E.pa E.s.pl.length E.pk),(iI E.s.sz),(sL E.ja E.s.js.length E.jk)]),c6,(fP co [(sL none 0 0),(sL N en.length a_),(sL T pr.length Z),(sL U sl.length aa),(sL b6 lens.length b7)]),[],[],[],ax,an,ap,aq,E.jp,E.pp,E.lp] _:=(HS.cut2 (HS.cut2 (HS.cut2 ds (q:=1) V) (q:=1) V) (q:=1) V)
 refine aU 1 96 100 [] [(100,(.bool (decide ((60000:Int)<E.s.sz))))] (Hr_ 3 1 Hn_) e4 V V fun _=>bW 2 (v:=(decide ((60000:Int)<E.s.sz))) V (by rw[x1,show k=l.length by omega];exact decide_eq_false (by have:=hO.sz;omega)) V V (ab (aY 4 0 103 106 [] [(106,(sL E.la E.s.l.length E.lk))] (Hr_ 3 1 Hn_) e4 V V fun _=>?_))
 obtain⟨o8,a7,g7,jb,o1⟩:=OS.frz i4 e4 (i:=13) V;replace hT:=hT.mono a7;refine zc (ed.enc_c ex E.s.l (HS.call g7) jb hT (fun q hq=>vld_at (by rw[x1,show k=l.length by omega];exact hO.vld) hq) M) ?_;rintro _ pz ⟨f3,hu,pY,pH,o9,bz,e5,rfl,dn,rfl,rfl⟩;replace e5:=HS.back g7 V e5;replace ay:=(ay.mono a7).mono bz;refine bL 5 5 108 109 [15,16,102] [(15,(sL f3 (eC E.s.l).length hu)),(16,(iI 0))] Hn_ (by kernel_rfl) V fun _=>ah 3 V (wT 1 [] 110 111 [] [(111,(.bool false))] V fun _=>bW 2 (v:=false) V V V V (sgr 2 114 115 [] [] (Hr_ 2 3 Hn_) e5 V V fun oV pA k5=>sgr 1 7 8 [116,117] [(7,(sL ar ad.length aw)),(8,(iI 0))] (Hr_ 0 3 (Hr_ 2 0 Hn_)) k5 V V fun oW pB g8=>?_))
 obtain⟨pc,b2,k6,e1,o2⟩:=OS.frz ay g8 (i:=8) V;replace aA:=((aA.mono a7).mono bz).mono b2;obtain⟨pd,b3,k7,e2,o3⟩:=OS.frz aA k6 (i:=9) V;replace a1:=(((a1.mono a7).mono bz).mono b2).mono b3;obtain⟨pe,b4,k8,e3,o4⟩:=OS.frz a1 k7 (i:=10) V;replace a8:=((((a8.mono a7).mono bz).mono b2).mono b3).mono b4;obtain⟨oy,a4,hB,dl,ou⟩:=OS.frz a8 k8 (i:=2) V;replace av:=(((((av.mono a7).mono bz).mono b2).mono b3).mono b4).mono a4;obtain⟨oz,a5,hC,hA,ov⟩:=OS.frz av hB (i:=7) V;replace dl:=dl.mono a5;replace e1:=(((e1.mono b3).mono b4).mono a4).mono a5;replace e2:=((e2.mono b4).mono a4).mono a5;replace e3:=(e3.mono a4).mono a5;replace dn:=((((dn.mono b2).mono b3).mono b4).mono a4).mono a5;refine aj ⟨.inr V,_,(rC V (ldVN V V (h_ g8 V) V) (rT V (rT V rN))),(⟨eC E.s.l,en,pr,sl,lens⟩:BinT),f3,hu,N,a_,T,Z,U,aa,b6,b7,ar,aw,ad,0,_,(fT (fT (fT (fT (fT (fT (fT (fT (fT (b9) cg) bl) a7) bz) b2) b3) b4) a4) a5),(HS.forget hC),V,dn,e1,e2,e3,dl,hA,(by((obtain rfl:k=l.length:=by omega);rw[emV_y dv,←x4,←x5,←x6,←x1];try rfl)),(by((obtain rfl:k=l.length:=by omega);rw[emV_y dv,←x7];try rfl)),(by(rw[emV_y dv];try rfl))⟩
end eh
open eh
namespace ek
open Go.R m1 m2 m3 m4 m5 m6 ma ml mb mc md mf mg mh mi mj na nb nc ni nv m7 xa ej ea eb eg
def lT(x:LocT):Prop:=(x.inS=true->0<=x.x/\x.x<3000)/\(x.inS=false->0<=x.x/\x.x<5)
abbrev lS(ll:List LocT):Prop:= ∀r:Int,0<=r->r<(ll.length:Int)->lT (atV ll r)
theorem loc_k{c:VFnT}{a:AllT}(s:SndP c a)(v:VF c):lS a.l:=fun r N T=>by have h:=s.loc r.toNat M;have U:=v.m;have a_:=s.hi;have Z:=s.lo;exact⟨fun e=>by have:=h.1 e;have E:(iY a r.toNat).x=(atV a.l r).x:=rfl;omega,fun e=>by have:=h.2 e;have E:(iY a r.toNat).x=(atV a.l r).x:=rfl;omega⟩
theorem opr_k{x:LocT}(h:lT x){s:Int}(hs:5<=s/\s<=7):0<=jS x.inS x.x s/\jS x.inS x.x s<=7:=by
 unfold jS;split
 ·omega
 have:=h.2 (by simpa using ‹¬x.inS=true›);omega
theorem mkI{o a b c n:Int}(ho:1<=o/\o<=37)(E:o≠6)(Z:0<=a/\a<=7)(hb:0<=b/\b<8)(hc:0<=c/\c<8)(N: ¬fA (aE o).f->a=0)(T: ¬fB (aE o).f->b=0)(U: ¬(aE o).f=4->c=0)(hn:o≠14->loN o<=n/\n<=hiN o):VldI ⟨o,a,b,c,n⟩:=⟨ho,Z,fun h=>absurd h E,hb,hc,N,T,U,hn⟩
theorem v36{t n:Int}(N:0<=t/\t<=7)(E:0<=n/\n<3000):VldI ⟨36,t,0,0,n⟩:=mkI e_ e_ N e_ e_ (fun h=>absurd e_ h) (fun _=>rfl) (fun _=>rfl) (fun _=>⟨E.1,by show n<=2999;omega⟩)
theorem v37{t n:Int}(N:0<=t/\t<=7)(E:0<=n/\n<3000):VldI ⟨37,t,0,0,n⟩:=mkI e_ e_ N e_ e_ (fun h=>absurd e_ h) (fun _=>rfl) (fun _=>rfl) (fun _=>⟨E.1,by show n<=2999;omega⟩)
theorem v10{t n:Int}(N:0<=t/\t<=7)(E:0<=n/\n<8):VldI ⟨10,t,n,0,0⟩:=mkI e_ e_ N E e_ (fun h=>absurd e_ h) (fun h=>absurd e_ h) (fun _=>rfl) (fun _=>by decide)
theorem v6{t n:Int}(E:0<=t/\t<=6)(N:0<=n/\n<8):VldI ⟨6,t,0,0,n⟩:=⟨(by decide:(1:Int)<=6/\(6:Int)<=37),⟨E.1,by dsimp only;omega⟩,fun _=>E.2,(by decide:(0:Int)<=0/\(0:Int)<8),(by decide:(0:Int)<=0/\(0:Int)<8),fun h=>absurd (by decide:fA (aE 6).f) h,fun _=>rfl,fun _=>rfl,fun _=>⟨N.1,by show n<=7;omega⟩⟩
theorem v5{n:Int}(E: -4194304<=n/\n<=4194303):VldI ⟨5,0,0,0,n⟩:=mkI e_ e_ e_ e_ e_ (fun _=>rfl) (fun _=>rfl) (fun _=>rfl) (fun _=>⟨by show-33554432<=n;omega,by show n<=33554431;omega⟩)
theorem v7{t n:Int}(N:0<=t/\t<=7)(E: -4194304<=n/\n<=4194303):VldI ⟨7,t,0,0,n⟩:=mkI e_ e_ N e_ e_ (fun h=>absurd e_ h) (fun _=>rfl) (fun _=>rfl) (fun _=>E)
theorem v8{t n:Int}(N:0<=t/\t<=7)(E: -4194304<=n/\n<=4194303):VldI ⟨8,t,0,0,n⟩:=mkI e_ e_ N e_ e_ (fun h=>absurd e_ h) (fun _=>rfl) (fun _=>rfl) (fun _=>E)
theorem v2:VldI ⟨2,0,0,0,0⟩:=mkI e_ e_ e_ e_ e_ (fun _=>rfl) (fun _=>rfl) (fun _=>rfl) (fun _=>by decide)
theorem v4{n:Int}(E:1<=n/\n<33554432):VldI ⟨4,0,0,0,n⟩:=mkI e_ e_ e_ e_ e_ (fun _=>rfl) (fun _=>rfl) (fun _=>rfl) (fun _=>⟨E.1,by show n<=33554431;omega⟩)
theorem fet_v{t:Int}{x:LocT}(E:0<=t/\t<=7)(h:lT x): ∀i∈lP t x.inS x.x,VldI i:=fun i hi=>by
 unfold lP at hi;split at hi
 ·rw[a08]at hi;subst hi;exact v36 E (h.1 ‹_›)
 split at hi
 ·cases hi
 rw[a08]at hi;subst hi;have:=h.2 (by simpa using ‹¬x.inS=true›);exact v10 E M
theorem sav_v{x:LocT}(h:lT x): ∀i∈savV x.inS x.x,VldI i:=fun i hi=>by
 unfold savV at hi;split at hi
 ·rw[a08]at hi;subst hi;exact v37 e_ (h.1 ‹_›)
 split at hi
 ·cases hi
 rw[a08]at hi;subst hi;have:=h.2 (by simpa using ‹¬x.inS=true›);exact v10 M e_
theorem fetS_v{x:LocT}(h:lT x): ∀i∈fetS x,VldI i:=fun i hi=>by
 unfold fetS at hi;split at hi
 ·rw[a08]at hi;subst hi;exact v36 e_ (h.1 ‹_›)
 cases hi
theorem call_v{ll:List LocT}(E:lS ll){a:List Int}(N: ∀k,k<a.length->0<=a.getD k 0/\a.getD k 0<(ll.length:Int))(T:a.length<=6): ∀n,n<=a.length->∀i∈lQ ll a n,VldI i
 |0,_,i,hi=>by cases hi
 |n+1,hn,i,hi=>by
  unfold lQ at hi;rcases a07.1 hi with hi|hi
  ·exact call_v E N T n M i hi
  have:=N n M;exact fet_v M (E _ this.1 this.2) i hi
theorem tab_a: ∀k:Fin 37,(¬fA (aE ((k.val:Int)+1)).f->(aE ((k.val:Int)+1)).ra=false/\(aE ((k.val:Int)+1)).wa=false)/\(¬fB (aE ((k.val:Int)+1)).f->(aE ((k.val:Int)+1)).rb=false):=by decide
theorem oA_k{f:InfT}{i:InsT}{ll:List LocT}(h:f.ra=true\/f.wa=true->lT (atV ll i.a)):0<=oA f i ll/\oA f i ll<=7:=by
 unfold oA;split
 ·exact opr_k (h ‹_›) e_
 decide
theorem oB_k{f:InfT}{i:InsT}{ll:List LocT}(h:f.rb=true->lT (atV ll i.b)):0<=oB f i ll/\oB f i ll<8:=by
 unfold oB;split
 ·have:=opr_k (h ‹_›) (s:=6) e_;omega
 decide
theorem oC_k{f:InfT}{i:InsT}{ll:List LocT}(h:f.f=4->lT (atV ll i.c)):0<=oC f i ll/\oC f i ll<8:=by
 unfold oC;split
 ·have:=opr_k (h ‹_›) (s:=7) e_;omega
 decide
theorem main_v{p:Int}{i:InsT}{ll:List LocT}(ag:alV i.op=true)(h6:i.op≠6)(hi:gU p i.op i.n=true)(hp:p<=6)(hA:(aN i.op).ra=true\/(aN i.op).wa=true->lT (atV ll i.a))(hB:(aN i.op).rb=true->lT (atV ll i.b))(hC:(aN i.op).f=4->lT (atV ll i.c)):
  VldI ⟨opV i,oA (aN i.op) i ll,oB (aN i.op) i ll,oC (aN i.op) i ll,oN (aN i.op) i⟩:=by
 have ag:=of_decide_eq_true ag
 have ha:=oA_k hA
 have hb:=oB_k hB
 have hc:=oC_k hC
 unfold gU at hi
 by_cases E:i.op=38
 ·have N:opV i=36:=by unfold opV;rw[if_pos E]
  have ef:aN i.op=⟨⟨[]⟩,5,false,true,false,false,0⟩:=by unfold aN;rw[if_pos E]
  have eb:oB (aN i.op) i ll=0:=by rw[ef];rfl
  have ec:oC (aN i.op) i ll=0:=by rw[ef];rfl
  have en:oN (aN i.op) i=i.n:=by rw[ef];rfl
  rw[E]at hi;have hi:=of_decide_eq_true hi;rw[N,eb,ec,en];exact v36 ha M
 have ef:aN i.op=aE i.op:=by unfold aN;rw[if_neg E]
 by_cases T:i.op=13/\(i.n< -4194304\/4194304<=i.n)
 ·have N:opV i=14:=by unfold opV;rw[if_neg E,if_pos T]
  have U:=T.1;have eb:oB (aN i.op) i ll=0:=by rw[ef,U];rfl
  have ec:oC (aN i.op) i ll=0:=by rw[ef,U];rfl
  rw[N,eb,ec];exact mkI e_ e_ ha e_ e_ (fun h=>absurd e_ h) (fun _=>rfl) (fun _=>rfl) (fun h=>absurd V h)
 have N:opV i=i.op:=by unfold opV;rw[if_neg E,if_neg T]
 have ho:1<=i.op/\i.op<=37:=M
 obtain⟨k,hk⟩:=ex37 ho
 obtain⟨t1,t2⟩:=tab_a k
 rw[←hk]at t1 t2
 rw[N]
 refine⟨ho,ha,fun h=>absurd h h6,hb,hc,fun h=>?_,fun h=>?_,fun h=>?_,fun _=>?_⟩
 ·have:=t1 h;dsimp only;unfold oA;rw[ef,this.1,this.2];rfl
 ·have:=t2 h;dsimp only;unfold oB;rw[ef,this];rfl
 ·dsimp only at h⊢;unfold oC;rw[ef,if_neg h]
 dsimp only
 obtain⟨Z,_⟩:=nb_at k
 rw[←hk]at Z
 unfold oN
 rw[ef]
 split
 ·rename_i hf;have an:i.op=13\/i.op=33\/i.op=34\/i.op=35:=by
   have a_: ∀k:Fin 37,alV ((k.val:Int)+1)=true->(aE ((k.val:Int)+1)).f=5\/(aE ((k.val:Int)+1)).f=7->((k.val:Int)+1=6\/(k.val:Int)+1=13\/(k.val:Int)+1=33\/(k.val:Int)+1=34\/(k.val:Int)+1=35):=by decide
   have:=a_ k (by rw[←hk];exact decide_eq_true ag) (by rw[←hk];exact hf);omega
  rcases an with e|e|e|e
  ·rw[e];refine⟨?_,?_⟩
   ·show-4194304<=i.n;omega
   show i.n<=4194303;omega
  ·rw[e]at hi⊢;have hi:=of_decide_eq_true hi;exact⟨hi.1,by show i.n<=4194303;omega⟩
  ·rw[e]at hi⊢;have hi:=of_decide_eq_true hi;exact⟨hi.1,by show i.n<=3;omega⟩
  rw[e]at hi⊢;have hi:=of_decide_eq_true hi;exact⟨hi.1,by show i.n<=3;omega⟩
 rename_i hf
 have a_: ∀k:Fin 37,alV ((k.val:Int)+1)=true->¬((aE ((k.val:Int)+1)).f=5\/(aE ((k.val:Int)+1)).f=7)->¬fN (aE ((k.val:Int)+1)).f:=by decide
 have:=Z (by rw[hk];exact a_ k (by rw[←hk];exact decide_eq_true ag) (by rw[←hk];exact hf))
 omega
theorem one_v{q:Prop} [Decidable q]{x:InsT}(h:q->VldI x): ∀i∈(if q then [x] else []),VldI i:=fun i hi=>by
 split at hi
 ·rw[a08]at hi;subst hi;exact h ‹_›
 cases hi
theorem oth_v{p:Int}{i:InsT}{ll:List LocT}(aa:alV i.op=true)(E:i.op≠6)(hi:gU p i.op i.n=true)(hp:p<=6)(T:(aN i.op).ra=true\/(aN i.op).wa=true->lT (atV ll i.a))(U:(aN i.op).rb=true->lT (atV ll i.b))(Z:(aN i.op).f=4->lT (atV ll i.c)): ∀x∈kU (aN i.op) i ll,VldI x:=fun x N=>by
 unfold kU at N;rw[a07,a07,a07,a07]at N;rcases N with(((N|N)|N)|N)|N
 ·exact one_v (fun h=>v36 e_ ((T (.inl h.1)).1 h.2)) x N
 ·exact one_v (fun h=>v36 e_ ((U h.1).1 h.2)) x N
 ·exact one_v (fun h=>v36 e_ ((Z h.1).1 h.2)) x N
 ·rw[a08]at N;subst N;exact main_v aa E hi hp T U Z
 exact one_v (fun h=>v37 e_ ((T (.inr h.1)).1 h.2)) x N
theorem exp_v{p g:Int}{v:VInT}{ll:List LocT}(hv:eP p g v=true)(hp:p<=6)(hL:lS ll): ∀i∈lq v ll,VldI i:=fun i hi=>by
 unfold eP at hv;simp only[a09,decide_eq_true_eq]at hv;obtain⟨⟨⟨⟨⟨⟨⟨ag,U⟩,hl⟩,av⟩,ha⟩,hb⟩,hc⟩,Z⟩:=hv;unfold lq at hi;split at hi
 ·rename_i hr;have rf:=rng_of ag hr.2;have hA:(aN v.i.op).ra=true\/(aN v.i.op).wa=true->lT (atV ll v.i.a):=fun h=>by have:=rf.a (rng_va h);exact hL _ this.1 this.2
  have hB:(aN v.i.op).rb=true->lT (atV ll v.i.b):=fun h=>by have:=rf.b (by rw[←vrb];exact h);exact hL _ this.1 this.2
  have hC:(aN v.i.op).f=4->lT (atV ll v.i.c):=fun h=>by have:=rf.c ((vf4 ag).1 h);exact hL _ this.1 this.2
  split at hi
  ·rename_i N;have T:=rf.a (.inr (.inr (.inl N)));unfold gU at Z;rw[N]at Z;have Z:=of_decide_eq_true Z;rw[a07,a07]at hi;rcases hi with(hi|hi)|hi
   ·exact call_v hL (fun k hk=>rf.g N k hk) hl _ (a0d _) i hi
   ·rw[a08]at hi;subst hi;exact v6 M Z
   exact sav_v (hL _ T.1 T.2) i hi
  rename_i N;split at hi
  ·rename_i E;unfold movV at hi;split at hi
   ·cases hi
   split at hi
   ·rename_i h;have ha:=rf.a (.inr (.inl (by rw[E];rfl)));have hb:=rf.b (by rw[E];rfl);rw[a08]at hi;subst hi;have:=(hL _ ha.1 ha.2).2 h.2;exact v36 M ((hL _ hb.1 hb.2).1 h.1)
   split at hi
   ·rename_i h;have ha:=rf.a (.inr (.inl (by rw[E];rfl)));have hb:=rf.b (by rw[E];rfl);rw[a08]at hi;subst hi;have:=(hL _ hb.1 hb.2).2 h.2;exact v37 M ((hL _ ha.1 ha.2).1 h.1)
   exact oth_v ag N Z hp hA hB hC i hi
  exact oth_v ag N Z hp hA hB hC i hi
 cases hi
theorem iD: ∀(l:List InsT) (s:EmS),s.sz<=(eS s l).sz
 | [],_=>a1q _
 |i::l,s=>by have E:=iD l (put1 s i);have N:=fW i;have T:(put1 s i).sz=s.sz+wdI i:=rfl;rw[gJ];omega
theorem sz_jmp(s:EmS)(i:InsT)(b:Int):s.sz<=(lj s i b).sz:=iD [i] ⟨s.l,s.pl,s.sz,s.js++[⟨(s.l.length:Int),b⟩]⟩
theorem sz_trm(s:EmS)(b:BlkT)(ll:List LocT)(E:Int):s.sz<=(fY s b ll E).sz:=by
 unfold fY;split
 ·split
  ·exact a1q _
  exact sz_jmp _ _ _
 split
 ·unfold brnV;split
  ·exact a1F (iD _ _) (sz_jmp _ _ _)
  split
  ·exact a1F (iD _ _) (sz_jmp _ _ _)
  exact a1F (a1F (iD _ _) (sz_jmp _ _ _)) (sz_jmp _ _ _)
 split
 ·exact a1F (iD _ _) (iD _ _)
 exact iD _ _
theorem sz_ins(ll:List LocT): ∀(l:List VInT) (s:EmS),s.sz<=(jD ll s l).sz
 | [],_=>a1q _
 |v::l,s=>a1F (iD _ _) (sz_ins ll l (eS s (lq v ll)))
structure VOK(s:EmS):Prop where
 vld: ∀i∈s.l,VldI i
 jo: ∀j∈s.js,0<=j.at_/\j.at_.toNat<s.l.length/\((s.l.getD j.at_.toNat v_).op=5\/(s.l.getD j.at_.toNat v_).op=7\/(s.l.getD j.at_.toNat v_).op=8)
 pb: ∀x∈s.pl,0<=x/\x<=s.sz
 z:0<=s.sz
theorem VOK.p1{s:EmS}(h:VOK s){i:InsT}(hi:VldI i):VOK (put1 s i):=by
 have hw:=fW i;have hz:=h.z;refine⟨fun x U=>?_,fun j Z=>?_,fun x U=>?_,by show 0<=s.sz+wdI i;omega⟩
 ·rcases a07.1 U with U|U
  ·exact h.vld x U
  rw[a08]at U;subst U;exact hi
 ·obtain⟨E,N,T⟩:=h.jo j Z;have e:(s.l++[i]).getD j.at_.toNat v_=s.l.getD j.at_.toNat v_:=by rw[a02,a0M N,a02]
  refine⟨E,by show _<(s.l++[i]).length;rw[a01];omega,?_⟩;show((s.l++[i]).getD j.at_.toNat v_).op=5\/((s.l++[i]).getD j.at_.toNat v_).op=7\/((s.l++[i]).getD j.at_.toNat v_).op=8;rw[e];exact T
 show 0<=x/\x<=s.sz+wdI i;rcases a07.1 U with U|U
 ·have:=h.pb x U;omega
 rw[a08]at U;omega
theorem VOK.pt: ∀{l:List InsT} {s:EmS},VOK s->(∀i∈l,VldI i)->VOK (eS s l)
 | [],_,h,_=>h
 |i::l,_,h,hl=>by
  have E:=VOK.pt (l:=l) (h.p1 (hl i (a0n ..))) fun j N=>hl j (a0f _ N)
  exact E
theorem VOK.jm{s:EmS}(h:VOK s){i:InsT}(hi:VldI i)(T:i.op=5\/i.op=7\/i.op=8)(b:Int):VOK (lj s i b):=by
 have E:=h.p1 hi;refine⟨E.vld,fun j N=>?_,E.pb,E.z⟩;rcases a07.1 (show j∈s.js++[_] from N) with N|N
 ·exact E.jo j N
 rw[a08]at N;subst N;refine⟨a1E _,by show s.l.length<(s.l++[i]).length;rw[a01];exact a1b _,?_⟩;show((s.l++[i]).getD s.l.length v_).op=5\/((s.l++[i]).getD s.l.length v_).op=7\/((s.l++[i]).getD s.l.length v_).op=8;rw[dA,if_pos rfl];exact T
theorem VOK.tr{s:EmS}(h:VOK s){b:BlkT}{nb g:Int}{ll:List LocT}(hb:lL nb g b=true)(hl:(ll.length:Int)=g)(Z:lS ll)(nx:Int):VOK (fY s b ll nx):=by
 have hv:=bM.1 hb;have U:b.f=2\/b.f=3->lT (atV ll b.r):=fun e=>Z _ M M
 unfold fY;split
 ·split
  ·exact h
  exact h.jm (v5 e_) (.inl V) _
 split
 ·have T:=U M;have E:=opr_k T (s:=5) e_;have N:=h.pt (fetS_v T);unfold brnV;split
  ·exact N.jm (v8 E e_) (.inr (.inr V)) _
  split
  ·exact N.jm (v7 E e_) (.inr (.inl V)) _
  exact(N.jm (v8 E e_) (.inr (.inr V)) _).jm (v5 e_) (.inl V) _
 split
 ·exact(h.pt (fet_v e_ (U M))).pt fun i hi=>by rw[a08]at hi;subst hi;exact v2
 exact h.pt fun i hi=>by rw[a08]at hi;subst hi;exact v4 M
theorem VOK.v{p g:Int}{ll:List LocT}(T:p<=6)(N:lS ll): ∀{l:List VInT} {s:EmS},VOK s->(∀v∈l,eP p g v=true)->VOK (jD ll s l)
 | [],_,h,_=>h
 |v::l,_,h,hl=>by
  have E:=VOK.v (l:=l) T N (h.pt (exp_v (hl v (a0n ..)) T N)) fun w U=>hl w (a0f _ U)
  exact E
theorem VOK.par{s:EmS}(h:VOK s): ∀n,n<=6->VOK (parE s n)
 |0,_=>h
 |n+1,hn=>(VOK.par h n M).pt fun i hi=>by rw[a08]at hi;subst hi;exact v37 M M
theorem VOK.blk{p g nb:Int}{ll:List LocT}(hp:p<=6)(hl:(ll.length:Int)=g)(hL:lS ll): ∀{bs:List BlkT} {k:Int} {s:EmS} {st:List Int},VOK s->(∀x∈st,0<=x/\x<=s.sz)->(∀b∈bs,jM p g nb b=true)->VOK (kt ll bs k (s,st)).1/\∀x∈(kt ll bs k (s,st)).2,0<=x/\x<=(kt ll bs k (s,st)).1.sz
 | [],_,_,_,h,N,_=>⟨h,N⟩
 |b::bs,k,s,st,h,N,hb=>by
  have E:=hb b (a0n ..);unfold jM at E;rw[a09,a0m]at E;have T:=(h.v hp hL E.1).tr E.2 hl hL (k+1);have hm:s.sz<=(fY (jD ll s b.v) b ll (k+1)).sz:=a1F (sz_ins ll b.v s) (sz_trm _ _ _ _);have hz:=h.z;have U:=VOK.blk (bs:=bs) (k:=k+1) (st:=st++[s.sz]) hp hl hL T (fun x Z=>by
   rcases a07.1 Z with Z|Z
   ·have:=N x Z;omega
   rw[a08]at Z;omega) fun c hc=>hb c (a0f _ hc)
  exact U
theorem fixJ_v{st pl:List Int}{z:Int}(hz:z<=60000)(E:0<=z)(ai: ∀x∈st,0<=x/\x<=z)(ag: ∀x∈pl,0<=x/\x<=z){l:List InsT}(h: ∀i∈l,VldI i){j:JmpT}(hj:0<=j.at_/\j.at_.toNat<l.length/\((l.getD j.at_.toNat v_).op=5\/(l.getD j.at_.toNat v_).op=7\/(l.getD j.at_.toNat v_).op=8)): ∀i∈fixJ st pl l j,VldI i:=fun i hi=>by
 rcases List.mem_or_eq_of_mem_set hi with hi|rfl
 ·exact h i hi
 have U:=vld_at h hj.2.1;have Z: ∀{q:List Int} {n:Nat},(∀x∈q,0<=x/\x<=z)->0<=q.getD n 0/\q.getD n 0<=z:=fun{q n} hq=>by
  by_cases hn:n<q.length
  ·rw[a02,a06 hn];exact hq _ (a10 hn)
  rw[a02,a0J M];exact⟨a1q _,E⟩
 have N:=Z ai (n:=j.to.toNat);have T:=Z ag (n:=j.at_.toNat);have hw:IntKind.i64.wrap (st.getD j.to.toNat 0-pl.getD j.at_.toNat 0)=st.getD j.to.toNat 0-pl.getD j.at_.toNat 0:=by rw[IntKind.wrap_i64];omega
 refine⟨U.o,U.a,U.a6,U.b,U.c,U.a0,U.b0,U.c0,fun _=>?_⟩;dsimp only;rw[hw];rcases hj.2.2 with e|e|e
 ·rw[e];exact⟨by show-33554432<=_;omega,by show _<=(33554431:Int);omega⟩
 ·rw[e];exact⟨by show-4194304<=_;omega,by show _<=(4194303:Int);omega⟩
 rw[e];exact⟨by show-4194304<=_;omega,by show _<=(4194303:Int);omega⟩
theorem fixJ_op{st pl:List Int}{l:List InsT}{j:JmpT}(k:Nat):((fixJ st pl l j).getD k v_).op=(l.getD k v_).op:=by
 have e: ∀q:List InsT,(q.getD k v_).op=(q.map InsT.op).getD k (v_:InsT).op:=fun q=>by rw[a02,a02,a14];cases q[k]?<;>rfl
 rw[e,e,fixJ_sum]
theorem nF{st pl:List Int}{l:List InsT}{j:JmpT}:(fixJ st pl l j).length=l.length:=a0h
theorem fixE_v{st pl:List Int}{z:Int}(Z:z<=60000)(E:0<=z)(U: ∀x∈st,0<=x/\x<=z)(T: ∀x∈pl,0<=x/\x<=z): ∀(js:List JmpT) (l:List InsT),(∀i∈l,VldI i)->(∀j∈js,0<=j.at_/\j.at_.toNat<l.length/\((l.getD j.at_.toNat v_).op=5\/(l.getD j.at_.toNat v_).op=7\/(l.getD j.at_.toNat v_).op=8))->∀i∈jF st pl l js,VldI i
 | [],_,h,_=>h
 |j::js,l,h,hj=>by
  have N:=fixE_v Z E U T js (fixJ st pl l j) (fixJ_v Z E U T h (hj j (a0n ..))) fun k hk=>by rw[fixJ_op,nF];exact hj k (a0f _ hk)
  exact N
theorem zp: ∀(l:List InsT) (s:EmS),(eS s l).sz<=s.sz+3 *(l.length:Int)
 | [],s=>by show s.sz<=s.sz+3 *0;omega
 |i::l,s=>by have E:=zp l (put1 s i);have N:=fW i;have T:(put1 s i).sz=s.sz+wdI i:=rfl;rw[gJ,a05];omega
theorem zj(s:EmS)(i:InsT)(b:Int):(lj s i b).sz<=s.sz+3:=zp [i] ⟨s.l,s.pl,s.sz,s.js++[⟨(s.l.length:Int),b⟩]⟩
theorem ztr(s:EmS)(b:BlkT)(ll:List LocT)(U:Int):(fY s b ll U).sz<=s.sz+9:=by
 have Z:(eS s (fetS (atV ll b.r))).sz<=s.sz+3:=by have E:=zp (fetS (atV ll b.r)) s;have N:=nI (x:=atV ll b.r);omega
 unfold fY;split
 ·split
  ·omega
  have:=zj s ⟨5,0,0,0,0⟩ b.t;omega
 split
 ·unfold brnV;have E:=fun i c=>zj (eS s (fetS (atV ll b.r))) i c
  split
  ·have:=E ⟨8,jS (atV ll b.r).inS (atV ll b.r).x 5,0,0,0⟩ b.t;omega
  split
  ·have:=E ⟨7,jS (atV ll b.r).inS (atV ll b.r).x 5,0,0,0⟩ b.e;omega
  have:=E ⟨8,jS (atV ll b.r).inS (atV ll b.r).x 5,0,0,0⟩ b.t;have:=zj (lj (eS s (fetS (atV ll b.r))) ⟨8,jS (atV ll b.r).inS (atV ll b.r).x 5,0,0,0⟩ b.t) ⟨5,0,0,0,0⟩ b.e;omega
 split
 ·have E:=zp [⟨2,0,0,0,0⟩] (eS s (lP 0 (atV ll b.r).inS (atV ll b.r).x));have N:=zp (lP 0 (atV ll b.r).inS (atV ll b.r).x) s;have T:(lP 0 (atV ll b.r).inS (atV ll b.r).x).length<=1:=by
   unfold lP;split
   ·simp
   split<;>simp
  rw[a0j]at E;omega
 have:=zp [⟨4,0,0,0,b.t⟩] s;rw[a0j]at this;omega
theorem zin{p g:Int}(ll:List LocT): ∀(l:List VInT) (s:EmS),(∀v∈l,eP p g v=true)->(jD ll s l).sz<=s.sz+33 *(l.length:Int)
 | [],s,_=>by show s.sz<=s.sz+33 *0;omega
 |v::l,s,h=>by
  have N:=zin ll l (eS s (lq v ll)) fun w hw=>h w (a0f _ hw)
  have T:=zp (lq v ll) s;have U:=exp_len (v:=v) (l:=ll);have Z:=h v (a0n ..);unfold eP at Z;simp only[a09,decide_eq_true_eq]at Z;have a_:=Z.1.1.1.1.1.2;have E:(jD ll s (v::l)).sz=(jD ll (eS s (lq v ll)) l).sz:=rfl;rw[E,a05];omega
theorem zpa(s:EmS): ∀n:Nat,(parE s n).sz<=s.sz+3 *(n:Int)
 |0=>by show s.sz<=s.sz+3 *0;omega
 |n+1=>by have E:=zpa s n;have N:(parE s (n+1)).sz<=(parE s n).sz+3:=zp _ _;omega
theorem zbl{p g nb:Int}(ll:List LocT): ∀(bs:List BlkT) (k:Int) (s:EmS) (st:List Int),(∀b∈bs,jM p g nb b=true)->(∀b∈bs,b.v.length<=11)->(kt ll bs k (s,st)).1.sz<=s.sz+372 *(bs.length:Int)
 | [],_,s,_,_,_=>by show s.sz<=s.sz+372 *0;omega
 |b::bs,k,s,st,h,hl=>by
  have N:=zbl ll bs (k+1) (fY (jD ll s b.v) b ll (k+1)) (st++[s.sz]) (fun w hw=>h w (a0f _ hw)) fun w hw=>hl w (a0f _ hw)
  have T:=ztr (jD ll s b.v) b ll (k+1);have Z:=h b (a0n ..);unfold jM at Z;rw[a09,a0m]at Z;have U:=zin ll b.v s Z.1;have a_:=hl b (a0n ..);have E:(kt ll (b::bs) k (s,st)).1.sz=(kt ll bs (k+1) (fY (jD ll s b.v) b ll (k+1),st++[s.sz])).1.sz:=rfl;rw[E,a05];omega
theorem blks_v{c:VFnT}(h:ca c=true): ∀b∈c.u,jM c.m c.r (c.u.length:Int) b=true:=by unfold ca at h;rw[a09]at h;exact a0m.1 h.2
structure ShF(c:VFnT):Prop where
 n:c.u.length<=7
 i: ∀b∈c.u,b.v.length<=11
theorem zfu{c:VFnT}(Z:ca c=true)(hs:ShF c)(ll:List LocT)(s:EmS):(gh c ll s).1.sz<=s.sz+2700:=by have v:=e7 Z;have hp:=v.m;have E:=zbl ll c.u 0 (parE ⟨s.l,s.pl,s.sz,[]⟩ c.m.toNat) [] (blks_v Z) hs.i;have N:=zpa ⟨s.l,s.pl,s.sz,[]⟩ c.m.toNat;have T:=hs.n;have U:(gh c ll s).1.sz=(kt ll c.u 0 (parE ⟨s.l,s.pl,s.sz,[]⟩ c.m.toNat,[])).1.sz:=rfl;have a_:EmS.sz ⟨s.l,s.pl,s.sz,[]⟩=s.sz:=rfl;omega
theorem fun_v{c:VFnT}{a:AllT}(s:SndP c a)(hs:ShF c){z:Int}(N:0<=z)(hz:z<=50000): ∀i∈(gh c a.l ⟨[],[],z,[]⟩).1.l,VldI i:=by have v:=e7 s.val;have hp:=v.m;have hL:=loc_k s v;have a_:=zfu s.val hs a.l ⟨[],[],z,[]⟩;have T:VOK (parE ⟨[],[],z,[]⟩ c.m.toNat):=VOK.par ⟨(fun i hi=>by cases hi),(fun i hi=>by cases hi),(fun i hi=>by cases hi),N⟩ _ M;obtain⟨E,U⟩:=VOK.blk (bs:=c.u) (k:=0) (st:=[]) M s.len hL T (fun x hx=>by cases hx) (blks_v s.val);exact fixE_v (z:=(gi c a.l ⟨[],[],z,[]⟩).1.sz) (by have:(gh c a.l ⟨[],[],z,[]⟩).1.sz=(gi c a.l ⟨[],[],z,[]⟩).1.sz:=rfl;have Z:EmS.sz ⟨[],[],z,[]⟩=z:=rfl;omega) E.z U E.pb _ _ E.vld E.jo
theorem okE_of{l:List VFnT}{a:List AllT}{lens:List Int}(h:emC l a lens)(hs: ∀c∈l,ShF c):OkE l a:=by
 have hl:=(vp_imp h.vp).1;have sh: ∀k,k<l.length->ShF (l.getD k v_):=fun k hk=>by rw[a02,a06 hk];exact hs _ (a10 hk)
 have ad: ∀n,n<=l.length->(∀i∈(emS l a n).s.l,VldI i)/\0<=(emS l a n).s.sz/\(emS l a n).s.sz<=2700 *(n:Int):=fun n=>by
  induction n with
  |zero=>exact fun _=>⟨(fun i hi=>by cases hi),a1q _,a1q _⟩
  |succ n ih=>
   intro hn
   obtain⟨N,T,a_⟩:=ih M
   have hf:=fun_v (h.snd n M) (sh n M) T M
   obtain⟨E,U,_⟩:=fun_sh (l.getD n v_) (a.getD n v_).l (mL l a n).1
   have hz:=zfu (h.snd n M).val (sh n M) (a.getD n v_).l (emS l a n).s
   have hm:=emS_mono (l:=l) (a:=a) (k:=n) (n:=n+1) M
   have ez:(emS l a (n+1)).s.sz=(gh (l.getD n v_) (a.getD n v_).l (emS l a n).s).1.sz:=rfl
   refine⟨fun i hi=>?_,by omega,by omega⟩
   have hi:i∈(gh (l.getD n v_) (a.getD n v_).l (emS l a n).s).1.l:=hi
   rw[E]at hi
   rcases a07.1 hi with hi|hi
   ·exact N i hi
   exact hf i hi
 obtain⟨k1,_,Z⟩:=ad l.length (a0d _);exact⟨k1,by omega⟩
structure EmB(x:BinT×List (List Int)×Int):Prop where
 w:x.1.wd.length<=60000
 e:x.1.en.length<=8
 p:x.1.pr.length<=8
 s:x.1.sl.length<=8
 a:x.1.al.length<=8
 d:x.2.1.length<=8
 dj: ∀j,(x.2.1.getD j v_).length<=1000
end ek
open ek
namespace ep
open Go.R m1 m2 m3 m4 m5 m6 ma ml mb mc md mf mg mh mi mj na nb nc ni nv m7 xa ej ea eb eg
theorem bv32{a:Int}(h:0<=a/\a<4294967296):(BitVec.ofInt 32 a).toNat=a.toNat:=by
 rw[BitVec.toNat_ofInt];have:((2^32:Nat):Int)=4294967296:=by decide
 rw[this];omega
theorem i8{a b:Int}{k:Nat}(Z:0<=a/\a<((2^k:Nat):Int))(T:0<=b)(h:a+b *((2^k:Nat):Int)<4294967296):or3 a (b *((2^k:Nat):Int))=a+b *((2^k:Nat):Int):=by
 have e:or3 a (b *((2^k:Nat):Int))=IntKind.u32.wrap ((BitVec.ofInt 32 a|||BitVec.ofInt 32 (b *((2^k:Nat):Int))).toNat:Int):=rfl;have N:0<=b *((2^k:Nat):Int):=Int.mul_nonneg T (a1E _);obtain⟨m,rfl⟩: ∃m:Nat,b=(m:Int):=⟨b.toNat,by omega⟩
 obtain⟨n,rfl⟩: ∃n:Nat,a=(n:Int):=⟨a.toNat,by omega⟩
 have U:n<2^k:=M
 have E:((m:Int) *((2^k:Nat):Int)).toNat=m<<<k:=by rw[←a22,a0E,a2j]
 rw[e,BitVec.toNat_or,bv32 M,bv32 M,E,a0E,Nat.or_comm,←Nat.shiftLeft_add_eq_or_of_lt U,w32,a2j];rw[←a22]at h⊢;omega
theorem and32{a:Int}(h:0<=a/\a<4294967296)(k:Nat)(Z:k<32):aD .and .u32 a (((2^k-1:Nat)):Int)=a%((2^k:Nat):Int):=by
 have e:aD .and .u32 a (((2^k-1:Nat)):Int)=IntKind.u32.wrap ((BitVec.ofInt 32 a&&&BitVec.ofInt 32 (((2^k-1:Nat)):Int)).toNat:Int):=rfl;have hp:(2^k:Nat)<2^32:=a1X M Z;have E:0<(2^k:Nat):=Nat.pow_pos M;have N:(2:Nat)^32=4294967296:=by decide
 rw[N]at hp;rw[e,BitVec.toNat_and,bv32 h,bv32 M,a0E,Nat.and_two_pow_sub_one_eq_mod,w32];have U:((a.toNat%2^k:Nat):Int)=a%((2^k:Nat):Int):=by rw[Int.natCast_emod,a0Y h.1]
 have T:a.toNat%2^k<2^k:=Nat.mod_lt _ E;omega
theorem sh_val{b:Int}{k:Nat}(T:k<=32)(E:0<=b)(h:b *((2^k:Nat):Int)<4294967296):sh3 b k=b *((2^k:Nat):Int):=by
 have e:(2:Int)^(Nat.min k 32)=((2^k:Nat):Int):=by rw[show Nat.min k 32=k from a1y T,a2v];rfl
 have N:0<=b *((2^k:Nat):Int):=Int.mul_nonneg E (a1E _);show IntKind.u32.wrap (b *2^(Nat.min k 32))=_;rw[e,w32];omega
theorem u3_id{n:Int}(h:0<=n/\n<4294967296):u3 n=n:=by show IntKind.u32.wrap n=n;rw[w32];omega
theorem hd_val{i:InsT}(v:VldI i):hdW i=i.op+64 *i.a+512 *i.b+4096 *i.c:=by
 have ho:=v.o;have ha:=v.a;have hb:=v.b;have hc:=v.c;have N:((2^6:Nat):Int)=64:=by decide
 have T:((2^9:Nat):Int)=512:=by decide
 have E:((2^12:Nat):Int)=4096:=by decide
 unfold hdW;rw[u3_id (n:=i.op) M,u3_id (n:=i.a) M,u3_id (n:=i.b) M,u3_id (n:=i.c) M,sh_val e_ M (by rw[N];omega),sh_val e_ M (by rw[T];omega),sh_val e_ M (by rw[E];omega)];have U:=i8 (a:=i.op) (b:=i.a) (k:=6) (by rw[N];omega) M (by rw[N];omega);rw[U];rw[N]at U⊢;have a_:=i8 (a:=i.op+i.a *64) (b:=i.b) (k:=9) (by rw[T];omega) M (by rw[T];omega);rw[a_];rw[T]at a_⊢;have Z:=i8 (a:=i.op+i.a *64+i.b *512) (b:=i.c) (k:=12) (by rw[E];omega) M (by rw[E];omega);rw[Z,E];omega
def fwW(i:InsT):Int:=if(aE i.op).f=6 then hdW i else or3 (hdW i) (sh3 (u3 i.n) (shN (aE i.op).f))
def nuW(i:InsT):Int:=if(aE i.op).f=8 then 64 *(i.n%67108864) else if(aE i.op).f=5 then 512 *(i.n%8388608) else if(aE i.op).f=7 then 4096 *(i.n%1048576) else 0
theorem fw_rng(i:InsT):0<=fwW i/\fwW i<4294967296:=by
 unfold fwW;split
 ·exact hd_rng i
 exact gz _ _ _
theorem sh_m6(n:Int):sh3 (u3 n) 6=(n%67108864) *((2^6:Nat):Int):=by show IntKind.u32.wrap (IntKind.u32.wrap n *2^(Nat.min 6 32))=_;simp only[w32,show(2:Int)^(Nat.min 6 32)=64 from by decide,show((2^6:Nat):Int)=64 from by decide];omega
theorem sh_m9(n:Int):sh3 (u3 n) 9=(n%8388608) *((2^9:Nat):Int):=by show IntKind.u32.wrap (IntKind.u32.wrap n *2^(Nat.min 9 32))=_;simp only[w32,show(2:Int)^(Nat.min 9 32)=512 from by decide,show((2^9:Nat):Int)=512 from by decide];omega
theorem sh_m12(n:Int):sh3 (u3 n) 12=(n%1048576) *((2^12:Nat):Int):=by show IntKind.u32.wrap (IntKind.u32.wrap n *2^(Nat.min 12 32))=_;simp only[w32,show(2:Int)^(Nat.min 12 32)=4096 from by decide,show((2^12:Nat):Int)=4096 from by decide];omega
theorem fw_val{i:InsT}(v:VldI i):fwW i=i.op+64 *i.a+512 *i.b+4096 *i.c+nuW i:=by
 have hh:=hd_val v;have ho:=v.o;have ha:=v.a;have hb:=v.b;have hc:=v.c;have a0:=v.a0;have b0:=v.b0;have c0:=v.c0;unfold fwW nuW;by_cases a_:(aE i.op).f=6
 ·rw[if_pos a_,a_,if_neg e_,if_neg e_,if_neg e_,hh];omega
 rw[if_neg a_];by_cases U:(aE i.op).f=8
 ·rw[U]at a0 b0 c0;have a0:=a0 e_;have b0:=b0 e_;have c0:=c0 e_;have e:sh3 (u3 i.n) (shN 8)=(i.n%67108864) *((2^6:Nat):Int):=sh_m6 i.n;have Z:((2^6:Nat):Int)=64:=by decide
  rw[U,if_pos V,e,hh,i8 (by rw[Z];omega) M (by rw[Z];omega),Z];omega
 rw[if_neg U];by_cases N:(aE i.op).f=5
 ·rw[N]at b0 c0;have b0:=b0 e_;have c0:=c0 e_;have e:sh3 (u3 i.n) (shN 5)=(i.n%8388608) *((2^9:Nat):Int):=sh_m9 i.n;have p9:((2^9:Nat):Int)=512:=by decide
  rw[N,if_pos V,e,hh,i8 (by rw[p9];omega) M (by rw[p9];omega),p9];omega
 rw[if_neg N];by_cases T:(aE i.op).f=7
 ·rw[T]at c0;have c0:=c0 e_;have e:sh3 (u3 i.n) (shN 7)=(i.n%1048576) *((2^12:Nat):Int):=sh_m12 i.n;have E:((2^12:Nat):Int)=4096:=by decide
  rw[T,if_pos V,e,hh,i8 (by rw[E];omega) M (by rw[E];omega),E];omega
 have e2:shN (aE i.op).f=32:=by unfold shN;rw[if_neg U,if_neg N,if_neg T]
 rw[if_neg T,e2,sh_32,or_zero (hd_rng i),hh];omega
theorem n_lim: ∀k:Fin 37,((aE ((k.val:Int)+1)).f=8-> -33554432<=loN ((k.val:Int)+1)/\hiN ((k.val:Int)+1)<33554432)/\((aE ((k.val:Int)+1)).f=5-> -4194304<=loN ((k.val:Int)+1)/\hiN ((k.val:Int)+1)<4194304)/\((aE ((k.val:Int)+1)).f=7-> -524288<=loN ((k.val:Int)+1)/\hiN ((k.val:Int)+1)<524288):=by decide
theorem n_zero: ∀k:Fin 37,(aE ((k.val:Int)+1)).f=8\/(aE ((k.val:Int)+1)).f=5\/(aE ((k.val:Int)+1)).f=7\/(aE ((k.val:Int)+1)).f=6\/(loN ((k.val:Int)+1)=0/\hiN ((k.val:Int)+1)=0):=by decide
structure FwF(i:InsT)(x:Int):Prop where
 o:x%64=i.op
 a:fA (aE i.op).f->x/64%8=i.a
 b:fB (aE i.op).f->x/512%8=i.b
 c:(aE i.op).f=4->x/4096%8=i.c
 n8:(aE i.op).f=8->x/64=i.n%67108864/\ -33554432<=i.n/\i.n<33554432
 n5:(aE i.op).f=5->x/512=i.n%8388608/\ -4194304<=i.n/\i.n<4194304
 n7:(aE i.op).f=7->x/4096=i.n%1048576/\ -524288<=i.n/\i.n<524288
 n0: ¬((aE i.op).f=8\/(aE i.op).f=5\/(aE i.op).f=7\/(aE i.op).f=6)->i.n=0
theorem fw_f{i:InsT}(v:VldI i):FwF i (fwW i):=by
 have Z:=fw_val v;have ho:=v.o;have ha:=v.a;have hb:=v.b;have hc:=v.c;have a0:=v.a0;have b0:=v.b0;have c0:=v.c0;obtain⟨k,hk⟩:=ex37 v.o;obtain⟨U,N,T⟩:=n_lim k;have a_:=n_zero k;rw[←hk]at U N T a_;have E: ∀k:Fin 37,(aE ((k.val:Int)+1)).f=6\/((k.val:Int)+1)≠14:=by decide
 have E:=E k;rw[←hk]at E;unfold nuW at Z;refine⟨?_,fun h=>?_,fun h=>?_,fun h=>?_,fun h=>?_,fun h=>?_,fun h=>?_,fun h=>?_⟩
 ·split at Z
  ·omega
  split at Z
  ·omega
  split at Z<;>omega
 ·split at Z
  ·rename_i e;rw[e]at h;exact absurd h e_
  split at Z
  ·omega
  split at Z<;>omega
 ·split at Z
  ·rename_i e;rw[e]at h;exact absurd h e_
  split at Z
  ·rename_i e;rw[e]at h;exact absurd h e_
  split at Z<;>omega
 ·split at Z
  ·omega
  split at Z
  ·omega
  split at Z<;>omega
 ·have hn:=v.n M;have:=U h;rw[h]at a0 b0 c0;have a0:=a0 e_;have b0:=b0 e_;have c0:=c0 e_;rw[if_pos h]at Z;omega
 ·have hn:=v.n M;have:=N h;rw[h]at b0 c0;have b0:=b0 e_;have c0:=c0 e_;rw[if_neg M,if_pos h]at Z;omega
 ·have hn:=v.n M;have:=T h;rw[h]at c0;have c0:=c0 e_;rw[if_neg M,if_neg M,if_pos h]at Z;omega
 have hn:=v.n M;omega
def PreW(i:InsT)(w:List U32)(k:Nat):Prop:=(w.drop k).take (enW i).length=enW i
theorem en_pos(i:InsT):1<=(enW i).length:=by unfold enW;split<;>simp
theorem mq{i:InsT}{w:List U32}{k:Nat}(h:PreW i w k){j:Nat}(E:j<(enW i).length):k+j<w.length/\w.getD (k+j) default=(enW i).getD j default:=by unfold PreW at h;have N:=congrArg List.length h;rw[a0p,a0H]at N;refine⟨by omega,?_⟩;rw[←h,a02,a02,List.getElem?_take_of_lt E,a0L]
theorem pre_0{i:InsT}{w:List U32}{k:Nat}(h:PreW i w k):k<w.length/\(w.getD k default).n=fwW i:=by have E:=mq h (j:=0) (en_pos i);refine⟨E.1,?_⟩;rw[show w.getD k default=w.getD (k+0) default from V,E.2];unfold enW fwW;split<;>rfl
theorem pre_6{i:InsT}{w:List U32}{k:Nat}(h:PreW i w k)(T:(aE i.op).f=6):k+2<w.length/\(w.getD (k+1) default).n=i.n%4294967296/\(w.getD (k+2) default).n=i.n%18446744073709551616/4294967296:=by
 have e:enW i=[⟨hdW i⟩,⟨u3 i.n⟩,⟨u3 (Int.fdiv (u6 i.n) (2^(Nat.min 32 64)))⟩]:=by unfold enW;rw[if_pos T]
 have N:=mq h (j:=1) (by rw[e];simp);have E:=mq h (j:=2) (by rw[e];simp);refine⟨E.1,?_,?_⟩
 ·rw[N.2,e];exact w32 _
 rw[E.2,e];show IntKind.u32.wrap (Int.fdiv (IntKind.u64.wrap i.n) (2^(Nat.min 32 64)))=_;rw[w32,fX,show(2:Int)^(Nat.min 32 64)=4294967296 from by decide,a1A _ e_];omega
end ep
open ep
namespace fa
variable (ex:FuncId) {F:Fz} {H:Heap} {R:List Fp}
theorem fd_eq{x:Int}(h:0<=x)(k:Nat)(E:k<=32):Int.fdiv x (2^(Nat.min k 32))=x/((2^k:Nat):Int):=by rw[show Nat.min k 32=k from a1y E,a1A _ (Int.le_of_lt (Int.pow_pos e_)),a2v];rfl
theorem fd_rng{x:Int}(h:0<=x/\x<4294967296)(k:Nat):0<=Int.fdiv x (2^(Nat.min k 32))/\Int.fdiv x (2^(Nat.min k 32))<4294967296:=by have E:(0:Int)<2^(Nat.min k 32):=Int.pow_pos e_;rw[a1A _ (Int.le_of_lt E)];exact⟨Int.ediv_nonneg h.1 (Int.le_of_lt E),Int.lt_of_le_of_lt (Int.ediv_le_self _ h.1) h.2⟩
theorem cn{x:Int}(h:0<=x/\x<4294967296)(k:Nat): -9223372036854775808<=Int.fdiv x (2^(Nat.min k 32))/\Int.fdiv x (2^(Nat.min k 32))<9223372036854775808:=by have:=fd_rng h k;omega
theorem bZ(op:BinOp)(a b:Int): -9223372036854775808<=aD op .u32 a b/\aD op .u32 a b<9223372036854775808:=by have:=gz op a b;omega
theorem d_op{z:InsT}{x:Int}(E:FwF z x)(N:0<=x/\x<4294967296):aD .and .u32 x 63=z.op:=(and32 N 6 e_).trans E.o
theorem d_7{x:Int}(E:0<=x/\x<4294967296)(k:Nat)(N:k<=32):aD .and .u32 (Int.fdiv x (2^(Nat.min k 32))) 7=x/((2^k:Nat):Int)%8:=by have h:=and32 (fd_rng E k) 3 e_;rw[fd_eq E.1 k N]at h⊢;exact h
theorem f_cas{z:InsT}(v:VldI z):1<=aI z.op/\aI z.op<=8:=by rw[v.ff];obtain⟨k,E⟩:=ex37 v.o;rw[E];exact f_rng k
theorem dA_y{z:InsT}{x:Int}(v:VldI z)(E:FwF z x)(N:0<=x/\x<4294967296)(h:((aI z.op !=1)&&(aI z.op !=8))=true):aD .and .u32 (Int.fdiv x (2^(Nat.min 6 32))) 7=z.a:=by have T:=f_cas v;simp only[a09,bne_iff_ne,ne_eq]at h;rw[d_7 N 6 e_];exact E.a (by rw[←v.ff];unfold fA;omega)
theorem dA_n{z:InsT}(v:VldI z)(h:((aI z.op !=1)&&(aI z.op !=8))=false):(0:Int)=z.a:=by
 have N: ¬(aI z.op≠1/\aI z.op≠8):=fun E=>by rw[bne_iff_ne.2 E.1,bne_iff_ne.2 E.2]at h;cases h
 exact(v.a0 (by rw[←v.ff];unfold fA;omega)).symm
theorem dB_y{z:InsT}{x:Int}(v:VldI z)(E:FwF z x)(N:0<=x/\x<4294967296)(h:(((aI z.op==3)||(aI z.op==4))||(aI z.op==7))=true):aD .and .u32 (Int.fdiv x (2^(Nat.min 9 32))) 7=z.b:=by simp only[a0A,beq_iff_eq]at h;rw[d_7 N 9 e_];exact E.b (by rw[←v.ff];unfold fB;omega)
theorem dB_n{z:InsT}(v:VldI z)(h:(((aI z.op==3)||(aI z.op==4))||(aI z.op==7))=false):(0:Int)=z.b:=by simp only[a1l,beq_eq_false_iff_ne,ne_eq]at h;exact(v.b0 (by rw[←v.ff];unfold fB;omega)).symm
theorem dC_y{z:InsT}{x:Int}(v:VldI z)(E:FwF z x)(N:0<=x/\x<4294967296)(h:(aI z.op==4)=true):aD .and .u32 (Int.fdiv x (2^(Nat.min 12 32))) 7=z.c:=by rw[d_7 N 12 e_];exact E.c (by rw[←v.ff];exact beq_iff_eq.1 h)
theorem dC_n{z:InsT}(v:VldI z)(h:(aI z.op==4)=false):(0:Int)=z.c:=(v.c0 (by rw[←v.ff];exact beq_eq_false_iff_ne.1 h)).symm
def nuI(z:InsT):Int:=if aI z.op=6 then 0 else z.n
theorem fnb_cas{z:InsT}(h:(decide ((0:Int)<((fq (aI z.op):Nat):Int)))=true):aI z.op=8\/aI z.op=5\/aI z.op=7:=by
 have h:=of_decide_eq_true h;unfold fq at h;split at h
 ·exact .inl ‹_›
 split at h
 ·exact .inr (.inl ‹_›)
 split at h
 ·exact .inr (.inr ‹_›)
 exact absurd h e_
theorem fnb_le{f:Int}(h:f=8\/f=5\/f=7):1<=fq f/\fq f<=26:=by rcases h with h|h|h<;>subst h<;>decide
theorem d_sh{z:InsT}{x:Int}(hr:0<=x/\x<4294967296){f:Int}{k m:Nat}(e:aI z.op=f)(N:jG f=k)(T:fq f=m)(hk:k<=32)(hm:1<=m/\m<=30):Int.fdiv x (2^(Nat.min (jG (aI z.op)) 32))=x/((2^k:Nat):Int)/\IntKind.i64.wrap (1 *2^(Nat.min ((((fq (aI z.op):Nat):Int)-1).toNat) 64))=((2^(m-1):Nat):Int)/\IntKind.i64.wrap (1 *2^(Nat.min (fq (aI z.op)) 64))=((2^m:Nat):Int):=by
 rw[e,N,T];have hp: ∀n,n<=30->IntKind.i64.wrap (1 *2^(Nat.min n 64))=((2^n:Nat):Int):=fun n hn=>by
  rw[show Nat.min n 64=n from a1y M,IntKind.wrap_i64,a2v,Int.one_mul];have U:(2:Nat)^n<=2^30:=a2m e_ hn;have E:((2^n:Nat):Int)=(2:Int)^n:=a2v 2 n;have a_:(2:Nat)^30=1073741824:=by decide
  have Z:(0:Int)<=(2:Int)^n:=by rw[←E];exact a1E _
  have h5:(2:Int)^n<=1073741824:=by rw[←E];omega
  show _=((2:Nat):Int)^n;rw[show((2:Nat):Int)=2 from rfl];omega
 exact⟨fd_eq hr.1 k hk,by rw[show(((m:Nat):Int)-1).toNat=m-1 by omega];exact hp _ M,hp _ M⟩
theorem d_n{z:InsT}{x:Int}(v:VldI z)(hF:FwF z x)(hr:0<=x/\x<4294967296)(h:aI z.op=8\/aI z.op=5\/aI z.op=7):(IntKind.i64.wrap (1 *2^(Nat.min ((((fq (aI z.op):Nat):Int)-1).toNat) 64))<=Int.fdiv x (2^(Nat.min (jG (aI z.op)) 32))->Int.fdiv x (2^(Nat.min (jG (aI z.op)) 32))-IntKind.i64.wrap (1 *2^(Nat.min (fq (aI z.op)) 64))=nuI z)/\(¬IntKind.i64.wrap (1 *2^(Nat.min ((((fq (aI z.op):Nat):Int)-1).toNat) 64))<=Int.fdiv x (2^(Nat.min (jG (aI z.op)) 32))->Int.fdiv x (2^(Nat.min (jG (aI z.op)) 32))=nuI z):=by
 have hn:nuI z=z.n:=by unfold nuI;rw[if_neg M]
 rw[hn];have an:((2^26:Nat):Int)=67108864:=by decide
 have ag:((2^(26-1):Nat):Int)=33554432:=by decide
 have aa:((2^23:Nat):Int)=8388608:=by decide
 have Z:((2^(23-1):Nat):Int)=4194304:=by decide
 have a_:((2^20:Nat):Int)=1048576:=by decide
 have U:((2^(20-1):Nat):Int)=524288:=by decide
 have p6:((2^6:Nat):Int)=64:=by decide
 have p9:((2^9:Nat):Int)=512:=by decide
 have ap:((2^12:Nat):Int)=4096:=by decide
 have ff:=v.ff;rcases h with h|h|h
 ·obtain⟨E,N,T⟩:=d_sh (k:=6) (m:=26) hr h V V e_ e_;have:=hF.n8 M;rw[E,N,T,ag,an,p6];omega
 ·obtain⟨E,N,T⟩:=d_sh (k:=9) (m:=23) hr h V V e_ e_;have:=hF.n5 M;rw[E,N,T,Z,aa,p9];omega
 obtain⟨E,N,T⟩:=d_sh (k:=12) (m:=20) hr h V V e_ e_;have:=hF.n7 M;rw[E,N,T,U,a_,ap];omega
theorem dN_n{z:InsT}{x:Int}(v:VldI z)(T:FwF z x)(h:(decide ((0:Int)<((fq (aI z.op):Nat):Int)))=false):(0:Int)=nuI z:=by
 have h:=of_decide_eq_false h;unfold nuI;split
 ·rfl
 rename_i N;refine(T.n0 ?_).symm;rw[←v.ff];intro E;rcases E with e|e|e|e
 ·rw[e]at h;exact h e_
 ·rw[e]at h;exact h e_
 ·rw[e]at h;exact h e_
 exact N e
theorem or64_add{a b:Int}(N:0<=a/\a<4294967296)(T:0<=b/\b<4294967296):aD .or .u64 a (IntKind.u64.wrap (b *2^(Nat.min 32 64)))=a+b *4294967296:=by
 obtain⟨m,rfl⟩: ∃m:Nat,b=(m:Int):=⟨b.toNat,by omega⟩
 obtain⟨n,rfl⟩: ∃n:Nat,a=(n:Int):=⟨a.toNat,by omega⟩
 have E:IntKind.u64.wrap ((m:Int) *2^(Nat.min 32 64))=((m<<<32:Nat):Int):=by
  rw[fX,a2j,show(2:Int)^(Nat.min 32 64)=4294967296 from by decide];have:((m *2^32:Nat):Int)=(m:Int) *4294967296:=by rw[a22];rfl
  rw[this];omega
 rw[E];have e:aD .or .u64 (n:Int) ((m<<<32:Nat):Int)=IntKind.u64.wrap ((BitVec.ofInt 64 (n:Int)|||BitVec.ofInt 64 ((m<<<32:Nat):Int)).toNat:Int):=rfl;have hs:((m<<<32:Nat):Int)=(m:Int) *4294967296:=by rw[a2j,a22];rfl
 have q: ∀c:Nat,c<18446744073709551616->(BitVec.ofInt 64 (c:Int)).toNat=c:=fun c hc=>by
  rw[BitVec.toNat_ofInt];have:((2^64:Nat):Int)=18446744073709551616:=by decide
  rw[this];omega
 rw[e,BitVec.toNat_or,q n M,q (m<<<32) M,Nat.or_comm,←Nat.shiftLeft_add_eq_or_of_lt M,fX];rw[Int.natCast_add,hs];omega
theorem d_wide{z:InsT}{w:List U32}{k:Nat}(U:PreW z w k)(Z:in64 z.n)(T:aI z.op=6)(v:VldI z):IntKind.i64.wrap (aD .or .u64 (w.getD (k+1) v_).n (IntKind.u64.wrap ((w.getD (k+2) v_).n *2^(Nat.min 32 64))))=z.n:=by obtain⟨_,E,N⟩:=pre_6 U (by rw[←v.ff];exact T);rw[E,N,or64_add M M,IntKind.wrap_i64];omega
theorem wd_6: ∀k:Fin 37,(aE ((k.val:Int)+1)).w=if aI ((k.val:Int)+1)=6 then 3 else 1:=by decide
theorem wd_f{z:InsT}(v:VldI z):wdI z=if aI z.op=6 then 3 else 1:=by obtain⟨k,E⟩:=ex37 v.o;unfold wdI;rw[E];exact wd_6 k
theorem nD{z:InsT}{a b c n:Int}(E:a=z.a)(N:b=z.b)(hc:c=z.c)(T:n=z.n):(⟨z.op,a,b,c,n⟩:InsT)=z:=by subst E N hc T;rfl
theorem enc_1l(y:InsT):0<(eC ([y]:List InsT)).length:=by have:=en_pos y;rw[show eC [y]=enW y++[] from V,a0o];omega
theorem enc_1{z y:InsT}(h:y=z):(eC [y]).getD 0 v_=⟨fwW z⟩:=by subst h;unfold eC enW fwW;simp only[List.flatMap_cons,List.flatMap_nil,a0o];split<;>rfl
theorem cf_c(i:InsT)(hs:HS (.of H []) F H [] R)(U:in64 i.op)(a_:in64 i.a)(Z:in64 i.b)(aa:in64 i.c)(ag:in64 i.n)(hT:TB 37 tabC F)(hv:VldI i):kKt ex 49 [(aG [(iI i.op),(iI i.a),(iI i.b),(iI i.c),(iI i.n)])] H fun v H'=> ∃(a:Bool) (b:Bool) (F':Fz),Fz.le F F'/\HS (.of H []) F' H' [] R/\v= .tuple ⟨[.bool a,.bool b]⟩/\a=(((i.op !=2)&&(i.op !=4))&&(i.op !=5))/\b=(((i.op==5)||(i.op==7))||(i.op==8)):=by
 refine aC Tryz.func49 V V ?_;refine am 1 V ?_;refine ab ?_;refine bd (aR hs V V) V V ?_;rintro _ H2 _ ⟨b1,rfl,N,_⟩;refine wTo 2 1 [] 2 3 [] [(2,(.bool false)),(3,(.bool false))] V fun _=>?_
 refine ah 3 V ?_;refine ab ?_;refine aY 1 0 4 4 [] [(4,(aG [(iI i.op),(iI i.a),(iI i.b),(iI i.c),(iI i.n)]))] (Hr_ 0 0 Hn_) N V V fun _=>?_
 refine cu (aO V V V) V V (ed.rval_c ex i (HS.call N) M M M M M hT M) ?_;rintro _ H5 ⟨r5,F5,T,E,rfl,rfl⟩;replace E:=HS.back N V E;refine bL 1 2 6 6 [] [(6,(.bool false))] Hn_ (by kernel_rfl) V fun _=>?_
 refine ah 1 V ?_;refine bW 2 (v:=false) V V V V ?_;refine sdr0 1 7 32 [2,3] [(2,(.bool (((i.op !=2)&&(i.op !=4))&&(i.op !=5)))),(3,(.bool (((i.op==5)||(i.op==7))||(i.op==8))))] (Hr_ 1 0 (be 5 (fun _=>(ql 3 0 (hc0 (h_ E V)) V V)) (be 10 (fun _=>(ql 3 0 (hc0 (h_ E V)) V V)) (Hr_ 14 0 (be 18 (fun _=>(ql 3 0 (hc0 (h_ E V)) V V)) (be 23 (fun _=>(ql 3 0 (hc0 (h_ E V)) V V)) Hn_)))))) E V V V fun _=>?_
 refine aj ⟨.inr V,_,V,(((i.op !=2)&&(i.op !=4))&&(i.op !=5)),(((i.op==5)||(i.op==7))||(i.op==8)),_,(T),(HS.forget E),V,m_,m_⟩
theorem dec_c{dj:Option Addr}{d2:Nat}(w:List U32)(ad:Int)(hs:HS (.of H []) F H [] R)(hw:SR F (sL dj w.length d2) w)(k8:in64 ad)(hT:TB 37 tabC F)(z:InsT)(hv:VldI z)(ik:in64 z.n)(hp:PreW z w ad.toNat)(k9:0<=ad)(lf:w.length<=1000000):kKt ex 93 [(sL dj w.length d2),(iI ad)] H fun v H'=> ∃(x:InsT) (n:Int) (e:Int) (F':Fz),Fz.le F F'/\HS (.of H []) F' H' [] R/\v= .tuple ⟨[.agg ⟨[iI x.op,iI x.a,iI x.b,iI x.c,iI x.n]⟩,iI n,iI e]⟩/\in64 x.op/\in64 x.a/\in64 x.b/\in64 x.c/\in64 x.n/\e=0/\(x=z)/\(n=wdI z):=by
 have f3:=pre_0 hp;have ld:=f_cas hv;have h2:=hv.o;have h3:=hv.a;have h4:=hv.b;have h5:=hv.c;have li:=fW z;have ai: -9223372036854775808<=nuI z/\nuI z<9223372036854775808:=by unfold nuI;split<;>omega
 refine aC Tryz.func93 V V ?_;refine am 1 V ?_;refine ab ?_;refine zn hs V fun b1 H2 c5=>?_
 refine wTo 2 1 [] 5 6 [] [(5,(iI 0)),(6,(iI 0))] V fun _=>?_
 refine ah 3 V ?_;refine wT 1 [] 15 22 [] [(22,(.bool ((decide (ad<0))||(decide ((w.length:Int)<=ad)))))] V fun _=>?_
 refine bW 2 (v:=((decide (ad<0))||(decide ((w.length:Int)<=ad)))) V l_ V V ?_;obtain⟨hH,dv⟩:=Sv.view (SR.sv hw c5);have g6:=fU3 (dv ad.toNat);refine wrp 2 24 27 [7] [(7,(.int .u32 (w.getD ad.toNat v_).n))] (Ha_ (Sv.ix (j:=ad) (SR.sv hw c5) (by first|(dsimp only;omega)|omega|exact bZ _ _ _|exact cn hr _|(rw[E];exact ai)) (by first|(dsimp only;omega)|omega|exact bZ _ _ _|exact cn hr _|(rw[E];exact ai))) (Hl_ 3 (ql 160 0 (vU3 (dv ad.toNat) (by first|(dsimp only;omega)|omega|exact bZ _ _ _|exact cn hr _|(rw[E];exact ai))) V V) Hn_)) (by kernel_rfl) V fun _=>?_
 generalize kp:(w.getD ad.toNat v_).n=xw at *
 have hd:xw=fwW z:=f3.2;have hF:FwF z xw:=by rw[hd];exact fw_f hv
 have hr:0<=xw/\xw<4294967296:=by rw[hd];exact fw_rng z
 refine ab ?_;refine bL 4 0 28 31 [] [(31,(aG [(iI (aD .and .u32 xw 63)),(iI 0),(iI 0),(iI 0),(iI 0)]))] (Ha_ (vi (n:=aD .and .u32 xw 63) (by first|(dsimp only;omega)|omega|exact bZ _ _ _|exact cn hr _|(rw[E];exact ai))) Hn_) (by kernel_rfl) V fun _=>?_
 refine zn c5 V fun b9 hf e0=>?_
 refine sgo 1 5 1 0 [] [] (Hr_ 5 1 Hn_) e0 V V fun f7 f1 a4=>?_
 refine ah 2 V ?_;generalize el:aD .and .u32 xw 63=yo at *
 have h9:yo=z.op:=by rw[←el];exact d_op hF hr
 clear el;subst h9;have f6:=iP z.op;refine aU 3 32 34 [9] [(9,(iI (aI z.op)))] (Hr_ 1 1 (Hc_ 2 (m1.ke ex z.op f1) Hn_)) a4 V V fun _=>?_
 refine wT 1 [] 35 36 [] [(36,(.bool (aI z.op==0)))] V fun _=>?_
 refine bW 3 (v:=(aI z.op==0)) V l_ V V ?_;refine wT 1 [] 38 43 [] [(43,(.bool ((aI z.op !=1)&&(aI z.op !=8))))] V fun _=>?_
 let ay:Fp:=(fP b1 [(iI 0),(iI 0),(iI 0),(iI 0),(iI 0)])
 refine bj (fun f H'=> ∃(ra:Int) (F':Fz),Fz.le F F'/\HS (Base.of H []) F' H' [ay,(fP b9 [(iI z.op),(iI ra),(iI 0),(iI 0),(iI 0)])] R/\aB f [(0,(sL dj w.length d2)),(1,(iI ad)),(4,(pT b1 0)),(7,(.int .u32 xw)),(8,(pT b9 0)),(9,(iI (aI z.op)))]/\(ra=z.a)/\(in64 ra)) (fun dl=>?_) ?_
 ·refine eV 0 0 (v:=((aI z.op !=1)&&(aI z.op !=8))) V V V V (fun T=>?_) (fun T=>?_)
  ·have bb:=T;try simp only[BS]at bb
   have av:=T;refine sgr 0 44 48 [] [] (Ha_ (show(0:Int)<=6 from by decide) (Ha_ (vi (n:=aD .and .u32 (Int.fdiv xw (2^(Nat.min 6 32))) 7) (by first|(dsimp only;omega)|omega|exact bZ _ _ _|exact cn hr _|(rw[E];exact ai))) (Hr_ 5 1 Hn_))) a4 V V fun f8 hh e1=>?_
   exact dl _ _ ⟨aD .and .u32 (Int.fdiv xw (2^(Nat.min 6 32))) 7,_,fR,e1,f_,(by first|exact dA_y hv hF hr av|exact dA_n hv av),(by first|exact bZ _ _ _|decide)⟩
  have bb:=T;try simp only[BS]at bb
  have av:=T;exact dl _ _ ⟨0,_,fR,a4,f_,(by first|exact dA_y hv hF hr av|exact dA_n hv av),(by first|exact bZ _ _ _|decide)⟩
 skip;rintro hJ hg ⟨ra,fd,aA,co,b7,ha,hS⟩;refine au _ b7 (fun _=>?_);clear b7;replace hT:=hT.mono aA;replace hw:=hw.mono aA;refine am 3 V ?_;refine wT 1 [] 49 58 [] [(58,(.bool (((aI z.op==3)||(aI z.op==4))||(aI z.op==7))))] V fun _=>?_
 refine bj (fun f H'=> ∃(rb:Int) (F':Fz),Fz.le fd F'/\HS (Base.of H []) F' H' [ay,(fP b9 [(iI z.op),(iI ra),(iI rb),(iI 0),(iI 0)])] R/\aB f [(0,(sL dj w.length d2)),(1,(iI ad)),(4,(pT b1 0)),(7,(.int .u32 xw)),(8,(pT b9 0)),(9,(iI (aI z.op)))]/\(rb=z.b)/\(in64 rb)) (fun dn=>?_) ?_
 ·refine eV 0 0 (v:=(((aI z.op==3)||(aI z.op==4))||(aI z.op==7))) V V V V (fun U=>?_) (fun U=>?_)
  ·have bk:=U;try simp only[BS]at bk
   have aw:=U;refine sgr 0 59 63 [] [] (Ha_ (show(0:Int)<=9 from by decide) (Ha_ (vi (n:=aD .and .u32 (Int.fdiv xw (2^(Nat.min 9 32))) 7) (by first|(dsimp only;omega)|omega|exact bZ _ _ _|exact cn hr _|(rw[E];exact ai))) (Hr_ 5 1 Hn_))) co V V fun f9 hl e2=>?_
   exact dn _ _ ⟨aD .and .u32 (Int.fdiv xw (2^(Nat.min 9 32))) 7,_,fR,e2,f_,(by first|exact dB_y hv hF hr aw|exact dB_n hv aw),(by first|exact bZ _ _ _|decide)⟩
  have bk:=U;try simp only[BS]at bk
  have aw:=U;exact dn _ _ ⟨0,_,fR,co,f_,(by first|exact dB_y hv hF hr aw|exact dB_n hv aw),(by first|exact bZ _ _ _|decide)⟩
 skip;rintro hK hj ⟨rb,fi,a1,c6,b8,hb,hV⟩;refine au _ b8 (fun _=>?_);clear b8;replace hT:=hT.mono a1;replace hw:=hw.mono a1;refine am 3 V ?_;refine wT 1 [] 64 65 [] [(65,(.bool (aI z.op==4)))] V fun _=>?_
 refine bj (fun f H'=> ∃(rc:Int) (F':Fz),Fz.le fi F'/\HS (Base.of H []) F' H' [ay,(fP b9 [(iI z.op),(iI ra),(iI rb),(iI rc),(iI 0)])] R/\aB f [(0,(sL dj w.length d2)),(1,(iI ad)),(4,(pT b1 0)),(7,(.int .u32 xw)),(8,(pT b9 0)),(9,(iI (aI z.op)))]/\(rc=z.c)/\(in64 rc)) (fun ds=>?_) ?_
 ·refine eV 0 0 (v:=(aI z.op==4)) V V V V (fun a_=>?_) (fun a_=>?_)
  ·have bl:=a_;try simp only[BS]at bl
   have ax:=a_;refine sgr 0 66 70 [] [] (Ha_ (show(0:Int)<=12 from by decide) (Ha_ (vi (n:=aD .and .u32 (Int.fdiv xw (2^(Nat.min 12 32))) 7) (by first|(dsimp only;omega)|omega|exact bZ _ _ _|exact cn hr _|(rw[E];exact ai))) (Hr_ 5 1 Hn_))) c6 V V fun go hq e3=>?_
   exact ds _ _ ⟨aD .and .u32 (Int.fdiv xw (2^(Nat.min 12 32))) 7,_,fR,e3,f_,(by first|exact dC_y hv hF hr ax|exact dC_n hv ax),(by first|exact bZ _ _ _|decide)⟩
  have bl:=a_;try simp only[BS]at bl
  have ax:=a_;exact ds _ _ ⟨0,_,fR,c6,f_,(by first|exact dC_y hv hF hr ax|exact dC_n hv ax),(by first|exact bZ _ _ _|decide)⟩
 skip;rintro hL f2 ⟨rc,fj,a2,c7,cc,hc,hW⟩;refine au _ cc (fun _=>?_);clear cc;replace hT:=hT.mono a2;replace hw:=hw.mono a2;refine am 2 V ?_;refine wU 3 [(1,.o (.tuple ⟨[(.int .u64 ((jG (aI z.op):Nat):Int)),(.int .u64 ((fq (aI z.op):Nat):Int))]⟩))] 71 75 [10,11] [(10,(.int .u64 ((jG (aI z.op):Nat):Int))),(11,(.int .u64 ((fq (aI z.op):Nat):Int)))] (ed.fld_c_q ex (aI z.op) f2) V fun _=>?_
 refine wT 1 [] 76 77 [] [(77,(.bool (decide ((0:Int)<((fq (aI z.op):Nat):Int)))))] V fun _=>?_
 refine bj (fun f H'=> ∃(rn:Int) (F':Fz),Fz.le fj F'/\HS (Base.of H []) F' H' [ay,(fP b9 [(iI z.op),(iI ra),(iI rb),(iI rc),(iI rn)])] R/\aB f [(0,(sL dj w.length d2)),(1,(iI ad)),(4,(pT b1 0)),(7,(.int .u32 xw)),(8,(pT b9 0)),(9,(iI (aI z.op)))]/\(rn=nuI z)/\(in64 rn)) (fun a7=>?_) ?_
 ·refine eV 1 0 (v:=(decide ((0:Int)<((fq (aI z.op):Nat):Int)))) V V V V (fun Z=>?_) (fun Z=>?_)
  ·have bz:=Z;try simp only[BS]at bz
   have ih:=fnb_cas Z;have h0:=fnb_le ih;have ib:=d_n hv hF hr ih;refine sgr 2 78 82 [] [] (Ha_ (show(0:Int)<=((jG (aI z.op):Nat):Int) from by first|(dsimp only;omega)|omega|exact bZ _ _ _|exact cn hr _|(rw[E];exact ai)) (Ha_ (vi (n:=Int.fdiv xw (2^(Nat.min (jG (aI z.op)) 32))) (by first|(dsimp only;omega)|omega|exact bZ _ _ _|exact cn hr _|(rw[E];exact ai))) (Hr_ 5 1 Hn_))) c7 V V fun g2 hu a5=>?_
   refine aU 1 83 88 [] [(88,(.bool (decide (IntKind.i64.wrap (1 *2^(Nat.min ((((fq (aI z.op):Nat):Int)-1).toNat) 64))<=Int.fdiv xw (2^(Nat.min (jG (aI z.op)) 32))))))] (Hr_ 1 1 (Ha_ (vu (n:=((fq (aI z.op):Nat):Int)-1) (by first|(dsimp only;omega)|omega|exact bZ _ _ _|exact cn hr _|(rw[E];exact ai))) (Ha_ (show(0:Int)<=((fq (aI z.op):Nat):Int)-1 from by first|(dsimp only;omega)|omega|exact bZ _ _ _|exact cn hr _|(rw[E];exact ai)) Hn_))) a5 V V fun _=>?_
   refine eV 0 0 (v:=(decide (IntKind.i64.wrap (1 *2^(Nat.min ((((fq (aI z.op):Nat):Int)-1).toNat) 64))<=Int.fdiv xw (2^(Nat.min (jG (aI z.op)) 32))))) V V V V (fun aa=>?_) (fun aa=>?_)
   ·have b2:=aa;try simp only[BS]at b2
    have E:=ib.1 (of_decide_eq_true aa);refine sgr 0 89 94 [] [] (Hr_ 1 1 (Ha_ (show(0:Int)<=((fq (aI z.op):Nat):Int) from by first|(dsimp only;omega)|omega|exact bZ _ _ _|exact cn hr _|(rw[E];exact ai)) (Ha_ (vi (n:=(Int.fdiv xw (2^(Nat.min (jG (aI z.op)) 32)))-(IntKind.i64.wrap (1 *2^(Nat.min (fq (aI z.op)) 64)))) (by first|(dsimp only;omega)|omega|exact bZ _ _ _|exact cn hr _|(rw[E];exact ai))) (Hr_ 6 1 Hn_)))) a5 V V fun g3 hz e4=>?_
    exact a7 _ _ ⟨(Int.fdiv xw (2^(Nat.min (jG (aI z.op)) 32)))-(IntKind.i64.wrap (1 *2^(Nat.min (fq (aI z.op)) 64))),_,fR,e4,f_,(by first|exact dN_n hv hF ci|exact E|exact b6),(by first|exact cn hr _|decide|omega)⟩
   have b2:=aa;try simp only[BS]at b2
   have b6:=ib.2 (of_decide_eq_false aa);exact a7 _ _ ⟨Int.fdiv xw (2^(Nat.min (jG (aI z.op)) 32)),_,fR,a5,f_,(by first|exact dN_n hv hF ci|exact E|exact b6),(by first|exact cn hr _|decide|omega)⟩
  have bz:=Z;try simp only[BS]at bz
  have ci:=Z;exact a7 _ _ ⟨0,_,fR,c7,f_,(by first|exact dN_n hv hF ci|exact E|exact b6),(by first|exact cn hr _|decide|omega)⟩
 skip;rintro hM ht ⟨rn,f0,a3,an,cg,hn,hY⟩;refine au _ cg (fun _=>?_);clear cg;replace hT:=hT.mono a3;replace hw:=hw.mono a3;refine am 2 V ?_;refine wT 3 [] 1 0 [12] [(12,(iI 1))] V fun _=>?_
 refine wT 1 [] 95 96 [] [(96,(.bool (aI z.op==6)))] V fun _=>?_
 refine bj (fun f H'=> ∃(rm:Int) (sz:Int) (F':Fz),Fz.le f0 F'/\HS (Base.of H []) F' H' [ay,(fP b9 [(iI z.op),(iI ra),(iI rb),(iI rc),(iI rm)])] R/\aB f [(4,(pT b1 0)),(7,(.int .u32 xw)),(8,(pT b9 0)),(12,(iI sz))]/\(rm=z.n)/\(in64 rm)/\(sz=wdI z)) (fun dt=>?_) ?_
 ·refine eV 2 0 (v:=(aI z.op==6)) V V V V (fun ag=>?_) (fun ag=>?_)
  ·have b3:=ag;try simp only[BS]at b3
   have N:=beq_iff_eq.1 ag;have h1:=(pre_6 hp (by rw[←hv.ff];exact N)).1;refine wU 1 [] 97 101 [] [(101,(.bool (decide ((w.length:Int)<=ad+2))))] (vi (n:=ad+2) (by first|(dsimp only;omega)|omega|exact bZ _ _ _|exact cn hr _|(rw[E];exact ai))) V fun _=>?_
   refine bW 2 (v:=(decide ((w.length:Int)<=ad+2))) V l_ V V ?_;obtain⟨f4,ar⟩:=Sv.view (SR.sv hw an);have hP:=fU3 (ar (ad+1).toNat);have hQ:=fU3 (ar (ad+2).toNat);refine sdr 1 103 118 [] [] (Ha_ (vi (n:=ad+1) (by first|(dsimp only;omega)|omega|exact bZ _ _ _|exact cn hr _|(rw[E];exact ai))) (Ha_ (Sv.ix (j:=ad+1) (SR.sv hw an) (by first|(dsimp only;omega)|omega|exact bZ _ _ _|exact cn hr _|(rw[E];exact ai)) (by first|(dsimp only;omega)|omega|exact bZ _ _ _|exact cn hr _|(rw[E];exact ai))) (Hl_ 4 (ql 160 0 (hc0 (vU3 (ar (ad+1).toNat) (by first|(dsimp only;omega)|omega|exact bZ _ _ _|exact cn hr _|(rw[E];exact ai)))) V V) (Ha_ (vu (n:=(w.getD (ad+1).toNat v_).n) (by first|(dsimp only;omega)|omega|exact bZ _ _ _|exact cn hr _|(rw[E];exact ai))) (Ha_ (vi (n:=ad+2) (by first|(dsimp only;omega)|omega|exact bZ _ _ _|exact cn hr _|(rw[E];exact ai))) (Ha_ (Sv.ix (j:=ad+2) (SR.sv hw an) (by first|(dsimp only;omega)|omega|exact bZ _ _ _|exact cn hr _|(rw[E];exact ai)) (by first|(dsimp only;omega)|omega|exact bZ _ _ _|exact cn hr _|(rw[E];exact ai))) (Hl_ 10 (ql 160 0 (hc0 (vU3 (ar (ad+2).toNat) (by first|(dsimp only;omega)|omega|exact bZ _ _ _|exact cn hr _|(rw[E];exact ai)))) V V) (Ha_ (vu (n:=(w.getD (ad+2).toNat v_).n) (by first|(dsimp only;omega)|omega|exact bZ _ _ _|exact cn hr _|(rw[E];exact ai))) (Ha_ (show(0:Int)<=32 from by decide) (Hw_ 14 (.w) (Hr_ 16 1 Hn_))))))))))) an V V V fun g4 hB e5=>?_
   refine wT 0 [] 1 0 [12] [(12,(iI 3))] V fun _=>?_
   exact dt _ _ ⟨IntKind.i64.wrap (aD .or .u64 (w.getD (ad+1).toNat v_).n (IntKind.u64.wrap ((w.getD (ad+2).toNat v_).n *2^(Nat.min 32 64)))),3,_,fR,e5,f_,(by first|(rw[show(ad+1).toNat=ad.toNat+1 by omega,show(ad+2).toNat=ad.toNat+2 by omega];exact d_wide hp ik N hv)|(rw[hn];unfold nuI;rw[if_neg N])),(by first|assumption|exact w64_in _),(by rw[wd_f hv];first|rw[if_pos N]|rw[if_neg N])⟩
  have b3:=ag;try simp only[BS]at b3
  have N:=beq_eq_false_iff_ne.1 ag;exact dt _ _ ⟨rn,1,_,fR,an,f_,(by first|(rw[show(ad+1).toNat=ad.toNat+1 by omega,show(ad+2).toNat=ad.toNat+2 by omega];exact d_wide hp ik N hv)|(rw[hn];unfold nuI;rw[if_neg N])),(by first|assumption|exact w64_in _),(by rw[wd_f hv];first|rw[if_pos N]|rw[if_neg N])⟩
 skip;rintro hO hA ⟨rm,sz,g8,b4,c8,ch,hm,hX,hsz⟩;refine au _ ch (fun _=>?_);clear ch;refine am 2 V ?_;refine ab ?_;refine aY 1 0 120 120 [] [(120,(aG [(iI z.op),(iI ra),(iI rb),(iI rc),(iI rm)]))] (Hr_ 0 1 Hn_) c8 V V fun _=>?_
 refine zlo ([(⟨z.op,ra,rb,rc,rm⟩:InsT)]:List InsT) c8 V (RL.cs ⟨V,by first|(dsimp only;omega)|omega|exact bZ _ _ _|exact cn hr _|(rw[E];exact ai),by first|(dsimp only;omega)|omega|exact bZ _ _ _|exact cn hr _|(rw[E];exact ai),by first|(dsimp only;omega)|omega|exact bZ _ _ _|exact cn hr _|(rw[E];exact ai),by first|(dsimp only;omega)|omega|exact bZ _ _ _|exact cn hr _|(rw[E];exact ai),by first|(dsimp only;omega)|omega|exact bZ _ _ _|exact cn hr _|(rw[E];exact ai)⟩ RL.nl) V fun hG h6 h7 hC et e6=>?_
 obtain⟨g9,b5,c9,ez,g7⟩:=OS.frz et e6 (i:=2) V;replace hT:=(hT.mono b4).mono b5;refine cu (aO V V V) V V (ed.renc_c ex ([(⟨z.op,ra,rb,rc,rm⟩:InsT)]:List InsT) (HS.call c9) ez hT (by first|(intro k hk;obtain rfl:k=0:=Nat.lt_one_iff.1 hk;show VldI _;rw[nD ha hb hc hm];exact hv)|simp) (by first|(intro k hk;obtain rfl:k=0:=Nat.lt_one_iff.1 hk;show VldI _;rw[nD ha hb hc hm];exact hv)|simp)) ?_;rintro _ hD ⟨d1,e8,h8,hI,he,ef,ap,rfl,a8,rfl,rfl⟩;replace ap:=HS.back c9 V ap;refine bL 5 3 123 124 [13,14,119] [(13,(sL d1 (eC ([(⟨z.op,ra,rb,rc,rm⟩:InsT)]:List InsT)).length e8)),(14,(iI 0))] Hn_ (by kernel_rfl) V fun _=>?_
 refine ah 3 V ?_;have la:=enc_1l (⟨z.op,ra,rb,rc,rm⟩:InsT);obtain⟨f5,dk⟩:=Sv.view (SR.sv a8 ap);have hR:=fU3 (dk 0);refine wrp 1 125 133 [] [(133,(.bool (false||(((eC ([(⟨z.op,ra,rb,rc,rm⟩:InsT)]:List InsT)).getD 0 v_).n !=xw))))] (Ha_ (fun(g1:false=false)=>(Sv.ix (j:=0) (SR.sv a8 ap) e_ (by(try simp only[BS]at g1);(first|(dsimp only;omega)|omega|exact bZ _ _ _|exact cn hr _|(rw[E];exact ai))))) (be 5 (fun g1=>(ql 160 0 (vU3 (dk 0) (by(try simp only[BS]at g1);(first|(dsimp only;omega)|omega|exact bZ _ _ _|exact cn hr _|(rw[E];exact ai)))) V V)) Hn_)) V V fun _=>?_
 refine bW 2 (v:=(false||(((eC ([(⟨z.op,ra,rb,rc,rm⟩:InsT)]:List InsT)).getD 0 v_).n !=xw))) V (by rw[enc_1 (nD ha hb hc hm),←hd];simp) V V ?_;refine sgr 1 5 6 [135,136] [(5,(iI sz)),(6,(iI 0))] (Hr_ 0 1 (Hr_ 2 0 Hn_)) ap V V fun g5 hE dd=>?_
 refine aj ⟨.inr V,_,(rC V (ldVN V V (h_ dd V) V) (rT V (rT V rN))),(⟨z.op,ra,rb,rc,rm⟩:InsT),sz,0,_,(fT (fT (fT (fT (fT (fT (aA) a1) a2) a3) b4) b5) ef),(HS.forget dd),V,(by first|(dsimp only;omega)|omega|exact bZ _ _ _|exact cn hr _|(rw[E];exact ai)),(by first|(dsimp only;omega)|omega|exact bZ _ _ _|exact cn hr _|(rw[E];exact ai)),(by first|(dsimp only;omega)|omega|exact bZ _ _ _|exact cn hr _|(rw[E];exact ai)),(by first|(dsimp only;omega)|omega|exact bZ _ _ _|exact cn hr _|(rw[E];exact ai)),(by first|(dsimp only;omega)|omega|exact bZ _ _ _|exact cn hr _|(rw[E];exact ai)),m_,(by exact nD ha hb hc hm),(by exact hsz)⟩
end fa
open fa
namespace fb
variable (ex:FuncId) {F:Fz} {H:Heap} {R:List Fp}
def eZ(L:List InsT)(j:Nat):Nat:=(eC (L.take j)).length
def posL(L:List InsT):List Int:=(List.range L.length).map fun j=>((eZ L j:Nat):Int)
theorem pos_s1{L:List InsT}{j:Nat}(E:j<L.length):eZ L (j+1)=eZ L j+(enW (L.getD j v_)).length:=by unfold eZ;rw[←kh E,a01]
theorem pos_s{L:List InsT}(v: ∀k,k<L.length->VldI (L.getD k v_)){j:Nat}(E:j<L.length):((eZ L (j+1):Nat):Int)=((eZ L j:Nat):Int)+wdI (L.getD j v_):=by have h:=en_len (v j E);rw[pos_s1 E,Int.natCast_add,h];rfl
theorem pos_lt{L:List InsT}{j:Nat}: ∀{k:Nat},j<k->k<=L.length->eZ L j<eZ L k
 |0,h,_=>absurd h (a0B _)
 |k+1,h,hk=>by
  have N:=pos_s1 (L:=L) (j:=k) M;have T:=en_pos (L.getD k v_);rcases a0g j k with E|E
  ·have:=pos_lt E (Nat.le_of_succ_le hk);omega
  obtain rfl:j=k:=M
  omega
theorem pos_e(L:List InsT):eZ L L.length=(eC L).length:=by unfold eZ;rw[a0T]
theorem pos_b{L:List InsT}{j:Nat}(E:j<L.length):eZ L j<(eC L).length:=by rw[←pos_e];exact pos_lt E (a0d _)
theorem pos_in{L:List InsT}{j:Nat}(h:eZ L j<(eC L).length)(N:j<=L.length):j<L.length:=by
 rcases a0g j L.length with E|E
 ·exact E
 obtain rfl:j=L.length:=M
 rw[pos_e]at h;exact absurd h (a23 _)
theorem pos_out{L:List InsT}{j:Nat}(h:(eC L).length<=eZ L j)(N:j<=L.length):j=L.length:=by
 rcases a0g j L.length with E|E
 ·have:=pos_b E;omega
 omega
theorem pre_pos{L:List InsT}{j:Nat}(E:j<L.length):PreW (L.getD j v_) (eC L) (eZ L j):=by
 have e:eC L=eC (L.take j)++(enW (L.getD j v_)++eC (L.drop (j+1))):=by rw[show enW (L.getD j v_)++eC (L.drop (j+1))=eC (L.getD j v_::L.drop (j+1)) from V,←drp (d:=v_) E,←enc_app,a13]
 unfold PreW eZ;rw[e,List.drop_left,List.take_left]
theorem lh: ∀L:List InsT,L.length<=(eC L).length
 | []=>a0d _
 |i::l=>by have E:=lh l;have N:=en_pos i;rw[show eC (i::l)=enW i++eC l from V,a01,a05];omega
theorem j6(L:List InsT):(posL L).length=L.length:=by unfold posL;rw[a1u,List.length_range]
theorem posl_at{L:List InsT}{j:Nat}(E:j<L.length):(posL L).getD j 0=((eZ L j:Nat):Int):=by unfold posL;rw[a02,a14,List.getElem?_range E];rfl
theorem da_1{L E:List InsT}{x:InsT}(h:E=L.take E.length)(N:E.length<L.length)(e:x=L.getD E.length v_):E++[x]=L.take (E++[x]).length:=by rw[a01,a0j,aX N (d:=v_),←h,e]
theorem da_2{L E:List InsT}{pl:List Int}{x:InsT}{k:Int}(h:pl=(posL L).take E.length)(N:E.length<L.length)(e:k=((eZ L E.length:Nat):Int)):pl++[k]=(posL L).take (E++[x]).length:=by rw[a01,a0j,aX (by rw[j6];exact N) (d:=0),←h,posl_at N,e]
theorem da_3{L N:List InsT}{x:InsT}{k n:Int}(v: ∀k,k<L.length->VldI (L.getD k v_))(T:N.length<L.length)(e:k=((eZ L N.length:Nat):Int))(E:n=wdI (L.getD N.length v_)):k+n=((eZ L (N++[x]).length:Nat):Int):=by rw[a01,a0j,pos_s v T,e,E]
theorem da_e{L E:List InsT}(h:E=L.take E.length)(e:E.length=L.length):E=L:=by rw[e,a0T]at h;exact h
theorem da_f{L E:List InsT}{pl:List Int}(h:pl=(posL L).take E.length)(e:E.length=L.length):pl=posL L:=by rw[e,←j6 L,a0T]at h;exact h
theorem st_s{L:List InsT}{ys:List Bool}{q:Nat}{x:Int}(h: ∀p,ys.getD p false=true↔ ∃j,j<q/\eZ L j=p)(e:x=((eZ L q:Nat):Int))(Z:eZ L q<ys.length): ∀p,(ys.set x.toNat true).getD p false=true↔ ∃j,j<q+1/\eZ L j=p:=fun p=>by
 rw[e,a0E,cz];by_cases U:eZ L q=p/\p<ys.length
 ·rw[if_pos U];exact⟨fun _=>⟨q,a1b _,U.1⟩,fun _=>rfl⟩
 rw[if_neg U,h p];constructor
 ·rintro⟨j,T,E⟩;exact⟨j,by omega,E⟩
 rintro⟨j,T,E⟩;rcases a0g j q with N|N
 ·exact⟨j,N,E⟩
 obtain rfl:j=q:=M
 exact absurd ⟨E,E▸Z⟩ U
theorem st_0{L:List InsT}{n:Nat}: ∀p,(List.replicate n false).getD p false=true↔ ∃j,j<0/\eZ L j=p:=fun p=>by
 constructor
 ·intro h;rw[a02,a1d]at h;split at h<;>cases h
 rintro⟨j,h,_⟩;exact absurd h (a0B _)
theorem da_c{bz:Option Addr}{b0:Nat}(w:List U32)(hs:HS (.of H []) F H [] R)(hw:SR F (sL bz w.length b0) w)(hT:TB 37 tabC F)(L:List InsT)(ai:w=eC L)(hv: ∀k,k<L.length->VldI (L.getD k v_))(hn: ∀k,in64 (L.getD k v_).n)(hr:w.length<=1000000):kKt ex 48 [(sL bz w.length b0)] H fun v H'=> ∃(ax:Option Addr) (kx:Nat) (x:List InsT) (ap:Option Addr) (kp:Nat) (p:List Int) (e:Int) (F':Fz),Fz.le F F'/\HS (.of H []) F' H' [] R/\v= .tuple ⟨[sL ax x.length kx,sL ap p.length kp,iI e]⟩/\SR F' (sL ax x.length kx) x/\SR F' (sL ap p.length kp) p/\(x=L)/\(p=posL L)/\(e=0):=by
 refine aC Tryz.func48 V V ?_;refine am 1 V ?_;refine wT 2 [] 2 4 [] [(2,(sL none 0 0)),(3,(sL none 0 0)),(4,(iI 0))] V fun _=>?_
 refine wT 2 [] 1 0 [5] [(5,(sL none 0 0))] V fun _=>?_
 refine wT 3 [] 1 0 [6] [(6,(sL none 0 0))] V fun _=>?_
 refine wT 2 [] 1 0 [7] [(7,(iI 0))] V fun _=>?_
 have c8:=HS.snoc hs;have dd:=HS.snoc c8;refine ak (fun(mm:Nat) f H'=> ∃(xl:List InsT) (pl:List Int) (kk:Int) (E:Option Addr) (U:Nat) (ag:Fp) (N:Option Addr) (a_:Nat) (an:Fp) (F':Fz),Fz.le F F'/\HS (Base.of H []) F' H' [ag,an] R/\OS F' (sL E xl.length U) xl ag/\OS F' (sL N pl.length a_) pl an/\aB f [(0,(sL bz w.length b0)),(5,(sL E xl.length U)),(6,(sL N pl.length a_)),(7,(iI kk))]/\mm=L.length-xl.length/\(xl=L.take xl.length)/\(pl=(posL L).take xl.length)/\(kk=((eZ L xl.length:Nat):Int))/\(xl.length<=L.length)) _ ⟨([]:List InsT),([]:List Int),0,none,0,[],none,0,[],_,fR,dd,(OS.nil:OS _ (sL none 0 0) ([]:List InsT) []),(OS.nil:OS _ (sL none 0 0) ([]:List Int) []),f_,V,m_,m_,m_,(by exact a0D _)⟩ ?_;rintro f2 f5 H5 ⟨xl,pl,kk,E,U,ag,N,a_,an,F5,ay,a5,aa,T,a9,rfl,h1,h2,hk,hj⟩ dk;refine au _ a9 (fun _=>?_);clear a9;replace hT:=hT.mono ay;replace hw:=hw.mono ay;have hq:pl.length<=xl.length:=by rw[h2,a0p];exact Nat.min_le_left _ _
 have hp:L.length<=w.length:=by rw[ai];exact lh L
 refine am 2 V ?_;refine wT 1 [] 11 14 [] [(14,(.bool (decide (kk<(w.length:Int)))))] V fun _=>?_
 refine eV 3 5 (v:=(decide (kk<(w.length:Int)))) V V V V (fun c9=>?_) (fun c9=>?_)
 ·try simp only[BS]at c9
  have a6:xl.length<L.length:=pos_in (by rw[←ai];omega) hj;have a0:=hv xl.length a6;have ao:=pre_pos a6;have ht:=fW (L.getD xl.length v_);refine ab ?_;refine bL 2 0 16 17 [] [(16,(sL bz w.length b0)),(17,(iI kk))] Hn_ (by kernel_rfl) V fun _=>?_
  refine cu (aO V V V) V V (fa.dec_c ex w kk (HS.call a5) hw M hT (by first|exact(L.getD xl.length v_)|exact a0|exact hn _|(rw[hk,a0E,ai];exact ao)|omega) (by first|exact(L.getD xl.length v_)|exact a0|exact hn _|(rw[hk,a0E,ai];exact ao)|omega) (by first|exact(L.getD xl.length v_)|exact a0|exact hn _|(rw[hk,a0E,ai];exact ao)|omega) (by first|exact(L.getD xl.length v_)|exact a0|exact hn _|(rw[hk,a0E,ai];exact ao)|omega) (by first|exact(L.getD xl.length v_)|exact a0|exact hn _|(rw[hk,a0E,ai];exact ao)|omega) (by first|exact(L.getD xl.length v_)|exact a0|exact hn _|(rw[hk,a0E,ai];exact ao)|omega)) ?_;rintro _ e0 ⟨Z,aq,fj,ef,ar,aw,rfl,ch,ci,co,c5,c6,rfl,dt,dv⟩;replace aw:=HS.back a5 V aw;replace aa:=aa.mono ar;replace T:=T.mono ar;let bl:Value:=(aG [(iI Z.op),(iI Z.a),(iI Z.b),(iI Z.c),(iI Z.n)])
  refine bL 4 3 19 21 [15] [(19,bl),(20,(iI aq)),(21,(iI 0))] Hn_ (by kernel_rfl) V fun _=>?_
  refine zn aw V fun fi e1 b7=>?_
  refine sgo 3 8 1 0 [9,10] [(9,(iI aq)),(10,(iI 0))] (Hr_ 8 2 Hn_) b7 V V fun ds e2 a2=>?_
  refine ah 3 V ?_;refine wT 1 [] 22 23 [] [(23,(.bool false))] V fun _=>?_
  refine bW 2 (v:=false) V V V V ?_;refine ab ?_;refine aY 2 0 25 26 [] [(25,(sL E xl.length U)),(26,bl)] (Hr_ 1 2 Hn_) a2 V V fun _=>?_
  refine zlo ([Z]:List InsT) a2 V (RL.cs ⟨V,by first|(dsimp only;omega)|omega,by first|(dsimp only;omega)|omega,by first|(dsimp only;omega)|omega,by first|(dsimp only;omega)|omega,by first|(dsimp only;omega)|omega⟩ RL.nl) V fun e8 f0 f3 e3 b2 a3=>?_
  refine zao 0 aa a3 (OS.sv b2 a3 (i:=3) V) V V V n_ fun a7 bb dl e4 b3 b8=>?_
  refine bL 2 4 29 30 [] [(29,(sL N pl.length a_)),(30,(iI kk))] Hn_ (by kernel_rfl) V fun _=>?_
  refine zlo ([kk]:List Int) b8 V (RL.cs ⟨V,by first|(dsimp only;omega)|omega⟩ RL.nl) V fun fd f1 f4 e5 b4 a4=>?_
  refine zao 1 T a4 (OS.sv b4 a4 (i:=4) V) V V V n_ fun a8 bk dn e6 b5 b9=>?_
  refine bL 2 8 1 0 [5,6] [(5,(sL a7 (xl++([Z]:List InsT)).length bb)),(6,(sL a8 (pl++([kk]:List Int)).length bk))] Hn_ (by kernel_rfl) V fun _=>?_
  refine ah 1 V ?_;refine wU 2 [] 33 35 [7] [(7,(iI (kk+aq)))] (vi (n:=kk+aq) M) V fun _=>?_
  refine dk _ _ _ ?_ ⟨xl++([Z]:List InsT),pl++([kk]:List Int),kk+aq,a7,bb,dl,a8,bk,dn,_,(fT (ay) ar),(HS.sub b9 (a03 _ _)),b3,b5,f_,V,(by exact da_1 h1 a6 X),(by exact da_2 h2 a6 hk),(by exact da_3 hv a6 hk X),(by simp only[a01,a0j];omega)⟩;simp only[a01,a0j];omega
 try simp only[BS]at c9
 have ck:xl.length=L.length:=pos_out (by rw[←ai];omega) hj;refine wT 1 [] 2 4 [36,37] [(2,(sL E xl.length U)),(3,(sL N pl.length a_)),(4,(iI 0))] V fun _=>?_
 obtain⟨et,aA,cc,av,d1⟩:=OS.frz aa a5 (i:=0) V;replace T:=T.mono aA;obtain⟨ez,a1,cg,b6,d2⟩:=OS.frz T cc (i:=1) V;replace av:=av.mono a1;refine aj ⟨.inr V,_,V,E,U,xl,N,a_,pl,0,_,(fT (fT (ay) aA) a1),(HS.forget cg),V,av,b6,(by exact da_e h1 ck),(by exact da_f h2 ck),m_⟩
theorem st_c{ai:Option Addr}{a4:Nat}(w:List U32)(hs:HS (.of H []) F H [] R)(hw:SR F (sL ai w.length a4) w)(hT:TB 37 tabC F)(L:List InsT)(ad:w=eC L)(hv: ∀k,k<L.length->VldI (L.getD k v_))(hn: ∀k,in64 (L.getD k v_).n)(dn:w.length<=1000000):kKt ex 19 [(sL ai w.length a4)] H fun v H'=> ∃(ar:Option Addr) (kr:Nat) (r:List Bool) (F':Fz),Fz.le F F'/\HS (.of H []) F' H' [] R/\v=sL ar r.length kr/\SR F' (sL ar r.length kr) r/\(r.length=w.length)/\(∀p,r.getD p false=true↔ ∃j,j<L.length/\eZ L j=p):=by
 refine aC Tryz.func19 V V ?_;refine am 1 V ?_;refine wT 2 [] 2 2 [] [(2,(sL none 0 0))] V fun _=>?_
 refine ab ?_;refine wTo 2 0 [] 8 9 [] [(9,(iI (w.length:Int)))] V fun _=>?_
 refine bd (cQ false hs V V V V V V V V V V M M) V V ?_;rintro _ H4 p3 ⟨a3,k3,rfl,aa,a1,_⟩;have aa:OS F (sL a3 (List.replicate w.length false).length k3) (List.replicate w.length false) p3:=aa;refine wa (sL a3 (List.replicate w.length false).length k3) V V V ?_;refine ah 2 V ?_;refine ab ?_;refine wm (sL ai w.length a4) V V V ?_;refine cu (aO V V V) V V (da_c ex w (HS.call a1) hw hT (by first|exact L|exact ad|exact hv|exact hn|omega) (by first|exact L|exact ad|exact hv|exact hn|omega) (by first|exact L|exact ad|exact hv|exact hn|omega) (by first|exact L|exact ad|exact hv|exact hn|omega) (by first|exact L|exact ad|exact hv|exact hn|omega)) ?_;rintro _ H5 ⟨cc,c5,x5,ax,a2,T,e5,F5,ay,av,rfl,b7,U,ch,ci,co⟩;replace av:=HS.back a1 V av;replace aa:=aa.mono ay;refine wTo 7 2 [] 14 16 [4,5,6,11] [(5,(sL ax T.length a2))] V fun _=>?_
 refine ah 3 V ?_;have a6:T=posL L:=by assumption
 refine wT 2 [] 1 0 [7] [(7,(iI 0))] V fun _=>?_
 refine ak (fun(mm:Nat) f H'=> ∃(ys:List Bool) (q:Nat) (E:Option Addr) (N:Nat) (Z:Fp) (F':Fz),Fz.le F5 F'/\HS (Base.of H []) F' H' [Z] R/\OS F' (sL E ys.length N) ys Z/\aB f [(3,(sL E ys.length N)),(5,(sL ax T.length a2)),(7,(iI (q:Int)))]/\mm=L.length-q/\(ys.length=w.length)/\(∀p,ys.getD p false=true↔ ∃j,j<q/\eZ L j=p)/\(q<=L.length)) _ ⟨List.replicate w.length false,0,a3,k3,p3,_,fR,av,aa,f_,V,o_,(by exact st_0),(by exact a0D _)⟩ ?_;rintro c6 f8 H8 ⟨ys,q,E,N,Z,F8,aq,ag,a_,aA,rfl,g1,g2,hq⟩ bz;refine au _ aA (fun _=>?_);clear aA;replace U:=U.mono aq;have dl:(T).length=L.length:=by rw[a6];exact j6 L
 have dj:L.length<=w.length:=by rw[ad];exact lh L
 refine am 2 V ?_;refine wT 1 [] 17 20 [] [(20,(.bool (decide ((q:Int)<(T.length:Int)))))] V fun _=>?_
 refine eV 3 5 (v:=(decide ((q:Int)<(T.length:Int)))) V V V V (fun ap=>?_) (fun ap=>?_)
 ·try simp only[BS]at ap
  have bb:q<L.length:=M
  have b2:(T).getD q 0=((eZ L q:Nat):Int):=by rw[a6];exact posl_at bb
  have dk:eZ L q<w.length:=by rw[ad];exact pos_b bb
  refine ab ?_;obtain⟨b5,aw⟩:=Sv.view (SR.sv U ag);have cg:=fI (aw q);refine bL 6 0 23 28 [] [(28,(.pointer (some ⟨sB (sL E ys.length N),sO (sL E ys.length N)+(T.getD q 0).toNat *Rp.sz Bool,none⟩)))] (Ha_ (Sv.ix (j:=(q:Int)) (SR.sv U ag) M M) (Hl_ 4 (ql 3 0 (vI (aw q) M) V V) (Ha_ (Sv.ix (j:=(T.getD q 0)) (OS.sv a_ ag (i:=0) V) M M) Hn_))) (by kernel_rfl) V fun _=>?_
  refine gf (dm (α:=Bool) (j:=(T.getD q 0).toNat) (off:=0) (q:=0) true a_ ag V V V V V V V V (bg (x:=false) M) V (by rintro cs rfl;exact⟨a0a V,V⟩)) V ?_;rintro _ b9 b1 ⟨an,a8,_⟩;have b3:=OS.len' an;refine ah 2 V ?_;refine wU 1 [] 21 22 [7] [(7,(iI ((q:Int)+1)))] (vi (n:=(q:Int)+1) M) V fun _=>?_
  refine bz _ _ _ ?_ ⟨ys.set (T.getD q 0).toNat true,q+1,E,N,b1,_,(aq),a8,(OS.norm an),(agC (show Value.slice E ys.length N=Value.slice E (ys.set (T.getD q 0).toNat true).length N by rw[OS.len' an]) f_),V,(by rw[a0h];exact g1),(by exact st_s g2 b2 M),r_⟩;omega
 try simp only[BS]at ap
 have b4:q=L.length:=M
 refine wT 1 [] 2 2 [29] [(2,(sL E ys.length N))] V fun _=>?_
 obtain⟨b8,a5,a9,a7,b6⟩:=OS.frz a_ ag (i:=0) V;refine aj ⟨.inr V,_,V,E,N,ys,_,(fT (fT (ay) aq) a5),(HS.forget a9),V,a7,(by exact g1),(by rw[←b4];exact g2)⟩
end fb
open fb
namespace fc
variable (ex:FuncId) {F:Fz} {H:Heap} {R:List Fp}
structure BinV(b:BinT)(L:List InsT):Prop where
 w:b.wd=eC L
 v: ∀k,k<L.length->VldI (L.getD k v_)
 n: ∀k,in64 (L.getD k v_).n
 w1:1<=b.wd.length/\b.wd.length<=60000
 en:1<=b.en.length/\b.en.length<=8
 pr:b.pr.length=b.en.length
 sl:b.sl.length=b.en.length
 al:b.al.length<=4
 lst:0<L.length/\((L.getD (L.length-1) v_).op=2\/(L.getD (L.length-1) v_).op=4\/(L.getD (L.length-1) v_).op=5)
 e: ∀k,k<b.en.length->∃j,j<L.length/\b.en.getD k 0=((eZ L j:Nat):Int)
 p: ∀k,k<b.en.length->0<=b.pr.getD k 0/\b.pr.getD k 0<=6
 s: ∀k,k<b.en.length->0<=b.sl.getD k 0/\b.sl.getD k 0<=3000
 a: ∀k,k<b.al.length->1<=b.al.getD k 0/\b.al.getD k 0<=16
 j: ∀k,k<L.length->((L.getD k v_).op=5\/(L.getD k v_).op=7\/(L.getD k v_).op=8)->∃j,j<L.length/\((eZ L k:Nat):Int)+(L.getD k v_).n=((eZ L j:Nat):Int)
 c: ∀k,k<L.length->(L.getD k v_).op=6->0<=(L.getD k v_).n/\(L.getD k v_).n<(b.en.length:Int)/\b.pr.getD (L.getD k v_).n.toNat 0=(L.getD k v_).a
 m: ∀k,k<L.length->(L.getD k v_).op=34\/(L.getD k v_).op=35->(L.getD k v_).n<(b.al.length:Int)
theorem vb_e{e p s n:Int}{x:Bool}(E:0<=e/\e<n)(U:x=true)(N:0<=p/\p<=6)(T:0<=s/\s<=3000):(((((((decide (e<0))||(decide (n<=e)))||(!x))||(decide (p<0)))||(decide (6<p)))||(decide (s<0)))||(decide (3000<s)))=false:=by subst U;simp;omega
theorem vb_j{A:Bool}{T n:Int}{x:Bool}(h:A=true->0<=T/\T<n/\x=true):(A&&(((decide (T<0))||(decide (n<=T)))||(!x)))=false:=by
 cases A with
 |false=>rfl
 |true=>obtain⟨E,N,rfl⟩:=h V;simp;omega
theorem vb_c{A:Bool}{n m p a:Int}(h:A=true->n<m/\p=a):(A&&((decide (m<=n))||(p !=a)))=false:=by
 cases A with
 |false=>rfl
 |true=>obtain⟨E,rfl⟩:=h V;simp;omega
theorem vb_m{A:Bool}{n m:Int}(h:A=true->n<m):(A&&(decide (m<=n)))=false:=by
 cases A with
 |false=>rfl
 |true=>have:=h V;simp;omega
theorem vb_l{o:Int}(h:o=2\/o=4\/o=5):(((o !=2)&&(o !=4))&&(o !=5))=false:=by rcases h with rfl|rfl|rfl<;>rfl
theorem in_w{z:Int}(h:in64 z){L:List InsT}{j:Nat}{a:Int}(e:a+z=((eZ L j:Nat):Int))(E:eZ L j<60001):IntKind.i64.wrap (a+z)=((eZ L j:Nat):Int):=by rw[e,IntKind.wrap_i64];omega
theorem vbin_c{cg:Option Addr}{dd:Nat}{cc:Option Addr}{c9:Nat}{b9:Option Addr}{c8:Nat}{b8:Option Addr}{c7:Nat}{a7:Option Addr}{bk:Nat}(b:BinT)(hs:HS (.of H []) F H [] R)(b3:SR F (sL a7 b.wd.length bk) b.wd)(a5:SR F (sL b8 b.en.length c7) b.en)(ap:SR F (sL b9 b.pr.length c8) b.pr)(a9:SR F (sL cc b.sl.length c9) b.sl)(a4:SR F (sL cg b.al.length dd) b.al)(hT:TB 37 tabC F)(L:List InsT)(hB:BinV b L):kKt ex 18 [(aG [(sL a7 b.wd.length bk),(sL b8 b.en.length c7),(sL b9 b.pr.length c8),(sL cc b.sl.length c9),(sL cg b.al.length dd)])] H fun v H'=> ∃(r:Bool) (F':Fz),Fz.le F F'/\HS (.of H []) F' H' [] R/\v= .bool r/\r=true:=by
 have iz:=hB.w1;have k9:=hB.en;have ld:=hB.pr;have lf:=hB.sl;have k8:=hB.al;have ko:=hB.lst;have k7:L.length<=b.wd.length:=by rw[hB.w];exact lh L
 refine aC Tryz.func18 V V ?_;refine am 1 V ?_;refine ab ?_;refine bd (aR hs V V) V V ?_;rintro _ H2 _ ⟨b1,rfl,e1,_⟩;refine wa (.bool false) V V V ?_;refine ah 2 V ?_;refine ab ?_;refine aY 2 0 18 19 [] [(19,(sL a7 b.wd.length bk))] (Hr_ 1 0 Hn_) e1 V V fun _=>?_
 refine cu (aO V V V) V V (fb.da_c ex b.wd (HS.call e1) b3 hT (by first|exact L|exact hB.w|exact hB.v|exact hB.n|omega) (by first|exact L|exact hB.w|exact hB.v|exact hB.n|omega) (by first|exact L|exact hB.w|exact hB.v|exact hB.n|omega) (by first|exact L|exact hB.w|exact hB.v|exact hB.n|omega) (by first|exact L|exact hB.w|exact hB.v|exact hB.n|omega)) ?_;rintro _ H4 ⟨dl,dt,E,dk,ds,p4,e4,F4,a8,ay,rfl,aw,av,ib,ih,ik⟩;replace ay:=HS.back e1 V ay;replace hT:=hT.mono a8;refine bL 7 3 21 23 [3,4,5,17] [(3,(sL dl E.length dt)),(4,(sL dk p4.length ds)),(5,(iI e4))] Hn_ (by kernel_rfl) V fun _=>?_
 refine ah 2 V ?_;refine aU 3 24 26 [6] [(6,(iI (b.en.length:Int)))] (Hr_ 1 0 Hn_) ay V V fun _=>?_
 have it:e4=0:=by assumption
 have ao:E=L:=by assumption
 have gb:p4=posL L:=by assumption
 have kn:=congrArg List.length ao;have la:(p4).length=L.length:=by rw[gb];exact j6 L
 refine aU 1 27 68 [] [(68,(.bool ((((((((decide ((b.wd.length:Int)<1))||(decide ((60000:Int)<(b.wd.length:Int))))||(e4 !=0))||(decide ((b.en.length:Int)<1)))||(decide ((8:Int)<(b.en.length:Int))))||((b.pr.length:Int) !=(b.en.length:Int)))||((b.sl.length:Int) !=(b.en.length:Int)))||(decide ((4:Int)<(b.al.length:Int))))))] (Hr_ 1 0 (be 6 (fun _=>(ql 44 0 (h_ ay V) V V)) (be 24 (fun _=>(ql 22 2 (h_ ay V) V V)) (be 31 (fun _=>(ql 22 3 (h_ ay V) V V)) (be 38 (fun _=>(ql 22 4 (h_ ay V) V V)) Hn_))))) ay V V fun _=>?_
 refine bW 3 (v:=((((((((decide ((b.wd.length:Int)<1))||(decide ((60000:Int)<(b.wd.length:Int))))||(e4 !=0))||(decide ((b.en.length:Int)<1)))||(decide ((8:Int)<(b.en.length:Int))))||((b.pr.length:Int) !=(b.en.length:Int)))||((b.sl.length:Int) !=(b.en.length:Int)))||(decide ((4:Int)<(b.al.length:Int))))) V l_ V V ?_;have fj:((((E).length:Nat):Int)-1).toNat=L.length-1:=M
 have fz:VldI (E.getD ((((E).length:Nat):Int)-1).toNat v_):=by rw[fj,ao];exact hB.v _ M
 have f0:=ko.2;rw[←ao,kn,←fj]at f0;refine ab ?_;obtain⟨hY,f2⟩:=Sv.view (SR.sv aw ay);obtain⟨hq,hr,ht,hu,hv⟩:=InsT.fx (f2 ((E.length:Int)-1).toNat);refine bL 6 0 70 75 [] [(75,(aG [(iI (E.getD ((E.length:Int)-1).toNat v_).op),(iI (E.getD ((E.length:Int)-1).toNat v_).a),(iI (E.getD ((E.length:Int)-1).toNat v_).b),(iI (E.getD ((E.length:Int)-1).toNat v_).c),(iI (E.getD ((E.length:Int)-1).toNat v_).n)]))] (Ha_ (vi (n:=(E.length:Int)-1) (by first|(dsimp only;omega)|omega|(have U:=N M;omega)|(rw[T];omega))) (Ha_ (Sv.ix (j:=(E.length:Int)-1) (SR.sv aw ay) (by first|(dsimp only;omega)|omega|(have U:=N M;omega)|(rw[T];omega)) (by first|(dsimp only;omega)|omega|(have U:=N M;omega)|(rw[T];omega))) (Hl_ 5 (qn 86 0 5 (InsT.vw (f2 ((E.length:Int)-1).toNat) (by first|(dsimp only;omega)|omega|(have U:=N M;omega)|(rw[T];omega))) V V V V) Hn_))) (by kernel_rfl) V fun _=>?_
 refine cu (aO V V V) V V (fa.cf_c ex (E.getD ((E.length:Int)-1).toNat v_) (HS.call ay) (by first|(dsimp only;omega)|omega|(have U:=N M;omega)|(rw[T];omega)) (by first|(dsimp only;omega)|omega|(have U:=N M;omega)|(rw[T];omega)) (by first|(dsimp only;omega)|omega|(have U:=N M;omega)|(rw[T];omega)) (by first|(dsimp only;omega)|omega|(have U:=N M;omega)|(rw[T];omega)) (by first|(dsimp only;omega)|omega|(have U:=N M;omega)|(rw[T];omega)) hT (by first|exact fz|exact gs)) ?_;rintro _ hI ⟨hR,hV,hF,ax,bb,rfl,rfl,rfl⟩;replace bb:=HS.back ay V bb;replace hT:=hT.mono ax;replace b3:=(b3.mono a8).mono ax;refine bL 5 7 77 78 [7,8,69] [(7,(.bool ((((E.getD ((E.length:Int)-1).toNat v_).op !=2)&&((E.getD ((E.length:Int)-1).toNat v_).op !=4))&&((E.getD ((E.length:Int)-1).toNat v_).op !=5))))] Hn_ (by kernel_rfl) V fun _=>?_
 refine ah 2 V ?_;refine wT 1 [] 79 79 [] [(79,(.bool ((((E.getD ((E.length:Int)-1).toNat v_).op !=2)&&((E.getD ((E.length:Int)-1).toNat v_).op !=4))&&((E.getD ((E.length:Int)-1).toNat v_).op !=5))))] V fun _=>?_
 refine bW 2 (v:=((((E.getD ((E.length:Int)-1).toNat v_).op !=2)&&((E.getD ((E.length:Int)-1).toNat v_).op !=4))&&((E.getD ((E.length:Int)-1).toNat v_).op !=5))) V (by exact vb_l f0) V V ?_;refine ab ?_;refine aY 2 0 80 81 [] [(81,(sL a7 b.wd.length bk))] (Hr_ 1 0 Hn_) bb V V fun _=>?_
 refine cu (aO V V V) V V (fb.st_c ex b.wd (HS.call bb) b3 hT (by first|exact L|exact hB.w|exact hB.v|exact hB.n|omega) (by first|exact L|exact hB.w|exact hB.v|exact hB.n|omega) (by first|exact L|exact hB.w|exact hB.v|exact hB.n|omega) (by first|exact L|exact hB.w|exact hB.v|exact hB.n|omega) (by first|exact L|exact hB.w|exact hB.v|exact hB.n|omega)) ?_;rintro _ hJ ⟨bl,b6,aa,go,aA,ch,rfl,an,hz,hA⟩;replace ch:=HS.back bb V ch;refine wa (sL bl aa.length b6) V V V ?_;refine ah 3 V ?_;have T:(aa).length=b.wd.length:=by assumption
 have fi:=(by assumption: ∀p,(aa).getD p false=true↔ ∃j,j<L.length/\eZ L j=p)
 refine wT 2 [] 1 0 [10] [(10,(iI 0))] V fun _=>?_
 let e6:Fp:=(fP b1 [(sL a7 b.wd.length bk),(sL b8 b.en.length c7),(sL b9 b.pr.length c8),(sL cc b.sl.length c9),(sL cg b.al.length dd)])
 refine ak (fun(mm:Nat) f H'=> ∃(k:Nat) (F':Fz),Fz.le go F'/\HS (Base.of H []) F' H' [e6] R/\aB f [(1,(pT b1 0)),(3,(sL dl E.length dt)),(4,(sL dk p4.length ds)),(6,(iI (b.en.length:Int))),(9,(sL bl aa.length b6)),(10,(iI (k:Int)))]/\mm=b.en.length-k/\(k<=b.en.length)) _ ⟨0,_,fR,ch,f_,V,r_⟩ ?_;rintro hC h0 hK ⟨k,g3,ar,Z,ef,rfl,hk⟩ f7;refine au _ ef (fun _=>?_);clear ef;replace hT:=(hT.mono aA).mono ar;replace a5:=(((a5.mono a8).mono ax).mono aA).mono ar;replace ap:=(((ap.mono a8).mono ax).mono aA).mono ar;replace a9:=(((a9.mono a8).mono ax).mono aA).mono ar;replace a4:=(((a4.mono a8).mono ax).mono aA).mono ar;replace av:=((av.mono ax).mono aA).mono ar;replace an:=an.mono ar;replace aw:=((aw.mono ax).mono aA).mono ar;refine am 2 V ?_;refine wT 1 [] 83 85 [] [(85,(.bool (decide ((k:Int)<(b.en.length:Int)))))] V fun _=>?_
 refine eV 4 6 (v:=(decide ((k:Int)<(b.en.length:Int)))) V V V V (fun dv=>?_) (fun dv=>?_)
 ·try simp only[BS]at dv
  obtain⟨jq,b7,dn⟩:=hB.e k M;have e0:=pos_b b7;rw[←hB.w]at e0;have kx:=hB.p k M;have ky:=hB.s k M;have g6:(aa).getD (b.en.getD k 0).toNat false=true:=(fi _).2 ⟨jq,b7,by omega⟩;obtain⟨he,b5⟩:=Sv.view (SR.sv a5 Z);have h3:=fI (b5 k);obtain⟨hf,f5⟩:=Sv.view (SR.sv an Z);obtain⟨hg,co⟩:=Sv.view (SR.sv ap Z);have h4:=fI (co k);obtain⟨hh,c5⟩:=Sv.view (SR.sv a9 Z);have h5:=fI (c5 k);refine aU 1 88 146 [] [(146,(.bool (((((((decide ((b.en.getD k 0)<0))||(decide ((aa.length:Int)<=(b.en.getD k 0))))||(!(aa.getD (b.en.getD k 0).toNat false)))||(decide ((b.pr.getD k 0)<0)))||(decide ((6:Int)<(b.pr.getD k 0))))||(decide ((b.sl.getD k 0)<0)))||(decide ((3000:Int)<(b.sl.getD k 0))))))] (Hr_ 1 0 (Ha_ (Sv.ix (j:=(k:Int)) (SR.sv a5 Z) (by first|(dsimp only;omega)|omega|(have U:=N M;omega)|(rw[T];omega)) (by first|(dsimp only;omega)|omega|(have U:=N M;omega)|(rw[T];omega))) (Hl_ 4 (ql 3 0 (vI (b5 k) (by first|(dsimp only;omega)|omega|(have U:=N M;omega)|(rw[T];omega))) V V) (be 8 (fun _=>(ql 22 1 (h_ Z V) V V)) (Ha_ (fun(a_:(decide ((b.en.getD k 0)<0))=false)=>(Sv.ix (j:=(k:Int)) (SR.sv a5 Z) (by(try simp only[BS]at a_);(first|(dsimp only;omega)|omega|(have U:=N M;omega)|(rw[T];omega))) (by(try simp only[BS]at a_);(first|(dsimp only;omega)|omega|(have U:=N M;omega)|(rw[T];omega))))) (be 11 (fun a_=>(ql 3 0 (vI (b5 k) (by(try simp only[BS]at a_);(first|(dsimp only;omega)|omega|(have U:=N M;omega)|(rw[T];omega)))) V V)) (be 19 (fun _=>(ql 22 1 (h_ Z V) V V)) (Ha_ (fun(a_:((decide ((b.en.getD k 0)<0))||(decide ((aa.length:Int)<=(b.en.getD k 0))))=false)=>(Sv.ix (j:=(k:Int)) (SR.sv a5 Z) (by(try simp only[BS]at a_);(first|(dsimp only;omega)|omega|(have U:=N M;omega)|(rw[T];omega))) (by(try simp only[BS]at a_);(first|(dsimp only;omega)|omega|(have U:=N M;omega)|(rw[T];omega))))) (be 22 (fun a_=>(ql 3 0 (vI (b5 k) (by(try simp only[BS]at a_);(first|(dsimp only;omega)|omega|(have U:=N M;omega)|(rw[T];omega)))) V V)) (Ha_ (fun(a_:((decide ((b.en.getD k 0)<0))||(decide ((aa.length:Int)<=(b.en.getD k 0))))=false)=>(Sv.ix (j:=(b.en.getD k 0)) (SR.sv an Z) (by(try simp only[BS]at a_);(first|(dsimp only;omega)|omega|(have U:=N M;omega)|(rw[T];omega))) (by(try simp only[BS]at a_);(first|(dsimp only;omega)|omega|(have U:=N M;omega)|(rw[T];omega))))) (be 24 (fun a_=>(ql 4 0 (vB (f5 (b.en.getD k 0).toNat) (by(try simp only[BS]at a_);(first|(dsimp only;omega)|omega|(have U:=N M;omega)|(rw[T];omega)))) V V)) (be 29 (fun _=>(ql 22 2 (h_ Z V) V V)) (Ha_ (fun(a_:(((decide ((b.en.getD k 0)<0))||(decide ((aa.length:Int)<=(b.en.getD k 0))))||(!(aa.getD (b.en.getD k 0).toNat false)))=false)=>(Sv.ix (j:=(k:Int)) (SR.sv ap Z) (by(try simp only[BS]at a_);(first|(dsimp only;omega)|omega|(have U:=N M;omega)|(rw[T];omega))) (by(try simp only[BS]at a_);(first|(dsimp only;omega)|omega|(have U:=N M;omega)|(rw[T];omega))))) (be 32 (fun a_=>(ql 3 0 (vI (co k) (by(try simp only[BS]at a_);(first|(dsimp only;omega)|omega|(have U:=N M;omega)|(rw[T];omega)))) V V)) (be 37 (fun _=>(ql 22 2 (h_ Z V) V V)) (Ha_ (fun(a_:((((decide ((b.en.getD k 0)<0))||(decide ((aa.length:Int)<=(b.en.getD k 0))))||(!(aa.getD (b.en.getD k 0).toNat false)))||(decide ((b.pr.getD k 0)<0)))=false)=>(Sv.ix (j:=(k:Int)) (SR.sv ap Z) (by(try simp only[BS]at a_);(first|(dsimp only;omega)|omega|(have U:=N M;omega)|(rw[T];omega))) (by(try simp only[BS]at a_);(first|(dsimp only;omega)|omega|(have U:=N M;omega)|(rw[T];omega))))) (be 40 (fun a_=>(ql 3 0 (vI (co k) (by(try simp only[BS]at a_);(first|(dsimp only;omega)|omega|(have U:=N M;omega)|(rw[T];omega)))) V V)) (be 45 (fun _=>(ql 22 3 (h_ Z V) V V)) (Ha_ (fun(a_:(((((decide ((b.en.getD k 0)<0))||(decide ((aa.length:Int)<=(b.en.getD k 0))))||(!(aa.getD (b.en.getD k 0).toNat false)))||(decide ((b.pr.getD k 0)<0)))||(decide ((6:Int)<(b.pr.getD k 0))))=false)=>(Sv.ix (j:=(k:Int)) (SR.sv a9 Z) (by(try simp only[BS]at a_);(first|(dsimp only;omega)|omega|(have U:=N M;omega)|(rw[T];omega))) (by(try simp only[BS]at a_);(first|(dsimp only;omega)|omega|(have U:=N M;omega)|(rw[T];omega))))) (be 48 (fun a_=>(ql 3 0 (vI (c5 k) (by(try simp only[BS]at a_);(first|(dsimp only;omega)|omega|(have U:=N M;omega)|(rw[T];omega)))) V V)) (be 53 (fun _=>(ql 22 3 (h_ Z V) V V)) (Ha_ (fun(a_:((((((decide ((b.en.getD k 0)<0))||(decide ((aa.length:Int)<=(b.en.getD k 0))))||(!(aa.getD (b.en.getD k 0).toNat false)))||(decide ((b.pr.getD k 0)<0)))||(decide ((6:Int)<(b.pr.getD k 0))))||(decide ((b.sl.getD k 0)<0)))=false)=>(Sv.ix (j:=(k:Int)) (SR.sv a9 Z) (by(try simp only[BS]at a_);(first|(dsimp only;omega)|omega|(have U:=N M;omega)|(rw[T];omega))) (by(try simp only[BS]at a_);(first|(dsimp only;omega)|omega|(have U:=N M;omega)|(rw[T];omega))))) (be 56 (fun a_=>(ql 3 0 (vI (c5 k) (by(try simp only[BS]at a_);(first|(dsimp only;omega)|omega|(have U:=N M;omega)|(rw[T];omega)))) V V)) Hn_))))))))))))))))))))))) Z V V fun _=>?_
  refine bW 2 (v:=(((((((decide ((b.en.getD k 0)<0))||(decide ((aa.length:Int)<=(b.en.getD k 0))))||(!(aa.getD (b.en.getD k 0).toNat false)))||(decide ((b.pr.getD k 0)<0)))||(decide ((6:Int)<(b.pr.getD k 0))))||(decide ((b.sl.getD k 0)<0)))||(decide ((3000:Int)<(b.sl.getD k 0))))) V (by exact vb_e M g6 kx ky) V V ?_;refine wU 1 [] 86 87 [10] [(10,(iI ((k:Int)+1)))] (vi (n:=(k:Int)+1) (by first|(dsimp only;omega)|omega|(have U:=N M;omega)|(rw[T];omega))) V fun _=>?_
  refine f7 _ _ _ ?_ ⟨k+1,_,(ar),Z,f_,V,r_⟩;omega
 try simp only[BS]at dv
 refine wT 2 [] 1 0 [11] [(11,(iI 0))] V fun _=>?_
 refine ak (fun(mm:Nat) f H'=> ∃(k:Nat) (F':Fz),Fz.le g3 F'/\HS (Base.of H []) F' H' [e6] R/\aB f [(1,(pT b1 0)),(3,(sL dl E.length dt)),(4,(sL dk p4.length ds)),(6,(iI (b.en.length:Int))),(9,(sL bl aa.length b6)),(11,(iI (k:Int)))]/\mm=b.al.length-k/\(k<=b.al.length)) _ ⟨0,_,fR,Z,f_,V,r_⟩ ?_;rintro hD h1 hL ⟨k,g4,a1,a2,et,rfl,hk⟩ f8;refine au _ et (fun _=>?_);clear et;replace hT:=hT.mono a1;replace ap:=ap.mono a1;replace a4:=a4.mono a1;replace av:=av.mono a1;replace an:=an.mono a1;replace aw:=aw.mono a1;refine am 2 V ?_;refine aU 1 147 151 [] [(151,(.bool (decide ((k:Int)<(b.al.length:Int)))))] (Hr_ 2 0 Hn_) a2 V V fun _=>?_
 refine eV 4 6 (v:=(decide ((k:Int)<(b.al.length:Int)))) V V V V (fun d1=>?_) (fun d1=>?_)
 ·try simp only[BS]at d1
  have il:=hB.a k M;obtain⟨hj,c6⟩:=Sv.view (SR.sv a4 a2);have h6:=fI (c6 k);refine aU 1 154 167 [] [(167,(.bool ((decide ((b.al.getD k 0)<1))||(decide ((16:Int)<(b.al.getD k 0))))))] (Hr_ 1 0 (Ha_ (Sv.ix (j:=(k:Int)) (SR.sv a4 a2) (by first|(dsimp only;omega)|omega|(have U:=N M;omega)|(rw[T];omega)) (by first|(dsimp only;omega)|omega|(have U:=N M;omega)|(rw[T];omega))) (Hl_ 4 (ql 3 0 (vI (c6 k) (by first|(dsimp only;omega)|omega|(have U:=N M;omega)|(rw[T];omega))) V V) (be 8 (fun _=>(ql 22 4 (h_ a2 V) V V)) (Ha_ (fun(a_:(decide ((b.al.getD k 0)<1))=false)=>(Sv.ix (j:=(k:Int)) (SR.sv a4 a2) (by(try simp only[BS]at a_);(first|(dsimp only;omega)|omega|(have U:=N M;omega)|(rw[T];omega))) (by(try simp only[BS]at a_);(first|(dsimp only;omega)|omega|(have U:=N M;omega)|(rw[T];omega))))) (be 11 (fun a_=>(ql 3 0 (vI (c6 k) (by(try simp only[BS]at a_);(first|(dsimp only;omega)|omega|(have U:=N M;omega)|(rw[T];omega)))) V V)) Hn_)))))) a2 V V fun _=>?_
  refine bW 2 (v:=((decide ((b.al.getD k 0)<1))||(decide ((16:Int)<(b.al.getD k 0))))) V (by simp only[a1l,decide_eq_false_iff_not];omega) V V ?_;refine wU 1 [] 152 153 [11] [(11,(iI ((k:Int)+1)))] (vi (n:=(k:Int)+1) (by first|(dsimp only;omega)|omega|(have U:=N M;omega)|(rw[T];omega))) V fun _=>?_
  refine f8 _ _ _ ?_ ⟨k+1,_,(a1),a2,f_,V,r_⟩;omega
 try simp only[BS]at d1
 refine wT 2 [] 1 0 [12] [(12,(iI 0))] V fun _=>?_
 refine ak (fun(mm:Nat) f H'=> ∃(k:Nat) (F':Fz),Fz.le g4 F'/\HS (Base.of H []) F' H' [e6] R/\aB f [(1,(pT b1 0)),(3,(sL dl E.length dt)),(4,(sL dk p4.length ds)),(6,(iI (b.en.length:Int))),(9,(sL bl aa.length b6)),(12,(iI (k:Int)))]/\mm=L.length-k/\(k<=L.length)) _ ⟨0,_,fR,a2,f_,V,r_⟩ ?_;rintro hE h2 hM ⟨k,hG,a3,b4,ez,rfl,hk⟩ f9;refine au _ ez (fun _=>?_);clear ez;replace hT:=hT.mono a3;replace ap:=ap.mono a3;replace av:=av.mono a3;replace an:=an.mono a3;replace aw:=aw.mono a3;refine am 2 V ?_;refine wT 1 [] 168 171 [] [(171,(.bool (decide ((k:Int)<(E.length:Int)))))] V fun _=>?_
 refine eV 4 5 (v:=(decide ((k:Int)<(E.length:Int)))) V V V V (fun d2=>?_) (fun d2=>?_)
 ·try simp only[BS]at d2
  have a0:k<L.length:=M
  have gs:VldI (E.getD k v_):=by rw[ao];exact hB.v k a0
  have ks:(p4).getD k 0=((eZ L k:Nat):Int):=by rw[gb];exact posl_at a0
  have kr:=pos_b a0;rw[←hB.w]at kr;have kp: ∀k,in64 (E.getD k v_).n:=by rw[ao];exact hB.n
  have N:=hB.c k a0;rw[←ao]at N;have f1:=hB.m k a0;rw[←ao]at f1;refine ab ?_;obtain⟨hl,e2⟩:=Sv.view (SR.sv aw b4);obtain⟨g7,g8,g9,ha,hb⟩:=InsT.fx (e2 k);let f3:Value:=(aG [(iI (E.getD k v_).op),(iI (E.getD k v_).a),(iI (E.getD k v_).b),(iI (E.getD k v_).c),(iI (E.getD k v_).n)])
  refine bL 4 0 174 177 [] [(177,f3)] (Ha_ (Sv.ix (j:=(k:Int)) (SR.sv aw b4) (by first|(dsimp only;omega)|omega|(have U:=N M;omega)|(rw[T];omega)) (by first|(dsimp only;omega)|omega|(have U:=N M;omega)|(rw[T];omega))) (Hl_ 3 (qn 86 0 5 (InsT.vw (e2 k) (by first|(dsimp only;omega)|omega|(have U:=N M;omega)|(rw[T];omega))) V V V V) Hn_)) (by kernel_rfl) V fun _=>?_
  refine zn b4 V fun hW hO f4=>?_
  refine sgo 1 5 1 0 [] [] (Hr_ 5 1 Hn_) f4 V V fun hw hP ci=>?_
  refine ah 2 V ?_;refine ab ?_;refine aY 1 0 179 179 [] [(179,f3)] (Hr_ 0 1 Hn_) ci V V fun _=>?_
  refine cu (aO V V V) V V (fa.cf_c ex (E.getD k v_) (HS.call ci) (by first|(dsimp only;omega)|omega|(have U:=N M;omega)|(rw[T];omega)) (by first|(dsimp only;omega)|omega|(have U:=N M;omega)|(rw[T];omega)) (by first|(dsimp only;omega)|omega|(have U:=N M;omega)|(rw[T];omega)) (by first|(dsimp only;omega)|omega|(have U:=N M;omega)|(rw[T];omega)) (by first|(dsimp only;omega)|omega|(have U:=N M;omega)|(rw[T];omega)) hT (by first|exact fz|exact gs)) ?_;rintro _ hQ ⟨hS,hX,hH,b2,ag,rfl,rfl,rfl⟩;replace ag:=HS.back ci V ag;replace ap:=ap.mono b2;replace av:=av.mono b2;replace an:=an.mono b2;refine bL 5 2 181 182 [14,15,178] [(15,(.bool ((((E.getD k v_).op==5)||((E.getD k v_).op==7))||((E.getD k v_).op==8))))] Hn_ (by kernel_rfl) V fun _=>?_
  refine ah 2 V ?_;obtain⟨hm,e3⟩:=Sv.view (SR.sv av ag);have h7:=fI (e3 k);refine sdr0 3 183 189 [16] [(16,(iI (IntKind.i64.wrap ((p4.getD k 0)+(E.getD k v_).n))))] (Ha_ (Sv.ix (j:=(k:Int)) (SR.sv av ag) (by first|(dsimp only;omega)|omega|(have U:=N M;omega)|(rw[T];omega)) (by first|(dsimp only;omega)|omega|(have U:=N M;omega)|(rw[T];omega))) (Hl_ 3 (ql 3 0 (hc0 (vI (e3 k) (by first|(dsimp only;omega)|omega|(have U:=N M;omega)|(rw[T];omega)))) V V) (Hr_ 5 1 (Hw_ 6 (.w) Hn_)))) ag V V V fun _=>?_
  have g5:((((E.getD k v_).op==5)||((E.getD k v_).op==7))||((E.getD k v_).op==8))=true->0<=IntKind.i64.wrap ((p4).getD k 0+(E.getD k v_).n)/\IntKind.i64.wrap ((p4).getD k 0+(E.getD k v_).n)<((aa).length:Int)/\(aa).getD (IntKind.i64.wrap ((p4).getD k 0+(E.getD k v_).n)).toNat false=true:=fun h=>by
   simp only[a0A,beq_iff_eq]at h;obtain⟨j,b7,dn⟩:=hB.j k a0 (by rw[←ao];omega);replace dn:(p4).getD k 0+(E.getD k v_).n=((eZ L j:Nat):Int):=by rw[ks,ao];exact dn
   have e0:=pos_b b7;rw[←hB.w]at e0;rw[in_w (kp k) dn M];exact⟨by omega,by omega,(fi _).2 ⟨j,b7,by omega⟩⟩
  obtain⟨hn,f6⟩:=Sv.view (SR.sv an ag);refine wrp 1 190 207 [] [(207,(.bool (((((E.getD k v_).op==5)||((E.getD k v_).op==7))||((E.getD k v_).op==8))&&(((decide (IntKind.i64.wrap ((p4.getD k 0)+(E.getD k v_).n)<0))||(decide ((aa.length:Int)<=IntKind.i64.wrap ((p4.getD k 0)+(E.getD k v_).n))))||(!(aa.getD (IntKind.i64.wrap ((p4.getD k 0)+(E.getD k v_).n)).toNat false))))))] (Ha_ (fun(a_:((decide (IntKind.i64.wrap ((p4.getD k 0)+(E.getD k v_).n)<0))||(decide ((aa.length:Int)<=IntKind.i64.wrap ((p4.getD k 0)+(E.getD k v_).n))))=false) (g2:((((E.getD k v_).op==5)||((E.getD k v_).op==7))||((E.getD k v_).op==8))=true)=>(Sv.ix (j:=IntKind.i64.wrap ((p4.getD k 0)+(E.getD k v_).n)) (SR.sv an ag) (by(try simp only[BS]at a_ g2);(first|(dsimp only;omega)|omega|(have U:=N M;omega)|(rw[T];omega))) (by(try simp only[BS]at a_ g2);(first|(dsimp only;omega)|omega|(have U:=N M;omega)|(rw[T];omega))))) (jv 14 (fun a_ g2=>(ql 4 0 (vB (f6 (IntKind.i64.wrap ((p4.getD k 0)+(E.getD k v_).n)).toNat) (by(try simp only[BS]at a_ g2);(first|(dsimp only;omega)|omega|(have U:=N M;omega)|(rw[T];omega)))) V V)) Hn_)) V V fun _=>?_
  refine bW 3 (v:=(((((E.getD k v_).op==5)||((E.getD k v_).op==7))||((E.getD k v_).op==8))&&(((decide (IntKind.i64.wrap ((p4.getD k 0)+(E.getD k v_).n)<0))||(decide ((aa.length:Int)<=IntKind.i64.wrap ((p4.getD k 0)+(E.getD k v_).n))))||(!(aa.getD (IntKind.i64.wrap ((p4.getD k 0)+(E.getD k v_).n)).toNat false))))) V (by exact vb_j g5) V V ?_;obtain⟨hp,e5⟩:=Sv.view (SR.sv ap ag);have h8:=fI (e5 (E.getD k v_).n.toNat);refine sdr0 1 208 227 [] [(227,(.bool (((E.getD k v_).op==6)&&((decide ((b.en.length:Int)<=(E.getD k v_).n))||((b.pr.getD (E.getD k v_).n.toNat 0) !=(E.getD k v_).a)))))] (Hr_ 1 1 (be 5 (fun _=>(ql 2 4 (hc0 (i_ ag V)) V V)) (jv 10 (fun _ _=>(ql 22 2 (hc0 (h_ ag V)) V V)) (jv 12 (fun _ _=>(ql 2 4 (hc0 (i_ ag V)) V V)) (Ha_ (fun(a_:(decide ((b.en.length:Int)<=(E.getD k v_).n))=false) (g2:((E.getD k v_).op==6)=true)=>(Sv.ix (j:=(E.getD k v_).n) (SR.sv ap ag) (by(try simp only[BS]at a_ g2);(first|(dsimp only;omega)|omega|(have U:=N M;omega)|(rw[T];omega))) (by(try simp only[BS]at a_ g2);(first|(dsimp only;omega)|omega|(have U:=N M;omega)|(rw[T];omega))))) (jv 14 (fun a_ g2=>(ql 3 0 (hc0 (vI (e5 (E.getD k v_).n.toNat) (by(try simp only[BS]at a_ g2);(first|(dsimp only;omega)|omega|(have U:=N M;omega)|(rw[T];omega))))) V V)) (jv 16 (fun _ _=>(ql 3 1 (hc0 (i_ ag V)) V V)) Hn_))))))) ag V V V fun _=>?_
  refine bW 2 (v:=(((E.getD k v_).op==6)&&((decide ((b.en.length:Int)<=(E.getD k v_).n))||((b.pr.getD (E.getD k v_).n.toNat 0) !=(E.getD k v_).a)))) V (by exact vb_c fun h=>by(have U:=N (by simpa using h);omega)) V V ?_;refine aU 1 228 243 [] [(243,(.bool ((((E.getD k v_).op==34)||((E.getD k v_).op==35))&&(decide ((b.al.length:Int)<=(E.getD k v_).n)))))] (Hr_ 1 1 (be 5 (fun _=>(ql 3 0 (i_ ag V) V V)) (be 10 (fun _=>(ql 2 4 (i_ ag V) V V)) (be 12 (fun _=>(ql 22 4 (h_ ag V) V V)) Hn_)))) ag V V fun _=>?_
  refine bW 2 (v:=((((E.getD k v_).op==34)||((E.getD k v_).op==35))&&(decide ((b.al.length:Int)<=(E.getD k v_).n)))) V (by exact vb_m fun h=>f1 (by simpa using h)) V V ?_;refine wU 1 [] 172 173 [12] [(12,(iI ((k:Int)+1)))] (vi (n:=(k:Int)+1) (by first|(dsimp only;omega)|omega|(have U:=N M;omega)|(rw[T];omega))) V fun _=>?_
  refine f9 _ _ _ ?_ ⟨k+1,_,(fT (a3) b2),(HS.sub ag (a03 _ _)),f_,V,r_⟩;omega
 try simp only[BS]at d2
 refine wT 1 [] 2 2 [] [(2,(.bool true))] V fun _=>?_
 refine aj ⟨.inr V,_,V,true,_,(fT (fT (fT (fT (fT (a8) ax) aA) ar) a1) a3),(HS.forget b4),V,m_⟩
end fc
open fc
namespace fd_
variable (ex:FuncId) {F:Fz} {H:Heap} {R:List Fp}
theorem rd_13{v:VInT}(h:v.i.op=13\/v.i.op=38):aF v=[]/\ae v=[v.i.a]:=by unfold aF ae eG;rcases h with h|h<;>rw[h]<;>exact⟨V,V⟩
theorem tr_fst{S:Nat->Prop}{r:Nat}: ∀{l:List VInT} {n:Nat},(∀q,q<l.length->(l.getD q v_).i.a=((n+q:Nat):Int)/\((l.getD q v_).i.op=13\/(l.getD q v_).i.op=38))->tr l S r->S r/\¬(n<=r/\r<n+l.length)
 | [],n,_,h=>⟨h,fun E=>by simp only[a0b]at E;omega⟩
 |v::l,n,hf,h=>by
  have N:=hf 0 o_;obtain⟨U,a_⟩:=rd_13 (v:=v) N.2;rcases h with h|⟨h,E⟩
  ·rw[U]at h;cases h
  have T:=tr_fst (l:=l) (n:=n+1) (fun q hq=>by
   have Z:=hf (q+1) l_;rw[show n+1+q=n+(q+1) by omega];exact Z) h
  rw[a_,a08]at E;refine⟨T.1,fun h5=>T.2 ?_⟩;have h6:v.i.a=((n+0:Nat):Int):=N.1;rw[a05]at h5;omega
theorem vf_in{c:VFnT}{n:Int}(h:vfG c n)(r:Nat): ¬ptS c 0 0 r:=fun U=>by have v:=e7 h.val;have T:=iG v (b:=0) (i:=0) (by have:=v.nb;omega) U;obtain⟨Z,e,hl,hf⟩:=h.fst;have E:bB c 0=⟨Z,1,0,1,0⟩:=e;unfold ptS at U;rw[E]at U;have N:=(tr_fst (n:=0) (fun q hq=>by rw[a1g];exact hf q hq) U).2;apply N;show 0<=r/\r<0+Z.length;omega
theorem sd_snoc{l:List VFnT}{N:List AllT}{x:AllT}{k:Nat}(h: ∀q,q<k->SndP (l.getD q v_) (N.getD q v_))(e:N.length=k)(T:SndP (l.getD k v_) x): ∀q,q<k+1->SndP (l.getD q v_) ((N++[x]).getD q v_):=fun q U=>by
 rw[dA];split
 ·rename_i E;rw[E,e];exact T
 exact h q M
theorem alloc2_c{ao:Option Addr}{a0:Nat}(l:List VFnT)(hs:HS (.of H []) F H [] R)(hl:SR F (sL ao l.length a0) l)(hT:TB 37 tabC F)(em: ∀k,k<l.length->∃n,n<=2/\vfG (l.getD k v_) n)(et:l.length<=8):kKt ex 9 [(sL ao l.length a0)] H fun v H'=> ∃(aa:Option Addr) (ka:Nat) (a:List AllT) (g:Bool) (F':Fz),Fz.le F F'/\HS (.of H []) F' H' [] R/\v= .tuple ⟨[sL aa a.length ka,.bool g]⟩/\SR F' (sL aa a.length ka) a/\g=true/\(a.length=l.length)/\(∀q,q<l.length->SndP (l.getD q v_) (a.getD q v_)):=by
 refine aC Tryz.func9 V V ?_;refine am 1 V ?_;refine wT 2 [] 2 3 [] [(2,(sL none 0 0)),(3,(.bool false))] V fun _=>?_
 refine wT 3 [] 1 0 [4] [(4,(sL none 0 0))] V fun _=>?_
 refine wT 2 [] 1 0 [5] [(5,(iI 0))] V fun _=>?_
 have b7:=HS.snoc hs;refine ak (fun(mm:Nat) f H'=> ∃(al:List AllT) (k:Nat) (E:Option Addr) (N:Nat) (a_:Fp) (F':Fz),Fz.le F F'/\HS (Base.of H []) F' H' [a_] R/\OS F' (sL E al.length N) al a_/\aB f [(0,(sL ao l.length a0)),(4,(sL E al.length N)),(5,(iI (k:Int)))]/\mm=l.length-k/\(al.length=k)/\(∀q,q<k->SndP (l.getD q v_) (al.getD q v_))/\(k<=l.length)) _ ⟨([]:List AllT),0,none,0,[],_,fR,b7,(OS.nil:OS _ (sL none 0 0) ([]:List AllT) []),f_,V,m_,(by exact fun _ h=>absurd h (a0B _)),r_⟩ ?_;rintro e1 f4 H4 ⟨al,k,E,N,a_,F4,av,an,T,a4,rfl,h1,h2,hk⟩ b8;refine au _ a4 (fun _=>?_);clear a4;replace hT:=hT.mono av;replace hl:=hl.mono av;refine am 2 V ?_;refine wT 1 [] 8 11 [] [(11,(.bool (decide ((k:Int)<(l.length:Int)))))] V fun _=>?_
 refine eV 4 5 (v:=(decide ((k:Int)<(l.length:Int)))) V V V V (fun c7=>?_) (fun c7=>?_)
 ·try simp only[BS]at c7
  obtain⟨n,ez,hG⟩:=em k M;have f3:=hG.r;have f2:=hG.par;refine ab ?_;obtain⟨a3,a5⟩:=Sv.view (SR.sv hl an);obtain⟨cc,cg,b4⟩:=VFnT.fx (a5 k);refine bL 4 0 15 18 [] [(18,(aG [(iI (l.getD k v_).m),(iI (l.getD k v_).r),(sL (cA (a3 k) 2) (l.getD k v_).u.length (cK (a3 k) 2))]))] (Ha_ (Sv.ix (j:=(k:Int)) (SR.sv hl an) M M) (Hl_ 3 (qn 36 0 3 (VFnT.vw (a5 k) M) V V V V) Hn_)) (by kernel_rfl) V fun _=>?_
  refine cu (aO V V V) V V (rl.ralloc_c ex (l.getD k v_) (HS.call an) M M b4 hT (by first|exact hG.val|exact fun j=>a0e (hG.v j) M|exact vf_in hG|omega) (by first|exact hG.val|exact fun j=>a0e (hG.v j) M|exact vf_in hG|omega) (by first|exact hG.val|exact fun j=>a0e (hG.v j) M|exact vf_in hG|omega) (by first|exact hG.val|exact fun j=>a0e (hG.v j) M|exact vf_in hG|omega)) ?_;rintro _ dl ⟨U,Z,ap,ag,aq,ef,dd,ay,ar,rfl,b5,aw,ax,rfl,co,c5,c6,c8⟩;replace ar:=HS.back an V ar;replace T:=T.mono ay;let a8:Value:=(aG [(sL Z U.l.length ap),(sL ag U.p.length aq),(iI U.k)])
  refine bL 3 5 20 21 [14] [(20,a8),(21,(iI 0))] Hn_ (by kernel_rfl) V fun _=>?_
  refine zn ar V fun d2 dn b1=>?_
  refine sgo 2 9 1 0 [7] [(7,(iI 0))] (Hr_ 9 1 Hn_) b1 V V fun ch ds aA=>?_
  refine ah 3 V ?_;refine wT 1 [] 22 23 [] [(23,(.bool false))] V fun _=>?_
  refine bW 1 (v:=false) V V V V ?_;refine ab ?_;refine aY 2 0 24 25 [] [(24,(sL E al.length N)),(25,a8)] (Hr_ 1 1 Hn_) aA V V fun _=>?_
  refine zlo ([U]:List AllT) aA V (RL.cs ⟨Z,ap,ag,aq,V,by first|(dsimp only;omega)|omega,aw,ax⟩ RL.nl) V fun d1 e0 e2 dt bk a1=>?_
  refine zao 0 T a1 (OS.sv bk a1 (i:=2) V) V V V n_ fun a2 a7 b9 dv bl b2=>?_
  refine wa (sL a2 (al++([U]:List AllT)).length a7) V V V ?_;refine ah 2 V ?_;refine wU 1 [] 12 13 [5] [(5,(iI ((k:Int)+1)))] (vi (n:=(k:Int)+1) M) V fun _=>?_
  refine b8 _ _ _ ?_ ⟨al++([U]:List AllT),k+1,a2,a7,b9,_,(fT (av) ay),(HS.sub b2 (a03 _ _)),bl,f_,V,(by simp only[a01,a0j];omega),(by exact sd_snoc h2 h1 X),r_⟩;omega
 try simp only[BS]at c7
 obtain rfl:k=l.length:=M
 refine wT 1 [] 2 3 [28] [(2,(sL E al.length N)),(3,(.bool true))] V fun _=>?_
 obtain⟨dk,bb,b3,bz,c9⟩:=OS.frz T an (i:=0) V;refine aj ⟨.inr V,_,V,E,N,al,true,_,(fT (av) bb),(HS.forget b3),V,bz,m_,M,(by exact h2)⟩
end fd_
end Go.Proofs.YtgdggmlghemecaaGreatDoor
