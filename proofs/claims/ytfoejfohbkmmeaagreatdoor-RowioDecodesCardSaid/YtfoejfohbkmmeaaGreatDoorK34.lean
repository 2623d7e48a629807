import Derived.Test.YtfoejfohbkmmeaaGreatDoorK33
import Derived.Lib.SlBytesConst
set_option maxRecDepth 100000
set_option maxHeartbeats 4000000
set_option linter.defProp false
open Go.Proofs.Tryz
namespace Go.Proofs.YtfoejfohbkmmeaaGreatDoor
open Go.RowKit
open Lib renaming hid→J
def bs(l:List UInt8):ByteArray:=⟨l.toArray⟩
def eW(l:List UInt8):(bs l).data.toList=l:=by simp[bs]
def NX(s:ByteArray):bs s.data.toList=s:=mZ s
def NY{s t:ByteArray}(h:s.data.toList=t.data.toList):s=t:=by rw[<-NX s,<-NX t,h]
def AJ(l:List UInt8):(bs l).size=l.length:=by rw[cg,eW]
def AL(a b:List UInt8):(bs (a++b)).extract 0 a.length=bs a:=NY (by rw[my,eW,eW];simp)
def rP(a b:List UInt8):(bs (a++b)).extract a.length (bs (a++b)).size=bs b:=NY (by rw[my,eW,eW,AJ,Rf (Q3 _)];simp)
def wH{c:UInt8}:∀{l:List UInt8},c∉l->Lib.index l [c]= -1
 |[],_=>by simp[Lib.index]
 |b::l,h=>by
  have a:b≠c:=λe=>h (by rw[e];simp)
  have g:=wH (c:=c) (l:=l) λd=>h (RD _ d)
  have f:([c]:List UInt8).isPrefixOf (b::l)=false:=by simp[List.isPrefixOf,Ne.symm a]
  rw[Lib.index,f,g];simp
def CH{c:UInt8}{b:List UInt8}:∀{a:List UInt8},c∉a->Lib.index (a++c::b) [c]=(a.length:Int)
 |[],_=>by rw[Sc,Lib.index];simp[List.isPrefixOf]
 |x::a,h=>by
  have d:x≠c:=λe=>h (by rw[e];simp)
  have i:=CH (c:=c) (b:=b) (a:=a) λf=>h (RD _ f)
  have g:([c]:List UInt8).isPrefixOf (x::(a++c::b))=false:=by simp[List.isPrefixOf,Ne.symm d]
  rw[Sq,Lib.index,g,i,if_neg F,if_neg F];simp
def wI{a:List UInt8}(h:(10:UInt8)∉a):fa (bs a)=[bs a]:=by
 unfold fa;refine Lib.splitB_miss _ _ _ _ ?_;unfold Lib.indexB;rw[eW];exact wH h
def oE{a b:List UInt8}(h:(10:UInt8)∉a):fa (bs (a++10::b))=bs a::fa (bs b):=by
 have d:Lib.indexB (bs (a++10::b)) ⟨#[10]⟩=(a.length:Int):=by
  unfold Lib.indexB;rw[eW];exact CH h
 have c:(bs (a++10::b)).extract (a.length+(⟨#[10]⟩:ByteArray).size) (bs (a++10::b)).size=bs b:=by
  have:=rP (a++[10]) b;rw[RL,Q4]at this;exact this
 unfold fa;rw[Lib.countB_hit _ _ _ I d,c,SN 1,Lib.splitB_hit _ _ _ _ _ d,c,SB,AL]
def AM:∀(k u:Nat),u<=k->∀c∈Lib.decDigits u,48<=c.toNat/\c.toNat<=57
 |0,u,h,c,a=>by
  rw[Lib.decDigits_one O,Rs]at a;rw[a,gX _ O];omega
 |k+1,u,h,c,a=>by
  by_cases b:u<10
  ·rw[Lib.decDigits_one b,Rs]at a;rw[a,gX _ b];omega
  rw[Lib.decDigits,dif_neg b]at a;rcases RI.1 a with a|a
  ·exact AM k (u/10) O c a
  rw[Rs]at a;rw[a,gX _ O];omega
def Nk(c:UInt8):Prop:=c.toNat=45\/(48<=c.toNat/\c.toNat<=57)
def Lh(n:Int):∀c∈Lib.itoa n,Nk c:=λc a=>by
 unfold Lib.itoa at a;split at a
 ·rcases Ri.1 a with rfl|a
  ·exact .inl Z
  exact .inr (AM _ _ (Q3 _) c a)
 exact .inr (AM _ _ (Q3 _) c a)
def Ih{v:V}(a:v.ok=true):v.fmt=Lib.itoa v.n\/∃l:List UInt8,l.all qE=true/\v.fmt=39::(m0 l++[39]):=by
 unfold V.ok at a;unfold V.fmt gh;rw[if_pos a];by_cases h:v.t=1
 ·rw[if_pos h];exact .inl Z
 rw[if_neg h];unfold bY at a;rw[if_neg h]at a;simp only[Q9]at a;exact .inr ⟨_,a.2,F⟩
def wJ{a:List UInt8}(j:a.head?≠some 39):∀(l:List UInt8) (i:Nat),mA (m0 l++39::a) i=i+(m0 l).length+1
 |[],i=>by
  cases a with
  |nil=>rfl
  |cons d a=>
   have o:d≠39:=λe=>j (by rw[e];rfl)
   have g:d.toNat≠39:=λe=>o (Ta.1 e)
   rw[m0,Sc,mA,if_neg I,if_pos g];rfl
 |c::l,i=>by
  by_cases b:c=39
  ·have k:=wJ j l (i+2);rw[m0,if_pos b,Sq,Sq,mA,if_neg I,if_neg I,k];simp only[Q5];omega
  have k:=wJ j l (i+1);have f:c.toNat≠39:=λe=>b (Ta.1 e)
  obtain⟨d,m,n⟩:∃d m,m0 l++39::a=d::m:=by
   cases h:m0 l with
   |nil=>exact⟨39,a,Z⟩
   |cons d m=>exact⟨d,m++39::a,Z⟩
  rw[m0,if_neg b,Sq,n,mA,if_pos f,<-n,k];simp only[Q5];omega
def Qw(rest:List UInt8):Prop:=rest=[]\/∃c r,rest=c::r/\(c=44\/c=58)
def Nl{c:UInt8}(h:Nk c):(c==44||c==58)=false/\c≠39:=by
 unfold Nk at h;refine⟨?_,λe=>by subst e;revert h;decide⟩;rw[Rp,beq_eq_false_iff_ne,beq_eq_false_iff_ne];exact⟨λe=>by subst e;revert h;decide,λe=>by subst e;revert h;decide⟩
def yN{a:List UInt8}(e:Qw a):∀{l:List UInt8},(∀c∈l,Nk c)->nU (l++a)=if a=[]then-1 else(l.length:Int)
 |[],_=>by
  rw[Sc];rcases e with rfl|⟨c,r,rfl,f⟩
  ·rfl
  rw[if_neg F];have b:(c==44||c==58)=true:=by rcases f with rfl|rfl<;>rfl
  unfold nU;rw[UA,b,SA,b];rfl
 |c::l,h=>by
  have d:=yN e (l:=l) λx g=>h x (RD _ g)
  have b:=(Nl (h c (Rw ..))).1;unfold nU at d⊢;rw[Sq,UA,b,Vt,SA,b];simp only[Bool.not_false,if_true];split at d
  ·next h1=>
   rw[if_pos h1];split at d
   ·omega
   next h2=>rw[if_neg h2];simp only[Q5];omega
  next h1=>
  rw[if_neg h1];split at d
  ·next h2=>rw[if_pos h2]
  omega
def CI{v:V}(j:v.ok=true){a:List UInt8}(f:Qw a):lc (bs (v.fmt++a))=v.fmt.length:=by
 unfold lc qb;rw[eW,AJ];rcases Ih j with h|⟨l,k,h⟩
 ·obtain⟨c,r,e,b⟩:=mf v.n;have g:=Lh v.n;rw[h];have d:Lib.hasPrefix (Lib.itoa v.n++a) [39]=false:=by
   rw[e];simp[Lib.hasPrefix,List.isPrefixOf,Ne.symm b]
  rw[d,if_neg F,yN f g];rcases f with rfl|⟨c,r,rfl,b⟩
  ·simp
  simp
 rw[h];have d:Lib.hasPrefix (39::(m0 l++[39])++a) [39]=true:=by simp[Lib.hasPrefix,List.isPrefixOf]
 have i:a.head?≠some 39:=by
  rcases f with rfl|⟨c,r,rfl,b⟩
  ·simp
  rcases b with rfl|rfl<;>simp
 rw[d,if_pos Z,Sq,S8,Su,RL,UF,wJ i];simp only[Q5,Q4,Ra];omega
def wK{v:V}(g:v.ok=true)(a:v.rng):k9 (bs v.fmt)=some v:=by
 have j:AD (bs v.fmt) v:=⟨g,a,eW _⟩;cases h:k9 (bs v.fmt)with
 |none=>exact absurd j (tE h v)
 |some u=>
  obtain⟨i,e,f⟩:=tD h;rw[eW]at f;obtain⟨b,c,d⟩:=MF i g e.1 e.2 a.1 a.2 f.symm;cases u;cases v;simp only at b c d;rw[b,c,d]
def SepE(rest:List UInt8):Prop:=rest=[]\/∃r,rest=58::r
def SepE.sep{a:List UInt8}(h:SepE a):Qw a:=by
 rcases h with h|⟨r,h⟩
 ·exact .inl h
 exact .inr ⟨58,r,h,.inr Z⟩
def P5{a:List UInt8}(h:SepE a):Lib.hasPrefix a [44]=false:=by
 rcases h with rfl|⟨r,rfl⟩<;>simp[Lib.hasPrefix,List.isPrefixOf]
def NZ(v:V):Prop:=v.ok=true/\v.rng
def yO{a:List UInt8}(d:SepE a):∀(vs:List V) (v:V) (n:Nat) (b:List V),vs.length<n->NZ v->(∀x∈vs,NZ x)->mB n (bs (v.fmt++(dF 1 vs++a))) b=some (b++v::vs,bs a)
 |[],v,n+1,b,_,hv,_=>by
  rw[mB,dF,Sc,CI hv.1 d.sep,AL,wK hv.1 hv.2,rP,eW,P5 d];simp
 |u::vs,v,n+1,b,hn,hv,hvs=>by
  have f:∀(i:Nat),0<i->∀l,dF i l=dF 1 l:=by
   intro i k l;induction l generalizing i with
   |nil=>rfl
   |cons x l c=>rw[dF,dF,if_pos k,if_pos O,c (i+1) O,c 2 O]
  have e:dF 1 (u::vs)++a=44::(u.fmt++(dF 1 vs++a)):=by
   rw[dF,if_pos O,f 2 O];simp
  have c:=yO d vs u n (b++[v]) (by simpa using hn) (hvs u (Rw ..)) λx m=>hvs x (RD _ m)
  have g:Qw (44::(u.fmt++(dF 1 vs++a))):=.inr ⟨44,_,Z,.inl Z⟩;have h:=rP [44] (u.fmt++(dF 1 vs++a));rw[mB,e,CI hv.1 g,AL,wK hv.1 hv.2,rP,eW];simp only;rw[if_pos (by simp[Lib.hasPrefix,List.isPrefixOf])];have j:(bs (44::(u.fmt++(dF 1 vs++a)))).extract 1 (bs (44::(u.fmt++(dF 1 vs++a)))).size=bs (u.fmt++(dF 1 vs++a)):=h;rw[j,c];simp
def Li{s:Sch}{i:Nat}(h:qf[i]? =some s):s∈qf\/s=jq:=.inl (Q8 h)
def EP:kI prog 74=some (30,4,72):=U
def wL:gQ prog 74=some (30,4):=U
def AN(l:List Int)(hl:l.length<=9223372036854775807):CtE 36 [.sl (l.map jV)] (λW=>∃b:List Rel,b.length=4/\(∀r∈b,Good r)/\W=.sl (b.map Rel.tree)):=by
 refine CtE.of (n:=95) func36 Z Z Z Z Z λw0 G0=>?_
 refine C<|M 0 (t:=.sl []) Z (bz (.inr Z) bS)<|E<|C<|gc (k:=0) (e:=30) (sz:=4) (rs':=[some ⟨30,4,[].map Rel.tree,false⟩]) (.inr Z) Z Z Z Z Z<|E<|C<|M 0 Z (D Z EO Z Z)<|Y 1 Z<|H<|X 1 Z<|aB<|aT (λF A=>∃(i:Nat) (b:List Rel),(i<=4/\b.length=i/\∀r∈b,Good r)/\F=4-i/\A=⟨95,[(0,.sl (l.map jV)),(3,.own 0),(4,.sl (qf.map Sch.tree)),(5,nI i)],[],[some ⟨30,4,b.map Rel.tree,false⟩]⟩) 0 1 ⟨0,[],⟨O0,Z,λr hr=>by cases hr⟩,Z,Z⟩ .rf ?_;rintro F A ⟨i,b,⟨hi,a2,S⟩,rfl,rfl⟩;have a3:qf.length=4:=rfl;refine H<|C<|M 2 Z (aU Z lf Z)<|aI 0 Z Z Zy (B (gF i qf.length))<|E<|ay Z (λp=>?_) (λp=>?_)
 ·replace p:i<4:=p;obtain⟨s,u⟩:∃s,qf[i]? =some s:=⟨_,Q2 p⟩;have U:=Li u;have a4:=(sQ U).1;refine ar<|H<|aB<|C<|M 2 (t:=.ref (gC s)) Z (aO (Sch.tree s) Z lf Z Z Z (bd (f:=Sch.tree) u) (sO _) Z)<|Y 4 Z<|H<|X 1 Z<|aB<|aT (λF A=>∃(k:Nat) (r:Rel),(k<=3/\GoodK s k r)/\F=3-k/\A=⟨95,[(0,.sl (l.map jV)),(3,.own 0),(4,.sl (qf.map Sch.tree)),(5,nI i),(6,.box 0 0),(7,nI k)],[(30,(bQ r))],[some ⟨30,4,b.map Rel.tree,false⟩]⟩) 1 1 ⟨0,⟨s,[]⟩,⟨O0,wC U⟩,Z,Z⟩ .rf ?_;rintro F A ⟨k,r,⟨hk,L⟩,rfl,rfl⟩;refine H<|C<|ax 3 Z<|lG (λW=>∃n:Nat,n<4294967296/\W=nI n) Z Z Z (mo Z (Gh l i hl O0) Z Z) ?_;rintro _ ⟨n,hn,rfl⟩;refine M 0 (t:=nI (n%4)) Z (aC Z Z Z (λw=>nl n 4 O0 w))<|aI 0 Z Z Zy (B (gF k (n%4)))<|ax 1 Z<|N Z Z Z Z (λc=>K Z Z)<|N Z Z Z Z (λc=>aj (aC Z (if_pos c) Z (λ_=>rfl)) (B (gL i 1)))<|N Z Z Z Z (λc=>K Z (if_pos c))<|cl Z Z Z Z (λc=>K Z Z)<|cl Z Z Z Z (λc=>aj (aC Z (if_pos c) Z (λ_=>rfl)) (B (gL k 2)))<|N (t:=bT ((decide (i=1))&&(decide (k=2)))) Z Z Z Z (λc=>fJ Z (if_pos c) (λh_=>(if_pos ⟨c,h_⟩).trans (B (by rw[h_];rfl))) (λh_=>(B (by rw[h_];rfl))))<|N (t:=bT (!((decide (i=1))&&(decide (k=2))))) Z Z Z Z (λc=>dm Z (if_pos c) (λ_=>rfl))<|M 0 Z (cH Z Z Z Z)<|E<|aK Z (λI=>?_) (λI=>?_)
  ·have a1:k<3:=by
    rw[Q9]at I;have:=of_decide_eq_true I.1;omega
   refine ar<|H<|aB<|C<|a8 2 (3*i) Z Z Zy O0<|a8 0 (4+(3*i)) Z Z Zy O0<|a8 1 ((4+(3*i))+k) Z Z Zy O0<|lG (λW=>∃n:Nat,n<4294967296/\W=nI n) Z Z Z (mo Z (Gh l _ hl O0) Z Z) ?_;rintro _ ⟨m,hm,rfl⟩;refine Y 1 Z<|H ?_;obtain⟨q,hq⟩:∃q,(if s.cert=true then(((1:Nat):Nat):Rat)else ju (m/2^4))=q:=⟨_,Z⟩;have O:q∈j8:=by
    rw[<-hq];split
    ·exact Ig
    exact yL _
   refine am<|M 1 (t:=nI (m/2^4)) Z (aC Z Z Z (λw=>kf m 4 I1 w))<|M 0 Z (D Z (rO _) Z Z)<|M 0 (t:=.agg [.sc (.slice none 0 0),bT (decide ((ju (m/2^4)).num<0)),aY ((ju (m/2^4)).num.natAbs),aY ((ju (m/2^4)).den)]) Z (oR Z gw Z Z Z)<|Y 2 Z<|H<|oc ⟨95,[(0,.sl (l.map jV)),(3,.own 0),(4,.sl (qf.map Sch.tree)),(5,nI i),(6,.box 0 0),(7,nI k),(8,nI m),(9,.box 1 0)],[(30,(bQ r)),(67,[.sc (.slice none 0 0),bT (decide (q.num<0)),aY q.num.natAbs,aY q.den])],[some ⟨30,4,b.map Rel.tree,false⟩]⟩ 2 1 ?_ ?_
   ·refine C<|M 2 (t:=.ref (gC s)) Z (aO (Sch.tree s) Z lf Z Z Z (bd (f:=Sch.tree) u) (sO _) Z)<|Y 2 Z<|aK Z (λJ=>?_) (λJ=>?_)
    ·refine am<|M 0 Z (D Z (rx 1 I1) Z Z)<|Y 2 Z<|⟨Z,by rw[<-hq,show(if s.cert=true then(((1:Nat):Nat):Rat)else ju (m/2^4))=_ from(if_pos J)];rfl,Z,.cons Z Z (.cons Z Z (.cons Z Z (.cons Z Z (.cons Z Z (.cons Z Z (.cons Z Z (.cons Z Z .nil))))))),Z⟩
    refine ar<|⟨Z,by rw[<-hq,show(if s.cert=true then(((1:Nat):Nat):Rat)else ju (m/2^4))=_ from(if_neg (by rw[J];exact R0))];rfl,Z,.cons Z Z (.cons Z Z (.cons Z Z (.cons Z Z (.cons Z Z (.cons Z Z (.cons Z Z (.cons Z Z .nil))))))),Z⟩
   refine H<|X 1 Z<|aB<|iU 1 0 77 3 (bs':=[(30,(bQ r)),(67,[.own 1,bT (decide (q.num<0)),aY q.num.natAbs,aY q.den])]) (rs':=[some ⟨30,4,b.map Rel.tree,false⟩,some ⟨77,3,[].map V.tree,false⟩]) Z Z Z Z<|aT (λF A=>∃(j:Nat) (a:List V) (z:Nat),(j<=s.cols.length/\a.length=j/\z<4294967296/\∀v∈a,v.s.size<=9223372036854775807/\v.rng)/\F=s.cols.length-j/\A=⟨95,[(0,.sl (l.map jV)),(3,.own 0),(4,.sl (qf.map Sch.tree)),(5,nI i),(6,.box 0 0),(7,nI k),(8,nI z),(9,.box 1 0),(10,nI j)],[(30,(bQ r)),(67,[.own 1,bT (decide (q.num<0)),aY q.num.natAbs,aY q.den])],[some ⟨30,4,b.map Rel.tree,false⟩,some ⟨77,3,a.map V.tree,false⟩]⟩) 2 2 ⟨0,[],m,⟨O0,Z,hm,λv d=>by cases d⟩,Z,Z⟩ .rf ?_;rintro F A ⟨j,a,z,⟨hj,P,hz,g⟩,rfl,rfl⟩;refine H<|C<|M 3 (t:=.ref (gC s)) Z (aO (Sch.tree s) Z lf Z Z Z (bd (f:=Sch.tree) u) (sO _) Z)<|M 2 Z (aU Z bk Z)<|aI 0 Z Z Zy (B (gF j s.cols.length))<|E<|ay Z (λa0=>?_) (λa0=>?_)
   ·refine ar<|H<|aB<|H<|eM (sl':=[(0,.sl (l.map jV)),(3,.own 0),(4,.sl (qf.map Sch.tree)),(5,nI i),(6,.box 0 0),(7,nI k),(8,nI z),(9,.box 1 0),(10,nI j),(67,bT (decide (j<s.cols.length)))]) ⟨Z,⟨Z,⟨Z,⟨Z,⟨Z,⟨Z,⟨Z,⟨Z,⟨Z,⟨Z,trivial⟩⟩⟩⟩⟩⟩⟩⟩⟩⟩<|Vr (fu:=4) [some 70,some 71,some 72,some 73,some 74,some 75,some 76,some 77,some 78,none] [7,9] [.box 1 0,.own 1,nI z,nI (z%3),nI (1+(z%3)),.agg [iT 1,nI (1+z%3),sT (⟨#[]⟩)],.sl [.agg [iT 1,nI (1+z%3),sT (⟨#[]⟩)]],.own 1,.box 1 0,.any] [([7],[(30,(bQ r)),(67,[.any,bT (decide (q.num<0)),aY q.num.natAbs,aY q.den])],[some ⟨30,4,b.map Rel.tree,false⟩,some ⟨77,3,(a++[(⟨1,((1+z%3:Nat):Int),⟨#[]⟩⟩:V)]).map V.tree,false⟩],[(1,.any)])] [9,7] [(30,(bQ r)),(67,[.own 1,bT (decide (q.num<0)),aY q.num.natAbs,aY q.den])] [some ⟨30,4,b.map Rel.tree,false⟩,some ⟨77,3,(a++[(⟨1,((1+z%3:Nat):Int),⟨#[]⟩⟩:V)]).map V.tree,false⟩] [(1,.any)] U0 Z U0 U0 U0 Z Z ?_ ?_
    ·refine .opp [] (.okk Z (aq Z Z cz Z)<|.fin)<|.opp [0] (.okk Z (av Z Z Z di Z)<|.fin)<|.opp [] (.okk Z (K Z Z)<|.fin)<|.opp [2] (.okk Z (aC Z Z Z (λw=>nl z 3 O0 w))<|.fin)<|.opp [3] (.okk Z (aj (aC Z Z Z Zy) (kK O0))<|.fin)<|.opp [4] (.okk Z (D Z (rN _) Z Z)<|.fin)<|.opp [5] (.okk Z (aS Z bI gp Z I1 I1 Z Z Z Z Z)<|.fin)<|.opp [1,6] (.wr 1 (fk 1) (.own 1) U0 Z Z (c8 Z Z Z iM Z Z Z Z (by intro e o;simp only[Ri,RM,or_false]at o;subst o;rfl) (AllC.lit Z) (AllC.lit Z) (by simp only[Rn,Q5,Ra];omega) Z Z (by rw[Sn];rfl)) Z Z Z Z (.ks 7 Z (.i Z (.k Z (.k Z .nil))))<|.fin)<|.opp [] (.no U0<|.okk Z (aq Z Z cz Z)<|.fin)<|.opp [7,8] (.no U0<|.wr 2 id .any U0 Z Z (fx Z Z Z Z Z Z Z Z EH Z Z Z) Z Z Z Z (.ks 9 Z (.i Z .nil))<|.fin)<|.nil
    refine am<|M 1 (t:=nI (z/3)) Z (aC Z Z Z (λw=>uf z 3 O0 O0 w))<|Y 1 Z<|am<|a8 1 (j+1) Z Z Zy O0<|Y 1 Z<|⟨_,_,?_,⟨j+1,a++[(⟨1,((1+z%3:Nat):Int),⟨#[]⟩⟩:V)],z/3,?_,Z,Z⟩,.rf⟩
    ·omega
    refine⟨O0,by simp[P],O0,λv d=>?_⟩;rcases RI.1 d with h|h
    ·exact g v h
    rw[Rs.1 h];exact⟨by show 0<=_;omega,by show-9223372036854775808<=((1+z%3:Nat):Int);omega,by show((1+z%3:Nat):Int)<=9223372036854775807;omega⟩
   refine aX<|H ?_;by_cases o:dW r (⟨a,q⟩:Tp)=0
   ·refine dp 1 (bs':=[(30,(bQ r)),(67,[.sl (a.map V.tree),bT (decide (q.num<0)),aY q.num.natAbs,aY q.den])]) (rs':=[some ⟨30,4,b.map Rel.tree,false⟩,none]) Z Z Z Z ?_;have G:a.length<=65536:=O0
    have y:EE ⟨a,q⟩:=λv d=>(g v d).1
    have T:∀v∈(⟨a,q⟩:Tp).vals,v.rng:=λv d=>(g v d).2
    refine am<|M 2 (t:=.tup [.agg (bQ (g8 r (⟨a,q⟩:Tp))),iT 0]) Z (D Z (by have h:=jJ r ⟨a,q⟩ (L.1.fit).1 L.1.str (nM O) y G;rw[AI o]at h;exact h) Z Z)<|Y 6 Z<|C<|aI 1 Z Z Zy (B (gL 0 0))<|E<|ay Z (λQ=>?_) (λQ=>?_)
    ·refine eh 2 Z<|am<|a8 1 (k+1) Z Z Zy O0<|Y 1 Z<|⟨_,_,?_,⟨k+1,(g8 r (⟨a,q⟩:Tp)),?_,Z,Z⟩,.rf⟩
     ·omega
     exact⟨O0,CG L a1 o O y T⟩
    exact absurd Z Q
   refine dp 1 (bs':=[(30,(bQ r)),(67,[.sl (a.map V.tree),bT (decide (q.num<0)),aY q.num.natAbs,aY q.den])]) (rs':=[some ⟨30,4,b.map Rel.tree,false⟩,none]) Z Z Z Z ?_;have G:a.length<=65536:=O0
   have y:EE ⟨a,q⟩:=λv d=>(g v d).1
   have T:∀v∈(⟨a,q⟩:Tp).vals,v.rng:=λv d=>(g v d).2
   refine am<|M 2 (t:=.tup [.agg c7,iT (dW r (⟨a,q⟩:Tp))]) Z (D Z (by have h:=jJ r ⟨a,q⟩ (L.1.fit).1 L.1.str (nM O) y G;rw[wD o]at h;exact h) Z Z)<|Y 6 Z<|C<|M 1 (t:=bT ((dW r (⟨a,q⟩:Tp))==0)) Z (aC Z Z Z Zy)<|E<|aK Z (λR=>?_) (λR=>?_)
   ·exact absurd (by simpa using R) o
   refine ar<|am<|a8 1 (k+1) Z Z Zy O0<|Y 1 Z<|⟨_,_,?_,⟨k+1,r,?_,Z,Z⟩,.rf⟩
   ·omega
   exact⟨O0,L.more⟩
  refine aX<|am<|M 2 (t:=.sl [.agg (bQ r)]) Z (aS Z wL jE Z I1 I1 Z Z Z Z Z)<|a7 (bs':=[(30,(bQ r))]) (rs':=[some ⟨30,4,(b++[r]).map Rel.tree,false⟩]) Z Z Z Z EP Z Z Z Z (by intro e o;simp only[Ri,RM,or_false]at o;subst o;rfl) (AllC.lit Z) (AllC.lit Z) (by simp only[Rn,Q5,Ra];omega) Z Z Z (by rw[Sn];rfl)<|Y 1 Z<|am<|a8 1 (i+1) Z Z Zy O0<|Y 1 Z<|⟨_,_,?_,⟨i+1,b++[r],?_,Z,Z⟩,.rf⟩
  ·omega
  refine⟨O0,by simp[a2],λx hx=>?_⟩;rcases RI.1 hx with h|h
  ·exact S x h
  rw[Rs.1 h];exact L.1
 refine aX<|H<|dp 0 (bs':=[]) (rs':=[none]) Z Z Z Z<|eh 2 Z<|aQ<|⟨_,⟨b,O0,S,Z⟩,.inr Z,_,.cons Z .nil,Z,Z⟩
def mD(x:ByteArray)(k:Nat):Tp:=⟨[⟨2,0,x⟩,⟨1,((k/2^3:Nat):Int)-20,⟨#[]⟩⟩],ju (k/2^5)⟩
def yP{a:Int}(h: -9223372036854775808<=a)(b:a<=9223372036854775807):(Tree.sc (.int .i64 (IntKind.i64.wrap a)))=iT a:=by
 rw[RZ];congr 2;omega
def jW{x:ByteArray}(n:Nat):(mD x n).prob∈j8:=yL _
def oF{x:ByteArray}(h:x.size<=5)(n:Nat):EE (mD x n):=λv a=>by
 simp only[mD,Ri,To,or_false]at a;rcases a with rfl|rfl
 ·show x.size<=_;omega
 show 0<=_;omega
def Lj(x:ByteArray){n:Nat}(h:n<4294967296):∀v∈(mD x n).vals,v.rng:=λv a=>by
 simp only[mD,Ri,To,or_false]at a;rcases a with rfl|rfl
 ·exact⟨by show(-9223372036854775808:Int)<=0;omega,by show(0:Int)<=9223372036854775807;omega⟩
 exact⟨by show-9223372036854775808<=((n/2^3:Nat):Int)-20;omega,by show((n/2^3:Nat):Int)-20<=9223372036854775807;omega⟩
def Ii:ij prog 9=some [.string (⟨#[]⟩)]:=U
def Lk(l:List Int)(x:l.length<=9223372036854775807):CtE 12 [.sl (l.map jV)] (λc=>∃r:Rel,Good r/\c=r.tree):=by
 refine CtE.of (n:=55) func12 Z Z Z Z Z λw0 G0=>?_
 refine X 1 Z<|C<|ax 1 Z<|lG (λc=>∃n:Nat,n<4294967296/\c=nI n) Z Z Z (mo Z (Gh l 0 x O0) Z Z) ?_;rintro _ ⟨n,J,rfl⟩;refine Y 1 Z<|H<|C<|M 1 (t:=nI (n%5)) Z (aC Z Z Z (λw=>nl n 5 O0 w))<|aI 0 Z Z Zy (B (gF (n%5) 4))<|E<|ay Z (λq=>?_) (λq=>?_)
 ·refine C<|ax 1 Z<|lG (λc=>∃b:List Rel,b.length=4/\(∀r∈b,Good r)/\c=.sl (b.map Rel.tree)) Z Z Z (mo Z (AN l x) Z Z) ?_;rintro _ ⟨b,I,v,rfl⟩;obtain⟨e,o⟩:∃e,b[n%5]? =some e:=⟨_,Q2 O0⟩;have u:=v e (Q8 o);refine M 1 (t:=nI (n%5)) Z (aC Z Z Z (λw=>nl n 5 O0 w))<|M 0 (t:=.ref (bQ e)) Z (aO (Rel.tree e) Z wL Z Z Z (bd (f:=Rel.tree) o) (Ie _) Z)<|Y 2 Z<|aQ<|⟨_,⟨e,u,Z⟩,.inr Z,_,.cons (co Z Z bf Z) .nil,Z,Z⟩
 refine ar<|C<|M 0 Z (D Z wG Z Z)<|Y 3 Z<|H<|X 1 Z<|aB<|aT (λz y=>∃(i:Nat) (r:Rel),(1<=i/\i<=4/\GoodK jq (i-1) r)/\z=4-i/\y=⟨55,[(0,.sl (l.map jV)),(2,.box 0 0),(3,nI n),(4,.box 1 0),(5,nI i)],[(30,c7),(30,(bQ r))],[]⟩) 2 0 ⟨1,⟨jq,[]⟩,⟨O0,O0,wC (.inr Z)⟩,Z,Z⟩ .rf ?_;rintro z y ⟨i,r,⟨A,F,a⟩,rfl,rfl⟩;refine H<|C<|aI 1 Z Z Zy (B (gF i 4))<|E<|ay Z (λs=>?_) (λs=>?_)
 ·refine ar<|H<|aB<|C<|ax 2 Z<|lG (λc=>∃n:Nat,n<4294967296/\c=nI n) Z Z Z (mo Z (Gh l i x O0) Z Z) ?_;rintro _ ⟨m,G,rfl⟩;refine Y 1 Z<|C<|M 0 (t:=.sl (iQ.map kp)) Z (aj (aS Z nL Ii Z I1 I1 Z Z Z Z Z) (Z))<|M 1 (t:=nI (m%5)) Z (aC Z Z Z (λw=>nl m 5 O0 w))<|M 0 (t:=.ref [sT (iQ.getD (m%5) ⟨#[]⟩)]) Z (aO (kp (iQ.getD (m%5) ⟨#[]⟩)) Z nL Z Z Z (bd (f:=kp) (mC m).1) (yI _) Z)<|Y 2 Z<|H ?_;by_cases d:dW r (mD (iQ.getD (m%5) ⟨#[]⟩) m)=0
  ·refine eM (sl':=[(0,.sl (l.map jV)),(2,.box 0 0),(3,nI n),(4,.box 1 0),(5,nI i),(24,bT (decide (i<4))),(6,nI m),(7,sT (iQ.getD (m%5) ⟨#[]⟩))]) ⟨Z,⟨Z,⟨Z,⟨Z,⟨Z,⟨Z,⟨Z,⟨Z,trivial⟩⟩⟩⟩⟩⟩⟩⟩<|Vr (fu:=1) [some 36,some 37,some 38,some 39,some 40,some 41,some 42,some 43,some 44,some 45,some 46,some 47,some 48,some 35,some 49,some 50,some 8,none,some 9] [16,17] [.agg (bQ r),sT (iQ.getD (m%5) ⟨#[]⟩),.agg [iT 2,iT 0,sT (iQ.getD (m%5) ⟨#[]⟩)],nI m,nI (m/2^3),iT (((m/2^3:Nat):Int)-20),.agg [iT 1,iT (((m/2^3:Nat):Int)-20),sT (⟨#[]⟩)],.sl [.agg [iT 2,iT 0,sT (iQ.getD (m%5) ⟨#[]⟩)],.agg [iT 1,iT (((m/2^3:Nat):Int)-20),sT (⟨#[]⟩)]],nI m,nI (m/2^5),.agg (bj (ju (m/2^5))),.agg [.sl [.agg [iT 2,iT 0,sT (iQ.getD (m%5) ⟨#[]⟩)],.agg [iT 1,iT (((m/2^3:Nat):Int)-20),sT (⟨#[]⟩)]],bT (decide ((ju (m/2^5)).num<0)),aY ((ju (m/2^5)).num.natAbs),aY ((ju (m/2^5)).den)],.tup [.agg (bQ (g8 r (mD (iQ.getD (m%5) ⟨#[]⟩) m))),iT 0],.tup [.agg (bQ (g8 r (mD (iQ.getD (m%5) ⟨#[]⟩) m))),iT 0],.agg (bQ (g8 r (mD (iQ.getD (m%5) ⟨#[]⟩) m))),iT 0,.any,.any,iT 0] [([16],[(30,c7),(30,(bQ r)),(30,c7)],[],[(16,.box 2 0)])] [17,16] [(30,c7),(30,(bQ r)),(30,(bQ (g8 r (mD (iQ.getD (m%5) ⟨#[]⟩) m))))] [] [(16,.box 2 0)] U0 Z U0 U0 U0 Z Z ?_ ?_
   ·refine .opp [] (.okk Z (aN Z Z Z bf Z Z)<|.okk Z (aN Z Z Z bf Z Z)<|.fin)<|.opp [] (.okk Z (K Z Z)<|.okk Z (K Z Z)<|.fin)<|.opp [1] (.okk Z (D Z (um _) Z Z)<|.okk Z (D Z (um _) Z Z)<|.fin)<|.opp [] (.okk Z (K Z Z)<|.okk Z (K Z Z)<|.fin)<|.opp [3] (.okk Z (aC Z Z Z (λw=>kf m 3 I1 w))<|.okk Z (aC Z Z Z (λw=>kf m 3 I1 w))<|.fin)<|.opp [4] (.okk Z (aj (aC Z Z Z Zy) (yP O0 O0))<|.okk Z (aj (aC Z Z Z Zy) (yP O0 O0))<|.fin)<|.opp [5] (.okk Z (D Z (rN _) Z Z)<|.okk Z (D Z (rN _) Z Z)<|.fin)<|.opp [2,6] (.okk Z (aS Z bI gp Z I1 I1 Z Z Z Z Z)<|.okk Z (aS Z bI gp Z I1 I1 Z Z Z Z Z)<|.fin)<|.opp [] (.okk Z (K Z Z)<|.okk Z (K Z Z)<|.fin)<|.opp [8] (.okk Z (aC Z Z Z (λw=>kf m 5 I1 w))<|.okk Z (aC Z Z Z (λw=>kf m 5 I1 w))<|.fin)<|.opp [9] (.okk Z (D Z (rO _) Z Z)<|.okk Z (D Z (rO _) Z Z)<|.fin)<|.opp [7,10] (.okk Z (f5 Z gw Z Z Z)<|.okk Z (f5 Z gw Z Z Z)<|.fin)<|.opp [0,11] (.okk Z (D Z (by have h:=jJ r (mD (iQ.getD (m%5) ⟨#[]⟩) m) (a.1.fit).1 a.1.str (nM (jW _)) (oF (mC _).2 _) (by show 2<=65536;decide);rw[AI d]at h;exact h) Z Z)<|.okk Z (D Z (by have h:=jJ r (mD (iQ.getD (m%5) ⟨#[]⟩) m) (a.1.fit).1 a.1.str (nM (jW _)) (oF (mC _).2 _) (by show 2<=65536;decide);rw[AI d]at h;exact h) Z Z)<|.fin)<|.opp [12] (.okk Z (K Z Z)<|.okk Z (K Z Z)<|.fin)<|.opp [13] (.okk Z (eN Z Z Z)<|.okk Z (eN Z Z Z)<|.fin)<|.opp [13] (.okk Z (eN Z Z Z)<|.okk Z (eN Z Z Z)<|.okk Z (eN Z Z Z)<|.nil)<|.opp [] (.wr 1 id (.box 2 0) U0 Z Z (iz Z Z Z jE Z Z Z Z) Z Z Z Z (.ks 16 Z (.i Z (.k Z (.k Z .nil))))<|.fin)<|.opp [14,16] (.no U0<|.wr 2 id .any U0 Z Z (fx Z Z Z Z Z Z Z Z nD Z Z Z) Z Z Z Z (.ks 17 Z (.i Z (.k Z .nil)))<|.fin)<|.opp [15] (.nos 2<|.okk Z (bN Z Z)<|.nil)<|.nil
   refine C<|aI 1 Z Z Zy (B (gL 0 0))<|E<|ay Z (λg=>?_) (λg=>?_)
   ·refine eh 2 Z<|am<|a8 1 (i+1) Z Z Zy O0<|Y 1 Z<|⟨_,_,?_,⟨i+1,(g8 r (mD (iQ.getD (m%5) ⟨#[]⟩) m)),?_,Z,Z⟩,.rf⟩
    ·omega
    refine⟨O0,O0,?_⟩;have p:=CG a O0 d (jW _) (oF (mC _).2 _) (Lj _ G);rwa[show i-1+1=i+1-1 from by omega]at p
   exact absurd Z g
  refine eM (sl':=[(0,.sl (l.map jV)),(2,.box 0 0),(3,nI n),(4,.box 1 0),(5,nI i),(24,bT (decide (i<4))),(6,nI m),(7,sT (iQ.getD (m%5) ⟨#[]⟩))]) ⟨Z,⟨Z,⟨Z,⟨Z,⟨Z,⟨Z,⟨Z,⟨Z,trivial⟩⟩⟩⟩⟩⟩⟩⟩<|Vr (fu:=1) [some 36,some 37,some 38,some 39,some 40,some 41,some 42,some 43,some 44,some 45,some 46,some 47,some 48,some 35,some 49,some 50,some 8,none,some 9] [16,17] [.agg (bQ r),sT (iQ.getD (m%5) ⟨#[]⟩),.agg [iT 2,iT 0,sT (iQ.getD (m%5) ⟨#[]⟩)],nI m,nI (m/2^3),iT (((m/2^3:Nat):Int)-20),.agg [iT 1,iT (((m/2^3:Nat):Int)-20),sT (⟨#[]⟩)],.sl [.agg [iT 2,iT 0,sT (iQ.getD (m%5) ⟨#[]⟩)],.agg [iT 1,iT (((m/2^3:Nat):Int)-20),sT (⟨#[]⟩)]],nI m,nI (m/2^5),.agg (bj (ju (m/2^5))),.agg [.sl [.agg [iT 2,iT 0,sT (iQ.getD (m%5) ⟨#[]⟩)],.agg [iT 1,iT (((m/2^3:Nat):Int)-20),sT (⟨#[]⟩)]],bT (decide ((ju (m/2^5)).num<0)),aY ((ju (m/2^5)).num.natAbs),aY ((ju (m/2^5)).den)],.tup [.agg c7,iT (dW r (mD (iQ.getD (m%5) ⟨#[]⟩) m))],.tup [.agg c7,iT (dW r (mD (iQ.getD (m%5) ⟨#[]⟩) m))],.agg c7,iT (dW r (mD (iQ.getD (m%5) ⟨#[]⟩) m)),.any,.any,iT (dW r (mD (iQ.getD (m%5) ⟨#[]⟩) m))] [([16],[(30,c7),(30,(bQ r)),(30,c7)],[],[(16,.box 2 0)])] [17,16] [(30,c7),(30,(bQ r)),(30,c7)] [] [(16,.box 2 0)] U0 Z U0 U0 U0 Z Z ?_ ?_
  ·refine .opp [] (.okk Z (aN Z Z Z bf Z Z)<|.okk Z (aN Z Z Z bf Z Z)<|.fin)<|.opp [] (.okk Z (K Z Z)<|.okk Z (K Z Z)<|.fin)<|.opp [1] (.okk Z (D Z (um _) Z Z)<|.okk Z (D Z (um _) Z Z)<|.fin)<|.opp [] (.okk Z (K Z Z)<|.okk Z (K Z Z)<|.fin)<|.opp [3] (.okk Z (aC Z Z Z (λw=>kf m 3 I1 w))<|.okk Z (aC Z Z Z (λw=>kf m 3 I1 w))<|.fin)<|.opp [4] (.okk Z (aj (aC Z Z Z Zy) (yP O0 O0))<|.okk Z (aj (aC Z Z Z Zy) (yP O0 O0))<|.fin)<|.opp [5] (.okk Z (D Z (rN _) Z Z)<|.okk Z (D Z (rN _) Z Z)<|.fin)<|.opp [2,6] (.okk Z (aS Z bI gp Z I1 I1 Z Z Z Z Z)<|.okk Z (aS Z bI gp Z I1 I1 Z Z Z Z Z)<|.fin)<|.opp [] (.okk Z (K Z Z)<|.okk Z (K Z Z)<|.fin)<|.opp [8] (.okk Z (aC Z Z Z (λw=>kf m 5 I1 w))<|.okk Z (aC Z Z Z (λw=>kf m 5 I1 w))<|.fin)<|.opp [9] (.okk Z (D Z (rO _) Z Z)<|.okk Z (D Z (rO _) Z Z)<|.fin)<|.opp [7,10] (.okk Z (f5 Z gw Z Z Z)<|.okk Z (f5 Z gw Z Z Z)<|.fin)<|.opp [0,11] (.okk Z (D Z (by have h:=jJ r (mD (iQ.getD (m%5) ⟨#[]⟩) m) (a.1.fit).1 a.1.str (nM (jW _)) (oF (mC _).2 _) (by show 2<=65536;decide);rw[wD d]at h;exact h) Z Z)<|.okk Z (D Z (by have h:=jJ r (mD (iQ.getD (m%5) ⟨#[]⟩) m) (a.1.fit).1 a.1.str (nM (jW _)) (oF (mC _).2 _) (by show 2<=65536;decide);rw[wD d]at h;exact h) Z Z)<|.fin)<|.opp [12] (.okk Z (K Z Z)<|.okk Z (K Z Z)<|.fin)<|.opp [13] (.okk Z (eN Z Z Z)<|.okk Z (eN Z Z Z)<|.fin)<|.opp [13] (.okk Z (eN Z Z Z)<|.okk Z (eN Z Z Z)<|.okk Z (eN Z Z Z)<|.nil)<|.opp [] (.wr 1 id (.box 2 0) U0 Z Z (iz Z Z Z jE Z Z Z Z) Z Z Z Z (.ks 16 Z (.i Z (.k Z (.k Z .nil))))<|.fin)<|.opp [14,16] (.no U0<|.wr 2 id .any U0 Z Z (fx Z Z Z Z Z Z Z Z nD Z Z Z) Z Z Z Z (.ks 17 Z (.i Z (.k Z .nil)))<|.fin)<|.opp [15] (.nos 2<|.okk Z (bN Z Z)<|.nil)<|.nil
  refine C<|M 1 (t:=bT ((dW r (mD (iQ.getD (m%5) ⟨#[]⟩) m))==0)) Z (aC Z Z Z Zy)<|E<|aK Z (λj=>?_) (λj=>?_)
  ·exact absurd (by simpa using j) d
  refine ar<|am<|a8 1 (i+1) Z Z Zy O0<|Y 1 Z<|⟨_,_,?_,⟨i+1,r,?_,Z,Z⟩,.rf⟩
  ·omega
  refine⟨O0,O0,?_⟩;have p:=a.more;rwa[show i-1+1=i+1-1 from by omega]at p
 refine aX<|X 2 Z<|aQ<|⟨_,⟨r,a.1,Z⟩,.inr Z,_,.cons (co Z Z bf Z) .nil,Z,Z⟩
def CJ:∀{cs:List Col} {vs:List V},ff cs vs=false->vs.length=cs.length->∀v∈vs,v.ok=true
 |[],[],_,_,v,h=>by cases h
 |[],_::_,_,h,_,_=>by simp at h
 |_::_,[],_,h,_,_=>by simp at h
 |c::cs,u::vs,h,hl,v,a=>by
  rw[ff]at h;simp only[Rp,UO]at h;rcases Ri.1 a with rfl|a
  ·exact h.1.2
  exact CJ h.2 (by simpa using hl) v a
structure LnOK (s:Sch) (t:Tp):Prop where
 c:ch s t=0
 q:t.prob∈j8
 r:∀v∈t.vals,v.rng
def yQ:∀(vs:List V) (i:Nat),0<i->vs.length<=(dF i vs).length
 |[],_,_=>Q3 _
 |v::vs,i,hi=>by
  have:=yQ vs (i+1) O;rw[dF,if_pos hi];simp only[Q4,Q5,Ra];omega
def xG(cert:Bool)(L:List ByteArray)(i:Nat)(r:Rel):fg cert (bs []::L) i r=fg cert L (i+1) r:=by
 rw[fg,if_pos (show((bs []).toList==(⟨#[]⟩:ByteArray).toList)=true from beq_self_eq_true (⟨#[]⟩:ByteArray).toList)]
def P6:List UInt8:=[39,98,44,32,99,39,44,49,58,48,46,53,10,10,39,97,39,44,50,58,49,47,51]
def P7:List UInt8:=[39,97,39,44,49,58,49,10,39,97,39,44,50,58,49,47,57]
def Pk:List UInt8:=[39,97,39,44,50,58,49,47,51,10,39,98,44,32,99,39,44,49,58,49,47,50,10]
def kA:Tp:=⟨[⟨2,0,⟨#[97]⟩⟩,⟨1,2,⟨#[]⟩⟩],eK false 1 3⟩
def kB:Tp:=⟨[⟨2,0,⟨#[98,44,32,99]⟩⟩,⟨1,1,⟨#[]⟩⟩],eK false 1 2⟩
def P8:fa (bs P6)=[bs [39,98,44,32,99,39,44,49,58,48,46,53],bs [],bs [39,97,39,44,50,58,49,47,51]]:=by
 have d:=oE (a:=[39,98,44,32,99,39,44,49,58,48,46,53]) (b:=[10,39,97,39,44,50,58,49,47,51]) I;have c:=oE (a:=[]) (b:=[39,97,39,44,50,58,49,47,51]) I;have e:=wI (a:=[39,97,39,44,50,58,49,47,51]) I;rw[e]at c;exact d.trans (congrArg _ c)
def ph{v:V}{vs:List V}{p:List UInt8}{q:Rat}(f:NZ v)(a:∀x∈vs,NZ x)(b:iO (bs p)=(q,0)):(dP (bs (dF 0 (v::vs)++58::p)) false).ok=true/\lX (dP (bs (dF 0 (v::vs)++58::p)) false)=⟨v::vs,q⟩:=by
 have c:mB ((bs (dF 0 (v::vs)++58::p)).size+1) (bs (dF 0 (v::vs)++58::p)) []=some (v::vs,bs (58::p)):=by
  have e:dF 0 (v::vs)++58::p=v.fmt++(dF 1 vs++58::p):=by rw[dF,if_neg O];simp
  have g:=yQ vs 1 O;rw[e];refine yO (.inr ⟨_,Z⟩) vs v _ [] ?_ f a;rw[AJ];simp only[Q4];omega
 have d:(bs (58::p)).extract 1 (bs (58::p)).size=bs p:=rP [58] p;unfold dP;rw[c];simp only;rw[if_neg F,if_neg (by rw[eW];simp[Lib.hasPrefix,List.isPrefixOf]),d,if_pos (by rw[b])];refine⟨Z,?_⟩;unfold lX;simp only;rw[b,gB]
def Qx:List UInt8:=[39,98,44,32,99,39,44,49,58,48,46,53]
def Qy:List UInt8:=[39,97,39,44,50,58,49,47,51]
def P9:List UInt8:=[39,97,39,44,49,58,49]
def Pl:List UInt8:=[39,97,39,44,50,58,49,47,57]
def kC:Tp:=⟨[⟨2,0,⟨#[97]⟩⟩,⟨1,1,⟨#[]⟩⟩],eK false 1 1⟩
def kD:Tp:=⟨[⟨2,0,⟨#[97]⟩⟩,⟨1,2,⟨#[]⟩⟩],eK false 1 9⟩
def tF:(∀x∈[(⟨1,1,⟨#[]⟩⟩:V)],NZ x)/\(∀x∈[(⟨1,2,⟨#[]⟩⟩:V)],NZ x)/\NZ ⟨2,0,⟨#[97]⟩⟩/\NZ ⟨2,0,⟨#[98,44,32,99]⟩⟩:=by
 refine⟨λx a=>?_,λx a=>?_,?_,?_⟩
 ·rw[Rs.1 a];exact⟨U,by unfold V.rng;decide⟩
 ·rw[Rs.1 a];exact⟨U,by unfold V.rng;decide⟩
 ·exact⟨U,by unfold V.rng;decide⟩
 exact⟨U,by unfold V.rng;decide⟩
def Qa:(dP (bs Qx) false).ok=true/\lX (dP (bs Qx) false)=kB:=by
 have h:=ph (p:=[48,46,53]) (q:=eK false 1 2) tF.2.2.2 tF.1 (by decide+kernel);have e:dF 0 [(⟨2,0,⟨#[98,44,32,99]⟩⟩:V),⟨1,1,⟨#[]⟩⟩]++58::[48,46,53]=Qx:=U
 rw[e]at h;exact h
def Qb:(dP (bs Qy) false).ok=true/\lX (dP (bs Qy) false)=kA:=by
 have h:=ph (p:=[49,47,51]) (q:=eK false 1 3) tF.2.2.1 tF.2.1 (by decide+kernel);have e:dF 0 [(⟨2,0,⟨#[97]⟩⟩:V),⟨1,2,⟨#[]⟩⟩]++58::[49,47,51]=Qy:=U
 rw[e]at h;exact h
def Qc:(dP (bs P9) false).ok=true/\lX (dP (bs P9) false)=kC:=by
 have h:=ph (p:=[49]) (q:=eK false 1 1) tF.2.2.1 tF.1 (by decide+kernel);have e:dF 0 [(⟨2,0,⟨#[97]⟩⟩:V),⟨1,1,⟨#[]⟩⟩]++58::[49]=P9:=U
 rw[e]at h;exact h
def Qd:(dP (bs Pl) false).ok=true/\lX (dP (bs Pl) false)=kD:=by
 have h:=ph (p:=[49,47,57]) (q:=eK false 1 9) tF.2.2.1 tF.2.1 (by decide+kernel);have e:dF 0 [(⟨2,0,⟨#[97]⟩⟩:V),⟨1,2,⟨#[]⟩⟩]++58::[49,47,57]=Pl:=U
 rw[e]at h;exact h
def Qe:fa (bs P7)=[bs P9,bs Pl]:=by
 have c:=oE (a:=P9) (b:=Pl) I;have d:=wI (a:=Pl) I;rw[d]at c;exact c
def QQ:rL ⟨jq,[kA,kB]⟩=Pk:=U
def Qf:d5 ⟨jq,[]⟩ kB=0:=by decide+kernel
def Qg:d5 ⟨jq,[kB]⟩ kA=0:=by decide+kernel
def Qh:g8 ⟨jq,[kB]⟩ kA=⟨jq,[kA,kB]⟩:=U
def Qi:d5 ⟨jq,[]⟩ kC=0:=by decide+kernel
def N0:g8 ⟨jq,[]⟩ kB=⟨jq,[kB]⟩/\g8 ⟨jq,[]⟩ kC=⟨jq,[kC]⟩:=⟨U,U⟩
def N1:d5 ⟨jq,[kC]⟩ kD=19:=by decide+kernel
def un{l:List UInt8}{L:List ByteArray}{i:Nat}{r:Rel}{t:Tp}(a:l≠ [])(h:(dP (bs l) false).ok=true/\lX (dP (bs l) false)=t):fg false (bs l::L) i r=if d5 r t=0 then fg false L (i+1) (g8 r t)else(Rel.zero,i,d5 r t):=by
 rw[fg,if_neg (by
  rw[Lib.toList_data,Lib.toList_data,eW];cases l with
  |nil=>exact absurd Z a
  |cons x l=>simp),if_neg (by rw[h.1];simp),h.2]
def Qj:jn jq P6=(⟨jq,[kA,kB]⟩,0,0):=by
 unfold jn;rw[if_neg (by decide+kernel),if_neg I];show fg false (fa (bs P6)) 0 ⟨jq,[]⟩=_
 rw[P8];show fg false (bs Qx::bs []::bs Qy::[]) 0 ⟨jq,[]⟩=_
 rw[un I Qa,if_pos Qf,N0.1,xG,un I Qb,if_pos Qg,Qh];rfl
def Qk:jn jq P7=(Rel.zero,1,19):=by
 unfold jn;rw[if_neg (by decide+kernel),if_neg I];show fg false (fa (bs P7)) 0 ⟨jq,[]⟩=_
 rw[Qe,un I Qc,if_pos Qi,N0.2,un I Qd,if_neg (by rw[N1];decide),N1]
def mE{W:World}{G:Nat->Prop}:∀l:List UInt8,PT W G (bZ l) (flat (ak l))
 |[]=>.nil
 |c::l=>.sc _ (mE l)
def tG{w0:World}{G0:Bse}{ops:Array Oper}{c:List Oper}{Q:Exit->St->Prop}{n d p:Nat}{sl:List (Nat×Tree)}{bs:List (TypeId×List Tree)}{rs:List (Option Row)}{o f:Oper}(l:List UInt8)
  (M:o.guard=none) (m:o.dst=some d) (N:Nat.blt d n=true) (z:f.op=.convert 22 22 (.tmp d)) (x:f.guard=none) (e:f.dst=some p) (y:Nat.blt p n=true) (W:l.length<=1048576)
  (i:∀(w:World) (T:Nat->Value),(execOp (dG T) o).run prog w=.ok (.value (.slice (some ⟨w.heap.size,0,none⟩) l.length l.length)) (w.alloc (.cells (bZ l).toArray 5)))
  (k:AOps w0 G0 ops c Q ⟨n,(p,.sl (ak l))::(d,.any)::sl,bs,rs⟩):AOps w0 G0 ops (o::f::c) Q ⟨n,sl,bs,rs⟩:=by
 rintro a w ⟨bx,rv,F,b,r,B⟩;refine fj (by simp[Region.wanted,M]) λK J=>?_
 have H:OpRuns prog o (λs=>a.tmps.getD s undef) w (λv w'=>v=.slice (some ⟨w.heap.size,0,none⟩) l.length l.length/\w'=w.alloc (.cells (bZ l).toArray 5)):=aE (i w _) ⟨Z,Z⟩;refine Oper.wp_mono ?_ (H.wp (Q:=Dx w0 G0 Q));rintro G w' ⟨v,rfl,rfl,rfl⟩;refine J _ _<|fj (by simp[Region.wanted,x]) λV q=>?_
 have g:d<n:=by simpa[R5]using N
 have R:(a.put o.dst (.slice (some ⟨w.heap.size,0,none⟩) l.length l.length)).tmps.getD d undef=.slice (some ⟨w.heap.size,0,none⟩) l.length l.length:=by
  rw[m,gA a (some d) _ n b (by simpa[cF]using g),if_pos Z]
 have L:=Lib.run_convert_bytes_const (P:=prog) w 22 5 (bZ l).toArray l.length l.length underlying22 underlying5;have I:OpRuns prog f (λs=>(a.put o.dst (.slice (some ⟨w.heap.size,0,none⟩) l.length l.length)).tmps.getD s undef) (w.alloc (.cells (bZ l).toArray 5)) (λv w'=>v=.slice (some ⟨w.heap.size,0,none⟩) l.length l.length/\w'=w.alloc (.cells (bZ l).toArray 5 ((bZ l).toArray.size,(bZ l).toArray.size+1))):=by
  refine aE (v:=.slice (some ⟨w.heap.size,0,none⟩) l.length l.length) ?_ ⟨Z,Z⟩;simp only[execOp,z,dG,R,Sem.run_bind,L,Result.andThen_ok,Sem.run_pure]
 refine Oper.wp_mono ?_ (I.wp (Q:=Dx w0 G0 Q));rintro G w' ⟨v,rfl,rfl,rfl⟩;have E:Below w.heap.size w (w.alloc (.cells (bZ l).toArray 5 ((bZ l).toArray.size,(bZ l).toArray.size+1))):=(Below.refl _ _).alloc (Q3 _) _;refine q _ _ (k _ _ ⟨bx,rv,F.later E,by rw[ee,ee,b],by rw[df,df,r],?_⟩);have C:=jx (S:=⟨n,sl,bs,rs⟩) (o:=o) (v:=.slice (some ⟨w.heap.size,0,none⟩) l.length l.length) (t:=.any) b (by rw[m];simpa[cF]using g) (λ_ _ h=>FT.later h E) B (.any _ .nil);rw[m]at C;have A:FT (en (w.alloc (.cells (bZ l).toArray 5 ((bZ l).toArray.size,(bZ l).toArray.size+1))) G0 bx rv rs) [.slice (some ⟨w.heap.size,0,none⟩) l.length l.length] [.sl (ak l)]:=by
  refine .pure (.sl w.heap.size 0 l.length l.length (bZ l) (ak l) (by simp[en]) (Dz F _ (Q3 _)) (λj u U=>?_) (by simp[ak]) (by simp[ak]) O (mE l) .nil) .nil;rw[R4];simp only[en,World.cell?,World.alloc,Array.getElem?_push,if_true];simpa using U
 have D:=jx (S:=⟨n,(d,.any)::sl,bs,rs⟩) (o:=f) (v:=.slice (some ⟨w.heap.size,0,none⟩) l.length l.length) (t:=.sl (ak l)) (a:=a.put (some d) (.slice (some ⟨w.heap.size,0,none⟩) l.length l.length)) (by rw[ee];exact b) (by rw[e];simpa[cF,R5]using y) (λ_ _ h=>h) C A;rw[e]at D;rw[m,e];exact D
def kR:Rel:=⟨jq,[kA,kB]⟩
def Gi:Good kR:=by
 have c:∀t∈kR.tups,t=kA\/t=kB:=λt a=>by
  have a:t∈[kA,kB]:=a;simpa using a
 refine⟨by decide+kernel,λt a=>?_,λt a=>?_,λt a=>?_,I,.inr Z⟩
 ·rcases c t a with rfl|rfl
  ·show eK false 1 3∈j8;unfold j8;simp
  show eK false 1 2∈j8;unfold j8;simp
 ·rcases c t a with rfl|rfl<;>(intro v b;simp only[kA,kB,Ri,To,or_false]at b;rcases b with rfl|rfl<;>decide)
 rcases c t a with rfl|rfl<;>(intro v b;simp only[kA,kB,Ri,To,or_false]at b;rcases b with rfl|rfl<;>(unfold V.rng;decide))
def Ll:Ct 15 [] (bT true):=by
 obtain⟨i,d⟩:∃z:Nat,z=0:=⟨_,Z⟩;obtain⟨f,b⟩:∃z:Nat,z=0:=⟨_,Z⟩;obtain⟨j,e⟩:∃z:Nat,z=1:=⟨_,Z⟩;obtain⟨g,c⟩:∃z:Nat,z=19:=⟨_,Z⟩;refine Ct.of (n:=43) func15 Z Z Z Z Z λw0 G0=>?_
 refine X 1 Z<|C<|M 0 Z (D Z wG Z Z) ?_;refine tG P6 Z Z Z Z Z Z Z I1 (λw T=>by
  simp only[execOp,dG];go_simp;exact⟨Z,Z⟩) ?_
 refine M 0 (t:=.tup [.agg (bQ kR),nI i,nI f]) Z (D Z (by have h:=yK jq P6 I1;rw[Qj]at h;rw[d,b];exact h) Z Z)<|Y 8 Z<|C<|M 0 Z (D Z wG Z Z) ?_;refine tG P7 Z Z Z Z Z Z Z I1 (λw T=>by
  simp only[execOp,dG];go_simp;exact⟨Z,Z⟩) ?_
 refine M 0 (t:=.tup [.agg c7,nI j,nI g]) Z (D Z (by have h:=yK jq P7 I1;rw[Qk]at h;rw[e,c];exact h) Z Z)<|Y 8 Z<|C<|aI 1 Z Z Zy (B (gL f 0))<|ax 1 Z<|N Z Z Z Z (λa=>K Z Z)<|N Z Z Z Z (λa=>aj (aC Z (if_pos a) Z (λ_=>rfl)) (B (gL i 0)))<|M 0 Z (cH Z Z Z Z)<|ax 1 Z<|N Z Z Z Z (λa=>aN Z Z Z bf Z Z)<|N Z Z Z Z (λa=>D Z (by have h:=EM kR Gi.fit.1 Gi.fit.2;rw[show rL kR=Pk from QQ]at h;exact h) (dN (if_pos a) Z) Z)<|N (t:=sT (⟨Pk.toArray⟩:ByteArray)) Z Z Z Z (λa=>eH Z (if_pos a))<|N (t:=bT ((⟨Pk.toArray⟩:ByteArray).toList==(⟨#[39,97,39,44,50,58,49,47,51,10,39,98,44,32,99,39,44,49,58,49,47,50,10]⟩:ByteArray).toList)) Z Z Z Z (λa=>aC Z (if_pos a) Z (λ_=>rfl))<|M 0 Z (cH Z Z Z Z)<|ax 1 Z<|N Z Z Z Z (λa=>K Z Z)<|N Z Z Z Z (λa=>aj (aC Z (if_pos a) Z (λ_=>rfl)) (B (gL g 19)))<|M 0 Z (cH Z Z Z Z)<|ax 1 Z<|N Z Z Z Z (λa=>K Z Z)<|N Z Z Z Z (λa=>aj (aC Z (if_pos a) Z (λ_=>rfl)) (B (gL j 1)))<|M 0 Z (cH Z Z Z Z)<|Y 1 Z<|aM ⟨Z,B (by rw[d,b,e,c,show((⟨Pk.toArray⟩:ByteArray).toList==(⟨#[39,97,39,44,50,58,49,47,51,10,39,98,44,32,99,39,44,49,58,49,47,50,10]⟩:ByteArray).toList)=true from beq_self_eq_true (⟨Pk.toArray⟩:ByteArray).toList];rfl),Z⟩ Z
