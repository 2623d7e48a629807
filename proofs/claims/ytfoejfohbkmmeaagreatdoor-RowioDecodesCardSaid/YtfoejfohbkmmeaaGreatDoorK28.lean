import Derived.Test.YtfoejfohbkmmeaaGreatDoorK27
set_option maxRecDepth 100000
set_option maxHeartbeats 4000000
set_option linter.defProp false
open Go.Proofs.Tryz
namespace Go.Proofs.YtfoejfohbkmmeaaGreatDoor
open Go.RowKit
open Lib renaming hid→J
def dT(l:List Nat):Tree:=.sl (l.map fS)
def AB{W:World}{G:Nat->Prop}{v:Value}{l:List Nat}(h:PT W G [v] [dT l])(p:Digs l):∃A c,v=.slice A l.length c/\IsN W A c l:=by
 obtain⟨A,c,g,i,k,m,d⟩:=PT.slice h;rw[Rn]at g i d;refine⟨A,c,g,λq=>?_,λe=>⟨?_,m e⟩,i,k,p⟩
 ·obtain⟨b,off,xs,rfl,n,_,o,j⟩:=d (by simpa[cT]using q);rw[oY _ (λ_=>rfl)]at j;rw[<-pX j];exact⟨b,off,Z,n,o⟩
 rcases RV l.length with a|a
 ·exact a
 obtain⟨b,off,xs,f,_⟩:=d a;rw[e]at f;cases f
def KO(A B:Option Addr)(f g:Nat)(x y:List Nat)(w:World)(l:IsN w A f x)(m:IsN w B g y)(p:x.length<=1048576)(q:y.length<=1048576)(r:aG y=0):
  Calls prog 175 #[.slice A x.length f,.slice B y.length g] w λe w'=>e=.returned (.tuple #[.slice none 0 0,.slice none 0 0,.bool false])/\Below w.heap.size w w':=by
 have n:=J l;have o:=J m;clear l m
 go_enter func175,ntmps175
 go_wp2_with fail
 refine(dZ A f x _ n.out O).mono ?_;intro e z j;obtain⟨s,u,rfl,h,b⟩:=j.open_;have a:=J b;clear j h b
 go_wp2_with fail
 refine(dZ B g y _ (o.out.below a.out) O).mono ?_;intro e C k;obtain⟨t,v,rfl,i,c⟩:=k.open_;have d:=J (aL a.out c a.out.size);clear k i c;rw[r,gf]
 go_wp2
 go_ret3
 exact⟨Z,d.out⟩
def Cd(x y:List Nat)(p:Digs x)(q:Digs y)(r:x.length<=1048576)(s:y.length<=1048576):Ct 174 [dT x,dT y] (aY (Nat.gcd (aG x) (aG y))):=fy ⟨_,func174,Z,Z⟩ (λ_ _ _ l h=>fe l h) λG w vs _ _ o=>by
 obtain⟨a,b,rfl,f,g⟩:=dE o;obtain⟨A,c,rfl,m⟩:=AB f p;obtain⟨B,d,rfl,n⟩:=AB g q;exact(FD A B c d x y w m n r s).mono λe w' ⟨v,i,j,k⟩=>⟨v,i,j.isD,k⟩
def Ce(x:List Nat)(g:Nat)(s:Digs x)(u:x.length<=1048576)(t:(aD g).length<=1048576)(k:0<g):Ct 175 [dT x,aY g] (.tup [aY (aG x/g),aY (aG x%g),bT true]):=⟨⟨_,func175,Z,Z⟩,λG w vs _ j p=>by
 obtain⟨a,b,rfl,l,m⟩:=dE p;obtain⟨A,c,rfl,n⟩:=AB l s;obtain⟨B,d,rfl,o⟩:=ek m;refine(uT A B c d x (aD g) w n o u t (by rw[aW];exact k)).mono ?_;rintro e w' ⟨q,r,rfl,h,i,f⟩;rw[aW]at h i;exact⟨_,Z,.tup [q,r,.bool true] _ ((fe (OkG.later j f) h.isD).cons ((fe (OkG.later j f) i.isD).cons (.sc _ .nil))) .nil,f⟩⟩
def Cf(x:List Nat)(l:Digs x)(m:x.length<=1048576):Ct 175 [dT x,aY 0] (.tup [.sl [],.sl [],bT false]):=⟨⟨_,func175,Z,Z⟩,λG w vs _ n k=>by
 obtain⟨a,b,rfl,f,g⟩:=dE k;obtain⟨A,c,rfl,i⟩:=AB f l;obtain⟨B,d,rfl,j⟩:=ek g;refine(KO A B c d x (aD 0) w i j m I Z).mono ?_;rintro e w' ⟨rfl,h⟩;exact⟨_,Z,.tup [.slice none 0 0,.slice none 0 0,.bool false] _ ((bS _ _).cons ((bS _ _).cons (.sc _ .nil))) .nil,h⟩⟩
structure Rq where
 ng:Bool
 n:List Nat
 d:List Nat
def gK(x:Rq):List Tree:=[.sc (.bool x.ng),.sl (x.n.map fS),.sl (x.d.map fS)]
def Rq.tree(x:Rq):Tree:=.agg [.sc (.bool x.ng),dT x.n,dT x.d]
def Rq.q(x:Rq):Rat:=eK x.ng (aG x.n) (aG x.d)
structure Rq.Ok (m:Nat) (x:Rq):Prop where
 hn:Digs x.n
 hd:Digs x.d
 ln:x.n.length<=m
 ld:x.d.length<=m
def Rq.Ok.mono{a b:Nat}{x:Rq}(h:x.Ok a)(c:a<=b):x.Ok b:=⟨h.hn,h.hd,Q7 h.ln c,Q7 h.ld c⟩
def pe{l:List Nat}(h:Digs l):(aD (aG l)).length<=l.length:=bq (cC l h)
def Rq.Ok.fit{m:Nat}{x:Rq}(h:x.Ok m)(b:1<=m):Fit m x.q:=by
 unfold Rq.q;by_cases a:aG x.d=0
 ·rw[a,kQ];exact⟨Q7 I (Rg m),Q7 I b⟩
 exact nu O (Q7 (pe h.hn) h.ln) (Q7 (pe h.hd) h.ld)
def qR(q:Rat):Rq:=⟨decide (q.num<0),aD q.num.natAbs,aD q.den⟩
def Hy(q:Rat):(qR q).q=q:=by
 unfold Rq.q qR;rw[aW,aW,gB]
def wj{m:Nat}{q:Rat}(h:Fit m q):(qR q).Ok m:=⟨ck _,ck _,h.num,h.den⟩
def M8{ng:Bool}{N D g:Nat}(c:Nat.gcd N D=g)(d:0<g)(h:(aD (N/g)).length=0\/(aD (D/g)).length=0):eK ng N D=0:=by
 have b:N/g*g=N:=TB (c▸UC N D);have a:D/g*g=D:=TB (c▸VH N D);rcases h with h|h
 ·rw[b9.1 h,Uc]at b;rw[<-b,kP]
 rw[b9.1 h,Uc]at a;rw[<-a,kQ]
def KP{ng:Bool}{N D g:Nat}(c:Nat.gcd N D=g)(a:¬(aD (N/g)).length=0)(b:¬(aD (D/g)).length=0):(Tree.agg [bT ng,aY (N/g),aY (D/g)])=dw (eK ng N D):=by
 rw[<-c]at a b⊢;refine Ag (λe=>a ?_) λe=>b ?_
 ·rw[e,Nat.zero_div];rfl
 rw[e,Nat.zero_div];rfl
def PX{q:Rat}(h:q=0):(Tree.agg [bT false,.sl [],aY 1])=dw q:=by subst h;rfl
def Hz(ng:Bool)(x y:List Nat)(g:Nat)(i:Digs x)(j:Digs y)(l:x.length<=1048576)(m:y.length<=1048576)(f:Nat.gcd (aG x) (aG y)=g)(k:(aD g).length<=1048576)(e:0<g):Ct 110 [bT ng,dT x,dT y] (dw (eK ng (aG x) (aG y))):=by
 obtain⟨ok,d⟩:∃b:Bool,b=true:=⟨_,Z⟩;refine Ct.of (n:=49) func110 Z Z Z Z Z λw0 G0=>?_
 refine X 1 Z<|C<|M 2 (t:=aY g) Z (D Z (by rw[<-f];exact Cd x y i j l m) Z Z)<|Y 1 Z<|C<|M 2 (t:=.tup [aY (aG x/g),aY (aG x%g),bT ok]) Z (D Z (by rw[d];exact Ce x g i l k e) Z Z)<|Y 7 Z<|C<|M 2 (t:=.tup [aY (aG y/g),aY (aG y%g),bT ok]) Z (D Z (by rw[d];exact Ce y g j m k e) Z Z)<|Y 7 Z<|H<|C<|M 1 (t:=bT (!ok)) Z (dm Z Z Zy)<|ax 1 Z<|N Z Z Z Z (λc=>K Z Z)<|N (t:=nI ((aD (aG x/g)).length)) Z Z Z Z (λc=>aj (fw (es:=(aD (aG x/g)).map fS) Z bV (if_pos c)) (by simp only[Rn]))<|N Z Z Z Z (λc=>aj (aC Z (if_pos c) Z (λ_=>rfl)) (B (gL ((aD (aG x/g)).length) 0)))<|M 0 Z (dD Z Z Z Z)<|ax 1 Z<|N Z Z Z Z (λc=>K Z Z)<|N (t:=nI ((aD (aG y/g)).length)) Z Z Z Z (λc=>aj (fw (es:=(aD (aG y/g)).map fS) Z bV (if_pos c)) (by simp only[Rn]))<|N Z Z Z Z (λc=>aj (aC Z (if_pos c) Z (λ_=>rfl)) (B (gL ((aD (aG y/g)).length) 0)))<|M 0 Z (dD Z Z Z Z)<|E<|aK Z (λa=>?_) (λa=>?_)
 ·refine C<|M 0 Z (D Z (Ak 1 I1) Z Z)<|Y 2 Z<|aM ⟨(co Z Z aH Z),PX (M8 f e (by rcases TI.1 a with h|h;rcases TI.1 h with h|h;rw[d]at h;cases h;exact .inl (of_decide_eq_true h);exact .inr (of_decide_eq_true h))),Z⟩ Z
 refine ar<|X 5 Z<|aM ⟨(co Z Z aH Z),KP f (λh=>by rw[decide_eq_true h]at a;simp at a) (λh=>by rw[decide_eq_true h]at a;simp at a),Z⟩ Z
def HH(ng:Bool)(x y:List Nat)(g:Digs x)(i:Digs y)(j:x.length<=1048576)(k:y.length<=1048576)(f:aG x=0)(d:aG y=0):Ct 110 [bT ng,dT x,dT y] (dw (eK ng (aG x) (aG y))):=by
 obtain⟨ok,e⟩:∃b:Bool,b=false:=⟨_,Z⟩;refine Ct.of (n:=49) func110 Z Z Z Z Z λw0 G0=>?_
 refine X 1 Z<|C<|M 2 (t:=aY 0) Z (D Z (by have h:=Cd x y g i j k;rw[f,d]at h;exact h) Z Z)<|Y 1 Z<|C<|M 2 (t:=.tup [.sl [],.sl [],bT ok]) Z (D Z (by rw[e];exact Cf x g j) Z Z)<|Y 7 Z<|C<|M 2 (t:=.tup [.sl [],.sl [],bT ok]) Z (D Z (by rw[e];exact Cf y i k) Z Z)<|Y 7 Z<|H<|C<|M 1 (t:=bT (!ok)) Z (dm Z Z Zy)<|ax 1 Z<|N Z Z Z Z (λa=>K Z Z)<|N (t:=nI 0) Z Z Z Z (λa=>aj (fw (es:=[]) Z bV (if_pos a)) Z)<|N Z Z Z Z (λa=>aj (aC Z (if_pos a) Z (λ_=>rfl)) (B (gL 0 0)))<|M 0 Z (dD Z Z Z Z)<|ax 1 Z<|N Z Z Z Z (λa=>K Z Z)<|N (t:=nI 0) Z Z Z Z (λa=>aj (fw (es:=[]) Z bV (if_pos a)) Z)<|N Z Z Z Z (λa=>aj (aC Z (if_pos a) Z (λ_=>rfl)) (B (gL 0 0)))<|M 0 Z (dD Z Z Z Z)<|E<|aK Z (λc=>?_) (λc=>?_)
 ·refine C<|M 0 Z (D Z (Ak 1 I1) Z Z)<|Y 2 Z<|aM ⟨(co Z Z aH Z),PX (by rw[d,kQ]),Z⟩ Z
 rw[e]at c;cases c
def yE(ng:Bool)(x y:List Nat)(b:Digs x)(c:Digs y)(d:x.length<=1048576)(e:y.length<=1048576):Ct 110 [bT ng,dT x,dT y] (dw (eK ng (aG x) (aG y))):=by
 rcases RV (Nat.gcd (aG x) (aG y))with h|h
 ·exact HH ng x y b c d e (Nat.eq_zero_of_gcd_eq_zero_left h) (Nat.eq_zero_of_gcd_eq_zero_right h)
 refine Hz ng x y _ b c d e Z ?_ h;rcases RV (aG y)with a|a
 ·rw[a,T6];exact Q7 (pe b) d
 exact Q7 (bh (Nat.gcd_le_right _ a)) (Q7 (pe c) e)
def fH(x:Rq)(h:x.Ok 1048576):Ct 48 [x.tree] (dw x.q):=by
 refine Ct.of (n:=10) func48 Z Z Z Z Z λw0 G0=>?_
 refine X 2 Z<|C<|M 6 Z (D Z (yE _ _ _ h.hn h.hd h.ln h.ld) Z Z)<|Y 1 Z<|aM ⟨(co Z Z aH Z),Z,Z⟩ Z
def KQ(x:Rq)(h:x.Ok 1048576):Ct 249 [x.tree] (dw (-x.q)):=by
 refine Ct.of (n:=11) func249 Z Z Z Z Z λw0 G0=>?_
 refine X 2 Z<|C<|M 2 (t:=bT (!x.ng)) Z (dm Z Z Zy)<|M 4 Z (D Z (yE _ _ _ h.hn h.hd h.ln h.ld) Z Z)<|Y 1 Z<|aM ⟨(co Z Z aH Z),nh (vm _ _ _),Z⟩ Z
def Cg(x y:Rq)(p q:Rat)(o:x.Ok 262144)(r:y.Ok 262144)(a:x.q=p)(b:y.q=q):Ct 167 [x.tree,y.tree] (dw (p+q)):=by
 have f:Fit 262144 p:=by rw[<-a];exact o.fit I1
 have g:Fit 262144 q:=by rw[<-b];exact r.fit I1
 have h:(aD (p.num.natAbs*q.den)).length<=524288:=ip f.num g.den;have j:(aD (q.num.natAbs*p.den)).length<=524288:=ip g.num f.den;have e:(aD (p.den*q.den)).length<=524288:=ip f.den g.den;have d:0<(p.den*q.den):=TJ p.den_pos q.den_pos;refine Ct.of (n:=71) func167 Z Z Z Z Z λw0 G0=>?_
 refine X 3 Z<|H<|eM (sl':=[(0,.agg (gK x)),(1,.agg (gK y)),(2,.box 0 0),(3,.box 1 0),(4,.box 2 0)]) ⟨Z,⟨Z,⟨Z,⟨Z,⟨Z,trivial⟩⟩⟩⟩⟩<|Vr (fu:=2) [some 14,some 15,some 16,some 17,some 5,some 6,none,none] [4,5,6,7] [.agg (gK x),.agg (bj p),.agg (gK y),.agg (bj q),.any,.any,.any,.any] [([4],[(65,(gK x)),(65,(gK y)),(65,ml),(65,ml)],[],[(4,.box 3 0)]),([5],[(65,(gK x)),(65,(gK y)),(65,ml),(65,ml)],[],[(5,.box 3 0)]),([5,4],[(65,(gK x)),(65,(gK y)),(65,ml),(65,ml),(65,ml)],[],[(4,.box 3 0),(5,.box 4 0)]),([6,5,4],[(65,(gK x)),(65,(gK y)),(65,ml),(65,(bj p)),(65,ml)],[],[(4,.box 3 0),(5,.box 4 0)])] [7,6,5,4] [(65,(gK x)),(65,(gK y)),(65,ml),(65,(bj p)),(65,(bj q))] [] [(4,.box 3 0),(5,.box 4 0)] U0 Z U0 U0 U0 Z Z ?_ ?_
 ·refine .opp [] (.okk Z (aN Z Z Z aH Z Z)<|.okk Z (aN Z Z Z aH Z Z)<|.okk Z (aN Z Z Z aH Z Z)<|.okk Z (aN Z Z Z aH Z Z)<|.fin)<|.opp [0] (.okk Z (D Z (by rw[<-a];exact fH x (o.mono I1)) Z Z)<|.okk Z (D Z (by rw[<-a];exact fH x (o.mono I1)) Z Z)<|.okk Z (D Z (by rw[<-a];exact fH x (o.mono I1)) Z Z)<|.okk Z (D Z (by rw[<-a];exact fH x (o.mono I1)) Z Z)<|.fin)<|.opp [] (.okk Z (aN Z Z Z aH Z Z)<|.okk Z (aN Z Z Z aH Z Z)<|.okk Z (aN Z Z Z aH Z Z)<|.okk Z (aN Z Z Z aH Z Z)<|.fin)<|.opp [2] (.okk Z (D Z (by rw[<-b];exact fH y (r.mono I1)) Z Z)<|.okk Z (D Z (by rw[<-b];exact fH y (r.mono I1)) Z Z)<|.okk Z (D Z (by rw[<-b];exact fH y (r.mono I1)) Z Z)<|.okk Z (D Z (by rw[<-b];exact fH y (r.mono I1)) Z Z)<|.fin)<|.opp [] (.wr 1 id (.box 3 0) U0 Z Z (iz Z Z Z gZ Z Z Z Z) Z Z Z Z (.ks 4 Z (.i Z (.k Z (.k Z (.k Z .nil)))))<|.no U0<|.wr 3 (NR 3) (.box 3 0) U0 Z Z (vr (p:=[(65,(gK x)),(65,(gK y)),(65,ml)]) Z Z Z gZ Z Z Z Z) Z Z Z Z (.ks 4 Z (.i Z (.k Z (.k Z (.k Z .nil)))))<|.fin)<|.opp [] (.wr 2 id (.box 3 0) U0 Z Z (iz Z Z Z gZ Z Z Z Z) Z Z Z Z (.ks 5 Z (.i Z (.k Z (.k Z .nil))))<|.wr 3 id (.box 4 0) U0 Z Z (iz Z Z Z gZ Z Z Z Z) Z Z Z Z (.ks 5 Z (.i Z (.k Z (.k Z .nil))))<|.fin)<|.opp [1,4] (.nos 3<|.wr 4 id .any U0 Z Z (fx Z Z Z Z Z Z Z Z d8 Z Z Z) Z Z Z Z (.ks 6 Z (.i Z (.k Z .nil)))<|.fin)<|.opp [3,5] (.nos 4<|.wr 5 id .any U0 Z Z (fx Z Z Z Z Z Z Z Z d8 Z Z Z) Z Z Z Z (.ks 7 Z (.i Z .nil))<|.fin)<|.nil
 refine H<|cB (fu:=12) _ [.box 3 1,aY p.num.natAbs,.box 4 2,aY q.den,aY (p.num.natAbs*q.den),.box 4 1,aY q.num.natAbs,.box 3 2,aY p.den,aY (q.num.natAbs*p.den),aY (p.num.natAbs*q.den),aY (q.num.natAbs*p.den)] U0 Z Z U0 Z ?_ ?_
 ·refine Chain.op Z (aq Z Z cL Z)<|Chain.op Z (av Z Z Z bE Z)<|Chain.op Z (aq Z Z b8 Z)<|Chain.op Z (av Z Z Z bE Z)<|Chain.op Z (D Z (pc _ _ (Q7 f.num I1) (Q7 g.den I1)) Z Z)<|Chain.op Z (aq Z Z cL Z)<|Chain.op Z (av Z Z Z bE Z)<|Chain.op Z (aq Z Z b8 Z)<|Chain.op Z (av Z Z Z bE Z)<|Chain.op Z (D Z (pc _ _ (Q7 g.num I1) (Q7 f.den I1)) Z Z)<|Chain.op Z (bN Z Z)<|Chain.op Z (bN Z Z)<|Chain.nil
 refine C<|M 4 Z (D Z (pc _ _ (Q7 f.den I1) (Q7 g.den I1)) Z Z)<|Y 1 Z<|H<|C<|M 4 (t:=bT ((decide (p.num<0))==(decide (q.num<0)))) Z (aC Z Z Z Zy)<|E<|aK Z (λc=>?_) (λc=>?_)
 ·refine H<|dq (ops:=[_,_,_,_,_,_,_]) (fu:=8) (bs':=[(65,(gK x)),(65,(gK y)),(65,(bj (eK (decide (p.num<0)) ((p.num.natAbs*q.den)+(q.num.natAbs*p.den)) (p.den*q.den)))),(65,(bj p)),(65,(bj q))]) [some 38,some 39,some 40,some 41,some 42,some 43,some 44] [.box 3 0,bT (decide (p.num<0)),aY (p.num.natAbs*q.den),aY (q.num.natAbs*p.den),aY ((p.num.natAbs*q.den)+(q.num.natAbs*p.den)),aY (p.den*q.den),.agg (bj (eK (decide (p.num<0)) ((p.num.natAbs*q.den)+(q.num.natAbs*p.den)) (p.den*q.den)))] U0 Z Z Z Z Z U0 U0 Z Z Z Z Z Z Z Z d8 Z Z Z ?_ ?_
  ·refine Chain.op Z (aq Z Z ni Z)<|Chain.op Z (av Z Z Z eG Z)<|Chain.op Z (K Z Z)<|Chain.op Z (K Z Z)<|Chain.op Z (D Z (F6 _ _ (Q7 h I1) (Q7 j I1)) Z Z)<|Chain.op Z (K Z Z)<|Chain.op Z (D Z (jh _ _ _ (Q7 (sG h j) I1) (Q7 e I1) d) Z Z)<|Chain.nil
  exact aM ⟨(co Z Z aH Z),nh (vH (by simpa using c)),Z⟩ Z
 refine ar<|H<|C<|M 2 Z (D Z (FU _ _ (Q7 h I1) (Q7 j I1)) Z Z)<|aI 0 (t:=bT (decide ((q.num.natAbs*p.den)<=(p.num.natAbs*q.den)))) Z Z Zy (B (Ga _ _))<|E<|ay Z (λl=>?_) (λl=>?_)
 ·have m:=l;refine C<|M 2 Z (D Z (ue _ _ (Q7 h I1) m) Z Z)<|Y 5 Z<|C<|M 4 Z (D Z (jh _ _ _ (Q7 (bh (Ui _ _)) (Q7 h I1)) (Q7 e I1) d) Z Z)<|Y 1 Z<|aM ⟨(co Z Z aH Z),nh (Ef (by simpa using c) m),Z⟩ Z
 refine ar<|C<|M 2 Z (D Z (ue _ _ (Q7 j I1) O0) Z Z)<|Y 5 Z<|C<|M 4 Z (D Z (jh _ _ _ (Q7 (bh (Ui _ _)) (Q7 j I1)) (Q7 e I1) d) Z Z)<|Y 1 Z<|aM ⟨(co Z Z aH Z),nh (Eg (by simpa using c) O0),Z⟩ Z
def Ch(x y:Rq)(b:x.Ok 262144)(a:y.Ok 262144):Ct 216 [x.tree,y.tree] (dw (x.q-y.q)):=by
 refine Ct.of (n:=9) func216 Z Z Z Z Z λw0 G0=>?_
 refine X 3 Z<|H<|dq (ops:=[_,_,_,_]) (fu:=5) (bs':=[(65,(gK x)),(65,(gK y)),(65,(bj (x.q+ -y.q)))]) [some 5,some 6,some 7,some 8] [.agg (gK x),.agg (gK y),.agg (bj (-y.q)),.agg (bj (x.q+ -y.q))] U Z Z Z Z Z U U Z Z Z Z Z Z Z Z d8 Z Z Z ?_ ?_
 ·refine Chain.op Z (aN Z Z Z aH Z Z)<|Chain.op Z (aN Z Z Z aH Z Z)<|Chain.op Z (D Z (KQ y (a.mono I)) Z Z)<|Chain.op Z (D Z (Cg x (qR (-y.q)) _ _ b (wj (Ap (a.fit I))) Z (Hy _)) Z Z)<|Chain.nil
 exact aM ⟨(co Z Z aH Z),nh (Rat.sub_eq_add_neg _ _).symm,Z⟩ Z
def H1(x:Rq)(h:x.Ok 1048576):Ct 165 [x.tree] (iT (dk x.q)):=by
 obtain⟨q,c⟩:∃q,x.q=q:=⟨_,Z⟩;rw[c];refine Ct.of (n:=14) func165 Z Z Z Z Z λw0 G0=>?_
 refine X 2 Z<|C<|M 1 (t:=.agg (bj q)) Z (D Z (by rw[<-c];exact fH x h) Z Z)<|Y 2 Z<|H<|aB<|C<|M 2 Z (aU Z bV Z)<|aI 0 Z Z Zy (B (gL ((aD q.num.natAbs).length) 0))<|Y 1 Z<|ay Z (λa=>?_) (λa=>?_)
 ·refine X 1 Z<|aM ⟨Z,ej (by unfold dk;rw[show q.num=0 by rw[b9]at a;omega];rfl),Z⟩ Z
 refine X 3 Z<|ay Z (λb=>?_) (λb=>?_)
 ·refine X 1 Z<|aM ⟨Z,ej (by unfold dk;rw[SP b]),Z⟩ Z
 refine ar<|X 1 Z<|aM ⟨Z,ej (by unfold dk;rw[S6 (by rw[b9]at a;omega)]),Z⟩ Z
def Ew(x:Rq)(a:x.Ok 262144):Ct 166 [x.tree] (dw (1-x.q)):=by
 refine Ct.of (n:=6) func166 Z Z Z Z Z λw0 G0=>?_
 refine X 2 Z<|H<|dq (ops:=[_,_,_]) (fu:=4) (bs':=[(65,(gK x)),(65,(bj (((1:Nat):Rat)-x.q)))]) [some 3,some 4,some 5] [.agg (bj (((1:Nat):Nat):Rat)),.agg (gK x),.agg (bj (((1:Nat):Rat)-x.q))] U Z Z Z Z Z U U Z Z Z Z Z Z Z Z d8 Z Z Z ?_ ?_
 ·refine Chain.op Z (D Z (rx 1 I) Z Z)<|Chain.op Z (aN Z Z Z aH Z Z)<|Chain.op Z (D Z (by have h:=Ch (qR ((1:Nat):Rat)) x (wj oZ) a;rw[Hy]at h;exact h) Z Z)<|Chain.nil
 exact aM ⟨(co Z Z aH Z),Z,Z⟩ Z
def KR(x:Rq)(q:Rat)(b:x.Ok 262144)(a:Fit 262144 q):Ct 215 [x.tree,dw q] (iT (dk (x.q-q))):=by
 refine Ct.of (n:=9) func215 Z Z Z Z Z λw0 G0=>?_
 refine X 3 Z<|C<|M 2 (t:=.agg (bj (x.q-q))) Z (D Z (by have h:=Ch x (qR q) b (wj a);rw[Hy]at h;exact h) Z Z)<|M 0 Z (D Z (ry _ ((lI (b.fit I1) a).mono I1)) Z Z)<|Y 1 Z<|aM ⟨Z,Z,Z⟩ Z
def KT(x:Rq)(b:x.Ok 262144):Ct 96 [x.tree] (bT (Av x.q)):=by
 refine Ct.of (n:=12) func96 Z Z Z Z Z λw0 G0=>?_
 refine X 2 Z<|C<|M 1 Z (D Z (H1 _ (b.mono I1)) Z Z)<|M 0 (t:=bT (decide ((dk x.q)≥0))) Z (aC Z Z Z Zy)<|ax 1 Z<|N Z Z Z Z (λa=>aN Z Z Z aH Z Z)<|N Z Z Z Z (λa=>D Z (Ew _ b) (dN (if_pos a) Z) Z)<|N Z Z Z Z (λa=>D Z (ry _ ((lI oZ (b.fit I1)).mono I1)) (dN (if_pos a) Z) Z)<|N (t:=bT (decide ((dk (1-x.q))≥0))) Z Z Z Z (λa=>aC Z (if_pos a) Z (λ_=>rfl))<|M 0 Z (cH Z Z Z Z)<|Y 1 Z<|aM ⟨Z,B Z,Z⟩ Z
def H2(x:Rq)(a:x.Ok 262144):Ct 160 [x.tree] (bT (dk (x.q-1)==0)):=by
 refine Ct.of (n:=7) func160 Z Z Z Z Z λw0 G0=>?_
 refine X 2 Z<|H<|cB (fu:=5) _ [.agg (gK x),.agg (bj (((1:Nat):Nat):Rat)),iT (dk (x.q-1)),bT ((dk (x.q-1))==0),bT ((dk (x.q-1))==0)] U Z Z U Z ?_ ?_
 ·refine Chain.op Z (aN Z Z Z aH Z Z)<|Chain.op Z (D Z (rx 1 I) Z Z)<|Chain.op Z (D Z (KR _ _ a oZ) Z Z)<|Chain.op Z (aC Z Z Z Zy)<|Chain.op Z (bN Z Z)<|Chain.nil
 exact aM ⟨Z,Z,Z⟩ Z
structure Rt where
 vals:List V
 p:Rq
def Rt.tree(t:Rt):Tree:=.agg [.sl (t.vals.map V.tree),.sc (.bool t.p.ng),dT t.p.n,dT t.p.d]
def jm(l:List Rt):Sized 4 (l.map Rt.tree):=Sized.map _ l λ_=>rfl
def Rt.tp(t:Rt):Tp:=⟨t.vals,t.p.q⟩
def wk(s:Sch)(t:Rt)(u:t.p.Ok 262144)(w:∀v∈t.vals,v.s.size<=9223372036854775807):Ct 91 [s.tree,t.tree] (iT (ch s t.tp)):=by
 refine Ct.of (n:=67) func91 Z Z Z Z Z λw0 G0=>?_
 refine X 3 Z<|H<|C<|M 1 Z (D Z (wg s) Z Z)<|M 0 (t:=bT (!(im s))) Z (dm Z Z Zy)<|E<|aK Z (λk=>?_) (λk=>?_)
 ·refine X 1 Z<|aM ⟨Z,ej (by unfold ch;rw[if_pos (by simpa using k)]),Z⟩ Z
 have h:im s=true:=by simpa using k
 have A:=mu h;refine ar<|H<|C<|M 2 Z (aU Z bI Z)<|M 2 Z (aU Z bk Z)<|aI 0 Z Z Zy (B (od t.vals.length s.cols.length))<|E<|ay Z (λe=>?_) (λe=>?_)
 ·refine X 1 Z<|aM ⟨Z,ej (by unfold ch;rw[if_neg (by rw[h];simp),if_pos (show t.tp.vals.length≠s.cols.length from e)]),Z⟩ Z
 have y:t.vals.length=s.cols.length:=SL.1 e;refine ar<|H<|X 1 Z<|aB<|aT (λz x=>∃(i:Nat),(i<=t.vals.length/\ff (s.cols.drop i) (t.vals.drop i)=ff s.cols t.vals)/\z=t.vals.length-i/\x=⟨67,[(2,.box 0 0),(3,.box 1 0),(5,nI i)],[(26,(gC s)),(67,[.sl (t.vals.map V.tree),bT t.p.ng,.sl (t.p.n.map fS),.sl (t.p.d.map fS)])],[]⟩) 2 0 ⟨0,⟨O0,Z⟩,Z,Z⟩ .rf ?_;rintro z x ⟨i,⟨F,b⟩,rfl,rfl⟩;refine H<|C<|M 3 Z (aU Z bI Z)<|aI 0 Z Z Zy (B (gF i t.vals.length))<|E<|ay Z (λm=>?_) (λm=>?_)
 ·obtain⟨v,j⟩:∃v,t.vals[i]? =some v:=⟨_,Q2 m⟩;obtain⟨c,o⟩:∃c,s.cols[i]? =some c:=⟨_,Q2 O0⟩;rw[ra o j,VC (v.t !=c.ty)]at b;refine ar<|H<|aB<|H<|cB (fu:=22) _ [.box 1 0,.sl (t.vals.map V.tree),nI i,.ref [iT v.t,iT v.n,sT v.s],.agg [iT v.t,iT v.n,sT v.s],bT v.ok,bT (!v.ok),bT (!v.ok),if(!v.ok)=false then(.box 1 0:Tree)else .sc undef,if(!v.ok)=false then(.sl (t.vals.map V.tree):Tree)else .sc undef,if(!v.ok)=false then(nI i:Tree)else .sc undef,if(!v.ok)=false then(.ref [iT v.t,iT v.n,sT v.s]:Tree)else .sc undef,if(!v.ok)=false then(.ref [iT v.t,iT v.n,sT v.s]:Tree)else .sc undef,if(!v.ok)=false then(iT v.t:Tree)else .sc undef,if(!v.ok)=false then(.box 0 2:Tree)else .sc undef,if(!v.ok)=false then(.sl (s.cols.map Col.tree):Tree)else .sc undef,if(!v.ok)=false then(nI i:Tree)else .sc undef,if(!v.ok)=false then(.ref [sT c.name,iT c.ty,bT c.key]:Tree)else .sc undef,if(!v.ok)=false then(.ref [iT c.ty,bT c.key]:Tree)else .sc undef,if(!v.ok)=false then(iT c.ty:Tree)else .sc undef,if(!v.ok)=false then(bT (v.t !=c.ty):Tree)else .sc undef,bT ((!v.ok)||(v.t !=c.ty))] U0 Z Z U0 Z ?_ ?_
  ·refine Chain.op Z (aq Z Z cz Z)<|Chain.op Z (av Z Z Z di Z)<|Chain.op Z (K Z Z)<|Chain.op Z (aO (V.tree v) Z bI Z Z Z (bd (f:=V.tree) j) (gN _) Z)<|Chain.op Z (dt Z Z fB Z Z)<|Chain.op Z (D Z (ye v (w v (Q8 j))) Z Z)<|Chain.op Z (dm Z Z Zy)<|Chain.op Z (K Z Z)<|bG Z Z Z (λa=>aq Z Z cz Z)<|bG Z Z Z (λa=>av Z (if_pos a) Z di Z)<|bG Z Z Z (λa=>K Z Z)<|bG Z Z Z (λa=>aO (V.tree v) Z bI (if_pos a) (if_pos a) Z (bd (f:=V.tree) j) (gN _) Z)<|bG Z Z Z (λa=>bL Z (if_pos a) rb Z)<|bG Z Z Z (λa=>bi Z (if_pos a) fq Z)<|bG Z Z Z (λa=>aq Z Z cP Z)<|bG Z Z Z (λa=>av Z (if_pos a) Z d9 Z)<|bG Z Z Z (λa=>K Z Z)<|bG Z Z Z (λa=>aO (Col.tree c) Z bk (if_pos a) (if_pos a) Z (bd (f:=Col.tree) o) (eP _) Z)<|bG Z Z Z (λa=>bL Z (if_pos a) fN Z)<|bG Z Z Z (λa=>bi Z (if_pos a) fq Z)<|bG Z Z Z (λa=>aC Z (if_pos a) (if_pos a) (λ_=>rfl))<|Chain.op Z (dD Z Z Z Z)<|Chain.nil
  refine aK Z (λl=>?_) (λl=>?_)
  ·refine X 1 Z<|aM ⟨Z,ej (by unfold ch;rw[if_neg (by rw[h];simp),if_neg (show¬t.tp.vals.length≠s.cols.length from e),if_pos (by show ff s.cols t.vals=true;rw[<-b,l];rfl)]),Z⟩ Z
  refine ar<|am<|a8 1 (i+1) Z Z Zy O0<|Y 1 Z<|⟨_,_,?_,⟨i+1,?_,Z,Z⟩,.rf⟩
  ·omega
  exact⟨O0,by rw[<-b,l];rfl⟩
 refine aX<|H<|C<|M 2 Z (D Z (KT _ u) Z Z)<|M 0 (t:=bT (!(Av t.p.q))) Z (dm Z Z Zy)<|ax 1 Z<|N Z Z Z Z (λa=>aq Z Z eD Z)<|N Z Z Z Z (λa=>aN Z (if_pos a) Z aH Z Z)<|N Z Z Z Z (λa=>D Z (fH _ (u.mono I1)) (dN (if_pos a) Z) Z)<|N (t:=aY t.p.q.den) Z Z Z Z (λa=>Fj Z (if_pos a) qU Z)<|N Z Z Z Z (λa=>D Z (KI _ (Q7 (u.fit I1).den I1)) (dN (if_pos a) Z) Z)<|N Z Z Z Z (λa=>aj (aC Z (if_pos a) Z (λ_=>rfl)) (B (nZ (cR t.p.q.den) 65536)))<|M 0 Z (dD Z Z Z Z)<|ax 1 Z<|N Z Z Z Z (λa=>aq Z Z fM Z)<|N Z Z Z Z (λa=>av Z (if_pos a) Z eG Z)<|N Z Z Z Z (λa=>K Z (if_pos a))<|cl Z Z Z Z (λa=>aq Z Z eD Z)<|cl Z Z Z Z (λa=>aN Z (if_pos a) Z aH Z Z)<|cl Z Z Z Z (λa=>D Z (H2 _ u) (dN (if_pos a) Z) Z)<|cl (t:=bT (!(dk (t.p.q-1)==0))) Z Z Z Z (λa=>dm Z (if_pos a) (λ_=>rfl))<|N (t:=bT (s.cert&&(!(dk (t.p.q-1)==0)))) Z Z Z Z (λa=>fJ Z (if_pos a) (λr=>(if_pos ⟨a,r⟩).trans (B (by rw[r];rfl))) (λr=>(B (by rw[r];rfl))))<|M 0 Z (dD Z Z Z Z)<|E<|aK Z (λg=>?_) (λg=>?_)
 ·refine X 1 Z<|aM ⟨Z,ej (by unfold ch;rw[if_neg (by rw[h];simp),if_neg (show¬t.tp.vals.length≠s.cols.length from e),if_neg (by show¬ff s.cols t.vals=true;rw[<-b,Rc (by omega:t.vals.length<=i)];cases s.cols.drop i<;>simp[ff]),if_neg (by rw[we]at g;show¬iw s.cert t.p.q=true;simpa using g)]),Z⟩ Z
 refine ar<|X 1 Z<|aM ⟨Z,ej (by unfold ch;rw[if_neg (by rw[h];simp),if_neg (show¬t.tp.vals.length≠s.cols.length from e),if_neg (by show¬ff s.cols t.vals=true;rw[<-b,Rc (by omega:t.vals.length<=i)];cases s.cols.drop i<;>simp[ff]),if_pos (by rw[we]at g;show iw s.cert t.p.q=true;simpa using g)]),Z⟩ Z
def EnvB(g:Nat)(w:World):Prop:=∃wE,Env wE/\Below wE.heap.size wE w/\wE.heap.size<=g
def CtM(f:FuncId)(ty:TypeId)(cs args cs':List Tree)(r:Tree):Prop:=(∃fn,prog.funcs[f]? =some fn/\(fn.name== "runtime.NumGoroutine")=false/\fn.body.isNone=false)/\∀(G:Nat->Prop) (w:World) (g:Nat) (us vs:List Value),EnvB g w->(∀x,G x->x<w.heap.size/\NoDigB w x)->G g->IsBlk w g ty us.toArray->PT w G us cs->us.all bR=true->PT w G vs args->
 Calls prog f (Value.pointer (some ⟨g,0,none⟩)::vs).toArray w λe w'=>∃v us',e=.returned v/\w.grownBy w' (some g)/\IsBlk w' g ty us'.toArray/\PT w' G us' cs'/\us'.all bR=true/\PT w' G [v] [r]
section
variable {w0:World} {G0:Bse} {o:Oper} {S:St}
def Ci{f:FuncId}{x:Operand}{l:List Operand}{B:Array TypeId}{b:Nat}{ty:TypeId}{cs m ts:List Tree}{r:Tree}(N:o.op=.call {callee:=.value (.func f),args:=(x::l).toArray,argTypes:=B})(hd:cF S.n o.dst=true)(hx:S.ev x=.box b 0)(hb:S.bs[b]? =some (ty,cs))(H:CtM f ty cs ts m r)(ht:l.map S.ev=ts)(O:cs.all Tree.plain=true)(hp:ts.all Tree.plain=true):lM w0 G0 o S ({S with bs:=S.bs.set b (ty,m)}.put o.dst r):=by
 rintro a w ⟨bx,rv,k,A,J,j⟩;have X:=bP (op:=o.op) (T:=λs=>a.tmps.getD s undef) (S:=S) (λs _=>j s) hx (by rw[N];simp[Op.operands,Call.operands]);have U:=ka (E:=en w G0 bx rv S.rs) (T:=λs=>a.tmps.getD s undef) (op:=o.op) (S:=S) (λs _=>j s) l (λy hy=>by rw[N];simp only[Op.operands,Call.operands];simp;exact .inr (.inr hy));rw[ht]at U;obtain⟨g,us,q,hv,p,K,M⟩:=n5 k hb X;obtain⟨⟨Q,Y,h2,R⟩,H⟩:=H;have d:g∈cJ bx rv S.rs:=be.2 (.inl (Q8 q));have G:EnvB g w:=by
  obtain⟨wE,C,D,F,W⟩:=k.env0.at k.below;exact⟨wE,C,D,(k.ge _ d).elim (Q7 F) (W g)⟩
 have I:=H (GG G0 bx rv S.rs) w g us _ G k.ok (.inr d) p (K.plains O) M (U.plains hp);refine cW (f:=f) (args:=(Value.pointer (some ⟨g,0,none⟩)::l.map (dG λs=>a.tmps.getD s undef)).toArray) ?_ (I.mono ?_)
 ·have C:¬Q.name= "runtime.NumGoroutine" :=by simpa using h2
  have D:¬Q.body=none:=λe=>by rw[e]at R;cases R
  have F:(Value.pointer (some ⟨g,0,none⟩)::l.map (dG λs=>a.tmps.getD s undef)).toArray=(x::l).toArray.map (dG λs=>a.tmps.getD s undef):=by
   rw[<-hv];simp
  rw[F];simp[execOp,N,resolve,dG,Deferred.ofValue,invoke,callFunc,Y,C,D]
 rintro y w' ⟨v,a0,rfl,V,c,u,t,P⟩;have L:=k.setBox q V c (FT.of (E:=en w' G0 bx rv S.rs) u) t;have z:=jx (o:=o) (S:=S) (rs:=S.rs) A hd (λus ts h=>qr d V h) j (FT.of (E:=en w' G0 bx rv S.rs) P);refine⟨v,Z,bx,rv,by rw[dJ,cj];exact L,by rw[ee,eu];exact A,by rw[df,J],λi=>?_⟩;rw[cj];have:=z i;rw[dh]at this⊢;exact this
end
def bm{w0:World}{G0:Bse}{o:Oper}{ops:Array Oper}{a:List Oper}{Q:Exit->St->Prop}{n d:Nat}{sl:List (Nat×Tree)}{bs bs':List (TypeId×List Tree)}{rs:List (Option Row)}{f:FuncId}{x:Operand}{j:List Operand}{e:Array TypeId}{b:Nat}{ty:TypeId}{cs c ts:List Tree}{r:Tree}(q:o.op=.call {callee:=.value (.func f),args:=(x::j).toArray,argTypes:=e})(m:o.guard=none)(i:o.dst=some d)(p:Nat.blt d n=true)(u:St.ev ⟨n,sl,bs,rs⟩ x=.box b 0)(k:bs[b]? =some (ty,cs))(l:CtM f ty cs ts c r)(t:j.map (St.ev ⟨n,sl,bs,rs⟩)=ts)(h:cs.all Tree.plain=true)(s:ts.all Tree.plain=true)(g:bs.set b (ty,c)=bs')(K:AOps w0 G0 ops a Q ⟨n,(d,r)::sl,bs',rs⟩):AOps w0 G0 ops (o::a) Q ⟨n,sl,bs,rs⟩:=by
 subst g;refine dA m (Ci (S:=⟨n,sl,bs,rs⟩) q (by rw[i];simpa[cF,R5]using p) u k l t h s) ?_;rw[i];exact K
def rA{w:Nat}{o:Oper}{n d:Nat}{sl:List (Nat×Tree)}{bs bs':List (TypeId×List Tree)}{rs:List (Option Row)}{f:FuncId}{x:Operand}{vs:List Value}{c:Array TypeId}{b:Nat}{ty:TypeId}{cs a:List Tree}{r:Tree}(m:o.op=.call {callee:=.value (.func f),args:=(x::vs.map Operand.const).toArray,argTypes:=c})(t:o.dst=some d)(u:Nat.blt d n=true)(v:St.ev ⟨n,sl,bs,rs⟩ x=.box b 0)(p:bs[b]? =some (ty,cs))(q:CtM f ty cs (vs.map Tree.sc) a r)(h:cs.all Tree.plain=true)(g:bs.set b (ty,a)=bs'):xz w o ⟨n,sl,bs,rs⟩ id r bs' rs:=by
 subst g;intro w0 G0 S y k e l i;dsimp only at k e l;have j:=nR i (by rw[m];simp[Op.operands,Call.operands]) v F;refine⟨_,Ci (S:=S) m (by rw[t,k];simpa[cF,R5]using u) j (by rw[e];exact p) q (by rw[List.map_map];rfl) h (by simp[Tree.plain]),by rw[eu],by rw[dJ];dsimp only;rw[e],by rw[cj];exact l,λs=>?_⟩;rw[dh];rfl
