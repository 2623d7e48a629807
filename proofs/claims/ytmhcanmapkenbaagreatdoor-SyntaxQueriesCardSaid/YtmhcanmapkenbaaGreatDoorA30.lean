import Derived.Test.YtmhcanmapkenbaaGreatDoorA29
import Derived.Test.YtmhcanmapkenbaaGreatDoorA25
set_option maxRecDepth 100000
set_option maxHeartbeats 1000000
set_option linter.defProp false
open Go.Proofs.Tryz
namespace Go.Proofs.YtmhcanmapkenbaaGreatDoor
open Lib renaming hid→J
variable{α:Type}
def wl(l:List Tok):Nat:=(l.map λt=>t.x.size+8).sum
def CO(t:Tok)(l:List Tok):wl (t::l)=t.x.size+8+wl l:=rfl
def WL(l:List Tok):Prop:=∀t∈l,t.k=1->O5 t.x.data.toList
structure Tk (l r:List Tok) (n:Nat):Prop where
 m:∀t∈r,t∈l
 w:n+wl r<=wl l
section
variable {l r q:List Tok} {n m:Nat}
def Tk.trans(h:Tk l r n)(a:Tk r q m):Tk l q (n+m):=⟨λt b=>h.m t (a.m t b),by have:=h.w;have:=a.w;omega⟩
def Tk.le(h:Tk l r n)(a:m<=n):Tk l r m:=⟨h.m,by have:=h.w;omega⟩
def Tk.wl(h:Tk l r n)(b:WL l):WL r:=λt a=>b t (h.m t a)
def Tk.refl(l:List Tok):Tk l l 0:=⟨λ_ h=>h,O⟩
def Tk.one(t:Tok)(r:List Tok):Tk (t::r) r (t.x.size+8):=⟨λ_ h=>QA _ h,Qi _⟩
def ww{c:Tok->Option α}{v:α}(h:vO c l=some (v,r)):∃t,l=t::r/\c t=some v:=by
 cases l with
 |nil=>cases h
 |cons t l=>
  have h:(c t).map (λv=>(v,l))=some (v,r):=h;cases a:c t with
  |none=>rw[a]at h;cases h
  |some u=>
   rw[a]at h;injection h with h
   injection h with b d
   exact⟨t,by rw[d],a.trans (congrArg some b)⟩
def sV{c:Tok->Bool}{b:Bool}(h:j3 c l=some (b,r)):(b=true/\∃t,l=t::r/\c t=true)\/(b=false/\r=l):=by
 cases l with
 |nil=>
  injection h with h
  injection h with a d
  exact .inr ⟨a.symm,d.symm⟩
 |cons t l=>
  have h:(if c t=true then some (true,l)else some (false,t::l))=some (b,r):=h;split at h
  ·next hc=>
   injection h with h
   injection h with a d
   exact .inl ⟨a.symm,t,by rw[d],hc⟩
  injection h with h
  injection h with a d
  exact .inr ⟨a.symm,d.symm⟩
def oX{c:Tok->Bool}{u:Unit}(h:fP c l=some (u,r)):Tk l r 8:=by
 obtain⟨t,rfl,_⟩:=ww h;exact(Tk.one t r).le O
def pF{c:Tok->Bool}{b:Bool}(h:j3 c l=some (b,r)):Tk l r 0:=by
 rcases sV h with⟨_,t,rfl,_⟩|⟨_,rfl⟩
 ·exact(Tk.one t r).le (QF _)
 exact Tk.refl _
def qH{x:ByteArray}(b:WL l)(h:ip l=some (x,r)):GN x/\Tk l r (x.size+8):=by
 obtain⟨t,rfl,a⟩:=ww h;split at a
 ·next h1=>
  injection a with a
  subst a;exact⟨⟨b t (Qs ..) h1.1,h1.2⟩,Tk.one t r⟩
 cases a
def GV{v:V}(h:nk l=some (v,r)):cM ⟨v.fmt.toArray⟩=some v/\Tk l r (v.fmt.length+8):=by
 obtain⟨t,rfl,a⟩:=ww h;split at a
 ·have b:=(eJ a).2.2;have e:(⟨v.fmt.toArray⟩:ByteArray)=t.x:=by
   apply SD;apply Rb;rw[b]
  refine⟨by rw[e];exact a,(Tk.one t r).le ?_⟩;rw[<-b,dT];exact Qi _
 cases a
def fk{β:Type}{o:Option α}{f:α->Option β}{b:β}(h:o.bind f=some b):∃a,o=some a/\f a=some b:=R6.1 h
def qI{t:Trm}(g:WL l)(h:gu l=some (t,r)):GT t/\Tk l r ((aD t).size+8):=by
 unfold gu at h;split at h
 ·obtain⟨p,c,a⟩:=fk h;injection a with a
  injection a with a d
  subst a d;obtain⟨b,f⟩:=qH g c;refine⟨.inl ⟨b,Z⟩,?_⟩;unfold aD;rw[if_neg b.ne];exact f
 obtain⟨p,c,a⟩:=fk h;injection a with a
 injection a with a d
 subst a d;obtain⟨b,f⟩:=GV c;refine⟨.inr ⟨Z,b⟩,?_⟩;have e:aD ⟨b9,p.1⟩=⟨p.1.fmt.toArray⟩:=if_pos Z;rw[e];have:(⟨p.1.fmt.toArray⟩:ByteArray).size=p.1.fmt.length:=Rg;rw[this];exact f
def oY{β:Type}{c:Tok->Bool}{g:β->List Tok->Option (β×List Tok)}(μ:β->Nat)(I:β->Prop)(h:∀b l a r,WL l->I b->g b l=some (a,r)->I a/\(∀t∈r,t∈l)/\μ a+wl r<=μ b+wl l+8):∀(n:Nat) (b:β) (l:List Tok) (a:β) (r:List Tok),WL l->I b->im c g n b l=some (a,r)->I a/\(∀t∈r,t∈l)/\μ a+wl r<=μ b+wl l
 |0,b,l,a,r,hw,hi,i=>by
  injection i with i
  injection i with k d
  subst k d;exact⟨hi,λ_ h=>h,Qi _⟩
 |n+1,b,l,a,r,hw,hi,i=>by
  rw[im]at i;obtain⟨⟨t,v⟩,k,d⟩:=fk i;dsimp only at d;split at d
  ·next j=>
   obtain⟨⟨s,x⟩,o,p⟩:=fk d;dsimp only at o p j;have f:Tk l v 8:=by
    rcases sV k with⟨_,t,rfl,_⟩|⟨e,_⟩
    ·exact(Tk.one t _).le O0
    rw[j]at e;cases e
   obtain⟨z,u,B⟩:=h b v s x (f.wl hw) hi o;obtain⟨A,q,y⟩:=oY μ I h n s x a r (λt j=>hw t (f.m t (u t j))) z p;have:=f.w;exact⟨A,λt j=>f.m t (u t (q t j)),O0⟩
  have f:=pF k;injection d with d
  injection d with o p
  subst o p;exact⟨hi,f.m,by have:=f.w;omega⟩
def yI(b:List UInt8):∀(l:List ByteArray) (j:Nat),(jn b j l).length<=(l.map λx=>x.size+b.length).sum
 |[],_=>by rw[jn];exact QF _
 |x::l,j=>by
  have:=yI b l (j+1);have a:x.data.toList.length=x.size:=rfl;rw[jn,QJ,QJ,QM,List.sum_cons];split
  ·omega
  rw[QC];omega
noncomputable def μT (l:List Trm):Nat:=(l.map λt=>(aD t).size+2).sum
def GW{N:Nat}{ts:List Trm}(f:WL l)(h:ja N l=some (ts,r)):(∀t∈ts,GT t)/\Tk l r ((bF (ts.map aD)).size+8):=by
 unfold ja at h;obtain⟨⟨_,R⟩,s,h⟩:=fk h;obtain⟨⟨b,S⟩,j,h⟩:=fk h;have z:=oX s;have g:=z.trans (pF j);rw[kN];dsimp only at h s j;split at h
 ·next hb=>
  injection h with h
  injection h with c d
  subst c d;refine⟨λt a=>(by cases a),?_⟩;rcases sV j with⟨_,t,rfl,_⟩|⟨e,_⟩
  ·exact(z.trans (Tk.one t _)).le (by show 0+2+8<=_;omega)
  rw[hb]at e;cases e
 obtain⟨⟨t,I⟩,c,h⟩:=fk h;obtain⟨⟨m,J⟩,d,h⟩:=fk h;obtain⟨⟨_,T⟩,u,h⟩:=fk h;injection h with h
 injection h with v y
 dsimp only at c d u v y;subst v y;obtain⟨C,n⟩:=qI (g.wl f) c;obtain⟨D,K,V⟩:=oY μT (λl=>∀t∈l,GT t) (λb l Q r f G F=>by
  obtain⟨⟨x,U⟩,o,i⟩:=fk F;injection i with i
  injection i with p q
  dsimp only at o p q;subst p q;obtain⟨E,A⟩:=qI f o;refine⟨λt a=>?_,A.m,?_⟩
  ·rcases Q6.1 a with a|a
   ·exact G t a
   rw[QP.1 a];exact E
  have:=A.w;unfold μT;rw[Qz,List.sum_append];simp only[QM,Rq,List.sum_cons,List.sum_nil];omega) N [t] I m J ((g.trans n).wl f) (λx H=>by rw[QP.1 H];exact C) d
 have B:=oX u;refine⟨D,⟨λt a=>g.m t (n.m t (K t (B.m t a))),?_⟩⟩;have k:=yI [44,32] (m.map aD) 0;rw[List.map_map]at k;have k:(jn [44,32] 0 (m.map aD)).length<=μT m:=k;have L:=g.w;have M:=n.w;have O:=B.w;have P:μT [t]=(aD t).size+2:=rfl;omega
def Er{x:ByteArray}{n:Nat}(h:xS x=some n):1<=n/\n<=4/\∃o,kM n=some o/\o.size=x.size+2:=by
 unfold xS at h;split at h
 ·next e=>injection h with h;subst h;subst e;exact⟨I,I,_,Z,Z⟩
 split at h
 ·next e=>injection h with h;subst h;subst e;exact⟨I,I,_,Z,Z⟩
 split at h
 ·next e=>injection h with h;subst h;subst e;exact⟨I,I,_,Z,Z⟩
 split at h
 ·next e=>injection h with h;subst h;subst e;exact⟨I,I,_,Z,Z⟩
 cases h
def Pi{n:Nat}(h:Lu l=some (n,r)):1<=n/\n<=4/\∃o,kM n=some o/\Tk l r (o.size+6):=by
 obtain⟨t,rfl,a⟩:=ww h;split at a
 ·obtain⟨b,c,o,d,e⟩:=Er a;exact⟨b,c,o,d,(Tk.one t r).le O⟩
 cases a
noncomputable def μQ (c:Cq):Nat:=(c.al.map λa=>(dw a).size+2).sum+(c.cl.map λk=>((eF k).getD b9).size+2).sum
def GQ.nil:GQ ⟨[],[]⟩:=⟨λa h=>(by cases h),λa h=>(by cases h)⟩
def CP{N:Nat}{c A:Cq}(z:WL l)(u:GQ c)(h:jb N c l=some (A,r)):GQ A/\(∀t∈r,t∈l)/\μQ A+6+wl r<=μQ c+wl l:=by
 unfold jb at h;obtain⟨⟨b,I⟩,D,h⟩:=fk h;have d:=pF D;dsimp only at h;split at h
 ·obtain⟨⟨x,J⟩,i,h⟩:=fk h;obtain⟨⟨ts,K⟩,j,h⟩:=fk h;injection h with h
  injection h with n p
  dsimp only at i j n p;subst n p;obtain⟨B,f⟩:=qH (d.wl z) i;obtain⟨C,g⟩:=GW ((d.trans f).wl z) j;refine⟨⟨λa q=>?_,u.2⟩,λt v=>d.m t (f.m t (g.m t v)),?_⟩
  ·rcases Q6.1 q with q|q
   ·exact u.1 a q
   rw[QP.1 q];exact⟨B,C⟩
  have G:=f.w;have H:=g.w;have e:(dw ⟨x,b,ts⟩).size+wl I<=x.size+(bF (ts.map aD)).size+wl l:=by
   rcases sV D with⟨rfl,t,rfl,v⟩|⟨rfl,rfl⟩
   ·rw[CO];unfold dw;rw[if_pos Z,Qq,Qq];show 4+(x.size+(bF (ts.map aD)).size)+_<=_
    omega
   unfold dw;rw[if_neg Qk,Qq];exact Qi _
  unfold μQ;rw[Qz,List.sum_append];simp only[QM,Rq,List.sum_cons,List.sum_nil];omega
 obtain⟨⟨x,J⟩,i,h⟩:=fk h;obtain⟨⟨o,K⟩,j,h⟩:=fk h;obtain⟨⟨y,S⟩,n,h⟩:=fk h;injection h with h
 injection h with p E
 dsimp only at i j n p E;subst p E;obtain⟨B,f⟩:=qI (d.wl z) i;obtain⟨L,M,P,O,g⟩:=Pi j;obtain⟨C,F⟩:=qI ((d.trans (f.trans g)).wl z) n;refine⟨⟨u.1,λk s=>?_⟩,λt v=>d.m t (f.m t (g.m t (F.m t v))),?_⟩
 ·rcases Q6.1 s with s|s
  ·exact u.2 k s
  rw[QP.1 s];exact⟨B,C,L,M⟩
 have Q:=d.w;have G:=f.w;have H:=g.w;have R:=F.w;have e:(eF ⟨o,x,y⟩).getD b9=aD x++P++aD y:=by rw[ny (k:=⟨o,x,y⟩) O];rfl
 unfold μQ;rw[Qz,List.sum_append];simp only[QM,Rq,List.sum_cons,List.sum_nil];rw[e,Qq,Qq];omega
def LX{c:Cq}(h:GQ c){x:ByteArray}(a:dG c=some x):x.size<=μQ c+4:=by
 unfold dG at a;rw[if_pos h.all]at a;injection a with a
 subst a;split
 ·show 4<=_;omega
 have e:(⟨(jn [44,32] 0 (kb c)).toArray⟩:ByteArray).size=(jn [44,32] 0 (kb c)).length:=Rg;have b:=yI [44,32] (kb c) 0;have:((kb c).map λx=>x.size+([44,32]:List UInt8).length).sum=μQ c:=by
  rw[h.ps];unfold Ep μQ;rw[Qz,Qz,List.sum_append,List.map_map,List.map_map,List.map_map,List.map_map];rfl
 omega
def LY{N:Nat}{c:Cq}(a:WL l)(h:JC N l=some (c,r)):GQ c/\∀x,dG c=some x->Tk l r (x.size+2):=by
 unfold JC at h;obtain⟨⟨b,D⟩,k,h⟩:=fk h;dsimp only at h;split at h
 ·next hb=>
  injection h with h
  injection h with f u
  subst f u;refine⟨GQ.nil,λx i=>?_⟩;have:=LX GQ.nil i;have e:μQ ⟨[],[]⟩=0:=rfl;rcases sV k with⟨_,t,rfl,_⟩|⟨e,_⟩
  ·exact(Tk.one t _).le O
  rw[hb]at e;cases e
 obtain⟨⟨q,z⟩,f,h⟩:=fk h;have d:=pF k;obtain⟨s,n,E⟩:=CP (d.wl a) GQ.nil f;obtain⟨j,A,F⟩:=oY μQ GQ (λb l C r a y v=>by
  obtain⟨o,p,B⟩:=CP a y v;exact⟨o,p,O⟩) N q z c r (λt g=>a t (d.m t (n t g))) s h
 refine⟨j,λx i=>⟨λt g=>d.m t (n t (A t g)),?_⟩⟩;have:=LX j i;have:=d.w;have e:μQ ⟨[],[]⟩=0:=rfl;dsimp only at*;omega
noncomputable def μU (l:List Cq):Nat:=(l.map λc=>((dG c).getD b9).size+4).sum
def Nr{l:List Cq}(h:∀c∈l,GQ c){x:ByteArray}(a:v8 l=some x):x.size<=μU l+5:=by
 unfold v8 at a;split at a
 ·injection a with a
  subst a;show 5<=_;omega
 have e:(l.all λd=>(dG d).isSome)=true:=Qt.2 λc g=>by
  obtain⟨x,b,_⟩:=lc (h c g);rw[b];rfl
 rw[if_pos e]at a;injection a with a
 subst a;have m:(⟨(jn [32,111,114,32] 0 (l.filterMap dG)).toArray⟩:ByteArray).size=(jn [32,111,114,32] 0 (l.filterMap dG)).length:=Rg;have i:=yI [32,111,114,32] (l.filterMap dG) 0;have key:∀l:List Cq,(∀c∈l,GQ c)->((l.filterMap dG).map λx=>x.size+([32,111,114,32]:List UInt8).length).sum=μU l:=by
  intro l;induction l with
  |nil=>exact λ_=>rfl
  |cons c l f=>
   intro h;obtain⟨x,b,_⟩:=lc (h c (Qs ..));have f:=f λk j=>h k (QA _ j)
   unfold μU at f⊢;rw[List.filterMap_cons,b,QM,List.sum_cons,f,QM,List.sum_cons,b];rfl
 rw[key l h]at i;omega
def yJ{N:Nat}{d:List Cq}(n:WL l)(h:jO N l=some (d,r)):(∀c∈d,GQ c)/\(∀t∈r,t∈l)/\∀x,v8 d=some x->x.size+wl r<=wl l+7:=by
 unfold jO at h;obtain⟨⟨b,R⟩,D,h⟩:=fk h;have j:=pF D;have H:=j.w;dsimp only at h;split at h
 ·injection h with h
  injection h with k E
  subst k E;refine⟨λc q=>(by cases q),j.m,λx f=>?_⟩;have:=Nr (l:=[]) (λc q=>by cases q) f;have e:μU []=0:=rfl;omega
 unfold pv at h;obtain⟨⟨c,J⟩,k,h⟩:=fk h;dsimp only at k h;obtain⟨z,I⟩:=LY (j.wl n) k;obtain⟨C,g,_⟩:=lc z;have s:=I C g;obtain⟨A,K,T⟩:=oY μU (λl=>∀c∈l,GQ c) (λb l Q r n G F=>by
  obtain⟨⟨x,S⟩,u,p⟩:=fk F;injection p with p
  injection p with v y
  dsimp only at u v y;subst v y;obtain⟨B,o⟩:=LY n u;obtain⟨L,i,_⟩:=lc B;have o:=o L i;refine⟨λt a=>?_,o.m,?_⟩
  ·rcases Q6.1 a with a|a
   ·exact G t a
   rw[QP.1 a];exact B
  have:=o.w;unfold μU;rw[Qz,List.sum_append];simp only[QM,Rq,List.sum_cons,List.sum_nil];rw[i];simp only[Q2];omega) N [c] J d r (s.wl (j.wl n)) (λx f=>by rw[QP.1 f];exact z) h
 refine⟨A,λt a=>j.m t (s.m t (K t a)),λx f=>?_⟩;have M:=s.w;have O:μU [c]=C.size+4:=by unfold μU;simp[g]
 have P:=Nr A f;omega
def μN(l:List ByteArray):Nat:=(l.map λn=>n.size+2).sum
def GX{N:Nat}{d:List ByteArray}(c:WL l)(h:ga N l=some (d,r)):(∀n∈d,GN n)/\(∀t∈r,t∈l)/\μN d+6+wl r<=wl l:=by
 unfold ga at h;obtain⟨⟨n,z⟩,s,h⟩:=fk h;dsimp only at h;obtain⟨o,f⟩:=qH c s;obtain⟨p,A,F⟩:=oY μN (λl=>∀n∈l,GN n) (λb l D r c v u=>by
  obtain⟨⟨x,E⟩,g,e⟩:=fk u;injection e with e
  injection e with i j
  dsimp only at g i j;subst i j;obtain⟨q,k⟩:=qH c g;refine⟨λt a=>?_,k.m,?_⟩
  ·rcases Q6.1 a with a|a
   ·exact v t a
   rw[QP.1 a];exact q
  have:=k.w;unfold μN;rw[Qz,List.sum_append];simp only[QM,Rq,List.sum_cons,List.sum_nil];omega) N [n] z d r (f.wl c) (λx y=>by rw[QP.1 y];exact o) h
 refine⟨p,λt a=>f.m t (A t a),?_⟩;have B:=f.w;have C:μN [n]=n.size+2:=rfl;omega
def Ko{N:Nat}{f:List ByteArray}(q:WL l)(h:pS N l=some (f,r)):(∀n∈f,GN n)/\(∀t∈r,t∈l)/\(bF f).size+wl r<=wl l:=by
 unfold pS gB at h;obtain⟨⟨_,z⟩,g,h⟩:=fk h;obtain⟨⟨b,A⟩,i,h⟩:=fk h;dsimp only at h g i;have s:=oX g;have d:=s.trans (pF i);have v:=d.w;rw[kN];unfold gI gR at h;split at h
 ·injection h with h
  injection h with a c
  subst a c;refine⟨λt e=>(by cases e),d.m,?_⟩;show 0+2+_<=_
  omega
 obtain⟨⟨m,B⟩,a,h⟩:=fk h;obtain⟨⟨_,C⟩,c,h⟩:=fk h;injection h with h
 injection h with j k
 dsimp only at a c j k;subst j k;obtain⟨p,u,D⟩:=GX (d.wl q) a;have o:=oX c;have x:=o.w;refine⟨p,λt e=>d.m t (u t (o.m t e)),?_⟩;have y:(jn [44,32] 0 m).length<=μN m:=yI [44,32] m 0;omega
def Ns{N:Nat}{q:List ByteArray×List Cq}(k:WL l)(h:AW N l=some (q,r)):GQy q/\∀x,fA q=some x->x.size<=wl l+9:=by
 unfold AW at h;split at h
 ·obtain⟨⟨j,E⟩,o,h⟩:=fk h;obtain⟨⟨_,F⟩,p,h⟩:=fk h;dsimp only at h o p;split at h
  ·cases h
  obtain⟨⟨d,A⟩,c,h⟩:=fk h;injection h with h
  injection h with e f
  dsimp only at c e f;subst e f;obtain⟨v,B,G⟩:=Ko k o;have s:=oX p;have D:=s.w;obtain⟨b,C,m⟩:=yJ (s.wl λt z=>k t (B t z)) c;refine⟨⟨v,b⟩,λx i=>?_⟩;obtain⟨y,a,_⟩:=AT b;have u:=m y a;by_cases g:0<j.length
  ·have:=(we (q:=(j,d)) a g).symm.trans i;injection this with this
   rw[<-this,Qq,Qq];show _+2+_<=_
   dsimp only;omega
  have:=(sF (q:=(j,d)) a g).symm.trans i;injection this with this
  rw[<-this];omega
 obtain⟨⟨d,A⟩,c,h⟩:=fk h;injection h with h
 injection h with e f
 dsimp only at c e f;subst e f;obtain⟨b,C,m⟩:=yJ k c;refine⟨⟨λn g=>(by cases g),b⟩,λx i=>?_⟩;obtain⟨y,a,_⟩:=AT b;have u:=m y a;have:=(sF (q:=([],d)) a (Nat.lt_irrefl 0)).symm.trans i;injection this with this
 rw[<-this];omega
end
def AX:∀(n:Nat) (s:List UInt8) (l:List Tok),dO n s=some l->WL l/\wl l<=9*s.length
 |0,s,l,h=>by
  injection h with h;subst h;exact⟨λt b=>(by cases b),QF _⟩
 |_+1,[],l,h=>by
  injection h with h;subst h;exact⟨λt b=>(by cases b),QF _⟩
 |n+1,c::r,l,h=>by
  rw[dO]at h;split at h
  ·injection h with h;subst h;exact⟨λt b=>(by cases b),QF _⟩
  split at h
  ·obtain⟨e,g⟩:=AX n r l h;exact⟨e,by rw[Qn];omega⟩
  split at h
  ·cases h
  next h3=>
  cases f:dO n ((c::r).drop (jV (c::r)).2)with
  |none=>rw[f]at h;cases h
  |some q=>
   rw[f]at h;injection h with h
   subst h;obtain⟨e,g⟩:=AX n _ q f;have j:((c::r).take (jV (c::r)).2).length+((c::r).drop (jV (c::r)).2).length=(c::r).length:=by rw[<-QJ,R3]
   have k:(⟨((c::r).take (jV (c::r)).2).toArray⟩:ByteArray).size=((c::r).take (jV (c::r)).2).length:=Rg;have m:1<=((c::r).take (jV (c::r)).2).length:=by
    obtain⟨w,i⟩:=uw (c:=c) (r:=r) h3;rw[i];exact Sw _
   refine⟨λt b=>?_,by rw[CO];dsimp only;omega⟩;rcases Qw.1 b with rfl|b
   ·intro a;dsimp only at a⊢;have a:(fw c r).1=1:=a;show O5 (((c::r).take (fw c r).2).toArray).toList
    rw[List.toList_toArray];unfold fw at a⊢;split at a
    ·next e=>
     rw[if_pos e,Sb];refine⟨c,r.takeWhile j7,?_,e,λd hd=>?_⟩
     ·rw[RU];congr 1;exact(List.prefix_iff_eq_take.1 (List.takeWhile_prefix _)).symm
     exact Qt.1 List.all_takeWhile d hd
    split at a
    ·cases a
    split at a
    ·cases a
    split at a
    ·cases a
    split at a
    ·split at a<;>cases a
    split at a<;>cases a
   exact e t b
def nE(s:ByteArray):GQy (aC s).1/\∀x,fA (aC s).1=some x->x.size<=9*s.size+9:=by
 have b:GQy ([],[])/\∀x,fA ([],[])=some x->x.size<=9*s.size+9:=by
  refine⟨⟨λn c=>(by cases c),λn c=>(by cases c)⟩,λx a=>?_⟩;have:fA ([],[])=some ⟨#[102,97,108,115,101]⟩:=sF Z I;rw[this]at a;injection a with a
  subst a;show 5<=_
  omega
 unfold aC;split
 ·exact b
 split
 ·exact b
 split
 ·exact b
 next l hl=>
 split
 ·next hf=>
  obtain⟨d,_⟩:=oA (W:=λ_=>True) (sU l.length) l trivial;obtain⟨v,e,f⟩:=d hf;obtain⟨g,h⟩:=AX _ _ _ hl;obtain⟨i,j⟩:=Ns g e;show GQy (lh l.length (PS.mk l 0 false)).1/\∀x,fA (lh l.length (PS.mk l 0 false)).1=some x->_
  rw[f];rw[<-dT]at h;exact⟨i,λx a=>by have:=j x a;omega⟩
 exact b
def lL{p:α->α->Bool}:∀l:List α,(∀x∈l,p x x=true)->pa p l l=true:=by
 intro l h;unfold pa;simp only[decide_true,Ri];rw[Qt];have key:∀l:List α,l.zip l=l.map λa=>(a,a):=λl=>by
  induction l with
  |nil=>rfl
  |cons a l ih=>rw[Q8,ih];rfl
 rw[key];intro q b;obtain⟨x,c,rfl⟩:=RH.1 b;exact h x c
def nF(t:Trm):jE t t=true:=by
 unfold jE;split
 ·exact decide_eq_true Z
 exact uG.2 Z
def AY(a:Atm):la a a=true:=by
 unfold la;rw[decide_eq_true Z,beq_self_eq_true,lL _ λt _=>nF t];rfl
def AZ(a:Cpr):lb a a=true:=by
 unfold lb;rw[decide_eq_true Z,nF,nF];rfl
def A5(a:Cq):gD a a=true:=by
 unfold gD;rw[lL _ λt _=>AY t,lL _ λt _=>AZ t];rfl
def jl(a:List ByteArray×List Cq):iu a a=true:=by
 unfold iu;rw[lL (p:=λx y=>decide (x=y)) _ λt _=>decide_eq_true Z,lL _ λt _=>A5 t];rfl
def Es{q:List ByteArray×List Cq}{x:ByteArray}(h:GQy q)(a:fA q=some x)(b:x.size<=16384):wc q=x:=(M4 a (by rw[kU h a b,jl];rfl)).symm
def GY{b:List UInt8}(a:1<=b.length):∀(l:List ByteArray) (j:Nat),l.length<=(jn b (j+1) l).length
 |[],_=>QF _
 |x::l,j=>by
  have:=GY a l (j+1);rw[jn,if_pos (Sw j),QJ,QJ,Qn];omega
def qJ{b:List UInt8}(a:1<=b.length)(l:List ByteArray):l.length<=(jn b 0 l).length+1:=by
 cases l with
 |nil=>exact QF _
 |cons x l=>
  have:=GY a l 0;rw[jn,if_neg (Nat.lt_irrefl 0),QJ,QJ,Qn];omega
def wx{t:Trm}(h:GT t):t.c.rng:=by
 rcases h with⟨_,h⟩|⟨_,h⟩
 ·rw[h];exact⟨I,I⟩
 exact(eJ h).2.1
def Pj{c:Cq}(h:GQ c){x:ByteArray}(d:dG c=some x)(i:x.size<=400000):CqB c:=by
 have p:(jn [44,32] 0 (kb c)).length<=400000/\(kb c).length<=400001:=by
  unfold dG at d;rw[if_pos h.all]at d;injection d with d
  split at d
  ·next h0=>
   have:kb c=[]:=Rz.1 h0;rw[this];exact⟨I,I⟩
  have e:(⟨(jn [44,32] 0 (kb c)).toArray⟩:ByteArray).size=(jn [44,32] 0 (kb c)).length:=Rg;rw[<-d,e]at i;have:=qJ (b:=[44,32]) I (kb c);exact⟨i,O⟩
 have q:(kb c).length=c.al.length+c.cl.length:=by
  rw[h.ps];unfold Ep;simp
 refine⟨O,O,λa f=>?_,λa f t o=>wx ((h.1 a f).2 t o),λk g=>⟨wx (h.2 k g).1,wx (h.2 k g).2.1⟩,O⟩;have l:dw a∈kb c:=by unfold kb;exact Sh _ (List.mem_map_of_mem f)
 have r:=pB (b:=[44,32]) (j:=0) l;have m:=(v7 (N:=400000) (a:=a) O).1;rw[kN]at m;have n:=qJ (b:=[44,32]) I (a.ts.map aD);rw[Qr]at n;omega
def Kq{q:List ByteArray×List Cq}(h:GQy q){x:ByteArray}(o:fA q=some x)(f:x.size<=400000):QB q.2/\q.1.length<=1000000/\(jn [44,32] 0 q.1).length<=1073741000:=by
 obtain⟨y,a,_⟩:=AT h.q;have g:y.size<=400000/\q.1.length<=1000000/\(jn [44,32] 0 q.1).length<=1073741000:=by
  by_cases n:0<q.1.length
  ·have:=(we a n).symm.trans o;injection this with this
   rw[<-this,Qq,Qq,kN]at f;have s:=qJ (b:=[44,32]) I q.1;exact⟨O,O,O⟩
  have:=(sF a n).symm.trans o;injection this with this
  rw[<-this]at f;have e:q.1=[]:=Rz.1 O;rw[e];exact⟨f,I,I⟩
 refine⟨?_,g.2⟩;have i:(jn [32,111,114,32] 0 (q.2.filterMap dG)).length<=400000/\(q.2.filterMap dG).length<=400001/\(q.2.filterMap dG).length=q.2.length:=by
  have hl:(q.2.filterMap dG).length=q.2.length:=by
   have key:∀l:List Cq,(∀c∈l,GQ c)->(l.filterMap dG).length=l.length:=by
    intro l;induction l with
    |nil=>exact λ_=>rfl
    |cons c l ih=>
     intro h;obtain⟨x,i,_⟩:=lc (h c (Qs ..));rw[List.filterMap_cons,i];simp only[Qn];rw[ih λk t=>h k (QA _ t)]
   exact key q.2 h.q
  unfold v8 at a;split at a
  ·next e=>
   have:q.2=[]:=Rz.1 e;rw[this];exact⟨I,I,Z⟩
  split at a
  ·injection a with a
   have e:(⟨(jn [32,111,114,32] 0 (q.2.filterMap dG)).toArray⟩:ByteArray).size=(jn [32,111,114,32] 0 (q.2.filterMap dG)).length:=Rg;have m:=g.1;rw[<-a,e]at m;have s:=qJ (b:=[32,111,114,32]) I (q.2.filterMap dG);exact⟨m,O,hl⟩
  cases a
 refine⟨O,λd hd=>?_,O⟩;obtain⟨z,p,_⟩:=lc (h.q d hd);have r:z∈q.2.filterMap dG:=Sa.2 ⟨d,hd,p⟩;have u:=pB (b:=[32,111,114,32]) (j:=0) r;exact Pj (h.q d hd) p O
noncomputable def Nt (N:Nat) (l:List Tok):Option (List ByteArray×List Tok):=(fP (aT yL) l).bind λp=>(ga N p.2).bind λm=>(fP (aT yR) m.2).bind λu=>some (m.1,u.2)
def Kr(N:Nat):Fol r8 (Nt N) (nP N):=Fol.bind (j5 Px Z) λ_=>Fol.bind (Aq N) λl=>Fol.bind (j5 PL Z) λ_=>Fol.pure l
noncomputable def GZ (N:Nat) (l:List Tok):Option ((List ByteArray×List Cq)×List Tok):=if aT yL (hd l)=true then(Nt N l).bind λh=>(fP (aT yD) h.2).bind λu=>(jO N u.2).bind λd=>some ((h.1,d.1),d.2)else(jO N l).bind λd=>some (([],d.1),d.2)
def G4(N:Nat):Fol r8 (GZ N) (pA N):=(oz (c:=λs=>aI yL s.nxt) (C:=λl=>aT yL (hd l)) (λs b a=>by rw[Px s b,vP a]) (Fol.bind (Kr N) λh=>Fol.bind (j5 Qc Z) λ_=>Fol.bind (se N) λd=>Fol.pure (h,d)) (Fol.bind (se N) λd=>Fol.pure (([]:List ByteArray),d))).congr (λ_=>rfl) λ_=>rfl
def Et{N:Nat}{l:List Tok}{j:List ByteArray}{r:List Tok}(h:ga N l=some (j,r)):j.length≠0:=by
 have key:∀(n:Nat) (b:List ByteArray) (l:List Tok) (d:List ByteArray) (r:List Tok),im (aT yC) (λl r=>(ip r).bind λx=>some (l++[x.1],x.2)) n b l=some (d,r)->b.length<=d.length:=by
  intro n;induction n with
  |zero=>
   intro b l d r c;injection c with c
   injection c with f _
   rw[f];exact Qi _
  |succ n ih=>
   intro b l d r c;rw[im]at c;obtain⟨⟨t,o⟩,_,a⟩:=fk c;dsimp only at a;split at a
   ·obtain⟨⟨p,q⟩,k,m⟩:=fk a;obtain⟨⟨x,s⟩,_,g⟩:=fk k;injection g with g
    injection g with i _
    have:=ih _ _ _ _ m;dsimp only at i this;rw[<-i,QJ]at this;omega
   injection a with a
   injection a with f _
   rw[f];exact Qi _
 unfold ga at h;obtain⟨⟨n,o⟩,_,h⟩:=fk h;have:=key _ _ _ _ _ h;have e:[n].length=1:=rfl;dsimp only at this;omega
def CQ(N:Nat)(l:List Tok):GZ N l=AW N l:=by
 unfold GZ AW;split
 ·unfold Nt pS gB;cases n:fP (aT yL) l with
  |none=>rfl
  |some p=>
   obtain⟨u,b⟩:=p;show((ga N b).bind _).bind _=((j3 (aT yR) b).bind _).bind _
   cases b with
   |nil=>rfl
   |cons t r=>
    cases a:aT yR t with
    |true=>
     rw[CK a];have:ip (t::r)=none:=by
      show(if t.k=1/\io t.x=false then some t.x else none).map _=_
      have g:t.k=4:=by
       unfold aT at a;rw[Qh]at a;exact of_decide_eq_true a.1
      rw[if_neg (λh=>absurd (g.symm.trans h.1) I)];rfl
     have e:ga N (t::r)=none:=by unfold ga;rw[this];rfl
     rw[e];show none=(fP (aT yD) r).bind λu=>none
     cases fP (aT yD) r<;>rfl
    |false=>
     rw[jG (by exact a)];show _=(((ga N (t::r)).bind _)).bind _
     cases f:ga N (t::r)with
     |none=>rfl
     |some m=>
      obtain⟨j,c⟩:=m;have i:=Et f;show((fP (aT yR) c).bind _).bind _=((fP (aT yR) c).bind _).bind _
      cases o:fP (aT yR) c with
      |none=>rfl
      |some u=>
       obtain⟨_,d⟩:=u;show(fP (aT yD) d).bind _=(fP (aT yD) d).bind _
       cases q:fP (aT yD) d with
       |none=>rfl
       |some u=>
        show _=if decide (j.length=0)=true then none else _
        rw[if_neg (by simpa using i)];rfl
 rfl
def mw(s:ByteArray):fY s=aC s:=by
 unfold fY aC;split
 ·rfl
 split
 ·rfl
 cases hl:dO (s.size+1) s.data.toList with
 |none=>rfl
 |some l=>
  have c:=As _ _ _ hl;obtain⟨h,i⟩:=oA (W:=r8) (sU l.length) l c;obtain⟨j,k⟩:=oA (G4 l.length) l c;show(if(pA l.length (PS.mk l 0 false)).2.fin=true then _ else _)=if(lh l.length (PS.mk l 0 false)).2.fin=true then _ else _
  cases b:(lh l.length (PS.mk l 0 false)).2.fin with
  |true=>
   obtain⟨v,a,d⟩:=h b;obtain⟨e,f⟩:=k v (by rw[CQ];exact a);rw[if_pos e,if_pos Z,f,d]
  |false=>
   cases g:(pA l.length (PS.mk l 0 false)).2.fin with
   |false=>rfl
   |true=>
    obtain⟨v,a,_⟩:=j g;rw[CQ]at a;rw[(i v a).1]at b;cases b
end Go.Proofs.YtmhcanmapkenbaaGreatDoor
namespace Go.Proofs.YtmhcanmapkenbaaGreatDoor
open Go.RowKit
def Ks{b:List UInt8}{x:ByteArray}{l:List ByteArray}{j:Nat}(h:l[j]? =some x):jn b j (l.drop j)=(if 0<j then b else [])++(x.data.toList++jn b (j+1) (l.drop (j+1))):=by rw[oB h];rfl
def Nu{b:List UInt8}{l:List ByteArray}{j:Nat}(h:l.length<=j):jn b j (l.drop j)=[]:=by rw[Q1 h];rfl
def Qf(s:ByteArray):s.data.toList.length=s.size:=RE
def qK(b:List UInt8)(l:List ByteArray)(hl:l.length<=1000000)(m:(jn b 0 l).length<=1073741824):Ct 50 [.sl (l.map aE),sT (bb b)] (sT (bb (jn b 0 l))):=by
 refine Ct.of (n:=25) func50 Z Z Z Z Z λw0 G0=>?_
 refine N 1 Z<|N 1 Z<|Y<|N 1 Z<|aG<|bn (λj h=>∃(i:Nat) (acc:List UInt8),(i<=l.length/\acc++jn b i (l.drop i)=jn b 0 l)/\j=l.length-i/\h=⟨25,[(0,.sl (l.map aE)),(1,sT (bb b)),(5,sT (bb acc)),(6,nI i)],[],[]⟩) 0 0 ⟨0,[],⟨O0,Z⟩,Z,Z⟩ .rf ?_;rintro j h ⟨i,acc,⟨o,a⟩,rfl,rfl⟩;refine Y<|M<|C 2 Z (bg Z bc Z)<|aB 0 Z Z Zy (D (iL i l.length))<|K<|an Z (λe=>?_) (λe=>?_)
 ·obtain⟨x,d⟩:∃x,l[i]? =some x:=⟨_,Qj e⟩;have k:=Qf x;rw[Ks d]at a;have g:=congrArg List.length a;simp only[QJ]at g;refine X<|Y<|aG<|Y<|M<|aB 1 Z Z Zy (D (DF i 0))<|K<|an Z (λc=>?_) (λc=>?_)
  ·rw[if_pos c]at a g;refine am<|C 2 (t:=sT (bb (acc++b))) Z (av (aL Z Z Z (λ_=>cB (by rw[mq,mq];omega))) (cT (FP acc b)))<|H 1 Z<|am<|C 3 (t:=.ref [sT x]) Z (aY (aE x) Z bc Z Z Z (bi (f:=aE) d) (gQ _) Z)<|C 1 (t:=sT (bb ((acc++b)++x.data.toList))) Z (av (aL Z Z Z (λ_=>cB (by rw[mq];(try simp only[QJ]);omega))) (cT (B8 (acc++b) x)))<|H 1 Z<|am<|bA 1 (i+1) Z Z Zy O0<|H 1 Z<|⟨_,_,?_,⟨i+1,((acc++b)++x.data.toList),?_,Z,Z⟩,.rf⟩
   ·omega
   refine⟨O0,?_⟩;rw[<-a];simp
  rw[if_neg c,Rv]at a;refine X<|am<|C 3 (t:=.ref [sT x]) Z (aY (aE x) Z bc Z Z Z (bi (f:=aE) d) (gQ _) Z)<|C 1 (t:=sT (bb (acc++x.data.toList))) Z (av (aL Z Z Z (λ_=>cB (by rw[mq];(try simp only[QJ]);omega))) (cT (B8 acc x)))<|H 1 Z<|am<|bA 1 (i+1) Z Z Zy O0<|H 1 Z<|⟨_,_,?_,⟨i+1,(acc++x.data.toList),?_,Z,Z⟩,.rf⟩
  ·omega
  refine⟨O0,?_⟩;rw[<-a];simp
 refine bh<|N 2 Z<|aV ⟨Z,cT (by rw[<-a,Nu O0,Rn]),Z⟩ Z
