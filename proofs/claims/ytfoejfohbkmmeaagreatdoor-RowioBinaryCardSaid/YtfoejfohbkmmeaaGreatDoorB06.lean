import Derived.Test.YtfoejfohbkmmeaaGreatDoorB05
import Derived.Test.YtfoejfohbkmmeaaGreatDoorB00
namespace Go.Proofs.YtfoejfohbkmmeaaGreatDoor
open Go.RowKit
open Lib renaming hid→J
structure LayT where
 agg:List (Nat×Nat)
 one:List (Nat×Bool)
 fld:List (Nat×List (Nat×Nat))
 siz:List (Nat×Nat)
 str:List (Nat×List (Nat×Nat)×List Value×List Tree)
 zer:List (Nat×List Value×List Tree)
structure LayT.OK (L:LayT):Prop where
 agg:∀t n,(t,n)∈L.agg->rT Tryz.prog t=some n
 one:∀t b,(t,b)∈L.one->ja Tryz.prog t=true
 fld:∀t l,(t,l)∈L.fld->∀j n,(j,n)∈l->jm Tryz.prog t j=some n
 siz:∀t n,(t,n)∈L.siz->(Tryz.prog.info? t).map (·.size)=some n
 str:∀t z,(t,z)∈L.str->sM Tryz.prog t=some (z.1,z.2.1)/\z.2.1.map dN=z.2.2
 zer:∀t z,(t,z)∈L.zer->gJ Tryz.prog t=some z.1/\z.1.all bG=true/\z.1.map dN=z.2
theorem qI{α β:Type}{P:α->β->Prop}:∀t n,(t,n)∈([]:List (α×β))->P t n:=fun _ _ h=>by cases h
theorem cQ{α β:Type}{P:α->β->Prop}{l:List (α×β)}{a:α}{b:β}(h:P a b)(d:∀t n,(t,n)∈l->P t n):∀t n,(t,n)∈(a,b)::l->P t n:=by
 intro t n c;rcases OC.1 c with e|e
 ·cases e;exact h
 exact d t n e
section
variable {γ α β:Type}
def uT:List (Nat×α)->Nat->(α->Option γ)->Option γ
 |[],_,_=>none
 |(i,a)::l,j,k=>cond (Nat.beq i j) (k a) (uT l j k)
theorem iM{k:α->Option γ}{r:γ}{j:Nat}:∀{l:List (Nat×α)},uT l j k=some r->∃a,(j,a)∈l/\k a=some r
 |[],h=>by cases h
 |(i,a)::l,h=>by
  simp only[uT]at h;cases c:Nat.beq i j with
  |true=>
   rw[c]at h;cases QC c;exact⟨a,OR ..,h⟩
  |false=>
   rw[c]at h;obtain⟨b,e,d⟩:=iM (l:=l) h;exact⟨b,OX _ e,d⟩
theorem yy{k:Tree->Option γ}{r:γ}{j:Nat}:∀{l:List (Nat×Tree)},uT l j k=some r->k (look l j)=some r
 |[],h=>by cases h
 |(i,a)::l,h=>by
  simp only[uT]at h;simp only[look];cases b:Nat.beq i j with
  |true=>rw[b]at h;exact h
  |false=>rw[b]at h;exact yy (l:=l) h
def Gh(sl:List (Nat×Tree))(x:Operand)(k:Tree->Option γ):Option γ:=
 match x with
 | .tmp s=>uT sl s k
 | .const v=>k (.sc v)
 |_=>none
theorem Gi{n:Nat}{sl:List (Nat×Tree)}{bs:List (TypeId×List Tree)}{rs:List (Option Row)}{x:Operand}{k:Tree->Option γ}{r:γ}(h:Gh sl x k=some r):k (St.ev ⟨n,sl,bs,rs⟩ x)=some r:=by
 cases x with
 |tmp s=>exact yy h
 |const v=>exact h
 |_=>cases h
def xp:List α->Nat->(α->Option γ)->Option γ
 |[],_,_=>none
 |a::_,0,k=>k a
 |_::l,n+1,k=>xp l n k
theorem km{k:α->Option γ}{r:γ}:∀{l:List α} {n:Nat},xp l n k=some r->∃a,l[n]? =some a/\k a=some r
 |[],_,h=>by cases h
 |a::_,0,h=>⟨a,Z,h⟩
 |_::l,n+1,h=>by simpa using km (l:=l) (n:=n) h
def LD:List α->Nat->α->(List α->Option γ)->Option γ
 |[],_,_,_=>none
 |_::l,0,v,k=>k (v::l)
 |a::l,n+1,v,k=>LD l n v fun l'=>k (a::l')
theorem Dg{r:γ}{v:α}:∀{l:List α} {n:Nat} {k:List α->Option γ},LD l n v k=some r->k (l.set n v)=some r
 |[],_,_,h=>by cases h
 |_::_,0,_,h=>h
 |_::l,n+1,k,h=>Dg (l:=l) (n:=n) h
def JE:List α->α->(List α->Option γ)->Option γ
 |[],v,k=>k [v]
 |a::l,v,k=>JE l v fun l'=>k (a::l')
theorem xq{r:γ}{v:α}:∀{l:List α} {k:List α->Option γ},JE l v k=some r->k (l++[v])=some r
 |[],_,h=>h
 |_::l,_,h=>xq (l:=l) h
def Dh:List α->Nat->(List α->Option γ)->Option γ
 |l,0,k=>k l
 |[],_+1,_=>none
 |_::l,n+1,k=>Dh l n k
theorem o9{r:γ}{k:List α->Option γ}:∀{n:Nat} {l:List α},Dh l n k=some r->n<=l.length/\k (l.drop n)=some r
 |0,l,h=>by cases l<;>exact⟨OA _,h⟩
 |n+1,[],h=>by cases h
 |n+1,_::l,h=>⟨Nat.succ_le_succ (o9 (n:=n) (l:=l) h).1,(o9 (n:=n) (l:=l) h).2⟩
def Di:List α->Nat->(List α->Option γ)->Option γ
 |_,0,k=>k []
 |[],_+1,_=>none
 |a::l,n+1,k=>Di l n fun l'=>k (a::l')
theorem pa{r:γ}:∀{n:Nat} {l:List α} {k:List α->Option γ},Di l n k=some r->n<=l.length/\k (l.take n)=some r
 |0,l,_,h=>by cases l<;>exact⟨OA _,h⟩
 |n+1,[],_,h=>by cases h
 |n+1,a::l,k,h=>⟨Nat.succ_le_succ (pa (n:=n) (l:=l) h).1,(pa (n:=n) (l:=l) h).2⟩
def Gj:List α->Nat->List α->(List α->Option γ)->Option γ
 |l,0,[],k=>k l
 |_::l,0,v::vs,k=>Gj l 0 vs fun l'=>k (v::l')
 |a::l,n+1,vs,k=>Gj l n vs fun l'=>k (a::l')
 |_,_,_,_=>none
theorem sd{r:γ}:∀{l:List α} {n:Nat} {vs:List α} {k:List α->Option γ},Gj l n vs k=some r->n+vs.length<=l.length/\k (l.take n++vs++l.drop (n+vs.length))=some r
 |[],0,[],_,h=>⟨Oh _,h⟩
 |_::_,0,[],_,h=>⟨OA _,h⟩
 |_::l,0,v::vs,k,h=>by
  obtain⟨c,b⟩:=sd (l:=l) (n:=0) (vs:=vs) h;refine⟨by simp only[Oi]at*;omega,?_⟩;simp only[Ri,Py,Oi,Pk]at b⊢;exact b
 |a::l,n+1,vs,k,h=>by
  obtain⟨c,b⟩:=sd (l:=l) (n:=n) (vs:=vs) h;refine⟨by simp only[Oi];omega,?_⟩;rw[show n+1+vs.length=(n+vs.length)+1 by omega];exact b
 |[],0,_::_,_,h=>by cases h
 |[],_+1,_,_,h=>by cases h
def Ep:List Nat:=[0,1,2,3,4,5,6,7,8,9,10,11,12,13,14,15,16,17,18,19,20,21,22,23]
theorem xr{i a:Nat}(h:Ep[i]? =some a):a=i:=by
 have:∀j:Fin 24,Ep[j.1]? =some j.1:=by decide
 by_cases b:i<24
 ·have:=this ⟨i,b⟩;simp only at this;rw[this]at h;exact(PF h).symm
 rw[Pi (by simp only[Ep,Oi,Ou];omega)]at h;cases h
def MK(n:Nat)(k:Nat->Option γ):Option γ:=xp Ep n k
theorem JF{n:Nat}{k:Nat->Option γ}{r:γ}(h:MK n k=some r):k n=some r:=by
 obtain⟨a,c,b⟩:=km h;rw[xr c]at b;exact b
def JG:List α->List Nat->(Nat->Option γ)->Option γ
 |[],b::_,k=>k b
 |_::l,_::m,k=>JG l m k
 |_,[],_=>none
theorem xu{k:Nat->Option γ}{r:γ}:∀{l:List α} {m:List Nat},JG l m k=some r->∃b,m[l.length]? =some b/\k b=some r
 |[],b::_,h=>⟨b,Z,h⟩
 |_::l,_::m,h=>by simpa using xu (l:=l) (m:=m) h
 |[],[],h=>by cases h
 |_::_,[],h=>by cases h
def LE(b:Bool)(x:Option γ):Option γ:=cond b x none
theorem ov{b:Bool}{x:Option γ}{r:γ}(h:LE b x=some r):b=true/\x=some r:=by
 cases b with
 |true=>exact⟨Z,h⟩
 |false=>cases h
def LF(sl:List (Nat×Tree))(pl:List (Nat×Nat)):List (Nat×Operand)->List Tree->(List Tree->Option γ)->Option γ
 |[],cs,k=>k cs
 |(i,x)::ps,cs,k=>Gh sl x fun t=>LE t.oneA (xp pl i fun p=>LE (Nat.beq t.cells.length p.2) (Gj cs p.1 t.cells fun cs'=>LF sl pl ps cs' k))
theorem Dj{n:Nat}{sl:List (Nat×Tree)}{bs:List (TypeId×List Tree)}{rs:List (Option Row)}{d:List (Nat×Nat)}{r:γ}{k:List Tree->Option γ}:∀{ps:List (Nat×Operand)} {cs:List Tree},LF sl d ps cs k=some r->∃a,oV (d[·]?) cs (ps.map fun p=>(p.1,St.ev ⟨n,sl,bs,rs⟩ p.2))=some a/\((ps.map fun p=>(p.1,St.ev ⟨n,sl,bs,rs⟩ p.2)).all fun q=>q.2.oneA)=true/\k a=some r
 |[],cs,h=>⟨cs,Z,Z,h⟩
 |(i,x)::ps,cs,h=>by
  obtain⟨f,s⟩:=ov (Gi (n:=n) (bs:=bs) (rs:=rs) h);obtain⟨p,g,j⟩:=km s;obtain⟨o,m⟩:=ov j;obtain⟨t,e⟩:=sd m;obtain⟨a,l,b,c⟩:=Dj (n:=n) (bs:=bs) (rs:=rs) e;refine⟨a,?_,?_,c⟩
  ·simp only[Pt,oV,g];rw[if_neg (by rw[<-QC o];omega)];exact l
  simp only[Pt,PS,f,b,SC]
def pb(n:Nat)(d:Option Nat)(k:Nat->Option γ):Option γ:=
 match d with
 |some d=>LE (Nat.blt d n) (k d)
 |none=>none
theorem gL{n:Nat}{d:Option Nat}{k:Nat->Option γ}{r:γ}(h:pb n d k=some r):∃e,d=some e/\Nat.blt e n=true/\k e=some r:=by
 cases d with
 |some e=>exact⟨e,Z,(ov h).1,(ov h).2⟩
 |none=>cases h
def NQ(L:LayT)(n:Nat)(sl:List (Nat×Tree))(bs:List (TypeId×List Tree))(o:Oper)(k:List (Nat×Tree)->List (TypeId×List Tree)->Option γ):Option γ:=
 match o.guard with
 |some _=>none
 |none=>match o.op with
  | .move x=>Gh sl x fun t=>pb n o.dst fun d=>k ((d,t)::sl) bs
  | .assign x=>Gh sl x fun t=>pb n o.dst fun d=>k ((d,t)::sl) bs
  | .extract x j=>Gh sl x fun t=>match t with
   | .tup ts=>xp ts j fun t=>pb n o.dst fun d=>k ((d,t)::sl) bs
   |_=>none
  | .fieldAddr s x j=>Gh sl x fun t=>match t with
   | .box b off=>uT L.fld s fun fs=>uT fs j fun fo=>MK (off+fo) fun m=>pb n o.dst fun d=>k ((d,.box b m)::sl) bs
   | .elp b off=>uT L.fld s fun fs=>uT fs j fun fo=>pb n o.dst fun d=>k ((d,.elp b (off+fo))::sl) bs
   | .ref cs=>uT L.fld s fun fs=>uT fs j fun fo=>Dh cs fo fun cs'=>pb n o.dst fun d=>k ((d,.ref cs')::sl) bs
   |_=>none
  | .load t x=>Gh sl x fun a=>match a with
   | .box b off=>xp bs b fun p=>match uT L.one t some with
    |some _=>xp p.2 off fun c=>pb n o.dst fun d=>k ((d,c)::sl) bs
    |none=>uT L.agg t fun m=>Dh p.2 off fun cs=>Di cs m fun cs'=>pb n o.dst fun d=>k ((d,.agg cs')::sl) bs
   | .ref cs=>match uT L.one t some with
    |some _=>xp cs 0 fun c=>pb n o.dst fun d=>k ((d,c)::sl) bs
    |none=>uT L.agg t fun m=>Di cs m fun cs'=>pb n o.dst fun d=>k ((d,.agg cs')::sl) bs
   |_=>none
  | .store ty x y=>match o.dst with
   |some _=>none
   |none=>Gh sl x fun a=>match a with
    | .box b off=>xp bs b fun p=>Gh sl y fun t=>LE (t.oneA&&t.cells.all Tree.one&&t.cells.all Tree.noDig) (uT L.siz ty fun m=>LE (Nat.beq t.cells.length m) (Gj p.2 off t.cells fun cs=>LD bs b (p.1,cs) fun bs'=>k sl bs'))
    |_=>none
  | .alloc ty=>uT L.zer ty fun z=>JG bs Ep fun b=>JE bs (ty,z.2) fun bs'=>pb n o.dst fun d=>k ((d,.box b 0)::sl) bs'
  | .box ty x=>Gh sl x fun t=>LE (t.oneA&&t.cells.all Tree.noDig) (JG bs Ep fun b=>JE bs (ty,t.cells) fun bs'=>pb n o.dst fun d=>k ((d,.box b 0)::sl) bs')
  | .build ty ps=>uT L.str ty fun z=>LF sl z.1 ps.toList z.2.2 fun cs=>pb n o.dst fun d=>k ((d,.agg cs)::sl) bs
  |_=>none
def NR(n:Nat)(sl:List (Nat×Tree))(bs:List (TypeId×List Tree))(o:Oper)(sl':List (Nat×Tree))(bs':List (TypeId×List Tree)):Prop:=∀(w0:World) (G0:Bse) (ops:Array Oper) (rest:List Oper) (Q:Exit->St->Prop) (rs:List (Option Row)),AOps w0 G0 ops rest Q ⟨n,sl',bs',rs⟩->AOps w0 G0 ops (o::rest) Q ⟨n,sl,bs,rs⟩
theorem ko{n:Nat}{sl:List (Nat×Tree)}{bs:List (TypeId×List Tree)}{rs rs':List (Option Row)}{x:Operand}:St.ev ⟨n,sl,bs,rs⟩ x=St.ev ⟨n,sl,bs,rs'⟩ x:=by cases x<;>rfl
theorem LG{L:LayT}(H:L.OK){n:Nat}{sl:List (Nat×Tree)}{bs:List (TypeId×List Tree)}{o:Oper}{k:List (Nat×Tree)->List (TypeId×List Tree)->Option γ}{r:γ}(h:NQ L n sl bs o k=some r):∃sl' bs',NR n sl bs o sl' bs'/\k sl' bs'=some r:=by
 have E:∀{x:Operand} {k:Tree->Option γ},Gh sl x k=some r->∀rs,k (St.ev ⟨n,sl,bs,rs⟩ x)=some r:=fun h rs=>Gi h
 unfold NQ at h;cases F:o.guard with
 |some g=>rw[F]at h;cases h
 |none=>
  rw[F]at h;simp only at h;cases w:o.op with
  |move x=>
   rw[w]at h;obtain⟨d,l,v,q⟩:=gL (E h []);refine⟨_,_,?_,q⟩;exact fun w0 G0 ops f Q rs K=>ag F l v (av w ko) K
  |assign x=>
   rw[w]at h;obtain⟨d,l,v,q⟩:=gL (E h []);refine⟨_,_,?_,q⟩;exact fun w0 G0 ops f Q rs K=>ag F l v (bE w ko) K
  |extract x j=>
   rw[w]at h;have i:=E h [];cases A:St.ev ⟨n,sl,bs,[]⟩ x with
   |tup ts=>
    rw[A]at i;obtain⟨t,D,C⟩:=km i;obtain⟨d,l,v,q⟩:=gL C;refine⟨_,_,?_,q⟩;exact fun w0 G0 ops f Q rs K=>ag F l v (ef w (ko.trans A) D) K
   |_=>rw[A]at i;cases i
  |fieldAddr s x j=>
   rw[w]at h;have i:=E h [];cases A:St.ev ⟨n,sl,bs,[]⟩ x with
   |box b off=>
    rw[A]at i;obtain⟨V,G,D⟩:=iM i;obtain⟨fo,P,C⟩:=iM D;obtain⟨d,l,v,q⟩:=gL (JF C);refine⟨_,_,?_,q⟩;exact fun w0 G0 ops f Q rs K=>ag F l v (aq w (ko.trans A) (H.fld _ _ G _ _ P) Z) K
   |elp b off=>
    rw[A]at i;obtain⟨V,G,D⟩:=iM i;obtain⟨fo,P,C⟩:=iM D;obtain⟨d,l,v,q⟩:=gL C;refine⟨_,_,?_,q⟩;exact fun w0 G0 ops f Q rs K=>ag F l v (xk w (ko.trans A) (H.fld _ _ G _ _ P) Z) K
   |ref cs=>
    rw[A]at i;obtain⟨V,G,D⟩:=iM i;obtain⟨fo,P,C⟩:=iM D;obtain⟨_,B⟩:=o9 C;obtain⟨d,l,v,q⟩:=gL B;refine⟨_,_,?_,q⟩;exact fun w0 G0 ops f Q rs K=>ag F l v (bu w (ko.trans A) (H.fld _ _ G _ _ P) Z) K
   |_=>rw[A]at i;cases i
  |load t x=>
   rw[w]at h;have i:=E h [];have O:∀{u},uT L.one t some=some u->ja Tryz.prog t=true:=fun I=>by
    obtain⟨a,m,_⟩:=iM I;exact H.one _ _ m
   cases A:St.ev ⟨n,sl,bs,[]⟩ x with
   |box b off=>
    rw[A]at i;obtain⟨p,D,C⟩:=km i;cases I:uT L.one t some with
    |some u=>
     rw[I]at C;obtain⟨c,B,J⟩:=km C;obtain⟨d,l,v,q⟩:=gL J;refine⟨_,_,?_,q⟩;exact fun w0 G0 ops f Q rs K=>ag F l v (ay w (ko.trans A) D (O I) B) K
    |none=>
     rw[I]at C;obtain⟨m,G,B⟩:=iM C;obtain⟨J,R⟩:=o9 B;obtain⟨N,M⟩:=pa R;obtain⟨d,l,v,q⟩:=gL M;rw[OP]at N;refine⟨_,_,?_,q⟩;exact fun w0 G0 ops f Q rs K=>ag F l v (aR w (ko.trans A) D (H.agg _ _ G) (by rw[S6];show off+m<=p.2.length;omega) Z) K
   |ref cs=>
    rw[A]at i;cases I:uT L.one t some with
    |some u=>
     simp only[I]at i;obtain⟨c,B,J⟩:=km i;obtain⟨d,l,v,q⟩:=gL J;refine⟨_,_,?_,q⟩;exact fun w0 G0 ops f Q rs K=>ag F l v (be w (ko.trans A) (O I) B) K
    |none=>
     simp only[I]at i;obtain⟨m,G,B⟩:=iM i;obtain⟨N,M⟩:=pa B;obtain⟨d,l,v,q⟩:=gL M;refine⟨_,_,?_,q⟩;exact fun w0 G0 ops f Q rs K=>ag F l v (cT w (ko.trans A) (H.agg _ _ G) (by rw[S6];exact N) Z) K
   |_=>rw[A]at i;cases i
  |store ty x y=>
   rw[w]at h;cases l:o.dst with
   |some d=>rw[l]at h;cases h
   |none=>
    rw[l]at h;have i:=E h [];cases A:St.ev ⟨n,sl,bs,[]⟩ x with
    |box b off=>
     rw[A]at i;obtain⟨p,D,C⟩:=km i;obtain⟨B,J⟩:=ov (E C []);obtain⟨m,G,R⟩:=iM J;obtain⟨N,M⟩:=ov R;obtain⟨W,T⟩:=sd M;have q:=Dg T;simp only[Oo]at B;have e:=QC N;refine⟨_,_,?_,q⟩;exact fun w0 G0 ops f Q rs K=>yx w F l (ko.trans A) D ko B.1.1 B.1.2 B.2 (H.siz _ _ G) e (by rw[S6];show off+m<=p.2.length;rw[<-e];exact W) Z K
    |_=>rw[A]at i;cases i
  |alloc ty=>
   rw[w]at h;obtain⟨z,G,D⟩:=iM h;obtain⟨b,C,B⟩:=xu D;obtain⟨d,l,v,q⟩:=gL (xq B);obtain⟨S,U,X⟩:=H.zer _ _ G;refine⟨_,_,?_,q⟩;exact fun w0 G0 ops f Q rs K=>yw w F l v S U X (xr C).symm Z K
  |box ty x=>
   rw[w]at h;obtain⟨i,D⟩:=ov (E h []);obtain⟨b,C,B⟩:=xu D;obtain⟨d,l,v,q⟩:=gL (xq B);simp only[Oo]at i;refine⟨_,_,?_,q⟩;exact fun w0 G0 ops f Q rs K=>Eo w F l v ko i.1 Z i.2 (xr C).symm Z K
  |build ty ps=>
   rw[w]at h;obtain⟨z,G,D⟩:=iM h;obtain⟨cs,C,B,J⟩:=Dj (n:=n) (bs:=bs) (rs:=[]) D;obtain⟨d,l,v,q⟩:=gL J;obtain⟨S,U⟩:=H.str _ _ G;refine⟨_,_,?_,q⟩;exact fun w0 G0 ops f Q rs K=>ag F l v (gi w S (QK fun p _=>congrArg (Prod.mk p.1) ko) B (by rw[U];exact C)) K
  |_=>rw[w]at h;cases h
end
def JH(L:LayT)(n:Nat):Nat->List Oper->List (Nat×Tree)->List (TypeId×List Tree)->Option (List Oper×List (Nat×Tree)×List (TypeId×List Tree))
 |0,os,sl,bs=>some (os,sl,bs)
 |k+1,o::os,sl,bs=>NQ L n sl bs o fun sl' bs'=>JH L n k os sl' bs'
 |_+1,[],_,_=>none
theorem Dk{L:LayT}(c:L.OK){w0:World}{G0:Bse}{ops:Array Oper}{Q:Exit->St->Prop}{n:Nat}{rs:List (Option Row)}:∀(k:Nat) {b a:List Oper} {sl sl':List (Nat×Tree)} {bs bs':List (TypeId×List Tree)},JH L n k b sl bs=some (a,sl',bs')->AOps w0 G0 ops a Q ⟨n,sl',bs',rs⟩->AOps w0 G0 ops b Q ⟨n,sl,bs,rs⟩
 |0,_,_,_,_,_,_,h,K=>by cases h;exact K
 |k+1,[],_,_,_,_,_,h,_=>by cases h
 |k+1,o::b,_,_,_,_,_,h,K=>by
  obtain⟨d,f,e,g⟩:=LG c h;exact e _ _ _ _ _ _ (Dk c k g K)
def LH:LayT where
 agg:=[(26,3),(30,4),(58,3),(65,3),(67,4),(77,3)]
 one:=[(2,true),(3,true),(4,true),(5,true),(9,true),(22,true),(23,true),(24,true),(28,true),(31,true),(50,true),(61,true),(63,true)]
 fld:=[(26,[(0,0),(1,1),(2,2)]),(30,[(0,0),(1,3)]),(58,[(0,0),(1,1),(2,2)]),(65,[(0,0),(1,1),(2,2)]),(67,[(0,0),(1,1)]),(77,[(0,0),(1,1),(2,2)]),(184,[(0,0),(1,1)])]
 siz:=[(4,1),(5,1),(9,1),(22,1),(23,1),(24,1),(26,3),(28,1),(30,4),(31,1),(58,3),(61,1),(65,3),(67,4),(77,3)]
 str:=[(26,[(0,1),(1,1),(2,1)],[.string (⟨#[]⟩),.bool false,.slice none 0 0],[.sc (.string (⟨#[]⟩)),.sc (.bool false),.sl []]),(30,[(0,3),(3,1)],[.string (⟨#[]⟩),.bool false,.slice none 0 0,.slice none 0 0],[.sc (.string (⟨#[]⟩)),.sc (.bool false),.sl [],.sl []]),(58,[(0,1),(1,1),(2,1)],[.string (⟨#[]⟩),.int .i64 0,.bool false],[.sc (.string (⟨#[]⟩)),.sc (.int .i64 0),.sc (.bool false)]),(65,[(0,1),(1,1),(2,1)],[.bool false,.slice none 0 0,.slice none 0 0],[.sc (.bool false),.sl [],.sl []]),(67,[(0,1),(1,3)],[.slice none 0 0,.bool false,.slice none 0 0,.slice none 0 0],[.sl [],.sc (.bool false),.sl [],.sl []]),(184,[(0,1),(1,1)],[.slice none 0 0,.int .i64 0],[.sl [],.sc (.int .i64 0)])]
 zer:=[(2,[.int .i64 0],[.sc (.int .i64 0)]),(3,[.int .i64 0],[.sc (.int .i64 0)]),(5,[.int .u8 0],[.sc (.int .u8 0)]),(9,[.string (⟨#[]⟩)],[.sc (.string (⟨#[]⟩))]),(23,[.slice none 0 0],[.sl []]),(26,[.string (⟨#[]⟩),.bool false,.slice none 0 0],[.sc (.string (⟨#[]⟩)),.sc (.bool false),.sl []]),(30,[.string (⟨#[]⟩),.bool false,.slice none 0 0,.slice none 0 0],[.sc (.string (⟨#[]⟩)),.sc (.bool false),.sl [],.sl []]),(58,[.string (⟨#[]⟩),.int .i64 0,.bool false],[.sc (.string (⟨#[]⟩)),.sc (.int .i64 0),.sc (.bool false)]),(61,[.slice none 0 0],[.sl []]),(65,[.bool false,.slice none 0 0,.slice none 0 0],[.sc (.bool false),.sl [],.sl []]),(67,[.slice none 0 0,.bool false,.slice none 0 0,.slice none 0 0],[.sl [],.sc (.bool false),.sl [],.sl []]),(77,[.int .i64 0,.int .i64 0,.string (⟨#[]⟩)],[.sc (.int .i64 0),.sc (.int .i64 0),.sc (.string (⟨#[]⟩))])]
theorem JI:LH.OK where
 agg:=cQ (by kernel_rfl)<|cQ (by kernel_rfl)<|cQ (by kernel_rfl)<|cQ (by kernel_rfl)<|cQ (by kernel_rfl)<|cQ (by kernel_rfl)<|qI
 one:=cQ (by kernel_rfl)<|cQ (by kernel_rfl)<|cQ (by kernel_rfl)<|cQ (by kernel_rfl)<|cQ (by kernel_rfl)<|cQ (by kernel_rfl)<|cQ (by kernel_rfl)<|cQ (by kernel_rfl)<|cQ (by kernel_rfl)<|cQ (by kernel_rfl)<|cQ (by kernel_rfl)<|cQ (by kernel_rfl)<|cQ (by kernel_rfl)<|qI
 fld:=cQ (cQ (by kernel_rfl)<|cQ (by kernel_rfl)<|cQ (by kernel_rfl)<|qI)<|cQ (cQ (by kernel_rfl)<|cQ (by kernel_rfl)<|qI)<|cQ (cQ (by kernel_rfl)<|cQ (by kernel_rfl)<|cQ (by kernel_rfl)<|qI)<|cQ (cQ (by kernel_rfl)<|cQ (by kernel_rfl)<|cQ (by kernel_rfl)<|qI)<|cQ (cQ (by kernel_rfl)<|cQ (by kernel_rfl)<|qI)<|cQ (cQ (by kernel_rfl)<|cQ (by kernel_rfl)<|cQ (by kernel_rfl)<|qI)<|cQ (cQ (by kernel_rfl)<|cQ (by kernel_rfl)<|qI)<|qI
 siz:=cQ (by kernel_rfl)<|cQ (by kernel_rfl)<|cQ (by kernel_rfl)<|cQ (by kernel_rfl)<|cQ (by kernel_rfl)<|cQ (by kernel_rfl)<|cQ (by kernel_rfl)<|cQ (by kernel_rfl)<|cQ (by kernel_rfl)<|cQ (by kernel_rfl)<|cQ (by kernel_rfl)<|cQ (by kernel_rfl)<|cQ (by kernel_rfl)<|cQ (by kernel_rfl)<|cQ (by kernel_rfl)<|qI
 str:=cQ (⟨by kernel_rfl,Z⟩)<|cQ (⟨by kernel_rfl,Z⟩)<|cQ (⟨by kernel_rfl,Z⟩)<|cQ (⟨by kernel_rfl,Z⟩)<|cQ (⟨by kernel_rfl,Z⟩)<|cQ (⟨by kernel_rfl,Z⟩)<|qI
 zer:=cQ (⟨by kernel_rfl,by kernel_rfl,Z⟩)<|cQ (⟨by kernel_rfl,by kernel_rfl,Z⟩)<|cQ (⟨by kernel_rfl,by kernel_rfl,Z⟩)<|cQ (⟨by kernel_rfl,by kernel_rfl,Z⟩)<|cQ (⟨by kernel_rfl,by kernel_rfl,Z⟩)<|cQ (⟨by kernel_rfl,by kernel_rfl,Z⟩)<|cQ (⟨by kernel_rfl,by kernel_rfl,Z⟩)<|cQ (⟨by kernel_rfl,by kernel_rfl,Z⟩)<|cQ (⟨by kernel_rfl,by kernel_rfl,Z⟩)<|cQ (⟨by kernel_rfl,by kernel_rfl,Z⟩)<|cQ (⟨by kernel_rfl,by kernel_rfl,Z⟩)<|cQ (⟨by kernel_rfl,by kernel_rfl,Z⟩)<|qI
theorem aa{w0:World}{G0:Bse}{ops:Array Oper}{Q:Exit->St->Prop}{n:Nat}{rs:List (Option Row)}(k:Nat){b a:List Oper}{sl sl':List (Nat×Tree)}{bs bs':List (TypeId×List Tree)}(h:JH LH n k b sl bs=some (a,sl',bs'))(K:AOps w0 G0 ops a Q ⟨n,sl',bs',rs⟩):AOps w0 G0 ops b Q ⟨n,sl,bs,rs⟩:=Dk JI k h K
theorem aj{w0:World}{G0:Bse}{id:Nat}{Q:Exit->St->Prop}{n:Nat}{rs:List (Option Row)}(k:Nat){a:List Oper}{sl sl':List (Nat×Tree)}{bs bs':List (TypeId×List Tree)}(h:JH LH n k a sl bs=some ([],sl',bs'))(K:Q .normal ⟨n,sl',bs',rs⟩):AWP w0 G0 (.region id a.toArray false) Q ⟨n,sl,bs,rs⟩:=ae (aa k h (af K))
abbrev nI(i:Nat):Tree:=.sc (.int .i64 ((i:Nat):Int))
abbrev bT(b:Bool):Tree:=.sc (.bool b)
abbrev iT(i:Int):Tree:=.sc (.int .i64 i)
abbrev sT(s:ByteArray):Tree:=.sc (.string s)
theorem aD{w0:World}{G0:Bse}{Q:Exit->St->Prop}{S:St}{c:Operand}{x y:Code}{P:Prop}[Decidable P](d:S.ev c=.sc (.bool (decide P)))(a:P->AWP w0 G0 x Q S)(b:¬P->AWP w0 G0 y Q S):AWP w0 G0 (.cond c x y) Q S:=aH d (fun h=>a (of_decide_eq_true h)) fun h=>b (of_decide_eq_false h)
theorem bp{a:Int}{m:Nat}(h:a=m/\m<9223372036854775808):(Tree.sc (.int .i64 (IntKind.i64.wrap a)))=nI m:=Df h.1 h.2
theorem Keeps.rf{S:St}{m k:Nat}:∀{l:List (Nat×Tree)},l.map (fun p=>S.get p.1)=l.map (fun p=>p.2)->(l.all fun p=>within m k p.2)=true->Keeps S m k l
 |[],_,_=>.nil
 |(i,t)::l,h,hw=>by
  rw[Pt,Pt]at h;injection h with b a
  rw[PS,Oo]at hw;exact .cons b hw.1 (Keeps.rf a hw.2)
theorem Le.rf{S S':St}{m k:Nat}(a:S'.n=S.n:=by rfl)(f:S'.bs=S.bs.take m:=by rfl)(b:S'.rs=S.rs.take k:=by rfl)(c:S'.sl.map (fun p=>S.get p.1)=S'.sl.map (fun p=>p.2):=by rfl)(e:(S'.sl.all fun p=>within m k p.2)=true:=by rfl)(d:(S'.bs.all fun p=>p.2.all (within0 m k))=true:=by rfl):Le S S' m k:=⟨a,f,b,Keeps.rf c e,d⟩
def mZ(k:Nat)(es:List Tree):Tree->Tree
 | .own j=>if j=k then .sl es else .own j
 | .elp j off=>if j=k then .any else .elp j off
 | .agg _| .tup _=>.any
 |t=>t
def Er(k:Nat)(es:List Tree):Tree->Tree
 | .agg cs=>.agg (cs.map (mZ k es))
 |t=>mZ k es t
section
variable {w0 w:World} {G0:Bse} {bs:List (TypeId×List Tree)} {rs:List (Option Row)} {bx:List Nat} {rv:List Value} {k:Nat} {R:Row} {v:Value}
theorem iZ(j:Nat)(X:Row)(h:(rs.set k none)[j]? =some (some X)):j≠k/\rs[j]? =some (some X):=by
 by_cases a:j=k
 ·subst a;have b:=(Ok.1 h).1;rw[O4]at b;rw[PA b]at h;cases h
 rw[Pp (fun e=>a e.symm)]at h;exact⟨a,h⟩
theorem ow{b:Nat}(h:b∈cl bx rv (rs.set k none)):b∈cl bx rv rs:=by
 rcases aY.1 h with a|⟨j,u,X,a,c,d⟩
 ·exact aY.2 (.inl a)
 exact aY.2 (.inr ⟨j,u,X,a,(iZ j X c).2,d⟩)
theorem m0:∀b,b<w.heap.size->¬GG G0 bx rv rs b->w.heap[b]? =w.heap[b]? /\¬GG G0 bx rv (rs.set k none) b:=fun _ _ a=>⟨Z,fun h=>a (h.imp id ow)⟩
theorem xv(j:Nat)(u:Value)(a:j≠k)(h:fN rv rs j=some u):fN rv (rs.set k none) j=some u:=by
 unfold fN at h⊢;rw[Pp (fun e=>a e.symm)];exact h
theorem Dl(c:Mem w0 G0 bs rs bx rv w)(b:rs[k]? =some (some R))(h:fN rv rs k=some v):PT w (GG G0 bx rv (rs.set k none)) [v] [.sl R.es]:=by
 have d:rv[k]? =some v:=by simpa[fN,b]using h
 obtain⟨xs,o,s,B,_⟩:=c.row k v R d b;have i:=s.mono (G':=GG G0 bx rv (rs.set k none)) (Oh _) m0;rcases o.2 with⟨rfl,e⟩|⟨g,m,cur,rfl,A,q,e,l,C,z⟩
 ·have:R.es=[]:=OB e;rw[this];exact bQ _ _
 refine .sl g 0 m _ xs R.es (O3.1 q).1 (fun a=>?_) (fun j u r=>?_) Z e (by unfold maxLen at l;omega) i .nil
 ·rcases a with a|a
  ·have x:=c.g0 g a;rcases c.ge g (aY.2 (.inr ⟨k,_,R,d,b,rfl⟩))with n|n
   ·omega
   exact x.2.2 n
  rcases aY.1 a with a|⟨j,u,X,p,f,t⟩
  ·exact c.nodup.br k _ R g d b Z a
  obtain⟨y,f⟩:=iZ j X f;exact c.nodup.rr j k u _ X R g y p f d b t Z
 have:=o.cells (g:=g) Z j u r;rw[Addr.add_mid]at this;exact this
theorem Dm(a:Mem w0 G0 bs rs bx rv w)(d:rs[k]? =some (some R)){u:Value}{t:Tree}(h:FT (en w G0 bx rv rs) [u] [t]):FT (en w G0 bx rv (rs.set k none)) [u] [mZ k R.es t]:=by
 cases h with
 |pure h _=>
  cases t<;>first
   |exact .pure (h.mono (Oh _) m0) .nil
   |(simp only[mZ];exact .any _ .nil)
   |(cases h)
 |any=>exact .any _ .nil
 |box b off g h _=>exact .box b off g h .nil
 |own j n c A hv _=>
  simp only[mZ];split
  ·next e=>subst e;exact .pure (Dl a d hv) .nil
  next e=>exact .own j n c A (xv j _ e hv) .nil
 |elp j off g n c hv _=>
  simp only[mZ];split
  ·exact .any _ .nil
  next e=>exact .elp j off g n c (xv j _ e hv) .nil
 |agg=>exact .any _ .nil
 |tup=>exact .any _ .nil
theorem sO(a:Mem w0 G0 bs rs bx rv w)(b:rs[k]? =some (some R)):∀{us:List Value} {ts:List Tree},FT (en w G0 bx rv rs) us ts->FT (en w G0 bx rv (rs.set k none)) us (ts.map (mZ k R.es))
 |[],[],_=>.nil
 |[],_::_,h=>by cases h
 |_::_,[],h=>by cases h
 |u::us,t::ts,h=>FT.cons (Dm a b h.head) (sO a b h.tail)
theorem LI(a:Mem w0 G0 bs rs bx rv w)(b:rs[k]? =some (some R)){u:Value}{t:Tree}(h:FT (en w G0 bx rv rs) [u] [t]):FT (en w G0 bx rv (rs.set k none)) [u] [Er k R.es t]:=by
 cases t with
 |agg cs=>
  obtain⟨xs,rfl,c⟩:=h.isAgg;exact .agg xs _ (sO a b c) .nil
 |_=>exact Dm a b h
end
section
variable {w0:World} {G0:Bse} {ops:Array Oper} {rest:List Oper} {Q:Exit->St->Prop} {o:Oper} {n:Nat} {sl:List (Nat×Tree)} {bs:List (TypeId×List Tree)} {rs:List (Option Row)} {S:St}
theorem Sim.rel{a:Act}{w:World}{k:Nat}{R:Row}(h:Sim w0 G0 ⟨n,sl,bs,rs⟩ a w)(r:rs[k]? =some (some R)):Sim w0 G0 ⟨n,sl.map fun p=>(p.1,Er k R.es p.2),bs.map fun p=>(p.1,p.2.map (mZ k R.es)),rs.set k none⟩ a w:=by
 obtain⟨bx,rv,c,z,q,o⟩:=h;refine⟨bx,rv,⟨c.below,c.env0,c.g0,by simp[c.nb],by simp[c.nr],fun i g s=>?_,fun j u X d e=>?_,⟨c.nodup.bb,fun j u X b d e=>c.nodup.br j u X b d (iZ j X e).2,fun i j u v X Y b m d e f l=>c.nodup.rr i j u v X Y b m d (iZ i X e).2 f (iZ j Y l).2⟩,fun b t=>c.ge b (ow t),c.pin⟩,z,q,fun i=>?_⟩
 ·obtain⟨ty,cs,us,d,e,f,l⟩:=c.box i g s;exact⟨ty,cs.map (mZ k R.es),us,by rw[O2,d];rfl,e,sO c r f,l⟩
 ·obtain⟨xs,f,l,y,x⟩:=c.row j u X d (iZ j X e).2;exact⟨xs,f,l.mono (Oh _) m0,y,x⟩
 show FT _ _ [look (sl.map fun p=>(p.1,Er k R.es p.2)) i]
 rw[jO (Er k R.es) Z];exact LI c r (o i)
theorem dI{c:Code}(k:Nat){R:Row}{sl':List (Nat×Tree)}{bs':List (TypeId×List Tree)}{rs':List (Option Row)}(g:rs[k]? =some (some R))(d:sl.map (fun p=>(p.1,Er k R.es p.2))=sl')(b:bs.map (fun p=>(p.1,p.2.map (mZ k R.es)))=bs')(e:rs.set k none=rs')(h:AWP w0 G0 c Q ⟨n,sl',bs',rs'⟩):AWP w0 G0 c Q ⟨n,sl,bs,rs⟩:=by
 subst d b e;exact fun a w f=>h a w (f.rel g)
theorem Gk(k:Nat){R:Row}{sl':List (Nat×Tree)}{bs':List (TypeId×List Tree)}{rs':List (Option Row)}(f:rs[k]? =some (some R))(c:sl.map (fun p=>(p.1,Er k R.es p.2))=sl')(b:bs.map (fun p=>(p.1,p.2.map (mZ k R.es)))=bs')(d:rs.set k none=rs')(h:AOps w0 G0 ops rest Q ⟨n,sl',bs',rs'⟩):AOps w0 G0 ops rest Q ⟨n,sl,bs,rs⟩:=by
 subst c b d;exact fun a w e=>h a w (e.rel f)
theorem dt{rs:List (Option Row)}{rv:List Value}{v:Value}{R:Row}(d:rv.length=rs.length)(j:Nat)(u:Value)(X:Row)(b:(rv++[v])[j]? =some u)(a:(rs++[some R])[j]? =some (some X)):(j=rs.length/\u=v/\X=R)\/(j<rs.length/\rv[j]? =some u/\rs[j]? =some (some X)):=by
 by_cases c:j<rs.length
 ·rw[OJ (by omega)]at b;rw[OJ c]at a;exact .inr ⟨c,b,a⟩
 have:=(Ok.1 a).1;simp only[Oj,PO]at this;obtain rfl:j=rs.length:=by omega
 rw[ON (by omega),show rs.length-rv.length=0 by omega]at b;rw[ON (Oh _),Pb]at a;simp only[Pa,OI]at b a;exact .inl ⟨Z,b.symm,a.symm⟩
theorem fY{d k e sz:Nat}(B:o.op=.move (.const (.slice none 0 0))\/o.op=.assign (.const (.slice none 0 0)))(C:o.guard=none)(J:o.dst=some d)(R:Nat.blt d n=true)(T:rs.length=k){rs':List (Option Row)}(H:rs++[some ⟨e,sz,[],false⟩]=rs')(K:AOps w0 G0 ops rest Q ⟨n,(d,.own k)::sl,bs,rs'⟩):AOps w0 G0 ops (o::rest) Q ⟨n,sl,bs,rs⟩:=by
 subst H T;refine dF C (S':=⟨n,(d,.own rs.length)::sl,bs,rs++[some ⟨e,sz,[],false⟩]⟩) ?_ K;rintro a w ⟨bx,rv,f,y,G,D⟩;have c:rv.length=rs.length:=f.nr;have t:∀b,b∈cl bx (rv++[.slice none 0 0]) (rs++[some ⟨e,sz,[],false⟩])->b∈cl bx rv rs:=fun b F=>by
  rcases aY.1 F with m|⟨j,u,X,m,q,s⟩
  ·exact aY.2 (.inl m)
  rcases dt c j u X m q with⟨_,rfl,_⟩|⟨_,p,x⟩
  ·simp[Value.ownBlock]at s
  exact aY.2 (.inr ⟨j,u,X,p,x,s⟩)
 have l:∀b,b<w.heap.size->¬GG G0 bx rv rs b->w.heap[b]? =w.heap[b]? /\¬GG G0 bx (rv++[.slice none 0 0]) (rs++[some ⟨e,sz,[],false⟩]) b:=fun b _ hG=>⟨Z,fun h=>hG (h.imp id (t b))⟩
 have I:∀j u,fN rv rs j=some u->fN (rv++[.slice none 0 0]) (rs++[some ⟨e,sz,[],false⟩]) j=some u:=fun j u h=>by
  unfold fN at h⊢;cases L:rs[j]? with
  |none=>simp[L]at h
  |some r=>
   have M:=(Ok.1 L).1;rw[OJ M,OJ (by omega)];exact h
 have z:∀{us ts},FT (en w G0 bx rv rs) us ts->FT (en w G0 bx (rv++[.slice none 0 0]) (rs++[some ⟨e,sz,[],false⟩])) us ts:=fun h=>h.mono (Oh _) l (fun _ _ h=>h) I
 refine aB (v:=.slice none 0 0) (W':=w) ?_ ⟨bx,rv++[.slice none 0 0],⟨f.below,f.env0,f.g0,f.nb,by simp[c],fun i g N=>?_,fun j u X m q=>?_,⟨f.nodup.bb,fun j u X b m q s=>?_,fun i j u v X Y b E m q s p x A=>?_⟩,fun b F=>f.ge b (t b F),f.pin⟩,by rw[dW];exact y,by rw[cU,G],?_⟩
 ·rcases B with B|B<;>simp[execOp,B,dm]
 ·obtain⟨ty,cs,us,m,q,s,p⟩:=f.box i g N;exact⟨ty,cs,us,m,q,z s,p⟩
 ·rcases dt c j u X m q with⟨_,rfl,rfl⟩|⟨_,p,x⟩
  ·exact⟨[],World.ownsRow_nil _ _ _ _,.nil,⟨(fun _ h=>by cases h),fun h=>by cases h⟩,(fun g C=>by cases C)⟩
  obtain⟨xs,A,W,V,P⟩:=f.row j u X p x;exact⟨xs,A,W.mono (Oh _) l,V,P⟩
 ·rcases dt c j u X m q with⟨_,rfl,_⟩|⟨_,p,x⟩
  ·simp[Value.ownBlock]at s
  exact f.nodup.br j u X b p x s
 ·rcases dt c i u X m q with⟨_,rfl,_⟩|⟨_,S,U⟩
  ·simp[Value.ownBlock]at x
  rcases dt c j v Y s p with⟨_,rfl,_⟩|⟨_,O,b2⟩
  ·simp[Value.ownBlock]at A
  exact f.nodup.rr i j u v X Y b E S U O b2 x A
 intro i;rw[gf a o.dst _ n y (by rw[J];simpa[cC,Pn]using R),J];show FT _ _ [look ((d,.own rs.length)::sl) i]
 rw[dD];simp only[OI];split
 ·refine .own _ 0 0 none ?_ .nil;show fN (rv++[.slice none 0 0]) (rs++[some ⟨e,sz,[],false⟩]) rs.length=_
  unfold fN;rw[ON (Oh _),Pb,ON (by omega),show rs.length-rv.length=0 by omega];rfl
 exact z (D i)
end
theorem Gl{P:Program}{o:Oper}{a:Act}{w:World}{K g:Act->World->Prop}{Q i:Exit->Act->World->Prop}(h:∀a w,K a w->g a w)(f:∀e a w,Q e a w->i e a w)(b:o.wp P a w K Q):o.wp P a w g i:=by
 unfold Oper.wp at*;generalize (execOp a.eval o).run P w=r at*;cases r with
 |ok n w'=>
  cases n<;>simp only[Oper.upon]at b⊢<;>
   first
    |exact h _ _ b
    |exact Calls.mono b (fun e k d=>by
      cases e with
      |returned v=>exact h _ _ d
      |panicked c=>exact f _ _ _ d
      |outgrown=>obtain⟨a,w,j⟩:=d;exact⟨a,w,f _ _ _ j⟩)
    |exact Rows.mono b (fun _ _ d=>h _ _ d)
 |halt x w'=>cases x<;>simp only[Oper.upon]at b⊢<;>first|exact f _ _ _ b|exact b
theorem Bn{P:Program}{ops:Array Oper}{o:Oper}{a:Act}{w:World}{Q d:Exit->Act->World->Prop}(c:∀e a w,Q e a w->d e a w)(b:wpList P ops Q [o] a w):wpList P ops d [o] a w:=by
 simp only[wpList]at b⊢;split
 ·next hw=>
  rw[if_pos hw]at b;rcases b with b|⟨g,f,w',h⟩
  ·exact .inl (Gl (fun a w=>c .normal a w) c b)
  exact .inr ⟨g,f,w',c _ _ _ h⟩
 next hw=>
 rw[if_neg hw]at b;exact c _ _ _ b
def Jp(L:Nat->Bool)(i:Nat):Nat->Bool:=fun j=>cond (Nat.beq j i) true (L j)
structure Kn (ops:Array Oper) (L:Nat->Bool) (i:Nat):Prop where
 self:L i=false
 up:∀n j,(!Nat.beq j i&&reach ops n i j)=true->L j=true
 down:∀n j,reach ops n j i=true->L j=false
def KeepsP(S:St):List (Nat×Tree)->Prop
 |[]=>True
 |(i,t)::l=>S.get i=t/\KeepsP S l
theorem KeepsP.get{S:St}:∀{l:List (Nat×Tree)},KeepsP S l->∀i,look l i=.any\/look l i=S.get i
 |[],_,_=>.inl Z
 |(j,t)::l,h,i=>by
  rw[dD];split
  ·next e=>subst e;exact .inr h.1.symm
  exact h.2.get i
structure LeP (S S':St):Prop where
 n:S'.n=S.n
 bs:S'.bs=S.bs
 rs:S'.rs=S.rs
 sl:KeepsP S S'.sl
section
variable {w0:World} {G0:Bse} {Q:Exit->St->Prop} {S:St}
theorem Sim.leP{S':St}{a:Act}{w:World}(h:Sim w0 G0 S a w)(b:LeP S S'):Sim w0 G0 S' a w:=by
 obtain⟨bx,rv,f,g,e,c⟩:=h;refine⟨bx,rv,by rw[b.bs,b.rs];exact f,by rw[b.n];exact g,e,fun i=>?_⟩;rw[b.rs];show FT _ _ [look S'.sl i]
 rcases b.sl.get i with d|d
 ·rw[d];exact .any _ .nil
 rw[d];exact c i
theorem Sim.drew{a:Act}{w:World}(h:Sim w0 G0 S a w):Sim w0 G0 S a w.drew:=by
 obtain⟨bx,rv,d,e,b,c⟩:=h;exact⟨bx,rv,d.later (Below.refl _ _).drew,e,b,fun i=>(c i).later (Below.refl _ _).drew⟩
inductive StepsD (w0:World) (G0:Bse) (ops:Array Oper) (SS:(Nat->Bool)->St->Prop):Nat->List Oper->Prop
 |nil {i:Nat}:StepsD w0 G0 ops SS i []
 |op {i:Nat} {o:Oper} {os:List Oper} (h:∀L,Kn ops L i->∀S,SS L S->AOps w0 G0 ops [o] (fun e S'=>e=.normal/\∃Sx,SS (Jp L i) Sx/\LeP S' Sx) S) (hs:StepsD w0 G0 ops SS (i+1) os):StepsD w0 G0 ops SS i (o::os)
end
theorem Gm(W:World)(G:Nat->Prop):∀a:List Value,PT W G a (a.map Tree.sc)
 |[]=>.nil
 |z::a=>.sc z (Gm W G a)
theorem qJ{S:St}{o:Oper}{t:TypeId}{parts:Array (Nat×Operand)}{r:List (Nat×Nat)}{s:List Value}{qs:List (Nat×Tree)}{rs:List Tree}(n:o.op=.build t parts)(b:sM Tryz.prog t=some (r,s))(y:parts.toList.map (fun p=>(p.1,S.ev p.2))=qs)(c:(qs.all fun q=>q.2.oneA)=true)(C:oV (r[·]?) (s.map Tree.sc) qs=some rs):OpOK o S (.agg rs):=by
 intro w0 G0 bx rv w T G A;have u:=oY (S:=S) A parts.toList (fun p D=>by rw[n];simp only[Op.operands,PX];exact⟨p,D,Z⟩);unfold sM at b;split at b
 ·next fs i hu hi=>
  cases k:i.zero with
  |none=>simp[k]at b
  |some z=>
   simp only[k,PC,Ps,Qy]at b;obtain⟨a,e,rfl,rfl⟩:=b;have l:=ou (w:=w) e;rw[y]at u;obtain⟨us,F,B⟩:=r8 (E:=en w G0 bx rv S.rs) (place:=(a[·]?)) (ps:=parts.toList.map fun p=>(p.1,dm T p.2)) (qs:=qs) (cells:=z.cells) (ts:=z.cells.toList.map Tree.sc) (by rw[<-y];simp) u c (.of (Gm _ _ _)) C;refine aB (v:=.agg us) (W':=w) ?_ ⟨?_,Below.refl _ _⟩
   ·have g:(fs.mapM (m:=Sem) fun f=>do pure (f.offset,<-sizeOf f.type)).run Tryz.prog w=.ok a.toArray w:=by
     rw[P2,Sem.run_map,l];rfl
    have h:Instr.fill (fun x=>a.toArray[x]?) z.cells (parts.map fun p=>(p.1,dm T p.2)).toList=some us:=by
     rw[<-F];simp
    have j:(zeroValue t).run Tryz.prog w=.ok z w:=by simp[zeroValue,typeInfo,hi,k]
    have d:(Instr.build t (parts.map fun p=>(p.1,dm T p.2))).run Tryz.prog w=.ok (.agg us) w:=by
     unfold Instr.build;rw[Sem.run_bind,j,Result.andThen_ok,Sem.run_bind,run_underlying hu,Result.andThen_ok];simp only;rw[Sem.run_bind,g,Result.andThen_ok];simp only[h];rfl
    simp[execOp,n,d]
   have:FT (en w G0 bx rv S.rs) [.agg us.toList.toArray] [.agg rs]:=.agg _ _ B .nil;simpa using this
 cases b
section
variable {w0 w:World} {G0:Bse} {bs:List (TypeId×List Tree)} {rs:List (Option Row)} {bx:List Nat} {rv:List Value} {e sz:Nat}
theorem sP(a:rv.length=rs.length)(b:Nat)(f:b∈cl bx (rv++[.slice none 0 0]) (rs++[some ⟨e,sz,[],false⟩])):b∈cl bx rv rs:=by
 rcases aY.1 f with c|⟨j,u,X,c,i,d⟩
 ·exact aY.2 (.inl c)
 rcases dt a j u X c i with⟨_,rfl,_⟩|⟨_,g,h⟩
 ·simp[Value.ownBlock]at d
 exact aY.2 (.inr ⟨j,u,X,g,h,d⟩)
theorem yz(a:rv.length=rs.length):∀b,b<w.heap.size->¬GG G0 bx rv rs b->w.heap[b]? =w.heap[b]? /\¬GG G0 bx (rv++[.slice none 0 0]) (rs++[some ⟨e,sz,[],false⟩]) b:=fun b _ c=>⟨Z,fun h=>c (h.imp id (sP a b))⟩
theorem Gn(a:rv.length=rs.length){us:List Value}{ts:List Tree}(h:FT (en w G0 bx rv rs) us ts):FT (en w G0 bx (rv++[.slice none 0 0]) (rs++[some ⟨e,sz,[],false⟩])) us ts:=h.mono (Oh _) (yz a) (fun _ _ h=>h) fun j u h=>by
 have h:fN rv rs j=some u:=h;show fN (rv++[.slice none 0 0]) (rs++[some ⟨e,sz,[],false⟩]) j=some u
 unfold fN at h⊢;cases b:rs[j]? with
 |none=>simp[b]at h
 |some r=>
  have c:=(Ok.1 b).1;rw[OJ c,OJ (by omega)];exact h
theorem Mem.addNil(c:Mem w0 G0 bs rs bx rv w):Mem w0 G0 bs (rs++[some ⟨e,sz,[],false⟩]) bx (rv++[.slice none 0 0]) w:=by
 have a:=c.nr;refine⟨c.below,c.env0,c.g0,c.nb,by simp[a],fun i g p=>?_,fun j u X k f=>?_,⟨c.nodup.bb,fun j u X b k f m=>?_,fun i j u v X Y b o k f m d l n=>?_⟩,fun b x=>c.ge b (sP a b x),c.pin⟩
 ·obtain⟨ty,cs,us,k,f,m,d⟩:=c.box i g p;exact⟨ty,cs,us,k,f,Gn a m,d⟩
 ·rcases dt a j u X k f with⟨_,rfl,rfl⟩|⟨_,d,l⟩
  ·exact⟨[],World.ownsRow_nil _ _ _ _,.nil,⟨(fun _ h=>by cases h),fun h=>by cases h⟩,(fun g t=>by cases t)⟩
  obtain⟨xs,n,A,z,r⟩:=c.row j u X d l;exact⟨xs,n,A.mono (Oh _) (yz a),z,r⟩
 ·rcases dt a j u X k f with⟨_,rfl,_⟩|⟨_,d,l⟩
  ·simp[Value.ownBlock]at m
  exact c.nodup.br j u X b d l m
 rcases dt a i u X k f with⟨_,rfl,_⟩|⟨_,s,y⟩
 ·simp[Value.ownBlock]at l
 rcases dt a j v Y m d with⟨_,rfl,_⟩|⟨_,q,B⟩
 ·simp[Value.ownBlock]at n
 exact c.nodup.rr i j u v X Y b o s y q B l n
theorem vt{E:En}{a:Tree}(h:∀v,FT E [v] [.sc (.slice none 0 0)]->FT E [v] [a]):∀{us:List Value} {ts:List Tree} (off:Nat),FT E us ts->ts[off]? =some (.sc (.slice none 0 0))->FT E us (ts.set off a)
 |[],[],_,_,ht=>by simp at ht
 |[],_::_,_,h',_=>by cases h'
 |_::_,[],_,h',_=>by cases h'
 |u::us,t::ts,0,h',ht=>by
  simp only[Pa,OI]at ht;subst ht;exact FT.cons (h u h'.head) h'.tail
 |u::us,t::ts,off+1,h',ht=>FT.cons h'.head (vt h off h'.tail (by simpa using ht))
end
section
variable {w0:World} {G0:Bse} {Q:Exit->St->Prop} {n:Nat} {sl:List (Nat×Tree)} {bs:List (TypeId×List Tree)} {rs:List (Option Row)}
theorem jE{c:Code}(b off e sz:Nat){ty:TypeId}{cs:List Tree}(t:bs[b]? =some (ty,cs))(C:cs[off]? =some (.sc (.slice none 0 0))){bs':List (TypeId×List Tree)}{rs':List (Option Row)}(p:bs.set b (ty,cs.set off (.own rs.length))=bs')(q:rs++[some ⟨e,sz,[],false⟩]=rs')(h:AWP w0 G0 c Q ⟨n,sl,bs',rs'⟩):AWP w0 G0 c Q ⟨n,sl,bs,rs⟩:=by
 subst p q;rintro a w ⟨bx,rv,y,k,o,m⟩;have l:rv.length=rs.length:=y.nr;have d:Mem w0 G0 bs (rs++[some ⟨e,sz,[],false⟩]) bx (rv++[.slice none 0 0]) w:=y.addNil;refine h a w ⟨bx,rv++[.slice none 0 0],⟨d.below,d.env0,d.g0,by simp[d.nb],d.nr,fun i g A=>?_,d.row,d.nodup,d.ge,d.pin⟩,k,o,fun i=>Gn l (m i)⟩;obtain⟨r,j,us,s,x,z,u⟩:=d.box i g A;by_cases f:i=b
 ·subst f;rw[t]at s;cases s;refine⟨ty,cs.set off (.own rs.length),us,by rw[PA (Ok.1 t).1],x,vt (fun v B=>?_) off z C,u⟩;obtain rfl:=B.isSc;refine .own _ 0 0 none ?_ .nil;show fN (rv++[.slice none 0 0]) (rs++[some ⟨e,sz,[],false⟩]) rs.length=_
  unfold fN;rw[ON (Oh _),Pb,ON (by omega),show rs.length-rv.length=0 by omega];rfl
 exact⟨r,j,us,by rw[Pp (fun e=>f e.symm)];exact s,x,z,u⟩
end
end Go.Proofs.YtfoejfohbkmmeaaGreatDoor
