import Derived.Test.YtfoejfohbkmmeaaGreatDoorU07
import Derived.Test.YtfoejfohbkmmeaaGreatDoorU00
namespace Go.Proofs.YtfoejfohbkmmeaaGreatDoor
open Go.RowKit
open Lib renaming hid→J
structure LayT where
 agg:List (Nat×Nat)
 one:List (Nat×Bool)
 fld:List (Nat×List (Nat×Nat))
 siz:List (Nat×Nat)
 str:List (Nat×List (Nat×Nat)×List Value×List Tree)
 zer:List (Nat×List Value×List Tree)
structure LayT.OK (L:LayT):Prop where
 agg:∀t n,(t,n)∈L.agg->qF Tryz.prog t=some n
 one:∀t b,(t,b)∈L.one->iU Tryz.prog t=true
 fld:∀t l,(t,l)∈L.fld->∀j n,(j,n)∈l->j4 Tryz.prog t j=some n
 siz:∀t n,(t,n)∈L.siz->(Tryz.prog.info? t).map (·.size)=some n
 str:∀t z,(t,z)∈L.str->tJ Tryz.prog t=some (z.1,z.2.1)/\z.2.1.map dg=z.2.2
 zer:∀t z,(t,z)∈L.zer->gc Tryz.prog t=some z.1/\z.1.all bL=true/\z.1.map dg=z.2
theorem qG{α β:Type}{P:α->β->Prop}:∀t n,(t,n)∈([]:List (α×β))->P t n:=fun _ _ h=>by cases h
theorem cY{α β:Type}{P:α->β->Prop}{l:List (α×β)}{a:α}{b:β}(h:P a b)(d:∀t n,(t,n)∈l->P t n):∀t n,(t,n)∈(a,b)::l->P t n:=by
 intro t n c;rcases Mi.1 c with e|e
 ·cases e;exact h
 exact d t n e
section
variable {γ α β:Type}
def tF:List (Nat×α)->Nat->(α->Option γ)->Option γ
 |[],_,_=>none
 |(i,a)::l,j,k=>cond (Nat.beq i j) (k a) (tF l j k)
theorem g6{k:α->Option γ}{r:γ}{j:Nat}:∀{l:List (Nat×α)},tF l j k=some r->∃a,(j,a)∈l/\k a=some r
 |[],h=>by cases h
 |(i,a)::l,h=>by
  simp only[tF]at h;cases c:Nat.beq i j with
  |true=>
   rw[c]at h;cases N7 c;exact⟨a,Mr ..,h⟩
  |false=>
   rw[c]at h;obtain⟨b,d,e⟩:=g6 (l:=l) h;exact⟨b,MB _ d,e⟩
theorem wP{k:Tree->Option γ}{r:γ}{j:Nat}:∀{l:List (Nat×Tree)},tF l j k=some r->k (look l j)=some r
 |[],h=>by cases h
 |(i,a)::l,h=>by
  simp only[tF]at h;simp only[look];cases b:Nat.beq i j with
  |true=>rw[b]at h;exact h
  |false=>rw[b]at h;exact wP (l:=l) h
def Ee(sl:List (Nat×Tree))(x:Operand)(k:Tree->Option γ):Option γ:=
 match x with
 | .tmp s=>tF sl s k
 | .const v=>k (.sc v)
 |_=>none
theorem Ef{n:Nat}{sl:List (Nat×Tree)}{bs:List (TypeId×List Tree)}{rs:List (Option Row)}{x:Operand}{k:Tree->Option γ}{r:γ}(h:Ee sl x k=some r):k (St.ev ⟨n,sl,bs,rs⟩ x)=some r:=by
 cases x with
 |tmp s=>exact wP h
 |const v=>exact h
 |_=>cases h
def vr:List α->Nat->(α->Option γ)->Option γ
 |[],_,_=>none
 |a::_,0,k=>k a
 |_::l,n+1,k=>vr l n k
theorem jN{k:α->Option γ}{r:γ}:∀{l:List α} {n:Nat},vr l n k=some r->∃a,l[n]? =some a/\k a=some r
 |[],_,h=>by cases h
 |a::_,0,h=>⟨a,Z,h⟩
 |_::l,n+1,h=>by simpa using jN (l:=l) (n:=n) h
def IK:List α->Nat->α->(List α->Option γ)->Option γ
 |[],_,_,_=>none
 |_::l,0,v,k=>k (v::l)
 |a::l,n+1,v,k=>IK l n v fun l'=>k (a::l')
theorem Bj{r:γ}{v:α}:∀{l:List α} {n:Nat} {k:List α->Option γ},IK l n v k=some r->k (l.set n v)=some r
 |[],_,_,h=>by cases h
 |_::_,0,_,h=>h
 |_::l,n+1,k,h=>Bj (l:=l) (n:=n) h
def GD:List α->α->(List α->Option γ)->Option γ
 |[],v,k=>k [v]
 |a::l,v,k=>GD l v fun l'=>k (a::l')
theorem vt{r:γ}{v:α}:∀{l:List α} {k:List α->Option γ},GD l v k=some r->k (l++[v])=some r
 |[],_,h=>h
 |_::l,_,h=>vt (l:=l) h
def Bk:List α->Nat->(List α->Option γ)->Option γ
 |l,0,k=>k l
 |[],_+1,_=>none
 |_::l,n+1,k=>Bk l n k
theorem n9{r:γ}{k:List α->Option γ}:∀{n:Nat} {l:List α},Bk l n k=some r->n<=l.length/\k (l.drop n)=some r
 |0,l,h=>by cases l<;>exact⟨Mx _,h⟩
 |n+1,[],h=>by cases h
 |n+1,_::l,h=>⟨Nat.succ_le_succ (n9 (n:=n) (l:=l) h).1,(n9 (n:=n) (l:=l) h).2⟩
def Bl:List α->Nat->(List α->Option γ)->Option γ
 |_,0,k=>k []
 |[],_+1,_=>none
 |a::l,n+1,k=>Bl l n fun l'=>k (a::l')
theorem oc{r:γ}:∀{n:Nat} {l:List α} {k:List α->Option γ},Bl l n k=some r->n<=l.length/\k (l.take n)=some r
 |0,l,_,h=>by cases l<;>exact⟨Mx _,h⟩
 |n+1,[],_,h=>by cases h
 |n+1,a::l,k,h=>⟨Nat.succ_le_succ (oc (n:=n) (l:=l) h).1,(oc (n:=n) (l:=l) h).2⟩
def Eg:List α->Nat->List α->(List α->Option γ)->Option γ
 |l,0,[],k=>k l
 |_::l,0,v::vs,k=>Eg l 0 vs fun l'=>k (v::l')
 |a::l,n+1,vs,k=>Eg l n vs fun l'=>k (a::l')
 |_,_,_,_=>none
theorem qS{r:γ}:∀{l:List α} {n:Nat} {vs:List α} {k:List α->Option γ},Eg l n vs k=some r->n+vs.length<=l.length/\k (l.take n++vs++l.drop (n+vs.length))=some r
 |[],0,[],_,h=>⟨L5 _,h⟩
 |_::_,0,[],_,h=>⟨Mx _,h⟩
 |_::l,0,v::vs,k,h=>by
  obtain⟨c,b⟩:=qS (l:=l) (n:=0) (vs:=vs) h;refine⟨by simp only[Mb]at*;omega,?_⟩;simp only[Ou,M6,Mb,M0]at b⊢;exact b
 |a::l,n+1,vs,k,h=>by
  obtain⟨c,b⟩:=qS (l:=l) (n:=n) (vs:=vs) h;refine⟨by simp only[Mb];omega,?_⟩;rw[show n+1+vs.length=(n+vs.length)+1 by omega];exact b
 |[],0,_::_,_,h=>by cases h
 |[],_+1,_,_,h=>by cases h
def Cy:List Nat:=[0,1,2,3,4,5,6,7,8,9,10,11,12,13,14,15,16,17,18,19,20,21,22,23]
theorem vu{i a:Nat}(h:Cy[i]? =some a):a=i:=by
 have:∀j:Fin 24,Cy[j.1]? =some j.1:=by decide
 by_cases b:i<24
 ·have:=this ⟨i,b⟩;simp only at this;rw[this]at h;exact(Nt h).symm
 rw[Nq (by simp only[Cy,Mb,Mo];omega)]at h;cases h
def J5(n:Nat)(k:Nat->Option γ):Option γ:=vr Cy n k
theorem GE{n:Nat}{k:Nat->Option γ}{r:γ}(h:J5 n k=some r):k n=some r:=by
 obtain⟨a,c,b⟩:=jN h;rw[vu c]at b;exact b
def GF:List α->List Nat->(Nat->Option γ)->Option γ
 |[],b::_,k=>k b
 |_::l,_::m,k=>GF l m k
 |_,[],_=>none
theorem vv{k:Nat->Option γ}{r:γ}:∀{l:List α} {m:List Nat},GF l m k=some r->∃b,m[l.length]? =some b/\k b=some r
 |[],b::_,h=>⟨b,Z,h⟩
 |_::l,_::m,h=>by simpa using vv (l:=l) (m:=m) h
 |[],[],h=>by cases h
 |_::_,[],h=>by cases h
def IL(b:Bool)(x:Option γ):Option γ:=cond b x none
theorem ns{b:Bool}{x:Option γ}{r:γ}(h:IL b x=some r):b=true/\x=some r:=by
 cases b with
 |true=>exact⟨Z,h⟩
 |false=>cases h
def IM(sl:List (Nat×Tree))(pl:List (Nat×Nat)):List (Nat×Operand)->List Tree->(List Tree->Option γ)->Option γ
 |[],cs,k=>k cs
 |(i,x)::ps,cs,k=>Ee sl x fun t=>IL t.oneA (vr pl i fun p=>IL (Nat.beq t.cells.length p.2) (Eg cs p.1 t.cells fun cs'=>IM sl pl ps cs' k))
theorem Bm{n:Nat}{sl:List (Nat×Tree)}{bs:List (TypeId×List Tree)}{rs:List (Option Row)}{d:List (Nat×Nat)}{r:γ}{k:List Tree->Option γ}:∀{ps:List (Nat×Operand)} {cs:List Tree},IM sl d ps cs k=some r->∃a,nW (d[·]?) cs (ps.map fun p=>(p.1,St.ev ⟨n,sl,bs,rs⟩ p.2))=some a/\((ps.map fun p=>(p.1,St.ev ⟨n,sl,bs,rs⟩ p.2)).all fun q=>q.2.oneA)=true/\k a=some r
 |[],cs,h=>⟨cs,Z,Z,h⟩
 |(i,x)::ps,cs,h=>by
  obtain⟨j,s⟩:=ns (Ef (n:=n) (bs:=bs) (rs:=rs) h);obtain⟨p,g,o⟩:=jN s;obtain⟨f,e⟩:=ns o;obtain⟨t,m⟩:=qS e;obtain⟨a,l,c,b⟩:=Bm (n:=n) (bs:=bs) (rs:=rs) m;refine⟨a,?_,?_,b⟩
  ·simp only[MX,nW,g];rw[if_neg (by rw[<-N7 f];omega)];exact l
  simp only[MX,NP,j,c,Ql]
def od(n:Nat)(d:Option Nat)(k:Nat->Option γ):Option γ:=
 match d with
 |some d=>IL (Nat.blt d n) (k d)
 |none=>none
theorem fR{n:Nat}{d:Option Nat}{k:Nat->Option γ}{r:γ}(h:od n d k=some r):∃e,d=some e/\Nat.blt e n=true/\k e=some r:=by
 cases d with
 |some e=>exact⟨e,Z,(ns h).1,(ns h).2⟩
 |none=>cases h
def rF(L:LayT)(n:Nat)(sl:List (Nat×Tree))(bs:List (TypeId×List Tree))(o:Oper)(k:List (Nat×Tree)->List (TypeId×List Tree)->Option γ):Option γ:=
 match o.guard with
 |some _=>none
 |none=>match o.op with
  | .move x=>Ee sl x fun t=>od n o.dst fun d=>k ((d,t)::sl) bs
  | .assign x=>Ee sl x fun t=>od n o.dst fun d=>k ((d,t)::sl) bs
  | .extract x j=>Ee sl x fun t=>match t with
   | .tup ts=>vr ts j fun t=>od n o.dst fun d=>k ((d,t)::sl) bs
   |_=>none
  | .fieldAddr s x j=>Ee sl x fun t=>match t with
   | .box b off=>tF L.fld s fun fs=>tF fs j fun fo=>J5 (off+fo) fun m=>od n o.dst fun d=>k ((d,.box b m)::sl) bs
   | .elp b off=>tF L.fld s fun fs=>tF fs j fun fo=>od n o.dst fun d=>k ((d,.elp b (off+fo))::sl) bs
   | .ref cs=>tF L.fld s fun fs=>tF fs j fun fo=>Bk cs fo fun cs'=>od n o.dst fun d=>k ((d,.ref cs')::sl) bs
   |_=>none
  | .load t x=>Ee sl x fun a=>match a with
   | .box b off=>vr bs b fun p=>match tF L.one t some with
    |some _=>vr p.2 off fun c=>od n o.dst fun d=>k ((d,c)::sl) bs
    |none=>tF L.agg t fun m=>Bk p.2 off fun cs=>Bl cs m fun cs'=>od n o.dst fun d=>k ((d,.agg cs')::sl) bs
   | .ref cs=>match tF L.one t some with
    |some _=>vr cs 0 fun c=>od n o.dst fun d=>k ((d,c)::sl) bs
    |none=>tF L.agg t fun m=>Bl cs m fun cs'=>od n o.dst fun d=>k ((d,.agg cs')::sl) bs
   |_=>none
  | .store ty x y=>match o.dst with
   |some _=>none
   |none=>Ee sl x fun a=>match a with
    | .box b off=>vr bs b fun p=>Ee sl y fun t=>IL (t.oneA&&t.cells.all Tree.one&&t.cells.all Tree.noDig) (tF L.siz ty fun m=>IL (Nat.beq t.cells.length m) (Eg p.2 off t.cells fun cs=>IK bs b (p.1,cs) fun bs'=>k sl bs'))
    |_=>none
  | .alloc ty=>tF L.zer ty fun z=>GF bs Cy fun b=>GD bs (ty,z.2) fun bs'=>od n o.dst fun d=>k ((d,.box b 0)::sl) bs'
  | .box ty x=>Ee sl x fun t=>IL (t.oneA&&t.cells.all Tree.noDig) (GF bs Cy fun b=>GD bs (ty,t.cells) fun bs'=>od n o.dst fun d=>k ((d,.box b 0)::sl) bs')
  | .build ty ps=>tF L.str ty fun z=>IM sl z.1 ps.toList z.2.2 fun cs=>od n o.dst fun d=>k ((d,.agg cs)::sl) bs
  |_=>none
def Ls(n:Nat)(sl:List (Nat×Tree))(bs:List (TypeId×List Tree))(o:Oper)(sl':List (Nat×Tree))(bs':List (TypeId×List Tree)):Prop:=∀(w0:World) (G0:Nat->Prop) (ops:Array Oper) (rest:List Oper) (Q:Exit->St->Prop) (rs:List (Option Row)),AOps w0 G0 ops rest Q ⟨n,sl',bs',rs⟩->AOps w0 G0 ops (o::rest) Q ⟨n,sl,bs,rs⟩
theorem jO{n:Nat}{sl:List (Nat×Tree)}{bs:List (TypeId×List Tree)}{rs rs':List (Option Row)}{x:Operand}:St.ev ⟨n,sl,bs,rs⟩ x=St.ev ⟨n,sl,bs,rs'⟩ x:=by cases x<;>rfl
theorem IN{L:LayT}(H:L.OK){n:Nat}{sl:List (Nat×Tree)}{bs:List (TypeId×List Tree)}{o:Oper}{k:List (Nat×Tree)->List (TypeId×List Tree)->Option γ}{r:γ}(h:rF L n sl bs o k=some r):∃sl' bs',Ls n sl bs o sl' bs'/\k sl' bs'=some r:=by
 have E:∀{x:Operand} {k:Tree->Option γ},Ee sl x k=some r->∀rs,k (St.ev ⟨n,sl,bs,rs⟩ x)=some r:=fun h rs=>Ef h
 unfold rF at h;cases F:o.guard with
 |some g=>rw[F]at h;cases h
 |none=>
  rw[F]at h;simp only at h;cases w:o.op with
  |move x=>
   rw[w]at h;obtain⟨d,l,v,q⟩:=fR (E h []);refine⟨_,_,?_,q⟩;exact fun w0 G0 ops f Q rs K=>af F l v (aw w jO) K
  |assign x=>
   rw[w]at h;obtain⟨d,l,v,q⟩:=fR (E h []);refine⟨_,_,?_,q⟩;exact fun w0 G0 ops f Q rs K=>af F l v (bW w jO) K
  |extract x j=>
   rw[w]at h;have i:=E h [];cases A:St.ev ⟨n,sl,bs,[]⟩ x with
   |tup ts=>
    rw[A]at i;obtain⟨t,D,B⟩:=jN i;obtain⟨d,l,v,q⟩:=fR B;refine⟨_,_,?_,q⟩;exact fun w0 G0 ops f Q rs K=>af F l v (dD w (jO.trans A) D) K
   |_=>rw[A]at i;cases i
  |fieldAddr s x j=>
   rw[w]at h;have i:=E h [];cases A:St.ev ⟨n,sl,bs,[]⟩ x with
   |box b off=>
    rw[A]at i;obtain⟨V,G,D⟩:=g6 i;obtain⟨fo,N,B⟩:=g6 D;obtain⟨d,l,v,q⟩:=fR (GE B);refine⟨_,_,?_,q⟩;exact fun w0 G0 ops f Q rs K=>af F l v (az w (jO.trans A) (H.fld _ _ G _ _ N) Z) K
   |elp b off=>
    rw[A]at i;obtain⟨V,G,D⟩:=g6 i;obtain⟨fo,N,B⟩:=g6 D;obtain⟨d,l,v,q⟩:=fR B;refine⟨_,_,?_,q⟩;exact fun w0 G0 ops f Q rs K=>af F l v (vm w (jO.trans A) (H.fld _ _ G _ _ N) Z) K
   |ref cs=>
    rw[A]at i;obtain⟨V,G,D⟩:=g6 i;obtain⟨fo,N,B⟩:=g6 D;obtain⟨_,C⟩:=n9 B;obtain⟨d,l,v,q⟩:=fR C;refine⟨_,_,?_,q⟩;exact fun w0 G0 ops f Q rs K=>af F l v (bw w (jO.trans A) (H.fld _ _ G _ _ N) Z) K
   |_=>rw[A]at i;cases i
  |load t x=>
   rw[w]at h;have i:=E h [];have O:∀{u},tF L.one t some=some u->iU Tryz.prog t=true:=fun I=>by
    obtain⟨a,m,_⟩:=g6 I;exact H.one _ _ m
   cases A:St.ev ⟨n,sl,bs,[]⟩ x with
   |box b off=>
    rw[A]at i;obtain⟨p,D,B⟩:=jN i;cases I:tF L.one t some with
    |some u=>
     rw[I]at B;obtain⟨c,C,J⟩:=jN B;obtain⟨d,l,v,q⟩:=fR J;refine⟨_,_,?_,q⟩;exact fun w0 G0 ops f Q rs K=>af F l v (aD w (jO.trans A) D (O I) C) K
    |none=>
     rw[I]at B;obtain⟨m,G,C⟩:=g6 B;obtain⟨J,R⟩:=n9 C;obtain⟨P,M⟩:=oc R;obtain⟨d,l,v,q⟩:=fR M;rw[MS]at P;refine⟨_,_,?_,q⟩;exact fun w0 G0 ops f Q rs K=>af F l v (aJ w (jO.trans A) D (H.agg _ _ G) (by rw[QJ];show off+m<=p.2.length;omega) Z) K
   |ref cs=>
    rw[A]at i;cases I:tF L.one t some with
    |some u=>
     simp only[I]at i;obtain⟨c,C,J⟩:=jN i;obtain⟨d,l,v,q⟩:=fR J;refine⟨_,_,?_,q⟩;exact fun w0 G0 ops f Q rs K=>af F l v (bE w (jO.trans A) (O I) C) K
    |none=>
     simp only[I]at i;obtain⟨m,G,C⟩:=g6 i;obtain⟨P,M⟩:=oc C;obtain⟨d,l,v,q⟩:=fR M;refine⟨_,_,?_,q⟩;exact fun w0 G0 ops f Q rs K=>af F l v (cU w (jO.trans A) (H.agg _ _ G) (by rw[QJ];exact P) Z) K
   |_=>rw[A]at i;cases i
  |store ty x y=>
   rw[w]at h;cases l:o.dst with
   |some d=>rw[l]at h;cases h
   |none=>
    rw[l]at h;have i:=E h [];cases A:St.ev ⟨n,sl,bs,[]⟩ x with
    |box b off=>
     rw[A]at i;obtain⟨p,D,B⟩:=jN i;obtain⟨C,J⟩:=ns (E B []);obtain⟨m,G,R⟩:=g6 J;obtain⟨P,M⟩:=ns R;obtain⟨X,S⟩:=qS M;have q:=Bj S;simp only[Ma]at C;have e:=N7 P;refine⟨_,_,?_,q⟩;exact fun w0 G0 ops f Q rs K=>wO w F l (jO.trans A) D jO C.1.1 C.1.2 C.2 (H.siz _ _ G) e (by rw[QJ];show off+m<=p.2.length;rw[<-e];exact X) Z K
    |_=>rw[A]at i;cases i
  |alloc ty=>
   rw[w]at h;obtain⟨z,G,D⟩:=g6 h;obtain⟨b,B,C⟩:=vv D;obtain⟨d,l,v,q⟩:=fR (vt C);obtain⟨U,T,W⟩:=H.zer _ _ G;refine⟨_,_,?_,q⟩;exact fun w0 G0 ops f Q rs K=>wN w F l v U T W (vu B).symm Z K
  |box ty x=>
   rw[w]at h;obtain⟨i,D⟩:=ns (E h []);obtain⟨b,B,C⟩:=vv D;obtain⟨d,l,v,q⟩:=fR (vt C);simp only[Ma]at i;refine⟨_,_,?_,q⟩;exact fun w0 G0 ops f Q rs K=>Cx w F l v jO i.1 Z i.2 (vu B).symm Z K
  |build ty ps=>
   rw[w]at h;obtain⟨z,G,D⟩:=g6 h;obtain⟨cs,B,C,J⟩:=Bm (n:=n) (bs:=bs) (rs:=[]) D;obtain⟨d,l,v,q⟩:=fR J;obtain⟨U,T⟩:=H.str _ _ G;refine⟨_,_,?_,q⟩;exact fun w0 G0 ops f Q rs K=>af F l v (fG w U (PC fun p _=>congrArg (Prod.mk p.1) jO) C (by rw[T];exact B)) K
  |_=>rw[w]at h;cases h
end
def GH(L:LayT)(n:Nat):Nat->List Oper->List (Nat×Tree)->List (TypeId×List Tree)->Option (List Oper×List (Nat×Tree)×List (TypeId×List Tree))
 |0,os,sl,bs=>some (os,sl,bs)
 |k+1,o::os,sl,bs=>rF L n sl bs o fun sl' bs'=>GH L n k os sl' bs'
 |_+1,[],_,_=>none
theorem Bn{L:LayT}(c:L.OK){w0:World}{G0:Nat->Prop}{ops:Array Oper}{Q:Exit->St->Prop}{n:Nat}{rs:List (Option Row)}:∀(k:Nat) {b a:List Oper} {sl sl':List (Nat×Tree)} {bs bs':List (TypeId×List Tree)},GH L n k b sl bs=some (a,sl',bs')->AOps w0 G0 ops a Q ⟨n,sl',bs',rs⟩->AOps w0 G0 ops b Q ⟨n,sl,bs,rs⟩
 |0,_,_,_,_,_,_,h,K=>by cases h;exact K
 |k+1,[],_,_,_,_,_,h,_=>by cases h
 |k+1,o::b,_,_,_,_,_,h,K=>by
  obtain⟨d,e,f,g⟩:=IN c h;exact f _ _ _ _ _ _ (Bn c k g K)
def LYT:LayT where
 agg:=[(26,3),(30,4),(58,3),(65,3),(67,4),(77,3)]
 one:=[(2,true),(3,true),(4,true),(5,true),(9,true),(23,true),(24,true),(28,true),(50,true),(61,true),(63,true)]
 fld:=[(26,[(0,0),(1,1),(2,2)]),(30,[(0,0),(1,3)]),(58,[(0,0),(1,1),(2,2)]),(65,[(0,0),(1,1),(2,2)]),(67,[(0,0),(1,1)]),(77,[(0,0)])]
 siz:=[(5,1),(23,1),(24,1),(26,3),(28,1),(30,4),(58,3),(61,1),(65,3),(67,4),(77,3)]
 str:=[(26,[(0,1),(1,1),(2,1)],[.string (⟨#[]⟩),.bool false,.slice none 0 0],[.sc (.string (⟨#[]⟩)),.sc (.bool false),.sl []]),(30,[(0,3),(3,1)],[.string (⟨#[]⟩),.bool false,.slice none 0 0,.slice none 0 0],[.sc (.string (⟨#[]⟩)),.sc (.bool false),.sl [],.sl []]),(58,[(0,1),(1,1),(2,1)],[.string (⟨#[]⟩),.int .i64 0,.bool false],[.sc (.string (⟨#[]⟩)),.sc (.int .i64 0),.sc (.bool false)]),(65,[(0,1),(1,1),(2,1)],[.bool false,.slice none 0 0,.slice none 0 0],[.sc (.bool false),.sl [],.sl []]),(67,[(0,1),(1,3)],[.slice none 0 0,.bool false,.slice none 0 0,.slice none 0 0],[.sl [],.sc (.bool false),.sl [],.sl []])]
 zer:=[(2,[.int .i64 0],[.sc (.int .i64 0)]),(3,[.int .i64 0],[.sc (.int .i64 0)]),(5,[.int .u8 0],[.sc (.int .u8 0)]),(9,[.string (⟨#[]⟩)],[.sc (.string (⟨#[]⟩))]),(23,[.slice none 0 0],[.sl []]),(26,[.string (⟨#[]⟩),.bool false,.slice none 0 0],[.sc (.string (⟨#[]⟩)),.sc (.bool false),.sl []]),(30,[.string (⟨#[]⟩),.bool false,.slice none 0 0,.slice none 0 0],[.sc (.string (⟨#[]⟩)),.sc (.bool false),.sl [],.sl []]),(58,[.string (⟨#[]⟩),.int .i64 0,.bool false],[.sc (.string (⟨#[]⟩)),.sc (.int .i64 0),.sc (.bool false)]),(61,[.slice none 0 0],[.sl []]),(65,[.bool false,.slice none 0 0,.slice none 0 0],[.sc (.bool false),.sl [],.sl []]),(67,[.slice none 0 0,.bool false,.slice none 0 0,.slice none 0 0],[.sl [],.sc (.bool false),.sl [],.sl []]),(77,[.int .i64 0,.int .i64 0,.string (⟨#[]⟩)],[.sc (.int .i64 0),.sc (.int .i64 0),.sc (.string (⟨#[]⟩))])]
theorem GJ:LYT.OK where
 agg:=cY (by kernel_rfl)<|cY (by kernel_rfl)<|cY (by kernel_rfl)<|cY (by kernel_rfl)<|cY (by kernel_rfl)<|cY (by kernel_rfl)<|qG
 one:=cY (by kernel_rfl)<|cY (by kernel_rfl)<|cY (by kernel_rfl)<|cY (by kernel_rfl)<|cY (by kernel_rfl)<|cY (by kernel_rfl)<|cY (by kernel_rfl)<|cY (by kernel_rfl)<|cY (by kernel_rfl)<|cY (by kernel_rfl)<|cY (by kernel_rfl)<|qG
 fld:=cY (cY (by kernel_rfl)<|cY (by kernel_rfl)<|cY (by kernel_rfl)<|qG)<|cY (cY (by kernel_rfl)<|cY (by kernel_rfl)<|qG)<|cY (cY (by kernel_rfl)<|cY (by kernel_rfl)<|cY (by kernel_rfl)<|qG)<|cY (cY (by kernel_rfl)<|cY (by kernel_rfl)<|cY (by kernel_rfl)<|qG)<|cY (cY (by kernel_rfl)<|cY (by kernel_rfl)<|qG)<|cY (cY (by kernel_rfl)<|qG)<|qG
 siz:=cY (by kernel_rfl)<|cY (by kernel_rfl)<|cY (by kernel_rfl)<|cY (by kernel_rfl)<|cY (by kernel_rfl)<|cY (by kernel_rfl)<|cY (by kernel_rfl)<|cY (by kernel_rfl)<|cY (by kernel_rfl)<|cY (by kernel_rfl)<|cY (by kernel_rfl)<|qG
 str:=cY (⟨by kernel_rfl,Z⟩)<|cY (⟨by kernel_rfl,Z⟩)<|cY (⟨by kernel_rfl,Z⟩)<|cY (⟨by kernel_rfl,Z⟩)<|cY (⟨by kernel_rfl,Z⟩)<|qG
 zer:=cY (⟨by kernel_rfl,by kernel_rfl,Z⟩)<|cY (⟨by kernel_rfl,by kernel_rfl,Z⟩)<|cY (⟨by kernel_rfl,by kernel_rfl,Z⟩)<|cY (⟨by kernel_rfl,by kernel_rfl,Z⟩)<|cY (⟨by kernel_rfl,by kernel_rfl,Z⟩)<|cY (⟨by kernel_rfl,by kernel_rfl,Z⟩)<|cY (⟨by kernel_rfl,by kernel_rfl,Z⟩)<|cY (⟨by kernel_rfl,by kernel_rfl,Z⟩)<|cY (⟨by kernel_rfl,by kernel_rfl,Z⟩)<|cY (⟨by kernel_rfl,by kernel_rfl,Z⟩)<|cY (⟨by kernel_rfl,by kernel_rfl,Z⟩)<|cY (⟨by kernel_rfl,by kernel_rfl,Z⟩)<|qG
theorem aa{w0:World}{G0:Nat->Prop}{ops:Array Oper}{Q:Exit->St->Prop}{n:Nat}{rs:List (Option Row)}(k:Nat){b a:List Oper}{sl sl':List (Nat×Tree)}{bs bs':List (TypeId×List Tree)}(h:GH LYT n k b sl bs=some (a,sl',bs'))(K:AOps w0 G0 ops a Q ⟨n,sl',bs',rs⟩):AOps w0 G0 ops b Q ⟨n,sl,bs,rs⟩:=Bn GJ k h K
theorem aj{w0:World}{G0:Nat->Prop}{id:Nat}{Q:Exit->St->Prop}{n:Nat}{rs:List (Option Row)}(k:Nat){a:List Oper}{sl sl':List (Nat×Tree)}{bs bs':List (TypeId×List Tree)}(h:GH LYT n k a sl bs=some ([],sl',bs'))(K:Q .normal ⟨n,sl',bs',rs⟩):AWP w0 G0 (.region id a.toArray false) Q ⟨n,sl,bs,rs⟩:=ae (aa k h (ag K))
abbrev nI(i:Nat):Tree:=.sc (.int .i64 ((i:Nat):Int))
abbrev bT(b:Bool):Tree:=.sc (.bool b)
abbrev iT(i:Int):Tree:=.sc (.int .i64 i)
abbrev sT(s:ByteArray):Tree:=.sc (.string s)
theorem aF{w0:World}{G0:Nat->Prop}{Q:Exit->St->Prop}{S:St}{c:Operand}{x y:Code}{P:Prop}[Decidable P](d:S.ev c=.sc (.bool (decide P)))(a:P->AWP w0 G0 x Q S)(b:¬P->AWP w0 G0 y Q S):AWP w0 G0 (.cond c x y) Q S:=aH d (fun h=>a (of_decide_eq_true h)) fun h=>b (of_decide_eq_false h)
theorem bu{a:Int}{m:Nat}(h:a=m/\m<9223372036854775808):(Tree.sc (.int .i64 (IntKind.i64.wrap a)))=nI m:=J4 h.1 h.2
def lZ(k:Nat)(es:List Tree):Tree->Tree
 | .own j=>if j=k then .sl es else .own j
 | .elp j off=>if j=k then .any else .elp j off
 | .agg _| .tup _=>.any
 |t=>t
def Cz(k:Nat)(es:List Tree):Tree->Tree
 | .agg cs=>.agg (cs.map (lZ k es))
 |t=>lZ k es t
section
variable {w0 w:World} {G0:Nat->Prop} {bs:List (TypeId×List Tree)} {rs:List (Option Row)} {bx:List Nat} {rv:List Value} {k:Nat} {R:Row} {v:Value}
theorem iv(j:Nat)(X:Row)(h:(rs.set k none)[j]? =some (some X)):j≠k/\rs[j]? =some (some X):=by
 by_cases a:j=k
 ·subst a;have b:=(L7.1 h).1;rw[MU]at b;rw[NA b]at h;cases h
 rw[Nm (fun e=>a e.symm)]at h;exact⟨a,h⟩
theorem nt{b:Nat}(h:b∈cq bx rv (rs.set k none)):b∈cq bx rv rs:=by
 rcases aX.1 h with a|⟨j,u,X,a,d,c⟩
 ·exact aX.2 (.inl a)
 exact aX.2 (.inr ⟨j,u,X,a,(iv j X d).2,c⟩)
theorem l3:∀b,b<w.heap.size->¬GG G0 bx rv rs b->w.heap[b]? =w.heap[b]? /\¬GG G0 bx rv (rs.set k none) b:=fun _ _ a=>⟨Z,fun h=>a (h.imp id nt)⟩
theorem vw(j:Nat)(u:Value)(a:j≠k)(h:fh rv rs j=some u):fh rv (rs.set k none) j=some u:=by
 unfold fh at h⊢;rw[Nm (fun e=>a e.symm)];exact h
theorem Bo(c:Mem w0 G0 bs rs bx rv w)(b:rs[k]? =some (some R))(h:fh rv rs k=some v):PT w (GG G0 bx rv (rs.set k none)) [v] [.sl R.es]:=by
 have l:rv[k]? =some v:=by simpa[fh,b]using h
 obtain⟨xs,n,t,x,_⟩:=c.row k v R l b;have f:=t.mono (G':=GG G0 bx rv (rs.set k none)) (L5 _) l3;rcases n.2 with⟨rfl,d⟩|⟨g,e,cur,rfl,A,q,d,i,y,z⟩
 ·have:R.es=[]:=Mk d;rw[this];exact dI _ _
 refine .sl g 0 e _ xs R.es (ML.1 q).1 (fun a=>?_) (fun j u o=>?_) Z d (by unfold maxLen at i;omega) f .nil
 ·rcases a with a|a
  ·have:=(c.g0 g a).1;omega
  rcases aX.1 a with a|⟨j,u,X,s,m,r⟩
  ·exact c.nodup.br k _ R g l b Z a
  obtain⟨p,m⟩:=iv j X m;exact c.nodup.rr j k u _ X R g p s m l b r Z
 have:=n.cells (g:=g) Z j u o;rw[Addr.add_mid]at this;exact this
theorem Bp(a:Mem w0 G0 bs rs bx rv w)(d:rs[k]? =some (some R)){u:Value}{t:Tree}(h:FT (en w G0 bx rv rs) [u] [t]):FT (en w G0 bx rv (rs.set k none)) [u] [lZ k R.es t]:=by
 cases h with
 |pure h _=>
  cases t<;>first
   |exact .pure (h.mono (L5 _) l3) .nil
   |(simp only[lZ];exact .any _ .nil)
   |(cases h)
 |any=>exact .any _ .nil
 |box b off g h _=>exact .box b off g h .nil
 |own j n c A hv _=>
  simp only[lZ];split
  ·next e=>subst e;exact .pure (Bo a d hv) .nil
  next e=>exact .own j n c A (vw j _ e hv) .nil
 |elp j off g n c hv _=>
  simp only[lZ];split
  ·exact .any _ .nil
  next e=>exact .elp j off g n c (vw j _ e hv) .nil
 |agg=>exact .any _ .nil
 |tup=>exact .any _ .nil
theorem rG(a:Mem w0 G0 bs rs bx rv w)(b:rs[k]? =some (some R)):∀{us:List Value} {ts:List Tree},FT (en w G0 bx rv rs) us ts->FT (en w G0 bx rv (rs.set k none)) us (ts.map (lZ k R.es))
 |[],[],_=>.nil
 |[],_::_,h=>by cases h
 |_::_,[],h=>by cases h
 |u::us,t::ts,h=>FT.cons (Bp a b h.head) (rG a b h.tail)
theorem IP(a:Mem w0 G0 bs rs bx rv w)(b:rs[k]? =some (some R)){u:Value}{t:Tree}(h:FT (en w G0 bx rv rs) [u] [t]):FT (en w G0 bx rv (rs.set k none)) [u] [Cz k R.es t]:=by
 cases t with
 |agg cs=>
  obtain⟨xs,rfl,c⟩:=h.isAgg;exact .agg xs _ (rG a b c) .nil
 |_=>exact Bp a b h
end
section
variable {w0:World} {G0:Nat->Prop} {ops:Array Oper} {rest:List Oper} {Q:Exit->St->Prop} {o:Oper} {n:Nat} {sl:List (Nat×Tree)} {bs:List (TypeId×List Tree)} {rs:List (Option Row)} {S:St}
theorem Sim.rel{a:Act}{w:World}{k:Nat}{R:Row}(h:Sim w0 G0 ⟨n,sl,bs,rs⟩ a w)(r:rs[k]? =some (some R)):Sim w0 G0 ⟨n,sl.map fun p=>(p.1,Cz k R.es p.2),bs.map fun p=>(p.1,p.2.map (lZ k R.es)),rs.set k none⟩ a w:=by
 obtain⟨bx,rv,c,z,q,m⟩:=h;refine⟨bx,rv,⟨c.below,c.env0,c.g0,by simp[c.nb],by simp[c.nr],fun i g x=>?_,fun j u X d e=>?_,⟨c.nodup.bb,fun j u X b d e=>c.nodup.br j u X b d (iv j X e).2,fun i j u v X Y b o d e f l=>c.nodup.rr i j u v X Y b o d (iv i X e).2 f (iv j Y l).2⟩,fun b y=>c.ge b (nt y)⟩,z,q,fun i=>?_⟩
 ·obtain⟨ty,cs,us,d,e,f,l⟩:=c.box i g x;exact⟨ty,cs.map (lZ k R.es),us,by rw[MQ,d];rfl,e,rG c r f,l⟩
 ·obtain⟨xs,f,l,t,s⟩:=c.row j u X d (iv j X e).2;exact⟨xs,f,l.mono (L5 _) l3,t,s⟩
 show FT _ _ [look (sl.map fun p=>(p.1,Cz k R.es p.2)) i]
 rw[jp (Cz k R.es) Z];exact IP c r (m i)
theorem fD{c:Code}(k:Nat){R:Row}{sl':List (Nat×Tree)}{bs':List (TypeId×List Tree)}{rs':List (Option Row)}(f:rs[k]? =some (some R))(d:sl.map (fun p=>(p.1,Cz k R.es p.2))=sl')(b:bs.map (fun p=>(p.1,p.2.map (lZ k R.es)))=bs')(e:rs.set k none=rs')(h:AWP w0 G0 c Q ⟨n,sl',bs',rs'⟩):AWP w0 G0 c Q ⟨n,sl,bs,rs⟩:=by
 subst d b e;exact fun a w g=>h a w (g.rel f)
theorem J6(k:Nat){R:Row}{sl':List (Nat×Tree)}{bs':List (TypeId×List Tree)}{rs':List (Option Row)}(e:rs[k]? =some (some R))(c:sl.map (fun p=>(p.1,Cz k R.es p.2))=sl')(b:bs.map (fun p=>(p.1,p.2.map (lZ k R.es)))=bs')(d:rs.set k none=rs')(h:AOps w0 G0 ops rest Q ⟨n,sl',bs',rs'⟩):AOps w0 G0 ops rest Q ⟨n,sl,bs,rs⟩:=by
 subst c b d;exact fun a w f=>h a w (f.rel e)
theorem cS{rs:List (Option Row)}{rv:List Value}{v:Value}{R:Row}(d:rv.length=rs.length)(j:Nat)(u:Value)(X:Row)(b:(rv++[v])[j]? =some u)(a:(rs++[some R])[j]? =some (some X)):(j=rs.length/\u=v/\X=R)\/(j<rs.length/\rv[j]? =some u/\rs[j]? =some (some X)):=by
 by_cases c:j<rs.length
 ·rw[ME (by omega)]at b;rw[ME c]at a;exact .inr ⟨c,b,a⟩
 have:=(L7.1 a).1;simp only[Mc,NL]at this;obtain rfl:j=rs.length:=by omega
 rw[Mw (by omega),show rs.length-rv.length=0 by omega]at b;rw[Mw (L5 _),M4]at a;simp only[MW,MN]at b a;exact .inl ⟨Z,b.symm,a.symm⟩
theorem g7{d k e sz:Nat}(B:o.op=.move (.const (.slice none 0 0))\/o.op=.assign (.const (.slice none 0 0)))(F:o.guard=none)(L:o.dst=some d)(M:Nat.blt d n=true)(U:rs.length=k){rs':List (Option Row)}(H:rs++[some ⟨e,sz,[],false⟩]=rs')(K:AOps w0 G0 ops rest Q ⟨n,(d,.own k)::sl,bs,rs'⟩):AOps w0 G0 ops (o::rest) Q ⟨n,sl,bs,rs⟩:=by
 subst H U;refine eD F (S':=⟨n,(d,.own rs.length)::sl,bs,rs++[some ⟨e,sz,[],false⟩]⟩) ?_ K;rintro a w ⟨bx,rv,m,z,E,C⟩;have c:rv.length=rs.length:=m.nr;have x:∀b,b∈cq bx (rv++[.slice none 0 0]) (rs++[some ⟨e,sz,[],false⟩])->b∈cq bx rv rs:=fun b I=>by
  rcases aX.1 I with f|⟨j,u,X,f,s,p⟩
  ·exact aX.2 (.inl f)
  rcases cS c j u X f s with⟨_,rfl,_⟩|⟨_,q,t⟩
  ·simp[Value.ownBlock]at p
  exact aX.2 (.inr ⟨j,u,X,q,t,p⟩)
 have l:∀b,b<w.heap.size->¬GG G0 bx rv rs b->w.heap[b]? =w.heap[b]? /\¬GG G0 bx (rv++[.slice none 0 0]) (rs++[some ⟨e,sz,[],false⟩]) b:=fun b _ N=>⟨Z,fun h=>N (h.imp id (x b))⟩
 have G:∀j u,fh rv rs j=some u->fh (rv++[.slice none 0 0]) (rs++[some ⟨e,sz,[],false⟩]) j=some u:=fun j u h=>by
  unfold fh at h⊢;cases J:rs[j]? with
  |none=>simp[J]at h
  |some r=>
   have P:=(L7.1 J).1;rw[ME P,ME (by omega)];exact h
 have y:∀{us ts},FT (en w G0 bx rv rs) us ts->FT (en w G0 bx (rv++[.slice none 0 0]) (rs++[some ⟨e,sz,[],false⟩])) us ts:=fun h=>h.mono (L5 _) l (fun _ _ h=>h) G
 refine aq (v:=.slice none 0 0) (W':=w) ?_ ⟨bx,rv++[.slice none 0 0],⟨m.below,m.env0,m.g0,m.nb,by simp[c],fun i g R=>?_,fun j u X f s=>?_,⟨m.nodup.bb,fun j u X b f s p=>?_,fun i j u v X Y b D f s p q t A=>?_⟩,fun b I=>m.ge b (x b I)⟩,by rw[dB];exact z,by rw[cH,E],?_⟩
 ·rcases B with B|B<;>simp[execOp,B,cA]
 ·obtain⟨ty,cs,us,f,s,p,q⟩:=m.box i g R;exact⟨ty,cs,us,f,s,y p,q⟩
 ·rcases cS c j u X f s with⟨_,rfl,rfl⟩|⟨_,q,t⟩
  ·exact⟨[],World.ownsRow_nil _ _ _ _,.nil,⟨(fun _ h=>by cases h),fun h=>by cases h⟩,(fun g F=>by cases F)⟩
  obtain⟨xs,A,W,O,V⟩:=m.row j u X q t;exact⟨xs,A,W.mono (L5 _) l,O,V⟩
 ·rcases cS c j u X f s with⟨_,rfl,_⟩|⟨_,q,t⟩
  ·simp[Value.ownBlock]at p
  exact m.nodup.br j u X b q t p
 ·rcases cS c i u X f s with⟨_,rfl,_⟩|⟨_,S,a2⟩
  ·simp[Value.ownBlock]at t
  rcases cS c j v Y p q with⟨_,rfl,_⟩|⟨_,b1,T⟩
  ·simp[Value.ownBlock]at A
  exact m.nodup.rr i j u v X Y b D S a2 b1 T t A
 intro i;rw[ga a o.dst _ n z (by rw[L];simpa[cT,Nn]using M),L];show FT _ _ [look ((d,.own rs.length)::sl) i]
 rw[cV];simp only[MN];split
 ·refine .own _ 0 0 none ?_ .nil;show fh (rv++[.slice none 0 0]) (rs++[some ⟨e,sz,[],false⟩]) rs.length=_
  unfold fh;rw[Mw (L5 _),M4,Mw (by omega),show rs.length-rv.length=0 by omega];rfl
 exact y (C i)
end
end Go.Proofs.YtfoejfohbkmmeaaGreatDoor
