import Derived.Test.YtfoejfohbkmmeaaGreatDoorQ16
import Derived.Test.YtfoejfohbkmmeaaGreatDoorQ03
import Derived.Laws.BitsAllLaws
import Derived.Laws.Bits64
import Derived.Test.YtfoejfohbkmmeaaGreatDoorQ00
import Derived.Test.YtfoejfohbkmmeaaGreatDoorQ14
import Derived.Test.YtfoejfohbkmmeaaGreatDoorQ02
import Derived.Test.YtfoejfohbkmmeaaGreatDoorQ12
set_option maxRecDepth 100000
set_option maxHeartbeats 4000000
namespace Go.Proofs.YtfoejfohbkmmeaaGreatDoor
open Go.RowKit
open Lib renaming hid→J
def V.ok(v:V):Bool:=be v.t v.n v.s
theorem xo(a b:Int):eu b a= -eu a b:=by
 by_cases h:a<b
 ·rw[gj h,mG h];rfl
 by_cases c:b<a
 ·rw[gj c,mG c]
 rw[jR h c,jR c h];rfl
theorem dn(a b:Int):eu a b= -1/\a<b\/eu a b=0/\a=b\/eu a b=1/\b<a:=by
 by_cases h:a<b
 ·exact .inl ⟨gj h,h⟩
 by_cases c:b<a
 ·exact .inr (.inr ⟨mG c,c⟩)
 exact .inr (.inl ⟨jR h c,by omega⟩)
theorem fA{a b c:Int}(h:a≠0):yM a b c=a:=by simp[yM,h]
theorem eQ{b c:Int}(h:b≠0):yM 0 b c=b:=by simp[yM,h]
theorem kx(c:Int):yM 0 0 c=c:=by simp[yM]
theorem EO(a b:Int)(f:ByteArray)(c nb:Int)(d:ByteArray):gS c nb d a b f= -gS a b f c nb d:=by
 have g:=xo a c;have h:=xo b nb;have i:=ks f.data.toList d.data.toList;unfold gS;rw[g,h,i];rcases dn a c with⟨e,_⟩|⟨e,_⟩|⟨e,_⟩<;>rw[e]
 ·simp[yM]
 ·rcases dn b nb with⟨e,_⟩|⟨e,_⟩|⟨e,_⟩<;>rw[e]<;>simp[yM]
 simp[yM]
theorem zz(b c:Int)(f:ByteArray)(d nb:Int)(a:ByteArray): -1<=gS b c f d nb a/\gS b c f d nb a<=1:=by
 have g:=gl f.data.toList a.data.toList;unfold gS;rcases dn b d with⟨e,_⟩|⟨e,_⟩|⟨e,_⟩<;>rw[e]
 ·simp[yM]
 ·rcases dn c nb with⟨e,_⟩|⟨e,_⟩|⟨e,_⟩<;>rw[e]<;>simp[yM]
  omega
 simp[yM]
theorem G5(d f:Int)(c:ByteArray)(g nb:Int)(b:ByteArray):gS d f c g nb b=0↔d=g/\f=nb/\c=b:=by
 have j:=iP c.data.toList b.data.toList;have i:c.data.toList=b.data.toList↔c=b:=⟨fun h=>by rw[<-iY c,<-iY b,h],fun h=>by rw[h]⟩;unfold gS;rcases dn d g with⟨e,h⟩|⟨e,h⟩|⟨e,h⟩<;>rw[e]
 ·rw[fA (by decide)];constructor
  ·intro a;omega
  rintro⟨a,_⟩;omega
 ·rcases dn f nb with⟨e,a⟩|⟨e,a⟩|⟨e,a⟩<;>rw[e]
  ·rw[eQ (by decide)];constructor
   ·intro a;omega
   rintro⟨_,a,_⟩;omega
  ·rw[kx,j,i];exact⟨fun x=>⟨h,a,x⟩,fun x=>x.2.2⟩
  rw[eQ (by decide)];constructor
  ·intro a;omega
  rintro⟨_,a,_⟩;omega
 rw[fA (by decide)];constructor
 ·intro a;omega
 rintro⟨a,_⟩;omega
theorem zA(d f:Int)(p:ByteArray)(k nb:Int)(o:ByteArray)(c nc:Int)(sc:ByteArray)(j:gS d f p k nb o<=0)(e:gS k nb o c nc sc<=0):gS d f p c nc sc<=0:=by
 have q:=ju p.data.toList o.data.toList sc.data.toList;unfold gS at*;rcases dn d k with⟨n,h⟩|⟨n,h⟩|⟨n,h⟩
 ·rcases dn k c with⟨b,i⟩|⟨b,i⟩|⟨b,i⟩
  ·rw[gj (show d<c by omega),fA (by decide)];omega
  ·rw[gj (show d<c by omega),fA (by decide)];omega
  rw[b,fA (by decide)]at e;omega
 ·rcases dn k c with⟨b,i⟩|⟨b,i⟩|⟨b,i⟩
  ·rw[gj (show d<c by omega),fA (by decide)];omega
  ·rw[show eu d c=0 from jR (by omega) (by omega)];rw[n]at j;rw[b]at e;rcases dn f nb with⟨m,g⟩|⟨m,g⟩|⟨m,g⟩
   ·rcases dn nb nc with⟨a,l⟩|⟨a,l⟩|⟨a,l⟩
    ·rw[gj (show f<nc by omega),eQ (by decide)];omega
    ·rw[gj (show f<nc by omega),eQ (by decide)];omega
    rw[a,eQ (by decide)]at e;omega
   ·rcases dn nb nc with⟨a,l⟩|⟨a,l⟩|⟨a,l⟩
    ·rw[gj (show f<nc by omega),eQ (by decide)];omega
    ·rw[show eu f nc=0 from jR (by omega) (by omega),kx];rw[m,kx]at j;rw[a,kx]at e;exact q j e
    rw[a,eQ (by decide)]at e;omega
   rw[m,eQ (by decide)]at j;omega
  rw[b,fA (by decide)]at e;omega
 rw[n,fA (by decide)]at j;omega
def gd(a b:V):Int:=gS a.t a.n a.s b.t b.n b.s
def aO:List V->List V->Int
 |[],[]=>0
 |[],_::_=> -1
 |_::_,[]=>1
 |a::l,b::m=>if gd a b=0 then aO l m else gd a b
theorem ui(l m:List V)(k:Nat)(b:k<l.length)(a:k<m.length):aO (l.drop k) (m.drop k)=if gd l[k] m[k]=0 then aO (l.drop (k+1)) (m.drop (k+1))else gd l[k] m[k]:=by
 rw[Md b,Md a,aO]
theorem qI(A B:Option Addr)(c d:Nat)(l m:List V)(w:World)(h:At w w.heap.size A (co l))(P:At w w.heap.size B (co m))(hl:l.length<=65536)(_hm:m.length<=65536):
  Calls Tryz.prog 123 #[.slice A l.length c,.slice B m.length d,.func (.func 124) #[] #[]] w fun e w'=>e=.returned (.int .i64 (aO l m))/\Below w.heap.size w w':=by
 have HA:=J h;have S:=J P;clear h P
 go_enter Tryz.func123,Tryz.ntmps123
 go_wp2
 go_loopw [13] (fun i wr=>∃k:Nat,k<=l.length/\k<=m.length/\i=.int .i64 k/\aO l m=aO (l.drop k) (m.drop k)/\Below w.heap.size w wr) (fun i _=>l.length-(intOf i).toNat)
 case atStart=>exact⟨0,Mx _,Mx _,Z,Z,Below.refl _ _⟩
 case round=>
  obtain⟨k,hk,Y,rfl,C,g⟩:=hrel;have z:=J C;have a:=J g;have G:=J (HA.out.below g);have M:=J (S.out.below g);clear C g;by_cases u:k<l.length
  ·obtain⟨b1,o1,rfl,X,Q,R,O⟩:=G.out.val u;by_cases p:k<m.length
   ·obtain⟨L,I,rfl,a0,H,K,F⟩:=M.out.val p;have j:=a.out.size;have v:∀o:Obj,(wr.alloc o).cell? ⟨L,I+k*3,none⟩=some (.int .i64 m[k].t):=fun o=>(World.cell?_alloc_lt wr o _ (by simp;omega)).trans H
    have y:∀o:Obj,(wr.alloc o).cell? ⟨L,I+k*3+1,none⟩=some (.int .i64 m[k].n):=fun o=>(World.cell?_alloc_lt wr o _ (by simp;omega)).trans K
    have D:∀o:Obj,(wr.alloc o).cell? ⟨L,I+k*3+2,none⟩=some (.string m[k].s):=fun o=>(World.cell?_alloc_lt wr o _ (by simp;omega)).trans F
    have f:=J (ui l m k u p);obtain⟨x,E⟩:∃x,gd l[k] m[k]=x:=⟨_,rfl⟩;have f:Hid (aO (l.drop k) (m.drop k)=if x=0 then aO (l.drop (k+1)) (m.drop (k+1))else x):=by rw[<-E];exact f
    have N:Hid (∀W:World,Calls Tryz.prog 124 #[.agg #[.int .i64 l[k].t,.int .i64 l[k].n,.string l[k].s],.agg #[.int .i64 m[k].t,.int .i64 m[k].n,.string m[k].s]] W fun e w'=>e=.returned (.int .i64 x)/\Below W.heap.size W w'):=fun W=>by
     have:=qf l[k].t l[k].n l[k].s m[k].t m[k].n m[k].s W;rwa[show gS l[k].t l[k].n l[k].s m[k].t m[k].n m[k].s=x from E]at this
    clear E;by_cases q:x=0
    ·subst q
     go_wp2_with fail
     clear H K F v y D Q R O;refine(N.out _).mono ?_;rintro e U ⟨rfl,b⟩;have r:=J b;clear b
     go_wp2
     go_roundw
     case rel=>
      refine⟨k+1,by omega,by omega,by go_num,by rw[z.out,f.out];simp,?_⟩;exact(((a.out.alloc j _).alloc (by simp;omega) _).trans (r.out.mono (by simp;omega)))
     case measure=>simp[intOf];omega
    have a1:(x !=0)=true:=by simpa using q
    have T:(x==0)=false:=by simpa using q
    go_wp2_with fail
    clear H K F v y D Q R O;refine(N.out _).mono ?_;rintro e U ⟨rfl,b⟩;have r:=J b;clear b
    go_wp2
    go_ret
    exact⟨by rw[z.out,f.out,if_neg q];rfl,(((a.out.alloc j _).alloc (by simp;omega) _).trans (r.out.mono (by simp;omega)))⟩
   have f:=J (show aO (l.drop k) (m.drop k)=1 by
    rw[Md u,Mg (l:=m) (by omega)];rfl)
   have j:=a.out.size
   go_wp2
   go_ret
   exact⟨by rw[z.out,f.out];rfl,a.out.alloc j _⟩
  by_cases p:k<m.length
  ·have f:=J (show aO (l.drop k) (m.drop k)= -1 by
    rw[Md p,Mg (l:=l) (by omega)];rfl)
   go_wp2
   go_ret
   exact⟨by rw[z.out,f.out];rfl,a.out⟩
  have f:=J (show aO (l.drop k) (m.drop k)=0 by
   rw[Mg (l:=l) (by omega),Mg (l:=m) (by omega)];rfl)
  go_wp2
  go_ret
  exact⟨by rw[z.out,f.out];rfl,a.out⟩
theorem zB(A B:Option Addr)(c d:Nat)(l m:List V)(w:World)(h:At w w.heap.size A (co l))(a:At w w.heap.size B (co m))(b:l.length<=65536)(f:m.length<=65536):
  Calls Tryz.prog 64 #[.slice A l.length c,.slice B m.length d] w fun e w'=>e=.returned (.int .i64 (aO l m))/\Below w.heap.size w w':=by
 have i:=J (qI A B c d l m w h a b f);clear h a
 go_enter Tryz.func64,Tryz.ntmps64
 go_wp2_with fail
 refine i.out.mono ?_;rintro e w' ⟨rfl,g⟩
 go_wp2
 go_ret
 exact⟨Z,g⟩
end Go.Proofs.YtfoejfohbkmmeaaGreatDoor
namespace Go.Proofs.YtfoejfohbkmmeaaGreatDoor
theorem mb(l:List Nat)(k:Nat)(a:k<=l.length):aB l=aB (l.take k)+4294967296^k*aB (l.drop k):=by
 have h:=eg (l.take k) (l.drop k);rw[M8,Mf,Nl a]at h;exact h
theorem jv(l:List Nat)(k:Nat)(a:k<l.length):aB (l.drop k)=l[k]+4294967296*aB (l.drop (k+1)):=by
 rw[Md a,aB]
theorem zC(l:List Nat)(k:Nat)(a:k<l.length):aB (l.take (k+1))=aB (l.take k)+4294967296^k*l[k]:=by
 rw[Mq a,eg,Mf,Nl (by omega)];simp[aB]
theorem Digs.take{l:List Nat}(h:Digs l)(k:Nat):Digs (l.take k):=fun d a=>h d (MC a)
theorem Digs.drop{l:List Nat}(h:Digs l)(k:Nat):Digs (l.drop k):=fun d a=>h d (M2 a)
theorem Digs.get{l:List Nat}(h:Digs l)(k:Nat)(a:k<l.length):l[k]<4294967296:=h _ (MY a)
theorem zD{X V P c b f d e a g r:Nat}(i:X=(a*4294967296+d)*P+e)(j:e<P)(l:V=(c*4294967296+b)*P+f)(m:a=g*c+r)(h:r*4294967296+d<g*b):X<g*V:=by
 have k:a*4294967296+d+1<=g*(c*4294967296+b):=by
  rw[m,MF,M3,<-Mu];omega
 have n:(a*4294967296+d+1)*P<=g*(c*4294967296+b)*P:=MJ _ k;have o:g*V=g*(c*4294967296+b)*P+g*f:=by rw[l,MF,Mu]
 rw[o,i];rw[M3 _ 1]at n;omega
theorem zE{X V P b c d e l a g r:Nat}(p:X=(a*4294967296+e)*P+l)(k:V=(b*4294967296+c)*P+d)(o:d<P)(j:0<b)(i:a=g*b+r)(h:g*c<=r*4294967296+e)(u:g<4294967296):g<=X/V+1:=by
 have m:g*(b*4294967296+c)<=a*4294967296+e:=by
  rw[i,MF,M3,<-Mu];omega
 have s:g*(b*4294967296+c)*P<=(a*4294967296+e)*P:=MJ _ m;have q:g*V=g*(b*4294967296+c)*P+g*d:=by rw[k,MF,Mu]
 have v:g*d<=4294967295*P:=NU (by omega) (by omega);have t:4294967296*P<=(b*4294967296+c)*P:=MJ _ (by omega);have f:0<V:=by omega
 have n:g*V<X+V:=by omega
 cases g with
 |zero=>exact Mx _
 |succ g=>
  rw[M3,Og]at n;have:g<=X/V:=(Qd f).2 (by omega);omega
structure Guess (us vs:List Nat) (n:Nat):Prop where
 n2:2<=n
 lu:us.length=n+1
 lv:vs.length=n
 du:Digs us
 dv:Digs vs
 top:∀h:n-1<vs.length,2147483648<=vs[n-1]
 lt:aB us<4294967296*aB vs
def EP(X V v1 top g r:Nat):Prop:=top=g*v1+r/\r<4294967296/\X/V<=g
theorem Guess.parts{us vs:List Nat}{n:Nat}(h:Guess us vs n)(q:n<us.length)(w:n-1<us.length)(r:n-2<us.length)(x:n-1<vs.length)(t:n-2<vs.length):
  aB us=((us[n]*4294967296+us[n-1])*4294967296+us[n-2])*4294967296^(n-2)+aB (us.take (n-2))/\aB (us.take (n-2))<4294967296^(n-2)/\
  aB vs=(vs[n-1]*4294967296+vs[n-2])*4294967296^(n-2)+aB (vs.take (n-2))/\aB (vs.take (n-2))<4294967296^(n-2):=by
 have u:=h.n2;have i:=h.lu;have k:=h.lv;have f:=mb us (n-2) (by omega);have v:=jv us (n-2) (by omega);have p:=jv us (n-2+1) (by omega);have c:=jv us (n-2+1+1) (by omega);have o:us.drop (n-2+1+1+1)=[]:=Mg (by omega);have m:=mb vs (n-2) (by omega);have s:=jv vs (n-2) (by omega);have a:=jv vs (n-2+1) (by omega);have g:vs.drop (n-2+1+1)=[]:=Mg (by omega);rw[o,aB]at c;rw[g,aB]at a;have j:us[n-2+1]'(by omega)=us[n-1]:=getElem_congr_idx (by omega);have e:us[n-2+1+1]'(by omega)=us[n]:=getElem_congr_idx (by omega);have l:vs[n-2+1]'(by omega)=vs[n-1]:=getElem_congr_idx (by omega);rw[e]at c;rw[j]at p;rw[l]at a;have d:=b4 (us.take (n-2)) (h.du.take _);have b:=b4 (vs.take (n-2)) (h.dv.take _);rw[Mf,Nl (by omega)]at d b;refine⟨?_,d,?_,b⟩
 ·rw[f,Mt (4294967296^(n-2)),NW];congr 2;omega
 rw[m,Mt (4294967296^(n-2)),NW];congr 2;omega
theorem Guess.first{us vs:List Nat}{n:Nat}(h:Guess us vs n)(c:n<us.length)(f:n-1<vs.length):us[n]<=vs[n-1]:=by
 have p:=h.n2;have e:=h.lu;have i:=h.lv;obtain⟨g,_,m,q⟩:=h.parts c (by omega) (by omega) f (by omega);have j:=h.lt;have k:=h.dv.get (n-2) (by omega);have b:0<4294967296^(n-2):=NN (by decide);generalize o:4294967296^(n-2)=P at*;generalize us[n]=u0 at*;generalize us[n-1]'(by omega)=u1 at*;generalize us[n-2]'(by omega)=u2 at*;generalize vs[n-1]'(by omega)=v1 at*;generalize vs[n-2]'(by omega)=v2 at*;rcases MI v1 u0 with a|a
 ·exfalso;have d:(v1*4294967296+v2+1)*P<=(u0*4294967296)*P:=MJ _ (by omega);have l:4294967296*((u0*4294967296)*P)<=aB us:=by
   rw[g,<-Mu];have:4294967296*(u0*4294967296)*P<=((u0*4294967296+u1)*4294967296+u2)*P:=MJ _ (by omega);omega
  rw[M3 _ 1,Og]at d;have:aB vs<(u0*4294967296)*P:=by omega
  omega
 exact a
theorem uj{u lo bo:Nat}(e:u<4294967296)(d:lo<4294967296)(c:bo<=1):∃b a:Nat,((u:Int)-lo-bo)%18446744073709551616%4294967296=(b:Int)/\((u:Int)-lo-bo)%18446744073709551616/9223372036854775808=(a:Int)/\b<4294967296/\a<=1/\b+lo+bo=u+a*4294967296:=by
 by_cases h:lo+bo<=u
 ·exact⟨u-lo-bo,0,by omega,by omega,by omega,by omega,by omega⟩
 exact⟨u+4294967296-lo-bo,1,by omega,by omega,by omega,by omega,by omega⟩
theorem CR{A V U c bo f d u b e a t lo P:Nat}(h:A+f*V=U+(c+bo)*P)(l:t=f*d+c)(i:t=lo+4294967296*e)(n:b+lo+bo=u+a*4294967296):
  (A+P*b)+f*(V+P*d)=(U+P*u)+(e+a)*(P*4294967296):=by
 have j:b+f*d+c+bo=u+(e+a)*4294967296:=by omega
 have o:P*(b+f*d+c+bo)=P*(u+(e+a)*4294967296):=by rw[j]
 have k:P*(b+f*d+c+bo)=P*b+P*(f*d)+(c+bo)*P:=by rw[show b+f*d+c+bo=b+f*d+(c+bo) by omega,MF,MF,Mt P (c+bo)]
 have m:P*(u+(e+a)*4294967296)=P*u+(e+a)*(P*4294967296):=by rw[MF,<-Mu,Mt P (e+a),Mu]
 have g:f*(V+P*d)=f*V+P*(f*d):=by rw[MF,NO]
 rw[g];omega
theorem CS{A V U c d u t P:Nat}(h:A+c*P=U+V)(a:t=u+d+c):(A+P*(t%4294967296))+t/4294967296*(P*4294967296)=(U+P*u)+(V+P*d):=by
 have e:P*(t%4294967296)+t/4294967296*(P*4294967296)=P*t:=by
  rw[<-Mu,Mt (t/4294967296) P,Mu,<-MF];congr 1;omega
 have b:P*t=P*u+P*d+c*P:=by rw[a,MF,MF,Mt c P]
 omega
theorem CT{X V g s:Nat}(a:0<V)(c:X/V<=g)(e:g<=X/V+1)(h:s+g*V=X):g=X/V/\s=X%V:=by
 have b:=Oe X V;have d:=Ni X a;have f:g<=X/V:=(Qd a).2 (by omega);obtain rfl:g=X/V:=by omega
 rw[Mt V]at b;exact⟨Z,by omega⟩
theorem CU{X V M g s t k:Nat}(a:0<V)(c:V<=M)(i:X/V<=g)(m:g<=X/V+1)(n:s<M)(h:s+g*V=X+M)(l:t<M)(o:t+k*M=s+V):g=X/V+1/\t=X%V:=by
 have f:=Oe X V;have j:=Ni X a;have d:X<g*V:=by omega
 have b:g≠X/V:=fun e=>by
  rw[e,Mt]at d;omega
 obtain rfl:g=X/V+1:=by omega
 rw[M3,Og,Mt _ V]at h;have e:t+k*M=X%V+M:=by omega
 refine⟨Z,?_⟩
 match k with
 |0=>omega
 |1=>omega
 |k+2=>
  exfalso;rw[M3]at e;omega
def shr(n:Nat):List Nat->List Nat
 |[]=>[]
 |d::l=>(d/2^n+l.headD 0%2^n*2^(32-n))::shr n l
theorem gn(n:Nat):∀l,(shr n l).length=l.length
 |[]=>rfl
 |d::l=>by simp[shr,gn n l]
theorem se{n:Nat}(h:n<32):2^n*2^(32-n)=4294967296:=by
 rw[<-N2,show n+(32-n)=32 by omega]
theorem CV{n:Nat}(h:n<32)(l:List Nat):aB l%2^n=l.headD 0%2^n:=by
 cases l with
 |nil=>simp[aB]
 |cons d l=>
  have e:=se h;simp only[aB,List.headD_cons];rw[<-e,Mu,O4]
theorem BM{n:Nat}(h:n<32):∀l,aB (shr n l)=aB l/2^n
 |[]=>by simp[shr,aB]
 |d::l=>by
  have b:0<2^n:=NN (by decide);have e:=se h;simp only[shr,aB];rw[BM h l,<-CV h l];generalize aB l=M;rw[<-e,show d+2^n*2^(32-n)*M=d+2^n*(2^(32-n)*M) by rw[Mu],Pz _ _ b];have a:=Oe M (2^n);have:2^(32-n)*M=M%2^n*2^(32-n)+2^n*2^(32-n)*(M/2^n):=by
   conv=>lhs;rw[<-a,MF]
   rw[NW,Mt (2^(32-n)) (M%2^n),Mt (2^n) (2^(32-n)),Mu]
  omega
theorem xp{n:Nat}(h:n<32):∀l,Digs l->Digs (shr n l)
 |[],_=>fun d i=>by simp[shr]at i
 |d::l,hl=>fun x a=>by
  have b:0<2^n:=NN (by decide);have e:=se h;rcases Mi.1 a with rfl|a
  ·have c:d<4294967296:=hl d (Mr ..);have j:d/2^n<2^(32-n):=by
    rw[Nz b,Mt,e];exact c
   have g:(l.headD 0%2^n+1)*2^(32-n)<=2^n*2^(32-n):=MJ _ (Ni _ b);rw[M3,Og,e]at g;omega
  exact xp h l (fun y f=>hl y (MB _ f)) x a
theorem vQ(n:Nat):∀(l:List Nat) (i:Nat) (h:i<l.length) (a:i<(shr n l).length),(shr n l)[i]=l[i]/2^n+(l.drop (i+1)).headD 0%2^n*2^(32-n)
 |d::l,0,_,_=>by simp[shr]
 |d::l,i+1,h,a=>by
  have:=vQ n l i (by simpa using h) (by rw[gn];simpa using h);simpa[shr]using this
theorem EQ{A N c d n P:Nat}(a:n<32)(h:A+c*P=2^n*N):(A+P*(d*2^n%4294967296+c))+d/2^(32-n)*(P*4294967296)=2^n*(N+P*d):=by
 have e:=se a;have g:0<2^n:=NN (by decide);have b:d*2^n/4294967296=d/2^(32-n):=by
  rw[<-e,Mt d,Nat.mul_div_mul_left _ _ g]
 have f:=Oe (d*2^n) 4294967296;rw[b]at f;have j:P*(d*2^n%4294967296+c)+d/2^(32-n)*(P*4294967296)=P*(d*2^n)+c*P:=by
  rw[MF,NO (d/2^(32-n)),Mt (d/2^(32-n)),Mt P c,Qs,<-MF];congr 2;omega
 have i:2^n*(N+P*d)=2^n*N+P*(d*2^n):=by
  rw[MF,NO,Mt (2^n) d]
 rw[i,<-h];omega
theorem CW{d n:Nat}(a:n<32)(b:d<4294967296):d/2^(32-n)<2^n:=by
 have e:=se a;rw[Nz (NN (by decide)),e];exact b
theorem G6{d n c:Nat}(b:n<32)(f:c<2^n):(d*2^n%4294967296)|||c=d*2^n%4294967296+c/\d*2^n%4294967296+c<4294967296:=by
 have e:=se b;have i:0<2^n:=NN (by decide);have g:d*2^n%4294967296=d%2^(32-n)*2^n:=by
  rw[<-e,Mt (2^n),Qe]
 rw[g];have a:d%2^(32-n)+1<=2^(32-n):=Ni _ (NN (by decide));have h:(d%2^(32-n)+1)*2^n<=2^(32-n)*2^n:=MJ _ a;rw[M3,Og,Mt (2^(32-n)),e]at h;refine⟨?_,by omega⟩;rw[<-Oj,NF f]
end Go.Proofs.YtfoejfohbkmmeaaGreatDoor
namespace Go.Proofs.YtfoejfohbkmmeaaGreatDoor
open Go.RowKit
open Lib renaming hid→J
def ShlInv(w:World)(n sz:Nat)(ds:List Nat)(c i:Value)(wr:World):Prop:=
 ∃(k cy:Nat) (out:List Nat),k<=ds.length/\i=.int .i64 k/\c=.int .u32 cy/\cy<2^n/\out.length=k/\Digs out/\OwnN wr w.heap.size (.slice (some ⟨w.heap.size,0,none⟩) sz sz) (out++List.replicate (sz-k) 0)/\aB out+cy*4294967296^k=2^n*aB (ds.take k)/\Below w.heap.size w wr/\w.heap.size<wr.heap.size
def G7(w:World)(n sz:Nat)(ds:List Nat)(e:Ending)(w':World):Prop:=
 ∃out cy,e=.returned (.slice (some ⟨w.heap.size,0,none⟩) sz sz)/\OwnN w' w.heap.size (.slice (some ⟨w.heap.size,0,none⟩) sz sz) out/\Digs out/\out.length=sz/\(sz=ds.length+1->cy=0)/\aB out+cy*4294967296^sz=2^n*aB ds/\Below w.heap.size w w'
theorem pG{n a:Nat}(e:n<32)(b:a<2^n):a<4294967296:=by
 have c:(2:Nat)^n<=2^32:=MP (by decide) (by omega);have d:(2:Nat)^32=4294967296:=by decide
 omega
theorem xq{w wr:World}{n sz k f x:Nat}{c a:List Nat}{i:Int}(g:n<32)(v:sz=c.length\/sz=c.length+1)(r:k<c.length)(t:c[k]=x)(e:x<4294967296)(b:a.length=k)(l:Digs a)(s:f<2^n)(h:OwnN wr w.heap.size (.slice (some ⟨w.heap.size,0,none⟩) sz sz) (a++List.replicate (sz-k) 0))(C:aB a+f*4294967296^k=2^n*aB (c.take k))(u:Below w.heap.size w wr)(A:w.heap.size<wr.heap.size)(D:i=((k+1:Nat):Int)):
  ShlInv w n sz c (.int .u32 ((x:Int)/2^(32-n)%4294967296)) (.int .i64 i) (wr.setCell ⟨w.heap.size,k,none⟩ (.int .u32 (bits .or .u32 ((x:Int)*2^n%4294967296) (f:Int)))):=by
 subst D;obtain⟨B,z⟩:=G6 (d:=x) g s;have o:=CW g e;have j:=pG g s;have E:=pG g o;have m:((x:Int)*2^n%4294967296)=((x*2^n%4294967296:Nat):Int):=by simp
 have y:((x:Int)/2^(32-n)%4294967296)=((x/2^(32-n):Nat):Int):=by
  have:((x/2^(32-n):Nat):Int)=(x:Int)/2^(32-n):=by simp
  rw[<-this];clear m this;generalize x/2^(32-n)=q at*;omega
 rw[m,y,u32_or_nat _ _ (Ni _ (by decide)) j,B];refine⟨k+1,_,a++[x*2^n%4294967296+f],r,Z,Z,o,by simp[b],dO l z,?_,?_,u.setCell (p:=⟨w.heap.size,k,none⟩) (L5 _) _,by simpa[World.setCell]using A⟩
 ·have:=h.put (i:=k) (by simp[b];omega) _ (x*2^n%4294967296+f) Z;rw[show sz-k=sz-(k+1)+1 by omega,jU _ _ _ _ b]at this;exact this
 rw[dm a _ k b,cQ c k r,t,MM];exact EQ g C
theorem BN(A:Option Addr)(c:Nat)(a:List Nat)(n sz:Nat)(w:World)(h:IsN w A c a)(hl:a.length<=1048577)(V:n<32)(P:sz=a.length\/sz=a.length+1):
  Calls Tryz.prog 268 #[.slice A a.length c,.int .u64 n,.int .i64 sz] w (G7 w n sz a):=by
 have Y:=J h;clear h;obtain⟨W,u,C,D,T⟩:=eF w sz (by omega);have u:=u .i64 .i64;have I:=J C;have L:=J D;have G:w.heap.size<W.heap.size:=by omega
 clear C D T
 go_enter Tryz.func268,Tryz.ntmps268
 go_wp2
 clear u
 go_loopw [8,15] (fun cr i wr=>ShlInv w n sz a cr i wr) (fun _ i _=>a.length-(intOf i).toNat)
 case atStart=>exact⟨0,0,[],Mx _,Z,Z,NN (by decide),Z,fun d hd=>by simp at hd,by simpa using I.out,by simp[aB],L.out,G⟩
 case round=>
  obtain⟨k,o,g,hk,rfl,rfl,X,y,E,v,F,z,N⟩:=hrel;have f:=J v;have R:=J F;have j:=J z;have b:=J y;have t:=J E;have U:=J X;clear v F z y E X;by_cases l:k<a.length
  ·obtain⟨bx,ox,rfl,a1,B⟩:=(Y.out.below j.out).digit l;have cx:=B k l;have m:=Y.out.lt l;obtain⟨x,H⟩:∃x,a[k]=x:=⟨_,rfl⟩;rw[H]at cx m;have HX:=J H;have M:=f.out.free k;have q:=f.out.cell (i:=k) (by have:=b.out;simp;omega);obtain⟨old,e⟩:∃old,(g++List.replicate (sz-k) 0)[k]'(by have:=b.out;simp;omega)=old:=⟨_,rfl⟩;rw[e]at q;clear B H e
   go_wp2
   go_roundw
   case rel=>exact xq V P l HX.out m b.out t.out U.out f.out R.out j.out N (by omega)
   case measure=>simp[intOf];omega
  obtain rfl:k=a.length:=by omega
  by_cases a0:a.length<sz
  ·have M:=f.out.free a.length;have q:=f.out.cell (i:=a.length) (by have:=b.out;simp;omega);obtain⟨old,e⟩:∃old,(g++List.replicate (sz-a.length) 0)[a.length]'(by have:=b.out;simp;omega)=old:=⟨_,rfl⟩;rw[e]at q;clear e;have s:o<4294967296:=pG V U.out;have Q:=f.out.put (i:=a.length) (by have:=b.out;simp;omega) (o:Int) o Z;rw[show sz-a.length=0+1 by omega,jU _ _ _ _ b.out,NI,MA]at Q;have r:=J Q;have K:=J (dO t.out s);have S:Hid (aB (g++[o])=2^n*aB a):=by
    show _=_
    have:=R.out;rw[M9]at this;rw[dm g o a.length b.out,Mt];exact this
   have O:=J (j.out.setCell (p:=⟨w.heap.size,a.length,none⟩) (L5 _) (.int .u32 (o:Int)));clear Q
   go_wp2
   go_ret
   exact⟨g++[o],0,Z,r.out,K.out,by have:=b.out;simp;omega,fun _=>rfl,by rw[S.out];simp,O.out⟩
  obtain rfl:sz=a.length:=by omega
  have r:=J (show OwnN wr w.heap.size (.slice (some ⟨w.heap.size,0,none⟩) a.length a.length) g by have:=f.out;rwa[M4,NI,MA]at this)
  go_wp2
  go_ret
  exact⟨g,o,Z,r.out,t.out,b.out,fun h=>by omega,by have:=R.out;rwa[M9]at this,j.out⟩
def ShrInv(w:World)(n:Nat)(ds:List Nat)(i:Value)(wr:World):Prop:=
 ∃k:Nat,k<=ds.length/\i=.int .i64 k/\OwnN wr w.heap.size (.slice (some ⟨w.heap.size,0,none⟩) ds.length ds.length) ((shr n ds).take k++List.replicate (ds.length-k) 0)/\Below w.heap.size w wr/\w.heap.size<wr.heap.size
theorem BO{n k g:Nat}{a:List Nat}(d:k<a.length)(c:∀h:k<(shr n a).length,(shr n a)[k]=g):((shr n a).take k++List.replicate (a.length-k) 0).set k g=(shr n a).take (k+1)++List.replicate (a.length-(k+1)) 0:=by
 have b:=gn n a;rw[show a.length-k=a.length-(k+1)+1 by omega,jU _ _ _ _ (by rw[Mf,b];omega),Mq (by omega),c (by omega)]
theorem xr{w wr:World}{n k g:Nat}{z i:Int}{a:List Nat}(c:k<a.length)(f:∀h:k<(shr n a).length,(shr n a)[k]=g)(b:OwnN wr w.heap.size (.slice (some ⟨w.heap.size,0,none⟩) a.length a.length) ((shr n a).take k++List.replicate (a.length-k) 0))(d:Below w.heap.size w wr)(e:w.heap.size<wr.heap.size)(l:z=(g:Int))(j:i=((k+1:Nat):Int)):
  ShrInv w n a (.int .i64 i) (wr.setCell ⟨w.heap.size,k,none⟩ (.int .u32 z)):=by
 subst j;refine⟨k+1,c,Z,?_,d.setCell (p:=⟨w.heap.size,k,none⟩) (L5 _) _,by simpa[World.setCell]using e⟩;have:=b.put (i:=k) (by simp[gn];omega) z g l;rwa[BO c f]at this
theorem vR{w wr:World}{n k g x:Nat}{z i:Int}{a:List Nat}(e:k<a.length)(o:∀h:k<(shr n a).length,(shr n a)[k]=g)(b:OwnN wr w.heap.size (.slice (some ⟨w.heap.size,0,none⟩) a.length a.length) ((shr n a).take k++List.replicate (a.length-k) 0))(l:Below w.heap.size w wr)(m:w.heap.size<wr.heap.size)(q:z=(g:Int))(f:i=((k+1:Nat):Int)):
  ShrInv w n a (.int .i64 i) ((wr.setCell ⟨w.heap.size,k,none⟩ (.int .u32 ((x:Int)/2^n))).setCell ⟨w.heap.size,k,none⟩ (.int .u32 z)).drew:=by
 subst f;have c:=(l.setCell (p:=⟨w.heap.size,k,none⟩) (L5 _) (.int .u32 ((x:Int)/2^n))).setCell (p:=⟨w.heap.size,k,none⟩) (L5 _) (.int .u32 z);refine⟨k+1,e,Z,?_,c.drew,by simpa[World.setCell]using m⟩;have j:=b.put (i:=k) (by simp[gn];omega) ((x:Int)/2^n) (x/2^n) (by simp);have d:=j.put (i:=k) (by simp[gn];omega) z g q;rw[List.set_set,BO e o]at d;exact d.below ((Below.refl _ _).drew)
theorem ER{n k x:Nat}{a:List Nat}(b:k<a.length)(c:a[k]=x)(d:¬k+1<a.length):∀h:k<(shr n a).length,(shr n a)[k]=x/2^n:=fun h=>by
 rw[vQ n a k b h,c,Mg (by omega)];simp
theorem G8{n k x y:Nat}{a:List Nat}(r:n<32)(o:k<a.length)(i:a[k]=x)(b:x<4294967296)(t:k+1<a.length)(w:a[k+1]=y)(f:y<4294967296):
  ∃g:Nat,(∀h:k<(shr n a).length,(shr n a)[k]=g)/\bits .or .u32 ((x:Int)/2^n) (IntKind.u64.wrap ((y:Int)*2^(32-n))%4294967296)=(g:Int):=by
 have e:=se r;have c:0<2^n:=NN (by decide);have j:0<2^(32-n):=NN (by decide);refine⟨x/2^n+y%2^n*2^(32-n),fun h=>?_,?_⟩
 ·rw[vQ n a k o h,i,Md t,w];rfl
 have p:x/2^n<2^(32-n):=by rw[Nz c,Mt,e];exact b
 have d:y*2^(32-n)%4294967296=y%2^n*2^(32-n):=by rw[<-e,Qe]
 have s:y%2^n*2^(32-n)<4294967296:=by rw[<-d];exact Ni _ (by decide)
 have A:x/2^n<=x:=NY _ _;have u:2^(32-n)<=4294967296:=by rw[<-e];exact Nat.le_mul_of_pos_left _ c
 have z:y*2^(32-n)<=4294967295*4294967296:=NU (by omega) u;have l:((x:Int)/2^n)=((x/2^n:Nat):Int):=by simp
 have m:((y:Int)*2^(32-n))=((y*2^(32-n):Nat):Int):=by simp
 have v:IntKind.u64.wrap ((y*2^(32-n):Nat):Int)%4294967296=((y%2^n*2^(32-n):Nat):Int):=by
  rw[IntKind.wrap_u64,<-d];generalize y*2^(32-n)=q at*;omega
 rw[l,m,v,u32_or_nat _ _ (by omega) s,Nat.or_comm,<-Oj,<-NF p,Oj,NW]
theorem G9(A:Option Addr)(c:Nat)(a:List Nat)(n:Nat)(w:World)(h:IsN w A c a)(hl:a.length<=1048577)(S:n<32):
  Calls Tryz.prog 272 #[.slice A a.length c,.int .u64 n] w (Gives (fun W v=>IsD W v (aB a/2^n)) w):=by
 have G:=J h;clear h;obtain⟨W,q,z,C,T⟩:=eF w a.length (by omega);have q:=q .i64 .i64;have M:=J z;have O:=J C;have F:w.heap.size<W.heap.size:=by omega
 clear z C T
 go_enter Tryz.func272,Tryz.ntmps272
 go_wp2
 clear q
 go_loopw [13] (fun i wr=>ShrInv w n a i wr) (fun i _=>a.length-(intOf i).toNat)
 case atStart=>exact⟨0,Mx _,Z,by simpa using M.out,O.out,F⟩
 case round=>
  obtain⟨k,hk,rfl,r,u,B⟩:=hrel;have f:=J r;have b:=J u;clear r u;have L:=gn n a;by_cases d:k<a.length
  ·obtain⟨bx,ox,rfl,a1,j⟩:=(G.out.below b.out).digit d;have cx:=j k d;have m:=G.out.lt d;obtain⟨x,K⟩:∃x,a[k]=x:=⟨_,rfl⟩;rw[K]at cx m;have X:=J K;have a0:=f.out.free k;have U:((shr n a).take k++List.replicate (a.length-k) 0).length=a.length:=by simp[L];omega
   have N:=f.out.cell (i:=k) (by omega);obtain⟨old,p⟩:∃old,((shr n a).take k++List.replicate (a.length-k) 0)[k]'(by omega)=old:=⟨_,rfl⟩;rw[p]at N;clear K p;by_cases l:k+1<a.length
   ·have cy:=j (k+1) l;have o:=G.out.lt l;obtain⟨y,H⟩:∃y,a[k+1]=y:=⟨_,rfl⟩;rw[H]at cy o;have HY:=J H;obtain⟨g,E,s⟩:=G8 S d X.out m l H o;have R:=J E;have I:=J s;clear j H E s
    go_wp2
    go_region
    go_wp2
    go_roundw
    case rel=>exact vR d R.out f.out b.out B I.out (by omega)
    case measure=>simp[intOf];omega
   clear j
   go_wp2
   go_roundw
   case rel=>exact xr d (ER d X.out l) f.out b.out B (by simp) (by omega)
   case measure=>simp[intOf];omega
  obtain rfl:k=a.length:=by omega
  have h1:OwnN wr w.heap.size (.slice (some ⟨w.heap.size,0,none⟩) a.length a.length) (shr n a):=by
   have:=f.out;rwa[M4,NI,MA,Me (by omega)]at this
  obtain⟨Y,V⟩:=h1.isN (xp S a G.out.ok);have HT:=J (oD Y V (by omega) (BM S a));clear h1 Y V
  go_wp2_with fail
  refine HT.out.mono ?_;rintro e w5 ⟨v5,rfl,D,t⟩;have P:=J D;have Q:=J (ak b.out t b.out.size);clear D t
  go_wp2
  go_ret
  exact⟨_,Z,P.out,Q.out⟩
end Go.Proofs.YtfoejfohbkmmeaaGreatDoor
