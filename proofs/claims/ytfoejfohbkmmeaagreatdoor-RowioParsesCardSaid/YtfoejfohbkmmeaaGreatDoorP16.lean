import Derived.Test.YtfoejfohbkmmeaaGreatDoorP15
import Derived.Test.YtfoejfohbkmmeaaGreatDoorP00
set_option maxRecDepth 100000
set_option maxHeartbeats 8000000
namespace Go.Proofs.YtfoejfohbkmmeaaGreatDoor
open Go.RowKit
open Lib renaming hid→J
theorem xV{X V P v1 v2 vl u2 xl a:Nat}(i:X=(a*4294967296+u2)*P+xl)(g:xl<P)(d:u2<4294967296)(h:V=(v1*4294967296+v2)*P+vl)(c:0<v1):X/V<=a/v1:=by
 have l:=Oa a v1;have n:=Ni a c;have j:a+1<=(a/v1+1)*v1:=by rw[M5,Mt];omega
 have m:(a+1)*(4294967296*P)<=((a/v1+1)*v1)*(4294967296*P):=ML _ j;have o:((a/v1+1)*v1)*(4294967296*P)<=(a/v1+1)*V:=by
  rw[Mu];refine Nl _ ?_;rw[h,<-Mu];have:v1*4294967296*P<=(v1*4294967296+v2)*P:=ML _ (by omega);omega
 have k:X<(a+1)*(4294967296*P):=by
  have e:(a+1)*(4294967296*P)=(a*4294967296+4294967296)*P:=by rw[<-Mu,M5 _ _ 4294967296]
  have f:(a*4294967296+u2+1)*P<=(a*4294967296+4294967296)*P:=ML _ (by omega);rw[e,i];rw[M5 _ 1]at f;omega
 have b:0<V:=by
  have:0<P:=by omega
  have:1*P<=(v1*4294967296+v2)*P:=ML _ (by omega);omega
 have:X/V<a/v1+1:=(Nt b).2 (by omega);omega
theorem Ig{t v:Nat}(a:0<v)(h:t<18446744073709551616):(t:Int)/(v:Int)%18446744073709551616=((t/v:Nat):Int):=by
 have b:t/v<=t:=NT _ _;rw[show((t:Int)/(v:Int))=((t/v:Nat):Int) by simp];generalize t/v=q at*;omega
structure GuessD (X V P v1 v2 vl u0 u1 u2 xl:Nat):Prop where
 hx:X=((u0*4294967296+u1)*4294967296+u2)*P+xl
 hxl:xl<P
 hv:V=(v1*4294967296+v2)*P+vl
 hvl:vl<P
 hv1:2147483648<=v1/\v1<4294967296
 hv2:v2<4294967296
 hu1:u1<4294967296
 hu2:u2<4294967296
 hu0:u0<=v1
 lt:X/V<4294967296
def JM(w:World)(X V:Nat)(e:Ending)(w':World):Prop:=∃g:Nat,e=.returned (.int .u64 g)/\X/V<=g/\g<=X/V+1/\g<4294967296/\Below w.heap.size w w'
def GuInv(w:World)(X V v1 top:Nat)(gv rv:Value)(wr:World):Prop:=∃g r:Nat,gv=.int .u64 g/\rv=.int .u64 r/\Fp X V v1 top g r/\g<8589934592/\Below w.heap.size w wr
section
variable {X V P v1 v2 vl u0 u1 u2 xl g r:Nat}
theorem GuessD.stop(h:GuessD X V P v1 v2 vl u0 u1 u2 xl)(c:u0*4294967296+u1=g*v1+r)(a:X/V<=g)(b:g<4294967296)(d:g*v2<=r*4294967296+u2):X/V<=g/\g<=X/V+1/\g<4294967296:=
 ⟨a,Aq h.hx h.hv h.hvl (by have:=h.hv1;omega) c d b,b⟩
theorem GuessD.big(h:GuessD X V P v1 v2 vl u0 u1 u2 xl)(f:u0*4294967296+u1=g*v1+r)(b:4294967296<=g):(g=4294967296\/r+v1<4294967296)/\g*v1=(g-1)*v1+v1:=by
 have c:=h.hv1;have a:=h.hu1;have d:u0*4294967296<=v1*4294967296:=ML _ h.hu0;refine⟨?_,?_⟩
 ·by_cases e:g=4294967296
  ·exact .inl e
  right;have i:4294967297*v1<=g*v1:=ML _ (by omega);omega
 obtain⟨k,rfl⟩:∃k,g=k+1:=⟨g-1,by omega⟩;rw[Qr,M5,Ol]
theorem xW{g v:Nat}(h:0<g):g*v=(g-1)*v+v:=by
 obtain⟨k,rfl⟩:∃k,g=k+1:=⟨g-1,by omega⟩;rw[Qr,M5,Ol]
theorem GuessD.brk(h:GuessD X V P v1 v2 vl u0 u1 u2 xl)(c:u0*4294967296+u1=g*v1+r)(a:X/V+1<=g)(d:g<=4294967296)(e:4294967296<=r+v1):X/V<=g-1/\g-1<=X/V+1/\g-1<4294967296:=by
 have b:0<g:=Mj (PA _) a;refine h.stop (r:=r+v1) (by rw[c,xW b];omega) (Qe a) (by omega) ?_;have f:(g-1)*v2<=4294967295*4294967295:=NY (by omega) (by have:=h.hv2;omega);omega
theorem GuessD.over(h:GuessD X V P v1 v2 vl u0 u1 u2 xl)(b:u0*4294967296+u1=g*v1+r)(c:r*4294967296+u2<g*v2):X/V+1<=g:=by
 have a:=Ap h.hx h.hxl h.hv b c;have d:X/V<g:=by
  rw[Nt]
  ·exact a
  refine MS fun e=>?_
  rw[e,OB]at a;omega
 omega
theorem xX{w wr:World}{t:Nat}{zg zr:Int}(h:GuessD X V P v1 v2 vl u0 u1 u2 xl)(c:u0*4294967296+u1=t)(d:zg=((t/v1:Nat):Int))(a:zr=((t%v1:Nat):Int))(b:Below w.heap.size w wr):GuInv w X V v1 t (.int .u64 zg) (.int .u64 zr) wr:=by
 subst d a;have f:=h.hv1;have e:=Ni t (show 0<v1 by omega);refine⟨_,_,Z,Z,⟨by rw[Mt];exact(Oa t v1).symm,by omega,?_⟩,?_,b⟩
 ·rw[<-c];exact xV h.hx h.hxl h.hu2 h.hv (by omega)
 rw[Nt (by omega)];have:=h.hu0;have:=h.hu1;omega
theorem GuInv.next{w wr:World}{t:Nat}{zg zr:Int}(c:Fp X V v1 t g r)(a:X/V+1<=g)(i:g<8589934592)(f:r+v1<4294967296)(h:zg=(g:Int)-1)(d:zr=(r:Int)+(v1:Int))(e:Below w.heap.size w wr):GuInv w X V v1 t (.int .u64 zg) (.int .u64 zr) wr:=by
 have b:0<g:=Mj (PA _) a;subst h d;refine⟨g-1,r+v1,by congr 1;omega,by congr 1,⟨by rw[c.1,xW b];omega,f,Qe a⟩,by omega,e⟩
end
theorem Dv(A B:Option Addr)(ca cb:Nat)(us vs:List Nat)(n:Nat)(w:World)(hA:IsN w A ca us)(hB:IsN w B cb vs)(k:Guess us vs n)(hn:n<=1048577):
  Calls Tryz.prog 269 #[.slice A us.length ca,.slice B vs.length cb] w (JM w (ay us) (ay vs)):=by
 have a9:=J hA;have a4:=J hB;have b5:=k.n2;have b0:=k.lu;have a5:=k.lv;clear hA hB;obtain⟨b1,o1,rfl,a3,u⟩:=a9.out.digit (i:=n) (by omega);obtain⟨b2,o2,rfl,Y,D⟩:=a4.out.digit (i:=n-1) (by omega);have c0:=u n (by omega);have c1:=u (n-1) (by omega);have c2:=u (n-2) (by omega);have d1:=D (n-1) (by omega);have d2:=D (n-2) (by omega);clear u D;obtain⟨px,a2,pv,P⟩:=k.parts (by omega) (by omega) (by omega) (by omega) (by omega);have pf:=k.first (by omega) (by omega);have E:us[n-1]'(by omega)<4294967296:=k.du.get _ (by omega);have C:us[n-2]'(by omega)<4294967296:=k.du.get _ (by omega);have U:vs[n-1]'(by omega)<4294967296:=k.dv.get _ (by omega);have a1:vs[n-2]'(by omega)<4294967296:=k.dv.get _ (by omega);have W:=k.top (by omega);have O:ay us/ay vs<4294967296:=by
  have:=k.lt;rw[Nt (by
   refine MS fun e=>?_
   rw[e]at this;omega)]
  exact this
 obtain⟨L,e0⟩:∃x,us[n]'(by omega)=x:=⟨_,rfl⟩;obtain⟨x1,e1⟩:∃x,us[n-1]'(by omega)=x:=⟨_,rfl⟩;obtain⟨x2,e2⟩:∃x,us[n-2]'(by omega)=x:=⟨_,rfl⟩;obtain⟨c,f1⟩:∃x,vs[n-1]'(by omega)=x:=⟨_,rfl⟩;obtain⟨R,f2⟩:∃x,vs[n-2]'(by omega)=x:=⟨_,rfl⟩;rw[e0]at c0 px pf;rw[e1]at c1 px E;rw[e2]at c2 px C;rw[f1]at d1 pv pf U W;rw[f2]at d2 pv a1;have y:Hid (GuessD (ay us) (ay vs) (4294967296^(n-2)) c R (ay (vs.take (n-2))) L x1 x2 (ay (us.take (n-2)))):=⟨px,a2,pv,P,⟨W,U⟩,a1,E,C,pf,O⟩;clear px a2 pv P O e0 e1 e2 f1 f2 k;obtain⟨X,hX⟩:∃X,ay us=X:=⟨_,rfl⟩;obtain⟨V,hV⟩:∃V,ay vs=V:=⟨_,rfl⟩;rw[hX,hV]at y⊢;clear hX hV;have S:=B7 L x1 (by omega) E;rw[show(((L*4294967296:Nat)):Int)=(L:Int)*4294967296 by omega]at S;have v:L*4294967296+x1<18446744073709551616:=by omega
 obtain⟨t,ht⟩:∃t,L*4294967296+x1=t:=⟨_,rfl⟩;rw[ht]at S v;have M:=J ht;have c3:((c:Int)==0)=false:=by rw[beq_eq_false_iff_ne];omega
 rw[b0,a5];have g1:(0:Int)<=(n:Int)-1:=by omega
 have g2:((n:Int)-1).toNat=n-1:=by omega
 have g3:(0:Int)<=(n:Int)-2:=by omega
 have g4:((n:Int)-2).toNat=n-2:=by omega
 clear ht
 go_enter Tryz.func269,Tryz.ntmps269
 go_wp2
 go_quiet (fail)
 go_wp2
 go_loopw [7,8] (fun gv rv wr=>GuInv w X V c t gv rv wr) (fun gv _ _=>(intOf gv).toNat)
 case atStart=>exact xX y.out M.out (by rw[IntKind.wrap_u64];exact Ig (by omega) v) (by simp) (bh (Below.refl _ _))
 case round=>
  obtain⟨g,r,rfl,rfl,hI,b,T⟩:=hrel;have z:=J hI;have a:=J T;have N:=hI.2.1;have C2:=(a.out.cell (p:=⟨b1,o1+(n-2),none⟩) a3).trans c2;have D1:=(a.out.cell (p:=⟨b2,o2+(n-1),none⟩) Y).trans d1;have D2:=(a.out.cell (p:=⟨b2,o2+(n-2),none⟩) Y).trans d2;clear hI T;by_cases d:4294967296<=g
  ·have K:decide ((g:Int)≥4294967296)=true:=decide_eq_true (by omega);have h:=J (show X/V+1<=g by have:=y.out.lt;exact Ma (Ph this) d);have s:0<g:=Mj (PA _) h.out;have b3:=(y.out.big (by rw[M.out];exact z.out.1) d).1
   go_wp2
   go_quiet (fail)
   by_cases F:4294967296<=r+c
   ·have l:=J (y.out.brk (g:=g) (r:=r) (by rw[M.out];exact z.out.1) h.out (by omega) F);have q1:IntKind.u64.wrap ((g:Int)-1)=(g:Int)-1:=by rw[IntKind.wrap_u64];omega
    have q2:IntKind.u64.wrap ((r:Int)+(c:Int))=(r:Int)+(c:Int):=by rw[IntKind.wrap_u64];omega
    have q3:decide ((r:Int)+(c:Int)≥4294967296)=true:=decide_eq_true (by omega);have f:=J (show((g-1:Nat):Int)=(g:Int)-1 by omega);clear b d F K s
    go_wp2
    go_ret
    exact⟨g-1,by rw[f.out];rfl,l.out.1,l.out.2.1,l.out.2.2,by first|exact bh a.out|exact bh (bh a.out)⟩
   have q1:IntKind.u64.wrap ((g:Int)-1)=(g:Int)-1:=by rw[IntKind.wrap_u64];omega
   have q2:IntKind.u64.wrap ((r:Int)+(c:Int))=(r:Int)+(c:Int):=by rw[IntKind.wrap_u64];omega
   have q3:decide ((r:Int)+(c:Int)≥4294967296)=false:=decide_eq_false (by omega);have f:=J (show(intOf (.int .u64 ((g:Int)-1))).toNat<(intOf (.int .u64 (g:Int))).toNat by simp[intOf];omega);have HN:=J (fun zg zr G=>GuInv.next (w:=w) (wr:=G) (zg:=zg) (zr:=zr) z.out h.out b (by omega:r+c<4294967296));clear b d F K s
   go_wp2
   go_roundw
   case rel=>exact HN.out _ _ _ Z Z (by first|exact bh a.out|exact bh (bh a.out))
   case measure=>exact f.out
  have K:decide ((g:Int)≥4294967296)=false:=decide_eq_false (by omega);have I:g*R<=4294967295*4294967295:=NY (by omega) (by omega);obtain⟨m,hm⟩:∃m,g*R=m:=⟨_,rfl⟩;rw[hm]at I;have a0:IntKind.u64.wrap ((g:Int)*(R:Int))=(m:Int):=by
   rw[show(g:Int)*(R:Int)=(m:Int) by rw[<-hm];simp,IntKind.wrap_u64];omega
  have j:=B7 r x2 N C;rw[show(((r*4294967296:Nat)):Int)=(r:Int)*4294967296 by omega]at j;have Q:IntKind.u64.wrap ((r:Int)*4294967296)=(r:Int)*4294967296:=by rw[IntKind.wrap_u64];omega
  have o:r*4294967296+x2<18446744073709551616:=by omega
  obtain⟨q,hq⟩:∃q,r*4294967296+x2=q:=⟨_,rfl⟩;rw[hq]at j o;have HM:=J hm;have HQ:=J hq;clear hm hq;by_cases hn:q<m
  ·have H:decide ((m:Int)>(q:Int))=true:=decide_eq_true (by omega);have h:=J (y.out.over (g:=g) (r:=r) (by rw[M.out];exact z.out.1) (by rw[HQ.out,HM.out];exact hn));have s:0<g:=Mj (PA _) h.out
   go_wp2
   go_quiet (fail)
   clear H hn a0 j Q o I;by_cases F:4294967296<=r+c
   ·have l:=J (y.out.brk (g:=g) (r:=r) (by rw[M.out];exact z.out.1) h.out (by omega) F);have q1:IntKind.u64.wrap ((g:Int)-1)=(g:Int)-1:=by rw[IntKind.wrap_u64];omega
    have q2:IntKind.u64.wrap ((r:Int)+(c:Int))=(r:Int)+(c:Int):=by rw[IntKind.wrap_u64];omega
    have q3:decide ((r:Int)+(c:Int)≥4294967296)=true:=decide_eq_true (by omega);have f:=J (show((g-1:Nat):Int)=(g:Int)-1 by omega);clear b d F K s
    go_wp2
    go_ret
    exact⟨g-1,by rw[f.out];rfl,l.out.1,l.out.2.1,l.out.2.2,by first|exact bh a.out|exact bh (bh a.out)⟩
   have q1:IntKind.u64.wrap ((g:Int)-1)=(g:Int)-1:=by rw[IntKind.wrap_u64];omega
   have q2:IntKind.u64.wrap ((r:Int)+(c:Int))=(r:Int)+(c:Int):=by rw[IntKind.wrap_u64];omega
   have q3:decide ((r:Int)+(c:Int)≥4294967296)=false:=decide_eq_false (by omega);have f:=J (show(intOf (.int .u64 ((g:Int)-1))).toNat<(intOf (.int .u64 (g:Int))).toNat by simp[intOf];omega);have HN:=J (fun zg zr G=>GuInv.next (w:=w) (wr:=G) (zg:=zg) (zr:=zr) z.out h.out b (by omega:r+c<4294967296));clear b d F K s
   go_wp2
   go_roundw
   case rel=>exact HN.out _ _ _ Z Z (by first|exact bh a.out|exact bh (bh a.out))
   case measure=>exact f.out
  have H:decide ((m:Int)>(q:Int))=false:=decide_eq_false (by omega);have l:=J (y.out.stop (g:=g) (r:=r) (by rw[M.out];exact z.out.1) z.out.2.2 (by omega) (by rw[HQ.out,HM.out];omega))
  go_wp2
  go_quiet (fail)
  clear H hn a0 j Q o I b d K
  go_wp2
  go_ret
  exact⟨g,Z,l.out.1,l.out.2.1,l.out.2.2,by first|exact bh a.out|exact bh (bh a.out)⟩
theorem jV(w:World)(g i:Nat)(u:Value):w.grownBy (w.setCell ⟨g,i,none⟩ u) (some g):=⟨Z,Z,Z,by simp[World.setCell],fun k _ a=>by
 simp only[World.setCell];rw[NJ,if_neg (fun e=>a (by rw[e]))]⟩
theorem IsN.grown{W W':World}{A:Option Addr}{c g:Nat}{l:List Nat}(h:IsN W A c l)(f:W.grownBy W' (some g))(m:∀b off,A=some ⟨b,off,none⟩->b≠g):IsN W' A c l:=by
 refine⟨fun i=>?_,h.nil,h.cap,h.max,h.ok⟩;obtain⟨b,off,e,a,n⟩:=h.at_ i;refine⟨b,off,e,Mj a f.size,fun j u k=>?_⟩;rw[<-n j u k];exact World.cell?_of_block (f.block b a fun d=>m b off e (by injection d with d))
def SmInv(w:World)(g cap base j n f:Nat)(L vs:List Nat)(cv bv i:Value)(wr:World):Prop:=
 ∃(k c b:Nat) (out:List Nat),k<=n/\i=.int .i64 k/\cv=.int .u64 c/\bv=.int .u64 b/\c<4294967296/\b<=1/\out.length=k/\Digs out/\OwnN wr base (.slice (some ⟨g,0,none⟩) L.length cap) (L.take j++(out++L.drop (j+k)))/\ay out+f*ay (vs.take k)=ay ((L.drop j).take k)+(c+b)*4294967296^k/\w.grownBy wr (some g)
theorem m7{L a:List Nat}{j k:Nat}(c:j+k<=L.length)(b:a.length=k):(L.take j++(a++L.drop (j+k))).length=L.length:=by
 simp only[Mb,Mf,MQ,b];omega
theorem As{L a:List Nat}{j k:Nat}(d:j+k<L.length)(c:a.length=k)(h:j+k<(L.take j++(a++L.drop (j+k))).length):(L.take j++(a++L.drop (j+k)))[j+k]=L[j+k]:=by
 have e:(L.take j++a).length=j+k:=by simp[c];omega
 have b:(L.take j++(a++L.drop (j+k)))[j+k]? =L[j+k]? :=by
  rw[<-Mv,Mz (by omega),e,M2,Nh,Nk]
 rw[L3 h,L3 d]at b;exact MW b
theorem rC{L a:List Nat}{j k d:Nat}(c:j+k<L.length)(b:a.length=k):(L.take j++(a++L.drop (j+k))).set (j+k) d=L.take j++((a++[d])++L.drop (j+(k+1))):=by
 have e:(L.take j++a).length=j+k:=by simp[b];omega
 rw[<-Mv,NK _ _ (by omega),e,M2,Mc c,NO,Mv,Mv,show j+(k+1)=j+k+1 by omega];rfl
theorem o5{L:List Nat}{j k:Nat}(a:j+k<L.length):ay ((L.drop j).take (k+1))=ay ((L.drop j).take k)+4294967296^k*L[j+k]:=by
 rw[Ao _ _ (by simp;omega),OR]
theorem Cd{t:Nat}(a:t<18446744073709551616):bits .and .u64 (t:Int) 4294967295=((t%4294967296:Nat):Int):=by
 have h:=u64_and_nat t 4294967295 a (by decide);rw[show(4294967295:Nat)=2^32-1 by decide,Oq,show(2:Nat)^32=4294967296 by decide]at h;exact h
theorem Fs{f x c u b:Nat}(s:f<4294967296)(v:x<4294967296)(w:c<4294967296)(m:u<4294967296)(o:b<=1):
  ∃t g d:Nat,t=f*x+c/\IntKind.u64.wrap (IntKind.u64.wrap ((f:Int)*(x:Int))+(c:Int))=(t:Int)/\t/4294967296<4294967296/\
   IntKind.u64.wrap (IntKind.u64.wrap ((u:Int)-bits .and .u64 (t:Int) 4294967295)-(b:Int))%4294967296=(g:Int)/\
   IntKind.u64.wrap (IntKind.u64.wrap ((u:Int)-bits .and .u64 (t:Int) 4294967295)-(b:Int))/9223372036854775808=(d:Int)/\g<4294967296/\d<=1/\g+t%4294967296+b=u+d*4294967296:=by
 have r:f*x<=4294967295*4294967295:=NY (by omega) (by omega);obtain⟨p,h⟩:∃p,f*x=p:=⟨_,rfl⟩;rw[h]at r;have i:(f:Int)*(x:Int)=(p:Int):=by rw[<-h];simp
 obtain⟨g,d,l,n,k,q,j⟩:=uB (u:=u) (lo:=(p+c)%4294967296) (bo:=b) m (Ni _ (by decide)) o;have e:∀a:Int,IntKind.u64.wrap (IntKind.u64.wrap ((u:Int)-a)-(b:Int))=((u:Int)-a-(b:Int))%18446744073709551616:=fun a=>by rw[IntKind.wrap_u64,IntKind.wrap_u64];omega
 refine⟨p+c,g,d,by rw[h],by rw[i,IntKind.wrap_u64,IntKind.wrap_u64];omega,by omega,?_,?_,k,q,j⟩
 ·rw[Cd (by omega),e];exact l
 rw[Cd (by omega),e];exact n
theorem SmInv.next{w wr:World}{g m base j n f k c b x u:Nat}{L vs a:List Nat}{i:Int}(I:k<n)(O:vs.length=n)(R:j+(n+1)<=L.length)(p:∃h:k<vs.length,vs[k]=x)(v:∃h:j+k<L.length,L[j+k]=u)(B:f<4294967296)(l:x<4294967296)(N:c<4294967296)(o:u<4294967296)(P:b<=1)(d:a.length=k)(s:Digs a)(r:OwnN wr base (.slice (some ⟨g,0,none⟩) L.length m) (L.take j++(a++L.drop (j+k))))(J:ay a+f*ay (vs.take k)=ay ((L.drop j).take k)+(c+b)*4294967296^k)(y:w.grownBy wr (some g))(K:i=((k+1:Nat):Int)):
  SmInv w g m base j n f L vs (.int .u64 (IntKind.u64.wrap (IntKind.u64.wrap ((f:Int)*(x:Int))+(c:Int))/4294967296))
   (.int .u64 (IntKind.u64.wrap (IntKind.u64.wrap ((u:Int)-bits .and .u64 (IntKind.u64.wrap (IntKind.u64.wrap ((f:Int)*(x:Int))+(c:Int))) 4294967295)-(b:Int))/9223372036854775808)) (.int .i64 i)
   (wr.setCell ⟨g,j+k,none⟩ (.int .u32 (IntKind.u64.wrap (IntKind.u64.wrap ((u:Int)-bits .and .u64 (IntKind.u64.wrap (IntKind.u64.wrap ((f:Int)*(x:Int))+(c:Int))) 4294967295)-(b:Int))%4294967296))):=by
 subst K;obtain⟨q,p⟩:=p;obtain⟨e,v⟩:=v;obtain⟨t,z,E,D,G,Q,A,H,M,C,F⟩:=Fs B l N o P;rw[G,A,H];refine⟨k+1,t/4294967296,E,a++[z],I,Z,by congr 1,Z,Q,C,by simp[d],d9 s M,?_,?_,y.trans (jV _ _ _ _)⟩
 ·have:=r.put (i:=j+k) (by rw[m7 (by omega) d]) _ z Z;rwa[rC e d]at this
 rw[dO a _ k d,df vs k q,p,o5 e,v,MH];exact Dp J D (by omega) F
theorem Ih{u c b:Nat}(h:u<4294967296)(l:c<4294967296)(k:b<=1):∃d a:Nat,IntKind.u64.wrap (IntKind.u64.wrap ((u:Int)-(c:Int))-(b:Int))%4294967296=(d:Int)/\IntKind.u64.wrap (IntKind.u64.wrap ((u:Int)-(c:Int))-(b:Int))/9223372036854775808=(a:Int)/\d<4294967296/\a<=1/\d+c+b=u+a*4294967296:=by
 obtain⟨d,a,g,j,i,m,f⟩:=uB (u:=u) (lo:=c) (bo:=b) h l k;have e:IntKind.u64.wrap (IntKind.u64.wrap ((u:Int)-(c:Int))-(b:Int))=((u:Int)-(c:Int)-(b:Int))%18446744073709551616:=by rw[IntKind.wrap_u64,IntKind.wrap_u64];omega
 rw[e];exact⟨d,a,g,j,i,m,f⟩
theorem JN{A F U c b u d a P:Nat}(f:A+F=U+(c+b)*P)(h:d+c+b=u+a*4294967296):(A+P*d)+F=(U+P*u)+a*(P*4294967296):=by
 have e:P*(d+(c+b))=P*(u+a*4294967296):=by rw[<-h];congr 1;omega
 rw[MB P d,MB P u,Mt P (c+b)]at e;have g:P*(a*4294967296)=a*(P*4294967296):=NM ..;omega
def JO(w:World)(g cap base j n f:Nat)(L vs:List Nat)(e:Ending)(w':World):Prop:=
 ∃(b:Bool) (out:List Nat),e=.returned (.bool b)/\out.length=n+1/\Digs out/\OwnN w' base (.slice (some ⟨g,0,none⟩) L.length cap) (L.take j++(out++L.drop (j+(n+1))))/\ay out+f*ay vs=ay ((L.drop j).take (n+1))+(if b then 4294967296^(n+1)else 0)/\w.grownBy w' (some g)
theorem Ft(g r base j n f cw cb:Nat)(B:Option Addr)(L vs:List Nat)(w:World)(W:OwnN w base (.slice (some ⟨g,0,none⟩) L.length r) L)(H:Digs L)(V:IsN w B cb vs)(A:∀b off,B=some ⟨b,off,none⟩->b≠g)(q:vs.length=n)(hj:j+(n+1)<=L.length)(hn:0<n)(hf:f<4294967296)(a4:n+1<=cw)(a0:L.length<=1073741824):
  Calls Tryz.prog 270 #[.slice (some ⟨g,j,none⟩) (n+1) cw,.slice B vs.length cb,.int .u64 f] w (JO w g r base j n f L vs):=by
 have HO:=J W;have HD:=J H;have R:=J V;clear W H V;obtain⟨X,o2,rfl,a2,U⟩:=R.out.digit (i:=0) (by omega);have a3:X≠g:=A X o2 Z;rw[q];clear U
 go_enter Tryz.func270,Tryz.ntmps270
 go_wp2
 go_loopw [8,9,19] (fun cv bv i wr=>SmInv w g r base j n f L vs cv bv i wr) (fun _ _ i _=>n-(intOf i).toNat)
 case atStart=>exact⟨0,0,0,[],Mp _,Z,Z,Z,by omega,by omega,Z,fun d H=>by simp at H,by rw[MI,Nk,M4];exact HO.out,by simp[ay],World.grownBy.refl _ _⟩
 case round=>
  obtain⟨k,c,b,s,hk,rfl,rfl,rfl,hc,hb,D,F,E,y,v⟩:=hrel;have h:=J E;have HQ:=J y;have HG:=J v;have e:=J D;have C:=J F;have M:=J (R.out.grown v A);clear E y v D F;have Q:=m7 (L:=L) (j:=j) (k:=k) (by omega) e.out;by_cases S:k<n
  ·obtain⟨b3,o3,m,a1,G⟩:=M.out.digit (i:=k) (by omega);injection m with m
   injection m with m N
   subst m N;have cx:=G k (by omega);have o:=R.out.lt (i:=k) (by omega);obtain⟨x,K⟩:∃x,vs[k]'(by omega)=x:=⟨_,rfl⟩;rw[K]at cx o;have HX:=J K;have l:=h.out.cell (i:=j+k) (by omega);rw[As (by omega) e.out]at l;have P:=h.out.free (j+k);have a:L[j+k]'(by omega)<4294967296:=HD.out.get _ (by omega);obtain⟨u,t⟩:∃u,L[j+k]'(by omega)=u:=⟨_,rfl⟩;rw[t]at l a;have HU:=J t;clear G K t
   go_wp2
   go_roundw
   case rel=>exact SmInv.next S q hj ⟨by omega,HX.out⟩ ⟨by omega,HU.out⟩ hf o hc a hb e.out C.out h.out HQ.out HG.out (by omega)
   case measure=>simp[intOf];omega
  obtain rfl:k=n:=by omega
  have l:=h.out.cell (i:=j+k) (by omega);rw[As (by omega) e.out]at l;have P:=h.out.free (j+k);have a:L[j+k]'(by omega)<4294967296:=HD.out.get _ (by omega);obtain⟨u,t⟩:∃u,L[j+k]'(by omega)=u:=⟨_,rfl⟩;rw[t]at l a;obtain⟨I,p,h1,h2,h3,h4,h5⟩:=Ih a hc hb;have HE:Hid (ay (s++[I])+f*ay vs=ay ((L.drop j).take (k+1))+(if decide (p=1)then 4294967296^(k+1)else 0)):=by
   show _=_
   have h6:=HQ.out;rw[Me (NX q)]at h6;rw[dO s _ k e.out,o5 (by omega),t,JN h6 h5,MH];have O:p=0\/p=1:=by omega
   rcases O with rfl|rfl<;>simp
  have Y:=J (h.out.put (i:=j+k) Q.symm (I:Int) I Z);rw[rC (by omega) e.out]at Y;have z:=J (d9 C.out h3);have T:((p:Int)==1)=decide (p=1):=by
   have O:p=0\/p=1:=by omega
   rcases O with rfl|rfl<;>rfl
  clear t h5
  go_wp2
  go_ret
  exact⟨decide (p=1),s++[I],by rw[<-T];rfl,by have:=e.out;simp[this],z.out,Y.out,HE.out,HG.out.trans (jV _ _ _ _)⟩
def AbInv(w:World)(g cap base j n:Nat)(L vs:List Nat)(cv i:Value)(wr:World):Prop:=
 ∃(k c:Nat) (out:List Nat),k<=n/\i=.int .i64 k/\cv=.int .u64 c/\c<=1/\out.length=k/\Digs out/\OwnN wr base (.slice (some ⟨g,0,none⟩) L.length cap) (L.take j++(out++L.drop (j+k)))/\ay out+c*4294967296^k=ay ((L.drop j).take k)+ay (vs.take k)/\w.grownBy wr (some g)
theorem AbInv.next{w wr:World}{g e base j n k c x u:Nat}{L vs a:List Nat}{i s t:Int}(A:k<n)(D:vs.length=n)(E:j+(n+1)<=L.length)(f:∃h:k<vs.length,vs[k]=x)(p:∃h:j+k<L.length,L[j+k]=u)(r:x<4294967296)(v:u<4294967296)(F:c<=1)(b:a.length=k)(o:Digs a)(m:OwnN wr base (.slice (some ⟨g,0,none⟩) L.length e) (L.take j++(a++L.drop (j+k))))(B:ay a+c*4294967296^k=ay ((L.drop j).take k)+ay (vs.take k))(q:w.grownBy wr (some g))(C:i=((k+1:Nat):Int))(y:s=(((u+x+c)/4294967296:Nat):Int))(z:t=(((u+x+c)%4294967296:Nat):Int)):
  AbInv w g e base j n L vs (.int .u64 s) (.int .i64 i) (wr.setCell ⟨g,j+k,none⟩ (.int .u32 t)):=by
 subst C y z;obtain⟨l,f⟩:=f;obtain⟨d,p⟩:=p;refine⟨k+1,(u+x+c)/4294967296,a++[(u+x+c)%4294967296],A,Z,Z,by omega,by simp[b],d9 o (Ni _ (by decide)),?_,?_,q.trans (jV _ _ _ _)⟩
 ·have:=m.put (i:=j+k) (by rw[m7 (by omega) b]) _ ((u+x+c)%4294967296) Z;rwa[rC d b]at this
 rw[dO a _ k b,df vs k l,f,o5 d,p,MH];exact Dq B Z
def JP(w:World)(g cap base j n:Nat)(L vs:List Nat)(e:Ending)(w':World):Prop:=
 ∃(out:List Nat) (q:Nat),e=.returned (.tuple #[])/\out.length=n+1/\Digs out/\OwnN w' base (.slice (some ⟨g,0,none⟩) L.length cap) (L.take j++(out++L.drop (j+(n+1))))/\ay out+q*4294967296^(n+1)=ay ((L.drop j).take (n+1))+ay vs/\w.grownBy w' (some g)
theorem JQ{A V U c u P:Nat}(h:A+c*P=U+V):(A+P*((u+c)%4294967296))+(u+c)/4294967296*(P*4294967296)=(U+P*u)+V:=by
 have a:P*((u+c)%4294967296)+(u+c)/4294967296*(P*4294967296)=P*(u+c):=by
  rw[<-Mu,Mt ((u+c)/4294967296) P,Mu,<-MB];congr 1;omega
 rw[MB P u,Mt P c]at a;omega
theorem Fu(g o base j n Y U:Nat)(B:Option Addr)(L vs:List Nat)(w:World)(Q:OwnN w base (.slice (some ⟨g,0,none⟩) L.length o) L)(E:Digs L)(P:IsN w B U vs)(s:∀b off,B=some ⟨b,off,none⟩->b≠g)(m:vs.length=n)(hj:j+(n+1)<=L.length)(hn:0<n)(a4:n+1<=Y)(T:L.length<=1073741824):
  Calls Tryz.prog 271 #[.slice (some ⟨g,j,none⟩) (n+1) Y,.slice B vs.length U] w (JP w g o base j n L vs):=by
 have HO:=J Q;have HD:=J E;have K:=J P;clear Q E P;obtain⟨R,o2,rfl,a1,O⟩:=K.out.digit (i:=0) (by omega);have a2:R≠g:=s R o2 Z;rw[m];clear O
 go_enter Tryz.func271,Tryz.ntmps271
 go_wp2
 go_loopw [4,10] (fun cv i wr=>AbInv w g o base j n L vs cv i wr) (fun _ i _=>n-(intOf i).toNat)
 case atStart=>exact⟨0,0,[],Mp _,Z,Z,by omega,Z,fun d E=>by simp at E,by rw[MI,Nk,M4];exact HO.out,by simp[ay],World.grownBy.refl _ _⟩
 case round=>
  obtain⟨k,c,D,hk,rfl,rfl,hc,y,A,z,q,p⟩:=hrel;have f:=J z;have HQ:=J q;have V:=J p;have a:=J y;have t:=J A;have G:=J (K.out.grown p s);clear z q p y A;have I:=m7 (L:=L) (j:=j) (k:=k) (by omega) a.out;have v:=f.out.cell (i:=j+k) (by omega);rw[As (by omega) a.out]at v;have a3:=f.out.free (j+k);have l:L[j+k]'(by omega)<4294967296:=HD.out.get _ (by omega);obtain⟨u,N⟩:∃u,L[j+k]'(by omega)=u:=⟨_,rfl⟩;rw[N]at v l;have W:=J N;clear N;by_cases M:k<n
  ·obtain⟨b3,o3,e,a0,C⟩:=G.out.digit (i:=k) (by omega);injection e with e
   injection e with e H
   subst e H;have cx:=C k (by omega);have h:=K.out.lt (i:=k) (by omega);obtain⟨x,F⟩:∃x,vs[k]'(by omega)=x:=⟨_,rfl⟩;rw[F]at cx h;have HX:=J F;clear C F
   go_wp2
   go_roundw
   case rel=>exact AbInv.next M m hj ⟨by omega,HX.out⟩ ⟨by omega,W.out⟩ h l hc a.out t.out f.out HQ.out V.out (by omega) (by omega) (by omega)
   case measure=>simp[intOf];omega
  obtain rfl:k=n:=by omega
  have HE:Hid (ay (D++[(u+c)%4294967296])+(u+c)/4294967296*4294967296^(k+1)=ay ((L.drop j).take (k+1))+ay vs):=by
   show _=_
   have X:=HQ.out;rw[Me (NX m)]at X;rw[dO D _ k a.out,o5 (by omega),W.out,MH];exact JQ X
  have S:=J (f.out.put (i:=j+k) I.symm (((u+c)%4294967296:Nat):Int) ((u+c)%4294967296) Z);rw[rC (by omega) a.out]at S;have r:=J (d9 t.out (Ni (u+c) (show 0<4294967296 by decide)));have HZ:=J (show((u:Int)+(c:Int))%4294967296=(((u+c)%4294967296:Nat):Int) by omega)
  go_wp2
  go_end0
  rw[HZ.out];exact⟨_,_,Z,by have:=a.out;simp[this],r.out,S.out,HE.out,V.out.trans (jV _ _ _ _)⟩
end Go.Proofs.YtfoejfohbkmmeaaGreatDoor
