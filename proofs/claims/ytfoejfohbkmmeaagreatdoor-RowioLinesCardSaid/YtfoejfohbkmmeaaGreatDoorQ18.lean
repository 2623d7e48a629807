import Derived.Test.YtfoejfohbkmmeaaGreatDoorQ17
import Derived.Test.YtfoejfohbkmmeaaGreatDoorQ00
set_option maxRecDepth 100000
set_option maxHeartbeats 8000000
namespace Go.Proofs.YtfoejfohbkmmeaaGreatDoor
open Go.RowKit
open Lib renaming hid→J
theorem xu{X V P v1 v2 vl u2 xl a:Nat}(d:X=(a*4294967296+u2)*P+xl)(f:xl<P)(h:u2<4294967296)(g:V=(v1*4294967296+v2)*P+vl)(b:0<v1):X/V<=a/v1:=by
 have l:=Oe a v1;have k:=Ni a b;have i:a+1<=(a/v1+1)*v1:=by rw[M3,Mt];omega
 have m:(a+1)*(4294967296*P)<=((a/v1+1)*v1)*(4294967296*P):=MJ _ i;have n:((a/v1+1)*v1)*(4294967296*P)<=(a/v1+1)*V:=by
  rw[Mu];refine Nw _ ?_;rw[g,<-Mu];have:v1*4294967296*P<=(v1*4294967296+v2)*P:=MJ _ (by omega);omega
 have o:X<(a+1)*(4294967296*P):=by
  have e:(a+1)*(4294967296*P)=(a*4294967296+4294967296)*P:=by rw[<-Mu,M3 _ _ 4294967296]
  have j:(a*4294967296+u2+1)*P<=(a*4294967296+4294967296)*P:=MJ _ (by omega);rw[e,d];rw[M3 _ 1]at j;omega
 have c:0<V:=by
  have:0<P:=by omega
  have:1*P<=(v1*4294967296+v2)*P:=MJ _ (by omega);omega
 have:X/V<a/v1+1:=(Nz c).2 (by omega);omega
theorem Ha{t v:Nat}(a:0<v)(h:t<18446744073709551616):(t:Int)/(v:Int)%18446744073709551616=((t/v:Nat):Int):=by
 have b:t/v<=t:=NY _ _;rw[show((t:Int)/(v:Int))=((t/v:Nat):Int) by simp];generalize t/v=q at*;omega
structure GuessD (X V P v1 v2 vl u0 u1 u2 xl:Nat):Prop where
 hx:X=((u0*4294967296+u1)*4294967296+u2)*P+xl
 hxl:xl<P
 hv:V=(v1*4294967296+v2)*P+vl
 hvl:vl<P
 hv1:2147483648<=v1/\v1<4294967296
 hv2:v2<4294967296
 hu1:u1<4294967296
 hu2:u2<4294967296
 hu0:u0<=v1
 lt:X/V<4294967296
def I9(w:World)(X V:Nat)(e:Ending)(w':World):Prop:=∃g:Nat,e=.returned (.int .u64 g)/\X/V<=g/\g<=X/V+1/\g<4294967296/\Below w.heap.size w w'
def GuInv(w:World)(X V v1 top:Nat)(gv rv:Value)(wr:World):Prop:=∃g r:Nat,gv=.int .u64 g/\rv=.int .u64 r/\EP X V v1 top g r/\g<8589934592/\Below w.heap.size w wr
section
variable {X V P v1 v2 vl u0 u1 u2 xl g r:Nat}
theorem GuessD.stop(h:GuessD X V P v1 v2 vl u0 u1 u2 xl)(c:u0*4294967296+u1=g*v1+r)(a:X/V<=g)(b:g<4294967296)(d:g*v2<=r*4294967296+u2):X/V<=g/\g<=X/V+1/\g<4294967296:=
 ⟨a,zE h.hx h.hv h.hvl (by have:=h.hv1;omega) c d b,b⟩
theorem GuessD.big(h:GuessD X V P v1 v2 vl u0 u1 u2 xl)(d:u0*4294967296+u1=g*v1+r)(i:4294967296<=g):(g=4294967296\/r+v1<4294967296)/\g*v1=(g-1)*v1+v1:=by
 have f:=h.hv1;have a:=h.hu1;have b:u0*4294967296<=v1*4294967296:=MJ _ h.hu0;refine⟨?_,?_⟩
 ·by_cases e:g=4294967296
  ·exact .inl e
  right;have c:4294967297*v1<=g*v1:=MJ _ (by omega);omega
 obtain⟨k,rfl⟩:∃k,g=k+1:=⟨g-1,by omega⟩;rw[Qu,M3,Og]
theorem xv{g v:Nat}(h:0<g):g*v=(g-1)*v+v:=by
 obtain⟨k,rfl⟩:∃k,g=k+1:=⟨g-1,by omega⟩;rw[Qu,M3,Og]
theorem GuessD.brk(h:GuessD X V P v1 v2 vl u0 u1 u2 xl)(c:u0*4294967296+u1=g*v1+r)(a:X/V+1<=g)(f:g<=4294967296)(e:4294967296<=r+v1):X/V<=g-1/\g-1<=X/V+1/\g-1<4294967296:=by
 have b:0<g:=Mp (PB _) a;refine h.stop (r:=r+v1) (by rw[c,xv b];omega) (Qi a) (by omega) ?_;have d:(g-1)*v2<=4294967295*4294967295:=NU (by omega) (by have:=h.hv2;omega);omega
theorem GuessD.over(h:GuessD X V P v1 v2 vl u0 u1 u2 xl)(b:u0*4294967296+u1=g*v1+r)(c:r*4294967296+u2<g*v2):X/V+1<=g:=by
 have a:=zD h.hx h.hxl h.hv b c;have d:X/V<g:=by
  rw[Nz]
  ·exact a
  refine NG fun e=>?_
  rw[e,Oy]at a;omega
 omega
theorem xw{w wr:World}{t:Nat}{zg zr:Int}(h:GuessD X V P v1 v2 vl u0 u1 u2 xl)(c:u0*4294967296+u1=t)(a:zg=((t/v1:Nat):Int))(d:zr=((t%v1:Nat):Int))(b:Below w.heap.size w wr):GuInv w X V v1 t (.int .u64 zg) (.int .u64 zr) wr:=by
 subst a d;have f:=h.hv1;have e:=Ni t (show 0<v1 by omega);refine⟨_,_,Z,Z,⟨by rw[Mt];exact(Oe t v1).symm,by omega,?_⟩,?_,b⟩
 ·rw[<-c];exact xu h.hx h.hxl h.hu2 h.hv (by omega)
 rw[Nz (by omega)];have:=h.hu0;have:=h.hu1;omega
theorem sf{w wr:World}{t:Nat}{zg zr:Int}(h:EP X V v1 t g r)(a:X/V+1<=g)(i:g<8589934592)(d:r+v1<4294967296)(c:zg=(g:Int)-1)(f:zr=(r:Int)+(v1:Int))(e:Below w.heap.size w wr):GuInv w X V v1 t (.int .u64 zg) (.int .u64 zr) wr:=by
 have b:0<g:=Mp (PB _) a;subst c f;refine⟨g-1,r+v1,by congr 1;omega,by congr 1,⟨by rw[h.1,xv b];omega,d,Qi a⟩,by omega,e⟩
end
theorem CY(A B:Option Addr)(ca cb:Nat)(us vs:List Nat)(n:Nat)(w:World)(hA:IsN w A ca us)(hB:IsN w B cb vs)(k:Guess us vs n)(hn:n<=1048577):
  Calls Tryz.prog 269 #[.slice A us.length ca,.slice B vs.length cb] w (I9 w (aB us) (aB vs)):=by
 have a4:=J hA;have b0:=J hB;have b5:=k.n2;have a3:=k.lu;have a9:=k.lv;clear hA hB;obtain⟨b1,o1,rfl,a5,u⟩:=a4.out.digit (i:=n) (by omega);obtain⟨b2,o2,rfl,a2,I⟩:=b0.out.digit (i:=n-1) (by omega);have c0:=u n (by omega);have c1:=u (n-1) (by omega);have c2:=u (n-2) (by omega);have d1:=I (n-1) (by omega);have d2:=I (n-2) (by omega);clear u I;obtain⟨P,W,pv,N⟩:=k.parts (by omega) (by omega) (by omega) (by omega) (by omega);have pf:=k.first (by omega) (by omega);have H:us[n-1]'(by omega)<4294967296:=k.du.get _ (by omega);have C:us[n-2]'(by omega)<4294967296:=k.du.get _ (by omega);have S:vs[n-1]'(by omega)<4294967296:=k.dv.get _ (by omega);have O:vs[n-2]'(by omega)<4294967296:=k.dv.get _ (by omega);have a1:=k.top (by omega);have a0:aB us/aB vs<4294967296:=by
  have:=k.lt;rw[Nz (by
   refine NG fun e=>?_
   rw[e]at this;omega)]
  exact this
 obtain⟨K,e0⟩:∃x,us[n]'(by omega)=x:=⟨_,rfl⟩;obtain⟨x1,e1⟩:∃x,us[n-1]'(by omega)=x:=⟨_,rfl⟩;obtain⟨x2,e2⟩:∃x,us[n-2]'(by omega)=x:=⟨_,rfl⟩;obtain⟨c,f1⟩:∃x,vs[n-1]'(by omega)=x:=⟨_,rfl⟩;obtain⟨y2,f2⟩:∃x,vs[n-2]'(by omega)=x:=⟨_,rfl⟩;rw[e0]at c0 P pf;rw[e1]at c1 P H;rw[e2]at c2 P C;rw[f1]at d1 pv pf S a1;rw[f2]at d2 pv O;have z:Hid (GuessD (aB us) (aB vs) (4294967296^(n-2)) c y2 (aB (vs.take (n-2))) K x1 x2 (aB (us.take (n-2)))):=⟨P,W,pv,N,⟨a1,S⟩,O,H,C,pf,a0⟩;clear P W pv N a0 e0 e1 e2 f1 f2 k;obtain⟨X,hX⟩:∃X,aB us=X:=⟨_,rfl⟩;obtain⟨V,hV⟩:∃V,aB vs=V:=⟨_,rfl⟩;rw[hX,hV]at z⊢;clear hX hV;have Y:=BH K x1 (by omega) H;rw[show(((K*4294967296:Nat)):Int)=(K:Int)*4294967296 by omega]at Y;have v:K*4294967296+x1<18446744073709551616:=by omega
 obtain⟨t,ht⟩:∃t,K*4294967296+x1=t:=⟨_,rfl⟩;rw[ht]at Y v;have L:=J ht;have c3:((c:Int)==0)=false:=by rw[beq_eq_false_iff_ne];omega
 rw[a3,a9];have g1:(0:Int)<=(n:Int)-1:=by omega
 have g2:((n:Int)-1).toNat=n-1:=by omega
 have g3:(0:Int)<=(n:Int)-2:=by omega
 have g4:((n:Int)-2).toNat=n-2:=by omega
 clear ht
 go_enter Tryz.func269,Tryz.ntmps269
 go_wp2
 go_quiet (fail)
 go_wp2
 go_loopw [7,8] (fun gv rv wr=>GuInv w X V c t gv rv wr) (fun gv _ _=>(intOf gv).toNat)
 case atStart=>exact xw z.out L.out (by rw[IntKind.wrap_u64];exact Ha (by omega) v) (by simp) (bh (Below.refl _ _))
 case round=>
  obtain⟨g,r,rfl,rfl,hI,b,R⟩:=hrel;have y:=J hI;have a:=J R;have Q:=hI.2.1;have C2:=(a.out.cell (p:=⟨b1,o1+(n-2),none⟩) a5).trans c2;have D1:=(a.out.cell (p:=⟨b2,o2+(n-1),none⟩) a2).trans d1;have D2:=(a.out.cell (p:=⟨b2,o2+(n-2),none⟩) a2).trans d2;clear hI R;by_cases f:4294967296<=g
  ·have M:decide ((g:Int)≥4294967296)=true:=decide_eq_true (by omega);have d:=J (show X/V+1<=g by have:=z.out.lt;exact L6 (Pf this) f);have o:0<g:=Mp (PB _) d.out;have b3:=(z.out.big (by rw[L.out];exact y.out.1) f).1
   go_wp2
   go_quiet (fail)
   by_cases F:4294967296<=r+c
   ·have s:=J (z.out.brk (g:=g) (r:=r) (by rw[L.out];exact y.out.1) d.out (by omega) F);have q1:IntKind.u64.wrap ((g:Int)-1)=(g:Int)-1:=by rw[IntKind.wrap_u64];omega
    have q2:IntKind.u64.wrap ((r:Int)+(c:Int))=(r:Int)+(c:Int):=by rw[IntKind.wrap_u64];omega
    have q3:decide ((r:Int)+(c:Int)≥4294967296)=true:=decide_eq_true (by omega);have h:=J (show((g-1:Nat):Int)=(g:Int)-1 by omega);clear b f F M o
    go_wp2
    go_ret
    exact⟨g-1,by rw[h.out];rfl,s.out.1,s.out.2.1,s.out.2.2,by first|exact bh a.out|exact bh (bh a.out)⟩
   have q1:IntKind.u64.wrap ((g:Int)-1)=(g:Int)-1:=by rw[IntKind.wrap_u64];omega
   have q2:IntKind.u64.wrap ((r:Int)+(c:Int))=(r:Int)+(c:Int):=by rw[IntKind.wrap_u64];omega
   have q3:decide ((r:Int)+(c:Int)≥4294967296)=false:=decide_eq_false (by omega);have h:=J (show(intOf (.int .u64 ((g:Int)-1))).toNat<(intOf (.int .u64 (g:Int))).toNat by simp[intOf];omega);have HN:=J (fun zg zr D=>sf (w:=w) (wr:=D) (zg:=zg) (zr:=zr) y.out d.out b (by omega:r+c<4294967296));clear b f F M o
   go_wp2
   go_roundw
   case rel=>exact HN.out _ _ _ Z Z (by first|exact bh a.out|exact bh (bh a.out))
   case measure=>exact h.out
  have M:decide ((g:Int)≥4294967296)=false:=decide_eq_false (by omega);have G:g*y2<=4294967295*4294967295:=NU (by omega) (by omega);obtain⟨m,hm⟩:∃m,g*y2=m:=⟨_,rfl⟩;rw[hm]at G;have T:IntKind.u64.wrap ((g:Int)*(y2:Int))=(m:Int):=by
   rw[show(g:Int)*(y2:Int)=(m:Int) by rw[<-hm];simp,IntKind.wrap_u64];omega
  have j:=BH r x2 Q C;rw[show(((r*4294967296:Nat)):Int)=(r:Int)*4294967296 by omega]at j;have U:IntKind.u64.wrap ((r:Int)*4294967296)=(r:Int)*4294967296:=by rw[IntKind.wrap_u64];omega
  have l:r*4294967296+x2<18446744073709551616:=by omega
  obtain⟨q,hq⟩:∃q,r*4294967296+x2=q:=⟨_,rfl⟩;rw[hq]at j l;have HM:=J hm;have HQ:=J hq;clear hm hq;by_cases hn:q<m
  ·have E:decide ((m:Int)>(q:Int))=true:=decide_eq_true (by omega);have d:=J (z.out.over (g:=g) (r:=r) (by rw[L.out];exact y.out.1) (by rw[HQ.out,HM.out];exact hn));have o:0<g:=Mp (PB _) d.out
   go_wp2
   go_quiet (fail)
   clear E hn T j U l G;by_cases F:4294967296<=r+c
   ·have s:=J (z.out.brk (g:=g) (r:=r) (by rw[L.out];exact y.out.1) d.out (by omega) F);have q1:IntKind.u64.wrap ((g:Int)-1)=(g:Int)-1:=by rw[IntKind.wrap_u64];omega
    have q2:IntKind.u64.wrap ((r:Int)+(c:Int))=(r:Int)+(c:Int):=by rw[IntKind.wrap_u64];omega
    have q3:decide ((r:Int)+(c:Int)≥4294967296)=true:=decide_eq_true (by omega);have h:=J (show((g-1:Nat):Int)=(g:Int)-1 by omega);clear b f F M o
    go_wp2
    go_ret
    exact⟨g-1,by rw[h.out];rfl,s.out.1,s.out.2.1,s.out.2.2,by first|exact bh a.out|exact bh (bh a.out)⟩
   have q1:IntKind.u64.wrap ((g:Int)-1)=(g:Int)-1:=by rw[IntKind.wrap_u64];omega
   have q2:IntKind.u64.wrap ((r:Int)+(c:Int))=(r:Int)+(c:Int):=by rw[IntKind.wrap_u64];omega
   have q3:decide ((r:Int)+(c:Int)≥4294967296)=false:=decide_eq_false (by omega);have h:=J (show(intOf (.int .u64 ((g:Int)-1))).toNat<(intOf (.int .u64 (g:Int))).toNat by simp[intOf];omega);have HN:=J (fun zg zr D=>sf (w:=w) (wr:=D) (zg:=zg) (zr:=zr) y.out d.out b (by omega:r+c<4294967296));clear b f F M o
   go_wp2
   go_roundw
   case rel=>exact HN.out _ _ _ Z Z (by first|exact bh a.out|exact bh (bh a.out))
   case measure=>exact h.out
  have E:decide ((m:Int)>(q:Int))=false:=decide_eq_false (by omega);have s:=J (z.out.stop (g:=g) (r:=r) (by rw[L.out];exact y.out.1) y.out.2.2 (by omega) (by rw[HQ.out,HM.out];omega))
  go_wp2
  go_quiet (fail)
  clear E hn T j U l G b f M
  go_wp2
  go_ret
  exact⟨g,Z,s.out.1,s.out.2.1,s.out.2.2,by first|exact bh a.out|exact bh (bh a.out)⟩
theorem jw(w:World)(g i:Nat)(u:Value):w.grownBy (w.setCell ⟨g,i,none⟩ u) (some g):=⟨Z,Z,Z,by simp[World.setCell],fun k _ a=>by
 simp only[World.setCell];rw[NJ,if_neg (fun e=>a (by rw[e]))]⟩
theorem IsN.grown{W W':World}{A:Option Addr}{c g:Nat}{l:List Nat}(h:IsN W A c l)(d:W.grownBy W' (some g))(n:∀b off,A=some ⟨b,off,none⟩->b≠g):IsN W' A c l:=by
 refine⟨fun k=>?_,h.nil,h.cap,h.max,h.ok⟩;obtain⟨b,off,e,a,i⟩:=h.at_ k;refine⟨b,off,e,Mp a d.size,fun j u m=>?_⟩;rw[<-i j u m];exact World.cell?_of_block (d.block b a fun f=>n b off e (by injection f with f))
def SmInv(w:World)(g cap base j n f:Nat)(L vs:List Nat)(cv bv i:Value)(wr:World):Prop:=
 ∃(k c b:Nat) (out:List Nat),k<=n/\i=.int .i64 k/\cv=.int .u64 c/\bv=.int .u64 b/\c<4294967296/\b<=1/\out.length=k/\Digs out/\OwnN wr base (.slice (some ⟨g,0,none⟩) L.length cap) (L.take j++(out++L.drop (j+k)))/\aB out+f*aB (vs.take k)=aB ((L.drop j).take k)+(c+b)*4294967296^k/\w.grownBy wr (some g)
theorem mJ{L a:List Nat}{j k:Nat}(c:j+k<=L.length)(b:a.length=k):(L.take j++(a++L.drop (j+k))).length=L.length:=by
 simp only[Mc,Mf,MS,b];omega
theorem zF{L a:List Nat}{j k:Nat}(c:j+k<L.length)(d:a.length=k)(h:j+k<(L.take j++(a++L.drop (j+k))).length):(L.take j++(a++L.drop (j+k)))[j+k]=L[j+k]:=by
 have e:(L.take j++a).length=j+k:=by simp[d];omega
 have b:(L.take j++(a++L.drop (j+k)))[j+k]? =L[j+k]? :=by
  rw[<-MG,Mw (by omega),e,M4,Nd,No]
 rw[L4 h,L4 c]at b;exact Nt b
theorem qW{L a:List Nat}{j k d:Nat}(c:j+k<L.length)(b:a.length=k):(L.take j++(a++L.drop (j+k))).set (j+k) d=L.take j++((a++[d])++L.drop (j+(k+1))):=by
 have e:(L.take j++a).length=j+k:=by simp[b];omega
 rw[<-MG,NK _ _ (by omega),e,M4,Md c,Ms,MG,MG,show j+(k+1)=j+k+1 by omega];rfl
theorem oF{L:List Nat}{j k:Nat}(a:j+k<L.length):aB ((L.drop j).take (k+1))=aB ((L.drop j).take k)+4294967296^k*L[j+k]:=by
 rw[zC _ _ (by simp;omega),OS]
theorem BP{t:Nat}(a:t<18446744073709551616):bits .and .u64 (t:Int) 4294967295=((t%4294967296:Nat):Int):=by
 have h:=u64_and_nat t 4294967295 a (by decide);rw[show(4294967295:Nat)=2^32-1 by decide,On,show(2:Nat)^32=4294967296 by decide]at h;exact h
theorem ES{f x c u b:Nat}(w:f<4294967296)(s:x<4294967296)(v:c<4294967296)(m:u<4294967296)(k:b<=1):
  ∃t g d:Nat,t=f*x+c/\IntKind.u64.wrap (IntKind.u64.wrap ((f:Int)*(x:Int))+(c:Int))=(t:Int)/\t/4294967296<4294967296/\
   IntKind.u64.wrap (IntKind.u64.wrap ((u:Int)-bits .and .u64 (t:Int) 4294967295)-(b:Int))%4294967296=(g:Int)/\
   IntKind.u64.wrap (IntKind.u64.wrap ((u:Int)-bits .and .u64 (t:Int) 4294967295)-(b:Int))/9223372036854775808=(d:Int)/\g<4294967296/\d<=1/\g+t%4294967296+b=u+d*4294967296:=by
 have j:f*x<=4294967295*4294967295:=NU (by omega) (by omega);obtain⟨p,h⟩:∃p,f*x=p:=⟨_,rfl⟩;rw[h]at j;have i:(f:Int)*(x:Int)=(p:Int):=by rw[<-h];simp
 obtain⟨g,d,n,o,l,q,r⟩:=uj (u:=u) (lo:=(p+c)%4294967296) (bo:=b) m (Ni _ (by decide)) k;have e:∀a:Int,IntKind.u64.wrap (IntKind.u64.wrap ((u:Int)-a)-(b:Int))=((u:Int)-a-(b:Int))%18446744073709551616:=fun a=>by rw[IntKind.wrap_u64,IntKind.wrap_u64];omega
 refine⟨p+c,g,d,by rw[h],by rw[i,IntKind.wrap_u64,IntKind.wrap_u64];omega,by omega,?_,?_,l,q,r⟩
 ·rw[BP (by omega),e];exact n
 rw[BP (by omega),e];exact o
theorem zG{w wr:World}{g m base j n f k c b x u:Nat}{L vs a:List Nat}{i:Int}(F:k<n)(O:vs.length=n)(R:j+(n+1)<=L.length)(q:∃h:k<vs.length,vs[k]=x)(r:∃h:j+k<L.length,L[j+k]=u)(C:f<4294967296)(l:x<4294967296)(K:c<4294967296)(o:u<4294967296)(A:b<=1)(d:a.length=k)(v:Digs a)(p:OwnN wr base (.slice (some ⟨g,0,none⟩) L.length m) (L.take j++(a++L.drop (j+k))))(P:aB a+f*aB (vs.take k)=aB ((L.drop j).take k)+(c+b)*4294967296^k)(y:w.grownBy wr (some g))(Q:i=((k+1:Nat):Int)):
  SmInv w g m base j n f L vs (.int .u64 (IntKind.u64.wrap (IntKind.u64.wrap ((f:Int)*(x:Int))+(c:Int))/4294967296))
   (.int .u64 (IntKind.u64.wrap (IntKind.u64.wrap ((u:Int)-bits .and .u64 (IntKind.u64.wrap (IntKind.u64.wrap ((f:Int)*(x:Int))+(c:Int))) 4294967295)-(b:Int))/9223372036854775808)) (.int .i64 i)
   (wr.setCell ⟨g,j+k,none⟩ (.int .u32 (IntKind.u64.wrap (IntKind.u64.wrap ((u:Int)-bits .and .u64 (IntKind.u64.wrap (IntKind.u64.wrap ((f:Int)*(x:Int))+(c:Int))) 4294967295)-(b:Int))%4294967296))):=by
 subst Q;obtain⟨s,q⟩:=q;obtain⟨e,r⟩:=r;obtain⟨t,z,E,M,H,D,J,I,N,B,G⟩:=ES C l K o A;rw[H,J,I];refine⟨k+1,t/4294967296,E,a++[z],F,Z,by congr 1,Z,D,B,by simp[d],dO v N,?_,?_,y.trans (jw _ _ _ _)⟩
 ·have:=p.put (i:=j+k) (by rw[mJ (by omega) d]) _ z Z;rwa[qW e d]at this
 rw[dm a _ k d,cQ vs k s,q,oF e,r,MM];exact CR P M (by omega) G
theorem Hb{u c b:Nat}(i:u<4294967296)(f:c<4294967296)(g:b<=1):∃d a:Nat,IntKind.u64.wrap (IntKind.u64.wrap ((u:Int)-(c:Int))-(b:Int))%4294967296=(d:Int)/\IntKind.u64.wrap (IntKind.u64.wrap ((u:Int)-(c:Int))-(b:Int))/9223372036854775808=(a:Int)/\d<4294967296/\a<=1/\d+c+b=u+a*4294967296:=by
 obtain⟨d,a,j,k,h,l,m⟩:=uj (u:=u) (lo:=c) (bo:=b) i f g;have e:IntKind.u64.wrap (IntKind.u64.wrap ((u:Int)-(c:Int))-(b:Int))=((u:Int)-(c:Int)-(b:Int))%18446744073709551616:=by rw[IntKind.wrap_u64,IntKind.wrap_u64];omega
 rw[e];exact⟨d,a,j,k,h,l,m⟩
theorem Ja{A F U c b u d a P:Nat}(f:A+F=U+(c+b)*P)(h:d+c+b=u+a*4294967296):(A+P*d)+F=(U+P*u)+a*(P*4294967296):=by
 have e:P*(d+(c+b))=P*(u+a*4294967296):=by rw[<-h];congr 1;omega
 rw[MF P d,MF P u,Mt P (c+b)]at e;have g:P*(a*4294967296)=a*(P*4294967296):=NO ..;omega
def Jb(w:World)(g cap base j n f:Nat)(L vs:List Nat)(e:Ending)(w':World):Prop:=
 ∃(b:Bool) (out:List Nat),e=.returned (.bool b)/\out.length=n+1/\Digs out/\OwnN w' base (.slice (some ⟨g,0,none⟩) L.length cap) (L.take j++(out++L.drop (j+(n+1))))/\aB out+f*aB vs=aB ((L.drop j).take (n+1))+(if b then 4294967296^(n+1)else 0)/\w.grownBy w' (some g)
theorem ET(g s base j n f cw X:Nat)(B:Option Addr)(L vs:List Nat)(w:World)(hL:OwnN w base (.slice (some ⟨g,0,none⟩) L.length s) L)(I:Digs L)(W:IsN w B X vs)(z:∀b off,B=some ⟨b,off,none⟩->b≠g)(v:vs.length=n)(hj:j+(n+1)<=L.length)(hn:0<n)(hf:f<4294967296)(a2:n+1<=cw)(Y:L.length<=1073741824):
  Calls Tryz.prog 270 #[.slice (some ⟨g,j,none⟩) (n+1) cw,.slice B vs.length X,.int .u64 f] w (Jb w g s base j n f L vs):=by
 have HO:=J hL;have HD:=J I;have T:=J W;clear hL I W;obtain⟨b2,o2,rfl,a3,S⟩:=T.out.digit (i:=0) (by omega);have a1:b2≠g:=z b2 o2 Z;rw[v];clear S
 go_enter Tryz.func270,Tryz.ntmps270
 go_wp2
 go_loopw [8,9,19] (fun cv bv i wr=>SmInv w g s base j n f L vs cv bv i wr) (fun _ _ i _=>n-(intOf i).toNat)
 case atStart=>exact⟨0,0,0,[],Mx _,Z,Z,Z,by omega,by omega,Z,fun d I=>by simp at I,by rw[M6,No,M8];exact HO.out,by simp[aB],World.grownBy.refl _ _⟩
 case round=>
  obtain⟨k,c,b,r,hk,rfl,rfl,rfl,hc,V,A,E,y,F,t⟩:=hrel;have h:=J y;have HQ:=J F;have HG:=J t;have e:=J A;have D:=J E;have Q:=J (T.out.grown t z);clear y F t A E;have N:=mJ (L:=L) (j:=j) (k:=k) (by omega) e.out;by_cases U:k<n
  ·obtain⟨b3,o3,l,a0,C⟩:=Q.out.digit (i:=k) (by omega);injection l with l
   injection l with l M
   subst l M;have cx:=C k (by omega);have o:=T.out.lt (i:=k) (by omega);obtain⟨x,K⟩:∃x,vs[k]'(by omega)=x:=⟨_,rfl⟩;rw[K]at cx o;have HX:=J K;have m:=h.out.cell (i:=j+k) (by omega);rw[zF (by omega) e.out]at m;have P:=h.out.free (j+k);have a:L[j+k]'(by omega)<4294967296:=HD.out.get _ (by omega);obtain⟨u,q⟩:∃u,L[j+k]'(by omega)=u:=⟨_,rfl⟩;rw[q]at m a;have HU:=J q;clear C K q
   go_wp2
   go_roundw
   case rel=>exact zG U v hj ⟨by omega,HX.out⟩ ⟨by omega,HU.out⟩ hf o hc a V e.out D.out h.out HQ.out HG.out (by omega)
   case measure=>simp[intOf];omega
  obtain rfl:k=n:=by omega
  have m:=h.out.cell (i:=j+k) (by omega);rw[zF (by omega) e.out]at m;have P:=h.out.free (j+k);have a:L[j+k]'(by omega)<4294967296:=HD.out.get _ (by omega);obtain⟨u,q⟩:∃u,L[j+k]'(by omega)=u:=⟨_,rfl⟩;rw[q]at m a;obtain⟨H,p,h1,h2,h3,h4,h5⟩:=Hb a hc V;have HE:Hid (aB (r++[H])+f*aB vs=aB ((L.drop j).take (k+1))+(if decide (p=1)then 4294967296^(k+1)else 0)):=by
   show _=_
   have h6:=HQ.out;rw[Me (Ob v)]at h6;rw[dm r _ k e.out,oF (by omega),q,Ja h6 h5,MM];have O:p=0\/p=1:=by omega
   rcases O with rfl|rfl<;>simp
  have HP:=J (h.out.put (i:=j+k) N.symm (H:Int) H Z);rw[qW (by omega) e.out]at HP;have G:=J (dO D.out h3);have R:((p:Int)==1)=decide (p=1):=by
   have O:p=0\/p=1:=by omega
   rcases O with rfl|rfl<;>rfl
  clear q h5
  go_wp2
  go_ret
  exact⟨decide (p=1),r++[H],by rw[<-R];rfl,by have:=e.out;simp[this],G.out,HP.out,HE.out,HG.out.trans (jw _ _ _ _)⟩
def AbInv(w:World)(g cap base j n:Nat)(L vs:List Nat)(cv i:Value)(wr:World):Prop:=
 ∃(k c:Nat) (out:List Nat),k<=n/\i=.int .i64 k/\cv=.int .u64 c/\c<=1/\out.length=k/\Digs out/\OwnN wr base (.slice (some ⟨g,0,none⟩) L.length cap) (L.take j++(out++L.drop (j+k)))/\aB out+c*4294967296^k=aB ((L.drop j).take k)+aB (vs.take k)/\w.grownBy wr (some g)
theorem zH{w wr:World}{g e base j n k c x u:Nat}{L vs a:List Nat}{i s r:Int}(y:k<n)(_:vs.length=n)(E:j+(n+1)<=L.length)(l:∃h:k<vs.length,vs[k]=x)(m:∃h:j+k<L.length,L[j+k]=u)(t:x<4294967296)(v:u<4294967296)(F:c<=1)(b:a.length=k)(p:Digs a)(f:OwnN wr base (.slice (some ⟨g,0,none⟩) L.length e) (L.take j++(a++L.drop (j+k))))(C:aB a+c*4294967296^k=aB ((L.drop j).take k)+aB (vs.take k))(q:w.grownBy wr (some g))(D:i=((k+1:Nat):Int))(A:s=(((u+x+c)/4294967296:Nat):Int))(z:r=(((u+x+c)%4294967296:Nat):Int)):
  AbInv w g e base j n L vs (.int .u64 s) (.int .i64 i) (wr.setCell ⟨g,j+k,none⟩ (.int .u32 r)):=by
 subst D A z;obtain⟨o,l⟩:=l;obtain⟨d,m⟩:=m;refine⟨k+1,(u+x+c)/4294967296,a++[(u+x+c)%4294967296],y,Z,Z,by omega,by simp[b],dO p (Ni _ (by decide)),?_,?_,q.trans (jw _ _ _ _)⟩
 ·have:=f.put (i:=j+k) (by rw[mJ (by omega) b]) _ ((u+x+c)%4294967296) Z;rwa[qW d b]at this
 rw[dm a _ k b,cQ vs k o,l,oF d,m,MM];exact CS C Z
def Jc(w:World)(g cap base j n:Nat)(L vs:List Nat)(e:Ending)(w':World):Prop:=
 ∃(out:List Nat) (q:Nat),e=.returned (.tuple #[])/\out.length=n+1/\Digs out/\OwnN w' base (.slice (some ⟨g,0,none⟩) L.length cap) (L.take j++(out++L.drop (j+(n+1))))/\aB out+q*4294967296^(n+1)=aB ((L.drop j).take (n+1))+aB vs/\w.grownBy w' (some g)
theorem Jd{A V U c u P:Nat}(h:A+c*P=U+V):(A+P*((u+c)%4294967296))+(u+c)/4294967296*(P*4294967296)=(U+P*u)+V:=by
 have a:P*((u+c)%4294967296)+(u+c)/4294967296*(P*4294967296)=P*(u+c):=by
  rw[<-Mu,Mt ((u+c)/4294967296) P,Mu,<-MF];congr 1;omega
 rw[MF P u,Mt P c]at a;omega
theorem EU(g m base j n W Q:Nat)(B:Option Addr)(L vs:List Nat)(w:World)(hL:OwnN w base (.slice (some ⟨g,0,none⟩) L.length m) L)(E:Digs L)(R:IsN w B Q vs)(r:∀b off,B=some ⟨b,off,none⟩->b≠g)(p:vs.length=n)(hj:j+(n+1)<=L.length)(hn:0<n)(a3:n+1<=W)(S:L.length<=1073741824):
  Calls Tryz.prog 271 #[.slice (some ⟨g,j,none⟩) (n+1) W,.slice B vs.length Q] w (Jc w g m base j n L vs):=by
 have HO:=J hL;have HD:=J E;have N:=J R;clear hL E R;obtain⟨V,o2,rfl,a4,M⟩:=N.out.digit (i:=0) (by omega);have a1:V≠g:=r V o2 Z;rw[p];clear M
 go_enter Tryz.func271,Tryz.ntmps271
 go_wp2
 go_loopw [4,10] (fun cv i wr=>AbInv w g m base j n L vs cv i wr) (fun _ i _=>n-(intOf i).toNat)
 case atStart=>exact⟨0,0,[],Mx _,Z,Z,by omega,Z,fun d E=>by simp at E,by rw[M6,No,M8];exact HO.out,by simp[aB],World.grownBy.refl _ _⟩
 case round=>
  obtain⟨k,c,y,hk,rfl,rfl,hc,s,A,q,C,o⟩:=hrel;have f:=J q;have U:=J C;have P:=J o;have a:=J s;have z:=J A;have K:=J (N.out.grown o r);clear q C o s A;have I:=mJ (L:=L) (j:=j) (k:=k) (by omega) a.out;have v:=f.out.cell (i:=j+k) (by omega);rw[zF (by omega) a.out]at v;have a2:=f.out.free (j+k);have l:L[j+k]'(by omega)<4294967296:=HD.out.get _ (by omega);obtain⟨u,H⟩:∃u,L[j+k]'(by omega)=u:=⟨_,rfl⟩;rw[H]at v l;have X:=J H;clear H;by_cases O:k<n
  ·obtain⟨b3,o3,e,a0,t⟩:=K.out.digit (i:=k) (by omega);injection e with e
   injection e with e G
   subst e G;have cx:=t k (by omega);have h:=N.out.lt (i:=k) (by omega);obtain⟨x,F⟩:∃x,vs[k]'(by omega)=x:=⟨_,rfl⟩;rw[F]at cx h;have HX:=J F;clear t F
   go_wp2
   go_roundw
   case rel=>exact zH O p hj ⟨by omega,HX.out⟩ ⟨by omega,X.out⟩ h l hc a.out z.out f.out U.out P.out (by omega) (by omega) (by omega)
   case measure=>simp[intOf];omega
  obtain rfl:k=n:=by omega
  have HE:Hid (aB (y++[(u+c)%4294967296])+(u+c)/4294967296*4294967296^(k+1)=aB ((L.drop j).take (k+1))+aB vs):=by
   show _=_
   have Y:=U.out;rw[Me (Ob p)]at Y;rw[dm y _ k a.out,oF (by omega),X.out,MM];exact Jd Y
  have T:=J (f.out.put (i:=j+k) I.symm (((u+c)%4294967296:Nat):Int) ((u+c)%4294967296) Z);rw[qW (by omega) a.out]at T;have D:=J (dO z.out (Ni (u+c) (show 0<4294967296 by decide)));have HZ:=J (show((u:Int)+(c:Int))%4294967296=(((u+c)%4294967296:Nat):Int) by omega)
  go_wp2
  go_end0
  rw[HZ.out];exact⟨_,_,Z,by have:=a.out;simp[this],D.out,T.out,HE.out,P.out.trans (jw _ _ _ _)⟩
end Go.Proofs.YtfoejfohbkmmeaaGreatDoor
