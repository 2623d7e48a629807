import Derived.Test.YtfoejfohbkmmeaaGreatDoorU20
import Derived.Test.YtfoejfohbkmmeaaGreatDoorU00
import Derived.Test.YtfoejfohbkmmeaaGreatDoorU03
import Derived.Test.YtfoejfohbkmmeaaGreatDoorU10
import Derived.Test.YtfoejfohbkmmeaaGreatDoorU18
import Derived.Test.YtfoejfohbkmmeaaGreatDoorU08
set_option maxRecDepth 100000
set_option maxHeartbeats 4000000
namespace Go.Proofs.YtfoejfohbkmmeaaGreatDoor
open Go.RowKit
open Lib renaming hid→J
def DdInv(W0:World)(ds:List Nat)(d:Nat)(r i:Value)(wr:World):Prop:=
 ∃(k rs:Nat) (qs:List Nat),k<=ds.length/\i=.int .i64 ((k:Int)-1)/\r=.int .u64 rs/\rs<d/\qs.length=ds.length-k/\Digs qs/\OwnN wr W0.heap.size (.slice (some ⟨W0.heap.size,0,none⟩) ds.length ds.length) (List.replicate k 0++qs)/\aB (ds.drop k)=d*aB qs+rs/\Below W0.heap.size W0 wr/\W0.heap.size<wr.heap.size
theorem Hd{a qs:List Nat}{k d rs x:Nat}(c:k<a.length)(b:a[k]=x)(f:aB (a.drop (k+1))=d*aB qs+rs):
  aB (a.drop k)=d*aB ((rs*4294967296+x)/d::qs)+(rs*4294967296+x)%d:=by
 rw[xh a k c,b,f,aB];have h:=Oe (rs*4294967296+x) d;have e:d*((rs*4294967296+x)/d+4294967296*aB qs)=d*((rs*4294967296+x)/d)+4294967296*(d*aB qs):=by rw[MF,NO d]
 rw[e];omega
theorem E1(n:Nat)(h:n<4294967296):IntKind.u64.wrap (n:Int)%4294967296=n:=by rw[IntKind.wrap_u64];omega
theorem Iq{rs d x:Nat}(h:rs<d)(a:x<4294967296):(rs*4294967296+x)/d<4294967296:=by
 rw[Nz (by omega)];have:(rs+1)*4294967296<=d*4294967296:=MJ _ h;rw[Mt 4294967296 d];omega
theorem zJ{a wr:World}{b qs:List Nat}{d k rs x:Nat}{z q i:Int}(m:k<b.length)(r:b[k]=x)(c:x<4294967296)(w:rs<d)(g:qs.length=b.length-(k+1))(v:Digs qs)(n:OwnN wr a.heap.size (.slice (some ⟨a.heap.size,0,none⟩) b.length b.length) (List.replicate (k+1) 0++qs))(t:aB (b.drop (k+1))=d*aB qs+rs)(u:Below a.heap.size a wr)(o:a.heap.size<wr.heap.size)
  (l:z=(((rs*4294967296+x)/d:Nat):Int)) (f:q=(((rs*4294967296+x)%d:Nat):Int)) (j:i=(k:Int)-1):DdInv a b d (.int .u64 q) (.int .i64 i) (wr.setCell ⟨a.heap.size,k,none⟩ (.int .u32 z)):=by
 subst f j;refine⟨k,_,(rs*4294967296+x)/d::qs,by omega,Z,Z,Ni _ (by omega),by simp[g];omega,fun e s=>?_,?_,Hd m r t,u.setCell (p:=⟨a.heap.size,k,none⟩) (L5 _) _,by simpa[World.setCell]using o⟩
 ·rcases Mi.1 s with rfl|h
  ·exact Iq w c
  exact v e h
 have:=n.put (i:=k) (by simp[g];omega) z _ l;rw[pE]at this;exact this
def QD(n d:Nat)(W:World)(v:Value):Prop:=∃a,v=.tuple #[a,.int .u32 ((n%d:Nat):Int)]/\IsD W a (n/d)
theorem vT(A:Option Addr)(c:Nat)(g:List Nat)(d:Nat)(w:World)(h:IsN w A c g)(hl:g.length<=1048576)(D:0<d)(a1:d<4294967296):
  Calls Tryz.prog 173 #[.slice A g.length c,.int .u32 d] w (Gives (QD (aB g) d) w):=by
 have HI:=J h;clear h;have a3:((d:Int)==0)=false:=by rw[beq_eq_false_iff_ne];omega
 obtain⟨W,q,v,z,N⟩:=eF w g.length (by omega);have q:=q .i64 .i64;have U:=J v;have X:=J z;have y:w.heap.size<W.heap.size:=by omega
 clear v z N
 go_enter Tryz.func173,Tryz.ntmps173
 go_wp2
 clear q
 go_loopw [7,8] (fun r i wr=>DdInv w g d r i wr) (fun _ i _=>(intOf i+1).toNat)
 case atStart=>exact⟨g.length,0,[],L5 _,Z,Z,D,by simp,fun d D=>by simp at D,by simpa using U.out,by simp[aB],X.out,y⟩
 case round=>
  obtain⟨k,rs,qs,hk,rfl,rfl,M,C,H,j,I,E,S⟩:=hrel;have m:=J j;have HQ:=J I;have a:=J E;have F:=J C;have L:=J H;clear j I E C H;cases k with
  |zero=>
   have j:OwnN wr w.heap.size (.slice (some ⟨w.heap.size,0,none⟩) g.length g.length) qs:=by have:=m.out;rwa[NI,M6]at this
   obtain⟨h4,h5⟩:=j.isN L.out;have P:=HQ.out;rw[Nx]at P;have Y:aB qs=aB g/d/\aB g%d=rs:=by
    rw[P];exact⟨by rw[Nat.mul_add_div D,Oa M];omega,by rw[Nat.mul_add_mod,NZ M]⟩
   have HT:=J (oD h4 h5 (by have:=F.out;omega) Y.1);have HR:=J Y.2;clear j h4 h5 P Y;have o:rs<4294967296:=by omega
   go_wp2_with fail
   refine HT.out.mono ?_;rintro e w5 ⟨v5,rfl,u,s⟩;have R:=J u;have Q:=J (ak a.out s a.out.size);clear u s
   go_wp2
   go_ret2
   exact⟨_,Z,⟨_,by rw[HR.out];rfl,R.out⟩,Q.out⟩
  |succ k=>
   rw[show((k+1:Nat):Int)-1=(k:Int) by omega];have l:k<g.length:=by omega
   obtain⟨b,off,rfl,hb,hc⟩:=(HI.out.below a.out).digit l;have cx:=hc k l;have f:=HI.out.lt l;obtain⟨x,O⟩:∃x,g[k]=x:=⟨_,rfl⟩;rw[O]at cx f;have HX:=J O;have a2:=m.out.free k;have a0:=m.out.cell (i:=k) (by simp;omega);obtain⟨old,n⟩:∃old,(List.replicate (k+1) 0++qs)[k]'(by simp;omega)=old:=⟨_,rfl⟩;rw[n]at a0;have K:=BH rs x (by omega) f;rw[show(((rs*4294967296:Nat)):Int)=(rs:Int)*4294967296 by omega]at K;have G:rs*4294967296+x<18446744073709551616:=by omega
   have p:=Iq M f;have o:(rs*4294967296+x)%d<d:=Ni _ D;obtain⟨t,T⟩:∃t,rs*4294967296+x=t:=⟨_,rfl⟩;rw[T]at K G p o;have B:=J T;have e2:((t:Int)%(d:Int))=((t%d:Nat):Int):=by omega
   have V:=J e2;clear hc O n T e2
   go_wp2
   go_roundw
   case rel=>exact zJ l HX.out f M F.out L.out m.out HQ.out a.out S (by rw[B.out];exact E1 _ p) (by rw[B.out];first|exact V.out|omega) (by omega)
   case measure=>simp[intOf]
theorem uk{v:Value}{n d:Nat}{w:World}(h:IsD w v n)(b:(ay n).length<=1048576)(f:0<d)(a:d<4294967296):Calls Tryz.prog 173 #[v,.int .u32 d] w (Gives (QD n d) w):=by
 obtain⟨A,c,rfl,e⟩:=h;have:=vT A c (ay n) d w e b f a;rwa[aI]at this
def LX(X Y:Nat)(W:World)(r:Value):Prop:=∃a b,r=.tuple #[a,b,.bool true]/\IsD W a (X/Y)/\IsD W b (X%Y)
theorem IsD.zero(W:World):IsD W (.slice none 0 0) 0:=⟨none,0,Z,At.nil _ _ _,fun _=>⟨Z,Z⟩,L5 _,by omega,fun _ h=>by cases h⟩
theorem xx{n:Nat}(h:(ay n).length=1):0<n/\n<4294967296/\ay n=[n]:=by
 have c:n≠0:=fun e=>by rw[e,gB]at h;simp at h
 have b:=fb c;have a:ay (n/4294967296)=[]:=Mk (by rw[b]at h;simpa using h);have d:=xb.1 a;exact⟨by omega,by omega,by rw[b,a,NZ (by omega)]⟩
theorem vU{u v:Value}{X Y:Nat}{w:World}(hu:IsD w u X)(hv:IsD w v Y)(c3:(ay X).length<=1048576)(b5:(ay Y).length<=1048576)(hY:0<Y):Calls Tryz.prog 210 #[u,v] w (Gives (LX X Y) w):=by
 have HC:=J (jT hu (by omega));have HV:=J hv;obtain⟨A0,c0,rfl,_⟩:=hu;obtain⟨B0,e0,rfl,_⟩:=hv
 go_enter Tryz.func210,Tryz.ntmps210
 go_wp2_with fail
 refine HC.out.mono ?_;rintro e w1 ⟨v1,rfl,L,z⟩;obtain⟨A1,c1,dx,rfl,W,k⟩:=L.open_;have H:=J W;have O:=J z;have F:=J k.out;have G:=z.size;clear L W z k HC;have T:=J (jT (HV.out.below O.out) (by omega))
 go_wp2_with fail
 refine T.out.mono ?_;rintro e w2 ⟨v2,rfl,V,r⟩;obtain⟨A2,c2,x,rfl,K,k⟩:=V.open_;have q:=J K;have C:=J (H.out.below r);have a4:=J (ak O.out r G);have g:=J k.out;have M:w.heap.size<=w2.heap.size:=L6 G r.size;clear V K r k T H;have b3:0<x.length:=by
  rcases M1 x.length with h|h
  ·rw[g.out]at h;have:=bR.1 h;omega
  exact h
 have g1:((x.length:Int)==0)=false:=by rw[beq_eq_false_iff_ne];omega
 have c:(eu (X:Int) (Y:Int)<0)↔X<Y:=by
  rcases OE X Y with h|h|h
  ·rw[iX h];omega
  ·rw[iz h];omega
  rw[iy h];omega
 have y:=J (BJ (C.out.isD F.out) (q.out.isD g.out) (by omega) (by omega));obtain⟨cm,a0⟩:∃cm,eu (X:Int) (Y:Int)=cm:=⟨_,rfl⟩;rw[a0]at y c;clear a0
 go_wp2_with fail
 refine y.out.mono ?_;rintro e w3 ⟨v3,rfl,a5,j⟩;obtain rfl:=a5;have D:=J ((C.out.isD F.out).below j);have b2:=J ((q.out.isD g.out).below j);have U:=J (q.out.below j);have A:=J (ak a4.out j M);have p:w.heap.size<=w3.heap.size:=L6 M j.size;clear j y C q;by_cases f:X<Y
 ·have b0:cm<0:=c.2 f;clear c;have HN:=J (uf D.out (by omega))
  go_wp2_with fail
  refine HN.out.mono ?_;rintro e w4 ⟨v4,rfl,d,a⟩;have o:=J d;have l:=J (ak A.out a p);clear d a
  go_wp2
  go_ret3
  exact⟨_,Z,⟨_,_,Z,by rw[Oa f];exact IsD.zero _,by rw[NZ f];exact o.out⟩,l.out⟩
 have b0:¬cm<0:=fun h=>f (c.1 h)
 have a1:Y<=X:=by omega
 clear c;by_cases h1:x.length=1
 ·have g2:((x.length:Int)==1)=true:=by rw[beq_iff_eq];omega
  obtain⟨E,t,S⟩:=xx (n:=Y) (by rw[<-g.out];exact h1);have s:x=[Y]:=by rw[g.out,S]
  obtain⟨b,off,rfl,hb,hc⟩:=U.out.digit (i:=0) (by omega);have c0:=hc 0 (by omega);simp only[s,Ow,No]at c0;clear hc S s;have I:=J (uk D.out (by omega) E t);have Q:X%Y<4294967296:=Nat.lt_trans (Ni _ E) t;obtain⟨m,hm⟩:∃m,X%Y=m:=⟨_,rfl⟩;have HM:=J hm;rw[hm]at Q;unfold QD at I;rw[hm]at I;clear hm
  go_wp2_with fail
  refine I.out.mono ?_;rintro e w4 ⟨v4,rfl,⟨q4,rfl,d⟩,a⟩;have o:=J d;have l:=J (ak A.out a p);have a2:w.heap.size<=w4.heap.size:=L6 p a.size;clear d a;have HF:=J (ji m w4 (by omega))
  go_wp2_with fail
  refine HF.out.mono ?_;rintro e w5 ⟨v5,rfl,R,B⟩;have b1:=J R;have N:=J (o.out.below B);have a3:=J (ak l.out B a2);clear R B
  go_wp2
  go_ret3
  exact⟨_,Z,⟨_,_,Z,N.out,by rw[HM.out];exact b1.out⟩,a3.out⟩
 have g2:((x.length:Int)==1)=false:=by rw[beq_eq_false_iff_ne];omega
 have I:=J (Km D.out b2.out (by omega) (by rw[<-g.out];omega) a1)
 go_wp2_with fail
 refine I.out.mono ?_;rintro e w4 ⟨v4,rfl,⟨q4,r4,rfl,d,P⟩,a⟩;have o:=J d;have a9:=J P;have l:=J (ak A.out a p);clear d P a
 go_wp2
 go_ret3
 exact⟨_,Z,⟨_,_,Z,o.out,a9.out⟩,l.out⟩
def Lz(w:World)(G M:Nat)(x y:Value)(wr:World):Prop:=∃a b:Nat,IsD wr x a/\IsD wr y b/\a<=M/\b<=M/\Nat.gcd a b=G/\Below w.heap.size w wr
theorem IsD.num{W:World}{v:Value}{n:Nat}(h:IsD W v n):ov v W=n:=by
 obtain⟨A,c,rfl,g⟩:=h;have e:=aI n;generalize ay n=l at*;cases A with
 |none=>
  have:l=[]:=Mk (g.nil Z).1;subst this;exact e
 |some a=>
  rw[<-e];show aB ((List.range l.length).map fun i=>match W.cell? ⟨a.block,a.off+i,none⟩with
   |some (.int _ d)=>d.toNat
   |_=>0)=aB l
  congr 1;apply OY
  ·simp
  intro j o k;obtain⟨b,off,f,_,m⟩:=g.digit k;injection f with f
  subst f;simp[m j k]
theorem Ko{u v:Value}{X Y:Nat}{w:World}(hu:IsD w u X)(hv:IsD w v Y)(P:(ay X).length<=1048576)(b0:(ay Y).length<=1048576):Calls Tryz.prog 209 #[u,v] w (Gives (fun W r=>IsD W r (Nat.gcd X Y)) w):=by
 have HC:=J (uf hu (by omega));have HV:=J hv;have E:Hid (∀n,n<=max X Y->(ay n).length<=1048576):=fun n hn=>by
  rcases Qt X Y with h|h
  ·exact L6 (aS (by omega)) b0
  exact L6 (aS (by omega)) P
 obtain⟨A0,c0,rfl,_⟩:=hu;obtain⟨B0,e0,rfl,_⟩:=hv
 go_enter Tryz.func209,Tryz.ntmps209
 go_wp2_with fail
 refine HC.out.mono ?_;rintro e w1 ⟨v1,rfl,t,p⟩;have a1:=J t;have D:=J p;have H:=p.size;clear t p HC;have F:=J (uf (HV.out.below D.out) (by omega))
 go_wp2_with fail
 refine F.out.mono ?_;rintro e w2 ⟨v2,rfl,G,k⟩;have a9:=J G;have z:=J (a1.out.below k);have a0:=J (ak D.out k H);have b1:w.heap.size<=w2.heap.size:=L6 H k.size;clear G k F
 go_wp2
 go_loopw [5,6] (fun x y wr=>Lz w (Nat.gcd X Y) (max X Y) x y wr) (fun _ y wr=>ov y wr)
 case atStart=>exact⟨X,Y,z.out,a9.out,by omega,by omega,Z,a0.out⟩
 case round=>
  obtain⟨a,b,Q,N,ha,U,hg,q⟩:=hrel;have R:=J Q;have L:=J N;have O:=J hg;have l:=J q;have o:=q.size;have I:=J N.num;obtain⟨Ax,cx,dx,rfl,a2,a5⟩:=Q.open_;obtain⟨Ay,cy,S,rfl,a3,s⟩:=N.open_;clear Q N hg q a2 a3;by_cases h0:0<S.length
  ·have i:0<b:=by
    rcases M1 b with h|h
    ·rw[s.out,h,gB]at h0;simp at h0
    exact h
   by_cases M:dx.length<=2/\S.length<=2
   ·obtain⟨M,h2⟩:=M;have T:(4294967296^2:Nat)=18446744073709551616:=by decide
    have C:a<18446744073709551616:=by
     have:=b4 (ay a) (bY a);rw[aI,<-a5.out]at this;exact Mp this (by rw[<-T];exact MP (by decide) M)
    have B:b<18446744073709551616:=by
     have:=b4 (ay b) (bY b);rw[aI,<-s.out]at this;exact Mp this (by rw[<-T];exact MP (by decide) h2)
    have A:=J (CL R.out L.out C B);rw[O.out]at A;clear T
    go_wp2_with fail
    refine A.out.mono ?_;rintro e w4 ⟨v4,rfl,d,c⟩;have a4:=J d;have f:=J (ak l.out c o);clear d c
    go_wp2
    go_ret
    exact⟨_,Z,a4.out,f.out⟩
   have A:=J (vU R.out L.out (E.out a ha) (E.out b U) i);by_cases h2:dx.length<=2
   ·have h3:¬S.length<=2:=fun h=>M ⟨h2,h⟩
    go_wp2_with fail
    refine A.out.mono ?_;rintro e w4 ⟨v4,rfl,⟨q4,r4,rfl,d,j⟩,c⟩;have g:=J j;have m:=J (L.out.below c);have f:=J (ak l.out c o);clear d j c
    go_wp2
    go_roundw
    case rel=>exact⟨b,a%b,m.out,g.out,U,by have:=Nat.mod_le a b;omega,by rw[<-O.out,Oo b,<-P4,Oo],f.out⟩
    case measure=>rw[I.out,g.out.num];exact Ni _ i
   go_wp2_with fail
   refine A.out.mono ?_;rintro e w4 ⟨v4,rfl,⟨q4,r4,rfl,d,j⟩,c⟩;have g:=J j;have m:=J (L.out.below c);have f:=J (ak l.out c o);clear d j c
   go_wp2
   go_roundw
   case rel=>exact⟨b,a%b,m.out,g.out,U,by have:=Nat.mod_le a b;omega,by rw[<-O.out,Oo b,<-P4,Oo],f.out⟩
   case measure=>rw[I.out,g.out.num];exact Ni _ i
  have i:b=0:=bR.1 (by rw[<-s.out];omega);have K:Nat.gcd X Y=a:=by rw[<-O.out,i,Pa]
  have V:=J K;clear K
  go_wp2
  go_ret
  exact⟨_,Z,by rw[V.out];exact R.out,l.out⟩
def IsQ(W:World)(v:Value)(ng:Bool)(N D:Nat):Prop:=∃vn vd,v=.agg #[.bool ng,vn,vd]/\IsD W vn N/\IsD W vd D
def IsF(W:World)(v:Value)(q:Rat):Prop:=IsQ W v (decide (q.num<0)) q.num.natAbs q.den
theorem IsQ.below{W W':World}{v:Value}{a:Bool}{N D:Nat}(h:IsQ W v a N D)(b:Below W.heap.size W W'):IsQ W' v a N D:=by
 obtain⟨c,d,e,f,g⟩:=h;exact⟨c,d,e,f.below b,g.below b⟩
theorem IsF.below{W W':World}{v:Value}{q:Rat}(h:IsF W v q)(a:Below W.heap.size W W'):IsF W' v q:=IsQ.below h a
theorem IsQ.open_{W:World}{v:Value}{b:Bool}{N D:Nat}(h:IsQ W v b N D):∃A c a B d es,v=.agg #[.bool b,.slice A a.length c,.slice B es.length d]/\IsD W (.slice A a.length c) N/\IsD W (.slice B es.length d) D/\Hid (a=ay N)/\Hid (es=ay D):=by
 obtain⟨k,l,e,g,j⟩:=h;obtain⟨A,c,rfl,i⟩:=g;obtain⟨B,d,rfl,f⟩:=j;exact⟨A,c,ay N,B,d,ay D,e,⟨A,c,Z,i⟩,⟨B,d,Z,f⟩,Z,Z⟩
theorem zK{w w':World}{b off:Nat}(h:w'.heap[b]? =w.heap[b]?):w'.cell? ⟨b,off,none⟩=w.cell? ⟨b,off,none⟩:=by simp[World.cell?,h]
def E3(cs:Array Value):Prop:=∀(i:Nat) (d:Int),cs[i]? ≠some (.int .u32 d)
theorem IsD.store{W W':World}{v:Value}{n g:Nat}{t:TypeId}{cs:Array Value}(h:IsD W v n)(s:IsBlk W g t cs)(i:E3 cs)(r:∀k,k≠g->W'.heap[k]? =W.heap[k]?)(x:W'.heap.size=W.heap.size):IsD W' v n:=by
 obtain⟨A,c,e,a⟩:=h;refine⟨A,c,e,fun o=>?_,a.nil,a.cap,a.max,a.ok⟩;obtain⟨b,off,q,w,m⟩:=a.at_ o;have l:b≠g:=by
  rintro rfl;obtain⟨u,f⟩:∃u,(ce (ay n))[0]? =some u:=⟨_,L4 o⟩;have p:=m 0 u f;rw[s.cell]at p;obtain⟨d,rfl⟩:∃d:Int,u=.int .u32 d:=by
   simp only[ce,MQ,Na]at f;obtain⟨d,_,e⟩:=f;exact⟨d,e.symm⟩
  exact i _ _ p
 refine⟨b,off,q,by omega,fun j u f=>?_⟩;rw[<-m j u f];exact zK (r b l)
theorem IsQ.store{W W':World}{v:Value}{c:Bool}{N D g:Nat}{t:TypeId}{cs:Array Value}(h:IsQ W v c N D)(d:IsBlk W g t cs)(a:E3 cs)(b:∀k,k≠g->W'.heap[k]? =W.heap[k]?)(f:W'.heap.size=W.heap.size):IsQ W' v c N D:=by
 obtain⟨i,l,e,j,m⟩:=h;exact⟨i,l,e,j.store d a b f,m.store d a b f⟩
theorem fc{b:Bool}{A B:Option Addr}{m n c d:Nat}:E3 #[.bool b,.slice A m c,.slice B n d]:=fun i x h=>by
 match i with
 |0=>simp at h
 |1=>simp at h
 |2=>simp at h
 |i+3=>simp at h
def cF(ng:Bool)(N D:Nat):Rat:=mkRat (if ng then-(N:Int)else(N:Int)) D
theorem ky(a:Bool)(D:Nat):cF a 0 D=0:=by cases a<;>simp[cF]
theorem si(a:Bool)(N:Nat):cF a N 0=0:=by simp[cF]
theorem fd(q:Rat):cF (decide (q.num<0)) q.num.natAbs q.den=q:=by
 unfold cF;have:(if decide (q.num<0)=true then-(q.num.natAbs:Int)else(q.num.natAbs:Int))=q.num:=by
  by_cases h:q.num<0
  ·simp only[h,decide_true,if_true];omega
  simp only[h,decide_false];simp;omega
 rw[this];exact Rat.mkRat_self q
theorem pH(a:Bool){N D:Nat}(n:0<N)(p:0<D):decide ((cF a N D).num<0)=a/\(cF a N D).num.natAbs=N/Nat.gcd N D/\(cF a N D).den=D/Nat.gcd N D:=by
 have i:D≠0:=by omega
 have f:=Rat.num_mkRat (if a then-(N:Int)else(N:Int)) D;have e:=Rat.den_mkRat (if a then-(N:Int)else(N:Int)) D;rw[if_neg i]at f e;have k:(if a then-(N:Int)else(N:Int)).natAbs=N:=by cases a<;>simp
 rw[k,Oo]at f e;have d:0<Nat.gcd N D:=PZ _ n;obtain⟨m,c⟩:=Nat.gcd_dvd_left N D;obtain⟨g,l⟩:∃g,Nat.gcd N D=g:=⟨_,rfl⟩;rw[l]at f e d c⊢;have o:0<m:=by
  rcases M1 m with h|h
  ·rw[h]at c;simp at c;omega
  exact h
 have b:N/g=m:=by rw[c,Pe _ d]
 have j:(cF a N D).num=if a then-(m:Int)else(m:Int):=by
  unfold cF;rw[f];cases a
  ·simp only[N9,if_false];rw[<-PX,b]
  simp only[if_true];rw[c,Pw,Int.neg_mul_eq_mul_neg,Int.mul_ediv_cancel_left _ (by omega)]
 refine⟨?_,?_,e⟩
 ·rw[j];cases a<;>simp<;>omega
 rw[j,b];cases a<;>simp
theorem C0{W:World}{v:Value}{a:Bool}{N D:Nat}(d:0<N)(b:0<D)(h:IsQ W v a (N/Nat.gcd N D) (D/Nat.gcd N D)):IsF W v (cF a N D):=by
 obtain⟨e,f,c⟩:=pH a d b;unfold IsF;rw[e,f,c];exact h
theorem C1:∀{n:Nat},n≠0->(ay n).getD ((ay n).length-1) 0≠0:=by
 intro n;induction n using Nat.strongRecOn with
 |ind n ih=>
  intro h;rw[fb h];by_cases b:n/4294967296=0
  ·rw[b,gB];simp;omega
  have:=ih (n/4294967296) (by omega) b;have c:0<(ay (n/4294967296)).length:=by
   rcases M1 (ay (n/4294967296)).length with a|a
   ·exact absurd (bR.1 a) b
   exact a
  rw[Mb,show(ay (n/4294967296)).length+1-1=(ay (n/4294967296)).length-1+1 by omega];simpa[List.getD]using this
theorem sj{n:Nat}:c8 n=0↔n=0:=by
 constructor
 ·intro h;rcases M1 n with a|a
  ·exact a
  exfalso;unfold c8 at h;rw[if_neg (by omega)]at h;have f:=C1 (n:=n) (by omega);have c:(ay n).getD ((ay n).length-1) 0<2^64:=by
   rw[List.getD];cases b:(ay n)[(ay n).length-1]? with
   |none=>simp
   |some d=>
    have:=bY n d (L9 b);simp;have e:(2:Nat)^64=18446744073709551616:=by decide
    omega
  have:=zw (d:=(ay n).getD ((ay n).length-1) 0) (by omega) c;omega
 rintro rfl;rfl
theorem li{n m:Nat}(h:c8 n=m):((m:Int)==0)=decide (n=0):=by
 subst h;by_cases a:n=0
 ·rw[a];rfl
 have:c8 n≠0:=fun e=>a (sj.1 e)
 simp[a,this]
structure Fit (L:Nat) (q:Rat):Prop where
 num:(ay q.num.natAbs).length<=L
 den:(ay q.den).length<=L
def xz(c:UInt8):Bool:=(decide (65<=c.toNat)&&decide (c.toNat<=90))||(decide (97<=c.toNat)&&decide (c.toNat<=122))
def xA(c:UInt8):Bool:=(decide (48<=c.toNat)&&decide (c.toNat<=57))||decide (c.toNat=95)
def xB(j:Nat)(c:UInt8):Bool:=xz c||(decide (j≠0)&&xA c)
def bU(s:ByteArray):Bool:=decide (1<=s.size)&&decide (s.size<=24)&&(List.range s.size).all fun j=>xB j (s.data.toList.getD j 0)
theorem ul{s:ByteArray}{i:Nat}{c:UInt8}(h:s.data.toList[i]? =some c)(a:i<s.size)(b:xB i c=false):bU s=false:=by
 unfold bU;rw[N8];right;rw[PO];exact⟨i,N1.2 a,by rw[Mm,h,MK,b];exact MR⟩
structure Col where
 name:ByteArray
 ty:Int
 key:Bool
structure Sch where
 name:ByteArray
 cert:Bool
 cols:List Col
structure Tp where
 vals:List V
 prob:Rat
structure Rel where
 sch:Sch
 tups:List Tp
def V.tree(v:V):Tree:=.agg [.sc (.int .i64 v.t),.sc (.int .i64 v.n),.sc (.string v.s)]
def Col.tree(c:Col):Tree:=.agg [.sc (.string c.name),.sc (.int .i64 c.ty),.sc (.bool c.key)]
def Sch.tree(s:Sch):Tree:=.agg [.sc (.string s.name),.sc (.bool s.cert),.sl (s.cols.map Col.tree)]
def aM(n:Nat):Tree:=.sl ((ay n).map fun d=>.sc (.int .u32 (d:Nat)))
def jX(ng:Bool)(N D:Nat):Tree:=.agg [.sc (.bool ng),aM N,aM D]
def dp(q:Rat):Tree:=jX (decide (q.num<0)) q.num.natAbs q.den
def Tp.tree(t:Tp):Tree:=.agg [.sl (t.vals.map V.tree),.sc (.bool (decide (t.prob.num<0))),aM t.prob.num.natAbs,aM t.prob.den]
def Rel.tree(r:Rel):Tree:=.agg [.sc (.string r.sch.name),.sc (.bool r.sch.cert),.sl (r.sch.cols.map Col.tree),.sl (r.tups.map Tp.tree)]
theorem iZ(l:List V):Sized 3 (l.map V.tree):=Sized.map _ l fun _=>rfl
theorem ej(l:List Col):Sized 3 (l.map Col.tree):=Sized.map _ l fun _=>rfl
theorem bQ(l:List Tp):Sized 4 (l.map Tp.tree):=Sized.map _ l fun _=>rfl
theorem bf{α:Type}{f:α->Tree}{l:List α}{i:Nat}{a:α}(h:l[i]? =some a):(l.map f)[i]? =some (f a):=by rw[MQ,h];rfl
def fw(i:Nat):Tree:=.sc (.int .i64 (i:Nat))
theorem qg(l:List Nat):Sized 1 (l.map fw):=Sized.map _ l fun _=>rfl
def nw(cert:Bool)(c:Col):Bool:=((!bU c.name)||((c.ty !=1)&&(c.ty !=2)))||(cert&&c.key)
def gN(cert:Bool)(pre:List Col):List Col->Bool
 |[]=>false
 |c::l=>nw cert c||pre.any (fun d=>d.name.toList==c.name.toList)||gN cert (pre++[c]) l
def mK(s:Sch):Bool:=((!bU s.name)||decide (s.cols.length<1))||decide (6<s.cols.length)
def fF(s:Sch):Bool:= !(mK s||gN s.cert [] s.cols)
def dJ:List Col->List V->List V
 |c::cs,v::vs=>if c.key then v::dJ cs vs else dJ cs vs
 |_,_=>[]
def aG(s:Sch)(vs:List V):List V:=if vs.length=s.cols.length then dJ s.cols vs else []
def gU(vs:List V):List Tp->Nat->Option Nat
 |[],_=>none
 |t::ts,i=>if aO t.vals vs=0 then some i else gU vs ts (i+1)
def bX(s:Sch)(key:List V):List Tp->Nat->List Nat
 |[],_=>[]
 |t::ts,i=>if aO (aG s t.vals) key=0 then i::bX s key ts (i+1)else bX s key ts (i+1)
def gO(ts:List Tp)(i:Nat):Rat:=((ts[i]?).map (·.prob)).getD 0
def dR(ts:List Tp)(l:List Nat):Rat:=l.foldl (fun q i=>q+gO ts i) 0
theorem um{ts:List Tp}{l:List Nat}{j i:Nat}{t:Tp}(b:l[j]? =some i)(c:ts[i]? =some t):dR ts (l.take (j+1))=dR ts (l.take j)+t.prob:=by
 obtain⟨a,rfl⟩:=L7.1 b;unfold dR;rw[Mq a,Pg];simp only[NH,Pc,gO,c,Nu,MK]
def eV(r:Rel)(vs:List V):List Nat:=if aG r.sch vs=[]then []else bX r.sch (aG r.sch vs) r.tups 0
def aT(r:Rel):List Tree:=[.sc (.string r.sch.name),.sc (.bool r.sch.cert),.sl (r.sch.cols.map Col.tree),.sl (r.tups.map Tp.tree)]
def bS(t:Tp):List Tree:=[.sl (t.vals.map V.tree),.sc (.bool (decide (t.prob.num<0))),aM t.prob.num.natAbs,aM t.prob.den]
def aU(q:Rat):List Tree:=[.sc (.bool (decide (q.num<0))),aM q.num.natAbs,aM q.den]
def dq(s:Sch):List Tree:=[.sc (.string s.name),.sc (.bool s.cert),.sl (s.cols.map Col.tree)]
def dS:List Tree:=[.sc (.string (⟨#[]⟩)),.sc (.bool false),.sl [],.sl []]
theorem a8:Tryz.prog.underlying 9=some .string:=by kernel_rfl
theorem oG(s:ByteArray):Ct 73 [sT s] (bT (bU s)):=by
 refine Ct.of (n:=58) Tryz.func73 Z Z Z Z Z fun w0 G0=>?_
 refine ab<|aj 1 Z<|ab<|ab<|ae<|aa 1 Z<|af (t:=nI s.size) Z Z Z (eK Z a8 Z)<|af (t:=bT (decide (s.size<1))) Z Z Z (ah (ai Z Z Z Zy) (av (iu s.size 1)))<|aa 1 Z<|aA (t:=sT s) ((decide (s.size<1))=false) Z Z Z au Z Z (fun b=>aw Z Z)<|aA (t:=nI s.size) ((decide (s.size<1))=false) Z Z Z au Z Z (fun b=>eK Z a8 (if_pos b))<|aA (t:=bT (decide (24<s.size))) ((decide (s.size<1))=false) Z Z Z au Z Z (fun b=>ah (ai Z (if_pos b) Z (fun _=>rfl)) (av (tE s.size 24)))<|af (t:=bT ((decide (s.size<1))||(decide (24<s.size)))) Z Z Z (aL Z Z (fun a=>(av (by rw[a];rfl))) (fun a=>(if_pos a).trans (av (by rw[a];rfl))))<|ag<|aH Z (fun d=>?_) (fun d=>?_)
 ·refine ab<|aj 1 rfl<|aC<|⟨.inr rfl,_,.cons rfl .nil,av (by unfold bU;simp only[M5,decide_eq_true_eq]at d;rw[eq_comm,N8,N8];left;rcases d with h|h;exact .inl (decide_eq_false (by omega));exact .inr (decide_eq_false (by omega))),rfl⟩
 refine ax<|ab<|ab<|aj 1 Z<|aE<|aW (fun m o=>∃(i:Nat),(i<=s.size/\∀j,j<i->xB j (s.data.toList.getD j 0)=true)/\m=s.size-i/\o=⟨58,[(0,sT s),(3,nI i)],[],[]⟩) 0 0 ⟨0,⟨by omega,fun j l=>by omega⟩,Z,Z⟩ ⟨Z,Z,Z,.cons Z Z (.cons Z Z .nil),Z⟩ ?_;rintro m o ⟨i,⟨u,e⟩,rfl,rfl⟩;have r:s.size<=24:=by simp only[Mz,decide_eq_false_iff_not]at d;omega
 refine ab<|ab<|ae<|aa 2 Z<|af (t:=nI s.size) Z Z Z (eK Z a8 Z)<|af (t:=bT (decide (i<s.size))) Z Z Z (ah (ai Z Z Z Zy) (av (iu i s.size)))<|ag<|aF Z (fun f=>?_) (fun f=>?_)
 ·obtain⟨c,g⟩:∃c,s.data.toList[i]? =some c:=⟨_,L4 (by simpa using f)⟩;refine ax<|ab<|aE<|ab<|ae<|aa 2 Z<|af (t:=.sc (.int .u8 ((c.toNat:Nat):Int))) Z Z Z (dE Z a8 Z Z Z g)<|aa 1 Z<|ag<|ab<|ae<|aa 1 Z<|af (t:=bT (decide (65<=c.toNat))) Z Z Z (ah (ai Z Z Z Zy) (av (DT 65 c.toNat)))<|aa 1 Z<|aA (t:=.sc (.int .u8 ((c.toNat:Nat):Int))) ((decide (65<=c.toNat))=true) Z Z Z au Z Z (fun b=>aw Z Z)<|aA (t:=bT (decide (c.toNat<=90))) ((decide (65<=c.toNat))=true) Z Z Z au Z Z (fun b=>ah (ai Z (if_pos b) Z (fun _=>rfl)) (av (DT c.toNat 90)))<|af (t:=bT ((decide (65<=c.toNat))&&(decide (c.toNat<=90)))) Z Z Z (aL Z Z (fun a=>(if_pos a).trans (av (by rw[a];rfl))) (fun a=>(av (by rw[a];rfl))))<|aa 1 Z<|aA (t:=.sc (.int .u8 ((c.toNat:Nat):Int))) (((decide (65<=c.toNat))&&(decide (c.toNat<=90)))=false) Z Z Z au Z Z (fun b=>aw Z Z)<|aA (t:=bT (decide (97<=c.toNat))) (((decide (65<=c.toNat))&&(decide (c.toNat<=90)))=false) Z Z Z au Z Z (fun b=>ah (ai Z Z (if_pos b) (fun _=>rfl)) (av (DT 97 c.toNat)))<|aA (t:=bT (decide (97<=c.toNat))) (((decide (65<=c.toNat))&&(decide (c.toNat<=90)))=false) Z Z Z au Z Z (fun b=>aw Z (if_pos b))<|aA (t:=.sc (.int .u8 ((c.toNat:Nat):Int))) ((((decide (65<=c.toNat))&&(decide (c.toNat<=90)))=false)/\((decide (97<=c.toNat))=true)) Z Z Z ee Z Z (fun b=>aw Z Z)<|aA (t:=bT (decide (c.toNat<=122))) ((((decide (65<=c.toNat))&&(decide (c.toNat<=90)))=false)/\((decide (97<=c.toNat))=true)) Z Z Z ee Z Z (fun b=>ah (ai Z (if_pos b) Z (fun _=>rfl)) (av (DT c.toNat 122)))<|aA (t:=bT ((decide (97<=c.toNat))&&(decide (c.toNat<=122)))) (((decide (65<=c.toNat))&&(decide (c.toNat<=90)))=false) Z Z Z au Z Z (fun b=>aL Z (if_pos b) (fun a=>(if_pos ⟨b,a⟩).trans (av (by rw[a];rfl))) (fun a=>(av (by rw[a];rfl))))<|af (t:=bT (((decide (65<=c.toNat))&&(decide (c.toNat<=90)))||((decide (97<=c.toNat))&&(decide (c.toNat<=122))))) Z Z Z (aL Z Z (fun a=>(av (by rw[a];rfl))) (fun a=>(if_pos a).trans (av (by rw[a];rfl))))<|aa 1 Z<|ag<|ab<|ae<|aa 1 Z<|af (t:=bT (decide (48<=c.toNat))) Z Z Z (ah (ai Z Z Z Zy) (av (DT 48 c.toNat)))<|aa 1 Z<|aA (t:=.sc (.int .u8 ((c.toNat:Nat):Int))) ((decide (48<=c.toNat))=true) Z Z Z au Z Z (fun b=>aw Z Z)<|aA (t:=bT (decide (c.toNat<=57))) ((decide (48<=c.toNat))=true) Z Z Z au Z Z (fun b=>ah (ai Z (if_pos b) Z (fun _=>rfl)) (av (DT c.toNat 57)))<|af (t:=bT ((decide (48<=c.toNat))&&(decide (c.toNat<=57)))) Z Z Z (aL Z Z (fun a=>(if_pos a).trans (av (by rw[a];rfl))) (fun a=>(av (by rw[a];rfl))))<|aa 1 Z<|aA (t:=.sc (.int .u8 ((c.toNat:Nat):Int))) (((decide (48<=c.toNat))&&(decide (c.toNat<=57)))=false) Z Z Z au Z Z (fun b=>aw Z Z)<|aA (t:=bT (decide (c.toNat=95))) (((decide (48<=c.toNat))&&(decide (c.toNat<=57)))=false) Z Z Z au Z Z (fun b=>ah (ai Z (if_pos b) Z (fun _=>rfl)) (av (lY c.toNat 95)))<|af (t:=bT (((decide (48<=c.toNat))&&(decide (c.toNat<=57)))||(decide (c.toNat=95)))) Z Z Z (aL Z Z (fun a=>(av (by rw[a];rfl))) (fun a=>(if_pos a).trans (av (by rw[a];rfl))))<|aa 1 Z<|ag<|ab<|ae<|aa 1 Z<|af (t:=bT (!(((decide (65<=c.toNat))&&(decide (c.toNat<=90)))||((decide (97<=c.toNat))&&(decide (c.toNat<=122)))))) Z Z Z (ef Z Z Zy)<|aa 1 Z<|aA (t:=nI i) ((!(((decide (65<=c.toNat))&&(decide (c.toNat<=90)))||((decide (97<=c.toNat))&&(decide (c.toNat<=122)))))=true) Z Z Z au Z Z (fun b=>aw Z Z)<|aA (t:=bT (decide (i=0))) ((!(((decide (65<=c.toNat))&&(decide (c.toNat<=90)))||((decide (97<=c.toNat))&&(decide (c.toNat<=122)))))=true) Z Z Z au Z Z (fun b=>ah (ai Z (if_pos b) Z (fun _=>rfl)) (av (lY i 0)))<|aA (t:=bT (decide (i=0))) ((!(((decide (65<=c.toNat))&&(decide (c.toNat<=90)))||((decide (97<=c.toNat))&&(decide (c.toNat<=122)))))=true) Z Z Z au Z Z (fun b=>aw Z (if_pos b))<|aA (t:=bT (((decide (48<=c.toNat))&&(decide (c.toNat<=57)))||(decide (c.toNat=95)))) (((!(((decide (65<=c.toNat))&&(decide (c.toNat<=90)))||((decide (97<=c.toNat))&&(decide (c.toNat<=122)))))=true)/\((decide (i=0))=false)) Z Z Z ee Z Z (fun b=>aw Z Z)<|aA (t:=bT (!(((decide (48<=c.toNat))&&(decide (c.toNat<=57)))||(decide (c.toNat=95))))) (((!(((decide (65<=c.toNat))&&(decide (c.toNat<=90)))||((decide (97<=c.toNat))&&(decide (c.toNat<=122)))))=true)/\((decide (i=0))=false)) Z Z Z ee Z Z (fun b=>ef Z (if_pos b) (fun _=>rfl))<|aA (t:=bT ((decide (i=0))||(!(((decide (48<=c.toNat))&&(decide (c.toNat<=57)))||(decide (c.toNat=95)))))) ((!(((decide (65<=c.toNat))&&(decide (c.toNat<=90)))||((decide (97<=c.toNat))&&(decide (c.toNat<=122)))))=true) Z Z Z au Z Z (fun b=>aL Z (if_pos b) (fun a=>(av (by rw[a];rfl))) (fun a=>(if_pos ⟨b,a⟩).trans (av (by rw[a];rfl))))<|af (t:=bT ((!(((decide (65<=c.toNat))&&(decide (c.toNat<=90)))||((decide (97<=c.toNat))&&(decide (c.toNat<=122)))))&&((decide (i=0))||(!(((decide (48<=c.toNat))&&(decide (c.toNat<=57)))||(decide (c.toNat=95))))))) Z Z Z (aL Z Z (fun a=>(if_pos a).trans (av (by rw[a];rfl))) (fun a=>(av (by rw[a];rfl))))<|ag<|aH Z (fun k=>?_) (fun k=>?_)
  ·refine ab<|aj 1 Z<|aC<|⟨.inr Z,_,.cons Z .nil,av (ul g f (by unfold xB xz xA;revert k;generalize (decide (65<=c.toNat)&&decide (c.toNat<=90)||decide (97<=c.toNat)&&decide (c.toNat<=122))=p;generalize (decide (48<=c.toNat)&&decide (c.toNat<=57)||decide (c.toNat=95))=q;rw[decide_not];generalize decide (i=0)=z;cases p<;>cases q<;>cases z<;>simp)).symm,Z⟩
  refine ax<|ae<|aa 1 Z<|af (t:=nI (i+1)) Z Z Z (ah (ai Z Z Z Zy) (bu (by omega)))<|aa 1 Z<|ag<|⟨_,_,?_,⟨i+1,?_,Z,Z⟩,⟨Z,Z,Z,.cons Z Z (.cons Z Z .nil),Z⟩⟩
  ·omega
  refine⟨by omega,fun j l=>?_⟩;rcases MI j i with h|h
  ·exact e j h
  obtain rfl:j=i:=by omega
  rw[Mm,g,MK];unfold xB xz xA;revert k;generalize (decide (65<=c.toNat)&&decide (c.toNat<=90)||decide (97<=c.toNat)&&decide (c.toNat<=122))=p;generalize (decide (48<=c.toNat)&&decide (c.toNat<=57)||decide (c.toNat=95))=q;rw[decide_not];generalize decide (j=0)=z;cases p<;>cases q<;>cases z<;>simp
 refine aZ<|ab<|aj 1 Z<|aC<|⟨.inr Z,_,.cons Z .nil,av (by unfold bU;rw[eq_comm,Ma,Ma];simp only[Mz,decide_eq_false_iff_not]at d;exact⟨⟨decide_eq_true (by omega),decide_eq_true (by omega)⟩,Mh.2 fun j l=>e j (by have:=N1.1 l;omega)⟩),Z⟩
end Go.Proofs.YtfoejfohbkmmeaaGreatDoor
