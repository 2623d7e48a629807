import Derived.Test.YtfoejfohbkmmeaaGreatDoorK10
set_option maxRecDepth 100000
set_option maxHeartbeats 4000000
set_option linter.defProp false
open Go.Proofs.Tryz
namespace Go.Proofs.YtfoejfohbkmmeaaGreatDoor
open Go.RowKit
open Lib renaming hid→J
def dO(l:List Nat)(k:Nat)(h:k<l.length):aG (l.take (k+1))=aG (l.take k)+4294967296^k*l[k]:=by
 have a:(l.take k).length=k:=by rw[Rb];omega
 rw[Rz h,fL,a];simp[aG]
def ez(l:List Nat)(d k:Nat)(h:l.length=k):aG (l++[d])=aG l+4294967296^k*d:=by
 subst h;rw[fL];simp[aG]
def DK(l:List Nat)(i d:Nat):cT (l.set i d)=(cT l).set i (.int .u32 d):=by simp[cT,Vx]
def OwnN.set{w:World}{base g a i:Nat}{l:List Nat}(h:OwnN w base (.slice (some ⟨g,0,none⟩) l.length a) l)(d:Nat):
  OwnN (w.setCell ⟨g,i,none⟩ (.int .u32 d)) base (.slice (some ⟨g,0,none⟩) (l.set i d).length a) (l.set i d):=by
 rcases h.2 with⟨c,_⟩|⟨q,e,cur,c,j,k,n,m,o,p⟩
 ·cases c
 injection c with b r f
 injection b with b
 injection b with b
 subst b f;unfold OwnN;rw[RO];refine⟨by rw[dY,RO];omega,.inr ⟨g,a,cur.setIfInBounds i (.int .u32 d),Z,j,?_,n,m,by simpa using o,?_⟩⟩
 ·simp[World.setCell,SX,k]
 rw[DK,<-p,S3,ST,UP]
def OwnN.lies{w:World}{base:Nat}{v:Value}{l:List Nat}(h:OwnN w base v l)(f:0<l.length):
  ∃g a,v=.slice (some ⟨g,0,none⟩) l.length a/\base<=g/\g<w.heap.size/\l.length<=a/\a<=9223372036854775807:=by
 rcases h.2 with⟨_,b⟩|⟨g,a,cur,rfl,c,d,b,e,_⟩
 ·omega
 exact⟨g,a,Z,c,(RQ.1 d).1,b,by unfold maxLen at e;omega⟩
def OwnN.free{w:World}{base g n b:Nat}{l:List Nat}(h:OwnN w base (.slice (some ⟨g,0,none⟩) n b) l)(i:Nat):w.frozen? ⟨g,i,none⟩=false:=by
 rcases h.2 with⟨c,_⟩|⟨f,d,cur,c,j,e,_⟩
 ·cases c
 injection c with a
 injection a with a
 injection a with a
 subst a;simp[World.frozen?,e]
def OwnN.cell{w:World}{base g n a:Nat}{l:List Nat}(h:OwnN w base (.slice (some ⟨g,0,none⟩) n a) l){i:Nat}(d:i<l.length):w.cell? ⟨g,i,none⟩=some (.int .u32 ((l[i]:Nat):Int)):=by
 rcases h.2 with⟨c,_⟩|⟨e,b,cur,c,f,j,_⟩
 ·cases c
 have:=World.ownsRow.cells h (g:=g) Z i (.int .u32 ((l[i]:Nat):Int)) (by simp[cT,Q2 d]);rwa[show(⟨g,0,none⟩:Addr).add i=⟨g,i,none⟩from by unfold Addr.add;split<;>simp_all]at this
def SubInv(w:World)(vx vy:Value)(dx dy:List Nat)(br i:Value)(wr:World):Prop:=
 ∃(k b:Nat) (out:List Nat),k<=dx.length/\i=.int .i64 k/\br=.int .u64 b/\b<=1/\out.length=k/\Digs out/\OwnN wr w.heap.size vx (out++dx.drop k)/\OwnN wr w.heap.size vy dy/\aG out+aG (dy.take k)=aG (dx.take k)+4294967296^k*b/\Below w.heap.size w wr
def Bj{a c d:List Nat}{k b nb x y g:Nat}(h:k<c.length)(i:a.length=k)(m:aG a+aG (d.take k)=aG (c.take k)+4294967296^k*b)(j:c[k]=x)(l:aG (d.take (k+1))=aG (d.take k)+4294967296^k*y)(f:g+(b+y)=x+4294967296*nb):
  aG (a++[g])+aG (d.take (k+1))=aG (c.take (k+1))+4294967296^(k+1)*nb:=by
 rw[ez a g k i,dO c k h,j,l,RA];generalize 4294967296^k=P at*;have e:P*(g+(b+y))=P*(x+4294967296*nb):=by rw[f]
 rw[RF,RF,RF]at e;rw[Ry];omega
def JD{a b:List Nat}{k g:Nat}(c:k<b.length)(d:a.length=k):(a++b.drop k).set k g=(a++[g])++b.drop (k+1):=by
 subst d;rw[SY _ _ (Q3 _),Re c,RW,Tb,RL];rfl
def Ol{a b:List Nat}{k:Nat}(d:k<b.length)(c:a.length=k):∃h:k<(a++b.drop k).length,(a++b.drop k)[k]=b[k]:=by
 subst c;refine⟨by simp;omega,?_⟩;rw[Un (Q3 _)];simp
def lC{w wr:World}{l n:Nat}{y:Value}{c m a:List Nat}{k b nb C y0 g:Nat}{z q i:Int}(s:k<c.length)(e:a.length=k)(u:Digs a)(v:OwnN wr w.heap.size (.slice (some ⟨l,0,none⟩) c.length n) (a++c.drop k))(x:OwnN wr w.heap.size y m)(G:y.ownBlock≠some l)
  (F:aG a+aG (m.take k)=aG (c.take k)+4294967296^k*b) (L:c[k]=C) (M:aG (m.take (k+1))=aG (m.take k)+4294967296^k*y0) (o:Below w.heap.size w wr) (r:w.heap.size<=l)
  (N:z=(g:Int)) (K:q=(nb:Int)) (I:i=((k+1:Nat):Int)) (H:g+(b+y0)=C+4294967296*nb) (B:g<4294967296) (t:nb<=1):SubInv w (.slice (some ⟨l,0,none⟩) c.length n) y c m (.int .u64 q) (.int .i64 i) (wr.setCell ⟨l,k,none⟩ (.int .u32 z)):=by
 subst N K I;refine⟨k+1,nb,a++[g],s,Z,Z,t,by simp[e],λd E=>?_,?_,jw x G (λj J=>Below.heap_setCell _ _ _ _ J),Bj s e F L M H,o.setCell (p:=⟨l,k,none⟩) r _⟩
 ·rcases RI.1 E with h|h
  ·exact u d h
  simp at h;omega
 have f:(a++c.drop k).length=c.length:=by simp[e];omega
 have D:OwnN wr w.heap.size (.slice (some ⟨l,0,none⟩) (a++c.drop k).length n) (a++c.drop k):=by rw[f];exact v
 have A:=D.set (i:=k) g;rw[RO,f,JD s e]at A;exact A
def Fz(n:Nat)(w:World)(e:Ending)(w':World):Prop:=∃v,e=.returned (.tuple #[v,.bool true])/\OwnN w' w.heap.size v (aD n)/\Below w.heap.size w w'
def OwnN.base_le{w:World}{b c:Nat}{v:Value}{l:List Nat}(h:OwnN w c v l)(f:b<=c):OwnN w b v l:=by
 refine⟨h.1,?_⟩;rcases h.2 with d|⟨g,a,cur,e,i,r⟩
 ·exact .inl d
 exact .inr ⟨g,a,cur,e,O,r⟩
def zV(A B:Option Addr)(ca cb:Nat)(x y:List Nat)(w:World)(hA:IsN w A ca x)(hB:IsN w B cb y)(b2:x.length<=1073741823)(b3:y.length<=1073741823)(f0:aG y<=aG x):
  Calls prog 217 #[.slice A x.length ca,.slice B y.length cb] w (Fz (aG x-aG y) w):=by
 have HA:=J hA;have HB:=J hB;clear hA hB;have e8:(aD (aG x)).length<=x.length:=bq (cC x HA.out.ok);have e9:(aD (aG y)).length<=y.length:=bq (cC y HB.out.ok);have a9:0<=fE (aG x:Int) (aG y:Int):=by
  rcases RE (aG y) (aG x)with h|h
  ·rw[ke h];decide
  rw[m7 O];decide
 obtain⟨cm,S⟩:∃cm,fE (aG x:Int) (aG y:Int)=cm:=⟨_,Z⟩;have d1:=J S;rw[S]at a9;clear S
 go_enter func217,ntmps217
 go_wp2_with fail
 refine(ua A B ca cb x y _ HA.out HB.out b2 b3).mono ?_;rintro e w0 ⟨he,Q⟩;rw[d1.out]at he;subst he;have X:=J Q;have V:=Q.size;clear Q
 go_wp2_with fail
 refine(dZ A ca x _ (HA.out.below X.out) b2).mono ?_;rintro e w1 ⟨vx,rfl,b4,p⟩;have M:=J b4;have Y:=J (aL X.out p V);have e4:=J p;have W:w.heap.size<=w1.heap.size:=Q7 V p.size;clear b4 p
 go_wp2_with fail
 refine(dZ B cb y _ (HB.out.below Y.out) b3).mono ?_;rintro e w2 ⟨vy,rfl,U,E⟩;have N:=J ((M.out.below E).base_le V);have P:=J (U.base_le W);have l:Hid (∀g,vx.ownBlock=some g->vy.ownBlock≠some g):=λg h1 h2=>by
  have a1:=(M.out.lt g h1).2;have a2:=(U.lt g h2).1;omega
 have c9:=J (aL Y.out E W);have g0:w.heap.size<=w2.heap.size:=Q7 W E.size;clear U E M e4;have a0:=J (aW (aG x));have a3:=J (aW (aG y));have K:=J (ck (aG x));have L:=J (ck (aG y));obtain⟨t,u⟩:∃t,aD (aG x)=t:=⟨_,Z⟩;obtain⟨o,v⟩:∃o,aD (aG y)=o:=⟨_,Z⟩;have d2:=J (congrArg List.length u);have d3:=J (congrArg List.length v);rw[u]at N e8 a0 K;rw[v]at P e9 a3 L;clear u v;obtain⟨Ay,cy,e,f7⟩:∃A c,vy=.slice A o.length c/\True:=by
  obtain⟨A,c,h,_⟩:=P.out.is L.out;exact⟨A,c,h,trivial⟩
 subst e;obtain⟨Ax,cx,e,a4⟩:∃A c,vx=.slice A t.length c/\True:=by
  obtain⟨A,c,h,_⟩:=N.out.is K.out;exact⟨A,c,h,trivial⟩
 subst e
 go_wp2
 go_loopw [8,9] (λbr i wr=>SubInv w (.slice Ax t.length cx) (.slice Ay o.length cy) t o br i wr) (λ_ i _=>t.length-(intOf i).toNat)
 case atStart=>exact⟨0,0,[],Rg _,Z,Z,O,Z,λd hd=>by simp at hd,by simpa using N.out,P.out,by simp[aG],c9.out⟩
 case round=>
  obtain⟨k,b,C,hk,rfl,rfl,hb,c1,c0,z,c2,b0,R⟩:=hrel;have f:=J z;have n:=J c2;have HQ:=J b0;have r:=J R;have a:=J c1;have m:=J c0;have c5:=R.size;clear z c2 b0 R c1 c0;by_cases q:k<t.length
  ·obtain⟨gx,f8,e,F,f2,_,_⟩:=f.out.lies (by have:=a.out;simp;omega);injection e with e1 e2 e3
   subst e1 e3;have l:=J (l.out gx Z);obtain⟨c3,c4⟩:=Ol q a.out;obtain⟨I,G⟩:∃I,t[k]=I:=⟨_,Z⟩;have e5:=f.out.cell c3;rw[c4,G]at e5;have f9:=f.out.free k;have f3:I<4294967296:=by rw[<-G];exact K.out _ (R6 q)
   have D:=J G;clear G c4 c3 e2;by_cases T:k<o.length
   ·obtain⟨gy,f1,e,_,_,_,_⟩:=n.out.lies O;injection e with e1 e2 e3
    subst e1 e3;clear e2;have e6:=n.out.cell T;obtain⟨y0,H⟩:∃y0,o[k]=y0:=⟨_,Z⟩;rw[H]at e6;have f4:y0<4294967296:=by rw[<-H];exact L.out _ (R6 T)
    have s:=J (show aG (o.take (k+1))=aG (o.take k)+4294967296^k*y0 by rw[dO o k T,H]);clear H;by_cases p:I<b+y0
    ·go_wp2
     go_roundw
     case rel=>exact lC (g:=I+4294967296-(b+y0)) (nb:=1) q a.out m.out f.out n.out l.out HQ.out D.out s.out r.out F O Z O O O O
     case measure=>simp[intOf];omega
    go_wp2
    go_roundw
    case rel=>exact lC (g:=I-(b+y0)) (nb:=0) q a.out m.out f.out n.out l.out HQ.out D.out s.out r.out F O Z O O O O
    case measure=>simp[intOf];omega
   have s:=J (show aG (o.take (k+1))=aG (o.take k)+4294967296^k*0 by rw[Rf (i:=k+1) O,Rf (i:=k) O];simp);by_cases p:I<b
   ·go_wp2
    go_roundw
    case rel=>exact lC (y0:=0) (g:=I+4294967296-b) (nb:=1) q a.out m.out f.out n.out l.out HQ.out D.out s.out r.out F O Z O O O O
    case measure=>simp[intOf];omega
   go_wp2
   go_roundw
   case rel=>exact lC (y0:=0) (g:=I-b) (nb:=0) q a.out m.out f.out n.out l.out HQ.out D.out s.out r.out F O Z O O O O
   case measure=>simp[intOf];omega
  obtain rfl:k=t.length:=O
  have e7:o.length<=t.length:=by
   have:=bh f0;rw[d2.out,d3.out]at this;exact this
  have hv:aG C=aG x-aG y:=by
   have h1:=HQ.out;rw[Rf e7,Sa,a0.out,a3.out]at h1;have h2:=cC C m.out;rw[a.out]at h2;have h3:b=0\/b=1:=O
   rcases h3 with rfl|rfl
   ·rw[TL]at h1;omega
   rw[ST]at h1;omega
  have HV:=J hv;clear hv;have z:OwnN wr w.heap.size (.slice Ax t.length cx) C:=by have:=f.out;rwa[U3,RP]at this
  have b1:IsN wr Ax cx C:=by
   obtain⟨A',c',e,hi⟩:=z.is m.out;injection e with e1 e2 e3
   subst e1 e3;exact hi
  have a4:=J b1;clear z b1;have j:=dZ Ax cx C wr a4.out (by have:=a.out;omega);rw[a.out,HV.out]at j;have d4:=J j;clear j
  go_wp2_with fail
  refine d4.out.mono ?_;rintro e w5 ⟨v5,rfl,b5,a5⟩;have e0:=J (b5.base_le c5);have d0:=J (aL r.out a5 c5);clear b5 a5
  go_wp2
  go_ret2
  exact⟨v5,Z,e0.out,d0.out⟩
def Om(a b:Nat)(c:a<4294967296)(d:b<=1)(e:a%2=0):bits .or .u32 (a:Int) (b:Int)=((a+b:Nat):Int):=by
 rw[u32_or_nat a b c O];have h:a|||b=a+b:=by
  have:=SK (i:=1) (b:=b) O (a/2);rw[Tm]at this;rw[show a/2*2^1=a by omega]at this;exact this.symm
 rw[h]
def DblInv(w:World)(ds:List Nat)(bit:Nat)(v c i:Value)(wr:World):Prop:=
 ∃(k cy:Nat) (o:List Nat),k<=ds.length/\i=.int .i64 k/\c=.int .u32 cy/\cy<=1/\o.length=k/\Digs o/\OwnN wr w.heap.size v o/\aG o+4294967296^k*cy=2*aG (ds.take k)+bit/\Below w.heap.size w wr
def Bk{w wr:World}{b o:List Nat}{bit k a d:Nat}{v:Value}{x i:Int}(l:k<b.length)(c:o.length=k)(g:Digs o)(p:b[k]=d)(j:d<4294967296)(n:a<=1)(f:OwnN wr w.heap.size v (o++[d*2%4294967296+a]))(y:aG o+4294967296^k*a=2*aG (b.take k)+bit)(m:Below w.heap.size w wr)
  (s:x=((d/2147483648:Nat):Int)) (q:i=((k+1:Nat):Int)):DblInv w b bit v (.int .u32 x) (.int .i64 i) wr:=by
 subst s q;refine⟨k+1,d/2147483648,o++[d*2%4294967296+a],l,Z,Z,O,by simp[c],λe r=>?_,f,?_,m⟩
 ·rcases RI.1 r with h|h
  ·exact g e h
  simp at h;omega
 rw[ez _ _ k c,dO b k l,p,RA];generalize 4294967296^k=P at*;have t:P*(d*2%4294967296+a)+P*(4294967296*(d/2147483648))=P*(2*d)+P*a:=by
  rw[<-RF,<-RF];congr 1;omega
 rw[Ry];have u:P*(2*d)=2*(P*d):=by rw[<-Ry,Rk P 2,Ry]
 omega
def uR(A:Option Addr)(c:Nat)(g:List Nat)(bit:Nat)(w:World)(h:IsN w A c g)(hl:g.length<=1073741822)(D:bit<=1):
  Calls prog 226 #[.slice A g.length c,.int .u32 bit] w (NatPost (2*aG g+bit) w):=by
 have W:=J h;clear h
 go_enter func226,ntmps226
 go_wp2
 go_loopw [1,5,6] (λcb v i wr=>DblInv w g bit v cb i wr) (λ_ _ i _=>g.length-(intOf i).toNat)
 case atStart=>exact⟨0,bit,[],Rg _,Z,Z,D,Z,λd x=>by simp at x,OwnN.nil _ _,by simp[aG],Below.refl _ _⟩
 case round=>
  obtain⟨k,n,o,hk,rfl,rfl,E,K,I,l,G,q⟩:=hrel;have X:=J l;have Y:=J G;have P:=J q;have B:=J K;have z:=J I;have u:=q.size;have a0:o.length<=1073741822:=O
  clear l G q K I;by_cases j:k<g.length
  ·obtain⟨b,off,rfl,hb,hc⟩:=W.out.digit j;obtain⟨d,x⟩:∃d,g[k]=d:=⟨_,Z⟩;have r:=(P.out.cell (p:=⟨b,off+k,none⟩) hb).trans (hc k j);rw[x]at r;have F:d<4294967296:=by rw[<-x];exact W.out.ok _ (R6 j)
   have HD:=J x;have t:=Om (d*2%4294967296) n O E O;rw[show((d*2%4294967296:Nat):Int)=(d:Int)*2%4294967296 by omega]at t;have U:=J t;clear t;clear hc x
   go_wp2_with (at_builtin;refine gH w.heap.size _ o _ (d*2%4294967296+n) (.tmp 13) (.tmp 21) Z Z Z Z X.out U.out O u ?_;intro v2 w2 a f;have S:=J a;have m:=J f;have r:=(f.below.cell (p:=⟨b,off+k,none⟩) hb).trans r;clear a f)
   go_roundw
   case rel=>exact Bk j B.out z.out HD.out F E S.out Y.out (P.out.trans m.out.below) O O
   case measure=>simp[intOf];omega
  obtain rfl:k=g.length:=O
  have hv:aG (o++[n])=2*aG g+bit:=by
   have:=Y.out;rw[Sa]at this;rw[ez o n _ B.out];omega
  have HV:=J hv;have y:Hid (Digs (o++[n])):=λe hm=>by
   rcases RI.1 hm with h|h
   ·exact z.out e h
   simp at h;omega
  obtain⟨L,N⟩:∃L,o++[n]=L:=⟨_,Z⟩;have V:L.length<=1073741823:=by rw[<-N];simp;omega
  have HL:=J N;rw[N]at HV y;clear hv N
  go_wp2_with (at_builtin;refine gH w.heap.size _ o _ n (.tmp 28) (.tmp 30) Z Z Z Z X.out Z O u ?_;intro v2 w2 a f;rw[HL.out]at a;have m:=J f;obtain⟨A2,c2,e2,H⟩:=a.is y.out;subst e2;have R:=J H;have M:w.heap.size<=w2.heap.size:=Q7 u f.size;clear a f H)
  refine(dZ A2 c2 L _ R.out V).mono ?_;rintro e w3 ⟨v3,rfl,s,C⟩;rw[HV.out]at s;have T:=J (s.base_le M);have Q:=J ((P.out.trans m.out.below).trans (C.mono M));clear s C
  go_wp2
  go_ret
  exact⟨v3,Z,T.out,Q.out⟩
def HalfInv(w:World)(ds:List Nat)(v i:Value)(wr:World):Prop:=
 ∃(k:Nat) (o:List Nat),k<=ds.length/\i=.int .i64 k/\o.length=k/\Digs o/\OwnN wr w.heap.size v o/\2*aG o+ds.getD 0 0%2=aG (ds.take k)+4294967296^k*(ds.getD k 0%2)/\Below w.heap.size w wr
def qH{w wr:World}{a o:List Nat}{k d b:Nat}{v:Value}{i:Int}(g:k<a.length)(c:o.length=k)(j:Digs o)(l:a[k]=d)(t:a.getD (k+1) 0%2=b)(m:d<4294967296)(f:OwnN wr w.heap.size v (o++[d/2+2147483648*b]))
  (p:2*aG o+a.getD 0 0%2=aG (a.take k)+4294967296^k*(a.getD k 0%2)) (n:Below w.heap.size w wr) (r:i=((k+1:Nat):Int)):HalfInv w a v (.int .i64 i) wr:=by
 subst r;have q:a.getD k 0=d:=by rw[Rr,Q2 g,RH,l]
 have u:b<=1:=O
 refine⟨k+1,o++[d/2+2147483648*b],g,Z,by simp[c],λe s=>?_,f,?_,n⟩
 ·rcases RI.1 s with h|h
  ·exact j e h
  simp at h;omega
 rw[ez _ _ k c,dO a k g,l,t,RA];rw[q]at p;generalize 4294967296^k=P at*;have x:2*(P*(d/2+2147483648*b))+P*(d%2)=P*d+P*(4294967296*b):=by
  rw[<-RF,<-Ry,Rk 2 P,Ry,<-RF];congr 1;omega
 rw[Ry,RF];omega
def Mq(a x:Nat)(c:a<2147483648):bits .or .u32 (a:Int) ((x*2147483648%4294967296:Nat):Int)=((a+2147483648*(x%2):Nat):Int):=by
 have e:x*2147483648%4294967296=2147483648*(x%2):=O
 rw[e,u32_or_nat a (2147483648*(x%2)) O O];have h:a|||2147483648*(x%2)=2147483648*(x%2)+a:=by
  have:=SK (i:=31) (b:=a) O (x%2);rw[Tm]at this;rw[Vb,show 2147483648*(x%2)=x%2*2^31 by omega];exact this.symm
 rw[h,SN]
def JE(A:Option Addr)(c:Nat)(g:List Nat)(w:World)(h:IsN w A c g)(hl:g.length<=1073741822):
  Calls prog 225 #[.slice A g.length c] w (NatPost (aG g/2) w):=by
 have P:=J h;clear h
 go_enter func225,ntmps225
 go_wp2
 go_loopw [3,4] (λv i wr=>HalfInv w g v i wr) (λ_ i _=>g.length-(intOf i).toNat)
 case atStart=>exact⟨0,[],Rg _,Z,Z,λd B=>by simp at B,OwnN.nil _ _,by simp[aG],Below.refl _ _⟩
 case round=>
  obtain⟨k,o,hk,rfl,K,I,q,G,u⟩:=hrel;have S:=J q;have V:=J G;have C:=J u;have D:=J K;have s:=J I;have m:=u.size;have a0:o.length<=1073741822:=O
  clear q G u K I;by_cases j:k<g.length
  ·obtain⟨b,off,rfl,hb,L⟩:=P.out.digit j;obtain⟨d,B⟩:∃d,g[k]=d:=⟨_,Z⟩;have W:=(C.out.cell (p:=⟨b,off+k,none⟩) hb).trans (L k j);rw[B]at W;have n:d<4294967296:=by rw[<-B];exact P.out.ok _ (R6 j)
   have X:=J B;clear B;by_cases l:k+1<g.length
   ·obtain⟨x,M⟩:∃x,g[k+1]=x:=⟨_,Z⟩;have F:=(C.out.cell (p:=⟨b,off+(k+1),none⟩) hb).trans (L (k+1) l);rw[M]at F;have a1:x<4294967296:=by rw[<-M];exact P.out.ok _ (R6 l)
    have R:=J (show g.getD (k+1) 0%2=x%2 by rw[Rr,Q2 l,RH,M]);have z:=Mq (d/2) x O;rw[show((d/2:Nat):Int)=(d:Int)/2 by omega,show((x*2147483648%4294967296:Nat):Int)=(x:Int)*2147483648%4294967296 by omega]at z;have U:=J z;clear z M L
    go_wp2_with (at_builtin;refine gH w.heap.size _ o _ (d/2+2147483648*(x%2)) (.tmp 30) (.tmp 32) Z Z Z Z S.out U.out O m ?_;intro v2 w2 a f;have r:=J a;have t:=J f;clear a f)
    go_roundw
    case rel=>exact qH j D.out s.out X.out R.out n r.out V.out (C.out.trans t.out.below) O
    case measure=>simp[intOf];omega
   have R:=J (show g.getD (k+1) 0%2=0 by rw[Rr,R8 O];rfl);clear L
   go_wp2_with (at_builtin;refine gH w.heap.size _ o _ (d/2+2147483648*0) (.tmp 30) (.tmp 32) Z Z Z Z S.out O O m ?_;intro v2 w2 a f;have r:=J a;have t:=J f;clear a f)
   go_roundw
   case rel=>exact qH j D.out s.out X.out R.out n r.out V.out (C.out.trans t.out.below) O
   case measure=>simp[intOf];omega
  obtain rfl:k=g.length:=O
  have hv:aG o=aG g/2:=by
   have Y:=V.out;rw[Sa,Rr (i:=g.length),R8 (Q3 _)]at Y;simp only[Option.getD_none,Nat.zero_mod,TL,SB]at Y;omega
  have HV:=J hv;clear hv;obtain⟨A2,c2,e2,H⟩:=S.out.is s.out;subst e2;have Q:=J H;clear H
  go_wp2_with fail
  refine(dZ A2 c2 o _ Q.out O).mono ?_;rintro e w3 ⟨v3,rfl,y,E⟩;rw[HV.out]at y;have T:=J (y.base_le m);have N:=J (aL C.out E m);clear y E
  go_wp2
  go_ret
  exact⟨v3,Z,T.out,N.out⟩
def sq(j s:Nat):(2:Nat)^(32*j+s)=4294967296^j*2^s:=by
 rw[SF,Tu]
def Mr(a s:Nat)(b:s<32):a%4294967296/2^s%2=a/2^s%2:=by
 have h:(4294967296:Nat)=2^s*2^(32-s):=by rw[<-SF,show s+(32-s)=32 by omega]
 rw[h,Nat.mod_mul_right_div_self,Vy];exact⟨2^(32-s-1),by rw[<-Nat.pow_succ',show(32-s-1).succ=32-s by omega]⟩
def su:∀(l:List Nat) (j:Nat),Digs l->l.getD j 0=aG l/4294967296^j%4294967296
 |[],j,_=>by simp[aG]
 |d::l,0,h=>by
  have:=h d (Rw ..);simp only[List.getD_cons_zero,aG,TM,TV];omega
 |d::l,j+1,h=>by
  have c:=h d (Rw ..);have b:=su l j (λx a=>h x (RD _ a));simp only[Vv,aG,b];rw[RA,Rk (4294967296^j),<-SH,show(d+4294967296*aG l)/4294967296=aG l by omega]
def GO{l:List Nat}{j s d:Nat}(h:Digs l)(c:j<l.length)(b:l[j]=d)(e:s<32):d/2^s%2=aG l/2^(32*j+s)%2:=by
 have a:=su l j h;rw[Rr,Q2 c,RH,b]at a;rw[a,Mr _ _ e,SH,<-sq]
def Ms(l:List Nat)(j d e:Nat)(a:j<l.length)(h:l[j]=d):aG (l.set j (d+e))=aG l+4294967296^j*e:=by
 have f:=m6 l j a;have g:=m6 (l.set j (d+e)) j (by simpa using a);rw[g,f,h];have b:(l.set j (d+e)).take j=l.take j:=by rw[UP,List.set_eq_of_length_le];rw[Rb];omega
 have c:(l.set j (d+e)).drop (j+1)=l.drop (j+1):=by rw[Vu O]
 rw[b,c,List.getElem_set_self,UN,RF];omega
def uS{l:List Nat}{j s d m:Nat}(h:Digs l)(f:j<l.length)(e:l[j]=d)(i:s<32)(g:aG l=m*2^(32*j+s+1)):d%2^(s+1)=0:=by
 have a:=su l j h;rw[Rr,Q2 f,RH,e]at a;have b:aG l=4294967296^j*(m*2^(s+1)):=by rw[g,S4,sq,<-Ry,Rk m,Ry]
 rw[b,TZ _ (Sh I)]at a;rw[a];have c:(4294967296:Nat)=2^(s+1)*2^(31-s):=by rw[<-SF,show s+1+(31-s)=32 by omega]
 rw[Vy _ ⟨2^(31-s),c⟩,Nat.mul_mod_left]
def Oo(d s:Nat)(c:d<4294967296)(f:s<32)(h:d%2^(s+1)=0):bits .or .u32 (d:Int) ((2^s:Nat):Int)=((d+2^s:Nat):Int):=by
 have e:2^s<2^32:=Ts I f;rw[u32_or_nat d (2^s) c (by simpa using e)];have a:d|||2^s=d+2^s:=by
  have:=SK (i:=s+1) (b:=2^s) (Ts I O) (d/2^(s+1));rw[Tm,TB (Vc h)]at this;exact this.symm
 rw[a]
def qI(d:Nat)(a:d<4294967296):bits .and .u32 (d:Int) 1=((d%2:Nat):Int):=by
 have:=u32_and_nat d 1 a I;rw[show((1:Nat):Int)=1 from rfl]at this;rw[this,Vz]
def Mt{P Y b:Nat}(a:0<Y)(g:b<=1):(Y<=2*(P%Y)+b->(2*P+b)/Y=2*(P/Y)+1/\(2*P+b)%Y=2*(P%Y)+b-Y)/\(2*(P%Y)+b<Y->(2*P+b)/Y=2*(P/Y)/\(2*P+b)%Y=2*(P%Y)+b):=by
 have c:=Tt P Y;have f:=RJ P a;generalize P/Y=q at*;generalize P%Y=r at*;subst c;have d:2*(Y*q)=Y*(2*q):=by rw[<-Ry,Rk 2 Y,Ry]
 constructor
 ·intro h;have e:2*(Y*q+r)+b=(2*r+b-Y)+Y*(2*q+1):=by rw[RF Y,RF 2];omega
  rw[e,TT _ _ a,TU,S5 O,RC O];omega
 intro h;have e:2*(Y*q+r)+b=(2*r+b)+Y*(2*q):=by rw[RF 2];omega
 rw[e,TT _ _ a,TU,S5 h,RC h];omega
def Mu(X m:Nat):X/2^m=2*(X/2^(m+1))+X/2^m%2:=by
 rw[RA,<-SH];omega
def DL(n:Nat):(madeCells (Value.int .u32 0).cells (n*1)).toList=cT (List.replicate n 0):=by
 apply Ug
 ·simp[madeCells,cT]
 intro j a b;simp[madeCells,cT,Value.cells,Vd]
def fF(w:World)(n:Nat)(k:n<=1073741824):∃w',(∀b a,(Instr.makeSlice 63 (.int b (n:Int)) (.int a (n:Int))).run prog w=.ok (.slice (some ⟨w.heap.size,0,none⟩) n n) w')/\
  OwnN w' w.heap.size (.slice (some ⟨w.heap.size,0,none⟩) n n) (List.replicate n 0)/\Below w.heap.size w w'/\w'.heap.size=w.heap.size+1:=by
 obtain⟨j,c,d,f,g⟩:=info_parts uO;have i:∀b a,(Instr.makeSlice 63 (.int b (n:Int)) (.int a (n:Int))).run prog w=.ok (.slice (some ⟨w.heap.size,0,none⟩) n n) (w.alloc (.cells (madeCells (Value.int .u32 0).cells (n*j.size)) 50)):=λb a=>by
  have:=run_make (P:=prog) w 63 50 j (.int .u32 0) underlying63 c d b a n n O (Int.le_refl _) (by rw[g];omega) O;simpa using this
 rw[f]at i;refine⟨_,i,?_,(Below.refl _ _).alloc (Q3 _) _,F⟩;have h:=World.ownsRow_lit (base:=w.heap.size) (e:=50) (size:=1) w (madeCells (Value.int .u32 0).cells (n*1)) n (Q3 _) (by simp only[maxLen];omega) (size_madeCells _ _);rw[DL]at h;unfold OwnN;rw[TA];exact h
def lP(n:Nat):aG (List.replicate n 0)=0:=pW _ (λ_ a=>(Up.1 a).2)
def kM(n:Nat):Digs (List.replicate n 0):=λ_ a=>by rw[(Up.1 a).2];decide
def DivInv(w2:World)(X Y n:Nat)(r i:Value)(wr:World):Prop:=
 ∃(k:Nat) (qd:List Nat),k<=32*n/\i=.int .i64 ((k:Int)-1)/\qd.length=n/\Digs qd/\OwnN wr w2.heap.size (.slice (some ⟨w2.heap.size,0,none⟩) n n) qd/\aG qd=X/2^k/Y*2^k/\OwnN wr (w2.heap.size+1) r (aD (X/2^k%Y))/\Below w2.heap.size w2 wr/\w2.heap.size+1<=wr.heap.size
def zW{a W:World}{X Y n:Nat}{i:Int}(c:X<4294967296^n)(f:OwnN W a.heap.size (.slice (some ⟨a.heap.size,0,none⟩) n n) (List.replicate n 0))(d:Below a.heap.size a W)(g:W.heap.size=a.heap.size+1)(e:i=32*(n:Int)-1):DivInv a X Y n (.slice none 0 0) (.int .i64 i) W:=by
 have b:X/2^(32*n)=0:=S5 (by rw[Tu];exact c);subst e;refine⟨32*n,List.replicate n 0,Q3 _,by rw[show((32*n:Nat):Int)-1=32*(n:Int)-1 by omega],TA,kM n,f,by rw[lP,b];simp,?_,d,O⟩;rw[b];simp;exact OwnN.nil _ _
def Oq{d s:Nat}(c:d<4294967296)(e:s<32)(h:d%2^(s+1)=0):d+2^s<4294967296:=by
 have a:d|||2^s=d+2^s:=by
  have:=SK (i:=s+1) (b:=2^s) (Ts I O) (d/2^(s+1));rw[Tm,TB (Vc h)]at this;exact this.symm
 rw[<-a];exact VG (n:=32) c (Ts I e)
def oT{w:World}{base e size n g:Nat}{v:Value}{xs:List Value}(h:w.ownsRow base e size v n xs)(a:g<base):v.ownBlock≠some g:=λe=>by have:=(h.lt g e).1;omega
def DivInv.set{a g:World}{X Y n m j s q0 D:Nat}{b:List Nat}{C:Value}{z i:Int}(J:m<=32*n)(f:b.length=n)(e:Digs b)(x:OwnN g a.heap.size (.slice (some ⟨a.heap.size,0,none⟩) n n) b)(q:aG b=X/2^(m+1)/Y*2^(m+1))(l:32*j+s=m)(F:s<32)(v:j<b.length)(c:b[j]=q0)
  (y:OwnN g D C (aD (X/2^m%Y))) (t:a.heap.size+1<=D) (A:X/2^m/Y=2*(X/2^(m+1)/Y)+1) (u:Below a.heap.size a g) (B:a.heap.size+1<=g.heap.size) (K:z=((q0+2^s:Nat):Int)) (H:i=(m:Int)-1):
  DivInv a X Y n C (.int .i64 i) (g.setCell ⟨a.heap.size,j,none⟩ (.int .u32 z)):=by
 subst K H;have w:q0%2^(s+1)=0:=uS e v c F (m:=X/2^(m+1)/Y) (by rw[q,l]);have o:q0<4294967296:=by rw[<-c];exact e _ (R6 v)
 refine⟨m,b.set j (q0+2^s),J,Z,by rw[RO,f],λd G=>?_,?_,?_,?_,u.setCell (p:=⟨a.heap.size,j,none⟩) (Q3 _) _,by simpa[World.setCell]using B⟩
 ·rcases TS G with h|h
  ·exact e d h
  rw[h];exact Oq o F w
 ·have r:OwnN g a.heap.size (.slice (some ⟨a.heap.size,0,none⟩) b.length n) b:=by rw[f];exact x
  have E:=r.set (i:=j) (q0+2^s);rw[RO,f]at E;exact E
 ·rw[Ms b j q0 (2^s) v c,q,A,R2,<-sq,l,RA,TC];congr 1;rw[Rk (2^m) 2,<-Ry,Rk _ 2]
 have r:OwnN g (a.heap.size+1) C (aD (X/2^m%Y)):=y.base_le t;exact jw r (oT r (Uh _)) (λk I=>Below.heap_setCell _ _ _ _ I)
def FA(X Y:Nat)(w:World)(e:Ending)(w':World):Prop:=∃q r,e=.returned (.tuple #[q,r,.bool true])/\OwnN w' w.heap.size q (aD (X/Y))/\OwnN w' w.heap.size r (aD (X%Y))/\Below w.heap.size w w'
def uT(A B:Option Addr)(ca cb:Nat)(x y:List Nat)(w:World)(hA:IsN w A ca x)(hB:IsN w B cb y)(t3:x.length<=1048576)(t4:y.length<=1048576)(hy:0<aG y):
  Calls prog 175 #[.slice A x.length ca,.slice B y.length cb] w (FA (aG x) (aG y) w):=by
 have HA:=J hA;have HB:=J hB;clear hA hB;have r2:(aD (aG x)).length<=x.length:=bq (cC x HA.out.ok);have r3:(aD (aG y)).length<=y.length:=bq (cC y HB.out.ok);have i9:0<(aD (aG y)).length:=by
  rcases RV (aD (aG y)).length with h|h
  ·have:=b9.1 h;omega
  exact h
 go_enter func175,ntmps175
 go_wp2_with fail
 refine(dZ A ca x _ HA.out O).mono ?_;intro e w1 h1;obtain⟨A1,c1,rfl,k5,e5⟩:=h1.open_;have h0:=J k5;have g0:=J e5;have m4:=e5.size;clear h1 k5 e5
 go_wp2_with fail
 refine(dZ B cb y _ (HB.out.below g0.out) O).mono ?_;intro e w2 h2;obtain⟨A2,c2,rfl,l0,a3⟩:=h2.open_;have c5:=J l0;have u:=J (h0.out.below a3);have o1:=J (aL g0.out a3 m4);have s2:w.heap.size<=w2.heap.size:=Q7 m4 a3.size;clear h2 l0 a3 h0;have U:=J (aW (aG x));have l:=J (aW (aG y));obtain⟨E,b5⟩:∃E,aD (aG x)=E:=⟨_,Z⟩;obtain⟨dy,K⟩:∃dy,aD (aG y)=dy:=⟨_,Z⟩;have t:=J K;rw[b5]at u r2 U⊢;rw[K]at c5 r3 i9 l⊢;clear b5 K;obtain⟨X,hX⟩:∃X,aG x=X:=⟨_,Z⟩;obtain⟨Y,hY⟩:∃Y,aG y=Y:=⟨_,Z⟩;rw[hX]at U;rw[hY]at l hy t;have h7:=J hX;have h9:=J hY;clear hX hY;have b3:X<4294967296^E.length:=by rw[<-U.out];exact cC E u.out.ok
 have q7:=J b3;clear b3;have g1:((dy.length:Int)==0)=false:=by rw[beq_eq_false_iff_ne];omega
 obtain⟨W,f2,l7,i0,n2⟩:=fF w2 E.length O;have f2:=f2 .i64 .i64;have q2:=J l7;have o3:=J i0;have q8:=J n2;clear l7 i0 n2
 go_wp2
 clear f2
 go_loopw [10,11] (λr i wr=>DivInv w2 X Y E.length r i wr) (λ_ i _=>(intOf i+1).toNat)
 case atStart=>exact zW q7.out q2.out o3.out q8.out O
 case round=>
  obtain⟨k,qd,hk,rfl,m2,m1,l8,m3,p,i3,t8⟩:=hrel;have C:=J m2;have z:=J m1;have h5:=J l8;have a1:=J m3;have V:=J p;have c3:=J i3;clear m2 m1 l8 m3 p i3;cases k with
  |zero=>
   have l4:aG qd=X/Y:=by have:=a1.out;simpa using this
   have p:=V.out;rw[TM,TV]at p;obtain⟨Ar,cr,er,L⟩:=p.is (ck (X%Y));subst er;have v:=J L;have D:=J (aW (X%Y));have s1:(aD (X%Y)).length<=dy.length:=by rw[<-t.out];exact bh (VA (RJ _ hy))
   have l2:IsN wr (some ⟨w2.heap.size,0,none⟩) E.length qd:=by
    have h1:=h5.out;obtain⟨A',c',e,hi⟩:=h1.is z.out;injection e with e1 e2 e3
    subst e1 e3;exact hi
   have p0:=J l2;have p2:=J l4;obtain⟨dr,f0⟩:∃dr,aD (X%Y)=dr:=⟨_,Z⟩;rw[f0]at v D s1⊢;have t0:=J f0;have g:w.heap.size<=wr.heap.size:=O
   have g3:=J (o1.out.trans (c3.out.mono s2));clear p L l2 l4 f0;have f3:=dZ (some ⟨w2.heap.size,0,none⟩) E.length qd wr p0.out (by have:=C.out;omega);rw[C.out,p2.out]at f3;have p1:=J f3;clear f3
   go_wp2_with fail
   refine p1.out.mono ?_;rintro e w4 ⟨v4,rfl,M,c⟩;have n:=J M;have c0:=J c;have n1:=c.size;clear M c;have f4:=dZ Ar cr dr w4 (v.out.below c0.out) O;rw[D.out]at f4;have p3:=J f4;clear f4
   go_wp2_with fail
   refine p3.out.mono ?_;rintro e w5 ⟨v5,rfl,l5,a⟩;have d0:=J l5;have a0:=J (n.out.below a);have T:=J (aL (aL g3.out c0.out g) a (Q7 g n1));clear l5 a
   go_wp2
   go_ret3
   exact⟨v4,v5,Z,by rw[h7.out,h9.out];exact a0.out.base_le g,by rw[h7.out,h9.out];exact d0.out.base_le O,T.out⟩
  |succ m=>
   rw[show((m+1:Nat):Int)-1=(m:Int) by omega];have hj:m/32<E.length:=O
   obtain⟨j,l3⟩:∃j,m/32=j:=⟨_,Z⟩;obtain⟨s,s3⟩:∃s,m%32=s:=⟨_,Z⟩;have f:s<32:=O
   have f1:32*j+s=m:=O
   rw[l3]at hj;have i1:(m:Int)/32=(j:Int):=O
   have i2:(m:Int)%32=(s:Int):=O
   obtain⟨b,off,rfl,hb,hc⟩:=(u.out.below c3.out).digit hj;obtain⟨d,hd⟩:∃d,E[j]=d:=⟨_,Z⟩;have e7:=hc j hj;rw[hd]at e7;have i4:d<4294967296:=by rw[<-hd];exact u.out.ok _ (R6 hj)
   have b2:=J (GO u.out.ok hj hd f);rw[U.out,f1]at b2;have r1:d/2^s<4294967296:=SG (Ti _ _) i4;have G:=qI (d/2^s) r1;rw[Int.natCast_ediv,show((2^s:Nat):Int)=(2:Int)^s by simp,b2.out]at G;have a9:=J G;have H:X/2^m%2<=1:=O
   obtain⟨bit,e6⟩:∃bit,X/2^m%2=bit:=⟨_,Z⟩;rw[e6]at a9 H;have o2:=J e6;clear G e6;have h3:=J f1;clear hd hc l3 s3 f1;have k1:(j:Int)<(E.length:Int):=O
   have k2:(0:Int)<=(j:Int):=O
   have k3:(0:Int)<=(s:Int):=O
   have k4:(s:Int)<32:=O
   obtain⟨R,hR⟩:∃R,X/2^(m+1)%Y=R:=⟨_,Z⟩;have t1:R<Y:=by rw[<-hR];exact RJ _ hy
   have HR:=J hR;rw[hR]at V;clear hR;have IM:(aD R).length<=dy.length:=by rw[<-t.out];exact bh O
   obtain⟨Ar,cr,er,L⟩:=V.out.is (ck R);subst er;have v:=J L;have D:=J (aW R);clear L;obtain⟨dr,b4⟩:∃dr,aD R=dr:=⟨_,Z⟩;rw[b4]at v D IM V⊢;clear b4;have g:w2.heap.size<=wr.heap.size:=O
   go_wp2_with fail
   rw[a9.out];have e9:=uR Ar cr dr bit wr v.out O H;rw[D.out]at e9;refine e9.mono ?_;intro e w4 h4;obtain⟨v4,rfl,M,c⟩:=h4;have n:=J M;have c0:=J c;have n1:=c.size;have q5:=J (h5.out.below c);have b0:=J (aL c3.out c g);clear e9 M c;obtain⟨q,e0⟩:∃q,2*R+bit=q:=⟨_,Z⟩;have s4:q<2*Y:=O
   rw[e0]at n;have q6:=J e0;clear e0;have i5:(aD q).length<=dy.length+1:=bq (by
    have h1:=cC dy c5.out.ok;rw[l.out]at h1;rw[RA];omega)
   obtain⟨A4,c4,e4,l1⟩:=n.out.is (ck q);subst e4;have c9:=J l1;have a2:=J (aW q);clear l1;obtain⟨d4,e8⟩:∃d4,aD q=d4:=⟨_,Z⟩;have g4:=J e8;rw[e8]at c9 a2 i5 n⊢;clear e8;have n0:w2.heap.size<=w4.heap.size:=O
   have h8:=J (c5.out.below b0.out)
   go_wp2_with fail
   have o:=ua A4 A2 c4 c2 d4 dy w4 c9.out h8.out O O;rw[a2.out,l.out]at o;refine o.mono ?_;rintro e w5 ⟨he,a⟩;have T:=J a;have t5:=a.size;have a0:=J (q5.out.below a);have d0:=J (n.out.below a);have b1:=J (aL b0.out a n0);clear o a;have f8:=Mt (P:=X/2^(m+1)) (Y:=Y) (b:=bit) hy H;have f9:=Mu X m;rw[o2.out]at f9;rw[<-f9,HR.out,q6.out]at f8;have h6:=J f8;clear f8 f9;by_cases k0:Y<=q
   ·obtain⟨Q,S⟩:=h6.out.1 k0;have d1:=J Q;have d3:=J S;clear Q S;have r0:0<=fE (q:Int) (Y:Int):=by
     rcases RE Y q with h|h
     ·rw[ke h];decide
     rw[m7 O];decide
    obtain⟨cm,o⟩:∃cm,fE (q:Int) (Y:Int)=cm:=⟨_,Z⟩;rw[o]at he r0;subst he;clear o
    go_wp2_with fail
    have f7:=zV A4 A2 c4 c2 d4 dy w5 (c9.out.below T.out) (h8.out.below T.out) O O (by rw[a2.out,l.out];exact k0);rw[a2.out,l.out]at f7;refine f7.mono ?_;rintro e w6 ⟨v6,rfl,l6,a4⟩;have p4:=J l6;have t7:=a4.size;have d2:=J (a0.out.below a4);have g2:=J (aL b1.out a4 O);clear f7 l6 a4;have a5:j<qd.length:=by have:=C.out;omega
    obtain⟨q0,N⟩:∃q0,qd[j]=q0:=⟨_,Z⟩;have l9:q0<4294967296:=by rw[<-N];exact z.out _ (R6 a5)
    have q9:=d2.out.cell a5;rw[N]at q9;have t2:=d2.out.free j;have r4:q0%2^(s+1)=0:=uS z.out a5 N f (m:=X/2^(m+1)/Y) (by rw[a1.out,h3.out]);have q1:=J (Oo q0 s l9 f r4);have q4:=J N;have s5:2^s<4294967296:=by
     have:2^s<2^32:=Ts I f;simpa using this
    clear N e7;have q3:=J (show(2:Int)^s%4294967296=((2^s:Nat):Int) by
     have e:((2^s:Nat):Int)=(2:Int)^s:=F
     rw[<-e];omega)
    go_wp2
    go_roundw
    case rel=>exact DivInv.set (q0:=q0) O C.out z.out d2.out a1.out h3.out f a5 q4.out (by rw[d3.out];exact p4.out) O d1.out g2.out O (by rw[q3.out,q1.out]) Z
    case measure=>simp[intOf]
   obtain⟨Q,S⟩:=h6.out.2 O;have d1:=J Q;have d3:=J S;clear Q S;rw[lB (show q<Y by omega)]at he;subst he;clear e7
   go_wp2
   go_roundw
   case rel=>
    refine⟨m,qd,O,Z,C.out,z.out,a0.out,?_,?_,b1.out,O⟩
    ·rw[a1.out,d1.out,RA,Rk (2^m) 2,<-Ry,Rk _ 2]
    rw[d3.out];have:=d0.out;rw[<-g4.out]at this;rw[<-g4.out];exact this.base_le O
   case measure=>simp[intOf]
def te(v:Value)(w:World):Nat:=
 match v with
 | .slice (some a) n _=>aG ((List.range n).map λi=>match w.cell? ⟨a.block,a.off+i,none⟩with
  |some (.int _ d)=>d.toNat
  |_=>0)
 |_=>0
def OwnN.num{w:World}{base:Nat}{v:Value}{l:List Nat}(h:OwnN w base v l):te v w=aG l:=by
 rcases h.2 with⟨rfl,e⟩|⟨g,a,cur,rfl,k⟩
 ·have:l=[]:=Rj e;subst this;rfl
 show aG ((List.range l.length).map λi=>match w.cell? ⟨g,0+i,none⟩with
  |some (.int _ d)=>d.toNat
  |_=>0)=aG l
 congr 1;apply Ug
 ·simp
 intro j f b;have c:=h.cell b;simp[c]
def pI{a b:Nat}(e:a%2=0)(d:b%2=1):Nat.gcd (a/2) b=Nat.gcd a b:=by
 have c:Nat.Coprime 2 b:=by
  unfold Nat.Coprime;rw[Ve,d];decide
 have:=c.gcd_mul_left_cancel (a/2);rw[show 2*(a/2)=a by omega]at this;exact this.symm
def uU{a b:Nat}(c:a%2=1)(d:b%2=0):Nat.gcd a (b/2)=Nat.gcd a b:=by
 rw[TF,pI d c,TF]
def GP{n:Nat}(h:n≠0):∃a:0<(aD n).length,(aD n)[0]%2=n%2:=by
 have e:=fp h;refine⟨by rw[e];simp,?_⟩;have:(aD n)[0]'(by rw[e];simp)=n%4294967296:=by
  rw[List.getElem_of_eq e];rfl
 rw[this];omega
def NumIn(w wr:World)(v:Value)(n:Nat):Prop:=OwnN wr w.heap.size v (aD n)
def NumIn.below{w wr w':World}{v:Value}{n:Nat}(h:NumIn w wr v n)(a:Below wr.heap.size wr w'):NumIn w w' v n:=OwnN.below h a
def NumIn.is{w wr:World}{v:Value}{n:Nat}(h:NumIn w wr v n):∃A c,v=.slice A (aD n).length c/\IsN wr A c (aD n):=OwnN.is h (ck n)
def NumIn.num{w wr:World}{v:Value}{n:Nat}(h:NumIn w wr v n):te v wr=n:=(OwnN.num h).trans (aW n)
def oU{wr:World}{A:Option Addr}{c n:Nat}(h:IsN wr A c (aD n))(i:n≠0):∃b off d,A=some ⟨b,off,none⟩/\wr.cell? ⟨b,off,none⟩=some (.int .u32 (d:Nat))/\d%2=n%2/\d<4294967296/\0<(aD n).length:=by
 obtain⟨a,g⟩:=GP i;obtain⟨b,off,e,_,f⟩:=h.digit a;exact⟨b,off,(aD n)[0],e,f 0 a,g,h.ok _ (R6 a),a⟩
def FB{wr:World}{A:Option Addr}{c n:Nat}(h:IsN wr A c (aD n))(a:(aD n).length<=1073741822):Calls prog 225 #[.slice A (aD n).length c] wr (NatPost (n/2) wr):=by
 have:=JE A c (aD n) wr h a;rwa[aW]at this
def Mv{wr:World}{A:Option Addr}{c n bit:Nat}(h:IsN wr A c (aD n))(b:(aD n).length<=1073741822)(a:bit<=1):Calls prog 226 #[.slice A (aD n).length c,.int .u32 bit] wr (NatPost (2*n+bit) wr):=by
 have:=uR A c (aD n) bit wr h b a;rwa[aW]at this
def QC{wr:World}{A B:Option Addr}{c d m n:Nat}(h:IsN wr A c (aD m))(a:IsN wr B d (aD n))(e:(aD m).length<=1073741822)(b:(aD n).length<=1073741822):Calls prog 101 #[.slice A (aD m).length c,.slice B (aD n).length d] wr (Fy m n wr):=by
 have:=ua A B c d (aD m) (aD n) wr h a O O;rwa[aW,aW]at this
def Pv{wr:World}{A B:Option Addr}{c d m n:Nat}(h:IsN wr A c (aD m))(b:IsN wr B d (aD n))(f:(aD m).length<=1073741822)(e:(aD n).length<=1073741822)(a:n<=m):Calls prog 217 #[.slice A (aD m).length c,.slice B (aD n).length d] wr (Fz (m-n) wr):=by
 have:=zV A B c d (aD m) (aD n) wr h b O O (by rw[aW,aW];exact a);rwa[aW,aW]at this
def NatPost.num{n:Nat}{w wr:World}{e:Ending}{w':World}(h:NatPost n wr e w')(d:w.heap.size<=wr.heap.size):∃v,e=.returned v/\NumIn w w' v n/\Below wr.heap.size wr w':=by
 obtain⟨v,b,c,a⟩:=h;exact⟨v,b,OwnN.base_le c d,a⟩
def zX{n M k:Nat}(h:n<=M)(a:M<4294967296^k):(aD n).length<=k:=bq (SG h a)
def Pw(w:World)(X Y:Nat)(x y sh:Value)(wr:World):Prop:=∃a b s:Nat,sh=.int .i64 s/\NumIn w wr x a/\NumIn w wr y b/\0<a/\0<b/\a*2^s=X/\b*2^s=Y/\Below w.heap.size w wr
def Px(w:World)(G s k:Nat)(x y:Value)(wr:World):Prop:=∃a b:Nat,NumIn w wr x a/\NumIn w wr y b/\0<a/\(a%2=1\/b%2=1)/\Nat.gcd a b*2^s=G/\a<4294967296^k/\b<4294967296^k/\Below w.heap.size w wr
def Py(w:World)(g a0 b:Nat)(x y:Value)(wr:World):Prop:=∃a:Nat,NumIn w wr x a/\NumIn w wr y b/\0<a/\a<=a0/\(a%2=1\/b%2=1)/\Nat.gcd a b=g/\Below w.heap.size w wr
def Pz(w:World)(g b0 a:Nat)(x y:Value)(wr:World):Prop:=∃b:Nat,NumIn w wr x a/\NumIn w wr y b/\0<b/\b<=b0/\Nat.gcd a b=g/\Below w.heap.size w wr
def PA(w:World)(a s:Nat)(x i:Value)(wr:World):Prop:=∃t:Nat,t<=s/\i=.int .i64 t/\NumIn w wr x (a*2^t)/\Below w.heap.size w wr
