import Derived.Test.YtfoejfohbkmmeaaGreatDoorP10
import Derived.Test.YtfoejfohbkmmeaaGreatDoorP00
import Derived.Laws.BitsAllLaws
set_option maxRecDepth 100000
set_option maxHeartbeats 4000000
namespace Go.Proofs.YtfoejfohbkmmeaaGreatDoor
open Go.RowKit
open Lib renaming hid→J
theorem df(l:List Nat)(k:Nat)(h:k<l.length):ay (l.take (k+1))=ay (l.take k)+4294967296^k*l[k]:=by
 have a:(l.take k).length=k:=by rw[Mf];omega
 rw[Mx h,eT,a];simp[ay]
theorem dO(l:List Nat)(d k:Nat)(h:l.length=k):ay (l++[d])=ay l+4294967296^k*d:=by
 subst h;rw[eT];simp[ay]
theorem zZ(l:List Nat)(i d:Nat):cA (l.set i d)=(cA l).set i (.int .u32 d):=by simp[cA,Qn]
theorem OwnN.set{w:World}{base g a i:Nat}{l:List Nat}(h:OwnN w base (.slice (some ⟨g,0,none⟩) l.length a) l)(d:Nat):
  OwnN (w.setCell ⟨g,i,none⟩ (.int .u32 d)) base (.slice (some ⟨g,0,none⟩) (l.set i d).length a) (l.set i d):=by
 rcases h.2 with⟨c,_⟩|⟨r,e,cur,c,m,k,n,f,j,p⟩
 ·cases c
 injection c with b q o
 injection b with b
 injection b with b
 subst b o;unfold OwnN;rw[MJ];refine⟨by rw[dn,MJ];omega,.inr ⟨g,a,cur.setIfInBounds i (.int .u32 d),Z,m,?_,n,f,by simpa using j,?_⟩⟩
 ·simp[World.setCell,NJ,k]
 rw[zZ,<-p,Nr,NQ,Pn]
theorem OwnN.lies{w:World}{base:Nat}{v:Value}{l:List Nat}(h:OwnN w base v l)(f:0<l.length):
  ∃g a,v=.slice (some ⟨g,0,none⟩) l.length a/\base<=g/\g<w.heap.size/\l.length<=a/\a<=9223372036854775807:=by
 rcases h.2 with⟨_,b⟩|⟨g,a,cur,rfl,e,d,b,c,_⟩
 ·omega
 exact⟨g,a,Z,e,(MD.1 d).1,b,by unfold maxLen at c;omega⟩
theorem OwnN.free{w:World}{base g n b:Nat}{l:List Nat}(h:OwnN w base (.slice (some ⟨g,0,none⟩) n b) l)(i:Nat):w.frozen? ⟨g,i,none⟩=false:=by
 rcases h.2 with⟨c,_⟩|⟨j,d,cur,c,f,e,_⟩
 ·cases c
 injection c with a
 injection a with a
 injection a with a
 subst a;simp[World.frozen?,e]
theorem OwnN.cell{w:World}{base g n a:Nat}{l:List Nat}(h:OwnN w base (.slice (some ⟨g,0,none⟩) n a) l){i:Nat}(d:i<l.length):w.cell? ⟨g,i,none⟩=some (.int .u32 ((l[i]:Nat):Int)):=by
 rcases h.2 with⟨b,_⟩|⟨j,c,cur,b,f,e,_⟩
 ·cases b
 have:=World.ownsRow.cells h (g:=g) Z i (.int .u32 ((l[i]:Nat):Int)) (by simp[cA,L3 d]);rwa[show(⟨g,0,none⟩:Addr).add i=⟨g,i,none⟩from by unfold Addr.add;split<;>simp_all]at this
def SubInv(w:World)(vx vy:Value)(dx dy:List Nat)(br i:Value)(wr:World):Prop:=
 ∃(k b:Nat) (out:List Nat),k<=dx.length/\i=.int .i64 k/\br=.int .u64 b/\b<=1/\out.length=k/\Digs out/\OwnN wr w.heap.size vx (out++dx.drop k)/\OwnN wr w.heap.size vy dy/\ay out+ay (dy.take k)=ay (dx.take k)+4294967296^k*b/\Below w.heap.size w wr
theorem xM{a c d:List Nat}{k b nb x y g:Nat}(f:k<c.length)(e:a.length=k)(m:ay a+ay (d.take k)=ay (c.take k)+4294967296^k*b)(j:c[k]=x)(h:ay (d.take (k+1))=ay (d.take k)+4294967296^k*y)(i:g+(b+y)=x+4294967296*nb):
  ay (a++[g])+ay (d.take (k+1))=ay (c.take (k+1))+4294967296^(k+1)*nb:=by
 rw[dO a g k e,df c k f,j,h,MH];generalize 4294967296^k=P at*;have l:P*(g+(b+y))=P*(x+4294967296*nb):=by rw[i]
 rw[MB,MB,MB]at l;rw[Mu];omega
theorem Fd{a b:List Nat}{k g:Nat}(d:k<b.length)(c:a.length=k):(a++b.drop k).set k g=(a++[g])++b.drop (k+1):=by
 subst c;rw[NK _ _ (L4 _),Mc d,M2,NO,Mv];rfl
theorem JE{a b:List Nat}{k:Nat}(d:k<b.length)(c:a.length=k):∃h:k<(a++b.drop k).length,(a++b.drop k)[k]=b[k]:=by
 subst c;refine⟨by simp;omega,?_⟩;rw[O5 (L4 _)];simp
theorem SubInv.next{w wr:World}{l y:Nat}{r:Value}{c m a:List Nat}{k b nb C y0 g:Nat}{z q i:Int}(s:k<c.length)(e:a.length=k)(x:Digs a)(u:OwnN wr w.heap.size (.slice (some ⟨l,0,none⟩) c.length y) (a++c.drop k))(t:OwnN wr w.heap.size r m)(E:r.ownBlock≠some l)
  (K:ay a+ay (m.take k)=ay (c.take k)+4294967296^k*b) (H:c[k]=C) (N:ay (m.take (k+1))=ay (m.take k)+4294967296^k*y0) (v:Below w.heap.size w wr) (n:w.heap.size<=l)
  (G:z=(g:Int)) (F:q=(nb:Int)) (L:i=((k+1:Nat):Int)) (M:g+(b+y0)=C+4294967296*nb) (B:g<4294967296) (o:nb<=1):SubInv w (.slice (some ⟨l,0,none⟩) c.length y) r c m (.int .u64 q) (.int .i64 i) (wr.setCell ⟨l,k,none⟩ (.int .u32 z)):=by
 subst G F L;refine⟨k+1,nb,a++[g],s,Z,Z,o,by simp[e],fun d D=>?_,?_,fc t E (fun j I=>Below.heap_setCell _ _ _ _ I),xM s e K H N M,v.setCell (p:=⟨l,k,none⟩) n _⟩
 ·rcases Mw.1 D with h|h
  ·exact x d h
  simp at h;omega
 have f:(a++c.drop k).length=c.length:=by simp[e];omega
 have J:OwnN wr w.heap.size (.slice (some ⟨l,0,none⟩) (a++c.drop k).length y) (a++c.drop k):=by rw[f];exact u
 have A:=J.set (i:=k) g;rw[MJ,f,Fd s e]at A;exact A
def BY(n:Nat)(w:World)(e:Ending)(w':World):Prop:=∃v,e=.returned (.tuple #[v,.bool true])/\OwnN w' w.heap.size v (ax n)/\Below w.heap.size w w'
theorem OwnN.base_le{w:World}{b c:Nat}{v:Value}{l:List Nat}(h:OwnN w c v l)(i:b<=c):OwnN w b v l:=by
 refine⟨h.1,?_⟩;rcases h.2 with d|⟨g,a,cur,e,f,r⟩
 ·exact .inl d
 exact .inr ⟨g,a,cur,e,by omega,r⟩
theorem wv(A B:Option Addr)(ca cb:Nat)(x y:List Nat)(w:World)(hA:IsN w A ca x)(hB:IsN w B cb y)(a0:x.length<=1073741823)(c3:y.length<=1073741823)(d2:ay y<=ay x):
  Calls Tryz.prog 217 #[.slice A x.length ca,.slice B y.length cb] w (BY (ay x-ay y) w):=by
 have HA:=J hA;have HB:=J hB;clear hA hB;have c9:(ax (ay x)).length<=x.length:=a8 (b8 x HA.out.ok);have d1:(ax (ay y)).length<=y.length:=a8 (b8 y HB.out.ok);have b3:0<=eo (ay x:Int) (ay y:Int):=by
  rcases MA (ay y) (ay x)with h|h
  ·rw[jt h];decide
  rw[ju (by omega)];decide
 obtain⟨cm,U⟩:∃cm,eo (ay x:Int) (ay y:Int)=cm:=⟨_,rfl⟩;have e6:=J U;rw[U]at b3;clear U
 go_enter Tryz.func217,Tryz.ntmps217
 go_wp2_with fail
 refine(rA A B ca cb x y _ HA.out HB.out a0 c3).mono ?_;rintro e w0 ⟨he,L⟩;rw[e6.out]at he;subst he;have a4:=J L;have V:=L.size;clear L
 go_wp2_with fail
 refine(dN A ca x _ (HA.out.below a4.out) a0).mono ?_;rintro e w1 ⟨vx,rfl,X,l⟩;have N:=J X;have c4:=J (aE a4.out l V);have d4:=J l;have K:w.heap.size<=w1.heap.size:=Ma V l.size;clear X l
 go_wp2_with fail
 refine(dN B cb y _ (HB.out.below c4.out) c3).mono ?_;rintro e w2 ⟨vy,rfl,P,I⟩;have S:=J ((N.out.below I).base_le V);have T:=J (P.base_le K);have p:Hid (∀g,vx.ownBlock=some g->vy.ownBlock≠some g):=fun g h1 h2=>by
  have a1:=(N.out.lt g h1).2;have a2:=(P.lt g h2).1;omega
 have e9:=J (aE c4.out I K);have f7:w.heap.size<=w2.heap.size:=Ma K I.size;clear P I N d4;have b0:=J (aO (ay x));have c0:=J (aO (ay y));have R:=J (bZ (ay x));have M:=J (bZ (ay y));obtain⟨z,u⟩:∃z,ax (ay x)=z:=⟨_,rfl⟩;obtain⟨n,t⟩:∃n,ax (ay y)=n:=⟨_,rfl⟩;have d0:=J (congrArg List.length u);have f0:=J (congrArg List.length t);rw[u]at S c9 b0 R;rw[t]at T d1 c0 M;clear u t;obtain⟨Ay,cy,e,f8⟩:∃A c,vy=.slice A n.length c/\True:=by
  obtain⟨A,c,h,_⟩:=T.out.is M.out;exact⟨A,c,h,trivial⟩
 subst e;obtain⟨Ax,cx,e,a5⟩:∃A c,vx=.slice A z.length c/\True:=by
  obtain⟨A,c,h,_⟩:=S.out.is R.out;exact⟨A,c,h,trivial⟩
 subst e
 go_wp2
 go_loopw [8,9] (fun br i wr=>SubInv w (.slice Ax z.length cx) (.slice Ay n.length cy) z n br i wr) (fun _ i _=>z.length-(intOf i).toNat)
 case atStart=>exact⟨0,0,[],Mp _,Z,Z,by omega,Z,fun d hd=>by simp at hd,by simpa using S.out,T.out,by simp[ay],e9.out⟩
 case round=>
  obtain⟨k,b,C,hk,rfl,rfl,hb,a9,c5,v,c1,W,Q⟩:=hrel;have f:=J v;have o:=J c1;have HQ:=J W;have s:=J Q;have a:=J a9;have m:=J c5;have b2:=Q.size;clear v c1 W Q a9 c5;by_cases q:k<z.length
  ·obtain⟨gx,g0,e,D,f5,_,_⟩:=f.out.lies (by have:=a.out;simp;omega);injection e with e1 e2 e3
   subst e1 e3;have p:=J (p.out gx Z);obtain⟨b1,Y⟩:=JE q a.out;obtain⟨G,H⟩:∃G,z[k]=G:=⟨_,rfl⟩;have e7:=f.out.cell b1;rw[Y,H]at e7;have f9:=f.out.free k;have f2:G<4294967296:=by rw[<-H];exact R.out _ (M7 q)
   have E:=J H;clear H Y b1 e2;by_cases O:k<n.length
   ·obtain⟨gy,f3,e,_,_,_,_⟩:=o.out.lies (by omega);injection e with e1 e2 e3
    subst e1 e3;clear e2;have f1:=o.out.cell O;obtain⟨y0,F⟩:∃y0,n[k]=y0:=⟨_,rfl⟩;rw[F]at f1;have f4:y0<4294967296:=by rw[<-F];exact M.out _ (M7 O)
    have r:=J (show ay (n.take (k+1))=ay (n.take k)+4294967296^k*y0 by rw[df n k O,F]);clear F;by_cases l:G<b+y0
    ·go_wp2
     go_roundw
     case rel=>exact SubInv.next (g:=G+4294967296-(b+y0)) (nb:=1) q a.out m.out f.out o.out p.out HQ.out E.out r.out s.out D (by omega) Z (by omega) (by omega) (by omega) (by omega)
     case measure=>simp[intOf];omega
    go_wp2
    go_roundw
    case rel=>exact SubInv.next (g:=G-(b+y0)) (nb:=0) q a.out m.out f.out o.out p.out HQ.out E.out r.out s.out D (by omega) Z (by omega) (by omega) (by omega) (by omega)
    case measure=>simp[intOf];omega
   have r:=J (show ay (n.take (k+1))=ay (n.take k)+4294967296^k*0 by rw[Me (i:=k+1) (by omega),Me (i:=k) (by omega)];simp);by_cases l:G<b
   ·go_wp2
    go_roundw
    case rel=>exact SubInv.next (y0:=0) (g:=G+4294967296-b) (nb:=1) q a.out m.out f.out o.out p.out HQ.out E.out r.out s.out D (by omega) Z (by omega) (by omega) (by omega) (by omega)
    case measure=>simp[intOf];omega
   go_wp2
   go_roundw
   case rel=>exact SubInv.next (y0:=0) (g:=G-b) (nb:=0) q a.out m.out f.out o.out p.out HQ.out E.out r.out s.out D (by omega) Z (by omega) (by omega) (by omega) (by omega)
   case measure=>simp[intOf];omega
  obtain rfl:k=z.length:=by omega
  have e5:n.length<=z.length:=by
   have:=a7 d2;rw[d0.out,f0.out]at this;exact this
  have hv:ay C=ay x-ay y:=by
   have h1:=HQ.out;rw[Me e5,M6,b0.out,c0.out]at h1;have h2:=b8 C m.out;rw[a.out]at h2;have h3:b=0\/b=1:=by omega
   rcases h3 with rfl|rfl
   ·rw[OB]at h1;omega
   rw[NQ]at h1;omega
  have HV:=J hv;clear hv;have v:OwnN wr w.heap.size (.slice Ax z.length cx) C:=by have:=f.out;rwa[PU,Mq]at this
  have b5:IsN wr Ax cx C:=by
   obtain⟨A',c',e,hi⟩:=v.is m.out;injection e with e1 e2 e3
   subst e1 e3;exact hi
  have a5:=J b5;clear v b5;have j:=dN Ax cx C wr a5.out (by have:=a.out;omega);rw[a.out,HV.out]at j;have e0:=J j;clear j
  go_wp2_with fail
  refine e0.out.mono ?_;rintro e w5 ⟨v5,rfl,a3,c2⟩;have e4:=J (a3.base_le b2);have d3:=J (aE s.out c2 b2);clear a3 c2
  go_wp2
  go_ret2
  exact⟨v5,Z,e4.out,d3.out⟩
theorem JF(a b:Nat)(c:a<4294967296)(d:b<=1)(e:a%2=0):bits .or .u32 (a:Int) (b:Int)=((a+b:Nat):Int):=by
 rw[u32_or_nat a b c (by omega)];have h:a|||b=a+b:=by
  have:=NE (i:=1) (b:=b) (by omega) (a/2);rw[Og]at this;rw[show a/2*2^1=a by omega]at this;exact this.symm
 rw[h]
def DblInv(w:World)(ds:List Nat)(bit:Nat)(v c i:Value)(wr:World):Prop:=
 ∃(k cy:Nat) (o:List Nat),k<=ds.length/\i=.int .i64 k/\c=.int .u32 cy/\cy<=1/\o.length=k/\Digs o/\OwnN wr w.heap.size v o/\ay o+4294967296^k*cy=2*ay (ds.take k)+bit/\Below w.heap.size w wr
theorem DblInv.next{w wr:World}{f o:List Nat}{bit k a d:Nat}{v:Value}{x i:Int}(j:k<f.length)(b:o.length=k)(g:Digs o)(n:f[k]=d)(l:d<4294967296)(m:a<=1)(c:OwnN wr w.heap.size v (o++[d*2%4294967296+a]))(u:ay o+4294967296^k*a=2*ay (f.take k)+bit)(r:Below w.heap.size w wr)
  (q:x=((d/2147483648:Nat):Int)) (s:i=((k+1:Nat):Int)):DblInv w f bit v (.int .u32 x) (.int .i64 i) wr:=by
 subst q s;refine⟨k+1,d/2147483648,o++[d*2%4294967296+a],j,Z,Z,by omega,by simp[b],fun e p=>?_,c,?_,r⟩
 ·rcases Mw.1 p with h|h
  ·exact g e h
  simp at h;omega
 rw[dO _ _ k b,df f k j,n,MH];generalize 4294967296^k=P at*;have y:P*(d*2%4294967296+a)+P*(4294967296*(d/2147483648))=P*(2*d)+P*a:=by
  rw[<-MB,<-MB];congr 1;omega
 rw[Mu];have t:P*(2*d)=2*(P*d):=by rw[<-Mu,Mt P 2,Mu]
 omega
theorem si(A:Option Addr)(c:Nat)(g:List Nat)(bit:Nat)(w:World)(h:IsN w A c g)(hl:g.length<=1073741822)(D:bit<=1):
  Calls Tryz.prog 226 #[.slice A g.length c,.int .u32 bit] w (NatPost (2*ay g+bit) w):=by
 have HI:=J h;clear h
 go_enter Tryz.func226,Tryz.ntmps226
 go_wp2
 go_loopw [1,5,6] (fun cb v i wr=>DblInv w g bit v cb i wr) (fun _ _ i _=>g.length-(intOf i).toNat)
 case atStart=>exact⟨0,bit,[],Mp _,Z,Z,D,Z,fun d x=>by simp at x,OwnN.nil _ _,by simp[ay],Below.refl _ _⟩
 case round=>
  obtain⟨k,m,o,hk,rfl,rfl,y,I,M,l,z,t⟩:=hrel;have HO:=J l;have HQ:=J z;have P:=J t;have C:=J I;have F:=J M;have q:=t.size;have X:o.length<=1073741822:=by omega
  clear l z t I M;by_cases j:k<g.length
  ·obtain⟨b,off,rfl,hb,hc⟩:=HI.out.digit j;obtain⟨d,x⟩:∃d,g[k]=d:=⟨_,rfl⟩;have n:=(P.out.cell (p:=⟨b,off+k,none⟩) hb).trans (hc k j);rw[x]at n;have E:d<4294967296:=by rw[<-x];exact HI.out.ok _ (M7 j)
   have HD:=J x;have r:=JF (d*2%4294967296) m (by omega) y (by omega);rw[show((d*2%4294967296:Nat):Int)=(d:Int)*2%4294967296 by omega]at r;have U:=J r;clear r;clear hc x
   go_wp2_with (at_builtin;refine gm w.heap.size _ o _ (d*2%4294967296+m) (.tmp 13) (.tmp 21) rfl rfl rfl rfl HO.out U.out (by omega) q ?_;intro v2 W a f;have O:=J a;have s:=J f;have n:=(f.below.cell (p:=⟨b,off+k,none⟩) hb).trans n;clear a f)
   go_roundw
   case rel=>exact DblInv.next j C.out F.out HD.out E y O.out HQ.out (P.out.trans s.out.below) (by omega) (by omega)
   case measure=>simp[intOf];omega
  obtain rfl:k=g.length:=by omega
  have V:ay (o++[m])=2*ay g+bit:=by
   have:=HQ.out;rw[M6]at this;rw[dO o m _ C.out];omega
  have Y:=J V;have K:Hid (Digs (o++[m])):=fun e hm=>by
   rcases Mw.1 hm with h|h
   ·exact F.out e h
   simp at h;omega
  obtain⟨L,N⟩:∃L,o++[m]=L:=⟨_,rfl⟩;have T:L.length<=1073741823:=by rw[<-N];simp;omega
  have HL:=J N;rw[N]at Y K;clear V N
  go_wp2_with (at_builtin;refine gm w.heap.size _ o _ m (.tmp 28) (.tmp 30) rfl rfl rfl rfl HO.out rfl (by omega) q ?_;intro v2 W a f;rw[HL.out]at a;have s:=J f;obtain⟨A2,c2,e2,G⟩:=a.is K.out;subst e2;have R:=J G;have H:w.heap.size<=W.heap.size:=Ma q f.size;clear a f G)
  refine(dN A2 c2 L _ R.out T).mono ?_;rintro e w3 ⟨v3,rfl,u,B⟩;rw[Y.out]at u;have S:=J (u.base_le H);have Q:=J ((P.out.trans s.out.below).trans (B.mono H));clear u B
  go_wp2
  go_ret
  exact⟨v3,Z,S.out,Q.out⟩
def HalfInv(w:World)(ds:List Nat)(v i:Value)(wr:World):Prop:=
 ∃(k:Nat) (o:List Nat),k<=ds.length/\i=.int .i64 k/\o.length=k/\Digs o/\OwnN wr w.heap.size v o/\2*ay o+ds.getD 0 0%2=ay (ds.take k)+4294967296^k*(ds.getD k 0%2)/\Below w.heap.size w wr
theorem HalfInv.next{w wr:World}{a o:List Nat}{k d b:Nat}{v:Value}{i:Int}(g:k<a.length)(c:o.length=k)(j:Digs o)(l:a[k]=d)(p:a.getD (k+1) 0%2=b)(m:d<4294967296)(f:OwnN wr w.heap.size v (o++[d/2+2147483648*b]))
  (q:2*ay o+a.getD 0 0%2=ay (a.take k)+4294967296^k*(a.getD k 0%2)) (t:Below w.heap.size w wr) (u:i=((k+1:Nat):Int)):HalfInv w a v (.int .i64 i) wr:=by
 subst u;have r:a.getD k 0=d:=by rw[Mk,L3 g,MG,l]
 have s:b<=1:=by omega
 refine⟨k+1,o++[d/2+2147483648*b],g,Z,by simp[c],fun e n=>?_,f,?_,t⟩
 ·rcases Mw.1 n with h|h
  ·exact j e h
  simp at h;omega
 rw[dO _ _ k c,df a k g,l,p,MH];rw[r]at q;generalize 4294967296^k=P at*;have x:2*(P*(d/2+2147483648*b))+P*(d%2)=P*d+P*(4294967296*b):=by
  rw[<-MB,<-Mu,Mt 2 P,Mu,<-MB];congr 1;omega
 rw[Mu,MB];omega
theorem Hy(a x:Nat)(c:a<2147483648):bits .or .u32 (a:Int) ((x*2147483648%4294967296:Nat):Int)=((a+2147483648*(x%2):Nat):Int):=by
 have e:x*2147483648%4294967296=2147483648*(x%2):=by omega
 rw[e,u32_or_nat a (2147483648*(x%2)) (by omega) (by omega)];have h:a|||2147483648*(x%2)=2147483648*(x%2)+a:=by
  have:=NE (i:=31) (b:=a) (by omega) (x%2);rw[Og]at this;rw[Nat.or_comm,show 2147483648*(x%2)=x%2*2^31 by omega];exact this.symm
 rw[h,NW]
theorem Fe(A:Option Addr)(c:Nat)(g:List Nat)(w:World)(h:IsN w A c g)(hl:g.length<=1073741822):
  Calls Tryz.prog 225 #[.slice A g.length c] w (NatPost (ay g/2) w):=by
 have U:=J h;clear h
 go_enter Tryz.func225,Tryz.ntmps225
 go_wp2
 go_loopw [3,4] (fun v i wr=>HalfInv w g v i wr) (fun _ i _=>g.length-(intOf i).toNat)
 case atStart=>exact⟨0,[],Mp _,Z,Z,fun d B=>by simp at B,OwnN.nil _ _,by simp[ay],Below.refl _ _⟩
 case round=>
  obtain⟨k,o,hk,rfl,H,I,q,C,y⟩:=hrel;have T:=J q;have S:=J C;have F:=J y;have E:=J H;have s:=J I;have m:=y.size;have a0:o.length<=1073741822:=by omega
  clear q C y H I;by_cases j:k<g.length
  ·obtain⟨b,off,rfl,hb,M⟩:=U.out.digit j;obtain⟨d,B⟩:∃d,g[k]=d:=⟨_,rfl⟩;have P:=(F.out.cell (p:=⟨b,off+k,none⟩) hb).trans (M k j);rw[B]at P;have n:d<4294967296:=by rw[<-B];exact U.out.ok _ (M7 j)
   have HD:=J B;clear B;by_cases l:k+1<g.length
   ·obtain⟨x,L⟩:∃x,g[k+1]=x:=⟨_,rfl⟩;have K:=(F.out.cell (p:=⟨b,off+(k+1),none⟩) hb).trans (M (k+1) l);rw[L]at K;have X:x<4294967296:=by rw[<-L];exact U.out.ok _ (M7 l)
    have Q:=J (show g.getD (k+1) 0%2=x%2 by rw[Mk,L3 l,MG,L]);have t:=Hy (d/2) x (by omega);rw[show((d/2:Nat):Int)=(d:Int)/2 by omega,show((x*2147483648%4294967296:Nat):Int)=(x:Int)*2147483648%4294967296 by omega]at t;have V:=J t;clear t L M
    go_wp2_with (at_builtin;refine gm w.heap.size _ o _ (d/2+2147483648*(x%2)) (.tmp 30) (.tmp 32) rfl rfl rfl rfl T.out V.out (by omega) m ?_;intro v2 w2 a f;have r:=J a;have u:=J f;clear a f)
    go_roundw
    case rel=>exact HalfInv.next j E.out s.out HD.out Q.out n r.out S.out (F.out.trans u.out.below) (by omega)
    case measure=>simp[intOf];omega
   have Q:=J (show g.getD (k+1) 0%2=0 by rw[Mk,Nn (by omega)];rfl);clear M
   go_wp2_with (at_builtin;refine gm w.heap.size _ o _ (d/2+2147483648*0) (.tmp 30) (.tmp 32) rfl rfl rfl rfl T.out (by omega) (by omega) m ?_;intro v2 w2 a f;have r:=J a;have u:=J f;clear a f)
   go_roundw
   case rel=>exact HalfInv.next j E.out s.out HD.out Q.out n r.out S.out (F.out.trans u.out.below) (by omega)
   case measure=>simp[intOf];omega
  obtain rfl:k=g.length:=by omega
  have W:ay o=ay g/2:=by
   have Y:=S.out;rw[M6,Mk (i:=g.length),Nn (L4 _)]at Y;simp only[Option.getD_none,Nat.zero_mod,OB,Nk]at Y;omega
  have HV:=J W;clear W;obtain⟨A2,c2,e2,G⟩:=T.out.is s.out;subst e2;have O:=J G;clear G
  go_wp2_with fail
  refine(dN A2 c2 o _ O.out (by omega)).mono ?_;rintro e w3 ⟨v3,rfl,z,D⟩;rw[HV.out]at z;have R:=J (z.base_le m);have N:=J (aE F.out D m);clear z D
  go_wp2
  go_ret
  exact⟨v3,Z,R.out,N.out⟩
theorem xN{l:List Nat}{d:Nat}(h:Digs l)(c:d<4294967296):Digs (l++[d]):=fun e b=>by
 rcases Mw.1 b with a|a
 ·exact h e a
 simp at a;omega
theorem uy(l:List Nat)(k:Nat)(h:l.length<=k):ay (l.take (k+1))=ay (l.take k)+4294967296^k*0:=by
 rw[Me (i:=k+1) (by omega),Me (i:=k) (by omega)];simp
def NAddInv(w:World)(dx dy:List Nat)(v c i:Value)(wr:World):Prop:=
 ∃(k cy:Nat) (o:List Nat),(k<=dx.length\/k<=dy.length)/\i=.int .i64 k/\c=.int .u64 cy/\cy<=1/\o.length=k/\Digs o/\OwnN wr w.heap.size v o/\ay o+4294967296^k*cy=ay (dx.take k)+ay (dy.take k)/\Below w.heap.size w wr
theorem NAddInv.next{w wr:World}{b d o:List Nat}{k a x y s:Nat}{v:Value}{c i:Int}(r:k<b.length\/k<d.length)(e:o.length=k)(g:Digs o)(j:s=a+x+y)(h:s<8589934592)(f:OwnN wr w.heap.size v (o++[s%4294967296]))(t:ay o+4294967296^k*a=ay (b.take k)+ay (d.take k))
  (l:ay (b.take (k+1))=ay (b.take k)+4294967296^k*x) (m:ay (d.take (k+1))=ay (d.take k)+4294967296^k*y) (n:Below w.heap.size w wr) (p:c=((s/4294967296:Nat):Int)) (q:i=((k+1:Nat):Int)):NAddInv w b d v (.int .u64 c) (.int .i64 i) wr:=by
 subst p q j;refine⟨k+1,(a+x+y)/4294967296,o++[(a+x+y)%4294967296],by omega,Z,Z,by omega,by simp[e],xN g (by omega),f,?_,n⟩;rw[dO _ _ k e,l,m,MH];generalize 4294967296^k=P at*;have u:P*((a+x+y)%4294967296)+P*(4294967296*((a+x+y)/4294967296))=P*a+P*x+P*y:=by
  rw[<-MB,<-MB,<-MB];congr 1;omega
 rw[Mu];omega
theorem z6(A B:Option Addr)(ca cb:Nat)(j g:List Nat)(w:World)(h:IsN w A ca j)(h':IsN w B cb g)(hl:j.length<=1073741822)(a5:g.length<=1073741822):
  Calls Tryz.prog 214 #[.slice A j.length ca,.slice B g.length cb] w (NatPost (ay j+ay g) w):=by
 have HI:=J h;have HJ:=J h';clear h h'
 go_enter Tryz.func214,Tryz.ntmps214
 go_wp2
 go_loopw [5,6,7] (fun v cb i wr=>NAddInv w j g v cb i wr) (fun _ _ i _=>j.length+g.length-(intOf i).toNat)
 case atStart=>exact⟨0,0,[],.inl (Mp _),Z,Z,by omega,Z,fun d hd=>by simp at hd,OwnN.nil _ _,by simp[ay],Below.refl _ _⟩
 case round=>
  obtain⟨k,q,o,hk,rfl,rfl,m,V,X,H,O,K⟩:=hrel;have HO:=J H;have HQ:=J O;have F:=J K;have C:=J V;have D:=J X;have t:=K.size;have a4:o.length<=1073741822:=by omega
  clear H O K V X;by_cases G:k<j.length
  ·by_cases E:k<g.length
   ·obtain⟨qx,ox,rfl,I,u⟩:=HI.out.digit G;obtain⟨x,c⟩:∃x,j[k]=x:=⟨_,rfl⟩;have r:=(F.out.cell (p:=⟨qx,ox+k,none⟩) I).trans (u k G);rw[c]at r;have S:x<4294967296:=by rw[<-c];exact HI.out.ok _ (M7 G)
    have Q:=J (show ay (j.take (k+1))=ay (j.take k)+4294967296^k*x by rw[df j k G,c]);clear u c;obtain⟨qy,oy,rfl,N,m⟩:=HJ.out.digit E;obtain⟨y,f⟩:∃y,g[k]=y:=⟨_,rfl⟩;have z:=(F.out.cell (p:=⟨qy,oy+k,none⟩) N).trans (m k E);rw[f]at z;have Y:y<4294967296:=by rw[<-f];exact HJ.out.ok _ (M7 E)
    have P:=J (show ay (g.take (k+1))=ay (g.take k)+4294967296^k*y by rw[df g k E,f]);clear m f
    go_wp2_with (at_builtin;refine gm w.heap.size _ o _ ((q+x+y)%4294967296) (.tmp 42) (.tmp 45) rfl rfl rfl rfl HO.out (by omega) (by omega) t ?_;intro v2 w2 a b;have n:=J a;have l:=J b;clear a b)
    go_roundw
    case rel=>exact NAddInv.next (s:=q+x+y) (x:=x) (y:=y) (by omega) C.out D.out (by omega) (by omega) n.out HQ.out Q.out P.out (F.out.trans l.out.below) (by omega) (by omega)
    case measure=>simp[intOf];omega
   obtain⟨qx,ox,rfl,I,u⟩:=HI.out.digit G;obtain⟨x,c⟩:∃x,j[k]=x:=⟨_,rfl⟩;have r:=(F.out.cell (p:=⟨qx,ox+k,none⟩) I).trans (u k G);rw[c]at r;have S:x<4294967296:=by rw[<-c];exact HI.out.ok _ (M7 G)
   have Q:=J (show ay (j.take (k+1))=ay (j.take k)+4294967296^k*x by rw[df j k G,c]);clear u c;have P:=J (uy g k (by omega))
   go_wp2_with (at_builtin;refine gm w.heap.size _ o _ ((q+x)%4294967296) (.tmp 42) (.tmp 45) rfl rfl rfl rfl HO.out (by omega) (by omega) t ?_;intro v2 w2 a b;have n:=J a;have l:=J b;clear a b)
   go_roundw
   case rel=>exact NAddInv.next (s:=q+x) (x:=x) (y:=0) (by omega) C.out D.out (by omega) (by omega) n.out HQ.out Q.out P.out (F.out.trans l.out.below) (by omega) (by omega)
   case measure=>simp[intOf];omega
  by_cases E:k<g.length
  ·have Q:=J (uy j k (by omega));obtain⟨qy,oy,rfl,N,m⟩:=HJ.out.digit E;obtain⟨y,f⟩:∃y,g[k]=y:=⟨_,rfl⟩;have z:=(F.out.cell (p:=⟨qy,oy+k,none⟩) N).trans (m k E);rw[f]at z;have Y:y<4294967296:=by rw[<-f];exact HJ.out.ok _ (M7 E)
   have P:=J (show ay (g.take (k+1))=ay (g.take k)+4294967296^k*y by rw[df g k E,f]);clear m f
   go_wp2_with (at_builtin;refine gm w.heap.size _ o _ ((q+y)%4294967296) (.tmp 42) (.tmp 45) rfl rfl rfl rfl HO.out (by omega) (by omega) t ?_;intro v2 w2 a b;have n:=J a;have l:=J b;clear a b)
   go_roundw
   case rel=>exact NAddInv.next (s:=q+y) (x:=0) (y:=y) (by omega) C.out D.out (by omega) (by omega) n.out HQ.out Q.out P.out (F.out.trans l.out.below) (by omega) (by omega)
   case measure=>simp[intOf];omega
  have hv:ay (o++[q])=ay j+ay g:=by
   have:=HQ.out;rw[Me (by omega),Me (by omega)]at this;rw[dO o q _ C.out];omega
  have HV:=J hv;have W:Hid (Digs (o++[q])):=xN D.out (by omega);obtain⟨L,hL⟩:∃L,o++[q]=L:=⟨_,rfl⟩;have a3:L.length<=1073741823:=by rw[<-hL];simp;omega
  have HL:=J hL;rw[hL]at HV W;clear hv hL
  go_wp2_with (at_builtin;refine gm w.heap.size _ o _ q (.tmp 49) (.tmp 52) rfl rfl rfl rfl HO.out (by omega) (by omega) t ?_;intro v2 w2 a b;rw[HL.out]at a;have l:=J b;obtain⟨A2,c2,e2,T⟩:=a.is W.out;subst e2;have a1:=J T;have U:w.heap.size<=w2.heap.size:=Ma t b.size;clear a b T)
  refine(dN A2 c2 L _ a1.out a3).mono ?_;rintro e w3 ⟨v3,rfl,M,R⟩;rw[HV.out]at M;have a2:=J (M.base_le U);have a0:=J ((F.out.trans l.out.below).trans (R.mono U));clear M R
  go_wp2
  go_ret
  exact⟨v3,Z,a2.out,a0.out⟩
end Go.Proofs.YtfoejfohbkmmeaaGreatDoor
