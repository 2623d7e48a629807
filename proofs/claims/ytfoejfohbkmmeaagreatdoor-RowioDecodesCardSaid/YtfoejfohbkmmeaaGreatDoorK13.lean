import Derived.Test.YtfoejfohbkmmeaaGreatDoorK12
set_option maxRecDepth 100000
set_option maxHeartbeats 4000000
set_option linter.defProp false
open Go.Proofs.Tryz
namespace Go.Proofs.YtfoejfohbkmmeaaGreatDoor
open Go.RowKit
open Lib renaming hid→J
def lD(a:List Nat)(m k g:Nat)(b:a.length=k):(a++List.replicate (m+1) 0).set k g=(a++[g])++List.replicate m 0:=by
 subst b;rw[SY _ _ (Q3 _),RW,TY,Tb,RL];rfl
def eV{a:List Nat}{g:Nat}(h:Digs a)(e:g<4294967296):Digs (a++[g]):=λd c=>by
 rcases RI.1 c with b|b
 ·exact h d b
 simp at b;omega
def qJ{a b:List Nat}(h:Digs a)(e:Digs b):Digs (a++b):=λd f=>by
 rcases RI.1 f with c|c
 ·exact h d c
 exact e d c
def OwnN.put{w:World}{base g n a i:Nat}{l:List Nat}(h:OwnN w base (.slice (some ⟨g,0,none⟩) n a) l)(b:n=l.length)(z:Int)(d:Nat)(e:z=(d:Int)):
  OwnN (w.setCell ⟨g,i,none⟩ (.int .u32 z)) base (.slice (some ⟨g,0,none⟩) n a) (l.set i d):=by
 subst e;have c:OwnN w base (.slice (some ⟨g,0,none⟩) l.length a) l:=by rw[<-b];exact h
 have:=c.set (i:=i) d;rw[RO,<-b]at this;exact this
def AddInv(w2:World)(n:Nat)(dx dy:List Nat)(cr i:Value)(wr:World):Prop:=
 ∃(k c:Nat) (out:List Nat),k<=dx.length/\i=.int .i64 k/\cr=.int .u64 c/\c<=1/\out.length=k/\Digs out/\OwnN wr w2.heap.size (.slice (some ⟨w2.heap.size,0,none⟩) n n) (out++List.replicate (n-k) 0)/\aG out+4294967296^k*c=aG (dx.take k)+aG (dy.take k)/\Below w2.heap.size w2 wr/\w2.heap.size<wr.heap.size
def JL{a b d:List Nat}{k c nc x y g:Nat}(h:k<b.length)(i:a.length=k)(m:aG a+4294967296^k*c=aG (b.take k)+aG (d.take k))(j:b[k]=x)(l:aG (d.take (k+1))=aG (d.take k)+4294967296^k*y)(f:g+4294967296*nc=x+y+c):
  aG (a++[g])+4294967296^(k+1)*nc=aG (b.take (k+1))+aG (d.take (k+1)):=by
 rw[ez a g k i,dO b k h,j,l,RA];generalize 4294967296^k=P at*;have e:P*(g+4294967296*nc)=P*(x+y+c):=by rw[f]
 rw[RF,RF,RF]at e;rw[Ry];omega
def lE{b wr:World}{n:Nat}{d f a:List Nat}{k c nc x y g:Nat}{z q i:Int}(D:n=d.length+1)(o:k<d.length)(h:a.length=k)(l:Digs a)(m:OwnN wr b.heap.size (.slice (some ⟨b.heap.size,0,none⟩) n n) (a++List.replicate (n-k) 0))
  (s:aG a+4294967296^k*c=aG (d.take k)+aG (f.take k)) (A:d[k]=x) (B:aG (f.take (k+1))=aG (f.take k)+4294967296^k*y) (r:Below b.heap.size b wr) (w:b.heap.size<wr.heap.size) (C:z=(g:Int)) (v:q=(nc:Int)) (u:i=((k+1:Nat):Int)) (t:g+4294967296*nc=x+y+c) (e:g<4294967296) (j:nc<=1):
  AddInv b n d f (.int .u64 q) (.int .i64 i) (wr.setCell ⟨b.heap.size,k,none⟩ (.int .u32 z)):=by
 subst v u;refine⟨k+1,nc,a++[g],o,Z,Z,j,by simp[h],eV l e,?_,JL o h s A B t,r.setCell (p:=⟨b.heap.size,k,none⟩) (Q3 _) _,by simpa[World.setCell]using w⟩;have:=m.put (i:=k) (by simp[h];omega) z g C;rw[show n-k=n-(k+1)+1 by omega,lD _ _ _ _ h]at this;exact this
def sA(l:List Nat)(k:Nat)(h:l.length<=k):aG (l.take (k+1))=aG (l.take k)+4294967296^k*0:=by
 rw[Rf (i:=k+1) O,Rf (i:=k) O];simp
def OwnN.isN{w:World}{base n c:Nat}{A:Option Addr}{l:List Nat}(h:OwnN w base (.slice A n c) l)(f:Digs l):IsN w A c l/\n=l.length:=by
 obtain⟨i,j,e,g⟩:=h.is f;injection e with a b d
 subst a d;exact⟨g,b⟩
def qK{A:Option Addr}{c n N:Nat}{a:List Nat}{w:World}(h:IsN w A c a)(e:n=a.length)(d:a.length<=1073741823)(b:aG a=N):
  Calls prog 193 #[.slice A n c] w (iB (λW v=>IsD W v N) w):=by
 subst e b;exact uW A c a w h d
def IsN.lt{W:World}{A:Option Addr}{c:Nat}{l:List Nat}(h:IsN W A c l){i:Nat}(a:i<l.length):l[i]<4294967296:=h.ok _ (R6 a)
def QF{u v:Value}{X Y:Nat}{w:World}(hu:IsD w u X)(hv:IsD w v Y)(e4:(aD X).length<=1048576)(e5:(aD Y).length<=1048576):Calls prog 196 #[u,v] w (iB (λW r=>IsD W r (X+Y)) w):=by
 have HC:=J (mj hu O);have HV:=J hv;obtain⟨A0,c0,rfl,_⟩:=hu;obtain⟨B0,e0,rfl,_⟩:=hv
 go_enter func196,ntmps196
 go_wp2_with fail
 refine HC.out.mono ?_;rintro e w1 ⟨v1,rfl,c9,a5⟩;obtain⟨A1,c1,j,rfl,d1,I⟩:=c9.open_;have c3:=J d1;have b1:=J a5;have b4:=J I.out;have d3:=a5.size;clear c9 d1 a5 I HC;have b3:=J (mj (HV.out.below b1.out) O)
 go_wp2_with fail
 refine b3.out.mono ?_;rintro e w2 ⟨v2,rfl,d0,a0⟩;obtain⟨A2,c2,l,rfl,d2,I⟩:=d0.open_;have V:=J d2;have U:=J (c3.out.below a0);have b2:=J (aL b1.out a0 d3);have b5:=J I.out;have d4:w.heap.size<=w2.heap.size:=Q7 d3 a0.size;clear d0 d2 a0 I b3 c3;have c4:Hid (aG j=X):=by rw[b4.out];exact aW X
 have c5:Hid (aG l=Y):=by rw[b5.out];exact aW Y
 have e6:j.length<=1048576:=by rw[b4.out];exact e4
 have e7:l.length<=1048576:=by rw[b5.out];exact e5
 by_cases e8:j.length<l.length
 ·obtain⟨W,q,L,C,b0⟩:=fF w2 (l.length+1) O;have q:=q .i64 .i64;have a4:=J L;have a2:=J C;have T:w2.heap.size<W.heap.size:=O
  clear L C b0;rw[show((l.length+1:Nat):Int)=(l.length:Int)+1 by omega]at q
  go_wp2
  clear q
  go_loopw [6,27] (λcr i wr=>AddInv w2 (l.length+1) l j cr i wr) (λ_ i _=>l.length-(intOf i).toNat)
  case atStart=>exact⟨0,0,[],Rg _,Z,Z,O,Z,λd hd=>by simp at hd,by simpa using a4.out,by simp[aG],a2.out,T⟩
  case round=>
   obtain⟨k,c,n,hk,rfl,rfl,hc,N,M,P,K,D,Q⟩:=hrel;have h:=J P;have HQ:=J K;have b:=J D;have a:=J N;have t:=J M;clear P K D N M;by_cases m:k<l.length
   ·obtain⟨bx,ox,rfl,e2,E⟩:=(V.out.below b.out).digit m;have cx:=E k m;have R:=V.out.lt m;obtain⟨x,hx⟩:∃x,l[k]=x:=⟨_,Z⟩;rw[hx]at cx R;have HX:=J hx;have a9:=h.out.free k;have z:=h.out.cell (i:=k) (by have:=a.out;simp;omega);obtain⟨old,f⟩:∃old,(n++List.replicate (l.length+1-k) 0)[k]'(by have:=a.out;simp;omega)=old:=⟨_,Z⟩;rw[f]at z;clear E hx f;by_cases o:k<j.length
    ·obtain⟨e1,oy,rfl,e3,F⟩:=(U.out.below b.out).digit o;have cy:=F k o;have S:=U.out.lt o;obtain⟨y,hy⟩:∃y,j[k]=y:=⟨_,Z⟩;rw[hy]at cy S;have HY:=J (show aG (j.take (k+1))=aG (j.take k)+4294967296^k*y by rw[dO j k o,hy]);clear F hy
     go_wp2
     go_roundw
     case rel=>exact lE (nc:=(x+c+y)/4294967296) (g:=(x+c+y)%4294967296) Z m a.out t.out h.out HQ.out HX.out HY.out b.out Q O O O O O O
     case measure=>simp[intOf];omega
    have HY:=J (sA j k O)
    go_wp2
    go_roundw
    case rel=>exact lE (nc:=(x+c)/4294967296) (g:=(x+c)%4294967296) Z m a.out t.out h.out HQ.out HX.out HY.out b.out Q O O O O O O
    case measure=>simp[intOf];omega
   obtain rfl:k=l.length:=O
   have a9:=h.out.free l.length;have z:=h.out.cell (i:=l.length) (by have:=a.out;simp;omega);obtain⟨old,f⟩:∃old,(n++List.replicate (l.length+1-l.length) 0)[l.length]'(by have:=a.out;simp;omega)=old:=⟨_,Z⟩;rw[f]at z;clear f;have h3:=h.out.put (i:=l.length) (by have:=a.out;simp;omega) (c:Int) c Z;rw[show l.length+1-l.length=0+1 by omega,lD _ _ _ _ a.out,SW,RP]at h3;have H:Digs (n++[c]):=eV t.out O;obtain⟨h4,h5⟩:=h3.isN H;have s:aG (n++[c])=X+Y:=by
    have h1:=HQ.out;rw[Sa,Rf O,c5.out,c4.out]at h1;rw[ez n c l.length a.out];omega
   have HT:=J (qK h4 h5 (by have:=a.out;simp;omega) s);have A:=J (b.out.setCell (p:=⟨w2.heap.size,l.length,none⟩) (Q3 _) (.int .u32 (c:Int)));clear h3 h4 h5 H s
   go_wp2_with fail
   refine HT.out.mono ?_;rintro e w5 ⟨v5,rfl,G,B⟩;have a3:=J G;have a1:=J (aL b2.out (aL A.out B A.out.size) d4);clear G B
   go_wp2
   go_ret
   exact⟨_,Z,a3.out,a1.out⟩
 obtain⟨W,q,L,C,b0⟩:=fF w2 (j.length+1) O;have q:=q .i64 .i64;have a4:=J L;have a2:=J C;have T:w2.heap.size<W.heap.size:=O
 clear L C b0;rw[show((j.length+1:Nat):Int)=(j.length:Int)+1 by omega]at q
 go_wp2
 clear q
 go_loopw [6,27] (λcr i wr=>AddInv w2 (j.length+1) j l cr i wr) (λ_ i _=>j.length-(intOf i).toNat)
 case atStart=>exact⟨0,0,[],Rg _,Z,Z,O,Z,λd hd=>by simp at hd,by simpa using a4.out,by simp[aG],a2.out,T⟩
 case round=>
  obtain⟨k,c,n,hk,rfl,rfl,hc,N,M,P,K,D,Q⟩:=hrel;have h:=J P;have HQ:=J K;have b:=J D;have a:=J N;have t:=J M;clear P K D N M;by_cases m:k<j.length
  ·obtain⟨bx,ox,rfl,e2,E⟩:=(U.out.below b.out).digit m;have cx:=E k m;have R:=U.out.lt m;obtain⟨x,hx⟩:∃x,j[k]=x:=⟨_,Z⟩;rw[hx]at cx R;have HX:=J hx;have a9:=h.out.free k;have z:=h.out.cell (i:=k) (by have:=a.out;simp;omega);obtain⟨old,f⟩:∃old,(n++List.replicate (j.length+1-k) 0)[k]'(by have:=a.out;simp;omega)=old:=⟨_,Z⟩;rw[f]at z;clear E hx f;by_cases o:k<l.length
   ·obtain⟨e1,oy,rfl,e3,F⟩:=(V.out.below b.out).digit o;have cy:=F k o;have S:=V.out.lt o;obtain⟨y,hy⟩:∃y,l[k]=y:=⟨_,Z⟩;rw[hy]at cy S;have HY:=J (show aG (l.take (k+1))=aG (l.take k)+4294967296^k*y by rw[dO l k o,hy]);clear F hy
    go_wp2
    go_roundw
    case rel=>exact lE (nc:=(x+c+y)/4294967296) (g:=(x+c+y)%4294967296) Z m a.out t.out h.out HQ.out HX.out HY.out b.out Q O O O O O O
    case measure=>simp[intOf];omega
   have HY:=J (sA l k O)
   go_wp2
   go_roundw
   case rel=>exact lE (nc:=(x+c)/4294967296) (g:=(x+c)%4294967296) Z m a.out t.out h.out HQ.out HX.out HY.out b.out Q O O O O O O
   case measure=>simp[intOf];omega
  obtain rfl:k=j.length:=O
  have a9:=h.out.free j.length;have z:=h.out.cell (i:=j.length) (by have:=a.out;simp;omega);obtain⟨old,f⟩:∃old,(n++List.replicate (j.length+1-j.length) 0)[j.length]'(by have:=a.out;simp;omega)=old:=⟨_,Z⟩;rw[f]at z;clear f;have h3:=h.out.put (i:=j.length) (by have:=a.out;simp;omega) (c:Int) c Z;rw[show j.length+1-j.length=0+1 by omega,lD _ _ _ _ a.out,SW,RP]at h3;have H:Digs (n++[c]):=eV t.out O;obtain⟨h4,h5⟩:=h3.isN H;have s:aG (n++[c])=X+Y:=by
   have h1:=HQ.out;rw[Sa,Rf O,c4.out,c5.out]at h1;rw[ez n c j.length a.out];omega
  have HT:=J (qK h4 h5 (by have:=a.out;simp;omega) s);have A:=J (b.out.setCell (p:=⟨w2.heap.size,j.length,none⟩) (Q3 _) (.int .u32 (c:Int)));clear h3 h4 h5 H s
  go_wp2_with fail
  refine HT.out.mono ?_;rintro e w5 ⟨v5,rfl,G,B⟩;have a3:=J G;have a1:=J (aL b2.out (aL A.out B A.out.size) d4);clear G B
  go_wp2
  go_ret
  exact⟨_,Z,a3.out,a1.out⟩
def PD(X Y:Nat)(W:World)(r:Value):Prop:=(Y<=X->∃v,r=.tuple #[v,.bool true]/\IsD W v (X-Y))/\(X<Y->r=.tuple #[.slice none 0 0,.bool false])
def SbInv(w2:World)(dx dy:List Nat)(br i:Value)(wr:World):Prop:=
 ∃(k b:Nat) (out:List Nat),k<=dx.length/\i=.int .i64 k/\br=.int .u64 b/\b<=1/\out.length=k/\Digs out/\OwnN wr w2.heap.size (.slice (some ⟨w2.heap.size,0,none⟩) dx.length dx.length) (out++List.replicate (dx.length-k) 0)/\aG out+aG (dy.take k)=aG (dx.take k)+4294967296^k*b/\Below w2.heap.size w2 wr/\w2.heap.size<wr.heap.size
def m8{d wr:World}{c f a:List Nat}{k b nb x y g:Nat}{z q i:Int}(n:k<c.length)(h:a.length=k)(l:Digs a)(m:OwnN wr d.heap.size (.slice (some ⟨d.heap.size,0,none⟩) c.length c.length) (a++List.replicate (c.length-k) 0))
  (r:aG a+aG (f.take k)=aG (c.take k)+4294967296^k*b) (w:c[k]=x) (A:aG (f.take (k+1))=aG (f.take k)+4294967296^k*y) (o:Below d.heap.size d wr) (v:d.heap.size<wr.heap.size) (B:z=(g:Int)) (u:q=(nb:Int)) (t:i=((k+1:Nat):Int)) (s:g+(b+y)=x+4294967296*nb) (e:g<4294967296) (j:nb<=1):
  SbInv d c f (.int .u64 q) (.int .i64 i) (wr.setCell ⟨d.heap.size,k,none⟩ (.int .u32 z)):=by
 subst u t;refine⟨k+1,nb,a++[g],n,Z,Z,j,by simp[h],eV l e,?_,Bj n h r w A s,o.setCell (p:=⟨d.heap.size,k,none⟩) (Q3 _) _,by simpa[World.setCell]using v⟩;have:=m.put (i:=k) (by simp[h];omega) z g B;rw[show c.length-k=c.length-(k+1)+1 by omega,lD _ _ _ _ h]at this;exact this
def QG{u v:Value}{X Y:Nat}{w:World}(hu:IsD w u X)(hv:IsD w v Y)(f0:(aD X).length<=1048576)(f1:(aD Y).length<=1048576):Calls prog 197 #[u,v] w (iB (PD X Y) w):=by
 have HC:=J (mj hu O);have HV:=J hv;obtain⟨A0,c0,rfl,_⟩:=hu;obtain⟨B0,e0,rfl,_⟩:=hv
 go_enter func197,ntmps197
 go_wp2_with fail
 refine HC.out.mono ?_;rintro e w1 ⟨v1,rfl,a9,o⟩;obtain⟨A1,c1,n,rfl,b3,q⟩:=a9.open_;have T:=J b3;have Q:=J o;have t:=J q.out;have c5:=o.size;clear a9 b3 o q HC;have S:=J (mj (HV.out.below Q.out) O)
 go_wp2_with fail
 refine S.out.mono ?_;rintro e w2 ⟨v2,rfl,b0,A⟩;obtain⟨A2,c2,s,rfl,b4,q⟩:=b0.open_;have M:=J b4;have L:=J (T.out.below A);have d3:=J (aL Q.out A c5);have z:=J q.out;have c9:w.heap.size<=w2.heap.size:=Q7 c5 A.size;clear b0 b4 A q S T;have e4:Hid (aG n=X):=by rw[t.out];exact aW X
 have e5:Hid (aG s=Y):=by rw[z.out];exact aW Y
 have f7:n.length<=1048576:=by rw[t.out];exact f0
 have f8:s.length<=1048576:=by rw[z.out];exact f1
 have f:(fE (X:Int) (Y:Int)<0)↔X<Y:=by
  rcases Ub X Y with h|h|h
  ·rw[lB h];omega
  ·rw[m7 h];omega
  rw[ke h];omega
 have K:=J (JK (L.out.isD t.out) (M.out.isD z.out) O O);obtain⟨cm,a3⟩:∃cm,fE (X:Int) (Y:Int)=cm:=⟨_,Z⟩;rw[a3]at K f;clear a3
 go_wp2_with fail
 refine K.out.mono ?_;rintro e P ⟨v3,rfl,f2,p⟩;obtain rfl:=f2;have E:=J (L.out.below p);have F:=J (M.out.below p);have R:=J (aL d3.out p c9);have f3:w.heap.size<=P.heap.size:=Q7 c9 p.size;clear p K L M;by_cases G:X<Y
 ·have e6:cm<0:=f.2 G;clear f
  go_wp2
  go_ret2
  exact⟨_,Z,⟨λh=>O,λ_=>rfl⟩,R.out⟩
 have e6:¬cm<0:=λh=>G (f.1 h)
 have e9:Y<=X:=O
 clear f;obtain⟨W,N,b5,a1,f4⟩:=fF P n.length O;have N:=N .i64 .i64;have e3:=J b5;have e1:=J a1;have d2:P.heap.size<W.heap.size:=O
 clear b5 a1 f4
 go_wp2
 clear N
 go_loopw [7,24] (λbr i wr=>SbInv P n s br i wr) (λ_ i _=>n.length-(intOf i).toNat)
 case atStart=>exact⟨0,0,[],Rg _,Z,Z,O,Z,λd hd=>by simp at hd,by simpa using e3.out,by simp[aG],e1.out,d2⟩
 case round=>
  obtain⟨k,b,D,hk,rfl,rfl,hb,c4,c3,r,b2,a2,C⟩:=hrel;have j:=J r;have U:=J b2;have a:=J a2;have c:=J c4;have m:=J c3;clear r b2 a2 c4 c3;by_cases l:k<n.length
  ·obtain⟨bx,ox,rfl,g0,a4⟩:=(E.out.below a.out).digit l;have cx:=a4 k l;have d0:=E.out.lt l;obtain⟨x,hx⟩:∃x,n[k]=x:=⟨_,Z⟩;rw[hx]at cx d0;have HX:=J hx;have g2:=j.out.free k;have e7:=j.out.cell (i:=k) (by have:=c.out;simp;omega);obtain⟨old,H⟩:∃old,(D++List.replicate (n.length-k) 0)[k]'(by have:=c.out;simp;omega)=old:=⟨_,Z⟩;rw[H]at e7;clear a4 hx H;by_cases B:k<s.length
   ·obtain⟨f9,oy,rfl,g1,a5⟩:=(F.out.below a.out).digit B;have cy:=a5 k B;have d1:=F.out.lt B;obtain⟨y,hy⟩:∃y,s[k]=y:=⟨_,Z⟩;rw[hy]at cy d1;have V:=J (show aG (s.take (k+1))=aG (s.take k)+4294967296^k*y by rw[dO s k B,hy]);clear a5 hy;by_cases o:x<b+y
    ·go_wp2
     go_roundw
     case rel=>exact m8 (nb:=1) (g:=x+4294967296-(b+y)) l c.out m.out j.out U.out HX.out V.out a.out C O Z O O O O
     case measure=>simp[intOf];omega
    go_wp2
    go_roundw
    case rel=>exact m8 (nb:=0) (g:=x-(b+y)) l c.out m.out j.out U.out HX.out V.out a.out C O Z O O O O
    case measure=>simp[intOf];omega
   have V:=J (sA s k O);by_cases o:x<b
   ·go_wp2
    go_roundw
    case rel=>exact m8 (y:=0) (nb:=1) (g:=x+4294967296-b) l c.out m.out j.out U.out HX.out V.out a.out C O Z O O O O
    case measure=>simp[intOf];omega
   go_wp2
   go_roundw
   case rel=>exact m8 (y:=0) (nb:=0) (g:=x-b) l c.out m.out j.out U.out HX.out V.out a.out C O Z O O O O
   case measure=>simp[intOf];omega
  obtain rfl:k=n.length:=O
  have e8:s.length<=n.length:=by rw[t.out,z.out];exact bh e9
  have r:OwnN wr P.heap.size (.slice (some ⟨P.heap.size,0,none⟩) n.length n.length) D:=by have:=j.out;rwa[RW,SW,RP]at this
  obtain⟨h4,h5⟩:=r.isN m.out;have I:aG D=X-Y:=by
   have h1:=U.out;rw[Rf e8,Sa,e4.out,e5.out]at h1;have h2:=cC D m.out;rw[c.out]at h2;have h3:b=0\/b=1:=O
   rcases h3 with rfl|rfl
   ·rw[TL]at h1;omega
   rw[ST]at h1;omega
  have HT:=J (qK h4 h5 (by have:=c.out;omega) I);clear r h4 h5 I
  go_wp2_with fail
  refine HT.out.mono ?_;rintro e w5 ⟨v5,rfl,b1,a0⟩;have e2:=J b1;have d4:=J (aL R.out (aL a.out a0 a.out.size) f3);clear b1 a0
  go_wp2
  go_ret2
  exact⟨_,Z,⟨λ_=>⟨_,Z,e2.out⟩,λh=>O⟩,d4.out⟩
def MulInv(w2:World)(n:Nat)(dx dy:List Nat)(i:Value)(wr:World):Prop:=
 ∃(k:Nat) (out:List Nat),k<=dx.length/\i=.int .i64 k/\out.length=k+dy.length/\Digs out/\OwnN wr w2.heap.size (.slice (some ⟨w2.heap.size,0,none⟩) n n) (out++List.replicate (dx.length-k) 0)/\aG out=aG (dx.take k)*aG dy/\Below w2.heap.size w2 wr/\w2.heap.size<wr.heap.size
def MuliInv(w2:World)(n k x:Nat)(out dx dy:List Nat)(cr j:Value)(wr:World):Prop:=
 ∃(m c:Nat) (lo:List Nat),m<=dy.length/\j=.int .i64 m/\cr=.int .u64 c/\c<4294967296/\lo.length=k+m/\Digs lo/\OwnN wr w2.heap.size (.slice (some ⟨w2.heap.size,0,none⟩) n n) (lo++(out.drop (k+m)++List.replicate (dx.length-k) 0))/\aG lo+4294967296^(k+m)*c=aG (out.take (k+m))+4294967296^k*(x*aG (dy.take m))/\Below w2.heap.size w2 wr/\w2.heap.size<wr.heap.size
def GS{lo a b:List Nat}{k m c x y d t:Nat}(h:m<b.length)(g:lo.length=k+m)(e:k+m<a.length)(p:aG lo+4294967296^(k+m)*c=aG (a.take (k+m))+4294967296^k*(x*aG (b.take m)))(j:b[m]=y)(f:a[k+m]=d)(i:t=x*y+d+c):
  aG (lo++[t%4294967296])+4294967296^(k+(m+1))*(t/4294967296)=aG (a.take (k+(m+1)))+4294967296^k*(x*aG (b.take (m+1))):=by
 rw[ez lo _ (k+m) g,show k+(m+1)=k+m+1 by omega,dO a (k+m) e,f,dO b m h,j,RA];have l:4294967296^(k+m)*(t%4294967296)+4294967296^(k+m)*4294967296*(t/4294967296)=4294967296^(k+m)*t:=by
  rw[Ry,<-RF,Nat.mod_add_div]
 have n:4294967296^k*(x*(aG (b.take m)+4294967296^m*y))=4294967296^k*(x*aG (b.take m))+4294967296^(k+m)*(x*y):=by
  rw[RF,RF,SF];congr 1;rw[SQ x,Ry]
 have o:4294967296^(k+m)*t=4294967296^(k+m)*(x*y)+4294967296^(k+m)*d+4294967296^(k+m)*c:=by
  rw[i,RF,RF]
 omega
def JM{lo a:List Nat}{p g:Nat}{tl:List Nat}(b:lo.length=p)(c:p<a.length):(lo++(a.drop p++tl)).set p g=(lo++[g])++(a.drop (p+1)++tl):=by
 subst b;rw[SY _ _ (Q3 _),RW,Re c,Sq,Tb,RL];rfl
def FH{lo a:List Nat}{p:Nat}{tl:List Nat}(b:lo.length=p)(c:p<a.length):∃h:p<(lo++(a.drop p++tl)).length,(lo++(a.drop p++tl))[p]=a[p]:=by
 subst b;refine⟨by simp;omega,?_⟩;rw[Un (Q3 _),List.getElem_append_left (by simp;omega),TO];simp
def qL{b wr:World}{n k x m c y d:Nat}{a f e lo:List Nat}{z q i:Int}(G:n=f.length+e.length)(F:k<f.length)(o:a.length=k+e.length)(s:m<e.length)(g:lo.length=k+m)(l:Digs lo)(r:OwnN wr b.heap.size (.slice (some ⟨b.heap.size,0,none⟩) n n) (lo++(a.drop (k+m)++List.replicate (f.length-k) 0)))
  (w:aG lo+4294967296^(k+m)*c=aG (a.take (k+m))+4294967296^k*(x*aG (e.take m))) (D:e[m]=y) (j:∃h:k+m<a.length,a[k+m]=d) (u:Below b.heap.size b wr) (C:b.heap.size<wr.heap.size) (E:z=(((x*y+d+c)%4294967296:Nat):Int)) (B:q=(((x*y+d+c)/4294967296:Nat):Int)) (A:i=((m+1:Nat):Int)) (v:(x*y+d+c)/4294967296<4294967296):
  MuliInv b n k x a f e (.int .u64 q) (.int .i64 i) (wr.setCell ⟨b.heap.size,k+m,none⟩ (.int .u32 z)):=by
 subst B A;obtain⟨t,j⟩:=j;refine⟨m+1,_,lo++[(x*y+d+c)%4294967296],s,Z,Z,v,by simp[g];omega,eV l (RJ _ I),?_,GS s g t w D j Z,u.setCell (p:=⟨b.heap.size,k+m,none⟩) (Q3 _) _,by simpa[World.setCell]using C⟩;have:=r.put (i:=k+m) (by simp[g,o];omega) z _ E;rw[JM g t]at this;exact this
def tf{e wr:World}{n k x c:Nat}{d b a lo:List Nat}{z i:Int}(w:n=b.length+a.length)(m:k<b.length)(s:d.length=k+a.length)(j:aG d=aG (b.take k)*aG a)(u:b[k]=x)(g:lo.length=k+a.length)(h:Digs lo)(q:c<4294967296)(f:OwnN wr e.heap.size (.slice (some ⟨e.heap.size,0,none⟩) n n) (lo++(d.drop (k+a.length)++List.replicate (b.length-k) 0)))
  (l:aG lo+4294967296^(k+a.length)*c=aG (d.take (k+a.length))+4294967296^k*(x*aG (a.take a.length))) (o:Below e.heap.size e wr) (t:e.heap.size<wr.heap.size) (v:z=(c:Int)) (r:i=((k+1:Nat):Int)):
  MulInv e n b a (.int .i64 i) (wr.setCell ⟨e.heap.size,k+a.length,none⟩ (.int .u32 z)):=by
 subst r;rw[Rc O,Sc]at f;rw[Rf O,Sa]at l;refine⟨k+1,lo++[c],m,Z,by simp[g];omega,eV h q,?_,?_,o.setCell (p:=⟨e.heap.size,k+a.length,none⟩) (Q3 _) _,by simpa[World.setCell]using t⟩
 ·have:=f.put (i:=k+a.length) (by simp[g];omega) z c v;rw[show b.length-k=b.length-(k+1)+1 by omega,lD _ _ _ _ g]at this;exact this
 rw[ez lo c _ g,l,j,dO b k m,u,R2,Ry]
def zZ{x y d c:Nat}(e:x<4294967296)(f:y<4294967296)(b:d<4294967296)(a:c<4294967296):x*y+d+c<18446744073709551616/\x*y<=18446744065119617025:=by
 have h:x*y<=4294967295*4294967295:=Tq O O;omega
def QH{u v:Value}{X Y:Nat}{w:World}(hu:IsD w u X)(hv:IsD w v Y)(g0:(aD X).length<=1048576)(g1:(aD Y).length<=1048576):Calls prog 152 #[u,v] w (iB (λW r=>IsD W r (X*Y)) w):=by
 have HC:=J (mj hu O);have HV:=J hv;obtain⟨A0,c0,rfl,_⟩:=hu;obtain⟨B0,e0,rfl,_⟩:=hv
 go_enter func152,ntmps152
 go_wp2_with fail
 refine HC.out.mono ?_;rintro e w1 ⟨v1,rfl,c3,Q⟩;obtain⟨A1,c1,f,rfl,d0,o⟩:=c3.open_;have a1:=J d0;have S:=J Q;have U:=J o.out;have e5:=Q.size;clear c3 d0 Q o HC;have T:=J (mj (HV.out.below S.out) O)
 go_wp2_with fail
 refine T.out.mono ?_;rintro e R ⟨v2,rfl,c4,z⟩;obtain⟨A2,c2,a,rfl,d1,o⟩:=c4.open_;have a3:=J d1;have a2:=J (a1.out.below z);have e8:=J (aL S.out z e5);have V:=J o.out;have g2:w.heap.size<=R.heap.size:=Q7 e5 z.size;clear c4 d1 z o T a1;have f3:Hid (aG f=X):=by rw[U.out];exact aW X
 have f4:Hid (aG a=Y):=by rw[V.out];exact aW Y
 have h0:f.length<=1048576:=by rw[U.out];exact g0
 have h3:a.length<=1048576:=by rw[V.out];exact g1
 obtain⟨W,D,d4,b1,g4⟩:=fF R (f.length+a.length) O;have D:=D .i64 .i64;have f2:=J d4;have f0:=J b1;have e7:R.heap.size<W.heap.size:=O
 clear d4 b1 g4;rw[show((f.length+a.length:Nat):Int)=(f.length:Int)+(a.length:Int) by omega]at D
 go_wp2
 clear D
 go_loopw [24] (λi wr=>MulInv R (f.length+a.length) f a i wr) (λi _=>f.length-(intOf i).toNat)
 case atStart=>exact⟨0,List.replicate a.length 0,Rg _,Z,F,kM _,by rw[TW,UH,show a.length+f.length=f.length+a.length by omega];exact f2.out,by simp[lP,aG],f0.out,e7⟩
 case round=>
  obtain⟨k,b,hk,rfl,e3,e1,s,e4,b3,g3⟩:=hrel;have a9:=J s;have a5:=J e4;have g:=J b3;have n:=J e3;have N:=J e1;clear s e4 b3 e3 e1;by_cases q:k<f.length
  ·obtain⟨bx,ox,rfl,h8,b4⟩:=(a2.out.below g.out).digit q;have cx:=b4 k q;have K:=a2.out.lt q;obtain⟨x,hx⟩:∃x,f[k]=x:=⟨_,Z⟩;rw[hx]at cx K;have HX:=J hx;clear b4 hx
   go_wp2
   clear cx
   go_loopw [8,31] (λcr j wi=>MuliInv R (f.length+a.length) k x b f a cr j wi) (λ_ j _=>a.length-(intOf j).toNat)
   case atStart=>
    refine⟨0,0,b.take k,Rg _,Z,Z,O,?_,λd hd=>N.out d (RG hd),?_,by simp[aG],g.out,g3⟩
    ·rw[Rb,n.out];omega
    rw[SB,<-RL,R3];exact a9.out
   case round=>
    rename World=>wi
    obtain⟨m,c,lo,hm,rfl,rfl,hc,d3,d2,e2,c9,b2,e6⟩:=hrel;have l:=J e2;have a0:=J c9;have M:=J b2;have t:=J d3;have a4:=J d2;clear e2 c9 b2 d3 d2;by_cases C:m<a.length
    ·obtain⟨h7,oy,rfl,h9,b5⟩:=(a3.out.below M.out).digit C;have cy:=b5 m C;have L:=a3.out.lt C;obtain⟨y,hy⟩:∃y,a[m]=y:=⟨_,Z⟩;rw[hy]at cy L;have HY:=J hy;have B:k+m<b.length:=by have:=n.out;omega
     obtain⟨h1,h2⟩:=FH (tl:=List.replicate (f.length-k) 0) t.out B;have A:=l.out.cell h1;rw[h2]at A;have f9:=l.out.free (k+m);have G:b[k+m]<4294967296:=N.out _ (R6 B);obtain⟨d,hd⟩:∃d,b[k+m]=d:=⟨_,Z⟩;rw[hd]at A G;have HD:=J (show∃h:k+m<b.length,b[k+m]=d from⟨B,hd⟩);obtain⟨f7,f8⟩:=zZ K L G hc;obtain⟨xy,E⟩:∃xy,x*y=xy:=⟨_,Z⟩;have h6:(x:Int)*(y:Int)=(xy:Int):=by rw[<-E];simp
     rw[E]at f7 f8;have P:=J E;clear b5 hy h1 h2 hd E B
     go_wp2
     go_roundw
     case rel=>exact qL Z q n.out C t.out a4.out l.out a0.out HY.out HD.out M.out e6 (by rw[P.out];omega) (by rw[P.out];omega) O (by rw[P.out];omega)
     case measure=>simp[intOf];omega
    obtain rfl:m=a.length:=O
    have p:k+a.length<(lo++(b.drop (k+a.length)++List.replicate (f.length-k) 0)).length:=by have:=t.out;simp;omega
    have A:=l.out.cell p;have f9:=l.out.free (k+a.length);obtain⟨old,H⟩:∃old,(lo++(b.drop (k+a.length)++List.replicate (f.length-k) 0))[k+a.length]=old:=⟨_,Z⟩;rw[H]at A;clear H p
    go_wp2
    go_roundw
    case rel=>exact tf Z q n.out a5.out HX.out t.out a4.out hc l.out a0.out M.out e6 O O
    case measure=>simp[intOf];omega
  obtain rfl:k=f.length:=O
  have s:OwnN wr R.heap.size (.slice (some ⟨R.heap.size,0,none⟩) (f.length+a.length) (f.length+a.length)) b:=by have:=a9.out;rwa[RW,SW,RP]at this
  obtain⟨h4,h5⟩:=s.isN N.out;have I:aG b=X*Y:=by have h1:=a5.out;rwa[Sa,f3.out,f4.out]at h1
  have HT:=J (qK h4 h5 (by have:=n.out;omega) I);clear s h4 h5 I
  go_wp2_with fail
  refine HT.out.mono ?_;rintro e w5 ⟨v5,rfl,c5,b0⟩;have f1:=J c5;have e9:=J (aL e8.out (aL g.out b0 g.out.size) g2);clear c5 b0
  go_wp2
  go_ret
  exact⟨_,Z,f1.out,e9.out⟩
end Go.Proofs.YtfoejfohbkmmeaaGreatDoor
namespace Go.Proofs.YtfoejfohbkmmeaaGreatDoor
def oh(l:List Nat)(k:Nat)(a:k<=l.length):aG l=aG (l.take k)+4294967296^k*aG (l.drop k):=by
 have h:=fL (l.take k) (l.drop k);rw[R3,Rb,SD a]at h;exact h
def kN(l:List Nat)(k:Nat)(a:k<l.length):aG (l.drop k)=l[k]+4294967296*aG (l.drop (k+1)):=by
 rw[Re a,aG]
def DO(l:List Nat)(k:Nat)(a:k<l.length):aG (l.take (k+1))=aG (l.take k)+4294967296^k*l[k]:=by
 rw[Rz a,fL,Rb,SD O];simp[aG]
def Digs.take{l:List Nat}(h:Digs l)(k:Nat):Digs (l.take k):=λd a=>h d (RG a)
def Digs.drop{l:List Nat}(h:Digs l)(k:Nat):Digs (l.drop k):=λd a=>h d (Sf a)
def Digs.get{l:List Nat}(h:Digs l)(k:Nat)(a:k<l.length):l[k]<4294967296:=h _ (R6 a)
def DP{X V P b c e d f a g r:Nat}(m:X=(a*4294967296+d)*P+f)(o:f<P)(l:V=(b*4294967296+c)*P+e)(n:a=g*b+r)(h:r*4294967296+d<g*c):X<g*V:=by
 have i:a*4294967296+d+1<=g*(b*4294967296+c):=by
  rw[n,RF,R2,<-Ry];omega
 have j:(a*4294967296+d+1)*P<=g*(b*4294967296+c)*P:=RB _ i;have k:g*V=g*(b*4294967296+c)*P+g*e:=by rw[l,RF,Ry]
 rw[k,m];rw[R2 _ 1]at j;omega
def DQ{X V P b c e d o a g r:Nat}(u:X=(a*4294967296+d)*P+o)(k:V=(b*4294967296+c)*P+e)(n:e<P)(m:0<b)(l:a=g*b+r)(h:g*c<=r*4294967296+d)(v:g<4294967296):g<=X/V+1:=by
 have i:g*(b*4294967296+c)<=a*4294967296+d:=by
  rw[l,RF,R2,<-Ry];omega
 have p:g*(b*4294967296+c)*P<=(a*4294967296+d)*P:=RB _ i;have q:g*V=g*(b*4294967296+c)*P+g*e:=by rw[k,RF,Ry]
 have s:g*e<=4294967295*P:=Tq O O;have t:4294967296*P<=(b*4294967296+c)*P:=RB _ O;have f:0<V:=O
 have j:g*V<X+V:=O
 cases g with
 |zero=>exact Rg _
 |succ g=>
  rw[R2,TC]at j;have:g<=X/V:=(UE f).2 O;omega
structure Guess (us vs:List Nat) (n:Nat):Prop where
 n2:2<=n
 lu:us.length=n+1
 lv:vs.length=n
 du:Digs us
 dv:Digs vs
 top:∀h:n-1<vs.length,2147483648<=vs[n-1]
 lt:aG us<4294967296*aG vs
def JN(X V v1 top g r:Nat):Prop:=top=g*v1+r/\r<4294967296/\X/V<=g
def Guess.parts{us vs:List Nat}{n:Nat}(h:Guess us vs n)(s:n<us.length)(t:n-1<us.length)(u:n-2<us.length)(w:n-1<vs.length)(x:n-2<vs.length):
  aG us=((us[n]*4294967296+us[n-1])*4294967296+us[n-2])*4294967296^(n-2)+aG (us.take (n-2))/\aG (us.take (n-2))<4294967296^(n-2)/\
  aG vs=(vs[n-1]*4294967296+vs[n-2])*4294967296^(n-2)+aG (vs.take (n-2))/\aG (vs.take (n-2))<4294967296^(n-2):=by
 have v:=h.n2;have o:=h.lu;have p:=h.lv;have e:=oh us (n-2) O;have q:=kN us (n-2) O;have f:=kN us (n-2+1) O;have a:=kN us (n-2+1+1) O;have g:us.drop (n-2+1+1+1)=[]:=Rc O;have i:=oh vs (n-2) O;have r:=kN vs (n-2) O;have b:=kN vs (n-2+1) O;have j:vs.drop (n-2+1+1)=[]:=Rc O;rw[g,aG]at a;rw[j,aG]at b;have l:us[n-2+1]'O=us[n-1]:=getElem_congr_idx O;have k:us[n-2+1+1]'O=us[n]:=getElem_congr_idx O;have m:vs[n-2+1]'O=vs[n-1]:=getElem_congr_idx O;rw[k]at a;rw[l]at f;rw[m]at b;have c:=cC (us.take (n-2)) (h.du.take _);have d:=cC (vs.take (n-2)) (h.dv.take _);rw[Rb,SD O]at c d;refine⟨?_,c,?_,d⟩
 ·rw[e,Rk (4294967296^(n-2)),SN];congr 2;omega
 rw[i,Rk (4294967296^(n-2)),SN];congr 2;omega
def Guess.first{us vs:List Nat}{n:Nat}(h:Guess us vs n)(c:n<us.length)(j:n-1<vs.length):us[n]<=vs[n-1]:=by
 have o:=h.n2;have f:=h.lu;have g:=h.lv;obtain⟨b,_,l,p⟩:=h.parts c O O j O;have e:=h.lt;have i:=h.dv.get (n-2) O;have d:0<4294967296^(n-2):=Sh I;generalize m:4294967296^(n-2)=P at*;generalize us[n]=u0 at*;generalize us[n-1]'O=u1 at*;generalize us[n-2]'O=u2 at*;generalize vs[n-1]'O=v1 at*;generalize vs[n-2]'O=v2 at*;rcases RE v1 u0 with a|a
 ·exfalso;have k:(v1*4294967296+v2+1)*P<=(u0*4294967296)*P:=RB _ O;have q:4294967296*((u0*4294967296)*P)<=aG us:=by
   rw[b,<-Ry];have:4294967296*(u0*4294967296)*P<=((u0*4294967296+u1)*4294967296+u2)*P:=RB _ O;omega
  rw[R2 _ 1,TC]at k;have:aG vs<(u0*4294967296)*P:=O
  omega
 exact a
def x8{u lo bo:Nat}(e:u<4294967296)(d:lo<4294967296)(c:bo<=1):∃b a:Nat,((u:Int)-lo-bo)%18446744073709551616%4294967296=(b:Int)/\((u:Int)-lo-bo)%18446744073709551616/9223372036854775808=(a:Int)/\b<4294967296/\a<=1/\b+lo+bo=u+a*4294967296:=by
 by_cases h:lo+bo<=u
 ·exact⟨u-lo-bo,0,O,O,O,O,O⟩
 exact⟨u+4294967296-lo-bo,1,O,O,O,O,O⟩
def GT{A V U c bo f d u b e a t lo P:Nat}(h:A+f*V=U+(c+bo)*P)(o:t=f*d+c)(j:t=lo+4294967296*e)(n:b+lo+bo=u+a*4294967296):
  (A+P*b)+f*(V+P*d)=(U+P*u)+(e+a)*(P*4294967296):=by
 have g:b+f*d+c+bo=u+(e+a)*4294967296:=O0
 have k:P*(b+f*d+c+bo)=P*(u+(e+a)*4294967296):=by rw[g]
 have l:P*(b+f*d+c+bo)=P*b+P*(f*d)+(c+bo)*P:=by rw[show b+f*d+c+bo=b+f*d+(c+bo) by omega,RF,RF,Rk P (c+bo)]
 have m:P*(u+(e+a)*4294967296)=P*u+(e+a)*(P*4294967296):=by rw[RF,<-Ry,Rk P (e+a),Ry]
 have i:f*(V+P*d)=f*V+P*(f*d):=by rw[RF,SQ]
 rw[i];omega
def GU{A V U c d u t P:Nat}(h:A+c*P=U+V)(a:t=u+d+c):(A+P*(t%4294967296))+t/4294967296*(P*4294967296)=(U+P*u)+(V+P*d):=by
 have b:P*(t%4294967296)+t/4294967296*(P*4294967296)=P*t:=by
  rw[<-Ry,Rk (t/4294967296) P,Ry,<-RF];congr 1;omega
 have e:P*t=P*u+P*d+c*P:=by rw[a,RF,RF,Rk c P]
 omega
def GV{X V g s:Nat}(a:0<V)(c:X/V<=g)(d:g<=X/V+1)(h:s+g*V=X):g=X/V/\s=X%V:=by
 have b:=Tt X V;have f:=RJ X a;have e:g<=X/V:=(UE a).2 O;obtain rfl:g=X/V:=O
 rw[Rk V]at b;exact⟨Z,O⟩
def GW{X V M g s t k:Nat}(a:0<V)(b:V<=M)(f:X/V<=g)(i:g<=X/V+1)(n:s<M)(h:s+g*V=X+M)(o:t<M)(l:t+k*M=s+V):g=X/V+1/\t=X%V:=by
 have j:=Tt X V;have m:=RJ X a;have c:X<g*V:=O
 have d:g≠X/V:=λe=>by
  rw[e,Rk]at c;omega
 obtain rfl:g=X/V+1:=O
 rw[R2,TC,Rk _ V]at h;have e:t+k*M=X%V+M:=O
 refine⟨Z,?_⟩
 match k with
 |0=>omega
 |1=>omega
 |k+2=>
  exfalso;rw[R2]at e;omega
def shr(n:Nat):List Nat->List Nat
 |[]=>[]
 |d::l=>(d/2^n+l.headD 0%2^n*2^(32-n))::shr n l
def iK(n:Nat):∀l,(shr n l).length=l.length
 |[]=>rfl
 |d::l=>by simp[shr,iK n l]
def uX{n:Nat}(h:n<32):2^n*2^(32-n)=4294967296:=by
 rw[<-SF,show n+(32-n)=32 by omega]
def GX{n:Nat}(h:n<32)(l:List Nat):aG l%2^n=l.headD 0%2^n:=by
 cases l with
 |nil=>simp[aG]
 |cons d l=>
  have e:=uX h;simp only[aG,List.headD_cons];rw[<-e,Ry,TU]
def FI{n:Nat}(h:n<32):∀l,aG (shr n l)=aG l/2^n
 |[]=>by simp[shr,aG]
 |d::l=>by
  have b:0<2^n:=Sh I;have e:=uX h;simp only[shr,aG];rw[FI h l,<-GX h l];generalize aG l=M;rw[<-e,show d+2^n*2^(32-n)*M=d+2^n*(2^(32-n)*M) by rw[Ry],TT _ _ b];have a:=Tt M (2^n);have:2^(32-n)*M=M%2^n*2^(32-n)+2^n*2^(32-n)*(M/2^n):=by
   conv=>lhs;rw[<-a,RF]
   rw[SN,Rk (2^(32-n)) (M%2^n),Rk (2^n) (2^(32-n)),Ry]
  omega
def Bm{n:Nat}(h:n<32):∀l,Digs l->Digs (shr n l)
 |[],_=>λd g=>by simp[shr]at g
 |d::l,hl=>λx a=>by
  have b:0<2^n:=Sh I;have e:=uX h;rcases Ri.1 a with rfl|a
  ·have c:d<4294967296:=hl d (Rw ..);have j:d/2^n<2^(32-n):=by
    rw[Sg b,Rk,e];exact c
   have f:(l.headD 0%2^n+1)*2^(32-n)<=2^n*2^(32-n):=RB _ (RJ _ b);rw[R2,TC,e]at f;omega
  exact Bm h l (λy i=>hl y (RD _ i)) x a
def z6(n:Nat):∀(l:List Nat) (i:Nat) (h:i<l.length) (a:i<(shr n l).length),(shr n l)[i]=l[i]/2^n+(l.drop (i+1)).headD 0%2^n*2^(32-n)
 |d::l,0,_,_=>by simp[shr]
 |d::l,i+1,h,a=>by
  have:=z6 n l i (by simpa using h) (by rw[iK];simpa using h);simpa[shr]using this
def JO{A N c d n P:Nat}(a:n<32)(h:A+c*P=2^n*N):(A+P*(d*2^n%4294967296+c))+d/2^(32-n)*(P*4294967296)=2^n*(N+P*d):=by
 have e:=uX a;have g:0<2^n:=Sh I;have i:d*2^n/4294967296=d/2^(32-n):=by
  rw[<-e,Rk d,Nat.mul_div_mul_left _ _ g]
 have f:=Tt (d*2^n) 4294967296;rw[i]at f;have j:P*(d*2^n%4294967296+c)+d/2^(32-n)*(P*4294967296)=P*(d*2^n)+c*P:=by
  rw[RF,SQ (d/2^(32-n)),Rk (d/2^(32-n)),Rk P c,UN,<-RF];congr 2;omega
 have b:2^n*(N+P*d)=2^n*N+P*(d*2^n):=by
  rw[RF,SQ,Rk (2^n) d]
 rw[b,<-h];omega
def GY{d n:Nat}(a:n<32)(b:d<4294967296):d/2^(32-n)<2^n:=by
 have e:=uX a;rw[Sg (Sh I),e];exact b
def Mx{d n c:Nat}(a:n<32)(g:c<2^n):(d*2^n%4294967296)|||c=d*2^n%4294967296+c/\d*2^n%4294967296+c<4294967296:=by
 have e:=uX a;have i:0<2^n:=Sh I;have h:d*2^n%4294967296=d%2^(32-n)*2^n:=by
  rw[<-e,Rk (2^n),Vl]
 rw[h];have b:d%2^(32-n)+1<=2^(32-n):=RJ _ (Sh I);have f:(d%2^(32-n)+1)*2^n<=2^(32-n)*2^n:=RB _ b;rw[R2,TC,Rk (2^(32-n)),e]at f;refine⟨?_,O⟩;rw[<-Tm,SK g]
