import Derived.Test.YtfoejfohbkmmeaaGreatDoorB15
import Derived.Test.YtfoejfohbkmmeaaGreatDoorB00
import Derived.Test.YtfoejfohbkmmeaaGreatDoorB13
import Derived.Deep.QuietTactic
import Derived.BigQuiet
import Derived.Test.YtfoejfohbkmmeaaGreatDoorB12
set_option maxRecDepth 100000
set_option maxHeartbeats 8000000
namespace Go.Proofs.YtfoejfohbkmmeaaGreatDoor
open Go.RowKit
open Lib renaming hid→J
theorem kx(a:List Nat)(m k g:Nat)(b:a.length=k):(a++List.replicate (m+1) 0).set k g=(a++[g])++List.replicate m 0:=by
 subst b;rw[P5 _ _ (Oh _),Pb,Q2,Qe,O0];rfl
theorem eA{a:List Nat}{g:Nat}(h:Digs a)(e:g<4294967296):Digs (a++[g]):=fun d c=>by
 rcases OZ.1 c with b|b
 ·exact h d b
 simp at b;omega
theorem pq{a b:List Nat}(h:Digs a)(f:Digs b):Digs (a++b):=fun d e=>by
 rcases OZ.1 e with c|c
 ·exact h d c
 exact f d c
theorem OwnN.put{w:World}{base g n a i:Nat}{l:List Nat}(h:OwnN w base (.slice (some ⟨g,0,none⟩) n a) l)(b:n=l.length)(z:Int)(d:Nat)(e:z=(d:Int)):
  OwnN (w.setCell ⟨g,i,none⟩ (.int .u32 z)) base (.slice (some ⟨g,0,none⟩) n a) (l.set i d):=by
 subst e;have c:OwnN w base (.slice (some ⟨g,0,none⟩) l.length a) l:=by rw[<-b];exact h
 have:=c.set (i:=i) d;rw[O4,<-b]at this;exact this
def AddInv(w2:World)(n:Nat)(dx dy:List Nat)(cr i:Value)(wr:World):Prop:=
 ∃(k c:Nat) (out:List Nat),k<=dx.length/\i=.int .i64 k/\cr=.int .u64 c/\c<=1/\out.length=k/\Digs out/\OwnN wr w2.heap.size (.slice (some ⟨w2.heap.size,0,none⟩) n n) (out++List.replicate (n-k) 0)/\aE out+4294967296^k*c=aE (dx.take k)+aE (dy.take k)/\Below w2.heap.size w2 wr/\w2.heap.size<wr.heap.size
theorem GZ{a b d:List Nat}{k c nc x y g:Nat}(h:k<b.length)(e:a.length=k)(m:aE a+4294967296^k*c=aE (b.take k)+aE (d.take k))(i:b[k]=x)(l:aE (d.take (k+1))=aE (d.take k)+4294967296^k*y)(f:g+4294967296*nc=x+y+c):
  aE (a++[g])+4294967296^(k+1)*nc=aE (b.take (k+1))+aE (d.take (k+1)):=by
 rw[dY a g k e,dp b k h,i,l,OO];generalize 4294967296^k=P at*;have j:P*(g+4294967296*nc)=P*(x+y+c):=by rw[f]
 rw[OU,OU,OU]at j;rw[OL];omega
theorem ky{b wr:World}{n:Nat}{e f a:List Nat}{k c nc x y g:Nat}{z q i:Int}(D:n=e.length+1)(o:k<e.length)(h:a.length=k)(m:Digs a)(j:OwnN wr b.heap.size (.slice (some ⟨b.heap.size,0,none⟩) n n) (a++List.replicate (n-k) 0))
  (w:aE a+4294967296^k*c=aE (e.take k)+aE (f.take k)) (s:e[k]=x) (t:aE (f.take (k+1))=aE (f.take k)+4294967296^k*y) (v:Below b.heap.size b wr) (B:b.heap.size<wr.heap.size) (A:z=(g:Int)) (C:q=(nc:Int)) (r:i=((k+1:Nat):Int)) (u:g+4294967296*nc=x+y+c) (d:g<4294967296) (l:nc<=1):
  AddInv b n e f (.int .u64 q) (.int .i64 i) (wr.setCell ⟨b.heap.size,k,none⟩ (.int .u32 z)):=by
 subst C r;refine⟨k+1,nc,a++[g],o,Z,Z,l,by simp[h],eA m d,?_,GZ o h w s t u,v.setCell (p:=⟨b.heap.size,k,none⟩) (Oh _) _,by simpa[World.setCell]using B⟩;have:=j.put (i:=k) (by simp[h];omega) z g A;rw[show n-k=n-(k+1)+1 by omega,kx _ _ _ _ h]at this;exact this
theorem qS(l:List Nat)(k:Nat)(h:l.length<=k):aE (l.take (k+1))=aE (l.take k)+4294967296^k*0:=by
 rw[Oy (i:=k+1) (by omega),Oy (i:=k) (by omega)];simp
theorem OwnN.isN{w:World}{base n c:Nat}{A:Option Addr}{l:List Nat}(h:OwnN w base (.slice A n c) l)(f:Digs l):IsN w A c l/\n=l.length:=by
 obtain⟨i,j,e,a⟩:=h.is f;injection e with g d b
 subst g b;exact⟨a,d⟩
theorem pr{A:Option Addr}{c n N:Nat}{a:List Nat}{w:World}(h:IsN w A c a)(d:n=a.length)(b:a.length<=1073741823)(e:aE a=N):
  Calls Tryz.prog 193 #[.slice A n c] w (gU (fun W v=>IsD W v N) w):=by
 subst d e;exact tz A c a w h b
theorem IsN.lt{W:World}{A:Option Addr}{c:Nat}{l:List Nat}(h:IsN W A c l){i:Nat}(a:i<l.length):l[i]<4294967296:=h.ok _ (Pm a)
theorem NX{u v:Value}{X Y:Nat}{w:World}(hu:IsD w u X)(hv:IsD w v Y)(e3:(az X).length<=1048576)(e1:(az Y).length<=1048576):Calls Tryz.prog 196 #[u,v] w (gU (fun W r=>IsD W r (X+Y)) w):=by
 have HC:=J (li hu (by omega));have HV:=J hv;obtain⟨A0,c0,rfl,_⟩:=hu;obtain⟨B0,e0,rfl,_⟩:=hv
 go_enter Tryz.func196,Tryz.ntmps196
 go_wp2_with fail
 refine HC.out.mono ?_;rintro e w1 ⟨v1,rfl,d0,a9⟩;obtain⟨A1,c1,l,rfl,b3,C⟩:=d0.open_;have b5:=J b3;have b4:=J a9;have c9:=J C.out;have c3:=a9.size;clear d0 b3 a9 C HC;have d2:=J (li (HV.out.below b4.out) (by omega))
 go_wp2_with fail
 refine d2.out.mono ?_;rintro e U ⟨v2,rfl,d4,V⟩;obtain⟨A2,c2,j,rfl,d3,C⟩:=d4.open_;have a0:=J d3;have T:=J (b5.out.below V);have c4:=J (aF b4.out V c3);have c5:=J C.out;have d1:w.heap.size<=U.heap.size:=Oq c3 V.size;clear d4 d3 V C d2 b5;have b1:Hid (aE l=X):=by rw[c9.out];exact aS X
 have b2:Hid (aE j=Y):=by rw[c5.out];exact aS Y
 have e7:l.length<=1048576:=by rw[c9.out];exact e3
 have e6:j.length<=1048576:=by rw[c5.out];exact e1
 by_cases e8:l.length<j.length
 ·obtain⟨W,q,G,R,b0⟩:=fd U (j.length+1) (by omega);have q:=q .i64 .i64;have a1:=J G;have a5:=J R;have O:U.heap.size<W.heap.size:=by omega
  clear G R b0;rw[show((j.length+1:Nat):Int)=(j.length:Int)+1 by omega]at q
  go_wp2
  clear q
  go_loopw [6,27] (fun cr i wr=>AddInv U (j.length+1) j l cr i wr) (fun _ i _=>j.length-(intOf i).toNat)
  case atStart=>exact⟨0,0,[],OA _,Z,Z,by omega,Z,fun d hd=>by simp at hd,by simpa using a1.out,by simp[aE],a5.out,O⟩
  case round=>
   obtain⟨k,c,n,hk,rfl,rfl,hc,Q,S,D,B,M,P⟩:=hrel;have h:=J D;have HQ:=J B;have b:=J M;have a:=J Q;have z:=J S;clear D B M Q S;by_cases m:k<j.length
   ·obtain⟨bx,ox,rfl,e5,E⟩:=(a0.out.below b.out).digit m;have cx:=E k m;have N:=a0.out.lt m;obtain⟨x,hx⟩:∃x,j[k]=x:=⟨_,rfl⟩;rw[hx]at cx N;have HX:=J hx;have a3:=h.out.free k;have t:=h.out.cell (i:=k) (by have:=a.out;simp;omega);obtain⟨old,f⟩:∃old,(n++List.replicate (j.length+1-k) 0)[k]'(by have:=a.out;simp;omega)=old:=⟨_,rfl⟩;rw[f]at t;clear E hx f;by_cases o:k<l.length
    ·obtain⟨e4,oy,rfl,e2,H⟩:=(T.out.below b.out).digit o;have cy:=H k o;have A:=T.out.lt o;obtain⟨y,hy⟩:∃y,l[k]=y:=⟨_,rfl⟩;rw[hy]at cy A;have HY:=J (show aE (l.take (k+1))=aE (l.take k)+4294967296^k*y by rw[dp l k o,hy]);clear H hy
     go_wp2
     go_roundw
     case rel=>exact ky (nc:=(x+c+y)/4294967296) (g:=(x+c+y)%4294967296) Z m a.out z.out h.out HQ.out HX.out HY.out b.out P (by omega) (by omega) (by omega) (by omega) (by omega) (by omega)
     case measure=>simp[intOf];omega
    have HY:=J (qS l k (by omega))
    go_wp2
    go_roundw
    case rel=>exact ky (nc:=(x+c)/4294967296) (g:=(x+c)%4294967296) Z m a.out z.out h.out HQ.out HX.out HY.out b.out P (by omega) (by omega) (by omega) (by omega) (by omega) (by omega)
    case measure=>simp[intOf];omega
   obtain rfl:k=j.length:=by omega
   have a3:=h.out.free j.length;have t:=h.out.cell (i:=j.length) (by have:=a.out;simp;omega);obtain⟨old,f⟩:∃old,(n++List.replicate (j.length+1-j.length) 0)[j.length]'(by have:=a.out;simp;omega)=old:=⟨_,rfl⟩;rw[f]at t;clear f;have h3:=h.out.put (i:=j.length) (by have:=a.out;simp;omega) (c:Int) c Z;rw[show j.length+1-j.length=0+1 by omega,kx _ _ _ _ a.out,P3,O5]at h3;have L:Digs (n++[c]):=eA z.out (by omega);obtain⟨h4,h5⟩:=h3.isN L;have s:aE (n++[c])=X+Y:=by
    have h1:=HQ.out;rw[Pl,Oy (by omega),b2.out,b1.out]at h1;rw[dY n c j.length a.out];omega
   have HT:=J (pr h4 h5 (by have:=a.out;simp;omega) s);have K:=J (b.out.setCell (p:=⟨U.heap.size,j.length,none⟩) (Oh _) (.int .u32 (c:Int)));clear h3 h4 h5 L s
   go_wp2_with fail
   refine HT.out.mono ?_;rintro e w5 ⟨v5,rfl,I,F⟩;have a2:=J I;have a4:=J (aF c4.out (aF K.out F K.out.size) d1);clear I F
   go_wp2
   go_ret
   exact⟨_,Z,a2.out,a4.out⟩
 obtain⟨W,q,G,R,b0⟩:=fd U (l.length+1) (by omega);have q:=q .i64 .i64;have a1:=J G;have a5:=J R;have O:U.heap.size<W.heap.size:=by omega
 clear G R b0;rw[show((l.length+1:Nat):Int)=(l.length:Int)+1 by omega]at q
 go_wp2
 clear q
 go_loopw [6,27] (fun cr i wr=>AddInv U (l.length+1) l j cr i wr) (fun _ i _=>l.length-(intOf i).toNat)
 case atStart=>exact⟨0,0,[],OA _,Z,Z,by omega,Z,fun d hd=>by simp at hd,by simpa using a1.out,by simp[aE],a5.out,O⟩
 case round=>
  obtain⟨k,c,n,hk,rfl,rfl,hc,Q,S,D,B,M,P⟩:=hrel;have h:=J D;have HQ:=J B;have b:=J M;have a:=J Q;have z:=J S;clear D B M Q S;by_cases m:k<l.length
  ·obtain⟨bx,ox,rfl,e5,E⟩:=(T.out.below b.out).digit m;have cx:=E k m;have N:=T.out.lt m;obtain⟨x,hx⟩:∃x,l[k]=x:=⟨_,rfl⟩;rw[hx]at cx N;have HX:=J hx;have a3:=h.out.free k;have t:=h.out.cell (i:=k) (by have:=a.out;simp;omega);obtain⟨old,f⟩:∃old,(n++List.replicate (l.length+1-k) 0)[k]'(by have:=a.out;simp;omega)=old:=⟨_,rfl⟩;rw[f]at t;clear E hx f;by_cases o:k<j.length
   ·obtain⟨e4,oy,rfl,e2,H⟩:=(a0.out.below b.out).digit o;have cy:=H k o;have A:=a0.out.lt o;obtain⟨y,hy⟩:∃y,j[k]=y:=⟨_,rfl⟩;rw[hy]at cy A;have HY:=J (show aE (j.take (k+1))=aE (j.take k)+4294967296^k*y by rw[dp j k o,hy]);clear H hy
    go_wp2
    go_roundw
    case rel=>exact ky (nc:=(x+c+y)/4294967296) (g:=(x+c+y)%4294967296) Z m a.out z.out h.out HQ.out HX.out HY.out b.out P (by omega) (by omega) (by omega) (by omega) (by omega) (by omega)
    case measure=>simp[intOf];omega
   have HY:=J (qS j k (by omega))
   go_wp2
   go_roundw
   case rel=>exact ky (nc:=(x+c)/4294967296) (g:=(x+c)%4294967296) Z m a.out z.out h.out HQ.out HX.out HY.out b.out P (by omega) (by omega) (by omega) (by omega) (by omega) (by omega)
   case measure=>simp[intOf];omega
  obtain rfl:k=l.length:=by omega
  have a3:=h.out.free l.length;have t:=h.out.cell (i:=l.length) (by have:=a.out;simp;omega);obtain⟨old,f⟩:∃old,(n++List.replicate (l.length+1-l.length) 0)[l.length]'(by have:=a.out;simp;omega)=old:=⟨_,rfl⟩;rw[f]at t;clear f;have h3:=h.out.put (i:=l.length) (by have:=a.out;simp;omega) (c:Int) c Z;rw[show l.length+1-l.length=0+1 by omega,kx _ _ _ _ a.out,P3,O5]at h3;have L:Digs (n++[c]):=eA z.out (by omega);obtain⟨h4,h5⟩:=h3.isN L;have s:aE (n++[c])=X+Y:=by
   have h1:=HQ.out;rw[Pl,Oy (by omega),b1.out,b2.out]at h1;rw[dY n c l.length a.out];omega
  have HT:=J (pr h4 h5 (by have:=a.out;simp;omega) s);have K:=J (b.out.setCell (p:=⟨U.heap.size,l.length,none⟩) (Oh _) (.int .u32 (c:Int)));clear h3 h4 h5 L s
  go_wp2_with fail
  refine HT.out.mono ?_;rintro e w5 ⟨v5,rfl,I,F⟩;have a2:=J I;have a4:=J (aF c4.out (aF K.out F K.out.size) d1);clear I F
  go_wp2
  go_ret
  exact⟨_,Z,a2.out,a4.out⟩
def M0(X Y:Nat)(W:World)(r:Value):Prop:=(Y<=X->∃v,r=.tuple #[v,.bool true]/\IsD W v (X-Y))/\(X<Y->r=.tuple #[.slice none 0 0,.bool false])
def SbInv(w2:World)(dx dy:List Nat)(br i:Value)(wr:World):Prop:=
 ∃(k b:Nat) (out:List Nat),k<=dx.length/\i=.int .i64 k/\br=.int .u64 b/\b<=1/\out.length=k/\Digs out/\OwnN wr w2.heap.size (.slice (some ⟨w2.heap.size,0,none⟩) dx.length dx.length) (out++List.replicate (dx.length-k) 0)/\aE out+aE (dy.take k)=aE (dx.take k)+4294967296^k*b/\Below w2.heap.size w2 wr/\w2.heap.size<wr.heap.size
theorem md{d wr:World}{c f a:List Nat}{k b nb x y g:Nat}{z q i:Int}(n:k<c.length)(h:a.length=k)(l:Digs a)(j:OwnN wr d.heap.size (.slice (some ⟨d.heap.size,0,none⟩) c.length c.length) (a++List.replicate (c.length-k) 0))
  (v:aE a+aE (f.take k)=aE (c.take k)+4294967296^k*b) (r:c[k]=x) (s:aE (f.take (k+1))=aE (f.take k)+4294967296^k*y) (u:Below d.heap.size d wr) (A:d.heap.size<wr.heap.size) (w:z=(g:Int)) (B:q=(nb:Int)) (o:i=((k+1:Nat):Int)) (t:g+(b+y)=x+4294967296*nb) (e:g<4294967296) (m:nb<=1):
  SbInv d c f (.int .u64 q) (.int .i64 i) (wr.setCell ⟨d.heap.size,k,none⟩ (.int .u32 z)):=by
 subst B o;refine⟨k+1,nb,a++[g],n,Z,Z,m,by simp[h],eA l e,?_,zb n h v r s t,u.setCell (p:=⟨d.heap.size,k,none⟩) (Oh _) _,by simpa[World.setCell]using A⟩;have:=j.put (i:=k) (by simp[h];omega) z g w;rw[show c.length-k=c.length-(k+1)+1 by omega,kx _ _ _ _ h]at this;exact this
theorem NY{u v:Value}{X Y:Nat}{w:World}(hu:IsD w u X)(hv:IsD w v Y)(e8:(az X).length<=1048576)(d0:(az Y).length<=1048576):Calls Tryz.prog 197 #[u,v] w (gU (M0 X Y) w):=by
 have HC:=J (li hu (by omega));have HV:=J hv;obtain⟨A0,c0,rfl,_⟩:=hu;obtain⟨B0,e0,rfl,_⟩:=hv
 go_enter Tryz.func197,Tryz.ntmps197
 go_wp2_with fail
 refine HC.out.mono ?_;rintro e w1 ⟨v1,rfl,a4,r⟩;obtain⟨A1,c1,n,rfl,Q,o⟩:=a4.open_;have T:=J Q;have S:=J r;have C:=J o.out;have a1:=r.size;clear a4 Q r o HC;have b1:=J (li (HV.out.below S.out) (by omega))
 go_wp2_with fail
 refine b1.out.mono ?_;rintro e w2 ⟨v2,rfl,c9,A⟩;obtain⟨A2,c2,s,rfl,c3,o⟩:=c9.open_;have M:=J c3;have K:=J (T.out.below A);have e2:=J (aF S.out A a1);have B:=J o.out;have b0:w.heap.size<=w2.heap.size:=Oq a1 A.size;clear c9 c3 A o b1 T;have d1:Hid (aE n=X):=by rw[C.out];exact aS X
 have d2:Hid (aE s=Y):=by rw[B.out];exact aS Y
 have f3:n.length<=1048576:=by rw[C.out];exact e8
 have f2:s.length<=1048576:=by rw[B.out];exact d0
 have c:(fz (X:Int) (Y:Int)<0)↔X<Y:=by
  rcases Rf X Y with h|h|h
  ·rw[ku h];omega
  ·rw[mb h];omega
  rw[jv h];omega
 have N:=J (GY (K.out.isD C.out) (M.out.isD B.out) (by omega) (by omega));obtain⟨cm,b5⟩:∃cm,fz (X:Int) (Y:Int)=cm:=⟨_,rfl⟩;rw[b5]at N c;clear b5
 go_wp2_with fail
 refine N.out.mono ?_;rintro e O ⟨v3,rfl,e1,q⟩;obtain rfl:=e1;have I:=J (K.out.below q);have G:=J (M.out.below q);have a5:=J (aF e2.out q b0);have e7:w.heap.size<=O.heap.size:=Oq b0 q.size;clear q N K M;by_cases E:X<Y
 ·have e6:cm<0:=c.2 E;clear c
  go_wp2
  go_ret2
  exact⟨_,Z,⟨fun h=>by omega,fun _=>rfl⟩,a5.out⟩
 have e6:¬cm<0:=fun h=>E (c.1 h)
 have e4:Y<=X:=by omega
 clear c;obtain⟨W,L,a0,c4,f1⟩:=fd O n.length (by omega);have L:=L .i64 .i64;have d3:=J a0;have e9:=J c4;have b3:O.heap.size<W.heap.size:=by omega
 clear a0 c4 f1
 go_wp2
 clear L
 go_loopw [7,24] (fun br i wr=>SbInv O n s br i wr) (fun _ i _=>n.length-(intOf i).toNat)
 case atStart=>exact⟨0,0,[],OA _,Z,Z,by omega,Z,fun d hd=>by simp at hd,by simpa using d3.out,by simp[aE],e9.out,b3⟩
 case round=>
  obtain⟨k,b,z,hk,rfl,rfl,hb,b4,c5,p,R,a9,D⟩:=hrel;have l:=J p;have HQ:=J R;have a:=J a9;have f:=J b4;have m:=J c5;clear p R a9 b4 c5;by_cases j:k<n.length
  ·obtain⟨bx,ox,rfl,f9,U⟩:=(I.out.below a.out).digit j;have cx:=U k j;have b2:=I.out.lt j;obtain⟨x,hx⟩:∃x,n[k]=x:=⟨_,rfl⟩;rw[hx]at cx b2;have HX:=J hx;have f7:=l.out.free k;have f0:=l.out.cell (i:=k) (by have:=f.out;simp;omega);obtain⟨old,H⟩:∃old,(z++List.replicate (n.length-k) 0)[k]'(by have:=f.out;simp;omega)=old:=⟨_,rfl⟩;rw[H]at f0;clear U hx H;by_cases t:k<s.length
   ·obtain⟨f8,oy,rfl,f6,a2⟩:=(G.out.below a.out).digit t;have cy:=a2 k t;have P:=G.out.lt t;obtain⟨y,hy⟩:∃y,s[k]=y:=⟨_,rfl⟩;rw[hy]at cy P;have HY:=J (show aE (s.take (k+1))=aE (s.take k)+4294967296^k*y by rw[dp s k t,hy]);clear a2 hy;by_cases r:x<b+y
    ·go_wp2
     go_roundw
     case rel=>exact md (nb:=1) (g:=x+4294967296-(b+y)) j f.out m.out l.out HQ.out HX.out HY.out a.out D (by omega) Z (by omega) (by omega) (by omega) (by omega)
     case measure=>simp[intOf];omega
    go_wp2
    go_roundw
    case rel=>exact md (nb:=0) (g:=x-(b+y)) j f.out m.out l.out HQ.out HX.out HY.out a.out D (by omega) Z (by omega) (by omega) (by omega) (by omega)
    case measure=>simp[intOf];omega
   have HY:=J (qS s k (by omega));by_cases r:x<b
   ·go_wp2
    go_roundw
    case rel=>exact md (y:=0) (nb:=1) (g:=x+4294967296-b) j f.out m.out l.out HQ.out HX.out HY.out a.out D (by omega) Z (by omega) (by omega) (by omega) (by omega)
    case measure=>simp[intOf];omega
   go_wp2
   go_roundw
   case rel=>exact md (y:=0) (nb:=0) (g:=x-b) j f.out m.out l.out HQ.out HX.out HY.out a.out D (by omega) Z (by omega) (by omega) (by omega) (by omega)
   case measure=>simp[intOf];omega
  obtain rfl:k=n.length:=by omega
  have e5:s.length<=n.length:=by rw[C.out,B.out];exact bi e4
  have p:OwnN wr O.heap.size (.slice (some ⟨O.heap.size,0,none⟩) n.length n.length) z:=by have:=l.out;rwa[Pb,P3,O5]at this
  obtain⟨h4,h5⟩:=p.isN m.out;have F:aE z=X-Y:=by
   have h1:=HQ.out;rw[Oy e5,Pl,d1.out,d2.out]at h1;have h2:=cf z m.out;rw[f.out]at h2;have h3:b=0\/b=1:=by omega
   rcases h3 with rfl|rfl
   ·rw[QN]at h1;omega
   rw[Qc]at h1;omega
  have HT:=J (pr h4 h5 (by have:=f.out;omega) F);clear p h4 h5 F
  go_wp2_with fail
  refine HT.out.mono ?_;rintro e w5 ⟨v5,rfl,a3,V⟩;have d4:=J a3;have e3:=J (aF a5.out (aF a.out V a.out.size) e7);clear a3 V
  go_wp2
  go_ret2
  exact⟨_,Z,⟨fun _=>⟨_,Z,d4.out⟩,fun h=>by omega⟩,e3.out⟩
def MulInv(w2:World)(n:Nat)(dx dy:List Nat)(i:Value)(wr:World):Prop:=
 ∃(k:Nat) (out:List Nat),k<=dx.length/\i=.int .i64 k/\out.length=k+dy.length/\Digs out/\OwnN wr w2.heap.size (.slice (some ⟨w2.heap.size,0,none⟩) n n) (out++List.replicate (dx.length-k) 0)/\aE out=aE (dx.take k)*aE dy/\Below w2.heap.size w2 wr/\w2.heap.size<wr.heap.size
def MuliInv(w2:World)(n k x:Nat)(out dx dy:List Nat)(cr j:Value)(wr:World):Prop:=
 ∃(m c:Nat) (lo:List Nat),m<=dy.length/\j=.int .i64 m/\cr=.int .u64 c/\c<4294967296/\lo.length=k+m/\Digs lo/\OwnN wr w2.heap.size (.slice (some ⟨w2.heap.size,0,none⟩) n n) (lo++(out.drop (k+m)++List.replicate (dx.length-k) 0))/\aE lo+4294967296^(k+m)*c=aE (out.take (k+m))+4294967296^k*(x*aE (dy.take m))/\Below w2.heap.size w2 wr/\w2.heap.size<wr.heap.size
theorem EF{lo a b:List Nat}{k m c x y d t:Nat}(i:m<b.length)(f:lo.length=k+m)(e:k+m<a.length)(l:aE lo+4294967296^(k+m)*c=aE (a.take (k+m))+4294967296^k*(x*aE (b.take m)))(j:b[m]=y)(h:a[k+m]=d)(g:t=x*y+d+c):
  aE (lo++[t%4294967296])+4294967296^(k+(m+1))*(t/4294967296)=aE (a.take (k+(m+1)))+4294967296^k*(x*aE (b.take (m+1))):=by
 rw[dY lo _ (k+m) f,show k+(m+1)=k+m+1 by omega,dp a (k+m) e,h,dp b m i,j,OO];have p:4294967296^(k+m)*(t%4294967296)+4294967296^(k+m)*4294967296*(t/4294967296)=4294967296^(k+m)*t:=by
  rw[OL,<-OU,Nat.mod_add_div]
 have o:4294967296^k*(x*(aE (b.take m)+4294967296^m*y))=4294967296^k*(x*aE (b.take m))+4294967296^(k+m)*(x*y):=by
  rw[OU,OU,PN];congr 1;rw[P1 x,OL]
 have n:4294967296^(k+m)*t=4294967296^(k+m)*(x*y)+4294967296^(k+m)*d+4294967296^(k+m)*c:=by
  rw[g,OU,OU]
 omega
theorem G4{lo a:List Nat}{p g:Nat}{tl:List Nat}(b:lo.length=p)(c:p<a.length):(lo++(a.drop p++tl)).set p g=(lo++[g])++(a.drop (p+1)++tl):=by
 subst b;rw[P5 _ _ (Oh _),Pb,Ow c,PD,Qe,O0];rfl
theorem DF{lo a:List Nat}{p:Nat}{tl:List Nat}(b:lo.length=p)(c:p<a.length):∃h:p<(lo++(a.drop p++tl)).length,(lo++(a.drop p++tl))[p]=a[p]:=by
 subst b;refine⟨by simp;omega,?_⟩;rw[Rq (Oh _),List.getElem_append_left (by simp;omega),Rg];simp
theorem pu{b wr:World}{n k x m c y d:Nat}{a g e lo:List Nat}{z q i:Int}(F:n=g.length+e.length)(G:k<g.length)(l:a.length=k+e.length)(t:m<e.length)(f:lo.length=k+m)(r:Digs lo)(j:OwnN wr b.heap.size (.slice (some ⟨b.heap.size,0,none⟩) n n) (lo++(a.drop (k+m)++List.replicate (g.length-k) 0)))
  (A:aE lo+4294967296^(k+m)*c=aE (a.take (k+m))+4294967296^k*(x*aE (e.take m))) (v:e[m]=y) (o:∃h:k+m<a.length,a[k+m]=d) (w:Below b.heap.size b wr) (D:b.heap.size<wr.heap.size) (B:z=(((x*y+d+c)%4294967296:Nat):Int)) (E:q=(((x*y+d+c)/4294967296:Nat):Int)) (u:i=((m+1:Nat):Int)) (C:(x*y+d+c)/4294967296<4294967296):
  MuliInv b n k x a g e (.int .u64 q) (.int .i64 i) (wr.setCell ⟨b.heap.size,k+m,none⟩ (.int .u32 z)):=by
 subst E u;obtain⟨s,o⟩:=o;refine⟨m+1,_,lo++[(x*y+d+c)%4294967296],t,Z,Z,C,by simp[f];omega,eA r (Pe _ (by decide)),?_,EF t f s A v o Z,w.setCell (p:=⟨b.heap.size,k+m,none⟩) (Oh _) _,by simpa[World.setCell]using D⟩;have:=j.put (i:=k+m) (by simp[f,l];omega) z _ B;rw[G4 f s]at this;exact this
theorem ry{e wr:World}{n k x c:Nat}{b d a lo:List Nat}{z i:Int}(w:n=d.length+a.length)(m:k<d.length)(t:b.length=k+a.length)(h:aE b=aE (d.take k)*aE a)(s:d[k]=x)(g:lo.length=k+a.length)(j:Digs lo)(u:c<4294967296)(f:OwnN wr e.heap.size (.slice (some ⟨e.heap.size,0,none⟩) n n) (lo++(b.drop (k+a.length)++List.replicate (d.length-k) 0)))
  (l:aE lo+4294967296^(k+a.length)*c=aE (b.take (k+a.length))+4294967296^k*(x*aE (a.take a.length))) (r:Below e.heap.size e wr) (v:e.heap.size<wr.heap.size) (q:z=(c:Int)) (o:i=((k+1:Nat):Int)):
  MulInv e n d a (.int .i64 i) (wr.setCell ⟨e.heap.size,k+a.length,none⟩ (.int .u32 z)):=by
 subst o;rw[Ov (by omega),Py]at f;rw[Oy (by omega),Pl]at l;refine⟨k+1,lo++[c],m,Z,by simp[g];omega,eA j u,?_,?_,r.setCell (p:=⟨e.heap.size,k+a.length,none⟩) (Oh _) _,by simpa[World.setCell]using v⟩
 ·have:=f.put (i:=k+a.length) (by simp[g];omega) z c q;rw[show d.length-k=d.length-(k+1)+1 by omega,kx _ _ _ _ g]at this;exact this
 rw[dY lo c _ g,l,h,dp d k m,s,Pf,OL]
theorem xN{x y d c:Nat}(a:x<4294967296)(e:y<4294967296)(f:d<4294967296)(b:c<4294967296):x*y+d+c<18446744073709551616/\x*y<=18446744065119617025:=by
 have h:x*y<=4294967295*4294967295:=Qr (by omega) (by omega);omega
theorem NZ{u v:Value}{X Y:Nat}{w:World}(hu:IsD w u X)(hv:IsD w v Y)(g0:(az X).length<=1048576)(e6:(az Y).length<=1048576):Calls Tryz.prog 152 #[u,v] w (gU (fun W r=>IsD W r (X*Y)) w):=by
 have HC:=J (li hu (by omega));have HV:=J hv;obtain⟨A0,c0,rfl,_⟩:=hu;obtain⟨B0,e0,rfl,_⟩:=hv
 go_enter Tryz.func152,Tryz.ntmps152
 go_wp2_with fail
 refine HC.out.mono ?_;rintro e w1 ⟨v1,rfl,b5,O⟩;obtain⟨A1,c1,f,rfl,R,n⟩:=b5.open_;have V:=J R;have U:=J O;have b4:=J n.out;have a4:=O.size;clear b5 R O n HC;have c9:=J (li (HV.out.below U.out) (by omega))
 go_wp2_with fail
 refine c9.out.mono ?_;rintro e N ⟨v2,rfl,e5,B⟩;obtain⟨A2,c2,a,rfl,e1,n⟩:=e5.open_;have c3:=J e1;have Q:=J (V.out.below B);have f2:=J (aF U.out B a4);have a5:=J n.out;have f8:w.heap.size<=N.heap.size:=Oq a4 B.size;clear e5 e1 B n c9 V;have e7:Hid (aE f=X):=by rw[b4.out];exact aS X
 have e8:Hid (aE a=Y):=by rw[a5.out];exact aS Y
 have h0:f.length<=1048576:=by rw[b4.out];exact g0
 have g3:a.length<=1048576:=by rw[a5.out];exact e6
 obtain⟨W,C,a3,e3,g2⟩:=fd N (f.length+a.length) (by omega);have C:=C .i64 .i64;have e9:=J a3;have g1:=J e3;have d2:N.heap.size<W.heap.size:=by omega
 clear a3 e3 g2;rw[show((f.length+a.length:Nat):Int)=(f.length:Int)+(a.length:Int) by omega]at C
 go_wp2
 clear C
 go_loopw [24] (fun i wr=>MulInv N (f.length+a.length) f a i wr) (fun i _=>f.length-(intOf i).toNat)
 case atStart=>exact⟨0,List.replicate a.length 0,OA _,Z,by simp,jX _,by rw[Q0,RJ,show a.length+f.length=f.length+a.length by omega];exact e9.out,by simp[kL,aE],g1.out,d2⟩
 case round=>
  obtain⟨k,b,hk,rfl,d4,e4,p,e2,c4,f9⟩:=hrel;have d1:=J p;have d3:=J e2;have g:=J c4;have q:=J d4;have P:=J e4;clear p e2 c4 d4 e4;by_cases o:k<f.length
  ·obtain⟨bx,ox,rfl,h7,a0⟩:=(Q.out.below g.out).digit o;have cx:=a0 k o;have I:=Q.out.lt o;obtain⟨x,hx⟩:∃x,f[k]=x:=⟨_,rfl⟩;rw[hx]at cx I;have HX:=J hx;clear a0 hx
   go_wp2
   clear cx
   go_loopw [8,31] (fun cr j wi=>MuliInv N (f.length+a.length) k x b f a cr j wi) (fun _ j _=>a.length-(intOf j).toNat)
   case atStart=>
    refine⟨0,0,b.take k,OA _,Z,Z,by omega,?_,fun d hd=>P.out d (OV hd),?_,by simp[aE],g.out,f9⟩
    ·rw[Ox,q.out];omega
    rw[PI,<-O0,Pz];exact d1.out
   case round=>
    rename World=>wi
    obtain⟨m,c,lo,hm,rfl,rfl,hc,b2,T,a9,b3,S,c5⟩:=hrel;have l:=J a9;have a2:=J b3;have M:=J S;have t:=J b2;have d0:=J T;clear a9 b3 S b2 T;by_cases z:m<a.length
    ·obtain⟨h6,oy,rfl,h3,b0⟩:=(c3.out.below M.out).digit z;have cy:=b0 m z;have F:=c3.out.lt z;obtain⟨y,hy⟩:∃y,a[m]=y:=⟨_,rfl⟩;rw[hy]at cy F;have HY:=J hy;have A:k+m<b.length:=by have:=q.out;omega
     obtain⟨h1,h2⟩:=DF (tl:=List.replicate (f.length-k) 0) t.out A;have E:=l.out.cell h1;rw[h2]at E;have f3:=l.out.free (k+m);have G:b[k+m]<4294967296:=P.out _ (Pm A);obtain⟨d,hd⟩:∃d,b[k+m]=d:=⟨_,rfl⟩;rw[hd]at E G;have HD:=J (show∃h:k+m<b.length,b[k+m]=d from⟨A,hd⟩);obtain⟨f7,f1⟩:=xN I F G hc;obtain⟨xy,D⟩:∃xy,x*y=xy:=⟨_,rfl⟩;have g4:(x:Int)*(y:Int)=(xy:Int):=by rw[<-D];simp
     rw[D]at f7 f1;have L:=J D;clear b0 hy h1 h2 hd D A
     go_wp2
     go_roundw
     case rel=>exact pu Z o q.out z t.out d0.out l.out a2.out HY.out HD.out M.out c5 (by rw[L.out];omega) (by rw[L.out];omega) (by omega) (by rw[L.out];omega)
     case measure=>simp[intOf];omega
    obtain rfl:m=a.length:=by omega
    have s:k+a.length<(lo++(b.drop (k+a.length)++List.replicate (f.length-k) 0)).length:=by have:=t.out;simp;omega
    have E:=l.out.cell s;have f3:=l.out.free (k+a.length);obtain⟨old,K⟩:∃old,(lo++(b.drop (k+a.length)++List.replicate (f.length-k) 0))[k+a.length]=old:=⟨_,rfl⟩;rw[K]at E;clear K s
    go_wp2
    go_roundw
    case rel=>exact ry Z o q.out d3.out HX.out t.out d0.out hc l.out a2.out M.out c5 (by omega) (by omega)
    case measure=>simp[intOf];omega
  obtain rfl:k=f.length:=by omega
  have p:OwnN wr N.heap.size (.slice (some ⟨N.heap.size,0,none⟩) (f.length+a.length) (f.length+a.length)) b:=by have:=d1.out;rwa[Pb,P3,O5]at this
  obtain⟨h4,h5⟩:=p.isN P.out;have H:aE b=X*Y:=by have h1:=d3.out;rwa[Pl,e7.out,e8.out]at h1
  have HT:=J (pr h4 h5 (by have:=q.out;omega) H);clear p h4 h5 H
  go_wp2_with fail
  refine HT.out.mono ?_;rintro e w5 ⟨v5,rfl,b1,a1⟩;have f0:=J b1;have f6:=J (aF f2.out (aF g.out a1 g.out.size) f8);clear b1 a1
  go_wp2
  go_ret
  exact⟨_,Z,f0.out,f6.out⟩
theorem BQ(A B:Option Addr)(ca cb:Nat)(f a:List Nat)(w:World)(h:IsN w A ca f)(h':IsN w B cb a)(hl:f.length<=1048576)(e3:a.length<=1048576):
  Calls Tryz.prog 158 #[.slice A f.length ca,.slice B a.length cb] w (NatPost (aE f*aE a) w):=by
 have O:=J h;have a2:=J h';clear h h';obtain⟨W,u,V,c0,d4⟩:=fd w (f.length+a.length) (by omega);have u:=u .i64 .i64;have c3:=J V;have d3:=J c0;have b2:w.heap.size<W.heap.size:=by omega
 clear V c0 d4;rw[show((f.length+a.length:Nat):Int)=(f.length:Int)+(a.length:Int) by omega]at u
 go_enter Tryz.func158,Tryz.ntmps158
 go_wp2
 clear u
 go_loopw [6] (fun i wr=>MulInv w (f.length+a.length) f a i wr) (fun i _=>f.length-(intOf i).toNat)
 case atStart=>exact⟨0,List.replicate a.length 0,OA _,Z,by simp,jX _,by rw[Q0,RJ,show a.length+f.length=f.length+a.length by omega];exact c3.out,by simp[kL,aE],d3.out,b2⟩
 case round=>
  obtain⟨k,b,hk,rfl,b4,c1,n,b5,a3,L⟩:=hrel;have b1:=J n;have b3:=J b5;have D:=J a3;have o:=J b4;have M:=J c1;clear n b5 a3 b4 c1;by_cases l:k<f.length
  ·obtain⟨bx,ox,rfl,c2,R⟩:=O.out.digit l;have cx:=R k l;have G:=O.out.lt l;obtain⟨x,hx⟩:∃x,f[k]=x:=⟨_,rfl⟩;rw[hx]at cx G;have HX:=J hx;have CX:=J cx;have c4:=J c2;clear R hx cx c2
   go_wp2
   go_loopw [7,8] (fun cr j wi=>MuliInv w (f.length+a.length) k x b f a cr j wi) (fun _ j _=>a.length-(intOf j).toNat)
   case atStart=>
    refine⟨0,0,b.take k,OA _,Z,Z,by omega,?_,fun d hd=>M.out d (OV hd),?_,by simp[aE],D.out,L⟩
    ·rw[Ox,o.out];omega
    rw[PI,<-O0,Pz];exact b1.out
   case round=>
    rename World=>wi
    obtain⟨m,c,lo,hm,rfl,rfl,hc,a0,Q,X,a1,P,a5⟩:=hrel;have g:=J X;have U:=J a1;have t:=J P;have r:=J a0;have a9:=J Q;clear X a1 P a0 Q;by_cases s:m<a.length
    ·obtain⟨e5,oy,rfl,e1,Y⟩:=(a2.out.below t.out).digit s;have cy:=Y m s;have cx:=(t.out.cell (p:=⟨bx,ox+k,none⟩) c4.out).trans CX.out;have C:=a2.out.lt s;obtain⟨y,hy⟩:∃y,a[m]=y:=⟨_,rfl⟩;rw[hy]at cy C;have HY:=J hy;have K:k+m<b.length:=by have:=o.out;omega
     obtain⟨h1,h2⟩:=DF (tl:=List.replicate (f.length-k) 0) r.out K;have z:=g.out.cell h1;rw[h2]at z;have d0:=g.out.free (k+m);have E:b[k+m]<4294967296:=M.out _ (Pm K);obtain⟨d,hd⟩:∃d,b[k+m]=d:=⟨_,rfl⟩;rw[hd]at z E;have HD:=J (show∃h:k+m<b.length,b[k+m]=d from⟨K,hd⟩);obtain⟨d2,c5⟩:=xN G C E hc;obtain⟨N,v⟩:∃N,x*y=N:=⟨_,rfl⟩;have b0:(x:Int)*(y:Int)=(N:Int):=by rw[<-v];simp
     rw[v]at d2 c5;have I:=J v;clear Y hy h1 h2 hd v;have q1:IntKind.i64.wrap ((k:Int)+(m:Int))=(k:Int)+(m:Int):=by rw[Pj];omega
     have q2:(0:Int)<=(k:Int)+(m:Int):=by omega
     have q3:((k:Int)+(m:Int)).toNat=k+m:=by omega
     have q4:(k:Int)+(m:Int)<((f.length+a.length:Nat):Int):=by omega
     have q5:IntKind.u64.wrap (d:Int)=(d:Int):=by rw[IntKind.wrap_u64];omega
     have q6:IntKind.u64.wrap (x:Int)=(x:Int):=by rw[IntKind.wrap_u64];omega
     have q7:IntKind.u64.wrap (y:Int)=(y:Int):=by rw[IntKind.wrap_u64];omega
     have q8:IntKind.u64.wrap ((c:Int)+(d:Int))=(c:Int)+(d:Int):=by rw[IntKind.wrap_u64];omega
     have q9:IntKind.u64.wrap ((x:Int)*(y:Int))=(N:Int):=by rw[b0,IntKind.wrap_u64];omega
     have e4:IntKind.u64.wrap ((c:Int)+(d:Int)+(N:Int))=(c:Int)+(d:Int)+(N:Int):=by rw[IntKind.wrap_u64];omega
     have e0:(m:Int)<(a.length:Int):=by omega
     have e2:(k:Int)<(f.length:Int):=by omega
     go_wp2
     go_quiet (fail)
     go_wp2
     go_roundw
     case rel=>exact pu Z l o.out s r.out a9.out g.out U.out HY.out HD.out (bq t.out) a5 (by rw[I.out];omega) (by rw[I.out];omega) (by omega) (by rw[I.out];omega)
     case measure=>simp[intOf];omega
    obtain rfl:m=a.length:=by omega
    have q:k+a.length<(lo++(b.drop (k+a.length)++List.replicate (f.length-k) 0)).length:=by have:=r.out;simp;omega
    have z:=g.out.cell q;have d0:=g.out.free (k+a.length);obtain⟨old,H⟩:∃old,(lo++(b.drop (k+a.length)++List.replicate (f.length-k) 0))[k+a.length]=old:=⟨_,rfl⟩;rw[H]at z;clear H q
    go_wp2
    go_roundw
    case rel=>exact ry Z l o.out b3.out HX.out r.out a9.out hc g.out U.out t.out a5 (by omega) (by omega)
    case measure=>simp[intOf];omega
  obtain rfl:k=f.length:=by omega
  have n:OwnN wr w.heap.size (.slice (some ⟨w.heap.size,0,none⟩) (f.length+a.length) (f.length+a.length)) b:=by have:=b1.out;rwa[Pb,P3,O5]at this
  obtain⟨h4,h5⟩:=n.isN M.out;have F:aE b=aE f*aE a:=by have h1:=b3.out;rwa[Pl]at h1
  have T:b.length<=1073741823:=by have:=o.out;omega
  have hT:=ep _ _ b wr h4 T;rw[F,<-h5]at hT;have HT:=J hT;clear n h4 h5 F hT
  go_wp2_with fail
  refine HT.out.mono ?_;rintro e w5 ⟨v5,rfl,a4,S⟩;have c9:=J (a4.base_le (SL L));have d1:=J (aF D.out S (SL L));clear a4 S
  go_wp2
  go_ret
  exact⟨v5,Z,c9.out,d1.out⟩
end Go.Proofs.YtfoejfohbkmmeaaGreatDoor
namespace Go.Proofs.YtfoejfohbkmmeaaGreatDoor
theorem nf(l:List Nat)(k:Nat)(a:k<=l.length):aE l=aE (l.take k)+4294967296^k*aE (l.drop k):=by
 have h:=fl (l.take k) (l.drop k);rw[Pz,Ox,PM a]at h;exact h
theorem jY(l:List Nat)(k:Nat)(a:k<l.length):aE (l.drop k)=l[k]+4294967296*aE (l.drop (k+1)):=by
 rw[Ow a,aE]
theorem BR(l:List Nat)(k:Nat)(a:k<l.length):aE (l.take (k+1))=aE (l.take k)+4294967296^k*l[k]:=by
 rw[OM a,fl,Ox,PM (by omega)];simp[aE]
theorem Digs.take{l:List Nat}(h:Digs l)(k:Nat):Digs (l.take k):=fun d a=>h d (OV a)
theorem Digs.drop{l:List Nat}(h:Digs l)(k:Nat):Digs (l.drop k):=fun d a=>h d (Pq a)
theorem Digs.get{l:List Nat}(h:Digs l)(k:Nat)(a:k<l.length):l[k]<4294967296:=h _ (Pm a)
theorem BS{X V P c b e d f a g r:Nat}(n:X=(a*4294967296+d)*P+f)(k:f<P)(m:V=(c*4294967296+b)*P+e)(l:a=g*c+r)(h:r*4294967296+d<g*b):X<g*V:=by
 have i:a*4294967296+d+1<=g*(c*4294967296+b):=by
  rw[l,OU,Pf,<-OL];omega
 have o:(a*4294967296+d+1)*P<=g*(c*4294967296+b)*P:=OT _ i;have j:g*V=g*(c*4294967296+b)*P+g*e:=by rw[m,OU,OL]
 rw[j,n];rw[Pf _ 1]at o;omega
theorem BT{X V P b c e d l a g r:Nat}(v:X=(a*4294967296+d)*P+l)(o:V=(b*4294967296+c)*P+e)(i:e<P)(m:0<b)(j:a=g*b+r)(h:g*c<=r*4294967296+d)(p:g<4294967296):g<=X/V+1:=by
 have n:g*(b*4294967296+c)<=a*4294967296+d:=by
  rw[j,OU,Pf,<-OL];omega
 have t:g*(b*4294967296+c)*P<=(a*4294967296+d)*P:=OT _ n;have u:g*V=g*(b*4294967296+c)*P+g*e:=by rw[o,OU,OL]
 have q:g*e<=4294967295*P:=Qr (by omega) (by omega);have s:4294967296*P<=(b*4294967296+c)*P:=OT _ (by omega);have f:0<V:=by omega
 have k:g*V<X+V:=by omega
 cases g with
 |zero=>exact OA _
 |succ g=>
  rw[Pf,QF]at k;have:g<=X/V:=(RG f).2 (by omega);omega
structure Guess (us vs:List Nat) (n:Nat):Prop where
 n2:2<=n
 lu:us.length=n+1
 lv:vs.length=n
 du:Digs us
 dv:Digs vs
 top:∀h:n-1<vs.length,2147483648<=vs[n-1]
 lt:aE us<4294967296*aE vs
def G5(X V v1 top g r:Nat):Prop:=top=g*v1+r/\r<4294967296/\X/V<=g
theorem Guess.parts{us vs:List Nat}{n:Nat}(h:Guess us vs n)(x:n<us.length)(v:n-1<us.length)(t:n-2<us.length)(u:n-1<vs.length)(q:n-2<vs.length):
  aE us=((us[n]*4294967296+us[n-1])*4294967296+us[n-2])*4294967296^(n-2)+aE (us.take (n-2))/\aE (us.take (n-2))<4294967296^(n-2)/\
  aE vs=(vs[n-1]*4294967296+vs[n-2])*4294967296^(n-2)+aE (vs.take (n-2))/\aE (vs.take (n-2))<4294967296^(n-2):=by
 have r:=h.n2;have k:=h.lu;have o:=h.lv;have i:=nf us (n-2) (by omega);have s:=jY us (n-2) (by omega);have m:=jY us (n-2+1) (by omega);have b:=jY us (n-2+1+1) (by omega);have e:us.drop (n-2+1+1+1)=[]:=Ov (by omega);have f:=nf vs (n-2) (by omega);have w:=jY vs (n-2) (by omega);have a:=jY vs (n-2+1) (by omega);have l:vs.drop (n-2+1+1)=[]:=Ov (by omega);rw[e,aE]at b;rw[l,aE]at a;have g:us[n-2+1]'(by omega)=us[n-1]:=getElem_congr_idx (by omega);have p:us[n-2+1+1]'(by omega)=us[n]:=getElem_congr_idx (by omega);have j:vs[n-2+1]'(by omega)=vs[n-1]:=getElem_congr_idx (by omega);rw[p]at b;rw[g]at m;rw[j]at a;have d:=cf (us.take (n-2)) (h.du.take _);have c:=cf (vs.take (n-2)) (h.dv.take _);rw[Ox,PM (by omega)]at d c;refine⟨?_,d,?_,c⟩
 ·rw[i,OF (4294967296^(n-2)),P0];congr 2;omega
 rw[f,OF (4294967296^(n-2)),P0];congr 2;omega
theorem Guess.first{us vs:List Nat}{n:Nat}(h:Guess us vs n)(f:n<us.length)(b:n-1<vs.length):us[n]<=vs[n-1]:=by
 have q:=h.n2;have k:=h.lu;have g:=h.lv;obtain⟨j,_,o,l⟩:=h.parts f (by omega) (by omega) b (by omega);have e:=h.lt;have d:=h.dv.get (n-2) (by omega);have i:0<4294967296^(n-2):=Pw (by decide);generalize m:4294967296^(n-2)=P at*;generalize us[n]=u0 at*;generalize us[n-1]'(by omega)=u1 at*;generalize us[n-2]'(by omega)=u2 at*;generalize vs[n-1]'(by omega)=v1 at*;generalize vs[n-2]'(by omega)=v2 at*;rcases OS v1 u0 with a|a
 ·exfalso;have c:(v1*4294967296+v2+1)*P<=(u0*4294967296)*P:=OT _ (by omega);have p:4294967296*((u0*4294967296)*P)<=aE us:=by
   rw[j,<-OL];have:4294967296*(u0*4294967296)*P<=((u0*4294967296+u1)*4294967296+u2)*P:=OT _ (by omega);omega
  rw[Pf _ 1,QF]at c;have:aE vs<(u0*4294967296)*P:=by omega
  omega
 exact a
theorem vL{u lo bo:Nat}(e:u<4294967296)(d:lo<4294967296)(c:bo<=1):∃b a:Nat,((u:Int)-lo-bo)%18446744073709551616%4294967296=(b:Int)/\((u:Int)-lo-bo)%18446744073709551616/9223372036854775808=(a:Int)/\b<4294967296/\a<=1/\b+lo+bo=u+a*4294967296:=by
 by_cases h:lo+bo<=u
 ·exact⟨u-lo-bo,0,by omega,by omega,by omega,by omega,by omega⟩
 exact⟨u+4294967296-lo-bo,1,by omega,by omega,by omega,by omega,by omega⟩
theorem EG{A V U c bo f d u b e a t lo P:Nat}(h:A+f*V=U+(c+bo)*P)(m:t=f*d+c)(g:t=lo+4294967296*e)(n:b+lo+bo=u+a*4294967296):
  (A+P*b)+f*(V+P*d)=(U+P*u)+(e+a)*(P*4294967296):=by
 have j:b+f*d+c+bo=u+(e+a)*4294967296:=by omega
 have l:P*(b+f*d+c+bo)=P*(u+(e+a)*4294967296):=by rw[j]
 have k:P*(b+f*d+c+bo)=P*b+P*(f*d)+(c+bo)*P:=by rw[show b+f*d+c+bo=b+f*d+(c+bo) by omega,OU,OU,OF P (c+bo)]
 have o:P*(u+(e+a)*4294967296)=P*u+(e+a)*(P*4294967296):=by rw[OU,<-OL,OF P (e+a),OL]
 have i:f*(V+P*d)=f*V+P*(f*d):=by rw[OU,P1]
 rw[i];omega
theorem EH{A V U c d u t P:Nat}(h:A+c*P=U+V)(a:t=u+d+c):(A+P*(t%4294967296))+t/4294967296*(P*4294967296)=(U+P*u)+(V+P*d):=by
 have b:P*(t%4294967296)+t/4294967296*(P*4294967296)=P*t:=by
  rw[<-OL,OF (t/4294967296) P,OL,<-OU];congr 1;omega
 have e:P*t=P*u+P*d+c*P:=by rw[a,OU,OU,OF c P]
 omega
theorem EI{X V g s:Nat}(a:0<V)(d:X/V<=g)(f:g<=X/V+1)(h:s+g*V=X):g=X/V/\s=X%V:=by
 have b:=Qv X V;have e:=Pe X a;have c:g<=X/V:=(RG a).2 (by omega);obtain rfl:g=X/V:=by omega
 rw[OF V]at b;exact⟨Z,by omega⟩
theorem EJ{X V M g s t k:Nat}(d:0<V)(a:V<=M)(i:X/V<=g)(o:g<=X/V+1)(m:s<M)(h:s+g*V=X+M)(j:t<M)(f:t+k*M=s+V):g=X/V+1/\t=X%V:=by
 have l:=Qv X V;have n:=Pe X d;have b:X<g*V:=by omega
 have c:g≠X/V:=fun e=>by
  rw[e,OF]at b;omega
 obtain rfl:g=X/V+1:=by omega
 rw[Pf,QF,OF _ V]at h;have e:t+k*M=X%V+M:=by omega
 refine⟨Z,?_⟩
 match k with
 |0=>omega
 |1=>omega
 |k+2=>
  exfalso;rw[Pf]at e;omega
def shr(n:Nat):List Nat->List Nat
 |[]=>[]
 |d::l=>(d/2^n+l.headD 0%2^n*2^(32-n))::shr n l
theorem hH(n:Nat):∀l,(shr n l).length=l.length
 |[]=>rfl
 |d::l=>by simp[shr,hH n l]
theorem tA{n:Nat}(h:n<32):2^n*2^(32-n)=4294967296:=by
 rw[<-PN,show n+(32-n)=32 by omega]
theorem EK{n:Nat}(h:n<32)(l:List Nat):aE l%2^n=l.headD 0%2^n:=by
 cases l with
 |nil=>simp[aE]
 |cons d l=>
  have e:=tA h;simp only[aE,List.headD_cons];rw[<-e,OL,QY]
theorem DG{n:Nat}(h:n<32):∀l,aE (shr n l)=aE l/2^n
 |[]=>by simp[shr,aE]
 |d::l=>by
  have b:0<2^n:=Pw (by decide);have e:=tA h;simp only[shr,aE];rw[DG h l,<-EK h l];generalize aE l=M;rw[<-e,show d+2^n*2^(32-n)*M=d+2^n*(2^(32-n)*M) by rw[OL],QX _ _ b];have a:=Qv M (2^n);have:2^(32-n)*M=M%2^n*2^(32-n)+2^n*2^(32-n)*(M/2^n):=by
   conv=>lhs;rw[<-a,OU]
   rw[P0,OF (2^(32-n)) (M%2^n),OF (2^n) (2^(32-n)),OL]
  omega
theorem zi{n:Nat}(h:n<32):∀l,Digs l->Digs (shr n l)
 |[],_=>fun d g=>by simp[shr]at g
 |d::l,hl=>fun x a=>by
  have b:0<2^n:=Pw (by decide);have e:=tA h;rcases OC.1 a with rfl|a
  ·have f:d<4294967296:=hl d (OR ..);have j:d/2^n<2^(32-n):=by
    rw[Pr b,OF,e];exact f
   have c:(l.headD 0%2^n+1)*2^(32-n)<=2^n*2^(32-n):=OT _ (Pe _ b);rw[Pf,QF,e]at c;omega
  exact zi h l (fun y i=>hl y (OX _ i)) x a
theorem xO(n:Nat):∀(l:List Nat) (i:Nat) (h:i<l.length) (a:i<(shr n l).length),(shr n l)[i]=l[i]/2^n+(l.drop (i+1)).headD 0%2^n*2^(32-n)
 |d::l,0,_,_=>by simp[shr]
 |d::l,i+1,h,a=>by
  have:=xO n l i (by simpa using h) (by rw[hH];simpa using h);simpa[shr]using this
theorem G6{A N c d n P:Nat}(a:n<32)(h:A+c*P=2^n*N):(A+P*(d*2^n%4294967296+c))+d/2^(32-n)*(P*4294967296)=2^n*(N+P*d):=by
 have e:=tA a;have b:0<2^n:=Pw (by decide);have i:d*2^n/4294967296=d/2^(32-n):=by
  rw[<-e,OF d,Nat.mul_div_mul_left _ _ b]
 have g:=Qv (d*2^n) 4294967296;rw[i]at g;have j:P*(d*2^n%4294967296+c)+d/2^(32-n)*(P*4294967296)=P*(d*2^n)+c*P:=by
  rw[OU,P1 (d/2^(32-n)),OF (d/2^(32-n)),OF P c,SJ,<-OU];congr 2;omega
 have f:2^n*(N+P*d)=2^n*N+P*(d*2^n):=by
  rw[OU,P1,OF (2^n) d]
 rw[f,<-h];omega
theorem EL{d n:Nat}(a:n<32)(b:d<4294967296):d/2^(32-n)<2^n:=by
 have e:=tA a;rw[Pr (Pw (by decide)),e];exact b
theorem J4{d n c:Nat}(a:n<32)(f:c<2^n):(d*2^n%4294967296)|||c=d*2^n%4294967296+c/\d*2^n%4294967296+c<4294967296:=by
 have e:=tA a;have i:0<2^n:=Pw (by decide);have g:d*2^n%4294967296=d%2^(32-n)*2^n:=by
  rw[<-e,OF (2^n),Su]
 rw[g];have b:d%2^(32-n)+1<=2^(32-n):=Pe _ (Pw (by decide));have h:(d%2^(32-n)+1)*2^n<=2^(32-n)*2^n:=OT _ b;rw[Pf,QF,OF (2^(32-n)),e]at h;refine⟨?_,by omega⟩;rw[<-Qp,PU f]
end Go.Proofs.YtfoejfohbkmmeaaGreatDoor
