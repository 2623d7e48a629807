import Derived.Test.YtfoejfohbkmmeaaGreatDoorU16
import Derived.Test.YtfoejfohbkmmeaaGreatDoorU00
import Derived.Test.YtfoejfohbkmmeaaGreatDoorU14
import Derived.Deep.QuietTactic
import Derived.BigQuiet
import Derived.Test.YtfoejfohbkmmeaaGreatDoorU13
import Derived.Test.YtfoejfohbkmmeaaGreatDoorU01
import Derived.StillTailTactics
set_option maxRecDepth 100000
set_option maxHeartbeats 8000000
namespace Go.Proofs.YtfoejfohbkmmeaaGreatDoor
open Go.RowKit
open Lib renaming hid→J
theorem jU(a:List Nat)(m k g:Nat)(b:a.length=k):(a++List.replicate (m+1) 0).set k g=(a++[g])++List.replicate m 0:=by
 subst b;rw[NK _ _ (L5 _),M4,N6,Ms,MG];rfl
theorem dO{a:List Nat}{g:Nat}(h:Digs a)(e:g<4294967296):Digs (a++[g]):=fun d c=>by
 rcases My.1 c with b|b
 ·exact h d b
 simp at b;omega
theorem oC{a b:List Nat}(h:Digs a)(f:Digs b):Digs (a++b):=fun d e=>by
 rcases My.1 e with c|c
 ·exact h d c
 exact f d c
theorem OwnN.put{w:World}{base g n a i:Nat}{l:List Nat}(h:OwnN w base (.slice (some ⟨g,0,none⟩) n a) l)(b:n=l.length)(z:Int)(d:Nat)(c:z=(d:Int)):
  OwnN (w.setCell ⟨g,i,none⟩ (.int .u32 z)) base (.slice (some ⟨g,0,none⟩) n a) (l.set i d):=by
 subst c;have e:OwnN w base (.slice (some ⟨g,0,none⟩) l.length a) l:=by rw[<-b];exact h
 have:=e.set (i:=i) d;rw[MU,<-b]at this;exact this
def AddInv(w2:World)(n:Nat)(dx dy:List Nat)(cr i:Value)(wr:World):Prop:=
 ∃(k c:Nat) (out:List Nat),k<=dx.length/\i=.int .i64 k/\cr=.int .u64 c/\c<=1/\out.length=k/\Digs out/\OwnN wr w2.heap.size (.slice (some ⟨w2.heap.size,0,none⟩) n n) (out++List.replicate (n-k) 0)/\aB out+4294967296^k*c=aB (dx.take k)+aB (dy.take k)/\Below w2.heap.size w2 wr/\w2.heap.size<wr.heap.size
theorem EL{a b d:List Nat}{k c nc x y g:Nat}(e:k<b.length)(f:a.length=k)(m:aB a+4294967296^k*c=aB (b.take k)+aB (d.take k))(h:b[k]=x)(i:aB (d.take (k+1))=aB (d.take k)+4294967296^k*y)(j:g+4294967296*nc=x+y+c):
  aB (a++[g])+4294967296^(k+1)*nc=aB (b.take (k+1))+aB (d.take (k+1)):=by
 rw[dm a g k f,cQ b k e,h,i,MM];generalize 4294967296^k=P at*;have l:P*(g+4294967296*nc)=P*(x+y+c):=by rw[j]
 rw[MF,MF,MF]at l;rw[Mu];omega
theorem jV{b wr:World}{n:Nat}{d f a:List Nat}{k c nc x y g:Nat}{z q i:Int}(D:n=d.length+1)(o:k<d.length)(h:a.length=k)(l:Digs a)(m:OwnN wr b.heap.size (.slice (some ⟨b.heap.size,0,none⟩) n n) (a++List.replicate (n-k) 0))
  (w:aB a+4294967296^k*c=aB (d.take k)+aB (f.take k)) (s:d[k]=x) (t:aB (f.take (k+1))=aB (f.take k)+4294967296^k*y) (A:Below b.heap.size b wr) (B:b.heap.size<wr.heap.size) (r:z=(g:Int)) (C:q=(nc:Int)) (u:i=((k+1:Nat):Int)) (v:g+4294967296*nc=x+y+c) (e:g<4294967296) (j:nc<=1):
  AddInv b n d f (.int .u64 q) (.int .i64 i) (wr.setCell ⟨b.heap.size,k,none⟩ (.int .u32 z)):=by
 subst C u;refine⟨k+1,nc,a++[g],o,Z,Z,j,by simp[h],dO l e,?_,EL o h w s t v,A.setCell (p:=⟨b.heap.size,k,none⟩) (L5 _) _,by simpa[World.setCell]using B⟩;have:=m.put (i:=k) (by simp[h];omega) z g r;rw[show n-k=n-(k+1)+1 by omega,jU _ _ _ _ h]at this;exact this
theorem pF(l:List Nat)(k:Nat)(h:l.length<=k):aB (l.take (k+1))=aB (l.take k)+4294967296^k*0:=by
 rw[Me (i:=k+1) (by omega),Me (i:=k) (by omega)];simp
theorem OwnN.isN{w:World}{base n c:Nat}{A:Option Addr}{l:List Nat}(h:OwnN w base (.slice A n c) l)(g:Digs l):IsN w A c l/\n=l.length:=by
 obtain⟨j,i,e,d⟩:=h.is g;injection e with f a b
 subst f b;exact⟨d,a⟩
theorem oD{A:Option Addr}{c n N:Nat}{a:List Nat}{w:World}(h:IsN w A c a)(d:n=a.length)(b:a.length<=1073741823)(e:aB a=N):
  Calls Tryz.prog 193 #[.slice A n c] w (Gives (fun W v=>IsD W v N) w):=by
 subst d e;exact sd A c a w h b
theorem IsN.lt{W:World}{A:Option Addr}{c:Nat}{l:List Nat}(h:IsN W A c l){i:Nat}(a:i<l.length):l[i]<4294967296:=h.ok _ (MY a)
theorem Kj{u v:Value}{X Y:Nat}{w:World}(hu:IsD w u X)(hv:IsD w v Y)(d7:(ay X).length<=1048576)(d5:(ay Y).length<=1048576):Calls Tryz.prog 196 #[u,v] w (Gives (fun W r=>IsD W r (X+Y)) w):=by
 have HC:=J (jT hu (by omega));have HV:=J hv;obtain⟨A0,c0,rfl,_⟩:=hu;obtain⟨B0,e0,rfl,_⟩:=hv
 go_enter Tryz.func196,Tryz.ntmps196
 go_wp2_with fail
 refine HC.out.mono ?_;rintro e w1 ⟨v1,rfl,c4,a5⟩;obtain⟨A1,c1,l,rfl,d3,G⟩:=c4.open_;have b5:=J d3;have c7:=J a5;have b2:=J G.out;have b3:=a5.size;clear c4 d3 a5 G HC;have d1:=J (jT (HV.out.below c7.out) (by omega))
 go_wp2_with fail
 refine d1.out.mono ?_;rintro e U ⟨v2,rfl,d2,V⟩;obtain⟨A2,c2,j,rfl,c3,G⟩:=d2.open_;have T:=J c3;have a0:=J (b5.out.below V);have b1:=J (ak c7.out V b3);have c9:=J G.out;have c5:w.heap.size<=U.heap.size:=L6 b3 V.size;clear d2 c3 V G d1 b5;have d0:Hid (aB l=X):=by rw[b2.out];exact aI X
 have c6:Hid (aB j=Y):=by rw[c9.out];exact aI Y
 have e1:l.length<=1048576:=by rw[b2.out];exact d7
 have e2:j.length<=1048576:=by rw[c9.out];exact d5
 by_cases e3:l.length<j.length
 ·obtain⟨W,o,E,Q,a1⟩:=eF U (j.length+1) (by omega);have o:=o .i64 .i64;have b0:=J E;have a4:=J Q;have P:U.heap.size<W.heap.size:=by omega
  clear E Q a1;rw[show((j.length+1:Nat):Int)=(j.length:Int)+1 by omega]at o
  go_wp2
  clear o
  go_loopw [6,27] (fun cr i wr=>AddInv U (j.length+1) j l cr i wr) (fun _ i _=>j.length-(intOf i).toNat)
  case atStart=>exact⟨0,0,[],Mx _,Z,Z,by omega,Z,fun d hd=>by simp at hd,by simpa using b0.out,by simp[aB],a4.out,P⟩
  case round=>
   obtain⟨k,c,n,hk,rfl,rfl,hc,H,R,S,B,K,I⟩:=hrel;have h:=J S;have HQ:=J B;have f:=J K;have a:=J H;have z:=J R;clear S B K H R;by_cases m:k<j.length
   ·obtain⟨bx,ox,rfl,d9,F⟩:=(T.out.below f.out).digit m;have cx:=F k m;have A:=T.out.lt m;obtain⟨x,hx⟩:∃x,j[k]=x:=⟨_,rfl⟩;rw[hx]at cx A;have HX:=J hx;have a3:=h.out.free k;have t:=h.out.cell (i:=k) (by have:=a.out;simp;omega);obtain⟨old,b⟩:∃old,(n++List.replicate (j.length+1-k) 0)[k]'(by have:=a.out;simp;omega)=old:=⟨_,rfl⟩;rw[b]at t;clear F hx b;by_cases q:k<l.length
    ·obtain⟨d6,oy,rfl,d4,D⟩:=(a0.out.below f.out).digit q;have cy:=D k q;have M:=a0.out.lt q;obtain⟨y,hy⟩:∃y,l[k]=y:=⟨_,rfl⟩;rw[hy]at cy M;have HY:=J (show aB (l.take (k+1))=aB (l.take k)+4294967296^k*y by rw[cQ l k q,hy]);clear D hy
     go_wp2
     go_roundw
     case rel=>exact jV (nc:=(x+c+y)/4294967296) (g:=(x+c+y)%4294967296) Z m a.out z.out h.out HQ.out HX.out HY.out f.out I (by omega) (by omega) (by omega) (by omega) (by omega) (by omega)
     case measure=>simp[intOf];omega
    have HY:=J (pF l k (by omega))
    go_wp2
    go_roundw
    case rel=>exact jV (nc:=(x+c)/4294967296) (g:=(x+c)%4294967296) Z m a.out z.out h.out HQ.out HX.out HY.out f.out I (by omega) (by omega) (by omega) (by omega) (by omega) (by omega)
    case measure=>simp[intOf];omega
   obtain rfl:k=j.length:=by omega
   have a3:=h.out.free j.length;have t:=h.out.cell (i:=j.length) (by have:=a.out;simp;omega);obtain⟨old,b⟩:∃old,(n++List.replicate (j.length+1-j.length) 0)[j.length]'(by have:=a.out;simp;omega)=old:=⟨_,rfl⟩;rw[b]at t;clear b;have h3:=h.out.put (i:=j.length) (by have:=a.out;simp;omega) (c:Int) c Z;rw[show j.length+1-j.length=0+1 by omega,jU _ _ _ _ a.out,NI,MA]at h3;have C:Digs (n++[c]):=dO z.out (by omega);obtain⟨h4,h5⟩:=h3.isN C;have s:aB (n++[c])=X+Y:=by
    have h1:=HQ.out;rw[M9,Me (by omega),c6.out,d0.out]at h1;rw[dm n c j.length a.out];omega
   have HT:=J (oD h4 h5 (by have:=a.out;simp;omega) s);have L:=J (f.out.setCell (p:=⟨U.heap.size,j.length,none⟩) (L5 _) (.int .u32 (c:Int)));clear h3 h4 h5 C s
   go_wp2_with fail
   refine HT.out.mono ?_;rintro e w5 ⟨v5,rfl,O,N⟩;have a9:=J O;have a2:=J (ak b1.out (ak L.out N L.out.size) c5);clear O N
   go_wp2
   go_ret
   exact⟨_,Z,a9.out,a2.out⟩
 obtain⟨W,o,E,Q,a1⟩:=eF U (l.length+1) (by omega);have o:=o .i64 .i64;have b0:=J E;have a4:=J Q;have P:U.heap.size<W.heap.size:=by omega
 clear E Q a1;rw[show((l.length+1:Nat):Int)=(l.length:Int)+1 by omega]at o
 go_wp2
 clear o
 go_loopw [6,27] (fun cr i wr=>AddInv U (l.length+1) l j cr i wr) (fun _ i _=>l.length-(intOf i).toNat)
 case atStart=>exact⟨0,0,[],Mx _,Z,Z,by omega,Z,fun d hd=>by simp at hd,by simpa using b0.out,by simp[aB],a4.out,P⟩
 case round=>
  obtain⟨k,c,n,hk,rfl,rfl,hc,H,R,S,B,K,I⟩:=hrel;have h:=J S;have HQ:=J B;have f:=J K;have a:=J H;have z:=J R;clear S B K H R;by_cases m:k<l.length
  ·obtain⟨bx,ox,rfl,d9,F⟩:=(a0.out.below f.out).digit m;have cx:=F k m;have A:=a0.out.lt m;obtain⟨x,hx⟩:∃x,l[k]=x:=⟨_,rfl⟩;rw[hx]at cx A;have HX:=J hx;have a3:=h.out.free k;have t:=h.out.cell (i:=k) (by have:=a.out;simp;omega);obtain⟨old,b⟩:∃old,(n++List.replicate (l.length+1-k) 0)[k]'(by have:=a.out;simp;omega)=old:=⟨_,rfl⟩;rw[b]at t;clear F hx b;by_cases q:k<j.length
   ·obtain⟨d6,oy,rfl,d4,D⟩:=(T.out.below f.out).digit q;have cy:=D k q;have M:=T.out.lt q;obtain⟨y,hy⟩:∃y,j[k]=y:=⟨_,rfl⟩;rw[hy]at cy M;have HY:=J (show aB (j.take (k+1))=aB (j.take k)+4294967296^k*y by rw[cQ j k q,hy]);clear D hy
    go_wp2
    go_roundw
    case rel=>exact jV (nc:=(x+c+y)/4294967296) (g:=(x+c+y)%4294967296) Z m a.out z.out h.out HQ.out HX.out HY.out f.out I (by omega) (by omega) (by omega) (by omega) (by omega) (by omega)
    case measure=>simp[intOf];omega
   have HY:=J (pF j k (by omega))
   go_wp2
   go_roundw
   case rel=>exact jV (nc:=(x+c)/4294967296) (g:=(x+c)%4294967296) Z m a.out z.out h.out HQ.out HX.out HY.out f.out I (by omega) (by omega) (by omega) (by omega) (by omega) (by omega)
   case measure=>simp[intOf];omega
  obtain rfl:k=l.length:=by omega
  have a3:=h.out.free l.length;have t:=h.out.cell (i:=l.length) (by have:=a.out;simp;omega);obtain⟨old,b⟩:∃old,(n++List.replicate (l.length+1-l.length) 0)[l.length]'(by have:=a.out;simp;omega)=old:=⟨_,rfl⟩;rw[b]at t;clear b;have h3:=h.out.put (i:=l.length) (by have:=a.out;simp;omega) (c:Int) c Z;rw[show l.length+1-l.length=0+1 by omega,jU _ _ _ _ a.out,NI,MA]at h3;have C:Digs (n++[c]):=dO z.out (by omega);obtain⟨h4,h5⟩:=h3.isN C;have s:aB (n++[c])=X+Y:=by
   have h1:=HQ.out;rw[M9,Me (by omega),d0.out,c6.out]at h1;rw[dm n c l.length a.out];omega
  have HT:=J (oD h4 h5 (by have:=a.out;simp;omega) s);have L:=J (f.out.setCell (p:=⟨U.heap.size,l.length,none⟩) (L5 _) (.int .u32 (c:Int)));clear h3 h4 h5 C s
  go_wp2_with fail
  refine HT.out.mono ?_;rintro e w5 ⟨v5,rfl,O,N⟩;have a9:=J O;have a2:=J (ak b1.out (ak L.out N L.out.size) c5);clear O N
  go_wp2
  go_ret
  exact⟨_,Z,a9.out,a2.out⟩
def Ly(X Y:Nat)(W:World)(r:Value):Prop:=(Y<=X->∃v,r=.tuple #[v,.bool true]/\IsD W v (X-Y))/\(X<Y->r=.tuple #[.slice none 0 0,.bool false])
def SbInv(w2:World)(dx dy:List Nat)(br i:Value)(wr:World):Prop:=
 ∃(k b:Nat) (out:List Nat),k<=dx.length/\i=.int .i64 k/\br=.int .u64 b/\b<=1/\out.length=k/\Digs out/\OwnN wr w2.heap.size (.slice (some ⟨w2.heap.size,0,none⟩) dx.length dx.length) (out++List.replicate (dx.length-k) 0)/\aB out+aB (dy.take k)=aB (dx.take k)+4294967296^k*b/\Below w2.heap.size w2 wr/\w2.heap.size<wr.heap.size
theorem lh{d wr:World}{c f a:List Nat}{k b nb x y g:Nat}{z q i:Int}(n:k<c.length)(h:a.length=k)(l:Digs a)(m:OwnN wr d.heap.size (.slice (some ⟨d.heap.size,0,none⟩) c.length c.length) (a++List.replicate (c.length-k) 0))
  (v:aB a+aB (f.take k)=aB (c.take k)+4294967296^k*b) (r:c[k]=x) (s:aB (f.take (k+1))=aB (f.take k)+4294967296^k*y) (w:Below d.heap.size d wr) (A:d.heap.size<wr.heap.size) (o:z=(g:Int)) (B:q=(nb:Int)) (t:i=((k+1:Nat):Int)) (u:g+(b+y)=x+4294967296*nb) (e:g<4294967296) (j:nb<=1):
  SbInv d c f (.int .u64 q) (.int .i64 i) (wr.setCell ⟨d.heap.size,k,none⟩ (.int .u32 z)):=by
 subst B t;refine⟨k+1,nb,a++[g],n,Z,Z,j,by simp[h],dO l e,?_,xd n h v r s u,w.setCell (p:=⟨d.heap.size,k,none⟩) (L5 _) _,by simpa[World.setCell]using A⟩;have:=m.put (i:=k) (by simp[h];omega) z g o;rw[show c.length-k=c.length-(k+1)+1 by omega,jU _ _ _ _ h]at this;exact this
theorem CM{u v:Value}{X Y:Nat}{w:World}(hu:IsD w u X)(hv:IsD w v Y)(e3:(ay X).length<=1048576)(d7:(ay Y).length<=1048576):Calls Tryz.prog 197 #[u,v] w (Gives (Ly X Y) w):=by
 have HC:=J (jT hu (by omega));have HV:=J hv;obtain⟨A0,c0,rfl,_⟩:=hu;obtain⟨B0,e0,rfl,_⟩:=hv
 go_enter Tryz.func197,Tryz.ntmps197
 go_wp2_with fail
 refine HC.out.mono ?_;rintro e w1 ⟨v1,rfl,a2,p⟩;obtain⟨A1,c1,n,rfl,c6,o⟩:=a2.open_;have T:=J c6;have a4:=J p;have t:=J o.out;have R:=p.size;clear a2 c6 p o HC;have c4:=J (jT (HV.out.below a4.out) (by omega))
 go_wp2_with fail
 refine c4.out.mono ?_;rintro e w2 ⟨v2,rfl,c5,B⟩;obtain⟨A2,c2,s,rfl,a1,o⟩:=c5.open_;have M:=J a1;have N:=J (T.out.below B);have d2:=J (ak a4.out B R);have C:=J o.out;have a3:w.heap.size<=w2.heap.size:=L6 R B.size;clear c5 a1 B o c4 T;have e6:Hid (aB n=X):=by rw[t.out];exact aI X
 have d9:Hid (aB s=Y):=by rw[C.out];exact aI Y
 have e7:n.length<=1048576:=by rw[t.out];exact e3
 have e9:s.length<=1048576:=by rw[C.out];exact d7
 have f:(eu (X:Int) (Y:Int)<0)↔X<Y:=by
  rcases OE X Y with h|h|h
  ·rw[iX h];omega
  ·rw[iz h];omega
  rw[iy h];omega
 have K:=J (BJ (N.out.isD t.out) (M.out.isD C.out) (by omega) (by omega));obtain⟨cm,c7⟩:∃cm,eu (X:Int) (Y:Int)=cm:=⟨_,rfl⟩;rw[c7]at K f;clear c7
 go_wp2_with fail
 refine K.out.mono ?_;rintro e O ⟨v3,rfl,d3,r⟩;obtain rfl:=d3;have F:=J (N.out.below r);have I:=J (M.out.below r);have a9:=J (ak d2.out r a3);have d5:w.heap.size<=O.heap.size:=L6 a3 r.size;clear r K N M;by_cases G:X<Y
 ·have e1:cm<0:=f.2 G;clear f
  go_wp2
  go_ret2
  exact⟨_,Z,⟨fun h=>by omega,fun _=>rfl⟩,a9.out⟩
 have e1:¬cm<0:=fun h=>G (f.1 h)
 have d0:Y<=X:=by omega
 clear f;obtain⟨W,L,U,b5,c9⟩:=eF O n.length (by omega);have L:=L .i64 .i64;have e5:=J U;have d6:=J b5;have b3:O.heap.size<W.heap.size:=by omega
 clear U b5 c9
 go_wp2
 clear L
 go_loopw [7,24] (fun br i wr=>SbInv O n s br i wr) (fun _ i _=>n.length-(intOf i).toNat)
 case atStart=>exact⟨0,0,[],Mx _,Z,Z,by omega,Z,fun d hd=>by simp at hd,by simpa using e5.out,by simp[aB],d6.out,b3⟩
 case round=>
  obtain⟨k,b,z,hk,rfl,rfl,hb,a0,c3,q,Q,a5,A⟩:=hrel;have l:=J q;have HQ:=J Q;have a:=J a5;have c:=J a0;have m:=J c3;clear q Q a5 a0 c3;by_cases j:k<n.length
  ·obtain⟨bx,ox,rfl,f3,V⟩:=(F.out.below a.out).digit j;have cx:=V k j;have P:=F.out.lt j;obtain⟨x,hx⟩:∃x,n[k]=x:=⟨_,rfl⟩;rw[hx]at cx P;have HX:=J hx;have f0:=l.out.free k;have d4:=l.out.cell (i:=k) (by have:=c.out;simp;omega);obtain⟨old,H⟩:∃old,(z++List.replicate (n.length-k) 0)[k]'(by have:=c.out;simp;omega)=old:=⟨_,rfl⟩;rw[H]at d4;clear V hx H;by_cases D:k<s.length
   ·obtain⟨f2,oy,rfl,f1,S⟩:=(I.out.below a.out).digit D;have cy:=S k D;have b0:=I.out.lt D;obtain⟨y,hy⟩:∃y,s[k]=y:=⟨_,rfl⟩;rw[hy]at cy b0;have HY:=J (show aB (s.take (k+1))=aB (s.take k)+4294967296^k*y by rw[cQ s k D,hy]);clear S hy;by_cases p:x<b+y
    ·go_wp2
     go_roundw
     case rel=>exact lh (nb:=1) (g:=x+4294967296-(b+y)) j c.out m.out l.out HQ.out HX.out HY.out a.out A (by omega) Z (by omega) (by omega) (by omega) (by omega)
     case measure=>simp[intOf];omega
    go_wp2
    go_roundw
    case rel=>exact lh (nb:=0) (g:=x-(b+y)) j c.out m.out l.out HQ.out HX.out HY.out a.out A (by omega) Z (by omega) (by omega) (by omega) (by omega)
    case measure=>simp[intOf];omega
   have HY:=J (pF s k (by omega));by_cases p:x<b
   ·go_wp2
    go_roundw
    case rel=>exact lh (y:=0) (nb:=1) (g:=x+4294967296-b) j c.out m.out l.out HQ.out HX.out HY.out a.out A (by omega) Z (by omega) (by omega) (by omega) (by omega)
    case measure=>simp[intOf];omega
   go_wp2
   go_roundw
   case rel=>exact lh (y:=0) (nb:=0) (g:=x-b) j c.out m.out l.out HQ.out HX.out HY.out a.out A (by omega) Z (by omega) (by omega) (by omega) (by omega)
   case measure=>simp[intOf];omega
  obtain rfl:k=n.length:=by omega
  have e2:s.length<=n.length:=by rw[t.out,C.out];exact aS d0
  have q:OwnN wr O.heap.size (.slice (some ⟨O.heap.size,0,none⟩) n.length n.length) z:=by have:=l.out;rwa[M4,NI,MA]at this
  obtain⟨h4,h5⟩:=q.isN m.out;have E:aB z=X-Y:=by
   have h1:=HQ.out;rw[Me e2,M9,e6.out,d9.out]at h1;have h2:=b4 z m.out;rw[c.out]at h2;have h3:b=0\/b=1:=by omega
   rcases h3 with rfl|rfl
   ·rw[Oy]at h1;omega
   rw[Oh]at h1;omega
  have HT:=J (oD h4 h5 (by have:=c.out;omega) E);clear q h4 h5 E
  go_wp2_with fail
  refine HT.out.mono ?_;rintro e w5 ⟨v5,rfl,b2,b1⟩;have e4:=J b2;have d1:=J (ak a9.out (ak a.out b1 a.out.size) d5);clear b2 b1
  go_wp2
  go_ret2
  exact⟨_,Z,⟨fun _=>⟨_,Z,e4.out⟩,fun h=>by omega⟩,d1.out⟩
def MulInv(w2:World)(n:Nat)(dx dy:List Nat)(i:Value)(wr:World):Prop:=
 ∃(k:Nat) (out:List Nat),k<=dx.length/\i=.int .i64 k/\out.length=k+dy.length/\Digs out/\OwnN wr w2.heap.size (.slice (some ⟨w2.heap.size,0,none⟩) n n) (out++List.replicate (dx.length-k) 0)/\aB out=aB (dx.take k)*aB dy/\Below w2.heap.size w2 wr/\w2.heap.size<wr.heap.size
def MuliInv(w2:World)(n k x:Nat)(out dx dy:List Nat)(cr j:Value)(wr:World):Prop:=
 ∃(m c:Nat) (lo:List Nat),m<=dy.length/\j=.int .i64 m/\cr=.int .u64 c/\c<4294967296/\lo.length=k+m/\Digs lo/\OwnN wr w2.heap.size (.slice (some ⟨w2.heap.size,0,none⟩) n n) (lo++(out.drop (k+m)++List.replicate (dx.length-k) 0))/\aB lo+4294967296^(k+m)*c=aB (out.take (k+m))+4294967296^k*(x*aB (dy.take m))/\Below w2.heap.size w2 wr/\w2.heap.size<wr.heap.size
theorem CN{lo a b:List Nat}{k m c x y d t:Nat}(h:m<b.length)(f:lo.length=k+m)(e:k+m<a.length)(p:aB lo+4294967296^(k+m)*c=aB (a.take (k+m))+4294967296^k*(x*aB (b.take m)))(i:b[m]=y)(j:a[k+m]=d)(g:t=x*y+d+c):
  aB (lo++[t%4294967296])+4294967296^(k+(m+1))*(t/4294967296)=aB (a.take (k+(m+1)))+4294967296^k*(x*aB (b.take (m+1))):=by
 rw[dm lo _ (k+m) f,show k+(m+1)=k+m+1 by omega,cQ a (k+m) e,j,cQ b m h,i,MM];have o:4294967296^(k+m)*(t%4294967296)+4294967296^(k+m)*4294967296*(t/4294967296)=4294967296^(k+m)*t:=by
  rw[Mu,<-MF,Nat.mod_add_div]
 have l:4294967296^k*(x*(aB (b.take m)+4294967296^m*y))=4294967296^k*(x*aB (b.take m))+4294967296^(k+m)*(x*y):=by
  rw[MF,MF,N2];congr 1;rw[NO x,Mu]
 have n:4294967296^(k+m)*t=4294967296^(k+m)*(x*y)+4294967296^(k+m)*d+4294967296^(k+m)*c:=by
  rw[g,MF,MF]
 omega
theorem EM{lo a:List Nat}{p g:Nat}{tl:List Nat}(b:lo.length=p)(c:p<a.length):(lo++(a.drop p++tl)).set p g=(lo++[g])++(a.drop (p+1)++tl):=by
 subst b;rw[NK _ _ (L5 _),M4,Md c,Ng,Ms,MG];rfl
theorem BK{lo a:List Nat}{p:Nat}{tl:List Nat}(b:lo.length=p)(c:p<a.length):∃h:p<(lo++(a.drop p++tl)).length,(lo++(a.drop p++tl))[p]=a[p]:=by
 subst b;refine⟨by simp;omega,?_⟩;rw[O3 (L5 _),List.getElem_append_left (by simp;omega),OS];simp
theorem oE{b wr:World}{n k x m c y d:Nat}{a g e lo:List Nat}{z q i:Int}(F:n=g.length+e.length)(G:k<g.length)(o:a.length=k+e.length)(t:m<e.length)(f:lo.length=k+m)(j:Digs lo)(r:OwnN wr b.heap.size (.slice (some ⟨b.heap.size,0,none⟩) n n) (lo++(a.drop (k+m)++List.replicate (g.length-k) 0)))
  (B:aB lo+4294967296^(k+m)*c=aB (a.take (k+m))+4294967296^k*(x*aB (e.take m))) (v:e[m]=y) (l:∃h:k+m<a.length,a[k+m]=d) (C:Below b.heap.size b wr) (D:b.heap.size<wr.heap.size) (u:z=(((x*y+d+c)%4294967296:Nat):Int)) (E:q=(((x*y+d+c)/4294967296:Nat):Int)) (w:i=((m+1:Nat):Int)) (A:(x*y+d+c)/4294967296<4294967296):
  MuliInv b n k x a g e (.int .u64 q) (.int .i64 i) (wr.setCell ⟨b.heap.size,k+m,none⟩ (.int .u32 z)):=by
 subst E w;obtain⟨s,l⟩:=l;refine⟨m+1,_,lo++[(x*y+d+c)%4294967296],t,Z,Z,A,by simp[f];omega,dO j (Ni _ (by decide)),?_,CN t f s B v l Z,C.setCell (p:=⟨b.heap.size,k+m,none⟩) (L5 _) _,by simpa[World.setCell]using D⟩;have:=r.put (i:=k+m) (by simp[f,o];omega) z _ u;rw[EM f s]at this;exact this
theorem qe{e wr:World}{n k x c:Nat}{d b a lo:List Nat}{z i:Int}(w:n=b.length+a.length)(l:k<b.length)(r:d.length=k+a.length)(h:aB d=aB (b.take k)*aB a)(t:b[k]=x)(g:lo.length=k+a.length)(j:Digs lo)(s:c<4294967296)(f:OwnN wr e.heap.size (.slice (some ⟨e.heap.size,0,none⟩) n n) (lo++(d.drop (k+a.length)++List.replicate (b.length-k) 0)))
  (m:aB lo+4294967296^(k+a.length)*c=aB (d.take (k+a.length))+4294967296^k*(x*aB (a.take a.length))) (u:Below e.heap.size e wr) (v:e.heap.size<wr.heap.size) (q:z=(c:Int)) (o:i=((k+1:Nat):Int)):
  MulInv e n b a (.int .i64 i) (wr.setCell ⟨e.heap.size,k+a.length,none⟩ (.int .u32 z)):=by
 subst o;rw[Mg (by omega),M6]at f;rw[Me (by omega),M9]at m;refine⟨k+1,lo++[c],l,Z,by simp[g];omega,dO j s,?_,?_,u.setCell (p:=⟨e.heap.size,k+a.length,none⟩) (L5 _) _,by simpa[World.setCell]using v⟩
 ·have:=f.put (i:=k+a.length) (by simp[g];omega) z c q;rw[show b.length-k=b.length-(k+1)+1 by omega,jU _ _ _ _ g]at this;exact this
 rw[dm lo c _ g,m,h,cQ b k l,t,M3,Mu]
theorem vM{x y d c:Nat}(a:x<4294967296)(b:y<4294967296)(e:d<4294967296)(f:c<4294967296):x*y+d+c<18446744073709551616/\x*y<=18446744065119617025:=by
 have h:x*y<=4294967295*4294967295:=NU (by omega) (by omega);omega
theorem GZ{u v:Value}{X Y:Nat}{w:World}(hu:IsD w u X)(hv:IsD w v Y)(f3:(ay X).length<=1048576)(e7:(ay Y).length<=1048576):Calls Tryz.prog 152 #[u,v] w (Gives (fun W r=>IsD W r (X*Y)) w):=by
 have HC:=J (jT hu (by omega));have HV:=J hv;obtain⟨A0,c0,rfl,_⟩:=hu;obtain⟨B0,e0,rfl,_⟩:=hv
 go_enter Tryz.func152,Tryz.ntmps152
 go_wp2_with fail
 refine HC.out.mono ?_;rintro e w1 ⟨v1,rfl,a4,O⟩;obtain⟨A1,c1,f,rfl,d6,q⟩:=a4.open_;have T:=J d6;have b1:=J O;have Q:=J q.out;have R:=O.size;clear a4 d6 O q HC;have d4:=J (jT (HV.out.below b1.out) (by omega))
 go_wp2_with fail
 refine d4.out.mono ?_;rintro e N ⟨v2,rfl,d5,B⟩;obtain⟨A2,c2,a,rfl,a3,q⟩:=d5.open_;have a5:=J a3;have d3:=J (T.out.below B);have e3:=J (ak b1.out B R);have c3:=J q.out;have e9:w.heap.size<=N.heap.size:=L6 R B.size;clear d5 a3 B q d4 T;have f7:Hid (aB f=X):=by rw[Q.out];exact aI X
 have f0:Hid (aB a=Y):=by rw[c3.out];exact aI Y
 have f8:f.length<=1048576:=by rw[Q.out];exact f3
 have g0:a.length<=1048576:=by rw[c3.out];exact e7
 obtain⟨W,A,U,d0,e1⟩:=eF N (f.length+a.length) (by omega);have A:=A .i64 .i64;have f6:=J U;have e5:=J d0;have c9:N.heap.size<W.heap.size:=by omega
 clear U d0 e1;rw[show((f.length+a.length:Nat):Int)=(f.length:Int)+(a.length:Int) by omega]at A
 go_wp2
 clear A
 go_loopw [24] (fun i wr=>MulInv N (f.length+a.length) f a i wr) (fun i _=>f.length-(intOf i).toNat)
 case atStart=>exact⟨0,List.replicate a.length 0,Mx _,Z,by simp,jt _,by rw[O8,Pu,show a.length+f.length=f.length+a.length by omega];exact f6.out,by simp[j8,aB],e5.out,c9⟩
 case round=>
  obtain⟨k,b,hk,rfl,a0,d1,s,b3,b2,f1⟩:=hrel;have b5:=J s;have a2:=J b3;have g:=J b2;have p:=J a0;have M:=J d1;clear s b3 b2 a0 d1;by_cases o:k<f.length
  ·obtain⟨bx,ox,rfl,g3,V⟩:=(d3.out.below g.out).digit o;have cx:=V k o;have F:=d3.out.lt o;obtain⟨x,hx⟩:∃x,f[k]=x:=⟨_,rfl⟩;rw[hx]at cx F;have HX:=J hx;clear V hx
   go_wp2
   clear cx
   go_loopw [8,31] (fun cr j wi=>MuliInv N (f.length+a.length) k x b f a cr j wi) (fun _ j _=>a.length-(intOf j).toNat)
   case atStart=>
    refine⟨0,0,b.take k,Mx _,Z,Z,by omega,?_,fun d hd=>M.out d (MC hd),?_,by simp[aB],g.out,f1⟩
    ·rw[Mf,p.out];omega
    rw[No,<-MG,M8];exact b5.out
   case round=>
    rename World=>wi
    obtain⟨m,c,lo,hm,rfl,rfl,hc,d9,c5,d7,b0,a1,c6⟩:=hrel;have l:=J d7;have d2:=J b0;have L:=J a1;have C:=J d9;have a9:=J c5;clear d7 b0 a1 d9 c5;by_cases E:m<a.length
    ·obtain⟨g2,oy,rfl,g1,S⟩:=(a5.out.below L.out).digit E;have cy:=S m E;have H:=a5.out.lt E;obtain⟨y,hy⟩:∃y,a[m]=y:=⟨_,rfl⟩;rw[hy]at cy H;have HY:=J hy;have D:k+m<b.length:=by have:=p.out;omega
     obtain⟨h1,h2⟩:=BK (tl:=List.replicate (f.length-k) 0) C.out D;have z:=l.out.cell h1;rw[h2]at z;have e4:=l.out.free (k+m);have I:b[k+m]<4294967296:=M.out _ (MY D);obtain⟨d,hd⟩:∃d,b[k+m]=d:=⟨_,rfl⟩;rw[hd]at z I;have HD:=J (show∃h:k+m<b.length,b[k+m]=d from⟨D,hd⟩);obtain⟨e6,f2⟩:=vM F H I hc;obtain⟨xy,t⟩:∃xy,x*y=xy:=⟨_,rfl⟩;have f9:(x:Int)*(y:Int)=(xy:Int):=by rw[<-t];simp
     rw[t]at e6 f2;have P:=J t;clear S hy h1 h2 hd t D
     go_wp2
     go_roundw
     case rel=>exact oE Z o p.out E C.out a9.out l.out d2.out HY.out HD.out L.out c6 (by rw[P.out];omega) (by rw[P.out];omega) (by omega) (by rw[P.out];omega)
     case measure=>simp[intOf];omega
    obtain rfl:m=a.length:=by omega
    have n:k+a.length<(lo++(b.drop (k+a.length)++List.replicate (f.length-k) 0)).length:=by have:=C.out;simp;omega
    have z:=l.out.cell n;have e4:=l.out.free (k+a.length);obtain⟨old,K⟩:∃old,(lo++(b.drop (k+a.length)++List.replicate (f.length-k) 0))[k+a.length]=old:=⟨_,rfl⟩;rw[K]at z;clear K n
    go_wp2
    go_roundw
    case rel=>exact qe Z o p.out a2.out HX.out C.out a9.out hc l.out d2.out L.out c6 (by omega) (by omega)
    case measure=>simp[intOf];omega
  obtain rfl:k=f.length:=by omega
  have s:OwnN wr N.heap.size (.slice (some ⟨N.heap.size,0,none⟩) (f.length+a.length) (f.length+a.length)) b:=by have:=b5.out;rwa[M4,NI,MA]at this
  obtain⟨h4,h5⟩:=s.isN M.out;have G:aB b=X*Y:=by have h1:=a2.out;rwa[M9,f7.out,f0.out]at h1
  have HT:=J (oD h4 h5 (by have:=p.out;omega) G);clear s h4 h5 G
  go_wp2_with fail
  refine HT.out.mono ?_;rintro e w5 ⟨v5,rfl,c7,c4⟩;have f4:=J c7;have e2:=J (ak e3.out (ak g.out c4 g.out.size) e9);clear c7 c4
  go_wp2
  go_ret
  exact⟨_,Z,f4.out,e2.out⟩
theorem zx(A B:Option Addr)(ca cb:Nat)(f a:List Nat)(w:World)(h:IsN w A ca f)(h':IsN w B cb a)(hl:f.length<=1048576)(d4:a.length<=1048576):
  Calls Tryz.prog 158 #[.slice A f.length ca,.slice B a.length cb] w (NatPost (aB f*aB a) w):=by
 have c0:=J h;have V:=J h';clear h h';obtain⟨W,u,Q,b1,c4⟩:=eF w (f.length+a.length) (by omega);have u:=u .i64 .i64;have d3:=J Q;have c9:=J b1;have b0:w.heap.size<W.heap.size:=by omega
 clear Q b1 c4;rw[show((f.length+a.length:Nat):Int)=(f.length:Int)+(a.length:Int) by omega]at u
 go_enter Tryz.func158,Tryz.ntmps158
 go_wp2
 clear u
 go_loopw [6] (fun i wr=>MulInv w (f.length+a.length) f a i wr) (fun i _=>f.length-(intOf i).toNat)
 case atStart=>exact⟨0,List.replicate a.length 0,Mx _,Z,by simp,jt _,by rw[O8,Pu,show a.length+f.length=f.length+a.length by omega];exact d3.out,by simp[j8,aB],c9.out,b0⟩
 case round=>
  obtain⟨k,b,hk,rfl,T,b2,q,a1,a0,K⟩:=hrel;have a2:=J q;have U:=J a1;have H:=J a0;have o:=J T;have I:=J b2;clear q a1 a0 T b2;by_cases n:k<f.length
  ·obtain⟨bx,ox,rfl,b3,R⟩:=c0.out.digit n;have cx:=R k n;have C:=c0.out.lt n;obtain⟨x,hx⟩:∃x,f[k]=x:=⟨_,rfl⟩;rw[hx]at cx C;have HX:=J hx;have CX:=J cx;have d1:=J b3;clear R hx cx b3
   go_wp2
   go_loopw [7,8] (fun cr j wi=>MuliInv w (f.length+a.length) k x b f a cr j wi) (fun _ j _=>a.length-(intOf j).toNat)
   case atStart=>
    refine⟨0,0,b.take k,Mx _,Z,Z,by omega,?_,fun d hd=>I.out d (MC hd),?_,by simp[aB],H.out,K⟩
    ·rw[Mf,o.out];omega
    rw[No,<-MG,M8];exact a2.out
   case round=>
    rename World=>wi
    obtain⟨m,c,lo,hm,rfl,rfl,hc,c2,a5,c1,Y,S,a9⟩:=hrel;have g:=J c1;have b5:=J Y;have s:=J S;have v:=J c2;have X:=J a5;clear c1 Y S c2 a5;by_cases z:m<a.length
    ·obtain⟨d9,oy,rfl,d6,O⟩:=(V.out.below s.out).digit z;have cy:=O m z;have cx:=(s.out.cell (p:=⟨bx,ox+k,none⟩) d1.out).trans CX.out;have E:=V.out.lt z;obtain⟨y,hy⟩:∃y,a[m]=y:=⟨_,rfl⟩;rw[hy]at cy E;have HY:=J hy;have L:k+m<b.length:=by have:=o.out;omega
     obtain⟨h1,h2⟩:=BK (tl:=List.replicate (f.length-k) 0) v.out L;have t:=g.out.cell h1;rw[h2]at t;have c7:=g.out.free (k+m);have F:b[k+m]<4294967296:=I.out _ (MY L);obtain⟨d,hd⟩:∃d,b[k+m]=d:=⟨_,rfl⟩;rw[hd]at t F;have HD:=J (show∃h:k+m<b.length,b[k+m]=d from⟨L,hd⟩);obtain⟨d0,d2⟩:=vM C E F hc;obtain⟨N,r⟩:∃N,x*y=N:=⟨_,rfl⟩;have P:(x:Int)*(y:Int)=(N:Int):=by rw[<-r];simp
     rw[r]at d0 d2;have M:=J r;clear O hy h1 h2 hd r;have q1:IntKind.i64.wrap ((k:Int)+(m:Int))=(k:Int)+(m:Int):=by rw[Ns];omega
     have q2:(0:Int)<=(k:Int)+(m:Int):=by omega
     have q3:((k:Int)+(m:Int)).toNat=k+m:=by omega
     have q4:(k:Int)+(m:Int)<((f.length+a.length:Nat):Int):=by omega
     have q5:IntKind.u64.wrap (d:Int)=(d:Int):=by rw[IntKind.wrap_u64];omega
     have q6:IntKind.u64.wrap (x:Int)=(x:Int):=by rw[IntKind.wrap_u64];omega
     have q7:IntKind.u64.wrap (y:Int)=(y:Int):=by rw[IntKind.wrap_u64];omega
     have q8:IntKind.u64.wrap ((c:Int)+(d:Int))=(c:Int)+(d:Int):=by rw[IntKind.wrap_u64];omega
     have q9:IntKind.u64.wrap ((x:Int)*(y:Int))=(N:Int):=by rw[P,IntKind.wrap_u64];omega
     have e0:IntKind.u64.wrap ((c:Int)+(d:Int)+(N:Int))=(c:Int)+(d:Int)+(N:Int):=by rw[IntKind.wrap_u64];omega
     have d7:(m:Int)<(a.length:Int):=by omega
     have d5:(k:Int)<(f.length:Int):=by omega
     go_wp2
     go_quiet (fail)
     go_wp2
     go_roundw
     case rel=>exact oE Z n o.out z v.out X.out g.out b5.out HY.out HD.out (bh s.out) a9 (by rw[M.out];omega) (by rw[M.out];omega) (by omega) (by rw[M.out];omega)
     case measure=>simp[intOf];omega
    obtain rfl:m=a.length:=by omega
    have l:k+a.length<(lo++(b.drop (k+a.length)++List.replicate (f.length-k) 0)).length:=by have:=v.out;simp;omega
    have t:=g.out.cell l;have c7:=g.out.free (k+a.length);obtain⟨old,G⟩:∃old,(lo++(b.drop (k+a.length)++List.replicate (f.length-k) 0))[k+a.length]=old:=⟨_,rfl⟩;rw[G]at t;clear G l
    go_wp2
    go_roundw
    case rel=>exact qe Z n o.out U.out HX.out v.out X.out hc g.out b5.out s.out a9 (by omega) (by omega)
    case measure=>simp[intOf];omega
  obtain rfl:k=f.length:=by omega
  have q:OwnN wr w.heap.size (.slice (some ⟨w.heap.size,0,none⟩) (f.length+a.length) (f.length+a.length)) b:=by have:=a2.out;rwa[M4,NI,MA]at this
  obtain⟨h4,h5⟩:=q.isN I.out;have D:aB b=aB f*aB a:=by have h1:=U.out;rwa[M9]at h1
  have a3:b.length<=1073741823:=by have:=o.out;omega
  have hT:=dl _ _ b wr h4 a3;rw[D,<-h5]at hT;have HT:=J hT;clear q h4 h5 D hT
  go_wp2_with fail
  refine HT.out.mono ?_;rintro e w5 ⟨v5,rfl,c3,a4⟩;have c6:=J (c3.base_le (PA K));have c5:=J (ak H.out a4 (PA K));clear c3 a4
  go_wp2
  go_ret
  exact⟨v5,Z,c6.out,c5.out⟩
def gS(ta na:Int)(sa:ByteArray)(tb nb:Int)(sb:ByteArray):Int:=yM (eu ta tb) (eu na nb) (Lib.compareBytes sa.data.toList sb.data.toList)
theorem qf(a c:Int)(f:ByteArray)(d nb:Int)(b:ByteArray)(w:World):
  Calls Tryz.prog 124 #[.agg #[.int .i64 a,.int .i64 c,.string f],.agg #[.int .i64 d,.int .i64 nb,.string b]] w fun e w'=>e=.returned (.int .i64 (gS a c f d nb b))/\Below w.heap.size w w':=by
 obtain⟨W,h,i,g,n,k,l,p,q,o⟩:=Lp w 77 (.int .i64 a) (.int .i64 c) (.string f) (.int .i64 d) (.int .i64 nb) (.string b);have j:=J h;clear h;have m:=J g;clear g
 go_enter Tryz.func124,Tryz.ntmps124
 go_wp2
 rw[j.out];refine wp_region_still_tail 15 (by kernel_rfl) (by kernel_rfl) ?_;simp only[N5,Ou,Of,Nx];change wpStill _ _ W.drew _ _ _;iterate 4 still_step
 still_call (Im (zl _ _ _))
 iterate 4 still_step
 still_call (Im (vF _ _ _))
 iterate 4 still_step
 still_call (Tryz.strings_Compare _ _ _)
 refine wpStill_nil ?_
 go_wp2_with (go_at_call 185;refine(IZ _ _ (eu a d) (eu c nb) (Lib.compareBytes f.data.toList b.data.toList) _ (by simp[go_sem]) (by simp[go_sem]) (by simp[go_sem])).mono ?_;rintro e w' ⟨rfl,rfl⟩)
 go_ret
 exact⟨Z,(i.alloc i.size _).drew⟩
def pj(c:UInt8):Bool:=decide (32<=c.toNat/\c.toNat<=126)
def be(t n:Int)(s:ByteArray):Bool:=
 if t=1 then s.data.toList.isEmpty else decide (t=2)&&decide (n=0)&&decide (s.size<=64)&&s.data.toList.all pj
theorem ni(s:ByteArray)(k:Nat)(h:k<s.size):(s.data.toList.take (k+1)).all pj=((s.data.toList.take k).all pj&&pj s[k]):=by
 rw[Mq (by simpa using h),NX];simp;rfl
theorem jW{l:List UInt8}(k:Nat)(h:(l.take k).all pj=false):l.all pj=false:=by
 rw[PO]at h⊢;obtain⟨x,a,b⟩:=h;exact⟨x,MC a,b⟩
theorem CO(n:Int)(s:ByteArray)(w:World):
  Calls Tryz.prog 104 #[.agg #[.int .i64 1,.int .i64 n,.string s]] w fun e w'=>e=.returned (.bool (be 1 n s))/\Below w.heap.size w w':=by
 go_enter Tryz.func104,Tryz.ntmps104
 go_wp2
 go_ret
 exact⟨by simp[be,Lib.toList_data],(Below.refl _ _).alloc (L5 _) _⟩
theorem xj(t n:Int)(s:ByteArray)(w:World)(b:t≠1)(a:t≠2):
  Calls Tryz.prog 104 #[.agg #[.int .i64 t,.int .i64 n,.string s]] w fun e w'=>e=.returned (.bool (be t n s))/\Below w.heap.size w w':=by
 have c:=J (show be t n s=false by simp[be,b,a]);have g:(t==1)=false:=by simpa using b
 have f:(t !=2)=true:=by simpa using a
 have d:(t==2)=false:=by simpa using a
 clear b a
 go_enter Tryz.func104,Tryz.ntmps104
 go_wp2
 go_ret
 exact⟨by rw[c.out];rfl,(Below.refl _ _).alloc (L5 _) _⟩
theorem CP(n:Int)(s:ByteArray)(w:World)(h:n≠0):
  Calls Tryz.prog 104 #[.agg #[.int .i64 2,.int .i64 n,.string s]] w fun e w'=>e=.returned (.bool (be 2 n s))/\Below w.heap.size w w':=by
 have a:=J (show be 2 n s=false by simp[be,h]);have b:(n==0)=false:=by simpa using h
 have c:(n !=0)=true:=by simpa using h
 clear h
 go_enter Tryz.func104,Tryz.ntmps104
 go_wp2
 go_ret
 exact⟨by rw[a.out];rfl,(Below.refl _ _).alloc (L5 _) _⟩
theorem zy(s:ByteArray)(w:World)(h:64<s.size):
  Calls Tryz.prog 104 #[.agg #[.int .i64 2,.int .i64 0,.string s]] w fun e w'=>e=.returned (.bool (be 2 0 s))/\Below w.heap.size w w':=by
 have a:=J (show be 2 0 s=false by simp[be];omega)
 go_enter Tryz.func104,Tryz.ntmps104
 go_wp2
 go_ret
 exact⟨by rw[a.out];rfl,(Below.refl _ _).alloc (L5 _) _⟩
theorem CQ(s:ByteArray)(w:World)(h:s.size<=64):
  Calls Tryz.prog 104 #[.agg #[.int .i64 2,.int .i64 0,.string s]] w fun e w'=>e=.returned (.bool (be 2 0 s))/\Below w.heap.size w w':=by
 have d:=J (show be 2 0 s=s.data.toList.all pj by simp[be,h])
 go_enter Tryz.func104,Tryz.ntmps104
 go_wp2
 go_loop [3] (fun i=>∃k:Nat,k<=s.size/\(s.data.toList.take k).all pj=true/\i=.int .i64 k) (fun i=>s.size-(intOf i).toNat)
 case atStart=>exact⟨0,Mx _,by simp,Z⟩
 case round=>
  obtain⟨k,m,a,rfl⟩:=hrel;have g:=J a;clear a;by_cases f:k<s.size
  ·have c:=J (ni s k f);by_cases j:32<=s[k].toNat
   ·by_cases l:s[k].toNat<=126
    ·have b:=J (show pj s[k]=true by simp[pj,j,l])
     go_wp2
     go_round
     case rel=>exact⟨k+1,by omega,by rw[c.out,g.out,b.out];rfl,by go_num⟩
     case measure=>simp[intOf];omega
    have b:=J (show s.data.toList.all pj=false from jW (k+1) (by rw[c.out];simp[pj,l]))
    go_wp2
    go_ret
    exact⟨by rw[d.out,b.out];rfl,(Below.refl _ _).alloc (L5 _) _⟩
   have b:=J (show s.data.toList.all pj=false from jW (k+1) (by rw[c.out];simp[pj,j]))
   go_wp2
   go_ret
   exact⟨by rw[d.out,b.out];rfl,(Below.refl _ _).alloc (L5 _) _⟩
  have b:=J (show s.data.toList.all pj=true by have:=g.out;rwa[Me (by simp;omega)]at this)
  go_wp2
  go_ret
  exact⟨by rw[d.out,b.out];rfl,(Below.refl _ _).alloc (L5 _) _⟩
theorem eG(t n:Int)(s:ByteArray)(w:World):
  Calls Tryz.prog 104 #[.agg #[.int .i64 t,.int .i64 n,.string s]] w fun e w'=>e=.returned (.bool (be t n s))/\Below w.heap.size w w':=by
 by_cases d:t=1
 ·subst d;exact CO n s w
 by_cases c:t=2
 ·subst c;by_cases b:n=0
  ·subst b;rcases MI 64 s.size with a|a
   ·exact zy s w a
   exact CQ s w a
  exact CP n s w b
 exact xj t n s w d c
end Go.Proofs.YtfoejfohbkmmeaaGreatDoor
