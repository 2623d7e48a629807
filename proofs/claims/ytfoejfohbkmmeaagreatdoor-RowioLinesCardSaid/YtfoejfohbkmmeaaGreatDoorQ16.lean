import Derived.Test.YtfoejfohbkmmeaaGreatDoorQ15
import Derived.Test.YtfoejfohbkmmeaaGreatDoorQ00
import Derived.Test.YtfoejfohbkmmeaaGreatDoorQ13
import Derived.Deep.QuietTactic
import Derived.BigQuiet
import Derived.Test.YtfoejfohbkmmeaaGreatDoorQ12
import Derived.Test.YtfoejfohbkmmeaaGreatDoorQ01
import Derived.StillTailTactics
set_option maxRecDepth 100000
set_option maxHeartbeats 8000000
namespace Go.Proofs.YtfoejfohbkmmeaaGreatDoor
open Go.RowKit
open Lib renaming hid→J
theorem jU(a:List Nat)(m k g:Nat)(b:a.length=k):(a++List.replicate (m+1) 0).set k g=(a++[g])++List.replicate m 0:=by
 subst b;rw[NK _ _ (L5 _),M4,N6,Ms,MG];rfl
theorem dO{a:List Nat}{g:Nat}(h:Digs a)(e:g<4294967296):Digs (a++[g]):=fun d c=>by
 rcases My.1 c with b|b
 ·exact h d b
 simp at b;omega
theorem oC{a b:List Nat}(h:Digs a)(e:Digs b):Digs (a++b):=fun d f=>by
 rcases My.1 f with c|c
 ·exact h d c
 exact e d c
theorem OwnN.put{w:World}{base g n a i:Nat}{l:List Nat}(h:OwnN w base (.slice (some ⟨g,0,none⟩) n a) l)(b:n=l.length)(z:Int)(d:Nat)(c:z=(d:Int)):
  OwnN (w.setCell ⟨g,i,none⟩ (.int .u32 z)) base (.slice (some ⟨g,0,none⟩) n a) (l.set i d):=by
 subst c;have e:OwnN w base (.slice (some ⟨g,0,none⟩) l.length a) l:=by rw[<-b];exact h
 have:=e.set (i:=i) d;rw[MU,<-b]at this;exact this
def AddInv(w2:World)(n:Nat)(dx dy:List Nat)(cr i:Value)(wr:World):Prop:=
 ∃(k c:Nat) (out:List Nat),k<=dx.length/\i=.int .i64 k/\cr=.int .u64 c/\c<=1/\out.length=k/\Digs out/\OwnN wr w2.heap.size (.slice (some ⟨w2.heap.size,0,none⟩) n n) (out++List.replicate (n-k) 0)/\aB out+4294967296^k*c=aB (dx.take k)+aB (dy.take k)/\Below w2.heap.size w2 wr/\w2.heap.size<wr.heap.size
theorem EL{a b d:List Nat}{k c nc x y g:Nat}(l:k<b.length)(h:a.length=k)(m:aB a+4294967296^k*c=aB (b.take k)+aB (d.take k))(e:b[k]=x)(i:aB (d.take (k+1))=aB (d.take k)+4294967296^k*y)(j:g+4294967296*nc=x+y+c):
  aB (a++[g])+4294967296^(k+1)*nc=aB (b.take (k+1))+aB (d.take (k+1)):=by
 rw[dm a g k h,cQ b k l,e,i,MM];generalize 4294967296^k=P at*;have f:P*(g+4294967296*nc)=P*(x+y+c):=by rw[j]
 rw[MF,MF,MF]at f;rw[Mu];omega
theorem jV{b wr:World}{n:Nat}{e h a:List Nat}{k c nc x y g:Nat}{z q i:Int}(D:n=e.length+1)(o:k<e.length)(f:a.length=k)(m:Digs a)(j:OwnN wr b.heap.size (.slice (some ⟨b.heap.size,0,none⟩) n n) (a++List.replicate (n-k) 0))
  (A:aB a+4294967296^k*c=aB (e.take k)+aB (h.take k)) (r:e[k]=x) (B:aB (h.take (k+1))=aB (h.take k)+4294967296^k*y) (s:Below b.heap.size b wr) (v:b.heap.size<wr.heap.size) (t:z=(g:Int)) (u:q=(nc:Int)) (C:i=((k+1:Nat):Int)) (w:g+4294967296*nc=x+y+c) (d:g<4294967296) (l:nc<=1):
  AddInv b n e h (.int .u64 q) (.int .i64 i) (wr.setCell ⟨b.heap.size,k,none⟩ (.int .u32 z)):=by
 subst u C;refine⟨k+1,nc,a++[g],o,Z,Z,l,by simp[f],dO m d,?_,EL o f A r B w,s.setCell (p:=⟨b.heap.size,k,none⟩) (L5 _) _,by simpa[World.setCell]using v⟩;have:=j.put (i:=k) (by simp[f];omega) z g t;rw[show n-k=n-(k+1)+1 by omega,jU _ _ _ _ f]at this;exact this
theorem pF(l:List Nat)(k:Nat)(h:l.length<=k):aB (l.take (k+1))=aB (l.take k)+4294967296^k*0:=by
 rw[Me (i:=k+1) (by omega),Me (i:=k) (by omega)];simp
theorem OwnN.isN{w:World}{base n c:Nat}{A:Option Addr}{l:List Nat}(h:OwnN w base (.slice A n c) l)(g:Digs l):IsN w A c l/\n=l.length:=by
 obtain⟨i,j,e,f⟩:=h.is g;injection e with b a d
 subst b d;exact⟨f,a⟩
theorem oD{A:Option Addr}{c n N:Nat}{a:List Nat}{w:World}(h:IsN w A c a)(b:n=a.length)(e:a.length<=1073741823)(d:aB a=N):
  Calls Tryz.prog 193 #[.slice A n c] w (Gives (fun W v=>IsD W v N) w):=by
 subst b d;exact sd A c a w h e
theorem IsN.lt{W:World}{A:Option Addr}{c:Nat}{l:List Nat}(h:IsN W A c l){i:Nat}(a:i<l.length):l[i]<4294967296:=h.ok _ (MY a)
theorem Kj{u v:Value}{X Y:Nat}{w:World}(hu:IsD w u X)(hv:IsD w v Y)(d4:(ay X).length<=1048576)(d7:(ay Y).length<=1048576):Calls Tryz.prog 196 #[u,v] w (Gives (fun W r=>IsD W r (X+Y)) w):=by
 have HC:=J (jT hu (by omega));have HV:=J hv;obtain⟨A0,c0,rfl,_⟩:=hu;obtain⟨B0,e0,rfl,_⟩:=hv
 go_enter Tryz.func196,Tryz.ntmps196
 go_wp2_with fail
 refine HC.out.mono ?_;rintro e w1 ⟨v1,rfl,c6,a4⟩;obtain⟨A1,c1,j,rfl,c3,M⟩:=c6.open_;have c4:=J c3;have d3:=J a4;have c5:=J M.out;have c7:=a4.size;clear c6 c3 a4 M HC;have b2:=J (jT (HV.out.below d3.out) (by omega))
 go_wp2_with fail
 refine b2.out.mono ?_;rintro e U ⟨v2,rfl,d1,V⟩;obtain⟨A2,c2,l,rfl,c9,M⟩:=d1.open_;have a0:=J c9;have T:=J (c4.out.below V);have d0:=J (ak d3.out V c7);have d2:=J M.out;have b1:w.heap.size<=U.heap.size:=L6 c7 V.size;clear d1 c9 V M b2 c4;have b5:Hid (aB j=X):=by rw[c5.out];exact aI X
 have b3:Hid (aB l=Y):=by rw[d2.out];exact aI Y
 have e1:j.length<=1048576:=by rw[c5.out];exact d4
 have e2:l.length<=1048576:=by rw[d2.out];exact d7
 by_cases e3:j.length<l.length
 ·obtain⟨W,q,B,C,a5⟩:=eF U (l.length+1) (by omega);have q:=q .i64 .i64;have a3:=J B;have a1:=J C;have O:U.heap.size<W.heap.size:=by omega
  clear B C a5;rw[show((l.length+1:Nat):Int)=(l.length:Int)+1 by omega]at q
  go_wp2
  clear q
  go_loopw [6,27] (fun cr i wr=>AddInv U (l.length+1) l j cr i wr) (fun _ i _=>l.length-(intOf i).toNat)
  case atStart=>exact⟨0,0,[],Mx _,Z,Z,by omega,Z,fun d hd=>by simp at hd,by simpa using a3.out,by simp[aB],a1.out,O⟩
  case round=>
   obtain⟨k,c,n,hk,rfl,rfl,hc,E,N,K,Q,L,G⟩:=hrel;have h:=J K;have HQ:=J Q;have f:=J L;have a:=J E;have t:=J N;clear K Q L E N;by_cases m:k<l.length
   ·obtain⟨bx,ox,rfl,d9,F⟩:=(a0.out.below f.out).digit m;have cx:=F k m;have H:=a0.out.lt m;obtain⟨x,hx⟩:∃x,l[k]=x:=⟨_,rfl⟩;rw[hx]at cx H;have HX:=J hx;have a9:=h.out.free k;have z:=h.out.cell (i:=k) (by have:=a.out;simp;omega);obtain⟨old,b⟩:∃old,(n++List.replicate (l.length+1-k) 0)[k]'(by have:=a.out;simp;omega)=old:=⟨_,rfl⟩;rw[b]at z;clear F hx b;by_cases o:k<j.length
    ·obtain⟨d6,oy,rfl,d5,P⟩:=(T.out.below f.out).digit o;have cy:=P k o;have R:=T.out.lt o;obtain⟨y,hy⟩:∃y,j[k]=y:=⟨_,rfl⟩;rw[hy]at cy R;have HY:=J (show aB (j.take (k+1))=aB (j.take k)+4294967296^k*y by rw[cQ j k o,hy]);clear P hy
     go_wp2
     go_roundw
     case rel=>exact jV (nc:=(x+c+y)/4294967296) (g:=(x+c+y)%4294967296) Z m a.out t.out h.out HQ.out HX.out HY.out f.out G (by omega) (by omega) (by omega) (by omega) (by omega) (by omega)
     case measure=>simp[intOf];omega
    have HY:=J (pF j k (by omega))
    go_wp2
    go_roundw
    case rel=>exact jV (nc:=(x+c)/4294967296) (g:=(x+c)%4294967296) Z m a.out t.out h.out HQ.out HX.out HY.out f.out G (by omega) (by omega) (by omega) (by omega) (by omega) (by omega)
    case measure=>simp[intOf];omega
   obtain rfl:k=l.length:=by omega
   have a9:=h.out.free l.length;have z:=h.out.cell (i:=l.length) (by have:=a.out;simp;omega);obtain⟨old,b⟩:∃old,(n++List.replicate (l.length+1-l.length) 0)[l.length]'(by have:=a.out;simp;omega)=old:=⟨_,rfl⟩;rw[b]at z;clear b;have h3:=h.out.put (i:=l.length) (by have:=a.out;simp;omega) (c:Int) c Z;rw[show l.length+1-l.length=0+1 by omega,jU _ _ _ _ a.out,NI,MA]at h3;have I:Digs (n++[c]):=dO t.out (by omega);obtain⟨h4,h5⟩:=h3.isN I;have s:aB (n++[c])=X+Y:=by
    have h1:=HQ.out;rw[M9,Me (by omega),b3.out,b5.out]at h1;rw[dm n c l.length a.out];omega
   have HT:=J (oD h4 h5 (by have:=a.out;simp;omega) s);have D:=J (f.out.setCell (p:=⟨U.heap.size,l.length,none⟩) (L5 _) (.int .u32 (c:Int)));clear h3 h4 h5 I s
   go_wp2_with fail
   refine HT.out.mono ?_;rintro e w5 ⟨v5,rfl,S,A⟩;have a2:=J S;have b0:=J (ak d0.out (ak D.out A D.out.size) b1);clear S A
   go_wp2
   go_ret
   exact⟨_,Z,a2.out,b0.out⟩
 obtain⟨W,q,B,C,a5⟩:=eF U (j.length+1) (by omega);have q:=q .i64 .i64;have a3:=J B;have a1:=J C;have O:U.heap.size<W.heap.size:=by omega
 clear B C a5;rw[show((j.length+1:Nat):Int)=(j.length:Int)+1 by omega]at q
 go_wp2
 clear q
 go_loopw [6,27] (fun cr i wr=>AddInv U (j.length+1) j l cr i wr) (fun _ i _=>j.length-(intOf i).toNat)
 case atStart=>exact⟨0,0,[],Mx _,Z,Z,by omega,Z,fun d hd=>by simp at hd,by simpa using a3.out,by simp[aB],a1.out,O⟩
 case round=>
  obtain⟨k,c,n,hk,rfl,rfl,hc,E,N,K,Q,L,G⟩:=hrel;have h:=J K;have HQ:=J Q;have f:=J L;have a:=J E;have t:=J N;clear K Q L E N;by_cases m:k<j.length
  ·obtain⟨bx,ox,rfl,d9,F⟩:=(T.out.below f.out).digit m;have cx:=F k m;have H:=T.out.lt m;obtain⟨x,hx⟩:∃x,j[k]=x:=⟨_,rfl⟩;rw[hx]at cx H;have HX:=J hx;have a9:=h.out.free k;have z:=h.out.cell (i:=k) (by have:=a.out;simp;omega);obtain⟨old,b⟩:∃old,(n++List.replicate (j.length+1-k) 0)[k]'(by have:=a.out;simp;omega)=old:=⟨_,rfl⟩;rw[b]at z;clear F hx b;by_cases o:k<l.length
   ·obtain⟨d6,oy,rfl,d5,P⟩:=(a0.out.below f.out).digit o;have cy:=P k o;have R:=a0.out.lt o;obtain⟨y,hy⟩:∃y,l[k]=y:=⟨_,rfl⟩;rw[hy]at cy R;have HY:=J (show aB (l.take (k+1))=aB (l.take k)+4294967296^k*y by rw[cQ l k o,hy]);clear P hy
    go_wp2
    go_roundw
    case rel=>exact jV (nc:=(x+c+y)/4294967296) (g:=(x+c+y)%4294967296) Z m a.out t.out h.out HQ.out HX.out HY.out f.out G (by omega) (by omega) (by omega) (by omega) (by omega) (by omega)
    case measure=>simp[intOf];omega
   have HY:=J (pF l k (by omega))
   go_wp2
   go_roundw
   case rel=>exact jV (nc:=(x+c)/4294967296) (g:=(x+c)%4294967296) Z m a.out t.out h.out HQ.out HX.out HY.out f.out G (by omega) (by omega) (by omega) (by omega) (by omega) (by omega)
   case measure=>simp[intOf];omega
  obtain rfl:k=j.length:=by omega
  have a9:=h.out.free j.length;have z:=h.out.cell (i:=j.length) (by have:=a.out;simp;omega);obtain⟨old,b⟩:∃old,(n++List.replicate (j.length+1-j.length) 0)[j.length]'(by have:=a.out;simp;omega)=old:=⟨_,rfl⟩;rw[b]at z;clear b;have h3:=h.out.put (i:=j.length) (by have:=a.out;simp;omega) (c:Int) c Z;rw[show j.length+1-j.length=0+1 by omega,jU _ _ _ _ a.out,NI,MA]at h3;have I:Digs (n++[c]):=dO t.out (by omega);obtain⟨h4,h5⟩:=h3.isN I;have s:aB (n++[c])=X+Y:=by
   have h1:=HQ.out;rw[M9,Me (by omega),b5.out,b3.out]at h1;rw[dm n c j.length a.out];omega
  have HT:=J (oD h4 h5 (by have:=a.out;simp;omega) s);have D:=J (f.out.setCell (p:=⟨U.heap.size,j.length,none⟩) (L5 _) (.int .u32 (c:Int)));clear h3 h4 h5 I s
  go_wp2_with fail
  refine HT.out.mono ?_;rintro e w5 ⟨v5,rfl,S,A⟩;have a2:=J S;have b0:=J (ak d0.out (ak D.out A D.out.size) b1);clear S A
  go_wp2
  go_ret
  exact⟨_,Z,a2.out,b0.out⟩
def Ly(X Y:Nat)(W:World)(r:Value):Prop:=(Y<=X->∃v,r=.tuple #[v,.bool true]/\IsD W v (X-Y))/\(X<Y->r=.tuple #[.slice none 0 0,.bool false])
def SbInv(w2:World)(dx dy:List Nat)(br i:Value)(wr:World):Prop:=
 ∃(k b:Nat) (out:List Nat),k<=dx.length/\i=.int .i64 k/\br=.int .u64 b/\b<=1/\out.length=k/\Digs out/\OwnN wr w2.heap.size (.slice (some ⟨w2.heap.size,0,none⟩) dx.length dx.length) (out++List.replicate (dx.length-k) 0)/\aB out+aB (dy.take k)=aB (dx.take k)+4294967296^k*b/\Below w2.heap.size w2 wr/\w2.heap.size<wr.heap.size
theorem lh{d wr:World}{c h a:List Nat}{k b nb x y g:Nat}{z q i:Int}(n:k<c.length)(f:a.length=k)(l:Digs a)(j:OwnN wr d.heap.size (.slice (some ⟨d.heap.size,0,none⟩) c.length c.length) (a++List.replicate (c.length-k) 0))
  (A:aB a+aB (h.take k)=aB (c.take k)+4294967296^k*b) (o:c[k]=x) (B:aB (h.take (k+1))=aB (h.take k)+4294967296^k*y) (r:Below d.heap.size d wr) (v:d.heap.size<wr.heap.size) (t:z=(g:Int)) (u:q=(nb:Int)) (s:i=((k+1:Nat):Int)) (w:g+(b+y)=x+4294967296*nb) (e:g<4294967296) (m:nb<=1):
  SbInv d c h (.int .u64 q) (.int .i64 i) (wr.setCell ⟨d.heap.size,k,none⟩ (.int .u32 z)):=by
 subst u s;refine⟨k+1,nb,a++[g],n,Z,Z,m,by simp[f],dO l e,?_,xd n f A o B w,r.setCell (p:=⟨d.heap.size,k,none⟩) (L5 _) _,by simpa[World.setCell]using v⟩;have:=j.put (i:=k) (by simp[f];omega) z g t;rw[show c.length-k=c.length-(k+1)+1 by omega,jU _ _ _ _ f]at this;exact this
theorem CM{u v:Value}{X Y:Nat}{w:World}(hu:IsD w u X)(hv:IsD w v Y)(c9:(ay X).length<=1048576)(d5:(ay Y).length<=1048576):Calls Tryz.prog 197 #[u,v] w (Gives (Ly X Y) w):=by
 have HC:=J (jT hu (by omega));have HV:=J hv;obtain⟨A0,c0,rfl,_⟩:=hu;obtain⟨B0,e0,rfl,_⟩:=hv
 go_enter Tryz.func197,Tryz.ntmps197
 go_wp2_with fail
 refine HC.out.mono ?_;rintro e w1 ⟨v1,rfl,a4,r⟩;obtain⟨A1,c1,n,rfl,a2,q⟩:=a4.open_;have a3:=J a2;have c7:=J r;have z:=J q.out;have a5:=r.size;clear a4 a2 r q HC;have U:=J (jT (HV.out.below c7.out) (by omega))
 go_wp2_with fail
 refine U.out.mono ?_;rintro e w2 ⟨v2,rfl,b3,D⟩;obtain⟨A2,c2,s,rfl,b0,q⟩:=b3.open_;have M:=J b0;have K:=J (a3.out.below D);have e2:=J (ak c7.out D a5);have B:=J q.out;have S:w.heap.size<=w2.heap.size:=L6 a5 D.size;clear b3 b0 D q U a3;have d7:Hid (aB n=X):=by rw[z.out];exact aI X
 have d6:Hid (aB s=Y):=by rw[B.out];exact aI Y
 have e7:n.length<=1048576:=by rw[z.out];exact c9
 have e9:s.length<=1048576:=by rw[B.out];exact d5
 have c:(eu (X:Int) (Y:Int)<0)↔X<Y:=by
  rcases OE X Y with h|h|h
  ·rw[iX h];omega
  ·rw[iz h];omega
  rw[iy h];omega
 have N:=J (BJ (K.out.isD z.out) (M.out.isD B.out) (by omega) (by omega));obtain⟨cm,b5⟩:∃cm,eu (X:Int) (Y:Int)=cm:=⟨_,rfl⟩;rw[b5]at N c;clear b5
 go_wp2_with fail
 refine N.out.mono ?_;rintro e O ⟨v3,rfl,d3,o⟩;obtain rfl:=d3;have G:=J (K.out.below o);have F:=J (M.out.below o);have a0:=J (ak e2.out o S);have d2:w.heap.size<=O.heap.size:=L6 S o.size;clear o N K M;by_cases H:X<Y
 ·have d9:cm<0:=c.2 H;clear c
  go_wp2
  go_ret2
  exact⟨_,Z,⟨fun h=>by omega,fun _=>rfl⟩,a0.out⟩
 have d9:¬cm<0:=fun h=>H (c.1 h)
 have e1:Y<=X:=by omega
 clear c;obtain⟨W,L,Q,R,e3⟩:=eF O n.length (by omega);have L:=L .i64 .i64;have d4:=J Q;have d0:=J R;have b2:O.heap.size<W.heap.size:=by omega
 clear Q R e3
 go_wp2
 clear L
 go_loopw [7,24] (fun br i wr=>SbInv O n s br i wr) (fun _ i _=>n.length-(intOf i).toNat)
 case atStart=>exact⟨0,0,[],Mx _,Z,Z,by omega,Z,fun d hd=>by simp at hd,by simpa using d4.out,by simp[aB],d0.out,b2⟩
 case round=>
  obtain⟨k,b,C,hk,rfl,rfl,hb,T,b1,p,c4,a9,t⟩:=hrel;have j:=J p;have HQ:=J c4;have a:=J a9;have f:=J T;have m:=J b1;clear p c4 a9 T b1;by_cases l:k<n.length
  ·obtain⟨bx,ox,rfl,f2,V⟩:=(G.out.below a.out).digit l;have cx:=V k l;have a1:=G.out.lt l;obtain⟨x,hx⟩:∃x,n[k]=x:=⟨_,rfl⟩;rw[hx]at cx a1;have HX:=J hx;have f3:=j.out.free k;have e4:=j.out.cell (i:=k) (by have:=f.out;simp;omega);obtain⟨old,E⟩:∃old,(C++List.replicate (n.length-k) 0)[k]'(by have:=f.out;simp;omega)=old:=⟨_,rfl⟩;rw[E]at e4;clear V hx E;by_cases A:k<s.length
   ·obtain⟨f1,oy,rfl,f0,c3⟩:=(F.out.below a.out).digit A;have cy:=c3 k A;have c5:=F.out.lt A;obtain⟨y,hy⟩:∃y,s[k]=y:=⟨_,rfl⟩;rw[hy]at cy c5;have HY:=J (show aB (s.take (k+1))=aB (s.take k)+4294967296^k*y by rw[cQ s k A,hy]);clear c3 hy;by_cases r:x<b+y
    ·go_wp2
     go_roundw
     case rel=>exact lh (nb:=1) (g:=x+4294967296-(b+y)) l f.out m.out j.out HQ.out HX.out HY.out a.out t (by omega) Z (by omega) (by omega) (by omega) (by omega)
     case measure=>simp[intOf];omega
    go_wp2
    go_roundw
    case rel=>exact lh (nb:=0) (g:=x-(b+y)) l f.out m.out j.out HQ.out HX.out HY.out a.out t (by omega) Z (by omega) (by omega) (by omega) (by omega)
    case measure=>simp[intOf];omega
   have HY:=J (pF s k (by omega));by_cases r:x<b
   ·go_wp2
    go_roundw
    case rel=>exact lh (y:=0) (nb:=1) (g:=x+4294967296-b) l f.out m.out j.out HQ.out HX.out HY.out a.out t (by omega) Z (by omega) (by omega) (by omega) (by omega)
    case measure=>simp[intOf];omega
   go_wp2
   go_roundw
   case rel=>exact lh (y:=0) (nb:=0) (g:=x-b) l f.out m.out j.out HQ.out HX.out HY.out a.out t (by omega) Z (by omega) (by omega) (by omega) (by omega)
   case measure=>simp[intOf];omega
  obtain rfl:k=n.length:=by omega
  have e6:s.length<=n.length:=by rw[z.out,B.out];exact aS e1
  have p:OwnN wr O.heap.size (.slice (some ⟨O.heap.size,0,none⟩) n.length n.length) C:=by have:=j.out;rwa[M4,NI,MA]at this
  obtain⟨h4,h5⟩:=p.isN m.out;have I:aB C=X-Y:=by
   have h1:=HQ.out;rw[Me e6,M9,d7.out,d6.out]at h1;have h2:=b4 C m.out;rw[f.out]at h2;have h3:b=0\/b=1:=by omega
   rcases h3 with rfl|rfl
   ·rw[Oy]at h1;omega
   rw[Oh]at h1;omega
  have HT:=J (oD h4 h5 (by have:=f.out;omega) I);clear p h4 h5 I
  go_wp2_with fail
  refine HT.out.mono ?_;rintro e w5 ⟨v5,rfl,c6,P⟩;have d1:=J c6;have e5:=J (ak a0.out (ak a.out P a.out.size) d2);clear c6 P
  go_wp2
  go_ret2
  exact⟨_,Z,⟨fun _=>⟨_,Z,d1.out⟩,fun h=>by omega⟩,e5.out⟩
def MulInv(w2:World)(n:Nat)(dx dy:List Nat)(i:Value)(wr:World):Prop:=
 ∃(k:Nat) (out:List Nat),k<=dx.length/\i=.int .i64 k/\out.length=k+dy.length/\Digs out/\OwnN wr w2.heap.size (.slice (some ⟨w2.heap.size,0,none⟩) n n) (out++List.replicate (dx.length-k) 0)/\aB out=aB (dx.take k)*aB dy/\Below w2.heap.size w2 wr/\w2.heap.size<wr.heap.size
def MuliInv(w2:World)(n k x:Nat)(out dx dy:List Nat)(cr j:Value)(wr:World):Prop:=
 ∃(m c:Nat) (lo:List Nat),m<=dy.length/\j=.int .i64 m/\cr=.int .u64 c/\c<4294967296/\lo.length=k+m/\Digs lo/\OwnN wr w2.heap.size (.slice (some ⟨w2.heap.size,0,none⟩) n n) (lo++(out.drop (k+m)++List.replicate (dx.length-k) 0))/\aB lo+4294967296^(k+m)*c=aB (out.take (k+m))+4294967296^k*(x*aB (dy.take m))/\Below w2.heap.size w2 wr/\w2.heap.size<wr.heap.size
theorem CN{lo a b:List Nat}{k m c x y d t:Nat}(g:m<b.length)(f:lo.length=k+m)(e:k+m<a.length)(n:aB lo+4294967296^(k+m)*c=aB (a.take (k+m))+4294967296^k*(x*aB (b.take m)))(i:b[m]=y)(j:a[k+m]=d)(h:t=x*y+d+c):
  aB (lo++[t%4294967296])+4294967296^(k+(m+1))*(t/4294967296)=aB (a.take (k+(m+1)))+4294967296^k*(x*aB (b.take (m+1))):=by
 rw[dm lo _ (k+m) f,show k+(m+1)=k+m+1 by omega,cQ a (k+m) e,j,cQ b m g,i,MM];have o:4294967296^(k+m)*(t%4294967296)+4294967296^(k+m)*4294967296*(t/4294967296)=4294967296^(k+m)*t:=by
  rw[Mu,<-MF,Nat.mod_add_div]
 have p:4294967296^k*(x*(aB (b.take m)+4294967296^m*y))=4294967296^k*(x*aB (b.take m))+4294967296^(k+m)*(x*y):=by
  rw[MF,MF,N2];congr 1;rw[NO x,Mu]
 have l:4294967296^(k+m)*t=4294967296^(k+m)*(x*y)+4294967296^(k+m)*d+4294967296^(k+m)*c:=by
  rw[h,MF,MF]
 omega
theorem EM{lo a:List Nat}{p g:Nat}{tl:List Nat}(c:lo.length=p)(b:p<a.length):(lo++(a.drop p++tl)).set p g=(lo++[g])++(a.drop (p+1)++tl):=by
 subst c;rw[NK _ _ (L5 _),M4,Md b,Ng,Ms,MG];rfl
theorem BK{lo a:List Nat}{p:Nat}{tl:List Nat}(b:lo.length=p)(c:p<a.length):∃h:p<(lo++(a.drop p++tl)).length,(lo++(a.drop p++tl))[p]=a[p]:=by
 subst b;refine⟨by simp;omega,?_⟩;rw[O3 (L5 _),List.getElem_append_left (by simp;omega),OS];simp
theorem oE{b wr:World}{n k x m c y d:Nat}{a f e lo:List Nat}{z q i:Int}(G:n=f.length+e.length)(F:k<f.length)(o:a.length=k+e.length)(s:m<e.length)(g:lo.length=k+m)(l:Digs lo)(j:OwnN wr b.heap.size (.slice (some ⟨b.heap.size,0,none⟩) n n) (lo++(a.drop (k+m)++List.replicate (f.length-k) 0)))
  (C:aB lo+4294967296^(k+m)*c=aB (a.take (k+m))+4294967296^k*(x*aB (e.take m))) (D:e[m]=y) (r:∃h:k+m<a.length,a[k+m]=d) (u:Below b.heap.size b wr) (A:b.heap.size<wr.heap.size) (v:z=(((x*y+d+c)%4294967296:Nat):Int)) (w:q=(((x*y+d+c)/4294967296:Nat):Int)) (E:i=((m+1:Nat):Int)) (B:(x*y+d+c)/4294967296<4294967296):
  MuliInv b n k x a f e (.int .u64 q) (.int .i64 i) (wr.setCell ⟨b.heap.size,k+m,none⟩ (.int .u32 z)):=by
 subst w E;obtain⟨t,r⟩:=r;refine⟨m+1,_,lo++[(x*y+d+c)%4294967296],s,Z,Z,B,by simp[g];omega,dO l (Ni _ (by decide)),?_,CN s g t C D r Z,u.setCell (p:=⟨b.heap.size,k+m,none⟩) (L5 _) _,by simpa[World.setCell]using A⟩;have:=j.put (i:=k+m) (by simp[g,o];omega) z _ v;rw[EM g t]at this;exact this
theorem qe{e wr:World}{n k x c:Nat}{b d a lo:List Nat}{z i:Int}(w:n=d.length+a.length)(m:k<d.length)(s:b.length=k+a.length)(j:aB b=aB (d.take k)*aB a)(o:d[k]=x)(g:lo.length=k+a.length)(h:Digs lo)(q:c<4294967296)(f:OwnN wr e.heap.size (.slice (some ⟨e.heap.size,0,none⟩) n n) (lo++(b.drop (k+a.length)++List.replicate (d.length-k) 0)))
  (l:aB lo+4294967296^(k+a.length)*c=aB (b.take (k+a.length))+4294967296^k*(x*aB (a.take a.length))) (r:Below e.heap.size e wr) (t:e.heap.size<wr.heap.size) (v:z=(c:Int)) (u:i=((k+1:Nat):Int)):
  MulInv e n d a (.int .i64 i) (wr.setCell ⟨e.heap.size,k+a.length,none⟩ (.int .u32 z)):=by
 subst u;rw[Mg (by omega),M6]at f;rw[Me (by omega),M9]at l;refine⟨k+1,lo++[c],m,Z,by simp[g];omega,dO h q,?_,?_,r.setCell (p:=⟨e.heap.size,k+a.length,none⟩) (L5 _) _,by simpa[World.setCell]using t⟩
 ·have:=f.put (i:=k+a.length) (by simp[g];omega) z c v;rw[show d.length-k=d.length-(k+1)+1 by omega,jU _ _ _ _ g]at this;exact this
 rw[dm lo c _ g,l,j,cQ d k m,o,M3,Mu]
theorem vM{x y d c:Nat}(b:x<4294967296)(a:y<4294967296)(f:d<4294967296)(e:c<4294967296):x*y+d+c<18446744073709551616/\x*y<=18446744065119617025:=by
 have h:x*y<=4294967295*4294967295:=NU (by omega) (by omega);omega
theorem GZ{u v:Value}{X Y:Nat}{w:World}(hu:IsD w u X)(hv:IsD w v Y)(e1:(ay X).length<=1048576)(e6:(ay Y).length<=1048576):Calls Tryz.prog 152 #[u,v] w (Gives (fun W r=>IsD W r (X*Y)) w):=by
 have HC:=J (jT hu (by omega));have HV:=J hv;obtain⟨A0,c0,rfl,_⟩:=hu;obtain⟨B0,e0,rfl,_⟩:=hv
 go_enter Tryz.func152,Tryz.ntmps152
 go_wp2_with fail
 refine HC.out.mono ?_;rintro e w1 ⟨v1,rfl,b2,N⟩;obtain⟨A1,c1,f,rfl,a9,q⟩:=b2.open_;have b0:=J a9;have d7:=J N;have b1:=J q.out;have b3:=N.size;clear b2 a9 N q HC;have a1:=J (jT (HV.out.below d7.out) (by omega))
 go_wp2_with fail
 refine a1.out.mono ?_;rintro e P ⟨v2,rfl,d2,E⟩;obtain⟨A2,c2,a,rfl,c7,q⟩:=d2.open_;have d9:=J c7;have U:=J (b0.out.below E);have f2:=J (ak d7.out E b3);have d3:=J q.out;have e4:w.heap.size<=P.heap.size:=L6 b3 E.size;clear d2 c7 E q a1 b0;have f0:Hid (aB f=X):=by rw[b1.out];exact aI X
 have e9:Hid (aB a=Y):=by rw[d3.out];exact aI Y
 have f8:f.length<=1048576:=by rw[b1.out];exact e1
 have f9:a.length<=1048576:=by rw[d3.out];exact e6
 obtain⟨W,B,R,S,f3⟩:=eF P (f.length+a.length) (by omega);have B:=B .i64 .i64;have e5:=J R;have e2:=J S;have d1:P.heap.size<W.heap.size:=by omega
 clear R S f3;rw[show((f.length+a.length:Nat):Int)=(f.length:Int)+(a.length:Int) by omega]at B
 go_wp2
 clear B
 go_loopw [24] (fun i wr=>MulInv P (f.length+a.length) f a i wr) (fun i _=>f.length-(intOf i).toNat)
 case atStart=>exact⟨0,List.replicate a.length 0,Mx _,Z,by simp,jt _,by rw[O8,Pu,show a.length+f.length=f.length+a.length by omega];exact e5.out,by simp[j8,aB],e2.out,d1⟩
 case round=>
  obtain⟨k,b,hk,rfl,a0,c9,o,d5,c3,e7⟩:=hrel;have T:=J o;have a2:=J d5;have g:=J c3;have s:=J a0;have O:=J c9;clear o d5 c3 a0 c9;by_cases n:k<f.length
  ·obtain⟨bx,ox,rfl,g2,a3⟩:=(U.out.below g.out).digit n;have cx:=a3 k n;have G:=U.out.lt n;obtain⟨x,hx⟩:∃x,f[k]=x:=⟨_,rfl⟩;rw[hx]at cx G;have HX:=J hx;clear a3 hx
   go_wp2
   clear cx
   go_loopw [8,31] (fun cr j wi=>MuliInv P (f.length+a.length) k x b f a cr j wi) (fun _ j _=>a.length-(intOf j).toNat)
   case atStart=>
    refine⟨0,0,b.take k,Mx _,Z,Z,by omega,?_,fun d hd=>O.out d (MC hd),?_,by simp[aB],g.out,e7⟩
    ·rw[Mf,s.out];omega
    rw[No,<-MG,M8];exact T.out
   case round=>
    rename World=>wi
    obtain⟨m,c,lo,hm,rfl,rfl,hc,d0,b5,a5,a4,c5,c4⟩:=hrel;have l:=J a5;have V:=J a4;have M:=J c5;have z:=J d0;have c6:=J b5;clear a5 a4 c5 d0 b5;by_cases t:m<a.length
    ·obtain⟨g1,oy,rfl,g0,d4⟩:=(d9.out.below M.out).digit t;have cy:=d4 m t;have I:=d9.out.lt t;obtain⟨y,hy⟩:∃y,a[m]=y:=⟨_,rfl⟩;rw[hy]at cy I;have HY:=J hy;have A:k+m<b.length:=by have:=s.out;omega
     obtain⟨h1,h2⟩:=BK (tl:=List.replicate (f.length-k) 0) z.out A;have C:=l.out.cell h1;rw[h2]at C;have f5:=l.out.free (k+m);have H:b[k+m]<4294967296:=O.out _ (MY A);obtain⟨d,hd⟩:∃d,b[k+m]=d:=⟨_,rfl⟩;rw[hd]at C H;have HD:=J (show∃h:k+m<b.length,b[k+m]=d from⟨A,hd⟩);obtain⟨f4,f1⟩:=vM G I H hc;obtain⟨xy,D⟩:∃xy,x*y=xy:=⟨_,rfl⟩;have f7:(x:Int)*(y:Int)=(xy:Int):=by rw[<-D];simp
     rw[D]at f4 f1;have L:=J D;clear d4 hy h1 h2 hd D A
     go_wp2
     go_roundw
     case rel=>exact oE Z n s.out t z.out c6.out l.out V.out HY.out HD.out M.out c4 (by rw[L.out];omega) (by rw[L.out];omega) (by omega) (by rw[L.out];omega)
     case measure=>simp[intOf];omega
    obtain rfl:m=a.length:=by omega
    have p:k+a.length<(lo++(b.drop (k+a.length)++List.replicate (f.length-k) 0)).length:=by have:=z.out;simp;omega
    have C:=l.out.cell p;have f5:=l.out.free (k+a.length);obtain⟨old,F⟩:∃old,(lo++(b.drop (k+a.length)++List.replicate (f.length-k) 0))[k+a.length]=old:=⟨_,rfl⟩;rw[F]at C;clear F p
    go_wp2
    go_roundw
    case rel=>exact qe Z n s.out a2.out HX.out z.out c6.out hc l.out V.out M.out c4 (by omega) (by omega)
    case measure=>simp[intOf];omega
  obtain rfl:k=f.length:=by omega
  have o:OwnN wr P.heap.size (.slice (some ⟨P.heap.size,0,none⟩) (f.length+a.length) (f.length+a.length)) b:=by have:=T.out;rwa[M4,NI,MA]at this
  obtain⟨h4,h5⟩:=o.isN O.out;have K:aB b=X*Y:=by have h1:=a2.out;rwa[M9,f0.out,e9.out]at h1
  have HT:=J (oD h4 h5 (by have:=s.out;omega) K);clear o h4 h5 K
  go_wp2_with fail
  refine HT.out.mono ?_;rintro e w5 ⟨v5,rfl,d6,Q⟩;have e3:=J d6;have f6:=J (ak f2.out (ak g.out Q g.out.size) e4);clear d6 Q
  go_wp2
  go_ret
  exact⟨_,Z,e3.out,f6.out⟩
theorem zx(A B:Option Addr)(ca cb:Nat)(f a:List Nat)(w:World)(h:IsN w A ca f)(h':IsN w B cb a)(hl:f.length<=1048576)(d7:a.length<=1048576):
  Calls Tryz.prog 158 #[.slice A f.length ca,.slice B a.length cb] w (NatPost (aB f*aB a) w):=by
 have T:=J h;have c3:=J h';clear h h';obtain⟨W,u,Q,R,c9⟩:=eF w (f.length+a.length) (by omega);have u:=u .i64 .i64;have c5:=J Q;have c4:=J R;have b5:w.heap.size<W.heap.size:=by omega
 clear Q R c9;rw[show((f.length+a.length:Nat):Int)=(f.length:Int)+(a.length:Int) by omega]at u
 go_enter Tryz.func158,Tryz.ntmps158
 go_wp2
 clear u
 go_loopw [6] (fun i wr=>MulInv w (f.length+a.length) f a i wr) (fun i _=>f.length-(intOf i).toNat)
 case atStart=>exact⟨0,List.replicate a.length 0,Mx _,Z,by simp,jt _,by rw[O8,Pu,show a.length+f.length=f.length+a.length by omega];exact c5.out,by simp[j8,aB],c4.out,b5⟩
 case round=>
  obtain⟨k,b,hk,rfl,V,b2,n,c2,a5,K⟩:=hrel;have S:=J n;have X:=J c2;have F:=J a5;have q:=J V;have M:=J b2;clear n c2 a5 V b2;by_cases l:k<f.length
  ·obtain⟨bx,ox,rfl,a3,Y⟩:=T.out.digit l;have cx:=Y k l;have D:=T.out.lt l;obtain⟨x,hx⟩:∃x,f[k]=x:=⟨_,rfl⟩;rw[hx]at cx D;have HX:=J hx;have CX:=J cx;have c7:=J a3;clear Y hx cx a3
   go_wp2
   go_loopw [7,8] (fun cr j wi=>MuliInv w (f.length+a.length) k x b f a cr j wi) (fun _ j _=>a.length-(intOf j).toNat)
   case atStart=>
    refine⟨0,0,b.take k,Mx _,Z,Z,by omega,?_,fun d hd=>M.out d (MC hd),?_,by simp[aB],F.out,K⟩
    ·rw[Mf,q.out];omega
    rw[No,<-MG,M8];exact S.out
   case round=>
    rename World=>wi
    obtain⟨m,c,lo,hm,rfl,rfl,hc,b3,a4,a1,a0,b0,a9⟩:=hrel;have g:=J a1;have U:=J a0;have s:=J b0;have t:=J b3;have b1:=J a4;clear a1 a0 b0 b3 a4;by_cases r:m<a.length
    ·obtain⟨d6,oy,rfl,d5,c1⟩:=(c3.out.below s.out).digit r;have cy:=c1 m r;have cx:=(s.out.cell (p:=⟨bx,ox+k,none⟩) c7.out).trans CX.out;have G:=c3.out.lt r;obtain⟨y,hy⟩:∃y,a[m]=y:=⟨_,rfl⟩;rw[hy]at cy G;have HY:=J hy;have L:k+m<b.length:=by have:=q.out;omega
     obtain⟨h1,h2⟩:=BK (tl:=List.replicate (f.length-k) 0) t.out L;have v:=g.out.cell h1;rw[h2]at v;have d2:=g.out.free (k+m);have E:b[k+m]<4294967296:=M.out _ (MY L);obtain⟨d,hd⟩:∃d,b[k+m]=d:=⟨_,rfl⟩;rw[hd]at v E;have HD:=J (show∃h:k+m<b.length,b[k+m]=d from⟨L,hd⟩);obtain⟨d1,c6⟩:=vM D G E hc;obtain⟨N,z⟩:∃N,x*y=N:=⟨_,rfl⟩;have P:(x:Int)*(y:Int)=(N:Int):=by rw[<-z];simp
     rw[z]at d1 c6;have I:=J z;clear c1 hy h1 h2 hd z;have q1:IntKind.i64.wrap ((k:Int)+(m:Int))=(k:Int)+(m:Int):=by rw[Ns];omega
     have q2:(0:Int)<=(k:Int)+(m:Int):=by omega
     have q3:((k:Int)+(m:Int)).toNat=k+m:=by omega
     have q4:(k:Int)+(m:Int)<((f.length+a.length:Nat):Int):=by omega
     have q5:IntKind.u64.wrap (d:Int)=(d:Int):=by rw[IntKind.wrap_u64];omega
     have q6:IntKind.u64.wrap (x:Int)=(x:Int):=by rw[IntKind.wrap_u64];omega
     have q7:IntKind.u64.wrap (y:Int)=(y:Int):=by rw[IntKind.wrap_u64];omega
     have q8:IntKind.u64.wrap ((c:Int)+(d:Int))=(c:Int)+(d:Int):=by rw[IntKind.wrap_u64];omega
     have q9:IntKind.u64.wrap ((x:Int)*(y:Int))=(N:Int):=by rw[P,IntKind.wrap_u64];omega
     have e0:IntKind.u64.wrap ((c:Int)+(d:Int)+(N:Int))=(c:Int)+(d:Int)+(N:Int):=by rw[IntKind.wrap_u64];omega
     have d9:(m:Int)<(a.length:Int):=by omega
     have d4:(k:Int)<(f.length:Int):=by omega
     go_wp2
     go_quiet (fail)
     go_wp2
     go_roundw
     case rel=>exact oE Z l q.out r t.out b1.out g.out U.out HY.out HD.out (bh s.out) a9 (by rw[I.out];omega) (by rw[I.out];omega) (by omega) (by rw[I.out];omega)
     case measure=>simp[intOf];omega
    obtain rfl:m=a.length:=by omega
    have o:k+a.length<(lo++(b.drop (k+a.length)++List.replicate (f.length-k) 0)).length:=by have:=t.out;simp;omega
    have v:=g.out.cell o;have d2:=g.out.free (k+a.length);obtain⟨old,C⟩:∃old,(lo++(b.drop (k+a.length)++List.replicate (f.length-k) 0))[k+a.length]=old:=⟨_,rfl⟩;rw[C]at v;clear C o
    go_wp2
    go_roundw
    case rel=>exact qe Z l q.out X.out HX.out t.out b1.out hc g.out U.out s.out a9 (by omega) (by omega)
    case measure=>simp[intOf];omega
  obtain rfl:k=f.length:=by omega
  have n:OwnN wr w.heap.size (.slice (some ⟨w.heap.size,0,none⟩) (f.length+a.length) (f.length+a.length)) b:=by have:=S.out;rwa[M4,NI,MA]at this
  obtain⟨h4,h5⟩:=n.isN M.out;have H:aB b=aB f*aB a:=by have h1:=X.out;rwa[M9]at h1
  have a2:b.length<=1073741823:=by have:=q.out;omega
  have hT:=dl _ _ b wr h4 a2;rw[H,<-h5]at hT;have HT:=J hT;clear n h4 h5 H hT
  go_wp2_with fail
  refine HT.out.mono ?_;rintro e w5 ⟨v5,rfl,c0,O⟩;have d0:=J (c0.base_le (PA K));have d3:=J (ak F.out O (PA K));clear c0 O
  go_wp2
  go_ret
  exact⟨v5,Z,d0.out,d3.out⟩
def gS(ta na:Int)(sa:ByteArray)(tb nb:Int)(sb:ByteArray):Int:=yM (eu ta tb) (eu na nb) (Lib.compareBytes sa.data.toList sb.data.toList)
theorem qf(b c:Int)(f:ByteArray)(d nb:Int)(a:ByteArray)(w:World):
  Calls Tryz.prog 124 #[.agg #[.int .i64 b,.int .i64 c,.string f],.agg #[.int .i64 d,.int .i64 nb,.string a]] w fun e w'=>e=.returned (.int .i64 (gS b c f d nb a))/\Below w.heap.size w w':=by
 obtain⟨W,h,g,i,o,k,q,p,n,l⟩:=Lp w 77 (.int .i64 b) (.int .i64 c) (.string f) (.int .i64 d) (.int .i64 nb) (.string a);have j:=J h;clear h;have m:=J i;clear i
 go_enter Tryz.func124,Tryz.ntmps124
 go_wp2
 rw[j.out];refine wp_region_still_tail 15 (by kernel_rfl) (by kernel_rfl) ?_;simp only[N5,Ou,Of,Nx];change wpStill _ _ W.drew _ _ _;iterate 4 still_step
 still_call (Im (zl _ _ _))
 iterate 4 still_step
 still_call (Im (vF _ _ _))
 iterate 4 still_step
 still_call (Tryz.strings_Compare _ _ _)
 refine wpStill_nil ?_
 go_wp2_with (go_at_call 185;refine(IZ _ _ (eu b d) (eu c nb) (Lib.compareBytes f.data.toList a.data.toList) _ (by simp[go_sem]) (by simp[go_sem]) (by simp[go_sem])).mono ?_;rintro e w' ⟨rfl,rfl⟩)
 go_ret
 exact⟨Z,(g.alloc g.size _).drew⟩
def pj(c:UInt8):Bool:=decide (32<=c.toNat/\c.toNat<=126)
def be(t n:Int)(s:ByteArray):Bool:=
 if t=1 then s.data.toList.isEmpty else decide (t=2)&&decide (n=0)&&decide (s.size<=64)&&s.data.toList.all pj
theorem ni(s:ByteArray)(k:Nat)(h:k<s.size):(s.data.toList.take (k+1)).all pj=((s.data.toList.take k).all pj&&pj s[k]):=by
 rw[Mq (by simpa using h),NX];simp;rfl
theorem jW{l:List UInt8}(k:Nat)(h:(l.take k).all pj=false):l.all pj=false:=by
 rw[PO]at h⊢;obtain⟨x,b,a⟩:=h;exact⟨x,MC b,a⟩
theorem CO(n:Int)(s:ByteArray)(w:World):
  Calls Tryz.prog 104 #[.agg #[.int .i64 1,.int .i64 n,.string s]] w fun e w'=>e=.returned (.bool (be 1 n s))/\Below w.heap.size w w':=by
 go_enter Tryz.func104,Tryz.ntmps104
 go_wp2
 go_ret
 exact⟨by simp[be,Lib.toList_data],(Below.refl _ _).alloc (L5 _) _⟩
theorem xj(t n:Int)(s:ByteArray)(w:World)(b:t≠1)(a:t≠2):
  Calls Tryz.prog 104 #[.agg #[.int .i64 t,.int .i64 n,.string s]] w fun e w'=>e=.returned (.bool (be t n s))/\Below w.heap.size w w':=by
 have c:=J (show be t n s=false by simp[be,b,a]);have d:(t==1)=false:=by simpa using b
 have g:(t !=2)=true:=by simpa using a
 have f:(t==2)=false:=by simpa using a
 clear b a
 go_enter Tryz.func104,Tryz.ntmps104
 go_wp2
 go_ret
 exact⟨by rw[c.out];rfl,(Below.refl _ _).alloc (L5 _) _⟩
theorem CP(n:Int)(s:ByteArray)(w:World)(h:n≠0):
  Calls Tryz.prog 104 #[.agg #[.int .i64 2,.int .i64 n,.string s]] w fun e w'=>e=.returned (.bool (be 2 n s))/\Below w.heap.size w w':=by
 have a:=J (show be 2 n s=false by simp[be,h]);have b:(n==0)=false:=by simpa using h
 have c:(n !=0)=true:=by simpa using h
 clear h
 go_enter Tryz.func104,Tryz.ntmps104
 go_wp2
 go_ret
 exact⟨by rw[a.out];rfl,(Below.refl _ _).alloc (L5 _) _⟩
theorem zy(s:ByteArray)(w:World)(h:64<s.size):
  Calls Tryz.prog 104 #[.agg #[.int .i64 2,.int .i64 0,.string s]] w fun e w'=>e=.returned (.bool (be 2 0 s))/\Below w.heap.size w w':=by
 have a:=J (show be 2 0 s=false by simp[be];omega)
 go_enter Tryz.func104,Tryz.ntmps104
 go_wp2
 go_ret
 exact⟨by rw[a.out];rfl,(Below.refl _ _).alloc (L5 _) _⟩
theorem CQ(s:ByteArray)(w:World)(h:s.size<=64):
  Calls Tryz.prog 104 #[.agg #[.int .i64 2,.int .i64 0,.string s]] w fun e w'=>e=.returned (.bool (be 2 0 s))/\Below w.heap.size w w':=by
 have c:=J (show be 2 0 s=s.data.toList.all pj by simp[be,h])
 go_enter Tryz.func104,Tryz.ntmps104
 go_wp2
 go_loop [3] (fun i=>∃k:Nat,k<=s.size/\(s.data.toList.take k).all pj=true/\i=.int .i64 k) (fun i=>s.size-(intOf i).toNat)
 case atStart=>exact⟨0,Mx _,by simp,Z⟩
 case round=>
  obtain⟨k,m,a,rfl⟩:=hrel;have g:=J a;clear a;by_cases d:k<s.size
  ·have f:=J (ni s k d);by_cases j:32<=s[k].toNat
   ·by_cases l:s[k].toNat<=126
    ·have b:=J (show pj s[k]=true by simp[pj,j,l])
     go_wp2
     go_round
     case rel=>exact⟨k+1,by omega,by rw[f.out,g.out,b.out];rfl,by go_num⟩
     case measure=>simp[intOf];omega
    have b:=J (show s.data.toList.all pj=false from jW (k+1) (by rw[f.out];simp[pj,l]))
    go_wp2
    go_ret
    exact⟨by rw[c.out,b.out];rfl,(Below.refl _ _).alloc (L5 _) _⟩
   have b:=J (show s.data.toList.all pj=false from jW (k+1) (by rw[f.out];simp[pj,j]))
   go_wp2
   go_ret
   exact⟨by rw[c.out,b.out];rfl,(Below.refl _ _).alloc (L5 _) _⟩
  have b:=J (show s.data.toList.all pj=true by have:=g.out;rwa[Me (by simp;omega)]at this)
  go_wp2
  go_ret
  exact⟨by rw[c.out,b.out];rfl,(Below.refl _ _).alloc (L5 _) _⟩
theorem eG(t n:Int)(s:ByteArray)(w:World):
  Calls Tryz.prog 104 #[.agg #[.int .i64 t,.int .i64 n,.string s]] w fun e w'=>e=.returned (.bool (be t n s))/\Below w.heap.size w w':=by
 by_cases d:t=1
 ·subst d;exact CO n s w
 by_cases c:t=2
 ·subst c;by_cases b:n=0
  ·subst b;rcases MI 64 s.size with a|a
   ·exact zy s w a
   exact CQ s w a
  exact CP n s w b
 exact xj t n s w d c
end Go.Proofs.YtfoejfohbkmmeaaGreatDoor
