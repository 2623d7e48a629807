import Derived.Test.YtmhcanmapkenbaaGreatDoorA09
set_option maxRecDepth 100000
set_option maxHeartbeats 2000000
set_option linter.defProp false
open Go.Proofs.Tryz
namespace Go.Proofs.YtmhcanmapkenbaaGreatDoor
open Go.RowKit
open Lib renaming hid→J
variable{y:Nat}
def dR(A:Option Addr)(c:Nat)(ds:List Nat)(w:World)(h:IsN w A c ds)(hl:ds.length<=1073741823):
  Calls prog 57 #[.slice A ds.length c] w (NatPost (a8 ds) w):=by
 have z:=J h;have N:=h.cap;have P:=h.max;clear h
 go_enter func57,ntmps57
 go_wp2
 go_loop [3] (λi=>∃k:Nat,k<=ds.length/\i=.int .i64 k/\(∀(j:Nat) (G:j<ds.length),k<=j->ds[j]=0)) (λi=>(intOf i).toNat)
 case atStart=>exact⟨ds.length,Qi _,Z,λj G h=>O⟩
 case round=>
  obtain⟨k,T,rfl,Q⟩:=hrel;have L:=J Q;clear Q;have s:(k=0\/∃h:k-1<ds.length,ds[k-1]≠0)->ds.take k=aP (a8 ds):=λH=>DS ds k T z.out.ok L.out H
  have K:=J s;clear s;by_cases V:0<k
  ·obtain⟨b,off,rfl,X,M⟩:=z.out.digit (i:=k-1) O;have F:=M (k-1) O;have E:=J (show∃h:k-1<ds.length,ds[k-1]=ds[k-1]from⟨O,Z⟩);obtain⟨d,hd⟩:∃d,ds[k-1]'O=d:=⟨_,Z⟩;rw[hd]at F;have I:=J hd;clear M hd E;by_cases v:d=0
   ·subst v
    go_wp2
    go_round
    case rel=>
     refine⟨k-1,O,by go_num,λj G h=>?_⟩;by_cases e:j=k-1
     ·subst e;exact I.out
     exact L.out j G O
    case measure=>simp[intOf];omega
   have B:=J (K.out (.inr ⟨O,by rw[I.out];exact v⟩));have S:((d:Int)==0)=false:=by simpa using v
   have m:(aP (a8 ds)).length=k:=by rw[<-B.out,QN];omega
   have p:=J (z.out.at_.takeN k);rw[B.out]at p;have l:=J m;clear m;obtain⟨W,u,n,_,x⟩:=qT w 114 #[];have y:=J (OwnN.empty w w.heap.size (Qi _));rw[u]at y;have D:=J u;have t:=J n;have o:=n.size;clear u n x
   go_wp2_with (at_builtin;rw[D.out];refine rF w.heap.size _ [] (aP (a8 ds)) (some ⟨b,off,none⟩) c (.tmp 18) (.tmp 21) Z Z Z (by rw[l.out];rfl) y.out ((p.out.below t.out).more o) (λh=>by cases h) (by have:=l.out;simp only[QC];omega) o ?_;intro C R f g;have q:=J f;have r:=J g;clear f g)
   go_ret
   exact⟨C,Z,by simpa using q.out,t.out.trans r.out.below⟩
  obtain rfl:k=0:=O
  have B:=J (K.out (.inl Z));have m:(aP (a8 ds)).length=0:=by rw[<-B.out,QN];omega
  have p:=J (z.out.at_.takeN 0);rw[B.out]at p;have l:=J m;clear m;obtain⟨W,u,n,_,x⟩:=qT w 114 #[];have y:=J (OwnN.empty w w.heap.size (Qi _));rw[u]at y;have D:=J u;have t:=J n;have o:=n.size;clear u n x;cases A with
  |none=>
   obtain⟨U,rfl⟩:=z.out.nil Z
   go_wp2_with (at_builtin;rw[D.out];refine rF w.heap.size _ [] (aP (a8 ds)) none 0 (.tmp 18) (.tmp 21) Z Z Z (by rw[l.out];rfl) y.out ((p.out.below t.out).more o) (λ_=>⟨l.out,Z⟩) (by have:=l.out;simp only[QC];omega) o ?_;intro C R f g;have q:=J f;have r:=J g;clear f g)
   go_ret
   exact⟨C,Z,by simpa using q.out,t.out.trans r.out.below⟩
  |some a=>
   go_wp2_with (at_builtin;rw[D.out];refine rF w.heap.size _ [] (aP (a8 ds)) (some a) c (.tmp 18) (.tmp 21) Z Z Z (by rw[l.out];rfl) y.out ((p.out.below t.out).more o) (λh=>by cases h) (by have:=l.out;simp only[QC];omega) o ?_;intro C R f g;have q:=J f;have r:=J g;clear f g)
   go_ret
   exact⟨C,Z,by simpa using q.out,t.out.trans r.out.below⟩
def rG{m n:Nat}(h:(aP m).length<(aP n).length):m<n:=by
 rcases Rm m n with a|a
 ·exact a
 have:=dp a;omega
def kC(a:List Nat)(k:Nat)(b:k<a.length):a8 a=a8 (a.take k)+4294967296^k*(a[k]+4294967296*a8 (a.drop (k+1))):=by
 have h:a=a.take k++a[k]::a.drop (k+1):=by rw[<-Q3 b,R3]
 have hl:(a.take k).length=k:=by rw[QN];omega
 conv=>lhs;rw[h]
 rw[ij,hl,a8]
def Fo(a b:List Nat)(k:Nat)(h:iF a)(hl:a.length=b.length)(l:k<a.length)(i:∀(j:Nat) (c:j<a.length) (e:j<b.length),k<j->a[j]=b[j])(m:a[k]<b[k]'O):a8 a<a8 b:=by
 have hd:a.drop (k+1)=b.drop (k+1):=by
  apply SY
  ·simp[hl]
  intro j c e;simp only[TT];exact i _ _ _ O
 rw[kC a k l,kC b k O,hd];have c:=eP (a.take k) (λd f=>h d (Ra f));have e:(a.take k).length=k:=by rw[QN];omega
 rw[e]at c;have g:=SF (4294967296^k) (show a[k]+4294967296*a8 (b.drop (k+1))+1<=b[k]'O+4294967296*a8 (b.drop (k+1)) by omega);rw[RS]at g;omega
def Fp(a b:List Nat)(hl:a.length=b.length)(e:∀(j:Nat) (c:j<a.length) (d:j<b.length),a[j]=b[j]):a=b:=SY hl λj c d=>e j c d
def fg{B n:Nat}{w W:World}(h:Below B w W):Below B w (W.drewN n):=⟨h.os,h.tape,h.output,h.size,h.block⟩
def BQ(x y:Nat)(w:World)(e:Ending)(w':World):Prop:=e=.returned (.int .i64 (iE x y))/\Below w.heap.size w w'
def qx{x:Nat}(h:x<y):iE (x:Int) (y:Int)= -1:=Jg O
def n9{x:Nat}(h:y<x):iE (x:Int) (y:Int)=1:=Jh O
def mb{x:Nat}(h:x=y):iE (x:Int) (y:Int)=0:=Ji O O
def vD(A B:Option Addr)(ca cb:Nat)(x y:List Nat)(w:World)(hA:IsN w A ca x)(hB:IsN w B cb y)(a3:x.length<=1073741823)(a4:y.length<=1073741823):
  Calls prog 68 #[.slice A x.length ca,.slice B y.length cb] w (BQ (a8 x) (a8 y) w):=by
 have HA:=J hA;have HB:=J hB;clear hA hB;have P:(aP (a8 x)).length<=x.length:=bP (eP x HA.out.ok);have Q:(aP (a8 y)).length<=y.length:=bP (eP y HB.out.ok)
 go_enter func68,ntmps68
 go_wp2_with fail
 refine(dR A ca x _ HA.out a3).mono ?_;intro e w1 f;obtain⟨A1,c1,rfl,R,u⟩:=f.open_;have c:=J R;have F:=J u;have V:=u.size;clear f R u
 go_wp2_with fail
 refine(dR B cb y _ (HB.out.below F.out) a4).mono ?_;intro e w2 g;obtain⟨A2,c2,rfl,S,n⟩:=g.open_;have t:=J S;have c:=J (c.out.below n);have z:=J (aZ F.out n V);have a5:w.heap.size<=w2.heap.size:=Qu V n.size;clear g S n;generalize hX:a8 x=X at c P⊢;generalize hY:a8 y=Y at t Q⊢;have l:=J hX;have m:=J hY;clear hX hY;obtain⟨a,ha⟩:∃a,aP X=a:=⟨_,Z⟩;obtain⟨b,hb⟩:∃b,aP Y=b:=⟨_,Z⟩;have K:Hid (a8 a=X):=by rw[<-ha];exact bS X
 have L:Hid (a8 b=Y):=by rw[<-hb];exact bS Y
 have I:=J (@rG X Y);have v:=J (@rG Y X);rw[ha,hb]at I v;rw[ha]at c P⊢;rw[hb]at t Q⊢;clear ha hb;by_cases U:a.length=b.length
 ·have d:=J U;have g1:((a.length:Int)==(b.length:Int))=true:=by rw[beq_iff_eq];omega
  have g2:((a.length:Int) !=(b.length:Int))=false:=by rw[bne_eq_false_iff_eq];omega
  clear U
  go_wp2
  go_loopw [7] (λi wr=>∃k:Nat,k<=a.length/\i=.int .i64 ((k:Int)-1)/\(∀(j:Nat) (f:j<a.length) (g:j<b.length),k<=j->a[j]=b[j])/\Below w2.heap.size w2 wr) (λi _=>(intOf i+1).toNat)
  case atStart=>exact⟨a.length,Qi _,Z,λj f g h=>O,Below.refl _ _⟩
  case round=>
   obtain⟨k,hk,rfl,he,D⟩:=hrel;have s:=J he;have r:=J D;have W:=J (aZ z.out D a5);clear he D;cases k with
   |zero=>
    have a0:=J (show X=Y by rw[<-K.out,<-L.out,Fp a b d.out (λj f g=>s.out j f g O)])
    go_wp2
    go_ret
    exact⟨by rw[l.out,m.out,mb a0.out];rfl,W.out⟩
   |succ k=>
    rw[show((k+1:Nat):Int)-1=(k:Int) by omega];obtain⟨b1,o1,rfl,u,M⟩:=(c.out.below r.out).digit (i:=k) O;obtain⟨b2,o2,rfl,n,N⟩:=(t.out.below r.out).digit (i:=k) (by have:=d.out;omega);have c1:=M k O;have c2:=N k (by have:=d.out;omega);have E:k<b.length:=by have:=d.out;omega
    have T:k<a.length:=O
    have H:Hid (a[k]'T<b[k]'E->a8 a<a8 b):=(λh=>Fo a b k c.out.ok d.out O (λj f g h'=>s.out j f g O) h);have G:Hid (b[k]'E<a[k]'T->a8 b<a8 a):=(λh=>Fo b a k t.out.ok d.out.symm E (λj f g h'=>(s.out j g f O).symm) h);rw[K.out,L.out]at H G;obtain⟨p,hp⟩:∃p,a[k]'O=p:=⟨_,Z⟩;obtain⟨q,hq⟩:∃q,b[k]=q:=⟨_,Z⟩;have HP:=J hp;have HQ:=J hq;rw[hp]at c1;rw[hq]at c2;clear M N hp hq;have k0:(0:Int)<=(k:Int):=O
    have k1:(k:Int)<(a.length:Int):=O
    have k2:(k:Int)<(b.length:Int):=O
    rcases SP p q with o|o|o
    ·have C:=J (H.out (by rw[HP.out,HQ.out];exact o));have t1:decide ((p:Int)<(q:Int))=true:=by simp;omega
     go_wp2
     go_quiet (fail)
     go_wp2
     go_ret
     exact⟨by rw[l.out,m.out,qx C.out];rfl,fg W.out⟩
    ·subst o
     go_wp2
     go_quiet (fail)
     go_wp2
     go_quiet (fail)
     go_wp2
     go_roundw
     case rel=>
      refine⟨k,O,by go_num,λj f g h=>?_,by first|exact fg (fg r.out)|exact fg r.out⟩;by_cases e:j=k
      ·subst e;rw[HP.out,HQ.out]
      exact s.out j f g O
     case measure=>simp[intOf]
    have C:=J (G.out (by rw[HP.out,HQ.out];exact o));have t1:decide ((p:Int)<(q:Int))=false:=by simp;omega
    have t2:decide ((q:Int)<(p:Int))=true:=by simp;omega
    go_wp2
    go_quiet (fail)
    go_wp2
    go_quiet (fail)
    go_wp2
    go_ret
    exact⟨by rw[l.out,m.out,n9 C.out];rfl,by first|exact fg (fg W.out)|exact fg W.out⟩
 have g1:((a.length:Int)==(b.length:Int))=false:=by rw[beq_eq_false_iff_ne];omega
 have g2:((a.length:Int) !=(b.length:Int))=true:=by rw[bne_iff_ne];omega
 rcases Rm a.length b.length with a2|a9
 ·have C:=J (I.out a2)
  go_wp2
  go_ret
  exact⟨by rw[l.out,m.out,qx C.out];rfl,z.out⟩
 have a1:b.length<a.length:=O
 have C:=J (v.out a1)
 go_wp2
 go_ret
 exact⟨by rw[l.out,m.out,n9 C.out];rfl,z.out⟩
def oc(l:List Nat)(k:Nat)(h:k<l.length):a8 (l.take (k+1))=a8 (l.take k)+4294967296^k*l[k]:=by
 have hl:(l.take k).length=k:=by rw[QN];omega
 rw[Ro h,ij,hl];simp[a8]
def od(l:List Nat)(d k:Nat)(h:l.length=k):a8 (l++[d])=a8 l+4294967296^k*d:=by
 subst h;rw[ij];simp[a8]
def zM(l:List Nat)(i d:Nat):dq (l.set i d)=(dq l).set i (.int .u32 d):=by simp[dq,List.map_set]
def OwnN.set{w:World}{base g cap i:Nat}{l:List Nat}(h:OwnN w base (.slice (some ⟨g,0,none⟩) l.length cap) l)(d:Nat):
  OwnN (w.setCell ⟨g,i,none⟩ (.int .u32 d)) base (.slice (some ⟨g,0,none⟩) (l.set i d).length cap) (l.set i d):=by
 rcases h.2 with⟨b,_⟩|⟨p,c,cur,b,f,j,m,k,n,o⟩
 ·cases b
 injection b with a q e
 injection a with a
 injection a with a
 subst a e;unfold OwnN;rw[Rr];refine⟨by rw[fN,Rr];omega,.inr ⟨g,cap,cur.setIfInBounds i (.int .u32 d),Z,f,?_,m,k,by simpa using n,?_⟩⟩
 ·simp[World.setCell,RG,j]
 rw[zM,<-o,Rk,TX,SW]
def OwnN.lies{w:World}{base:Nat}{v:Value}{l:List Nat}(h:OwnN w base v l)(hl:0<l.length):
  ∃g cap,v=.slice (some ⟨g,0,none⟩) l.length cap/\base<=g/\g<w.heap.size/\l.length<=cap/\cap<=9223372036854775807:=by
 rcases h.2 with⟨_,a⟩|⟨g,cap,cur,rfl,b,c,a,d,_⟩
 ·omega
 exact⟨g,cap,Z,b,(QK.1 c).1,a,by unfold maxLen at d;omega⟩
def OwnN.free{w:World}{base g n cap:Nat}{l:List Nat}(h:OwnN w base (.slice (some ⟨g,0,none⟩) n cap) l)(i:Nat):w.frozen? ⟨g,i,none⟩=false:=by
 rcases h.2 with⟨b,_⟩|⟨e,c,cur,b,f,d,_⟩
 ·cases b
 injection b with a
 injection a with a
 injection a with a
 subst a;simp[World.frozen?,d]
def OwnN.cell{w:World}{base g n cap:Nat}{l:List Nat}(h:OwnN w base (.slice (some ⟨g,0,none⟩) n cap) l){i:Nat}(c:i<l.length):w.cell? ⟨g,i,none⟩=some (.int .u32 ((l[i]:Nat):Int)):=by
 rcases h.2 with⟨b,_⟩|⟨d,a,cur,b,e,f,_⟩
 ·cases b
 have:=World.ownsRow.cells h (g:=g) Z i (.int .u32 ((l[i]:Nat):Int)) (by simp[dq,Qj c]);rwa[show(⟨g,0,none⟩:Addr).add i=⟨g,i,none⟩from by unfold Addr.add;split<;>simp_all]at this
def SubInv(w:World)(vx vy:Value)(dx dy:List Nat)(br i:Value)(wr:World):Prop:=
 ∃(k b:Nat) (out:List Nat),k<=dx.length/\i=.int .i64 k/\br=.int .u64 b/\b<=1/\out.length=k/\iF out/\OwnN wr w.heap.size vx (out++dx.drop k)/\OwnN wr w.heap.size vy dy/\a8 out+a8 (dy.take k)=a8 (dx.take k)+4294967296^k*b/\Below w.heap.size w wr
def Fq{a c d:List Nat}{k b nb x g:Nat}(h:k<c.length)(i:a.length=k)(m:a8 a+a8 (d.take k)=a8 (c.take k)+4294967296^k*b)(j:c[k]=x)(l:a8 (d.take (k+1))=a8 (d.take k)+4294967296^k*y)(f:g+(b+y)=x+4294967296*nb):
  a8 (a++[g])+a8 (d.take (k+1))=a8 (c.take (k+1))+4294967296^(k+1)*nb:=by
 rw[od a g k i,oc c k h,j,l,Rw];generalize 4294967296^k=P at*;have e:P*(g+(b+y))=P*(x+4294967296*nb):=by rw[f]
 rw[RS,RS,RS]at e;rw[Rt];omega
def Fs{a b:List Nat}{k g:Nat}(c:k<b.length)(d:a.length=k):(a++b.drop k).set k g=(a++[g])++b.drop (k+1):=by
 subst d;rw[Sd _ _ (Qi _),Q3 c,RI,Ss,Q0];rfl
def Mq{a b:List Nat}{k:Nat}(d:k<b.length)(c:a.length=k):∃h:k<(a++b.drop k).length,(a++b.drop k)[k]=b[k]:=by
 subst c;refine⟨by simp;omega,?_⟩;rw[List.getElem_append_right (Qi _)];simp
def jA{w n:World}{l o:Nat}{A:Value}{c m a:List Nat}{k b nb D y0 g:Nat}{z q i:Int}(t:k<c.length)(e:a.length=k)(v:iF a)(x:OwnN n w.heap.size (.slice (some ⟨l,0,none⟩) c.length o) (a++c.drop k))(y:OwnN n w.heap.size A m)(G:A.ownBlock≠some l)
  (F:a8 a+a8 (m.take k)=a8 (c.take k)+4294967296^k*b) (L:c[k]=D) (M:a8 (m.take (k+1))=a8 (m.take k)+4294967296^k*y0) (r:Below w.heap.size w n) (s:w.heap.size<=l)
  (N:z=(g:Int)) (K:q=(nb:Int)) (I:i=((k+1:Nat):Int)) (H:g+(b+y0)=D+4294967296*nb) (C:g<4294967296) (u:nb<=1):SubInv w (.slice (some ⟨l,0,none⟩) c.length o) A c m (.int .u64 q) (.int .i64 i) (n.setCell ⟨l,k,none⟩ (.int .u32 z)):=by
 subst N K I;refine⟨k+1,nb,a++[g],t,Z,Z,u,by simp[e],λd hd=>?_,?_,ez y G (λj J=>Below.heap_setCell _ _ _ _ J),Fq t e F L M H,r.setCell (p:=⟨l,k,none⟩) s _⟩
 ·rcases Q6.1 hd with h|h
  ·exact v d h
  simp at h;omega
 have f:(a++c.drop k).length=c.length:=by simp[e];omega
 have E:OwnN n w.heap.size (.slice (some ⟨l,0,none⟩) (a++c.drop k).length o) (a++c.drop k):=by rw[f];exact x
 have B:=E.set (i:=k) g;rw[Rr,f,Fs t e]at B;exact B
def BR(n:Nat)(w:World)(e:Ending)(w':World):Prop:=∃v,e=.returned (.tuple #[v,.bool true])/\OwnN w' w.heap.size v (aP n)/\Below w.heap.size w w'
def OwnN.base_le{w:World}{b a:Nat}{v:Value}{l:List Nat}(h:OwnN w a v l)(d:b<=a):OwnN w b v l:=by
 refine⟨h.1,?_⟩;rcases h.2 with c|⟨g,cap,cur,e,f,r⟩
 ·exact .inl c
 exact .inr ⟨g,cap,cur,e,O,r⟩
def BS(A B:Option Addr)(ca cb:Nat)(x y:List Nat)(w:World)(hA:IsN w A ca x)(hB:IsN w B cb y)(b2:x.length<=1073741823)(b3:y.length<=1073741823)(f2:a8 y<=a8 x):
  Calls prog 96 #[.slice A x.length ca,.slice B y.length cb] w (BR (a8 x-a8 y) w):=by
 have HA:=J hA;have HB:=J hB;clear hA hB;have f0:(aP (a8 x)).length<=x.length:=bP (eP x HA.out.ok);have f1:(aP (a8 y)).length<=y.length:=bP (eP y HB.out.ok);have a9:0<=iE (a8 x:Int) (a8 y:Int):=by
  rcases Rm (a8 y) (a8 x)with h|h
  ·rw[n9 h];decide
  rw[mb O];decide
 obtain⟨cm,S⟩:∃cm,iE (a8 x:Int) (a8 y:Int)=cm:=⟨_,Z⟩;have d1:=J S;rw[S]at a9;clear S
 go_enter func96,ntmps96
 go_wp2_with fail
 refine(vD A B ca cb x y _ HA.out HB.out b2 b3).mono ?_;rintro e w0 ⟨he,Q⟩;rw[d1.out]at he;subst he;have X:=J Q;have V:=Q.size;clear Q
 go_wp2_with fail
 refine(dR A ca x _ (HA.out.below X.out) b2).mono ?_;rintro e w1 ⟨vx,rfl,b4,p⟩;have M:=J b4;have Y:=J (aZ X.out p V);have e4:=J p;have W:w.heap.size<=w1.heap.size:=Qu V p.size;clear b4 p
 go_wp2_with fail
 refine(dR B cb y _ (HB.out.below Y.out) b3).mono ?_;rintro e w2 ⟨vy,rfl,U,E⟩;have N:=J ((M.out.below E).base_le V);have P:=J (U.base_le W);have l:Hid (∀g,vx.ownBlock=some g->vy.ownBlock≠some g):=λg h1 h2=>by
  have a1:=(M.out.lt g h1).2;have a2:=(U.lt g h2).1;omega
 have c9:=J (aZ Y.out E W);have g3:w.heap.size<=w2.heap.size:=Qu W E.size;clear U E M e4;have a0:=J (bS (a8 x));have a3:=J (bS (a8 y));have K:=J (dA (a8 x));have L:=J (dA (a8 y));obtain⟨t,u⟩:∃t,aP (a8 x)=t:=⟨_,Z⟩;obtain⟨o,v⟩:∃o,aP (a8 y)=o:=⟨_,Z⟩;have d2:=J (congrArg List.length u);have d3:=J (congrArg List.length v);rw[u]at N f0 a0 K;rw[v]at P f1 a3 L;clear u v;obtain⟨Ay,cy,e,g1⟩:∃A c,vy=.slice A o.length c/\True:=by
  obtain⟨A,c,h,_⟩:=P.out.is L.out;exact⟨A,c,h,trivial⟩
 subst e;obtain⟨Ax,cx,e,a4⟩:∃A c,vx=.slice A t.length c/\True:=by
  obtain⟨A,c,h,_⟩:=N.out.is K.out;exact⟨A,c,h,trivial⟩
 subst e
 go_wp2
 go_loopw [8,9] (λbr i wr=>SubInv w (.slice Ax t.length cx) (.slice Ay o.length cy) t o br i wr) (λ_ i _=>t.length-(intOf i).toNat)
 case atStart=>exact⟨0,0,[],QF _,Z,Z,O,Z,λd hd=>by simp at hd,by simpa using N.out,P.out,by simp[a8],c9.out⟩
 case round=>
  obtain⟨k,b,C,hk,rfl,rfl,hb,c1,c0,z,c2,b0,R⟩:=hrel;have f:=J z;have n:=J c2;have HQ:=J b0;have r:=J R;have a:=J c1;have m:=J c0;have c5:=R.size;clear z c2 b0 R c1 c0;by_cases q:k<t.length
  ·obtain⟨gx,cap,e,F,f4,_,_⟩:=f.out.lies (by have:=a.out;simp;omega);injection e with e1 e2 e3
   subst e1 e3;have l:=J (l.out gx Z);obtain⟨c3,c4⟩:=Mq q a.out;obtain⟨I,G⟩:∃I,t[k]=I:=⟨_,Z⟩;have e5:=f.out.cell c3;rw[c4,G]at e5;have g2:=f.out.free k;have f5:I<4294967296:=by rw[<-G];exact K.out _ (Rx q)
   have D:=J G;clear G c4 c3 e2;by_cases T:k<o.length
   ·obtain⟨gy,f3,e,_,_,_,_⟩:=n.out.lies O;injection e with e1 e2 e3
    subst e1 e3;clear e2;have e6:=n.out.cell T;obtain⟨y0,H⟩:∃y0,o[k]=y0:=⟨_,Z⟩;rw[H]at e6;have g0:y0<4294967296:=by rw[<-H];exact L.out _ (Rx T)
    have s:=J (show a8 (o.take (k+1))=a8 (o.take k)+4294967296^k*y0 by rw[oc o k T,H]);clear H;by_cases p:I<b+y0
    ·go_wp2
     go_roundw
     case rel=>exact jA (g:=I+4294967296-(b+y0)) (nb:=1) q a.out m.out f.out n.out l.out HQ.out D.out s.out r.out F O Z O O O O
     case measure=>simp[intOf];omega
    go_wp2
    go_roundw
    case rel=>exact jA (g:=I-(b+y0)) (nb:=0) q a.out m.out f.out n.out l.out HQ.out D.out s.out r.out F O Z O O O O
    case measure=>simp[intOf];omega
   have s:=J (show a8 (o.take (k+1))=a8 (o.take k)+4294967296^k*0 by rw[QU (i:=k+1) O,QU (i:=k) O];simp);by_cases p:I<b
   ·go_wp2
    go_roundw
    case rel=>exact jA (y0:=0) (g:=I+4294967296-b) (nb:=1) q a.out m.out f.out n.out l.out HQ.out D.out s.out r.out F O Z O O O O
    case measure=>simp[intOf];omega
   go_wp2
   go_roundw
   case rel=>exact jA (y0:=0) (g:=I-b) (nb:=0) q a.out m.out f.out n.out l.out HQ.out D.out s.out r.out F O Z O O O O
   case measure=>simp[intOf];omega
  obtain rfl:k=t.length:=O
  have e7:o.length<=t.length:=by
   have:=dp f2;rw[d2.out,d3.out]at this;exact this
  have hv:a8 C=a8 x-a8 y:=by
   have h1:=HQ.out;rw[QU e7,SA,a0.out,a3.out]at h1;have h2:=eP C m.out;rw[a.out]at h2;have h3:b=0\/b=1:=O
   rcases h3 with rfl|rfl
   ·rw[TL]at h1;omega
   rw[TX]at h1;omega
  have HV:=J hv;clear hv;have z:OwnN wr w.heap.size (.slice Ax t.length cx) C:=by have:=f.out;rwa[Ts,Rn]at this
  have b1:IsN wr Ax cx C:=by
   obtain⟨A',c',e,hi⟩:=z.is m.out;injection e with e1 e2 e3
   subst e1 e3;exact hi
  have a4:=J b1;clear z b1;have j:=dR Ax cx C wr a4.out (by have:=a.out;omega);rw[a.out,HV.out]at j;have d4:=J j;clear j
  go_wp2_with fail
  refine d4.out.mono ?_;rintro e w5 ⟨v5,rfl,b5,a5⟩;have e0:=J (b5.base_le c5);have d0:=J (aZ r.out a5 c5);clear b5 a5
  go_wp2
  go_ret2
  exact⟨v5,Z,e0.out,d0.out⟩
def Mr(a b:Nat)(c:a<4294967296)(d:b<=1)(e:a%2=0):bits .or .u32 (a:Int) (b:Int)=((a+b:Nat):Int):=by
 rw[u32_or_nat a b c O];have h:a|||b=a+b:=by
  have:=R5 (i:=1) (b:=b) O (a/2);rw[SZ]at this;rw[show a/2*2^1=a by omega]at this;exact this.symm
 rw[h]
def DblInv(w:World)(ds:List Nat)(bit:Nat)(v c i:Value)(wr:World):Prop:=
 ∃(k cy:Nat) (o:List Nat),k<=ds.length/\i=.int .i64 k/\c=.int .u32 cy/\cy<=1/\o.length=k/\iF o/\OwnN wr w.heap.size v o/\a8 o+4294967296^k*cy=2*a8 (ds.take k)+bit/\Below w.heap.size w wr
def xz{w g:World}{ds o:List Nat}{bit k a d:Nat}{v:Value}{x i:Int}(l:k<ds.length)(b:o.length=k)(f:iF o)(hd:ds[k]=d)(j:d<4294967296)(n:a<=1)(c:OwnN g w.heap.size v (o++[d*2%4294967296+a]))(u:a8 o+4294967296^k*a=2*a8 (ds.take k)+bit)(m:Below w.heap.size w g)
  (r:x=((d/2147483648:Nat):Int)) (p:i=((k+1:Nat):Int)):DblInv w ds bit v (.int .u32 x) (.int .i64 i) g:=by
 subst r p;refine⟨k+1,d/2147483648,o++[d*2%4294967296+a],l,Z,Z,O,by simp[b],λe q=>?_,c,?_,m⟩
 ·rcases Q6.1 q with h|h
  ·exact f e h
  simp at h;omega
 rw[od _ _ k b,oc ds k l,hd,Rw];generalize 4294967296^k=P at*;have s:P*(d*2%4294967296+a)+P*(4294967296*(d/2147483648))=P*(2*d)+P*a:=by
  rw[<-RS,<-RS];congr 1;omega
 rw[Rt];have t:P*(2*d)=2*(P*d):=by rw[<-Rt,RR P 2,Rt]
 omega
def rH(A:Option Addr)(c:Nat)(ds:List Nat)(bit:Nat)(w:World)(h:IsN w A c ds)(hl:ds.length<=1073741822)(B:bit<=1):
  Calls prog 97 #[.slice A ds.length c,.int .u32 bit] w (NatPost (2*a8 ds+bit) w):=by
 have U:=J h;clear h
 go_enter func97,ntmps97
 go_wp2
 go_loopw [1,5,6] (λcb v i wr=>DblInv w ds bit v cb i wr) (λ_ _ i _=>ds.length-(intOf i).toNat)
 case atStart=>exact⟨0,bit,[],QF _,Z,Z,B,Z,λd hd=>by simp at hd,OwnN.nil _ _,by simp[a8],Below.refl _ _⟩
 case round=>
  obtain⟨k,m,o,hk,rfl,rfl,C,H,G,j,E,n⟩:=hrel;have V:=J j;have W:=J E;have M:=J n;have y:=J H;have x:=J G;have t:=n.size;have a0:o.length<=1073741822:=O
  clear j E n H G;by_cases g:k<ds.length
  ·obtain⟨b,off,rfl,Y,hc⟩:=U.out.digit g;obtain⟨d,hd⟩:∃d,ds[k]=d:=⟨_,Z⟩;have q:=(M.out.cell (p:=⟨b,off+k,none⟩) Y).trans (hc k g);rw[hd]at q;have D:d<4294967296:=by rw[<-hd];exact U.out.ok _ (Rx g)
   have HD:=J hd;have s:=Mr (d*2%4294967296) m O C O;rw[show((d*2%4294967296:Nat):Int)=(d:Int)*2%4294967296 by omega]at s;have S:=J s;clear s;clear hc hd
   go_wp2_with (at_builtin;refine ma w.heap.size _ o _ (d*2%4294967296+m) (.tmp 13) (.tmp 21) Z Z Z Z V.out S.out O t ?_;intro v2 w2 a f;have Q:=J a;have l:=J f;have q:=(f.below.cell (p:=⟨b,off+k,none⟩) Y).trans q;clear a f)
   go_roundw
   case rel=>exact xz g y.out x.out HD.out D C Q.out W.out (M.out.trans l.out.below) O O
   case measure=>simp[intOf];omega
  obtain rfl:k=ds.length:=O
  have hv:a8 (o++[m])=2*a8 ds+bit:=by
   have:=W.out;rw[SA]at this;rw[od o m _ y.out];omega
  have X:=J hv;have u:Hid (iF (o++[m])):=λe hm=>by
   rcases Q6.1 hm with h|h
   ·exact x.out e h
   simp at h;omega
  obtain⟨L,K⟩:∃L,o++[m]=L:=⟨_,Z⟩;have T:L.length<=1073741823:=by rw[<-K];simp;omega
  have HL:=J K;rw[K]at X u;clear hv K
  go_wp2_with (at_builtin;refine ma w.heap.size _ o _ m (.tmp 28) (.tmp 30) Z Z Z Z V.out Z O t ?_;intro v2 w2 a f;rw[HL.out]at a;have l:=J f;obtain⟨A2,c2,e2,F⟩:=a.is u.out;subst e2;have P:=J F;have I:w.heap.size<=w2.heap.size:=Qu t f.size;clear a f F)
  refine(dR A2 c2 L _ P.out T).mono ?_;rintro e w3 ⟨v3,rfl,r,z⟩;rw[X.out]at r;have R:=J (r.base_le I);have N:=J ((M.out.trans l.out.below).trans (z.mono I));clear r z
  go_wp2
  go_ret
  exact⟨v3,Z,R.out,N.out⟩
def HalfInv(w:World)(ds:List Nat)(v i:Value)(wr:World):Prop:=
 ∃(k:Nat) (o:List Nat),k<=ds.length/\i=.int .i64 k/\o.length=k/\iF o/\OwnN wr w.heap.size v o/\2*a8 o+ds.getD 0 0%2=a8 (ds.take k)+4294967296^k*(ds.getD k 0%2)/\Below w.heap.size w wr
def oe{w g:World}{ds o:List Nat}{k d nx:Nat}{v:Value}{i:Int}(c:k<ds.length)(a:o.length=k)(f:iF o)(hd:ds[k]=d)(r:ds.getD (k+1) 0%2=nx)(j:d<4294967296)(b:OwnN g w.heap.size v (o++[d/2+2147483648*nx]))
  (m:2*a8 o+ds.getD 0 0%2=a8 (ds.take k)+4294967296^k*(ds.getD k 0%2)) (l:Below w.heap.size w g) (p:i=((k+1:Nat):Int)):HalfInv w ds v (.int .i64 i) g:=by
 subst p;have n:ds.getD k 0=d:=by rw[Qp,Qj c,Q2,hd]
 have s:nx<=1:=O
 refine⟨k+1,o++[d/2+2147483648*nx],c,Z,by simp[a],λe q=>?_,b,?_,l⟩
 ·rcases Q6.1 q with h|h
  ·exact f e h
  simp at h;omega
 rw[od _ _ k a,oc ds k c,hd,r,Rw];rw[n]at m;generalize 4294967296^k=P at*;have t:2*(P*(d/2+2147483648*nx))+P*(d%2)=P*d+P*(4294967296*nx):=by
  rw[<-RS,<-Rt,RR 2 P,Rt,<-RS];congr 1;omega
 rw[Rt,RS];omega
def Jm(a x:Nat)(c:a<2147483648):bits .or .u32 (a:Int) ((x*2147483648%4294967296:Nat):Int)=((a+2147483648*(x%2):Nat):Int):=by
 have e:x*2147483648%4294967296=2147483648*(x%2):=O
 rw[e,u32_or_nat a (2147483648*(x%2)) O O];have h:a|||2147483648*(x%2)=2147483648*(x%2)+a:=by
  have:=R5 (i:=31) (b:=a) O (x%2);rw[SZ]at this;rw[Nat.or_comm,show 2147483648*(x%2)=x%2*2^31 by omega];exact this.symm
 rw[h,Sb]
def Ft(A:Option Addr)(c:Nat)(ds:List Nat)(w:World)(h:IsN w A c ds)(hl:ds.length<=1073741822):
  Calls prog 95 #[.slice A ds.length c] w (NatPost (a8 ds/2) w):=by
 have M:=J h;clear h
 go_enter func95,ntmps95
 go_wp2
 go_loopw [3,4] (λv i wr=>HalfInv w ds v i wr) (λ_ i _=>ds.length-(intOf i).toNat)
 case atStart=>exact⟨0,[],QF _,Z,Z,λd hd=>by simp at hd,OwnN.nil _ _,by simp[a8],Below.refl _ _⟩
 case round=>
  obtain⟨k,o,hk,rfl,H,G,n,E,t⟩:=hrel;have Q:=J n;have T:=J E;have z:=J t;have B:=J H;have r:=J G;have l:=t.size;have Y:o.length<=1073741822:=O
  clear n E t H G;by_cases g:k<ds.length
  ·obtain⟨b,off,rfl,X,I⟩:=M.out.digit g;obtain⟨d,hd⟩:∃d,ds[k]=d:=⟨_,Z⟩;have U:=(z.out.cell (p:=⟨b,off+k,none⟩) X).trans (I k g);rw[hd]at U;have m:d<4294967296:=by rw[<-hd];exact M.out.ok _ (Rx g)
   have V:=J hd;clear hd;by_cases j:k+1<ds.length
   ·obtain⟨x,K⟩:∃x,ds[k+1]=x:=⟨_,Z⟩;have D:=(z.out.cell (p:=⟨b,off+(k+1),none⟩) X).trans (I (k+1) j);rw[K]at D;have a0:x<4294967296:=by rw[<-K];exact M.out.ok _ (Rx j)
    have P:=J (show ds.getD (k+1) 0%2=x%2 by rw[Qp,Qj j,Q2,K]);have y:=Jm (d/2) x O;rw[show((d/2:Nat):Int)=(d:Int)/2 by omega,show((x*2147483648%4294967296:Nat):Int)=(x:Int)*2147483648%4294967296 by omega]at y;have S:=J y;clear y K I
    go_wp2_with (at_builtin;refine ma w.heap.size _ o _ (d/2+2147483648*(x%2)) (.tmp 30) (.tmp 32) Z Z Z Z Q.out S.out O l ?_;intro v2 w2 a f;have q:=J a;have s:=J f;clear a f)
    go_roundw
    case rel=>exact oe g B.out r.out V.out P.out m q.out T.out (z.out.trans s.out.below) O
    case measure=>simp[intOf];omega
   have P:=J (show ds.getD (k+1) 0%2=0 by rw[Qp,Rl O];rfl);clear I
   go_wp2_with (at_builtin;refine ma w.heap.size _ o _ (d/2+2147483648*0) (.tmp 30) (.tmp 32) Z Z Z Z Q.out O O l ?_;intro v2 w2 a f;have q:=J a;have s:=J f;clear a f)
   go_roundw
   case rel=>exact oe g B.out r.out V.out P.out m q.out T.out (z.out.trans s.out.below) O
   case measure=>simp[intOf];omega
  obtain rfl:k=ds.length:=O
  have hv:a8 o=a8 ds/2:=by
   have W:=T.out;rw[SA,Qp (i:=ds.length),Rl (Qi _)]at W;simp only[Option.getD_none,Nat.zero_mod,TL,RQ]at W;omega
  have HV:=J hv;clear hv;obtain⟨A2,c2,e2,F⟩:=Q.out.is r.out;subst e2;have N:=J F;clear F
  go_wp2_with fail
  refine(dR A2 c2 o _ N.out O).mono ?_;rintro e w3 ⟨v3,rfl,u,C⟩;rw[HV.out]at u;have R:=J (u.base_le l);have L:=J (aZ z.out C l);clear u C
  go_wp2
  go_ret
  exact⟨v3,Z,R.out,L.out⟩
