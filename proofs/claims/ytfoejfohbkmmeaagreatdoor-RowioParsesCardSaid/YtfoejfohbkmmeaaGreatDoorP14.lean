import Derived.Test.YtfoejfohbkmmeaaGreatDoorP13
import Derived.Test.YtfoejfohbkmmeaaGreatDoorP00
set_option maxRecDepth 100000
set_option maxHeartbeats 4000000
namespace Go.Proofs.YtfoejfohbkmmeaaGreatDoor
open Go.RowKit
open Lib renaming hid→J
theorem Fk{a b:Int}(h:a=b):Value.int .i64 a=.int .i64 b:=by rw[h]
theorem Af{n:Nat}(b:n<18446744073709551616):(n=0/\ax n=[])\/(0<n/\n<4294967296/\ax n=[n])\/(4294967296<=n/\ax n=[n%4294967296,n/4294967296]):=by
 rcases M1 n with rfl|h
 ·exact .inl ⟨Z,Z⟩
 rcases MA n 4294967296 with a|a
 ·refine .inr (.inl ⟨h,a,?_⟩);rw[fg (by omega),N3 a,ND a];rfl
 refine .inr (.inr ⟨a,?_⟩);rw[fg (by omega),fg (by omega),show n/4294967296/4294967296=0 by omega,show n/4294967296%4294967296=n/4294967296 by omega];rfl
theorem B7(a b:Nat)(e:a<4294967296)(d:b<4294967296):bits .or .u64 (((a*4294967296:Nat)):Int) (b:Int)=((a*4294967296+b:Nat):Int):=by
 rw[u64_or_nat (a*4294967296) b (by omega) (by omega)];have c:(2:Nat)^32=4294967296:=by decide
 have:=NE (i:=32) (b:=b) (by rw[c];exact d) a;rw[Og,c]at this;rw[this]
theorem B8{v:Value}{n:Nat}{w:World}(h:IsD w v n)(D:n<18446744073709551616):Calls Tryz.prog 266 #[v] w (gF (fun _ r=>r=.tuple #[.int .u64 n,.bool true]) w):=by
 have F:(ax n).length<=2:=a8 (by have:(4294967296^2:Nat)=18446744073709551616:=(by decide);omega);have C:=J (kY h (by omega));obtain⟨H,u,rfl,_⟩:=h
 go_enter Tryz.func266,Tryz.ntmps266
 go_wp2_with fail
 refine C.out.mono ?_;rintro e M ⟨I,rfl,o,s⟩;obtain⟨G,A,K,rfl,q,t⟩:=o.open_;have f:=J q;have j:=J s;have a:=J t.out;clear o q s t C;rcases Af D with⟨z,g⟩|⟨z,y,g⟩|⟨z,g⟩
 ·rw[g]at a;obtain rfl:=a.out;subst z;clear g D
  go_wp2
  go_ret2
  exact⟨_,Z,Z,j.out⟩
 ·rw[g]at a;obtain rfl:=a.out;obtain⟨b,off,rfl,E,m⟩:=f.out.digit (i:=0) (by simp);have u:=m 0 (by simp);simp only[ON,Nk]at u;clear m g
  go_wp2
  go_ret2
  exact⟨_,Z,Z,j.out⟩
 rw[g]at a;obtain rfl:=a.out;obtain⟨b,off,rfl,E,m⟩:=f.out.digit (i:=0) (by simp);have u:=m 0 (by simp);have A:=m 1 (by simp);simp only[ON,Nk]at u;simp only[List.getElem_cons_succ,ON]at A;have k:=B7 (n/4294967296) (n%4294967296) (by omega) (by omega);rw[show n/4294967296*4294967296+n%4294967296=n by omega]at k;have l:=J k;have x:n%4294967296<4294967296:=by omega
 have B:n/4294967296<4294967296:=by omega
 obtain⟨lo,d⟩:∃lo,n%4294967296=lo:=⟨_,rfl⟩;obtain⟨p,c⟩:∃p,n/4294967296=p:=⟨_,rfl⟩;rw[d]at u l x f;rw[c]at A l B f;have L:=J (show n=p*4294967296+lo by omega);rw[d,c];clear k d c m g
 go_wp2
 go_quiet (fail)
 go_wp2
 go_ret2
 refine⟨_,Z,?_,bh j.out⟩;have y:=l.out;first
  |rfl
  |(rw[show(((p*4294967296:Nat)):Int)=(p:Int)*4294967296 by omega]at y;rw[<-y];rfl)
def cM(n:Nat):Nat:=if n=0 then 0 else 32*((ax n).length-1)+Lib.bitLen ((ax n).getD ((ax n).length-1) 0)
theorem Ag{d:Nat}(h:0<d)(a:d<2^64):0<Lib.bitLen d:=by
 have:=(Lib.bitLenAux_bounds 64 d a (by omega)).1;exact this
theorem H8{v:Value}{n:Nat}{w:World}(h:IsD w v n)(z:(ax n).length<=1048576):Calls Tryz.prog 129 #[v] w (gF (fun _ r=>r=.int .i64 (cM n)) w):=by
 have u:=J (kY h (by omega));obtain⟨G,C,rfl,_⟩:=h
 go_enter Tryz.func129,Tryz.ntmps129
 go_wp2_with fail
 refine u.out.mono ?_;rintro e L ⟨H,rfl,k,o⟩;obtain⟨M,I,a,rfl,m,g⟩:=k.open_;have j:=J m;have l:=J o;have y:a.length<=1048576:=by have:=g.out;rw[this];exact z
 have A:Hid (cM n=if a.length=0 then 0 else 32*(a.length-1)+Lib.bitLen (a.getD (a.length-1) 0)):=by
  show _=_
  unfold cM;rw[g.out];by_cases f:n=0
  ·rw[if_pos f,if_pos (bR.2 f)]
  rw[if_neg f,if_neg (fun e=>f (bR.1 e))]
 clear k m o g u z;by_cases f:a.length=0
 ·have D:((a.length:Int)==0)=true:=by rw[beq_iff_eq];omega
  go_wp2
  go_ret
  exact⟨_,Z,by rw[A.out,if_pos f];rfl,l.out⟩
 have D:((a.length:Int)==0)=false:=by rw[beq_eq_false_iff_ne];omega
 obtain⟨b,off,rfl,K,B⟩:=j.out.digit (i:=0) (by omega);have C:=B (a.length-1) (by omega);have c:a[a.length-1]'(by omega)<4294967296:=j.out.ok _ (M7 _);obtain⟨d,q⟩:∃d,a[a.length-1]'(by omega)=d:=⟨_,rfl⟩;rw[q]at C c;have p:Hid (cM n=32*(a.length-1)+Lib.bitLen d):=by
  show _=_
  rw[A.out,if_neg f,<-q,List.getD,L3 (by omega)];rfl
 obtain⟨x,s⟩:∃x,Lib.bitLen d=x:=⟨_,rfl⟩;have E:x<=32:=by rw[<-s];exact Lib.bitLen_le d 32 (by decide) (by rw[show(2:Nat)^32=4294967296 by decide];exact c)
 have t:=J (fun w=>Tryz.bits_Len32 (d:Int) w (by omega) (by omega));simp only[Ou]at t;rw[s]at t p;clear B q s
 go_wp2_with fail
 refine(t.out _).mono ?_;rintro e F ⟨rfl,rfl⟩
 go_wp2
 go_ret
 exact⟨_,Z,Fk (by rw[p.out];omega),l.out⟩
theorem Fl{u v:Value}{X Y:Nat}{w:World}(hu:IsD w u X)(hv:IsD w v Y)(F:(ax X).length<=1073741823)(U:(ax Y).length<=1073741823):Calls Tryz.prog 151 #[u,v] w (gF (fun _ r=>r=.int .i64 (eo X Y)) w):=by
 have HC:=J (kY hu F);have HV:=J hv;obtain⟨A0,c0,rfl,_⟩:=hu;obtain⟨B0,e0,rfl,_⟩:=hv
 go_enter Tryz.func151,Tryz.ntmps151
 go_wp2_with fail
 refine HC.out.mono ?_;rintro e w1 ⟨v1,rfl,P,n⟩;obtain⟨A1,c1,a,rfl,W,d⟩:=P.open_;have R:=J W;have V:=J n;have x:=J d.out;have D:=n.size;clear P W n d HC;have N:=J (kY (HV.out.below V.out) U)
 go_wp2_with fail
 refine N.out.mono ?_;rintro e w2 ⟨v2,rfl,a1,g⟩;obtain⟨A2,c2,b,rfl,Q,d⟩:=a1.open_;have M:=J Q;have T:=J (R.out.below g);have A:=J (aE V.out g D);have C:=J d.out;have a3:w.heap.size<=w2.heap.size:=Ma D g.size;clear a1 Q g d N R;have K:Hid (ay a=X):=by rw[x.out];exact aO X
 have a0:Hid (ay b=Y):=by rw[C.out];exact aO Y
 have S:=J (@lF X Y);have t:=J (@lF Y X);have a9:a.length<=1073741823:=by rw[x.out];exact F
 have b0:b.length<=1073741823:=by rw[C.out];exact U
 rw[<-x.out,<-C.out]at S t;by_cases L:a.length=b.length
 ·have c:=J L;have g1:((a.length:Int)==(b.length:Int))=true:=by rw[beq_iff_eq];omega
  have g2:((a.length:Int) !=(b.length:Int))=false:=by rw[bne_eq_false_iff_eq];omega
  clear L
  go_wp2
  go_loopw [5] (fun i wr=>∃k:Nat,k<=a.length/\i=.int .i64 ((k:Int)-1)/\(∀(j:Nat) (s:j<a.length) (m:j<b.length),k<=j->a[j]=b[j])/\Below w2.heap.size w2 wr) (fun i _=>(intOf i+1).toNat)
  case atStart=>exact⟨a.length,L4 _,Z,fun j s m h=>by omega,Below.refl _ _⟩
  case round=>
   obtain⟨k,hk,rfl,he,z⟩:=hrel;have l:=J he;have o:=J z;have HF:=J (aE A.out z a3);clear he z;cases k with
   |zero=>
    have a2:=J (show X=Y by rw[<-K.out,<-a0.out,xL a b c.out (fun j s m=>l.out j s m (by omega))])
    go_wp2
    go_ret
    exact⟨_,Z,by rw[ju a2.out];rfl,HF.out⟩
   |succ k=>
    rw[show((k+1:Nat):Int)-1=(k:Int) by omega];obtain⟨b1,o1,rfl,n,I⟩:=(T.out.below o.out).digit (i:=k) (by omega);obtain⟨b2,o2,rfl,g,H⟩:=(M.out.below o.out).digit (i:=k) (by have:=c.out;omega);have c1:=I k (by omega);have c2:=H k (by have:=c.out;omega);have y:k<b.length:=by have:=c.out;omega
    have G:k<a.length:=by omega
    have E:Hid (a[k]'G<b[k]'y->ay a<ay b):=(fun h=>wu a b k T.out.ok c.out (by omega) (fun j s m h'=>l.out j s m (by omega)) h);have O:Hid (b[k]'y<a[k]'G->ay b<ay a):=(fun h=>wu b a k M.out.ok c.out.symm y (fun j s m h'=>(l.out j m s (by omega)).symm) h);rw[K.out,a0.out]at E O;obtain⟨p,hp⟩:∃p,a[k]'(by omega)=p:=⟨_,rfl⟩;obtain⟨q,hq⟩:∃q,b[k]=q:=⟨_,rfl⟩;have HP:=J hp;have HQ:=J hq;rw[hp]at c1;rw[hq]at c2;clear I H hp hq;have k0:(0:Int)<=(k:Int):=by omega
    have k1:(k:Int)<(a.length:Int):=by omega
    have k2:(k:Int)<(b.length:Int):=by omega
    rcases OQ p q with f|f|f
    ·have B:=J (E.out (by rw[HP.out,HQ.out];exact f));have t1:decide ((p:Int)<(q:Int))=true:=by simp;omega
     go_wp2
     go_quiet (fail)
     go_wp2
     go_ret
     exact⟨_,Z,by rw[km B.out];rfl,bh HF.out⟩
    ·subst f
     go_wp2
     go_quiet (fail)
     go_wp2
     go_quiet (fail)
     go_wp2
     go_roundw
     case rel=>
      refine⟨k,by omega,by go_num,fun j s m h=>?_,by first|exact bh (bh o.out)|exact bh o.out⟩;by_cases e:j=k
      ·subst e;rw[HP.out,HQ.out]
      exact l.out j s m (by omega)
     case measure=>simp[intOf]
    have B:=J (O.out (by rw[HP.out,HQ.out];exact f));have t1:decide ((p:Int)<(q:Int))=false:=by simp;omega
    have t2:decide ((q:Int)<(p:Int))=true:=by simp;omega
    go_wp2
    go_quiet (fail)
    go_wp2
    go_quiet (fail)
    go_wp2
    go_ret
    exact⟨_,Z,by rw[jt B.out];rfl,by first|exact bh (bh HF.out)|exact bh HF.out⟩
 have g1:((a.length:Int)==(b.length:Int))=false:=by rw[beq_eq_false_iff_ne];omega
 have g2:((a.length:Int) !=(b.length:Int))=true:=by rw[bne_iff_ne];omega
 rcases MA a.length b.length with a4|b3
 ·have B:=J (S.out a4)
  go_wp2
  go_ret
  exact⟨_,Z,by rw[km B.out];rfl,A.out⟩
 have a5:b.length<a.length:=by omega
 have B:=J (t.out a5)
 go_wp2
 go_ret
 exact⟨_,Z,by rw[jt B.out];rfl,A.out⟩
def JL(w:World)(G:Nat)(x y:Value)(wr:World):Prop:=∃a b:Nat,x=.int .u64 a/\y=.int .u64 b/\a<18446744073709551616/\b<18446744073709551616/\Nat.gcd a b=G/\Below w.heap.size w wr
theorem Dj{u v:Value}{X Y:Nat}{w:World}(G:IsD w u X)(B:IsD w v Y)(C:X<18446744073709551616)(H:Y<18446744073709551616):Calls Tryz.prog 244 #[u,v] w (gF (fun W r=>IsD W r (Nat.gcd X Y)) w):=by
 have A:=J (B8 G C);have Q:=J B;obtain⟨V,c0,rfl,_⟩:=G;obtain⟨U,e0,rfl,_⟩:=B
 go_enter Tryz.func244,Tryz.ntmps244
 go_wp2_with fail
 refine A.out.mono ?_;rintro e w1 ⟨v1,rfl,n,f⟩;obtain rfl:=n;have k:=J f;have h:=f.size;clear f A;have i:=J (B8 (Q.out.below k.out) H)
 go_wp2_with fail
 refine i.out.mono ?_;rintro e M ⟨T,rfl,p,c⟩;obtain rfl:=p;have t:=J (aE k.out c h);have P:w.heap.size<=M.heap.size:=Ma h c.size;clear c i
 go_wp2
 go_loopw [5,7] (fun x y wr=>JL w (Nat.gcd X Y) x y wr) (fun _ y _=>(intOf y).toNat)
 case atStart=>exact⟨X,Y,Z,Z,C,H,Z,t.out⟩
 case round=>
  obtain⟨a,b,rfl,rfl,I,R,F,d⟩:=hrel;have E:=J F;have g:=J d;have s:=d.size;clear F d;by_cases N:0<b
  ·have O:((b:Int)==0)=false:=by rw[beq_eq_false_iff_ne];omega
   have D:((a:Int)%(b:Int))=((a%b:Nat):Int):=by omega
   have K:a%b<b:=Ni _ N
   go_wp2
   go_quiet (fail)
   go_wp2
   go_roundw
   case rel=>exact⟨b,a%b,Z,by first|rfl|(congr 1;simp[Oe]),R,by omega,by rw[<-E.out,Ot b,<-P2,Ot],bh g.out⟩
   case measure=>first|(simp[intOf];omega)|(simp[intOf,Oe];omega)
  obtain rfl:b=0:=by omega
  have m:Nat.gcd X Y=a:=by rw[<-E.out,O9]
  have q:=J m;have L:=J (fun w=>qc a w I);clear m
  go_wp2_with fail
  refine(L.out _).mono ?_;rintro e S ⟨v4,rfl,l,j⟩;have z:=J l;have o:=J (aE g.out j s);clear l j
  go_wp2
  go_ret
  exact⟨_,Z,by rw[q.out];exact z.out,o.out⟩
theorem ko(a:List Nat)(m k g:Nat)(b:a.length=k):(a++List.replicate (m+1) 0).set k g=(a++[g])++List.replicate m 0:=by
 subst b;rw[NK _ _ (L4 _),M2,OG,NO,Mv];rfl
theorem d9{a:List Nat}{g:Nat}(h:Digs a)(e:g<4294967296):Digs (a++[g]):=fun d c=>by
 rcases Mw.1 c with b|b
 ·exact h d b
 simp at b;omega
theorem o0{a b:List Nat}(h:Digs a)(f:Digs b):Digs (a++b):=fun d e=>by
 rcases Mw.1 e with c|c
 ·exact h d c
 exact f d c
theorem OwnN.put{w:World}{base g n a i:Nat}{l:List Nat}(h:OwnN w base (.slice (some ⟨g,0,none⟩) n a) l)(b:n=l.length)(z:Int)(d:Nat)(c:z=(d:Int)):
  OwnN (w.setCell ⟨g,i,none⟩ (.int .u32 z)) base (.slice (some ⟨g,0,none⟩) n a) (l.set i d):=by
 subst c;have e:OwnN w base (.slice (some ⟨g,0,none⟩) l.length a) l:=by rw[<-b];exact h
 have:=e.set (i:=i) d;rw[MJ,<-b]at this;exact this
def AddInv(w2:World)(n:Nat)(dx dy:List Nat)(cr i:Value)(wr:World):Prop:=
 ∃(k c:Nat) (out:List Nat),k<=dx.length/\i=.int .i64 k/\cr=.int .u64 c/\c<=1/\out.length=k/\Digs out/\OwnN wr w2.heap.size (.slice (some ⟨w2.heap.size,0,none⟩) n n) (out++List.replicate (n-k) 0)/\ay out+4294967296^k*c=ay (dx.take k)+ay (dy.take k)/\Below w2.heap.size w2 wr/\w2.heap.size<wr.heap.size
theorem Fm{a b d:List Nat}{k c nc x y g:Nat}(f:k<b.length)(e:a.length=k)(m:ay a+4294967296^k*c=ay (b.take k)+ay (d.take k))(j:b[k]=x)(h:ay (d.take (k+1))=ay (d.take k)+4294967296^k*y)(i:g+4294967296*nc=x+y+c):
  ay (a++[g])+4294967296^(k+1)*nc=ay (b.take (k+1))+ay (d.take (k+1)):=by
 rw[dO a g k e,df b k f,j,h,MH];generalize 4294967296^k=P at*;have l:P*(g+4294967296*nc)=P*(x+y+c):=by rw[i]
 rw[MB,MB,MB]at l;rw[Mu];omega
theorem AddInv.next{b wr:World}{n:Nat}{e h a:List Nat}{k c nc x y g:Nat}{z q i:Int}(D:n=e.length+1)(o:k<e.length)(f:a.length=k)(m:Digs a)(l:OwnN wr b.heap.size (.slice (some ⟨b.heap.size,0,none⟩) n n) (a++List.replicate (n-k) 0))
  (u:ay a+4294967296^k*c=ay (e.take k)+ay (h.take k)) (t:e[k]=x) (B:ay (h.take (k+1))=ay (h.take k)+4294967296^k*y) (C:Below b.heap.size b wr) (A:b.heap.size<wr.heap.size) (s:z=(g:Int)) (r:q=(nc:Int)) (v:i=((k+1:Nat):Int)) (w:g+4294967296*nc=x+y+c) (d:g<4294967296) (j:nc<=1):
  AddInv b n e h (.int .u64 q) (.int .i64 i) (wr.setCell ⟨b.heap.size,k,none⟩ (.int .u32 z)):=by
 subst r v;refine⟨k+1,nc,a++[g],o,Z,Z,j,by simp[f],d9 m d,?_,Fm o f u t B w,C.setCell (p:=⟨b.heap.size,k,none⟩) (L4 _) _,by simpa[World.setCell]using A⟩;have:=l.put (i:=k) (by simp[f];omega) z g s;rw[show n-k=n-(k+1)+1 by omega,ko _ _ _ _ f]at this;exact this
theorem qe(l:List Nat)(k:Nat)(h:l.length<=k):ay (l.take (k+1))=ay (l.take k)+4294967296^k*0:=by
 rw[Me (i:=k+1) (by omega),Me (i:=k) (by omega)];simp
theorem OwnN.isN{w:World}{base n c:Nat}{A:Option Addr}{l:List Nat}(h:OwnN w base (.slice A n c) l)(a:Digs l):IsN w A c l/\n=l.length:=by
 obtain⟨i,j,e,g⟩:=h.is a;injection e with d f b
 subst d b;exact⟨g,f⟩
theorem o4{A:Option Addr}{c n N:Nat}{a:List Nat}{w:World}(h:IsN w A c a)(e:n=a.length)(b:a.length<=1073741823)(d:ay a=N):
  Calls Tryz.prog 193 #[.slice A n c] w (gF (fun W v=>IsD W v N) w):=by
 subst e d;exact sv A c a w h b
theorem IsN.lt{W:World}{A:Option Addr}{c:Nat}{l:List Nat}(h:IsN W A c l){i:Nat}(a:i<l.length):l[i]<4294967296:=h.ok _ (M7 a)
theorem LH{u v:Value}{X Y:Nat}{w:World}(hu:IsD w u X)(hv:IsD w v Y)(e4:(ax X).length<=1048576)(e6:(ax Y).length<=1048576):Calls Tryz.prog 196 #[u,v] w (gF (fun W r=>IsD W r (X+Y)) w):=by
 have HC:=J (kY hu (by omega));have HV:=J hv;obtain⟨A0,c0,rfl,_⟩:=hu;obtain⟨B0,e0,rfl,_⟩:=hv
 go_enter Tryz.func196,Tryz.ntmps196
 go_wp2_with fail
 refine HC.out.mono ?_;rintro e w1 ⟨v1,rfl,c3,a1⟩;obtain⟨A1,c1,l,rfl,d4,M⟩:=c3.open_;have d0:=J d4;have d3:=J a1;have d1:=J M.out;have b1:=a1.size;clear c3 d4 a1 M HC;have b2:=J (kY (HV.out.below d3.out) (by omega))
 go_wp2_with fail
 refine b2.out.mono ?_;rintro e T ⟨v2,rfl,e1,V⟩;obtain⟨A2,c2,j,rfl,c5,M⟩:=e1.open_;have U:=J c5;have a0:=J (d0.out.below V);have d2:=J (aE d3.out V b1);have b3:=J M.out;have c9:w.heap.size<=T.heap.size:=Ma b1 V.size;clear e1 c5 V M b2 d0;have c4:Hid (ay l=X):=by rw[d1.out];exact aO X
 have b5:Hid (ay j=Y):=by rw[b3.out];exact aO Y
 have e9:l.length<=1048576:=by rw[d1.out];exact e4
 have e7:j.length<=1048576:=by rw[b3.out];exact e6
 by_cases f0:l.length<j.length
 ·obtain⟨W,o,P,R,a4⟩:=eO T (j.length+1) (by omega);have o:=o .i64 .i64;have a3:=J P;have a2:=J R;have F:T.heap.size<W.heap.size:=by omega
  clear P R a4;rw[show((j.length+1:Nat):Int)=(j.length:Int)+1 by omega]at o
  go_wp2
  clear o
  go_loopw [6,27] (fun cr i wr=>AddInv T (j.length+1) j l cr i wr) (fun _ i _=>j.length-(intOf i).toNat)
  case atStart=>exact⟨0,0,[],Mp _,Z,Z,by omega,Z,fun d hd=>by simp at hd,by simpa using a3.out,by simp[ay],a2.out,F⟩
  case round=>
   obtain⟨k,c,n,hk,rfl,rfl,hc,E,S,I,A,K,G⟩:=hrel;have h:=J I;have HQ:=J A;have f:=J K;have a:=J E;have t:=J S;clear I A K E S;by_cases m:k<j.length
   ·obtain⟨bx,ox,rfl,e2,L⟩:=(U.out.below f.out).digit m;have cx:=L k m;have C:=U.out.lt m;obtain⟨x,hx⟩:∃x,j[k]=x:=⟨_,rfl⟩;rw[hx]at cx C;have HX:=J hx;have b0:=h.out.free k;have z:=h.out.cell (i:=k) (by have:=a.out;simp;omega);obtain⟨old,b⟩:∃old,(n++List.replicate (j.length+1-k) 0)[k]'(by have:=a.out;simp;omega)=old:=⟨_,rfl⟩;rw[b]at z;clear L hx b;by_cases q:k<l.length
    ·obtain⟨e3,oy,rfl,e5,N⟩:=(a0.out.below f.out).digit q;have cy:=N k q;have D:=a0.out.lt q;obtain⟨y,hy⟩:∃y,l[k]=y:=⟨_,rfl⟩;rw[hy]at cy D;have HY:=J (show ay (l.take (k+1))=ay (l.take k)+4294967296^k*y by rw[df l k q,hy]);clear N hy
     go_wp2
     go_roundw
     case rel=>exact AddInv.next (nc:=(x+c+y)/4294967296) (g:=(x+c+y)%4294967296) Z m a.out t.out h.out HQ.out HX.out HY.out f.out G (by omega) (by omega) (by omega) (by omega) (by omega) (by omega)
     case measure=>simp[intOf];omega
    have HY:=J (qe l k (by omega))
    go_wp2
    go_roundw
    case rel=>exact AddInv.next (nc:=(x+c)/4294967296) (g:=(x+c)%4294967296) Z m a.out t.out h.out HQ.out HX.out HY.out f.out G (by omega) (by omega) (by omega) (by omega) (by omega) (by omega)
    case measure=>simp[intOf];omega
   obtain rfl:k=j.length:=by omega
   have b0:=h.out.free j.length;have z:=h.out.cell (i:=j.length) (by have:=a.out;simp;omega);obtain⟨old,b⟩:∃old,(n++List.replicate (j.length+1-j.length) 0)[j.length]'(by have:=a.out;simp;omega)=old:=⟨_,rfl⟩;rw[b]at z;clear b;have h3:=h.out.put (i:=j.length) (by have:=a.out;simp;omega) (c:Int) c Z;rw[show j.length+1-j.length=0+1 by omega,ko _ _ _ _ a.out,NI,Mq]at h3;have H:Digs (n++[c]):=d9 t.out (by omega);obtain⟨h4,h5⟩:=h3.isN H;have s:ay (n++[c])=X+Y:=by
    have h1:=HQ.out;rw[M6,Me (by omega),b5.out,c4.out]at h1;rw[dO n c j.length a.out];omega
   have HT:=J (o4 h4 h5 (by have:=a.out;simp;omega) s);have B:=J (f.out.setCell (p:=⟨T.heap.size,j.length,none⟩) (L4 _) (.int .u32 (c:Int)));clear h3 h4 h5 H s
   go_wp2_with fail
   refine HT.out.mono ?_;rintro e w5 ⟨v5,rfl,O,Q⟩;have a9:=J O;have a5:=J (aE d2.out (aE B.out Q B.out.size) c9);clear O Q
   go_wp2
   go_ret
   exact⟨_,Z,a9.out,a5.out⟩
 obtain⟨W,o,P,R,a4⟩:=eO T (l.length+1) (by omega);have o:=o .i64 .i64;have a3:=J P;have a2:=J R;have F:T.heap.size<W.heap.size:=by omega
 clear P R a4;rw[show((l.length+1:Nat):Int)=(l.length:Int)+1 by omega]at o
 go_wp2
 clear o
 go_loopw [6,27] (fun cr i wr=>AddInv T (l.length+1) l j cr i wr) (fun _ i _=>l.length-(intOf i).toNat)
 case atStart=>exact⟨0,0,[],Mp _,Z,Z,by omega,Z,fun d hd=>by simp at hd,by simpa using a3.out,by simp[ay],a2.out,F⟩
 case round=>
  obtain⟨k,c,n,hk,rfl,rfl,hc,E,S,I,A,K,G⟩:=hrel;have h:=J I;have HQ:=J A;have f:=J K;have a:=J E;have t:=J S;clear I A K E S;by_cases m:k<l.length
  ·obtain⟨bx,ox,rfl,e2,L⟩:=(a0.out.below f.out).digit m;have cx:=L k m;have C:=a0.out.lt m;obtain⟨x,hx⟩:∃x,l[k]=x:=⟨_,rfl⟩;rw[hx]at cx C;have HX:=J hx;have b0:=h.out.free k;have z:=h.out.cell (i:=k) (by have:=a.out;simp;omega);obtain⟨old,b⟩:∃old,(n++List.replicate (l.length+1-k) 0)[k]'(by have:=a.out;simp;omega)=old:=⟨_,rfl⟩;rw[b]at z;clear L hx b;by_cases q:k<j.length
   ·obtain⟨e3,oy,rfl,e5,N⟩:=(U.out.below f.out).digit q;have cy:=N k q;have D:=U.out.lt q;obtain⟨y,hy⟩:∃y,j[k]=y:=⟨_,rfl⟩;rw[hy]at cy D;have HY:=J (show ay (j.take (k+1))=ay (j.take k)+4294967296^k*y by rw[df j k q,hy]);clear N hy
    go_wp2
    go_roundw
    case rel=>exact AddInv.next (nc:=(x+c+y)/4294967296) (g:=(x+c+y)%4294967296) Z m a.out t.out h.out HQ.out HX.out HY.out f.out G (by omega) (by omega) (by omega) (by omega) (by omega) (by omega)
    case measure=>simp[intOf];omega
   have HY:=J (qe j k (by omega))
   go_wp2
   go_roundw
   case rel=>exact AddInv.next (nc:=(x+c)/4294967296) (g:=(x+c)%4294967296) Z m a.out t.out h.out HQ.out HX.out HY.out f.out G (by omega) (by omega) (by omega) (by omega) (by omega) (by omega)
   case measure=>simp[intOf];omega
  obtain rfl:k=l.length:=by omega
  have b0:=h.out.free l.length;have z:=h.out.cell (i:=l.length) (by have:=a.out;simp;omega);obtain⟨old,b⟩:∃old,(n++List.replicate (l.length+1-l.length) 0)[l.length]'(by have:=a.out;simp;omega)=old:=⟨_,rfl⟩;rw[b]at z;clear b;have h3:=h.out.put (i:=l.length) (by have:=a.out;simp;omega) (c:Int) c Z;rw[show l.length+1-l.length=0+1 by omega,ko _ _ _ _ a.out,NI,Mq]at h3;have H:Digs (n++[c]):=d9 t.out (by omega);obtain⟨h4,h5⟩:=h3.isN H;have s:ay (n++[c])=X+Y:=by
   have h1:=HQ.out;rw[M6,Me (by omega),c4.out,b5.out]at h1;rw[dO n c l.length a.out];omega
  have HT:=J (o4 h4 h5 (by have:=a.out;simp;omega) s);have B:=J (f.out.setCell (p:=⟨T.heap.size,l.length,none⟩) (L4 _) (.int .u32 (c:Int)));clear h3 h4 h5 H s
  go_wp2_with fail
  refine HT.out.mono ?_;rintro e w5 ⟨v5,rfl,O,Q⟩;have a9:=J O;have a5:=J (aE d2.out (aE B.out Q B.out.size) c9);clear O Q
  go_wp2
  go_ret
  exact⟨_,Z,a9.out,a5.out⟩
def KQ(X Y:Nat)(W:World)(r:Value):Prop:=(Y<=X->∃v,r=.tuple #[v,.bool true]/\IsD W v (X-Y))/\(X<Y->r=.tuple #[.slice none 0 0,.bool false])
def SbInv(w2:World)(dx dy:List Nat)(br i:Value)(wr:World):Prop:=
 ∃(k b:Nat) (out:List Nat),k<=dx.length/\i=.int .i64 k/\br=.int .u64 b/\b<=1/\out.length=k/\Digs out/\OwnN wr w2.heap.size (.slice (some ⟨w2.heap.size,0,none⟩) dx.length dx.length) (out++List.replicate (dx.length-k) 0)/\ay out+ay (dy.take k)=ay (dx.take k)+4294967296^k*b/\Below w2.heap.size w2 wr/\w2.heap.size<wr.heap.size
theorem SbInv.next{d wr:World}{c h a:List Nat}{k b nb x y g:Nat}{z q i:Int}(n:k<c.length)(f:a.length=k)(m:Digs a)(l:OwnN wr d.heap.size (.slice (some ⟨d.heap.size,0,none⟩) c.length c.length) (a++List.replicate (c.length-k) 0))
  (t:ay a+ay (h.take k)=ay (c.take k)+4294967296^k*b) (s:c[k]=x) (A:ay (h.take (k+1))=ay (h.take k)+4294967296^k*y) (B:Below d.heap.size d wr) (w:d.heap.size<wr.heap.size) (r:z=(g:Int)) (o:q=(nb:Int)) (u:i=((k+1:Nat):Int)) (v:g+(b+y)=x+4294967296*nb) (e:g<4294967296) (j:nb<=1):
  SbInv d c h (.int .u64 q) (.int .i64 i) (wr.setCell ⟨d.heap.size,k,none⟩ (.int .u32 z)):=by
 subst o u;refine⟨k+1,nb,a++[g],n,Z,Z,j,by simp[f],d9 m e,?_,xM n f t s A v,B.setCell (p:=⟨d.heap.size,k,none⟩) (L4 _) _,by simpa[World.setCell]using w⟩;have:=l.put (i:=k) (by simp[f];omega) z g r;rw[show c.length-k=c.length-(k+1)+1 by omega,ko _ _ _ _ f]at this;exact this
theorem LI{u v:Value}{X Y:Nat}{w:World}(hu:IsD w u X)(hv:IsD w v Y)(d4:(ax X).length<=1048576)(f5:(ax Y).length<=1048576):Calls Tryz.prog 197 #[u,v] w (gF (KQ X Y) w):=by
 have HC:=J (kY hu (by omega));have HV:=J hv;obtain⟨A0,c0,rfl,_⟩:=hu;obtain⟨B0,e0,rfl,_⟩:=hv
 go_enter Tryz.func197,Tryz.ntmps197
 go_wp2_with fail
 refine HC.out.mono ?_;rintro e w1 ⟨v1,rfl,a2,o⟩;obtain⟨A1,c1,n,rfl,c5,r⟩:=a2.open_;have a5:=J c5;have c4:=J o;have B:=J r.out;have S:=o.size;clear a2 c5 o r HC;have V:=J (kY (HV.out.below c4.out) (by omega))
 go_wp2_with fail
 refine V.out.mono ?_;rintro e w2 ⟨v2,rfl,d2,C⟩;obtain⟨A2,c2,s,rfl,a3,r⟩:=d2.open_;have K:=J a3;have N:=J (a5.out.below C);have f3:=J (aE c4.out C S);have t:=J r.out;have a4:w.heap.size<=w2.heap.size:=Ma S C.size;clear d2 a3 C r V a5;have f1:Hid (ay n=X):=by rw[B.out];exact aO X
 have e7:Hid (ay s=Y):=by rw[t.out];exact aO Y
 have f8:n.length<=1048576:=by rw[B.out];exact d4
 have f7:s.length<=1048576:=by rw[t.out];exact f5
 have f:(eo (X:Int) (Y:Int)<0)↔X<Y:=by
  rcases OQ X Y with h|h|h
  ·rw[km h];omega
  ·rw[ju h];omega
  rw[jt h];omega
 have M:=J (Fl (N.out.isD B.out) (K.out.isD t.out) (by omega) (by omega));obtain⟨cm,c9⟩:∃cm,eo (X:Int) (Y:Int)=cm:=⟨_,rfl⟩;rw[c9]at M f;clear c9
 go_wp2_with fail
 refine M.out.mono ?_;rintro e O ⟨v3,rfl,d3,p⟩;obtain rfl:=d3;have G:=J (N.out.below p);have E:=J (K.out.below p);have b2:=J (aE f3.out p a4);have f2:w.heap.size<=O.heap.size:=Ma a4 p.size;clear p M N K;by_cases I:X<Y
 ·have e2:cm<0:=f.2 I;clear f
  go_wp2
  go_ret2
  exact⟨_,Z,⟨fun h=>by omega,fun _=>rfl⟩,b2.out⟩
 have e2:¬cm<0:=fun h=>I (f.1 h)
 have e5:Y<=X:=by omega
 clear f;obtain⟨W,L,b5,d0,e4⟩:=eO O n.length (by omega);have L:=L .i64 .i64;have e3:=J b5;have e1:=J d0;have a1:O.heap.size<W.heap.size:=by omega
 clear b5 d0 e4
 go_wp2
 clear L
 go_loopw [7,24] (fun br i wr=>SbInv O n s br i wr) (fun _ i _=>n.length-(intOf i).toNat)
 case atStart=>exact⟨0,0,[],Mp _,Z,Z,by omega,Z,fun d hd=>by simp at hd,by simpa using e3.out,by simp[ay],e1.out,a1⟩
 case round=>
  obtain⟨k,b,D,hk,rfl,rfl,hb,a0,d1,q,P,a9,A⟩:=hrel;have j:=J q;have T:=J P;have a:=J a9;have c:=J a0;have m:=J d1;clear q P a9 a0 d1;by_cases l:k<n.length
  ·obtain⟨bx,ox,rfl,f9,b0⟩:=(G.out.below a.out).digit l;have cx:=b0 k l;have R:=G.out.lt l;obtain⟨x,hx⟩:∃x,n[k]=x:=⟨_,rfl⟩;rw[hx]at cx R;have HX:=J hx;have g2:=j.out.free k;have f4:=j.out.cell (i:=k) (by have:=c.out;simp;omega);obtain⟨old,H⟩:∃old,(D++List.replicate (n.length-k) 0)[k]'(by have:=c.out;simp;omega)=old:=⟨_,rfl⟩;rw[H]at f4;clear b0 hx H;by_cases z:k<s.length
   ·obtain⟨g0,oy,rfl,g1,b1⟩:=(E.out.below a.out).digit z;have cy:=b1 k z;have U:=E.out.lt z;obtain⟨y,hy⟩:∃y,s[k]=y:=⟨_,rfl⟩;rw[hy]at cy U;have Q:=J (show ay (s.take (k+1))=ay (s.take k)+4294967296^k*y by rw[df s k z,hy]);clear b1 hy;by_cases o:x<b+y
    ·go_wp2
     go_roundw
     case rel=>exact SbInv.next (nb:=1) (g:=x+4294967296-(b+y)) l c.out m.out j.out T.out HX.out Q.out a.out A (by omega) Z (by omega) (by omega) (by omega) (by omega)
     case measure=>simp[intOf];omega
    go_wp2
    go_roundw
    case rel=>exact SbInv.next (nb:=0) (g:=x-(b+y)) l c.out m.out j.out T.out HX.out Q.out a.out A (by omega) Z (by omega) (by omega) (by omega) (by omega)
    case measure=>simp[intOf];omega
   have Q:=J (qe s k (by omega));by_cases o:x<b
   ·go_wp2
    go_roundw
    case rel=>exact SbInv.next (y:=0) (nb:=1) (g:=x+4294967296-b) l c.out m.out j.out T.out HX.out Q.out a.out A (by omega) Z (by omega) (by omega) (by omega) (by omega)
    case measure=>simp[intOf];omega
   go_wp2
   go_roundw
   case rel=>exact SbInv.next (y:=0) (nb:=0) (g:=x-b) l c.out m.out j.out T.out HX.out Q.out a.out A (by omega) Z (by omega) (by omega) (by omega) (by omega)
   case measure=>simp[intOf];omega
  obtain rfl:k=n.length:=by omega
  have e9:s.length<=n.length:=by rw[B.out,t.out];exact a7 e5
  have q:OwnN wr O.heap.size (.slice (some ⟨O.heap.size,0,none⟩) n.length n.length) D:=by have:=j.out;rwa[M2,NI,Mq]at this
  obtain⟨h4,h5⟩:=q.isN m.out;have F:ay D=X-Y:=by
   have h1:=T.out;rw[Me e9,M6,f1.out,e7.out]at h1;have h2:=b8 D m.out;rw[c.out]at h2;have h3:b=0\/b=1:=by omega
   rcases h3 with rfl|rfl
   ·rw[OB]at h1;omega
   rw[NQ]at h1;omega
  have HT:=J (o4 h4 h5 (by have:=c.out;omega) F);clear q h4 h5 F
  go_wp2_with fail
  refine HT.out.mono ?_;rintro e w5 ⟨v5,rfl,b3,c3⟩;have f0:=J b3;have e6:=J (aE b2.out (aE a.out c3 a.out.size) f2);clear b3 c3
  go_wp2
  go_ret2
  exact⟨_,Z,⟨fun _=>⟨_,Z,f0.out⟩,fun h=>by omega⟩,e6.out⟩
def MulInv(w2:World)(n:Nat)(dx dy:List Nat)(i:Value)(wr:World):Prop:=
 ∃(k:Nat) (out:List Nat),k<=dx.length/\i=.int .i64 k/\out.length=k+dy.length/\Digs out/\OwnN wr w2.heap.size (.slice (some ⟨w2.heap.size,0,none⟩) n n) (out++List.replicate (dx.length-k) 0)/\ay out=ay (dx.take k)*ay dy/\Below w2.heap.size w2 wr/\w2.heap.size<wr.heap.size
def MuliInv(w2:World)(n k x:Nat)(out dx dy:List Nat)(cr j:Value)(wr:World):Prop:=
 ∃(m c:Nat) (lo:List Nat),m<=dy.length/\j=.int .i64 m/\cr=.int .u64 c/\c<4294967296/\lo.length=k+m/\Digs lo/\OwnN wr w2.heap.size (.slice (some ⟨w2.heap.size,0,none⟩) n n) (lo++(out.drop (k+m)++List.replicate (dx.length-k) 0))/\ay lo+4294967296^(k+m)*c=ay (out.take (k+m))+4294967296^k*(x*ay (dy.take m))/\Below w2.heap.size w2 wr/\w2.heap.size<wr.heap.size
theorem Dk{lo a b:List Nat}{k m c x y d t:Nat}(g:m<b.length)(i:lo.length=k+m)(e:k+m<a.length)(o:ay lo+4294967296^(k+m)*c=ay (a.take (k+m))+4294967296^k*(x*ay (b.take m)))(h:b[m]=y)(f:a[k+m]=d)(j:t=x*y+d+c):
  ay (lo++[t%4294967296])+4294967296^(k+(m+1))*(t/4294967296)=ay (a.take (k+(m+1)))+4294967296^k*(x*ay (b.take (m+1))):=by
 rw[dO lo _ (k+m) i,show k+(m+1)=k+m+1 by omega,df a (k+m) e,f,df b m g,h,MH];have n:4294967296^(k+m)*(t%4294967296)+4294967296^(k+m)*4294967296*(t/4294967296)=4294967296^(k+m)*t:=by
  rw[Mu,<-MB,Nat.mod_add_div]
 have p:4294967296^k*(x*(ay (b.take m)+4294967296^m*y))=4294967296^k*(x*ay (b.take m))+4294967296^(k+m)*(x*y):=by
  rw[MB,MB,NZ];congr 1;rw[NM x,Mu]
 have l:4294967296^(k+m)*t=4294967296^(k+m)*(x*y)+4294967296^(k+m)*d+4294967296^(k+m)*c:=by
  rw[j,MB,MB]
 omega
theorem Fn{lo a:List Nat}{p g:Nat}{tl:List Nat}(b:lo.length=p)(c:p<a.length):(lo++(a.drop p++tl)).set p g=(lo++[g])++(a.drop (p+1)++tl):=by
 subst b;rw[NK _ _ (L4 _),M2,Mc c,Na,NO,Mv];rfl
theorem B9{lo a:List Nat}{p:Nat}{tl:List Nat}(b:lo.length=p)(c:p<a.length):∃h:p<(lo++(a.drop p++tl)).length,(lo++(a.drop p++tl))[p]=a[p]:=by
 subst b;refine⟨by simp;omega,?_⟩;rw[O5 (L4 _),List.getElem_append_left (by simp;omega),OR];simp
theorem MuliInv.next{b wr:World}{n k x m c y d:Nat}{a g e lo:List Nat}{z q i:Int}(G:n=g.length+e.length)(F:k<g.length)(l:a.length=k+e.length)(t:m<e.length)(f:lo.length=k+m)(o:Digs lo)(r:OwnN wr b.heap.size (.slice (some ⟨b.heap.size,0,none⟩) n n) (lo++(a.drop (k+m)++List.replicate (g.length-k) 0)))
  (w:ay lo+4294967296^(k+m)*c=ay (a.take (k+m))+4294967296^k*(x*ay (e.take m))) (D:e[m]=y) (j:∃h:k+m<a.length,a[k+m]=d) (E:Below b.heap.size b wr) (C:b.heap.size<wr.heap.size) (v:z=(((x*y+d+c)%4294967296:Nat):Int)) (u:q=(((x*y+d+c)/4294967296:Nat):Int)) (A:i=((m+1:Nat):Int)) (B:(x*y+d+c)/4294967296<4294967296):
  MuliInv b n k x a g e (.int .u64 q) (.int .i64 i) (wr.setCell ⟨b.heap.size,k+m,none⟩ (.int .u32 z)):=by
 subst u A;obtain⟨s,j⟩:=j;refine⟨m+1,_,lo++[(x*y+d+c)%4294967296],t,Z,Z,B,by simp[f];omega,d9 o (Ni _ (by decide)),?_,Dk t f s w D j Z,E.setCell (p:=⟨b.heap.size,k+m,none⟩) (L4 _) _,by simpa[World.setCell]using C⟩;have:=r.put (i:=k+m) (by simp[f,l];omega) z _ v;rw[Fn f s]at this;exact this
theorem MulInv.next{e wr:World}{n k x c:Nat}{d b a lo:List Nat}{z i:Int}(w:n=b.length+a.length)(l:k<b.length)(q:d.length=k+a.length)(h:ay d=ay (b.take k)*ay a)(r:b[k]=x)(g:lo.length=k+a.length)(j:Digs lo)(s:c<4294967296)(f:OwnN wr e.heap.size (.slice (some ⟨e.heap.size,0,none⟩) n n) (lo++(d.drop (k+a.length)++List.replicate (b.length-k) 0)))
  (m:ay lo+4294967296^(k+a.length)*c=ay (d.take (k+a.length))+4294967296^k*(x*ay (a.take a.length))) (u:Below e.heap.size e wr) (t:e.heap.size<wr.heap.size) (o:z=(c:Int)) (v:i=((k+1:Nat):Int)):
  MulInv e n b a (.int .i64 i) (wr.setCell ⟨e.heap.size,k+a.length,none⟩ (.int .u32 z)):=by
 subst v;rw[Md (by omega),MI]at f;rw[Me (by omega),M6]at m;refine⟨k+1,lo++[c],l,Z,by simp[g];omega,d9 j s,?_,?_,u.setCell (p:=⟨e.heap.size,k+a.length,none⟩) (L4 _) _,by simpa[World.setCell]using t⟩
 ·have:=f.put (i:=k+a.length) (by simp[g];omega) z c o;rw[show b.length-k=b.length-(k+1)+1 by omega,ko _ _ _ _ g]at this;exact this
 rw[dO lo c _ g,m,h,df b k l,r,M5,Mu]
theorem wA{x y d c:Nat}(b:x<4294967296)(a:y<4294967296)(e:d<4294967296)(f:c<4294967296):x*y+d+c<18446744073709551616/\x*y<=18446744065119617025:=by
 have h:x*y<=4294967295*4294967295:=NY (by omega) (by omega);omega
theorem LJ{u v:Value}{X Y:Nat}{w:World}(hu:IsD w u X)(hv:IsD w v Y)(f0:(ax X).length<=1048576)(g4:(ax Y).length<=1048576):Calls Tryz.prog 152 #[u,v] w (gF (fun W r=>IsD W r (X*Y)) w):=by
 have HC:=J (kY hu (by omega));have HV:=J hv;obtain⟨A0,c0,rfl,_⟩:=hu;obtain⟨B0,e0,rfl,_⟩:=hv
 go_enter Tryz.func152,Tryz.ntmps152
 go_wp2_with fail
 refine HC.out.mono ?_;rintro e w1 ⟨v1,rfl,b2,M⟩;obtain⟨A1,c1,f,rfl,e3,s⟩:=b2.open_;have b5:=J e3;have e2:=J M;have c4:=J s.out;have R:=M.size;clear b2 e3 M s HC;have a2:=J (kY (HV.out.below e2.out) (by omega))
 go_wp2_with fail
 refine a2.out.mono ?_;rintro e L ⟨v2,rfl,e6,D⟩;obtain⟨A2,c2,a,rfl,b3,s⟩:=e6.open_;have a0:=J b3;have d2:=J (b5.out.below D);have g2:=J (aE e2.out D R);have a4:=J s.out;have g1:w.heap.size<=L.heap.size:=Ma R D.size;clear e6 b3 D s a2 b5;have g0:Hid (ay f=X):=by rw[c4.out];exact aO X
 have f7:Hid (ay a=Y):=by rw[a4.out];exact aO Y
 have h3:f.length<=1048576:=by rw[c4.out];exact f0
 have h0:a.length<=1048576:=by rw[a4.out];exact g4
 obtain⟨W,B,d4,e4,f3⟩:=eO L (f.length+a.length) (by omega);have B:=B .i64 .i64;have f2:=J d4;have f1:=J e4;have a9:L.heap.size<W.heap.size:=by omega
 clear d4 e4 f3;rw[show((f.length+a.length:Nat):Int)=(f.length:Int)+(a.length:Int) by omega]at B
 go_wp2
 clear B
 go_loopw [24] (fun i wr=>MulInv L (f.length+a.length) f a i wr) (fun i _=>f.length-(intOf i).toNat)
 case atStart=>exact⟨0,List.replicate a.length 0,Mp _,Z,by simp,jS _,by rw[O7,Pu,show a.length+f.length=f.length+a.length by omega];exact f2.out,by simp[kz,ay],f1.out,a9⟩
 case round=>
  obtain⟨k,b,hk,rfl,a3,e5,p,b0,c3,f8⟩:=hrel;have a1:=J p;have U:=J b0;have g:=J c3;have n:=J a3;have N:=J e5;clear p b0 c3 a3 e5;by_cases q:k<f.length
  ·obtain⟨bx,ox,rfl,h7,c9⟩:=(d2.out.below g.out).digit q;have cx:=c9 k q;have F:=d2.out.lt q;obtain⟨x,hx⟩:∃x,f[k]=x:=⟨_,rfl⟩;rw[hx]at cx F;have HX:=J hx;clear c9 hx
   go_wp2
   clear cx
   go_loopw [8,31] (fun cr j wi=>MuliInv L (f.length+a.length) k x b f a cr j wi) (fun _ j _=>a.length-(intOf j).toNat)
   case atStart=>
    refine⟨0,0,b.take k,Mp _,Z,Z,by omega,?_,fun d V=>N.out d (ME V),?_,by simp[ay],g.out,f8⟩
    ·rw[Mf,n.out];omega
    rw[Nk,<-Mv,M4];exact a1.out
   case round=>
    rename World=>wi
    obtain⟨m,c,lo,hm,rfl,rfl,hc,Q,T,d1,e7,b1,a5⟩:=hrel;have l:=J d1;have S:=J e7;have O:=J b1;have z:=J Q;have c5:=J T;clear d1 e7 b1 Q T;by_cases A:m<a.length
    ·obtain⟨h8,oy,rfl,h9,d0⟩:=(a0.out.below O.out).digit A;have cy:=d0 m A;have H:=a0.out.lt A;obtain⟨y,hy⟩:∃y,a[m]=y:=⟨_,rfl⟩;rw[hy]at cy H;have HY:=J hy;have C:k+m<b.length:=by have:=n.out;omega
     obtain⟨h1,h2⟩:=B9 (tl:=List.replicate (f.length-k) 0) z.out C;have E:=l.out.cell h1;rw[h2]at E;have g3:=l.out.free (k+m);have K:b[k+m]<4294967296:=N.out _ (M7 C);obtain⟨d,V⟩:∃d,b[k+m]=d:=⟨_,rfl⟩;rw[V]at E K;have HD:=J (show∃h:k+m<b.length,b[k+m]=d from⟨C,V⟩);obtain⟨f5,e9⟩:=wA F H K hc;obtain⟨xy,t⟩:∃xy,x*y=xy:=⟨_,rfl⟩;have h6:(x:Int)*(y:Int)=(xy:Int):=by rw[<-t];simp
     rw[t]at f5 e9;have P:=J t;clear d0 hy h1 h2 V t C
     go_wp2
     go_roundw
     case rel=>exact MuliInv.next Z q n.out A z.out c5.out l.out S.out HY.out HD.out O.out a5 (by rw[P.out];omega) (by rw[P.out];omega) (by omega) (by rw[P.out];omega)
     case measure=>simp[intOf];omega
    obtain rfl:m=a.length:=by omega
    have o:k+a.length<(lo++(b.drop (k+a.length)++List.replicate (f.length-k) 0)).length:=by have:=z.out;simp;omega
    have E:=l.out.cell o;have g3:=l.out.free (k+a.length);obtain⟨old,I⟩:∃old,(lo++(b.drop (k+a.length)++List.replicate (f.length-k) 0))[k+a.length]=old:=⟨_,rfl⟩;rw[I]at E;clear I o
    go_wp2
    go_roundw
    case rel=>exact MulInv.next Z q n.out U.out HX.out z.out c5.out hc l.out S.out O.out a5 (by omega) (by omega)
    case measure=>simp[intOf];omega
  obtain rfl:k=f.length:=by omega
  have p:OwnN wr L.heap.size (.slice (some ⟨L.heap.size,0,none⟩) (f.length+a.length) (f.length+a.length)) b:=by have:=a1.out;rwa[M2,NI,Mq]at this
  obtain⟨h4,h5⟩:=p.isN N.out;have G:ay b=X*Y:=by have h1:=U.out;rwa[M6,g0.out,f7.out]at h1
  have HT:=J (o4 h4 h5 (by have:=n.out;omega) G);clear p h4 h5 G
  go_wp2_with fail
  refine HT.out.mono ?_;rintro e w5 ⟨v5,rfl,d3,e1⟩;have f9:=J d3;have f4:=J (aE g2.out (aE g.out e1 g.out.size) g1);clear d3 e1
  go_wp2
  go_ret
  exact⟨_,Z,f9.out,f4.out⟩
end Go.Proofs.YtfoejfohbkmmeaaGreatDoor
