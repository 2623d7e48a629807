import Derived.Test.YtfoejfohbkmmeaaGreatDoorQ12
import Derived.Laws.BitsAllLaws
import Derived.Test.YtfoejfohbkmmeaaGreatDoorQ00
import Derived.Laws.OwnMore
set_option maxRecDepth 100000
set_option maxHeartbeats 4000000
namespace Go.Proofs.YtfoejfohbkmmeaaGreatDoor
open Go.RowKit
open Lib renaming hid→J
theorem I2(a b:Nat)(c:a<4294967296)(d:b<=1)(e:a%2=0):bits .or .u32 (a:Int) (b:Int)=((a+b:Nat):Int):=by
 rw[u32_or_nat a b c (by omega)];have h:a|||b=a+b:=by
  have:=NF (i:=1) (b:=b) (by omega) (a/2);rw[Oj]at this;rw[show a/2*2^1=a by omega]at this;exact this.symm
 rw[h]
def DblInv(w:World)(ds:List Nat)(bit:Nat)(v c i:Value)(wr:World):Prop:=
 ∃(k cy:Nat) (o:List Nat),k<=ds.length/\i=.int .i64 k/\c=.int .u32 cy/\cy<=1/\o.length=k/\Digs o/\OwnN wr w.heap.size v o/\aB o+4294967296^k*cy=2*aB (ds.take k)+bit/\Below w.heap.size w wr
theorem xe{w wr:World}{b o:List Nat}{bit k a d:Nat}{v:Value}{x i:Int}(l:k<b.length)(c:o.length=k)(g:Digs o)(p:b[k]=d)(j:d<4294967296)(m:a<=1)(f:OwnN wr w.heap.size v (o++[d*2%4294967296+a]))(y:aB o+4294967296^k*a=2*aB (b.take k)+bit)(q:Below w.heap.size w wr)
  (n:x=((d/2147483648:Nat):Int)) (s:i=((k+1:Nat):Int)):DblInv w b bit v (.int .u32 x) (.int .i64 i) wr:=by
 subst n s;refine⟨k+1,d/2147483648,o++[d*2%4294967296+a],l,Z,Z,by omega,by simp[c],fun e r=>?_,f,?_,q⟩
 ·rcases My.1 r with h|h
  ·exact g e h
  simp at h;omega
 rw[dm _ _ k c,cQ b k l,p,MM];generalize 4294967296^k=P at*;have t:P*(d*2%4294967296+a)+P*(4294967296*(d/2147483648))=P*(2*d)+P*a:=by
  rw[<-MF,<-MF];congr 1;omega
 rw[Mu];have u:P*(2*d)=2*(P*d):=by rw[<-Mu,Mt P 2,Mu]
 omega
theorem rU(A:Option Addr)(c:Nat)(g:List Nat)(bit:Nat)(w:World)(h:IsN w A c g)(hl:g.length<=1073741822)(C:bit<=1):
  Calls Tryz.prog 226 #[.slice A g.length c,.int .u32 bit] w (NatPost (2*aB g+bit) w):=by
 have HI:=J h;clear h
 go_enter Tryz.func226,Tryz.ntmps226
 go_wp2
 go_loopw [1,5,6] (fun cb v i wr=>DblInv w g bit v cb i wr) (fun _ _ i _=>g.length-(intOf i).toNat)
 case atStart=>exact⟨0,bit,[],Mx _,Z,Z,C,Z,fun d x=>by simp at x,OwnN.nil _ _,by simp[aB],Below.refl _ _⟩
 case round=>
  obtain⟨k,t,o,hk,rfl,rfl,E,z,H,l,I,m⟩:=hrel;have Y:=J l;have HQ:=J I;have O:=J m;have D:=J z;have G:=J H;have r:=m.size;have X:o.length<=1073741822:=by omega
  clear l I m z H;by_cases j:k<g.length
  ·obtain⟨b,off,rfl,V,hc⟩:=HI.out.digit j;obtain⟨d,x⟩:∃d,g[k]=d:=⟨_,rfl⟩;have q:=(O.out.cell (p:=⟨b,off+k,none⟩) V).trans (hc k j);rw[x]at q;have F:d<4294967296:=by rw[<-x];exact HI.out.ok _ (MY j)
   have HD:=J x;have s:=I2 (d*2%4294967296) t (by omega) E (by omega);rw[show((d*2%4294967296:Nat):Int)=(d:Int)*2%4294967296 by omega]at s;have T:=J s;clear s;clear hc x
   go_wp2_with (at_builtin;refine fS w.heap.size _ o _ (d*2%4294967296+t) (.tmp 13) (.tmp 21) rfl rfl rfl rfl Y.out T.out (by omega) r ?_;intro v2 W a f;have P:=J a;have n:=J f;have q:=(f.below.cell (p:=⟨b,off+k,none⟩) V).trans q;clear a f)
   go_roundw
   case rel=>exact xe j D.out G.out HD.out F E P.out HQ.out (O.out.trans n.out.below) (by omega) (by omega)
   case measure=>simp[intOf];omega
  obtain rfl:k=g.length:=by omega
  have hv:aB (o++[t])=2*aB g+bit:=by
   have:=HQ.out;rw[M9]at this;rw[dm o t _ D.out];omega
  have HV:=J hv;have B:Hid (Digs (o++[t])):=fun e hm=>by
   rcases My.1 hm with h|h
   ·exact G.out e h
   simp at h;omega
  obtain⟨L,N⟩:∃L,o++[t]=L:=⟨_,rfl⟩;have R:L.length<=1073741823:=by rw[<-N];simp;omega
  have HL:=J N;rw[N]at HV B;clear hv N
  go_wp2_with (at_builtin;refine fS w.heap.size _ o _ t (.tmp 28) (.tmp 30) rfl rfl rfl rfl Y.out rfl (by omega) r ?_;intro v2 W a f;rw[HL.out]at a;have n:=J f;obtain⟨A2,c2,e2,K⟩:=a.is B.out;subst e2;have U:=J K;have M:w.heap.size<=W.heap.size:=L6 r f.size;clear a f K)
  refine(dl A2 c2 L _ U.out R).mono ?_;rintro e w3 ⟨v3,rfl,u,y⟩;rw[HV.out]at u;have Q:=J (u.base_le M);have S:=J ((O.out.trans n.out.below).trans (y.mono M));clear u y
  go_wp2
  go_ret
  exact⟨v3,Z,Q.out,S.out⟩
def HalfInv(w:World)(ds:List Nat)(v i:Value)(wr:World):Prop:=
 ∃(k:Nat) (o:List Nat),k<=ds.length/\i=.int .i64 k/\o.length=k/\Digs o/\OwnN wr w.heap.size v o/\2*aB o+ds.getD 0 0%2=aB (ds.take k)+4294967296^k*(ds.getD k 0%2)/\Below w.heap.size w wr
theorem ot{w wr:World}{a o:List Nat}{k d b:Nat}{v:Value}{i:Int}(j:k<a.length)(c:o.length=k)(g:Digs o)(l:a[k]=d)(u:a.getD (k+1) 0%2=b)(m:d<4294967296)(f:OwnN wr w.heap.size v (o++[d/2+2147483648*b]))
  (s:2*aB o+a.getD 0 0%2=aB (a.take k)+4294967296^k*(a.getD k 0%2)) (q:Below w.heap.size w wr) (n:i=((k+1:Nat):Int)):HalfInv w a v (.int .i64 i) wr:=by
 subst n;have t:a.getD k 0=d:=by rw[Mm,L4 j,MK,l]
 have p:b<=1:=by omega
 refine⟨k+1,o++[d/2+2147483648*b],j,Z,by simp[c],fun e r=>?_,f,?_,q⟩
 ·rcases My.1 r with h|h
  ·exact g e h
  simp at h;omega
 rw[dm _ _ k c,cQ a k j,l,u,MM];rw[t]at s;generalize 4294967296^k=P at*;have x:2*(P*(d/2+2147483648*b))+P*(d%2)=P*d+P*(4294967296*b):=by
  rw[<-MF,<-Mu,Mt 2 P,Mu,<-MF];congr 1;omega
 rw[Mu,MF];omega
theorem GO(a x:Nat)(c:a<2147483648):bits .or .u32 (a:Int) ((x*2147483648%4294967296:Nat):Int)=((a+2147483648*(x%2):Nat):Int):=by
 have e:x*2147483648%4294967296=2147483648*(x%2):=by omega
 rw[e,u32_or_nat a (2147483648*(x%2)) (by omega) (by omega)];have h:a|||2147483648*(x%2)=2147483648*(x%2)+a:=by
  have:=NF (i:=31) (b:=a) (by omega) (x%2);rw[Oj]at this;rw[Nat.or_comm,show 2147483648*(x%2)=x%2*2^31 by omega];exact this.symm
 rw[h,NW]
theorem ED(A:Option Addr)(c:Nat)(g:List Nat)(w:World)(h:IsN w A c g)(hl:g.length<=1073741822):
  Calls Tryz.prog 225 #[.slice A g.length c] w (NatPost (aB g/2) w):=by
 have U:=J h;clear h
 go_enter Tryz.func225,Tryz.ntmps225
 go_wp2
 go_loopw [3,4] (fun v i wr=>HalfInv w g v i wr) (fun _ i _=>g.length-(intOf i).toNat)
 case atStart=>exact⟨0,[],Mx _,Z,Z,fun d B=>by simp at B,OwnN.nil _ _,by simp[aB],Below.refl _ _⟩
 case round=>
  obtain⟨k,o,hk,rfl,E,H,n,I,s⟩:=hrel;have Q:=J n;have R:=J I;have D:=J s;have F:=J E;have y:=J H;have m:=s.size;have X:o.length<=1073741822:=by omega
  clear n I s E H;by_cases l:k<g.length
  ·obtain⟨b,off,rfl,W,M⟩:=U.out.digit l;obtain⟨d,B⟩:∃d,g[k]=d:=⟨_,rfl⟩;have N:=(D.out.cell (p:=⟨b,off+k,none⟩) W).trans (M k l);rw[B]at N;have q:d<4294967296:=by rw[<-B];exact U.out.ok _ (MY l)
   have HD:=J B;clear B;by_cases j:k+1<g.length
   ·obtain⟨x,L⟩:∃x,g[k+1]=x:=⟨_,rfl⟩;have G:=(D.out.cell (p:=⟨b,off+(k+1),none⟩) W).trans (M (k+1) j);rw[L]at G;have Y:x<4294967296:=by rw[<-L];exact U.out.ok _ (MY j)
    have T:=J (show g.getD (k+1) 0%2=x%2 by rw[Mm,L4 j,MK,L]);have u:=GO (d/2) x (by omega);rw[show((d/2:Nat):Int)=(d:Int)/2 by omega,show((x*2147483648%4294967296:Nat):Int)=(x:Int)*2147483648%4294967296 by omega]at u;have S:=J u;clear u L M
    go_wp2_with (at_builtin;refine fS w.heap.size _ o _ (d/2+2147483648*(x%2)) (.tmp 30) (.tmp 32) rfl rfl rfl rfl Q.out S.out (by omega) m ?_;intro v2 w2 a f;have r:=J a;have t:=J f;clear a f)
    go_roundw
    case rel=>exact ot l F.out y.out HD.out T.out q r.out R.out (D.out.trans t.out.below) (by omega)
    case measure=>simp[intOf];omega
   have T:=J (show g.getD (k+1) 0%2=0 by rw[Mm,Nq (by omega)];rfl);clear M
   go_wp2_with (at_builtin;refine fS w.heap.size _ o _ (d/2+2147483648*0) (.tmp 30) (.tmp 32) rfl rfl rfl rfl Q.out (by omega) (by omega) m ?_;intro v2 w2 a f;have r:=J a;have t:=J f;clear a f)
   go_roundw
   case rel=>exact ot l F.out y.out HD.out T.out q r.out R.out (D.out.trans t.out.below) (by omega)
   case measure=>simp[intOf];omega
  obtain rfl:k=g.length:=by omega
  have hv:aB o=aB g/2:=by
   have h1:=R.out;rw[M9,Mm (i:=g.length),Nq (L5 _)]at h1;simp only[Option.getD_none,Nat.zero_mod,Oy,No]at h1;omega
  have HV:=J hv;clear hv;obtain⟨A2,c2,e2,K⟩:=Q.out.is y.out;subst e2;have V:=J K;clear K
  go_wp2_with fail
  refine(dl A2 c2 o _ V.out (by omega)).mono ?_;rintro e w3 ⟨v3,rfl,z,C⟩;rw[HV.out]at z;have O:=J (z.base_le m);have P:=J (ak D.out C m);clear z C
  go_wp2
  go_ret
  exact⟨v3,Z,O.out,P.out⟩
theorem xf{l:List Nat}{d:Nat}(h:Digs l)(c:d<4294967296):Digs (l++[d]):=fun e b=>by
 rcases My.1 b with a|a
 ·exact h e a
 simp at a;omega
theorem ud(l:List Nat)(k:Nat)(h:l.length<=k):aB (l.take (k+1))=aB (l.take k)+4294967296^k*0:=by
 rw[Me (i:=k+1) (by omega),Me (i:=k) (by omega)];simp
def NAddInv(w:World)(dx dy:List Nat)(v c i:Value)(wr:World):Prop:=
 ∃(k cy:Nat) (o:List Nat),(k<=dx.length\/k<=dy.length)/\i=.int .i64 k/\c=.int .u64 cy/\cy<=1/\o.length=k/\Digs o/\OwnN wr w.heap.size v o/\aB o+4294967296^k*cy=aB (dx.take k)+aB (dy.take k)/\Below w.heap.size w wr
theorem lf{w wr:World}{f e o:List Nat}{k a x y s:Nat}{v:Value}{c i:Int}(u:k<f.length\/k<e.length)(b:o.length=k)(g:Digs o)(n:s=a+x+y)(m:s<8589934592)(d:OwnN wr w.heap.size v (o++[s%4294967296]))(t:aB o+4294967296^k*a=aB (f.take k)+aB (e.take k))
  (h:aB (f.take (k+1))=aB (f.take k)+4294967296^k*x) (p:aB (e.take (k+1))=aB (e.take k)+4294967296^k*y) (l:Below w.heap.size w wr) (j:c=((s/4294967296:Nat):Int)) (q:i=((k+1:Nat):Int)):NAddInv w f e v (.int .u64 c) (.int .i64 i) wr:=by
 subst j q n;refine⟨k+1,(a+x+y)/4294967296,o++[(a+x+y)%4294967296],by omega,Z,Z,by omega,by simp[b],xf g (by omega),d,?_,l⟩;rw[dm _ _ k b,h,p,MM];generalize 4294967296^k=P at*;have r:P*((a+x+y)%4294967296)+P*(4294967296*((a+x+y)/4294967296))=P*a+P*x+P*y:=by
  rw[<-MF,<-MF,<-MF];congr 1;omega
 rw[Mu];omega
theorem zn(A B:Option Addr)(ca cb:Nat)(j g:List Nat)(w:World)(h:IsN w A ca j)(h':IsN w B cb g)(hl:j.length<=1073741822)(a5:g.length<=1073741822):
  Calls Tryz.prog 214 #[.slice A j.length ca,.slice B g.length cb] w (NatPost (aB j+aB g) w):=by
 have HI:=J h;have HJ:=J h';clear h h'
 go_enter Tryz.func214,Tryz.ntmps214
 go_wp2
 go_loopw [5,6,7] (fun v cb i wr=>NAddInv w j g v cb i wr) (fun _ _ i _=>j.length+g.length-(intOf i).toNat)
 case atStart=>exact⟨0,0,[],.inl (Mx _),Z,Z,by omega,Z,fun d hd=>by simp at hd,OwnN.nil _ _,by simp[aB],Below.refl _ _⟩
 case round=>
  obtain⟨k,z,o,hk,rfl,rfl,m,P,U,H,V,I⟩:=hrel;have HO:=J H;have HQ:=J V;have G:=J I;have C:=J P;have D:=J U;have r:=I.size;have a4:o.length<=1073741822:=by omega
  clear H V I P U;by_cases F:k<j.length
  ·by_cases E:k<g.length
   ·obtain⟨qx,ox,rfl,K,q⟩:=HI.out.digit F;obtain⟨x,c⟩:∃x,j[k]=x:=⟨_,rfl⟩;have u:=(G.out.cell (p:=⟨qx,ox+k,none⟩) K).trans (q k F);rw[c]at u;have S:x<4294967296:=by rw[<-c];exact HI.out.ok _ (MY F)
    have X:=J (show aB (j.take (k+1))=aB (j.take k)+4294967296^k*x by rw[cQ j k F,c]);clear q c;obtain⟨qy,oy,rfl,N,m⟩:=HJ.out.digit E;obtain⟨y,f⟩:∃y,g[k]=y:=⟨_,rfl⟩;have t:=(G.out.cell (p:=⟨qy,oy+k,none⟩) N).trans (m k E);rw[f]at t;have W:y<4294967296:=by rw[<-f];exact HJ.out.ok _ (MY E)
    have R:=J (show aB (g.take (k+1))=aB (g.take k)+4294967296^k*y by rw[cQ g k E,f]);clear m f
    go_wp2_with (at_builtin;refine fS w.heap.size _ o _ ((z+x+y)%4294967296) (.tmp 42) (.tmp 45) rfl rfl rfl rfl HO.out (by omega) (by omega) r ?_;intro v2 w2 a b;have n:=J a;have l:=J b;clear a b)
    go_roundw
    case rel=>exact lf (s:=z+x+y) (x:=x) (y:=y) (by omega) C.out D.out (by omega) (by omega) n.out HQ.out X.out R.out (G.out.trans l.out.below) (by omega) (by omega)
    case measure=>simp[intOf];omega
   obtain⟨qx,ox,rfl,K,q⟩:=HI.out.digit F;obtain⟨x,c⟩:∃x,j[k]=x:=⟨_,rfl⟩;have u:=(G.out.cell (p:=⟨qx,ox+k,none⟩) K).trans (q k F);rw[c]at u;have S:x<4294967296:=by rw[<-c];exact HI.out.ok _ (MY F)
   have X:=J (show aB (j.take (k+1))=aB (j.take k)+4294967296^k*x by rw[cQ j k F,c]);clear q c;have R:=J (ud g k (by omega))
   go_wp2_with (at_builtin;refine fS w.heap.size _ o _ ((z+x)%4294967296) (.tmp 42) (.tmp 45) rfl rfl rfl rfl HO.out (by omega) (by omega) r ?_;intro v2 w2 a b;have n:=J a;have l:=J b;clear a b)
   go_roundw
   case rel=>exact lf (s:=z+x) (x:=x) (y:=0) (by omega) C.out D.out (by omega) (by omega) n.out HQ.out X.out R.out (G.out.trans l.out.below) (by omega) (by omega)
   case measure=>simp[intOf];omega
  by_cases E:k<g.length
  ·have X:=J (ud j k (by omega));obtain⟨qy,oy,rfl,N,m⟩:=HJ.out.digit E;obtain⟨y,f⟩:∃y,g[k]=y:=⟨_,rfl⟩;have t:=(G.out.cell (p:=⟨qy,oy+k,none⟩) N).trans (m k E);rw[f]at t;have W:y<4294967296:=by rw[<-f];exact HJ.out.ok _ (MY E)
   have R:=J (show aB (g.take (k+1))=aB (g.take k)+4294967296^k*y by rw[cQ g k E,f]);clear m f
   go_wp2_with (at_builtin;refine fS w.heap.size _ o _ ((z+y)%4294967296) (.tmp 42) (.tmp 45) rfl rfl rfl rfl HO.out (by omega) (by omega) r ?_;intro v2 w2 a b;have n:=J a;have l:=J b;clear a b)
   go_roundw
   case rel=>exact lf (s:=z+y) (x:=0) (y:=y) (by omega) C.out D.out (by omega) (by omega) n.out HQ.out X.out R.out (G.out.trans l.out.below) (by omega) (by omega)
   case measure=>simp[intOf];omega
  have hv:aB (o++[z])=aB j+aB g:=by
   have:=HQ.out;rw[Me (by omega),Me (by omega)]at this;rw[dm o z _ C.out];omega
  have HV:=J hv;have Q:Hid (Digs (o++[z])):=xf D.out (by omega);obtain⟨L,hL⟩:∃L,o++[z]=L:=⟨_,rfl⟩;have a2:L.length<=1073741823:=by rw[<-hL];simp;omega
  have HL:=J hL;rw[hL]at HV Q;clear hv hL
  go_wp2_with (at_builtin;refine fS w.heap.size _ o _ z (.tmp 49) (.tmp 52) rfl rfl rfl rfl HO.out (by omega) (by omega) r ?_;intro v2 w2 a b;rw[HL.out]at a;have l:=J b;obtain⟨A2,c2,e2,T⟩:=a.is Q.out;subst e2;have a3:=J T;have Y:w.heap.size<=w2.heap.size:=L6 r b.size;clear a b T)
  refine(dl A2 c2 L _ a3.out a2).mono ?_;rintro e w3 ⟨v3,rfl,M,O⟩;rw[HV.out]at M;have a0:=J (M.base_le Y);have a1:=J ((G.out.trans l.out.below).trans (O.mono Y));clear M O
  go_wp2
  go_ret
  exact⟨v3,Z,a0.out,a1.out⟩
theorem pC(j s:Nat):(2:Nat)^(32*j+s)=4294967296^j*2^s:=by
 rw[N2,PF]
theorem GP(a s:Nat)(b:s<32):a%4294967296/2^s%2=a/2^s%2:=by
 have h:(4294967296:Nat)=2^s*2^(32-s):=by rw[<-N2,show s+(32-s)=32 by omega]
 rw[h,Nat.mod_mul_right_div_self,Qr];exact⟨2^(32-s-1),by rw[<-Nat.pow_succ',show(32-s-1).succ=32-s by omega]⟩
theorem pD:∀(l:List Nat) (j:Nat),Digs l->l.getD j 0=aB l/4294967296^j%4294967296
 |[],j,_=>by simp[aB]
 |d::l,0,h=>by
  have:=h d (Mr ..);simp only[List.getD_cons_zero,aB,Py,P2];omega
 |d::l,j+1,h=>by
  have c:=h d (Mr ..);have b:=pD l j (fun x a=>h x (MB _ a));simp only[List.getD_cons_succ,aB,b];rw[MM,Mt (4294967296^j),<-Ov,show(d+4294967296*aB l)/4294967296=aB l by omega]
theorem CG{l:List Nat}{j s d:Nat}(h:Digs l)(b:j<l.length)(e:l[j]=d)(c:s<32):d/2^s%2=aB l/2^(32*j+s)%2:=by
 have a:=pD l j h;rw[Mm,L4 b,MK,e]at a;rw[a,GP _ _ c,Ov,<-pC]
theorem GQ(l:List Nat)(j d e:Nat)(a:j<l.length)(b:l[j]=d):aB (l.set j (d+e))=aB l+4294967296^j*e:=by
 have f:=ld l j a;have g:=ld (l.set j (d+e)) j (by simpa using a);rw[g,f,b];have h:(l.set j (d+e)).take j=l.take j:=by rw[PI,List.set_eq_of_length_le];rw[Mf];omega
 have c:(l.set j (d+e)).drop (j+1)=l.drop (j+1):=by rw[Qn (by omega)]
 rw[h,c,List.getElem_set_self,Qs,MF];omega
theorem rV{l:List Nat}{j s d m:Nat}(h:Digs l)(e:j<l.length)(g:l[j]=d)(i:s<32)(b:aB l=m*2^(32*j+s+1)):d%2^(s+1)=0:=by
 have a:=pD l j h;rw[Mm,L4 e,MK,g]at a;have c:aB l=4294967296^j*(m*2^(s+1)):=by rw[b,NT,pC,<-Mu,Mt m,Mu]
 rw[c,Pe _ (NN (by decide))]at a;rw[a];have f:(4294967296:Nat)=2^(s+1)*2^(31-s):=by rw[<-N2,show s+1+(31-s)=32 by omega]
 rw[Qr _ ⟨2^(31-s),f⟩,Nat.mul_mod_left]
theorem I3(d s:Nat)(c:d<4294967296)(e:s<32)(h:d%2^(s+1)=0):bits .or .u32 (d:Int) ((2^s:Nat):Int)=((d+2^s:Nat):Int):=by
 have a:2^s<2^32:=NS (by decide) e;rw[u32_or_nat d (2^s) c (by simpa using a)];have f:d|||2^s=d+2^s:=by
  have:=NF (i:=s+1) (b:=2^s) (NS (by decide) (by omega)) (d/2^(s+1));rw[Oj,O9 (P3 h)]at this;exact this.symm
 rw[f]
theorem ou(d:Nat)(a:d<4294967296):bits .and .u32 (d:Int) 1=((d%2:Nat):Int):=by
 have:=u32_and_nat d 1 a (by decide);rw[show((1:Nat):Int)=1 from rfl]at this;rw[this,Nat.and_one_is_mod]
theorem GR{P Y b:Nat}(a:0<Y)(d:b<=1):(Y<=2*(P%Y)+b->(2*P+b)/Y=2*(P/Y)+1/\(2*P+b)%Y=2*(P%Y)+b-Y)/\(2*(P%Y)+b<Y->(2*P+b)/Y=2*(P/Y)/\(2*P+b)%Y=2*(P%Y)+b):=by
 have c:=Oe P Y;have f:=Ni P a;generalize P/Y=q at*;generalize P%Y=r at*;subst c;have g:2*(Y*q)=Y*(2*q):=by rw[<-Mu,Mt 2 Y,Mu]
 constructor
 ·intro h;have e:2*(Y*q+r)+b=(2*r+b-Y)+Y*(2*q+1):=by rw[MF Y,MF 2];omega
  rw[e,Pz _ _ a,O4,Oa (by omega),NZ (by omega)];omega
 intro h;have e:2*(Y*q+r)+b=(2*r+b)+Y*(2*q):=by rw[MF 2];omega
 rw[e,Pz _ _ a,O4,Oa h,NZ h];omega
theorem GS(X m:Nat):X/2^m=2*(X/2^(m+1))+X/2^m%2:=by
 rw[MM,<-Ov];omega
theorem zo(n:Nat):(madeCells (Value.int .u32 0).cells (n*1)).toList=ce (List.replicate n 0):=by
 apply OY
 ·simp[madeCells,ce]
 intro j a b;simp[madeCells,ce,Value.cells,Nat.mod_one]
theorem eF(w:World)(n:Nat)(k:n<=1073741824):∃w',(∀a b,(Instr.makeSlice 63 (.int a (n:Int)) (.int b (n:Int))).run Tryz.prog w=.ok (.slice (some ⟨w.heap.size,0,none⟩) n n) w')/\
  OwnN w' w.heap.size (.slice (some ⟨w.heap.size,0,none⟩) n n) (List.replicate n 0)/\Below w.heap.size w w'/\w'.heap.size=w.heap.size+1:=by
 obtain⟨j,f,c,g,d⟩:=info_parts rQ;have i:∀a b,(Instr.makeSlice 63 (.int a (n:Int)) (.int b (n:Int))).run Tryz.prog w=.ok (.slice (some ⟨w.heap.size,0,none⟩) n n) (w.alloc (.cells (madeCells (Value.int .u32 0).cells (n*j.size)) 50)):=fun a b=>by
  have:=run_make (P:=Tryz.prog) w 63 50 j (.int .u32 0) Tryz.underlying63 f c a b n n (by omega) (Int.le_refl _) (by rw[d];omega) (by omega);simpa using this
 rw[g]at i;refine⟨_,i,?_,(Below.refl _ _).alloc (L5 _) _,by simp⟩;have h:=World.ownsRow_lit (base:=w.heap.size) (e:=50) (size:=1) w (madeCells (Value.int .u32 0).cells (n*1)) n (L5 _) (by simp only[maxLen];omega) (size_madeCells _ _);rw[zo]at h;unfold OwnN;rw[Ok];exact h
theorem j8(n:Nat):aB (List.replicate n 0)=0:=nu _ (fun _ a=>(ON.1 a).2)
theorem jt(n:Nat):Digs (List.replicate n 0):=fun _ a=>by rw[(ON.1 a).2];decide
def DivInv(w2:World)(X Y n:Nat)(r i:Value)(wr:World):Prop:=
 ∃(k:Nat) (qd:List Nat),k<=32*n/\i=.int .i64 ((k:Int)-1)/\qd.length=n/\Digs qd/\OwnN wr w2.heap.size (.slice (some ⟨w2.heap.size,0,none⟩) n n) qd/\aB qd=X/2^k/Y*2^k/\OwnN wr (w2.heap.size+1) r (ay (X/2^k%Y))/\Below w2.heap.size w2 wr/\w2.heap.size+1<=wr.heap.size
theorem vI{a W:World}{X Y n:Nat}{i:Int}(c:X<4294967296^n)(e:OwnN W a.heap.size (.slice (some ⟨a.heap.size,0,none⟩) n n) (List.replicate n 0))(d:Below a.heap.size a W)(g:W.heap.size=a.heap.size+1)(f:i=32*(n:Int)-1):DivInv a X Y n (.slice none 0 0) (.int .i64 i) W:=by
 have b:X/2^(32*n)=0:=Oa (by rw[PF];exact c);subst f;refine⟨32*n,List.replicate n 0,L5 _,by rw[show((32*n:Nat):Int)-1=32*(n:Int)-1 by omega],Ok,jt n,e,by rw[j8,b];simp,?_,d,by omega⟩;rw[b];simp;exact OwnN.nil _ _
theorem I4{d s:Nat}(a:d<4294967296)(c:s<32)(h:d%2^(s+1)=0):d+2^s<4294967296:=by
 have e:d|||2^s=d+2^s:=by
  have:=NF (i:=s+1) (b:=2^s) (NS (by decide) (by omega)) (d/2^(s+1));rw[Oj,O9 (P3 h)]at this;exact this.symm
 rw[<-e];exact Nat.or_lt_two_pow (n:=32) a (NS (by decide) c)
theorem iA{w:World}{base e size n g:Nat}{v:Value}{xs:List Value}(h:w.ownsRow base e size v n xs)(a:g<base):v.ownBlock≠some g:=fun e=>by have:=(h.lt g e).1;omega
theorem DivInv.set{a c:World}{X Y n m j s q0 D:Nat}{b:List Nat}{B:Value}{z i:Int}(I:m<=32*n)(f:b.length=n)(e:Digs b)(C:OwnN c a.heap.size (.slice (some ⟨a.heap.size,0,none⟩) n n) b)(o:aB b=X/2^(m+1)/Y*2^(m+1))(l:32*j+s=m)(F:s<32)(w:j<b.length)(g:b[j]=q0)
  (v:OwnN c D B (ay (X/2^m%Y))) (t:a.heap.size+1<=D) (A:X/2^m/Y=2*(X/2^(m+1)/Y)+1) (y:Below a.heap.size a c) (u:a.heap.size+1<=c.heap.size) (G:z=((q0+2^s:Nat):Int)) (J:i=(m:Int)-1):
  DivInv a X Y n B (.int .i64 i) (c.setCell ⟨a.heap.size,j,none⟩ (.int .u32 z)):=by
 subst G J;have x:q0%2^(s+1)=0:=rV e w g F (m:=X/2^(m+1)/Y) (by rw[o,l]);have q:q0<4294967296:=by rw[<-g];exact e _ (MY w)
 refine⟨m,b.set j (q0+2^s),I,Z,by rw[MU,f],fun d K=>?_,?_,?_,?_,y.setCell (p:=⟨a.heap.size,j,none⟩) (L5 _) _,by simpa[World.setCell]using u⟩
 ·rcases OH K with h|h
  ·exact e d h
  rw[h];exact I4 q F x
 ·have r:OwnN c a.heap.size (.slice (some ⟨a.heap.size,0,none⟩) b.length n) b:=by rw[f];exact C
  have E:=r.set (i:=j) (q0+2^s);rw[MU,f]at E;exact E
 ·rw[GQ b j q0 (2^s) w g,o,A,M3,<-pC,l,MM,Og];congr 1;rw[Mt (2^m) 2,<-Mu,Mt _ 2]
 have r:OwnN c (a.heap.size+1) B (ay (X/2^m%Y)):=v.base_le t;exact eZ r (iA r (Po _)) (fun k H=>Below.heap_setCell _ _ _ _ H)
def BB(X Y:Nat)(w:World)(e:Ending)(w':World):Prop:=∃q r,e=.returned (.tuple #[q,r,.bool true])/\OwnN w' w.heap.size q (ay (X/Y))/\OwnN w' w.heap.size r (ay (X%Y))/\Below w.heap.size w w'
theorem zp(A B:Option Addr)(ca cb:Nat)(x y:List Nat)(w:World)(hA:IsN w A ca x)(hB:IsN w B cb y)(r4:x.length<=1048576)(s2:y.length<=1048576)(hy:0<aB y):
  Calls Tryz.prog 175 #[.slice A x.length ca,.slice B y.length cb] w (BB (aB x) (aB y) w):=by
 have HA:=J hA;have HB:=J hB;clear hA hB;have q4:(ay (aB x)).length<=x.length:=aR (b4 x HA.out.ok);have m4:(ay (aB y)).length<=y.length:=aR (b4 y HB.out.ok);have g0:0<(ay (aB y)).length:=by
  rcases M1 (ay (aB y)).length with h|h
  ·have:=bR.1 h;omega
  exact h
 go_enter Tryz.func175,Tryz.ntmps175
 go_wp2_with fail
 refine(dl A ca x _ HA.out (by omega)).mono ?_;intro e w1 h1;obtain⟨A1,c1,rfl,h5,d5⟩:=h1.open_;have h9:=J h5;have m2:=J d5;have i0:=d5.size;clear h1 h5 d5
 go_wp2_with fail
 refine(dl B cb y _ (HB.out.below m2.out) (by omega)).mono ?_;intro e w2 h2;obtain⟨A2,c2,rfl,i9,a2⟩:=h2.open_;have f0:=J i9;have z:=J (h9.out.below a2);have q5:=J (ak m2.out a2 i0);have n2:w.heap.size<=w2.heap.size:=L6 i0 a2.size;clear h2 i9 a2 h9;have a0:=J (aI (aB x));have l:=J (aI (aB y));obtain⟨C,b0⟩:∃C,ay (aB x)=C:=⟨_,rfl⟩;obtain⟨dy,N⟩:∃dy,ay (aB y)=dy:=⟨_,rfl⟩;have K:=J N;rw[b0]at z q4 a0⊢;rw[N]at f0 m4 g0 l⊢;clear b0 N;obtain⟨X,hX⟩:∃X,aB x=X:=⟨_,rfl⟩;obtain⟨Y,hY⟩:∃Y,aB y=Y:=⟨_,rfl⟩;rw[hX]at a0;rw[hY]at l hy K;have l2:=J hX;have g2:=J hY;clear hX hY;have a5:X<4294967296^C.length:=by rw[<-a0.out];exact b4 C z.out.ok
 have q7:=J a5;clear a5;have g1:((dy.length:Int)==0)=false:=by rw[beq_eq_false_iff_ne];omega
 obtain⟨W,d7,f1,f2,j3⟩:=eF w2 C.length (by omega);have d7:=d7 .i64 .i64;have o2:=J f1;have m9:=J f2;have r1:=J j3;clear f1 f2 j3
 go_wp2
 clear d7
 go_loopw [10,11] (fun r i wr=>DivInv w2 X Y C.length r i wr) (fun _ i _=>(intOf i+1).toNat)
 case atStart=>exact vI q7.out o2.out m9.out r1.out (by omega)
 case round=>
  obtain⟨k,qd,hk,rfl,f5,f4,h0,l0,n,f3,s3⟩:=hrel;have L:=J f5;have t:=J f4;have i5:=J h0;have V:=J l0;have Q:=J n;have d2:=J f3;clear f5 f4 h0 l0 n f3;cases k with
  |zero=>
   have i4:aB qd=X/Y:=by have:=V.out;simpa using this
   have n:=Q.out;rw[Py,P2]at n;obtain⟨Ar,cr,er,M⟩:=n.is (bY (X%Y));subst er;have F:=J M;have u:=J (aI (X%Y));have n1:(ay (X%Y)).length<=dy.length:=by rw[<-K.out];exact aS (PA (Ni _ hy))
   have m1:IsN wr (some ⟨w2.heap.size,0,none⟩) C.length qd:=by
    have h1:=i5.out;obtain⟨A',c',e,hi⟩:=h1.is t.out;injection e with e1 e2 e3
    subst e1 e3;exact hi
   have r0:=J m1;have n0:=J i4;obtain⟨dr,e7⟩:∃dr,ay (X%Y)=dr:=⟨_,rfl⟩;rw[e7]at F u n1⊢;have s1:=J e7;have g:w.heap.size<=wr.heap.size:=by omega
   have g4:=J (q5.out.trans (d2.out.mono n2));clear n M m1 i4 e7;have c0:=dl (some ⟨w2.heap.size,0,none⟩) C.length qd wr r0.out (by have:=L.out;omega);rw[L.out,n0.out]at c0;have o1:=J c0;clear c0
   go_wp2_with fail
   refine o1.out.mono ?_;rintro e w4 ⟨v4,rfl,D,c⟩;have o:=J D;have c9:=J c;have l1:=c.size;clear D c;have c3:=dl Ar cr dr w4 (F.out.below c9.out) (by omega);rw[u.out]at c3;have q6:=J c3;clear c3
   go_wp2_with fail
   refine q6.out.mono ?_;rintro e w5 ⟨v5,rfl,k5,a⟩;have e0:=J k5;have T:=J (o.out.below a);have a1:=J (ak (ak g4.out c9.out g) a (L6 g l1));clear k5 a
   go_wp2
   go_ret3
   exact⟨v4,v5,Z,by rw[l2.out,g2.out];exact T.out.base_le g,by rw[l2.out,g2.out];exact e0.out.base_le (by omega),a1.out⟩
  |succ m=>
   rw[show((m+1:Nat):Int)-1=(m:Int) by omega];have hj:m/32<C.length:=by omega
   obtain⟨j,i3⟩:∃j,m/32=j:=⟨_,rfl⟩;obtain⟨s,p0⟩:∃s,m%32=s:=⟨_,rfl⟩;have f:s<32:=by omega
   have d9:32*j+s=m:=by omega
   rw[i3]at hj;have i1:(m:Int)/32=(j:Int):=by omega
   have i2:(m:Int)%32=(s:Int):=by omega
   obtain⟨b,off,rfl,hb,hc⟩:=(z.out.below d2.out).digit hj;obtain⟨d,hd⟩:∃d,C[j]=d:=⟨_,rfl⟩;have e5:=hc j hj;rw[hd]at e5;have g9:d<4294967296:=by rw[<-hd];exact z.out.ok _ (MY hj)
   have b1:=J (CG z.out.ok hj hd f);rw[a0.out,d9]at b1;have p3:d/2^s<4294967296:=NC (NY _ _) g9;have I:=ou (d/2^s) p3;rw[PX,show((2^s:Nat):Int)=(2:Int)^s by simp,b1.out]at I;have a9:=J I;have G:X/2^m%2<=1:=by omega
   obtain⟨bit,b3⟩:∃bit,X/2^m%2=bit:=⟨_,rfl⟩;rw[b3]at a9 G;have p1:=J b3;clear I b3;have g3:=J d9;clear hd hc i3 p0 d9;have k1:(j:Int)<(C.length:Int):=by omega
   have k2:(0:Int)<=(j:Int):=by omega
   have k3:(0:Int)<=(s:Int):=by omega
   have k4:(s:Int)<32:=by omega
   obtain⟨R,hR⟩:∃R,X/2^(m+1)%Y=R:=⟨_,rfl⟩;have r6:R<Y:=by rw[<-hR];exact Ni _ hy
   have HR:=J hR;rw[hR]at Q;clear hR;have q1:(ay R).length<=dy.length:=by rw[<-K.out];exact aS (by omega)
   obtain⟨Ar,cr,er,M⟩:=Q.out.is (bY R);subst er;have F:=J M;have u:=J (aI R);clear M;obtain⟨dr,a3⟩:∃dr,ay R=dr:=⟨_,rfl⟩;rw[a3]at F u q1 Q⊢;clear a3;have g:w2.heap.size<=wr.heap.size:=by omega
   go_wp2_with fail
   rw[a9.out];have d1:=rU Ar cr dr bit wr F.out (by omega) G;rw[u.out]at d1;refine d1.mono ?_;intro e w4 h4;obtain⟨v4,rfl,D,c⟩:=h4;have o:=J D;have c9:=J c;have l1:=c.size;have m3:=J (i5.out.below c);have a4:=J (ak d2.out c g);clear d1 D c;obtain⟨q,c7⟩:∃q,2*R+bit=q:=⟨_,rfl⟩;have r2:q<2*Y:=by omega
   rw[c7]at o;have q8:=J c7;clear c7;have h6:(ay q).length<=dy.length+1:=aR (by
    have h1:=b4 dy f0.out.ok;rw[l.out]at h1;rw[MM];omega)
   obtain⟨A4,c4,e4,k0⟩:=o.out.is (bY q);subst e4;have b5:=J k0;have S:=J (aI q);clear k0;obtain⟨d4,d0⟩:∃d4,ay q=d4:=⟨_,rfl⟩;have h3:=J d0;rw[d0]at b5 S h6 o⊢;clear d0;have l5:w2.heap.size<=w4.heap.size:=by omega
   have h7:=J (f0.out.below a4.out)
   go_wp2_with fail
   have p:=qU A4 A2 c4 c2 d4 dy w4 b5.out h7.out (by omega) (by omega);rw[S.out,l.out]at p;refine p.mono ?_;rintro e w5 ⟨he,a⟩;have a1:=J a;have r5:=a.size;have T:=J (m3.out.below a);have e0:=J (o.out.below a);have b2:=J (ak a4.out a l5);clear p a;have d6:=GR (P:=X/2^(m+1)) (Y:=Y) (b:=bit) hy G;have e9:=GS X m;rw[p1.out]at e9;rw[<-e9,HR.out,q8.out]at d6;have f8:=J d6;clear d6 e9;by_cases f6:Y<=q
   ·obtain⟨v,E⟩:=f8.out.1 f6;have c5:=J v;have c6:=J E;clear v E;have p4:0<=eu (q:Int) (Y:Int):=by
     rcases MI Y q with h|h
     ·rw[iy h];decide
     rw[iz (by omega)];decide
    obtain⟨cm,p⟩:∃cm,eu (q:Int) (Y:Int)=cm:=⟨_,rfl⟩;rw[p]at he p4;subst he;clear p
    go_wp2_with fail
    have e6:=vH A4 A2 c4 c2 d4 dy w5 (b5.out.below a1.out) (h7.out.below a1.out) (by omega) (by omega) (by rw[S.out,l.out];exact f6);rw[S.out,l.out]at e6;refine e6.mono ?_;rintro e w6 ⟨v6,rfl,f9,O⟩;have q2:=J f9;have r7:=O.size;have d3:=J (T.out.below O);have f7:=J (ak b2.out O (by omega));clear e6 f9 O;have U:j<qd.length:=by have:=L.out;omega
    obtain⟨q0,H⟩:∃q0,qd[j]=q0:=⟨_,rfl⟩;have h8:q0<4294967296:=by rw[<-H];exact t.out _ (MY U)
    have q9:=d3.out.cell U;rw[H]at q9;have s4:=d3.out.free j;have p2:q0%2^(s+1)=0:=rV t.out U H f (m:=X/2^(m+1)/Y) (by rw[V.out,g3.out]);have p7:=J (I3 q0 s h8 f p2);have o3:=J H;have r3:2^s<4294967296:=by
     have:2^s<2^32:=NS (by decide) f;simpa using this
    clear H e5;have q3:=J (show(2:Int)^s%4294967296=((2^s:Nat):Int) by
     have e:((2^s:Nat):Int)=(2:Int)^s:=by simp
     rw[<-e];omega)
    go_wp2
    go_roundw
    case rel=>exact DivInv.set (q0:=q0) (by omega) L.out t.out d3.out V.out g3.out f U o3.out (by rw[c6.out];exact q2.out) (by omega) c5.out f7.out (by omega) (by rw[q3.out,p7.out]) Z
    case measure=>simp[intOf]
   obtain⟨v,E⟩:=f8.out.2 (by omega);have c5:=J v;have c6:=J E;clear v E;rw[iX (show q<Y by omega)]at he;subst he;clear e5
   go_wp2
   go_roundw
   case rel=>
    refine⟨m,qd,by omega,Z,L.out,t.out,T.out,?_,?_,b2.out,by omega⟩
    ·rw[V.out,c5.out,MM,Mt (2^m) 2,<-Mu,Mt _ 2]
    rw[c6.out];have:=e0.out;rw[<-h3.out]at this;rw[<-h3.out];exact this.base_le (by omega)
   case measure=>simp[intOf]
def ov(v:Value)(w:World):Nat:=
 match v with
 | .slice (some a) n _=>aB ((List.range n).map fun i=>match w.cell? ⟨a.block,a.off+i,none⟩with
  |some (.int _ d)=>d.toNat
  |_=>0)
 |_=>0
theorem OwnN.num{w:World}{base:Nat}{v:Value}{l:List Nat}(h:OwnN w base v l):ov v w=aB l:=by
 rcases h.2 with⟨rfl,e⟩|⟨g,c,cur,rfl,k⟩
 ·have:l=[]:=Mk e;subst this;rfl
 show aB ((List.range l.length).map fun i=>match w.cell? ⟨g,0+i,none⟩with
  |some (.int _ d)=>d.toNat
  |_=>0)=aB l
 congr 1;apply OY
 ·simp
 intro j f b;have a:=h.cell b;simp[a]
theorem nf{a b:Nat}(e:a%2=0)(c:b%2=1):Nat.gcd (a/2) b=Nat.gcd a b:=by
 have d:Nat.Coprime 2 b:=by
  unfold Nat.Coprime;rw[P4,c];decide
 have:=d.gcd_mul_left_cancel (a/2);rw[show 2*(a/2)=a by omega]at this;exact this.symm
theorem rW{a b:Nat}(d:a%2=1)(c:b%2=0):Nat.gcd a (b/2)=Nat.gcd a b:=by
 rw[Oo,nf c d,Oo]
theorem CH{n:Nat}(h:n≠0):∃a:0<(ay n).length,(ay n)[0]%2=n%2:=by
 have e:=fb h;refine⟨by rw[e];simp,?_⟩;have:(ay n)[0]'(by rw[e];simp)=n%4294967296:=by
  rw[List.getElem_of_eq e];rfl
 rw[this];omega
def NumIn(w wr:World)(v:Value)(n:Nat):Prop:=OwnN wr w.heap.size v (ay n)
theorem NumIn.below{w wr w':World}{v:Value}{n:Nat}(h:NumIn w wr v n)(a:Below wr.heap.size wr w'):NumIn w w' v n:=OwnN.below h a
theorem NumIn.is{w wr:World}{v:Value}{n:Nat}(h:NumIn w wr v n):∃A c,v=.slice A (ay n).length c/\IsN wr A c (ay n):=OwnN.is h (bY n)
theorem NumIn.num{w wr:World}{v:Value}{n:Nat}(h:NumIn w wr v n):ov v wr=n:=(OwnN.num h).trans (aI n)
theorem mH{wr:World}{A:Option Addr}{c n:Nat}(h:IsN wr A c (ay n))(f:n≠0):∃b off d,A=some ⟨b,off,none⟩/\wr.cell? ⟨b,off,none⟩=some (.int .u32 (d:Nat))/\d%2=n%2/\d<4294967296/\0<(ay n).length:=by
 obtain⟨a,i⟩:=CH f;obtain⟨b,off,e,_,g⟩:=h.digit a;exact⟨b,off,(ay n)[0],e,g 0 a,i,h.ok _ (MY a),a⟩
theorem BC{wr:World}{A:Option Addr}{c n:Nat}(h:IsN wr A c (ay n))(a:(ay n).length<=1073741822):Calls Tryz.prog 225 #[.slice A (ay n).length c] wr (NatPost (n/2) wr):=by
 have:=ED A c (ay n) wr h a;rwa[aI]at this
theorem GT{wr:World}{A:Option Addr}{c n bit:Nat}(h:IsN wr A c (ay n))(b:(ay n).length<=1073741822)(a:bit<=1):Calls Tryz.prog 226 #[.slice A (ay n).length c,.int .u32 bit] wr (NatPost (2*n+bit) wr):=by
 have:=rU A c (ay n) bit wr h b a;rwa[aI]at this
theorem I5{wr:World}{A B:Option Addr}{c d m n:Nat}(h:IsN wr A c (ay m))(a:IsN wr B d (ay n))(e:(ay m).length<=1073741822)(b:(ay n).length<=1073741822):Calls Tryz.prog 101 #[.slice A (ay m).length c,.slice B (ay n).length d] wr (Bz m n wr):=by
 have:=qU A B c d (ay m) (ay n) wr h a (by omega) (by omega);rwa[aI,aI]at this
theorem Ka{wr:World}{A B:Option Addr}{c d m n:Nat}(h:IsN wr A c (ay m))(b:IsN wr B d (ay n))(f:(ay m).length<=1073741822)(e:(ay n).length<=1073741822)(a:n<=m):Calls Tryz.prog 217 #[.slice A (ay m).length c,.slice B (ay n).length d] wr (BA (m-n) wr):=by
 have:=vH A B c d (ay m) (ay n) wr h b (by omega) (by omega) (by rw[aI,aI];exact a);rwa[aI,aI]at this
theorem NatPost.num{n:Nat}{w wr:World}{e:Ending}{w':World}(h:NatPost n wr e w')(d:w.heap.size<=wr.heap.size):∃v,e=.returned v/\NumIn w w' v n/\Below wr.heap.size wr w':=by
 obtain⟨v,b,c,a⟩:=h;exact⟨v,b,OwnN.base_le c d,a⟩
theorem vJ{n M k:Nat}(h:n<=M)(a:M<4294967296^k):(ay n).length<=k:=aR (NC h a)
def Kb(w:World)(X Y:Nat)(x y sh:Value)(wr:World):Prop:=∃a b s:Nat,sh=.int .i64 s/\NumIn w wr x a/\NumIn w wr y b/\0<a/\0<b/\a*2^s=X/\b*2^s=Y/\Below w.heap.size w wr
def Kc(w:World)(G s k:Nat)(x y:Value)(wr:World):Prop:=∃a b:Nat,NumIn w wr x a/\NumIn w wr y b/\0<a/\(a%2=1\/b%2=1)/\Nat.gcd a b*2^s=G/\a<4294967296^k/\b<4294967296^k/\Below w.heap.size w wr
def Kd(w:World)(g a0 b:Nat)(x y:Value)(wr:World):Prop:=∃a:Nat,NumIn w wr x a/\NumIn w wr y b/\0<a/\a<=a0/\(a%2=1\/b%2=1)/\Nat.gcd a b=g/\Below w.heap.size w wr
def Ke(w:World)(g b0 a:Nat)(x y:Value)(wr:World):Prop:=∃b:Nat,NumIn w wr x a/\NumIn w wr y b/\0<b/\b<=b0/\Nat.gcd a b=g/\Below w.heap.size w wr
def Kf(w:World)(a s:Nat)(x i:Value)(wr:World):Prop:=∃t:Nat,t<=s/\i=.int .i64 t/\NumIn w wr x (a*2^t)/\Below w.heap.size w wr
end Go.Proofs.YtfoejfohbkmmeaaGreatDoor
