import Derived.Test.YtfoejfohbkmmeaaGreatDoorU13
import Derived.Laws.BitsAllLaws
import Derived.Test.YtfoejfohbkmmeaaGreatDoorU00
import Derived.Laws.OwnMore
set_option maxRecDepth 100000
set_option maxHeartbeats 4000000
namespace Go.Proofs.YtfoejfohbkmmeaaGreatDoor
open Go.RowKit
open Lib renaming hid→J
theorem I2(a b:Nat)(c:a<4294967296)(e:b<=1)(d:a%2=0):bits .or .u32 (a:Int) (b:Int)=((a+b:Nat):Int):=by
 rw[u32_or_nat a b c (by omega)];have h:a|||b=a+b:=by
  have:=NF (i:=1) (b:=b) (by omega) (a/2);rw[Oj]at this;rw[show a/2*2^1=a by omega]at this;exact this.symm
 rw[h]
def DblInv(w:World)(ds:List Nat)(bit:Nat)(v c i:Value)(wr:World):Prop:=
 ∃(k cy:Nat) (o:List Nat),k<=ds.length/\i=.int .i64 k/\c=.int .u32 cy/\cy<=1/\o.length=k/\Digs o/\OwnN wr w.heap.size v o/\aB o+4294967296^k*cy=2*aB (ds.take k)+bit/\Below w.heap.size w wr
theorem xe{w wr:World}{b o:List Nat}{bit k a d:Nat}{v:Value}{x i:Int}(j:k<b.length)(c:o.length=k)(g:Digs o)(r:b[k]=d)(l:d<4294967296)(s:a<=1)(f:OwnN wr w.heap.size v (o++[d*2%4294967296+a]))(t:aB o+4294967296^k*a=2*aB (b.take k)+bit)(n:Below w.heap.size w wr)
  (p:x=((d/2147483648:Nat):Int)) (m:i=((k+1:Nat):Int)):DblInv w b bit v (.int .u32 x) (.int .i64 i) wr:=by
 subst p m;refine⟨k+1,d/2147483648,o++[d*2%4294967296+a],j,Z,Z,by omega,by simp[c],fun e q=>?_,f,?_,n⟩
 ·rcases My.1 q with h|h
  ·exact g e h
  simp at h;omega
 rw[dm _ _ k c,cQ b k j,r,MM];generalize 4294967296^k=P at*;have u:P*(d*2%4294967296+a)+P*(4294967296*(d/2147483648))=P*(2*d)+P*a:=by
  rw[<-MF,<-MF];congr 1;omega
 rw[Mu];have y:P*(2*d)=2*(P*d):=by rw[<-Mu,Mt P 2,Mu]
 omega
theorem rU(A:Option Addr)(c:Nat)(g:List Nat)(bit:Nat)(w:World)(h:IsN w A c g)(hl:g.length<=1073741822)(K:bit<=1):
  Calls Tryz.prog 226 #[.slice A g.length c,.int .u32 bit] w (NatPost (2*aB g+bit) w):=by
 have Y:=J h;clear h
 go_enter Tryz.func226,Tryz.ntmps226
 go_wp2
 go_loopw [1,5,6] (fun cb v i wr=>DblInv w g bit v cb i wr) (fun _ _ i _=>g.length-(intOf i).toNat)
 case atStart=>exact⟨0,bit,[],Mx _,Z,Z,K,Z,fun d x=>by simp at x,OwnN.nil _ _,by simp[aB],Below.refl _ _⟩
 case round=>
  obtain⟨k,q,o,hk,rfl,rfl,B,F,D,l,G,s⟩:=hrel;have HO:=J l;have HQ:=J G;have P:=J s;have E:=J F;have y:=J D;have n:=s.size;have W:o.length<=1073741822:=by omega
  clear l G s F D;by_cases j:k<g.length
  ·obtain⟨b,off,rfl,hb,X⟩:=Y.out.digit j;obtain⟨d,x⟩:∃d,g[k]=d:=⟨_,rfl⟩;have u:=(P.out.cell (p:=⟨b,off+k,none⟩) hb).trans (X k j);rw[x]at u;have M:d<4294967296:=by rw[<-x];exact Y.out.ok _ (MY j)
   have HD:=J x;have t:=I2 (d*2%4294967296) q (by omega) B (by omega);rw[show((d*2%4294967296:Nat):Int)=(d:Int)*2%4294967296 by omega]at t;have R:=J t;clear t;clear X x
   go_wp2_with (at_builtin;refine fS w.heap.size _ o _ (d*2%4294967296+q) (.tmp 13) (.tmp 21) rfl rfl rfl rfl HO.out R.out (by omega) n ?_;intro v2 V a f;have T:=J a;have m:=J f;have u:=(f.below.cell (p:=⟨b,off+k,none⟩) hb).trans u;clear a f)
   go_roundw
   case rel=>exact xe j E.out y.out HD.out M B T.out HQ.out (P.out.trans m.out.below) (by omega) (by omega)
   case measure=>simp[intOf];omega
  obtain rfl:k=g.length:=by omega
  have hv:aB (o++[q])=2*aB g+bit:=by
   have:=HQ.out;rw[M9]at this;rw[dm o q _ E.out];omega
  have HV:=J hv;have z:Hid (Digs (o++[q])):=fun e hm=>by
   rcases My.1 hm with h|h
   ·exact y.out e h
   simp at h;omega
  obtain⟨L,N⟩:∃L,o++[q]=L:=⟨_,rfl⟩;have U:L.length<=1073741823:=by rw[<-N];simp;omega
  have HL:=J N;rw[N]at HV z;clear hv N
  go_wp2_with (at_builtin;refine fS w.heap.size _ o _ q (.tmp 28) (.tmp 30) rfl rfl rfl rfl HO.out rfl (by omega) n ?_;intro v2 V a f;rw[HL.out]at a;have m:=J f;obtain⟨A2,c2,e2,H⟩:=a.is z.out;subst e2;have O:=J H;have C:w.heap.size<=V.heap.size:=L6 n f.size;clear a f H)
  refine(dl A2 c2 L _ O.out U).mono ?_;rintro e w3 ⟨v3,rfl,r,I⟩;rw[HV.out]at r;have Q:=J (r.base_le C);have S:=J ((P.out.trans m.out.below).trans (I.mono C));clear r I
  go_wp2
  go_ret
  exact⟨v3,Z,Q.out,S.out⟩
def HalfInv(w:World)(ds:List Nat)(v i:Value)(wr:World):Prop:=
 ∃(k:Nat) (o:List Nat),k<=ds.length/\i=.int .i64 k/\o.length=k/\Digs o/\OwnN wr w.heap.size v o/\2*aB o+ds.getD 0 0%2=aB (ds.take k)+4294967296^k*(ds.getD k 0%2)/\Below w.heap.size w wr
theorem ot{w wr:World}{a o:List Nat}{k d b:Nat}{v:Value}{i:Int}(g:k<a.length)(c:o.length=k)(j:Digs o)(l:a[k]=d)(r:a.getD (k+1) 0%2=b)(m:d<4294967296)(f:OwnN wr w.heap.size v (o++[d/2+2147483648*b]))
  (u:2*aB o+a.getD 0 0%2=aB (a.take k)+4294967296^k*(a.getD k 0%2)) (q:Below w.heap.size w wr) (n:i=((k+1:Nat):Int)):HalfInv w a v (.int .i64 i) wr:=by
 subst n;have s:a.getD k 0=d:=by rw[Mm,L4 g,MK,l]
 have p:b<=1:=by omega
 refine⟨k+1,o++[d/2+2147483648*b],g,Z,by simp[c],fun e t=>?_,f,?_,q⟩
 ·rcases My.1 t with h|h
  ·exact j e h
  simp at h;omega
 rw[dm _ _ k c,cQ a k g,l,r,MM];rw[s]at u;generalize 4294967296^k=P at*;have x:2*(P*(d/2+2147483648*b))+P*(d%2)=P*d+P*(4294967296*b):=by
  rw[<-MF,<-Mu,Mt 2 P,Mu,<-MF];congr 1;omega
 rw[Mu,MF];omega
theorem GO(a x:Nat)(c:a<2147483648):bits .or .u32 (a:Int) ((x*2147483648%4294967296:Nat):Int)=((a+2147483648*(x%2):Nat):Int):=by
 have e:x*2147483648%4294967296=2147483648*(x%2):=by omega
 rw[e,u32_or_nat a (2147483648*(x%2)) (by omega) (by omega)];have h:a|||2147483648*(x%2)=2147483648*(x%2)+a:=by
  have:=NF (i:=31) (b:=a) (by omega) (x%2);rw[Oj]at this;rw[Nat.or_comm,show 2147483648*(x%2)=x%2*2^31 by omega];exact this.symm
 rw[h,NW]
theorem ED(A:Option Addr)(c:Nat)(g:List Nat)(w:World)(h:IsN w A c g)(hl:g.length<=1073741822):
  Calls Tryz.prog 225 #[.slice A g.length c] w (NatPost (aB g/2) w):=by
 have R:=J h;clear h
 go_enter Tryz.func225,Tryz.ntmps225
 go_wp2
 go_loopw [3,4] (fun v i wr=>HalfInv w g v i wr) (fun _ i _=>g.length-(intOf i).toNat)
 case atStart=>exact⟨0,[],Mx _,Z,Z,fun d B=>by simp at B,OwnN.nil _ _,by simp[aB],Below.refl _ _⟩
 case round=>
  obtain⟨k,o,hk,rfl,F,D,n,G,u⟩:=hrel;have U:=J n;have T:=J G;have C:=J u;have E:=J F;have r:=J D;have m:=u.size;have Y:o.length<=1073741822:=by omega
  clear n G u F D;by_cases j:k<g.length
  ·obtain⟨b,off,rfl,hb,M⟩:=R.out.digit j;obtain⟨d,B⟩:∃d,g[k]=d:=⟨_,rfl⟩;have V:=(C.out.cell (p:=⟨b,off+k,none⟩) hb).trans (M k j);rw[B]at V;have q:d<4294967296:=by rw[<-B];exact R.out.ok _ (MY j)
   have HD:=J B;clear B;by_cases l:k+1<g.length
   ·obtain⟨x,L⟩:∃x,g[k+1]=x:=⟨_,rfl⟩;have H:=(C.out.cell (p:=⟨b,off+(k+1),none⟩) hb).trans (M (k+1) l);rw[L]at H;have W:x<4294967296:=by rw[<-L];exact R.out.ok _ (MY l)
    have P:=J (show g.getD (k+1) 0%2=x%2 by rw[Mm,L4 l,MK,L]);have z:=GO (d/2) x (by omega);rw[show((d/2:Nat):Int)=(d:Int)/2 by omega,show((x*2147483648%4294967296:Nat):Int)=(x:Int)*2147483648%4294967296 by omega]at z;have Q:=J z;clear z L M
    go_wp2_with (at_builtin;refine fS w.heap.size _ o _ (d/2+2147483648*(x%2)) (.tmp 30) (.tmp 32) rfl rfl rfl rfl U.out Q.out (by omega) m ?_;intro v2 w2 a f;have y:=J a;have s:=J f;clear a f)
    go_roundw
    case rel=>exact ot j E.out r.out HD.out P.out q y.out T.out (C.out.trans s.out.below) (by omega)
    case measure=>simp[intOf];omega
   have P:=J (show g.getD (k+1) 0%2=0 by rw[Mm,Nq (by omega)];rfl);clear M
   go_wp2_with (at_builtin;refine fS w.heap.size _ o _ (d/2+2147483648*0) (.tmp 30) (.tmp 32) rfl rfl rfl rfl U.out (by omega) (by omega) m ?_;intro v2 w2 a f;have y:=J a;have s:=J f;clear a f)
   go_roundw
   case rel=>exact ot j E.out r.out HD.out P.out q y.out T.out (C.out.trans s.out.below) (by omega)
   case measure=>simp[intOf];omega
  obtain rfl:k=g.length:=by omega
  have hv:aB o=aB g/2:=by
   have X:=T.out;rw[M9,Mm (i:=g.length),Nq (L5 _)]at X;simp only[Option.getD_none,Nat.zero_mod,Oy,No]at X;omega
  have HV:=J hv;clear hv;obtain⟨A2,c2,e2,I⟩:=U.out.is r.out;subst e2;have N:=J I;clear I
  go_wp2_with fail
  refine(dl A2 c2 o _ N.out (by omega)).mono ?_;rintro e w3 ⟨v3,rfl,t,K⟩;rw[HV.out]at t;have O:=J (t.base_le m);have S:=J (ak C.out K m);clear t K
  go_wp2
  go_ret
  exact⟨v3,Z,O.out,S.out⟩
theorem xf{l:List Nat}{d:Nat}(h:Digs l)(c:d<4294967296):Digs (l++[d]):=fun e b=>by
 rcases My.1 b with a|a
 ·exact h e a
 simp at a;omega
theorem ud(l:List Nat)(k:Nat)(h:l.length<=k):aB (l.take (k+1))=aB (l.take k)+4294967296^k*0:=by
 rw[Me (i:=k+1) (by omega),Me (i:=k) (by omega)];simp
def NAddInv(w:World)(dx dy:List Nat)(v c i:Value)(wr:World):Prop:=
 ∃(k cy:Nat) (o:List Nat),(k<=dx.length\/k<=dy.length)/\i=.int .i64 k/\c=.int .u64 cy/\cy<=1/\o.length=k/\Digs o/\OwnN wr w.heap.size v o/\aB o+4294967296^k*cy=aB (dx.take k)+aB (dy.take k)/\Below w.heap.size w wr
theorem lf{w wr:World}{b f o:List Nat}{k a x y s:Nat}{v:Value}{c i:Int}(r:k<b.length\/k<f.length)(d:o.length=k)(g:Digs o)(p:s=a+x+y)(q:s<8589934592)(e:OwnN wr w.heap.size v (o++[s%4294967296]))(t:aB o+4294967296^k*a=aB (b.take k)+aB (f.take k))
  (m:aB (b.take (k+1))=aB (b.take k)+4294967296^k*x) (n:aB (f.take (k+1))=aB (f.take k)+4294967296^k*y) (j:Below w.heap.size w wr) (l:c=((s/4294967296:Nat):Int)) (h:i=((k+1:Nat):Int)):NAddInv w b f v (.int .u64 c) (.int .i64 i) wr:=by
 subst l h p;refine⟨k+1,(a+x+y)/4294967296,o++[(a+x+y)%4294967296],by omega,Z,Z,by omega,by simp[d],xf g (by omega),e,?_,j⟩;rw[dm _ _ k d,m,n,MM];generalize 4294967296^k=P at*;have u:P*((a+x+y)%4294967296)+P*(4294967296*((a+x+y)/4294967296))=P*a+P*x+P*y:=by
  rw[<-MF,<-MF,<-MF];congr 1;omega
 rw[Mu];omega
theorem zn(A B:Option Addr)(ca cb:Nat)(j g:List Nat)(w:World)(h:IsN w A ca j)(h':IsN w B cb g)(hl:j.length<=1073741822)(a5:g.length<=1073741822):
  Calls Tryz.prog 214 #[.slice A j.length ca,.slice B g.length cb] w (NatPost (aB j+aB g) w):=by
 have HI:=J h;have HJ:=J h';clear h h'
 go_enter Tryz.func214,Tryz.ntmps214
 go_wp2
 go_loopw [5,6,7] (fun v cb i wr=>NAddInv w j g v cb i wr) (fun _ _ i _=>j.length+g.length-(intOf i).toNat)
 case atStart=>exact⟨0,0,[],.inl (Mx _),Z,Z,by omega,Z,fun d hd=>by simp at hd,OwnN.nil _ _,by simp[aB],Below.refl _ _⟩
 case round=>
  obtain⟨k,u,o,hk,rfl,rfl,m,U,T,G,V,K⟩:=hrel;have HO:=J G;have HQ:=J V;have H:=J K;have E:=J U;have C:=J T;have t:=K.size;have a4:o.length<=1073741822:=by omega
  clear G V K U T;by_cases F:k<j.length
  ·by_cases D:k<g.length
   ·obtain⟨qx,ox,rfl,M,q⟩:=HI.out.digit F;obtain⟨x,f⟩:∃x,j[k]=x:=⟨_,rfl⟩;have r:=(H.out.cell (p:=⟨qx,ox+k,none⟩) M).trans (q k F);rw[f]at r;have R:x<4294967296:=by rw[<-f];exact HI.out.ok _ (MY F)
    have Q:=J (show aB (j.take (k+1))=aB (j.take k)+4294967296^k*x by rw[cQ j k F,f]);clear q f;obtain⟨qy,oy,rfl,N,m⟩:=HJ.out.digit D;obtain⟨y,c⟩:∃y,g[k]=y:=⟨_,rfl⟩;have n:=(H.out.cell (p:=⟨qy,oy+k,none⟩) N).trans (m k D);rw[c]at n;have Y:y<4294967296:=by rw[<-c];exact HJ.out.ok _ (MY D)
    have O:=J (show aB (g.take (k+1))=aB (g.take k)+4294967296^k*y by rw[cQ g k D,c]);clear m c
    go_wp2_with (at_builtin;refine fS w.heap.size _ o _ ((u+x+y)%4294967296) (.tmp 42) (.tmp 45) rfl rfl rfl rfl HO.out (by omega) (by omega) t ?_;intro v2 w2 a b;have z:=J a;have l:=J b;clear a b)
    go_roundw
    case rel=>exact lf (s:=u+x+y) (x:=x) (y:=y) (by omega) E.out C.out (by omega) (by omega) z.out HQ.out Q.out O.out (H.out.trans l.out.below) (by omega) (by omega)
    case measure=>simp[intOf];omega
   obtain⟨qx,ox,rfl,M,q⟩:=HI.out.digit F;obtain⟨x,f⟩:∃x,j[k]=x:=⟨_,rfl⟩;have r:=(H.out.cell (p:=⟨qx,ox+k,none⟩) M).trans (q k F);rw[f]at r;have R:x<4294967296:=by rw[<-f];exact HI.out.ok _ (MY F)
   have Q:=J (show aB (j.take (k+1))=aB (j.take k)+4294967296^k*x by rw[cQ j k F,f]);clear q f;have O:=J (ud g k (by omega))
   go_wp2_with (at_builtin;refine fS w.heap.size _ o _ ((u+x)%4294967296) (.tmp 42) (.tmp 45) rfl rfl rfl rfl HO.out (by omega) (by omega) t ?_;intro v2 w2 a b;have z:=J a;have l:=J b;clear a b)
   go_roundw
   case rel=>exact lf (s:=u+x) (x:=x) (y:=0) (by omega) E.out C.out (by omega) (by omega) z.out HQ.out Q.out O.out (H.out.trans l.out.below) (by omega) (by omega)
   case measure=>simp[intOf];omega
  by_cases D:k<g.length
  ·have Q:=J (ud j k (by omega));obtain⟨qy,oy,rfl,N,m⟩:=HJ.out.digit D;obtain⟨y,c⟩:∃y,g[k]=y:=⟨_,rfl⟩;have n:=(H.out.cell (p:=⟨qy,oy+k,none⟩) N).trans (m k D);rw[c]at n;have Y:y<4294967296:=by rw[<-c];exact HJ.out.ok _ (MY D)
   have O:=J (show aB (g.take (k+1))=aB (g.take k)+4294967296^k*y by rw[cQ g k D,c]);clear m c
   go_wp2_with (at_builtin;refine fS w.heap.size _ o _ ((u+y)%4294967296) (.tmp 42) (.tmp 45) rfl rfl rfl rfl HO.out (by omega) (by omega) t ?_;intro v2 w2 a b;have z:=J a;have l:=J b;clear a b)
   go_roundw
   case rel=>exact lf (s:=u+y) (x:=0) (y:=y) (by omega) E.out C.out (by omega) (by omega) z.out HQ.out Q.out O.out (H.out.trans l.out.below) (by omega) (by omega)
   case measure=>simp[intOf];omega
  have hv:aB (o++[u])=aB j+aB g:=by
   have:=HQ.out;rw[Me (by omega),Me (by omega)]at this;rw[dm o u _ E.out];omega
  have HV:=J hv;have P:Hid (Digs (o++[u])):=xf C.out (by omega);obtain⟨L,hL⟩:∃L,o++[u]=L:=⟨_,rfl⟩;have a3:L.length<=1073741823:=by rw[<-hL];simp;omega
  have HL:=J hL;rw[hL]at HV P;clear hv hL
  go_wp2_with (at_builtin;refine fS w.heap.size _ o _ u (.tmp 49) (.tmp 52) rfl rfl rfl rfl HO.out (by omega) (by omega) t ?_;intro v2 w2 a b;rw[HL.out]at a;have l:=J b;obtain⟨A2,c2,e2,W⟩:=a.is P.out;subst e2;have a0:=J W;have S:w.heap.size<=w2.heap.size:=L6 t b.size;clear a b W)
  refine(dl A2 c2 L _ a0.out a3).mono ?_;rintro e w3 ⟨v3,rfl,I,X⟩;rw[HV.out]at I;have a1:=J (I.base_le S);have a2:=J ((H.out.trans l.out.below).trans (X.mono S));clear I X
  go_wp2
  go_ret
  exact⟨v3,Z,a1.out,a2.out⟩
theorem pC(j s:Nat):(2:Nat)^(32*j+s)=4294967296^j*2^s:=by
 rw[N2,PF]
theorem GP(a s:Nat)(b:s<32):a%4294967296/2^s%2=a/2^s%2:=by
 have h:(4294967296:Nat)=2^s*2^(32-s):=by rw[<-N2,show s+(32-s)=32 by omega]
 rw[h,Nat.mod_mul_right_div_self,Qr];exact⟨2^(32-s-1),by rw[<-Nat.pow_succ',show(32-s-1).succ=32-s by omega]⟩
theorem pD:∀(l:List Nat) (j:Nat),Digs l->l.getD j 0=aB l/4294967296^j%4294967296
 |[],j,_=>by simp[aB]
 |d::l,0,h=>by
  have:=h d (Mr ..);simp only[List.getD_cons_zero,aB,Py,P2];omega
 |d::l,j+1,h=>by
  have c:=h d (Mr ..);have b:=pD l j (fun x a=>h x (MB _ a));simp only[List.getD_cons_succ,aB,b];rw[MM,Mt (4294967296^j),<-Ov,show(d+4294967296*aB l)/4294967296=aB l by omega]
theorem CG{l:List Nat}{j s d:Nat}(h:Digs l)(b:j<l.length)(e:l[j]=d)(c:s<32):d/2^s%2=aB l/2^(32*j+s)%2:=by
 have a:=pD l j h;rw[Mm,L4 b,MK,e]at a;rw[a,GP _ _ c,Ov,<-pC]
theorem GQ(l:List Nat)(j d e:Nat)(a:j<l.length)(c:l[j]=d):aB (l.set j (d+e))=aB l+4294967296^j*e:=by
 have f:=ld l j a;have h:=ld (l.set j (d+e)) j (by simpa using a);rw[h,f,c];have b:(l.set j (d+e)).take j=l.take j:=by rw[PI,List.set_eq_of_length_le];rw[Mf];omega
 have g:(l.set j (d+e)).drop (j+1)=l.drop (j+1):=by rw[Qn (by omega)]
 rw[b,g,List.getElem_set_self,Qs,MF];omega
theorem rV{l:List Nat}{j s d m:Nat}(h:Digs l)(f:j<l.length)(e:l[j]=d)(i:s<32)(c:aB l=m*2^(32*j+s+1)):d%2^(s+1)=0:=by
 have a:=pD l j h;rw[Mm,L4 f,MK,e]at a;have g:aB l=4294967296^j*(m*2^(s+1)):=by rw[c,NT,pC,<-Mu,Mt m,Mu]
 rw[g,Pe _ (NN (by decide))]at a;rw[a];have b:(4294967296:Nat)=2^(s+1)*2^(31-s):=by rw[<-N2,show s+1+(31-s)=32 by omega]
 rw[Qr _ ⟨2^(31-s),b⟩,Nat.mul_mod_left]
theorem I3(d s:Nat)(e:d<4294967296)(c:s<32)(h:d%2^(s+1)=0):bits .or .u32 (d:Int) ((2^s:Nat):Int)=((d+2^s:Nat):Int):=by
 have a:2^s<2^32:=NS (by decide) c;rw[u32_or_nat d (2^s) e (by simpa using a)];have f:d|||2^s=d+2^s:=by
  have:=NF (i:=s+1) (b:=2^s) (NS (by decide) (by omega)) (d/2^(s+1));rw[Oj,O9 (P3 h)]at this;exact this.symm
 rw[f]
theorem ou(d:Nat)(a:d<4294967296):bits .and .u32 (d:Int) 1=((d%2:Nat):Int):=by
 have:=u32_and_nat d 1 a (by decide);rw[show((1:Nat):Int)=1 from rfl]at this;rw[this,Nat.and_one_is_mod]
theorem GR{P Y b:Nat}(a:0<Y)(d:b<=1):(Y<=2*(P%Y)+b->(2*P+b)/Y=2*(P/Y)+1/\(2*P+b)%Y=2*(P%Y)+b-Y)/\(2*(P%Y)+b<Y->(2*P+b)/Y=2*(P/Y)/\(2*P+b)%Y=2*(P%Y)+b):=by
 have c:=Oe P Y;have g:=Ni P a;generalize P/Y=q at*;generalize P%Y=r at*;subst c;have f:2*(Y*q)=Y*(2*q):=by rw[<-Mu,Mt 2 Y,Mu]
 constructor
 ·intro h;have e:2*(Y*q+r)+b=(2*r+b-Y)+Y*(2*q+1):=by rw[MF Y,MF 2];omega
  rw[e,Pz _ _ a,O4,Oa (by omega),NZ (by omega)];omega
 intro h;have e:2*(Y*q+r)+b=(2*r+b)+Y*(2*q):=by rw[MF 2];omega
 rw[e,Pz _ _ a,O4,Oa h,NZ h];omega
theorem GS(X m:Nat):X/2^m=2*(X/2^(m+1))+X/2^m%2:=by
 rw[MM,<-Ov];omega
theorem zo(n:Nat):(madeCells (Value.int .u32 0).cells (n*1)).toList=ce (List.replicate n 0):=by
 apply OY
 ·simp[madeCells,ce]
 intro j b a;simp[madeCells,ce,Value.cells,Nat.mod_one]
theorem eF(w:World)(n:Nat)(k:n<=1073741824):∃w',(∀a b,(Instr.makeSlice 63 (.int a (n:Int)) (.int b (n:Int))).run Tryz.prog w=.ok (.slice (some ⟨w.heap.size,0,none⟩) n n) w')/\
  OwnN w' w.heap.size (.slice (some ⟨w.heap.size,0,none⟩) n n) (List.replicate n 0)/\Below w.heap.size w w'/\w'.heap.size=w.heap.size+1:=by
 obtain⟨i,g,d,f,c⟩:=info_parts rQ;have j:∀a b,(Instr.makeSlice 63 (.int a (n:Int)) (.int b (n:Int))).run Tryz.prog w=.ok (.slice (some ⟨w.heap.size,0,none⟩) n n) (w.alloc (.cells (madeCells (Value.int .u32 0).cells (n*i.size)) 50)):=fun a b=>by
  have:=run_make (P:=Tryz.prog) w 63 50 i (.int .u32 0) Tryz.underlying63 g d a b n n (by omega) (Int.le_refl _) (by rw[c];omega) (by omega);simpa using this
 rw[f]at j;refine⟨_,j,?_,(Below.refl _ _).alloc (L5 _) _,by simp⟩;have h:=World.ownsRow_lit (base:=w.heap.size) (e:=50) (size:=1) w (madeCells (Value.int .u32 0).cells (n*1)) n (L5 _) (by simp only[maxLen];omega) (size_madeCells _ _);rw[zo]at h;unfold OwnN;rw[Ok];exact h
theorem j8(n:Nat):aB (List.replicate n 0)=0:=nu _ (fun _ a=>(ON.1 a).2)
theorem jt(n:Nat):Digs (List.replicate n 0):=fun _ a=>by rw[(ON.1 a).2];decide
def DivInv(w2:World)(X Y n:Nat)(r i:Value)(wr:World):Prop:=
 ∃(k:Nat) (qd:List Nat),k<=32*n/\i=.int .i64 ((k:Int)-1)/\qd.length=n/\Digs qd/\OwnN wr w2.heap.size (.slice (some ⟨w2.heap.size,0,none⟩) n n) qd/\aB qd=X/2^k/Y*2^k/\OwnN wr (w2.heap.size+1) r (ay (X/2^k%Y))/\Below w2.heap.size w2 wr/\w2.heap.size+1<=wr.heap.size
theorem vI{a W:World}{X Y n:Nat}{i:Int}(d:X<4294967296^n)(e:OwnN W a.heap.size (.slice (some ⟨a.heap.size,0,none⟩) n n) (List.replicate n 0))(f:Below a.heap.size a W)(g:W.heap.size=a.heap.size+1)(c:i=32*(n:Int)-1):DivInv a X Y n (.slice none 0 0) (.int .i64 i) W:=by
 have b:X/2^(32*n)=0:=Oa (by rw[PF];exact d);subst c;refine⟨32*n,List.replicate n 0,L5 _,by rw[show((32*n:Nat):Int)-1=32*(n:Int)-1 by omega],Ok,jt n,e,by rw[j8,b];simp,?_,f,by omega⟩;rw[b];simp;exact OwnN.nil _ _
theorem I4{d s:Nat}(c:d<4294967296)(a:s<32)(h:d%2^(s+1)=0):d+2^s<4294967296:=by
 have e:d|||2^s=d+2^s:=by
  have:=NF (i:=s+1) (b:=2^s) (NS (by decide) (by omega)) (d/2^(s+1));rw[Oj,O9 (P3 h)]at this;exact this.symm
 rw[<-e];exact Nat.or_lt_two_pow (n:=32) c (NS (by decide) a)
theorem iA{w:World}{base e size n g:Nat}{v:Value}{xs:List Value}(h:w.ownsRow base e size v n xs)(a:g<base):v.ownBlock≠some g:=fun e=>by have:=(h.lt g e).1;omega
theorem DivInv.set{a g:World}{X Y n m j s q0 D:Nat}{b:List Nat}{A:Value}{z i:Int}(K:m<=32*n)(c:b.length=n)(f:Digs b)(t:OwnN g a.heap.size (.slice (some ⟨a.heap.size,0,none⟩) n n) b)(l:aB b=X/2^(m+1)/Y*2^(m+1))(o:32*j+s=m)(F:s<32)(v:j<b.length)(e:b[j]=q0)
  (C:OwnN g D A (ay (X/2^m%Y))) (w:a.heap.size+1<=D) (u:X/2^m/Y=2*(X/2^(m+1)/Y)+1) (B:Below a.heap.size a g) (x:a.heap.size+1<=g.heap.size) (G:z=((q0+2^s:Nat):Int)) (H:i=(m:Int)-1):
  DivInv a X Y n A (.int .i64 i) (g.setCell ⟨a.heap.size,j,none⟩ (.int .u32 z)):=by
 subst G H;have y:q0%2^(s+1)=0:=rV f v e F (m:=X/2^(m+1)/Y) (by rw[l,o]);have q:q0<4294967296:=by rw[<-e];exact f _ (MY v)
 refine⟨m,b.set j (q0+2^s),K,Z,by rw[MU,c],fun d I=>?_,?_,?_,?_,B.setCell (p:=⟨a.heap.size,j,none⟩) (L5 _) _,by simpa[World.setCell]using x⟩
 ·rcases OH I with h|h
  ·exact f d h
  rw[h];exact I4 q F y
 ·have r:OwnN g a.heap.size (.slice (some ⟨a.heap.size,0,none⟩) b.length n) b:=by rw[c];exact t
  have E:=r.set (i:=j) (q0+2^s);rw[MU,c]at E;exact E
 ·rw[GQ b j q0 (2^s) v e,l,u,M3,<-pC,o,MM,Og];congr 1;rw[Mt (2^m) 2,<-Mu,Mt _ 2]
 have r:OwnN g (a.heap.size+1) A (ay (X/2^m%Y)):=C.base_le w;exact eZ r (iA r (Po _)) (fun k J=>Below.heap_setCell _ _ _ _ J)
def BB(X Y:Nat)(w:World)(e:Ending)(w':World):Prop:=∃q r,e=.returned (.tuple #[q,r,.bool true])/\OwnN w' w.heap.size q (ay (X/Y))/\OwnN w' w.heap.size r (ay (X%Y))/\Below w.heap.size w w'
theorem zp(A B:Option Addr)(ca cb:Nat)(x y:List Nat)(w:World)(hA:IsN w A ca x)(hB:IsN w B cb y)(s5:x.length<=1048576)(s2:y.length<=1048576)(hy:0<aB y):
  Calls Tryz.prog 175 #[.slice A x.length ca,.slice B y.length cb] w (BB (aB x) (aB y) w):=by
 have HA:=J hA;have HB:=J hB;clear hA hB;have q8:(ay (aB x)).length<=x.length:=aR (b4 x HA.out.ok);have p5:(ay (aB y)).length<=y.length:=aR (b4 y HB.out.ok);have h6:0<(ay (aB y)).length:=by
  rcases M1 (ay (aB y)).length with h|h
  ·have:=bR.1 h;omega
  exact h
 go_enter Tryz.func175,Tryz.ntmps175
 go_wp2_with fail
 refine(dl A ca x _ HA.out (by omega)).mono ?_;intro e w1 h1;obtain⟨A1,c1,rfl,m4,d9⟩:=h1.open_;have h3:=J m4;have j3:=J d9;have g2:=d9.size;clear h1 m4 d9
 go_wp2_with fail
 refine(dl B cb y _ (HB.out.below j3.out) (by omega)).mono ?_;intro e w2 h2;obtain⟨A2,c2,rfl,h9,a1⟩:=h2.open_;have d5:=J h9;have L:=J (h3.out.below a1);have o1:=J (ak j3.out a1 g2);have q2:w.heap.size<=w2.heap.size:=L6 g2 a1.size;clear h2 h9 a1 h3;have U:=J (aI (aB x));have n:=J (aI (aB y));obtain⟨K,a5⟩:∃K,ay (aB x)=K:=⟨_,rfl⟩;obtain⟨O,v⟩:∃O,ay (aB y)=O:=⟨_,rfl⟩;have z:=J v;rw[a5]at L q8 U⊢;rw[v]at d5 p5 h6 n⊢;clear a5 v;obtain⟨X,hX⟩:∃X,aB x=X:=⟨_,rfl⟩;obtain⟨Y,hY⟩:∃Y,aB y=Y:=⟨_,rfl⟩;rw[hX]at U;rw[hY]at n hy z;have m3:=J hX;have g0:=J hY;clear hX hY;have b3:X<4294967296^K.length:=by rw[<-U.out];exact b4 K L.out.ok
 have n2:=J b3;clear b3;have g1:((O.length:Int)==0)=false:=by rw[beq_eq_false_iff_ne];omega
 obtain⟨W,d2,h5,l5,f3⟩:=eF w2 K.length (by omega);have d2:=d2 .i64 .i64;have r2:=J h5;have p4:=J l5;have q6:=J f3;clear h5 l5 f3
 go_wp2
 clear d2
 go_loopw [10,11] (fun r i wr=>DivInv w2 X Y K.length r i wr) (fun _ i _=>(intOf i+1).toNat)
 case atStart=>exact vI n2.out r2.out p4.out q6.out (by omega)
 case round=>
  obtain⟨k,qd,hk,rfl,i9,h8,h0,f6,o,h7,s3⟩:=hrel;have G:=J i9;have F:=J h8;have k5:=J h0;have a2:=J f6;have V:=J o;have d0:=J h7;clear i9 h8 h0 f6 o h7;cases k with
  |zero=>
   have f9:aB qd=X/Y:=by have:=a2.out;simpa using this
   have o:=V.out;rw[Py,P2]at o;obtain⟨Ar,cr,er,I⟩:=o.is (bY (X%Y));subst er;have C:=J I;have M:=J (aI (X%Y));have p2:(ay (X%Y)).length<=O.length:=by rw[<-z.out];exact aS (PA (Ni _ hy))
   have g4:IsN wr (some ⟨w2.heap.size,0,none⟩) K.length qd:=by
    have h1:=k5.out;obtain⟨A',c',e,hi⟩:=h1.is F.out;injection e with e1 e2 e3
    subst e1 e3;exact hi
   have q1:=J g4;have q3:=J f9;obtain⟨dr,e6⟩:∃dr,ay (X%Y)=dr:=⟨_,rfl⟩;rw[e6]at C M p2⊢;have r6:=J e6;have g:w.heap.size<=wr.heap.size:=by omega
   have g3:=J (o1.out.trans (d0.out.mono q2));clear o I g4 f9 e6;have f0:=dl (some ⟨w2.heap.size,0,none⟩) K.length qd wr q1.out (by have:=G.out;omega);rw[G.out,q3.out]at f0;have r3:=J f0;clear f0
   go_wp2_with fail
   refine r3.out.mono ?_;rintro e w4 ⟨v4,rfl,E,c⟩;have l:=J E;have d7:=J c;have f7:=c.size;clear E c;have d6:=dl Ar cr dr w4 (C.out.below d7.out) (by omega);rw[M.out]at d6;have p7:=J d6;clear d6
   go_wp2_with fail
   refine p7.out.mono ?_;rintro e w5 ⟨v5,rfl,m9,a⟩;have c3:=J m9;have a0:=J (l.out.below a);have Q:=J (ak (ak g3.out d7.out g) a (L6 g f7));clear m9 a
   go_wp2
   go_ret3
   exact⟨v4,v5,Z,by rw[m3.out,g0.out];exact a0.out.base_le g,by rw[m3.out,g0.out];exact c3.out.base_le (by omega),Q.out⟩
  |succ m=>
   rw[show((m+1:Nat):Int)-1=(m:Int) by omega];have hj:m/32<K.length:=by omega
   obtain⟨j,m1⟩:∃j,m/32=j:=⟨_,rfl⟩;obtain⟨s,p0⟩:∃s,m%32=s:=⟨_,rfl⟩;have f:s<32:=by omega
   have e7:32*j+s=m:=by omega
   rw[m1]at hj;have i1:(m:Int)/32=(j:Int):=by omega
   have i2:(m:Int)%32=(s:Int):=by omega
   obtain⟨b,off,rfl,hb,hc⟩:=(L.out.below d0.out).digit hj;obtain⟨d,hd⟩:∃d,K[j]=d:=⟨_,rfl⟩;have c6:=hc j hj;rw[hd]at c6;have l2:d<4294967296:=by rw[<-hd];exact L.out.ok _ (MY hj)
   have a4:=J (CG L.out.ok hj hd f);rw[U.out,e7]at a4;have p1:d/2^s<4294967296:=NC (NY _ _) l2;have H:=ou (d/2^s) p1;rw[PX,show((2^s:Nat):Int)=(2:Int)^s by simp,a4.out]at H;have a9:=J H;have N:X/2^m%2<=1:=by omega
   obtain⟨bit,d3⟩:∃bit,X/2^m%2=bit:=⟨_,rfl⟩;rw[d3]at a9 N;have n0:=J d3;clear H d3;have f4:=J e7;clear hd hc m1 p0 e7;have k1:(j:Int)<(K.length:Int):=by omega
   have k2:(0:Int)<=(j:Int):=by omega
   have k3:(0:Int)<=(s:Int):=by omega
   have k4:(s:Int)<32:=by omega
   obtain⟨R,hR⟩:∃R,X/2^(m+1)%Y=R:=⟨_,rfl⟩;have s6:R<Y:=by rw[<-hR];exact Ni _ hy
   have HR:=J hR;rw[hR]at V;clear hR;have q5:(ay R).length<=O.length:=by rw[<-z.out];exact aS (by omega)
   obtain⟨Ar,cr,er,I⟩:=V.out.is (bY R);subst er;have C:=J I;have M:=J (aI R);clear I;obtain⟨dr,b0⟩:∃dr,ay R=dr:=⟨_,rfl⟩;rw[b0]at C M q5 V⊢;clear b0;have g:w2.heap.size<=wr.heap.size:=by omega
   go_wp2_with fail
   rw[a9.out];have b5:=rU Ar cr dr bit wr C.out (by omega) N;rw[M.out]at b5;refine b5.mono ?_;intro e w4 h4;obtain⟨v4,rfl,E,c⟩:=h4;have l:=J E;have d7:=J c;have f7:=c.size;have r1:=J (k5.out.below c);have b2:=J (ak d0.out c g);clear b5 E c;obtain⟨q,e0⟩:∃q,2*R+bit=q:=⟨_,rfl⟩;have r4:q<2*Y:=by omega
   rw[e0]at l;have o2:=J e0;clear e0;have i4:(ay q).length<=O.length+1:=aR (by
    have h1:=b4 O d5.out.ok;rw[n.out]at h1;rw[MM];omega)
   obtain⟨A4,c4,e4,i5⟩:=l.out.is (bY q);subst e4;have c0:=J i5;have S:=J (aI q);clear i5;obtain⟨d4,e9⟩:∃d4,ay q=d4:=⟨_,rfl⟩;have m2:=J e9;rw[e9]at c0 S i4 l⊢;clear e9;have f8:w2.heap.size<=w4.heap.size:=by omega
   have f2:=J (d5.out.below b2.out)
   go_wp2_with fail
   have p:=qU A4 A2 c4 c2 d4 O w4 c0.out f2.out (by omega) (by omega);rw[S.out,n.out]at p;refine p.mono ?_;rintro e w5 ⟨he,a⟩;have Q:=J a;have s4:=a.size;have a0:=J (r1.out.below a);have c3:=J (l.out.below a);have b1:=J (ak b2.out a f8);clear p a;have f1:=GR (P:=X/2^(m+1)) (Y:=Y) (b:=bit) hy N;have c5:=GS X m;rw[n0.out]at c5;rw[<-c5,HR.out,o2.out]at f1;have i0:=J f1;clear f1 c5;by_cases i3:Y<=q
   ·obtain⟨u,t⟩:=i0.out.1 i3;have c7:=J u;have e5:=J t;clear u t;have n1:0<=eu (q:Int) (Y:Int):=by
     rcases MI Y q with h|h
     ·rw[iy h];decide
     rw[iz (by omega)];decide
    obtain⟨cm,p⟩:∃cm,eu (q:Int) (Y:Int)=cm:=⟨_,rfl⟩;rw[p]at he n1;subst he;clear p
    go_wp2_with fail
    have d1:=vH A4 A2 c4 c2 d4 O w5 (c0.out.below Q.out) (f2.out.below Q.out) (by omega) (by omega) (by rw[S.out,n.out];exact i3);rw[S.out,n.out]at d1;refine d1.mono ?_;rintro e w6 ⟨v6,rfl,l0,T⟩;have p3:=J l0;have t0:=T.size;have c9:=J (a0.out.below T);have l1:=J (ak b1.out T (by omega));clear d1 l0 T;have a3:j<qd.length:=by have:=G.out;omega
    obtain⟨q0,D⟩:∃q0,qd[j]=q0:=⟨_,rfl⟩;have k0:q0<4294967296:=by rw[<-D];exact F.out _ (MY a3)
    have q7:=c9.out.cell a3;rw[D]at q7;have s1:=c9.out.free j;have o3:q0%2^(s+1)=0:=rV F.out a3 D f (m:=X/2^(m+1)/Y) (by rw[a2.out,f4.out]);have r0:=J (I3 q0 s k0 f o3);have q9:=J D;have r5:2^s<4294967296:=by
     have:2^s<2^32:=NS (by decide) f;simpa using this
    clear D c6;have q4:=J (show(2:Int)^s%4294967296=((2^s:Nat):Int) by
     have e:((2^s:Nat):Int)=(2:Int)^s:=by simp
     rw[<-e];omega)
    go_wp2
    go_roundw
    case rel=>exact DivInv.set (q0:=q0) (by omega) G.out F.out c9.out a2.out f4.out f a3 q9.out (by rw[e5.out];exact p3.out) (by omega) c7.out l1.out (by omega) (by rw[q4.out,r0.out]) Z
    case measure=>simp[intOf]
   obtain⟨u,t⟩:=i0.out.2 (by omega);have c7:=J u;have e5:=J t;clear u t;rw[iX (show q<Y by omega)]at he;subst he;clear c6
   go_wp2
   go_roundw
   case rel=>
    refine⟨m,qd,by omega,Z,G.out,F.out,a0.out,?_,?_,b1.out,by omega⟩
    ·rw[a2.out,c7.out,MM,Mt (2^m) 2,<-Mu,Mt _ 2]
    rw[e5.out];have:=c3.out;rw[<-m2.out]at this;rw[<-m2.out];exact this.base_le (by omega)
   case measure=>simp[intOf]
def ov(v:Value)(w:World):Nat:=
 match v with
 | .slice (some a) n _=>aB ((List.range n).map fun i=>match w.cell? ⟨a.block,a.off+i,none⟩with
  |some (.int _ d)=>d.toNat
  |_=>0)
 |_=>0
theorem OwnN.num{w:World}{base:Nat}{v:Value}{l:List Nat}(h:OwnN w base v l):ov v w=aB l:=by
 rcases h.2 with⟨rfl,a⟩|⟨g,c,cur,rfl,k⟩
 ·have:l=[]:=Mk a;subst this;rfl
 show aB ((List.range l.length).map fun i=>match w.cell? ⟨g,0+i,none⟩with
  |some (.int _ d)=>d.toNat
  |_=>0)=aB l
 congr 1;apply OY
 ·simp
 intro j f e;have b:=h.cell e;simp[b]
theorem nf{a b:Nat}(e:a%2=0)(d:b%2=1):Nat.gcd (a/2) b=Nat.gcd a b:=by
 have c:Nat.Coprime 2 b:=by
  unfold Nat.Coprime;rw[P4,d];decide
 have:=c.gcd_mul_left_cancel (a/2);rw[show 2*(a/2)=a by omega]at this;exact this.symm
theorem rW{a b:Nat}(c:a%2=1)(d:b%2=0):Nat.gcd a (b/2)=Nat.gcd a b:=by
 rw[Oo,nf d c,Oo]
theorem CH{n:Nat}(h:n≠0):∃a:0<(ay n).length,(ay n)[0]%2=n%2:=by
 have e:=fb h;refine⟨by rw[e];simp,?_⟩;have:(ay n)[0]'(by rw[e];simp)=n%4294967296:=by
  rw[List.getElem_of_eq e];rfl
 rw[this];omega
def NumIn(w wr:World)(v:Value)(n:Nat):Prop:=OwnN wr w.heap.size v (ay n)
theorem NumIn.below{w wr w':World}{v:Value}{n:Nat}(h:NumIn w wr v n)(a:Below wr.heap.size wr w'):NumIn w w' v n:=OwnN.below h a
theorem NumIn.is{w wr:World}{v:Value}{n:Nat}(h:NumIn w wr v n):∃A c,v=.slice A (ay n).length c/\IsN wr A c (ay n):=OwnN.is h (bY n)
theorem NumIn.num{w wr:World}{v:Value}{n:Nat}(h:NumIn w wr v n):ov v wr=n:=(OwnN.num h).trans (aI n)
theorem mH{wr:World}{A:Option Addr}{c n:Nat}(h:IsN wr A c (ay n))(f:n≠0):∃b off d,A=some ⟨b,off,none⟩/\wr.cell? ⟨b,off,none⟩=some (.int .u32 (d:Nat))/\d%2=n%2/\d<4294967296/\0<(ay n).length:=by
 obtain⟨a,g⟩:=CH f;obtain⟨b,off,e,_,i⟩:=h.digit a;exact⟨b,off,(ay n)[0],e,i 0 a,g,h.ok _ (MY a),a⟩
theorem BC{wr:World}{A:Option Addr}{c n:Nat}(h:IsN wr A c (ay n))(a:(ay n).length<=1073741822):Calls Tryz.prog 225 #[.slice A (ay n).length c] wr (NatPost (n/2) wr):=by
 have:=ED A c (ay n) wr h a;rwa[aI]at this
theorem GT{wr:World}{A:Option Addr}{c n bit:Nat}(h:IsN wr A c (ay n))(a:(ay n).length<=1073741822)(b:bit<=1):Calls Tryz.prog 226 #[.slice A (ay n).length c,.int .u32 bit] wr (NatPost (2*n+bit) wr):=by
 have:=rU A c (ay n) bit wr h a b;rwa[aI]at this
theorem I5{wr:World}{A B:Option Addr}{c d m n:Nat}(h:IsN wr A c (ay m))(b:IsN wr B d (ay n))(e:(ay m).length<=1073741822)(a:(ay n).length<=1073741822):Calls Tryz.prog 101 #[.slice A (ay m).length c,.slice B (ay n).length d] wr (Bz m n wr):=by
 have:=qU A B c d (ay m) (ay n) wr h b (by omega) (by omega);rwa[aI,aI]at this
theorem Ka{wr:World}{A B:Option Addr}{c d m n:Nat}(h:IsN wr A c (ay m))(e:IsN wr B d (ay n))(f:(ay m).length<=1073741822)(b:(ay n).length<=1073741822)(a:n<=m):Calls Tryz.prog 217 #[.slice A (ay m).length c,.slice B (ay n).length d] wr (BA (m-n) wr):=by
 have:=vH A B c d (ay m) (ay n) wr h e (by omega) (by omega) (by rw[aI,aI];exact a);rwa[aI,aI]at this
theorem NatPost.num{n:Nat}{w wr:World}{e:Ending}{w':World}(h:NatPost n wr e w')(a:w.heap.size<=wr.heap.size):∃v,e=.returned v/\NumIn w w' v n/\Below wr.heap.size wr w':=by
 obtain⟨v,b,c,d⟩:=h;exact⟨v,b,OwnN.base_le c a,d⟩
theorem vJ{n M k:Nat}(h:n<=M)(a:M<4294967296^k):(ay n).length<=k:=aR (NC h a)
def Kb(w:World)(X Y:Nat)(x y sh:Value)(wr:World):Prop:=∃a b s:Nat,sh=.int .i64 s/\NumIn w wr x a/\NumIn w wr y b/\0<a/\0<b/\a*2^s=X/\b*2^s=Y/\Below w.heap.size w wr
def Kc(w:World)(G s k:Nat)(x y:Value)(wr:World):Prop:=∃a b:Nat,NumIn w wr x a/\NumIn w wr y b/\0<a/\(a%2=1\/b%2=1)/\Nat.gcd a b*2^s=G/\a<4294967296^k/\b<4294967296^k/\Below w.heap.size w wr
def Kd(w:World)(g a0 b:Nat)(x y:Value)(wr:World):Prop:=∃a:Nat,NumIn w wr x a/\NumIn w wr y b/\0<a/\a<=a0/\(a%2=1\/b%2=1)/\Nat.gcd a b=g/\Below w.heap.size w wr
def Ke(w:World)(g b0 a:Nat)(x y:Value)(wr:World):Prop:=∃b:Nat,NumIn w wr x a/\NumIn w wr y b/\0<b/\b<=b0/\Nat.gcd a b=g/\Below w.heap.size w wr
def Kf(w:World)(a s:Nat)(x i:Value)(wr:World):Prop:=∃t:Nat,t<=s/\i=.int .i64 t/\NumIn w wr x (a*2^t)/\Below w.heap.size w wr
end Go.Proofs.YtfoejfohbkmmeaaGreatDoor
