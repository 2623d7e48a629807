import Derived.Test.YtfoejfohbkmmeaaGreatDoorU15
import Derived.Test.YtfoejfohbkmmeaaGreatDoorU00
import Derived.Test.YtfoejfohbkmmeaaGreatDoorU03
import Derived.Test.YtfoejfohbkmmeaaGreatDoorU01
import Derived.Laws.CopyOwn
import Derived.Laws.Bits64
import Derived.Deep.QuietTactic
import Derived.BigQuiet
set_option maxRecDepth 100000
set_option maxHeartbeats 2000000
namespace Go.Proofs.YtfoejfohbkmmeaaGreatDoor
open Go.RowKit
open Lib renaming hid→J
theorem kt(n:Nat)(w:World)(x:n<18446744073709551616):Calls Tryz.prog 102 #[.int .u64 n] w (NatPost n w):=by
 have o:aB [n%4294967296,n/4294967296]=n:=by simp only[aB];omega
 have b:Digs [n%4294967296,n/4294967296]:=fun d b=>by
  simp only[Mi,Nr,or_false]at b;rcases b with rfl|rfl<;>omega
 obtain⟨W,p,a,c,i⟩:=lQ w 50 #[.int .u32 ((n:Int)%4294967296),.int .u32 ((n:Int)/4294967296)];have m:IsN W (some ⟨w.heap.size,0,none⟩) 2 [n%4294967296,n/4294967296]:=by
  refine⟨fun _=>⟨w.heap.size,0,Z,by omega,fun j u s=>?_⟩,fun e=>(by cases e),by simp,by omega,b⟩;rw[M0,c.cell j,<-s];simp[ce]
 have h:=J (dl (some ⟨w.heap.size,0,none⟩) 2 [n%4294967296,n/4294967296] W m (by simp));rw[o]at h;have t:=J p;have r:=J a;have q:=a.size;clear o b m p a c i
 go_enter Tryz.func102,Tryz.ntmps102
 go_wp2_with fail
 rw[t.out];refine h.out.mono ?_;rintro e y ⟨v,rfl,f,g⟩;have l:=J (f.base_le q);have k:=J (r.out.trans (g.mono q));clear f g
 go_wp2
 go_ret
 exact⟨v,Z,l.out,k.out⟩
theorem Kg{P:Program}{f:FuncId}{w:World}{n:Nat}{x:Int}(h:x=(n:Int))(a:Calls P f #[.int .u64 (n:Int)] w (NatPost n w)):Calls P f #[.int .u64 x] w (NatPost n w):=by subst h;exact a
theorem r8(n:Int)(w:World)(k: -9223372036854775808<=n)(l:n<=9223372036854775807):Calls Tryz.prog 162 #[.int .i64 n] w (NatPost n.natAbs w):=by
 have g:=J (fun w=>kt n.natAbs w (by omega));by_cases j:n<0
 ·go_enter Tryz.func162,Tryz.ntmps162
  go_wp2_with fail
  refine(Kg (n:=n.natAbs) (by omega) (g.out _)).mono ?_;rintro e h ⟨f,rfl,a,b⟩;have d:=J a;have c:=J b;clear a b
  go_wp2
  go_ret
  exact⟨f,Z,d.out,c.out⟩
 have i:0<=n:=by omega
 go_enter Tryz.func162,Tryz.ntmps162
 go_wp2_with fail
 refine(Kg (n:=n.natAbs) (by omega) (g.out _)).mono ?_;rintro e h ⟨f,rfl,a,b⟩;have d:=J a;have c:=J b;clear a b
 go_wp2
 go_ret
 exact⟨f,Z,d.out,c.out⟩
theorem Lx{wr:World}{A B:Option Addr}{c d m n:Nat}(h:IsN wr A c (ay m))(b:IsN wr B d (ay n))(e:(ay m).length<=1048576)(a:(ay n).length<=1048576):Calls Tryz.prog 174 #[.slice A (ay m).length c,.slice B (ay n).length d] wr (NatPost (Nat.gcd m n) wr):=by
 have:=GU A B c d (ay m) (ay n) wr h b (by omega) (by omega);rwa[aI,aI]at this
theorem Kh{wr:World}{A B:Option Addr}{c d m n:Nat}(h:IsN wr A c (ay m))(e:IsN wr B d (ay n))(f:(ay m).length<=1048576)(b:(ay n).length<=1048576)(a:0<n):Calls Tryz.prog 175 #[.slice A (ay m).length c,.slice B (ay n).length d] wr (BB m n wr):=by
 have:=zp A B c d (ay m) (ay n) wr h e (by omega) (by omega) (by rw[aI];exact a);rwa[aI,aI]at this
def IsD(W:World)(v:Value)(n:Nat):Prop:=∃A c,v=.slice A (ay n).length c/\IsN W A c (ay n)
theorem IsD.below{W W':World}{v:Value}{n:Nat}(h:IsD W v n)(b:Below W.heap.size W W'):IsD W' v n:=by
 obtain⟨A,c,e,a⟩:=h;exact⟨A,c,e,a.below b⟩
def ku(ng:Bool)(N D:Nat)(w:World)(e:Ending)(w':World):Prop:=∃vn vd,e=.returned (.agg #[.bool ng,vn,vd])/\OwnN w' w.heap.size vn (ay N)/\OwnN w' w.heap.size vd (ay D)/\Below w.heap.size w w'
theorem r9(k:Bool)(A B:Option Addr)(ca cb X Y:Nat)(w:World)(hA:IsN w A ca (ay X))(hB:IsN w B cb (ay Y))(z:(ay X).length<=1048576)(u:(ay Y).length<=1048576)(hY:0<Y):
  Calls Tryz.prog 110 #[.bool k,.slice A (ay X).length ca,.slice B (ay Y).length cb] w (ku (k&&decide (X≠0)) (X/Nat.gcd X Y) (Y/Nat.gcd X Y) w):=by
 have HA:=J hA;have HB:=J hB;clear hA hB;obtain⟨W,hW,C,H,b1⟩:=lQ w 65 #[.bool false,.slice none 0 0,.slice none 0 0];have HW:=J hW;have t:=J C;have a9:=J H;have a3:=C.size;have c9:w.heap.size<W.heap.size:=by omega
 clear hW C H b1;have L:0<Nat.gcd X Y:=Nat.gcd_pos_of_pos_right _ hY;have d4:Nat.gcd X Y<=Y:=Nat.gcd_le_right _ hY;have S:X/Nat.gcd X Y=0↔X=0:=by
  constructor
  ·intro h;have i:=O9 (Nat.gcd_dvd_left X Y);rw[h]at i;omega
  intro h;rw[h];simp
 have P:Y/Nat.gcd X Y≠0:=by
  intro h;have i:=O9 (Nat.gcd_dvd_right X Y);rw[h]at i;omega
 have e0:(ay (X/Nat.gcd X Y)).length<=1048576:=L6 (aS (NY _ _)) z;have E:(ay (Nat.gcd X Y)).length<=1048576:=L6 (aS d4) u;generalize hg:Nat.gcd X Y=g at*;have o:=J S;have d9:=J P;have M:=J hg;clear S P hg
 go_enter Tryz.func110,Tryz.ntmps110
 go_wp2_with fail
 rw[HW.out];refine(Lx (HA.out.below t.out) (HB.out.below t.out) z u).mono ?_;intro e w1 i;rw[M.out]at i;obtain⟨A1,c1,rfl,b0,f⟩:=i.open_;have a4:=J b0;have a0:=J (ak t.out f a3);have N:w.heap.size<=w1.heap.size:=L6 a3 f.size;have O:w.heap.size<w1.heap.size:=Mp c9 f.size;have a5:=J (a9.out.below f a9.out.lt);clear i b0 f
 go_wp2_with fail
 refine(Kh (HA.out.below a0.out) a4.out z E L).mono ?_;rintro e w2 ⟨q2,r2,rfl,n,b2,b⟩;obtain⟨A2,c2,e2,Q⟩:=n.is (bY _);subst e2;have e5:=J Q;have I:=J (ak a0.out b N);have T:w.heap.size<=w2.heap.size:=L6 N b.size;have G:=J (a5.out.below b a5.out.lt);have K:=J (a4.out.below b);have c6:=J (n.base_le (Pf O));have U:w.heap.size<w2.heap.size:=Mp O b.size;clear n b2 Q b
 go_wp2_with fail
 refine(Kh (HB.out.below I.out) K.out u E L).mono ?_;rintro e w3 ⟨q3,r3,rfl,y,b5,c⟩;obtain⟨A3,c3,e3,R⟩:=y.is (bY _);subst e3;have e1:=J R;have a1:=J (ak I.out c T);have c0:w.heap.size<=w3.heap.size:=L6 T c.size;have l:=J (G.out.below c G.out.lt);have m:=J (c6.out.below c);have V:=J (y.base_le (Pf U));have b3:w.heap.size<w3.heap.size:=Mp U c.size;clear y b5 R c;have e6:(((ay (Y/g)).length:Int)==0)=false:=by rw[beq_eq_false_iff_ne];intro h;exact d9.out (bR.1 (by omega))
 by_cases a:X=0
 ·have d:=J a;have g1:(((ay (X/g)).length:Int)==0)=true:=by rw[beq_iff_eq];have:=bR.2 (o.out.2 a);omega
  clear a
  go_wp2_with fail
  refine(kt 1 _ (by omega)).mono ?_;rintro e w4 ⟨v4,rfl,x,s⟩;have F:=J (x.base_le (Pf b3));have d5:=J (ak a1.out s c0);have a2:=J (l.out.below s l.out.lt);obtain⟨D,q,d3,f1,f2,f3⟩:=a2.out.three;obtain⟨A4,c4,e4,_⟩:=x.is (bY 1);subst e4;clear x s
  go_wp2
  clear D q d3 f1 f2 f3;obtain⟨w6,h6,r,p,d7,j⟩:=cg a2.out (.bool false) (.slice none 0 0) (.slice A4 (ay 1).length c4);rw[h6];obtain⟨d0,D,q,_,_,_⟩:=r.three;have d6:OwnN w6 (w.heap.size+1) (.slice A4 (ay 1).length c4) (ay 1):=eZ F.out (iA F.out (Po _)) j;refine bodyPost_ret (v:=.agg #[.bool false,.slice none 0 0,.slice A4 (ay 1).length c4]) (by simp[results,Tryz.results110,go_sem,d0,D,q]) Z ⟨.slice none 0 0,.slice A4 (ay 1).length c4,by rw[d.out];simp,?_,?_,d5.out.trans p⟩
  ·rw[o.out.2 d.out];exact OwnN.nil _ _
  have e:Y/g=1:=by
   have i:=M.out;rw[d.out,PP]at i;rw[<-i];exact Nat.div_self hY
  rw[e];exact d6.base_le (Qy _)
 have d:=J a;have g1:(((ay (X/g)).length:Int)==0)=false:=by rw[beq_eq_false_iff_ne];intro h;exact a (o.out.1 (bR.1 (by omega)))
 clear a;obtain⟨D,q,d3,f1,f2,f3⟩:=l.out.three
 go_wp2
 clear D q d3 f1 f2 f3;obtain⟨w6,h6,r,p,d7,j⟩:=cg l.out (.bool k) (.slice A2 (ay (X/g)).length c2) (.slice A3 (ay (Y/g)).length c3);rw[h6];obtain⟨d0,D,q,_,_,_⟩:=r.three;have c7:OwnN w6 (w.heap.size+1) (.slice A2 (ay (X/g)).length c2) (ay (X/g)):=eZ m.out (iA m.out (Po _)) j;have c5:OwnN w6 (w.heap.size+1) (.slice A3 (ay (Y/g)).length c3) (ay (Y/g)):=eZ V.out (iA V.out (Po _)) j;refine bodyPost_ret (v:=.agg #[.bool k,.slice A2 (ay (X/g)).length c2,.slice A3 (ay (Y/g)).length c3]) (by simp[results,Tryz.results110,go_sem,d0,D,q]) Z ⟨_,_,?_,c7.base_le (Qy _),c5.base_le (Qy _),a1.out.trans p⟩;have hx:=d.out;simp[hx]
theorem oA(a:Bool)(A B:Option Addr)(q r X Y:Nat)(w:World)(P:IsN w A q (ay X))(L:IsN w B r (ay Y))(s:(ay X).length<=1048576)(H:(ay Y).length<=1048576)(hY:0<Y):
  Calls Tryz.prog 48 #[.agg #[.bool a,.slice A (ay X).length q,.slice B (ay Y).length r]] w (ku (a&&decide (X≠0)) (X/Nat.gcd X Y) (Y/Nat.gcd X Y) w):=by
 have HA:=J P;have S:=J L;clear P L;obtain⟨W,R,d,x,b,t⟩:=pm w 65 65 #[.bool a,.slice A (ay X).length q,.slice B (ay Y).length r] #[.bool false,.slice none 0 0,.slice none 0 0];have T:=J R;have i:=J d;have o:=J b;have c:=d.size;have m:w.heap.size+1<W.heap.size:=by omega
 clear R d x b t;have u:=J (r9 a A B q r X Y W (HA.out.below i.out) (S.out.below i.out) s H hY)
 go_enter Tryz.func48,Tryz.ntmps48
 go_wp2_with fail
 rw[T.out];refine u.out.mono ?_;rintro e w1 ⟨vn,vd,rfl,g,f,h⟩;obtain⟨K,N,en,_⟩:=g.is (bY _);obtain⟨M,O,ed,_⟩:=f.is (bY _);subst en ed;have k:=J g;have j:=J f;have z:=J (ak i.out h c);have n:=J (o.out.below h o.out.lt);obtain⟨D,F,d3,f1,V,f3⟩:=n.out.three;clear g f h
 go_wp2
 clear D F d3 f1 V f3;obtain⟨w6,I,y,E,a0,p⟩:=cg n.out (.bool (a&&decide (X≠0))) (.slice K (ay (X/Nat.gcd X Y)).length N) (.slice M (ay (Y/Nat.gcd X Y)).length O);first
  |rw[I]
  |(have Q:=I;simp only[ne_eq,decide_not]at Q;rw[Q])
 obtain⟨U,D,F,_,_,_⟩:=y.three;have G:=eZ k.out (iA k.out m) p;have C:=eZ j.out (iA j.out m) p;exact bodyPost_ret (v:=.agg #[.bool (a&&decide (X≠0)),.slice K (ay (X/Nat.gcd X Y)).length N,.slice M (ay (Y/Nat.gcd X Y)).length O]) (by simp[results,Tryz.results48,go_sem,U,D,F]) Z ⟨_,_,Z,OwnN.base_le (l:=ay (X/Nat.gcd X Y)) G c,OwnN.base_le (l:=ay (Y/Nat.gcd X Y)) C c,z.out.trans (E.mono (by omega))⟩
def CJ(ng:Bool)(N D:Nat)(w:World)(e:Ending)(w':World):Prop:=∃vn vd,e=.returned (.tuple #[.agg #[.bool ng,vn,vd],.int .i64 0])/\OwnN w' w.heap.size vn (ay N)/\OwnN w' w.heap.size vd (ay D)/\Below w.heap.size w w'
theorem BG(n:Int)(a: -9223372036854775808<=n)(b:n<=9223372036854775807):(ay n.natAbs).length<=2:=aR (by
 have:(4294967296^2:Nat)=18446744073709551616:=by decide
 omega)
theorem lg:(ay 1).length<=1:=aR (by decide)
theorem kw{a:Bool}{X:Nat}(h:a=true->X≠0):(a&&decide (X≠0))=a/\X/Nat.gcd X 1=X/\1/Nat.gcd X 1=1:=by
 refine⟨?_,by simp,by simp⟩;cases a with
 |false=>rfl
 |true=>simp[h Z]
theorem zq{a:Bool}{A B:Option Addr}{d c X:Nat}{w:World}(e:IsN w A d (ay X))(f:IsN w B c (ay 1))(b:(ay X).length<=1048576)(h:a=true->X≠0):Calls Tryz.prog 110 #[.bool a,.slice A (ay X).length d,.slice B (ay 1).length c] w (ku a X 1 w):=by
 have:=r9 a A B d c X 1 w e f b (by have:=lg;omega) (by decide);rwa[(kw h).1,(kw h).2.1,(kw h).2.2]at this
theorem zu{a:Bool}{A B:Option Addr}{d c X:Nat}{w:World}(e:IsN w A d (ay X))(f:IsN w B c (ay 1))(b:(ay X).length<=1048576)(h:a=true->X≠0):Calls Tryz.prog 48 #[.agg #[.bool a,.slice A (ay X).length d,.slice B (ay 1).length c]] w (ku a X 1 w):=by
 have:=oA a A B d c X 1 w e f b (by have:=lg;omega) (by decide);rwa[(kw h).1,(kw h).2.1,(kw h).2.2]at this
theorem xi(n:Int)(w:World)(h0: -9223372036854775808<=n)(p:n<=9223372036854775807):
  Calls Tryz.prog 94 #[.int .i64 n,.int .i64 1] w (CJ (decide (n<0)) n.natAbs 1 w):=by
 obtain⟨W,hW,f,u,H⟩:=lQ w 65 #[.bool false,.slice none 0 0,.slice none 0 0];have HW:=J hW;have T:=J f;have B:=J u;have q:=f.size;have K:w.heap.size<W.heap.size:=by omega
 clear hW f u H;have hl:=BG n h0 p;have a1:=lg;obtain⟨c,M⟩:∃c,decide (n<0)=c:=⟨_,rfl⟩;have A:=J M;have a2:(c !=false)=c:=by cases c<;>rfl
 go_enter Tryz.func94,Tryz.ntmps94
 go_wp2_with fail
 rw[HW.out];refine(r8 n _ h0 p).mono ?_;intro e w1 C;obtain⟨A1,c1,rfl,D,b⟩:=C.open_;have R:=J D;have P:=J (ak T.out b q);have F:w.heap.size<=w1.heap.size:=L6 q b.size;have L:w.heap.size<w1.heap.size:=Mp K b.size;have z:=J (B.out.below b B.out.lt);clear C D b
 go_wp2_with fail
 refine(r8 1 _ (by omega) (by omega)).mono ?_;intro e w2 C;obtain⟨A2,c2,rfl,E,a⟩:=C.open_;have o:=J E;have y:=J (R.out.below a);have N:=J (ak P.out a F);have d:w.heap.size<=w2.heap.size:=L6 F a.size;have r:w.heap.size<w2.heap.size:=Mp L a.size;have t:=J (z.out.below a z.out.lt);clear C E a;have s:(1:Int).natAbs=1:=rfl;rw[s]at o⊢;clear s;have I:=J (show c=true->n.natAbs≠0 from fun h=>by
  have p:=A.out;rw[h]at p;simp at p;omega)
 go_wp2_with fail
 refine(zq y.out o.out (by omega) I.out).mono ?_;rintro e w3 ⟨vn,vd,rfl,i,g,j⟩;obtain⟨An,cn,en,_⟩:=i.is (bY _);obtain⟨Ad,cd,ed,_⟩:=g.is (bY _);subst en ed;have m:=J i;have k:=J g;have S:=J (ak N.out j d);have x:=J (t.out.below j t.out.lt);obtain⟨V,X,d3,f1,f2,f3⟩:=x.out.three;clear i g j
 go_wp2
 clear V X d3 f1 f2 f3;obtain⟨w6,h6,O,U,a0,G⟩:=cg x.out (.bool c) (.slice An (ay n.natAbs).length cn) (.slice Ad (ay 1).length cd);rw[h6];obtain⟨d0,V,X,_,_,_⟩:=O.three;have Y:=eZ m.out (iA m.out r) G;have Q:=eZ k.out (iA k.out r) G;exact bodyPost_ret (v:=.tuple #[.agg #[.bool c,.slice An (ay n.natAbs).length cn,.slice Ad (ay 1).length cd],.int .i64 0]) (by simp[results,Tryz.results94,go_sem,d0,V,X]) Z ⟨_,_,by rw[A.out],OwnN.base_le (l:=ay n.natAbs) Y d,OwnN.base_le (l:=ay 1) Q d,S.out.trans U⟩
end Go.Proofs.YtfoejfohbkmmeaaGreatDoor
namespace Go.Proofs.YtfoejfohbkmmeaaGreatDoor
open Go.RowKit
structure Rd (α:Type) where
 size:Nat
 rd:World->List Value->α->Prop
 len:∀{w cs a},rd w cs a->cs.length=size
 keep:∀{w w' cs a},rd w cs a->Below w.heap.size w w'->rd w' cs a
 one:∀{w cs a},rd w cs a->∀u∈cs,u.oneCell'=true
inductive Reads {α:Type} (R:Rd α) (W:World):List Value->List α->Prop
 |nil:Reads R W [] []
 |cons {cs xs:List Value} {a:α} {l:List α} (h:R.rd W cs a) (hs:Reads R W xs l):Reads R W (cs++xs) (a::l)
variable {α:Type} {R:Rd α}
def Gives(K:World->Value->Prop)(w:World)(e:Ending)(w':World):Prop:=∃v,e=.returned v/\K w' v/\Below w.heap.size w w'
end Go.Proofs.YtfoejfohbkmmeaaGreatDoor
namespace Go.Proofs.YtfoejfohbkmmeaaGreatDoor
open Go.RowKit
open Lib renaming hid→J
theorem IsD.open_{W:World}{v:Value}{n:Nat}(h:IsD W v n):∃A c a,v=.slice A a.length c/\IsN W A c a/\Hid (a=ay n):=by
 obtain⟨A,c,e,b⟩:=h;exact⟨A,c,ay n,e,b,Z⟩
theorem IsN.isD{W:World}{A:Option Addr}{c n:Nat}{a:List Nat}(h:IsN W A c a)(b:a=ay n):IsD W (.slice A a.length c) n:=by subst b;exact⟨A,c,Z,h⟩
theorem OwnN.isD{W:World}{base:Nat}{v:Value}{n:Nat}(h:OwnN W base v (ay n)):IsD W v n:=h.is (bY n)
theorem IsN.cut{W:World}{A:Option Addr}{c k:Nat}{a:List Nat}(h:IsN W A c a)(g:k<=a.length)(f:a.take k=ay (aB a))(d:A=none->k=0):IsD W (.slice A k k) (aB a):=by
 have b:(ay (aB a)).length=k:=by rw[<-f,Mf];omega
 have i:=h.cap;have j:=h.max;refine⟨A,k,by rw[b],?_,fun e=>⟨by rw[b];exact d e,d e⟩,by omega,by omega,bY _⟩;have:=h.at_.takeN k;rwa[f]at this
theorem IsN.nz{W:World}{A:Option Addr}{c:Nat}{a:List Nat}(h:IsN W A c a)(d:0<a.length):∃b off,A=some ⟨b,off,none⟩:=by
 obtain⟨b,off,e,_⟩:=h.digit d;exact⟨b,off,e⟩
theorem sd(A:Option Addr)(c:Nat)(f:List Nat)(w:World)(h:IsN w A c f)(_hl:f.length<=1073741823):
  Calls Tryz.prog 193 #[.slice A f.length c] w (Gives (fun W v=>IsD W v (aB f)) w):=by
 have m:=J h;have z:=h.cap;have y:=h.max;clear h
 go_enter Tryz.func193,Tryz.ntmps193
 go_wp2
 go_loop [3] (fun i=>∃k:Nat,k<=f.length/\i=.int .i64 k/\(∀(j:Nat) (p:j<f.length),k<=j->f[j]=0)) (fun i=>(intOf i).toNat)
 case atStart=>exact⟨f.length,L5 _,Z,fun j p h=>by omega⟩
 case round=>
  obtain⟨k,o,rfl,t⟩:=hrel;have u:=J t;clear t;have g:(k=0\/∃h:k-1<f.length,f[k-1]≠0)->f.take k=ay (aB f):=fun r=>uc f k o m.out.ok u.out r
  have x:=J g;clear g;by_cases F:0<k
  ·obtain⟨b,off,rfl,G,B⟩:=m.out.digit (i:=k-1) (by omega);have s:=B (k-1) (by omega);obtain⟨d,q⟩:∃d,f[k-1]'(by omega)=d:=⟨_,rfl⟩;rw[q]at s;have C:=J q;clear B q;by_cases l:d=0
   ·subst l
    go_wp2
    go_round
    case rel=>
     refine⟨k-1,by omega,by go_num,fun j p h=>?_⟩;by_cases e:j=k-1
     ·subst e;exact C.out
     exact u.out j p (by omega)
    case measure=>simp[intOf];omega
   have n:=J (x.out (.inr ⟨by omega,by rw[C.out];exact l⟩));have E:((d:Int)==0)=false:=by simpa using l
   go_wp2
   go_ret
   exact⟨_,Z,m.out.cut o n.out (fun e=>by cases e),Below.refl _ _⟩
  obtain rfl:k=0:=by omega
  have n:=J (x.out (.inl Z));cases A with
  |none=>
   obtain⟨D,rfl⟩:=m.out.nil rfl
   go_wp2
   go_ret
   exact⟨_,Z,m.out.cut o n.out (fun _=>rfl),Below.refl _ _⟩
  |some a=>
   go_wp2
   go_ret
   exact⟨_,Z,m.out.cut o n.out (fun _=>rfl),Below.refl _ _⟩
theorem jT{v:Value}{n:Nat}{w:World}(h:IsD w v n)(a:(ay n).length<=1073741823):Calls Tryz.prog 193 #[v] w (Gives (fun W v=>IsD W v n) w):=by
 obtain⟨A,c,rfl,b⟩:=h;have:=sd A c (ay n) w b a;rwa[aI]at this
theorem ji(n:Nat)(w:World)(y:n<18446744073709551616):Calls Tryz.prog 149 #[.int .u64 n] w (Gives (fun W v=>IsD W v n) w):=by
 have o:aB [n%4294967296,n/4294967296]=n:=by simp only[aB];omega
 have b:Digs [n%4294967296,n/4294967296]:=fun d b=>by
  simp only[Mi,Nr,or_false]at b;rcases b with rfl|rfl<;>omega
 obtain⟨W,p,a,c,i⟩:=lQ w 50 #[.int .u32 ((n:Int)%4294967296),.int .u32 ((n:Int)/4294967296)];have m:IsN W (some ⟨w.heap.size,0,none⟩) 2 [n%4294967296,n/4294967296]:=by
  refine⟨fun _=>⟨w.heap.size,0,Z,by omega,fun j u r=>?_⟩,fun e=>(by cases e),by simp,by omega,b⟩;rw[M0,c.cell j,<-r];simp[ce]
 have h:=J (sd (some ⟨w.heap.size,0,none⟩) 2 [n%4294967296,n/4294967296] W m (by simp));rw[o]at h;have s:=J p;have q:=J a;have x:=a.size;clear o b m p a c i
 go_enter Tryz.func149,Tryz.ntmps149
 go_wp2_with fail
 rw[s.out];refine h.out.mono ?_;rintro e z ⟨t,rfl,f,g⟩;have l:=J f;have k:=J (q.out.trans (g.mono x));clear f g
 go_wp2
 go_ret
 exact⟨t,Z,l.out,k.out⟩
theorem CK{W:World}{g:Nat}{cur:List Value}{A:Option Addr}{c:Nat}{a:List Nat}(d:W.heap[g]? =some (.cells cur.toArray 50 (0,0)))(f:cur.length=a.length)(h:IsN W A c a):
  ∃w',(∀ty,(Builtin.copy_ #[63,63] ty #[.slice (some ⟨g,0,none⟩) a.length a.length,.slice A a.length c]).run Tryz.prog W=.ok (.int .i64 (a.length:Nat)) w')/\w'.heap[g]? =some (.cells (ce a).toArray 50 (0,0))/\Below g W w':=by
 have i:=Tryz.underlying63;have j:(Tryz.prog.info? 50).map (·.size)=some 1:=by kernel_rfl
 by_cases k:a.length=0
 ·obtain rfl:a=[]:=Mk k;obtain rfl:cur=[]:=Mk f;exact⟨W,fun ty=>by simpa[goInt]using run_copy_none (P:=Tryz.prog) W 63 63 ty _ (some ⟨g,0,none⟩) A 0 0 0 c i j Z,by simpa[ce]using d,Below.refl _ _⟩
 obtain⟨b,off,rfl⟩:=h.nz (by omega);have l:=fun ty=>run_copy_row (P:=Tryz.prog) W 63 63 ty _ g 0 a.length a.length ⟨b,off,none⟩ a.length c cur.toArray _ (ce a) i j d (by rw[cZ];simp) h.at_.news (by rw[cZ];simp;omega) (rP _)
 have e:((cur.toArray.toList.take 0++ce a)++cur.toArray.toList.drop (0+(ce a).length))=ce a:=by
  rw[Mg (by rw[cZ];simp;omega)];simp
 exact⟨W.setRow g (ce a).toArray,fun ty=>by rw[l ty,e,cZ];rfl,setRow_heap W g _ _ _ _ d,below_setRow (Below.refl _ _) (L5 _) _⟩
theorem uf{v:Value}{n:Nat}{w:World}(h:IsD w v n)(L:(ay n).length<=1073741823):Calls Tryz.prog 172 #[v] w (Gives (fun W v=>IsD W v n) w):=by
 have T:=J (jT h L);obtain⟨A0,V,rfl,_⟩:=h
 go_enter Tryz.func172,Tryz.ntmps172
 go_wp2_with fail
 refine T.out.mono ?_;rintro e z ⟨Y,rfl,c,b⟩;obtain⟨U,c1,B,rfl,s,o⟩:=c.open_;have M:B.length<=1073741823:=by have:=o.out;rw[this];exact L
 have m:=J s;have E:=J b;have y:=b.size;clear c s b;obtain⟨W,r,k,l,d⟩:=eF z B.length (by omega);have r:=r .i64 .i64;have C:=J k;have q:=J l;have S:=J d;clear k l d;obtain⟨cur,a,F⟩:∃cur:List Value,W.heap[z.heap.size]? =some (.cells cur.toArray 50 (0,0))/\cur.length=B.length:=by
  rcases C.out.2 with⟨K,_⟩|⟨g,P,cur,K,_,R,_,_,I,_⟩
  ·cases K
  injection K with i X N
  injection i with i
  injection i with i
  subst i N;refine⟨cur.toList,by simpa using R,?_⟩;simpa using I
 have H:=J a;clear a;have A:=J (m.out.below q.out);obtain⟨Q,p,f,x⟩:=CK H.out F A.out;have p:=p 3;have D:=J f;have G:=J ((ak E.out q.out y).trans (x.mono y));clear f x
 go_wp2
 go_ret
 refine⟨_,Z,?_,G.out⟩;refine IsN.isD (n:=n) ?_ o.out;have t:=D.out;refine⟨fun _=>⟨z.heap.size,0,Z,(ML.1 t).1,fun j u O=>?_⟩,fun e=>(by cases e),L5 _,by omega,m.out.ok⟩;rw[cell_of_row Q z.heap.size (0+j) _ _ _ t];simpa using O
theorem EK{a b:Int}(h:a=b):Value.int .i64 a=.int .i64 b:=by rw[h]
theorem zv{n:Nat}(b:n<18446744073709551616):(n=0/\ay n=[])\/(0<n/\n<4294967296/\ay n=[n])\/(4294967296<=n/\ay n=[n%4294967296,n/4294967296]):=by
 rcases M1 n with rfl|h
 ·exact .inl ⟨Z,Z⟩
 rcases MI n 4294967296 with a|a
 ·refine .inr (.inl ⟨h,a,?_⟩);rw[fb (by omega),Oa a,NZ a];rfl
 refine .inr (.inr ⟨a,?_⟩);rw[fb (by omega),fb (by omega),show n/4294967296/4294967296=0 by omega,show n/4294967296%4294967296=n/4294967296 by omega];rfl
theorem BH(a b:Nat)(e:a<4294967296)(d:b<4294967296):bits .or .u64 (((a*4294967296:Nat)):Int) (b:Int)=((a*4294967296+b:Nat):Int):=by
 rw[u64_or_nat (a*4294967296) b (by omega) (by omega)];have c:(2:Nat)^32=4294967296:=by decide
 have:=NF (i:=32) (b:=b) (by rw[c];exact d) a;rw[Oj,c]at this;rw[this]
theorem BI{v:Value}{n:Nat}{w:World}(h:IsD w v n)(C:n<18446744073709551616):Calls Tryz.prog 266 #[v] w (Gives (fun _ r=>r=.tuple #[.int .u64 n,.bool true]) w):=by
 have G:(ay n).length<=2:=aR (by have:(4294967296^2:Nat)=18446744073709551616:=(by decide);omega);have D:=J (jT h (by omega));obtain⟨M,t,rfl,_⟩:=h
 go_enter Tryz.func266,Tryz.ntmps266
 go_wp2_with fail
 refine D.out.mono ?_;rintro e F ⟨L,rfl,o,s⟩;obtain⟨K,B,H,rfl,u,q⟩:=o.open_;have f:=J u;have j:=J s;have a:=J q.out;clear o u s q D;rcases zv C with⟨x,g⟩|⟨x,y,g⟩|⟨x,g⟩
 ·rw[g]at a;obtain rfl:=a.out;subst x;clear g C
  go_wp2
  go_ret2
  exact⟨_,Z,Z,j.out⟩
 ·rw[g]at a;obtain rfl:=a.out;obtain⟨b,off,rfl,E,m⟩:=f.out.digit (i:=0) (by simp);have t:=m 0 (by simp);simp only[Ow,No]at t;clear m g
  go_wp2
  go_ret2
  exact⟨_,Z,Z,j.out⟩
 rw[g]at a;obtain rfl:=a.out;obtain⟨b,off,rfl,E,m⟩:=f.out.digit (i:=0) (by simp);have t:=m 0 (by simp);have B:=m 1 (by simp);simp only[Ow,No]at t;simp only[List.getElem_cons_succ,Ow]at B;have l:=BH (n/4294967296) (n%4294967296) (by omega) (by omega);rw[show n/4294967296*4294967296+n%4294967296=n by omega]at l;have k:=J l;have z:n%4294967296<4294967296:=by omega
 have A:n/4294967296<4294967296:=by omega
 obtain⟨lo,c⟩:∃lo,n%4294967296=lo:=⟨_,rfl⟩;obtain⟨p,d⟩:∃p,n/4294967296=p:=⟨_,rfl⟩;rw[c]at t k z f;rw[d]at B k A f;have I:=J (show n=p*4294967296+lo by omega);rw[c,d];clear l c d m g
 go_wp2
 go_quiet (fail)
 go_wp2
 go_ret2
 refine⟨_,Z,?_,bh j.out⟩;have y:=k.out;first
  |rfl
  |(rw[show(((p*4294967296:Nat)):Int)=(p:Int)*4294967296 by omega]at y;rw[<-y];rfl)
def c8(n:Nat):Nat:=if n=0 then 0 else 32*((ay n).length-1)+Lib.bitLen ((ay n).getD ((ay n).length-1) 0)
theorem zw{d:Nat}(h:0<d)(a:d<2^64):0<Lib.bitLen d:=by
 have:=(Lib.bitLenAux_bounds 64 d a (by omega)).1;exact this
theorem oB{v:Value}{n:Nat}{w:World}(h:IsD w v n)(u:(ay n).length<=1048576):Calls Tryz.prog 129 #[v] w (Gives (fun _ r=>r=.int .i64 (c8 n)) w):=by
 have C:=J (jT h (by omega));obtain⟨L,A,rfl,_⟩:=h
 go_enter Tryz.func129,Tryz.ntmps129
 go_wp2_with fail
 refine C.out.mono ?_;rintro e F ⟨I,rfl,j,o⟩;obtain⟨H,K,a,rfl,p,g⟩:=j.open_;have l:=J p;have m:=J o;have B:a.length<=1048576:=by have:=g.out;rw[this];exact u
 have z:Hid (c8 n=if a.length=0 then 0 else 32*(a.length-1)+Lib.bitLen (a.getD (a.length-1) 0)):=by
  show _=_
  unfold c8;rw[g.out];by_cases f:n=0
  ·rw[if_pos f,if_pos (bR.2 f)]
  rw[if_neg f,if_neg (fun e=>f (bR.1 e))]
 clear j p o g C u;by_cases f:a.length=0
 ·have E:((a.length:Int)==0)=true:=by rw[beq_iff_eq];omega
  go_wp2
  go_ret
  exact⟨_,Z,by rw[z.out,if_pos f];rfl,m.out⟩
 have E:((a.length:Int)==0)=false:=by rw[beq_eq_false_iff_ne];omega
 obtain⟨b,off,rfl,M,y⟩:=l.out.digit (i:=0) (by omega);have A:=y (a.length-1) (by omega);have c:a[a.length-1]'(by omega)<4294967296:=l.out.ok _ (MY _);obtain⟨d,s⟩:∃d,a[a.length-1]'(by omega)=d:=⟨_,rfl⟩;rw[s]at A c;have k:Hid (c8 n=32*(a.length-1)+Lib.bitLen d):=by
  show _=_
  rw[z.out,if_neg f,<-s,List.getD,L4 (by omega)];rfl
 obtain⟨x,q⟩:∃x,Lib.bitLen d=x:=⟨_,rfl⟩;have D:x<=32:=by rw[<-q];exact Lib.bitLen_le d 32 (by decide) (by rw[show(2:Nat)^32=4294967296 by decide];exact c)
 have t:=J (fun w=>Tryz.bits_Len32 (d:Int) w (by omega) (by omega));simp only[Oq]at t;rw[q]at t k;clear y s q
 go_wp2_with fail
 refine(t.out _).mono ?_;rintro e G ⟨rfl,rfl⟩
 go_wp2
 go_ret
 exact⟨_,Z,EK (by rw[k.out];omega),m.out⟩
theorem BJ{u v:Value}{X Y:Nat}{w:World}(hu:IsD w u X)(hv:IsD w v Y)(T:(ay X).length<=1073741823)(K:(ay Y).length<=1073741823):Calls Tryz.prog 151 #[u,v] w (Gives (fun _ r=>r=.int .i64 (eu X Y)) w):=by
 have HC:=J (jT hu T);have HV:=J hv;obtain⟨A0,c0,rfl,_⟩:=hu;obtain⟨B0,e0,rfl,_⟩:=hv
 go_enter Tryz.func151,Tryz.ntmps151
 go_wp2_with fail
 refine HC.out.mono ?_;rintro e w1 ⟨v1,rfl,L,o⟩;obtain⟨A1,c1,a,rfl,a1,d⟩:=L.open_;have F:=J a1;have Q:=J o;have z:=J d.out;have E:=o.size;clear L a1 o d HC;have W:=J (jT (HV.out.below Q.out) K)
 go_wp2_with fail
 refine W.out.mono ?_;rintro e w2 ⟨v2,rfl,a0,g⟩;obtain⟨A2,c2,b,rfl,I,d⟩:=a0.open_;have M:=J I;have V:=J (F.out.below g);have x:=J (ak Q.out g E);have y:=J d.out;have a3:w.heap.size<=w2.heap.size:=L6 E g.size;clear a0 I g d W F;have D:Hid (aB a=X):=by rw[z.out];exact aI X
 have G:Hid (aB b=Y):=by rw[y.out];exact aI Y
 have P:=J (@lc X Y);have t:=J (@lc Y X);have b3:a.length<=1073741823:=by rw[z.out];exact T
 have a9:b.length<=1073741823:=by rw[y.out];exact K
 rw[<-z.out,<-y.out]at P t;by_cases S:a.length=b.length
 ·have c:=J S;have g1:((a.length:Int)==(b.length:Int))=true:=by rw[beq_iff_eq];omega
  have g2:((a.length:Int) !=(b.length:Int))=false:=by rw[bne_eq_false_iff_eq];omega
  clear S
  go_wp2
  go_loopw [5] (fun i wr=>∃k:Nat,k<=a.length/\i=.int .i64 ((k:Int)-1)/\(∀(j:Nat) (n:j<a.length) (s:j<b.length),k<=j->a[j]=b[j])/\Below w2.heap.size w2 wr) (fun i _=>(intOf i+1).toNat)
  case atStart=>exact⟨a.length,L5 _,Z,fun j n s h=>by omega,Below.refl _ _⟩
  case round=>
   obtain⟨k,hk,rfl,he,A⟩:=hrel;have l:=J he;have m:=J A;have HF:=J (ak x.out A a3);clear he A;cases k with
   |zero=>
    have a5:=J (show X=Y by rw[<-D.out,<-G.out,xc a b c.out (fun j n s=>l.out j n s (by omega))])
    go_wp2
    go_ret
    exact⟨_,Z,by rw[iz a5.out];rfl,HF.out⟩
   |succ k=>
    rw[show((k+1:Nat):Int)-1=(k:Int) by omega];obtain⟨b1,o1,rfl,o,O⟩:=(V.out.below m.out).digit (i:=k) (by omega);obtain⟨b2,o2,rfl,g,U⟩:=(M.out.below m.out).digit (i:=k) (by have:=c.out;omega);have c1:=O k (by omega);have c2:=U k (by have:=c.out;omega);have C:k<b.length:=by have:=c.out;omega
    have H:k<a.length:=by omega
    have N:Hid (a[k]'H<b[k]'C->aB a<aB b):=(fun h=>vG a b k V.out.ok c.out (by omega) (fun j n s h'=>l.out j n s (by omega)) h);have R:Hid (b[k]'C<a[k]'H->aB b<aB a):=(fun h=>vG b a k M.out.ok c.out.symm C (fun j n s h'=>(l.out j s n (by omega)).symm) h);rw[D.out,G.out]at N R;obtain⟨p,hp⟩:∃p,a[k]'(by omega)=p:=⟨_,rfl⟩;obtain⟨q,hq⟩:∃q,b[k]=q:=⟨_,rfl⟩;have HP:=J hp;have HQ:=J hq;rw[hp]at c1;rw[hq]at c2;clear O U hp hq;have k0:(0:Int)<=(k:Int):=by omega
    have k1:(k:Int)<(a.length:Int):=by omega
    have k2:(k:Int)<(b.length:Int):=by omega
    rcases OE p q with f|f|f
    ·have B:=J (N.out (by rw[HP.out,HQ.out];exact f));have t1:decide ((p:Int)<(q:Int))=true:=by simp;omega
     go_wp2
     go_quiet (fail)
     go_wp2
     go_ret
     exact⟨_,Z,by rw[iX B.out];rfl,bh HF.out⟩
    ·subst f
     go_wp2
     go_quiet (fail)
     go_wp2
     go_quiet (fail)
     go_wp2
     go_roundw
     case rel=>
      refine⟨k,by omega,by go_num,fun j n s h=>?_,by first|exact bh (bh m.out)|exact bh m.out⟩;by_cases e:j=k
      ·subst e;rw[HP.out,HQ.out]
      exact l.out j n s (by omega)
     case measure=>simp[intOf]
    have B:=J (R.out (by rw[HP.out,HQ.out];exact f));have t1:decide ((p:Int)<(q:Int))=false:=by simp;omega
    have t2:decide ((q:Int)<(p:Int))=true:=by simp;omega
    go_wp2
    go_quiet (fail)
    go_wp2
    go_quiet (fail)
    go_wp2
    go_ret
    exact⟨_,Z,by rw[iy B.out];rfl,by first|exact bh (bh HF.out)|exact bh HF.out⟩
 have g1:((a.length:Int)==(b.length:Int))=false:=by rw[beq_eq_false_iff_ne];omega
 have g2:((a.length:Int) !=(b.length:Int))=true:=by rw[bne_iff_ne];omega
 rcases MI a.length b.length with a2|b0
 ·have B:=J (P.out a2)
  go_wp2
  go_ret
  exact⟨_,Z,by rw[iX B.out];rfl,x.out⟩
 have a4:b.length<a.length:=by omega
 have B:=J (t.out a4)
 go_wp2
 go_ret
 exact⟨_,Z,by rw[iy B.out];rfl,x.out⟩
def I8(w:World)(G:Nat)(x y:Value)(wr:World):Prop:=∃a b:Nat,x=.int .u64 a/\y=.int .u64 b/\a<18446744073709551616/\b<18446744073709551616/\Nat.gcd a b=G/\Below w.heap.size w wr
theorem CL{u v:Value}{X Y:Nat}{w:World}(A:IsD w u X)(G:IsD w v Y)(B:X<18446744073709551616)(C:Y<18446744073709551616):Calls Tryz.prog 244 #[u,v] w (Gives (fun W r=>IsD W r (Nat.gcd X Y)) w):=by
 have F:=J (BI A B);have Q:=J G;obtain⟨A0,c0,rfl,_⟩:=A;obtain⟨B0,e0,rfl,_⟩:=G
 go_enter Tryz.func244,Tryz.ntmps244
 go_wp2_with fail
 refine F.out.mono ?_;rintro e S ⟨v1,rfl,n,d⟩;obtain rfl:=n;have h:=J d;have l:=d.size;clear d F;have j:=J (BI (Q.out.below h.out) C)
 go_wp2_with fail
 refine j.out.mono ?_;rintro e N ⟨U,rfl,o,c⟩;obtain rfl:=o;have s:=J (ak h.out c l);have L:w.heap.size<=N.heap.size:=L6 l c.size;clear c j
 go_wp2
 go_loopw [5,7] (fun x y wr=>I8 w (Nat.gcd X Y) x y wr) (fun _ y _=>(intOf y).toNat)
 case atStart=>exact⟨X,Y,Z,Z,B,C,Z,s.out⟩
 case round=>
  obtain⟨a,b,rfl,rfl,O,R,D,f⟩:=hrel;have H:=J D;have k:=J f;have p:=f.size;clear D f;by_cases I:0<b
  ·have P:((b:Int)==0)=false:=by rw[beq_eq_false_iff_ne];omega
   have E:((a:Int)%(b:Int))=((a%b:Nat):Int):=by omega
   have M:a%b<b:=Ni _ I
   go_wp2
   go_quiet (fail)
   go_wp2
   go_roundw
   case rel=>exact⟨b,a%b,Z,by first|rfl|(congr 1;simp[OA]),R,by omega,by rw[<-H.out,Oo b,<-P4,Oo],bh k.out⟩
   case measure=>first|(simp[intOf];omega)|(simp[intOf,OA];omega)
  obtain rfl:b=0:=by omega
  have m:Nat.gcd X Y=a:=by rw[<-H.out,Pa]
  have q:=J m;have K:=J (fun w=>ji a w O);clear m
  go_wp2_with fail
  refine(K.out _).mono ?_;rintro e T ⟨V,rfl,g,i⟩;have z:=J g;have t:=J (ak k.out i p);clear g i
  go_wp2
  go_ret
  exact⟨_,Z,by rw[q.out];exact z.out,t.out⟩
end Go.Proofs.YtfoejfohbkmmeaaGreatDoor
