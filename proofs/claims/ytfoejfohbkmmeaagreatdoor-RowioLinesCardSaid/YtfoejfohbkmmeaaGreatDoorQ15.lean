import Derived.Test.YtfoejfohbkmmeaaGreatDoorQ14
import Derived.Test.YtfoejfohbkmmeaaGreatDoorQ00
import Derived.Test.YtfoejfohbkmmeaaGreatDoorQ04
import Derived.Test.YtfoejfohbkmmeaaGreatDoorQ01
import Derived.Laws.CopyOwn
import Derived.Laws.Bits64
import Derived.Deep.QuietTactic
import Derived.BigQuiet
set_option maxRecDepth 100000
set_option maxHeartbeats 2000000
namespace Go.Proofs.YtfoejfohbkmmeaaGreatDoor
open Go.RowKit
open Lib renaming hid→J
theorem kt(n:Nat)(w:World)(y:n<18446744073709551616):Calls Tryz.prog 102 #[.int .u64 n] w (NatPost n w):=by
 have o:aB [n%4294967296,n/4294967296]=n:=by simp only[aB];omega
 have h:Digs [n%4294967296,n/4294967296]:=fun d h=>by
  simp only[Mi,Nr,or_false]at h;rcases h with rfl|rfl<;>omega
 obtain⟨W,m,a,b,i⟩:=lQ w 50 #[.int .u32 ((n:Int)%4294967296),.int .u32 ((n:Int)/4294967296)];have q:IsN W (some ⟨w.heap.size,0,none⟩) 2 [n%4294967296,n/4294967296]:=by
  refine⟨fun _=>⟨w.heap.size,0,Z,by omega,fun j u t=>?_⟩,fun e=>(by cases e),by simp,by omega,h⟩;rw[M0,b.cell j,<-t];simp[ce]
 have g:=J (dl (some ⟨w.heap.size,0,none⟩) 2 [n%4294967296,n/4294967296] W q (by simp));rw[o]at g;have s:=J m;have r:=J a;have p:=a.size;clear o h q m a b i
 go_enter Tryz.func102,Tryz.ntmps102
 go_wp2_with fail
 rw[s.out];refine g.out.mono ?_;rintro e x ⟨v,rfl,c,f⟩;have l:=J (c.base_le p);have k:=J (r.out.trans (f.mono p));clear c f
 go_wp2
 go_ret
 exact⟨v,Z,l.out,k.out⟩
theorem Kg{P:Program}{f:FuncId}{w:World}{n:Nat}{x:Int}(h:x=(n:Int))(a:Calls P f #[.int .u64 (n:Int)] w (NatPost n w)):Calls P f #[.int .u64 x] w (NatPost n w):=by subst h;exact a
theorem r8(n:Int)(w:World)(j: -9223372036854775808<=n)(k:n<=9223372036854775807):Calls Tryz.prog 162 #[.int .i64 n] w (NatPost n.natAbs w):=by
 have g:=J (fun w=>kt n.natAbs w (by omega));by_cases l:n<0
 ·go_enter Tryz.func162,Tryz.ntmps162
  go_wp2_with fail
  refine(Kg (n:=n.natAbs) (by omega) (g.out _)).mono ?_;rintro e i ⟨f,rfl,a,b⟩;have d:=J a;have c:=J b;clear a b
  go_wp2
  go_ret
  exact⟨f,Z,d.out,c.out⟩
 have h:0<=n:=by omega
 go_enter Tryz.func162,Tryz.ntmps162
 go_wp2_with fail
 refine(Kg (n:=n.natAbs) (by omega) (g.out _)).mono ?_;rintro e i ⟨f,rfl,a,b⟩;have d:=J a;have c:=J b;clear a b
 go_wp2
 go_ret
 exact⟨f,Z,d.out,c.out⟩
theorem Lx{wr:World}{A B:Option Addr}{c d m n:Nat}(h:IsN wr A c (ay m))(a:IsN wr B d (ay n))(e:(ay m).length<=1048576)(b:(ay n).length<=1048576):Calls Tryz.prog 174 #[.slice A (ay m).length c,.slice B (ay n).length d] wr (NatPost (Nat.gcd m n) wr):=by
 have:=GU A B c d (ay m) (ay n) wr h a (by omega) (by omega);rwa[aI,aI]at this
theorem Kh{wr:World}{A B:Option Addr}{c d m n:Nat}(h:IsN wr A c (ay m))(a:IsN wr B d (ay n))(f:(ay m).length<=1048576)(b:(ay n).length<=1048576)(e:0<n):Calls Tryz.prog 175 #[.slice A (ay m).length c,.slice B (ay n).length d] wr (BB m n wr):=by
 have:=zp A B c d (ay m) (ay n) wr h a (by omega) (by omega) (by rw[aI];exact e);rwa[aI,aI]at this
def IsD(W:World)(v:Value)(n:Nat):Prop:=∃A c,v=.slice A (ay n).length c/\IsN W A c (ay n)
theorem IsD.below{W W':World}{v:Value}{n:Nat}(h:IsD W v n)(a:Below W.heap.size W W'):IsD W' v n:=by
 obtain⟨A,c,e,b⟩:=h;exact⟨A,c,e,b.below a⟩
def ku(ng:Bool)(N D:Nat)(w:World)(e:Ending)(w':World):Prop:=∃vn vd,e=.returned (.agg #[.bool ng,vn,vd])/\OwnN w' w.heap.size vn (ay N)/\OwnN w' w.heap.size vd (ay D)/\Below w.heap.size w w'
theorem r9(k:Bool)(A B:Option Addr)(ca cb X Y:Nat)(w:World)(hA:IsN w A ca (ay X))(hB:IsN w B cb (ay Y))(n:(ay X).length<=1048576)(u:(ay Y).length<=1048576)(hY:0<Y):
  Calls Tryz.prog 110 #[.bool k,.slice A (ay X).length ca,.slice B (ay Y).length cb] w (ku (k&&decide (X≠0)) (X/Nat.gcd X Y) (Y/Nat.gcd X Y) w):=by
 have HA:=J hA;have HB:=J hB;clear hA hB;obtain⟨W,hW,r,F,d7⟩:=lQ w 65 #[.bool false,.slice none 0 0,.slice none 0 0];have HW:=J hW;have o:=J r;have a0:=J F;have S:=r.size;have c9:w.heap.size<W.heap.size:=by omega
 clear hW r F d7;have a1:0<Nat.gcd X Y:=Nat.gcd_pos_of_pos_right _ hY;have c5:Nat.gcd X Y<=Y:=Nat.gcd_le_right _ hY;have N:X/Nat.gcd X Y=0↔X=0:=by
  constructor
  ·intro h;have i:=O9 (Nat.gcd_dvd_left X Y);rw[h]at i;omega
  intro h;rw[h];simp
 have G:Y/Nat.gcd X Y≠0:=by
  intro h;have i:=O9 (Nat.gcd_dvd_right X Y);rw[h]at i;omega
 have e1:(ay (X/Nat.gcd X Y)).length<=1048576:=L6 (aS (NY _ _)) n;have a5:(ay (Nat.gcd X Y)).length<=1048576:=L6 (aS c5) u;generalize hg:Nat.gcd X Y=g at*;have C:=J N;have b1:=J G;have I:=J hg;clear N G hg
 go_enter Tryz.func110,Tryz.ntmps110
 go_wp2_with fail
 rw[HW.out];refine(Lx (HA.out.below o.out) (HB.out.below o.out) n u).mono ?_;intro e w1 i;rw[I.out]at i;obtain⟨A1,c1,rfl,O,d⟩:=i.open_;have H:=J O;have b0:=J (ak o.out d S);have P:w.heap.size<=w1.heap.size:=L6 S d.size;have R:w.heap.size<w1.heap.size:=Mp c9 d.size;have a9:=J (a0.out.below d a0.out.lt);clear i O d
 go_wp2_with fail
 refine(Kh (HA.out.below b0.out) H.out n a5 a1).mono ?_;rintro e w2 ⟨q2,r2,rfl,p,b3,c⟩;obtain⟨A2,c2,e2,U⟩:=p.is (bY _);subst e2;have e6:=J U;have V:=J (ak b0.out c P);have K:w.heap.size<=w2.heap.size:=L6 P c.size;have E:=J (a9.out.below c a9.out.lt);have Q:=J (H.out.below c);have d5:=J (p.base_le (Pf R));have T:w.heap.size<w2.heap.size:=Mp R c.size;clear p b3 U c
 go_wp2_with fail
 refine(Kh (HB.out.below V.out) Q.out u a5 a1).mono ?_;rintro e w3 ⟨q3,r3,rfl,z,b5,a⟩;obtain⟨A3,c3,e3,a3⟩:=z.is (bY _);subst e3;have e0:=J a3;have M:=J (ak V.out a K);have b2:w.heap.size<=w3.heap.size:=L6 K a.size;have j:=J (E.out.below a E.out.lt);have m:=J (d5.out.below a);have L:=J (z.base_le (Pf T));have d4:w.heap.size<w3.heap.size:=Mp T a.size;clear z b5 a3 a;have e5:(((ay (Y/g)).length:Int)==0)=false:=by rw[beq_eq_false_iff_ne];intro h;exact b1.out (bR.1 (by omega))
 by_cases b:X=0
 ·have f:=J b;have g1:(((ay (X/g)).length:Int)==0)=true:=by rw[beq_iff_eq];have:=bR.2 (C.out.2 b);omega
  clear b
  go_wp2_with fail
  refine(kt 1 _ (by omega)).mono ?_;rintro e w4 ⟨v4,rfl,t,y⟩;have a4:=J (t.base_le (Pf d4));have c6:=J (ak M.out y b2);have a2:=J (j.out.below y j.out.lt);obtain⟨D,x,d3,f1,f2,f3⟩:=a2.out.three;obtain⟨A4,c4,e4,_⟩:=t.is (bY 1);subst e4;clear t y
  go_wp2
  clear D x d3 f1 f2 f3;obtain⟨w6,h6,s,q,d6,l⟩:=cg a2.out (.bool false) (.slice none 0 0) (.slice A4 (ay 1).length c4);rw[h6];obtain⟨d0,D,x,_,_,_⟩:=s.three;have c7:OwnN w6 (w.heap.size+1) (.slice A4 (ay 1).length c4) (ay 1):=eZ a4.out (iA a4.out (Po _)) l;refine bodyPost_ret (v:=.agg #[.bool false,.slice none 0 0,.slice A4 (ay 1).length c4]) (by simp[results,Tryz.results110,go_sem,d0,D,x]) Z ⟨.slice none 0 0,.slice A4 (ay 1).length c4,by rw[f.out];simp,?_,?_,c6.out.trans q⟩
  ·rw[C.out.2 f.out];exact OwnN.nil _ _
  have e:Y/g=1:=by
   have i:=I.out;rw[f.out,PP]at i;rw[<-i];exact Nat.div_self hY
  rw[e];exact c7.base_le (Qy _)
 have f:=J b;have g1:(((ay (X/g)).length:Int)==0)=false:=by rw[beq_eq_false_iff_ne];intro h;exact b (C.out.1 (bR.1 (by omega)))
 clear b;obtain⟨D,x,d3,f1,f2,f3⟩:=j.out.three
 go_wp2
 clear D x d3 f1 f2 f3;obtain⟨w6,h6,s,q,d6,l⟩:=cg j.out (.bool k) (.slice A2 (ay (X/g)).length c2) (.slice A3 (ay (Y/g)).length c3);rw[h6];obtain⟨d0,D,x,_,_,_⟩:=s.three;have d9:OwnN w6 (w.heap.size+1) (.slice A2 (ay (X/g)).length c2) (ay (X/g)):=eZ m.out (iA m.out (Po _)) l;have c0:OwnN w6 (w.heap.size+1) (.slice A3 (ay (Y/g)).length c3) (ay (Y/g)):=eZ L.out (iA L.out (Po _)) l;refine bodyPost_ret (v:=.agg #[.bool k,.slice A2 (ay (X/g)).length c2,.slice A3 (ay (Y/g)).length c3]) (by simp[results,Tryz.results110,go_sem,d0,D,x]) Z ⟨_,_,?_,d9.base_le (Qy _),c0.base_le (Qy _),M.out.trans q⟩;have hx:=f.out;simp[hx]
theorem oA(a:Bool)(A B:Option Addr)(r q X Y:Nat)(w:World)(N:IsN w A r (ay X))(L:IsN w B q (ay Y))(t:(ay X).length<=1048576)(u:(ay Y).length<=1048576)(hY:0<Y):
  Calls Tryz.prog 48 #[.agg #[.bool a,.slice A (ay X).length r,.slice B (ay Y).length q]] w (ku (a&&decide (X≠0)) (X/Nat.gcd X Y) (Y/Nat.gcd X Y) w):=by
 have HA:=J N;have T:=J L;clear N L;obtain⟨W,P,g,x,b,G⟩:=pm w 65 65 #[.bool a,.slice A (ay X).length r,.slice B (ay Y).length q] #[.bool false,.slice none 0 0,.slice none 0 0];have V:=J P;have d:=J g;have o:=J b;have f:=g.size;have j:w.heap.size+1<W.heap.size:=by omega
 clear P g x b G;have y:=J (r9 a A B r q X Y W (HA.out.below d.out) (T.out.below d.out) t u hY)
 go_enter Tryz.func48,Tryz.ntmps48
 go_wp2_with fail
 rw[V.out];refine y.out.mono ?_;rintro e w1 ⟨vn,vd,rfl,c,i,h⟩;obtain⟨O,I,en,_⟩:=c.is (bY _);obtain⟨K,Q,ed,_⟩:=i.is (bY _);subst en ed;have p:=J c;have m:=J i;have H:=J (ak d.out h f);have k:=J (o.out.below h o.out.lt);obtain⟨D,s,d3,U,S,f3⟩:=k.out.three;clear c i h
 go_wp2
 clear D s d3 U S f3;obtain⟨w6,R,F,z,a0,n⟩:=cg k.out (.bool (a&&decide (X≠0))) (.slice O (ay (X/Nat.gcd X Y)).length I) (.slice K (ay (Y/Nat.gcd X Y)).length Q);first
  |rw[R]
  |(have M:=R;simp only[ne_eq,decide_not]at M;rw[M])
 obtain⟨d0,D,s,_,_,_⟩:=F.three;have C:=eZ p.out (iA p.out j) n;have E:=eZ m.out (iA m.out j) n;exact bodyPost_ret (v:=.agg #[.bool (a&&decide (X≠0)),.slice O (ay (X/Nat.gcd X Y)).length I,.slice K (ay (Y/Nat.gcd X Y)).length Q]) (by simp[results,Tryz.results48,go_sem,d0,D,s]) Z ⟨_,_,Z,OwnN.base_le (l:=ay (X/Nat.gcd X Y)) C f,OwnN.base_le (l:=ay (Y/Nat.gcd X Y)) E f,H.out.trans (z.mono (by omega))⟩
end Go.Proofs.YtfoejfohbkmmeaaGreatDoor
namespace Go.Proofs.YtfoejfohbkmmeaaGreatDoor
open Go.RowKit
structure Rd (α:Type) where
 size:Nat
 rd:World->List Value->α->Prop
 len:∀{w cs a},rd w cs a->cs.length=size
 keep:∀{w w' cs a},rd w cs a->Below w.heap.size w w'->rd w' cs a
 one:∀{w cs a},rd w cs a->∀u∈cs,u.oneCell'=true
inductive Reads {α:Type} (R:Rd α) (W:World):List Value->List α->Prop
 |nil:Reads R W [] []
 |cons {cs xs:List Value} {a:α} {l:List α} (h:R.rd W cs a) (hs:Reads R W xs l):Reads R W (cs++xs) (a::l)
variable {α:Type} {R:Rd α}
def Gives(K:World->Value->Prop)(w:World)(e:Ending)(w':World):Prop:=∃v,e=.returned v/\K w' v/\Below w.heap.size w w'
end Go.Proofs.YtfoejfohbkmmeaaGreatDoor
namespace Go.Proofs.YtfoejfohbkmmeaaGreatDoor
open Go.RowKit
open Lib renaming hid→J
theorem IsD.open_{W:World}{v:Value}{n:Nat}(h:IsD W v n):∃A c a,v=.slice A a.length c/\IsN W A c a/\Hid (a=ay n):=by
 obtain⟨A,c,e,b⟩:=h;exact⟨A,c,ay n,e,b,Z⟩
theorem IsN.isD{W:World}{A:Option Addr}{c n:Nat}{a:List Nat}(h:IsN W A c a)(b:a=ay n):IsD W (.slice A a.length c) n:=by subst b;exact⟨A,c,Z,h⟩
theorem OwnN.isD{W:World}{base:Nat}{v:Value}{n:Nat}(h:OwnN W base v (ay n)):IsD W v n:=h.is (bY n)
theorem IsN.cut{W:World}{A:Option Addr}{c k:Nat}{a:List Nat}(h:IsN W A c a)(j:k<=a.length)(d:a.take k=ay (aB a))(f:A=none->k=0):IsD W (.slice A k k) (aB a):=by
 have b:(ay (aB a)).length=k:=by rw[<-d,Mf];omega
 have g:=h.cap;have i:=h.max;refine⟨A,k,by rw[b],?_,fun e=>⟨by rw[b];exact f e,f e⟩,by omega,by omega,bY _⟩;have:=h.at_.takeN k;rwa[d]at this
theorem IsN.nz{W:World}{A:Option Addr}{c:Nat}{a:List Nat}(h:IsN W A c a)(d:0<a.length):∃b off,A=some ⟨b,off,none⟩:=by
 obtain⟨b,off,e,_⟩:=h.digit d;exact⟨b,off,e⟩
theorem sd(A:Option Addr)(c:Nat)(f:List Nat)(w:World)(h:IsN w A c f)(_hl:f.length<=1073741823):
  Calls Tryz.prog 193 #[.slice A f.length c] w (Gives (fun W v=>IsD W v (aB f)) w):=by
 have m:=J h;have C:=h.cap;have t:=h.max;clear h
 go_enter Tryz.func193,Tryz.ntmps193
 go_wp2
 go_loop [3] (fun i=>∃k:Nat,k<=f.length/\i=.int .i64 k/\(∀(j:Nat) (r:j<f.length),k<=j->f[j]=0)) (fun i=>(intOf i).toNat)
 case atStart=>exact⟨f.length,L5 _,Z,fun j r h=>by omega⟩
 case round=>
  obtain⟨k,n,rfl,u⟩:=hrel;have x:=J u;clear u;have g:(k=0\/∃h:k-1<f.length,f[k-1]≠0)->f.take k=ay (aB f):=fun p=>uc f k n m.out.ok x.out p
  have z:=J g;clear g;by_cases G:0<k
  ·obtain⟨b,off,rfl,F,B⟩:=m.out.digit (i:=k-1) (by omega);have q:=B (k-1) (by omega);obtain⟨d,s⟩:∃d,f[k-1]'(by omega)=d:=⟨_,rfl⟩;rw[s]at q;have y:=J s;clear B s;by_cases l:d=0
   ·subst l
    go_wp2
    go_round
    case rel=>
     refine⟨k-1,by omega,by go_num,fun j r h=>?_⟩;by_cases e:j=k-1
     ·subst e;exact y.out
     exact x.out j r (by omega)
    case measure=>simp[intOf];omega
   have o:=J (z.out (.inr ⟨by omega,by rw[y.out];exact l⟩));have D:((d:Int)==0)=false:=by simpa using l
   go_wp2
   go_ret
   exact⟨_,Z,m.out.cut n o.out (fun e=>by cases e),Below.refl _ _⟩
  obtain rfl:k=0:=by omega
  have o:=J (z.out (.inl Z));cases A with
  |none=>
   obtain⟨E,rfl⟩:=m.out.nil rfl
   go_wp2
   go_ret
   exact⟨_,Z,m.out.cut n o.out (fun _=>rfl),Below.refl _ _⟩
  |some a=>
   go_wp2
   go_ret
   exact⟨_,Z,m.out.cut n o.out (fun _=>rfl),Below.refl _ _⟩
theorem jT{v:Value}{n:Nat}{w:World}(h:IsD w v n)(b:(ay n).length<=1073741823):Calls Tryz.prog 193 #[v] w (Gives (fun W v=>IsD W v n) w):=by
 obtain⟨A,c,rfl,a⟩:=h;have:=sd A c (ay n) w a b;rwa[aI]at this
theorem ji(n:Nat)(w:World)(z:n<18446744073709551616):Calls Tryz.prog 149 #[.int .u64 n] w (Gives (fun W v=>IsD W v n) w):=by
 have o:aB [n%4294967296,n/4294967296]=n:=by simp only[aB];omega
 have h:Digs [n%4294967296,n/4294967296]:=fun d h=>by
  simp only[Mi,Nr,or_false]at h;rcases h with rfl|rfl<;>omega
 obtain⟨W,m,a,b,i⟩:=lQ w 50 #[.int .u32 ((n:Int)%4294967296),.int .u32 ((n:Int)/4294967296)];have p:IsN W (some ⟨w.heap.size,0,none⟩) 2 [n%4294967296,n/4294967296]:=by
  refine⟨fun _=>⟨w.heap.size,0,Z,by omega,fun j u s=>?_⟩,fun e=>(by cases e),by simp,by omega,h⟩;rw[M0,b.cell j,<-s];simp[ce]
 have g:=J (sd (some ⟨w.heap.size,0,none⟩) 2 [n%4294967296,n/4294967296] W p (by simp));rw[o]at g;have r:=J m;have q:=J a;have x:=a.size;clear o h p m a b i
 go_enter Tryz.func149,Tryz.ntmps149
 go_wp2_with fail
 rw[r.out];refine g.out.mono ?_;rintro e y ⟨t,rfl,c,f⟩;have l:=J c;have k:=J (q.out.trans (f.mono x));clear c f
 go_wp2
 go_ret
 exact⟨t,Z,l.out,k.out⟩
theorem CK{W:World}{g:Nat}{cur:List Value}{A:Option Addr}{c:Nat}{a:List Nat}(d:W.heap[g]? =some (.cells cur.toArray 50 (0,0)))(f:cur.length=a.length)(h:IsN W A c a):
  ∃w',(∀ty,(Builtin.copy_ #[63,63] ty #[.slice (some ⟨g,0,none⟩) a.length a.length,.slice A a.length c]).run Tryz.prog W=.ok (.int .i64 (a.length:Nat)) w')/\w'.heap[g]? =some (.cells (ce a).toArray 50 (0,0))/\Below g W w':=by
 have i:=Tryz.underlying63;have j:(Tryz.prog.info? 50).map (·.size)=some 1:=by kernel_rfl
 by_cases k:a.length=0
 ·obtain rfl:a=[]:=Mk k;obtain rfl:cur=[]:=Mk f;exact⟨W,fun ty=>by simpa[goInt]using run_copy_none (P:=Tryz.prog) W 63 63 ty _ (some ⟨g,0,none⟩) A 0 0 0 c i j Z,by simpa[ce]using d,Below.refl _ _⟩
 obtain⟨b,off,rfl⟩:=h.nz (by omega);have l:=fun ty=>run_copy_row (P:=Tryz.prog) W 63 63 ty _ g 0 a.length a.length ⟨b,off,none⟩ a.length c cur.toArray _ (ce a) i j d (by rw[cZ];simp) h.at_.news (by rw[cZ];simp;omega) (rP _)
 have e:((cur.toArray.toList.take 0++ce a)++cur.toArray.toList.drop (0+(ce a).length))=ce a:=by
  rw[Mg (by rw[cZ];simp;omega)];simp
 exact⟨W.setRow g (ce a).toArray,fun ty=>by rw[l ty,e,cZ];rfl,setRow_heap W g _ _ _ _ d,below_setRow (Below.refl _ _) (L5 _) _⟩
theorem uf{v:Value}{n:Nat}{w:World}(h:IsD w v n)(L:(ay n).length<=1073741823):Calls Tryz.prog 172 #[v] w (Gives (fun W v=>IsD W v n) w):=by
 have O:=J (jT h L);obtain⟨U,c0,rfl,_⟩:=h
 go_enter Tryz.func172,Tryz.ntmps172
 go_wp2_with fail
 refine O.out.mono ?_;rintro e z ⟨X,rfl,c,b⟩;obtain⟨V,c1,F,rfl,t,k⟩:=c.open_;have N:F.length<=1073741823:=by have:=k.out;rw[this];exact L
 have s:=J t;have I:=J b;have f:=b.size;clear c t b;obtain⟨W,r,m,o,y⟩:=eF z F.length (by omega);have r:=r .i64 .i64;have A:=J m;have l:=J o;have T:=J y;clear m o y;obtain⟨cur,a,B⟩:∃cur:List Value,W.heap[z.heap.size]? =some (.cells cur.toArray 50 (0,0))/\cur.length=F.length:=by
  rcases A.out.2 with⟨G,_⟩|⟨g,S,cur,G,_,R,_,_,D,_⟩
  ·cases G
  injection G with x Y P
  injection x with x
  injection x with x
  subst x P;refine⟨cur.toList,by simpa using R,?_⟩;simpa using D
 have E:=J a;clear a;have K:=J (s.out.below l.out);obtain⟨Q,i,q,d⟩:=CK E.out B K.out;have i:=i 3;have H:=J q;have C:=J ((ak I.out l.out f).trans (d.mono f));clear q d
 go_wp2
 go_ret
 refine⟨_,Z,?_,C.out⟩;refine IsN.isD (n:=n) ?_ k.out;have p:=H.out;refine⟨fun _=>⟨z.heap.size,0,Z,(ML.1 p).1,fun j u M=>?_⟩,fun e=>(by cases e),L5 _,by omega,s.out.ok⟩;rw[cell_of_row Q z.heap.size (0+j) _ _ _ p];simpa using M
theorem EK{a b:Int}(h:a=b):Value.int .i64 a=.int .i64 b:=by rw[h]
theorem zv{n:Nat}(b:n<18446744073709551616):(n=0/\ay n=[])\/(0<n/\n<4294967296/\ay n=[n])\/(4294967296<=n/\ay n=[n%4294967296,n/4294967296]):=by
 rcases M1 n with rfl|h
 ·exact .inl ⟨Z,Z⟩
 rcases MI n 4294967296 with a|a
 ·refine .inr (.inl ⟨h,a,?_⟩);rw[fb (by omega),Oa a,NZ a];rfl
 refine .inr (.inr ⟨a,?_⟩);rw[fb (by omega),fb (by omega),show n/4294967296/4294967296=0 by omega,show n/4294967296%4294967296=n/4294967296 by omega];rfl
theorem BH(a b:Nat)(e:a<4294967296)(d:b<4294967296):bits .or .u64 (((a*4294967296:Nat)):Int) (b:Int)=((a*4294967296+b:Nat):Int):=by
 rw[u64_or_nat (a*4294967296) b (by omega) (by omega)];have c:(2:Nat)^32=4294967296:=by decide
 have:=NF (i:=32) (b:=b) (by rw[c];exact d) a;rw[Oj,c]at this;rw[this]
theorem BI{v:Value}{n:Nat}{w:World}(h:IsD w v n)(D:n<18446744073709551616):Calls Tryz.prog 266 #[v] w (Gives (fun _ r=>r=.tuple #[.int .u64 n,.bool true]) w):=by
 have L:(ay n).length<=2:=aR (by have:(4294967296^2:Nat)=18446744073709551616:=(by decide);omega);have C:=J (jT h (by omega));obtain⟨F,s,rfl,_⟩:=h
 go_enter Tryz.func266,Tryz.ntmps266
 go_wp2_with fail
 refine C.out.mono ?_;rintro e I ⟨H,rfl,o,q⟩;obtain⟨G,B,K,rfl,t,p⟩:=o.open_;have f:=J t;have l:=J q;have a:=J p.out;clear o t q p C;rcases zv D with⟨y,g⟩|⟨y,A,g⟩|⟨y,g⟩
 ·rw[g]at a;obtain rfl:=a.out;subst y;clear g D
  go_wp2
  go_ret2
  exact⟨_,Z,Z,l.out⟩
 ·rw[g]at a;obtain rfl:=a.out;obtain⟨b,off,rfl,E,m⟩:=f.out.digit (i:=0) (by simp);have s:=m 0 (by simp);simp only[Ow,No]at s;clear m g
  go_wp2
  go_ret2
  exact⟨_,Z,Z,l.out⟩
 rw[g]at a;obtain rfl:=a.out;obtain⟨b,off,rfl,E,m⟩:=f.out.digit (i:=0) (by simp);have s:=m 0 (by simp);have B:=m 1 (by simp);simp only[Ow,No]at s;simp only[List.getElem_cons_succ,Ow]at B;have j:=BH (n/4294967296) (n%4294967296) (by omega) (by omega);rw[show n/4294967296*4294967296+n%4294967296=n by omega]at j;have k:=J j;have z:n%4294967296<4294967296:=by omega
 have x:n/4294967296<4294967296:=by omega
 obtain⟨lo,c⟩:∃lo,n%4294967296=lo:=⟨_,rfl⟩;obtain⟨u,d⟩:∃u,n/4294967296=u:=⟨_,rfl⟩;rw[c]at s k z f;rw[d]at B k x f;have M:=J (show n=u*4294967296+lo by omega);rw[c,d];clear j c d m g
 go_wp2
 go_quiet (fail)
 go_wp2
 go_ret2
 refine⟨_,Z,?_,bh l.out⟩;have A:=k.out;first
  |rfl
  |(rw[show(((u*4294967296:Nat)):Int)=(u:Int)*4294967296 by omega]at A;rw[<-A];rfl)
def c8(n:Nat):Nat:=if n=0 then 0 else 32*((ay n).length-1)+Lib.bitLen ((ay n).getD ((ay n).length-1) 0)
theorem zw{d:Nat}(h:0<d)(a:d<2^64):0<Lib.bitLen d:=by
 have:=(Lib.bitLenAux_bounds 64 d a (by omega)).1;exact this
theorem oB{v:Value}{n:Nat}{w:World}(h:IsD w v n)(C:(ay n).length<=1048576):Calls Tryz.prog 129 #[v] w (Gives (fun _ r=>r=.int .i64 (c8 n)) w):=by
 have y:=J (jT h (by omega));obtain⟨F,z,rfl,_⟩:=h
 go_enter Tryz.func129,Tryz.ntmps129
 go_wp2_with fail
 refine y.out.mono ?_;rintro e I ⟨K,rfl,j,l⟩;obtain⟨H,M,a,rfl,o,f⟩:=j.open_;have m:=J o;have p:=J l;have u:a.length<=1048576:=by have:=f.out;rw[this];exact C
 have A:Hid (c8 n=if a.length=0 then 0 else 32*(a.length-1)+Lib.bitLen (a.getD (a.length-1) 0)):=by
  show _=_
  unfold c8;rw[f.out];by_cases g:n=0
  ·rw[if_pos g,if_pos (bR.2 g)]
  rw[if_neg g,if_neg (fun e=>g (bR.1 e))]
 clear j o l f y C;by_cases g:a.length=0
 ·have D:((a.length:Int)==0)=true:=by rw[beq_iff_eq];omega
  go_wp2
  go_ret
  exact⟨_,Z,by rw[A.out,if_pos g];rfl,p.out⟩
 have D:((a.length:Int)==0)=false:=by rw[beq_eq_false_iff_ne];omega
 obtain⟨b,off,rfl,G,B⟩:=m.out.digit (i:=0) (by omega);have z:=B (a.length-1) (by omega);have c:a[a.length-1]'(by omega)<4294967296:=m.out.ok _ (MY _);obtain⟨d,t⟩:∃d,a[a.length-1]'(by omega)=d:=⟨_,rfl⟩;rw[t]at z c;have k:Hid (c8 n=32*(a.length-1)+Lib.bitLen d):=by
  show _=_
  rw[A.out,if_neg g,<-t,List.getD,L4 (by omega)];rfl
 obtain⟨x,q⟩:∃x,Lib.bitLen d=x:=⟨_,rfl⟩;have E:x<=32:=by rw[<-q];exact Lib.bitLen_le d 32 (by decide) (by rw[show(2:Nat)^32=4294967296 by decide];exact c)
 have s:=J (fun w=>Tryz.bits_Len32 (d:Int) w (by omega) (by omega));simp only[Oq]at s;rw[q]at s k;clear B t q
 go_wp2_with fail
 refine(s.out _).mono ?_;rintro e L ⟨rfl,rfl⟩
 go_wp2
 go_ret
 exact⟨_,Z,EK (by rw[k.out];omega),p.out⟩
theorem BJ{u v:Value}{X Y:Nat}{w:World}(hu:IsD w u X)(hv:IsD w v Y)(E:(ay X).length<=1073741823)(H:(ay Y).length<=1073741823):Calls Tryz.prog 151 #[u,v] w (Gives (fun _ r=>r=.int .i64 (eu X Y)) w):=by
 have HC:=J (jT hu E);have HV:=J hv;obtain⟨A0,c0,rfl,_⟩:=hu;obtain⟨B0,e0,rfl,_⟩:=hv
 go_enter Tryz.func151,Tryz.ntmps151
 go_wp2_with fail
 refine HC.out.mono ?_;rintro e w1 ⟨v1,rfl,N,n⟩;obtain⟨A1,c1,a,rfl,K,f⟩:=N.open_;have L:=J K;have a0:=J n;have y:=J f.out;have O:=n.size;clear N K n f HC;have G:=J (jT (HV.out.below a0.out) H)
 go_wp2_with fail
 refine G.out.mono ?_;rintro e w2 ⟨v2,rfl,U,g⟩;obtain⟨A2,c2,b,rfl,S,f⟩:=U.open_;have a1:=J S;have F:=J (L.out.below g);have B:=J (ak a0.out g O);have C:=J f.out;have a3:w.heap.size<=w2.heap.size:=L6 O g.size;clear U S g f G L;have P:Hid (aB a=X):=by rw[y.out];exact aI X
 have I:Hid (aB b=Y):=by rw[C.out];exact aI Y
 have R:=J (@lc X Y);have t:=J (@lc Y X);have b3:a.length<=1073741823:=by rw[y.out];exact E
 have a9:b.length<=1073741823:=by rw[C.out];exact H
 rw[<-y.out,<-C.out]at R t;by_cases Q:a.length=b.length
 ·have c:=J Q;have g1:((a.length:Int)==(b.length:Int))=true:=by rw[beq_iff_eq];omega
  have g2:((a.length:Int) !=(b.length:Int))=false:=by rw[bne_eq_false_iff_eq];omega
  clear Q
  go_wp2
  go_loopw [5] (fun i wr=>∃k:Nat,k<=a.length/\i=.int .i64 ((k:Int)-1)/\(∀(j:Nat) (s:j<a.length) (o:j<b.length),k<=j->a[j]=b[j])/\Below w2.heap.size w2 wr) (fun i _=>(intOf i+1).toNat)
  case atStart=>exact⟨a.length,L5 _,Z,fun j s o h=>by omega,Below.refl _ _⟩
  case round=>
   obtain⟨k,hk,rfl,he,A⟩:=hrel;have m:=J he;have l:=J A;have HF:=J (ak B.out A a3);clear he A;cases k with
   |zero=>
    have a2:=J (show X=Y by rw[<-P.out,<-I.out,xc a b c.out (fun j s o=>m.out j s o (by omega))])
    go_wp2
    go_ret
    exact⟨_,Z,by rw[iz a2.out];rfl,HF.out⟩
   |succ k=>
    rw[show((k+1:Nat):Int)-1=(k:Int) by omega];obtain⟨b1,o1,rfl,n,M⟩:=(F.out.below l.out).digit (i:=k) (by omega);obtain⟨b2,o2,rfl,g,W⟩:=(a1.out.below l.out).digit (i:=k) (by have:=c.out;omega);have c1:=M k (by omega);have c2:=W k (by have:=c.out;omega);have x:k<b.length:=by have:=c.out;omega
    have D:k<a.length:=by omega
    have T:Hid (a[k]'D<b[k]'x->aB a<aB b):=(fun h=>vG a b k F.out.ok c.out (by omega) (fun j s o h'=>m.out j s o (by omega)) h);have V:Hid (b[k]'x<a[k]'D->aB b<aB a):=(fun h=>vG b a k a1.out.ok c.out.symm x (fun j s o h'=>(m.out j o s (by omega)).symm) h);rw[P.out,I.out]at T V;obtain⟨p,hp⟩:∃p,a[k]'(by omega)=p:=⟨_,rfl⟩;obtain⟨q,hq⟩:∃q,b[k]=q:=⟨_,rfl⟩;have HP:=J hp;have HQ:=J hq;rw[hp]at c1;rw[hq]at c2;clear M W hp hq;have k0:(0:Int)<=(k:Int):=by omega
    have k1:(k:Int)<(a.length:Int):=by omega
    have k2:(k:Int)<(b.length:Int):=by omega
    rcases OE p q with d|d|d
    ·have z:=J (T.out (by rw[HP.out,HQ.out];exact d));have t1:decide ((p:Int)<(q:Int))=true:=by simp;omega
     go_wp2
     go_quiet (fail)
     go_wp2
     go_ret
     exact⟨_,Z,by rw[iX z.out];rfl,bh HF.out⟩
    ·subst d
     go_wp2
     go_quiet (fail)
     go_wp2
     go_quiet (fail)
     go_wp2
     go_roundw
     case rel=>
      refine⟨k,by omega,by go_num,fun j s o h=>?_,by first|exact bh (bh l.out)|exact bh l.out⟩;by_cases e:j=k
      ·subst e;rw[HP.out,HQ.out]
      exact m.out j s o (by omega)
     case measure=>simp[intOf]
    have z:=J (V.out (by rw[HP.out,HQ.out];exact d));have t1:decide ((p:Int)<(q:Int))=false:=by simp;omega
    have t2:decide ((q:Int)<(p:Int))=true:=by simp;omega
    go_wp2
    go_quiet (fail)
    go_wp2
    go_quiet (fail)
    go_wp2
    go_ret
    exact⟨_,Z,by rw[iy z.out];rfl,by first|exact bh (bh HF.out)|exact bh HF.out⟩
 have g1:((a.length:Int)==(b.length:Int))=false:=by rw[beq_eq_false_iff_ne];omega
 have g2:((a.length:Int) !=(b.length:Int))=true:=by rw[bne_iff_ne];omega
 rcases MI a.length b.length with a4|b0
 ·have z:=J (R.out a4)
  go_wp2
  go_ret
  exact⟨_,Z,by rw[iX z.out];rfl,B.out⟩
 have a5:b.length<a.length:=by omega
 have z:=J (t.out a5)
 go_wp2
 go_ret
 exact⟨_,Z,by rw[iy z.out];rfl,B.out⟩
def I8(w:World)(G:Nat)(x y:Value)(wr:World):Prop:=∃a b:Nat,x=.int .u64 a/\y=.int .u64 b/\a<18446744073709551616/\b<18446744073709551616/\Nat.gcd a b=G/\Below w.heap.size w wr
theorem CL{u v:Value}{X Y:Nat}{w:World}(B:IsD w u X)(D:IsD w v Y)(A:X<18446744073709551616)(F:Y<18446744073709551616):Calls Tryz.prog 244 #[u,v] w (Gives (fun W r=>IsD W r (Nat.gcd X Y)) w):=by
 have C:=J (BI B A);have Q:=J D;obtain⟨S,c0,rfl,_⟩:=B;obtain⟨B0,T,rfl,_⟩:=D
 go_enter Tryz.func244,Tryz.ntmps244
 go_wp2_with fail
 refine C.out.mono ?_;rintro e V ⟨U,rfl,q,d⟩;obtain rfl:=q;have m:=J d;have g:=d.size;clear d C;have h:=J (BI (Q.out.below m.out) F)
 go_wp2_with fail
 refine h.out.mono ?_;rintro e M ⟨v2,rfl,p,f⟩;obtain rfl:=p;have t:=J (ak m.out f g);have R:w.heap.size<=M.heap.size:=L6 g f.size;clear f h
 go_wp2
 go_loopw [5,7] (fun x y wr=>I8 w (Nat.gcd X Y) x y wr) (fun _ y _=>(intOf y).toNat)
 case atStart=>exact⟨X,Y,Z,Z,A,F,Z,t.out⟩
 case round=>
  obtain⟨a,b,rfl,rfl,O,I,E,c⟩:=hrel;have H:=J E;have i:=J c;have o:=c.size;clear E c;by_cases L:0<b
  ·have N:((b:Int)==0)=false:=by rw[beq_eq_false_iff_ne];omega
   have G:((a:Int)%(b:Int))=((a%b:Nat):Int):=by omega
   have P:a%b<b:=Ni _ L
   go_wp2
   go_quiet (fail)
   go_wp2
   go_roundw
   case rel=>exact⟨b,a%b,Z,by first|rfl|(congr 1;simp[OA]),I,by omega,by rw[<-H.out,Oo b,<-P4,Oo],bh i.out⟩
   case measure=>first|(simp[intOf];omega)|(simp[intOf,OA];omega)
  obtain rfl:b=0:=by omega
  have l:Nat.gcd X Y=a:=by rw[<-H.out,Pa]
  have s:=J l;have K:=J (fun w=>ji a w O);clear l
  go_wp2_with fail
  refine(K.out _).mono ?_;rintro e w4 ⟨v4,rfl,j,k⟩;have z:=J j;have n:=J (ak i.out k o);clear j k
  go_wp2
  go_ret
  exact⟨_,Z,by rw[s.out];exact z.out,n.out⟩
end Go.Proofs.YtfoejfohbkmmeaaGreatDoor
