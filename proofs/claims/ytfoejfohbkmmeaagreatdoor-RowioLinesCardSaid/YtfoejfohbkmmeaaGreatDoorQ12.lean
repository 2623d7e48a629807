import Derived.Test.YtfoejfohbkmmeaaGreatDoorQ11
import Derived.Test.YtfoejfohbkmmeaaGreatDoorQ04
import Derived.Laws.OwnMore
import Derived.Test.YtfoejfohbkmmeaaGreatDoorQ00
import Derived.Lib.SmallJoins
import Derived.Deep.QuietTactic
import Derived.BigQuiet
set_option maxRecDepth 100000
set_option maxHeartbeats 2000000
namespace Go.Proofs.YtfoejfohbkmmeaaGreatDoor
open Go.RowKit
open Lib renaming hid→J
def aB:List Nat->Nat
 |[]=>0
 |d::l=>d+4294967296*aB l
def Digs(l:List Nat):Prop:=∀d∈l,d<4294967296
def qc:Nat->Nat->List Nat
 |0,_=>[]
 |k+1,n=>if n=0 then []else(n%4294967296)::qc k (n/4294967296)
def ay(n:Nat):List Nat:=qc n n
theorem oq:∀(k m n:Nat),n<=k->n<=m->qc k n=qc m n
 |0,m,n,hk,_=>by
  obtain rfl:n=0:=by omega
  cases m<;>simp[qc]
 |k+1,0,n,_,hm=>by
  obtain rfl:n=0:=by omega
  simp[qc]
 |k+1,m+1,n,hk,hm=>by
  simp only[qc];split
  ·rfl
  rw[oq k m (n/4294967296) (by omega) (by omega)]
theorem gB:ay 0=[]:=rfl
theorem fb{n:Nat}(h:n≠0):ay n=(n%4294967296)::ay (n/4294967296):=by
 unfold ay;obtain⟨k,rfl⟩:∃k,n=k+1:=⟨n-1,by omega⟩;rw[qc,if_neg h,oq k ((k+1)/4294967296) _ (by omega) (L5 _)]
theorem aI(n:Nat):aB (ay n)=n:=by
 induction n using Nat.strongRecOn with
 |ind n ih=>
  by_cases h:n=0
  ·subst h;rfl
  rw[fb h,aB,ih (n/4294967296) (by omega)];omega
theorem bY(n:Nat):Digs (ay n):=by
 induction n using Nat.strongRecOn with
 |ind n ih=>
  by_cases h:n=0
  ·subst h;intro d a;simp[gB]at a
  rw[fb h];intro d a;rcases Mi.1 a with rfl|a
  ·omega
  exact ih (n/4294967296) (by omega) d a
theorem xb{n:Nat}:ay n=[]↔n=0:=by
 constructor
 ·intro h;have:=aI n;rw[h]at this;exact this.symm
 rintro rfl;rfl
theorem bR{n:Nat}:(ay n).length=0↔n=0:=by rw[List.length_eq_zero_iff,xb]
theorem By:∀(l:List Nat),Digs l->(∀h:l≠ [],l.getLast h≠0)->l=ay (aB l)
 |[],_,_=>rfl
 |d::l,hd,hl=>by
  have a:d<4294967296:=hd d (Mr ..);cases l with
  |nil=>
   have g:d≠0:=hl (by simp);simp only[aB,Oy,No];rw[fb g,NZ a,Oa a,gB]
  |cons c l=>
   have b:=By (c::l) (fun x f=>hd x (MB _ f)) (fun h=>by have:=hl (by simp);rwa[List.getLast_cons h]at this);have i:aB (c::l)≠0:=fun e=>by rw[e,gB]at b;cases b
   generalize c::l=m at*;simp only[aB];rw[fb (by omega),show(d+4294967296*aB m)%4294967296=d by omega,show(d+4294967296*aB m)/4294967296=aB m by omega,<-b]
theorem eg:∀(a b:List Nat),aB (a++b)=aB a+4294967296^a.length*aB b
 |[],b=>by simp[aB]
 |d::a,b=>by
  have:=eg a b;simp only[Ng,aB,this,Mb,MM,MF];rw[Mt (4294967296^a.length) 4294967296,Mu];omega
theorem nu:∀(l:List Nat),(∀d∈l,d=0)->aB l=0
 |[],_=>rfl
 |d::l,h=>by
  have c:=h d (Mr ..);have b:=nu l (fun x a=>h x (MB _ a));simp[aB,c,b]
theorem uc(a:List Nat)(k:Nat)(p:k<=a.length)(g:Digs a)(i:∀(j:Nat) (m:j<a.length),k<=j->a[j]=0)(l:k=0\/∃h:k-1<a.length,a[k-1]≠0):a.take k=ay (aB a):=by
 have e:aB a=aB (a.take k):=by
  rw[<-M8 k a,eg,nu (a.drop k),M8]
  ·simp
  intro d b;obtain⟨j,m,rfl⟩:=Nb b;rw[OS];exact i _ _ (by omega)
 rw[e];refine By _ (fun d b=>g d (MC b)) fun h=>?_
 rcases l with rfl|⟨n,f⟩
 ·simp at h
 have o:k≠0:=fun e=>by subst e;simp at h
 rw[List.getLast_eq_getElem];have c:(a.take k).length=k:=by rw[Mf];omega
 simp only[List.getElem_take,c];exact f
theorem b4:∀(l:List Nat),Digs l->aB l<4294967296^l.length
 |[],_=>by simp[aB]
 |d::l,h=>by
  have c:=h d (Mr ..);have b:=b4 l (fun x a=>h x (MB _ a));simp only[aB,Mb,MM];omega
theorem aR{n k:Nat}(h:n<4294967296^k):(ay n).length<=k:=by
 induction k generalizing n with
 |zero=>
  obtain rfl:n=0:=by simpa using h
  simp[gB]
 |succ k ih=>
  by_cases a:n=0
  ·subst a;simp[gB]
  rw[fb a];rw[MM]at h;have:=ih (n:=n/4294967296) (by rw[Nz (by decide)];exact h);simp;omega
theorem aS{m n:Nat}(h:m<=n):(ay m).length<=(ay n).length:=by
 refine aR ?_;have:=b4 (ay n) (bY n);rw[aI]at this;omega
def ce(l:List Nat):List Value:=l.map fun(d:Nat)=>.int .u32 (d:Int)
theorem cZ(l:List Nat):(ce l).length=l.length:=by simp[ce]
theorem nd(a b:List Nat):ce (a++b)=ce a++ce b:=by simp[ce]
theorem rP(l:List Nat):∀u∈ce l,u.oneCell'=true:=by
 intro u a;simp only[ce,Ny]at a;obtain⟨c,_,rfl⟩:=a;rfl
theorem rQ:(Tryz.prog.info? 50).map (fun i=>(i.zero,i.size,i.bytes))=some (some (.int .u32 0),1,4):=by kernel_rfl
def OwnN(w:World)(base:Nat)(v:Value)(l:List Nat):Prop:=w.ownsRow base 50 1 v l.length (ce l)
theorem OwnN.nil(w:World)(base:Nat):OwnN w base (.slice none 0 0) []:=World.ownsRow_nil _ _ _ _
theorem OwnN.below{w w':World}{base:Nat}{v:Value}{l:List Nat}(h:OwnN w base v l)(a:Below w.heap.size w w'):OwnN w' base v l:=dz h a
theorem rR(w:World)(base:Nat)(a:base<=w.heap.size):OwnN (w.alloc (.cells #[] 50)) base (.slice (some ⟨w.heap.size,0,none⟩) 0 0) []:=by
 have:=World.ownsRow_lit (base:=base) (e:=50) (size:=1) w #[] 0 a (by simp[maxLen]) (by simp);exact this
structure IsN (W:World) (A:Option Addr) (c:Nat) (l:List Nat):Prop where
 at_:At W W.heap.size A (ce l)
 nil:A=none->l.length=0/\c=0
 cap:l.length<=c
 max:c<=9223372036854775807
 ok:Digs l
theorem IsN.below{W W':World}{A:Option Addr}{c:Nat}{l:List Nat}(h:IsN W A c l)(a:Below W.heap.size W W'):IsN W' A c l:=⟨(h.at_.below a).more a.size,h.nil,h.cap,h.max,h.ok⟩
theorem OwnN.is{w:World}{base:Nat}{v:Value}{l:List Nat}(h:OwnN w base v l)(d:Digs l):∃A c,v=.slice A l.length c/\IsN w A c l:=by
 rcases h.2 with⟨rfl,a⟩|⟨g,b,cur,rfl,i,m,a,f,k,j⟩
 ·exact⟨none,0,by rw[a],by
   have:l=[]:=Mk a;subst this;exact At.nil _ _ _,fun _=>⟨a,Z⟩,by omega,by omega,d⟩
 exact⟨_,b,Z,mu h,fun e=>(by cases e),a,by unfold maxLen at f;omega,d⟩
theorem IsN.digit{W:World}{A:Option Addr}{c i:Nat}{l:List Nat}(h:IsN W A c l)(g:i<l.length):
  ∃b off,A=some ⟨b,off,none⟩/\b<W.heap.size/\∀(j:Nat) (a:j<l.length),W.cell? ⟨b,off+j,none⟩=some (.int .u32 ((l[j]:Nat):Int)):=by
 obtain⟨b,off,e,d,f⟩:=h.at_ (by rw[cZ];omega);exact⟨b,off,e,d,fun j a=>f j _ (by simp[ce,L4 a])⟩
theorem At.takeN{w:World}{B:Nat}{A:Option Addr}{l:List Nat}(h:At w B A (ce l))(m:Nat):At w B A (ce (l.take m)):=fun f=>by
 rw[cZ,Mf]at f;obtain⟨b,off,e,c,d⟩:=h (by rw[cZ];omega);refine⟨b,off,e,c,fun j u a=>d j u ?_⟩;simp only[ce,OB]at a⊢;rw[MZ]at a;split at a
 ·exact a
 cases a
theorem rS{ops:Array Oper}{b:List Oper}{o:Oper}{a:Act}{Q:Exit->Act->World->Prop}{w:World}(base:Nat)(v:Value)(l m:List Nat)(A:Option Addr)(c:Nat)
  (s x:Operand) (q:o.op=.call {callee:=.builtin .append,args:=#[s,x],argTypes:=#[63,63]}) (r:Region.wanted o (yielded ops a.tmps)=true)
  (u:a.eval s=v) (p:a.eval x=.slice A m.length c) (f:OwnN w base v l) (g:At w w.heap.size A (ce m)) (e:A=none->m.length=0/\c=0) (B:l.length+m.length<=1073741824) (d:base<=w.heap.size)
  (h:∀v' w',OwnN w' base v' (l++m)->Grew w w' base v v'->wpList Tryz.prog ops Q b (a.put o.dst v') w'):wpList Tryz.prog ops Q (o::b) a w:=by
 obtain⟨y,k,i,n,j⟩:=info_parts rQ;refine vg s x _ 50 y (.int .u32 0) 1 4 q r Tryz.underlying63 k i n j Z (by decide) base v l.length (ce l) u f A m.length c (ce m) p g (by rw[cZ];omega) e (rP _) (by simp only[maxLen];omega) (by omega) d ?_;intro v' w' t z;refine h v' w' ?_ z;unfold OwnN;rw[nd,Mc];exact t
theorem fS{ops:Array Oper}{b:List Oper}{o:Oper}{a:Act}{Q:Exit->Act->World->Prop}{w:World}(base:Nat)(v:Value)(l:List Nat)(c:Int)(d:Nat)
  (s x:Operand) (m:o.guard=none) (u:o.op=.call {callee:=.builtin .append,args:=#[s,x],argTypes:=#[63,63]})
  (y:a.eval s=v) (r:a.eval x=.slice (some ⟨w.heap.size,0,none⟩) 1 1) (e:OwnN w base v l) (t:c=d) (A:l.length<=1073741823) (f:base<=w.heap.size)
  (h:∀v' w',OwnN w' base v' (l++[d])->Grew w w' base v v'->wpList Tryz.prog ops Q b (a.put o.dst v') w'):
  wpList Tryz.prog ops Q (o::b) a (w.alloc (.cells #[.int .u32 c] 50)):=by
 obtain⟨z,n,j,q,k⟩:=info_parts rQ;refine wpList_append_own_at _ m s x _ u base 50 z (.int .u32 0) 1 4 Tryz.underlying63 n j q k Z (by decide) v l.length (ce l) y (World.ownsRow.alloc e _)
  ⟨w.heap.size,0,none⟩ 1 1 [.int .u32 c] r Z (cell_one_new _ _ _) (by simp[Value.oneCell']) (by simp only[maxLen];omega) (by omega) (by simp;omega) ?_
 intro v' w' g p _ i;refine h v' w' ?_ (nV e ⟨_,.inl Z⟩ p i f);subst t;unfold OwnN;rw[nd];simpa[ce]using g
def NatPost(n:Nat)(w:World)(e:Ending)(w':World):Prop:=∃v,e=.returned v/\OwnN w' w.heap.size v (ay n)/\Below w.heap.size w w'
theorem NatPost.open_{n:Nat}{w:World}{e:Ending}{w':World}(h:NatPost n w e w'):∃A c,e=.returned (.slice A (ay n).length c)/\IsN w' A c (ay n)/\Below w.heap.size w w':=by
 obtain⟨v,f,d,a⟩:=h;obtain⟨A,c,rfl,b⟩:=d.is (bY n);exact⟨A,c,f,b,a⟩
theorem dl(A:Option Addr)(c:Nat)(l:List Nat)(w:World)(h:IsN w A c l)(hl:l.length<=1073741823):
  Calls Tryz.prog 168 #[.slice A l.length c] w (NatPost (aB l) w):=by
 have C:=J h;have S:=h.cap;have M:=h.max;clear h
 go_enter Tryz.func168,Tryz.ntmps168
 go_wp2
 go_loop [3] (fun i=>∃k:Nat,k<=l.length/\i=.int .i64 k/\(∀(j:Nat) (I:j<l.length),k<=j->l[j]=0)) (fun i=>(intOf i).toNat)
 case atStart=>exact⟨l.length,L5 _,Z,fun j I h=>by omega⟩
 case round=>
  obtain⟨k,V,rfl,N⟩:=hrel;have O:=J N;clear N;have t:(k=0\/∃h:k-1<l.length,l[k-1]≠0)->l.take k=ay (aB l):=fun F=>uc l k V C.out.ok O.out F
  have Q:=J t;clear t;by_cases Y:0<k
  ·obtain⟨b,off,rfl,X,R⟩:=C.out.digit (i:=k-1) (by omega);have G:=R (k-1) (by omega);have H:=J (show∃h:k-1<l.length,l[k-1]=l[k-1]from⟨by omega,Z⟩);obtain⟨d,K⟩:∃d,l[k-1]'(by omega)=d:=⟨_,rfl⟩;rw[K]at G;have P:=J K;clear R K H;by_cases v:d=0
   ·subst v
    go_wp2
    go_round
    case rel=>
     refine⟨k-1,by omega,by go_num,fun j I h=>?_⟩;by_cases e:j=k-1
     ·subst e;exact P.out
     exact O.out j I (by omega)
    case measure=>simp[intOf];omega
   have B:=J (Q.out (.inr ⟨by omega,by rw[P.out];exact v⟩));have T:((d:Int)==0)=false:=by simpa using v
   have n:(ay (aB l)).length=k:=by rw[<-B.out,Mf];omega
   have q:=J (C.out.at_.takeN k);rw[B.out]at q;have m:=J n;clear n;obtain⟨W,x,p,_,y⟩:=lQ w 50 #[];have z:=J (rR w w.heap.size (L5 _));rw[x]at z;have E:=J x;have u:=J p;have o:=p.size;clear x p y
   go_wp2_with (at_builtin;rw[E.out];refine rS w.heap.size _ [] (ay (aB l)) (some ⟨b,off,none⟩) c (.tmp 18) (.tmp 21) rfl rfl rfl (by rw[m.out];rfl) z.out ((q.out.below u.out).more o) (fun h=>by cases h) (by have:=m.out;simp only[Mo];omega) o ?_;intro D L f g;have r:=J f;have s:=J g;clear f g)
   go_ret
   exact⟨D,Z,by simpa using r.out,u.out.trans s.out.below⟩
  obtain rfl:k=0:=by omega
  have B:=J (Q.out (.inl Z));have n:(ay (aB l)).length=0:=by rw[<-B.out,Mf];omega
  have q:=J (C.out.at_.takeN 0);rw[B.out]at q;have m:=J n;clear n;obtain⟨W,x,p,_,y⟩:=lQ w 50 #[];have z:=J (rR w w.heap.size (L5 _));rw[x]at z;have E:=J x;have u:=J p;have o:=p.size;clear x p y;cases A with
  |none=>
   obtain⟨U,rfl⟩:=C.out.nil rfl
   go_wp2_with (at_builtin;rw[E.out];refine rS w.heap.size _ [] (ay (aB l)) none 0 (.tmp 18) (.tmp 21) rfl rfl rfl (by rw[m.out];rfl) z.out ((q.out.below u.out).more o) (fun _=>⟨m.out,rfl⟩) (by have:=m.out;simp only[Mo];omega) o ?_;intro D L f g;have r:=J f;have s:=J g;clear f g)
   go_ret
   exact⟨D,Z,by simpa using r.out,u.out.trans s.out.below⟩
  |some a=>
   go_wp2_with (at_builtin;rw[E.out];refine rS w.heap.size _ [] (ay (aB l)) (some a) c (.tmp 18) (.tmp 21) rfl rfl rfl (by rw[m.out];rfl) z.out ((q.out.below u.out).more o) (fun h=>by cases h) (by have:=m.out;simp only[Mo];omega) o ?_;intro D L f g;have r:=J f;have s:=J g;clear f g)
   go_ret
   exact⟨D,Z,by simpa using r.out,u.out.trans s.out.below⟩
def eu(a b:Int):Int:=if a<b then-1 else if b<a then 1 else 0
theorem gj{a b:Int}(h:a<b):eu a b= -1:=by simp[eu,h]
theorem mG{a b:Int}(h:b<a):eu a b=1:=by simp[eu,h,show¬a<b by omega]
theorem jR{a b:Int}(c:¬a<b)(d:¬b<a):eu a b=0:=by simp[eu,c,d]
def yM(a b c:Int):Int:=if a≠0 then a else if b≠0 then b else c
theorem IZ(g:Nat)(i:Nat)(a b c:Int)(w:World)(p:w.cell? ⟨g,0,none⟩=some (.int .i64 a))(q:w.cell? ⟨g,1,none⟩=some (.int .i64 b))(r:w.cell? ⟨g,2,none⟩=some (.int .i64 c)):
  Calls Tryz.prog 185 #[.slice (some ⟨g,0,none⟩) 3 i] w fun e w'=>e=.returned (.int .i64 (yM a b c))/\w=w':=by
 by_cases f:a=0
 ·subst f;by_cases d:b=0
  ·subst d;by_cases h:c=0
   ·subst h
    go_enter Tryz.func185,Tryz.ntmps185
    go_wp2
    refine wp_loop_rounds 4 ?_;rw[rounds_succ]
    go_wp2
    rw[rounds_succ]
    go_wp2
    rw[rounds_succ]
    go_wp2
    rw[rounds_succ]
    go_wp2
    go_ret
    exact⟨Z,Z⟩
   have o:(c !=0)=true:=by simpa using h
   have l:(c==0)=false:=by simpa using h
   go_enter Tryz.func185,Tryz.ntmps185
   go_wp2
   refine wp_loop_rounds 4 ?_;rw[rounds_succ]
   go_wp2
   rw[rounds_succ]
   go_wp2
   rw[rounds_succ]
   go_wp2
   go_ret
   exact⟨Z,Z⟩
  have m:(b !=0)=true:=by simpa using d
  have n:(b==0)=false:=by simpa using d
  go_enter Tryz.func185,Tryz.ntmps185
  go_wp2
  refine wp_loop_rounds 4 ?_;rw[rounds_succ]
  go_wp2
  rw[rounds_succ]
  go_wp2
  go_ret
  exact⟨by simp[yM,d],Z⟩
 have k:(a !=0)=true:=by simpa using f
 have j:(a==0)=false:=by simpa using f
 go_enter Tryz.func185,Tryz.ntmps185
 go_wp2
 refine wp_loop_rounds 4 ?_;rw[rounds_succ]
 go_wp2
 go_ret
 exact⟨by simp[yM,f],Z⟩
theorem zl(a b:Int)(w:World):
  Calls Tryz.prog 186 #[.int .i64 a,.int .i64 b] w fun e w'=>e=.returned (.int .i64 (eu a b))/\w=w':=by
 by_cases d:a<b
 ·have E:=J (gj d)
  go_enter Tryz.func186,Tryz.ntmps186
  go_wp2
  go_ret
  exact⟨by rw[E.out];rfl,Z⟩
 by_cases c:b<a
 ·have E:=J (mG c)
  go_enter Tryz.func186,Tryz.ntmps186
  go_wp2
  go_ret
  exact⟨by rw[E.out];rfl,Z⟩
 have E:=J (jR d c)
 go_enter Tryz.func186,Tryz.ntmps186
 go_wp2
 go_ret
 exact⟨by rw[E.out];rfl,Z⟩
theorem vF(a b:Int)(w:World):
  Calls Tryz.prog 187 #[.int .i64 a,.int .i64 b] w fun e w'=>e=.returned (.int .i64 (eu a b))/\w=w':=by
 by_cases d:a<b
 ·have E:=J (gj d)
  go_enter Tryz.func187,Tryz.ntmps187
  go_wp2
  go_ret
  exact⟨by rw[E.out];rfl,Z⟩
 by_cases c:b<a
 ·have E:=J (mG c)
  go_enter Tryz.func187,Tryz.ntmps187
  go_wp2
  go_ret
  exact⟨by rw[E.out];rfl,Z⟩
 have E:=J (jR d c)
 go_enter Tryz.func187,Tryz.ntmps187
 go_wp2
 go_ret
 exact⟨by rw[E.out];rfl,Z⟩
theorem rT(n:Int)(w:World):
  Calls Tryz.prog 143 #[.int .i64 n] w fun e w'=>e=.returned (.agg #[.int .i64 1,.int .i64 n,.string ⟨#[]⟩])/\Below w.heap.size w w':=by
 go_enter Tryz.func143,Tryz.ntmps143
 go_wp2
 exact bodyPost_ret (v:=.agg #[.int .i64 1,.int .i64 n,.string ⟨#[]⟩]) (by simp[results,Tryz.results143,go_sem]) Z ⟨Z,(Below.refl _ _).alloc (L5 _) _⟩
theorem j7(s:ByteArray)(w:World):
  Calls Tryz.prog 141 #[.string s] w fun e w'=>e=.returned (.agg #[.int .i64 2,.int .i64 0,.string s])/\Below w.heap.size w w':=by
 go_enter Tryz.func141,Tryz.ntmps141
 go_wp2
 exact bodyPost_ret (v:=.agg #[.int .i64 2,.int .i64 0,.string s]) (by simp[results,Tryz.results141,go_sem]) Z ⟨Z,(Below.refl _ _).alloc (L5 _) _⟩
theorem lc{m n:Nat}(h:(ay m).length<(ay n).length):m<n:=by
 rcases MI m n with a|a
 ·exact a
 have:=aS a;omega
theorem ld(a:List Nat)(k:Nat)(c:k<a.length):aB a=aB (a.take k)+4294967296^k*(a[k]+4294967296*aB (a.drop (k+1))):=by
 have h:a=a.take k++a[k]::a.drop (k+1):=by rw[<-Md c,M8]
 have b:(a.take k).length=k:=by rw[Mf];omega
 conv=>lhs;rw[h]
 rw[eg,b,aB]
theorem vG(a b:List Nat)(k:Nat)(m:Digs a)(h:a.length=b.length)(g:k<a.length)(i:∀(j:Nat) (c:j<a.length) (e:j<b.length),k<j->a[j]=b[j])(l:a[k]<b[k]'(by omega)):aB a<aB b:=by
 have o:a.drop (k+1)=b.drop (k+1):=by
  apply OY
  ·simp[h]
  intro j c e;simp only[OS];exact i _ _ _ (by omega)
 rw[ld a k g,ld b k (by omega),o];have c:=b4 (a.take k) (fun d f=>m d (MC f));have e:(a.take k).length=k:=by rw[Mf];omega
 rw[e]at c;have n:=Nw (4294967296^k) (show a[k]+4294967296*aB (b.drop (k+1))+1<=b[k]'(by omega)+4294967296*aB (b.drop (k+1)) by omega);rw[MF]at n;omega
theorem xc(a b:List Nat)(f:a.length=b.length)(e:∀(j:Nat) (d:j<a.length) (c:j<b.length),a[j]=b[j]):a=b:=OY f fun j d c=>e j d c
theorem bh{B n:Nat}{w W:World}(h:Below B w W):Below B w (W.drewN n):=⟨h.os,h.tape,h.output,h.size,h.block⟩
def Bz(x y:Nat)(w:World)(e:Ending)(w':World):Prop:=e=.returned (.int .i64 (eu x y))/\Below w.heap.size w w'
theorem iX{x y:Nat}(h:x<y):eu (x:Int) (y:Int)= -1:=gj (by omega)
theorem iy{x y:Nat}(h:y<x):eu (x:Int) (y:Int)=1:=mG (by omega)
theorem iz{x y:Nat}(h:x=y):eu (x:Int) (y:Int)=0:=jR (by omega) (by omega)
theorem qU(A B:Option Addr)(ca cb:Nat)(x y:List Nat)(w:World)(hA:IsN w A ca x)(hB:IsN w B cb y)(a0:x.length<=1073741823)(a2:y.length<=1073741823):
  Calls Tryz.prog 101 #[.slice A x.length ca,.slice B y.length cb] w (Bz (aB x) (aB y) w):=by
 have HA:=J hA;have HB:=J hB;clear hA hB;have P:(ay (aB x)).length<=x.length:=aR (b4 x HA.out.ok);have I:(ay (aB y)).length<=y.length:=aR (b4 y HB.out.ok)
 go_enter Tryz.func101,Tryz.ntmps101
 go_wp2_with fail
 refine(dl A ca x _ HA.out a0).mono ?_;intro e w1 g;obtain⟨A1,c1,rfl,S,t⟩:=g.open_;have c:=J S;have T:=J t;have G:=t.size;clear g S t
 go_wp2_with fail
 refine(dl B cb y _ (HB.out.below T.out) a2).mono ?_;intro e w2 f;obtain⟨A2,c2,rfl,O,o⟩:=f.open_;have u:=J O;have c:=J (c.out.below o);have E:=J (ak T.out o G);have a4:w.heap.size<=w2.heap.size:=L6 G o.size;clear f O o;generalize hX:aB x=X at c P⊢;generalize hY:aB y=Y at u I⊢;have m:=J hX;have n:=J hY;clear hX hY;obtain⟨a,ha⟩:∃a,ay X=a:=⟨_,rfl⟩;obtain⟨b,V⟩:∃b,ay Y=b:=⟨_,rfl⟩;have H:Hid (aB a=X):=by rw[<-ha];exact aI X
 have M:Hid (aB b=Y):=by rw[<-V];exact aI Y
 have L:=J (@lc X Y);have v:=J (@lc Y X);rw[ha,V]at L v;rw[ha]at c P⊢;rw[V]at u I⊢;clear ha V;by_cases K:a.length=b.length
 ·have d:=J K;have g1:((a.length:Int)==(b.length:Int))=true:=by rw[beq_iff_eq];omega
  have g2:((a.length:Int) !=(b.length:Int))=false:=by rw[bne_eq_false_iff_eq];omega
  clear K
  go_wp2
  go_loopw [7] (fun i wr=>∃k:Nat,k<=a.length/\i=.int .i64 ((k:Int)-1)/\(∀(j:Nat) (g:j<a.length) (f:j<b.length),k<=j->a[j]=b[j])/\Below w2.heap.size w2 wr) (fun i _=>(intOf i+1).toNat)
  case atStart=>exact⟨a.length,L5 _,Z,fun j g f h=>by omega,Below.refl _ _⟩
  case round=>
   obtain⟨k,hk,rfl,he,D⟩:=hrel;have s:=J he;have r:=J D;have W:=J (ak E.out D a4);clear he D;cases k with
   |zero=>
    have a3:=J (show X=Y by rw[<-H.out,<-M.out,xc a b d.out (fun j g f=>s.out j g f (by omega))])
    go_wp2
    go_ret
    exact⟨by rw[m.out,n.out,iz a3.out];rfl,W.out⟩
   |succ k=>
    rw[show((k+1:Nat):Int)-1=(k:Int) by omega];obtain⟨b1,o1,rfl,t,U⟩:=(c.out.below r.out).digit (i:=k) (by omega);obtain⟨b2,o2,rfl,o,R⟩:=(u.out.below r.out).digit (i:=k) (by have:=d.out;omega);have c1:=U k (by omega);have c2:=R k (by have:=d.out;omega);have C:k<b.length:=by have:=d.out;omega
    have F:k<a.length:=by omega
    have Q:Hid (a[k]'F<b[k]'C->aB a<aB b):=(fun h=>vG a b k c.out.ok d.out (by omega) (fun j g f h'=>s.out j g f (by omega)) h);have N:Hid (b[k]'C<a[k]'F->aB b<aB a):=(fun h=>vG b a k u.out.ok d.out.symm C (fun j g f h'=>(s.out j f g (by omega)).symm) h);rw[H.out,M.out]at Q N;obtain⟨p,hp⟩:∃p,a[k]'(by omega)=p:=⟨_,rfl⟩;obtain⟨q,hq⟩:∃q,b[k]=q:=⟨_,rfl⟩;have HP:=J hp;have HQ:=J hq;rw[hp]at c1;rw[hq]at c2;clear U R hp hq;have k0:(0:Int)<=(k:Int):=by omega
    have k1:(k:Int)<(a.length:Int):=by omega
    have k2:(k:Int)<(b.length:Int):=by omega
    rcases OE p q with l|l|l
    ·have z:=J (Q.out (by rw[HP.out,HQ.out];exact l));have t1:decide ((p:Int)<(q:Int))=true:=by simp;omega
     go_wp2
     go_quiet (fail)
     go_wp2
     go_ret
     exact⟨by rw[m.out,n.out,iX z.out];rfl,bh W.out⟩
    ·subst l
     go_wp2
     go_quiet (fail)
     go_wp2
     go_quiet (fail)
     go_wp2
     go_roundw
     case rel=>
      refine⟨k,by omega,by go_num,fun j g f h=>?_,by first|exact bh (bh r.out)|exact bh r.out⟩;by_cases e:j=k
      ·subst e;rw[HP.out,HQ.out]
      exact s.out j g f (by omega)
     case measure=>simp[intOf]
    have z:=J (N.out (by rw[HP.out,HQ.out];exact l));have t1:decide ((p:Int)<(q:Int))=false:=by simp;omega
    have t2:decide ((q:Int)<(p:Int))=true:=by simp;omega
    go_wp2
    go_quiet (fail)
    go_wp2
    go_quiet (fail)
    go_wp2
    go_ret
    exact⟨by rw[m.out,n.out,iy z.out];rfl,by first|exact bh (bh W.out)|exact bh W.out⟩
 have g1:((a.length:Int)==(b.length:Int))=false:=by rw[beq_eq_false_iff_ne];omega
 have g2:((a.length:Int) !=(b.length:Int))=true:=by rw[bne_iff_ne];omega
 rcases MI a.length b.length with a5|a9
 ·have z:=J (L.out a5)
  go_wp2
  go_ret
  exact⟨by rw[m.out,n.out,iX z.out];rfl,E.out⟩
 have a1:b.length<a.length:=by omega
 have z:=J (v.out a1)
 go_wp2
 go_ret
 exact⟨by rw[m.out,n.out,iy z.out];rfl,E.out⟩
theorem cQ(l:List Nat)(k:Nat)(h:k<l.length):aB (l.take (k+1))=aB (l.take k)+4294967296^k*l[k]:=by
 have a:(l.take k).length=k:=by rw[Mf];omega
 rw[Mq h,eg,a];simp[aB]
theorem dm(l:List Nat)(d k:Nat)(h:l.length=k):aB (l++[d])=aB l+4294967296^k*d:=by
 subst h;rw[eg];simp[aB]
theorem zm(l:List Nat)(i d:Nat):ce (l.set i d)=(ce l).set i (.int .u32 d):=by simp[ce,List.map_set]
theorem OwnN.set{w:World}{base g a i:Nat}{l:List Nat}(h:OwnN w base (.slice (some ⟨g,0,none⟩) l.length a) l)(d:Nat):
  OwnN (w.setCell ⟨g,i,none⟩ (.int .u32 d)) base (.slice (some ⟨g,0,none⟩) (l.set i d).length a) (l.set i d):=by
 rcases h.2 with⟨c,_⟩|⟨r,e,cur,c,f,o,m,j,n,k⟩
 ·cases c
 injection c with b q p
 injection b with b
 injection b with b
 subst b p;unfold OwnN;rw[MU];refine⟨by rw[cZ,MU];omega,.inr ⟨g,a,cur.setIfInBounds i (.int .u32 d),Z,f,?_,m,j,by simpa using n,?_⟩⟩
 ·simp[World.setCell,NJ,o]
 rw[zm,<-k,NQ,Oh,PI]
theorem OwnN.lies{w:World}{base:Nat}{v:Value}{l:List Nat}(h:OwnN w base v l)(f:0<l.length):
  ∃g a,v=.slice (some ⟨g,0,none⟩) l.length a/\base<=g/\g<w.heap.size/\l.length<=a/\a<=9223372036854775807:=by
 rcases h.2 with⟨_,b⟩|⟨g,a,cur,rfl,c,e,b,d,_⟩
 ·omega
 exact⟨g,a,Z,c,(ML.1 e).1,b,by unfold maxLen at d;omega⟩
theorem OwnN.free{w:World}{base g n c:Nat}{l:List Nat}(h:OwnN w base (.slice (some ⟨g,0,none⟩) n c) l)(i:Nat):w.frozen? ⟨g,i,none⟩=false:=by
 rcases h.2 with⟨b,_⟩|⟨j,d,cur,b,f,e,_⟩
 ·cases b
 injection b with a
 injection a with a
 injection a with a
 subst a;simp[World.frozen?,e]
theorem OwnN.cell{w:World}{base g n a:Nat}{l:List Nat}(h:OwnN w base (.slice (some ⟨g,0,none⟩) n a) l){i:Nat}(d:i<l.length):w.cell? ⟨g,i,none⟩=some (.int .u32 ((l[i]:Nat):Int)):=by
 rcases h.2 with⟨b,_⟩|⟨j,c,cur,b,e,f,_⟩
 ·cases b
 have:=World.ownsRow.cells h (g:=g) Z i (.int .u32 ((l[i]:Nat):Int)) (by simp[ce,L4 d]);rwa[show(⟨g,0,none⟩:Addr).add i=⟨g,i,none⟩from by unfold Addr.add;split<;>simp_all]at this
def SubInv(w:World)(vx vy:Value)(dx dy:List Nat)(br i:Value)(wr:World):Prop:=
 ∃(k b:Nat) (out:List Nat),k<=dx.length/\i=.int .i64 k/\br=.int .u64 b/\b<=1/\out.length=k/\Digs out/\OwnN wr w.heap.size vx (out++dx.drop k)/\OwnN wr w.heap.size vy dy/\aB out+aB (dy.take k)=aB (dx.take k)+4294967296^k*b/\Below w.heap.size w wr
theorem xd{a c d:List Nat}{k b nb x y g:Nat}(l:k<c.length)(h:a.length=k)(m:aB a+aB (d.take k)=aB (c.take k)+4294967296^k*b)(e:c[k]=x)(i:aB (d.take (k+1))=aB (d.take k)+4294967296^k*y)(j:g+(b+y)=x+4294967296*nb):
  aB (a++[g])+aB (d.take (k+1))=aB (c.take (k+1))+4294967296^(k+1)*nb:=by
 rw[dm a g k h,cQ c k l,e,i,MM];generalize 4294967296^k=P at*;have f:P*(g+(b+y))=P*(x+4294967296*nb):=by rw[j]
 rw[MF,MF,MF]at f;rw[Mu];omega
theorem EC{a b:List Nat}{k g:Nat}(d:k<b.length)(c:a.length=k):(a++b.drop k).set k g=(a++[g])++b.drop (k+1):=by
 subst c;rw[NK _ _ (L5 _),Md d,M4,Ms,MG];rfl
theorem I1{a b:List Nat}{k:Nat}(d:k<b.length)(c:a.length=k):∃h:k<(a++b.drop k).length,(a++b.drop k)[k]=b[k]:=by
 subst c;refine⟨by simp;omega,?_⟩;rw[O3 (L5 _)];simp
theorem jS{w wr:World}{l r:Nat}{s:Value}{c m a:List Nat}{k b nb C y0 g:Nat}{z q i:Int}(v:k<c.length)(e:a.length=k)(x:Digs a)(n:OwnN wr w.heap.size (.slice (some ⟨l,0,none⟩) c.length r) (a++c.drop k))(u:OwnN wr w.heap.size s m)(E:s.ownBlock≠some l)
  (K:aB a+aB (m.take k)=aB (c.take k)+4294967296^k*b) (D:c[k]=C) (L:aB (m.take (k+1))=aB (m.take k)+4294967296^k*y0) (o:Below w.heap.size w wr) (t:w.heap.size<=l)
  (F:z=(g:Int)) (H:q=(nb:Int)) (M:i=((k+1:Nat):Int)) (I:g+(b+y0)=C+4294967296*nb) (A:g<4294967296) (y:nb<=1):SubInv w (.slice (some ⟨l,0,none⟩) c.length r) s c m (.int .u64 q) (.int .i64 i) (wr.setCell ⟨l,k,none⟩ (.int .u32 z)):=by
 subst F H M;refine⟨k+1,nb,a++[g],v,Z,Z,y,by simp[e],fun d N=>?_,?_,eZ u E (fun j G=>Below.heap_setCell _ _ _ _ G),xd v e K D L I,o.setCell (p:=⟨l,k,none⟩) t _⟩
 ·rcases My.1 N with h|h
  ·exact x d h
  simp at h;omega
 have f:(a++c.drop k).length=c.length:=by simp[e];omega
 have J:OwnN wr w.heap.size (.slice (some ⟨l,0,none⟩) (a++c.drop k).length r) (a++c.drop k):=by rw[f];exact n
 have B:=J.set (i:=k) g;rw[MU,f,EC v e]at B;exact B
def BA(n:Nat)(w:World)(e:Ending)(w':World):Prop:=∃v,e=.returned (.tuple #[v,.bool true])/\OwnN w' w.heap.size v (ay n)/\Below w.heap.size w w'
theorem OwnN.base_le{w:World}{b c:Nat}{v:Value}{l:List Nat}(h:OwnN w c v l)(f:b<=c):OwnN w b v l:=by
 refine⟨h.1,?_⟩;rcases h.2 with d|⟨g,a,cur,e,i,r⟩
 ·exact .inl d
 exact .inr ⟨g,a,cur,e,by omega,r⟩
theorem vH(A B:Option Addr)(ca cb:Nat)(x y:List Nat)(w:World)(hA:IsN w A ca x)(hB:IsN w B cb y)(W:x.length<=1073741823)(b0:y.length<=1073741823)(d2:aB y<=aB x):
  Calls Tryz.prog 217 #[.slice A x.length ca,.slice B y.length cb] w (BA (aB x-aB y) w):=by
 have HA:=J hA;have HB:=J hB;clear hA hB;have d3:(ay (aB x)).length<=x.length:=aR (b4 x HA.out.ok);have c6:(ay (aB y)).length<=y.length:=aR (b4 y HB.out.ok);have b5:0<=eu (aB x:Int) (aB y:Int):=by
  rcases MI (aB y) (aB x)with h|h
  ·rw[iy h];decide
  rw[iz (by omega)];decide
 obtain⟨cm,U⟩:∃cm,eu (aB x:Int) (aB y:Int)=cm:=⟨_,rfl⟩;have e4:=J U;rw[U]at b5;clear U
 go_enter Tryz.func217,Tryz.ntmps217
 go_wp2_with fail
 refine(qU A B ca cb x y _ HA.out HB.out W b0).mono ?_;rintro e w0 ⟨he,Q⟩;rw[e4.out]at he;subst he;have b2:=J Q;have K:=Q.size;clear Q
 go_wp2_with fail
 refine(dl A ca x _ (HA.out.below b2.out) W).mono ?_;rintro e w1 ⟨vx,rfl,a0,n⟩;have M:=J a0;have c5:=J (ak b2.out n K);have d1:=J n;have N:w.heap.size<=w1.heap.size:=L6 K n.size;clear a0 n
 go_wp2_with fail
 refine(dl B cb y _ (HB.out.below c5.out) b0).mono ?_;rintro e w2 ⟨vy,rfl,V,H⟩;have S:=J ((M.out.below H).base_le K);have P:=J (V.base_le N);have p:Hid (∀g,vx.ownBlock=some g->vy.ownBlock≠some g):=fun g h1 h2=>by
  have a1:=(M.out.lt g h1).2;have a2:=(V.lt g h2).1;omega
 have d5:=J (ak c5.out H N);have f0:w.heap.size<=w2.heap.size:=L6 N H.size;clear V H M d1;have c3:=J (aI (aB x));have a3:=J (aI (aB y));have L:=J (bY (aB x));have T:=J (bY (aB y));obtain⟨s,z⟩:∃s,ay (aB x)=s:=⟨_,rfl⟩;obtain⟨q,C⟩:∃q,ay (aB y)=q:=⟨_,rfl⟩;have d0:=J (congrArg List.length z);have d4:=J (congrArg List.length C);rw[z]at S d3 c3 L;rw[C]at P c6 a3 T;clear z C;obtain⟨Ay,cy,e,f1⟩:∃A c,vy=.slice A q.length c/\True:=by
  obtain⟨A,c,h,_⟩:=P.out.is T.out;exact⟨A,c,h,trivial⟩
 subst e;obtain⟨Ax,cx,e,c2⟩:∃A c,vx=.slice A s.length c/\True:=by
  obtain⟨A,c,h,_⟩:=S.out.is L.out;exact⟨A,c,h,trivial⟩
 subst e
 go_wp2
 go_loopw [8,9] (fun br i wr=>SubInv w (.slice Ax s.length cx) (.slice Ay q.length cy) s q br i wr) (fun _ i _=>s.length-(intOf i).toNat)
 case atStart=>exact⟨0,0,[],Mx _,Z,Z,by omega,Z,fun d hd=>by simp at hd,by simpa using S.out,P.out,by simp[aB],d5.out⟩
 case round=>
  obtain⟨k,b,v,hk,rfl,rfl,hb,a5,c0,t,Y,c4,O⟩:=hrel;have f:=J t;have m:=J Y;have HQ:=J c4;have r:=J O;have a:=J a5;have o:=J c0;have b1:=O.size;clear t Y c4 O a5 c0;by_cases l:k<s.length
  ·obtain⟨gx,f3,e,G,e5,_,_⟩:=f.out.lies (by have:=a.out;simp;omega);injection e with e1 e2 e3
   subst e1 e3;have p:=J (p.out gx Z);obtain⟨a4,a9⟩:=I1 l a.out;obtain⟨I,F⟩:∃I,s[k]=I:=⟨_,rfl⟩;have c9:=f.out.cell a4;rw[a9,F]at c9;have f2:=f.out.free k;have e7:I<4294967296:=by rw[<-F];exact L.out _ (MY l)
   have E:=J F;clear F a9 a4 e2;by_cases R:k<q.length
   ·obtain⟨gy,e6,e,_,_,_,_⟩:=m.out.lies (by omega);injection e with e1 e2 e3
    subst e1 e3;clear e2;have d9:=m.out.cell R;obtain⟨y0,D⟩:∃y0,q[k]=y0:=⟨_,rfl⟩;rw[D]at d9;have e9:y0<4294967296:=by rw[<-D];exact T.out _ (MY R)
    have u:=J (show aB (q.take (k+1))=aB (q.take k)+4294967296^k*y0 by rw[cQ q k R,D]);clear D;by_cases n:I<b+y0
    ·go_wp2
     go_roundw
     case rel=>exact jS (g:=I+4294967296-(b+y0)) (nb:=1) l a.out o.out f.out m.out p.out HQ.out E.out u.out r.out G (by omega) Z (by omega) (by omega) (by omega) (by omega)
     case measure=>simp[intOf];omega
    go_wp2
    go_roundw
    case rel=>exact jS (g:=I-(b+y0)) (nb:=0) l a.out o.out f.out m.out p.out HQ.out E.out u.out r.out G (by omega) Z (by omega) (by omega) (by omega) (by omega)
    case measure=>simp[intOf];omega
   have u:=J (show aB (q.take (k+1))=aB (q.take k)+4294967296^k*0 by rw[Me (i:=k+1) (by omega),Me (i:=k) (by omega)];simp);by_cases n:I<b
   ·go_wp2
    go_roundw
    case rel=>exact jS (y0:=0) (g:=I+4294967296-b) (nb:=1) l a.out o.out f.out m.out p.out HQ.out E.out u.out r.out G (by omega) Z (by omega) (by omega) (by omega) (by omega)
    case measure=>simp[intOf];omega
   go_wp2
   go_roundw
   case rel=>exact jS (y0:=0) (g:=I-b) (nb:=0) l a.out o.out f.out m.out p.out HQ.out E.out u.out r.out G (by omega) Z (by omega) (by omega) (by omega) (by omega)
   case measure=>simp[intOf];omega
  obtain rfl:k=s.length:=by omega
  have e0:q.length<=s.length:=by
   have:=aS d2;rw[d0.out,d4.out]at this;exact this
  have hv:aB v=aB x-aB y:=by
   have h1:=HQ.out;rw[Me e0,M9,c3.out,a3.out]at h1;have h2:=b4 v o.out;rw[a.out]at h2;have h3:b=0\/b=1:=by omega
   rcases h3 with rfl|rfl
   ·rw[Oy]at h1;omega
   rw[Oh]at h1;omega
  have HV:=J hv;clear hv;have t:OwnN wr w.heap.size (.slice Ax s.length cx) v:=by have:=f.out;rwa[List.drop_length,MA]at this
  have b3:IsN wr Ax cx v:=by
   obtain⟨A',c',e,hi⟩:=t.is o.out;injection e with e1 e2 e3
   subst e1 e3;exact hi
  have c2:=J b3;clear t b3;have j:=dl Ax cx v wr c2.out (by have:=a.out;omega);rw[a.out,HV.out]at j;have c7:=J j;clear j
  go_wp2_with fail
  refine c7.out.mono ?_;rintro e w5 ⟨v5,rfl,c1,X⟩;have d6:=J (c1.base_le b1);have d7:=J (ak r.out X b1);clear c1 X
  go_wp2
  go_ret2
  exact⟨v5,Z,d6.out,d7.out⟩
end Go.Proofs.YtfoejfohbkmmeaaGreatDoor
