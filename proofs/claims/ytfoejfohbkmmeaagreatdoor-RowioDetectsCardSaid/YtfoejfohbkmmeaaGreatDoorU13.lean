import Derived.Test.YtfoejfohbkmmeaaGreatDoorU12
import Derived.Lib.SmallJoins
import Derived.Test.YtfoejfohbkmmeaaGreatDoorU00
import Derived.Deep.QuietTactic
import Derived.BigQuiet
set_option maxRecDepth 100000
set_option maxHeartbeats 2000000
namespace Go.Proofs.YtfoejfohbkmmeaaGreatDoor
open Go.RowKit
open Lib renaming hid→J
def aB:List Nat->Nat
 |[]=>0
 |d::l=>d+4294967296*aB l
def Digs(l:List Nat):Prop:=∀d∈l,d<4294967296
def qc:Nat->Nat->List Nat
 |0,_=>[]
 |k+1,n=>if n=0 then []else(n%4294967296)::qc k (n/4294967296)
def ay(n:Nat):List Nat:=qc n n
theorem oq:∀(k m n:Nat),n<=k->n<=m->qc k n=qc m n
 |0,m,n,hk,_=>by
  obtain rfl:n=0:=by omega
  cases m<;>simp[qc]
 |k+1,0,n,_,hm=>by
  obtain rfl:n=0:=by omega
  simp[qc]
 |k+1,m+1,n,hk,hm=>by
  simp only[qc];split
  ·rfl
  rw[oq k m (n/4294967296) (by omega) (by omega)]
theorem gB:ay 0=[]:=rfl
theorem fb{n:Nat}(h:n≠0):ay n=(n%4294967296)::ay (n/4294967296):=by
 unfold ay;obtain⟨k,rfl⟩:∃k,n=k+1:=⟨n-1,by omega⟩;rw[qc,if_neg h,oq k ((k+1)/4294967296) _ (by omega) (L5 _)]
theorem aI(n:Nat):aB (ay n)=n:=by
 induction n using Nat.strongRecOn with
 |ind n ih=>
  by_cases h:n=0
  ·subst h;rfl
  rw[fb h,aB,ih (n/4294967296) (by omega)];omega
theorem bY(n:Nat):Digs (ay n):=by
 induction n using Nat.strongRecOn with
 |ind n ih=>
  by_cases h:n=0
  ·subst h;intro d a;simp[gB]at a
  rw[fb h];intro d a;rcases Mi.1 a with rfl|a
  ·omega
  exact ih (n/4294967296) (by omega) d a
theorem xb{n:Nat}:ay n=[]↔n=0:=by
 constructor
 ·intro h;have:=aI n;rw[h]at this;exact this.symm
 rintro rfl;rfl
theorem bR{n:Nat}:(ay n).length=0↔n=0:=by rw[List.length_eq_zero_iff,xb]
theorem By:∀(l:List Nat),Digs l->(∀h:l≠ [],l.getLast h≠0)->l=ay (aB l)
 |[],_,_=>rfl
 |d::l,hd,hl=>by
  have a:d<4294967296:=hd d (Mr ..);cases l with
  |nil=>
   have g:d≠0:=hl (by simp);simp only[aB,Oy,No];rw[fb g,NZ a,Oa a,gB]
  |cons c l=>
   have b:=By (c::l) (fun x f=>hd x (MB _ f)) (fun h=>by have:=hl (by simp);rwa[List.getLast_cons h]at this);have i:aB (c::l)≠0:=fun e=>by rw[e,gB]at b;cases b
   generalize c::l=m at*;simp only[aB];rw[fb (by omega),show(d+4294967296*aB m)%4294967296=d by omega,show(d+4294967296*aB m)/4294967296=aB m by omega,<-b]
theorem eg:∀(a b:List Nat),aB (a++b)=aB a+4294967296^a.length*aB b
 |[],b=>by simp[aB]
 |d::a,b=>by
  have:=eg a b;simp only[Ng,aB,this,Mb,MM,MF];rw[Mt (4294967296^a.length) 4294967296,Mu];omega
theorem nu:∀(l:List Nat),(∀d∈l,d=0)->aB l=0
 |[],_=>rfl
 |d::l,h=>by
  have c:=h d (Mr ..);have b:=nu l (fun x a=>h x (MB _ a));simp[aB,c,b]
theorem uc(a:List Nat)(k:Nat)(p:k<=a.length)(m:Digs a)(l:∀(j:Nat) (i:j<a.length),k<=j->a[j]=0)(g:k=0\/∃h:k-1<a.length,a[k-1]≠0):a.take k=ay (aB a):=by
 have e:aB a=aB (a.take k):=by
  rw[<-M8 k a,eg,nu (a.drop k),M8]
  ·simp
  intro d b;obtain⟨j,i,rfl⟩:=Nb b;rw[OS];exact l _ _ (by omega)
 rw[e];refine By _ (fun d b=>m d (MC b)) fun h=>?_
 rcases g with rfl|⟨n,f⟩
 ·simp at h
 have o:k≠0:=fun e=>by subst e;simp at h
 rw[List.getLast_eq_getElem];have c:(a.take k).length=k:=by rw[Mf];omega
 simp only[List.getElem_take,c];exact f
theorem b4:∀(l:List Nat),Digs l->aB l<4294967296^l.length
 |[],_=>by simp[aB]
 |d::l,h=>by
  have c:=h d (Mr ..);have b:=b4 l (fun x a=>h x (MB _ a));simp only[aB,Mb,MM];omega
theorem aR{n k:Nat}(h:n<4294967296^k):(ay n).length<=k:=by
 induction k generalizing n with
 |zero=>
  obtain rfl:n=0:=by simpa using h
  simp[gB]
 |succ k ih=>
  by_cases a:n=0
  ·subst a;simp[gB]
  rw[fb a];rw[MM]at h;have:=ih (n:=n/4294967296) (by rw[Nz (by decide)];exact h);simp;omega
theorem aS{m n:Nat}(h:m<=n):(ay m).length<=(ay n).length:=by
 refine aR ?_;have:=b4 (ay n) (bY n);rw[aI]at this;omega
def ce(l:List Nat):List Value:=l.map fun(d:Nat)=>.int .u32 (d:Int)
theorem cZ(l:List Nat):(ce l).length=l.length:=by simp[ce]
theorem nd(a b:List Nat):ce (a++b)=ce a++ce b:=by simp[ce]
theorem rP(l:List Nat):∀u∈ce l,u.oneCell'=true:=by
 intro u a;simp only[ce,Ny]at a;obtain⟨c,_,rfl⟩:=a;rfl
theorem rQ:(Tryz.prog.info? 50).map (fun i=>(i.zero,i.size,i.bytes))=some (some (.int .u32 0),1,4):=by kernel_rfl
def OwnN(w:World)(base:Nat)(v:Value)(l:List Nat):Prop:=w.ownsRow base 50 1 v l.length (ce l)
theorem OwnN.nil(w:World)(base:Nat):OwnN w base (.slice none 0 0) []:=World.ownsRow_nil _ _ _ _
theorem OwnN.below{w w':World}{base:Nat}{v:Value}{l:List Nat}(h:OwnN w base v l)(a:Below w.heap.size w w'):OwnN w' base v l:=dz h a
theorem rR(w:World)(base:Nat)(a:base<=w.heap.size):OwnN (w.alloc (.cells #[] 50)) base (.slice (some ⟨w.heap.size,0,none⟩) 0 0) []:=by
 have:=World.ownsRow_lit (base:=base) (e:=50) (size:=1) w #[] 0 a (by simp[maxLen]) (by simp);exact this
structure IsN (W:World) (A:Option Addr) (c:Nat) (l:List Nat):Prop where
 at_:At W W.heap.size A (ce l)
 nil:A=none->l.length=0/\c=0
 cap:l.length<=c
 max:c<=9223372036854775807
 ok:Digs l
theorem IsN.below{W W':World}{A:Option Addr}{c:Nat}{l:List Nat}(h:IsN W A c l)(a:Below W.heap.size W W'):IsN W' A c l:=⟨(h.at_.below a).more a.size,h.nil,h.cap,h.max,h.ok⟩
theorem OwnN.is{w:World}{base:Nat}{v:Value}{l:List Nat}(h:OwnN w base v l)(d:Digs l):∃A c,v=.slice A l.length c/\IsN w A c l:=by
 rcases h.2 with⟨rfl,a⟩|⟨g,b,cur,rfl,k,j,a,f,m,i⟩
 ·exact⟨none,0,by rw[a],by
   have:l=[]:=Mk a;subst this;exact At.nil _ _ _,fun _=>⟨a,Z⟩,by omega,by omega,d⟩
 exact⟨_,b,Z,mu h,fun e=>(by cases e),a,by unfold maxLen at f;omega,d⟩
theorem IsN.digit{W:World}{A:Option Addr}{c i:Nat}{l:List Nat}(h:IsN W A c l)(g:i<l.length):
  ∃b off,A=some ⟨b,off,none⟩/\b<W.heap.size/\∀(j:Nat) (a:j<l.length),W.cell? ⟨b,off+j,none⟩=some (.int .u32 ((l[j]:Nat):Int)):=by
 obtain⟨b,off,e,d,f⟩:=h.at_ (by rw[cZ];omega);exact⟨b,off,e,d,fun j a=>f j _ (by simp[ce,L4 a])⟩
theorem At.takeN{w:World}{B:Nat}{A:Option Addr}{l:List Nat}(h:At w B A (ce l))(m:Nat):At w B A (ce (l.take m)):=fun c=>by
 rw[cZ,Mf]at c;obtain⟨b,off,e,d,f⟩:=h (by rw[cZ];omega);refine⟨b,off,e,d,fun j u a=>f j u ?_⟩;simp only[ce,OB]at a⊢;rw[MZ]at a;split at a
 ·exact a
 cases a
theorem rS{ops:Array Oper}{b:List Oper}{o:Oper}{a:Act}{Q:Exit->Act->World->Prop}{w:World}(base:Nat)(v:Value)(l m:List Nat)(A:Option Addr)(c:Nat)
  (s x:Operand) (r:o.op=.call {callee:=.builtin .append,args:=#[s,x],argTypes:=#[63,63]}) (t:Region.wanted o (yielded ops a.tmps)=true)
  (y:a.eval s=v) (u:a.eval x=.slice A m.length c) (f:OwnN w base v l) (g:At w w.heap.size A (ce m)) (e:A=none->m.length=0/\c=0) (B:l.length+m.length<=1073741824) (d:base<=w.heap.size)
  (h:∀v' w',OwnN w' base v' (l++m)->Grew w w' base v v'->wpList Tryz.prog ops Q b (a.put o.dst v') w'):wpList Tryz.prog ops Q (o::b) a w:=by
 obtain⟨p,n,j,k,i⟩:=info_parts rQ;refine vg s x _ 50 p (.int .u32 0) 1 4 r t Tryz.underlying63 n j k i Z (by decide) base v l.length (ce l) y f A m.length c (ce m) u g (by rw[cZ];omega) e (rP _) (by simp only[maxLen];omega) (by omega) d ?_;intro v' w' z q;refine h v' w' ?_ q;unfold OwnN;rw[nd,Mc];exact z
theorem fS{ops:Array Oper}{b:List Oper}{o:Oper}{a:Act}{Q:Exit->Act->World->Prop}{w:World}(base:Nat)(v:Value)(l:List Nat)(c:Int)(d:Nat)
  (s x:Operand) (q:o.guard=none) (t:o.op=.call {callee:=.builtin .append,args:=#[s,x],argTypes:=#[63,63]})
  (z:a.eval s=v) (y:a.eval x=.slice (some ⟨w.heap.size,0,none⟩) 1 1) (e:OwnN w base v l) (u:c=d) (A:l.length<=1073741823) (g:base<=w.heap.size)
  (h:∀v' w',OwnN w' base v' (l++[d])->Grew w w' base v v'->wpList Tryz.prog ops Q b (a.put o.dst v') w'):
  wpList Tryz.prog ops Q (o::b) a (w.alloc (.cells #[.int .u32 c] 50)):=by
 obtain⟨r,p,k,n,j⟩:=info_parts rQ;refine wpList_append_own_at _ q s x _ t base 50 r (.int .u32 0) 1 4 Tryz.underlying63 p k n j Z (by decide) v l.length (ce l) z (World.ownsRow.alloc e _)
  ⟨w.heap.size,0,none⟩ 1 1 [.int .u32 c] y Z (cell_one_new _ _ _) (by simp[Value.oneCell']) (by simp only[maxLen];omega) (by omega) (by simp;omega) ?_
 intro v' w' f m _ i;refine h v' w' ?_ (nV e ⟨_,.inl Z⟩ m i g);subst u;unfold OwnN;rw[nd];simpa[ce]using f
def NatPost(n:Nat)(w:World)(e:Ending)(w':World):Prop:=∃v,e=.returned v/\OwnN w' w.heap.size v (ay n)/\Below w.heap.size w w'
theorem NatPost.open_{n:Nat}{w:World}{e:Ending}{w':World}(h:NatPost n w e w'):∃A c,e=.returned (.slice A (ay n).length c)/\IsN w' A c (ay n)/\Below w.heap.size w w':=by
 obtain⟨v,b,d,f⟩:=h;obtain⟨A,c,rfl,a⟩:=d.is (bY n);exact⟨A,c,b,a,f⟩
theorem dl(A:Option Addr)(c:Nat)(l:List Nat)(w:World)(h:IsN w A c l)(Y:l.length<=1073741823):
  Calls Tryz.prog 168 #[.slice A l.length c] w (NatPost (aB l) w):=by
 have D:=J h;have Q:=h.cap;have O:=h.max;clear h
 go_enter Tryz.func168,Tryz.ntmps168
 go_wp2
 go_loop [3] (fun i=>∃k:Nat,k<=l.length/\i=.int .i64 k/\(∀(j:Nat) (F:j<l.length),k<=j->l[j]=0)) (fun i=>(intOf i).toNat)
 case atStart=>exact⟨l.length,L5 _,Z,fun j F h=>by omega⟩
 case round=>
  obtain⟨k,U,rfl,L⟩:=hrel;have M:=J L;clear L;have t:(k=0\/∃h:k-1<l.length,l[k-1]≠0)->l.take k=ay (aB l):=fun H=>uc l k U D.out.ok M.out H
  have N:=J t;clear t;by_cases X:0<k
  ·obtain⟨b,off,rfl,hb,R⟩:=D.out.digit (i:=k-1) (by omega);have K:=R (k-1) (by omega);have I:=J (show∃h:k-1<l.length,l[k-1]=l[k-1]from⟨by omega,Z⟩);obtain⟨d,G⟩:∃d,l[k-1]'(by omega)=d:=⟨_,rfl⟩;rw[G]at K;have S:=J G;clear R G I;by_cases x:d=0
   ·subst x
    go_wp2
    go_round
    case rel=>
     refine⟨k-1,by omega,by go_num,fun j F h=>?_⟩;by_cases e:j=k-1
     ·subst e;exact S.out
     exact M.out j F (by omega)
    case measure=>simp[intOf];omega
   have C:=J (N.out (.inr ⟨by omega,by rw[S.out];exact x⟩));have V:((d:Int)==0)=false:=by simpa using x
   have n:(ay (aB l)).length=k:=by rw[<-C.out,Mf];omega
   have q:=J (D.out.at_.takeN k);rw[C.out]at q;have m:=J n;clear n;obtain⟨W,y,p,_,u⟩:=lQ w 50 #[];have z:=J (rR w w.heap.size (L5 _));rw[y]at z;have E:=J y;have v:=J p;have o:=p.size;clear y p u
   go_wp2_with (at_builtin;rw[E.out];refine rS w.heap.size _ [] (ay (aB l)) (some ⟨b,off,none⟩) c (.tmp 18) (.tmp 21) rfl rfl rfl (by rw[m.out];rfl) z.out ((q.out.below v.out).more o) (fun h=>by cases h) (by have:=m.out;simp only[Mo];omega) o ?_;intro B P f g;have s:=J f;have r:=J g;clear f g)
   go_ret
   exact⟨B,Z,by simpa using s.out,v.out.trans r.out.below⟩
  obtain rfl:k=0:=by omega
  have C:=J (N.out (.inl Z));have n:(ay (aB l)).length=0:=by rw[<-C.out,Mf];omega
  have q:=J (D.out.at_.takeN 0);rw[C.out]at q;have m:=J n;clear n;obtain⟨W,y,p,_,u⟩:=lQ w 50 #[];have z:=J (rR w w.heap.size (L5 _));rw[y]at z;have E:=J y;have v:=J p;have o:=p.size;clear y p u;cases A with
  |none=>
   obtain⟨T,rfl⟩:=D.out.nil rfl
   go_wp2_with (at_builtin;rw[E.out];refine rS w.heap.size _ [] (ay (aB l)) none 0 (.tmp 18) (.tmp 21) rfl rfl rfl (by rw[m.out];rfl) z.out ((q.out.below v.out).more o) (fun _=>⟨m.out,rfl⟩) (by have:=m.out;simp only[Mo];omega) o ?_;intro B P f g;have s:=J f;have r:=J g;clear f g)
   go_ret
   exact⟨B,Z,by simpa using s.out,v.out.trans r.out.below⟩
  |some a=>
   go_wp2_with (at_builtin;rw[E.out];refine rS w.heap.size _ [] (ay (aB l)) (some a) c (.tmp 18) (.tmp 21) rfl rfl rfl (by rw[m.out];rfl) z.out ((q.out.below v.out).more o) (fun h=>by cases h) (by have:=m.out;simp only[Mo];omega) o ?_;intro B P f g;have s:=J f;have r:=J g;clear f g)
   go_ret
   exact⟨B,Z,by simpa using s.out,v.out.trans r.out.below⟩
def eu(a b:Int):Int:=if a<b then-1 else if b<a then 1 else 0
theorem gj{a b:Int}(h:a<b):eu a b= -1:=by simp[eu,h]
theorem mG{a b:Int}(h:b<a):eu a b=1:=by simp[eu,h,show¬a<b by omega]
theorem jR{a b:Int}(d:¬a<b)(c:¬b<a):eu a b=0:=by simp[eu,d,c]
def yM(a b c:Int):Int:=if a≠0 then a else if b≠0 then b else c
theorem IZ(g:Nat)(i:Nat)(a b c:Int)(w:World)(q:w.cell? ⟨g,0,none⟩=some (.int .i64 a))(r:w.cell? ⟨g,1,none⟩=some (.int .i64 b))(p:w.cell? ⟨g,2,none⟩=some (.int .i64 c)):
  Calls Tryz.prog 185 #[.slice (some ⟨g,0,none⟩) 3 i] w fun e w'=>e=.returned (.int .i64 (yM a b c))/\w=w':=by
 by_cases f:a=0
 ·subst f;by_cases d:b=0
  ·subst d;by_cases h:c=0
   ·subst h
    go_enter Tryz.func185,Tryz.ntmps185
    go_wp2
    refine wp_loop_rounds 4 ?_;rw[rounds_succ]
    go_wp2
    rw[rounds_succ]
    go_wp2
    rw[rounds_succ]
    go_wp2
    rw[rounds_succ]
    go_wp2
    go_ret
    exact⟨Z,Z⟩
   have o:(c !=0)=true:=by simpa using h
   have m:(c==0)=false:=by simpa using h
   go_enter Tryz.func185,Tryz.ntmps185
   go_wp2
   refine wp_loop_rounds 4 ?_;rw[rounds_succ]
   go_wp2
   rw[rounds_succ]
   go_wp2
   rw[rounds_succ]
   go_wp2
   go_ret
   exact⟨Z,Z⟩
  have k:(b !=0)=true:=by simpa using d
  have n:(b==0)=false:=by simpa using d
  go_enter Tryz.func185,Tryz.ntmps185
  go_wp2
  refine wp_loop_rounds 4 ?_;rw[rounds_succ]
  go_wp2
  rw[rounds_succ]
  go_wp2
  go_ret
  exact⟨by simp[yM,d],Z⟩
 have j:(a !=0)=true:=by simpa using f
 have l:(a==0)=false:=by simpa using f
 go_enter Tryz.func185,Tryz.ntmps185
 go_wp2
 refine wp_loop_rounds 4 ?_;rw[rounds_succ]
 go_wp2
 go_ret
 exact⟨by simp[yM,f],Z⟩
theorem zl(a b:Int)(w:World):
  Calls Tryz.prog 186 #[.int .i64 a,.int .i64 b] w fun e w'=>e=.returned (.int .i64 (eu a b))/\w=w':=by
 by_cases d:a<b
 ·have E:=J (gj d)
  go_enter Tryz.func186,Tryz.ntmps186
  go_wp2
  go_ret
  exact⟨by rw[E.out];rfl,Z⟩
 by_cases c:b<a
 ·have E:=J (mG c)
  go_enter Tryz.func186,Tryz.ntmps186
  go_wp2
  go_ret
  exact⟨by rw[E.out];rfl,Z⟩
 have E:=J (jR d c)
 go_enter Tryz.func186,Tryz.ntmps186
 go_wp2
 go_ret
 exact⟨by rw[E.out];rfl,Z⟩
theorem vF(a b:Int)(w:World):
  Calls Tryz.prog 187 #[.int .i64 a,.int .i64 b] w fun e w'=>e=.returned (.int .i64 (eu a b))/\w=w':=by
 by_cases d:a<b
 ·have E:=J (gj d)
  go_enter Tryz.func187,Tryz.ntmps187
  go_wp2
  go_ret
  exact⟨by rw[E.out];rfl,Z⟩
 by_cases c:b<a
 ·have E:=J (mG c)
  go_enter Tryz.func187,Tryz.ntmps187
  go_wp2
  go_ret
  exact⟨by rw[E.out];rfl,Z⟩
 have E:=J (jR d c)
 go_enter Tryz.func187,Tryz.ntmps187
 go_wp2
 go_ret
 exact⟨by rw[E.out];rfl,Z⟩
theorem rT(n:Int)(w:World):
  Calls Tryz.prog 143 #[.int .i64 n] w fun e w'=>e=.returned (.agg #[.int .i64 1,.int .i64 n,.string ⟨#[]⟩])/\Below w.heap.size w w':=by
 go_enter Tryz.func143,Tryz.ntmps143
 go_wp2
 exact bodyPost_ret (v:=.agg #[.int .i64 1,.int .i64 n,.string ⟨#[]⟩]) (by simp[results,Tryz.results143,go_sem]) Z ⟨Z,(Below.refl _ _).alloc (L5 _) _⟩
theorem j7(s:ByteArray)(w:World):
  Calls Tryz.prog 141 #[.string s] w fun e w'=>e=.returned (.agg #[.int .i64 2,.int .i64 0,.string s])/\Below w.heap.size w w':=by
 go_enter Tryz.func141,Tryz.ntmps141
 go_wp2
 exact bodyPost_ret (v:=.agg #[.int .i64 2,.int .i64 0,.string s]) (by simp[results,Tryz.results141,go_sem]) Z ⟨Z,(Below.refl _ _).alloc (L5 _) _⟩
theorem lc{m n:Nat}(h:(ay m).length<(ay n).length):m<n:=by
 rcases MI m n with a|a
 ·exact a
 have:=aS a;omega
theorem ld(a:List Nat)(k:Nat)(c:k<a.length):aB a=aB (a.take k)+4294967296^k*(a[k]+4294967296*aB (a.drop (k+1))):=by
 have h:a=a.take k++a[k]::a.drop (k+1):=by rw[<-Md c,M8]
 have b:(a.take k).length=k:=by rw[Mf];omega
 conv=>lhs;rw[h]
 rw[eg,b,aB]
theorem vG(a b:List Nat)(k:Nat)(h:Digs a)(g:a.length=b.length)(l:k<a.length)(m:∀(j:Nat) (e:j<a.length) (f:j<b.length),k<j->a[j]=b[j])(o:a[k]<b[k]'(by omega)):aB a<aB b:=by
 have n:a.drop (k+1)=b.drop (k+1):=by
  apply OY
  ·simp[g]
  intro j e f;simp only[OS];exact m _ _ _ (by omega)
 rw[ld a k l,ld b k (by omega),n];have e:=b4 (a.take k) (fun d c=>h d (MC c));have f:(a.take k).length=k:=by rw[Mf];omega
 rw[f]at e;have i:=Nw (4294967296^k) (show a[k]+4294967296*aB (b.drop (k+1))+1<=b[k]'(by omega)+4294967296*aB (b.drop (k+1)) by omega);rw[MF]at i;omega
theorem xc(a b:List Nat)(e:a.length=b.length)(f:∀(j:Nat) (d:j<a.length) (c:j<b.length),a[j]=b[j]):a=b:=OY e fun j d c=>f j d c
theorem bh{B n:Nat}{w W:World}(h:Below B w W):Below B w (W.drewN n):=⟨h.os,h.tape,h.output,h.size,h.block⟩
def Bz(x y:Nat)(w:World)(e:Ending)(w':World):Prop:=e=.returned (.int .i64 (eu x y))/\Below w.heap.size w w'
theorem iX{x y:Nat}(h:x<y):eu (x:Int) (y:Int)= -1:=gj (by omega)
theorem iy{x y:Nat}(h:y<x):eu (x:Int) (y:Int)=1:=mG (by omega)
theorem iz{x y:Nat}(h:x=y):eu (x:Int) (y:Int)=0:=jR (by omega) (by omega)
theorem qU(A B:Option Addr)(ca cb:Nat)(x y:List Nat)(w:World)(hA:IsN w A ca x)(hB:IsN w B cb y)(a0:x.length<=1073741823)(a5:y.length<=1073741823):
  Calls Tryz.prog 101 #[.slice A x.length ca,.slice B y.length cb] w (Bz (aB x) (aB y) w):=by
 have HA:=J hA;have HB:=J hB;clear hA hB;have O:(ay (aB x)).length<=x.length:=aR (b4 x HA.out.ok);have N:(ay (aB y)).length<=y.length:=aR (b4 y HB.out.ok)
 go_enter Tryz.func101,Tryz.ntmps101
 go_wp2_with fail
 refine(dl A ca x _ HA.out a0).mono ?_;intro e w1 f;obtain⟨A1,c1,rfl,P,t⟩:=f.open_;have d:=J P;have M:=J t;have S:=t.size;clear f P t
 go_wp2_with fail
 refine(dl B cb y _ (HB.out.below M.out) a5).mono ?_;intro e w2 g;obtain⟨A2,c2,rfl,Q,m⟩:=g.open_;have r:=J Q;have d:=J (d.out.below m);have C:=J (ak M.out m S);have a2:w.heap.size<=w2.heap.size:=L6 S m.size;clear g Q m;generalize hX:aB x=X at d O⊢;generalize hY:aB y=Y at r N⊢;have o:=J hX;have n:=J hY;clear hX hY;obtain⟨a,W⟩:∃a,ay X=a:=⟨_,rfl⟩;obtain⟨b,hb⟩:∃b,ay Y=b:=⟨_,rfl⟩;have R:Hid (aB a=X):=by rw[<-W];exact aI X
 have G:Hid (aB b=Y):=by rw[<-hb];exact aI Y
 have L:=J (@lc X Y);have v:=J (@lc Y X);rw[W,hb]at L v;rw[W]at d O⊢;rw[hb]at r N⊢;clear W hb;by_cases U:a.length=b.length
 ·have c:=J U;have g1:((a.length:Int)==(b.length:Int))=true:=by rw[beq_iff_eq];omega
  have g2:((a.length:Int) !=(b.length:Int))=false:=by rw[bne_eq_false_iff_eq];omega
  clear U
  go_wp2
  go_loopw [7] (fun i wr=>∃k:Nat,k<=a.length/\i=.int .i64 ((k:Int)-1)/\(∀(j:Nat) (f:j<a.length) (g:j<b.length),k<=j->a[j]=b[j])/\Below w2.heap.size w2 wr) (fun i _=>(intOf i+1).toNat)
  case atStart=>exact⟨a.length,L5 _,Z,fun j f g h=>by omega,Below.refl _ _⟩
  case round=>
   obtain⟨k,hk,rfl,he,D⟩:=hrel;have s:=J he;have u:=J D;have V:=J (ak C.out D a2);clear he D;cases k with
   |zero=>
    have a4:=J (show X=Y by rw[<-R.out,<-G.out,xc a b c.out (fun j f g=>s.out j f g (by omega))])
    go_wp2
    go_ret
    exact⟨by rw[o.out,n.out,iz a4.out];rfl,V.out⟩
   |succ k=>
    rw[show((k+1:Nat):Int)-1=(k:Int) by omega];obtain⟨b1,o1,rfl,t,H⟩:=(d.out.below u.out).digit (i:=k) (by omega);obtain⟨b2,o2,rfl,m,K⟩:=(r.out.below u.out).digit (i:=k) (by have:=c.out;omega);have c1:=H k (by omega);have c2:=K k (by have:=c.out;omega);have E:k<b.length:=by have:=c.out;omega
    have I:k<a.length:=by omega
    have F:Hid (a[k]'I<b[k]'E->aB a<aB b):=(fun h=>vG a b k d.out.ok c.out (by omega) (fun j f g h'=>s.out j f g (by omega)) h);have T:Hid (b[k]'E<a[k]'I->aB b<aB a):=(fun h=>vG b a k r.out.ok c.out.symm E (fun j f g h'=>(s.out j g f (by omega)).symm) h);rw[R.out,G.out]at F T;obtain⟨p,hp⟩:∃p,a[k]'(by omega)=p:=⟨_,rfl⟩;obtain⟨q,hq⟩:∃q,b[k]=q:=⟨_,rfl⟩;have HP:=J hp;have HQ:=J hq;rw[hp]at c1;rw[hq]at c2;clear H K hp hq;have k0:(0:Int)<=(k:Int):=by omega
    have k1:(k:Int)<(a.length:Int):=by omega
    have k2:(k:Int)<(b.length:Int):=by omega
    rcases OE p q with l|l|l
    ·have z:=J (F.out (by rw[HP.out,HQ.out];exact l));have t1:decide ((p:Int)<(q:Int))=true:=by simp;omega
     go_wp2
     go_quiet (fail)
     go_wp2
     go_ret
     exact⟨by rw[o.out,n.out,iX z.out];rfl,bh V.out⟩
    ·subst l
     go_wp2
     go_quiet (fail)
     go_wp2
     go_quiet (fail)
     go_wp2
     go_roundw
     case rel=>
      refine⟨k,by omega,by go_num,fun j f g h=>?_,by first|exact bh (bh u.out)|exact bh u.out⟩;by_cases e:j=k
      ·subst e;rw[HP.out,HQ.out]
      exact s.out j f g (by omega)
     case measure=>simp[intOf]
    have z:=J (T.out (by rw[HP.out,HQ.out];exact l));have t1:decide ((p:Int)<(q:Int))=false:=by simp;omega
    have t2:decide ((q:Int)<(p:Int))=true:=by simp;omega
    go_wp2
    go_quiet (fail)
    go_wp2
    go_quiet (fail)
    go_wp2
    go_ret
    exact⟨by rw[o.out,n.out,iy z.out];rfl,by first|exact bh (bh V.out)|exact bh V.out⟩
 have g1:((a.length:Int)==(b.length:Int))=false:=by rw[beq_eq_false_iff_ne];omega
 have g2:((a.length:Int) !=(b.length:Int))=true:=by rw[bne_iff_ne];omega
 rcases MI a.length b.length with a1|a9
 ·have z:=J (L.out a1)
  go_wp2
  go_ret
  exact⟨by rw[o.out,n.out,iX z.out];rfl,C.out⟩
 have a3:b.length<a.length:=by omega
 have z:=J (v.out a3)
 go_wp2
 go_ret
 exact⟨by rw[o.out,n.out,iy z.out];rfl,C.out⟩
theorem cQ(l:List Nat)(k:Nat)(h:k<l.length):aB (l.take (k+1))=aB (l.take k)+4294967296^k*l[k]:=by
 have a:(l.take k).length=k:=by rw[Mf];omega
 rw[Mq h,eg,a];simp[aB]
theorem dm(l:List Nat)(d k:Nat)(h:l.length=k):aB (l++[d])=aB l+4294967296^k*d:=by
 subst h;rw[eg];simp[aB]
theorem zm(l:List Nat)(i d:Nat):ce (l.set i d)=(ce l).set i (.int .u32 d):=by simp[ce,List.map_set]
theorem OwnN.set{w:World}{base g a i:Nat}{l:List Nat}(h:OwnN w base (.slice (some ⟨g,0,none⟩) l.length a) l)(d:Nat):
  OwnN (w.setCell ⟨g,i,none⟩ (.int .u32 d)) base (.slice (some ⟨g,0,none⟩) (l.set i d).length a) (l.set i d):=by
 rcases h.2 with⟨c,_⟩|⟨q,e,cur,c,f,o,j,n,p,m⟩
 ·cases c
 injection c with b r k
 injection b with b
 injection b with b
 subst b k;unfold OwnN;rw[MU];refine⟨by rw[cZ,MU];omega,.inr ⟨g,a,cur.setIfInBounds i (.int .u32 d),Z,f,?_,j,n,by simpa using p,?_⟩⟩
 ·simp[World.setCell,NJ,o]
 rw[zm,<-m,NQ,Oh,PI]
theorem OwnN.lies{w:World}{base:Nat}{v:Value}{l:List Nat}(h:OwnN w base v l)(f:0<l.length):
  ∃g a,v=.slice (some ⟨g,0,none⟩) l.length a/\base<=g/\g<w.heap.size/\l.length<=a/\a<=9223372036854775807:=by
 rcases h.2 with⟨_,b⟩|⟨g,a,cur,rfl,e,d,b,c,_⟩
 ·omega
 exact⟨g,a,Z,e,(ML.1 d).1,b,by unfold maxLen at c;omega⟩
theorem OwnN.free{w:World}{base g n c:Nat}{l:List Nat}(h:OwnN w base (.slice (some ⟨g,0,none⟩) n c) l)(i:Nat):w.frozen? ⟨g,i,none⟩=false:=by
 rcases h.2 with⟨b,_⟩|⟨f,d,cur,b,j,e,_⟩
 ·cases b
 injection b with a
 injection a with a
 injection a with a
 subst a;simp[World.frozen?,e]
theorem OwnN.cell{w:World}{base g n a:Nat}{l:List Nat}(h:OwnN w base (.slice (some ⟨g,0,none⟩) n a) l){i:Nat}(d:i<l.length):w.cell? ⟨g,i,none⟩=some (.int .u32 ((l[i]:Nat):Int)):=by
 rcases h.2 with⟨b,_⟩|⟨f,c,cur,b,j,e,_⟩
 ·cases b
 have:=World.ownsRow.cells h (g:=g) Z i (.int .u32 ((l[i]:Nat):Int)) (by simp[ce,L4 d]);rwa[show(⟨g,0,none⟩:Addr).add i=⟨g,i,none⟩from by unfold Addr.add;split<;>simp_all]at this
def SubInv(w:World)(vx vy:Value)(dx dy:List Nat)(br i:Value)(wr:World):Prop:=
 ∃(k b:Nat) (out:List Nat),k<=dx.length/\i=.int .i64 k/\br=.int .u64 b/\b<=1/\out.length=k/\Digs out/\OwnN wr w.heap.size vx (out++dx.drop k)/\OwnN wr w.heap.size vy dy/\aB out+aB (dy.take k)=aB (dx.take k)+4294967296^k*b/\Below w.heap.size w wr
theorem xd{a c d:List Nat}{k b nb x y g:Nat}(e:k<c.length)(f:a.length=k)(m:aB a+aB (d.take k)=aB (c.take k)+4294967296^k*b)(h:c[k]=x)(i:aB (d.take (k+1))=aB (d.take k)+4294967296^k*y)(j:g+(b+y)=x+4294967296*nb):
  aB (a++[g])+aB (d.take (k+1))=aB (c.take (k+1))+4294967296^(k+1)*nb:=by
 rw[dm a g k f,cQ c k e,h,i,MM];generalize 4294967296^k=P at*;have l:P*(g+(b+y))=P*(x+4294967296*nb):=by rw[j]
 rw[MF,MF,MF]at l;rw[Mu];omega
theorem EC{a b:List Nat}{k g:Nat}(c:k<b.length)(d:a.length=k):(a++b.drop k).set k g=(a++[g])++b.drop (k+1):=by
 subst d;rw[NK _ _ (L5 _),Md c,M4,Ms,MG];rfl
theorem I1{a b:List Nat}{k:Nat}(d:k<b.length)(c:a.length=k):∃h:k<(a++b.drop k).length,(a++b.drop k)[k]=b[k]:=by
 subst c;refine⟨by simp;omega,?_⟩;rw[O3 (L5 _)];simp
theorem jS{w wr:World}{l o:Nat}{y:Value}{c m a:List Nat}{k b nb A y0 g:Nat}{z q i:Int}(u:k<c.length)(e:a.length=k)(s:Digs a)(v:OwnN wr w.heap.size (.slice (some ⟨l,0,none⟩) c.length o) (a++c.drop k))(t:OwnN wr w.heap.size y m)(L:y.ownBlock≠some l)
  (M:aB a+aB (m.take k)=aB (c.take k)+4294967296^k*b) (E:c[k]=A) (F:aB (m.take (k+1))=aB (m.take k)+4294967296^k*y0) (x:Below w.heap.size w wr) (n:w.heap.size<=l)
  (D:z=(g:Int)) (N:q=(nb:Int)) (I:i=((k+1:Nat):Int)) (J:g+(b+y0)=A+4294967296*nb) (C:g<4294967296) (r:nb<=1):SubInv w (.slice (some ⟨l,0,none⟩) c.length o) y c m (.int .u64 q) (.int .i64 i) (wr.setCell ⟨l,k,none⟩ (.int .u32 z)):=by
 subst D N I;refine⟨k+1,nb,a++[g],u,Z,Z,r,by simp[e],fun d K=>?_,?_,eZ t L (fun j H=>Below.heap_setCell _ _ _ _ H),xd u e M E F J,x.setCell (p:=⟨l,k,none⟩) n _⟩
 ·rcases My.1 K with h|h
  ·exact s d h
  simp at h;omega
 have f:(a++c.drop k).length=c.length:=by simp[e];omega
 have G:OwnN wr w.heap.size (.slice (some ⟨l,0,none⟩) (a++c.drop k).length o) (a++c.drop k):=by rw[f];exact v
 have B:=G.set (i:=k) g;rw[MU,f,EC u e]at B;exact B
def BA(n:Nat)(w:World)(e:Ending)(w':World):Prop:=∃v,e=.returned (.tuple #[v,.bool true])/\OwnN w' w.heap.size v (ay n)/\Below w.heap.size w w'
theorem OwnN.base_le{w:World}{b c:Nat}{v:Value}{l:List Nat}(h:OwnN w c v l)(i:b<=c):OwnN w b v l:=by
 refine⟨h.1,?_⟩;rcases h.2 with d|⟨g,a,cur,e,f,r⟩
 ·exact .inl d
 exact .inr ⟨g,a,cur,e,by omega,r⟩
theorem vH(A B:Option Addr)(ca cb:Nat)(x y:List Nat)(w:World)(hA:IsN w A ca x)(hB:IsN w B cb y)(b5:x.length<=1073741823)(b1:y.length<=1073741823)(c6:aB y<=aB x):
  Calls Tryz.prog 217 #[.slice A x.length ca,.slice B y.length cb] w (BA (aB x-aB y) w):=by
 have HA:=J hA;have HB:=J hB;clear hA hB;have d9:(ay (aB x)).length<=x.length:=aR (b4 x HA.out.ok);have d7:(ay (aB y)).length<=y.length:=aR (b4 y HB.out.ok);have b0:0<=eu (aB x:Int) (aB y:Int):=by
  rcases MI (aB y) (aB x)with h|h
  ·rw[iy h];decide
  rw[iz (by omega)];decide
 obtain⟨cm,V⟩:∃cm,eu (aB x:Int) (aB y:Int)=cm:=⟨_,rfl⟩;have d6:=J V;rw[V]at b0;clear V
 go_enter Tryz.func217,Tryz.ntmps217
 go_wp2_with fail
 refine(qU A B ca cb x y _ HA.out HB.out b5 b1).mono ?_;rintro e w0 ⟨he,U⟩;rw[d6.out]at he;subst he;have Y:=J U;have L:=U.size;clear U
 go_wp2_with fail
 refine(dl A ca x _ (HA.out.below Y.out) b5).mono ?_;rintro e w1 ⟨vx,rfl,c3,q⟩;have M:=J c3;have b3:=J (ak Y.out q L);have d0:=J q;have N:w.heap.size<=w1.heap.size:=L6 L q.size;clear c3 q
 go_wp2_with fail
 refine(dl B cb y _ (HB.out.below b3.out) b1).mono ?_;rintro e w2 ⟨vy,rfl,P,H⟩;have Q:=J ((M.out.below H).base_le L);have O:=J (P.base_le N);have m:Hid (∀g,vx.ownBlock=some g->vy.ownBlock≠some g):=fun g h1 h2=>by
  have a1:=(M.out.lt g h1).2;have a2:=(P.lt g h2).1;omega
 have d1:=J (ak b3.out H N);have f2:w.heap.size<=w2.heap.size:=L6 N H.size;clear P H M d0;have a4:=J (aI (aB x));have a3:=J (aI (aB y));have K:=J (bY (aB x));have S:=J (bY (aB y));obtain⟨z,s⟩:∃z,ay (aB x)=z:=⟨_,rfl⟩;obtain⟨l,t⟩:∃l,ay (aB y)=l:=⟨_,rfl⟩;have c9:=J (congrArg List.length s);have d3:=J (congrArg List.length t);rw[s]at Q d9 a4 K;rw[t]at O d7 a3 S;clear s t;obtain⟨Ay,cy,e,f3⟩:∃A c,vy=.slice A l.length c/\True:=by
  obtain⟨A,c,h,_⟩:=O.out.is S.out;exact⟨A,c,h,trivial⟩
 subst e;obtain⟨Ax,cx,e,W⟩:∃A c,vx=.slice A z.length c/\True:=by
  obtain⟨A,c,h,_⟩:=Q.out.is K.out;exact⟨A,c,h,trivial⟩
 subst e
 go_wp2
 go_loopw [8,9] (fun br i wr=>SubInv w (.slice Ax z.length cx) (.slice Ay l.length cy) z l br i wr) (fun _ i _=>z.length-(intOf i).toNat)
 case atStart=>exact⟨0,0,[],Mx _,Z,Z,by omega,Z,fun d hd=>by simp at hd,by simpa using Q.out,O.out,by simp[aB],d1.out⟩
 case round=>
  obtain⟨k,b,v,hk,rfl,rfl,hb,a9,c2,C,a5,X,R⟩:=hrel;have f:=J C;have n:=J a5;have HQ:=J X;have u:=J R;have a:=J a9;have o:=J c2;have b2:=R.size;clear C a5 X R a9 c2;by_cases p:k<z.length
  ·obtain⟨gx,f1,e,F,e9,_,_⟩:=f.out.lies (by have:=a.out;simp;omega);injection e with e1 e2 e3
   subst e1 e3;have m:=J (m.out gx Z);obtain⟨a0,c0⟩:=I1 p a.out;obtain⟨G,E⟩:∃G,z[k]=G:=⟨_,rfl⟩;have d5:=f.out.cell a0;rw[c0,E]at d5;have f0:=f.out.free k;have e5:G<4294967296:=by rw[<-E];exact K.out _ (MY p)
   have D:=J E;clear E c0 a0 e2;by_cases T:k<l.length
   ·obtain⟨gy,e6,e,_,_,_,_⟩:=n.out.lies (by omega);injection e with e1 e2 e3
    subst e1 e3;clear e2;have d4:=n.out.cell T;obtain⟨y0,I⟩:∃y0,l[k]=y0:=⟨_,rfl⟩;rw[I]at d4;have e7:y0<4294967296:=by rw[<-I];exact S.out _ (MY T)
    have r:=J (show aB (l.take (k+1))=aB (l.take k)+4294967296^k*y0 by rw[cQ l k T,I]);clear I;by_cases q:G<b+y0
    ·go_wp2
     go_roundw
     case rel=>exact jS (g:=G+4294967296-(b+y0)) (nb:=1) p a.out o.out f.out n.out m.out HQ.out D.out r.out u.out F (by omega) Z (by omega) (by omega) (by omega) (by omega)
     case measure=>simp[intOf];omega
    go_wp2
    go_roundw
    case rel=>exact jS (g:=G-(b+y0)) (nb:=0) p a.out o.out f.out n.out m.out HQ.out D.out r.out u.out F (by omega) Z (by omega) (by omega) (by omega) (by omega)
    case measure=>simp[intOf];omega
   have r:=J (show aB (l.take (k+1))=aB (l.take k)+4294967296^k*0 by rw[Me (i:=k+1) (by omega),Me (i:=k) (by omega)];simp);by_cases q:G<b
   ·go_wp2
    go_roundw
    case rel=>exact jS (y0:=0) (g:=G+4294967296-b) (nb:=1) p a.out o.out f.out n.out m.out HQ.out D.out r.out u.out F (by omega) Z (by omega) (by omega) (by omega) (by omega)
    case measure=>simp[intOf];omega
   go_wp2
   go_roundw
   case rel=>exact jS (y0:=0) (g:=G-b) (nb:=0) p a.out o.out f.out n.out m.out HQ.out D.out r.out u.out F (by omega) Z (by omega) (by omega) (by omega) (by omega)
   case measure=>simp[intOf];omega
  obtain rfl:k=z.length:=by omega
  have e0:l.length<=z.length:=by
   have:=aS c6;rw[c9.out,d3.out]at this;exact this
  have hv:aB v=aB x-aB y:=by
   have h1:=HQ.out;rw[Me e0,M9,a4.out,a3.out]at h1;have h2:=b4 v o.out;rw[a.out]at h2;have h3:b=0\/b=1:=by omega
   rcases h3 with rfl|rfl
   ·rw[Oy]at h1;omega
   rw[Oh]at h1;omega
  have HV:=J hv;clear hv;have C:OwnN wr w.heap.size (.slice Ax z.length cx) v:=by have:=f.out;rwa[List.drop_length,MA]at this
  have c4:IsN wr Ax cx v:=by
   obtain⟨A',c',e,hi⟩:=C.is o.out;injection e with e1 e2 e3
   subst e1 e3;exact hi
  have W:=J c4;clear C c4;have j:=dl Ax cx v wr W.out (by have:=a.out;omega);rw[a.out,HV.out]at j;have e4:=J j;clear j
  go_wp2_with fail
  refine e4.out.mono ?_;rintro e w5 ⟨v5,rfl,c5,c1⟩;have d2:=J (c5.base_le b2);have c7:=J (ak u.out c1 b2);clear c5 c1
  go_wp2
  go_ret2
  exact⟨v5,Z,d2.out,c7.out⟩
end Go.Proofs.YtfoejfohbkmmeaaGreatDoor
