import Derived.Test.YtfoejfohbkmmeaaGreatDoorK21
import Derived.Lib.Overlaps
set_option maxRecDepth 100000
set_option maxHeartbeats 4000000
set_option linter.defProp false
open Go.Proofs.Tryz
namespace Go.Proofs.YtfoejfohbkmmeaaGreatDoor
open Go.RowKit
open Lib renaming hid→J
def BS(w:World)(base:Nat)(E:TypeId)(v:Value)(n:Nat)(ys:List Value)(e:Ending)(w':World):Prop:=∃v',e=.returned v'/\w'.ownsRow base E 1 v' (n+1) ys/\w.grownBy w' v.ownBlock/\(v'.ownBlock=v.ownBlock\/v'.ownBlock=some w.heap.size)/\∀g,v'.ownBlock=some g->NoDigB w' g
def py(g j:Nat):(⟨g,0,none⟩:Addr).add j=⟨g,j,none⟩:=by rw[Addr.add_lit];simp
def rg{w:World}{base g n a:Nat}{e:TypeId}{xs:List Value}(h:w.ownsRow base e 1 (.slice (some ⟨g,0,none⟩) n a) n xs)(m:n+1<=a):∃y,w.ownsRow base e 1 (.slice (some ⟨g,0,none⟩) (n+1) a) (n+1) (xs++[y]):=by
 obtain⟨p,j⟩:=h;rcases j with⟨d,_⟩|⟨s,f,cur,d,l,o,t,q,r,i⟩
 ·cases d
 injection d with b _ k
 injection b with b
 injection b with b
 subst b k;have c:n<cur.toList.length:=by rw[Sd];omega
 refine⟨cur.toList[n],by simp[p],.inr ⟨g,a,cur,Z,l,o,m,q,r,?_⟩⟩;rw[ST]at i⊢;rw[Rz c,i]
def gJ{w:World}{g:Nat}{T:TypeId}{u:Value}(h:w.heap[g]? =some (.cells #[u] T (0,0))):w.shape? g=some (T,1)/\(∀i,w.frozen? ⟨g,i,none⟩=false)/\w.cell? ⟨g,0,none⟩=some u/\g<w.heap.size:=by
 refine⟨by unfold World.shape?;rw[h];rfl,λi=>by unfold World.frozen?;simp[h],?_,(RQ.1 h).1⟩;have:=IsBlk.cell (w:=w) (g:=g) (t:=T) (cs:=#[u]) h 0;simpa using this
def o6{w:World}{base g n a:Nat}{e:TypeId}{xs:List Value}(h:w.ownsRow base e 1 (.slice (some ⟨g,0,none⟩) n a) n xs):w.shape? g=some (e,a)/\g<w.heap.size/\n<=a/\a<=9223372036854775807/\∀j,j<a->(w.cell? ⟨g,j,none⟩).isSome=true:=by
 obtain⟨s,i⟩:=h;rcases i with⟨d,_⟩|⟨p,f,cur,d,q,c,m,l,o,u⟩
 ·cases d
 injection d with b _ k
 injection b with b
 injection b with b
 subst b k;refine⟨by unfold World.shape?;rw[c];simp[o],(RQ.1 c).1,m,by unfold maxLen at l;omega,λj r=>?_⟩;have:=IsBlk.cell (w:=w) (g:=g) (t:=e) (cs:=cur) c j;rw[this,RN O];rfl
def yr{w:World}{base g n b sz i:Nat}{e:TypeId}{xs:List Value}(h:w.ownsRow base e sz (.slice (some ⟨g,0,none⟩) n b) n xs)(l:NoDigB w g){u:Value}(m:bR u=true):NoDigB (w.setCell ⟨g,i,none⟩ u) g:=by
 rcases h.2 with⟨d,_⟩|⟨p,f,cur,d,q,j,_⟩
 ·cases d
 injection d with a _ _
 injection a with a
 injection a with a
 subst a;have k:=oO j l;refine cU (c:=cur.setIfInBounds i u) (e:=e) (fr:=(0,0)) (by simp[World.setCell,SX,j]) ?_;rw[S3];refine Rl.2 λx o=>?_
 rcases TS o with h|rfl
 ·exact Rl.1 k x h
 exact m
def gt{base g n a sz:Nat}{e:TypeId}:∀(vs:List Value) (o:Nat) (w:World) (xs:List Value),w.ownsRow base e sz (.slice (some ⟨g,0,none⟩) n a) n xs->NoDigB w g->vs.all bR=true->NoDigB (w.setCells g o vs) g
 |[],_,_,_,_,h,_=>h
 |v::r,o,w,xs,ho,h,hv=>by
  simp only[SJ,Q9]at hv;exact gt r (o+1) _ _ (j1 ho v) (yr ho h hv.1) hv.2
def mv{w:World}{base g n a:Nat}{e:TypeId}{xs:List Value}(h:w.ownsRow base e 1 (.slice (some ⟨g,0,none⟩) n a) n xs)(b:NoDigB w g):xs.all bR=true:=Rl.2 λu d=>by
 obtain⟨j,c,rfl⟩:=Sl d;refine b j _ ?_;have:=World.ownsRow.cells h (g:=g) Z j _ (Q2 c);rwa[py]at this
def nA{l:List Value}(h:l.all bR=true)(n:Nat):(l.drop n).all bR=true:=Rl.2 λx a=>Rl.1 h x (Sf a)
def sJ{w w':World}{r:Option Nat}(a:Below w.heap.size w w'):w.grownBy w' r:=⟨a.os,a.tape,a.output,a.size,λk b _=>a.block k b⟩
def vM{w w':World}{row:Option Nat}(h:w.grownBy w' row):w.grownBy w'.drew row:=⟨h.os,h.tape,h.output,h.size,h.block⟩
def hO{w:World}{g:Nat}:∀(vs:List Value) (o:Nat) {W:World},w.grownBy W (some g)->w.grownBy (W.setCells g o vs) (some g)
 |[],_,_,h=>h
 |v::r,o,_,h=>hO r (o+1) (h.trans ⟨Z,Z,Z,by simp[World.setCell],λk _ a=>by
   simp only[World.setCell];rw[SX,if_neg (λe=>a (by rw[e]))]⟩)
def tr(xs:List Value)(y u:Value){n i:Nat}(g:xs.length=n)(f:i<n):sI (sI (xs++[y]) (i+1) (xs.drop i)) i [u]=xs.take i++[u]++xs.drop i:=by
 have e:xs++[y]=xs.take (i+1)++(xs.drop (i+1)++[y])++[]:=by rw[RP,<-RL,R3]
 have a:(xs.take (i+1)).length=i+1:=by rw[Rb];omega
 have c:=kZ (xs.drop i) (xs.take (i+1)) (xs.drop (i+1)++[y]) [] (by simp;omega);rw[a]at c;rw[e,c,RP,Rz O];have b:(xs.take i).length=i:=by rw[Rb];omega
 have d:=kZ [u] (xs.take i) [xs[i]'O] (xs.drop i) Z;rw[b]at d;exact d
def vN(xs a:List Value)(u:Value){n i:Nat}(f:xs.length=n)(g:a.length=n+1-i)(e:i<n):sI (sI (xs.take i++a) i [u]) (i+1) (xs.drop i)=xs.take i++[u]++xs.drop i:=by
 have b:(xs.take i).length=i:=by rw[Rb];omega
 have d:xs.take i++a=xs.take i++a.take 1++a.drop 1:=by rw[RL,R3]
 have c:=kZ [u] (xs.take i) (a.take 1) (a.drop 1) (by simp;omega);rw[b]at c;rw[d,c];have h:=kZ (xs.drop i) (xs.take i++[u]) (a.drop 1) [] (by simp;omega);rw[RP,RP,Q4,b]at h;exact h
def fl(k:Nat):(Builtin.zeroCells (Value.slice none 0 0).cells k).size=k:=by simp[Builtin.zeroCells,Value.cells]
def kg{w:World}{b d sz n:Nat}{e:TypeId}{v:Value}{xs:List Value}(h:w.ownsRow d e sz v n xs)(f:b<=d):w.ownsRow b e sz v n xs:=by
 refine⟨h.1,?_⟩;rcases h.2 with j|⟨g,c,cur,k,i,a⟩
 ·exact .inl j
 exact .inr ⟨g,c,cur,k,Q7 f i,a⟩
def Kf:(prog.info? 23).map (λi=>(i.zero,i.size,i.bytes))=some (some (.slice none 0 0),1,24):=U
def PI(base n p:Nat)(v u:Value)(T:TypeId)(xs:List Value)(w:World)(b:w.ownsRow base 23 1 v n xs)(s:w.heap[p]? =some (.cells #[u] T (0,0)))(H:u.oneCell'=true)(N:bR u=true)(S:∀g,v.ownBlock=some g->NoDigB w g)(hn:n<=65536)(c:base<=w.heap.size):
  Calls prog 127 #[v,.int .i64 n,.slice (some ⟨p,0,none⟩) 1 1] w (BS w base 23 v n (xs++[u])):=by
 obtain⟨i0,B,D,E,F⟩:=info_parts Kf;obtain⟨_,_,t,Q⟩:=gJ s;have L:At w w.heap.size (some ⟨p,0,none⟩) [u]:=λ_=>⟨p,0,Z,Q,λj x m=>by
  cases j with
  |zero=>simp at m;subst m;exact t
  |succ j=>simp at m⟩
 have HO:=J b;obtain⟨f,o,d,C,A,r,z⟩:∃f o,(∀ty,(Builtin.append_ #[98,98] ty #[v,.slice (some ⟨p,0,none⟩) 1 1]).run prog w=.ok f o)/\o.ownsRow base 23 1 f (n+1) (xs++[u])/\w.grownBy o v.ownBlock/\(f.ownBlock=v.ownBlock\/f.ownBlock=some w.heap.size)/\∀g,f.ownBlock=some g->NoDigB o g:=by
  have V:=λty=>mU (P:=prog) w base 98 ty 23 i0 (.slice none 0 0) 1 24 underlying98 B D E F Z I v n xs b (some ⟨p,0,none⟩) 1 1 [u] Z (λe=>by cases e) (λa K j x m=>by
   injection K with K
   subst K;cases j with
   |zero=>simp at m;subst m;exact t
   |succ j=>simp at m) (λy hy=>by rw[Rs.1 hy];exact H) (by unfold maxLen;omega) O c I (by simp[N]) S
  obtain⟨f,o,W,X⟩:=V 98;refine⟨f,o,λty=>?_,X⟩;obtain⟨v3,w3,h3,h4⟩:=V ty;exact W
 have l:=J C;have k:=J A;have h:=J r;have i:=J z;have G:=J d;clear d C A r z S B D E F;clear L;rcases b.2 with⟨rfl,R⟩|⟨g,q,cur,rfl,Y,hg,a1,U,hs,ht⟩
 ·subst R;clear b c
  go_enter func127,ntmps127
  go_wp2_with (at_builtin;refine Lib.wpList_append_run _ Z _ _ _ _ Z _ _ Z Z _ _ (G.out _) ?_)
  go_ret
  exact⟨_,Z,l.out,k.out,h.out,i.out⟩
 have a0:q<=9223372036854775807:=by unfold maxLen at U;omega
 clear b c hg hs ht Y U;by_cases M:q=n
 ·subst M
  go_enter func127,ntmps127
  go_wp2_with (at_builtin;refine Lib.wpList_append_run _ Z _ _ _ _ Z _ _ Z Z _ _ (G.out _) ?_)
  go_ret
  exact⟨_,Z,l.out,k.out,h.out,i.out⟩
 go_enter func127,ntmps127
 go_wp2_with (at_builtin;refine Lib.wpList_append_run _ Z _ _ _ _ Z _ _ Z Z _ _ (G.out _) ?_)
 go_ret
 exact⟨_,Z,l.out,k.out,h.out,i.out⟩
def Ej(w:World)(b n i c:Nat)(a:List Value)(F:i<n)(D:n<=c)(s:c<n+1)(G:n<=65536)(h:a.length=i)(p:∀j u,a[j]? =some u->w.cell? ⟨b,j,none⟩=some u)(q:a.all bR=true):
  ∃d o B,NoDigB o w.heap.size/\(∀ty,(Builtin.append_ #[98,3] ty #[.slice (some ⟨b,0,none⟩) i c,.int .i64 ((n+1-i:Nat):Int)]).run prog w=.ok (.slice (some ⟨w.heap.size,0,none⟩) (n+1) d) o)/\o.ownsRow w.heap.size 23 1 (.slice (some ⟨w.heap.size,0,none⟩) (n+1) d) (n+1) (a++B)/\B.length=n+1-i/\Below w.heap.size w o/\n+1<=d/\d<=9223372036854775807:=by
 obtain⟨A,r,t,x,m⟩:=info_parts Kf;have l:(Builtin.firstCells A.size i (.slice (some ⟨b,0,none⟩) i c)).run prog w.drew=.ok a.toArray w.drew:=by
  rw[x];exact run_firstCells_some w.drew 1 i ⟨b,0,none⟩ i c a O (λj v C=>by rw[py];exact p j v C)
 have g:=grownCap_ge w (i+(n+1-i)) c 23;have f:=grownCap_le_maxLen w (i+(n+1-i)) c 23 (by unfold maxLen;omega);have y:=λty=>Lib.run_append_grow_zeros w 98 3 ty 23 A _ .i64 .i64 underlying98 underlying3 r t (some ⟨b,0,none⟩) i c a l (n+1-i) O O O O (by rw[m];omega) (by rw[m];exact growslice_fits O O)
 rw[show i+(n+1-i)=n+1 by omega]at y g f;refine⟨_,_,(Builtin.zeroCells (Value.slice none 0 0).cells (n+1-i)).toList,?_,y,⟨?_,.inr ⟨_,_,_,Z,Q3 _,heap_alloc_new _ _,g,f,?_,?_⟩⟩,?_,((Below.refl _ _).drew).alloc (Q3 _) _,g,by unfold maxLen at f;omega⟩
 ·refine cU (heap_alloc_new _ _) ?_;have E:=λk=>jz (z:=Value.slice none 0 0) I k
  simp only[SE,S9,q,E,Vs]
 ·rw[Q4,h,Sd,fl];omega
 ·rw[TP,TP,fl,fl,Us,h];omega
 ·have e:(a++(Builtin.zeroCells (Value.slice none 0 0).cells (n+1-i)).toList).length=(n+1)*1:=by rw[Q4,h,Sd,fl];omega
  rw[SE,SE,T9 (Tf e.symm)];exact Rf (Tf e)
 rw[Sd,fl]
def PJ(base n i K g b:Nat)(u:Value)(T:TypeId)(xs:List Value)(w:World)(c:w.ownsRow base 23 1 (.slice (some ⟨g,0,none⟩) n b) n xs)(B:w.heap[K]? =some (.cells #[u] T (0,0)))(L:u.oneCell'=true)(V:bR u=true)(hd:NoDigB w g)(M:∀x∈xs,x.oneCell'=true)(hi:i<n)(hn:n<=65536)(t:b<n+1)(r:base<=w.heap.size):
  Calls prog 127 #[.slice (some ⟨g,0,none⟩) n b,.int .i64 i,.slice (some ⟨K,0,none⟩) 1 1] w (BS w base 23 (.slice (some ⟨g,0,none⟩) n b) n (xs.take i++[u]++xs.drop i)):=by
 obtain⟨_,Y,a0,b5,_⟩:=o6 c;obtain⟨_,_,S,a1⟩:=gJ B;have C:xs.length=n:=by have:=c.1;omega
 have E:∀j x,xs[j]? =some x->w.cell? ⟨g,j,none⟩=some x:=λj x e=>by
  have:=World.ownsRow.cells c (g:=g) Z j x e;rw[py]at this;exact this
 obtain⟨f,l,zs,X,H,d,a2,z,b3,b4⟩:=Ej w g n i b (xs.take i) hi a0 t hn (by rw[Rb];omega) (λj u e=>by
  rw[R7]at e;split at e
  ·exact E j u e
  cases e) (mT (mv c hd) i)
 rw[show((n+1-i:Nat):Int)=(n:Int)+1-(i:Int) by omega]at H;have c0:IntKind.i64.wrap ((i:Int)+1)=(i:Int)+1:=by rw[RZ];omega
 have a5:(0:Int)<=(i:Int)+1:=O
 have a9:((i:Int)+1).toNat=i+1:=O
 have b0:(i:Int)<=(n:Int):=O
 have a3:(i:Int)<=(b:Int):=O
 have b1:¬((i:Int)=(n:Int)):=O
 have b2:(b:Int)<(n:Int)+1:=O
 have J:(xs.drop i).length=(n-i)*1:=by rw[Rm,C];omega
 have I:(prog.info? 23).map (·.size)=some 1:=U
 have h:∀ty o,(Builtin.copy_ #[98,98] ty #[.slice (some ⟨w.heap.size,i,none⟩) (n+1-i) o,.slice (some ⟨K,0,none⟩) 1 1]).run prog l=.ok (goInt (Nat.min 1 (n+1-i))) (l.setCells w.heap.size i [u]):=λty o=>
  eo l _ _ ty 23 w.heap.size i (n+1-i) o 1 ⟨K,0,none⟩ 1 1 [u] underlying98 I (by rw[show Nat.min 1 (n+1-i)=1 from SD O];rfl)
   (λj v e=>by
    cases j with
    |zero=>simp at e;subst e;rw[Addr.add_lit];exact(z.cell (p:=⟨K,0+0,none⟩) a1).trans S
    |succ j=>simp at e)
   (λj e=>hH d (by simp at e;omega)) (λj e=>d6 d _) (λy hy=>by rw[Rs.1 hy];exact L)
 have a:=cY [u] i l _ d;have k:=gt [u] i l _ d X (by simp[V]);have F:=nA (mv c hd) i;have q:Below w.heap.size w (l.setCells w.heap.size i [u]):=fC [u] _ z;obtain⟨m,A⟩:∃m,l.setCells w.heap.size i [u]=m:=⟨_,Z⟩;rw[A]at a q k;simp only[A]at h;have G:Nat.min (n-i) (n-i)=n-i:=VD _;have a4:prog.follows .mixedOrders=true:=U
 have Q:¬(f=i+1):=O
 have R:¬(b=i):=O
 have D:∀(W:World),(∀x,W.cell? x=m.cell? x)->(∀x,W.frozen? x=m.frozen? x)->∀ty o sc,(Builtin.copy_ #[98,98] ty #[.slice (some ⟨w.heap.size,i+1,none⟩) (n-i) o,.slice (some ⟨g,i,none⟩) (n-i) sc]).run prog W=.ok (goInt (Nat.min (n-i) (n-i))) (W.setCells w.heap.size (i+1) (xs.drop i)):=λW hc hf ty o sc=>
  eo W _ _ ty 23 w.heap.size (i+1) (n-i) o 1 ⟨g,i,none⟩ (n-i) sc (xs.drop i) underlying98 I (by rw[G,J])
   (λj v e=>by
    rw[Addr.add_lit,hc];exact(q.cell (p:=⟨g,i+j,none⟩) Y).trans (E _ v (by rwa[Si]at e)))
   (λj e=>by rw[hc];exact hH a O) (λj e=>by rw[hf];exact d6 a _) (λv hv=>M v (Sf hv))
 clear c
 go_enter func127,ntmps127
 go_wp2_with (first
  |(at_builtin;refine Lib.wpList_append_run _ Z _ _ _ _ Z _ _ Z Z _ _ (H _) ?_)
  |(at_builtin;refine wpList_copy_runI _ Z _ _ 98 98 Z _ _ Z Z (h _ _) ?_))
 go_region_law_o (refine step_copy_runI Z _ _ 98 98 Z (.slice (some ⟨w.heap.size,i+1,none⟩) (n-i) (f-(i+1))) (.slice (some ⟨g,i,none⟩) (n-i) (b-i)) (by simp[Act.eval,Act.put,Q]) (by simp[Act.eval,Act.put,R]) (D m.drew (λ_=>rfl) (λ_=>rfl) 3 (f-(i+1)) (b-i)) ?_)
 go_wp2
 go_ret
 have h9:=cY (xs.drop i) (i+1) m.drew (sI (xs.take i++zs) i [u]) a;rw[vN xs zs u C a2 hi]at h9;have N:=fC (xs.drop i) (i+1) q.drew;have P:=gt (xs.drop i) (i+1) m.drew _ a (k.of Z) F;exact⟨_,Z,kg h9 r,sJ N,.inr Z,λg' s=>by injection s with s;subst s;exact P⟩
def PK(base n i l g b:Nat)(u:Value)(T:TypeId)(xs:List Value)(w:World)(a:w.ownsRow base 23 1 (.slice (some ⟨g,0,none⟩) n b) n xs)(z:w.heap[l]? =some (.cells #[u] T (0,0)))(D:g≠l)(H:u.oneCell'=true)(V:bR u=true)(hd:NoDigB w g)(I:∀x∈xs,x.oneCell'=true)(hi:i<n)(hn:n<=65536)(r:n+1<=b)(P:base<=w.heap.size):
  Calls prog 127 #[.slice (some ⟨g,0,none⟩) n b,.int .i64 i,.slice (some ⟨l,0,none⟩) 1 1] w (BS w base 23 (.slice (some ⟨g,0,none⟩) n b) n (xs.take i++[u]++xs.drop i)):=by
 obtain⟨a0,c0,c1,b5,s⟩:=o6 a;obtain⟨a1,C,R,a2⟩:=gJ z;have A:xs.length=n:=by have:=a.1;omega
 have Q:∀j x,xs[j]? =some x->w.cell? ⟨g,j,none⟩=some x:=λj x f=>by
  have:=World.ownsRow.cells a (g:=g) Z j x f;rw[py]at this;exact this
 have W:=d6 a;obtain⟨y,d⟩:=rg a r;have E:(prog.info? 23).map (·.size)=some 1:=U
 have F:∀w,(Go.sizeOf 23).run prog w=.ok 1 w:=λw=>by
  obtain⟨i0,X,_,a3,_⟩:=info_parts Kf;simp[sizeOf,typeInfo,X,a3]
 have Y:∀lb G,(callFunc 189 #[.slice (some ⟨l,0,none⟩) 1 1,.slice (some ⟨g,i+1,none⟩) lb G]).run prog w=.ok (.value (.bool false)) w:=λlb G=>by
  rw[run_callFunc_extern func189 U U U (e:=Extern.SlicesOverlaps.overlaps #[98,98] #[4]) U,
   Lib.run_overlaps_apart w 98 4 23 underlying98 1 F ⟨l,0,none⟩ ⟨g,i+1,none⟩ 1 1 lb G (λe=>D e.symm) T 23 1 b a1 a0 O (C 0) (C 1)]
  rfl
 have c2:IntKind.i64.wrap ((i:Int)+1)=(i:Int)+1:=by rw[RZ];omega
 have a9:(0:Int)<=(i:Int)+1:=O
 have b0:((i:Int)+1).toNat=i+1:=O
 have b1:(i:Int)<=(n:Int):=O
 have a4:(i:Int)<=(b:Int):=O
 have L:(i:Int)<=(n:Int)+1:=O
 have b2:¬((i:Int)=(n:Int)):=O
 have b3:¬((b:Int)<(n:Int)+1):=O
 have M:¬(b=i+1):=O
 have N:¬(b=i):=O
 have b4:(n:Int)+1<=(b:Int):=O
 have S:(xs.drop i).length=n-i:=by rw[Rm,A]
 have a5:prog.follows .mixedOrders=true:=U
 have h:∀ty o sc,(Builtin.copy_ #[98,98] ty #[.slice (some ⟨g,i+1,none⟩) (n-i) o,.slice (some ⟨g,i,none⟩) (n+1-i) sc]).run prog w.drew=.ok (goInt (Nat.min (n+1-i) (n-i))) (w.drew.setCells g (i+1) (xs.drop i)):=λty o sc=>
  eo w.drew _ _ ty 23 g (i+1) (n-i) o 1 ⟨g,i,none⟩ (n+1-i) sc (xs.drop i) underlying98 E (by rw[S,show Nat.min (n+1-i) (n-i)=n-i from Nat.min_eq_right O];omega)
   (λj v f=>by rw[Addr.add_lit];exact Q (i+j) v (by rwa[Si]at f))
   (λj f=>s _ O) (λj f=>W _) (λv hv=>I v (Sf hv))
 have c:=cY (xs.drop i) (i+1) w.drew _ (eF d ((Below.refl _ _).drew));have k:=gt (xs.drop i) (i+1) w.drew _ (eF d ((Below.refl _ _).drew)) (hd.of Z) (nA (mv a hd) i);have p:w.grownBy (w.drew.setCells g (i+1) (xs.drop i)) (some g):=hO _ _ (vM (World.grownBy.refl _ _));obtain⟨m,t⟩:∃m,w.drew.setCells g (i+1) (xs.drop i)=m:=⟨_,Z⟩;rw[t]at c p k;simp only[t]at h;have B:∀ty o,(Builtin.copy_ #[98,98] ty #[.slice (some ⟨g,i,none⟩) (n+1-i) o,.slice (some ⟨l,0,none⟩) 1 1]).run prog m=.ok (goInt (Nat.min 1 (n+1-i))) (m.setCells g i [u]):=λty o=>
  eo m _ _ ty 23 g i (n+1-i) o 1 ⟨l,0,none⟩ 1 1 [u] underlying98 E (by rw[show Nat.min 1 (n+1-i)=1 from SD O];rfl)
   (λj v f=>by
    cases j with
    |zero=>simp at f;subst f;rw[Addr.add_lit];exact(World.cell?_of_block (p.block l a2 λe=>D (by injection e with e;exact e.symm))).trans R
    |succ j=>simp at f)
   (λj f=>hH c (by simp at f;omega)) (λj f=>d6 c _) (λy hy=>by rw[Rs.1 hy];exact H)
 have HO:=J a;clear a d
 go_enter func127,ntmps127
 go_wp2_with (simp only[Y])
 go_region_law_o (refine step_copy_runI Z _ _ 98 98 Z (.slice (some ⟨g,i+1,none⟩) (n-i) (b-(i+1))) (.slice (some ⟨g,i,none⟩) (n+1-i) (b-i)) (by simp[Act.eval,Act.put,M]) (by simp[Act.eval,Act.put,N]) (h _ _ _) ?_)
 go_wp2_with (at_builtin;refine wpList_copy_runI _ Z _ _ 98 98 Z _ _ Z Z (B _ _) ?_)
 go_ret
 have h9:=cY [u] i m _ c;rw[tr xs y u A hi]at h9;have K:=gt [u] i m _ c k (by simp[V]);exact⟨_,Z,h9,hO _ _ p,.inl Z,λg' q=>by injection q with q;subst q;exact K⟩
def PL(base n i j:Nat)(v u:Value)(T:TypeId)(xs:List Value)(w:World)(a:w.ownsRow base 23 1 v n xs)(c:w.heap[j]? =some (.cells #[u] T (0,0)))(q:v.ownBlock≠some j)(f:u.oneCell'=true)(h:bR u=true)(o:∀g,v.ownBlock=some g->NoDigB w g)(k:∀x∈xs,x.oneCell'=true)(t:i<=n)(p:n<=65536)(b:base<=w.heap.size):
  Calls prog 127 #[v,.int .i64 i,.slice (some ⟨j,0,none⟩) 1 1] w (BS w base 23 v n (xs.take i++[u]++xs.drop i)):=by
 have y:=a.1;rcases RE i n with l|r
 ·rcases a.2 with⟨rfl,s⟩|⟨g,d,cur,rfl,_⟩
  ·omega
  rcases RE d (n+1)with m|m
  ·exact PJ base n i j g d u T xs w a c f h (o g Z) k l p m b
  exact PK base n i j g d u T xs w a c (λe=>q (by rw[<-e];rfl)) f h (o g Z) k l p m b
 obtain rfl:i=n:=O
 rw[Rf O,Rc O,RP];exact PI base i j v u T xs w a c f h o p b
def Kg:(prog.info? 61).map (λi=>(i.zero,i.size,i.bytes))=some (some (.slice none 0 0),1,24):=U
def PM(base n p:Nat)(v u:Value)(T:TypeId)(xs:List Value)(w:World)(b:w.ownsRow base 61 1 v n xs)(s:w.heap[p]? =some (.cells #[u] T (0,0)))(H:u.oneCell'=true)(N:bR u=true)(S:∀g,v.ownBlock=some g->NoDigB w g)(hn:n<=65536)(c:base<=w.heap.size):
  Calls prog 128 #[v,.int .i64 n,.slice (some ⟨p,0,none⟩) 1 1] w (BS w base 61 v n (xs++[u])):=by
 obtain⟨i0,B,D,E,F⟩:=info_parts Kg;obtain⟨_,_,t,Q⟩:=gJ s;have L:At w w.heap.size (some ⟨p,0,none⟩) [u]:=λ_=>⟨p,0,Z,Q,λj x m=>by
  cases j with
  |zero=>simp at m;subst m;exact t
  |succ j=>simp at m⟩
 have HO:=J b;obtain⟨f,o,d,C,A,r,z⟩:∃f o,(∀ty,(Builtin.append_ #[151,151] ty #[v,.slice (some ⟨p,0,none⟩) 1 1]).run prog w=.ok f o)/\o.ownsRow base 61 1 f (n+1) (xs++[u])/\w.grownBy o v.ownBlock/\(f.ownBlock=v.ownBlock\/f.ownBlock=some w.heap.size)/\∀g,f.ownBlock=some g->NoDigB o g:=by
  have V:=λty=>mU (P:=prog) w base 151 ty 61 i0 (.slice none 0 0) 1 24 underlying151 B D E F Z I v n xs b (some ⟨p,0,none⟩) 1 1 [u] Z (λe=>by cases e) (λa K j x m=>by
   injection K with K
   subst K;cases j with
   |zero=>simp at m;subst m;exact t
   |succ j=>simp at m) (λy hy=>by rw[Rs.1 hy];exact H) (by unfold maxLen;omega) O c I (by simp[N]) S
  obtain⟨f,o,W,X⟩:=V 151;refine⟨f,o,λty=>?_,X⟩;obtain⟨v3,w3,h3,h4⟩:=V ty;exact W
 have l:=J C;have k:=J A;have h:=J r;have i:=J z;have G:=J d;clear d C A r z S B D E F;clear L;rcases b.2 with⟨rfl,R⟩|⟨g,q,cur,rfl,Y,hg,a1,U,hs,ht⟩
 ·subst R;clear b c
  go_enter func128,ntmps128
  go_wp2_with (at_builtin;refine Lib.wpList_append_run _ Z _ _ _ _ Z _ _ Z Z _ _ (G.out _) ?_)
  go_ret
  exact⟨_,Z,l.out,k.out,h.out,i.out⟩
 have a0:q<=9223372036854775807:=by unfold maxLen at U;omega
 clear b c hg hs ht Y U;by_cases M:q=n
 ·subst M
  go_enter func128,ntmps128
  go_wp2_with (at_builtin;refine Lib.wpList_append_run _ Z _ _ _ _ Z _ _ Z Z _ _ (G.out _) ?_)
  go_ret
  exact⟨_,Z,l.out,k.out,h.out,i.out⟩
 go_enter func128,ntmps128
 go_wp2_with (at_builtin;refine Lib.wpList_append_run _ Z _ _ _ _ Z _ _ Z Z _ _ (G.out _) ?_)
 go_ret
 exact⟨_,Z,l.out,k.out,h.out,i.out⟩
def Ek(w:World)(b n i c:Nat)(a:List Value)(F:i<n)(D:n<=c)(s:c<n+1)(G:n<=65536)(h:a.length=i)(p:∀j u,a[j]? =some u->w.cell? ⟨b,j,none⟩=some u)(q:a.all bR=true):
  ∃d o B,NoDigB o w.heap.size/\(∀ty,(Builtin.append_ #[151,3] ty #[.slice (some ⟨b,0,none⟩) i c,.int .i64 ((n+1-i:Nat):Int)]).run prog w=.ok (.slice (some ⟨w.heap.size,0,none⟩) (n+1) d) o)/\o.ownsRow w.heap.size 61 1 (.slice (some ⟨w.heap.size,0,none⟩) (n+1) d) (n+1) (a++B)/\B.length=n+1-i/\Below w.heap.size w o/\n+1<=d/\d<=9223372036854775807:=by
 obtain⟨A,r,t,x,m⟩:=info_parts Kg;have l:(Builtin.firstCells A.size i (.slice (some ⟨b,0,none⟩) i c)).run prog w.drew=.ok a.toArray w.drew:=by
  rw[x];exact run_firstCells_some w.drew 1 i ⟨b,0,none⟩ i c a O (λj v C=>by rw[py];exact p j v C)
 have g:=grownCap_ge w (i+(n+1-i)) c 61;have f:=grownCap_le_maxLen w (i+(n+1-i)) c 61 (by unfold maxLen;omega);have y:=λty=>Lib.run_append_grow_zeros w 151 3 ty 61 A _ .i64 .i64 underlying151 underlying3 r t (some ⟨b,0,none⟩) i c a l (n+1-i) O O O O (by rw[m];omega) (by rw[m];exact growslice_fits O O)
 rw[show i+(n+1-i)=n+1 by omega]at y g f;refine⟨_,_,(Builtin.zeroCells (Value.slice none 0 0).cells (n+1-i)).toList,?_,y,⟨?_,.inr ⟨_,_,_,Z,Q3 _,heap_alloc_new _ _,g,f,?_,?_⟩⟩,?_,((Below.refl _ _).drew).alloc (Q3 _) _,g,by unfold maxLen at f;omega⟩
 ·refine cU (heap_alloc_new _ _) ?_;have E:=λk=>jz (z:=Value.slice none 0 0) I k
  simp only[SE,S9,q,E,Vs]
 ·rw[Q4,h,Sd,fl];omega
 ·rw[TP,TP,fl,fl,Us,h];omega
 ·have e:(a++(Builtin.zeroCells (Value.slice none 0 0).cells (n+1-i)).toList).length=(n+1)*1:=by rw[Q4,h,Sd,fl];omega
  rw[SE,SE,T9 (Tf e.symm)];exact Rf (Tf e)
 rw[Sd,fl]
def PN(base n i K g b:Nat)(u:Value)(T:TypeId)(xs:List Value)(w:World)(c:w.ownsRow base 61 1 (.slice (some ⟨g,0,none⟩) n b) n xs)(B:w.heap[K]? =some (.cells #[u] T (0,0)))(L:u.oneCell'=true)(V:bR u=true)(hd:NoDigB w g)(M:∀x∈xs,x.oneCell'=true)(hi:i<n)(hn:n<=65536)(t:b<n+1)(r:base<=w.heap.size):
  Calls prog 128 #[.slice (some ⟨g,0,none⟩) n b,.int .i64 i,.slice (some ⟨K,0,none⟩) 1 1] w (BS w base 61 (.slice (some ⟨g,0,none⟩) n b) n (xs.take i++[u]++xs.drop i)):=by
 obtain⟨_,Y,a0,b5,_⟩:=o6 c;obtain⟨_,_,S,a1⟩:=gJ B;have C:xs.length=n:=by have:=c.1;omega
 have E:∀j x,xs[j]? =some x->w.cell? ⟨g,j,none⟩=some x:=λj x e=>by
  have:=World.ownsRow.cells c (g:=g) Z j x e;rw[py]at this;exact this
 obtain⟨f,l,zs,X,H,d,a2,z,b3,b4⟩:=Ek w g n i b (xs.take i) hi a0 t hn (by rw[Rb];omega) (λj u e=>by
  rw[R7]at e;split at e
  ·exact E j u e
  cases e) (mT (mv c hd) i)
 rw[show((n+1-i:Nat):Int)=(n:Int)+1-(i:Int) by omega]at H;have c0:IntKind.i64.wrap ((i:Int)+1)=(i:Int)+1:=by rw[RZ];omega
 have a5:(0:Int)<=(i:Int)+1:=O
 have a9:((i:Int)+1).toNat=i+1:=O
 have b0:(i:Int)<=(n:Int):=O
 have a3:(i:Int)<=(b:Int):=O
 have b1:¬((i:Int)=(n:Int)):=O
 have b2:(b:Int)<(n:Int)+1:=O
 have J:(xs.drop i).length=(n-i)*1:=by rw[Rm,C];omega
 have I:(prog.info? 61).map (·.size)=some 1:=U
 have h:∀ty o,(Builtin.copy_ #[151,151] ty #[.slice (some ⟨w.heap.size,i,none⟩) (n+1-i) o,.slice (some ⟨K,0,none⟩) 1 1]).run prog l=.ok (goInt (Nat.min 1 (n+1-i))) (l.setCells w.heap.size i [u]):=λty o=>
  eo l _ _ ty 61 w.heap.size i (n+1-i) o 1 ⟨K,0,none⟩ 1 1 [u] underlying151 I (by rw[show Nat.min 1 (n+1-i)=1 from SD O];rfl)
   (λj v e=>by
    cases j with
    |zero=>simp at e;subst e;rw[Addr.add_lit];exact(z.cell (p:=⟨K,0+0,none⟩) a1).trans S
    |succ j=>simp at e)
   (λj e=>hH d (by simp at e;omega)) (λj e=>d6 d _) (λy hy=>by rw[Rs.1 hy];exact L)
 have a:=cY [u] i l _ d;have k:=gt [u] i l _ d X (by simp[V]);have F:=nA (mv c hd) i;have q:Below w.heap.size w (l.setCells w.heap.size i [u]):=fC [u] _ z;obtain⟨m,A⟩:∃m,l.setCells w.heap.size i [u]=m:=⟨_,Z⟩;rw[A]at a q k;simp only[A]at h;have G:Nat.min (n-i) (n-i)=n-i:=VD _;have a4:prog.follows .mixedOrders=true:=U
 have Q:¬(f=i+1):=O
 have R:¬(b=i):=O
 have D:∀(W:World),(∀x,W.cell? x=m.cell? x)->(∀x,W.frozen? x=m.frozen? x)->∀ty o sc,(Builtin.copy_ #[151,151] ty #[.slice (some ⟨w.heap.size,i+1,none⟩) (n-i) o,.slice (some ⟨g,i,none⟩) (n-i) sc]).run prog W=.ok (goInt (Nat.min (n-i) (n-i))) (W.setCells w.heap.size (i+1) (xs.drop i)):=λW hc hf ty o sc=>
  eo W _ _ ty 61 w.heap.size (i+1) (n-i) o 1 ⟨g,i,none⟩ (n-i) sc (xs.drop i) underlying151 I (by rw[G,J])
   (λj v e=>by
    rw[Addr.add_lit,hc];exact(q.cell (p:=⟨g,i+j,none⟩) Y).trans (E _ v (by rwa[Si]at e)))
   (λj e=>by rw[hc];exact hH a O) (λj e=>by rw[hf];exact d6 a _) (λv hv=>M v (Sf hv))
 clear c
 go_enter func128,ntmps128
 go_wp2_with (first
  |(at_builtin;refine Lib.wpList_append_run _ Z _ _ _ _ Z _ _ Z Z _ _ (H _) ?_)
  |(at_builtin;refine wpList_copy_runI _ Z _ _ 151 151 Z _ _ Z Z (h _ _) ?_))
 go_region_law_o (refine step_copy_runI Z _ _ 151 151 Z (.slice (some ⟨w.heap.size,i+1,none⟩) (n-i) (f-(i+1))) (.slice (some ⟨g,i,none⟩) (n-i) (b-i)) (by simp[Act.eval,Act.put,Q]) (by simp[Act.eval,Act.put,R]) (D m.drew (λ_=>rfl) (λ_=>rfl) 3 (f-(i+1)) (b-i)) ?_)
 go_wp2
 go_ret
 have h9:=cY (xs.drop i) (i+1) m.drew (sI (xs.take i++zs) i [u]) a;rw[vN xs zs u C a2 hi]at h9;have N:=fC (xs.drop i) (i+1) q.drew;have P:=gt (xs.drop i) (i+1) m.drew _ a (k.of Z) F;exact⟨_,Z,kg h9 r,sJ N,.inr Z,λg' s=>by injection s with s;subst s;exact P⟩
def PO(base n i l g b:Nat)(u:Value)(T:TypeId)(xs:List Value)(w:World)(a:w.ownsRow base 61 1 (.slice (some ⟨g,0,none⟩) n b) n xs)(z:w.heap[l]? =some (.cells #[u] T (0,0)))(D:g≠l)(H:u.oneCell'=true)(V:bR u=true)(hd:NoDigB w g)(I:∀x∈xs,x.oneCell'=true)(hi:i<n)(hn:n<=65536)(r:n+1<=b)(P:base<=w.heap.size):
  Calls prog 128 #[.slice (some ⟨g,0,none⟩) n b,.int .i64 i,.slice (some ⟨l,0,none⟩) 1 1] w (BS w base 61 (.slice (some ⟨g,0,none⟩) n b) n (xs.take i++[u]++xs.drop i)):=by
 obtain⟨a0,c0,c1,b5,s⟩:=o6 a;obtain⟨a1,C,R,a2⟩:=gJ z;have A:xs.length=n:=by have:=a.1;omega
 have Q:∀j x,xs[j]? =some x->w.cell? ⟨g,j,none⟩=some x:=λj x f=>by
  have:=World.ownsRow.cells a (g:=g) Z j x f;rw[py]at this;exact this
 have W:=d6 a;obtain⟨y,d⟩:=rg a r;have E:(prog.info? 61).map (·.size)=some 1:=U
 have F:∀w,(Go.sizeOf 61).run prog w=.ok 1 w:=λw=>by
  obtain⟨i0,X,_,a3,_⟩:=info_parts Kg;simp[sizeOf,typeInfo,X,a3]
 have Y:∀lb G,(callFunc 191 #[.slice (some ⟨l,0,none⟩) 1 1,.slice (some ⟨g,i+1,none⟩) lb G]).run prog w=.ok (.value (.bool false)) w:=λlb G=>by
  rw[run_callFunc_extern func191 U U U (e:=Extern.SlicesOverlaps.overlaps #[151,151] #[4]) U,
   Lib.run_overlaps_apart w 151 4 61 underlying151 1 F ⟨l,0,none⟩ ⟨g,i+1,none⟩ 1 1 lb G (λe=>D e.symm) T 61 1 b a1 a0 O (C 0) (C 1)]
  rfl
 have c2:IntKind.i64.wrap ((i:Int)+1)=(i:Int)+1:=by rw[RZ];omega
 have a9:(0:Int)<=(i:Int)+1:=O
 have b0:((i:Int)+1).toNat=i+1:=O
 have b1:(i:Int)<=(n:Int):=O
 have a4:(i:Int)<=(b:Int):=O
 have L:(i:Int)<=(n:Int)+1:=O
 have b2:¬((i:Int)=(n:Int)):=O
 have b3:¬((b:Int)<(n:Int)+1):=O
 have M:¬(b=i+1):=O
 have N:¬(b=i):=O
 have b4:(n:Int)+1<=(b:Int):=O
 have S:(xs.drop i).length=n-i:=by rw[Rm,A]
 have a5:prog.follows .mixedOrders=true:=U
 have h:∀ty o sc,(Builtin.copy_ #[151,151] ty #[.slice (some ⟨g,i+1,none⟩) (n-i) o,.slice (some ⟨g,i,none⟩) (n+1-i) sc]).run prog w.drew=.ok (goInt (Nat.min (n+1-i) (n-i))) (w.drew.setCells g (i+1) (xs.drop i)):=λty o sc=>
  eo w.drew _ _ ty 61 g (i+1) (n-i) o 1 ⟨g,i,none⟩ (n+1-i) sc (xs.drop i) underlying151 E (by rw[S,show Nat.min (n+1-i) (n-i)=n-i from Nat.min_eq_right O];omega)
   (λj v f=>by rw[Addr.add_lit];exact Q (i+j) v (by rwa[Si]at f))
   (λj f=>s _ O) (λj f=>W _) (λv hv=>I v (Sf hv))
 have c:=cY (xs.drop i) (i+1) w.drew _ (eF d ((Below.refl _ _).drew));have k:=gt (xs.drop i) (i+1) w.drew _ (eF d ((Below.refl _ _).drew)) (hd.of Z) (nA (mv a hd) i);have p:w.grownBy (w.drew.setCells g (i+1) (xs.drop i)) (some g):=hO _ _ (vM (World.grownBy.refl _ _));obtain⟨m,t⟩:∃m,w.drew.setCells g (i+1) (xs.drop i)=m:=⟨_,Z⟩;rw[t]at c p k;simp only[t]at h;have B:∀ty o,(Builtin.copy_ #[151,151] ty #[.slice (some ⟨g,i,none⟩) (n+1-i) o,.slice (some ⟨l,0,none⟩) 1 1]).run prog m=.ok (goInt (Nat.min 1 (n+1-i))) (m.setCells g i [u]):=λty o=>
  eo m _ _ ty 61 g i (n+1-i) o 1 ⟨l,0,none⟩ 1 1 [u] underlying151 E (by rw[show Nat.min 1 (n+1-i)=1 from SD O];rfl)
   (λj v f=>by
    cases j with
    |zero=>simp at f;subst f;rw[Addr.add_lit];exact(World.cell?_of_block (p.block l a2 λe=>D (by injection e with e;exact e.symm))).trans R
    |succ j=>simp at f)
   (λj f=>hH c (by simp at f;omega)) (λj f=>d6 c _) (λy hy=>by rw[Rs.1 hy];exact H)
 have HO:=J a;clear a d
 go_enter func128,ntmps128
 go_wp2_with (simp only[Y])
 go_region_law_o (refine step_copy_runI Z _ _ 151 151 Z (.slice (some ⟨g,i+1,none⟩) (n-i) (b-(i+1))) (.slice (some ⟨g,i,none⟩) (n+1-i) (b-i)) (by simp[Act.eval,Act.put,M]) (by simp[Act.eval,Act.put,N]) (h _ _ _) ?_)
 go_wp2_with (at_builtin;refine wpList_copy_runI _ Z _ _ 151 151 Z _ _ Z Z (B _ _) ?_)
 go_ret
 have h9:=cY [u] i m _ c;rw[tr xs y u A hi]at h9;have K:=gt [u] i m _ c k (by simp[V]);exact⟨_,Z,h9,hO _ _ p,.inl Z,λg' q=>by injection q with q;subst q;exact K⟩
def PP(base n i j:Nat)(v u:Value)(T:TypeId)(xs:List Value)(w:World)(a:w.ownsRow base 61 1 v n xs)(c:w.heap[j]? =some (.cells #[u] T (0,0)))(q:v.ownBlock≠some j)(f:u.oneCell'=true)(h:bR u=true)(o:∀g,v.ownBlock=some g->NoDigB w g)(k:∀x∈xs,x.oneCell'=true)(t:i<=n)(p:n<=65536)(b:base<=w.heap.size):
  Calls prog 128 #[v,.int .i64 i,.slice (some ⟨j,0,none⟩) 1 1] w (BS w base 61 v n (xs.take i++[u]++xs.drop i)):=by
 have y:=a.1;rcases RE i n with l|r
 ·rcases a.2 with⟨rfl,s⟩|⟨g,d,cur,rfl,_⟩
  ·omega
  rcases RE d (n+1)with m|m
  ·exact PN base n i j g d u T xs w a c f h (o g Z) k l p m b
  exact PO base n i j g d u T xs w a c (λe=>q (by rw[<-e];rfl)) f h (o g Z) k l p m b
 obtain rfl:i=n:=O
 rw[Rf O,Rc O,RP];exact PM base i j v u T xs w a c f h o p b
def yu(a b:V):iA b a= -iA a b:=JA ..
def ov(a b:V): -1<=iA a b/\iA a b<=1:=DG ..
def ow(a b:V):iA a b=0↔a=b:=by
 unfold iA;rw[Mp];constructor
 ·rintro⟨c,d,e⟩;cases a;cases b;simp only at c d e;rw[c,d,e]
 rintro rfl;exact⟨Z,Z,Z⟩
def BT{a b c:V}(d:iA a b<=0)(e:iA b c<=0):iA a c<=0:=DH _ _ _ _ _ _ _ _ _ d e
def p5:∀l m:List V,-1<=bw l m/\bw l m<=1
 |[],[]=>by simp[bw]
 |[],_::_=>by simp[bw]
 |_::_,[]=>by simp[bw]
 |a::l,b::m=>by
  rw[bw];split
  ·exact p5 l m
  exact ov a b
def rh:∀l m:List V,bw m l= -bw l m
 |[],[]=>rfl
 |[],_::_=>rfl
 |_::_,[]=>rfl
 |a::l,b::m=>by
  rw[bw,bw,yu a b];by_cases h:iA a b=0
  ·rw[if_pos O,if_pos h,rh l m]
  rw[if_neg O,if_neg h]
def o7:∀l m:List V,bw l m=0↔l=m
 |[],[]=>by simp[bw]
 |[],_::_=>by simp[bw]
 |_::_,[]=>by simp[bw]
 |a::l,b::m=>by
  rw[bw];by_cases h:iA a b=0
  ·rw[if_pos h,o7 l m,T4,(ow a b).1 h];simp
  rw[if_neg h,T4];constructor
  ·intro c;exact absurd c h
  rintro⟨c,_⟩;exact absurd ((ow a b).2 c) h
def yv(l:List V):bw l l=0:=(o7 l l).2 Z
def vQ:∀{l m n:List V},bw l m<=0->bw m n<=0->bw l n<=0
 |[],_,[],_,_=>by simp[bw]
 |[],_,_::_,_,_=>by simp[bw]
 |_::_,[],_,h,_=>by simp[bw]at h
 |_::_,_::_,[],_,h=>by simp[bw]at h
 |a::l,b::m,c::n,h1,h2=>by
  rw[bw]at h1 h2⊢;have i:=ov a b;have j:=ov b c;by_cases e:iA a b=0
  ·rw[if_pos e]at h1;have:=(ow a b).1 e;subst this;by_cases d:iA a c=0
   ·rw[if_pos d]at h2⊢;exact vQ h1 h2
   rw[if_neg d]at h2⊢;exact h2
  rw[if_neg e]at h1;by_cases d:iA b c=0
  ·have:=(ow b c).1 d;subst this;rw[if_neg e];exact h1
  rw[if_neg d]at h2;have g:=BT h1 h2;by_cases f:iA a c=0
  ·have:=(ow a c).1 f;subst this;have:=yu a b;omega
  rw[if_neg f];exact g
def lT{l m n:List V}(a:bw l m<0)(b:bw m n<0):bw l n<0:=by
 have c:=vQ (Int.le_of_lt a) (Int.le_of_lt b);by_cases e:bw l n=0
 ·have:=(o7 l n).1 e;subst this;have:=rh l m;omega
 omega
def j7(k:List V):Tree:=.sl (k.map V.tree)
def tu(l:List (List V)):Sized 1 (l.map j7):=Sized.map _ l λ_=>rfl
def PQ(K:List (List V))(k:List V):Prop:=∀(a b:Nat) (x y:List V),a<=b->K[a]? =some x->K[b]? =some y->bw y k<0->bw x k<0
def ri{α:Type}{p:α->Bool}:∀{l:List α} {i:Nat},i<=l.length->(∀a x,a<i->l[a]? =some x->p x=true)->(∀x,l[i]? =some x->p x=false)->(l.takeWhile p).length=i
 |[],i,h,_,_=>by simp at h;simp[h]
 |y::l,0,_,_,h2=>by
  have:=h2 y Z;simp[SA,this]
 |y::l,i+1,h,h1,h2=>by
  have c:=h1 0 y O Z;have d:=ri (p:=p) (l:=l) (i:=i) (by simpa using h) (λa x e b=>h1 (a+1) x O (by simpa using b)) (λx b=>h2 x (by simpa using b));simp[SA,c,d]
def PR{K:List (List V)}{i:Nat}(h:i<K.length):K[i]? =some (K.getD i []):=by grind
def Kh{K:List (List V)}(h:∀x∈K,x.length<=65536)(i:Nat):(K.getD i []).length<=65536:=by grind
def QK{a:Nat}(h:a<9223372036854775808):(Tree.sc (.int .u64 (IntKind.u64.wrap ((a:Nat):Int))))=.sc (.int .u64 ((a:Nat):Int)):=by rw[show IntKind.u64.wrap ((a:Nat):Int)=((a:Nat):Int) by rw[IntKind.wrap_u64];omega]
def QL{a:Nat}(h:a<9223372036854775808):(Tree.sc (.int .i64 (IntKind.i64.wrap ((a:Nat):Int))))=nI a:=by rw[show IntKind.i64.wrap ((a:Nat):Int)=((a:Nat):Int) by rw[RZ];omega]
def MU{x y:Operand}(a:Nat)(w:World):(do eqGuard .shr 36 x y (.int .u64 (a:Nat)) (.int .u64 1);binOp .shr 36 (.int .u64 (a:Nat)) (.int .u64 1):Sem Value).run prog w=.ok (.int .u64 ((a/2:Nat):Int)) w:=by
 simp[eqGuard,binOp,Op.shift,IntKind.bits];exact Uk _ O
def MV{K:List (List V)}{k:List V}{i j:Nat}(l:j<=K.length)(d:i=j)(f:∀a x,a<i->K[a]? =some x->bw x k<0)(g:∀b y,j<=b->K[b]? =some y->¬bw y k<0):ll [nI i,bT ((decide (i<K.length))&&((bw (K.getD i []) k)==0))]=.tup [nI (bU K k),bT ((K[bU K k]?).any λx=>bw x k==0)]:=by
 subst d;have m:bU K k=i:=ri l (λa x h e=>decide_eq_true (f a x h e)) (λx e=>decide_eq_false (g i x (Q3 _) e));rw[m];rcases RE i K.length with c|c
 ·rw[PR c,decide_eq_true c];rfl
 rw[decide_eq_false O,R8 c];rfl
def jT:gQ prog 151=some (61,1):=U
def cf:prog.underlying 3=some (.int .i64):=U
def eX:prog.underlying 36=some (.int .u64):=U
def OP(K:List (List V))(k:List V)(G:K.length<=65536)(v:PQ K k)(u:∀x∈K,x.length<=65536)(z:k.length<=65536):Ct 126 [.sl (K.map j7),.sl (k.map V.tree),.sc (MO 64)] (.tup [nI (bU K k),bT ((K[bU K k]?).any λx=>bw x k==0)]):=by
 refine Ct.of (n:=49) func126 Z Z Z Z Z λw0 G0=>?_
 refine X 2 Z<|C<|M 1 Z (aU Z jT Z)<|Y 1 Z<|X 3 Z<|H<|aB<|aT (λA s=>∃(i:Nat) (j:Nat),(i<=j/\j<=K.length/\(∀a x,a<i->K[a]? =some x->bw x k<0)/\∀b y,j<=b->K[b]? =some y->¬bw y k<0)/\A=j-i/\s=⟨49,[(0,.sl (K.map j7)),(1,.sl (k.map V.tree)),(2,.sc (MO 64)),(6,iT 0),(7,bT false),(8,nI K.length),(9,nI i),(10,nI j)],[],[]⟩) 0 0 ⟨0,K.length,⟨Rg _,Q3 _,λa x D=>O0,λb y o g=>by rw[R8 o]at g;cases g⟩,Z,Z⟩ .rf ?_;rintro A s ⟨i,j,⟨F,q,l,h⟩,rfl,rfl⟩;refine H<|C<|aI 2 Z Z Zy (B (gF i j))<|E<|ay Z (λp=>?_) (λp=>?_)
 ·refine ar<|aB<|C<|a8 2 (i+j) Z Z Zy O0<|M 0 (t:=.sc (.int .u64 ((i+j:Nat):Int))) Z (aj (bp Z cf eX Z) (QK O0))<|M 0 (t:=.sc (.int .u64 (((i+j)/2:Nat):Int))) Z (aC Z Z Z (λw=>MU (i+j) w))<|M 0 (t:=nI ((i+j)/2)) Z (aj (bp Z eX cf Z) (QL O0))<|Y 1 Z<|H ?_;obtain⟨x,d⟩:∃x,K[(i+j)/2]? =some x:=⟨_,Q2 O0⟩;have r:=u x (Q8 d);refine am<|M 3 (t:=.ref [.sl (x.map V.tree)]) Z (aO (j7 x) Z jT Z Z Z (bd (f:=j7) d) (tu _) Z)<|M 2 (t:=iT (bw x k)) Z (BG Z Z (ku _ _ r z) Z Z)<|M 0 (t:=bT (decide ((bw x k)<0))) Z (aC Z Z Z Zy)<|E<|ay Z (λe=>?_) (λe=>?_)
  ·refine am<|a8 1 (((i+j)/2)+1) Z Z Zy O0<|Y 1 Z<|⟨_,_,?_,⟨((i+j)/2)+1,j,?_,Z,Z⟩,.rf⟩
   ·omega
   refine⟨O0,O0,λa y D g=>?_,h⟩;exact v a _ y x O0 g d e
  refine eh 2 Z<|⟨_,_,?_,⟨i,(i+j)/2,?_,Z,Z⟩,.rf⟩
  ·omega
  refine⟨O0,O0,l,λb y o g m=>?_⟩;exact e (v _ b x y o d g m)
 refine aX<|C<|aI 3 Z Z Zy (B (gF i K.length))<|ax 1 Z<|N Z Z Z Z (λc=>au Z Z)<|N Z Z Z Z (λc=>au Z Z)<|N Z Z Z Z (λc=>au Z Z)<|N (t:=.ref [.sl ((K.getD i []).map V.tree)]) Z Z Z Z (λc=>aO (j7 (K.getD i [])) Z jT (if_pos c) (if_pos c) Z (bd (f:=j7) (PR (of_decide_eq_true c))) (tu _) Z)<|N Z Z Z Z (λc=>bi Z (if_pos c) di Z)<|N Z Z Z Z (λc=>au Z Z)<|N Z Z Z Z (λc=>BG Z (if_pos c) (ku _ _ (Kh u i) z) (dN (if_pos c) (dN (if_pos c) Z)) Z)<|N (t:=bT ((bw (K.getD i []) k)==0)) Z Z Z Z (λc=>aC Z (if_pos c) Z (λ_=>rfl))<|M 0 Z (cH Z Z Z Z)<|Y 2 Z<|aQ<|⟨.inr Z,_,.cons Z (.cons Z .nil),MV q O0 l h,Z⟩
