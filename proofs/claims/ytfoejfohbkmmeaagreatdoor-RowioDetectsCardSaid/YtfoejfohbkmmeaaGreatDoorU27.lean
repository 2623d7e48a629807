import Derived.Test.YtfoejfohbkmmeaaGreatDoorU26
import Derived.Lib.Overlaps
import Derived.Test.YtfoejfohbkmmeaaGreatDoorU00
import Derived.Test.YtfoejfohbkmmeaaGreatDoorU18
set_option maxRecDepth 100000
set_option maxHeartbeats 4000000
namespace Go.Proofs.YtfoejfohbkmmeaaGreatDoor
open Go.RowKit
open Lib renaming hid→J
def xR(w:World)(base:Nat)(E:TypeId)(v:Value)(n:Nat)(ys:List Value)(e:Ending)(w':World):Prop:=∃v',e=.returned v'/\w'.ownsRow base E 1 v' (n+1) ys/\w.grownBy w' v.ownBlock/\(v'.ownBlock=v.ownBlock\/v'.ownBlock=some w.heap.size)/\∀g,v'.ownBlock=some g->NoDigB w' g
theorem m5(g j:Nat):(⟨g,0,none⟩:Addr).add j=⟨g,j,none⟩:=by rw[Addr.add_lit];simp
theorem oT{w:World}{base g n a:Nat}{e:TypeId}{xs:List Value}(h:w.ownsRow base e 1 (.slice (some ⟨g,0,none⟩) n a) n xs)(m:n+1<=a):∃y,w.ownsRow base e 1 (.slice (some ⟨g,0,none⟩) (n+1) a) (n+1) (xs++[y]):=by
 obtain⟨j,r⟩:=h;rcases r with⟨c,_⟩|⟨t,i,cur,c,k,o,s,p,q,f⟩
 ·cases c
 injection c with b _ l
 injection b with b
 injection b with b
 subst b l;have d:n<cur.toList.length:=by rw[M7];omega
 refine⟨cur.toList[n],by simp[j],.inr ⟨g,a,cur,Z,k,o,m,p,q,?_⟩⟩;rw[Oh]at f⊢;rw[Mq d,f]
theorem fB{w:World}{g:Nat}{T:TypeId}{u:Value}(h:w.heap[g]? =some (.cells #[u] T (0,0))):w.shape? g=some (T,1)/\(∀i,w.frozen? ⟨g,i,none⟩=false)/\w.cell? ⟨g,0,none⟩=some u/\g<w.heap.size:=by
 refine⟨by unfold World.shape?;rw[h];rfl,fun i=>by unfold World.frozen?;simp[h],?_,(ML.1 h).1⟩;have:=IsBlk.cell (w:=w) (g:=g) (t:=T) (cs:=#[u]) h 0;simpa using this
theorem mQ{w:World}{base g n a:Nat}{e:TypeId}{xs:List Value}(h:w.ownsRow base e 1 (.slice (some ⟨g,0,none⟩) n a) n xs):w.shape? g=some (e,a)/\g<w.heap.size/\n<=a/\a<=9223372036854775807/\∀j,j<a->(w.cell? ⟨g,j,none⟩).isSome=true:=by
 obtain⟨p,o⟩:=h;rcases o with⟨c,_⟩|⟨s,f,cur,c,q,d,i,l,m,r⟩
 ·cases c
 injection c with b _ k
 injection b with b
 injection b with b
 subst b k;refine⟨by unfold World.shape?;rw[d];simp[m],(ML.1 d).1,i,by unfold maxLen at l;omega,fun j u=>?_⟩;have:=IsBlk.cell (w:=w) (g:=g) (t:=e) (cs:=cur) d j;rw[this,MH (by omega)];rfl
theorem uz{w:World}{base g n d sz i:Nat}{e:TypeId}{xs:List Value}(h:w.ownsRow base e sz (.slice (some ⟨g,0,none⟩) n d) n xs)(o:NoDigB w g){u:Value}(l:bL u=true):NoDigB (w.setCell ⟨g,i,none⟩ u) g:=by
 rcases h.2 with⟨b,_⟩|⟨q,j,cur,b,p,f,_⟩
 ·cases b
 injection b with a _ _
 injection a with a
 injection a with a
 subst a;have k:=my f o;refine cI (c:=cur.setIfInBounds i u) (e:=e) (fr:=(0,0)) (by simp[World.setCell,NJ,f]) ?_;rw[NQ];refine Mh.2 fun x m=>?_
 rcases OH m with h|rfl
 ·exact Mh.1 k x h
 exact l
theorem fp{base g n a sz:Nat}{e:TypeId}:∀(vs:List Value) (o:Nat) (w:World) (xs:List Value),w.ownsRow base e sz (.slice (some ⟨g,0,none⟩) n a) n xs->NoDigB w g->vs.all bL=true->NoDigB (w.setCells g o vs) g
 |[],_,_,_,_,h,_=>h
 |v::r,o,w,xs,ho,h,hv=>by
  simp only[NP,Ma]at hv;exact fp r (o+1) _ _ (iR ho v) (uz ho h hv.1) hv.2
theorem kH{w:World}{base g n a:Nat}{e:TypeId}{xs:List Value}(h:w.ownsRow base e 1 (.slice (some ⟨g,0,none⟩) n a) n xs)(d:NoDigB w g):xs.all bL=true:=Mh.2 fun u b=>by
 obtain⟨j,c,rfl⟩:=Nb b;refine d j _ ?_;have:=World.ownsRow.cells h (g:=g) Z j _ (L4 c);rwa[m5]at this
theorem lq{l:List Value}(h:l.all bL=true)(n:Nat):(l.drop n).all bL=true:=Mh.2 fun x a=>Mh.1 h x (M2 a)
theorem pQ{w w':World}{r:Option Nat}(a:Below w.heap.size w w'):w.grownBy w' r:=⟨a.os,a.tape,a.output,a.size,fun k b _=>a.block k b⟩
theorem sH{w w':World}{row:Option Nat}(h:w.grownBy w' row):w.grownBy w'.drew row:=⟨h.os,h.tape,h.output,h.size,h.block⟩
theorem fP{w:World}{g:Nat}:∀(vs:List Value) (o:Nat) {W:World},w.grownBy W (some g)->w.grownBy (W.setCells g o vs) (some g)
 |[],_,_,h=>h
 |v::r,o,_,h=>fP r (o+1) (h.trans ⟨Z,Z,Z,by simp[World.setCell],fun k _ a=>by
   simp only[World.setCell];rw[NJ,if_neg (fun e=>a (by rw[e]))]⟩)
theorem qm(xs:List Value)(y u:Value){n i:Nat}(f:xs.length=n)(g:i<n):pP (pP (xs++[y]) (i+1) (xs.drop i)) i [u]=xs.take i++[u]++xs.drop i:=by
 have e:xs++[y]=xs.take (i+1)++(xs.drop (i+1)++[y])++[]:=by rw[MA,<-MG,M8]
 have a:(xs.take (i+1)).length=i+1:=by rw[Mf];omega
 have c:=jB (xs.drop i) (xs.take (i+1)) (xs.drop (i+1)++[y]) [] (by simp;omega);rw[a]at c;rw[e,c,MA,Mq (by omega)];have b:(xs.take i).length=i:=by rw[Mf];omega
 have d:=jB [u] (xs.take i) [xs[i]'(by omega)] (xs.drop i) Z;rw[b]at d;exact d
theorem sI(xs a:List Value)(u:Value){n i:Nat}(e:xs.length=n)(g:a.length=n+1-i)(f:i<n):pP (pP (xs.take i++a) i [u]) (i+1) (xs.drop i)=xs.take i++[u]++xs.drop i:=by
 have b:(xs.take i).length=i:=by rw[Mf];omega
 have d:xs.take i++a=xs.take i++a.take 1++a.drop 1:=by rw[MG,M8]
 have c:=jB [u] (xs.take i) (a.take 1) (a.drop 1) (by simp;omega);rw[b]at c;rw[d,c];have h:=jB (xs.drop i) (xs.take i++[u]) (a.drop 1) [] (by simp;omega);rw[MA,MA,Mc,b]at h;exact h
theorem eh(k:Nat):(Builtin.zeroCells (Value.slice none 0 0).cells k).size=k:=by simp[Builtin.zeroCells,Value.cells]
theorem i6{w:World}{b d sz n:Nat}{e:TypeId}{v:Value}{xs:List Value}(h:w.ownsRow d e sz v n xs)(k:b<=d):w.ownsRow b e sz v n xs:=by
 refine⟨h.1,?_⟩;rcases h.2 with f|⟨g,c,cur,i,j,a⟩
 ·exact .inl f
 exact .inr ⟨g,c,cur,i,L6 k j,a⟩
theorem Fh:(Tryz.prog.info? 23).map (fun i=>(i.zero,i.size,i.bytes))=some (some (.slice none 0 0),1,24):=by kernel_rfl
theorem Kp(base n p:Nat)(v u:Value)(T:TypeId)(xs:List Value)(w:World)(b:w.ownsRow base 23 1 v n xs)(B:w.heap[p]? =some (.cells #[u] T (0,0)))(M:u.oneCell'=true)(K:bL u=true)(R:∀g,v.ownBlock=some g->NoDigB w g)(hn:n<=65536)(c:base<=w.heap.size):
  Calls Tryz.prog 127 #[v,.int .i64 n,.slice (some ⟨p,0,none⟩) 1 1] w (xR w base 23 v n (xs++[u])):=by
 obtain⟨i0,A,z,r,s⟩:=info_parts Fh;obtain⟨_,_,F,I⟩:=fB B;have N:At w w.heap.size (some ⟨p,0,none⟩) [u]:=fun _=>⟨p,0,Z,I,fun j x h=>by
  cases j with
  |zero=>simp at h;subst h;exact F
  |succ j=>simp at h⟩
 have HO:=J b;obtain⟨d,i,f,D,E,t,C⟩:∃d i,(∀ty,(Builtin.append_ #[98,98] ty #[v,.slice (some ⟨p,0,none⟩) 1 1]).run Tryz.prog w=.ok d i)/\i.ownsRow base 23 1 d (n+1) (xs++[u])/\w.grownBy i v.ownBlock/\(d.ownBlock=v.ownBlock\/d.ownBlock=some w.heap.size)/\∀g,d.ownBlock=some g->NoDigB i g:=by
  have Q:=fun ty=>mz (P:=Tryz.prog) w base 98 ty 23 i0 (.slice none 0 0) 1 24 Tryz.underlying98 A z r s Z (by decide) v n xs b (some ⟨p,0,none⟩) 1 1 [u] Z (fun e=>by cases e) (fun a L j x h=>by
   injection L with L
   subst L;cases j with
   |zero=>simp at h;subst h;exact F
   |succ j=>simp at h) (fun y V=>by rw[Ml.1 V];exact M) (by unfold maxLen;omega) (by omega) c (by decide) (by simp[K]) R
  obtain⟨d,i,W,h2⟩:=Q 98;refine⟨d,i,fun ty=>?_,h2⟩;obtain⟨v3,w3,h3,h4⟩:=Q ty;exact W
 have m:=J D;have k:=J E;have l:=J t;have o:=J C;have H:=J f;clear f D E t C R A z r s;clear N;rcases b.2 with⟨rfl,O⟩|⟨g,q,cur,rfl,hb,hg,U,S,hs,X⟩
 ·subst O;clear b c
  go_enter Tryz.func127,Tryz.ntmps127
  go_wp2_with (at_builtin;refine Lib.wpList_append_run _ Z _ _ _ _ Z _ _ Z Z _ _ (H.out _) ?_)
  go_ret
  exact⟨_,Z,m.out,k.out,l.out,o.out⟩
 have Y:q<=9223372036854775807:=by unfold maxLen at S;omega
 clear b c hg hs X hb S;by_cases G:q=n
 ·subst G
  go_enter Tryz.func127,Tryz.ntmps127
  go_wp2_with (at_builtin;refine Lib.wpList_append_run _ Z _ _ _ _ Z _ _ Z Z _ _ (H.out _) ?_)
  go_ret
  exact⟨_,Z,m.out,k.out,l.out,o.out⟩
 go_enter Tryz.func127,Tryz.ntmps127
 go_wp2_with (at_builtin;refine Lib.wpList_append_run _ Z _ _ _ _ Z _ _ Z Z _ _ (H.out _) ?_)
 go_ret
 exact⟨_,Z,m.out,k.out,l.out,o.out⟩
theorem Ac(w:World)(b n i c:Nat)(a:List Value)(G:i<n)(C:n<=c)(q:c<n+1)(F:n<=65536)(f:a.length=i)(x:∀j u,a[j]? =some u->w.cell? ⟨b,j,none⟩=some u)(p:a.all bL=true):
  ∃d o B,NoDigB o w.heap.size/\(∀ty,(Builtin.append_ #[98,3] ty #[.slice (some ⟨b,0,none⟩) i c,.int .i64 ((n+1-i:Nat):Int)]).run Tryz.prog w=.ok (.slice (some ⟨w.heap.size,0,none⟩) (n+1) d) o)/\o.ownsRow w.heap.size 23 1 (.slice (some ⟨w.heap.size,0,none⟩) (n+1) d) (n+1) (a++B)/\B.length=n+1-i/\Below w.heap.size w o/\n+1<=d/\d<=9223372036854775807:=by
 obtain⟨A,t,s,r,m⟩:=info_parts Fh;have l:(Builtin.firstCells A.size i (.slice (some ⟨b,0,none⟩) i c)).run Tryz.prog w.drew=.ok a.toArray w.drew:=by
  rw[r];exact run_firstCells_some w.drew 1 i ⟨b,0,none⟩ i c a (by omega) (fun j v E=>by rw[m5];exact x j v E)
 have h:=grownCap_ge w (i+(n+1-i)) c 23;have g:=grownCap_le_maxLen w (i+(n+1-i)) c 23 (by unfold maxLen;omega);have y:=fun ty=>Lib.run_append_grow_zeros w 98 3 ty 23 A _ .i64 .i64 Tryz.underlying98 Tryz.underlying3 t s (some ⟨b,0,none⟩) i c a l (n+1-i) (by omega) (by omega) (by omega) (by omega) (by rw[m];omega) (by rw[m];exact growslice_fits (by omega) (by omega))
 rw[show i+(n+1-i)=n+1 by omega]at y h g;refine⟨_,_,(Builtin.zeroCells (Value.slice none 0 0).cells (n+1-i)).toList,?_,y,⟨?_,.inr ⟨_,_,_,Z,L5 _,heap_alloc_new _ _,h,g,?_,?_⟩⟩,?_,((Below.refl _ _).drew).alloc (L5 _) _,h,by unfold maxLen at g;omega⟩
 ·refine cI (heap_alloc_new _ _) ?_;have D:=fun k=>g5 (z:=Value.slice none 0 0) (by decide) k
  simp only[Nv,NX,p,D,Ql]
 ·rw[Mc,f,M7,eh];omega
 ·rw[OG,OG,eh,eh,OR,f];omega
 ·have e:(a++(Builtin.zeroCells (Value.slice none 0 0).cells (n+1-i)).toList).length=(n+1)*1:=by rw[Mc,f,M7,eh];omega
  rw[Nv,Nv,OP (Ob e.symm)];exact Me (Ob e)
 rw[M7,eh]
theorem Kq(base n i E g b:Nat)(u:Value)(T:TypeId)(xs:List Value)(w:World)(c:w.ownsRow base 23 1 (.slice (some ⟨g,0,none⟩) n b) n xs)(H:w.heap[E]? =some (.cells #[u] T (0,0)))(Q:u.oneCell'=true)(O:bL u=true)(hd:NoDigB w g)(P:∀x∈xs,x.oneCell'=true)(hi:i<n)(hn:n<=65536)(l:b<n+1)(r:base<=w.heap.size):
  Calls Tryz.prog 127 #[.slice (some ⟨g,0,none⟩) n b,.int .i64 i,.slice (some ⟨E,0,none⟩) 1 1] w (xR w base 23 (.slice (some ⟨g,0,none⟩) n b) n (xs.take i++[u]++xs.drop i)):=by
 obtain⟨_,M,L,b5,_⟩:=mQ c;obtain⟨_,_,a0,X⟩:=fB H;have F:xs.length=n:=by have:=c.1;omega
 have I:∀j x,xs[j]? =some x->w.cell? ⟨g,j,none⟩=some x:=fun j x e=>by
  have:=World.ownsRow.cells c (g:=g) Z j x e;rw[m5]at this;exact this
 obtain⟨f,q,zs,S,B,d,Y,K,a5,a9⟩:=Ac w g n i b (xs.take i) hi L l hn (by rw[Mf];omega) (fun j u e=>by
  rw[MZ]at e;split at e
  ·exact I j u e
  cases e) (kZ (kH c hd) i)
 rw[show((n+1-i:Nat):Int)=(n:Int)+1-(i:Int) by omega]at B;have a4:IntKind.i64.wrap ((i:Int)+1)=(i:Int)+1:=by rw[Ns];omega
 have b2:(0:Int)<=(i:Int)+1:=by omega
 have b0:((i:Int)+1).toNat=i+1:=by omega
 have b3:(i:Int)<=(n:Int):=by omega
 have a2:(i:Int)<=(b:Int):=by omega
 have b1:¬((i:Int)=(n:Int)):=by omega
 have a3:(b:Int)<(n:Int)+1:=by omega
 have z:(xs.drop i).length=(n-i)*1:=by rw[MS,F];omega
 have G:(Tryz.prog.info? 23).map (·.size)=some 1:=by kernel_rfl
 have k:∀ty t,(Builtin.copy_ #[98,98] ty #[.slice (some ⟨w.heap.size,i,none⟩) (n+1-i) t,.slice (some ⟨E,0,none⟩) 1 1]).run Tryz.prog q=.ok (goInt (Nat.min 1 (n+1-i))) (q.setCells w.heap.size i [u]):=fun ty t=>
  di q _ _ ty 23 w.heap.size i (n+1-i) t 1 ⟨E,0,none⟩ 1 1 [u] Tryz.underlying98 G (by rw[show Nat.min 1 (n+1-i)=1 from Nl (by omega)];rfl)
   (fun j v e=>by
    cases j with
    |zero=>simp at e;subst e;rw[Addr.add_lit];exact(K.cell (p:=⟨E,0+0,none⟩) X).trans a0
    |succ j=>simp at e)
   (fun j e=>fO d (by simp at e;omega)) (fun j e=>dd d _) (fun y hy=>by rw[Ml.1 hy];exact Q)
 have a:=cj [u] i q _ d;have h:=fp [u] i q _ d S (by simp[O]);have J:=lq (kH c hd) i;have o:Below w.heap.size w (q.setCells w.heap.size i [u]):=eA [u] _ K;obtain⟨m,C⟩:∃m,q.setCells w.heap.size i [u]=m:=⟨_,rfl⟩;rw[C]at a o h;simp only[C]at k;have A:Nat.min (n-i) (n-i)=n-i:=Qv _;have a1:Tryz.prog.follows .mixedOrders=true:=by kernel_rfl
 have V:¬(f=i+1):=by omega
 have N:¬(b=i):=by omega
 have D:∀(W:World),(∀x,W.cell? x=m.cell? x)->(∀x,W.frozen? x=m.frozen? x)->∀ty t sc,(Builtin.copy_ #[98,98] ty #[.slice (some ⟨w.heap.size,i+1,none⟩) (n-i) t,.slice (some ⟨g,i,none⟩) (n-i) sc]).run Tryz.prog W=.ok (goInt (Nat.min (n-i) (n-i))) (W.setCells w.heap.size (i+1) (xs.drop i)):=fun W hc hf ty t sc=>
  di W _ _ ty 23 w.heap.size (i+1) (n-i) t 1 ⟨g,i,none⟩ (n-i) sc (xs.drop i) Tryz.underlying98 G (by rw[A,z])
   (fun j v e=>by
    rw[Addr.add_lit,hc];exact(o.cell (p:=⟨g,i+j,none⟩) M).trans (I _ v (by rwa[Nd]at e)))
   (fun j e=>by rw[hc];exact fO a (by omega)) (fun j e=>by rw[hf];exact dd a _) (fun v hv=>P v (M2 hv))
 clear c
 go_enter Tryz.func127,Tryz.ntmps127
 go_wp2_with (first
  |(at_builtin;refine Lib.wpList_append_run _ Z _ _ _ _ Z _ _ Z Z _ _ (B _) ?_)
  |(at_builtin;refine wpList_copy_runI _ Z _ _ 98 98 Z _ _ Z Z (k _ _) ?_))
 go_region_law_o (refine step_copy_runI Z _ _ 98 98 Z (.slice (some ⟨w.heap.size,i+1,none⟩) (n-i) (f-(i+1))) (.slice (some ⟨g,i,none⟩) (n-i) (b-i)) (by simp[Act.eval,Act.put]) (by simp[Act.eval,Act.put]) (D m.drew (fun _=>rfl) (fun _=>rfl) 3 (f-(i+1)) (b-i)) ?_)
 go_wp2
 go_ret
 have h9:=cj (xs.drop i) (i+1) m.drew (pP (xs.take i++zs) i [u]) a;rw[sI xs zs u F Y hi]at h9;have R:=eA (xs.drop i) (i+1) o.drew;have U:=fp (xs.drop i) (i+1) m.drew _ a (h.of Z) J;exact⟨_,rfl,i6 h9 r,pQ R,.inr rfl,fun g' s=>by injection s with s;subst s;exact U⟩
theorem Kr(base n i l g b:Nat)(u:Value)(T:TypeId)(xs:List Value)(w:World)(a:w.ownsRow base 23 1 (.slice (some ⟨g,0,none⟩) n b) n xs)(D:w.heap[l]? =some (.cells #[u] T (0,0)))(F:g≠l)(N:u.oneCell'=true)(K:bL u=true)(hd:NoDigB w g)(M:∀x∈xs,x.oneCell'=true)(hi:i<n)(hn:n<=65536)(m:n+1<=b)(Q:base<=w.heap.size):
  Calls Tryz.prog 127 #[.slice (some ⟨g,0,none⟩) n b,.int .i64 i,.slice (some ⟨l,0,none⟩) 1 1] w (xR w base 23 (.slice (some ⟨g,0,none⟩) n b) n (xs.take i++[u]++xs.drop i)):=by
 obtain⟨a0,a9,a5,c2,p⟩:=mQ a;obtain⟨O,E,a2,W⟩:=fB D;have A:xs.length=n:=by have:=a.1;omega
 have U:∀j x,xs[j]? =some x->w.cell? ⟨g,j,none⟩=some x:=fun j x f=>by
  have:=World.ownsRow.cells a (g:=g) Z j x f;rw[m5]at this;exact this
 have G:=dd a;obtain⟨y,d⟩:=oT a m;have C:(Tryz.prog.info? 23).map (·.size)=some 1:=by kernel_rfl
 have B:∀w,(Go.sizeOf 23).run Tryz.prog w=.ok 1 w:=fun w=>by
  obtain⟨i0,S,_,H,_⟩:=info_parts Fh;simp[sizeOf,typeInfo,S,H]
 have V:∀X L,(callFunc 189 #[.slice (some ⟨l,0,none⟩) 1 1,.slice (some ⟨g,i+1,none⟩) X L]).run Tryz.prog w=.ok (.value (.bool false)) w:=fun X L=>by
  rw[run_callFunc_extern Tryz.func189 (by kernel_rfl) (by kernel_rfl) (by kernel_rfl) (e:=Extern.SlicesOverlaps.overlaps #[98,98] #[4]) (by kernel_rfl),
   Lib.run_overlaps_apart w 98 4 23 Tryz.underlying98 1 B ⟨l,0,none⟩ ⟨g,i+1,none⟩ 1 1 X L (fun e=>F e.symm) T 23 1 b O a0 (by omega) (E 0) (E 1)]
  rfl
 have b1:IntKind.i64.wrap ((i:Int)+1)=(i:Int)+1:=by rw[Ns];omega
 have b5:(0:Int)<=(i:Int)+1:=by omega
 have b2:((i:Int)+1).toNat=i+1:=by omega
 have c1:(i:Int)<=(n:Int):=by omega
 have a4:(i:Int)<=(b:Int):=by omega
 have a1:(i:Int)<=(n:Int)+1:=by omega
 have b3:¬((i:Int)=(n:Int)):=by omega
 have b0:¬((b:Int)<(n:Int)+1):=by omega
 have R:¬(b=i+1):=by omega
 have I:¬(b=i):=by omega
 have c0:(n:Int)+1<=(b:Int):=by omega
 have Y:(xs.drop i).length=n-i:=by rw[MS,A]
 have a3:Tryz.prog.follows .mixedOrders=true:=by kernel_rfl
 have k:∀ty s sc,(Builtin.copy_ #[98,98] ty #[.slice (some ⟨g,i+1,none⟩) (n-i) s,.slice (some ⟨g,i,none⟩) (n+1-i) sc]).run Tryz.prog w.drew=.ok (goInt (Nat.min (n+1-i) (n-i))) (w.drew.setCells g (i+1) (xs.drop i)):=fun ty s sc=>
  di w.drew _ _ ty 23 g (i+1) (n-i) s 1 ⟨g,i,none⟩ (n+1-i) sc (xs.drop i) Tryz.underlying98 C (by rw[Y,show Nat.min (n+1-i) (n-i)=n-i from Pp (by omega)];omega)
   (fun j v f=>by rw[Addr.add_lit];exact U (i+j) v (by rwa[Nd]at f))
   (fun j f=>p _ (by omega)) (fun j f=>G _) (fun v hv=>M v (M2 hv))
 have c:=cj (xs.drop i) (i+1) w.drew _ (dz d ((Below.refl _ _).drew));have h:=fp (xs.drop i) (i+1) w.drew _ (dz d ((Below.refl _ _).drew)) (hd.of Z) (lq (kH a hd) i);have q:w.grownBy (w.drew.setCells g (i+1) (xs.drop i)) (some g):=fP _ _ (sH (World.grownBy.refl _ _));obtain⟨o,t⟩:∃o,w.drew.setCells g (i+1) (xs.drop i)=o:=⟨_,rfl⟩;rw[t]at c q h;simp only[t]at k;have z:∀ty s,(Builtin.copy_ #[98,98] ty #[.slice (some ⟨g,i,none⟩) (n+1-i) s,.slice (some ⟨l,0,none⟩) 1 1]).run Tryz.prog o=.ok (goInt (Nat.min 1 (n+1-i))) (o.setCells g i [u]):=fun ty s=>
  di o _ _ ty 23 g i (n+1-i) s 1 ⟨l,0,none⟩ 1 1 [u] Tryz.underlying98 C (by rw[show Nat.min 1 (n+1-i)=1 from Nl (by omega)];rfl)
   (fun j v f=>by
    cases j with
    |zero=>simp at f;subst f;rw[Addr.add_lit];exact(World.cell?_of_block (q.block l W fun e=>F (by injection e with e;exact e.symm))).trans a2
    |succ j=>simp at f)
   (fun j f=>fO c (by simp at f;omega)) (fun j f=>dd c _) (fun y hy=>by rw[Ml.1 hy];exact N)
 have HO:=J a;clear a d
 go_enter Tryz.func127,Tryz.ntmps127
 go_wp2_with (simp only[V])
 go_region_law_o (refine step_copy_runI Z _ _ 98 98 Z (.slice (some ⟨g,i+1,none⟩) (n-i) (b-(i+1))) (.slice (some ⟨g,i,none⟩) (n+1-i) (b-i)) (by simp[Act.eval,Act.put]) (by simp[Act.eval,Act.put]) (k _ _ _) ?_)
 go_wp2_with (at_builtin;refine wpList_copy_runI _ Z _ _ 98 98 Z _ _ Z Z (z _ _) ?_)
 go_ret
 have h9:=cj [u] i o _ c;rw[qm xs y u A hi]at h9;have P:=fp [u] i o _ c h (by simp[K]);exact⟨_,rfl,h9,fP _ _ q,.inl rfl,fun g' r=>by injection r with r;subst r;exact P⟩
theorem Ks(base n i j:Nat)(v u:Value)(T:TypeId)(xs:List Value)(w:World)(a:w.ownsRow base 23 1 v n xs)(c:w.heap[j]? =some (.cells #[u] T (0,0)))(q:v.ownBlock≠some j)(f:u.oneCell'=true)(d:bL u=true)(p:∀g,v.ownBlock=some g->NoDigB w g)(k:∀x∈xs,x.oneCell'=true)(y:i<=n)(m:n<=65536)(b:base<=w.heap.size):
  Calls Tryz.prog 127 #[v,.int .i64 i,.slice (some ⟨j,0,none⟩) 1 1] w (xR w base 23 v n (xs.take i++[u]++xs.drop i)):=by
 have t:=a.1;rcases MI i n with l|r
 ·rcases a.2 with⟨rfl,s⟩|⟨g,h,cur,rfl,_⟩
  ·omega
  rcases MI h (n+1)with o|o
  ·exact Kq base n i j g h u T xs w a c f d (p g Z) k l m o b
  exact Kr base n i j g h u T xs w a c (fun e=>q (by rw[<-e];rfl)) f d (p g Z) k l m o b
 obtain rfl:i=n:=by omega
 rw[Me (by omega),Mg (by omega),MA];exact Kp base i j v u T xs w a c f d p m b
theorem Fi:(Tryz.prog.info? 61).map (fun i=>(i.zero,i.size,i.bytes))=some (some (.slice none 0 0),1,24):=by kernel_rfl
theorem Kt(base n p:Nat)(v u:Value)(T:TypeId)(xs:List Value)(w:World)(b:w.ownsRow base 61 1 v n xs)(B:w.heap[p]? =some (.cells #[u] T (0,0)))(M:u.oneCell'=true)(K:bL u=true)(R:∀g,v.ownBlock=some g->NoDigB w g)(hn:n<=65536)(c:base<=w.heap.size):
  Calls Tryz.prog 128 #[v,.int .i64 n,.slice (some ⟨p,0,none⟩) 1 1] w (xR w base 61 v n (xs++[u])):=by
 obtain⟨i0,A,z,r,s⟩:=info_parts Fi;obtain⟨_,_,F,I⟩:=fB B;have N:At w w.heap.size (some ⟨p,0,none⟩) [u]:=fun _=>⟨p,0,Z,I,fun j x h=>by
  cases j with
  |zero=>simp at h;subst h;exact F
  |succ j=>simp at h⟩
 have HO:=J b;obtain⟨d,i,f,D,E,t,C⟩:∃d i,(∀ty,(Builtin.append_ #[151,151] ty #[v,.slice (some ⟨p,0,none⟩) 1 1]).run Tryz.prog w=.ok d i)/\i.ownsRow base 61 1 d (n+1) (xs++[u])/\w.grownBy i v.ownBlock/\(d.ownBlock=v.ownBlock\/d.ownBlock=some w.heap.size)/\∀g,d.ownBlock=some g->NoDigB i g:=by
  have Q:=fun ty=>mz (P:=Tryz.prog) w base 151 ty 61 i0 (.slice none 0 0) 1 24 Tryz.underlying151 A z r s Z (by decide) v n xs b (some ⟨p,0,none⟩) 1 1 [u] Z (fun e=>by cases e) (fun a L j x h=>by
   injection L with L
   subst L;cases j with
   |zero=>simp at h;subst h;exact F
   |succ j=>simp at h) (fun y V=>by rw[Ml.1 V];exact M) (by unfold maxLen;omega) (by omega) c (by decide) (by simp[K]) R
  obtain⟨d,i,W,h2⟩:=Q 151;refine⟨d,i,fun ty=>?_,h2⟩;obtain⟨v3,w3,h3,h4⟩:=Q ty;exact W
 have m:=J D;have k:=J E;have l:=J t;have o:=J C;have H:=J f;clear f D E t C R A z r s;clear N;rcases b.2 with⟨rfl,O⟩|⟨g,q,cur,rfl,hb,hg,U,S,hs,X⟩
 ·subst O;clear b c
  go_enter Tryz.func128,Tryz.ntmps128
  go_wp2_with (at_builtin;refine Lib.wpList_append_run _ Z _ _ _ _ Z _ _ Z Z _ _ (H.out _) ?_)
  go_ret
  exact⟨_,Z,m.out,k.out,l.out,o.out⟩
 have Y:q<=9223372036854775807:=by unfold maxLen at S;omega
 clear b c hg hs X hb S;by_cases G:q=n
 ·subst G
  go_enter Tryz.func128,Tryz.ntmps128
  go_wp2_with (at_builtin;refine Lib.wpList_append_run _ Z _ _ _ _ Z _ _ Z Z _ _ (H.out _) ?_)
  go_ret
  exact⟨_,Z,m.out,k.out,l.out,o.out⟩
 go_enter Tryz.func128,Tryz.ntmps128
 go_wp2_with (at_builtin;refine Lib.wpList_append_run _ Z _ _ _ _ Z _ _ Z Z _ _ (H.out _) ?_)
 go_ret
 exact⟨_,Z,m.out,k.out,l.out,o.out⟩
theorem Ae(w:World)(b n i c:Nat)(a:List Value)(G:i<n)(C:n<=c)(q:c<n+1)(F:n<=65536)(f:a.length=i)(x:∀j u,a[j]? =some u->w.cell? ⟨b,j,none⟩=some u)(p:a.all bL=true):
  ∃d o B,NoDigB o w.heap.size/\(∀ty,(Builtin.append_ #[151,3] ty #[.slice (some ⟨b,0,none⟩) i c,.int .i64 ((n+1-i:Nat):Int)]).run Tryz.prog w=.ok (.slice (some ⟨w.heap.size,0,none⟩) (n+1) d) o)/\o.ownsRow w.heap.size 61 1 (.slice (some ⟨w.heap.size,0,none⟩) (n+1) d) (n+1) (a++B)/\B.length=n+1-i/\Below w.heap.size w o/\n+1<=d/\d<=9223372036854775807:=by
 obtain⟨A,t,s,r,m⟩:=info_parts Fi;have l:(Builtin.firstCells A.size i (.slice (some ⟨b,0,none⟩) i c)).run Tryz.prog w.drew=.ok a.toArray w.drew:=by
  rw[r];exact run_firstCells_some w.drew 1 i ⟨b,0,none⟩ i c a (by omega) (fun j v E=>by rw[m5];exact x j v E)
 have h:=grownCap_ge w (i+(n+1-i)) c 61;have g:=grownCap_le_maxLen w (i+(n+1-i)) c 61 (by unfold maxLen;omega);have y:=fun ty=>Lib.run_append_grow_zeros w 151 3 ty 61 A _ .i64 .i64 Tryz.underlying151 Tryz.underlying3 t s (some ⟨b,0,none⟩) i c a l (n+1-i) (by omega) (by omega) (by omega) (by omega) (by rw[m];omega) (by rw[m];exact growslice_fits (by omega) (by omega))
 rw[show i+(n+1-i)=n+1 by omega]at y h g;refine⟨_,_,(Builtin.zeroCells (Value.slice none 0 0).cells (n+1-i)).toList,?_,y,⟨?_,.inr ⟨_,_,_,Z,L5 _,heap_alloc_new _ _,h,g,?_,?_⟩⟩,?_,((Below.refl _ _).drew).alloc (L5 _) _,h,by unfold maxLen at g;omega⟩
 ·refine cI (heap_alloc_new _ _) ?_;have D:=fun k=>g5 (z:=Value.slice none 0 0) (by decide) k
  simp only[Nv,NX,p,D,Ql]
 ·rw[Mc,f,M7,eh];omega
 ·rw[OG,OG,eh,eh,OR,f];omega
 ·have e:(a++(Builtin.zeroCells (Value.slice none 0 0).cells (n+1-i)).toList).length=(n+1)*1:=by rw[Mc,f,M7,eh];omega
  rw[Nv,Nv,OP (Ob e.symm)];exact Me (Ob e)
 rw[M7,eh]
theorem Ku(base n i E g b:Nat)(u:Value)(T:TypeId)(xs:List Value)(w:World)(c:w.ownsRow base 61 1 (.slice (some ⟨g,0,none⟩) n b) n xs)(H:w.heap[E]? =some (.cells #[u] T (0,0)))(Q:u.oneCell'=true)(O:bL u=true)(hd:NoDigB w g)(P:∀x∈xs,x.oneCell'=true)(hi:i<n)(hn:n<=65536)(l:b<n+1)(r:base<=w.heap.size):
  Calls Tryz.prog 128 #[.slice (some ⟨g,0,none⟩) n b,.int .i64 i,.slice (some ⟨E,0,none⟩) 1 1] w (xR w base 61 (.slice (some ⟨g,0,none⟩) n b) n (xs.take i++[u]++xs.drop i)):=by
 obtain⟨_,M,L,b5,_⟩:=mQ c;obtain⟨_,_,a0,X⟩:=fB H;have F:xs.length=n:=by have:=c.1;omega
 have I:∀j x,xs[j]? =some x->w.cell? ⟨g,j,none⟩=some x:=fun j x e=>by
  have:=World.ownsRow.cells c (g:=g) Z j x e;rw[m5]at this;exact this
 obtain⟨f,q,zs,S,B,d,Y,K,a5,a9⟩:=Ae w g n i b (xs.take i) hi L l hn (by rw[Mf];omega) (fun j u e=>by
  rw[MZ]at e;split at e
  ·exact I j u e
  cases e) (kZ (kH c hd) i)
 rw[show((n+1-i:Nat):Int)=(n:Int)+1-(i:Int) by omega]at B;have a4:IntKind.i64.wrap ((i:Int)+1)=(i:Int)+1:=by rw[Ns];omega
 have b2:(0:Int)<=(i:Int)+1:=by omega
 have b0:((i:Int)+1).toNat=i+1:=by omega
 have b3:(i:Int)<=(n:Int):=by omega
 have a2:(i:Int)<=(b:Int):=by omega
 have b1:¬((i:Int)=(n:Int)):=by omega
 have a3:(b:Int)<(n:Int)+1:=by omega
 have z:(xs.drop i).length=(n-i)*1:=by rw[MS,F];omega
 have G:(Tryz.prog.info? 61).map (·.size)=some 1:=by kernel_rfl
 have k:∀ty t,(Builtin.copy_ #[151,151] ty #[.slice (some ⟨w.heap.size,i,none⟩) (n+1-i) t,.slice (some ⟨E,0,none⟩) 1 1]).run Tryz.prog q=.ok (goInt (Nat.min 1 (n+1-i))) (q.setCells w.heap.size i [u]):=fun ty t=>
  di q _ _ ty 61 w.heap.size i (n+1-i) t 1 ⟨E,0,none⟩ 1 1 [u] Tryz.underlying151 G (by rw[show Nat.min 1 (n+1-i)=1 from Nl (by omega)];rfl)
   (fun j v e=>by
    cases j with
    |zero=>simp at e;subst e;rw[Addr.add_lit];exact(K.cell (p:=⟨E,0+0,none⟩) X).trans a0
    |succ j=>simp at e)
   (fun j e=>fO d (by simp at e;omega)) (fun j e=>dd d _) (fun y hy=>by rw[Ml.1 hy];exact Q)
 have a:=cj [u] i q _ d;have h:=fp [u] i q _ d S (by simp[O]);have J:=lq (kH c hd) i;have o:Below w.heap.size w (q.setCells w.heap.size i [u]):=eA [u] _ K;obtain⟨m,C⟩:∃m,q.setCells w.heap.size i [u]=m:=⟨_,rfl⟩;rw[C]at a o h;simp only[C]at k;have A:Nat.min (n-i) (n-i)=n-i:=Qv _;have a1:Tryz.prog.follows .mixedOrders=true:=by kernel_rfl
 have V:¬(f=i+1):=by omega
 have N:¬(b=i):=by omega
 have D:∀(W:World),(∀x,W.cell? x=m.cell? x)->(∀x,W.frozen? x=m.frozen? x)->∀ty t sc,(Builtin.copy_ #[151,151] ty #[.slice (some ⟨w.heap.size,i+1,none⟩) (n-i) t,.slice (some ⟨g,i,none⟩) (n-i) sc]).run Tryz.prog W=.ok (goInt (Nat.min (n-i) (n-i))) (W.setCells w.heap.size (i+1) (xs.drop i)):=fun W hc hf ty t sc=>
  di W _ _ ty 61 w.heap.size (i+1) (n-i) t 1 ⟨g,i,none⟩ (n-i) sc (xs.drop i) Tryz.underlying151 G (by rw[A,z])
   (fun j v e=>by
    rw[Addr.add_lit,hc];exact(o.cell (p:=⟨g,i+j,none⟩) M).trans (I _ v (by rwa[Nd]at e)))
   (fun j e=>by rw[hc];exact fO a (by omega)) (fun j e=>by rw[hf];exact dd a _) (fun v hv=>P v (M2 hv))
 clear c
 go_enter Tryz.func128,Tryz.ntmps128
 go_wp2_with (first
  |(at_builtin;refine Lib.wpList_append_run _ Z _ _ _ _ Z _ _ Z Z _ _ (B _) ?_)
  |(at_builtin;refine wpList_copy_runI _ Z _ _ 151 151 Z _ _ Z Z (k _ _) ?_))
 go_region_law_o (refine step_copy_runI Z _ _ 151 151 Z (.slice (some ⟨w.heap.size,i+1,none⟩) (n-i) (f-(i+1))) (.slice (some ⟨g,i,none⟩) (n-i) (b-i)) (by simp[Act.eval,Act.put]) (by simp[Act.eval,Act.put]) (D m.drew (fun _=>rfl) (fun _=>rfl) 3 (f-(i+1)) (b-i)) ?_)
 go_wp2
 go_ret
 have h9:=cj (xs.drop i) (i+1) m.drew (pP (xs.take i++zs) i [u]) a;rw[sI xs zs u F Y hi]at h9;have R:=eA (xs.drop i) (i+1) o.drew;have U:=fp (xs.drop i) (i+1) m.drew _ a (h.of Z) J;exact⟨_,rfl,i6 h9 r,pQ R,.inr rfl,fun g' s=>by injection s with s;subst s;exact U⟩
theorem Kv(base n i l g b:Nat)(u:Value)(T:TypeId)(xs:List Value)(w:World)(a:w.ownsRow base 61 1 (.slice (some ⟨g,0,none⟩) n b) n xs)(D:w.heap[l]? =some (.cells #[u] T (0,0)))(F:g≠l)(N:u.oneCell'=true)(K:bL u=true)(hd:NoDigB w g)(M:∀x∈xs,x.oneCell'=true)(hi:i<n)(hn:n<=65536)(m:n+1<=b)(Q:base<=w.heap.size):
  Calls Tryz.prog 128 #[.slice (some ⟨g,0,none⟩) n b,.int .i64 i,.slice (some ⟨l,0,none⟩) 1 1] w (xR w base 61 (.slice (some ⟨g,0,none⟩) n b) n (xs.take i++[u]++xs.drop i)):=by
 obtain⟨a0,a9,a5,c2,p⟩:=mQ a;obtain⟨O,E,a2,W⟩:=fB D;have A:xs.length=n:=by have:=a.1;omega
 have U:∀j x,xs[j]? =some x->w.cell? ⟨g,j,none⟩=some x:=fun j x f=>by
  have:=World.ownsRow.cells a (g:=g) Z j x f;rw[m5]at this;exact this
 have G:=dd a;obtain⟨y,d⟩:=oT a m;have C:(Tryz.prog.info? 61).map (·.size)=some 1:=by kernel_rfl
 have B:∀w,(Go.sizeOf 61).run Tryz.prog w=.ok 1 w:=fun w=>by
  obtain⟨i0,S,_,H,_⟩:=info_parts Fi;simp[sizeOf,typeInfo,S,H]
 have V:∀X L,(callFunc 191 #[.slice (some ⟨l,0,none⟩) 1 1,.slice (some ⟨g,i+1,none⟩) X L]).run Tryz.prog w=.ok (.value (.bool false)) w:=fun X L=>by
  rw[run_callFunc_extern Tryz.func191 (by kernel_rfl) (by kernel_rfl) (by kernel_rfl) (e:=Extern.SlicesOverlaps.overlaps #[151,151] #[4]) (by kernel_rfl),
   Lib.run_overlaps_apart w 151 4 61 Tryz.underlying151 1 B ⟨l,0,none⟩ ⟨g,i+1,none⟩ 1 1 X L (fun e=>F e.symm) T 61 1 b O a0 (by omega) (E 0) (E 1)]
  rfl
 have b1:IntKind.i64.wrap ((i:Int)+1)=(i:Int)+1:=by rw[Ns];omega
 have b5:(0:Int)<=(i:Int)+1:=by omega
 have b2:((i:Int)+1).toNat=i+1:=by omega
 have c1:(i:Int)<=(n:Int):=by omega
 have a4:(i:Int)<=(b:Int):=by omega
 have a1:(i:Int)<=(n:Int)+1:=by omega
 have b3:¬((i:Int)=(n:Int)):=by omega
 have b0:¬((b:Int)<(n:Int)+1):=by omega
 have R:¬(b=i+1):=by omega
 have I:¬(b=i):=by omega
 have c0:(n:Int)+1<=(b:Int):=by omega
 have Y:(xs.drop i).length=n-i:=by rw[MS,A]
 have a3:Tryz.prog.follows .mixedOrders=true:=by kernel_rfl
 have k:∀ty s sc,(Builtin.copy_ #[151,151] ty #[.slice (some ⟨g,i+1,none⟩) (n-i) s,.slice (some ⟨g,i,none⟩) (n+1-i) sc]).run Tryz.prog w.drew=.ok (goInt (Nat.min (n+1-i) (n-i))) (w.drew.setCells g (i+1) (xs.drop i)):=fun ty s sc=>
  di w.drew _ _ ty 61 g (i+1) (n-i) s 1 ⟨g,i,none⟩ (n+1-i) sc (xs.drop i) Tryz.underlying151 C (by rw[Y,show Nat.min (n+1-i) (n-i)=n-i from Pp (by omega)];omega)
   (fun j v f=>by rw[Addr.add_lit];exact U (i+j) v (by rwa[Nd]at f))
   (fun j f=>p _ (by omega)) (fun j f=>G _) (fun v hv=>M v (M2 hv))
 have c:=cj (xs.drop i) (i+1) w.drew _ (dz d ((Below.refl _ _).drew));have h:=fp (xs.drop i) (i+1) w.drew _ (dz d ((Below.refl _ _).drew)) (hd.of Z) (lq (kH a hd) i);have q:w.grownBy (w.drew.setCells g (i+1) (xs.drop i)) (some g):=fP _ _ (sH (World.grownBy.refl _ _));obtain⟨o,t⟩:∃o,w.drew.setCells g (i+1) (xs.drop i)=o:=⟨_,rfl⟩;rw[t]at c q h;simp only[t]at k;have z:∀ty s,(Builtin.copy_ #[151,151] ty #[.slice (some ⟨g,i,none⟩) (n+1-i) s,.slice (some ⟨l,0,none⟩) 1 1]).run Tryz.prog o=.ok (goInt (Nat.min 1 (n+1-i))) (o.setCells g i [u]):=fun ty s=>
  di o _ _ ty 61 g i (n+1-i) s 1 ⟨l,0,none⟩ 1 1 [u] Tryz.underlying151 C (by rw[show Nat.min 1 (n+1-i)=1 from Nl (by omega)];rfl)
   (fun j v f=>by
    cases j with
    |zero=>simp at f;subst f;rw[Addr.add_lit];exact(World.cell?_of_block (q.block l W fun e=>F (by injection e with e;exact e.symm))).trans a2
    |succ j=>simp at f)
   (fun j f=>fO c (by simp at f;omega)) (fun j f=>dd c _) (fun y hy=>by rw[Ml.1 hy];exact N)
 have HO:=J a;clear a d
 go_enter Tryz.func128,Tryz.ntmps128
 go_wp2_with (simp only[V])
 go_region_law_o (refine step_copy_runI Z _ _ 151 151 Z (.slice (some ⟨g,i+1,none⟩) (n-i) (b-(i+1))) (.slice (some ⟨g,i,none⟩) (n+1-i) (b-i)) (by simp[Act.eval,Act.put]) (by simp[Act.eval,Act.put]) (k _ _ _) ?_)
 go_wp2_with (at_builtin;refine wpList_copy_runI _ Z _ _ 151 151 Z _ _ Z Z (z _ _) ?_)
 go_ret
 have h9:=cj [u] i o _ c;rw[qm xs y u A hi]at h9;have P:=fp [u] i o _ c h (by simp[K]);exact⟨_,rfl,h9,fP _ _ q,.inl rfl,fun g' r=>by injection r with r;subst r;exact P⟩
theorem Kw(base n i j:Nat)(v u:Value)(T:TypeId)(xs:List Value)(w:World)(a:w.ownsRow base 61 1 v n xs)(c:w.heap[j]? =some (.cells #[u] T (0,0)))(q:v.ownBlock≠some j)(f:u.oneCell'=true)(d:bL u=true)(p:∀g,v.ownBlock=some g->NoDigB w g)(k:∀x∈xs,x.oneCell'=true)(y:i<=n)(m:n<=65536)(b:base<=w.heap.size):
  Calls Tryz.prog 128 #[v,.int .i64 i,.slice (some ⟨j,0,none⟩) 1 1] w (xR w base 61 v n (xs.take i++[u]++xs.drop i)):=by
 have t:=a.1;rcases MI i n with l|r
 ·rcases a.2 with⟨rfl,s⟩|⟨g,h,cur,rfl,_⟩
  ·omega
  rcases MI h (n+1)with o|o
  ·exact Ku base n i j g h u T xs w a c f d (p g Z) k l m o b
  exact Kv base n i j g h u T xs w a c (fun e=>q (by rw[<-e];rfl)) f d (p g Z) k l m o b
 obtain rfl:i=n:=by omega
 rw[Me (by omega),Mg (by omega),MA];exact Kt base i j v u T xs w a c f d p m b
theorem uA(a b:V):gd b a= -gd a b:=EO ..
theorem me(a b:V): -1<=gd a b/\gd a b<=1:=zz ..
theorem mf(a b:V):gd a b=0↔a=b:=by
 unfold gd;rw[G5];constructor
 ·rintro⟨e,d,c⟩;cases a;cases b;simp only at e d c;rw[e,d,c]
 rintro rfl;exact⟨rfl,rfl,rfl⟩
theorem xS{a b c:V}(e:gd a b<=0)(d:gd b c<=0):gd a c<=0:=zA _ _ _ _ _ _ _ _ _ e d
theorem nE:∀l m:List V,-1<=aO l m/\aO l m<=1
 |[],[]=>by simp[aO]
 |[],_::_=>by simp[aO]
 |_::_,[]=>by simp[aO]
 |a::l,b::m=>by
  rw[aO];split
  ·exact nE l m
  exact me a b
theorem mh:∀l m:List V,aO m l= -aO l m
 |[],[]=>rfl
 |[],_::_=>rfl
 |_::_,[]=>rfl
 |a::l,b::m=>by
  rw[aO,aO,uA a b];by_cases h:gd a b=0
  ·rw[if_pos (by omega),if_pos h,mh l m]
  rw[if_neg (by omega),if_neg h]
theorem jZ:∀l m:List V,aO l m=0↔l=m
 |[],[]=>by simp[aO]
 |[],_::_=>by simp[aO]
 |_::_,[]=>by simp[aO]
 |a::l,b::m=>by
  rw[aO];by_cases h:gd a b=0
  ·rw[if_pos h,jZ l m,Pv,(mf a b).1 h];simp
  rw[if_neg h,Pv];constructor
  ·intro c;exact absurd c h
  rintro⟨c,_⟩;exact absurd ((mf a b).2 c) h
theorem kI(l:List V):aO l l=0:=(jZ l l).2 Z
theorem sJ:∀{l m n:List V},aO l m<=0->aO m n<=0->aO l n<=0
 |[],_,[],_,_=>by simp[aO]
 |[],_,_::_,_,_=>by simp[aO]
 |_::_,[],_,h,_=>by simp[aO]at h
 |_::_,_::_,[],_,h=>by simp[aO]at h
 |a::l,b::m,c::n,h1,h2=>by
  rw[aO]at h1 h2⊢;have j:=me a b;have i:=me b c;by_cases e:gd a b=0
  ·rw[if_pos e]at h1;have:=(mf a b).1 e;subst this;by_cases d:gd a c=0
   ·rw[if_pos d]at h2⊢;exact sJ h1 h2
   rw[if_neg d]at h2⊢;exact h2
  rw[if_neg e]at h1;by_cases d:gd b c=0
  ·have:=(mf b c).1 d;subst this;rw[if_neg e];exact h1
  rw[if_neg d]at h2;have g:=xS h1 h2;by_cases f:gd a c=0
  ·have:=(mf a c).1 f;subst this;have:=uA a b;omega
  rw[if_neg f];exact g
theorem iC{l m n:List V}(b:aO l m<0)(a:aO m n<0):aO l n<0:=by
 have c:=sJ (Int.le_of_lt b) (Int.le_of_lt a);by_cases e:aO l n=0
 ·have:=(jZ l n).1 e;subst this;have:=mh l m;omega
 omega
end Go.Proofs.YtfoejfohbkmmeaaGreatDoor
