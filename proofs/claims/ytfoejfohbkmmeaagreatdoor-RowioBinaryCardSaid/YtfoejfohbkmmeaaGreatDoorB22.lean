import Derived.Test.YtfoejfohbkmmeaaGreatDoorB21
import Derived.Lib.Overlaps
import Derived.Test.YtfoejfohbkmmeaaGreatDoorB00
import Derived.Test.YtfoejfohbkmmeaaGreatDoorB09
import Derived.Test.YtfoejfohbkmmeaaGreatDoorB10
import Derived.Test.YtfoejfohbkmmeaaGreatDoorB11
import Derived.Test.YtfoejfohbkmmeaaGreatDoorB08
import Derived.Test.YtfoejfohbkmmeaaGreatDoorB06
set_option maxRecDepth 100000
set_option maxHeartbeats 4000000
namespace Go.Proofs.YtfoejfohbkmmeaaGreatDoor
open Go.RowKit
open Lib renaming hid→J
def zF(w:World)(base:Nat)(E:TypeId)(v:Value)(n:Nat)(ys:List Value)(e:Ending)(w':World):Prop:=∃v',e=.returned v'/\w'.ownsRow base E 1 v' (n+1) ys/\w.grownBy w' v.ownBlock/\(v'.ownBlock=v.ownBlock\/v'.ownBlock=some w.heap.size)/\∀g,v'.ownBlock=some g->NoDigB w' g
theorem nY(g j:Nat):(⟨g,0,none⟩:Addr).add j=⟨g,j,none⟩:=by rw[Addr.add_lit];simp
theorem pO{w:World}{base g n a:Nat}{e:TypeId}{xs:List Value}(h:w.ownsRow base e 1 (.slice (some ⟨g,0,none⟩) n a) n xs)(o:n+1<=a):∃y,w.ownsRow base e 1 (.slice (some ⟨g,0,none⟩) (n+1) a) (n+1) (xs++[y]):=by
 obtain⟨j,q⟩:=h;rcases q with⟨d,_⟩|⟨s,f,cur,d,l,k,t,p,r,i⟩
 ·cases d
 injection d with b _ m
 injection b with b
 injection b with b
 subst b m;have c:n<cur.toList.length:=by rw[Po];omega
 refine⟨cur.toList[n],by simp[j],.inr ⟨g,a,cur,Z,l,k,o,p,r,?_⟩⟩;rw[Qc]at i⊢;rw[OM c,i]
theorem f5{w:World}{g:Nat}{T:TypeId}{u:Value}(h:w.heap[g]? =some (.cells #[u] T (0,0))):w.shape? g=some (T,1)/\(∀i,w.frozen? ⟨g,i,none⟩=false)/\w.cell? ⟨g,0,none⟩=some u/\g<w.heap.size:=by
 refine⟨by unfold World.shape?;rw[h];rfl,fun i=>by unfold World.frozen?;simp[h],?_,(O3.1 h).1⟩;have:=IsBlk.cell (w:=w) (g:=g) (t:=T) (cs:=#[u]) h 0;simpa using this
theorem nM{w:World}{base g n a:Nat}{e:TypeId}{xs:List Value}(h:w.ownsRow base e 1 (.slice (some ⟨g,0,none⟩) n a) n xs):w.shape? g=some (e,a)/\g<w.heap.size/\n<=a/\a<=9223372036854775807/\∀j,j<a->(w.cell? ⟨g,j,none⟩).isSome=true:=by
 obtain⟨p,l⟩:=h;rcases l with⟨d,_⟩|⟨u,f,cur,d,q,c,m,k,o,r⟩
 ·cases d
 injection d with b _ i
 injection b with b
 injection b with b
 subst b i;refine⟨by unfold World.shape?;rw[c];simp[o],(O3.1 c).1,m,by unfold maxLen at k;omega,fun j s=>?_⟩;have:=IsBlk.cell (w:=w) (g:=g) (t:=e) (cs:=cur) c j;rw[this,O1 (by omega)];rfl
theorem wd{w:World}{base g n d sz i:Nat}{e:TypeId}{xs:List Value}(h:w.ownsRow base e sz (.slice (some ⟨g,0,none⟩) n d) n xs)(o:NoDigB w g){u:Value}(l:bG u=true):NoDigB (w.setCell ⟨g,i,none⟩ u) g:=by
 rcases h.2 with⟨b,_⟩|⟨q,j,cur,b,p,f,_⟩
 ·cases b
 injection b with a _ _
 injection a with a
 injection a with a
 subst a;have m:=nw f o;refine cD (c:=cur.setIfInBounds i u) (e:=e) (fr:=(0,0)) (by simp[World.setCell,P4,f]) ?_;rw[P8];refine OD.2 fun x k=>?_
 rcases QW k with h|rfl
 ·exact OD.1 m x h
 exact l
theorem fR{base g n a sz:Nat}{e:TypeId}:∀(vs:List Value) (o:Nat) (w:World) (xs:List Value),w.ownsRow base e sz (.slice (some ⟨g,0,none⟩) n a) n xs->NoDigB w g->vs.all bG=true->NoDigB (w.setCells g o vs) g
 |[],_,_,_,_,h,_=>h
 |v::r,o,w,xs,ho,h,hv=>by
  simp only[PS,Oo]at hv;exact fR r (o+1) _ _ (jp ho v) (wd ho h hv.1) hv.2
theorem lm{w:World}{base g n a:Nat}{e:TypeId}{xs:List Value}(h:w.ownsRow base e 1 (.slice (some ⟨g,0,none⟩) n a) n xs)(d:NoDigB w g):xs.all bG=true:=OD.2 fun u b=>by
 obtain⟨j,c,rfl⟩:=Pv b;refine d j _ ?_;have:=World.ownsRow.cells h (g:=g) Z j _ (Og c);rwa[nY]at this
theorem mo{l:List Value}(h:l.all bG=true)(n:Nat):(l.drop n).all bG=true:=OD.2 fun x a=>OD.1 h x (Pq a)
theorem rb{w w':World}{r:Option Nat}(a:Below w.heap.size w w'):w.grownBy w' r:=⟨a.os,a.tape,a.output,a.size,fun k b _=>a.block k b⟩
theorem tS{w w':World}{row:Option Nat}(h:w.grownBy w' row):w.grownBy w'.drew row:=⟨h.os,h.tape,h.output,h.size,h.block⟩
theorem gF{w:World}{g:Nat}:∀(vs:List Value) (o:Nat) {W:World},w.grownBy W (some g)->w.grownBy (W.setCells g o vs) (some g)
 |[],_,_,h=>h
 |v::r,o,_,h=>gF r (o+1) (h.trans ⟨Z,Z,Z,by simp[World.setCell],fun k _ a=>by
   simp only[World.setCell];rw[P4,if_neg (fun e=>a (by rw[e]))]⟩)
theorem rE(xs:List Value)(y u:Value){n i:Nat}(f:xs.length=n)(g:i<n):ra (ra (xs++[y]) (i+1) (xs.drop i)) i [u]=xs.take i++[u]++xs.drop i:=by
 have e:xs++[y]=xs.take (i+1)++(xs.drop (i+1)++[y])++[]:=by rw[O5,<-O0,Pz]
 have b:(xs.take (i+1)).length=i+1:=by rw[Ox];omega
 have c:=j5 (xs.drop i) (xs.take (i+1)) (xs.drop (i+1)++[y]) [] (by simp;omega);rw[b]at c;rw[e,c,O5,OM (by omega)];have a:(xs.take i).length=i:=by rw[Ox];omega
 have d:=j5 [u] (xs.take i) [xs[i]'(by omega)] (xs.drop i) Z;rw[a]at d;exact d
theorem tT(xs a:List Value)(u:Value){n i:Nat}(e:xs.length=n)(g:a.length=n+1-i)(f:i<n):ra (ra (xs.take i++a) i [u]) (i+1) (xs.drop i)=xs.take i++[u]++xs.drop i:=by
 have b:(xs.take i).length=i:=by rw[Ox];omega
 have d:xs.take i++a=xs.take i++a.take 1++a.drop 1:=by rw[O0,Pz]
 have c:=j5 [u] (xs.take i) (a.take 1) (a.drop 1) (by simp;omega);rw[b]at c;rw[d,c];have h:=j5 (xs.drop i) (xs.take i++[u]) (a.drop 1) [] (by simp;omega);rw[O5,O5,Oj,b]at h;exact h
theorem eM(k:Nat):(Builtin.zeroCells (Value.slice none 0 0).cells k).size=k:=by simp[Builtin.zeroCells,Value.cells]
theorem jw{w:World}{b d sz n:Nat}{e:TypeId}{v:Value}{xs:List Value}(h:w.ownsRow d e sz v n xs)(i:b<=d):w.ownsRow b e sz v n xs:=by
 refine⟨h.1,?_⟩;rcases h.2 with k|⟨g,c,cur,j,f,a⟩
 ·exact .inl k
 exact .inr ⟨g,c,cur,j,Oq i f,a⟩
theorem Hv:(Tryz.prog.info? 23).map (fun i=>(i.zero,i.size,i.bytes))=some (some (.slice none 0 0),1,24):=by kernel_rfl
theorem M4(base n p:Nat)(v u:Value)(T:TypeId)(xs:List Value)(w:World)(b:w.ownsRow base 23 1 v n xs)(r:w.heap[p]? =some (.cells #[u] T (0,0)))(K:u.oneCell'=true)(M:bG u=true)(Q:∀g,v.ownBlock=some g->NoDigB w g)(hn:n<=65536)(c:base<=w.heap.size):
  Calls Tryz.prog 127 #[v,.int .i64 n,.slice (some ⟨p,0,none⟩) 1 1] w (zF w base 23 v n (xs++[u])):=by
 obtain⟨i0,z,A,C,q⟩:=info_parts Hv;obtain⟨_,_,s,N⟩:=f5 r;have H:At w w.heap.size (some ⟨p,0,none⟩) [u]:=fun _=>⟨p,0,Z,N,fun j x l=>by
  cases j with
  |zero=>simp at l;subst l;exact s
  |succ j=>simp at l⟩
 have HO:=J b;obtain⟨f,h,d,E,t,B,F⟩:∃f h,(∀ty,(Builtin.append_ #[98,98] ty #[v,.slice (some ⟨p,0,none⟩) 1 1]).run Tryz.prog w=.ok f h)/\h.ownsRow base 23 1 f (n+1) (xs++[u])/\w.grownBy h v.ownBlock/\(f.ownBlock=v.ownBlock\/f.ownBlock=some w.heap.size)/\∀g,f.ownBlock=some g->NoDigB h g:=by
  have R:=fun ty=>lP (P:=Tryz.prog) w base 98 ty 23 i0 (.slice none 0 0) 1 24 Tryz.underlying98 z A C q Z (by decide) v n xs b (some ⟨p,0,none⟩) 1 1 [u] Z (fun e=>by cases e) (fun a I j x l=>by
   injection I with I
   subst I;cases j with
   |zero=>simp at l;subst l;exact s
   |succ j=>simp at l) (fun y W=>by rw[OG.1 W];exact K) (by unfold maxLen;omega) (by omega) c (by decide) (by simp[M]) Q
  obtain⟨f,h,h1,h2⟩:=R 98;refine⟨f,h,fun ty=>?_,h2⟩;obtain⟨v3,w3,h3,h4⟩:=R ty;exact h1
 have i:=J E;have m:=J t;have k:=J B;have o:=J F;have G:=J d;clear d E t B F Q z A C q;clear H;rcases b.2 with⟨rfl,L⟩|⟨g,D,cur,rfl,Y,X,a0,S,hs,U⟩
 ·subst L;clear b c
  go_enter Tryz.func127,Tryz.ntmps127
  go_wp2_with (at_builtin;refine Lib.wpList_append_run _ Z _ _ _ _ Z _ _ Z Z _ _ (G.out _) ?_)
  go_ret
  exact⟨_,Z,i.out,m.out,k.out,o.out⟩
 have V:D<=9223372036854775807:=by unfold maxLen at S;omega
 clear b c X hs U Y S;by_cases O:D=n
 ·subst O
  go_enter Tryz.func127,Tryz.ntmps127
  go_wp2_with (at_builtin;refine Lib.wpList_append_run _ Z _ _ _ _ Z _ _ Z Z _ _ (G.out _) ?_)
  go_ret
  exact⟨_,Z,i.out,m.out,k.out,o.out⟩
 go_enter Tryz.func127,Tryz.ntmps127
 go_wp2_with (at_builtin;refine Lib.wpList_append_run _ Z _ _ _ _ Z _ _ Z Z _ _ (G.out _) ?_)
 go_ret
 exact⟨_,Z,i.out,m.out,k.out,o.out⟩
theorem Ca(w:World)(b n i c:Nat)(a:List Value)(F:i<n)(D:n<=c)(q:c<n+1)(G:n<=65536)(f:a.length=i)(x:∀j u,a[j]? =some u->w.cell? ⟨b,j,none⟩=some u)(p:a.all bG=true):
  ∃d o y,NoDigB o w.heap.size/\(∀ty,(Builtin.append_ #[98,3] ty #[.slice (some ⟨b,0,none⟩) i c,.int .i64 ((n+1-i:Nat):Int)]).run Tryz.prog w=.ok (.slice (some ⟨w.heap.size,0,none⟩) (n+1) d) o)/\o.ownsRow w.heap.size 23 1 (.slice (some ⟨w.heap.size,0,none⟩) (n+1) d) (n+1) (a++y)/\y.length=n+1-i/\Below w.heap.size w o/\n+1<=d/\d<=9223372036854775807:=by
 obtain⟨A,r,s,t,l⟩:=info_parts Hv;have m:(Builtin.firstCells A.size i (.slice (some ⟨b,0,none⟩) i c)).run Tryz.prog w.drew=.ok a.toArray w.drew:=by
  rw[t];exact run_firstCells_some w.drew 1 i ⟨b,0,none⟩ i c a (by omega) (fun j v C=>by rw[nY];exact x j v C)
 have g:=grownCap_ge w (i+(n+1-i)) c 23;have h:=grownCap_le_maxLen w (i+(n+1-i)) c 23 (by unfold maxLen;omega);have B:=fun ty=>Lib.run_append_grow_zeros w 98 3 ty 23 A _ .i64 .i64 Tryz.underlying98 Tryz.underlying3 r s (some ⟨b,0,none⟩) i c a m (n+1-i) (by omega) (by omega) (by omega) (by omega) (by rw[l];omega) (by rw[l];exact growslice_fits (by omega) (by omega))
 rw[show i+(n+1-i)=n+1 by omega]at B g h;refine⟨_,_,(Builtin.zeroCells (Value.slice none 0 0).cells (n+1-i)).toList,?_,B,⟨?_,.inr ⟨_,_,_,Z,Oh _,heap_alloc_new _ _,g,h,?_,?_⟩⟩,?_,((Below.refl _ _).drew).alloc (Oh _) _,g,by unfold maxLen at h;omega⟩
 ·refine cD (heap_alloc_new _ _) ?_;have E:=fun k=>iL (z:=Value.slice none 0 0) (by decide) k
  simp only[PK,Qd,p,E,SC]
 ·rw[Oj,f,Po,eM];omega
 ·rw[QU,QU,eM,eM,Rw,f];omega
 ·have e:(a++(Builtin.zeroCells (Value.slice none 0 0).cells (n+1-i)).toList).length=(n+1)*1:=by rw[Oj,f,Po,eM];omega
  rw[PK,PK,Rc (Qb e.symm)];exact Oy (Qb e)
 rw[Po,eM]
theorem M5(base n i D g b:Nat)(u:Value)(T:TypeId)(xs:List Value)(w:World)(c:w.ownsRow base 23 1 (.slice (some ⟨g,0,none⟩) n b) n xs)(B:w.heap[D]? =some (.cells #[u] T (0,0)))(P:u.oneCell'=true)(X:bG u=true)(hd:NoDigB w g)(S:∀x∈xs,x.oneCell'=true)(hi:i<n)(hn:n<=65536)(o:b<n+1)(m:base<=w.heap.size):
  Calls Tryz.prog 127 #[.slice (some ⟨g,0,none⟩) n b,.int .i64 i,.slice (some ⟨D,0,none⟩) 1 1] w (zF w base 23 (.slice (some ⟨g,0,none⟩) n b) n (xs.take i++[u]++xs.drop i)):=by
 obtain⟨_,V,U,a9,_⟩:=nM c;obtain⟨_,_,M,Q⟩:=f5 B;have H:xs.length=n:=by have:=c.1;omega
 have J:∀j x,xs[j]? =some x->w.cell? ⟨g,j,none⟩=some x:=fun j x e=>by
  have:=World.ownsRow.cells c (g:=g) Z j x e;rw[nY]at this;exact this
 obtain⟨f,l,zs,L,E,d,Y,K,a3,b2⟩:=Ca w g n i b (xs.take i) hi U o hn (by rw[Ox];omega) (fun j u e=>by
  rw[Ph]at e;split at e
  ·exact J j u e
  cases e) (lO (lm c hd) i)
 rw[show((n+1-i:Nat):Int)=(n:Int)+1-(i:Int) by omega]at E;have b1:IntKind.i64.wrap ((i:Int)+1)=(i:Int)+1:=by rw[Pj];omega
 have b4:(0:Int)<=(i:Int)+1:=by omega
 have b0:((i:Int)+1).toNat=i+1:=by omega
 have b3:(i:Int)<=(n:Int):=by omega
 have a2:(i:Int)<=(b:Int):=by omega
 have a5:¬((i:Int)=(n:Int)):=by omega
 have a4:(b:Int)<(n:Int)+1:=by omega
 have G:(xs.drop i).length=(n-i)*1:=by rw[OP,H];omega
 have C:(Tryz.prog.info? 23).map (·.size)=some 1:=by kernel_rfl
 have k:∀ty s,(Builtin.copy_ #[98,98] ty #[.slice (some ⟨w.heap.size,i,none⟩) (n+1-i) s,.slice (some ⟨D,0,none⟩) 1 1]).run Tryz.prog l=.ok (goInt (Nat.min 1 (n+1-i))) (l.setCells w.heap.size i [u]):=fun ty s=>
  dU l _ _ ty 23 w.heap.size i (n+1-i) s 1 ⟨D,0,none⟩ 1 1 [u] Tryz.underlying98 C (by rw[show Nat.min 1 (n+1-i)=1 from PM (by omega)];rfl)
   (fun j v e=>by
    cases j with
    |zero=>simp at e;subst e;rw[Addr.add_lit];exact(K.cell (p:=⟨D,0+0,none⟩) Q).trans M
    |succ j=>simp at e)
   (fun j e=>gE d (by simp at e;omega)) (fun j e=>dJ d _) (fun y hy=>by rw[OG.1 hy];exact P)
 have a:=cH [u] i l _ d;have h:=fR [u] i l _ d L (by simp[X]);have F:=mo (lm c hd) i;have t:Below w.heap.size w (l.setCells w.heap.size i [u]):=eU [u] _ K;obtain⟨r,A⟩:∃r,l.setCells w.heap.size i [u]=r:=⟨_,rfl⟩;rw[A]at a t h;simp only[A]at k;have I:Nat.min (n-i) (n-i)=n-i:=SO _;have a1:Tryz.prog.follows .mixedOrders=true:=by kernel_rfl
 have a0:¬(f=i+1):=by omega
 have R:¬(b=i):=by omega
 have z:∀(W:World),(∀x,W.cell? x=r.cell? x)->(∀x,W.frozen? x=r.frozen? x)->∀ty s sc,(Builtin.copy_ #[98,98] ty #[.slice (some ⟨w.heap.size,i+1,none⟩) (n-i) s,.slice (some ⟨g,i,none⟩) (n-i) sc]).run Tryz.prog W=.ok (goInt (Nat.min (n-i) (n-i))) (W.setCells w.heap.size (i+1) (xs.drop i)):=fun W hc hf ty s sc=>
  dU W _ _ ty 23 w.heap.size (i+1) (n-i) s 1 ⟨g,i,none⟩ (n-i) sc (xs.drop i) Tryz.underlying98 C (by rw[I,G])
   (fun j v e=>by
    rw[Addr.add_lit,hc];exact(t.cell (p:=⟨g,i+j,none⟩) V).trans (J _ v (by rwa[PB]at e)))
   (fun j e=>by rw[hc];exact gE a (by omega)) (fun j e=>by rw[hf];exact dJ a _) (fun v hv=>S v (Pq hv))
 clear c
 go_enter Tryz.func127,Tryz.ntmps127
 go_wp2_with (first
  |(at_builtin;refine Lib.wpList_append_run _ Z _ _ _ _ Z _ _ Z Z _ _ (E _) ?_)
  |(at_builtin;refine wpList_copy_runI _ Z _ _ 98 98 Z _ _ Z Z (k _ _) ?_))
 go_region_law_o (refine step_copy_runI Z _ _ 98 98 Z (.slice (some ⟨w.heap.size,i+1,none⟩) (n-i) (f-(i+1))) (.slice (some ⟨g,i,none⟩) (n-i) (b-i)) (by simp[Act.eval,Act.put,a0]) (by simp[Act.eval,Act.put,R]) (z r.drew (fun _=>rfl) (fun _=>rfl) 3 (f-(i+1)) (b-i)) ?_)
 go_wp2
 go_ret
 have h9:=cH (xs.drop i) (i+1) r.drew (ra (xs.take i++zs) i [u]) a;rw[tT xs zs u H Y hi]at h9;have O:=eU (xs.drop i) (i+1) t.drew;have N:=fR (xs.drop i) (i+1) r.drew _ a (h.of Z) F;exact⟨_,rfl,jw h9 m,rb O,.inr rfl,fun g' q=>by injection q with q;subst q;exact N⟩
theorem M6(base n i k g b:Nat)(u:Value)(T:TypeId)(xs:List Value)(w:World)(a:w.ownsRow base 23 1 (.slice (some ⟨g,0,none⟩) n b) n xs)(z:w.heap[k]? =some (.cells #[u] T (0,0)))(D:g≠k)(O:u.oneCell'=true)(Y:bG u=true)(hd:NoDigB w g)(U:∀x∈xs,x.oneCell'=true)(hi:i<n)(hn:n<=65536)(o:n+1<=b)(I:base<=w.heap.size):
  Calls Tryz.prog 127 #[.slice (some ⟨g,0,none⟩) n b,.int .i64 i,.slice (some ⟨k,0,none⟩) 1 1] w (zF w base 23 (.slice (some ⟨g,0,none⟩) n b) n (xs.take i++[u]++xs.drop i)):=by
 obtain⟨a2,b5,b4,b0,m⟩:=nM a;obtain⟨H,t,K,P⟩:=f5 z;have C:xs.length=n:=by have:=a.1;omega
 have a0:∀j x,xs[j]? =some x->w.cell? ⟨g,j,none⟩=some x:=fun j x f=>by
  have:=World.ownsRow.cells a (g:=g) Z j x f;rw[nY]at this;exact this
 have G:=dJ a;obtain⟨y,d⟩:=pO a o;have A:(Tryz.prog.info? 23).map (·.size)=some 1:=by kernel_rfl
 have F:∀w,(Go.sizeOf 23).run Tryz.prog w=.ok 1 w:=fun w=>by
  obtain⟨i0,N,_,S,_⟩:=info_parts Hv;simp[sizeOf,typeInfo,N,S]
 have W:∀V X,(callFunc 189 #[.slice (some ⟨k,0,none⟩) 1 1,.slice (some ⟨g,i+1,none⟩) V X]).run Tryz.prog w=.ok (.value (.bool false)) w:=fun V X=>by
  rw[run_callFunc_extern Tryz.func189 (by kernel_rfl) (by kernel_rfl) (by kernel_rfl) (e:=Extern.SlicesOverlaps.overlaps #[98,98] #[4]) (by kernel_rfl),
   Lib.run_overlaps_apart w 98 4 23 Tryz.underlying98 1 F ⟨k,0,none⟩ ⟨g,i+1,none⟩ 1 1 V X (fun e=>D e.symm) T 23 1 b H a2 (by omega) (t 0) (t 1)]
  rfl
 have b3:IntKind.i64.wrap ((i:Int)+1)=(i:Int)+1:=by rw[Pj];omega
 have c1:(0:Int)<=(i:Int)+1:=by omega
 have b2:((i:Int)+1).toNat=i+1:=by omega
 have c0:(i:Int)<=(n:Int):=by omega
 have a4:(i:Int)<=(b:Int):=by omega
 have Q:(i:Int)<=(n:Int)+1:=by omega
 have a9:¬((i:Int)=(n:Int)):=by omega
 have a5:¬((b:Int)<(n:Int)+1):=by omega
 have a1:¬(b=i+1):=by omega
 have R:¬(b=i):=by omega
 have b1:(n:Int)+1<=(b:Int):=by omega
 have L:(xs.drop i).length=n-i:=by rw[OP,C]
 have a3:Tryz.prog.follows .mixedOrders=true:=by kernel_rfl
 have l:∀ty s sc,(Builtin.copy_ #[98,98] ty #[.slice (some ⟨g,i+1,none⟩) (n-i) s,.slice (some ⟨g,i,none⟩) (n+1-i) sc]).run Tryz.prog w.drew=.ok (goInt (Nat.min (n+1-i) (n-i))) (w.drew.setCells g (i+1) (xs.drop i)):=fun ty s sc=>
  dU w.drew _ _ ty 23 g (i+1) (n-i) s 1 ⟨g,i,none⟩ (n+1-i) sc (xs.drop i) Tryz.underlying98 A (by rw[L,show Nat.min (n+1-i) (n-i)=n-i from Nat.min_eq_right (by omega)];omega)
   (fun j v f=>by rw[Addr.add_lit];exact a0 (i+j) v (by rwa[PB]at f))
   (fun j f=>m _ (by omega)) (fun j f=>G _) (fun v hv=>U v (Pq hv))
 have c:=cH (xs.drop i) (i+1) w.drew _ (d6 d ((Below.refl _ _).drew));have h:=fR (xs.drop i) (i+1) w.drew _ (d6 d ((Below.refl _ _).drew)) (hd.of Z) (mo (lm a hd) i);have q:w.grownBy (w.drew.setCells g (i+1) (xs.drop i)) (some g):=gF _ _ (tS (World.grownBy.refl _ _));obtain⟨r,B⟩:∃r,w.drew.setCells g (i+1) (xs.drop i)=r:=⟨_,rfl⟩;rw[B]at c q h;simp only[B]at l;have E:∀ty s,(Builtin.copy_ #[98,98] ty #[.slice (some ⟨g,i,none⟩) (n+1-i) s,.slice (some ⟨k,0,none⟩) 1 1]).run Tryz.prog r=.ok (goInt (Nat.min 1 (n+1-i))) (r.setCells g i [u]):=fun ty s=>
  dU r _ _ ty 23 g i (n+1-i) s 1 ⟨k,0,none⟩ 1 1 [u] Tryz.underlying98 A (by rw[show Nat.min 1 (n+1-i)=1 from PM (by omega)];rfl)
   (fun j v f=>by
    cases j with
    |zero=>simp at f;subst f;rw[Addr.add_lit];exact(World.cell?_of_block (q.block k P fun e=>D (by injection e with e;exact e.symm))).trans K
    |succ j=>simp at f)
   (fun j f=>gE c (by simp at f;omega)) (fun j f=>dJ c _) (fun y hy=>by rw[OG.1 hy];exact O)
 have HO:=J a;clear a d
 go_enter Tryz.func127,Tryz.ntmps127
 go_wp2_with (simp only[W])
 go_region_law_o (refine step_copy_runI Z _ _ 98 98 Z (.slice (some ⟨g,i+1,none⟩) (n-i) (b-(i+1))) (.slice (some ⟨g,i,none⟩) (n+1-i) (b-i)) (by simp[Act.eval,Act.put,a1]) (by simp[Act.eval,Act.put,R]) (l _ _ _) ?_)
 go_wp2_with (at_builtin;refine wpList_copy_runI _ Z _ _ 98 98 Z _ _ Z Z (E _ _) ?_)
 go_ret
 have h9:=cH [u] i r _ c;rw[rE xs y u C hi]at h9;have M:=fR [u] i r _ c h (by simp[Y]);exact⟨_,rfl,h9,gF _ _ q,.inl rfl,fun g' p=>by injection p with p;subst p;exact M⟩
theorem M7(base n i j:Nat)(v u:Value)(T:TypeId)(xs:List Value)(w:World)(a:w.ownsRow base 23 1 v n xs)(c:w.heap[j]? =some (.cells #[u] T (0,0)))(m:v.ownBlock≠some j)(d:u.oneCell'=true)(f:bG u=true)(p:∀g,v.ownBlock=some g->NoDigB w g)(l:∀x∈xs,x.oneCell'=true)(y:i<=n)(q:n<=65536)(b:base<=w.heap.size):
  Calls Tryz.prog 127 #[v,.int .i64 i,.slice (some ⟨j,0,none⟩) 1 1] w (zF w base 23 v n (xs.take i++[u]++xs.drop i)):=by
 have t:=a.1;rcases OS i n with k|r
 ·rcases a.2 with⟨rfl,s⟩|⟨g,h,cur,rfl,_⟩
  ·omega
  rcases OS h (n+1)with o|o
  ·exact M5 base n i j g h u T xs w a c d f (p g Z) l k q o b
  exact M6 base n i j g h u T xs w a c (fun e=>m (by rw[<-e];rfl)) d f (p g Z) l k q o b
 obtain rfl:i=n:=by omega
 rw[Oy (by omega),Ov (by omega),O5];exact M4 base i j v u T xs w a c d f p q b
theorem Hw:(Tryz.prog.info? 61).map (fun i=>(i.zero,i.size,i.bytes))=some (some (.slice none 0 0),1,24):=by kernel_rfl
theorem M8(base n p:Nat)(v u:Value)(T:TypeId)(xs:List Value)(w:World)(b:w.ownsRow base 61 1 v n xs)(r:w.heap[p]? =some (.cells #[u] T (0,0)))(K:u.oneCell'=true)(M:bG u=true)(Q:∀g,v.ownBlock=some g->NoDigB w g)(hn:n<=65536)(c:base<=w.heap.size):
  Calls Tryz.prog 128 #[v,.int .i64 n,.slice (some ⟨p,0,none⟩) 1 1] w (zF w base 61 v n (xs++[u])):=by
 obtain⟨i0,z,A,C,q⟩:=info_parts Hw;obtain⟨_,_,s,N⟩:=f5 r;have H:At w w.heap.size (some ⟨p,0,none⟩) [u]:=fun _=>⟨p,0,Z,N,fun j x l=>by
  cases j with
  |zero=>simp at l;subst l;exact s
  |succ j=>simp at l⟩
 have HO:=J b;obtain⟨f,h,d,E,t,B,F⟩:∃f h,(∀ty,(Builtin.append_ #[151,151] ty #[v,.slice (some ⟨p,0,none⟩) 1 1]).run Tryz.prog w=.ok f h)/\h.ownsRow base 61 1 f (n+1) (xs++[u])/\w.grownBy h v.ownBlock/\(f.ownBlock=v.ownBlock\/f.ownBlock=some w.heap.size)/\∀g,f.ownBlock=some g->NoDigB h g:=by
  have R:=fun ty=>lP (P:=Tryz.prog) w base 151 ty 61 i0 (.slice none 0 0) 1 24 Tryz.underlying151 z A C q Z (by decide) v n xs b (some ⟨p,0,none⟩) 1 1 [u] Z (fun e=>by cases e) (fun a I j x l=>by
   injection I with I
   subst I;cases j with
   |zero=>simp at l;subst l;exact s
   |succ j=>simp at l) (fun y W=>by rw[OG.1 W];exact K) (by unfold maxLen;omega) (by omega) c (by decide) (by simp[M]) Q
  obtain⟨f,h,h1,h2⟩:=R 151;refine⟨f,h,fun ty=>?_,h2⟩;obtain⟨v3,w3,h3,h4⟩:=R ty;exact h1
 have i:=J E;have m:=J t;have k:=J B;have o:=J F;have G:=J d;clear d E t B F Q z A C q;clear H;rcases b.2 with⟨rfl,L⟩|⟨g,D,cur,rfl,Y,X,a0,S,hs,U⟩
 ·subst L;clear b c
  go_enter Tryz.func128,Tryz.ntmps128
  go_wp2_with (at_builtin;refine Lib.wpList_append_run _ Z _ _ _ _ Z _ _ Z Z _ _ (G.out _) ?_)
  go_ret
  exact⟨_,Z,i.out,m.out,k.out,o.out⟩
 have V:D<=9223372036854775807:=by unfold maxLen at S;omega
 clear b c X hs U Y S;by_cases O:D=n
 ·subst O
  go_enter Tryz.func128,Tryz.ntmps128
  go_wp2_with (at_builtin;refine Lib.wpList_append_run _ Z _ _ _ _ Z _ _ Z Z _ _ (G.out _) ?_)
  go_ret
  exact⟨_,Z,i.out,m.out,k.out,o.out⟩
 go_enter Tryz.func128,Tryz.ntmps128
 go_wp2_with (at_builtin;refine Lib.wpList_append_run _ Z _ _ _ _ Z _ _ Z Z _ _ (G.out _) ?_)
 go_ret
 exact⟨_,Z,i.out,m.out,k.out,o.out⟩
theorem Cb(w:World)(b n i c:Nat)(a:List Value)(F:i<n)(D:n<=c)(q:c<n+1)(G:n<=65536)(f:a.length=i)(x:∀j u,a[j]? =some u->w.cell? ⟨b,j,none⟩=some u)(p:a.all bG=true):
  ∃d o y,NoDigB o w.heap.size/\(∀ty,(Builtin.append_ #[151,3] ty #[.slice (some ⟨b,0,none⟩) i c,.int .i64 ((n+1-i:Nat):Int)]).run Tryz.prog w=.ok (.slice (some ⟨w.heap.size,0,none⟩) (n+1) d) o)/\o.ownsRow w.heap.size 61 1 (.slice (some ⟨w.heap.size,0,none⟩) (n+1) d) (n+1) (a++y)/\y.length=n+1-i/\Below w.heap.size w o/\n+1<=d/\d<=9223372036854775807:=by
 obtain⟨A,r,s,t,l⟩:=info_parts Hw;have m:(Builtin.firstCells A.size i (.slice (some ⟨b,0,none⟩) i c)).run Tryz.prog w.drew=.ok a.toArray w.drew:=by
  rw[t];exact run_firstCells_some w.drew 1 i ⟨b,0,none⟩ i c a (by omega) (fun j v C=>by rw[nY];exact x j v C)
 have g:=grownCap_ge w (i+(n+1-i)) c 61;have h:=grownCap_le_maxLen w (i+(n+1-i)) c 61 (by unfold maxLen;omega);have B:=fun ty=>Lib.run_append_grow_zeros w 151 3 ty 61 A _ .i64 .i64 Tryz.underlying151 Tryz.underlying3 r s (some ⟨b,0,none⟩) i c a m (n+1-i) (by omega) (by omega) (by omega) (by omega) (by rw[l];omega) (by rw[l];exact growslice_fits (by omega) (by omega))
 rw[show i+(n+1-i)=n+1 by omega]at B g h;refine⟨_,_,(Builtin.zeroCells (Value.slice none 0 0).cells (n+1-i)).toList,?_,B,⟨?_,.inr ⟨_,_,_,Z,Oh _,heap_alloc_new _ _,g,h,?_,?_⟩⟩,?_,((Below.refl _ _).drew).alloc (Oh _) _,g,by unfold maxLen at h;omega⟩
 ·refine cD (heap_alloc_new _ _) ?_;have E:=fun k=>iL (z:=Value.slice none 0 0) (by decide) k
  simp only[PK,Qd,p,E,SC]
 ·rw[Oj,f,Po,eM];omega
 ·rw[QU,QU,eM,eM,Rw,f];omega
 ·have e:(a++(Builtin.zeroCells (Value.slice none 0 0).cells (n+1-i)).toList).length=(n+1)*1:=by rw[Oj,f,Po,eM];omega
  rw[PK,PK,Rc (Qb e.symm)];exact Oy (Qb e)
 rw[Po,eM]
theorem M9(base n i D g b:Nat)(u:Value)(T:TypeId)(xs:List Value)(w:World)(c:w.ownsRow base 61 1 (.slice (some ⟨g,0,none⟩) n b) n xs)(B:w.heap[D]? =some (.cells #[u] T (0,0)))(P:u.oneCell'=true)(X:bG u=true)(hd:NoDigB w g)(S:∀x∈xs,x.oneCell'=true)(hi:i<n)(hn:n<=65536)(o:b<n+1)(m:base<=w.heap.size):
  Calls Tryz.prog 128 #[.slice (some ⟨g,0,none⟩) n b,.int .i64 i,.slice (some ⟨D,0,none⟩) 1 1] w (zF w base 61 (.slice (some ⟨g,0,none⟩) n b) n (xs.take i++[u]++xs.drop i)):=by
 obtain⟨_,V,U,a9,_⟩:=nM c;obtain⟨_,_,M,Q⟩:=f5 B;have H:xs.length=n:=by have:=c.1;omega
 have J:∀j x,xs[j]? =some x->w.cell? ⟨g,j,none⟩=some x:=fun j x e=>by
  have:=World.ownsRow.cells c (g:=g) Z j x e;rw[nY]at this;exact this
 obtain⟨f,l,zs,L,E,d,Y,K,a3,b2⟩:=Cb w g n i b (xs.take i) hi U o hn (by rw[Ox];omega) (fun j u e=>by
  rw[Ph]at e;split at e
  ·exact J j u e
  cases e) (lO (lm c hd) i)
 rw[show((n+1-i:Nat):Int)=(n:Int)+1-(i:Int) by omega]at E;have b1:IntKind.i64.wrap ((i:Int)+1)=(i:Int)+1:=by rw[Pj];omega
 have b4:(0:Int)<=(i:Int)+1:=by omega
 have b0:((i:Int)+1).toNat=i+1:=by omega
 have b3:(i:Int)<=(n:Int):=by omega
 have a2:(i:Int)<=(b:Int):=by omega
 have a5:¬((i:Int)=(n:Int)):=by omega
 have a4:(b:Int)<(n:Int)+1:=by omega
 have G:(xs.drop i).length=(n-i)*1:=by rw[OP,H];omega
 have C:(Tryz.prog.info? 61).map (·.size)=some 1:=by kernel_rfl
 have k:∀ty s,(Builtin.copy_ #[151,151] ty #[.slice (some ⟨w.heap.size,i,none⟩) (n+1-i) s,.slice (some ⟨D,0,none⟩) 1 1]).run Tryz.prog l=.ok (goInt (Nat.min 1 (n+1-i))) (l.setCells w.heap.size i [u]):=fun ty s=>
  dU l _ _ ty 61 w.heap.size i (n+1-i) s 1 ⟨D,0,none⟩ 1 1 [u] Tryz.underlying151 C (by rw[show Nat.min 1 (n+1-i)=1 from PM (by omega)];rfl)
   (fun j v e=>by
    cases j with
    |zero=>simp at e;subst e;rw[Addr.add_lit];exact(K.cell (p:=⟨D,0+0,none⟩) Q).trans M
    |succ j=>simp at e)
   (fun j e=>gE d (by simp at e;omega)) (fun j e=>dJ d _) (fun y hy=>by rw[OG.1 hy];exact P)
 have a:=cH [u] i l _ d;have h:=fR [u] i l _ d L (by simp[X]);have F:=mo (lm c hd) i;have t:Below w.heap.size w (l.setCells w.heap.size i [u]):=eU [u] _ K;obtain⟨r,A⟩:∃r,l.setCells w.heap.size i [u]=r:=⟨_,rfl⟩;rw[A]at a t h;simp only[A]at k;have I:Nat.min (n-i) (n-i)=n-i:=SO _;have a1:Tryz.prog.follows .mixedOrders=true:=by kernel_rfl
 have a0:¬(f=i+1):=by omega
 have R:¬(b=i):=by omega
 have z:∀(W:World),(∀x,W.cell? x=r.cell? x)->(∀x,W.frozen? x=r.frozen? x)->∀ty s sc,(Builtin.copy_ #[151,151] ty #[.slice (some ⟨w.heap.size,i+1,none⟩) (n-i) s,.slice (some ⟨g,i,none⟩) (n-i) sc]).run Tryz.prog W=.ok (goInt (Nat.min (n-i) (n-i))) (W.setCells w.heap.size (i+1) (xs.drop i)):=fun W hc hf ty s sc=>
  dU W _ _ ty 61 w.heap.size (i+1) (n-i) s 1 ⟨g,i,none⟩ (n-i) sc (xs.drop i) Tryz.underlying151 C (by rw[I,G])
   (fun j v e=>by
    rw[Addr.add_lit,hc];exact(t.cell (p:=⟨g,i+j,none⟩) V).trans (J _ v (by rwa[PB]at e)))
   (fun j e=>by rw[hc];exact gE a (by omega)) (fun j e=>by rw[hf];exact dJ a _) (fun v hv=>S v (Pq hv))
 clear c
 go_enter Tryz.func128,Tryz.ntmps128
 go_wp2_with (first
  |(at_builtin;refine Lib.wpList_append_run _ Z _ _ _ _ Z _ _ Z Z _ _ (E _) ?_)
  |(at_builtin;refine wpList_copy_runI _ Z _ _ 151 151 Z _ _ Z Z (k _ _) ?_))
 go_region_law_o (refine step_copy_runI Z _ _ 151 151 Z (.slice (some ⟨w.heap.size,i+1,none⟩) (n-i) (f-(i+1))) (.slice (some ⟨g,i,none⟩) (n-i) (b-i)) (by simp[Act.eval,Act.put,a0]) (by simp[Act.eval,Act.put,R]) (z r.drew (fun _=>rfl) (fun _=>rfl) 3 (f-(i+1)) (b-i)) ?_)
 go_wp2
 go_ret
 have h9:=cH (xs.drop i) (i+1) r.drew (ra (xs.take i++zs) i [u]) a;rw[tT xs zs u H Y hi]at h9;have O:=eU (xs.drop i) (i+1) t.drew;have N:=fR (xs.drop i) (i+1) r.drew _ a (h.of Z) F;exact⟨_,rfl,jw h9 m,rb O,.inr rfl,fun g' q=>by injection q with q;subst q;exact N⟩
theorem Na(base n i k g b:Nat)(u:Value)(T:TypeId)(xs:List Value)(w:World)(a:w.ownsRow base 61 1 (.slice (some ⟨g,0,none⟩) n b) n xs)(z:w.heap[k]? =some (.cells #[u] T (0,0)))(D:g≠k)(O:u.oneCell'=true)(Y:bG u=true)(hd:NoDigB w g)(U:∀x∈xs,x.oneCell'=true)(hi:i<n)(hn:n<=65536)(o:n+1<=b)(I:base<=w.heap.size):
  Calls Tryz.prog 128 #[.slice (some ⟨g,0,none⟩) n b,.int .i64 i,.slice (some ⟨k,0,none⟩) 1 1] w (zF w base 61 (.slice (some ⟨g,0,none⟩) n b) n (xs.take i++[u]++xs.drop i)):=by
 obtain⟨a2,b5,b4,b0,m⟩:=nM a;obtain⟨H,t,K,P⟩:=f5 z;have C:xs.length=n:=by have:=a.1;omega
 have a0:∀j x,xs[j]? =some x->w.cell? ⟨g,j,none⟩=some x:=fun j x f=>by
  have:=World.ownsRow.cells a (g:=g) Z j x f;rw[nY]at this;exact this
 have G:=dJ a;obtain⟨y,d⟩:=pO a o;have A:(Tryz.prog.info? 61).map (·.size)=some 1:=by kernel_rfl
 have F:∀w,(Go.sizeOf 61).run Tryz.prog w=.ok 1 w:=fun w=>by
  obtain⟨i0,N,_,S,_⟩:=info_parts Hw;simp[sizeOf,typeInfo,N,S]
 have W:∀V X,(callFunc 191 #[.slice (some ⟨k,0,none⟩) 1 1,.slice (some ⟨g,i+1,none⟩) V X]).run Tryz.prog w=.ok (.value (.bool false)) w:=fun V X=>by
  rw[run_callFunc_extern Tryz.func191 (by kernel_rfl) (by kernel_rfl) (by kernel_rfl) (e:=Extern.SlicesOverlaps.overlaps #[151,151] #[4]) (by kernel_rfl),
   Lib.run_overlaps_apart w 151 4 61 Tryz.underlying151 1 F ⟨k,0,none⟩ ⟨g,i+1,none⟩ 1 1 V X (fun e=>D e.symm) T 61 1 b H a2 (by omega) (t 0) (t 1)]
  rfl
 have b3:IntKind.i64.wrap ((i:Int)+1)=(i:Int)+1:=by rw[Pj];omega
 have c1:(0:Int)<=(i:Int)+1:=by omega
 have b2:((i:Int)+1).toNat=i+1:=by omega
 have c0:(i:Int)<=(n:Int):=by omega
 have a4:(i:Int)<=(b:Int):=by omega
 have Q:(i:Int)<=(n:Int)+1:=by omega
 have a9:¬((i:Int)=(n:Int)):=by omega
 have a5:¬((b:Int)<(n:Int)+1):=by omega
 have a1:¬(b=i+1):=by omega
 have R:¬(b=i):=by omega
 have b1:(n:Int)+1<=(b:Int):=by omega
 have L:(xs.drop i).length=n-i:=by rw[OP,C]
 have a3:Tryz.prog.follows .mixedOrders=true:=by kernel_rfl
 have l:∀ty s sc,(Builtin.copy_ #[151,151] ty #[.slice (some ⟨g,i+1,none⟩) (n-i) s,.slice (some ⟨g,i,none⟩) (n+1-i) sc]).run Tryz.prog w.drew=.ok (goInt (Nat.min (n+1-i) (n-i))) (w.drew.setCells g (i+1) (xs.drop i)):=fun ty s sc=>
  dU w.drew _ _ ty 61 g (i+1) (n-i) s 1 ⟨g,i,none⟩ (n+1-i) sc (xs.drop i) Tryz.underlying151 A (by rw[L,show Nat.min (n+1-i) (n-i)=n-i from Nat.min_eq_right (by omega)];omega)
   (fun j v f=>by rw[Addr.add_lit];exact a0 (i+j) v (by rwa[PB]at f))
   (fun j f=>m _ (by omega)) (fun j f=>G _) (fun v hv=>U v (Pq hv))
 have c:=cH (xs.drop i) (i+1) w.drew _ (d6 d ((Below.refl _ _).drew));have h:=fR (xs.drop i) (i+1) w.drew _ (d6 d ((Below.refl _ _).drew)) (hd.of Z) (mo (lm a hd) i);have q:w.grownBy (w.drew.setCells g (i+1) (xs.drop i)) (some g):=gF _ _ (tS (World.grownBy.refl _ _));obtain⟨r,B⟩:∃r,w.drew.setCells g (i+1) (xs.drop i)=r:=⟨_,rfl⟩;rw[B]at c q h;simp only[B]at l;have E:∀ty s,(Builtin.copy_ #[151,151] ty #[.slice (some ⟨g,i,none⟩) (n+1-i) s,.slice (some ⟨k,0,none⟩) 1 1]).run Tryz.prog r=.ok (goInt (Nat.min 1 (n+1-i))) (r.setCells g i [u]):=fun ty s=>
  dU r _ _ ty 61 g i (n+1-i) s 1 ⟨k,0,none⟩ 1 1 [u] Tryz.underlying151 A (by rw[show Nat.min 1 (n+1-i)=1 from PM (by omega)];rfl)
   (fun j v f=>by
    cases j with
    |zero=>simp at f;subst f;rw[Addr.add_lit];exact(World.cell?_of_block (q.block k P fun e=>D (by injection e with e;exact e.symm))).trans K
    |succ j=>simp at f)
   (fun j f=>gE c (by simp at f;omega)) (fun j f=>dJ c _) (fun y hy=>by rw[OG.1 hy];exact O)
 have HO:=J a;clear a d
 go_enter Tryz.func128,Tryz.ntmps128
 go_wp2_with (simp only[W])
 go_region_law_o (refine step_copy_runI Z _ _ 151 151 Z (.slice (some ⟨g,i+1,none⟩) (n-i) (b-(i+1))) (.slice (some ⟨g,i,none⟩) (n+1-i) (b-i)) (by simp[Act.eval,Act.put,a1]) (by simp[Act.eval,Act.put,R]) (l _ _ _) ?_)
 go_wp2_with (at_builtin;refine wpList_copy_runI _ Z _ _ 151 151 Z _ _ Z Z (E _ _) ?_)
 go_ret
 have h9:=cH [u] i r _ c;rw[rE xs y u C hi]at h9;have M:=fR [u] i r _ c h (by simp[Y]);exact⟨_,rfl,h9,gF _ _ q,.inl rfl,fun g' p=>by injection p with p;subst p;exact M⟩
theorem Nb(base n i j:Nat)(v u:Value)(T:TypeId)(xs:List Value)(w:World)(a:w.ownsRow base 61 1 v n xs)(c:w.heap[j]? =some (.cells #[u] T (0,0)))(m:v.ownBlock≠some j)(d:u.oneCell'=true)(f:bG u=true)(p:∀g,v.ownBlock=some g->NoDigB w g)(l:∀x∈xs,x.oneCell'=true)(y:i<=n)(q:n<=65536)(b:base<=w.heap.size):
  Calls Tryz.prog 128 #[v,.int .i64 i,.slice (some ⟨j,0,none⟩) 1 1] w (zF w base 61 v n (xs.take i++[u]++xs.drop i)):=by
 have t:=a.1;rcases OS i n with k|r
 ·rcases a.2 with⟨rfl,s⟩|⟨g,h,cur,rfl,_⟩
  ·omega
  rcases OS h (n+1)with o|o
  ·exact M9 base n i j g h u T xs w a c d f (p g Z) l k q o b
  exact Na base n i j g h u T xs w a c (fun e=>m (by rw[<-e];rfl)) d f (p g Z) l k q o b
 obtain rfl:i=n:=by omega
 rw[Oy (by omega),Ov (by omega),O5];exact M8 base i j v u T xs w a c d f p q b
theorem we(a b:V):gT b a= -gT a b:=GF ..
theorem nj(a b:V): -1<=gT a b/\gT a b<=1:=Bt ..
theorem nk(a b:V):gT a b=0↔a=b:=by
 unfold gT;rw[JO];constructor
 ·rintro⟨d,c,e⟩;cases a;cases b;simp only at d c e;rw[d,c,e]
 rintro rfl;exact⟨rfl,rfl,rfl⟩
theorem zG{a b c:V}(e:gT a b<=0)(d:gT b c<=0):gT a c<=0:=Bu _ _ _ _ _ _ _ _ _ e d
theorem oG:∀l m:List V,-1<=bg l m/\bg l m<=1
 |[],[]=>by simp[bg]
 |[],_::_=>by simp[bg]
 |_::_,[]=>by simp[bg]
 |a::l,b::m=>by
  rw[bg];split
  ·exact oG l m
  exact nj a b
theorem pP:∀l m:List V,bg m l= -bg l m
 |[],[]=>rfl
 |[],_::_=>rfl
 |_::_,[]=>rfl
 |a::l,b::m=>by
  rw[bg,bg,we a b];by_cases h:gT a b=0
  ·rw[if_pos (by omega),if_pos h,pP l m]
  rw[if_neg (by omega),if_neg h]
theorem nN:∀l m:List V,bg l m=0↔l=m
 |[],[]=>by simp[bg]
 |[],_::_=>by simp[bg]
 |_::_,[]=>by simp[bg]
 |a::l,b::m=>by
  rw[bg];by_cases h:gT a b=0
  ·rw[if_pos h,nN l m,Q8,(nk a b).1 h];simp
  rw[if_neg h,Q8];constructor
  ·intro c;exact absurd c h
  rintro⟨c,_⟩;exact absurd ((nk a b).2 c) h
theorem wf(l:List V):bg l l=0:=(nN l l).2 Z
theorem tU:∀{l m n:List V},bg l m<=0->bg m n<=0->bg l n<=0
 |[],_,[],_,_=>by simp[bg]
 |[],_,_::_,_,_=>by simp[bg]
 |_::_,[],_,h,_=>by simp[bg]at h
 |_::_,_::_,[],_,h=>by simp[bg]at h
 |a::l,b::m,c::n,h1,h2=>by
  rw[bg]at h1 h2⊢;have i:=nj a b;have j:=nj b c;by_cases e:gT a b=0
  ·rw[if_pos e]at h1;have:=(nk a b).1 e;subst this;by_cases d:gT a c=0
   ·rw[if_pos d]at h2⊢;exact tU h1 h2
   rw[if_neg d]at h2⊢;exact h2
  rw[if_neg e]at h1;by_cases d:gT b c=0
  ·have:=(nk b c).1 d;subst this;rw[if_neg e];exact h1
  rw[if_neg d]at h2;have g:=zG h1 h2;by_cases f:gT a c=0
  ·have:=(nk a c).1 f;subst this;have:=we a b;omega
  rw[if_neg f];exact g
theorem kO{l m n:List V}(b:bg l m<0)(a:bg m n<0):bg l n<0:=by
 have c:=tU (Int.le_of_lt b) (Int.le_of_lt a);by_cases e:bg l n=0
 ·have:=(nN l n).1 e;subst this;have:=pP l m;omega
 omega
def jf(k:List V):Tree:=.sl (k.map V.tree)
theorem rF(l:List (List V)):Sized 1 (l.map jf):=Sized.map _ l fun _=>rfl
def Nc(K:List (List V))(k:List V):Prop:=∀(a b:Nat) (x y:List V),a<=b->K[a]? =some x->K[b]? =some y->bg y k<0->bg x k<0
theorem pQ{α:Type}{p:α->Bool}:∀{l:List α} {i:Nat},i<=l.length->(∀a x,a<i->l[a]? =some x->p x=true)->(∀x,l[i]? =some x->p x=false)->(l.takeWhile p).length=i
 |[],i,h,_,_=>by simp at h;simp[h]
 |y::l,0,_,_,h2=>by
  have:=h2 y Z;simp[PH,this]
 |y::l,i+1,h,h1,h2=>by
  have c:=h1 0 y (by omega) Z;have d:=pQ (p:=p) (l:=l) (i:=i) (by simpa using h) (fun a x e b=>h1 (a+1) x (by omega) (by simpa using b)) (fun x b=>h2 x (by simpa using b));simp[PH,c,d]
theorem Md{K:List (List V)}{i:Nat}(h:i<K.length):K[i]? =some (K.getD i []):=by
 rw[OE,Og h,OW]
theorem Hx{K:List (List V)}(h:∀x∈K,x.length<=65536)(i:Nat):(K.getD i []).length<=65536:=by
 rcases OS i K.length with a|a
 ·exact h _ (Om (Md a))
 rw[OE,Pi a];simp
theorem N1{a:Nat}(h:a<9223372036854775808):(Tree.sc (.int .u64 (IntKind.u64.wrap ((a:Nat):Int))))=.sc (.int .u64 ((a:Nat):Int)):=by rw[show IntKind.u64.wrap ((a:Nat):Int)=((a:Nat):Int) by rw[IntKind.wrap_u64];omega]
theorem N2{a:Nat}(h:a<9223372036854775808):(Tree.sc (.int .i64 (IntKind.i64.wrap ((a:Nat):Int))))=nI a:=by rw[show IntKind.i64.wrap ((a:Nat):Int)=((a:Nat):Int) by rw[Pj];omega]
theorem Km{x y:Operand}(a:Nat)(w:World):(do eqGuard .shr 36 x y (.int .u64 (a:Nat)) (.int .u64 1);binOp .shr 36 (.int .u64 (a:Nat)) (.int .u64 1):Sem Value).run Tryz.prog w=.ok (.int .u64 ((a/2:Nat):Int)) w:=by
 simp[eqGuard,binOp,Op.shift,IntKind.bits];exact Ro _ (by omega)
theorem Ko{K:List (List V)}{k:List V}{i j:Nat}(f:j<=K.length)(d:i=j)(l:∀a x,a<i->K[a]? =some x->bg x k<0)(m:∀b y,j<=b->K[b]? =some y->¬bg y k<0):ki [nI i,bT ((decide (i<K.length))&&((bg (K.getD i []) k)==0))]=.tup [nI (bF K k),bT ((K[bF K k]?).any fun x=>bg x k==0)]:=by
 subst d;have h:bF K k=i:=pQ f (fun a x g e=>decide_eq_true (l a x g e)) (fun x e=>decide_eq_false (m i x (Oh _) e));rw[h];rcases OS i K.length with c|c
 ·rw[Md c,decide_eq_true c];rfl
 rw[decide_eq_false (by omega),Pi c];rfl
theorem jg:gS Tryz.prog 151=some (61,1):=by kernel_rfl
theorem dQ:Tryz.prog.underlying 3=some (.int .i64):=by kernel_rfl
theorem mp:Tryz.prog.underlying 36=some (.int .u64):=by kernel_rfl
theorem Me(K:List (List V))(k:List V)(E:K.length<=65536)(u:Nc K k)(A:∀x∈K,x.length<=65536)(v:k.length<=65536):Ct 126 [.sl (K.map jf),.sl (k.map V.tree),.sc (Jr 64)] (.tup [nI (bF K k),bT ((K[bF K k]?).any fun x=>bg x k==0)]):=by
 refine Ct.of (n:=49) Tryz.func126 Z Z Z Z Z fun w0 G0=>?_
 refine ab<|aj 2 Z<|ab<|ae<|aa 1 Z<|ag (t:=nI K.length) Z Z Z (ah (aW Z jg Z) (by simp only[Ol]))<|aa 1 Z<|af<|ab<|aj 3 Z<|ab<|aA<|aO (fun z B=>∃(i:Nat) (j:Nat),(i<=j/\j<=K.length/\(∀a x,a<i->K[a]? =some x->bg x k<0)/\∀b y,j<=b->K[b]? =some y->¬bg y k<0)/\z=j-i/\B=⟨49,[(0,.sl (K.map jf)),(1,.sl (k.map V.tree)),(2,.sc (Jr 64)),(6,iT 0),(7,bT false),(8,nI K.length),(9,nI i),(10,nI j)],[],[]⟩) 0 0 ⟨0,K.length,⟨OA _,Oh _,fun a x D=>by omega,fun b y q g=>by rw[Pi q]at g;cases g⟩,Z,Z⟩ .rf ?_;rintro z B ⟨i,j,⟨C,s,l,h⟩,rfl,rfl⟩;refine ab<|ab<|ae<|aa 2 Z<|ag (t:=bT (decide (i<j))) Z Z Z (ah (ai Z Z Z Zy) (au (gK i j)))<|af<|aD Z (fun p=>?_) (fun p=>?_)
 ·refine ar<|aA<|ab<|ae<|aa 2 Z<|ag (t:=nI (i+j)) Z Z Z (ah (ai Z Z Z Zy) (bp (by omega)))<|ag (t:=.sc (.int .u64 ((i+j:Nat):Int))) Z Z Z (ah (bM Z dQ mp Z) (N1 (by omega)))<|ag (t:=.sc (.int .u64 (((i+j)/2:Nat):Int))) Z Z Z (ai Z Z Z (fun w=>Km (i+j) w))<|ag (t:=nI ((i+j)/2)) Z Z Z (ah (bM Z mp dQ Z) (N2 (by omega)))<|aa 1 Z<|af<|ab ?_;obtain⟨x,d⟩:∃x,K[(i+j)/2]? =some x:=⟨_,Og (by omega)⟩;have r:=A x (Om d);refine ae<|aa 3 Z<|ag (t:=.ref [.sl (x.map V.tree)]) Z Z Z (aK (jf x) Z jg Z Z Z (aX (f:=jf) d) (rF _) Z)<|aa 2 Z<|ag (t:=iT (bg x k)) Z Z Z (yT Z Z (jF _ _ r v) Z Z)<|ag (t:=bT (decide ((bg x k)<0))) Z Z Z (ai Z Z Z Zy)<|af<|aD Z (fun e=>?_) (fun e=>?_)
  ·refine ae<|aa 1 Z<|ag (t:=nI (((i+j)/2)+1)) Z Z Z (ah (ai Z Z Z Zy) (bp (by omega)))<|aa 1 Z<|af<|⟨_,_,?_,⟨((i+j)/2)+1,j,?_,Z,Z⟩,.rf⟩
   ·omega
   refine⟨by omega,by omega,fun a y D g=>?_,h⟩;exact u a _ y x (by omega) g d e
  refine aj 2 Z<|⟨_,_,?_,⟨i,(i+j)/2,?_,Z,Z⟩,.rf⟩
  ·omega
  refine⟨by omega,by omega,l,fun b y q g m=>?_⟩;exact e (u _ b x y q d g m)
 refine aQ<|ab<|ae<|aa 3 Z<|ag (t:=bT (decide (i<K.length))) Z Z Z (ah (ai Z Z Z Zy) (au (gK i K.length)))<|aa 1 Z<|aw (t:=.sc (Jr 64)) Z Z Z Z (fun c=>av Z Z)<|aw (t:=.sl (K.map jf)) Z Z Z Z (fun c=>av Z Z)<|aw (t:=nI i) Z Z Z Z (fun c=>av Z Z)<|aw (t:=.ref [.sl ((K.getD i []).map V.tree)]) Z Z Z Z (fun c=>aK (jf (K.getD i [])) Z jg (if_pos c) (if_pos c) Z (aX (f:=jf) (Md (of_decide_eq_true c))) (rF _) Z)<|aw (t:=.sl ((K.getD i []).map V.tree)) Z Z Z Z (fun c=>be Z (if_pos c) cJ Z)<|aw (t:=.sl (k.map V.tree)) Z Z Z Z (fun c=>av Z Z)<|aw (t:=iT (bg (K.getD i []) k)) Z Z Z Z (fun c=>yT Z (if_pos c) (jF _ _ (Hx A i) v) (eo (if_pos c) (eo (if_pos c) Z)) Z)<|aw (t:=bT ((bg (K.getD i []) k)==0)) Z Z Z Z (fun c=>ai Z (if_pos c) Z (fun _=>rfl))<|ag (t:=bT ((decide (i<K.length))&&((bg (K.getD i []) k)==0))) Z Z Z (aL Z Z (fun o=>(if_pos o).trans (au (by rw[o];rfl))) (fun o=>(au (by rw[o];rfl))))<|aa 2 Z<|af<|ax<|⟨.inr Z,_,.cons Z (.cons Z .nil),Ko s (by omega) l h,Z⟩
end Go.Proofs.YtfoejfohbkmmeaaGreatDoor
