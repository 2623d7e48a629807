import Derived.Test.YtfoejfohbkmmeaaGreatDoorQ24
import Derived.Lib.Overlaps
import Derived.Test.YtfoejfohbkmmeaaGreatDoorQ00
import Derived.Test.YtfoejfohbkmmeaaGreatDoorQ17
import Derived.Test.YtfoejfohbkmmeaaGreatDoorQ11
import Derived.Test.YtfoejfohbkmmeaaGreatDoorQ10
import Derived.Test.YtfoejfohbkmmeaaGreatDoorQ07
set_option maxRecDepth 100000
set_option maxHeartbeats 4000000
namespace Go.Proofs.YtfoejfohbkmmeaaGreatDoor
open Go.RowKit
open Lib renaming hid→J
def xR(w:World)(base:Nat)(E:TypeId)(v:Value)(n:Nat)(ys:List Value)(e:Ending)(w':World):Prop:=∃v',e=.returned v'/\w'.ownsRow base E 1 v' (n+1) ys/\w.grownBy w' v.ownBlock/\(v'.ownBlock=v.ownBlock\/v'.ownBlock=some w.heap.size)/\∀g,v'.ownBlock=some g->NoDigB w' g
theorem m5(g j:Nat):(⟨g,0,none⟩:Addr).add j=⟨g,j,none⟩:=by rw[Addr.add_lit];simp
theorem oT{w:World}{base g n a:Nat}{e:TypeId}{xs:List Value}(h:w.ownsRow base e 1 (.slice (some ⟨g,0,none⟩) n a) n xs)(j:n+1<=a):∃y,w.ownsRow base e 1 (.slice (some ⟨g,0,none⟩) (n+1) a) (n+1) (xs++[y]):=by
 obtain⟨k,o⟩:=h;rcases o with⟨c,_⟩|⟨t,i,cur,c,l,q,s,m,p,f⟩
 ·cases c
 injection c with b _ r
 injection b with b
 injection b with b
 subst b r;have d:n<cur.toList.length:=by rw[M7];omega
 refine⟨cur.toList[n],by simp[k],.inr ⟨g,a,cur,Z,l,q,j,m,p,?_⟩⟩;rw[Oh]at f⊢;rw[Mq d,f]
theorem fB{w:World}{g:Nat}{T:TypeId}{u:Value}(h:w.heap[g]? =some (.cells #[u] T (0,0))):w.shape? g=some (T,1)/\(∀i,w.frozen? ⟨g,i,none⟩=false)/\w.cell? ⟨g,0,none⟩=some u/\g<w.heap.size:=by
 refine⟨by unfold World.shape?;rw[h];rfl,fun i=>by unfold World.frozen?;simp[h],?_,(ML.1 h).1⟩;have:=IsBlk.cell (w:=w) (g:=g) (t:=T) (cs:=#[u]) h 0;simpa using this
theorem mQ{w:World}{base g n a:Nat}{e:TypeId}{xs:List Value}(h:w.ownsRow base e 1 (.slice (some ⟨g,0,none⟩) n a) n xs):w.shape? g=some (e,a)/\g<w.heap.size/\n<=a/\a<=9223372036854775807/\∀j,j<a->(w.cell? ⟨g,j,none⟩).isSome=true:=by
 obtain⟨p,k⟩:=h;rcases k with⟨c,_⟩|⟨s,f,cur,c,q,d,l,i,m,r⟩
 ·cases c
 injection c with b _ o
 injection b with b
 injection b with b
 subst b o;refine⟨by unfold World.shape?;rw[d];simp[m],(ML.1 d).1,l,by unfold maxLen at i;omega,fun j u=>?_⟩;have:=IsBlk.cell (w:=w) (g:=g) (t:=e) (cs:=cur) d j;rw[this,MH (by omega)];rfl
theorem uz{w:World}{base g n d sz i:Nat}{e:TypeId}{xs:List Value}(h:w.ownsRow base e sz (.slice (some ⟨g,0,none⟩) n d) n xs)(o:NoDigB w g){u:Value}(m:bL u=true):NoDigB (w.setCell ⟨g,i,none⟩ u) g:=by
 rcases h.2 with⟨b,_⟩|⟨q,j,cur,b,p,f,_⟩
 ·cases b
 injection b with a _ _
 injection a with a
 injection a with a
 subst a;have l:=my f o;refine cI (c:=cur.setIfInBounds i u) (e:=e) (fr:=(0,0)) (by simp[World.setCell,NJ,f]) ?_;rw[NQ];refine Mh.2 fun x k=>?_
 rcases OH k with h|rfl
 ·exact Mh.1 l x h
 exact m
theorem fp{base g n a sz:Nat}{e:TypeId}:∀(vs:List Value) (o:Nat) (w:World) (xs:List Value),w.ownsRow base e sz (.slice (some ⟨g,0,none⟩) n a) n xs->NoDigB w g->vs.all bL=true->NoDigB (w.setCells g o vs) g
 |[],_,_,_,_,h,_=>h
 |v::r,o,w,xs,ho,h,hv=>by
  simp only[NP,Ma]at hv;exact fp r (o+1) _ _ (iR ho v) (uz ho h hv.1) hv.2
theorem kH{w:World}{base g n a:Nat}{e:TypeId}{xs:List Value}(h:w.ownsRow base e 1 (.slice (some ⟨g,0,none⟩) n a) n xs)(d:NoDigB w g):xs.all bL=true:=Mh.2 fun u c=>by
 obtain⟨j,b,rfl⟩:=Nb c;refine d j _ ?_;have:=World.ownsRow.cells h (g:=g) Z j _ (L4 b);rwa[m5]at this
theorem lq{l:List Value}(h:l.all bL=true)(n:Nat):(l.drop n).all bL=true:=Mh.2 fun x a=>Mh.1 h x (M2 a)
theorem pQ{w w':World}{r:Option Nat}(a:Below w.heap.size w w'):w.grownBy w' r:=⟨a.os,a.tape,a.output,a.size,fun k b _=>a.block k b⟩
theorem sH{w w':World}{row:Option Nat}(h:w.grownBy w' row):w.grownBy w'.drew row:=⟨h.os,h.tape,h.output,h.size,h.block⟩
theorem fP{w:World}{g:Nat}:∀(vs:List Value) (o:Nat) {W:World},w.grownBy W (some g)->w.grownBy (W.setCells g o vs) (some g)
 |[],_,_,h=>h
 |v::r,o,_,h=>fP r (o+1) (h.trans ⟨Z,Z,Z,by simp[World.setCell],fun k _ a=>by
   simp only[World.setCell];rw[NJ,if_neg (fun e=>a (by rw[e]))]⟩)
theorem qm(xs:List Value)(y u:Value){n i:Nat}(f:xs.length=n)(g:i<n):pP (pP (xs++[y]) (i+1) (xs.drop i)) i [u]=xs.take i++[u]++xs.drop i:=by
 have e:xs++[y]=xs.take (i+1)++(xs.drop (i+1)++[y])++[]:=by rw[MA,<-MG,M8]
 have a:(xs.take (i+1)).length=i+1:=by rw[Mf];omega
 have c:=jB (xs.drop i) (xs.take (i+1)) (xs.drop (i+1)++[y]) [] (by simp;omega);rw[a]at c;rw[e,c,MA,Mq (by omega)];have b:(xs.take i).length=i:=by rw[Mf];omega
 have d:=jB [u] (xs.take i) [xs[i]'(by omega)] (xs.drop i) Z;rw[b]at d;exact d
theorem sI(xs a:List Value)(u:Value){n i:Nat}(e:xs.length=n)(g:a.length=n+1-i)(f:i<n):pP (pP (xs.take i++a) i [u]) (i+1) (xs.drop i)=xs.take i++[u]++xs.drop i:=by
 have b:(xs.take i).length=i:=by rw[Mf];omega
 have d:xs.take i++a=xs.take i++a.take 1++a.drop 1:=by rw[MG,M8]
 have c:=jB [u] (xs.take i) (a.take 1) (a.drop 1) (by simp;omega);rw[b]at c;rw[d,c];have h:=jB (xs.drop i) (xs.take i++[u]) (a.drop 1) [] (by simp;omega);rw[MA,MA,Mc,b]at h;exact h
theorem eh(k:Nat):(Builtin.zeroCells (Value.slice none 0 0).cells k).size=k:=by simp[Builtin.zeroCells,Value.cells]
theorem i6{w:World}{b d sz n:Nat}{e:TypeId}{v:Value}{xs:List Value}(h:w.ownsRow d e sz v n xs)(f:b<=d):w.ownsRow b e sz v n xs:=by
 refine⟨h.1,?_⟩;rcases h.2 with k|⟨g,c,cur,i,j,a⟩
 ·exact .inl k
 exact .inr ⟨g,c,cur,i,L6 f j,a⟩
theorem Fh:(Tryz.prog.info? 23).map (fun i=>(i.zero,i.size,i.bytes))=some (some (.slice none 0 0),1,24):=by kernel_rfl
theorem Kp(base n p:Nat)(v u:Value)(T:TypeId)(xs:List Value)(w:World)(b:w.ownsRow base 23 1 v n xs)(C:w.heap[p]? =some (.cells #[u] T (0,0)))(M:u.oneCell'=true)(I:bL u=true)(S:∀g,v.ownBlock=some g->NoDigB w g)(hn:n<=65536)(c:base<=w.heap.size):
  Calls Tryz.prog 127 #[v,.int .i64 n,.slice (some ⟨p,0,none⟩) 1 1] w (xR w base 23 v n (xs++[u])):=by
 obtain⟨X,s,E,t,B⟩:=info_parts Fh;obtain⟨_,_,z,L⟩:=fB C;have G:At w w.heap.size (some ⟨p,0,none⟩) [u]:=fun _=>⟨p,0,Z,L,fun j x l=>by
  cases j with
  |zero=>simp at l;subst l;exact z
  |succ j=>simp at l⟩
 have HO:=J b;obtain⟨f,k,d,A,q,F,r⟩:∃f k,(∀ty,(Builtin.append_ #[98,98] ty #[v,.slice (some ⟨p,0,none⟩) 1 1]).run Tryz.prog w=.ok f k)/\k.ownsRow base 23 1 f (n+1) (xs++[u])/\w.grownBy k v.ownBlock/\(f.ownBlock=v.ownBlock\/f.ownBlock=some w.heap.size)/\∀g,f.ownBlock=some g->NoDigB k g:=by
  have Q:=fun ty=>mz (P:=Tryz.prog) w base 98 ty 23 X (.slice none 0 0) 1 24 Tryz.underlying98 s E t B Z (by decide) v n xs b (some ⟨p,0,none⟩) 1 1 [u] Z (fun e=>by cases e) (fun a O j x l=>by
   injection O with O
   subst O;cases j with
   |zero=>simp at l;subst l;exact z
   |succ j=>simp at l) (fun y hy=>by rw[Ml.1 hy];exact M) (by unfold maxLen;omega) (by omega) c (by decide) (by simp[I]) S
  obtain⟨f,k,h1,Y⟩:=Q 98;refine⟨f,k,fun ty=>?_,Y⟩;obtain⟨v3,w3,h3,h4⟩:=Q ty;exact h1
 have i:=J A;have h:=J q;have o:=J F;have m:=J r;have H:=J d;clear d A q F r S s E t B;clear G;rcases b.2 with⟨rfl,K⟩|⟨g,D,cur,rfl,U,hg,W,R,hs,V⟩
 ·subst K;clear b c
  go_enter Tryz.func127,Tryz.ntmps127
  go_wp2_with (at_builtin;refine Lib.wpList_append_run _ Z _ _ _ _ Z _ _ Z Z _ _ (H.out _) ?_)
  go_ret
  exact⟨_,Z,i.out,h.out,o.out,m.out⟩
 have a0:D<=9223372036854775807:=by unfold maxLen at R;omega
 clear b c hg hs V U R;by_cases N:D=n
 ·subst N
  go_enter Tryz.func127,Tryz.ntmps127
  go_wp2_with (at_builtin;refine Lib.wpList_append_run _ Z _ _ _ _ Z _ _ Z Z _ _ (H.out _) ?_)
  go_ret
  exact⟨_,Z,i.out,h.out,o.out,m.out⟩
 go_enter Tryz.func127,Tryz.ntmps127
 go_wp2_with (at_builtin;refine Lib.wpList_append_run _ Z _ _ _ _ Z _ _ Z Z _ _ (H.out _) ?_)
 go_ret
 exact⟨_,Z,i.out,h.out,o.out,m.out⟩
theorem Ac(w:World)(b n i c:Nat)(a:List Value)(G:i<n)(C:n<=c)(p:c<n+1)(F:n<=65536)(g:a.length=i)(s:∀j u,a[j]? =some u->w.cell? ⟨b,j,none⟩=some u)(x:a.all bL=true):
  ∃d o B,NoDigB o w.heap.size/\(∀ty,(Builtin.append_ #[98,3] ty #[.slice (some ⟨b,0,none⟩) i c,.int .i64 ((n+1-i:Nat):Int)]).run Tryz.prog w=.ok (.slice (some ⟨w.heap.size,0,none⟩) (n+1) d) o)/\o.ownsRow w.heap.size 23 1 (.slice (some ⟨w.heap.size,0,none⟩) (n+1) d) (n+1) (a++B)/\B.length=n+1-i/\Below w.heap.size w o/\n+1<=d/\d<=9223372036854775807:=by
 obtain⟨A,q,t,r,l⟩:=info_parts Fh;have m:(Builtin.firstCells A.size i (.slice (some ⟨b,0,none⟩) i c)).run Tryz.prog w.drew=.ok a.toArray w.drew:=by
  rw[r];exact run_firstCells_some w.drew 1 i ⟨b,0,none⟩ i c a (by omega) (fun j v E=>by rw[m5];exact s j v E)
 have h:=grownCap_ge w (i+(n+1-i)) c 23;have f:=grownCap_le_maxLen w (i+(n+1-i)) c 23 (by unfold maxLen;omega);have y:=fun ty=>Lib.run_append_grow_zeros w 98 3 ty 23 A _ .i64 .i64 Tryz.underlying98 Tryz.underlying3 q t (some ⟨b,0,none⟩) i c a m (n+1-i) (by omega) (by omega) (by omega) (by omega) (by rw[l];omega) (by rw[l];exact growslice_fits (by omega) (by omega))
 rw[show i+(n+1-i)=n+1 by omega]at y h f;refine⟨_,_,(Builtin.zeroCells (Value.slice none 0 0).cells (n+1-i)).toList,?_,y,⟨?_,.inr ⟨_,_,_,Z,L5 _,heap_alloc_new _ _,h,f,?_,?_⟩⟩,?_,((Below.refl _ _).drew).alloc (L5 _) _,h,by unfold maxLen at f;omega⟩
 ·refine cI (heap_alloc_new _ _) ?_;have D:=fun k=>g5 (z:=Value.slice none 0 0) (by decide) k
  simp only[Nv,NX,x,D,Ql]
 ·rw[Mc,g,M7,eh];omega
 ·rw[OG,OG,eh,eh,OR,g];omega
 ·have e:(a++(Builtin.zeroCells (Value.slice none 0 0).cells (n+1-i)).toList).length=(n+1)*1:=by rw[Mc,g,M7,eh];omega
  rw[Nv,Nv,OP (Ob e.symm)];exact Me (Ob e)
 rw[M7,eh]
theorem Kq(base n i F g b:Nat)(u:Value)(T:TypeId)(xs:List Value)(w:World)(c:w.ownsRow base 23 1 (.slice (some ⟨g,0,none⟩) n b) n xs)(G:w.heap[F]? =some (.cells #[u] T (0,0)))(X:u.oneCell'=true)(L:bL u=true)(hd:NoDigB w g)(Q:∀x∈xs,x.oneCell'=true)(hi:i<n)(hn:n<=65536)(l:b<n+1)(s:base<=w.heap.size):
  Calls Tryz.prog 127 #[.slice (some ⟨g,0,none⟩) n b,.int .i64 i,.slice (some ⟨F,0,none⟩) 1 1] w (xR w base 23 (.slice (some ⟨g,0,none⟩) n b) n (xs.take i++[u]++xs.drop i)):=by
 obtain⟨_,U,N,a5,_⟩:=mQ c;obtain⟨_,_,M,V⟩:=fB G;have A:xs.length=n:=by have:=c.1;omega
 have E:∀j x,xs[j]? =some x->w.cell? ⟨g,j,none⟩=some x:=fun j x e=>by
  have:=World.ownsRow.cells c (g:=g) Z j x e;rw[m5]at this;exact this
 obtain⟨f,o,zs,S,z,d,R,J,b5,b2⟩:=Ac w g n i b (xs.take i) hi N l hn (by rw[Mf];omega) (fun j u e=>by
  rw[MZ]at e;split at e
  ·exact E j u e
  cases e) (kZ (kH c hd) i)
 rw[show((n+1-i:Nat):Int)=(n:Int)+1-(i:Int) by omega]at z;have b1:IntKind.i64.wrap ((i:Int)+1)=(i:Int)+1:=by rw[Ns];omega
 have a9:(0:Int)<=(i:Int)+1:=by omega
 have b3:((i:Int)+1).toNat=i+1:=by omega
 have a3:(i:Int)<=(n:Int):=by omega
 have a2:(i:Int)<=(b:Int):=by omega
 have b0:¬((i:Int)=(n:Int)):=by omega
 have a4:(b:Int)<(n:Int)+1:=by omega
 have K:(xs.drop i).length=(n-i)*1:=by rw[MS,A];omega
 have D:(Tryz.prog.info? 23).map (·.size)=some 1:=by kernel_rfl
 have h:∀ty q,(Builtin.copy_ #[98,98] ty #[.slice (some ⟨w.heap.size,i,none⟩) (n+1-i) q,.slice (some ⟨F,0,none⟩) 1 1]).run Tryz.prog o=.ok (goInt (Nat.min 1 (n+1-i))) (o.setCells w.heap.size i [u]):=fun ty q=>
  di o _ _ ty 23 w.heap.size i (n+1-i) q 1 ⟨F,0,none⟩ 1 1 [u] Tryz.underlying98 D (by rw[show Nat.min 1 (n+1-i)=1 from Nl (by omega)];rfl)
   (fun j v e=>by
    cases j with
    |zero=>simp at e;subst e;rw[Addr.add_lit];exact(J.cell (p:=⟨F,0+0,none⟩) V).trans M
    |succ j=>simp at e)
   (fun j e=>fO d (by simp at e;omega)) (fun j e=>dd d _) (fun y hy=>by rw[Ml.1 hy];exact X)
 have a:=cj [u] i o _ d;have k:=fp [u] i o _ d S (by simp[L]);have C:=lq (kH c hd) i;have t:Below w.heap.size w (o.setCells w.heap.size i [u]):=eA [u] _ J;obtain⟨m,B⟩:∃m,o.setCells w.heap.size i [u]=m:=⟨_,rfl⟩;rw[B]at a t k;simp only[B]at h;have H:Nat.min (n-i) (n-i)=n-i:=Qv _;have a1:Tryz.prog.follows .mixedOrders=true:=by kernel_rfl
 have O:¬(f=i+1):=by omega
 have Y:¬(b=i):=by omega
 have I:∀(W:World),(∀x,W.cell? x=m.cell? x)->(∀x,W.frozen? x=m.frozen? x)->∀ty q sc,(Builtin.copy_ #[98,98] ty #[.slice (some ⟨w.heap.size,i+1,none⟩) (n-i) q,.slice (some ⟨g,i,none⟩) (n-i) sc]).run Tryz.prog W=.ok (goInt (Nat.min (n-i) (n-i))) (W.setCells w.heap.size (i+1) (xs.drop i)):=fun W hc hf ty q sc=>
  di W _ _ ty 23 w.heap.size (i+1) (n-i) q 1 ⟨g,i,none⟩ (n-i) sc (xs.drop i) Tryz.underlying98 D (by rw[H,K])
   (fun j v e=>by
    rw[Addr.add_lit,hc];exact(t.cell (p:=⟨g,i+j,none⟩) U).trans (E _ v (by rwa[Nd]at e)))
   (fun j e=>by rw[hc];exact fO a (by omega)) (fun j e=>by rw[hf];exact dd a _) (fun v hv=>Q v (M2 hv))
 clear c
 go_enter Tryz.func127,Tryz.ntmps127
 go_wp2_with (first
  |(at_builtin;refine Lib.wpList_append_run _ Z _ _ _ _ Z _ _ Z Z _ _ (z _) ?_)
  |(at_builtin;refine wpList_copy_runI _ Z _ _ 98 98 Z _ _ Z Z (h _ _) ?_))
 go_region_law_o (refine step_copy_runI Z _ _ 98 98 Z (.slice (some ⟨w.heap.size,i+1,none⟩) (n-i) (f-(i+1))) (.slice (some ⟨g,i,none⟩) (n-i) (b-i)) (by simp[Act.eval,Act.put]) (by simp[Act.eval,Act.put]) (I m.drew (fun _=>rfl) (fun _=>rfl) 3 (f-(i+1)) (b-i)) ?_)
 go_wp2
 go_ret
 have h9:=cj (xs.drop i) (i+1) m.drew (pP (xs.take i++zs) i [u]) a;rw[sI xs zs u A R hi]at h9;have P:=eA (xs.drop i) (i+1) t.drew;have a0:=fp (xs.drop i) (i+1) m.drew _ a (k.of Z) C;exact⟨_,rfl,i6 h9 s,pQ P,.inr rfl,fun g' r=>by injection r with r;subst r;exact a0⟩
theorem Kr(base n i k g b:Nat)(u:Value)(T:TypeId)(xs:List Value)(w:World)(a:w.ownsRow base 23 1 (.slice (some ⟨g,0,none⟩) n b) n xs)(F:w.heap[k]? =some (.cells #[u] T (0,0)))(A:g≠k)(W:u.oneCell'=true)(G:bL u=true)(hd:NoDigB w g)(S:∀x∈xs,x.oneCell'=true)(hi:i<n)(hn:n<=65536)(m:n+1<=b)(X:base<=w.heap.size):
  Calls Tryz.prog 127 #[.slice (some ⟨g,0,none⟩) n b,.int .i64 i,.slice (some ⟨k,0,none⟩) 1 1] w (xR w base 23 (.slice (some ⟨g,0,none⟩) n b) n (xs.take i++[u]++xs.drop i)):=by
 obtain⟨Q,b5,b1,b2,r⟩:=mQ a;obtain⟨L,t,O,U⟩:=fB F;have B:xs.length=n:=by have:=a.1;omega
 have V:∀j x,xs[j]? =some x->w.cell? ⟨g,j,none⟩=some x:=fun j x f=>by
  have:=World.ownsRow.cells a (g:=g) Z j x f;rw[m5]at this;exact this
 have K:=dd a;obtain⟨y,d⟩:=oT a m;have E:(Tryz.prog.info? 23).map (·.size)=some 1:=by kernel_rfl
 have z:∀w,(Go.sizeOf 23).run Tryz.prog w=.ok 1 w:=fun w=>by
  obtain⟨i0,M,_,N,_⟩:=info_parts Fh;simp[sizeOf,typeInfo,M,N]
 have Y:∀I H,(callFunc 189 #[.slice (some ⟨k,0,none⟩) 1 1,.slice (some ⟨g,i+1,none⟩) I H]).run Tryz.prog w=.ok (.value (.bool false)) w:=fun I H=>by
  rw[run_callFunc_extern Tryz.func189 (by kernel_rfl) (by kernel_rfl) (by kernel_rfl) (e:=Extern.SlicesOverlaps.overlaps #[98,98] #[4]) (by kernel_rfl),
   Lib.run_overlaps_apart w 98 4 23 Tryz.underlying98 1 z ⟨k,0,none⟩ ⟨g,i+1,none⟩ 1 1 I H (fun e=>A e.symm) T 23 1 b L Q (by omega) (t 0) (t 1)]
  rfl
 have c1:IntKind.i64.wrap ((i:Int)+1)=(i:Int)+1:=by rw[Ns];omega
 have b3:(0:Int)<=(i:Int)+1:=by omega
 have c2:((i:Int)+1).toNat=i+1:=by omega
 have a5:(i:Int)<=(n:Int):=by omega
 have a4:(i:Int)<=(b:Int):=by omega
 have P:(i:Int)<=(n:Int)+1:=by omega
 have c0:¬((i:Int)=(n:Int)):=by omega
 have a9:¬((b:Int)<(n:Int)+1):=by omega
 have R:¬(b=i+1):=by omega
 have a1:¬(b=i):=by omega
 have b0:(n:Int)+1<=(b:Int):=by omega
 have a0:(xs.drop i).length=n-i:=by rw[MS,B]
 have a3:Tryz.prog.follows .mixedOrders=true:=by kernel_rfl
 have h:∀ty p sc,(Builtin.copy_ #[98,98] ty #[.slice (some ⟨g,i+1,none⟩) (n-i) p,.slice (some ⟨g,i,none⟩) (n+1-i) sc]).run Tryz.prog w.drew=.ok (goInt (Nat.min (n+1-i) (n-i))) (w.drew.setCells g (i+1) (xs.drop i)):=fun ty p sc=>
  di w.drew _ _ ty 23 g (i+1) (n-i) p 1 ⟨g,i,none⟩ (n+1-i) sc (xs.drop i) Tryz.underlying98 E (by rw[a0,show Nat.min (n+1-i) (n-i)=n-i from Pp (by omega)];omega)
   (fun j v f=>by rw[Addr.add_lit];exact V (i+j) v (by rwa[Nd]at f))
   (fun j f=>r _ (by omega)) (fun j f=>K _) (fun v hv=>S v (M2 hv))
 have c:=cj (xs.drop i) (i+1) w.drew _ (dz d ((Below.refl _ _).drew));have l:=fp (xs.drop i) (i+1) w.drew _ (dz d ((Below.refl _ _).drew)) (hd.of Z) (lq (kH a hd) i);have s:w.grownBy (w.drew.setCells g (i+1) (xs.drop i)) (some g):=fP _ _ (sH (World.grownBy.refl _ _));obtain⟨o,C⟩:∃o,w.drew.setCells g (i+1) (xs.drop i)=o:=⟨_,rfl⟩;rw[C]at c s l;simp only[C]at h;have D:∀ty p,(Builtin.copy_ #[98,98] ty #[.slice (some ⟨g,i,none⟩) (n+1-i) p,.slice (some ⟨k,0,none⟩) 1 1]).run Tryz.prog o=.ok (goInt (Nat.min 1 (n+1-i))) (o.setCells g i [u]):=fun ty p=>
  di o _ _ ty 23 g i (n+1-i) p 1 ⟨k,0,none⟩ 1 1 [u] Tryz.underlying98 E (by rw[show Nat.min 1 (n+1-i)=1 from Nl (by omega)];rfl)
   (fun j v f=>by
    cases j with
    |zero=>simp at f;subst f;rw[Addr.add_lit];exact(World.cell?_of_block (s.block k U fun e=>A (by injection e with e;exact e.symm))).trans O
    |succ j=>simp at f)
   (fun j f=>fO c (by simp at f;omega)) (fun j f=>dd c _) (fun y hy=>by rw[Ml.1 hy];exact W)
 have HO:=J a;clear a d
 go_enter Tryz.func127,Tryz.ntmps127
 go_wp2_with (simp only[Y])
 go_region_law_o (refine step_copy_runI Z _ _ 98 98 Z (.slice (some ⟨g,i+1,none⟩) (n-i) (b-(i+1))) (.slice (some ⟨g,i,none⟩) (n+1-i) (b-i)) (by simp[Act.eval,Act.put]) (by simp[Act.eval,Act.put]) (h _ _ _) ?_)
 go_wp2_with (at_builtin;refine wpList_copy_runI _ Z _ _ 98 98 Z _ _ Z Z (D _ _) ?_)
 go_ret
 have h9:=cj [u] i o _ c;rw[qm xs y u B hi]at h9;have a2:=fp [u] i o _ c l (by simp[G]);exact⟨_,rfl,h9,fP _ _ s,.inl rfl,fun g' q=>by injection q with q;subst q;exact a2⟩
theorem Ks(base n i j:Nat)(v u:Value)(T:TypeId)(xs:List Value)(w:World)(a:w.ownsRow base 23 1 v n xs)(c:w.heap[j]? =some (.cells #[u] T (0,0)))(o:v.ownBlock≠some j)(f:u.oneCell'=true)(d:bL u=true)(q:∀g,v.ownBlock=some g->NoDigB w g)(k:∀x∈xs,x.oneCell'=true)(t:i<=n)(p:n<=65536)(b:base<=w.heap.size):
  Calls Tryz.prog 127 #[v,.int .i64 i,.slice (some ⟨j,0,none⟩) 1 1] w (xR w base 23 v n (xs.take i++[u]++xs.drop i)):=by
 have y:=a.1;rcases MI i n with l|s
 ·rcases a.2 with⟨rfl,r⟩|⟨g,h,cur,rfl,_⟩
  ·omega
  rcases MI h (n+1)with m|m
  ·exact Kq base n i j g h u T xs w a c f d (q g Z) k l p m b
  exact Kr base n i j g h u T xs w a c (fun e=>o (by rw[<-e];rfl)) f d (q g Z) k l p m b
 obtain rfl:i=n:=by omega
 rw[Me (by omega),Mg (by omega),MA];exact Kp base i j v u T xs w a c f d q p b
theorem Fi:(Tryz.prog.info? 61).map (fun i=>(i.zero,i.size,i.bytes))=some (some (.slice none 0 0),1,24):=by kernel_rfl
theorem Kt(base n p:Nat)(v u:Value)(T:TypeId)(xs:List Value)(w:World)(b:w.ownsRow base 61 1 v n xs)(C:w.heap[p]? =some (.cells #[u] T (0,0)))(M:u.oneCell'=true)(I:bL u=true)(S:∀g,v.ownBlock=some g->NoDigB w g)(hn:n<=65536)(c:base<=w.heap.size):
  Calls Tryz.prog 128 #[v,.int .i64 n,.slice (some ⟨p,0,none⟩) 1 1] w (xR w base 61 v n (xs++[u])):=by
 obtain⟨X,s,E,t,B⟩:=info_parts Fi;obtain⟨_,_,z,L⟩:=fB C;have G:At w w.heap.size (some ⟨p,0,none⟩) [u]:=fun _=>⟨p,0,Z,L,fun j x l=>by
  cases j with
  |zero=>simp at l;subst l;exact z
  |succ j=>simp at l⟩
 have HO:=J b;obtain⟨f,k,d,A,q,F,r⟩:∃f k,(∀ty,(Builtin.append_ #[151,151] ty #[v,.slice (some ⟨p,0,none⟩) 1 1]).run Tryz.prog w=.ok f k)/\k.ownsRow base 61 1 f (n+1) (xs++[u])/\w.grownBy k v.ownBlock/\(f.ownBlock=v.ownBlock\/f.ownBlock=some w.heap.size)/\∀g,f.ownBlock=some g->NoDigB k g:=by
  have Q:=fun ty=>mz (P:=Tryz.prog) w base 151 ty 61 X (.slice none 0 0) 1 24 Tryz.underlying151 s E t B Z (by decide) v n xs b (some ⟨p,0,none⟩) 1 1 [u] Z (fun e=>by cases e) (fun a O j x l=>by
   injection O with O
   subst O;cases j with
   |zero=>simp at l;subst l;exact z
   |succ j=>simp at l) (fun y hy=>by rw[Ml.1 hy];exact M) (by unfold maxLen;omega) (by omega) c (by decide) (by simp[I]) S
  obtain⟨f,k,h1,Y⟩:=Q 151;refine⟨f,k,fun ty=>?_,Y⟩;obtain⟨v3,w3,h3,h4⟩:=Q ty;exact h1
 have i:=J A;have h:=J q;have o:=J F;have m:=J r;have H:=J d;clear d A q F r S s E t B;clear G;rcases b.2 with⟨rfl,K⟩|⟨g,D,cur,rfl,U,hg,W,R,hs,V⟩
 ·subst K;clear b c
  go_enter Tryz.func128,Tryz.ntmps128
  go_wp2_with (at_builtin;refine Lib.wpList_append_run _ Z _ _ _ _ Z _ _ Z Z _ _ (H.out _) ?_)
  go_ret
  exact⟨_,Z,i.out,h.out,o.out,m.out⟩
 have a0:D<=9223372036854775807:=by unfold maxLen at R;omega
 clear b c hg hs V U R;by_cases N:D=n
 ·subst N
  go_enter Tryz.func128,Tryz.ntmps128
  go_wp2_with (at_builtin;refine Lib.wpList_append_run _ Z _ _ _ _ Z _ _ Z Z _ _ (H.out _) ?_)
  go_ret
  exact⟨_,Z,i.out,h.out,o.out,m.out⟩
 go_enter Tryz.func128,Tryz.ntmps128
 go_wp2_with (at_builtin;refine Lib.wpList_append_run _ Z _ _ _ _ Z _ _ Z Z _ _ (H.out _) ?_)
 go_ret
 exact⟨_,Z,i.out,h.out,o.out,m.out⟩
theorem Ae(w:World)(b n i c:Nat)(a:List Value)(G:i<n)(C:n<=c)(p:c<n+1)(F:n<=65536)(g:a.length=i)(s:∀j u,a[j]? =some u->w.cell? ⟨b,j,none⟩=some u)(x:a.all bL=true):
  ∃d o B,NoDigB o w.heap.size/\(∀ty,(Builtin.append_ #[151,3] ty #[.slice (some ⟨b,0,none⟩) i c,.int .i64 ((n+1-i:Nat):Int)]).run Tryz.prog w=.ok (.slice (some ⟨w.heap.size,0,none⟩) (n+1) d) o)/\o.ownsRow w.heap.size 61 1 (.slice (some ⟨w.heap.size,0,none⟩) (n+1) d) (n+1) (a++B)/\B.length=n+1-i/\Below w.heap.size w o/\n+1<=d/\d<=9223372036854775807:=by
 obtain⟨A,q,t,r,l⟩:=info_parts Fi;have m:(Builtin.firstCells A.size i (.slice (some ⟨b,0,none⟩) i c)).run Tryz.prog w.drew=.ok a.toArray w.drew:=by
  rw[r];exact run_firstCells_some w.drew 1 i ⟨b,0,none⟩ i c a (by omega) (fun j v E=>by rw[m5];exact s j v E)
 have h:=grownCap_ge w (i+(n+1-i)) c 61;have f:=grownCap_le_maxLen w (i+(n+1-i)) c 61 (by unfold maxLen;omega);have y:=fun ty=>Lib.run_append_grow_zeros w 151 3 ty 61 A _ .i64 .i64 Tryz.underlying151 Tryz.underlying3 q t (some ⟨b,0,none⟩) i c a m (n+1-i) (by omega) (by omega) (by omega) (by omega) (by rw[l];omega) (by rw[l];exact growslice_fits (by omega) (by omega))
 rw[show i+(n+1-i)=n+1 by omega]at y h f;refine⟨_,_,(Builtin.zeroCells (Value.slice none 0 0).cells (n+1-i)).toList,?_,y,⟨?_,.inr ⟨_,_,_,Z,L5 _,heap_alloc_new _ _,h,f,?_,?_⟩⟩,?_,((Below.refl _ _).drew).alloc (L5 _) _,h,by unfold maxLen at f;omega⟩
 ·refine cI (heap_alloc_new _ _) ?_;have D:=fun k=>g5 (z:=Value.slice none 0 0) (by decide) k
  simp only[Nv,NX,x,D,Ql]
 ·rw[Mc,g,M7,eh];omega
 ·rw[OG,OG,eh,eh,OR,g];omega
 ·have e:(a++(Builtin.zeroCells (Value.slice none 0 0).cells (n+1-i)).toList).length=(n+1)*1:=by rw[Mc,g,M7,eh];omega
  rw[Nv,Nv,OP (Ob e.symm)];exact Me (Ob e)
 rw[M7,eh]
theorem Ku(base n i F g b:Nat)(u:Value)(T:TypeId)(xs:List Value)(w:World)(c:w.ownsRow base 61 1 (.slice (some ⟨g,0,none⟩) n b) n xs)(G:w.heap[F]? =some (.cells #[u] T (0,0)))(X:u.oneCell'=true)(L:bL u=true)(hd:NoDigB w g)(Q:∀x∈xs,x.oneCell'=true)(hi:i<n)(hn:n<=65536)(l:b<n+1)(s:base<=w.heap.size):
  Calls Tryz.prog 128 #[.slice (some ⟨g,0,none⟩) n b,.int .i64 i,.slice (some ⟨F,0,none⟩) 1 1] w (xR w base 61 (.slice (some ⟨g,0,none⟩) n b) n (xs.take i++[u]++xs.drop i)):=by
 obtain⟨_,U,N,a5,_⟩:=mQ c;obtain⟨_,_,M,V⟩:=fB G;have A:xs.length=n:=by have:=c.1;omega
 have E:∀j x,xs[j]? =some x->w.cell? ⟨g,j,none⟩=some x:=fun j x e=>by
  have:=World.ownsRow.cells c (g:=g) Z j x e;rw[m5]at this;exact this
 obtain⟨f,o,zs,S,z,d,R,J,b5,b2⟩:=Ae w g n i b (xs.take i) hi N l hn (by rw[Mf];omega) (fun j u e=>by
  rw[MZ]at e;split at e
  ·exact E j u e
  cases e) (kZ (kH c hd) i)
 rw[show((n+1-i:Nat):Int)=(n:Int)+1-(i:Int) by omega]at z;have b1:IntKind.i64.wrap ((i:Int)+1)=(i:Int)+1:=by rw[Ns];omega
 have a9:(0:Int)<=(i:Int)+1:=by omega
 have b3:((i:Int)+1).toNat=i+1:=by omega
 have a3:(i:Int)<=(n:Int):=by omega
 have a2:(i:Int)<=(b:Int):=by omega
 have b0:¬((i:Int)=(n:Int)):=by omega
 have a4:(b:Int)<(n:Int)+1:=by omega
 have K:(xs.drop i).length=(n-i)*1:=by rw[MS,A];omega
 have D:(Tryz.prog.info? 61).map (·.size)=some 1:=by kernel_rfl
 have h:∀ty q,(Builtin.copy_ #[151,151] ty #[.slice (some ⟨w.heap.size,i,none⟩) (n+1-i) q,.slice (some ⟨F,0,none⟩) 1 1]).run Tryz.prog o=.ok (goInt (Nat.min 1 (n+1-i))) (o.setCells w.heap.size i [u]):=fun ty q=>
  di o _ _ ty 61 w.heap.size i (n+1-i) q 1 ⟨F,0,none⟩ 1 1 [u] Tryz.underlying151 D (by rw[show Nat.min 1 (n+1-i)=1 from Nl (by omega)];rfl)
   (fun j v e=>by
    cases j with
    |zero=>simp at e;subst e;rw[Addr.add_lit];exact(J.cell (p:=⟨F,0+0,none⟩) V).trans M
    |succ j=>simp at e)
   (fun j e=>fO d (by simp at e;omega)) (fun j e=>dd d _) (fun y hy=>by rw[Ml.1 hy];exact X)
 have a:=cj [u] i o _ d;have k:=fp [u] i o _ d S (by simp[L]);have C:=lq (kH c hd) i;have t:Below w.heap.size w (o.setCells w.heap.size i [u]):=eA [u] _ J;obtain⟨m,B⟩:∃m,o.setCells w.heap.size i [u]=m:=⟨_,rfl⟩;rw[B]at a t k;simp only[B]at h;have H:Nat.min (n-i) (n-i)=n-i:=Qv _;have a1:Tryz.prog.follows .mixedOrders=true:=by kernel_rfl
 have O:¬(f=i+1):=by omega
 have Y:¬(b=i):=by omega
 have I:∀(W:World),(∀x,W.cell? x=m.cell? x)->(∀x,W.frozen? x=m.frozen? x)->∀ty q sc,(Builtin.copy_ #[151,151] ty #[.slice (some ⟨w.heap.size,i+1,none⟩) (n-i) q,.slice (some ⟨g,i,none⟩) (n-i) sc]).run Tryz.prog W=.ok (goInt (Nat.min (n-i) (n-i))) (W.setCells w.heap.size (i+1) (xs.drop i)):=fun W hc hf ty q sc=>
  di W _ _ ty 61 w.heap.size (i+1) (n-i) q 1 ⟨g,i,none⟩ (n-i) sc (xs.drop i) Tryz.underlying151 D (by rw[H,K])
   (fun j v e=>by
    rw[Addr.add_lit,hc];exact(t.cell (p:=⟨g,i+j,none⟩) U).trans (E _ v (by rwa[Nd]at e)))
   (fun j e=>by rw[hc];exact fO a (by omega)) (fun j e=>by rw[hf];exact dd a _) (fun v hv=>Q v (M2 hv))
 clear c
 go_enter Tryz.func128,Tryz.ntmps128
 go_wp2_with (first
  |(at_builtin;refine Lib.wpList_append_run _ Z _ _ _ _ Z _ _ Z Z _ _ (z _) ?_)
  |(at_builtin;refine wpList_copy_runI _ Z _ _ 151 151 Z _ _ Z Z (h _ _) ?_))
 go_region_law_o (refine step_copy_runI Z _ _ 151 151 Z (.slice (some ⟨w.heap.size,i+1,none⟩) (n-i) (f-(i+1))) (.slice (some ⟨g,i,none⟩) (n-i) (b-i)) (by simp[Act.eval,Act.put]) (by simp[Act.eval,Act.put]) (I m.drew (fun _=>rfl) (fun _=>rfl) 3 (f-(i+1)) (b-i)) ?_)
 go_wp2
 go_ret
 have h9:=cj (xs.drop i) (i+1) m.drew (pP (xs.take i++zs) i [u]) a;rw[sI xs zs u A R hi]at h9;have P:=eA (xs.drop i) (i+1) t.drew;have a0:=fp (xs.drop i) (i+1) m.drew _ a (k.of Z) C;exact⟨_,rfl,i6 h9 s,pQ P,.inr rfl,fun g' r=>by injection r with r;subst r;exact a0⟩
theorem Kv(base n i k g b:Nat)(u:Value)(T:TypeId)(xs:List Value)(w:World)(a:w.ownsRow base 61 1 (.slice (some ⟨g,0,none⟩) n b) n xs)(F:w.heap[k]? =some (.cells #[u] T (0,0)))(A:g≠k)(W:u.oneCell'=true)(G:bL u=true)(hd:NoDigB w g)(S:∀x∈xs,x.oneCell'=true)(hi:i<n)(hn:n<=65536)(m:n+1<=b)(X:base<=w.heap.size):
  Calls Tryz.prog 128 #[.slice (some ⟨g,0,none⟩) n b,.int .i64 i,.slice (some ⟨k,0,none⟩) 1 1] w (xR w base 61 (.slice (some ⟨g,0,none⟩) n b) n (xs.take i++[u]++xs.drop i)):=by
 obtain⟨Q,b5,b1,b2,r⟩:=mQ a;obtain⟨L,t,O,U⟩:=fB F;have B:xs.length=n:=by have:=a.1;omega
 have V:∀j x,xs[j]? =some x->w.cell? ⟨g,j,none⟩=some x:=fun j x f=>by
  have:=World.ownsRow.cells a (g:=g) Z j x f;rw[m5]at this;exact this
 have K:=dd a;obtain⟨y,d⟩:=oT a m;have E:(Tryz.prog.info? 61).map (·.size)=some 1:=by kernel_rfl
 have z:∀w,(Go.sizeOf 61).run Tryz.prog w=.ok 1 w:=fun w=>by
  obtain⟨i0,M,_,N,_⟩:=info_parts Fi;simp[sizeOf,typeInfo,M,N]
 have Y:∀I H,(callFunc 191 #[.slice (some ⟨k,0,none⟩) 1 1,.slice (some ⟨g,i+1,none⟩) I H]).run Tryz.prog w=.ok (.value (.bool false)) w:=fun I H=>by
  rw[run_callFunc_extern Tryz.func191 (by kernel_rfl) (by kernel_rfl) (by kernel_rfl) (e:=Extern.SlicesOverlaps.overlaps #[151,151] #[4]) (by kernel_rfl),
   Lib.run_overlaps_apart w 151 4 61 Tryz.underlying151 1 z ⟨k,0,none⟩ ⟨g,i+1,none⟩ 1 1 I H (fun e=>A e.symm) T 61 1 b L Q (by omega) (t 0) (t 1)]
  rfl
 have c1:IntKind.i64.wrap ((i:Int)+1)=(i:Int)+1:=by rw[Ns];omega
 have b3:(0:Int)<=(i:Int)+1:=by omega
 have c2:((i:Int)+1).toNat=i+1:=by omega
 have a5:(i:Int)<=(n:Int):=by omega
 have a4:(i:Int)<=(b:Int):=by omega
 have P:(i:Int)<=(n:Int)+1:=by omega
 have c0:¬((i:Int)=(n:Int)):=by omega
 have a9:¬((b:Int)<(n:Int)+1):=by omega
 have R:¬(b=i+1):=by omega
 have a1:¬(b=i):=by omega
 have b0:(n:Int)+1<=(b:Int):=by omega
 have a0:(xs.drop i).length=n-i:=by rw[MS,B]
 have a3:Tryz.prog.follows .mixedOrders=true:=by kernel_rfl
 have h:∀ty p sc,(Builtin.copy_ #[151,151] ty #[.slice (some ⟨g,i+1,none⟩) (n-i) p,.slice (some ⟨g,i,none⟩) (n+1-i) sc]).run Tryz.prog w.drew=.ok (goInt (Nat.min (n+1-i) (n-i))) (w.drew.setCells g (i+1) (xs.drop i)):=fun ty p sc=>
  di w.drew _ _ ty 61 g (i+1) (n-i) p 1 ⟨g,i,none⟩ (n+1-i) sc (xs.drop i) Tryz.underlying151 E (by rw[a0,show Nat.min (n+1-i) (n-i)=n-i from Pp (by omega)];omega)
   (fun j v f=>by rw[Addr.add_lit];exact V (i+j) v (by rwa[Nd]at f))
   (fun j f=>r _ (by omega)) (fun j f=>K _) (fun v hv=>S v (M2 hv))
 have c:=cj (xs.drop i) (i+1) w.drew _ (dz d ((Below.refl _ _).drew));have l:=fp (xs.drop i) (i+1) w.drew _ (dz d ((Below.refl _ _).drew)) (hd.of Z) (lq (kH a hd) i);have s:w.grownBy (w.drew.setCells g (i+1) (xs.drop i)) (some g):=fP _ _ (sH (World.grownBy.refl _ _));obtain⟨o,C⟩:∃o,w.drew.setCells g (i+1) (xs.drop i)=o:=⟨_,rfl⟩;rw[C]at c s l;simp only[C]at h;have D:∀ty p,(Builtin.copy_ #[151,151] ty #[.slice (some ⟨g,i,none⟩) (n+1-i) p,.slice (some ⟨k,0,none⟩) 1 1]).run Tryz.prog o=.ok (goInt (Nat.min 1 (n+1-i))) (o.setCells g i [u]):=fun ty p=>
  di o _ _ ty 61 g i (n+1-i) p 1 ⟨k,0,none⟩ 1 1 [u] Tryz.underlying151 E (by rw[show Nat.min 1 (n+1-i)=1 from Nl (by omega)];rfl)
   (fun j v f=>by
    cases j with
    |zero=>simp at f;subst f;rw[Addr.add_lit];exact(World.cell?_of_block (s.block k U fun e=>A (by injection e with e;exact e.symm))).trans O
    |succ j=>simp at f)
   (fun j f=>fO c (by simp at f;omega)) (fun j f=>dd c _) (fun y hy=>by rw[Ml.1 hy];exact W)
 have HO:=J a;clear a d
 go_enter Tryz.func128,Tryz.ntmps128
 go_wp2_with (simp only[Y])
 go_region_law_o (refine step_copy_runI Z _ _ 151 151 Z (.slice (some ⟨g,i+1,none⟩) (n-i) (b-(i+1))) (.slice (some ⟨g,i,none⟩) (n+1-i) (b-i)) (by simp[Act.eval,Act.put]) (by simp[Act.eval,Act.put]) (h _ _ _) ?_)
 go_wp2_with (at_builtin;refine wpList_copy_runI _ Z _ _ 151 151 Z _ _ Z Z (D _ _) ?_)
 go_ret
 have h9:=cj [u] i o _ c;rw[qm xs y u B hi]at h9;have a2:=fp [u] i o _ c l (by simp[G]);exact⟨_,rfl,h9,fP _ _ s,.inl rfl,fun g' q=>by injection q with q;subst q;exact a2⟩
theorem Kw(base n i j:Nat)(v u:Value)(T:TypeId)(xs:List Value)(w:World)(a:w.ownsRow base 61 1 v n xs)(c:w.heap[j]? =some (.cells #[u] T (0,0)))(o:v.ownBlock≠some j)(f:u.oneCell'=true)(d:bL u=true)(q:∀g,v.ownBlock=some g->NoDigB w g)(k:∀x∈xs,x.oneCell'=true)(t:i<=n)(p:n<=65536)(b:base<=w.heap.size):
  Calls Tryz.prog 128 #[v,.int .i64 i,.slice (some ⟨j,0,none⟩) 1 1] w (xR w base 61 v n (xs.take i++[u]++xs.drop i)):=by
 have y:=a.1;rcases MI i n with l|s
 ·rcases a.2 with⟨rfl,r⟩|⟨g,h,cur,rfl,_⟩
  ·omega
  rcases MI h (n+1)with m|m
  ·exact Ku base n i j g h u T xs w a c f d (q g Z) k l p m b
  exact Kv base n i j g h u T xs w a c (fun e=>o (by rw[<-e];rfl)) f d (q g Z) k l p m b
 obtain rfl:i=n:=by omega
 rw[Me (by omega),Mg (by omega),MA];exact Kt base i j v u T xs w a c f d q p b
theorem uA(a b:V):gd b a= -gd a b:=EO ..
theorem me(a b:V): -1<=gd a b/\gd a b<=1:=zz ..
theorem mf(a b:V):gd a b=0↔a=b:=by
 unfold gd;rw[G5];constructor
 ·rintro⟨e,d,c⟩;cases a;cases b;simp only at e d c;rw[e,d,c]
 rintro rfl;exact⟨rfl,rfl,rfl⟩
theorem xS{a b c:V}(e:gd a b<=0)(d:gd b c<=0):gd a c<=0:=zA _ _ _ _ _ _ _ _ _ e d
theorem nE:∀l m:List V,-1<=aO l m/\aO l m<=1
 |[],[]=>by simp[aO]
 |[],_::_=>by simp[aO]
 |_::_,[]=>by simp[aO]
 |a::l,b::m=>by
  rw[aO];split
  ·exact nE l m
  exact me a b
theorem mh:∀l m:List V,aO m l= -aO l m
 |[],[]=>rfl
 |[],_::_=>rfl
 |_::_,[]=>rfl
 |a::l,b::m=>by
  rw[aO,aO,uA a b];by_cases h:gd a b=0
  ·rw[if_pos (by omega),if_pos h,mh l m]
  rw[if_neg (by omega),if_neg h]
theorem jZ:∀l m:List V,aO l m=0↔l=m
 |[],[]=>by simp[aO]
 |[],_::_=>by simp[aO]
 |_::_,[]=>by simp[aO]
 |a::l,b::m=>by
  rw[aO];by_cases h:gd a b=0
  ·rw[if_pos h,jZ l m,Pv,(mf a b).1 h];simp
  rw[if_neg h,Pv];constructor
  ·intro c;exact absurd c h
  rintro⟨c,_⟩;exact absurd ((mf a b).2 c) h
theorem kI(l:List V):aO l l=0:=(jZ l l).2 Z
theorem sJ:∀{l m n:List V},aO l m<=0->aO m n<=0->aO l n<=0
 |[],_,[],_,_=>by simp[aO]
 |[],_,_::_,_,_=>by simp[aO]
 |_::_,[],_,h,_=>by simp[aO]at h
 |_::_,_::_,[],_,h=>by simp[aO]at h
 |a::l,b::m,c::n,h1,h2=>by
  rw[aO]at h1 h2⊢;have i:=me a b;have j:=me b c;by_cases e:gd a b=0
  ·rw[if_pos e]at h1;have:=(mf a b).1 e;subst this;by_cases d:gd a c=0
   ·rw[if_pos d]at h2⊢;exact sJ h1 h2
   rw[if_neg d]at h2⊢;exact h2
  rw[if_neg e]at h1;by_cases d:gd b c=0
  ·have:=(mf b c).1 d;subst this;rw[if_neg e];exact h1
  rw[if_neg d]at h2;have g:=xS h1 h2;by_cases f:gd a c=0
  ·have:=(mf a c).1 f;subst this;have:=uA a b;omega
  rw[if_neg f];exact g
theorem iC{l m n:List V}(b:aO l m<0)(a:aO m n<0):aO l n<0:=by
 have c:=sJ (Int.le_of_lt b) (Int.le_of_lt a);by_cases e:aO l n=0
 ·have:=(jZ l n).1 e;subst this;have:=mh l m;omega
 omega
def iK(k:List V):Tree:=.sl (k.map V.tree)
theorem qn(l:List (List V)):Sized 1 (l.map iK):=Sized.map _ l fun _=>rfl
def Kx(K:List (List V))(k:List V):Prop:=∀(a b:Nat) (x y:List V),a<=b->K[a]? =some x->K[b]? =some y->aO y k<0->aO x k<0
theorem oU{α:Type}{p:α->Bool}:∀{l:List α} {i:Nat},i<=l.length->(∀a x,a<i->l[a]? =some x->p x=true)->(∀x,l[i]? =some x->p x=false)->(l.takeWhile p).length=i
 |[],i,h,_,_=>by simp at h;simp[h]
 |y::l,0,_,_,h2=>by
  have:=h2 y Z;simp[this]
 |y::l,i+1,h,h1,h2=>by
  have c:=h1 0 y (by omega) Z;have d:=oU (p:=p) (l:=l) (i:=i) (by simpa using h) (fun a x e b=>h1 (a+1) x (by omega) (by simpa using b)) (fun x b=>h2 x (by simpa using b));simp[c,d]
theorem Jm{K:List (List V)}{i:Nat}(h:i<K.length):K[i]? =some (K.getD i []):=by
 rw[Mm,L4 h,MK]
theorem Fj{K:List (List V)}(h:∀x∈K,x.length<=65536)(i:Nat):(K.getD i []).length<=65536:=by
 rcases MI i K.length with a|a
 ·exact h _ (L9 (Jm a))
 rw[Mm,Nq a];simp
theorem LD{a:Nat}(h:a<9223372036854775808):(Tree.sc (.int .u64 (IntKind.u64.wrap ((a:Nat):Int))))=.sc (.int .u64 ((a:Nat):Int)):=by rw[show IntKind.u64.wrap ((a:Nat):Int)=((a:Nat):Int) by rw[IntKind.wrap_u64];omega]
theorem LE{a:Nat}(h:a<9223372036854775808):(Tree.sc (.int .i64 (IntKind.i64.wrap ((a:Nat):Int))))=nI a:=by rw[show IntKind.i64.wrap ((a:Nat):Int)=((a:Nat):Int) by rw[Ns];omega]
theorem Ho{x y:Operand}(a:Nat)(w:World):(do eqGuard .shr 36 x y (.int .u64 (a:Nat)) (.int .u64 1);binOp .shr 36 (.int .u64 (a:Nat)) (.int .u64 1):Sem Value).run Tryz.prog w=.ok (.int .u64 ((a/2:Nat):Int)) w:=by
 simp[eqGuard,binOp,Op.shift,IntKind.bits];exact PM _ (by omega)
theorem Hp{K:List (List V)}{k:List V}{i j:Nat}(f:j<=K.length)(e:i=j)(g:∀a x,a<i->K[a]? =some x->aO x k<0)(h:∀b y,j<=b->K[b]? =some y->¬aO y k<0):mA [nI i,bT ((decide (i<K.length))&&((aO (K.getD i []) k)==0))]=.tup [nI (bk K k),bT ((K[bk K k]?).any fun x=>aO x k==0)]:=by
 subst e;have l:bk K k=i:=oU f (fun a x m d=>decide_eq_true (g a x m d)) (fun x d=>decide_eq_false (h i x (L5 _) d));rw[l];rcases MI i K.length with c|c
 ·rw[Jm c,decide_eq_true c];rfl
 rw[decide_eq_false (by omega),Nq c];rfl
theorem iL:gE Tryz.prog 151=some (61,1):=by kernel_rfl
theorem mR:Tryz.prog.underlying 3=some (.int .i64):=by kernel_rfl
theorem nF:Tryz.prog.underlying 36=some (.int .u64):=by kernel_rfl
theorem Jn(K:List (List V))(k:List V)(E:K.length<=65536)(z:Kx K k)(u:∀x∈K,x.length<=65536)(A:k.length<=65536):Ct 126 [.sl (K.map iK),.sl (k.map V.tree),.sc (Gs 64)] (.tup [nI (bk K k),bT ((K[bk K k]?).any fun x=>aO x k==0)]):=by
 refine Ct.of (n:=49) Tryz.func126 Z Z Z Z Z fun w0 G0=>?_
 refine ab<|aj 2 Z<|ab<|ae<|aa 1 Z<|af (t:=nI K.length) Z Z Z (ah (bd Z iL Z) (by simp only[L8]))<|aa 1 Z<|ag<|ab<|aj 3 Z<|ab<|aE<|aW (fun v B=>∃(i:Nat) (j:Nat),(i<=j/\j<=K.length/\(∀a x,a<i->K[a]? =some x->aO x k<0)/\∀b y,j<=b->K[b]? =some y->¬aO y k<0)/\v=j-i/\B=⟨49,[(0,.sl (K.map iK)),(1,.sl (k.map V.tree)),(2,.sc (Gs 64)),(6,iT 0),(7,bT false),(8,nI K.length),(9,nI i),(10,nI j)],[],[]⟩) 0 0 ⟨0,K.length,⟨Mx _,L5 _,fun a x D=>by omega,fun b y p g=>by rw[Nq p]at g;cases g⟩,Z,Z⟩ ⟨Z,Z,Z,.cons Z Z (.cons Z Z (.cons Z Z (.cons Z Z (.cons Z Z (.cons Z Z (.cons Z Z (.cons Z Z .nil))))))),Z⟩ ?_;rintro v B ⟨i,j,⟨C,r,m,l⟩,rfl,rfl⟩;refine ab<|ab<|ae<|aa 2 Z<|af (t:=bT (decide (i<j))) Z Z Z (ah (ai Z Z Z Zy) (av (iu i j)))<|ag<|aF Z (fun s=>?_) (fun s=>?_)
 ·refine ax<|aE<|ab<|ae<|aa 2 Z<|af (t:=nI (i+j)) Z Z Z (ah (ai Z Z Z Zy) (bu (by omega)))<|af (t:=.sc (.int .u64 ((i+j:Nat):Int))) Z Z Z (ah (k7 Z mR nF Z) (LD (by omega)))<|af (t:=.sc (.int .u64 (((i+j)/2:Nat):Int))) Z Z Z (ai Z Z Z (fun w=>Ho (i+j) w))<|af (t:=nI ((i+j)/2)) Z Z Z (ah (k7 Z nF mR Z) (LE (by omega)))<|aa 1 Z<|ag<|ab ?_;obtain⟨x,d⟩:∃x,K[(i+j)/2]? =some x:=⟨_,L4 (by omega)⟩;have q:=u x (L9 d);refine ae<|aa 3 Z<|af (t:=.ref [.sl (x.map V.tree)]) Z Z Z (aQ (iK x) Z iL Z Z Z (bf (f:=iK) d) (qn _) Z)<|aa 2 Z<|af (t:=iT (aO x k)) Z Z Z (wW Z Z (jj _ _ q A) Z Z)<|af (t:=bT (decide ((aO x k)<0))) Z Z Z (ai Z Z Z Zy)<|ag<|aF Z (fun e=>?_) (fun e=>?_)
  ·refine ae<|aa 1 Z<|af (t:=nI (((i+j)/2)+1)) Z Z Z (ah (ai Z Z Z Zy) (bu (by omega)))<|aa 1 Z<|ag<|⟨_,_,?_,⟨((i+j)/2)+1,j,?_,Z,Z⟩,⟨Z,Z,Z,.cons Z Z (.cons Z Z (.cons Z Z (.cons Z Z (.cons Z Z (.cons Z Z (.cons Z Z (.cons Z Z .nil))))))),Z⟩⟩
   ·omega
   refine⟨by omega,by omega,fun a y D g=>?_,l⟩;exact z a _ y x (by omega) g d e
  refine aj 2 Z<|⟨_,_,?_,⟨i,(i+j)/2,?_,Z,Z⟩,⟨Z,Z,Z,.cons Z Z (.cons Z Z (.cons Z Z (.cons Z Z (.cons Z Z (.cons Z Z (.cons Z Z (.cons Z Z .nil))))))),Z⟩⟩
  ·omega
  refine⟨by omega,by omega,m,fun b y p g h=>?_⟩;exact e (z _ b x y p d g h)
 refine aZ<|ab<|ae<|aa 3 Z<|af (t:=bT (decide (i<K.length))) Z Z Z (ah (ai Z Z Z Zy) (av (iu i K.length)))<|aa 1 Z<|aA (t:=.sc (Gs 64)) ((decide (i<K.length))=true) Z Z Z au Z Z (fun c=>aw Z Z)<|aA (t:=.sl (K.map iK)) ((decide (i<K.length))=true) Z Z Z au Z Z (fun c=>aw Z Z)<|aA (t:=nI i) ((decide (i<K.length))=true) Z Z Z au Z Z (fun c=>aw Z Z)<|aA (t:=.ref [.sl ((K.getD i []).map V.tree)]) ((decide (i<K.length))=true) Z Z Z au Z Z (fun c=>aQ (iK (K.getD i [])) Z iL (if_pos c) (if_pos c) Z (bf (f:=iK) (Jm (of_decide_eq_true c))) (qn _) Z)<|aA (t:=.sl ((K.getD i []).map V.tree)) ((decide (i<K.length))=true) Z Z Z au Z Z (fun c=>bE Z (if_pos c) cC Z)<|aA (t:=.sl (k.map V.tree)) ((decide (i<K.length))=true) Z Z Z au Z Z (fun c=>aw Z Z)<|aA (t:=iT (aO (K.getD i []) k)) ((decide (i<K.length))=true) Z Z Z au Z Z (fun c=>wW Z (if_pos c) (jj _ _ (Fj u i) A) (eU (if_pos c) (eU (if_pos c) Z)) Z)<|aA (t:=bT ((aO (K.getD i []) k)==0)) ((decide (i<K.length))=true) Z Z Z au Z Z (fun c=>ai Z (if_pos c) Z (fun _=>rfl))<|af (t:=bT ((decide (i<K.length))&&((aO (K.getD i []) k)==0))) Z Z Z (aL Z Z (fun o=>(if_pos o).trans (av (by rw[o];rfl))) (fun o=>(av (by rw[o];rfl))))<|aa 2 Z<|ag<|aC<|⟨.inr Z,_,.cons Z (.cons Z .nil),Hp r (by omega) m l,Z⟩
end Go.Proofs.YtfoejfohbkmmeaaGreatDoor
