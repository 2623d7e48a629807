import Derived.Test.YtfoejfohbkmmeaaGreatDoorP22
import Derived.Lib.Overlaps
import Derived.Test.YtfoejfohbkmmeaaGreatDoorP00
import Derived.Test.YtfoejfohbkmmeaaGreatDoorP15
set_option maxRecDepth 100000
set_option maxHeartbeats 4000000
namespace Go.Proofs.YtfoejfohbkmmeaaGreatDoor
open Go.RowKit
open Lib renaming hid→J
def ym(w:World)(base:Nat)(E:TypeId)(v:Value)(n:Nat)(ys:List Value)(e:Ending)(w':World):Prop:=∃v',e=.returned v'/\w'.ownsRow base E 1 v' (n+1) ys/\w.grownBy w' v.ownBlock/\(v'.ownBlock=v.ownBlock\/v'.ownBlock=some w.heap.size)/\∀g,v'.ownBlock=some g->NoDigB w' g
theorem nA(g j:Nat):(⟨g,0,none⟩:Addr).add j=⟨g,j,none⟩:=by rw[Addr.add_lit];simp
theorem pm{w:World}{base g n a:Nat}{e:TypeId}{xs:List Value}(h:w.ownsRow base e 1 (.slice (some ⟨g,0,none⟩) n a) n xs)(o:n+1<=a):∃y,w.ownsRow base e 1 (.slice (some ⟨g,0,none⟩) (n+1) a) (n+1) (xs++[y]):=by
 obtain⟨q,k⟩:=h;rcases k with⟨c,_⟩|⟨s,i,cur,c,p,m,t,j,l,f⟩
 ·cases c
 injection c with b _ r
 injection b with b
 injection b with b
 subst b r;have d:n<cur.toList.length:=by rw[MY];omega
 refine⟨cur.toList[n],by simp[q],.inr ⟨g,a,cur,Z,p,m,o,j,l,?_⟩⟩;rw[NQ]at f⊢;rw[Mx d,f]
theorem fL{w:World}{g:Nat}{T:TypeId}{u:Value}(h:w.heap[g]? =some (.cells #[u] T (0,0))):w.shape? g=some (T,1)/\(∀i,w.frozen? ⟨g,i,none⟩=false)/\w.cell? ⟨g,0,none⟩=some u/\g<w.heap.size:=by
 refine⟨by unfold World.shape?;rw[h];rfl,fun i=>by unfold World.frozen?;simp[h],?_,(MD.1 h).1⟩;have:=IsBlk.cell (w:=w) (g:=g) (t:=T) (cs:=#[u]) h 0;simpa using this
theorem nj{w:World}{base g n a:Nat}{e:TypeId}{xs:List Value}(h:w.ownsRow base e 1 (.slice (some ⟨g,0,none⟩) n a) n xs):w.shape? g=some (e,a)/\g<w.heap.size/\n<=a/\a<=9223372036854775807/\∀j,j<a->(w.cell? ⟨g,j,none⟩).isSome=true:=by
 obtain⟨s,l⟩:=h;rcases l with⟨d,_⟩|⟨q,f,cur,d,p,c,k,i,m,r⟩
 ·cases d
 injection d with b _ o
 injection b with b
 injection b with b
 subst b o;refine⟨by unfold World.shape?;rw[c];simp[m],(MD.1 c).1,k,by unfold maxLen at i;omega,fun j u=>?_⟩;have:=IsBlk.cell (w:=w) (g:=g) (t:=e) (cs:=cur) c j;rw[this,MC (by omega)];rfl
theorem uO{w:World}{base g n b sz i:Nat}{e:TypeId}{xs:List Value}(h:w.ownsRow base e sz (.slice (some ⟨g,0,none⟩) n b) n xs)(k:NoDigB w g){u:Value}(l:bQ u=true):NoDigB (w.setCell ⟨g,i,none⟩ u) g:=by
 rcases h.2 with⟨d,_⟩|⟨q,j,cur,d,p,f,_⟩
 ·cases d
 injection d with a _ _
 injection a with a
 injection a with a
 subst a;have o:=mR f k;refine cH (c:=cur.setIfInBounds i u) (e:=e) (fr:=(0,0)) (by simp[World.setCell,NJ,f]) ?_;rw[Nr];refine Mh.2 fun x m=>?_
 rcases Ok m with h|rfl
 ·exact Mh.1 o x h
 exact l
theorem fA{base g n a sz:Nat}{e:TypeId}:∀(vs:List Value) (o:Nat) (w:World) (xs:List Value),w.ownsRow base e sz (.slice (some ⟨g,0,none⟩) n a) n xs->NoDigB w g->vs.all bQ=true->NoDigB (w.setCells g o vs) g
 |[],_,_,_,_,h,_=>h
 |v::r,o,w,xs,ho,h,hv=>by
  simp only[Ny,L8]at hv;exact fA r (o+1) _ _ (jk ho v) (uO ho h hv.1) hv.2
theorem lc{w:World}{base g n a:Nat}{e:TypeId}{xs:List Value}(h:w.ownsRow base e 1 (.slice (some ⟨g,0,none⟩) n a) n xs)(b:NoDigB w g):xs.all bQ=true:=Mh.2 fun u c=>by
 obtain⟨j,d,rfl⟩:=Nc c;refine b j _ ?_;have:=World.ownsRow.cells h (g:=g) Z j _ (L3 d);rwa[nA]at this
theorem lQ{l:List Value}(h:l.all bQ=true)(n:Nat):(l.drop n).all bQ=true:=Mh.2 fun x a=>Mh.1 h x (Nd a)
theorem qo{w w':World}{r:Option Nat}(a:Below w.heap.size w w'):w.grownBy w' r:=⟨a.os,a.tape,a.output,a.size,fun k b _=>a.block k b⟩
theorem sR{w w':World}{row:Option Nat}(h:w.grownBy w' row):w.grownBy w'.drew row:=⟨h.os,h.tape,h.output,h.size,h.block⟩
theorem fY{w:World}{g:Nat}:∀(vs:List Value) (o:Nat) {W:World},w.grownBy W (some g)->w.grownBy (W.setCells g o vs) (some g)
 |[],_,_,h=>h
 |v::r,o,_,h=>fY r (o+1) (h.trans ⟨Z,Z,Z,by simp[World.setCell],fun k _ a=>by
   simp only[World.setCell];rw[NJ,if_neg (fun e=>a (by rw[e]))]⟩)
theorem qS(xs:List Value)(y u:Value){n i:Nat}(f:xs.length=n)(g:i<n):qn (qn (xs++[y]) (i+1) (xs.drop i)) i [u]=xs.take i++[u]++xs.drop i:=by
 have e:xs++[y]=xs.take (i+1)++(xs.drop (i+1)++[y])++[]:=by rw[Mq,<-Mv,M4]
 have b:(xs.take (i+1)).length=i+1:=by rw[Mf];omega
 have d:=j3 (xs.drop i) (xs.take (i+1)) (xs.drop (i+1)++[y]) [] (by simp;omega);rw[b]at d;rw[e,d,Mq,Mx (by omega)];have a:(xs.take i).length=i:=by rw[Mf];omega
 have c:=j3 [u] (xs.take i) [xs[i]'(by omega)] (xs.drop i) Z;rw[a]at c;exact c
theorem sS(xs a:List Value)(u:Value){n i:Nat}(f:xs.length=n)(e:a.length=n+1-i)(g:i<n):qn (qn (xs.take i++a) i [u]) (i+1) (xs.drop i)=xs.take i++[u]++xs.drop i:=by
 have b:(xs.take i).length=i:=by rw[Mf];omega
 have d:xs.take i++a=xs.take i++a.take 1++a.drop 1:=by rw[Mv,M4]
 have c:=j3 [u] (xs.take i) (a.take 1) (a.drop 1) (by simp;omega);rw[b]at c;rw[d,c];have h:=j3 (xs.drop i) (xs.take i++[u]) (a.drop 1) [] (by simp;omega);rw[Mq,Mq,Mb,b]at h;exact h
theorem ew(k:Nat):(Builtin.zeroCells (Value.slice none 0 0).cells k).size=k:=by simp[Builtin.zeroCells,Value.cells]
theorem jw{w:World}{b c sz n:Nat}{e:TypeId}{v:Value}{xs:List Value}(h:w.ownsRow c e sz v n xs)(i:b<=c):w.ownsRow b e sz v n xs:=by
 refine⟨h.1,?_⟩;rcases h.2 with j|⟨g,a,cur,f,d,rest⟩
 ·exact .inl j
 exact .inr ⟨g,a,cur,f,Ma i d,rest⟩
theorem FP:(Tryz.prog.info? 23).map (fun i=>(i.zero,i.size,i.bytes))=some (some (.slice none 0 0),1,24):=by kernel_rfl
theorem KV(base n p:Nat)(v u:Value)(T:TypeId)(xs:List Value)(w:World)(b:w.ownsRow base 23 1 v n xs)(C:w.heap[p]? =some (.cells #[u] T (0,0)))(L:u.oneCell'=true)(K:bQ u=true)(Q:∀g,v.ownBlock=some g->NoDigB w g)(hn:n<=65536)(c:base<=w.heap.size):
  Calls Tryz.prog 127 #[v,.int .i64 n,.slice (some ⟨p,0,none⟩) 1 1] w (ym w base 23 v n (xs++[u])):=by
 obtain⟨V,q,B,z,s⟩:=info_parts FP;obtain⟨_,_,t,M⟩:=fL C;have O:At w w.heap.size (some ⟨p,0,none⟩) [u]:=fun _=>⟨p,0,Z,M,fun j x k=>by
  cases j with
  |zero=>simp at k;subst k;exact t
  |succ j=>simp at k⟩
 have HO:=J b;obtain⟨d,m,f,A,D,r,E⟩:∃d m,(∀ty,(Builtin.append_ #[98,98] ty #[v,.slice (some ⟨p,0,none⟩) 1 1]).run Tryz.prog w=.ok d m)/\m.ownsRow base 23 1 d (n+1) (xs++[u])/\w.grownBy m v.ownBlock/\(d.ownBlock=v.ownBlock\/d.ownBlock=some w.heap.size)/\∀g,d.ownBlock=some g->NoDigB m g:=by
  have S:=fun ty=>mS (P:=Tryz.prog) w base 98 ty 23 V (.slice none 0 0) 1 24 Tryz.underlying98 q B z s Z (by decide) v n xs b (some ⟨p,0,none⟩) 1 1 [u] Z (fun e=>by cases e) (fun a G j x k=>by
   injection G with G
   subst G;cases j with
   |zero=>simp at k;subst k;exact t
   |succ j=>simp at k) (fun y hy=>by rw[Mm.1 hy];exact L) (by unfold maxLen;omega) (by omega) c (by decide) (by simp[K]) Q
  obtain⟨d,m,W,X⟩:=S 98;refine⟨d,m,fun ty=>?_,X⟩;obtain⟨v3,w3,h3,h4⟩:=S ty;exact W
 have i:=J A;have h:=J D;have o:=J r;have l:=J E;have H:=J f;clear f A D r E Q q B z s;clear O;rcases b.2 with⟨rfl,N⟩|⟨g,F,cur,rfl,hb,Y,a0,R,hs,ht⟩
 ·subst N;clear b c
  go_enter Tryz.func127,Tryz.ntmps127
  go_wp2_with (at_builtin;refine Lib.wpList_append_run _ Z _ _ _ _ Z _ _ Z Z _ _ (H.out _) ?_)
  go_ret
  exact⟨_,Z,i.out,h.out,o.out,l.out⟩
 have U:F<=9223372036854775807:=by unfold maxLen at R;omega
 clear b c Y hs ht hb R;by_cases I:F=n
 ·subst I
  go_enter Tryz.func127,Tryz.ntmps127
  go_wp2_with (at_builtin;refine Lib.wpList_append_run _ Z _ _ _ _ Z _ _ Z Z _ _ (H.out _) ?_)
  go_ret
  exact⟨_,Z,i.out,h.out,o.out,l.out⟩
 go_enter Tryz.func127,Tryz.ntmps127
 go_wp2_with (at_builtin;refine Lib.wpList_append_run _ Z _ _ _ _ Z _ _ Z Z _ _ (H.out _) ?_)
 go_ret
 exact⟨_,Z,i.out,h.out,o.out,l.out⟩
theorem AL(w:World)(b n i c:Nat)(a:List Value)(F:i<n)(E:n<=c)(r:c<n+1)(G:n<=65536)(f:a.length=i)(x:∀j u,a[j]? =some u->w.cell? ⟨b,j,none⟩=some u)(p:a.all bQ=true):
  ∃d o y,NoDigB o w.heap.size/\(∀ty,(Builtin.append_ #[98,3] ty #[.slice (some ⟨b,0,none⟩) i c,.int .i64 ((n+1-i:Nat):Int)]).run Tryz.prog w=.ok (.slice (some ⟨w.heap.size,0,none⟩) (n+1) d) o)/\o.ownsRow w.heap.size 23 1 (.slice (some ⟨w.heap.size,0,none⟩) (n+1) d) (n+1) (a++y)/\y.length=n+1-i/\Below w.heap.size w o/\n+1<=d/\d<=9223372036854775807:=by
 obtain⟨A,q,t,s,l⟩:=info_parts FP;have m:(Builtin.firstCells A.size i (.slice (some ⟨b,0,none⟩) i c)).run Tryz.prog w.drew=.ok a.toArray w.drew:=by
  rw[s];exact run_firstCells_some w.drew 1 i ⟨b,0,none⟩ i c a (by omega) (fun j v D=>by rw[nA];exact x j v D)
 have h:=grownCap_ge w (i+(n+1-i)) c 23;have g:=grownCap_le_maxLen w (i+(n+1-i)) c 23 (by unfold maxLen;omega);have B:=fun ty=>Lib.run_append_grow_zeros w 98 3 ty 23 A _ .i64 .i64 Tryz.underlying98 Tryz.underlying3 q t (some ⟨b,0,none⟩) i c a m (n+1-i) (by omega) (by omega) (by omega) (by omega) (by rw[l];omega) (by rw[l];exact growslice_fits (by omega) (by omega))
 rw[show i+(n+1-i)=n+1 by omega]at B h g;refine⟨_,_,(Builtin.zeroCells (Value.slice none 0 0).cells (n+1-i)).toList,?_,B,⟨?_,.inr ⟨_,_,_,Z,L4 _,heap_alloc_new _ _,h,g,?_,?_⟩⟩,?_,((Below.refl _ _).drew).alloc (L4 _) _,h,by unfold maxLen at g;omega⟩
 ·refine cH (heap_alloc_new _ _) ?_;have C:=fun k=>gO (z:=Value.slice none 0 0) (by decide) k
  simp only[MZ,NH,p,C,Qh]
 ·rw[Mb,f,MY,ew];omega
 ·rw[N9,N9,ew,ew,Ov,f];omega
 ·have e:(a++(Builtin.zeroCells (Value.slice none 0 0).cells (n+1-i)).toList).length=(n+1)*1:=by rw[Mb,f,MY,ew];omega
  rw[MZ,MZ,OO (NX e.symm)];exact Me (NX e)
 rw[MY,ew]
theorem KW(base n i B g b:Nat)(u:Value)(T:TypeId)(xs:List Value)(w:World)(c:w.ownsRow base 23 1 (.slice (some ⟨g,0,none⟩) n b) n xs)(H:w.heap[B]? =some (.cells #[u] T (0,0)))(X:u.oneCell'=true)(U:bQ u=true)(hd:NoDigB w g)(R:∀x∈xs,x.oneCell'=true)(hi:i<n)(hn:n<=65536)(o:b<n+1)(l:base<=w.heap.size):
  Calls Tryz.prog 127 #[.slice (some ⟨g,0,none⟩) n b,.int .i64 i,.slice (some ⟨B,0,none⟩) 1 1] w (ym w base 23 (.slice (some ⟨g,0,none⟩) n b) n (xs.take i++[u]++xs.drop i)):=by
 obtain⟨_,Y,S,b1,_⟩:=nj c;obtain⟨_,_,P,O⟩:=fL H;have A:xs.length=n:=by have:=c.1;omega
 have J:∀j x,xs[j]? =some x->w.cell? ⟨g,j,none⟩=some x:=fun j x e=>by
  have:=World.ownsRow.cells c (g:=g) Z j x e;rw[nA]at this;exact this
 obtain⟨f,t,zs,L,z,d,a0,I,a3,b5⟩:=AL w g n i b (xs.take i) hi S o hn (by rw[Mf];omega) (fun j u e=>by
  rw[MU]at e;split at e
  ·exact J j u e
  cases e) (lA (lc c hd) i)
 rw[show((n+1-i:Nat):Int)=(n:Int)+1-(i:Int) by omega]at z;have b2:IntKind.i64.wrap ((i:Int)+1)=(i:Int)+1:=by rw[Np];omega
 have b3:(0:Int)<=(i:Int)+1:=by omega
 have a5:((i:Int)+1).toNat=i+1:=by omega
 have a4:(i:Int)<=(n:Int):=by omega
 have a2:(i:Int)<=(b:Int):=by omega
 have a9:¬((i:Int)=(n:Int)):=by omega
 have b0:(b:Int)<(n:Int)+1:=by omega
 have E:(xs.drop i).length=(n-i)*1:=by rw[MQ,A];omega
 have K:(Tryz.prog.info? 23).map (·.size)=some 1:=by kernel_rfl
 have h:∀ty q,(Builtin.copy_ #[98,98] ty #[.slice (some ⟨w.heap.size,i,none⟩) (n+1-i) q,.slice (some ⟨B,0,none⟩) 1 1]).run Tryz.prog t=.ok (goInt (Nat.min 1 (n+1-i))) (t.setCells w.heap.size i [u]):=fun ty q=>
  dJ t _ _ ty 23 w.heap.size i (n+1-i) q 1 ⟨B,0,none⟩ 1 1 [u] Tryz.underlying98 K (by rw[show Nat.min 1 (n+1-i)=1 from Ns (by omega)];rfl)
   (fun j v e=>by
    cases j with
    |zero=>simp at e;subst e;rw[Addr.add_lit];exact(I.cell (p:=⟨B,0+0,none⟩) O).trans P
    |succ j=>simp at e)
   (fun j e=>fX d (by simp at e;omega)) (fun j e=>dz d _) (fun y hy=>by rw[Mm.1 hy];exact X)
 have a:=cB [u] i t _ d;have k:=fA [u] i t _ d L (by simp[U]);have F:=lQ (lc c hd) i;have s:Below w.heap.size w (t.setCells w.heap.size i [u]):=eJ [u] _ I;obtain⟨r,D⟩:∃r,t.setCells w.heap.size i [u]=r:=⟨_,rfl⟩;rw[D]at a s k;simp only[D]at h;have C:Nat.min (n-i) (n-i)=n-i:=Qt _;have a1:Tryz.prog.follows .mixedOrders=true:=by kernel_rfl
 have Q:¬(f=i+1):=by omega
 have V:¬(b=i):=by omega
 have G:∀(W:World),(∀x,W.cell? x=r.cell? x)->(∀x,W.frozen? x=r.frozen? x)->∀ty q sc,(Builtin.copy_ #[98,98] ty #[.slice (some ⟨w.heap.size,i+1,none⟩) (n-i) q,.slice (some ⟨g,i,none⟩) (n-i) sc]).run Tryz.prog W=.ok (goInt (Nat.min (n-i) (n-i))) (W.setCells w.heap.size (i+1) (xs.drop i)):=fun W hc hf ty q sc=>
  dJ W _ _ ty 23 w.heap.size (i+1) (n-i) q 1 ⟨g,i,none⟩ (n-i) sc (xs.drop i) Tryz.underlying98 K (by rw[C,E])
   (fun j v e=>by
    rw[Addr.add_lit,hc];exact(s.cell (p:=⟨g,i+j,none⟩) Y).trans (J _ v (by rwa[Nh]at e)))
   (fun j e=>by rw[hc];exact fX a (by omega)) (fun j e=>by rw[hf];exact dz a _) (fun v hv=>R v (Nd hv))
 clear c
 go_enter Tryz.func127,Tryz.ntmps127
 go_wp2_with (first
  |(at_builtin;refine Lib.wpList_append_run _ Z _ _ _ _ Z _ _ Z Z _ _ (z _) ?_)
  |(at_builtin;refine wpList_copy_runI _ Z _ _ 98 98 Z _ _ Z Z (h _ _) ?_))
 go_region_law_o (refine step_copy_runI Z _ _ 98 98 Z (.slice (some ⟨w.heap.size,i+1,none⟩) (n-i) (f-(i+1))) (.slice (some ⟨g,i,none⟩) (n-i) (b-i)) (by simp[Act.eval,Act.put,Q]) (by simp[Act.eval,Act.put,V]) (G r.drew (fun _=>rfl) (fun _=>rfl) 3 (f-(i+1)) (b-i)) ?_)
 go_wp2
 go_ret
 have h9:=cB (xs.drop i) (i+1) r.drew (qn (xs.take i++zs) i [u]) a;rw[sS xs zs u A a0 hi]at h9;have N:=eJ (xs.drop i) (i+1) s.drew;have M:=fA (xs.drop i) (i+1) r.drew _ a (k.of Z) F;exact⟨_,rfl,jw h9 l,qo N,.inr rfl,fun g' m=>by injection m with m;subst m;exact M⟩
theorem KX(base n i k g b:Nat)(u:Value)(T:TypeId)(xs:List Value)(w:World)(a:w.ownsRow base 23 1 (.slice (some ⟨g,0,none⟩) n b) n xs)(D:w.heap[k]? =some (.cells #[u] T (0,0)))(A:g≠k)(Y:u.oneCell'=true)(W:bQ u=true)(hd:NoDigB w g)(U:∀x∈xs,x.oneCell'=true)(hi:i<n)(hn:n<=65536)(o:n+1<=b)(K:base<=w.heap.size):
  Calls Tryz.prog 127 #[.slice (some ⟨g,0,none⟩) n b,.int .i64 i,.slice (some ⟨k,0,none⟩) 1 1] w (ym w base 23 (.slice (some ⟨g,0,none⟩) n b) n (xs.take i++[u]++xs.drop i)):=by
 obtain⟨a0,c1,b3,b5,r⟩:=nj a;obtain⟨I,E,N,L⟩:=fL D;have z:xs.length=n:=by have:=a.1;omega
 have a2:∀j x,xs[j]? =some x->w.cell? ⟨g,j,none⟩=some x:=fun j x f=>by
  have:=World.ownsRow.cells a (g:=g) Z j x f;rw[nA]at this;exact this
 have a1:=dz a;obtain⟨y,d⟩:=pm a o;have F:(Tryz.prog.info? 23).map (·.size)=some 1:=by kernel_rfl
 have t:∀w,(Go.sizeOf 23).run Tryz.prog w=.ok 1 w:=fun w=>by
  obtain⟨i0,G,_,R,_⟩:=info_parts FP;simp[sizeOf,typeInfo,G,R]
 have O:∀V Q,(callFunc 189 #[.slice (some ⟨k,0,none⟩) 1 1,.slice (some ⟨g,i+1,none⟩) V Q]).run Tryz.prog w=.ok (.value (.bool false)) w:=fun V Q=>by
  rw[run_callFunc_extern Tryz.func189 (by kernel_rfl) (by kernel_rfl) (by kernel_rfl) (e:=Extern.SlicesOverlaps.overlaps #[98,98] #[4]) (by kernel_rfl),
   Lib.run_overlaps_apart w 98 4 23 Tryz.underlying98 1 t ⟨k,0,none⟩ ⟨g,i+1,none⟩ 1 1 V Q (fun e=>A e.symm) T 23 1 b I a0 (by omega) (E 0) (E 1)]
  rfl
 have c0:IntKind.i64.wrap ((i:Int)+1)=(i:Int)+1:=by rw[Np];omega
 have c2:(0:Int)<=(i:Int)+1:=by omega
 have a9:((i:Int)+1).toNat=i+1:=by omega
 have a5:(i:Int)<=(n:Int):=by omega
 have a4:(i:Int)<=(b:Int):=by omega
 have M:(i:Int)<=(n:Int)+1:=by omega
 have b1:¬((i:Int)=(n:Int)):=by omega
 have b2:¬((b:Int)<(n:Int)+1):=by omega
 have P:¬(b=i+1):=by omega
 have X:¬(b=i):=by omega
 have b0:(n:Int)+1<=(b:Int):=by omega
 have S:(xs.drop i).length=n-i:=by rw[MQ,z]
 have a3:Tryz.prog.follows .mixedOrders=true:=by kernel_rfl
 have h:∀ty p sc,(Builtin.copy_ #[98,98] ty #[.slice (some ⟨g,i+1,none⟩) (n-i) p,.slice (some ⟨g,i,none⟩) (n+1-i) sc]).run Tryz.prog w.drew=.ok (goInt (Nat.min (n+1-i) (n-i))) (w.drew.setCells g (i+1) (xs.drop i)):=fun ty p sc=>
  dJ w.drew _ _ ty 23 g (i+1) (n-i) p 1 ⟨g,i,none⟩ (n+1-i) sc (xs.drop i) Tryz.underlying98 F (by rw[S,show Nat.min (n+1-i) (n-i)=n-i from Nat.min_eq_right (by omega)];omega)
   (fun j v f=>by rw[Addr.add_lit];exact a2 (i+j) v (by rwa[Nh]at f))
   (fun j f=>r _ (by omega)) (fun j f=>a1 _) (fun v hv=>U v (Nd hv))
 have c:=cB (xs.drop i) (i+1) w.drew _ (eA d ((Below.refl _ _).drew));have l:=fA (xs.drop i) (i+1) w.drew _ (eA d ((Below.refl _ _).drew)) (hd.of Z) (lQ (lc a hd) i);have s:w.grownBy (w.drew.setCells g (i+1) (xs.drop i)) (some g):=fY _ _ (sR (World.grownBy.refl _ _));obtain⟨q,B⟩:∃q,w.drew.setCells g (i+1) (xs.drop i)=q:=⟨_,rfl⟩;rw[B]at c s l;simp only[B]at h;have C:∀ty p,(Builtin.copy_ #[98,98] ty #[.slice (some ⟨g,i,none⟩) (n+1-i) p,.slice (some ⟨k,0,none⟩) 1 1]).run Tryz.prog q=.ok (goInt (Nat.min 1 (n+1-i))) (q.setCells g i [u]):=fun ty p=>
  dJ q _ _ ty 23 g i (n+1-i) p 1 ⟨k,0,none⟩ 1 1 [u] Tryz.underlying98 F (by rw[show Nat.min 1 (n+1-i)=1 from Ns (by omega)];rfl)
   (fun j v f=>by
    cases j with
    |zero=>simp at f;subst f;rw[Addr.add_lit];exact(World.cell?_of_block (s.block k L fun e=>A (by injection e with e;exact e.symm))).trans N
    |succ j=>simp at f)
   (fun j f=>fX c (by simp at f;omega)) (fun j f=>dz c _) (fun y hy=>by rw[Mm.1 hy];exact Y)
 have HO:=J a;clear a d
 go_enter Tryz.func127,Tryz.ntmps127
 go_wp2_with (simp only[O])
 go_region_law_o (refine step_copy_runI Z _ _ 98 98 Z (.slice (some ⟨g,i+1,none⟩) (n-i) (b-(i+1))) (.slice (some ⟨g,i,none⟩) (n+1-i) (b-i)) (by simp[Act.eval,Act.put,P]) (by simp[Act.eval,Act.put,X]) (h _ _ _) ?_)
 go_wp2_with (at_builtin;refine wpList_copy_runI _ Z _ _ 98 98 Z _ _ Z Z (C _ _) ?_)
 go_ret
 have h9:=cB [u] i q _ c;rw[qS xs y u z hi]at h9;have H:=fA [u] i q _ c l (by simp[W]);exact⟨_,rfl,h9,fY _ _ s,.inl rfl,fun g' m=>by injection m with m;subst m;exact H⟩
theorem KY(base n i j:Nat)(v u:Value)(T:TypeId)(xs:List Value)(w:World)(a:w.ownsRow base 23 1 v n xs)(c:w.heap[j]? =some (.cells #[u] T (0,0)))(q:v.ownBlock≠some j)(h:u.oneCell'=true)(f:bQ u=true)(m:∀g,v.ownBlock=some g->NoDigB w g)(k:∀x∈xs,x.oneCell'=true)(y:i<=n)(o:n<=65536)(b:base<=w.heap.size):
  Calls Tryz.prog 127 #[v,.int .i64 i,.slice (some ⟨j,0,none⟩) 1 1] w (ym w base 23 v n (xs.take i++[u]++xs.drop i)):=by
 have t:=a.1;rcases MA i n with l|s
 ·rcases a.2 with⟨rfl,r⟩|⟨g,d,cur,rfl,_⟩
  ·omega
  rcases MA d (n+1)with p|p
  ·exact KW base n i j g d u T xs w a c h f (m g Z) k l o p b
  exact KX base n i j g d u T xs w a c (fun e=>q (by rw[<-e];rfl)) h f (m g Z) k l o p b
 obtain rfl:i=n:=by omega
 rw[Me (by omega),Md (by omega),Mq];exact KV base i j v u T xs w a c h f m o b
theorem FQ:(Tryz.prog.info? 61).map (fun i=>(i.zero,i.size,i.bytes))=some (some (.slice none 0 0),1,24):=by kernel_rfl
theorem KZ(base n p:Nat)(v u:Value)(T:TypeId)(xs:List Value)(w:World)(b:w.ownsRow base 61 1 v n xs)(C:w.heap[p]? =some (.cells #[u] T (0,0)))(L:u.oneCell'=true)(K:bQ u=true)(Q:∀g,v.ownBlock=some g->NoDigB w g)(hn:n<=65536)(c:base<=w.heap.size):
  Calls Tryz.prog 128 #[v,.int .i64 n,.slice (some ⟨p,0,none⟩) 1 1] w (ym w base 61 v n (xs++[u])):=by
 obtain⟨V,q,B,z,s⟩:=info_parts FQ;obtain⟨_,_,t,M⟩:=fL C;have O:At w w.heap.size (some ⟨p,0,none⟩) [u]:=fun _=>⟨p,0,Z,M,fun j x k=>by
  cases j with
  |zero=>simp at k;subst k;exact t
  |succ j=>simp at k⟩
 have HO:=J b;obtain⟨d,m,f,A,D,r,E⟩:∃d m,(∀ty,(Builtin.append_ #[151,151] ty #[v,.slice (some ⟨p,0,none⟩) 1 1]).run Tryz.prog w=.ok d m)/\m.ownsRow base 61 1 d (n+1) (xs++[u])/\w.grownBy m v.ownBlock/\(d.ownBlock=v.ownBlock\/d.ownBlock=some w.heap.size)/\∀g,d.ownBlock=some g->NoDigB m g:=by
  have S:=fun ty=>mS (P:=Tryz.prog) w base 151 ty 61 V (.slice none 0 0) 1 24 Tryz.underlying151 q B z s Z (by decide) v n xs b (some ⟨p,0,none⟩) 1 1 [u] Z (fun e=>by cases e) (fun a G j x k=>by
   injection G with G
   subst G;cases j with
   |zero=>simp at k;subst k;exact t
   |succ j=>simp at k) (fun y hy=>by rw[Mm.1 hy];exact L) (by unfold maxLen;omega) (by omega) c (by decide) (by simp[K]) Q
  obtain⟨d,m,W,X⟩:=S 151;refine⟨d,m,fun ty=>?_,X⟩;obtain⟨v3,w3,h3,h4⟩:=S ty;exact W
 have i:=J A;have h:=J D;have o:=J r;have l:=J E;have H:=J f;clear f A D r E Q q B z s;clear O;rcases b.2 with⟨rfl,N⟩|⟨g,F,cur,rfl,hb,Y,a0,R,hs,ht⟩
 ·subst N;clear b c
  go_enter Tryz.func128,Tryz.ntmps128
  go_wp2_with (at_builtin;refine Lib.wpList_append_run _ Z _ _ _ _ Z _ _ Z Z _ _ (H.out _) ?_)
  go_ret
  exact⟨_,Z,i.out,h.out,o.out,l.out⟩
 have U:F<=9223372036854775807:=by unfold maxLen at R;omega
 clear b c Y hs ht hb R;by_cases I:F=n
 ·subst I
  go_enter Tryz.func128,Tryz.ntmps128
  go_wp2_with (at_builtin;refine Lib.wpList_append_run _ Z _ _ _ _ Z _ _ Z Z _ _ (H.out _) ?_)
  go_ret
  exact⟨_,Z,i.out,h.out,o.out,l.out⟩
 go_enter Tryz.func128,Tryz.ntmps128
 go_wp2_with (at_builtin;refine Lib.wpList_append_run _ Z _ _ _ _ Z _ _ Z Z _ _ (H.out _) ?_)
 go_ret
 exact⟨_,Z,i.out,h.out,o.out,l.out⟩
theorem AM(w:World)(b n i c:Nat)(a:List Value)(F:i<n)(E:n<=c)(r:c<n+1)(G:n<=65536)(f:a.length=i)(x:∀j u,a[j]? =some u->w.cell? ⟨b,j,none⟩=some u)(p:a.all bQ=true):
  ∃d o y,NoDigB o w.heap.size/\(∀ty,(Builtin.append_ #[151,3] ty #[.slice (some ⟨b,0,none⟩) i c,.int .i64 ((n+1-i:Nat):Int)]).run Tryz.prog w=.ok (.slice (some ⟨w.heap.size,0,none⟩) (n+1) d) o)/\o.ownsRow w.heap.size 61 1 (.slice (some ⟨w.heap.size,0,none⟩) (n+1) d) (n+1) (a++y)/\y.length=n+1-i/\Below w.heap.size w o/\n+1<=d/\d<=9223372036854775807:=by
 obtain⟨A,q,t,s,l⟩:=info_parts FQ;have m:(Builtin.firstCells A.size i (.slice (some ⟨b,0,none⟩) i c)).run Tryz.prog w.drew=.ok a.toArray w.drew:=by
  rw[s];exact run_firstCells_some w.drew 1 i ⟨b,0,none⟩ i c a (by omega) (fun j v D=>by rw[nA];exact x j v D)
 have h:=grownCap_ge w (i+(n+1-i)) c 61;have g:=grownCap_le_maxLen w (i+(n+1-i)) c 61 (by unfold maxLen;omega);have B:=fun ty=>Lib.run_append_grow_zeros w 151 3 ty 61 A _ .i64 .i64 Tryz.underlying151 Tryz.underlying3 q t (some ⟨b,0,none⟩) i c a m (n+1-i) (by omega) (by omega) (by omega) (by omega) (by rw[l];omega) (by rw[l];exact growslice_fits (by omega) (by omega))
 rw[show i+(n+1-i)=n+1 by omega]at B h g;refine⟨_,_,(Builtin.zeroCells (Value.slice none 0 0).cells (n+1-i)).toList,?_,B,⟨?_,.inr ⟨_,_,_,Z,L4 _,heap_alloc_new _ _,h,g,?_,?_⟩⟩,?_,((Below.refl _ _).drew).alloc (L4 _) _,h,by unfold maxLen at g;omega⟩
 ·refine cH (heap_alloc_new _ _) ?_;have C:=fun k=>gO (z:=Value.slice none 0 0) (by decide) k
  simp only[MZ,NH,p,C,Qh]
 ·rw[Mb,f,MY,ew];omega
 ·rw[N9,N9,ew,ew,Ov,f];omega
 ·have e:(a++(Builtin.zeroCells (Value.slice none 0 0).cells (n+1-i)).toList).length=(n+1)*1:=by rw[Mb,f,MY,ew];omega
  rw[MZ,MZ,OO (NX e.symm)];exact Me (NX e)
 rw[MY,ew]
theorem K0(base n i B g b:Nat)(u:Value)(T:TypeId)(xs:List Value)(w:World)(c:w.ownsRow base 61 1 (.slice (some ⟨g,0,none⟩) n b) n xs)(H:w.heap[B]? =some (.cells #[u] T (0,0)))(X:u.oneCell'=true)(U:bQ u=true)(hd:NoDigB w g)(R:∀x∈xs,x.oneCell'=true)(hi:i<n)(hn:n<=65536)(o:b<n+1)(l:base<=w.heap.size):
  Calls Tryz.prog 128 #[.slice (some ⟨g,0,none⟩) n b,.int .i64 i,.slice (some ⟨B,0,none⟩) 1 1] w (ym w base 61 (.slice (some ⟨g,0,none⟩) n b) n (xs.take i++[u]++xs.drop i)):=by
 obtain⟨_,Y,S,b1,_⟩:=nj c;obtain⟨_,_,P,O⟩:=fL H;have A:xs.length=n:=by have:=c.1;omega
 have J:∀j x,xs[j]? =some x->w.cell? ⟨g,j,none⟩=some x:=fun j x e=>by
  have:=World.ownsRow.cells c (g:=g) Z j x e;rw[nA]at this;exact this
 obtain⟨f,t,zs,L,z,d,a0,I,a3,b5⟩:=AM w g n i b (xs.take i) hi S o hn (by rw[Mf];omega) (fun j u e=>by
  rw[MU]at e;split at e
  ·exact J j u e
  cases e) (lA (lc c hd) i)
 rw[show((n+1-i:Nat):Int)=(n:Int)+1-(i:Int) by omega]at z;have b2:IntKind.i64.wrap ((i:Int)+1)=(i:Int)+1:=by rw[Np];omega
 have b3:(0:Int)<=(i:Int)+1:=by omega
 have a5:((i:Int)+1).toNat=i+1:=by omega
 have a4:(i:Int)<=(n:Int):=by omega
 have a2:(i:Int)<=(b:Int):=by omega
 have a9:¬((i:Int)=(n:Int)):=by omega
 have b0:(b:Int)<(n:Int)+1:=by omega
 have E:(xs.drop i).length=(n-i)*1:=by rw[MQ,A];omega
 have K:(Tryz.prog.info? 61).map (·.size)=some 1:=by kernel_rfl
 have h:∀ty q,(Builtin.copy_ #[151,151] ty #[.slice (some ⟨w.heap.size,i,none⟩) (n+1-i) q,.slice (some ⟨B,0,none⟩) 1 1]).run Tryz.prog t=.ok (goInt (Nat.min 1 (n+1-i))) (t.setCells w.heap.size i [u]):=fun ty q=>
  dJ t _ _ ty 61 w.heap.size i (n+1-i) q 1 ⟨B,0,none⟩ 1 1 [u] Tryz.underlying151 K (by rw[show Nat.min 1 (n+1-i)=1 from Ns (by omega)];rfl)
   (fun j v e=>by
    cases j with
    |zero=>simp at e;subst e;rw[Addr.add_lit];exact(I.cell (p:=⟨B,0+0,none⟩) O).trans P
    |succ j=>simp at e)
   (fun j e=>fX d (by simp at e;omega)) (fun j e=>dz d _) (fun y hy=>by rw[Mm.1 hy];exact X)
 have a:=cB [u] i t _ d;have k:=fA [u] i t _ d L (by simp[U]);have F:=lQ (lc c hd) i;have s:Below w.heap.size w (t.setCells w.heap.size i [u]):=eJ [u] _ I;obtain⟨r,D⟩:∃r,t.setCells w.heap.size i [u]=r:=⟨_,rfl⟩;rw[D]at a s k;simp only[D]at h;have C:Nat.min (n-i) (n-i)=n-i:=Qt _;have a1:Tryz.prog.follows .mixedOrders=true:=by kernel_rfl
 have Q:¬(f=i+1):=by omega
 have V:¬(b=i):=by omega
 have G:∀(W:World),(∀x,W.cell? x=r.cell? x)->(∀x,W.frozen? x=r.frozen? x)->∀ty q sc,(Builtin.copy_ #[151,151] ty #[.slice (some ⟨w.heap.size,i+1,none⟩) (n-i) q,.slice (some ⟨g,i,none⟩) (n-i) sc]).run Tryz.prog W=.ok (goInt (Nat.min (n-i) (n-i))) (W.setCells w.heap.size (i+1) (xs.drop i)):=fun W hc hf ty q sc=>
  dJ W _ _ ty 61 w.heap.size (i+1) (n-i) q 1 ⟨g,i,none⟩ (n-i) sc (xs.drop i) Tryz.underlying151 K (by rw[C,E])
   (fun j v e=>by
    rw[Addr.add_lit,hc];exact(s.cell (p:=⟨g,i+j,none⟩) Y).trans (J _ v (by rwa[Nh]at e)))
   (fun j e=>by rw[hc];exact fX a (by omega)) (fun j e=>by rw[hf];exact dz a _) (fun v hv=>R v (Nd hv))
 clear c
 go_enter Tryz.func128,Tryz.ntmps128
 go_wp2_with (first
  |(at_builtin;refine Lib.wpList_append_run _ Z _ _ _ _ Z _ _ Z Z _ _ (z _) ?_)
  |(at_builtin;refine wpList_copy_runI _ Z _ _ 151 151 Z _ _ Z Z (h _ _) ?_))
 go_region_law_o (refine step_copy_runI Z _ _ 151 151 Z (.slice (some ⟨w.heap.size,i+1,none⟩) (n-i) (f-(i+1))) (.slice (some ⟨g,i,none⟩) (n-i) (b-i)) (by simp[Act.eval,Act.put,Q]) (by simp[Act.eval,Act.put,V]) (G r.drew (fun _=>rfl) (fun _=>rfl) 3 (f-(i+1)) (b-i)) ?_)
 go_wp2
 go_ret
 have h9:=cB (xs.drop i) (i+1) r.drew (qn (xs.take i++zs) i [u]) a;rw[sS xs zs u A a0 hi]at h9;have N:=eJ (xs.drop i) (i+1) s.drew;have M:=fA (xs.drop i) (i+1) r.drew _ a (k.of Z) F;exact⟨_,rfl,jw h9 l,qo N,.inr rfl,fun g' m=>by injection m with m;subst m;exact M⟩
theorem K3(base n i k g b:Nat)(u:Value)(T:TypeId)(xs:List Value)(w:World)(a:w.ownsRow base 61 1 (.slice (some ⟨g,0,none⟩) n b) n xs)(D:w.heap[k]? =some (.cells #[u] T (0,0)))(A:g≠k)(Y:u.oneCell'=true)(W:bQ u=true)(hd:NoDigB w g)(U:∀x∈xs,x.oneCell'=true)(hi:i<n)(hn:n<=65536)(o:n+1<=b)(K:base<=w.heap.size):
  Calls Tryz.prog 128 #[.slice (some ⟨g,0,none⟩) n b,.int .i64 i,.slice (some ⟨k,0,none⟩) 1 1] w (ym w base 61 (.slice (some ⟨g,0,none⟩) n b) n (xs.take i++[u]++xs.drop i)):=by
 obtain⟨a0,c1,b3,b5,r⟩:=nj a;obtain⟨I,E,N,L⟩:=fL D;have z:xs.length=n:=by have:=a.1;omega
 have a2:∀j x,xs[j]? =some x->w.cell? ⟨g,j,none⟩=some x:=fun j x f=>by
  have:=World.ownsRow.cells a (g:=g) Z j x f;rw[nA]at this;exact this
 have a1:=dz a;obtain⟨y,d⟩:=pm a o;have F:(Tryz.prog.info? 61).map (·.size)=some 1:=by kernel_rfl
 have t:∀w,(Go.sizeOf 61).run Tryz.prog w=.ok 1 w:=fun w=>by
  obtain⟨i0,G,_,R,_⟩:=info_parts FQ;simp[sizeOf,typeInfo,G,R]
 have O:∀V Q,(callFunc 191 #[.slice (some ⟨k,0,none⟩) 1 1,.slice (some ⟨g,i+1,none⟩) V Q]).run Tryz.prog w=.ok (.value (.bool false)) w:=fun V Q=>by
  rw[run_callFunc_extern Tryz.func191 (by kernel_rfl) (by kernel_rfl) (by kernel_rfl) (e:=Extern.SlicesOverlaps.overlaps #[151,151] #[4]) (by kernel_rfl),
   Lib.run_overlaps_apart w 151 4 61 Tryz.underlying151 1 t ⟨k,0,none⟩ ⟨g,i+1,none⟩ 1 1 V Q (fun e=>A e.symm) T 61 1 b I a0 (by omega) (E 0) (E 1)]
  rfl
 have c0:IntKind.i64.wrap ((i:Int)+1)=(i:Int)+1:=by rw[Np];omega
 have c2:(0:Int)<=(i:Int)+1:=by omega
 have a9:((i:Int)+1).toNat=i+1:=by omega
 have a5:(i:Int)<=(n:Int):=by omega
 have a4:(i:Int)<=(b:Int):=by omega
 have M:(i:Int)<=(n:Int)+1:=by omega
 have b1:¬((i:Int)=(n:Int)):=by omega
 have b2:¬((b:Int)<(n:Int)+1):=by omega
 have P:¬(b=i+1):=by omega
 have X:¬(b=i):=by omega
 have b0:(n:Int)+1<=(b:Int):=by omega
 have S:(xs.drop i).length=n-i:=by rw[MQ,z]
 have a3:Tryz.prog.follows .mixedOrders=true:=by kernel_rfl
 have h:∀ty p sc,(Builtin.copy_ #[151,151] ty #[.slice (some ⟨g,i+1,none⟩) (n-i) p,.slice (some ⟨g,i,none⟩) (n+1-i) sc]).run Tryz.prog w.drew=.ok (goInt (Nat.min (n+1-i) (n-i))) (w.drew.setCells g (i+1) (xs.drop i)):=fun ty p sc=>
  dJ w.drew _ _ ty 61 g (i+1) (n-i) p 1 ⟨g,i,none⟩ (n+1-i) sc (xs.drop i) Tryz.underlying151 F (by rw[S,show Nat.min (n+1-i) (n-i)=n-i from Nat.min_eq_right (by omega)];omega)
   (fun j v f=>by rw[Addr.add_lit];exact a2 (i+j) v (by rwa[Nh]at f))
   (fun j f=>r _ (by omega)) (fun j f=>a1 _) (fun v hv=>U v (Nd hv))
 have c:=cB (xs.drop i) (i+1) w.drew _ (eA d ((Below.refl _ _).drew));have l:=fA (xs.drop i) (i+1) w.drew _ (eA d ((Below.refl _ _).drew)) (hd.of Z) (lQ (lc a hd) i);have s:w.grownBy (w.drew.setCells g (i+1) (xs.drop i)) (some g):=fY _ _ (sR (World.grownBy.refl _ _));obtain⟨q,B⟩:∃q,w.drew.setCells g (i+1) (xs.drop i)=q:=⟨_,rfl⟩;rw[B]at c s l;simp only[B]at h;have C:∀ty p,(Builtin.copy_ #[151,151] ty #[.slice (some ⟨g,i,none⟩) (n+1-i) p,.slice (some ⟨k,0,none⟩) 1 1]).run Tryz.prog q=.ok (goInt (Nat.min 1 (n+1-i))) (q.setCells g i [u]):=fun ty p=>
  dJ q _ _ ty 61 g i (n+1-i) p 1 ⟨k,0,none⟩ 1 1 [u] Tryz.underlying151 F (by rw[show Nat.min 1 (n+1-i)=1 from Ns (by omega)];rfl)
   (fun j v f=>by
    cases j with
    |zero=>simp at f;subst f;rw[Addr.add_lit];exact(World.cell?_of_block (s.block k L fun e=>A (by injection e with e;exact e.symm))).trans N
    |succ j=>simp at f)
   (fun j f=>fX c (by simp at f;omega)) (fun j f=>dz c _) (fun y hy=>by rw[Mm.1 hy];exact Y)
 have HO:=J a;clear a d
 go_enter Tryz.func128,Tryz.ntmps128
 go_wp2_with (simp only[O])
 go_region_law_o (refine step_copy_runI Z _ _ 151 151 Z (.slice (some ⟨g,i+1,none⟩) (n-i) (b-(i+1))) (.slice (some ⟨g,i,none⟩) (n+1-i) (b-i)) (by simp[Act.eval,Act.put,P]) (by simp[Act.eval,Act.put,X]) (h _ _ _) ?_)
 go_wp2_with (at_builtin;refine wpList_copy_runI _ Z _ _ 151 151 Z _ _ Z Z (C _ _) ?_)
 go_ret
 have h9:=cB [u] i q _ c;rw[qS xs y u z hi]at h9;have H:=fA [u] i q _ c l (by simp[W]);exact⟨_,rfl,h9,fY _ _ s,.inl rfl,fun g' m=>by injection m with m;subst m;exact H⟩
theorem K4(base n i j:Nat)(v u:Value)(T:TypeId)(xs:List Value)(w:World)(a:w.ownsRow base 61 1 v n xs)(c:w.heap[j]? =some (.cells #[u] T (0,0)))(q:v.ownBlock≠some j)(h:u.oneCell'=true)(f:bQ u=true)(m:∀g,v.ownBlock=some g->NoDigB w g)(k:∀x∈xs,x.oneCell'=true)(y:i<=n)(o:n<=65536)(b:base<=w.heap.size):
  Calls Tryz.prog 128 #[v,.int .i64 i,.slice (some ⟨j,0,none⟩) 1 1] w (ym w base 61 v n (xs.take i++[u]++xs.drop i)):=by
 have t:=a.1;rcases MA i n with l|s
 ·rcases a.2 with⟨rfl,r⟩|⟨g,d,cur,rfl,_⟩
  ·omega
  rcases MA d (n+1)with p|p
  ·exact K0 base n i j g d u T xs w a c h f (m g Z) k l o p b
  exact K3 base n i j g d u T xs w a c (fun e=>q (by rw[<-e];rfl)) h f (m g Z) k l o p b
 obtain rfl:i=n:=by omega
 rw[Me (by omega),Md (by omega),Mq];exact KZ base i j v u T xs w a c h f m o b
theorem uP(a b:V):gG b a= -gG a b:=Fo ..
theorem mA(a b:V): -1<=gG a b/\gG a b<=1:=Aj ..
theorem mB(a b:V):gG a b=0↔a=b:=by
 unfold gG;rw[H9];constructor
 ·rintro⟨e,d,c⟩;cases a;cases b;simp only at e d c;rw[e,d,c]
 rintro rfl;exact⟨rfl,rfl,rfl⟩
theorem yn{a b c:V}(e:gG a b<=0)(d:gG b c<=0):gG a c<=0:=Ak _ _ _ _ _ _ _ _ _ e d
theorem n8:∀l m:List V,-1<=aX l m/\aX l m<=1
 |[],[]=>by simp[aX]
 |[],_::_=>by simp[aX]
 |_::_,[]=>by simp[aX]
 |a::l,b::m=>by
  rw[aX];split
  ·exact n8 l m
  exact mA a b
theorem mC:∀l m:List V,aX m l= -aX l m
 |[],[]=>rfl
 |[],_::_=>rfl
 |_::_,[]=>rfl
 |a::l,b::m=>by
  rw[aX,aX,uP a b];by_cases h:gG a b=0
  ·rw[if_pos (by omega),if_pos h,mC l m]
  rw[if_neg (by omega),if_neg h]
theorem kr:∀l m:List V,aX l m=0↔l=m
 |[],[]=>by simp[aX]
 |[],_::_=>by simp[aX]
 |_::_,[]=>by simp[aX]
 |a::l,b::m=>by
  rw[aX];by_cases h:gG a b=0
  ·rw[if_pos h,kr l m,Pw,(mB a b).1 h];simp
  rw[if_neg h,Pw];constructor
  ·intro c;exact absurd c h
  rintro⟨c,_⟩;exact absurd ((mB a b).2 c) h
theorem ld(l:List V):aX l l=0:=(kr l l).2 Z
theorem sU:∀{l m n:List V},aX l m<=0->aX m n<=0->aX l n<=0
 |[],_,[],_,_=>by simp[aX]
 |[],_,_::_,_,_=>by simp[aX]
 |_::_,[],_,h,_=>by simp[aX]at h
 |_::_,_::_,[],_,h=>by simp[aX]at h
 |a::l,b::m,c::n,h1,h2=>by
  rw[aX]at h1 h2⊢;have i:=mA a b;have j:=mA b c;by_cases e:gG a b=0
  ·rw[if_pos e]at h1;have:=(mB a b).1 e;subst this;by_cases d:gG a c=0
   ·rw[if_pos d]at h2⊢;exact sU h1 h2
   rw[if_neg d]at h2⊢;exact h2
  rw[if_neg e]at h1;by_cases d:gG b c=0
  ·have:=(mB b c).1 d;subst this;rw[if_neg e];exact h1
  rw[if_neg d]at h2;have g:=yn h1 h2;by_cases f:gG a c=0
  ·have:=(mB a c).1 f;subst this;have:=uP a b;omega
  rw[if_neg f];exact g
theorem iU{l m n:List V}(b:aX l m<0)(a:aX m n<0):aX l n<0:=by
 have c:=sU (Int.le_of_lt b) (Int.le_of_lt a);by_cases e:aX l n=0
 ·have:=(kr l n).1 e;subst this;have:=mC l m;omega
 omega
end Go.Proofs.YtfoejfohbkmmeaaGreatDoor
