import Derived.Test.YtfoejfohbkmmeaaGreatDoorK20
import Derived.Lib.AppendZerosOnto
import Derived.ArgAppend
import Derived.Laws.NewBlocks
import Derived.Shelf.Spec.SlicesInsert
set_option maxRecDepth 100000
set_option maxHeartbeats 4000000
set_option linter.defProp false
open Go.Proofs.Tryz
namespace Go.Proofs.YtfoejfohbkmmeaaGreatDoor
open Go.RowKit
open Lib renaming hid→J
def j1{w:World}{base g n a sz i:Nat}{e:TypeId}{xs:List Value}(h:w.ownsRow base e sz (.slice (some ⟨g,0,none⟩) n a) n xs)(u:Value):(w.setCell ⟨g,i,none⟩ u).ownsRow base e sz (.slice (some ⟨g,0,none⟩) n a) n (xs.set i u):=by
 obtain⟨m,f⟩:=h;rcases f with⟨c,_⟩|⟨s,d,cur,c,k,l,p,o,q,r⟩
 ·cases c
 injection c with b _ j
 injection b with b
 injection b with b
 subst b j;refine⟨by rw[RO];exact m,.inr ⟨g,a,cur.setIfInBounds i u,Z,k,?_,p,o,by simpa using q,?_⟩⟩
 ·simp[World.setCell,SX,l]
 rw[<-r,S3,UP]
def sI:List Value->Nat->List Value->List Value
 |xs,_,[]=>xs
 |xs,o,v::r=>sI (xs.set o v) (o+1) r
def cY{base g n a sz:Nat}{e:TypeId}:∀(vs:List Value) (o:Nat) (w:World) (xs:List Value),w.ownsRow base e sz (.slice (some ⟨g,0,none⟩) n a) n xs->(w.setCells g o vs).ownsRow base e sz (.slice (some ⟨g,0,none⟩) n a) n (sI xs o vs)
 |[],_,_,_,h=>h
 |v::r,o,w,xs,h=>cY r (o+1) _ _ (j1 h v)
def kZ:∀(vs a b c:List Value),b.length=vs.length->sI (a++b++c) a.length vs=a++vs++c
 |[],a,b,c,h=>by
  obtain rfl:b=[]:=Rj h;rfl
 |v::r,a,[],c,h=>by cases h
 |v::r,a,x::b,c,h=>by
  have e:(a++x::b++c).set a.length v=(a++[v])++b++c:=by
   rw[RL,SY _ _ (Q3 _),RW];simp
  have d:=kZ r (a++[v]) b c (by simpa using h);rw[sI,e,show a.length+1=(a++[v]).length by simp,d];simp
def eo{P:Program}(w:World)(dT sT ty d:TypeId)(b o c f k:Nat)(a:Addr)(e h:Nat)(cs:List Value)
  (x:P.underlying dT=some (.slice d)) (n:(P.info? d).map (·.size)=some k) (u:Nat.min e c*k=cs.length)
  (g:∀j v,cs[j]? =some v->w.cell? (a.add j)=some v) (q:∀j,j<cs.length->(w.cell? ⟨b,o+j,none⟩).isSome=true) (r:∀j,j<cs.length->w.frozen? ⟨b,o+j,none⟩=false) (p:∀v∈cs,v.oneCell'=true):
  (Builtin.copy_ #[dT,sT] ty #[.slice (some ⟨b,o,none⟩) c f,.slice (some a) e h]).run P w=.ok (goInt (Nat.min e c)) (w.setCells b o cs):=by
 have t:=run_loadCells_list (P:=P) w a cs g;have m:=run_storeCells_cells (P:=P) b o cs 0 w (by simpa using q) (by simpa using r) p;cases l:P.info? d with
 |none=>simp[l]at n
 |some i=>
  have s:i.size=k:=by simpa[l]using n
  simp[Builtin.copy_,run_underlying x,Builtin.lenOf,Builtin.firstCells,sizeOf,typeInfo,l,s,u,t,m]
def F1:(prog.info? 67).map (λi=>(i.zero,i.size,i.bytes))=some (some (.agg #[.slice none 0 0,.bool false,.slice none 0 0,.slice none 0 0]),4,80):=U
def jS(k:Nat):(Builtin.zeroCells (Value.agg #[.slice none 0 0,.bool false,.slice none 0 0,.slice none 0 0]).cells k).size=k*4:=by
 simp[Builtin.zeroCells,Value.cells]
def Eh(k:Nat):(Builtin.zeroCells (Value.agg #[.slice none 0 0,.bool false,.slice none 0 0,.slice none 0 0]).cells k).toList.length=k*4:=by rw[Sd,jS]
def Hd(w:World)(b off n i:Nat)(a:List Value)(y:i<n)(z:n<=65536)(d:a.length=i*4)(m:∀j u,a[j]? =some u->w.cell? ⟨b,off+j,none⟩=some u):
  ∃c l t,(∀ty,(Builtin.append_ #[28,3] ty #[.slice (some ⟨b,off,none⟩) i n,.int .i64 ((n+1-i:Nat):Int)]).run prog w=.ok (.slice (some ⟨w.heap.size,0,none⟩) (n+1) c) l)/\l.ownsRow w.heap.size 67 4 (.slice (some ⟨w.heap.size,0,none⟩) (n+1) c) (n+1) (a++t)/\t.length=(n+1-i)*4/\Below w.heap.size w l/\n+1<=c/\c<=9223372036854775807:=by
 obtain⟨s,o,p,q,k⟩:=info_parts F1;have h:(Builtin.firstCells s.size i (.slice (some ⟨b,off,none⟩) i n)).run prog w.drew=.ok a.toArray w.drew:=by
  rw[q];exact run_firstCells_some w.drew 4 i ⟨b,off,none⟩ i n a d (λj v x=>by rw[Addr.add_lit];exact m j v x)
 have g:=grownCap_ge w (i+(n+1-i)) n 67;have f:=grownCap_le_maxLen w (i+(n+1-i)) n 67 (by unfold maxLen;omega);have r:=λty=>Lib.run_append_grow_zeros w 28 3 ty 67 s _ .i64 .i64 underlying28 underlying3 o p (some ⟨b,off,none⟩) i n a h (n+1-i) O O O O (by rw[k];omega) (by rw[k];exact growslice_fits O O)
 rw[show i+(n+1-i)=n+1 by omega]at r g f;refine⟨_,_,(Builtin.zeroCells (Value.agg #[.slice none 0 0,.bool false,.slice none 0 0,.slice none 0 0]).cells (n+1-i)).toList,r,⟨?_,.inr ⟨_,_,_,Z,Q3 _,heap_alloc_new _ _,g,f,?_,?_⟩⟩,?_,((Below.refl _ _).drew).alloc (Q3 _) _,g,by unfold maxLen at f;omega⟩
 ·rw[Q4,d,Sd,jS];omega
 ·rw[TP,TP,jS,jS,Us,d];omega
 ·have e:(a++(Builtin.zeroCells (Value.agg #[.slice none 0 0,.bool false,.slice none 0 0,.slice none 0 0]).cells (n+1-i)).toList).length=(n+1)*4:=by rw[Q4,Eh,d];omega
  rw[SE,SE,T9 (Tf e.symm)];exact Rf (Tf e)
 rw[Sd,jS]
def He(a us b d:List Value){n:Nat}(i:Nat)(k:us.length=4)(g:d.length=(n-i)*4)(l:b.length=(n+1-i)*4)(f:a.length=i*4)(j:i<n):sI (sI (a++b) (i*4) us) ((i+1)*4) d=a++us++d:=by
 have c:a++b=a++b.take 4++b.drop 4:=by rw[RL,R3]
 rw[c,<-f,kZ us a (b.take 4) (b.drop 4) (by rw[Rb];omega)];have e:(i+1)*4=(a++us).length:=by rw[Q4];omega
 have h:=kZ d (a++us) (b.drop 4) [] (by rw[Rm];omega);rw[RP,RP]at h;rw[e,h]
def BR{w w':World}(h:w.grownBy w' none):Below w.heap.size w w':=(Below.refl _ _).grown h (Q3 _) (λk e=>by cases e)
def fC{w:World}:∀(vs:List Value) (o:Nat) {W:World},Below w.heap.size w W->Below w.heap.size w (W.setCells w.heap.size o vs)
 |[],_,_,h=>h
 |v::r,o,_,h=>fC r (o+1) (h.setCell (p:=⟨w.heap.size,o,none⟩) (Q3 _) v)
def d6{w:World}{base g n b sz:Nat}{e:TypeId}{xs:List Value}(h:w.ownsRow base e sz (.slice (some ⟨g,0,none⟩) n b) n xs)(i:Nat):w.frozen? ⟨g,i,none⟩=false:=by
 rcases h.2 with⟨c,_⟩|⟨j,d,cur,c,k,f,_⟩
 ·cases c
 injection c with a
 injection a with a
 injection a with a
 subst a;simp[World.frozen?,f]
def hH{w:World}{base g n a sz:Nat}{e:TypeId}{xs:List Value}(h:w.ownsRow base e sz (.slice (some ⟨g,0,none⟩) n a) n xs){j:Nat}(b:j<n*sz):(w.cell? ⟨g,j,none⟩).isSome=true:=by
 have c:=h.1;have:=World.ownsRow.cells h (g:=g) Z j xs[j] (Q2 O);rw[show(⟨g,0,none⟩:Addr).add j=⟨g,j,none⟩from by unfold Addr.add;split<;>simp_all]at this;rw[this];rfl
def Kd(b off n i s c N:Nat)(cs us:List Value)(w:World)(hi:i<n)(hn:n<=65536)(z:cs.length=n*4)(E:us.length=4)
  (o:∀j v,cs[j]? =some v->w.cell? ⟨b,off+j,none⟩=some v) (F:∀j v,us[j]? =some v->w.cell? ⟨s,c+j,none⟩=some v) (G:∀v∈cs,v.oneCell'=true) (H:∀v∈us,v.oneCell'=true):
  Calls prog 84 #[.slice (some ⟨b,off,none⟩) n n,.int .i64 i,.slice (some ⟨s,c,none⟩) 1 N] w λe w'=>
   ∃d,e=.returned (.slice (some ⟨w.heap.size,0,none⟩) (n+1) d)/\w'.ownsRow w.heap.size 67 4 (.slice (some ⟨w.heap.size,0,none⟩) (n+1) d) (n+1) (cs.take (i*4)++us++cs.drop (i*4))/\Below w.heap.size w w':=by
 have K:b<w.heap.size:=World.block_lt_of_cell? _ _ (o 0 _ (Q2 O));have L:s<w.heap.size:=World.block_lt_of_cell? _ _ (F 0 _ (Q2 O));obtain⟨d,q,zs,C,f,M,t,a0,a1⟩:=Hd w b off n i (cs.take (i*4)) hi hn (by rw[Rb];omega) (λj u g=>by
  rw[R7]at g;split at g
  ·exact o j u g
  cases g)
 rw[show((n+1-i:Nat):Int)=(n:Int)+1-(i:Int) by omega]at C;have a2:IntKind.i64.wrap ((i:Int)+1)=(i:Int)+1:=by rw[RZ];omega
 have S:(0:Int)<=(i:Int)+1:=O
 have T:((i:Int)+1).toNat=i+1:=O
 have V:(i:Int)<=(n:Int):=O
 have X:¬((i:Int)=(n:Int)):=O
 have Y:(n:Int)<(n:Int)+1:=O
 have k:(cs.drop (i*4)).length=(n-i)*4:=by rw[Rm,z,Nat.sub_mul]
 have D:(prog.info? 67).map (·.size)=some 4:=U
 have h:∀ty l,(Builtin.copy_ #[28,28] ty #[.slice (some ⟨w.heap.size,i*4,none⟩) (n+1-i) l,.slice (some ⟨s,c,none⟩) 1 N]).run prog q=.ok (goInt (Nat.min 1 (n+1-i))) (q.setCells w.heap.size (i*4) us):=λty l=>
  eo q _ _ ty 67 w.heap.size (i*4) (n+1-i) l 4 ⟨s,c,none⟩ 1 N us underlying28 D (by rw[E,show Nat.min 1 (n+1-i)=1 from SD O])
   (λj v g=>by rw[Addr.add_lit];exact(t.cell (p:=⟨s,c+j,none⟩) L).trans (F j v g))
   (λj g=>hH f O) (λj g=>d6 f _) H
 have a:=cY us (i*4) q _ f;have m:Below w.heap.size w (q.setCells w.heap.size (i*4) us):=fC us _ t;obtain⟨r,y⟩:∃r,q.setCells w.heap.size (i*4) us=r:=⟨_,Z⟩;rw[y]at a m;simp only[y]at h;have B:Nat.min (n-i) (n-i)=n-i:=VD _;have R:prog.follows .mixedOrders=true:=U
 have I:¬(d=i+1):=O
 have J:¬(n=i):=O
 have A:∀(W:World),(∀x,W.cell? x=r.cell? x)->(∀x,W.frozen? x=r.frozen? x)->∀ty l sc,(Builtin.copy_ #[28,28] ty #[.slice (some ⟨w.heap.size,(i+1)*4,none⟩) (n-i) l,.slice (some ⟨b,off+i*4,none⟩) (n-i) sc]).run prog W=.ok (goInt (Nat.min (n-i) (n-i))) (W.setCells w.heap.size ((i+1)*4) (cs.drop (i*4))):=λW Q hf ty l sc=>
  eo W _ _ ty 67 w.heap.size ((i+1)*4) (n-i) l 4 ⟨b,off+i*4,none⟩ (n-i) sc (cs.drop (i*4)) underlying28 D (by rw[B,k])
   (λj v g=>by
    rw[Addr.add_lit,Q,S4];exact(m.cell (p:=⟨b,off+(i*4+j),none⟩) K).trans (o _ v (by rwa[Si]at g)))
   (λj g=>by rw[Q];exact hH a O) (λj g=>by rw[hf];exact d6 a _) (λv hv=>G v (Sf hv))
 go_enter func84,ntmps84
 go_wp2_with (first
  |(at_builtin;refine Lib.wpList_append_run _ Z _ _ _ _ Z _ _ Z Z _ _ (C _) ?_)
  |(at_builtin;refine wpList_copy_runI _ Z _ _ 28 28 Z _ _ Z Z (h _ _) ?_))
 go_region_law_o (refine step_copy_runI Z _ _ 28 28 Z (.slice (some ⟨w.heap.size,(i+1)*4,none⟩) (n-i) (d-(i+1))) (.slice (some ⟨b,off+i*4,none⟩) (n-i) (n-i)) (by simp[Act.eval,Act.put,I]) (by simp[Act.eval,Act.put,J]) (A r.drew (λ_=>rfl) (λ_=>rfl) 3 (d-(i+1)) (n-i)) ?_)
 go_wp2
 go_ret
 refine⟨d,Z,?_,fC _ _ m.drew⟩;have P:=cY (cs.drop (i*4)) ((i+1)*4) r.drew (sI (cs.take (i*4)++zs) (i*4) us) a;rw[He _ _ _ _ i E k M (by rw[Rb,z];omega) O]at P;exact P
def Ke(k:Option Addr)(n u c H:Nat)(cs us:List Value)(w:World)(W:n<=65536)(A:cs.length=n*4)(C:us.length=4)(f:k=none->n=0/\n=0)
  (p:∀b,k=some b->∀j v,cs[j]? =some v->w.cell? (b.add j)=some v) (r:∀b,k=some b->n=0\/∃g off,b=⟨g,off,none⟩) (D:∀j v,us[j]? =some v->w.cell? ⟨u,c+j,none⟩=some v) (z:∀v∈us,v.oneCell'=true):
  Calls prog 84 #[.slice k n n,.int .i64 n,.slice (some ⟨u,c,none⟩) 1 H] w λe w'=>
   ∃v',e=.returned v'/\w'.ownsRow w.heap.size 67 4 v' (n+1) (cs++us)/\Below w.heap.size w w':=by
 obtain⟨V,B,E,F,G⟩:=info_parts F1;have l:∀(ops:Array Oper) (m:List Oper) (o:Oper) (a:Act) (Q:Exit->Act->World->Prop) (L:o.guard=none) (s x:Operand) (q:o.op=Op.call {callee:=Callee.builtin Builtin.append,args:=#[s,x],argTypes:=#[28,28]}) (M:a.eval s=.slice k n n) (N:a.eval x=.slice (some ⟨u,c,none⟩) 1 H)
   (K:∀v' w',w'.ownsRow w.heap.size 67 4 v' (n+1) (cs++us)->Below w.heap.size w w'->wpList prog ops Q m (a.put o.dst v') w'),wpList prog ops Q (o::m) a w:=λ_ _ _ _ _ L s x q M N K=>
  wpList_append_grows w L s x 28 q 67 V _ 4 80 underlying28 B E F G Z I k n n cs M f A p ⟨u,c,none⟩ 1 H us N (by rw[C]) (λj v U=>by rw[Addr.add_lit];exact D j v U) z O (by unfold maxLen;omega) O (λv' w' S T=>K v' w' S (BR T))
 have t:k=none\/(n=0/\∃b,k=some b)\/∃g off,k=some ⟨g,off,none⟩:=by
  cases k with
  |none=>exact .inl Z
  |some b=>
   rcases r b rfl with h|⟨g,off,rfl⟩
   ·exact .inr (.inl ⟨h,b,Z⟩)
   exact .inr (.inr ⟨g,off,Z⟩)
 have y:=J l;clear l p f r;rcases t with rfl|⟨rfl,b,rfl⟩|⟨g,off,rfl⟩
 ·go_enter func84,ntmps84
  go_wp2_with (at_builtin;refine y.out _ _ _ _ _ Z _ _ Z Z Z ?_;intro P R i d)
  go_ret
  exact⟨_,Z,i,d⟩
 ·go_enter func84,ntmps84
  go_wp2_with (at_builtin;refine y.out _ _ _ _ _ Z _ _ Z Z Z ?_;intro P R i d)
  go_ret
  exact⟨_,Z,i,d⟩
 go_enter func84,ntmps84
 go_wp2_with (at_builtin;refine y.out _ _ _ _ _ Z _ _ Z Z Z ?_;intro P R i d)
 go_ret
 exact⟨_,Z,i,d⟩
def vL{W W':World}{G:Nat->Prop}{e:TypeId}{sz:Nat}{v:Value}{xs:List Value}{es:List Tree}(f:OkG G W)(d:W'.ownsRow W.heap.size e sz v es.length xs)(l:PT W' G xs (flat es)):PT W' G [v] [.sl es]:=by
 rcases d.2 with⟨rfl,c⟩|⟨g,a,cur,rfl,m,i,c,b,n,o⟩
 ·have:es=[]:=Rj c;rw[this];exact bS _ _
 refine .sl g 0 a _ xs es (RQ.1 i).1 (λh=>?_) (λj u k=>?_) Z c (by unfold maxLen at b;omega) l .nil
 ·have:=(f g h).1;omega
 have:=World.ownsRow.cells d (g:=g) Z j u k;rw[show(⟨g,0,none⟩:Addr).add j=⟨g,0+j,none⟩from Addr.add_lit ..]at this;exact this
def ny{W:World}{G:Nat->Prop}{us:List Value}{ts:List Tree}(h:PT W G us ts)(a:ts.all Tree.one=true):∀u∈us,u.oneCell'=true:=FT.ones (E:=⟨W,G,λ_=>none,λ_=>none⟩) (FT.of h) a
def Ei(l:List Tp)(t:Tp)(i:Nat)(hi:i<=l.length)(M:l.length<=65536):Ct 84 [.tl (l.map Tp.tree),iT (i:Nat),.sl ([t].map Tp.tree)] (.sl ((l.take i++[t]++l.drop i).map Tp.tree)):=⟨⟨_,func84,Z,Z⟩,λG w vs _ X hp=>by
 obtain⟨v,x,y,rfl,S,T,U⟩:=qN hp;cases T;have H:Sized 4 (l.map Tp.tree):=c6 _;have I:Sized 4 ([t].map Tp.tree):=c6 _;obtain⟨B,Q,rfl,_,_,_,V⟩:=U.slice;obtain⟨P,d,us,rfl,a1,_,C,k⟩:=V F;have z:us.length=4:=by rw[k.length,I.flat];rfl
 have s:∀u∈us,u.oneCell'=true:=ny k (AllC.map Tp.tree [t] (λ_=>rfl)).all;cases S with
 |tl A n _ hn hs _=>
  rw[Rn]at hn;subst hn;obtain⟨A',c',hv,_,_,W,E⟩:=hs.slice;injection hv with D e2 e3
  subst D;rw[Rn]at E;obtain⟨cs,o,h,m⟩:∃cs:List Value,cs.length=l.length*4/\PT w G cs (flat (l.map Tp.tree))/\∀b,A=some b->∀j u,cs[j]? =some u->w.cell? (b.add j)=some u:=by
   rcases RV l.length with f|f
   ·obtain rfl:l=[]:=Rj f;exact⟨[],Z,.nil,λb _ j u L=>by simp at L⟩
   obtain⟨b,off,xs,rfl,_,_,Y,N⟩:=E f;refine⟨xs,by rw[N.length,H.flat,Rn],N,λb' J j u L=>?_⟩;rw[<-Sw J,Addr.add_lit];exact Y j u L
  have c:∀{e:Ending} {w':World} (v':Value),e=.returned v'->w'.ownsRow w.heap.size 67 4 v' (l.length+1) (cs.take (i*4)++us++cs.drop (i*4))->Below w.heap.size w w'->∃v,e=.returned v/\PT w' G [v] [.sl ((l.take i++[t]++l.drop i).map Tp.tree)]/\Below w.heap.size w w':=λ{e w'} v' p r a=>by
   refine⟨v',p,vL (sz:=4) (e:=67) (xs:=cs.take (i*4)++us++cs.drop (i*4)) X ?_ ?_,a⟩
   ·rw[show((l.take i++[t]++l.drop i).map Tp.tree).length=l.length+1 by simp;omega];exact r
   rw[Sn,Sn,Tv,Tw,jO,jO,lZ H,ma H];exact((((h.take _).later a).append (k.later a)).append ((h.drop _).later a))
  rcases RE i l.length with K|a0
  ·obtain⟨b,off,xs,rfl,_,_,_,_⟩:=E O;refine(Kd b off l.length i P d Q cs us w K M o z (λj v q=>by rw[<-Addr.add_lit];exact m _ Z j v q) (λj v q=>C j v q) (ny h (AllC.map Tp.tree l (λ_=>rfl)).all) s).mono ?_;rintro e w' ⟨R,p,r,a⟩;exact c _ p r a
  obtain rfl:i=l.length:=O
  refine(Ke A l.length P d Q cs us w M o z (λe=>by have:=W e;exact⟨O,O⟩) m (λb a=>?_) (λj v q=>C j v q) s).mono ?_
  ·rcases RV l.length with f|f
   ·exact .inl f
   obtain⟨g,off,xs,D,_⟩:=E f;rw[a]at D;exact .inr ⟨g,off,Sw D⟩
  rintro e w' ⟨v',p,r,a⟩;refine c v' p ?_ a;rw[Rf O,Rc O,RP];exact r⟩
