import Derived.Test.YtfoejfohbkmmeaaGreatDoorU29
import Derived.Test.YtfoejfohbkmmeaaGreatDoorU30
import Derived.Test.YtfoejfohbkmmeaaGreatDoorU37
import Derived.Test.YtfoejfohbkmmeaaGreatDoorU27
import Derived.Test.YtfoejfohbkmmeaaGreatDoorU00
namespace Go.Proofs.YtfoejfohbkmmeaaGreatDoor
open Go.RowKit
open Lib renaming hid→J
theorem nM:∀{cs:List Col} {vs:List V},vs.length=cs.length->(dJ cs vs=[]↔dL cs=false)
 |[],[],_=>by simp[dJ,dL]
 |[],_::_,h=>by simp at h
 |_::_,[],h=>by simp at h
 |c::cs,v::vs,h=>by
  have a:=nM (cs:=cs) (vs:=vs) (by simpa using h);unfold dL at a⊢;rw[dJ,Pm];cases b:c.key
  ·rw[if_neg (by simp),a];simp
  rw[if_pos Z];simp
theorem s8{s:Sch}{vs:List V}(h:vs.length=s.cols.length):aG s vs=[]↔dL s.cols=false:=by
 unfold aG;rw[if_pos h,nM h]
theorem s9{k:List V}:∀{K:List (List V)} {j:Nat},j<=K.length->(∀x y,x<j->K[x]? =some y->aO y k<0)->(∀y,K[j]? =some y->¬aO y k<0)->bk K k=j
 |[],j,hj,_,_=>by
  obtain rfl:j=0:=by simpa using hj
  rfl
 |y::K,0,_,_,h=>by
  unfold bk;rw[Nh,if_neg (by simpa using h y Z)];rfl
 |y::K,j+1,hj,h1,h2=>by
  have b:=s9 (k:=k) (K:=K) (j:=j) (by simpa using hj) (fun x z c a=>h1 (x+1) z (by omega) (by simpa using a)) (fun z a=>h2 z (by simpa using a));unfold bk at b⊢;rw[Nh,if_pos (by simpa using h1 0 y (by omega) Z),Mb,b]
theorem qu(s:Sch)(k:List V):∀(ts:List Tp) (i:Nat) (l:List Nat) (h:Nat),bX s k ts i=h::l->∃t,i<=h/\ts[h-i]? =some t/\aG s t.vals=k
 |[],i,l,h,e=>by simp[bX]at e
 |t::ts,i,l,h,e=>by
  rw[bX]at e;split at e
  ·next hc=>
   injection e with b f
   subst b;exact⟨t,L5 _,by simp,(jZ _ _).1 hc⟩
  obtain⟨c,g,d,a⟩:=qu s k ts (i+1) l h e;refine⟨c,by omega,?_,a⟩;rw[show h-i=(h-(i+1))+1 by omega,Pd];exact d
theorem uP{s:Sch}{k:List V}{t:Tp}(a:aG s t.vals=k):∀{ts:List Tp} {i:Nat},t∈ts->bX s k ts i≠ []
 |[],_,h=>by cases h
 |u::ts,i,h=>by
  rw[bX];split
  ·simp
  next hc=>
  rcases Mi.1 h with rfl|h
  ·exact absurd ((jZ _ _).2 a) hc
  exact uP a h
theorem FV{s:Sch}{ts:List Tp}{i j:Nat}{K:List (List V)}{L:List (List Nat)}{l:List Nat}(m:dh s ([],[]) 0 (ts.take i)=(K,L))(h:∀t∈ts,aG s t.vals≠ [])(o:L[j]? =some l):∃d tl e,l=d::tl/\ts[d]? =some e/\K[j]? =some (aG s e.vals):=by
 have n:=i8 (s:=s) (ts.take i) [] ([],[]) ⟨Z,fun t b=>(by cases b),fun k h=>(by cases h),List.Pairwise.nil⟩ fun t b=>h t (MC b)
 rw[Mo,m,M6]at n;have q:L=K.map fun k=>bX s k (ts.take i) 0:=n.bl
 rw[q,MQ]at o;obtain⟨k,c,rfl⟩:=Na.1 o;obtain⟨t,b,g⟩:=n.src k (L9 c);cases a:bX s k (ts.take i) 0 with
 |nil=>exact absurd a (uP g b)
 |cons d tl=>
  obtain⟨e,_,f,p⟩:=qu s k _ _ _ _ a;rw[O8,MZ]at f;split at f
  ·exact⟨d,tl,e,Z,f,by rw[c,p]⟩
  cases f
section
variable {w W:World} {base:Nat} {v v':Value} {vs:List Value} {L:List (List Nat)}
theorem Nest.new(h:Nest w base v vs L)(M:Below w.heap.size w W)(r:base<=w.heap.size){i x:Nat}{u:Value}(z:EIs W w.heap.size u [x])(D:W.ownsRow w.heap.size 23 1 v' (L.length+1) (vs.take i++[u]++vs.drop i))(O:∀g,v'.ownBlock=some g->NoDigB W g)(K:i<=L.length):
  Nest W base v' (vs.take i++[u]++vs.drop i) (L.take i++[[x]]++L.drop i):=by
 have P:=h.len;have p:∀t∈vs,∀b,t.ownBlock=some b->b<w.heap.size:=fun t a b c=>(h.ok b (.inr ⟨t,a,c⟩)).2.1
 have G:=h.later M;refine⟨by rw[show(L.take i++[[x]]++L.drop i).length=L.length+1 by simp;omega];exact i6 D r,O,fun j t l a m=>?_,fun j k s t b C n a d f=>?_,fun t a b c e=>?_⟩
 ·rw[mT _ _ (by omega)]at a;rw[mT _ _ K]at m;by_cases A:j<i
  ·rw[if_pos A]at a m;exact G.el j t l a m
  rw[if_neg A]at a m;by_cases q:j=i
  ·rw[if_pos q]at a m;cases a;cases m;exact⟨i6 z.1 r,z.2⟩
  rw[if_neg q]at a m;exact G.el _ t l a m
 ·have key:∀(E:Nat) (B:Value),vs[E]? =some B->B.ownBlock=some b->u.ownBlock=some b->False:=fun E B A q I=>by
   have:=p B (L9 A) b q;have:=(z.1.lt b I).1;omega
  rw[mT _ _ (by omega)]at n a;by_cases F:j<i
  ·rw[if_pos F]at n;by_cases o:k<i
   ·rw[if_pos o]at a;exact h.apart j k s t b C n a d f
   rw[if_neg o]at a;by_cases y:k=i
   ·rw[if_pos y]at a;cases a;exact key _ _ n d f
   rw[if_neg y]at a;exact h.apart j (k-1) s t b (by omega) n a d f
  rw[if_neg F]at n;by_cases H:j=i
  ·rw[if_pos H]at n;cases n;by_cases o:k<i
   ·rw[if_pos o]at a;exact key _ _ a f d
   rw[if_neg o,if_neg (by omega)]at a;exact key _ _ a f d
  rw[if_neg H]at n;by_cases o:k<i
  ·rw[if_pos o]at a;exact h.apart (j-1) k s t b (by omega) n a d f
  rw[if_neg o]at a;by_cases y:k=i
  ·rw[if_pos y]at a;cases a;exact key _ _ n d f
  rw[if_neg y]at a;exact h.apart (j-1) (k-1) s t b (by omega) n a d f
 simp only[My,Ml]at a;have Q:=(D.lt b e).1;rcases a with(a|rfl)|a
 ·have:=p t (MC a) b c;omega
 ·rcases z.1.2 with⟨rfl,_⟩|⟨g,J,cur,rfl,_,N,_⟩
  ·cases c
  injection c with c
  have q:g=b:=c;subst q;exact Ai D N (by decide) e
 have:=p t (M2 a) b c;omega
theorem Nest.ones(h:Nest w base v vs L):∀u∈vs,u.oneCell'=true/\bL u=true:=fun u b=>by
 obtain⟨j,a,rfl⟩:=Nb b;have f:=h.len;obtain⟨d,_⟩:=h.el j _ (L[j]'(by omega)) (L4 a) (L4 (by omega));obtain⟨A,c,e⟩:=cc d;rw[e];exact⟨Z,Z⟩
end
section
variable {w0 w1 W:World} {G0 G1:Nat->Prop} {vO v' u:Value} {vs:List Value} {L:List (List Nat)} {i x:Nat}
theorem Side.newL(h:Side w0 G0 w1 G1 vO vs L (.slice none 0 0) [] [])(d:Below w1.heap.size w1 W)(k:EIs W w1.heap.size u [x])(j:W.ownsRow w1.heap.size 23 1 v' (L.length+1) (vs.take i++[u]++vs.drop i))(m:∀g,v'.ownBlock=some g->NoDigB W g)(l:i<=L.length):
  Side w0 G0 W (oY G0 v' (vs.take i++[u]++vs.drop i) (.slice none 0 0)) v' (vs.take i++[u]++vs.drop i) (L.take i++[[x]]++L.drop i) (.slice none 0 0) [] []/\∀b,b<w1.heap.size->¬G1 b->W.heap[b]? =w1.heap[b]? /\¬oY G0 v' (vs.take i++[u]++vs.drop i) (.slice none 0 0) b:=by
 refine⟨⟨h.nest.new d h.below.size k j m l,KeyR.nil _ _ _,fun b d=>(by cases d),fun b=>OU,ak h.below d h.below.size,h.e0,h.ok0⟩,fun b f e=>⟨d.block b f,fun a=>?_⟩⟩;rcases a with a|a|a
 ·exact e ((h.g1 b).2 (.inl a))
 ·rcases a with a|⟨t,c,a⟩
  ·have:=(j.lt b a).1;omega
  simp only[My,Ml]at c;rcases c with(c|rfl)|c
  ·exact e ((h.g1 b).2 (.inr (.inl (.inr ⟨t,MC c,a⟩))))
  ·have:=(k.1.lt b a).1;omega
  exact e ((h.g1 b).2 (.inr (.inl (.inr ⟨t,M2 c,a⟩))))
 cases a
end
def PcR(B i n:Nat)(f:Value->List Value)(r:Value)(W:World):Prop:=∃d,B<=d/\W.heap[d]? =some (.cells #[.int .i64 (i:Nat)] 3 (0,0))/\W.ownsRow B 23 1 r n (f (.slice (some ⟨d,0,none⟩) 1 1))/\∀g,r.ownBlock=some g->NoDigB W g
theorem jC{W W':World}(a:Below W.heap.size W W'){d:Nat}{x:Obj}(h:W.heap[d]? =some x):W'.heap[d]? =some x:=by
 rw[a.block d (ML.1 h).1];exact h
theorem PcR.later{B i n:Nat}{f:Value->List Value}{r:Value}{W W':World}(h:PcR B i n f r W)(a:Below W.heap.size W W'):PcR B i n f r W':=by
 obtain⟨d,e,k,b,j⟩:=h;exact⟨d,e,jC a k,dz b a,fun g c=>(j g c).of (a.block g (b.lt g c).2)⟩
def Jt(B p i n:Nat)(vs:List Value)(O vS vP:Value):List (Value->World->Prop):=[
 fun r _=>r=O,
 fun r _=>r=.int .i64 (i:Nat),
 fun r W=>∃b,r=.slice (some ⟨b,0,none⟩) 1 1/\B<=b/\W.heap[b]? =some (.cells #[.int .i64 (i:Nat)] 3 (0,0)),
 fun r W=>∃b d,r=.slice (some ⟨b,0,none⟩) 1 1/\B<=d/\W.heap[d]? =some (.cells #[.int .i64 (i:Nat)] 3 (0,0))/\W.heap[b]? =some (.cells #[.slice (some ⟨d,0,none⟩) 1 1] 23 (0,0)),
 fun r W=>PcR B i (p+1) (fun u=>vs.take p++[u]) r W,
 fun r _=>r=vS,
 fun r _=>r=.int .i64 (p:Nat),
 fun r _=>r=vP,
 fun r W=>PcR B i (n+1) (fun u=>vs.take p++[u]++vs.drop p) r W,
 fun r W=>PcR B i (n+1) (fun u=>vs.take p++[u]++vs.drop p) r W]
theorem Dx(B p i n:Nat)(vs:List Value)(O g j:Value)(W:World):Stab W (Jt B p i n vs O g j):=
 .eq<|.eq<|.cons (fun _ _ _ _ ⟨b,e,f,c⟩ a=>⟨b,e,f,jC a c⟩)<|.cons (fun _ _ _ _ ⟨b,d,e,f,c,k⟩ a=>⟨b,d,e,f,jC a c,jC a k⟩)<|.cons (fun _ _ _ _ h a=>h.later a)<|.eq<|.eq<|.eq<|.cons (fun _ _ _ _ h a=>h.later a)<|.cons (fun _ _ _ _ h a=>h.later a)<|.nil
theorem Dy(B p i n:Nat)(vs:List Value)(O b a:Value):PureF (Jt B p i n vs O b a) [true,true,false,false,false,true,true,true,false,false]:=
 .eq<|.eq<|.any<|.any<|.any<|.eq<|.eq<|.eq<|.any<|.any<|.nil
theorem Az:(Tryz.prog.info? 23).map (fun i=>(i.zero,i.size,i.bytes))=some (some (.slice none 0 0),1,24):=by kernel_rfl
theorem o6{W:World}{B n m c:Nat}{v:Value}{xs news:List Value}{A:Option Addr}(q:W.ownsRow B 23 1 v n xs)(d:A=none->m=0/\c=0)(b:∀a,A=some a->∀j u,news[j]? =some u->W.cell? (a.add j)=some u)(o:news.length=m)(l:∀u∈news,u.oneCell'=true/\bL u=true)(t:n+m<=1000000)(r:B<=W.heap.size)(s:∀g,v.ownBlock=some g->NoDigB W g):
  ∃v' W',(Builtin.append_ #[98,98] 98 #[v,.slice A m c]).run Tryz.prog W=.ok v' W'/\W'.ownsRow B 23 1 v' (n+m) (xs++news)/\W.grownBy W' v.ownBlock/\(v'.ownBlock=v.ownBlock\/v'.ownBlock=some W.heap.size)/\∀g,v'.ownBlock=some g->NoDigB W' g:=by
 obtain⟨p,k,f,i,e⟩:=info_parts Az;exact mz (P:=Tryz.prog) W B 98 98 23 p (.slice none 0 0) 1 24 Tryz.underlying98 k f i e Z (by decide) v n xs q A m c news (by rw[o,Oh]) d b (fun u h=>(l u h).1) (by unfold maxLen;omega) (by omega) r (by decide) (Mh.2 fun u h=>(l u h).2) s
end Go.Proofs.YtfoejfohbkmmeaaGreatDoor
