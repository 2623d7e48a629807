import Derived.Test.YtfoejfohbkmmeaaGreatDoorU28
import Derived.Test.YtfoejfohbkmmeaaGreatDoorU26
import Derived.Test.YtfoejfohbkmmeaaGreatDoorU00
import Derived.Test.YtfoejfohbkmmeaaGreatDoorU12
namespace Go.Proofs.YtfoejfohbkmmeaaGreatDoor
open Go.RowKit
open Lib renaming hid→J
structure Side (w0:World) (G0:Nat->Prop) (w1:World) (G1:Nat->Prop) (vO:Value) (vs:List Value) (L:List (List Nat)) (vK:Value) (xs:List Value) (K:List (List V)):Prop where
 nest:Nest w1 w0.heap.size vO vs L
 keys:KeyR w1 w0.heap.size vK xs K G1
 kn:∀b,vK.ownBlock=some b->¬NB vO vs b
 g1:∀b,G1 b↔(G0 b\/NB vO vs b\/vK.ownBlock=some b)
 below:Below w0.heap.size w0 w1
 e0:Env w0
 ok0:Gt G0 w0
def oY(G0:Nat->Prop)(vO:Value)(vs:List Value)(vK:Value)(b:Nat):Prop:=G0 b\/NB vO vs b\/vK.ownBlock=some b
section
variable {w0 w1 w w':World} {G0 G1:Nat->Prop} {vO vK:Value} {vs xs:List Value} {L:List (List Nat)} {K:List (List V)}
theorem Side.env(h:Side w0 G0 w1 G1 vO vs L vK xs K):Env w1:=h.e0.below h.below (L5 _)
theorem Side.key(h:Side w0 G0 w1 G1 vO vs L vK xs K):∀b,vK.ownBlock=some b->w0.heap.size<=b/\b<w1.heap.size/\NoDigB w1 b:=fun b a=>⟨(h.keys.row.lt b a).1,(h.keys.row.lt b a).2,h.keys.rd b a⟩
theorem Side.okw(h:Side w0 G0 w1 G1 vO vs L vK xs K):Gt G1 w1:=fun g a=>by
 rcases(h.g1 g).1 a with a|a|a
 ·have b:=h.ok0 g a;exact⟨Mp b.1 h.below.size,b.2.of (h.below.block g b.1)⟩
 ·exact(h.nest.ok g a).2
 exact(h.key g a).2
theorem Side.later(h:Side w0 G0 w1 G1 vO vs L vK xs K)(a:Below w1.heap.size w1 w):Side w0 G0 w G1 vO vs L vK xs K:=
 ⟨h.nest.later a,h.keys.turn a.size (fun b d=>a.block b (h.key b d).2.1) (fun b c e=>⟨a.block b c,e⟩),h.kn,h.g1,ak h.below a h.below.size,h.e0,h.ok0⟩
theorem Side.ones(h:Side w0 G0 w1 G1 vO vs L vK xs K):(∀x∈vs,x.oneCell'=true)/\∀x∈xs,x.oneCell'=true:=by
 refine⟨fun x a=>?_,fun x a=>?_⟩
 ·obtain⟨j,b,rfl⟩:=Nb a;have f:=h.nest.len;obtain⟨d,_⟩:=h.nest.el j _ (L[j]'(by omega)) (L4 b) (L4 (by omega));obtain⟨A,c,e⟩:=cc d;rw[e];rfl
 exact lp h.keys.els (by
  rw[List.all_map];exact Mh.2 fun _ _=>rfl) x a
theorem ja{w0 w w':World}{r:Option Nat}(a:Below w0.heap.size w0 w)(b:w.grownBy w' r)(c:∀k,r=some k->w0.heap.size<=k):Below w0.heap.size w0 w':=a.grown b a.size c
theorem Side.insL(h:Side w0 G0 w1 G1 vO vs L vK xs K)(a:Below w1.heap.size w1 w){i x:Nat}{u v':Value}(D:EIs w w0.heap.size u [x])(p:∀g,u.ownBlock=some g->w1.heap.size<=g)(I:w'.ownsRow w0.heap.size 23 1 v' (L.length+1) (vs.take i++[u]++vs.drop i))(r:w.grownBy w' vO.ownBlock)(s:v'.ownBlock=vO.ownBlock\/v'.ownBlock=some w.heap.size)(F:∀g,v'.ownBlock=some g->NoDigB w' g)(E:i<=L.length):
  Side w0 G0 w' (oY G0 v' (vs.take i++[u]++vs.drop i) vK) v' (vs.take i++[u]++vs.drop i) (L.take i++[[x]]++L.drop i) vK xs K/\∀b,b<w.heap.size->¬(G1 b\/u.ownBlock=some b)->w'.heap[b]? =w.heap[b]? /\¬oY G0 v' (vs.take i++[u]++vs.drop i) vK b:=by
 have G:=h.okw;have B:=h.nest.later a;have H:=B.add D (fun g r l=>by have:=(h.nest.ok g l).2.1;have:=p g r;omega) I r s F E;have j:∀b,b<w.heap.size->¬NB vO vs b->w'.heap[b]? =w.heap[b]? :=fun b c l=>dV r c fun e=>l (.inl e)
 have v:∀b,NB v' (vs.take i++[u]++vs.drop i) b->NB vO vs b\/u.ownBlock=some b\/b=w.heap.size:=fun b a=>by
  rcases a with a|⟨t,q,a⟩
  ·rcases s with s|s
   ·exact .inl (.inl (s▸a))
   rw[s]at a;injection a with a;exact .inr (.inr a.symm)
  simp only[My,Ml]at q;rcases q with(q|rfl)|q
  ·exact .inl (.inr ⟨t,MC q,a⟩)
  ·exact .inr (.inl a)
  exact .inl (.inr ⟨t,M2 q,a⟩)
 have n:∀b,b<w.heap.size->¬(G1 b\/u.ownBlock=some b)->w'.heap[b]? =w.heap[b]? /\¬oY G0 v' (vs.take i++[u]++vs.drop i) vK b:=fun b c o=>by
  refine⟨j b c fun l=>o (.inl ((h.g1 b).2 (.inr (.inl l)))),fun d=>?_⟩;rcases d with d|d|d
  ·exact o (.inl ((h.g1 b).2 (.inl d)))
  ·rcases v b d with m|m|m
   ·exact o (.inl ((h.g1 b).2 (.inr (.inl m))))
   ·exact o (.inr m)
   omega
  exact o (.inl ((h.g1 b).2 (.inr (.inr d))))
 have A:∀b,b<w1.heap.size->¬NB vO vs b->w'.heap[b]? =w1.heap[b]? :=fun b c l=>(j b (Mp c a.size) l).trans (a.block b c)
 have y:∀b,vK.ownBlock=some b->w'.heap[b]? =w1.heap[b]? :=fun b f=>A b (h.key b f).2.1 (h.kn b f)
 have C:Below w0.heap.size w0 w':=ja (ak h.below a h.below.size) r fun k e=>(h.nest.ok k (.inl e)).1
 refine⟨⟨H,h.keys.turn (L6 a.size r.size) y fun b c o=>?_,fun b f l=>?_,fun b=>OU,C,h.e0,h.ok0⟩,n⟩
 ·have z:=n b (Mp c a.size) fun d=>by
   rcases d with d|d
   ·exact o d
   have:=p b d;omega
  exact⟨z.1.trans (a.block b c),z.2⟩
 have z:=(h.key b f).2.1;rcases v b l with m|m|m
 ·exact h.kn b f m
 ·have:=p b m;omega
 have:=a.size;omega
theorem Side.insK(h:Side w0 G0 w G1 vO vs L vK xs K){i:Nat}{k:List V}{u v':Value}(s:PT w G1 [u] [iK k])(r:w'.ownsRow w0.heap.size 61 1 v' (K.length+1) (xs.take i++[u]++xs.drop i))(p:w.grownBy w' vK.ownBlock)(c:v'.ownBlock=vK.ownBlock\/v'.ownBlock=some w.heap.size)(v:∀g,v'.ownBlock=some g->NoDigB w' g)(y:i<=K.length):
  Side w0 G0 w' (oY G0 vO vs v') vO vs L v' (xs.take i++[u]++xs.drop i) (K.take i++[k]++K.drop i)/\∀b,b<w.heap.size->¬G1 b->w'.heap[b]? =w.heap[b]? /\¬oY G0 vO vs v' b:=by
 have a:∀b,b<w.heap.size->vK.ownBlock≠some b->w'.heap[b]? =w.heap[b]? :=fun b l m=>dV p l m
 have j:∀b,b<w.heap.size->¬G1 b->w'.heap[b]? =w.heap[b]? /\¬oY G0 vO vs v' b:=fun b l n=>by
  refine⟨a b l fun m=>n ((h.g1 b).2 (.inr (.inr m))),fun d=>?_⟩;rcases d with d|d|d
  ·exact n ((h.g1 b).2 (.inl d))
  ·exact n ((h.g1 b).2 (.inr (.inl d)))
  rcases c with c|c
  ·exact n ((h.g1 b).2 (.inr (.inr (c▸d))))
  rw[c]at d;injection d with d;omega
 have o:Below w0.heap.size w0 w':=ja h.below p fun k e=>(h.key k e).1
 have t:=h.nest.kept (w':=w') fun b q=>a b (h.nest.ok b q).2.1 fun e=>h.kn b e q
 refine⟨⟨t,⟨by rw[show(K.take i++[k]++K.drop i).length=K.length+1 by simp;omega];exact r,v,?_⟩,fun b f m=>?_,fun b=>OU,o,h.e0,h.ok0⟩,j⟩
 ·have x:=((h.keys.els.take i).append s).append (h.keys.els.drop i);rw[Nk,Nk,OB,OL];exact x.mono p.size j
 rcases c with c|c
 ·exact h.kn b (c▸f) m
 rw[c]at f;injection f with f
 have:=(h.nest.ok b m).2.1;omega
theorem Ag{j:Nat}{u a:Value}(_:vs[j]? =some u){b:Nat}(h:NB vO (vs.set j a) b):NB vO vs b\/a.ownBlock=some b:=by
 rcases h with h|⟨t,d,c⟩
 ·exact .inl (.inl h)
 rcases OH d with e|rfl
 ·exact .inl (.inr ⟨t,e,c⟩)
 exact .inr c
theorem Side.app1(h:Side w0 G0 w G1 vO vs L vK xs K){j:Nat}{u n:Value}(x:vs[j]? =some u)(y:w.grownBy w' u.ownBlock)(q:n.ownBlock=u.ownBlock\/n.ownBlock=some w.heap.size)(D:∀g,n.ownBlock=some g->NoDigB w' g)(s:∀g,n.ownBlock=some g->g<w'.heap.size):
  Gt (oY G0 vO (vs.set j n) vK) w'/\Env w'/\∀b,b<w.heap.size->¬G1 b->w'.heap[b]? =w.heap[b]? /\¬oY G0 vO (vs.set j n) vK b:=by
 have d:=L9 x;have f:∀b,b<w.heap.size->u.ownBlock≠some b->w'.heap[b]? =w.heap[b]? :=fun b m p=>dV y m p
 have z:=h.okw;have A:Below w0.heap.size w0 w':=ja h.below y fun k e=>(h.nest.ok k (.inr ⟨u,d,e⟩)).1
 refine⟨fun g a=>?_,h.e0.below A (L5 _),fun b m r=>⟨f b m fun p=>r ((h.g1 b).2 (.inr (.inl (.inr ⟨u,d,p⟩)))),fun l=>?_⟩⟩
 ·have i:g<w.heap.size/\NoDigB w g->u.ownBlock≠some g->g<w'.heap.size/\NoDigB w' g:=fun v p=>⟨Mp v.1 y.size,v.2.of (f g v.1 p)⟩
  rcases a with a|a|a
  ·refine i (z g ((h.g1 g).2 (.inl a))) fun e=>?_
   have v:=(h.nest.ok g (.inr ⟨u,d,e⟩)).1;have l:=(h.ok0 g a).1;omega
  ·rcases a with a|⟨t,C,a⟩
   ·exact i (h.nest.ok g (.inl a)).2 fun e=>h.nest.out u d g e a
   obtain⟨k,E,rfl⟩:=Nb C;have c:=L4 E;rw[OQ]at c;split at c
   ·split at c
    ·injection c with c
     rw[<-c]at a;exact⟨s g a,D g a⟩
    cases c
   next hne=>
   exact i (h.nest.ok g (.inr ⟨_,L9 c,a⟩)).2 fun e=>h.nest.apart k j _ u g (fun B=>hne B.symm) c x a e
  exact i (h.key g a).2 fun e=>h.kn g a (.inr ⟨u,d,e⟩)
 rcases l with l|l|l
 ·exact r ((h.g1 b).2 (.inl l))
 ·rcases Ag x l with o|o
  ·exact r ((h.g1 b).2 (.inr (.inl o)))
  rcases q with q|q
  ·exact r ((h.g1 b).2 (.inr (.inl (.inr ⟨u,d,q▸o⟩))))
  rw[q]at o;injection o with o;omega
 exact r ((h.g1 b).2 (.inr (.inr l)))
theorem Side.app2(h:Side w0 G0 w G1 vO vs L vK xs K){j x g c:Nat}{u a:Value}{l:List Nat}{A d:World}(G:vs[j]? =some u)(R:L[j]? =some l)(Q:vO=.slice (some ⟨g,0,none⟩) L.length c)(O:A.ownsRow w0.heap.size 3 1 a (l.length+1) (mj (l++[x])))(H:w.grownBy A u.ownBlock)(i:a.ownBlock=u.ownBlock\/a.ownBlock=some w.heap.size)(S:∀g,a.ownBlock=some g->NoDigB A g)(P:bL a=true)(t:Below A.heap.size A d):
  Side w0 G0 (d.setCell ⟨g,j,none⟩ a) (oY G0 vO (vs.set j a) vK) vO (vs.set j a) (L.set j (l++[x])) vK xs K/\∀b,b<d.heap.size->¬oY G0 vO (vs.set j a) vK b->(d.setCell ⟨g,j,none⟩ a).heap[b]? =d.heap[b]? /\¬oY G0 vO (vs.set j a) vK b:=by
 have r:=L9 G;have q:w.grownBy d u.ownBlock:=H.trans (pQ t);have J:=gQ O (w':=d) fun b z=>t.block b (O.lt b z).2
 have I:∀g,a.ownBlock=some g->NoDigB d g:=fun g H=>(S g H).of (t.block g (O.lt g H).2)
 have T:=h.nest.app G R Q J q i I P;have F:∀b,b≠g->(d.setCell ⟨g,j,none⟩ a).heap[b]? =d.heap[b]? :=fun b z=>by
  simp only[World.setCell];rw[NJ,if_neg (fun e=>z e.symm)]
 have E:vO.ownBlock=some g:=by rw[Q];rfl
 have B:NB vO vs g:=.inl E;have n:∀b,b<w.heap.size->¬NB vO vs b->(d.setCell ⟨g,j,none⟩ a).heap[b]? =w.heap[b]? :=fun b m y=>(F b fun e=>y (e▸B)).trans (dV q m fun e=>y (.inr ⟨u,r,e⟩))
 have D:∀b,vK.ownBlock=some b->(d.setCell ⟨g,j,none⟩ a).heap[b]? =w.heap[b]? :=fun b z=>n b (h.key b z).2.1 (h.kn b z)
 have M:(d.setCell ⟨g,j,none⟩ a).heap.size=d.heap.size:=by simp[World.setCell]
 have N:Below w0.heap.size w0 (d.setCell ⟨g,j,none⟩ a):=(ja h.below q fun k e=>(h.nest.ok k (.inr ⟨u,r,e⟩)).1).setCell (p:=⟨g,j,none⟩) (h.nest.ok g B).1 _;have C:∀b,b<w.heap.size->¬G1 b->¬oY G0 vO (vs.set j a) vK b:=fun b m o v=>by
  rcases v with v|v|v
  ·exact o ((h.g1 b).2 (.inl v))
  ·rcases Ag G v with f|f
   ·exact o ((h.g1 b).2 (.inr (.inl f)))
   rcases i with i|i
   ·exact o ((h.g1 b).2 (.inr (.inl (.inr ⟨u,r,i▸f⟩))))
   rw[i]at f;injection f with f;omega
  exact o ((h.g1 b).2 (.inr (.inr v)))
 refine⟨⟨T,h.keys.turn (by rw[M];exact q.size) D fun b m o=>⟨n b m fun y=>o ((h.g1 b).2 (.inr (.inl y))),C b m o⟩,fun b s y=>?_,fun b=>OU,N,h.e0,h.ok0⟩,fun b _ o=>⟨F b fun e=>o (.inr (.inl (.inl (e▸E)))),o⟩⟩;rcases Ag G y with f|f
 ·exact h.kn b s f
 rcases i with i|i
 ·exact h.kn b s (.inr ⟨u,r,i▸f⟩)
 rw[i]at f;injection f with f
 have:=(h.key b s).2.1;omega
theorem rc{w:World}{base b i:Nat}(h:w.heap[b]? =some (.cells #[.int .i64 (i:Nat)] 3 (0,0)))(c:base<=b):EIs w base (.slice (some ⟨b,0,none⟩) 1 1) [i]:=by
 refine⟨⟨Z,.inr ⟨b,1,_,Z,c,h,L5 _,by decide,Z,Z⟩⟩,fun g a=>?_⟩;injection a with a
 subst a;exact cI h Z
end
structure GivenR (l:List Oper) (dsts:List (Option Nat)) (t:Array Value) (F:List (Value->World->Prop)) (cons:List (Option Nat)) (B:Nat) (w:World) (I0:World->Prop) (c0 i:Nat) (T:Nat->Value) (W:World):Prop extends GivenC l dsts t F cons B w i T W where
 ini:(c0==i||pB l c0 i)=true->I0 W
def Fp(P:Program)(l:List Oper)(dsts:List (Option Nat))(t:Array Value)(F:List (Value->World->Prop))(cons:List (Option Nat))(ap:List Nat)(B:Nat)(w:World)(I0:World->Prop)(c0:Nat)(i:Nat)(o:Oper):Prop:=
 vE l dsts F cons i o.guard/\∀(T:Nat->Value) (W:World),GivenR l dsts t F cons B w I0 c0 i T W->OpRuns P o T W fun v W'=>dQ F i v W'/\Bw B W W' (ap.contains i)
inductive StepsR (P:Program) (l:List Oper) (dsts:List (Option Nat)) (t:Array Value) (F:List (Value->World->Prop)) (cons:List (Option Nat)) (ap:List Nat) (B:Nat) (w:World) (I0:World->Prop) (c0:Nat):Nat->List Oper->Prop
 |nil {i:Nat}:StepsR P l dsts t F cons ap B w I0 c0 i []
 |cons' {i:Nat} {o:Oper} {r:List Oper} (h:Fp P l dsts t F cons ap B w I0 c0 i o) (hs:StepsR P l dsts t F cons ap B w I0 c0 (i+1) r):StepsR P l dsts t F cons ap B w I0 c0 i (o::r)
section
variable {P:Program} {l:List Oper} {dsts:List (Option Nat)} {t:Array Value} {F:List (Value->World->Prop)} {cs:List (Option Nat)} {ap:List Nat} {B:Nat} {w:World} {I0:World->Prop} {c0:Nat}
theorem StepsR.cons{i:Nat}{o:Oper}{r:List Oper}(a:vE l dsts F cs i o.guard)(h:∀(T:Nat->Value) (W:World),GivenR l dsts t F cs B w I0 c0 i T W->OpRuns P o T W fun v W'=>dQ F i v W'/\Bw B W W' (ap.contains i))
  (b:StepsR P l dsts t F cs ap B w I0 c0 (i+1) r):StepsR P l dsts t F cs ap B w I0 c0 i (o::r):=.cons' ⟨a,h⟩ b
theorem StepsR.at{n:Nat}{r:List Oper}(h:StepsR P l dsts t F cs ap B w I0 c0 n r):∀(k:Nat) (o:Oper),r[k]? =some o->Fp P l dsts t F cs ap B w I0 c0 (n+k) o:=by
 induction h with
 |nil=>intro k o h;simp at h
 |cons' h hs ih=>
  intro k o a;cases k with
  |zero=>
   simp only[MW,MN]at a;subst a;exact h
  |succ k=>
   have:=ih k o (by simpa using a);rwa[NT,NW 1 k]at this
theorem qL{id:Nat}{Q:Exit->Act->World->Prop}{a:Act}(dsts:List (Option Nat))(F:List (Value->World->Prop))(pf:List Bool)(cons:List (Option Nat))(ap:List Nat)(B:Nat)(I0:World->Prop)(c0:Nat)(a9:I0 w.drew)(hI:∀W W',I0 W->Below W.heap.size W W'->I0 W')(a4:(ap.all fun i=>i==c0||pB l i c0)=true)
  (hm:P.follows .mixedOrders=true) (a0:dM l.toArray=true) (hd:l.map (·.dst)=dsts) (u:bV a.tmps.size dsts=true) (hB:B<=w.heap.size) (Y:∀W,Stab W F)
  (b1:PureF F pf) (K:(ap.all fun i=>(List.range l.length).all fun j=>pf.getD j true||Bx l cons i j)=true)
  (N:StepsR P l dsts a.tmps F cons ap B w I0 c0 0 l)
  (U:∀(us:List Value) (W:World),us.length=dsts.length->(∀j,j<l.length->cons.getD j none=none->dQ F j (us.getD j undef) W)->Below B w W->B<=W.heap.size->Q .normal ⟨b8 a.tmps (dsts.zip us),a.defers⟩ W):(Code.region id l.toArray true).wp P Q a w:=by
 have b3:dsts.length=l.length:=by rw[<-hd];simp
 refine dF (fun L a' W=>∃us,a'=⟨b8 a.tmps (dsts.zip us),a.defers⟩/\L.size=l.length/\Closed l.toArray L/\MonoC F cons B w (fZ a.tmps dsts) L us W/\(L.getD c0 false=false->I0 W)) hm a0 ⟨fZ a.tmps dsts,?_,by simp,eI l.toArray,⟨Z,fun j d=>absurd d dG,fun _ _=>rfl,(Below.refl _ _).drew,hB⟩,fun _=>a9⟩ ?_ ?_
 ·rw[gX]
 ·rintro L a' W i o T h2 h3 h4 ⟨us,rfl,_,hc,n,X⟩;have T:L.size=l.length:=by simpa using T
  have J:l[i]? =some o:=by simpa using h3
  have hi:i<l.length:=(L7.1 J).1;have a3:dsts[i]? =some o.dst:=by rw[<-hd,MQ,J];rfl
  have q:us.length=dsts.length:=by rw[n.len,dj]
  have C:L.getD i false=false:=getD_both h2;have t:=hc.step h3 h4;have M:∀j,j≠i->pB l i j=true->L.getD j false=true:=fun j d y=>by
   have:=t.anc y (cM (by omega));rwa[am (fun e=>d e.symm)]at this
  have E:∀j,pB l j i=true->L.getD j false=false:=fun j y=>by
   cases hl:L.getD j false with
   |false=>rfl
   |true=>
    have:=hc.anc y hl;rw[C]at this;cases this
  have G:GivenC l dsts a.tmps F cons B w i (fun s=>(b8 a.tmps (dsts.zip us)).getD s undef) W:=by
   refine⟨fun s g=>eC dsts us _ s g,fun j s g=>?_,fun j s g=>?_,n.below,n.size⟩
   ·simp only[Ma,bne_iff_ne,beq_iff_eq]at g;obtain⟨⟨⟨d,y⟩,r⟩,g⟩:=g;show dQ F j ((b8 a.tmps (dsts.zip us)).getD s undef) W
    rw[(cl dsts us _ j s u q g).1];refine n.fact j (M j d y) fun c k=>?_
    rw[zk,k]at r;simp only[M5,beq_iff_eq]at r;rcases r with rfl|r
    ·exact C
    exact E c r
   simp only[Ma,M5,beq_iff_eq]at g;obtain⟨y,g⟩:=g;show(b8 a.tmps (dsts.zip us)).getD s undef=_
   have d:L.getD j false=false:=by
    rcases y with rfl|y
    ·exact C
    exact E j y
   rw[(cl dsts us _ j s u q g).1,n.old j d,jg _ _ _ _ g]
  obtain⟨hg,A⟩:Fp P l dsts a.tmps F cons ap B w I0 c0 i o:=by
   have:=N.at i o J;rwa[M0]at this
  have A:=A _ W ⟨G,fun h=>X (by
   simp only[M5,beq_iff_eq]at h;rcases h with rfl|h
   ·exact C
   exact E _ h)⟩
  have hw:Region.wanted o (yielded l.toArray (b8 a.tmps (dsts.zip us)))=true:=by
   unfold Region.wanted;cases a2:o.guard with
   |none=>rfl
   |some p=>
    obtain⟨j,b⟩:=p;rw[a2]at hg;obtain⟨s,g,hR⟩:=hg;simp only[Ma,bne_iff_ne,beq_iff_eq]at g;obtain⟨⟨⟨d,y⟩,r⟩,g⟩:=g;have hv:=hR _ _ (n.fact j (M j d y) fun c k=>by rw[r]at k;cases k);rw[<-(cl dsts us _ j s u q g).1]at hv;have a1:=(cl dsts us a.tmps j s u q g).2;have a5:(l.toArray[j]?).bind (·.dst)=some s:=by
     rw[<-hd,MQ]at g;cases ho:l[j]? with
     |none=>simp[ho]at g
     |some oj=>simpa[ho]using g
    have:(b8 a.tmps (dsts.zip us))[s]? =some (.bool b):=by
     have hz:s<(b8 a.tmps (dsts.zip us)).size:=by rw[fy];exact a1
     simp only[MV,MH hz,MK]at hv;rw[MH hz,hv]
    simp only[yielded,a5,Nc,this];cases b<;>rfl
  simp only[wpList];rw[if_pos hw];refine .inl<|Oper.wp_mono ?_ A.wp;rintro b2 V ⟨v,e,hR,D⟩;have R:Below B W V/\W.heap.size<=V.heap.size:=by
   cases I:ap.contains i with
   |true=>rw[I]at D;exact D
   |false=>
    rw[I]at D;exact⟨Below.mono D n.size,Below.size D⟩
  refine⟨us.set i v,?_,by simpa using T,t,⟨by simpa using n.len,fun j d k=>?_,fun j d=>?_,n.below.trans R.1,L6 n.size R.2⟩,fun d=>?_⟩
  ·rw[e];exact iE dsts us _ _ i _ v u q a3
  ·by_cases m:i=j
   ·subst m;have:(us.set i v).getD i undef=v:=by simp[List.getD,show i<us.length by omega]
    rw[this];exact hR
   have z:L.getD j false=true:=by rwa[am m]at d
   have:(us.set i v).getD j undef=us.getD j undef:=by simp[List.getD,m]
   rw[this];have hf:dQ F j (us.getD j undef) W:=n.fact j z fun c x=>by
    have:=k c x;by_cases S:i=c
    ·subst S;exact C
    rwa[am S]at this
   cases I:ap.contains i with
   |false=>
    rw[I]at D;exact(Y W).get j _ _ _ (Below.refl _ _) hf D
   |true=>
    by_cases b0:j<l.length
    ·have H:=Mh.1 K i (by simpa using I);have f:=Mh.1 H j (N1.2 b0);rw[M5]at f;rcases f with f|f
     ·exact b1.get j _ _ _ f hf
     exfalso;unfold Bx at f;simp only[M5,beq_iff_eq]at f;rcases f with(f|f)|f
     ·exact m f.symm
     ·rw[E j f]at z;cases z
     cases x:cons.getD j none with
     |none=>rw[x]at f;cases f
     |some c=>
      rw[x]at f;simp only[M5,beq_iff_eq]at f;have h7:=k c x;rcases f with rfl|f
      ·rw[cM (by omega)]at h7;cases h7
      rw[t.anc f (cM (by omega))]at h7;cases h7
    have hL:L.getD j false=false:=by simp[OO (show L.size<=j by omega)]
    rw[hL]at z;cases z
  ·by_cases m:i=j
   ·subst m;rw[cM (by omega)]at d;cases d
   rw[am m]at d;have:(us.set i v).getD j undef=us.getD j undef:=by simp[List.getD,m]
   rw[this];exact n.old j d
  have O:i≠c0:=fun e=>by
   rw[e]at hi d;rw[cM (by omega)]at d;cases d
  rw[am O]at d;cases I:ap.contains i with
  |false=>rw[I]at D;exact hI _ _ (X d) D
  |true=>
   exfalso;have H:=Mh.1 a4 i (by simpa using I);simp only[M5,beq_iff_eq]at H;rcases H with H|H
   ·exact O H
   have f:=M c0 (fun e=>O e.symm) H;rw[d]at f;cases f
 rintro L a' W T ⟨us,rfl,_,_,n,_⟩;exact U us W (by rw[n.len,dj]) (fun j d k=>n.fact j (T j (by simpa using d)) fun c t=>by rw[k]at t;cases t) n.below n.size
end
def BZ(w0:World)(G0:Nat->Prop)(o:Oper)(S:St)(t:Tree):Prop:=∀(bx:List Nat) (rv:List Value) (w:World) (T:Nat->Value),Mem w0 G0 S.bs S.rs bx rv w->
 (∀s,(dN o.op).contains s=true->FT (en w G0 bx rv S.rs) [T s] [S.get s])->OpRuns Tryz.prog o T w fun v w'=>FT (en w' G0 bx rv S.rs) [v] [t]/\Below w.heap.size w w'
inductive ChainB (w0:World) (G0:Nat->Prop) (ops:Array Oper) (dsts:List (Option Nat)) (n:Nat):Nat->St->List Oper->List Tree->Prop
 |nil {i:Nat} {S:St}:ChainB w0 G0 ops dsts n i S [] []
 |op {i:Nat} {S:St} {o:Oper} {os:List Oper} {t:Tree} {ts:List Tree} (hg:o.guard=none) (h:BZ w0 G0 o S t) (hs:ChainB w0 G0 ops dsts n (i+1) (S.put o.dst t) os ts):ChainB w0 G0 ops dsts n i S (o::os) (t::ts)
 |cnd {i:Nat} {S:St} {o:Oper} {os:List Oper} {t:Tree} {ts:List Tree} (j:Nat) (b:Bool) (s:Nat) (C:Prop) [Decidable C] (hg:o.guard=some (j,b)) (hj:(j !=i&&reach ops n i j&&decide (j<i)&&dsts[j]? ==some (some s))=true) (hG:∃gv,S.get s=.sc gv/\(C↔gv=.bool b)) (h:C->BZ w0 G0 o S t) (hs:ChainB w0 G0 ops dsts n (i+1) (S.put o.dst (if C then t else .sc undef)) os ts):ChainB w0 G0 ops dsts n i S (o::os) ((if C then t else .sc undef)::ts)
theorem ChainB.length{w0:World}{G0:Nat->Prop}{ops:Array Oper}{a:List (Option Nat)}{n i:Nat}{S:St}{b:List Oper}{ts:List Tree}(h:ChainB w0 G0 ops a n i S b ts):b.length=ts.length:=by induction h<;>simp_all
section
variable {w0:World} {G0:Nat->Prop} {Q:Exit->St->Prop} {S:St}
theorem jb{ops:Array Oper}{c:List (Option Nat)}{n:Nat}{a:Act}{w:World}{bx:List Nat}{rv:List Value}(u:bV a.tmps.size c=true)(m:lX ops c n=true)(q:ops.toList.map (·.dst)=c)(r:∀i,FT (en w G0 bx rv S.rs) [a.tmps.getD i undef] [S.get i])(ts:List Tree):
  ∀(D:List Oper) (i:Nat) (us:List Tree) (S':St),ChainB w0 G0 ops c n i S' D us->(∀(k:Nat) (o:Oper),D[k]? =some o->ops[i+k]? =some o)->us=ts.drop i->S'=fk S (c.take i) (ts.take i)->i+D.length<=ops.size->i<=ts.length->StepsT Tryz.prog ops c a.tmps (RT G0 bx rv S.rs ts) (fun _=>none) (WT w0 w G0 S bx rv) (fun _ W W'=>Below W.heap.size W W') i D
 |[],i,us,S',h,_,_,_,_,_=>trivial
 |o::D,i,us,S',h,hops,hus,hS',hlen,hle=>by
  have a1:ops[i]? =some o:=hops 0 o Z;have a9:i<ops.size:=by simp only[Mb]at hlen;omega
  have b0:c.length=ops.size:=by rw[<-q];simp
  have a4:c[i]? =some o.dst:=by
   rw[<-q,MQ];simp only[Np,a1,Nu]
  have d:=k6 (c.take i) (ts.take i) S;rw[<-hS']at d;have B:∀t G,us=t::G->G=ts.drop (i+1)/\ts[i]? =some t/\S'.put o.dst t=fk S (c.take (i+1)) (ts.take (i+1))/\i+1<=ts.length:=fun t G e=>by
   have y:ts.drop i=t::G:=by rw[<-hus,e]
   have p:i<ts.length:=by
    rcases MI i ts.length with h|h
    ·exact h
    rw[Mg h]at y;cases y
   rw[Md p]at y;injection y with h2 P
   refine⟨P.symm,by rw[L4 p,h2],?_,p⟩;obtain⟨Y,X⟩:=L7.1 a4;rw[Mq Y,Mq p,jM _ _ _ _ _ (by simp only[Mf];omega),X,h2,hS']
  have K:∀s,(∀j,c[j]? =some (some s)->i<=j)->S'.get s=S.get s:=fun s H=>by
   rw[hS'];refine jr _ _ _ s ?_;cases M:(c.take i).contains (some s)with
   |false=>rfl
   |true=>
    obtain⟨j,g,a5⟩:=Nb (MT.1 M);have y:(c.take i)[j]? =some (some s):=by rw[L4 g,a5]
    obtain⟨h2,P⟩:=e8 y;have:=H j P;omega
  have A:∀s j,c[j]? =some (some s)->j<i->∃t,ts[j]? =some t/\S'.get s=t:=fun s j g a0=>by
   have a2:j<ts.length:=by omega
   refine⟨ts[j],L4 a2,?_⟩;rw[hS'];have R:=jL i u;exact mC _ _ S a.tmps.size j s _ R (jq g a0) (jq (L4 a2) a0)
  have L:∀(T:Nat->Value) (W:World),Given ops c a.tmps (RT G0 bx rv S.rs ts) (fun _=>none) (WT w0 w G0 S bx rv) i T W->∀s,(dN o.op).contains s=true->FT (en W G0 bx rv S'.rs) [T s] [S'.get s]:=fun T W E s H=>by
   rw[d.2.1];have V:wM ops c n i s=true:=by
    have y:=Mh.1 m i (N1.2 a9);simp only[a1]at y;exact Mh.1 y s (MT.1 H)
   unfold wM at V;cases Q:eJ s c with
   |none=>
    have I:=fI Q;rw[E.keep s I,K s (fun j g=>by
     have:=MT.2 (L9 g);rw[I]at this;cases this)]
    exact(r s).later E.wi.2
   |some j=>
    have g:=eP Q;simp only[Q]at V;split at V
    ·next p=>
     obtain⟨t,U,he⟩:=A s j g p;have:=E.fact n j s (by simp only[Ma,bne_iff_ne,beq_iff_eq];exact⟨⟨⟨by omega,V⟩,Z⟩,g⟩);unfold RT at this;rw[Mm,U,MK]at this;rw[he];exact this
    next hge=>
    rw[E.old n j s (by simp only[Ma,beq_iff_eq];exact⟨V,g⟩),K s (fun j' a3=>by
     rw[gA u a3 g];omega)]
    exact(r s).later E.wi.2
  have f:∀(k:Nat) (o:Oper),D[k]? =some o->ops[i+1+k]? =some o:=fun k x Q=>by have:=hops (k+1) x (by simpa using Q);rw[show i+1+k=i+(k+1) by omega,this]
  have l:i+1+D.length<=ops.size:=by simp only[Mb]at hlen;omega
  have J:∀t,BZ w0 G0 o S' t->ts[i]? =some t->∀(T:Nat->Value) (W:World),Given ops c a.tmps (RT G0 bx rv S.rs ts) (fun _=>none) (WT w0 w G0 S bx rv) i T W->OpRuns Tryz.prog o T W fun v W'=>RT G0 bx rv S.rs ts i v W'/\Below W.heap.size W W':=fun t z U T W E=>by
   have:=z bx rv W T (by rw[d.1,d.2.1];exact E.wi.1) (L T W E);rw[d.2.1]at this;unfold RT;rw[Mm,U,MK];exact this
  have F:∀j s gv,(j !=i&&reach ops n i j&&decide (j<i)&&c[j]? ==some (some s))=true->S'.get s=.sc gv->(j !=i&&reach ops n i j&&(none:Option Nat)==none&&c[j]? ==some (some s))=true/\∀v W,RT G0 bx rv S.rs ts j v W->v=gv:=fun j s gv g hS=>by
   simp only[Ma,bne_iff_ne,beq_iff_eq,decide_eq_true_eq]at g⊢;obtain⟨⟨⟨y,h2⟩,P⟩,h4⟩:=g;refine⟨⟨⟨⟨y,h2⟩,trivial⟩,h4⟩,fun v W N=>?_⟩;obtain⟨t,U,he⟩:=A s j h4 P;unfold RT at N;rw[Mm,U,MK,<-he,hS]at N;exact N.isSc
  cases h with
  | @op _ _ _ _ t ts' hg z H=>
   obtain⟨e1,O,e3,e4⟩:=B t ts' rfl;exact .cons (by rw[hg];trivial) (J t z O) (jb u m q r ts D (i+1) ts' _ H f e1 e3 l e4)
  | @cnd _ _ _ _ t ts' j b s C _ hg g E z H=>
   obtain⟨gv,hS,hC⟩:=E;obtain⟨e1,O,e3,e4⟩:=B _ ts' rfl;obtain⟨g1,g2⟩:=F j s gv g hS;by_cases M:C
   ·rw[if_pos M]at O;exact .cons (by rw[hg];exact⟨n,s,g1,fun v W N=>(g2 v W N).trans (hC.1 M)⟩) (J t (z M) O) (jb u m q r ts D (i+1) ts' _ H f e1 e3 l e4)
   rw[if_neg M]at O;refine .skip n s hg g1 (fun v W N e=>M (hC.2 ((g2 v W N).symm.trans e))) (fun W=>?_) (jb u m q r ts D (i+1) ts' _ H f e1 e3 l e4);unfold RT;rw[Mm,O,MK];exact .pure (.sc _ .nil) .nil
theorem C9{id n:Nat}{ops:List Oper}{b:List (Option Nat)}{ts:List Tree}(g:dM ops.toArray=true)(r:ops.map (·.dst)=b)(c:bV S.n b=true)(e:lX ops.toArray b n=true)(f:ChainB w0 G0 ops.toArray b n 0 S ops ts)(k:Q .normal (fk S b ts)):AWP w0 G0 (.region id ops.toArray true) Q S:=by
 rintro a w ⟨bx,rv,A,h,q,d⟩;have t:b.length=ops.length:=by rw[<-r];simp
 have s:=jb (w0:=w0) (G0:=G0) (S:=S) (w:=w) (bx:=bx) (rv:=rv) (a:=a) (by rw[h];exact c) e (by simpa using r) d ts ops 0 ts S f (fun k o z=>by simpa using z) Z Z (by simp) (Mx _);refine lW b (RT G0 bx rv S.rs ts) (fun _=>none) (WT w0 w G0 S bx rv) (fun _ W W'=>Below W.heap.size W W') (by kernel_rfl) g (by simpa using r) (by rw[h];exact c)
  (fun _ W W' p u=>⟨p.1.later u,p.2.trans (u.mono p.2.size)⟩) (fun _ j v W W' _ _ m y=>FT.later m y) ⟨A.later (Below.refl _ _).drew,(Below.refl _ _).drew⟩ (by simpa using s) ?_
 intro us W l m x;exact⟨_,k,vo c h q l (by rw[t];exact f.length.symm) x.1 (fun i=>(d i).later x.2) (fun j B=>m j (by simp;omega) Z)⟩
theorem de{ops:Array Oper}{a:List (Option Nat)}{n i:Nat}{S:St}{o:Oper}{b:List Oper}{t:Tree}{ts:List Tree}(c:o.guard=none)(h:OpOK o S t)(d:ChainB w0 G0 ops a n (i+1) (S.put o.dst t) b ts):ChainB w0 G0 ops a n i S (o::b) (t::ts):=.op c (h w0 G0) d
theorem Ah{id fu n:Nat}{sl:List (Nat×Tree)}{bs:List (TypeId×List Tree)}{rs:List (Option Row)}{ops:List Oper}(a:List (Option Nat))(ts:List Tree){sl':List (Nat×Tree)}(d:dM ops.toArray=true)(g:ops.map (·.dst)=a)(e:bV n a=true)(b:lX ops.toArray a fu=true)(c:iS sl a ts=sl')(f:ChainB w0 G0 ops.toArray a fu 0 ⟨n,sl,bs,rs⟩ ops ts)(k:Q .normal ⟨n,sl',bs,rs⟩):AWP w0 G0 (.region id ops.toArray true) Q ⟨n,sl,bs,rs⟩:=
 C9 d g e b f (by rw[kh,c];exact k)
theorem xU{o:Oper}{t:TypeId}{s b off:Nat}{u:Value}(c:o.op=.load t (.tmp s))(j:S.get s=.sc (.pointer (some ⟨b,off,none⟩)))(f:iU Tryz.prog t=true)(e:b<w0.heap.size)(g:w0.cell? ⟨b,off,none⟩=some u):BZ w0 G0 o S (.sc u):=by
 intro bx rv w T i k;have h:T s=.pointer (some ⟨b,off,none⟩):=by
  have d:=k s (by rw[c];simp[dN,Op.operands]);rw[j]at d;exact d.isSc
 have a:w.cell? ⟨b,off,none⟩=some u:=by rw[<-g];exact World.cell?_of_block (i.below.block b e)
 exact aq (v:=u) (W':=w) (rN c h f a) ⟨.pure (.sc _ .nil) .nil,Below.refl _ _⟩
theorem Fq{b:World}{c:Nat->Prop}{Q:Exit->World->(Nat->Prop)->St->Prop}{S:St}{x y:Code}(I:St->Prop)(h:AWP b c x (fun e S=>e=.normal/\I S) S)(j:∀S,I S->BWP y Q b c S):BWP (.seq x y) Q b c S:=cP fun a w i=>wp_mono (h a w i) fun e k w' ⟨S',⟨g,f⟩,d⟩=>⟨b,c,S',by subst g;exact j S' f,d⟩
def m6(A:Option Addr)(l c:Nat):Option Addr:=if c=l then A else A.map (·.add (l*1))
theorem Da{o:Oper}{x:Operand}{lo a:Option Operand}{t e:TypeId}{l h n c:Nat}{A:Option Addr}(i:o.op=.slice t x lo a none)(r:gE Tryz.prog t=some (e,1))(s:S.ev x=.sc (.slice A n c))(g:IF S lo l)(f:IG S n a h)(z:l<=h)(p:h<=n)(q:n<=c):OpOK o S (.sc (.slice (m6 A l c) (h-l) (c-l))):=by
 intro w0 G0 bx rv w T C m;have u:=(bI m s (by rw[i];simp[Op.operands])).isSc;have b:(lo.map (cA T)=none/\l=0)\/∃k,lo.map (cA T)=some (.int k l):=by
  cases lo with
  |none=>exact .inl ⟨Z,g⟩
  |some y=>
   obtain⟨k,j⟩:=g;exact .inr ⟨k,by rw[Nu,(bI m j (by rw[i];simp[Op.operands])).isSc]⟩
 have d:(a.map (cA T)=none/\h=n)\/∃k,a.map (cA T)=some (.int k h):=by
  cases a with
  |none=>exact .inl ⟨Z,f⟩
  |some y=>
   obtain⟨k,j⟩:=f;exact .inr ⟨k,by rw[Nu,(bI m j (by rw[i];simp[Op.operands])).isSc]⟩
 have B:=jo (P:=Tryz.prog) (w:=w) (A:=A) r (lo.map (cA T)) (a.map (cA T)) b d z p q;exact aq (v:=.slice (m6 A l c) (h-l) (c-l)) (W':=w) (by simp[execOp,i,u,B,m6]) ⟨.pure (.sc _ .nil) .nil,Below.refl _ _⟩
theorem sN{w:World}{base:Nat}{e:TypeId}{A:Option Addr}{n c l h:Nat}{xs:List Value}(m:w.ownsRow base e 1 (.slice A n c) n xs)(x:l<=h)(z:h<=n):
  n<=c/\(m6 A l c=none->h-l=0/\c-l=0)/\∀a,m6 A l c=some a->∀j u,((xs.take h).drop l)[j]? =some u->w.cell? (a.add j)=some u:=by
 have s:=m.1;rcases m.2 with⟨d,k⟩|⟨g,p,cur,d,q,t,k,v,y,r⟩
 ·injection d with d _ i
  subst d i k;have o:∀l,m6 none l 0=none:=fun l=>by unfold m6;split<;>rfl
  exact⟨L5 _,fun _=>by omega,fun a b=>by rw[o]at b;cases b⟩
 injection d with d _ i
 subst d i;refine⟨k,fun b=>?_,fun a b j u f=>?_⟩
 ·unfold m6 at b;split at b<;>cases b
 rw[Nd,MZ]at f;split at f
 ·unfold m6 at b;split at b
  ·omega
  rw[Nu,Addr.add_mid]at b;injection b with b
  subst b;rw[Addr.add_mid];have:=World.ownsRow.cells m (g:=g) Z _ _ f;rw[m5]at this;rw[show 0+l*1+j=l+j by omega];exact this
 cases f
def Kz:Tree->Bool
 | .sc _=>true
 |_=>false
theorem uD:∀{sl:List (Nat×Tree)},sl.all (fun p=>Kz p.2)=true->∀i,look sl i=.any\/∃v,look sl i=.sc v
 |[],_,_=>.inl Z
 |(j,t)::sl,h,i=>by
  simp only[NP,Ma]at h;rw[cV];split
  ·cases t<;>first|exact .inr ⟨_,Z⟩|cases h.1
  exact uD h.2 i
theorem lr{E:En}{x v:Value}(h:x=v):FT E [x] [.sc v]:=by subst h;exact .pure (.sc _ .nil) .nil
theorem Sim.lits{j w w':World}{m:Nat->Prop}{n:Nat}{sl:List (Nat×Tree)}{a:Act}(h:Sim j m ⟨n,sl,[],[]⟩ a w)(f:Env w')(c:sl.all (fun p=>Kz p.2)=true):Sim w' (fun _=>False) ⟨n,sl,[],[]⟩ a w':=by
 obtain⟨_,_,_,d,l,o⟩:=h.facts;refine Sim.mk f (fun g k=>k.elim) d l fun i=>?_
 have b:=o i;rcases uD c i with e|⟨v,e⟩
 ·rw[e];exact .any _ .nil
 rw[e]at b⊢;exact lr b.isSc
theorem Ai{w:World}{base:Nat}{e i:TypeId}{sz n d:Nat}{v:Value}{xs:List Value}{c:Array Value}{f:Nat×Nat}(k:w.ownsRow base e sz v n xs)(a:w.heap[d]? =some (.cells c i f))(b:e≠i):v.ownBlock≠some d:=fun h=>by
 rcases k.2 with⟨rfl,_⟩|⟨g,m,cur,rfl,_,l,_⟩
 ·cases h
 injection h with h
 have o:g=d:=h;subst o;rw[l]at a;injection a with a
 injection a with _ j
 exact b j
end
end Go.Proofs.YtfoejfohbkmmeaaGreatDoor
