import Derived.Test.YtfoejfohbkmmeaaGreatDoorK23
import Derived.Test.YtfoejfohbkmmeaaGreatDoorK44
set_option maxRecDepth 100000
set_option maxHeartbeats 4000000
set_option linter.defProp false
open Go.Proofs.Tryz
namespace Go.Proofs.YtfoejfohbkmmeaaGreatDoor
open Go.RowKit
open Lib renaming hid→J
structure GI (w0:World) (G0:Nat->Prop) (r:Rel) (m:Nat) (w1:World) (G1:Nat->Prop) (S:St) (i:Nat) (L:List (List Nat)) (K:List (List V)) (AO AK:Option Addr) (cO cK:Nat) (vs xs:List Value) (sl:List (Nat×Tree)):Prop where
 hi:i<=r.tups.length
 hm:m=r.tups.length-i
 st:ei r.sch ([],[]) 0 (r.tups.take i)=(K,L)
 side:Side w0 G0 w1 G1 (.slice AO L.length cO) vs L (.slice AK K.length cK) xs K
 hS:S=⟨63,sl,[],[]⟩
 s1:look sl 1=.ref (bQ r)
 s3:look sl 3=.sc (.slice AO L.length cO)
 s4:look sl 4=.sc (.slice AK K.length cK)
 s15:look sl 15=.sl (r.tups.map Tp.tree)
 s16:look sl 16=.sc (.int .i64 (r.tups.length:Nat))
 s17:look sl 17=.sc (.int .i64 (i:Nat))
def QM(w0:World)(G0:Nat->Prop)(r:Rel)(m:Nat)(w1:World)(G1:Nat->Prop)(S:St):Prop:=∃i L K AO AK cO cK vs xs sl,GI w0 G0 r m w1 G1 S i L K AO AK cO cK vs xs sl
def iW{s:Sch}{ts:List Tp}{i:Nat}{t:Tp}{K:List (List V)}{L:List (List Nat)}(a:ei s ([],[]) 0 (ts.take i)=(K,L))(c:ts[i]? =some t):ei s ([],[]) 0 (ts.take (i+1))=jr s (K,L) i t:=by
 obtain⟨b,rfl⟩:=Q6.1 c;rw[Rz b,pK,a,Rb,R4,SD O]
def lV{α:Type}(l:List α)(x:α){p:Nat}(a:p<=l.length):l.insertIdx p x=l.take p++[x]++l.drop p:=by
 have h:=iD x (l.drop p) (l.take p);rw[R3,Rb,SD a]at h;rw[h,RL];rfl
def vU{α:Type}(f:α->α){l:List α}{p:Nat}{x:α}(h:l[p]? =some x):l.modify p f=l.set p (f x):=by
 obtain⟨c,rfl⟩:=Q6.1 h;have b:=p6 f l[p] (l.drop (p+1)) (l.take p);have a:(l.take p).length=p:=by rw[Rb];omega
 rw[<-Re c,R3,a]at b;rw[b,Uz,if_pos c]
def Ko{K:List (List V)}(h:PS K)(k:List V):PQ K k:=λa b x y j e c f=>by
 rcases RE a b with d|l
 ·obtain⟨g,rfl⟩:=Q6.1 e;obtain⟨i,rfl⟩:=Q6.1 c;exact lT (UW.1 h a b g i d) f
 obtain rfl:a=b:=O
 rw[e]at c;cases c;exact f
def BX(K:List (List V))(k:List V):bU K k<=K.length:=by
 unfold bU;exact(TK _).length_le
def tv:∀{cs:List Col} {vs us:List V},vs.length=cs.length->us.length=cs.length->(eT cs vs=[]↔eT cs us=[])
 |[],[],[],_,_=>T1
 |[],_::_,_,h,_=>by simp at h
 |[],_,_::_,_,h=>by simp at h
 |_::_,[],_,h,_=>by simp at h
 |_::_,_::_,[],_,h=>by simp at h
 |c::cs,v::vs,u::us,h,h'=>by
  have a:=tv (cs:=cs) (vs:=vs) (us:=us) (by simpa using h) (by simpa using h');rw[eT,eT];split
  ·simp
  exact a
def yx{s:Sch}{ts:List Tp}{i:Nat}{K:List (List V)}{L:List (List Nat)}(d:ei s ([],[]) 0 (ts.take i)=(K,L))(A:i<=ts.length)(n:∀t∈ts,t.vals.length=s.cols.length):
  L.length<=i/\K.length=L.length/\(∀b∈L,b.length<=i)/\(∀k∈K,k.length<=s.cols.length)/\((∃t∈ts,aR s t.vals≠ [])->PS K):=by
 have p:=nv (s:=s) (ts.take i) ([],[]) 0 ⟨Q3 _,λb r=>(by cases r)⟩;rw[d,Rb,R4,SD A]at p;have z:∀(us:List Tp) (c:List (List V)×List (List Nat)) (j:Nat),c.1.length=c.2.length->(∀k∈c.1,k.length<=s.cols.length)->(ei s c j us).1.length=(ei s c j us).2.length/\∀k∈(ei s c j us).1,k.length<=s.cols.length:=by
  intro us;induction us with
  |nil=>intro c j h g;exact⟨h,g⟩
  |cons u us ih=>
   intro c j h g;refine ih _ _ ?_ ?_
   ·unfold jr;split
    ·simp[h]
    split
    ·simp[h]
    simp[Vo,h]
   intro k a;unfold jr at a;split at a
   ·rcases RI.1 a with a|a
    ·exact g k a
    rw[Rs.1 a];exact jC _ _
   split at a
   ·exact g k a
   rcases lR a with a|rfl
   ·exact g k a
   exact jC _ _
 have q:=z (ts.take i) ([],[]) 0 Z (λk a=>by cases a);rw[d]at q;refine⟨p.1,q.1,λb r=>(p.2 b r).1,q.2,λ⟨o,m,v⟩=>?_⟩;have l:∀t∈ts,aR s t.vals≠ []:=λt f e=>v (by
  have x:aR s t.vals=eT s.cols t.vals:=by unfold aR;rw[if_pos (n t f)]
  have y:aR s o.vals=eT s.cols o.vals:=by unfold aR;rw[if_pos (n o m)]
  rw[y,tv (n o m) (n t f)];rw[<-x];exact e)
 have w:=kh (s:=s) (ts.take i) [] ([],[]) ⟨Z,λt f=>(by cases f),λk a=>(by cases a),List.Pairwise.nil⟩ λt f=>l t (RG f)
 rw[Ra,d]at w;exact w.srt
def tw{A:Option Addr}{n m c:Nat}(h:m=n):Tree.sc (.slice A n c)=.sc (.slice A m c):=by rw[h]
def mw{w0 f:World}{G0 a:Nat->Prop}{A B:Option Addr}{n m e b c d:Nat}{vs xs:List Value}{L:List (List Nat)}{K:List (List V)}(g:e=n)(i:b=m)(h:Side w0 G0 f a (.slice A n c) vs L (.slice B m d) xs K):Side w0 G0 f a (.slice A e c) vs L (.slice B b d) xs K:=by subst g i;exact h
def BY:(prog.info? 3).map (λi=>(i.zero,i.size,i.bytes))=some (some (.int .i64 0),1,8):=U
def cQ:gQ prog 98=some (23,1):=U
def nB:jP prog 23=true:=U
def vV:(prog.info? 23).map (·.size)=some 1:=U
def nC:ij prog 23=some [.slice none 0 0]:=U
def vW:ij prog 61=some [.slice none 0 0]:=U
def Hh(r:Rel)(h:FitR r)(m2:∀t∈r.tups,t.vals.length=r.sch.cols.length):Ct 65 [r.tree] (.sl ((bF r).map j0)):=by
 refine Ct.of (n:=63) func65 Z Z Z Z Z λw0 G0=>?_
 refine C<|M 1 (t:=.sl []) Z (bz (.inr Z) bS)<|E<|H<|X 3 Z<|aK Z (λf9=>?_) (λf9=>?_)
 ·have e3:=f9;refine C<|M 0 (t:=.sl []) Z (bz (.inr Z) bS)<|E<|aM ⟨Z,by unfold bF;rw[e3];rfl,Z⟩ Z
 have e3:=f9;refine ar<|X 1 Z<|X 1 Z<|H<|C<|M 2 Z (aU Z aV Z)<|Y 1 Z<|aB<|FX<|oq λa w k=>?_
 obtain⟨i3,h5,k0,i1,d0⟩:=k.unbox (ty:=30) (l:=[(1,.ref (bQ r)),(3,.sc (.slice none 0 0)),(4,.sc (.slice none 0 0)),(15,.sl (r.tups.map Tp.tree)),(16,nI r.tups.length),(17,nI 0)]) Z Z Z ⟨.inr ⟨0,Z,Z⟩,.inl ⟨Z,Z⟩,.inl ⟨Z,Z⟩,.inl ⟨Z,Z⟩,.inl ⟨Z,Z⟩,.inl ⟨Z,Z⟩,trivial⟩;refine⟨w,G0,_,i3,?_⟩;clear k i3;refine BI (QM w0 G0 r) r.tups.length ⟨0,[],[],none,none,0,0,[],[],_,Rg _,Z,Z,⟨Nest.nil _ _,KeyR.nil _ _ _,λb hb=>(by cases hb),λb=>⟨.inl,λh=>h.elim id λh=>h.elim (λh=>h.elim (λh=>by cases h) λ⟨u,hu,_⟩=>by cases hu) λh=>by cases h⟩,h5,k0,i1⟩,Z,Z,Z,Z,Z,Z,Z⟩ ?_;clear h5 d0 a w;rintro m w1 G1 S ⟨i,L,K,AO,AK,cO,cK,vs,xs,sl,hi,rfl,e5,d,rfl,s1,s3,s4,n1,n2,o1⟩;obtain⟨p1,h3,k3,k2,i4⟩:=yx e5 hi m2;have p3:=h.tups;refine qX [(1,.ref (bQ r)),(3,.sc (.slice AO L.length cO)),(4,.sc (.slice AK K.length cK)),(15,.sl (r.tups.map Tp.tree)),(16,nI r.tups.length),(17,nI i)] (.cons s1 Z (.cons s3 Z (.cons s4 Z (.cons n1 Z (.cons n2 Z (.cons o1 Z .nil))))))<|dK (BWP.of ?_);refine am<|aI 0 Z Z Zy (B (gF i r.tups.length))<|E ?_;show BWP _ _ w1 G1 _
 refine dK<|mq (b:=decide (i<r.tups.length)) Z (λhc=>?_) (λhc=>?_)
 ·replace hc:=of_decide_eq_true hc;obtain⟨t,e6⟩:∃t,r.tups[i]? =some t:=⟨_,Q2 hc⟩;have p4:=h.tup t (Q8 e6);refine mp ?_;show BWP _ _ w1 G1 _
  refine dK (yi ?_);refine dK (BWP.of ?_);refine am<|M 1 (t:=.ref (eA t)) Z (aO (Tp.tree t) Z aV Z Z Z (bd (f:=Tp.tree) e6) (c6 _) Z)<|Y 4 Z ?_;show BWP _ _ w1 G1 _
  refine dK (BWP.of ?_);refine am<|M 4 Z (D Z (Eb r.sch t.vals h.cols) Z Z)<|Y 1 Z ?_;show BWP _ _ w1 G1 _
  refine qX [(1,.ref (bQ r)),(3,.sc (.slice AO L.length cO)),(4,.sc (.slice AK K.length cK)),(15,.sl (r.tups.map Tp.tree)),(16,nI r.tups.length),(17,nI i),(5,nI i),(7,.sl ((aR r.sch t.vals).map V.tree))] (.cons Z Z (.cons Z Z (.cons Z Z (.cons Z Z (.cons Z Z (.cons Z Z (.cons Z Z (.cons Z Z .nil))))))))<|dK (BWP.of ?_);refine am<|M 1 (t:=nI L.length) Z (BJ Z cQ Z)<|Y 1 Z ?_;show BWP _ _ w1 G1 _
  refine dK (dK (BWP.of ?_));refine am<|M 1 Z (aU Z bI Z)<|aI 0 Z Z Zy (B (nZ ((aR r.sch t.vals).length) 0))<|E ?_;show BWP _ _ w1 G1 _
  refine mq (b:=decide (0<(aR r.sch t.vals).length)) Z (λhk=>?_) (λhk=>?_)
  ·replace hk:=of_decide_eq_true hk;have f0:(aR r.sch t.vals)≠ []:=λe=>by rw[e]at hk;simp at hk
   have m1:=i4 ⟨t,Q8 e6,f0⟩;have l7:(aR r.sch t.vals).length<=65536:=Q7 (jC _ _) h.cols;have l9:=BX K (aR r.sch t.vals);refine dK (gn ?_);refine cM (t:=.sc (.slice AK K.length cK)) Z Z Z (au Z Z)<|cM (t:=.sl ((aR r.sch t.vals).map V.tree)) Z Z Z (au Z Z)<|D8 (t:=.tup [nI (bU K (aR r.sch t.vals)),bT ((K[bU K (aR r.sch t.vals)]?).any λx=>bw x (aR r.sch t.vals)==0)]) Z Z Z Z func126 Z Z (λa w k=>?_) ?_
   ·obtain⟨d0,b1,q,-⟩:=k.facts;have o:=d.later q;have N:=k.slot (i:=34) (t:=.sl ((aR r.sch t.vals).map V.tree)) Z Z;rw[k.lit (v:=.slice AK K.length cK) Z];have h0:∀b,¬G1 b->¬(G0 b\/NB (.slice AO L.length cO) vs b):=λb hG h2=>hG ((d.g1 b).2 (h2.elim .inl λh=>.inr (.inl h)))
    have l8:=o.keys.pt h0 λg hg h2=>h2.elim (λh=>by have:=(d.key g hg).1;have:=(d.ok0 g h).1;omega) (d.kn g hg)
    refine((OP K (aR r.sch t.vals) O0 (Ko m1 _) (λx hx=>Q7 (k2 x hx) h.cols) l7).2 (λb=>G0 b\/NB (.slice AO L.length cO) vs b) w _ d0 (λg hg=>b1 g ((d.g1 g).2 (hg.elim .inl λh=>.inr (.inl h)))) (l8.cons ((N.sub h0).cons (.sc _ .nil)))).mono ?_;rintro e w' ⟨v,rfl,hv,hb⟩;refine⟨v,Z,?_,hb⟩;cases hv with
    |tup us _ hx _=>
     cases hx with
     |sc _ hx=>
      cases hx with
      |sc _ hx=>
       cases hx;exact .tup _ _ (.sc _ (.sc _ .nil)) .nil
   refine cM (t:=.tup [nI (bU K (aR r.sch t.vals)),bT ((K[bU K (aR r.sch t.vals)]?).any λx=>bw x (aR r.sch t.vals)==0)]) Z Z Z (au Z Z)<|cM (t:=nI (bU K (aR r.sch t.vals))) Z Z Z (eN Z Z Z)<|cM (t:=bT ((K[bU K (aR r.sch t.vals)]?).any λx=>bw x (aR r.sch t.vals)==0)) Z Z Z (eN Z Z Z)<|cM (t:=nI (bU K (aR r.sch t.vals))) Z Z Z (bN Z Z)<|cM (t:=bT ((K[bU K (aR r.sch t.vals)]?).any λx=>bw x (aR r.sch t.vals)==0)) Z Z Z (bN Z Z)<|jj ?_;show BWP _ _ w1 G1 _
   refine dK (dK (BWP.of ?_));refine eh 1 Z ?_;show BWP _ _ w1 G1 _
   refine mq (b:=((K[bU K (aR r.sch t.vals)]?).any λx=>bw x (aR r.sch t.vals)==0)) Z (λhf=>?_) (λhf=>?_)
   ·have o2:bU K (aR r.sch t.vals)<K.length:=by
     rcases RE (bU K (aR r.sch t.vals)) K.length with h|h
     ·exact h
     rw[R8 h]at hf;cases hf
    obtain⟨g,rfl⟩:∃g,AO=some ⟨g,0,none⟩:=by
     rcases d.nest.row.2 with⟨_,hn⟩|⟨g,p0,cur,hv,_⟩
     ·omega
     injection hv with h1;exact⟨g,h1⟩
    have o3:=d.nest.len;obtain⟨u,e7⟩:∃u,vs[bU K (aR r.sch t.vals)]? =some u:=⟨_,Q2 O0⟩;obtain⟨l,f3⟩:∃l,L[bU K (aR r.sch t.vals)]? =some l:=⟨_,Q2 O0⟩;have p2:=k3 l (Q8 f3);refine dK (gn ?_);refine cM (t:=.sc (.slice (some ⟨g,0,none⟩) L.length cO)) Z Z Z (au Z Z)<|cM (t:=nI (bU K (aR r.sch t.vals))) Z Z Z (au Z Z)<|cM (t:=.sc (.slice (some ⟨g,0,none⟩) L.length cO)) Z Z Z (au Z Z)<|cM (t:=nI (bU K (aR r.sch t.vals))) Z Z Z (au Z Z)<|cM (t:=.sc (.pointer (some ⟨g,bU K (aR r.sch t.vals),none⟩))) Z Z Z (mr (j:=bU K (aR r.sch t.vals)) Z cQ Z Z Z O0 F0)<|vA (u:=u) Z Z Z Z Z nB (d.nest.ok g (.inl Z)).2.1 ?_ ?_
    ·have:=World.ownsRow.cells d.nest.row (g:=g) Z _ _ e7;rwa[py]at this
    refine cM (t:=nI i) Z Z Z (au Z Z)<|g6 Z Z Z Z dj jD (λa w k=>by rw[k.lit (v:=.int .i64 (i:Nat)) Z];rfl) λa w k=>?_
    rw[k.lit (v:=.int .i64 (i:Nat)) Z];obtain⟨-,-,q,-⟩:=k.facts;have p:(w.alloc (.cells #[.int .i64 (i:Nat)] 3)).heap[w.heap.size]? =some (.cells #[.int .i64 (i:Nat)] 3 (0,0)):=heap_alloc_new _ _;have h4:=(d.later q).later ((Below.refl w.heap.size w).alloc (Q3 _) (.cells #[.int .i64 (i:Nat)] 3));have b0:=q.size;have Q:(w.alloc (.cells #[.int .i64 (i:Nat)] 3)).heap.size=w.heap.size+1:=F0
    obtain⟨wa,F⟩:∃wa,w.alloc (.cells #[.int .i64 (i:Nat)] 3)=wa:=⟨_,Z⟩;rw[F]at p h4 Q;rw[F];obtain⟨z,W⟩:∃z,w.heap.size=z:=⟨_,Z⟩;rw[W]at p b0 Q;rw[W];clear k q F W a w;refine gD Z λa w k=>?_
    obtain⟨-,-,I,-⟩:=k.facts;have o:=h4.later I;have h7:=o.nest.el _ u l e7 f3;have y:w.heap[z]? =some (.cells #[.int .i64 (i:Nat)] 3 (0,0)):=by rw[I.block z O0];exact p
    obtain⟨_,_,l1,_⟩:=gJ y;obtain⟨i0,l5,m3,m4,n0⟩:=info_parts BY;obtain⟨u2,w2,i2,g4,a4,i5,h6⟩:=mU (P:=prog) w w0.heap.size 23 23 3 i0 (.int .i64 0) 1 8 underlying23 l5 m3 m4 n0 Z I1 u l.length (p7 l) h7.1 (some ⟨z,0,none⟩) 1 1 [.int .i64 (i:Nat)] Z (λe=>by cases e) (λb hb j x hj=>by
     injection hb with hb
     subst hb;cases j with
     |zero=>simp at hj;subst hj;exact l1
     |succ j=>simp at hj) (λx hx=>by rw[Rs.1 hx];rfl) (by unfold maxLen;omega) O0 (by have:=o.below.size;omega) I1 Z h7.2
    have h9:w2.ownsRow w0.heap.size 3 1 u2 (l.length+1) (p7 (l++[i])):=by rw[show p7 (l++[i])=p7 l++[.int .i64 (i:Nat)] by simp[p7]];exact g4
    obtain⟨k4,k1,k5⟩:=o.app1 e7 a4 i5 h6 λg hg=>(g4.lt g hg).2
    obtain⟨A2,c2,f7⟩:=ce g4;refine aE (v:=u2) (W':=w2) (ms (T:=λs=>a.tmps.getD s undef) Z (k.lit Z) (k.lit Z) i2) ⟨w2,_,_,g5 (k.turn k1 k4 a4.size k5) I1 (.pure (.sc u2 .nil) .nil),?_⟩;clear k I p y a;refine cM (t:=.sc (.pointer (some ⟨g,bU K (aR r.sch t.vals),none⟩))) Z Z Z (mr (j:=bU K (aR r.sch t.vals)) Z cQ Z Z Z O0 F0)<|gD Z λa wb k=>?_
    obtain⟨-,-,R,-⟩:=k.facts;obtain⟨G,l0⟩:=o.app2 e7 f3 Z h9 a4 i5 h6 (by rw[f7];rfl) R;have h8:=(o.nest.ok g (.inl Z)).2.1;have l3:wb.heap[g]? =w.heap[g]? :=by
     have h1:w2.heap[g]? =w.heap[g]? :=eY a4 h8 λe=>o.nest.out u (Q8 e7) g e Z
     rw[R.block g (Rh h8 a4.size)];exact h1
    have f4:=jl o.nest.row (w':=wb) λb hb=>by injection hb with hb;subst hb;exact l3
    have l2:wb.cell? ⟨g,bU K (aR r.sch t.vals),none⟩=some u:=by
     have:=World.ownsRow.cells f4 (g:=g) Z _ _ e7;rwa[py]at this
    refine gS (W':=wb.setCell ⟨g,bU K (aR r.sch t.vals),none⟩ u2) (ti (T:=λs=>a.tmps.getD s undef) Z (k.lit Z) (k.lit Z) vV (by rw[f7];rfl) l2 (d6 f4 _)) ⟨_,_,_,k.turn G.env G.okw (by simp[World.setCell]) l0,?_⟩;refine jj ?_;show BWP _ _ _ _ _
    refine oo ?_;show BWP _ _ _ _ _
    refine BWP.of<|am<|a8 0 (i+1) Z Z Zy O0<|Y 1 Z<|⟨r.tups.length-(i+1),O0,i+1,_,_,some ⟨g,0,none⟩,AK,cO,cK,_,_,_,O0,Z,?_,mw F0 Z G,Z,Z,tw F0,Z,Z,Z,Z⟩;rw[iW e5 e6];unfold jr;rw[if_neg f0];simp only;rw[if_pos (c:=((K[bU K (aR r.sch t.vals)]?).any λx=>bw x (aR r.sch t.vals)==0)=true) hf,vU _ f3]
   refine mp ?_;show BWP _ _ w1 G1 _
   refine BWP.of<|eh 2 Z ?_;show BWP _ _ w1 G1 _
   refine dK (gn ?_);refine cM (t:=.sc (.slice AO L.length cO)) Z Z Z (au Z Z)<|cM (t:=nI (bU K (aR r.sch t.vals))) Z Z Z (au Z Z)<|cM (t:=nI i) Z Z Z (au Z Z)<|nn Z Z Z Z dj jD (λa w k=>by rw[k.lit (v:=.int .i64 (i:Nat)) Z];exact⟨Z,Z⟩) λa w k=>?_
   rw[k.lit (v:=.int .i64 (i:Nat)) Z];obtain⟨-,-,q,-⟩:=k.facts;obtain⟨wa,F⟩:∃wa,w.alloc (.cells #[.int .i64 (i:Nat)] 3)=wa:=⟨_,Z⟩;have b3:Below w1.heap.size w1 wa:=by rw[<-F];exact q.alloc q.size _
   have p:wa.heap[w.heap.size]? =some (.cells #[.int .i64 (i:Nat)] 3 (0,0)):=by rw[<-F];exact heap_alloc_new _ _
   have b0:=q.size;have Q:wa.heap.size=w.heap.size+1:=by rw[<-F];simp
   rw[F];obtain⟨z,W⟩:∃z,w.heap.size=z:=⟨_,Z⟩;rw[W]at p b0 Q;rw[W];clear k q F W a w;refine g6 Z Z Z Z cQ nC (λa w k=>by rw[k.lit (v:=.slice (some ⟨z,0,none⟩) 1 1) Z];rfl) λa w k=>?_
   rw[k.lit (v:=.slice (some ⟨z,0,none⟩) 1 1) Z];obtain⟨-,-,I,-⟩:=k.facts;obtain⟨wb,a9⟩:∃wb,w.alloc (.cells #[.slice (some ⟨z,0,none⟩) 1 1] 23)=wb:=⟨_,Z⟩;have b4:Below wa.heap.size wa wb:=by rw[<-a9];exact I.alloc I.size _
   have a1:wb.heap[w.heap.size]? =some (.cells #[.slice (some ⟨z,0,none⟩) 1 1] 23 (0,0)):=by rw[<-a9];exact heap_alloc_new _ _
   have c4:=I.size;have c5:wb.heap.size=w.heap.size+1:=by rw[<-a9];simp
   rw[a9];obtain⟨bB,d3⟩:∃bB,w.heap.size=bB:=⟨_,Z⟩;rw[d3]at a1 c4 c5;rw[d3];clear k I a9 d3 a w;refine np Z Z Z func127 Z Z λa w k=>?_
   obtain⟨d0,b1,R,-⟩:=k.facts;have e2:Below w1.heap.size w1 w:=aL (aL b3 b4 b3.size) R (Q7 b3.size b4.size);have y:w.heap[z]? =some (.cells #[.int .i64 (i:Nat)] 3 (0,0)):=by rw[R.block z O0,b4.block z O0];exact p
   have a2:w.heap[bB]? =some (.cells #[.slice (some ⟨z,0,none⟩) 1 1] 23 (0,0)):=by rw[R.block bB O0];exact a1
   have o:=d.later e2;have hu:EIs w w0.heap.size (.slice (some ⟨z,0,none⟩) 1 1) [i]:=uh y (by have:=d.below.size;omega);rw[k.lit (v:=.slice AO L.length cO) Z,k.lit (v:=.int .i64 ((bU K (aR r.sch t.vals):Nat):Int)) Z,k.lit (v:=.slice (some ⟨bB,0,none⟩) 1 1) Z];refine(PL w0.heap.size L.length (bU K (aR r.sch t.vals)) bB (.slice AO L.length cO) (.slice (some ⟨z,0,none⟩) 1 1) 23 vs w o.nest.row a2 (λe=>by have:=(d.nest.ok bB (.inl e)).2.1;omega) Z Z o.nest.rd o.ones.1 O0 O0 (by have:=d.below.size;have:=e2.size;omega)).mono ?_;rintro e w' ⟨v',rfl,O,J,b5,c0⟩;obtain⟨U,e9⟩:=d.insL e2 hu (λg hg=>by have a4:some z=some g:=hg;injection a4 with a4;omega) O J b5 c0 O0;obtain⟨A2,c2,rfl⟩:=ce O;refine⟨_,Z,w',_,_,g5 (k.turn U.env U.okw J.size λb g3 hG=>e9 b g3 λh=>hG (h.imp id λe=>by injection e with e;exact e.symm)) I1 (.pure (.sc _ .nil) .nil),?_⟩;refine cM (t:=.sc (.slice A2 (L.length+1) c2)) Z Z Z (bN Z Z)<|jj ?_;show BWP _ _ _ _ _
   clear k d0 b1 R o hu O J b5 c0 e9 y a2 p a1 b0 Q c4 c5 b3 b4;refine gn<|cM (t:=.sc (.slice AK K.length cK)) Z Z Z (au Z Z)<|cM (t:=nI (bU K (aR r.sch t.vals))) Z Z Z (au Z Z)<|cM (t:=.sl ((aR r.sch t.vals).map V.tree)) Z Z Z (au Z Z)<|g6 Z Z Z Z jT vW (λa w k=>ny (k.slot (i:=58) (t:=j7 (aR r.sch t.vals)) Z Z) Z _ (Rs.2 Z)) λa w k=>?_
   have N:=k.slot (i:=58) (t:=j7 (aR r.sch t.vals)) Z Z;obtain⟨kv,a5⟩:∃kv,a.tmps.getD 58 undef=kv:=⟨_,Z⟩;rw[a5]at N;rw[a5];obtain⟨-,b1,d2,-⟩:=k.facts;have a0:=(Below.refl w.heap.size w).alloc (Q3 _) (.cells #[kv] 61);have c1:=N.later a0;have g0:kv.oneCell'=true:=ny N Z _ (Rs.2 Z);have g2:bR kv=true:=by
    obtain⟨A,c,e,_⟩:=PT.slice (es:=(aR r.sch t.vals).map V.tree) N;rw[e];rfl
   have a3:(w.alloc (.cells #[kv] 61)).heap[w.heap.size]? =some (.cells #[kv] 61 (0,0)):=heap_alloc_new _ _;have e8:=(U.later d2).later a0;have c9:(w.alloc (.cells #[kv] 61)).heap.size=w.heap.size+1:=F0
   have f2:=d2.size;obtain⟨wc,e4⟩:∃wc,w.alloc (.cells #[kv] 61)=wc:=⟨_,Z⟩;rw[e4]at a3 e8 c9 c1;rw[e4];obtain⟨bC,d4⟩:∃bC,w.heap.size=bC:=⟨_,Z⟩;rw[d4]at a3 c9 f2;rw[d4];clear k b1 d2 a0 e4 a5 d4 N a w;refine np Z Z Z func128 Z Z λa w k=>?_
   obtain⟨-,-,b2,-⟩:=k.facts;have G:=e8.later b2;have e1:w.heap[bC]? =some (.cells #[kv] 61 (0,0)):=by rw[b2.block bC O0];exact a3
   have f1:=c1.later b2;have i9:=U.below.size;rw[k.lit (v:=.slice AK K.length cK) Z,k.lit (v:=.int .i64 ((bU K (aR r.sch t.vals):Nat):Int)) Z,k.lit (v:=.slice (some ⟨bC,0,none⟩) 1 1) Z];refine(PP w0.heap.size K.length (bU K (aR r.sch t.vals)) bC (.slice AK K.length cK) kv 61 xs w G.keys.row e1 (λe=>by have:=(U.key bC e).2.1;omega) g0 g2 G.keys.rd G.ones.2 O0 O0 (by have:=b2.size;omega)).mono ?_;rintro e w3 ⟨v3,rfl,O,J,b5,c0⟩;obtain⟨d1,f8⟩:=G.insK f1 O J b5 c0 O0;obtain⟨A3,c3,rfl⟩:=ce O;refine⟨_,Z,w3,_,_,g5 (k.turn d1.env d1.okw J.size f8) I1 (.pure (.sc _ .nil) .nil),?_⟩;refine cM (t:=.sc (.slice A3 (K.length+1) c3)) Z Z Z (bN Z Z)<|jj ?_;show BWP _ _ _ _ _
   refine BWP.of<|am<|a8 0 (i+1) Z Z Zy O0<|Y 1 Z<|⟨r.tups.length-(i+1),O0,i+1,_,_,A2,A3,c2,c3,_,_,_,O0,Z,?_,mw (by simp<;>omega) (by simp<;>omega) d1,Z,Z,tw (by simp<;>omega),tw (by simp<;>omega),Z,Z,Z⟩;rw[iW e5 e6];unfold jr;rw[if_neg f0];simp only;rw[if_neg (c:=((K[bU K (aR r.sch t.vals)]?).any λx=>bw x (aR r.sch t.vals)==0)=true) (by rw[hf];exact R0),lV _ _ l9,lV _ _ O0]
  have l6:(aR r.sch t.vals)=[]:=Rj (by have:=of_decide_eq_false hk;omega);refine mp ?_;show BWP _ _ w1 G1 _
  refine dK (gn ?_);refine cM (t:=.sc (.slice AO L.length cO)) Z Z Z (au Z Z)<|cM (t:=nI L.length) Z Z Z (au Z Z)<|cM (t:=nI i) Z Z Z (au Z Z)<|nn Z Z Z Z dj jD (λa w k=>by rw[k.lit (v:=.int .i64 (i:Nat)) Z];exact⟨Z,Z⟩) λa w k=>?_
  rw[k.lit (v:=.int .i64 (i:Nat)) Z];obtain⟨-,-,q,-⟩:=k.facts;obtain⟨wa,F⟩:∃wa,w.alloc (.cells #[.int .i64 (i:Nat)] 3)=wa:=⟨_,Z⟩;have b3:Below w1.heap.size w1 wa:=by rw[<-F];exact q.alloc q.size _
  have p:wa.heap[w.heap.size]? =some (.cells #[.int .i64 (i:Nat)] 3 (0,0)):=by rw[<-F];exact heap_alloc_new _ _
  have b0:=q.size;have Q:wa.heap.size=w.heap.size+1:=by rw[<-F];simp
  rw[F];obtain⟨z,W⟩:∃z,w.heap.size=z:=⟨_,Z⟩;rw[W]at p b0 Q;rw[W];clear k q F W a w;refine g6 Z Z Z Z cQ nC (λa w k=>by rw[k.lit (v:=.slice (some ⟨z,0,none⟩) 1 1) Z];rfl) λa w k=>?_
  rw[k.lit (v:=.slice (some ⟨z,0,none⟩) 1 1) Z];obtain⟨-,-,I,-⟩:=k.facts;obtain⟨wb,a9⟩:∃wb,w.alloc (.cells #[.slice (some ⟨z,0,none⟩) 1 1] 23)=wb:=⟨_,Z⟩;have b4:Below wa.heap.size wa wb:=by rw[<-a9];exact I.alloc I.size _
  have a1:wb.heap[w.heap.size]? =some (.cells #[.slice (some ⟨z,0,none⟩) 1 1] 23 (0,0)):=by rw[<-a9];exact heap_alloc_new _ _
  have c4:=I.size;have c5:wb.heap.size=w.heap.size+1:=by rw[<-a9];simp
  rw[a9];obtain⟨bB,d3⟩:∃bB,w.heap.size=bB:=⟨_,Z⟩;rw[d3]at a1 c4 c5;rw[d3];clear k I a9 d3 a w;refine np Z Z Z func127 Z Z λa w k=>?_
  obtain⟨d0,b1,R,-⟩:=k.facts;have e2:Below w1.heap.size w1 w:=aL (aL b3 b4 b3.size) R (Q7 b3.size b4.size);have y:w.heap[z]? =some (.cells #[.int .i64 (i:Nat)] 3 (0,0)):=by rw[R.block z O0,b4.block z O0];exact p
  have a2:w.heap[bB]? =some (.cells #[.slice (some ⟨z,0,none⟩) 1 1] 23 (0,0)):=by rw[R.block bB O0];exact a1
  have o:=d.later e2;have hu:EIs w w0.heap.size (.slice (some ⟨z,0,none⟩) 1 1) [i]:=uh y (by have:=d.below.size;omega);rw[k.lit (v:=.slice AO L.length cO) Z,k.lit (v:=.int .i64 ((L.length:Nat):Int)) Z,k.lit (v:=.slice (some ⟨bB,0,none⟩) 1 1) Z];refine(PL w0.heap.size L.length L.length bB (.slice AO L.length cO) (.slice (some ⟨z,0,none⟩) 1 1) 23 vs w o.nest.row a2 (λe=>by have:=(d.nest.ok bB (.inl e)).2.1;omega) Z Z o.nest.rd o.ones.1 (Q3 _) O0 (by have:=d.below.size;have:=e2.size;omega)).mono ?_;rintro e w' ⟨v',rfl,O,J,b5,c0⟩;obtain⟨U,e9⟩:=d.insL e2 hu (λg hg=>by have a4:some z=some g:=hg;injection a4 with a4;omega) O J b5 c0 (Q3 _);obtain⟨A2,c2,rfl⟩:=ce O;refine⟨_,Z,w',_,_,g5 (k.turn U.env U.okw J.size λb g3 hG=>e9 b g3 λh=>hG (h.imp id λe=>by injection e with e;exact e.symm)) I1 (.pure (.sc _ .nil) .nil),?_⟩;refine cM (t:=.sc (.slice A2 (L.length+1) c2)) Z Z Z (bN Z Z)<|jj ?_;show BWP _ _ _ _ _
  clear k d0 b1 R o hu O J b5 c0 e9 y a2 p a1 b0 Q c4 c5 b3 b4;refine gn<|cM (t:=.sc (.slice AK K.length cK)) Z Z Z (au Z Z)<|cM (t:=nI L.length) Z Z Z (au Z Z)<|cM (t:=.sl ((aR r.sch t.vals).map V.tree)) Z Z Z (au Z Z)<|g6 Z Z Z Z jT vW (λa w k=>ny (k.slot (i:=58) (t:=j7 (aR r.sch t.vals)) Z Z) Z _ (Rs.2 Z)) λa w k=>?_
  have N:=k.slot (i:=58) (t:=j7 (aR r.sch t.vals)) Z Z;obtain⟨kv,a5⟩:∃kv,a.tmps.getD 58 undef=kv:=⟨_,Z⟩;rw[a5]at N;rw[a5];obtain⟨-,b1,d2,-⟩:=k.facts;have a0:=(Below.refl w.heap.size w).alloc (Q3 _) (.cells #[kv] 61);have c1:=N.later a0;have g0:kv.oneCell'=true:=ny N Z _ (Rs.2 Z);have g2:bR kv=true:=by
   obtain⟨A,c,e,_⟩:=PT.slice (es:=(aR r.sch t.vals).map V.tree) N;rw[e];rfl
  have a3:(w.alloc (.cells #[kv] 61)).heap[w.heap.size]? =some (.cells #[kv] 61 (0,0)):=heap_alloc_new _ _;have e8:=(U.later d2).later a0;have c9:(w.alloc (.cells #[kv] 61)).heap.size=w.heap.size+1:=F0
  have f2:=d2.size;obtain⟨wc,e4⟩:∃wc,w.alloc (.cells #[kv] 61)=wc:=⟨_,Z⟩;rw[e4]at a3 e8 c9 c1;rw[e4];obtain⟨bC,d4⟩:∃bC,w.heap.size=bC:=⟨_,Z⟩;rw[d4]at a3 c9 f2;rw[d4];clear k b1 d2 a0 e4 a5 d4 N a w;refine np Z Z Z func128 Z Z λa w k=>?_
  obtain⟨-,-,b2,-⟩:=k.facts;have G:=e8.later b2;have e1:w.heap[bC]? =some (.cells #[kv] 61 (0,0)):=by rw[b2.block bC O0];exact a3
  have f1:=c1.later b2;have i9:=U.below.size;rw[k.lit (v:=.slice AK K.length cK) Z,k.lit (v:=.int .i64 ((L.length:Nat):Int)) Z,k.lit (v:=.slice (some ⟨bC,0,none⟩) 1 1) Z];refine(PP w0.heap.size K.length L.length bC (.slice AK K.length cK) kv 61 xs w G.keys.row e1 (λe=>by have:=(U.key bC e).2.1;omega) g0 g2 G.keys.rd G.ones.2 O0 O0 (by have:=b2.size;omega)).mono ?_;rintro e w3 ⟨v3,rfl,O,J,b5,c0⟩;obtain⟨d1,f8⟩:=G.insK f1 O J b5 c0 O0;obtain⟨A3,c3,rfl⟩:=ce O;refine⟨_,Z,w3,_,_,g5 (k.turn d1.env d1.okw J.size f8) I1 (.pure (.sc _ .nil) .nil),?_⟩;refine cM (t:=.sc (.slice A3 (K.length+1) c3)) Z Z Z (bN Z Z)<|jj ?_;show BWP _ _ _ _ _
  refine BWP.of<|am<|a8 0 (i+1) Z Z Zy O0<|Y 1 Z<|⟨r.tups.length-(i+1),O0,i+1,_,_,A2,A3,c2,c3,_,_,_,O0,Z,?_,mw (by simp<;>omega) (by simp<;>omega) d1,Z,Z,tw (by simp<;>omega),tw (by simp<;>omega),Z,Z,Z⟩;rw[iW e5 e6];unfold jr;rw[if_pos l6];simp only;rw[<-h3,Rf (Q3 _),Rc (Q3 _),h3,Rf (Q3 _),Rc (Q3 _),RP,RP]
 obtain rfl:i=r.tups.length:=by have:=of_decide_eq_false hc;omega
 rw[Sa]at e5;have l4:L=bF r:=by
  unfold bF;rw[if_neg (by rw[e3];exact R0),e5]
 refine oq λa w k=>⟨w0,G0,⟨63,[(3,.sl ((bF r).map j0))],[],[]⟩,?_,oo ?_⟩
 ·obtain⟨-,-,q,-⟩:=k.facts;have o:=d.later q;refine k.back d.e0 d.ok0 o.below ⟨?_,trivial⟩;show FT _ [a.tmps.getD 3 undef] _
  rw[k.lit (v:=.slice AO L.length cO) Z,<-l4];exact FT.gg (o.nest.pt λg hg h2=>by have:=(d.nest.ok g hg).1;have:=(d.ok0 g h2).1;omega)
 refine⟨Z,Z,?_⟩;show AWP _ _ _ _ _
 refine X 2 Z<|aM ⟨Z,Z,Z⟩ Z
end Go.Proofs.YtfoejfohbkmmeaaGreatDoor

namespace Go.Proofs.YtfoejfohbkmmeaaGreatDoor
open Go.RowKit
def Pi:Tree:=.agg [.sl [],.sc (.bool false),.sl [],.sl []]
def sK(ts:List Tp)(i:Nat):List Tree:=(ts.take i).map Tp.tree++List.replicate (ts.length-i) Pi
def Kp{ts:List Tp}{i:Nat}{t:Tp}(h:ts[i]? =some t):(sK ts i).set i t.tree=sK ts (i+1):=by
 obtain⟨a,rfl⟩:=Q6.1 h;unfold sK;have e:((ts.take i).map Tp.tree).length=i:=by simp;omega
 rw[SY (h:=by omega),e,RW,show ts.length-i=(ts.length-(i+1))+1 by omega,TY,Tb,Rz a,Sn,RL];rfl
def BZ(ts:List Tp){i:Nat}(h:i<=ts.length):(sK ts i).length=ts.length:=by unfold sK;simp;omega
def Kq(ts:List Tp){i:Nat}(h:ts.length<=i):sK ts i=ts.map Tp.tree:=by
 unfold sK;rw[Rf h,show ts.length-i=0 by omega];simp
def bf:sf prog 30=some 4:=U
def ia:kI prog 28=some (67,4,80):=U
def vX:(prog.info? 24).map (·.size)=some 1:=U
def nD:(prog.info? 30).map (·.size)=some 4:=U
def k6:si prog 30=some ([(0,3),(3,1)],[.string (⟨#[]⟩),.bool false,.slice none 0 0,.slice none 0 0]):=U
def gw:si prog 67=some ([(0,1),(1,3)],[.slice none 0 0,.bool false,.slice none 0 0,.slice none 0 0]):=U
def jE:ij prog 30=some [.string (⟨#[]⟩),.bool false,.slice none 0 0,.slice none 0 0]:=U
def yy(t:Tp)(h:FitT t)(a:t.vals.length<=65536):Ct 85 [t.tree] (t.tree):=by
 refine Ct.of (n:=10) func85 Z Z Z Z Z λw0 G0=>?_
 refine X 2 Z<|H<|dq (ops:=[_,_,_,_,_,_,_]) (fu:=8) (bs':=[(67,(eA t)),(67,(eA t))]) [some 3,some 4,some 5,some 6,some 7,some 8,some 9] [.box 0 0,.sl (t.vals.map V.tree),.sl (t.vals.map V.tree),.box 0 1,.agg (bj t.prob),.agg (bj t.prob),.agg (eA t)] U Z Z Z Z Z U U Z Z Z Z Z Z Z Z vD Z Z Z ?_ ?_
 ·refine Chain.op Z (aq Z Z cz Z)<|Chain.op Z (av Z Z Z di Z)<|Chain.op Z (D Z (Hc _ a) Z Z)<|Chain.op Z (aq Z Z eD Z)<|Chain.op Z (aN Z Z Z aH Z Z)<|Chain.op Z (D Z (qT _ h.p) Z Z)<|Chain.op Z (f5 Z gw Z Z Z)<|Chain.nil
 exact aM ⟨(co Z Z fA Z),Z,Z⟩ Z
def Kr(r:Rel)(h:FitR r):Ct 83 [r.tree] (.agg [sT r.sch.name,bT r.sch.cert,.sl (r.sch.cols.map Col.tree),.tl (r.tups.map Tp.tree)]):=by
 refine Ct.of (n:=35) func83 Z Z Z Z Z λw0 G0=>?_
 refine X 2 Z<|H<|eM (sl':=[(0,.agg (bQ r)),(1,.box 0 0),(2,.box 1 0)]) ⟨Z,⟨Z,⟨Z,trivial⟩⟩⟩<|Vr (fu:=3) [some 6,some 7,some 8,some 9,some 10,some 11,some 12,some 3,none] [5,7,8] [.box 0 0,.agg (gC r.sch),.box 0 3,.sl (r.tups.map Tp.tree),nI r.tups.length,.own 0,.agg (j6 r (.own 0)),.any,.any] [([5],[(30,(bQ r)),(30,c7)],[some ⟨67,4,List.replicate r.tups.length Pi,true⟩],[]),([7],[(30,(bQ r)),(30,c7),(30,c7)],[],[(7,.box 2 0)]),([7,5],[(30,(bQ r)),(30,c7),(30,c7)],[some ⟨67,4,List.replicate r.tups.length Pi,true⟩],[(7,.box 2 0)])] [8,7,5] [(30,(bQ r)),(30,c7),(30,(j6 r (.own 0)))] [some ⟨67,4,List.replicate r.tups.length Pi,true⟩] [(7,.box 2 0)] U0 Z U0 U0 U0 Z Z ?_ ?_
 ·refine .opp [] (.okk Z (aq Z Z cV Z)<|.okk Z (aq Z Z cV Z)<|.okk Z (aq Z Z cV Z)<|.okk Z (aq Z Z cV Z)<|.fin)<|.opp [0] (.okk Z (aN Z Z Z g7 Z Z)<|.okk Z (aN Z Z Z g7 Z Z)<|.okk Z (aN Z Z Z g7 Z Z)<|.okk Z (aN Z Z Z g7 Z Z)<|.fin)<|.opp [] (.okk Z (aq Z Z a6 Z)<|.no U0<|.okk Z (aq Z Z a6 Z)<|.fin)<|.opp [2] (.okk Z (av Z Z Z bJ Z)<|.no U0<|.okk Z (av Z Z Z bJ Z)<|.fin)<|.opp [3] (.okk Z (aj (fw Z aV Z) (by simp only[Rn]))<|.no U0<|.okk Z (aj (fw Z aV Z) (by simp only[Rn]))<|.fin)<|.opp [4] (.wr 1 id (.own 0) U0 Z Z (FV (m:=r.tups.length) (zt:=Pi) Z Z Z ia go Z Z (Z) (Z) Z (by have:=h.tups;omega) Z Z Z) Z Z Z Z (.ks 5 Z (.i Z (.k Z (.k Z (.k Z .nil)))))<|.no U0<|.wr 3 id (.own 0) U0 Z Z (FV (m:=r.tups.length) (zt:=Pi) Z Z Z ia go Z Z (Z) (Z) Z (by have:=h.tups;omega) Z Z Z) Z Z Z Z (.ks 5 Z (.i Z (.k Z (.k Z (.k Z .nil)))))<|.fin)<|.opp [1,5] (.no U0<|.okk Z (f5 Z k6 Z Z Z)<|.no U0<|.okk Z (f5 Z k6 Z Z Z)<|.fin)<|.opp [] (.wr 2 id (.box 2 0) U0 Z Z (iz Z Z Z jE Z Z Z Z) Z Z Z Z (.ks 7 Z (.i Z (.k Z .nil)))<|.wr 3 id (.box 2 0) U0 Z Z (iz Z Z Z jE Z Z Z Z) Z Z Z Z (.ks 7 Z (.i Z (.k Z .nil)))<|.fin)<|.opp [6,7] (.nos 3<|.wr 4 id .any U0 Z Z (fx Z Z Z Z Z Z Z Z nD Z Z Z) Z Z Z Z (.ks 8 Z (.i Z .nil))<|.fin)<|.nil
 refine C<|M 3 Z (D Z (yq _ h.cols) Z Z)<|Y 3 Z<|H<|C<|M 2 Z (aU Z aV Z)<|Y 1 Z<|aB<|aT (λg e=>∃(i:Nat),(i<=r.tups.length)/\g=r.tups.length-i/\e=⟨35,[(2,.box 1 0),(3,.box 2 0),(20,.sl (r.tups.map Tp.tree)),(21,nI r.tups.length),(22,nI i)],[(30,(bQ r)),(30,c7),(30,(j6 r (.own 0)))],[some ⟨67,4,sK r.tups i,true⟩]⟩) 3 1 ⟨0,Rg _,Z,Z⟩ .rf ?_;rintro g e ⟨i,o,rfl,rfl⟩;have p:=h.tups;have l:(sK r.tups i).length=r.tups.length:=BZ _ o;refine C<|aI 0 Z Z Zy (B (gF i r.tups.length))<|E<|H<|ay Z (λd=>?_) (λd=>?_)
 ·refine ar<|H<|aB<|H ?_;obtain⟨t,b⟩:∃t,r.tups[i]? =some t:=⟨_,Q2 O0⟩;have c:=h.tup t (Q8 b);refine am<|M 1 (t:=.ref (eA t)) Z (aO (Tp.tree t) Z aV Z Z Z (bd (f:=Tp.tree) b) (c6 _) Z)<|Y 4 Z<|eM (sl':=[(2,.box 1 0),(3,.box 2 0),(20,.sl (r.tups.map Tp.tree)),(21,nI r.tups.length),(22,nI i),(23,bT (decide (i<r.tups.length))),(5,.box 3 0),(4,nI i)]) ⟨Z,⟨Z,⟨Z,⟨Z,⟨Z,⟨Z,⟨Z,⟨Z,trivial⟩⟩⟩⟩⟩⟩⟩⟩<|Vr (fu:=1) [some 27,some 28,some 29,some 30,some 31,some 32,none] [6] [.box 2 3,.own 0,nI i,.agg (eA t),.agg (eA t),.elp 0 (i*4),.any] [] [6] [(30,(bQ r)),(30,c7),(30,(j6 r (.own 0))),(67,(eA t))] [some ⟨67,4,sK r.tups (i+1),true⟩] [] U0 Z U0 U0 U0 Z Z ?_ ?_
  ·refine .opp [] (.okk Z (aq Z Z a6 Z)<|.fin)<|.opp [0] (.okk Z (av Z Z Z bJ Z)<|.fin)<|.opp [] (.okk Z (K Z Z)<|.fin)<|.opp [] (.okk Z (aN Z Z Z fA Z Z)<|.fin)<|.opp [3] (.okk Z (D Z (yy t c.1 c.2) Z Z)<|.fin)<|.opp [1,2] (.okk Z (eS (j:=i) Z aV Z Z Z Z Z (by show i<(sK r.tups i).length;omega) Z)<|.fin)<|.opp [4,5] (.wr 1 id .any U0 Z Z (om (j:=i) Z Z Z Z Z (by show i<(sK r.tups i).length;rw[BZ _ O0];omega) Z Z Z Z Z vD Z (congrArg (λa=>[some (⟨67,4,a,true⟩:Row)]) (Kp b))) Z Z Z Z (.ks 6 Z (.i Z .nil))<|.fin)<|.nil
  refine am<|a8 0 (i+1) Z Z Zy O0<|Y 1 Z<|⟨_,_,?_,⟨i+1,?_,Z,Z⟩,.rf⟩
  ·omega
  omega
 refine aX<|H<|Ju 0 (bs':=[(30,(bQ r)),(30,c7),(30,(j6 r (.tl (sK r.tups i))))]) (rs':=[none]) Z Z Z Z Z<|eh 2 Z<|aM ⟨(co Z Z bf Z),(congrArg (λa=>Tree.agg [sT r.sch.name,bT r.sch.cert,.sl (r.sch.cols.map Col.tree),.tl a]) (Kq _ O0)),Z⟩ Z
