import Derived.Test.YtfoejfohbkmmeaaGreatDoorK30
set_option maxRecDepth 100000
set_option maxHeartbeats 4000000
set_option linter.defProp false
open Go.Proofs.Tryz
namespace Go.Proofs.YtfoejfohbkmmeaaGreatDoor
open Go.RowKit
open Lib renaming hid→J
def dL(r:Rel)(lw:List Rt):List Tree:=[.sc (.string r.sch.name),.sc (.bool r.sch.cert),.sl (r.sch.cols.map Col.tree),.sl (lw.map Rt.tree)]
def xE(r:Rel)(lw:List Rt):Tree:=.agg (dL r lw)
def sN{r:Rel}{b:List Rt}(h:r.tups=b.map Rt.tp){i:Nat}{t:Tp}(a:r.tups[i]? =some t):∃u,b[i]? =some u/\u.tp=t:=by
 rw[h,RK]at a;cases c:b[i]? with
 |none=>rw[c]at a;cases a
 |some u=>rw[c]at a;exact⟨u,Z,by injection a⟩
def H8(lw:List Rt):Prop:=∀u∈lw,u.p.Ok 262144
def K0(r:Rel)(e:List Rt)(u:r.tups=e.map Rt.tp)(a:List Nat)(q:∀i∈a,i<r.tups.length)(x:a.length<=65536)(s:H8 e)(k:∀j,j<=a.length->Fit 262144 (gR r.tups (a.take j))):Ct 97 [xE r e,.sl (a.map gO)] (dw (gR r.tups a)):=by
 refine Ct.of (n:=26) func97 Z Z Z Z Z λw0 G0=>?_
 refine X 2 Z<|C<|M 0 Z (D Z (rx 0 I1) Z Z)<|Y 2 Z<|H<|X 1 Z<|aB<|aT (λw v=>∃(j:Nat),(j<=a.length)/\w=a.length-j/\v=⟨26,[(1,.sl (a.map gO)),(2,.box 0 0),(4,.box 1 0),(5,.box 2 0),(6,nI j)],[(30,(dL r e)),(65,ml),(65,(bj (gR r.tups (a.take j))))],[]⟩) 3 0 ⟨0,Rg _,Z,Z⟩ .rf ?_;rintro w v ⟨j,y,rfl,rfl⟩;refine H<|C<|M 2 Z (aU Z dj Z)<|aI 0 Z Z Zy (B (gF j a.length))<|E<|ay Z (λg=>?_) (λg=>?_)
 ·obtain⟨i,c⟩:∃i,a[j]? =some i:=⟨_,Q2 g⟩;have o:=q i (Q8 c);obtain⟨t,l⟩:∃t,r.tups[i]? =some t:=⟨_,Q2 o⟩;obtain⟨b,m,rfl⟩:=sN u l;refine ar<|H<|aB<|dq (ops:=[_,_,_,_,_,_,_,_,_,_,_]) (fu:=12) (bs':=[(30,(dL r e)),(65,ml),(65,(bj (gR r.tups (a.take (j+1)))))]) [some 14,some 15,some 16,some 17,some 18,some 19,some 20,some 21,some 22,some 23,some 24] [.agg (bj (gR r.tups (a.take j))),.box 0 3,.sl (e.map Rt.tree),.sl (a.map gO),nI j,.ref [nI i],nI i,.ref [.sl (b.tp.vals.map V.tree),bT b.p.ng,dT b.p.n,dT b.p.d],.ref (gK b.p),.agg (gK b.p),.agg (bj (gR r.tups (a.take (j+1))))] U0 Z Z Z Z Z U0 U0 Z Z Z Z Z Z Z Z d8 Z Z Z ?_ ?_
  ·refine Chain.op Z (aN Z Z Z aH Z Z)<|Chain.op Z (aq Z Z a6 Z)<|Chain.op Z (av Z Z Z bJ Z)<|Chain.op Z (K Z Z)<|Chain.op Z (K Z Z)<|Chain.op Z (aO (gO i) Z dj Z Z Z (bd (f:=gO) c) (tg _) Z)<|Chain.op Z (bi Z Z fq Z)<|Chain.op Z (aO (Rt.tree b) Z aV Z Z Z (bd (f:=Rt.tree) m) (jm _) Z)<|Chain.op Z (bL Z Z eD Z)<|Chain.op Z (dt Z Z aH Z Z)<|Chain.op Z (D Z (by rw[yb c l];have h:=Cg (qR (gR r.tups (a.take j))) b.p _ _ (wj (k j O0)) (s b (Q8 m)) (Hy _) Z;exact h) Z Z)<|Chain.nil
  refine am<|a8 1 (j+1) Z Z Zy O0<|Y 1 Z<|⟨_,_,?_,⟨j+1,?_,Z,Z⟩,.rf⟩
  ·omega
  omega
 refine aX<|X 2 Z<|aM ⟨(co Z Z aH Z),nh (by rw[Rf O0]),Z⟩ Z
structure RgIW (w0:World) (G0:Nat->Prop) (r:Rel) (lw:List Rt) (m:Nat) (w1:World) (G1:Nat->Prop) (S:St) (i:Nat) (L:List (List Nat)) (K:List (List V)) (AO:Option Addr) (cO:Nat) (vs:List Value) (sl:List (Nat×Tree)):Prop where
 hi:i<=r.tups.length
 hm:m=r.tups.length-i
 st:ei r.sch ([],[]) 0 (r.tups.take i)=(K,L)
 side:Side w0 G0 w1 G1 (.slice AO L.length cO) vs L (.slice none 0 0) [] []
 hS:S=⟨92,sl,[],[]⟩
 s1:look sl 1=.ref (dL r lw)
 s3:look sl 3=.sc (.slice AO L.length cO)
 s4:look sl 4=.sc (.bool (eZ r.sch.cols))
 s5:look sl 5=.sc (.int .i64 (i:Nat))
def P2(w0:World)(G0:Nat->Prop)(r:Rel)(lw:List Rt)(m:Nat)(w1:World)(G1:Nat->Prop)(S:St):Prop:=∃i L K AO cO vs sl,RgIW w0 G0 r lw m w1 G1 S i L K AO cO vs sl
def QP(r:Rel)(lw:List Rt)(vO:Value)(i p:Nat)(f:Bool)(S:St):Prop:=∃sl,S=⟨92,sl,[],[]⟩/\look sl 1=.ref (dL r lw)/\look sl 3=.sc vO/\look sl 4=.sc (.bool (eZ r.sch.cols))/\look sl 5=.sc (.int .i64 (i:Nat))/\look sl 7=.sc (.int .i64 (p:Nat))/\look sl 8=.sc (.bool f)
def Cq(r:Rel)(lw:List Rt)(i9:r.tups=lw.map Rt.tp)(h:FitR r)(k2:∀t∈r.tups,t.vals.length=r.sch.cols.length):Ct 95 [xE r lw] (.sl ((bF r).map j0)):=by
 refine Ct.of (n:=92) func95 Z Z Z Z Z λw0 G0=>?_
 refine C<|M 1 (t:=.sl []) Z (bz (.inr Z) bS)<|E<|X 1 Z<|H<|X 3 Z<|aK Z (λb1=>?_) (λb1=>?_)
 ·have c0:=b1;refine C<|M 0 (t:=.sl []) Z (bz (.inr Z) bS)<|E<|aM ⟨Z,by unfold bF;rw[c0];rfl,Z⟩ Z
 have c0:=b1;refine ar<|C<|M 2 Z (D Z (Ev r.sch h.cols) Z Z)<|Y 1 Z<|H<|X 1 Z<|aB<|FX<|oq λa w q=>?_
 obtain⟨m4,l2,q0,l9,k3⟩:=q.unbox (ty:=30) (l:=[(1,.ref (dL r lw)),(3,.sc (.slice none 0 0)),(4,bT (eZ r.sch.cols)),(5,nI 0)]) Z Z Z ⟨.inr ⟨0,Z,Z⟩,.inl ⟨Z,Z⟩,.inl ⟨Z,Z⟩,.inl ⟨Z,Z⟩,trivial⟩;refine⟨w,G0,_,m4,?_⟩;clear q m4;refine BI (P2 w0 G0 r lw) r.tups.length ⟨0,[],[],none,0,[],_,Rg _,Z,Z,⟨Nest.nil _ _,KeyR.nil _ _ _,λb hb=>(by cases hb),λb=>⟨.inl,λh=>h.elim id λh=>h.elim (λh=>h.elim (λh=>by cases h) λ⟨u,hu,_⟩=>by cases hu) λh=>by cases h⟩,l2,q0,l9⟩,Z,Z,Z,Z,Z⟩ ?_;clear l2 k3 a w;rintro m w1 G1 S ⟨i,L,K,AO,N,vs,sl,hi,rfl,c4,o,rfl,s1,s3,s4,s5⟩;obtain⟨x3,x1,q2,x2,-⟩:=yx c4 hi k2;have y1:=h.tups;refine qX [(1,.ref (dL r lw)),(3,.sc (.slice AO L.length N)),(4,bT (eZ r.sch.cols)),(5,nI i)] (.cons s1 Z (.cons s3 Z (.cons s4 Z (.cons s5 Z .nil))))<|dK (dK (BWP.of ?_));refine am<|M 3 (t:=nI r.tups.length) Z (aj (fw Z aV Z) (by simp only[i9,Rn]))<|aI 0 Z Z Zy (B (gF i r.tups.length))<|E ?_;show BWP _ _ w1 G1 _
 refine mq (b:=decide (i<r.tups.length)) Z (λhc=>?_) (λhc=>?_)
 ·replace hc:=of_decide_eq_true hc;obtain⟨t,e7⟩:∃t,r.tups[i]? =some t:=⟨_,Q2 hc⟩;obtain⟨F,w3,rfl⟩:=sN i9 e7;have k0:=Q8 e7;have v6:=h.tup F.tp k0;refine mp ?_;show BWP _ _ w1 G1 _
  refine dK (yi ?_);refine dK (dK (BWP.of ?_));refine am<|M 1 (t:=bT (!(eZ r.sch.cols))) Z (dm Z Z Zy)<|E ?_;show BWP _ _ w1 G1 _
  refine mq (b:= !(eZ r.sch.cols)) Z (λhk=>?_) (λhk=>?_)
  ·have u9:(aR r.sch F.tp.vals)=[]:=(wt (k2 F.tp k0)).2 (by simpa using hk);refine dK (gn ?_);refine cM (t:=.sc (.slice AO L.length N)) Z Z Z (au Z Z)<|cM (t:=nI i) Z Z Z (au Z Z)<|nn Z Z Z Z dj jD (λa w q=>by rw[q.lit (v:=.int .i64 (i:Nat)) Z];exact⟨Z,Z⟩) λa w q=>?_
   rw[q.lit (v:=.int .i64 (i:Nat)) Z];obtain⟨-,-,U,-⟩:=q.facts;obtain⟨wa,a0⟩:∃wa,w.alloc (.cells #[.int .i64 (i:Nat)] 3)=wa:=⟨_,Z⟩;have h7:Below w1.heap.size w1 wa:=by rw[<-a0];exact U.alloc U.size _
   have a2:wa.heap[w.heap.size]? =some (.cells #[.int .i64 (i:Nat)] 3 (0,0)):=by rw[<-a0];exact heap_alloc_new _ _
   have e9:=U.size;have c9:wa.heap.size=w.heap.size+1:=by rw[<-a0];simp
   rw[a0];obtain⟨bA,b4⟩:∃bA,w.heap.size=bA:=⟨_,Z⟩;rw[b4]at a2 e9 c9;rw[b4];clear q U a0 b4 a w;refine g6 Z Z Z Z cQ nC (λa w q=>by rw[q.lit (v:=.slice (some ⟨bA,0,none⟩) 1 1) Z];rfl) λa w q=>?_
   rw[q.lit (v:=.slice (some ⟨bA,0,none⟩) 1 1) Z];obtain⟨-,-,J,-⟩:=q.facts;obtain⟨wb,e8⟩:∃wb,w.alloc (.cells #[.slice (some ⟨bA,0,none⟩) 1 1] 23)=wb:=⟨_,Z⟩;have h8:Below wa.heap.size wa wb:=by rw[<-e8];exact J.alloc J.size _
   have f7:wb.heap[w.heap.size]? =some (.cells #[.slice (some ⟨bA,0,none⟩) 1 1] 23 (0,0)):=by rw[<-e8];exact heap_alloc_new _ _
   have p1:=J.size;have p2:wb.heap.size=w.heap.size+1:=by rw[<-e8];simp
   rw[e8];obtain⟨bB,h5⟩:∃bB,w.heap.size=bB:=⟨_,Z⟩;rw[h5]at f7 p1 p2;rw[h5];clear q J e8 h5 a w;refine gD Z λa w q=>?_
   obtain⟨k3,x4,a1,-⟩:=q.facts;have a5:Below w1.heap.size w1 w:=aL (aL h7 h8 h7.size) a1 (Q7 h7.size h8.size);have a4:w.heap[bA]? =some (.cells #[.int .i64 (i:Nat)] 3 (0,0)):=by rw[a1.block bA O0,h8.block bA O0];exact a2
   have h9:w.heap[bB]? =some (.cells #[.slice (some ⟨bA,0,none⟩) 1 1] 23 (0,0)):=by rw[a1.block bB O0];exact f7
   obtain⟨_,_,i1,_⟩:=gJ h9;have x0:=o.nest.len;have I:=o.later a5;have hu:EIs w w0.heap.size (.slice (some ⟨bA,0,none⟩) 1 1) [i]:=uh a4 (by have:=o.below.size;omega);obtain⟨v',w',O,m1,l5,r2,e4⟩:=rF (n:=L.length) (m:=1) (c:=1) (A:=some ⟨bB,0,none⟩) (news:=[.slice (some ⟨bA,0,none⟩) 1 1]) I.nest.row (λe=>by cases e) (λb hb j x hj=>by
    injection hb with hb
    subst hb;cases j with
    |zero=>simp at hj;subst hj;exact i1
    |succ j=>simp at hj) Z (λu hu=>by rw[Rs.1 hu];exact⟨Z,Z⟩) O0 (by have:=o.below.size;have:=a5.size;omega) I.nest.rd
   have m2:w'.ownsRow w0.heap.size 23 1 v' (L.length+1) (vs.take L.length++[.slice (some ⟨bA,0,none⟩) 1 1]++vs.drop L.length):=by rw[Rf O0,Rc O0,RP];exact m1
   obtain⟨b2,h4⟩:=o.insL a5 hu (λg G=>by have R:some bA=some g:=G;injection R with R;omega) m2 l5 r2 e4 (Q3 _);obtain⟨A2,c2,rfl⟩:=ce m1;refine aE (v:=.slice A2 (L.length+1) c2) (W':=w') (ms (T:=λs=>a.tmps.getD s undef) Z (q.lit Z) (q.lit Z) O) ⟨w',_,_,g5 (q.turn b2.env b2.okw l5.size λb v3 hG=>h4 b v3 λh=>hG (h.imp id λe=>by injection e with e;exact e.symm)) I1 (.pure (.sc _ .nil) .nil),?_⟩;refine cM (t:=.sc (.slice A2 (L.length+1) c2)) Z Z Z (bN Z Z)<|jj ?_;show BWP _ _ _ _ _
   refine oo ?_;show BWP _ _ _ _ _
   refine BWP.of<|am<|a8 1 (i+1) Z Z Zy O0<|Y 1 Z<|⟨r.tups.length-(i+1),O0,i+1,_,(K++[(aR r.sch F.tp.vals)]),A2,c2,_,_,O0,Z,?_,mw (by simp<;>omega) Z b2,Z,Z,tw (by simp<;>omega),Z,Z⟩;rw[iW c4 e7];unfold jr;rw[if_pos u9,Rf (Q3 _),Rc (Q3 _),RP]
  have e5:∀x∈r.tups,aR r.sch x.vals≠ []:=λx hx e=>by
   rw[(wt (k2 x hx)).1 e]at hk;cases hk
  have f8:=e5 F.tp k0;have v0:(aR r.sch F.tp.vals).length<=65536:=Q7 (jC _ _) h.cols;refine mp ?_;show BWP _ _ w1 G1 _
  refine dK (BWP.of ?_);refine cB (fu:=10) _ [.ref (dL r lw),.agg (gC r.sch),.ref [.sl (lw.map Rt.tree)],.sl (lw.map Rt.tree),nI i,.ref [.sl (F.tp.vals.map V.tree),bT F.p.ng,dT F.p.n,dT F.p.d],.ref [.sl (F.tp.vals.map V.tree),bT F.p.ng,dT F.p.n,dT F.p.d],.sl (F.tp.vals.map V.tree),.sl ((aR r.sch F.tp.vals).map V.tree),.sl ((aR r.sch F.tp.vals).map V.tree)] U0 Z Z U0 Z ?_ ?_
  ·refine Chain.op Z (bL Z Z cV Z)<|Chain.op Z (dt Z Z g7 Z Z)<|Chain.op Z (bL Z Z a6 Z)<|Chain.op Z (bi Z Z bJ Z)<|Chain.op Z (au Z Z)<|Chain.op Z (aO (Rt.tree F) Z aV Z Z Z (bd (f:=Rt.tree) w3) (jm _) Z)<|Chain.op Z (bL Z Z cz Z)<|Chain.op Z (bi Z Z di Z)<|Chain.op Z (D Z (Gc r.sch F.tp.vals v6.2) Z Z)<|Chain.op Z (bN Z Z)<|Chain.nil
  show BWP _ _ w1 G1 _
  refine dK (BWP.of ?_);refine eh 2 Z ?_;show BWP _ _ w1 G1 _
  refine KY (QP r lw (.slice AO L.length N) i (bU K (aR r.sch F.tp.vals)) ((K[bU K (aR r.sch F.tp.vals)]?).any λx=>bw x (aR r.sch F.tp.vals)==0)) ?_ λS hS=>?_
  ·refine aB<|aT (λn_ S_=>∃(j:Nat) (f:Bool),(f=false/\j<=L.length/\∀x y,x<j->K[x]? =some y->bw y (aR r.sch F.tp.vals)<0)/\n_=L.length-j/\S_=⟨92,[(1,.ref (dL r lw)),(3,.sc (.slice AO L.length N)),(4,bT (eZ r.sch.cols)),(5,nI i),(6,.sl ((aR r.sch F.tp.vals).map V.tree)),(7,nI j),(8,bT f)],[],[]⟩) 0 0 ⟨0,false,⟨Z,Rg _,λx y hx=>absurd hx (T5 x)⟩,Z,Z⟩ .rf ?_;rintro n_ S_ ⟨j,f,⟨u0,hj,d3⟩,rfl,rfl⟩;refine H<|C<|M 2 (t:=nI L.length) Z (BJ Z cQ Z)<|aI 0 Z Z Zy (B (gF j L.length))<|E<|ay Z (λb5=>?_) (λb5=>?_)
   ·obtain⟨g,rfl⟩:∃g,AO=some ⟨g,0,none⟩:=by
     rcases o.nest.row.2 with⟨_,hn⟩|⟨g,g3,cur,hv,_⟩
     ·omega
     injection hv with h1;exact⟨g,h1⟩
    have o3:=o.nest.len;obtain⟨u,a9⟩:∃u,vs[j]? =some u:=⟨_,Q2 O0⟩;obtain⟨l,c3⟩:∃l,L[j]? =some l:=⟨_,Q2 O0⟩;obtain⟨h0,tl,t2,hl,n1,i5⟩:=KZ c4 e5 c3;obtain⟨z,p3,rfl⟩:=sN i9 n1;have n2:=h.tup z.tp (Q8 n1);have d1:=o.nest.el _ u l a9 c3;obtain⟨gu,cu,rfl⟩:∃gu cu,u=.slice (some ⟨gu,0,none⟩) l.length cu:=by
     rcases d1.1.2 with⟨_,hn⟩|⟨g2,g3,cur,hv,_⟩
     ·rw[hl]at hn;simp at hn
     exact⟨g2,g3,hv⟩
    have s2:w1.cell? ⟨gu,0,none⟩=some (.int .i64 (h0:Nat)):=by
     have:=World.ownsRow.cells d1.1 (g:=gu) Z 0 (.int .i64 (h0:Nat)) (by rw[hl];rfl);rwa[py]at this
    have i2:w1.cell? ⟨g,j,none⟩=some (.slice (some ⟨gu,0,none⟩) l.length cu):=by
     have:=World.ownsRow.cells o.nest.row (g:=g) Z _ _ a9;rwa[py]at this
    refine ar<|aB<|H<|EB (fu:=17) _ [.ref (dL r lw),.agg (gC r.sch),.ref [.sl (lw.map Rt.tree)],.sl (lw.map Rt.tree),.sc (.slice (some ⟨g,0,none⟩) L.length N),nI j,.sc (.pointer (some ⟨g,j,none⟩)),.sc (.slice (some ⟨gu,0,none⟩) l.length cu),.sc (.pointer (some ⟨gu,0,none⟩)),nI h0,.ref [.sl (z.tp.vals.map V.tree),bT z.p.ng,dT z.p.n,dT z.p.d],.ref [.sl (z.tp.vals.map V.tree),bT z.p.ng,dT z.p.n,dT z.p.d],.sl (z.tp.vals.map V.tree),.sl ((aR r.sch z.tp.vals).map V.tree),.sl ((aR r.sch F.tp.vals).map V.tree),iT (bw (aR r.sch z.tp.vals) (aR r.sch F.tp.vals)),iT (bw (aR r.sch z.tp.vals) (aR r.sch F.tp.vals))] U0 Z Z U0 Z ?_ ?_
    ·refine ec (t:=.ref (dL r lw)) Z (bL Z Z cV Z)<|ec (t:=.agg (gC r.sch)) Z (dt Z Z g7 Z Z)<|ec (t:=.ref [.sl (lw.map Rt.tree)]) Z (bL Z Z a6 Z)<|ec (t:=.sl (lw.map Rt.tree)) Z (bi Z Z bJ Z)<|ec (t:=.sc (.slice (some ⟨g,0,none⟩) L.length N)) Z (au Z Z)<|ec (t:=nI j) Z (au Z Z)<|ec (t:=.sc (.pointer (some ⟨g,j,none⟩))) Z (mr (j:=j) Z cQ Z Z Z O0 F0)<|ChainB.op (t:=.sc (.slice (some ⟨gu,0,none⟩) l.length cu)) Z (Cn Z Z nB (o.nest.ok g (.inl Z)).2.1 i2)<|ec (t:=.sc (.pointer (some ⟨gu,0,none⟩))) Z (mr (j:=0) Z dj Z Z Z (by rw[hl];exact UI _) Z)<|ChainB.op (t:=nI h0) Z (Cn Z Z fq (d1.1.lt gu Z).2 s2)<|ec (t:=.ref [.sl (z.tp.vals.map V.tree),bT z.p.ng,dT z.p.n,dT z.p.d]) Z (aO (Rt.tree z) Z aV Z Z Z (bd (f:=Rt.tree) p3) (jm _) Z)<|ec (t:=.ref [.sl (z.tp.vals.map V.tree),bT z.p.ng,dT z.p.n,dT z.p.d]) Z (bL Z Z cz Z)<|ec (t:=.sl (z.tp.vals.map V.tree)) Z (bi Z Z di Z)<|ec (t:=.sl ((aR r.sch z.tp.vals).map V.tree)) Z (D Z (Gc r.sch z.tp.vals n2.2) Z Z)<|ec (t:=.sl ((aR r.sch F.tp.vals).map V.tree)) Z (au Z Z)<|ec (t:=iT (bw (aR r.sch z.tp.vals) (aR r.sch F.tp.vals))) Z (D Z (nk _ _ (Q7 (jC _ _) h.cols) v0) Z Z)<|ec (t:=iT (bw (aR r.sch z.tp.vals) (aR r.sch F.tp.vals))) Z (bN Z Z)<|ChainB.nil
    refine C<|M 1 (t:=bT ((bw (aR r.sch z.tp.vals) (aR r.sch F.tp.vals))==0)) Z (aC Z Z Z Zy)<|Y 1 Z<|H<|C<|M 1 (t:=bT (decide ((bw (aR r.sch z.tp.vals) (aR r.sch F.tp.vals))≥0))) Z (aC Z Z Z Zy)<|E<|ay Z (λr3=>?_) (λr3=>?_)
    ·refine aX ?_;have e6:bU K (aR r.sch F.tp.vals)=j:=wu O0 d3 λy hy=>by
      rw[i5]at hy;injection hy with hy
      subst hy;omega
     exact⟨Z,_,Z,Z,Z,Z,Z,by rw[e6];rfl,by rw[e6,i5];rfl⟩
    refine ar<|am<|a8 1 (j+1) Z Z Zy O0<|Y 1 Z<|⟨_,_,?_,⟨j+1,(bw (aR r.sch z.tp.vals) (aR r.sch F.tp.vals))==0,?_,Z,Z⟩,.rf⟩
    ·omega
    refine⟨by rw[beq_eq_false_iff_ne];omega,O0,λx y hx hy=>?_⟩;by_cases w4:x<j
    ·exact d3 x y w4 hy
    obtain rfl:x=j:=O0
    rw[i5]at hy;injection hy with hy
    subst hy;omega
   refine aX ?_;obtain rfl:j=L.length:=O0
   have e6:bU K (aR r.sch F.tp.vals)=L.length:=wu O0 d3 λy hy=>by
    rw[R8 O0]at hy;cases hy
   exact⟨Z,_,Z,Z,Z,Z,Z,by rw[e6];rfl,by rw[u0,e6,R8 O0];rfl⟩
  obtain⟨sl,rfl,t1,t3,t4,t5,t7,t8⟩:=hS;refine qX [(1,.ref (dL r lw)),(3,.sc (.slice AO L.length N)),(4,bT (eZ r.sch.cols)),(5,nI i),(7,nI (bU K (aR r.sch F.tp.vals))),(8,bT ((K[bU K (aR r.sch F.tp.vals)]?).any λx=>bw x (aR r.sch F.tp.vals)==0))] (.cons t1 Z (.cons t3 Z (.cons t4 Z (.cons t5 Z (.cons t7 Z (.cons t8 Z .nil))))))<|dK (dK (BWP.of ?_));refine eh 1 Z ?_;show BWP _ _ w1 G1 _
  refine mq (b:=((K[bU K (aR r.sch F.tp.vals)]?).any λx=>bw x (aR r.sch F.tp.vals)==0)) Z (λhf=>?_) (λhf=>?_)
  ·have w8:bU K (aR r.sch F.tp.vals)<K.length:=by
    rcases RE (bU K (aR r.sch F.tp.vals)) K.length with h|h
    ·exact h
    rw[R8 h]at hf;cases hf
   obtain⟨g,rfl⟩:∃g,AO=some ⟨g,0,none⟩:=by
    rcases o.nest.row.2 with⟨_,hn⟩|⟨g,g3,cur,hv,_⟩
    ·omega
    injection hv with h1;exact⟨g,h1⟩
   have o3:=o.nest.len;obtain⟨u,a9⟩:∃u,vs[bU K (aR r.sch F.tp.vals)]? =some u:=⟨_,Q2 O0⟩;obtain⟨l,c3⟩:∃l,L[bU K (aR r.sch F.tp.vals)]? =some l:=⟨_,Q2 O0⟩;have y0:=q2 l (Q8 c3);refine dK (gn ?_);refine cM (t:=.sc (.slice (some ⟨g,0,none⟩) L.length N)) Z Z Z (au Z Z)<|cM (t:=nI (bU K (aR r.sch F.tp.vals))) Z Z Z (au Z Z)<|cM (t:=.sc (.slice (some ⟨g,0,none⟩) L.length N)) Z Z Z (au Z Z)<|cM (t:=nI (bU K (aR r.sch F.tp.vals))) Z Z Z (au Z Z)<|cM (t:=.sc (.pointer (some ⟨g,bU K (aR r.sch F.tp.vals),none⟩))) Z Z Z (mr (j:=bU K (aR r.sch F.tp.vals)) Z cQ Z Z Z O0 F0)<|vA (u:=u) Z Z Z Z Z nB (o.nest.ok g (.inl Z)).2.1 ?_ ?_
   ·have:=World.ownsRow.cells o.nest.row (g:=g) Z _ _ a9;rwa[py]at this
   refine cM (t:=nI i) Z Z Z (au Z Z)<|g6 Z Z Z Z dj jD (λa w q=>by rw[q.lit (v:=.int .i64 (i:Nat)) Z];rfl) λa w q=>?_
   rw[q.lit (v:=.int .i64 (i:Nat)) Z];obtain⟨-,-,U,-⟩:=q.facts;have a2:(w.alloc (.cells #[.int .i64 (i:Nat)] 3)).heap[w.heap.size]? =some (.cells #[.int .i64 (i:Nat)] 3 (0,0)):=heap_alloc_new _ _;have k5:=(o.later U).later ((Below.refl w.heap.size w).alloc (Q3 _) (.cells #[.int .i64 (i:Nat)] 3));have e9:=U.size;have c9:(w.alloc (.cells #[.int .i64 (i:Nat)] 3)).heap.size=w.heap.size+1:=F0
   obtain⟨wa,a0⟩:∃wa,w.alloc (.cells #[.int .i64 (i:Nat)] 3)=wa:=⟨_,Z⟩;rw[a0]at a2 k5 c9;rw[a0];obtain⟨bA,b4⟩:∃bA,w.heap.size=bA:=⟨_,Z⟩;rw[b4]at a2 e9 c9;rw[b4];clear q U a0 b4 a w;refine gD Z λa w q=>?_
   obtain⟨-,-,J,-⟩:=q.facts;have I:=k5.later J;have d1:=I.nest.el _ u l a9 c3;have a4:w.heap[bA]? =some (.cells #[.int .i64 (i:Nat)] 3 (0,0)):=by rw[J.block bA O0];exact a2
   obtain⟨_,_,r4,_⟩:=gJ a4;obtain⟨i0,u4,w5,w6,w7⟩:=info_parts BY;obtain⟨u2,w2,O,d2,R,o1,Q⟩:=mU (P:=prog) w w0.heap.size 23 23 3 i0 (.int .i64 0) 1 8 underlying23 u4 w5 w6 w7 Z I1 u l.length (p7 l) d1.1 (some ⟨bA,0,none⟩) 1 1 [.int .i64 (i:Nat)] Z (λe=>by cases e) (λb hb j x hj=>by
    injection hb with hb
    subst hb;cases j with
    |zero=>simp at hj;subst hj;exact r4
    |succ j=>simp at hj) (λx hx=>by rw[Rs.1 hx];rfl) (by unfold maxLen;omega) O0 (by have:=I.below.size;omega) I1 Z d1.2
   have a3:w2.ownsRow w0.heap.size 3 1 u2 (l.length+1) (p7 (l++[i])):=by rw[show p7 (l++[i])=p7 l++[.int .i64 (i:Nat)] by simp[p7]];exact d2
   obtain⟨q3,q1,q5⟩:=I.app1 a9 R o1 Q λg G=>(d2.lt g G).2
   obtain⟨A2,c2,g1⟩:=ce d2;refine aE (v:=u2) (W':=w2) (ms (T:=λs=>a.tmps.getD s undef) Z (q.lit Z) (q.lit Z) O) ⟨w2,_,_,g5 (q.turn q1 q3 R.size q5) I1 (.pure (.sc u2 .nil) .nil),?_⟩;clear q J a2 a4 a;refine cM (t:=.sc (.pointer (some ⟨g,bU K (aR r.sch F.tp.vals),none⟩))) Z Z Z (mr (j:=bU K (aR r.sch F.tp.vals)) Z cQ Z Z Z O0 F0)<|gD Z λa wb q=>?_
   obtain⟨-,-,a1,-⟩:=q.facts;obtain⟨h3,q6⟩:=I.app2 a9 c3 Z a3 R o1 Q (by rw[g1];rfl) a1;have l4:=(I.nest.ok g (.inl Z)).2.1;have u1:wb.heap[g]? =w.heap[g]? :=by
    have h1:w2.heap[g]? =w.heap[g]? :=eY R l4 λe=>I.nest.out u (Q8 a9) g e Z
    rw[a1.block g (Rh l4 R.size)];exact h1
   have g0:=jl I.nest.row (w':=wb) λb hb=>by injection hb with hb;subst hb;exact u1
   have i2:wb.cell? ⟨g,bU K (aR r.sch F.tp.vals),none⟩=some u:=by
    have:=World.ownsRow.cells g0 (g:=g) Z _ _ a9;rwa[py]at this
   refine gS (W':=wb.setCell ⟨g,bU K (aR r.sch F.tp.vals),none⟩ u2) (ti (T:=λs=>a.tmps.getD s undef) Z (q.lit Z) (q.lit Z) vV (by rw[g1];rfl) i2 (d6 g0 _)) ⟨_,_,_,q.turn h3.env h3.okw (by simp[World.setCell]) q6,?_⟩;refine jj ?_;show BWP _ _ _ _ _
   refine oo ?_;show BWP _ _ _ _ _
   refine BWP.of<|am<|a8 1 (i+1) Z Z Zy O0<|Y 1 Z<|⟨r.tups.length-(i+1),O0,i+1,_,K,some ⟨g,0,none⟩,N,_,_,O0,Z,?_,mw F0 Z h3,Z,Z,tw F0,Z,Z⟩;rw[iW c4 e7];unfold jr;rw[if_neg f8];simp only;rw[if_pos (c:=((K[bU K (aR r.sch F.tp.vals)]?).any λx=>bw x (aR r.sch F.tp.vals)==0)=true) hf,vU _ c3]
  refine mp ?_;show BWP _ _ w1 G1 _
  have v4:=BX K (aR r.sch F.tp.vals);obtain⟨p,hp⟩:∃p,bU K (aR r.sch F.tp.vals)=p:=⟨_,Z⟩;rw[hp]at v4⊢;refine oq λa wB q=>?_
  obtain⟨g4,q4,U,hn,f3,v5⟩:=q.facts;have b3:=o.later U;obtain⟨v1,k1⟩:∃v,a.tmps.getD 1 undef=v:=⟨_,Z⟩;have m3:=q.slot (i:=1) (t:=.ref (dL r lw)) Z Z;rw[k1]at m3;refine⟨wB,λ_=>False,⟨92,[(1,.sc v1),(3,.sc (.slice AO L.length N)),(4,bT (eZ r.sch.cols)),(5,nI i),(7,nI p)],[],[]⟩,Sim.mk g4 (λg G=>G.elim) hn f3 (SlotL.look (l:=[(1,.sc v1),(3,.sc (.slice AO L.length N)),(4,bT (eZ r.sch.cols)),(5,nI i),(7,nI p)]) ⟨nG k1,nG (q.lit (i:=3) Z),nG (q.lit (i:=4) Z),nG (q.lit (i:=5) Z),nG (q.lit (i:=7) Z),trivial⟩),?_⟩;clear k1 q v5 hn f3 a q4;obtain⟨l3,-⟩:=wn (l:=0) (h:=0) b3.nest.row (Q3 _) (Rg _);refine dK (gn ?_);refine gD Z λa w q=>?_
  obtain⟨-,-,J,-⟩:=q.facts;have b0:Below wB.heap.size wB (w.alloc (.cells #[] 23)):=J.alloc J.size _;have d0:(w.alloc (.cells #[] 23)).ownsRow wB.heap.size 23 1 (.slice (some ⟨w.heap.size,0,none⟩) 0 0) 0 []:=World.ownsRow_lit (base:=wB.heap.size) (e:=23) (size:=1) w #[] 0 J.size (by simp[maxLen]) F0;have f0:NoDigB (w.alloc (.cells #[] 23)) w.heap.size:=cU (heap_alloc_new _ _) Z;refine aE (v:=.slice (some ⟨w.heap.size,0,none⟩) 0 0) (W':=w.alloc (.cells #[] 23)) (by
   simp only[execOp,dG];go_simp) ⟨_,_,_,g5 (q.lits (g4.below b0 (Q3 _)) Z) I1 (.pure (.sc _ .nil) .nil),?_⟩
  obtain⟨wa,a0⟩:∃wa,w.alloc (.cells #[] 23)=wa:=⟨_,Z⟩;rw[a0]at b0 d0 f0;rw[a0];obtain⟨bO,h6⟩:∃b,w.heap.size=b:=⟨_,Z⟩;rw[h6]at d0 f0;rw[h6];clear q J a0 h6 a w;refine cM (t:=.sc (.slice AO L.length N)) Z Z Z (au Z Z)<|cM (t:=nI p) Z Z Z (au Z Z)<|cM (t:=.sc (.slice (pz AO 0 N) (p-0) (N-0))) Z Z Z (H5 (l:=0) (h:=p) Z cQ Z Z ⟨_,Z⟩ (Rg _) O0 l3)<|gD Z λa w q=>?_
  obtain⟨-,-,a1,-⟩:=q.facts;have a5:=aL b0 a1 b0.size;have I:=b3.later a5;have p0:=I.nest.len;obtain⟨-,b1,b5⟩:=wn (l:=0) (h:=p) I.nest.row (Rg _) O0;obtain⟨v2,w2,O,d2,R,-,Q⟩:=rF (n:=0) (m:=p-0) (c:=N-0) (A:=pz AO 0 N) (news:=(vs.take p).drop 0) (eF d0 a1) b1 b5 (by simp;omega) (λu hu=>I.nest.ones u (RG (Sf hu))) O0 a5.size (λg G=>by have R:some bO=some g:=G;injection R with R;subst R;exact f0.of (a1.block _ (d0.lt _ Z).2));have f1:Below wB.heap.size wB w2:=a5.grown R a5.size λk e=>(d0.lt k e).1
  have a3:w2.ownsRow wB.heap.size 23 1 v2 p (vs.take p):=by simpa using d2
  obtain⟨AX,cX,rfl⟩:=ce a3;refine aE (v:=.slice AX p cX) (W':=w2) (ms (T:=λs=>a.tmps.getD s undef) Z (q.lit Z) (q.lit Z) O) ⟨w2,_,_,g5 (q.lits (g4.below f1 (Q3 _)) Z) I1 (.pure (.sc _ .nil) .nil),?_⟩;clear q b1 b5 O d2 R I a5 a1 d0 f0 b0 a w;refine cM (t:=.sc (.slice AX p cX)) Z Z Z (bN Z Z)<|jj ?_;show BWP _ _ _ _ _
  intro a w q;obtain⟨-,-,f2,hn,f3,-⟩:=q.facts;have e1:=aL f1 f2 f1.size;have k4:=eF a3 f2;have p4:∀g,(Value.slice AX p cX).ownBlock=some g->NoDigB w g:=λg G=>(Q g G).of (f2.block g (a3.lt g G).2)
  have q7:a.tmps.getD 1 undef=v1:=q.lit Z;have q8:a.tmps.getD 3 undef=.slice AO L.length N:=q.lit Z;have q9:a.tmps.getD 4 undef=.bool (eZ r.sch.cols):=q.lit Z;have l1:a.tmps.getD 5 undef=.int .i64 (i:Nat):=q.lit Z;have r0:a.tmps.getD 7 undef=.int .i64 (p:Nat):=q.lit Z;have l0:a.tmps.getD 10 undef=.slice AX p cX:=q.lit Z;have p0:=b3.nest.len;have n0:∀W,Below wB.heap.size w W->W.ownsRow w0.heap.size 23 1 (.slice AO L.length N) L.length vs:=λW hW=>jl b3.nest.row λb hb=>(e1.trans hW).block b (b3.nest.ok b (.inl hb)).2.1
  clear q f2 Q f1 a3;refine tT [some 82,some 83,some 84,some 85,some 86,some 87,some 88,some 89,some 90,some 3] (OW wB.heap.size p i L.length vs (.slice AX p cX) (.slice AO L.length N) (.slice (pz AO p N) (L.length-p) (N-p))) [true,true,false,false,false,true,true,true,false,false] [none,none,some 3,some 4,some 8,none,none,none,none,none] [4,8] wB.heap.size (λW=>W.ownsRow wB.heap.size 23 1 (.slice AX p cX) p (vs.take p)/\∀g,(Value.slice AX p cX).ownBlock=some g->NoDigB W g) 4 ⟨eF k4 (Below.refl _ _).drew,λg G=>(p4 g G).of ((Below.refl w.heap.size w).drew.block g (k4.lt g G).2)⟩ (λW W' h hb=>⟨eF h.1 hb,λg G=>(h.2 g G).of (hb.block g (h.1.lt g G).2)⟩) U0 U0 U0 Z (by rw[hn];rfl) e1.size (λW=>H6 _ _ _ _ _ _ _ _ W) (H7 _ _ _ _ _ _ _ _) U0 ?_ ?_
  ·refine StepsR.cons trivial (λT W G=>?_) ?_
   ·have e:T 10=.slice AX p cX:=(G.keep 10 Z).trans l0;exact aE (v:=.slice AX p cX) (W':=W) (by simp[execOp,dG,e]) ⟨Z,Below.refl _ _⟩
   refine StepsR.cons trivial (λT W G=>?_) ?_
   ·have e:T 5=.int .i64 (i:Nat):=(G.keep 5 Z).trans l1;exact aE (v:=.int .i64 (i:Nat)) (W':=W) (by simp[execOp,dG,e]) ⟨Z,Below.refl _ _⟩
   refine StepsR.cons trivial (λT W G=>?_) ?_
   ·have e:T 83=.int .i64 (i:Nat):=G.fact 1 83 U0;have c5:=G.size;refine aE (v:=.slice (some ⟨W.heap.size,0,none⟩) 1 1) (W':=W.alloc (.cells #[T 83] 3)) (lH Z dj jD (by rw[e];rfl)) ⟨⟨W.heap.size,Z,c5,by rw[e];exact heap_alloc_new _ _⟩,(Below.refl _ _).alloc (Q3 _) _⟩
   refine StepsR.cons trivial (λT W G=>?_) ?_
   ·obtain⟨b,e,U,J⟩:∃b,T 84=.slice (some ⟨b,0,none⟩) 1 1/\wB.heap.size<=b/\W.heap[b]? =some (.cells #[.int .i64 (i:Nat)] 3 (0,0)):=G.fact 2 84 U0;have d4:Below W.heap.size W (W.alloc (.cells #[T 84] 23)):=(Below.refl _ _).alloc (Q3 _) _;refine aE (v:=.slice (some ⟨W.heap.size,0,none⟩) 1 1) (W':=W.alloc (.cells #[T 84] 23)) (lH Z cQ nC (by rw[e];rfl)) ⟨⟨W.heap.size,b,Z,U,k8 d4 J,by rw[e];exact heap_alloc_new _ _⟩,d4⟩
   refine StepsR.cons trivial (λT W G=>?_) ?_
   ·have e:T 82=.slice AX p cX:=G.fact 0 82 U0;obtain⟨b,d,e2,e3,Q,J⟩:∃b d,T 85=.slice (some ⟨b,0,none⟩) 1 1/\wB.heap.size<=d/\W.heap[d]? =some (.cells #[.int .i64 (i:Nat)] 3 (0,0))/\W.heap[b]? =some (.cells #[.slice (some ⟨d,0,none⟩) 1 1] 23 (0,0)):=G.fact 3 85 U0;obtain⟨i4,u8⟩:=G.ini U0;have c5:=G.size;have d4:=G.below;obtain⟨_,_,i1,_⟩:=gJ J;obtain⟨v',W',O,ho,c1,-,e4⟩:=rF (n:=p) (m:=1) (c:=1) (A:=some ⟨b,0,none⟩) (news:=[.slice (some ⟨d,0,none⟩) 1 1]) i4 (λe=>by cases e) (λb hb j x hj=>by
     injection hb with hb
     subst hb;cases j with
     |zero=>simp at hj;subst hj;exact i1
     |succ j=>simp at hj) Z (λu hu=>by rw[Rs.1 hu];exact⟨Z,Z⟩) O0 c5 u8
    have i3:=(RQ.1 Q).1;refine aE (v:=v') (W':=W') (ms Z e e2 O) ⟨⟨d,e3,(eY c1 i3 (EC i4 Q I1)).trans Q,ho,e4⟩,(Below.refl _ _).grown c1 c5 (λk e=>(i4.lt k e).1),c1.size⟩
   refine StepsR.cons trivial (λT W G=>?_) ?_
   ·have e:T 3=.slice AO L.length N:=(G.old 9 3 U0).trans q8;exact aE (v:=.slice AO L.length N) (W':=W) (by simp[execOp,dG,e]) ⟨Z,Below.refl _ _⟩
   refine StepsR.cons trivial (λT W G=>?_) ?_
   ·have e:T 7=.int .i64 (p:Nat):=(G.keep 7 Z).trans r0;exact aE (v:=.int .i64 (p:Nat)) (W':=W) (by simp[execOp,dG,e]) ⟨Z,Below.refl _ _⟩
   refine StepsR.cons trivial (λT W G=>?_) ?_
   ·have e:T 87=.slice AO L.length N:=G.fact 5 87 U0;have e2:T 88=.int .i64 (p:Nat):=G.fact 6 88 U0;have hr:=jb (P:=prog) (w:=W) (A:=AO) (n:=L.length) (c:=N) (l:=p) (h:=L.length) cQ (some (.int .i64 (p:Nat))) none (.inr ⟨_,Z⟩) (.inl ⟨Z,Z⟩) O0 (Q3 _) l3;exact aE (v:=.slice (pz AO p N) (L.length-p) (N-p)) (W':=W) (by simp[execOp,dG,e,e2,hr,pz]) ⟨Z,Below.refl _ _⟩
   refine StepsR.cons trivial (λT W G=>?_) ?_
   ·obtain⟨d,e3,Q,ho,t9⟩:PcR wB.heap.size i (p+1) (λu=>vs.take p++[u]) (T 86) W:=G.fact 4 86 U0;have e:T 89=.slice (pz AO p N) (L.length-p) (N-p):=G.fact 7 89 U0;have c5:=G.size;have d4:=G.below;obtain⟨-,b1,b5⟩:=wn (l:=p) (h:=L.length) (n0 W d4) O0 (Q3 _);rw[Rf O0]at b5;have ones:=b3.nest.ones;obtain⟨v',W',O,l7,c1,-,e4⟩:=rF (n:=p+1) (m:=L.length-p) (c:=N-p) (A:=pz AO p N) (news:=vs.drop p) ho b1 b5 (by simp;omega) (λu hu=>ones u (Sf hu)) O0 c5 t9;have i3:=(RQ.1 Q).1;rw[show p+1+(L.length-p)=L.length+1 by omega]at l7;refine aE (v:=v') (W':=W') (ms Z Z e O) ⟨⟨d,e3,(eY c1 i3 (EC ho Q I1)).trans Q,l7,e4⟩,(Below.refl _ _).grown c1 c5 (λk e=>(ho.lt k e).1),c1.size⟩
   refine StepsR.cons trivial (λT W G=>?_) ?_
   ·have f:PcR wB.heap.size i (L.length+1) (λu=>vs.take p++[u]++vs.drop p) (T 90) W:=G.fact 8 90 U0;exact aE (v:=T 90) (W':=W) (by simp[execOp,dG]) ⟨f,Below.refl _ _⟩
   exact StepsR.nil
  intro us W l6 hF r1 y2;have f9:PcR wB.heap.size i (L.length+1) (λu=>vs.take p++[u]++vs.drop p) (us.getD 9 undef) W:=hF 9 I1 Z;clear hF;have f4:=e1.trans r1;have o2:=(dM [some 82,some 83,some 84,some 85,some 86,some 87,some 88,some 89,some 90,some 3] us a.tmps 9 3 (by rw[hn];rfl) l6 Z).1;obtain⟨v9,v8⟩:∃v,us.getD 9 undef=v:=⟨_,Z⟩;rw[v8]at f9 o2;obtain⟨d,e3,Q,l8,t0⟩:=f9;obtain⟨A2,c2,rfl⟩:=ce l8;have hu:EIs W wB.heap.size (.slice (some ⟨d,0,none⟩) 1 1) [i]:=uh Q e3;obtain⟨b2,h4⟩:=b3.newL f4 hu l8 t0 O0;refine⟨W,_,⟨92,[(1,.ref (dL r lw)),(3,.sc (.slice A2 (L.length+1) c2)),(4,bT (eZ r.sch.cols)),(5,nI i)],[],[]⟩,?_,Sim.mk b2.env b2.okw (by rw[ii];exact hn) f3 (SlotL.look (l:=[(1,.ref (dL r lw)),(3,.sc (.slice A2 (L.length+1) c2)),(4,bT (eZ r.sch.cols)),(5,nI i)]) ⟨?_,nG o2,nG ((fZ _ us _ 4 Z).trans q9),nG ((fZ _ us _ 5 Z).trans l1),trivial⟩)⟩
  ·show BWP _ _ _ _ _
   refine BWP.of<|am<|a8 1 (i+1) Z Z Zy O0<|Y 1 Z<|⟨r.tups.length-(i+1),O0,i+1,_,(K.insertIdx p (aR r.sch F.tp.vals)),A2,c2,_,_,O0,Z,?_,mw (by simp<;>omega) Z b2,Z,Z,tw (by simp<;>omega),Z,Z⟩;rw[iW c4 e7];unfold jr;rw[if_neg f8];simp only;rw[if_neg (c:=((K[bU K (aR r.sch F.tp.vals)]?).any λx=>bw x (aR r.sch F.tp.vals)==0)=true) (by rw[hf];exact R0),hp,lV L _ O0]
  show FT _ [(dl a.tmps ([some 82,some 83,some 84,some 85,some 86,some 87,some 88,some 89,some 90,some 3].zip us)).getD 1 undef] _
  rw[fZ _ us _ 1 Z,q7];exact FT.gg (m3.mono f4.size h4)
 obtain rfl:i=r.tups.length:=by have:=of_decide_eq_false hc;omega
 rw[Sa]at c4;have u3:L=bF r:=by
  unfold bF;rw[if_neg (by rw[c0];exact R0),c4]
 refine oq λa w q=>⟨w0,G0,⟨92,[(3,.sl ((bF r).map j0))],[],[]⟩,?_,oo ?_⟩
 ·obtain⟨-,-,U,-⟩:=q.facts;have I:=o.later U;refine q.back o.e0 o.ok0 I.below ⟨?_,trivial⟩;show FT _ [a.tmps.getD 3 undef] _
  rw[q.lit (v:=.slice AO L.length N) Z,<-u3];exact FT.gg (I.nest.pt λg G h2=>by have:=(o.nest.ok g G).1;have:=(o.ok0 g h2).1;omega)
 refine⟨Z,Z,?_⟩;show AWP _ _ _ _ _
 refine X 2 Z<|aM ⟨Z,Z,Z⟩ Z
def lW(r:Rel)(u:List Rt)(q:r.tups=u.map Rt.tp)(hf:FitR r)(b5:xD r)(a3:H8 u):Ct 40 [xE r u] (iT (bK r)):=by
 refine Ct.of (n:=85) func40 Z Z Z Z Z λw0 G0=>?_
 refine X 2 Z<|H<|C<|M 2 Z (D Z (wg r.sch) Z Z)<|M 0 (t:=bT (!(im r.sch))) Z (dm Z Z Zy)<|E<|aK Z (λJ=>?_) (λJ=>?_)
 ·refine X 1 Z<|aM ⟨Z,ej (by unfold bK;rw[if_pos (by simpa using J)]),Z⟩ Z
 have o:im r.sch=true:=by simpa using J
 refine ar<|H<|C<|M 2 (t:=nI r.tups.length) Z (aj (fw Z aV Z) (by simp only[q,Rn]))<|aI 0 Z Z Zy (B (nZ r.tups.length 64))<|E<|ay Z (λg=>?_) (λg=>?_)
 ·refine X 1 Z<|aM ⟨Z,ej (by unfold bK;rw[if_neg (by rw[o];simp),if_pos g]),Z⟩ Z
 refine ar<|H<|X 1 Z<|aB<|aT (λG y=>∃(i:Nat),(i<=r.tups.length/\ci r.sch (iN r.tups i) (r.tups.drop i)=ci r.sch none r.tups)/\G=r.tups.length-i/\y=⟨85,[(1,.box 0 0),(3,nI i)],[(30,(dL r u))],[]⟩) 1 0 ⟨0,⟨O0,Z⟩,Z,Z⟩ .rf ?_;rintro G y ⟨i,⟨hi,c⟩,rfl,rfl⟩;refine H<|C<|M 3 (t:=nI r.tups.length) Z (aj (fw Z aV Z) (by simp only[q,Rn]))<|aI 0 Z Z Zy (B (gF i r.tups.length))<|E<|ay Z (λa0=>?_) (λa0=>?_)
 ·obtain⟨t,s⟩:∃t,r.tups[i]? =some t:=⟨_,Q2 a0⟩;obtain⟨a,S,rfl⟩:=sN q s;have b4:=hf.tup a.tp (Q8 s);refine ar<|H<|aB<|H<|H<|cB (fu:=9) _ [.box 0 0,.agg (gC r.sch),.box 0 3,.sl (u.map Rt.tree),nI i,.ref [.sl (a.tp.vals.map V.tree),bT a.p.ng,dT a.p.n,dT a.p.d],.agg [.sl (a.tp.vals.map V.tree),bT a.p.ng,dT a.p.n,dT a.p.d],iT (ch r.sch a.tp),iT (ch r.sch a.tp)] U0 Z Z U0 Z ?_ ?_
  ·refine Chain.op Z (aq Z Z cV Z)<|Chain.op Z (aN Z Z Z g7 Z Z)<|Chain.op Z (aq Z Z a6 Z)<|Chain.op Z (av Z Z Z bJ Z)<|Chain.op Z (K Z Z)<|Chain.op Z (aO (Rt.tree a) Z aV Z Z Z (bd (f:=Rt.tree) S) (jm _) Z)<|Chain.op Z (dt Z Z fA Z Z)<|Chain.op Z (D Z (wk r.sch a (a3 a (Q8 S)) (b5 a.tp (Q8 s))) Z Z)<|Chain.op Z (bN Z Z)<|Chain.nil
  refine C<|M 1 (t:=bT ((ch r.sch a.tp) !=0)) Z (aC Z Z Z Zy)<|E<|aK Z (λL=>?_) (λL=>?_)
  ·have a4:ch r.sch a.tp≠0:=by simpa using L
   refine X 2 Z<|aM ⟨Z,ej (by unfold bK;rw[if_neg (by rw[o];simp),if_neg g,<-c,tk s a4,if_pos a4]),Z⟩ Z
  have a2:ch r.sch a.tp=0:=by simpa using L
  refine ar<|H<|C<|aI 1 Z Z Zy (B (gL i 0))<|E<|ay Z (λN=>?_) (λN=>?_)
  ·rw[rc s a2 N]at c;refine aX<|am<|a8 1 (i+1) Z Z Zy O0<|Y 1 Z<|⟨_,_,?_,⟨i+1,?_,Z,Z⟩,.rf⟩
   ·omega
   exact⟨O0,c⟩
  obtain⟨p,R⟩:∃p,r.tups[i-1]? =some p:=⟨_,Q2 O0⟩;obtain⟨up,c0,rfl⟩:=sN q R;have b2:=hf.tup up.tp (Q8 R);rw[tm s a2 N R]at c;refine ar<|H<|cB (fu:=15) _ [.box 0 3,.sl (u.map Rt.tree),nI i,nI (i-1),.ref [.sl (up.tp.vals.map V.tree),bT up.p.ng,dT up.p.n,dT up.p.d],.ref [.sl (up.tp.vals.map V.tree),bT up.p.ng,dT up.p.n,dT up.p.d],.sl (up.tp.vals.map V.tree),.box 0 3,.sl (u.map Rt.tree),nI i,.ref [.sl (a.tp.vals.map V.tree),bT a.p.ng,dT a.p.n,dT a.p.d],.ref [.sl (a.tp.vals.map V.tree),bT a.p.ng,dT a.p.n,dT a.p.d],.sl (a.tp.vals.map V.tree),iT (bw up.tp.vals a.tp.vals),iT (bw up.tp.vals a.tp.vals)] U0 Z Z U0 Z ?_ ?_
  ·refine Chain.op Z (aq Z Z a6 Z)<|Chain.op Z (av Z Z Z bJ Z)<|Chain.op Z (K Z Z)<|Chain.op Z (aj (aC Z Z Z Zy) (kK O0))<|Chain.op Z (aO (Rt.tree up) Z aV Z Z Z (bd (f:=Rt.tree) c0) (jm _) Z)<|Chain.op Z (bL Z Z cz Z)<|Chain.op Z (bi Z Z di Z)<|Chain.op Z (aq Z Z a6 Z)<|Chain.op Z (av Z Z Z bJ Z)<|Chain.op Z (K Z Z)<|Chain.op Z (aO (Rt.tree a) Z aV Z Z Z (bd (f:=Rt.tree) S) (jm _) Z)<|Chain.op Z (bL Z Z cz Z)<|Chain.op Z (bi Z Z di Z)<|Chain.op Z (D Z (nk _ _ b2.2 b4.2) Z Z)<|Chain.op Z (bN Z Z)<|Chain.nil
  refine aB<|C<|M 1 (t:=bT ((bw up.tp.vals a.tp.vals)==0)) Z (aC Z Z Z Zy)<|Y 1 Z<|aK Z (λO=>?_) (λO=>?_)
  ·refine X 1 Z<|aM ⟨Z,ej (by unfold bK;rw[if_neg (by rw[o];simp),if_neg g,<-c,if_pos (eq_of_beq O)];rfl),Z⟩ Z
  have F:¬bw up.tp.vals a.tp.vals=0:=by simpa using O
  have c2:=p5 up.tp.vals a.tp.vals;refine C<|M 1 (t:=bT (decide ((bw up.tp.vals a.tp.vals)>0))) Z (aC Z Z Z Zy)<|Y 1 Z<|ay Z (λb1=>?_) (λb1=>?_)
  ·have a9:bw up.tp.vals a.tp.vals=1:=O0
   refine X 1 Z<|aM ⟨Z,ej (by unfold bK;rw[if_neg (by rw[o];simp),if_neg g,show ci r.sch none r.tups=1 from by rw[<-c,if_neg F,if_pos a9]];rfl),Z⟩ Z
  have a5:¬bw up.tp.vals a.tp.vals=1:=O0
  rw[if_neg F,if_neg a5]at c;refine ar<|am<|a8 1 (i+1) Z Z Zy O0<|Y 1 Z<|⟨_,_,?_,⟨i+1,?_,Z,Z⟩,.rf⟩
  ·omega
  exact⟨O0,c⟩
 have l:ci r.sch none r.tups=0:=by rw[<-c,Rc O0];cases iN r.tups i<;>rfl
 refine aX<|C<|M 1 Z (D Z (Cq r u q hf (BQ l)) Z Z)<|Y 1 Z<|H<|X 1 Z<|aB<|aT (λG y=>∃(j:Nat),(j<=(bF r).length/\∀(m:Nat) (b:List Nat),(bF r)[m]? =some b->m<j->¬16<b.length)/\G=(bF r).length-j/\y=⟨85,[(1,.box 0 0),(6,.sl ((bF r).map j0)),(7,nI j)],[(30,(dL r u))],[]⟩) 1 0 ⟨0,⟨O0,λm b _ h=>O0⟩,Z,Z⟩ .rf ?_;rintro G y ⟨j,⟨hj,z⟩,rfl,rfl⟩;have c1:=vJ r;refine H<|C<|M 2 Z (aU Z cQ Z)<|aI 0 Z Z Zy (B (gF j ((bF r).length)))<|E<|ay Z (λa1=>?_) (λa1=>?_)
 ·obtain⟨b,I⟩:∃b,(bF r)[j]? =some b:=⟨_,Q2 a1⟩;refine ar<|H<|aB<|C<|M 2 (t:=.ref [.sl (b.map gO)]) Z (aO (j0 b) Z cQ Z Z Z (bd (f:=j0) I) (nt _) Z)<|M 1 Z (aU Z dj Z)<|aI 0 Z Z Zy (B (nZ b.length 16))<|E<|ay Z (λP=>?_) (λP=>?_)
  ·refine X 1 Z<|aM ⟨Z,ej (by unfold bK;rw[if_neg (by rw[o];simp),if_neg g,if_neg (by rw[l];simp),if_pos (ym I P)]),Z⟩ Z
  refine ar<|am<|a8 1 (j+1) Z Z Zy O0<|Y 1 Z<|⟨_,_,?_,⟨j+1,?_,Z,Z⟩,.rf⟩
  ·omega
  refine⟨O0,λm b Q h=>?_⟩;rcases RE m j with U|U
  ·exact z m b Q U
  obtain rfl:m=j:=O0
  rw[I]at Q;cases Q;exact P
 have v:tS (bF r)=false:=pZ λk b T=>z k b T (by have:=(Q6.1 T).1;omega)
 refine aX<|H<|X 1 Z<|aB<|aT (λG y=>∃(k:Nat),(k<=(bF r).length/\∀(m:Nat) (b:List Nat),(bF r)[m]? =some b->m<k->¬dk (1-gR r.tups b)<0)/\G=(bF r).length-k/\y=⟨85,[(1,.box 0 0),(6,.sl ((bF r).map j0)),(8,nI k)],[(30,(dL r u))],[]⟩) 1 0 ⟨0,⟨O0,λm b _ h=>O0⟩,Z,Z⟩ .rf ?_;rintro G y ⟨k,⟨T,b0⟩,rfl,rfl⟩;refine H<|C<|M 2 Z (aU Z cQ Z)<|aI 0 Z Z Zy (B (gF k ((bF r).length)))<|E<|ay Z (λA=>?_) (λA=>?_)
 ·obtain⟨b,x⟩:∃b,(bF r)[k]? =some b:=⟨_,Q2 A⟩;have w:=yn r b (Q8 x);have W:b.length<=16:=by have:=Tg.1 v b (Q8 x);simpa using this
  have b3:=o5 l w.2 W;refine ar<|H<|aB<|H<|cB (fu:=8) _ [.agg (dL r u),.sl ((bF r).map j0),nI k,.ref [.sl (b.map gO)],.sl (b.map gO),.agg (bj (gR r.tups b)),bT (Av (gR r.tups b)),bT (!(Av (gR r.tups b)))] U0 Z Z U0 Z ?_ ?_
  ·refine Chain.op Z (aN Z Z Z bf Z Z)<|Chain.op Z (K Z Z)<|Chain.op Z (K Z Z)<|Chain.op Z (aO (j0 b) Z cQ Z Z Z (bd (f:=j0) x) (nt _) Z)<|Chain.op Z (bi Z Z nB Z)<|Chain.op Z (D Z (K0 r u q b w.2 O0 a3 (λj hj=>(o5 l (λi hi=>w.2 i (RG hi)) (by rw[Rb];omega)).1)) Z Z)<|Chain.op Z (D Z (M6 _ b3.1) Z Z)<|Chain.op Z (dm Z Z Zy)<|Chain.nil
  refine aK Z (λe=>?_) (λe=>?_)
  ·refine X 1 Z<|aM ⟨Z,ej (by unfold bK;rw[if_neg (by rw[o];simp),if_neg g,if_neg (by rw[l];simp),if_neg (by rw[v];simp),if_pos (vF x (by rw[Co l]at e;simpa using e))]),Z⟩ Z
  refine ar<|am<|a8 1 (k+1) Z Z Zy O0<|Y 1 Z<|⟨_,_,?_,⟨k+1,?_,Z,Z⟩,.rf⟩
  ·omega
  refine⟨O0,λm b Q h=>?_⟩;rcases RE m k with U|U
  ·exact b0 m b Q U
  obtain rfl:m=k:=O0
  rw[x]at Q;cases Q;rw[Co l]at e;simpa using e
 refine aX<|X 1 Z<|aQ<|⟨.inr Z,_,.cons Z .nil,ej (by unfold bK;rw[if_neg (by rw[o];simp),if_neg g,if_neg (by rw[l];simp),if_neg (by rw[v];simp),if_neg (by rw[ou λk b T=>b0 k b T (by have:=(Q6.1 T).1;omega)];simp)]),Z⟩
def Tp.rt(t:Tp):Rt:=⟨t.vals,qR t.prob⟩
def Cr(t:Tp):t.rt.tp=t:=by
 show(⟨t.vals,(qR t.prob).q⟩:Tp)=t
 rw[Hy]
def K3(r:Rel):r.tups=(r.tups.map Tp.rt).map Rt.tp:=by
 rw[List.map_map];exact(List.map_id _).symm.trans (SV λt _=>(Cr t).symm)
def NV{r:Rel}(h:∀t∈r.tups,Fit 262144 t.prob):H8 (r.tups.map Tp.rt):=λu b=>by
 obtain⟨t,a,rfl⟩:=Sv.1 b;exact wj (h t a)
def Gf(r:Rel):xE r (r.tups.map Tp.rt)=r.tree:=by
 unfold xE dL Rel.tree;rw[List.map_map];rfl
def H9(s:Sch)(t:Tp)(b:Fit 262144 t.prob)(a:∀v∈t.vals,v.s.size<=9223372036854775807):Ct 91 [s.tree,t.tree] (iT (ch s t)):=by
 have h:=wk s t.rt (wj b) a;rw[Cr]at h;exact h
def rG(r:Rel)(b:FitR r)(a:xD r):Ct 40 [r.tree] (iT (bK r)):=Gf r▸lW r _ (K3 r) b a (NV λt c=>(b.tup t c).1.p)
