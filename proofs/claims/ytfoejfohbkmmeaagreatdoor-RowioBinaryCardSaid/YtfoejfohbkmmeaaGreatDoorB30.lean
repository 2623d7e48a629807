import Derived.Test.YtfoejfohbkmmeaaGreatDoorB29
import Derived.Test.YtfoejfohbkmmeaaGreatDoorB00
import Derived.Test.YtfoejfohbkmmeaaGreatDoorB06
set_option maxRecDepth 100000
set_option maxHeartbeats 4000000
namespace Go.Proofs.YtfoejfohbkmmeaaGreatDoor
open Go.RowKit
open Lib renaming hid→J
structure RgI (w0:World) (G0:Nat->Prop) (r:Rel) (m:Nat) (w1:World) (G1:Nat->Prop) (S:St) (i:Nat) (L:List (List Nat)) (K:List (List V)) (AO:Option Addr) (cO:Nat) (vs:List Value) (sl:List (Nat×Tree)):Prop where
 hi:i<=r.tups.length
 hm:m=r.tups.length-i
 st:dP r.sch ([],[]) 0 (r.tups.take i)=(K,L)
 side:Side w0 G0 w1 G1 (.slice AO L.length cO) vs L (.slice none 0 0) [] []
 hS:S=⟨92,sl,[],[]⟩
 s1:look sl 1=.ref (a7 r)
 s3:look sl 3=.sc (.slice AO L.length cO)
 s4:look sl 4=.sc (.bool (eD r.sch.cols))
 s5:look sl 5=.sc (.int .i64 (i:Nat))
def N5(w0:World)(G0:Nat->Prop)(r:Rel)(m:Nat)(w1:World)(G1:Nat->Prop)(S:St):Prop:=∃i L K AO cO vs sl,RgI w0 G0 r m w1 G1 S i L K AO cO vs sl
def Of(r:Rel)(vO:Value)(i p:Nat)(f:Bool)(S:St):Prop:=∃sl,S=⟨92,sl,[],[]⟩/\look sl 1=.ref (a7 r)/\look sl 3=.sc vO/\look sl 4=.sc (.bool (eD r.sch.cols))/\look sl 5=.sc (.int .i64 (i:Nat))/\look sl 7=.sc (.int .i64 (p:Nat))/\look sl 8=.sc (.bool f)
theorem Cq(r:Rel)(h:FitR r)(h5:∀t∈r.tups,t.vals.length=r.sch.cols.length):Ct 95 [r.tree] (.sl ((bf r).map jo)):=by
 refine Ct.of (n:=92) Tryz.func95 Z Z Z Z Z fun w0 G0=>?_
 refine ab<|ae<|aa 1 Z<|ag (t:=.sl []) Z Z Z (bI (.inr Z) bQ)<|af<|ab<|aj 1 Z<|ab<|ab<|aj 3 Z<|aH Z (fun a1=>?_) (fun a1=>?_)
 ·have a5:=a1;refine ab<|ae<|ag (t:=.sl []) Z Z Z (bI (.inr Z) bQ)<|af<|ax<|⟨.inr Z,_,.cons Z .nil,by unfold bf;rw[a5];rfl,Z⟩
 have a5:=a1;refine ar<|ab<|ae<|aa 2 Z<|ag Z Z Z (ak Z (Co r.sch h.cols) Z Z)<|aa 1 Z<|af<|ab<|ab<|aj 1 Z<|aA<|Dw<|m9 fun a w q=>?_
 obtain⟨i9,k4,v0,i2,n0⟩:=q.unbox (ty:=30) (l:=[(1,.ref (a7 r)),(3,.sc (.slice none 0 0)),(4,bT (eD r.sch.cols)),(5,nI 0)]) rfl rfl rfl ⟨.inr ⟨0,rfl,rfl⟩,.inl ⟨rfl,rfl⟩,.inl ⟨rfl,rfl⟩,.inl ⟨rfl,rfl⟩,trivial⟩;refine⟨w,G0,_,i9,?_⟩;clear q i9;refine yV (N5 w0 G0 r) r.tups.length ⟨0,[],[],none,0,[],_,OA _,Z,Z,⟨Nest.nil _ _,KeyR.nil _ _ _,fun b O=>(by cases O),fun b=>⟨.inl,fun h=>h.elim id fun h=>h.elim (fun h=>h.elim (fun h=>by cases h) fun⟨u,hu,_⟩=>by cases hu) fun h=>by cases h⟩,k4,v0,i2⟩,Z,Z,Z,Z,Z⟩ ?_;clear k4 n0 a w;rintro m w1 G1 S ⟨i,L,K,J,D,vs,sl,hi,rfl,a2,o,rfl,s1,s3,s4,s5⟩;obtain⟨w6,w7,o1,w4,-⟩:=wj a2 hi h5;have v6:=h.tups;refine pk [(1,.ref (a7 r)),(3,.sc (.slice J L.length D)),(4,bT (eD r.sch.cols)),(5,nI i)] (.cons s1 Z (.cons s3 Z (.cons s4 Z (.cons s5 Z .nil))))<|dj (dj (BWP.of ?_));refine ae<|aa 3 Z<|ag (t:=nI r.tups.length) Z Z Z (ah (aW Z aM Z) (by simp only[Ol]))<|ag (t:=bT (decide (i<r.tups.length))) Z Z Z (ah (ai Z Z Z Zy) (au (gK i r.tups.length)))<|af ?_;show BWP _ _ w1 G1 _
 refine lf (b:=decide (i<r.tups.length)) Z (fun hc=>?_) (fun hc=>?_)
 ·replace hc:=of_decide_eq_true hc;obtain⟨t,d2⟩:∃t,r.tups[i]? =some t:=⟨_,Og hc⟩;have g0:=Om d2;have r2:=h.tup t g0;refine ld ?_;show BWP _ _ w1 G1 _
  refine dj (vE ?_);refine dj (dj (BWP.of ?_));refine ae<|aa 1 Z<|ag (t:=bT (!(eD r.sch.cols))) Z Z Z (dw Z Z Zy)<|af ?_;show BWP _ _ w1 G1 _
  refine lf (b:= !(eD r.sch.cols)) Z (fun hk=>?_) (fun hk=>?_)
  ·have q4:(aJ r.sch t.vals)=[]:=(ui (h5 t g0)).2 (by simpa using hk);refine dj (fP ?_);refine co (t:=.sc (.slice J L.length D)) Z Z Z (av Z Z)<|co (t:=nI i) Z Z Z (av Z Z)<|lX Z Z Z Z cL iR (fun a w q=>by rw[q.lit (v:=.int .i64 (i:Nat)) Z];exact⟨Z,Z⟩) fun a w q=>?_
   rw[q.lit (v:=.int .i64 (i:Nat)) Z];obtain⟨-,-,H,-⟩:=q.facts;obtain⟨wa,I⟩:∃wa,w.alloc (.cells #[.int .i64 (i:Nat)] 3)=wa:=⟨_,rfl⟩;have f3:Below w1.heap.size w1 wa:=by rw[<-I];exact H.alloc H.size _
   have M:wa.heap[w.heap.size]? =some (.cells #[.int .i64 (i:Nat)] 3 (0,0)):=by rw[<-I];exact heap_alloc_new _ _
   have d4:=H.size;have b4:wa.heap.size=w.heap.size+1:=by rw[<-I];simp
   rw[I];obtain⟨Q,b0⟩:∃Q,w.heap.size=Q:=⟨_,rfl⟩;rw[b0]at M d4 b4;rw[b0];clear q H I b0 a w;refine gp Z Z Z Z cA ms (fun a w q=>by rw[q.lit (v:=.slice (some ⟨Q,0,none⟩) 1 1) Z];rfl) fun a w q=>?_
   rw[q.lit (v:=.slice (some ⟨Q,0,none⟩) 1 1) Z];obtain⟨-,-,C,-⟩:=q.facts;obtain⟨wb,c3⟩:∃wb,w.alloc (.cells #[.slice (some ⟨Q,0,none⟩) 1 1] 23)=wb:=⟨_,rfl⟩;have g4:Below wa.heap.size wa wb:=by rw[<-c3];exact C.alloc C.size _
   have e9:wb.heap[w.heap.size]? =some (.cells #[.slice (some ⟨Q,0,none⟩) 1 1] 23 (0,0)):=by rw[<-c3];exact heap_alloc_new _ _
   have i4:=C.size;have k0:wb.heap.size=w.heap.size+1:=by rw[<-c3];simp
   rw[c3];obtain⟨bB,g3⟩:∃bB,w.heap.size=bB:=⟨_,rfl⟩;rw[g3]at e9 i4 k0;rw[g3];clear q C c3 g3 a w;refine fT Z fun a w q=>?_
   obtain⟨n0,w5,N,-⟩:=q.facts;have Y:Below w1.heap.size w1 w:=aF (aF f3 g4 f3.size) N (Oq f3.size g4.size);have U:w.heap[Q]? =some (.cells #[.int .i64 (i:Nat)] 3 (0,0)):=by rw[N.block Q (by omega),g4.block Q (by omega)];exact M
   have f6:w.heap[bB]? =some (.cells #[.slice (some ⟨Q,0,none⟩) 1 1] 23 (0,0)):=by rw[N.block bB (by omega)];exact e9
   obtain⟨_,_,i1,_⟩:=f5 f6;have v4:=o.nest.len;have B:=o.later Y;have hu:EIs w w0.heap.size (.slice (some ⟨Q,0,none⟩) 1 1) [i]:=so U (by have:=o.below.size;omega);obtain⟨v',w',E,m3,l7,q8,e1⟩:=p5 (n:=L.length) (m:=1) (c:=1) (A:=some ⟨bB,0,none⟩) (news:=[.slice (some ⟨Q,0,none⟩) 1 1]) B.nest.row (fun e=>by cases e) (fun b O j x hj=>by
    injection O with O
    subst O;cases j with
    |zero=>simp at hj;subst hj;exact i1
    |succ j=>simp at hj) Z (fun u hu=>by rw[OG.1 hu];exact⟨Z,Z⟩) (by omega) (by have:=o.below.size;have:=Y.size;omega) B.nest.rd
   have m2:w'.ownsRow w0.heap.size 23 1 v' (L.length+1) (vs.take L.length++[.slice (some ⟨Q,0,none⟩) 1 1]++vs.drop L.length):=by rw[Oy (by omega),Ov (by omega),O5];exact m3
   obtain⟨a9,h6⟩:=o.insL Y hu (fun g z=>by have F:some Q=some g:=z;injection F with F;omega) m2 l7 q8 e1 (Oh _);obtain⟨A2,c2,rfl⟩:=bX m3;refine aB (v:=.slice A2 (L.length+1) c2) (W':=w') (lh (T:=fun s=>a.tmps.getD s undef) rfl (q.lit rfl) (q.lit rfl) E) ⟨w',_,_,go (q.turn a9.env a9.okw l7.size fun b p3 hG=>h6 b p3 fun h=>hG (h.imp id fun e=>by injection e with e;exact e.symm)) (by decide) (.pure (.sc _ .nil) .nil),?_⟩;refine co (t:=.sc (.slice A2 (L.length+1) c2)) Z Z Z (bE Z Z)<|iv ?_;show BWP _ _ _ _ _
   refine m8 ?_;show BWP _ _ _ _ _
   refine BWP.of<|ae<|aa 1 Z<|ag (t:=nI (i+1)) Z Z Z (ah (ai Z Z Z Zy) (bp (by omega)))<|aa 1 Z<|af<|⟨r.tups.length-(i+1),by omega,i+1,_,(K++[(aJ r.sch t.vals)]),A2,c2,_,_,by omega,Z,?_,ln (by simp<;>omega) Z a9,Z,Z,rH (by simp<;>omega),Z,Z⟩;rw[ik a2 d2];unfold iI;rw[if_pos q4,Oy (Oh _),Ov (Oh _),O5]
  have c4:∀t∈r.tups,aJ r.sch t.vals≠ []:=fun t ht e=>by
   rw[(ui (h5 t ht)).1 e]at hk;cases hk
  have e7:=c4 t g0;have u1:(aJ r.sch t.vals).length<=65536:=Oq (iQ _ _) h.cols;refine ld ?_;show BWP _ _ w1 G1 _
  refine dj (BWP.of ?_);refine ck (fu:=10) [some 31,some 32,some 33,some 34,some 35,some 36,some 37,some 38,some 39,some 6] [.ref (a7 r),.agg (fm r.sch),.ref [.sl (r.tups.map Tp.tree)],.sl (r.tups.map Tp.tree),nI i,.ref (bY t),.ref (bY t),.sl (t.vals.map V.tree),.sl ((aJ r.sch t.vals).map V.tree),.sl ((aJ r.sch t.vals).map V.tree)] (by kernel_rfl) Z Z (by kernel_rfl) Z ?_ ?_
  ·refine Chain.op Z (bu Z Z dl Z)<|Chain.op Z (cT Z Z gA Z Z)<|Chain.op Z (bu Z Z a6 Z)<|Chain.op Z (be Z Z bz Z)<|Chain.op Z (av Z Z)<|Chain.op Z (aK (Tp.tree t) Z aM Z Z Z (aX (f:=Tp.tree) d2) (bS _) Z)<|Chain.op Z (bu Z Z bW Z)<|Chain.op Z (be Z Z cJ Z)<|Chain.op Z (ak Z (D5 r.sch t.vals r2.2) Z Z)<|Chain.op Z (bE Z Z)<|Chain.nil
  show BWP _ _ w1 G1 _
  refine dj (BWP.of ?_);refine aj 2 Z ?_;show BWP _ _ w1 G1 _
  refine H3 (Of r (.slice J L.length D) i (bF K (aJ r.sch t.vals)) ((K[bF K (aJ r.sch t.vals)]?).any fun x=>bg x (aJ r.sch t.vals)==0)) ?_ fun S hS=>?_
  ·refine aA<|aO (fun n_ S_=>∃(j:Nat) (f:Bool),(f=false/\j<=L.length/\∀x y,x<j->K[x]? =some y->bg y (aJ r.sch t.vals)<0)/\n_=L.length-j/\S_=⟨92,[(1,.ref (a7 r)),(3,.sc (.slice J L.length D)),(4,bT (eD r.sch.cols)),(5,nI i),(6,.sl ((aJ r.sch t.vals).map V.tree)),(7,nI j),(8,bT f)],[],[]⟩) 0 0 ⟨0,false,⟨Z,OA _,fun x y hx=>absurd hx (Q9 x)⟩,Z,Z⟩ .rf ?_;rintro n_ S_ ⟨j,f,⟨r0,hj,d3⟩,rfl,rfl⟩;refine ab<|ab<|ae<|aa 2 Z<|ag (t:=nI L.length) Z Z Z (yW Z cA Z)<|ag (t:=bT (decide (j<L.length))) Z Z Z (ah (ai Z Z Z Zy) (au (gK j L.length)))<|af<|aD Z (fun b2=>?_) (fun b2=>?_)
   ·obtain⟨g,rfl⟩:∃g,J=some ⟨g,0,none⟩:=by
     rcases o.nest.row.2 with⟨_,hn⟩|⟨g,h9,cur,hv,_⟩
     ·omega
     injection hv with h1;exact⟨g,h1⟩
    have m1:=o.nest.len;obtain⟨u,X⟩:∃u,vs[j]? =some u:=⟨_,Og (by omega)⟩;obtain⟨l,a3⟩:∃l,L[j]? =some l:=⟨_,Og (by omega)⟩;obtain⟨h0,tl,t2,hl,k5,h8⟩:=Iz a2 c4 a3;have l6:=h.tup t2 (Om k5);have c1:=o.nest.el _ u l X a3;obtain⟨gu,cu,rfl⟩:∃gu cu,u=.slice (some ⟨gu,0,none⟩) l.length cu:=by
     rcases c1.1.2 with⟨_,hn⟩|⟨g2,h9,cur,hv,_⟩
     ·rw[hl]at hn;simp at hn
     exact⟨g2,h9,hv⟩
    have p0:w1.cell? ⟨gu,0,none⟩=some (.int .i64 (h0:Nat)):=by
     have:=World.ownsRow.cells c1.1 (g:=gu) Z 0 (.int .i64 (h0:Nat)) (by rw[hl];rfl);rwa[nY]at this
    have h3:w1.cell? ⟨g,j,none⟩=some (.slice (some ⟨gu,0,none⟩) l.length cu):=by
     have:=World.ownsRow.cells o.nest.row (g:=g) Z _ _ X;rwa[nY]at this
    refine ar<|aA<|ab<|Ce (fu:=17) [some 44,some 45,some 46,some 47,some 48,some 49,some 50,some 51,some 52,some 53,some 54,some 55,some 56,some 57,some 58,some 59,some 9] [.ref (a7 r),.agg (fm r.sch),.ref [.sl (r.tups.map Tp.tree)],.sl (r.tups.map Tp.tree),.sc (.slice (some ⟨g,0,none⟩) L.length D),nI j,.sc (.pointer (some ⟨g,j,none⟩)),.sc (.slice (some ⟨gu,0,none⟩) l.length cu),.sc (.pointer (some ⟨gu,0,none⟩)),nI h0,.ref (bY t2),.ref (bY t2),.sl (t2.vals.map V.tree),.sl ((aJ r.sch t2.vals).map V.tree),.sl ((aJ r.sch t.vals).map V.tree),iT (bg (aJ r.sch t2.vals) (aJ r.sch t.vals)),iT (bg (aJ r.sch t2.vals) (aJ r.sch t.vals))] (by kernel_rfl) Z Z (by kernel_rfl) Z ?_ ?_
    ·refine dL (t:=.ref (a7 r)) Z (bu Z Z dl Z)<|dL (t:=.agg (fm r.sch)) Z (cT Z Z gA Z Z)<|dL (t:=.ref [.sl (r.tups.map Tp.tree)]) Z (bu Z Z a6 Z)<|dL (t:=.sl (r.tups.map Tp.tree)) Z (be Z Z bz Z)<|dL (t:=.sc (.slice (some ⟨g,0,none⟩) L.length D)) Z (av Z Z)<|dL (t:=nI j) Z (av Z Z)<|dL (t:=.sc (.pointer (some ⟨g,j,none⟩))) Z (lg (j:=j) Z cA Z Z Z (by omega) (by simp))<|ChainB.op (t:=.sc (.slice (some ⟨gu,0,none⟩) l.length cu)) Z (zK Z Z mr (o.nest.ok g (.inl Z)).2.1 h3)<|dL (t:=.sc (.pointer (some ⟨gu,0,none⟩))) Z (lg (j:=0) Z cL Z Z Z (by rw[hl];exact RM _) Z)<|ChainB.op (t:=nI h0) Z (zK Z Z eQ (c1.1.lt gu Z).2 p0)<|dL (t:=.ref (bY t2)) Z (aK (Tp.tree t2) Z aM Z Z Z (aX (f:=Tp.tree) k5) (bS _) Z)<|dL (t:=.ref (bY t2)) Z (bu Z Z bW Z)<|dL (t:=.sl (t2.vals.map V.tree)) Z (be Z Z cJ Z)<|dL (t:=.sl ((aJ r.sch t2.vals).map V.tree)) Z (ak Z (D5 r.sch t2.vals l6.2) Z Z)<|dL (t:=.sl ((aJ r.sch t.vals).map V.tree)) Z (av Z Z)<|dL (t:=iT (bg (aJ r.sch t2.vals) (aJ r.sch t.vals))) Z (ak Z (mu _ _ (Oq (iQ _ _) h.cols) u1) Z Z)<|dL (t:=iT (bg (aJ r.sch t2.vals) (aJ r.sch t.vals))) Z (bE Z Z)<|ChainB.nil
    refine ab<|ae<|aa 1 Z<|ag (t:=bT ((bg (aJ r.sch t2.vals) (aJ r.sch t.vals))==0)) Z Z Z (ai Z Z Z Zy)<|aa 1 Z<|af<|ab<|ab<|ae<|aa 1 Z<|ag (t:=bT (decide ((bg (aJ r.sch t2.vals) (aJ r.sch t.vals))≥0))) Z Z Z (ai Z Z Z Zy)<|af<|aD Z (fun r1=>?_) (fun r1=>?_)
    ·refine aQ ?_;have d0:bF K (aJ r.sch t.vals)=j:=uj (by omega) d3 fun y hy=>by
      rw[h8]at hy;injection hy with hy
      subst hy;omega
     exact⟨Z,_,Z,Z,Z,Z,Z,by rw[d0];rfl,by rw[d0,h8];rfl⟩
    refine ar<|ae<|aa 1 Z<|ag (t:=nI (j+1)) Z Z Z (ah (ai Z Z Z Zy) (bp (by omega)))<|aa 1 Z<|af<|⟨_,_,?_,⟨j+1,(bg (aJ r.sch t2.vals) (aJ r.sch t.vals))==0,?_,Z,Z⟩,.rf⟩
    ·omega
    refine⟨by rw[beq_eq_false_iff_ne];omega,by omega,fun x y hx hy=>?_⟩;by_cases q6:x<j
    ·exact d3 x y q6 hy
    obtain rfl:x=j:=by omega
    rw[h8]at hy;injection hy with hy
    subst hy;omega
   refine aQ ?_;obtain rfl:j=L.length:=by omega
   have d0:bF K (aJ r.sch t.vals)=L.length:=uj (by omega) d3 fun y hy=>by
    rw[Pi (by omega)]at hy;cases hy
   exact⟨Z,_,Z,Z,Z,Z,Z,by rw[d0];rfl,by rw[r0,d0,Pi (by omega)];rfl⟩
  obtain⟨sl,rfl,t1,t3,t4,t5,t7,t8⟩:=hS;refine pk [(1,.ref (a7 r)),(3,.sc (.slice J L.length D)),(4,bT (eD r.sch.cols)),(5,nI i),(7,nI (bF K (aJ r.sch t.vals))),(8,bT ((K[bF K (aJ r.sch t.vals)]?).any fun x=>bg x (aJ r.sch t.vals)==0))] (.cons t1 Z (.cons t3 Z (.cons t4 Z (.cons t5 Z (.cons t7 Z (.cons t8 Z .nil))))))<|dj (dj (BWP.of ?_));refine aj 1 Z ?_;show BWP _ _ w1 G1 _
  refine lf (b:=((K[bF K (aJ r.sch t.vals)]?).any fun x=>bg x (aJ r.sch t.vals)==0)) Z (fun hf=>?_) (fun hf=>?_)
  ·have v5:bF K (aJ r.sch t.vals)<K.length:=by
    rcases OS (bF K (aJ r.sch t.vals)) K.length with h|h
    ·exact h
    rw[Pi h]at hf;cases hf
   obtain⟨g,rfl⟩:∃g,J=some ⟨g,0,none⟩:=by
    rcases o.nest.row.2 with⟨_,hn⟩|⟨g,h9,cur,hv,_⟩
    ·omega
    injection hv with h1;exact⟨g,h1⟩
   have m1:=o.nest.len;obtain⟨u,X⟩:∃u,vs[bF K (aJ r.sch t.vals)]? =some u:=⟨_,Og (by omega)⟩;obtain⟨l,a3⟩:∃l,L[bF K (aJ r.sch t.vals)]? =some l:=⟨_,Og (by omega)⟩;have w3:=o1 l (Om a3);refine dj (fP ?_);refine co (t:=.sc (.slice (some ⟨g,0,none⟩) L.length D)) Z Z Z (av Z Z)<|co (t:=nI (bF K (aJ r.sch t.vals))) Z Z Z (av Z Z)<|co (t:=.sc (.slice (some ⟨g,0,none⟩) L.length D)) Z Z Z (av Z Z)<|co (t:=nI (bF K (aJ r.sch t.vals))) Z Z Z (av Z Z)<|co (t:=.sc (.pointer (some ⟨g,bF K (aJ r.sch t.vals),none⟩))) Z Z Z (lg (j:=bF K (aJ r.sch t.vals)) Z cA Z Z Z (by omega) (by simp))<|ti (u:=u) Z Z Z Z Z mr (o.nest.ok g (.inl Z)).2.1 ?_ ?_
   ·have:=World.ownsRow.cells o.nest.row (g:=g) Z _ _ X;rwa[nY]at this
   refine co (t:=nI i) Z Z Z (av Z Z)<|gp Z Z Z Z cL iR (fun a w q=>by rw[q.lit (v:=.int .i64 (i:Nat)) Z];rfl) fun a w q=>?_
   rw[q.lit (v:=.int .i64 (i:Nat)) Z];obtain⟨-,-,H,-⟩:=q.facts;have M:(w.alloc (.cells #[.int .i64 (i:Nat)] 3)).heap[w.heap.size]? =some (.cells #[.int .i64 (i:Nat)] 3 (0,0)):=heap_alloc_new _ _;have l3:=(o.later H).later ((Below.refl w.heap.size w).alloc (Oh _) (.cells #[.int .i64 (i:Nat)] 3));have d4:=H.size;have b4:(w.alloc (.cells #[.int .i64 (i:Nat)] 3)).heap.size=w.heap.size+1:=by simp
   obtain⟨wa,I⟩:∃wa,w.alloc (.cells #[.int .i64 (i:Nat)] 3)=wa:=⟨_,rfl⟩;rw[I]at M l3 b4;rw[I];obtain⟨Q,b0⟩:∃Q,w.heap.size=Q:=⟨_,rfl⟩;rw[b0]at M d4 b4;rw[b0];clear q H I b0 a w;refine fT Z fun a w q=>?_
   obtain⟨-,-,C,-⟩:=q.facts;have B:=l3.later C;have c1:=B.nest.el _ u l X a3;have U:w.heap[Q]? =some (.cells #[.int .i64 (i:Nat)] 3 (0,0)):=by rw[C.block Q (by omega)];exact M
   obtain⟨_,_,t0,_⟩:=f5 U;obtain⟨i0,p1,u3,p2,n2⟩:=info_parts zM;obtain⟨u2,w2,E,b5,F,l0,G⟩:=lP (P:=Tryz.prog) w w0.heap.size 23 23 3 i0 (.int .i64 0) 1 8 Tryz.underlying23 p1 u3 p2 n2 rfl (by decide) u l.length (oI l) c1.1 (some ⟨Q,0,none⟩) 1 1 [.int .i64 (i:Nat)] rfl (fun e=>by cases e) (fun b O j x hj=>by
    injection O with O
    subst O;cases j with
    |zero=>simp at hj;subst hj;exact t0
    |succ j=>simp at hj) (fun x hx=>by rw[OG.1 hx];rfl) (by unfold maxLen;omega) (by omega) (by have:=B.below.size;omega) (by decide) Z c1.2
   have R:w2.ownsRow w0.heap.size 3 1 u2 (l.length+1) (oI (l++[i])):=by rw[show oI (l++[i])=oI l++[.int .i64 (i:Nat)] by simp[oI]];exact b5
   obtain⟨q1,q0,o3⟩:=B.app1 X F l0 G fun g z=>(b5.lt g z).2
   obtain⟨A2,c2,e8⟩:=bX b5;refine aB (v:=u2) (W':=w2) (lh (T:=fun s=>a.tmps.getD s undef) Z (q.lit Z) (q.lit Z) E) ⟨w2,_,_,go (q.turn q0 q1 F.size o3) (by decide) (.pure (.sc u2 .nil) .nil),?_⟩;clear q C M U a;refine co (t:=.sc (.pointer (some ⟨g,bF K (aJ r.sch t.vals),none⟩))) Z Z Z (lg (j:=bF K (aJ r.sch t.vals)) Z cA Z Z Z (by omega) (by simp))<|fT Z fun a wb q=>?_
   obtain⟨-,-,N,-⟩:=q.facts;obtain⟨g1,o2⟩:=B.app2 X a3 rfl R F l0 G (by rw[e8];rfl) N;have l8:=(B.nest.ok g (.inl Z)).2.1;have u0:wb.heap[g]? =w.heap[g]? :=by
    have h1:w2.heap[g]? =w.heap[g]? :=eC F l8 fun e=>B.nest.out u (Om X) g e Z
    rw[N.block g (Oz l8 F.size)];exact h1
   have f1:=iB B.nest.row (w':=wb) fun b O=>by injection O with O;subst O;exact u0
   have h3:wb.cell? ⟨g,bF K (aJ r.sch t.vals),none⟩=some u:=by
    have:=World.ownsRow.cells f1 (g:=g) Z _ _ X;rwa[nY]at this
   refine gd (W':=wb.setCell ⟨g,bF K (aJ r.sch t.vals),none⟩ u2) (rq (T:=fun s=>a.tmps.getD s undef) Z (q.lit Z) (q.lit Z) tZ (by rw[e8];rfl) h3 (dJ f1 _)) ⟨_,_,_,q.turn g1.env g1.okw (by simp[World.setCell]) o2,?_⟩;refine iv ?_;show BWP _ _ _ _ _
   refine m8 ?_;show BWP _ _ _ _ _
   refine BWP.of<|ae<|aa 1 Z<|ag (t:=nI (i+1)) Z Z Z (ah (ai Z Z Z Zy) (bp (by omega)))<|aa 1 Z<|af<|⟨r.tups.length-(i+1),by omega,i+1,_,K,some ⟨g,0,none⟩,D,_,_,by omega,Z,?_,ln (by simp) Z g1,Z,Z,rH (by simp),Z,Z⟩;rw[ik a2 d2];unfold iI;rw[if_neg e7];simp only;rw[if_pos (c:=((K[bF K (aJ r.sch t.vals)]?).any fun x=>bg x (aJ r.sch t.vals)==0)=true) hf,tY _ a3]
  refine ld ?_;show BWP _ _ w1 G1 _
  have n1:=zL K (aJ r.sch t.vals);obtain⟨p,hp⟩:∃p,bF K (aJ r.sch t.vals)=p:=⟨_,rfl⟩;rw[hp]at n1⊢;refine m9 fun a wB q=>?_
  obtain⟨f7,q2,H,hn,e5,q3⟩:=q.facts;have b1:=o.later H;obtain⟨v1,h4⟩:∃v,a.tmps.getD 1 undef=v:=⟨_,rfl⟩;have i5:=q.slot (i:=1) (t:=.ref (a7 r)) Z Z;rw[h4]at i5;refine⟨wB,fun _=>False,⟨92,[(1,.sc v1),(3,.sc (.slice J L.length D)),(4,bT (eD r.sch.cols)),(5,nI i),(7,nI p)],[],[]⟩,Sim.mk f7 (fun g z=>z.elim) hn e5 (SlotL.look (l:=[(1,.sc v1),(3,.sc (.slice J L.length D)),(4,bT (eD r.sch.cols)),(5,nI i),(7,nI p)]) ⟨mq h4,mq (q.lit (i:=3) Z),mq (q.lit (i:=4) Z),mq (q.lit (i:=5) Z),mq (q.lit (i:=7) Z),trivial⟩),?_⟩;clear h4 q q3 hn e5 a q2;obtain⟨l5,-⟩:=tX (l:=0) (h:=0) b1.nest.row (Oh _) (OA _);refine dj (fP ?_);refine fT Z fun a w q=>?_
  obtain⟨-,-,C,-⟩:=q.facts;have a0:Below wB.heap.size wB (w.alloc (.cells #[] 23)):=C.alloc C.size _;have c0:(w.alloc (.cells #[] 23)).ownsRow wB.heap.size 23 1 (.slice (some ⟨w.heap.size,0,none⟩) 0 0) 0 []:=World.ownsRow_lit (base:=wB.heap.size) (e:=23) (size:=1) w #[] 0 C.size (by simp[maxLen]) (by simp);have e4:NoDigB (w.alloc (.cells #[] 23)) w.heap.size:=cD (heap_alloc_new _ _) Z;refine aB (v:=.slice (some ⟨w.heap.size,0,none⟩) 0 0) (W':=w.alloc (.cells #[] 23)) (by
   simp only[execOp,dm];go_simp) ⟨_,_,_,go (q.lits (f7.below a0 (Oh _)) Z) (by decide) (.pure (.sc _ .nil) .nil),?_⟩
  obtain⟨wa,I⟩:∃wa,w.alloc (.cells #[] 23)=wa:=⟨_,rfl⟩;rw[I]at a0 c0 e4;rw[I];obtain⟨bO,f8⟩:∃b,w.heap.size=b:=⟨_,rfl⟩;rw[f8]at c0 e4;rw[f8];clear q C I f8 a w;refine co (t:=.sc (.slice J L.length D)) Z Z Z (av Z Z)<|co (t:=nI p) Z Z Z (av Z Z)<|co (t:=.sc (.slice (nZ J 0 D) (p-0) (D-0))) Z Z Z (EW (l:=0) (h:=p) Z cA Z Z ⟨_,Z⟩ (OA _) (by omega) l5)<|fT Z fun a w q=>?_
  obtain⟨-,-,N,-⟩:=q.facts;have Y:=aF a0 N a0.size;have B:=b1.later Y;have k2:=B.nest.len;obtain⟨-,a1,b2⟩:=tX (l:=0) (h:=p) B.nest.row (OA _) (by omega);obtain⟨v2,w2,E,b5,F,-,G⟩:=p5 (n:=0) (m:=p-0) (c:=D-0) (A:=nZ J 0 D) (news:=(vs.take p).drop 0) (d6 c0 N) a1 b2 (by simp;omega) (fun u hu=>B.nest.ones u (OV (Pq hu))) (by omega) Y.size (fun g z=>by have F:some bO=some g:=z;injection F with F;subst F;exact e4.of (N.block _ (c0.lt _ rfl).2));have e6:Below wB.heap.size wB w2:=Y.grown F Y.size fun k e=>(c0.lt k e).1
  have R:w2.ownsRow wB.heap.size 23 1 v2 p (vs.take p):=by simpa using b5
  obtain⟨AX,cX,rfl⟩:=bX R;refine aB (v:=.slice AX p cX) (W':=w2) (lh (T:=fun s=>a.tmps.getD s undef) Z (q.lit Z) (q.lit Z) E) ⟨w2,_,_,go (q.lits (f7.below e6 (Oh _)) Z) (by decide) (.pure (.sc _ .nil) .nil),?_⟩;clear q a1 b2 E b5 F B Y N c0 e4 a0 a w;refine co (t:=.sc (.slice AX p cX)) Z Z Z (bE Z Z)<|iv ?_;show BWP _ _ _ _ _
  intro a w q;obtain⟨-,-,e3,hn,e5,-⟩:=q.facts;have c5:=aF e6 e3 e6.size;have m4:=d6 R e3;have t9:∀g,(Value.slice AX p cX).ownBlock=some g->NoDigB w g:=fun g z=>(G g z).of (e3.block g (R.lt g z).2)
  have r3:a.tmps.getD 1 undef=v1:=q.lit Z;have q7:a.tmps.getD 3 undef=.slice J L.length D:=q.lit Z;have q9:a.tmps.getD 4 undef=.bool (eD r.sch.cols):=q.lit Z;have l9:a.tmps.getD 5 undef=.int .i64 (i:Nat):=q.lit Z;have r4:a.tmps.getD 7 undef=.int .i64 (p:Nat):=q.lit Z;have l1:a.tmps.getD 10 undef=.slice AX p cX:=q.lit Z;have k2:=b1.nest.len;have k3:∀W,Below wB.heap.size w W->W.ownsRow w0.heap.size 23 1 (.slice J L.length D) L.length vs:=fun W hW=>iB b1.nest.row fun b O=>(c5.trans hW).block b (b1.nest.ok b (.inl O)).2.1
  clear q e3 G e6 R;refine rZ [some 82,some 83,some 84,some 85,some 86,some 87,some 88,some 89,some 90,some 3] (Mj wB.heap.size p i L.length vs (.slice AX p cX) (.slice J L.length D) (.slice (nZ J p D) (L.length-p) (D-p))) [true,true,false,false,false,true,true,true,false,false] [none,none,some 3,some 4,some 8,none,none,none,none,none] [4,8] wB.heap.size (fun W=>W.ownsRow wB.heap.size 23 1 (.slice AX p cX) p (vs.take p)/\∀g,(Value.slice AX p cX).ownBlock=some g->NoDigB W g) 4 ⟨d6 m4 (Below.refl _ _).drew,fun g z=>(t9 g z).of ((Below.refl w.heap.size w).drew.block g (m4.lt g z).2)⟩ (fun W W' h O=>⟨d6 h.1 O,fun g z=>(h.2 g z).of (O.block g (h.1.lt g z).2)⟩) (by kernel_rfl) (by kernel_rfl) (by kernel_rfl) Z (by rw[hn];rfl) c5.size (fun W=>Fg _ _ _ _ _ _ _ _ W) (Fh _ _ _ _ _ _ _ _) (by kernel_rfl) ?_ ?_
  ·refine StepsR.cons trivial (fun T W z=>?_) ?_
   ·have e:T 10=.slice AX p cX:=(z.keep 10 Z).trans l1;exact aB (v:=.slice AX p cX) (W':=W) (by simp[execOp,dm,e]) ⟨Z,Below.refl _ _⟩
   refine StepsR.cons trivial (fun T W z=>?_) ?_
   ·have e:T 5=.int .i64 (i:Nat):=(z.keep 5 Z).trans l9;exact aB (v:=.int .i64 (i:Nat)) (W':=W) (by simp[execOp,dm,e]) ⟨Z,Below.refl _ _⟩
   refine StepsR.cons trivial (fun T W z=>?_) ?_
   ·have e:T 83=.int .i64 (i:Nat):=z.fact 1 83 (by kernel_rfl);have a4:=z.size;refine aB (v:=.slice (some ⟨W.heap.size,0,none⟩) 1 1) (W':=W.alloc (.cells #[T 83] 3)) (kt Z cL iR (by rw[e];rfl)) ⟨⟨W.heap.size,Z,a4,by rw[e];exact heap_alloc_new _ _⟩,(Below.refl _ _).alloc (Oh _) _⟩
   refine StepsR.cons trivial (fun T W z=>?_) ?_
   ·obtain⟨b,e,H,C⟩:∃b,T 84=.slice (some ⟨b,0,none⟩) 1 1/\wB.heap.size<=b/\W.heap[b]? =some (.cells #[.int .i64 (i:Nat)] 3 (0,0)):=z.fact 2 84 (by kernel_rfl);have d1:Below W.heap.size W (W.alloc (.cells #[T 84] 23)):=(Below.refl _ _).alloc (Oh _) _;refine aB (v:=.slice (some ⟨W.heap.size,0,none⟩) 1 1) (W':=W.alloc (.cells #[T 84] 23)) (kt Z cA ms (by rw[e];rfl)) ⟨⟨W.heap.size,b,Z,H,j6 d1 C,by rw[e];exact heap_alloc_new _ _⟩,d1⟩
   refine StepsR.cons trivial (fun T W z=>?_) ?_
   ·have e:T 82=.slice AX p cX:=z.fact 0 82 (by kernel_rfl);obtain⟨b,d,e2,c9,G,C⟩:∃b d,T 85=.slice (some ⟨b,0,none⟩) 1 1/\wB.heap.size<=d/\W.heap[d]? =some (.cells #[.int .i64 (i:Nat)] 3 (0,0))/\W.heap[b]? =some (.cells #[.slice (some ⟨d,0,none⟩) 1 1] 23 (0,0)):=z.fact 3 85 (by kernel_rfl);obtain⟨f2,u4⟩:=z.ini (by kernel_rfl);have a4:=z.size;have d1:=z.below;obtain⟨_,_,i1,_⟩:=f5 C;obtain⟨v',W',E,ho,b3,-,e1⟩:=p5 (n:=p) (m:=1) (c:=1) (A:=some ⟨b,0,none⟩) (news:=[.slice (some ⟨d,0,none⟩) 1 1]) f2 (fun e=>by cases e) (fun b O j x hj=>by
     injection O with O
     subst O;cases j with
     |zero=>simp at hj;subst hj;exact i1
     |succ j=>simp at hj) Z (fun u hu=>by rw[OG.1 hu];exact⟨Z,Z⟩) (by omega) a4 u4
    have h7:=(O3.1 G).1;refine aB (v:=v') (W':=W') (lh Z e e2 E) ⟨⟨d,c9,(eC b3 h7 (Cf f2 G (by decide))).trans G,ho,e1⟩,(Below.refl _ _).grown b3 a4 (fun k e=>(f2.lt k e).1),b3.size⟩
   refine StepsR.cons trivial (fun T W z=>?_) ?_
   ·have e:T 3=.slice J L.length D:=(z.old 9 3 (by kernel_rfl)).trans q7;exact aB (v:=.slice J L.length D) (W':=W) (by simp[execOp,dm,e]) ⟨Z,Below.refl _ _⟩
   refine StepsR.cons trivial (fun T W z=>?_) ?_
   ·have e:T 7=.int .i64 (p:Nat):=(z.keep 7 Z).trans r4;exact aB (v:=.int .i64 (p:Nat)) (W':=W) (by simp[execOp,dm,e]) ⟨Z,Below.refl _ _⟩
   refine StepsR.cons trivial (fun T W z=>?_) ?_
   ·have e:T 87=.slice J L.length D:=z.fact 5 87 (by kernel_rfl);have e2:T 88=.int .i64 (p:Nat):=z.fact 6 88 (by kernel_rfl);have hr:=jM (P:=Tryz.prog) (w:=W) (A:=J) (n:=L.length) (c:=D) (l:=p) (h:=L.length) cA (some (.int .i64 (p:Nat))) none (.inr ⟨_,Z⟩) (.inl ⟨Z,Z⟩) (by omega) (Oh _) l5;exact aB (v:=.slice (nZ J p D) (L.length-p) (D-p)) (W':=W) (by simp[execOp,dm,e,e2,hr,nZ]) ⟨Z,Below.refl _ _⟩
   refine StepsR.cons trivial (fun T W z=>?_) ?_
   ·obtain⟨d,c9,G,ho,v3⟩:PcR wB.heap.size i (p+1) (fun u=>vs.take p++[u]) (T 86) W:=z.fact 4 86 (by kernel_rfl);have e:T 89=.slice (nZ J p D) (L.length-p) (D-p):=z.fact 7 89 (by kernel_rfl);have a4:=z.size;have d1:=z.below;obtain⟨-,a1,b2⟩:=tX (l:=p) (h:=L.length) (k3 W d1) (by omega) (Oh _);rw[Oy (by omega)]at b2;have ones:=b1.nest.ones;obtain⟨v',W',E,i3,b3,-,e1⟩:=p5 (n:=p+1) (m:=L.length-p) (c:=D-p) (A:=nZ J p D) (news:=vs.drop p) ho a1 b2 (by simp;omega) (fun u hu=>ones u (Pq hu)) (by omega) a4 v3;have h7:=(O3.1 G).1;rw[show p+1+(L.length-p)=L.length+1 by omega]at i3;refine aB (v:=v') (W':=W') (lh Z Z e E) ⟨⟨d,c9,(eC b3 h7 (Cf ho G (by decide))).trans G,i3,e1⟩,(Below.refl _ _).grown b3 a4 (fun k e=>(ho.lt k e).1),b3.size⟩
   refine StepsR.cons trivial (fun T W z=>?_) ?_
   ·have f:PcR wB.heap.size i (L.length+1) (fun u=>vs.take p++[u]++vs.drop p) (T 90) W:=z.fact 8 90 (by kernel_rfl);exact aB (v:=T 90) (W':=W) (by simp[execOp,dm]) ⟨f,Below.refl _ _⟩
   exact StepsR.nil
  intro us W l4 hF u8 v8;have f9:PcR wB.heap.size i (L.length+1) (fun u=>vs.take p++[u]++vs.drop p) (us.getD 9 undef) W:=hF 9 (by decide) Z;clear hF;have f0:=c5.trans u8;have k1:=(dn [some 82,some 83,some 84,some 85,some 86,some 87,some 88,some 89,some 90,some 3] us a.tmps 9 3 (by rw[hn];rfl) l4 Z).1;obtain⟨v9,p4⟩:∃v,us.getD 9 undef=v:=⟨_,rfl⟩;rw[p4]at f9 k1;obtain⟨d,c9,G,l2,s2⟩:=f9;obtain⟨A2,c2,rfl⟩:=bX l2;have hu:EIs W wB.heap.size (.slice (some ⟨d,0,none⟩) 1 1) [i]:=so G c9;obtain⟨a9,h6⟩:=b1.newL f0 hu l2 s2 (by omega);refine⟨W,_,⟨92,[(1,.ref (a7 r)),(3,.sc (.slice A2 (L.length+1) c2)),(4,bT (eD r.sch.cols)),(5,nI i)],[],[]⟩,?_,Sim.mk a9.env a9.okw (by rw[gI];exact hn) e5 (SlotL.look (l:=[(1,.ref (a7 r)),(3,.sc (.slice A2 (L.length+1) c2)),(4,bT (eD r.sch.cols)),(5,nI i)]) ⟨?_,mq k1,mq ((fH _ us _ 4 Z).trans q9),mq ((fH _ us _ 5 Z).trans l9),trivial⟩)⟩
  ·show BWP _ _ _ _ _
   refine BWP.of<|ae<|aa 1 Z<|ag (t:=nI (i+1)) Z Z Z (ah (ai Z Z Z Zy) (bp (by omega)))<|aa 1 Z<|af<|⟨r.tups.length-(i+1),by omega,i+1,_,(K.insertIdx p (aJ r.sch t.vals)),A2,c2,_,_,by omega,Z,?_,ln (by simp<;>omega) Z a9,Z,Z,rH (by simp<;>omega),Z,Z⟩;rw[ik a2 d2];unfold iI;rw[if_neg e7];simp only;rw[if_neg (c:=((K[bF K (aJ r.sch t.vals)]?).any fun x=>bg x (aJ r.sch t.vals)==0)=true) (by rw[hf];exact Pd),hp,kQ L _ (by omega)]
  show FT _ [(cM a.tmps ([some 82,some 83,some 84,some 85,some 86,some 87,some 88,some 89,some 90,some 3].zip us)).getD 1 undef] _
  rw[fH _ us _ 1 Z,r3];exact FT.gg (i5.mono f0.size h6)
 obtain rfl:i=r.tups.length:=by have:=of_decide_eq_false hc;omega
 rw[Pl]at a2;have q5:L=bf r:=by
  unfold bf;rw[if_neg (by rw[a5];exact Pd),a2]
 refine m9 fun a w q=>⟨w0,G0,⟨92,[(3,.sl ((bf r).map jo))],[],[]⟩,?_,m8 ?_⟩
 ·obtain⟨-,-,H,-⟩:=q.facts;have B:=o.later H;refine q.back o.e0 o.ok0 B.below ⟨?_,trivial⟩;show FT _ [a.tmps.getD 3 undef] _
  rw[q.lit (v:=.slice J L.length D) Z,<-q5];exact FT.gg (B.nest.pt fun g z h2=>by have:=(o.nest.ok g z).1;have:=(o.ok0 g h2).1;omega)
 refine⟨Z,Z,?_⟩;show AWP _ _ _ _ _
 refine ab<|aj 2 Z<|ax<|⟨.inr Z,_,.cons Z .nil,Z,Z⟩
end Go.Proofs.YtfoejfohbkmmeaaGreatDoor
