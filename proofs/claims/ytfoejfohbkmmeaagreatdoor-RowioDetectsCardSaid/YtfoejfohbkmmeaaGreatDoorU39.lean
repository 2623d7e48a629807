import Derived.Test.YtfoejfohbkmmeaaGreatDoorU38
import Derived.Test.YtfoejfohbkmmeaaGreatDoorU08
import Derived.Test.YtfoejfohbkmmeaaGreatDoorU00
set_option maxRecDepth 100000
set_option maxHeartbeats 4000000
namespace Go.Proofs.YtfoejfohbkmmeaaGreatDoor
open Go.RowKit
open Lib renaming hid→J
structure RgI (w0:World) (G0:Nat->Prop) (r:Rel) (m:Nat) (w1:World) (G1:Nat->Prop) (S:St) (i:Nat) (L:List (List Nat)) (K:List (List V)) (AO:Option Addr) (cO:Nat) (vs:List Value) (sl:List (Nat×Tree)):Prop where
 hi:i<=r.tups.length
 hm:m=r.tups.length-i
 st:dh r.sch ([],[]) 0 (r.tups.take i)=(K,L)
 side:Side w0 G0 w1 G1 (.slice AO L.length cO) vs L (.slice none 0 0) [] []
 hS:S=⟨92,sl,[],[]⟩
 s1:look sl 1=.ref (aT r)
 s3:look sl 3=.sc (.slice AO L.length cO)
 s4:look sl 4=.sc (.bool (dL r.sch.cols))
 s5:look sl 5=.sc (.int .i64 (i:Nat))
def LI(w0:World)(G0:Nat->Prop)(r:Rel)(m:Nat)(w1:World)(G1:Nat->Prop)(S:St):Prop:=∃i L K AO cO vs sl,RgI w0 G0 r m w1 G1 S i L K AO cO vs sl
def L0(r:Rel)(vO:Value)(i p:Nat)(f:Bool)(S:St):Prop:=∃sl,S=⟨92,sl,[],[]⟩/\look sl 1=.ref (aT r)/\look sl 3=.sc vO/\look sl 4=.sc (.bool (dL r.sch.cols))/\look sl 5=.sc (.int .i64 (i:Nat))/\look sl 7=.sc (.int .i64 (p:Nat))/\look sl 8=.sc (.bool f)
theorem AA(r:Rel)(h:FitR r)(g1:∀t∈r.tups,t.vals.length=r.sch.cols.length):Ct 95 [r.tree] (.sl ((aP r).map iQ)):=by
 refine Ct.of (n:=92) Tryz.func95 Z Z Z Z Z fun w0 G0=>?_
 refine ab<|ae<|aa 1 Z<|af (t:=.sl []) Z Z Z (cW (.inr Z) dI)<|ag<|ab<|aj 1 Z<|ab<|ab<|aj 3 Z<|aH Z (fun a1=>?_) (fun a1=>?_)
 ·have a5:=a1;refine ab<|ae<|af (t:=.sl []) Z Z Z (cW (.inr Z) dI)<|ag<|aC<|⟨.inr Z,_,.cons Z .nil,by unfold aP;rw[a5];rfl,Z⟩
 have a5:=a1;refine ax<|ab<|ae<|aa 2 Z<|af Z Z Z (ar Z (Aw r.sch h.cols) Z Z)<|aa 1 Z<|ag<|ab<|ab<|aj 1 Z<|aE<|Bv<|l8 fun a w q=>?_
 obtain⟨i2,m4,r3,h7,i4⟩:=q.unbox (ty:=30) (l:=[(1,.ref (aT r)),(3,.sc (.slice none 0 0)),(4,bT (dL r.sch.cols)),(5,nI 0)]) rfl rfl rfl ⟨.inr ⟨0,rfl,rfl⟩,.inl ⟨rfl,rfl⟩,.inl ⟨rfl,rfl⟩,.inl ⟨rfl,rfl⟩,trivial⟩;refine⟨w,G0,_,i2,?_⟩;clear q i2;refine wY (LI w0 G0 r) r.tups.length ⟨0,[],[],none,0,[],_,Mx _,Z,Z,⟨Nest.nil _ _,KeyR.nil _ _ _,fun b O=>(by cases O),fun b=>⟨.inl,fun h=>h.elim id fun h=>h.elim (fun h=>h.elim (fun h=>by cases h) fun⟨u,hu,_⟩=>by cases hu) fun h=>by cases h⟩,m4,r3,h7⟩,Z,Z,Z,Z,Z⟩ ?_;clear m4 i4 a w;rintro m w1 G1 S ⟨i,L,K,J,D,vs,sl,hi,rfl,b3,o,rfl,s1,s3,s4,s5⟩;obtain⟨v6,v0,r2,u8,-⟩:=uE b3 hi g1;have v3:=h.tups;refine oo [(1,.ref (aT r)),(3,.sc (.slice J L.length D)),(4,bT (dL r.sch.cols)),(5,nI i)] (.cons s1 Z (.cons s3 Z (.cons s4 Z (.cons s5 Z .nil))))<|cP (cP (BWP.of ?_));refine ae<|aa 3 Z<|af (t:=nI r.tups.length) Z Z Z (ah (bd Z aK Z) (by simp only[L8]))<|af (t:=bT (decide (i<r.tups.length))) Z Z Z (ah (ai Z Z Z Zy) (av (iu i r.tups.length)))<|ag ?_;show BWP _ _ w1 G1 _
 refine ko (b:=decide (i<r.tups.length)) Z (fun hc=>?_) (fun hc=>?_)
 ·replace hc:=of_decide_eq_true hc;obtain⟨t,c6⟩:∃t,r.tups[i]? =some t:=⟨_,L4 hc⟩;have e9:=L9 c6;have q0:=h.tup t e9;refine km ?_;show BWP _ _ w1 G1 _
  refine cP (t6 ?_);refine cP (cP (BWP.of ?_));refine ae<|aa 1 Z<|af (t:=bT (!(dL r.sch.cols))) Z Z Z (ef Z Z Zy)<|ag ?_;show BWP _ _ w1 G1 _
  refine ko (b:= !(dL r.sch.cols)) Z (fun hk=>?_) (fun hk=>?_)
  ·have q7:(aG r.sch t.vals)=[]:=(s8 (g1 t e9)).2 (by simpa using hk);refine cP (fl ?_);refine b9 (t:=.sc (.slice J L.length D)) Z Z Z (aw Z Z)<|b9 (t:=nI i) Z Z Z (aw Z Z)<|k8 Z Z Z Z cz ig (fun a w q=>by rw[q.lit (v:=.int .i64 (i:Nat)) Z];exact⟨Z,Z⟩) fun a w q=>?_
   rw[q.lit (v:=.int .i64 (i:Nat)) Z];obtain⟨-,-,H,-⟩:=q.facts;obtain⟨wa,I⟩:∃wa,w.alloc (.cells #[.int .i64 (i:Nat)] 3)=wa:=⟨_,rfl⟩;have e7:Below w1.heap.size w1 wa:=by rw[<-I];exact H.alloc H.size _
   have M:wa.heap[w.heap.size]? =some (.cells #[.int .i64 (i:Nat)] 3 (0,0)):=by rw[<-I];exact heap_alloc_new _ _
   have d3:=H.size;have b5:wa.heap.size=w.heap.size+1:=by rw[<-I];simp
   rw[I];obtain⟨R,a2⟩:∃R,w.heap.size=R:=⟨_,rfl⟩;rw[a2]at M d3 b5;rw[a2];clear q H I a2 a w;refine fK Z Z Z Z cf lx (fun a w q=>by rw[q.lit (v:=.slice (some ⟨R,0,none⟩) 1 1) Z];rfl) fun a w q=>?_
   rw[q.lit (v:=.slice (some ⟨R,0,none⟩) 1 1) Z];obtain⟨-,-,C,-⟩:=q.facts;obtain⟨wb,c9⟩:∃wb,w.alloc (.cells #[.slice (some ⟨R,0,none⟩) 1 1] 23)=wb:=⟨_,rfl⟩;have g3:Below wa.heap.size wa wb:=by rw[<-c9];exact C.alloc C.size _
   have e6:wb.heap[w.heap.size]? =some (.cells #[.slice (some ⟨R,0,none⟩) 1 1] 23 (0,0)):=by rw[<-c9];exact heap_alloc_new _ _
   have k0:=C.size;have k1:wb.heap.size=w.heap.size+1:=by rw[<-c9];simp
   rw[c9];obtain⟨bB,f6⟩:∃bB,w.heap.size=bB:=⟨_,rfl⟩;rw[f6]at e6 k0 k1;rw[f6];clear q C c9 f6 a w;refine fv Z fun a w q=>?_
   obtain⟨i4,v4,N,-⟩:=q.facts;have U:Below w1.heap.size w1 w:=ak (ak e7 g3 e7.size) N (L6 e7.size g3.size);have Y:w.heap[R]? =some (.cells #[.int .i64 (i:Nat)] 3 (0,0)):=by rw[N.block R (by omega),g3.block R (by omega)];exact M
   have h3:w.heap[bB]? =some (.cells #[.slice (some ⟨R,0,none⟩) 1 1] 23 (0,0)):=by rw[N.block bB (by omega)];exact e6
   obtain⟨_,_,f4,_⟩:=fB h3;have u3:=o.nest.len;have B:=o.later U;have hu:EIs w w0.heap.size (.slice (some ⟨R,0,none⟩) 1 1) [i]:=rc Y (by have:=o.below.size;omega);obtain⟨v',w',E,l5,i5,q8,d2⟩:=o6 (n:=L.length) (m:=1) (c:=1) (A:=some ⟨bB,0,none⟩) (news:=[.slice (some ⟨R,0,none⟩) 1 1]) B.nest.row (fun e=>by cases e) (fun b O j x hj=>by
    injection O with O
    subst O;cases j with
    |zero=>simp at hj;subst hj;exact f4
    |succ j=>simp at hj) Z (fun u hu=>by rw[Ml.1 hu];exact⟨Z,Z⟩) (by omega) (by have:=o.below.size;have:=U.size;omega) B.nest.rd
   have j3:w'.ownsRow w0.heap.size 23 1 v' (L.length+1) (vs.take L.length++[.slice (some ⟨R,0,none⟩) 1 1]++vs.drop L.length):=by rw[Me (by omega),Mg (by omega),MA];exact l5
   obtain⟨a9,f1⟩:=o.insL U hu (fun g z=>by have F:some R=some g:=z;injection F with F;omega) j3 i5 q8 d2 (L5 _);obtain⟨A2,c2,rfl⟩:=cc l5;refine aq (v:=.slice A2 (L.length+1) c2) (W':=w') (kq (T:=fun s=>a.tmps.getD s undef) rfl (q.lit rfl) (q.lit rfl) E) ⟨w',_,_,fJ (q.turn a9.env a9.okw i5.size fun b p4 hG=>f1 b p4 fun h=>hG (h.imp id fun e=>by injection e with e;exact e.symm)) (by decide) (.pure (.sc _ .nil) .nil),?_⟩;refine b9 (t:=.sc (.slice A2 (L.length+1) c2)) Z Z Z (bW Z Z)<|gL ?_;show BWP _ _ _ _ _
   refine l7 ?_;show BWP _ _ _ _ _
   refine BWP.of<|ae<|aa 1 Z<|af (t:=nI (i+1)) Z Z Z (ah (ai Z Z Z Zy) (bu (by omega)))<|aa 1 Z<|ag<|⟨r.tups.length-(i+1),by omega,i+1,_,(K++[(aG r.sch t.vals)]),A2,c2,_,_,by omega,Z,?_,kJ (by simp<;>omega) Z a9,Z,Z,qp (by simp<;>omega),Z,Z⟩;rw[gC b3 c6];unfold gV;rw[if_pos q7,Me (L5 _),Mg (L5 _),MA]
  have d4:∀t∈r.tups,aG r.sch t.vals≠ []:=fun t ht e=>by
   rw[(s8 (g1 t ht)).1 e]at hk;cases hk
  have e4:=d4 t e9;have t0:(aG r.sch t.vals).length<=65536:=L6 (ie _ _) h.cols;refine km ?_;show BWP _ _ w1 G1 _
  refine cP (BWP.of ?_);refine ci (fu:=10) [some 31,some 32,some 33,some 34,some 35,some 36,some 37,some 38,some 39,some 6] [.ref (aT r),.agg (dq r.sch),.ref [.sl (r.tups.map Tp.tree)],.sl (r.tups.map Tp.tree),nI i,.ref (bS t),.ref (bS t),.sl (t.vals.map V.tree),.sl ((aG r.sch t.vals).map V.tree),.sl ((aG r.sch t.vals).map V.tree)] (by kernel_rfl) Z Z (by kernel_rfl) Z ?_ ?_
  ·refine Chain.op Z (bw Z Z dZ Z)<|Chain.op Z (cU Z Z eR Z Z)<|Chain.op Z (bw Z Z aV Z)<|Chain.op Z (bE Z Z bp Z)<|Chain.op Z (aw Z Z)<|Chain.op Z (aQ (Tp.tree t) Z aK Z Z Z (bf (f:=Tp.tree) c6) (bQ _) Z)<|Chain.op Z (bw Z Z b6 Z)<|Chain.op Z (bE Z Z cC Z)<|Chain.op Z (ar Z (Cf r.sch t.vals q0.2) Z Z)<|Chain.op Z (bW Z Z)<|Chain.nil
  show BWP _ _ w1 G1 _
  refine cP (BWP.of ?_);refine aj 2 Z ?_;show BWP _ _ w1 G1 _
  refine Fq (L0 r (.slice J L.length D) i (bk K (aG r.sch t.vals)) ((K[bk K (aG r.sch t.vals)]?).any fun x=>aO x (aG r.sch t.vals)==0)) ?_ fun S hS=>?_
  ·refine aE<|aW (fun n_ S_=>∃(j:Nat) (f:Bool),(f=false/\j<=L.length/\∀x y,x<j->K[x]? =some y->aO y (aG r.sch t.vals)<0)/\n_=L.length-j/\S_=⟨92,[(1,.ref (aT r)),(3,.sc (.slice J L.length D)),(4,bT (dL r.sch.cols)),(5,nI i),(6,.sl ((aG r.sch t.vals).map V.tree)),(7,nI j),(8,bT f)],[],[]⟩) 0 0 ⟨0,false,⟨Z,Mx _,fun x y hx=>absurd hx (Px x)⟩,Z,Z⟩ ⟨Z,Z,Z,.cons Z Z (.cons Z Z (.cons Z Z (.cons Z Z (.cons Z Z (.cons Z Z (.cons Z Z .nil)))))),Z⟩ ?_;rintro n_ S_ ⟨j,f,⟨n1,hj,c5⟩,rfl,rfl⟩;refine ab<|ab<|ae<|aa 2 Z<|af (t:=nI L.length) Z Z Z (wZ Z cf Z)<|af (t:=bT (decide (j<L.length))) Z Z Z (ah (ai Z Z Z Zy) (av (iu j L.length)))<|ag<|aF Z (fun b0=>?_) (fun b0=>?_)
   ·obtain⟨g,rfl⟩:∃g,J=some ⟨g,0,none⟩:=by
     rcases o.nest.row.2 with⟨_,hn⟩|⟨g,f3,cur,hv,_⟩
     ·omega
     injection hv with h1;exact⟨g,h1⟩
    have k5:=o.nest.len;obtain⟨u,X⟩:∃u,vs[j]? =some u:=⟨_,L4 (by omega)⟩;obtain⟨l,a4⟩:∃l,L[j]? =some l:=⟨_,L4 (by omega)⟩;obtain⟨h0,tl,t2,hl,i1,f8⟩:=FV b3 d4 a4;have l2:=h.tup t2 (L9 i1);have c0:=o.nest.el _ u l X a4;obtain⟨gu,cu,rfl⟩:∃gu cu,u=.slice (some ⟨gu,0,none⟩) l.length cu:=by
     rcases c0.1.2 with⟨_,hn⟩|⟨g2,f3,cur,hv,_⟩
     ·rw[hl]at hn;simp at hn
     exact⟨g2,f3,hv⟩
    have q2:w1.cell? ⟨gu,0,none⟩=some (.int .i64 (h0:Nat)):=by
     have:=World.ownsRow.cells c0.1 (g:=gu) Z 0 (.int .i64 (h0:Nat)) (by rw[hl];rfl);rwa[m5]at this
    have f2:w1.cell? ⟨g,j,none⟩=some (.slice (some ⟨gu,0,none⟩) l.length cu):=by
     have:=World.ownsRow.cells o.nest.row (g:=g) Z _ _ X;rwa[m5]at this
    refine ax<|aE<|ab<|Ah (fu:=17) [some 44,some 45,some 46,some 47,some 48,some 49,some 50,some 51,some 52,some 53,some 54,some 55,some 56,some 57,some 58,some 59,some 9] [.ref (aT r),.agg (dq r.sch),.ref [.sl (r.tups.map Tp.tree)],.sl (r.tups.map Tp.tree),.sc (.slice (some ⟨g,0,none⟩) L.length D),nI j,.sc (.pointer (some ⟨g,j,none⟩)),.sc (.slice (some ⟨gu,0,none⟩) l.length cu),.sc (.pointer (some ⟨gu,0,none⟩)),nI h0,.ref (bS t2),.ref (bS t2),.sl (t2.vals.map V.tree),.sl ((aG r.sch t2.vals).map V.tree),.sl ((aG r.sch t.vals).map V.tree),iT (aO (aG r.sch t2.vals) (aG r.sch t.vals)),iT (aO (aG r.sch t2.vals) (aG r.sch t.vals))] (by kernel_rfl) Z Z (by kernel_rfl) Z ?_ ?_
    ·refine de (t:=.ref (aT r)) Z (bw Z Z dZ Z)<|de (t:=.agg (dq r.sch)) Z (cU Z Z eR Z Z)<|de (t:=.ref [.sl (r.tups.map Tp.tree)]) Z (bw Z Z aV Z)<|de (t:=.sl (r.tups.map Tp.tree)) Z (bE Z Z bp Z)<|de (t:=.sc (.slice (some ⟨g,0,none⟩) L.length D)) Z (aw Z Z)<|de (t:=nI j) Z (aw Z Z)<|de (t:=.sc (.pointer (some ⟨g,j,none⟩))) Z (kp (j:=j) Z cf Z Z Z (by omega) (by simp))<|ChainB.op (t:=.sc (.slice (some ⟨gu,0,none⟩) l.length cu)) Z (xU Z Z lw (o.nest.ok g (.inl Z)).2.1 f2)<|de (t:=.sc (.pointer (some ⟨gu,0,none⟩))) Z (kp (j:=0) Z cz Z Z Z (by rw[hl];exact PB _) Z)<|ChainB.op (t:=nI h0) Z (xU Z Z fe (c0.1.lt gu Z).2 q2)<|de (t:=.ref (bS t2)) Z (aQ (Tp.tree t2) Z aK Z Z Z (bf (f:=Tp.tree) i1) (bQ _) Z)<|de (t:=.ref (bS t2)) Z (bw Z Z b6 Z)<|de (t:=.sl (t2.vals.map V.tree)) Z (bE Z Z cC Z)<|de (t:=.sl ((aG r.sch t2.vals).map V.tree)) Z (ar Z (Cf r.sch t2.vals l2.2) Z Z)<|de (t:=.sl ((aG r.sch t.vals).map V.tree)) Z (aw Z Z)<|de (t:=iT (aO (aG r.sch t2.vals) (aG r.sch t.vals))) Z (ar Z (ly _ _ (L6 (ie _ _) h.cols) t0) Z Z)<|de (t:=iT (aO (aG r.sch t2.vals) (aG r.sch t.vals))) Z (bW Z Z)<|ChainB.nil
    refine ab<|ae<|aa 1 Z<|af (t:=bT ((aO (aG r.sch t2.vals) (aG r.sch t.vals))==0)) Z Z Z (ai Z Z Z Zy)<|aa 1 Z<|ag<|ab<|ab<|ae<|aa 1 Z<|af (t:=bT (decide ((aO (aG r.sch t2.vals) (aG r.sch t.vals))≥0))) Z Z Z (ai Z Z Z Zy)<|ag<|aF Z (fun p3=>?_) (fun p3=>?_)
    ·refine aZ ?_;have c7:bk K (aG r.sch t.vals)=j:=s9 (by omega) c5 fun y hy=>by
      rw[f8]at hy;injection hy with hy
      subst hy;omega
     exact⟨Z,_,Z,Z,Z,Z,Z,by rw[c7];rfl,by rw[c7,f8];rfl⟩
    refine ax<|ae<|aa 1 Z<|af (t:=nI (j+1)) Z Z Z (ah (ai Z Z Z Zy) (bu (by omega)))<|aa 1 Z<|ag<|⟨_,_,?_,⟨j+1,(aO (aG r.sch t2.vals) (aG r.sch t.vals))==0,?_,Z,Z⟩,⟨Z,Z,Z,.cons Z Z (.cons Z Z (.cons Z Z (.cons Z Z (.cons Z Z (.cons Z Z (.cons Z Z .nil)))))),Z⟩⟩
    ·omega
    refine⟨by rw[beq_eq_false_iff_ne];omega,by omega,fun x y hx hy=>?_⟩;by_cases r0:x<j
    ·exact c5 x y r0 hy
    obtain rfl:x=j:=by omega
    rw[f8]at hy;injection hy with hy
    subst hy;omega
   refine aZ ?_;obtain rfl:j=L.length:=by omega
   have c7:bk K (aG r.sch t.vals)=L.length:=s9 (by omega) c5 fun y hy=>by
    rw[Nq (by omega)]at hy;cases hy
   exact⟨Z,_,Z,Z,Z,Z,Z,by rw[c7];rfl,by rw[n1,c7,Nq (by omega)];rfl⟩
  obtain⟨sl,rfl,t1,t3,t4,t5,t7,t8⟩:=hS;refine oo [(1,.ref (aT r)),(3,.sc (.slice J L.length D)),(4,bT (dL r.sch.cols)),(5,nI i),(7,nI (bk K (aG r.sch t.vals))),(8,bT ((K[bk K (aG r.sch t.vals)]?).any fun x=>aO x (aG r.sch t.vals)==0))] (.cons t1 Z (.cons t3 Z (.cons t4 Z (.cons t5 Z (.cons t7 Z (.cons t8 Z .nil))))))<|cP (cP (BWP.of ?_));refine aj 1 Z ?_;show BWP _ _ w1 G1 _
  refine ko (b:=((K[bk K (aG r.sch t.vals)]?).any fun x=>aO x (aG r.sch t.vals)==0)) Z (fun hf=>?_) (fun hf=>?_)
  ·have u1:bk K (aG r.sch t.vals)<K.length:=by
    rcases MI (bk K (aG r.sch t.vals)) K.length with h|h
    ·exact h
    rw[Nq h]at hf;cases hf
   obtain⟨g,rfl⟩:∃g,J=some ⟨g,0,none⟩:=by
    rcases o.nest.row.2 with⟨_,hn⟩|⟨g,f3,cur,hv,_⟩
    ·omega
    injection hv with h1;exact⟨g,h1⟩
   have k5:=o.nest.len;obtain⟨u,X⟩:∃u,vs[bk K (aG r.sch t.vals)]? =some u:=⟨_,L4 (by omega)⟩;obtain⟨l,a4⟩:∃l,L[bk K (aG r.sch t.vals)]? =some l:=⟨_,L4 (by omega)⟩;have v7:=r2 l (L9 a4);refine cP (fl ?_);refine b9 (t:=.sc (.slice (some ⟨g,0,none⟩) L.length D)) Z Z Z (aw Z Z)<|b9 (t:=nI (bk K (aG r.sch t.vals))) Z Z Z (aw Z Z)<|b9 (t:=.sc (.slice (some ⟨g,0,none⟩) L.length D)) Z Z Z (aw Z Z)<|b9 (t:=nI (bk K (aG r.sch t.vals))) Z Z Z (aw Z Z)<|b9 (t:=.sc (.pointer (some ⟨g,bk K (aG r.sch t.vals),none⟩))) Z Z Z (kp (j:=bk K (aG r.sch t.vals)) Z cf Z Z Z (by omega) (by simp))<|rO (u:=u) Z Z Z Z Z lw (o.nest.ok g (.inl Z)).2.1 ?_ ?_
   ·have:=World.ownsRow.cells o.nest.row (g:=g) Z _ _ X;rwa[m5]at this
   refine b9 (t:=nI i) Z Z Z (aw Z Z)<|fK Z Z Z Z cz ig (fun a w q=>by rw[q.lit (v:=.int .i64 (i:Nat)) Z];rfl) fun a w q=>?_
   rw[q.lit (v:=.int .i64 (i:Nat)) Z];obtain⟨-,-,H,-⟩:=q.facts;have M:(w.alloc (.cells #[.int .i64 (i:Nat)] 3)).heap[w.heap.size]? =some (.cells #[.int .i64 (i:Nat)] 3 (0,0)):=heap_alloc_new _ _;have l1:=(o.later H).later ((Below.refl w.heap.size w).alloc (L5 _) (.cells #[.int .i64 (i:Nat)] 3));have d3:=H.size;have b5:(w.alloc (.cells #[.int .i64 (i:Nat)] 3)).heap.size=w.heap.size+1:=by simp
   obtain⟨wa,I⟩:∃wa,w.alloc (.cells #[.int .i64 (i:Nat)] 3)=wa:=⟨_,rfl⟩;rw[I]at M l1 b5;rw[I];obtain⟨R,a2⟩:∃R,w.heap.size=R:=⟨_,rfl⟩;rw[a2]at M d3 b5;rw[a2];clear q H I a2 a w;refine fv Z fun a w q=>?_
   obtain⟨-,-,C,-⟩:=q.facts;have B:=l1.later C;have c0:=B.nest.el _ u l X a4;have Y:w.heap[R]? =some (.cells #[.int .i64 (i:Nat)] 3 (0,0)):=by rw[C.block R (by omega)];exact M
   obtain⟨_,_,r6,_⟩:=fB Y;obtain⟨i0,s2,r5,p5,q6⟩:=info_parts xW;obtain⟨u2,w2,E,c1,F,m3,G⟩:=mz (P:=Tryz.prog) w w0.heap.size 23 23 3 i0 (.int .i64 0) 1 8 Tryz.underlying23 s2 r5 p5 q6 rfl (by decide) u l.length (mj l) c0.1 (some ⟨R,0,none⟩) 1 1 [.int .i64 (i:Nat)] rfl (fun e=>by cases e) (fun b O j x hj=>by
    injection O with O
    subst O;cases j with
    |zero=>simp at hj;subst hj;exact r6
    |succ j=>simp at hj) (fun x hx=>by rw[Ml.1 hx];rfl) (by unfold maxLen;omega) (by omega) (by have:=B.below.size;omega) (by decide) Z c0.2
   have Q:w2.ownsRow w0.heap.size 3 1 u2 (l.length+1) (mj (l++[i])):=by rw[show mj (l++[i])=mj l++[.int .i64 (i:Nat)] by simp[mj]];exact c1
   obtain⟨q9,o1,p7⟩:=B.app1 X F m3 G fun g z=>(c1.lt g z).2
   obtain⟨A2,c2,e1⟩:=cc c1;refine aq (v:=u2) (W':=w2) (kq (T:=fun s=>a.tmps.getD s undef) Z (q.lit Z) (q.lit Z) E) ⟨w2,_,_,fJ (q.turn o1 q9 F.size p7) (by decide) (.pure (.sc u2 .nil) .nil),?_⟩;clear q C M Y a;refine b9 (t:=.sc (.pointer (some ⟨g,bk K (aG r.sch t.vals),none⟩))) Z Z Z (kp (j:=bk K (aG r.sch t.vals)) Z cf Z Z Z (by omega) (by simp))<|fv Z fun a wb q=>?_
   obtain⟨-,-,N,-⟩:=q.facts;obtain⟨f7,u0⟩:=B.app2 X a4 rfl Q F m3 G (by rw[e1];rfl) N;have h8:=(B.nest.ok g (.inl Z)).2.1;have o2:wb.heap[g]? =w.heap[g]? :=by
    have h1:w2.heap[g]? =w.heap[g]? :=dV F h8 fun e=>B.nest.out u (L9 X) g e Z
    rw[N.block g (Mp h8 F.size)];exact h1
   have e3:=gQ B.nest.row (w':=wb) fun b O=>by injection O with O;subst O;exact o2
   have f2:wb.cell? ⟨g,bk K (aG r.sch t.vals),none⟩=some u:=by
    have:=World.ownsRow.cells e3 (g:=g) Z _ _ X;rwa[m5]at this
   refine eY (W':=wb.setCell ⟨g,bk K (aG r.sch t.vals),none⟩ u2) (qa (T:=fun s=>a.tmps.getD s undef) Z (q.lit Z) (q.lit Z) sP (by rw[e1];rfl) f2 (dd e3 _)) ⟨_,_,_,q.turn f7.env f7.okw (by simp[World.setCell]) u0,?_⟩;refine gL ?_;show BWP _ _ _ _ _
   refine l7 ?_;show BWP _ _ _ _ _
   refine BWP.of<|ae<|aa 1 Z<|af (t:=nI (i+1)) Z Z Z (ah (ai Z Z Z Zy) (bu (by omega)))<|aa 1 Z<|ag<|⟨r.tups.length-(i+1),by omega,i+1,_,K,some ⟨g,0,none⟩,D,_,_,by omega,Z,?_,kJ (by simp) Z f7,Z,Z,qp (by simp),Z,Z⟩;rw[gC b3 c6];unfold gV;rw[if_neg e4];simp only;rw[if_pos (c:=((K[bk K (aG r.sch t.vals)]?).any fun x=>aO x (aG r.sch t.vals)==0)=true) hf,sO _ a4]
  refine km ?_;show BWP _ _ w1 G1 _
  have q4:=xV K (aG r.sch t.vals);obtain⟨p,hp⟩:∃p,bk K (aG r.sch t.vals)=p:=⟨_,rfl⟩;rw[hp]at q4⊢;refine l8 fun a wB q=>?_
  obtain⟨g4,p0,H,hn,d5,n0⟩:=q.facts;have b1:=o.later H;obtain⟨v1,f0⟩:∃v,a.tmps.getD 1 undef=v:=⟨_,rfl⟩;have l0:=q.slot (i:=1) (t:=.ref (aT r)) Z Z;rw[f0]at l0;refine⟨wB,fun _=>False,⟨92,[(1,.sc v1),(3,.sc (.slice J L.length D)),(4,bT (dL r.sch.cols)),(5,nI i),(7,nI p)],[],[]⟩,Sim.mk g4 (fun g z=>z.elim) hn d5 (SlotL.look (l:=[(1,.sc v1),(3,.sc (.slice J L.length D)),(4,bT (dL r.sch.cols)),(5,nI i),(7,nI p)]) ⟨lr f0,lr (q.lit (i:=3) Z),lr (q.lit (i:=4) Z),lr (q.lit (i:=5) Z),lr (q.lit (i:=7) Z),trivial⟩),?_⟩;clear f0 q n0 hn d5 a p0;obtain⟨k3,-⟩:=sN (l:=0) (h:=0) b1.nest.row (L5 _) (Mx _);refine cP (fl ?_);refine fv Z fun a w q=>?_
  obtain⟨-,-,C,-⟩:=q.facts;have a0:Below wB.heap.size wB (w.alloc (.cells #[] 23)):=C.alloc C.size _;have c3:(w.alloc (.cells #[] 23)).ownsRow wB.heap.size 23 1 (.slice (some ⟨w.heap.size,0,none⟩) 0 0) 0 []:=World.ownsRow_lit (base:=wB.heap.size) (e:=23) (size:=1) w #[] 0 C.size (by simp[maxLen]) (by simp);have d7:NoDigB (w.alloc (.cells #[] 23)) w.heap.size:=cI (heap_alloc_new _ _) Z;refine aq (v:=.slice (some ⟨w.heap.size,0,none⟩) 0 0) (W':=w.alloc (.cells #[] 23)) (by
   simp only[execOp,cA];go_simp) ⟨_,_,_,fJ (q.lits (g4.below a0 (L5 _)) Z) (by decide) (.pure (.sc _ .nil) .nil),?_⟩
  obtain⟨wa,I⟩:∃wa,w.alloc (.cells #[] 23)=wa:=⟨_,rfl⟩;rw[I]at a0 c3 d7;rw[I];obtain⟨bO,h4⟩:∃b,w.heap.size=b:=⟨_,rfl⟩;rw[h4]at c3 d7;rw[h4];clear q C I h4 a w;refine b9 (t:=.sc (.slice J L.length D)) Z Z Z (aw Z Z)<|b9 (t:=nI p) Z Z Z (aw Z Z)<|b9 (t:=.sc (.slice (m6 J 0 D) (p-0) (D-0))) Z Z Z (Da (l:=0) (h:=p) Z cf Z Z ⟨_,Z⟩ (Mx _) (by omega) k3)<|fv Z fun a w q=>?_
  obtain⟨-,-,N,-⟩:=q.facts;have U:=ak a0 N a0.size;have B:=b1.later U;have m9:=B.nest.len;obtain⟨-,a1,b0⟩:=sN (l:=0) (h:=p) B.nest.row (Mx _) (by omega);obtain⟨v2,w2,E,c1,F,-,G⟩:=o6 (n:=0) (m:=p-0) (c:=D-0) (A:=m6 J 0 D) (news:=(vs.take p).drop 0) (dz c3 N) a1 b0 (by simp;omega) (fun u hu=>B.nest.ones u (MC (M2 hu))) (by omega) U.size (fun g z=>by have F:some bO=some g:=z;injection F with F;subst F;exact d7.of (N.block _ (c3.lt _ rfl).2));have d6:Below wB.heap.size wB w2:=U.grown F U.size fun k e=>(c3.lt k e).1
  have Q:w2.ownsRow wB.heap.size 23 1 v2 p (vs.take p):=by simpa using c1
  obtain⟨AX,cX,rfl⟩:=cc Q;refine aq (v:=.slice AX p cX) (W':=w2) (kq (T:=fun s=>a.tmps.getD s undef) Z (q.lit Z) (q.lit Z) E) ⟨w2,_,_,fJ (q.lits (g4.below d6 (L5 _)) Z) (by decide) (.pure (.sc _ .nil) .nil),?_⟩;clear q a1 b0 E c1 F B U N c3 d7 a0 a w;refine b9 (t:=.sc (.slice AX p cX)) Z Z Z (bW Z Z)<|gL ?_;show BWP _ _ _ _ _
  intro a w q;obtain⟨-,-,d9,hn,d5,-⟩:=q.facts;have c4:=ak d6 d9 d6.size;have k4:=dz Q d9;have o3:∀g,(Value.slice AX p cX).ownBlock=some g->NoDigB w g:=fun g z=>(G g z).of (d9.block g (Q.lt g z).2)
  have s6:a.tmps.getD 1 undef=v1:=q.lit Z;have q3:a.tmps.getD 3 undef=.slice J L.length D:=q.lit Z;have p2:a.tmps.getD 4 undef=.bool (dL r.sch.cols):=q.lit Z;have h6:a.tmps.getD 5 undef=.int .i64 (i:Nat):=q.lit Z;have p1:a.tmps.getD 7 undef=.int .i64 (p:Nat):=q.lit Z;have i3:a.tmps.getD 10 undef=.slice AX p cX:=q.lit Z;have m9:=b1.nest.len;have h9:∀W,Below wB.heap.size w W->W.ownsRow w0.heap.size 23 1 (.slice J L.length D) L.length vs:=fun W hW=>gQ b1.nest.row fun b O=>(c4.trans hW).block b (b1.nest.ok b (.inl O)).2.1
  clear q d9 G d6 Q;refine qL [some 82,some 83,some 84,some 85,some 86,some 87,some 88,some 89,some 90,some 3] (Jt wB.heap.size p i L.length vs (.slice AX p cX) (.slice J L.length D) (.slice (m6 J p D) (L.length-p) (D-p))) [true,true,false,false,false,true,true,true,false,false] [none,none,some 3,some 4,some 8,none,none,none,none,none] [4,8] wB.heap.size (fun W=>W.ownsRow wB.heap.size 23 1 (.slice AX p cX) p (vs.take p)/\∀g,(Value.slice AX p cX).ownBlock=some g->NoDigB W g) 4 ⟨dz k4 (Below.refl _ _).drew,fun g z=>(o3 g z).of ((Below.refl w.heap.size w).drew.block g (k4.lt g z).2)⟩ (fun W W' h O=>⟨dz h.1 O,fun g z=>(h.2 g z).of (O.block g (h.1.lt g z).2)⟩) (by kernel_rfl) (by kernel_rfl) (by kernel_rfl) Z (by rw[hn];rfl) c4.size (fun W=>Dx _ _ _ _ _ _ _ _ W) (Dy _ _ _ _ _ _ _ _) (by kernel_rfl) ?_ ?_
  ·refine StepsR.cons trivial (fun T W z=>?_) ?_
   ·have e:T 10=.slice AX p cX:=(z.keep 10 Z).trans i3;exact aq (v:=.slice AX p cX) (W':=W) (by simp[execOp,cA,e]) ⟨Z,Below.refl _ _⟩
   refine StepsR.cons trivial (fun T W z=>?_) ?_
   ·have e:T 5=.int .i64 (i:Nat):=(z.keep 5 Z).trans h6;exact aq (v:=.int .i64 (i:Nat)) (W':=W) (by simp[execOp,cA,e]) ⟨Z,Below.refl _ _⟩
   refine StepsR.cons trivial (fun T W z=>?_) ?_
   ·have e:T 83=.int .i64 (i:Nat):=z.fact 1 83 (by kernel_rfl);have b2:=z.size;refine aq (v:=.slice (some ⟨W.heap.size,0,none⟩) 1 1) (W':=W.alloc (.cells #[T 83] 3)) (jQ Z cz ig (by rw[e];rfl)) ⟨⟨W.heap.size,Z,b2,by rw[e];exact heap_alloc_new _ _⟩,(Below.refl _ _).alloc (L5 _) _⟩
   refine StepsR.cons trivial (fun T W z=>?_) ?_
   ·obtain⟨b,e,H,C⟩:∃b,T 84=.slice (some ⟨b,0,none⟩) 1 1/\wB.heap.size<=b/\W.heap[b]? =some (.cells #[.int .i64 (i:Nat)] 3 (0,0)):=z.fact 2 84 (by kernel_rfl);have d1:Below W.heap.size W (W.alloc (.cells #[T 84] 23)):=(Below.refl _ _).alloc (L5 _) _;refine aq (v:=.slice (some ⟨W.heap.size,0,none⟩) 1 1) (W':=W.alloc (.cells #[T 84] 23)) (jQ Z cf lx (by rw[e];rfl)) ⟨⟨W.heap.size,b,Z,H,jC d1 C,by rw[e];exact heap_alloc_new _ _⟩,d1⟩
   refine StepsR.cons trivial (fun T W z=>?_) ?_
   ·have e:T 82=.slice AX p cX:=z.fact 0 82 (by kernel_rfl);obtain⟨b,d,e2,d0,G,C⟩:∃b d,T 85=.slice (some ⟨b,0,none⟩) 1 1/\wB.heap.size<=d/\W.heap[d]? =some (.cells #[.int .i64 (i:Nat)] 3 (0,0))/\W.heap[b]? =some (.cells #[.slice (some ⟨d,0,none⟩) 1 1] 23 (0,0)):=z.fact 3 85 (by kernel_rfl);obtain⟨h5,q1⟩:=z.ini (by kernel_rfl);have b2:=z.size;have d1:=z.below;obtain⟨_,_,f4,_⟩:=fB C;obtain⟨v',W',E,ho,a3,-,d2⟩:=o6 (n:=p) (m:=1) (c:=1) (A:=some ⟨b,0,none⟩) (news:=[.slice (some ⟨d,0,none⟩) 1 1]) h5 (fun e=>by cases e) (fun b O j x hj=>by
     injection O with O
     subst O;cases j with
     |zero=>simp at hj;subst hj;exact f4
     |succ j=>simp at hj) Z (fun u hu=>by rw[Ml.1 hu];exact⟨Z,Z⟩) (by omega) b2 q1
    have g0:=(ML.1 G).1;refine aq (v:=v') (W':=W') (kq Z e e2 E) ⟨⟨d,d0,(dV a3 g0 (Ai h5 G (by decide))).trans G,ho,d2⟩,(Below.refl _ _).grown a3 b2 (fun k e=>(h5.lt k e).1),a3.size⟩
   refine StepsR.cons trivial (fun T W z=>?_) ?_
   ·have e:T 3=.slice J L.length D:=(z.old 9 3 (by kernel_rfl)).trans q3;exact aq (v:=.slice J L.length D) (W':=W) (by simp[execOp,cA,e]) ⟨Z,Below.refl _ _⟩
   refine StepsR.cons trivial (fun T W z=>?_) ?_
   ·have e:T 7=.int .i64 (p:Nat):=(z.keep 7 Z).trans p1;exact aq (v:=.int .i64 (p:Nat)) (W':=W) (by simp[execOp,cA,e]) ⟨Z,Below.refl _ _⟩
   refine StepsR.cons trivial (fun T W z=>?_) ?_
   ·have e:T 87=.slice J L.length D:=z.fact 5 87 (by kernel_rfl);have e2:T 88=.int .i64 (p:Nat):=z.fact 6 88 (by kernel_rfl);have hr:=jo (P:=Tryz.prog) (w:=W) (A:=J) (n:=L.length) (c:=D) (l:=p) (h:=L.length) cf (some (.int .i64 (p:Nat))) none (.inr ⟨_,Z⟩) (.inl ⟨Z,Z⟩) (by omega) (L5 _) k3;exact aq (v:=.slice (m6 J p D) (L.length-p) (D-p)) (W':=W) (by simp[execOp,cA,e,e2,hr,m6]) ⟨Z,Below.refl _ _⟩
   refine StepsR.cons trivial (fun T W z=>?_) ?_
   ·obtain⟨d,d0,G,ho,r1⟩:PcR wB.heap.size i (p+1) (fun u=>vs.take p++[u]) (T 86) W:=z.fact 4 86 (by kernel_rfl);have e:T 89=.slice (m6 J p D) (L.length-p) (D-p):=z.fact 7 89 (by kernel_rfl);have b2:=z.size;have d1:=z.below;obtain⟨-,a1,b0⟩:=sN (l:=p) (h:=L.length) (h9 W d1) (by omega) (L5 _);rw[Me (by omega)]at b0;have ones:=b1.nest.ones;obtain⟨v',W',E,m1,a3,-,d2⟩:=o6 (n:=p+1) (m:=L.length-p) (c:=D-p) (A:=m6 J p D) (news:=vs.drop p) ho a1 b0 (by simp;omega) (fun u hu=>ones u (M2 hu)) (by omega) b2 r1;have g0:=(ML.1 G).1;rw[show p+1+(L.length-p)=L.length+1 by omega]at m1;refine aq (v:=v') (W':=W') (kq Z Z e E) ⟨⟨d,d0,(dV a3 g0 (Ai ho G (by decide))).trans G,m1,d2⟩,(Below.refl _ _).grown a3 b2 (fun k e=>(ho.lt k e).1),a3.size⟩
   refine StepsR.cons trivial (fun T W z=>?_) ?_
   ·have f:PcR wB.heap.size i (L.length+1) (fun u=>vs.take p++[u]++vs.drop p) (T 90) W:=z.fact 8 90 (by kernel_rfl);exact aq (v:=T 90) (W':=W) (by simp[execOp,cA]) ⟨f,Below.refl _ _⟩
   exact StepsR.nil
  intro us W k2 hF r4 v5;have f9:PcR wB.heap.size i (L.length+1) (fun u=>vs.take p++[u]++vs.drop p) (us.getD 9 undef) W:=hF 9 (by decide) Z;clear hF;have e5:=c4.trans r4;have m2:=(cl [some 82,some 83,some 84,some 85,some 86,some 87,some 88,some 89,some 90,some 3] us a.tmps 9 3 (by rw[hn];rfl) k2 Z).1;obtain⟨v9,q5⟩:∃v,us.getD 9 undef=v:=⟨_,rfl⟩;rw[q5]at f9 m2;obtain⟨d,d0,G,i9,t9⟩:=f9;obtain⟨A2,c2,rfl⟩:=cc i9;have hu:EIs W wB.heap.size (.slice (some ⟨d,0,none⟩) 1 1) [i]:=rc G d0;obtain⟨a9,f1⟩:=b1.newL e5 hu i9 t9 (by omega);refine⟨W,_,⟨92,[(1,.ref (aT r)),(3,.sc (.slice A2 (L.length+1) c2)),(4,bT (dL r.sch.cols)),(5,nI i)],[],[]⟩,?_,Sim.mk a9.env a9.okw (by rw[fy];exact hn) d5 (SlotL.look (l:=[(1,.ref (aT r)),(3,.sc (.slice A2 (L.length+1) c2)),(4,bT (dL r.sch.cols)),(5,nI i)]) ⟨?_,lr m2,lr ((eC _ us _ 4 Z).trans p2),lr ((eC _ us _ 5 Z).trans h6),trivial⟩)⟩
  ·show BWP _ _ _ _ _
   refine BWP.of<|ae<|aa 1 Z<|af (t:=nI (i+1)) Z Z Z (ah (ai Z Z Z Zy) (bu (by omega)))<|aa 1 Z<|ag<|⟨r.tups.length-(i+1),by omega,i+1,_,(K.insertIdx p (aG r.sch t.vals)),A2,c2,_,_,by omega,Z,?_,kJ (by simp<;>omega) Z a9,Z,Z,qp (by simp<;>omega),Z,Z⟩;rw[gC b3 c6];unfold gV;rw[if_neg e4];simp only;rw[if_neg (c:=((K[bk K (aG r.sch t.vals)]?).any fun x=>aO x (aG r.sch t.vals)==0)=true) (by rw[hf];exact MR),hp,kb L _ (by omega)]
  show FT _ [(b8 a.tmps ([some 82,some 83,some 84,some 85,some 86,some 87,some 88,some 89,some 90,some 3].zip us)).getD 1 undef] _
  rw[eC _ us _ 1 Z,s6];exact FT.gg (l0.mono e5.size f1)
 obtain rfl:i=r.tups.length:=by have:=of_decide_eq_false hc;omega
 rw[M9]at b3;have n2:L=aP r:=by
  unfold aP;rw[if_neg (by rw[a5];exact MR),b3]
 refine l8 fun a w q=>⟨w0,G0,⟨92,[(3,.sl ((aP r).map iQ))],[],[]⟩,?_,l7 ?_⟩
 ·obtain⟨-,-,H,-⟩:=q.facts;have B:=o.later H;refine q.back o.e0 o.ok0 B.below ⟨?_,trivial⟩;show FT _ [a.tmps.getD 3 undef] _
  rw[q.lit (v:=.slice J L.length D) Z,<-n2];exact FT.gg (B.nest.pt fun g z h2=>by have:=(o.nest.ok g z).1;have:=(o.ok0 g h2).1;omega)
 refine⟨Z,Z,?_⟩;show AWP _ _ _ _ _
 refine ab<|aj 2 Z<|aC<|⟨.inr Z,_,.cons Z .nil,Z,Z⟩
end Go.Proofs.YtfoejfohbkmmeaaGreatDoor
