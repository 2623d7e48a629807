import Derived.Test.YtfoejfohbkmmeaaGreatDoorQ33
import Derived.Test.YtfoejfohbkmmeaaGreatDoorQ07
import Derived.Test.YtfoejfohbkmmeaaGreatDoorQ00
set_option maxRecDepth 100000
set_option maxHeartbeats 4000000
namespace Go.Proofs.YtfoejfohbkmmeaaGreatDoor
open Go.RowKit
open Lib renaming hid→J
structure RgI (w0:World) (G0:Nat->Prop) (r:Rel) (m:Nat) (w1:World) (G1:Nat->Prop) (S:St) (i:Nat) (L:List (List Nat)) (K:List (List V)) (AO:Option Addr) (cO:Nat) (vs:List Value) (sl:List (Nat×Tree)):Prop where
 hi:i<=r.tups.length
 hm:m=r.tups.length-i
 st:dh r.sch ([],[]) 0 (r.tups.take i)=(K,L)
 side:Side w0 G0 w1 G1 (.slice AO L.length cO) vs L (.slice none 0 0) [] []
 hS:S=⟨92,sl,[],[]⟩
 s1:look sl 1=.ref (aT r)
 s3:look sl 3=.sc (.slice AO L.length cO)
 s4:look sl 4=.sc (.bool (dL r.sch.cols))
 s5:look sl 5=.sc (.int .i64 (i:Nat))
def LI(w0:World)(G0:Nat->Prop)(r:Rel)(m:Nat)(w1:World)(G1:Nat->Prop)(S:St):Prop:=∃i L K AO cO vs sl,RgI w0 G0 r m w1 G1 S i L K AO cO vs sl
def L0(r:Rel)(vO:Value)(i p:Nat)(f:Bool)(S:St):Prop:=∃sl,S=⟨92,sl,[],[]⟩/\look sl 1=.ref (aT r)/\look sl 3=.sc vO/\look sl 4=.sc (.bool (dL r.sch.cols))/\look sl 5=.sc (.int .i64 (i:Nat))/\look sl 7=.sc (.int .i64 (p:Nat))/\look sl 8=.sc (.bool f)
theorem AA(r:Rel)(h:FitR r)(h3:∀t∈r.tups,t.vals.length=r.sch.cols.length):Ct 95 [r.tree] (.sl ((aP r).map iQ)):=by
 refine Ct.of (n:=92) Tryz.func95 Z Z Z Z Z fun w0 G0=>?_
 refine ab<|ae<|aa 1 Z<|af (t:=.sl []) Z Z Z (cW (.inr Z) dI)<|ag<|ab<|aj 1 Z<|ab<|ab<|aj 3 Z<|aH Z (fun a0=>?_) (fun a0=>?_)
 ·have a5:=a0;refine ab<|ae<|af (t:=.sl []) Z Z Z (cW (.inr Z) dI)<|ag<|aC<|⟨.inr Z,_,.cons Z .nil,by unfold aP;rw[a5];rfl,Z⟩
 have a5:=a0;refine ax<|ab<|ae<|aa 2 Z<|af Z Z Z (ar Z (Aw r.sch h.cols) Z Z)<|aa 1 Z<|ag<|ab<|ab<|aj 1 Z<|aE<|Bv<|l8 fun a w q=>?_
 obtain⟨i4,k5,p7,i5,i1⟩:=q.unbox (ty:=30) (l:=[(1,.ref (aT r)),(3,.sc (.slice none 0 0)),(4,bT (dL r.sch.cols)),(5,nI 0)]) rfl rfl rfl ⟨.inr ⟨0,rfl,rfl⟩,.inl ⟨rfl,rfl⟩,.inl ⟨rfl,rfl⟩,.inl ⟨rfl,rfl⟩,trivial⟩;refine⟨w,G0,_,i4,?_⟩;clear q i4;refine wY (LI w0 G0 r) r.tups.length ⟨0,[],[],none,0,[],_,Mx _,Z,Z,⟨Nest.nil _ _,KeyR.nil _ _ _,fun b O=>(by cases O),fun b=>⟨.inl,fun h=>h.elim id fun h=>h.elim (fun h=>h.elim (fun h=>by cases h) fun⟨u,hu,_⟩=>by cases hu) fun h=>by cases h⟩,k5,p7,i5⟩,Z,Z,Z,Z,Z⟩ ?_;clear k5 i1 a w;rintro m w1 G1 S ⟨i,L,K,J,D,vs,sl,hi,rfl,b0,o,rfl,s1,s3,s4,s5⟩;obtain⟨v5,u8,o3,u3,-⟩:=uE b0 hi h3;have u1:=h.tups;refine oo [(1,.ref (aT r)),(3,.sc (.slice J L.length D)),(4,bT (dL r.sch.cols)),(5,nI i)] (.cons s1 Z (.cons s3 Z (.cons s4 Z (.cons s5 Z .nil))))<|cP (cP (BWP.of ?_));refine ae<|aa 3 Z<|af (t:=nI r.tups.length) Z Z Z (ah (bd Z aK Z) (by simp only[L8]))<|af (t:=bT (decide (i<r.tups.length))) Z Z Z (ah (ai Z Z Z Zy) (av (iu i r.tups.length)))<|ag ?_;show BWP _ _ w1 G1 _
 refine ko (b:=decide (i<r.tups.length)) Z (fun hc=>?_) (fun hc=>?_)
 ·replace hc:=of_decide_eq_true hc;obtain⟨t,d0⟩:∃t,r.tups[i]? =some t:=⟨_,L4 hc⟩;have g1:=L9 d0;have n2:=h.tup t g1;refine km ?_;show BWP _ _ w1 G1 _
  refine cP (t6 ?_);refine cP (cP (BWP.of ?_));refine ae<|aa 1 Z<|af (t:=bT (!(dL r.sch.cols))) Z Z Z (ef Z Z Zy)<|ag ?_;show BWP _ _ w1 G1 _
  refine ko (b:= !(dL r.sch.cols)) Z (fun hk=>?_) (fun hk=>?_)
  ·have r1:(aG r.sch t.vals)=[]:=(s8 (h3 t g1)).2 (by simpa using hk);refine cP (fl ?_);refine b9 (t:=.sc (.slice J L.length D)) Z Z Z (aw Z Z)<|b9 (t:=nI i) Z Z Z (aw Z Z)<|k8 Z Z Z Z cz ig (fun a w q=>by rw[q.lit (v:=.int .i64 (i:Nat)) Z];exact⟨Z,Z⟩) fun a w q=>?_
   rw[q.lit (v:=.int .i64 (i:Nat)) Z];obtain⟨-,-,H,-⟩:=q.facts;obtain⟨wa,I⟩:∃wa,w.alloc (.cells #[.int .i64 (i:Nat)] 3)=wa:=⟨_,rfl⟩;have e7:Below w1.heap.size w1 wa:=by rw[<-I];exact H.alloc H.size _
   have N:wa.heap[w.heap.size]? =some (.cells #[.int .i64 (i:Nat)] 3 (0,0)):=by rw[<-I];exact heap_alloc_new _ _
   have c5:=H.size;have b5:wa.heap.size=w.heap.size+1:=by rw[<-I];simp
   rw[I];obtain⟨R,b1⟩:∃R,w.heap.size=R:=⟨_,rfl⟩;rw[b1]at N c5 b5;rw[b1];clear q H I b1 a w;refine fK Z Z Z Z cf lx (fun a w q=>by rw[q.lit (v:=.slice (some ⟨R,0,none⟩) 1 1) Z];rfl) fun a w q=>?_
   rw[q.lit (v:=.slice (some ⟨R,0,none⟩) 1 1) Z];obtain⟨-,-,C,-⟩:=q.facts;obtain⟨wb,d1⟩:∃wb,w.alloc (.cells #[.slice (some ⟨R,0,none⟩) 1 1] 23)=wb:=⟨_,rfl⟩;have g3:Below wa.heap.size wa wb:=by rw[<-d1];exact C.alloc C.size _
   have e6:wb.heap[w.heap.size]? =some (.cells #[.slice (some ⟨R,0,none⟩) 1 1] 23 (0,0)):=by rw[<-d1];exact heap_alloc_new _ _
   have l2:=C.size;have h7:wb.heap.size=w.heap.size+1:=by rw[<-d1];simp
   rw[d1];obtain⟨bB,f6⟩:∃bB,w.heap.size=bB:=⟨_,rfl⟩;rw[f6]at e6 l2 h7;rw[f6];clear q C d1 f6 a w;refine fv Z fun a w q=>?_
   obtain⟨i1,v3,M,-⟩:=q.facts;have X:Below w1.heap.size w1 w:=ak (ak e7 g3 e7.size) M (L6 e7.size g3.size);have Y:w.heap[R]? =some (.cells #[.int .i64 (i:Nat)] 3 (0,0)):=by rw[M.block R (by omega),g3.block R (by omega)];exact N
   have g0:w.heap[bB]? =some (.cells #[.slice (some ⟨R,0,none⟩) 1 1] 23 (0,0)):=by rw[M.block bB (by omega)];exact e6
   obtain⟨_,_,f7,_⟩:=fB g0;have u0:=o.nest.len;have B:=o.later X;have hu:EIs w w0.heap.size (.slice (some ⟨R,0,none⟩) 1 1) [i]:=rc Y (by have:=o.below.size;omega);obtain⟨v',w',E,m2,l0,p1,c6⟩:=o6 (n:=L.length) (m:=1) (c:=1) (A:=some ⟨bB,0,none⟩) (news:=[.slice (some ⟨R,0,none⟩) 1 1]) B.nest.row (fun e=>by cases e) (fun b O j x hj=>by
    injection O with O
    subst O;cases j with
    |zero=>simp at hj;subst hj;exact f7
    |succ j=>simp at hj) Z (fun u hu=>by rw[Ml.1 hu];exact⟨Z,Z⟩) (by omega) (by have:=o.below.size;have:=X.size;omega) B.nest.rd
   have m3:w'.ownsRow w0.heap.size 23 1 v' (L.length+1) (vs.take L.length++[.slice (some ⟨R,0,none⟩) 1 1]++vs.drop L.length):=by rw[Me (by omega),Mg (by omega),MA];exact m2
   obtain⟨a4,e9⟩:=o.insL X hu (fun g z=>by have F:some R=some g:=z;injection F with F;omega) m3 l0 p1 c6 (L5 _);obtain⟨A2,c2,rfl⟩:=cc m2;refine aq (v:=.slice A2 (L.length+1) c2) (W':=w') (kq (T:=fun s=>a.tmps.getD s undef) rfl (q.lit rfl) (q.lit rfl) E) ⟨w',_,_,fJ (q.turn a4.env a4.okw l0.size fun b o2 hG=>e9 b o2 fun h=>hG (h.imp id fun e=>by injection e with e;exact e.symm)) (by decide) (.pure (.sc _ .nil) .nil),?_⟩;refine b9 (t:=.sc (.slice A2 (L.length+1) c2)) Z Z Z (bW Z Z)<|gL ?_;show BWP _ _ _ _ _
   refine l7 ?_;show BWP _ _ _ _ _
   refine BWP.of<|ae<|aa 1 Z<|af (t:=nI (i+1)) Z Z Z (ah (ai Z Z Z Zy) (bu (by omega)))<|aa 1 Z<|ag<|⟨r.tups.length-(i+1),by omega,i+1,_,(K++[(aG r.sch t.vals)]),A2,c2,_,_,by omega,Z,?_,kJ (by simp<;>omega) Z a4,Z,Z,qp (by simp<;>omega),Z,Z⟩;rw[gC b0 d0];unfold gV;rw[if_pos r1,Me (L5 _),Mg (L5 _),MA]
  have d3:∀t∈r.tups,aG r.sch t.vals≠ []:=fun t ht e=>by
   rw[(s8 (h3 t ht)).1 e]at hk;cases hk
  have e1:=d3 t g1;have p4:(aG r.sch t.vals).length<=65536:=L6 (ie _ _) h.cols;refine km ?_;show BWP _ _ w1 G1 _
  refine cP (BWP.of ?_);refine ci (fu:=10) [some 31,some 32,some 33,some 34,some 35,some 36,some 37,some 38,some 39,some 6] [.ref (aT r),.agg (dq r.sch),.ref [.sl (r.tups.map Tp.tree)],.sl (r.tups.map Tp.tree),nI i,.ref (bS t),.ref (bS t),.sl (t.vals.map V.tree),.sl ((aG r.sch t.vals).map V.tree),.sl ((aG r.sch t.vals).map V.tree)] (by kernel_rfl) Z Z (by kernel_rfl) Z ?_ ?_
  ·refine Chain.op Z (bw Z Z dZ Z)<|Chain.op Z (cU Z Z eR Z Z)<|Chain.op Z (bw Z Z aV Z)<|Chain.op Z (bE Z Z bp Z)<|Chain.op Z (aw Z Z)<|Chain.op Z (aQ (Tp.tree t) Z aK Z Z Z (bf (f:=Tp.tree) d0) (bQ _) Z)<|Chain.op Z (bw Z Z b6 Z)<|Chain.op Z (bE Z Z cC Z)<|Chain.op Z (ar Z (Cf r.sch t.vals n2.2) Z Z)<|Chain.op Z (bW Z Z)<|Chain.nil
  show BWP _ _ w1 G1 _
  refine cP (BWP.of ?_);refine aj 2 Z ?_;show BWP _ _ w1 G1 _
  refine Fq (L0 r (.slice J L.length D) i (bk K (aG r.sch t.vals)) ((K[bk K (aG r.sch t.vals)]?).any fun x=>aO x (aG r.sch t.vals)==0)) ?_ fun S hS=>?_
  ·refine aE<|aW (fun n_ S_=>∃(j:Nat) (f:Bool),(f=false/\j<=L.length/\∀x y,x<j->K[x]? =some y->aO y (aG r.sch t.vals)<0)/\n_=L.length-j/\S_=⟨92,[(1,.ref (aT r)),(3,.sc (.slice J L.length D)),(4,bT (dL r.sch.cols)),(5,nI i),(6,.sl ((aG r.sch t.vals).map V.tree)),(7,nI j),(8,bT f)],[],[]⟩) 0 0 ⟨0,false,⟨Z,Mx _,fun x y hx=>absurd hx (Px x)⟩,Z,Z⟩ ⟨Z,Z,Z,.cons Z Z (.cons Z Z (.cons Z Z (.cons Z Z (.cons Z Z (.cons Z Z (.cons Z Z .nil)))))),Z⟩ ?_;rintro n_ S_ ⟨j,f,⟨m4,hj,c7⟩,rfl,rfl⟩;refine ab<|ab<|ae<|aa 2 Z<|af (t:=nI L.length) Z Z Z (wZ Z cf Z)<|af (t:=bT (decide (j<L.length))) Z Z Z (ah (ai Z Z Z Zy) (av (iu j L.length)))<|ag<|aF Z (fun b3=>?_) (fun b3=>?_)
   ·obtain⟨g,rfl⟩:∃g,J=some ⟨g,0,none⟩:=by
     rcases o.nest.row.2 with⟨_,hn⟩|⟨g,g4,cur,hv,_⟩
     ·omega
     injection hv with h1;exact⟨g,h1⟩
    have m1:=o.nest.len;obtain⟨u,U⟩:∃u,vs[j]? =some u:=⟨_,L4 (by omega)⟩;obtain⟨l,a3⟩:∃l,L[j]? =some l:=⟨_,L4 (by omega)⟩;obtain⟨h0,tl,t2,hl,i9,f1⟩:=FV b0 d3 a3;have k2:=h.tup t2 (L9 i9);have c0:=o.nest.el _ u l U a3;obtain⟨gu,cu,rfl⟩:∃gu cu,u=.slice (some ⟨gu,0,none⟩) l.length cu:=by
     rcases c0.1.2 with⟨_,hn⟩|⟨g2,g4,cur,hv,_⟩
     ·rw[hl]at hn;simp at hn
     exact⟨g2,g4,hv⟩
    have p3:w1.cell? ⟨gu,0,none⟩=some (.int .i64 (h0:Nat)):=by
     have:=World.ownsRow.cells c0.1 (g:=gu) Z 0 (.int .i64 (h0:Nat)) (by rw[hl];rfl);rwa[m5]at this
    have f2:w1.cell? ⟨g,j,none⟩=some (.slice (some ⟨gu,0,none⟩) l.length cu):=by
     have:=World.ownsRow.cells o.nest.row (g:=g) Z _ _ U;rwa[m5]at this
    refine ax<|aE<|ab<|Ah (fu:=17) [some 44,some 45,some 46,some 47,some 48,some 49,some 50,some 51,some 52,some 53,some 54,some 55,some 56,some 57,some 58,some 59,some 9] [.ref (aT r),.agg (dq r.sch),.ref [.sl (r.tups.map Tp.tree)],.sl (r.tups.map Tp.tree),.sc (.slice (some ⟨g,0,none⟩) L.length D),nI j,.sc (.pointer (some ⟨g,j,none⟩)),.sc (.slice (some ⟨gu,0,none⟩) l.length cu),.sc (.pointer (some ⟨gu,0,none⟩)),nI h0,.ref (bS t2),.ref (bS t2),.sl (t2.vals.map V.tree),.sl ((aG r.sch t2.vals).map V.tree),.sl ((aG r.sch t.vals).map V.tree),iT (aO (aG r.sch t2.vals) (aG r.sch t.vals)),iT (aO (aG r.sch t2.vals) (aG r.sch t.vals))] (by kernel_rfl) Z Z (by kernel_rfl) Z ?_ ?_
    ·refine de (t:=.ref (aT r)) Z (bw Z Z dZ Z)<|de (t:=.agg (dq r.sch)) Z (cU Z Z eR Z Z)<|de (t:=.ref [.sl (r.tups.map Tp.tree)]) Z (bw Z Z aV Z)<|de (t:=.sl (r.tups.map Tp.tree)) Z (bE Z Z bp Z)<|de (t:=.sc (.slice (some ⟨g,0,none⟩) L.length D)) Z (aw Z Z)<|de (t:=nI j) Z (aw Z Z)<|de (t:=.sc (.pointer (some ⟨g,j,none⟩))) Z (kp (j:=j) Z cf Z Z Z (by omega) (by simp))<|ChainB.op (t:=.sc (.slice (some ⟨gu,0,none⟩) l.length cu)) Z (xU Z Z lw (o.nest.ok g (.inl Z)).2.1 f2)<|de (t:=.sc (.pointer (some ⟨gu,0,none⟩))) Z (kp (j:=0) Z cz Z Z Z (by rw[hl];exact PB _) Z)<|ChainB.op (t:=nI h0) Z (xU Z Z fe (c0.1.lt gu Z).2 p3)<|de (t:=.ref (bS t2)) Z (aQ (Tp.tree t2) Z aK Z Z Z (bf (f:=Tp.tree) i9) (bQ _) Z)<|de (t:=.ref (bS t2)) Z (bw Z Z b6 Z)<|de (t:=.sl (t2.vals.map V.tree)) Z (bE Z Z cC Z)<|de (t:=.sl ((aG r.sch t2.vals).map V.tree)) Z (ar Z (Cf r.sch t2.vals k2.2) Z Z)<|de (t:=.sl ((aG r.sch t.vals).map V.tree)) Z (aw Z Z)<|de (t:=iT (aO (aG r.sch t2.vals) (aG r.sch t.vals))) Z (ar Z (ly _ _ (L6 (ie _ _) h.cols) p4) Z Z)<|de (t:=iT (aO (aG r.sch t2.vals) (aG r.sch t.vals))) Z (bW Z Z)<|ChainB.nil
    refine ab<|ae<|aa 1 Z<|af (t:=bT ((aO (aG r.sch t2.vals) (aG r.sch t.vals))==0)) Z Z Z (ai Z Z Z Zy)<|aa 1 Z<|ag<|ab<|ab<|ae<|aa 1 Z<|af (t:=bT (decide ((aO (aG r.sch t2.vals) (aG r.sch t.vals))≥0))) Z Z Z (ai Z Z Z Zy)<|ag<|aF Z (fun q6=>?_) (fun q6=>?_)
    ·refine aZ ?_;have d4:bk K (aG r.sch t.vals)=j:=s9 (by omega) c7 fun y hy=>by
      rw[f1]at hy;injection hy with hy
      subst hy;omega
     exact⟨Z,_,Z,Z,Z,Z,Z,by rw[d4];rfl,by rw[d4,f1];rfl⟩
    refine ax<|ae<|aa 1 Z<|af (t:=nI (j+1)) Z Z Z (ah (ai Z Z Z Zy) (bu (by omega)))<|aa 1 Z<|ag<|⟨_,_,?_,⟨j+1,(aO (aG r.sch t2.vals) (aG r.sch t.vals))==0,?_,Z,Z⟩,⟨Z,Z,Z,.cons Z Z (.cons Z Z (.cons Z Z (.cons Z Z (.cons Z Z (.cons Z Z (.cons Z Z .nil)))))),Z⟩⟩
    ·omega
    refine⟨by rw[beq_eq_false_iff_ne];omega,by omega,fun x y hx hy=>?_⟩;by_cases q7:x<j
    ·exact c7 x y q7 hy
    obtain rfl:x=j:=by omega
    rw[f1]at hy;injection hy with hy
    subst hy;omega
   refine aZ ?_;obtain rfl:j=L.length:=by omega
   have d4:bk K (aG r.sch t.vals)=L.length:=s9 (by omega) c7 fun y hy=>by
    rw[Nq (by omega)]at hy;cases hy
   exact⟨Z,_,Z,Z,Z,Z,Z,by rw[d4];rfl,by rw[m4,d4,Nq (by omega)];rfl⟩
  obtain⟨sl,rfl,t1,t3,t4,t5,t7,t8⟩:=hS;refine oo [(1,.ref (aT r)),(3,.sc (.slice J L.length D)),(4,bT (dL r.sch.cols)),(5,nI i),(7,nI (bk K (aG r.sch t.vals))),(8,bT ((K[bk K (aG r.sch t.vals)]?).any fun x=>aO x (aG r.sch t.vals)==0))] (.cons t1 Z (.cons t3 Z (.cons t4 Z (.cons t5 Z (.cons t7 Z (.cons t8 Z .nil))))))<|cP (cP (BWP.of ?_));refine aj 1 Z ?_;show BWP _ _ w1 G1 _
  refine ko (b:=((K[bk K (aG r.sch t.vals)]?).any fun x=>aO x (aG r.sch t.vals)==0)) Z (fun hf=>?_) (fun hf=>?_)
  ·have t9:bk K (aG r.sch t.vals)<K.length:=by
    rcases MI (bk K (aG r.sch t.vals)) K.length with h|h
    ·exact h
    rw[Nq h]at hf;cases hf
   obtain⟨g,rfl⟩:∃g,J=some ⟨g,0,none⟩:=by
    rcases o.nest.row.2 with⟨_,hn⟩|⟨g,g4,cur,hv,_⟩
    ·omega
    injection hv with h1;exact⟨g,h1⟩
   have m1:=o.nest.len;obtain⟨u,U⟩:∃u,vs[bk K (aG r.sch t.vals)]? =some u:=⟨_,L4 (by omega)⟩;obtain⟨l,a3⟩:∃l,L[bk K (aG r.sch t.vals)]? =some l:=⟨_,L4 (by omega)⟩;have v4:=o3 l (L9 a3);refine cP (fl ?_);refine b9 (t:=.sc (.slice (some ⟨g,0,none⟩) L.length D)) Z Z Z (aw Z Z)<|b9 (t:=nI (bk K (aG r.sch t.vals))) Z Z Z (aw Z Z)<|b9 (t:=.sc (.slice (some ⟨g,0,none⟩) L.length D)) Z Z Z (aw Z Z)<|b9 (t:=nI (bk K (aG r.sch t.vals))) Z Z Z (aw Z Z)<|b9 (t:=.sc (.pointer (some ⟨g,bk K (aG r.sch t.vals),none⟩))) Z Z Z (kp (j:=bk K (aG r.sch t.vals)) Z cf Z Z Z (by omega) (by simp))<|rO (u:=u) Z Z Z Z Z lw (o.nest.ok g (.inl Z)).2.1 ?_ ?_
   ·have:=World.ownsRow.cells o.nest.row (g:=g) Z _ _ U;rwa[m5]at this
   refine b9 (t:=nI i) Z Z Z (aw Z Z)<|fK Z Z Z Z cz ig (fun a w q=>by rw[q.lit (v:=.int .i64 (i:Nat)) Z];rfl) fun a w q=>?_
   rw[q.lit (v:=.int .i64 (i:Nat)) Z];obtain⟨-,-,H,-⟩:=q.facts;have N:(w.alloc (.cells #[.int .i64 (i:Nat)] 3)).heap[w.heap.size]? =some (.cells #[.int .i64 (i:Nat)] 3 (0,0)):=heap_alloc_new _ _;have h5:=(o.later H).later ((Below.refl w.heap.size w).alloc (L5 _) (.cells #[.int .i64 (i:Nat)] 3));have c5:=H.size;have b5:(w.alloc (.cells #[.int .i64 (i:Nat)] 3)).heap.size=w.heap.size+1:=by simp
   obtain⟨wa,I⟩:∃wa,w.alloc (.cells #[.int .i64 (i:Nat)] 3)=wa:=⟨_,rfl⟩;rw[I]at N h5 b5;rw[I];obtain⟨R,b1⟩:∃R,w.heap.size=R:=⟨_,rfl⟩;rw[b1]at N c5 b5;rw[b1];clear q H I b1 a w;refine fv Z fun a w q=>?_
   obtain⟨-,-,C,-⟩:=q.facts;have B:=h5.later C;have c0:=B.nest.el _ u l U a3;have Y:w.heap[R]? =some (.cells #[.int .i64 (i:Nat)] 3 (0,0)):=by rw[C.block R (by omega)];exact N
   obtain⟨_,_,r5,_⟩:=fB Y;obtain⟨i0,r7,t0,q8,q9⟩:=info_parts xW;obtain⟨u2,w2,E,c3,F,h6,G⟩:=mz (P:=Tryz.prog) w w0.heap.size 23 23 3 i0 (.int .i64 0) 1 8 Tryz.underlying23 r7 t0 q8 q9 rfl (by decide) u l.length (mj l) c0.1 (some ⟨R,0,none⟩) 1 1 [.int .i64 (i:Nat)] rfl (fun e=>by cases e) (fun b O j x hj=>by
    injection O with O
    subst O;cases j with
    |zero=>simp at hj;subst hj;exact r5
    |succ j=>simp at hj) (fun x hx=>by rw[Ml.1 hx];rfl) (by unfold maxLen;omega) (by omega) (by have:=B.below.size;omega) (by decide) Z c0.2
   have Q:w2.ownsRow w0.heap.size 3 1 u2 (l.length+1) (mj (l++[i])):=by rw[show mj (l++[i])=mj l++[.int .i64 (i:Nat)] by simp[mj]];exact c3
   obtain⟨s2,q0,p0⟩:=B.app1 U F h6 G fun g z=>(c3.lt g z).2
   obtain⟨A2,c2,e5⟩:=cc c3;refine aq (v:=u2) (W':=w2) (kq (T:=fun s=>a.tmps.getD s undef) Z (q.lit Z) (q.lit Z) E) ⟨w2,_,_,fJ (q.turn q0 s2 F.size p0) (by decide) (.pure (.sc u2 .nil) .nil),?_⟩;clear q C N Y a;refine b9 (t:=.sc (.pointer (some ⟨g,bk K (aG r.sch t.vals),none⟩))) Z Z Z (kp (j:=bk K (aG r.sch t.vals)) Z cf Z Z Z (by omega) (by simp))<|fv Z fun a wb q=>?_
   obtain⟨-,-,M,-⟩:=q.facts;obtain⟨f3,s6⟩:=B.app2 U a3 rfl Q F h6 G (by rw[e5];rfl) M;have l5:=(B.nest.ok g (.inl Z)).2.1;have m9:wb.heap[g]? =w.heap[g]? :=by
    have h1:w2.heap[g]? =w.heap[g]? :=dV F l5 fun e=>B.nest.out u (L9 U) g e Z
    rw[M.block g (Mp l5 F.size)];exact h1
   have e3:=gQ B.nest.row (w':=wb) fun b O=>by injection O with O;subst O;exact m9
   have f2:wb.cell? ⟨g,bk K (aG r.sch t.vals),none⟩=some u:=by
    have:=World.ownsRow.cells e3 (g:=g) Z _ _ U;rwa[m5]at this
   refine eY (W':=wb.setCell ⟨g,bk K (aG r.sch t.vals),none⟩ u2) (qa (T:=fun s=>a.tmps.getD s undef) Z (q.lit Z) (q.lit Z) sP (by rw[e5];rfl) f2 (dd e3 _)) ⟨_,_,_,q.turn f3.env f3.okw (by simp[World.setCell]) s6,?_⟩;refine gL ?_;show BWP _ _ _ _ _
   refine l7 ?_;show BWP _ _ _ _ _
   refine BWP.of<|ae<|aa 1 Z<|af (t:=nI (i+1)) Z Z Z (ah (ai Z Z Z Zy) (bu (by omega)))<|aa 1 Z<|ag<|⟨r.tups.length-(i+1),by omega,i+1,_,K,some ⟨g,0,none⟩,D,_,_,by omega,Z,?_,kJ (by simp) Z f3,Z,Z,qp (by simp),Z,Z⟩;rw[gC b0 d0];unfold gV;rw[if_neg e1];simp only;rw[if_pos (c:=((K[bk K (aG r.sch t.vals)]?).any fun x=>aO x (aG r.sch t.vals)==0)=true) hf,sO _ a3]
  refine km ?_;show BWP _ _ w1 G1 _
  have q4:=xV K (aG r.sch t.vals);obtain⟨p,hp⟩:∃p,bk K (aG r.sch t.vals)=p:=⟨_,rfl⟩;rw[hp]at q4⊢;refine l8 fun a wB q=>?_
  obtain⟨f0,q3,H,hn,d9,r3⟩:=q.facts;have a2:=o.later H;obtain⟨v1,f8⟩:∃v,a.tmps.getD 1 undef=v:=⟨_,rfl⟩;have k4:=q.slot (i:=1) (t:=.ref (aT r)) Z Z;rw[f8]at k4;refine⟨wB,fun _=>False,⟨92,[(1,.sc v1),(3,.sc (.slice J L.length D)),(4,bT (dL r.sch.cols)),(5,nI i),(7,nI p)],[],[]⟩,Sim.mk f0 (fun g z=>z.elim) hn d9 (SlotL.look (l:=[(1,.sc v1),(3,.sc (.slice J L.length D)),(4,bT (dL r.sch.cols)),(5,nI i),(7,nI p)]) ⟨lr f8,lr (q.lit (i:=3) Z),lr (q.lit (i:=4) Z),lr (q.lit (i:=5) Z),lr (q.lit (i:=7) Z),trivial⟩),?_⟩;clear f8 q r3 hn d9 a q3;obtain⟨i2,-⟩:=sN (l:=0) (h:=0) a2.nest.row (L5 _) (Mx _);refine cP (fl ?_);refine fv Z fun a w q=>?_
  obtain⟨-,-,C,-⟩:=q.facts;have a1:Below wB.heap.size wB (w.alloc (.cells #[] 23)):=C.alloc C.size _;have c1:(w.alloc (.cells #[] 23)).ownsRow wB.heap.size 23 1 (.slice (some ⟨w.heap.size,0,none⟩) 0 0) 0 []:=World.ownsRow_lit (base:=wB.heap.size) (e:=23) (size:=1) w #[] 0 C.size (by simp[maxLen]) (by simp);have d7:NoDigB (w.alloc (.cells #[] 23)) w.heap.size:=cI (heap_alloc_new _ _) Z;refine aq (v:=.slice (some ⟨w.heap.size,0,none⟩) 0 0) (W':=w.alloc (.cells #[] 23)) (by
   simp only[execOp,cA];go_simp) ⟨_,_,_,fJ (q.lits (f0.below a1 (L5 _)) Z) (by decide) (.pure (.sc _ .nil) .nil),?_⟩
  obtain⟨wa,I⟩:∃wa,w.alloc (.cells #[] 23)=wa:=⟨_,rfl⟩;rw[I]at a1 c1 d7;rw[I];obtain⟨bO,f4⟩:∃b,w.heap.size=b:=⟨_,rfl⟩;rw[f4]at c1 d7;rw[f4];clear q C I f4 a w;refine b9 (t:=.sc (.slice J L.length D)) Z Z Z (aw Z Z)<|b9 (t:=nI p) Z Z Z (aw Z Z)<|b9 (t:=.sc (.slice (m6 J 0 D) (p-0) (D-0))) Z Z Z (Da (l:=0) (h:=p) Z cf Z Z ⟨_,Z⟩ (Mx _) (by omega) i2)<|fv Z fun a w q=>?_
  obtain⟨-,-,M,-⟩:=q.facts;have X:=ak a1 M a1.size;have B:=a2.later X;have k0:=B.nest.len;obtain⟨-,a0,b3⟩:=sN (l:=0) (h:=p) B.nest.row (Mx _) (by omega);obtain⟨v2,w2,E,c3,F,-,G⟩:=o6 (n:=0) (m:=p-0) (c:=D-0) (A:=m6 J 0 D) (news:=(vs.take p).drop 0) (dz c1 M) a0 b3 (by simp;omega) (fun u hu=>B.nest.ones u (MC (M2 hu))) (by omega) X.size (fun g z=>by have F:some bO=some g:=z;injection F with F;subst F;exact d7.of (M.block _ (c1.lt _ rfl).2));have d6:Below wB.heap.size wB w2:=X.grown F X.size fun k e=>(c1.lt k e).1
  have Q:w2.ownsRow wB.heap.size 23 1 v2 p (vs.take p):=by simpa using c3
  obtain⟨AX,cX,rfl⟩:=cc Q;refine aq (v:=.slice AX p cX) (W':=w2) (kq (T:=fun s=>a.tmps.getD s undef) Z (q.lit Z) (q.lit Z) E) ⟨w2,_,_,fJ (q.lits (f0.below d6 (L5 _)) Z) (by decide) (.pure (.sc _ .nil) .nil),?_⟩;clear q a0 b3 E c3 F B X M c1 d7 a1 a w;refine b9 (t:=.sc (.slice AX p cX)) Z Z Z (bW Z Z)<|gL ?_;show BWP _ _ _ _ _
  intro a w q;obtain⟨-,-,d5,hn,d9,-⟩:=q.facts;have c4:=ak d6 d5 d6.size;have k3:=dz Q d5;have o1:∀g,(Value.slice AX p cX).ownBlock=some g->NoDigB w g:=fun g z=>(G g z).of (d5.block g (Q.lt g z).2)
  have r6:a.tmps.getD 1 undef=v1:=q.lit Z;have r4:a.tmps.getD 3 undef=.slice J L.length D:=q.lit Z;have q1:a.tmps.getD 4 undef=.bool (dL r.sch.cols):=q.lit Z;have h9:a.tmps.getD 5 undef=.int .i64 (i:Nat):=q.lit Z;have n0:a.tmps.getD 7 undef=.int .i64 (p:Nat):=q.lit Z;have l1:a.tmps.getD 10 undef=.slice AX p cX:=q.lit Z;have k0:=a2.nest.len;have j3:∀W,Below wB.heap.size w W->W.ownsRow w0.heap.size 23 1 (.slice J L.length D) L.length vs:=fun W hW=>gQ a2.nest.row fun b O=>(c4.trans hW).block b (a2.nest.ok b (.inl O)).2.1
  clear q d5 G d6 Q;refine qL [some 82,some 83,some 84,some 85,some 86,some 87,some 88,some 89,some 90,some 3] (Jt wB.heap.size p i L.length vs (.slice AX p cX) (.slice J L.length D) (.slice (m6 J p D) (L.length-p) (D-p))) [true,true,false,false,false,true,true,true,false,false] [none,none,some 3,some 4,some 8,none,none,none,none,none] [4,8] wB.heap.size (fun W=>W.ownsRow wB.heap.size 23 1 (.slice AX p cX) p (vs.take p)/\∀g,(Value.slice AX p cX).ownBlock=some g->NoDigB W g) 4 ⟨dz k3 (Below.refl _ _).drew,fun g z=>(o1 g z).of ((Below.refl w.heap.size w).drew.block g (k3.lt g z).2)⟩ (fun W W' h O=>⟨dz h.1 O,fun g z=>(h.2 g z).of (O.block g (h.1.lt g z).2)⟩) (by kernel_rfl) (by kernel_rfl) (by kernel_rfl) Z (by rw[hn];rfl) c4.size (fun W=>Dx _ _ _ _ _ _ _ _ W) (Dy _ _ _ _ _ _ _ _) (by kernel_rfl) ?_ ?_
  ·refine StepsR.cons trivial (fun T W z=>?_) ?_
   ·have e:T 10=.slice AX p cX:=(z.keep 10 Z).trans l1;exact aq (v:=.slice AX p cX) (W':=W) (by simp[execOp,cA,e]) ⟨Z,Below.refl _ _⟩
   refine StepsR.cons trivial (fun T W z=>?_) ?_
   ·have e:T 5=.int .i64 (i:Nat):=(z.keep 5 Z).trans h9;exact aq (v:=.int .i64 (i:Nat)) (W':=W) (by simp[execOp,cA,e]) ⟨Z,Below.refl _ _⟩
   refine StepsR.cons trivial (fun T W z=>?_) ?_
   ·have e:T 83=.int .i64 (i:Nat):=z.fact 1 83 (by kernel_rfl);have a9:=z.size;refine aq (v:=.slice (some ⟨W.heap.size,0,none⟩) 1 1) (W':=W.alloc (.cells #[T 83] 3)) (jQ Z cz ig (by rw[e];rfl)) ⟨⟨W.heap.size,Z,a9,by rw[e];exact heap_alloc_new _ _⟩,(Below.refl _ _).alloc (L5 _) _⟩
   refine StepsR.cons trivial (fun T W z=>?_) ?_
   ·obtain⟨b,e,H,C⟩:∃b,T 84=.slice (some ⟨b,0,none⟩) 1 1/\wB.heap.size<=b/\W.heap[b]? =some (.cells #[.int .i64 (i:Nat)] 3 (0,0)):=z.fact 2 84 (by kernel_rfl);have d2:Below W.heap.size W (W.alloc (.cells #[T 84] 23)):=(Below.refl _ _).alloc (L5 _) _;refine aq (v:=.slice (some ⟨W.heap.size,0,none⟩) 1 1) (W':=W.alloc (.cells #[T 84] 23)) (jQ Z cf lx (by rw[e];rfl)) ⟨⟨W.heap.size,b,Z,H,jC d2 C,by rw[e];exact heap_alloc_new _ _⟩,d2⟩
   refine StepsR.cons trivial (fun T W z=>?_) ?_
   ·have e:T 82=.slice AX p cX:=z.fact 0 82 (by kernel_rfl);obtain⟨b,d,e2,c9,G,C⟩:∃b d,T 85=.slice (some ⟨b,0,none⟩) 1 1/\wB.heap.size<=d/\W.heap[d]? =some (.cells #[.int .i64 (i:Nat)] 3 (0,0))/\W.heap[b]? =some (.cells #[.slice (some ⟨d,0,none⟩) 1 1] 23 (0,0)):=z.fact 3 85 (by kernel_rfl);obtain⟨f5,r0⟩:=z.ini (by kernel_rfl);have a9:=z.size;have d2:=z.below;obtain⟨_,_,f7,_⟩:=fB C;obtain⟨v',W',E,ho,b2,-,c6⟩:=o6 (n:=p) (m:=1) (c:=1) (A:=some ⟨b,0,none⟩) (news:=[.slice (some ⟨d,0,none⟩) 1 1]) f5 (fun e=>by cases e) (fun b O j x hj=>by
     injection O with O
     subst O;cases j with
     |zero=>simp at hj;subst hj;exact f7
     |succ j=>simp at hj) Z (fun u hu=>by rw[Ml.1 hu];exact⟨Z,Z⟩) (by omega) a9 r0
    have g9:=(ML.1 G).1;refine aq (v:=v') (W':=W') (kq Z e e2 E) ⟨⟨d,c9,(dV b2 g9 (Ai f5 G (by decide))).trans G,ho,c6⟩,(Below.refl _ _).grown b2 a9 (fun k e=>(f5.lt k e).1),b2.size⟩
   refine StepsR.cons trivial (fun T W z=>?_) ?_
   ·have e:T 3=.slice J L.length D:=(z.old 9 3 (by kernel_rfl)).trans r4;exact aq (v:=.slice J L.length D) (W':=W) (by simp[execOp,cA,e]) ⟨Z,Below.refl _ _⟩
   refine StepsR.cons trivial (fun T W z=>?_) ?_
   ·have e:T 7=.int .i64 (p:Nat):=(z.keep 7 Z).trans n0;exact aq (v:=.int .i64 (p:Nat)) (W':=W) (by simp[execOp,cA,e]) ⟨Z,Below.refl _ _⟩
   refine StepsR.cons trivial (fun T W z=>?_) ?_
   ·have e:T 87=.slice J L.length D:=z.fact 5 87 (by kernel_rfl);have e2:T 88=.int .i64 (p:Nat):=z.fact 6 88 (by kernel_rfl);have hr:=jo (P:=Tryz.prog) (w:=W) (A:=J) (n:=L.length) (c:=D) (l:=p) (h:=L.length) cf (some (.int .i64 (p:Nat))) none (.inr ⟨_,Z⟩) (.inl ⟨Z,Z⟩) (by omega) (L5 _) i2;exact aq (v:=.slice (m6 J p D) (L.length-p) (D-p)) (W':=W) (by simp[execOp,cA,e,e2,hr,m6]) ⟨Z,Below.refl _ _⟩
   refine StepsR.cons trivial (fun T W z=>?_) ?_
   ·obtain⟨d,c9,G,ho,q5⟩:PcR wB.heap.size i (p+1) (fun u=>vs.take p++[u]) (T 86) W:=z.fact 4 86 (by kernel_rfl);have e:T 89=.slice (m6 J p D) (L.length-p) (D-p):=z.fact 7 89 (by kernel_rfl);have a9:=z.size;have d2:=z.below;obtain⟨-,a0,b3⟩:=sN (l:=p) (h:=L.length) (j3 W d2) (by omega) (L5 _);rw[Me (by omega)]at b3;have ones:=a2.nest.ones;obtain⟨v',W',E,h8,b2,-,c6⟩:=o6 (n:=p+1) (m:=L.length-p) (c:=D-p) (A:=m6 J p D) (news:=vs.drop p) ho a0 b3 (by simp;omega) (fun u hu=>ones u (M2 hu)) (by omega) a9 q5;have g9:=(ML.1 G).1;rw[show p+1+(L.length-p)=L.length+1 by omega]at h8;refine aq (v:=v') (W':=W') (kq Z Z e E) ⟨⟨d,c9,(dV b2 g9 (Ai ho G (by decide))).trans G,h8,c6⟩,(Below.refl _ _).grown b2 a9 (fun k e=>(ho.lt k e).1),b2.size⟩
   refine StepsR.cons trivial (fun T W z=>?_) ?_
   ·have f:PcR wB.heap.size i (L.length+1) (fun u=>vs.take p++[u]++vs.drop p) (T 90) W:=z.fact 8 90 (by kernel_rfl);exact aq (v:=T 90) (W':=W) (by simp[execOp,cA]) ⟨f,Below.refl _ _⟩
   exact StepsR.nil
  intro us W k1 hF n1 v0;have f9:PcR wB.heap.size i (L.length+1) (fun u=>vs.take p++[u]++vs.drop p) (us.getD 9 undef) W:=hF 9 (by decide) Z;clear hF;have e4:=c4.trans n1;have i3:=(cl [some 82,some 83,some 84,some 85,some 86,some 87,some 88,some 89,some 90,some 3] us a.tmps 9 3 (by rw[hn];rfl) k1 Z).1;obtain⟨v9,r2⟩:∃v,us.getD 9 undef=v:=⟨_,rfl⟩;rw[r2]at f9 i3;obtain⟨d,c9,G,h4,q2⟩:=f9;obtain⟨A2,c2,rfl⟩:=cc h4;have hu:EIs W wB.heap.size (.slice (some ⟨d,0,none⟩) 1 1) [i]:=rc G c9;obtain⟨a4,e9⟩:=a2.newL e4 hu h4 q2 (by omega);refine⟨W,_,⟨92,[(1,.ref (aT r)),(3,.sc (.slice A2 (L.length+1) c2)),(4,bT (dL r.sch.cols)),(5,nI i)],[],[]⟩,?_,Sim.mk a4.env a4.okw (by rw[fy];exact hn) d9 (SlotL.look (l:=[(1,.ref (aT r)),(3,.sc (.slice A2 (L.length+1) c2)),(4,bT (dL r.sch.cols)),(5,nI i)]) ⟨?_,lr i3,lr ((eC _ us _ 4 Z).trans q1),lr ((eC _ us _ 5 Z).trans h9),trivial⟩)⟩
  ·show BWP _ _ _ _ _
   refine BWP.of<|ae<|aa 1 Z<|af (t:=nI (i+1)) Z Z Z (ah (ai Z Z Z Zy) (bu (by omega)))<|aa 1 Z<|ag<|⟨r.tups.length-(i+1),by omega,i+1,_,(K.insertIdx p (aG r.sch t.vals)),A2,c2,_,_,by omega,Z,?_,kJ (by simp<;>omega) Z a4,Z,Z,qp (by simp<;>omega),Z,Z⟩;rw[gC b0 d0];unfold gV;rw[if_neg e1];simp only;rw[if_neg (c:=((K[bk K (aG r.sch t.vals)]?).any fun x=>aO x (aG r.sch t.vals)==0)=true) (by rw[hf];exact MR),hp,kb L _ (by omega)]
  show FT _ [(b8 a.tmps ([some 82,some 83,some 84,some 85,some 86,some 87,some 88,some 89,some 90,some 3].zip us)).getD 1 undef] _
  rw[eC _ us _ 1 Z,r6];exact FT.gg (k4.mono e4.size e9)
 obtain rfl:i=r.tups.length:=by have:=of_decide_eq_false hc;omega
 rw[M9]at b0;have p2:L=aP r:=by
  unfold aP;rw[if_neg (by rw[a5];exact MR),b0]
 refine l8 fun a w q=>⟨w0,G0,⟨92,[(3,.sl ((aP r).map iQ))],[],[]⟩,?_,l7 ?_⟩
 ·obtain⟨-,-,H,-⟩:=q.facts;have B:=o.later H;refine q.back o.e0 o.ok0 B.below ⟨?_,trivial⟩;show FT _ [a.tmps.getD 3 undef] _
  rw[q.lit (v:=.slice J L.length D) Z,<-p2];exact FT.gg (B.nest.pt fun g z h2=>by have:=(o.nest.ok g z).1;have:=(o.ok0 g h2).1;omega)
 refine⟨Z,Z,?_⟩;show AWP _ _ _ _ _
 refine ab<|aj 2 Z<|aC<|⟨.inr Z,_,.cons Z .nil,Z,Z⟩
end Go.Proofs.YtfoejfohbkmmeaaGreatDoor
