import Derived.Test.YtfoejfohbkmmeaaGreatDoorP32
import Derived.Test.YtfoejfohbkmmeaaGreatDoorP00
import Derived.Test.YtfoejfohbkmmeaaGreatDoorP06
set_option maxRecDepth 100000
set_option maxHeartbeats 4000000
namespace Go.Proofs.YtfoejfohbkmmeaaGreatDoor
open Go.RowKit
open Lib renaming hid→J
structure RgI (w0:World) (G0:Nat->Prop) (r:Rel) (m:Nat) (w1:World) (G1:Nat->Prop) (S:St) (i:Nat) (L:List (List Nat)) (K:List (List V)) (AO:Option Addr) (cO:Nat) (vs:List Value) (sl:List (Nat×Tree)):Prop where
 hi:i<=r.tups.length
 hm:m=r.tups.length-i
 st:dE r.sch ([],[]) 0 (r.tups.take i)=(K,L)
 side:Side w0 G0 w1 G1 (.slice AO L.length cO) vs L (.slice none 0 0) [] []
 hS:S=⟨92,sl,[],[]⟩
 s1:look sl 1=.ref (aV r)
 s3:look sl 3=.sc (.slice AO L.length cO)
 s4:look sl 4=.sc (.bool (d6 r.sch.cols))
 s5:look sl 5=.sc (.int .i64 (i:Nat))
def LS(w0:World)(G0:Nat->Prop)(r:Rel)(m:Nat)(w1:World)(G1:Nat->Prop)(S:St):Prop:=∃i L K AO cO vs sl,RgI w0 G0 r m w1 G1 S i L K AO cO vs sl
def L2(r:Rel)(vO:Value)(i p:Nat)(f:Bool)(S:St):Prop:=∃sl,S=⟨92,sl,[],[]⟩/\look sl 1=.ref (aV r)/\look sl 3=.sc vO/\look sl 4=.sc (.bool (d6 r.sch.cols))/\look sl 5=.sc (.int .i64 (i:Nat))/\look sl 7=.sc (.int .i64 (p:Nat))/\look sl 8=.sc (.bool f)
theorem A8(r:Rel)(h:FitR r)(h8:∀t∈r.tups,t.vals.length=r.sch.cols.length):Ct 95 [r.tree] (.sl ((aW r).map jj)):=by
 refine Ct.of (n:=92) Tryz.func95 Z Z Z Z Z fun w0 G0=>?_
 refine ab<|ae<|aa 1 Z<|af (t:=.sl []) Z Z Z (cz (.inr Z) dk)<|ag<|ab<|aj 1 Z<|ab<|ab<|aj 3 Z<|aF Z (fun a0=>?_) (fun a0=>?_)
 ·have a9:=a0;refine ab<|ae<|af (t:=.sl []) Z Z Z (cz (.inr Z) dk)<|ag<|aw<|⟨.inr Z,_,.cons Z .nil,by unfold aW;rw[a9];rfl,Z⟩
 have a9:=a0;refine am<|ab<|ae<|aa 2 Z<|af Z Z Z (ak Z (A6 r.sch h.cols) Z Z)<|aa 1 Z<|ag<|ab<|ab<|aj 1 Z<|aB<|wl<|jQ fun a w q=>?_
 obtain⟨o2,k3,v5,i5,p2⟩:=q.unbox (ty:=30) (l:=[(1,.ref (aV r)),(3,.sc (.slice none 0 0)),(4,bT (d6 r.sch.cols)),(5,nI 0)]) rfl rfl rfl ⟨.inr ⟨0,rfl,rfl⟩,.inl ⟨rfl,rfl⟩,.inl ⟨rfl,rfl⟩,.inl ⟨rfl,rfl⟩,trivial⟩;refine⟨w,G0,_,o2,?_⟩;clear q o2;refine xH (LS w0 G0 r) r.tups.length ⟨0,[],[],none,0,[],_,Mp _,Z,Z,⟨Nest.nil _ _,KeyR.nil _ _ _,fun b O=>(by cases O),fun b=>⟨.inl,fun h=>h.elim id fun h=>h.elim (fun h=>h.elim (fun h=>by cases h) fun⟨u,hu,_⟩=>by cases hu) fun h=>by cases h⟩,k3,v5,i5⟩,Z,Z,Z,Z,Z⟩ ?_;clear k3 p2 a w;rintro m w1 G1 S ⟨i,L,K,J,D,vs,sl,hi,rfl,b2,o,rfl,s1,s3,s4,s5⟩;obtain⟨y2,y4,v4,y1,-⟩:=uT b2 hi h8;have y5:=h.tups;refine mu [(1,.ref (aV r)),(3,.sc (.slice J L.length D)),(4,bT (d6 r.sch.cols)),(5,nI i)] (.cons s1 Z (.cons s3 Z (.cons s4 Z (.cons s5 Z .nil))))<|ch (ch (BWP.of ?_));refine ae<|aa 3 Z<|af (t:=nI r.tups.length) Z Z Z (ah (aZ Z aN Z) (by simp only[L5]))<|af (t:=bT (decide (i<r.tups.length))) Z Z Z (ah (ai Z Z Z Zy) (ar (gA i r.tups.length)))<|ag ?_;show BWP _ _ w1 G1 _
 refine jP (b:=decide (i<r.tups.length)) Z (fun hc=>?_) (fun hc=>?_)
 ·replace hc:=of_decide_eq_true hc;obtain⟨t,e1⟩:∃t,r.tups[i]? =some t:=⟨_,L3 hc⟩;have h3:=L7 e1;have p4:=h.tup t h3;refine jO ?_;show BWP _ _ w1 G1 _
  refine ch (uv ?_);refine ch (ch (BWP.of ?_));refine ae<|aa 1 Z<|af (t:=bT (!(d6 r.sch.cols))) Z Z Z (dm Z Z Zy)<|ag ?_;show BWP _ _ w1 G1 _
  refine jP (b:= !(d6 r.sch.cols)) Z (fun hk=>?_) (fun hk=>?_)
  ·have v0:(aG r.sch t.vals)=[]:=(ti (h8 t h3)).2 (by simpa using hk);refine ch (ee ?_);refine bI (t:=.sc (.slice J L.length D)) Z Z Z (au Z Z)<|bI (t:=nI i) Z Z Z (au Z Z)<|lD Z Z Z Z cL iH (fun a w q=>by rw[q.lit (v:=.int .i64 (i:Nat)) Z];exact⟨Z,Z⟩) fun a w q=>?_
   rw[q.lit (v:=.int .i64 (i:Nat)) Z];obtain⟨-,-,H,-⟩:=q.facts;obtain⟨wa,I⟩:∃wa,w.alloc (.cells #[.int .i64 (i:Nat)] 3)=wa:=⟨_,rfl⟩;have h6:Below w1.heap.size w1 wa:=by rw[<-I];exact H.alloc H.size _
   have N:wa.heap[w.heap.size]? =some (.cells #[.int .i64 (i:Nat)] 3 (0,0)):=by rw[<-I];exact heap_alloc_new _ _
   have c9:=H.size;have b5:wa.heap.size=w.heap.size+1:=by rw[<-I];simp
   rw[I];obtain⟨R,a3⟩:∃R,w.heap.size=R:=⟨_,rfl⟩;rw[a3]at N c9 b5;rw[a3];clear q H I a3 a w;refine fT Z Z Z Z ci lS (fun a w q=>by rw[q.lit (v:=.slice (some ⟨R,0,none⟩) 1 1) Z];rfl) fun a w q=>?_
   rw[q.lit (v:=.slice (some ⟨R,0,none⟩) 1 1) Z];obtain⟨-,-,C,-⟩:=q.facts;obtain⟨wb,c5⟩:∃wb,w.alloc (.cells #[.slice (some ⟨R,0,none⟩) 1 1] 23)=wb:=⟨_,rfl⟩;have g0:Below wa.heap.size wa wb:=by rw[<-c5];exact C.alloc C.size _
   have f0:wb.heap[w.heap.size]? =some (.cells #[.slice (some ⟨R,0,none⟩) 1 1] 23 (0,0)):=by rw[<-c5];exact heap_alloc_new _ _
   have k2:=C.size;have p0:wb.heap.size=w.heap.size+1:=by rw[<-c5];simp
   rw[c5];obtain⟨bB,g1⟩:∃bB,w.heap.size=bB:=⟨_,rfl⟩;rw[g1]at f0 k2 p0;rw[g1];clear q C c5 g1 a w;refine eS Z fun a w q=>?_
   obtain⟨p2,y3,M,-⟩:=q.facts;have Y:Below w1.heap.size w1 w:=aE (aE h6 g0 h6.size) M (Ma h6.size g0.size);have X:w.heap[R]? =some (.cells #[.int .i64 (i:Nat)] 3 (0,0)):=by rw[M.block R (by omega),g0.block R (by omega)];exact N
   have h9:w.heap[bB]? =some (.cells #[.slice (some ⟨R,0,none⟩) 1 1] 23 (0,0)):=by rw[M.block bB (by omega)];exact f0
   obtain⟨_,_,f8,_⟩:=fL h9;have x2:=o.nest.len;have B:=o.later Y;have hu:EIs w w0.heap.size (.slice (some ⟨R,0,none⟩) 1 1) [i]:=rH X (by have:=o.below.size;omega);obtain⟨v',w',E,m1,k4,r0,d4⟩:=pE (n:=L.length) (m:=1) (c:=1) (A:=some ⟨bB,0,none⟩) (news:=[.slice (some ⟨R,0,none⟩) 1 1]) B.nest.row (fun e=>by cases e) (fun b O j x hj=>by
    injection O with O
    subst O;cases j with
    |zero=>simp at hj;subst hj;exact f8
    |succ j=>simp at hj) Z (fun u hu=>by rw[Mm.1 hu];exact⟨Z,Z⟩) (by omega) (by have:=o.below.size;have:=Y.size;omega) B.nest.rd
   have o1:w'.ownsRow w0.heap.size 23 1 v' (L.length+1) (vs.take L.length++[.slice (some ⟨R,0,none⟩) 1 1]++vs.drop L.length):=by rw[Me (by omega),Md (by omega),Mq];exact m1
   obtain⟨b0,h5⟩:=o.insL Y hu (fun g z=>by have F:some R=some g:=z;injection F with F;omega) o1 k4 r0 d4 (L4 _);obtain⟨A2,c2,rfl⟩:=cF m1;refine aC (v:=.slice A2 (L.length+1) c2) (W':=w') (jR (T:=fun s=>a.tmps.getD s undef) rfl (q.lit rfl) (q.lit rfl) E) ⟨w',_,_,fE (q.turn b0.env b0.okw k4.size fun b u1 hG=>h5 b u1 fun h=>hG (h.imp id fun e=>by injection e with e;exact e.symm)) (by decide) (.pure (.sc _ .nil) .nil),?_⟩;refine bI (t:=.sc (.slice A2 (L.length+1) c2)) Z Z Z (bp Z Z)<|fD ?_;show BWP _ _ _ _ _
   refine ms ?_;show BWP _ _ _ _ _
   refine BWP.of<|ae<|aa 1 Z<|af (t:=nI (i+1)) Z Z Z (ah (ai Z Z Z Zy) (bi (by omega)))<|aa 1 Z<|ag<|⟨r.tups.length-(i+1),by omega,i+1,_,(K++[(aG r.sch t.vals)]),A2,c2,_,_,by omega,Z,?_,lf (by simp<;>omega) Z b0,Z,Z,qV (by simp<;>omega),Z,Z⟩;rw[gZ b2 e1];unfold iw;rw[if_pos v0,Me (L4 _),Md (L4 _),Mq]
  have d3:∀t∈r.tups,aG r.sch t.vals≠ []:=fun t ht e=>by
   rw[(ti (h8 t ht)).1 e]at hk;cases hk
  have f1:=d3 t h3;have w6:(aG r.sch t.vals).length<=65536:=Ma (iG _ _) h.cols;refine jO ?_;show BWP _ _ w1 G1 _
  refine ch (BWP.of ?_);refine cf (fu:=10) [some 31,some 32,some 33,some 34,some 35,some 36,some 37,some 38,some 39,some 6] [.ref (aV r),.agg (dj r.sch),.ref [.sl (r.tups.map Tp.tree)],.sl (r.tups.map Tp.tree),nI i,.ref (bV t),.ref (bV t),.sl (t.vals.map V.tree),.sl ((aG r.sch t.vals).map V.tree),.sl ((aG r.sch t.vals).map V.tree)] (by kernel_rfl) Z Z (by kernel_rfl) Z ?_ ?_
  ·refine Chain.op Z (bH Z Z fy Z)<|Chain.op Z (ck Z Z eI Z Z)<|Chain.op Z (bH Z Z bd Z)<|Chain.op Z (bz Z Z bJ Z)<|Chain.op Z (au Z Z)<|Chain.op Z (aM (Tp.tree t) Z aN Z Z Z (aS (f:=Tp.tree) e1) (bS _) Z)<|Chain.op Z (bH Z Z b9 Z)<|Chain.op Z (bz Z Z cU Z)<|Chain.op Z (ak Z (CE r.sch t.vals p4.2) Z Z)<|Chain.op Z (bp Z Z)<|Chain.nil
  show BWP _ _ w1 G1 _
  refine ch (BWP.of ?_);refine aj 2 Z ?_;show BWP _ _ w1 G1 _
  refine F0 (L2 r (.slice J L.length D) i (bu K (aG r.sch t.vals)) ((K[bu K (aG r.sch t.vals)]?).any fun x=>aX x (aG r.sch t.vals)==0)) ?_ fun S hS=>?_
  ·refine aB<|aR (fun n_ S_=>∃(j:Nat) (f:Bool),(f=false/\j<=L.length/\∀x y,x<j->K[x]? =some y->aX y (aG r.sch t.vals)<0)/\n_=L.length-j/\S_=⟨92,[(1,.ref (aV r)),(3,.sc (.slice J L.length D)),(4,bT (d6 r.sch.cols)),(5,nI i),(6,.sl ((aG r.sch t.vals).map V.tree)),(7,nI j),(8,bT f)],[],[]⟩) 0 0 ⟨0,false,⟨Z,Mp _,fun x y hx=>absurd hx (Oo x)⟩,Z,Z⟩ .rf ?_;rintro n_ S_ ⟨j,f,⟨r3,hj,d1⟩,rfl,rfl⟩;refine ab<|ab<|ae<|aa 2 Z<|af (t:=nI L.length) Z Z Z (oU Z ci Z)<|af (t:=bT (decide (j<L.length))) Z Z Z (ah (ai Z Z Z Zy) (ar (gA j L.length)))<|ag<|aD Z (fun a5=>?_) (fun a5=>?_)
   ·obtain⟨g,rfl⟩:∃g,J=some ⟨g,0,none⟩:=by
     rcases o.nest.row.2 with⟨_,hn⟩|⟨g,i1,cur,hv,_⟩
     ·omega
     injection hv with h1;exact⟨g,h1⟩
    have j2:=o.nest.len;obtain⟨u,U⟩:∃u,vs[j]? =some u:=⟨_,L3 (by omega)⟩;obtain⟨l,a2⟩:∃l,L[j]? =some l:=⟨_,L3 (by omega)⟩;obtain⟨h0,tl,t2,hl,n0,f4⟩:=Gr b2 d3 a2;have k0:=h.tup t2 (L7 n0);have c0:=o.nest.el _ u l U a2;obtain⟨gu,cu,rfl⟩:∃gu cu,u=.slice (some ⟨gu,0,none⟩) l.length cu:=by
     rcases c0.1.2 with⟨_,hn⟩|⟨g2,i1,cur,hv,_⟩
     ·rw[hl]at hn;simp at hn
     exact⟨g2,i1,hv⟩
    have w3:w1.cell? ⟨gu,0,none⟩=some (.int .i64 (h0:Nat)):=by
     have:=World.ownsRow.cells c0.1 (g:=gu) Z 0 (.int .i64 (h0:Nat)) (by rw[hl];rfl);rwa[nA]at this
    have g3:w1.cell? ⟨g,j,none⟩=some (.slice (some ⟨gu,0,none⟩) l.length cu):=by
     have:=World.ownsRow.cells o.nest.row (g:=g) Z _ _ U;rwa[nA]at this
    refine am<|aB<|ab<|AQ (fu:=17) [some 44,some 45,some 46,some 47,some 48,some 49,some 50,some 51,some 52,some 53,some 54,some 55,some 56,some 57,some 58,some 59,some 9] [.ref (aV r),.agg (dj r.sch),.ref [.sl (r.tups.map Tp.tree)],.sl (r.tups.map Tp.tree),.sc (.slice (some ⟨g,0,none⟩) L.length D),nI j,.sc (.pointer (some ⟨g,j,none⟩)),.sc (.slice (some ⟨gu,0,none⟩) l.length cu),.sc (.pointer (some ⟨gu,0,none⟩)),nI h0,.ref (bV t2),.ref (bV t2),.sl (t2.vals.map V.tree),.sl ((aG r.sch t2.vals).map V.tree),.sl ((aG r.sch t.vals).map V.tree),iT (aX (aG r.sch t2.vals) (aG r.sch t.vals)),iT (aX (aG r.sch t2.vals) (aG r.sch t.vals))] (by kernel_rfl) Z Z (by kernel_rfl) Z ?_ ?_
    ·refine dB (t:=.ref (aV r)) Z (bH Z Z fy Z)<|dB (t:=.agg (dj r.sch)) Z (ck Z Z eI Z Z)<|dB (t:=.ref [.sl (r.tups.map Tp.tree)]) Z (bH Z Z bd Z)<|dB (t:=.sl (r.tups.map Tp.tree)) Z (bz Z Z bJ Z)<|dB (t:=.sc (.slice (some ⟨g,0,none⟩) L.length D)) Z (au Z Z)<|dB (t:=nI j) Z (au Z Z)<|dB (t:=.sc (.pointer (some ⟨g,j,none⟩))) Z (i8 (j:=j) Z ci Z Z Z (by omega) (by simp))<|ChainB.op (t:=.sc (.slice (some ⟨gu,0,none⟩) l.length cu)) Z (yp Z Z lR (o.nest.ok g (.inl Z)).2.1 g3)<|dB (t:=.sc (.pointer (some ⟨gu,0,none⟩))) Z (i8 (j:=0) Z cL Z Z Z (by rw[hl];exact PA _) Z)<|ChainB.op (t:=nI h0) Z (yp Z Z fi (c0.1.lt gu Z).2 w3)<|dB (t:=.ref (bV t2)) Z (aM (Tp.tree t2) Z aN Z Z Z (aS (f:=Tp.tree) n0) (bS _) Z)<|dB (t:=.ref (bV t2)) Z (bH Z Z b9 Z)<|dB (t:=.sl (t2.vals.map V.tree)) Z (bz Z Z cU Z)<|dB (t:=.sl ((aG r.sch t2.vals).map V.tree)) Z (ak Z (CE r.sch t2.vals k0.2) Z Z)<|dB (t:=.sl ((aG r.sch t.vals).map V.tree)) Z (au Z Z)<|dB (t:=iT (aX (aG r.sch t2.vals) (aG r.sch t.vals))) Z (ak Z (lT _ _ (Ma (iG _ _) h.cols) w6) Z Z)<|dB (t:=iT (aX (aG r.sch t2.vals) (aG r.sch t.vals))) Z (bp Z Z)<|ChainB.nil
    refine ab<|ae<|aa 1 Z<|af (t:=bT ((aX (aG r.sch t2.vals) (aG r.sch t.vals))==0)) Z Z Z (ai Z Z Z Zy)<|aa 1 Z<|ag<|ab<|ab<|ae<|aa 1 Z<|af (t:=bT (decide ((aX (aG r.sch t2.vals) (aG r.sch t.vals))≥0))) Z Z Z (ai Z Z Z Zy)<|ag<|aD Z (fun q8=>?_) (fun q8=>?_)
    ·refine aT ?_;have c4:bu K (aG r.sch t.vals)=j:=tj (by omega) d1 fun y hy=>by
      rw[f4]at hy;injection hy with hy
      subst hy;omega
     exact⟨Z,_,Z,Z,Z,Z,Z,by rw[c4];rfl,by rw[c4,f4];rfl⟩
    refine am<|ae<|aa 1 Z<|af (t:=nI (j+1)) Z Z Z (ah (ai Z Z Z Zy) (bi (by omega)))<|aa 1 Z<|ag<|⟨_,_,?_,⟨j+1,(aX (aG r.sch t2.vals) (aG r.sch t.vals))==0,?_,Z,Z⟩,.rf⟩
    ·omega
    refine⟨by rw[beq_eq_false_iff_ne];omega,by omega,fun x y hx hy=>?_⟩;by_cases q9:x<j
    ·exact d1 x y q9 hy
    obtain rfl:x=j:=by omega
    rw[f4]at hy;injection hy with hy
    subst hy;omega
   refine aT ?_;obtain rfl:j=L.length:=by omega
   have c4:bu K (aG r.sch t.vals)=L.length:=tj (by omega) d1 fun y hy=>by
    rw[Nn (by omega)]at hy;cases hy
   exact⟨Z,_,Z,Z,Z,Z,Z,by rw[c4];rfl,by rw[r3,c4,Nn (by omega)];rfl⟩
  obtain⟨sl,rfl,t1,t3,t4,t5,t7,t8⟩:=hS;refine mu [(1,.ref (aV r)),(3,.sc (.slice J L.length D)),(4,bT (d6 r.sch.cols)),(5,nI i),(7,nI (bu K (aG r.sch t.vals))),(8,bT ((K[bu K (aG r.sch t.vals)]?).any fun x=>aX x (aG r.sch t.vals)==0))] (.cons t1 Z (.cons t3 Z (.cons t4 Z (.cons t5 Z (.cons t7 Z (.cons t8 Z .nil))))))<|ch (ch (BWP.of ?_));refine aj 1 Z ?_;show BWP _ _ w1 G1 _
  refine jP (b:=((K[bu K (aG r.sch t.vals)]?).any fun x=>aX x (aG r.sch t.vals)==0)) Z (fun hf=>?_) (fun hf=>?_)
  ·have x3:bu K (aG r.sch t.vals)<K.length:=by
    rcases MA (bu K (aG r.sch t.vals)) K.length with h|h
    ·exact h
    rw[Nn h]at hf;cases hf
   obtain⟨g,rfl⟩:∃g,J=some ⟨g,0,none⟩:=by
    rcases o.nest.row.2 with⟨_,hn⟩|⟨g,i1,cur,hv,_⟩
    ·omega
    injection hv with h1;exact⟨g,h1⟩
   have j2:=o.nest.len;obtain⟨u,U⟩:∃u,vs[bu K (aG r.sch t.vals)]? =some u:=⟨_,L3 (by omega)⟩;obtain⟨l,a2⟩:∃l,L[bu K (aG r.sch t.vals)]? =some l:=⟨_,L3 (by omega)⟩;have x4:=v4 l (L7 a2);refine ch (ee ?_);refine bI (t:=.sc (.slice (some ⟨g,0,none⟩) L.length D)) Z Z Z (au Z Z)<|bI (t:=nI (bu K (aG r.sch t.vals))) Z Z Z (au Z Z)<|bI (t:=.sc (.slice (some ⟨g,0,none⟩) L.length D)) Z Z Z (au Z Z)<|bI (t:=nI (bu K (aG r.sch t.vals))) Z Z Z (au Z Z)<|bI (t:=.sc (.pointer (some ⟨g,bu K (aG r.sch t.vals),none⟩))) Z Z Z (i8 (j:=bu K (aG r.sch t.vals)) Z ci Z Z Z (by omega) (by simp))<|nW (u:=u) Z Z Z Z Z lR (o.nest.ok g (.inl Z)).2.1 ?_ ?_
   ·have:=World.ownsRow.cells o.nest.row (g:=g) Z _ _ U;rwa[nA]at this
   refine bI (t:=nI i) Z Z Z (au Z Z)<|fT Z Z Z Z cL iH (fun a w q=>by rw[q.lit (v:=.int .i64 (i:Nat)) Z];rfl) fun a w q=>?_
   rw[q.lit (v:=.int .i64 (i:Nat)) Z];obtain⟨-,-,H,-⟩:=q.facts;have N:(w.alloc (.cells #[.int .i64 (i:Nat)] 3)).heap[w.heap.size]? =some (.cells #[.int .i64 (i:Nat)] 3 (0,0)):=heap_alloc_new _ _;have m2:=(o.later H).later ((Below.refl w.heap.size w).alloc (L4 _) (.cells #[.int .i64 (i:Nat)] 3));have c9:=H.size;have b5:(w.alloc (.cells #[.int .i64 (i:Nat)] 3)).heap.size=w.heap.size+1:=by simp
   obtain⟨wa,I⟩:∃wa,w.alloc (.cells #[.int .i64 (i:Nat)] 3)=wa:=⟨_,rfl⟩;rw[I]at N m2 b5;rw[I];obtain⟨R,a3⟩:∃R,w.heap.size=R:=⟨_,rfl⟩;rw[a3]at N c9 b5;rw[a3];clear q H I a3 a w;refine eS Z fun a w q=>?_
   obtain⟨-,-,C,-⟩:=q.facts;have B:=m2.later C;have c0:=B.nest.el _ u l U a2;have X:w.heap[R]? =some (.cells #[.int .i64 (i:Nat)] 3 (0,0)):=by rw[C.block R (by omega)];exact N
   obtain⟨_,_,q2,_⟩:=fL X;obtain⟨i0,q7,q3,r1,s9⟩:=info_parts yr;obtain⟨u2,w2,E,c1,F,i9,G⟩:=mS (P:=Tryz.prog) w w0.heap.size 23 23 3 i0 (.int .i64 0) 1 8 Tryz.underlying23 q7 q3 r1 s9 rfl (by decide) u l.length (od l) c0.1 (some ⟨R,0,none⟩) 1 1 [.int .i64 (i:Nat)] rfl (fun e=>by cases e) (fun b O j x hj=>by
    injection O with O
    subst O;cases j with
    |zero=>simp at hj;subst hj;exact q2
    |succ j=>simp at hj) (fun x hx=>by rw[Mm.1 hx];rfl) (by unfold maxLen;omega) (by omega) (by have:=B.below.size;omega) (by decide) Z c0.2
   have Q:w2.ownsRow w0.heap.size 3 1 u2 (l.length+1) (od (l++[i])):=by rw[show od (l++[i])=od l++[.int .i64 (i:Nat)] by simp[od]];exact c1
   obtain⟨v6,u0,w5⟩:=B.app1 U F i9 G fun g z=>(c1.lt g z).2
   obtain⟨A2,c2,f3⟩:=cF c1;refine aC (v:=u2) (W':=w2) (jR (T:=fun s=>a.tmps.getD s undef) Z (q.lit Z) (q.lit Z) E) ⟨w2,_,_,fE (q.turn u0 v6 F.size w5) (by decide) (.pure (.sc u2 .nil) .nil),?_⟩;clear q C N X a;refine bI (t:=.sc (.pointer (some ⟨g,bu K (aG r.sch t.vals),none⟩))) Z Z Z (i8 (j:=bu K (aG r.sch t.vals)) Z ci Z Z Z (by omega) (by simp))<|eS Z fun a wb q=>?_
   obtain⟨-,-,M,-⟩:=q.facts;obtain⟨i2,r2⟩:=B.app2 U a2 rfl Q F i9 G (by rw[f3];rfl) M;have m3:=(B.nest.ok g (.inl Z)).2.1;have v3:wb.heap[g]? =w.heap[g]? :=by
    have h1:w2.heap[g]? =w.heap[g]? :=eh F m3 fun e=>B.nest.out u (L7 U) g e Z
    rw[M.block g (Mj m3 F.size)];exact h1
   have e9:=im B.nest.row (w':=wb) fun b O=>by injection O with O;subst O;exact v3
   have g3:wb.cell? ⟨g,bu K (aG r.sch t.vals),none⟩=some u:=by
    have:=World.ownsRow.cells e9 (g:=g) Z _ _ U;rwa[nA]at this
   refine fQ (W':=wb.setCell ⟨g,bu K (aG r.sch t.vals),none⟩ u2) (mv (T:=fun s=>a.tmps.getD s undef) Z (q.lit Z) (q.lit Z) s0 (by rw[f3];rfl) g3 (dz e9 _)) ⟨_,_,_,q.turn i2.env i2.okw (by simp[World.setCell]) r2,?_⟩;refine fD ?_;show BWP _ _ _ _ _
   refine ms ?_;show BWP _ _ _ _ _
   refine BWP.of<|ae<|aa 1 Z<|af (t:=nI (i+1)) Z Z Z (ah (ai Z Z Z Zy) (bi (by omega)))<|aa 1 Z<|ag<|⟨r.tups.length-(i+1),by omega,i+1,_,K,some ⟨g,0,none⟩,D,_,_,by omega,Z,?_,lf (by simp) Z i2,Z,Z,qV (by simp),Z,Z⟩;rw[gZ b2 e1];unfold iw;rw[if_neg f1];simp only;rw[if_pos (c:=((K[bu K (aG r.sch t.vals)]?).any fun x=>aX x (aG r.sch t.vals)==0)=true) hf,sZ _ a2]
  refine jO ?_;show BWP _ _ w1 G1 _
  have x0:=yq K (aG r.sch t.vals);obtain⟨p,hp⟩:∃p,bu K (aG r.sch t.vals)=p:=⟨_,rfl⟩;rw[hp]at x0⊢;refine jQ fun a wB q=>?_
  obtain⟨f5,r4,H,hn,e4,q5⟩:=q.facts;have a4:=o.later H;obtain⟨v1,h4⟩:∃v,a.tmps.getD 1 undef=v:=⟨_,rfl⟩;have l5:=q.slot (i:=1) (t:=.ref (aV r)) Z Z;rw[h4]at l5;refine⟨wB,fun _=>False,⟨92,[(1,.sc v1),(3,.sc (.slice J L.length D)),(4,bT (d6 r.sch.cols)),(5,nI i),(7,nI p)],[],[]⟩,Sim.mk f5 (fun g z=>z.elim) hn e4 (SlotL.look (l:=[(1,.sc v1),(3,.sc (.slice J L.length D)),(4,bT (d6 r.sch.cols)),(5,nI i),(7,nI p)]) ⟨kG h4,kG (q.lit (i:=3) Z),kG (q.lit (i:=4) Z),kG (q.lit (i:=5) Z),kG (q.lit (i:=7) Z),trivial⟩),?_⟩;clear h4 q q5 hn e4 a r4;obtain⟨m4,-⟩:=sY (l:=0) (h:=0) a4.nest.row (L4 _) (Mp _);refine ch (ee ?_);refine eS Z fun a w q=>?_
  obtain⟨-,-,C,-⟩:=q.facts;have a1:Below wB.heap.size wB (w.alloc (.cells #[] 23)):=C.alloc C.size _;have c3:(w.alloc (.cells #[] 23)).ownsRow wB.heap.size 23 1 (.slice (some ⟨w.heap.size,0,none⟩) 0 0) 0 []:=World.ownsRow_lit (base:=wB.heap.size) (e:=23) (size:=1) w #[] 0 C.size (by simp[maxLen]) (by simp);have e5:NoDigB (w.alloc (.cells #[] 23)) w.heap.size:=cH (heap_alloc_new _ _) Z;refine aC (v:=.slice (some ⟨w.heap.size,0,none⟩) 0 0) (W':=w.alloc (.cells #[] 23)) (by
   simp only[execOp,dU];go_simp) ⟨_,_,_,fE (q.lits (f5.below a1 (L4 _)) Z) (by decide) (.pure (.sc _ .nil) .nil),?_⟩
  obtain⟨wa,I⟩:∃wa,w.alloc (.cells #[] 23)=wa:=⟨_,rfl⟩;rw[I]at a1 c3 e5;rw[I];obtain⟨bO,f7⟩:∃b,w.heap.size=b:=⟨_,rfl⟩;rw[f7]at c3 e5;rw[f7];clear q C I f7 a w;refine bI (t:=.sc (.slice J L.length D)) Z Z Z (au Z Z)<|bI (t:=nI p) Z Z Z (au Z Z)<|bI (t:=.sc (.slice (nB J 0 D) (p-0) (D-0))) Z Z Z (DG (l:=0) (h:=p) Z ci Z Z ⟨_,Z⟩ (Mp _) (by omega) m4)<|eS Z fun a w q=>?_
  obtain⟨-,-,M,-⟩:=q.facts;have Y:=aE a1 M a1.size;have B:=a4.later Y;have o3:=B.nest.len;obtain⟨-,a0,a5⟩:=sY (l:=0) (h:=p) B.nest.row (Mp _) (by omega);obtain⟨v2,w2,E,c1,F,-,G⟩:=pE (n:=0) (m:=p-0) (c:=D-0) (A:=nB J 0 D) (news:=(vs.take p).drop 0) (eA c3 M) a0 a5 (by simp;omega) (fun u hu=>B.nest.ones u (ME (Nd hu))) (by omega) Y.size (fun g z=>by have F:some bO=some g:=z;injection F with F;subst F;exact e5.of (M.block _ (c3.lt _ rfl).2));have e6:Below wB.heap.size wB w2:=Y.grown F Y.size fun k e=>(c3.lt k e).1
  have Q:w2.ownsRow wB.heap.size 23 1 v2 p (vs.take p):=by simpa using c1
  obtain⟨AX,cX,rfl⟩:=cF Q;refine aC (v:=.slice AX p cX) (W':=w2) (jR (T:=fun s=>a.tmps.getD s undef) Z (q.lit Z) (q.lit Z) E) ⟨w2,_,_,fE (q.lits (f5.below e6 (L4 _)) Z) (by decide) (.pure (.sc _ .nil) .nil),?_⟩;clear q a0 a5 E c1 F B Y M c3 e5 a1 a w;refine bI (t:=.sc (.slice AX p cX)) Z Z Z (bp Z Z)<|fD ?_;show BWP _ _ _ _ _
  intro a w q;obtain⟨-,-,e7,hn,e4,-⟩:=q.facts;have e3:=aE e6 e7 e6.size;have l1:=eA Q e7;have u8:∀g,(Value.slice AX p cX).ownBlock=some g->NoDigB w g:=fun g z=>(G g z).of (e7.block g (Q.lt g z).2)
  have q4:a.tmps.getD 1 undef=v1:=q.lit Z;have s2:a.tmps.getD 3 undef=.slice J L.length D:=q.lit Z;have t0:a.tmps.getD 4 undef=.bool (d6 r.sch.cols):=q.lit Z;have i3:a.tmps.getD 5 undef=.int .i64 (i:Nat):=q.lit Z;have w4:a.tmps.getD 7 undef=.int .i64 (p:Nat):=q.lit Z;have l2:a.tmps.getD 10 undef=.slice AX p cX:=q.lit Z;have o3:=a4.nest.len;have k1:∀W,Below wB.heap.size w W->W.ownsRow w0.heap.size 23 1 (.slice J L.length D) L.length vs:=fun W hW=>im a4.nest.row fun b O=>(e3.trans hW).block b (a4.nest.ok b (.inl O)).2.1
  clear q e7 G e6 Q;refine rp [some 82,some 83,some 84,some 85,some 86,some 87,some 88,some 89,some 90,some 3] (Kd wB.heap.size p i L.length vs (.slice AX p cX) (.slice J L.length D) (.slice (nB J p D) (L.length-p) (D-p))) [true,true,false,false,false,true,true,true,false,false] [none,none,some 3,some 4,some 8,none,none,none,none,none] [4,8] wB.heap.size (fun W=>W.ownsRow wB.heap.size 23 1 (.slice AX p cX) p (vs.take p)/\∀g,(Value.slice AX p cX).ownBlock=some g->NoDigB W g) 4 ⟨eA l1 (Below.refl _ _).drew,fun g z=>(u8 g z).of ((Below.refl w.heap.size w).drew.block g (l1.lt g z).2)⟩ (fun W W' h O=>⟨eA h.1 O,fun g z=>(h.2 g z).of (O.block g (h.1.lt g z).2)⟩) (by kernel_rfl) (by kernel_rfl) (by kernel_rfl) Z (by rw[hn];rfl) e3.size (fun W=>D5 _ _ _ _ _ _ _ _ W) (D6 _ _ _ _ _ _ _ _) (by kernel_rfl) ?_ ?_
  ·refine StepsR.cons trivial (fun T W z=>?_) ?_
   ·have e:T 10=.slice AX p cX:=(z.keep 10 Z).trans l2;exact aC (v:=.slice AX p cX) (W':=W) (by simp[execOp,dU,e]) ⟨Z,Below.refl _ _⟩
   refine StepsR.cons trivial (fun T W z=>?_) ?_
   ·have e:T 5=.int .i64 (i:Nat):=(z.keep 5 Z).trans i3;exact aC (v:=.int .i64 (i:Nat)) (W':=W) (by simp[execOp,dU,e]) ⟨Z,Below.refl _ _⟩
   refine StepsR.cons trivial (fun T W z=>?_) ?_
   ·have e:T 83=.int .i64 (i:Nat):=z.fact 1 83 (by kernel_rfl);have b3:=z.size;refine aC (v:=.slice (some ⟨W.heap.size,0,none⟩) 1 1) (W':=W.alloc (.cells #[T 83] 3)) (kj Z cL iH (by rw[e];rfl)) ⟨⟨W.heap.size,Z,b3,by rw[e];exact heap_alloc_new _ _⟩,(Below.refl _ _).alloc (L4 _) _⟩
   refine StepsR.cons trivial (fun T W z=>?_) ?_
   ·obtain⟨b,e,H,C⟩:∃b,T 84=.slice (some ⟨b,0,none⟩) 1 1/\wB.heap.size<=b/\W.heap[b]? =some (.cells #[.int .i64 (i:Nat)] 3 (0,0)):=z.fact 2 84 (by kernel_rfl);have d0:Below W.heap.size W (W.alloc (.cells #[T 84] 23)):=(Below.refl _ _).alloc (L4 _) _;refine aC (v:=.slice (some ⟨W.heap.size,0,none⟩) 1 1) (W':=W.alloc (.cells #[T 84] 23)) (kj Z ci lS (by rw[e];rfl)) ⟨⟨W.heap.size,b,Z,H,j5 d0 C,by rw[e];exact heap_alloc_new _ _⟩,d0⟩
   refine StepsR.cons trivial (fun T W z=>?_) ?_
   ·have e:T 82=.slice AX p cX:=z.fact 0 82 (by kernel_rfl);obtain⟨b,d,e2,d2,G,C⟩:∃b d,T 85=.slice (some ⟨b,0,none⟩) 1 1/\wB.heap.size<=d/\W.heap[d]? =some (.cells #[.int .i64 (i:Nat)] 3 (0,0))/\W.heap[b]? =some (.cells #[.slice (some ⟨d,0,none⟩) 1 1] 23 (0,0)):=z.fact 3 85 (by kernel_rfl);obtain⟨h7,t9⟩:=z.ini (by kernel_rfl);have b3:=z.size;have d0:=z.below;obtain⟨_,_,f8,_⟩:=fL C;obtain⟨v',W',E,ho,b1,-,d4⟩:=pE (n:=p) (m:=1) (c:=1) (A:=some ⟨b,0,none⟩) (news:=[.slice (some ⟨d,0,none⟩) 1 1]) h7 (fun e=>by cases e) (fun b O j x hj=>by
     injection O with O
     subst O;cases j with
     |zero=>simp at hj;subst hj;exact f8
     |succ j=>simp at hj) Z (fun u hu=>by rw[Mm.1 hu];exact⟨Z,Z⟩) (by omega) b3 t9
    have g4:=(MD.1 G).1;refine aC (v:=v') (W':=W') (jR Z e e2 E) ⟨⟨d,d2,(eh b1 g4 (AR h7 G (by decide))).trans G,ho,d4⟩,(Below.refl _ _).grown b1 b3 (fun k e=>(h7.lt k e).1),b1.size⟩
   refine StepsR.cons trivial (fun T W z=>?_) ?_
   ·have e:T 3=.slice J L.length D:=(z.old 9 3 (by kernel_rfl)).trans s2;exact aC (v:=.slice J L.length D) (W':=W) (by simp[execOp,dU,e]) ⟨Z,Below.refl _ _⟩
   refine StepsR.cons trivial (fun T W z=>?_) ?_
   ·have e:T 7=.int .i64 (p:Nat):=(z.keep 7 Z).trans w4;exact aC (v:=.int .i64 (p:Nat)) (W':=W) (by simp[execOp,dU,e]) ⟨Z,Below.refl _ _⟩
   refine StepsR.cons trivial (fun T W z=>?_) ?_
   ·have e:T 87=.slice J L.length D:=z.fact 5 87 (by kernel_rfl);have e2:T 88=.int .i64 (p:Nat):=z.fact 6 88 (by kernel_rfl);have hr:=jK (P:=Tryz.prog) (w:=W) (A:=J) (n:=L.length) (c:=D) (l:=p) (h:=L.length) ci (some (.int .i64 (p:Nat))) none (.inr ⟨_,Z⟩) (.inl ⟨Z,Z⟩) (by omega) (L4 _) m4;exact aC (v:=.slice (nB J p D) (L.length-p) (D-p)) (W':=W) (by simp[execOp,dU,e,e2,hr,nB]) ⟨Z,Below.refl _ _⟩
   refine StepsR.cons trivial (fun T W z=>?_) ?_
   ·obtain⟨d,d2,G,ho,q1⟩:PcR wB.heap.size i (p+1) (fun u=>vs.take p++[u]) (T 86) W:=z.fact 4 86 (by kernel_rfl);have e:T 89=.slice (nB J p D) (L.length-p) (D-p):=z.fact 7 89 (by kernel_rfl);have b3:=z.size;have d0:=z.below;obtain⟨-,a0,a5⟩:=sY (l:=p) (h:=L.length) (k1 W d0) (by omega) (L4 _);rw[Me (by omega)]at a5;have ones:=a4.nest.ones;obtain⟨v',W',E,n2,b1,-,d4⟩:=pE (n:=p+1) (m:=L.length-p) (c:=D-p) (A:=nB J p D) (news:=vs.drop p) ho a0 a5 (by simp;omega) (fun u hu=>ones u (Nd hu)) (by omega) b3 q1;have g4:=(MD.1 G).1;rw[show p+1+(L.length-p)=L.length+1 by omega]at n2;refine aC (v:=v') (W':=W') (jR Z Z e E) ⟨⟨d,d2,(eh b1 g4 (AR ho G (by decide))).trans G,n2,d4⟩,(Below.refl _ _).grown b1 b3 (fun k e=>(ho.lt k e).1),b1.size⟩
   refine StepsR.cons trivial (fun T W z=>?_) ?_
   ·have f:PcR wB.heap.size i (L.length+1) (fun u=>vs.take p++[u]++vs.drop p) (T 90) W:=z.fact 8 90 (by kernel_rfl);exact aC (v:=T 90) (W':=W) (by simp[execOp,dU]) ⟨f,Below.refl _ _⟩
   exact StepsR.nil
  intro us W i4 hF x1 y0;have f9:PcR wB.heap.size i (L.length+1) (fun u=>vs.take p++[u]++vs.drop p) (us.getD 9 undef) W:=hF 9 (by decide) Z;clear hF;have f2:=e3.trans x1;have p1:=(co [some 82,some 83,some 84,some 85,some 86,some 87,some 88,some 89,some 90,some 3] us a.tmps 9 3 (by rw[hn];rfl) i4 Z).1;obtain⟨v9,p3⟩:∃v,us.getD 9 undef=v:=⟨_,rfl⟩;rw[p3]at f9 p1;obtain⟨d,d2,G,n1,q6⟩:=f9;obtain⟨A2,c2,rfl⟩:=cF n1;have hu:EIs W wB.heap.size (.slice (some ⟨d,0,none⟩) 1 1) [i]:=rH G d2;obtain⟨b0,h5⟩:=a4.newL f2 hu n1 q6 (by omega);refine⟨W,_,⟨92,[(1,.ref (aV r)),(3,.sc (.slice A2 (L.length+1) c2)),(4,bT (d6 r.sch.cols)),(5,nI i)],[],[]⟩,?_,Sim.mk b0.env b0.okw (by rw[fb];exact hn) e4 (SlotL.look (l:=[(1,.ref (aV r)),(3,.sc (.slice A2 (L.length+1) c2)),(4,bT (d6 r.sch.cols)),(5,nI i)]) ⟨?_,kG p1,kG ((ez _ us _ 4 Z).trans t0),kG ((ez _ us _ 5 Z).trans i3),trivial⟩)⟩
  ·show BWP _ _ _ _ _
   refine BWP.of<|ae<|aa 1 Z<|af (t:=nI (i+1)) Z Z Z (ah (ai Z Z Z Zy) (bi (by omega)))<|aa 1 Z<|ag<|⟨r.tups.length-(i+1),by omega,i+1,_,(K.insertIdx p (aG r.sch t.vals)),A2,c2,_,_,by omega,Z,?_,lf (by simp<;>omega) Z b0,Z,Z,qV (by simp<;>omega),Z,Z⟩;rw[gZ b2 e1];unfold iw;rw[if_neg f1];simp only;rw[if_neg (c:=((K[bu K (aG r.sch t.vals)]?).any fun x=>aX x (aG r.sch t.vals)==0)=true) (by rw[hf];exact MF),hp,kH L _ (by omega)]
  show FT _ [(cj a.tmps ([some 82,some 83,some 84,some 85,some 86,some 87,some 88,some 89,some 90,some 3].zip us)).getD 1 undef] _
  rw[ez _ us _ 1 Z,q4];exact FT.gg (l5.mono f2.size h5)
 obtain rfl:i=r.tups.length:=by have:=of_decide_eq_false hc;omega
 rw[M6]at b2;have q0:L=aW r:=by
  unfold aW;rw[if_neg (by rw[a9];exact MF),b2]
 refine jQ fun a w q=>⟨w0,G0,⟨92,[(3,.sl ((aW r).map jj))],[],[]⟩,?_,ms ?_⟩
 ·obtain⟨-,-,H,-⟩:=q.facts;have B:=o.later H;refine q.back o.e0 o.ok0 B.below ⟨?_,trivial⟩;show FT _ [a.tmps.getD 3 undef] _
  rw[q.lit (v:=.slice J L.length D) Z,<-q0];exact FT.gg (B.nest.pt fun g z h2=>by have:=(o.nest.ok g z).1;have:=(o.ok0 g h2).1;omega)
 refine⟨Z,Z,?_⟩;show AWP _ _ _ _ _
 refine ab<|aj 2 Z<|aw<|⟨.inr Z,_,.cons Z .nil,Z,Z⟩
end Go.Proofs.YtfoejfohbkmmeaaGreatDoor
