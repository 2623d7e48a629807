import Derived.Test.YtfoejfohbkmmeaaGreatDoorU29
import Derived.Test.YtfoejfohbkmmeaaGreatDoorU25
import Derived.Test.YtfoejfohbkmmeaaGreatDoorU08
import Derived.Test.YtfoejfohbkmmeaaGreatDoorU00
import Derived.Test.YtfoejfohbkmmeaaGreatDoorU16
import Derived.Test.YtfoejfohbkmmeaaGreatDoorU02
set_option maxRecDepth 100000
set_option maxHeartbeats 4000000
namespace Go.Proofs.YtfoejfohbkmmeaaGreatDoor
open Go.RowKit
open Lib renaming hid→J
structure GI (w0:World) (G0:Nat->Prop) (r:Rel) (m:Nat) (w1:World) (G1:Nat->Prop) (S:St) (i:Nat) (L:List (List Nat)) (K:List (List V)) (AO AK:Option Addr) (cO cK:Nat) (vs xs:List Value) (sl:List (Nat×Tree)):Prop where
 hi:i<=r.tups.length
 hm:m=r.tups.length-i
 st:dh r.sch ([],[]) 0 (r.tups.take i)=(K,L)
 side:Side w0 G0 w1 G1 (.slice AO L.length cO) vs L (.slice AK K.length cK) xs K
 hS:S=⟨63,sl,[],[]⟩
 s1:look sl 1=.ref (aT r)
 s3:look sl 3=.sc (.slice AO L.length cO)
 s4:look sl 4=.sc (.slice AK K.length cK)
 s15:look sl 15=.sl (r.tups.map Tp.tree)
 s16:look sl 16=.sc (.int .i64 (r.tups.length:Nat))
 s17:look sl 17=.sc (.int .i64 (i:Nat))
def LF(w0:World)(G0:Nat->Prop)(r:Rel)(m:Nat)(w1:World)(G1:Nat->Prop)(S:St):Prop:=∃i L K AO AK cO cK vs xs sl,GI w0 G0 r m w1 G1 S i L K AO AK cO cK vs xs sl
theorem gC{s:Sch}{ts:List Tp}{i:Nat}{t:Tp}{K:List (List V)}{L:List (List Nat)}(a:dh s ([],[]) 0 (ts.take i)=(K,L))(c:ts[i]? =some t):dh s ([],[]) 0 (ts.take (i+1))=gV s (K,L) i t:=by
 obtain⟨b,rfl⟩:=L7.1 c;rw[Mq b,nj,a,Mf,M0,Nl (by omega)]
theorem kb{α:Type}(l:List α)(x:α){p:Nat}(a:p<=l.length):l.insertIdx p x=l.take p++[x]++l.drop p:=by
 have h:=gh x (l.drop p) (l.take p);rw[M8,Mf,Nl a]at h;rw[h,MG];rfl
theorem sO{α:Type}(f:α->α){l:List α}{p:Nat}{x:α}(h:l[p]? =some x):l.modify p f=l.set p (f x):=by
 obtain⟨b,rfl⟩:=L7.1 h;have c:=nH f l[p] (l.drop (p+1)) (l.take p);have a:(l.take p).length=p:=by rw[Mf];omega
 rw[<-Md b,M8,a]at c;rw[c,Pj,if_pos b]
theorem Fr{K:List (List V)}(h:Ky K)(k:List V):Kx K k:=fun a b x y g e c f=>by
 rcases MI a b with d|i
 ·obtain⟨j,rfl⟩:=L7.1 e;obtain⟨l,rfl⟩:=L7.1 c;exact iC (PQ.1 h a b j l d) f
 obtain rfl:a=b:=by omega
 rw[e]at c;cases c;exact f
theorem xV(K:List (List V))(k:List V):bk K k<=K.length:=by
 unfold bk;exact(Ox _).length_le
theorem qo:∀{cs:List Col} {vs us:List V},vs.length=cs.length->us.length=cs.length->(dJ cs vs=[]↔dJ cs us=[])
 |[],[],[],_,_=>OU
 |[],_::_,_,h,_=>by simp at h
 |[],_,_::_,_,h=>by simp at h
 |_::_,[],_,h,_=>by simp at h
 |_::_,_::_,[],_,h=>by simp at h
 |c::cs,v::vs,u::us,h,h'=>by
  have a:=qo (cs:=cs) (vs:=vs) (us:=us) (by simpa using h) (by simpa using h');rw[dJ,dJ];split
  ·simp
  exact a
theorem uE{s:Sch}{ts:List Tp}{i:Nat}{K:List (List V)}{L:List (List Nat)}(d:dh s ([],[]) 0 (ts.take i)=(K,L))(y:i<=ts.length)(n:∀t∈ts,t.vals.length=s.cols.length):
  L.length<=i/\K.length=L.length/\(∀b∈L,b.length<=i)/\(∀k∈K,k.length<=s.cols.length)/\((∃t∈ts,aG s t.vals≠ [])->Ky K):=by
 have v:=ln (s:=s) (ts.take i) ([],[]) 0 ⟨L5 _,fun b p=>(by cases p)⟩;rw[d,Mf,M0,Nl y]at v;have A:∀(us:List Tp) (c:List (List V)×List (List Nat)) (j:Nat),c.1.length=c.2.length->(∀k∈c.1,k.length<=s.cols.length)->(dh s c j us).1.length=(dh s c j us).2.length/\∀k∈(dh s c j us).1,k.length<=s.cols.length:=by
  intro us;induction us with
  |nil=>intro c j h g;exact⟨h,g⟩
  |cons u us ih=>
   intro c j h g;refine ih _ _ ?_ ?_
   ·unfold gV;split
    ·simp[h]
    split
    ·simp[h]
    simp[Qg,h]
   intro k a;unfold gV at a;split at a
   ·rcases My.1 a with a|a
    ·exact g k a
    rw[Ml.1 a];exact ie _ _
   split at a
   ·exact g k a
   rcases ka a with a|rfl
   ·exact g k a
   exact ie _ _
 have q:=A (ts.take i) ([],[]) 0 Z (fun k a=>by cases a);rw[d]at q;refine⟨v.1,q.1,fun b p=>(v.2 b p).1,q.2,fun⟨o,m,r⟩=>?_⟩;have l:∀t∈ts,aG s t.vals≠ []:=fun t f e=>r (by
  have z:aG s t.vals=dJ s.cols t.vals:=by unfold aG;rw[if_pos (n t f)]
  have x:aG s o.vals=dJ s.cols o.vals:=by unfold aG;rw[if_pos (n o m)]
  rw[x,qo (n o m) (n t f)];rw[<-z];exact e)
 have w:=i8 (s:=s) (ts.take i) [] ([],[]) ⟨Z,fun t f=>(by cases f),fun k a=>(by cases a),List.Pairwise.nil⟩ fun t f=>l t (MC f)
 rw[Mo,d]at w;exact w.srt
theorem qp{A:Option Addr}{n m c:Nat}(h:m=n):Tree.sc (.slice A n c)=.sc (.slice A m c):=by rw[h]
theorem kJ{w0 b:World}{G0 f:Nat->Prop}{A B:Option Addr}{n m a e c d:Nat}{vs xs:List Value}{L:List (List Nat)}{K:List (List V)}(g:a=n)(i:e=m)(h:Side w0 G0 b f (.slice A n c) vs L (.slice B m d) xs K):Side w0 G0 b f (.slice A a c) vs L (.slice B e d) xs K:=by subst g i;exact h
theorem xW:(Tryz.prog.info? 3).map (fun i=>(i.zero,i.size,i.bytes))=some (some (.int .i64 0),1,8):=by kernel_rfl
theorem cf:gE Tryz.prog 98=some (23,1):=by kernel_rfl
theorem lw:iU Tryz.prog 23=true:=by kernel_rfl
theorem sP:(Tryz.prog.info? 23).map (·.size)=some 1:=by kernel_rfl
theorem lx:gc Tryz.prog 23=some [.slice none 0 0]:=by kernel_rfl
theorem sQ:gc Tryz.prog 61=some [.slice none 0 0]:=by kernel_rfl
theorem Db(r:Rel)(h:FitR r)(k4:∀t∈r.tups,t.vals.length=r.sch.cols.length):Ct 65 [r.tree] (.sl ((aP r).map iQ)):=by
 refine Ct.of (n:=63) Tryz.func65 Z Z Z Z Z fun w0 G0=>?_
 refine ab<|ae<|aa 1 Z<|af (t:=.sl []) Z Z Z (cW (.inr Z) dI)<|ag<|ab<|ab<|aj 3 Z<|aH Z (fun e7=>?_) (fun e7=>?_)
 ·have c5:=e7;refine ab<|ae<|af (t:=.sl []) Z Z Z (cW (.inr Z) dI)<|ag<|aC<|⟨.inr Z,_,.cons Z .nil,by unfold aP;rw[c5];rfl,Z⟩
 have c5:=e7;refine ax<|ab<|aj 1 Z<|ab<|aj 1 Z<|ab<|ab<|ae<|aa 2 Z<|af (t:=nI r.tups.length) Z Z Z (ah (bd Z aK Z) (by simp only[L8]))<|aa 1 Z<|ag<|aE<|Bv<|l8 fun a w k=>?_
 obtain⟨f6,h0,k3,f2,c0⟩:=k.unbox (ty:=30) (l:=[(1,.ref (aT r)),(3,.sc (.slice none 0 0)),(4,.sc (.slice none 0 0)),(15,.sl (r.tups.map Tp.tree)),(16,nI r.tups.length),(17,nI 0)]) rfl rfl rfl ⟨.inr ⟨0,rfl,rfl⟩,.inl ⟨rfl,rfl⟩,.inl ⟨rfl,rfl⟩,.inl ⟨rfl,rfl⟩,.inl ⟨rfl,rfl⟩,.inl ⟨rfl,rfl⟩,trivial⟩;refine⟨w,G0,_,f6,?_⟩;clear k f6;refine wY (LF w0 G0 r) r.tups.length ⟨0,[],[],none,none,0,0,[],[],_,Mx _,Z,Z,⟨Nest.nil _ _,KeyR.nil _ _ _,fun b hb=>(by cases hb),fun b=>⟨.inl,fun h=>h.elim id fun h=>h.elim (fun h=>h.elim (fun h=>by cases h) fun⟨u,hu,_⟩=>by cases hu) fun h=>by cases h⟩,h0,k3,f2⟩,Z,Z,Z,Z,Z,Z,Z⟩ ?_;clear h0 c0 a w;rintro m w1 G1 S ⟨i,L,K,AO,AK,cO,cK,vs,xs,sl,hi,rfl,d3,d,rfl,s1,s3,s4,l5,i4,h8⟩;obtain⟨n1,f7,k2,h6,f8⟩:=uE d3 hi k4;have m4:=h.tups;refine oo [(1,.ref (aT r)),(3,.sc (.slice AO L.length cO)),(4,.sc (.slice AK K.length cK)),(15,.sl (r.tups.map Tp.tree)),(16,nI r.tups.length),(17,nI i)] (.cons s1 Z (.cons s3 Z (.cons s4 Z (.cons l5 Z (.cons i4 Z (.cons h8 Z .nil))))))<|cP (BWP.of ?_);refine ae<|af (t:=bT (decide (i<r.tups.length))) Z Z Z (ah (ai Z Z Z Zy) (av (iu i r.tups.length)))<|ag ?_;show BWP _ _ w1 G1 _
 refine cP<|ko (b:=decide (i<r.tups.length)) Z (fun hc=>?_) (fun hc=>?_)
 ·replace hc:=of_decide_eq_true hc;obtain⟨t,d1⟩:∃t,r.tups[i]? =some t:=⟨_,L4 hc⟩;have m9:=h.tup t (L9 d1);refine km ?_;show BWP _ _ w1 G1 _
  refine cP (t6 ?_);refine cP (BWP.of ?_);refine ae<|aa 1 Z<|af (t:=.ref (bS t)) Z Z Z (aQ (Tp.tree t) Z aK Z Z Z (bf (f:=Tp.tree) d1) (bQ _) Z)<|aa 4 Z<|ag ?_;show BWP _ _ w1 G1 _
  refine cP (BWP.of ?_);refine ae<|aa 4 Z<|af Z Z Z (ar Z (zX r.sch t.vals h.cols) Z Z)<|aa 1 Z<|ag ?_;show BWP _ _ w1 G1 _
  refine oo [(1,.ref (aT r)),(3,.sc (.slice AO L.length cO)),(4,.sc (.slice AK K.length cK)),(15,.sl (r.tups.map Tp.tree)),(16,nI r.tups.length),(17,nI i),(5,nI i),(7,.sl ((aG r.sch t.vals).map V.tree))] (.cons Z Z (.cons Z Z (.cons Z Z (.cons Z Z (.cons Z Z (.cons Z Z (.cons Z Z (.cons Z Z .nil))))))))<|cP (BWP.of ?_);refine ae<|aa 1 Z<|af (t:=nI L.length) Z Z Z (wZ Z cf Z)<|aa 1 Z<|ag ?_;show BWP _ _ w1 G1 _
  refine cP (cP (BWP.of ?_));refine ae<|aa 1 Z<|af (t:=nI ((aG r.sch t.vals).length)) Z Z Z (ah (bd Z bz Z) (by simp only[L8]))<|af (t:=bT (decide (0<(aG r.sch t.vals).length))) Z Z Z (ah (ai Z Z Z Zy) (av (tE ((aG r.sch t.vals).length) 0)))<|ag ?_;show BWP _ _ w1 G1 _
  refine ko (b:=decide (0<(aG r.sch t.vals).length)) Z (fun hk=>?_) (fun hk=>?_)
  ·replace hk:=of_decide_eq_true hk;have d6:(aG r.sch t.vals)≠ []:=fun e=>by rw[e]at hk;simp at hk
   have k0:=f8 ⟨t,L9 d1,d6⟩;have l2:(aG r.sch t.vals).length<=65536:=L6 (ie _ _) h.cols;have i5:=xV K (aG r.sch t.vals);refine cP (fl ?_);refine b9 (t:=.sc (.slice AK K.length cK)) Z Z Z (aw Z Z)<|b9 (t:=.sl ((aG r.sch t.vals).map V.tree)) Z Z Z (aw Z Z)<|zj (t:=.tup [nI (bk K (aG r.sch t.vals)),bT ((K[bk K (aG r.sch t.vals)]?).any fun x=>aO x (aG r.sch t.vals)==0)]) Z Z Z Z Tryz.func126 Z Z (fun a w k=>?_) ?_
   ·obtain⟨c0,a4,q,-⟩:=k.facts;have o:=d.later q;have E:=k.slot (i:=34) (t:=.sl ((aG r.sch t.vals).map V.tree)) Z Z;rw[k.lit (v:=.slice AK K.length cK) Z];have h3:∀b,¬G1 b->¬(G0 b\/NB (.slice AO L.length cO) vs b):=fun b hG h2=>hG ((d.g1 b).2 (h2.elim .inl fun h=>.inr (.inl h)))
    have i3:=o.keys.pt h3 fun g hg h2=>h2.elim (fun h=>by have:=(d.key g hg).1;have:=(d.ok0 g h).1;omega) (d.kn g hg)
    refine((Jn K (aG r.sch t.vals) (by omega) (Fr k0 _) (fun x hx=>L6 (h6 x hx) h.cols) l2).2 (fun b=>G0 b\/NB (.slice AO L.length cO) vs b) w _ c0 (fun g hg=>a4 g ((d.g1 g).2 (hg.elim .inl fun h=>.inr (.inl h)))) (i3.cons ((E.sub h3).cons (.sc _ .nil)))).mono ?_;rintro e w' ⟨v,rfl,hv,hb⟩;refine⟨v,Z,?_,hb⟩;cases hv with
    |tup us _ hx _=>
     cases hx with
     |sc _ hx=>
      cases hx with
      |sc _ hx=>
       cases hx;exact .tup _ _ (.sc _ (.sc _ .nil)) .nil
   refine b9 (t:=.tup [nI (bk K (aG r.sch t.vals)),bT ((K[bk K (aG r.sch t.vals)]?).any fun x=>aO x (aG r.sch t.vals)==0)]) Z Z Z (aw Z Z)<|b9 (t:=nI (bk K (aG r.sch t.vals))) Z Z Z (dD Z Z Z)<|b9 (t:=bT ((K[bk K (aG r.sch t.vals)]?).any fun x=>aO x (aG r.sch t.vals)==0)) Z Z Z (dD Z Z Z)<|b9 (t:=nI (bk K (aG r.sch t.vals))) Z Z Z (bW Z Z)<|b9 (t:=bT ((K[bk K (aG r.sch t.vals)]?).any fun x=>aO x (aG r.sch t.vals)==0)) Z Z Z (bW Z Z)<|gL ?_;show BWP _ _ w1 G1 _
   refine cP (cP (BWP.of ?_));refine aj 1 Z ?_;show BWP _ _ w1 G1 _
   refine ko (b:=((K[bk K (aG r.sch t.vals)]?).any fun x=>aO x (aG r.sch t.vals)==0)) Z (fun hf=>?_) (fun hf=>?_)
   ·have m2:bk K (aG r.sch t.vals)<K.length:=by
     rcases MI (bk K (aG r.sch t.vals)) K.length with h|h
     ·exact h
     rw[Nq h]at hf;cases hf
    obtain⟨g,rfl⟩:∃g,AO=some ⟨g,0,none⟩:=by
     rcases d.nest.row.2 with⟨_,hn⟩|⟨g,n0,cur,hv,_⟩
     ·omega
     injection hv with h1;exact⟨g,h1⟩
    have m3:=d.nest.len;obtain⟨u,d2⟩:∃u,vs[bk K (aG r.sch t.vals)]? =some u:=⟨_,L4 (by omega)⟩;obtain⟨l,e1⟩:∃l,L[bk K (aG r.sch t.vals)]? =some l:=⟨_,L4 (by omega)⟩;have n2:=k2 l (L9 e1);refine cP (fl ?_);refine b9 (t:=.sc (.slice (some ⟨g,0,none⟩) L.length cO)) Z Z Z (aw Z Z)<|b9 (t:=nI (bk K (aG r.sch t.vals))) Z Z Z (aw Z Z)<|b9 (t:=.sc (.slice (some ⟨g,0,none⟩) L.length cO)) Z Z Z (aw Z Z)<|b9 (t:=nI (bk K (aG r.sch t.vals))) Z Z Z (aw Z Z)<|b9 (t:=.sc (.pointer (some ⟨g,bk K (aG r.sch t.vals),none⟩))) Z Z Z (kp (j:=bk K (aG r.sch t.vals)) Z cf Z Z Z (by omega) (by simp))<|rO (u:=u) Z Z Z Z Z lw (d.nest.ok g (.inl Z)).2.1 ?_ ?_
    ·have:=World.ownsRow.cells d.nest.row (g:=g) Z _ _ d2;rwa[m5]at this
    refine b9 (t:=nI i) Z Z Z (aw Z Z)<|fK Z Z Z Z cz ig (fun a w k=>by rw[k.lit (v:=.int .i64 (i:Nat)) Z];rfl) fun a w k=>?_
    rw[k.lit (v:=.int .i64 (i:Nat)) Z];obtain⟨-,-,q,-⟩:=k.facts;have p:(w.alloc (.cells #[.int .i64 (i:Nat)] 3)).heap[w.heap.size]? =some (.cells #[.int .i64 (i:Nat)] 3 (0,0)):=heap_alloc_new _ _;have g2:=(d.later q).later ((Below.refl w.heap.size w).alloc (L5 _) (.cells #[.int .i64 (i:Nat)] 3));have W:=q.size;have H:(w.alloc (.cells #[.int .i64 (i:Nat)] 3)).heap.size=w.heap.size+1:=by simp
    obtain⟨wa,B⟩:∃wa,w.alloc (.cells #[.int .i64 (i:Nat)] 3)=wa:=⟨_,rfl⟩;rw[B]at p g2 H;rw[B];obtain⟨z,N⟩:∃z,w.heap.size=z:=⟨_,rfl⟩;rw[N]at p W H;rw[N];clear k q B N a w;refine fv Z fun a w k=>?_
    obtain⟨-,-,D,-⟩:=k.facts;have o:=g2.later D;have f9:=o.nest.el _ u l d2 e1;have y:w.heap[z]? =some (.cells #[.int .i64 (i:Nat)] 3 (0,0)):=by rw[D.block z (by omega)];exact p
    obtain⟨_,_,l0,_⟩:=fB y;obtain⟨i0,l1,k5,h9,i9⟩:=info_parts xW;obtain⟨u2,w2,f4,e6,M,g3,g4⟩:=mz (P:=Tryz.prog) w w0.heap.size 23 23 3 i0 (.int .i64 0) 1 8 Tryz.underlying23 l1 k5 h9 i9 rfl (by decide) u l.length (mj l) f9.1 (some ⟨z,0,none⟩) 1 1 [.int .i64 (i:Nat)] rfl (fun e=>by cases e) (fun b hb j x hj=>by
     injection hb with hb
     subst hb;cases j with
     |zero=>simp at hj;subst hj;exact l0
     |succ j=>simp at hj) (fun x hx=>by rw[Ml.1 hx];rfl) (by unfold maxLen;omega) (by omega) (by have:=o.below.size;omega) (by decide) Z f9.2
    have f1:w2.ownsRow w0.heap.size 3 1 u2 (l.length+1) (mj (l++[i])):=by rw[show mj (l++[i])=mj l++[.int .i64 (i:Nat)] by simp[mj]];exact e6
    obtain⟨k1,h5,i1⟩:=o.app1 d2 M g3 g4 fun g hg=>(e6.lt g hg).2
    obtain⟨A2,c2,e2⟩:=cc e6;refine aq (v:=u2) (W':=w2) (kq (T:=fun s=>a.tmps.getD s undef) Z (k.lit Z) (k.lit Z) f4) ⟨w2,_,_,fJ (k.turn h5 k1 M.size i1) (by decide) (.pure (.sc u2 .nil) .nil),?_⟩;clear k D p y a;refine b9 (t:=.sc (.pointer (some ⟨g,bk K (aG r.sch t.vals),none⟩))) Z Z Z (kp (j:=bk K (aG r.sch t.vals)) Z cf Z Z Z (by omega) (by simp))<|fv Z fun a wb k=>?_
    obtain⟨-,-,I,-⟩:=k.facts;obtain⟨G,m1⟩:=o.app2 d2 e1 rfl f1 M g3 g4 (by rw[e2];rfl) I;have f3:=(o.nest.ok g (.inl Z)).2.1;have h7:wb.heap[g]? =w.heap[g]? :=by
     have h1:w2.heap[g]? =w.heap[g]? :=dV M f3 fun e=>o.nest.out u (L9 d2) g e Z
     rw[I.block g (Mp f3 M.size)];exact h1
    have e3:=gQ o.nest.row (w':=wb) fun b hb=>by injection hb with hb;subst hb;exact h7
    have i2:wb.cell? ⟨g,bk K (aG r.sch t.vals),none⟩=some u:=by
     have:=World.ownsRow.cells e3 (g:=g) Z _ _ d2;rwa[m5]at this
    refine eY (W':=wb.setCell ⟨g,bk K (aG r.sch t.vals),none⟩ u2) (qa (T:=fun s=>a.tmps.getD s undef) Z (k.lit Z) (k.lit Z) sP (by rw[e2];rfl) i2 (dd e3 _)) ⟨_,_,_,k.turn G.env G.okw (by simp[World.setCell]) m1,?_⟩;refine gL ?_;show BWP _ _ _ _ _
    refine l7 ?_;show BWP _ _ _ _ _
    refine BWP.of<|ae<|af (t:=nI (i+1)) Z Z Z (ah (ai Z Z Z Zy) (bu (by omega)))<|aa 1 Z<|ag<|⟨r.tups.length-(i+1),by omega,i+1,_,_,some ⟨g,0,none⟩,AK,cO,cK,_,_,_,by omega,Z,?_,kJ (by simp) Z G,Z,Z,qp (by simp),Z,Z,Z,Z⟩;rw[gC d3 d1];unfold gV;rw[if_neg d6];simp only;rw[if_pos (c:=((K[bk K (aG r.sch t.vals)]?).any fun x=>aO x (aG r.sch t.vals)==0)=true) hf,sO _ e1]
   refine km ?_;show BWP _ _ w1 G1 _
   refine BWP.of<|aj 2 Z ?_;show BWP _ _ w1 G1 _
   refine cP (fl ?_);refine b9 (t:=.sc (.slice AO L.length cO)) Z Z Z (aw Z Z)<|b9 (t:=nI (bk K (aG r.sch t.vals))) Z Z Z (aw Z Z)<|b9 (t:=nI i) Z Z Z (aw Z Z)<|k8 Z Z Z Z cz ig (fun a w k=>by rw[k.lit (v:=.int .i64 (i:Nat)) Z];exact⟨Z,Z⟩) fun a w k=>?_
   rw[k.lit (v:=.int .i64 (i:Nat)) Z];obtain⟨-,-,q,-⟩:=k.facts;obtain⟨wa,B⟩:∃wa,w.alloc (.cells #[.int .i64 (i:Nat)] 3)=wa:=⟨_,rfl⟩;have a1:Below w1.heap.size w1 wa:=by rw[<-B];exact q.alloc q.size _
   have p:wa.heap[w.heap.size]? =some (.cells #[.int .i64 (i:Nat)] 3 (0,0)):=by rw[<-B];exact heap_alloc_new _ _
   have W:=q.size;have H:wa.heap.size=w.heap.size+1:=by rw[<-B];simp
   rw[B];obtain⟨z,N⟩:∃z,w.heap.size=z:=⟨_,rfl⟩;rw[N]at p W H;rw[N];clear k q B N a w;refine fK Z Z Z Z cf lx (fun a w k=>by rw[k.lit (v:=.slice (some ⟨z,0,none⟩) 1 1) Z];rfl) fun a w k=>?_
   rw[k.lit (v:=.slice (some ⟨z,0,none⟩) 1 1) Z];obtain⟨-,-,D,-⟩:=k.facts;obtain⟨wb,Q⟩:∃wb,w.alloc (.cells #[.slice (some ⟨z,0,none⟩) 1 1] 23)=wb:=⟨_,rfl⟩;have a9:Below wa.heap.size wa wb:=by rw[<-Q];exact D.alloc D.size _
   have a0:wb.heap[w.heap.size]? =some (.cells #[.slice (some ⟨z,0,none⟩) 1 1] 23 (0,0)):=by rw[<-Q];exact heap_alloc_new _ _
   have b0:=D.size;have b1:wb.heap.size=w.heap.size+1:=by rw[<-Q];simp
   rw[Q];obtain⟨bB,c4⟩:∃bB,w.heap.size=bB:=⟨_,rfl⟩;rw[c4]at a0 b0 b1;rw[c4];clear k D Q c4 a w;refine k9 Z Z Z Tryz.func127 Z Z fun a w k=>?_
   obtain⟨c0,a4,I,-⟩:=k.facts;have c6:Below w1.heap.size w1 w:=ak (ak a1 a9 a1.size) I (L6 a1.size a9.size);have y:w.heap[z]? =some (.cells #[.int .i64 (i:Nat)] 3 (0,0)):=by rw[I.block z (by omega),a9.block z (by omega)];exact p
   have X:w.heap[bB]? =some (.cells #[.slice (some ⟨z,0,none⟩) 1 1] 23 (0,0)):=by rw[I.block bB (by omega)];exact a0
   have o:=d.later c6;have hu:EIs w w0.heap.size (.slice (some ⟨z,0,none⟩) 1 1) [i]:=rc y (by have:=d.below.size;omega);rw[k.lit (v:=.slice AO L.length cO) Z,k.lit (v:=.int .i64 ((bk K (aG r.sch t.vals):Nat):Int)) Z,k.lit (v:=.slice (some ⟨bB,0,none⟩) 1 1) Z];refine(Ks w0.heap.size L.length (bk K (aG r.sch t.vals)) bB (.slice AO L.length cO) (.slice (some ⟨z,0,none⟩) 1 1) 23 vs w o.nest.row X (fun e=>by have:=(d.nest.ok bB (.inl e)).2.1;omega) Z Z o.nest.rd o.ones.1 (by omega) (by omega) (by have:=d.below.size;have:=c6.size;omega)).mono ?_;rintro e w' ⟨v',rfl,F,C,a2,a3⟩;obtain⟨U,d4⟩:=d.insL c6 hu (fun g hg=>by have M:some z=some g:=hg;injection M with M;omega) F C a2 a3 (by omega);obtain⟨A2,c2,rfl⟩:=cc F;refine⟨_,rfl,w',_,_,fJ (k.turn U.env U.okw C.size fun b e4 hG=>d4 b e4 fun h=>hG (h.imp id fun e=>by injection e with e;exact e.symm)) (by decide) (.pure (.sc _ .nil) .nil),?_⟩;refine b9 (t:=.sc (.slice A2 (L.length+1) c2)) Z Z Z (bW Z Z)<|gL ?_;show BWP _ _ _ _ _
   clear k c0 a4 I o hu F C a2 a3 d4 y X p a0 W H b0 b1 a1 a9;refine fl<|b9 (t:=.sc (.slice AK K.length cK)) Z Z Z (aw Z Z)<|b9 (t:=nI (bk K (aG r.sch t.vals))) Z Z Z (aw Z Z)<|b9 (t:=.sl ((aG r.sch t.vals).map V.tree)) Z Z Z (aw Z Z)<|fK Z Z Z Z iL sQ (fun a w k=>lp (k.slot (i:=58) (t:=iK (aG r.sch t.vals)) Z Z) Z _ (Ml.2 Z)) fun a w k=>?_
   have E:=k.slot (i:=58) (t:=iK (aG r.sch t.vals)) Z Z;obtain⟨Y,J⟩:∃Y,a.tmps.getD 58 undef=Y:=⟨_,rfl⟩;rw[J]at E;rw[J];obtain⟨-,a4,c1,-⟩:=k.facts;have R:=(Below.refl w.heap.size w).alloc (L5 _) (.cells #[Y] 61);have b3:=E.later R;have f0:Y.oneCell'=true:=lp E Z _ (Ml.2 Z);have e9:bL Y=true:=by
    obtain⟨A,c,e,_⟩:=PT.slice (es:=(aG r.sch t.vals).map V.tree) E;rw[e];rfl
   have O:(w.alloc (.cells #[Y] 61)).heap[w.heap.size]? =some (.cells #[Y] 61 (0,0)):=heap_alloc_new _ _;have d9:=(U.later c1).later R;have b2:(w.alloc (.cells #[Y] 61)).heap.size=w.heap.size+1:=by simp
   have d5:=c1.size;obtain⟨wc,b5⟩:∃wc,w.alloc (.cells #[Y] 61)=wc:=⟨_,rfl⟩;rw[b5]at O d9 b2 b3;rw[b5];obtain⟨bC,c7⟩:∃bC,w.heap.size=bC:=⟨_,rfl⟩;rw[c7]at O b2 d5;rw[c7];clear k a4 c1 R b5 J c7 E a w;refine k9 Z Z Z Tryz.func128 Z Z fun a w k=>?_
   obtain⟨-,-,a5,-⟩:=k.facts;have G:=d9.later a5;have c9:w.heap[bC]? =some (.cells #[Y] 61 (0,0)):=by rw[a5.block bC (by omega)];exact O
   have d7:=b3.later a5;have g0:=U.below.size;rw[k.lit (v:=.slice AK K.length cK) Z,k.lit (v:=.int .i64 ((bk K (aG r.sch t.vals):Nat):Int)) Z,k.lit (v:=.slice (some ⟨bC,0,none⟩) 1 1) Z];refine(Kw w0.heap.size K.length (bk K (aG r.sch t.vals)) bC (.slice AK K.length cK) Y 61 xs w G.keys.row c9 (fun e=>by have:=(U.key bC e).2.1;omega) f0 e9 G.keys.rd G.ones.2 (by omega) (by omega) (by have:=a5.size;omega)).mono ?_;rintro e w3 ⟨v3,rfl,F,C,a2,a3⟩;obtain⟨d0,e5⟩:=G.insK d7 F C a2 a3 (by omega);obtain⟨A3,c3,rfl⟩:=cc F;refine⟨_,Z,w3,_,_,fJ (k.turn d0.env d0.okw C.size e5) (by decide) (.pure (.sc _ .nil) .nil),?_⟩;refine b9 (t:=.sc (.slice A3 (K.length+1) c3)) Z Z Z (bW Z Z)<|gL ?_;show BWP _ _ _ _ _
   refine BWP.of<|ae<|af (t:=nI (i+1)) Z Z Z (ah (ai Z Z Z Zy) (bu (by omega)))<|aa 1 Z<|ag<|⟨r.tups.length-(i+1),by omega,i+1,_,_,A2,A3,c2,c3,_,_,_,by omega,Z,?_,kJ (by simp<;>omega) (by simp<;>omega) d0,Z,Z,qp (by simp<;>omega),qp (by simp<;>omega),Z,Z,Z⟩;rw[gC d3 d1];unfold gV;rw[if_neg d6];simp only;rw[if_neg (c:=((K[bk K (aG r.sch t.vals)]?).any fun x=>aO x (aG r.sch t.vals)==0)=true) (by rw[hf];exact MR),kb _ _ i5,kb _ _ (by omega)]
  have j3:(aG r.sch t.vals)=[]:=Mk (by have:=of_decide_eq_false hk;omega);refine km ?_;show BWP _ _ w1 G1 _
  refine cP (fl ?_);refine b9 (t:=.sc (.slice AO L.length cO)) Z Z Z (aw Z Z)<|b9 (t:=nI L.length) Z Z Z (aw Z Z)<|b9 (t:=nI i) Z Z Z (aw Z Z)<|k8 Z Z Z Z cz ig (fun a w k=>by rw[k.lit (v:=.int .i64 (i:Nat)) Z];exact⟨Z,Z⟩) fun a w k=>?_
  rw[k.lit (v:=.int .i64 (i:Nat)) Z];obtain⟨-,-,q,-⟩:=k.facts;obtain⟨wa,B⟩:∃wa,w.alloc (.cells #[.int .i64 (i:Nat)] 3)=wa:=⟨_,rfl⟩;have a1:Below w1.heap.size w1 wa:=by rw[<-B];exact q.alloc q.size _
  have p:wa.heap[w.heap.size]? =some (.cells #[.int .i64 (i:Nat)] 3 (0,0)):=by rw[<-B];exact heap_alloc_new _ _
  have W:=q.size;have H:wa.heap.size=w.heap.size+1:=by rw[<-B];simp
  rw[B];obtain⟨z,N⟩:∃z,w.heap.size=z:=⟨_,rfl⟩;rw[N]at p W H;rw[N];clear k q B N a w;refine fK Z Z Z Z cf lx (fun a w k=>by rw[k.lit (v:=.slice (some ⟨z,0,none⟩) 1 1) Z];rfl) fun a w k=>?_
  rw[k.lit (v:=.slice (some ⟨z,0,none⟩) 1 1) Z];obtain⟨-,-,D,-⟩:=k.facts;obtain⟨wb,Q⟩:∃wb,w.alloc (.cells #[.slice (some ⟨z,0,none⟩) 1 1] 23)=wb:=⟨_,rfl⟩;have a9:Below wa.heap.size wa wb:=by rw[<-Q];exact D.alloc D.size _
  have a0:wb.heap[w.heap.size]? =some (.cells #[.slice (some ⟨z,0,none⟩) 1 1] 23 (0,0)):=by rw[<-Q];exact heap_alloc_new _ _
  have b0:=D.size;have b1:wb.heap.size=w.heap.size+1:=by rw[<-Q];simp
  rw[Q];obtain⟨bB,c4⟩:∃bB,w.heap.size=bB:=⟨_,rfl⟩;rw[c4]at a0 b0 b1;rw[c4];clear k D Q c4 a w;refine k9 Z Z Z Tryz.func127 Z Z fun a w k=>?_
  obtain⟨c0,a4,I,-⟩:=k.facts;have c6:Below w1.heap.size w1 w:=ak (ak a1 a9 a1.size) I (L6 a1.size a9.size);have y:w.heap[z]? =some (.cells #[.int .i64 (i:Nat)] 3 (0,0)):=by rw[I.block z (by omega),a9.block z (by omega)];exact p
  have X:w.heap[bB]? =some (.cells #[.slice (some ⟨z,0,none⟩) 1 1] 23 (0,0)):=by rw[I.block bB (by omega)];exact a0
  have o:=d.later c6;have hu:EIs w w0.heap.size (.slice (some ⟨z,0,none⟩) 1 1) [i]:=rc y (by have:=d.below.size;omega);rw[k.lit (v:=.slice AO L.length cO) Z,k.lit (v:=.int .i64 ((L.length:Nat):Int)) Z,k.lit (v:=.slice (some ⟨bB,0,none⟩) 1 1) Z];refine(Ks w0.heap.size L.length L.length bB (.slice AO L.length cO) (.slice (some ⟨z,0,none⟩) 1 1) 23 vs w o.nest.row X (fun e=>by have:=(d.nest.ok bB (.inl e)).2.1;omega) Z Z o.nest.rd o.ones.1 (L5 _) (by omega) (by have:=d.below.size;have:=c6.size;omega)).mono ?_;rintro e w' ⟨v',rfl,F,C,a2,a3⟩;obtain⟨U,d4⟩:=d.insL c6 hu (fun g hg=>by have M:some z=some g:=hg;injection M with M;omega) F C a2 a3 (L5 _);obtain⟨A2,c2,rfl⟩:=cc F;refine⟨_,rfl,w',_,_,fJ (k.turn U.env U.okw C.size fun b e4 hG=>d4 b e4 fun h=>hG (h.imp id fun e=>by injection e with e;exact e.symm)) (by decide) (.pure (.sc _ .nil) .nil),?_⟩;refine b9 (t:=.sc (.slice A2 (L.length+1) c2)) Z Z Z (bW Z Z)<|gL ?_;show BWP _ _ _ _ _
  clear k c0 a4 I o hu F C a2 a3 d4 y X p a0 W H b0 b1 a1 a9;refine fl<|b9 (t:=.sc (.slice AK K.length cK)) Z Z Z (aw Z Z)<|b9 (t:=nI L.length) Z Z Z (aw Z Z)<|b9 (t:=.sl ((aG r.sch t.vals).map V.tree)) Z Z Z (aw Z Z)<|fK Z Z Z Z iL sQ (fun a w k=>lp (k.slot (i:=58) (t:=iK (aG r.sch t.vals)) Z Z) Z _ (Ml.2 Z)) fun a w k=>?_
  have E:=k.slot (i:=58) (t:=iK (aG r.sch t.vals)) Z Z;obtain⟨Y,J⟩:∃Y,a.tmps.getD 58 undef=Y:=⟨_,rfl⟩;rw[J]at E;rw[J];obtain⟨-,a4,c1,-⟩:=k.facts;have R:=(Below.refl w.heap.size w).alloc (L5 _) (.cells #[Y] 61);have b3:=E.later R;have f0:Y.oneCell'=true:=lp E Z _ (Ml.2 Z);have e9:bL Y=true:=by
   obtain⟨A,c,e,_⟩:=PT.slice (es:=(aG r.sch t.vals).map V.tree) E;rw[e];rfl
  have O:(w.alloc (.cells #[Y] 61)).heap[w.heap.size]? =some (.cells #[Y] 61 (0,0)):=heap_alloc_new _ _;have d9:=(U.later c1).later R;have b2:(w.alloc (.cells #[Y] 61)).heap.size=w.heap.size+1:=by simp
  have d5:=c1.size;obtain⟨wc,b5⟩:∃wc,w.alloc (.cells #[Y] 61)=wc:=⟨_,rfl⟩;rw[b5]at O d9 b2 b3;rw[b5];obtain⟨bC,c7⟩:∃bC,w.heap.size=bC:=⟨_,rfl⟩;rw[c7]at O b2 d5;rw[c7];clear k a4 c1 R b5 J c7 E a w;refine k9 Z Z Z Tryz.func128 Z Z fun a w k=>?_
  obtain⟨-,-,a5,-⟩:=k.facts;have G:=d9.later a5;have c9:w.heap[bC]? =some (.cells #[Y] 61 (0,0)):=by rw[a5.block bC (by omega)];exact O
  have d7:=b3.later a5;have g0:=U.below.size;rw[k.lit (v:=.slice AK K.length cK) Z,k.lit (v:=.int .i64 ((L.length:Nat):Int)) Z,k.lit (v:=.slice (some ⟨bC,0,none⟩) 1 1) Z];refine(Kw w0.heap.size K.length L.length bC (.slice AK K.length cK) Y 61 xs w G.keys.row c9 (fun e=>by have:=(U.key bC e).2.1;omega) f0 e9 G.keys.rd G.ones.2 (by omega) (by omega) (by have:=a5.size;omega)).mono ?_;rintro e w3 ⟨v3,rfl,F,C,a2,a3⟩;obtain⟨d0,e5⟩:=G.insK d7 F C a2 a3 (by omega);obtain⟨A3,c3,rfl⟩:=cc F;refine⟨_,Z,w3,_,_,fJ (k.turn d0.env d0.okw C.size e5) (by decide) (.pure (.sc _ .nil) .nil),?_⟩;refine b9 (t:=.sc (.slice A3 (K.length+1) c3)) Z Z Z (bW Z Z)<|gL ?_;show BWP _ _ _ _ _
  refine BWP.of<|ae<|af (t:=nI (i+1)) Z Z Z (ah (ai Z Z Z Zy) (bu (by omega)))<|aa 1 Z<|ag<|⟨r.tups.length-(i+1),by omega,i+1,_,_,A2,A3,c2,c3,_,_,_,by omega,Z,?_,kJ (by simp<;>omega) (by simp<;>omega) d0,Z,Z,qp (by simp<;>omega),qp (by simp<;>omega),Z,Z,Z⟩;rw[gC d3 d1];unfold gV;rw[if_pos j3];simp only;rw[<-f7,Me (L5 _),Mg (L5 _),f7,Me (L5 _),Mg (L5 _),MA,MA]
 obtain rfl:i=r.tups.length:=by have:=of_decide_eq_false hc;omega
 rw[M9]at d3;have h4:L=aP r:=by
  unfold aP;rw[if_neg (by rw[c5];exact MR),d3]
 refine l8 fun a w k=>⟨w0,G0,⟨63,[(3,.sl ((aP r).map iQ))],[],[]⟩,?_,l7 ?_⟩
 ·obtain⟨-,-,q,-⟩:=k.facts;have o:=d.later q;refine k.back d.e0 d.ok0 o.below ⟨?_,trivial⟩;show FT _ [a.tmps.getD 3 undef] _
  rw[k.lit (v:=.slice AO L.length cO) Z,<-h4];exact FT.gg (o.nest.pt fun g hg h2=>by have:=(d.nest.ok g hg).1;have:=(d.ok0 g h2).1;omega)
 refine⟨Z,Z,?_⟩;show AWP _ _ _ _ _
 refine ab<|aj 2 Z<|aC<|⟨.inr Z,_,.cons Z .nil,Z,Z⟩
theorem Dc(n:Int)(w:World)(O: -9223372036854775808<=n)(Q:n<=9223372036854775807):
  Calls Tryz.prog 99 #[.int .i64 n] w (ku (decide (n<0)) n.natAbs 1 w):=by
 obtain⟨W,L,d,m,y⟩:=lQ w 65 #[.bool false,.slice none 0 0,.slice none 0 0];have N:=J L;have D:=J d;have p:=J m;have b:=d.size;have c:w.heap.size<W.heap.size:=by omega
 clear L d m y;obtain⟨j,h⟩:∃j,decide (n<0)=j:=⟨_,rfl⟩;have K:=J (xi n W O Q);rw[h]at K;have C:=J h;clear h
 go_enter Tryz.func99,Tryz.ntmps99
 go_wp2_with fail
 rw[N.out];refine K.out.mono ?_;rintro e I ⟨vn,vd,rfl,i,g,a⟩;obtain⟨s,u,en,_⟩:=i.is (bY _);obtain⟨t,x,ed,_⟩:=g.is (bY _);subst en ed;have l:=J i;have k:=J g;have A:=J (ak D.out a b);have o:=J (p.out.below a p.out.lt);have Y:w.heap.size<=I.heap.size:=L6 b a.size;have R:w.heap.size<I.heap.size:=Mp c a.size;obtain⟨E,G,V,U,S,X⟩:=o.out.three;clear i g a
 go_wp2
 clear E G V U S X;obtain⟨q,M,z,F,T,r⟩:=cg o.out (.bool j) (.slice s (ay n.natAbs).length u) (.slice t (ay 1).length x);rw[M];have H:OwnN q W.heap.size _ (ay n.natAbs):=eZ l.out (iA l.out c) r;have B:OwnN q W.heap.size _ (ay 1):=eZ k.out (iA k.out c) r;obtain⟨P,E,G,_,_,_⟩:=(z.alloc (.cells #[.bool j,.slice s (ay n.natAbs).length u,.slice t (ay 1).length x] 65)).three;have f:Below q.heap.size q (q.alloc (.cells #[.bool j,.slice s (ay n.natAbs).length u,.slice t (ay 1).length x] 65)):=(Below.refl _ _).alloc (L5 _) _;exact bodyPost_ret (v:=.agg #[.bool j,.slice s (ay n.natAbs).length u,.slice t (ay 1).length x]) (by simp[results,Tryz.results99,go_sem,P,E,G]) Z ⟨_,_,by rw[C.out],(H.below f).base_le b,(B.below f).base_le b,(A.out.trans F).trans (f.mono (by omega))⟩
def Dd(ng:Bool)(X:Nat):List UInt8:=if ng=true then 45::Lib.decDigits X else Lib.decDigits X
def LG(g:Nat)(Bd:Option Addr)(cd:Nat):List (Value->World->Prop):=[
 fun r _=>r=.pointer (some ⟨g,2,none⟩),
 fun r _=>r=.slice Bd (ay 1).length cd,
 fun r W=>IsD W r 1,
 fun r _=>r=.int .i64 0,
 fun r _=>r=.bool false]
theorem xX(g:Nat)(b:Option Addr)(c:Nat)(a:World):Stab a (LG g b c):=
 .eq<|.eq<|.cons (fun _ _ _ _ h d=>h.below d)<|.eq<|.eq<|.nil
theorem xY(K:Bool)(A B:Option Addr)(ca cb X:Nat)(w:World)(hA:IsN w A ca (ay X))(hB:IsN w B cb (ay 1))(a2:(ay X).length<=1048576)(hn:K=true->X≠0)(hD:(Lib.decDigits X).length<=1073741824):
  Calls Tryz.prog 42 #[.agg #[.bool K,.slice A (ay X).length ca,.slice B (ay 1).length cb]] w (mI (Dd K X) w):=by
 obtain⟨W,hW,m,b5,b1⟩:=lQ w 65 #[.bool K,.slice A (ay X).length ca,.slice B (ay 1).length cb];have HW:=J hW;have c6:=J m;have a3:=m.size;have HC:=J (zu (hA.below m) (hB.below m) a2 hn);clear hW m b5 b1 hA hB hn
 go_enter Tryz.func42,Tryz.ntmps42
 go_wp2_with fail
 rw[HW.out];refine HC.out.mono ?_;rintro e w1 ⟨vn,vd,rfl,a9,a4,E⟩;obtain⟨An,cn,en,b0⟩:=a9.is (bY _);obtain⟨s,q,ed,N⟩:=a4.is (bY _);subst en ed;have c7:=J (ak c6.out E a3);have P:w.heap.size<=w1.heap.size:=L6 a3 E.size;obtain⟨W2,S,d,u,O⟩:=lQ w1 65 #[.bool K,.slice An (ay X).length cn,.slice s (ay 1).length q];have c3:=J S;have c5:=J (b0.below d);have c1:=J (N.below d);have M:=J u;have c0:=J (ak c7.out d P);have Y:w.heap.size<=W2.heap.size:=L6 P d.size;clear a9 a4 E b0 N S d u O;have x:=r7 An cn (ay X) W2 c5.out a2 (by rw[aI];exact hD);rw[aI]at x;have b2:=J x;clear x
 go_wp2_with fail
 rw[c3.out];refine b2.out.mono ?_;rintro e w3 ⟨rfl,n⟩;have a1:=J (ak c0.out n Y);have a0:=J (c1.out.below n);have a5:=J (M.out.below n M.out.lt);have R:w.heap.size<=w3.heap.size:=L6 Y n.size;obtain⟨d0,d1,d2,_,_,_⟩:=a5.out.three;have L:=a5.out.lt;generalize d3:w1.heap.size=g at*;obtain⟨D,z⟩:∃D,Lib.decDigits X=D:=⟨_,rfl⟩;have V:=J z;rw[z]at hD⊢;clear n z d3;cases K
 ·go_wp2
  have c2:=d2;refine ft [some 14,some 15,some 16,some 17,some 18] (LG g s q) (by kernel_rfl) (by kernel_rfl) (by rfl) (by rfl) (xX g s q _) ?_ ?_
  ·refine Steps.cons trivial (fun T W a=>?_) ?_
   ·have e3:T 3=.pointer (some ⟨g,0,none⟩):=a.keep 3 (by rfl);have b:=a.wi;clear a;refine aq (v:=.pointer (some ⟨g,2,none⟩)) (W':=W) ?_ ⟨Z,Below.refl _ _⟩;simp only[execOp,cA,e3];go_simp
   refine Steps.cons trivial (fun T W a=>?_) ?_
   ·have I:T 14=.pointer (some ⟨g,2,none⟩):=a.fact 1 0 14 (by kernel_rfl);have b:=a.wi;clear a;refine aq (v:=.slice s (ay 1).length q) (W':=W) ?_ ⟨Z,Below.refl _ _⟩;have c9:=(b.cell (p:=⟨g,2,none⟩) L).trans c2;simp only[execOp,cA,I];go_simp
   refine Steps.cons trivial (fun T W a=>?_) ?_
   ·have b:=a.wi;clear a;refine bJ ?_ ((kt 1 _ (by omega)).mono fun e W' h=>?_)
    ·simp only[execOp,resolve,invoke,Nf,MX,ND,cA];go_simp
    obtain⟨U,c',he,y,t⟩:=h.open_;exact⟨_,he,⟨U,c',Z,y⟩,t⟩
   refine Steps.cons trivial (fun T W a=>?_) ?_
   ·have F:T 15=.slice s (ay 1).length q:=a.fact 1 1 15 (by kernel_rfl);have l:(fun r W=>IsD W r 1) (T 16) W:=a.fact 1 2 16 (by kernel_rfl);simp only at l;have b:=a.wi;clear a;obtain⟨U,c',G,y⟩:=l;refine bJ ?_ ((I5 (a0.out.below b) y (by have:=lg;omega) (by have:=lg;omega)).mono fun e W' h=>⟨_,h.1,?_,h.2⟩)
    ·simp only[execOp,resolve,invoke,Nf,MX,ND,cA,F,G];go_simp
    show Value.int .i64 (eu ((1:Nat):Int) ((1:Nat):Int))=_
    rw[iz Z]
   refine Steps.cons trivial (fun T W a=>?_) ?_
   ·have H:T 17=.int .i64 0:=a.fact 1 3 17 (by kernel_rfl);have b:=a.wi;clear a;refine aq (v:=.bool false) (W':=W) ?_ ⟨Z,Below.refl _ _⟩;simp only[execOp,cA,H];go_simp
   exact Steps.nil
  intro us W1 c Q t;obtain⟨y0,d4,rfl,j⟩:=aY c;clear c;obtain⟨y1,b3,rfl,o⟩:=aY j;clear j;obtain⟨y2,d5,rfl,f⟩:=aY o;clear o;obtain⟨y3,c4,rfl,i⟩:=aY f;clear f;obtain⟨y4,d6,rfl,k⟩:=aY i;clear i;obtain rfl:=kS k;clear k;have f4:y4=.bool false:=Q 4 (by decide);clear Q;subst f4;simp only[b8,Mn,MD,Mj,Mv,Ms];have C:=J (ak a1.out t R);clear t c2 d0 d1 d2
  go_wp2
  go_ret
  exact⟨by rw[show Dd false X=D from V.out];rfl,C.out⟩
 go_wp2
 have c2:=d2;refine ft [some 14,some 15,some 16,some 17,some 18] (LG g s q) (by kernel_rfl) (by kernel_rfl) (by rfl) (by rfl) (xX g s q _) ?_ ?_
 ·refine Steps.cons trivial (fun T W a=>?_) ?_
  ·have e3:T 3=.pointer (some ⟨g,0,none⟩):=a.keep 3 (by rfl);have b:=a.wi;clear a;refine aq (v:=.pointer (some ⟨g,2,none⟩)) (W':=W) ?_ ⟨Z,Below.refl _ _⟩;simp only[execOp,cA,e3];go_simp
  refine Steps.cons trivial (fun T W a=>?_) ?_
  ·have I:T 14=.pointer (some ⟨g,2,none⟩):=a.fact 1 0 14 (by kernel_rfl);have b:=a.wi;clear a;refine aq (v:=.slice s (ay 1).length q) (W':=W) ?_ ⟨Z,Below.refl _ _⟩;have c9:=(b.cell (p:=⟨g,2,none⟩) L).trans c2;simp only[execOp,cA,I];go_simp
  refine Steps.cons trivial (fun T W a=>?_) ?_
  ·have b:=a.wi;clear a;refine bJ ?_ ((kt 1 _ (by omega)).mono fun e W' h=>?_)
   ·simp only[execOp,resolve,invoke,Nf,MX,ND,cA];go_simp
   obtain⟨U,c',he,y,t⟩:=h.open_;exact⟨_,he,⟨U,c',Z,y⟩,t⟩
  refine Steps.cons trivial (fun T W a=>?_) ?_
  ·have F:T 15=.slice s (ay 1).length q:=a.fact 1 1 15 (by kernel_rfl);have l:(fun r W=>IsD W r 1) (T 16) W:=a.fact 1 2 16 (by kernel_rfl);simp only at l;have b:=a.wi;clear a;obtain⟨U,c',G,y⟩:=l;refine bJ ?_ ((I5 (a0.out.below b) y (by have:=lg;omega) (by have:=lg;omega)).mono fun e W' h=>⟨_,h.1,?_,h.2⟩)
   ·simp only[execOp,resolve,invoke,Nf,MX,ND,cA,F,G];go_simp
   show Value.int .i64 (eu ((1:Nat):Int) ((1:Nat):Int))=_
   rw[iz Z]
  refine Steps.cons trivial (fun T W a=>?_) ?_
  ·have H:T 17=.int .i64 0:=a.fact 1 3 17 (by kernel_rfl);have b:=a.wi;clear a;refine aq (v:=.bool false) (W':=W) ?_ ⟨Z,Below.refl _ _⟩;simp only[execOp,cA,H];go_simp
  exact Steps.nil
 intro us W1 c Q t;obtain⟨y0,d4,rfl,j⟩:=aY c;clear c;obtain⟨y1,b3,rfl,o⟩:=aY j;clear j;obtain⟨y2,d5,rfl,f⟩:=aY o;clear o;obtain⟨y3,c4,rfl,i⟩:=aY f;clear f;obtain⟨y4,d6,rfl,k⟩:=aY i;clear i;obtain rfl:=kS k;clear k;have f4:y4=.bool false:=Q 4 (by decide);clear Q;subst f4;simp only[b8,Mn,MD,Mj,Mv,Ms];have C:=J (ak a1.out t R);clear t c2 d0 d1 d2
 go_wp2
 go_ret
 refine⟨?_,C.out⟩;rw[show Dd true X=45::D by rw[Dd,if_pos Z,V.out]];have:=j9 [45] D;simp at this⊢;first|rfl|exact this
end Go.Proofs.YtfoejfohbkmmeaaGreatDoor
