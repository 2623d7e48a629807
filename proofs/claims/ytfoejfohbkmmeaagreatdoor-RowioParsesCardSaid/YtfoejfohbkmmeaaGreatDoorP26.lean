import Derived.Test.YtfoejfohbkmmeaaGreatDoorP24
import Derived.Test.YtfoejfohbkmmeaaGreatDoorP21
import Derived.Test.YtfoejfohbkmmeaaGreatDoorP00
import Derived.Test.YtfoejfohbkmmeaaGreatDoorP06
import Derived.Test.YtfoejfohbkmmeaaGreatDoorP13
import Derived.Test.YtfoejfohbkmmeaaGreatDoorP01
set_option maxRecDepth 100000
set_option maxHeartbeats 4000000
namespace Go.Proofs.YtfoejfohbkmmeaaGreatDoor
open Go.RowKit
open Lib renaming hid→J
structure GI (w0:World) (G0:Nat->Prop) (r:Rel) (m:Nat) (w1:World) (G1:Nat->Prop) (S:St) (i:Nat) (L:List (List Nat)) (K:List (List V)) (AO AK:Option Addr) (cO cK:Nat) (vs xs:List Value) (sl:List (Nat×Tree)):Prop where
 hi:i<=r.tups.length
 hm:m=r.tups.length-i
 st:dE r.sch ([],[]) 0 (r.tups.take i)=(K,L)
 side:Side w0 G0 w1 G1 (.slice AO L.length cO) vs L (.slice AK K.length cK) xs K
 hS:S=⟨63,sl,[],[]⟩
 s1:look sl 1=.ref (aV r)
 s3:look sl 3=.sc (.slice AO L.length cO)
 s4:look sl 4=.sc (.slice AK K.length cK)
 s15:look sl 15=.sl (r.tups.map Tp.tree)
 s16:look sl 16=.sc (.int .i64 (r.tups.length:Nat))
 s17:look sl 17=.sc (.int .i64 (i:Nat))
def LN(w0:World)(G0:Nat->Prop)(r:Rel)(m:Nat)(w1:World)(G1:Nat->Prop)(S:St):Prop:=∃i L K AO AK cO cK vs xs sl,GI w0 G0 r m w1 G1 S i L K AO AK cO cK vs xs sl
theorem gZ{s:Sch}{ts:List Tp}{i:Nat}{t:Tp}{K:List (List V)}{L:List (List Nat)}(a:dE s ([],[]) 0 (ts.take i)=(K,L))(c:ts[i]? =some t):dE s ([],[]) 0 (ts.take (i+1))=iw s (K,L) i t:=by
 obtain⟨b,rfl⟩:=L6.1 c;rw[Mx b,nM,a,Mf,MT,Ns (by omega)]
theorem kH{α:Type}(l:List α)(x:α){p:Nat}(a:p<=l.length):l.insertIdx p x=l.take p++[x]++l.drop p:=by
 have h:=gI x (l.drop p) (l.take p);rw[M4,Mf,Ns a]at h;rw[h,Mv];rfl
theorem sZ{α:Type}(f:α->α){l:List α}{p:Nat}{x:α}(h:l[p]? =some x):l.modify p f=l.set p (f x):=by
 obtain⟨b,rfl⟩:=L6.1 h;have c:=oc f l[p] (l.drop (p+1)) (l.take p);have a:(l.take p).length=p:=by rw[Mf];omega
 rw[<-Mc b,M4,a]at c;rw[c,Pl,if_pos b]
theorem F1{K:List (List V)}(h:K6 K)(k:List V):K5 K k:=fun a b x y j e c f=>by
 rcases MA a b with d|i
 ·obtain⟨l,rfl⟩:=L6.1 e;obtain⟨g,rfl⟩:=L6.1 c;exact iU (PP.1 h a b l g d) f
 obtain rfl:a=b:=by omega
 rw[e]at c;cases c;exact f
theorem yq(K:List (List V))(k:List V):bu K k<=K.length:=by
 unfold bu;exact(Oc _).length_le
theorem qU:∀{cs:List Col} {vs us:List V},vs.length=cs.length->us.length=cs.length->(dZ cs vs=[]↔dZ cs us=[])
 |[],[],[],_,_=>OT
 |[],_::_,_,h,_=>by simp at h
 |[],_,_::_,_,h=>by simp at h
 |_::_,[],_,h,_=>by simp at h
 |_::_,_::_,[],_,h=>by simp at h
 |c::cs,v::vs,u::us,h,h'=>by
  have a:=qU (cs:=cs) (vs:=vs) (us:=us) (by simpa using h) (by simpa using h');rw[dZ,dZ];split
  ·simp
  exact a
theorem uT{s:Sch}{ts:List Tp}{i:Nat}{K:List (List V)}{L:List (List Nat)}(d:dE s ([],[]) 0 (ts.take i)=(K,L))(A:i<=ts.length)(o:∀t∈ts,t.vals.length=s.cols.length):
  L.length<=i/\K.length=L.length/\(∀b∈L,b.length<=i)/\(∀k∈K,k.length<=s.cols.length)/\((∃t∈ts,aG s t.vals≠ [])->K6 K):=by
 have v:=lO (s:=s) (ts.take i) ([],[]) 0 ⟨L4 _,fun b q=>(by cases q)⟩;rw[d,Mf,MT,Ns A]at v;have x:∀(us:List Tp) (c:List (List V)×List (List Nat)) (j:Nat),c.1.length=c.2.length->(∀k∈c.1,k.length<=s.cols.length)->(dE s c j us).1.length=(dE s c j us).2.length/\∀k∈(dE s c j us).1,k.length<=s.cols.length:=by
  intro us;induction us with
  |nil=>intro c j h m;exact⟨h,m⟩
  |cons u us ih=>
   intro c j h m;refine ih _ _ ?_ ?_
   ·unfold iw;split
    ·simp[h]
    split
    ·simp[h]
    simp[Qd,h]
   intro k a;unfold iw at a;split at a
   ·rcases Mw.1 a with a|a
    ·exact m k a
    rw[Mm.1 a];exact iG _ _
   split at a
   ·exact m k a
   rcases kF a with a|rfl
   ·exact m k a
   exact iG _ _
 have p:=x (ts.take i) ([],[]) 0 Z (fun k a=>by cases a);rw[d]at p;refine⟨v.1,p.1,fun b q=>(v.2 b q).1,p.2,fun⟨n,g,r⟩=>?_⟩;have l:∀t∈ts,aG s t.vals≠ []:=fun t f e=>r (by
  have y:aG s t.vals=dZ s.cols t.vals:=by unfold aG;rw[if_pos (o t f)]
  have z:aG s n.vals=dZ s.cols n.vals:=by unfold aG;rw[if_pos (o n g)]
  rw[z,qU (o n g) (o t f)];rw[<-y];exact e)
 have w:=jy (s:=s) (ts.take i) [] ([],[]) ⟨Z,fun t f=>(by cases f),fun k a=>(by cases a),List.Pairwise.nil⟩ fun t f=>l t (ME f)
 rw[Mg,d]at w;exact w.srt
theorem qV{A:Option Addr}{n m c:Nat}(h:m=n):Tree.sc (.slice A n c)=.sc (.slice A m c):=by rw[h]
theorem lf{w0 e:World}{G0 f:Nat->Prop}{A B:Option Addr}{n m b a c d:Nat}{vs xs:List Value}{L:List (List Nat)}{K:List (List V)}(i:b=n)(g:a=m)(h:Side w0 G0 e f (.slice A n c) vs L (.slice B m d) xs K):Side w0 G0 e f (.slice A b c) vs L (.slice B a d) xs K:=by subst i g;exact h
theorem yr:(Tryz.prog.info? 3).map (fun i=>(i.zero,i.size,i.bytes))=some (some (.int .i64 0),1,8):=by kernel_rfl
theorem ci:gN Tryz.prog 98=some (23,1):=by kernel_rfl
theorem lR:jo Tryz.prog 23=true:=by kernel_rfl
theorem s0:(Tryz.prog.info? 23).map (·.size)=some 1:=by kernel_rfl
theorem lS:gz Tryz.prog 23=some [.slice none 0 0]:=by kernel_rfl
theorem s6:gz Tryz.prog 61=some [.slice none 0 0]:=by kernel_rfl
theorem DH(r:Rel)(h:FitR r)(o2:∀t∈r.tups,t.vals.length=r.sch.cols.length):Ct 65 [r.tree] (.sl ((aW r).map jj)):=by
 refine Ct.of (n:=63) Tryz.func65 Z Z Z Z Z fun w0 G0=>?_
 refine ab<|ae<|aa 1 Z<|af (t:=.sl []) Z Z Z (cz (.inr Z) dk)<|ag<|ab<|ab<|aj 3 Z<|aF Z (fun f3=>?_) (fun f3=>?_)
 ·have c4:=f3;refine ab<|ae<|af (t:=.sl []) Z Z Z (cz (.inr Z) dk)<|ag<|aw<|⟨.inr Z,_,.cons Z .nil,by unfold aW;rw[c4];rfl,Z⟩
 have c4:=f3;refine am<|ab<|aj 1 Z<|ab<|aj 1 Z<|ab<|ab<|ae<|aa 2 Z<|af (t:=nI r.tups.length) Z Z Z (ah (aZ Z aN Z) (by simp only[L5]))<|aa 1 Z<|ag<|aB<|wl<|jQ fun a w k=>?_
 obtain⟨h8,h0,m3,g0,d2⟩:=k.unbox (ty:=30) (l:=[(1,.ref (aV r)),(3,.sc (.slice none 0 0)),(4,.sc (.slice none 0 0)),(15,.sl (r.tups.map Tp.tree)),(16,nI r.tups.length),(17,nI 0)]) rfl rfl rfl ⟨.inr ⟨0,rfl,rfl⟩,.inl ⟨rfl,rfl⟩,.inl ⟨rfl,rfl⟩,.inl ⟨rfl,rfl⟩,.inl ⟨rfl,rfl⟩,.inl ⟨rfl,rfl⟩,trivial⟩;refine⟨w,G0,_,h8,?_⟩;clear k h8;refine xH (LN w0 G0 r) r.tups.length ⟨0,[],[],none,none,0,0,[],[],_,Mp _,Z,Z,⟨Nest.nil _ _,KeyR.nil _ _ _,fun b hb=>(by cases hb),fun b=>⟨.inl,fun h=>h.elim id fun h=>h.elim (fun h=>h.elim (fun h=>by cases h) fun⟨u,hu,_⟩=>by cases hu) fun h=>by cases h⟩,h0,m3,g0⟩,Z,Z,Z,Z,Z,Z,Z⟩ ?_;clear h0 d2 a w;rintro m w1 G1 S ⟨i,L,K,AO,AK,cO,cK,vs,xs,sl,hi,rfl,d4,d,rfl,s1,s3,s4,i1,m2,n0⟩;obtain⟨p3,h7,m1,i5,g3⟩:=uT d4 hi o2;have p4:=h.tups;refine mu [(1,.ref (aV r)),(3,.sc (.slice AO L.length cO)),(4,.sc (.slice AK K.length cK)),(15,.sl (r.tups.map Tp.tree)),(16,nI r.tups.length),(17,nI i)] (.cons s1 Z (.cons s3 Z (.cons s4 Z (.cons i1 Z (.cons m2 Z (.cons n0 Z .nil))))))<|ch (BWP.of ?_);refine ae<|af (t:=bT (decide (i<r.tups.length))) Z Z Z (ah (ai Z Z Z Zy) (ar (gA i r.tups.length)))<|ag ?_;show BWP _ _ w1 G1 _
 refine ch<|jP (b:=decide (i<r.tups.length)) Z (fun hc=>?_) (fun hc=>?_)
 ·replace hc:=of_decide_eq_true hc;obtain⟨t,e1⟩:∃t,r.tups[i]? =some t:=⟨_,L3 hc⟩;have p2:=h.tup t (L7 e1);refine jO ?_;show BWP _ _ w1 G1 _
  refine ch (uv ?_);refine ch (BWP.of ?_);refine ae<|aa 1 Z<|af (t:=.ref (bV t)) Z Z Z (aM (Tp.tree t) Z aN Z Z Z (aS (f:=Tp.tree) e1) (bS _) Z)<|aa 4 Z<|ag ?_;show BWP _ _ w1 G1 _
  refine ch (BWP.of ?_);refine ae<|aa 4 Z<|af Z Z Z (ak Z (AE r.sch t.vals h.cols) Z Z)<|aa 1 Z<|ag ?_;show BWP _ _ w1 G1 _
  refine mu [(1,.ref (aV r)),(3,.sc (.slice AO L.length cO)),(4,.sc (.slice AK K.length cK)),(15,.sl (r.tups.map Tp.tree)),(16,nI r.tups.length),(17,nI i),(5,nI i),(7,.sl ((aG r.sch t.vals).map V.tree))] (.cons Z Z (.cons Z Z (.cons Z Z (.cons Z Z (.cons Z Z (.cons Z Z (.cons Z Z (.cons Z Z .nil))))))))<|ch (BWP.of ?_);refine ae<|aa 1 Z<|af (t:=nI L.length) Z Z Z (oU Z ci Z)<|aa 1 Z<|ag ?_;show BWP _ _ w1 G1 _
  refine ch (ch (BWP.of ?_));refine ae<|aa 1 Z<|af (t:=nI ((aG r.sch t.vals).length)) Z Z Z (ah (aZ Z bq Z) (by simp only[L5]))<|af (t:=bT (decide (0<(aG r.sch t.vals).length))) Z Z Z (ah (ai Z Z Z Zy) (ar (oF ((aG r.sch t.vals).length) 0)))<|ag ?_;show BWP _ _ w1 G1 _
  refine jP (b:=decide (0<(aG r.sch t.vals).length)) Z (fun hk=>?_) (fun hk=>?_)
  ·replace hk:=of_decide_eq_true hk;have e4:(aG r.sch t.vals)≠ []:=fun e=>by rw[e]at hk;simp at hk
   have k4:=g3 ⟨t,L7 e1,e4⟩;have n2:(aG r.sch t.vals).length<=65536:=Ma (iG _ _) h.cols;have o1:=yq K (aG r.sch t.vals);refine ch (ee ?_);refine bI (t:=.sc (.slice AK K.length cK)) Z Z Z (au Z Z)<|bI (t:=.sl ((aG r.sch t.vals).map V.tree)) Z Z Z (au Z Z)<|zW (t:=.tup [nI (bu K (aG r.sch t.vals)),bT ((K[bu K (aG r.sch t.vals)]?).any fun x=>aX x (aG r.sch t.vals)==0)]) Z Z Z Z Tryz.func126 Z Z (fun a w k=>?_) ?_
   ·obtain⟨d2,a3,q,-⟩:=k.facts;have o:=d.later q;have E:=k.slot (i:=34) (t:=.sl ((aG r.sch t.vals).map V.tree)) Z Z;rw[k.lit (v:=.slice AK K.length cK) Z];have h6:∀b,¬G1 b->¬(G0 b\/NB (.slice AO L.length cO) vs b):=fun b hG h2=>hG ((d.g1 b).2 (h2.elim .inl fun h=>.inr (.inl h)))
    have k1:=o.keys.pt h6 fun g hg h2=>h2.elim (fun h=>by have:=(d.key g hg).1;have:=(d.ok0 g h).1;omega) (d.kn g hg)
    refine((J6 K (aG r.sch t.vals) (by omega) (F1 k4 _) (fun x hx=>Ma (i5 x hx) h.cols) n2).2 (fun b=>G0 b\/NB (.slice AO L.length cO) vs b) w _ d2 (fun g hg=>a3 g ((d.g1 g).2 (hg.elim .inl fun h=>.inr (.inl h)))) (k1.cons ((E.sub h6).cons (.sc _ .nil)))).mono ?_;rintro e w' ⟨v,rfl,hv,hb⟩;refine⟨v,Z,?_,hb⟩;cases hv with
    |tup us _ hx _=>
     cases hx with
     |sc _ hx=>
      cases hx with
      |sc _ hx=>
       cases hx;exact .tup _ _ (.sc _ (.sc _ .nil)) .nil
   refine bI (t:=.tup [nI (bu K (aG r.sch t.vals)),bT ((K[bu K (aG r.sch t.vals)]?).any fun x=>aX x (aG r.sch t.vals)==0)]) Z Z Z (au Z Z)<|bI (t:=nI (bu K (aG r.sch t.vals))) Z Z Z (cT Z Z Z)<|bI (t:=bT ((K[bu K (aG r.sch t.vals)]?).any fun x=>aX x (aG r.sch t.vals)==0)) Z Z Z (cT Z Z Z)<|bI (t:=nI (bu K (aG r.sch t.vals))) Z Z Z (bp Z Z)<|bI (t:=bT ((K[bu K (aG r.sch t.vals)]?).any fun x=>aX x (aG r.sch t.vals)==0)) Z Z Z (bp Z Z)<|fD ?_;show BWP _ _ w1 G1 _
   refine ch (ch (BWP.of ?_));refine aj 1 Z ?_;show BWP _ _ w1 G1 _
   refine jP (b:=((K[bu K (aG r.sch t.vals)]?).any fun x=>aX x (aG r.sch t.vals)==0)) Z (fun hf=>?_) (fun hf=>?_)
   ·have p0:bu K (aG r.sch t.vals)<K.length:=by
     rcases MA (bu K (aG r.sch t.vals)) K.length with h|h
     ·exact h
     rw[Nn h]at hf;cases hf
    obtain⟨g,rfl⟩:∃g,AO=some ⟨g,0,none⟩:=by
     rcases d.nest.row.2 with⟨_,hn⟩|⟨g,q0,cur,hv,_⟩
     ·omega
     injection hv with h1;exact⟨g,h1⟩
    have o3:=d.nest.len;obtain⟨u,d3⟩:∃u,vs[bu K (aG r.sch t.vals)]? =some u:=⟨_,L3 (by omega)⟩;obtain⟨l,e7⟩:∃l,L[bu K (aG r.sch t.vals)]? =some l:=⟨_,L3 (by omega)⟩;have p1:=m1 l (L7 e7);refine ch (ee ?_);refine bI (t:=.sc (.slice (some ⟨g,0,none⟩) L.length cO)) Z Z Z (au Z Z)<|bI (t:=nI (bu K (aG r.sch t.vals))) Z Z Z (au Z Z)<|bI (t:=.sc (.slice (some ⟨g,0,none⟩) L.length cO)) Z Z Z (au Z Z)<|bI (t:=nI (bu K (aG r.sch t.vals))) Z Z Z (au Z Z)<|bI (t:=.sc (.pointer (some ⟨g,bu K (aG r.sch t.vals),none⟩))) Z Z Z (i8 (j:=bu K (aG r.sch t.vals)) Z ci Z Z Z (by omega) (by simp))<|nW (u:=u) Z Z Z Z Z lR (d.nest.ok g (.inl Z)).2.1 ?_ ?_
    ·have:=World.ownsRow.cells d.nest.row (g:=g) Z _ _ d3;rwa[nA]at this
    refine bI (t:=nI i) Z Z Z (au Z Z)<|fT Z Z Z Z cL iH (fun a w k=>by rw[k.lit (v:=.int .i64 (i:Nat)) Z];rfl) fun a w k=>?_
    rw[k.lit (v:=.int .i64 (i:Nat)) Z];obtain⟨-,-,q,-⟩:=k.facts;have p:(w.alloc (.cells #[.int .i64 (i:Nat)] 3)).heap[w.heap.size]? =some (.cells #[.int .i64 (i:Nat)] 3 (0,0)):=heap_alloc_new _ _;have h4:=(d.later q).later ((Below.refl w.heap.size w).alloc (L4 _) (.cells #[.int .i64 (i:Nat)] 3));have M:=q.size;have H:(w.alloc (.cells #[.int .i64 (i:Nat)] 3)).heap.size=w.heap.size+1:=by simp
    obtain⟨wa,B⟩:∃wa,w.alloc (.cells #[.int .i64 (i:Nat)] 3)=wa:=⟨_,rfl⟩;rw[B]at p h4 H;rw[B];obtain⟨z,N⟩:∃z,w.heap.size=z:=⟨_,rfl⟩;rw[N]at p M H;rw[N];clear k q B N a w;refine eS Z fun a w k=>?_
    obtain⟨-,-,F,-⟩:=k.facts;have o:=h4.later F;have h3:=o.nest.el _ u l d3 e7;have y:w.heap[z]? =some (.cells #[.int .i64 (i:Nat)] 3 (0,0)):=by rw[F.block z (by omega)];exact p
    obtain⟨_,_,i3,_⟩:=fL y;obtain⟨i0,i9,i4,j2,k2⟩:=info_parts yr;obtain⟨u2,w2,f8,f5,R,g2,h9⟩:=mS (P:=Tryz.prog) w w0.heap.size 23 23 3 i0 (.int .i64 0) 1 8 Tryz.underlying23 i9 i4 j2 k2 rfl (by decide) u l.length (od l) h3.1 (some ⟨z,0,none⟩) 1 1 [.int .i64 (i:Nat)] rfl (fun e=>by cases e) (fun b hb j x hj=>by
     injection hb with hb
     subst hb;cases j with
     |zero=>simp at hj;subst hj;exact i3
     |succ j=>simp at hj) (fun x hx=>by rw[Mm.1 hx];rfl) (by unfold maxLen;omega) (by omega) (by have:=o.below.size;omega) (by decide) Z h3.2
    have g4:w2.ownsRow w0.heap.size 3 1 u2 (l.length+1) (od (l++[i])):=by rw[show od (l++[i])=od l++[.int .i64 (i:Nat)] by simp[od]];exact f5
    obtain⟨m4,l1,n1⟩:=o.app1 d3 R g2 h9 fun g hg=>(f5.lt g hg).2
    obtain⟨A2,c2,f0⟩:=cF f5;refine aC (v:=u2) (W':=w2) (jR (T:=fun s=>a.tmps.getD s undef) Z (k.lit Z) (k.lit Z) f8) ⟨w2,_,_,fE (k.turn l1 m4 R.size n1) (by decide) (.pure (.sc u2 .nil) .nil),?_⟩;clear k F p y a;refine bI (t:=.sc (.pointer (some ⟨g,bu K (aG r.sch t.vals),none⟩))) Z Z Z (i8 (j:=bu K (aG r.sch t.vals)) Z ci Z Z Z (by omega) (by simp))<|eS Z fun a wb k=>?_
    obtain⟨-,-,I,-⟩:=k.facts;obtain⟨G,k0⟩:=o.app2 d3 e7 rfl g4 R g2 h9 (by rw[f0];rfl) I;have h5:=(o.nest.ok g (.inl Z)).2.1;have l5:wb.heap[g]? =w.heap[g]? :=by
     have h1:w2.heap[g]? =w.heap[g]? :=eh R h5 fun e=>o.nest.out u (L7 d3) g e Z
     rw[I.block g (Mj h5 R.size)];exact h1
    have e9:=im o.nest.row (w':=wb) fun b hb=>by injection hb with hb;subst hb;exact l5
    have k3:wb.cell? ⟨g,bu K (aG r.sch t.vals),none⟩=some u:=by
     have:=World.ownsRow.cells e9 (g:=g) Z _ _ d3;rwa[nA]at this
    refine fQ (W':=wb.setCell ⟨g,bu K (aG r.sch t.vals),none⟩ u2) (mv (T:=fun s=>a.tmps.getD s undef) Z (k.lit Z) (k.lit Z) s0 (by rw[f0];rfl) k3 (dz e9 _)) ⟨_,_,_,k.turn G.env G.okw (by simp[World.setCell]) k0,?_⟩;refine fD ?_;show BWP _ _ _ _ _
    refine ms ?_;show BWP _ _ _ _ _
    refine BWP.of<|ae<|af (t:=nI (i+1)) Z Z Z (ah (ai Z Z Z Zy) (bi (by omega)))<|aa 1 Z<|ag<|⟨r.tups.length-(i+1),by omega,i+1,_,_,some ⟨g,0,none⟩,AK,cO,cK,_,_,_,by omega,Z,?_,lf (by simp) Z G,Z,Z,qV (by simp),Z,Z,Z,Z⟩;rw[gZ d4 e1];unfold iw;rw[if_neg e4];simp only;rw[if_pos (c:=((K[bu K (aG r.sch t.vals)]?).any fun x=>aX x (aG r.sch t.vals)==0)=true) hf,sZ _ e7]
   refine jO ?_;show BWP _ _ w1 G1 _
   refine BWP.of<|aj 2 Z ?_;show BWP _ _ w1 G1 _
   refine ch (ee ?_);refine bI (t:=.sc (.slice AO L.length cO)) Z Z Z (au Z Z)<|bI (t:=nI (bu K (aG r.sch t.vals))) Z Z Z (au Z Z)<|bI (t:=nI i) Z Z Z (au Z Z)<|lD Z Z Z Z cL iH (fun a w k=>by rw[k.lit (v:=.int .i64 (i:Nat)) Z];exact⟨Z,Z⟩) fun a w k=>?_
   rw[k.lit (v:=.int .i64 (i:Nat)) Z];obtain⟨-,-,q,-⟩:=k.facts;obtain⟨wa,B⟩:∃wa,w.alloc (.cells #[.int .i64 (i:Nat)] 3)=wa:=⟨_,rfl⟩;have a4:Below w1.heap.size w1 wa:=by rw[<-B];exact q.alloc q.size _
   have p:wa.heap[w.heap.size]? =some (.cells #[.int .i64 (i:Nat)] 3 (0,0)):=by rw[<-B];exact heap_alloc_new _ _
   have M:=q.size;have H:wa.heap.size=w.heap.size+1:=by rw[<-B];simp
   rw[B];obtain⟨z,N⟩:∃z,w.heap.size=z:=⟨_,rfl⟩;rw[N]at p M H;rw[N];clear k q B N a w;refine fT Z Z Z Z ci lS (fun a w k=>by rw[k.lit (v:=.slice (some ⟨z,0,none⟩) 1 1) Z];rfl) fun a w k=>?_
   rw[k.lit (v:=.slice (some ⟨z,0,none⟩) 1 1) Z];obtain⟨-,-,F,-⟩:=k.facts;obtain⟨wb,J⟩:∃wb,w.alloc (.cells #[.slice (some ⟨z,0,none⟩) 1 1] 23)=wb:=⟨_,rfl⟩;have a1:Below wa.heap.size wa wb:=by rw[<-J];exact F.alloc F.size _
   have O:wb.heap[w.heap.size]? =some (.cells #[.slice (some ⟨z,0,none⟩) 1 1] 23 (0,0)):=by rw[<-J];exact heap_alloc_new _ _
   have b1:=F.size;have b3:wb.heap.size=w.heap.size+1:=by rw[<-J];simp
   rw[J];obtain⟨bB,c5⟩:∃bB,w.heap.size=bB:=⟨_,rfl⟩;rw[c5]at O b1 b3;rw[c5];clear k F J c5 a w;refine lE Z Z Z Tryz.func127 Z Z fun a w k=>?_
   obtain⟨d2,a3,I,-⟩:=k.facts;have c9:Below w1.heap.size w1 w:=aE (aE a4 a1 a4.size) I (Ma a4.size a1.size);have y:w.heap[z]? =some (.cells #[.int .i64 (i:Nat)] 3 (0,0)):=by rw[I.block z (by omega),a1.block z (by omega)];exact p
   have a0:w.heap[bB]? =some (.cells #[.slice (some ⟨z,0,none⟩) 1 1] 23 (0,0)):=by rw[I.block bB (by omega)];exact O
   have o:=d.later c9;have hu:EIs w w0.heap.size (.slice (some ⟨z,0,none⟩) 1 1) [i]:=rH y (by have:=d.below.size;omega);rw[k.lit (v:=.slice AO L.length cO) Z,k.lit (v:=.int .i64 ((bu K (aG r.sch t.vals):Nat):Int)) Z,k.lit (v:=.slice (some ⟨bB,0,none⟩) 1 1) Z];refine(KY w0.heap.size L.length (bu K (aG r.sch t.vals)) bB (.slice AO L.length cO) (.slice (some ⟨z,0,none⟩) 1 1) 23 vs w o.nest.row a0 (fun e=>by have:=(d.nest.ok bB (.inl e)).2.1;omega) Z Z o.nest.rd o.ones.1 (by omega) (by omega) (by have:=d.below.size;have:=c9.size;omega)).mono ?_;rintro e w' ⟨v',rfl,D,C,a2,a5⟩;obtain⟨U,e5⟩:=d.insL c9 hu (fun g hg=>by have R:some z=some g:=hg;injection R with R;omega) D C a2 a5 (by omega);obtain⟨A2,c2,rfl⟩:=cF D;refine⟨_,rfl,w',_,_,fE (k.turn U.env U.okw C.size fun b f7 hG=>e5 b f7 fun h=>hG (h.imp id fun e=>by injection e with e;exact e.symm)) (by decide) (.pure (.sc _ .nil) .nil),?_⟩;refine bI (t:=.sc (.slice A2 (L.length+1) c2)) Z Z Z (bp Z Z)<|fD ?_;show BWP _ _ _ _ _
   clear k d2 a3 I o hu D C a2 a5 e5 y a0 p O M H b1 b3 a4 a1;refine ee<|bI (t:=.sc (.slice AK K.length cK)) Z Z Z (au Z Z)<|bI (t:=nI (bu K (aG r.sch t.vals))) Z Z Z (au Z Z)<|bI (t:=.sl ((aG r.sch t.vals).map V.tree)) Z Z Z (au Z Z)<|fT Z Z Z Z jc s6 (fun a w k=>lP (k.slot (i:=58) (t:=jb (aG r.sch t.vals)) Z Z) Z _ (Mm.2 Z)) fun a w k=>?_
   have E:=k.slot (i:=58) (t:=jb (aG r.sch t.vals)) Z Z;obtain⟨W,Q⟩:∃W,a.tmps.getD 58 undef=W:=⟨_,rfl⟩;rw[Q]at E;rw[Q];obtain⟨-,a3,d1,-⟩:=k.facts;have X:=(Below.refl w.heap.size w).alloc (L4 _) (.cells #[W] 61);have b2:=E.later X;have f4:W.oneCell'=true:=lP E Z _ (Mm.2 Z);have f1:bQ W=true:=by
    obtain⟨A,c,e,_⟩:=PT.slice (es:=(aG r.sch t.vals).map V.tree) E;rw[e];rfl
   have Y:(w.alloc (.cells #[W] 61)).heap[w.heap.size]? =some (.cells #[W] 61 (0,0)):=heap_alloc_new _ _;have e6:=(U.later d1).later X;have b0:(w.alloc (.cells #[W] 61)).heap.size=w.heap.size+1:=by simp
   have e3:=d1.size;obtain⟨wc,c1⟩:∃wc,w.alloc (.cells #[W] 61)=wc:=⟨_,rfl⟩;rw[c1]at Y e6 b0 b2;rw[c1];obtain⟨bC,c0⟩:∃bC,w.heap.size=bC:=⟨_,rfl⟩;rw[c0]at Y b0 e3;rw[c0];clear k a3 d1 X c1 Q c0 E a w;refine lE Z Z Z Tryz.func128 Z Z fun a w k=>?_
   obtain⟨-,-,a9,-⟩:=k.facts;have G:=e6.later a9;have b5:w.heap[bC]? =some (.cells #[W] 61 (0,0)):=by rw[a9.block bC (by omega)];exact Y
   have e2:=b2.later a9;have f9:=U.below.size;rw[k.lit (v:=.slice AK K.length cK) Z,k.lit (v:=.int .i64 ((bu K (aG r.sch t.vals):Nat):Int)) Z,k.lit (v:=.slice (some ⟨bC,0,none⟩) 1 1) Z];refine(K4 w0.heap.size K.length (bu K (aG r.sch t.vals)) bC (.slice AK K.length cK) W 61 xs w G.keys.row b5 (fun e=>by have:=(U.key bC e).2.1;omega) f4 f1 G.keys.rd G.ones.2 (by omega) (by omega) (by have:=a9.size;omega)).mono ?_;rintro e w3 ⟨v3,rfl,D,C,a2,a5⟩;obtain⟨d0,f2⟩:=G.insK e2 D C a2 a5 (by omega);obtain⟨A3,c3,rfl⟩:=cF D;refine⟨_,Z,w3,_,_,fE (k.turn d0.env d0.okw C.size f2) (by decide) (.pure (.sc _ .nil) .nil),?_⟩;refine bI (t:=.sc (.slice A3 (K.length+1) c3)) Z Z Z (bp Z Z)<|fD ?_;show BWP _ _ _ _ _
   refine BWP.of<|ae<|af (t:=nI (i+1)) Z Z Z (ah (ai Z Z Z Zy) (bi (by omega)))<|aa 1 Z<|ag<|⟨r.tups.length-(i+1),by omega,i+1,_,_,A2,A3,c2,c3,_,_,_,by omega,Z,?_,lf (by simp<;>omega) (by simp<;>omega) d0,Z,Z,qV (by simp<;>omega),qV (by simp<;>omega),Z,Z,Z⟩;rw[gZ d4 e1];unfold iw;rw[if_neg e4];simp only;rw[if_neg (c:=((K[bu K (aG r.sch t.vals)]?).any fun x=>aX x (aG r.sch t.vals)==0)=true) (by rw[hf];exact MF),kH _ _ o1,kH _ _ (by omega)]
  have l2:(aG r.sch t.vals)=[]:=Mr (by have:=of_decide_eq_false hk;omega);refine jO ?_;show BWP _ _ w1 G1 _
  refine ch (ee ?_);refine bI (t:=.sc (.slice AO L.length cO)) Z Z Z (au Z Z)<|bI (t:=nI L.length) Z Z Z (au Z Z)<|bI (t:=nI i) Z Z Z (au Z Z)<|lD Z Z Z Z cL iH (fun a w k=>by rw[k.lit (v:=.int .i64 (i:Nat)) Z];exact⟨Z,Z⟩) fun a w k=>?_
  rw[k.lit (v:=.int .i64 (i:Nat)) Z];obtain⟨-,-,q,-⟩:=k.facts;obtain⟨wa,B⟩:∃wa,w.alloc (.cells #[.int .i64 (i:Nat)] 3)=wa:=⟨_,rfl⟩;have a4:Below w1.heap.size w1 wa:=by rw[<-B];exact q.alloc q.size _
  have p:wa.heap[w.heap.size]? =some (.cells #[.int .i64 (i:Nat)] 3 (0,0)):=by rw[<-B];exact heap_alloc_new _ _
  have M:=q.size;have H:wa.heap.size=w.heap.size+1:=by rw[<-B];simp
  rw[B];obtain⟨z,N⟩:∃z,w.heap.size=z:=⟨_,rfl⟩;rw[N]at p M H;rw[N];clear k q B N a w;refine fT Z Z Z Z ci lS (fun a w k=>by rw[k.lit (v:=.slice (some ⟨z,0,none⟩) 1 1) Z];rfl) fun a w k=>?_
  rw[k.lit (v:=.slice (some ⟨z,0,none⟩) 1 1) Z];obtain⟨-,-,F,-⟩:=k.facts;obtain⟨wb,J⟩:∃wb,w.alloc (.cells #[.slice (some ⟨z,0,none⟩) 1 1] 23)=wb:=⟨_,rfl⟩;have a1:Below wa.heap.size wa wb:=by rw[<-J];exact F.alloc F.size _
  have O:wb.heap[w.heap.size]? =some (.cells #[.slice (some ⟨z,0,none⟩) 1 1] 23 (0,0)):=by rw[<-J];exact heap_alloc_new _ _
  have b1:=F.size;have b3:wb.heap.size=w.heap.size+1:=by rw[<-J];simp
  rw[J];obtain⟨bB,c5⟩:∃bB,w.heap.size=bB:=⟨_,rfl⟩;rw[c5]at O b1 b3;rw[c5];clear k F J c5 a w;refine lE Z Z Z Tryz.func127 Z Z fun a w k=>?_
  obtain⟨d2,a3,I,-⟩:=k.facts;have c9:Below w1.heap.size w1 w:=aE (aE a4 a1 a4.size) I (Ma a4.size a1.size);have y:w.heap[z]? =some (.cells #[.int .i64 (i:Nat)] 3 (0,0)):=by rw[I.block z (by omega),a1.block z (by omega)];exact p
  have a0:w.heap[bB]? =some (.cells #[.slice (some ⟨z,0,none⟩) 1 1] 23 (0,0)):=by rw[I.block bB (by omega)];exact O
  have o:=d.later c9;have hu:EIs w w0.heap.size (.slice (some ⟨z,0,none⟩) 1 1) [i]:=rH y (by have:=d.below.size;omega);rw[k.lit (v:=.slice AO L.length cO) Z,k.lit (v:=.int .i64 ((L.length:Nat):Int)) Z,k.lit (v:=.slice (some ⟨bB,0,none⟩) 1 1) Z];refine(KY w0.heap.size L.length L.length bB (.slice AO L.length cO) (.slice (some ⟨z,0,none⟩) 1 1) 23 vs w o.nest.row a0 (fun e=>by have:=(d.nest.ok bB (.inl e)).2.1;omega) Z Z o.nest.rd o.ones.1 (L4 _) (by omega) (by have:=d.below.size;have:=c9.size;omega)).mono ?_;rintro e w' ⟨v',rfl,D,C,a2,a5⟩;obtain⟨U,e5⟩:=d.insL c9 hu (fun g hg=>by have R:some z=some g:=hg;injection R with R;omega) D C a2 a5 (L4 _);obtain⟨A2,c2,rfl⟩:=cF D;refine⟨_,rfl,w',_,_,fE (k.turn U.env U.okw C.size fun b f7 hG=>e5 b f7 fun h=>hG (h.imp id fun e=>by injection e with e;exact e.symm)) (by decide) (.pure (.sc _ .nil) .nil),?_⟩;refine bI (t:=.sc (.slice A2 (L.length+1) c2)) Z Z Z (bp Z Z)<|fD ?_;show BWP _ _ _ _ _
  clear k d2 a3 I o hu D C a2 a5 e5 y a0 p O M H b1 b3 a4 a1;refine ee<|bI (t:=.sc (.slice AK K.length cK)) Z Z Z (au Z Z)<|bI (t:=nI L.length) Z Z Z (au Z Z)<|bI (t:=.sl ((aG r.sch t.vals).map V.tree)) Z Z Z (au Z Z)<|fT Z Z Z Z jc s6 (fun a w k=>lP (k.slot (i:=58) (t:=jb (aG r.sch t.vals)) Z Z) Z _ (Mm.2 Z)) fun a w k=>?_
  have E:=k.slot (i:=58) (t:=jb (aG r.sch t.vals)) Z Z;obtain⟨W,Q⟩:∃W,a.tmps.getD 58 undef=W:=⟨_,rfl⟩;rw[Q]at E;rw[Q];obtain⟨-,a3,d1,-⟩:=k.facts;have X:=(Below.refl w.heap.size w).alloc (L4 _) (.cells #[W] 61);have b2:=E.later X;have f4:W.oneCell'=true:=lP E Z _ (Mm.2 Z);have f1:bQ W=true:=by
   obtain⟨A,c,e,_⟩:=PT.slice (es:=(aG r.sch t.vals).map V.tree) E;rw[e];rfl
  have Y:(w.alloc (.cells #[W] 61)).heap[w.heap.size]? =some (.cells #[W] 61 (0,0)):=heap_alloc_new _ _;have e6:=(U.later d1).later X;have b0:(w.alloc (.cells #[W] 61)).heap.size=w.heap.size+1:=by simp
  have e3:=d1.size;obtain⟨wc,c1⟩:∃wc,w.alloc (.cells #[W] 61)=wc:=⟨_,rfl⟩;rw[c1]at Y e6 b0 b2;rw[c1];obtain⟨bC,c0⟩:∃bC,w.heap.size=bC:=⟨_,rfl⟩;rw[c0]at Y b0 e3;rw[c0];clear k a3 d1 X c1 Q c0 E a w;refine lE Z Z Z Tryz.func128 Z Z fun a w k=>?_
  obtain⟨-,-,a9,-⟩:=k.facts;have G:=e6.later a9;have b5:w.heap[bC]? =some (.cells #[W] 61 (0,0)):=by rw[a9.block bC (by omega)];exact Y
  have e2:=b2.later a9;have f9:=U.below.size;rw[k.lit (v:=.slice AK K.length cK) Z,k.lit (v:=.int .i64 ((L.length:Nat):Int)) Z,k.lit (v:=.slice (some ⟨bC,0,none⟩) 1 1) Z];refine(K4 w0.heap.size K.length L.length bC (.slice AK K.length cK) W 61 xs w G.keys.row b5 (fun e=>by have:=(U.key bC e).2.1;omega) f4 f1 G.keys.rd G.ones.2 (by omega) (by omega) (by have:=a9.size;omega)).mono ?_;rintro e w3 ⟨v3,rfl,D,C,a2,a5⟩;obtain⟨d0,f2⟩:=G.insK e2 D C a2 a5 (by omega);obtain⟨A3,c3,rfl⟩:=cF D;refine⟨_,Z,w3,_,_,fE (k.turn d0.env d0.okw C.size f2) (by decide) (.pure (.sc _ .nil) .nil),?_⟩;refine bI (t:=.sc (.slice A3 (K.length+1) c3)) Z Z Z (bp Z Z)<|fD ?_;show BWP _ _ _ _ _
  refine BWP.of<|ae<|af (t:=nI (i+1)) Z Z Z (ah (ai Z Z Z Zy) (bi (by omega)))<|aa 1 Z<|ag<|⟨r.tups.length-(i+1),by omega,i+1,_,_,A2,A3,c2,c3,_,_,_,by omega,Z,?_,lf (by simp<;>omega) (by simp<;>omega) d0,Z,Z,qV (by simp<;>omega),qV (by simp<;>omega),Z,Z,Z⟩;rw[gZ d4 e1];unfold iw;rw[if_pos l2];simp only;rw[<-h7,Me (L4 _),Md (L4 _),h7,Me (L4 _),Md (L4 _),Mq,Mq]
 obtain rfl:i=r.tups.length:=by have:=of_decide_eq_false hc;omega
 rw[M6]at d4;have i2:L=aW r:=by
  unfold aW;rw[if_neg (by rw[c4];exact MF),d4]
 refine jQ fun a w k=>⟨w0,G0,⟨63,[(3,.sl ((aW r).map jj))],[],[]⟩,?_,ms ?_⟩
 ·obtain⟨-,-,q,-⟩:=k.facts;have o:=d.later q;refine k.back d.e0 d.ok0 o.below ⟨?_,trivial⟩;show FT _ [a.tmps.getD 3 undef] _
  rw[k.lit (v:=.slice AO L.length cO) Z,<-i2];exact FT.gg (o.nest.pt fun g hg h2=>by have:=(d.nest.ok g hg).1;have:=(d.ok0 g h2).1;omega)
 refine⟨Z,Z,?_⟩;show AWP _ _ _ _ _
 refine ab<|aj 2 Z<|aw<|⟨.inr Z,_,.cons Z .nil,Z,Z⟩
theorem DI(n:Int)(w:World)(Q: -9223372036854775808<=n)(L:n<=9223372036854775807):
  Calls Tryz.prog 99 #[.int .i64 n] w (kW (decide (n<0)) n.natAbs 1 w):=by
 obtain⟨W,I,h,k,B⟩:=ri w 65 #[.bool false,.slice none 0 0,.slice none 0 0];have U:=J I;have x:=J h;have m:=J k;have b:=h.size;have f:w.heap.size<W.heap.size:=by omega
 clear I h k B;obtain⟨ng,g⟩:∃ng,decide (n<0)=ng:=⟨_,rfl⟩;have H:=J (xQ n W Q L);rw[g]at H;have z:=J g;clear g
 go_enter Tryz.func99,Tryz.ntmps99
 go_wp2_with fail
 rw[U.out];refine H.out.mono ?_;rintro e K ⟨vn,vd,rfl,d,i,a⟩;obtain⟨t,s,en,_⟩:=d.is (bZ _);obtain⟨u,r,P,_⟩:=i.is (bZ _);subst en P;have o:=J d;have l:=J i;have D:=J (aE x.out a b);have q:=J (m.out.below a m.out.lt);have N:w.heap.size<=K.heap.size:=Ma b a.size;have R:w.heap.size<K.heap.size:=Mj f a.size;obtain⟨G,y,M,S,Y,X⟩:=q.out.three;clear d i a
 go_wp2
 clear G y M S Y X;obtain⟨p,V,F,A,O,j⟩:=ec q.out (.bool ng) (.slice t (ax n.natAbs).length s) (.slice u (ax 1).length r);rw[V];have C:OwnN p W.heap.size _ (ax n.natAbs):=fc o.out (iR o.out f) j;have E:OwnN p W.heap.size _ (ax 1):=fc l.out (iR l.out f) j;obtain⟨T,G,y,_,_,_⟩:=(F.alloc (.cells #[.bool ng,.slice t (ax n.natAbs).length s,.slice u (ax 1).length r] 65)).three;have c:Below p.heap.size p (p.alloc (.cells #[.bool ng,.slice t (ax n.natAbs).length s,.slice u (ax 1).length r] 65)):=(Below.refl _ _).alloc (L4 _) _;exact bodyPost_ret (v:=.agg #[.bool ng,.slice t (ax n.natAbs).length s,.slice u (ax 1).length r]) (by simp[results,Tryz.results99,go_sem,T,G,y]) Z ⟨_,_,by rw[z.out],(C.below c).base_le b,(E.below c).base_le b,(D.out.trans A).trans (c.mono (by omega))⟩
def DJ(ng:Bool)(X:Nat):List UInt8:=if ng=true then 45::Lib.decDigits X else Lib.decDigits X
def LO(g:Nat)(Bd:Option Addr)(cd:Nat):List (Value->World->Prop):=[
 fun r _=>r=.pointer (some ⟨g,2,none⟩),
 fun r _=>r=.slice Bd (ax 1).length cd,
 fun r W=>IsD W r 1,
 fun r _=>r=.int .i64 0,
 fun r _=>r=.bool false]
theorem yu(g:Nat)(a:Option Addr)(b:Nat)(c:World):Stab c (LO g a b):=
 .eq<|.eq<|.cons (fun _ _ _ _ h d=>h.below d)<|.eq<|.eq<|.nil
theorem yv(ng:Bool)(A B:Option Addr)(ca cb X:Nat)(w:World)(hA:IsN w A ca (ax X))(hB:IsN w B cb (ax 1))(N:(ax X).length<=1048576)(hn:ng=true->X≠0)(hD:(Lib.decDigits X).length<=1073741824):
  Calls Tryz.prog 42 #[.agg #[.bool ng,.slice A (ax X).length ca,.slice B (ax 1).length cb]] w (m6 (DJ ng X) w):=by
 obtain⟨W,hW,n,b3,c0⟩:=ri w 65 #[.bool ng,.slice A (ax X).length ca,.slice B (ax 1).length cb];have HW:=J hW;have b2:=J n;have L:=n.size;have HC:=J (Ae (hA.below n) (hB.below n) N hn);clear hW n b3 c0 hA hB hn
 go_enter Tryz.func42,Tryz.ntmps42
 go_wp2_with fail
 rw[HW.out];refine HC.out.mono ?_;rintro e w1 ⟨vn,vd,rfl,O,a4,x⟩;obtain⟨An,cn,en,M⟩:=O.is (bZ _);obtain⟨q,s,ed,a5⟩:=a4.is (bZ _);subst en ed;have e0:=J (aE b2.out x L);have K:w.heap.size<=w1.heap.size:=Ma L x.size;obtain⟨W2,R,d,u,Y⟩:=ri w1 65 #[.bool ng,.slice An (ax X).length cn,.slice q (ax 1).length s];have d3:=J R;have e1:=J (M.below d);have b1:=J (a5.below d);have a2:=J u;have c9:=J (aE e0.out d K);have V:w.heap.size<=W2.heap.size:=Ma K d.size;clear O a4 x M a5 R d u Y;have E:=sq An cn (ax X) W2 e1.out N (by rw[aO];exact hD);rw[aO]at E;have c4:=J E;clear E
 go_wp2_with fail
 rw[d3.out];refine c4.out.mono ?_;rintro e w3 ⟨rfl,j⟩;have a3:=J (aE c9.out j V);have Q:=J (b1.out.below j);have U:=J (a2.out.below j a2.out.lt);have a0:w.heap.size<=w3.heap.size:=Ma V j.size;obtain⟨d0,d1,d2,_,_,_⟩:=U.out.three;have a1:=U.out.lt;generalize c3:w1.heap.size=g at*;obtain⟨D,F⟩:∃D,Lib.decDigits X=D:=⟨_,rfl⟩;have S:=J F;rw[F]at hD⊢;clear j F c3;cases ng
 ·go_wp2
  have c2:=d2;refine jh [some 14,some 15,some 16,some 17,some 18] (LO g q s) (by kernel_rfl) (by kernel_rfl) (by rfl) (by rfl) (yu g q s _) ?_ ?_
  ·refine Steps.cons trivial (fun T W a=>?_) ?_
   ·have e3:T 3=.pointer (some ⟨g,0,none⟩):=a.keep 3 (by rfl);have b:=a.wi;clear a;refine aC (v:=.pointer (some ⟨g,2,none⟩)) (W':=W) ?_ ⟨Z,Below.refl _ _⟩;simp only[execOp,dU,e3];go_simp
   refine Steps.cons trivial (fun T W a=>?_) ?_
   ·have I:T 14=.pointer (some ⟨g,2,none⟩):=a.fact 1 0 14 (by kernel_rfl);have b:=a.wi;clear a;refine aC (v:=.slice q (ax 1).length s) (W':=W) ?_ ⟨Z,Below.refl _ _⟩;have c1:=(b.cell (p:=⟨g,2,none⟩) a1).trans c2;simp only[execOp,dU,I];go_simp
   refine Steps.cons trivial (fun T W a=>?_) ?_
   ·have b:=a.wi;clear a;refine cP ?_ ((kV 1 _ (by omega)).mono fun e W' h=>?_)
    ·simp only[execOp,resolve,invoke,NP,M3,NV,dU];go_simp
    obtain⟨P,c',he,H,t⟩:=h.open_;exact⟨_,he,⟨P,c',Z,H⟩,t⟩
   refine Steps.cons trivial (fun T W a=>?_) ?_
   ·have z:T 15=.slice q (ax 1).length s:=a.fact 1 1 15 (by kernel_rfl);have m:(fun r W=>IsD W r 1) (T 16) W:=a.fact 1 2 16 (by kernel_rfl);simp only at m;have b:=a.wi;clear a;obtain⟨P,c',C,H⟩:=m;refine cP ?_ ((JI (Q.out.below b) H (by have:=lH;omega) (by have:=lH;omega)).mono fun e W' h=>⟨_,h.1,?_,h.2⟩)
    ·simp only[execOp,resolve,invoke,NP,M3,NV,dU,z,C];go_simp
    show Value.int .i64 (eo ((1:Nat):Int) ((1:Nat):Int))=_
    rw[ju Z]
   refine Steps.cons trivial (fun T W a=>?_) ?_
   ·have G:T 17=.int .i64 0:=a.fact 1 3 17 (by kernel_rfl);have b:=a.wi;clear a;refine aC (v:=.bool false) (W':=W) ?_ ⟨Z,Below.refl _ _⟩;simp only[execOp,dU,G];go_simp
   exact Steps.nil
  intro us W1 c hF t;obtain⟨y0,b5,rfl,i⟩:=dL c;clear c;obtain⟨y1,d4,rfl,l⟩:=dL i;clear i;obtain⟨y2,c5,rfl,f⟩:=dL l;clear l;obtain⟨y3,a9,rfl,o⟩:=dL f;clear f;obtain⟨y4,b0,rfl,k⟩:=dL o;clear o;obtain rfl:=vN k;clear k;have f4:y4=.bool false:=hF 4 (by decide);clear hF;subst f4;simp only[cj,Nz,PG,O2,Oz,NO];have y:=J (aE a3.out t a0);clear t c2 d0 d1 d2
  go_wp2
  go_ret
  exact⟨by rw[show DJ false X=D from S.out];rfl,y.out⟩
 go_wp2
 have c2:=d2;refine jh [some 14,some 15,some 16,some 17,some 18] (LO g q s) (by kernel_rfl) (by kernel_rfl) (by rfl) (by rfl) (yu g q s _) ?_ ?_
 ·refine Steps.cons trivial (fun T W a=>?_) ?_
  ·have e3:T 3=.pointer (some ⟨g,0,none⟩):=a.keep 3 (by rfl);have b:=a.wi;clear a;refine aC (v:=.pointer (some ⟨g,2,none⟩)) (W':=W) ?_ ⟨Z,Below.refl _ _⟩;simp only[execOp,dU,e3];go_simp
  refine Steps.cons trivial (fun T W a=>?_) ?_
  ·have I:T 14=.pointer (some ⟨g,2,none⟩):=a.fact 1 0 14 (by kernel_rfl);have b:=a.wi;clear a;refine aC (v:=.slice q (ax 1).length s) (W':=W) ?_ ⟨Z,Below.refl _ _⟩;have c1:=(b.cell (p:=⟨g,2,none⟩) a1).trans c2;simp only[execOp,dU,I];go_simp
  refine Steps.cons trivial (fun T W a=>?_) ?_
  ·have b:=a.wi;clear a;refine cP ?_ ((kV 1 _ (by omega)).mono fun e W' h=>?_)
   ·simp only[execOp,resolve,invoke,NP,M3,NV,dU];go_simp
   obtain⟨P,c',he,H,t⟩:=h.open_;exact⟨_,he,⟨P,c',Z,H⟩,t⟩
  refine Steps.cons trivial (fun T W a=>?_) ?_
  ·have z:T 15=.slice q (ax 1).length s:=a.fact 1 1 15 (by kernel_rfl);have m:(fun r W=>IsD W r 1) (T 16) W:=a.fact 1 2 16 (by kernel_rfl);simp only at m;have b:=a.wi;clear a;obtain⟨P,c',C,H⟩:=m;refine cP ?_ ((JI (Q.out.below b) H (by have:=lH;omega) (by have:=lH;omega)).mono fun e W' h=>⟨_,h.1,?_,h.2⟩)
   ·simp only[execOp,resolve,invoke,NP,M3,NV,dU,z,C];go_simp
   show Value.int .i64 (eo ((1:Nat):Int) ((1:Nat):Int))=_
   rw[ju Z]
  refine Steps.cons trivial (fun T W a=>?_) ?_
  ·have G:T 17=.int .i64 0:=a.fact 1 3 17 (by kernel_rfl);have b:=a.wi;clear a;refine aC (v:=.bool false) (W':=W) ?_ ⟨Z,Below.refl _ _⟩;simp only[execOp,dU,G];go_simp
  exact Steps.nil
 intro us W1 c hF t;obtain⟨y0,b5,rfl,i⟩:=dL c;clear c;obtain⟨y1,d4,rfl,l⟩:=dL i;clear i;obtain⟨y2,c5,rfl,f⟩:=dL l;clear l;obtain⟨y3,a9,rfl,o⟩:=dL f;clear f;obtain⟨y4,b0,rfl,k⟩:=dL o;clear o;obtain rfl:=vN k;clear k;have f4:y4=.bool false:=hF 4 (by decide);clear hF;subst f4;simp only[cj,Nz,PG,O2,Oz,NO];have y:=J (aE a3.out t a0);clear t c2 d0 d1 d2
 go_wp2
 go_ret
 refine⟨?_,y.out⟩;rw[show DJ true X=45::D by rw[DJ,if_pos Z,S.out]];have:=kE [45] D;simp at this⊢;first|rfl|exact this
end Go.Proofs.YtfoejfohbkmmeaaGreatDoor
