import Derived.Test.YtfoejfohbkmmeaaGreatDoorQ26
import Derived.Test.YtfoejfohbkmmeaaGreatDoorQ00
import Derived.Test.YtfoejfohbkmmeaaGreatDoorQ23
import Derived.Test.YtfoejfohbkmmeaaGreatDoorQ07
set_option maxRecDepth 100000
set_option maxHeartbeats 4000000
namespace Go.Proofs.YtfoejfohbkmmeaaGreatDoor
open Go.RowKit
open Lib renaming hid→J
def BZ(w0:World)(G0:Nat->Prop)(o:Oper)(S:St)(t:Tree):Prop:=∀(bx:List Nat) (rv:List Value) (w:World) (T:Nat->Value),Mem w0 G0 S.bs S.rs bx rv w->
 (∀s,(dN o.op).contains s=true->FT (en w G0 bx rv S.rs) [T s] [S.get s])->OpRuns Tryz.prog o T w fun v w'=>FT (en w' G0 bx rv S.rs) [v] [t]/\Below w.heap.size w w'
inductive ChainB (w0:World) (G0:Nat->Prop) (ops:Array Oper) (dsts:List (Option Nat)) (n:Nat):Nat->St->List Oper->List Tree->Prop
 |nil {i:Nat} {S:St}:ChainB w0 G0 ops dsts n i S [] []
 |op {i:Nat} {S:St} {o:Oper} {os:List Oper} {t:Tree} {ts:List Tree} (hg:o.guard=none) (h:BZ w0 G0 o S t) (hs:ChainB w0 G0 ops dsts n (i+1) (S.put o.dst t) os ts):ChainB w0 G0 ops dsts n i S (o::os) (t::ts)
 |cnd {i:Nat} {S:St} {o:Oper} {os:List Oper} {t:Tree} {ts:List Tree} (j:Nat) (b:Bool) (s:Nat) (C:Prop) [Decidable C] (hg:o.guard=some (j,b)) (hj:(j !=i&&reach ops n i j&&decide (j<i)&&dsts[j]? ==some (some s))=true) (hG:∃gv,S.get s=.sc gv/\(C↔gv=.bool b)) (h:C->BZ w0 G0 o S t) (hs:ChainB w0 G0 ops dsts n (i+1) (S.put o.dst (if C then t else .sc undef)) os ts):ChainB w0 G0 ops dsts n i S (o::os) ((if C then t else .sc undef)::ts)
theorem ChainB.length{w0:World}{G0:Nat->Prop}{ops:Array Oper}{a:List (Option Nat)}{n i:Nat}{S:St}{b:List Oper}{ts:List Tree}(h:ChainB w0 G0 ops a n i S b ts):b.length=ts.length:=by induction h<;>simp_all
section
variable {w0:World} {G0:Nat->Prop} {Q:Exit->St->Prop} {S:St}
theorem jb{ops:Array Oper}{c:List (Option Nat)}{n:Nat}{a:Act}{w:World}{bx:List Nat}{rv:List Value}(u:bV a.tmps.size c=true)(m:lX ops c n=true)(A:ops.toList.map (·.dst)=c)(q:∀i,FT (en w G0 bx rv S.rs) [a.tmps.getD i undef] [S.get i])(ts:List Tree):
  ∀(D:List Oper) (i:Nat) (us:List Tree) (S':St),ChainB w0 G0 ops c n i S' D us->(∀(k:Nat) (o:Oper),D[k]? =some o->ops[i+k]? =some o)->us=ts.drop i->S'=fk S (c.take i) (ts.take i)->i+D.length<=ops.size->i<=ts.length->StepsT Tryz.prog ops c a.tmps (RT G0 bx rv S.rs ts) (fun _=>none) (WT w0 w G0 S bx rv) (fun _ W W'=>Below W.heap.size W W') i D
 |[],i,us,S',h,_,_,_,_,_=>trivial
 |o::D,i,us,S',h,hops,hus,hS',hlen,hle=>by
  have X:ops[i]? =some o:=hops 0 o Z;have a5:i<ops.size:=by simp only[Mb]at hlen;omega
  have b1:c.length=ops.size:=by rw[<-A];simp
  have a9:c[i]? =some o.dst:=by
   rw[<-A,MQ];simp only[Np,X,Nu]
  have d:=k6 (c.take i) (ts.take i) S;rw[<-hS']at d;have y:∀t G,us=t::G->G=ts.drop (i+1)/\ts[i]? =some t/\S'.put o.dst t=fk S (c.take (i+1)) (ts.take (i+1))/\i+1<=ts.length:=fun t G e=>by
   have z:ts.drop i=t::G:=by rw[<-hus,e]
   have p:i<ts.length:=by
    rcases MI i ts.length with h|h
    ·exact h
    rw[Mg h]at z;cases z
   rw[Md p]at z;injection z with h2 Y
   refine⟨Y.symm,by rw[L4 p,h2],?_,p⟩;obtain⟨a0,a3⟩:=L7.1 a9;rw[Mq a0,Mq p,jM _ _ _ _ _ (by simp only[Mf];omega),a3,h2,hS']
  have J:∀s,(∀j,c[j]? =some (some s)->i<=j)->S'.get s=S.get s:=fun s K=>by
   rw[hS'];refine jr _ _ _ s ?_;cases N:(c.take i).contains (some s)with
   |false=>rfl
   |true=>
    obtain⟨j,l,a4⟩:=Nb (MT.1 N);have z:(c.take i)[j]? =some (some s):=by rw[L4 l,a4]
    obtain⟨h2,Y⟩:=e8 z;have:=K j Y;omega
  have B:∀s j,c[j]? =some (some s)->j<i->∃t,ts[j]? =some t/\S'.get s=t:=fun s j l a2=>by
   have a1:j<ts.length:=by omega
   refine⟨ts[j],L4 a1,?_⟩;rw[hS'];have V:=jL i u;exact mC _ _ S a.tmps.size j s _ V (jq l a2) (jq (L4 a1) a2)
  have M:∀(T:Nat->Value) (W:World),Given ops c a.tmps (RT G0 bx rv S.rs ts) (fun _=>none) (WT w0 w G0 S bx rv) i T W->∀s,(dN o.op).contains s=true->FT (en W G0 bx rv S'.rs) [T s] [S'.get s]:=fun T W E s K=>by
   rw[d.2.1];have P:wM ops c n i s=true:=by
    have z:=Mh.1 m i (N1.2 a5);simp only[X]at z;exact Mh.1 z s (MT.1 K)
   unfold wM at P;cases Q:eJ s c with
   |none=>
    have I:=fI Q;rw[E.keep s I,J s (fun j l=>by
     have:=MT.2 (L9 l);rw[I]at this;cases this)]
    exact(q s).later E.wi.2
   |some j=>
    have l:=eP Q;simp only[Q]at P;split at P
    ·next p=>
     obtain⟨t,R,he⟩:=B s j l p;have:=E.fact n j s (by simp only[Ma,bne_iff_ne,beq_iff_eq];exact⟨⟨⟨by omega,P⟩,Z⟩,l⟩);unfold RT at this;rw[Mm,R,MK]at this;rw[he];exact this
    next hge=>
    rw[E.old n j s (by simp only[Ma,beq_iff_eq];exact⟨P,l⟩),J s (fun j' b0=>by
     rw[gA u b0 l];omega)]
    exact(q s).later E.wi.2
  have g:∀(k:Nat) (o:Oper),D[k]? =some o->ops[i+1+k]? =some o:=fun k x Q=>by have:=hops (k+1) x (by simpa using Q);rw[show i+1+k=i+(k+1) by omega,this]
  have f:i+1+D.length<=ops.size:=by simp only[Mb]at hlen;omega
  have H:∀t,BZ w0 G0 o S' t->ts[i]? =some t->∀(T:Nat->Value) (W:World),Given ops c a.tmps (RT G0 bx rv S.rs ts) (fun _=>none) (WT w0 w G0 S bx rv) i T W->OpRuns Tryz.prog o T W fun v W'=>RT G0 bx rv S.rs ts i v W'/\Below W.heap.size W W':=fun t r R T W E=>by
   have:=r bx rv W T (by rw[d.1,d.2.1];exact E.wi.1) (M T W E);rw[d.2.1]at this;unfold RT;rw[Mm,R,MK];exact this
  have F:∀j s U,(j !=i&&reach ops n i j&&decide (j<i)&&c[j]? ==some (some s))=true->S'.get s=.sc U->(j !=i&&reach ops n i j&&(none:Option Nat)==none&&c[j]? ==some (some s))=true/\∀v W,RT G0 bx rv S.rs ts j v W->v=U:=fun j s U l hS=>by
   simp only[Ma,bne_iff_ne,beq_iff_eq,decide_eq_true_eq]at l⊢;obtain⟨⟨⟨z,h2⟩,Y⟩,h4⟩:=l;refine⟨⟨⟨⟨z,h2⟩,trivial⟩,h4⟩,fun v W L=>?_⟩;obtain⟨t,R,he⟩:=B s j h4 Y;unfold RT at L;rw[Mm,R,MK,<-he,hS]at L;exact L.isSc
  cases h with
  | @op _ _ _ _ t ts' hg r K=>
   obtain⟨e1,O,e3,e4⟩:=y t ts' rfl;exact .cons (by rw[hg];trivial) (H t r O) (jb u m A q ts D (i+1) ts' _ K g e1 e3 f e4)
  | @cnd _ _ _ _ t ts' j b s C _ hg l E r K=>
   obtain⟨U,hS,hC⟩:=E;obtain⟨e1,O,e3,e4⟩:=y _ ts' rfl;obtain⟨g1,g2⟩:=F j s U l hS;by_cases N:C
   ·rw[if_pos N]at O;exact .cons (by rw[hg];exact⟨n,s,g1,fun v W L=>(g2 v W L).trans (hC.1 N)⟩) (H t (r N) O) (jb u m A q ts D (i+1) ts' _ K g e1 e3 f e4)
   rw[if_neg N]at O;refine .skip n s hg g1 (fun v W L e=>N (hC.2 ((g2 v W L).symm.trans e))) (fun W=>?_) (jb u m A q ts D (i+1) ts' _ K g e1 e3 f e4);unfold RT;rw[Mm,O,MK];exact .pure (.sc _ .nil) .nil
theorem C9{id n:Nat}{ops:List Oper}{b:List (Option Nat)}{ts:List Tree}(q:dM ops.toArray=true)(t:ops.map (·.dst)=b)(c:bV S.n b=true)(e:lX ops.toArray b n=true)(f:ChainB w0 G0 ops.toArray b n 0 S ops ts)(k:Q .normal (fk S b ts)):AWP w0 G0 (.region id ops.toArray true) Q S:=by
 rintro a w ⟨bx,rv,z,l,p,d⟩;have m:b.length=ops.length:=by rw[<-t];simp
 have h:=jb (w0:=w0) (G0:=G0) (S:=S) (w:=w) (bx:=bx) (rv:=rv) (a:=a) (by rw[l];exact c) e (by simpa using t) d ts ops 0 ts S f (fun k o A=>by simpa using A) Z Z (by simp) (Mx _);refine lW b (RT G0 bx rv S.rs ts) (fun _=>none) (WT w0 w G0 S bx rv) (fun _ W W'=>Below W.heap.size W W') (by kernel_rfl) q (by simpa using t) (by rw[l];exact c)
  (fun _ W W' r x=>⟨r.1.later x,r.2.trans (x.mono r.2.size)⟩) (fun _ j v W W' _ _ s y=>FT.later s y) ⟨z.later (Below.refl _ _).drew,(Below.refl _ _).drew⟩ (by simpa using h) ?_
 intro us W g s u;exact⟨_,k,vo c l p g (by rw[m];exact f.length.symm) u.1 (fun i=>(d i).later u.2) (fun j B=>s j (by simp;omega) Z)⟩
theorem de{ops:Array Oper}{a:List (Option Nat)}{n i:Nat}{S:St}{o:Oper}{b:List Oper}{t:Tree}{ts:List Tree}(d:o.guard=none)(h:OpOK o S t)(c:ChainB w0 G0 ops a n (i+1) (S.put o.dst t) b ts):ChainB w0 G0 ops a n i S (o::b) (t::ts):=.op d (h w0 G0) c
theorem Ah{id fu n:Nat}{sl:List (Nat×Tree)}{bs:List (TypeId×List Tree)}{rs:List (Option Row)}{ops:List Oper}(a:List (Option Nat))(ts:List Tree){sl':List (Nat×Tree)}(c:dM ops.toArray=true)(g:ops.map (·.dst)=a)(e:bV n a=true)(b:lX ops.toArray a fu=true)(d:iS sl a ts=sl')(f:ChainB w0 G0 ops.toArray a fu 0 ⟨n,sl,bs,rs⟩ ops ts)(k:Q .normal ⟨n,sl',bs,rs⟩):AWP w0 G0 (.region id ops.toArray true) Q ⟨n,sl,bs,rs⟩:=
 C9 c g e b f (by rw[kh,d];exact k)
theorem xU{o:Oper}{t:TypeId}{s b off:Nat}{u:Value}(d:o.op=.load t (.tmp s))(k:S.get s=.sc (.pointer (some ⟨b,off,none⟩)))(i:iU Tryz.prog t=true)(g:b<w0.heap.size)(f:w0.cell? ⟨b,off,none⟩=some u):BZ w0 G0 o S (.sc u):=by
 intro bx rv w T h e;have j:T s=.pointer (some ⟨b,off,none⟩):=by
  have c:=e s (by rw[d];simp[dN,Op.operands]);rw[k]at c;exact c.isSc
 have a:w.cell? ⟨b,off,none⟩=some u:=by rw[<-f];exact World.cell?_of_block (h.below.block b g)
 exact aq (v:=u) (W':=w) (rN d j i a) ⟨.pure (.sc _ .nil) .nil,Below.refl _ _⟩
theorem Fq{c:World}{b:Nat->Prop}{Q:Exit->World->(Nat->Prop)->St->Prop}{S:St}{x y:Code}(I:St->Prop)(f:AWP c b x (fun e S=>e=.normal/\I S) S)(g:∀S,I S->BWP y Q c b S):BWP (.seq x y) Q c b S:=cP fun a w i=>wp_mono (f a w i) fun e k w' ⟨S',⟨h,j⟩,d⟩=>⟨c,b,S',by subst h;exact g S' j,d⟩
def m6(A:Option Addr)(l c:Nat):Option Addr:=if c=l then A else A.map (·.add (l*1))
theorem Da{o:Oper}{x:Operand}{lo a:Option Operand}{t e:TypeId}{l h n c:Nat}{A:Option Addr}(i:o.op=.slice t x lo a none)(s:gE Tryz.prog t=some (e,1))(p:S.ev x=.sc (.slice A n c))(g:IF S lo l)(f:IG S n a h)(q:l<=h)(u:h<=n)(B:n<=c):OpOK o S (.sc (.slice (m6 A l c) (h-l) (c-l))):=by
 intro w0 G0 bx rv w T C j;have z:=(bI j p (by rw[i];simp[Op.operands])).isSc;have b:(lo.map (cA T)=none/\l=0)\/∃k,lo.map (cA T)=some (.int k l):=by
  cases lo with
  |none=>exact .inl ⟨Z,g⟩
  |some y=>
   obtain⟨k,m⟩:=g;exact .inr ⟨k,by rw[Nu,(bI j m (by rw[i];simp[Op.operands])).isSc]⟩
 have d:(a.map (cA T)=none/\h=n)\/∃k,a.map (cA T)=some (.int k h):=by
  cases a with
  |none=>exact .inl ⟨Z,f⟩
  |some y=>
   obtain⟨k,m⟩:=f;exact .inr ⟨k,by rw[Nu,(bI j m (by rw[i];simp[Op.operands])).isSc]⟩
 have r:=jo (P:=Tryz.prog) (w:=w) (A:=A) s (lo.map (cA T)) (a.map (cA T)) b d q u B;exact aq (v:=.slice (m6 A l c) (h-l) (c-l)) (W':=w) (by simp[execOp,i,z,r,m6]) ⟨.pure (.sc _ .nil) .nil,Below.refl _ _⟩
theorem sN{w:World}{base:Nat}{e:TypeId}{A:Option Addr}{n c l h:Nat}{xs:List Value}(i:w.ownsRow base e 1 (.slice A n c) n xs)(r:l<=h)(x:h<=n):
  n<=c/\(m6 A l c=none->h-l=0/\c-l=0)/\∀a,m6 A l c=some a->∀j u,((xs.take h).drop l)[j]? =some u->w.cell? (a.add j)=some u:=by
 have q:=i.1;rcases i.2 with⟨d,m⟩|⟨g,p,cur,d,s,z,m,t,y,v⟩
 ·injection d with d _ k
  subst d k m;have o:∀l,m6 none l 0=none:=fun l=>by unfold m6;split<;>rfl
  exact⟨L5 _,fun _=>by omega,fun a b=>by rw[o]at b;cases b⟩
 injection d with d _ k
 subst d k;refine⟨m,fun b=>?_,fun a b j u f=>?_⟩
 ·unfold m6 at b;split at b<;>cases b
 rw[Nd,MZ]at f;split at f
 ·unfold m6 at b;split at b
  ·omega
  rw[Nu,Addr.add_mid]at b;injection b with b
  subst b;rw[Addr.add_mid];have:=World.ownsRow.cells i (g:=g) Z _ _ f;rw[m5]at this;rw[show 0+l*1+j=l+j by omega];exact this
 cases f
def Kz:Tree->Bool
 | .sc _=>true
 |_=>false
theorem uD:∀{sl:List (Nat×Tree)},sl.all (fun p=>Kz p.2)=true->∀i,look sl i=.any\/∃v,look sl i=.sc v
 |[],_,_=>.inl Z
 |(j,t)::sl,h,i=>by
  simp only[NP,Ma]at h;rw[cV];split
  ·cases t<;>first|exact .inr ⟨_,Z⟩|cases h.1
  exact uD h.2 i
theorem lr{E:En}{x v:Value}(h:x=v):FT E [x] [.sc v]:=by subst h;exact .pure (.sc _ .nil) .nil
theorem Sim.lits{m w w':World}{j:Nat->Prop}{n:Nat}{sl:List (Nat×Tree)}{a:Act}(h:Sim m j ⟨n,sl,[],[]⟩ a w)(l:Env w')(c:sl.all (fun p=>Kz p.2)=true):Sim w' (fun _=>False) ⟨n,sl,[],[]⟩ a w':=by
 obtain⟨_,_,_,d,o,f⟩:=h.facts;refine Sim.mk l (fun g k=>k.elim) d o fun i=>?_
 have b:=f i;rcases uD c i with e|⟨v,e⟩
 ·rw[e];exact .any _ .nil
 rw[e]at b⊢;exact lr b.isSc
theorem Ai{w:World}{base:Nat}{e i:TypeId}{sz n d:Nat}{v:Value}{xs:List Value}{c:Array Value}{f:Nat×Nat}(j:w.ownsRow base e sz v n xs)(a:w.heap[d]? =some (.cells c i f))(b:e≠i):v.ownBlock≠some d:=fun h=>by
 rcases j.2 with⟨rfl,_⟩|⟨g,m,cur,rfl,_,l,_⟩
 ·cases h
 injection h with h
 have k:g=d:=h;subst k;rw[l]at a;injection a with a
 injection a with _ o
 exact b o
end
structure GI (w0:World) (G0:Nat->Prop) (r:Rel) (m:Nat) (w1:World) (G1:Nat->Prop) (S:St) (i:Nat) (L:List (List Nat)) (K:List (List V)) (AO AK:Option Addr) (cO cK:Nat) (vs xs:List Value) (sl:List (Nat×Tree)):Prop where
 hi:i<=r.tups.length
 hm:m=r.tups.length-i
 st:dh r.sch ([],[]) 0 (r.tups.take i)=(K,L)
 side:Side w0 G0 w1 G1 (.slice AO L.length cO) vs L (.slice AK K.length cK) xs K
 hS:S=⟨63,sl,[],[]⟩
 s1:look sl 1=.ref (aT r)
 s3:look sl 3=.sc (.slice AO L.length cO)
 s4:look sl 4=.sc (.slice AK K.length cK)
 s15:look sl 15=.sl (r.tups.map Tp.tree)
 s16:look sl 16=.sc (.int .i64 (r.tups.length:Nat))
 s17:look sl 17=.sc (.int .i64 (i:Nat))
def LF(w0:World)(G0:Nat->Prop)(r:Rel)(m:Nat)(w1:World)(G1:Nat->Prop)(S:St):Prop:=∃i L K AO AK cO cK vs xs sl,GI w0 G0 r m w1 G1 S i L K AO AK cO cK vs xs sl
theorem gC{s:Sch}{ts:List Tp}{i:Nat}{t:Tp}{K:List (List V)}{L:List (List Nat)}(a:dh s ([],[]) 0 (ts.take i)=(K,L))(b:ts[i]? =some t):dh s ([],[]) 0 (ts.take (i+1))=gV s (K,L) i t:=by
 obtain⟨c,rfl⟩:=L7.1 b;rw[Mq c,nj,a,Mf,M0,Nl (by omega)]
theorem kb{α:Type}(l:List α)(x:α){p:Nat}(a:p<=l.length):l.insertIdx p x=l.take p++[x]++l.drop p:=by
 have h:=gh x (l.drop p) (l.take p);rw[M8,Mf,Nl a]at h;rw[h,MG];rfl
theorem sO{α:Type}(f:α->α){l:List α}{p:Nat}{x:α}(h:l[p]? =some x):l.modify p f=l.set p (f x):=by
 obtain⟨c,rfl⟩:=L7.1 h;have b:=nH f l[p] (l.drop (p+1)) (l.take p);have a:(l.take p).length=p:=by rw[Mf];omega
 rw[<-Md c,M8,a]at b;rw[b,Pj,if_pos c]
theorem Fr{K:List (List V)}(h:Ky K)(k:List V):Kx K k:=fun a b x y l f c e=>by
 rcases MI a b with d|i
 ·obtain⟨g,rfl⟩:=L7.1 f;obtain⟨j,rfl⟩:=L7.1 c;exact iC (PQ.1 h a b g j d) e
 obtain rfl:a=b:=by omega
 rw[f]at c;cases c;exact e
theorem xV(K:List (List V))(k:List V):bk K k<=K.length:=by
 unfold bk;exact(Ox _).length_le
theorem qo:∀{cs:List Col} {vs us:List V},vs.length=cs.length->us.length=cs.length->(dJ cs vs=[]↔dJ cs us=[])
 |[],[],[],_,_=>OU
 |[],_::_,_,h,_=>by simp at h
 |[],_,_::_,_,h=>by simp at h
 |_::_,[],_,h,_=>by simp at h
 |_::_,_::_,[],_,h=>by simp at h
 |c::cs,v::vs,u::us,h,h'=>by
  have a:=qo (cs:=cs) (vs:=vs) (us:=us) (by simpa using h) (by simpa using h');rw[dJ,dJ];split
  ·simp
  exact a
theorem uE{s:Sch}{ts:List Tp}{i:Nat}{K:List (List V)}{L:List (List Nat)}(d:dh s ([],[]) 0 (ts.take i)=(K,L))(A:i<=ts.length)(n:∀t∈ts,t.vals.length=s.cols.length):
  L.length<=i/\K.length=L.length/\(∀b∈L,b.length<=i)/\(∀k∈K,k.length<=s.cols.length)/\((∃t∈ts,aG s t.vals≠ [])->Ky K):=by
 have p:=ln (s:=s) (ts.take i) ([],[]) 0 ⟨L5 _,fun b q=>(by cases q)⟩;rw[d,Mf,M0,Nl A]at p;have x:∀(us:List Tp) (c:List (List V)×List (List Nat)) (j:Nat),c.1.length=c.2.length->(∀k∈c.1,k.length<=s.cols.length)->(dh s c j us).1.length=(dh s c j us).2.length/\∀k∈(dh s c j us).1,k.length<=s.cols.length:=by
  intro us;induction us with
  |nil=>intro c j h g;exact⟨h,g⟩
  |cons u us ih=>
   intro c j h g;refine ih _ _ ?_ ?_
   ·unfold gV;split
    ·simp[h]
    split
    ·simp[h]
    simp[Qg,h]
   intro k a;unfold gV at a;split at a
   ·rcases My.1 a with a|a
    ·exact g k a
    rw[Ml.1 a];exact ie _ _
   split at a
   ·exact g k a
   rcases ka a with a|rfl
   ·exact g k a
   exact ie _ _
 have r:=x (ts.take i) ([],[]) 0 Z (fun k a=>by cases a);rw[d]at r;refine⟨p.1,r.1,fun b q=>(p.2 b q).1,r.2,fun⟨o,m,v⟩=>?_⟩;have l:∀t∈ts,aG s t.vals≠ []:=fun t f e=>v (by
  have y:aG s t.vals=dJ s.cols t.vals:=by unfold aG;rw[if_pos (n t f)]
  have z:aG s o.vals=dJ s.cols o.vals:=by unfold aG;rw[if_pos (n o m)]
  rw[z,qo (n o m) (n t f)];rw[<-y];exact e)
 have w:=i8 (s:=s) (ts.take i) [] ([],[]) ⟨Z,fun t f=>(by cases f),fun k a=>(by cases a),List.Pairwise.nil⟩ fun t f=>l t (MC f)
 rw[Mo,d]at w;exact w.srt
theorem qp{A:Option Addr}{n m c:Nat}(h:m=n):Tree.sc (.slice A n c)=.sc (.slice A m c):=by rw[h]
theorem kJ{w0 f:World}{G0 e:Nat->Prop}{A B:Option Addr}{n m a b c d:Nat}{vs xs:List Value}{L:List (List Nat)}{K:List (List V)}(g:a=n)(i:b=m)(h:Side w0 G0 f e (.slice A n c) vs L (.slice B m d) xs K):Side w0 G0 f e (.slice A a c) vs L (.slice B b d) xs K:=by subst g i;exact h
theorem xW:(Tryz.prog.info? 3).map (fun i=>(i.zero,i.size,i.bytes))=some (some (.int .i64 0),1,8):=by kernel_rfl
theorem cf:gE Tryz.prog 98=some (23,1):=by kernel_rfl
theorem lw:iU Tryz.prog 23=true:=by kernel_rfl
theorem sP:(Tryz.prog.info? 23).map (·.size)=some 1:=by kernel_rfl
theorem lx:gc Tryz.prog 23=some [.slice none 0 0]:=by kernel_rfl
theorem sQ:gc Tryz.prog 61=some [.slice none 0 0]:=by kernel_rfl
theorem Db(r:Rel)(h:FitR r)(l2:∀t∈r.tups,t.vals.length=r.sch.cols.length):Ct 65 [r.tree] (.sl ((aP r).map iQ)):=by
 refine Ct.of (n:=63) Tryz.func65 Z Z Z Z Z fun w0 G0=>?_
 refine ab<|ae<|aa 1 Z<|af (t:=.sl []) Z Z Z (cW (.inr Z) dI)<|ag<|ab<|ab<|aj 3 Z<|aH Z (fun e6=>?_) (fun e6=>?_)
 ·have c7:=e6;refine ab<|ae<|af (t:=.sl []) Z Z Z (cW (.inr Z) dI)<|ag<|aC<|⟨.inr Z,_,.cons Z .nil,by unfold aP;rw[c7];rfl,Z⟩
 have c7:=e6;refine ax<|ab<|aj 1 Z<|ab<|aj 1 Z<|ab<|ab<|ae<|aa 2 Z<|af (t:=nI r.tups.length) Z Z Z (ah (bd Z aK Z) (by simp only[L8]))<|aa 1 Z<|ag<|aE<|Bv<|l8 fun a w k=>?_
 obtain⟨f7,g3,i1,f8,c4⟩:=k.unbox (ty:=30) (l:=[(1,.ref (aT r)),(3,.sc (.slice none 0 0)),(4,.sc (.slice none 0 0)),(15,.sl (r.tups.map Tp.tree)),(16,nI r.tups.length),(17,nI 0)]) rfl rfl rfl ⟨.inr ⟨0,rfl,rfl⟩,.inl ⟨rfl,rfl⟩,.inl ⟨rfl,rfl⟩,.inl ⟨rfl,rfl⟩,.inl ⟨rfl,rfl⟩,.inl ⟨rfl,rfl⟩,trivial⟩;refine⟨w,G0,_,f7,?_⟩;clear k f7;refine wY (LF w0 G0 r) r.tups.length ⟨0,[],[],none,none,0,0,[],[],_,Mx _,Z,Z,⟨Nest.nil _ _,KeyR.nil _ _ _,fun b hb=>(by cases hb),fun b=>⟨.inl,fun h=>h.elim id fun h=>h.elim (fun h=>h.elim (fun h=>by cases h) fun⟨u,hu,_⟩=>by cases hu) fun h=>by cases h⟩,g3,i1,f8⟩,Z,Z,Z,Z,Z,Z,Z⟩ ?_;clear g3 c4 a w;rintro m w1 G1 S ⟨i,L,K,AO,AK,cO,cK,vs,xs,sl,hi,rfl,d2,d,rfl,s1,s3,s4,j3,h3,k1⟩;obtain⟨m9,f9,h5,i4,g2⟩:=uE d2 hi l2;have m3:=h.tups;refine oo [(1,.ref (aT r)),(3,.sc (.slice AO L.length cO)),(4,.sc (.slice AK K.length cK)),(15,.sl (r.tups.map Tp.tree)),(16,nI r.tups.length),(17,nI i)] (.cons s1 Z (.cons s3 Z (.cons s4 Z (.cons j3 Z (.cons h3 Z (.cons k1 Z .nil))))))<|cP (BWP.of ?_);refine ae<|af (t:=bT (decide (i<r.tups.length))) Z Z Z (ah (ai Z Z Z Zy) (av (iu i r.tups.length)))<|ag ?_;show BWP _ _ w1 G1 _
 refine cP<|ko (b:=decide (i<r.tups.length)) Z (fun hc=>?_) (fun hc=>?_)
 ·replace hc:=of_decide_eq_true hc;obtain⟨t,d3⟩:∃t,r.tups[i]? =some t:=⟨_,L4 hc⟩;have m2:=h.tup t (L9 d3);refine km ?_;show BWP _ _ w1 G1 _
  refine cP (t6 ?_);refine cP (BWP.of ?_);refine ae<|aa 1 Z<|af (t:=.ref (bS t)) Z Z Z (aQ (Tp.tree t) Z aK Z Z Z (bf (f:=Tp.tree) d3) (bQ _) Z)<|aa 4 Z<|ag ?_;show BWP _ _ w1 G1 _
  refine cP (BWP.of ?_);refine ae<|aa 4 Z<|af Z Z Z (ar Z (zX r.sch t.vals h.cols) Z Z)<|aa 1 Z<|ag ?_;show BWP _ _ w1 G1 _
  refine oo [(1,.ref (aT r)),(3,.sc (.slice AO L.length cO)),(4,.sc (.slice AK K.length cK)),(15,.sl (r.tups.map Tp.tree)),(16,nI r.tups.length),(17,nI i),(5,nI i),(7,.sl ((aG r.sch t.vals).map V.tree))] (.cons Z Z (.cons Z Z (.cons Z Z (.cons Z Z (.cons Z Z (.cons Z Z (.cons Z Z (.cons Z Z .nil))))))))<|cP (BWP.of ?_);refine ae<|aa 1 Z<|af (t:=nI L.length) Z Z Z (wZ Z cf Z)<|aa 1 Z<|ag ?_;show BWP _ _ w1 G1 _
  refine cP (cP (BWP.of ?_));refine ae<|aa 1 Z<|af (t:=nI ((aG r.sch t.vals).length)) Z Z Z (ah (bd Z bz Z) (by simp only[L8]))<|af (t:=bT (decide (0<(aG r.sch t.vals).length))) Z Z Z (ah (ai Z Z Z Zy) (av (tE ((aG r.sch t.vals).length) 0)))<|ag ?_;show BWP _ _ w1 G1 _
  refine ko (b:=decide (0<(aG r.sch t.vals).length)) Z (fun hk=>?_) (fun hk=>?_)
  ·replace hk:=of_decide_eq_true hk;have d4:(aG r.sch t.vals)≠ []:=fun e=>by rw[e]at hk;simp at hk
   have h9:=g2 ⟨t,L9 d3,d4⟩;have h8:(aG r.sch t.vals).length<=65536:=L6 (ie _ _) h.cols;have i5:=xV K (aG r.sch t.vals);refine cP (fl ?_);refine b9 (t:=.sc (.slice AK K.length cK)) Z Z Z (aw Z Z)<|b9 (t:=.sl ((aG r.sch t.vals).map V.tree)) Z Z Z (aw Z Z)<|zj (t:=.tup [nI (bk K (aG r.sch t.vals)),bT ((K[bk K (aG r.sch t.vals)]?).any fun x=>aO x (aG r.sch t.vals)==0)]) Z Z Z Z Tryz.func126 Z Z (fun a w k=>?_) ?_
   ·obtain⟨c4,a5,q,-⟩:=k.facts;have o:=d.later q;have E:=k.slot (i:=34) (t:=.sl ((aG r.sch t.vals).map V.tree)) Z Z;rw[k.lit (v:=.slice AK K.length cK) Z];have f6:∀b,¬G1 b->¬(G0 b\/NB (.slice AO L.length cO) vs b):=fun b hG h2=>hG ((d.g1 b).2 (h2.elim .inl fun h=>.inr (.inl h)))
    have h4:=o.keys.pt f6 fun g hg h2=>h2.elim (fun h=>by have:=(d.key g hg).1;have:=(d.ok0 g h).1;omega) (d.kn g hg)
    refine((Jn K (aG r.sch t.vals) (by omega) (Fr h9 _) (fun x hx=>L6 (i4 x hx) h.cols) h8).2 (fun b=>G0 b\/NB (.slice AO L.length cO) vs b) w _ c4 (fun g hg=>a5 g ((d.g1 g).2 (hg.elim .inl fun h=>.inr (.inl h)))) (h4.cons ((E.sub f6).cons (.sc _ .nil)))).mono ?_;rintro e w' ⟨v,rfl,hv,hb⟩;refine⟨v,Z,?_,hb⟩;cases hv with
    |tup us _ hx _=>
     cases hx with
     |sc _ hx=>
      cases hx with
      |sc _ hx=>
       cases hx;exact .tup _ _ (.sc _ (.sc _ .nil)) .nil
   refine b9 (t:=.tup [nI (bk K (aG r.sch t.vals)),bT ((K[bk K (aG r.sch t.vals)]?).any fun x=>aO x (aG r.sch t.vals)==0)]) Z Z Z (aw Z Z)<|b9 (t:=nI (bk K (aG r.sch t.vals))) Z Z Z (dD Z Z Z)<|b9 (t:=bT ((K[bk K (aG r.sch t.vals)]?).any fun x=>aO x (aG r.sch t.vals)==0)) Z Z Z (dD Z Z Z)<|b9 (t:=nI (bk K (aG r.sch t.vals))) Z Z Z (bW Z Z)<|b9 (t:=bT ((K[bk K (aG r.sch t.vals)]?).any fun x=>aO x (aG r.sch t.vals)==0)) Z Z Z (bW Z Z)<|gL ?_;show BWP _ _ w1 G1 _
   refine cP (cP (BWP.of ?_));refine aj 1 Z ?_;show BWP _ _ w1 G1 _
   refine ko (b:=((K[bk K (aG r.sch t.vals)]?).any fun x=>aO x (aG r.sch t.vals)==0)) Z (fun hf=>?_) (fun hf=>?_)
   ·have l5:bk K (aG r.sch t.vals)<K.length:=by
     rcases MI (bk K (aG r.sch t.vals)) K.length with h|h
     ·exact h
     rw[Nq h]at hf;cases hf
    obtain⟨g,rfl⟩:∃g,AO=some ⟨g,0,none⟩:=by
     rcases d.nest.row.2 with⟨_,hn⟩|⟨g,n0,cur,hv,_⟩
     ·omega
     injection hv with h1;exact⟨g,h1⟩
    have m1:=d.nest.len;obtain⟨u,d1⟩:∃u,vs[bk K (aG r.sch t.vals)]? =some u:=⟨_,L4 (by omega)⟩;obtain⟨l,e1⟩:∃l,L[bk K (aG r.sch t.vals)]? =some l:=⟨_,L4 (by omega)⟩;have m4:=h5 l (L9 e1);refine cP (fl ?_);refine b9 (t:=.sc (.slice (some ⟨g,0,none⟩) L.length cO)) Z Z Z (aw Z Z)<|b9 (t:=nI (bk K (aG r.sch t.vals))) Z Z Z (aw Z Z)<|b9 (t:=.sc (.slice (some ⟨g,0,none⟩) L.length cO)) Z Z Z (aw Z Z)<|b9 (t:=nI (bk K (aG r.sch t.vals))) Z Z Z (aw Z Z)<|b9 (t:=.sc (.pointer (some ⟨g,bk K (aG r.sch t.vals),none⟩))) Z Z Z (kp (j:=bk K (aG r.sch t.vals)) Z cf Z Z Z (by omega) (by simp))<|rO (u:=u) Z Z Z Z Z lw (d.nest.ok g (.inl Z)).2.1 ?_ ?_
    ·have:=World.ownsRow.cells d.nest.row (g:=g) Z _ _ d1;rwa[m5]at this
    refine b9 (t:=nI i) Z Z Z (aw Z Z)<|fK Z Z Z Z cz ig (fun a w k=>by rw[k.lit (v:=.int .i64 (i:Nat)) Z];rfl) fun a w k=>?_
    rw[k.lit (v:=.int .i64 (i:Nat)) Z];obtain⟨-,-,q,-⟩:=k.facts;have p:(w.alloc (.cells #[.int .i64 (i:Nat)] 3)).heap[w.heap.size]? =some (.cells #[.int .i64 (i:Nat)] 3 (0,0)):=heap_alloc_new _ _;have f3:=(d.later q).later ((Below.refl w.heap.size w).alloc (L5 _) (.cells #[.int .i64 (i:Nat)] 3));have M:=q.size;have H:(w.alloc (.cells #[.int .i64 (i:Nat)] 3)).heap.size=w.heap.size+1:=by simp
    obtain⟨wa,B⟩:∃wa,w.alloc (.cells #[.int .i64 (i:Nat)] 3)=wa:=⟨_,rfl⟩;rw[B]at p f3 H;rw[B];obtain⟨z,X⟩:∃z,w.heap.size=z:=⟨_,rfl⟩;rw[X]at p M H;rw[X];clear k q B X a w;refine fv Z fun a w k=>?_
    obtain⟨-,-,G,-⟩:=k.facts;have o:=f3.later G;have g0:=o.nest.el _ u l d1 e1;have y:w.heap[z]? =some (.cells #[.int .i64 (i:Nat)] 3 (0,0)):=by rw[G.block z (by omega)];exact p
    obtain⟨_,_,k3,_⟩:=fB y;obtain⟨i0,k4,l1,i9,k0⟩:=info_parts xW;obtain⟨u2,w2,f2,e9,N,f4,g4⟩:=mz (P:=Tryz.prog) w w0.heap.size 23 23 3 i0 (.int .i64 0) 1 8 Tryz.underlying23 k4 l1 i9 k0 rfl (by decide) u l.length (mj l) g0.1 (some ⟨z,0,none⟩) 1 1 [.int .i64 (i:Nat)] rfl (fun e=>by cases e) (fun b hb j x hj=>by
     injection hb with hb
     subst hb;cases j with
     |zero=>simp at hj;subst hj;exact k3
     |succ j=>simp at hj) (fun x hx=>by rw[Ml.1 hx];rfl) (by unfold maxLen;omega) (by omega) (by have:=o.below.size;omega) (by decide) Z g0.2
    have f5:w2.ownsRow w0.heap.size 3 1 u2 (l.length+1) (mj (l++[i])):=by rw[show mj (l++[i])=mj l++[.int .i64 (i:Nat)] by simp[mj]];exact e9
    obtain⟨k5,i2,h6⟩:=o.app1 d1 N f4 g4 fun g hg=>(e9.lt g hg).2
    obtain⟨A2,c2,e3⟩:=cc e9;refine aq (v:=u2) (W':=w2) (kq (T:=fun s=>a.tmps.getD s undef) Z (k.lit Z) (k.lit Z) f2) ⟨w2,_,_,fJ (k.turn i2 k5 N.size h6) (by decide) (.pure (.sc u2 .nil) .nil),?_⟩;clear k G p y a;refine b9 (t:=.sc (.pointer (some ⟨g,bk K (aG r.sch t.vals),none⟩))) Z Z Z (kp (j:=bk K (aG r.sch t.vals)) Z cf Z Z Z (by omega) (by simp))<|fv Z fun a wb k=>?_
    obtain⟨-,-,I,-⟩:=k.facts;obtain⟨C,l0⟩:=o.app2 d1 e1 rfl f5 N f4 g4 (by rw[e3];rfl) I;have g9:=(o.nest.ok g (.inl Z)).2.1;have h0:wb.heap[g]? =w.heap[g]? :=by
     have h1:w2.heap[g]? =w.heap[g]? :=dV N g9 fun e=>o.nest.out u (L9 d1) g e Z
     rw[I.block g (Mp g9 N.size)];exact h1
    have e2:=gQ o.nest.row (w':=wb) fun b hb=>by injection hb with hb;subst hb;exact h0
    have i3:wb.cell? ⟨g,bk K (aG r.sch t.vals),none⟩=some u:=by
     have:=World.ownsRow.cells e2 (g:=g) Z _ _ d1;rwa[m5]at this
    refine eY (W':=wb.setCell ⟨g,bk K (aG r.sch t.vals),none⟩ u2) (qa (T:=fun s=>a.tmps.getD s undef) Z (k.lit Z) (k.lit Z) sP (by rw[e3];rfl) i3 (dd e2 _)) ⟨_,_,_,k.turn C.env C.okw (by simp[World.setCell]) l0,?_⟩;refine gL ?_;show BWP _ _ _ _ _
    refine l7 ?_;show BWP _ _ _ _ _
    refine BWP.of<|ae<|af (t:=nI (i+1)) Z Z Z (ah (ai Z Z Z Zy) (bu (by omega)))<|aa 1 Z<|ag<|⟨r.tups.length-(i+1),by omega,i+1,_,_,some ⟨g,0,none⟩,AK,cO,cK,_,_,_,by omega,Z,?_,kJ (by simp) Z C,Z,Z,qp (by simp),Z,Z,Z,Z⟩;rw[gC d2 d3];unfold gV;rw[if_neg d4];simp only;rw[if_pos (c:=((K[bk K (aG r.sch t.vals)]?).any fun x=>aO x (aG r.sch t.vals)==0)=true) hf,sO _ e1]
   refine km ?_;show BWP _ _ w1 G1 _
   refine BWP.of<|aj 2 Z ?_;show BWP _ _ w1 G1 _
   refine cP (fl ?_);refine b9 (t:=.sc (.slice AO L.length cO)) Z Z Z (aw Z Z)<|b9 (t:=nI (bk K (aG r.sch t.vals))) Z Z Z (aw Z Z)<|b9 (t:=nI i) Z Z Z (aw Z Z)<|k8 Z Z Z Z cz ig (fun a w k=>by rw[k.lit (v:=.int .i64 (i:Nat)) Z];exact⟨Z,Z⟩) fun a w k=>?_
   rw[k.lit (v:=.int .i64 (i:Nat)) Z];obtain⟨-,-,q,-⟩:=k.facts;obtain⟨wa,B⟩:∃wa,w.alloc (.cells #[.int .i64 (i:Nat)] 3)=wa:=⟨_,rfl⟩;have a1:Below w1.heap.size w1 wa:=by rw[<-B];exact q.alloc q.size _
   have p:wa.heap[w.heap.size]? =some (.cells #[.int .i64 (i:Nat)] 3 (0,0)):=by rw[<-B];exact heap_alloc_new _ _
   have M:=q.size;have H:wa.heap.size=w.heap.size+1:=by rw[<-B];simp
   rw[B];obtain⟨z,X⟩:∃z,w.heap.size=z:=⟨_,rfl⟩;rw[X]at p M H;rw[X];clear k q B X a w;refine fK Z Z Z Z cf lx (fun a w k=>by rw[k.lit (v:=.slice (some ⟨z,0,none⟩) 1 1) Z];rfl) fun a w k=>?_
   rw[k.lit (v:=.slice (some ⟨z,0,none⟩) 1 1) Z];obtain⟨-,-,G,-⟩:=k.facts;obtain⟨wb,U⟩:∃wb,w.alloc (.cells #[.slice (some ⟨z,0,none⟩) 1 1] 23)=wb:=⟨_,rfl⟩;have a9:Below wa.heap.size wa wb:=by rw[<-U];exact G.alloc G.size _
   have a0:wb.heap[w.heap.size]? =some (.cells #[.slice (some ⟨z,0,none⟩) 1 1] 23 (0,0)):=by rw[<-U];exact heap_alloc_new _ _
   have b3:=G.size;have b1:wb.heap.size=w.heap.size+1:=by rw[<-U];simp
   rw[U];obtain⟨bB,c5⟩:∃bB,w.heap.size=bB:=⟨_,rfl⟩;rw[c5]at a0 b3 b1;rw[c5];clear k G U c5 a w;refine k9 Z Z Z Tryz.func127 Z Z fun a w k=>?_
   obtain⟨c4,a5,I,-⟩:=k.facts;have c6:Below w1.heap.size w1 w:=ak (ak a1 a9 a1.size) I (L6 a1.size a9.size);have y:w.heap[z]? =some (.cells #[.int .i64 (i:Nat)] 3 (0,0)):=by rw[I.block z (by omega),a9.block z (by omega)];exact p
   have R:w.heap[bB]? =some (.cells #[.slice (some ⟨z,0,none⟩) 1 1] 23 (0,0)):=by rw[I.block bB (by omega)];exact a0
   have o:=d.later c6;have hu:EIs w w0.heap.size (.slice (some ⟨z,0,none⟩) 1 1) [i]:=rc y (by have:=d.below.size;omega);rw[k.lit (v:=.slice AO L.length cO) Z,k.lit (v:=.int .i64 ((bk K (aG r.sch t.vals):Nat):Int)) Z,k.lit (v:=.slice (some ⟨bB,0,none⟩) 1 1) Z];refine(Ks w0.heap.size L.length (bk K (aG r.sch t.vals)) bB (.slice AO L.length cO) (.slice (some ⟨z,0,none⟩) 1 1) 23 vs w o.nest.row R (fun e=>by have:=(d.nest.ok bB (.inl e)).2.1;omega) Z Z o.nest.rd o.ones.1 (by omega) (by omega) (by have:=d.below.size;have:=c6.size;omega)).mono ?_;rintro e w' ⟨v',rfl,F,D,a3,a4⟩;obtain⟨Q,d6⟩:=d.insL c6 hu (fun g hg=>by have N:some z=some g:=hg;injection N with N;omega) F D a3 a4 (by omega);obtain⟨A2,c2,rfl⟩:=cc F;refine⟨_,rfl,w',_,_,fJ (k.turn Q.env Q.okw D.size fun b e4 hG=>d6 b e4 fun h=>hG (h.imp id fun e=>by injection e with e;exact e.symm)) (by decide) (.pure (.sc _ .nil) .nil),?_⟩;refine b9 (t:=.sc (.slice A2 (L.length+1) c2)) Z Z Z (bW Z Z)<|gL ?_;show BWP _ _ _ _ _
   clear k c4 a5 I o hu F D a3 a4 d6 y R p a0 M H b3 b1 a1 a9;refine fl<|b9 (t:=.sc (.slice AK K.length cK)) Z Z Z (aw Z Z)<|b9 (t:=nI (bk K (aG r.sch t.vals))) Z Z Z (aw Z Z)<|b9 (t:=.sl ((aG r.sch t.vals).map V.tree)) Z Z Z (aw Z Z)<|fK Z Z Z Z iL sQ (fun a w k=>lp (k.slot (i:=58) (t:=iK (aG r.sch t.vals)) Z Z) Z _ (Ml.2 Z)) fun a w k=>?_
   have E:=k.slot (i:=58) (t:=iK (aG r.sch t.vals)) Z Z;obtain⟨Y,W⟩:∃Y,a.tmps.getD 58 undef=Y:=⟨_,rfl⟩;rw[W]at E;rw[W];obtain⟨-,a5,c9,-⟩:=k.facts;have J:=(Below.refl w.heap.size w).alloc (L5 _) (.cells #[Y] 61);have b0:=E.later J;have e5:Y.oneCell'=true:=lp E Z _ (Ml.2 Z);have f0:bL Y=true:=by
    obtain⟨A,c,e,_⟩:=PT.slice (es:=(aG r.sch t.vals).map V.tree) E;rw[e];rfl
   have O:(w.alloc (.cells #[Y] 61)).heap[w.heap.size]? =some (.cells #[Y] 61 (0,0)):=heap_alloc_new _ _;have d9:=(Q.later c9).later J;have b2:(w.alloc (.cells #[Y] 61)).heap.size=w.heap.size+1:=by simp
   have d7:=c9.size;obtain⟨wc,c0⟩:∃wc,w.alloc (.cells #[Y] 61)=wc:=⟨_,rfl⟩;rw[c0]at O d9 b2 b0;rw[c0];obtain⟨bC,d0⟩:∃bC,w.heap.size=bC:=⟨_,rfl⟩;rw[d0]at O b2 d7;rw[d0];clear k a5 c9 J c0 W d0 E a w;refine k9 Z Z Z Tryz.func128 Z Z fun a w k=>?_
   obtain⟨-,-,a2,-⟩:=k.facts;have C:=d9.later a2;have b5:w.heap[bC]? =some (.cells #[Y] 61 (0,0)):=by rw[a2.block bC (by omega)];exact O
   have d5:=b0.later a2;have f1:=Q.below.size;rw[k.lit (v:=.slice AK K.length cK) Z,k.lit (v:=.int .i64 ((bk K (aG r.sch t.vals):Nat):Int)) Z,k.lit (v:=.slice (some ⟨bC,0,none⟩) 1 1) Z];refine(Kw w0.heap.size K.length (bk K (aG r.sch t.vals)) bC (.slice AK K.length cK) Y 61 xs w C.keys.row b5 (fun e=>by have:=(Q.key bC e).2.1;omega) e5 f0 C.keys.rd C.ones.2 (by omega) (by omega) (by have:=a2.size;omega)).mono ?_;rintro e w3 ⟨v3,rfl,F,D,a3,a4⟩;obtain⟨c1,e7⟩:=C.insK d5 F D a3 a4 (by omega);obtain⟨A3,c3,rfl⟩:=cc F;refine⟨_,Z,w3,_,_,fJ (k.turn c1.env c1.okw D.size e7) (by decide) (.pure (.sc _ .nil) .nil),?_⟩;refine b9 (t:=.sc (.slice A3 (K.length+1) c3)) Z Z Z (bW Z Z)<|gL ?_;show BWP _ _ _ _ _
   refine BWP.of<|ae<|af (t:=nI (i+1)) Z Z Z (ah (ai Z Z Z Zy) (bu (by omega)))<|aa 1 Z<|ag<|⟨r.tups.length-(i+1),by omega,i+1,_,_,A2,A3,c2,c3,_,_,_,by omega,Z,?_,kJ (by simp<;>omega) (by simp<;>omega) c1,Z,Z,qp (by simp<;>omega),qp (by simp<;>omega),Z,Z,Z⟩;rw[gC d2 d3];unfold gV;rw[if_neg d4];simp only;rw[if_neg (c:=((K[bk K (aG r.sch t.vals)]?).any fun x=>aO x (aG r.sch t.vals)==0)=true) (by rw[hf];exact MR),kb _ _ i5,kb _ _ (by omega)]
  have k2:(aG r.sch t.vals)=[]:=Mk (by have:=of_decide_eq_false hk;omega);refine km ?_;show BWP _ _ w1 G1 _
  refine cP (fl ?_);refine b9 (t:=.sc (.slice AO L.length cO)) Z Z Z (aw Z Z)<|b9 (t:=nI L.length) Z Z Z (aw Z Z)<|b9 (t:=nI i) Z Z Z (aw Z Z)<|k8 Z Z Z Z cz ig (fun a w k=>by rw[k.lit (v:=.int .i64 (i:Nat)) Z];exact⟨Z,Z⟩) fun a w k=>?_
  rw[k.lit (v:=.int .i64 (i:Nat)) Z];obtain⟨-,-,q,-⟩:=k.facts;obtain⟨wa,B⟩:∃wa,w.alloc (.cells #[.int .i64 (i:Nat)] 3)=wa:=⟨_,rfl⟩;have a1:Below w1.heap.size w1 wa:=by rw[<-B];exact q.alloc q.size _
  have p:wa.heap[w.heap.size]? =some (.cells #[.int .i64 (i:Nat)] 3 (0,0)):=by rw[<-B];exact heap_alloc_new _ _
  have M:=q.size;have H:wa.heap.size=w.heap.size+1:=by rw[<-B];simp
  rw[B];obtain⟨z,X⟩:∃z,w.heap.size=z:=⟨_,rfl⟩;rw[X]at p M H;rw[X];clear k q B X a w;refine fK Z Z Z Z cf lx (fun a w k=>by rw[k.lit (v:=.slice (some ⟨z,0,none⟩) 1 1) Z];rfl) fun a w k=>?_
  rw[k.lit (v:=.slice (some ⟨z,0,none⟩) 1 1) Z];obtain⟨-,-,G,-⟩:=k.facts;obtain⟨wb,U⟩:∃wb,w.alloc (.cells #[.slice (some ⟨z,0,none⟩) 1 1] 23)=wb:=⟨_,rfl⟩;have a9:Below wa.heap.size wa wb:=by rw[<-U];exact G.alloc G.size _
  have a0:wb.heap[w.heap.size]? =some (.cells #[.slice (some ⟨z,0,none⟩) 1 1] 23 (0,0)):=by rw[<-U];exact heap_alloc_new _ _
  have b3:=G.size;have b1:wb.heap.size=w.heap.size+1:=by rw[<-U];simp
  rw[U];obtain⟨bB,c5⟩:∃bB,w.heap.size=bB:=⟨_,rfl⟩;rw[c5]at a0 b3 b1;rw[c5];clear k G U c5 a w;refine k9 Z Z Z Tryz.func127 Z Z fun a w k=>?_
  obtain⟨c4,a5,I,-⟩:=k.facts;have c6:Below w1.heap.size w1 w:=ak (ak a1 a9 a1.size) I (L6 a1.size a9.size);have y:w.heap[z]? =some (.cells #[.int .i64 (i:Nat)] 3 (0,0)):=by rw[I.block z (by omega),a9.block z (by omega)];exact p
  have R:w.heap[bB]? =some (.cells #[.slice (some ⟨z,0,none⟩) 1 1] 23 (0,0)):=by rw[I.block bB (by omega)];exact a0
  have o:=d.later c6;have hu:EIs w w0.heap.size (.slice (some ⟨z,0,none⟩) 1 1) [i]:=rc y (by have:=d.below.size;omega);rw[k.lit (v:=.slice AO L.length cO) Z,k.lit (v:=.int .i64 ((L.length:Nat):Int)) Z,k.lit (v:=.slice (some ⟨bB,0,none⟩) 1 1) Z];refine(Ks w0.heap.size L.length L.length bB (.slice AO L.length cO) (.slice (some ⟨z,0,none⟩) 1 1) 23 vs w o.nest.row R (fun e=>by have:=(d.nest.ok bB (.inl e)).2.1;omega) Z Z o.nest.rd o.ones.1 (L5 _) (by omega) (by have:=d.below.size;have:=c6.size;omega)).mono ?_;rintro e w' ⟨v',rfl,F,D,a3,a4⟩;obtain⟨Q,d6⟩:=d.insL c6 hu (fun g hg=>by have N:some z=some g:=hg;injection N with N;omega) F D a3 a4 (L5 _);obtain⟨A2,c2,rfl⟩:=cc F;refine⟨_,rfl,w',_,_,fJ (k.turn Q.env Q.okw D.size fun b e4 hG=>d6 b e4 fun h=>hG (h.imp id fun e=>by injection e with e;exact e.symm)) (by decide) (.pure (.sc _ .nil) .nil),?_⟩;refine b9 (t:=.sc (.slice A2 (L.length+1) c2)) Z Z Z (bW Z Z)<|gL ?_;show BWP _ _ _ _ _
  clear k c4 a5 I o hu F D a3 a4 d6 y R p a0 M H b3 b1 a1 a9;refine fl<|b9 (t:=.sc (.slice AK K.length cK)) Z Z Z (aw Z Z)<|b9 (t:=nI L.length) Z Z Z (aw Z Z)<|b9 (t:=.sl ((aG r.sch t.vals).map V.tree)) Z Z Z (aw Z Z)<|fK Z Z Z Z iL sQ (fun a w k=>lp (k.slot (i:=58) (t:=iK (aG r.sch t.vals)) Z Z) Z _ (Ml.2 Z)) fun a w k=>?_
  have E:=k.slot (i:=58) (t:=iK (aG r.sch t.vals)) Z Z;obtain⟨Y,W⟩:∃Y,a.tmps.getD 58 undef=Y:=⟨_,rfl⟩;rw[W]at E;rw[W];obtain⟨-,a5,c9,-⟩:=k.facts;have J:=(Below.refl w.heap.size w).alloc (L5 _) (.cells #[Y] 61);have b0:=E.later J;have e5:Y.oneCell'=true:=lp E Z _ (Ml.2 Z);have f0:bL Y=true:=by
   obtain⟨A,c,e,_⟩:=PT.slice (es:=(aG r.sch t.vals).map V.tree) E;rw[e];rfl
  have O:(w.alloc (.cells #[Y] 61)).heap[w.heap.size]? =some (.cells #[Y] 61 (0,0)):=heap_alloc_new _ _;have d9:=(Q.later c9).later J;have b2:(w.alloc (.cells #[Y] 61)).heap.size=w.heap.size+1:=by simp
  have d7:=c9.size;obtain⟨wc,c0⟩:∃wc,w.alloc (.cells #[Y] 61)=wc:=⟨_,rfl⟩;rw[c0]at O d9 b2 b0;rw[c0];obtain⟨bC,d0⟩:∃bC,w.heap.size=bC:=⟨_,rfl⟩;rw[d0]at O b2 d7;rw[d0];clear k a5 c9 J c0 W d0 E a w;refine k9 Z Z Z Tryz.func128 Z Z fun a w k=>?_
  obtain⟨-,-,a2,-⟩:=k.facts;have C:=d9.later a2;have b5:w.heap[bC]? =some (.cells #[Y] 61 (0,0)):=by rw[a2.block bC (by omega)];exact O
  have d5:=b0.later a2;have f1:=Q.below.size;rw[k.lit (v:=.slice AK K.length cK) Z,k.lit (v:=.int .i64 ((L.length:Nat):Int)) Z,k.lit (v:=.slice (some ⟨bC,0,none⟩) 1 1) Z];refine(Kw w0.heap.size K.length L.length bC (.slice AK K.length cK) Y 61 xs w C.keys.row b5 (fun e=>by have:=(Q.key bC e).2.1;omega) e5 f0 C.keys.rd C.ones.2 (by omega) (by omega) (by have:=a2.size;omega)).mono ?_;rintro e w3 ⟨v3,rfl,F,D,a3,a4⟩;obtain⟨c1,e7⟩:=C.insK d5 F D a3 a4 (by omega);obtain⟨A3,c3,rfl⟩:=cc F;refine⟨_,Z,w3,_,_,fJ (k.turn c1.env c1.okw D.size e7) (by decide) (.pure (.sc _ .nil) .nil),?_⟩;refine b9 (t:=.sc (.slice A3 (K.length+1) c3)) Z Z Z (bW Z Z)<|gL ?_;show BWP _ _ _ _ _
  refine BWP.of<|ae<|af (t:=nI (i+1)) Z Z Z (ah (ai Z Z Z Zy) (bu (by omega)))<|aa 1 Z<|ag<|⟨r.tups.length-(i+1),by omega,i+1,_,_,A2,A3,c2,c3,_,_,_,by omega,Z,?_,kJ (by simp<;>omega) (by simp<;>omega) c1,Z,Z,qp (by simp<;>omega),qp (by simp<;>omega),Z,Z,Z⟩;rw[gC d2 d3];unfold gV;rw[if_pos k2];simp only;rw[<-f9,Me (L5 _),Mg (L5 _),f9,Me (L5 _),Mg (L5 _),MA,MA]
 obtain rfl:i=r.tups.length:=by have:=of_decide_eq_false hc;omega
 rw[M9]at d2;have h7:L=aP r:=by
  unfold aP;rw[if_neg (by rw[c7];exact MR),d2]
 refine l8 fun a w k=>⟨w0,G0,⟨63,[(3,.sl ((aP r).map iQ))],[],[]⟩,?_,l7 ?_⟩
 ·obtain⟨-,-,q,-⟩:=k.facts;have o:=d.later q;refine k.back d.e0 d.ok0 o.below ⟨?_,trivial⟩;show FT _ [a.tmps.getD 3 undef] _
  rw[k.lit (v:=.slice AO L.length cO) Z,<-h7];exact FT.gg (o.nest.pt fun g hg h2=>by have:=(d.nest.ok g hg).1;have:=(d.ok0 g h2).1;omega)
 refine⟨Z,Z,?_⟩;show AWP _ _ _ _ _
 refine ab<|aj 2 Z<|aC<|⟨.inr Z,_,.cons Z .nil,Z,Z⟩
end Go.Proofs.YtfoejfohbkmmeaaGreatDoor
