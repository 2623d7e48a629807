import Derived.Test.YtfoejfohbkmmeaaGreatDoorB35
import Derived.Test.YtfoejfohbkmmeaaGreatDoorB00
import Derived.Test.YtfoejfohbkmmeaaGreatDoorB11
import Derived.Test.YtfoejfohbkmmeaaGreatDoorB06
set_option maxRecDepth 100000
set_option maxHeartbeats 4000000
namespace Go.Proofs.YtfoejfohbkmmeaaGreatDoor
open Go.RowKit
open Lib renaming hid→J
section
variable {w0:World} {G0:Bse} {o:Oper} {S:St}
theorem Ft{f:FuncId}{x:Operand}{O:Array TypeId}{k:Nat}{l m:List UInt8}{R:Row}(Q:o.op=.call {callee:=.value (.func f),args:=#[x],argTypes:=O})(hd:cC S.n o.dst=true)(N:CtO f [.sl (am l)] 5 1 (am m))(X:S.ev x=.own k)(Y:S.rs[k]? =some (some R))(H:R.es=am l):lL w0 G0 o S ({S with rs:=S.rs++[some (⟨5,1,am m,false⟩:Row)]}.put o.dst (.own S.rs.length)):=by
 rintro a w ⟨bx,rv,r,z,C,q⟩;have K:=bH (op:=o.op) (T:=fun s=>a.tmps.getD s undef) (S:=S) (fun s _=>q s) X (by rw[Q];simp[Op.operands,Call.operands]);generalize hT:(fun s=>a.tmps.getD s undef)=T at K⊢;obtain⟨hv,xs,d,p,a0,E⟩:=g7 r Y K;generalize J:dm T x=v at hv d p E K;rw[H]at d p;have D:PT w (fun b=>GG G0 bx rv S.rs b/\v.ownBlock≠some b) [v] [.sl (am l)]:=by
  rcases d.2 with⟨rfl,t⟩|⟨g,G,cur,rfl,hb,B,t,F,hs,ht⟩
  ·rw[OB t];exact bQ _ _
  refine .sl g 0 G _ xs (am l) (O3.1 B).1 (fun h=>h.2 Z) (fun j u hu=>?_) Z t (by unfold maxLen at F;omega) (p.mono (Oh _) fun b _ hG=>⟨Z,fun h=>hG h.1⟩) .nil;have:=World.ownsRow.cells d (g:=g) Z j u hu;rw[show(⟨g,0,none⟩:Addr).add j=⟨g,0+j,none⟩from Addr.add_lit ..]at this;exact this
 obtain⟨⟨W,h1,h2,V⟩,N⟩:=N;have L:=N _ w [v] r.env (fun g B=>r.ok g B.1) D;refine cP (f:=f) (args:=[v].toArray) ?_ (L.mono ?_)
 ·have e1:¬W.name= "runtime.NumGoroutine" :=by simpa using h2
  have e2:¬W.body=none:=fun e=>by rw[e]at V;cases V
  simp[execOp,Q,resolve,dm,Deferred.ofValue,invoke,callFunc,h1,e1,e2];exact J
 rintro y w' ⟨v',ys,rfl,U,P,k3,k4,k5⟩;have I:PT w' (fun b=>GG G0 bx rv S.rs b\/v'.ownBlock=some b) ys (flat (am m)):=by
  rw[jN]at P;rw[m5 P];exact lC m
 obtain⟨m1,m2⟩:=r.addRow (R:=⟨5,1,am m,false⟩) k5 U I ⟨k3,fun h=>by cases h⟩ k4;obtain⟨A,c,M⟩:=bX U;exact⟨v',Z,lR z C hd r.nr m1 ⟨A,_,c,M⟩ (fun i=>m2 [_] [_] (q i)) Z⟩
theorem CJ{w:World}{a b c d:Int}:(Instr.buildSlice 22 4 #[(0,.int .u8 a),(1,.int .u8 b),(2,.int .u8 c),(3,.int .u8 d)]).run Tryz.prog w=.ok (.slice (some ⟨w.heap.size,0,none⟩) 4 4) (w.alloc (.cells #[.int .u8 a,.int .u8 b,.int .u8 c,.int .u8 d] 5)):=by
 go_simp
theorem Fu{x y z u:Operand}{a b c d:Nat}(k:o.op=.buildSlice 22 4 #[(0,x),(1,y),(2,z),(3,u)])(L:cC S.n o.dst=true)(m:S.ev x=.sc (.int .u8 (a:Nat)))(H:S.ev y=.sc (.int .u8 (b:Nat)))(N:S.ev z=.sc (.int .u8 (c:Nat)))(K:S.ev u=.sc (.int .u8 (d:Nat))):lL w0 G0 o S ({S with rs:=S.rs++[some (⟨5,1,[.sc (.int .u8 (a:Nat)),.sc (.int .u8 (b:Nat)),.sc (.int .u8 (c:Nat)),.sc (.int .u8 (d:Nat))],true⟩:Row)]}.put o.dst (.own S.rs.length)):=by
 rintro s w ⟨bx,rv,j,q,t,f⟩;have D:=(bH (op:=o.op) (T:=fun i=>s.tmps.getD i undef) (S:=S) (fun s _=>f s) m (by rw[k];simp[Op.operands])).isSc;have E:=(bH (op:=o.op) (T:=fun i=>s.tmps.getD i undef) (S:=S) (fun s _=>f s) H (by rw[k];simp[Op.operands])).isSc;have F:=(bH (op:=o.op) (T:=fun i=>s.tmps.getD i undef) (S:=S) (fun s _=>f s) N (by rw[k];simp[Op.operands])).isSc;have G:=(bH (op:=o.op) (T:=fun i=>s.tmps.getD i undef) (S:=S) (fun s _=>f s) K (by rw[k];simp[Op.operands])).isSc;generalize (fun i=>s.tmps.getD i undef)=T at D E F G⊢;obtain⟨C,p⟩:∃C:Array Value,#[.int .u8 (a:Nat),.int .u8 (b:Nat),.int .u8 (c:Nat),.int .u8 (d:Nat)]=C:=⟨_,rfl⟩;have l:=World.ownsRow_lit (base:=w.heap.size) (e:=5) (size:=1) w C 4 (Oh _) (by simp only[maxLen];omega) (by rw[<-p];rfl);have I:Below w.heap.size w (w.alloc (.cells C 5)):=(Below.refl _ _).alloc (Oh _) _;have B:∀g,(Value.slice (some ⟨w.heap.size,0,none⟩) 4 4).ownBlock=some g->NoDigB (w.alloc (.cells C 5)) g:=fun g r=>by
  injection r with r
  subst r;exact cD (heap_alloc_new w _) (by rw[<-p];rfl)
 obtain⟨J,M⟩:=j.addRow (R:=⟨5,1,[.sc (.int .u8 (a:Nat)),.sc (.int .u8 (b:Nat)),.sc (.int .u8 (c:Nat)),.sc (.int .u8 (d:Nat))],true⟩) (v:=.slice (some ⟨w.heap.size,0,none⟩) 4 4) I l (by rw[<-p];exact .sc _ (.sc _ (.sc _ (.sc _ .nil)))) ⟨fun x m=>(by simp only[OC,Qf,or_false]at m;rcases m with rfl|rfl|rfl|rfl<;>rfl),fun _ A n c e=>(by cases e;rfl)⟩ B;refine aB (v:=.slice (some ⟨w.heap.size,0,none⟩) 4 4) (W':=w.alloc (.cells C 5)) ?_ (lR q t L j.nr J ⟨_,_,_,Z⟩ (fun i=>M [_] [_] (f i)) Z);have h:=CJ (w:=w) (a:=(a:Nat)) (b:=(b:Nat)) (c:=(c:Nat)) (d:=(d:Nat));rw[p]at h;simp[execOp,k,D,E,F,G,h]
end
theorem AI{w0:World}{G0:Bse}{o:Oper}{ops:Array Oper}{a:List Oper}{Q:Exit->St->Prop}{n d k j:Nat}{sl:List (Nat×Tree)}{bs:List (TypeId×List Tree)}{rs rs':List (Option Row)}{f:FuncId}{x:Operand}{e:Array TypeId}{l m:List UInt8}{R:Row}(h:o.op=.call {callee:=.value (.func f),args:=#[x],argTypes:=e})(i:o.guard=none)(g:o.dst=some d)(t:Nat.blt d n=true)(r:CtO f [.sl (am l)] 5 1 (am m))(q:St.ev ⟨n,sl,bs,rs⟩ x=.own k)(s:rs[k]? =some (some R))(c:R.es=am l)(p:rs.length=j)(b:rs++[some ⟨5,1,am m,false⟩]=rs')(K:AOps w0 G0 ops a Q ⟨n,(d,.own j)::sl,bs,rs'⟩):AOps w0 G0 ops (o::a) Q ⟨n,sl,bs,rs⟩:=by
 subst p b;refine dF i (Ft (S:=⟨n,sl,bs,rs⟩) h (by rw[g];simpa[cC,Pn]using t) r q s c) ?_;rw[g];exact K
theorem yg{w0:World}{G0:Bse}{o:Oper}{ops:Array Oper}{f:List Oper}{Q:Exit->St->Prop}{n e k:Nat}{sl:List (Nat×Tree)}{bs:List (TypeId×List Tree)}{rs rs':List (Option Row)}{x y z u:Operand}{a b c d:Nat}(i:o.op=.buildSlice 22 4 #[(0,x),(1,y),(2,z),(3,u)])(j:o.guard=none)(h:o.dst=some e)(r:Nat.blt e n=true)(p:St.ev ⟨n,sl,bs,rs⟩ x=.sc (.int .u8 (a:Nat)))(s:St.ev ⟨n,sl,bs,rs⟩ y=.sc (.int .u8 (b:Nat)))(l:St.ev ⟨n,sl,bs,rs⟩ z=.sc (.int .u8 (c:Nat)))(q:St.ev ⟨n,sl,bs,rs⟩ u=.sc (.int .u8 (d:Nat)))(m:rs.length=k)(g:rs++[some ⟨5,1,[.sc (.int .u8 (a:Nat)),.sc (.int .u8 (b:Nat)),.sc (.int .u8 (c:Nat)),.sc (.int .u8 (d:Nat))],true⟩]=rs')(K:AOps w0 G0 ops f Q ⟨n,(e,.own k)::sl,bs,rs'⟩):AOps w0 G0 ops (o::f) Q ⟨n,sl,bs,rs⟩:=by
 subst m g;refine dF j (Fu (S:=⟨n,sl,bs,rs⟩) i (by rw[h];simpa[cC,Pn]using r) p s l q) ?_;rw[h];exact K
def lD(c:Col):List UInt8:=df c.name.data.toList++(c6 c.ty.toNat++fM c.key)
def qm(s:Sch):List UInt8:=df s.name.data.toList++(fM s.cert++c6 s.cols.length)
def ka(t:Tp):List UInt8:=df (d7 t.vals)++n3 t.prob
def iD(r:Rel):List UInt8:=qm r.sch++(r.sch.cols.flatMap lD++(c6 r.tups.length++r.tups.flatMap ka))
def eY(r:Rel):List UInt8:=iD r++om (g5 (iD r))
theorem gX(l:List UInt8)(h:l.length<=1000000000):(df l).length<=l.length+10/\l.length+1<=(df l).length:=by
 have b:=dM (n:=l.length) (by omega);have a:=uB l.length;unfold df;rw[Oj];omega
theorem jJ(b:Bool):(fM b).length<=10/\1<=(fM b).length:=by
 unfold fM;exact⟨dM (by split<;>decide),uB _⟩
theorem jk(s:ByteArray):s.data.toList.length=s.size:=by simp
structure Enc (r:Rel):Prop where
 valid:bD r=0
 fit:FitR r/\True
 rng:∀t∈r.tups,∀v∈t.vals,v.rng
theorem Enc.len{r:Rel}(h:Enc r):r.tups.length<=64:=(mB.1 h.valid).2.1
theorem Good.enc{r:Rel}(h:Good r):Enc r:=⟨h.valid,⟨h.fit.1,trivial⟩,h.rng⟩
theorem uE{s:ByteArray}(h:ga s=true):1<=s.size/\s.size<=24:=by
 unfold ga at h;rw[Oo,Oo]at h;exact⟨of_decide_eq_true h.1.1,of_decide_eq_true h.1.2⟩
theorem rR{cert:Bool}:∀{l a:List Col},gP cert a l=false->∀c∈l,me cert c=false
 |[],_,_,c,b=>by cases b
 |d::l,a,h,c,b=>by
  rw[gP,OH,OH]at h;rcases OC.1 b with rfl|b
  ·exact h.1.1
  exact rR h.2 c b
theorem IU{s:Sch}(h:gt s=true):(1<=s.name.size/\s.name.size<=24)/\(1<=s.cols.length/\s.cols.length<=6)/\∀c∈s.cols,c.name.size<=24/\0<=c.ty/\c.ty<=2:=by
 have e:=ll h;unfold gt at h;rw[Pu,OH]at h;refine⟨?_,e,fun c d=>?_⟩
 ·have a:=h.1;unfold kz at a;rw[OH,OH]at a;exact uE (by simpa using a.1.1)
 have a:=rR h.2 c d;unfold me at a;rw[OH,OH]at a;refine⟨(uE (by simpa using a.1.1)).2,?_⟩;have b:=a.1.2;rw[P6]at b;rcases b with b|b
 ·have:c.ty=1:=by simpa using b
  omega
 have:c.ty=2:=by simpa using b
 omega
theorem yh{r:Rel}(h:Enc r):(1<=r.sch.name.size/\r.sch.name.size<=24)/\(1<=r.sch.cols.length/\r.sch.cols.length<=6)/\∀c∈r.sch.cols,c.name.size<=24/\0<=c.ty/\c.ty<=2:=IU (mB.1 h.valid).1
theorem yi{r:Rel}(h:Enc r){t:Tp}(b:t∈r.tups):t.vals.all V.ok=true/\t.vals.length<=6/\(d7 t.vals).length<=396:=by
 have a:=ij (((rM _).1 (mB.1 h.valid).2.2.1).1 t b);have c:t.vals.all V.ok=true:=OD.2 fun v e=>AA a.2.2.2 a.1 v e
 have d:=ns h.valid t b;have f:=yQ c;exact⟨c,d,by omega⟩
theorem AJ{r:Rel}(h:Good r):(1<=r.sch.name.size/\r.sch.name.size<=24)/\(1<=r.sch.cols.length/\r.sch.cols.length<=6)/\∀c∈r.sch.cols,c.name.size<=24/\0<=c.ty/\c.ty<=2:=yh h.enc
theorem AL{r:Rel}(h:Good r){t:Tp}(a:t∈r.tups):t.vals.all V.ok=true/\t.vals.length<=6/\(d7 t.vals).length<=396:=yi h.enc a
theorem lE{α:Type}{f:α->List UInt8}{l:List α}{i:Nat}{x:α}(h:l[i]? =some x):(l.drop i).flatMap f=f x++(l.drop (i+1)).flatMap f:=by
 obtain⟨a,rfl⟩:=Ok.1 h;rw[Ow a,PZ]
theorem IV(q:Rat)(h:Fit 262144 q):(n3 q).length<=2097175:=by
 have b:=qj _ h.num;have a:=qj _ h.den;unfold n3;rw[Oi,Oj];omega
theorem Mq{z:Int}(b:0<=z)(a:z<=2):(Tree.sc (.int .u64 (IntKind.u64.wrap z)))=.sc (.int .u64 ((z.toNat:Nat):Int)):=by
 rw[IntKind.wrap_u64];congr 2;omega
theorem KQ(l:List UInt8)(a:l.length<=4611686018427387904):CtO 54 [.sl (am l)] 5 1 (am (om (g5 l))):=by
 refine CtO.of (n:=18) Tryz.func54 Z Z Z Z Z fun w0 G0=>?_
 refine ab<|ae<|ag (t:=.sl []) Z Z Z (bI (.inr Z) bQ)<|af<|ab<|ae<|aa 1 Z<|ag Z Z Z (ak Z (IT l a) Z Z)<|aa 1 Z<|af<|ab<|ae<|aa 1 Z<|ag (t:=.sc (.int .u32 ((g5 l/2^24:Nat):Int))) Z Z Z (ai Z Z Z (fun w=>fg (g5 l) 24 (by decide) w))<|ag (t:=.sc (.int .u8 ((g5 l/2^24%256:Nat):Int))) Z Z Z (ah (bM Z cI ch Z) mH)<|aa 1 Z<|ag (t:=.sc (.int .u32 ((g5 l/2^16:Nat):Int))) Z Z Z (ai Z Z Z (fun w=>fg (g5 l) 16 (by decide) w))<|ag (t:=.sc (.int .u8 ((g5 l/2^16%256:Nat):Int))) Z Z Z (ah (bM Z cI ch Z) mH)<|aa 1 Z<|ag (t:=.sc (.int .u32 ((g5 l/2^8:Nat):Int))) Z Z Z (ai Z Z Z (fun w=>fg (g5 l) 8 (by decide) w))<|ag (t:=.sc (.int .u8 ((g5 l/2^8%256:Nat):Int))) Z Z Z (ah (bM Z cI ch Z) mH)<|aa 1 Z<|ag (t:=.sc (.int .u8 ((g5 l%256:Nat):Int))) Z Z Z (ah (bM Z cI ch Z) mH)<|yg (k:=0) (rs':=[some ⟨5,1,am (om (g5 l)),true⟩]) Z Z Z Z Z Z Z Z Z (by rw[ql];rfl)<|aa 1 Z<|af<|ax<|⟨.inr Z,0,true,Z,Z⟩
theorem uF{r:Rel}(g:Enc r):CtP 18 [r.tree] 5 1 (am (eY r)) (.int .i64 0):=by
 refine CtP.of (n:=90) Tryz.func18 Z Z Z Z Z fun w0 G0=>?_
 refine ab<|ae<|aa 1 Z<|ag (t:=.sl []) Z Z Z (bI (.inr Z) bQ)<|aa 1 Z<|af<|ab<|ab ?_;obtain⟨⟨U,T⟩,⟨V,a1⟩,D⟩:=yh g;have S:=jk r.sch.name;have K:=gX r.sch.name.data.toList (by omega);have W:=jJ r.sch.cert;have L:=dM (n:=r.sch.cols.length) (by omega);refine ae<|aa 1 Z<|ag Z Z Z (ak Z (jh r g.fit.1) Z Z)<|aa 1 Z<|af<|ab<|ae<|aa 1 Z<|ag (t:=bT ((bD r) !=0)) Z Z Z (ai Z Z Z Zy)<|af<|aH Z (fun u=>?_) (fun u=>?_)
 ·exact absurd g.valid (by simpa using u)
 refine ar<|ab<|ae<|aa 3 Z<|ag (t:=.sl (am r.sch.name.data.toList)) Z Z Z (nV Z Z (by omega))<|oz (k:=0) (rs':=[some ⟨5,1,am (df r.sch.name.data.toList),false⟩]) Z Z Z Z (sC _ (by omega)) Z Z Z Z<|aa 1 Z<|af<|ab<|ae<|aa 4 Z<|ag Z Z Z (ak Z (D9 _) Z Z)<|a8 (bs':=[(30,(a7 r))]) (rs':=[some ⟨5,1,am ((df r.sch.name.data.toList)++fM r.sch.cert),false⟩]) Z Z Z Z aT Z Z Z Z (aV _) (AllC.map _ _ fun _=>rfl) (AllC.map _ _ fun _=>rfl) (by simp only[aC,Oj,Oi,Ou];omega) Z Z Z (by simp only[bd];rfl)<|aa 1 Z<|af<|ab<|ae<|aa 4 Z<|ag (t:=nI r.sch.cols.length) Z Z Z (ah (aW Z bh Z) (by simp only[Ol]))<|ag (t:=.sc (.int .u64 ((r.sch.cols.length:Nat):Int))) Z Z Z (ah (bM Z dQ cj Z) (pX (by omega)))<|ag Z Z Z (ak Z ((nW _ (by omega)).ct) Z Z)<|a8 (bs':=[(30,(a7 r))]) (rs':=[some ⟨5,1,am (((df r.sch.name.data.toList)++fM r.sch.cert)++c6 r.sch.cols.length),false⟩]) Z Z Z Z aT Z Z Z Z (aV _) (AllC.map _ _ fun _=>rfl) (AllC.map _ _ fun _=>rfl) (by simp only[aC,Oj,Oi,Ou];omega) Z Z Z (by simp only[bd];rfl)<|aa 1 Z<|af<|ab<|ab<|ae<|aa 3 Z<|ag (t:=nI r.sch.cols.length) Z Z Z (ah (aW Z bh Z) (by simp only[Ol]))<|aa 1 Z<|af<|aA<|aO (fun w z=>∃(i:Nat) (a:List UInt8),(i<=r.sch.cols.length/\a.length<=100+i*100/\a++(r.sch.cols.drop i).flatMap lD=qm r.sch++r.sch.cols.flatMap lD)/\w=r.sch.cols.length-i/\z=⟨90,[(1,.box 0 0),(5,.own 0),(36,.sl (r.sch.cols.map Col.tree)),(37,nI r.sch.cols.length),(38,nI i)],[(30,(a7 r))],[some ⟨5,1,am a,false⟩]⟩) 1 1 ⟨0,(((df r.sch.name.data.toList)++fM r.sch.cert)++c6 r.sch.cols.length),⟨OA _,by simp only[Oj];omega,by unfold qm;simp⟩,Z,Z⟩ .rf ?_;rintro w z ⟨i,a,⟨hi,G,e⟩,rfl,rfl⟩;refine ab<|ae<|ag (t:=bT (decide (i<r.sch.cols.length))) Z Z Z (ah (ai Z Z Z Zy) (au (gK i r.sch.cols.length)))<|af<|ab<|aD Z (fun y=>?_) (fun y=>?_)
 ·obtain⟨c,o⟩:∃c,r.sch.cols[i]? =some c:=⟨_,Og y⟩;obtain⟨J,F,C⟩:=D c (Om o);rw[lE o]at e;have N:=jk c.name;have a2:=gX c.name.data.toList (by omega);have I:=dM (n:=c.ty.toNat) (by omega);have X:=jJ c.key;refine ar<|ab<|aA<|ab<|ae<|ag (t:=.ref [sT c.name,iT c.ty,bT c.key]) Z Z Z (aK (Col.tree c) Z bh Z Z Z (aX (f:=Col.tree) o) (ei _) Z)<|aa 3 Z<|af<|ab<|ae<|aa 3 Z<|ag (t:=.sl (am c.name.data.toList)) Z Z Z (nV Z Z (by omega))<|ag Z Z Z (ak Z ((sC _ (by omega)).ct) Z Z)<|a8 (bs':=[(30,(a7 r)),(58,[sT c.name,iT c.ty,bT c.key])]) (rs':=[some ⟨5,1,am (a++df c.name.data.toList),false⟩]) Z Z Z Z aT Z Z Z Z (aV _) (AllC.map _ _ fun _=>rfl) (AllC.map _ _ fun _=>rfl) (by simp only[aC,Oj,Oi,Ou];omega) Z Z Z (by simp only[bd];rfl)<|aa 1 Z<|af<|ab<|ae<|aa 3 Z<|ag (t:=.sc (.int .u64 ((c.ty.toNat:Nat):Int))) Z Z Z (ah (bM Z dQ cj Z) (Mq F C))<|ag Z Z Z (ak Z ((nW _ (by omega)).ct) Z Z)<|a8 (bs':=[(30,(a7 r)),(58,[sT c.name,iT c.ty,bT c.key])]) (rs':=[some ⟨5,1,am ((a++df c.name.data.toList)++c6 c.ty.toNat),false⟩]) Z Z Z Z aT Z Z Z Z (aV _) (AllC.map _ _ fun _=>rfl) (AllC.map _ _ fun _=>rfl) (by simp only[aC,Oj,Oi,Ou];omega) Z Z Z (by simp only[bd];rfl)<|aa 1 Z<|af<|ae<|aa 3 Z<|ag Z Z Z (ak Z (D9 _) Z Z)<|a8 (bs':=[(30,(a7 r)),(58,[sT c.name,iT c.ty,bT c.key])]) (rs':=[some ⟨5,1,am (((a++df c.name.data.toList)++c6 c.ty.toNat)++fM c.key),false⟩]) Z Z Z Z aT Z Z Z Z (aV _) (AllC.map _ _ fun _=>rfl) (AllC.map _ _ fun _=>rfl) (by simp only[aC,Oj,Oi,Ou];omega) Z Z Z (by simp only[bd];rfl)<|aa 1 Z<|af<|ae<|ag (t:=nI (i+1)) Z Z Z (ah (ai Z Z Z Zy) (bp (by omega)))<|aa 1 Z<|af<|⟨_,_,?_,⟨i+1,(((a++df c.name.data.toList)++c6 c.ty.toNat)++fM c.key),?_,Z,Z⟩,.rf⟩
  ·omega
  exact⟨by omega,by simp only[Oj];omega,by rw[<-e];unfold lD;simp⟩
 have E:a=qm r.sch++r.sch.cols.flatMap lD:=by rw[<-e,Ov (by omega)];simp
 have P:=dM (n:=r.tups.length) (by have:=g.len;omega);refine aQ<|ab<|ae<|aa 3 Z<|ag (t:=nI r.tups.length) Z Z Z (ah (aW Z aM Z) (by simp only[Ol]))<|ag (t:=.sc (.int .u64 ((r.tups.length:Nat):Int))) Z Z Z (ah (bM Z dQ cj Z) (pX (by have:=g.len;omega)))<|ag Z Z Z (ak Z ((nW _ (by have:=g.len;omega)).ct) Z Z)<|a8 (bs':=[(30,(a7 r))]) (rs':=[some ⟨5,1,am (a++c6 r.tups.length),false⟩]) Z Z Z Z aT Z Z Z Z (aV _) (AllC.map _ _ fun _=>rfl) (AllC.map _ _ fun _=>rfl) (by simp only[aC,Oj,Oi,Ou];omega) Z Z Z (by simp only[bd];rfl)<|aa 1 Z<|af<|ab<|ab<|ae<|aa 2 Z<|ag (t:=nI r.tups.length) Z Z Z (ah (aW Z aM Z) (by simp only[Ol]))<|aa 1 Z<|af<|aA<|aO (fun w z=>∃(j:Nat) (b:List UInt8),(j<=r.tups.length/\b.length<=1000+j*3000000/\b++(r.tups.drop j).flatMap ka=iD r)/\w=r.tups.length-j/\z=⟨90,[(1,.box 0 0),(5,.own 0),(68,.sl (r.tups.map Tp.tree)),(69,nI r.tups.length),(70,nI j)],[(30,(a7 r))],[some ⟨5,1,am b,false⟩]⟩) 1 1 ⟨0,(a++c6 r.tups.length),⟨OA _,by simp only[Oj];omega,by rw[E];unfold iD;simp⟩,Z,Z⟩ .rf ?_;rintro w z ⟨j,b,⟨hj,H,d⟩,rfl,rfl⟩;have Q:=g.len;refine ab<|ae<|ag (t:=bT (decide (j<r.tups.length))) Z Z Z (ah (ai Z Z Z Zy) (au (gK j r.tups.length)))<|af<|ab<|aD Z (fun A=>?_) (fun A=>?_)
 ·obtain⟨t,q⟩:∃t,r.tups[j]? =some t:=⟨_,Og A⟩;have h:=Om q;obtain⟨B,M,O⟩:=yi g h;have x:=(g.fit.1.tup t h).1.p;rw[lE q]at d;have Y:=gX (d7 t.vals) (by omega);have a0:=IV t.prob x;refine ar<|ab<|aA<|ab<|ae<|ag (t:=.ref (bY t)) Z Z Z (aK (Tp.tree t) Z aM Z Z Z (aX (f:=Tp.tree) q) (bS _) Z)<|aa 3 Z<|af<|ab<|ae<|aa 3 Z<|ag Z Z Z (ak Z (KO t.vals (by omega) B (fun v R=>g.rng t h v R)) Z Z)<|ag Z Z Z (ak Z ((sC _ (by omega)).ct) Z Z)<|a8 (bs':=[(30,(a7 r)),(67,(bY t))]) (rs':=[some ⟨5,1,am (b++df (d7 t.vals)),false⟩]) Z Z Z Z aT Z Z Z Z (aV _) (AllC.map _ _ fun _=>rfl) (AllC.map _ _ fun _=>rfl) (by simp only[aC,Oj,Oi,Ou];omega) Z Z Z (by simp only[bd];rfl)<|aa 1 Z<|af<|ae<|aa 3 Z<|ag Z Z Z (ak Z (KP t.prob x) Z Z)<|a8 (bs':=[(30,(a7 r)),(67,(bY t))]) (rs':=[some ⟨5,1,am ((b++df (d7 t.vals))++n3 t.prob),false⟩]) Z Z Z Z aT Z Z Z Z (aV _) (AllC.map _ _ fun _=>rfl) (AllC.map _ _ fun _=>rfl) (by simp only[aC,Oj,Oi,Ou];omega) Z Z Z (by simp only[bd];rfl)<|aa 1 Z<|af<|ae<|ag (t:=nI (j+1)) Z Z Z (ah (ai Z Z Z Zy) (bp (by omega)))<|aa 1 Z<|af<|⟨_,_,?_,⟨j+1,((b++df (d7 t.vals))++n3 t.prob),?_,Z,Z⟩,.rf⟩
  ·omega
  exact⟨by omega,by simp only[Oj];omega,by rw[<-d];unfold ka;simp⟩
 have s:b=iD r:=by rw[<-d,Ov (by omega)];simp
 refine aQ<|ab<|ae<|aa 2 Z<|AI (k:=0) (j:=1) (l:=b) (m:=om (g5 b)) (rs':=[some ⟨5,1,am b,false⟩,some ⟨5,1,am (om (g5 b)),false⟩]) Z Z Z Z (KQ b (by omega)) Z Z Z Z Z<|Gk 1 (bs':=[(30,(a7 r))]) (rs':=[some ⟨5,1,am b,false⟩,none]) Z Z Z Z<|a8 (bs':=[(30,(a7 r))]) (rs':=[some ⟨5,1,am (b++om (g5 b)),false⟩,none]) Z Z Z Z aT Z Z Z Z (aV _) (AllC.map _ _ fun _=>rfl) (AllC.map _ _ fun _=>rfl) (by simp only[aC,Oj,om,Oi,Ou];omega) Z Z Z (by simp only[bd];rfl)<|aa 2 Z<|af<|ax<|⟨.inr Z,0,false,Z,by rw[s];rfl,Z⟩
theorem Fv{r:Rel}(a:Good r):CtP 18 [r.tree] 5 1 (am (eY r)) (.int .i64 0):=uF a.enc
theorem wP(r:Rel)(b:FitR r)(c:bD r≠0):Ct 18 [r.tree] (.tup [.sl [],iT (bD r)]):=by
 refine Ct.of (n:=90) Tryz.func18 Z Z Z Z Z fun w0 G0=>?_
 refine ab<|ae<|aa 1 Z<|ag (t:=.sl []) Z Z Z (bI (.inr Z) bQ)<|aa 1 Z<|af<|ab<|ab<|ae<|aa 1 Z<|ag Z Z Z (ak Z (jh r b) Z Z)<|aa 1 Z<|af<|ab<|ae<|aa 1 Z<|ag (t:=bT ((bD r) !=0)) Z Z Z (ai Z Z Z Zy)<|af<|aH Z (fun a=>?_) (fun a=>?_)
 ·refine ab<|ae<|aa 1 Z<|ag (t:=.sl []) Z Z Z (bI (.inr Z) bQ)<|aa 1 Z<|af<|ax<|⟨.inr Z,_,.cons Z (.cons Z .nil),Z,Z⟩
 exact absurd (by simpa using a) c
structure Rdr where
 rest:List UInt8
 err:Nat
def Rdr.cells(s:Rdr):List Tree:=[.sl (am s.rest),.sc (.int .i64 ((s.err:Nat):Int))]
def gY:Nat->Nat->Nat->List UInt8->Nat×Nat×Nat
 |0,_,_,_=>(0,0,2)
 |_+1,_,_,[]=>(0,0,3)
 |f+1,i,n,c::l=>
  if 128<=c.toNat then gY f (i+1) (n+c.toNat%128*128^i) l
  else if(0<i/\c.toNat=0)\/(i=9/\1<c.toNat)then(0,0,2)
  else(n+c.toNat%128*128^i,i+1,0)
def c8(m:Nat)(s:Rdr):Nat×Rdr:=
 if s.err≠0 then(0,s)
 else if(gY 10 0 0 s.rest).2.2≠0 then(0,⟨[],(gY 10 0 0 s.rest).2.2⟩)
 else if m<(gY 10 0 0 s.rest).1 then(0,⟨[],4⟩)
 else((gY 10 0 0 s.rest).1,⟨s.rest.drop (gY 10 0 0 s.rest).2.1,0⟩)
def eW(n:Nat)(s:Rdr):List UInt8×Rdr:=
 if s.err≠0 then([],s)else if s.rest.length<n then([],⟨[],3⟩)else(s.rest.take n,⟨s.rest.drop n,0⟩)
def cz(m:Nat)(s:Rdr):List UInt8×Rdr:=if(c8 m s).2.err≠0 then([],(c8 m s).2)else eW (c8 m s).1 (c8 m s).2
def eV(s:Rdr):Nat×Rdr:=
 if(cz 8192 s).2.err≠0 then(0,(cz 8192 s).2)
 else match (cz 8192 s).1 with
  |[]=>(0,(cz 8192 s).2)
  |c::l=>if c.toNat=0 then(0,⟨[],2⟩)else(d8 (c::l),(cz 8192 s).2)
def ie(ng:Bool)(n d:Nat):Bool:=decide (d≠0)&&(if n=0 then !ng&&decide (d=1)else decide (Nat.gcd n d=1))
def fX(s:Rdr):Option Rat×Rdr:=
 if(eW 1 s).2.err≠0 then(none,(eW 1 s).2)
 else if 1<((eW 1 s).1.headD 0).toNat then(none,⟨[],2⟩)
 else if(eV (eV (eW 1 s).2).2).2.err≠0 then(none,(eV (eV (eW 1 s).2).2).2)
 else if ie (decide (((eW 1 s).1.headD 0).toNat=1)) (eV (eW 1 s).2).1 (eV (eV (eW 1 s).2).2).1 then(some (eh (decide (((eW 1 s).1.headD 0).toNat=1)) (eV (eW 1 s).2).1 (eV (eV (eW 1 s).2).2).1),(eV (eV (eW 1 s).2).2).2)
 else(none,⟨[],2⟩)
def oP:Option Rat->Bool
 |some q=>decide (q.num<0)
 |none=>false
def oQ:Option Rat->Nat
 |some q=>q.num.natAbs
 |none=>0
def oR:Option Rat->Nat
 |some q=>q.den
 |none=>0
def yj(o:Option Rat):Tree:=.agg [.sc (.bool (oP o)),aG (oQ o),aG (oR o)]
theorem uG:∀(f i n:Nat) (l:List UInt8),(gY f i n l).2.2=0->(gY f i n l).2.1<=i+l.length/\i<(gY f i n l).2.1
 |0,_,_,_,h=>by simp[gY]at h
 |_+1,_,_,[],h=>by simp[gY]at h
 |f+1,i,n,c::l,h=>by
  rw[gY]at h⊢;split
  ·next hc=>
   rw[if_pos hc]at h;have:=uG f (i+1) _ l h;simp only[Oi];omega
  next hc=>
  rw[if_neg hc]at h;split
  ·next h2=>rw[if_pos h2]at h;cases h
  simp only[Oi];omega
theorem eR(m:Nat)(s:Rdr):(c8 m s).2.rest.length<=s.rest.length:=by
 unfold c8;split
 ·exact Oh _
 split
 ·simp
 split
 ·simp
 simp only[OP];omega
theorem iW(m:Nat)(s:Rdr):(c8 m s).1<=m:=by
 unfold c8;split
 ·exact OA _
 split
 ·exact OA _
 split
 ·exact OA _
 dsimp only;omega
theorem uH(n:Nat)(s:Rdr):(eW n s).2.rest.length<=s.rest.length:=by
 unfold eW;split
 ·exact Oh _
 split
 ·simp
 simp only[OP];omega
theorem Fw(n:Nat)(s:Rdr):(eW n s).1.length<=n:=by
 unfold eW;split
 ·simp
 split
 ·simp
 simp only[Ox];omega
theorem iX(m:Nat)(s:Rdr):(cz m s).2.rest.length<=s.rest.length:=by
 unfold cz;split
 ·exact eR m s
 exact Oq (uH _ _) (eR m s)
theorem kG(m:Nat)(s:Rdr):(cz m s).1.length<=m:=by
 unfold cz;split
 ·simp
 exact Oq (Fw _ _) (iW m s)
theorem uI(s:Rdr):(eV s).2.rest.length<=s.rest.length:=by
 have h:=iX 8192 s;unfold eV;split
 ·exact h
 split
 ·exact h
 split
 ·simp
 exact h
theorem Fx(s:Rdr):(fX s).2.rest.length<=s.rest.length:=by
 have d:=uH 1 s;have c:=Oq (uI (eV (eW 1 s).2).2) (Oq (uI (eW 1 s).2) d);unfold fX;generalize eV (eV (eW 1 s).2).2=b at c⊢;generalize eV (eW 1 s).2=a;generalize eW 1 s=p at d⊢;generalize ie _ _ _=cb;split
 ·exact d
 split
 ·simp
 split
 ·exact c
 split
 ·exact c
 simp
theorem Fy{s:Rdr}(h:s.err≠0)(m:Nat):c8 m s=(0,s):=if_pos h
theorem IW{s:Rdr}(h:s.err≠0)(n:Nat):eW n s=([],s):=if_pos h
theorem CK{s:Rdr}(h:s.err≠0)(m:Nat):cz m s=([],s):=by
 unfold cz;rw[Fy h,if_pos h]
theorem Fz{s:Rdr}(h:s.err≠0):fX s=(none,s):=by
 unfold fX;rw[IW h,if_pos h]
theorem IX{m:Nat}(h:128<=m):c6 m=UInt8.ofNat (m%128+128)::c6 (m/128):=by rw[c6,if_pos h]
theorem IY{m:Nat}(h:¬128<=m):c6 m=[UInt8.ofNat m]:=by rw[c6,if_neg h]
theorem wQ(t:List UInt8):∀(f i a m:Nat),f+i=10->i+(c6 m).length<=10->(0<i->0<m)->a+m*128^i<18446744073709551616->gY f i a (c6 m++t)=(a+m*128^i,i+(c6 m).length,0)
 |0,i,a,m,hf,hl,_,_=>by have:=uB m;omega
 |f+1,i,a,m,hf,hl,hp,hb=>by
  by_cases c:128<=m
  ·have g:m%128+128<256:=by omega
   have d:(UInt8.ofNat (m%128+128)).toNat=m%128+128:=by rw[Qo];exact OY g
   have h:a+(m%128+128)%128*128^i+m/128*128^(i+1)=a+m*128^i:=by
    have b:(m%128+128)%128=m%128:=by omega
    have e:m/128*128^(i+1)=m/128*128*128^i:=by rw[OO,OF (128^i),OL]
    rw[b,e,P9,<-Pf];congr 2;omega
   rw[IX c]at hl⊢;rw[PD,gY,d,if_pos (by omega)];simp only[Oi]at hl⊢;rw[wQ t f (i+1) _ (m/128) (by omega) (by omega) (fun _=>by omega) (by rw[h];exact hb),h,P9,P0 1]
  have d:(UInt8.ofNat m).toNat=m:=by rw[Qo];exact OY (by omega)
  rw[IY c,PD,gY,d,if_neg c,OY (by omega)];rw[if_neg]
  ·rfl
  rintro(⟨b,e⟩|⟨b,e⟩)
  ·have:=hp b;omega
  subst b;rw[show(128:Nat)^9=9223372036854775808 from rfl]at hb;omega
theorem jK{n m:Nat}(t:List UInt8)(a:n<18446744073709551616)(b:n<=m):c8 m ⟨c6 n++t,0⟩=(n,⟨t,0⟩):=by
 have h:=wQ t 10 0 0 n Z (by have:=dM a;omega) (fun h=>absurd h (Nat.lt_irrefl 0)) (by simpa using a);simp only[Pk,QO,Qc]at h;unfold c8;simp only[h];rw[if_neg (by simp),if_neg (by simp),if_neg (by omega)];simp
theorem AM(a t:List UInt8):eW a.length ⟨a++t,0⟩=(a,⟨t,0⟩):=by
 unfold eW;rw[if_neg (by simp),if_neg (by simp)];simp
theorem mJ{a:List UInt8}{m:Nat}(t:List UInt8)(c:a.length<18446744073709551616)(b:a.length<=m):cz m ⟨df a++t,0⟩=(a,⟨t,0⟩):=by
 unfold cz df;rw[O0,jK (a++t) c b,if_neg (by simp)];exact AM a t
end Go.Proofs.YtfoejfohbkmmeaaGreatDoor
