import Derived.Test.YtfoejfohbkmmeaaGreatDoorQ34
import Derived.Test.YtfoejfohbkmmeaaGreatDoorQ07
import Derived.Test.YtfoejfohbkmmeaaGreatDoorQ00
import Derived.Test.YtfoejfohbkmmeaaGreatDoorQ26
set_option maxRecDepth 100000
set_option maxHeartbeats 4000000
namespace Go.Proofs.YtfoejfohbkmmeaaGreatDoor
open Go.RowKit
open Lib renaming hid→J
def AB(t:Tp):Prop:=∀v∈t.vals,v.s.size<=9223372036854775807
def FW(r:Rel):Prop:=∀t∈r.tups,AB t
theorem td{ts:List Tp}(h:∀t∈ts,0<=t.prob):∀(l:List Nat) (q:Rat),0<=q->0<=l.foldl (fun q i=>q+gO ts i) q
 |[],q,hq=>hq
 |i::l,q,hq=>by
  rw[NH];refine td h l _ ?_;have:0<=gO ts i:=by
   unfold gO;cases a:ts[i]? with
   |none=>simp
   |some t=>exact h t (L9 a)
  grind
theorem yj{r:Rel}(h:bF r.sch none r.tups=0)(b:List Nat):(!je (dR r.tups b))=decide (bP (1-dR r.tups b)<0):=by
 have c:0<=dR r.tups b:=td (fun t a=>(gf (ek (fN h t a)).2.1).1) b 0 (by decide);unfold je;rw[decide_eq_true (by rw[<-Int.not_lt,kF,Rat.not_lt];exact c),OC,<-decide_not];exact decide_eq_decide.2 (by omega)
def bK(r:Rel)(t:Tp):Int:=
 if bm r≠0 then bm r else if bG r.sch t≠0 then bG r.sch t else if(gU t.vals r.tups 0).isSome then 8 else bm (bD r t)
def lL(r:Rel)(t:Tp):Tree:=.tup [if bK r t=0 then(bD r t).tree else qZ,.sc (.int .i64 (bK r t))]
theorem nN{r:Rel}(h:bm r=0):r.tups.length<=64:=by
 unfold bm at h;split at h
 ·cases h
 split at h
 ·cases h
 omega
theorem iM(r:Rel)(t:Tp):(lL r t).plain=true:=by unfold lL;split<;>rfl
theorem yk{r:Rel}{t:Tp}(e:FitR r)(b:FitT t)(c:t.vals.length<=65536)(i:r.tups.length<=64):FitR (bD r t)/\(FW r->AB t->FW (bD r t)):=by
 have d:∀x∈(bD r t).tups,x∈r.tups\/x=t:=fun x a=>by
  unfold bD at a;simp only[My,Ml]at a;rcases a with(h|h)|h
  ·exact .inl (MC h)
  ·exact .inr h
  exact .inl (M2 h)
 refine⟨⟨e.cols,?_,fun x a=>?_⟩,fun f g x a=>?_⟩
 ·unfold bD;simp only[Mc,Mf,MS,NL];omega
 ·rcases d x a with h|rfl
  ·exact e.tup x h
  exact⟨b,c⟩
 rcases d x a with h|rfl
 ·exact f x h
 exact g
theorem o7(r:Rel)(S:FitR r)(T:FW r):Ct 40 [r.tree] (iT (bm r)):=by
 refine Ct.of (n:=85) Tryz.func40 Z Z Z Z Z fun w0 G0=>?_
 refine ab<|aj 2 Z<|ab<|ab<|ae<|aa 2 Z<|af Z Z Z (ar Z (s0 r.sch) Z Z)<|af (t:=bT (!(fF r.sch))) Z Z Z (ef Z Z Zy)<|ag<|aH Z (fun G=>?_) (fun G=>?_)
 ·refine ab<|aj 1 Z<|aC<|⟨.inr Z,_,.cons Z .nil,ep (by unfold bm;rw[if_pos (by simpa using G)]),Z⟩
 have g:fF r.sch=true:=by simpa using G
 refine ax<|ab<|ab<|ae<|aa 2 Z<|af (t:=nI r.tups.length) Z Z Z (ah (bd Z aK Z) (by simp only[L8]))<|af (t:=bT (decide (64<r.tups.length))) Z Z Z (ah (ai Z Z Z Zy) (av (tE r.tups.length 64)))<|ag<|aF Z (fun d=>?_) (fun d=>?_)
 ·refine ab<|aj 1 Z<|aC<|⟨.inr Z,_,.cons Z .nil,ep (by unfold bm;rw[if_neg (by rw[g];simp),if_pos d]),Z⟩
 refine ax<|ab<|ab<|aj 1 Z<|aE<|aW (fun v w=>∃(i:Nat),(i<=r.tups.length/\bF r.sch (gp r.tups i) (r.tups.drop i)=bF r.sch none r.tups)/\v=r.tups.length-i/\w=⟨85,[(1,.box 0 0),(3,nI i)],[(30,(aT r))],[]⟩) 1 0 ⟨0,⟨by omega,Z⟩,Z,Z⟩ ⟨Z,Z,Z,.cons Z Z (.cons Z Z .nil),Z⟩ ?_;rintro v w ⟨i,⟨Y,a⟩,rfl,rfl⟩;refine ab<|ab<|ae<|aa 3 Z<|af (t:=nI r.tups.length) Z Z Z (ah (bd Z aK Z) (by simp only[L8]))<|af (t:=bT (decide (i<r.tups.length))) Z Z Z (ah (ai Z Z Z Zy) (av (iu i r.tups.length)))<|ag<|aF Z (fun I=>?_) (fun I=>?_)
 ·obtain⟨t,l⟩:∃t,r.tups[i]? =some t:=⟨_,L4 I⟩;have J:=S.tup t (L9 l);refine ax<|ab<|aE<|ab<|ab<|ci (fu:=9) [some 24,some 25,some 26,some 27,some 28,some 29,some 30,some 31,some 4] [.box 0 0,.agg (dq r.sch),.box 0 3,.sl (r.tups.map Tp.tree),nI i,.ref (bS t),.agg (bS t),iT (bG r.sch t),iT (bG r.sch t)] (by kernel_rfl) Z Z (by kernel_rfl) Z ?_ ?_
  ·refine Chain.op Z (az Z Z dZ Z)<|Chain.op Z (aJ Z Z Z eR Z Z)<|Chain.op Z (az Z Z aV Z)<|Chain.op Z (aD Z Z Z bp Z)<|Chain.op Z (aw Z Z)<|Chain.op Z (aQ (Tp.tree t) Z aK Z Z Z (bf (f:=Tp.tree) l) (bQ _) Z)<|Chain.op Z (cU Z Z ez Z Z)<|Chain.op Z (ar Z (uO r.sch t J.1.p (T t (L9 l))) Z Z)<|Chain.op Z (bW Z Z)<|Chain.nil
  refine ab<|ae<|aa 1 Z<|af (t:=bT ((bG r.sch t) !=0)) Z Z Z (ai Z Z Z Zy)<|ag<|aH Z (fun C=>?_) (fun C=>?_)
  ·have L:bG r.sch t≠0:=by simpa using C
   refine ab<|aj 2 Z<|aC<|⟨.inr Z,_,.cons Z .nil,ep (by unfold bm;rw[if_neg (by rw[g];simp),if_neg d,<-a,qj l L,if_pos L]),Z⟩
  have N:bG r.sch t=0:=by simpa using C
  refine ax<|ab<|ab<|ae<|aa 1 Z<|af (t:=bT (decide (i=0))) Z Z Z (ah (ai Z Z Z Zy) (av (lY i 0)))<|ag<|aF Z (fun B=>?_) (fun B=>?_)
  ·rw[oQ l N B]at a;refine aZ<|ae<|aa 1 Z<|af (t:=nI (i+1)) Z Z Z (ah (ai Z Z Z Zy) (bu (by omega)))<|aa 1 Z<|ag<|⟨_,_,?_,⟨i+1,?_,Z,Z⟩,⟨Z,Z,Z,.cons Z Z (.cons Z Z .nil),Z⟩⟩
   ·omega
   exact⟨by omega,a⟩
  obtain⟨p,A⟩:∃p,r.tups[i-1]? =some p:=⟨_,L4 (by omega)⟩;have U:=S.tup p (L9 A);rw[qk l N B A]at a;refine ax<|ab<|ci (fu:=15) [some 37,some 38,some 39,some 40,some 41,some 42,some 43,some 44,some 45,some 46,some 47,some 48,some 49,some 50,some 5] [.box 0 3,.sl (r.tups.map Tp.tree),nI i,nI (i-1),.ref (bS p),.ref (bS p),.sl (p.vals.map V.tree),.box 0 3,.sl (r.tups.map Tp.tree),nI i,.ref (bS t),.ref (bS t),.sl (t.vals.map V.tree),iT (aO p.vals t.vals),iT (aO p.vals t.vals)] (by kernel_rfl) Z Z (by kernel_rfl) Z ?_ ?_
  ·refine Chain.op Z (az Z Z aV Z)<|Chain.op Z (aD Z Z Z bp Z)<|Chain.op Z (aw Z Z)<|Chain.op Z (ah (ai Z Z Z Zy) (bu (by omega)))<|Chain.op Z (aQ (Tp.tree p) Z aK Z Z Z (bf (f:=Tp.tree) A) (bQ _) Z)<|Chain.op Z (bw Z Z b6 Z)<|Chain.op Z (bE Z Z cC Z)<|Chain.op Z (az Z Z aV Z)<|Chain.op Z (aD Z Z Z bp Z)<|Chain.op Z (aw Z Z)<|Chain.op Z (aQ (Tp.tree t) Z aK Z Z Z (bf (f:=Tp.tree) l) (bQ _) Z)<|Chain.op Z (bw Z Z b6 Z)<|Chain.op Z (bE Z Z cC Z)<|Chain.op Z (ar Z (ly _ _ U.2 J.2) Z Z)<|Chain.op Z (bW Z Z)<|Chain.nil
  refine aE<|ab<|ae<|aa 1 Z<|af (t:=bT ((aO p.vals t.vals)==0)) Z Z Z (ai Z Z Z Zy)<|aa 1 Z<|ag<|aH Z (fun F=>?_) (fun F=>?_)
  ·refine ab<|aj 1 Z<|aC<|⟨.inr Z,_,.cons Z .nil,ep (by unfold bm;rw[if_neg (by rw[g];simp),if_neg d,<-a,if_pos (eq_of_beq F)];rfl),Z⟩
  have u:¬aO p.vals t.vals=0:=by simpa using F
  have a0:=nE p.vals t.vals;refine ab<|ae<|aa 1 Z<|af (t:=bT (decide ((aO p.vals t.vals)>0))) Z Z Z (ai Z Z Z Zy)<|aa 1 Z<|ag<|aF Z (fun W=>?_) (fun W=>?_)
  ·have P:aO p.vals t.vals=1:=by omega
   refine ab<|aj 1 Z<|aC<|⟨.inr Z,_,.cons Z .nil,ep (by unfold bm;rw[if_neg (by rw[g];simp),if_neg d,show bF r.sch none r.tups=1 from by rw[<-a,if_neg u,if_pos P]];rfl),Z⟩
  have K:¬aO p.vals t.vals=1:=by omega
  rw[if_neg u,if_neg K]at a;refine ax<|ae<|aa 1 Z<|af (t:=nI (i+1)) Z Z Z (ah (ai Z Z Z Zy) (bu (by omega)))<|aa 1 Z<|ag<|⟨_,_,?_,⟨i+1,?_,Z,Z⟩,⟨Z,Z,Z,.cons Z Z (.cons Z Z .nil),Z⟩⟩
  ·omega
  exact⟨by omega,a⟩
 have e:bF r.sch none r.tups=0:=by rw[<-a,Mg (by omega)];cases gp r.tups i<;>rfl
 refine aZ<|ab<|ae<|aa 1 Z<|af Z Z Z (ar Z (AA r S (xP e)) Z Z)<|aa 1 Z<|ag<|ab<|ab<|aj 1 Z<|aE<|aW (fun v w=>∃(j:Nat),(j<=(aP r).length/\∀(m:Nat) (b:List Nat),(aP r)[m]? =some b->m<j->¬16<b.length)/\v=(aP r).length-j/\w=⟨85,[(1,.box 0 0),(6,.sl ((aP r).map iQ)),(7,nI j)],[(30,(aT r))],[]⟩) 1 0 ⟨0,⟨by omega,fun m b _ h=>by omega⟩,Z,Z⟩ ⟨Z,Z,Z,.cons Z Z (.cons Z Z (.cons Z Z .nil)),Z⟩ ?_;rintro v w ⟨j,⟨hj,x⟩,rfl,rfl⟩;have a1:=sF r;refine ab<|ab<|ae<|aa 2 Z<|af (t:=nI ((aP r).length)) Z Z Z (ah (bd Z cf Z) (by simp only[L8]))<|af (t:=bT (decide (j<(aP r).length))) Z Z Z (ah (ai Z Z Z Zy) (av (iu j ((aP r).length))))<|ag<|aF Z (fun O=>?_) (fun O=>?_)
 ·obtain⟨b,E⟩:∃b,(aP r)[j]? =some b:=⟨_,L4 O⟩;refine ax<|ab<|aE<|ab<|ae<|aa 2 Z<|af (t:=.ref [.sl (b.map fw)]) Z Z Z (aQ (iQ b) Z cf Z Z Z (bf (f:=iQ) E) (lm _) Z)<|aa 1 Z<|af (t:=nI b.length) Z Z Z (ah (bd Z cz Z) (by simp only[L8]))<|af (t:=bT (decide (16<b.length))) Z Z Z (ah (ai Z Z Z Zy) (av (tE b.length 16)))<|ag<|aF Z (fun z=>?_) (fun z=>?_)
  ·refine ab<|aj 1 Z<|aC<|⟨.inr Z,_,.cons Z .nil,ep (by unfold bm;rw[if_neg (by rw[g];simp),if_neg d,if_neg (by rw[e];simp),if_pos (ut E z)]),Z⟩
  refine ax<|ae<|aa 1 Z<|af (t:=nI (j+1)) Z Z Z (ah (ai Z Z Z Zy) (bu (by omega)))<|aa 1 Z<|ag<|⟨_,_,?_,⟨j+1,?_,Z,Z⟩,⟨Z,Z,Z,.cons Z Z (.cons Z Z (.cons Z Z .nil)),Z⟩⟩
  ·omega
  refine⟨by omega,fun m b D h=>?_⟩;rcases MI m j with M|M
  ·exact x m b D M
  obtain rfl:m=j:=by omega
  rw[E]at D;cases D;exact z
 have q:nC (aP r)=false:=nD fun k b H=>x k b H (by have:=(L7.1 H).1;omega)
 refine aZ<|ab<|ab<|aj 1 Z<|aE<|aW (fun v w=>∃(k:Nat),(k<=(aP r).length/\∀(m:Nat) (b:List Nat),(aP r)[m]? =some b->m<k->¬bP (1-dR r.tups b)<0)/\v=(aP r).length-k/\w=⟨85,[(1,.box 0 0),(6,.sl ((aP r).map iQ)),(8,nI k)],[(30,(aT r))],[]⟩) 1 0 ⟨0,⟨by omega,fun m b _ h=>by omega⟩,Z,Z⟩ ⟨Z,Z,Z,.cons Z Z (.cons Z Z (.cons Z Z .nil)),Z⟩ ?_;rintro v w ⟨k,⟨H,R⟩,rfl,rfl⟩;refine ab<|ab<|ae<|aa 2 Z<|af (t:=nI ((aP r).length)) Z Z Z (ah (bd Z cf Z) (by simp only[L8]))<|af (t:=bT (decide (k<(aP r).length))) Z Z Z (ah (ai Z Z Z Zy) (av (iu k ((aP r).length))))<|ag<|aF Z (fun y=>?_) (fun y=>?_)
 ·obtain⟨b,o⟩:∃b,(aP r)[k]? =some b:=⟨_,L4 y⟩;have s:=uv r b (L9 o);have Q:b.length<=16:=by have:=N4.1 q b (L9 o);simpa using this
  have X:=mP e s.2 Q;refine ax<|ab<|aE<|ab<|ci (fu:=8) [some 77,some 78,some 79,some 80,some 81,some 82,some 83,some 84] [.agg (aT r),.sl ((aP r).map iQ),nI k,.ref [.sl (b.map fw)],.sl (b.map fw),.agg [bT (decide ((dR r.tups b).num<0)),aM ((dR r.tups b).num.natAbs),aM ((dR r.tups b).den)],bT (je (dR r.tups b)),bT (!(je (dR r.tups b)))] (by kernel_rfl) Z Z (by kernel_rfl) Z ?_ ?_
  ·refine Chain.op Z (aJ Z Z Z bq Z Z)<|Chain.op Z (aw Z Z)<|Chain.op Z (aw Z Z)<|Chain.op Z (aQ (iQ b) Z cf Z Z Z (bf (f:=iQ) o) (lm _) Z)<|Chain.op Z (bE Z Z lw Z)<|Chain.op Z (ar Z (H4 r b s.2 (by omega) (fun t ht=>(S.tup t ht).1.p) (fun j hj=>(mP e (fun i Y=>s.2 i (MC Y)) (by rw[Mf];omega)).1)) Z Z)<|Chain.op Z (ar Z (Cd _ X.1) Z Z)<|Chain.op Z (ef Z Z Zy)<|Chain.nil
  refine aH Z (fun c=>?_) (fun c=>?_)
  ·refine ab<|aj 1 Z<|aC<|⟨.inr Z,_,.cons Z .nil,ep (by unfold bm;rw[if_neg (by rw[g];simp),if_neg d,if_neg (by rw[e];simp),if_neg (by rw[q];simp),if_pos (sC o (by rw[yj e]at c;simpa using c))]),Z⟩
  refine ax<|ae<|aa 1 Z<|af (t:=nI (k+1)) Z Z Z (ah (ai Z Z Z Zy) (bu (by omega)))<|aa 1 Z<|ag<|⟨_,_,?_,⟨k+1,?_,Z,Z⟩,⟨Z,Z,Z,.cons Z Z (.cons Z Z (.cons Z Z .nil)),Z⟩⟩
  ·omega
  refine⟨by omega,fun m b D h=>?_⟩;rcases MI m k with M|M
  ·exact R m b D M
  obtain rfl:m=k:=by omega
  rw[o]at D;cases D;rw[yj e]at c;simpa using c
 refine aZ<|ab<|aj 1 Z<|aC<|⟨.inr Z,_,.cons Z .nil,ep (by unfold bm;rw[if_neg (by rw[g];simp),if_neg d,if_neg (by rw[e];simp),if_neg (by rw[q];simp),if_neg (by rw[md fun k b H=>R k b H (by have:=(L7.1 H).1;omega)];simp)]),Z⟩
theorem iq(r:Rel)(t:Tp)(E:FitR r)(F:FW r)(A:FitT t)(m:AB t)(v:t.vals.length<=65536):Ct 34 [r.tree,t.tree] (lL r t):=by
 refine Ct.of (n:=82) Tryz.func34 Z Z Z Z Z fun w0 G0=>?_
 refine ab<|aj 4 Z<|ab<|ab<|ae<|aa 1 Z<|af Z Z Z (ar Z (o7 r E F) Z Z)<|aa 1 Z<|ag<|ab<|ae<|aa 1 Z<|af (t:=bT ((bm r) !=0)) Z Z Z (ai Z Z Z Zy)<|ag<|aH Z (fun y=>?_) (fun y=>?_)
 ·have D:bm r≠0:=by simpa using y
  refine ab<|aj 4 Z<|aC<|⟨.inr Z,_,.cons ⟨_,_,_,_,Z,Z,.inl ⟨_,bq,Z,Z⟩⟩ (.cons Z .nil),by unfold lL;rw[show bK r t=bm r from by unfold bK;rw[if_pos D]];rw[if_neg D];rfl,iM r t⟩
 have z:bm r=0:=by simpa using y
 have T:=ml z;have G:=nN z;refine ax<|ab<|ab<|ae<|aa 3 Z<|af Z Z Z (ar Z (uO r.sch t A.p m) Z Z)<|aa 1 Z<|ag<|ab<|ae<|aa 1 Z<|af (t:=bT ((bG r.sch t) !=0)) Z Z Z (ai Z Z Z Zy)<|ag<|aH Z (fun w=>?_) (fun w=>?_)
 ·have H:bG r.sch t≠0:=by simpa using w
  refine ab<|aj 4 Z<|aC<|⟨.inr Z,_,.cons ⟨_,_,_,_,Z,Z,.inl ⟨_,bq,Z,Z⟩⟩ (.cons Z .nil),by unfold lL;rw[show bK r t=bG r.sch t from by unfold bK;rw[if_neg (by rw[z];simp),if_pos H]];rw[if_neg H];rfl,iM r t⟩
 have s:bG r.sch t=0:=by simpa using w
 refine ax<|ab<|ab<|ae<|aa 3 Z<|af Z Z Z (ar Z (FR r t.vals v E.tups (fun t S=>(E.tup t S).2)) Z Z)<|aa 5 Z<|ag<|ab<|aj 1 Z<|aH Z (fun o=>?_) (fun o=>?_)
 ·refine ab<|aj 3 Z<|aC<|⟨.inr Z,_,.cons ⟨_,_,_,_,Z,Z,.inl ⟨_,bq,Z,Z⟩⟩ (.cons Z .nil),by unfold lL;rw[show bK r t=8 from by unfold bK;rw[if_neg (by rw[z];simp),if_neg (by rw[s];simp),if_pos o]];rfl,iM r t⟩
 have B:=o;refine ax<|ab<|aj 1 Z<|ab<|aE<|aW (fun O P=>∃(i:Nat),(i<=r.tups.length/\(r.tups.drop i).takeWhile (fun x=>decide (aO x.vals t.vals<0))=(r.tups.takeWhile fun x=>decide (aO x.vals t.vals<0)).drop i/\i<=pN t.vals r.tups)/\O=r.tups.length-i/\P=⟨82,[(2,.box 0 0),(3,.box 1 0),(4,.box 2 0),(10,nI i)],[(30,(aT r)),(67,(bS t)),(30,dS)],[]⟩) 3 0 ⟨0,⟨by omega,Z,by omega⟩,Z,Z⟩ ⟨Z,Z,Z,.cons Z Z (.cons Z Z (.cons Z Z (.cons Z Z .nil))),Z⟩ ?_;rintro O P ⟨i,⟨U,g,N⟩,rfl,rfl⟩;refine ab<|ab<|ci (fu:=17) [some 36,some 37,some 38,some 39,some 40,some 41,some 42,some 43,some 44,some 45,some 46,some 47,some 48,some 49,some 50,some 51,some 52] [nI i,.box 0 3,.sl (r.tups.map Tp.tree),nI r.tups.length,bT (decide (i<r.tups.length)),bT (decide (i<r.tups.length)),if(decide (i<r.tups.length))=true then(.box 0 3:Tree)else .sc undef,if(decide (i<r.tups.length))=true then(.sl (r.tups.map Tp.tree):Tree)else .sc undef,if(decide (i<r.tups.length))=true then(nI i:Tree)else .sc undef,if(decide (i<r.tups.length))=true then(.ref [.sl ((((r.tups[i]?).getD gH).vals).map V.tree),bT (decide (((r.tups[i]?).getD gH).prob.num<0)),aM (((r.tups[i]?).getD gH).prob.num.natAbs),aM (((r.tups[i]?).getD gH).prob.den)]:Tree)else .sc undef,if(decide (i<r.tups.length))=true then(.ref [.sl ((((r.tups[i]?).getD gH).vals).map V.tree),bT (decide (((r.tups[i]?).getD gH).prob.num<0)),aM (((r.tups[i]?).getD gH).prob.num.natAbs),aM (((r.tups[i]?).getD gH).prob.den)]:Tree)else .sc undef,if(decide (i<r.tups.length))=true then(.sl ((((r.tups[i]?).getD gH).vals).map V.tree):Tree)else .sc undef,if(decide (i<r.tups.length))=true then(.box 1 0:Tree)else .sc undef,if(decide (i<r.tups.length))=true then(.sl (t.vals.map V.tree):Tree)else .sc undef,if(decide (i<r.tups.length))=true then(iT (aO ((r.tups[i]?).getD gH).vals t.vals):Tree)else .sc undef,if(decide (i<r.tups.length))=true then(bT (decide ((aO ((r.tups[i]?).getD gH).vals t.vals)<0)):Tree)else .sc undef,bT ((decide (i<r.tups.length))&&(decide ((aO ((r.tups[i]?).getD gH).vals t.vals)<0)))] (by kernel_rfl) Z Z (by kernel_rfl) Z ?_ ?_
 ·refine Chain.op Z (aw Z Z)<|Chain.op Z (az Z Z aV Z)<|Chain.op Z (aD Z Z Z bp Z)<|Chain.op Z (ah (bd Z aK Z) (by simp only[L8]))<|Chain.op Z (ah (ai Z Z Z Zy) (av (iu i r.tups.length)))<|Chain.op Z (aw Z Z)<|Chain.cnd (t:=.box 0 3) 5 true 41 ((decide (i<r.tups.length))=true) Z (by kernel_rfl) au (fun a=>az Z Z aV Z)<|Chain.cnd (t:=.sl (r.tups.map Tp.tree)) 5 true 41 ((decide (i<r.tups.length))=true) Z (by kernel_rfl) au (fun a=>aD Z (if_pos a) Z bp Z)<|Chain.cnd (t:=nI i) 5 true 41 ((decide (i<r.tups.length))=true) Z (by kernel_rfl) au (fun a=>aw Z Z)<|Chain.cnd (t:=.ref [.sl ((((r.tups[i]?).getD gH).vals).map V.tree),bT (decide (((r.tups[i]?).getD gH).prob.num<0)),aM (((r.tups[i]?).getD gH).prob.num.natAbs),aM (((r.tups[i]?).getD gH).prob.den)]) 5 true 41 ((decide (i<r.tups.length))=true) Z (by kernel_rfl) au (fun a=>aQ (Tp.tree ((r.tups[i]?).getD gH)) Z aK (if_pos a) (if_pos a) Z (bf (f:=Tp.tree) (kL (of_decide_eq_true a))) (bQ _) Z)<|Chain.cnd (t:=.ref [.sl ((((r.tups[i]?).getD gH).vals).map V.tree),bT (decide (((r.tups[i]?).getD gH).prob.num<0)),aM (((r.tups[i]?).getD gH).prob.num.natAbs),aM (((r.tups[i]?).getD gH).prob.den)]) 5 true 41 ((decide (i<r.tups.length))=true) Z (by kernel_rfl) au (fun a=>bw Z (if_pos a) b6 Z)<|Chain.cnd (t:=.sl ((((r.tups[i]?).getD gH).vals).map V.tree)) 5 true 41 ((decide (i<r.tups.length))=true) Z (by kernel_rfl) au (fun a=>bE Z (if_pos a) cC Z)<|Chain.cnd (t:=.box 1 0) 5 true 41 ((decide (i<r.tups.length))=true) Z (by kernel_rfl) au (fun a=>az Z Z b6 Z)<|Chain.cnd (t:=.sl (t.vals.map V.tree)) 5 true 41 ((decide (i<r.tups.length))=true) Z (by kernel_rfl) au (fun a=>aD Z (if_pos a) Z cC Z)<|Chain.cnd (t:=iT (aO ((r.tups[i]?).getD gH).vals t.vals)) 5 true 41 ((decide (i<r.tups.length))=true) Z (by kernel_rfl) au (fun a=>ar Z (ly _ _ (B8 E i) v) (eU (if_pos a) (eU (if_pos a) Z)) Z)<|Chain.cnd (t:=bT (decide ((aO ((r.tups[i]?).getD gH).vals t.vals)<0))) 5 true 41 ((decide (i<r.tups.length))=true) Z (by kernel_rfl) au (fun a=>ai Z (if_pos a) Z (fun _=>rfl))<|Chain.op Z (aL Z Z (fun K=>(if_pos K).trans (av (by rw[K];rfl))) (fun K=>(av (by rw[K];rfl))))<|Chain.nil
 refine aH Z (fun c=>?_) (fun c=>?_)
 ·rw[Ma]at c;have I:=of_decide_eq_true c.1;have C:=of_decide_eq_true c.2;refine ax<|aE<|ae<|aa 1 Z<|af (t:=nI (i+1)) Z Z Z (ah (ai Z Z Z Zy) (bu (by omega)))<|aa 1 Z<|ag<|⟨_,_,?_,⟨i+1,?_,Z,Z⟩,⟨Z,Z,Z,.cons Z Z (.cons Z Z (.cons Z Z (.cons Z Z .nil))),Z⟩⟩
  ·omega
  exact⟨by omega,uH (kL (d:=gH) I) C g,Ca (kL (d:=gH) I) C g⟩
 have b:=x7 g N c;have j:=yk E A v G;unfold bD at j;rw[<-b]at j;have q:=j.1;have M:=j.2 F m;refine aZ<|ab<|ae<|aa 2 Z<|af (t:=.agg [sT r.sch.name,bT r.sch.cert,.sl (r.sch.cols.map Col.tree),.sc (.slice none 0 0)]) Z Z Z (pr Z ik Z Z Z)<|aa 2 Z<|ag<|ab<|mD 3 3 67 4 (bs':=[(30,(aT r)),(67,(bS t)),(30,dS),(30,[sT r.sch.name,bT r.sch.cert,.sl (r.sch.cols.map Col.tree),.own 0])]) (rs':=[some ⟨67,4,[],false⟩]) Z Z Z Z<|iw (sl':=[(2,.box 0 0),(3,.box 1 0),(4,.box 2 0),(10,nI i),(52,bT ((decide (i<r.tups.length))&&(decide ((aO ((r.tups[i]?).getD gH).vals t.vals)<0)))),(11,.box 3 0)]) ⟨Z,⟨Z,⟨Z,⟨Z,⟨Z,⟨Z,trivial⟩⟩⟩⟩⟩⟩<|fz (fu:=5) [some 58,some 59,some 60,some 61,some 62,some 63,some 64,some 65,some 66,some 67,some 68,some 69,some 70,some 71,some 72,some 73,none] [6,9,14,16] [.box 3 3,.own 0,.box 0 3,.sl (r.tups.map Tp.tree),nI i,.sl ((r.tups.take i).map Tp.tree),.own 0,.agg (bS t),.sl [.agg (bS t)],.own 0,.box 0 3,.sl (r.tups.map Tp.tree),nI i,.sl ((r.tups.drop i).map Tp.tree),.own 0,.box 3 3,.any] [⟨[6],[(2,.box 0 0),(3,.box 1 0),(4,.box 2 0),(10,nI i),(52,bT ((decide (i<r.tups.length))&&(decide ((aO ((r.tups[i]?).getD gH).vals t.vals)<0)))),(11,.box 3 0)],[(30,(aT r)),(67,(bS t)),(30,dS),(30,[sT r.sch.name,bT r.sch.cert,.sl (r.sch.cols.map Col.tree),.any])],[some ⟨67,4,(r.tups.take i).map Tp.tree,false⟩],[.box 3 3,.any,.box 0 3,.sl (r.tups.map Tp.tree),nI i,.sl ((r.tups.take i).map Tp.tree),.own 0,.agg (bS t),.sl [.agg (bS t)],.own 0,.box 0 3,.sl (r.tups.map Tp.tree),nI i,.sl ((r.tups.drop i).map Tp.tree),.own 0,.box 3 3,.any]⟩,⟨[9,6],[(2,.box 0 0),(3,.box 1 0),(4,.box 2 0),(10,nI i),(52,bT ((decide (i<r.tups.length))&&(decide ((aO ((r.tups[i]?).getD gH).vals t.vals)<0)))),(11,.box 3 0)],[(30,(aT r)),(67,(bS t)),(30,dS),(30,[sT r.sch.name,bT r.sch.cert,.sl (r.sch.cols.map Col.tree),.any])],[some ⟨67,4,(r.tups.take i++[t]).map Tp.tree,false⟩],[.box 3 3,.any,.box 0 3,.sl (r.tups.map Tp.tree),nI i,.sl ((r.tups.take i).map Tp.tree),.any,.agg (bS t),.sl [.agg (bS t)],.own 0,.box 0 3,.sl (r.tups.map Tp.tree),nI i,.sl ((r.tups.drop i).map Tp.tree),.own 0,.box 3 3,.any]⟩,⟨[14,9,6],[(2,.box 0 0),(3,.box 1 0),(4,.box 2 0),(10,nI i),(52,bT ((decide (i<r.tups.length))&&(decide ((aO ((r.tups[i]?).getD gH).vals t.vals)<0)))),(11,.box 3 0)],[(30,(aT r)),(67,(bS t)),(30,dS),(30,[sT r.sch.name,bT r.sch.cert,.sl (r.sch.cols.map Col.tree),.any])],[some ⟨67,4,(r.tups.take i++[t]++r.tups.drop i).map Tp.tree,false⟩],[.box 3 3,.any,.box 0 3,.sl (r.tups.map Tp.tree),nI i,.sl ((r.tups.take i).map Tp.tree),.any,.agg (bS t),.sl [.agg (bS t)],.any,.box 0 3,.sl (r.tups.map Tp.tree),nI i,.sl ((r.tups.drop i).map Tp.tree),.own 0,.box 3 3,.any]⟩] ⟨[16,14,9,6],[(2,.box 0 0),(3,.box 1 0),(4,.box 2 0),(10,nI i),(52,bT ((decide (i<r.tups.length))&&(decide ((aO ((r.tups[i]?).getD gH).vals t.vals)<0)))),(11,.box 3 0)],[(30,(aT r)),(67,(bS t)),(30,dS),(30,[sT r.sch.name,bT r.sch.cert,.sl (r.sch.cols.map Col.tree),.own 0])],[some ⟨67,4,(r.tups.take i++[t]++r.tups.drop i).map Tp.tree,false⟩],[.box 3 3,.any,.box 0 3,.sl (r.tups.map Tp.tree),nI i,.sl ((r.tups.take i).map Tp.tree),.any,.agg (bS t),.sl [.agg (bS t)],.any,.box 0 3,.sl (r.tups.map Tp.tree),nI i,.sl ((r.tups.drop i).map Tp.tree),.own 0,.box 3 3,.any]⟩ (by kernel_rfl) Z (by kernel_rfl) (by kernel_rfl) (by kernel_rfl) Z Z ?_ ?_
 ·refine .op [] (by kernel_rfl) ?_ ?_
  ·refine .ok (t:=.box 3 3) (by kernel_rfl) Z Z (az Z Z aV Z)<|.no (by kernel_rfl)<|.no (by kernel_rfl)<|.no (by kernel_rfl)<|.no (by kernel_rfl)<|.nil
  refine .op [0] (by kernel_rfl) ?_ ?_
  ·refine .ok (t:=.own 0) (by kernel_rfl) Z Z (aD Z Z Z bp Z)<|.no (by kernel_rfl)<|.no (by kernel_rfl)<|.no (by kernel_rfl)<|.no (by kernel_rfl)<|.nil
  refine .op [] (by kernel_rfl) ?_ ?_
  ·refine .ok (t:=.box 0 3) (by kernel_rfl) Z Z (az Z Z aV Z)<|.no (by kernel_rfl)<|.no (by kernel_rfl)<|.no (by kernel_rfl)<|.no (by kernel_rfl)<|.nil
  refine .op [2] (by kernel_rfl) ?_ ?_
  ·refine .ok (t:=.sl (r.tups.map Tp.tree)) (by kernel_rfl) Z Z (aD Z Z Z bp Z)<|.no (by kernel_rfl)<|.no (by kernel_rfl)<|.no (by kernel_rfl)<|.no (by kernel_rfl)<|.nil
  refine .op [] (by kernel_rfl) ?_ ?_
  ·refine .ok (t:=nI i) (by kernel_rfl) Z Z (aw Z Z)<|.no (by kernel_rfl)<|.no (by kernel_rfl)<|.no (by kernel_rfl)<|.no (by kernel_rfl)<|.nil
  refine .op [3,4] (by kernel_rfl) ?_ ?_
  ·refine .ok (t:=.sl ((r.tups.take i).map Tp.tree)) (by kernel_rfl) Z Z (ah (iG (l:=0) (h:=i) Z aK Z Z ⟨_,Z⟩ (by first|omega|(simp only[L8];omega)) (by first|omega|(simp only[L8];omega)) (bQ _)) (by simp only[OB,Nx]))<|.no (by kernel_rfl)<|.no (by kernel_rfl)<|.no (by kernel_rfl)<|.no (by kernel_rfl)<|.nil
  refine .op [1,5] (by kernel_rfl) ?_ ?_
  ·refine .wr 1 (lI 0) (.own 0) (by kernel_rfl) Z Z (kj Z Z Z ij Z Z Z Z (bQ _) (AllC.map _ _ fun _=>rfl) (AllC.map _ _ fun _=>rfl) (by simp only[L8,Mf,Mo];omega) Z Z Z) Z Z Z Z (.k Z (.k Z (.k Z (.k Z (.k Z (.k Z (.i Z (.k Z (.k Z (.d (by kernel_rfl) (.k Z (.k Z (.k Z (.k Z (.d (by kernel_rfl) (.k Z (.k Z .nil)))))))))))))))))<|.no (by kernel_rfl)<|.no (by kernel_rfl)<|.no (by kernel_rfl)<|.no (by kernel_rfl)<|.nil
  refine .op [] (by kernel_rfl) ?_ ?_
  ·refine .ok (t:=.agg (bS t)) (by kernel_rfl) Z Z (aJ Z Z Z ez Z Z)<|.ok (t:=.agg (bS t)) (by kernel_rfl) Z Z (aJ Z Z Z ez Z Z)<|.no (by kernel_rfl)<|.no (by kernel_rfl)<|.no (by kernel_rfl)<|.nil
  refine .op [7] (by kernel_rfl) ?_ ?_
  ·refine .ok (t:=.sl [.agg (bS t)]) (by kernel_rfl) Z Z (a6 Z aK go Z (by decide) (by decide) Z Z Z Z Z)<|.ok (t:=.sl [.agg (bS t)]) (by kernel_rfl) Z Z (a6 Z aK go Z (by decide) (by decide) Z Z Z Z Z)<|.no (by kernel_rfl)<|.no (by kernel_rfl)<|.no (by kernel_rfl)<|.nil
  refine .op [6,8] (by kernel_rfl) ?_ ?_
  ·refine .no (by kernel_rfl)<|.wr 2 (lI 0) (.own 0) (by kernel_rfl) rfl rfl (kj rfl rfl rfl ij rfl rfl rfl rfl (by intro e Q;simp only[Mi,Nr,or_false]at Q;subst Q;rfl) (AllC.lit rfl) (AllC.lit rfl) (by simp only[L8,Mf,Mb,Mo];omega) rfl rfl (by rw[Nk];rfl)) rfl rfl rfl rfl (.k rfl (.k rfl (.k rfl (.k rfl (.k rfl (.k rfl (.k rfl (.k rfl (.k rfl (.i rfl (.k rfl (.k rfl (.k rfl (.k rfl (.d (by kernel_rfl) (.k rfl (.k rfl .nil)))))))))))))))))<|.no (by kernel_rfl)<|.no (by kernel_rfl)<|.no (by kernel_rfl)<|.nil
  refine .op [] (by kernel_rfl) ?_ ?_
  ·refine .ok (t:=.box 0 3) (by kernel_rfl) Z Z (az Z Z aV Z)<|.ok (t:=.box 0 3) (by kernel_rfl) Z Z (az Z Z aV Z)<|.ok (t:=.box 0 3) (by kernel_rfl) Z Z (az Z Z aV Z)<|.no (by kernel_rfl)<|.no (by kernel_rfl)<|.nil
  refine .op [10] (by kernel_rfl) ?_ ?_
  ·refine .ok (t:=.sl (r.tups.map Tp.tree)) (by kernel_rfl) Z Z (aD Z Z Z bp Z)<|.ok (t:=.sl (r.tups.map Tp.tree)) (by kernel_rfl) Z Z (aD Z Z Z bp Z)<|.ok (t:=.sl (r.tups.map Tp.tree)) (by kernel_rfl) Z Z (aD Z Z Z bp Z)<|.no (by kernel_rfl)<|.no (by kernel_rfl)<|.nil
  refine .op [] (by kernel_rfl) ?_ ?_
  ·refine .ok (t:=nI i) (by kernel_rfl) Z Z (aw Z Z)<|.ok (t:=nI i) (by kernel_rfl) Z Z (aw Z Z)<|.ok (t:=nI i) (by kernel_rfl) Z Z (aw Z Z)<|.no (by kernel_rfl)<|.no (by kernel_rfl)<|.nil
  refine .op [11,12] (by kernel_rfl) ?_ ?_
  ·refine .ok (t:=.sl ((r.tups.drop i).map Tp.tree)) (by kernel_rfl) Z Z (ah (iG (l:=i) (h:=(r.tups.map Tp.tree).length) Z aK Z ⟨_,Z⟩ Z (by first|omega|(simp only[L8];omega)) (by first|omega|(simp only[L8];omega)) (bQ _)) (by simp only[OL,M9]))<|.ok (t:=.sl ((r.tups.drop i).map Tp.tree)) (by kernel_rfl) Z Z (ah (iG (l:=i) (h:=(r.tups.map Tp.tree).length) Z aK Z ⟨_,Z⟩ Z (by first|omega|(simp only[L8];omega)) (by first|omega|(simp only[L8];omega)) (bQ _)) (by simp only[OL,M9]))<|.ok (t:=.sl ((r.tups.drop i).map Tp.tree)) (by kernel_rfl) Z Z (ah (iG (l:=i) (h:=(r.tups.map Tp.tree).length) Z aK Z ⟨_,Z⟩ Z (by first|omega|(simp only[L8];omega)) (by first|omega|(simp only[L8];omega)) (bQ _)) (by simp only[OL,M9]))<|.no (by kernel_rfl)<|.no (by kernel_rfl)<|.nil
  refine .op [9,13] (by kernel_rfl) ?_ ?_
  ·refine .no (by kernel_rfl)<|.no (by kernel_rfl)<|.wr 3 (lI 0) (.own 0) (by kernel_rfl) Z Z (kj Z Z Z ij Z Z Z Z (bQ _) (AllC.map _ _ fun _=>rfl) (AllC.map _ _ fun _=>rfl) (by simp only[L8,Mc,Mf,MS,Mb,Mo];omega) Z Z (by rw[Nk (l₁:=r.tups.take i++[t])];rfl)) Z Z Z Z (.k Z (.k Z (.k Z (.k Z (.k Z (.k Z (.k Z (.k Z (.k Z (.k Z (.k Z (.k Z (.k Z (.k Z (.i Z (.k Z (.k Z .nil)))))))))))))))))<|.no (by kernel_rfl)<|.no (by kernel_rfl)<|.nil
  refine .op [] (by kernel_rfl) ?_ ?_
  ·refine .no (by kernel_rfl)<|.no (by kernel_rfl)<|.no (by kernel_rfl)<|.ok (t:=.box 3 3) (by kernel_rfl) Z Z (az Z Z aV Z)<|.no (by kernel_rfl)<|.nil
  refine .op [14,15] (by kernel_rfl) ?_ ?_
  ·refine .no (by kernel_rfl)<|.no (by kernel_rfl)<|.no (by kernel_rfl)<|.wr 4 id .any (by kernel_rfl) Z Z (gJ Z Z Z Z Z Z Z Z nJ Z Z Z) Z Z Z Z (.k Z (.k Z (.k Z (.k Z (.k Z (.k Z (.k Z (.k Z (.k Z (.k Z (.k Z (.k Z (.k Z (.k Z (.k Z (.k Z (.i Z .nil)))))))))))))))))<|.no (by kernel_rfl)<|.nil
  exact .nil
 refine ab<|ab<|fD 0 (bs':=[(30,(aT r)),(67,(bS t)),(30,dS),(30,[sT r.sch.name,bT r.sch.cert,.sl (r.sch.cols.map Col.tree),.sl ((r.tups.take i++[t]++r.tups.drop i).map Tp.tree)])]) (rs':=[none]) Z Z Z Z<|ae<|aa 1 Z<|af Z Z Z (ar Z (o7 ⟨r.sch,r.tups.take i++[t]++r.tups.drop i⟩ q M) Z Z)<|aa 1 Z<|ag<|ab<|ae<|aa 1 Z<|af (t:=bT ((bm ⟨r.sch,r.tups.take i++[t]++r.tups.drop i⟩) !=0)) Z Z Z (ai Z Z Z Zy)<|ag<|aH Z (fun u=>?_) (fun u=>?_)
 ·have J:bm ⟨r.sch,r.tups.take i++[t]++r.tups.drop i⟩≠0:=by simpa using u
  refine ab<|aj 4 Z<|aC<|⟨.inr Z,_,.cons ⟨_,_,_,_,Z,Z,.inl ⟨_,bq,Z,Z⟩⟩ (.cons Z .nil),by unfold lL;rw[show bK r t=bm ⟨r.sch,r.tups.take i++[t]++r.tups.drop i⟩from by unfold bK;rw[if_neg (by rw[z];simp),if_neg (by rw[s];simp),if_neg (by rw[B];simp)];unfold bD;rw[<-b],if_neg J];rfl,iM r t⟩
 have L:bm ⟨r.sch,r.tups.take i++[t]++r.tups.drop i⟩=0:=by simpa using u
 refine ax<|ab<|ae<|aa 1 Z<|af Z Z Z (ar Z (qr ⟨r.sch,r.tups.take i++[t]++r.tups.drop i⟩ q.tups (fun x R=>ff _ (((q.tup x R).1.p).mono (by decide)))) Z Z)<|aa 2 Z<|ag<|aC<|⟨.inr Z,_,.cons ⟨_,_,_,_,Z,Z,.inl ⟨_,bq,Z,Z⟩⟩ (.cons Z .nil),by unfold lL;rw[show bK r t=0 from by unfold bK;rw[if_neg (by rw[z];simp),if_neg (by rw[s];simp),if_neg (by rw[B];simp)];unfold bD;rw[<-b];exact L,if_pos Z];unfold bD;rw[<-b];rfl,iM r t⟩
theorem Dz{r:Rel}(h:bF r.sch none r.tups=0)(i:Nat):gO r.tups i<=1:=by
 unfold gO;cases a:r.tups[i]? with
 |none=>simp;decide
 |some t=>
  have:=(gf (ek (fN h t (L9 a))).2.1).2;show t.prob<=1
  grind
theorem nk{r:Rel}(h:bF r.sch none r.tups=0)(d:∀t∈r.tups,aG r.sch t.vals=[]):nC (aP r)=false/\kG r.tups (aP r)=false:=by
 have a:∀b∈aP r,∃i,b=[i]:=fun b a=>by
  unfold aP at a;split at a
  ·cases a
  rw[lJ r.tups ([],[]) 0 d]at a;simp only[M6,Ny]at a;obtain⟨i,_,rfl⟩:=a;exact⟨i,Z⟩
 refine⟨nD fun j b c=>?_,md fun j b c=>?_⟩
 ·obtain⟨i,rfl⟩:=a b (L9 c);simp
 obtain⟨i,rfl⟩:=a b (L9 c);rw[kF];have:=Dz h i;simp only[dR,NH,Pc]
 grind
theorem qv{r:Rel}(i:r.sch.cert=false)(l:∀t∈r.tups,aG r.sch t.vals≠ []):(nC (aP r)=false↔∀t∈r.tups,ii r.sch (aG r.sch t.vals) r.tups<=16)/\(kG r.tups (aP r)=false↔∀t∈r.tups,i7 r.sch (aG r.sch t.vals) r.tups<=1):=by
 obtain⟨g,j,c,a⟩:=vZ i l;rw[j];unfold nC kG;rw[N4,N4];constructor
 ·constructor
  ·intro h t d;have:=h _ (Ny.2 ⟨_,c t d,Z⟩);rw[iD]at this;simpa using this
  intro h b f;obtain⟨k,e,rfl⟩:=Ny.1 f;obtain⟨t,d,rfl⟩:=a k e;rw[iD];simpa using h t d
 constructor
 ·intro h t d;have:=h _ (Ny.2 ⟨_,c t d,Z⟩);rw[nG,decide_eq_true_eq,kF]at this
  grind
 intro h b f;obtain⟨k,e,rfl⟩:=Ny.1 f;obtain⟨t,d,rfl⟩:=a k e;have:=h t d;rw[nG,decide_eq_true_eq,kF]
 grind
theorem ir{s:Sch}{t:Tp}(h:bG s t=0):aG s t.vals=[]↔dL s.cols=false:=by
 have a:=(ek h).1;unfold aG;rw[if_pos a,nM a]
theorem qw{cert:Bool}(d:cert=true):∀{l a:List Col},gN cert a l=false->dL l=false
 |[],_,_=>rfl
 |c::l,a,h=>by
  rw[gN,Mz,Mz]at h;have b:=h.1.1;unfold nw at b;rw[Mz]at b;have e:=qw d h.2;have f:=b.2;rw[d,OC]at f;unfold dL at e⊢;rw[Pm,f,e];rfl
theorem te{s:Sch}(h:fF s=true)(a:s.cert=true):dL s.cols=false:=by
 unfold fF at h;rw[Nj,Mz]at h;rw[a]at h;exact qw Z h.2
def FX(r:Rel):Prop:=dL r.sch.cols=false\/∀t∈r.tups,ii r.sch (aG r.sch t.vals) r.tups<=16/\i7 r.sch (aG r.sch t.vals) r.tups<=1
theorem H5{r:Rel}(f:fF r.sch=true)(h:bF r.sch none r.tups=0):(nC (aP r)=false/\kG r.tups (aP r)=false)↔FX r:=by
 have c:=fN h;cases b:dL r.sch.cols
 ·have:=nk h fun t a=>(ir (c t a)).2 b
  exact⟨fun _=>.inl b,fun _=>this⟩
 have d:r.sch.cert=false:=by
  cases d:r.sch.cert
  ·rfl
  rw[te f d]at b;cases b
 have:=qv d fun t a e=>by rw[ir (c t a),b]at e;cases e
 rw[this.1,this.2];unfold FX;rw[b];simp only[Bool.true_eq_false,false_or];exact⟨fun h t a=>⟨h.1 t a,h.2 t a⟩,fun h=>⟨fun t a=>(h t a).1,fun t a=>(h t a).2⟩⟩
theorem o8{s:Sch}:∀(ts:List Tp) (p:List V),bF s (some p) ts=0↔(∀t∈ts,bG s t=0/\aO p t.vals<0)/\ts.Pairwise fun a b=>aO a.vals b.vals<0
 |[],p=>by simp[bF]
 |t::ts,p=>by
  have l:=o8 (s:=s) ts t.vals;rw[bF];by_cases g:bG s t=0
  ·rw[if_neg (c:=bG s t≠0) (by omega)];have n:=nE p t.vals;by_cases j:aO p t.vals=0
   ·rw[if_pos j];constructor
    ·intro h;cases h
    intro h;have:=(h.1 t (Mr ..)).2;omega
   rw[if_neg j];by_cases k:aO p t.vals=1
   ·rw[if_pos k];constructor
    ·intro h;cases h
    intro h;have:=(h.1 t (Mr ..)).2;omega
   have e:aO p t.vals<0:=by omega
   rw[if_neg k,l,Oc];constructor
   ·rintro⟨f,i⟩;refine⟨fun x d=>?_,fun x d=>(f x d).2,i⟩;rcases Mi.1 d with rfl|d
    ·exact⟨g,e⟩
    exact⟨(f x d).1,iC e (f x d).2⟩
   rintro⟨f,i,m⟩;exact⟨fun x d=>⟨(f x (MB _ d)).1,i x d⟩,m⟩
  rw[if_pos g];constructor
  ·intro h;exact absurd h g
  intro h;exact absurd (h.1 t (Mr ..)).1 g
theorem fQ{s:Sch}(ts:List Tp):bF s none ts=0↔(∀t∈ts,bG s t=0)/\ts.Pairwise fun a b=>aO a.vals b.vals<0:=by
 cases ts with
 |nil=>simp[bF]
 |cons t ts=>
  rw[bF,Oc];by_cases e:bG s t=0
  ·rw[if_neg (c:=bG s t≠0) (by omega),o8];constructor
   ·rintro⟨f,g⟩;refine⟨fun x d=>?_,fun x d=>(f x d).2,g⟩;rcases Mi.1 d with rfl|d
    ·exact e
    exact(f x d).1
   rintro⟨f,g,i⟩;exact⟨fun x d=>⟨f x (MB _ d),g x d⟩,i⟩
  rw[if_pos e];constructor
  ·intro h;exact absurd h e
  intro h;exact absurd (h.1 t (Mr ..)) e
theorem gw{r:Rel}:bm r=0↔fF r.sch=true/\r.tups.length<=64/\bF r.sch none r.tups=0/\FX r:=by
 unfold bm;by_cases b:fF r.sch=true
 ·rw[if_neg (by rw[b];simp)];by_cases e:64<r.tups.length
  ·rw[if_pos e];constructor
   ·intro h;cases h
   intro h;omega
  rw[if_neg e];by_cases a:bF r.sch none r.tups=0
  ·rw[if_neg (c:=bF r.sch none r.tups≠0) (by omega)];have d:=H5 b a;cases f:nC (aP r)
   ·cases g:kG r.tups (aP r)
    ·simp only[N9,if_false,true_iff];exact⟨b,by omega,a,d.1 ⟨f,g⟩⟩
    simp only[N9,if_false,if_true];constructor
    ·intro h;cases h
    rintro⟨_,_,_,h⟩;have:=(d.2 h).2;rw[g]at this;cases this
   simp only[if_true];constructor
   ·intro h;cases h
   rintro⟨_,_,_,h⟩;have:=(d.2 h).1;rw[f]at this;cases this
  rw[if_pos a];exact⟨fun h=>absurd h a,fun h=>absurd h.2.2.1 a⟩
 rw[if_pos (by simpa using b)];constructor
 ·intro h;cases h
 intro h;exact absurd h.1 b
theorem FY{s:Sch}{k:List V}{us ts:List Tp}(h:us.Sublist ts):ii s k us<=ii s k ts:=by
 induction h with
 |slnil=>exact L5 _
 |cons a _ ih=>rw[ii];split<;>omega
 |cons_cons a _ ih=>rw[ii,ii];split<;>omega
theorem FZ{s:Sch}{k:List V}{us ts:List Tp}(h:us.Sublist ts):(∀t∈ts,0<=t.prob)->i7 s k us<=i7 s k ts:=by
 induction h with
 |slnil=>intro _;exact Rat.le_refl
 |cons a _ ih=>
  intro b;have d:=ih fun t c=>b t (MB _ c)
  have e:=b a (Mr ..);rw[i7];split<;>grind
 |cons_cons a _ ih=>
  intro b;have d:=ih fun t c=>b t (MB _ c)
  rw[i7,i7];split<;>grind
theorem mW{s:Sch}{us ts:List Tp}(h:bm ⟨s,ts⟩=0)(a:us.Sublist ts):bm ⟨s,us⟩=0:=by
 obtain⟨e,f,g,c⟩:=gw.1 h;simp only at e f g;have d:=(fQ ts).1 g;refine gw.2 ⟨e,L6 a.length_le f,(fQ us).2 ⟨fun t b=>d.1 t (a.subset b),d.2.sublist a⟩,?_⟩;rcases c with c|c
 ·exact .inl c
 refine .inr fun t b=>?_
 obtain⟨i,j⟩:=c t (a.subset b);refine⟨L6 (FY a) i,?_⟩;have:=FZ (s:=s) (k:=aG s t.vals) a fun t b=>(gf (ek (d.1 t b)).2.1).1
 simp only at j⊢
 grind
theorem tf{vs:List V}:∀{ts:List Tp} {i:Nat},(gU vs ts i).isSome=false->∀t∈ts,aO t.vals vs≠0
 |[],_,_,t,a=>by cases a
 |x::ts,i,h,t,a=>by
  rw[gU]at h;split at h
  ·cases h
  next hx=>
  rcases Mi.1 a with rfl|a
  ·exact hx
  exact tf h t a
theorem mm(r:Rel)(t:Tp):∃a b,r.tups=a++b/\(bD r t).tups=a++t::b/\(∀x∈a,aO x.vals t.vals<0)/\∀y c,b=y::c->¬aO y.vals t.vals<0:=by
 obtain⟨a,b,d,g,i,j⟩:=uC (fun x=>decide (aO x.vals t.vals<0)) r.tups;have h:pN t.vals r.tups=a.length:=by unfold pN;rw[g]
 refine⟨a,b,d,?_,fun x f=>of_decide_eq_true (i x f),fun y c e=>of_decide_eq_false (j y c e)⟩;unfold bD;rw[h,d];simp
theorem yl{r:Rel}{t:Tp}(h:bF r.sch none r.tups=0)(k:bG r.sch t=0)(o:(gU t.vals r.tups 0).isSome=false):bF (bD r t).sch none (bD r t).tups=0:=by
 obtain⟨a,b,l,n,p,q⟩:=mm r t;obtain⟨g,i⟩:=(fQ r.tups).1 h;have e:=tf o;show bF r.sch none _=0
 rw[n];rw[l]at g i e;have f:=Od.1 i;have m:∀y∈b,aO t.vals y.vals<0:=fun y d=>by
  cases b with
  |nil=>cases d
  |cons z b=>
   have j:aO t.vals z.vals<0:=BX (q z b Z) (e z (by simp));rcases Mi.1 d with rfl|d
   ·exact j
   exact iC j ((Oc.1 f.2.1).1 y d)
 refine(fQ _).2 ⟨fun x c=>?_,Od.2 ⟨f.1,Oc.2 ⟨m,f.2.1⟩,fun x c y d=>?_⟩⟩
 ·simp only[My,Mi]at c;rcases c with c|rfl|c
  ·exact g x (Om _ c)
  ·exact k
  exact g x (Pq _ c)
 rcases Mi.1 d with rfl|d
 ·exact p x c
 exact f.2.2 x c y d
theorem ym(r:Rel)(t:Tp)(k:List V):ii r.sch k (bD r t).tups=ii r.sch k r.tups+if aO (aG r.sch t.vals) k=0 then 1 else 0:=by
 obtain⟨a,b,d,c,_⟩:=mm r t;rw[c,d,sK,sK,ii];split<;>omega
theorem yn(r:Rel)(t:Tp)(k:List V):i7 r.sch k (bD r t).tups=i7 r.sch k r.tups+if aO (aG r.sch t.vals) k=0 then t.prob else 0:=by
 obtain⟨a,b,d,c,_⟩:=mm r t;rw[c,d,sL,sL,i7];split<;>grind
theorem mn{r:Rel}{t x:Tp}:x∈(bD r t).tups↔x∈r.tups\/x=t:=by
 obtain⟨a,b,d,c,_⟩:=mm r t;rw[c,d];simp only[My,Mi];constructor
 ·rintro(h|h|h)
  ·exact .inl (.inl h)
  ·exact .inr h
  exact .inl (.inr h)
 rintro((h|h)|h)
 ·exact .inl h
 ·exact .inr (.inr h)
 exact .inr (.inl h)
theorem F0(r:Rel)(t:Tp):(bD r t).tups.length=r.tups.length+1:=by
 obtain⟨a,b,d,c,_⟩:=mm r t;rw[c,d];simp;omega
theorem AC{r:Rel}(a:fF r.sch=true)(d:r.tups.length<=64)(b:bF r.sch none r.tups=0):bm r=if nC (aP r)=true then 4 else if kG r.tups (aP r)=true then 19 else 0:=by
 unfold bm;rw[if_neg (c:=fF r.sch=false) (by rw[a];simp),if_neg (c:=64<r.tups.length) (by omega),if_neg (c:=bF r.sch none r.tups≠0) (by omega)]
theorem AD{r:Rel}(a:fF r.sch=true)(b:64<r.tups.length):bm r=4:=by
 unfold bm;rw[if_neg (c:=fF r.sch=false) (by rw[a];simp),if_pos b]
theorem DA(r:Rel)(t:Tp):cJ r t=bK r t:=by
 unfold cJ bK;by_cases v:bm r=0
 ·rw[if_neg (c:=bm r≠0) (by omega),if_neg (c:=bm r≠0) (by omega)];by_cases f:bG r.sch t=0
  ·rw[if_neg (c:=bG r.sch t≠0) (by omega),if_neg (c:=bG r.sch t≠0) (by omega)];cases I:(gU t.vals r.tups 0).isSome
   ·simp only[N9,if_false];obtain⟨y,K,E,s⟩:=gw.1 v;have F:=yl E f I;have B:=F0 r t;have o:=(fQ r.tups).1 E;have J:=gf (ek f).2.1;have b:(bD r t).sch=r.sch:=rfl;by_cases w:64<=r.tups.length
    ·rw[AD (r:=bD r t) y (by omega),if_pos (c:=64<=r.tups.length\/16<=(eV r t.vals).length) (.inl w)]
    rw[AC (r:=bD r t) y (by omega) F];cases g:dL r.sch.cols
    ·have z:∀x∈(bD r t).tups,aG (bD r t).sch x.vals=[]:=fun x i=>by
      rcases mn.1 i with h|rfl
      ·exact(ir (o.1 x h)).2 g
      exact(ir f).2 g
     have m:=nk F z;have l:eV r t.vals=[]:=by unfold eV;rw[if_pos ((ir f).2 g)]
     have u:¬0<lO t.prob (1-dR r.tups []):=by
      rw[sB];simp only[dR,Pc]
      grind
     rw[m.1,m.2,l,if_neg (c:=64<=r.tups.length\/16<=([]:List Nat).length) (fun h=>h.elim w (by simp)),if_neg u,if_neg MR,if_neg MR]
    have j:r.sch.cert=false:=by
     cases f:r.sch.cert
     ·rfl
     rw[te y f]at g;cases g
    have n:aG r.sch t.vals≠ []:=fun e=>by rw[ir f,g]at e;cases e
    have A:∀x∈(bD r t).tups,aG (bD r t).sch x.vals≠ []:=fun x i e=>by
     rcases mn.1 i with h|rfl
     ·have e:aG r.sch x.vals=[]:=e;rw[ir (o.1 x h),g]at e;cases e
     exact n e
    have q:=qv (r:=bD r t) j A;have s:∀t∈r.tups,ii r.sch (aG r.sch t.vals) r.tups<=16/\i7 r.sch (aG r.sch t.vals) r.tups<=1:=by
     rcases s with h|h
     ·rw[g]at h;cases h
     exact h
    have l:eV r t.vals=bX r.sch (aG r.sch t.vals) r.tups 0:=by unfold eV;rw[if_neg n]
    rw[l,iD,nG];have p:t∈(bD r t).tups:=mn.2 (.inr Z);have C:=ym r t (aG r.sch t.vals);have D:=yn r t (aG r.sch t.vals);rw[if_pos (kI _)]at C D;have G:nC (aP (bD r t))=decide (16<=ii r.sch (aG r.sch t.vals) r.tups):=by
     by_cases k:16<=ii r.sch (aG r.sch t.vals) r.tups
     ·rw[decide_eq_true k];cases m:nC (aP (bD r t))
      ·have:=q.1.1 m t p;rw[b,C]at this;omega
      rfl
     rw[decide_eq_false k];refine q.1.2 fun x i=>?_
     rw[b,ym];rcases mn.1 i with h|rfl
     ·by_cases a:aO (aG r.sch t.vals) (aG r.sch x.vals)=0
      ·rw[if_pos a,<-(jZ _ _).1 a];omega
      rw[if_neg a];have:=(s x h).1;omega
     rw[if_pos (kI _)];omega
    have H:kG (bD r t).tups (aP (bD r t))=decide (0<lO t.prob (1-i7 r.sch (aG r.sch t.vals) r.tups)):=by
     by_cases k:0<lO t.prob (1-i7 r.sch (aG r.sch t.vals) r.tups)
     ·rw[decide_eq_true k];rw[sB]at k;cases m:kG (bD r t).tups (aP (bD r t))
      ·have:=q.2.1 m t p;rw[b,D]at this;grind
      rfl
     rw[decide_eq_false k];rw[sB]at k;refine q.2.2 fun x i=>?_
     rw[b,yn];rcases mn.1 i with h|rfl
     ·by_cases a:aO (aG r.sch t.vals) (aG r.sch x.vals)=0
      ·rw[if_pos a,<-(jZ _ _).1 a];grind
      rw[if_neg a];have:=(s x h).2;grind
     rw[if_pos (kI _)];grind
    rw[G,H];simp only[decide_eq_true_eq];by_cases d:16<=ii r.sch (aG r.sch t.vals) r.tups
    ·rw[if_pos (c:=64<=r.tups.length\/16<=ii r.sch (aG r.sch t.vals) r.tups) (.inr d),if_pos d]
    rw[if_neg (c:=64<=r.tups.length\/16<=ii r.sch (aG r.sch t.vals) r.tups) (fun h=>h.elim w d),if_neg d]
   simp only[if_true]
  rw[if_pos f,if_pos f]
 rw[if_pos v,if_pos v]
end Go.Proofs.YtfoejfohbkmmeaaGreatDoor
