import Derived.Test.YtfoejfohbkmmeaaGreatDoorU39
import Derived.Test.YtfoejfohbkmmeaaGreatDoorU08
import Derived.Test.YtfoejfohbkmmeaaGreatDoorU00
set_option maxRecDepth 100000
set_option maxHeartbeats 4000000
namespace Go.Proofs.YtfoejfohbkmmeaaGreatDoor
open Go.RowKit
open Lib renaming hid→J
def AB(t:Tp):Prop:=∀v∈t.vals,v.s.size<=9223372036854775807
def FW(r:Rel):Prop:=∀t∈r.tups,AB t
theorem td{ts:List Tp}(h:∀t∈ts,0<=t.prob):∀(l:List Nat) (q:Rat),0<=q->0<=l.foldl (fun q i=>q+gO ts i) q
 |[],q,hq=>hq
 |i::l,q,hq=>by
  rw[NH];refine td h l _ ?_;have:0<=gO ts i:=by
   unfold gO;cases a:ts[i]? with
   |none=>simp
   |some t=>exact h t (L9 a)
  grind
theorem yj{r:Rel}(h:bF r.sch none r.tups=0)(b:List Nat):(!je (dR r.tups b))=decide (bP (1-dR r.tups b)<0):=by
 have a:0<=dR r.tups b:=td (fun t c=>(gf (ek (fN h t c)).2.1).1) b 0 (by decide);unfold je;rw[decide_eq_true (by rw[<-Int.not_lt,kF,Rat.not_lt];exact a),OC,<-decide_not];exact decide_eq_decide.2 (by omega)
def bK(r:Rel)(t:Tp):Int:=
 if bm r≠0 then bm r else if bG r.sch t≠0 then bG r.sch t else if(gU t.vals r.tups 0).isSome then 8 else bm (bD r t)
def lL(r:Rel)(t:Tp):Tree:=.tup [if bK r t=0 then(bD r t).tree else qZ,.sc (.int .i64 (bK r t))]
theorem nN{r:Rel}(h:bm r=0):r.tups.length<=64:=by
 unfold bm at h;split at h
 ·cases h
 split at h
 ·cases h
 omega
theorem iM(r:Rel)(t:Tp):(lL r t).plain=true:=by unfold lL;split<;>rfl
theorem yk{r:Rel}{t:Tp}(e:FitR r)(b:FitT t)(c:t.vals.length<=65536)(i:r.tups.length<=64):FitR (bD r t)/\(FW r->AB t->FW (bD r t)):=by
 have d:∀x∈(bD r t).tups,x∈r.tups\/x=t:=fun x a=>by
  unfold bD at a;simp only[My,Ml]at a;rcases a with(h|h)|h
  ·exact .inl (MC h)
  ·exact .inr h
  exact .inl (M2 h)
 refine⟨⟨e.cols,?_,fun x a=>?_⟩,fun f g x a=>?_⟩
 ·unfold bD;simp only[Mc,Mf,MS,NL];omega
 ·rcases d x a with h|rfl
  ·exact e.tup x h
  exact⟨b,c⟩
 rcases d x a with h|rfl
 ·exact f x h
 exact g
theorem o7(r:Rel)(S:FitR r)(X:FW r):Ct 40 [r.tree] (iT (bm r)):=by
 refine Ct.of (n:=85) Tryz.func40 Z Z Z Z Z fun w0 G0=>?_
 refine ab<|aj 2 Z<|ab<|ab<|ae<|aa 2 Z<|af Z Z Z (ar Z (s0 r.sch) Z Z)<|af (t:=bT (!(fF r.sch))) Z Z Z (ef Z Z Zy)<|ag<|aH Z (fun A=>?_) (fun A=>?_)
 ·refine ab<|aj 1 Z<|aC<|⟨.inr Z,_,.cons Z .nil,ep (by unfold bm;rw[if_pos (by simpa using A)]),Z⟩
 have g:fF r.sch=true:=by simpa using A
 refine ax<|ab<|ab<|ae<|aa 2 Z<|af (t:=nI r.tups.length) Z Z Z (ah (bd Z aK Z) (by simp only[L8]))<|af (t:=bT (decide (64<r.tups.length))) Z Z Z (ah (ai Z Z Z Zy) (av (tE r.tups.length 64)))<|ag<|aF Z (fun d=>?_) (fun d=>?_)
 ·refine ab<|aj 1 Z<|aC<|⟨.inr Z,_,.cons Z .nil,ep (by unfold bm;rw[if_neg (by rw[g];simp),if_pos d]),Z⟩
 refine ax<|ab<|ab<|aj 1 Z<|aE<|aW (fun v y=>∃(i:Nat),(i<=r.tups.length/\bF r.sch (gp r.tups i) (r.tups.drop i)=bF r.sch none r.tups)/\v=r.tups.length-i/\y=⟨85,[(1,.box 0 0),(3,nI i)],[(30,(aT r))],[]⟩) 1 0 ⟨0,⟨by omega,Z⟩,Z,Z⟩ ⟨Z,Z,Z,.cons Z Z (.cons Z Z .nil),Z⟩ ?_;rintro v y ⟨i,⟨Y,a⟩,rfl,rfl⟩;refine ab<|ab<|ae<|aa 3 Z<|af (t:=nI r.tups.length) Z Z Z (ah (bd Z aK Z) (by simp only[L8]))<|af (t:=bT (decide (i<r.tups.length))) Z Z Z (ah (ai Z Z Z Zy) (av (iu i r.tups.length)))<|ag<|aF Z (fun I=>?_) (fun I=>?_)
 ·obtain⟨t,l⟩:∃t,r.tups[i]? =some t:=⟨_,L4 I⟩;have L:=S.tup t (L9 l);refine ax<|ab<|aE<|ab<|ab<|ci (fu:=9) [some 24,some 25,some 26,some 27,some 28,some 29,some 30,some 31,some 4] [.box 0 0,.agg (dq r.sch),.box 0 3,.sl (r.tups.map Tp.tree),nI i,.ref (bS t),.agg (bS t),iT (bG r.sch t),iT (bG r.sch t)] (by kernel_rfl) Z Z (by kernel_rfl) Z ?_ ?_
  ·refine Chain.op Z (az Z Z dZ Z)<|Chain.op Z (aJ Z Z Z eR Z Z)<|Chain.op Z (az Z Z aV Z)<|Chain.op Z (aD Z Z Z bp Z)<|Chain.op Z (aw Z Z)<|Chain.op Z (aQ (Tp.tree t) Z aK Z Z Z (bf (f:=Tp.tree) l) (bQ _) Z)<|Chain.op Z (cU Z Z ez Z Z)<|Chain.op Z (ar Z (uO r.sch t L.1.p (X t (L9 l))) Z Z)<|Chain.op Z (bW Z Z)<|Chain.nil
  refine ab<|ae<|aa 1 Z<|af (t:=bT ((bG r.sch t) !=0)) Z Z Z (ai Z Z Z Zy)<|ag<|aH Z (fun F=>?_) (fun F=>?_)
  ·have R:bG r.sch t≠0:=by simpa using F
   refine ab<|aj 2 Z<|aC<|⟨.inr Z,_,.cons Z .nil,ep (by unfold bm;rw[if_neg (by rw[g];simp),if_neg d,<-a,qj l R,if_pos R]),Z⟩
  have N:bG r.sch t=0:=by simpa using F
  refine ax<|ab<|ab<|ae<|aa 1 Z<|af (t:=bT (decide (i=0))) Z Z Z (ah (ai Z Z Z Zy) (av (lY i 0)))<|ag<|aF Z (fun z=>?_) (fun z=>?_)
  ·rw[oQ l N z]at a;refine aZ<|ae<|aa 1 Z<|af (t:=nI (i+1)) Z Z Z (ah (ai Z Z Z Zy) (bu (by omega)))<|aa 1 Z<|ag<|⟨_,_,?_,⟨i+1,?_,Z,Z⟩,⟨Z,Z,Z,.cons Z Z (.cons Z Z .nil),Z⟩⟩
   ·omega
   exact⟨by omega,a⟩
  obtain⟨p,B⟩:∃p,r.tups[i-1]? =some p:=⟨_,L4 (by omega)⟩;have T:=S.tup p (L9 B);rw[qk l N z B]at a;refine ax<|ab<|ci (fu:=15) [some 37,some 38,some 39,some 40,some 41,some 42,some 43,some 44,some 45,some 46,some 47,some 48,some 49,some 50,some 5] [.box 0 3,.sl (r.tups.map Tp.tree),nI i,nI (i-1),.ref (bS p),.ref (bS p),.sl (p.vals.map V.tree),.box 0 3,.sl (r.tups.map Tp.tree),nI i,.ref (bS t),.ref (bS t),.sl (t.vals.map V.tree),iT (aO p.vals t.vals),iT (aO p.vals t.vals)] (by kernel_rfl) Z Z (by kernel_rfl) Z ?_ ?_
  ·refine Chain.op Z (az Z Z aV Z)<|Chain.op Z (aD Z Z Z bp Z)<|Chain.op Z (aw Z Z)<|Chain.op Z (ah (ai Z Z Z Zy) (bu (by omega)))<|Chain.op Z (aQ (Tp.tree p) Z aK Z Z Z (bf (f:=Tp.tree) B) (bQ _) Z)<|Chain.op Z (bw Z Z b6 Z)<|Chain.op Z (bE Z Z cC Z)<|Chain.op Z (az Z Z aV Z)<|Chain.op Z (aD Z Z Z bp Z)<|Chain.op Z (aw Z Z)<|Chain.op Z (aQ (Tp.tree t) Z aK Z Z Z (bf (f:=Tp.tree) l) (bQ _) Z)<|Chain.op Z (bw Z Z b6 Z)<|Chain.op Z (bE Z Z cC Z)<|Chain.op Z (ar Z (ly _ _ T.2 L.2) Z Z)<|Chain.op Z (bW Z Z)<|Chain.nil
  refine aE<|ab<|ae<|aa 1 Z<|af (t:=bT ((aO p.vals t.vals)==0)) Z Z Z (ai Z Z Z Zy)<|aa 1 Z<|ag<|aH Z (fun E=>?_) (fun E=>?_)
  ·refine ab<|aj 1 Z<|aC<|⟨.inr Z,_,.cons Z .nil,ep (by unfold bm;rw[if_neg (by rw[g];simp),if_neg d,<-a,if_pos (eq_of_beq E)];rfl),Z⟩
  have x:¬aO p.vals t.vals=0:=by simpa using E
  have a1:=nE p.vals t.vals;refine ab<|ae<|aa 1 Z<|af (t:=bT (decide ((aO p.vals t.vals)>0))) Z Z Z (ai Z Z Z Zy)<|aa 1 Z<|ag<|aF Z (fun W=>?_) (fun W=>?_)
  ·have J:aO p.vals t.vals=1:=by omega
   refine ab<|aj 1 Z<|aC<|⟨.inr Z,_,.cons Z .nil,ep (by unfold bm;rw[if_neg (by rw[g];simp),if_neg d,show bF r.sch none r.tups=1 from by rw[<-a,if_neg x,if_pos J]];rfl),Z⟩
  have M:¬aO p.vals t.vals=1:=by omega
  rw[if_neg x,if_neg M]at a;refine ax<|ae<|aa 1 Z<|af (t:=nI (i+1)) Z Z Z (ah (ai Z Z Z Zy) (bu (by omega)))<|aa 1 Z<|ag<|⟨_,_,?_,⟨i+1,?_,Z,Z⟩,⟨Z,Z,Z,.cons Z Z (.cons Z Z .nil),Z⟩⟩
  ·omega
  exact⟨by omega,a⟩
 have c:bF r.sch none r.tups=0:=by rw[<-a,Mg (by omega)];cases gp r.tups i<;>rfl
 refine aZ<|ab<|ae<|aa 1 Z<|af Z Z Z (ar Z (AA r S (xP c)) Z Z)<|aa 1 Z<|ag<|ab<|ab<|aj 1 Z<|aE<|aW (fun v y=>∃(j:Nat),(j<=(aP r).length/\∀(m:Nat) (b:List Nat),(aP r)[m]? =some b->m<j->¬16<b.length)/\v=(aP r).length-j/\y=⟨85,[(1,.box 0 0),(6,.sl ((aP r).map iQ)),(7,nI j)],[(30,(aT r))],[]⟩) 1 0 ⟨0,⟨by omega,fun m b _ h=>by omega⟩,Z,Z⟩ ⟨Z,Z,Z,.cons Z Z (.cons Z Z (.cons Z Z .nil)),Z⟩ ?_;rintro v y ⟨j,⟨hj,u⟩,rfl,rfl⟩;have a0:=sF r;refine ab<|ab<|ae<|aa 2 Z<|af (t:=nI ((aP r).length)) Z Z Z (ah (bd Z cf Z) (by simp only[L8]))<|af (t:=bT (decide (j<(aP r).length))) Z Z Z (ah (ai Z Z Z Zy) (av (iu j ((aP r).length))))<|ag<|aF Z (fun Q=>?_) (fun Q=>?_)
 ·obtain⟨b,C⟩:∃b,(aP r)[j]? =some b:=⟨_,L4 Q⟩;refine ax<|ab<|aE<|ab<|ae<|aa 2 Z<|af (t:=.ref [.sl (b.map fw)]) Z Z Z (aQ (iQ b) Z cf Z Z Z (bf (f:=iQ) C) (lm _) Z)<|aa 1 Z<|af (t:=nI b.length) Z Z Z (ah (bd Z cz Z) (by simp only[L8]))<|af (t:=bT (decide (16<b.length))) Z Z Z (ah (ai Z Z Z Zy) (av (tE b.length 16)))<|ag<|aF Z (fun D=>?_) (fun D=>?_)
  ·refine ab<|aj 1 Z<|aC<|⟨.inr Z,_,.cons Z .nil,ep (by unfold bm;rw[if_neg (by rw[g];simp),if_neg d,if_neg (by rw[c];simp),if_pos (ut C D)]),Z⟩
  refine ax<|ae<|aa 1 Z<|af (t:=nI (j+1)) Z Z Z (ah (ai Z Z Z Zy) (bu (by omega)))<|aa 1 Z<|ag<|⟨_,_,?_,⟨j+1,?_,Z,Z⟩,⟨Z,Z,Z,.cons Z Z (.cons Z Z (.cons Z Z .nil)),Z⟩⟩
  ·omega
  refine⟨by omega,fun m b G h=>?_⟩;rcases MI m j with P|P
  ·exact u m b G P
  obtain rfl:m=j:=by omega
  rw[C]at G;cases G;exact D
 have s:nC (aP r)=false:=nD fun k b H=>u k b H (by have:=(L7.1 H).1;omega)
 refine aZ<|ab<|ab<|aj 1 Z<|aE<|aW (fun v y=>∃(k:Nat),(k<=(aP r).length/\∀(m:Nat) (b:List Nat),(aP r)[m]? =some b->m<k->¬bP (1-dR r.tups b)<0)/\v=(aP r).length-k/\y=⟨85,[(1,.box 0 0),(6,.sl ((aP r).map iQ)),(8,nI k)],[(30,(aT r))],[]⟩) 1 0 ⟨0,⟨by omega,fun m b _ h=>by omega⟩,Z,Z⟩ ⟨Z,Z,Z,.cons Z Z (.cons Z Z (.cons Z Z .nil)),Z⟩ ?_;rintro v y ⟨k,⟨H,O⟩,rfl,rfl⟩;refine ab<|ab<|ae<|aa 2 Z<|af (t:=nI ((aP r).length)) Z Z Z (ah (bd Z cf Z) (by simp only[L8]))<|af (t:=bT (decide (k<(aP r).length))) Z Z Z (ah (ai Z Z Z Zy) (av (iu k ((aP r).length))))<|ag<|aF Z (fun w=>?_) (fun w=>?_)
 ·obtain⟨b,o⟩:∃b,(aP r)[k]? =some b:=⟨_,L4 w⟩;have q:=uv r b (L9 o);have K:b.length<=16:=by have:=N4.1 s b (L9 o);simpa using this
  have U:=mP c q.2 K;refine ax<|ab<|aE<|ab<|ci (fu:=8) [some 77,some 78,some 79,some 80,some 81,some 82,some 83,some 84] [.agg (aT r),.sl ((aP r).map iQ),nI k,.ref [.sl (b.map fw)],.sl (b.map fw),.agg [bT (decide ((dR r.tups b).num<0)),aM ((dR r.tups b).num.natAbs),aM ((dR r.tups b).den)],bT (je (dR r.tups b)),bT (!(je (dR r.tups b)))] (by kernel_rfl) Z Z (by kernel_rfl) Z ?_ ?_
  ·refine Chain.op Z (aJ Z Z Z bq Z Z)<|Chain.op Z (aw Z Z)<|Chain.op Z (aw Z Z)<|Chain.op Z (aQ (iQ b) Z cf Z Z Z (bf (f:=iQ) o) (lm _) Z)<|Chain.op Z (bE Z Z lw Z)<|Chain.op Z (ar Z (H4 r b q.2 (by omega) (fun t ht=>(S.tup t ht).1.p) (fun j hj=>(mP c (fun i Y=>q.2 i (MC Y)) (by rw[Mf];omega)).1)) Z Z)<|Chain.op Z (ar Z (Cd _ U.1) Z Z)<|Chain.op Z (ef Z Z Zy)<|Chain.nil
  refine aH Z (fun e=>?_) (fun e=>?_)
  ·refine ab<|aj 1 Z<|aC<|⟨.inr Z,_,.cons Z .nil,ep (by unfold bm;rw[if_neg (by rw[g];simp),if_neg d,if_neg (by rw[c];simp),if_neg (by rw[s];simp),if_pos (sC o (by rw[yj c]at e;simpa using e))]),Z⟩
  refine ax<|ae<|aa 1 Z<|af (t:=nI (k+1)) Z Z Z (ah (ai Z Z Z Zy) (bu (by omega)))<|aa 1 Z<|ag<|⟨_,_,?_,⟨k+1,?_,Z,Z⟩,⟨Z,Z,Z,.cons Z Z (.cons Z Z (.cons Z Z .nil)),Z⟩⟩
  ·omega
  refine⟨by omega,fun m b G h=>?_⟩;rcases MI m k with P|P
  ·exact O m b G P
  obtain rfl:m=k:=by omega
  rw[o]at G;cases G;rw[yj c]at e;simpa using e
 refine aZ<|ab<|aj 1 Z<|aC<|⟨.inr Z,_,.cons Z .nil,ep (by unfold bm;rw[if_neg (by rw[g];simp),if_neg d,if_neg (by rw[c];simp),if_neg (by rw[s];simp),if_neg (by rw[md fun k b H=>O k b H (by have:=(L7.1 H).1;omega)];simp)]),Z⟩
theorem iq(r:Rel)(t:Tp)(E:FitR r)(I:FW r)(C:FitT t)(m:AB t)(w:t.vals.length<=65536):Ct 34 [r.tree,t.tree] (lL r t):=by
 refine Ct.of (n:=82) Tryz.func34 Z Z Z Z Z fun w0 G0=>?_
 refine ab<|aj 4 Z<|ab<|ab<|ae<|aa 1 Z<|af Z Z Z (ar Z (o7 r E I) Z Z)<|aa 1 Z<|ag<|ab<|ae<|aa 1 Z<|af (t:=bT ((bm r) !=0)) Z Z Z (ai Z Z Z Zy)<|ag<|aH Z (fun u=>?_) (fun u=>?_)
 ·have F:bm r≠0:=by simpa using u
  refine ab<|aj 4 Z<|aC<|⟨.inr Z,_,.cons ⟨_,_,_,_,Z,Z,.inl ⟨_,bq,Z,Z⟩⟩ (.cons Z .nil),by unfold lL;rw[show bK r t=bm r from by unfold bK;rw[if_pos F]];rw[if_neg F];rfl,iM r t⟩
 have z:bm r=0:=by simpa using u
 have R:=ml z;have B:=nN z;refine ax<|ab<|ab<|ae<|aa 3 Z<|af Z Z Z (ar Z (uO r.sch t C.p m) Z Z)<|aa 1 Z<|ag<|ab<|ae<|aa 1 Z<|af (t:=bT ((bG r.sch t) !=0)) Z Z Z (ai Z Z Z Zy)<|ag<|aH Z (fun v=>?_) (fun v=>?_)
 ·have A:bG r.sch t≠0:=by simpa using v
  refine ab<|aj 4 Z<|aC<|⟨.inr Z,_,.cons ⟨_,_,_,_,Z,Z,.inl ⟨_,bq,Z,Z⟩⟩ (.cons Z .nil),by unfold lL;rw[show bK r t=bG r.sch t from by unfold bK;rw[if_neg (by rw[z];simp),if_pos A]];rw[if_neg A];rfl,iM r t⟩
 have o:bG r.sch t=0:=by simpa using v
 refine ax<|ab<|ab<|ae<|aa 3 Z<|af Z Z Z (ar Z (FR r t.vals w E.tups (fun t T=>(E.tup t T).2)) Z Z)<|aa 5 Z<|ag<|ab<|aj 1 Z<|aH Z (fun s=>?_) (fun s=>?_)
 ·refine ab<|aj 3 Z<|aC<|⟨.inr Z,_,.cons ⟨_,_,_,_,Z,Z,.inl ⟨_,bq,Z,Z⟩⟩ (.cons Z .nil),by unfold lL;rw[show bK r t=8 from by unfold bK;rw[if_neg (by rw[z];simp),if_neg (by rw[o];simp),if_pos s]];rfl,iM r t⟩
 have G:=s;refine ax<|ab<|aj 1 Z<|ab<|aE<|aW (fun O Q=>∃(i:Nat),(i<=r.tups.length/\(r.tups.drop i).takeWhile (fun x=>decide (aO x.vals t.vals<0))=(r.tups.takeWhile fun x=>decide (aO x.vals t.vals<0)).drop i/\i<=pN t.vals r.tups)/\O=r.tups.length-i/\Q=⟨82,[(2,.box 0 0),(3,.box 1 0),(4,.box 2 0),(10,nI i)],[(30,(aT r)),(67,(bS t)),(30,dS)],[]⟩) 3 0 ⟨0,⟨by omega,Z,by omega⟩,Z,Z⟩ ⟨Z,Z,Z,.cons Z Z (.cons Z Z (.cons Z Z (.cons Z Z .nil))),Z⟩ ?_;rintro O Q ⟨i,⟨U,g,N⟩,rfl,rfl⟩;refine ab<|ab<|ci (fu:=17) [some 36,some 37,some 38,some 39,some 40,some 41,some 42,some 43,some 44,some 45,some 46,some 47,some 48,some 49,some 50,some 51,some 52] [nI i,.box 0 3,.sl (r.tups.map Tp.tree),nI r.tups.length,bT (decide (i<r.tups.length)),bT (decide (i<r.tups.length)),if(decide (i<r.tups.length))=true then(.box 0 3:Tree)else .sc undef,if(decide (i<r.tups.length))=true then(.sl (r.tups.map Tp.tree):Tree)else .sc undef,if(decide (i<r.tups.length))=true then(nI i:Tree)else .sc undef,if(decide (i<r.tups.length))=true then(.ref [.sl ((((r.tups[i]?).getD gH).vals).map V.tree),bT (decide (((r.tups[i]?).getD gH).prob.num<0)),aM (((r.tups[i]?).getD gH).prob.num.natAbs),aM (((r.tups[i]?).getD gH).prob.den)]:Tree)else .sc undef,if(decide (i<r.tups.length))=true then(.ref [.sl ((((r.tups[i]?).getD gH).vals).map V.tree),bT (decide (((r.tups[i]?).getD gH).prob.num<0)),aM (((r.tups[i]?).getD gH).prob.num.natAbs),aM (((r.tups[i]?).getD gH).prob.den)]:Tree)else .sc undef,if(decide (i<r.tups.length))=true then(.sl ((((r.tups[i]?).getD gH).vals).map V.tree):Tree)else .sc undef,if(decide (i<r.tups.length))=true then(.box 1 0:Tree)else .sc undef,if(decide (i<r.tups.length))=true then(.sl (t.vals.map V.tree):Tree)else .sc undef,if(decide (i<r.tups.length))=true then(iT (aO ((r.tups[i]?).getD gH).vals t.vals):Tree)else .sc undef,if(decide (i<r.tups.length))=true then(bT (decide ((aO ((r.tups[i]?).getD gH).vals t.vals)<0)):Tree)else .sc undef,bT ((decide (i<r.tups.length))&&(decide ((aO ((r.tups[i]?).getD gH).vals t.vals)<0)))] (by kernel_rfl) Z Z (by kernel_rfl) Z ?_ ?_
 ·refine Chain.op Z (aw Z Z)<|Chain.op Z (az Z Z aV Z)<|Chain.op Z (aD Z Z Z bp Z)<|Chain.op Z (ah (bd Z aK Z) (by simp only[L8]))<|Chain.op Z (ah (ai Z Z Z Zy) (av (iu i r.tups.length)))<|Chain.op Z (aw Z Z)<|Chain.cnd (t:=.box 0 3) 5 true 41 ((decide (i<r.tups.length))=true) Z (by kernel_rfl) au (fun a=>az Z Z aV Z)<|Chain.cnd (t:=.sl (r.tups.map Tp.tree)) 5 true 41 ((decide (i<r.tups.length))=true) Z (by kernel_rfl) au (fun a=>aD Z (if_pos a) Z bp Z)<|Chain.cnd (t:=nI i) 5 true 41 ((decide (i<r.tups.length))=true) Z (by kernel_rfl) au (fun a=>aw Z Z)<|Chain.cnd (t:=.ref [.sl ((((r.tups[i]?).getD gH).vals).map V.tree),bT (decide (((r.tups[i]?).getD gH).prob.num<0)),aM (((r.tups[i]?).getD gH).prob.num.natAbs),aM (((r.tups[i]?).getD gH).prob.den)]) 5 true 41 ((decide (i<r.tups.length))=true) Z (by kernel_rfl) au (fun a=>aQ (Tp.tree ((r.tups[i]?).getD gH)) Z aK (if_pos a) (if_pos a) Z (bf (f:=Tp.tree) (kL (of_decide_eq_true a))) (bQ _) Z)<|Chain.cnd (t:=.ref [.sl ((((r.tups[i]?).getD gH).vals).map V.tree),bT (decide (((r.tups[i]?).getD gH).prob.num<0)),aM (((r.tups[i]?).getD gH).prob.num.natAbs),aM (((r.tups[i]?).getD gH).prob.den)]) 5 true 41 ((decide (i<r.tups.length))=true) Z (by kernel_rfl) au (fun a=>bw Z (if_pos a) b6 Z)<|Chain.cnd (t:=.sl ((((r.tups[i]?).getD gH).vals).map V.tree)) 5 true 41 ((decide (i<r.tups.length))=true) Z (by kernel_rfl) au (fun a=>bE Z (if_pos a) cC Z)<|Chain.cnd (t:=.box 1 0) 5 true 41 ((decide (i<r.tups.length))=true) Z (by kernel_rfl) au (fun a=>az Z Z b6 Z)<|Chain.cnd (t:=.sl (t.vals.map V.tree)) 5 true 41 ((decide (i<r.tups.length))=true) Z (by kernel_rfl) au (fun a=>aD Z (if_pos a) Z cC Z)<|Chain.cnd (t:=iT (aO ((r.tups[i]?).getD gH).vals t.vals)) 5 true 41 ((decide (i<r.tups.length))=true) Z (by kernel_rfl) au (fun a=>ar Z (ly _ _ (B8 E i) w) (eU (if_pos a) (eU (if_pos a) Z)) Z)<|Chain.cnd (t:=bT (decide ((aO ((r.tups[i]?).getD gH).vals t.vals)<0))) 5 true 41 ((decide (i<r.tups.length))=true) Z (by kernel_rfl) au (fun a=>ai Z (if_pos a) Z (fun _=>rfl))<|Chain.op Z (aL Z Z (fun K=>(if_pos K).trans (av (by rw[K];rfl))) (fun K=>(av (by rw[K];rfl))))<|Chain.nil
 refine aH Z (fun c=>?_) (fun c=>?_)
 ·rw[Ma]at c;have J:=of_decide_eq_true c.1;have D:=of_decide_eq_true c.2;refine ax<|aE<|ae<|aa 1 Z<|af (t:=nI (i+1)) Z Z Z (ah (ai Z Z Z Zy) (bu (by omega)))<|aa 1 Z<|ag<|⟨_,_,?_,⟨i+1,?_,Z,Z⟩,⟨Z,Z,Z,.cons Z Z (.cons Z Z (.cons Z Z (.cons Z Z .nil))),Z⟩⟩
  ·omega
  exact⟨by omega,uH (kL (d:=gH) J) D g,Ca (kL (d:=gH) J) D g⟩
 have b:=x7 g N c;have j:=yk E C w B;unfold bD at j;rw[<-b]at j;have y:=j.1;have L:=j.2 I m;refine aZ<|ab<|ae<|aa 2 Z<|af (t:=.agg [sT r.sch.name,bT r.sch.cert,.sl (r.sch.cols.map Col.tree),.sc (.slice none 0 0)]) Z Z Z (pr Z ik Z Z Z)<|aa 2 Z<|ag<|ab<|mD 3 3 67 4 (bs':=[(30,(aT r)),(67,(bS t)),(30,dS),(30,[sT r.sch.name,bT r.sch.cert,.sl (r.sch.cols.map Col.tree),.own 0])]) (rs':=[some ⟨67,4,[],false⟩]) Z Z Z Z<|iw (sl':=[(2,.box 0 0),(3,.box 1 0),(4,.box 2 0),(10,nI i),(52,bT ((decide (i<r.tups.length))&&(decide ((aO ((r.tups[i]?).getD gH).vals t.vals)<0)))),(11,.box 3 0)]) ⟨Z,⟨Z,⟨Z,⟨Z,⟨Z,⟨Z,trivial⟩⟩⟩⟩⟩⟩<|fz (fu:=5) [some 58,some 59,some 60,some 61,some 62,some 63,some 64,some 65,some 66,some 67,some 68,some 69,some 70,some 71,some 72,some 73,none] [6,9,14,16] [.box 3 3,.own 0,.box 0 3,.sl (r.tups.map Tp.tree),nI i,.sl ((r.tups.take i).map Tp.tree),.own 0,.agg (bS t),.sl [.agg (bS t)],.own 0,.box 0 3,.sl (r.tups.map Tp.tree),nI i,.sl ((r.tups.drop i).map Tp.tree),.own 0,.box 3 3,.any] [⟨[6],[(2,.box 0 0),(3,.box 1 0),(4,.box 2 0),(10,nI i),(52,bT ((decide (i<r.tups.length))&&(decide ((aO ((r.tups[i]?).getD gH).vals t.vals)<0)))),(11,.box 3 0)],[(30,(aT r)),(67,(bS t)),(30,dS),(30,[sT r.sch.name,bT r.sch.cert,.sl (r.sch.cols.map Col.tree),.any])],[some ⟨67,4,(r.tups.take i).map Tp.tree,false⟩],[.box 3 3,.any,.box 0 3,.sl (r.tups.map Tp.tree),nI i,.sl ((r.tups.take i).map Tp.tree),.own 0,.agg (bS t),.sl [.agg (bS t)],.own 0,.box 0 3,.sl (r.tups.map Tp.tree),nI i,.sl ((r.tups.drop i).map Tp.tree),.own 0,.box 3 3,.any]⟩,⟨[9,6],[(2,.box 0 0),(3,.box 1 0),(4,.box 2 0),(10,nI i),(52,bT ((decide (i<r.tups.length))&&(decide ((aO ((r.tups[i]?).getD gH).vals t.vals)<0)))),(11,.box 3 0)],[(30,(aT r)),(67,(bS t)),(30,dS),(30,[sT r.sch.name,bT r.sch.cert,.sl (r.sch.cols.map Col.tree),.any])],[some ⟨67,4,(r.tups.take i++[t]).map Tp.tree,false⟩],[.box 3 3,.any,.box 0 3,.sl (r.tups.map Tp.tree),nI i,.sl ((r.tups.take i).map Tp.tree),.any,.agg (bS t),.sl [.agg (bS t)],.own 0,.box 0 3,.sl (r.tups.map Tp.tree),nI i,.sl ((r.tups.drop i).map Tp.tree),.own 0,.box 3 3,.any]⟩,⟨[14,9,6],[(2,.box 0 0),(3,.box 1 0),(4,.box 2 0),(10,nI i),(52,bT ((decide (i<r.tups.length))&&(decide ((aO ((r.tups[i]?).getD gH).vals t.vals)<0)))),(11,.box 3 0)],[(30,(aT r)),(67,(bS t)),(30,dS),(30,[sT r.sch.name,bT r.sch.cert,.sl (r.sch.cols.map Col.tree),.any])],[some ⟨67,4,(r.tups.take i++[t]++r.tups.drop i).map Tp.tree,false⟩],[.box 3 3,.any,.box 0 3,.sl (r.tups.map Tp.tree),nI i,.sl ((r.tups.take i).map Tp.tree),.any,.agg (bS t),.sl [.agg (bS t)],.any,.box 0 3,.sl (r.tups.map Tp.tree),nI i,.sl ((r.tups.drop i).map Tp.tree),.own 0,.box 3 3,.any]⟩] ⟨[16,14,9,6],[(2,.box 0 0),(3,.box 1 0),(4,.box 2 0),(10,nI i),(52,bT ((decide (i<r.tups.length))&&(decide ((aO ((r.tups[i]?).getD gH).vals t.vals)<0)))),(11,.box 3 0)],[(30,(aT r)),(67,(bS t)),(30,dS),(30,[sT r.sch.name,bT r.sch.cert,.sl (r.sch.cols.map Col.tree),.own 0])],[some ⟨67,4,(r.tups.take i++[t]++r.tups.drop i).map Tp.tree,false⟩],[.box 3 3,.any,.box 0 3,.sl (r.tups.map Tp.tree),nI i,.sl ((r.tups.take i).map Tp.tree),.any,.agg (bS t),.sl [.agg (bS t)],.any,.box 0 3,.sl (r.tups.map Tp.tree),nI i,.sl ((r.tups.drop i).map Tp.tree),.own 0,.box 3 3,.any]⟩ (by kernel_rfl) Z (by kernel_rfl) (by kernel_rfl) (by kernel_rfl) Z Z ?_ ?_
 ·refine .op [] (by kernel_rfl) ?_ ?_
  ·refine .ok (t:=.box 3 3) (by kernel_rfl) Z Z (az Z Z aV Z)<|.no (by kernel_rfl)<|.no (by kernel_rfl)<|.no (by kernel_rfl)<|.no (by kernel_rfl)<|.nil
  refine .op [0] (by kernel_rfl) ?_ ?_
  ·refine .ok (t:=.own 0) (by kernel_rfl) Z Z (aD Z Z Z bp Z)<|.no (by kernel_rfl)<|.no (by kernel_rfl)<|.no (by kernel_rfl)<|.no (by kernel_rfl)<|.nil
  refine .op [] (by kernel_rfl) ?_ ?_
  ·refine .ok (t:=.box 0 3) (by kernel_rfl) Z Z (az Z Z aV Z)<|.no (by kernel_rfl)<|.no (by kernel_rfl)<|.no (by kernel_rfl)<|.no (by kernel_rfl)<|.nil
  refine .op [2] (by kernel_rfl) ?_ ?_
  ·refine .ok (t:=.sl (r.tups.map Tp.tree)) (by kernel_rfl) Z Z (aD Z Z Z bp Z)<|.no (by kernel_rfl)<|.no (by kernel_rfl)<|.no (by kernel_rfl)<|.no (by kernel_rfl)<|.nil
  refine .op [] (by kernel_rfl) ?_ ?_
  ·refine .ok (t:=nI i) (by kernel_rfl) Z Z (aw Z Z)<|.no (by kernel_rfl)<|.no (by kernel_rfl)<|.no (by kernel_rfl)<|.no (by kernel_rfl)<|.nil
  refine .op [3,4] (by kernel_rfl) ?_ ?_
  ·refine .ok (t:=.sl ((r.tups.take i).map Tp.tree)) (by kernel_rfl) Z Z (ah (iG (l:=0) (h:=i) Z aK Z Z ⟨_,Z⟩ (by first|omega|(simp only[L8];omega)) (by first|omega|(simp only[L8];omega)) (bQ _)) (by simp only[OB,Nx]))<|.no (by kernel_rfl)<|.no (by kernel_rfl)<|.no (by kernel_rfl)<|.no (by kernel_rfl)<|.nil
  refine .op [1,5] (by kernel_rfl) ?_ ?_
  ·refine .wr 1 (lI 0) (.own 0) (by kernel_rfl) Z Z (kj Z Z Z ij Z Z Z Z (bQ _) (AllC.map _ _ fun _=>rfl) (AllC.map _ _ fun _=>rfl) (by simp only[L8,Mf,Mo];omega) Z Z Z) Z Z Z Z (.k Z (.k Z (.k Z (.k Z (.k Z (.k Z (.i Z (.k Z (.k Z (.d (by kernel_rfl) (.k Z (.k Z (.k Z (.k Z (.d (by kernel_rfl) (.k Z (.k Z .nil)))))))))))))))))<|.no (by kernel_rfl)<|.no (by kernel_rfl)<|.no (by kernel_rfl)<|.no (by kernel_rfl)<|.nil
  refine .op [] (by kernel_rfl) ?_ ?_
  ·refine .ok (t:=.agg (bS t)) (by kernel_rfl) Z Z (aJ Z Z Z ez Z Z)<|.ok (t:=.agg (bS t)) (by kernel_rfl) Z Z (aJ Z Z Z ez Z Z)<|.no (by kernel_rfl)<|.no (by kernel_rfl)<|.no (by kernel_rfl)<|.nil
  refine .op [7] (by kernel_rfl) ?_ ?_
  ·refine .ok (t:=.sl [.agg (bS t)]) (by kernel_rfl) Z Z (a6 Z aK go Z (by decide) (by decide) Z Z Z Z Z)<|.ok (t:=.sl [.agg (bS t)]) (by kernel_rfl) Z Z (a6 Z aK go Z (by decide) (by decide) Z Z Z Z Z)<|.no (by kernel_rfl)<|.no (by kernel_rfl)<|.no (by kernel_rfl)<|.nil
  refine .op [6,8] (by kernel_rfl) ?_ ?_
  ·refine .no (by kernel_rfl)<|.wr 2 (lI 0) (.own 0) (by kernel_rfl) rfl rfl (kj rfl rfl rfl ij rfl rfl rfl rfl (by intro e P;simp only[Mi,Nr,or_false]at P;subst P;rfl) (AllC.lit rfl) (AllC.lit rfl) (by simp only[L8,Mf,Mb,Mo];omega) rfl rfl (by rw[Nk];rfl)) rfl rfl rfl rfl (.k rfl (.k rfl (.k rfl (.k rfl (.k rfl (.k rfl (.k rfl (.k rfl (.k rfl (.i rfl (.k rfl (.k rfl (.k rfl (.k rfl (.d (by kernel_rfl) (.k rfl (.k rfl .nil)))))))))))))))))<|.no (by kernel_rfl)<|.no (by kernel_rfl)<|.no (by kernel_rfl)<|.nil
  refine .op [] (by kernel_rfl) ?_ ?_
  ·refine .ok (t:=.box 0 3) (by kernel_rfl) Z Z (az Z Z aV Z)<|.ok (t:=.box 0 3) (by kernel_rfl) Z Z (az Z Z aV Z)<|.ok (t:=.box 0 3) (by kernel_rfl) Z Z (az Z Z aV Z)<|.no (by kernel_rfl)<|.no (by kernel_rfl)<|.nil
  refine .op [10] (by kernel_rfl) ?_ ?_
  ·refine .ok (t:=.sl (r.tups.map Tp.tree)) (by kernel_rfl) Z Z (aD Z Z Z bp Z)<|.ok (t:=.sl (r.tups.map Tp.tree)) (by kernel_rfl) Z Z (aD Z Z Z bp Z)<|.ok (t:=.sl (r.tups.map Tp.tree)) (by kernel_rfl) Z Z (aD Z Z Z bp Z)<|.no (by kernel_rfl)<|.no (by kernel_rfl)<|.nil
  refine .op [] (by kernel_rfl) ?_ ?_
  ·refine .ok (t:=nI i) (by kernel_rfl) Z Z (aw Z Z)<|.ok (t:=nI i) (by kernel_rfl) Z Z (aw Z Z)<|.ok (t:=nI i) (by kernel_rfl) Z Z (aw Z Z)<|.no (by kernel_rfl)<|.no (by kernel_rfl)<|.nil
  refine .op [11,12] (by kernel_rfl) ?_ ?_
  ·refine .ok (t:=.sl ((r.tups.drop i).map Tp.tree)) (by kernel_rfl) Z Z (ah (iG (l:=i) (h:=(r.tups.map Tp.tree).length) Z aK Z ⟨_,Z⟩ Z (by first|omega|(simp only[L8];omega)) (by first|omega|(simp only[L8];omega)) (bQ _)) (by simp only[OL,M9]))<|.ok (t:=.sl ((r.tups.drop i).map Tp.tree)) (by kernel_rfl) Z Z (ah (iG (l:=i) (h:=(r.tups.map Tp.tree).length) Z aK Z ⟨_,Z⟩ Z (by first|omega|(simp only[L8];omega)) (by first|omega|(simp only[L8];omega)) (bQ _)) (by simp only[OL,M9]))<|.ok (t:=.sl ((r.tups.drop i).map Tp.tree)) (by kernel_rfl) Z Z (ah (iG (l:=i) (h:=(r.tups.map Tp.tree).length) Z aK Z ⟨_,Z⟩ Z (by first|omega|(simp only[L8];omega)) (by first|omega|(simp only[L8];omega)) (bQ _)) (by simp only[OL,M9]))<|.no (by kernel_rfl)<|.no (by kernel_rfl)<|.nil
  refine .op [9,13] (by kernel_rfl) ?_ ?_
  ·refine .no (by kernel_rfl)<|.no (by kernel_rfl)<|.wr 3 (lI 0) (.own 0) (by kernel_rfl) Z Z (kj Z Z Z ij Z Z Z Z (bQ _) (AllC.map _ _ fun _=>rfl) (AllC.map _ _ fun _=>rfl) (by simp only[L8,Mc,Mf,MS,Mb,Mo];omega) Z Z (by rw[Nk (l₁:=r.tups.take i++[t])];rfl)) Z Z Z Z (.k Z (.k Z (.k Z (.k Z (.k Z (.k Z (.k Z (.k Z (.k Z (.k Z (.k Z (.k Z (.k Z (.k Z (.i Z (.k Z (.k Z .nil)))))))))))))))))<|.no (by kernel_rfl)<|.no (by kernel_rfl)<|.nil
  refine .op [] (by kernel_rfl) ?_ ?_
  ·refine .no (by kernel_rfl)<|.no (by kernel_rfl)<|.no (by kernel_rfl)<|.ok (t:=.box 3 3) (by kernel_rfl) Z Z (az Z Z aV Z)<|.no (by kernel_rfl)<|.nil
  refine .op [14,15] (by kernel_rfl) ?_ ?_
  ·refine .no (by kernel_rfl)<|.no (by kernel_rfl)<|.no (by kernel_rfl)<|.wr 4 id .any (by kernel_rfl) Z Z (gJ Z Z Z Z Z Z Z Z nJ Z Z Z) Z Z Z Z (.k Z (.k Z (.k Z (.k Z (.k Z (.k Z (.k Z (.k Z (.k Z (.k Z (.k Z (.k Z (.k Z (.k Z (.k Z (.k Z (.i Z .nil)))))))))))))))))<|.no (by kernel_rfl)<|.nil
  exact .nil
 refine ab<|ab<|fD 0 (bs':=[(30,(aT r)),(67,(bS t)),(30,dS),(30,[sT r.sch.name,bT r.sch.cert,.sl (r.sch.cols.map Col.tree),.sl ((r.tups.take i++[t]++r.tups.drop i).map Tp.tree)])]) (rs':=[none]) Z Z Z Z<|ae<|aa 1 Z<|af Z Z Z (ar Z (o7 ⟨r.sch,r.tups.take i++[t]++r.tups.drop i⟩ y L) Z Z)<|aa 1 Z<|ag<|ab<|ae<|aa 1 Z<|af (t:=bT ((bm ⟨r.sch,r.tups.take i++[t]++r.tups.drop i⟩) !=0)) Z Z Z (ai Z Z Z Zy)<|ag<|aH Z (fun q=>?_) (fun q=>?_)
 ·have H:bm ⟨r.sch,r.tups.take i++[t]++r.tups.drop i⟩≠0:=by simpa using q
  refine ab<|aj 4 Z<|aC<|⟨.inr Z,_,.cons ⟨_,_,_,_,Z,Z,.inl ⟨_,bq,Z,Z⟩⟩ (.cons Z .nil),by unfold lL;rw[show bK r t=bm ⟨r.sch,r.tups.take i++[t]++r.tups.drop i⟩from by unfold bK;rw[if_neg (by rw[z];simp),if_neg (by rw[o];simp),if_neg (by rw[G];simp)];unfold bD;rw[<-b],if_neg H];rfl,iM r t⟩
 have M:bm ⟨r.sch,r.tups.take i++[t]++r.tups.drop i⟩=0:=by simpa using q
 refine ax<|ab<|ae<|aa 1 Z<|af Z Z Z (ar Z (qr ⟨r.sch,r.tups.take i++[t]++r.tups.drop i⟩ y.tups (fun x S=>ff _ (((y.tup x S).1.p).mono (by decide)))) Z Z)<|aa 2 Z<|ag<|aC<|⟨.inr Z,_,.cons ⟨_,_,_,_,Z,Z,.inl ⟨_,bq,Z,Z⟩⟩ (.cons Z .nil),by unfold lL;rw[show bK r t=0 from by unfold bK;rw[if_neg (by rw[z];simp),if_neg (by rw[o];simp),if_neg (by rw[G];simp)];unfold bD;rw[<-b];exact M,if_pos Z];unfold bD;rw[<-b];rfl,iM r t⟩
end Go.Proofs.YtfoejfohbkmmeaaGreatDoor
