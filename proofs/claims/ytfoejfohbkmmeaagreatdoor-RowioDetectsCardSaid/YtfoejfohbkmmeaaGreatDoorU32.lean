import Derived.Test.YtfoejfohbkmmeaaGreatDoorU31
import Derived.Test.YtfoejfohbkmmeaaGreatDoorU08
import Derived.Test.YtfoejfohbkmmeaaGreatDoorU00
import Derived.Test.YtfoejfohbkmmeaaGreatDoorU11
import Derived.Test.YtfoejfohbkmmeaaGreatDoorU01
set_option maxRecDepth 100000
set_option maxHeartbeats 4000000
namespace Go.Proofs.YtfoejfohbkmmeaaGreatDoor
open Go.RowKit
open Lib renaming hid→J
theorem uH{vs:List V}{ts:List Tp}{i:Nat}{t:Tp}(h:ts[i]? =some t)(c:aO t.vals vs<0)(a:(ts.drop i).takeWhile (fun t=>decide (aO t.vals vs<0))=(ts.takeWhile fun t=>decide (aO t.vals vs<0)).drop i):(ts.drop (i+1)).takeWhile (fun t=>decide (aO t.vals vs<0))=(ts.takeWhile fun t=>decide (aO t.vals vs<0)).drop (i+1):=by
 obtain⟨b,rfl⟩:=L7.1 h;rw[Md b,Nh,decide_eq_true c]at a;have:=congrArg List.tail a;simpa[List.tail_drop]using this
def gH:Tp:=⟨[],0⟩
theorem kL{α:Type}{l:List α}{i:Nat}{d:α}(h:i<l.length):l[i]? =some ((l[i]?).getD d):=by rw[L4 h];rfl
theorem B8{r:Rel}(a:FitR r)(i:Nat):((r.tups[i]?).getD gH).vals.length<=65536:=by
 cases h:r.tups[i]? with
 |none=>simp[gH]
 |some t=>exact(a.tup t (L9 h)).2
theorem x7{vs:List V}{ts:List Tp}{i:Nat}(b:(ts.drop i).takeWhile (fun t=>decide (aO t.vals vs<0))=(ts.takeWhile fun t=>decide (aO t.vals vs<0)).drop i)(d:i<=pN vs ts)(c:(decide (i<ts.length)&&decide (aO ((ts[i]?).getD gH).vals vs<0))=false):i=pN vs ts:=by
 have e:(ts.drop i).takeWhile (fun t=>decide (aO t.vals vs<0))=[]:=by
  by_cases a:i<ts.length
  ·rw[Md a,Nh];rw[decide_eq_true a,OC,L4 a,MK]at c;rw[c];rfl
  rw[Mg (by omega)];rfl
 rw[e]at b;have:=congrArg List.length b;rw[MS]at this;unfold pN at d⊢;simp only[Mo]at this;omega
theorem Ca{vs:List V}{ts:List Tp}{i:Nat}{t:Tp}(h:ts[i]? =some t)(c:aO t.vals vs<0)(a:(ts.drop i).takeWhile (fun t=>decide (aO t.vals vs<0))=(ts.takeWhile fun t=>decide (aO t.vals vs<0)).drop i):i+1<=pN vs ts:=by
 obtain⟨b,rfl⟩:=L7.1 h;rw[Md b,Nh,decide_eq_true c]at a;have:=congrArg List.length a;rw[MS]at this;unfold pN;simp only[if_true,Mb]at this;omega
theorem ml{r:Rel}(h:bm r=0):bF r.sch none r.tups=0:=by
 unfold bm at h;split at h
 ·cases h
 split at h
 ·cases h
 split at h
 ·next h1=>exact absurd h h1
 next h1=>exact NE.1 h1
theorem io(r:Rel)(t:Tp):(sD r t).plain=true:=by unfold sD;split<;>rfl
theorem nJ:(Tryz.prog.info? 28).map (·.size)=some 1:=by kernel_rfl
theorem qq(r:Rel)(T:FitR r):Ct 21 [r.tree] (iT (bm r)):=by
 refine Ct.of (n:=76) Tryz.func21 Z Z Z Z Z fun w0 G0=>?_
 refine ab<|aj 2 Z<|ab<|ab<|ae<|aa 2 Z<|af Z Z Z (ar Z (jz r.sch) Z Z)<|af (t:=bT (!(fF r.sch))) Z Z Z (ef Z Z Zy)<|ag<|aH Z (fun A=>?_) (fun A=>?_)
 ·refine ab<|aj 1 Z<|aC<|⟨.inr Z,_,.cons Z .nil,ep (by unfold bm;rw[if_pos (by simpa using A)]),Z⟩
 have d:fF r.sch=true:=by simpa using A
 refine ax<|ab<|ab<|ae<|aa 2 Z<|af (t:=nI r.tups.length) Z Z Z (ah (bd Z aK Z) (by simp only[L8]))<|af (t:=bT (decide (64<r.tups.length))) Z Z Z (ah (ai Z Z Z Zy) (av (tE r.tups.length 64)))<|ag<|aF Z (fun c=>?_) (fun c=>?_)
 ·refine ab<|aj 1 Z<|aC<|⟨.inr Z,_,.cons Z .nil,ep (by unfold bm;rw[if_neg (by rw[d];simp),if_pos c]),Z⟩
 refine ax<|ab<|ab<|ae<|aa 2 Z<|af (t:=nI r.tups.length) Z Z Z (ah (bd Z aK Z) (by simp only[L8]))<|aa 1 Z<|ag<|aE<|aW (fun v y=>∃(i:Nat),(i<=r.tups.length/\bF r.sch (gp r.tups i) (r.tups.drop i)=bF r.sch none r.tups)/\v=r.tups.length-i/\y=⟨76,[(1,.box 0 0),(20,.sl (r.tups.map Tp.tree)),(21,nI r.tups.length),(22,nI i)],[(30,(aT r))],[]⟩) 1 0 ⟨0,⟨by omega,Z⟩,Z,Z⟩ ⟨Z,Z,Z,.cons Z Z (.cons Z Z (.cons Z Z (.cons Z Z .nil))),Z⟩ ?_;rintro v y ⟨i,⟨W,a⟩,rfl,rfl⟩;refine ab<|ae<|af (t:=bT (decide (i<r.tups.length))) Z Z Z (ah (ai Z Z Z Zy) (av (iu i r.tups.length)))<|ag<|ab<|aF Z (fun J=>?_) (fun J=>?_)
 ·obtain⟨t,o⟩:∃t,r.tups[i]? =some t:=⟨_,L4 J⟩;have L:=T.tup t (L9 o);refine ax<|ab<|aE<|ab<|ae<|aa 1 Z<|af (t:=.ref (bS t)) Z Z Z (aQ (Tp.tree t) Z aK Z Z Z (bf (f:=Tp.tree) o) (bQ _) Z)<|aa 4 Z<|ag<|ab<|ab<|ae<|aa 3 Z<|af Z Z Z (ar Z (xI r.sch t L.1) Z Z)<|aa 1 Z<|ag<|ab<|ae<|aa 1 Z<|af (t:=bT ((bG r.sch t) !=0)) Z Z Z (ai Z Z Z Zy)<|ag<|aH Z (fun F=>?_) (fun F=>?_)
  ·have S:bG r.sch t≠0:=by simpa using F
   refine ab<|aj 2 Z<|aC<|⟨.inr Z,_,.cons Z .nil,ep (by unfold bm;rw[if_neg (by rw[d];simp),if_neg c,<-a,qj o S,if_pos S]),Z⟩
  have N:bG r.sch t=0:=by simpa using F
  refine ax<|ab<|ab<|ae<|aa 1 Z<|af (t:=bT (decide (i=0))) Z Z Z (ah (ai Z Z Z Zy) (av (lY i 0)))<|ag<|aF Z (fun z=>?_) (fun z=>?_)
  ·rw[oQ o N z]at a;refine aZ<|ae<|af (t:=nI (i+1)) Z Z Z (ah (ai Z Z Z Zy) (bu (by omega)))<|aa 1 Z<|ag<|⟨_,_,?_,⟨i+1,?_,Z,Z⟩,⟨Z,Z,Z,.cons Z Z (.cons Z Z (.cons Z Z (.cons Z Z .nil))),Z⟩⟩
   ·omega
   exact⟨by omega,a⟩
  obtain⟨p,B⟩:∃p,r.tups[i-1]? =some p:=⟨_,L4 (by omega)⟩;have U:=T.tup p (L9 B);rw[qk o N z B]at a;refine ax<|ab<|ci (fu:=10) [some 36,some 37,some 38,some 39,some 40,some 41,some 42,some 43,some 44,some 45] [.box 0 3,.sl (r.tups.map Tp.tree),nI i,nI (i-1),.ref (bS p),.ref (bS p),.sl (p.vals.map V.tree),.box 1 0,.sl (t.vals.map V.tree),iT (aO p.vals t.vals)] (by kernel_rfl) Z Z (by kernel_rfl) Z ?_ ?_
  ·refine Chain.op Z (az Z Z aV Z)<|Chain.op Z (aD Z Z Z bp Z)<|Chain.op Z (aw Z Z)<|Chain.op Z (ah (ai Z Z Z Zy) (bu (by omega)))<|Chain.op Z (aQ (Tp.tree p) Z aK Z Z Z (bf (f:=Tp.tree) B) (bQ _) Z)<|Chain.op Z (bw Z Z b6 Z)<|Chain.op Z (bE Z Z cC Z)<|Chain.op Z (az Z Z b6 Z)<|Chain.op Z (aD Z Z Z cC Z)<|Chain.op Z (ar Z (jj _ _ U.2 L.2) Z Z)<|Chain.nil
  refine aE<|ab<|ae<|af (t:=bT ((aO p.vals t.vals)==0)) Z Z Z (ai Z Z Z Zy)<|aa 1 Z<|ag<|aH Z (fun E=>?_) (fun E=>?_)
  ·refine ab<|aj 1 Z<|aC<|⟨.inr Z,_,.cons Z .nil,ep (by unfold bm;rw[if_neg (by rw[d];simp),if_neg c,<-a,if_pos (eq_of_beq E)];rfl),Z⟩
  have x:¬aO p.vals t.vals=0:=by simpa using E
  refine ab<|ae<|af (t:=bT ((aO p.vals t.vals)==1)) Z Z Z (ai Z Z Z Zy)<|aa 1 Z<|ag<|aH Z (fun G=>?_) (fun G=>?_)
  ·refine ab<|aj 1 Z<|aC<|⟨.inr Z,_,.cons Z .nil,ep (by unfold bm;rw[if_neg (by rw[d];simp),if_neg c,show bF r.sch none r.tups=1 from by rw[<-a,if_neg x,if_pos (eq_of_beq G)]];rfl),Z⟩
  have M:¬aO p.vals t.vals=1:=by simpa using G
  rw[if_neg x,if_neg M]at a;refine ax<|ae<|af (t:=nI (i+1)) Z Z Z (ah (ai Z Z Z Zy) (bu (by omega)))<|aa 1 Z<|ag<|⟨_,_,?_,⟨i+1,?_,Z,Z⟩,⟨Z,Z,Z,.cons Z Z (.cons Z Z (.cons Z Z (.cons Z Z .nil))),Z⟩⟩
  ·omega
  exact⟨by omega,a⟩
 have e:bF r.sch none r.tups=0:=by rw[<-a,Mg (by omega)];cases gp r.tups i<;>rfl
 refine aZ<|ab<|ae<|aa 1 Z<|af Z Z Z (ar Z (Db r T (xP e)) Z Z)<|aa 1 Z<|ag<|ab<|ab<|ae<|aa 1 Z<|af (t:=nI ((aP r).length)) Z Z Z (ah (bd Z cf Z) (by simp only[L8]))<|aa 1 Z<|ag<|aE<|aW (fun v y=>∃(j:Nat),(j<=(aP r).length/\∀(m:Nat) (b:List Nat),(aP r)[m]? =some b->m<j->¬16<b.length)/\v=(aP r).length-j/\y=⟨76,[(1,.box 0 0),(6,.sl ((aP r).map iQ)),(53,.sl ((aP r).map iQ)),(54,nI ((aP r).length)),(55,nI j)],[(30,(aT r))],[]⟩) 1 0 ⟨0,⟨by omega,fun m b _ h=>by omega⟩,Z,Z⟩ ⟨Z,Z,Z,.cons Z Z (.cons Z Z (.cons Z Z (.cons Z Z (.cons Z Z .nil)))),Z⟩ ?_;rintro v y ⟨j,⟨X,u⟩,rfl,rfl⟩;have Y:=sF r;refine ab<|ae<|af (t:=bT (decide (j<(aP r).length))) Z Z Z (ah (ai Z Z Z Zy) (av (iu j ((aP r).length))))<|ag<|ab<|aF Z (fun R=>?_) (fun R=>?_)
 ·obtain⟨b,C⟩:∃b,(aP r)[j]? =some b:=⟨_,L4 R⟩;refine ax<|ab<|aE<|ab<|ae<|af (t:=.ref [.sl (b.map fw)]) Z Z Z (aQ (iQ b) Z cf Z Z Z (bf (f:=iQ) C) (lm _) Z)<|aa 2 Z<|ag<|ab<|ae<|aa 1 Z<|af (t:=nI b.length) Z Z Z (ah (bd Z cz Z) (by simp only[L8]))<|af (t:=bT (decide (16<b.length))) Z Z Z (ah (ai Z Z Z Zy) (av (tE b.length 16)))<|ag<|aF Z (fun D=>?_) (fun D=>?_)
  ·refine ab<|aj 1 Z<|aC<|⟨.inr Z,_,.cons Z .nil,ep (by unfold bm;rw[if_neg (by rw[d];simp),if_neg c,if_neg (by rw[e];simp),if_pos (ut C D)]),Z⟩
  refine ax<|ae<|af (t:=nI (j+1)) Z Z Z (ah (ai Z Z Z Zy) (bu (by omega)))<|aa 1 Z<|ag<|⟨_,_,?_,⟨j+1,?_,Z,Z⟩,⟨Z,Z,Z,.cons Z Z (.cons Z Z (.cons Z Z (.cons Z Z (.cons Z Z .nil)))),Z⟩⟩
  ·omega
  refine⟨by omega,fun m b H h=>?_⟩;rcases MI m j with Q|Q
  ·exact u m b H Q
  obtain rfl:m=j:=by omega
  rw[C]at H;cases H;exact D
 have s:nC (aP r)=false:=nD fun k b I=>u k b I (by have:=(L7.1 I).1;omega)
 refine aZ<|ab<|ab<|ae<|aa 1 Z<|af (t:=nI ((aP r).length)) Z Z Z (ah (bd Z cf Z) (by simp only[L8]))<|aa 1 Z<|ag<|aE<|aW (fun v y=>∃(k:Nat),(k<=(aP r).length/\∀(m:Nat) (b:List Nat),(aP r)[m]? =some b->m<k->¬bP (1-dR r.tups b)<0)/\v=(aP r).length-k/\y=⟨76,[(1,.box 0 0),(6,.sl ((aP r).map iQ)),(63,.sl ((aP r).map iQ)),(64,nI ((aP r).length)),(65,nI k)],[(30,(aT r))],[]⟩) 1 0 ⟨0,⟨by omega,fun m b _ h=>by omega⟩,Z,Z⟩ ⟨Z,Z,Z,.cons Z Z (.cons Z Z (.cons Z Z (.cons Z Z (.cons Z Z .nil)))),Z⟩ ?_;rintro v y ⟨k,⟨I,P⟩,rfl,rfl⟩;refine ab<|ae<|af (t:=bT (decide (k<(aP r).length))) Z Z Z (ah (ai Z Z Z Zy) (av (iu k ((aP r).length))))<|ag<|ab<|aF Z (fun w=>?_) (fun w=>?_)
 ·obtain⟨b,g⟩:∃b,(aP r)[k]? =some b:=⟨_,L4 w⟩;have l:=uv r b (L9 g);have K:b.length<=16:=by have:=N4.1 s b (L9 g);simpa using this
  have O:=mP e l.2 K;refine ax<|ab<|aE<|ab<|ae<|af (t:=.ref [.sl (b.map fw)]) Z Z Z (aQ (iQ b) Z cf Z Z Z (bf (f:=iQ) g) (lm _) Z)<|aa 2 Z<|ag<|ab<|ae<|aa 2 Z<|af Z Z Z (ar Z (Fa r b l.2 (by omega) (fun t ht=>(T.tup t ht).1.p) (fun j X=>(mP e (fun i W=>l.2 i (MC W)) (by rw[Mf];omega)).1)) Z Z)<|af Z Z Z (ar Z (sv _ O.1) Z Z)<|af Z Z Z (ar Z (kE _ O.2) Z Z)<|af (t:=bT (decide ((bP (1-dR r.tups b))<0))) Z Z Z (ai Z Z Z Zy)<|ag<|aF Z (fun q=>?_) (fun q=>?_)
  ·refine ab<|aj 1 Z<|aC<|⟨.inr Z,_,.cons Z .nil,ep (by unfold bm;rw[if_neg (by rw[d];simp),if_neg c,if_neg (by rw[e];simp),if_neg (by rw[s];simp),if_pos (sC g q)]),Z⟩
  refine ax<|ae<|af (t:=nI (k+1)) Z Z Z (ah (ai Z Z Z Zy) (bu (by omega)))<|aa 1 Z<|ag<|⟨_,_,?_,⟨k+1,?_,Z,Z⟩,⟨Z,Z,Z,.cons Z Z (.cons Z Z (.cons Z Z (.cons Z Z (.cons Z Z .nil)))),Z⟩⟩
  ·omega
  refine⟨by omega,fun m b H h=>?_⟩;rcases MI m k with Q|Q
  ·exact P m b H Q
  obtain rfl:m=k:=by omega
  rw[g]at H;cases H;exact q
 refine aZ<|ab<|aj 1 Z<|aC<|⟨.inr Z,_,.cons Z .nil,ep (by unfold bm;rw[if_neg (by rw[d];simp),if_neg c,if_neg (by rw[e];simp),if_neg (by rw[s];simp),if_neg (by rw[md fun k b I=>P k b I (by have:=(L7.1 I).1;omega)];simp)]),Z⟩
theorem uI(r:Rel)(t:Tp)(k:FitR r)(u:FitT t)(s:t.vals.length<=65536):Ct 30 [r.tree,t.tree] (sD r t):=by
 refine Ct.of (n:=89) Tryz.func30 Z Z Z Z Z fun w0 G0=>?_
 refine ab<|aj 4 Z<|ab<|ab<|ae<|aa 1 Z<|af Z Z Z (ar Z (qq r k) Z Z)<|aa 1 Z<|ag<|ab<|ae<|aa 1 Z<|af (t:=bT ((bm r) !=0)) Z Z Z (ai Z Z Z Zy)<|ag<|aH Z (fun o=>?_) (fun o=>?_)
 ·have F:bm r≠0:=by simpa using o
  refine ab<|aj 4 Z<|aC<|⟨.inr Z,_,.cons ⟨_,_,_,_,Z,Z,.inl ⟨_,bq,Z,Z⟩⟩ (.cons Z .nil),by unfold sD;rw[show cJ r t=bm r from by unfold cJ;rw[if_pos F]];rw[if_neg F];rfl,io r t⟩
 have y:bm r=0:=by simpa using o
 have A:=ml y;refine ax<|ab<|ab<|ae<|aa 3 Z<|af Z Z Z (ar Z (xI r.sch t u) Z Z)<|aa 1 Z<|ag<|ab<|ae<|aa 1 Z<|af (t:=bT ((bG r.sch t) !=0)) Z Z Z (ai Z Z Z Zy)<|ag<|aH Z (fun q=>?_) (fun q=>?_)
 ·have z:bG r.sch t≠0:=by simpa using q
  refine ab<|aj 4 Z<|aC<|⟨.inr Z,_,.cons ⟨_,_,_,_,Z,Z,.inl ⟨_,bq,Z,Z⟩⟩ (.cons Z .nil),by unfold sD;rw[show cJ r t=bG r.sch t from by unfold cJ;rw[if_neg (by rw[y];simp),if_pos z]];rw[if_neg z];rfl,io r t⟩
 have h:bG r.sch t=0:=by simpa using q
 refine ax<|ab<|ab<|ae<|aa 3 Z<|af Z Z Z (ar Z (Hk r t.vals s k.tups (fun t I=>(k.tup t I).2)) Z Z)<|aa 5 Z<|ag<|ab<|aj 1 Z<|aH Z (fun m=>?_) (fun m=>?_)
 ·refine ab<|aj 3 Z<|aC<|⟨.inr Z,_,.cons ⟨_,_,_,_,Z,Z,.inl ⟨_,bq,Z,Z⟩⟩ (.cons Z .nil),by unfold sD;rw[show cJ r t=8 from by unfold cJ;rw[if_neg (by rw[y];simp),if_neg (by rw[h];simp),if_pos m]];rfl,io r t⟩
 have w:=m;refine ax<|ab<|ae<|aa 3 Z<|af Z Z Z (ar Z (zZ r t.vals k.cols k.tups) Z Z)<|aa 1 Z<|ag<|ab<|ab<|ae<|aa 2 Z<|af (t:=nI r.tups.length) Z Z Z (ah (bd Z aK Z) (by simp only[L8]))<|af (t:=bT (decide (64<=r.tups.length))) Z Z Z (ah (ai Z Z Z Zy) (av (IJ r.tups.length 64)))<|aa 1 Z<|aA (t:=.sl ((eV r t.vals).map fw)) ((decide (64<=r.tups.length))=false) Z Z Z au Z Z (fun a=>aw Z Z)<|aA (t:=nI ((eV r t.vals).length)) ((decide (64<=r.tups.length))=false) Z Z Z au Z Z (fun a=>ah (bd Z cz (if_pos a)) (by simp only[L8]))<|aA (t:=bT (decide (16<=(eV r t.vals).length))) ((decide (64<=r.tups.length))=false) Z Z Z au Z Z (fun a=>ah (ai Z (if_pos a) Z (fun _=>rfl)) (av (IJ ((eV r t.vals).length) 16)))<|af (t:=bT ((decide (64<=r.tups.length))||(decide (16<=(eV r t.vals).length)))) Z Z Z (aL Z Z (fun g=>(av (by rw[g];rfl))) (fun g=>(if_pos g).trans (av (by rw[g];rfl))))<|ag<|aH Z (fun v=>?_) (fun v=>?_)
 ·refine ab<|aj 3 Z<|aC<|⟨.inr Z,_,.cons ⟨_,_,_,_,Z,Z,.inl ⟨_,bq,Z,Z⟩⟩ (.cons Z .nil),by unfold sD;rw[show cJ r t=4 from by unfold cJ;rw[if_neg (by rw[y];simp),if_neg (by rw[h];simp),if_neg (by rw[w];simp),if_pos (by simpa using v)]];rfl,io r t⟩
 have B:¬(64<=r.tups.length\/16<=(eV r t.vals).length):=by simpa using v
 have b:=Jk r t.vals;have E:=mP A b.2 (by omega);refine ax<|ab<|ab<|ci (fu:=8) [some 50,some 51,some 52,some 53,some 54,some 55,some 56,some 57] [.box 1 1,.agg (aU t.prob),.agg (aT r),.sl ((eV r t.vals).map fw),.agg [bT (decide ((dR r.tups (eV r t.vals)).num<0)),aM ((dR r.tups (eV r t.vals)).num.natAbs),aM ((dR r.tups (eV r t.vals)).den)],.agg [bT (decide ((1-dR r.tups (eV r t.vals)).num<0)),aM ((1-dR r.tups (eV r t.vals)).num.natAbs),aM ((1-dR r.tups (eV r t.vals)).den)],iT (lO t.prob (1-dR r.tups (eV r t.vals))),bT (decide ((lO t.prob (1-dR r.tups (eV r t.vals)))>0))] (by kernel_rfl) Z Z (by kernel_rfl) Z ?_ ?_
 ·refine Chain.op Z (az Z Z dY Z)<|Chain.op Z (aJ Z Z Z aN Z Z)<|Chain.op Z (aJ Z Z Z bq Z Z)<|Chain.op Z (aw Z Z)<|Chain.op Z (ar Z (Fa r _ b.2 (by omega) (fun t I=>(k.tup t I).1.p) (fun j M=>(mP A (fun i H=>b.2 i (MC H)) (by rw[Mf];omega)).1)) Z Z)<|Chain.op Z (ar Z (sv _ E.1) Z Z)<|Chain.op Z (ar Z (Hm _ _ u.p E.2) Z Z)<|Chain.op Z (ai Z Z Z Zy)<|Chain.nil
 refine aF Z (fun l=>?_) (fun l=>?_)
 ·refine ab<|aj 3 Z<|aC<|⟨.inr Z,_,.cons ⟨_,_,_,_,Z,Z,.inl ⟨_,bq,Z,Z⟩⟩ (.cons Z .nil),by unfold sD;rw[show cJ r t=19 from by unfold cJ;rw[if_neg (by rw[y];simp),if_neg (by rw[h];simp),if_neg (by rw[w];simp),if_neg B,if_pos l]];rfl,io r t⟩
 refine ax<|ab<|aj 1 Z<|ab<|aE<|aW (fun K L=>∃(i:Nat),(i<=r.tups.length/\(r.tups.drop i).takeWhile (fun x=>decide (aO x.vals t.vals<0))=(r.tups.takeWhile fun x=>decide (aO x.vals t.vals<0)).drop i/\i<=pN t.vals r.tups)/\K=r.tups.length-i/\L=⟨89,[(2,.box 0 0),(3,.box 1 0),(4,.box 2 0),(11,nI i)],[(30,(aT r)),(67,(bS t)),(30,dS)],[]⟩) 3 0 ⟨0,⟨by omega,Z,by omega⟩,Z,Z⟩ ⟨Z,Z,Z,.cons Z Z (.cons Z Z (.cons Z Z (.cons Z Z .nil))),Z⟩ ?_;rintro K L ⟨i,⟨H,e,J⟩,rfl,rfl⟩;refine ab<|ab<|ci (fu:=17) [some 59,some 60,some 61,some 62,some 63,some 64,some 65,some 66,some 67,some 68,some 69,some 70,some 71,some 72,some 73,some 74,some 75] [nI i,.box 0 3,.sl (r.tups.map Tp.tree),nI r.tups.length,bT (decide (i<r.tups.length)),bT (decide (i<r.tups.length)),if(decide (i<r.tups.length))=true then(.box 0 3:Tree)else .sc undef,if(decide (i<r.tups.length))=true then(.sl (r.tups.map Tp.tree):Tree)else .sc undef,if(decide (i<r.tups.length))=true then(nI i:Tree)else .sc undef,if(decide (i<r.tups.length))=true then(.ref [.sl ((((r.tups[i]?).getD gH).vals).map V.tree),bT (decide (((r.tups[i]?).getD gH).prob.num<0)),aM (((r.tups[i]?).getD gH).prob.num.natAbs),aM (((r.tups[i]?).getD gH).prob.den)]:Tree)else .sc undef,if(decide (i<r.tups.length))=true then(.ref [.sl ((((r.tups[i]?).getD gH).vals).map V.tree),bT (decide (((r.tups[i]?).getD gH).prob.num<0)),aM (((r.tups[i]?).getD gH).prob.num.natAbs),aM (((r.tups[i]?).getD gH).prob.den)]:Tree)else .sc undef,if(decide (i<r.tups.length))=true then(.sl ((((r.tups[i]?).getD gH).vals).map V.tree):Tree)else .sc undef,if(decide (i<r.tups.length))=true then(.box 1 0:Tree)else .sc undef,if(decide (i<r.tups.length))=true then(.sl (t.vals.map V.tree):Tree)else .sc undef,if(decide (i<r.tups.length))=true then(iT (aO ((r.tups[i]?).getD gH).vals t.vals):Tree)else .sc undef,if(decide (i<r.tups.length))=true then(bT (decide ((aO ((r.tups[i]?).getD gH).vals t.vals)<0)):Tree)else .sc undef,bT ((decide (i<r.tups.length))&&(decide ((aO ((r.tups[i]?).getD gH).vals t.vals)<0)))] (by kernel_rfl) Z Z (by kernel_rfl) Z ?_ ?_
 ·refine Chain.op Z (aw Z Z)<|Chain.op Z (az Z Z aV Z)<|Chain.op Z (aD Z Z Z bp Z)<|Chain.op Z (ah (bd Z aK Z) (by simp only[L8]))<|Chain.op Z (ah (ai Z Z Z Zy) (av (iu i r.tups.length)))<|Chain.op Z (aw Z Z)<|Chain.cnd (t:=.box 0 3) 5 true 64 ((decide (i<r.tups.length))=true) Z (by kernel_rfl) au (fun a=>az Z Z aV Z)<|Chain.cnd (t:=.sl (r.tups.map Tp.tree)) 5 true 64 ((decide (i<r.tups.length))=true) Z (by kernel_rfl) au (fun a=>aD Z (if_pos a) Z bp Z)<|Chain.cnd (t:=nI i) 5 true 64 ((decide (i<r.tups.length))=true) Z (by kernel_rfl) au (fun a=>aw Z Z)<|Chain.cnd (t:=.ref [.sl ((((r.tups[i]?).getD gH).vals).map V.tree),bT (decide (((r.tups[i]?).getD gH).prob.num<0)),aM (((r.tups[i]?).getD gH).prob.num.natAbs),aM (((r.tups[i]?).getD gH).prob.den)]) 5 true 64 ((decide (i<r.tups.length))=true) Z (by kernel_rfl) au (fun a=>aQ (Tp.tree ((r.tups[i]?).getD gH)) Z aK (if_pos a) (if_pos a) Z (bf (f:=Tp.tree) (kL (of_decide_eq_true a))) (bQ _) Z)<|Chain.cnd (t:=.ref [.sl ((((r.tups[i]?).getD gH).vals).map V.tree),bT (decide (((r.tups[i]?).getD gH).prob.num<0)),aM (((r.tups[i]?).getD gH).prob.num.natAbs),aM (((r.tups[i]?).getD gH).prob.den)]) 5 true 64 ((decide (i<r.tups.length))=true) Z (by kernel_rfl) au (fun a=>bw Z (if_pos a) b6 Z)<|Chain.cnd (t:=.sl ((((r.tups[i]?).getD gH).vals).map V.tree)) 5 true 64 ((decide (i<r.tups.length))=true) Z (by kernel_rfl) au (fun a=>bE Z (if_pos a) cC Z)<|Chain.cnd (t:=.box 1 0) 5 true 64 ((decide (i<r.tups.length))=true) Z (by kernel_rfl) au (fun a=>az Z Z b6 Z)<|Chain.cnd (t:=.sl (t.vals.map V.tree)) 5 true 64 ((decide (i<r.tups.length))=true) Z (by kernel_rfl) au (fun a=>aD Z (if_pos a) Z cC Z)<|Chain.cnd (t:=iT (aO ((r.tups[i]?).getD gH).vals t.vals)) 5 true 64 ((decide (i<r.tups.length))=true) Z (by kernel_rfl) au (fun a=>ar Z (jj _ _ (B8 k i) s) (eU (if_pos a) (eU (if_pos a) Z)) Z)<|Chain.cnd (t:=bT (decide ((aO ((r.tups[i]?).getD gH).vals t.vals)<0))) 5 true 64 ((decide (i<r.tups.length))=true) Z (by kernel_rfl) au (fun a=>ai Z (if_pos a) Z (fun _=>rfl))<|Chain.op Z (aL Z Z (fun g=>(if_pos g).trans (av (by rw[g];rfl))) (fun g=>(av (by rw[g];rfl))))<|Chain.nil
 refine aH Z (fun c=>?_) (fun c=>?_)
 ·rw[Ma]at c;have G:=of_decide_eq_true c.1;have C:=of_decide_eq_true c.2;refine ax<|aE<|ae<|aa 1 Z<|af (t:=nI (i+1)) Z Z Z (ah (ai Z Z Z Zy) (bu (by omega)))<|aa 1 Z<|ag<|⟨_,_,?_,⟨i+1,?_,Z,Z⟩,⟨Z,Z,Z,.cons Z Z (.cons Z Z (.cons Z Z (.cons Z Z .nil))),Z⟩⟩
  ·omega
  exact⟨by omega,uH (kL (d:=gH) G) C e,Ca (kL (d:=gH) G) C e⟩
 have D:=x7 e J c;refine aZ<|ab<|ae<|aa 1 Z<|af Z Z Z (ar Z (Fw r k) Z Z)<|aa 2 Z<|ag<|ab<|dH (ops:=[_,_,_,_,_,_,_,_]) (fu:=9) (bs':=[(30,(aT r)),(67,(bS t)),(30,dS),(30,[sT r.sch.name,bT r.sch.cert,.sl (r.sch.cols.map Col.tree),.sl ((r.tups.take i++[t]++r.tups.drop i).map Tp.tree)])]) [some 80,some 81,some 82,some 83,some 84,some 85,some 86,some 87] [.box 3 3,(.tl (r.tups.map Tp.tree)),nI i,.agg (bS t),.agg (bS t),.sl [.agg (bS t)],.sl ((r.tups.take i++[t]++r.tups.drop i).map Tp.tree),.box 3 3] (by kernel_rfl) Z Z Z Z Z (by kernel_rfl) (by kernel_rfl) Z Z Z Z Z Z Z Z nJ Z Z Z ?_ ?_
 ·refine Chain.op Z (az Z Z aV Z)<|Chain.op Z (aD Z Z Z bp Z)<|Chain.op Z (aw Z Z)<|Chain.op Z (aJ Z Z Z ez Z Z)<|Chain.op Z (ar Z (uG t u s) Z Z)<|Chain.op Z (a6 Z aK go Z (by decide) (by decide) Z Z Z Z Z)<|Chain.op Z (ar Z (z8 r.tups t i H (by omega)) Z Z)<|Chain.op Z (az Z Z aV Z)<|Chain.nil
 refine ab<|aj 3 Z<|aC<|⟨.inr Z,_,.cons ⟨_,_,_,_,Z,Z,.inl ⟨_,bq,Z,Z⟩⟩ (.cons Z .nil),by unfold sD;rw[show cJ r t=0 from by unfold cJ;rw[if_neg (by rw[y];simp),if_neg (by rw[h];simp),if_neg (by rw[w];simp),if_neg B,if_neg l],if_pos Z];unfold bD;rw[<-D];rfl,io r t⟩
theorem Df(r:Rel)(t:Tp)(c:FitR r)(a:FitT t)(b:t.vals.length<=65536)(h:cJ r t=0):Ct 30 [r.tree,t.tree] (.tup [(bD r t).tree,iT 0]):=by
 have:=uI r t c a b;unfold sD at this;rwa[if_pos h,h]at this
theorem Al(r:Rel)(t:Tp)(c:FitR r)(a:FitT t)(b:t.vals.length<=65536)(h:cJ r t≠0):Ct 30 [r.tree,t.tree] (.tup [qZ,iT (cJ r t)]):=by
 have:=uI r t c a b;unfold sD at this;rwa[if_neg h]at this
theorem Ao(n:Nat)(c:n<=18446744073709551615):Ct 212 [.sc (.int .u64 (n:Nat))] (nI (Lib.bitLen n)):=Ct.sc ⟨_,Tryz.func212,Z,Z⟩ fun G w vs _ _ a=>by
 obtain⟨u,rfl,b⟩:=cR a;cases b;refine(Tryz.bits_Len (n:Int) w (by omega) (by omega)).mono fun e w' h=>?_
 rw[Oq]at h;exact⟨h.1,by rw[h.2];exact Below.refl _ _⟩
theorem oZ:∀(f n:Nat),n<2^f->n<2^Lib.bitLenAux f n
 |0,n,h=>by
  have:n=0:=by simpa using h
  subst this;decide
 |f+1,n,h=>by
  unfold Lib.bitLenAux;split
  ·omega
  have:=oZ f (n/2) (by rw[MM]at h;omega);rw[NW,MM];omega
theorem jd:∀(f n:Nat),Lib.bitLenAux f n<=f
 |0,n=>L5 _
 |f+1,n=>by
  unfold Lib.bitLenAux;split
  ·omega
  have:=jd f (n/2);omega
theorem x8{x y:Operand}(a j:Nat)(b:j<=64)(w:World):(do eqGuard .shr 3 x y (.int .i64 (a:Nat)) (.int .i64 ((j:Nat):Int));binOp .shr 3 (.int .i64 (a:Nat)) (.int .i64 ((j:Nat):Int)):Sem Value).run Tryz.prog w=.ok (.int .i64 ((a/2^j:Nat):Int)) w:=by
 simp[eqGuard,binOp];try omega
theorem Fx(n:Int):bits .and .i64 n 1=n%2:=by
 have a:(BitVec.ofInt 64 1).toNat=2^1-1:=by decide
 have key:(BitVec.ofInt 64 n&&& BitVec.ofInt 64 1).toNat=(n%((2^64:Nat):Int)).toNat%2^1:=by
  rw[BitVec.toNat_and,BitVec.toNat_ofInt,a,On]
 show IntKind.i64.wrap ((BitVec.ofInt 64 n&&& BitVec.ofInt 64 1).toNat:Nat)=n%2
 rw[key,Ns];omega
theorem x9{x y:Operand}(a:Nat)(w:World):(do eqGuard .and 3 x y (.int .i64 (a:Nat)) (.int .i64 1);binOp .and 3 (.int .i64 (a:Nat)) (.int .i64 1):Sem Value).run Tryz.prog w=.ok (.int .i64 ((a%2:Nat):Int)) w:=by
 have key:bits .and .i64 (a:Int) 1=((a%2:Nat):Int):=by rw[Fx];omega
 go_simp
theorem Fy{a:Int}(h: -9223372036854775808<=a)(b:a<=9223372036854775807):(Tree.sc (.int .i64 (IntKind.i64.wrap a)))=iT a:=by
 rw[Ns];congr 2;omega
theorem Dg:c8 10=4:=by decide+kernel
theorem ten_len{k m:Nat}(h:k<=m):(ay (10^k)).length<=m+1:=aR (NC (L6 (MP (by decide) h) (OJ (show 10<=4294967296 by decide) m)) (NS (by decide) (Po m)))
theorem ten_len4{n m:Nat}(h:n<=4*m)(a:m≠0):(ay (10^n)).length<=m:=by
 refine aR (NC (MP (by decide) h) ?_);rw[PF];exact Nat.pow_lt_pow_left (by decide) a
theorem o0{k n:Nat}(h:k<=n)(a:n<=4000):(ay (10^k)).length<=1048576:=L6 (ten_len (m:=4000) (by omega)) (by decide)
theorem Dh{n:Nat}(a:n<=4000):(ay (10^n)).length<=262144:=L6 (ten_len (m:=4000) (by omega)) (by decide)
theorem Ht{k n:Nat}(h:k<=n)(a:n<=4000):(ay (10^k*10^k)).length<=1048576:=by
 rw[<-N2];exact L6 (ten_len (m:=8000) (by omega)) (by decide)
theorem KA{a:Nat}(h:a<18446744073709551616):(Tree.sc (.int .u64 (IntKind.u64.wrap (a:Nat))))=.sc (.int .u64 ((a:Nat):Int)):=by
 rw[IntKind.wrap_u64];congr 2;omega
theorem Hu{n:Nat}(h:n<=4000):Ct 149 [.sc (.int .u64 1)] (aM (10^(n/2^Lib.bitLen n))):=by
 have a:=kz 1 (by decide);rw[show n/2^Lib.bitLen n=0 from Oa (oZ 64 n (by omega))];exact a
theorem Jq{n i j:Nat}(a:j=i+1)(b:¬n/2^i%2=1):10^(n/2^j)*10^(n/2^j)=10^(n/2^i):=by
 subst a;rw[<-N2,MM,<-Ov];congr 1;omega
theorem Hv{n i j:Nat}(a:j=i+1)(b:n/2^i%2=1):10^(n/2^j)*10^(n/2^j)*10=10^(n/2^i):=by
 subst a;rw[<-N2,<-MM,MM 2,<-Ov];congr 1;omega
theorem Di{n:Nat}(a:n<=4000):c8 (10^n)<=65536:=by
 have b:=ten_len4 (m:=1000) (n:=n) (by omega) (by decide);unfold c8;split
 ·omega
 have:Lib.bitLen ((ay (10^n)).getD ((ay (10^n)).length-1) 0)<=64:=jd 64 _;omega
theorem Hw(n:Nat)(h:n<=4000):Ct 150 [aM 10,iT (n:Nat)] (.tup [aM (10^n),iT 0]):=by
 refine Ct.of (n:=59) Tryz.func150 Z Z Z Z Z fun w0 G0=>?_
 refine ab<|ae<|af (t:=.sl []) Z Z Z (cW (.inr Z) dI)<|aa 1 Z<|ag<|ab<|ab<|ae<|aa 1 Z<|af (t:=bT (decide (n<0))) Z Z Z (ah (ai Z Z Z Zy) (av (iu n 0)))<|ag<|aF Z (fun k=>?_) (fun k=>?_)
 ·exact absurd k (by first|decide|omega|simp)
 refine ax<|ab<|ae<|aa 1 Z<|af (t:=nI 4) Z Z Z (ar Z (by have h:=pL 10 (by decide);rw[Dg]at h;exact h) Z Z)<|aa 1 Z<|ag<|ab<|ab<|ae<|aa 1 Z<|af (t:=bT (decide (n=0))) Z Z Z (ah (ai Z Z Z Zy) (av (lY n 0)))<|aa 1 Z<|aA (t:=nI 4) ((decide (n=0))=false) Z Z Z au Z Z (fun b=>aw Z Z)<|aA (t:=bT (decide (4=1))) ((decide (n=0))=false) Z Z Z au Z Z (fun b=>ah (ai Z (if_pos b) Z (fun _=>rfl)) (av (lY 4 1)))<|af (t:=bT ((decide (n=0))||(decide (4=1)))) Z Z Z (aL Z Z (fun a=>(av (by rw[a];rfl))) (fun a=>(if_pos a).trans (av (by rw[a];rfl))))<|ag<|aH Z (fun e=>?_) (fun e=>?_)
 ·obtain rfl:n=0:=by simpa using e
  refine ab<|ae<|af Z Z Z (ar Z (kz 1 (by decide)) Z Z)<|aa 2 Z<|ag<|aC<|⟨.inr Z,_,.cons Z (.cons Z .nil),Z,Z⟩
 have z:n≠0:=by simpa using e
 refine ax<|ab<|ab<|ae<|aa 1 Z<|af (t:=bT (decide (4=0))) Z Z Z (ah (ai Z Z Z Zy) (av (lY 4 0)))<|ag<|aF Z (fun g=>?_) (fun g=>?_)
 ·exact absurd g (by first|decide|omega|simp)
 refine ax<|ab<|ab<|ae<|aa 1 Z<|af (t:=bT (decide (65536<=n))) Z Z Z (ah (ai Z Z Z Zy) (av (IJ n 65536)))<|aa 1 Z<|aA (t:=nI 4) ((decide (65536<=n))=false) Z Z Z au Z Z (fun b=>aw Z Z)<|aA (t:=bT (decide (65536<4))) ((decide (65536<=n))=false) Z Z Z au Z Z (fun b=>ah (ai Z (if_pos b) Z (fun _=>rfl)) (av (tE 4 65536)))<|af (t:=bT ((decide (65536<=n))||(decide (65536<4)))) Z Z Z (aL Z Z (fun a=>(av (by rw[a];rfl))) (fun a=>(if_pos a).trans (av (by rw[a];rfl))))<|aa 1 Z<|aA (t:=nI n) (((decide (65536<=n))||(decide (65536<4)))=false) Z Z Z au Z Z (fun b=>aw Z Z)<|aA (t:=nI 4) (((decide (65536<=n))||(decide (65536<4)))=false) Z Z Z au Z Z (fun b=>aw Z Z)<|aA (t:=nI (4-1)) (((decide (65536<=n))||(decide (65536<4)))=false) Z Z Z au Z Z (fun b=>ah (ai Z (if_pos b) Z (fun _=>rfl)) (bu (by omega)))<|aA (t:=nI (n*(4-1))) (((decide (65536<=n))||(decide (65536<4)))=false) Z Z Z au Z Z (fun b=>ah (ai Z (if_pos b) (if_pos b) (fun _=>rfl)) (bu (by omega)))<|aA (t:=bT (decide (65536<=n*(4-1)))) (((decide (65536<=n))||(decide (65536<4)))=false) Z Z Z au Z Z (fun b=>ah (ai Z (if_pos b) Z (fun _=>rfl)) (av (IJ (n*(4-1)) 65536)))<|af (t:=bT (((decide (65536<=n))||(decide (65536<4)))||(decide (65536<=n*(4-1))))) Z Z Z (aL Z Z (fun a=>(av (by rw[a];rfl))) (fun a=>(if_pos a).trans (av (by rw[a];rfl))))<|ag<|aH Z (fun m=>?_) (fun m=>?_)
 ·exact absurd m (by simp;omega)
 refine ax<|ab<|ae<|af Z Z Z (ar Z (Hu h) Z Z)<|aa 1 Z<|ag<|ab<|ab<|ae<|aa 1 Z<|af (t:=.sc (.int .u64 ((n:Nat):Int))) Z Z Z (ah (k7 Z mR nF Z) (KA (by omega)))<|af Z Z Z (ar Z (Ao n (by omega)) Z Z)<|af (t:=iT (((Lib.bitLen n:Nat):Int)-1)) Z Z Z (ah (ai Z Z Z Zy) (Fy (by omega) (by have:=jd 64 n;unfold Lib.bitLen;omega)))<|aa 1 Z<|ag<|aE<|aW (fun v x=>∃(j:Nat),(j<=64/\n<2^64)/\v=j+1/\x=⟨59,[(0,aM 10),(1,nI n),(7,aM (10^(n/2^j))),(8,iT (((j:Nat):Int)-1))],[],[]⟩) 0 0 ⟨(Lib.bitLen n),⟨jd 64 n,by omega⟩,Z,Z⟩ ⟨Z,Z,Z,.cons Z Z (.cons Z Z (.cons Z Z (.cons Z Z .nil))),Z⟩ ?_;rintro v x ⟨j,⟨A,d⟩,rfl,rfl⟩;refine ab<|ab<|ae<|aa 1 Z<|af (t:=bT (decide ((((j:Nat):Int)-1)≥0))) Z Z Z (ai Z Z Z Zy)<|ag<|aF Z (fun u=>?_) (fun u=>?_)
 ·obtain⟨i,o⟩:∃i,j=i+1:=⟨j-1,by omega⟩;have c:n/2^j<=n:=NY _ _;have y:n/2^i<=n:=NY _ _;refine ax<|ab<|aE<|ab ?_;by_cases s:n/2^i%2=1
  ·refine ae<|aa 2 Z<|af Z Z Z (ar Z (oI _ _ (o0 c h) (o0 c h)) Z Z)<|aa 1 Z<|ag<|ab<|ae<|aa 1 Z<|af (t:=nI i) Z Z Z (ah (aw Z Z) ((ep (by omega))))<|af (t:=nI (n/2^i)) Z Z Z (ai Z Z Z (fun w=>x8 n i (by omega) w))<|af (t:=nI (n/2^i%2)) Z Z Z (ai Z Z Z (fun w=>x9 (n/2^i) w))<|af (t:=bT (decide (n/2^i%2=1))) Z Z Z (ah (ai Z Z Z Zy) (av (lY (n/2^i%2) 1)))<|ag<|aF Z (fun l=>?_) (fun l=>?_)
   ·refine ae<|aa 2 Z<|af (t:=aM (10^(n/2^i))) Z Z Z (ar Z (by have p:=oI _ 10 (Ht c h) (by decide);rw[Hv o s]at p;exact p) Z Z)<|aa 1 Z<|ag<|ae<|af (t:=nI i) Z Z Z (ah (aw Z Z) ((ep (by omega))))<|af (t:=iT (((i:Nat):Int)-1)) Z Z Z (ah (ai Z Z Z Zy) (Fy (by omega) (by omega)))<|aa 1 Z<|ag<|⟨_,_,?_,⟨i,?_,Z,Z⟩,⟨Z,Z,Z,.cons Z Z (.cons Z Z (.cons Z Z (.cons Z Z .nil))),Z⟩⟩
    ·omega
    exact⟨by omega,d⟩
   exact absurd s l
  refine ae<|aa 2 Z<|af (t:=aM (10^(n/2^i))) Z Z Z (ar Z (by have p:=oI _ _ (o0 c h) (o0 c h);rw[Jq o s]at p;exact p) Z Z)<|aa 1 Z<|ag<|ab<|ae<|aa 1 Z<|af (t:=nI i) Z Z Z (ah (aw Z Z) ((ep (by omega))))<|af (t:=nI (n/2^i)) Z Z Z (ai Z Z Z (fun w=>x8 n i (by omega) w))<|af (t:=nI (n/2^i%2)) Z Z Z (ai Z Z Z (fun w=>x9 (n/2^i) w))<|af (t:=bT (decide (n/2^i%2=1))) Z Z Z (ah (ai Z Z Z Zy) (av (lY (n/2^i%2) 1)))<|ag<|aF Z (fun q=>?_) (fun q=>?_)
  ·exact absurd q s
  refine ax<|ae<|af (t:=nI i) Z Z Z (ah (aw Z Z) ((ep (by omega))))<|af (t:=iT (((i:Nat):Int)-1)) Z Z Z (ah (ai Z Z Z Zy) (Fy (by omega) (by omega)))<|aa 1 Z<|ag<|⟨_,_,?_,⟨i,?_,Z,Z⟩,⟨Z,Z,Z,.cons Z Z (.cons Z Z (.cons Z Z (.cons Z Z .nil))),Z⟩⟩
  ·omega
  exact⟨by omega,d⟩
 have f:n/2^j=n:=by
  obtain rfl:j=0:=by omega
  simp
 refine aZ<|ab<|ab<|ae<|aa 1 Z<|af Z Z Z (ar Z (pL _ (by rw[f];exact Dh h)) Z Z)<|af (t:=bT (decide (65536<(c8 (10^(n/2^j)))))) Z Z Z (ah (ai Z Z Z Zy) (av (tE ((c8 (10^(n/2^j)))) 65536)))<|ag<|aF Z (fun r=>?_) (fun r=>?_)
 ·exact absurd (Di h) (by rw[f]at r;omega)
 refine ax<|ab<|aj 3 Z<|aC<|⟨.inr Z,_,.cons Z (.cons Z .nil),by rw[f];rfl,Z⟩
end Go.Proofs.YtfoejfohbkmmeaaGreatDoor
