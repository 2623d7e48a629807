import Derived.Test.YtfoejfohbkmmeaaGreatDoorK24
set_option maxRecDepth 100000
set_option maxHeartbeats 4000000
set_option linter.defProp false
open Go.Proofs.Tryz
namespace Go.Proofs.YtfoejfohbkmmeaaGreatDoor
open Go.RowKit
open Lib renaming hid→J
def yz{vs:List V}{ts:List Tp}{i:Nat}{t:Tp}(h:ts[i]? =some t)(b:bw t.vals vs<0)(a:(ts.drop i).takeWhile (λt=>decide (bw t.vals vs<0))=(ts.takeWhile λt=>decide (bw t.vals vs<0)).drop i):(ts.drop (i+1)).takeWhile (λt=>decide (bw t.vals vs<0))=(ts.takeWhile λt=>decide (bw t.vals vs<0)).drop (i+1):=by
 obtain⟨c,rfl⟩:=Q6.1 h;rw[Re c,SA,decide_eq_true b]at a;have:=congrArg List.tail a;simpa[List.tail_drop]using this
def xr:Tp:=⟨[],0⟩
def mx{α:Type}{l:List α}{i:Nat}{d:α}(h:i<l.length):l[i]? =some ((l[i]?).getD d):=by rw[Q2 h];rfl
def F3{r:Rel}(a:FitR r)(i:Nat):((r.tups[i]?).getD xr).vals.length<=65536:=by
 cases h:r.tups[i]? with
 |none=>simp[xr]
 |some t=>exact(a.tup t (Q8 h)).2
def B1{vs:List V}{ts:List Tp}{i:Nat}(c:(ts.drop i).takeWhile (λt=>decide (bw t.vals vs<0))=(ts.takeWhile λt=>decide (bw t.vals vs<0)).drop i)(e:i<=Ao vs ts)(b:(decide (i<ts.length)&&decide (bw ((ts[i]?).getD xr).vals vs<0))=false):i=Ao vs ts:=by
 have d:(ts.drop i).takeWhile (λt=>decide (bw t.vals vs<0))=[]:=by
  by_cases a:i<ts.length
  ·rw[Re a,SA];rw[decide_eq_true a,Tx,Q2 a,RH]at b;rw[b];rfl
  rw[Rc O];rfl
 rw[d]at c;have:=congrArg List.length c;rw[Rm]at this;unfold Ao at e⊢;simp only[Ra]at this;omega
def F4{vs:List V}{ts:List Tp}{i:Nat}{t:Tp}(h:ts[i]? =some t)(b:bw t.vals vs<0)(a:(ts.drop i).takeWhile (λt=>decide (bw t.vals vs<0))=(ts.takeWhile λt=>decide (bw t.vals vs<0)).drop i):i+1<=Ao vs ts:=by
 obtain⟨c,rfl⟩:=Q6.1 h;rw[Re c,SA,decide_eq_true b]at a;have:=congrArg List.length a;rw[Rm]at this;unfold Ao;simp only[if_true,Q5]at this;omega
def oA{r:Rel}(h:bK r=0):ci r.sch none r.tups=0:=by
 unfold bK at h;split at h
 ·cases h
 split at h
 ·cases h
 split at h
 ·next h1=>exact absurd h h1
 next h1=>exact SL.1 h1
def jF(r:Rel)(t:Tp):(vG r t).plain=true:=by unfold vG;split<;>rfl
def k7:(prog.info? 28).map (·.size)=some 1:=U
def lJ(r:Rel)(hf:FitR r):Ct 21 [r.tree] (iT (bK r)):=by
 refine Ct.of (n:=76) func21 Z Z Z Z Z λw0 G0=>?_
 refine X 2 Z<|H<|C<|M 2 Z (D Z (kX r.sch) Z Z)<|M 0 (t:=bT (!(im r.sch))) Z (dm Z Z Zy)<|E<|aK Z (λA=>?_) (λA=>?_)
 ·refine X 1 Z<|aM ⟨Z,ej (by unfold bK;rw[if_pos (by simpa using A)]),Z⟩ Z
 have d:im r.sch=true:=by simpa using A
 refine ar<|H<|C<|M 2 Z (aU Z aV Z)<|aI 0 Z Z Zy (B (nZ r.tups.length 64))<|E<|ay Z (λc=>?_) (λc=>?_)
 ·refine X 1 Z<|aM ⟨Z,ej (by unfold bK;rw[if_neg (by rw[d];simp),if_pos c]),Z⟩ Z
 refine ar<|H<|C<|M 2 Z (aU Z aV Z)<|Y 1 Z<|aB<|aT (λy u=>∃(i:Nat),(i<=r.tups.length/\ci r.sch (iN r.tups i) (r.tups.drop i)=ci r.sch none r.tups)/\y=r.tups.length-i/\u=⟨76,[(1,.box 0 0),(20,.sl (r.tups.map Tp.tree)),(21,nI r.tups.length),(22,nI i)],[(30,(bQ r))],[]⟩) 1 0 ⟨0,⟨O0,Z⟩,Z,Z⟩ .rf ?_;rintro y u ⟨i,⟨hi,a⟩,rfl,rfl⟩;refine C<|aI 0 Z Z Zy (B (gF i r.tups.length))<|E<|H<|ay Z (λS=>?_) (λS=>?_)
 ·obtain⟨t,s⟩:∃t,r.tups[i]? =some t:=⟨_,Q2 S⟩;have a0:=hf.tup t (Q8 s);refine ar<|H<|aB<|C<|M 1 (t:=.ref (eA t)) Z (aO (Tp.tree t) Z aV Z Z Z (bd (f:=Tp.tree) s) (c6 _) Z)<|Y 4 Z<|H<|C<|M 3 Z (D Z (BL r.sch t a0.1) Z Z)<|Y 1 Z<|C<|M 1 (t:=bT ((ch r.sch t) !=0)) Z (aC Z Z Z Zy)<|E<|aK Z (λF=>?_) (λF=>?_)
  ·have a1:ch r.sch t≠0:=by simpa using F
   refine X 2 Z<|aM ⟨Z,ej (by unfold bK;rw[if_neg (by rw[d];simp),if_neg c,<-a,tk s a1,if_pos a1]),Z⟩ Z
  have U:ch r.sch t=0:=by simpa using F
  refine ar<|H<|C<|aI 1 Z Z Zy (B (gL i 0))<|E<|ay Z (λG=>?_) (λG=>?_)
  ·rw[rc s U G]at a;refine aX<|am<|a8 0 (i+1) Z Z Zy O0<|Y 1 Z<|⟨_,_,?_,⟨i+1,?_,Z,Z⟩,.rf⟩
   ·omega
   exact⟨O0,a⟩
  obtain⟨p,O⟩:∃p,r.tups[i-1]? =some p:=⟨_,Q2 O0⟩;have a4:=hf.tup p (Q8 O);rw[tm s U G O]at a;refine ar<|H<|cB (fu:=10) _ [.box 0 3,.sl (r.tups.map Tp.tree),nI i,nI (i-1),.ref (eA p),.ref (eA p),.sl (p.vals.map V.tree),.box 1 0,.sl (t.vals.map V.tree),iT (bw p.vals t.vals)] U0 Z Z U0 Z ?_ ?_
  ·refine Chain.op Z (aq Z Z a6 Z)<|Chain.op Z (av Z Z Z bJ Z)<|Chain.op Z (K Z Z)<|Chain.op Z (aj (aC Z Z Z Zy) (kK O0))<|Chain.op Z (aO (Tp.tree p) Z aV Z Z Z (bd (f:=Tp.tree) O) (c6 _) Z)<|Chain.op Z (bL Z Z cz Z)<|Chain.op Z (bi Z Z di Z)<|Chain.op Z (aq Z Z cz Z)<|Chain.op Z (av Z Z Z di Z)<|Chain.op Z (D Z (ku _ _ a4.2 a0.2) Z Z)<|Chain.nil
  refine aB<|C<|M 0 (t:=bT ((bw p.vals t.vals)==0)) Z (aC Z Z Z Zy)<|Y 1 Z<|aK Z (λI=>?_) (λI=>?_)
  ·refine X 1 Z<|aM ⟨Z,ej (by unfold bK;rw[if_neg (by rw[d];simp),if_neg c,<-a,if_pos (eq_of_beq I)];rfl),Z⟩ Z
  have x:¬bw p.vals t.vals=0:=by simpa using I
  refine C<|M 0 (t:=bT ((bw p.vals t.vals)==1)) Z (aC Z Z Z Zy)<|Y 1 Z<|aK Z (λJ=>?_) (λJ=>?_)
  ·refine X 1 Z<|aM ⟨Z,ej (by unfold bK;rw[if_neg (by rw[d];simp),if_neg c,show ci r.sch none r.tups=1 from by rw[<-a,if_neg x,if_pos (eq_of_beq J)]];rfl),Z⟩ Z
  have a2:¬bw p.vals t.vals=1:=by simpa using J
  rw[if_neg x,if_neg a2]at a;refine ar<|am<|a8 0 (i+1) Z Z Zy O0<|Y 1 Z<|⟨_,_,?_,⟨i+1,?_,Z,Z⟩,.rf⟩
  ·omega
  exact⟨O0,a⟩
 have e:ci r.sch none r.tups=0:=by rw[<-a,Rc O0];cases iN r.tups i<;>rfl
 refine aX<|C<|M 1 Z (D Z (Hh r hf (BQ e)) Z Z)<|Y 1 Z<|H<|C<|M 1 Z (aU Z cQ Z)<|Y 1 Z<|aB<|aT (λy u=>∃(j:Nat),(j<=(bF r).length/\∀(m:Nat) (b:List Nat),(bF r)[m]? =some b->m<j->¬16<b.length)/\y=(bF r).length-j/\u=⟨76,[(1,.box 0 0),(6,.sl ((bF r).map j0)),(53,.sl ((bF r).map j0)),(54,nI ((bF r).length)),(55,nI j)],[(30,(bQ r))],[]⟩) 1 0 ⟨0,⟨O0,λm b _ h=>O0⟩,Z,Z⟩ .rf ?_;rintro y u ⟨j,⟨hj,v⟩,rfl,rfl⟩;have a5:=vJ r;refine C<|aI 0 Z Z Zy (B (gF j ((bF r).length)))<|E<|H<|ay Z (λT=>?_) (λT=>?_)
 ·obtain⟨b,z⟩:∃b,(bF r)[j]? =some b:=⟨_,Q2 T⟩;refine ar<|H<|aB<|C<|M 0 (t:=.ref [.sl (b.map gO)]) Z (aO (j0 b) Z cQ Z Z Z (bd (f:=j0) z) (nt _) Z)<|Y 2 Z<|C<|M 1 Z (aU Z dj Z)<|aI 0 Z Z Zy (B (nZ b.length 16))<|E<|ay Z (λL=>?_) (λL=>?_)
  ·refine X 1 Z<|aM ⟨Z,ej (by unfold bK;rw[if_neg (by rw[d];simp),if_neg c,if_neg (by rw[e];simp),if_pos (ym z L)]),Z⟩ Z
  refine ar<|am<|a8 0 (j+1) Z Z Zy O0<|Y 1 Z<|⟨_,_,?_,⟨j+1,?_,Z,Z⟩,.rf⟩
  ·omega
  refine⟨O0,λm b N h=>?_⟩;rcases RE m j with Q|Q
  ·exact v m b N Q
  obtain rfl:m=j:=O0
  rw[z]at N;cases N;exact L
 have g:tS (bF r)=false:=pZ λk b P=>v k b P (by have:=(Q6.1 P).1;omega)
 refine aX<|H<|C<|M 1 Z (aU Z cQ Z)<|Y 1 Z<|aB<|aT (λy u=>∃(k:Nat),(k<=(bF r).length/\∀(m:Nat) (b:List Nat),(bF r)[m]? =some b->m<k->¬dk (1-gR r.tups b)<0)/\y=(bF r).length-k/\u=⟨76,[(1,.box 0 0),(6,.sl ((bF r).map j0)),(63,.sl ((bF r).map j0)),(64,nI ((bF r).length)),(65,nI k)],[(30,(bQ r))],[]⟩) 1 0 ⟨0,⟨O0,λm b _ h=>O0⟩,Z,Z⟩ .rf ?_;rintro y u ⟨k,⟨P,a3⟩,rfl,rfl⟩;refine C<|aI 0 Z Z Zy (B (gF k ((bF r).length)))<|E<|H<|ay Z (λw=>?_) (λw=>?_)
 ·obtain⟨b,o⟩:∃b,(bF r)[k]? =some b:=⟨_,Q2 w⟩;have l:=yn r b (Q8 o);have R:b.length<=16:=by have:=Tg.1 g b (Q8 o);simpa using this
  have W:=o5 e l.2 R;refine ar<|H<|aB<|C<|M 0 (t:=.ref [.sl (b.map gO)]) Z (aO (j0 b) Z cQ Z Z Z (bd (f:=j0) o) (nt _) Z)<|Y 2 Z<|C<|M 2 Z (D Z (Ka r b l.2 O0 (λt ht=>(hf.tup t ht).1.p) (λj hj=>(o5 e (λi hi=>l.2 i (RG hi)) (by rw[Rb];omega)).1)) Z Z)<|M 0 Z (D Z (vo _ W.1) Z Z)<|M 0 Z (D Z (mn _ W.2) Z Z)<|M 0 (t:=bT (decide ((dk (1-gR r.tups b))<0))) Z (aC Z Z Z Zy)<|E<|ay Z (λq=>?_) (λq=>?_)
  ·refine X 1 Z<|aM ⟨Z,ej (by unfold bK;rw[if_neg (by rw[d];simp),if_neg c,if_neg (by rw[e];simp),if_neg (by rw[g];simp),if_pos (vF o q)]),Z⟩ Z
  refine ar<|am<|a8 0 (k+1) Z Z Zy O0<|Y 1 Z<|⟨_,_,?_,⟨k+1,?_,Z,Z⟩,.rf⟩
  ·omega
  refine⟨O0,λm b N h=>?_⟩;rcases RE m k with Q|Q
  ·exact a3 m b N Q
  obtain rfl:m=k:=O0
  rw[o]at N;cases N;exact q
 refine aX<|X 1 Z<|aQ<|⟨.inr Z,_,.cons Z .nil,ej (by unfold bK;rw[if_neg (by rw[d];simp),if_neg c,if_neg (by rw[e];simp),if_neg (by rw[g];simp),if_neg (by rw[ou λk b P=>a3 k b P (by have:=(Q6.1 P).1;omega)];simp)]),Z⟩
def yA(r:Rel)(t:Tp)(h:FitR r)(u:FitT t)(v:t.vals.length<=65536):Ct 30 [r.tree,t.tree] (vG r t):=by
 refine Ct.of (n:=89) func30 Z Z Z Z Z λw0 G0=>?_
 refine X 4 Z<|H<|C<|M 1 Z (D Z (lJ r h) Z Z)<|Y 1 Z<|C<|M 1 (t:=bT ((bK r) !=0)) Z (aC Z Z Z Zy)<|E<|aK Z (λk=>?_) (λk=>?_)
 ·have L:bK r≠0:=by simpa using k
  refine X 4 Z<|aQ<|⟨.inr Z,_,.cons (co Z Z bf Z) (.cons Z .nil),by unfold vG;rw[show d5 r t=bK r from by unfold d5;rw[if_pos L]];rw[if_neg L];rfl,jF r t⟩
 have w:bK r=0:=by simpa using k
 have J:=oA w;refine ar<|H<|C<|M 3 Z (D Z (BL r.sch t u) Z Z)<|Y 1 Z<|C<|M 1 (t:=bT ((ch r.sch t) !=0)) Z (aC Z Z Z Zy)<|E<|aK Z (λl=>?_) (λl=>?_)
 ·have A:ch r.sch t≠0:=by simpa using l
  refine X 4 Z<|aQ<|⟨.inr Z,_,.cons (co Z Z bf Z) (.cons Z .nil),by unfold vG;rw[show d5 r t=ch r.sch t from by unfold d5;rw[if_neg (by rw[w];simp),if_pos A]];rw[if_neg A];rfl,jF r t⟩
 have g:ch r.sch t=0:=by simpa using l
 refine ar<|H<|C<|M 3 Z (D Z (MQ r t.vals v h.tups (λt Q=>(h.tup t Q).2)) Z Z)<|Y 5 Z<|X 1 Z<|aK Z (λm=>?_) (λm=>?_)
 ·refine X 3 Z<|aQ<|⟨.inr Z,_,.cons (co Z Z bf Z) (.cons Z .nil),by unfold vG;rw[show d5 r t=8 from by unfold d5;rw[if_neg (by rw[w];simp),if_neg (by rw[g];simp),if_pos m]];rfl,jF r t⟩
 have s:=m;refine ar<|C<|M 3 Z (D Z (Ed r t.vals h.cols h.tups) Z Z)<|Y 1 Z<|H<|C<|M 2 Z (aU Z aV Z)<|aI 0 Z Z Zy (B (GC r.tups.length 64))<|ax 1 Z<|N Z Z Z Z (λa=>K Z Z)<|N Z Z Z Z (λa=>aU Z dj (if_pos a))<|N Z Z Z Z (λa=>aj (aC Z (if_pos a) Z (λ_=>rfl)) (B (GC ((kT r t.vals).length) 16)))<|M 0 Z (dD Z Z Z Z)<|E<|aK Z (λo=>?_) (λo=>?_)
 ·refine X 3 Z<|aQ<|⟨.inr Z,_,.cons (co Z Z bf Z) (.cons Z .nil),by unfold vG;rw[show d5 r t=4 from by unfold d5;rw[if_neg (by rw[w];simp),if_neg (by rw[g];simp),if_neg (by rw[s];simp),if_pos (by simpa using o)]];rfl,jF r t⟩
 have y:¬(64<=r.tups.length\/16<=(kT r t.vals).length):=by simpa using o
 have b:=OO r t.vals;have F:=o5 J b.2 O0;refine ar<|H<|H<|cB (fu:=8) _ [.box 1 1,.agg (bj t.prob),.agg (bQ r),.sl ((kT r t.vals).map gO),.agg (bj (gR r.tups (kT r t.vals))),.agg (bj (1-gR r.tups (kT r t.vals))),iT (sF t.prob (1-gR r.tups (kT r t.vals))),bT (decide ((sF t.prob (1-gR r.tups (kT r t.vals)))>0))] U0 Z Z U0 Z ?_ ?_
 ·refine Chain.op Z (aq Z Z eD Z)<|Chain.op Z (aN Z Z Z aH Z Z)<|Chain.op Z (aN Z Z Z bf Z Z)<|Chain.op Z (K Z Z)<|Chain.op Z (D Z (Ka r _ b.2 O0 (λt Q=>(h.tup t Q).1.p) (λj T=>(o5 J (λi O=>b.2 i (RG O)) (by rw[Rb];omega)).1)) Z Z)<|Chain.op Z (D Z (vo _ F.1) Z Z)<|Chain.op Z (D Z (MS _ _ u.p F.2) Z Z)<|Chain.op Z (aC Z Z Z Zy)<|Chain.nil
 refine ay Z (λq=>?_) (λq=>?_)
 ·refine X 3 Z<|aQ<|⟨.inr Z,_,.cons (co Z Z bf Z) (.cons Z .nil),by unfold vG;rw[show d5 r t=19 from by unfold d5;rw[if_neg (by rw[w];simp),if_neg (by rw[g];simp),if_neg (by rw[s];simp),if_neg y,if_pos q]];rfl,jF r t⟩
 refine ar<|X 1 Z<|H<|aB<|aT (λS R=>∃(i:Nat),(i<=r.tups.length/\(r.tups.drop i).takeWhile (λx=>decide (bw x.vals t.vals<0))=(r.tups.takeWhile λx=>decide (bw x.vals t.vals<0)).drop i/\i<=Ao t.vals r.tups)/\S=r.tups.length-i/\R=⟨89,[(2,.box 0 0),(3,.box 1 0),(4,.box 2 0),(11,nI i)],[(30,(bQ r)),(67,(eA t)),(30,c7)],[]⟩) 3 0 ⟨0,⟨O0,Z,O0⟩,Z,Z⟩ .rf ?_;rintro S R ⟨i,⟨O,e,P⟩,rfl,rfl⟩;refine H<|H<|cB (fu:=17) _ [nI i,.box 0 3,.sl (r.tups.map Tp.tree),nI r.tups.length,bT (decide (i<r.tups.length)),bT (decide (i<r.tups.length)),if(decide (i<r.tups.length))=true then(.box 0 3:Tree)else .sc undef,if(decide (i<r.tups.length))=true then(.sl (r.tups.map Tp.tree):Tree)else .sc undef,if(decide (i<r.tups.length))=true then(nI i:Tree)else .sc undef,if(decide (i<r.tups.length))=true then(.ref (eA ((r.tups[i]?).getD xr)):Tree)else .sc undef,if(decide (i<r.tups.length))=true then(.ref (eA ((r.tups[i]?).getD xr)):Tree)else .sc undef,if(decide (i<r.tups.length))=true then(.sl ((((r.tups[i]?).getD xr).vals).map V.tree):Tree)else .sc undef,if(decide (i<r.tups.length))=true then(.box 1 0:Tree)else .sc undef,if(decide (i<r.tups.length))=true then(.sl (t.vals.map V.tree):Tree)else .sc undef,if(decide (i<r.tups.length))=true then(iT (bw ((r.tups[i]?).getD xr).vals t.vals):Tree)else .sc undef,if(decide (i<r.tups.length))=true then(bT (decide ((bw ((r.tups[i]?).getD xr).vals t.vals)<0)):Tree)else .sc undef,bT ((decide (i<r.tups.length))&&(decide ((bw ((r.tups[i]?).getD xr).vals t.vals)<0)))] U0 Z Z U0 Z ?_ ?_
 ·refine Chain.op Z (K Z Z)<|Chain.op Z (aq Z Z a6 Z)<|Chain.op Z (av Z Z Z bJ Z)<|Chain.op Z (aj (fw Z aV Z) (by simp only[Rn]))<|Chain.op Z (aj (aC Z Z Z Zy) (B (gF i r.tups.length)))<|Chain.op Z (K Z Z)<|bG Z Z Z (λa=>aq Z Z a6 Z)<|bG Z Z Z (λa=>av Z (if_pos a) Z bJ Z)<|bG Z Z Z (λa=>K Z Z)<|bG Z Z Z (λa=>aO (Tp.tree ((r.tups[i]?).getD xr)) Z aV (if_pos a) (if_pos a) Z (bd (f:=Tp.tree) (mx (of_decide_eq_true a))) (c6 _) Z)<|bG Z Z Z (λa=>bL Z (if_pos a) cz Z)<|bG Z Z Z (λa=>bi Z (if_pos a) di Z)<|bG Z Z Z (λa=>aq Z Z cz Z)<|bG Z Z Z (λa=>av Z (if_pos a) Z di Z)<|bG Z Z Z (λa=>D Z (ku _ _ (F3 h i) v) (dN (if_pos a) (dN (if_pos a) Z)) Z)<|bG Z Z Z (λa=>aC Z (if_pos a) Z (λ_=>rfl))<|Chain.op Z (cH Z Z Z Z)<|Chain.nil
 refine aK Z (λc=>?_) (λc=>?_)
 ·rw[Q9]at c;have G:=of_decide_eq_true c.1;have z:=of_decide_eq_true c.2;refine ar<|aB<|am<|a8 1 (i+1) Z Z Zy O0<|Y 1 Z<|⟨_,_,?_,⟨i+1,?_,Z,Z⟩,.rf⟩
  ·omega
  exact⟨O0,yz (mx (d:=xr) G) z e,F4 (mx (d:=xr) G) z e⟩
 have I:=B1 e P c;refine aX<|C<|M 1 Z (D Z (Kr r h) Z Z)<|Y 2 Z<|H<|dq (ops:=[_,_,_,_,_,_,_,_]) (fu:=9) (bs':=[(30,(bQ r)),(67,(eA t)),(30,c7),(30,[sT r.sch.name,bT r.sch.cert,.sl (r.sch.cols.map Col.tree),.sl ((r.tups.take i++[t]++r.tups.drop i).map Tp.tree)])]) [some 80,some 81,some 82,some 83,some 84,some 85,some 86,some 87] [.box 3 3,(.tl (r.tups.map Tp.tree)),nI i,.agg (eA t),.agg (eA t),.sl [.agg (eA t)],.sl ((r.tups.take i++[t]++r.tups.drop i).map Tp.tree),.box 3 3] U0 Z Z Z Z Z U0 U0 Z Z Z Z Z Z Z Z k7 Z Z Z ?_ ?_
 ·refine Chain.op Z (aq Z Z a6 Z)<|Chain.op Z (av Z Z Z bJ Z)<|Chain.op Z (K Z Z)<|Chain.op Z (aN Z Z Z fA Z Z)<|Chain.op Z (D Z (yy t u v) Z Z)<|Chain.op Z (aS Z aV go Z I1 I1 Z Z Z Z Z)<|Chain.op Z (D Z (Ei r.tups t i O O0) Z Z)<|Chain.op Z (aq Z Z a6 Z)<|Chain.nil
 refine X 3 Z<|aQ<|⟨.inr Z,_,.cons (co Z Z bf Z) (.cons Z .nil),by unfold vG;rw[show d5 r t=0 from by unfold d5;rw[if_neg (by rw[w];simp),if_neg (by rw[g];simp),if_neg (by rw[s];simp),if_neg y,if_neg q],if_pos Z];unfold g8;rw[<-I];rfl,jF r t⟩
def Hi(r:Rel)(t:Tp)(c:FitR r)(a:FitT t)(b:t.vals.length<=65536)(h:d5 r t=0):Ct 30 [r.tree,t.tree] (.tup [(g8 r t).tree,iT 0]):=by
 have:=yA r t c a b;unfold vG at this;rwa[if_pos h,h]at this
def Eo(r:Rel)(t:Tp)(c:FitR r)(a:FitT t)(b:t.vals.length<=65536)(h:d5 r t≠0):Ct 30 [r.tree,t.tree] (.tup [ug,iT (d5 r t)]):=by
 have:=yA r t c a b;unfold vG at this;rwa[if_neg h]at this
def Ep(n:Nat)(c:n<=18446744073709551615):Ct 212 [.sc (.int .u64 (n:Nat))] (nI (Lib.bitLen n)):=Ct.sc ⟨_,func212,Z,Z⟩ λG w vs _ _ b=>by
 obtain⟨u,rfl,a⟩:=eC b;cases a;refine(Tryz.bits_Len (n:Int) w O O).mono λe w' h=>?_
 rw[TG]at h;exact⟨h.1,by rw[h.2];exact Below.refl _ _⟩
def rn:∀(f n:Nat),n<2^f->n<2^Lib.bitLenAux f n
 |0,n,h=>by
  have:n=0:=by simpa using h
  subst this;decide
 |f+1,n,h=>by
  unfold Lib.bitLenAux;split
  ·omega
  have:=rn f (n/2) (by rw[RA]at h;omega);rw[SN,RA];omega
def kj:∀(f n:Nat),Lib.bitLenAux f n<=f
 |0,n=>Q3 _
 |f+1,n=>by
  unfold Lib.bitLenAux;split
  ·omega
  have:=kj f (n/2);omega
def B2{x y:Operand}(a j:Nat)(b:j<=64)(w:World):(do eqGuard .shr 3 x y (.int .i64 (a:Nat)) (.int .i64 ((j:Nat):Int));binOp .shr 3 (.int .i64 (a:Nat)) (.int .i64 ((j:Nat):Int)):Sem Value).run prog w=.ok (.int .i64 ((a/2^j:Nat):Int)) w:=by
 simp[eqGuard,binOp,Op.shift,IntKind.bits];try omega
def B3(n:Int):bits .and .i64 n 1=n%2:=by
 have a:(BitVec.ofInt 64 1).toNat=2^1-1:=I
 have key:(BitVec.ofInt 64 n&&& BitVec.ofInt 64 1).toNat=(n%((2^64:Nat):Int)).toNat%2^1:=by
  rw[BitVec.toNat_and,BitVec.toNat_ofInt,a,Tj]
 show IntKind.i64.wrap ((BitVec.ofInt 64 n&&& BitVec.ofInt 64 1).toNat:Nat)=n%2
 rw[key,RZ];omega
def B4{x y:Operand}(a:Nat)(w:World):(do eqGuard .and 3 x y (.int .i64 (a:Nat)) (.int .i64 1);binOp .and 3 (.int .i64 (a:Nat)) (.int .i64 1):Sem Value).run prog w=.ok (.int .i64 ((a%2:Nat):Int)) w:=by
 have key:bits .and .i64 (a:Int) 1=((a%2:Nat):Int):=by rw[B3];omega
 go_simp
def Ks{a:Int}(h: -9223372036854775808<=a)(b:a<=9223372036854775807):(Tree.sc (.int .i64 (IntKind.i64.wrap a)))=iT a:=by
 rw[RZ];congr 2;omega
def Hj:cR 10=4:=by decide+kernel
def As{k m:Nat}(h:k<=m):(aD (10^k)).length<=m+1:=bq (SG (Q7 (Rx I h) (UK (show 10<=4294967296 by decide) m)) (Ts I (Uh m)))
def Kt{n m:Nat}(h:n<=4*m)(a:m≠0):(aD (10^n)).length<=m:=by
 refine bq (SG (Rx I h) ?_);rw[Tu];exact Nat.pow_lt_pow_left I a
def ro{k n:Nat}(h:k<=n)(a:n<=4000):(aD (10^k)).length<=1048576:=Q7 (As (m:=4000) O) I
def Hk{n:Nat}(a:n<=4000):(aD (10^n)).length<=262144:=Q7 (As (m:=4000) O) I
def MX{k n:Nat}(h:k<=n)(a:n<=4000):(aD (10^k*10^k)).length<=1048576:=by
 rw[<-SF];exact Q7 (As (m:=8000) O) I
def jt{a:Nat}(h:a<18446744073709551616):(Tree.sc (.int .u64 (IntKind.u64.wrap (a:Nat))))=.sc (.int .u64 ((a:Nat):Int)):=by
 rw[IntKind.wrap_u64];congr 2;omega
def MY{n:Nat}(h:n<=4000):Ct 149 [.sc (.int .u64 1)] (aY (10^(n/2^Lib.bitLen n))):=by
 have a:=jg 1 I;rw[show n/2^Lib.bitLen n=0 from S5 (rn 64 n O)];exact a
def OR{n i j:Nat}(a:j=i+1)(b:¬n/2^i%2=1):10^(n/2^j)*10^(n/2^j)=10^(n/2^i):=by
 subst a;rw[<-SF,RA,<-SH];congr 1;omega
def MZ{n i j:Nat}(a:j=i+1)(b:n/2^i%2=1):10^(n/2^j)*10^(n/2^j)*10=10^(n/2^i):=by
 subst a;rw[<-SF,<-RA,RA 2,<-SH];congr 1;omega
def Hl{n:Nat}(b:n<=4000):cR (10^n)<=65536:=by
 have a:=Kt (m:=1000) (n:=n) O I;unfold cR;split
 ·omega
 have:Lib.bitLen ((aD (10^n)).getD ((aD (10^n)).length-1) 0)<=64:=kj 64 _;omega
def M0(n:Nat)(h:n<=4000):Ct 150 [aY 10,iT (n:Nat)] (.tup [aY (10^n),iT 0]):=by
 refine Ct.of (n:=59) func150 Z Z Z Z Z λw0 G0=>?_
 refine C<|M 0 (t:=.sl []) Z (bz (.inr Z) bS)<|Y 1 Z<|H<|C<|aI 1 Z Z Zy (B (gF n 0))<|E<|ay Z (λg=>?_) (λg=>?_)
 ·exact absurd g (by first|decide|omega|simp)
 refine ar<|C<|M 1 (t:=nI 4) Z (D Z (by have h:=kw 10 I1;rw[Hj]at h;exact h) Z Z)<|Y 1 Z<|H<|C<|aI 1 Z Z Zy (B (gL n 0))<|ax 1 Z<|N Z Z Z Z (λa=>K Z Z)<|N Z Z Z Z (λa=>aj (aC Z (if_pos a) Z (λ_=>rfl)) (B (gL 4 1)))<|M 0 Z (dD Z Z Z Z)<|E<|aK Z (λd=>?_) (λd=>?_)
 ·obtain rfl:n=0:=by simpa using d
  refine C<|M 0 Z (D Z (jg 1 I1) Z Z)<|Y 2 Z<|aQ<|⟨.inr Z,_,.cons Z (.cons Z .nil),Z,Z⟩
 have x:n≠0:=by simpa using d
 refine ar<|H<|C<|aI 1 Z Z Zy (B (gL 4 0))<|E<|ay Z (λk=>?_) (λk=>?_)
 ·exact absurd k (by first|decide|omega|simp)
 refine ar<|H<|C<|aI 1 Z Z Zy (B (GC n 65536))<|ax 1 Z<|N Z Z Z Z (λa=>K Z Z)<|N Z Z Z Z (λa=>aj (aC Z (if_pos a) Z (λ_=>rfl)) (B (nZ 4 65536)))<|M 0 Z (dD Z Z Z Z)<|ax 1 Z<|N Z Z Z Z (λa=>K Z Z)<|N Z Z Z Z (λa=>K Z Z)<|N (t:=nI (4-1)) Z Z Z Z (λa=>aj (aC Z (if_pos a) Z (λ_=>rfl)) (kK O0))<|N (t:=nI (n*(4-1))) Z Z Z Z (λa=>aj (aC Z (if_pos a) (if_pos a) (λ_=>rfl)) (kK O0))<|N Z Z Z Z (λa=>aj (aC Z (if_pos a) Z (λ_=>rfl)) (B (GC (n*(4-1)) 65536)))<|M 0 Z (dD Z Z Z Z)<|E<|aK Z (λl=>?_) (λl=>?_)
 ·exact absurd l (by simp;omega)
 refine ar<|C<|M 0 Z (D Z (MY h) Z Z)<|Y 1 Z<|H<|C<|M 1 (t:=.sc (.int .u64 ((n:Nat):Int))) Z (aj (bp Z cf eX Z) (jt O0))<|M 0 Z (D Z (Ep n O0) Z Z)<|aI 0 (t:=iT (((Lib.bitLen n:Nat):Int)-1)) Z Z Zy (Ks O0 (by have:=kj 64 n;unfold Lib.bitLen;omega))<|Y 1 Z<|aB<|aT (λv u=>∃(j:Nat),(j<=64/\n<2^64)/\v=j+1/\u=⟨59,[(0,aY 10),(1,nI n),(7,aY (10^(n/2^j))),(8,iT (((j:Nat):Int)-1))],[],[]⟩) 0 0 ⟨(Lib.bitLen n),⟨kj 64 n,O0⟩,Z,Z⟩ .rf ?_;rintro v u ⟨j,⟨z,c⟩,rfl,rfl⟩;refine H<|C<|M 1 (t:=bT (decide ((((j:Nat):Int)-1)≥0))) Z (aC Z Z Z Zy)<|E<|ay Z (λs=>?_) (λs=>?_)
 ·obtain⟨i,q⟩:∃i,j=i+1:=⟨j-1,O0⟩;have b:n/2^j<=n:=Ti _ _;have y:n/2^i<=n:=Ti _ _;refine ar<|H<|aB<|H ?_;by_cases r:n/2^i%2=1
  ·refine am<|M 2 Z (D Z (lF _ _ (ro b h) (ro b h)) Z Z)<|Y 1 Z<|C<|M 1 (t:=nI i) Z (aj (K Z Z) ((ej O0)))<|M 0 (t:=nI (n/2^i)) Z (aC Z Z Z (λw=>B2 n i O0 w))<|M 0 (t:=nI (n/2^i%2)) Z (aC Z Z Z (λw=>B4 (n/2^i) w))<|aI 0 Z Z Zy (B (gL (n/2^i%2) 1))<|E<|ay Z (λm=>?_) (λm=>?_)
   ·refine am<|M 2 (t:=aY (10^(n/2^i))) Z (D Z (by have f:=lF _ 10 (MX b h) I1;rw[MZ q r]at f;exact f) Z Z)<|Y 1 Z<|am<|M 0 (t:=nI i) Z (aj (K Z Z) ((ej O0)))<|aI 0 (t:=iT (((i:Nat):Int)-1)) Z Z Zy (Ks O0 O0)<|Y 1 Z<|⟨_,_,?_,⟨i,?_,Z,Z⟩,.rf⟩
    ·omega
    exact⟨O0,c⟩
   exact absurd r m
  refine am<|M 2 (t:=aY (10^(n/2^i))) Z (D Z (by have f:=lF _ _ (ro b h) (ro b h);rw[OR q r]at f;exact f) Z Z)<|Y 1 Z<|C<|M 1 (t:=nI i) Z (aj (K Z Z) ((ej O0)))<|M 0 (t:=nI (n/2^i)) Z (aC Z Z Z (λw=>B2 n i O0 w))<|M 0 (t:=nI (n/2^i%2)) Z (aC Z Z Z (λw=>B4 (n/2^i) w))<|aI 0 Z Z Zy (B (gL (n/2^i%2) 1))<|E<|ay Z (λo=>?_) (λo=>?_)
  ·exact absurd o r
  refine ar<|am<|M 0 (t:=nI i) Z (aj (K Z Z) ((ej O0)))<|aI 0 (t:=iT (((i:Nat):Int)-1)) Z Z Zy (Ks O0 O0)<|Y 1 Z<|⟨_,_,?_,⟨i,?_,Z,Z⟩,.rf⟩
  ·omega
  exact⟨O0,c⟩
 have e:n/2^j=n:=by
  obtain rfl:j=0:=O0
  simp
 refine aX<|H<|C<|M 1 Z (D Z (kw _ (by rw[e];exact Hk h)) Z Z)<|aI 0 Z Z Zy (B (nZ ((cR (10^(n/2^j)))) 65536))<|E<|ay Z (λp=>?_) (λp=>?_)
 ·exact absurd (Hl h) (by rw[e]at p;omega)
 refine ar<|X 3 Z<|aQ<|⟨.inr Z,_,.cons Z (.cons Z .nil),by rw[e];rfl,Z⟩
def gE(n:Nat):List UInt8:=if h:n=0 then []else UInt8.ofNat (48+n%10)::gE (n/10)
termination_by n
decreasing_by omega
def nE:gE 0=[]:=by rw[gE];simp
def pa{n:Nat}(h:0<n):gE n=UInt8.ofNat (48+n%10)::gE (n/10):=by rw[gE,dif_neg O]
def Hm:∀n:Nat,0<n->(gE n).reverse=Lib.decDigits n:=by
 intro n;induction n using Nat.strongRecOn with
 |ind n ih=>
  intro h;rw[pa h,Lib.decDigits,Ut];split
  ·next h9=>
   rw[show n/10=0 by omega,nE,show n%10=n by omega];rfl
  next h9=>rw[ih (n/10) O O]
def yB:∀(k n:Nat),n<10^k->(gE n).length<=k
 |0,n,h=>by
  have:n=0:=by simpa using h
  subst this;rw[nE];exact Q3 _
 |k+1,n,h=>by
  rcases RV n with rfl|a
  ·rw[nE];simp
  rw[pa a,Q5];have:=yB k (n/10) (by rw[RA]at h;omega);omega
def vY{n L:Nat}(h:(aD n).length<=L):(gE n).length<=10*L:=by
 refine yB _ _ ?_;have a:=cC (aD n) (ck n);rw[aW]at a;have b:(4294967296:Nat)^(aD n).length<=(10^10)^(aD n).length:=UK I _;have c:(10^10:Nat)^(aD n).length<=(10^10)^L:=Rx I h;rw[Tu];omega
def Ku{n:Nat}(h:0<n):1<=(gE n).length:=by rw[pa h];simp
def Er{b:List UInt8}{q i g n:Nat}(k:i<9)(c:g<10^(9-i))(j:0<g\/0<q)(h:b++gE (q*10^(9-i)+g)=gE n):g/10<10^(9-(i+1))/\(b++[UInt8.ofNat (48+g%10)])++gE (q*10^(9-(i+1))+g/10)=gE n:=by
 have e:10^(9-i)=10^(9-(i+1))*10:=by rw[<-RA];congr 1;omega
 rw[e]at c h;have d:0<10^(9-(i+1)):=Sh I;obtain⟨P,f⟩:∃P,10^(9-(i+1))=P:=⟨_,Z⟩;rw[f]at c h d⊢;have a:0<q*(P*10)+g:=by
  rcases j with h|h
  ·omega
  have:0<q*(P*10):=TJ h O;omega
 rw[<-Ry]at h a;rw[pa a,show(q*P*10+g)%10=g%10 by omega,show(q*P*10+g)/10=q*P+g/10 by omega]at h;exact⟨O,by rw[<-h];simp⟩
def Hn{a:List UInt8}{q i g n:Nat}(d:i<=9)(c:g<10^(9-i))(e:¬(i<9/\(0<g\/0<q)))(h:a++gE (q*10^(9-i)+g)=gE n):a++gE q=gE n:=by
 by_cases b:i=9
 ·subst b;have:g=0:=by simpa using c
  subst this;simpa using h
 have:g=0/\q=0:=O
 obtain⟨rfl,rfl⟩:=this;simpa using h
def rp{q:Nat}:0<(aD q).length↔0<q:=by
 have:=b9 (n:=q);omega
def Ho(l L:List UInt8)(k:Nat):Prop:=L.length=l.length/\∀t:Nat,L[t]? =if t<k\/l.length-k<=t then l.reverse[t]? else l[t]?
def Kv{l L:List UInt8}{k:Nat}{a b:UInt8}(h:Ho l L k)(o:k<l.length-1-k)(m:L[k]? =some a)(n:L[l.length-1-k]? =some b):Ho l ((L.set k b).set (l.length-1-k) a) (k+1):=by
 obtain⟨j,e⟩:=h;refine⟨by simp[j],λt=>?_⟩;have c:=(e k).symm.trans m;have d:=(e (l.length-1-k)).symm.trans n;rw[if_neg O]at c d;rw[Ua,Ua,RO];by_cases f:l.length-1-k=t
 ·subst f;rw[if_pos Z,if_pos O,if_pos O,UG O,show l.length-1-(l.length-1-k)=k by omega,c]
 rw[if_neg f];by_cases g:k=t
 ·subst g;rw[if_pos Z,if_pos O,if_pos O,UG O,d]
 rw[if_neg g,e t];by_cases i:t<k\/l.length-k<=t
 ·rw[if_pos i,if_pos O]
 rw[if_neg i,if_neg O]
def M1{l L:List UInt8}{k:Nat}(h:Ho l L k)(a:¬k<l.length-1-k):L=l.reverse:=by
 apply TN;intro t;rw[h.2 t];split
 ·rfl
 next h3=>
 have:t=l.length-1-t:=O
 rw[UG O,<-this]
def Hp(l:List UInt8):Ho l l 0:=⟨Z,λt=>by
 split
 ·next h=>
  rw[R8 O,R8 (by simp;omega)]
 rfl⟩
def F5{l L:List UInt8}{k t:Nat}(h:Ho l L k)(a:t<l.length):∃c,L[t]? =some c:=⟨_,Q2 (by rw[h.1];exact a)⟩
def PU{L:List UInt8}{t:Nat}{c:UInt8}(h:L[t]? =some c):(ak L)[t]? =some (.sc (.int .u8 c.toNat)):=by
 unfold ak;rw[RK,h];rfl
def PV(L:List UInt8)(t:Nat)(c:UInt8):(ak L).set t (.sc (.int .u8 c.toNat))=ak (L.set t c):=by unfold ak;rw[Vx]
def PW{e sz:Nat}{b:Bool}{es a:List Tree}(h:es=a):[some (⟨e,sz,es,b⟩:Row)]=[some ⟨e,sz,a,b⟩]:=by rw[h]
def Hq{x y:Operand}(a:Nat)(w:World):(do eqGuard .rem 50 x y (.int .u32 (a:Nat)) (.int .u32 10);binOp .rem 50 (.int .u32 (a:Nat)) (.int .u32 10):Sem Value).run prog w=.ok (.int .u32 ((a%10:Nat):Int)) w:=by
 go_simp;rw[Te O]
def Hr{x y:Operand}(a:Nat)(h:a<4294967296)(w:World):(do eqGuard .quo 50 x y (.int .u32 (a:Nat)) (.int .u32 10);binOp .quo 50 (.int .u32 (a:Nat)) (.int .u32 10):Sem Value).run prog w=.ok (.int .u32 ((a/10:Nat):Int)) w:=by
 go_simp;rw[SU];omega
def M2{a:Int}{m:Nat}(h:a=m)(b:m<4294967296):(Tree.sc (.int .u32 (IntKind.u32.wrap a)))=.sc (.int .u32 ((m:Nat):Int)):=by
 subst h;rw[SU];congr 2;omega
def OS{m:Nat}(a:m<256):(Tree.sc (.int .u8 (IntKind.u8.wrap ((m:Nat):Int))))=.sc (.int .u8 ((UInt8.ofNat m).toNat:Nat)):=by
 rw[Uo];congr 2
def Kw(n d:Nat)(h:(aD n).length<=1048576)(g:0<d)(b:d<4294967296):Ct 173 [aY n,.sc (.int .u32 (d:Nat))] (.tup [aY (n/d),.sc (.int .u32 ((n%d:Nat):Int))]):=fy (K:=QD n d) ⟨_,func173,Z,Z⟩ (λG W v f h=>by
  obtain⟨a,rfl,c⟩:=h;exact .tup [a,.int .u32 _] _ ((fe f c).cons (.sc _ .nil)) .nil) λG w vs _ _ i=>by
 obtain⟨u,v,rfl,c,e⟩:=dE i;cases e;exact x9 (ek c) h g b
def B5(a:List UInt8)(c:UInt8):ak (a++[c])=ak a++[.sc (.int .u8 c.toNat)]:=by simp[ak]
def Kx{m n L:Nat}(h:(aD n).length<=L)(a:m<=n):(aD m).length<=L:=Q7 (bh a) h
def aZ:kI prog 22=some (5,1,1):=U
def aJ:gQ prog 22=some (5,1):=U
def jG:jP prog 5=true:=U
def ky:(prog.info? 5).map (·.size)=some 1:=U
def b7:prog.underlying 5=some (.int .u8):=U
def cA:prog.underlying 50=some (.int .u32):=U
def dd:ij prog 5=some [.int .u8 0]:=U
def vZ(n:Nat)(I:(aD n).length<=262144):Ct 108 [aY n] (.sc (.string ⟨(Lib.decDigits n).toArray⟩)):=by
 refine Ct.of (n:=72) func108 Z Z Z Z Z λw0 G0=>?_
 refine X 1 Z<|C<|M 1 Z (D Z (vg n (Q7 I I1)) Z Z)<|Y 1 Z<|H<|C<|M 1 Z (aU Z bV Z)<|aI 0 Z Z Zy (B (gL ((aD n).length) 0))<|E<|ay Z (λu=>?_) (λu=>?_)
 ·refine X 1 Z<|aM ⟨Z,(congrArg (λR:List UInt8=>Tree.sc (.string ⟨R.toArray⟩)) (by rw[b9.1 u,Lib.decDigits];rfl)),Z⟩ Z
 refine ar<|C<|gc (k:=0) (e:=5) (sz:=1) (rs':=[some ⟨5,1,ak [],false⟩]) (.inr Z) Z Z Z Z Z<|E<|H<|aB<|aT (λr q=>∃(m:Nat) (d:List UInt8),(m<=n/\d++gE m=gE n)/\r=m+1/\q=⟨72,[(3,.sl ((aD m).map fS)),(4,.own 0)],[],[some ⟨5,1,ak d,false⟩]⟩) 0 1 ⟨n,[],⟨Q3 _,Z⟩,Z,Z⟩ .rf ?_;rintro r q ⟨m,d,⟨Q,o⟩,rfl,rfl⟩;refine H<|C<|M 1 Z (aU Z bV Z)<|aI 0 Z Z Zy (B (nZ ((aD m).length) 0))<|E<|ay Z (λv=>?_) (λv=>?_)
 ·have A:0<m:=rp.1 v;have O:(aD m).length<=1048576:=Q7 (Kx I Q) I1;refine ar<|aB<|C<|M 1 Z (D Z (Kw m 1000000000 O I1 I1) Z Z)<|Y 5 Z<|X 2 Z<|X 1 Z<|aB<|aT (λr q=>∃(i:Nat) (g:Nat) (h:List UInt8),(i<=9/\g<10^(9-i)/\h++gE (m/1000000000*10^(9-i)+g)=gE n)/\r=9-i/\q=⟨72,[(3,.sl ((aD (m/1000000000)).map fS)),(4,.own 0),(6,.sc (.int .u32 ((g:Nat):Int))),(7,nI i)],[],[some ⟨5,1,ak h,false⟩]⟩) 0 1 ⟨0,(m%1000000000),d,⟨O0,RJ _ I1,by show d++gE (m/1000000000*1000000000+m%1000000000)=gE n;rw[Nat.div_add_mod'];exact o⟩,Z,Z⟩ .rf ?_;rintro r q ⟨i,g,h,⟨hi,P,hq⟩,rfl,rfl⟩;refine H<|C<|aI 1 Z Z Zy (B (gF i 9))<|ax 1 Z<|N Z Z Z Z (λl=>K Z Z)<|N Z Z Z Z (λl=>aj (aC Z (if_pos l) Z (λ_=>rfl)) (B (nZ g 0)))<|N Z Z Z Z (λl=>K Z (if_pos l))<|cl Z Z Z Z (λl=>K Z Z)<|cl Z Z Z Z (λl=>aU Z bV (if_pos l))<|cl Z Z Z Z (λl=>aj (aC Z (if_pos l) Z (λ_=>rfl)) (B (nZ ((aD (m/1000000000)).length) 0)))<|N (t:=bT ((decide (0<g))||(decide (0<(aD (m/1000000000)).length)))) Z Z Z Z (λl=>fJ Z (if_pos l) (λG=>(B (by rw[G];rfl))) (λG=>(if_pos ⟨l,G⟩).trans (B (by rw[G];rfl))))<|M 0 Z (cH Z Z Z Z)<|E<|aK Z (λp=>?_) (λp=>?_)
  ·have J:i<9/\(0<g\/0<m/1000000000):=by
    rw[Q9,Sm,decide_eq_true_eq,decide_eq_true_eq,decide_eq_true_eq,rp]at p;exact p
   have z:g<4294967296:=Rh P (Q7 (Rx I1 (show 9-i<=9 by omega)) I1);have x:=Er J.1 P J.2 hq;have a0:h.length+1<=2621440:=by
    have S:=vY I;rw[<-x.2]at S;simp only[Q4,Ss]at S;omega
   refine ar<|H<|aB<|C<|M 2 (t:=.sc (.int .u32 ((g%10:Nat):Int))) Z (aC Z Z Z (λw=>Hq g w))<|aI 0 (t:=.sc (.int .u32 ((48+g%10:Nat):Int))) Z Z Zy (M2 O0 O0)<|M 0 (t:=.sc (.int .u8 ((UInt8.ofNat (48+g%10)).toNat:Int))) Z (aj (bp Z cA b7 Z) ((OS O0)))<|M 0 (t:=.sl [.sc (.int .u8 ((UInt8.ofNat (48+g%10)).toNat:Int))]) Z (aS Z aJ dd Z I1 I1 Z Z Z Z Z)<|a7 (bs':=[]) (rs':=[some ⟨5,1,ak (h++[UInt8.ofNat (48+g%10)]),false⟩]) Z Z Z Z aZ Z Z Z Z (by intro e W;simp only[Ri,RM,or_false]at W;subst W;rfl) (AllC.lit Z) (AllC.lit Z) (by simp only[aA,Q5,Ra];omega) Z Z Z (by rw[B5];rfl)<|Y 1 Z<|am<|M 1 (t:=.sc (.int .u32 ((g/10:Nat):Int))) Z (aC Z Z Z (λw=>Hr g z w))<|Y 1 Z<|am<|a8 1 (i+1) Z Z Zy O0<|Y 1 Z<|⟨_,_,?_,⟨i+1,g/10,(h++[UInt8.ofNat (48+g%10)]),?_,Z,Z⟩,.rf⟩
   ·omega
   exact⟨O0,x.1,x.2⟩
  have J:¬(i<9/\(0<g\/0<m/1000000000)):=by
   rw[SZ,Rp,decide_eq_false_iff_not,decide_eq_false_iff_not,decide_eq_false_iff_not,rp]at p;omega
  refine aX<|⟨_,_,?_,⟨(m/1000000000),h,?_,Z,Z⟩,.rf⟩
  ·omega
  exact⟨O0,Hn hi P J hq⟩
 have A:m=0:=by have:=mt rp.2 v;omega
 subst A;have s:d=gE n:=by rw[nE,RP]at o;exact o
 have F:0<n:=RR λe=>u (b9.2 e)
 have a1:1<=d.length:=by rw[s];exact Ku F
 have U:d.length<=2621440:=by rw[s];exact vY I
 refine aX<|H<|C<|M 1 Z (Mi Z aJ Z Z Z)<|a8 0 (d.length-1) Z Z Zy O0<|Y 2 Z<|aB<|aT (λr q=>∃(k:Nat) (L:List UInt8),(k<=d.length-1-k+1/\Ho d L k)/\r=d.length-k/\q=⟨72,[(4,.own 0),(8,nI k),(9,nI (d.length-1-k))],[],[some ⟨5,1,ak L,false⟩]⟩) 0 1 ⟨0,d,⟨O0,Hp _⟩,Z,Z⟩ .rf ?_;rintro r q ⟨k,L,⟨hk,f⟩,rfl,rfl⟩;refine H<|C<|aI 2 Z Z Zy (B (gF k ((d.length-1-k))))<|E<|ay Z (λy=>?_) (λy=>?_)
 ·obtain⟨a,T⟩:=F5 (t:=k) f O0;obtain⟨b,V⟩:=F5 (t:=d.length-1-k) f O0;refine ar<|H<|aB<|eM (sl':=[(4,.own 0),(8,nI k),(9,nI (d.length-1-k)),(51,bT (decide (k<(d.length-1-k))))]) ⟨Z,⟨Z,⟨Z,⟨Z,trivial⟩⟩⟩⟩<|Vr (fu:=3) [some 56,some 57,some 58,some 59,some 60,some 61,some 62,some 63,some 64,some 65,some 66,some 67,some 68,none,some 69,none] [13,15] [.own 0,nI k,.own 0,nI (d.length-1-k),.own 0,nI (d.length-1-k),.elp 0 (d.length-1-k),.sc (.int .u8 (b.toNat:Int)),.own 0,nI k,.elp 0 k,.sc (.int .u8 (a.toNat:Int)),.elp 0 k,.any,.elp 0 (d.length-1-k),.any] [([13],[],[some ⟨5,1,ak (L.set k b),false⟩],[])] [15,13] [] [some ⟨5,1,ak ((L.set k b).set (d.length-1-k) a),false⟩] [] U0 Z U0 U0 U0 Z Z ?_ ?_
  ·refine .opp [] (.okk Z (K Z Z)<|.fin)<|.opp [] (.okk Z (K Z Z)<|.fin)<|.opp [] (.okk Z (K Z Z)<|.okk Z (K Z Z)<|.fin)<|.opp [] (.okk Z (K Z Z)<|.okk Z (K Z Z)<|.fin)<|.opp [] (.okk Z (K Z Z)<|.fin)<|.opp [] (.okk Z (K Z Z)<|.fin)<|.opp [4,5] (.okk Z (eS (j:=(d.length-1-k)) Z aJ Z Z Z Z Z (by show _<(ak _).length;first|(rw[aA,f.1];omega)|(rw[aA,RO,f.1];omega)|(rw[aA,RO,RO,f.1];omega)) (ST _))<|.fin)<|.opp [6] (.okk Z (mW (c:=.sc (.int .u8 (b.toNat:Int))) (j:=(d.length-1-k)) (fo:=0) Z Z Z jG (PU V) F0 (by show 0<1;decide) Z)<|.fin)<|.opp [] (.okk Z (K Z Z)<|.fin)<|.opp [] (.okk Z (K Z Z)<|.fin)<|.opp [8,9] (.okk Z (eS (j:=k) Z aJ Z Z Z Z Z (by show _<(ak _).length;first|(rw[aA,f.1];omega)|(rw[aA,RO,f.1];omega)|(rw[aA,RO,RO,f.1];omega)) (ST _))<|.fin)<|.opp [10] (.okk Z (mW (c:=.sc (.int .u8 (a.toNat:Int))) (j:=k) (fo:=0) Z Z Z jG (PU T) F0 (by show 0<1;decide) Z)<|.fin)<|.opp [0,1] (.okk Z (eS (j:=k) Z aJ Z Z Z Z Z (by show _<(ak _).length;first|(rw[aA,f.1];omega)|(rw[aA,RO,f.1];omega)|(rw[aA,RO,RO,f.1];omega)) (ST _))<|.fin)<|.opp [7,12] (.wr 1 id .any U0 Z Z (om (j:=k) Z Z Z Z F0 (by show _<(ak L).length;rw[aA,f.1];omega) Z Z Z Z Z ky Z (PW (PV _ _ _))) Z Z Z Z (.ks 13 Z (.i Z (.k Z (.k Z .nil))))<|.fin)<|.opp [2,3] (.no U0<|.okk Z (eS (j:=(d.length-1-k)) Z aJ Z Z Z Z Z (by show _<(ak _).length;first|(rw[aA,f.1];omega)|(rw[aA,RO,f.1];omega)|(rw[aA,RO,RO,f.1];omega)) (ST _))<|.fin)<|.opp [11,14] (.no U0<|.wr 2 id .any U0 Z Z (om (j:=(d.length-1-k)) Z Z Z Z F0 (by show _<(ak _).length;rw[aA,RO,f.1];omega) Z Z Z Z Z ky Z (PW (PV _ _ _))) Z Z Z Z (.ks 15 Z (.i Z .nil))<|.fin)<|.nil
  refine am<|a8 1 (k+1) Z Z Zy O0<|a8 1 ((d.length-1-k)-1) Z Z Zy O0<|Y 2 Z<|⟨_,_,?_,⟨k+1,((L.set k b).set (d.length-1-k) a),?_,Z,Z⟩,.rf⟩
  ·omega
  exact⟨O0,Kv f O0 T V⟩
 refine aX<|H<|dp 0 (bs':=[]) (rs':=[none]) Z Z Z Z<|am<|M 1 (t:=sT (⟨L.toArray⟩)) Z (eH Z Z)<|Y 1 Z<|aM ⟨Z,(congrArg (λR:List UInt8=>Tree.sc (.string ⟨R.toArray⟩)) (by rw[M1 f y,s];exact Hm n F)),Z⟩ Z
def OT(base:Nat)(l:List Nat)(m a:Nat)(w:World)(e:Ending)(w':World):Prop:=
 ∃v' l',e=.returned v'/\OwnN w' base v' l'/\Digs l'/\aG l'=aG l*m+a/\l'.length<=l.length+1/\Below base w w'
def ScInv(base:Nat)(v:Value)(l:List Nat)(m a:Nat)(w:World)(c i:Value)(wr:World):Prop:=
 ∃(k cy:Nat) (lo:List Nat),k<=l.length/\i=.int .i64 k/\c=.int .u64 cy/\cy<4294967296/\lo.length=k/\Digs lo/\OwnN wr base v (lo++l.drop k)/\aG lo+4294967296^k*cy=aG (l.take k)*m+a/\Below base w wr/\w.heap.size<=wr.heap.size
def Hs{lo l:List Nat}{k g:Nat}(b:lo.length=k)(a:k<l.length):(lo++l.drop k).set k g=(lo++[g])++l.drop (k+1):=by
 subst b;rw[SY _ _ (Q3 _),RW,Re a,Tb,RL];rfl
def Es{base g c:Nat}{l lo:List Nat}{m a k e x t:Nat}{w wr:World}{z q i:Int}(f:k<l.length)(y:l[k]=x)(v:t=x*m+e)(j:t/4294967296<4294967296)(b:lo.length=k)(h:Digs lo)(d:OwnN wr base (.slice (some ⟨g,0,none⟩) l.length c) (lo++l.drop k))(D:aG lo+4294967296^k*e=aG (l.take k)*m+a)(n:Below base w wr)(u:w.heap.size<=wr.heap.size)(o:base<=g)
  (A:z=((t%4294967296:Nat):Int)) (s:q=((t/4294967296:Nat):Int)) (r:i=((k+1:Nat):Int)):ScInv base (.slice (some ⟨g,0,none⟩) l.length c) l m a w (.int .u64 q) (.int .i64 i) (wr.setCell ⟨g,k,none⟩ (.int .u32 z)):=by
 subst s r;refine⟨k+1,t/4294967296,lo++[t%4294967296],f,Z,Z,j,by simp[b],eV h (RJ _ I),?_,?_,n.setCell (p:=⟨g,k,none⟩) o _,by simpa[World.setCell]using u⟩
 ·have:=d.put (i:=k) (by simp[b];omega) z _ A;rw[Hs b f]at this;exact this
 rw[ez lo _ k b,dO l k f,y,RA];generalize 4294967296^k=P at*;have B:P*(t%4294967296)+P*4294967296*(t/4294967296)=P*t:=by rw[Ry,<-RF,Nat.mod_add_div]
 have C:P*t=P*x*m+P*e:=by rw[v,RF,Ry]
 rw[R2];omega
def yC(base:Nat)(v:Value)(l:List Nat)(m a:Nat)(w:World)(h:OwnN w base v l)(D:Digs l)(hb:base<=w.heap.size)(hl:l.length<=1048576)(hm:m<4294967296)(ha:a<4294967296):
  Calls prog 246 #[v,.int .u32 m,.int .u32 a] w (OT base l m a w):=by
 obtain⟨A,c,rfl,_⟩:=h.is D;have P:=J h;have N:=J D;clear h D
 go_enter func246,ntmps246
 go_wp2
 go_loopw [7,15] (λcb i wr=>ScInv base (.slice A l.length c) l m a w cb i wr) (λ_ i _=>l.length-(intOf i).toNat)
 case atStart=>exact⟨0,a,[],Rg _,Z,Z,ha,Z,λd D=>by simp at D,P.out,by simp[aG],Below.refl _ _,Q3 _⟩
 case round=>
  obtain⟨k,r,lo,hk,rfl,rfl,C,G,F,o,E,z,I⟩:=hrel;have s:=J o;have R:=J E;have M:=J z;have b:=J G;have q:=J F;clear o E z G F;by_cases H:k<l.length
  ·obtain⟨g,a2,hv,hg,_⟩:=s.out.lies (by have:=b.out;simp;omega);injection hv with X Y a0
   subst X a0;have n:k<(lo++l.drop k).length:=by have:=b.out;simp;omega
   have B:=s.out.cell n;have a3:=s.out.free k;have K:(lo++l.drop k)[k]=l[k]:=by
    have h1:=b.out;rw[Un O,TO];congr 1;omega
   rw[K]at B;have p:l[k]<4294967296:=N.out _ (R6 H);obtain⟨x,hx⟩:∃x,l[k]=x:=⟨_,Z⟩;rw[hx]at B p;have HX:=J hx;obtain⟨V,W⟩:=zZ (d:=0) p hm O C;obtain⟨L,f⟩:∃L,x*m=L:=⟨_,Z⟩;have a1:(x:Int)*(m:Int)=(L:Int):=by rw[<-f];simp
   rw[f]at V W;have T:=J f;have HG:=J hg;clear K hx f Y n hg
   go_wp2
   go_roundw
   case rel=>exact Es (t:=L+r) H HX.out (by rw[T.out]) O b.out q.out s.out R.out M.out I HG.out O O O
   case measure=>simp[intOf];omega
  obtain rfl:k=l.length:=O
  have u:Hid (OwnN wr base (.slice A l.length c) lo):=by have:=s.out;rwa[U3,RP]at this
  have y:Hid (aG lo+4294967296^l.length*r=aG l*m+a):=by have:=R.out;rwa[Sa]at this
  have a4:lo.length<=1048576:=by have:=b.out;omega
  have U:base<=wr.heap.size:=Q7 hb I;clear s R;by_cases h0:0<r
  ·go_wp2_with (at_builtin;refine gH base _ lo _ r (.tmp 37) (.tmp 40) Z Z Z Z u.out O O U ?_;intro v2 w2 e j;have Q:=J e;have S:=J j;clear e j)
   go_ret
   exact⟨v2,lo++[r],Z,Q.out,eV q.out C,by rw[ez lo r _ b.out];exact y.out,by have:=b.out;simp;omega,M.out.trans S.out.below⟩
  obtain rfl:r=0:=O
  go_wp2
  go_ret
  exact⟨_,lo,Z,u.out,q.out,by have:=y.out;omega,by have:=b.out;omega,M.out⟩
