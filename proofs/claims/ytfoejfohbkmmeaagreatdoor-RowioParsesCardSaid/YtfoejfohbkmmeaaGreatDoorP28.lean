import Derived.Test.YtfoejfohbkmmeaaGreatDoorP27
import Derived.Test.YtfoejfohbkmmeaaGreatDoorP00
import Derived.Test.YtfoejfohbkmmeaaGreatDoorP06
import Derived.Test.YtfoejfohbkmmeaaGreatDoorP09
set_option maxRecDepth 100000
set_option maxHeartbeats 4000000
namespace Go.Proofs.YtfoejfohbkmmeaaGreatDoor
open Go.RowKit
open Lib renaming hid→J
theorem uV{vs:List V}{ts:List Tp}{i:Nat}{t:Tp}(h:ts[i]? =some t)(c:aX t.vals vs<0)(a:(ts.drop i).takeWhile (fun t=>decide (aX t.vals vs<0))=(ts.takeWhile fun t=>decide (aX t.vals vs<0)).drop i):(ts.drop (i+1)).takeWhile (fun t=>decide (aX t.vals vs<0))=(ts.takeWhile fun t=>decide (aX t.vals vs<0)).drop (i+1):=by
 obtain⟨b,rfl⟩:=L6.1 h;rw[Mc b,M0,decide_eq_true c]at a;have:=congrArg List.tail a;simpa[List.tail_drop]using this
def md:Tp:=⟨[],0⟩
theorem lg{α:Type}{l:List α}{i:Nat}{d:α}(h:i<l.length):l[i]? =some ((l[i]?).getD d):=by rw[L3 h];rfl
theorem Cx{r:Rel}(a:FitR r)(i:Nat):((r.tups[i]?).getD md).vals.length<=65536:=by
 cases h:r.tups[i]? with
 |none=>simp[md]
 |some t=>exact(a.tup t (L7 h)).2
theorem yB{vs:List V}{ts:List Tp}{i:Nat}(c:(ts.drop i).takeWhile (fun t=>decide (aX t.vals vs<0))=(ts.takeWhile fun t=>decide (aX t.vals vs<0)).drop i)(d:i<=ql vs ts)(b:(decide (i<ts.length)&&decide (aX ((ts[i]?).getD md).vals vs<0))=false):i=ql vs ts:=by
 have e:(ts.drop i).takeWhile (fun t=>decide (aX t.vals vs<0))=[]:=by
  by_cases a:i<ts.length
  ·rw[Mc a,M0];rw[decide_eq_true a,Of,L3 a,MG]at b;rw[b];rfl
  rw[Md (by omega)];rfl
 rw[e]at c;have:=congrArg List.length c;rw[MQ]at this;unfold ql at d⊢;simp only[Mg]at this;omega
theorem Cy{vs:List V}{ts:List Tp}{i:Nat}{t:Tp}(h:ts[i]? =some t)(c:aX t.vals vs<0)(a:(ts.drop i).takeWhile (fun t=>decide (aX t.vals vs<0))=(ts.takeWhile fun t=>decide (aX t.vals vs<0)).drop i):i+1<=ql vs ts:=by
 obtain⟨b,rfl⟩:=L6.1 h;rw[Mc b,M0,decide_eq_true c]at a;have:=congrArg List.length a;rw[MQ]at this;unfold ql;simp only[if_true,L9]at this;omega
theorem mF{r:Rel}(h:bw r=0):bK r.sch none r.tups=0:=by
 unfold bw at h;split at h
 ·cases h
 split at h
 ·cases h
 split at h
 ·next h1=>exact absurd h h1
 next h1=>exact Nx.1 h1
theorem iN(r:Rel)(t:Tp):(sN r t).plain=true:=by unfold sN;split<;>rfl
theorem og:(Tryz.prog.info? 28).map (·.size)=some 1:=by kernel_rfl
theorem qW(r:Rel)(T:FitR r):Ct 21 [r.tree] (iT (bw r)):=by
 refine Ct.of (n:=76) Tryz.func21 Z Z Z Z Z fun w0 G0=>?_
 refine ab<|aj 2 Z<|ab<|ab<|ae<|aa 2 Z<|af Z Z Z (ak Z (j1 r.sch) Z Z)<|af (t:=bT (!(fv r.sch))) Z Z Z (dm Z Z Zy)<|ag<|aF Z (fun z=>?_) (fun z=>?_)
 ·refine ab<|aj 1 Z<|aw<|⟨.inr Z,_,.cons Z .nil,d8 (by unfold bw;rw[if_pos (by simpa using z)]),Z⟩
 have d:fv r.sch=true:=by simpa using z
 refine am<|ab<|ab<|ae<|aa 2 Z<|af (t:=nI r.tups.length) Z Z Z (ah (aZ Z aN Z) (by simp only[L5]))<|af (t:=bT (decide (64<r.tups.length))) Z Z Z (ah (ai Z Z Z Zy) (ar (oF r.tups.length 64)))<|ag<|aD Z (fun c=>?_) (fun c=>?_)
 ·refine ab<|aj 1 Z<|aw<|⟨.inr Z,_,.cons Z .nil,d8 (by unfold bw;rw[if_neg (by rw[d];simp),if_pos c]),Z⟩
 refine am<|ab<|ab<|ae<|aa 2 Z<|af (t:=nI r.tups.length) Z Z Z (ah (aZ Z aN Z) (by simp only[L5]))<|aa 1 Z<|ag<|aB<|aR (fun w x=>∃(i:Nat),(i<=r.tups.length/\bK r.sch (gS r.tups i) (r.tups.drop i)=bK r.sch none r.tups)/\w=r.tups.length-i/\x=⟨76,[(1,.box 0 0),(20,.sl (r.tups.map Tp.tree)),(21,nI r.tups.length),(22,nI i)],[(30,(aV r))],[]⟩) 1 0 ⟨0,⟨by omega,Z⟩,Z,Z⟩ .rf ?_;rintro w x ⟨i,⟨W,a⟩,rfl,rfl⟩;refine ab<|ae<|af (t:=bT (decide (i<r.tups.length))) Z Z Z (ah (ai Z Z Z Zy) (ar (gA i r.tups.length)))<|ag<|ab<|aD Z (fun O=>?_) (fun O=>?_)
 ·obtain⟨t,q⟩:∃t,r.tups[i]? =some t:=⟨_,L3 O⟩;have J:=T.tup t (L7 q);refine am<|ab<|aB<|ab<|ae<|aa 1 Z<|af (t:=.ref (bV t)) Z Z Z (aM (Tp.tree t) Z aN Z Z Z (aS (f:=Tp.tree) q) (bS _) Z)<|aa 4 Z<|ag<|ab<|ab<|ae<|aa 3 Z<|af Z Z Z (ak Z (ye r.sch t J.1) Z Z)<|aa 1 Z<|ag<|ab<|ae<|aa 1 Z<|af (t:=bT ((bM r.sch t) !=0)) Z Z Z (ai Z Z Z Zy)<|ag<|aF Z (fun D=>?_) (fun D=>?_)
  ·have N:bM r.sch t≠0:=by simpa using D
   refine ab<|aj 2 Z<|aw<|⟨.inr Z,_,.cons Z .nil,d8 (by unfold bw;rw[if_neg (by rw[d];simp),if_neg c,<-a,qP q N,if_pos N]),Z⟩
  have P:bM r.sch t=0:=by simpa using D
  refine am<|ab<|ab<|ae<|aa 1 Z<|af (t:=bT (decide (i=0))) Z Z Z (ah (ai Z Z Z Zy) (ar (jF i 0)))<|ag<|aD Z (fun A=>?_) (fun A=>?_)
  ·rw[pi q P A]at a;refine aT<|ae<|af (t:=nI (i+1)) Z Z Z (ah (ai Z Z Z Zy) (bi (by omega)))<|aa 1 Z<|ag<|⟨_,_,?_,⟨i+1,?_,Z,Z⟩,.rf⟩
   ·omega
   exact⟨by omega,a⟩
  obtain⟨p,G⟩:∃p,r.tups[i-1]? =some p:=⟨_,L3 (by omega)⟩;have U:=T.tup p (L7 G);rw[qQ q P A G]at a;refine am<|ab<|cf (fu:=10) [some 36,some 37,some 38,some 39,some 40,some 41,some 42,some 43,some 44,some 45] [.box 0 3,.sl (r.tups.map Tp.tree),nI i,nI (i-1),.ref (bV p),.ref (bV p),.sl (p.vals.map V.tree),.box 1 0,.sl (t.vals.map V.tree),iT (aX p.vals t.vals)] (by kernel_rfl) Z Z (by kernel_rfl) Z ?_ ?_
  ·refine Chain.op Z (av Z Z bd Z)<|Chain.op Z (aA Z Z Z bJ Z)<|Chain.op Z (au Z Z)<|Chain.op Z (ah (ai Z Z Z Zy) (bi (by omega)))<|Chain.op Z (aM (Tp.tree p) Z aN Z Z Z (aS (f:=Tp.tree) G) (bS _) Z)<|Chain.op Z (bH Z Z b9 Z)<|Chain.op Z (bz Z Z cU Z)<|Chain.op Z (av Z Z b9 Z)<|Chain.op Z (aA Z Z Z cU Z)<|Chain.op Z (ak Z (jG _ _ U.2 J.2) Z Z)<|Chain.nil
  refine aB<|ab<|ae<|af (t:=bT ((aX p.vals t.vals)==0)) Z Z Z (ai Z Z Z Zy)<|aa 1 Z<|ag<|aF Z (fun C=>?_) (fun C=>?_)
  ·refine ab<|aj 1 Z<|aw<|⟨.inr Z,_,.cons Z .nil,d8 (by unfold bw;rw[if_neg (by rw[d];simp),if_neg c,<-a,if_pos (eq_of_beq C)];rfl),Z⟩
  have y:¬aX p.vals t.vals=0:=by simpa using C
  refine ab<|ae<|af (t:=bT ((aX p.vals t.vals)==1)) Z Z Z (ai Z Z Z Zy)<|aa 1 Z<|ag<|aF Z (fun E=>?_) (fun E=>?_)
  ·refine ab<|aj 1 Z<|aw<|⟨.inr Z,_,.cons Z .nil,d8 (by unfold bw;rw[if_neg (by rw[d];simp),if_neg c,show bK r.sch none r.tups=1 from by rw[<-a,if_neg y,if_pos (eq_of_beq E)]];rfl),Z⟩
  have L:¬aX p.vals t.vals=1:=by simpa using E
  rw[if_neg y,if_neg L]at a;refine am<|ae<|af (t:=nI (i+1)) Z Z Z (ah (ai Z Z Z Zy) (bi (by omega)))<|aa 1 Z<|ag<|⟨_,_,?_,⟨i+1,?_,Z,Z⟩,.rf⟩
  ·omega
  exact⟨by omega,a⟩
 have e:bK r.sch none r.tups=0:=by rw[<-a,Md (by omega)];cases gS r.tups i<;>rfl
 refine aT<|ab<|ae<|aa 1 Z<|af Z Z Z (ak Z (DH r T (yk e)) Z Z)<|aa 1 Z<|ag<|ab<|ab<|ae<|aa 1 Z<|af (t:=nI ((aW r).length)) Z Z Z (ah (aZ Z ci Z) (by simp only[L5]))<|aa 1 Z<|ag<|aB<|aR (fun w x=>∃(j:Nat),(j<=(aW r).length/\∀(m:Nat) (b:List Nat),(aW r)[m]? =some b->m<j->¬16<b.length)/\w=(aW r).length-j/\x=⟨76,[(1,.box 0 0),(6,.sl ((aW r).map jj)),(53,.sl ((aW r).map jj)),(54,nI ((aW r).length)),(55,nI j)],[(30,(aV r))],[]⟩) 1 0 ⟨0,⟨by omega,fun m b _ h=>by omega⟩,Z,Z⟩ .rf ?_;rintro w x ⟨j,⟨X,u⟩,rfl,rfl⟩;have a0:=sP r;refine ab<|ae<|af (t:=bT (decide (j<(aW r).length))) Z Z Z (ah (ai Z Z Z Zy) (ar (gA j ((aW r).length))))<|ag<|ab<|aD Z (fun S=>?_) (fun S=>?_)
 ·obtain⟨b,H⟩:∃b,(aW r)[j]? =some b:=⟨_,L3 S⟩;refine am<|ab<|aB<|ab<|ae<|af (t:=.ref [.sl (b.map fF)]) Z Z Z (aM (jj b) Z ci Z Z Z (aS (f:=jj) H) (lN _) Z)<|aa 2 Z<|ag<|ab<|ae<|aa 1 Z<|af (t:=nI b.length) Z Z Z (ah (aZ Z cL Z) (by simp only[L5]))<|af (t:=bT (decide (16<b.length))) Z Z Z (ah (ai Z Z Z Zy) (ar (oF b.length 16)))<|ag<|aD Z (fun F=>?_) (fun F=>?_)
  ·refine ab<|aj 1 Z<|aw<|⟨.inr Z,_,.cons Z .nil,d8 (by unfold bw;rw[if_neg (by rw[d];simp),if_neg c,if_neg (by rw[e];simp),if_pos (uI H F)]),Z⟩
  refine am<|ae<|af (t:=nI (j+1)) Z Z Z (ah (ai Z Z Z Zy) (bi (by omega)))<|aa 1 Z<|ag<|⟨_,_,?_,⟨j+1,?_,Z,Z⟩,.rf⟩
  ·omega
  refine⟨by omega,fun m b B h=>?_⟩;rcases MA m j with M|M
  ·exact u m b B M
  obtain rfl:m=j:=by omega
  rw[H]at B;cases B;exact F
 have g:n6 (aW r)=false:=n7 fun k b I=>u k b I (by have:=(L6.1 I).1;omega)
 refine aT<|ab<|ab<|ae<|aa 1 Z<|af (t:=nI ((aW r).length)) Z Z Z (ah (aZ Z ci Z) (by simp only[L5]))<|aa 1 Z<|ag<|aB<|aR (fun w x=>∃(k:Nat),(k<=(aW r).length/\∀(m:Nat) (b:List Nat),(aW r)[m]? =some b->m<k->¬cE (1-ef r.tups b)<0)/\w=(aW r).length-k/\x=⟨76,[(1,.box 0 0),(6,.sl ((aW r).map jj)),(63,.sl ((aW r).map jj)),(64,nI ((aW r).length)),(65,nI k)],[(30,(aV r))],[]⟩) 1 0 ⟨0,⟨by omega,fun m b _ h=>by omega⟩,Z,Z⟩ .rf ?_;rintro w x ⟨k,⟨I,Q⟩,rfl,rfl⟩;refine ab<|ae<|af (t:=bT (decide (k<(aW r).length))) Z Z Z (ah (ai Z Z Z Zy) (ar (gA k ((aW r).length))))<|ag<|ab<|aD Z (fun v=>?_) (fun v=>?_)
 ·obtain⟨b,o⟩:∃b,(aW r)[k]? =some b:=⟨_,L3 v⟩;have l:=uK r b (L7 o);have R:b.length<=16:=by have:=N1.1 g b (L7 o);simpa using this
  have K:=ni e l.2 R;refine am<|ab<|aB<|ab<|ae<|af (t:=.ref [.sl (b.map fF)]) Z Z Z (aM (jj b) Z ci Z Z Z (aS (f:=jj) o) (lN _) Z)<|aa 2 Z<|ag<|ab<|ae<|aa 2 Z<|af Z Z Z (ak Z (FI r b l.2 (by omega) (fun t Y=>(T.tup t Y).1.p) (fun j X=>(ni e (fun i W=>l.2 i (ME W)) (by rw[Mf];omega)).1)) Z Z)<|af Z Z Z (ak Z (sI _ K.1) Z Z)<|af Z Z Z (ak Z (k7 _ K.2) Z Z)<|af (t:=bT (decide ((cE (1-ef r.tups b))<0))) Z Z Z (ai Z Z Z Zy)<|ag<|aD Z (fun s=>?_) (fun s=>?_)
  ·refine ab<|aj 1 Z<|aw<|⟨.inr Z,_,.cons Z .nil,d8 (by unfold bw;rw[if_neg (by rw[d];simp),if_neg c,if_neg (by rw[e];simp),if_neg (by rw[g];simp),if_pos (sM o s)]),Z⟩
  refine am<|ae<|af (t:=nI (k+1)) Z Z Z (ah (ai Z Z Z Zy) (bi (by omega)))<|aa 1 Z<|ag<|⟨_,_,?_,⟨k+1,?_,Z,Z⟩,.rf⟩
  ·omega
  refine⟨by omega,fun m b B h=>?_⟩;rcases MA m k with M|M
  ·exact Q m b B M
  obtain rfl:m=k:=by omega
  rw[o]at B;cases B;exact s
 refine aT<|ab<|aj 1 Z<|aw<|⟨.inr Z,_,.cons Z .nil,d8 (by unfold bw;rw[if_neg (by rw[d];simp),if_neg c,if_neg (by rw[e];simp),if_neg (by rw[g];simp),if_neg (by rw[mz fun k b I=>Q k b I (by have:=(L6.1 I).1;omega)];simp)]),Z⟩
theorem uW(r:Rel)(t:Tp)(k:FitR r)(l:FitT t)(v:t.vals.length<=65536):Ct 30 [r.tree,t.tree] (sN r t):=by
 refine Ct.of (n:=89) Tryz.func30 Z Z Z Z Z fun w0 G0=>?_
 refine ab<|aj 4 Z<|ab<|ab<|ae<|aa 1 Z<|af Z Z Z (ak Z (qW r k) Z Z)<|aa 1 Z<|ag<|ab<|ae<|aa 1 Z<|af (t:=bT ((bw r) !=0)) Z Z Z (ai Z Z Z Zy)<|ag<|aF Z (fun m=>?_) (fun m=>?_)
 ·have B:bw r≠0:=by simpa using m
  refine ab<|aj 4 Z<|aw<|⟨.inr Z,_,.cons ⟨_,_,_,_,Z,Z,.inl ⟨_,bj,Z,Z⟩⟩ (.cons Z .nil),by unfold sN;rw[show c8 r t=bw r from by unfold c8;rw[if_pos B]];rw[if_neg B];rfl,iN r t⟩
 have y:bw r=0:=by simpa using m
 have E:=mF y;refine am<|ab<|ab<|ae<|aa 3 Z<|af Z Z Z (ak Z (ye r.sch t l) Z Z)<|aa 1 Z<|ag<|ab<|ae<|aa 1 Z<|af (t:=bT ((bM r.sch t) !=0)) Z Z Z (ai Z Z Z Zy)<|ag<|aF Z (fun w=>?_) (fun w=>?_)
 ·have D:bM r.sch t≠0:=by simpa using w
  refine ab<|aj 4 Z<|aw<|⟨.inr Z,_,.cons ⟨_,_,_,_,Z,Z,.inl ⟨_,bj,Z,Z⟩⟩ (.cons Z .nil),by unfold sN;rw[show c8 r t=bM r.sch t from by unfold c8;rw[if_neg (by rw[y];simp),if_pos D]];rw[if_neg D];rfl,iN r t⟩
 have g:bM r.sch t=0:=by simpa using w
 refine am<|ab<|ab<|ae<|aa 3 Z<|af Z Z Z (ak Z (It r t.vals v k.tups (fun t J=>(k.tup t J).2)) Z Z)<|aa 5 Z<|ag<|ab<|aj 1 Z<|aF Z (fun s=>?_) (fun s=>?_)
 ·refine ab<|aj 3 Z<|aw<|⟨.inr Z,_,.cons ⟨_,_,_,_,Z,Z,.inl ⟨_,bj,Z,Z⟩⟩ (.cons Z .nil),by unfold sN;rw[show c8 r t=8 from by unfold c8;rw[if_neg (by rw[y];simp),if_neg (by rw[g];simp),if_pos s]];rfl,iN r t⟩
 have q:=s;refine am<|ab<|ae<|aa 3 Z<|af Z Z Z (ak Z (AG r t.vals k.cols k.tups) Z Z)<|aa 1 Z<|ag<|ab<|ab<|ae<|aa 2 Z<|af (t:=nI r.tups.length) Z Z Z (ah (aZ Z aN Z) (by simp only[L5]))<|af (t:=bT (decide (64<=r.tups.length))) Z Z Z (ah (ai Z Z Z Zy) (ar (Js r.tups.length 64)))<|aa 1 Z<|aq (t:=.sl ((eZ r t.vals).map fF)) Z Z Z Z (fun a=>au Z Z)<|aq (t:=nI ((eZ r t.vals).length)) Z Z Z Z (fun a=>ah (aZ Z cL (if_pos a)) (by simp only[L5]))<|aq (t:=bT (decide (16<=(eZ r t.vals).length))) Z Z Z Z (fun a=>ah (ai Z (if_pos a) Z (fun _=>rfl)) (ar (Js ((eZ r t.vals).length) 16)))<|af (t:=bT ((decide (64<=r.tups.length))||(decide (16<=(eZ r t.vals).length)))) Z Z Z (aK Z Z (fun h=>(ar (by rw[h];rfl))) (fun h=>(if_pos h).trans (ar (by rw[h];rfl))))<|ag<|aF Z (fun u=>?_) (fun u=>?_)
 ·refine ab<|aj 3 Z<|aw<|⟨.inr Z,_,.cons ⟨_,_,_,_,Z,Z,.inl ⟨_,bj,Z,Z⟩⟩ (.cons Z .nil),by unfold sN;rw[show c8 r t=4 from by unfold c8;rw[if_neg (by rw[y];simp),if_neg (by rw[g];simp),if_neg (by rw[q];simp),if_pos (by simpa using u)]];rfl,iN r t⟩
 have G:¬(64<=r.tups.length\/16<=(eZ r t.vals).length):=by simpa using u
 have b:=J3 r t.vals;have z:=ni E b.2 (by omega);refine am<|ab<|ab<|cf (fu:=8) [some 50,some 51,some 52,some 53,some 54,some 55,some 56,some 57] [.box 1 1,.agg (bf t.prob),.agg (aV r),.sl ((eZ r t.vals).map fF),.agg [bT (decide ((ef r.tups (eZ r t.vals)).num<0)),aH ((ef r.tups (eZ r t.vals)).num.natAbs),aH ((ef r.tups (eZ r t.vals)).den)],.agg [bT (decide ((1-ef r.tups (eZ r t.vals)).num<0)),aH ((1-ef r.tups (eZ r t.vals)).num.natAbs),aH ((1-ef r.tups (eZ r t.vals)).den)],iT (mi t.prob (1-ef r.tups (eZ r t.vals))),bT (decide ((mi t.prob (1-ef r.tups (eZ r t.vals)))>0))] (by kernel_rfl) Z Z (by kernel_rfl) Z ?_ ?_
 ·refine Chain.op Z (av Z Z ep Z)<|Chain.op Z (aP Z Z Z aI Z Z)<|Chain.op Z (aP Z Z Z bj Z Z)<|Chain.op Z (au Z Z)<|Chain.op Z (ak Z (FI r _ b.2 (by omega) (fun t J=>(k.tup t J).1.p) (fun j M=>(ni E (fun i I=>b.2 i (ME I)) (by rw[Mf];omega)).1)) Z Z)<|Chain.op Z (ak Z (sI _ z.1) Z Z)<|Chain.op Z (ak Z (Iv _ _ l.p z.2) Z Z)<|Chain.op Z (ai Z Z Z Zy)<|Chain.nil
 refine aD Z (fun o=>?_) (fun o=>?_)
 ·refine ab<|aj 3 Z<|aw<|⟨.inr Z,_,.cons ⟨_,_,_,_,Z,Z,.inl ⟨_,bj,Z,Z⟩⟩ (.cons Z .nil),by unfold sN;rw[show c8 r t=19 from by unfold c8;rw[if_neg (by rw[y];simp),if_neg (by rw[g];simp),if_neg (by rw[q];simp),if_neg G,if_pos o]];rfl,iN r t⟩
 refine am<|ab<|aj 1 Z<|ab<|aB<|aR (fun K L=>∃(i:Nat),(i<=r.tups.length/\(r.tups.drop i).takeWhile (fun x=>decide (aX x.vals t.vals<0))=(r.tups.takeWhile fun x=>decide (aX x.vals t.vals<0)).drop i/\i<=ql t.vals r.tups)/\K=r.tups.length-i/\L=⟨89,[(2,.box 0 0),(3,.box 1 0),(4,.box 2 0),(11,nI i)],[(30,(aV r)),(67,(bV t)),(30,eD)],[]⟩) 3 0 ⟨0,⟨by omega,Z,by omega⟩,Z,Z⟩ .rf ?_;rintro K L ⟨i,⟨I,e,H⟩,rfl,rfl⟩;refine ab<|ab<|cf (fu:=17) [some 59,some 60,some 61,some 62,some 63,some 64,some 65,some 66,some 67,some 68,some 69,some 70,some 71,some 72,some 73,some 74,some 75] [nI i,.box 0 3,.sl (r.tups.map Tp.tree),nI r.tups.length,bT (decide (i<r.tups.length)),bT (decide (i<r.tups.length)),if(decide (i<r.tups.length))=true then(.box 0 3:Tree)else .sc undef,if(decide (i<r.tups.length))=true then(.sl (r.tups.map Tp.tree):Tree)else .sc undef,if(decide (i<r.tups.length))=true then(nI i:Tree)else .sc undef,if(decide (i<r.tups.length))=true then(.ref [.sl ((((r.tups[i]?).getD md).vals).map V.tree),bT (decide (((r.tups[i]?).getD md).prob.num<0)),aH (((r.tups[i]?).getD md).prob.num.natAbs),aH (((r.tups[i]?).getD md).prob.den)]:Tree)else .sc undef,if(decide (i<r.tups.length))=true then(.ref [.sl ((((r.tups[i]?).getD md).vals).map V.tree),bT (decide (((r.tups[i]?).getD md).prob.num<0)),aH (((r.tups[i]?).getD md).prob.num.natAbs),aH (((r.tups[i]?).getD md).prob.den)]:Tree)else .sc undef,if(decide (i<r.tups.length))=true then(.sl ((((r.tups[i]?).getD md).vals).map V.tree):Tree)else .sc undef,if(decide (i<r.tups.length))=true then(.box 1 0:Tree)else .sc undef,if(decide (i<r.tups.length))=true then(.sl (t.vals.map V.tree):Tree)else .sc undef,if(decide (i<r.tups.length))=true then(iT (aX ((r.tups[i]?).getD md).vals t.vals):Tree)else .sc undef,if(decide (i<r.tups.length))=true then(bT (decide ((aX ((r.tups[i]?).getD md).vals t.vals)<0)):Tree)else .sc undef,bT ((decide (i<r.tups.length))&&(decide ((aX ((r.tups[i]?).getD md).vals t.vals)<0)))] (by kernel_rfl) Z Z (by kernel_rfl) Z ?_ ?_
 ·refine Chain.op Z (au Z Z)<|Chain.op Z (av Z Z bd Z)<|Chain.op Z (aA Z Z Z bJ Z)<|Chain.op Z (ah (aZ Z aN Z) (by simp only[L5]))<|Chain.op Z (ah (ai Z Z Z Zy) (ar (gA i r.tups.length)))<|Chain.op Z (au Z Z)<|bk Z Z Z (fun a=>av Z Z bd Z)<|bk Z Z Z (fun a=>aA Z (if_pos a) Z bJ Z)<|bk Z Z Z (fun a=>au Z Z)<|bk Z Z Z (fun a=>aM (Tp.tree ((r.tups[i]?).getD md)) Z aN (if_pos a) (if_pos a) Z (aS (f:=Tp.tree) (lg (of_decide_eq_true a))) (bS _) Z)<|bk Z Z Z (fun a=>bH Z (if_pos a) b9 Z)<|bk Z Z Z (fun a=>bz Z (if_pos a) cU Z)<|bk Z Z Z (fun a=>av Z Z b9 Z)<|bk Z Z Z (fun a=>aA Z (if_pos a) Z cU Z)<|bk Z Z Z (fun a=>ak Z (jG _ _ (Cx k i) v) (eR (if_pos a) (eR (if_pos a) Z)) Z)<|bk Z Z Z (fun a=>ai Z (if_pos a) Z (fun _=>rfl))<|Chain.op Z (aK Z Z (fun h=>(if_pos h).trans (ar (by rw[h];rfl))) (fun h=>(ar (by rw[h];rfl))))<|Chain.nil
 refine aF Z (fun c=>?_) (fun c=>?_)
 ·rw[L8]at c;have C:=of_decide_eq_true c.1;have A:=of_decide_eq_true c.2;refine am<|aB<|ae<|aa 1 Z<|af (t:=nI (i+1)) Z Z Z (ah (ai Z Z Z Zy) (bi (by omega)))<|aa 1 Z<|ag<|⟨_,_,?_,⟨i+1,?_,Z,Z⟩,.rf⟩
  ·omega
  exact⟨by omega,uV (lg (d:=md) C) A e,Cy (lg (d:=md) C) A e⟩
 have F:=yB e H c;refine aT<|ab<|ae<|aa 1 Z<|af Z Z Z (ak Z (F5 r k) Z Z)<|aa 2 Z<|ag<|ab<|dI (ops:=[_,_,_,_,_,_,_,_]) (fu:=9) (bs':=[(30,(aV r)),(67,(bV t)),(30,eD),(30,[sT r.sch.name,bT r.sch.cert,.sl (r.sch.cols.map Col.tree),.sl ((r.tups.take i++[t]++r.tups.drop i).map Tp.tree)])]) [some 80,some 81,some 82,some 83,some 84,some 85,some 86,some 87] [.box 3 3,(.tl (r.tups.map Tp.tree)),nI i,.agg (bV t),.agg (bV t),.sl [.agg (bV t)],.sl ((r.tups.take i++[t]++r.tups.drop i).map Tp.tree),.box 3 3] (by kernel_rfl) Z Z Z Z Z (by kernel_rfl) (by kernel_rfl) Z Z Z Z Z Z Z Z og Z Z Z ?_ ?_
 ·refine Chain.op Z (av Z Z bd Z)<|Chain.op Z (aA Z Z Z bJ Z)<|Chain.op Z (au Z Z)<|Chain.op Z (aP Z Z Z di Z Z)<|Chain.op Z (ak Z (uU t l v) Z Z)<|Chain.op Z (aQ Z aN fV Z (by decide) (by decide) Z Z Z Z Z)<|Chain.op Z (ak Z (AJ r.tups t i I (by omega)) Z Z)<|Chain.op Z (av Z Z bd Z)<|Chain.nil
 refine ab<|aj 3 Z<|aw<|⟨.inr Z,_,.cons ⟨_,_,_,_,Z,Z,.inl ⟨_,bj,Z,Z⟩⟩ (.cons Z .nil),by unfold sN;rw[show c8 r t=0 from by unfold c8;rw[if_neg (by rw[y];simp),if_neg (by rw[g];simp),if_neg (by rw[q];simp),if_neg G,if_neg o],if_pos Z];unfold bU;rw[<-F];rfl,iN r t⟩
theorem DM(r:Rel)(t:Tp)(c:FitR r)(a:FitT t)(b:t.vals.length<=65536)(h:c8 r t=0):Ct 30 [r.tree,t.tree] (.tup [(bU r t).tree,iT 0]):=by
 have:=uW r t c a b;unfold sN at this;rwa[if_pos h,h]at this
theorem AU(r:Rel)(t:Tp)(c:FitR r)(a:FitT t)(b:t.vals.length<=65536)(h:c8 r t≠0):Ct 30 [r.tree,t.tree] (.tup [rG,iT (c8 r t)]):=by
 have:=uW r t c a b;unfold sN at this;rwa[if_neg h]at this
theorem AV(n:Nat)(c:n<=18446744073709551615):Ct 212 [.sc (.int .u64 (n:Nat))] (nI (Lib.bitLen n)):=Ct.sc ⟨_,Tryz.func212,Z,Z⟩ fun G w vs _ _ a=>by
 obtain⟨u,rfl,b⟩:=dp a;cases b;refine(Tryz.bits_Len (n:Int) w (by omega) (by omega)).mono fun e w' h=>?_
 rw[Ou]at h;exact⟨h.1,by rw[h.2];exact Below.refl _ _⟩
theorem pz:∀(f n:Nat),n<2^f->n<2^Lib.bitLenAux f n
 |0,n,h=>by
  have:n=0:=by simpa using h
  subst this;decide
 |f+1,n,h=>by
  unfold Lib.bitLenAux;split
  ·omega
  have:=pz f (n/2) (by rw[MH]at h;omega);rw[NW,MH];omega
theorem jB:∀(f n:Nat),Lib.bitLenAux f n<=f
 |0,n=>L4 _
 |f+1,n=>by
  unfold Lib.bitLenAux;split
  ·omega
  have:=jB f (n/2);omega
theorem yC{x y:Operand}(a j:Nat)(b:j<=64)(w:World):(do eqGuard .shr 3 x y (.int .i64 (a:Nat)) (.int .i64 ((j:Nat):Int));binOp .shr 3 (.int .i64 (a:Nat)) (.int .i64 ((j:Nat):Int)):Sem Value).run Tryz.prog w=.ok (.int .i64 ((a/2^j:Nat):Int)) w:=by
 simp[eqGuard,binOp,Op.shift,IntKind.bits];try omega
theorem yD(n:Int):bits .and .i64 n 1=n%2:=by
 have a:(BitVec.ofInt 64 1).toNat=2^1-1:=by decide
 have key:(BitVec.ofInt 64 n&&& BitVec.ofInt 64 1).toNat=(n%((2^64:Nat):Int)).toNat%2^1:=by
  rw[BitVec.toNat_and,BitVec.toNat_ofInt,a,Oq]
 show IntKind.i64.wrap ((BitVec.ofInt 64 n&&& BitVec.ofInt 64 1).toNat:Nat)=n%2
 rw[key,Np];omega
theorem yE{x y:Operand}(a:Nat)(w:World):(do eqGuard .and 3 x y (.int .i64 (a:Nat)) (.int .i64 1);binOp .and 3 (.int .i64 (a:Nat)) (.int .i64 1):Sem Value).run Tryz.prog w=.ok (.int .i64 ((a%2:Nat):Int)) w:=by
 have key:bits .and .i64 (a:Int) 1=((a%2:Nat):Int):=by rw[yD];omega
 go_simp
theorem F6{a:Int}(h: -9223372036854775808<=a)(b:a<=9223372036854775807):(Tree.sc (.int .i64 (IntKind.i64.wrap a)))=iT a:=by
 rw[Np];congr 2;omega
theorem DN:cM 10=4:=by decide+kernel
theorem wO{k m:Nat}(h:k<=m):(ax (10^k)).length<=m+1:=a8 (NC (Ma (MR (by decide) h) (PC (show 10<=4294967296 by decide) m)) (N7 (by decide) (OY m)))
theorem F9{n m:Nat}(h:n<=4*m)(a:m≠0):(ax (10^n)).length<=m:=by
 refine a8 (NC (MR (by decide) h) ?_);rw[PD];exact Nat.pow_lt_pow_left (by decide) a
theorem pA{k n:Nat}(h:k<=n)(a:n<=4000):(ax (10^k)).length<=1048576:=Ma (wO (m:=4000) (by omega)) (by decide)
theorem DO{n:Nat}(a:n<=4000):(ax (10^n)).length<=262144:=Ma (wO (m:=4000) (by omega)) (by decide)
theorem IB{k n:Nat}(h:k<=n)(a:n<=4000):(ax (10^k*10^k)).length<=1048576:=by
 rw[<-NZ];exact Ma (wO (m:=8000) (by omega)) (by decide)
theorem Jg{a:Nat}(h:a<18446744073709551616):(Tree.sc (.int .u64 (IntKind.u64.wrap (a:Nat))))=.sc (.int .u64 ((a:Nat):Int)):=by
 rw[IntKind.wrap_u64];congr 2;omega
theorem IC{n:Nat}(h:n<=4000):Ct 149 [.sc (.int .u64 1)] (aH (10^(n/2^Lib.bitLen n))):=by
 have a:=ij 1 (by decide);rw[show n/2^Lib.bitLen n=0 from N3 (pz 64 n (by omega))];exact a
theorem J9{n i j:Nat}(a:j=i+1)(b:¬n/2^i%2=1):10^(n/2^j)*10^(n/2^j)=10^(n/2^i):=by
 subst a;rw[<-NZ,MH,<-Oy];congr 1;omega
theorem ID{n i j:Nat}(a:j=i+1)(b:n/2^i%2=1):10^(n/2^j)*10^(n/2^j)*10=10^(n/2^i):=by
 subst a;rw[<-NZ,<-MH,MH 2,<-Oy];congr 1;omega
theorem DP{n:Nat}(b:n<=4000):cM (10^n)<=65536:=by
 have a:=F9 (m:=1000) (n:=n) (by omega) (by decide);unfold cM;split
 ·omega
 have:Lib.bitLen ((ax (10^n)).getD ((ax (10^n)).length-1) 0)<=64:=jB 64 _;omega
theorem IE(n:Nat)(h:n<=4000):Ct 150 [aH 10,iT (n:Nat)] (.tup [aH (10^n),iT 0]):=by
 refine Ct.of (n:=59) Tryz.func150 Z Z Z Z Z fun w0 G0=>?_
 refine ab<|ae<|af (t:=.sl []) Z Z Z (cz (.inr Z) dk)<|aa 1 Z<|ag<|ab<|ab<|ae<|aa 1 Z<|af (t:=bT (decide (n<0))) Z Z Z (ah (ai Z Z Z Zy) (ar (gA n 0)))<|ag<|aD Z (fun g=>?_) (fun g=>?_)
 ·exact absurd g (by first|decide|omega|simp)
 refine am<|ab<|ae<|aa 1 Z<|af (t:=nI 4) Z Z Z (ak Z (by have h:=k5 10 (by decide);rw[DN]at h;exact h) Z Z)<|aa 1 Z<|ag<|ab<|ab<|ae<|aa 1 Z<|af (t:=bT (decide (n=0))) Z Z Z (ah (ai Z Z Z Zy) (ar (jF n 0)))<|aa 1 Z<|aq (t:=nI 4) Z Z Z Z (fun a=>au Z Z)<|aq (t:=bT (decide (4=1))) Z Z Z Z (fun a=>ah (ai Z (if_pos a) Z (fun _=>rfl)) (ar (jF 4 1)))<|af (t:=bT ((decide (n=0))||(decide (4=1)))) Z Z Z (aK Z Z (fun b=>(ar (by rw[b];rfl))) (fun b=>(if_pos b).trans (ar (by rw[b];rfl))))<|ag<|aF Z (fun f=>?_) (fun f=>?_)
 ·obtain rfl:n=0:=by simpa using f
  refine ab<|ae<|af Z Z Z (ak Z (ij 1 (by decide)) Z Z)<|aa 2 Z<|ag<|aw<|⟨.inr Z,_,.cons Z (.cons Z .nil),Z,Z⟩
 have z:n≠0:=by simpa using f
 refine am<|ab<|ab<|ae<|aa 1 Z<|af (t:=bT (decide (4=0))) Z Z Z (ah (ai Z Z Z Zy) (ar (jF 4 0)))<|ag<|aD Z (fun l=>?_) (fun l=>?_)
 ·exact absurd l (by first|decide|omega|simp)
 refine am<|ab<|ab<|ae<|aa 1 Z<|af (t:=bT (decide (65536<=n))) Z Z Z (ah (ai Z Z Z Zy) (ar (Js n 65536)))<|aa 1 Z<|aq (t:=nI 4) Z Z Z Z (fun a=>au Z Z)<|aq (t:=bT (decide (65536<4))) Z Z Z Z (fun a=>ah (ai Z (if_pos a) Z (fun _=>rfl)) (ar (oF 4 65536)))<|af (t:=bT ((decide (65536<=n))||(decide (65536<4)))) Z Z Z (aK Z Z (fun b=>(ar (by rw[b];rfl))) (fun b=>(if_pos b).trans (ar (by rw[b];rfl))))<|aa 1 Z<|aq (t:=nI n) Z Z Z Z (fun a=>au Z Z)<|aq (t:=nI 4) Z Z Z Z (fun a=>au Z Z)<|aq (t:=nI (4-1)) Z Z Z Z (fun a=>ah (ai Z (if_pos a) Z (fun _=>rfl)) (bi (by omega)))<|aq (t:=nI (n*(4-1))) Z Z Z Z (fun a=>ah (ai Z (if_pos a) (if_pos a) (fun _=>rfl)) (bi (by omega)))<|aq (t:=bT (decide (65536<=n*(4-1)))) Z Z Z Z (fun a=>ah (ai Z (if_pos a) Z (fun _=>rfl)) (ar (Js (n*(4-1)) 65536)))<|af (t:=bT (((decide (65536<=n))||(decide (65536<4)))||(decide (65536<=n*(4-1))))) Z Z Z (aK Z Z (fun b=>(ar (by rw[b];rfl))) (fun b=>(if_pos b).trans (ar (by rw[b];rfl))))<|ag<|aF Z (fun o=>?_) (fun o=>?_)
 ·exact absurd o (by simp;omega)
 refine am<|ab<|ae<|af Z Z Z (ak Z (IC h) Z Z)<|aa 1 Z<|ag<|ab<|ab<|ae<|aa 1 Z<|af (t:=.sc (.int .u64 ((n:Nat):Int))) Z Z Z (ah (g9 Z iJ iK Z) (Jg (by omega)))<|af Z Z Z (ak Z (AV n (by omega)) Z Z)<|af (t:=iT (((Lib.bitLen n:Nat):Int)-1)) Z Z Z (ah (ai Z Z Z Zy) (F6 (by omega) (by have:=jB 64 n;unfold Lib.bitLen;omega)))<|aa 1 Z<|ag<|aB<|aR (fun v x=>∃(j:Nat),(j<=64/\n<2^64)/\v=j+1/\x=⟨59,[(0,aH 10),(1,nI n),(7,aH (10^(n/2^j))),(8,iT (((j:Nat):Int)-1))],[],[]⟩) 0 0 ⟨(Lib.bitLen n),⟨jB 64 n,by omega⟩,Z,Z⟩ .rf ?_;rintro v x ⟨j,⟨A,d⟩,rfl,rfl⟩;refine ab<|ab<|ae<|aa 1 Z<|af (t:=bT (decide ((((j:Nat):Int)-1)≥0))) Z Z Z (ai Z Z Z Zy)<|ag<|aD Z (fun u=>?_) (fun u=>?_)
 ·obtain⟨i,p⟩:∃i,j=i+1:=⟨j-1,by omega⟩;have c:n/2^j<=n:=NT _ _;have y:n/2^i<=n:=NT _ _;refine am<|ab<|aB<|ab ?_;by_cases s:n/2^i%2=1
  ·refine ae<|aa 2 Z<|af Z Z Z (ak Z (kq _ _ (pA c h) (pA c h)) Z Z)<|aa 1 Z<|ag<|ab<|ae<|aa 1 Z<|af (t:=nI i) Z Z Z (ah (au Z Z) ((d8 (by omega))))<|af (t:=nI (n/2^i)) Z Z Z (ai Z Z Z (fun w=>yC n i (by omega) w))<|af (t:=nI (n/2^i%2)) Z Z Z (ai Z Z Z (fun w=>yE (n/2^i) w))<|af (t:=bT (decide (n/2^i%2=1))) Z Z Z (ah (ai Z Z Z Zy) (ar (jF (n/2^i%2) 1)))<|ag<|aD Z (fun m=>?_) (fun m=>?_)
   ·refine ae<|aa 2 Z<|af (t:=aH (10^(n/2^i))) Z Z Z (ak Z (by have k:=kq _ 10 (IB c h) (by decide);rw[ID p s]at k;exact k) Z Z)<|aa 1 Z<|ag<|ae<|af (t:=nI i) Z Z Z (ah (au Z Z) ((d8 (by omega))))<|af (t:=iT (((i:Nat):Int)-1)) Z Z Z (ah (ai Z Z Z Zy) (F6 (by omega) (by omega)))<|aa 1 Z<|ag<|⟨_,_,?_,⟨i,?_,Z,Z⟩,.rf⟩
    ·omega
    exact⟨by omega,d⟩
   exact absurd s m
  refine ae<|aa 2 Z<|af (t:=aH (10^(n/2^i))) Z Z Z (ak Z (by have k:=kq _ _ (pA c h) (pA c h);rw[J9 p s]at k;exact k) Z Z)<|aa 1 Z<|ag<|ab<|ae<|aa 1 Z<|af (t:=nI i) Z Z Z (ah (au Z Z) ((d8 (by omega))))<|af (t:=nI (n/2^i)) Z Z Z (ai Z Z Z (fun w=>yC n i (by omega) w))<|af (t:=nI (n/2^i%2)) Z Z Z (ai Z Z Z (fun w=>yE (n/2^i) w))<|af (t:=bT (decide (n/2^i%2=1))) Z Z Z (ah (ai Z Z Z Zy) (ar (jF (n/2^i%2) 1)))<|ag<|aD Z (fun q=>?_) (fun q=>?_)
  ·exact absurd q s
  refine am<|ae<|af (t:=nI i) Z Z Z (ah (au Z Z) ((d8 (by omega))))<|af (t:=iT (((i:Nat):Int)-1)) Z Z Z (ah (ai Z Z Z Zy) (F6 (by omega) (by omega)))<|aa 1 Z<|ag<|⟨_,_,?_,⟨i,?_,Z,Z⟩,.rf⟩
  ·omega
  exact⟨by omega,d⟩
 have e:n/2^j=n:=by
  obtain rfl:j=0:=by omega
  simp
 refine aT<|ab<|ab<|ae<|aa 1 Z<|af Z Z Z (ak Z (k5 _ (by rw[e];exact DO h)) Z Z)<|af (t:=bT (decide (65536<(cM (10^(n/2^j)))))) Z Z Z (ah (ai Z Z Z Zy) (ar (oF ((cM (10^(n/2^j)))) 65536)))<|ag<|aD Z (fun r=>?_) (fun r=>?_)
 ·exact absurd (DP h) (by rw[e]at r;omega)
 refine am<|ab<|aj 3 Z<|aw<|⟨.inr Z,_,.cons Z (.cons Z .nil),by rw[e];rfl,Z⟩
end Go.Proofs.YtfoejfohbkmmeaaGreatDoor
