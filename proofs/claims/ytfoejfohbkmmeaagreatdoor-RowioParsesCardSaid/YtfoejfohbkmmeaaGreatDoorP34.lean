import Derived.Test.YtfoejfohbkmmeaaGreatDoorP33
import Derived.Test.YtfoejfohbkmmeaaGreatDoorP00
import Derived.Test.YtfoejfohbkmmeaaGreatDoorP06
import Derived.Test.YtfoejfohbkmmeaaGreatDoorP24
set_option maxRecDepth 100000
set_option maxHeartbeats 4000000
namespace Go.Proofs.YtfoejfohbkmmeaaGreatDoor
open Go.RowKit
open Lib renaming hid→J
def yO(t:Tp):Prop:=∀v∈t.vals,v.s.size<=9223372036854775807
def A9(r:Rel):Prop:=∀t∈r.tups,yO t
theorem tk{ts:List Tp}(h:∀t∈ts,0<=t.prob):∀(l:List Nat) (q:Rat),0<=q->0<=l.foldl (fun q i=>q+ii ts i) q
 |[],q,hq=>hq
 |i::l,q,hq=>by
  rw[NG];refine tk h l _ ?_;have:0<=ii ts i:=by
   unfold ii;cases a:ts[i]? with
   |none=>simp
   |some t=>exact h t (L7 a)
  grind
theorem yP{r:Rel}(h:bK r.sch none r.tups=0)(b:List Nat):(!ue (ef r.tups b))=decide (cE (1-ef r.tups b)<0):=by
 have a:0<=ef r.tups b:=tk (fun t c=>(gH (eF (fW h t c)).2.1).1) b 0 (by decide);unfold ue;rw[decide_eq_true (by rw[<-Int.not_lt,k8,Rat.not_lt];exact a),Of,<-decide_not];exact decide_eq_decide.2 (by omega)
def bP(r:Rel)(t:Tp):Int:=
 if bw r≠0 then bw r else if bM r.sch t≠0 then bM r.sch t else if(iv t.vals r.tups 0).isSome then 8 else bw (bU r t)
def mf(r:Rel)(t:Tp):Tree:=.tup [if bP r t=0 then(bU r t).tree else rG,.sc (.int .i64 (bP r t))]
theorem lX{r:Rel}(h:bw r=0):r.tups.length<=64:=by
 unfold bw at h;split at h
 ·cases h
 split at h
 ·cases h
 omega
theorem jd(r:Rel)(t:Tp):(mf r t).plain=true:=by unfold mf;split<;>rfl
theorem pF{r:Rel}{t:Tp}(e:FitR r)(b:FitT t)(c:t.vals.length<=65536)(i:r.tups.length<=64):FitR (bU r t)/\(A9 r->yO t->A9 (bU r t)):=by
 have d:∀x∈(bU r t).tups,x∈r.tups\/x=t:=fun x a=>by
  unfold bU at a;simp only[Mw,Mm]at a;rcases a with(h|h)|h
  ·exact .inl (ME h)
  ·exact .inr h
  exact .inl (Nd h)
 refine⟨⟨e.cols,?_,fun x a=>?_⟩,fun g f x a=>?_⟩
 ·unfold bU;simp only[Mb,Mf,MQ,NL];omega
 ·rcases d x a with h|rfl
  ·exact e.tup x h
  exact⟨b,c⟩
 rcases d x a with h|rfl
 ·exact g x h
 exact f
theorem lY(r:Rel)(S:FitR r)(U:A9 r):Ct 40 [r.tree] (iT (bw r)):=by
 refine Ct.of (n:=85) Tryz.func40 Z Z Z Z Z fun w0 G0=>?_
 refine ab<|aj 2 Z<|ab<|ab<|ae<|aa 2 Z<|af Z Z Z (ak Z (oi r.sch) Z Z)<|af (t:=bT (!(fv r.sch))) Z Z Z (dm Z Z Zy)<|ag<|aF Z (fun z=>?_) (fun z=>?_)
 ·refine ab<|aj 1 Z<|aw<|⟨.inr Z,_,.cons Z .nil,d8 (by unfold bw;rw[if_pos (by simpa using z)]),Z⟩
 have g:fv r.sch=true:=by simpa using z
 refine am<|ab<|ab<|ae<|aa 2 Z<|af (t:=nI r.tups.length) Z Z Z (ah (aZ Z aN Z) (by simp only[L5]))<|af (t:=bT (decide (64<r.tups.length))) Z Z Z (ah (ai Z Z Z Zy) (ar (oF r.tups.length 64)))<|ag<|aD Z (fun e=>?_) (fun e=>?_)
 ·refine ab<|aj 1 Z<|aw<|⟨.inr Z,_,.cons Z .nil,d8 (by unfold bw;rw[if_neg (by rw[g];simp),if_pos e]),Z⟩
 refine am<|ab<|ab<|aj 1 Z<|aB<|aR (fun w x=>∃(i:Nat),(i<=r.tups.length/\bK r.sch (gS r.tups i) (r.tups.drop i)=bK r.sch none r.tups)/\w=r.tups.length-i/\x=⟨85,[(1,.box 0 0),(3,nI i)],[(30,(aV r))],[]⟩) 1 0 ⟨0,⟨by omega,Z⟩,Z,Z⟩ .rf ?_;rintro w x ⟨i,⟨Y,a⟩,rfl,rfl⟩;refine ab<|ab<|ae<|aa 3 Z<|af (t:=nI r.tups.length) Z Z Z (ah (aZ Z aN Z) (by simp only[L5]))<|af (t:=bT (decide (i<r.tups.length))) Z Z Z (ah (ai Z Z Z Zy) (ar (gA i r.tups.length)))<|ag<|aD Z (fun M=>?_) (fun M=>?_)
 ·obtain⟨t,l⟩:∃t,r.tups[i]? =some t:=⟨_,L3 M⟩;have I:=S.tup t (L7 l);refine am<|ab<|aB<|ab<|ab<|cf (fu:=9) [some 24,some 25,some 26,some 27,some 28,some 29,some 30,some 31,some 4] [.box 0 0,.agg (dj r.sch),.box 0 3,.sl (r.tups.map Tp.tree),nI i,.ref (bV t),.agg (bV t),iT (bM r.sch t),iT (bM r.sch t)] (by kernel_rfl) Z Z (by kernel_rfl) Z ?_ ?_
  ·refine Chain.op Z (av Z Z fy Z)<|Chain.op Z (aP Z Z Z eI Z Z)<|Chain.op Z (av Z Z bd Z)<|Chain.op Z (aA Z Z Z bJ Z)<|Chain.op Z (au Z Z)<|Chain.op Z (aM (Tp.tree t) Z aN Z Z Z (aS (f:=Tp.tree) l) (bS _) Z)<|Chain.op Z (ck Z Z di Z Z)<|Chain.op Z (ak Z (u4 r.sch t I.1.p (U t (L7 l))) Z Z)<|Chain.op Z (bp Z Z)<|Chain.nil
  refine ab<|ae<|aa 1 Z<|af (t:=bT ((bM r.sch t) !=0)) Z Z Z (ai Z Z Z Zy)<|ag<|aF Z (fun D=>?_) (fun D=>?_)
  ·have L:bM r.sch t≠0:=by simpa using D
   refine ab<|aj 2 Z<|aw<|⟨.inr Z,_,.cons Z .nil,d8 (by unfold bw;rw[if_neg (by rw[g];simp),if_neg e,<-a,qP l L,if_pos L]),Z⟩
  have N:bM r.sch t=0:=by simpa using D
  refine am<|ab<|ab<|ae<|aa 1 Z<|af (t:=bT (decide (i=0))) Z Z Z (ah (ai Z Z Z Zy) (ar (jF i 0)))<|ag<|aD Z (fun A=>?_) (fun A=>?_)
  ·rw[pi l N A]at a;refine aT<|ae<|aa 1 Z<|af (t:=nI (i+1)) Z Z Z (ah (ai Z Z Z Zy) (bi (by omega)))<|aa 1 Z<|ag<|⟨_,_,?_,⟨i+1,?_,Z,Z⟩,.rf⟩
   ·omega
   exact⟨by omega,a⟩
  obtain⟨p,F⟩:∃p,r.tups[i-1]? =some p:=⟨_,L3 (by omega)⟩;have X:=S.tup p (L7 F);rw[qQ l N A F]at a;refine am<|ab<|cf (fu:=15) [some 37,some 38,some 39,some 40,some 41,some 42,some 43,some 44,some 45,some 46,some 47,some 48,some 49,some 50,some 5] [.box 0 3,.sl (r.tups.map Tp.tree),nI i,nI (i-1),.ref (bV p),.ref (bV p),.sl (p.vals.map V.tree),.box 0 3,.sl (r.tups.map Tp.tree),nI i,.ref (bV t),.ref (bV t),.sl (t.vals.map V.tree),iT (aX p.vals t.vals),iT (aX p.vals t.vals)] (by kernel_rfl) Z Z (by kernel_rfl) Z ?_ ?_
  ·refine Chain.op Z (av Z Z bd Z)<|Chain.op Z (aA Z Z Z bJ Z)<|Chain.op Z (au Z Z)<|Chain.op Z (ah (ai Z Z Z Zy) (bi (by omega)))<|Chain.op Z (aM (Tp.tree p) Z aN Z Z Z (aS (f:=Tp.tree) F) (bS _) Z)<|Chain.op Z (bH Z Z b9 Z)<|Chain.op Z (bz Z Z cU Z)<|Chain.op Z (av Z Z bd Z)<|Chain.op Z (aA Z Z Z bJ Z)<|Chain.op Z (au Z Z)<|Chain.op Z (aM (Tp.tree t) Z aN Z Z Z (aS (f:=Tp.tree) l) (bS _) Z)<|Chain.op Z (bH Z Z b9 Z)<|Chain.op Z (bz Z Z cU Z)<|Chain.op Z (ak Z (lT _ _ X.2 I.2) Z Z)<|Chain.op Z (bp Z Z)<|Chain.nil
  refine aB<|ab<|ae<|aa 1 Z<|af (t:=bT ((aX p.vals t.vals)==0)) Z Z Z (ai Z Z Z Zy)<|aa 1 Z<|ag<|aF Z (fun C=>?_) (fun C=>?_)
  ·refine ab<|aj 1 Z<|aw<|⟨.inr Z,_,.cons Z .nil,d8 (by unfold bw;rw[if_neg (by rw[g];simp),if_neg e,<-a,if_pos (eq_of_beq C)];rfl),Z⟩
  have y:¬aX p.vals t.vals=0:=by simpa using C
  have a0:=n8 p.vals t.vals;refine ab<|ae<|aa 1 Z<|af (t:=bT (decide ((aX p.vals t.vals)>0))) Z Z Z (ai Z Z Z Zy)<|aa 1 Z<|ag<|aD Z (fun W=>?_) (fun W=>?_)
  ·have R:aX p.vals t.vals=1:=by omega
   refine ab<|aj 1 Z<|aw<|⟨.inr Z,_,.cons Z .nil,d8 (by unfold bw;rw[if_neg (by rw[g];simp),if_neg e,show bK r.sch none r.tups=1 from by rw[<-a,if_neg y,if_pos R]];rfl),Z⟩
  have J:¬aX p.vals t.vals=1:=by omega
  rw[if_neg y,if_neg J]at a;refine am<|ae<|aa 1 Z<|af (t:=nI (i+1)) Z Z Z (ah (ai Z Z Z Zy) (bi (by omega)))<|aa 1 Z<|ag<|⟨_,_,?_,⟨i+1,?_,Z,Z⟩,.rf⟩
  ·omega
  exact⟨by omega,a⟩
 have c:bK r.sch none r.tups=0:=by rw[<-a,Md (by omega)];cases gS r.tups i<;>rfl
 refine aT<|ab<|ae<|aa 1 Z<|af Z Z Z (ak Z (A8 r S (yk c)) Z Z)<|aa 1 Z<|ag<|ab<|ab<|aj 1 Z<|aB<|aR (fun w x=>∃(j:Nat),(j<=(aW r).length/\∀(m:Nat) (b:List Nat),(aW r)[m]? =some b->m<j->¬16<b.length)/\w=(aW r).length-j/\x=⟨85,[(1,.box 0 0),(6,.sl ((aW r).map jj)),(7,nI j)],[(30,(aV r))],[]⟩) 1 0 ⟨0,⟨by omega,fun m b _ h=>by omega⟩,Z,Z⟩ .rf ?_;rintro w x ⟨j,⟨hj,u⟩,rfl,rfl⟩;have a1:=sP r;refine ab<|ab<|ae<|aa 2 Z<|af (t:=nI ((aW r).length)) Z Z Z (ah (aZ Z ci Z) (by simp only[L5]))<|af (t:=bT (decide (j<(aW r).length))) Z Z Z (ah (ai Z Z Z Zy) (ar (gA j ((aW r).length))))<|ag<|aD Z (fun Q=>?_) (fun Q=>?_)
 ·obtain⟨b,G⟩:∃b,(aW r)[j]? =some b:=⟨_,L3 Q⟩;refine am<|ab<|aB<|ab<|ae<|aa 2 Z<|af (t:=.ref [.sl (b.map fF)]) Z Z Z (aM (jj b) Z ci Z Z Z (aS (f:=jj) G) (lN _) Z)<|aa 1 Z<|af (t:=nI b.length) Z Z Z (ah (aZ Z cL Z) (by simp only[L5]))<|af (t:=bT (decide (16<b.length))) Z Z Z (ah (ai Z Z Z Zy) (ar (oF b.length 16)))<|ag<|aD Z (fun E=>?_) (fun E=>?_)
  ·refine ab<|aj 1 Z<|aw<|⟨.inr Z,_,.cons Z .nil,d8 (by unfold bw;rw[if_neg (by rw[g];simp),if_neg e,if_neg (by rw[c];simp),if_pos (uI G E)]),Z⟩
  refine am<|ae<|aa 1 Z<|af (t:=nI (j+1)) Z Z Z (ah (ai Z Z Z Zy) (bi (by omega)))<|aa 1 Z<|ag<|⟨_,_,?_,⟨j+1,?_,Z,Z⟩,.rf⟩
  ·omega
  refine⟨by omega,fun m b B h=>?_⟩;rcases MA m j with K|K
  ·exact u m b B K
  obtain rfl:m=j:=by omega
  rw[G]at B;cases B;exact E
 have q:n6 (aW r)=false:=n7 fun k b H=>u k b H (by have:=(L6.1 H).1;omega)
 refine aT<|ab<|ab<|aj 1 Z<|aB<|aR (fun w x=>∃(k:Nat),(k<=(aW r).length/\∀(m:Nat) (b:List Nat),(aW r)[m]? =some b->m<k->¬cE (1-ef r.tups b)<0)/\w=(aW r).length-k/\x=⟨85,[(1,.box 0 0),(6,.sl ((aW r).map jj)),(8,nI k)],[(30,(aV r))],[]⟩) 1 0 ⟨0,⟨by omega,fun m b _ h=>by omega⟩,Z,Z⟩ .rf ?_;rintro w x ⟨k,⟨H,O⟩,rfl,rfl⟩;refine ab<|ab<|ae<|aa 2 Z<|af (t:=nI ((aW r).length)) Z Z Z (ah (aZ Z ci Z) (by simp only[L5]))<|af (t:=bT (decide (k<(aW r).length))) Z Z Z (ah (ai Z Z Z Zy) (ar (gA k ((aW r).length))))<|ag<|aD Z (fun v=>?_) (fun v=>?_)
 ·obtain⟨b,s⟩:∃b,(aW r)[k]? =some b:=⟨_,L3 v⟩;have o:=uK r b (L7 s);have P:b.length<=16:=by have:=N1.1 q b (L7 s);simpa using this
  have T:=ni c o.2 P;refine am<|ab<|aB<|ab<|cf (fu:=8) [some 77,some 78,some 79,some 80,some 81,some 82,some 83,some 84] [.agg (aV r),.sl ((aW r).map jj),nI k,.ref [.sl (b.map fF)],.sl (b.map fF),.agg [bT (decide ((ef r.tups b).num<0)),aH ((ef r.tups b).num.natAbs),aH ((ef r.tups b).den)],bT (ue (ef r.tups b)),bT (!(ue (ef r.tups b)))] (by kernel_rfl) Z Z (by kernel_rfl) Z ?_ ?_
  ·refine Chain.op Z (aP Z Z Z bj Z Z)<|Chain.op Z (au Z Z)<|Chain.op Z (au Z Z)<|Chain.op Z (aM (jj b) Z ci Z Z Z (aS (f:=jj) s) (lN _) Z)<|Chain.op Z (bz Z Z lR Z)<|Chain.op Z (ak Z (IL r b o.2 (by omega) (fun t ht=>(S.tup t ht).1.p) (fun j hj=>(ni c (fun i Y=>o.2 i (ME Y)) (by rw[Mf];omega)).1)) Z Z)<|Chain.op Z (ak Z (CC _ T.1) Z Z)<|Chain.op Z (dm Z Z Zy)<|Chain.nil
  refine aF Z (fun d=>?_) (fun d=>?_)
  ·refine ab<|aj 1 Z<|aw<|⟨.inr Z,_,.cons Z .nil,d8 (by unfold bw;rw[if_neg (by rw[g];simp),if_neg e,if_neg (by rw[c];simp),if_neg (by rw[q];simp),if_pos (sM s (by rw[yP c]at d;simpa using d))]),Z⟩
  refine am<|ae<|aa 1 Z<|af (t:=nI (k+1)) Z Z Z (ah (ai Z Z Z Zy) (bi (by omega)))<|aa 1 Z<|ag<|⟨_,_,?_,⟨k+1,?_,Z,Z⟩,.rf⟩
  ·omega
  refine⟨by omega,fun m b B h=>?_⟩;rcases MA m k with K|K
  ·exact O m b B K
  obtain rfl:m=k:=by omega
  rw[s]at B;cases B;rw[yP c]at d;simpa using d
 refine aT<|ab<|aj 1 Z<|aw<|⟨.inr Z,_,.cons Z .nil,d8 (by unfold bw;rw[if_neg (by rw[g];simp),if_neg e,if_neg (by rw[c];simp),if_neg (by rw[q];simp),if_neg (by rw[mz fun k b H=>O k b H (by have:=(L6.1 H).1;omega)];simp)]),Z⟩
theorem ga(r:Rel)(t:Tp)(B:FitR r)(H:A9 r)(A:FitT t)(m:yO t)(w:t.vals.length<=65536):Ct 34 [r.tree,t.tree] (mf r t):=by
 refine Ct.of (n:=82) Tryz.func34 Z Z Z Z Z fun w0 G0=>?_
 refine ab<|aj 4 Z<|ab<|ab<|ae<|aa 1 Z<|af Z Z Z (ak Z (lY r B H) Z Z)<|aa 1 Z<|ag<|ab<|ae<|aa 1 Z<|af (t:=bT ((bw r) !=0)) Z Z Z (ai Z Z Z Zy)<|ag<|aF Z (fun o=>?_) (fun o=>?_)
 ·have E:bw r≠0:=by simpa using o
  refine ab<|aj 4 Z<|aw<|⟨.inr Z,_,.cons ⟨_,_,_,_,Z,Z,.inl ⟨_,bj,Z,Z⟩⟩ (.cons Z .nil),by unfold mf;rw[show bP r t=bw r from by unfold bP;rw[if_pos E]];rw[if_neg E];rfl,jd r t⟩
 have z:bw r=0:=by simpa using o
 have S:=mF z;have I:=lX z;refine am<|ab<|ab<|ae<|aa 3 Z<|af Z Z Z (ak Z (u4 r.sch t A.p m) Z Z)<|aa 1 Z<|ag<|ab<|ae<|aa 1 Z<|af (t:=bT ((bM r.sch t) !=0)) Z Z Z (ai Z Z Z Zy)<|ag<|aF Z (fun y=>?_) (fun y=>?_)
 ·have G:bM r.sch t≠0:=by simpa using y
  refine ab<|aj 4 Z<|aw<|⟨.inr Z,_,.cons ⟨_,_,_,_,Z,Z,.inl ⟨_,bj,Z,Z⟩⟩ (.cons Z .nil),by unfold mf;rw[show bP r t=bM r.sch t from by unfold bP;rw[if_neg (by rw[z];simp),if_pos G]];rw[if_neg G];rfl,jd r t⟩
 have v:bM r.sch t=0:=by simpa using y
 refine am<|ab<|ab<|ae<|aa 3 Z<|af Z Z Z (ak Z (Gn r t.vals w B.tups (fun t T=>(B.tup t T).2)) Z Z)<|aa 5 Z<|ag<|ab<|aj 1 Z<|aF Z (fun s=>?_) (fun s=>?_)
 ·refine ab<|aj 3 Z<|aw<|⟨.inr Z,_,.cons ⟨_,_,_,_,Z,Z,.inl ⟨_,bj,Z,Z⟩⟩ (.cons Z .nil),by unfold mf;rw[show bP r t=8 from by unfold bP;rw[if_neg (by rw[z];simp),if_neg (by rw[v];simp),if_pos s]];rfl,jd r t⟩
 have C:=s;refine am<|ab<|aj 1 Z<|ab<|aB<|aR (fun P Q=>∃(i:Nat),(i<=r.tups.length/\(r.tups.drop i).takeWhile (fun x=>decide (aX x.vals t.vals<0))=(r.tups.takeWhile fun x=>decide (aX x.vals t.vals<0)).drop i/\i<=ql t.vals r.tups)/\P=r.tups.length-i/\Q=⟨82,[(2,.box 0 0),(3,.box 1 0),(4,.box 2 0),(10,nI i)],[(30,(aV r)),(67,(bV t)),(30,eD)],[]⟩) 3 0 ⟨0,⟨by omega,Z,by omega⟩,Z,Z⟩ .rf ?_;rintro P Q ⟨i,⟨U,g,L⟩,rfl,rfl⟩;refine ab<|ab<|cf (fu:=17) [some 36,some 37,some 38,some 39,some 40,some 41,some 42,some 43,some 44,some 45,some 46,some 47,some 48,some 49,some 50,some 51,some 52] [nI i,.box 0 3,.sl (r.tups.map Tp.tree),nI r.tups.length,bT (decide (i<r.tups.length)),bT (decide (i<r.tups.length)),if(decide (i<r.tups.length))=true then(.box 0 3:Tree)else .sc undef,if(decide (i<r.tups.length))=true then(.sl (r.tups.map Tp.tree):Tree)else .sc undef,if(decide (i<r.tups.length))=true then(nI i:Tree)else .sc undef,if(decide (i<r.tups.length))=true then(.ref [.sl ((((r.tups[i]?).getD md).vals).map V.tree),bT (decide (((r.tups[i]?).getD md).prob.num<0)),aH (((r.tups[i]?).getD md).prob.num.natAbs),aH (((r.tups[i]?).getD md).prob.den)]:Tree)else .sc undef,if(decide (i<r.tups.length))=true then(.ref [.sl ((((r.tups[i]?).getD md).vals).map V.tree),bT (decide (((r.tups[i]?).getD md).prob.num<0)),aH (((r.tups[i]?).getD md).prob.num.natAbs),aH (((r.tups[i]?).getD md).prob.den)]:Tree)else .sc undef,if(decide (i<r.tups.length))=true then(.sl ((((r.tups[i]?).getD md).vals).map V.tree):Tree)else .sc undef,if(decide (i<r.tups.length))=true then(.box 1 0:Tree)else .sc undef,if(decide (i<r.tups.length))=true then(.sl (t.vals.map V.tree):Tree)else .sc undef,if(decide (i<r.tups.length))=true then(iT (aX ((r.tups[i]?).getD md).vals t.vals):Tree)else .sc undef,if(decide (i<r.tups.length))=true then(bT (decide ((aX ((r.tups[i]?).getD md).vals t.vals)<0)):Tree)else .sc undef,bT ((decide (i<r.tups.length))&&(decide ((aX ((r.tups[i]?).getD md).vals t.vals)<0)))] (by kernel_rfl) Z Z (by kernel_rfl) Z ?_ ?_
 ·refine Chain.op Z (au Z Z)<|Chain.op Z (av Z Z bd Z)<|Chain.op Z (aA Z Z Z bJ Z)<|Chain.op Z (ah (aZ Z aN Z) (by simp only[L5]))<|Chain.op Z (ah (ai Z Z Z Zy) (ar (gA i r.tups.length)))<|Chain.op Z (au Z Z)<|bk Z Z Z (fun a=>av Z Z bd Z)<|bk Z Z Z (fun a=>aA Z (if_pos a) Z bJ Z)<|bk Z Z Z (fun a=>au Z Z)<|bk Z Z Z (fun a=>aM (Tp.tree ((r.tups[i]?).getD md)) Z aN (if_pos a) (if_pos a) Z (aS (f:=Tp.tree) (lg (of_decide_eq_true a))) (bS _) Z)<|bk Z Z Z (fun a=>bH Z (if_pos a) b9 Z)<|bk Z Z Z (fun a=>bz Z (if_pos a) cU Z)<|bk Z Z Z (fun a=>av Z Z b9 Z)<|bk Z Z Z (fun a=>aA Z (if_pos a) Z cU Z)<|bk Z Z Z (fun a=>ak Z (lT _ _ (Cx B i) w) (eR (if_pos a) (eR (if_pos a) Z)) Z)<|bk Z Z Z (fun a=>ai Z (if_pos a) Z (fun _=>rfl))<|Chain.op Z (aK Z Z (fun K=>(if_pos K).trans (ar (by rw[K];rfl))) (fun K=>(ar (by rw[K];rfl))))<|Chain.nil
 refine aF Z (fun c=>?_) (fun c=>?_)
 ·rw[L8]at c;have F:=of_decide_eq_true c.1;have D:=of_decide_eq_true c.2;refine am<|aB<|ae<|aa 1 Z<|af (t:=nI (i+1)) Z Z Z (ah (ai Z Z Z Zy) (bi (by omega)))<|aa 1 Z<|ag<|⟨_,_,?_,⟨i+1,?_,Z,Z⟩,.rf⟩
  ·omega
  exact⟨by omega,uV (lg (d:=md) F) D g,Cy (lg (d:=md) F) D g⟩
 have b:=yB g L c;have j:=pF B A w I;unfold bU at j;rw[<-b]at j;have u:=j.1;have N:=j.2 H m;refine aT<|ab<|ae<|aa 2 Z<|af (t:=.agg [sT r.sch.name,bT r.sch.cert,.sl (r.sch.cols.map Col.tree),.sc (.slice none 0 0)]) Z Z Z (mW Z lU Z Z Z)<|aa 2 Z<|ag<|ab<|kO 3 3 67 4 (bs':=[(30,(aV r)),(67,(bV t)),(30,eD),(30,[sT r.sch.name,bT r.sch.cert,.sl (r.sch.cols.map Col.tree),.own 0])]) (rs':=[some ⟨67,4,[],false⟩]) Z Z Z Z<|hH (sl':=[(2,.box 0 0),(3,.box 1 0),(4,.box 2 0),(10,nI i),(52,bT ((decide (i<r.tups.length))&&(decide ((aX ((r.tups[i]?).getD md).vals t.vals)<0)))),(11,.box 3 0)]) ⟨Z,⟨Z,⟨Z,⟨Z,⟨Z,⟨Z,trivial⟩⟩⟩⟩⟩⟩<|ff (fu:=5) [some 58,some 59,some 60,some 61,some 62,some 63,some 64,some 65,some 66,some 67,some 68,some 69,some 70,some 71,some 72,some 73,none] [6,9,14,16] [.box 3 3,.own 0,.box 0 3,.sl (r.tups.map Tp.tree),nI i,.sl ((r.tups.take i).map Tp.tree),.own 0,.agg (bV t),.sl [.agg (bV t)],.own 0,.box 0 3,.sl (r.tups.map Tp.tree),nI i,.sl ((r.tups.drop i).map Tp.tree),.own 0,.box 3 3,.any] [⟨[6],[(2,.box 0 0),(3,.box 1 0),(4,.box 2 0),(10,nI i),(52,bT ((decide (i<r.tups.length))&&(decide ((aX ((r.tups[i]?).getD md).vals t.vals)<0)))),(11,.box 3 0)],[(30,(aV r)),(67,(bV t)),(30,eD),(30,[sT r.sch.name,bT r.sch.cert,.sl (r.sch.cols.map Col.tree),.any])],[some ⟨67,4,(r.tups.take i).map Tp.tree,false⟩],[.box 3 3,.any,.box 0 3,.sl (r.tups.map Tp.tree),nI i,.sl ((r.tups.take i).map Tp.tree),.own 0,.agg (bV t),.sl [.agg (bV t)],.own 0,.box 0 3,.sl (r.tups.map Tp.tree),nI i,.sl ((r.tups.drop i).map Tp.tree),.own 0,.box 3 3,.any]⟩,⟨[9,6],[(2,.box 0 0),(3,.box 1 0),(4,.box 2 0),(10,nI i),(52,bT ((decide (i<r.tups.length))&&(decide ((aX ((r.tups[i]?).getD md).vals t.vals)<0)))),(11,.box 3 0)],[(30,(aV r)),(67,(bV t)),(30,eD),(30,[sT r.sch.name,bT r.sch.cert,.sl (r.sch.cols.map Col.tree),.any])],[some ⟨67,4,(r.tups.take i++[t]).map Tp.tree,false⟩],[.box 3 3,.any,.box 0 3,.sl (r.tups.map Tp.tree),nI i,.sl ((r.tups.take i).map Tp.tree),.any,.agg (bV t),.sl [.agg (bV t)],.own 0,.box 0 3,.sl (r.tups.map Tp.tree),nI i,.sl ((r.tups.drop i).map Tp.tree),.own 0,.box 3 3,.any]⟩,⟨[14,9,6],[(2,.box 0 0),(3,.box 1 0),(4,.box 2 0),(10,nI i),(52,bT ((decide (i<r.tups.length))&&(decide ((aX ((r.tups[i]?).getD md).vals t.vals)<0)))),(11,.box 3 0)],[(30,(aV r)),(67,(bV t)),(30,eD),(30,[sT r.sch.name,bT r.sch.cert,.sl (r.sch.cols.map Col.tree),.any])],[some ⟨67,4,(r.tups.take i++[t]++r.tups.drop i).map Tp.tree,false⟩],[.box 3 3,.any,.box 0 3,.sl (r.tups.map Tp.tree),nI i,.sl ((r.tups.take i).map Tp.tree),.any,.agg (bV t),.sl [.agg (bV t)],.any,.box 0 3,.sl (r.tups.map Tp.tree),nI i,.sl ((r.tups.drop i).map Tp.tree),.own 0,.box 3 3,.any]⟩] ⟨[16,14,9,6],[(2,.box 0 0),(3,.box 1 0),(4,.box 2 0),(10,nI i),(52,bT ((decide (i<r.tups.length))&&(decide ((aX ((r.tups[i]?).getD md).vals t.vals)<0)))),(11,.box 3 0)],[(30,(aV r)),(67,(bV t)),(30,eD),(30,[sT r.sch.name,bT r.sch.cert,.sl (r.sch.cols.map Col.tree),.own 0])],[some ⟨67,4,(r.tups.take i++[t]++r.tups.drop i).map Tp.tree,false⟩],[.box 3 3,.any,.box 0 3,.sl (r.tups.map Tp.tree),nI i,.sl ((r.tups.take i).map Tp.tree),.any,.agg (bV t),.sl [.agg (bV t)],.any,.box 0 3,.sl (r.tups.map Tp.tree),nI i,.sl ((r.tups.drop i).map Tp.tree),.own 0,.box 3 3,.any]⟩ (by kernel_rfl) Z (by kernel_rfl) (by kernel_rfl) (by kernel_rfl) Z Z ?_ ?_
 ·refine .opp [] (.okk rfl (av rfl rfl bd rfl)<|.fin)<|.opp [0] (.okk rfl (aA rfl rfl rfl bJ rfl)<|.fin)<|.opp [] (.okk rfl (av rfl rfl bd rfl)<|.fin)<|.opp [2] (.okk rfl (aA rfl rfl rfl bJ rfl)<|.fin)<|.opp [] (.okk rfl (au rfl rfl)<|.fin)<|.opp [3,4] (.okk rfl (ah (kK (l:=0) (h:=i) rfl aN rfl rfl ⟨_,rfl⟩ (by first|omega|(simp only[L5];omega)) (by first|omega|(simp only[L5];omega)) (bS _)) (by simp only[O1,M8]))<|.fin)<|.opp [1,5] (.wr 1 (mb 0) (.own 0) (by kernel_rfl) rfl rfl (kP rfl rfl rfl iM rfl rfl rfl rfl (bS _) (AllC.map _ _ fun _=>rfl) (AllC.map _ _ fun _=>rfl) (by simp only[L5,Mf,Mg];omega) rfl rfl rfl) rfl rfl rfl rfl (.k rfl (.k rfl (.k rfl (.k rfl (.k rfl (.k rfl (.i rfl (.k rfl (.k rfl (.d (by kernel_rfl) (.k rfl (.k rfl (.k rfl (.k rfl (.d (by kernel_rfl) (.k rfl (.k rfl .nil)))))))))))))))))<|.fin)<|.opp [] (.okk rfl (aP rfl rfl rfl di rfl rfl)<|.okk rfl (aP rfl rfl rfl di rfl rfl)<|.fin)<|.opp [7] (.okk rfl (aQ rfl aN fV rfl (by decide) (by decide) rfl rfl rfl rfl rfl)<|.okk rfl (aQ rfl aN fV rfl (by decide) (by decide) rfl rfl rfl rfl rfl)<|.fin)<|.opp [6,8] (.no (by kernel_rfl)<|.wr 2 (mb 0) (.own 0) (by kernel_rfl) rfl rfl (kP rfl rfl rfl iM rfl rfl rfl rfl (by intro e O;simp only[Mi,Nf,or_false]at O;subst O;rfl) (AllC.lit rfl) (AllC.lit rfl) (by simp only[L5,Mf,L9,Mg];omega) rfl rfl (by rw[MX];rfl)) rfl rfl rfl rfl (.k rfl (.k rfl (.k rfl (.k rfl (.k rfl (.k rfl (.k rfl (.k rfl (.k rfl (.i rfl (.k rfl (.k rfl (.k rfl (.k rfl (.d (by kernel_rfl) (.k rfl (.k rfl .nil)))))))))))))))))<|.fin)<|.opp [] (.okk rfl (av rfl rfl bd rfl)<|.okk rfl (av rfl rfl bd rfl)<|.okk rfl (av rfl rfl bd rfl)<|.fin)<|.opp [10] (.okk rfl (aA rfl rfl rfl bJ rfl)<|.okk rfl (aA rfl rfl rfl bJ rfl)<|.okk rfl (aA rfl rfl rfl bJ rfl)<|.fin)<|.opp [] (.okk rfl (au rfl rfl)<|.okk rfl (au rfl rfl)<|.okk rfl (au rfl rfl)<|.fin)<|.opp [11,12] (.okk rfl (ah (kK (l:=i) (h:=(r.tups.map Tp.tree).length) rfl aN rfl ⟨_,rfl⟩ rfl (by first|omega|(simp only[L5];omega)) (by first|omega|(simp only[L5];omega)) (bS _)) (by simp only[Po,M6]))<|.okk rfl (ah (kK (l:=i) (h:=(r.tups.map Tp.tree).length) rfl aN rfl ⟨_,rfl⟩ rfl (by first|omega|(simp only[L5];omega)) (by first|omega|(simp only[L5];omega)) (bS _)) (by simp only[Po,M6]))<|.okk rfl (ah (kK (l:=i) (h:=(r.tups.map Tp.tree).length) rfl aN rfl ⟨_,rfl⟩ rfl (by first|omega|(simp only[L5];omega)) (by first|omega|(simp only[L5];omega)) (bS _)) (by simp only[Po,M6]))<|.fin)<|.opp [9,13] (.nos 2<|.wr 3 (mb 0) (.own 0) (by kernel_rfl) rfl rfl (kP rfl rfl rfl iM rfl rfl rfl rfl (bS _) (AllC.map _ _ fun _=>rfl) (AllC.map _ _ fun _=>rfl) (by simp only[L5,Mb,Mf,MQ,L9,Mg];omega) rfl rfl (by rw[MX (l₁:=r.tups.take i++[t])];rfl)) rfl rfl rfl rfl (.k rfl (.k rfl (.k rfl (.k rfl (.k rfl (.k rfl (.k rfl (.k rfl (.k rfl (.k rfl (.k rfl (.k rfl (.k rfl (.k rfl (.i rfl (.k rfl (.k rfl .nil)))))))))))))))))<|.fin)<|.opp [] (.nos 3<|.okk rfl (av rfl rfl bd rfl)<|.fin)<|.opp [14,15] (.nos 3<|.wr 4 id .any (by kernel_rfl) rfl rfl (gE rfl rfl rfl rfl rfl rfl rfl rfl og rfl rfl rfl) rfl rfl rfl rfl (.k rfl (.k rfl (.k rfl (.k rfl (.k rfl (.k rfl (.k rfl (.k rfl (.k rfl (.k rfl (.k rfl (.k rfl (.k rfl (.k rfl (.k rfl (.k rfl (.i rfl .nil)))))))))))))))))<|.fin)<|.nil
 refine ab<|ab<|ek 0 (bs':=[(30,(aV r)),(67,(bV t)),(30,eD),(30,[sT r.sch.name,bT r.sch.cert,.sl (r.sch.cols.map Col.tree),.sl ((r.tups.take i++[t]++r.tups.drop i).map Tp.tree)])]) (rs':=[none]) Z Z Z Z<|ae<|aa 1 Z<|af Z Z Z (ak Z (lY ⟨r.sch,r.tups.take i++[t]++r.tups.drop i⟩ u N) Z Z)<|aa 1 Z<|ag<|ab<|ae<|aa 1 Z<|af (t:=bT ((bw ⟨r.sch,r.tups.take i++[t]++r.tups.drop i⟩) !=0)) Z Z Z (ai Z Z Z Zy)<|ag<|aF Z (fun q=>?_) (fun q=>?_)
 ·have J:bw ⟨r.sch,r.tups.take i++[t]++r.tups.drop i⟩≠0:=by simpa using q
  refine ab<|aj 4 Z<|aw<|⟨.inr Z,_,.cons ⟨_,_,_,_,Z,Z,.inl ⟨_,bj,Z,Z⟩⟩ (.cons Z .nil),by unfold mf;rw[show bP r t=bw ⟨r.sch,r.tups.take i++[t]++r.tups.drop i⟩from by unfold bP;rw[if_neg (by rw[z];simp),if_neg (by rw[v];simp),if_neg (by rw[C];simp)];unfold bU;rw[<-b],if_neg J];rfl,jd r t⟩
 have M:bw ⟨r.sch,r.tups.take i++[t]++r.tups.drop i⟩=0:=by simpa using q
 refine am<|ab<|ae<|aa 1 Z<|af Z Z Z (ak Z (yH ⟨r.sch,r.tups.take i++[t]++r.tups.drop i⟩ u.tups (fun x R=>eP _ (((u.tup x R).1.p).mono (by decide)))) Z Z)<|aa 2 Z<|ag<|aw<|⟨.inr Z,_,.cons ⟨_,_,_,_,Z,Z,.inl ⟨_,bj,Z,Z⟩⟩ (.cons Z .nil),by unfold mf;rw[show bP r t=0 from by unfold bP;rw[if_neg (by rw[z];simp),if_neg (by rw[v];simp),if_neg (by rw[C];simp)];unfold bU;rw[<-b];exact M,if_pos Z];unfold bU;rw[<-b];rfl,jd r t⟩
theorem D7{r:Rel}(h:bK r.sch none r.tups=0)(i:Nat):ii r.tups i<=1:=by
 unfold ii;cases a:r.tups[i]? with
 |none=>simp;decide
 |some t=>
  have:=(gH (eF (fW h t (L7 a))).2.1).2;show t.prob<=1
  grind
theorem nN{r:Rel}(h:bK r.sch none r.tups=0)(d:∀t∈r.tups,aG r.sch t.vals=[]):n6 (aW r)=false/\k9 r.tups (aW r)=false:=by
 have a:∀b∈aW r,∃i,b=[i]:=fun b a=>by
  unfold aW at a;split at a
  ·cases a
  rw[mc r.tups ([],[]) 0 d]at a;simp only[MI,NA]at a;obtain⟨i,_,rfl⟩:=a;exact⟨i,Z⟩
 refine⟨n7 fun j b c=>?_,mz fun j b c=>?_⟩
 ·obtain⟨i,rfl⟩:=a b (L7 c);simp
 obtain⟨i,rfl⟩:=a b (L7 c);rw[k8];have:=D7 h i;simp only[ef,NG,Pc]
 grind
theorem qZ{r:Rel}(l:r.sch.cert=false)(i:∀t∈r.tups,aG r.sch t.vals≠ []):(n6 (aW r)=false↔∀t∈r.tups,iL r.sch (aG r.sch t.vals) r.tups<=16)/\(k9 r.tups (aW r)=false↔∀t∈r.tups,jx r.sch (aG r.sch t.vals) r.tups<=1):=by
 obtain⟨g,j,c,a⟩:=wL l i;rw[j];unfold n6 k9;rw[N1,N1];constructor
 ·constructor
  ·intro h t e;have:=h _ (NA.2 ⟨_,c t e,Z⟩);rw[iV]at this;simpa using this
  intro h b f;obtain⟨k,d,rfl⟩:=NA.1 f;obtain⟨t,e,rfl⟩:=a k d;rw[iV];simpa using h t e
 constructor
 ·intro h t e;have:=h _ (NA.2 ⟨_,c t e,Z⟩);rw[n9,decide_eq_true_eq,k8]at this
  grind
 intro h b f;obtain⟨k,d,rfl⟩:=NA.1 f;obtain⟨t,e,rfl⟩:=a k d;have:=h t e;rw[n9,decide_eq_true_eq,k8]
 grind
theorem iO{s:Sch}{t:Tp}(h:bM s t=0):aG s t.vals=[]↔d6 s.cols=false:=by
 have a:=(eF h).1;unfold aG;rw[if_pos a,om a]
theorem ra{cert:Bool}(e:cert=true):∀{l a:List Col},ig cert a l=false->d6 l=false
 |[],_,_=>rfl
 |c::l,a,h=>by
  rw[ig,Mo,Mo]at h;have b:=h.1.1;unfold nZ at b;rw[Mo]at b;have d:=ra e h.2;have f:=b.2;rw[e,Of]at f;unfold d6 at d⊢;rw[Pp,f,d];rfl
theorem tm{s:Sch}(h:fv s=true)(a:s.cert=true):d6 s.cols=false:=by
 unfold fv at h;rw[Ng,Mo]at h;rw[a]at h;exact ra Z h.2
def Gs(r:Rel):Prop:=d6 r.sch.cols=false\/∀t∈r.tups,iL r.sch (aG r.sch t.vals) r.tups<=16/\jx r.sch (aG r.sch t.vals) r.tups<=1
theorem IM{r:Rel}(f:fv r.sch=true)(h:bK r.sch none r.tups=0):(n6 (aW r)=false/\k9 r.tups (aW r)=false)↔Gs r:=by
 have c:=fW h;cases b:d6 r.sch.cols
 ·have:=nN h fun t a=>(iO (c t a)).2 b
  exact⟨fun _=>.inl b,fun _=>this⟩
 have d:r.sch.cert=false:=by
  cases d:r.sch.cert
  ·rfl
  rw[tm f d]at b;cases b
 have:=qZ d fun t a e=>by rw[iO (c t a),b]at e;cases e
 rw[this.1,this.2];unfold Gs;rw[b];simp only[Bool.true_eq_false,false_or];exact⟨fun h t a=>⟨h.1 t a,h.2 t a⟩,fun h=>⟨fun t a=>(h t a).1,fun t a=>(h t a).2⟩⟩
theorem pG{s:Sch}:∀(ts:List Tp) (p:List V),bK s (some p) ts=0↔(∀t∈ts,bM s t=0/\aX p t.vals<0)/\ts.Pairwise fun a b=>aX a.vals b.vals<0
 |[],p=>by simp[bK]
 |t::ts,p=>by
  have m:=pG (s:=s) ts t.vals;rw[bK];by_cases g:bM s t=0
  ·rw[if_neg (c:=bM s t≠0) (by omega)];have n:=n8 p t.vals;by_cases j:aX p t.vals=0
   ·rw[if_pos j];constructor
    ·intro h;cases h
    intro h;have:=(h.1 t (Ml ..)).2;omega
   rw[if_neg j];by_cases k:aX p t.vals=1
   ·rw[if_pos k];constructor
    ·intro h;cases h
    intro h;have:=(h.1 t (Ml ..)).2;omega
   have f:aX p t.vals<0:=by omega
   rw[if_neg k,m,N4];constructor
   ·rintro⟨e,i⟩;refine⟨fun x d=>?_,fun x d=>(e x d).2,i⟩;rcases Mi.1 d with rfl|d
    ·exact⟨g,f⟩
    exact⟨(e x d).1,iU f (e x d).2⟩
   rintro⟨e,i,l⟩;exact⟨fun x d=>⟨(e x (Ms _ d)).1,i x d⟩,l⟩
  rw[if_pos g];constructor
  ·intro h;exact absurd h g
  intro h;exact absurd (h.1 t (Ml ..)).1 g
theorem gc{s:Sch}(ts:List Tp):bK s none ts=0↔(∀t∈ts,bM s t=0)/\ts.Pairwise fun a b=>aX a.vals b.vals<0:=by
 cases ts with
 |nil=>simp[bK]
 |cons t ts=>
  rw[bK,N4];by_cases f:bM s t=0
  ·rw[if_neg (c:=bM s t≠0) (by omega),pG];constructor
   ·rintro⟨e,g⟩;refine⟨fun x d=>?_,fun x d=>(e x d).2,g⟩;rcases Mi.1 d with rfl|d
    ·exact f
    exact(e x d).1
   rintro⟨e,g,i⟩;exact⟨fun x d=>⟨e x (Ms _ d),g x d⟩,i⟩
  rw[if_pos f];constructor
  ·intro h;exact absurd h f
  intro h;exact absurd (h.1 t (Ml ..)) f
theorem iP{r:Rel}:bw r=0↔fv r.sch=true/\r.tups.length<=64/\bK r.sch none r.tups=0/\Gs r:=by
 unfold bw;by_cases a:fv r.sch=true
 ·rw[if_neg (by rw[a];simp)];by_cases f:64<r.tups.length
  ·rw[if_pos f];constructor
   ·intro h;cases h
   intro h;omega
  rw[if_neg f];by_cases b:bK r.sch none r.tups=0
  ·rw[if_neg (c:=bK r.sch none r.tups≠0) (by omega)];have d:=IM a b;cases g:n6 (aW r)
   ·cases e:k9 r.tups (aW r)
    ·simp only[N2,if_false,true_iff];exact⟨a,by omega,b,d.1 ⟨g,e⟩⟩
    simp only[N2,if_false,if_true];constructor
    ·intro h;cases h
    rintro⟨_,_,_,h⟩;have:=(d.2 h).2;rw[e]at this;cases this
   simp only[if_true];constructor
   ·intro h;cases h
   rintro⟨_,_,_,h⟩;have:=(d.2 h).1;rw[g]at this;cases this
  rw[if_pos b];exact⟨fun h=>absurd h b,fun h=>absurd h.2.2.1 b⟩
 rw[if_pos (by simpa using a)];constructor
 ·intro h;cases h
 intro h;exact absurd h.1 a
theorem Gt{s:Sch}{k:List V}{us ts:List Tp}(h:us.Sublist ts):iL s k us<=iL s k ts:=by
 induction h with
 |slnil=>exact L4 _
 |cons a _ ih=>rw[iL];split<;>omega
 |cons_cons a _ ih=>rw[iL,iL];split<;>omega
theorem Gu{s:Sch}{k:List V}{us ts:List Tp}(h:us.Sublist ts):(∀t∈ts,0<=t.prob)->jx s k us<=jx s k ts:=by
 induction h with
 |slnil=>intro _;exact Rat.le_refl
 |cons a _ ih=>
  intro b;have d:=ih fun t c=>b t (Ms _ c)
  have e:=b a (Ml ..);rw[jx];split<;>grind
 |cons_cons a _ ih=>
  intro b;have d:=ih fun t c=>b t (Ms _ c)
  rw[jx,jx];split<;>grind
theorem u6{s:Sch}{us ts:List Tp}(h:bw ⟨s,ts⟩=0)(a:us.Sublist ts):bw ⟨s,us⟩=0:=by
 obtain⟨g,e,f,b⟩:=iP.1 h;simp only at g e f;have d:=(gc ts).1 f;refine iP.2 ⟨g,Ma a.length_le e,(gc us).2 ⟨fun t c=>d.1 t (a.subset c),d.2.sublist a⟩,?_⟩;rcases b with b|b
 ·exact .inl b
 refine .inr fun t c=>?_
 obtain⟨i,j⟩:=b t (a.subset c);refine⟨Ma (Gt a) i,?_⟩;have:=Gu (s:=s) (k:=aG s t.vals) a fun t c=>(gH (eF (d.1 t c)).2.1).1
 simp only at j⊢
 grind
theorem tn{vs:List V}:∀{ts:List Tp} {i:Nat},(iv vs ts i).isSome=false->∀t∈ts,aX t.vals vs≠0
 |[],_,_,t,a=>by cases a
 |x::ts,i,h,t,a=>by
  rw[iv]at h;split at h
  ·cases h
  next hx=>
  rcases Mi.1 a with rfl|a
  ·exact hx
  exact tn h t a
theorem mG(r:Rel)(t:Tp):∃a b,r.tups=a++b/\(bU r t).tups=a++t::b/\(∀x∈a,aX x.vals t.vals<0)/\∀y c,b=y::c->¬aX y.vals t.vals<0:=by
 obtain⟨a,b,d,h,j,f⟩:=uR (fun x=>decide (aX x.vals t.vals<0)) r.tups;have g:ql t.vals r.tups=a.length:=by unfold ql;rw[h]
 refine⟨a,b,d,?_,fun x i=>of_decide_eq_true (j x i),fun y c e=>of_decide_eq_false (f y c e)⟩;unfold bU;rw[g,d];simp
theorem yQ{r:Rel}{t:Tp}(h:bK r.sch none r.tups=0)(p:bM r.sch t=0)(l:(iv t.vals r.tups 0).isSome=false):bK (bU r t).sch none (bU r t).tups=0:=by
 obtain⟨a,b,m,n,q,k⟩:=mG r t;obtain⟨g,j⟩:=(gc r.tups).1 h;have e:=tn l;show bK r.sch none _=0
 rw[n];rw[m]at g j e;have f:=N8.1 j;have o:∀y∈b,aX t.vals y.vals<0:=fun y d=>by
  cases b with
  |nil=>cases d
  |cons z b=>
   have i:aX t.vals z.vals<0:=Cp (k z b Z) (e z (by simp));rcases Mi.1 d with rfl|d
   ·exact i
   exact iU i ((N4.1 f.2.1).1 y d)
 refine(gc _).2 ⟨fun x c=>?_,N8.2 ⟨f.1,N4.2 ⟨o,f.2.1⟩,fun x c y d=>?_⟩⟩
 ·simp only[Mw,Mi]at c;rcases c with c|rfl|c
  ·exact g x (Om _ c)
  ·exact p
  exact g x (Pr _ c)
 rcases Mi.1 d with rfl|d
 ·exact q x c
 exact f.2.2 x c y d
theorem yR(r:Rel)(t:Tp)(k:List V):iL r.sch k (bU r t).tups=iL r.sch k r.tups+if aX (aG r.sch t.vals) k=0 then 1 else 0:=by
 obtain⟨a,b,d,c,_⟩:=mG r t;rw[c,d,sV,sV,iL];split<;>omega
theorem yS(r:Rel)(t:Tp)(k:List V):jx r.sch k (bU r t).tups=jx r.sch k r.tups+if aX (aG r.sch t.vals) k=0 then t.prob else 0:=by
 obtain⟨a,b,d,c,_⟩:=mG r t;rw[c,d,sW,sW,jx];split<;>grind
theorem mH{r:Rel}{t x:Tp}:x∈(bU r t).tups↔x∈r.tups\/x=t:=by
 obtain⟨a,b,d,c,_⟩:=mG r t;rw[c,d];simp only[Mw,Mi];constructor
 ·rintro(h|h|h)
  ·exact .inl (.inl h)
  ·exact .inr h
  exact .inl (.inr h)
 rintro((h|h)|h)
 ·exact .inl h
 ·exact .inr (.inr h)
 exact .inr (.inl h)
theorem Gv(r:Rel)(t:Tp):(bU r t).tups.length=r.tups.length+1:=by
 obtain⟨a,b,d,c,_⟩:=mG r t;rw[c,d];simp;omega
theorem Ba{r:Rel}(a:fv r.sch=true)(d:r.tups.length<=64)(b:bK r.sch none r.tups=0):bw r=if n6 (aW r)=true then 4 else if k9 r.tups (aW r)=true then 19 else 0:=by
 unfold bw;rw[if_neg (c:=fv r.sch=false) (by rw[a];simp),if_neg (c:=64<r.tups.length) (by omega),if_neg (c:=bK r.sch none r.tups≠0) (by omega)]
theorem Bb{r:Rel}(b:fv r.sch=true)(a:64<r.tups.length):bw r=4:=by
 unfold bw;rw[if_neg (c:=fv r.sch=false) (by rw[b];simp),if_pos a]
theorem qv(r:Rel)(t:Tp):c8 r t=bP r t:=by
 unfold c8 bP;by_cases v:bw r=0
 ·rw[if_neg (c:=bw r≠0) (by omega),if_neg (c:=bw r≠0) (by omega)];by_cases f:bM r.sch t=0
  ·rw[if_neg (c:=bM r.sch t≠0) (by omega),if_neg (c:=bM r.sch t≠0) (by omega)];cases G:(iv t.vals r.tups 0).isSome
   ·simp only[N2,if_false];obtain⟨y,K,F,q⟩:=iP.1 v;have C:=yQ F f G;have B:=Gv r t;have n:=(gc r.tups).1 F;have H:=gH (eF f).2.1;have d:(bU r t).sch=r.sch:=rfl;by_cases w:64<=r.tups.length
    ·rw[Bb (r:=bU r t) y (by omega),if_pos (c:=64<=r.tups.length\/16<=(eZ r t.vals).length) (.inl w)]
    rw[Ba (r:=bU r t) y (by omega) C];cases g:d6 r.sch.cols
    ·have z:∀x∈(bU r t).tups,aG (bU r t).sch x.vals=[]:=fun x i=>by
      rcases mH.1 i with h|rfl
      ·exact(iO (n.1 x h)).2 g
      exact(iO f).2 g
     have m:=nN C z;have j:eZ r t.vals=[]:=by unfold eZ;rw[if_pos ((iO f).2 g)]
     have A:¬0<mi t.prob (1-ef r.tups []):=by
      rw[sL];simp only[ef,Pc]
      grind
     rw[m.1,m.2,j,if_neg (c:=64<=r.tups.length\/16<=([]:List Nat).length) (fun h=>h.elim w (by simp)),if_neg A,if_neg MF,if_neg MF]
    have k:r.sch.cert=false:=by
     cases f:r.sch.cert
     ·rfl
     rw[tm y f]at g;cases g
    have p:aG r.sch t.vals≠ []:=fun e=>by rw[iO f,g]at e;cases e
    have u:∀x∈(bU r t).tups,aG (bU r t).sch x.vals≠ []:=fun x i e=>by
     rcases mH.1 i with h|rfl
     ·have e:aG r.sch x.vals=[]:=e;rw[iO (n.1 x h),g]at e;cases e
     exact p e
    have s:=qZ (r:=bU r t) k u;have q:∀t∈r.tups,iL r.sch (aG r.sch t.vals) r.tups<=16/\jx r.sch (aG r.sch t.vals) r.tups<=1:=by
     rcases q with h|h
     ·rw[g]at h;cases h
     exact h
    have j:eZ r t.vals=bX r.sch (aG r.sch t.vals) r.tups 0:=by unfold eZ;rw[if_neg p]
    rw[j,iV,n9];have o:t∈(bU r t).tups:=mH.2 (.inr Z);have D:=yR r t (aG r.sch t.vals);have E:=yS r t (aG r.sch t.vals);rw[if_pos (ld _)]at D E;have J:n6 (aW (bU r t))=decide (16<=iL r.sch (aG r.sch t.vals) r.tups):=by
     by_cases l:16<=iL r.sch (aG r.sch t.vals) r.tups
     ·rw[decide_eq_true l];cases m:n6 (aW (bU r t))
      ·have:=s.1.1 m t o;rw[d,D]at this;omega
      rfl
     rw[decide_eq_false l];refine s.1.2 fun x i=>?_
     rw[d,yR];rcases mH.1 i with h|rfl
     ·by_cases a:aX (aG r.sch t.vals) (aG r.sch x.vals)=0
      ·rw[if_pos a,<-(kr _ _).1 a];omega
      rw[if_neg a];have:=(q x h).1;omega
     rw[if_pos (ld _)];omega
    have I:k9 (bU r t).tups (aW (bU r t))=decide (0<mi t.prob (1-jx r.sch (aG r.sch t.vals) r.tups)):=by
     by_cases l:0<mi t.prob (1-jx r.sch (aG r.sch t.vals) r.tups)
     ·rw[decide_eq_true l];rw[sL]at l;cases m:k9 (bU r t).tups (aW (bU r t))
      ·have:=s.2.1 m t o;rw[d,E]at this;grind
      rfl
     rw[decide_eq_false l];rw[sL]at l;refine s.2.2 fun x i=>?_
     rw[d,yS];rcases mH.1 i with h|rfl
     ·by_cases a:aX (aG r.sch t.vals) (aG r.sch x.vals)=0
      ·rw[if_pos a,<-(kr _ _).1 a];grind
      rw[if_neg a];have:=(q x h).2;grind
     rw[if_pos (ld _)];grind
    rw[J,I];simp only[decide_eq_true_eq];by_cases b:16<=iL r.sch (aG r.sch t.vals) r.tups
    ·rw[if_pos (c:=64<=r.tups.length\/16<=iL r.sch (aG r.sch t.vals) r.tups) (.inr b),if_pos b]
    rw[if_neg (c:=64<=r.tups.length\/16<=iL r.sch (aG r.sch t.vals) r.tups) (fun h=>h.elim w b),if_neg b]
   simp only[if_true]
  rw[if_pos f,if_pos f]
 rw[if_pos v,if_pos v]
end Go.Proofs.YtfoejfohbkmmeaaGreatDoor
