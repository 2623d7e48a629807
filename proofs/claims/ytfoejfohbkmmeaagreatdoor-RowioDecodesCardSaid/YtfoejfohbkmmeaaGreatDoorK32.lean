import Derived.Test.YtfoejfohbkmmeaaGreatDoorK31
import Derived.IntWalk
set_option maxRecDepth 100000
set_option maxHeartbeats 4000000
set_option linter.defProp false
open Go.Proofs.Tryz
namespace Go.Proofs.YtfoejfohbkmmeaaGreatDoor
open Go.RowKit
open Lib renaming hid→J
def jJ(r:Rel)(t:Tp)(G:FitR r)(O:xD r)(J:FitT t)(m:EE t)(y:t.vals.length<=65536):Ct 34 [r.tree,t.tree] (nV r t):=by
 refine Ct.of (n:=82) func34 Z Z Z Z Z λw0 G0=>?_
 refine X 4 Z<|H<|C<|M 1 Z (D Z (rG r G O) Z Z)<|Y 1 Z<|C<|M 1 (t:=bT ((bK r) !=0)) Z (aC Z Z Z Zy)<|E<|aK Z (λo=>?_) (λo=>?_)
 ·have P:bK r≠0:=by simpa using o
  refine X 4 Z<|aQ<|⟨.inr Z,_,.cons (co Z Z bf Z) (.cons Z .nil),by unfold nV;rw[show dW r t=bK r from by unfold dW;rw[if_pos P]];rw[if_neg P];rfl,jU r t⟩
 have z:bK r=0:=by simpa using o
 have a0:=oA z;have N:=qa z;refine ar<|H<|C<|M 3 Z (D Z (H9 r.sch t J.p m) Z Z)<|Y 1 Z<|C<|M 1 (t:=bT ((ch r.sch t) !=0)) Z (aC Z Z Z Zy)<|E<|aK Z (λq=>?_) (λq=>?_)
 ·have F:ch r.sch t≠0:=by simpa using q
  refine X 4 Z<|aQ<|⟨.inr Z,_,.cons (co Z Z bf Z) (.cons Z .nil),by unfold nV;rw[show dW r t=ch r.sch t from by unfold dW;rw[if_neg (by rw[z];simp),if_pos F]];rw[if_neg F];rfl,jU r t⟩
 have v:ch r.sch t=0:=by simpa using q
 refine ar<|H<|C<|M 3 Z (D Z (KL r t.vals y G.tups (λt ht=>(G.tup t ht).2)) Z Z)<|Y 5 Z<|X 1 Z<|aK Z (λs=>?_) (λs=>?_)
 ·refine X 3 Z<|aQ<|⟨.inr Z,_,.cons (co Z Z bf Z) (.cons Z .nil),by unfold nV;rw[show dW r t=8 from by unfold dW;rw[if_neg (by rw[z];simp),if_neg (by rw[v];simp),if_pos s]];rfl,jU r t⟩
 have I:=s;refine ar<|X 1 Z<|H<|aB<|aT (λn_ U=>∃(i:Nat),(i<=r.tups.length/\(r.tups.drop i).takeWhile (λx=>decide (bw x.vals t.vals<0))=(r.tups.takeWhile λx=>decide (bw x.vals t.vals<0)).drop i/\i<=Ao t.vals r.tups)/\n_=r.tups.length-i/\U=⟨82,[(2,.box 0 0),(3,.box 1 0),(4,.box 2 0),(10,nI i)],[(30,(bQ r)),(67,(eA t)),(30,c7)],[]⟩) 3 0 ⟨0,⟨O0,Z,O0⟩,Z,Z⟩ .rf ?_;rintro n_ U ⟨i,⟨hi,g,R⟩,rfl,rfl⟩;refine H<|H<|cB (fu:=17) _ [nI i,.box 0 3,.sl (r.tups.map Tp.tree),nI r.tups.length,bT (decide (i<r.tups.length)),bT (decide (i<r.tups.length)),if(decide (i<r.tups.length))=true then(.box 0 3:Tree)else .sc undef,if(decide (i<r.tups.length))=true then(.sl (r.tups.map Tp.tree):Tree)else .sc undef,if(decide (i<r.tups.length))=true then(nI i:Tree)else .sc undef,if(decide (i<r.tups.length))=true then(.ref (eA ((r.tups[i]?).getD xr)):Tree)else .sc undef,if(decide (i<r.tups.length))=true then(.ref (eA ((r.tups[i]?).getD xr)):Tree)else .sc undef,if(decide (i<r.tups.length))=true then(.sl ((((r.tups[i]?).getD xr).vals).map V.tree):Tree)else .sc undef,if(decide (i<r.tups.length))=true then(.box 1 0:Tree)else .sc undef,if(decide (i<r.tups.length))=true then(.sl (t.vals.map V.tree):Tree)else .sc undef,if(decide (i<r.tups.length))=true then(iT (bw ((r.tups[i]?).getD xr).vals t.vals):Tree)else .sc undef,if(decide (i<r.tups.length))=true then(bT (decide ((bw ((r.tups[i]?).getD xr).vals t.vals)<0)):Tree)else .sc undef,bT ((decide (i<r.tups.length))&&(decide ((bw ((r.tups[i]?).getD xr).vals t.vals)<0)))] U0 Z Z U0 Z ?_ ?_
 ·refine Chain.op Z (K Z Z)<|Chain.op Z (aq Z Z a6 Z)<|Chain.op Z (av Z Z Z bJ Z)<|Chain.op Z (aj (fw Z aV Z) (by simp only[Rn]))<|Chain.op Z (aj (aC Z Z Z Zy) (B (gF i r.tups.length)))<|Chain.op Z (K Z Z)<|bG Z Z Z (λa=>aq Z Z a6 Z)<|bG Z Z Z (λa=>av Z (if_pos a) Z bJ Z)<|bG Z Z Z (λa=>K Z Z)<|bG Z Z Z (λa=>aO (Tp.tree ((r.tups[i]?).getD xr)) Z aV (if_pos a) (if_pos a) Z (bd (f:=Tp.tree) (mx (of_decide_eq_true a))) (c6 _) Z)<|bG Z Z Z (λa=>bL Z (if_pos a) cz Z)<|bG Z Z Z (λa=>bi Z (if_pos a) di Z)<|bG Z Z Z (λa=>aq Z Z cz Z)<|bG Z Z Z (λa=>av Z (if_pos a) Z di Z)<|bG Z Z Z (λa=>D Z (nk _ _ (F3 G i) y) (dN (if_pos a) (dN (if_pos a) Z)) Z)<|bG Z Z Z (λa=>aC Z (if_pos a) Z (λ_=>rfl))<|Chain.op Z (cH Z Z Z Z)<|Chain.nil
 refine aK Z (λc=>?_) (λc=>?_)
 ·rw[Q9]at c;have L:=of_decide_eq_true c.1;have A:=of_decide_eq_true c.2;refine ar<|aB<|am<|a8 1 (i+1) Z Z Zy O0<|Y 1 Z<|⟨_,_,?_,⟨i+1,?_,Z,Z⟩,.rf⟩
  ·omega
  exact⟨O0,yz (mx (d:=xr) L) A g,F4 (mx (d:=xr) L) A g⟩
 have b:=B1 g R c;have j:=Cp G J y N;unfold g8 at j;rw[<-b]at j;have w:=j.1;have S:=j.2 O m;refine aX<|C<|M 2 (t:=.agg (j6 r (.sc (.slice none 0 0)))) Z (oR Z k6 Z Z Z)<|Y 2 Z<|H<|iU 3 3 67 4 (bs':=[(30,(bQ r)),(67,(eA t)),(30,c7),(30,(j6 r (.own 0)))]) (rs':=[some ⟨67,4,[],false⟩]) Z Z Z Z<|eM (sl':=[(2,.box 0 0),(3,.box 1 0),(4,.box 2 0),(10,nI i),(52,bT ((decide (i<r.tups.length))&&(decide ((bw ((r.tups[i]?).getD xr).vals t.vals)<0)))),(11,.box 3 0)]) ⟨Z,⟨Z,⟨Z,⟨Z,⟨Z,⟨Z,trivial⟩⟩⟩⟩⟩⟩<|Vr (fu:=5) [some 58,some 59,some 60,some 61,some 62,some 63,some 64,some 65,some 66,some 67,some 68,some 69,some 70,some 71,some 72,some 73,none] [6,9,14,16] [.box 3 3,.own 0,.box 0 3,.sl (r.tups.map Tp.tree),nI i,.sl ((r.tups.take i).map Tp.tree),.own 0,.agg (eA t),.sl [.agg (eA t)],.own 0,.box 0 3,.sl (r.tups.map Tp.tree),nI i,.sl ((r.tups.drop i).map Tp.tree),.own 0,.box 3 3,.any] [([6],[(30,(bQ r)),(67,(eA t)),(30,c7),(30,(j6 r .any))],[some ⟨67,4,(r.tups.take i).map Tp.tree,false⟩],[(1,.any)]),([9,6],[(30,(bQ r)),(67,(eA t)),(30,c7),(30,(j6 r .any))],[some ⟨67,4,(r.tups.take i++[t]).map Tp.tree,false⟩],[(1,.any),(6,.any)]),([14,9,6],[(30,(bQ r)),(67,(eA t)),(30,c7),(30,(j6 r .any))],[some ⟨67,4,(r.tups.take i++[t]++r.tups.drop i).map Tp.tree,false⟩],[(1,.any),(6,.any),(9,.any)])] [16,14,9,6] [(30,(bQ r)),(67,(eA t)),(30,c7),(30,(j6 r (.own 0)))] [some ⟨67,4,(r.tups.take i++[t]++r.tups.drop i).map Tp.tree,false⟩] [(1,.any),(6,.any),(9,.any)] U0 Z U0 U0 U0 Z Z ?_ ?_
 ·refine .opp [] (.okk Z (aq Z Z a6 Z)<|.fin)<|.opp [0] (.okk Z (av Z Z Z bJ Z)<|.fin)<|.opp [] (.okk Z (aq Z Z a6 Z)<|.fin)<|.opp [2] (.okk Z (av Z Z Z bJ Z)<|.fin)<|.opp [] (.okk Z (K Z Z)<|.fin)<|.opp [3,4] (.okk Z (aj (ef (l:=0) (h:=i) Z aV Z Z ⟨_,Z⟩ (by first|omega|(simp only[Rn];omega)) (by first|omega|(simp only[Rn];omega)) (c6 _)) (by simp only[Tv,Su]))<|.fin)<|.opp [1,5] (.wr 1 (fk 0) (.own 0) U0 Z Z (c8 Z Z Z ia Z Z Z Z (c6 _) (AllC.map _ _ λ_=>rfl) (AllC.map _ _ λ_=>rfl) (by simp only[Rn,Rb,Ra];omega) Z Z Z) Z Z Z Z (.ks 6 Z (.i Z (.k Z (.k Z (.d U0 (.k Z (.k Z (.k Z (.k Z (.d U0 (.k Z (.k Z .nil))))))))))))<|.fin)<|.opp [] (.okk Z (aN Z Z Z fA Z Z)<|.okk Z (aN Z Z Z fA Z Z)<|.fin)<|.opp [7] (.okk Z (aS Z aV go Z I1 I1 Z Z Z Z Z)<|.okk Z (aS Z aV go Z I1 I1 Z Z Z Z Z)<|.fin)<|.opp [6,8] (.no U0<|.wr 2 (fk 0) (.own 0) U0 Z Z (c8 Z Z Z ia Z Z Z Z (by intro e W;simp only[Ri,RM,or_false]at W;subst W;rfl) (AllC.lit Z) (AllC.lit Z) (by simp only[Rn,Rb,Q5,Ra];omega) Z Z (by rw[Sn];rfl)) Z Z Z Z (.ks 9 Z (.i Z (.k Z (.k Z (.k Z (.k Z (.d U0 (.k Z (.k Z .nil)))))))))<|.fin)<|.opp [] (.okk Z (aq Z Z a6 Z)<|.okk Z (aq Z Z a6 Z)<|.okk Z (aq Z Z a6 Z)<|.fin)<|.opp [10] (.okk Z (av Z Z Z bJ Z)<|.okk Z (av Z Z Z bJ Z)<|.okk Z (av Z Z Z bJ Z)<|.fin)<|.opp [] (.okk Z (K Z Z)<|.okk Z (K Z Z)<|.okk Z (K Z Z)<|.fin)<|.opp [11,12] (.okk Z (aj (ef (l:=i) (h:=(r.tups.map Tp.tree).length) Z aV Z ⟨_,Z⟩ Z (by first|omega|(simp only[Rn];omega)) (by first|omega|(simp only[Rn];omega)) (c6 _)) (by simp only[Tw,Sa]))<|.okk Z (aj (ef (l:=i) (h:=(r.tups.map Tp.tree).length) Z aV Z ⟨_,Z⟩ Z (by first|omega|(simp only[Rn];omega)) (by first|omega|(simp only[Rn];omega)) (c6 _)) (by simp only[Tw,Sa]))<|.okk Z (aj (ef (l:=i) (h:=(r.tups.map Tp.tree).length) Z aV Z ⟨_,Z⟩ Z (by first|omega|(simp only[Rn];omega)) (by first|omega|(simp only[Rn];omega)) (c6 _)) (by simp only[Tw,Sa]))<|.fin)<|.opp [9,13] (.nos 2<|.wr 3 (fk 0) (.own 0) U0 Z Z (c8 Z Z Z ia Z Z Z Z (c6 _) (AllC.map _ _ λ_=>rfl) (AllC.map _ _ λ_=>rfl) (by simp only[Rn,Q4,Rb,Rm,Q5,Ra];omega) Z Z (by rw[Sn (l₁:=r.tups.take i++[t])];rfl)) Z Z Z Z (.ks 14 Z (.i Z (.k Z (.k Z .nil))))<|.fin)<|.opp [] (.nos 3<|.okk Z (aq Z Z a6 Z)<|.fin)<|.opp [14,15] (.nos 3<|.wr 4 id .any U0 Z Z (fx Z Z Z Z Z Z Z Z k7 Z Z Z) Z Z Z Z (.ks 16 Z (.i Z .nil))<|.fin)<|.nil
 refine H<|H<|dp 0 (bs':=[(30,(bQ r)),(67,(eA t)),(30,c7),(30,[sT r.sch.name,bT r.sch.cert,.sl (r.sch.cols.map Col.tree),.sl ((r.tups.take i++[t]++r.tups.drop i).map Tp.tree)])]) (rs':=[none]) Z Z Z Z<|am<|M 1 Z (D Z (rG ⟨r.sch,r.tups.take i++[t]++r.tups.drop i⟩ w S) Z Z)<|Y 1 Z<|C<|M 1 (t:=bT ((bK ⟨r.sch,r.tups.take i++[t]++r.tups.drop i⟩) !=0)) Z (aC Z Z Z Zy)<|E<|aK Z (λu=>?_) (λu=>?_)
 ·have Q:bK ⟨r.sch,r.tups.take i++[t]++r.tups.drop i⟩≠0:=by simpa using u
  refine X 4 Z<|aQ<|⟨.inr Z,_,.cons (co Z Z bf Z) (.cons Z .nil),by unfold nV;rw[show dW r t=bK ⟨r.sch,r.tups.take i++[t]++r.tups.drop i⟩from by unfold dW;rw[if_neg (by rw[z];simp),if_neg (by rw[v];simp),if_neg (by rw[I];simp)];unfold g8;rw[<-b],if_neg Q];rfl,jU r t⟩
 have T:bK ⟨r.sch,r.tups.take i++[t]++r.tups.drop i⟩=0:=by simpa using u
 refine ar<|C<|M 1 Z (D Z (B8 ⟨r.sch,r.tups.take i++[t]++r.tups.drop i⟩ w.tups (λx hx=>gI _ (((w.tup x hx).1.p).mono I1))) Z Z)<|Y 2 Z<|aQ<|⟨.inr Z,_,.cons (co Z Z bf Z) (.cons Z .nil),by unfold nV;rw[show dW r t=0 from by unfold dW;rw[if_neg (by rw[z];simp),if_neg (by rw[v];simp),if_neg (by rw[I];simp)];unfold g8;rw[<-b];exact T,if_pos Z];unfold g8;rw[<-b];rfl,jU r t⟩
def Ia{r:Rel}(h:ci r.sch none r.tups=0)(i:Nat):je r.tups i<=1:=by
 unfold je;cases a:r.tups[i]? with
 |none=>simp;decide
 |some t=>
  have:=(lS (iV (g9 h t (Q8 a))).2.1).2;show t.prob<=1
  grind
def xF{r:Rel}(h:ci r.sch none r.tups=0)(d:∀t∈r.tups,aR r.sch t.vals=[]):tS (bF r)=false/\pJ r.tups (bF r)=false:=by
 have a:∀b∈bF r,∃i,b=[i]:=λb a=>by
  unfold bF at a;split at a
  ·cases a
  rw[nT r.tups ([],[]) 0 d]at a;simp only[Sc,Sv]at a;obtain⟨i,_,rfl⟩:=a;exact⟨i,Z⟩
 refine⟨pZ λj b c=>?_,ou λj b c=>?_⟩
 ·obtain⟨i,rfl⟩:=a b (Q8 c);simp
 obtain⟨i,rfl⟩:=a b (Q8 c);rw[kW];have:=Ia h i;simp only[gR,Th,List.foldl_nil]
 grind
def Cu{r:Rel}(i:r.sch.cert=false)(l:∀t∈r.tups,aR r.sch t.vals≠ []):(tS (bF r)=false↔∀t∈r.tups,BU r.sch (aR r.sch t.vals) r.tups<=16)/\(pJ r.tups (bF r)=false↔∀t∈r.tups,BV r.sch (aR r.sch t.vals) r.tups<=1):=by
 obtain⟨g,j,a,c⟩:=Aq i l;rw[j];unfold tS pJ;rw[Tg,Tg];constructor
 ·constructor
  ·intro h t e;have:=h _ (Sv.2 ⟨_,a t e,Z⟩);rw[lU]at this;simpa using this
  intro h b f;obtain⟨k,d,rfl⟩:=Sv.1 f;obtain⟨t,e,rfl⟩:=c k d;rw[lU];simpa using h t e
 constructor
 ·intro h t e;have:=h _ (Sv.2 ⟨_,a t e,Z⟩);rw[vT,decide_eq_true_eq,kW]at this
  grind
 intro h b f;obtain⟨k,d,rfl⟩:=Sv.1 f;obtain⟨t,e,rfl⟩:=c k d;have:=h t e;rw[vT,decide_eq_true_eq,kW]
 grind
def yH{s:Sch}{t:Tp}(h:ch s t=0):aR s t.vals=[]↔eZ s.cols=false:=by
 have a:=(iV h).1;unfold aR;rw[if_pos a,p9 a]
def tB{cert:Bool}(f:cert=true):∀{l a:List Col},ik cert a l=false->eZ l=false
 |[],_,_=>rfl
 |c::l,a,h=>by
  rw[ik,Rp,Rp]at h;have b:=h.1.1;unfold m9 at b;rw[Rp]at b;have d:=tB f h.2;have e:=b.2;rw[f,Tx]at e;unfold eZ at d⊢;rw[UA,e,d];rfl
def EF{s:Sch}(h:im s=true)(a:s.cert=true):eZ s.cols=false:=by
 unfold im at h;rw[Sk,Rp]at h;rw[a]at h;exact tB Z h.2
def K4(r:Rel):Prop:=eZ r.sch.cols=false\/∀t∈r.tups,BU r.sch (aR r.sch t.vals) r.tups<=16/\BV r.sch (aR r.sch t.vals) r.tups<=1
def Nb{r:Rel}(f:im r.sch=true)(h:ci r.sch none r.tups=0):(tS (bF r)=false/\pJ r.tups (bF r)=false)↔K4 r:=by
 have c:=g9 h;cases b:eZ r.sch.cols
 ·have:=xF h λt a=>(yH (c t a)).2 b
  exact⟨λ_=>.inl b,λ_=>this⟩
 have d:r.sch.cert=false:=by
  cases d:r.sch.cert
  ·rfl
  rw[EF f d]at b;cases b
 have:=Cu d λt a e=>by rw[yH (c t a),b]at e;cases e
 rw[this.1,this.2];unfold K4;rw[b];simp only[Bool.true_eq_false,false_or];exact⟨λh t a=>⟨h.1 t a,h.2 t a⟩,λh=>⟨λt a=>(h t a).1,λt a=>(h t a).2⟩⟩
def rH{s:Sch}:∀(ts:List Tp) (p:List V),ci s (some p) ts=0↔(∀t∈ts,ch s t=0/\bw p t.vals<0)/\ts.Pairwise λa b=>bw a.vals b.vals<0
 |[],p=>by simp[ci]
 |t::ts,p=>by
  have m:=rH (s:=s) ts t.vals;rw[ci];by_cases g:ch s t=0
  ·rw[if_neg (c:=ch s t≠0) O];have n:=p5 p t.vals;by_cases j:bw p t.vals=0
   ·rw[if_pos j];constructor
    ·intro h;cases h
    intro h;have:=(h.1 t (Rw ..)).2;omega
   rw[if_neg j];by_cases k:bw p t.vals=1
   ·rw[if_pos k];constructor
    ·intro h;cases h
    intro h;have:=(h.1 t (Rw ..)).2;omega
   have f:bw p t.vals<0:=O
   rw[if_neg k,m,T7];constructor
   ·rintro⟨e,i⟩;refine⟨λx d=>?_,λx d=>(e x d).2,i⟩;rcases Ri.1 d with rfl|d
    ·exact⟨g,f⟩
    exact⟨(e x d).1,lT f (e x d).2⟩
   rintro⟨e,i,l⟩;exact⟨λx d=>⟨(e x (RD _ d)).1,i x d⟩,l⟩
  rw[if_pos g];constructor
  ·intro h;exact absurd h g
  intro h;exact absurd (h.1 t (Rw ..)).1 g
def tC{s:Sch}(ts:List Tp):ci s none ts=0↔(∀t∈ts,ch s t=0)/\ts.Pairwise λa b=>bw a.vals b.vals<0:=by
 cases ts with
 |nil=>simp[ci]
 |cons t ts=>
  rw[ci,T7];by_cases f:ch s t=0
  ·rw[if_neg (c:=ch s t≠0) O,rH];constructor
   ·rintro⟨e,g⟩;refine⟨λx d=>?_,λx d=>(e x d).2,g⟩;rcases Ri.1 d with rfl|d
    ·exact f
    exact(e x d).1
   rintro⟨e,g,i⟩;exact⟨λx d=>⟨e x (RD _ d),g x d⟩,i⟩
  rw[if_pos f];constructor
  ·intro h;exact absurd h f
  intro h;exact absurd (h.1 t (Rw ..)) f
def nH{r:Rel}:bK r=0↔im r.sch=true/\r.tups.length<=64/\ci r.sch none r.tups=0/\K4 r:=by
 unfold bK;by_cases a:im r.sch=true
 ·rw[if_neg (by rw[a];simp)];by_cases g:64<r.tups.length
  ·rw[if_pos g];constructor
   ·intro h;cases h
   intro h;omega
  rw[if_neg g];by_cases b:ci r.sch none r.tups=0
  ·rw[if_neg (c:=ci r.sch none r.tups≠0) O];have d:=Nb a b;cases e:tS (bF r)
   ·cases f:pJ r.tups (bF r)
    ·simp only[Ty,if_false,true_iff];exact⟨a,O,b,d.1 ⟨e,f⟩⟩
    simp only[Ty,if_false,if_true];constructor
    ·intro h;cases h
    rintro⟨_,_,_,h⟩;have:=(d.2 h).2;rw[f]at this;cases this
   simp only[if_true];constructor
   ·intro h;cases h
   rintro⟨_,_,_,h⟩;have:=(d.2 h).1;rw[e]at this;cases this
  rw[if_pos b];exact⟨λh=>absurd h b,λh=>absurd h.2.2.1 b⟩
 rw[if_pos (by simpa using a)];constructor
 ·intro h;cases h
 intro h;exact absurd h.1 a
def rI{a b:ByteArray}(h:a=b):(Tree.sc (.string a))=sT b:=by rw[h]
def pM{k:IntKind}{a b:Nat}(h:a=b):(Tree.sc (.int k ((a:Nat):Int)))=.sc (.int k ((b:Nat):Int)):=by rw[h]
def AC{α:Type}{p:α->Bool}:∀{l:List α} {x:α},x∈l.takeWhile p->p x=true
 |[],x,h=>by simp at h
 |a::l,x,h=>by
  rw[SA]at h;split at h
  ·next ha=>
   rcases Ri.1 h with rfl|h
   ·exact ha
   exact AC h
  cases h
def uj{l:List UInt8}(h:Au l=l.length):l.all eU=true:=by
 have e:l.takeWhile eU=l:=(TK _).eq_of_length h;rw[Rl];intro x a;rw[<-e]at a;exact AC a
def Cv(l:List UInt8):(l.take (Au l)).all eU=true:=by
 unfold Au;rw[Rl];intro x a;rw[show l.take (l.takeWhile eU).length=l.takeWhile eU from(List.prefix_iff_eq_take.1 (List.takeWhile_prefix _)).symm]at a;exact AC a
def EG(s:ByteArray):Bool:=decide (0<s.size)&&decide ((gi s 0).toNat=45)
def fU(s:ByteArray):ByteArray:=if EG s then s.extract 1 s.size else s
def oB(c:UInt8)(r:ByteArray):Bool:=((decide (c.toNat≠47)&&decide (c.toNat≠46))||(r.toList==(⟨#[]⟩:ByteArray).toList))||decide (Au r.data.toList≠r.size)
def nJ(ng:Bool)(u:ByteArray)(n:Nat)(r:ByteArray):Rat×Int:=
 if n=0 then(0,2)else if n=u.size then(eK ng (fT u.data.toList) 1,0)
 else if oB (gi u n) r then(0,2)
 else if(gi u n).toNat=46 then(eK ng (fT (u.extract 0 n++r).data.toList) (10^r.size),0)
 else if fT r.data.toList=0 then(0,20)else(eK ng (fT (u.extract 0 n).data.toList) (fT r.data.toList),0)
def iO(s:ByteArray):Rat×Int:=if 4000<s.size then(0,4)else nJ (EG s) (fU s) (Au (fU s).data.toList) ((fU s).extract (Au (fU s).data.toList+1) (fU s).size)
def OX:Tree:=.agg ml
def Cw(x:Rat×Int):Tree:=.tup [if x.2=0 then dw x.1 else OX,.sc (.int .i64 x.2)]
def iP(x:Rat×Int):(Cw x).plain=true:=by unfold Cw;split<;>rfl
def rJ(n:Nat):ByteArray:=⟨(Lib.decDigits n).toArray⟩
def Cx(q:Rat):ByteArray:=if q.num<0 then(⟨#[45]⟩:ByteArray)++rJ q.num.natAbs else rJ q.num.natAbs
def nK(q:Rat):ByteArray:=if q.den=1 then Cx q else Cx q++((⟨#[47]⟩:ByteArray)++rJ q.den)
def Cy:∀(l:List UInt8) (a:Nat),(∀c∈l,eU c=true)->l.foldl (λa c=>a*10+(c.toNat-48)) a<(a+1)*10^l.length
 |[],a,_=>F
 |c::l,a,h=>by
  rw[Th];have d:=Cy l (a*10+(c.toNat-48)) (λx e=>h x (RD _ e));have b:=h c (Rw ..);unfold eU at b;simp only[Q9,decide_eq_true_eq]at b;refine Rh d ?_;rw[Q5,RA,show(a+1)*(10^l.length*10)=((a+1)*10)*10^l.length by rw[Rk (10^l.length),Ry]];exact RB _ O
def Nc{l:List UInt8}(h:l.all eU=true):fT l<10^l.length:=by
 have:=Cy l 0 (Rl.1 h);unfold fT;simpa using this
def Cz{n k:Nat}(h:n<10^k):(aD n).length<=k:=by
 refine bq (Rh h (UK I k))
def iX{l:List UInt8}{L:Nat}(h:l.all eU=true)(a:l.length<=L):(aD (fT l)).length<=L:=Q7 (Cz (Nc h)) a
def ww{k L:Nat}(h:k<L):(aD (10^k)).length<=L:=Q7 (Cz (k:=k+1) (Ts I O)) O
def CA(s:ByteArray)(W:s.size<=1048576):Ct 79 [sT s] (Cw (iO s)):=by
 refine Ct.of (n:=100) func79 Z Z Z Z Z λw0 G0=>?_
 refine X 2 Z<|H<|C<|M 1 (t:=nI s.size) Z (fK Z bu Z)<|aI 0 Z Z Zy (B (nZ s.size 4000))<|E<|ay Z (λq=>?_) (λq=>?_)
 ·refine X 3 Z<|aQ<|⟨.inr Z,_,.cons (co Z Z aH Z) (.cons Z .nil),by unfold Cw iO;rw[if_pos q];rfl,iP _⟩
 refine ar<|H ?_;obtain⟨u,O⟩:∃u,fU s=u:=⟨_,Z⟩;have P:u.size<=4000:=by
  rw[<-O];unfold fU;split
  ·simp only[RS];omega
  omega
 obtain⟨n,I⟩:∃n,Au u.data.toList=n:=⟨_,Z⟩;obtain⟨r,L⟩:∃r,u.extract (n+1) u.size=r:=⟨_,Z⟩;have f:iO s=nJ (EG s) u n r:=by unfold iO;rw[if_neg q,O,I,L]
 refine am<|M 1 (t:=nI s.size) Z (fK Z bu Z)<|aI 0 Z Z Zy (B (nZ s.size 0))<|ax 1 Z<|N Z Z Z Z (λb=>K Z Z)<|N (t:=.sc (.int .u8 (((gi s 0).toNat:Nat):Int))) Z Z Z Z (λb=>eO (j:=0) Z bu (if_pos b) Z Z (fG (of_decide_eq_true b)))<|N Z Z Z Z (λb=>aj (aC Z (if_pos b) Z (λ_=>rfl)) (B (gL ((gi s 0).toNat) 45)))<|M 0 Z (cH Z Z Z Z)<|M 0 (t:=bT (EG s)) Z (aj (bN Z Z) (B Z))<|E<|H<|oc ⟨100,[(0,sT u),(2,.box 0 0),(3,iT 0),(4,bT (EG s))],[(65,ml)],[]⟩ 1 0 ?_ ?_
 ·refine X 1 Z<|aK Z (λk=>?_) (λk=>?_)
  ·have S:0<s.size:=by have h:=k;unfold EG at h;rw[Q9]at h;exact of_decide_eq_true h.1
   refine am<|M 1 (t:=sT (s.extract 1 s.size)) Z (ga (l:=1) (h:=s.size) Z bu Z ⟨_,Z⟩ Z O0 O0)<|Y 1 Z<|⟨Z,Z,Z,.cons (rI (by rw[<-O];unfold fU;rw[if_pos k])) Z (.cons Z Z (.cons Z Z (.cons Z Z .nil))),Z⟩
  refine ar<|⟨Z,Z,Z,.cons (rI (by rw[<-O];unfold fU;rw[if_neg (by rw[show EG s=false from k];exact R0)])) Z (.cons Z Z (.cons Z Z (.cons Z Z .nil))),Z⟩
 refine C<|M 1 (t:=nI n) Z (D Z (by rw[<-I];exact KD u O0) Z Z)<|Y 1 Z<|H<|C<|aI 1 Z Z Zy (B (gL n 0))<|E<|ay Z (λv=>?_) (λv=>?_)
 ·have F:=v;refine X 3 Z<|aQ<|⟨.inr Z,_,.cons (co Z Z aH Z) (.cons Z .nil),by rw[f];unfold nJ;rw[if_pos F];rfl,iP _⟩
 have F:=v;have R:n<=u.size:=by rw[<-I,cg];exact KB _
 refine ar<|H<|C<|M 2 (t:=nI u.size) Z (fK Z bu Z)<|aI 0 Z Z Zy (B (gL n u.size))<|E<|ay Z (λm=>?_) (λm=>?_)
 ·have d:=m;have o:u.data.toList.all eU=true:=uj (by rw[<-cg,I];exact m);refine C<|M 2 Z (D Z (pb u O0 P o) Z Z)<|M 0 Z (D Z (jg 1 I1) Z Z)<|M 0 Z (D Z (mm _ _ _ (iX o (by rw[<-cg];omega)) I1) Z Z)<|Y 2 Z<|aQ<|⟨.inr Z,_,.cons (co Z Z aH Z) (.cons Z .nil),by rw[f];unfold nJ;rw[if_neg F,if_pos d];rfl,iP _⟩
 have d:=m;have J:n<u.size:=O0
 have U:r.size=u.size-(n+1):=by rw[<-L];simp only[RS];omega
 have V:(u.extract 0 n).size=n:=by simp only[RS];omega
 have A:(u.extract 0 n).data.toList.all eU=true:=by rw[my,Su,<-I];exact Cv _
 refine ar<|H<|cB (fu:=9) _ [sT u,nI n,.sc (.int .u8 (((gi u n).toNat:Nat):Int)),sT u,nI n,nI (n+1),sT r,.sc (.int .u8 (((gi u n).toNat:Nat):Int)),sT r] U0 Z Z U0 Z ?_ ?_
 ·refine Chain.op Z (K Z Z)<|Chain.op Z (K Z Z)<|Chain.op Z (eO Z bu Z Z Z (fG J))<|Chain.op Z (K Z Z)<|Chain.op Z (K Z Z)<|Chain.op Z (aj (aC Z Z Z Zy) (kK O0))<|Chain.op Z (aj (ga (l:=n+1) (h:=u.size) Z bu Z ⟨_,Z⟩ Z O0 O0) (rI L))<|Chain.op Z (bN Z Z)<|Chain.op Z (bN Z Z)<|Chain.nil
 refine H<|C<|aI 1 Z Z Zy (B (od ((gi u n).toNat) 47))<|ax 1 Z<|N Z Z Z Z (λb=>K Z Z)<|N Z Z Z Z (λb=>aj (aC Z (if_pos b) Z (λ_=>rfl)) (B (od ((gi u n).toNat) 46)))<|M 0 Z (cH Z Z Z Z)<|ax 1 Z<|N Z Z Z Z (λb=>K Z Z)<|N (t:=bT (r.toList==(⟨#[]⟩:ByteArray).toList)) Z Z Z Z (λb=>aj (aC Z (if_pos b) Z (λ_=>rfl)) (B Z))<|M 0 Z (dD Z Z Z Z)<|ax 1 Z<|N Z Z Z Z (λb=>K Z Z)<|N Z Z Z Z (λb=>D Z (KD r O0) (dN (if_pos b) Z) Z)<|N Z Z Z Z (λb=>K Z Z)<|N (t:=nI r.size) Z Z Z Z (λb=>fK Z bu (if_pos b))<|N Z Z Z Z (λb=>aj (aC Z (if_pos b) (if_pos b) (λ_=>rfl)) (B (od ((Au r.data.toList)) r.size)))<|M 0 (t:=bT (oB (gi u n) r)) Z (aj (t:=bT ((((decide ((gi u n).toNat≠47))&&(decide ((gi u n).toNat≠46)))||(r.toList==(⟨#[]⟩:ByteArray).toList))||(decide ((Au r.data.toList)≠r.size)))) (dD Z Z Z Z) (B Z))<|E<|aK Z (λi=>?_) (λi=>?_)
 ·have g:=i;refine X 3 Z<|aQ<|⟨.inr Z,_,.cons (co Z Z aH Z) (.cons Z .nil),by rw[f];unfold nJ;rw[if_neg F,if_neg d,if_pos (show oB (gi u n) r=true from g)];rfl,iP _⟩
 have g:¬oB (gi u n) r=true:=by rw[i];exact R0
 have z:r.data.toList.all eU=true:=uj (by have h:=i;unfold oB at h;rw[Rp]at h;rw[<-cg];simpa using h.2);have T:1<=r.size:=by
  have h:=i;unfold oB at h;rw[Rp,Rp]at h;have Q:=h.1.2;rw[Lib.toList_data,cg]at*;cases e:r.data.toList with
  |nil=>rw[e]at Q;simp at Q
  |cons a l=>simp
 have p:(u.extract 0 n++r).data.toList.all eU=true:=by rw[UD,SE,S9,A,z];rfl
 refine ar<|H<|C<|aI 1 Z Z Zy (B (gL ((gi u n).toNat) 46))<|E<|ay Z (λw=>?_) (λw=>?_)
 ·have c:=w;refine C<|M 0 Z (D Z (jg 10 I1) Z Z)<|M 1 (t:=nI r.size) Z (fK Z bu Z)<|M 0 Z (D Z (M0 r.size O0) Z Z)<|Y 5 Z<|H<|C<|aI 1 Z Z Zy (B (od 0 0))<|E<|ay Z (λG=>?_) (λG=>?_)
  ·exact absurd Z G
  refine ar<|C<|M 3 (t:=sT (u.extract 0 n)) Z (ga (l:=0) (h:=n) Z bu Z Z ⟨_,Z⟩ O0 O0)<|M 1 (t:=sT (u.extract 0 n++r)) Z (aC Z Z Z (λ_=>tX (by rw[<-L];simp only[RS];omega)))<|M 0 Z (D Z (pb _ (by rw[S1];omega) (by rw[S1];omega) p) Z Z)<|M 1 Z (D Z (mm _ _ _ (iX p (by rw[<-cg,S1];omega)) (ww O0)) Z Z)<|Y 2 Z<|aQ<|⟨.inr Z,_,.cons (co Z Z aH Z) (.cons Z .nil),by rw[f];unfold nJ;rw[if_neg F,if_neg d,if_neg g,if_pos c];rfl,iP _⟩
 have c:=w;refine ar<|C<|M 1 Z (D Z (pb r O0 O0 z) Z Z)<|Y 1 Z<|H<|C<|M 1 Z (aU Z bV Z)<|aI 0 Z Z Zy (B (gL ((aD (fT r.data.toList)).length) 0))<|E<|ay Z (λx=>?_) (λx=>?_)
 ·have y:=b9.1 x;refine X 3 Z<|aQ<|⟨.inr Z,_,.cons (co Z Z aH Z) (.cons Z .nil),by rw[f];unfold nJ;rw[if_neg F,if_neg d,if_neg g,if_neg c,if_pos y];rfl,iP _⟩
 have y:¬fT r.data.toList=0:=λe=>x (b9.2 e)
 refine ar<|C<|M 3 (t:=sT (u.extract 0 n)) Z (ga (l:=0) (h:=n) Z bu Z Z ⟨_,Z⟩ O0 O0)<|M 0 Z (D Z (pb _ O0 O0 A) Z Z)<|M 1 Z (D Z (mm _ _ _ (iX A (by rw[<-cg];omega)) (iX z (by rw[<-cg];omega))) Z Z)<|Y 2 Z<|aQ<|⟨.inr Z,_,.cons (co Z Z aH Z) (.cons Z .nil),by rw[f];unfold nJ;rw[if_neg F,if_neg d,if_neg g,if_neg c,if_neg y];rfl,iP _⟩
def Ib(q:Rat)(d:Fit 262144 q)(e:(rJ q.num.natAbs).size<=1073741824)(g:(rJ q.den).size<=1073741824):Ct 47 [dw q] (sT (nK q)):=by
 refine Ct.of (n:=25) func47 Z Z Z Z Z λw0 G0=>?_
 refine X 2 Z<|C<|M 1 (t:=.agg (bj q)) Z (D Z (qT q d) Z Z)<|Y 2 Z<|H ?_;obtain⟨t,c⟩:∃t,Cx q=t:=⟨_,Z⟩;have f:t.size<=1073741825:=by
  rw[<-c];unfold Cx;split
  ·rw[S1];have:=e;show 1+_<=_;omega
  omega
 refine am<|M 2 (t:=sT (rJ q.num.natAbs)) Z (D Z (vZ _ d.num) Z Z)<|Y 1 Z<|H<|oc ⟨25,[(1,.box 0 0),(2,sT (⟨#[]⟩)),(3,.box 1 0),(4,sT t)],[(65,(bj q)),(65,(bj q))],[]⟩ 2 0 ?_ ?_
 ·refine X 2 Z<|ay Z (λa=>?_) (λa=>?_)
  ·refine am<|M 1 (t:=sT ((⟨#[45]⟩:ByteArray)++rJ q.num.natAbs)) Z (aC Z Z Z (λ_=>tX (by show 1+_<=_;omega)))<|Y 1 Z<|⟨Z,Z,Z,.cons Z Z (.cons Z Z (.cons Z Z (.cons (rI (by rw[<-c];unfold Cx;rw[if_pos a])) Z .nil))),Z⟩
  refine ar<|⟨Z,Z,Z,.cons Z Z (.cons Z Z (.cons Z Z (.cons (rI (by rw[<-c];unfold Cx;rw[if_neg a])) Z .nil))),Z⟩
 refine H<|C<|M 2 (t:=bT (decide (q.den=1))) Z (D Z (qS _) Z Z)<|M 0 (t:=bT (!(decide (q.den=1)))) Z (dm Z Z Zy)<|E<|aK Z (λb=>?_) (λb=>?_)
 ·refine am<|M 3 (t:=sT (rJ q.den)) Z (D Z (vZ _ d.den) Z Z)<|M 0 (t:=sT ((⟨#[47]⟩:ByteArray)++rJ q.den)) Z (aC Z Z Z (λ_=>tX (by show 1+_<=_;omega)))<|M 0 (t:=sT (t++((⟨#[47]⟩:ByteArray)++rJ q.den))) Z (aC Z Z Z (λ_=>tX (by rw[S1];show _+(1+_)<=_;omega)))<|Y 1 Z<|X 2 Z<|aM ⟨Z,rI (by unfold nK;rw[c,if_neg (by simpa using b)]),Z⟩ Z
 refine ar<|X 2 Z<|aM ⟨Z,rI (by unfold nK;rw[c,if_pos (by simpa using b)]),Z⟩ Z
def CB(k:Nat):∀(u:Nat),u<10^k->0<k->(Lib.decDigits u).length<=k:=by
 induction k with
 |zero=>intro u _ h;exact absurd h O
 |succ k ih=>
  intro u a _;rw[Lib.decDigits];split
  ·simp
  rename_i h;have c:0<k:=by
   rcases RV k with rfl|b
   ·simp at a;omega
   exact b
  have:=ih (u/10) (by rw[Sg I];rw[RA]at a;exact a) c;simp;omega
def K5(n:Int)(b: -9223372036854775808<=n)(c:n<=9223372036854775807):(Lib.itoa n).length<=21:=by
 have a:(10^20:Nat)=100000000000000000000:=I
 unfold Lib.itoa;split
 ·have:=CB 20 n.natAbs (by rw[a];omega) I;simp;omega
 have:=CB 20 n.toNat (by rw[a];omega) I;omega
def Nd{t n:Int}{b:ByteArray}(a:bY t n b=true)(f: -9223372036854775808<=n)(g:n<=9223372036854775807):1<=(gh t n b).length/\(gh t n b).length<=130:=by
 by_cases d:t=1
 ·subst d;rw[show gh 1 n b=Lib.itoa n by simp[gh,a]];obtain⟨c,r,e,j⟩:=mf n;have:=K5 n f g;rw[e]at this⊢;simp at this⊢;omega
 obtain⟨rfl,rfl,i,_⟩:=io d a;rw[show gh 2 0 b=[39]++m0 b.data.toList++[39] by simp[gh,a]];have:=lO b.data.toList;have h:b.data.toList.length=b.size:=F
 simp only[Q4,Q5,Ra];omega
def V.fmt(v:V):List UInt8:=gh v.t v.n v.s
def V.rng(v:V):Prop:= -9223372036854775808<=v.n/\v.n<=9223372036854775807
def V.zero:V:=⟨0,0,⟨#[]⟩⟩
def AD(s:ByteArray)(v:V):Prop:=v.ok=true/\v.rng/\s.data.toList=v.fmt
noncomputable def k9 (s:ByteArray):Option V:=open Classical in if h:∃v:V,AD s v then some (Classical.choose h)else none
def tD{s:ByteArray}{v:V}(h:k9 s=some v):AD s v:=by
 unfold k9 at h;split at h
 ·next h1=>
  injection h with h
  rw[<-h];exact Classical.choose_spec h1
 cases h
def tE{s:ByteArray}(h:k9 s=none)(v:V):¬AD s v:=λa=>by
 unfold k9 at h;split at h
 ·cases h
 next h1=>exact h1 ⟨v,a⟩
def Gg(v:V)(h:v.rng):Ct 46 [v.tree] (.sc (.string ⟨v.fmt.toArray⟩)):=Ct.sc ⟨_,func46,Z,Z⟩ λG w vs b _ c=>by
 obtain⟨u,rfl,a⟩:=eC c;rw[D3 a];exact kU v.t v.n v.s w h.1 h.2 b
def CC(s:ByteArray)(v:V)(i:s.size<=4294967280)(h:k9 s=some v):Ct 76 [sT s] (.tup [v.tree,iT 0]):=⟨⟨_,func76,Z,Z⟩,λG w vs d _ g=>by
 obtain⟨u,rfl,a⟩:=eC g;cases a;obtain⟨a,b,c⟩:=tD h;refine(J0 v.t v.n v.s s w i a c b.1 b.2 d).mono ?_;rintro e w' ⟨rfl,f⟩;exact⟨_,Z,.tup [.agg #[.int .i64 v.t,.int .i64 v.n,.string v.s],.int .i64 0] _ (.agg [.int .i64 v.t,.int .i64 v.n,.string v.s] _ (.sc _ (.sc _ (.sc _ .nil))) (.sc _ .nil)) .nil,f⟩⟩
def CD(s:ByteArray)(g:s.size<=4294967280)(h:k9 s=none):Ct 76 [sT s] (.tup [V.zero.tree,iT 2]):=⟨⟨_,func76,Z,Z⟩,λG w vs c _ f=>by
 obtain⟨u,rfl,a⟩:=eC f;cases a;refine(G5 s w g (λt n j i b a e=>tE h ⟨t,n,j⟩ ⟨i,⟨b,a⟩,e⟩) c).mono ?_;rintro e w' ⟨rfl,d⟩;exact⟨_,Z,.tup [.agg #[.int .i64 0,.int .i64 0,.string ⟨#[]⟩],.int .i64 2] _ (.agg [.int .i64 0,.int .i64 0,.string ⟨#[]⟩] _ (.sc _ (.sc _ (.sc _ .nil))) (.sc _ .nil)) .nil,d⟩⟩
def kp(s:ByteArray):Tree:=.sc (.string s)
def yI(l:List ByteArray):Sized 1 (l.map kp):=Sized.map _ l λ_=>rfl
def fa(s:ByteArray):List ByteArray:=Lib.splitB ⟨#[10]⟩ 0 (Lib.countB s ⟨#[10]⟩) s
def K6(W:World)(G:Nat->Prop):∀l:List ByteArray,PT W G (l.map Value.string) (flat (l.map kp))
 |[]=>.nil
 |_::l=>.sc _ (K6 W G l)
def K7(s:ByteArray)(p:s.size<=1048576)(i:(fa s).length=Lib.countB s ⟨#[10]⟩+1)(o:Lib.countB s ⟨#[10]⟩<=1048576):Ct 28 [sT s,.sc (.string ⟨#[10]⟩)] (.sl ((fa s).map kp)):=⟨⟨_,func28,Z,Z⟩,λG w vs d f l=>by
 obtain⟨u,x,rfl,b,c⟩:=dE l;cases b;cases c;obtain⟨m,k⟩:=d.maxLen;refine(Tryz.strings_Split s ⟨#[10]⟩ m w O k I).mono ?_;rintro e w' ⟨rfl,rfl⟩;have g:Below w.heap.size w (w.alloc (.cells ((fa s).map Value.string).toArray 9)):=(Below.refl _ _).alloc (Q3 _) _;refine⟨_,Z,?_,g⟩;have a:=iF w 9 ((fa s).map Value.string).toArray;rw[<-i];refine .sl _ 0 _ _ ((fa s).map Value.string) _ a.lt (λh=>?_) (λj u n=>?_) F F O (K6 _ _ _) .nil
 ·have:=(f _ h).1;omega
 rw[R4];exact(a.cell j).trans (by simpa using n)⟩
