import Derived.Test.YtfoejfohbkmmeaaGreatDoorK40
set_option maxRecDepth 100000
set_option maxHeartbeats 4000000
set_option linter.defProp false
open Go.Proofs.Tryz
namespace Go.Proofs.YtfoejfohbkmmeaaGreatDoor
open Go.RowKit
open Lib renaming hid→J
def qj(s:ByteArray):(⟨s.data.toList.toArray⟩:ByteArray)=s:=by
 cases s;simp
def Da{c:Col}(t:List UInt8)(i:c.name.size<=24)(g:0<=c.ty)(h:c.ty<=2):qi ⟨jo c++t,0⟩=(c,⟨t,0⟩):=by
 have j:=ib c.name;have e:jo c++t=em c.name.data.toList++(cZ c.ty.toNat++(cZ (if c.key then 1 else 0)++t)):=by unfold jo gP;simp
 have b:=jK (a:=c.name.data.toList) (m:=24) (cZ c.ty.toNat++(cZ (if c.key then 1 else 0)++t)) O O;have d:=it (n:=c.ty.toNat) (m:=2) (cZ (if c.key then 1 else 0)++t) O O;have f:=it (n:=if c.key then 1 else 0) (m:=1) t (by split<;>decide) (by split<;>decide);unfold qi;rw[e,b];dsimp only;rw[d];dsimp only;rw[f];dsimp only;rw[qj];obtain⟨k,ty,key⟩:=c;dsimp only at g h⊢;congr 1;congr 1
 ·omega
 cases key<;>rfl
def zm:∀(l a:List Col) (t:List UInt8),(∀c∈l,c.name.size<=24/\0<=c.ty/\c.ty<=2)->lL l.length a ⟨l.flatMap jo++t,0⟩=(a++l,⟨t,0⟩)
 |[],a,t,_=>by simp[lL]
 |c::l,a,t,h=>by
  obtain⟨b,d,e⟩:=h c (Rw ..);rw[Q5,lL,SI,RL,Da _ b d e];dsimp only;rw[zm l _ t λx f=>h x (RD _ f)];simp
structure EncT (m:Nat) (t:Tp):Prop where
 ok:t.vals.all V.ok=true
 rng:∀v∈t.vals,v.rng
 len:(eJ t.vals).length<=m
 num:(nO t.prob.num.natAbs).length<=8192
 den:(nO t.prob.den).length<=8192
def zn{m:Nat}(g:m<=1073741824):∀(l:List Tp) (b:List Ot) (t:List UInt8),(∀x∈l,EncT m x)->iv m l.length b ⟨l.flatMap gz++t,0⟩=some (b++l.map (λx=>⟨x.vals,some x.prob⟩),⟨t,0⟩)
 |[],b,t,_=>by simp[iv]
 |x::l,b,t,h=>by
  have c:=h x (Rw ..);have d:=jK (a:=eJ x.vals) (m:=m) (mF x.prob++(l.flatMap gz++t)) (by have:=c.len;omega) c.len;have f:=yZ x.prob (l.flatMap gz++t) c.num c.den;have e:(x::l).flatMap gz++t=em (eJ x.vals)++(mF x.prob++(l.flatMap gz++t)):=by
   rw[SI];unfold gz;simp
  rw[Q5,iv,e,d];dsimp only;rw[wm x.vals c.ok c.rng];dsimp only;rw[f];dsimp only;rw[zn g l _ t λy i=>h y (RD _ i)];simp
def Fa{cert:Bool}{q:Rat}(h:iw cert q=true):(nO q.num.natAbs).length<=8192/\(nO q.den).length<=8192:=by
 unfold iw at h;rw[Q9,Sk,Rp,Rp]at h;have m:cR q.den<=65536:=of_decide_eq_true h.2;have d:¬dk q<0:=of_decide_eq_false h.1.1.1;have e:¬dk (1-q)<0:=of_decide_eq_false h.1.1.2;rw[kW]at d e;have b:0<=q:=Rat.not_lt.1 d;have c:q<=1:=by
  have:=Rat.not_lt.1 e;exact(Rat.le_iff_sub_nonneg _ _).2 this
 have a:q.num.natAbs<=q.den:=by
  have j:=(Rat.le_iff _ _).1 c;have l:0<=q.num:=Rat.num_nonneg.2 b;simp at j;omega
 have f:cR q.num.natAbs<=cR q.den:=by
  by_cases h:q.num.natAbs=0
  ·rw[h];exact Rg _
  obtain⟨g,_,k⟩:=xa h;obtain⟨_,i,_⟩:=xa q.den_nz;have:=SG g (SG a i);have:=(U4 I).1 this;omega
 rw[wN,wN];omega
def xk{r:Rel}(d:Enc r):∀x∈r.tups,EncT (fV r).length x:=λx c=>by
 have f:=iV (((tC _).1 (nH.1 d.valid).2.2.1).1 x c);obtain⟨g,j,k⟩:=rU d c;obtain⟨h,i⟩:=Fa f.2.1;refine⟨g,d.rng x c,?_,h,i⟩;obtain⟨a,b,e⟩:=List.append_of_mem c;unfold fV;rw[e,Ul,SI];unfold gz em;simp only[Q4];omega
def Gt{r:Rel}(b:Enc r):IM (fV r)=(r.sch,r.tups.length,⟨r.tups.flatMap gz,0⟩):=by
 obtain⟨⟨l,o⟩,⟨p,i⟩,j⟩:=rT b;have q:=ib r.sch.name;have k:=b.len;have e:fV r=em r.sch.name.data.toList++(cZ (if r.sch.cert then 1 else 0)++(cZ r.sch.cols.length++(r.sch.cols.flatMap jo++(cZ r.tups.length++r.tups.flatMap gz)))):=by
  unfold fV nW gP;simp
 have c:=jK (a:=r.sch.name.data.toList) (m:=24) (cZ (if r.sch.cert then 1 else 0)++(cZ r.sch.cols.length++(r.sch.cols.flatMap jo++(cZ r.tups.length++r.tups.flatMap gz)))) O O;have d:=it (n:=if r.sch.cert then 1 else 0) (m:=1) (cZ r.sch.cols.length++(r.sch.cols.flatMap jo++(cZ r.tups.length++r.tups.flatMap gz))) (by split<;>decide) (by split<;>decide);have f:=it (n:=r.sch.cols.length) (m:=6) (r.sch.cols.flatMap jo++(cZ r.tups.length++r.tups.flatMap gz)) O i;have g:=zm r.sch.cols [] (cZ r.tups.length++r.tups.flatMap gz) j;have h:=it (n:=r.tups.length) (m:=64) (r.tups.flatMap gz) O k;unfold IM;simp only[e,c,d,f,g,h,Sc];rw[qj];obtain⟨⟨s,ct,cs⟩,ts⟩:=r;dsimp only;cases ct<;>rfl
def IP{r:Rel}(a:Enc r)(c:(fV r).length<=1073741824):oL (fV r)=some r:=by
 have b:zi (fV r)=some (r.tups.map (λx=>⟨x.vals,some x.prob⟩),⟨[],0⟩):=by
  unfold zi;rw[Gt a];dsimp only;have:=zn c r.tups [] [] (xk a);rw[RP,Sc]at this;exact this
 unfold oL jX;rw[b,Gt a];dsimp only;have d:(r.tups.map (λx=>(⟨x.vals,some x.prob⟩:Ot))).map Ot.tp=r.tups:=by
  rw[List.map_map];have:(Ot.tp∘λ(x:Tp)=>(⟨x.vals,some x.prob⟩:Ot))=id:=by
   funext x;rfl
  rw[this,List.map_id]
 rw[d];exact if_pos Z
def NF{r:Rel}(d:Good r):(dH r).length<=65536:=by
 obtain⟨⟨A,B⟩,⟨C,D⟩,p⟩:=CR d;have E:=ib r.sch.name;have F:=d.len;have a:∀n,n<18446744073709551616->(cZ n).length<=10:=λn h=>dz h
 have t:∀l:List Tp,(∀x∈l,EncT (fV r).length x/\(eJ x.vals).length<=396)->(l.flatMap gz).length<=l.length*17000:=by
  intro l;induction l with
  |nil=>intro _;exact Q3 _
  |cons x l ih=>
   intro h;obtain⟨b,q⟩:=h x (Rw ..);have s:=ih λy e=>h y (RD _ e)
   have f:=a (eJ x.vals).length O;have g:=a (nO x.prob.num.natAbs).length (by have:=b.num;omega);have i:=a (nO x.prob.den).length (by have:=b.den;omega);have j:=b.num;have u:=b.den;rw[SI,Q4,Q5];have:(gz x).length<=17000:=by
    unfold gz mF li em;simp only[Q4,Q5];omega
   omega
 have k:∀l:List Col,(∀c∈l,c.name.size<=24/\0<=c.ty/\c.ty<=2)->(l.flatMap jo).length<=l.length*100:=by
  intro l;induction l with
  |nil=>intro _;exact Q3 _
  |cons c l ih=>
   intro h;obtain⟨G,H,I⟩:=h c (Rw ..);have s:=ih λy e=>h y (RD _ e)
   have w:=ib c.name;have f:=a c.name.data.toList.length O;have g:=a c.ty.toNat O;have i:=iY c.key;rw[SI,Q4,Q5];have:(jo c).length<=100:=by
    unfold jo em;simp only[Q4];omega
   omega
 have J:=t r.tups λx b=>⟨xk d.enc x b,(CS d b).2.2⟩
 have v:=k r.sch.cols p;have f:=a r.sch.name.data.toList.length O;have g:=a r.sch.cols.length O;have i:=a r.tups.length O;have j:=iY r.sch.cert;have o:(jv (ft (fV r))).length=4:=rfl;have z:(dH r).length=(fV r).length+4:=by unfold dH;rw[Q4,o]
 have m:(fV r).length<=60000:=by
  unfold fV nW em;simp only[Q4];omega
 omega
def IQ{r:Rel}(b:Enc r)(e:(fV r).length<=1073741824):j2 (dH r)=(r,0):=by
 have c:(jv (ft (fV r))).length=4:=rfl;have a:(dH r).length=(fV r).length+4:=by unfold dH;rw[Q4,c]
 have f:(dH r).take ((dH r).length-4)=fV r:=by rw[a,Tn];unfold dH;simp
 have d:(dH r).drop ((dH r).length-4)=jv (ft (fV r)):=by rw[a,Tn];unfold dH;simp
 unfold j2;rw[if_neg O,f,d,if_neg (λh=>h Z),IP b e];exact if_pos ⟨b.valid,Z⟩
def jY:Nat->List Col->Rdr->List Col×Rdr
 |0,acc,s=>(acc,s)
 |k+1,acc,s=>if s.err≠0 then(acc,s)else jY k (acc++[(qi s).1]) (qi s).2
def iZ(m:Nat):Nat->List Ot->Rdr->Option (List Ot×Rdr)
 |0,acc,s=>some (acc,s)
 |k+1,acc,s=>if s.err≠0 then some (acc,s)else match ir (bM m s).1 with
  |none=>none
  |some l=>iZ m k (acc++[⟨l,(d7 (bM m s).2).1⟩]) (d7 (bM m s).2).2
def IY(b:List UInt8):Sch×Nat×Rdr:=
 let a:=bM 24 ⟨b,0⟩
 let c:=bX 1 a.2
 let n:=bX 6 c.2
 let C:=jY n.1 [] n.2
 let m:=bX 64 C.2
 (⟨⟨a.1.toArray⟩,decide (c.1=1),C.1⟩,m.1,m.2)
def oM(b:List UInt8):Option (List Ot×Rdr):=iZ 396 (IY b).2.1 [] (IY b).2.2
def nX(b:List UInt8)(p:List Ot×Rdr):Rel:=⟨(IY b).1,p.1.map Ot.tp⟩
def nY(b:List UInt8):Rel×Nat:=
 if b.length<4 then(Rel.zero,3)
 else if jv (ft (b.take (b.length-4)))≠b.drop (b.length-4)then(Rel.zero,5)
 else match oM (b.take (b.length-4))with
  |none=>(Rel.zero,2)
  |some p=>if p.2.err=0/\bK (nX (b.take (b.length-4)) p)=0/\dH (nX (b.take (b.length-4)) p)=b then(nX (b.take (b.length-4)) p,0)else(Rel.zero,2)
def zo:∀(l a:List Col) (t:List UInt8),(∀c∈l,c.name.size<=24/\0<=c.ty/\c.ty<=2)->jY l.length a ⟨l.flatMap jo++t,0⟩=(a++l,⟨t,0⟩)
 |[],a,t,_=>by simp[jY]
 |c::l,a,t,h=>by
  obtain⟨b,d,e⟩:=h c (Rw ..);rw[Q5,jY,if_neg (λh=>h Z),SI,RL,Da _ b d e];dsimp only;rw[zo l _ t λx f=>h x (RD _ f)];simp
def zp{m:Nat}(g:m<=1073741824):∀(l:List Tp) (b:List Ot) (t:List UInt8),(∀x∈l,EncT m x)->iZ m l.length b ⟨l.flatMap gz++t,0⟩=some (b++l.map (λx=>⟨x.vals,some x.prob⟩),⟨t,0⟩)
 |[],b,t,_=>by simp[iZ]
 |x::l,b,t,h=>by
  have c:=h x (Rw ..);have d:=jK (a:=eJ x.vals) (m:=m) (mF x.prob++(l.flatMap gz++t)) (by have:=c.len;omega) c.len;have f:=yZ x.prob (l.flatMap gz++t) c.num c.den;have e:(x::l).flatMap gz++t=em (eJ x.vals)++(mF x.prob++(l.flatMap gz++t)):=by
   rw[SI];unfold gz;simp
  rw[Q5,iZ,if_neg (λh=>h Z),e,d];dsimp only;rw[wm x.vals c.ok c.rng];dsimp only;rw[f];dsimp only;rw[zp g l _ t λy i=>h y (RD _ i)];simp
def Gu{r:Rel}(b:Enc r):IY (fV r)=(r.sch,r.tups.length,⟨r.tups.flatMap gz,0⟩):=by
 obtain⟨⟨l,o⟩,⟨p,i⟩,j⟩:=rT b;have q:=ib r.sch.name;have k:=b.len;have e:fV r=em r.sch.name.data.toList++(cZ (if r.sch.cert then 1 else 0)++(cZ r.sch.cols.length++(r.sch.cols.flatMap jo++(cZ r.tups.length++r.tups.flatMap gz)))):=by
  unfold fV nW gP;simp
 have c:=jK (a:=r.sch.name.data.toList) (m:=24) (cZ (if r.sch.cert then 1 else 0)++(cZ r.sch.cols.length++(r.sch.cols.flatMap jo++(cZ r.tups.length++r.tups.flatMap gz)))) O O;have d:=it (n:=if r.sch.cert then 1 else 0) (m:=1) (cZ r.sch.cols.length++(r.sch.cols.flatMap jo++(cZ r.tups.length++r.tups.flatMap gz))) (by split<;>decide) (by split<;>decide);have f:=it (n:=r.sch.cols.length) (m:=6) (r.sch.cols.flatMap jo++(cZ r.tups.length++r.tups.flatMap gz)) O i;have g:=zo r.sch.cols [] (cZ r.tups.length++r.tups.flatMap gz) j;have h:=it (n:=r.tups.length) (m:=64) (r.tups.flatMap gz) O k;unfold IY;simp only[e,c,d,f,g,h,Sc];rw[qj];obtain⟨⟨s,ct,cs⟩,ts⟩:=r;dsimp only;cases ct<;>rfl
def Qt(l:List Tp):(l.map (λx=>(⟨x.vals,some x.prob⟩:Ot))).map Ot.tp=l:=by
 rw[List.map_map];have:(Ot.tp∘λ(x:Tp)=>(⟨x.vals,some x.prob⟩:Ot))=id:=by
  funext x;rfl
 rw[this,List.map_id]
def IR{r:Rel}(a:Enc r):oM (fV r)=some (r.tups.map (λx=>⟨x.vals,some x.prob⟩),⟨[],0⟩):=by
 unfold oM;rw[Gu a];dsimp only;have:=zp (m:=396) I r.tups [] [] λx b=>by
  have h:=xk a x b;exact⟨h.ok,h.rng,(rU a b).2.2,h.num,h.den⟩
 rw[RP,Sc]at this;exact this
def IS{r:Rel}(b:Enc r):nY (dH r)=(r,0):=by
 have c:(jv (ft (fV r))).length=4:=rfl;have a:(dH r).length=(fV r).length+4:=by unfold dH;rw[Q4,c]
 have f:(dH r).take ((dH r).length-4)=fV r:=by rw[a,Tn];unfold dH;simp
 have d:(dH r).drop ((dH r).length-4)=jv (ft (fV r)):=by rw[a,Tn];unfold dH;simp
 have e:nX (fV r) (r.tups.map (λx=>⟨x.vals,some x.prob⟩),⟨[],0⟩)=r:=by
  unfold nX;rw[Gu b];dsimp only;rw[Qt]
 unfold nY;rw[if_neg O,f,d,if_neg (λh=>h Z),IR b];dsimp only;rw[e];exact if_pos ⟨Z,b.valid,Z⟩
def Gv:∀(n:Nat) (b:List UInt8) (l:List V),rC n b=some l->∀v∈l,v.ok=true
 |0,b,l,h,v,a=>by
  simp only[rC,Ro]at h;subst h;cases a
 |n+1,[],l,h,v,a=>by
  simp only[rC,Ro]at h;subst h;cases a
 |n+1,c::b,l,h,v,a=>by
  rw[rC]at h;cases d:i6 (c::b)with
  |none=>rw[d]at h;cases h
  |some p=>
   obtain⟨u,k⟩:=p;rw[d]at h;dsimp only at h;split at h
   ·next hu=>
    rw[R9]at h;obtain⟨f,e,rfl⟩:=h;rcases Ri.1 a with rfl|a
    ·exact hu
    exact Gv n _ f e v a
   cases h
def NG{v:V}(h:v.ok=true):v.s.size<=64:=by
 unfold V.ok bY at h;split at h
 ·simp at h;simp[ByteArray.size,h]
 simp only[Q9,decide_eq_true_eq]at h;omega
structure OtOk (m:Nat) (t:Ot):Prop where
 fit:Fit 2048 (t.o.getD 0)
 len:t.vals.length<=m
 rng:∀v∈t.vals,v.rng
 ok:∀v∈t.vals,v.ok=true
def zq(m:Nat):∀(k:Nat) (a:List Ot) (s:Rdr) (p:List Ot×Rdr),(∀t∈a,OtOk m t)->iZ m k a s=some p->(∀t∈p.1,OtOk m t)/\p.1.length<=a.length+k
 |0,a,s,p,ha,h=>by
  rw[iZ,Ro]at h;subst h;exact⟨ha,Q3 _⟩
 |k+1,a,s,p,ha,h=>by
  rw[iZ]at h;split at h
  ·rw[Ro]at h;subst h;exact⟨ha,Nat.le_add_right _ _⟩
  cases c:ir (bM m s).1 with
  |none=>rw[c]at h;cases h
  |some l=>
   rw[c]at h;dsimp only at h;obtain⟨j,d⟩:=sZ _ _ _ c;have g:=ie m s;have e:Fit 2048 (((d7 (bM m s).2).1).getD 0):=by
    cases f:(d7 (bM m s).2).1 with
    |none=>exact⟨I,I⟩
    |some q=>exact xi _ f
   have:=zq m k _ _ p (λt i=>by
    rcases RI.1 i with b|b
    ·exact ha t b
    rw[Rs]at b;subst b;exact⟨e,by dsimp only;omega,d,Gv _ _ _ c⟩) h
   rw[Q4,Ss]at this;exact⟨this.1,O⟩
def zu:∀(k:Nat) (a:List Col) (s:Rdr),(jY k a s).1.length<=a.length+k/\(jY k a s).2.rest.length<=s.rest.length
 |0,_,_=>⟨Q3 _,Q3 _⟩
 |k+1,a,s=>by
  rw[jY];split
  ·exact⟨Nat.le_add_right _ _,Q3 _⟩
  have h:=zu k (a++[(qi s).1]) (qi s).2;have b:=C8 s;rw[Q4,Ss]at h;omega
def NH(b:List UInt8):(IY b).2.2.rest.length<=b.length/\(IY b).1.cols.length<=6/\(IY b).2.1<=64:=by
 have a:=fW 24 ⟨b,0⟩;have d:=de 1 (bM 24 ⟨b,0⟩).2;have e:=de 6 (bX 1 (bM 24 ⟨b,0⟩).2).2;have f:=fv 6 (bX 1 (bM 24 ⟨b,0⟩).2).2;have c:=zu (bX 6 (bX 1 (bM 24 ⟨b,0⟩).2).2).1 [] (bX 6 (bX 1 (bM 24 ⟨b,0⟩).2).2).2;have g:=de 64 (jY (bX 6 (bX 1 (bM 24 ⟨b,0⟩).2).2).1 [] (bX 6 (bX 1 (bM 24 ⟨b,0⟩).2).2).2).2;have h:=fv 64 (jY (bX 6 (bX 1 (bM 24 ⟨b,0⟩).2).2).1 [] (bX 6 (bX 1 (bM 24 ⟨b,0⟩).2).2).2).2;simp only[Ra]at c;simp only[IY];dsimp only at a;omega
def Db{b:List UInt8}{p:List Ot×Rdr}(h:oM b=some p):FitR (nX b p)/\(∀t∈(nX b p).tups,∀v∈t.vals,v.rng)/\∀t∈p.1,OtOk 396 t:=by
 obtain⟨d,g⟩:=zq 396 _ [] _ p (λt c=>by cases c) h;obtain⟨_,j,k⟩:=NH b;rw[Ra]at g;refine⟨⟨by show(IY b).1.cols.length<=_;omega,by show(p.1.map Ot.tp).length<=_;rw[Rn];omega,λt c=>?_⟩,λt c v i=>?_,d⟩
 ·obtain⟨x,e,rfl⟩:=Sv.1 c;have f:=(d x e).fit;exact⟨⟨f.mono I,(lI (a:=1) (b:=2048) ⟨I,I⟩ f).mono I⟩,Q7 (d x e).len I⟩
 obtain⟨x,e,rfl⟩:=Sv.1 c;exact(d x e).rng v i
def Dc(m:Nat):∀(k:Nat) (a:List Ot) (s:Rdr) (p:List Ot×Rdr),(∀t∈a,Pm t)->iZ m k a s=some p->p.2.err=0->∀t∈p.1,Pm t
 |0,a,s,p,ha,h,_=>by
  rw[iZ,Ro]at h;subst h;exact ha
 |k+1,a,s,p,ha,h,he=>by
  rw[iZ]at h;split at h
  ·rw[Ro]at h;subst h;exact ha
  cases e:ir (bM m s).1 with
  |none=>rw[e]at h;cases h
  |some l=>
   rw[e]at h;dsimp only at h;cases c:(d7 (bM m s).2).1 with
   |none=>
    have d:=xg _ c;have f:p.2=(d7 (bM m s).2).2:=by
     cases k with
     |zero=>rw[iZ,Ro]at h;rw[<-h]
     |succ k=>rw[iZ,if_pos d,Ro]at h;rw[<-h]
    rw[f]at he;exact absurd he d
   |some q=>
    refine Dc m k _ _ p (λt g=>?_) h he;rcases RI.1 g with b|b
    ·exact ha t b
    rw[Rs]at b;subst b;exact⟨q,c,xi _ c⟩
def NI{b:List UInt8}(m:b.length<=65536):nY b=j2 b:=by
 by_cases d:∃r,Enc r/\b=dH r
 ·obtain⟨r,i,rfl⟩:=d;rw[IS i,IQ i];have:(dH r).length=(fV r).length+4:=by unfold dH;rw[Q4];rfl
  omega
 unfold nY j2;by_cases a:b.length<4
 ·rw[if_pos a,if_pos a]
 rw[if_neg a,if_neg a];by_cases c:jv (ft (b.take (b.length-4)))≠b.drop (b.length-4)
 ·rw[if_pos c,if_pos c]
 rw[if_neg c,if_neg c];have j:(match oM (b.take (b.length-4))with
  |none=>(Rel.zero,2)
  |some p=>if p.2.err=0/\bK (nX (b.take (b.length-4)) p)=0/\dH (nX (b.take (b.length-4)) p)=b then(nX (b.take (b.length-4)) p,0)else(Rel.zero,2))=(Rel.zero,2):=by
  cases l:oM (b.take (b.length-4))with
  |none=>rfl
  |some p=>
   dsimp only;rw[if_neg];rintro⟨_,e,f⟩;obtain⟨g,h,_⟩:=Db l;exact d ⟨_,⟨e,⟨g,trivial⟩,h⟩,f.symm⟩
 rw[j];cases k:oL (b.take (b.length-4))with
 |none=>rfl
 |some r=>
  dsimp only;rw[if_neg];rintro⟨e,f⟩;obtain⟨g,h,_⟩:=s0 (by rw[Rb];omega) k;exact d ⟨_,⟨e,⟨g,trivial⟩,h⟩,f.symm⟩
def Ot.rq(t:Ot):Rq:=match t.o with
 |some q=>qR q
 |none=>⟨false,[],[]⟩
def Ot.rt(t:Ot):Rt:=⟨t.vals,t.rq⟩
def Fb(t:Ot):t.rt.tree=t.tree:=by
 obtain⟨vs,o⟩:=t;cases o<;>rfl
def LQ(t:Ot):t.rt.tp=t.tp:=by
 obtain⟨vs,o⟩:=t;cases o with
 |none=>show(⟨vs,eK false 0 0⟩:Tp)=⟨vs,0⟩;rw[kQ]
 |some q=>show(⟨vs,(qR q).q⟩:Tp)=⟨vs,q⟩;rw[Hy]
def LS{m:Nat}{t:Ot}(h:OtOk m t):t.rt.p.Ok 262144:=by
 obtain⟨vs,o⟩:=t;cases o with
 |none=>exact⟨(λd a=>nomatch a),(λd a=>nomatch a),Rg _,Rg _⟩
 |some q=>exact wj (h.fit.mono I)
def RDecInv(w:World)(b0:List UInt8)(l a:Value)(wr:World):Prop:=
 ∃(k:Nat) (acc:List V),a=.int .i64 k/\k<=b0.length/\OwnV wr w.heap.size l acc/\acc.length<=k/\ir b0=(ir (b0.drop k)).map (acc++ ·)/\Below w.heap.size w wr
def sd{w w':World}{b:List UInt8}{e:Value}{a:List V}{k m:Nat}{v:V}{x:Int}(n:k<b.length)(d:i6 (b.drop k)=some (v,m))(j:v.ok=true)(l:x=((k+m:Nat):Int))(c:OwnV w' w.heap.size e (a++[v]))(h:a.length<=k)
  (g:ir b=(ir (b.drop k)).map (a++ ·)) (f:Below w.heap.size w w'):RDecInv w b e (.int .i64 x) w':=by
 have i:=rD d;rw[Rm]at i;subst l;refine⟨k+m,a++[v],Z,O,c,by simp;omega,?_,f⟩;rw[g,pg (zh (by rw[Rm];omega)),d];dsimp only;rw[if_pos j,Vm];cases ir (b.drop (k+m))<;>simp
def LT(b0:List UInt8)(w:World)(e:Ending)(w':World):Prop:=
 (∀l,ir b0=some l->∃v,e=.returned (.tuple #[v,.bool true])/\OwnV w' w.heap.size v l)/\(ir b0=none->e=.returned (.tuple #[.slice none 0 0,.bool false]))/\Below w.heap.size w w'
def LU{l:List UInt8}{k:Nat}(h:k<l.length):(l.drop k)[0]'(by rw[Rm];omega)=l[k]:=F
def Dd(A:Option Addr)(c:Nat)(d:List UInt8)(w:World)(h:At w w.heap.size A (bZ d))(i2:d.length<=c)(i3:c<=9223372036854775807)(hl:d.length<=1073741824):
  Calls prog 71 #[.slice A d.length c] w (LT d w):=by
 have f0:=J h;clear h
 go_enter func71,ntmps71
 go_wp2
 go_loopw [4,5] (λl a wr=>RDecInv w d l a wr) (λ_ a _=>d.length-(intOf a).toNat)
 case atStart=>exact⟨0,[],Z,O,OwnV.nil _ _,F,by rw[Su];cases ir d<;>simp,Below.refl _ _⟩
 case round=>
  obtain⟨k,U,rfl,hk,a3,e7,e5,W⟩:=hrel;have a4:=J (f0.out.below W);have HO:=J a3;have T:=J e5;have HB:=J W;have v:=W.size;clear a3 e5 W;by_cases P:k<d.length
  ·obtain⟨b,off,rfl,i1,C⟩:=a4.out.byte P;have HC:=J C;have c0:=C k P;clear C;have L:0<(d.drop k).length:=by rw[Rm];omega
   have H0:=J L;have c5:((d.drop k)[0]'L).toNat=d[k].toNat:=by rw[LU P]
   obtain⟨x,hx⟩:∃x,d[k].toNat=x:=⟨_,Z⟩;rw[hx]at c0 c5;have HX:=J c5;clear hx c5;by_cases M:x=1
   ·subst M;by_cases h9:k+9<=d.length
    ·have E:=J (LN L HX.out (by rw[Rm];omega));obtain⟨S,c4⟩:∃S:World,S=wr:=⟨_,Z⟩;subst c4
     go_wp2
     go_loop [6,7] (λn i=>∃j:Nat,j<=8/\i=.int .i64 ((j:Int)+1)/\n=.int .u64 (cI ((((d.drop k).drop 1).take 8).take j):Int)) (λ_ i=>9-(intOf i).toNat)
     case atStart=>exact⟨0,O,Z,by simp[cI]⟩
     case round=>
      obtain⟨j,hj,rfl,rfl⟩:=hrel;by_cases h4:j<8
      ·have HS:=J (E6 (d.drop k) j h4 (by rw[Rm];omega));have e9:=xe (l:=(((d.drop k).drop 1).take 8).take j) (k:=j) (by simp;omega) O;have Y:k+(j+1)<d.length:=O
       have X:=HC.out (k+(j+1)) Y;have G:=J (show((d.drop k)[1+j]'(by rw[Rm];omega)).toNat=d[k+(j+1)].toNat by simp[SN 1 j]);rw[G.out]at HS;have e4:d[k+(j+1)].toNat<256:=UInt8.toNat_lt _;generalize d[k+(j+1)].toNat=y at HS X e4 G;generalize cI ((((d.drop k).drop 1).take 8).take j)=N at HS e9⊢;have f7:=J (Nv N y e9 e4)
       go_wp2
       go_round
       case rel=>exact⟨j+1,O,by go_num,by rw[f7.out,HS.out]⟩
       case measure=>simp[intOf];omega
      obtain rfl:j=8:=O
      have HM:=J (show cI ((((d.drop k).drop 1).take 8).take 8)=cI (((d.drop k).drop 1).take 8) by rw[Vk];rfl);have Q:cI (((d.drop k).drop 1).take 8)<18446744073709551616:=by
       have M:=iq (((d.drop k).drop 1).take 8);have h2:(((d.drop k).drop 1).take 8).length=8:=by simp;omega
       rw[h2]at M;have h3:(256^8:Nat)=18446744073709551616:=I
       omega
      have d4:=J (zf _ Q);rw[HM.out];generalize cI (((d.drop k).drop 1).take 8)=N at d4 E;clear Q HM
      go_wp2_with fail
      rw[d4.out];refine(Wa _ _).mono ?_;rintro e w1 ⟨rfl,f⟩;have b2:=J (OwnV.below HO.out f);have p:=J (aL HB.out f v);have s:w.heap.size<=w1.heap.size:=Q7 v f.size;have c2:U.length<=1073741824:=O
      clear f
      go_wp2_with (at_builtin;refine Fh w.heap.size u4 U ⟨1,(N:Int)-9223372036854775808,⟨#[]⟩⟩ (.tmp 39) (.tmp 44) Z Z Z Z b2.out c2 s ?_;intro v8 w8 o r;have b3:=J o;have b4:=J r;clear o r)
      go_roundw
      case rel=>exact sd P E.out (by rfl) O b3.out e7 T.out (p.out.trans b4.out.below)
      case measure=>simp[intOf];omega
    have E:=J (C6 L HX.out (by rw[Rm];omega))
    go_wp2
    go_ret2
    have V:=oK L T.out (.inl E.out);exact⟨λl g=>by rw[V]at g;(cases g),λ_=>rfl,HB.out⟩
   by_cases h2:x=2
   ·subst h2;clear M;have b1:=J (LO L HX.out);have a2:=Gd ((d.drop k).drop 1);have c1:((d.drop k).drop 1).length+(k+1)=d.length:=by simp;omega
    obtain⟨t,ht⟩:∃t,(d.drop k).drop 1=t:=⟨_,Z⟩;rw[ht]at b1 a2 c1;obtain⟨z,hz⟩:∃z,jI t=z:=⟨_,Z⟩;have f8:=J (show∀(i:Nat) (hi:i<t.length) (g3:k+1+i<d.length),t[i]=d[k+1+i] by
     intro i hi g3;subst ht;simp)
    have HZ:=J hz;have HT:=J ht;rw[hz]at a2;have h8:z<=t.length:=a2;have c9:=J c1;clear a2 hz ht c1;obtain⟨S,c4⟩:∃S:World,S=wr:=⟨_,Z⟩;subst c4
    go_wp2
    go_loop [8] (λi=>∃j:Nat,j<=z/\i=.int .i64 ((k:Int)+1+j)) (λi=>d.length-(intOf i).toNat)
    case atStart=>exact⟨0,O,F⟩
    case round=>
     obtain⟨j,hj,rfl⟩:=hrel;have i5:k+1+t.length<=d.length:=by have:=c9.out;omega
     by_cases a0:j<t.length
     ·have Y:k+1+j<d.length:=O
      have X:=HC.out (k+1+j) Y;have G:=J (show t[j].toNat=d[k+1+j].toNat by rw[f8.out j a0 Y]);generalize d[k+1+j].toNat=y at X G;by_cases hy:y=0
      ·subst hy;have f9:=J (show z=j by have:=xf t j a0 G.out;rw[HZ.out]at this;omega);have i0:k+1<c:=O
       obtain⟨H,u⟩:∃H,(d.drop (k+1)).take j=H:=⟨_,Z⟩;have R:H.length=j:=by rw[<-u,Rb,Rm];omega
       have m:=tV (c-(k+1)) (a4.out.subB (k+1) j);rw[u,R]at m;have m:(convert 22 9 (.slice (some ⟨b,off+(k+1),none⟩) ((min ((k:Int)+1+(j:Int)) (d.length:Int)).toNat-(k+1)) (c-(k+1)))).run prog S=.ok (.string ⟨H.toArray⟩) S:=by
        rw[show(min ((k:Int)+1+(j:Int)) (d.length:Int)).toNat-(k+1)=j by omega];exact m
       have e1:=J u;clear u R
       go_wp2_with fail
       refine(nf _ _).mono ?_;rintro e w1 ⟨rfl,f⟩;have b2:=J (OwnV.below HO.out f);have p:=J (aL HB.out f v);have s:w.heap.size<=w1.heap.size:=Q7 v f.size;have c3:(⟨H.toArray⟩:ByteArray).size<=9223372036854775807:=by
        have:(⟨H.toArray⟩:ByteArray).size=j:=by rw[<-e1.out];simp[ByteArray.size];omega
        omega
       have E:Hid (i6 (d.drop k)=some (⟨2,0,⟨H.toArray⟩⟩,j+2)):=by
        have M:=b1.out;rw[HZ.out,f9.out,if_pos a0,<-HT.out,Vm,e1.out]at M;exact M
       generalize (⟨H.toArray⟩:ByteArray)=sB at c3 E⊢;clear f m X c0;obtain⟨W6,e3,b5,e6,h6⟩:=Dt w1 77 #[.int .i64 2,.int .i64 0,.string sB];have e2:=J e3;have e0:=J e6;have a5:=J b5;have e8:=b5.size;clear e3 e6 b5 h6;cases a1:bY 2 0 sB
       ·have K:=J a1;clear a1
        go_wp2_with fail
        rw[e2.out];refine(tx K.out _ c3).mono ?_;rintro e w7 ⟨rfl,q⟩;have a9:=J (p.out.trans ((a5.out.trans (q.mono e8)).mono s));clear q
        go_wp2
        go_ret2
        have V:=oK L T.out (.inr ⟨_,_,E.out,K.out⟩);exact⟨λl g=>by rw[V]at g;(cases g),λ_=>rfl,a9.out⟩
       have K:=J a1;clear a1
       go_wp2_with fail
       rw[e2.out];refine(tx K.out _ c3).mono ?_;rintro e w7 ⟨rfl,q⟩;have a9:=J (p.out.trans ((a5.out.trans (q.mono e8)).mono s));have f4:=J (OwnV.below (OwnV.below b2.out a5.out) q);obtain⟨d1,d2,d3,f1,f2,f3⟩:=(e0.out.below q e0.out.lt).three;have h5:w.heap.size<=w7.heap.size:=by have:=q.size;omega
       have c2:U.length<=1073741824:=O
       clear q
       go_wp2_with (at_builtin;refine Fh w.heap.size u4 U ⟨2,0,sB⟩ (.tmp 84) (.tmp 86) Z Z Z Z f4.out c2 h5 ?_;intro v8 w8 o r;have b3:=J o;have b4:=J r;clear d1 d2 d3 f1 f2 f3 o r)
       go_roundw
       case rel=>exact sd P E.out K.out O b3.out e7 T.out (a9.out.trans b4.out.below)
       case measure=>simp[intOf];omega
      have HK:=J (show j+1<=z by have:=sY t j a0 (by rw[HZ.out];omega) (by rw[G.out];exact hy);rw[HZ.out]at this;omega);have i9:((y:Int)==0)=false:=by simpa using hy
      have h7:((y:Int) !=0)=true:=by simpa using hy
      go_wp2
      go_round
      case rel=>exact⟨j+1,HK.out,by go_num⟩
      case measure=>simp[intOf];omega
     have E:Hid (i6 (d.drop k)=none):=by
      have M:=b1.out;rwa[HZ.out,if_neg O]at M
     have D:k+1+j=d.length:=by have:=c9.out;omega
     have i4:¬((k:Int)+1+(j:Int)<(d.length:Int)):=O
     by_cases g0:k+1=c
     ·subst g0;have g4:j=0:=O
      subst g4;have d0:=J D;have m:(convert 22 9 (.slice (some ⟨b,off,none⟩) ((min ((k:Int)+1) (d.length:Int)).toNat-(k+1)) 0)).run prog S=.ok (.string ⟨#[]⟩) S:=by
       rw[show(min ((k:Int)+1) (d.length:Int)).toNat-(k+1)=([]:List UInt8).length by simp;omega];exact tV (B:=0) 0 (At.nil _ _ _)
      clear D
      go_wp2_with fail
      refine(nf _ _).mono ?_;rintro e w1 ⟨rfl,f⟩;have p:=J (aL HB.out f v);have s:w.heap.size<=w1.heap.size:=Q7 v f.size;clear f m c0
      go_wp2
      go_ret2
      have V:=oK L T.out (.inl E.out);exact⟨λl g=>by rw[V]at g;(cases g),λ_=>rfl,p.out.alloc s _⟩
     obtain⟨H,u⟩:∃H,(d.drop (k+1)).take j=H:=⟨_,Z⟩;have R:H.length=j:=by rw[<-u,Rb,Rm];omega
     have m:=tV (c-(k+1)) (a4.out.subB (k+1) j);rw[u,R]at m;have m:(convert 22 9 (.slice (some ⟨b,off+(k+1),none⟩) ((min ((k:Int)+1+(j:Int)) (d.length:Int)).toNat-(k+1)) (c-(k+1)))).run prog S=.ok (.string ⟨H.toArray⟩) S:=by
      rw[show(min ((k:Int)+1+(j:Int)) (d.length:Int)).toNat-(k+1)=j by omega];exact m
     have d0:=J D;clear u R D
     go_wp2_with fail
     refine(nf _ _).mono ?_;rintro e w1 ⟨rfl,f⟩;have p:=J (aL HB.out f v);have s:w.heap.size<=w1.heap.size:=Q7 v f.size;clear f m c0
     go_wp2
     go_ret2
     have V:=oK L T.out (.inl E.out);exact⟨λl g=>by rw[V]at g;(cases g),λ_=>rfl,p.out.alloc s _⟩
   have E:=J (E7 L (by rw[HX.out];exact M) (by rw[HX.out];exact h2));have g1:((x:Int)==1)=false:=by simpa using(show(x:Int)≠1 by omega)
   have g2:((x:Int)==2)=false:=by simpa using(show(x:Int)≠2 by omega)
   clear M h2
   go_wp2
   go_ret2
   have V:=oK L T.out (.inl E.out);exact⟨λl g=>by rw[V]at g;(cases g),λ_=>rfl,HB.out⟩
  have HR:Hid (d.drop k=[]):=Rc O
  go_wp2
  go_ret2
  refine⟨λl g=>⟨_,Z,?_⟩,λhn=>?_,HB.out⟩
  ·have:=T.out;rw[HR.out,rE,g]at this;simp at this;rw[this];exact HO.out
  have:=T.out;rw[HR.out,rE,hn]at this;simp at this
