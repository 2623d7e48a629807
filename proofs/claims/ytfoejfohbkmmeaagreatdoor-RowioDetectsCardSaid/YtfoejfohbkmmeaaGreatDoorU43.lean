import Derived.Test.YtfoejfohbkmmeaaGreatDoorU42
import Derived.Test.YtfoejfohbkmmeaaGreatDoorU08
import Derived.Test.YtfoejfohbkmmeaaGreatDoorU00
import Derived.Test.YtfoejfohbkmmeaaGreatDoorU11
import Derived.Test.YtfoejfohbkmmeaaGreatDoorU41
set_option maxRecDepth 100000
set_option maxHeartbeats 4000000
namespace Go.Proofs.YtfoejfohbkmmeaaGreatDoor
open Go.RowKit
open Lib renaming hid→J
def b7:Nat->List V->List UInt8
 |_,[]=>[]
 |i,v::vs=>(if 0<i then [44]else [])++(v.fmt++b7 (i+1) vs)
def pg(cert:Bool)(t:Tp):List UInt8:=b7 0 t.vals++((if cert then []else 58::(gF t.prob).data.toList)++[10])
def Gg(r:Rel):List UInt8:=r.tups.flatMap (pg r.sch.cert)
def j1(r:Rel):List UInt8:=if bm r=0 then Gg r else []
theorem yD{vs:List V}{j:Nat}{v:V}(h:vs[j]? =some v):b7 j (vs.drop j)=(if 0<j then [44]else [])++(v.fmt++b7 (j+1) (vs.drop (j+1))):=by
 obtain⟨a,rfl⟩:=L7.1 h;rw[Md a,b7]
theorem AQ{cert:Bool}{ts:List Tp}{i:Nat}{t:Tp}(h:ts[i]? =some t):(ts.drop i).flatMap (pg cert)=pg cert t++(ts.drop (i+1)).flatMap (pg cert):=by
 obtain⟨a,rfl⟩:=L7.1 h;rw[Md a,OD]
theorem fq(a b:List UInt8):bg (a++b)=bg a++bg b:=by simp[bg]
theorem LV{a b:List UInt8}(h:a=b):(Tree.sl (bg a))=.sl (bg b):=by rw[h]
theorem yE(v:V)(h:v.rng):v.fmt.length<=130:=by
 unfold V.fmt;cases a:be v.t v.n v.s with
 |true=>exact(Ck a h.1 h.2).2
 |false=>unfold cB;rw[a];simp
structure TxT (t:Tp):Prop where
 rng:∀v∈t.vals,v.rng
 num:(qM t.prob.num.natAbs).size<=8192
 den:(qM t.prob.den).size<=8192
theorem mq{t:Tp}(h:TxT t):(gF t.prob).size<=16400:=by
 have c:=h.num;have b:=h.den;have a:(yq t.prob).size<=8193:=by
  unfold yq;split
  ·rw[NM];show 1+_<=_;omega
  omega
 unfold gF;split
 ·omega
 rw[NM,NM];show _+(1+_)<=_;omega
theorem qB{r:Rel}(h:bm r=0):∀t∈r.tups,t.vals.length<=6:=fun t b=>by
 have a:=ek (fN (ml h) t b);have:=jk a.2.2.1;omega
theorem tn:(Tryz.prog.info? 5).bind (·.zero)=some (.int .u8 0):=by kernel_rfl
theorem tq(r:Rel)(J:FitR r)(G:∀t∈r.tups,TxT t):Ct 16 [r.tree] (.sl (bg (j1 r))):=by
 refine Ct.of (n:=53) Tryz.func16 Z Z Z Z Z fun w0 G0=>?_
 refine ab<|ae<|aa 1 Z<|af (t:=.sl []) Z Z Z (cW (.inr Z) dI)<|ag<|ab<|ab<|ae<|aa 1 Z<|af Z Z Z (ar Z (qq r J) Z Z)<|af (t:=bT ((bm r) !=0)) Z Z Z (ai Z Z Z Zy)<|ag<|aH Z (fun q=>?_) (fun q=>?_)
 ·have c:¬bm r=0:=by simpa using q
  refine ab<|ae<|af (t:=.sl []) Z Z Z (cW (.inr Z) dI)<|ag<|aC<|⟨.inr Z,_,.cons Z .nil,LV (a:=[]) (by unfold j1;rw[if_neg c]),Z⟩
 have c:bm r=0:=by simpa using q
 have H:=nN c;refine ax<|ab<|ae<|g7 (k:=0) (e:=5) (sz:=1) (rs':=[some ⟨5,1,bg [],false⟩]) (.inr Z) Z Z Z Z Z<|ag<|ab<|ab<|ae<|aa 2 Z<|af (t:=nI r.tups.length) Z Z Z (ah (bd Z aK Z) (by simp only[L8]))<|aa 1 Z<|ag<|aE<|aW (fun C E=>∃(i:Nat) (g:List UInt8),(i<=r.tups.length/\g.length<=i*20000/\g++(r.tups.drop i).flatMap (pg r.sch.cert)=Gg r)/\C=r.tups.length-i/\E=⟨53,[(1,.box 0 0),(3,.own 0),(12,.sl (r.tups.map Tp.tree)),(13,nI r.tups.length),(14,nI i)],[(30,(aT r))],[some ⟨5,1,bg g,false⟩]⟩) 1 1 ⟨0,[],⟨by omega,by simp,Z⟩,Z,Z⟩ ⟨Z,Z,Z,.cons Z Z (.cons Z Z (.cons Z Z (.cons Z Z (.cons Z Z .nil)))),Z⟩ ?_;rintro C E ⟨i,g,⟨N,I,h⟩,rfl,rfl⟩;refine ab<|ae<|af (t:=bT (decide (i<r.tups.length))) Z Z Z (ah (ai Z Z Z Zy) (av (iu i r.tups.length)))<|ag<|ab<|aF Z (fun D=>?_) (fun D=>?_)
 ·obtain⟨t,y⟩:∃t,r.tups[i]? =some t:=⟨_,L4 D⟩;have u:=L9 y;have m:=G t u;have L:=qB c t u;rw[AQ y]at h;refine ax<|ab<|aE<|ab<|ae<|af (t:=.ref (bS t)) Z Z Z (aQ (Tp.tree t) Z aK Z Z Z (bf (f:=Tp.tree) y) (bQ _) Z)<|aa 3 Z<|ag<|ab<|ab<|ae<|aa 2 Z<|af (t:=nI t.vals.length) Z Z Z (ah (bd Z bz Z) (by simp only[L8]))<|aa 1 Z<|ag<|aE<|aW (fun C E=>∃(j:Nat) (d:List UInt8),(j<=t.vals.length/\d.length<=g.length+j*131/\d++b7 j (t.vals.drop j)=g++b7 0 t.vals)/\C=t.vals.length-j/\E=⟨53,[(1,.box 0 0),(3,.own 0),(5,.box 1 0),(12,.sl (r.tups.map Tp.tree)),(13,nI r.tups.length),(14,nI i),(19,.sl (t.vals.map V.tree)),(20,nI t.vals.length),(21,nI j)],[(30,(aT r)),(67,(bS t))],[some ⟨5,1,bg d,false⟩]⟩) 2 1 ⟨0,g,⟨by omega,by simp,Z⟩,Z,Z⟩ ⟨Z,Z,Z,.cons Z Z (.cons Z Z (.cons Z Z (.cons Z Z (.cons Z Z (.cons Z Z (.cons Z Z (.cons Z Z (.cons Z Z .nil)))))))),Z⟩ ?_;rintro C E ⟨j,d,⟨M,K,b⟩,rfl,rfl⟩;refine ab<|ae<|af (t:=bT (decide (j<t.vals.length))) Z Z Z (ah (ai Z Z Z Zy) (av (iu j t.vals.length)))<|ag<|ab<|aF Z (fun B=>?_) (fun B=>?_)
  ·obtain⟨v,w⟩:∃v,t.vals[j]? =some v:=⟨_,L4 B⟩;have z:=m.rng v (L9 w);have F:=yE v z;rw[yD w]at b;refine ax<|ab<|aE<|ab<|ae<|aa 1 Z<|af (t:=.ref [iT v.t,iT v.n,sT v.s]) Z Z Z (aQ (V.tree v) Z bz Z Z Z (bf (f:=V.tree) w) (iZ _) Z)<|aa 4 Z<|ag<|ab<|ab<|ae<|aa 1 Z<|af (t:=bT (decide (0<j))) Z Z Z (ah (ai Z Z Z Zy) (av (tE j 0)))<|ag<|aF Z (fun x=>?_) (fun x=>?_)
   ·rw[if_pos x]at b;refine ae<|aa 1 rfl<|af (t:=.sl [.sc (.int .u8 44)]) rfl rfl rfl (a6 rfl df jm rfl (by decide) (by decide) rfl rfl rfl rfl rfl)<|cD (bs':=[(30,(aT r)),(67,(bS t)),(77,[iT v.t,iT v.n,sT v.s])]) (rs':=[some ⟨5,1,bg (d++[44]),false⟩]) rfl rfl rfl rfl eS rfl rfl rfl rfl (by intro e l;simp only[Mi,Nr,or_false]at l;subst l;rfl) (AllC.lit rfl) (AllC.lit rfl) (by simp only[a7,Mb,Mo];omega) rfl rfl rfl (by simp only[fq];rfl)<|aa 1 rfl<|ag<|ae<|aa 2 rfl<|af rfl rfl rfl (ar rfl (Cl v z) rfl rfl)<|j6 (bs':=[(30,(aT r)),(67,(bS t)),(77,[iT v.t,iT v.n,sT v.s])]) (rs':=[some ⟨5,1,bg ((d++[44])++v.fmt),false⟩]) rfl rfl rfl rfl eS tn a8 rfl rfl rfl rfl (by simp only[a7,Mc,Mb,Mo];first|omega|(show _+v.fmt.length<=_;omega)) rfl rfl (by simp only[fq];rfl)<|aa 1 rfl<|ag<|ae<|af (t:=nI (j+1)) rfl rfl rfl (ah (ai rfl rfl rfl Zy) (bu (by omega)))<|aa 1 rfl<|ag<|⟨_,_,?_,⟨j+1,((d++[44])++v.fmt),?_,rfl,rfl⟩,⟨rfl,rfl,rfl,.cons rfl rfl (.cons rfl rfl (.cons rfl rfl (.cons rfl rfl (.cons rfl rfl (.cons rfl rfl (.cons rfl rfl (.cons rfl rfl (.cons rfl rfl .nil)))))))),rfl⟩⟩
    ·omega
    refine⟨by omega,?_,?_⟩
    ·simp only[Mc,Mb,Mo];omega
    rw[<-b];simp
   rw[if_neg x,M6]at b;refine ax<|ae<|aa 2 Z<|af Z Z Z (ar Z (Cl v z) Z Z)<|j6 (bs':=[(30,(aT r)),(67,(bS t)),(77,[iT v.t,iT v.n,sT v.s])]) (rs':=[some ⟨5,1,bg (d++v.fmt),false⟩]) Z Z Z Z eS tn a8 Z Z Z Z (by simp only[a7];first|omega|(show _+v.fmt.length<=_;omega)) Z Z (by simp only[fq];rfl)<|aa 1 Z<|ag<|ae<|af (t:=nI (j+1)) Z Z Z (ah (ai Z Z Z Zy) (bu (by omega)))<|aa 1 Z<|ag<|⟨_,_,?_,⟨j+1,(d++v.fmt),?_,Z,Z⟩,⟨Z,Z,Z,.cons Z Z (.cons Z Z (.cons Z Z (.cons Z Z (.cons Z Z (.cons Z Z (.cons Z Z (.cons Z Z (.cons Z Z .nil)))))))),Z⟩⟩
   ·omega
   refine⟨by omega,?_,?_⟩
   ·simp only[Mc];omega
   rw[<-b];simp
  rw[Mg (by omega:t.vals.length<=j),show b7 j []=[]from by cases j<;>rfl,MA]at b;refine aZ<|ab<|ab<|ae<|aa 3 Z<|af (t:=bT (!r.sch.cert)) Z Z Z (ef Z Z Zy)<|ag<|aH Z (fun o=>?_) (fun o=>?_)
  ·have A:r.sch.cert=false:=by simpa using o
   refine ab<|ae<|aa 1 rfl<|af (t:=.sl [.sc (.int .u8 58)]) rfl rfl rfl (a6 rfl df jm rfl (by decide) (by decide) rfl rfl rfl rfl rfl)<|cD (bs':=[(30,(aT r)),(67,(bS t))]) (rs':=[some ⟨5,1,bg (d++[58]),false⟩]) rfl rfl rfl rfl eS rfl rfl rfl rfl (by intro e l;simp only[Mi,Nr,or_false]at l;subst l;rfl) (AllC.lit rfl) (AllC.lit rfl) (by simp only[a7,Mb,Mo];omega) rfl rfl rfl (by simp only[fq];rfl)<|aa 1 rfl<|ag<|ae<|aa 3 rfl<|af rfl rfl rfl (ar rfl (DB t.prob (J.tup t u).1.p (by have:=m.num;omega) (by have:=m.den;omega)) rfl rfl)<|j6 (bs':=[(30,(aT r)),(67,(bS t))]) (rs':=[some ⟨5,1,bg ((d++[58])++(gF t.prob).data.toList),false⟩]) rfl rfl rfl rfl eS tn a8 rfl rfl rfl rfl (by have:=mq m;have e:(gF t.prob).data.toList.length=(gF t.prob).size:=(by simp);simp only[a7,Mc,Mb,Mo];omega) rfl rfl (by simp only[fq];rfl)<|aa 1 rfl<|ag<|ae<|aa 1 rfl<|af (t:=.sl [.sc (.int .u8 10)]) rfl rfl rfl (a6 rfl df jm rfl (by decide) (by decide) rfl rfl rfl rfl rfl)<|cD (bs':=[(30,(aT r)),(67,(bS t))]) (rs':=[some ⟨5,1,bg (((d++[58])++(gF t.prob).data.toList)++[10]),false⟩]) rfl rfl rfl rfl eS rfl rfl rfl rfl (by intro e l;simp only[Mi,Nr,or_false]at l;subst l;rfl) (AllC.lit rfl) (AllC.lit rfl) (by have:=mq m;have e:(gF t.prob).data.toList.length=(gF t.prob).size:=(by simp);simp only[a7,Mc,Mb,Mo,e];omega) rfl rfl rfl (by simp only[fq];rfl)<|aa 1 rfl<|ag<|ae<|af (t:=nI (i+1)) rfl rfl rfl (ah (ai rfl rfl rfl Zy) (bu (by omega)))<|aa 1 rfl<|ag<|⟨_,_,?_,⟨i+1,(((d++[58])++(gF t.prob).data.toList)++[10]),?_,rfl,rfl⟩,⟨rfl,rfl,rfl,.cons rfl rfl (.cons rfl rfl (.cons rfl rfl (.cons rfl rfl (.cons rfl rfl .nil)))),rfl⟩⟩
   ·omega
   refine⟨by omega,?_,?_⟩
   ·have:=mq m;have e:(gF t.prob).data.toList.length=(gF t.prob).size:=by simp
    simp only[Mc,Mb,Mo,e];omega
   rw[<-h];unfold pg;rw[A,b];simp
  have A:r.sch.cert=true:=by simpa using o
  refine ax<|ae<|aa 1 rfl<|af (t:=.sl [.sc (.int .u8 10)]) rfl rfl rfl (a6 rfl df jm rfl (by decide) (by decide) rfl rfl rfl rfl rfl)<|cD (bs':=[(30,(aT r)),(67,(bS t))]) (rs':=[some ⟨5,1,bg (d++[10]),false⟩]) rfl rfl rfl rfl eS rfl rfl rfl rfl (by intro e l;simp only[Mi,Nr,or_false]at l;subst l;rfl) (AllC.lit rfl) (AllC.lit rfl) (by have:=mq m;have e:(gF t.prob).data.toList.length=(gF t.prob).size:=(by simp);simp only[a7,Mb,Mo];omega) rfl rfl rfl (by simp only[fq];rfl)<|aa 1 rfl<|ag<|ae<|af (t:=nI (i+1)) rfl rfl rfl (ah (ai rfl rfl rfl Zy) (bu (by omega)))<|aa 1 rfl<|ag<|⟨_,_,?_,⟨i+1,(d++[10]),?_,rfl,rfl⟩,⟨rfl,rfl,rfl,.cons rfl rfl (.cons rfl rfl (.cons rfl rfl (.cons rfl rfl (.cons rfl rfl .nil)))),rfl⟩⟩
  ·omega
  refine⟨by omega,?_,?_⟩
  ·have:=mq m;have e:(gF t.prob).data.toList.length=(gF t.prob).size:=by simp
   simp only[Mc,Mb,Mo];omega
  rw[<-h];unfold pg;rw[A,b];simp
 refine fD 0 (bs':=[(30,(aT r))]) (rs':=[none]) Z Z Z Z<|aZ<|ab<|aj 2 Z<|aC<|⟨.inr Z,_,.cons Z .nil,LV (by unfold j1;rw[if_pos c,<-h,Mg (by omega)];simp),Z⟩
def gi(x:Int):Tree:=.sc (.int .i64 x)
theorem nS(l:List Int):Sized 1 (l.map gi):=Sized.map _ l fun _=>rfl
theorem DJ(l:List Rel):Sized 4 (l.map Rel.tree):=Sized.map _ l fun _=>rfl
theorem pU(l:List Sch):Sized 3 (l.map Sch.tree):=Sized.map _ l fun _=>rfl
def tr:List Int:=[1,1,2,1,1,0,3,1]
def qN:List Int:=[2,3,3,4,1,1,5,7]
def gW:List Rat:=[cF false 1 2,cF false 1 3,cF false 2 3,cF false 1 4,cF false 1 1,cF false 0 1,cF false 3 5,cF false 1 7]
def bM(n:Nat):Rat:=cF ((decide (tr.getD (n%8) 0<0)) !=(decide (qN.getD (n%8) 0<0))) (tr.getD (n%8) 0).natAbs (qN.getD (n%8) 0).natAbs
theorem JD(n:Nat):n%8=0\/n%8=1\/n%8=2\/n%8=3\/n%8=4\/n%8=5\/n%8=6\/n%8=7:=by omega
theorem uU(n:Nat):bM n∈gW:=by
 unfold bM gW;rcases JD n with h|h|h|h|h|h|h|h<;>rw[h]<;>simp[tr,qN]
theorem wx(n:Nat):tr[n%8]? =some (tr.getD (n%8) 0)/\ -9223372036854775808<=tr.getD (n%8) 0/\tr.getD (n%8) 0<=9223372036854775807:=by
 rcases JD n with h|h|h|h|h|h|h|h<;>rw[h]<;>simp[tr]
theorem rj(n:Nat):qN[n%8]? =some (qN.getD (n%8) 0)/\ -9223372036854775808<=qN.getD (n%8) 0/\qN.getD (n%8) 0<=9223372036854775807/\qN.getD (n%8) 0≠0:=by
 rcases JD n with h|h|h|h|h|h|h|h<;>rw[h]<;>simp[qN]
def JE:Col:=⟨⟨#[97]⟩,1,false⟩
def KK:Col:=⟨⟨#[98]⟩,1,false⟩
def kO:List Sch:=[⟨⟨#[82]⟩,false,[JE,KK]⟩,⟨⟨#[83]⟩,false,[JE]⟩,⟨⟨#[75]⟩,false,[⟨⟨#[107]⟩,1,true⟩,⟨⟨#[118]⟩,1,false⟩]⟩,⟨⟨#[67]⟩,true,[JE,KK]⟩]
def gT:Sch:=⟨⟨#[78]⟩,false,[⟨⟨#[110,97,109,101]⟩,2,true⟩,⟨⟨#[110]⟩,1,false⟩]⟩
def bj:List ByteArray:=[⟨#[]⟩,⟨#[97]⟩,⟨#[105,116,39,115]⟩,⟨#[120,44,121,58,122]⟩,⟨#[32]⟩]
theorem kP(n:Nat):bj[n%5]? =some (bj.getD (n%5) ⟨#[]⟩)/\(bj.getD (n%5) ⟨#[]⟩).size<=5:=by
 have h:n%5=0\/n%5=1\/n%5=2\/n%5=3\/n%5=4:=by omega
 rcases h with h|h|h|h|h<;>rw[h]<;>exact⟨rfl,by decide⟩
structure Good (r:Rel):Prop where
 valid:bm r=0
 prob:∀t∈r.tups,t.prob∈gW
 str:FW r
 rng:∀t∈r.tups,∀v∈t.vals,v.rng
 len:r.tups.length<=3
 sch:r.sch∈kO\/r.sch=gT
theorem pV{q:Rat}(h:q∈gW):Fit 1 q/\0<=q/\q<=1/\(qM q.num.natAbs).size<=1/\(qM q.den).size<=1:=by
 unfold gW at h;simp only[Mi,N0,or_false]at h;rcases h with rfl|rfl|rfl|rfl|rfl|rfl|rfl|rfl<;>exact⟨⟨by decide+kernel,by decide+kernel⟩,by decide+kernel,by decide+kernel,by decide+kernel,by decide+kernel⟩
theorem lF{t:Tp}(h:t.prob∈gW):FitT t:=⟨(pV h).1.mono (by decide),(oS (a:=1) (b:=1) ⟨by decide,by decide⟩ (pV h).1).mono (by decide)⟩
theorem DK:(1:Rat)∈gW:=by
 have:(1:Rat)=cF false 1 1:=by decide+kernel
 rw[this];simp[gW]
theorem pW{s:Sch}(h:s∈kO\/s=gT):s.cols.length<=2/\fF s=true:=by
 unfold kO gT at h;simp only[Mi,N0,or_false]at h;rcases h with(rfl|rfl|rfl|rfl)|rfl<;>exact⟨by decide,by decide+kernel⟩
theorem Good.fit{r:Rel}(h:Good r):FitR r/\∀t∈r.tups,TxT t:=by
 have b:=qB h.valid;refine⟨⟨by have:=(pW h.sch).1;omega,by have:=h.len;omega,fun t a=>⟨lF (h.prob t a),by have:=b t a;omega⟩⟩,fun t a=>?_⟩;have c:=pV (h.prob t a);exact⟨h.rng t a,by omega,by omega⟩
def GoodK(s:Sch)(k:Nat)(r:Rel):Prop:=Good r/\r.sch=s/\r.tups.length<=k
theorem tu{s:Sch}(h:s∈kO\/s=gT):GoodK s 0 ⟨s,[]⟩:=by
 refine⟨{valid:=?_,prob:=fun t a=>(by cases a),str:=fun t a=>(by cases a),rng:=fun t a=>(by cases a),len:=Mx _,sch:=h},Z,Mx _⟩;unfold bm;rw[if_neg (by rw[(pW h).2];simp)];have:aP ⟨s,[]⟩=[]:=by unfold aP;split<;>rfl
 simp[this,bF,nC,kG]
theorem yF{s:Sch}{k:Nat}{r:Rel}{t:Tp}(h:GoodK s k r)(n:k<3)(a:bK r t=0)(g:t.prob∈gW)(j:AB t)(l:∀v∈t.vals,v.rng):GoodK s (k+1) (bD r t):=by
 obtain⟨c,e,m⟩:=h;have i:∀x∈(bD r t).tups,x∈r.tups\/x=t:=fun x b=>by
  unfold bD at b;simp only[My,Ml]at b;rcases b with(h|h)|h
  ·exact .inl (MC h)
  ·exact .inr h
  exact .inl (M2 h)
 have f:bm (bD r t)=0:=by
  unfold bK at a;split at a
  ·next h=>exact absurd a h
  split at a
  ·next h=>exact absurd a h
  split at a
  ·cases a
  exact a
 have d:(bD r t).tups.length<=k+1:=by
  unfold bD;simp only[Mc,Mf,MS,NL];omega
 refine⟨⟨f,fun x b=>?_,fun x b=>?_,fun x b=>?_,by omega,c.sch⟩,e,d⟩<;>rcases i x b with h|rfl
 ·exact c.prob x h
 ·exact g
 ·exact c.str x h
 ·exact j
 ·exact c.rng x h
 exact l
theorem GoodK.more{s:Sch}{k:Nat}{r:Rel}(h:GoodK s k r):GoodK s (k+1) r:=⟨h.1,h.2.1,by have:=h.2.2;omega⟩
theorem wy{r:Rel}{t:Tp}(h:bK r t=0):lL r t=.tup [(bD r t).tree,iT 0]:=by unfold lL;rw[if_pos h,h]
theorem tv{r:Rel}{t:Tp}(h:bK r t≠0):lL r t=.tup [qZ,iT (bK r t)]:=by unfold lL;rw[if_neg h]
theorem ph(n:Int):Ct 38 [iT n] (V.tree ⟨1,n,⟨#[]⟩⟩):=⟨⟨_,Tryz.func38,Z,Z⟩,fun G w vs _ _ a=>by
 obtain⟨u,rfl,b⟩:=cR a;cases b;refine(Aj n w).mono ?_;rintro e w' ⟨rfl,c⟩;exact⟨_,Z,.agg [.int .i64 1,.int .i64 n,.string ⟨#[]⟩] _ (.sc _ (.sc _ (.sc _ .nil))) .nil,c⟩⟩
theorem rk(s:ByteArray):Ct 37 [sT s] (V.tree ⟨2,0,s⟩):=⟨⟨_,Tryz.func37,Z,Z⟩,fun G w vs _ _ a=>by
 obtain⟨u,rfl,b⟩:=cR a;cases b;refine(Ak s w).mono ?_;rintro e w' ⟨rfl,c⟩;exact⟨_,Z,.agg [.int .i64 2,.int .i64 0,.string s] _ (.sc _ (.sc _ (.sc _ .nil))) .nil,c⟩⟩
theorem j2:gE Tryz.prog 128=some (2,1):=by kernel_rfl
theorem jG:gE Tryz.prog 52=some (26,3):=by kernel_rfl
theorem JW:iU Tryz.prog 2=true:=by kernel_rfl
theorem JF:(Tryz.prog.info? 26).map (·.size)=some 3:=by kernel_rfl
theorem JG:tJ Tryz.prog 26=some ([(0,1),(1,1),(2,1)],[.string (⟨#[]⟩),.bool false,.slice none 0 0]):=by kernel_rfl
theorem JH:tJ Tryz.prog 58=some ([(0,1),(1,1),(2,1)],[.string (⟨#[]⟩),.int .i64 0,.bool false]):=by kernel_rfl
theorem uV:gc Tryz.prog 2=some [.int .i64 0]:=by kernel_rfl
theorem AR:gc Tryz.prog 26=some [.string (⟨#[]⟩),.bool false,.slice none 0 0]:=by kernel_rfl
theorem Cn(l:List Int)(i:Nat)(g:l.length<=9223372036854775807)(h:i<65536):CtE 35 [.sl (l.map gi),nI i] (fun d=>∃n:Nat,n<4294967296/\d=nI n):=by
 refine CtE.of (n:=23) Tryz.func35 Z Z Z Z Z fun w0 G0=>?_
 refine ab<|aj 1 Z<|ab<|ab<|ae<|aa 1 Z<|af (t:=nI l.length) Z Z Z (ah (bd Z cz Z) (by simp only[L8]))<|af (t:=bT (decide (l.length=0))) Z Z Z (ah (ai Z Z Z Zy) (av (lY l.length 0)))<|ag<|aF Z (fun a=>?_) (fun a=>?_)
 ·refine ab<|ae<|aa 1 Z<|af (t:=nI ((((i:Nat):Int)%65536).toNat)) Z Z Z (ai Z Z Z (fun w=>tY ((i:Nat):Int) w))<|aa 1 Z<|ag<|aC<|⟨_,⟨_,by first|omega|(have:=Qw x (show(0:Int)<65536 by decide);omega),Z⟩,.inr Z,_,.cons Z .nil,Z,Z⟩
 have b:0<l.length:=by omega
 obtain⟨x,c⟩:∃x,l[i%l.length]? =some x:=⟨_,L4 (Ni _ b)⟩;have e:i/l.length<=i:=NY _ _;refine ax<|ab<|ci (fu:=14) [some 10,some 11,some 12,some 13,some 14,some 15,some 16,some 17,some 18,some 19,some 20,some 21,some 22,some 4] [.sl (l.map gi),nI i,.sl (l.map gi),nI l.length,nI (i%l.length),.ref [iT x],iT x,nI ((x%65536).toNat),nI i,.sl (l.map gi),nI l.length,nI (i/l.length),nI (((x%65536).toNat)+(i/l.length)),nI (((x%65536).toNat)+(i/l.length))] (by kernel_rfl) Z Z (by kernel_rfl) Z ?_ ?_
 ·refine Chain.op Z (aw Z Z)<|Chain.op Z (aw Z Z)<|Chain.op Z (aw Z Z)<|Chain.op Z (ah (bd Z cz Z) (by simp only[L8]))<|Chain.op Z (ai Z Z Z (fun w=>mF i l.length (by omega) w))<|Chain.op Z (aQ (gi x) Z cz Z Z Z (bf (f:=gi) c) (nS _) Z)<|Chain.op Z (bE Z Z fe Z)<|Chain.op Z (ai Z Z Z (fun w=>tY x w))<|Chain.op Z (aw Z Z)<|Chain.op Z (aw Z Z)<|Chain.op Z (ah (bd Z cz Z) (by simp only[L8]))<|Chain.op Z (ai Z Z Z (fun w=>Bs i l.length (by omega) (by omega) w))<|Chain.op Z (ah (ai Z Z Z Zy) (bu (by omega)))<|Chain.op Z (bW Z Z)<|Chain.nil
 refine aC<|⟨_,⟨_,by first|omega|(have:=Qw x (show(0:Int)<65536 by decide);omega),Z⟩,.inr Z,_,.cons Z .nil,Z,Z⟩
theorem pi(n:Nat):Ct 39 [nI n] (dp (bM n)):=by
 refine Ct.of (n:=24) Tryz.func39 Z Z Z Z Z fun w0 G0=>?_
 refine ab<|aj 1 Z<|ab<|ae<|af (t:=.sl (tr.map gi)) Z Z Z (ah (a6 Z j2 uV Z (by decide) (by decide) Z Z Z Z Z) (rfl))<|aa 1 Z<|af (t:=nI (n%8)) Z Z Z (ai Z Z Z (fun w=>wV n w))<|af (t:=.ref [iT (tr.getD (n%8) 0)]) Z Z Z (aQ (gi (tr.getD (n%8) 0)) Z j2 Z Z Z (bf (f:=gi) (wx n).1) (nS _) Z)<|aa 2 Z<|ag<|ab<|ae<|af (t:=.sl (qN.map gi)) Z Z Z (ah (a6 Z j2 uV Z (by decide) (by decide) Z Z Z Z Z) (rfl))<|aa 1 Z<|af (t:=nI (n%8)) Z Z Z (ai Z Z Z (fun w=>wV n w))<|af (t:=.ref [iT (qN.getD (n%8) 0)]) Z Z Z (aQ (gi (qN.getD (n%8) 0)) Z j2 Z Z Z (bf (f:=gi) (rj n).1) (nS _) Z)<|aa 2 Z<|ag<|ab<|ae<|aa 2 Z<|af Z Z Z (ar Z (H3 _ _ (wx n).2.1 (wx n).2.2 (rj n).2.1 (rj n).2.2.1 (rj n).2.2.2) Z Z)<|aa 6 Z<|ag<|ab<|aj 2 Z<|aC<|⟨.inr Z,_,.cons ⟨_,_,_,_,Z,Z,.inl ⟨_,aN,Z,Z⟩⟩ .nil,Z,Z⟩
theorem AS:Ct 24 [] (.sl (kO.map Sch.tree)):=by
 refine Ct.of (n:=21) Tryz.func24 Z Z Z Z Z fun w0 G0=>?_
 refine ab<|ae<|af (t:=.sl []) Z Z Z (cW (.inr Z) dI)<|ag<|ab<|aj 6 Z<|ab<|ae<|aa 2 Z<|af (t:=.sl [.agg [sT (⟨#[97]⟩),iT 1,bT false],.agg [sT (⟨#[98]⟩),iT 1,bT false]]) Z Z Z (a6 Z bi jy Z (by decide) (by decide) Z Z Z Z Z)<|aa 2 Z<|af (t:=.sl [.agg [sT (⟨#[97]⟩),iT 1,bT false]]) Z Z Z (a6 Z bi jy Z (by decide) (by decide) Z Z Z Z Z)<|aa 3 Z<|af (t:=.sl [.agg [sT (⟨#[107]⟩),iT 1,bT true],.agg [sT (⟨#[118]⟩),iT 1,bT false]]) Z Z Z (a6 Z bi jy Z (by decide) (by decide) Z Z Z Z Z)<|aa 3 Z<|af (t:=.sl [.agg [sT (⟨#[97]⟩),iT 1,bT false],.agg [sT (⟨#[98]⟩),iT 1,bT false]]) Z Z Z (a6 Z bi jy Z (by decide) (by decide) Z Z Z Z Z)<|aa 1 Z<|af (t:=.sl [.agg [sT (⟨#[82]⟩),bT false,.sl [.agg [sT (⟨#[97]⟩),iT 1,bT false],.agg [sT (⟨#[98]⟩),iT 1,bT false]]],.agg [sT (⟨#[83]⟩),bT false,.sl [.agg [sT (⟨#[97]⟩),iT 1,bT false]]],.agg [sT (⟨#[75]⟩),bT false,.sl [.agg [sT (⟨#[107]⟩),iT 1,bT true],.agg [sT (⟨#[118]⟩),iT 1,bT false]]],.agg [sT (⟨#[67]⟩),bT true,.sl [.agg [sT (⟨#[97]⟩),iT 1,bT false],.agg [sT (⟨#[98]⟩),iT 1,bT false]]]]) Z Z Z (a6 Z jG AR Z (by decide) (by decide) Z Z Z Z Z)<|aa 1 Z<|ag<|aC<|⟨.inr Z,_,.cons Z .nil,Z,Z⟩
theorem tw:Ct 25 [] (gT.tree):=by
 refine Ct.of (n:=5) Tryz.func25 Z Z Z Z Z fun w0 G0=>?_
 refine ab<|aj 1 Z<|ab<|ae<|aa 2 Z<|af (t:=.sl [.agg [sT (⟨#[110,97,109,101]⟩),iT 2,bT true],.agg [sT (⟨#[110]⟩),iT 1,bT false]]) Z Z Z (a6 Z bi jy Z (by decide) (by decide) Z Z Z Z Z)<|aa 2 Z<|ag<|aC<|⟨.inr Z,_,.cons ⟨_,_,_,_,Z,Z,.inl ⟨_,eR,Z,Z⟩⟩ .nil,Z,Z⟩
def bs(l:List UInt8):ByteArray:=⟨l.toArray⟩
theorem eX(l:List UInt8):(bs l).data.toList=l:=by simp[bs]
theorem Gh(s:ByteArray):bs s.data.toList=s:=iY s
theorem Iz{s t:ByteArray}(h:s.data.toList=t.data.toList):s=t:=by rw[<-Gh s,<-Gh t,h]
theorem rl(l:List UInt8):(bs l).size=l.length:=by rw[bN,eX]
theorem wz(a b:List UInt8):(bs (a++b)).extract 0 a.length=bs a:=Iz (by rw[kM,eX,eX];simp)
theorem mY(a b:List UInt8):(bs (a++b)).extract a.length (bs (a++b)).size=bs b:=Iz (by rw[kM,eX,eX,rl,Me (L5 _)];simp)
theorem tx{c:UInt8}:∀{l:List UInt8},c∉l->Lib.index l [c]= -1
 |[],_=>by simp[Lib.index]
 |b::l,h=>by
  have g:b≠c:=fun e=>h (by rw[e];simp)
  have f:=tx (c:=c) (l:=l) fun a=>h (MB _ a)
  have d:([c]:List UInt8).isPrefixOf (b::l)=false:=by simp[List.isPrefixOf,Ne.symm g]
  rw[Lib.index,d,f];simp
theorem yG{c:UInt8}{b:List UInt8}:∀{a:List UInt8},c∉a->Lib.index (a++c::b) [c]=(a.length:Int)
 |[],_=>by rw[M6,Lib.index];simp[List.isPrefixOf]
 |x::a,h=>by
  have i:x≠c:=fun e=>h (by rw[e];simp)
  have g:=yG (c:=c) (b:=b) (a:=a) fun d=>h (MB _ d)
  have f:([c]:List UInt8).isPrefixOf (x::(a++c::b))=false:=by simp[List.isPrefixOf,Ne.symm i]
  rw[Ng,Lib.index,f,g,if_neg (by simp),if_neg (by simp)];simp
theorem lG{a:List UInt8}(h:(10:UInt8)∉a):cL (bs a)=[bs a]:=by
 unfold cL;refine Lib.splitB_miss _ _ _ _ ?_;unfold Lib.indexB;rw[eX];exact tx h
theorem iN{a b:List UInt8}(h:(10:UInt8)∉a):cL (bs (a++10::b))=bs a::cL (bs b):=by
 have c:Lib.indexB (bs (a++10::b)) ⟨#[10]⟩=(a.length:Int):=by
  unfold Lib.indexB;rw[eX];exact yG h
 have d:(bs (a++10::b)).extract (a.length+(⟨#[10]⟩:ByteArray).size) (bs (a++10::b)).size=bs b:=by
  have:=mY (a++[10]) b;rw[MG,Mc]at this;exact this
 unfold cL;rw[Lib.countB_hit _ _ _ (by decide) c,d,NW 1,Lib.splitB_hit _ _ _ _ _ c,d,No,wz]
theorem wA:∀(k u:Nat),u<=k->∀c∈Lib.decDigits u,48<=c.toNat/\c.toNat<=57
 |0,u,h,c,a=>by
  rw[Lib.decDigits_one (by omega),Ml]at a;rw[a,fi _ (by omega)];omega
 |k+1,u,h,c,a=>by
  by_cases b:u<10
  ·rw[Lib.decDigits_one b,Ml]at a;rw[a,fi _ b];omega
  rw[Lib.decDigits,dif_neg b]at a;rcases My.1 a with a|a
  ·exact wA k (u/10) (by omega) c a
  rw[Ml]at a;rw[a,fi _ (by omega)];omega
def Gi(c:UInt8):Prop:=c.toNat=45\/(48<=c.toNat/\c.toNat<=57)
theorem yH(n:Int):∀c∈Lib.itoa n,Gi c:=fun c a=>by
 unfold Lib.itoa at a;split at a
 ·rcases Mi.1 a with rfl|a
  ·exact .inl Z
  exact .inr (wA _ _ (L5 _) c a)
 exact .inr (wA _ _ (L5 _) c a)
theorem pX{v:V}(a:v.ok=true):v.fmt=Lib.itoa v.n\/∃l:List UInt8,l.all pj=true/\v.fmt=39::(gG l++[39]):=by
 unfold V.ok at a;unfold V.fmt cB;rw[if_pos a];by_cases h:v.t=1
 ·rw[if_pos h];exact .inl Z
 rw[if_neg h];unfold be at a;rw[if_neg h]at a;simp only[Ma]at a;exact .inr ⟨_,a.2,by simp⟩
theorem Gj{P:UInt8->Prop}(b:P 39):∀{l:List UInt8},(∀c∈l,P c)->∀c∈gG l,P c
 |[],_,c,a=>by cases a
 |x::l,h,c,a=>by
  have d:=Gj b (l:=l) fun y e=>h y (MB _ e)
  rw[gG]at a;split at a
  ·rcases Mi.1 a with rfl|a
   ·exact b
   rcases Mi.1 a with rfl|a
   ·exact b
   exact d c a
  rcases Mi.1 a with rfl|a
  ·exact h c (Mr ..)
  exact d c a
theorem JI{v:V}(e:v.ok=true):∀c∈v.fmt,32<=c.toNat/\c.toNat<=126:=by
 rcases pX e with h|⟨l,b,h⟩
 ·rw[h];intro c a;have:=yH _ c a;unfold Gi at this;omega
 rw[h];intro c a;have d:=Gj (P:=fun c:UInt8=>32<=c.toNat/\c.toNat<=126) (by decide) (l:=l) fun c a=>of_decide_eq_true (Mh.1 b c a)
 simp only[Mi,My,N0,or_false]at a;rcases a with rfl|a|rfl
 ·decide
 ·exact d c a
 decide
theorem tz{a:List UInt8}(g:a.head?≠some 39):∀(l:List UInt8) (i:Nat),kN (gG l++39::a) i=i+(gG l).length+1
 |[],i=>by
  cases a with
  |nil=>rfl
  |cons d a=>
   have o:d≠39:=fun e=>g (by rw[e];rfl)
   have f:d.toNat≠39:=fun e=>o (O5.1 e)
   rw[gG,M6,kN,if_neg (by decide),if_pos f];rfl
 |c::l,i=>by
  by_cases b:c=39
  ·have j:=tz g l (i+2);rw[gG,if_pos b,Ng,Ng,kN,if_neg (by decide),if_neg (by decide),j];simp only[Mb];omega
  have j:=tz g l (i+1);have k:c.toNat≠39:=fun e=>b (O5.1 e)
  obtain⟨d,m,n⟩:∃d m,gG l++39::a=d::m:=by
   cases h:gG l with
   |nil=>exact⟨39,a,Z⟩
   |cons d m=>exact⟨d,m++39::a,Z⟩
  rw[gG,if_neg b,Ng,n,kN,if_pos k,<-n,j];simp only[Mb];omega
def Lm(rest:List UInt8):Prop:=rest=[]\/∃c r,rest=c::r/\(c=44\/c=58)
theorem Ig{c:UInt8}(h:Gi c):(c==44||c==58)=false/\c≠39:=by
 unfold Gi at h;refine⟨?_,fun e=>by subst e;revert h;decide⟩;rw[Mz,beq_eq_false_iff_ne,beq_eq_false_iff_ne];exact⟨fun e=>by subst e;revert h;decide,fun e=>by subst e;revert h;decide⟩
theorem uW{a:List UInt8}(e:Lm a):∀{l:List UInt8},(∀c∈l,Gi c)->lK (l++a)=if a=[]then-1 else(l.length:Int)
 |[],_=>by
  rw[M6];rcases e with rfl|⟨c,r,rfl,f⟩
  ·rfl
  rw[if_neg (by simp)];have b:(c==44||c==58)=true:=by rcases f with rfl|rfl<;>rfl
  unfold lK;rw[Pm,b,Nh,b];rfl
 |c::l,h=>by
  have d:=uW e (l:=l) fun x g=>h x (MB _ g)
  have b:=(Ig (h c (Mr ..))).1;unfold lK at d⊢;rw[Ng,Pm,b,Qm,Nh,b];simp only[Bool.not_false,if_true];split at d
  ·next h1=>
   rw[if_pos h1];split at d
   ·omega
   next h2=>rw[if_neg h2];simp only[Mb];omega
  next h1=>
  rw[if_neg h1];split at d
  ·next h2=>rw[if_pos h2]
  omega
theorem yI{v:V}(i:v.ok=true){a:List UInt8}(d:Lm a):jE (bs (v.fmt++a))=v.fmt.length:=by
 unfold jE nQ;rw[eX,rl];rcases pX i with h|⟨l,k,h⟩
 ·obtain⟨c,r,e,b⟩:=g8 v.n;have g:=yH v.n;rw[h];have f:Lib.hasPrefix (Lib.itoa v.n++a) [39]=false:=by
   rw[e];simp[Lib.hasPrefix,List.isPrefixOf,Ne.symm b]
  rw[f,if_neg (by simp),uW d g];rcases d with rfl|⟨c,r,rfl,b⟩
  ·simp
  simp
 rw[h];have f:Lib.hasPrefix (39::(gG l++[39])++a) [39]=true:=by simp[Lib.hasPrefix,List.isPrefixOf]
 have j:a.head?≠some 39:=by
  rcases d with rfl|⟨c,r,rfl,b⟩
  ·simp
  rcases b with rfl|rfl<;>simp
 rw[f,if_pos Z,Ng,Of,Nx,MG,Ps,tz j];simp only[Mb,Mc,Mo];omega
theorem tA{v:V}(f:v.ok=true)(a:v.rng):jD (bs v.fmt)=some v:=by
 have i:wt (bs v.fmt) v:=⟨f,a,eX _⟩;cases h:jD (bs v.fmt)with
 |none=>exact absurd i (qA h v)
 |some u=>
  obtain⟨j,g,d⟩:=qz h;rw[eX]at d;obtain⟨e,b,c⟩:=He j f g.1 g.2 a.1 a.2 d.symm;cases u;cases v;simp only at e b c;rw[e,b,c]
def SepE(rest:List UInt8):Prop:=rest=[]\/∃r,rest=58::r
theorem SepE.sep{a:List UInt8}(h:SepE a):Lm a:=by
 rcases h with h|⟨r,h⟩
 ·exact .inl h
 exact .inr ⟨58,r,h,.inr Z⟩
theorem KM{a:List UInt8}(h:SepE a):Lib.hasPrefix a [44]=false:=by
 rcases h with rfl|⟨r,rfl⟩<;>simp[Lib.hasPrefix,List.isPrefixOf]
def Gv(v:V):Prop:=v.ok=true/\v.rng
theorem pY{a:List UInt8}(g:SepE a):∀(vs:List V) (v:V) (n:Nat) (b:List V),vs.length<n->Gv v->(∀x∈vs,Gv x)->j0 n (bs (v.fmt++(b7 1 vs++a))) b=some (b++v::vs,bs a)
 |[],v,n+1,b,_,hv,_=>by
  rw[j0,b7,M6,yI hv.1 g.sep,wz,tA hv.1 hv.2,mY,eX,KM g];simp
 |u::vs,v,n+1,b,hn,hv,hvs=>by
  have d:∀(i:Nat),0<i->∀l,b7 i l=b7 1 l:=by
   intro i h l;induction l generalizing i with
   |nil=>rfl
   |cons x l c=>rw[b7,b7,if_pos h,if_pos (by omega),c (i+1) (by omega),c 2 (by omega)]
  have e:b7 1 (u::vs)++a=44::(u.fmt++(b7 1 vs++a)):=by
   rw[b7,if_pos (by omega),d 2 (by omega)];simp
  have c:=pY g vs u n (b++[v]) (by simpa using hn) (hvs u (Mr ..)) fun x j=>hvs x (MB _ j)
  have f:Lm (44::(u.fmt++(b7 1 vs++a))):=.inr ⟨44,_,Z,.inl Z⟩;have k:=mY [44] (u.fmt++(b7 1 vs++a));rw[j0,e,yI hv.1 f,wz,tA hv.1 hv.2,mY,eX];simp only;rw[if_pos (by simp[Lib.hasPrefix,List.isPrefixOf])];have m:(bs (44::(u.fmt++(b7 1 vs++a)))).extract 1 (bs (44::(u.fmt++(b7 1 vs++a)))).size=bs (u.fmt++(b7 1 vs++a)):=k;rw[m,c];simp
theorem mr{q:Rat}(h:q∈gW):gR (gF q)=(q,0)/\(gF q).data.toList.all (fun c=>decide (32<=c.toNat)&&decide (c.toNat<=126))=true/\(gF q).size<=8:=by
 unfold gW at h;simp only[Mi,N0,or_false]at h;rcases h with rfl|rfl|rfl|rfl|rfl|rfl|rfl|rfl<;>exact⟨by decide+kernel,by decide+kernel,by decide+kernel⟩
end Go.Proofs.YtfoejfohbkmmeaaGreatDoor
