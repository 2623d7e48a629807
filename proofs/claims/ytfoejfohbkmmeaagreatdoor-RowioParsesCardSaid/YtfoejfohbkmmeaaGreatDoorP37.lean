import Derived.Test.YtfoejfohbkmmeaaGreatDoorP36
import Derived.Lib.SplitLaws
import Derived.Test.YtfoejfohbkmmeaaGreatDoorP00
import Derived.Test.YtfoejfohbkmmeaaGreatDoorP06
import Derived.Test.YtfoejfohbkmmeaaGreatDoorP09
import Derived.Test.YtfoejfohbkmmeaaGreatDoorP34
set_option maxRecDepth 100000
set_option maxHeartbeats 4000000
namespace Go.Proofs.YtfoejfohbkmmeaaGreatDoor
open Go.RowKit
open Lib renaming hid→J
def Rel.zero:Rel:=⟨⟨⟨#[]⟩,false,[]⟩,[]⟩
def g5(x:LR):Tp:=⟨x.vs,dH x.b x.N x.D⟩
noncomputable def cG (cert:Bool):List ByteArray->Nat->Rel->Rel×Nat×Int
 |[],_,r=>(r,0,0)
 |l::ls,i,r=>if(l.toList==(⟨#[]⟩:ByteArray).toList)=true then cG cert ls (i+1) r
  else if(bW l cert).ok=false then(Rel.zero,i,2)
  else if c8 r (g5 (bW l cert))=0 then cG cert ls (i+1) (bU r (g5 (bW l cert)))
  else(Rel.zero,i,c8 r (g5 (bW l cert)))
noncomputable def eM (s:Sch) (b:List UInt8):Rel×Nat×Int:=if fv s=false then(Rel.zero,0,1)else if 16384<b.length then(Rel.zero,0,4)else cG s.cert (dq ⟨b.toArray⟩) 0 ⟨s,[]⟩
def Kh(x:Rel×Nat×Int):Tree:=.tup [x.1.tree,.sc (.int .i64 (x.2.1:Nat)),.sc (.int .i64 x.2.2)]
theorem nO{R:Rel}{i:Nat}{e:Int}{x:Rel×Nat×Int}(h:x=(R,i,e)):(Tree.tup [R.tree,iT (i:Nat),iT e])=Kh x:=by rw[h];rfl
theorem xa{cert:Bool}{L:List ByteArray}{i:Nat}{l:ByteArray}{r:Rel}(h:L[i]? =some l):cG cert (L.drop i) i r=if(l.toList==(⟨#[]⟩:ByteArray).toList)=true then cG cert (L.drop (i+1)) (i+1) r
  else if(bW l cert).ok=false then(Rel.zero,i,2)
  else if c8 r (g5 (bW l cert))=0 then cG cert (L.drop (i+1)) (i+1) (bU r (g5 (bW l cert)))
  else(Rel.zero,i,c8 r (g5 (bW l cert))):=by
 obtain⟨a,rfl⟩:=L6.1 h;rw[Mc a,cG]
theorem l4(sep:ByteArray)(a:Nat):∀(k:Nat) (s x:ByteArray),x∈Lib.splitB sep a k s->x.size<=s.size
 |0,s,x,h=>by
  rw[Lib.splitB,Mm]at h;rw[h];exact L4 _
 |k+1,s,x,h=>by
  unfold Lib.splitB at h;split at h
  ·rw[Mm]at h;rw[h];exact L4 _
  rcases Mi.1 h with rfl|h
  ·simp only[Mn];omega
  have:=l4 sep a k _ x h;simp only[Mn]at this;omega
theorem Bi(s:ByteArray):(dq s).length=Lib.countB s ⟨#[10]⟩+1/\Lib.countB s ⟨#[10]⟩<=s.size:=⟨Lib.splitB_all ⟨#[10]⟩ (by decide) 0 _ s Z,Lib.countB_le ⟨#[10]⟩ (by decide) _ s (L4 _)⟩
theorem ve:∀(n:Nat) (s:ByteArray) (a vs:List V) (r:ByteArray),iq n s a=some (vs,r)->vs.length<=a.length+s.size+1/\r.size<=s.size
 |0,_,_,_,_,h=>by rw[iq]at h;cases h
 |n+1,s,a,vs,r,h=>by
  rw[iq]at h;cases b:fP (s.extract 0 (jl s))with
  |none=>rw[b]at h;cases h
  |some v=>
   rw[b]at h;dsimp only at h;split at h
   ·next hx=>
    have e:=ou hx;have:=ve n _ _ _ _ h;simp only[Mn,Mb,NL]at this e;omega
   injection h with h
   injection h with c d
   rw[<-c,<-d];simp only[Mn,Mb,NL];omega
theorem Bj(s:ByteArray):Fit 4001 (cV s).1:=by
 have e:Fit 4001 (0:Rat):=⟨by decide,by decide⟩;unfold cV;split
 ·exact e
 next h4=>
 have l:(d7 s).size<=4000:=by unfold d7;split<;>first|omega|(simp only[Mn];omega)
 unfold fj;have f:=wP (d7 s).data.toList;rw[<-aL]at f;have a:((d7 s).extract 0 (j7 (d7 s).data.toList)).data.toList.all cc=true:=by rw[dF,M8];exact pH _
 generalize g:j7 (d7 s).data.toList=n at f a⊢;generalize i:(d7 s).extract (n+1) (d7 s).size=r;have k:r.size<=(d7 s).size-(n+1):=by rw[<-i];simp only[Mn];omega
 have j:((d7 s).extract 0 n).size<=n:=by simp only[Mn];omega
 split
 ·exact e
 next hz=>
 split
 ·next hfl=>exact nh (D:=1) (by decide) (eQ (lZ (by rw[<-aL,g];exact hfl)) (by rw[<-aL];omega)) (by decide)
 next hfl=>
 split
 ·exact e
 next b=>
 have b:ip (bD (d7 s) n) r=false:=by simpa using b
 have c:r.data.toList.all cc=true:=lZ (by have h:=b;unfold ip at h;rw[Mo]at h;rw[<-aL];simpa using h.2);have d:((d7 s).extract 0 n++r).data.toList.all cc=true:=by rw[OC,MZ,NH,a,c];rfl
 split
 ·exact nh (D:=10^r.size) (NF (by decide)) (eQ d (by rw[<-aL,No];omega)) (l0 (by omega))
 split
 ·exact e
 next hz=>exact nh (D:=cI r.data.toList) (by omega) (eQ a (by rw[<-aL];omega)) (eQ c (by rw[<-aL];omega))
theorem tz{l:ByteArray}{cert:Bool}(h:(bW l cert).ok=true):(bW l cert).b=decide ((g5 (bW l cert)).prob.num<0)/\(bW l cert).N=(g5 (bW l cert)).prob.num.natAbs/\(bW l cert).D=(g5 (bW l cert)).prob.den/\Fit 4001 (g5 (bW l cert)).prob:=by
 unfold g5;unfold bW at h⊢;have key:∀q:Rat,Fit 4001 q->decide (q.num<0)=decide ((dH (decide (q.num<0)) q.num.natAbs q.den).num<0)/\q.num.natAbs=(dH (decide (q.num<0)) q.num.natAbs q.den).num.natAbs/\q.den=(dH (decide (q.num<0)) q.num.natAbs q.den).den/\Fit 4001 (dH (decide (q.num<0)) q.num.natAbs q.den):=fun q a=>by
  rw[ei];exact⟨Z,Z,Z,a⟩
 split at h
 ·cases h
 split at h
 ·next h1=>simp only[if_pos h1];exact key 1 ⟨by decide,by decide⟩
 next h1=>
 split at h
 ·cases h
 next h2=>
 split at h
 ·next h3=>simp only[if_neg h1,if_neg h2,if_pos h3];exact key _ (Bj _)
 cases h
theorem tA{l:ByteArray}{cert:Bool}:(bW l cert).vs.length<=l.size+1:=by
 unfold bW;split
 ·simp
 next vs r h=>
 have a:=(ve _ _ _ _ _ h).1;simp only[Mg]at a;split
 ·dsimp only;omega
 split
 ·simp
 split<;>(dsimp only;omega)
theorem xb{q:Rat}{vs:List V}(h:Fit 4001 q):FitT ⟨vs,q⟩:=⟨h.mono (by decide),(pk (a:=1) ⟨by decide,by decide⟩ h).mono (by decide)⟩
theorem Ef{w0:World}{G0:Bse}{c:Code}{Q:Exit->St->Prop}{n:Nat}{sl:List (Nat×Tree)}{bs bs':List (TypeId×List Tree)}{rs:List (Option Row)}(h:bs=bs')(k:AWP w0 G0 c Q ⟨n,sl,bs',rs⟩):AWP w0 G0 c Q ⟨n,sl,bs,rs⟩:=h▸k
theorem ov{r:Rel}{t:Tp}(h:c8 r t=0):r.tups.length<=64:=by
 refine lX (r:=r) ?_;unfold c8 at h;split at h
 ·exact h
 next h1=>exact Nx.1 h1
theorem cD:gN Tryz.prog 59=some (9,1):=by kernel_rfl
theorem nq(s:Sch)(b:List UInt8):Ct 10 [s.tree,.sl (bm b)] (Kh (eM s b)):=by
 refine Ct.of (n:=65) Tryz.func10 Z Z Z Z Z fun w0 G0=>?_
 refine ab<|aj 4 Z<|ab<|ab<|ae<|aa 1 Z<|af Z Z Z (ak Z (j1 s) Z Z)<|af (t:=bT (!(fv s))) Z Z Z (dm Z Z Zy)<|ag<|aF Z (fun j=>?_) (fun j=>?_)
 ·refine ab<|aj 4 Z<|aw<|⟨.inr Z,_,.cons ⟨_,_,_,_,Z,Z,.inl ⟨_,bj,Z,Z⟩⟩ (.cons Z (.cons Z .nil)),nO (R:=Rel.zero) (i:=0) (e:=1) (x:=eM s b) (by unfold eM;rw[if_pos (by simpa using j)]),Z⟩
 have d:fv s=true:=by simpa using j
 have L:=gY d;refine am<|ab<|ab<|ae<|aa 1 Z<|af (t:=nI b.length) Z Z Z (ah (aZ Z cC Z) (by simp only[L5,a6]))<|af (t:=bT (decide (16384<b.length))) Z Z Z (ah (ai Z Z Z Zy) (ar (oF b.length 16384)))<|ag<|aD Z (fun u=>?_) (fun u=>?_)
 ·refine ab<|aj 4 Z<|aw<|⟨.inr Z,_,.cons ⟨_,_,_,_,Z,Z,.inl ⟨_,bj,Z,Z⟩⟩ (.cons Z (.cons Z .nil)),nO (R:=Rel.zero) (i:=0) (e:=4) (x:=eM s b) (by unfold eM;rw[if_neg (by rw[d];simp),if_pos u]),Z⟩
 refine am<|ab<|aj 4 Z<|ab<|ae<|aa 2 Z<|af Z Z Z (ak Z (uN _ (by omega)) Z Z)<|aa 3 Z<|ag<|ab<|ab ?_;obtain⟨c,o⟩:∃c:ByteArray,(⟨b.toArray⟩:ByteArray)=c:=⟨_,rfl⟩;have N:c.size=b.length:=by rw[<-o];simp[ByteArray.size]
 have C:=Bi c;have k:eM s b=cG s.cert (dq c) 0 ⟨s,[]⟩:=by unfold eM;rw[if_neg (by rw[d];simp),if_neg u,o]
 refine ae<|aa 1 Z<|af (t:=sT c) Z Z Z (ah (mY Z Z) (gd o))<|af Z Z Z (ak Z (GB c (by omega) C.1 (by omega)) Z Z)<|af (t:=nI ((dq c).length)) Z Z Z (ah (aZ Z cD Z) (by simp only[L5]))<|aa 1 Z<|ag<|aB<|aR (fun G J=>∃(i:Nat) (r:Rel),(i<=(dq c).length/\FitR r/\cG s.cert ((dq c).drop i) i r=cG s.cert (dq c) 0 ⟨s,[]⟩)/\G=(dq c).length-i/\J=⟨65,[(2,.box 0 0),(4,.box 1 0),(7,.box 2 0),(31,.sl ((dq c).map bG)),(32,nI ((dq c).length)),(33,nI i)],[(26,(dj s)),(30,eD),(30,(aV r))],[]⟩) 3 0 ⟨0,⟨s,[]⟩,⟨by omega,⟨by show s.cols.length<=_;omega,by simp,fun t D=>by cases D⟩,Z⟩,Z,Z⟩ .rf ?_;rintro G J ⟨i,r,⟨O,B,a⟩,rfl,rfl⟩;refine ab<|ae<|af (t:=bT (decide (i<(dq c).length))) Z Z Z (ah (ai Z Z Z Zy) (ar (gA i ((dq c).length))))<|ag<|ab<|aD Z (fun w=>?_) (fun w=>?_)
 ·obtain⟨l,q⟩:∃l,(dq c)[i]? =some l:=⟨_,L3 w⟩;have M:l.size<=c.size:=l4 _ _ _ _ _ (L7 q);rw[xa q]at a;refine am<|ab<|aB<|ab<|ae<|aa 1 Z<|af (t:=.ref [sT l]) Z Z Z (aM (bG l) Z cD Z Z Z (aS (f:=bG) q) (fM _) Z)<|aa 3 Z<|ag<|ab<|ab<|ae<|aa 1 Z<|af (t:=bT (l.toList==(⟨#[]⟩:ByteArray).toList)) Z Z Z (ah (ai Z Z Z Zy) (ar Z))<|ag<|aF Z (fun p=>?_) (fun p=>?_)
  ·rw[if_pos p]at a;refine aT<|ae<|af (t:=nI (i+1)) Z Z Z (ah (ai Z Z Z Zy) (bi (by omega)))<|aa 1 Z<|ag<|⟨_,_,?_,⟨i+1,r,?_,Z,Z⟩,.rf⟩
   ·omega
   exact⟨by omega,B,a⟩
  rw[if_neg (by rw[p];exact MF)]at a;refine am<|ab<|ae<|aa 3 Z<|af Z Z Z (ak Z (IT l s.cert (by omega)) Z Z)<|aa 6 Z<|ag<|ab<|ab<|ae<|aa 1 Z<|af (t:=bT (!((bW l s.cert).ok))) Z Z Z (dm Z Z Zy)<|ag<|aF Z (fun m=>?_) (fun m=>?_)
  ·refine ab<|aj 5 Z<|aw<|⟨.inr Z,_,.cons ⟨_,_,_,_,Z,Z,.inl ⟨_,bj,Z,Z⟩⟩ (.cons Z (.cons Z .nil)),nO (R:=Rel.zero) (i:=i) (e:=2) (x:=eM s b) (by rw[k,<-a,if_pos (by simpa using m)]),Z⟩
  have y:(bW l s.cert).ok=true:=by simpa using m
  rw[if_neg (by rw[y];simp)]at a;obtain⟨I,F,E,K⟩:=tz y;have g:(g5 (bW l s.cert)).vals.length<=65536:=by have:=tA (l:=l) (cert:=s.cert);show(bW l s.cert).vs.length<=_;omega
  have H:(bW l s.cert).vs=(g5 (bW l s.cert)).vals:=rfl;obtain⟨t,D⟩:∃t,g5 (bW l s.cert)=t:=⟨_,rfl⟩;rw[D]at H I F E K g a;have h:FitT t:=xb (vs:=t.vals) K;refine Ef (bs':=[(26,(dj s)),(30,eD),(30,(aV r)),(67,(bV t))]) (by rw[H,I,F,E]<;>rfl)<|am<|ab ?_;by_cases v:c8 r t=0
  ·rw[if_pos v]at a;refine ae<|aa 2 Z<|af Z Z Z (ak Z (DM r t B h g v) Z Z)<|aa 6 Z<|ag<|ab<|ab<|ae<|aa 1 Z<|af (t:=bT (decide (0≠0))) Z Z Z (ah (ai Z Z Z Zy) (ar (tV 0 0)))<|ag<|aD Z (fun z=>?_) (fun z=>?_)
   ·exact absurd Z z
   refine am<|aj 2 Z<|ae<|af (t:=nI (i+1)) Z Z Z (ah (ai Z Z Z Zy) (bi (by omega)))<|aa 1 Z<|ag<|⟨_,_,?_,⟨i+1,(bU r t),?_,Z,Z⟩,.rf⟩
   ·omega
   exact⟨by omega,(pF B h g (ov v)).1,a⟩
  rw[if_neg v]at a;refine ae<|aa 2 Z<|af Z Z Z (ak Z (AU r t B h g v) Z Z)<|aa 6 Z<|ag<|ab<|ab<|ae<|aa 1 Z<|af (t:=bT ((c8 r t) !=0)) Z Z Z (ai Z Z Z Zy)<|ag<|aF Z (fun A=>?_) (fun A=>?_)
  ·refine ab<|aj 6 Z<|aw<|⟨.inr Z,_,.cons ⟨_,_,_,_,Z,Z,.inl ⟨_,bj,Z,Z⟩⟩ (.cons Z (.cons Z .nil)),nO (R:=Rel.zero) (i:=i) (e:=c8 r t) (x:=eM s b) (by rw[k,<-a]),Z⟩
  exact absurd (by simpa using A) v
 refine aT<|ab<|aj 4 Z<|aw<|⟨.inr Z,_,.cons ⟨_,_,_,_,Z,Z,.inl ⟨_,bj,Z,Z⟩⟩ (.cons Z (.cons Z .nil)),nO (R:=r) (i:=0) (e:=0) (x:=eM s b) (by rw[k,<-a,Md (by omega)];rfl),Z⟩
def be:Nat->List V->List UInt8
 |_,[]=>[]
 |i,v::vs=>(if 0<i then [44]else [])++(v.fmt++be (i+1) vs)
def lk(cert:Bool)(t:Tp):List UInt8:=be 0 t.vals++((if cert then []else 58::(eG t.prob).data.toList)++[10])
def zf(r:Rel):List UInt8:=r.tups.flatMap (lk r.sch.cert)
def fC(r:Rel):List UInt8:=if bw r=0 then zf r else []
theorem rb{vs:List V}{j:Nat}{v:V}(h:vs[j]? =some v):be j (vs.drop j)=(if 0<j then [44]else [])++(v.fmt++be (j+1) (vs.drop (j+1))):=by
 obtain⟨a,rfl⟩:=L6.1 h;rw[Mc a,be]
theorem tB{cert:Bool}{ts:List Tp}{i:Nat}{t:Tp}(h:ts[i]? =some t):(ts.drop i).flatMap (lk cert)=lk cert t++(ts.drop (i+1)).flatMap (lk cert):=by
 obtain⟨a,rfl⟩:=L6.1 h;rw[Mc a,Pg]
theorem gT(a b:List UInt8):bm (a++b)=bm a++bm b:=by simp[bm]
theorem L1{a b:List UInt8}(h:a=b):(Tree.sl (bm a))=.sl (bm b):=by rw[h]
theorem tC(v:V)(h:v.rng):v.fmt.length<=130:=by
 unfold V.fmt;cases a:bF v.t v.n v.s with
 |true=>exact(CJ a h.1 h.2).2
 |false=>unfold cY;rw[a];simp
structure TxT (t:Tp):Prop where
 rng:∀v∈t.vals,v.rng
 num:(iu t.prob.num.natAbs).size<=8192
 den:(iu t.prob.den).size<=8192
theorem gJ{t:Tp}(h:TxT t):(eG t.prob).size<=16400:=by
 have c:=h.num;have b:=h.den;have a:(rq t.prob).size<=8193:=by
  unfold rq;split
  ·rw[No];show 1+_<=_;omega
  omega
 unfold eG;split
 ·omega
 rw[No,No];show _+(1+_)<=_;omega
theorem mK{r:Rel}(h:bw r=0):∀t∈r.tups,t.vals.length<=6:=fun t a=>by
 have b:=eF (fW (mF h) t a);have:=gY b.2.2.1;omega
theorem tD:(Tryz.prog.info? 5).bind (·.zero)=some (.int .u8 0):=by kernel_rfl
theorem Bk(r:Rel)(H:FitR r)(F:∀t∈r.tups,TxT t):Ct 16 [r.tree] (.sl (bm (fC r))):=by
 refine Ct.of (n:=53) Tryz.func16 Z Z Z Z Z fun w0 G0=>?_
 refine ab<|ae<|aa 1 Z<|af (t:=.sl []) Z Z Z (cz (.inr Z) dk)<|ag<|ab<|ab<|ae<|aa 1 Z<|af Z Z Z (ak Z (qW r H) Z Z)<|af (t:=bT ((bw r) !=0)) Z Z Z (ai Z Z Z Zy)<|ag<|aF Z (fun o=>?_) (fun o=>?_)
 ·have c:¬bw r=0:=by simpa using o
  refine ab<|ae<|af (t:=.sl []) Z Z Z (cz (.inr Z) dk)<|ag<|aw<|⟨.inr Z,_,.cons Z .nil,L1 (a:=[]) (by unfold fC;rw[if_neg c]),Z⟩
 have c:bw r=0:=by simpa using o
 have J:=lX c;refine am<|ab<|ae<|gW (k:=0) (e:=5) (sz:=1) (rs':=[some ⟨5,1,bm [],false⟩]) (.inr Z) Z Z Z Z Z<|ag<|ab<|ab<|ae<|aa 2 Z<|af (t:=nI r.tups.length) Z Z Z (ah (aZ Z aN Z) (by simp only[L5]))<|aa 1 Z<|ag<|aB<|aR (fun C D=>∃(i:Nat) (g:List UInt8),(i<=r.tups.length/\g.length<=i*20000/\g++(r.tups.drop i).flatMap (lk r.sch.cert)=zf r)/\C=r.tups.length-i/\D=⟨53,[(1,.box 0 0),(3,.own 0),(12,.sl (r.tups.map Tp.tree)),(13,nI r.tups.length),(14,nI i)],[(30,(aV r))],[some ⟨5,1,bm g,false⟩]⟩) 1 1 ⟨0,[],⟨by omega,by simp,Z⟩,Z,Z⟩ .rf ?_;rintro C D ⟨i,g,⟨N,I,h⟩,rfl,rfl⟩;refine ab<|ae<|af (t:=bT (decide (i<r.tups.length))) Z Z Z (ah (ai Z Z Z Zy) (ar (gA i r.tups.length)))<|ag<|ab<|aD Z (fun E=>?_) (fun E=>?_)
 ·obtain⟨t,x⟩:∃t,r.tups[i]? =some t:=⟨_,L3 E⟩;have y:=L7 x;have m:=F t y;have L:=mK c t y;rw[tB x]at h;refine am<|ab<|aB<|ab<|ae<|af (t:=.ref (bV t)) Z Z Z (aM (Tp.tree t) Z aN Z Z Z (aS (f:=Tp.tree) x) (bS _) Z)<|aa 3 Z<|ag<|ab<|ab<|ae<|aa 2 Z<|af (t:=nI t.vals.length) Z Z Z (ah (aZ Z bq Z) (by simp only[L5]))<|aa 1 Z<|ag<|aB<|aR (fun C D=>∃(j:Nat) (d:List UInt8),(j<=t.vals.length/\d.length<=g.length+j*131/\d++be j (t.vals.drop j)=g++be 0 t.vals)/\C=t.vals.length-j/\D=⟨53,[(1,.box 0 0),(3,.own 0),(5,.box 1 0),(12,.sl (r.tups.map Tp.tree)),(13,nI r.tups.length),(14,nI i),(19,.sl (t.vals.map V.tree)),(20,nI t.vals.length),(21,nI j)],[(30,(aV r)),(67,(bV t))],[some ⟨5,1,bm d,false⟩]⟩) 2 1 ⟨0,g,⟨by omega,by simp,Z⟩,Z,Z⟩ .rf ?_;rintro C D ⟨j,d,⟨M,K,b⟩,rfl,rfl⟩;refine ab<|ae<|af (t:=bT (decide (j<t.vals.length))) Z Z Z (ah (ai Z Z Z Zy) (ar (gA j t.vals.length)))<|ag<|ab<|aD Z (fun B=>?_) (fun B=>?_)
  ·obtain⟨v,z⟩:∃v,t.vals[j]? =some v:=⟨_,L3 B⟩;have A:=m.rng v (L7 z);have G:=tC v A;rw[rb z]at b;refine am<|ab<|aB<|ab<|ae<|aa 1 Z<|af (t:=.ref [iT v.t,iT v.n,sT v.s]) Z Z Z (aM (V.tree v) Z bq Z Z Z (aS (f:=V.tree) z) (ie _) Z)<|aa 4 Z<|ag<|ab<|ab<|ae<|aa 1 Z<|af (t:=bT (decide (0<j))) Z Z Z (ah (ai Z Z Z Zy) (ar (oF j 0)))<|ag<|aD Z (fun w=>?_) (fun w=>?_)
   ·rw[if_pos w]at b;refine ae<|aa 1 rfl<|af (t:=.sl [.sc (.int .u8 44)]) rfl rfl rfl (aQ rfl cC lh rfl (by decide) (by decide) rfl rfl rfl rfl rfl)<|cg (bs':=[(30,(aV r)),(67,(bV t)),(77,[iT v.t,iT v.n,sT v.s])]) (rs':=[some ⟨5,1,bm (d++[44]),false⟩]) rfl rfl rfl rfl f6 rfl rfl rfl rfl (by intro e l;simp only[Mi,Nf,or_false]at l;subst l;rfl) (AllC.lit rfl) (AllC.lit rfl) (by simp only[a6,Mb,L9,Mg];omega) rfl rfl rfl (by simp only[gT];rfl)<|aa 1 rfl<|ag<|ae<|aa 2 rfl<|af rfl rfl rfl (ak rfl (CK v A) rfl rfl)<|kx (bs':=[(30,(aV r)),(67,(bV t)),(77,[iT v.t,iT v.n,sT v.s])]) (rs':=[some ⟨5,1,bm ((d++[44])++v.fmt),false⟩]) rfl rfl rfl rfl f6 tD aJ rfl rfl rfl rfl (by simp only[a6,Mb,L9,Mg];first|omega|(show _+v.fmt.length<=_;omega)) rfl rfl (by simp only[gT];rfl)<|aa 1 rfl<|ag<|ae<|af (t:=nI (j+1)) rfl rfl rfl (ah (ai rfl rfl rfl Zy) (bi (by omega)))<|aa 1 rfl<|ag<|⟨_,_,?_,⟨j+1,((d++[44])++v.fmt),?_,rfl,rfl⟩,.rf⟩
    ·omega
    refine⟨by omega,?_,?_⟩
    ·simp only[Mb,L9,Mg];omega
    rw[<-b];simp
   rw[if_neg w,MI]at b;refine am<|ae<|aa 2 Z<|af Z Z Z (ak Z (CK v A) Z Z)<|kx (bs':=[(30,(aV r)),(67,(bV t)),(77,[iT v.t,iT v.n,sT v.s])]) (rs':=[some ⟨5,1,bm (d++v.fmt),false⟩]) Z Z Z Z f6 tD aJ Z Z Z Z (by simp only[a6,Mb,L9,Mg];first|omega|(show _+v.fmt.length<=_;omega)) Z Z (by simp only[gT];rfl)<|aa 1 Z<|ag<|ae<|af (t:=nI (j+1)) Z Z Z (ah (ai Z Z Z Zy) (bi (by omega)))<|aa 1 Z<|ag<|⟨_,_,?_,⟨j+1,(d++v.fmt),?_,Z,Z⟩,.rf⟩
   ·omega
   refine⟨by omega,?_,?_⟩
   ·simp only[Mb,L9,Mg];omega
   rw[<-b];simp
  rw[Md (by omega:t.vals.length<=j),show be j []=[]from by cases j<;>rfl,Mq]at b;refine aT<|ab<|ab<|ae<|aa 3 Z<|af (t:=bT (!r.sch.cert)) Z Z Z (dm Z Z Zy)<|ag<|aF Z (fun q=>?_) (fun q=>?_)
  ·have u:r.sch.cert=false:=by simpa using q
   refine ab<|ae<|aa 1 rfl<|af (t:=.sl [.sc (.int .u8 58)]) rfl rfl rfl (aQ rfl cC lh rfl (by decide) (by decide) rfl rfl rfl rfl rfl)<|cg (bs':=[(30,(aV r)),(67,(bV t))]) (rs':=[some ⟨5,1,bm (d++[58]),false⟩]) rfl rfl rfl rfl f6 rfl rfl rfl rfl (by intro e l;simp only[Mi,Nf,or_false]at l;subst l;rfl) (AllC.lit rfl) (AllC.lit rfl) (by simp only[a6,Mb,L9,Mg];omega) rfl rfl rfl (by simp only[gT];rfl)<|aa 1 rfl<|ag<|ae<|aa 3 rfl<|af rfl rfl rfl (ak rfl (D8 t.prob (H.tup t y).1.p (by have:=m.num;omega) (by have:=m.den;omega)) rfl rfl)<|kx (bs':=[(30,(aV r)),(67,(bV t))]) (rs':=[some ⟨5,1,bm ((d++[58])++(eG t.prob).data.toList),false⟩]) rfl rfl rfl rfl f6 tD aJ rfl rfl rfl rfl (by have:=gJ m;have e:(eG t.prob).data.toList.length=(eG t.prob).size:=(by simp);simp only[a6,Mb,L9,Mg,e];omega) rfl rfl (by simp only[gT];rfl)<|aa 1 rfl<|ag<|ae<|aa 1 rfl<|af (t:=.sl [.sc (.int .u8 10)]) rfl rfl rfl (aQ rfl cC lh rfl (by decide) (by decide) rfl rfl rfl rfl rfl)<|cg (bs':=[(30,(aV r)),(67,(bV t))]) (rs':=[some ⟨5,1,bm (((d++[58])++(eG t.prob).data.toList)++[10]),false⟩]) rfl rfl rfl rfl f6 rfl rfl rfl rfl (by intro e l;simp only[Mi,Nf,or_false]at l;subst l;rfl) (AllC.lit rfl) (AllC.lit rfl) (by have:=gJ m;have e:(eG t.prob).data.toList.length=(eG t.prob).size:=(by simp);simp only[a6,Mb,L9,Mg,e];omega) rfl rfl rfl (by simp only[gT];rfl)<|aa 1 rfl<|ag<|ae<|af (t:=nI (i+1)) rfl rfl rfl (ah (ai rfl rfl rfl Zy) (bi (by omega)))<|aa 1 rfl<|ag<|⟨_,_,?_,⟨i+1,(((d++[58])++(eG t.prob).data.toList)++[10]),?_,rfl,rfl⟩,.rf⟩
   ·omega
   refine⟨by omega,?_,?_⟩
   ·have:=gJ m;have e:(eG t.prob).data.toList.length=(eG t.prob).size:=by simp
    simp only[Mb,L9,Mg,e];omega
   rw[<-h];unfold lk;rw[u,b];simp
  have u:r.sch.cert=true:=by simpa using q
  refine am<|ae<|aa 1 rfl<|af (t:=.sl [.sc (.int .u8 10)]) rfl rfl rfl (aQ rfl cC lh rfl (by decide) (by decide) rfl rfl rfl rfl rfl)<|cg (bs':=[(30,(aV r)),(67,(bV t))]) (rs':=[some ⟨5,1,bm (d++[10]),false⟩]) rfl rfl rfl rfl f6 rfl rfl rfl rfl (by intro e l;simp only[Mi,Nf,or_false]at l;subst l;rfl) (AllC.lit rfl) (AllC.lit rfl) (by have:=gJ m;have e:(eG t.prob).data.toList.length=(eG t.prob).size:=(by simp);simp only[a6,Mb,L9,Mg,e];omega) rfl rfl rfl (by simp only[gT];rfl)<|aa 1 rfl<|ag<|ae<|af (t:=nI (i+1)) rfl rfl rfl (ah (ai rfl rfl rfl Zy) (bi (by omega)))<|aa 1 rfl<|ag<|⟨_,_,?_,⟨i+1,(d++[10]),?_,rfl,rfl⟩,.rf⟩
  ·omega
  refine⟨by omega,?_,?_⟩
  ·have:=gJ m;have e:(eG t.prob).data.toList.length=(eG t.prob).size:=by simp
   simp only[Mb,L9,Mg,e];omega
  rw[<-h];unfold lk;rw[u,b];simp
 refine ek 0 (bs':=[(30,(aV r))]) (rs':=[none]) Z Z Z Z<|aT<|ab<|aj 2 Z<|aw<|⟨.inr Z,_,.cons Z .nil,L1 (by unfold fC;rw[if_pos c,<-h,Md (by omega)];simp),Z⟩
def gK(x:Int):Tree:=.sc (.int .i64 x)
theorem ow(l:List Int):Sized 1 (l.map gK):=Sized.map _ l fun _=>rfl
theorem Eg(l:List Rel):Sized 4 (l.map Rel.tree):=Sized.map _ l fun _=>rfl
theorem jI(l:List Sch):Sized 3 (l.map Sch.tree):=Sized.map _ l fun _=>rfl
def tE:List Int:=[1,1,2,1,1,0,3,1]
def rt:List Int:=[2,3,3,4,1,1,5,7]
def iy:List Rat:=[dH false 1 2,dH false 1 3,dH false 2 3,dH false 1 4,dH false 1 1,dH false 0 1,dH false 3 5,dH false 1 7]
def dd(n:Nat):Rat:=dH ((decide (tE.getD (n%8) 0<0)) !=(decide (rt.getD (n%8) 0<0))) (tE.getD (n%8) 0).natAbs (rt.getD (n%8) 0).natAbs
theorem Ki(n:Nat):n%8=0\/n%8=1\/n%8=2\/n%8=3\/n%8=4\/n%8=5\/n%8=6\/n%8=7:=by omega
theorem vf(n:Nat):dd n∈iy:=by
 unfold dd iy;rcases Ki n with h|h|h|h|h|h|h|h<;>rw[h]<;>simp[tE,rt]
theorem xc(n:Nat):tE[n%8]? =some (tE.getD (n%8) 0)/\ -9223372036854775808<=tE.getD (n%8) 0/\tE.getD (n%8) 0<=9223372036854775807:=by
 rcases Ki n with h|h|h|h|h|h|h|h<;>rw[h]<;>simp[tE]
theorem rK(n:Nat):rt[n%8]? =some (rt.getD (n%8) 0)/\ -9223372036854775808<=rt.getD (n%8) 0/\rt.getD (n%8) 0<=9223372036854775807/\rt.getD (n%8) 0≠0:=by
 rcases Ki n with h|h|h|h|h|h|h|h<;>rw[h]<;>simp[rt]
def Kj:Col:=⟨⟨#[97]⟩,1,false⟩
def Lc:Col:=⟨⟨#[98]⟩,1,false⟩
def j8:List Sch:=[⟨⟨#[82]⟩,false,[Kj,Lc]⟩,⟨⟨#[83]⟩,false,[Kj]⟩,⟨⟨#[75]⟩,false,[⟨⟨#[107]⟩,1,true⟩,⟨⟨#[118]⟩,1,false⟩]⟩,⟨⟨#[67]⟩,true,[Kj,Lc]⟩]
def gL:Sch:=⟨⟨#[78]⟩,false,[⟨⟨#[110,97,109,101]⟩,2,true⟩,⟨⟨#[110]⟩,1,false⟩]⟩
def b7:List ByteArray:=[⟨#[]⟩,⟨#[97]⟩,⟨#[105,116,39,115]⟩,⟨#[120,44,121,58,122]⟩,⟨#[32]⟩]
theorem ll(n:Nat):b7[n%5]? =some (b7.getD (n%5) ⟨#[]⟩)/\(b7.getD (n%5) ⟨#[]⟩).size<=5:=by
 have h:n%5=0\/n%5=1\/n%5=2\/n%5=3\/n%5=4:=by omega
 rcases h with h|h|h|h|h<;>rw[h]<;>exact⟨rfl,by decide⟩
structure Good (r:Rel):Prop where
 valid:bw r=0
 prob:∀t∈r.tups,t.prob∈iy
 str:A9 r
 rng:∀t∈r.tups,∀v∈t.vals,v.rng
 len:r.tups.length<=3
 sch:r.sch∈j8\/r.sch=gL
theorem qw{q:Rat}(h:q∈iy):Fit 1 q/\0<=q/\q<=1/\(iu q.num.natAbs).size<=1/\(iu q.den).size<=1:=by
 unfold iy at h;simp only[Mi,NU,or_false]at h;rcases h with rfl|rfl|rfl|rfl|rfl|rfl|rfl|rfl<;>exact⟨⟨by decide+kernel,by decide+kernel⟩,by decide+kernel,by decide+kernel,by decide+kernel,by decide+kernel⟩
theorem l6{t:Tp}(h:t.prob∈iy):FitT t:=⟨(qw h).1.mono (by decide),(pk (a:=1) (b:=1) ⟨by decide,by decide⟩ (qw h).1).mono (by decide)⟩
theorem Eh:(1:Rat)∈iy:=by
 have:(1:Rat)=dH false 1 1:=by decide+kernel
 rw[this];simp[iy]
theorem qz{s:Sch}(h:s∈j8\/s=gL):s.cols.length<=2/\fv s=true:=by
 unfold j8 gL at h;simp only[Mi,NU,or_false]at h;rcases h with(rfl|rfl|rfl|rfl)|rfl<;>exact⟨by decide,by decide+kernel⟩
theorem Good.fit{r:Rel}(h:Good r):FitR r/\∀t∈r.tups,TxT t:=by
 have b:=mK h.valid;refine⟨⟨by have:=(qz h.sch).1;omega,by have:=h.len;omega,fun t a=>⟨l6 (h.prob t a),by have:=b t a;omega⟩⟩,fun t a=>?_⟩;have c:=qw (h.prob t a);exact⟨h.rng t a,by omega,by omega⟩
def GoodK(s:Sch)(k:Nat)(r:Rel):Prop:=Good r/\r.sch=s/\r.tups.length<=k
theorem tF{s:Sch}(h:s∈j8\/s=gL):GoodK s 0 ⟨s,[]⟩:=by
 refine⟨{valid:=?_,prob:=fun t a=>(by cases a),str:=fun t a=>(by cases a),rng:=fun t a=>(by cases a),len:=Mp _,sch:=h},Z,Mp _⟩;unfold bw;rw[if_neg (by rw[(qz h).2];simp)];have:aW ⟨s,[]⟩=[]:=by unfold aW;split<;>rfl
 simp[this,bK,n6,k9]
theorem zh{s:Sch}{k:Nat}{r:Rel}{t:Tp}(h:GoodK s k r)(m:k<3)(a:bP r t=0)(d:t.prob∈iy)(g:yO t)(j:∀v∈t.vals,v.rng):GoodK s (k+1) (bU r t):=by
 obtain⟨c,f,n⟩:=h;have e:∀x∈(bU r t).tups,x∈r.tups\/x=t:=fun x b=>by
  unfold bU at b;simp only[Mw,Mm]at b;rcases b with(h|h)|h
  ·exact .inl (ME h)
  ·exact .inr h
  exact .inl (Nd h)
 have i:bw (bU r t)=0:=by
  unfold bP at a;split at a
  ·next h=>exact absurd a h
  split at a
  ·next h=>exact absurd a h
  split at a
  ·cases a
  exact a
 have l:(bU r t).tups.length<=k+1:=by
  unfold bU;simp only[Mb,Mf,MQ,NL];omega
 refine⟨⟨i,fun x b=>?_,fun x b=>?_,fun x b=>?_,by omega,c.sch⟩,f,l⟩<;>rcases e x b with h|rfl
 ·exact c.prob x h
 ·exact d
 ·exact c.str x h
 ·exact g
 ·exact c.rng x h
 exact j
theorem GoodK.more{s:Sch}{k:Nat}{r:Rel}(h:GoodK s k r):GoodK s (k+1) r:=⟨h.1,h.2.1,by have:=h.2.2;omega⟩
theorem rL{r:Rel}{t:Tp}(h:bP r t=0):mf r t=.tup [(bU r t).tree,iT 0]:=by unfold mf;rw[if_pos h,h]
theorem pL{r:Rel}{t:Tp}(h:bP r t≠0):mf r t=.tup [rG,iT (bP r t)]:=by unfold mf;rw[if_neg h]
theorem pM(n:Int):Ct 38 [iT n] (V.tree ⟨1,n,⟨#[]⟩⟩):=⟨⟨_,Tryz.func38,Z,Z⟩,fun G w vs _ _ b=>by
 obtain⟨u,rfl,c⟩:=dp b;cases c;refine(AS n w).mono ?_;rintro e w' ⟨rfl,a⟩;exact⟨_,Z,.agg [.int .i64 1,.int .i64 n,.string ⟨#[]⟩] _ (.sc _ (.sc _ (.sc _ .nil))) .nil,a⟩⟩
theorem rM(s:ByteArray):Ct 37 [sT s] (V.tree ⟨2,0,s⟩):=⟨⟨_,Tryz.func37,Z,Z⟩,fun G w vs _ _ b=>by
 obtain⟨u,rfl,c⟩:=dp b;cases c;refine(AT s w).mono ?_;rintro e w' ⟨rfl,a⟩;exact⟨_,Z,.agg [.int .i64 2,.int .i64 0,.string s] _ (.sc _ (.sc _ (.sc _ .nil))) .nil,a⟩⟩
theorem ks:gN Tryz.prog 128=some (2,1):=by kernel_rfl
theorem gf:gN Tryz.prog 52=some (26,3):=by kernel_rfl
theorem Kz:jo Tryz.prog 2=true:=by kernel_rfl
theorem Kk:(Tryz.prog.info? 26).map (·.size)=some 3:=by kernel_rfl
theorem Kl:ua Tryz.prog 26=some ([(0,1),(1,1),(2,1)],[.string (⟨#[]⟩),.bool false,.slice none 0 0]):=by kernel_rfl
theorem Km:ua Tryz.prog 58=some ([(0,1),(1,1),(2,1)],[.string (⟨#[]⟩),.int .i64 0,.bool false]):=by kernel_rfl
theorem vg:gz Tryz.prog 2=some [.int .i64 0]:=by kernel_rfl
theorem oz:gz Tryz.prog 26=some [.string (⟨#[]⟩),.bool false,.slice none 0 0]:=by kernel_rfl
theorem CM(l:List Int)(i:Nat)(g:l.length<=9223372036854775807)(h:i<65536):CtE 35 [.sl (l.map gK),nI i] (fun d=>∃n:Nat,n<4294967296/\d=nI n):=by
 refine CtE.of (n:=23) Tryz.func35 Z Z Z Z Z fun w0 G0=>?_
 refine ab<|aj 1 Z<|ab<|ab<|ae<|aa 1 Z<|af (t:=nI l.length) Z Z Z (ah (aZ Z cL Z) (by simp only[L5]))<|af (t:=bT (decide (l.length=0))) Z Z Z (ah (ai Z Z Z Zy) (ar (jF l.length 0)))<|ag<|aD Z (fun a=>?_) (fun a=>?_)
 ·refine ab<|ae<|aa 1 Z<|af (t:=nI ((((i:Nat):Int)%65536).toNat)) Z Z Z (ai Z Z Z (fun w=>p7 ((i:Nat):Int) w))<|aa 1 Z<|ag<|aw<|⟨_,⟨_,by first|omega|(have:=Qv x (show(0:Int)<65536 by decide);omega),Z⟩,.inr Z,_,.cons Z .nil,Z,Z⟩
 have b:0<l.length:=by omega
 obtain⟨x,c⟩:∃x,l[i%l.length]? =some x:=⟨_,L3 (Ni _ b)⟩;have e:i/l.length<=i:=NT _ _;refine am<|ab<|cf (fu:=14) [some 10,some 11,some 12,some 13,some 14,some 15,some 16,some 17,some 18,some 19,some 20,some 21,some 22,some 4] [.sl (l.map gK),nI i,.sl (l.map gK),nI l.length,nI (i%l.length),.ref [iT x],iT x,nI ((x%65536).toNat),nI i,.sl (l.map gK),nI l.length,nI (i/l.length),nI (((x%65536).toNat)+(i/l.length)),nI (((x%65536).toNat)+(i/l.length))] (by kernel_rfl) Z Z (by kernel_rfl) Z ?_ ?_
 ·refine Chain.op Z (au Z Z)<|Chain.op Z (au Z Z)<|Chain.op Z (au Z Z)<|Chain.op Z (ah (aZ Z cL Z) (by simp only[L5]))<|Chain.op Z (ai Z Z Z (fun w=>lC i l.length (by omega) w))<|Chain.op Z (aM (gK x) Z cL Z Z Z (aS (f:=gK) c) (ow _) Z)<|Chain.op Z (bz Z Z fi Z)<|Chain.op Z (ai Z Z Z (fun w=>p7 x w))<|Chain.op Z (au Z Z)<|Chain.op Z (au Z Z)<|Chain.op Z (ah (aZ Z cL Z) (by simp only[L5]))<|Chain.op Z (ai Z Z Z (fun w=>wj i l.length (by omega) (by omega) w))<|Chain.op Z (ah (ai Z Z Z Zy) (bi (by omega)))<|Chain.op Z (bp Z Z)<|Chain.nil
 refine aw<|⟨_,⟨_,by first|omega|(have:=Qv x (show(0:Int)<65536 by decide);omega),Z⟩,.inr Z,_,.cons Z .nil,Z,Z⟩
theorem pN(n:Nat):Ct 39 [nI n] (dt (dd n)):=by
 refine Ct.of (n:=24) Tryz.func39 Z Z Z Z Z fun w0 G0=>?_
 refine ab<|aj 1 Z<|ab<|ae<|af (t:=.sl (tE.map gK)) Z Z Z (ah (aQ Z ks vg Z (by decide) (by decide) Z Z Z Z Z) (rfl))<|aa 1 Z<|af (t:=nI (n%8)) Z Z Z (ai Z Z Z (fun w=>xE n w))<|af (t:=.ref [iT (tE.getD (n%8) 0)]) Z Z Z (aM (gK (tE.getD (n%8) 0)) Z ks Z Z Z (aS (f:=gK) (xc n).1) (ow _) Z)<|aa 2 Z<|ag<|ab<|ae<|af (t:=.sl (rt.map gK)) Z Z Z (ah (aQ Z ks vg Z (by decide) (by decide) Z Z Z Z Z) (rfl))<|aa 1 Z<|af (t:=nI (n%8)) Z Z Z (ai Z Z Z (fun w=>xE n w))<|af (t:=.ref [iT (rt.getD (n%8) 0)]) Z Z Z (aM (gK (rt.getD (n%8) 0)) Z ks Z Z Z (aS (f:=gK) (rK n).1) (ow _) Z)<|aa 2 Z<|ag<|ab<|ae<|aa 2 Z<|af Z Z Z (ak Z (IK _ _ (xc n).2.1 (xc n).2.2 (rK n).2.1 (rK n).2.2.1 (rK n).2.2.2) Z Z)<|aa 6 Z<|ag<|ab<|aj 2 Z<|aw<|⟨.inr Z,_,.cons ⟨_,_,_,_,Z,Z,.inl ⟨_,aI,Z,Z⟩⟩ .nil,Z,Z⟩
theorem Bl:Ct 24 [] (.sl (j8.map Sch.tree)):=by
 refine Ct.of (n:=21) Tryz.func24 Z Z Z Z Z fun w0 G0=>?_
 refine ab<|ae<|af (t:=.sl []) Z Z Z (cz (.inr Z) dk)<|ag<|ab<|aj 6 Z<|ab<|ae<|aa 2 Z<|af (t:=.sl [.agg [sT (⟨#[97]⟩),iT 1,bT false],.agg [sT (⟨#[98]⟩),iT 1,bT false]]) Z Z Z (aQ Z bg fw Z (by decide) (by decide) Z Z Z Z Z)<|aa 2 Z<|af (t:=.sl [.agg [sT (⟨#[97]⟩),iT 1,bT false]]) Z Z Z (aQ Z bg fw Z (by decide) (by decide) Z Z Z Z Z)<|aa 3 Z<|af (t:=.sl [.agg [sT (⟨#[107]⟩),iT 1,bT true],.agg [sT (⟨#[118]⟩),iT 1,bT false]]) Z Z Z (aQ Z bg fw Z (by decide) (by decide) Z Z Z Z Z)<|aa 3 Z<|af (t:=.sl [.agg [sT (⟨#[97]⟩),iT 1,bT false],.agg [sT (⟨#[98]⟩),iT 1,bT false]]) Z Z Z (aQ Z bg fw Z (by decide) (by decide) Z Z Z Z Z)<|aa 1 Z<|af (t:=.sl [.agg [sT (⟨#[82]⟩),bT false,.sl [.agg [sT (⟨#[97]⟩),iT 1,bT false],.agg [sT (⟨#[98]⟩),iT 1,bT false]]],.agg [sT (⟨#[83]⟩),bT false,.sl [.agg [sT (⟨#[97]⟩),iT 1,bT false]]],.agg [sT (⟨#[75]⟩),bT false,.sl [.agg [sT (⟨#[107]⟩),iT 1,bT true],.agg [sT (⟨#[118]⟩),iT 1,bT false]]],.agg [sT (⟨#[67]⟩),bT true,.sl [.agg [sT (⟨#[97]⟩),iT 1,bT false],.agg [sT (⟨#[98]⟩),iT 1,bT false]]]]) Z Z Z (aQ Z gf oz Z (by decide) (by decide) Z Z Z Z Z)<|aa 1 Z<|ag<|aw<|⟨.inr Z,_,.cons Z .nil,Z,Z⟩
theorem pO:Ct 25 [] (gL.tree):=by
 refine Ct.of (n:=5) Tryz.func25 Z Z Z Z Z fun w0 G0=>?_
 refine ab<|aj 1 Z<|ab<|ae<|aa 2 Z<|af (t:=.sl [.agg [sT (⟨#[110,97,109,101]⟩),iT 2,bT true],.agg [sT (⟨#[110]⟩),iT 1,bT false]]) Z Z Z (aQ Z bg fw Z (by decide) (by decide) Z Z Z Z Z)<|aa 2 Z<|ag<|aw<|⟨.inr Z,_,.cons ⟨_,_,_,_,Z,Z,.inl ⟨_,eI,Z,Z⟩⟩ .nil,Z,Z⟩
def bs(l:List UInt8):ByteArray:=⟨l.toArray⟩
theorem de(l:List UInt8):(bs l).data.toList=l:=by simp[bs]
theorem lm(s:ByteArray):bs s.data.toList=s:=jv s
theorem GJ{s t:ByteArray}(h:s.data.toList=t.data.toList):s=t:=by rw[<-lm s,<-lm t,h]
theorem eV(l:List UInt8):(bs l).size=l.length:=by rw[aL,de]
theorem xd(a b:List UInt8):(bs (a++b)).extract 0 a.length=bs a:=GJ (by rw[dF,de,de];simp)
theorem l7(a b:List UInt8):(bs (a++b)).extract a.length (bs (a++b)).size=bs b:=GJ (by rw[dF,de,de,eV,Me (L4 _)];simp)
theorem tG{c:UInt8}:∀{l:List UInt8},c∉l->Lib.index l [c]= -1
 |[],_=>by simp[Lib.index]
 |b::l,h=>by
  have a:b≠c:=fun e=>h (by rw[e];simp)
  have g:=tG (c:=c) (l:=l) fun d=>h (Ms _ d)
  have f:([c]:List UInt8).isPrefixOf (b::l)=false:=by simp[List.isPrefixOf,Ne.symm a]
  rw[Lib.index,f,g];simp
theorem zi{c:UInt8}{b:List UInt8}:∀{a:List UInt8},c∉a->Lib.index (a++c::b) [c]=(a.length:Int)
 |[],_=>by rw[MI,Lib.index];simp[List.isPrefixOf]
 |x::a,h=>by
  have d:x≠c:=fun e=>h (by rw[e];simp)
  have i:=zi (c:=c) (b:=b) (a:=a) fun f=>h (Ms _ f)
  have g:([c]:List UInt8).isPrefixOf (x::(a++c::b))=false:=by simp[List.isPrefixOf,Ne.symm d]
  rw[Na,Lib.index,g,i,if_neg (by simp),if_neg (by simp)];simp
theorem l8{a:List UInt8}(h:(10:UInt8)∉a):dq (bs a)=[bs a]:=by
 unfold dq;refine Lib.splitB_miss _ _ _ _ ?_;unfold Lib.indexB;rw[de];exact tG h
theorem jf{a b:List UInt8}(h:(10:UInt8)∉a):dq (bs (a++10::b))=bs a::dq (bs b):=by
 have c:Lib.indexB (bs (a++10::b)) ⟨#[10]⟩=(a.length:Int):=by
  unfold Lib.indexB;rw[de];exact zi h
 have d:(bs (a++10::b)).extract (a.length+(⟨#[10]⟩:ByteArray).size) (bs (a++10::b)).size=bs b:=by
  have:=l7 (a++[10]) b;rw[Mv,Mb]at this;exact this
 unfold dq;rw[Lib.countB_hit _ _ _ (by decide) c,d,NW 1,Lib.splitB_hit _ _ _ _ _ c,d,Nk,xd]
theorem xe:∀(k u:Nat),u<=k->∀c∈Lib.decDigits u,48<=c.toNat/\c.toNat<=57
 |0,u,h,c,a=>by
  rw[Lib.decDigits_one (by omega),Mm]at a;rw[a,fm _ (by omega)];omega
 |k+1,u,h,c,a=>by
  by_cases b:u<10
  ·rw[Lib.decDigits_one b,Mm]at a;rw[a,fm _ b];omega
  rw[Lib.decDigits,dif_neg b]at a;rcases Mw.1 a with a|a
  ·exact xe k (u/10) (by omega) c a
  rw[Mm]at a;rw[a,fm _ (by omega)];omega
def GK(c:UInt8):Prop:=c.toNat=45\/(48<=c.toNat/\c.toNat<=57)
theorem tH(n:Int):∀c∈Lib.itoa n,GK c:=fun c a=>by
 unfold Lib.itoa at a;split at a
 ·rcases Mi.1 a with rfl|a
  ·exact .inl Z
  exact .inr (xe _ _ (L4 _) c a)
 exact .inr (xe _ _ (L4 _) c a)
theorem ns{v:V}(a:v.ok=true):v.fmt=Lib.itoa v.n\/∃l:List UInt8,l.all qM=true/\v.fmt=39::(gB l++[39]):=by
 unfold V.ok at a;unfold V.fmt cY;rw[if_pos a];by_cases h:v.t=1
 ·rw[if_pos h];exact .inl Z
 rw[if_neg h];unfold bF at a;rw[if_neg h]at a;simp only[L8]at a;exact .inr ⟨_,a.2,by simp⟩
theorem GL{P:UInt8->Prop}(b:P 39):∀{l:List UInt8},(∀c∈l,P c)->∀c∈gB l,P c
 |[],_,c,a=>by cases a
 |x::l,h,c,a=>by
  have d:=GL b (l:=l) fun y e=>h y (Ms _ e)
  rw[gB]at a;split at a
  ·rcases Mi.1 a with rfl|a
   ·exact b
   rcases Mi.1 a with rfl|a
   ·exact b
   exact d c a
  rcases Mi.1 a with rfl|a
  ·exact h c (Ml ..)
  exact d c a
theorem Ko{v:V}(d:v.ok=true):∀c∈v.fmt,32<=c.toNat/\c.toNat<=126:=by
 rcases ns d with h|⟨l,b,h⟩
 ·rw[h];intro c a;have:=tH _ c a;unfold GK at this;omega
 rw[h];intro c a;have e:=GL (P:=fun c:UInt8=>32<=c.toNat/\c.toNat<=126) (by decide) (l:=l) fun c a=>of_decide_eq_true (Mh.1 b c a)
 simp only[Mi,Mw,NU,or_false]at a;rcases a with rfl|a|rfl
 ·decide
 ·exact e c a
 decide
theorem tI{rest:List UInt8}(b:rest.head?≠some 39):∀(l:List UInt8) (i:Nat),lj (gB l++39::rest) i=i+(gB l).length+1
 |[],i=>by
  cases rest with
  |nil=>rfl
  |cons d rest=>
   have n:d≠39:=fun e=>b (by rw[e];rfl)
   have g:d.toNat≠39:=fun e=>n (OL.1 e)
   rw[gB,MI,lj,if_neg (by decide),if_pos g];rfl
 |c::l,i=>by
  by_cases j:c=39
  ·have a:=tI b l (i+2);rw[gB,if_pos j,Na,Na,lj,if_neg (by decide),if_neg (by decide),a];simp only[L9];omega
  have a:=tI b l (i+1);have f:c.toNat≠39:=fun e=>j (OL.1 e)
  obtain⟨d,m,k⟩:∃d m,gB l++39::rest=d::m:=by
   cases h:gB l with
   |nil=>exact⟨39,rest,Z⟩
   |cons d m=>exact⟨d,m++39::rest,Z⟩
  rw[gB,if_neg j,Na,k,lj,if_pos f,<-k,a];simp only[L9];omega
def Lx(rest:List UInt8):Prop:=rest=[]\/∃c r,rest=c::r/\(c=44\/c=58)
theorem CN{c:UInt8}(h:GK c):(c==44||c==58)=false/\c≠39:=by
 unfold GK at h;refine⟨?_,fun e=>by subst e;revert h;decide⟩;rw[Mo,beq_eq_false_iff_ne,beq_eq_false_iff_ne];exact⟨fun e=>by subst e;revert h;decide,fun e=>by subst e;revert h;decide⟩
theorem vh{rest:List UInt8}(d:Lx rest):∀{l:List UInt8},(∀c∈l,GK c)->me (l++rest)=if rest=[]then-1 else(l.length:Int)
 |[],_=>by
  rw[MI];rcases d with rfl|⟨c,r,rfl,f⟩
  ·rfl
  rw[if_neg (by simp)];have a:(c==44||c==58)=true:=by rcases f with rfl|rfl<;>rfl
  unfold me;rw[Pp,a,M0,a];rfl
 |c::l,h=>by
  have b:=vh d (l:=l) fun x e=>h x (Ms _ e)
  have a:=(CN (h c (Ml ..))).1;unfold me at b⊢;rw[Na,Pp,a,Qi,M0,a];simp only[Bool.not_false,if_true];split at b
  ·next h1=>
   rw[if_pos h1];split at b
   ·omega
   next h2=>rw[if_neg h2];simp only[L9];omega
  next h1=>
  rw[if_neg h1];split at b
  ·next h2=>rw[if_pos h2]
  omega
theorem zj{v:V}(f:v.ok=true){rest:List UInt8}(d:Lx rest):jl (bs (v.fmt++rest))=v.fmt.length:=by
 unfold jl ot;rw[de,eV];rcases ns f with h|⟨l,j,h⟩
 ·obtain⟨c,r,e,a⟩:=iE v.n;have i:=tH v.n;rw[h];have b:Lib.hasPrefix (Lib.itoa v.n++rest) [39]=false:=by
   rw[e];simp[Lib.hasPrefix,List.isPrefixOf,Ne.symm a]
  rw[b,if_neg (by simp),vh d i];rcases d with rfl|⟨c,r,rfl,a⟩
  ·simp
  simp
 rw[h];have b:Lib.hasPrefix (39::(gB l++[39])++rest) [39]=true:=by simp[Lib.hasPrefix,List.isPrefixOf]
 have g:rest.head?≠some 39:=by
  rcases d with rfl|⟨c,r,rfl,a⟩
  ·simp
  rcases a with rfl|rfl<;>simp
 rw[b,if_pos Z,Na,Ob,M8,Mv,Oi,tI g];simp only[L9,Mb,Mg];omega
theorem oA{v:V}(f:v.ok=true)(a:v.rng):fP (bs v.fmt)=some v:=by
 have i:wX (bs v.fmt) v:=⟨f,a,de _⟩;cases h:fP (bs v.fmt)with
 |none=>exact absurd i (mJ h v)
 |some u=>
  obtain⟨j,c,g⟩:=je h;rw[de]at g;obtain⟨d,e,b⟩:=Ik j f c.1 c.2 a.1 a.2 g.symm;cases u;cases v;simp only at d e b;rw[d,e,b]
def SepE(rest:List UInt8):Prop:=rest=[]\/∃r,rest=58::r
theorem SepE.sep{rest:List UInt8}(h:SepE rest):Lx rest:=by
 rcases h with h|⟨r,h⟩
 ·exact .inl h
 exact .inr ⟨58,r,h,.inr Z⟩
theorem Ld{rest:List UInt8}(h:SepE rest):Lib.hasPrefix rest [44]=false:=by
 rcases h with rfl|⟨r,rfl⟩<;>simp[Lib.hasPrefix,List.isPrefixOf]
def tJ(v:V):Prop:=v.ok=true/\v.rng
theorem nt{rest:List UInt8}(f:SepE rest):∀(vs:List V) (v:V) (n:Nat) (a:List V),vs.length<n->tJ v->(∀x∈vs,tJ x)->iq n (bs (v.fmt++(be 1 vs++rest))) a=some (a++v::vs,bs rest)
 |[],v,n+1,a,_,hv,_=>by
  rw[iq,be,MI,zj hv.1 f.sep,xd,oA hv.1 hv.2,l7,de,Ld f];simp
 |u::vs,v,n+1,a,hn,hv,hvs=>by
  have d:∀(i:Nat),0<i->∀l,be i l=be 1 l:=by
   intro i k l;induction l generalizing i with
   |nil=>rfl
   |cons x l b=>rw[be,be,if_pos k,if_pos (by omega),b (i+1) (by omega),b 2 (by omega)]
  have e:be 1 (u::vs)++rest=44::(u.fmt++(be 1 vs++rest)):=by
   rw[be,if_pos (by omega),d 2 (by omega)];simp
  have b:=nt f vs u n (a++[v]) (by simpa using hn) (hvs u (Ml ..)) fun x h=>hvs x (Ms _ h)
  have c:Lx (44::(u.fmt++(be 1 vs++rest))):=.inr ⟨44,_,Z,.inl Z⟩;have j:=l7 [44] (u.fmt++(be 1 vs++rest));rw[iq,e,zj hv.1 c,xd,oA hv.1 hv.2,l7,de];simp only;rw[if_pos (by simp[Lib.hasPrefix,List.isPrefixOf])];have g:(bs (44::(u.fmt++(be 1 vs++rest)))).extract 1 (bs (44::(u.fmt++(be 1 vs++rest)))).size=bs (u.fmt++(be 1 vs++rest)):=j;rw[g,b];simp
theorem mL{q:Rat}(h:q∈iy):cV (eG q)=(q,0)/\(eG q).data.toList.all (fun c=>decide (32<=c.toNat)&&decide (c.toNat<=126))=true/\(eG q).size<=8:=by
 unfold iy at h;simp only[Mi,NU,or_false]at h;rcases h with rfl|rfl|rfl|rfl|rfl|rfl|rfl|rfl<;>exact⟨by decide+kernel,by decide+kernel,by decide+kernel⟩
end Go.Proofs.YtfoejfohbkmmeaaGreatDoor
