import Derived.Test.YtfoejfohbkmmeaaGreatDoorB32
import Derived.Lib.SplitLaws
import Derived.Test.YtfoejfohbkmmeaaGreatDoorB00
import Derived.Test.YtfoejfohbkmmeaaGreatDoorB06
import Derived.Test.YtfoejfohbkmmeaaGreatDoorB08
import Derived.Test.YtfoejfohbkmmeaaGreatDoorB31
set_option maxRecDepth 100000
set_option maxHeartbeats 4000000
namespace Go.Proofs.YtfoejfohbkmmeaaGreatDoor
open Go.RowKit
open Lib renaming hid→J
def Rel.zero:Rel:=⟨⟨⟨#[]⟩,false,[]⟩,[]⟩
def kS(x:LR):Tp:=⟨x.vs,eh x.b x.N x.D⟩
noncomputable def eK (cert:Bool):List ByteArray->Nat->Rel->Rel×Nat×Int
 |[],_,r=>(r,0,0)
 |l::ls,i,r=>if(l.toList==(⟨#[]⟩:ByteArray).toList)=true then eK cert ls (i+1) r
  else if(dq l cert).ok=false then(Rel.zero,i,2)
  else if dH r (kS (dq l cert))=0 then eK cert ls (i+1) (cZ r (kS (dq l cert)))
  else(Rel.zero,i,dH r (kS (dq l cert)))
noncomputable def iC (s:Sch) (b:List UInt8):Rel×Nat×Int:=if gt s=false then(Rel.zero,0,1)else if 16384<b.length then(Rel.zero,0,4)else eK s.cert (em ⟨b.toArray⟩) 0 ⟨s,[]⟩
def Nj(x:Rel×Nat×Int):Tree:=.tup [x.1.tree,.sc (.int .i64 (x.2.1:Nat)),.sc (.int .i64 x.2.2)]
theorem As{R:Rel}{i:Nat}{e:Int}{x:Rel×Nat×Int}(h:x=(R,i,e)):(Tree.tup [R.tree,iT (i:Nat),iT e])=Nj x:=by rw[h];rfl
theorem x9{cert:Bool}{L:List ByteArray}{i:Nat}{l:ByteArray}{r:Rel}(h:L[i]? =some l):eK cert (L.drop i) i r=if(l.toList==(⟨#[]⟩:ByteArray).toList)=true then eK cert (L.drop (i+1)) (i+1) r
  else if(dq l cert).ok=false then(Rel.zero,i,2)
  else if dH r (kS (dq l cert))=0 then eK cert (L.drop (i+1)) (i+1) (cZ r (kS (dq l cert)))
  else(Rel.zero,i,dH r (kS (dq l cert))):=by
 obtain⟨a,rfl⟩:=Ok.1 h;rw[Ow a,eK]
theorem p9(sep:ByteArray)(a:Nat):∀(k:Nat) (s x:ByteArray),x∈Lib.splitB sep a k s->x.size<=s.size
 |0,s,x,h=>by
  rw[Lib.splitB,OG]at h;rw[h];exact Oh _
 |k+1,s,x,h=>by
  unfold Lib.splitB at h;split at h
  ·rw[OG]at h;rw[h];exact Oh _
  rcases OC.1 h with rfl|h
  ·simp only[O6];omega
  have:=p9 sep a k _ x h;simp only[O6]at this;omega
theorem un(sep:ByteArray)(a:Nat):∀(k:Nat) (s x:ByteArray),A8 s.data.toList=true->x∈Lib.splitB sep a k s->A8 x.data.toList=true
 |0,s,x,ha,h=>by
  rw[Lib.splitB,OG]at h;rw[h];exact ha
 |k+1,s,x,ha,h=>by
  unfold Lib.splitB at h;split at h
  ·rw[OG]at h;rw[h];exact ha
  rcases OC.1 h with rfl|h
  ·exact sv ha _ _
  exact un sep a k _ x (sv ha _ _) h
theorem Cx(s:ByteArray):(em s).length=Lib.countB s ⟨#[10]⟩+1/\Lib.countB s ⟨#[10]⟩<=s.size:=⟨Lib.splitB_all ⟨#[10]⟩ (by decide) 0 _ s Z,Lib.countB_le ⟨#[10]⟩ (by decide) _ s (Oh _)⟩
theorem wC:∀(n:Nat) (s:ByteArray) (a vs:List V) (r:ByteArray),lA n s a=some (vs,r)->vs.length<=a.length+s.size+1/\r.size<=s.size
 |0,_,_,_,_,h=>by rw[lA]at h;cases h
 |n+1,s,a,vs,r,h=>by
  rw[lA]at h;cases b:j7 (s.extract 0 (j8 s))with
  |none=>rw[b]at h;cases h
  |some v=>
   rw[b]at h;dsimp only at h;split at h
   ·next hx=>
    have c:=oN hx;have:=wC n _ _ _ _ h;simp only[O6,Oj,PO]at this c;omega
   injection h with h
   injection h with e d
   rw[<-e,<-d];simp only[O6,Oj,PO];omega
theorem Cy(s:ByteArray):Fit 4001 (gH s).1:=by
 have e:Fit 4001 (0:Rat):=⟨by decide,by decide⟩;unfold gH;split
 ·exact e
 next h4=>
 have l:(fC s).size<=4000:=by unfold fC;split<;>first|omega|(simp only[O6];omega)
 unfold mC;have f:=Im (fC s).data.toList;rw[<-bR]at f;have b:((fC s).extract 0 (u9 (fC s).data.toList)).data.toList.all ew=true:=by rw[lx,PQ];exact Ah _
 generalize k:u9 (fC s).data.toList=n at f b⊢;generalize i:(fC s).extract (n+1) (fC s).size=r;have g:r.size<=(fC s).size-(n+1):=by rw[<-i];simp only[O6];omega
 have j:((fC s).extract 0 n).size<=n:=by simp only[O6];omega
 split
 ·exact e
 next hz=>
 split
 ·next hfl=>exact nJ (D:=1) (by decide) (im (su (by rw[<-bR,k];exact hfl)) (by rw[<-bR];omega)) (by decide)
 next hfl=>
 split
 ·exact e
 next a=>
 have a:np (dR (fC s) n) r=false:=by simpa using a
 have c:r.data.toList.all ew=true:=su (by have h:=a;unfold np at h;rw[OH]at h;rw[<-bR];simpa using h.2);have d:((fC s).extract 0 n++r).data.toList.all ew=true:=by rw[RF,PK,Qd,b,c];rfl
 split
 ·exact nJ (D:=10^r.size) (Pw (by decide)) (im d (by rw[<-bR,P7];omega)) (ul (by omega))
 split
 ·exact e
 next hz=>exact nJ (D:=fa r.data.toList) (by omega) (im b (by rw[<-bR];omega)) (im c (by rw[<-bR];omega))
theorem IJ{l:ByteArray}{cert:Bool}(h:(dq l cert).ok=true):(dq l cert).b=decide ((kS (dq l cert)).prob.num<0)/\(dq l cert).N=(kS (dq l cert)).prob.num.natAbs/\(dq l cert).D=(kS (dq l cert)).prob.den/\Fit 4001 (kS (dq l cert)).prob:=by
 unfold kS;unfold dq at h⊢;have key:∀q:Rat,Fit 4001 q->decide (q.num<0)=decide ((eh (decide (q.num<0)) q.num.natAbs q.den).num<0)/\q.num.natAbs=(eh (decide (q.num<0)) q.num.natAbs q.den).num.natAbs/\q.den=(eh (decide (q.num<0)) q.num.natAbs q.den).den/\Fit 4001 (eh (decide (q.num<0)) q.num.natAbs q.den):=fun q a=>by
  rw[fU];exact⟨Z,Z,Z,a⟩
 split at h
 ·cases h
 split at h
 ·next h1=>simp only[if_pos h1];exact key 1 ⟨by decide,by decide⟩
 next h1=>
 split at h
 ·cases h
 next h2=>
 split at h
 ·next h3=>simp only[if_neg h1,if_neg h2,if_pos h3];exact key _ (Cy _)
 cases h
theorem IK{l:ByteArray}{cert:Bool}:(dq l cert).vs.length<=l.size+1:=by
 unfold dq;split
 ·simp
 next vs r h=>
 have a:=(wC _ _ _ _ _ h).1;simp only[Ou]at a;split
 ·dsimp only;omega
 split
 ·simp
 split<;>(dsimp only;omega)
theorem KL{q:Rat}{vs:List V}(h:Fit 4001 q):FitT ⟨vs,q⟩:=⟨h.mono (by decide),(nK (a:=1) ⟨by decide,by decide⟩ h).mono (by decide)⟩
theorem Fk{w0:World}{G0:Bse}{c:Code}{Q:Exit->St->Prop}{n:Nat}{sl:List (Nat×Tree)}{bs bs':List (TypeId×List Tree)}{rs:List (Option Row)}(h:bs=bs')(k:AWP w0 G0 c Q ⟨n,sl,bs',rs⟩):AWP w0 G0 c Q ⟨n,sl,bs,rs⟩:=h▸k
theorem Cz{r:Rel}{t:Tp}(h:dH r t=0):r.tups.length<=64:=by
 refine oL (r:=r) ?_;unfold dH at h;split at h
 ·exact h
 next h1=>exact PV.1 h1
theorem mE:gS Tryz.prog 59=some (9,1):=by kernel_rfl
theorem wD(s:Sch)(b:List UInt8)(M:A8 b=true):Ct 10 [s.tree,.sl (am b)] (Nj (iC s b)):=by
 refine Ct.of (n:=65) Tryz.func10 Z Z Z Z Z fun w0 G0=>?_
 refine ab<|aj 4 Z<|ab<|ab<|ae<|aa 1 Z<|ag Z Z Z (ak Z (j2 s) Z Z)<|ag (t:=bT (!(gt s))) Z Z Z (dw Z Z Zy)<|af<|aH Z (fun k=>?_) (fun k=>?_)
 ·refine ab<|aj 4 Z<|ax<|⟨.inr Z,_,.cons ⟨_,_,_,_,Z,Z,.inl ⟨_,bm,Z,Z⟩⟩ (.cons Z (.cons Z .nil)),As (R:=Rel.zero) (i:=0) (e:=1) (x:=iC s b) (by unfold iC;rw[if_pos (by simpa using k)]),Z⟩
 have d:gt s=true:=by simpa using k
 have N:=ll d;refine ar<|ab<|ab<|ae<|aa 1 Z<|ag (t:=nI b.length) Z Z Z (ah (aW Z aP Z) (by simp only[Ol,aC]))<|ag (t:=bT (decide (16384<b.length))) Z Z Z (ah (ai Z Z Z Zy) (au (qH b.length 16384)))<|af<|aD Z (fun p=>?_) (fun p=>?_)
 ·refine ab<|aj 4 Z<|ax<|⟨.inr Z,_,.cons ⟨_,_,_,_,Z,Z,.inl ⟨_,bm,Z,Z⟩⟩ (.cons Z (.cons Z .nil)),As (R:=Rel.zero) (i:=0) (e:=4) (x:=iC s b) (by unfold iC;rw[if_neg (by rw[d];simp),if_pos p]),Z⟩
 refine ar<|ab<|aj 4 Z<|ab<|ae<|aa 2 Z<|ag Z Z Z (ak Z (v7 _ (by omega)) Z Z)<|aa 3 Z<|af<|ab<|ab ?_;obtain⟨c,j⟩:∃c:ByteArray,(⟨b.toArray⟩:ByteArray)=c:=⟨_,rfl⟩;have O:c.size=b.length:=by rw[<-j];simp[ByteArray.size]
 have E:=Cx c;have o:iC s b=eK s.cert (em c) 0 ⟨s,[]⟩:=by unfold iC;rw[if_neg (by rw[d];simp),if_neg p,j]
 refine ae<|aa 1 Z<|ag (t:=sT c) Z Z Z (ah (gM Z Z) (p7 j))<|ag Z Z Z (ak Z (IE c (by omega) E.1 (by omega)) Z Z)<|ag (t:=nI ((em c).length)) Z Z Z (ah (aW Z mE Z) (by simp only[Ol]))<|aa 1 Z<|af<|aA<|aO (fun H J=>∃(i:Nat) (r:Rel),(i<=(em c).length/\FitR r/\eK s.cert ((em c).drop i) i r=eK s.cert (em c) 0 ⟨s,[]⟩)/\H=(em c).length-i/\J=⟨65,[(2,.box 0 0),(4,.box 1 0),(7,.box 2 0),(31,.sl ((em c).map jB)),(32,nI ((em c).length)),(33,nI i)],[(26,(fm s)),(30,dB),(30,(a7 r))],[]⟩) 3 0 ⟨0,⟨s,[]⟩,⟨by omega,⟨by show s.cols.length<=_;omega,by simp,fun t C=>by cases C⟩,Z⟩,Z,Z⟩ .rf ?_;rintro H J ⟨i,r,⟨Q,B,a⟩,rfl,rfl⟩;refine ab<|ae<|ag (t:=bT (decide (i<(em c).length))) Z Z Z (ah (ai Z Z Z Zy) (au (gK i ((em c).length))))<|af<|ab<|aD Z (fun A=>?_) (fun A=>?_)
 ·obtain⟨l,h⟩:∃l,(em c)[i]? =some l:=⟨_,Og A⟩;have P:l.size<=c.size:=p9 _ _ _ _ _ (Om h);have D:A8 l.data.toList=true:=un _ _ _ _ _ (by rw[<-j];exact M) (Om h);rw[x9 h]at a;refine ar<|ab<|aA<|ab<|ae<|aa 1 Z<|ag (t:=.ref [sT l]) Z Z Z (aK (jB l) Z mE Z Z Z (aX (f:=jB) h) (wA _) Z)<|aa 3 Z<|af<|ab<|ab<|ae<|aa 1 Z<|ag (t:=bT (l.toList==(⟨#[]⟩:ByteArray).toList)) Z Z Z (ah (ai Z Z Z Zy) (au Z))<|af<|aH Z (fun u=>?_) (fun u=>?_)
  ·rw[if_pos u]at a;refine aQ<|ae<|ag (t:=nI (i+1)) Z Z Z (ah (ai Z Z Z Zy) (bp (by omega)))<|aa 1 Z<|af<|⟨_,_,?_,⟨i+1,r,?_,Z,Z⟩,.rf⟩
   ·omega
   exact⟨by omega,B,a⟩
  rw[if_neg (by rw[u];exact Pd)]at a;refine ar<|ab<|ae<|aa 3 Z<|ag Z Z Z (ak Z (KK l s.cert (by omega) D) Z Z)<|aa 6 Z<|af<|ab<|ab<|ae<|aa 1 Z<|ag (t:=bT (!((dq l s.cert).ok))) Z Z Z (dw Z Z Zy)<|af<|aH Z (fun q=>?_) (fun q=>?_)
  ·refine ab<|aj 5 Z<|ax<|⟨.inr Z,_,.cons ⟨_,_,_,_,Z,Z,.inl ⟨_,bm,Z,Z⟩⟩ (.cons Z (.cons Z .nil)),As (R:=Rel.zero) (i:=i) (e:=2) (x:=iC s b) (by rw[o,<-a,if_pos (by simpa using q)]),Z⟩
  have w:(dq l s.cert).ok=true:=by simpa using q
  rw[if_neg (by rw[w];simp)]at a;obtain⟨G,I,L,K⟩:=IJ w;have g:(kS (dq l s.cert)).vals.length<=65536:=by have:=IK (l:=l) (cert:=s.cert);show(dq l s.cert).vs.length<=_;omega
  have F:(dq l s.cert).vs=(kS (dq l s.cert)).vals:=rfl;obtain⟨t,C⟩:∃t,kS (dq l s.cert)=t:=⟨_,rfl⟩;rw[C]at F G I L K g a;have m:FitT t:=KL (vs:=t.vals) K;refine Fk (bs':=[(26,(fm s)),(30,dB),(30,(a7 r)),(67,(bY t))]) (by rw[F,G,I,L]<;>rfl)<|ar<|ab ?_;by_cases v:dH r t=0
  ·rw[if_pos v]at a;refine ae<|aa 2 Z<|ag Z Z Z (ak Z (EY r t B m g v) Z Z)<|aa 6 Z<|af<|ab<|ab<|ae<|aa 1 Z<|ag (t:=bT (decide (0≠0))) Z Z Z (ah (ai Z Z Z Zy) (au (qC 0 0)))<|af<|aD Z (fun y=>?_) (fun y=>?_)
   ·exact absurd Z y
   refine ar<|aj 2 Z<|ae<|ag (t:=nI (i+1)) Z Z Z (ah (ai Z Z Z Zy) (bp (by omega)))<|aa 1 Z<|af<|⟨_,_,?_,⟨i+1,(cZ r t),?_,Z,Z⟩,.rf⟩
   ·omega
   exact⟨by omega,(Af B m g (Cz v)).1,a⟩
  rw[if_neg v]at a;refine ae<|aa 2 Z<|ag Z Z Z (ak Z (Ch r t B m g v) Z Z)<|aa 6 Z<|af<|ab<|ab<|ae<|aa 1 Z<|ag (t:=bT ((dH r t) !=0)) Z Z Z (ai Z Z Z Zy)<|af<|aH Z (fun z=>?_) (fun z=>?_)
  ·refine ab<|aj 6 Z<|ax<|⟨.inr Z,_,.cons ⟨_,_,_,_,Z,Z,.inl ⟨_,bm,Z,Z⟩⟩ (.cons Z (.cons Z .nil)),As (R:=Rel.zero) (i:=i) (e:=dH r t) (x:=iC s b) (by rw[o,<-a]),Z⟩
  exact absurd (by simpa using z) v
 refine aQ<|ab<|aj 4 Z<|ax<|⟨.inr Z,_,.cons ⟨_,_,_,_,Z,Z,.inl ⟨_,bm,Z,Z⟩⟩ (.cons Z (.cons Z .nil)),As (R:=r) (i:=0) (e:=0) (x:=iC s b) (by rw[o,<-a,Ov (by omega)];rfl),Z⟩
def de:Nat->List V->List UInt8
 |_,[]=>[]
 |i,v::vs=>(if 0<i then [44]else [])++(v.fmt++de (i+1) vs)
def uo(cert:Bool)(t:Tp):List UInt8:=de 0 t.vals++((if cert then []else 58::(mD t.prob).data.toList)++[10])
def Ll(r:Rel):List UInt8:=r.tups.flatMap (uo r.sch.cert)
def qa(r:Rel):List UInt8:=if bD r=0 then Ll r else []
theorem Au{vs:List V}{j:Nat}{v:V}(h:vs[j]? =some v):de j (vs.drop j)=(if 0<j then [44]else [])++(v.fmt++de (j+1) (vs.drop (j+1))):=by
 obtain⟨a,rfl⟩:=Ok.1 h;rw[Ow a,de]
theorem CA{cert:Bool}{ts:List Tp}{i:Nat}{t:Tp}(h:ts[i]? =some t):(ts.drop i).flatMap (uo cert)=uo cert t++(ts.drop (i+1)).flatMap (uo cert):=by
 obtain⟨a,rfl⟩:=Ok.1 h;rw[Ow a,PZ]
theorem bd(a b:List UInt8):am (a++b)=am a++am b:=by simp[am]
theorem IL{a b:List UInt8}(h:a=b):(Tree.sl (am a))=.sl (am b):=by rw[h]
theorem IM(v:V)(h:v.rng):v.fmt.length<=130:=by
 unfold V.fmt;cases a:bJ v.t v.n v.s with
 |true=>exact(KG a h.1 h.2).2
 |false=>unfold fL;rw[a];simp
structure TxT (t:Tp):Prop where
 rng:∀v∈t.vals,v.rng
 num:(p8 t.prob.num.natAbs).size<=8192
 den:(p8 t.prob.den).size<=8192
theorem nq{t:Tp}(h:TxT t):(mD t.prob).size<=16400:=by
 have b:=h.num;have a:=h.den;have c:(Aj t.prob).size<=8193:=by
  unfold Aj;split
  ·rw[P7];show 1+_<=_;omega
  omega
 unfold mD;split
 ·omega
 rw[P7,P7];show _+(1+_)<=_;omega
theorem ns{r:Rel}(h:bD r=0):∀t∈r.tups,t.vals.length<=6:=fun t a=>by
 have b:=ij (gD (nn h) t a);have:=ll b.2.2.1;omega
theorem qb:(Tryz.prog.info? 5).bind (·.zero)=some (.int .u8 0):=by kernel_rfl
theorem CB(r:Rel)(I:FitR r)(F:∀t∈r.tups,TxT t):Ct 16 [r.tree] (.sl (am (qa r))):=by
 refine Ct.of (n:=53) Tryz.func16 Z Z Z Z Z fun w0 G0=>?_
 refine ab<|ae<|aa 1 Z<|ag (t:=.sl []) Z Z Z (bI (.inr Z) bQ)<|af<|ab<|ab<|ae<|aa 1 Z<|ag Z Z Z (ak Z (jh r I) Z Z)<|ag (t:=bT ((bD r) !=0)) Z Z Z (ai Z Z Z Zy)<|af<|aH Z (fun u=>?_) (fun u=>?_)
 ·have c:¬bD r=0:=by simpa using u
  refine ab<|ae<|ag (t:=.sl []) Z Z Z (bI (.inr Z) bQ)<|af<|ax<|⟨.inr Z,_,.cons Z .nil,IL (a:=[]) (by unfold qa;rw[if_neg c]),Z⟩
 have c:bD r=0:=by simpa using u
 have J:=oL c;refine ar<|ab<|ae<|fY (k:=0) (e:=5) (sz:=1) (rs':=[some ⟨5,1,am [],false⟩]) (.inr Z) Z Z Z Z Z<|af<|ab<|ab<|ae<|aa 2 Z<|ag (t:=nI r.tups.length) Z Z Z (ah (aW Z aM Z) (by simp only[Ol]))<|aa 1 Z<|af<|aA<|aO (fun B D=>∃(i:Nat) (g:List UInt8),(i<=r.tups.length/\g.length<=i*20000/\g++(r.tups.drop i).flatMap (uo r.sch.cert)=Ll r)/\B=r.tups.length-i/\D=⟨53,[(1,.box 0 0),(3,.own 0),(12,.sl (r.tups.map Tp.tree)),(13,nI r.tups.length),(14,nI i)],[(30,(a7 r))],[some ⟨5,1,am g,false⟩]⟩) 1 1 ⟨0,[],⟨by omega,by simp,Z⟩,Z,Z⟩ .rf ?_;rintro B D ⟨i,g,⟨M,H,h⟩,rfl,rfl⟩;refine ab<|ae<|ag (t:=bT (decide (i<r.tups.length))) Z Z Z (ah (ai Z Z Z Zy) (au (gK i r.tups.length)))<|af<|ab<|aD Z (fun C=>?_) (fun C=>?_)
 ·obtain⟨t,q⟩:∃t,r.tups[i]? =some t:=⟨_,Og C⟩;have o:=Om q;have m:=F t o;have L:=ns c t o;rw[CA q]at h;refine ar<|ab<|aA<|ab<|ae<|ag (t:=.ref (bY t)) Z Z Z (aK (Tp.tree t) Z aM Z Z Z (aX (f:=Tp.tree) q) (bS _) Z)<|aa 3 Z<|af<|ab<|ab<|ae<|aa 2 Z<|ag (t:=nI t.vals.length) Z Z Z (ah (aW Z bw Z) (by simp only[Ol]))<|aa 1 Z<|af<|aA<|aO (fun B D=>∃(j:Nat) (d:List UInt8),(j<=t.vals.length/\d.length<=g.length+j*131/\d++de j (t.vals.drop j)=g++de 0 t.vals)/\B=t.vals.length-j/\D=⟨53,[(1,.box 0 0),(3,.own 0),(5,.box 1 0),(12,.sl (r.tups.map Tp.tree)),(13,nI r.tups.length),(14,nI i),(19,.sl (t.vals.map V.tree)),(20,nI t.vals.length),(21,nI j)],[(30,(a7 r)),(67,(bY t))],[some ⟨5,1,am d,false⟩]⟩) 2 1 ⟨0,g,⟨by omega,by simp,Z⟩,Z,Z⟩ .rf ?_;rintro B D ⟨j,d,⟨N,K,b⟩,rfl,rfl⟩;refine ab<|ae<|ag (t:=bT (decide (j<t.vals.length))) Z Z Z (ah (ai Z Z Z Zy) (au (gK j t.vals.length)))<|af<|ab<|aD Z (fun E=>?_) (fun E=>?_)
  ·obtain⟨v,x⟩:∃v,t.vals[j]? =some v:=⟨_,Og E⟩;have w:=m.rng v (Om x);have G:=IM v w;rw[Au x]at b;refine ar<|ab<|aA<|ab<|ae<|aa 1 Z<|ag (t:=.ref [iT v.t,iT v.n,sT v.s]) Z Z Z (aK (V.tree v) Z bw Z Z Z (aX (f:=V.tree) x) (gc _) Z)<|aa 4 Z<|af<|ab<|ab<|ae<|aa 1 Z<|ag (t:=bT (decide (0<j))) Z Z Z (ah (ai Z Z Z Zy) (au (qH j 0)))<|af<|aD Z (fun A=>?_) (fun A=>?_)
   ·rw[if_pos A]at b;refine ae<|aa 1 rfl<|ag (t:=.sl [.sc (.int .u8 44)]) rfl rfl rfl (aN rfl aP cR rfl (by decide) (by decide) rfl rfl rfl rfl rfl)<|a8 (bs':=[(30,(a7 r)),(67,(bY t)),(77,[iT v.t,iT v.n,sT v.s])]) (rs':=[some ⟨5,1,am (d++[44]),false⟩]) rfl rfl rfl rfl aT rfl rfl rfl rfl (by intro e l;simp only[OC,O8,or_false]at l;subst l;rfl) (AllC.lit rfl) (AllC.lit rfl) (by simp only[aC,Oj,Oi,Ou];omega) rfl rfl rfl (by simp only[bd];rfl)<|aa 1 rfl<|af<|ae<|aa 2 rfl<|ag rfl rfl rfl (ak rfl (D6 v w) rfl rfl)<|kJ (bs':=[(30,(a7 r)),(67,(bY t)),(77,[iT v.t,iT v.n,sT v.s])]) (rs':=[some ⟨5,1,am ((d++[44])++v.fmt),false⟩]) rfl rfl rfl rfl aT qb bj rfl rfl rfl rfl (by simp only[aC,Oj,Oi,Ou];first|omega|(show _+v.fmt.length<=_;omega)) rfl rfl (by simp only[bd];rfl)<|aa 1 rfl<|af<|ae<|ag (t:=nI (j+1)) rfl rfl rfl (ah (ai rfl rfl rfl Zy) (bp (by omega)))<|aa 1 rfl<|af<|⟨_,_,?_,⟨j+1,((d++[44])++v.fmt),?_,rfl,rfl⟩,.rf⟩
    ·omega
    refine⟨by omega,?_,?_⟩
    ·simp only[Oj,Oi,Ou];omega
    rw[<-b];simp
   rw[if_neg A,Py]at b;refine ar<|ae<|aa 2 Z<|ag Z Z Z (ak Z (D6 v w) Z Z)<|kJ (bs':=[(30,(a7 r)),(67,(bY t)),(77,[iT v.t,iT v.n,sT v.s])]) (rs':=[some ⟨5,1,am (d++v.fmt),false⟩]) Z Z Z Z aT qb bj Z Z Z Z (by simp only[aC,Oj,Oi,Ou];first|omega|(show _+v.fmt.length<=_;omega)) Z Z (by simp only[bd];rfl)<|aa 1 Z<|af<|ae<|ag (t:=nI (j+1)) Z Z Z (ah (ai Z Z Z Zy) (bp (by omega)))<|aa 1 Z<|af<|⟨_,_,?_,⟨j+1,(d++v.fmt),?_,Z,Z⟩,.rf⟩
   ·omega
   refine⟨by omega,?_,?_⟩
   ·simp only[Oj,Oi,Ou];omega
   rw[<-b];simp
  rw[Ov (by omega:t.vals.length<=j),show de j []=[]from by cases j<;>rfl,O5]at b;refine aQ<|ab<|ab<|ae<|aa 3 Z<|ag (t:=bT (!r.sch.cert)) Z Z Z (dw Z Z Zy)<|af<|aH Z (fun y=>?_) (fun y=>?_)
  ·have z:r.sch.cert=false:=by simpa using y
   refine ab<|ae<|aa 1 rfl<|ag (t:=.sl [.sc (.int .u8 58)]) rfl rfl rfl (aN rfl aP cR rfl (by decide) (by decide) rfl rfl rfl rfl rfl)<|a8 (bs':=[(30,(a7 r)),(67,(bY t))]) (rs':=[some ⟨5,1,am (d++[58]),false⟩]) rfl rfl rfl rfl aT rfl rfl rfl rfl (by intro e l;simp only[OC,O8,or_false]at l;subst l;rfl) (AllC.lit rfl) (AllC.lit rfl) (by simp only[aC,Oj,Oi,Ou];omega) rfl rfl rfl (by simp only[bd];rfl)<|aa 1 rfl<|af<|ae<|aa 3 rfl<|ag rfl rfl rfl (ak rfl (Fj t.prob (I.tup t o).1.p (by have:=m.num;omega) (by have:=m.den;omega)) rfl rfl)<|kJ (bs':=[(30,(a7 r)),(67,(bY t))]) (rs':=[some ⟨5,1,am ((d++[58])++(mD t.prob).data.toList),false⟩]) rfl rfl rfl rfl aT qb bj rfl rfl rfl rfl (by have:=nq m;have e:(mD t.prob).data.toList.length=(mD t.prob).size:=(by simp);simp only[aC,Oj,Oi,Ou,e];omega) rfl rfl (by simp only[bd];rfl)<|aa 1 rfl<|af<|ae<|aa 1 rfl<|ag (t:=.sl [.sc (.int .u8 10)]) rfl rfl rfl (aN rfl aP cR rfl (by decide) (by decide) rfl rfl rfl rfl rfl)<|a8 (bs':=[(30,(a7 r)),(67,(bY t))]) (rs':=[some ⟨5,1,am (((d++[58])++(mD t.prob).data.toList)++[10]),false⟩]) rfl rfl rfl rfl aT rfl rfl rfl rfl (by intro e l;simp only[OC,O8,or_false]at l;subst l;rfl) (AllC.lit rfl) (AllC.lit rfl) (by have:=nq m;have e:(mD t.prob).data.toList.length=(mD t.prob).size:=(by simp);simp only[aC,Oj,Oi,Ou,e];omega) rfl rfl rfl (by simp only[bd];rfl)<|aa 1 rfl<|af<|ae<|ag (t:=nI (i+1)) rfl rfl rfl (ah (ai rfl rfl rfl Zy) (bp (by omega)))<|aa 1 rfl<|af<|⟨_,_,?_,⟨i+1,(((d++[58])++(mD t.prob).data.toList)++[10]),?_,rfl,rfl⟩,.rf⟩
   ·omega
   refine⟨by omega,?_,?_⟩
   ·have:=nq m;have e:(mD t.prob).data.toList.length=(mD t.prob).size:=by simp
    simp only[Oj,Oi,Ou,e];omega
   rw[<-h];unfold uo;rw[z,b];simp
  have z:r.sch.cert=true:=by simpa using y
  refine ar<|ae<|aa 1 rfl<|ag (t:=.sl [.sc (.int .u8 10)]) rfl rfl rfl (aN rfl aP cR rfl (by decide) (by decide) rfl rfl rfl rfl rfl)<|a8 (bs':=[(30,(a7 r)),(67,(bY t))]) (rs':=[some ⟨5,1,am (d++[10]),false⟩]) rfl rfl rfl rfl aT rfl rfl rfl rfl (by intro e l;simp only[OC,O8,or_false]at l;subst l;rfl) (AllC.lit rfl) (AllC.lit rfl) (by have:=nq m;have e:(mD t.prob).data.toList.length=(mD t.prob).size:=(by simp);simp only[aC,Oj,Oi,Ou,e];omega) rfl rfl rfl (by simp only[bd];rfl)<|aa 1 rfl<|af<|ae<|ag (t:=nI (i+1)) rfl rfl rfl (ah (ai rfl rfl rfl Zy) (bp (by omega)))<|aa 1 rfl<|af<|⟨_,_,?_,⟨i+1,(d++[10]),?_,rfl,rfl⟩,.rf⟩
  ·omega
  refine⟨by omega,?_,?_⟩
  ·have:=nq m;have e:(mD t.prob).data.toList.length=(mD t.prob).size:=by simp
   simp only[Oj,Oi,Ou,e];omega
  rw[<-h];unfold uo;rw[z,b];simp
 refine dI 0 (bs':=[(30,(a7 r))]) (rs':=[none]) Z Z Z Z<|aQ<|ab<|aj 2 Z<|ax<|⟨.inr Z,_,.cons Z .nil,IL (by unfold qa;rw[if_pos c,<-h,Ov (by omega)];simp),Z⟩
def gW(x:Int):Tree:=.sc (.int .i64 x)
theorem oO(l:List Int):Sized 1 (l.map gW):=Sized.map _ l fun _=>rfl
theorem Fl(l:List Rel):Sized 4 (l.map Rel.tree):=Sized.map _ l fun _=>rfl
theorem rh(l:List Sch):Sized 3 (l.map Sch.tree):=Sized.map _ l fun _=>rfl
def uq:List Int:=[1,1,2,1,1,0,3,1]
def r5:List Int:=[2,3,3,4,1,1,5,7]
def iJ:List Rat:=[eh false 1 2,eh false 1 3,eh false 2 3,eh false 1 4,eh false 1 1,eh false 0 1,eh false 3 5,eh false 1 7]
def dh(n:Nat):Rat:=eh ((decide (uq.getD (n%8) 0<0)) !=(decide (r5.getD (n%8) 0<0))) (uq.getD (n%8) 0).natAbs (r5.getD (n%8) 0).natAbs
theorem Ml(n:Nat):n%8=0\/n%8=1\/n%8=2\/n%8=3\/n%8=4\/n%8=5\/n%8=6\/n%8=7:=by omega
theorem wF(n:Nat):dh n∈iJ:=by
 unfold dh iJ;rcases Ml n with h|h|h|h|h|h|h|h<;>rw[h]<;>simp[uq,r5]
theorem ya(n:Nat):uq[n%8]? =some (uq.getD (n%8) 0)/\ -9223372036854775808<=uq.getD (n%8) 0/\uq.getD (n%8) 0<=9223372036854775807:=by
 rcases Ml n with h|h|h|h|h|h|h|h<;>rw[h]<;>simp[uq]
theorem sx(n:Nat):r5[n%8]? =some (r5.getD (n%8) 0)/\ -9223372036854775808<=r5.getD (n%8) 0/\r5.getD (n%8) 0<=9223372036854775807/\r5.getD (n%8) 0≠0:=by
 rcases Ml n with h|h|h|h|h|h|h|h<;>rw[h]<;>simp[r5]
def Mm:Col:=⟨⟨#[97]⟩,1,false⟩
def Nk:Col:=⟨⟨#[98]⟩,1,false⟩
def mF:List Sch:=[⟨⟨#[82]⟩,false,[Mm,Nk]⟩,⟨⟨#[83]⟩,false,[Mm]⟩,⟨⟨#[75]⟩,false,[⟨⟨#[107]⟩,1,true⟩,⟨⟨#[118]⟩,1,false⟩]⟩,⟨⟨#[67]⟩,true,[Mm,Nk]⟩]
def iG:Sch:=⟨⟨#[78]⟩,false,[⟨⟨#[110,97,109,101]⟩,2,true⟩,⟨⟨#[110]⟩,1,false⟩]⟩
def b9:List ByteArray:=[⟨#[]⟩,⟨#[97]⟩,⟨#[105,116,39,115]⟩,⟨#[120,44,121,58,122]⟩,⟨#[32]⟩]
theorem lB(n:Nat):b9[n%5]? =some (b9.getD (n%5) ⟨#[]⟩)/\(b9.getD (n%5) ⟨#[]⟩).size<=5:=by
 have h:n%5=0\/n%5=1\/n%5=2\/n%5=3\/n%5=4:=by omega
 rcases h with h|h|h|h|h<;>rw[h]<;>exact⟨rfl,by decide⟩
structure Good (r:Rel):Prop where
 valid:bD r=0
 prob:∀t∈r.tups,t.prob∈iJ
 str:IA r
 rng:∀t∈r.tups,∀v∈t.vals,v.rng
 len:r.tups.length<=3
 sch:r.sch∈mF\/r.sch=iG
theorem ri{q:Rat}(h:q∈iJ):Fit 1 q/\0<=q/\q<=1/\(p8 q.num.natAbs).size<=1/\(p8 q.den).size<=1:=by
 unfold iJ at h;simp only[OC,Qf,or_false]at h;rcases h with rfl|rfl|rfl|rfl|rfl|rfl|rfl|rfl<;>exact⟨⟨by decide+kernel,by decide+kernel⟩,by decide+kernel,by decide+kernel,by decide+kernel,by decide+kernel⟩
theorem mG{t:Tp}(h:t.prob∈iJ):FitT t:=⟨(ri h).1.mono (by decide),(nK (a:=1) (b:=1) ⟨by decide,by decide⟩ (ri h).1).mono (by decide)⟩
theorem Fm:(1:Rat)∈iJ:=by
 have:(1:Rat)=eh false 1 1:=by decide+kernel
 rw[this];simp[iJ]
theorem rj{s:Sch}(h:s∈mF\/s=iG):s.cols.length<=2/\gt s=true:=by
 unfold mF iG at h;simp only[OC,Qf,or_false]at h;rcases h with(rfl|rfl|rfl|rfl)|rfl<;>exact⟨by decide,by decide+kernel⟩
theorem Good.fit{r:Rel}(h:Good r):FitR r/\∀t∈r.tups,TxT t:=by
 have b:=ns h.valid;refine⟨⟨by have:=(rj h.sch).1;omega,by have:=h.len;omega,fun t a=>⟨mG (h.prob t a),by have:=b t a;omega⟩⟩,fun t a=>?_⟩;have c:=ri (h.prob t a);exact⟨h.rng t a,by omega,by omega⟩
def GoodK(s:Sch)(k:Nat)(r:Rel):Prop:=Good r/\r.sch=s/\r.tups.length<=k
theorem ur{s:Sch}(h:s∈mF\/s=iG):GoodK s 0 ⟨s,[]⟩:=by
 refine⟨{valid:=?_,prob:=fun t a=>(by cases a),str:=fun t a=>(by cases a),rng:=fun t a=>(by cases a),len:=OA _,sch:=h},Z,OA _⟩;unfold bD;rw[if_neg (by rw[(rj h).2];simp)];have:bf ⟨s,[]⟩=[]:=by unfold bf;split<;>rfl
 simp[this,bU,rY,og]
theorem Av{s:Sch}{k:Nat}{r:Rel}{t:Tp}(h:GoodK s k r)(m:k<3)(a:cB r t=0)(e:t.prob∈iJ)(i:Cr t)(f:∀v∈t.vals,v.rng):GoodK s (k+1) (cZ r t):=by
 obtain⟨c,l,n⟩:=h;have j:∀x∈(cZ r t).tups,x∈r.tups\/x=t:=fun x b=>by
  unfold cZ at b;simp only[OZ,OG]at b;rcases b with(h|h)|h
  ·exact .inl (OV h)
  ·exact .inr h
  exact .inl (Pq h)
 have g:bD (cZ r t)=0:=by
  unfold cB at a;split at a
  ·next h=>exact absurd a h
  split at a
  ·next h=>exact absurd a h
  split at a
  ·cases a
  exact a
 have d:(cZ r t).tups.length<=k+1:=by
  unfold cZ;simp only[Oj,Ox,OP,PO];omega
 refine⟨⟨g,fun x b=>?_,fun x b=>?_,fun x b=>?_,by omega,c.sch⟩,l,d⟩<;>rcases j x b with h|rfl
 ·exact c.prob x h
 ·exact e
 ·exact c.str x h
 ·exact i
 ·exact c.rng x h
 exact f
theorem GoodK.more{s:Sch}{k:Nat}{r:Rel}(h:GoodK s k r):GoodK s (k+1) r:=⟨h.1,h.2.1,by have:=h.2.2;omega⟩
theorem yb{r:Rel}{t:Tp}(h:cB r t=0):mR r t=.tup [(cZ r t).tree,iT 0]:=by unfold mR;rw[if_pos h,h]
theorem ut{r:Rel}{t:Tp}(h:cB r t≠0):mR r t=.tup [sn,iT (cB r t)]:=by unfold mR;rw[if_neg h]
theorem qc(n:Int):Ct 38 [iT n] (V.tree ⟨1,n,⟨#[]⟩⟩):=⟨⟨_,Tryz.func38,Z,Z⟩,fun G w vs _ _ c=>by
 obtain⟨u,rfl,a⟩:=dZ c;cases a;refine(BC n w).mono ?_;rintro e w' ⟨rfl,b⟩;exact⟨_,Z,.agg [.int .i64 1,.int .i64 n,.string ⟨#[]⟩] _ (.sc _ (.sc _ (.sc _ .nil))) .nil,b⟩⟩
theorem sy(s:ByteArray):Ct 37 [sT s] (V.tree ⟨2,0,s⟩):=⟨⟨_,Tryz.func37,Z,Z⟩,fun G w vs _ _ c=>by
 obtain⟨u,rfl,a⟩:=dZ c;cases a;refine(BD s w).mono ?_;rintro e w' ⟨rfl,b⟩;exact⟨_,Z,.agg [.int .i64 2,.int .i64 0,.string s] _ (.sc _ (.sc _ (.sc _ .nil))) .nil,b⟩⟩
theorem kF:gS Tryz.prog 128=some (2,1):=by kernel_rfl
theorem j9:gS Tryz.prog 52=some (26,3):=by kernel_rfl
theorem MD:ja Tryz.prog 2=true:=by kernel_rfl
theorem Mn:(Tryz.prog.info? 26).map (·.size)=some 3:=by kernel_rfl
theorem Mo:sM Tryz.prog 26=some ([(0,1),(1,1),(2,1)],[.string (⟨#[]⟩),.bool false,.slice none 0 0]):=by kernel_rfl
theorem CC:sM Tryz.prog 58=some ([(0,1),(1,1),(2,1)],[.string (⟨#[]⟩),.int .i64 0,.bool false]):=by kernel_rfl
theorem wG:gJ Tryz.prog 2=some [.int .i64 0]:=by kernel_rfl
theorem CD:gJ Tryz.prog 26=some [.string (⟨#[]⟩),.bool false,.slice none 0 0]:=by kernel_rfl
theorem D7(l:List Int)(i:Nat)(g:l.length<=9223372036854775807)(h:i<65536):CtE 35 [.sl (l.map gW),nI i] (fun e=>∃n:Nat,n<4294967296/\e=nI n):=by
 refine CtE.of (n:=23) Tryz.func35 Z Z Z Z Z fun w0 G0=>?_
 refine ab<|aj 1 Z<|ab<|ab<|ae<|aa 1 Z<|ag (t:=nI l.length) Z Z Z (ah (aW Z cL Z) (by simp only[Ol]))<|ag (t:=bT (decide (l.length=0))) Z Z Z (ah (ai Z Z Z Zy) (au (iF l.length 0)))<|af<|aD Z (fun b=>?_) (fun b=>?_)
 ·refine ab<|ae<|aa 1 Z<|ag (t:=nI ((((i:Nat):Int)%65536).toNat)) Z Z Z (ai Z Z Z (fun w=>vz ((i:Nat):Int) w))<|aa 1 Z<|af<|ax<|⟨_,⟨_,by first|omega|(have:=SP x (show(0:Int)<65536 by decide);omega),Z⟩,.inr Z,_,.cons Z .nil,Z,Z⟩
 have a:0<l.length:=by omega
 obtain⟨x,c⟩:∃x,l[i%l.length]? =some x:=⟨_,Og (Pe _ a)⟩;have d:i/l.length<=i:=Ql _ _;refine ar<|ab<|ck (fu:=14) [some 10,some 11,some 12,some 13,some 14,some 15,some 16,some 17,some 18,some 19,some 20,some 21,some 22,some 4] [.sl (l.map gW),nI i,.sl (l.map gW),nI l.length,nI (i%l.length),.ref [iT x],iT x,nI ((x%65536).toNat),nI i,.sl (l.map gW),nI l.length,nI (i/l.length),nI (((x%65536).toNat)+(i/l.length)),nI (((x%65536).toNat)+(i/l.length))] (by kernel_rfl) Z Z (by kernel_rfl) Z ?_ ?_
 ·refine Chain.op Z (av Z Z)<|Chain.op Z (av Z Z)<|Chain.op Z (av Z Z)<|Chain.op Z (ah (aW Z cL Z) (by simp only[Ol]))<|Chain.op Z (ai Z Z Z (fun w=>lS i l.length (by omega) w))<|Chain.op Z (aK (gW x) Z cL Z Z Z (aX (f:=gW) c) (oO _) Z)<|Chain.op Z (be Z Z eQ Z)<|Chain.op Z (ai Z Z Z (fun w=>vz x w))<|Chain.op Z (av Z Z)<|Chain.op Z (av Z Z)<|Chain.op Z (ah (aW Z cL Z) (by simp only[Ol]))<|Chain.op Z (ai Z Z Z (fun w=>se i l.length (by omega) (by omega) w))<|Chain.op Z (ah (ai Z Z Z Zy) (bp (by omega)))<|Chain.op Z (bE Z Z)<|Chain.nil
 refine ax<|⟨_,⟨_,by first|omega|(have:=SP x (show(0:Int)<65536 by decide);omega),Z⟩,.inr Z,_,.cons Z .nil,Z,Z⟩
theorem qe(n:Nat):Ct 39 [nI n] (dA (dh n)):=by
 refine Ct.of (n:=24) Tryz.func39 Z Z Z Z Z fun w0 G0=>?_
 refine ab<|aj 1 Z<|ab<|ae<|ag (t:=.sl (uq.map gW)) Z Z Z (ah (aN Z kF wG Z (by decide) (by decide) Z Z Z Z Z) (rfl))<|aa 1 Z<|ag (t:=nI (n%8)) Z Z Z (ai Z Z Z (fun w=>yD n w))<|ag (t:=.ref [iT (uq.getD (n%8) 0)]) Z Z Z (aK (gW (uq.getD (n%8) 0)) Z kF Z Z Z (aX (f:=gW) (ya n).1) (oO _) Z)<|aa 2 Z<|af<|ab<|ae<|ag (t:=.sl (r5.map gW)) Z Z Z (ah (aN Z kF wG Z (by decide) (by decide) Z Z Z Z Z) (rfl))<|aa 1 Z<|ag (t:=nI (n%8)) Z Z Z (ai Z Z Z (fun w=>yD n w))<|ag (t:=.ref [iT (r5.getD (n%8) 0)]) Z Z Z (aK (gW (r5.getD (n%8) 0)) Z kF Z Z Z (aX (f:=gW) (sx n).1) (oO _) Z)<|aa 2 Z<|af<|ab<|ae<|aa 2 Z<|ag Z Z Z (ak Z (KB _ _ (ya n).2.1 (ya n).2.2 (sx n).2.1 (sx n).2.2.1 (sx n).2.2.2) Z Z)<|aa 6 Z<|af<|ab<|aj 2 Z<|ax<|⟨.inr Z,_,.cons ⟨_,_,_,_,Z,Z,.inl ⟨_,aI,Z,Z⟩⟩ .nil,Z,Z⟩
theorem CE:Ct 24 [] (.sl (mF.map Sch.tree)):=by
 refine Ct.of (n:=21) Tryz.func24 Z Z Z Z Z fun w0 G0=>?_
 refine ab<|ae<|ag (t:=.sl []) Z Z Z (bI (.inr Z) bQ)<|af<|ab<|aj 6 Z<|ab<|ae<|aa 2 Z<|ag (t:=.sl [.agg [sT (⟨#[97]⟩),iT 1,bT false],.agg [sT (⟨#[98]⟩),iT 1,bT false]]) Z Z Z (aN Z bh iO Z (by decide) (by decide) Z Z Z Z Z)<|aa 2 Z<|ag (t:=.sl [.agg [sT (⟨#[97]⟩),iT 1,bT false]]) Z Z Z (aN Z bh iO Z (by decide) (by decide) Z Z Z Z Z)<|aa 3 Z<|ag (t:=.sl [.agg [sT (⟨#[107]⟩),iT 1,bT true],.agg [sT (⟨#[118]⟩),iT 1,bT false]]) Z Z Z (aN Z bh iO Z (by decide) (by decide) Z Z Z Z Z)<|aa 3 Z<|ag (t:=.sl [.agg [sT (⟨#[97]⟩),iT 1,bT false],.agg [sT (⟨#[98]⟩),iT 1,bT false]]) Z Z Z (aN Z bh iO Z (by decide) (by decide) Z Z Z Z Z)<|aa 1 Z<|ag (t:=.sl [.agg [sT (⟨#[82]⟩),bT false,.sl [.agg [sT (⟨#[97]⟩),iT 1,bT false],.agg [sT (⟨#[98]⟩),iT 1,bT false]]],.agg [sT (⟨#[83]⟩),bT false,.sl [.agg [sT (⟨#[97]⟩),iT 1,bT false]]],.agg [sT (⟨#[75]⟩),bT false,.sl [.agg [sT (⟨#[107]⟩),iT 1,bT true],.agg [sT (⟨#[118]⟩),iT 1,bT false]]],.agg [sT (⟨#[67]⟩),bT true,.sl [.agg [sT (⟨#[97]⟩),iT 1,bT false],.agg [sT (⟨#[98]⟩),iT 1,bT false]]]]) Z Z Z (aN Z j9 CD Z (by decide) (by decide) Z Z Z Z Z)<|aa 1 Z<|af<|ax<|⟨.inr Z,_,.cons Z .nil,Z,Z⟩
theorem uu:Ct 25 [] (iG.tree):=by
 refine Ct.of (n:=5) Tryz.func25 Z Z Z Z Z fun w0 G0=>?_
 refine ab<|aj 1 Z<|ab<|ae<|aa 2 Z<|ag (t:=.sl [.agg [sT (⟨#[110,97,109,101]⟩),iT 2,bT true],.agg [sT (⟨#[110]⟩),iT 1,bT false]]) Z Z Z (aN Z bh iO Z (by decide) (by decide) Z Z Z Z Z)<|aa 2 Z<|af<|ax<|⟨.inr Z,_,.cons ⟨_,_,_,_,Z,Z,.inl ⟨_,gA,Z,Z⟩⟩ .nil,Z,Z⟩
def bs(l:List UInt8):ByteArray:=⟨l.toArray⟩
theorem fG(l:List UInt8):(bs l).data.toList=l:=by simp[bs]
theorem Lm(s:ByteArray):bs s.data.toList=s:=lT s
theorem Ln{s t:ByteArray}(h:s.data.toList=t.data.toList):s=t:=by rw[<-Lm s,<-Lm t,h]
theorem yc(l:List UInt8):(bs l).size=l.length:=by rw[bR,fG]
theorem yd(a b:List UInt8):(bs (a++b)).extract 0 a.length=bs a:=Ln (by rw[lx,fG,fG];simp)
theorem qf(a b:List UInt8):(bs (a++b)).extract a.length (bs (a++b)).size=bs b:=Ln (by rw[lx,fG,fG,yc,Oy (Oh _)];simp)
theorem uv{c:UInt8}:∀{l:List UInt8},c∉l->Lib.index l [c]= -1
 |[],_=>by simp[Lib.index]
 |b::l,h=>by
  have g:b≠c:=fun e=>h (by rw[e];simp)
  have d:=uv (c:=c) (l:=l) fun a=>h (OX _ a)
  have f:([c]:List UInt8).isPrefixOf (b::l)=false:=by simp[List.isPrefixOf,Ne.symm g]
  rw[Lib.index,f,d];simp
theorem Aw{c:UInt8}{b:List UInt8}:∀{a:List UInt8},c∉a->Lib.index (a++c::b) [c]=(a.length:Int)
 |[],_=>by rw[Py,Lib.index];simp[List.isPrefixOf]
 |x::a,h=>by
  have i:x≠c:=fun e=>h (by rw[e];simp)
  have f:=Aw (c:=c) (b:=b) (a:=a) fun d=>h (OX _ d)
  have g:([c]:List UInt8).isPrefixOf (x::(a++c::b))=false:=by simp[List.isPrefixOf,Ne.symm i]
  rw[PD,Lib.index,g,f,if_neg (by simp),if_neg (by simp)];simp
theorem uw{a:List UInt8}(h:(10:UInt8)∉a):em (bs a)=[bs a]:=by
 unfold em;refine Lib.splitB_miss _ _ _ _ ?_;unfold Lib.indexB;rw[fG];exact uv h
theorem nt{a b:List UInt8}(h:(10:UInt8)∉a):em (bs (a++10::b))=bs a::em (bs b):=by
 have d:Lib.indexB (bs (a++10::b)) ⟨#[10]⟩=(a.length:Int):=by
  unfold Lib.indexB;rw[fG];exact Aw h
 have c:(bs (a++10::b)).extract (a.length+(⟨#[10]⟩:ByteArray).size) (bs (a++10::b)).size=bs b:=by
  have:=qf (a++[10]) b;rw[O0,Oj]at this;exact this
 unfold em;rw[Lib.countB_hit _ _ _ (by decide) d,c,P0 1,Lib.splitB_hit _ _ _ _ _ d,c,PI,yd]
theorem ye:∀(k u:Nat),u<=k->∀c∈Lib.decDigits u,48<=c.toNat/\c.toNat<=57
 |0,u,h,c,a=>by
  rw[Lib.decDigits_one (by omega),OG]at a;rw[a,gn _ (by omega)];omega
 |k+1,u,h,c,a=>by
  by_cases b:u<10
  ·rw[Lib.decDigits_one b,OG]at a;rw[a,gn _ b];omega
  rw[Lib.decDigits,dif_neg b]at a;rcases OZ.1 a with a|a
  ·exact ye k (u/10) (by omega) c a
  rw[OG]at a;rw[a,gn _ (by omega)];omega
def KM(c:UInt8):Prop:=c.toNat=45\/(48<=c.toNat/\c.toNat<=57)
theorem IN(n:Int):∀c∈Lib.itoa n,KM c:=fun c a=>by
 unfold Lib.itoa at a;split at a
 ·rcases OC.1 a with rfl|a
  ·exact .inl Z
  exact .inr (ye _ _ (Oh _) c a)
 exact .inr (ye _ _ (Oh _) c a)
theorem Fn{v:V}(a:v.ok=true):v.fmt=Lib.itoa v.n\/∃l:List UInt8,l.all pj=true/\v.fmt=39::(lU l++[39]):=by
 unfold V.ok at a;unfold V.fmt fL;rw[if_pos a];by_cases h:v.t=1
 ·rw[if_pos h];exact .inl Z
 rw[if_neg h];unfold bJ at a;rw[if_neg h]at a;simp only[Oo]at a;exact .inr ⟨_,a.2,by simp⟩
theorem ux{a:List UInt8}(f:a.head?≠some 39):∀(l:List UInt8) (i:Nat),lz (lU l++39::a) i=i+(lU l).length+1
 |[],i=>by
  cases a with
  |nil=>rfl
  |cons d a=>
   have o:d≠39:=fun e=>f (by rw[e];rfl)
   have b:d.toNat≠39:=fun e=>o (Qu.1 e)
   rw[lU,Py,lz,if_neg (by decide),if_pos b];rfl
 |c::l,i=>by
  by_cases k:c=39
  ·have g:=ux f l (i+2);rw[lU,if_pos k,PD,PD,lz,if_neg (by decide),if_neg (by decide),g];simp only[Oi];omega
  have g:=ux f l (i+1);have j:c.toNat≠39:=fun e=>k (Qu.1 e)
  obtain⟨d,m,n⟩:∃d m,lU l++39::a=d::m:=by
   cases h:lU l with
   |nil=>exact⟨39,a,Z⟩
   |cons d m=>exact⟨d,m++39::a,Z⟩
  rw[lU,if_neg k,PD,n,lz,if_pos j,<-n,g];simp only[Oi];omega
def NM(rest:List UInt8):Prop:=rest=[]\/∃c r,rest=c::r/\(c=44\/c=58)
theorem KN{c:UInt8}(h:KM c):(c==44||c==58)=false/\c≠39:=by
 unfold KM at h;refine⟨?_,fun e=>by subst e;revert h;decide⟩;rw[OH,beq_eq_false_iff_ne,beq_eq_false_iff_ne];exact⟨fun e=>by subst e;revert h;decide,fun e=>by subst e;revert h;decide⟩
theorem wH{a:List UInt8}(e:NM a):∀{l:List UInt8},(∀c∈l,KM c)->mQ (l++a)=if a=[]then-1 else(l.length:Int)
 |[],_=>by
  rw[Py];rcases e with rfl|⟨c,r,rfl,g⟩
  ·rfl
  rw[if_neg (by simp)];have b:(c==44||c==58)=true:=by rcases g with rfl|rfl<;>rfl
  unfold mQ;rw[RD,b,PH,b];rfl
 |c::l,h=>by
  have d:=wH e (l:=l) fun x f=>h x (OX _ f)
  have b:=(KN (h c (OR ..))).1;unfold mQ at d⊢;rw[PD,RD,b,SD,PH,b];simp only[Bool.not_false,if_true];split at d
  ·next h1=>
   rw[if_pos h1];split at d
   ·omega
   next h2=>rw[if_neg h2];simp only[Oi];omega
  next h1=>
  rw[if_neg h1];split at d
  ·next h2=>rw[if_pos h2]
  omega
theorem Az{v:V}(i:v.ok=true){a:List UInt8}(d:NM a):j8 (bs (v.fmt++a))=v.fmt.length:=by
 unfold j8 oM;rw[fG,yc];rcases Fn i with h|⟨l,k,h⟩
 ·obtain⟨c,r,e,b⟩:=k6 v.n;have j:=IN v.n;rw[h];have f:Lib.hasPrefix (Lib.itoa v.n++a) [39]=false:=by
   rw[e];simp[Lib.hasPrefix,List.isPrefixOf,Ne.symm b]
  rw[f,if_neg (by simp),wH d j];rcases d with rfl|⟨c,r,rfl,b⟩
  ·simp
  simp
 rw[h];have f:Lib.hasPrefix (39::(lU l++[39])++a) [39]=true:=by simp[Lib.hasPrefix,List.isPrefixOf]
 have g:a.head?≠some 39:=by
  rcases d with rfl|⟨c,r,rfl,b⟩
  ·simp
  rcases b with rfl|rfl<;>simp
 rw[f,if_pos Z,PD,Qx,PQ,O0,RH,ux g];simp only[Oi,Oj,Ou];omega
theorem uy{v:V}(e:v.ok=true)(a:v.rng):j7 (bs v.fmt)=some v:=by
 have j:x6 (bs v.fmt) v:=⟨e,a,fG _⟩;cases h:j7 (bs v.fmt)with
 |none=>exact absurd j (rO h v)
 |some u=>
  obtain⟨i,g,c⟩:=rN h;rw[fG]at c;obtain⟨f,d,b⟩:=JP i e g.1 g.2 a.1 a.2 c.symm;cases u;cases v;simp only at f d b;rw[f,d,b]
def SepE(rest:List UInt8):Prop:=rest=[]\/∃r,rest=58::r
theorem SepE.sep{a:List UInt8}(h:SepE a):NM a:=by
 rcases h with h|⟨r,h⟩
 ·exact .inl h
 exact .inr ⟨58,r,h,.inr Z⟩
theorem Nl{a:List UInt8}(h:SepE a):Lib.hasPrefix a [44]=false:=by
 rcases h with rfl|⟨r,rfl⟩<;>simp[Lib.hasPrefix,List.isPrefixOf]
def Lo(v:V):Prop:=v.ok=true/\v.rng
theorem wI{a:List UInt8}(g:SepE a):∀(vs:List V) (v:V) (n:Nat) (b:List V),vs.length<n->Lo v->(∀x∈vs,Lo x)->lA n (bs (v.fmt++(de 1 vs++a))) b=some (b++v::vs,bs a)
 |[],v,n+1,b,_,hv,_=>by
  rw[lA,de,Py,Az hv.1 g.sep,yd,uy hv.1 hv.2,qf,fG,Nl g];simp
 |u::vs,v,n+1,b,hn,hv,hvs=>by
  have f:∀(i:Nat),0<i->∀l,de i l=de 1 l:=by
   intro i h l;induction l generalizing i with
   |nil=>rfl
   |cons x l c=>rw[de,de,if_pos h,if_pos (by omega),c (i+1) (by omega),c 2 (by omega)]
  have e:de 1 (u::vs)++a=44::(u.fmt++(de 1 vs++a)):=by
   rw[de,if_pos (by omega),f 2 (by omega)];simp
  have c:=wI g vs u n (b++[v]) (by simpa using hn) (hvs u (OR ..)) fun x j=>hvs x (OX _ j)
  have d:NM (44::(u.fmt++(de 1 vs++a))):=.inr ⟨44,_,Z,.inl Z⟩;have k:=qf [44] (u.fmt++(de 1 vs++a));rw[lA,e,Az hv.1 d,yd,uy hv.1 hv.2,qf,fG];simp only;rw[if_pos (by simp[Lib.hasPrefix,List.isPrefixOf])];have m:(bs (44::(u.fmt++(de 1 vs++a)))).extract 1 (bs (44::(u.fmt++(de 1 vs++a)))).size=bs (u.fmt++(de 1 vs++a)):=k;rw[m,c];simp
end Go.Proofs.YtfoejfohbkmmeaaGreatDoor
