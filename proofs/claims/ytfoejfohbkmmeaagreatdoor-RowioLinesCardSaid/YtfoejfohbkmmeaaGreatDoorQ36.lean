import Derived.Test.YtfoejfohbkmmeaaGreatDoorQ35
import Derived.Test.YtfoejfohbkmmeaaGreatDoorQ07
import Derived.Test.YtfoejfohbkmmeaaGreatDoorQ00
set_option maxRecDepth 100000
set_option maxHeartbeats 4000000
namespace Go.Proofs.YtfoejfohbkmmeaaGreatDoor
open Go.RowKit
open Lib renaming hid→J
theorem o9{a b:ByteArray}(h:a=b):(Tree.sc (.string a))=sT b:=by rw[h]
theorem F1{k:IntKind}{a b:Nat}(h:a=b):(Tree.sc (.int k ((a:Nat):Int)))=.sc (.int k ((b:Nat):Int)):=by rw[h]
theorem wl{α:Type}{p:α->Bool}:∀{l:List α} {x:α},x∈l.takeWhile p->p x=true
 |[],x,h=>by simp at h
 |a::l,x,h=>by
  rw[Nh]at h;split at h
  ·next ha=>
   rcases Mi.1 h with rfl|h
   ·exact ha
   exact wl h
  cases h
theorem rh{l:List UInt8}(h:tO l=l.length):l.all dK=true:=by
 have e:l.takeWhile dK=l:=(Ox _).eq_of_length h;rw[Mh];intro x a;rw[<-e]at a;exact wl a
theorem yo(l:List UInt8):(l.take (tO l)).all dK=true:=by
 unfold tO;rw[Mh];intro x a;rw[show l.take (l.takeWhile dK).length=l.takeWhile dK from(List.prefix_iff_eq_take.1 (List.takeWhile_prefix _)).symm]at a;exact wl a
def AE(s:ByteArray):Bool:=decide (0<s.size)&&decide ((ck s 0).toNat=45)
def eT(s:ByteArray):ByteArray:=if AE s then s.extract 1 s.size else s
def mo(c:UInt8)(r:ByteArray):Bool:=((decide (c.toNat≠47)&&decide (c.toNat≠46))||(r.toList==(⟨#[]⟩:ByteArray).toList))||decide (tO r.data.toList≠r.size)
def lC(ng:Bool)(u:ByteArray)(n:Nat)(r:ByteArray):Rat×Int:=
 if n=0 then(0,2)else if n=u.size then(cF ng (eB u.data.toList) 1,0)
 else if mo (ck u n) r then(0,2)
 else if(ck u n).toNat=46 then(cF ng (eB (u.extract 0 n++r).data.toList) (10^r.size),0)
 else if eB r.data.toList=0 then(0,20)else(cF ng (eB (u.extract 0 n).data.toList) (eB r.data.toList),0)
def gR(s:ByteArray):Rat×Int:=if 4000<s.size then(0,4)else lC (AE s) (eT s) (tO (eT s).data.toList) ((eT s).extract (tO (eT s).data.toList+1) (eT s).size)
def Ju:Tree:=.agg [.sc (.bool false),.sl [],.sl []]
def yp(x:Rat×Int):Tree:=.tup [if x.2=0 then dp x.1 else Ju,.sc (.int .i64 x.2)]
theorem gz(x:Rat×Int):(yp x).plain=true:=by unfold yp;split<;>rfl
def qM(n:Nat):ByteArray:=⟨(Lib.decDigits n).toArray⟩
def yq(q:Rat):ByteArray:=if q.num<0 then(⟨#[45]⟩:ByteArray)++qM q.num.natAbs else qM q.num.natAbs
def gF(q:Rat):ByteArray:=if q.den=1 then yq q else yq q++((⟨#[47]⟩:ByteArray)++qM q.den)
theorem yr:∀(l:List UInt8) (a:Nat),(∀c∈l,dK c=true)->l.foldl (fun a c=>a*10+(c.toNat-48)) a<(a+1)*10^l.length
 |[],a,_=>by simp
 |c::l,a,h=>by
  rw[NH];have e:=yr l (a*10+(c.toNat-48)) (fun x d=>h x (MB _ d));have b:=h c (Mr ..);unfold dK at b;simp only[Ma,decide_eq_true_eq]at b;refine Mp e ?_;rw[Mb,MM,show(a+1)*(10^l.length*10)=((a+1)*10)*10^l.length by rw[Mt (10^l.length),Mu]];exact MJ _ (by omega)
theorem H6{l:List UInt8}(h:l.all dK=true):eB l<10^l.length:=by
 have:=yr l 0 (Mh.1 h);unfold eB;simpa using this
theorem yu{n k:Nat}(h:n<10^k):(ay n).length<=k:=by
 refine aR (Mp h (OJ (by decide) k))
theorem gD{l:List UInt8}{L:Nat}(h:l.all dK=true)(a:l.length<=L):(ay (eB l)).length<=L:=L6 (yu (H6 h)) a
theorem tg{k L:Nat}(h:k<L):(ay (10^k)).length<=L:=L6 (yu (k:=k+1) (NS (by decide) (by omega))) (by omega)
theorem Jv:tJ Tryz.prog 65=some ([(0,1),(1,1),(2,1)],[.bool false,.slice none 0 0,.slice none 0 0]):=by kernel_rfl
theorem yv(s:ByteArray)(P:s.size<=1048576):Ct 79 [sT s] (yp (gR s)):=by
 refine Ct.of (n:=100) Tryz.func79 Z Z Z Z Z fun w0 G0=>?_
 refine ab<|aj 2 Z<|ab<|ab<|ae<|aa 1 Z<|af (t:=nI s.size) Z Z Z (eK Z a8 Z)<|af (t:=bT (decide (4000<s.size))) Z Z Z (ah (ai Z Z Z Zy) (av (tE s.size 4000)))<|ag<|aF Z (fun C=>?_) (fun C=>?_)
 ·refine ab<|aj 3 Z<|aC<|⟨.inr Z,_,.cons ⟨_,_,_,_,Z,Z,.inl ⟨_,aN,Z,Z⟩⟩ (.cons Z .nil),by unfold yp gR;rw[if_pos C];rfl,gz _⟩
 refine ax<|ab ?_;obtain⟨u,G⟩:∃u,eT s=u:=⟨_,rfl⟩;have I:u.size<=4000:=by
  rw[<-G];unfold eT;split
  ·simp only[MO];omega
  omega
 obtain⟨n,E⟩:∃n,tO u.data.toList=n:=⟨_,rfl⟩;obtain⟨r,H⟩:∃r,u.extract (n+1) u.size=r:=⟨_,rfl⟩;have f:gR s=lC (AE s) u n r:=by unfold gR;rw[if_neg C,G,E,H]
 refine ae<|aa 1 Z<|af (t:=nI s.size) Z Z Z (eK Z a8 Z)<|af (t:=bT (decide (0<s.size))) Z Z Z (ah (ai Z Z Z Zy) (av (tE s.size 0)))<|aa 1 Z<|aA (t:=sT s) ((decide (0<s.size))=true) Z Z Z au Z Z (fun b=>aw Z Z)<|aA (t:=.sc (.int .u8 (((ck s 0).toNat:Nat):Int))) ((decide (0<s.size))=true) Z Z Z au Z Z (fun b=>dE (j:=0) Z a8 (if_pos b) Z Z (eH (of_decide_eq_true b)))<|aA (t:=bT (decide ((ck s 0).toNat=45))) ((decide (0<s.size))=true) Z Z Z au Z Z (fun b=>ah (ai Z (if_pos b) Z (fun _=>rfl)) (av (lY ((ck s 0).toNat) 45)))<|af (t:=bT ((decide (0<s.size))&&(decide ((ck s 0).toNat=45)))) Z Z Z (aL Z Z (fun c=>(if_pos c).trans (av (by rw[c];rfl))) (fun c=>(av (by rw[c];rfl))))<|af (t:=bT (AE s)) Z Z Z (ah (bW Z Z) (av Z))<|ag<|ab<|rE ⟨100,[(0,sT u),(2,.box 0 0),(3,iT 0),(4,bT (AE s))],[(65,[bT false,.sl [],.sl []])],[]⟩ 1 0 ?_ ?_
 ·refine ab<|aj 1 Z<|aH Z (fun o=>?_) (fun o=>?_)
  ·have O:0<s.size:=by have h:=o;unfold AE at h;rw[Ma]at h;exact of_decide_eq_true h.1
   refine ae<|aa 1 Z<|af (t:=sT (s.extract 1 s.size)) Z Z Z (fa (l:=1) (h:=s.size) Z a8 Z ⟨_,Z⟩ Z (by omega) (by omega))<|aa 1 Z<|ag<|⟨Z,Z,Z,.cons (o9 (by rw[<-G];unfold eT;rw[if_pos o])) Z (.cons Z Z (.cons Z Z (.cons Z Z .nil))),Z⟩
  refine ax<|⟨Z,Z,Z,.cons (o9 (by rw[<-G];unfold eT;rw[if_neg (by rw[show AE s=false from o];exact MR)])) Z (.cons Z Z (.cons Z Z (.cons Z Z .nil))),Z⟩
 refine ab<|ae<|aa 1 Z<|af (t:=nI n) Z Z Z (ar Z (by rw[<-E];exact FJ u (by omega)) Z Z)<|aa 1 Z<|ag<|ab<|ab<|ae<|aa 1 Z<|af (t:=bT (decide (n=0))) Z Z Z (ah (ai Z Z Z Zy) (av (lY n 0)))<|ag<|aF Z (fun v=>?_) (fun v=>?_)
 ·have y:=v;refine ab<|aj 3 Z<|aC<|⟨.inr Z,_,.cons ⟨_,_,_,_,Z,Z,.inl ⟨_,aN,Z,Z⟩⟩ (.cons Z .nil),by rw[f];unfold lC;rw[if_pos y];rfl,gz _⟩
 have y:=v;have K:n<=u.size:=by rw[<-E,bN];exact FH _
 refine ax<|ab<|ab<|ae<|aa 2 Z<|af (t:=nI u.size) Z Z Z (eK Z a8 Z)<|af (t:=bT (decide (n=u.size))) Z Z Z (ah (ai Z Z Z Zy) (av (lY n u.size)))<|ag<|aF Z (fun m=>?_) (fun m=>?_)
 ·have g:=m;have p:u.data.toList.all dK=true:=rh (by rw[<-bN,E];exact m);refine ab<|ae<|aa 2 Z<|af Z Z Z (ar Z (mV u (by omega) I p) Z Z)<|af Z Z Z (ar Z (kz 1 (by decide)) Z Z)<|af Z Z Z (ar Z (mM _ _ _ (gD p (by rw[<-bN];omega)) (by decide)) Z Z)<|aa 2 Z<|ag<|aC<|⟨.inr Z,_,.cons ⟨_,_,_,_,Z,Z,.inl ⟨_,aN,Z,Z⟩⟩ (.cons Z .nil),by rw[f];unfold lC;rw[if_neg y,if_pos g];rfl,gz _⟩
 have g:=m;have F:n<u.size:=by omega
 have L:r.size=u.size-(n+1):=by rw[<-H];simp only[MO];omega
 have N:(u.extract 0 n).size=n:=by simp only[MO];omega
 have A:(u.extract 0 n).data.toList.all dK=true:=by rw[kM,Nx,<-E];exact yo _
 refine ax<|ab<|ci (fu:=9) [some 40,some 41,some 42,some 43,some 44,some 45,some 46,some 6,some 7] [sT u,nI n,.sc (.int .u8 (((ck u n).toNat:Nat):Int)),sT u,nI n,nI (n+1),sT r,.sc (.int .u8 (((ck u n).toNat:Nat):Int)),sT r] (by kernel_rfl) Z Z (by kernel_rfl) Z ?_ ?_
 ·refine Chain.op Z (aw Z Z)<|Chain.op Z (aw Z Z)<|Chain.op Z (dE Z a8 Z Z Z (eH F))<|Chain.op Z (aw Z Z)<|Chain.op Z (aw Z Z)<|Chain.op Z (ah (ai Z Z Z Zy) (bu (by omega)))<|Chain.op Z (ah (fa (l:=n+1) (h:=u.size) Z a8 Z ⟨_,Z⟩ Z (by omega) (by omega)) (o9 H))<|Chain.op Z (bW Z Z)<|Chain.op Z (bW Z Z)<|Chain.nil
 refine ab<|ab<|ae<|aa 1 Z<|af (t:=bT (decide ((ck u n).toNat≠47))) Z Z Z (ah (ai Z Z Z Zy) (av (wD ((ck u n).toNat) 47)))<|aa 1 Z<|aA (t:=.sc (.int .u8 (((ck u n).toNat:Nat):Int))) ((decide ((ck u n).toNat≠47))=true) Z Z Z au Z Z (fun b=>aw Z Z)<|aA (t:=bT (decide ((ck u n).toNat≠46))) ((decide ((ck u n).toNat≠47))=true) Z Z Z au Z Z (fun b=>ah (ai Z (if_pos b) Z (fun _=>rfl)) (av (wD ((ck u n).toNat) 46)))<|af (t:=bT ((decide ((ck u n).toNat≠47))&&(decide ((ck u n).toNat≠46)))) Z Z Z (aL Z Z (fun c=>(if_pos c).trans (av (by rw[c];rfl))) (fun c=>(av (by rw[c];rfl))))<|aa 1 Z<|aA (t:=sT r) (((decide ((ck u n).toNat≠47))&&(decide ((ck u n).toNat≠46)))=false) Z Z Z au Z Z (fun b=>aw Z Z)<|aA (t:=bT (r.toList==(⟨#[]⟩:ByteArray).toList)) (((decide ((ck u n).toNat≠47))&&(decide ((ck u n).toNat≠46)))=false) Z Z Z au Z Z (fun b=>ah (ai Z (if_pos b) Z (fun _=>rfl)) (av Z))<|af (t:=bT (((decide ((ck u n).toNat≠47))&&(decide ((ck u n).toNat≠46)))||(r.toList==(⟨#[]⟩:ByteArray).toList))) Z Z Z (aL Z Z (fun c=>(av (by rw[c];rfl))) (fun c=>(if_pos c).trans (av (by rw[c];rfl))))<|aa 1 Z<|aA (t:=sT r) ((((decide ((ck u n).toNat≠47))&&(decide ((ck u n).toNat≠46)))||(r.toList==(⟨#[]⟩:ByteArray).toList))=false) Z Z Z au Z Z (fun b=>aw Z Z)<|aA (t:=nI (tO r.data.toList)) ((((decide ((ck u n).toNat≠47))&&(decide ((ck u n).toNat≠46)))||(r.toList==(⟨#[]⟩:ByteArray).toList))=false) Z Z Z au Z Z (fun b=>ar Z (FJ r (by omega)) (eU (if_pos b) Z) Z)<|aA (t:=sT r) ((((decide ((ck u n).toNat≠47))&&(decide ((ck u n).toNat≠46)))||(r.toList==(⟨#[]⟩:ByteArray).toList))=false) Z Z Z au Z Z (fun b=>aw Z Z)<|aA (t:=nI r.size) ((((decide ((ck u n).toNat≠47))&&(decide ((ck u n).toNat≠46)))||(r.toList==(⟨#[]⟩:ByteArray).toList))=false) Z Z Z au Z Z (fun b=>eK Z a8 (if_pos b))<|aA (t:=bT (decide ((tO r.data.toList)≠r.size))) ((((decide ((ck u n).toNat≠47))&&(decide ((ck u n).toNat≠46)))||(r.toList==(⟨#[]⟩:ByteArray).toList))=false) Z Z Z au Z Z (fun b=>ah (ai Z (if_pos b) (if_pos b) (fun _=>rfl)) (av (wD ((tO r.data.toList)) r.size)))<|af (t:=bT (mo (ck u n) r)) Z Z Z (ah (t:=bT ((((decide ((ck u n).toNat≠47))&&(decide ((ck u n).toNat≠46)))||(r.toList==(⟨#[]⟩:ByteArray).toList))||(decide ((tO r.data.toList)≠r.size)))) (aL Z Z (fun c=>(av (by rw[c];rfl))) (fun c=>(if_pos c).trans (av (by rw[c];rfl)))) (av Z))<|ag<|aH Z (fun i=>?_) (fun i=>?_)
 ·have k:=i;refine ab<|aj 3 Z<|aC<|⟨.inr Z,_,.cons ⟨_,_,_,_,Z,Z,.inl ⟨_,aN,Z,Z⟩⟩ (.cons Z .nil),by rw[f];unfold lC;rw[if_neg y,if_neg g,if_pos (show mo (ck u n) r=true from k)];rfl,gz _⟩
 have k:¬mo (ck u n) r=true:=by rw[i];exact MR
 have w:r.data.toList.all dK=true:=rh (by have h:=i;unfold mo at h;rw[Mz]at h;rw[<-bN];simpa using h.2);have M:1<=r.size:=by
  have h:=i;unfold mo at h;rw[Mz,Mz]at h;have J:=h.1.2;rw[Lib.toList_data,bN]at*;cases e:r.data.toList with
  |nil=>rw[e]at J;simp at J
  |cons a l=>simp
 have q:(u.extract 0 n++r).data.toList.all dK=true:=by rw[Pr,Nv,NX,A,w];rfl
 refine ax<|ab<|ab<|ae<|aa 1 Z<|af (t:=bT (decide ((ck u n).toNat=46))) Z Z Z (ah (ai Z Z Z Zy) (av (lY ((ck u n).toNat) 46)))<|ag<|aF Z (fun B=>?_) (fun B=>?_)
 ·have d:=B;refine ab<|ae<|af Z Z Z (ar Z (kz 10 (by decide)) Z Z)<|aa 1 Z<|af (t:=nI r.size) Z Z Z (eK Z a8 Z)<|af Z Z Z (ar Z (Hw r.size (by omega)) Z Z)<|aa 5 Z<|ag<|ab<|ab<|ae<|aa 1 Z<|af (t:=bT (decide (0≠0))) Z Z Z (ah (ai Z Z Z Zy) (av (wD 0 0)))<|ag<|aF Z (fun D=>?_) (fun D=>?_)
  ·exact absurd Z D
  refine ax<|ab<|ae<|aa 3 Z<|af (t:=sT (u.extract 0 n)) Z Z Z (fa (l:=0) (h:=n) Z a8 Z Z ⟨_,Z⟩ (by omega) (by omega))<|aa 1 Z<|af (t:=sT (u.extract 0 n++r)) Z Z Z (ai Z Z Z (fun _=>qR (by rw[<-H];simp only[MO];omega)))<|af Z Z Z (ar Z (mV _ (by rw[NM];omega) (by rw[NM];omega) q) Z Z)<|aa 1 Z<|af Z Z Z (ar Z (mM _ _ _ (gD q (by rw[<-bN,NM];omega)) (tg (by omega))) Z Z)<|aa 2 Z<|ag<|aC<|⟨.inr Z,_,.cons ⟨_,_,_,_,Z,Z,.inl ⟨_,aN,Z,Z⟩⟩ (.cons Z .nil),by rw[f];unfold lC;rw[if_neg y,if_neg g,if_neg k,if_pos d];rfl,gz _⟩
 have d:=B;refine ax<|ab<|ae<|aa 1 Z<|af Z Z Z (ar Z (mV r (by omega) (by omega) w) Z Z)<|aa 1 Z<|ag<|ab<|ab<|ae<|aa 1 Z<|af (t:=nI ((ay (eB r.data.toList)).length)) Z Z Z (ah (bd Z dw Z) (by simp only[L8]))<|af (t:=bT (decide ((ay (eB r.data.toList)).length=0))) Z Z Z (ah (ai Z Z Z Zy) (av (lY ((ay (eB r.data.toList)).length) 0)))<|ag<|aF Z (fun x=>?_) (fun x=>?_)
 ·have z:=bR.1 x;refine ab<|aj 3 Z<|aC<|⟨.inr Z,_,.cons ⟨_,_,_,_,Z,Z,.inl ⟨_,aN,Z,Z⟩⟩ (.cons Z .nil),by rw[f];unfold lC;rw[if_neg y,if_neg g,if_neg k,if_neg d,if_pos z];rfl,gz _⟩
 have z:¬eB r.data.toList=0:=fun e=>x (bR.2 e)
 refine ax<|ab<|ae<|aa 3 Z<|af (t:=sT (u.extract 0 n)) Z Z Z (fa (l:=0) (h:=n) Z a8 Z Z ⟨_,Z⟩ (by omega) (by omega))<|af Z Z Z (ar Z (mV _ (by omega) (by omega) A) Z Z)<|aa 1 Z<|af Z Z Z (ar Z (mM _ _ _ (gD A (by rw[<-bN];omega)) (gD w (by rw[<-bN];omega))) Z Z)<|aa 2 Z<|ag<|aC<|⟨.inr Z,_,.cons ⟨_,_,_,_,Z,Z,.inl ⟨_,aN,Z,Z⟩⟩ (.cons Z .nil),by rw[f];unfold lC;rw[if_neg y,if_neg g,if_neg k,if_neg d,if_neg z];rfl,gz _⟩
theorem DB(q:Rat)(d:Fit 262144 q)(f:(qM q.num.natAbs).size<=1073741824)(g:(qM q.den).size<=1073741824):Ct 47 [dp q] (sT (gF q)):=by
 refine Ct.of (n:=25) Tryz.func47 Z Z Z Z Z fun w0 G0=>?_
 refine ab<|aj 2 Z<|ab<|ae<|aa 1 Z<|af (t:=.agg (aU q)) Z Z Z (ar Z (su q d) Z Z)<|aa 2 Z<|ag<|ab ?_;obtain⟨t,c⟩:∃t,yq q=t:=⟨_,rfl⟩;have e:t.size<=1073741825:=by
  rw[<-c];unfold yq;split
  ·rw[NM];have:=f;show 1+_<=_;omega
  omega
 refine ae<|aa 2 Z<|af (t:=sT (qM q.num.natAbs)) Z Z Z (ar Z (sV _ d.num) Z Z)<|aa 1 Z<|ag<|ab<|rE ⟨25,[(1,.box 0 0),(2,sT (⟨#[]⟩)),(3,.box 1 0),(4,sT t)],[(65,(aU q)),(65,(aU q))],[]⟩ 2 0 ?_ ?_
 ·refine ab<|aj 2 Z<|aF Z (fun b=>?_) (fun b=>?_)
  ·refine ae<|aa 1 Z<|af (t:=sT ((⟨#[45]⟩:ByteArray)++qM q.num.natAbs)) Z Z Z (ai Z Z Z (fun _=>qR (by show 1+_<=_;omega)))<|aa 1 Z<|ag<|⟨Z,Z,Z,.cons Z Z (.cons Z Z (.cons Z Z (.cons (o9 (by rw[<-c];unfold yq;rw[if_pos b])) Z .nil))),Z⟩
  refine ax<|⟨Z,Z,Z,.cons Z Z (.cons Z Z (.cons Z Z (.cons (o9 (by rw[<-c];unfold yq;rw[if_neg b])) Z .nil))),Z⟩
 refine ab<|ab<|ae<|aa 2 Z<|af (t:=bT (decide (q.den=1))) Z Z Z (ar Z (E9 _) Z Z)<|af (t:=bT (!(decide (q.den=1)))) Z Z Z (ef Z Z Zy)<|ag<|aH Z (fun a=>?_) (fun a=>?_)
 ·refine ae<|aa 3 Z<|af (t:=sT (qM q.den)) Z Z Z (ar Z (sV _ d.den) Z Z)<|af (t:=sT ((⟨#[47]⟩:ByteArray)++qM q.den)) Z Z Z (ai Z Z Z (fun _=>qR (by show 1+_<=_;omega)))<|af (t:=sT (t++((⟨#[47]⟩:ByteArray)++qM q.den))) Z Z Z (ai Z Z Z (fun _=>qR (by rw[NM];show _+(1+_)<=_;omega)))<|aa 1 Z<|ag<|ab<|aj 2 Z<|aC<|⟨.inr Z,_,.cons Z .nil,o9 (by unfold gF;rw[c,if_neg (by simpa using a)]),Z⟩
 refine ax<|ab<|aj 2 Z<|aC<|⟨.inr Z,_,.cons Z .nil,o9 (by unfold gF;rw[c,if_pos (by simpa using a)]),Z⟩
end Go.Proofs.YtfoejfohbkmmeaaGreatDoor
