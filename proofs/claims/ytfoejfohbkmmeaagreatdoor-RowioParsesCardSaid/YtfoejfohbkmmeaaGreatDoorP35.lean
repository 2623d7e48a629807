import Derived.Test.YtfoejfohbkmmeaaGreatDoorP34
import Derived.Test.YtfoejfohbkmmeaaGreatDoorP00
import Derived.Test.YtfoejfohbkmmeaaGreatDoorP06
import Derived.Test.YtfoejfohbkmmeaaGreatDoorP27
import Derived.Test.YtfoejfohbkmmeaaGreatDoorP15
import Derived.Test.YtfoejfohbkmmeaaGreatDoorP02
import Derived.Test.YtfoejfohbkmmeaaGreatDoorP01
import Derived.Test.YtfoejfohbkmmeaaGreatDoorP03
import Derived.Test.YtfoejfohbkmmeaaGreatDoorP13
import Derived.Test.YtfoejfohbkmmeaaGreatDoorP19
import Derived.Deep.RegionWith
import Derived.Deep.DrawnRows
import Derived.Test.YtfoejfohbkmmeaaGreatDoorP26
import Derived.Test.YtfoejfohbkmmeaaGreatDoorP18
import Derived.StillTailTactics
import Derived.IntWalk
set_option maxRecDepth 100000
set_option maxHeartbeats 4000000
namespace Go.Proofs.YtfoejfohbkmmeaaGreatDoor
open Go.RowKit
open Lib renaming hid→J
theorem gd{a b:ByteArray}(h:a=b):(Tree.sc (.string a))=sT b:=by rw[h]
theorem Gw{k:IntKind}{a b:Nat}(h:a=b):(Tree.sc (.int k ((a:Nat):Int)))=.sc (.int k ((b:Nat):Int)):=by rw[h]
theorem wT{α:Type}{p:α->Bool}:∀{l:List α} {x:α},x∈l.takeWhile p->p x=true
 |[],x,h=>by simp at h
 |a::l,x,h=>by
  rw[M0]at h;split at h
  ·next ha=>
   rcases Mi.1 h with rfl|h
   ·exact ha
   exact wT h
  cases h
theorem lZ{l:List UInt8}(h:j7 l=l.length):l.all cc=true:=by
 have e:l.takeWhile cc=l:=(Oc _).eq_of_length h;rw[Mh];intro x a;rw[<-e]at a;exact wT a
theorem pH(l:List UInt8):(l.take (j7 l)).all cc=true:=by
 unfold j7;rw[Mh];intro x a;rw[show l.take (l.takeWhile cc).length=l.takeWhile cc from(List.prefix_iff_eq_take.1 (List.takeWhile_prefix _)).symm]at a;exact wT a
def it(s:ByteArray):Bool:=decide (0<s.size)&&decide ((bD s 0).toNat=45)
def d7(s:ByteArray):ByteArray:=if it s then s.extract 1 s.size else s
def ip(c:UInt8)(r:ByteArray):Bool:=((decide (c.toNat≠47)&&decide (c.toNat≠46))||(r.toList==(⟨#[]⟩:ByteArray).toList))||decide (j7 r.data.toList≠r.size)
def fj(ng:Bool)(u:ByteArray)(n:Nat)(r:ByteArray):Rat×Int:=
 if n=0 then(0,2)else if n=u.size then(dH ng (cI u.data.toList) 1,0)
 else if ip (bD u n) r then(0,2)
 else if(bD u n).toNat=46 then(dH ng (cI (u.extract 0 n++r).data.toList) (10^r.size),0)
 else if cI r.data.toList=0 then(0,20)else(dH ng (cI (u.extract 0 n).data.toList) (cI r.data.toList),0)
def cV(s:ByteArray):Rat×Int:=if 4000<s.size then(0,4)else fj (it s) (d7 s) (j7 (d7 s).data.toList) ((d7 s).extract (j7 (d7 s).data.toList+1) (d7 s).size)
def Ke:Tree:=.agg [.sc (.bool false),.sl [],.sl []]
def uf(x:Rat×Int):Tree:=.tup [if x.2=0 then dt x.1 else Ke,.sc (.int .i64 x.2)]
theorem dW(x:Rat×Int):(uf x).plain=true:=by unfold uf;split<;>rfl
def iu(n:Nat):ByteArray:=⟨(Lib.decDigits n).toArray⟩
def rq(q:Rat):ByteArray:=if q.num<0 then(⟨#[45]⟩:ByteArray)++iu q.num.natAbs else iu q.num.natAbs
def eG(q:Rat):ByteArray:=if q.den=1 then rq q else rq q++((⟨#[47]⟩:ByteArray)++iu q.den)
theorem yT:∀(l:List UInt8) (a:Nat),(∀c∈l,cc c=true)->l.foldl (fun a c=>a*10+(c.toNat-48)) a<(a+1)*10^l.length
 |[],a,_=>by simp
 |c::l,a,h=>by
  rw[NG];have e:=yT l (a*10+(c.toNat-48)) (fun x d=>h x (Ms _ d));have b:=h c (Ml ..);unfold cc at b;simp only[L8,decide_eq_true_eq]at b;refine Mj e ?_;rw[L9,MH,show(a+1)*(10^l.length*10)=((a+1)*10)*10^l.length by rw[Mt (10^l.length),Mu]];exact ML _ (by omega)
theorem CG{l:List UInt8}(h:l.all cc=true):cI l<10^l.length:=by
 have:=yT l 0 (Mh.1 h);unfold cI;simpa using this
theorem pI{n k:Nat}(h:n<10^k):(ax n).length<=k:=by
 refine a8 (Mj h (PC (by decide) k))
theorem eQ{l:List UInt8}{L:Nat}(h:l.all cc=true)(a:l.length<=L):(ax (cI l)).length<=L:=Ma (pI (CG h)) a
theorem l0{k L:Nat}(h:k<L):(ax (10^k)).length<=L:=Ma (pI (k:=k+1) (N7 (by decide) (by omega))) (by omega)
theorem yU(s:ByteArray)(P:s.size<=1048576):Ct 79 [sT s] (uf (cV s)):=by
 refine Ct.of (n:=100) Tryz.func79 Z Z Z Z Z fun w0 G0=>?_
 refine ab<|aj 2 Z<|ab<|ab<|ae<|aa 1 Z<|af (t:=nI s.size) Z Z Z (cW Z aJ Z)<|af (t:=bT (decide (4000<s.size))) Z Z Z (ah (ai Z Z Z Zy) (ar (oF s.size 4000)))<|ag<|aD Z (fun w=>?_) (fun w=>?_)
 ·refine ab<|aj 3 Z<|aw<|⟨.inr Z,_,.cons ⟨_,_,_,_,Z,Z,.inl ⟨_,aI,Z,Z⟩⟩ (.cons Z .nil),by unfold uf cV;rw[if_pos w];rfl,dW _⟩
 refine am<|ab ?_;obtain⟨u,H⟩:∃u,d7 s=u:=⟨_,rfl⟩;have I:u.size<=4000:=by
  rw[<-H];unfold d7;split
  ·simp only[Mn];omega
  omega
 obtain⟨n,F⟩:∃n,j7 u.data.toList=n:=⟨_,rfl⟩;obtain⟨r,G⟩:∃r,u.extract (n+1) u.size=r:=⟨_,rfl⟩;have g:cV s=fj (it s) u n r:=by unfold cV;rw[if_neg w,H,F,G]
 refine ae<|aa 1 Z<|af (t:=nI s.size) Z Z Z (cW Z aJ Z)<|af (t:=bT (decide (0<s.size))) Z Z Z (ah (ai Z Z Z Zy) (ar (oF s.size 0)))<|aa 1 Z<|aq (t:=sT s) Z Z Z Z (fun b=>au Z Z)<|aq (t:=.sc (.int .u8 (((bD s 0).toNat:Nat):Int))) Z Z Z Z (fun b=>ce (j:=0) Z aJ (if_pos b) Z Z (bN (of_decide_eq_true b)))<|aq (t:=bT (decide ((bD s 0).toNat=45))) Z Z Z Z (fun b=>ah (ai Z (if_pos b) Z (fun _=>rfl)) (ar (jF ((bD s 0).toNat) 45)))<|af (t:=bT ((decide (0<s.size))&&(decide ((bD s 0).toNat=45)))) Z Z Z (aK Z Z (fun c=>(if_pos c).trans (ar (by rw[c];rfl))) (fun c=>(ar (by rw[c];rfl))))<|af (t:=bT (it s)) Z Z Z (ah (bp Z Z) (ar Z))<|ag<|ab<|jN ⟨100,[(0,sT u),(2,.box 0 0),(3,iT 0),(4,bT (it s))],[(65,[bT false,.sl [],.sl []])],[]⟩ 1 0 ?_ ?_
 ·refine ab<|aj 1 Z<|aF Z (fun o=>?_) (fun o=>?_)
  ·have N:0<s.size:=by have h:=o;unfold it at h;rw[L8]at h;exact of_decide_eq_true h.1
   refine ae<|aa 1 Z<|af (t:=sT (s.extract 1 s.size)) Z Z Z (cJ (l:=1) (h:=s.size) Z aJ Z ⟨_,Z⟩ Z (by omega) (by omega))<|aa 1 Z<|ag<|⟨Z,Z,Z,.cons (gd (by rw[<-H];unfold d7;rw[if_pos o])) Z (.cons Z Z (.cons Z Z (.cons Z Z .nil))),Z⟩
  refine am<|⟨Z,Z,Z,.cons (gd (by rw[<-H];unfold d7;rw[if_neg (by rw[show it s=false from o];exact MF)])) Z (.cons Z Z (.cons Z Z (.cons Z Z .nil))),Z⟩
 refine ab<|ae<|aa 1 Z<|af (t:=nI n) Z Z Z (ak Z (by rw[<-F];exact Gf u (by omega)) Z Z)<|aa 1 Z<|ag<|ab<|ab<|ae<|aa 1 Z<|af (t:=bT (decide (n=0))) Z Z Z (ah (ai Z Z Z Zy) (ar (jF n 0)))<|ag<|aD Z (fun z=>?_) (fun z=>?_)
 ·have x:=z;refine ab<|aj 3 Z<|aw<|⟨.inr Z,_,.cons ⟨_,_,_,_,Z,Z,.inl ⟨_,aI,Z,Z⟩⟩ (.cons Z .nil),by rw[g];unfold fj;rw[if_pos x];rfl,dW _⟩
 have x:=z;have J:n<=u.size:=by rw[<-F,aL];exact wP _
 refine am<|ab<|ab<|ae<|aa 2 Z<|af (t:=nI u.size) Z Z Z (cW Z aJ Z)<|af (t:=bT (decide (n=u.size))) Z Z Z (ah (ai Z Z Z Zy) (ar (jF n u.size)))<|ag<|aD Z (fun m=>?_) (fun m=>?_)
 ·have f:=m;have q:u.data.toList.all cc=true:=lZ (by rw[<-aL,F];exact m);refine ab<|ae<|aa 2 Z<|af Z Z Z (ak Z (np u (by omega) I q) Z Z)<|af Z Z Z (ak Z (ij 1 (by decide)) Z Z)<|af Z Z Z (ak Z (k6 _ _ _ (eQ q (by rw[<-aL];omega)) (by decide)) Z Z)<|aa 2 Z<|ag<|aw<|⟨.inr Z,_,.cons ⟨_,_,_,_,Z,Z,.inl ⟨_,aI,Z,Z⟩⟩ (.cons Z .nil),by rw[g];unfold fj;rw[if_neg x,if_pos f];rfl,dW _⟩
 have f:=m;have D:n<u.size:=by omega
 have M:r.size=u.size-(n+1):=by rw[<-G];simp only[Mn];omega
 have O:(u.extract 0 n).size=n:=by simp only[Mn];omega
 have A:(u.extract 0 n).data.toList.all cc=true:=by rw[dF,M8,<-F];exact pH _
 refine am<|ab<|cf (fu:=9) [some 40,some 41,some 42,some 43,some 44,some 45,some 46,some 6,some 7] [sT u,nI n,.sc (.int .u8 (((bD u n).toNat:Nat):Int)),sT u,nI n,nI (n+1),sT r,.sc (.int .u8 (((bD u n).toNat:Nat):Int)),sT r] (by kernel_rfl) Z Z (by kernel_rfl) Z ?_ ?_
 ·refine Chain.op Z (au Z Z)<|Chain.op Z (au Z Z)<|Chain.op Z (ce Z aJ Z Z Z (bN D))<|Chain.op Z (au Z Z)<|Chain.op Z (au Z Z)<|Chain.op Z (ah (ai Z Z Z Zy) (bi (by omega)))<|Chain.op Z (ah (cJ (l:=n+1) (h:=u.size) Z aJ Z ⟨_,Z⟩ Z (by omega) (by omega)) (gd G))<|Chain.op Z (bp Z Z)<|Chain.op Z (bp Z Z)<|Chain.nil
 refine ab<|ab<|ae<|aa 1 Z<|af (t:=bT (decide ((bD u n).toNat≠47))) Z Z Z (ah (ai Z Z Z Zy) (ar (tV ((bD u n).toNat) 47)))<|aa 1 Z<|aq (t:=.sc (.int .u8 (((bD u n).toNat:Nat):Int))) Z Z Z Z (fun b=>au Z Z)<|aq (t:=bT (decide ((bD u n).toNat≠46))) Z Z Z Z (fun b=>ah (ai Z (if_pos b) Z (fun _=>rfl)) (ar (tV ((bD u n).toNat) 46)))<|af (t:=bT ((decide ((bD u n).toNat≠47))&&(decide ((bD u n).toNat≠46)))) Z Z Z (aK Z Z (fun c=>(if_pos c).trans (ar (by rw[c];rfl))) (fun c=>(ar (by rw[c];rfl))))<|aa 1 Z<|aq (t:=sT r) Z Z Z Z (fun b=>au Z Z)<|aq (t:=bT (r.toList==(⟨#[]⟩:ByteArray).toList)) Z Z Z Z (fun b=>ah (ai Z (if_pos b) Z (fun _=>rfl)) (ar Z))<|af (t:=bT (((decide ((bD u n).toNat≠47))&&(decide ((bD u n).toNat≠46)))||(r.toList==(⟨#[]⟩:ByteArray).toList))) Z Z Z (aK Z Z (fun c=>(ar (by rw[c];rfl))) (fun c=>(if_pos c).trans (ar (by rw[c];rfl))))<|aa 1 Z<|aq (t:=sT r) Z Z Z Z (fun b=>au Z Z)<|aq (t:=nI (j7 r.data.toList)) Z Z Z Z (fun b=>ak Z (Gf r (by omega)) (eR (if_pos b) Z) Z)<|aq (t:=sT r) Z Z Z Z (fun b=>au Z Z)<|aq (t:=nI r.size) Z Z Z Z (fun b=>cW Z aJ (if_pos b))<|aq (t:=bT (decide ((j7 r.data.toList)≠r.size))) Z Z Z Z (fun b=>ah (ai Z (if_pos b) (if_pos b) (fun _=>rfl)) (ar (tV ((j7 r.data.toList)) r.size)))<|af (t:=bT (ip (bD u n) r)) Z Z Z (ah (t:=bT ((((decide ((bD u n).toNat≠47))&&(decide ((bD u n).toNat≠46)))||(r.toList==(⟨#[]⟩:ByteArray).toList))||(decide ((j7 r.data.toList)≠r.size)))) (aK Z Z (fun c=>(ar (by rw[c];rfl))) (fun c=>(if_pos c).trans (ar (by rw[c];rfl)))) (ar Z))<|ag<|aF Z (fun i=>?_) (fun i=>?_)
 ·have k:=i;refine ab<|aj 3 Z<|aw<|⟨.inr Z,_,.cons ⟨_,_,_,_,Z,Z,.inl ⟨_,aI,Z,Z⟩⟩ (.cons Z .nil),by rw[g];unfold fj;rw[if_neg x,if_neg f,if_pos (show ip (bD u n) r=true from k)];rfl,dW _⟩
 have k:¬ip (bD u n) r=true:=by rw[i];exact MF
 have C:r.data.toList.all cc=true:=lZ (by have h:=i;unfold ip at h;rw[Mo]at h;rw[<-aL];simpa using h.2);have L:1<=r.size:=by
  have h:=i;unfold ip at h;rw[Mo,Mo]at h;have K:=h.1.2;rw[Lib.toList_data,aL]at*;cases e:r.data.toList with
  |nil=>rw[e]at K;simp at K
  |cons a l=>simp
 have p:(u.extract 0 n++r).data.toList.all cc=true:=by rw[OC,MZ,NH,A,C];rfl
 refine am<|ab<|ab<|ae<|aa 1 Z<|af (t:=bT (decide ((bD u n).toNat=46))) Z Z Z (ah (ai Z Z Z Zy) (ar (jF ((bD u n).toNat) 46)))<|ag<|aD Z (fun B=>?_) (fun B=>?_)
 ·have d:=B;refine ab<|ae<|af Z Z Z (ak Z (ij 10 (by decide)) Z Z)<|aa 1 Z<|af (t:=nI r.size) Z Z Z (cW Z aJ Z)<|af Z Z Z (ak Z (IE r.size (by omega)) Z Z)<|aa 5 Z<|ag<|ab<|ab<|ae<|aa 1 Z<|af (t:=bT (decide (0≠0))) Z Z Z (ah (ai Z Z Z Zy) (ar (tV 0 0)))<|ag<|aD Z (fun E=>?_) (fun E=>?_)
  ·exact absurd Z E
  refine am<|ab<|ae<|aa 3 Z<|af (t:=sT (u.extract 0 n)) Z Z Z (cJ (l:=0) (h:=n) Z aJ Z Z ⟨_,Z⟩ (by omega) (by omega))<|aa 1 Z<|af (t:=sT (u.extract 0 n++r)) Z Z Z (ai Z Z Z (fun _=>ft (by rw[<-G];simp only[Mn];omega)))<|af Z Z Z (ak Z (np _ (by rw[No];omega) (by rw[No];omega) p) Z Z)<|aa 1 Z<|af Z Z Z (ak Z (k6 _ _ _ (eQ p (by rw[<-aL,No];omega)) (l0 (by omega))) Z Z)<|aa 2 Z<|ag<|aw<|⟨.inr Z,_,.cons ⟨_,_,_,_,Z,Z,.inl ⟨_,aI,Z,Z⟩⟩ (.cons Z .nil),by rw[g];unfold fj;rw[if_neg x,if_neg f,if_neg k,if_pos d];rfl,dW _⟩
 have d:=B;refine am<|ab<|ae<|aa 1 Z<|af Z Z Z (ak Z (np r (by omega) (by omega) C) Z Z)<|aa 1 Z<|ag<|ab<|ab<|ae<|aa 1 Z<|af (t:=nI ((ax (cI r.data.toList)).length)) Z Z Z (ah (aZ Z c7 Z) (by simp only[L5]))<|af (t:=bT (decide ((ax (cI r.data.toList)).length=0))) Z Z Z (ah (ai Z Z Z Zy) (ar (jF ((ax (cI r.data.toList)).length) 0)))<|ag<|aD Z (fun y=>?_) (fun y=>?_)
 ·have v:=bR.1 y;refine ab<|aj 3 Z<|aw<|⟨.inr Z,_,.cons ⟨_,_,_,_,Z,Z,.inl ⟨_,aI,Z,Z⟩⟩ (.cons Z .nil),by rw[g];unfold fj;rw[if_neg x,if_neg f,if_neg k,if_neg d,if_pos v];rfl,dW _⟩
 have v:¬cI r.data.toList=0:=fun e=>y (bR.2 e)
 refine am<|ab<|ae<|aa 3 Z<|af (t:=sT (u.extract 0 n)) Z Z Z (cJ (l:=0) (h:=n) Z aJ Z Z ⟨_,Z⟩ (by omega) (by omega))<|af Z Z Z (ak Z (np _ (by omega) (by omega) A) Z Z)<|aa 1 Z<|af Z Z Z (ak Z (k6 _ _ _ (eQ A (by rw[<-aL];omega)) (eQ C (by rw[<-aL];omega))) Z Z)<|aa 2 Z<|ag<|aw<|⟨.inr Z,_,.cons ⟨_,_,_,_,Z,Z,.inl ⟨_,aI,Z,Z⟩⟩ (.cons Z .nil),by rw[g];unfold fj;rw[if_neg x,if_neg f,if_neg k,if_neg d,if_neg v];rfl,dW _⟩
theorem D8(q:Rat)(d:Fit 262144 q)(f:(iu q.num.natAbs).size<=1073741824)(g:(iu q.den).size<=1073741824):Ct 47 [dt q] (sT (eG q)):=by
 refine Ct.of (n:=25) Tryz.func47 Z Z Z Z Z fun w0 G0=>?_
 refine ab<|aj 2 Z<|ab<|ae<|aa 1 Z<|af (t:=.agg (bf q)) Z Z Z (ak Z (sH q d) Z Z)<|aa 2 Z<|ag<|ab ?_;obtain⟨t,c⟩:∃t,rq q=t:=⟨_,rfl⟩;have e:t.size<=1073741825:=by
  rw[<-c];unfold rq;split
  ·rw[No];have:=f;show 1+_<=_;omega
  omega
 refine ae<|aa 2 Z<|af (t:=sT (iu q.num.natAbs)) Z Z Z (ak Z (te _ d.num) Z Z)<|aa 1 Z<|ag<|ab<|jN ⟨25,[(1,.box 0 0),(2,sT (⟨#[]⟩)),(3,.box 1 0),(4,sT t)],[(65,(bf q)),(65,(bf q))],[]⟩ 2 0 ?_ ?_
 ·refine ab<|aj 2 Z<|aD Z (fun a=>?_) (fun a=>?_)
  ·refine ae<|aa 1 Z<|af (t:=sT ((⟨#[45]⟩:ByteArray)++iu q.num.natAbs)) Z Z Z (ai Z Z Z (fun _=>ft (by show 1+_<=_;omega)))<|aa 1 Z<|ag<|⟨Z,Z,Z,.cons Z Z (.cons Z Z (.cons Z Z (.cons (gd (by rw[<-c];unfold rq;rw[if_pos a])) Z .nil))),Z⟩
  refine am<|⟨Z,Z,Z,.cons Z Z (.cons Z Z (.cons Z Z (.cons (gd (by rw[<-c];unfold rq;rw[if_neg a])) Z .nil))),Z⟩
 refine ab<|ab<|ae<|aa 2 Z<|af (t:=bT (decide (q.den=1))) Z Z Z (ak Z (yc _) Z Z)<|af (t:=bT (!(decide (q.den=1)))) Z Z Z (dm Z Z Zy)<|ag<|aF Z (fun b=>?_) (fun b=>?_)
 ·refine ae<|aa 3 Z<|af (t:=sT (iu q.den)) Z Z Z (ak Z (te _ d.den) Z Z)<|af (t:=sT ((⟨#[47]⟩:ByteArray)++iu q.den)) Z Z Z (ai Z Z Z (fun _=>ft (by show 1+_<=_;omega)))<|af (t:=sT (t++((⟨#[47]⟩:ByteArray)++iu q.den))) Z Z Z (ai Z Z Z (fun _=>ft (by rw[No];show _+(1+_)<=_;omega)))<|aa 1 Z<|ag<|ab<|aj 2 Z<|aw<|⟨.inr Z,_,.cons Z .nil,gd (by unfold eG;rw[c,if_neg (by simpa using b)]),Z⟩
 refine am<|ab<|aj 2 Z<|aw<|⟨.inr Z,_,.cons Z .nil,gd (by unfold eG;rw[c,if_pos (by simpa using b)]),Z⟩
attribute [local go_sem ↓] Go.wp_at_zero Go.wp_at_succ
structure KS (w:World) (g:Nat) (W:World):Prop where
 blk:IsBlk W g 77 #[.int .i64 2,.int .i64 0,.string ⟨#[105,116,39,115]⟩]
 env:Env W
 below:Below w.heap.size w W
theorem mI{t n:Int}{s:ByteArray}{b:Bool}(h:bF t n s=b)(w:World)(a:s.size<=9223372036854775807):
  Calls Tryz.prog 98 #[.agg #[.int .i64 t,.int .i64 n,.string s]] w fun e w'=>e=.returned (.bool b)/\Below w.heap.size w w':=by subst h;exact py t n s w a
def IN(w:World)(e:Ending)(w':World):Prop:=e=.returned (.bool true)/\Below w.heap.size w w'
theorem D9(n:Int):DJ (decide (n<0)) n.natAbs=Lib.itoa n:=by
 unfold DJ Lib.itoa;by_cases h:n<0
 ·simp[h]
 have:n.natAbs=n.toNat:=by omega
 simp[h,this]
theorem Ea(n:Int)(e: -9223372036854775808<=n)(f:n<=9223372036854775807):(Lib.decDigits n.natAbs).length<=1073741824:=by
 have key:∀(k u:Nat),u<10^k->0<k->(Lib.decDigits u).length<=k:=by
  intro k;induction k with
  |zero=>intro u _ h;exact absurd h (by omega)
  |succ k ih=>
   intro u b _;rw[Lib.decDigits];split
   ·simp
   rename_i h;have c:0<k:=by
    rcases M1 k with rfl|d
    ·simp at b;omega
    exact d
   have:=ih (u/10) (by rw[Nt (by decide)];rw[MH]at b;exact b) c;simp;omega
 have a:(10^20:Nat)=100000000000000000000:=by decide
 have:=key 20 n.natAbs (by rw[a];omega) (by decide);omega
theorem Bc(t n:Int)(s:ByteArray)(w:World)(h:bF t n s=false)(m:s.size<=9223372036854775807):
  Calls Tryz.prog 41 #[.agg #[.int .i64 t,.int .i64 n,.string s]] w (m6 (cY t n s) w):=by
 have k:=J (show cY t n s=[] by simp[cY,h]);obtain⟨W,i,a,f,g⟩:=ri w 77 #[.int .i64 t,.int .i64 n,.string s];have j:=J i;have o:=J a;have c:=a.size;have l:=J (mI h W m);clear i a f g h
 go_enter Tryz.func41,Tryz.ntmps41
 go_wp2_with fail
 rw[j.out];refine l.out.mono ?_;rintro e p ⟨rfl,b⟩;have d:=J (aE o.out b c);clear b
 go_wp2
 go_ret
 exact⟨by rw[k.out];rfl,d.out⟩
theorem Be(n:Int)(s:ByteArray)(w:World)(h:bF 1 n s=true)(t: -9223372036854775808<=n)(r:n<=9223372036854775807)(P:s.size<=9223372036854775807):
  Calls Tryz.prog 41 #[.agg #[.int .i64 1,.int .i64 n,.string s]] w (m6 (cY 1 n s) w):=by
 have G:=J (show cY 1 n s=Lib.itoa n by simp[cY,h]);obtain⟨W,z,d,g,u⟩:=ri w 77 #[.int .i64 1,.int .i64 n,.string s];have K:=J z;have C:=J d;have k:=d.size;have B:=J g;have L:=J (mI h W P);clear z d g u h
 go_enter Tryz.func41,Tryz.ntmps41
 go_wp2_with fail
 rw[K.out];refine L.out.mono ?_;rintro e Q ⟨rfl,a⟩;have v:=J (aE C.out a k);have i:w.heap.size<=Q.heap.size:=Ma k a.size;obtain⟨I,O,F,_,_,_⟩:=(B.out.below a B.out.lt).three;clear a
 go_wp2_with fail
 refine(DI n _ t r).mono ?_;rintro e A ⟨R,T,rfl,j,m,b⟩;obtain⟨M,E,en,l⟩:=j.is (bZ _);obtain⟨N,D,H,o⟩:=m.is (bZ _);subst en H;have y:=J (aE v.out b i);have x:w.heap.size<=A.heap.size:=Ma i b.size;have c:=yv (decide (n<0)) M N E D n.natAbs A l o (by have:=B5 n t r;omega) (fun h=>by simp at h;omega) (Ea n t r);rw[D9]at c;have p:=J c;clear j m b l o c I O F
 go_wp2_with fail
 refine p.out.mono ?_;rintro e S ⟨rfl,f⟩;have q:=J (aE y.out f x);clear f
 go_wp2
 go_ret
 exact⟨by rw[G.out];rfl,q.out⟩
theorem wV(s:ByteArray)(k:Nat)(h:k<s.size):s.extract k (k+1)=⟨[s[k]].toArray⟩:=by
 rw[<-jv (s.extract k (k+1)),Lib.extract_data];congr 2;have a:k<s.data.toList.length:=by simpa using h
 rw[Mc a,show k+1-k=1 by omega];rfl
theorem Gx(l:List UInt8)(c:UInt8):gB (l++[c])=gB l++(if c=39 then [39,39]else [c]):=by
 induction l with
 |nil=>by_cases h:c=39<;>simp[gB,h]
 |cons a l ih=>by_cases h:a=39<;>simp[gB,h,ih]
theorem Bf(n:Int)(s:ByteArray)(w:World)(h:bF 2 n s=true):
  Calls Tryz.prog 41 #[.agg #[.int .i64 2,.int .i64 n,.string s]] w (m6 (cY 2 n s) w):=by
 have y:=J (show cY 2 n s=[39]++gB s.data.toList++[39] by simp[cY,h]);have q:s.size<=64:=by simp[bF]at h;omega
 obtain⟨W,r,d,j,m⟩:=ri w 77 #[.int .i64 2,.int .i64 n,.string s];have A:=J r;have x:=J d;have o:=d.size;have t:=J j;have B:=J (mI h W (by omega));clear r d j m h
 go_enter Tryz.func41,Tryz.ntmps41
 go_wp2_with fail
 rw[A.out];refine B.out.mono ?_;rintro e I ⟨rfl,g⟩;have p:=J (aE x.out g o);obtain⟨G,H,D,_,_,_⟩:=(t.out.below g t.out.lt).three;clear g
 go_wp2
 go_loop [3,4] (fun v i=>∃k:Nat,k<=s.size/\i=.int .i64 k/\v=.string ⟨(39::gB (s.data.toList.take k)).toArray⟩) (fun _ i=>s.size-(intOf i).toNat)
 case atStart=>exact⟨0,by omega,Z,by simp[gB]⟩
 case round=>
  obtain⟨k,F,rfl,rfl⟩:=hrel;have z:(gB (s.data.toList.take k)).length<=200:=by
   have:=iS (s.data.toList.take k);rw[Mf]at this;omega
  by_cases f:k<s.size
  ·have l:=J (show gB (s.data.toList.take (k+1))=gB (s.data.toList.take k)++(if s[k]=39 then [39,39]else [s[k]]) by
    rw[Mx (by simpa using f),Gx];rfl)
   by_cases b:s[k].toNat=39
   ·have a:s[k]=39:=OL.1 b;have c:=J (wV s k f);have u:=J a;rw[if_pos a]at l;clear a
    go_wp2
    go_round
    case rel=>
     refine⟨k+1,by omega,by go_num,?_⟩;rw[l.out,c.out,u.out,kE (39::gB (s.data.toList.take k)) [39],kE (39::gB (s.data.toList.take k)++[39]) [39]];simp
    case measure=>simp[intOf];omega
   have a:s[k]≠39:=fun e=>b (by rw[e];rfl)
   have c:=J (wV s k f);have E:((s[k].toNat:Int)==39)=false:=by rw[beq_eq_false_iff_ne];omega
   rw[if_neg a]at l;clear a b
   go_wp2
   go_round
   case rel=>
    refine⟨k+1,by omega,by go_num,?_⟩;rw[l.out,c.out,kE];simp
   case measure=>simp[intOf];omega
  have C:=J (show s.data.toList.take k=s.data.toList from Me (by simp;omega))
  go_wp2
  go_ret
  refine⟨?_,p.out⟩;rw[y.out];show Ending.returned (.string (⟨(39::gB (s.data.toList.take k)).toArray⟩++⟨[39].toArray⟩))=_
  rw[C.out,kE (39::gB s.data.toList) [39]];rfl
theorem j6(t n:Int)(s:ByteArray)(w:World)(e: -9223372036854775808<=n)(f:n<=9223372036854775807)(c:s.size<=9223372036854775807):
  Calls Tryz.prog 41 #[.agg #[.int .i64 t,.int .i64 n,.string s]] w (m6 (cY t n s) w):=by
 cases b:bF t n s
 ·exact Bc t n s w b c
 by_cases d:t=1
 ·subst d;exact Be n s w b e f c
 have a:t=2:=by
  by_cases a:t=2
  ·exact a
  simp[bF,d,a]at b
 subst a;exact Bf n s w b
def CH:List UInt8->List UInt8
 |[]=>[]
 |[_]=>[]
 |c::d::r=>if c=39 then c::CH r else c::CH (d::r)
theorem CI:∀(b:List UInt8),CH (gB b++[39])=b
 |[]=>rfl
 |c::l=>by
  have e:=CI l;by_cases a:c=39
  ·subst a;simp only[gB,if_true,Na,CH];rw[e]
  simp only[gB,if_neg a,Na];cases h:gB l++[39]with
  |nil=>simp at h
  |cons d r=>rw[CH,if_neg a,<-h,e]
theorem yV{l:List UInt8}{i:Nat}(h:i+1<l.length):CH (l.drop i)=if l[i]=39 then l[i]::CH (l.drop (i+2))else l[i]::CH (l.drop (i+1)):=by
 rw[Mc (show i<l.length by omega),Mc h,CH]
theorem IP{l:List UInt8}{i:Nat}(h:¬i+1<l.length):CH (l.drop i)=[]:=by
 have a:(l.drop i).length<=1:=by rw[MQ];omega
 cases b:l.drop i with
 |nil=>rfl
 |cons c r=>
  cases r with
  |nil=>rfl
  |cons d r=>rw[b]at a;simp at a
def Ji(t n:Int)(st:ByteArray)(l:List UInt8)(w:World)(e:Ending)(w':World):Prop:=
 (cY t n st=l->e=.returned (.tuple #[.agg #[.int .i64 t,.int .i64 n,.string st],.bool true]))/\(cY t n st≠l->e=.returned (.tuple #[.agg #[.int .i64 0,.int .i64 0,.string ⟨#[]⟩],.bool false]))/\Below w.heap.size w w'
def Kf(w:World)(l:List UInt8)(i:Value)(wr:World):Prop:=∃(k:Nat) (acc:List UInt8),i=.int .i64 k/\1<=k/\k<=l.length+1/\acc.length<=k/\CH (l.drop 1)=acc++CH (l.drop k)/\IsBlk wr (w.heap.size+1) 77 #[.int .i64 2,.int .i64 0,.string ⟨acc.toArray⟩]/\IsBlk wr w.heap.size 77 #[.int .i64 0,.int .i64 0,.string ⟨#[]⟩]/\Below w.heap.size w wr
theorem tq(s:ByteArray)(w:World)(h:130<s.size\/s.size=0)(b:s.size<=9223372036854775807):
  Calls Tryz.prog 89 #[.string s] w fun e w'=>e=.returned (.tuple #[.agg #[.int .i64 0,.int .i64 0,.string ⟨#[]⟩],.bool false])/\Below w.heap.size w w':=by
 rcases h with h|h
 ·go_enter Tryz.func89,Tryz.ntmps89
  go_wp2
  exact bodyPost_ret (v:=.tuple #[.agg #[.int .i64 0,.int .i64 0,.string ⟨#[]⟩],.bool false]) (by simp[results,Tryz.results89,go_sem]) Z ⟨Z,(Below.refl _ _).alloc (L4 _) _⟩
 have a:s=⟨#[]⟩:=by
  have:s.data.toList=[]:=Mr (by simpa using h);rw[<-jv s,this]
 subst a;clear h b
 go_enter Tryz.func89,Tryz.ntmps89
 go_wp2
 exact bodyPost_ret (v:=.tuple #[.agg #[.int .i64 0,.int .i64 0,.string ⟨#[]⟩],.bool false]) (by simp[results,Tryz.results89,go_sem]) Z ⟨Z,(Below.refl _ _).alloc (L4 _) _⟩
theorem pJ(s j:ByteArray)(w:World)(h0:0<s.size)(b1:s.size<=130)(hq:s[0].toNat=39)(L:CH (s.data.toList.drop 1)=j.data.toList):
  Calls Tryz.prog 89 #[.string s] w (Ji 2 0 j s.data.toList w):=by
 have a3:=J L;clear L;have n:s.data.toList.length=s.size:=by simp
 have K:s.toList.isEmpty=false:=by
  rw[Lib.toList_data];cases h:s.data.toList with
  |nil=>rw[h]at n;simp at n;omega
  |cons a l=>rfl
 have y:s.toList≠ []:=by
  intro e;rw[e]at K;cases K
 have b2:(s.toList== [])=false:=by
  rw[beq_eq_false_iff_ne];exact y
 have f:=J n;clear y n
 go_enter Tryz.func89,Tryz.ntmps89
 go_wp2
 obtain⟨W,hW,O,r,u,a2⟩:=t6 w 77 77 #[.int .i64 0,.int .i64 0,.string ⟨#[]⟩] #[.int .i64 2,.int .i64 0,.string ⟨#[]⟩];first
  |rw[hW]
  |(go_outline;fail)
 have a9:=J O;have g:=J r;have c:=J u;clear hW O r u a2;obtain⟨l,hl⟩:∃l,s.data.toList=l:=⟨_,rfl⟩;have HL:=J hl;rw[hl]at f;clear hl
 go_loopw [5] (fun i wr=>Kf w l i wr) (fun i _=>200-(intOf i).toNat)
 case atStart=>exact⟨1,[],Z,by omega,by omega,by simp,by simp,c.out,g.out,a9.out⟩
 case round=>
  obtain⟨k,b,rfl,b3,b5,c3,x,D,M,P⟩:=hrel;have T:=J x;have c:=J D;have g:=J M;have m:=J P;obtain⟨t,z,q,G,H,I⟩:=D.three;have b0:l.length<=130:=by have:=f.out;omega
  clear x D M P;by_cases c4:k+1<s.size
  ·have N:=J (wV s k (by omega))
   go_wp2
   have q1:IntKind.i64.wrap ((k:Int)+1)=(k:Int)+1:=IntWalk.i64_in _ (by omega);have q2:(0:Int)<=(k:Int)+1:=by omega
   have q3:((k:Int)+1).toNat=k+1:=by omega
   have q4:(k:Int)+1<=(s.size:Int):=by omega
   have q5:(k:Int)<=(k:Int)+1:=by omega
   have q6:¬9223372036854775807<b.length+(min (k+1) s.size-k):=by omega
   refine wp_region_still_tail 9 (by kernel_rfl) (by kernel_rfl) ?_;simp only[NR,Ox,Ob,M8];change wpStill _ _ wr.drew _ _ _;iterate 9 still_step
   refine wpStill_nil ?_;clear q1 q2 q3 q4 q5 q6;by_cases S:s[k].toNat=39
   ·go_wp2
    have B:=c.out.put 2 (.string (⟨b.toArray⟩++s.extract k (k+1)));refine⟨⟨k+2,b++[s[k]],by congr 1,by omega,by have:=f.out;omega,by simp;omega,?_,?_,?_,?_⟩,by simp only[intOf];omega⟩
    ·rw[T.out,yV (l:=l) (i:=k) (by have:=f.out;omega)];have:l[k]'(by have:=f.out;omega)=s[k]:=by simp only[<-HL.out];rfl
     rw[this,if_pos (PZ S)];simp
    ·rw[N.out]at B⊢;rw[show(⟨b.toArray⟩++⟨#[s[k]]⟩:ByteArray)=⟨(b++[s[k]]).toArray⟩from kE b [s[k]]]at B⊢;exact B
    ·exact(Below.heap_setCell _ _ _ _ (by simp)).trans g.out
    exact(m.out.setCell (p:=⟨w.heap.size+1,2,none⟩) (by simp) _).drew
   go_wp2
   have B:=c.out.put 2 (.string (⟨b.toArray⟩++s.extract k (k+1)));refine⟨⟨k+1,b++[s[k]],by congr 1,by omega,by have:=f.out;omega,by simp;omega,?_,?_,?_,?_⟩,by simp only[intOf];omega⟩
   ·rw[T.out,yV (l:=l) (i:=k) (by have:=f.out;omega)];have:l[k]'(by have:=f.out;omega)=s[k]:=by simp only[<-HL.out];rfl
    rw[this,if_neg (fun e=>S (by rw[e];rfl))];simp
   ·rw[N.out]at B⊢;rw[show(⟨b.toArray⟩++⟨#[s[k]]⟩:ByteArray)=⟨(b++[s[k]]).toArray⟩from kE b [s[k]]]at B⊢;exact B
   ·exact(Below.heap_setCell _ _ _ _ (by simp)).trans g.out
   exact(m.out.setCell (p:=⟨w.heap.size+1,2,none⟩) (by simp) _).drew
  clear t z q G H I;have A:b=j.data.toList:=by rw[<-a3.out,HL.out,T.out,IP (by have:=f.out;omega)];simp
  have R:j.size<=9223372036854775807:=by have:=congrArg List.length A;rw[show j.data.toList.length=j.size by simp]at this;omega
  have a4:=J R;rw[A,jv]at c;clear R T A;obtain⟨X,U,V,G,H,I⟩:=c.out.three
  go_wp2_with fail
  clear X U V G H I;refine(j6 2 0 j _ (by omega) (by omega) a4.out).mono ?_;rintro e w5 ⟨rfl,o⟩;have Q:=J (m.out.trans (o.mono m.out.size));have a1:=J (c.out.below o c.out.lt);have F:=J (g.out.below o g.out.lt);clear o g c m;obtain⟨X,U,V,G,H,I⟩:=a1.out.three;obtain⟨t,z,q,g0,g1,g2⟩:=F.out.three;by_cases d:cY 2 0 j=s.data.toList
  ·have a5:=m9 (cY 2 0 j) s d.symm
   go_wp2
   clear X U V G H I t z q g0 g1 g2;obtain⟨w6,h6,E,C,a0,Y⟩:=ec F.out (.int .i64 2) (.int .i64 0) (.string j);rw[h6];obtain⟨t,z,q,_,_,_⟩:=E.three;exact bodyPost_ret (v:=.tuple #[.agg #[.int .i64 2,.int .i64 0,.string j],.bool true]) (by simp[results,Tryz.results89,go_sem,t,z,q]) Z ⟨fun _=>rfl,fun hn=>absurd d hn,Q.out.trans C⟩
  have a5:=qh (cY 2 0 j) s (fun e=>d e.symm)
  go_wp2
  clear X U V G H I t z q g0 g1 g2;obtain⟨w6,h6,E,C,a0,Y⟩:=ec F.out (.int .i64 0) (.int .i64 0) (.string ⟨#[]⟩);rw[h6];obtain⟨t,z,q,_,_,_⟩:=E.three;exact bodyPost_ret (v:=.tuple #[.agg #[.int .i64 0,.int .i64 0,.string ⟨#[]⟩],.bool false]) (by simp[results,Tryz.results89,go_sem,t,z,q]) Z ⟨fun hn=>absurd hn d,fun _=>rfl,Q.out.trans C⟩
theorem tr(n:Int)(h: -9223372036854775808<=n/\n<=9223372036854775807):wrap64 n=n:=by unfold wrap64;omega
def l3(a:Int)(b:UInt8):Int:=if 48<=b.toNat/\b.toNat<=57 then wrap64 (wrap64 (10*a)-((b.toNat:Int)-48))else a
def yW(l:List UInt8):Int:=if l.head?≠some 45/\l.foldl l3 0≠ -9223372036854775808 then-l.foldl l3 0 else l.foldl l3 0
theorem Eb(a:Int)(b:UInt8)(h: -9223372036854775808<=a/\a<=9223372036854775807): -9223372036854775808<=l3 a b/\l3 a b<=9223372036854775807:=by
 unfold l3;split
 ·simp only[wrap64];constructor<;>omega
 exact h
theorem oo:∀(l:List UInt8) (a:Int),-9223372036854775808<=a/\a<=9223372036854775807-> -9223372036854775808<=l.foldl l3 a/\l.foldl l3 a<=9223372036854775807
 |[],_,h=>h
 |b::l,a,h=>oo l _ (Eb a b h)
theorem oq(l:List UInt8): -9223372036854775808<=yW l/\yW l<=9223372036854775807:=by
 have:=oo l 0 (by omega);unfold yW;split<;>omega
theorem tu(u:Nat)(h:u<=9223372036854775808):(Lib.decDigits u).foldl l3 0= -(u:Int):=by
 induction u using Nat.strongRecOn with
 |ind u ih=>
  have c:∀(k:Nat),k<10->(48<=(UInt8.ofNat (48+k)).toNat/\(UInt8.ofNat (48+k)).toNat<=57)/\(UInt8.ofNat (48+k)).toNat=48+k:=by decide
  rw[Lib.decDigits];split
  ·rename_i h10;obtain⟨b,a⟩:=c u h10;simp only[NG,Pc,l3];rw[if_pos b,a,tr (10*0) (by omega),tr _ (by omega)];omega
  rename_i h10;obtain⟨b,a⟩:=c (u%10) (Ni _ (by decide));rw[OS,ih (u/10) (by omega) (by omega)];simp only[NG,Pc,l3];rw[if_pos b,a,tr (10*_) (by omega),tr _ (by omega)];omega
theorem Gy(u:Nat):(Lib.decDigits u).head?≠some 45:=by
 induction u using Nat.strongRecOn with
 |ind u ih=>
  have b:∀(k:Nat),k<10->UInt8.ofNat (48+k)≠45:=by decide
  rw[Lib.decDigits];split
  ·rename_i h10;simpa using b u h10
  rename_i h10;have:=ih (u/10) (by omega);cases c:Lib.decDigits (u/10)with
  |nil=>simpa using b (u%10) (Ni _ (by decide))
  |cons a r=>rw[c]at this;simpa using this
theorem Ec(n:Int)(b: -9223372036854775808<=n)(c:n<=9223372036854775807):yW (Lib.itoa n)=n:=by
 unfold yW Lib.itoa;by_cases h:n<0
 ·rw[if_pos h];have a:l3 0 45=0:=by decide
  simp only[List.head?_cons,ne_eq,not_true,false_and,if_false,NG];rw[a,tu _ (by omega)];omega
 rw[if_neg h,if_pos ⟨Gy _,by rw[tu _ (by omega)];omega⟩,tu _ (by omega)];omega
def Kg(w:World)(l:List UInt8)(i:Value)(wr:World):Prop:=∃(k:Nat) (a:Int),i=.int .i64 k/\k<=l.length/\(l.take k).foldl l3 0=a/\IsBlk wr (w.heap.size+1) 77 #[.int .i64 1,.int .i64 a,.string ⟨#[]⟩]/\IsBlk wr w.heap.size 77 #[.int .i64 0,.int .i64 0,.string ⟨#[]⟩]/\Below w.heap.size w wr
theorem u7{l:List UInt8}{k:Nat}(h:k<l.length):(l.take (k+1)).foldl l3 0=l3 ((l.take k).foldl l3 0) l[k]:=by
 rw[<-List.take_append_getElem h,OS];rfl
theorem pK(s:ByteArray)(w:World)(n:Int)(h0:0<s.size)(b3:s.size<=130)(hq:s[0].toNat≠39)(G:yW s.data.toList=n):
  Calls Tryz.prog 89 #[.string s] w (Ji 1 n ⟨#[]⟩ s.data.toList w):=by
 have T:s.data.toList.length=s.size:=by simp
 have a4:s.toList.isEmpty=false:=by
  rw[Lib.toList_data];cases h:s.data.toList with
  |nil=>rw[h]at T;simp at T;omega
  |cons a l=>rfl
 have a0:s.toList≠ []:=by
  intro e;rw[e]at a4;cases a4
 have b5:(s.toList== [])=false:=by
  rw[beq_eq_false_iff_ne];exact a0
 have D:=J T;have HN:=J G;have c5:((s[0].toNat:Int)==39)=false:=by rw[beq_eq_false_iff_ne];omega
 clear a0 T G
 go_enter Tryz.func89,Tryz.ntmps89
 go_wp2
 obtain⟨W,hW,a9,X,Y,b1⟩:=t6 w 77 77 #[.int .i64 0,.int .i64 0,.string ⟨#[]⟩] #[.int .i64 1,.int .i64 0,.string ⟨#[]⟩];first
  |rw[hW]
  |(go_outline;fail)
 have b2:=J a9;have f:=J X;have d:=J Y;clear hW a9 X Y b1;obtain⟨l,hl⟩:∃l,s.data.toList=l:=⟨_,rfl⟩;have HL:=J hl;rw[hl]at D;clear hl
 go_loopw [6] (fun i wr=>Kg w l i wr) (fun i _=>200-(intOf i).toNat)
 case atStart=>exact⟨0,0,Z,by omega,by simp,d.out,f.out,b2.out⟩
 case round=>
  obtain⟨k,a,rfl,c3,E,I,H,b0⟩:=hrel;have HU:=J E;have d:=J I;have f:=J H;have g:=J b0;have HA:=J (show-9223372036854775808<=a/\a<=9223372036854775807 by rw[<-E];exact oo _ 0 (by omega));clear E I H b0;by_cases c4:k<s.size
  ·obtain⟨o,q,m,x,z,B⟩:=d.out.three;by_cases hd:48<=s[k].toNat/\s[k].toNat<=57
   ·have e1:=hd.1;have e2:=hd.2;clear hd
    go_wp2
    have q1:IntKind.u8.wrap ((s[k].toNat:Int)-48)=(s[k].toNat:Int)-48:=IntWalk.u8_in _ (by omega);have q2:IntKind.i64.wrap ((s[k].toNat:Int)-48)=(s[k].toNat:Int)-48:=IntWalk.i64_in _ (by omega);refine wp_region_still_tail 10 (by kernel_rfl) (by kernel_rfl) ?_;simp only[NR,Ox,Ob,M8];change wpStill _ _ wr.drew _ _ _;iterate 10 still_step
    refine wpStill_nil ?_;clear q1 q2
    go_wp2
    have hw:=d.out.put 1 (.int .i64 (wrap64 (wrap64 (10*a)-((s[k].toNat:Int)-48))));refine⟨⟨k+1,_,by congr 1,by have:=D.out;omega,?_,hw,?_,?_⟩,by simp only[intOf];omega⟩
    ·rw[u7 (by have:=D.out;omega),HU.out];have:l[k]'(by have:=D.out;omega)=s[k]:=by simp only[<-HL.out];rfl
     rw[this,l3,if_pos ⟨e1,e2⟩]
    ·exact(Below.heap_setCell _ _ _ _ (by simp)).trans f.out
    exact(g.out.setCell (p:=⟨w.heap.size+1,1,none⟩) (by simp) _).drew
   have HD:=J hd;have a2:¬48<=s[k].toNat\/¬s[k].toNat<=57:=by omega
   clear hd;rcases a2 with a2|a2
   all_goals
    go_wp2
    refine⟨⟨k+1,a,by congr 1,by have:=D.out;omega,?_,d.out,f.out,g.out⟩,by simp only[intOf];omega⟩;rw[u7 (by have:=D.out;omega),HU.out];have:l[k]'(by have:=D.out;omega)=s[k]:=by simp only[<-HL.out];rfl
    rw[this,l3,if_neg HD.out]
  have F:s.data.toList.foldl l3 0=a:=by
   rw[HL.out,<-HU.out,Me (by have:=D.out;omega)]
  have Q:s.data.toList.head?=some s[0]:=by
   rw[P5];exact L3 _
  have HR:=J (show-9223372036854775808<=n/\n<=9223372036854775807 by rw[<-HN.out];exact oq _);have c:=HN.out;unfold yW at c;rw[F,Q]at c;obtain⟨o,q,m,x,z,B⟩:=d.out.three;clear F Q;by_cases a3:s[0].toNat=45
  ·have A:a=n:=by
    rw[if_neg]at c
    ·exact c
    intro hc;exact hc.1 (congrArg some (PZ a3))
   rw[A]at d;clear c A;clear o q m x z B;obtain⟨M,K,L,x,z,B⟩:=d.out.three
   go_wp2_with fail
   clear M K L x z B;refine(j6 1 n ⟨#[]⟩ _ HR.out.1 HR.out.2 (by decide)).mono ?_;rintro e w5 ⟨rfl,j⟩;have C:=J (g.out.trans (j.mono g.out.size));have P:=J (d.out.below j d.out.lt);have u:=J (f.out.below j f.out.lt);clear j f d g;obtain⟨M,K,L,x,z,B⟩:=P.out.three;obtain⟨o,q,m,V,U,g2⟩:=u.out.three;by_cases b:cY 1 n ⟨#[]⟩=s.data.toList
   ·have S:=m9 (cY 1 n ⟨#[]⟩) s b.symm
    go_wp2
    clear M K L x z B o q m V U g2;obtain⟨w6,R,t,r,O,N⟩:=ec u.out (.int .i64 1) (.int .i64 n) (.string ⟨#[]⟩);rw[R];obtain⟨o,q,m,_,_,_⟩:=t.three;exact bodyPost_ret (v:=.tuple #[.agg #[.int .i64 1,.int .i64 n,.string ⟨#[]⟩],.bool true]) (by simp[results,Tryz.results89,go_sem,o,q,m]) Z ⟨fun _=>rfl,fun G=>absurd b G,C.out.trans r⟩
   have S:=qh (cY 1 n ⟨#[]⟩) s (fun e=>b e.symm)
   go_wp2
   clear M K L x z B o q m V U g2;obtain⟨w6,R,t,r,O,N⟩:=ec u.out (.int .i64 0) (.int .i64 0) (.string ⟨#[]⟩);rw[R];obtain⟨o,q,m,_,_,_⟩:=t.three;exact bodyPost_ret (v:=.tuple #[.agg #[.int .i64 0,.int .i64 0,.string ⟨#[]⟩],.bool false]) (by simp[results,Tryz.results89,go_sem,o,q,m]) Z ⟨fun G=>absurd G b,fun _=>rfl,C.out.trans r⟩
  by_cases y:a= -9223372036854775808
  ·have A:a=n:=by
    rw[if_neg]at c
    ·exact c
    intro hc;exact hc.2 y
   rw[A]at d y;clear c A;subst y;clear o q m x z B;obtain⟨M,K,L,x,z,B⟩:=d.out.three
   go_wp2_with fail
   clear M K L x z B;refine(j6 1 (-9223372036854775808) ⟨#[]⟩ _ HR.out.1 HR.out.2 (by decide)).mono ?_;rintro e w5 ⟨rfl,j⟩;have C:=J (g.out.trans (j.mono g.out.size));have P:=J (d.out.below j d.out.lt);have u:=J (f.out.below j f.out.lt);clear j f d g;obtain⟨M,K,L,x,z,B⟩:=P.out.three;obtain⟨o,q,m,V,U,g2⟩:=u.out.three;by_cases b:cY 1 (-9223372036854775808) ⟨#[]⟩=s.data.toList
   ·have S:=m9 (cY 1 (-9223372036854775808) ⟨#[]⟩) s b.symm
    go_wp2
    clear M K L x z B o q m V U g2;obtain⟨w6,R,t,r,O,N⟩:=ec u.out (.int .i64 1) (.int .i64 (-9223372036854775808)) (.string ⟨#[]⟩);rw[R];obtain⟨o,q,m,_,_,_⟩:=t.three;exact bodyPost_ret (v:=.tuple #[.agg #[.int .i64 1,.int .i64 (-9223372036854775808),.string ⟨#[]⟩],.bool true]) (by simp[results,Tryz.results89,go_sem,o,q,m]) Z ⟨fun _=>rfl,fun G=>absurd b G,C.out.trans r⟩
   have S:=qh (cY 1 (-9223372036854775808) ⟨#[]⟩) s (fun e=>b e.symm)
   go_wp2
   clear M K L x z B o q m V U g2;obtain⟨w6,R,t,r,O,N⟩:=ec u.out (.int .i64 0) (.int .i64 0) (.string ⟨#[]⟩);rw[R];obtain⟨o,q,m,_,_,_⟩:=t.three;exact bodyPost_ret (v:=.tuple #[.agg #[.int .i64 0,.int .i64 0,.string ⟨#[]⟩],.bool false]) (by simp[results,Tryz.results89,go_sem,o,q,m]) Z ⟨fun G=>absurd G b,fun _=>rfl,C.out.trans r⟩
  have A: -a=n:=by
   rw[if_pos]at c
   ·exact c
   exact⟨fun e=>a3 (by rw[MW e];rfl),y⟩
  clear c;have q1:wrap64 (-a)=n:=by rw[A];exact tr _ HR.out
  have q2:((s[0].toNat:Int) !=45)=true:=by rw[bne_iff_ne];omega
  have q3:(a != -9223372036854775808)=true:=by rw[bne_iff_ne];exact y
  clear A
  go_wp2_with fail
  clear q1 q2 q3 o q m x z B;obtain⟨W2,a5⟩:∃W2,wr.setCell ⟨w.heap.size+1,1,none⟩ (.int .i64 n)=W2:=⟨_,rfl⟩;have I:=d.out.put 1 (.int .i64 n);have H:=(Below.heap_setCell wr ⟨w.heap.size+1,1,none⟩ (.int .i64 n) w.heap.size (by simp)).trans f.out;have a1:=g.out.setCell (p:=⟨w.heap.size+1,1,none⟩) (by simp) (.int .i64 n);rw[a5]at I H a1⊢;clear d f g;have d:=J (show IsBlk W2 (w.heap.size+1) 77 #[.int .i64 1,.int .i64 n,.string ⟨#[]⟩]from I);have f:=J (show IsBlk W2 w.heap.size 77 #[.int .i64 0,.int .i64 0,.string ⟨#[]⟩]from H);have g:=J a1;clear I H a1 a5;refine(j6 1 n ⟨#[]⟩ _ HR.out.1 HR.out.2 (by decide)).mono ?_;rintro e w5 ⟨rfl,j⟩;have C:=J (g.out.trans (j.mono g.out.size));have P:=J (d.out.below j d.out.lt);have u:=J (f.out.below j f.out.lt);clear j f d g;obtain⟨M,K,L,x,z,B⟩:=P.out.three;obtain⟨o,q,m,V,U,g2⟩:=u.out.three;by_cases b:cY 1 n ⟨#[]⟩=s.data.toList
  ·have S:=m9 (cY 1 n ⟨#[]⟩) s b.symm
   go_wp2
   clear M K L x z B o q m V U g2;obtain⟨w6,R,t,r,O,N⟩:=ec u.out (.int .i64 1) (.int .i64 n) (.string ⟨#[]⟩);rw[R];obtain⟨o,q,m,_,_,_⟩:=t.three;exact bodyPost_ret (v:=.tuple #[.agg #[.int .i64 1,.int .i64 n,.string ⟨#[]⟩],.bool true]) (by simp[results,Tryz.results89,go_sem,o,q,m]) Z ⟨fun _=>rfl,fun G=>absurd b G,C.out.trans r⟩
  have S:=qh (cY 1 n ⟨#[]⟩) s (fun e=>b e.symm)
  go_wp2
  clear M K L x z B o q m V U g2;obtain⟨w6,R,t,r,O,N⟩:=ec u.out (.int .i64 0) (.int .i64 0) (.string ⟨#[]⟩);rw[R];obtain⟨o,q,m,_,_,_⟩:=t.three;exact bodyPost_ret (v:=.tuple #[.agg #[.int .i64 0,.int .i64 0,.string ⟨#[]⟩],.bool false]) (by simp[results,Tryz.results89,go_sem,o,q,m]) Z ⟨fun G=>absurd G b,fun _=>rfl,C.out.trans r⟩
end Go.Proofs.YtfoejfohbkmmeaaGreatDoor
