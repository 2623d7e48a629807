import Derived.Test.YtfoejfohbkmmeaaGreatDoorP40
import Derived.Test.YtfoejfohbkmmeaaGreatDoorP00
import Derived.Test.YtfoejfohbkmmeaaGreatDoorP06
import Derived.Test.YtfoejfohbkmmeaaGreatDoorP09
import Derived.Test.YtfoejfohbkmmeaaGreatDoorP39
set_option maxRecDepth 100000
set_option maxHeartbeats 4000000
namespace Go.Proofs.YtfoejfohbkmmeaaGreatDoor
open Go.RowKit
open Lib renaming hid→J
theorem oE(c:UInt8):∀(l:List UInt8) (q:Bool) (cur:List UInt8),(∀x∈fk c l q cur,x.size<=cur.length+l.length)/\(fk c l q cur).length<=l.length+1
 |[],_,cur=>by
  rw[fk];exact⟨fun x a=>by rw[Mm.1 a,eV];exact L4 _,L4 _⟩
 |y::l,q,cur=>by
  rw[fk];by_cases d:(y==c&& !(if y==39 then !q else q))=true
  ·rw[if_pos d];obtain⟨b,e⟩:=oE c l (if y==39 then !q else q) [];refine⟨fun x a=>?_,by simp only[L9];omega⟩;rcases Mi.1 a with rfl|a
   ·rw[eV];omega
   have:=b x a;simp only[L9,Mg]at*;omega
  rw[if_neg d];obtain⟨b,e⟩:=oE c l (if y==39 then !q else q) (cur++[y]);refine⟨fun x a=>?_,by simp only[L9];omega⟩;have:=b x a;simp only[Mb,L9,Mg]at*;omega
theorem qC:∀(l cur:List UInt8),(∀x∈vt l cur,x.size<=cur.length+l.length)/\(vt l cur).length<=l.length+1
 |[],cur=>by
  rw[vt];split
  ·exact⟨fun _ h=>(by cases h),Mp _⟩
  exact⟨fun x a=>by rw[Mm.1 a,eV];exact L4 _,L4 _⟩
 |y::l,cur=>by
  rw[vt];split
  ·obtain⟨b,c⟩:=qC l [];refine⟨fun x a=>?_,by simp only[L9];omega⟩;rcases Mi.1 a with rfl|a
   ·rw[eV];omega
   have:=b x a;simp only[L9,Mg]at*;omega
  obtain⟨b,c⟩:=qC l (cur++[y]);refine⟨fun x a=>?_,by simp only[L9];omega⟩;have:=b x a;simp only[Mb,L9,Mg]at*;omega
theorem tS{c:UInt8}{s:ByteArray}{P:List ByteArray}(h:g6 c s=P):(∀x∈P,x.size<=s.size)/\P.length<=s.size+1/\0<P.length:=by
 subst h;obtain⟨d,a⟩:=oE c s.data.toList false [];refine⟨fun x b=>?_,by rw[aL];exact a,List.length_pos_iff.2 (pP _ _ _ _)⟩;have:=d x b;rw[aL];simpa using this
theorem I6{P:List ByteArray}{cert:Bool}(h:zo P cert=false)(c:0<P.length):¬zo P cert=true/\(cert=true->P.length=1)/\(cert=false->P.length=2):=by
 unfold zo at h⊢;refine⟨by rw[h];exact MF,?_,?_⟩
 ·rintro rfl;obtain⟨a,b⟩:=Mo.1 h;exact of_decide_eq_true (bne_eq_false_iff_eq.1 a)
 rintro rfl;obtain⟨a,b⟩:=Mo.1 h;have a:=of_decide_eq_false (bne_eq_false_iff_eq.1 a);have b:=of_decide_eq_false b;omega
theorem getD_some{P:List ByteArray}{i:Nat}{p:ByteArray}(h:P[i]? =some p):P.getD i ⟨#[]⟩=p:=by rw[Mk,h];rfl
theorem rh{L:List ByteArray}{j:Nat}{x:ByteArray}{a:List V}(h:L[j]? =some x):dD (L.drop j) a=match fP x with
  |none=>(a,false)
  |some v=>dD (L.drop (j+1)) (a++[v]):=by
 obtain⟨b,rfl⟩:=L6.1 h;rw[Mc b,dD];rfl
theorem G5{cert:Bool}{L:List ByteArray}{i:Nat}{l:ByteArray}{r:Rel}(h:L[i]? =some l):EA cert (L.drop i) i r=if(l.toList==(⟨#[]⟩:ByteArray).toList)=true then EA cert (L.drop (i+1)) (i+1) r
  else if(gh l cert).2=false then(Rel.zero,i,2)
  else if bP r (gh l cert).1=0 then EA cert (L.drop (i+1)) (i+1) (bU r (gh l cert).1)
  else(Rel.zero,i,bP r (gh l cert).1):=by
 obtain⟨a,rfl⟩:=L6.1 h;rw[Mc a,EA]
theorem zw{vs:List V}{q:Rat}{b:Bool}{x:Tp×Bool}(h:x=(⟨vs,q⟩,b)):(Tree.tup [.agg [.sl (vs.map V.tree),bT (decide (q.num<0)),aH q.num.natAbs,aH q.den],bT b])=.tup [x.1.tree,bT x.2]:=by rw[h];rfl
theorem Lv{v:V}(h:v.ok=true):v.s.size<=64:=by
 unfold V.ok bF at h;split at h
 ·simp at h;simp[ByteArray.size,h]
 simp only[L8,decide_eq_true_eq]at h;omega
theorem Es{l:ByteArray}{cert:Bool}{t:Tp}(h:gh l cert=(t,true))(g:l.size<=65000):FitT t/\yO t/\t.vals.length<=65536:=by
 obtain⟨c,d⟩:=CT l cert;rw[h]at c d;have b:=d c.symm;have a:=tP (s:=l) (cert:=cert) (by rw[h]);rw[h]at a;dsimp only at b a;have e:=tz c.symm;have i:=tA (l:=l) (cert:=cert);refine⟨?_,fun v f=>Ma (Lv (a.ok v f).1) (by decide),?_⟩
 ·rw[b];exact xb (vs:=(g5 (bW l cert)).vals) e.2.2.2
 rw[b];show(bW l cert).vs.length<=_;omega
theorem zx(s:Sch)(l:ByteArray)(hs:l.size<=1000000):Ct 33 [s.tree,sT l] (.tup [(gh l s.cert).1.tree,.sc (.bool (gh l s.cert).2)]):=by
 refine Ct.of (n:=73) Tryz.func33 Z Z Z Z Z fun w0 G0=>?_
 refine ab<|aj 3 Z<|ab<|ae<|af Z Z Z (ak Z I3 Z Z)<|af (t:=.agg [.sc (.slice none 0 0),bT (decide ((1:Rat).num<0)),aH ((1:Rat).num.natAbs),aH ((1:Rat).den)]) Z Z Z (mW Z fZ Z Z Z)<|aa 2 Z<|ag<|ab ?_;obtain⟨P,N⟩:∃P,g6 58 l=P:=⟨_,rfl⟩;obtain⟨J,a5,I⟩:=tS N;refine kO 2 0 77 3 (bs':=[(26,(dj s)),(67,[.sl [],bT false,.sl [],.sl []]),(67,[.own 0,bT (decide ((1:Rat).num<0)),aH ((1:Rat).num.natAbs),aH ((1:Rat).den)])]) (rs':=[some ⟨77,3,[].map V.tree,false⟩]) Z Z Z Z<|ae<|aa 1 Z<|af (t:=.sl (P.map bG)) Z Z Z (ak Z (by have h:=CZ l 58 (by omega);rw[N]at h;exact h) Z Z)<|aa 1 Z<|ag<|ab<|ab<|ae<|aa 1 Z<|af (t:=nI P.length) Z Z Z (ah (aZ Z cD Z) (by simp only[L5]))<|af (t:=bT (decide (P.length=1))) Z Z Z (ah (ai Z Z Z Zy) (ar (jF P.length 1)))<|aa 2 Z<|af (t:=bT ((decide (P.length=1)) !=s.cert)) Z Z Z (ai Z Z Z Zy)<|aa 1 Z<|aq (t:=.sl (P.map bG)) Z Z Z Z (fun M=>au Z Z)<|aq (t:=nI P.length) Z Z Z Z (fun M=>ah (aZ Z cD (if_pos M)) (by simp only[L5]))<|aq (t:=bT (decide (2<P.length))) Z Z Z Z (fun M=>ah (ai Z (if_pos M) Z (fun _=>rfl)) (ar (oF P.length 2)))<|af (t:=bT (zo P s.cert)) Z Z Z (ah (t:=bT (((decide (P.length=1)) !=s.cert)||(decide (2<P.length)))) (aK Z Z (fun O=>(ar (by rw[O];rfl))) (fun O=>(if_pos O).trans (ar (by rw[O];rfl)))) (ar Z))<|ag<|aF Z (fun w=>?_) (fun w=>?_)
 ·refine ab<|ek 0 (bs':=[(26,(dj s)),(67,[.sl [],bT false,.sl [],.sl []]),(67,[.sl ([].map V.tree),bT (decide ((1:Rat).num<0)),aH ((1:Rat).num.natAbs),aH ((1:Rat).den)])]) (rs':=[none]) Z Z Z Z<|aj 3 Z<|aw<|⟨.inr Z,_,.cons ⟨_,_,_,_,Z,Z,.inl ⟨_,di,Z,Z⟩⟩ (.cons Z .nil),zw (vs:=[]) (q:=1) (b:=false) (by unfold gh vr;rw[N,if_pos w]),Z⟩
 obtain⟨S,a3,U⟩:=I6 w I;obtain⟨H,C⟩:∃p,P[0]? =some p:=⟨_,L3 I⟩;have Y:=J H (L7 C);obtain⟨L,R⟩:∃L,g6 44 H=L:=⟨_,rfl⟩;obtain⟨Q,a4,_⟩:=tS R;have r:gh l s.cert=(if(dD L []).2=false then(⟨(dD L []).1,1⟩,false)else if s.cert=true then(⟨(dD L []).1,1⟩,true)else if(cV (P.getD 1 ⟨#[]⟩)).2=0 then(⟨(dD L []).1,(cV (P.getD 1 ⟨#[]⟩)).1⟩,true)else(⟨(dD L []).1,1⟩,false)):=by
  unfold gh vr;rw[N,if_neg S,getD_some C,R]
 refine am<|ab<|ae<|aa 1 Z<|af (t:=.ref [sT H]) Z Z Z (aM (bG H) Z cD Z Z Z (aS (f:=bG) C) (fM _) Z)<|aa 1 Z<|af (t:=.sl (L.map bG)) Z Z Z (ak Z (by have h:=CZ H 44 (by omega);rw[R]at h;exact h) Z Z)<|aa 1 Z<|ag<|ab<|ab<|aj 1 Z<|aB<|aR (fun n_ S_=>∃(j:Nat) (d:List V),(j<=L.length/\d.length=j/\dD (L.drop j) d=dD L [])/\n_=L.length-j/\S_=⟨73,[(2,.box 0 0),(4,.box 1 0),(5,bT false),(6,.box 2 0),(7,.sl (P.map bG)),(8,.sl (L.map bG)),(9,nI j)],[(26,(dj s)),(67,[.sl [],bT false,.sl [],.sl []]),(67,[.own 0,bT (decide ((1:Rat).num<0)),aH ((1:Rat).num.natAbs),aH ((1:Rat).den)])],[some ⟨77,3,d.map V.tree,false⟩]⟩) 3 1 ⟨0,[],⟨Mp _,Z,Z⟩,Z,Z⟩ .rf ?_;rintro n_ S_ ⟨j,d,⟨hj,W,a⟩,rfl,rfl⟩;refine ab<|ab<|ae<|aa 2 Z<|af (t:=nI L.length) Z Z Z (ah (aZ Z cD Z) (by simp only[L5]))<|af (t:=bT (decide (j<L.length))) Z Z Z (ah (ai Z Z Z Zy) (ar (gA j L.length)))<|ag<|aD Z (fun K=>?_) (fun K=>?_)
 ·obtain⟨x,k⟩:∃x,L[j]? =some x:=⟨_,L3 K⟩;have a1:=Q x (L7 k);refine am<|ab<|aB<|ab ?_;rcases u:fP x with _|v
  ·rw[rh k,u]at a;dsimp only at a;obtain⟨o,c⟩:∃b:Bool,b=false:=⟨_,rfl⟩;refine ae<|aa 2 Z<|af (t:=.ref [sT x]) Z Z Z (aM (bG x) Z cD Z Z Z (aS (f:=bG) k) (fM _) Z)<|aa 1 Z<|af (t:=.tup [.agg [iT 0,iT 0,sT (⟨#[]⟩)],bT o]) Z Z Z (ak Z (by have h:=xp x (by omega) u;rw[c];exact h) Z Z)<|aa 6 Z<|ag<|ab<|ab<|ae<|aa 1 Z<|af (t:=bT (!o)) Z Z Z (dm Z Z Zy)<|ag<|aF Z (fun A=>?_) (fun A=>?_)
   ·refine ab<|ek 0 (bs':=[(26,(dj s)),(67,[.sl [],bT false,.sl [],.sl []]),(67,[.sl (d.map V.tree),bT (decide ((1:Rat).num<0)),aH ((1:Rat).num.natAbs),aH ((1:Rat).den)]),(77,[iT 0,iT 0,sT (⟨#[]⟩)])]) (rs':=[none]) Z Z Z Z<|aj 3 Z<|aw<|⟨.inr Z,_,.cons ⟨_,_,_,_,Z,Z,.inl ⟨_,di,Z,Z⟩⟩ (.cons Z .nil),zw (by rw[r,<-a];rfl),Z⟩
   rw[c]at A;cases A
  rw[rh k,u]at a;dsimp only at a;obtain⟨o,c⟩:∃b:Bool,b=true:=⟨_,rfl⟩;refine ae<|aa 2 Z<|af (t:=.ref [sT x]) Z Z Z (aM (bG x) Z cD Z Z Z (aS (f:=bG) k) (fM _) Z)<|aa 1 Z<|af (t:=.tup [.agg [iT v.t,iT v.n,sT v.s],bT o]) Z Z Z (ak Z (by have h:=xo x v u;rw[c];exact h) Z Z)<|aa 6 Z<|ag<|ab<|ab<|ae<|aa 1 Z<|af (t:=bT (!o)) Z Z Z (dm Z Z Zy)<|ag<|aF Z (fun B=>?_) (fun B=>?_)
  ·rw[c]at B;cases B
  refine am<|ae<|aa 3 rfl<|af (t:=.sl [.agg [iT v.t,iT v.n,sT v.s]]) rfl rfl rfl (aQ rfl bq fx rfl (by decide) (by decide) rfl rfl rfl rfl rfl)<|cg (bs':=[(26,(dj s)),(67,[.sl [],bT false,.sl [],.sl []]),(67,[.any,bT (decide ((1:Rat).num<0)),aH ((1:Rat).num.natAbs),aH ((1:Rat).den)]),(77,[iT v.t,iT v.n,sT v.s])]) (rs':=[some ⟨77,3,(d++[v]).map V.tree,false⟩]) rfl rfl rfl rfl gR rfl rfl rfl rfl (by intro e X;simp only[Mi,Nf,or_false]at X;subst X;rfl) (AllC.lit rfl) (AllC.lit rfl) (by simp only[L5,L9,Mg];omega) rfl rfl rfl (by rw[MX];rfl)<|aa 2 rfl<|ag<|ae<|aa 1 rfl<|af (t:=nI (j+1)) rfl rfl rfl (ah (ai rfl rfl rfl Zy) (bi (by omega)))<|aa 1 rfl<|ag<|⟨_,_,?_,⟨j+1,d++[v],?_,rfl,rfl⟩,.rf⟩
  ·omega
  exact⟨by omega,by simp only[Mb,L9,Mg];omega,a⟩
 rw[Md (by omega),dD]at a;refine ek 0 (bs':=[(26,(dj s)),(67,[.sl [],bT false,.sl [],.sl []]),(67,[.sl (d.map V.tree),bT (decide ((1:Rat).num<0)),aH ((1:Rat).num.natAbs),aH ((1:Rat).den)])]) (rs':=[none]) Z Z Z Z<|aT<|ab<|ab<|ae<|aa 2 Z<|af (t:=bT (!s.cert)) Z Z Z (dm Z Z Zy)<|ag<|aF Z (fun y=>?_) (fun y=>?_)
 ·have m:s.cert=false:=by simpa using y
  have a2:=U m;obtain⟨g,i⟩:∃p,P[1]? =some p:=⟨_,L3 (by omega)⟩;have a0:=J g (L7 i);refine ab ?_;by_cases D:(cV g).2=0
  ·obtain⟨T,F⟩:∃z:Nat,z=0:=⟨_,rfl⟩;refine ae<|aa 1 Z<|af (t:=.ref [sT g]) Z Z Z (aM (bG g) Z cD Z Z Z (aS (f:=bG) i) (fM _) Z)<|aa 1 Z<|af (t:=.tup [.agg [bT (decide (((cV g).1).num<0)),aH (((cV g).1).num.natAbs),aH (((cV g).1).den)],nI T]) Z Z Z (ak Z (by have h:=tR g (by omega);rw[CL D]at h;rw[F];exact h) Z Z)<|aa 6 Z<|ag<|ab<|ab<|ae<|aa 1 Z<|af (t:=bT (decide (T≠0))) Z Z Z (ah (ai Z Z Z Zy) (ar (tV T 0)))<|ag<|aD Z (fun E=>?_) (fun E=>?_)
   ·exact absurd F E
   refine am<|aj 3 Z<|ab<|aj 3 Z<|aw<|⟨.inr Z,_,.cons ⟨_,_,_,_,Z,Z,.inl ⟨_,di,Z,Z⟩⟩ (.cons Z .nil),zw (by rw[r,<-a,if_neg (by simp),if_neg (by rw[m];simp),getD_some i,if_pos D]),Z⟩
  refine ae<|aa 1 Z<|af (t:=.ref [sT g]) Z Z Z (aM (bG g) Z cD Z Z Z (aS (f:=bG) i) (fM _) Z)<|aa 1 Z<|af (t:=.tup [.agg [bT false,aH 0,aH 0],iT ((cV g).2)]) Z Z Z (ak Z (by have h:=tR g (by omega);rw[ze D]at h;exact h) Z Z)<|aa 6 Z<|ag<|ab<|ab<|ae<|aa 1 Z<|af (t:=bT (((cV g).2) !=0)) Z Z Z (ai Z Z Z Zy)<|ag<|aF Z (fun G=>?_) (fun G=>?_)
  ·refine ab<|aj 3 Z<|aw<|⟨.inr Z,_,.cons ⟨_,_,_,_,Z,Z,.inl ⟨_,di,Z,Z⟩⟩ (.cons Z .nil),zw (by rw[r,<-a,if_neg (by simp),if_neg (by rw[m];simp),getD_some i,if_neg D]),Z⟩
  exact absurd (by simpa using G) D
 have m:s.cert=true:=by simpa using y
 refine am<|ab<|aj 3 Z<|aw<|⟨.inr Z,_,.cons ⟨_,_,_,_,Z,Z,.inl ⟨_,di,Z,Z⟩⟩ (.cons Z .nil),zw (by rw[r,<-a,if_neg (by simp),if_pos m]),Z⟩
theorem vF(s:Sch)(b:List UInt8):Ct 11 [s.tree,.sl (bm b)] (Kh (ir s b)):=by
 refine Ct.of (n:=64) Tryz.func11 Z Z Z Z Z fun w0 G0=>?_
 refine ab<|aj 4 Z<|ab<|ab<|ae<|aa 1 Z<|af Z Z Z (ak Z (oi s) Z Z)<|af (t:=bT (!(fv s))) Z Z Z (dm Z Z Zy)<|ag<|aF Z (fun p=>?_) (fun p=>?_)
 ·refine ab<|aj 4 Z<|aw<|⟨.inr Z,_,.cons ⟨_,_,_,_,Z,Z,.inl ⟨_,bj,Z,Z⟩⟩ (.cons Z (.cons Z .nil)),nO (R:=Rel.zero) (i:=0) (e:=1) (x:=ir s b) (by unfold ir;rw[if_pos (by simpa using p)]),Z⟩
 have g:fv s=true:=by simpa using p
 have W:=gY g;refine am<|ab<|ab<|ae<|aa 1 Z<|af (t:=nI b.length) Z Z Z (ah (aZ Z cC Z) (by simp only[L5,a6]))<|af (t:=bT (decide (16384<b.length))) Z Z Z (ah (ai Z Z Z Zy) (ar (oF b.length 16384)))<|ag<|aD Z (fun y=>?_) (fun y=>?_)
 ·refine ab<|aj 4 Z<|aw<|⟨.inr Z,_,.cons ⟨_,_,_,_,Z,Z,.inl ⟨_,bj,Z,Z⟩⟩ (.cons Z (.cons Z .nil)),nO (R:=Rel.zero) (i:=0) (e:=4) (x:=ir s b) (by unfold ir;rw[if_neg (by rw[g];simp),if_pos y]),Z⟩
 refine am<|ab<|aj 4 Z<|ab ?_;obtain⟨A,C⟩:∃A:ByteArray,(⟨b.toArray⟩:ByteArray)=A:=⟨_,rfl⟩;have H:A.data.toList=b:=by rw[<-C]
 obtain⟨L,N⟩:∃L,vt b []=L:=⟨_,rfl⟩;obtain⟨J,O⟩:=qC b [];rw[N]at J O;have X:A.size=b.length:=by rw[aL,H]
 have q:ir s b=EA s.cert L 0 ⟨s,[]⟩:=by unfold ir;rw[if_neg (by rw[g];simp),if_neg y,N]
 refine ae<|aa 1 Z<|af (t:=sT A) Z Z Z (ah (mY Z Z) (gd C))<|af (t:=.sl (L.map bG)) Z Z Z (ak Z (by have h:=Er A (by omega);rw[H,N]at h;exact h) Z Z)<|aa 1 Z<|ag<|ab<|ab<|aj 1 Z<|aB<|aR (fun U V=>∃(i:Nat) (r:Rel),(i<=L.length/\FitR r/\A9 r/\EA s.cert (L.drop i) i r=EA s.cert L 0 ⟨s,[]⟩)/\U=L.length-i/\V=⟨64,[(2,.box 0 0),(4,.box 1 0),(5,iT 0),(6,iT 0),(7,.box 2 0),(8,.sl (L.map bG)),(9,nI i)],[(26,(dj s)),(30,eD),(30,(aV r))],[]⟩) 3 0 ⟨0,⟨s,[]⟩,⟨by omega,⟨by show s.cols.length<=_;omega,by simp,fun t Q=>by cases Q⟩,(fun t Q=>(by cases Q)),Z⟩,Z,Z⟩ .rf ?_;rintro U V ⟨i,r,⟨Y,K,m,a⟩,rfl,rfl⟩;refine ab<|ab<|ae<|aa 2 Z<|af (t:=nI L.length) Z Z Z (ah (aZ Z cD Z) (by simp only[L5]))<|af (t:=bT (decide (i<L.length))) Z Z Z (ah (ai Z Z Z Zy) (ar (gA i L.length)))<|ag<|aD Z (fun D=>?_) (fun D=>?_)
 ·obtain⟨l,j⟩:∃l,L[i]? =some l:=⟨_,L3 D⟩;have P:=J l (L7 j);rw[Mg]at P;rw[G5 j]at a;refine am<|ab<|aB<|ab<|ab<|ae<|aa 2 Z<|af (t:=.ref [sT l]) Z Z Z (aM (bG l) Z cD Z Z Z (aS (f:=bG) j) (fM _) Z)<|aa 1 Z<|af (t:=bT (l.toList==(⟨#[]⟩:ByteArray).toList)) Z Z Z (ah (ai Z Z Z Zy) (ar Z))<|ag<|aF Z (fun v=>?_) (fun v=>?_)
  ·rw[if_pos v]at a;refine aT<|ae<|aa 1 Z<|af (t:=nI (i+1)) Z Z Z (ah (ai Z Z Z Zy) (bi (by omega)))<|aa 1 Z<|ag<|⟨_,_,?_,⟨i+1,r,?_,Z,Z⟩,.rf⟩
   ·omega
   exact⟨by omega,K,m,a⟩
  rw[if_neg (by rw[v];exact MF)]at a;refine am<|ab ?_;obtain⟨⟨t,c⟩,M⟩:∃x,gh l s.cert=x:=⟨_,rfl⟩;rw[M]at a;dsimp only at a;refine hH (sl':=[(2,.box 0 0),(4,.box 1 0),(5,iT 0),(6,iT 0),(7,.box 2 0),(8,.sl (L.map bG)),(9,nI i),(30,bT (decide (i<L.length))),(37,bT (l.toList==(⟨#[]⟩:ByteArray).toList))]) ⟨Z,⟨Z,⟨Z,⟨Z,⟨Z,⟨Z,⟨Z,⟨Z,⟨Z,trivial⟩⟩⟩⟩⟩⟩⟩⟩⟩<|ff (fu:=1) [some 39,some 40,some 41,some 42,some 43,some 44,some 38,some 45,some 46,some 10,none,some 11] [9,10] [.agg (dj s),.sl (L.map bG),nI i,.ref [sT l],sT l,.tup [.agg (bV t),bT c],.tup [.agg (bV t),bT c],.agg (bV t),bT c,.any,.any,bT c] [⟨[9],[(2,.box 0 0),(4,.box 1 0),(5,iT 0),(6,iT 0),(7,.box 2 0),(8,.sl (L.map bG)),(9,nI i),(30,bT (decide (i<L.length))),(37,bT (l.toList==(⟨#[]⟩:ByteArray).toList))],[(26,(dj s)),(30,eD),(30,(aV r)),(67,[.sl [],bT false,.sl [],.sl []])],[],[.agg (dj s),.sl (L.map bG),nI i,.ref [sT l],sT l,.tup [.agg (bV t),bT c],.tup [.agg (bV t),bT c],.agg (bV t),bT c,.box 3 0,.any,bT c]⟩] ⟨[10,9],[(2,.box 0 0),(4,.box 1 0),(5,iT 0),(6,iT 0),(7,.box 2 0),(8,.sl (L.map bG)),(9,nI i),(30,bT (decide (i<L.length))),(37,bT (l.toList==(⟨#[]⟩:ByteArray).toList))],[(26,(dj s)),(30,eD),(30,(aV r)),(67,(bV t))],[],[.agg (dj s),.sl (L.map bG),nI i,.ref [sT l],sT l,.tup [.agg (bV t),bT c],.tup [.agg (bV t),bT c],.agg (bV t),bT c,.box 3 0,.any,bT c]⟩ (by kernel_rfl) Z (by kernel_rfl) (by kernel_rfl) (by kernel_rfl) Z Z ?_ ?_
  ·refine .opp [] (.okk Z (aP Z Z Z eI Z Z)<|.okk Z (aP Z Z Z eI Z Z)<|.fin)<|.opp [] (.okk Z (au Z Z)<|.okk Z (au Z Z)<|.fin)<|.opp [] (.okk Z (au Z Z)<|.okk Z (au Z Z)<|.fin)<|.opp [1,2] (.okk Z (aM (bG l) Z cD Z Z Z (aS (f:=bG) j) (fM _) Z)<|.okk Z (aM (bG l) Z cD Z Z Z (aS (f:=bG) j) (fM _) Z)<|.fin)<|.opp [3] (.okk Z (bz Z Z nd Z)<|.okk Z (bz Z Z nd Z)<|.fin)<|.opp [0,4] (.okk Z (ak Z (by have h:=zx s l (by omega);rw[M]at h;exact h) Z Z)<|.okk Z (ak Z (by have h:=zx s l (by omega);rw[M]at h;exact h) Z Z)<|.fin)<|.opp [5] (.okk Z (au Z Z)<|.okk Z (au Z Z)<|.fin)<|.opp [6] (.okk Z (cT Z Z Z)<|.okk Z (cT Z Z Z)<|.fin)<|.opp [6] (.okk Z (cT Z Z Z)<|.okk Z (cT Z Z Z)<|.okk Z (cT Z Z Z)<|.nil)<|.opp [] (.wr 1 id (.box 3 0) (by kernel_rfl) Z Z (i7 Z Z Z fV Z Z Z Z) Z Z Z Z (.k Z (.k Z (.k Z (.k Z (.k Z (.k Z (.k Z (.k Z (.k Z (.i Z (.k Z (.k Z .nil))))))))))))<|.fin)<|.opp [7,9] (.no (by kernel_rfl)<|.wr 2 id .any (by kernel_rfl) Z Z (gE Z Z Z Z Z Z Z Z n5 Z Z Z) Z Z Z Z (.k Z (.k Z (.k Z (.k Z (.k Z (.k Z (.k Z (.k Z (.k Z (.k Z (.i Z (.k Z .nil))))))))))))<|.fin)<|.opp [8] (.nos 2<|.okk Z (bp Z Z)<|.nil)<|.nil
  refine ab<|ab<|ae<|aa 1 Z<|af (t:=bT (!c)) Z Z Z (dm Z Z Zy)<|ag<|aF Z (fun u=>?_) (fun u=>?_)
  ·refine ab<|aj 5 Z<|aw<|⟨.inr Z,_,.cons ⟨_,_,_,_,Z,Z,.inl ⟨_,bj,Z,Z⟩⟩ (.cons Z (.cons Z .nil)),nO (R:=Rel.zero) (i:=i) (e:=2) (x:=ir s b) (by rw[q,<-a,if_pos (by simpa using u)]),Z⟩
  have E:c=true:=by simpa using u
  rw[if_neg (by rw[E];simp)]at a;obtain⟨o,d,w⟩:=Es (E▸M) (by omega);refine am<|ab ?_;by_cases B:bP r t=0
  ·rw[if_pos B]at a;obtain⟨S,G⟩:∃z:Nat,z=0:=⟨_,rfl⟩;refine ae<|aa 2 Z<|af (t:=.tup [.agg [sT ((bU r t).sch.name),bT ((bU r t).sch.cert),.sl (((bU r t).sch.cols).map Col.tree),.sl (((bU r t).tups).map Tp.tree)],nI S]) Z Z Z (ak Z (by have h:=ga r t K m o d w;rw[rL B]at h;rw[G];exact h) Z Z)<|aa 6 Z<|ag<|ab<|ab<|ae<|aa 1 Z<|af (t:=bT (decide (S≠0))) Z Z Z (ah (ai Z Z Z Zy) (ar (tV S 0)))<|ag<|aD Z (fun F=>?_) (fun F=>?_)
   ·exact absurd G F
   refine am<|aj 2 Z<|ae<|aa 1 Z<|af (t:=nI (i+1)) Z Z Z (ah (ai Z Z Z Zy) (bi (by omega)))<|aa 1 Z<|ag<|⟨_,_,?_,⟨i+1,(bU r t),?_,Z,Z⟩,.rf⟩
   ·omega
   have T:=pF K o w (ov (by rw[qv];exact B));exact⟨by omega,T.1,T.2 m d,a⟩
  rw[if_neg B]at a;refine ae<|aa 2 Z<|af (t:=.tup [.agg eD,iT (bP r t)]) Z Z Z (ak Z (by have h:=ga r t K m o d w;rw[pL B]at h;exact h) Z Z)<|aa 6 Z<|ag<|ab<|ab<|ae<|aa 1 Z<|af (t:=bT ((bP r t) !=0)) Z Z Z (ai Z Z Z Zy)<|ag<|aF Z (fun I=>?_) (fun I=>?_)
  ·refine ab<|aj 6 Z<|aw<|⟨.inr Z,_,.cons ⟨_,_,_,_,Z,Z,.inl ⟨_,bj,Z,Z⟩⟩ (.cons Z (.cons Z .nil)),nO (R:=Rel.zero) (i:=i) (e:=bP r t) (x:=ir s b) (by rw[q,<-a]),Z⟩
  exact absurd (by simpa using I) B
 refine aT<|ab<|aj 4 Z<|aw<|⟨.inr Z,_,.cons ⟨_,_,_,_,Z,Z,.inl ⟨_,bj,Z,Z⟩⟩ (.cons Z (.cons Z .nil)),nO (R:=r) (i:=0) (e:=0) (x:=ir s b) (by rw[q,<-a,Md (by omega)];rfl),Z⟩
section
variable {w0:World} {G0:Bse} {o:Oper} {S:St}
end
theorem Bv{E:En}{vs:List Value}{args:List Tree}{m:Nat}(h:FT E vs args)(i:Nat):FT E [(vs.toArray++Array.replicate m undef).getD i undef] [look (kw 0 args) i]:=by
 rw[mU,if_pos (Mp _),O7];cases d:args[i]? with
 |none=>exact .any _ .nil
 |some t=>
  obtain⟨u,b,a⟩:=h.get i t d;have e:=(L6.1 b).1;have c:(vs.toArray++Array.replicate m undef).getD i undef=u:=by
   rw[MO,Od (by simpa using e),NS,b];rfl
  rw[c];exact a
section
variable {w0:World} {G0:Bse} {o:Oper} {S:St}
end
section
variable {w0:World} {G0:Bse} {o:Oper} {S:St}
end
def FzOut(n:Nat)(fz:Nat×Nat):Prop:=fz.2=0\/n<=fz.1
theorem FzOut.free{w:World}{g:Nat}{cur:Array Value}{e:TypeId}{a:Nat×Nat}{i:Nat}(h:FzOut cur.size a)(c:w.heap[g]? =some (.cells cur e a))(d:i<cur.size):w.frozen? ⟨g,i,none⟩=false:=by
 obtain⟨lo,b⟩:=a;simp only[World.frozen?,c,Nu,decide_eq_false_iff_not];rcases h with h|h
 ·right;simp only at h;omega
 left;simp only at h;omega
def RowZ(W:World)(B:Nat)(v:Value)(l:List UInt8):Prop:=∃(g cap:Nat) (cur:Array Value) (fz:Nat×Nat),v=.slice (some ⟨g,0,none⟩) l.length cap/\B<=g/\W.heap[g]? =some (.cells cur 5 fz)/\FzOut cur.size fz/\l.length<=cap/\cap<=maxLen/\cur.size=cap/\cur.toList.take l.length=bE l/\cur.toList.all bQ=true
theorem RowZ.less{W:World}{B b:Nat}{v:Value}{l:List UInt8}(h:RowZ W B v l)(e:b<=B):RowZ W b v l:=by
 obtain⟨g,a,cur,d,i,c,f⟩:=h;exact⟨g,a,cur,d,i,Ma e c,f⟩
theorem RowZ.later{W W':World}{B:Nat}{v:Value}{l:List UInt8}(h:RowZ W B v l)(f:Below W.heap.size W W'):RowZ W' B v l:=by
 obtain⟨g,a,cur,e,i,d,b,c⟩:=h;exact⟨g,a,cur,e,i,d,(f.block g (MD.1 b).1).trans b,c⟩
theorem RowZ.cells{W:World}{B:Nat}{v:Value}{l:List UInt8}(h:RowZ W B v l):∃g a,v=.slice (some ⟨g,0,none⟩) l.length a/\B<=g/\g<W.heap.size/\l.length<=a/\a<=maxLen/\NoDigB W g/\∀(j:Nat) u,(bE l)[j]? =some u->W.cell? ⟨g,0+j,none⟩=some u:=by
 obtain⟨g,a,cur,k,n,e,c,o,f,i,p,d,m⟩:=h;refine⟨g,a,n,e,(MD.1 c).1,f,i,cH c m,fun j u b=>?_⟩;rw[MT,cell_of_row W g j cur _ k c];rw[<-d,MU]at b;split at b
 ·simpa using b
 cases b
theorem RowZ.pt{W:World}{B:Nat}{v:Value}{l:List UInt8}{G:Nat->Prop}(h:RowZ W B v l)(c:∀g,v.ownBlock=some g->¬G g):PT W G [v] [.sl (bm l)]:=by
 obtain⟨g,a,rfl,i,e,b,d,j,f⟩:=h.cells;exact .sl g 0 a _ (bE l) (bm l) e (c g Z) f (by rw[a6]) (by rw[a6];exact b) (by unfold maxLen at d;omega) (qB _) .nil
theorem mO(l:List UInt8):(bE l).all bQ=true:=by
 unfold bE;rw[Qu];exact Mh.2 fun _ _=>rfl
theorem Et(w:World)(s:ByteArray)(e:s.size<=9223372036854775807):RowZ (Lib.bytesWorld w 5 s) w.heap.size (.slice (some ⟨w.heap.size,0,none⟩) s.size (grownCap w s.size 0 5)) s.data.toList:=by
 have a:=grownCap_ge w s.size 0 5;have d:=grownCap_le_maxLen w s.size 0 5 (by unfold maxLen;omega);have b:s.data.toList.length=s.size:=by simp
 refine⟨w.heap.size,grownCap w s.size 0 5,_,_,by rw[b],L4 _,Lib.bytesWorld_at_new w _ s,.inr (L4 _),by rw[b];exact a,d,?_,?_,?_⟩
 ·unfold Lib.bytesCells;rw[N9,Array.size_map,Array.size_replicate];have:s.data.size=s.size:=rfl;omega
 ·unfold Lib.bytesCells bE;rw[MZ,OE,List.take_left' (by rw[L5])]
 unfold Lib.bytesCells;rw[MZ,OE,NH,Qu,Array.toList_replicate];rw[L8];exact⟨Mh.2 fun _ _=>rfl,Mh.2 fun x c=>by rw[(OA.1 c).2];rfl⟩
theorem tT(P:Program)(g o:Nat)(t:TypeId)(c:Nat×Nat):∀(vs:List Value) (i:Nat) (cur:Array Value) (w:World),w.heap[g]? =some (.cells cur t c)->FzOut cur.size c->o+i+vs.length<=cur.size->(∀v∈vs,v.oneCell'=true)->
  (storeCells ⟨g,o,none⟩ vs i).run P w=.ok () (w.setRow g (cur.toList.take (o+i)++vs++cur.toList.drop (o+i+vs.length)).toArray)
 |[],i,cur,w,hg,_,_,_=>by
  simp only[storeCells,Mq,Mg,Nk,M4,Array.toArray_toList];rw[setRow_self w g cur t c hg];rfl
 |v::rest,i,cur,w,hg,hfz,hl,h1=>by
  have h:o+i<cur.size:=by simp at hl;omega
  have d:(⟨g,o,none⟩:Addr).add i=⟨g,o+i,none⟩:=by unfold Addr.add;split<;>simp_all
  have a:w.cell? ⟨g,o+i,none⟩=some cur[o+i]:=by simp[World.cell?,hg,h]
  have b:=hfz.free hg h;have f:(store ((⟨g,o,none⟩:Addr).add i) v).run P w=.ok () (w.setRow g (cur.setIfInBounds (o+i) v)):=by
   rw[d,run_store P w _ v _ (h1 v (by simp)),a];simp[b,setCell_eq_setRow w g (o+i) cur t c v hg]
  have j:=tT P g o t c rest (i+1) (cur.setIfInBounds (o+i) v) (w.setRow g (cur.setIfInBounds (o+i) v)) (setRow_heap w g cur _ t _ hg) (by simpa using hfz) (by simp at hl⊢;omega) (fun x k=>h1 x (by simp[k]));simp only[storeCells,Sem.run_bind,f,Result.andThen_ok,j,setRow_setRow];congr 3;have e:=list_seg_step cur.toList (o+i) v rest (by simp at hl⊢;omega);simpa[Nr,N5]using e
theorem G6(w:World)(B:Nat)(t ty:TypeId)(i:TypeInfo)(Q:Tryz.prog.underlying t=some (.slice 5))(L:Tryz.prog.info? 5=some i)(V:i.zero=some (.int .u8 0))(s:i.size=1)(E:i.bytes=1){O J:Value}{d a:List UInt8}(K:RowZ w B O d)(W:RowZ w B J a)(hl:d.length+a.length<=1000000)(T:B<=w.heap.size):
  ∃v' w',(Builtin.append_ #[t,t] ty #[O,J]).run Tryz.prog w=.ok v' w'/\RowZ w' B v' (d++a)/\Below B w w'/\w.heap.size<=w'.heap.size:=by
 obtain⟨N,R,rfl,_,_,_,_,_,o⟩:=W.cells;obtain⟨_,_,e,_,_,_,_,_,q⟩:=K.cells;obtain⟨g,h,cur,I,rfl,F,M,v,Y,G,a0,r,D⟩:=K;injection e with A _ e2
 injection A with A
 injection A with A
 subst A;have l:∀(b j:Nat),(⟨b,0,none⟩:Addr).add j=⟨b,0+j,none⟩:=fun b j=>by unfold Addr.add;split<;>simp_all
 have m:(bE a).length=a.length:=fI _;have f:(bE d).length=d.length:=fI _;have C:∀u∈bE a,u.oneCell'=true:=fun u p=>by
  unfold bE at p;obtain⟨c,_,rfl⟩:=NA.1 p;rfl
 by_cases n:d.length+a.length<=h
 ·have U:=run_firstCells_some (P:=Tryz.prog) w 1 a.length ⟨N,0,none⟩ a.length R (bE a) (by rw[m,NQ]) (fun j u p=>by rw[l];exact o j u p);have x:=tT Tryz.prog g d.length 5 I (bE a) 0 cur w M v (by rw[m];omega) C;simp only[Nk]at x;have S:(⟨g,0,none⟩:Addr).add d.length=⟨g,d.length,none⟩:=by rw[l,MT]
  refine⟨.slice (some ⟨g,0,none⟩) (d.length+a.length) h,w.setRow g (cur.toList.take d.length++bE a++cur.toList.drop (d.length+(bE a).length)).toArray,by simp[Builtin.append_,run_underlying Q,sizeOf,typeInfo,L,s,Builtin.lenOf,n,U,S,x],⟨g,h,_,I,by rw[Mb],F,setRow_heap w g cur _ _ _ M,?_,by rw[Mb];exact n,G,?_,?_,?_⟩,⟨Z,Z,Z,by simp,fun k X=>setRow_other w g k _ (by omega)⟩,by simp⟩
  ·have:(cur.toList.take d.length++bE a++cur.toList.drop (d.length+(bE a).length)).toArray.size=cur.size:=by
    simp only[Ov,Mb,Mf,MQ,MY];omega
   rw[this];exact v
  ·simp only[Ov,Mb,Mf,MQ,MY];omega
  ·rw[r,show d.length+(bE a).length=(bE d++bE a).length by rw[Mb,f],Mb,show d.length+a.length=(bE d++bE a).length by rw[Mb,f,m]];rw[P7];unfold bE;rw[MX]
  exact mn D (mO _)
 have hr:=run_append_grow (P:=Tryz.prog) w t ty 5 i (.int .u8 0) Q L V ⟨g,0,none⟩ d.length h (bE d) (by rw[f,s,NQ]) (fun j u p=>by rw[l];exact q j u p) ⟨N,0,none⟩ a.length R (bE a) (by rw[m,s,NQ]) (fun j u p=>by rw[l];exact o j u p) (by omega) (by omega) (growslice_fits (by omega) (by rw[E];omega));have H:=grownCap_ge w (d.length+a.length) h 5;have y:grownCap w (d.length+a.length) h 5<=maxLen:=grownCap_le_maxLen w (d.length+a.length) h 5 (by unfold maxLen;omega);refine⟨_,_,hr,⟨w.heap.size,_,_,(0,0),by rw[Mb],T,heap_alloc_new w.drew _,.inl Z,by rw[Mb];exact H,y,?_,?_,?_⟩,⟨Z,Z,Z,by simp,fun k X=>heap_alloc_old w.drew _ (by show k<w.heap.size;omega)⟩,by simp⟩
 ·simp only[N9,Ov,size_zeroCells,m,f];have:(Value.int IntKind.u8 0).cells.size=1:=rfl;rw[this];omega
 ·simp only[MZ];rw[Mb,show d.length+a.length=(bE d++bE a).length by rw[Mb,f,m],P7];unfold bE;rw[MX]
 simp only[MZ,NH,L8];exact⟨⟨mO _,mO _⟩,gO (z:=.int .u8 0) Z _⟩
inductive UnbN (S:St):List (Nat×Tree)->Prop
 |nil:UnbN S []
 |keep {i:Nat} {t:Tree} {l:List (Nat×Tree)} (h:S.get i=t) (hw:within 0 0 t=true) (r:UnbN S l):UnbN S ((i,t)::l)
 |box {i k off:Nat} {ty:TypeId} {cs:List Tree} {l:List (Nat×Tree)} (h:S.get i=.box k off) (hb:S.bs[k]? =some (ty,cs)) (hp:cs.all Tree.plain0=true) (r:UnbN S l):UnbN S ((i,.ref (cs.drop off))::l)
theorem UnbN.box0{S:St}{i k:Nat}{ty:TypeId}{cs:List Tree}{l:List (Nat×Tree)}(h:S.get i=.box k 0)(a:S.bs[k]? =some (ty,cs))(b:cs.all Tree.plain0=true)(r:UnbN S l):UnbN S ((i,.ref cs)::l):=.box h a b r
theorem Bw{S:St}{E E':En}{T:Nat->Value}(a:∀i,FT E [T i] [S.get i])(c:∀v t,FT E [v] [t]->within 0 0 t=true->FT E' [v] [t])(b:∀v k off ty cs,S.bs[k]? =some (ty,cs)->cs.all Tree.plain0=true->FT E [v] [.box k off]->FT E' [v] [.ref (cs.drop off)]){l:List (Nat×Tree)}(h:UnbN S l):∀i,FT E' [T i] [look l i]:=by
 induction h with
 |nil=>exact fun i=>.any _ .nil
 | @keep j t l e hw _ ih=>
  intro i;rw[cZ];split
  ·next e2=>subst e2;exact c _ _ (e▸a j) hw
  exact ih i
 | @box j k off ty cs l e hb hp _ ih=>
  intro i;rw[cZ];split
  ·next e2=>subst e2;exact b _ k off ty cs hb hp (e▸a j)
  exact ih i
section
variable {w1 w w':World} {G1 G2:Nat->Prop} {n:Nat} {sl:List (Nat×Tree)} {a:Act}
theorem Sim.unboxN{S:St}{l:List (Nat×Tree)}(h:Sim w1 (pln G1) S a w)(F:UnbN S l):Sim w (pln G1) ⟨S.n,l,[],[]⟩ a w/\Below w1.heap.size w1 w/\Env w1/\wk G1 w1/\Env w:=by
 obtain⟨bx,rv,c,J,p,s⟩:=h;have q:wk G1 w:=fun g i=>c.ok g (.inl i)
 refine⟨⟨[],[],mZ c.env q,J,p,?_⟩,c.below.below,c.env0.env0,fun g i=>⟨(c.g0 g i).1,(c.g0 g i).2.1⟩,c.env⟩;have e:∀b,b<w.heap.size->¬GG (pln G1) bx rv S.rs b->w.heap[b]? =w.heap[b]? /\¬GG (pln G1) [] [] [] b:=fun b _ d=>⟨Z,fun h=>d (.inl (((kS (w:=w)).2 b).1 h))⟩
 refine Bw (E':=en w (pln G1) [] [] []) s (fun v t x H=>FT.within (E:=en w (pln G1) bx rv S.rs) (E':=en w (pln G1) [] [] []) (m:=0) (k:=0) (L4 _) e (fun b g d=>absurd d (Oo b)) (fun j v G=>absurd G (Oo j)) x H) (fun v k off ty cs d C x=>?_) F;obtain⟨g,us,r,rfl,f,D,_⟩:=pV c d x;have y:g∈cR bx rv S.rs:=aY.2 (.inl (L7 r));have o:PT w G1 us cs:=(D.plain0s C).sub fun b d A=>d (.inl A)
 refine FT.gg (.ref g off (us.drop off) _ f.lt (fun I=>?_) (fun j u B=>?_) (o.drop off) .nil)
 ·have A:=(c.g0 g I).1;rcases c.ge g y with z|z
  ·omega
  exact z
 rw[f.cell];rw[Nh]at B;simpa using B
end
def CtZ(f:FuncId)(args:List Tree)(l:List UInt8):Prop:=(∃fn,Tryz.prog.funcs[f]? =some fn/\(fn.name== "runtime.NumGoroutine")=false/\fn.body.isNone=false)/\∀(G:Nat->Prop) (w:World) (vs:List Value),Env w->OkG G w->PT w G vs args->Calls Tryz.prog f vs.toArray w fun x w'=>∃v,x=.returned v/\RowZ w' w.heap.size v l/\Below w.heap.size w w'
def LW(s:Nat)(l:List UInt8)(w:World)(e:Exit)(w2:World)(_:Nat->Prop)(S:St):Prop:=e=.ret/\∃v,S.get s=.sc v/\RowZ w2 w.heap.size v l/\Below w.heap.size w w2
theorem CtZ.of{f:FuncId}{d:Func}{c:Code}{args:List Tree}{l:List UInt8}{n s:Nat}(t:Tryz.prog.funcs[f]? =some d)(k:d.body=some c)(q:(d.name== "runtime.NumGoroutine")=false)(I:d.ntmps=n)(z:Nat.ble args.length n=true)(C:d.results.toList=[.tmp s])
  (h:∀w G,BWP c (LW s l w) w G ⟨n,kw 0 args,[],[]⟩):CtZ f args l:=by
 refine⟨⟨d,t,q,by rw[k];rfl⟩,fun G w vs B D r=>?_⟩;have y:=r.length;have z:args.length<=n:=by simpa using z
 refine calls_of_wp t k (wp_mono (h w G _ w ⟨[],[],rx B D,?_,Z,fun i=>Bv (.of (r.mono (L4 _) fun b _ k=>⟨Z,fun h=>by
  rcases h with h|h
  ·exact k h
  simp[cR]at h⟩)) i⟩) ?_)
 ·simp;omega
 rintro x a w' ⟨H,G2,S',⟨rfl,v,F,A,j⟩,bx,rv,m,_,o,p⟩;obtain⟨us,g,e⟩:=kb m p (C▸(.cons F .nil:ResL S' [.tmp s] [.sc v]));obtain⟨u,rfl⟩:∃u,us=[u]:=by
  match us,e with
  |[u],_=>exact⟨u,Z⟩
  |[],h=>cases h
  |u::u'::us,h=>have:=h.length;simp at this
 have E:u=v:=e.isSc;subst E;refine⟨o,_,?_,u,Z,A.later m.below.below,j.trans (m.below.below.mono j.size)⟩;unfold results;rw[Sem.run_bind,Oj,Sem.run_map];exact congrArg (fun x:Result (List Value)=>(x.andThen fun a w'=>Result.ok a.toArray w').andThen fun a w'=>Sem.run Tryz.prog (pure (if h:a.size=1 then a[0]else Value.tuple a)) w') g
section
variable {Q:Exit->World->(Nat->Prop)->St->Prop} {w1:World} {G1:Nat->Prop} {ops:Array Oper} {rest:List Oper} {o:Oper} {n d:Nat} {sl:List (Nat×Tree)}
theorem Bx{p:Nat}{s:ByteArray}(G:o.op=.convert 9 22 (.tmp p))(J:o.guard=none)(E:o.dst=some d)(S:Nat.blt d n=true)(R:look sl p=sT s)(z:s.size<=9223372036854775807)
  (k:∀v q,RowZ q w1.heap.size v s.data.toList->Below w1.heap.size w1 q->BOps ops rest Q q (fun b=>G1 b\/v.ownBlock=some b) ⟨n,(d,.sc v)::sl,[],[]⟩):BOps ops (o::rest) Q w1 G1 ⟨n,sl,[],[]⟩:=by
 have r:d<n:=by simpa[Nv]using S
 refine eS J fun a w j=>?_
 obtain⟨K,x,f,L,H,_⟩:=j.facts;have F:=j.lit R;have M:=Lib.run_convert_string_bytes (P:=Tryz.prog) w 9 22 5 s Tryz.underlying9 Tryz.underlying22 Tryz.underlying5;have B:=Et w s z;have c:=Joins.below_bytesWorld _ w 5 s (L4 _);have A:dU (fun s=>a.tmps.getD s undef) (.tmp p)=.string s:=F;refine aC (v:=.slice (some ⟨w.heap.size,0,none⟩) s.size (grownCap w s.size 0 5)) (W':=Lib.bytesWorld w 5 s) (by simp only[execOp,G];rw[A];simp[M]) ?_;obtain⟨g,N,e,I,t,_,_,m,_⟩:=B.cells;have y:wk (fun b=>G1 b\/(Value.slice (some ⟨w.heap.size,0,none⟩) s.size (grownCap w s.size 0 5)).ownBlock=some b) (Lib.bytesWorld w 5 s):=fun b f=>by
  rcases f with f|f
  ·obtain⟨C,D⟩:=x b f;exact⟨Mj C c.size,fun i u O=>D i u (by rw[<-World.cell?_of_block (c.block b C)];exact O)⟩
  injection e with l _ _
  injection l with l
  injection l with l
  simp only[Value.ownBlock,MK]at f;subst f;rw[l];exact⟨t,m⟩
 refine⟨Lib.bytesWorld w 5 s,_,_,?_,k _ _ (B.less f.size) (f.trans (c.mono f.size))⟩;rw[E];refine fE (j.turn (K.below c (L4 _)) y c.size fun b f x=>⟨c.block b f,fun h=>?_⟩) r (.of (.sc _ .nil));rcases h with h|h
 ·exact x h
 simp only[Value.ownBlock,MK]at h;omega
end
theorem lp{G:Nat->Prop}{w W:World}(h:wk G w)(f:Below w.heap.size w W)(d:w.heap.size<=W.heap.size):wk G W:=fun g e=>by
 obtain⟨a,b⟩:=h g e;exact⟨Mj a d,fun i u c=>b i u (by rw[<-World.cell?_of_block (f.block g a)];exact c)⟩
theorem OpOK.at{o:Oper}{n:Nat}{sl:List (Nat×Tree)}{t:Tree}(h:OpOK o ⟨n,sl,[],[]⟩ t)(a:t.plain=true){W:World}{G:Nat->Prop}{T:Nat->Value}(d:Env W)(e:wk G W)(c:SlotL (en W (pln G) [] [] []) T sl):OpRuns Tryz.prog o T W fun v W'=>PT W' G [v] [t]/\Below W.heap.size W W':=
 (h W (pln G) [] [] W T (mZ d e) (fun s _=>c.look s)).mono fun _ _ ⟨f,b⟩=>⟨(f.plain a).gg,b⟩
theorem Bz{w:World}{o:Oper}{T:Nat->Value}{f:FuncId}{b:Func}{c:Array TypeId}{p:Nat}(j:o.op=.call {callee:=.value (.func f),args:=#[.tmp p],argTypes:=c})(g:Tryz.prog.funcs[f]? =some b)(d:(b.name== "runtime.NumGoroutine")=false)(a:b.body.isNone=false):(execOp (dU T) o).run Tryz.prog w=.ok (.enter f #[T p]) w:=by
 have h:¬b.name= "runtime.NumGoroutine" :=by simpa using d
 have i:¬b.body=none:=fun e=>by rw[e]at a;cases a
 simp[execOp,j,resolve,dU,Deferred.ofValue,invoke,callFunc,g,h,i]
theorem G7{f:FuncId}{t:Tree}{l:List UInt8}{o:Oper}{a:Array TypeId}{p:Nat}{W:World}{G:Nat->Prop}{T:Nat->Value}(d:CtZ f [t] l)(c:o.op=.call {callee:=.value (.func f),args:=#[.tmp p],argTypes:=a})(h:PT W G [T p] [t])(k:Env W)(n:wk G W):OpRuns Tryz.prog o T W fun v W'=>RowZ W' W.heap.size v l/\Below W.heap.size W W':=by
 obtain⟨⟨r,q,g,j⟩,b⟩:=d;exact cP (Bz c q g j) ((b G W [T p] k n h).mono fun _ _ ⟨v,i,m,e⟩=>⟨v,i,m,e⟩)
end Go.Proofs.YtfoejfohbkmmeaaGreatDoor
