import Derived.Test.YtfoejfohbkmmeaaGreatDoorP20
import Derived.Test.YtfoejfohbkmmeaaGreatDoorP00
import Derived.Test.YtfoejfohbkmmeaaGreatDoorP06
set_option maxRecDepth 100000
set_option maxHeartbeats 4000000
namespace Go.Proofs.YtfoejfohbkmmeaaGreatDoor
open Go.RowKit
theorem qO{cs:List Col}{vs:List V}{i:Nat}{c:Col}{v:V}(a:cs[i]? =some c)(e:vs[i]? =some v):dZ (cs.drop i) (vs.drop i)=if c.key then v::dZ (cs.drop (i+1)) (vs.drop (i+1))else dZ (cs.drop (i+1)) (vs.drop (i+1)):=by
 obtain⟨d,rfl⟩:=L6.1 a;obtain⟨b,rfl⟩:=L6.1 e;rw[Mc d,Mc b,dZ]
theorem Lw{l m:List V}(h:l=m):(Tree.sl (l.map V.tree))=.sl (m.map V.tree):=by rw[h]
theorem sJ{vs:List V}{ts:List Tp}{i:Nat}{t:Tp}(h:ts[i]? =some t):iv vs (ts.drop i) i=if aX t.vals vs=0 then some i else iv vs (ts.drop (i+1)) (i+1):=by
 obtain⟨a,rfl⟩:=L6.1 h;rw[Mc a,iv]
def uH(o:Option Nat):Tree:=.tup [.sc (.int .i64 ((o.getD 0:Nat):Int)),.sc (.bool o.isSome)]
def fa:List Col->List V->Bool
 |c::cs,v::vs=>((v.t !=c.ty)|| !v.ok)||fa cs vs
 |_,_=>false
theorem pg{cs:List Col}{vs:List V}{i:Nat}{c:Col}{v:V}(a:cs[i]? =some c)(e:vs[i]? =some v):fa (cs.drop i) (vs.drop i)=(((v.t !=c.ty)|| !v.ok)||fa (cs.drop (i+1)) (vs.drop (i+1))):=by
 obtain⟨d,rfl⟩:=L6.1 a;obtain⟨b,rfl⟩:=L6.1 e;rw[Mc d,Mc b,fa]
def bM(s:Sch)(t:Tp):Int:=if fv s=false then 1 else if t.vals.length≠s.cols.length then 13 else if fa s.cols t.vals then 13 else if ik s.cert t.prob then 0 else 19
structure FitT (t:Tp):Prop where
 p:Fit 262144 t.prob
 q:Fit 262144 (1-t.prob)
theorem gY{s:Sch}(h:fv s=true):1<=s.cols.length/\s.cols.length<=6:=by
 unfold fv m8 at h;simp only[Ng,Mo,decide_eq_false_iff_not]at h;omega
theorem eI:rj Tryz.prog 26=some 3:=by kernel_rfl
theorem di:rj Tryz.prog 67=some 4:=by kernel_rfl
theorem lM:rj Tryz.prog 77=some 3:=by kernel_rfl
theorem gR:kM Tryz.prog 61=some (77,3,32):=by kernel_rfl
theorem aN:gN Tryz.prog 28=some (67,4):=by kernel_rfl
theorem bq:gN Tryz.prog 61=some (77,3):=by kernel_rfl
theorem bd:ku Tryz.prog 30 1=some 3:=by kernel_rfl
theorem b9:ku Tryz.prog 67 0=some 0:=by kernel_rfl
theorem ep:ku Tryz.prog 67 1=some 1:=by kernel_rfl
theorem ph:ku Tryz.prog 77 0=some 0:=by kernel_rfl
theorem bJ:jo Tryz.prog 28=true:=by kernel_rfl
theorem cU:jo Tryz.prog 61=true:=by kernel_rfl
theorem n5:(Tryz.prog.info? 67).map (·.size)=some 4:=by kernel_rfl
theorem J1:(Tryz.prog.info? 77).map (·.size)=some 3:=by kernel_rfl
theorem fV:gz Tryz.prog 67=some [.slice none 0 0,.bool false,.slice none 0 0,.slice none 0 0]:=by kernel_rfl
theorem fx:gz Tryz.prog 77=some [.int .i64 0,.int .i64 0,.string (⟨#[]⟩)]:=by kernel_rfl
theorem AE(s:Sch)(vs:List V)(x:s.cols.length<=65536):Ct 125 [s.tree,.sl (vs.map V.tree)] (.sl ((aG s vs).map V.tree)):=by
 refine Ct.of (n:=33) Tryz.func125 Z Z Z Z Z fun w0 G0=>?_
 refine ab<|ae<|aa 1 Z<|af (t:=.sl []) Z Z Z (cz (.inr Z) dk)<|ag<|ab<|ab<|ae<|aa 1 Z<|af (t:=nI vs.length) Z Z Z (ah (aZ Z bq Z) (by simp only[L5]))<|aa 2 Z<|af (t:=nI s.cols.length) Z Z Z (ah (aZ Z bg Z) (by simp only[L5]))<|af (t:=bT (decide (vs.length≠s.cols.length))) Z Z Z (ah (ai Z Z Z Zy) (ar (tV vs.length s.cols.length)))<|ag<|aD Z (fun g=>?_) (fun g=>?_)
 ·refine ab<|ae<|af (t:=.sl []) Z Z Z (cz (.inr Z) dk)<|ag<|aw<|⟨.inr Z,_,.cons Z .nil,Lw (by unfold aG;rw[if_neg g]) (l:=[]),Z⟩
 have j:vs.length=s.cols.length:=Nx.1 g;refine am<|ab<|ae<|gW (k:=0) (e:=77) (sz:=3) (rs':=[some ⟨77,3,[],false⟩]) (.inr Z) Z Z Z Z Z<|ag<|ab<|ab<|ae<|aa 2 Z<|af (t:=nI s.cols.length) Z Z Z (ah (aZ Z bg Z) (by simp only[L5]))<|aa 1 Z<|ag<|aB<|aR (fun q u=>∃(i:Nat) (b:List V),(i<=s.cols.length/\b.length<=i/\b++dZ (s.cols.drop i) (vs.drop i)=dZ s.cols vs)/\q=s.cols.length-i/\u=⟨33,[(1,.sl (vs.map V.tree)),(2,.box 0 0),(5,.own 0),(15,.sl (s.cols.map Col.tree)),(16,nI s.cols.length),(17,nI i)],[(26,(dj s))],[some ⟨77,3,b.map V.tree,false⟩]⟩) 1 1 ⟨0,[],⟨by omega,by simp,Z⟩,Z,Z⟩ .rf ?_;rintro q u ⟨i,b,⟨w,p,a⟩,rfl,rfl⟩;refine ab<|ae<|af (t:=bT (decide (i<s.cols.length))) Z Z Z (ah (ai Z Z Z Zy) (ar (gA i s.cols.length)))<|ag<|ab<|aD Z (fun o=>?_) (fun o=>?_)
 ·obtain⟨c,m⟩:∃c,s.cols[i]? =some c:=⟨_,L3 o⟩;obtain⟨v,h⟩:∃v,vs[i]? =some v:=⟨_,L3 (by omega)⟩;rw[qO m h]at a;refine am<|ab<|aB<|ab<|ae<|aa 1 Z<|af (t:=.ref [sT c.name,iT c.ty,bT c.key]) Z Z Z (aM (Col.tree c) Z bg Z Z Z (aS (f:=Col.tree) m) (eC _) Z)<|aa 4 Z<|ag<|ab<|aj 2 Z<|aF Z (fun d=>?_) (fun d=>?_)
  ·rw[if_pos d]at a;refine ae<|aa 3 rfl<|af (t:=.ref [iT v.t,iT v.n,sT v.s]) rfl rfl rfl (aM (V.tree v) rfl bq rfl rfl rfl (aS (f:=V.tree) h) (ie _) rfl)<|aa 1 rfl<|af (t:=.sl [.agg [iT v.t,iT v.n,sT v.s]]) rfl rfl rfl (aQ rfl bq fx rfl (by decide) (by decide) rfl rfl rfl rfl rfl)<|cg (bs':=[(26,(dj s)),(58,[sT c.name,iT c.ty,bT c.key])]) (rs':=[some ⟨77,3,(b++[v]).map V.tree,false⟩]) rfl rfl rfl rfl gR rfl rfl rfl rfl (by intro e r;simp only[Mi,Nf,or_false]at r;subst r;rfl) (AllC.lit rfl) (AllC.lit rfl) (by simp only[L5,L9,Mg];omega) rfl rfl rfl (by rw[MX];rfl)<|aa 1 rfl<|ag<|ae<|af (t:=nI (i+1)) rfl rfl rfl (ah (ai rfl rfl rfl Zy) (bi (by omega)))<|aa 1 rfl<|ag<|⟨_,_,?_,⟨i+1,(b++[v]),?_,rfl,rfl⟩,.rf⟩
   ·omega
   exact⟨by omega,by first|omega|(simp only[Mb,L9,Mg];omega),by first|exact a|(rw[<-a];simp)⟩
  rw[if_neg (by rw[d];exact MF)]at a;refine am<|ae<|af (t:=nI (i+1)) Z Z Z (ah (ai Z Z Z Zy) (bi (by omega)))<|aa 1 Z<|ag<|⟨_,_,?_,⟨i+1,b,?_,Z,Z⟩,.rf⟩
  ·omega
  exact⟨by omega,by first|omega|(simp only[Mb,L9,Mg];omega),by first|exact a|(rw[<-a];simp)⟩
 refine ek 0 (bs':=[(26,(dj s))]) (rs':=[none]) Z Z Z Z<|aT<|ab<|aj 2 Z<|aw<|⟨.inr Z,_,.cons Z .nil,Lw (by unfold aG;rw[if_pos j,<-a,Md (by omega)];simp[dZ]),Z⟩
theorem It(r:Rel)(vs:List V)(k:vs.length<=65536)(m:r.tups.length<=65536)(g:∀t∈r.tups,t.vals.length<=65536):Ct 80 [r.tree,.sl (vs.map V.tree)] (uH (iv vs r.tups 0)):=by
 refine Ct.of (n:=23) Tryz.func80 Z Z Z Z Z fun w0 G0=>?_
 refine ab<|aj 3 Z<|ab<|ab<|ae<|aa 2 Z<|af (t:=nI r.tups.length) Z Z Z (ah (aZ Z aN Z) (by simp only[L5]))<|aa 1 Z<|ag<|aB<|aR (fun h j=>∃(i:Nat),(i<=r.tups.length/\iv vs (r.tups.drop i) i=iv vs r.tups 0)/\h=r.tups.length-i/\j=⟨23,[(1,.sl (vs.map V.tree)),(9,.sl (r.tups.map Tp.tree)),(10,nI r.tups.length),(11,nI i)],[(30,(aV r))],[]⟩) 1 0 ⟨0,⟨by omega,Z⟩,Z,Z⟩ .rf ?_;rintro h j ⟨i,⟨l,a⟩,rfl,rfl⟩;refine ab<|ae<|af (t:=bT (decide (i<r.tups.length))) Z Z Z (ah (ai Z Z Z Zy) (ar (gA i r.tups.length)))<|ag<|ab<|aD Z (fun d=>?_) (fun d=>?_)
 ·obtain⟨t,b⟩:∃t,r.tups[i]? =some t:=⟨_,L3 d⟩;have e:=g t (L7 b);rw[sJ b]at a;refine am<|ab<|aB<|ab<|ae<|aa 1 Z<|af (t:=.ref (bV t)) Z Z Z (aM (Tp.tree t) Z aN Z Z Z (aS (f:=Tp.tree) b) (bS _) Z)<|aa 4 Z<|ag<|ab<|ae<|aa 3 Z<|af Z Z Z (ak Z (jG _ _ e k) Z Z)<|af (t:=bT ((aX t.vals vs)==0)) Z Z Z (ai Z Z Z Zy)<|ag<|aF Z (fun c=>?_) (fun c=>?_)
  ·refine ab<|aj 3 Z<|aw<|⟨.inr Z,_,.cons Z (.cons Z .nil),by unfold uH;rw[<-a,if_pos (by simpa using c)];rfl,Z⟩
  refine am<|ae<|af (t:=nI (i+1)) Z Z Z (ah (ai Z Z Z Zy) (bi (by omega)))<|aa 1 Z<|ag<|⟨_,_,?_,⟨i+1,?_,Z,Z⟩,.rf⟩
  ·omega
  exact⟨by omega,by rw[<-a,if_neg (by simpa using c)]⟩
 refine aT<|ab<|aj 2 Z<|aw<|⟨.inr Z,_,.cons Z (.cons Z .nil),by unfold uH;rw[<-a,Md (by omega)];rfl,Z⟩
theorem ye(s:Sch)(t:Tp)(r:FitT t):Ct 63 [s.tree,t.tree] (iT (bM s t)):=by
 refine Ct.of (n:=45) Tryz.func63 Z Z Z Z Z fun w0 G0=>?_
 refine ab<|aj 3 Z<|ab<|ab<|ae<|aa 1 Z<|af Z Z Z (ak Z (j1 s) Z Z)<|af (t:=bT (!(fv s))) Z Z Z (dm Z Z Zy)<|ag<|aF Z (fun e=>?_) (fun e=>?_)
 ·refine ab<|aj 1 Z<|aw<|⟨.inr Z,_,.cons Z .nil,d8 (by unfold bM;rw[if_pos (by simpa using e)]),Z⟩
 have d:fv s=true:=by simpa using e
 have y:=gY d;refine am<|ab<|ab<|ae<|aa 2 Z<|af (t:=nI t.vals.length) Z Z Z (ah (aZ Z bq Z) (by simp only[L5]))<|aa 2 Z<|af (t:=nI s.cols.length) Z Z Z (ah (aZ Z bg Z) (by simp only[L5]))<|af (t:=bT (decide (t.vals.length≠s.cols.length))) Z Z Z (ah (ai Z Z Z Zy) (ar (tV t.vals.length s.cols.length)))<|ag<|aD Z (fun b=>?_) (fun b=>?_)
 ·refine ab<|aj 1 Z<|aw<|⟨.inr Z,_,.cons Z .nil,d8 (by unfold bM;rw[if_neg (by rw[d];simp),if_pos b]),Z⟩
 have u:t.vals.length=s.cols.length:=Nx.1 b;refine am<|ab<|ab<|ae<|aa 2 Z<|af (t:=nI t.vals.length) Z Z Z (ah (aZ Z bq Z) (by simp only[L5]))<|aa 1 Z<|ag<|aB<|aR (fun w x=>∃(i:Nat),(i<=t.vals.length/\fa (s.cols.drop i) (t.vals.drop i)=fa s.cols t.vals)/\w=t.vals.length-i/\x=⟨45,[(2,.box 0 0),(3,.box 1 0),(18,.sl (t.vals.map V.tree)),(19,nI t.vals.length),(20,nI i)],[(26,(dj s)),(67,(bV t))],[]⟩) 2 0 ⟨0,⟨by omega,Z⟩,Z,Z⟩ .rf ?_;rintro w x ⟨i,⟨z,a⟩,rfl,rfl⟩;refine ab<|ae<|af (t:=bT (decide (i<t.vals.length))) Z Z Z (ah (ai Z Z Z Zy) (ar (gA i t.vals.length)))<|ag<|ab<|aD Z (fun j=>?_) (fun j=>?_)
 ·obtain⟨v,k⟩:∃v,t.vals[i]? =some v:=⟨_,L3 j⟩;obtain⟨c,l⟩:∃c,s.cols[i]? =some c:=⟨_,L3 (by omega)⟩;rw[pg l k]at a;refine am<|ab<|aB<|ab<|ae<|aa 1 Z<|af (t:=.ref [iT v.t,iT v.n,sT v.s]) Z Z Z (aM (V.tree v) Z bq Z Z Z (aS (f:=V.tree) k) (ie _) Z)<|aa 4 Z<|ag<|ab<|cf (fu:=14) [some 25,some 26,some 27,some 28,some 29,some 30,some 31,some 32,some 33,some 34,some 35,some 36,some 37,some 38] [.box 2 0,iT v.t,.box 0 2,.sl (s.cols.map Col.tree),nI i,.ref [sT c.name,iT c.ty,bT c.key],.ref [iT c.ty,bT c.key],iT c.ty,bT (v.t !=c.ty),bT (v.t !=c.ty),if(v.t !=c.ty)=false then(.agg [iT v.t,iT v.n,sT v.s]:Tree)else .sc undef,if(v.t !=c.ty)=false then(bT v.ok:Tree)else .sc undef,if(v.t !=c.ty)=false then(bT (!v.ok):Tree)else .sc undef,bT ((v.t !=c.ty)||(!v.ok))] (by kernel_rfl) Z Z (by kernel_rfl) Z ?_ ?_
  ·refine Chain.op Z (av Z Z ph Z)<|Chain.op Z (aA Z Z Z fi Z)<|Chain.op Z (av Z Z dS Z)<|Chain.op Z (aA Z Z Z eH Z)<|Chain.op Z (au Z Z)<|Chain.op Z (aM (Col.tree c) Z bg Z Z Z (aS (f:=Col.tree) l) (eC _) Z)<|Chain.op Z (bH Z Z gt Z)<|Chain.op Z (bz Z Z fi Z)<|Chain.op Z (ai Z Z Z Zy)<|Chain.op Z (au Z Z)<|bk Z Z Z (fun o=>aP Z Z Z lM Z Z)<|bk Z Z Z (fun o=>ak Z (FD v) (eR (if_pos o) Z) Z)<|bk Z Z Z (fun o=>dm Z (if_pos o) (fun _=>rfl))<|Chain.op Z (aK Z Z (fun m=>(ar (by rw[m];rfl))) (fun m=>(if_pos m).trans (ar (by rw[m];rfl))))<|Chain.nil
  refine aF Z (fun h=>?_) (fun h=>?_)
  ·refine ab<|aj 1 Z<|aw<|⟨.inr Z,_,.cons Z .nil,d8 (by unfold bM;rw[if_neg (by rw[d];simp),if_neg b,if_pos (by rw[<-a,h];rfl)]),Z⟩
  refine am<|ae<|af (t:=nI (i+1)) Z Z Z (ah (ai Z Z Z Zy) (bi (by omega)))<|aa 1 Z<|ag<|⟨_,_,?_,⟨i+1,?_,Z,Z⟩,.rf⟩
  ·omega
  exact⟨by omega,by rw[<-a,h];rfl⟩
 refine aT<|ab<|ab<|ae<|aa 3 Z<|af Z Z Z (ak Z (wK s t.prob r.p r.q) Z Z)<|af (t:=bT (!(ik s.cert t.prob))) Z Z Z (dm Z Z Zy)<|ag<|aF Z (fun g=>?_) (fun g=>?_)
 ·refine ab<|aj 1 Z<|aw<|⟨.inr Z,_,.cons Z .nil,d8 (by unfold bM;rw[if_neg (by rw[d];simp),if_neg b,if_neg (by rw[<-a,Md (by omega:t.vals.length<=i)];cases s.cols.drop i<;>simp[fa]),if_neg (by simpa using g)]),Z⟩
 refine am<|ab<|aj 1 Z<|aw<|⟨.inr Z,_,.cons Z .nil,d8 (by unfold bM;rw[if_neg (by rw[d];simp),if_neg b,if_neg (by rw[<-a,Md (by omega:t.vals.length<=i)];cases s.cols.drop i<;>simp[fa]),if_pos (by simpa using g)]),Z⟩
theorem yf{s:Sch}{key:List V}{ts:List Tp}{i:Nat}{t:Tp}(h:ts[i]? =some t):bX s key (ts.drop i) i=if aX (aG s t.vals) key=0 then i::bX s key (ts.drop (i+1)) (i+1)else bX s key (ts.drop (i+1)) (i+1):=by
 obtain⟨a,rfl⟩:=L6.1 h;rw[Mc a,bX]
theorem sK:∀(cs:List Col) (vs:List V),(dZ cs vs).length<=cs.length
 |[],vs=>by cases vs<;>simp[dZ]
 |c::cs,[]=>by simp[dZ]
 |c::cs,v::vs=>by
  have:=sK cs vs;simp only[dZ];split<;>simp<;>omega
theorem iG(s:Sch)(vs:List V):(aG s vs).length<=s.cols.length:=by
 unfold aG;split
 ·exact sK _ _
 simp
theorem L0{l m:List Nat}(h:l=m):(Tree.sl (l.map fF))=.sl (m.map fF):=by rw[h]
theorem Iu(ng:Bool)(N D:Nat)(q:Rat)(c:(ax N).length<=262144)(b:(ax D).length<=262144)(a:Fit 262144 q):Ct 132 [jX ng N D,dt q] (dt (dH ng N D+q)):=by
 have:=FH ng (decide (q.num<0)) N D q.num.natAbs q.den c b a.num a.den;rw[ei]at this;exact this
theorem AF:kM Tryz.prog 23=some (3,1,8):=by kernel_rfl
theorem cL:gN Tryz.prog 23=some (3,1):=by kernel_rfl
theorem fy:ku Tryz.prog 30 0=some 0:=by kernel_rfl
theorem iH:gz Tryz.prog 3=some [.int .i64 0]:=by kernel_rfl
theorem FI(r:Rel)(a:List Nat)(o:∀i∈a,i<r.tups.length)(v:a.length<=65536)(m:∀t∈r.tups,Fit 262144 t.prob)(h:∀j,j<=a.length->Fit 262144 (ef r.tups (a.take j))):Ct 68 [r.tree,.sl (a.map fF)] (dt (ef r.tups a)):=by
 refine Ct.of (n:=25) Tryz.func68 Z Z Z Z Z fun w0 G0=>?_
 refine ab<|aj 2 Z<|ab<|aj 1 Z<|ab<|ab<|ae<|aa 1 Z<|af (t:=nI a.length) Z Z Z (ah (aZ Z cL Z) (by simp only[L5]))<|aa 1 Z<|ag<|aB<|aR (fun p u=>∃(j:Nat) (ng:Bool) (N:Nat) (D:Nat),(j<=a.length/\dH ng N D=ef r.tups (a.take j)/\(ax N).length<=262144/\(ax D).length<=262144)/\p=a.length-j/\u=⟨25,[(2,.box 0 0),(4,.box 1 0),(5,.box 2 0),(8,.sl (a.map fF)),(9,nI a.length),(10,nI j)],[(30,(aV r)),(65,[bT false,.sl [],.sl []]),(65,[bT ng,aH N,aH D])],[]⟩) 3 0 ⟨0,false,0,0,⟨by omega,by rw[mx];rfl,by decide,by decide⟩,Z,Z⟩ .rf ?_;rintro p u ⟨j,ng,N,D,⟨w,b,s,q⟩,rfl,rfl⟩;refine ab<|ae<|af (t:=bT (decide (j<a.length))) Z Z Z (ah (ai Z Z Z Zy) (ar (gA j a.length)))<|ag<|ab<|aD Z (fun k=>?_) (fun k=>?_)
 ·obtain⟨i,d⟩:∃i,a[j]? =some i:=⟨_,L3 k⟩;obtain⟨t,c⟩:∃t,r.tups[i]? =some t:=⟨_,L3 (o i (L7 d))⟩;have l:=m t (L7 c);have e:=uE d c;have g:=h (j+1) (by omega);refine am<|ab<|aB<|ab<|ae<|af (t:=.ref [nI i]) Z Z Z (aM (fF i) Z cL Z Z Z (aS (f:=fF) d) (qN _) Z)<|aa 2 Z<|ag<|dI (ops:=[_,_,_,_,_,_,_,_]) (fu:=9) (bs':=[(30,(aV r)),(65,[bT false,.sl [],.sl []]),(65,[bT (decide ((dH ng N D+t.prob).num<0)),aH ((dH ng N D+t.prob).num.natAbs),aH ((dH ng N D+t.prob).den)])]) [some 14,some 15,some 16,some 17,some 18,some 19,some 20,some 21] [.agg [bT ng,aH N,aH D],.box 0 3,.sl (r.tups.map Tp.tree),nI i,.ref (bV t),.ref (bf t.prob),.agg (bf t.prob),.agg [bT (decide ((dH ng N D+t.prob).num<0)),aH ((dH ng N D+t.prob).num.natAbs),aH ((dH ng N D+t.prob).den)]] (by kernel_rfl) Z Z Z Z Z (by kernel_rfl) (by kernel_rfl) Z Z Z Z Z Z Z Z eg Z Z Z ?_ ?_
  ·refine Chain.op Z (aP Z Z Z aI Z Z)<|Chain.op Z (av Z Z bd Z)<|Chain.op Z (aA Z Z Z bJ Z)<|Chain.op Z (au Z Z)<|Chain.op Z (aM (Tp.tree t) Z aN Z Z Z (aS (f:=Tp.tree) c) (bS _) Z)<|Chain.op Z (bH Z Z ep Z)<|Chain.op Z (ck Z Z aI Z Z)<|Chain.op Z (ak Z (Iu ng N D t.prob s q l) Z Z)<|Chain.nil
  refine ae<|af (t:=nI (j+1)) Z Z Z (ah (ai Z Z Z Zy) (bi (by omega)))<|aa 1 Z<|ag<|⟨_,_,?_,⟨j+1,_,_,_,?_,Z,Z⟩,.rf⟩
  ·omega
  refine⟨by omega,?_,?_,?_⟩
  ·rw[ei,e,b]
  ·rw[b,<-e];exact g.num
  rw[b,<-e];exact g.den
 refine aT<|ab<|ae<|aa 1 Z<|af Z Z Z (ak Z (rE ng N D s q) Z Z)<|aa 1 Z<|ag<|aw<|⟨.inr Z,_,.cons ⟨_,_,_,_,Z,Z,.inl ⟨_,aI,Z,Z⟩⟩ .nil,o8 (by rw[b,Me (by omega)]),Z⟩
theorem AG(r:Rel)(vs:List V)(c:r.sch.cols.length<=65536)(u:r.tups.length<=65536):Ct 81 [r.tree,.sl (vs.map V.tree)] (.sl ((eZ r vs).map fF)):=by
 refine Ct.of (n:=38) Tryz.func81 Z Z Z Z Z fun w0 G0=>?_
 refine ab<|ae<|aa 1 Z<|af (t:=.sl []) Z Z Z (cz (.inr Z) dk)<|ag<|ab<|ae<|aa 3 Z<|af Z Z Z (ak Z (AE r.sch vs c) Z Z)<|aa 1 Z<|ag<|ab<|ab<|ae<|aa 1 Z<|af (t:=nI ((aG r.sch vs).length)) Z Z Z (ah (aZ Z bq Z) (by simp only[L5]))<|af (t:=bT (decide ((aG r.sch vs).length=0))) Z Z Z (ah (ai Z Z Z Zy) (ar (jF ((aG r.sch vs).length) 0)))<|ag<|aD Z (fun g=>?_) (fun g=>?_)
 ·refine ab<|ae<|af (t:=.sl []) Z Z Z (cz (.inr Z) dk)<|ag<|aw<|⟨.inr Z,_,.cons Z .nil,L0 (by unfold eZ;rw[if_pos (Mr g)]) (l:=[]),Z⟩
 refine am<|ab<|ae<|gW (k:=0) (e:=3) (sz:=1) (rs':=[some ⟨3,1,[],false⟩]) (.inr Z) Z Z Z Z Z<|ag<|ab<|ab<|ae<|aa 2 Z<|af (t:=nI r.tups.length) Z Z Z (ah (aZ Z aN Z) (by simp only[L5]))<|aa 1 Z<|ag<|aB<|aR (fun o q=>∃(i:Nat) (b:List Nat),(i<=r.tups.length/\b.length<=i/\b++bX r.sch (aG r.sch vs) (r.tups.drop i) i=bX r.sch (aG r.sch vs) r.tups 0)/\o=r.tups.length-i/\q=⟨38,[(1,.sl (vs.map V.tree)),(2,.box 0 0),(5,.sl ((aG r.sch vs).map V.tree)),(6,.own 0),(17,.sl (r.tups.map Tp.tree)),(18,nI r.tups.length),(19,nI i)],[(30,(aV r))],[some ⟨3,1,b.map fF,false⟩]⟩) 1 1 ⟨0,[],⟨by omega,by simp,Z⟩,Z,Z⟩ .rf ?_;rintro o q ⟨i,b,⟨s,m,a⟩,rfl,rfl⟩;refine ab<|ae<|af (t:=bT (decide (i<r.tups.length))) Z Z Z (ah (ai Z Z Z Zy) (ar (gA i r.tups.length)))<|ag<|ab<|aD Z (fun j=>?_) (fun j=>?_)
 ·obtain⟨t,h⟩:∃t,r.tups[i]? =some t:=⟨_,L3 j⟩;rw[yf h]at a;refine am<|ab<|aB<|ab<|ae<|aa 1 Z<|af (t:=.ref (bV t)) Z Z Z (aM (Tp.tree t) Z aN Z Z Z (aS (f:=Tp.tree) h) (bS _) Z)<|aa 4 Z<|ag<|ab<|ae<|aa 4 Z<|af Z Z Z (ak Z (AE r.sch t.vals c) Z Z)<|aa 1 Z<|af Z Z Z (ak Z (jG _ _ (Ma (iG _ _) c) (Ma (iG _ _) c)) Z Z)<|af (t:=bT ((aX (aG r.sch t.vals) (aG r.sch vs))==0)) Z Z Z (ai Z Z Z Zy)<|ag<|aF Z (fun d=>?_) (fun d=>?_)
  ·rw[if_pos (eq_of_beq d)]at a;refine ae<|aa 2 rfl<|af (t:=.sl [nI i]) rfl rfl rfl (aQ rfl cL iH rfl (by decide) (by decide) rfl rfl rfl rfl rfl)<|cg (bs':=[(30,(aV r)),(67,(bV t))]) (rs':=[some ⟨3,1,(b++[i]).map fF,false⟩]) rfl rfl rfl rfl AF rfl rfl rfl rfl (by intro e p;simp only[Mi,Nf,or_false]at p;subst p;rfl) (AllC.lit rfl) (AllC.lit rfl) (by simp only[L5,L9,Mg];omega) rfl rfl rfl (by rw[MX];rfl)<|aa 1 rfl<|ag<|ae<|af (t:=nI (i+1)) rfl rfl rfl (ah (ai rfl rfl rfl Zy) (bi (by omega)))<|aa 1 rfl<|ag<|⟨_,_,?_,⟨i+1,(b++[i]),?_,rfl,rfl⟩,.rf⟩
   ·omega
   exact⟨by omega,by first|omega|(simp only[Mb,L9,Mg];omega),by first|exact a|(rw[<-a];simp)⟩
  rw[if_neg (by simpa using d)]at a;refine am<|ae<|af (t:=nI (i+1)) Z Z Z (ah (ai Z Z Z Zy) (bi (by omega)))<|aa 1 Z<|ag<|⟨_,_,?_,⟨i+1,b,?_,Z,Z⟩,.rf⟩
  ·omega
  exact⟨by omega,by first|omega|(simp only[Mb,L9,Mg];omega),by first|exact a|(rw[<-a];simp)⟩
 refine ek 0 (bs':=[(30,(aV r))]) (rs':=[none]) Z Z Z Z<|aT<|ab<|aj 2 Z<|aw<|⟨.inr Z,_,.cons Z .nil,L0 (by unfold eZ;rw[if_neg (fun e=>g (by rw[e];rfl)),<-a,Md (by omega)];simp[bX]),Z⟩
def mi(p q:Rat):Int:=if p<q then-1 else if q<p then 1 else 0
theorem yg(a b:Nat):eo (a:Int) (b:Int)=if a<b then-1 else if b<a then 1 else 0:=by
 unfold eo;by_cases h:a<b
 ·rw[if_pos h,if_pos (by omega)]
 by_cases c:b<a
 ·rw[if_neg h,if_pos c,if_neg (by omega),if_pos (by omega)]
 rw[if_neg h,if_neg c,if_neg (by omega),if_neg (by omega)]
theorem Ck{p q:Rat}(h:cE p<cE q):p<q:=by
 unfold cE at h;rw[Rat.lt_iff];have c:=p.den_pos;have d:=q.den_pos;rcases Pi p.num 0 with b|b|b<;>rcases Pi q.num 0 with a|a|a<;>
  first
   |(rw[NN b,NN a]at h;omega)
   |(rw[N0 b,N0 a]at h;omega)
   |(rw[b,a]at h;simp at h)
   |(rw[N0 b,NN a]at h;omega)
   |(rw[b,NN a]at h;simp at h)
   |(rw[N0 b,a]at h;simp at h)
   |skip
 ·rw[a];simp only[Int.zero_mul];exact PR b (by omega)
 ·have e:p.num*q.den<0:=PR b (by omega);have f:0<q.num*p.den:=Int.mul_pos a (by omega);omega
 rw[b];simp only[Int.zero_mul];exact Int.mul_pos a (by omega)
theorem yh{p q:Rat}(h:cE p=cE q):cE p*eo ((p.num.natAbs*q.den:Nat):Int) ((q.num.natAbs*p.den:Nat):Int)=mi p q:=by
 have c:p<q↔p.num*q.den<q.num*p.den:=Rat.lt_iff p q;have f:q<p↔q.num*p.den<p.num*q.den:=Rat.lt_iff q p;unfold mi;simp only[c,f];rw[yg];unfold cE at h⊢;rcases Pi p.num 0 with a|a|a
 ·rw[NN a]at h⊢;have b:q.num<0:=Int.sign_neg_iff.1 (by omega);have d:((p.num.natAbs*q.den:Nat):Int)= -(p.num*q.den):=by push_cast;rw[PJ (by omega)];simp[Qz]
  have e:((q.num.natAbs*p.den:Nat):Int)= -(q.num*p.den):=by push_cast;rw[PJ (by omega)];simp[Qz]
  generalize p.num.natAbs*q.den=A at*;generalize q.num.natAbs*p.den=B at*;generalize p.num*(q.den:Int)=X at*;generalize q.num*(p.den:Int)=Y at*;split<;>split<;>first|omega|(split<;>omega)|skip
  all_goals (split<;>first|omega|(split<;>omega))
 ·rw[a]at h⊢;have b:q.num=0:=PQ.1 (by rw[<-h];rfl);rw[b];simp
 rw[N0 a]at h⊢;have b:0<q.num:=Int.sign_pos_iff.1 (by omega);have d:((p.num.natAbs*q.den:Nat):Int)=p.num*q.den:=by push_cast;rw[Qf (by omega)]
 have e:((q.num.natAbs*p.den:Nat):Int)=q.num*p.den:=by push_cast;rw[Qf (by omega)]
 generalize p.num.natAbs*q.den=A at*;generalize q.num.natAbs*p.den=B at*;generalize p.num*(q.den:Int)=X at*;generalize q.num*(p.den:Int)=Y at*;split<;>split<;>first|omega|(split<;>omega)|skip
 all_goals (split<;>first|omega|(split<;>omega))
theorem AH(p q:Rat): -1<=mi p q/\mi p q<=1:=by
 unfold mi;split
 ·omega
 split<;>omega
theorem sL(p q:Rat):0<mi p q↔q<p:=by
 unfold mi;by_cases h:p<q
 ·rw[if_pos h];simp;rw[Rat.not_lt];exact Rat.le_of_lt h
 rw[if_neg h];by_cases a:q<p
 ·rw[if_pos a];simp[a]
 rw[if_neg a];simp[a]
theorem yi{a b:Nat}(f:(ax a).length<=262144)(g:(ax b).length<=262144):(ax (a*b)).length<=1073741823:=by
 have d:=b8 (ax a) (bZ a);have c:=b8 (ax b) (bZ b);rw[aO]at d c;have e:a*b<4294967296^((ax a).length+(ax b).length):=by
  rw[NZ];exact PV d c
 exact Ma (a8 e) (by omega)
theorem iI{n:Nat}(h:n<18446744073709551616):(ax n).length<=262144:=Ma (a8 (k:=2) (Mj h (by decide))) (by decide)
theorem Iv(p q:Rat)(c:Fit 262144 p)(d:Fit 262144 q):Ct 82 [dt p,dt q] (iT (mi p q)):=by
 refine Ct.of (n:=32) Tryz.func82 Z Z Z Z Z fun w0 G0=>?_
 refine ab<|aj 3 Z<|ab<|cf (fu:=6) [some 7,some 8,some 9,some 10,some 5,some 6] [.agg (bf p),iT (cE p),.agg (bf q),iT (cE q),iT (cE p),iT (cE q)] (by kernel_rfl) Z Z (by kernel_rfl) Z ?_ ?_
 ·refine Chain.op Z (aP Z Z Z aI Z Z)<|Chain.op Z (ak Z (k7 p c) Z Z)<|Chain.op Z (aP Z Z Z aI Z Z)<|Chain.op Z (ak Z (k7 q d) Z Z)<|Chain.op Z (bp Z Z)<|Chain.op Z (bp Z Z)<|Chain.nil
 refine ab<|ab<|ae<|aa 2 Z<|af (t:=bT ((cE p) !=(cE q))) Z Z Z (ai Z Z Z Zy)<|ag<|aF Z (fun a=>?_) (fun a=>?_)
 ·refine ab<|ab<|ae<|aa 2 Z<|af (t:=bT (decide ((cE p)<(cE q)))) Z Z Z (ai Z Z Z Zy)<|ag<|aD Z (fun g=>?_) (fun g=>?_)
  ·refine ab<|aj 1 Z<|aw<|⟨.inr Z,_,.cons Z .nil,d8 (by unfold mi;rw[if_pos (Ck g)]),Z⟩
  refine am<|ab<|aj 1 Z<|aw<|⟨.inr Z,_,.cons Z .nil,d8 (by unfold mi;have h:cE p≠cE q:=(by simpa using a);have f:=Ck (p:=q) (q:=p) (by omega);rw[if_neg (by rw[Rat.not_lt];exact Rat.le_of_lt f),if_pos f]),Z⟩
 have e:cE p=cE q:=by simpa using a
 refine am<|ab<|ab<|ae<|aa 1 Z<|af (t:=bT ((cE p)==0)) Z Z Z (ai Z Z Z Zy)<|ag<|aF Z (fun b=>?_) (fun b=>?_)
 ·refine ab<|aj 1 Z<|aw<|⟨.inr Z,_,.cons Z .nil,d8 (by rw[<-yh e,show cE p=0 from by simpa using b];simp),Z⟩
 refine am<|ab<|cf (fu:=14) [some 19,some 20,some 21,some 22,some 23,some 24,some 25,some 26,some 27,some 28,some 29,some 30,some 31,some 4] [iT (cE p),.box 0 1,aH p.num.natAbs,.box 1 2,aH q.den,aH (p.num.natAbs*q.den),.box 1 1,aH q.num.natAbs,.box 0 2,aH p.den,aH (q.num.natAbs*p.den),iT (eo ((p.num.natAbs*q.den:Nat):Int) ((q.num.natAbs*p.den:Nat):Int)),iT (mi p q),iT (mi p q)] (by kernel_rfl) Z Z (by kernel_rfl) Z ?_ ?_
 ·refine Chain.op Z (au Z Z)<|Chain.op Z (av Z Z dR Z)<|Chain.op Z (aA Z Z Z b6 Z)<|Chain.op Z (av Z Z dw Z)<|Chain.op Z (aA Z Z Z b6 Z)<|Chain.op Z (ak Z (kq _ _ (Ma c.num (by decide)) (Ma d.den (by decide))) Z Z)<|Chain.op Z (av Z Z dR Z)<|Chain.op Z (aA Z Z Z b6 Z)<|Chain.op Z (av Z Z dw Z)<|Chain.op Z (aA Z Z Z b6 Z)<|Chain.op Z (ak Z (kq _ _ (Ma d.num (by decide)) (Ma c.den (by decide))) Z Z)<|Chain.op Z (ak Z (Cg _ _ (yi c.num d.den) (yi d.num c.den)) Z Z)<|Chain.op Z (ah (ai Z Z Z Zy) (d8 (by rw[yh e,Np];have:=AH p q;omega)))<|Chain.op Z (bp Z Z)<|Chain.nil
 refine aw<|⟨.inr Z,_,.cons Z .nil,Z,Z⟩
theorem Iw(a b:Int)(d: -9223372036854775808<=a)(g:a<=9223372036854775807)(e: -9223372036854775808<=b)(f:b<=9223372036854775807)(h:b≠0):Ct 78 [iT a,iT b] (.tup [dt (dH ((decide (a<0)) !=(decide (b<0))) a.natAbs b.natAbs),iT 0]):=by
 refine Ct.of (n:=21) Tryz.func78 Z Z Z Z Z fun w0 G0=>?_
 refine ab<|aj 2 Z<|ab<|ab<|ae<|aa 1 Z<|af (t:=bT (b==0)) Z Z Z (ai Z Z Z Zy)<|ag<|aF Z (fun c=>?_) (fun c=>?_)
 ·exact absurd (by simpa using c) h
 refine am<|ab<|ae<|aa 1 Z<|af (t:=bT (decide (a<0))) Z Z Z (ai Z Z Z Zy)<|aa 1 Z<|af (t:=bT (decide (b<0))) Z Z Z (ai Z Z Z Zy)<|af (t:=bT ((decide (a<0)) !=(decide (b<0)))) Z Z Z (ai Z Z Z Zy)<|aa 1 Z<|ag<|ab<|ae<|aa 2 Z<|af Z Z Z (ak Z (pe a d g) Z Z)<|aa 1 Z<|af Z Z Z (ak Z (pe b e f) Z Z)<|af Z Z Z (ak Z (k6 _ _ _ (iI (by omega)) (iI (by omega))) Z Z)<|aa 2 Z<|ag<|aw<|⟨.inr Z,_,.cons ⟨_,_,_,_,Z,Z,.inl ⟨_,aI,Z,Z⟩⟩ (.cons Z .nil),Z,Z⟩
def bu(keys:List (List V))(k:List V):Nat:=(keys.takeWhile fun x=>decide (aX x k<0)).length
def iw(s:Sch)(st:List (List V)×List (List Nat))(i:Nat)(t:Tp):List (List V)×List (List Nat):=
 if aG s t.vals=[]then(st.1++[aG s t.vals],st.2++[[i]])
 else if(st.1[bu st.1 (aG s t.vals)]?).any (fun x=>aX x (aG s t.vals)==0)then(st.1,st.2.modify (bu st.1 (aG s t.vals)) (· ++[i]))
 else(st.1.insertIdx (bu st.1 (aG s t.vals)) (aG s t.vals),st.2.insertIdx (bu st.1 (aG s t.vals)) [i])
def dE(s:Sch):List (List V)×List (List Nat)->Nat->List Tp->List (List V)×List (List Nat)
 |st,_,[]=>st
 |st,i,t::ts=>dE s (iw s st i t) (i+1) ts
def aW(r:Rel):List (List Nat):=if r.sch.cert then []else(dE r.sch ([],[]) 0 r.tups).2
def jj(b:List Nat):Tree:=.sl (b.map fF)
theorem lN(l:List (List Nat)):Sized 1 (l.map jj):=Sized.map _ l fun _=>rfl
def bK(s:Sch):Option (List V)->List Tp->Int
 |_,[]=>0
 |none,t::ts=>if bM s t≠0 then bM s t else bK s (some t.vals) ts
 |some p,t::ts=>if bM s t≠0 then bM s t else if aX p t.vals=0 then 8 else if aX p t.vals=1 then 1 else bK s (some t.vals) ts
def n6(l:List (List Nat)):Bool:=l.any fun b=>decide (16<b.length)
def k9(ts:List Tp)(l:List (List Nat)):Bool:=l.any fun b=>decide (cE (1-ef ts b)<0)
def bw(r:Rel):Int:=if fv r.sch=false then 1 else if 64<r.tups.length then 4 else if bK r.sch none r.tups≠0 then bK r.sch none r.tups else if n6 (aW r)then 4 else if k9 r.tups (aW r)then 19 else 0
def gS(ts:List Tp)(i:Nat):Option (List V):=if i=0 then none else(ts[i-1]?).map (·.vals)
theorem pi{s:Sch}{ts:List Tp}{i:Nat}{t:Tp}(h:ts[i]? =some t)(c:bM s t=0)(b:i=0):bK s (gS ts i) (ts.drop i)=bK s (gS ts (i+1)) (ts.drop (i+1)):=by
 obtain⟨a,rfl⟩:=L6.1 h;subst b;rw[Mc a];simp only[gS,if_true,bK,c];simp[L3 a]
theorem qP{s:Sch}{ts:List Tp}{i:Nat}{t:Tp}(h:ts[i]? =some t)(b:bM s t≠0):bK s (gS ts i) (ts.drop i)=bM s t:=by
 obtain⟨a,rfl⟩:=L6.1 h;rw[Mc a];cases gS ts i<;>simp only[bK,if_pos b]
theorem qQ{s:Sch}{ts:List Tp}{i:Nat}{t p:Tp}(h:ts[i]? =some t)(f:bM s t=0)(e:i≠0)(b:ts[i-1]? =some p):bK s (gS ts i) (ts.drop i)=if aX p.vals t.vals=0 then 8 else if aX p.vals t.vals=1 then 1 else bK s (gS ts (i+1)) (ts.drop (i+1)):=by
 obtain⟨a,rfl⟩:=L6.1 h;rw[Mc a];have c:gS ts i=some p.vals:=by simp[gS,e,b]
 have d:gS ts (i+1)=some ts[i].vals:=by simp[gS,L3 a]
 rw[c,d];simp only[bK,f];simp
theorem n7{l:List (List Nat)}(h:∀(j:Nat) (b:List Nat),l[j]? =some b->¬16<b.length):n6 l=false:=by
 unfold n6;rw[N1];intro b c;obtain⟨j,a,rfl⟩:=Nc c;simpa using h j _ (L3 a)
theorem uI{l:List (List Nat)}{j:Nat}{b:List Nat}(h:l[j]? =some b)(a:16<b.length):n6 l=true:=OF.2 ⟨b,L7 h,decide_eq_true a⟩
theorem mz{ts:List Tp}{l:List (List Nat)}(h:∀(j:Nat) (b:List Nat),l[j]? =some b->¬cE (1-ef ts b)<0):k9 ts l=false:=by
 unfold k9;rw[N1];intro b c;obtain⟨j,a,rfl⟩:=Nc c;simpa using h j _ (L3 a)
theorem sM{ts:List Tp}{l:List (List Nat)}{j:Nat}{b:List Nat}(h:l[j]? =some b)(a:cE (1-ef ts b)<0):k9 ts l=true:=OF.2 ⟨b,L7 h,decide_eq_true a⟩
structure FitR (r:Rel):Prop where
 cols:r.sch.cols.length<=65536
 tups:r.tups.length<=65536
 tup:∀t∈r.tups,FitT t/\t.vals.length<=65536
def ql(vs:List V)(ts:List Tp):Nat:=(ts.takeWhile fun t=>decide (aX t.vals vs<0)).length
def c8(r:Rel)(t:Tp):Int:=
 if bw r≠0 then bw r else if bM r.sch t≠0 then bM r.sch t else if(iv t.vals r.tups 0).isSome then 8
 else if 64<=r.tups.length\/16<=(eZ r t.vals).length then 4 else if 0<mi t.prob (1-ef r.tups (eZ r t.vals))then 19 else 0
def bU(r:Rel)(t:Tp):Rel:=⟨r.sch,r.tups.take (ql t.vals r.tups)++[t]++r.tups.drop (ql t.vals r.tups)⟩
def rG:Tree:=.agg [.sc (.string ⟨#[]⟩),.sc (.bool false),.sl [],.sl []]
def sN(r:Rel)(t:Tp):Tree:=.tup [if c8 r t=0 then(bU r t).tree else rG,.sc (.int .i64 (c8 r t))]
theorem nf{n k:Nat}(h:(ax n).length<=k):n<4294967296^k:=by
 have:=b8 (ax n) (bZ n);rw[aO]at this;exact Mj this (MR (by decide) h)
theorem jH{a b j k:Nat}(c:(ax a).length<=j)(d:(ax b).length<=k):(ax (a*b)).length<=j+k:=by
 refine a8 ?_;rw[NZ];exact PV (nf c) (nf d)
theorem uJ{a b k:Nat}(c:(ax a).length<=k)(d:(ax b).length<=k):(ax (a+b)).length<=k+1:=by
 refine a8 ?_;have f:=nf c;have e:=nf d;rw[MH];omega
theorem pj(p q:Rat):p=dH (decide (p.num<0)) (p.num.natAbs*q.den) (p.den*q.den):=by
 conv=>lhs;rw[<-ei p]
 exact AC _ p.den_pos (OD p.den_pos q.den_pos) (by rw[Mu,Mt q.den])
theorem qm(p q:Rat):q=dH (decide (q.num<0)) (q.num.natAbs*p.den) (p.den*q.den):=by
 rw[Mt p.den];exact pj q p
theorem yj{p q:Rat}(h:decide (p.num<0)=decide (q.num<0)):dH (decide (p.num<0)) (p.num.natAbs*q.den+q.num.natAbs*p.den) (p.den*q.den)=p+q:=by
 rw[<-o9 _ _ _ (OD p.den_pos q.den_pos),<-pj p q];congr 1;rw[h];exact(qm p q).symm
theorem FJ{p q:Rat}(h:decide (p.num<0)≠decide (q.num<0))(a:q.num.natAbs*p.den<=p.num.natAbs*q.den):dH (decide (p.num<0)) (p.num.natAbs*q.den-q.num.natAbs*p.den) (p.den*q.den)=p+q:=by
 rw[<-sE h (OD p.den_pos q.den_pos) a,<-pj p q,<-qm p q]
theorem FK{p q:Rat}(h:decide (p.num<0)≠decide (q.num<0))(a:p.num.natAbs*q.den<q.num.natAbs*p.den):dH (decide (q.num<0)) (q.num.natAbs*p.den-p.num.natAbs*q.den) (p.den*q.den)=p+q:=by
 rw[<-sF h (OD p.den_pos q.den_pos) a,<-pj p q,<-qm p q]
theorem J2(ng:Bool)(N:Nat){D:Nat}(a:0<D):(dH ng N D).num.natAbs<=N/\(dH ng N D).den<=D:=by
 rcases M1 N with h|h
 ·subst h;rw[mx];exact⟨L4 _,a⟩
 obtain⟨_,b,c⟩:=qg ng h a;rw[b,c];exact⟨NT _ _,NT _ _⟩
theorem nh{ng:Bool}{N D L:Nat}(b:0<D)(d:(ax N).length<=L)(a:(ax D).length<=L):Fit L (dH ng N D):=by
 obtain⟨e,c⟩:=J2 ng N b;exact⟨Ma (a7 e) d,Ma (a7 c) a⟩
theorem Cl{a b:Nat}{p q:Rat}(d:Fit a p)(e:Fit b q):Fit (a+b+1) (p+q):=by
 have f:=OD p.den_pos q.den_pos;have c:(ax (p.den*q.den)).length<=a+b+1:=PO (jH d.den e.den);have j:(ax (p.num.natAbs*q.den)).length<=a+b:=jH d.num e.den;have i:(ax (q.num.natAbs*p.den)).length<=a+b:=by rw[NW];exact jH e.num d.den
 by_cases h:decide (p.num<0)=decide (q.num<0)
 ·rw[<-yj h];exact nh f (uJ j i) c
 rcases MA (p.num.natAbs*q.den) (q.num.natAbs*p.den)with g|g
 ·rw[<-FK h g];exact nh f (PO (Ma (a7 (PB _ _)) i)) c
 rw[<-FJ h g];exact nh f (PO (Ma (a7 (PB _ _)) j)) c
theorem Cn{a:Nat}{p:Rat}(b:Fit a p):Fit a (-p):=⟨by rw[Rat.neg_num,Int.natAbs_neg];exact b.num,by rw[Rat.neg_den];exact b.den⟩
theorem pk{a b:Nat}{p q:Rat}(c:Fit a p)(d:Fit b q):Fit (a+b+1) (p-q):=by
 rw[Rat.sub_eq_add_neg];exact Cl c (Cn d)
theorem Fit.mono{a b:Nat}{p:Rat}(h:Fit a p)(c:a<=b):Fit b p:=⟨Ma h.num c,Ma h.den c⟩
theorem sO{α:Type}{f:α->α}:∀{l:List α} {i:Nat} {x:α},x∈l.modify i f->x∈l\/∃y∈l,x=f y
 |[],_,x,h=>by simp at h
 |a::l,0,x,h=>by
  simp only[List.modify_zero_cons,Mi]at h;rcases h with rfl|h
  ·exact .inr ⟨a,by simp,Z⟩
  exact .inl (by simp[h])
 |a::l,i+1,x,h=>by
  simp only[Qc,Mi]at h;rcases h with rfl|h
  ·exact .inl (by simp)
  rcases sO h with b|⟨y,b,c⟩
  ·exact .inl (by simp[b])
  exact .inr ⟨y,by simp[b],c⟩
theorem kF{α:Type}{a:α}:∀{l:List α} {i:Nat} {x:α},x∈l.insertIdx i a->x∈l\/x=a
 |l,0,x,h=>by
  simp only[List.insertIdx_zero,Mi]at h;exact h.symm
 |[],i+1,x,h=>by simp at h
 |b::l,i+1,x,h=>by
  simp only[List.insertIdx_succ_cons,Mi]at h;rcases h with rfl|h
  ·exact .inl (by simp)
  rcases kF h with h|rfl
  ·exact .inl (by simp[h])
  exact .inr Z
theorem uc{α:Type}{a:α}(l:List α)(i:Nat):(l.insertIdx i a).length<=l.length+1:=by
 rw[Qd];split<;>omega
def FL(i:Nat)(l:List (List Nat)):Prop:=l.length<=i/\∀b∈l,b.length<=i/\∀j∈b,j<i
theorem DA{s:Sch}{e:List (List V)×List (List Nat)}{i:Nat}{t:Tp}(h:FL i e.2):FL (i+1) (iw s e i t).2:=by
 obtain⟨n,k⟩:=h;have f:∀b∈e.2,b.length<=i+1/\∀j∈b,j<i+1:=fun b c=>⟨by have:=(k b c).1;omega,fun j d=>by have:=(k b c).2 j d;omega⟩
 have l:([i]:List Nat).length<=i+1/\∀j∈[i],j<i+1:=⟨by simp,fun j d=>by simp at d;omega⟩;unfold iw;split
 ·refine⟨by simp;omega,fun b c=>?_⟩;rcases Mw.1 c with c|c
  ·exact f b c
  rw[Mm.1 c];exact l
 split
 ·refine⟨by simp;omega,fun b c=>?_⟩;rcases sO c with g|⟨y,g,m⟩
  ·exact f b g
  subst m;refine⟨by have:=(k y g).1;simp;omega,fun j d=>?_⟩;rcases Mw.1 d with d|d
  ·exact(f y g).2 j d
  rw[Mm.1 d];omega
 refine⟨by have:=uc (a:=[i]) e.2 (bu e.1 (aG s t.vals));show(e.2.insertIdx _ _).length<=_;omega,fun b c=>?_⟩;rcases kF c with c|rfl
 ·exact f b c
 exact l
theorem lO{s:Sch}:∀(ts:List Tp) (a:List (List V)×List (List Nat)) (i:Nat),FL i a.2->FL (i+ts.length) (dE s a i ts).2
 |[],a,i,h=>h
 |t::ts,a,i,h=>by
  have:=lO (s:=s) ts _ (i+1) (DA (s:=s) (t:=t) h);rw[L9,show i+(ts.length+1)=i+1+ts.length by omega];exact this
theorem qR(r:Rel):FL r.tups.length (aW r):=by
 unfold aW;split
 ·exact⟨Mp _,fun b a=>by cases a⟩
 have:=lO (s:=r.sch) r.tups ([],[]) 0 ⟨L4 _,fun b a=>by cases a⟩;rwa[MT]at this
theorem sP(r:Rel):(aW r).length<=r.tups.length:=(qR r).1
theorem uK(r:Rel):∀b∈aW r,b.length<=r.tups.length/\∀i∈b,i<r.tups.length:=(qR r).2
theorem uL{s:Sch}{key:List V}:∀(ts:List Tp) (i:Nat),(bX s key ts i).length<=ts.length/\∀j∈bX s key ts i,j<i+ts.length
 |[],i=>⟨L4 _,fun j h=>by cases h⟩
 |t::ts,i=>by
  have h:=uL (s:=s) (key:=key) ts (i+1);unfold bX;split
  ·refine⟨by simp;exact h.1,fun j a=>?_⟩;simp only[Mi]at a;rcases a with rfl|a
   ·simp
   have:=h.2 j a;simp;omega
  exact⟨by have:=h.1;simp;omega,fun j a=>by have:=h.2 j a;simp;omega⟩
theorem J3(r:Rel)(vs:List V):(eZ r vs).length<=r.tups.length/\∀i∈eZ r vs,i<r.tups.length:=by
 unfold eZ;split
 ·exact⟨Mp _,fun i h=>by cases h⟩
 have:=uL (s:=r.sch) (key:=aG r.sch vs) r.tups 0;rw[MT]at this;exact this
theorem eF{s:Sch}{t:Tp}(h:bM s t=0):t.vals.length=s.cols.length/\ik s.cert t.prob=true/\fv s=true/\fa s.cols t.vals=false:=by
 unfold bM at h;split at h
 ·cases h
 next h1=>
 split at h
 ·cases h
 next h2=>
 split at h
 ·cases h
 next h3=>
 split at h
 ·next h4=>exact⟨Nx.1 h2,h4,by simpa using h1,by simpa using h3⟩
 cases h
theorem fW{s:Sch}:∀{l:List Tp} {p:Option (List V)},bK s p l=0->∀t∈l,bM s t=0
 |[],_,_,t,a=>by cases a
 |x::l,p,h,t,a=>by
  have b:bM s x=0/\bK s (some x.vals) l=0:=by
   cases p with
   |none=>
    rw[bK]at h;split at h
    ·next h1=>exact absurd h h1
    next h1=>exact⟨Nx.1 h1,h⟩
   |some q=>
    rw[bK]at h;split at h
    ·next h1=>exact absurd h h1
    next h1=>
    split at h
    ·cases h
    split at h
    ·cases h
    exact⟨Nx.1 h1,h⟩
  rcases Mi.1 a with rfl|a
  ·exact b.1
  exact fW b.2 t a
theorem yk{r:Rel}(h:bK r.sch none r.tups=0):∀t∈r.tups,t.vals.length=r.sch.cols.length:=fun t a=>(eF (fW h t a)).1
theorem gH{cert:Bool}{q:Rat}(h:ik cert q=true):0<=q/\0<=1-q:=by
 unfold ik at h;simp only[L8,Ng,Mo,decide_eq_false_iff_not]at h;have a:=h.1.1;rw[k8,k8,Rat.not_lt,Rat.not_lt]at a;exact a
theorem FM{cert:Bool}{q:Rat}(h:ik cert q=true):Fit 2049 q:=by
 obtain⟨d,g⟩:=gH h;unfold ik at h;simp only[L8,decide_eq_true_eq]at h;have a:=h.2;have b:(ax q.den).length<=2049:=by
  unfold cM at a;rw[if_neg q.den_nz]at a;omega
 refine⟨Ma (a7 ?_) b,b⟩;have f:=Rat.num_nonneg.2 d;have c:q<=1:=by grind
 have e:=(Rat.le_iff _ _).1 c;simp at e;omega
theorem uM{r:Rel}(h:bK r.sch none r.tups=0):∀(b:List Nat) (q:Rat) (k:Nat),(∀i∈b,i<r.tups.length)->Fit k q->Fit (k+2050*b.length) (b.foldl (fun q i=>q+ii r.tups i) q)
 |[],q,k,_,hq=>hq
 |i::b,q,k,hb,hq=>by
  have a:i<r.tups.length:=hb i (by simp);have d:Fit 2049 (ii r.tups i):=by
   unfold ii;rw[L3 a];exact FM (eF (fW h _ (M7 a))).2.1
  have:=uM h b (q+ii r.tups i) (k+2049+1) (fun j c=>hb j (by simp[c])) (Cl hq d);rw[NG,L9];exact this.mono (by omega)
theorem ni{r:Rel}{b:List Nat}(h:bK r.sch none r.tups=0)(d:∀i∈b,i<r.tups.length)(e:b.length<=16):Fit 262144 (ef r.tups b)/\Fit 262144 (1-ef r.tups b):=by
 have c:Fit 32802 (ef r.tups b):=(uM h b 0 1 d ⟨by decide,by decide⟩).mono (by omega);exact⟨c.mono (by decide),(pk (a:=1) ⟨by decide,by decide⟩ c).mono (by decide)⟩
end Go.Proofs.YtfoejfohbkmmeaaGreatDoor
