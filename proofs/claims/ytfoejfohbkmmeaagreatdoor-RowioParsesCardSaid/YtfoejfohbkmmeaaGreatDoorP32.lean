import Derived.Test.YtfoejfohbkmmeaaGreatDoorP31
import Derived.Test.YtfoejfohbkmmeaaGreatDoorP00
import Derived.Test.YtfoejfohbkmmeaaGreatDoorP06
import Derived.Test.YtfoejfohbkmmeaaGreatDoorP25
import Derived.Test.YtfoejfohbkmmeaaGreatDoorP26
import Derived.Test.YtfoejfohbkmmeaaGreatDoorP23
set_option maxRecDepth 100000
set_option maxHeartbeats 4000000
namespace Go.Proofs.YtfoejfohbkmmeaaGreatDoor
open Go.RowKit
open Lib renaming hid→J
theorem CD{S:St}{o:Oper}{op:BinOp}{e p:TypeId}{x y:Operand}(vs us:List Value){v:Value}(f:o.op=.binOp op e x y p)(n:S.ev x=.agg (vs.map .sc))(k:S.ev y=.agg (us.map .sc))(h:∀w,(do eqGuard op e x y (.agg vs.toArray) (.agg us.toArray);binOp op e (.agg vs.toArray) (.agg us.toArray):Sem Value).run Tryz.prog w=.ok v w):OpOK o S (.sc v):=by
 intro w0 G0 bx rv w T q i;have key:∀{E:En} {xs vs:List Value},FT E xs (vs.map .sc)->xs=vs:=by
  intro E xs vs h;induction vs generalizing xs with
  |nil=>cases h;rfl
  |cons a l ih=>
   cases xs with
   |nil=>cases h
   |cons b m=>
    have c:=h.head.isSc;rw[c,ih h.tail]
 obtain⟨xs,c,g⟩:=(bL i n (by rw[f];simp[Op.operands])).isAgg;obtain⟨r,j,d⟩:=(bL i k (by rw[f];simp[Op.operands])).isAgg;rw[key g]at c;rw[key d]at j;refine aC (v:=v) (W':=w) ?_ ⟨.pure (.sc _ .nil) .nil,Below.refl _ _⟩;simp only[execOp,f,c,j];rw[Sem.run_bind,h w];rfl
def V.eqB(a b:V):Bool:=a.t==b.t&&a.n==b.n&&a.s.toList==b.s.toList
def Col.eqB(a b:Col):Bool:=a.name.toList==b.name.toList&&a.ty==b.ty&&a.key==b.key
theorem Gl{x y:Operand}(a b:Int)(s:ByteArray)(c d:Int)(u:ByteArray)(w:World):(do eqGuard .neq 77 x y (.agg #[.int .i64 a,.int .i64 b,.string s]) (.agg #[.int .i64 c,.int .i64 d,.string u]);binOp .neq 77 (.agg #[.int .i64 a,.int .i64 b,.string s]) (.agg #[.int .i64 c,.int .i64 d,.string u]):Sem Value).run Tryz.prog w=.ok (.bool (!(a==c&&b==d&&s.toList==u.toList))) w:=by
 go_simp;by_cases g:a=c<;>by_cases f:b=d<;>by_cases e:s.toList=u.toList<;>simp[g,f,e]
theorem Gm{x y:Operand}(a:ByteArray)(b:Int)(s:Bool)(c:ByteArray)(d:Int)(u:Bool)(w:World):(do eqGuard .neq 58 x y (.agg #[.string a,.int .i64 b,.bool s]) (.agg #[.string c,.int .i64 d,.bool u]);binOp .neq 58 (.agg #[.string a,.int .i64 b,.bool s]) (.agg #[.string c,.int .i64 d,.bool u]):Sem Value).run Tryz.prog w=.ok (.bool (!(a.toList==c.toList&&b==d&&s==u))) w:=by
 go_simp;by_cases g:a.toList=c.toList<;>by_cases f:b=d<;>by_cases e:s=u<;>simp[g,f,e]
def li{α:Type}(f:α->α->Bool):List α->List α->Bool
 |[],[]=>true
 |a::l,b::m=>f a b&&li f l m
 |_,_=>false
theorem th{α:Type}{f:α->α->Bool}{l m:List α}{i:Nat}{a b:α}(c:l[i]? =some a)(e:m[i]? =some b):li f (l.drop i) (m.drop i)=(f a b&&li f (l.drop (i+1)) (m.drop (i+1))):=by
 obtain⟨g,rfl⟩:=L6.1 c;obtain⟨d,rfl⟩:=L6.1 e;rw[Mc g,Mc d,li]
theorem wR{α:Type}{f:α->α->Bool}:∀{l m:List α},l.length≠m.length->li f l m=false
 |[],[],h=>absurd Z h
 |[],_::_,_=>rfl
 |_::_,[],_=>rfl
 |a::l,b::m,h=>by rw[li,wR (by simpa using h),Pd]
theorem wS{α:Type}{f:α->α->Bool}{l m:List α}{i:Nat}(h:l.length=m.length)(a:¬i<l.length):li f (l.drop i) (m.drop i)=true:=by
 rw[Md (by omega),Md (by omega)];rfl
theorem rJ{α:Type}{f:α->α->Bool}(c:∀a b,f a b=true↔a=b):∀{l m:List α},li f l m=true↔l=m
 |[],[]=>by simp[li]
 |[],_::_=>by simp[li]
 |_::_,[]=>by simp[li]
 |a::l,b::m=>by rw[li,L8,c,rJ c,Pw]
theorem qu{a b:ByteArray}(h:a.toList=b.toList):a=b:=by
 have:a.data.toList=b.data.toList:=by rw[<-Lib.toList_data,<-Lib.toList_data,h]
 apply PH;exact Array.toList_inj.1 this
theorem D4(a b:V):a.eqB b=true↔a=b:=by
 unfold V.eqB;simp only[L8,beq_iff_eq];constructor
 ·rintro⟨⟨e,d⟩,c⟩;cases a;cases b;simp only at e d c;rw[e,d,qu c]
 rintro rfl;exact⟨⟨rfl,rfl⟩,rfl⟩
theorem yN(a b:Col):a.eqB b=true↔a=b:=by
 unfold Col.eqB;simp only[L8,beq_iff_eq];constructor
 ·rintro⟨⟨e,d⟩,c⟩;cases a;cases b;simp only at e d c;rw[d,c,qu e]
 rintro rfl;exact⟨⟨rfl,rfl⟩,rfl⟩
def iW(a b:Sch):Bool:= !(((!(a.name.toList==b.name.toList))||(a.cert !=b.cert))||decide (a.cols.length≠b.cols.length))&&li Col.eqB a.cols b.cols
def Tp.eqB(a b:Tp):Bool:=li V.eqB a.vals b.vals&&decide (a.prob=b.prob)
def fB(a b:Rel):Bool:=iW a.sch b.sch&&li Tp.eqB a.tups b.tups
theorem qX(a b:Rel):fB a b=true↔a=b:=by
 have h:∀{l m:List V},li V.eqB l m=true↔l=m:=fun{l m}=>rJ D4
 have j:∀x y:Tp,x.eqB y=true↔x=y:=fun x y=>by
  unfold Tp.eqB;rw[L8,h,decide_eq_true_eq];constructor
  ·rintro⟨d,c⟩;cases x;cases y;simp only at d c;rw[d,c]
  rintro rfl;exact⟨rfl,rfl⟩
 unfold fB iW;rw[L8,rJ j,L8,rJ yN];constructor
 ·rintro⟨⟨d,c⟩,g⟩;simp only[Ng,Mo,Pa,beq_iff_eq,bne_eq_false_iff_eq]at d;obtain⟨⟨e,f⟩,_⟩:=d;obtain⟨⟨p,q,s⟩,i⟩:=a;obtain⟨⟨r,k,o⟩,n⟩:=b;simp only at c g e f;rw[c,g,f,qu e]
 rintro rfl;simp
theorem CE(s:Sch)(vs:List V)(x:vs.length<=65536):Ct 164 [s.tree,.sl (vs.map V.tree)] (.sl ((aG s vs).map V.tree)):=by
 refine Ct.of (n:=33) Tryz.func164 Z Z Z Z Z fun w0 G0=>?_
 refine ab<|ae<|aa 1 Z<|af (t:=.sl []) Z Z Z (cz (.inr Z) dk)<|ag<|ab<|ab<|ae<|aa 1 Z<|af (t:=nI vs.length) Z Z Z (ah (aZ Z bq Z) (by simp only[L5]))<|aa 2 Z<|af (t:=nI s.cols.length) Z Z Z (ah (aZ Z bg Z) (by simp only[L5]))<|af (t:=bT (decide (vs.length≠s.cols.length))) Z Z Z (ah (ai Z Z Z Zy) (ar (tV vs.length s.cols.length)))<|ag<|aD Z (fun g=>?_) (fun g=>?_)
 ·refine ab<|ae<|af (t:=.sl []) Z Z Z (cz (.inr Z) dk)<|ag<|aw<|⟨.inr Z,_,.cons Z .nil,Lw (by unfold aG;rw[if_neg g]) (l:=[]),Z⟩
 have j:vs.length=s.cols.length:=Nx.1 g;refine am<|ab<|ae<|gW (k:=0) (e:=77) (sz:=3) (rs':=[some ⟨77,3,[],false⟩]) (.inr Z) Z Z Z Z Z<|ag<|ab<|ab<|aj 1 Z<|aB<|aR (fun q u=>∃(i:Nat) (b:List V),(i<=vs.length/\b.length<=i/\b++dZ (s.cols.drop i) (vs.drop i)=dZ s.cols vs)/\q=vs.length-i/\u=⟨33,[(1,.sl (vs.map V.tree)),(2,.box 0 0),(5,.own 0),(6,nI i)],[(26,(dj s))],[some ⟨77,3,b.map V.tree,false⟩]⟩) 1 1 ⟨0,[],⟨by omega,by simp,Z⟩,Z,Z⟩ .rf ?_;rintro q u ⟨i,b,⟨w,p,a⟩,rfl,rfl⟩;refine ab<|ab<|ae<|aa 2 Z<|af (t:=nI vs.length) Z Z Z (ah (aZ Z bq Z) (by simp only[L5]))<|af (t:=bT (decide (i<vs.length))) Z Z Z (ah (ai Z Z Z Zy) (ar (gA i vs.length)))<|ag<|aD Z (fun o=>?_) (fun o=>?_)
 ·obtain⟨v,h⟩:∃v,vs[i]? =some v:=⟨_,L3 o⟩;obtain⟨c,m⟩:∃c,s.cols[i]? =some c:=⟨_,L3 (by omega)⟩;rw[qO m h]at a;refine am<|ab<|aB<|ab<|ae<|aa 3 Z<|af (t:=.ref [sT c.name,iT c.ty,bT c.key]) Z Z Z (aM (Col.tree c) Z bg Z Z Z (aS (f:=Col.tree) m) (eC _) Z)<|aa 2 Z<|ag<|aF Z (fun d=>?_) (fun d=>?_)
  ·rw[if_pos d]at a;refine ae<|aa 3 rfl<|af (t:=.ref [iT v.t,iT v.n,sT v.s]) rfl rfl rfl (aM (V.tree v) rfl bq rfl rfl rfl (aS (f:=V.tree) h) (ie _) rfl)<|aa 1 rfl<|af (t:=.sl [.agg [iT v.t,iT v.n,sT v.s]]) rfl rfl rfl (aQ rfl bq fx rfl (by decide) (by decide) rfl rfl rfl rfl rfl)<|cg (bs':=[(26,(dj s))]) (rs':=[some ⟨77,3,(b++[v]).map V.tree,false⟩]) rfl rfl rfl rfl gR rfl rfl rfl rfl (by intro e r;simp only[Mi,Nf,or_false]at r;subst r;rfl) (AllC.lit rfl) (AllC.lit rfl) (by simp only[L5,L9,Mg];omega) rfl rfl rfl (by rw[MX];rfl)<|aa 1 rfl<|ag<|ae<|aa 1 rfl<|af (t:=nI (i+1)) rfl rfl rfl (ah (ai rfl rfl rfl Zy) (bi (by omega)))<|aa 1 rfl<|ag<|⟨_,_,?_,⟨i+1,(b++[v]),?_,rfl,rfl⟩,.rf⟩
   ·omega
   exact⟨by omega,by first|omega|(simp only[Mb,L9,Mg];omega),by first|exact a|(rw[<-a];simp)⟩
  rw[if_neg (by rw[d];exact MF)]at a;refine am<|ae<|aa 1 Z<|af (t:=nI (i+1)) Z Z Z (ah (ai Z Z Z Zy) (bi (by omega)))<|aa 1 Z<|ag<|⟨_,_,?_,⟨i+1,b,?_,Z,Z⟩,.rf⟩
  ·omega
  exact⟨by omega,by first|omega|(simp only[Mb,L9,Mg];omega),by first|exact a|(rw[<-a];simp)⟩
 refine ek 0 (bs':=[(26,(dj s))]) (rs':=[none]) Z Z Z Z<|aT<|ab<|aj 2 Z<|aw<|⟨.inr Z,_,.cons Z .nil,Lw (by unfold aG;rw[if_pos j,<-a,Md (by omega)];simp[dZ]),Z⟩
theorem A6(s:Sch)(p:s.cols.length<=65536):Ct 163 [s.tree] (bT (d6 s.cols)):=by
 refine Ct.of (n:=17) Tryz.func163 Z Z Z Z Z fun w0 G0=>?_
 refine ab<|aj 2 Z<|ab<|ab<|aj 1 Z<|aB<|aR (fun j l=>∃(i:Nat),(i<=s.cols.length/\∀(k:Nat) (c:Col),k<i->s.cols[k]? =some c->c.key=false)/\j=s.cols.length-i/\l=⟨17,[(1,.box 0 0),(3,nI i)],[(26,(dj s))],[]⟩) 1 0 ⟨0,⟨by omega,fun k c h=>by omega⟩,Z,Z⟩ .rf ?_;rintro j l ⟨i,⟨q,a⟩,rfl,rfl⟩;refine ab<|ab<|ae<|aa 3 Z<|af (t:=nI s.cols.length) Z Z Z (ah (aZ Z bg Z) (by simp only[L5]))<|af (t:=bT (decide (i<s.cols.length))) Z Z Z (ah (ai Z Z Z Zy) (ar (gA i s.cols.length)))<|ag<|aD Z (fun e=>?_) (fun e=>?_)
 ·obtain⟨c,b⟩:∃c,s.cols[i]? =some c:=⟨_,L3 e⟩;refine am<|ab<|aB<|ab<|ae<|aa 3 Z<|af (t:=.ref [sT c.name,iT c.ty,bT c.key]) Z Z Z (aM (Col.tree c) Z bg Z Z Z (aS (f:=Col.tree) b) (eC _) Z)<|aa 2 Z<|ag<|aF Z (fun d=>?_) (fun d=>?_)
  ·refine ab<|aj 1 Z<|aw<|⟨.inr Z,_,.cons Z .nil,ar (OF.2 ⟨c,L7 b,d⟩).symm,Z⟩
  refine am<|ae<|aa 1 Z<|af (t:=nI (i+1)) Z Z Z (ah (ai Z Z Z Zy) (bi (by omega)))<|aa 1 Z<|ag<|⟨_,_,?_,⟨i+1,?_,Z,Z⟩,.rf⟩
  ·omega
  refine⟨by omega,fun k x h g=>?_⟩;rcases MA k i with m|m
  ·exact a k x m g
  obtain rfl:k=i:=by omega
  rw[b]at g;cases g;exact d
 refine aT<|ab<|aj 1 rfl<|aw<|⟨.inr rfl,_,.cons rfl .nil,ar (by unfold d6;rw[eq_comm,N1];intro x g;obtain⟨k,o,rfl⟩:=Nc g;rw[a k _ (by omega) (L3 o)];simp),rfl⟩
theorem Gn(r:Rel)(vs:List V)(k:vs.length<=65536)(m:r.tups.length<=65536)(g:∀t∈r.tups,t.vals.length<=65536):Ct 92 [r.tree,.sl (vs.map V.tree)] (uH (iv vs r.tups 0)):=by
 refine Ct.of (n:=24) Tryz.func92 Z Z Z Z Z fun w0 G0=>?_
 refine ab<|aj 3 Z<|ab<|ab<|aj 1 Z<|aB<|aR (fun h j=>∃(i:Nat),(i<=r.tups.length/\iv vs (r.tups.drop i) i=iv vs r.tups 0)/\h=r.tups.length-i/\j=⟨24,[(1,.sl (vs.map V.tree)),(2,.box 0 0),(6,nI i)],[(30,(aV r))],[]⟩) 1 0 ⟨0,⟨by omega,Z⟩,Z,Z⟩ .rf ?_;rintro h j ⟨i,⟨l,a⟩,rfl,rfl⟩;refine ab<|ab<|ae<|aa 3 Z<|af (t:=nI r.tups.length) Z Z Z (ah (aZ Z aN Z) (by simp only[L5]))<|af (t:=bT (decide (i<r.tups.length))) Z Z Z (ah (ai Z Z Z Zy) (ar (gA i r.tups.length)))<|ag<|aD Z (fun d=>?_) (fun d=>?_)
 ·obtain⟨t,b⟩:∃t,r.tups[i]? =some t:=⟨_,L3 d⟩;have e:=g t (L7 b);rw[sJ b]at a;refine am<|ab<|aB<|ab<|ae<|aa 3 Z<|af (t:=.ref (bV t)) Z Z Z (aM (Tp.tree t) Z aN Z Z Z (aS (f:=Tp.tree) b) (bS _) Z)<|aa 3 Z<|af Z Z Z (ak Z (lT _ _ e k) Z Z)<|af (t:=bT ((aX t.vals vs)==0)) Z Z Z (ai Z Z Z Zy)<|ag<|aF Z (fun c=>?_) (fun c=>?_)
  ·refine ab<|aj 3 Z<|aw<|⟨.inr Z,_,.cons Z (.cons Z .nil),by unfold uH;rw[<-a,if_pos (by simpa using c)];rfl,Z⟩
  refine am<|ae<|aa 1 Z<|af (t:=nI (i+1)) Z Z Z (ah (ai Z Z Z Zy) (bi (by omega)))<|aa 1 Z<|ag<|⟨_,_,?_,⟨i+1,?_,Z,Z⟩,.rf⟩
  ·omega
  exact⟨by omega,by rw[<-a,if_neg (by simpa using c)]⟩
 refine aT<|ab<|aj 2 Z<|aw<|⟨.inr Z,_,.cons Z (.cons Z .nil),by unfold uH;rw[<-a,Md (by omega)];rfl,Z⟩
theorem IL(r:Rel)(a:List Nat)(k:∀i∈a,i<r.tups.length)(o:a.length<=65536)(h:∀t∈r.tups,Fit 262144 t.prob)(d:∀j,j<=a.length->Fit 262144 (ef r.tups (a.take j))):Ct 97 [r.tree,.sl (a.map fF)] (dt (ef r.tups a)):=by
 refine Ct.of (n:=26) Tryz.func97 Z Z Z Z Z fun w0 G0=>?_
 refine ab<|aj 2 Z<|ab<|ae<|af Z Z Z (ak Z (pD 0 (by decide)) Z Z)<|aa 2 Z<|ag<|ab<|ab<|aj 1 Z<|aB<|aR (fun l m=>∃(j:Nat),(j<=a.length)/\l=a.length-j/\m=⟨26,[(1,.sl (a.map fF)),(2,.box 0 0),(4,.box 1 0),(5,.box 2 0),(6,nI j)],[(30,(aV r)),(65,[bT false,.sl [],.sl []]),(65,[bT (decide ((ef r.tups (a.take j)).num<0)),aH ((ef r.tups (a.take j)).num.natAbs),aH ((ef r.tups (a.take j)).den)])],[]⟩) 3 0 ⟨0,Mp _,Z,Z⟩ .rf ?_;rintro l m ⟨j,p,rfl,rfl⟩;refine ab<|ab<|ae<|aa 2 Z<|af (t:=nI a.length) Z Z Z (ah (aZ Z cL Z) (by simp only[L5]))<|af (t:=bT (decide (j<a.length))) Z Z Z (ah (ai Z Z Z Zy) (ar (gA j a.length)))<|ag<|aD Z (fun e=>?_) (fun e=>?_)
 ·obtain⟨i,c⟩:∃i,a[j]? =some i:=⟨_,L3 e⟩;have g:=k i (L7 c);obtain⟨t,b⟩:∃t,r.tups[i]? =some t:=⟨_,L3 g⟩;refine am<|ab<|aB<|dI (ops:=[_,_,_,_,_,_,_,_,_,_,_]) (fu:=12) (bs':=[(30,(aV r)),(65,[bT false,.sl [],.sl []]),(65,[bT (decide ((ef r.tups (a.take (j+1))).num<0)),aH ((ef r.tups (a.take (j+1))).num.natAbs),aH ((ef r.tups (a.take (j+1))).den)])]) [some 14,some 15,some 16,some 17,some 18,some 19,some 20,some 21,some 22,some 23,some 24] [.agg [bT (decide ((ef r.tups (a.take j)).num<0)),aH ((ef r.tups (a.take j)).num.natAbs),aH ((ef r.tups (a.take j)).den)],.box 0 3,.sl (r.tups.map Tp.tree),.sl (a.map fF),nI j,.ref [nI i],nI i,.ref (bV t),.ref (bf t.prob),.agg (bf t.prob),.agg [bT (decide ((ef r.tups (a.take (j+1))).num<0)),aH ((ef r.tups (a.take (j+1))).num.natAbs),aH ((ef r.tups (a.take (j+1))).den)]] (by kernel_rfl) Z Z Z Z Z (by kernel_rfl) (by kernel_rfl) Z Z Z Z Z Z Z Z eg Z Z Z ?_ ?_
  ·refine Chain.op Z (aP Z Z Z aI Z Z)<|Chain.op Z (av Z Z bd Z)<|Chain.op Z (aA Z Z Z bJ Z)<|Chain.op Z (au Z Z)<|Chain.op Z (au Z Z)<|Chain.op Z (aM (fF i) Z cL Z Z Z (aS (f:=fF) c) (qN _) Z)<|Chain.op Z (bz Z Z fi Z)<|Chain.op Z (aM (Tp.tree t) Z aN Z Z Z (aS (f:=Tp.tree) b) (bS _) Z)<|Chain.op Z (bH Z Z ep Z)<|Chain.op Z (ck Z Z aI Z Z)<|Chain.op Z (ak Z (by rw[uE c b];exact yJ _ _ (d j (by omega)) (h t (L7 b))) Z Z)<|Chain.nil
  refine ae<|aa 1 Z<|af (t:=nI (j+1)) Z Z Z (ah (ai Z Z Z Zy) (bi (by omega)))<|aa 1 Z<|ag<|⟨_,_,?_,⟨j+1,?_,Z,Z⟩,.rf⟩
  ·omega
  omega
 refine aT<|ab<|aj 2 Z<|aw<|⟨.inr Z,_,.cons ⟨_,_,_,_,Z,Z,.inl ⟨_,aI,Z,Z⟩⟩ .nil,o8 (by rw[Me (by omega)]),Z⟩
theorem Gp(l m:List V)(q:l.length<=65536)(o:m.length<=65536):Ct 44 [.sl (l.map V.tree),.sl (m.map V.tree)] (bT (li V.eqB l m)):=by
 refine Ct.of (n:=26) Tryz.func44 Z Z Z Z Z fun w0 G0=>?_
 refine ab<|aj 1 Z<|ab<|ab<|ae<|aa 1 Z<|af (t:=nI l.length) Z Z Z (ah (aZ Z bq Z) (by simp only[L5]))<|aa 1 Z<|af (t:=nI m.length) Z Z Z (ah (aZ Z bq Z) (by simp only[L5]))<|af (t:=bT (decide (l.length≠m.length))) Z Z Z (ah (ai Z Z Z Zy) (ar (tV l.length m.length)))<|ag<|aD Z (fun c=>?_) (fun c=>?_)
 ·refine ab<|aj 1 Z<|aw<|⟨.inr Z,_,.cons Z .nil,ar (wR c).symm,Z⟩
 have g:l.length=m.length:=Nx.1 c;refine am<|ab<|ab<|aj 1 Z<|aB<|aR (fun j k=>∃(i:Nat),(i<=l.length/\li V.eqB (l.drop i) (m.drop i)=li V.eqB l m)/\j=l.length-i/\k=⟨26,[(0,.sl (l.map V.tree)),(1,.sl (m.map V.tree)),(5,nI i)],[],[]⟩) 0 0 ⟨0,⟨by omega,Z⟩,Z,Z⟩ .rf ?_;rintro j k ⟨i,⟨p,a⟩,rfl,rfl⟩;refine ab<|ab<|ae<|aa 2 Z<|af (t:=nI l.length) Z Z Z (ah (aZ Z bq Z) (by simp only[L5]))<|af (t:=bT (decide (i<l.length))) Z Z Z (ah (ai Z Z Z Zy) (ar (gA i l.length)))<|ag<|aD Z (fun d=>?_) (fun d=>?_)
 ·obtain⟨x,h⟩:∃x,l[i]? =some x:=⟨_,L3 d⟩;obtain⟨y,e⟩:∃x,m[i]? =some x:=⟨_,L3 (by omega)⟩;rw[th h e]at a;refine am<|ab<|aB<|ab<|cf (fu:=9) [some 17,some 18,some 19,some 20,some 21,some 22,some 23,some 24,some 25] [.sl (l.map V.tree),nI i,.ref [iT x.t,iT x.n,sT x.s],.agg [iT x.t,iT x.n,sT x.s],.sl (m.map V.tree),nI i,.ref [iT y.t,iT y.n,sT y.s],.agg [iT y.t,iT y.n,sT y.s],bT (!(V.eqB x y))] (by kernel_rfl) Z Z (by kernel_rfl) Z ?_ ?_
  ·refine Chain.op Z (au Z Z)<|Chain.op Z (au Z Z)<|Chain.op Z (aM (V.tree x) Z bq Z Z Z (aS (f:=V.tree) h) (ie _) Z)<|Chain.op Z (ck Z Z lM Z Z)<|Chain.op Z (au Z Z)<|Chain.op Z (au Z Z)<|Chain.op Z (aM (V.tree y) Z bq Z Z Z (aS (f:=V.tree) e) (ie _) Z)<|Chain.op Z (ck Z Z lM Z Z)<|Chain.op Z (CD [.int .i64 x.t,.int .i64 x.n,.string x.s] [.int .i64 y.t,.int .i64 y.n,.string y.s] Z Z Z (fun w=>Gl _ _ _ _ _ _ w))<|Chain.nil
  refine aF Z (fun b=>?_) (fun b=>?_)
  ·refine ab<|aj 1 Z<|aw<|⟨.inr Z,_,.cons Z .nil,ar (by rw[<-a,show V.eqB x y=false by simpa using b];rfl),Z⟩
  refine am<|ae<|aa 1 Z<|af (t:=nI (i+1)) Z Z Z (ah (ai Z Z Z Zy) (bi (by omega)))<|aa 1 Z<|ag<|⟨_,_,?_,⟨i+1,?_,Z,Z⟩,.rf⟩
  ·omega
  exact⟨by omega,by rw[<-a,show V.eqB x y=true by simpa using b,Of]⟩
 refine aT<|ab<|aj 1 Z<|aw<|⟨.inr Z,_,.cons Z .nil,ar (by rw[<-a,wS g d]),Z⟩
theorem Gq(a b:Sch)(u:a.cols.length<=65536)(r:b.cols.length<=65536):Ct 43 [a.tree,b.tree] (bT (iW a b)):=by
 refine Ct.of (n:=45) Tryz.func43 Z Z Z Z Z fun w0 G0=>?_
 refine ab<|aj 3 Z<|ab<|ab<|ae<|aa 4 Z<|af (t:=bT (!(a.name.toList==b.name.toList))) Z Z Z (ai Z Z Z Zy)<|aa 1 Z<|aq (t:=.box 0 1) Z Z Z Z (fun c=>av Z Z gp Z)<|aq (t:=bT a.cert) Z Z Z Z (fun c=>aA Z (if_pos c) Z fh Z)<|aq (t:=.box 1 1) Z Z Z Z (fun c=>av Z Z gp Z)<|aq (t:=bT b.cert) Z Z Z Z (fun c=>aA Z (if_pos c) Z fh Z)<|aq (t:=bT (a.cert !=b.cert)) Z Z Z Z (fun c=>ai Z (if_pos c) (if_pos c) (fun _=>rfl))<|af (t:=bT ((!(a.name.toList==b.name.toList))||(a.cert !=b.cert))) Z Z Z (aK Z Z (fun g=>(ar (by rw[g];rfl))) (fun g=>(if_pos g).trans (ar (by rw[g];rfl))))<|aa 1 Z<|aq (t:=.box 0 2) Z Z Z Z (fun c=>av Z Z dS Z)<|aq (t:=.sl (a.cols.map Col.tree)) Z Z Z Z (fun c=>aA Z (if_pos c) Z eH Z)<|aq (t:=nI a.cols.length) Z Z Z Z (fun c=>ah (aZ Z bg (if_pos c)) (by simp only[L5]))<|aq (t:=.box 1 2) Z Z Z Z (fun c=>av Z Z dS Z)<|aq (t:=.sl (b.cols.map Col.tree)) Z Z Z Z (fun c=>aA Z (if_pos c) Z eH Z)<|aq (t:=nI b.cols.length) Z Z Z Z (fun c=>ah (aZ Z bg (if_pos c)) (by simp only[L5]))<|aq (t:=bT (decide (a.cols.length≠b.cols.length))) Z Z Z Z (fun c=>ah (ai Z (if_pos c) (if_pos c) (fun _=>rfl)) (ar (tV a.cols.length b.cols.length)))<|af (t:=bT (((!(a.name.toList==b.name.toList))||(a.cert !=b.cert))||(decide (a.cols.length≠b.cols.length)))) Z Z Z (aK Z Z (fun g=>(ar (by rw[g];rfl))) (fun g=>(if_pos g).trans (ar (by rw[g];rfl))))<|ag<|aF Z (fun e=>?_) (fun e=>?_)
 ·refine ab<|aj 1 Z<|aw<|⟨.inr Z,_,.cons Z .nil,ar (by unfold iW;rw[e];rfl),Z⟩
 have l:a.cols.length=b.cols.length:=by have q:=(Mo.1 e).2;simpa using q
 refine am<|ab<|ab<|aj 1 Z<|aB<|aR (fun o p=>∃(i:Nat),(i<=a.cols.length/\li Col.eqB (a.cols.drop i) (b.cols.drop i)=li Col.eqB a.cols b.cols)/\o=a.cols.length-i/\p=⟨45,[(2,.box 0 0),(3,.box 1 0),(5,nI i)],[(26,(dj a)),(26,(dj b))],[]⟩) 2 0 ⟨0,⟨by omega,Z⟩,Z,Z⟩ .rf ?_;rintro o p ⟨i,⟨s,d⟩,rfl,rfl⟩;refine ab<|ab<|ae<|aa 3 Z<|af (t:=nI a.cols.length) Z Z Z (ah (aZ Z bg Z) (by simp only[L5]))<|af (t:=bT (decide (i<a.cols.length))) Z Z Z (ah (ai Z Z Z Zy) (ar (gA i a.cols.length)))<|ag<|aD Z (fun j=>?_) (fun j=>?_)
 ·obtain⟨x,m⟩:∃x,a.cols[i]? =some x:=⟨_,L3 j⟩;obtain⟨y,k⟩:∃x,b.cols[i]? =some x:=⟨_,L3 (by omega)⟩;rw[th m k]at d;refine am<|ab<|aB<|ab<|cf (fu:=11) [some 34,some 35,some 36,some 37,some 38,some 39,some 40,some 41,some 42,some 43,some 44] [.box 0 2,.sl (a.cols.map Col.tree),nI i,.ref [sT x.name,iT x.ty,bT x.key],.agg [sT x.name,iT x.ty,bT x.key],.box 1 2,.sl (b.cols.map Col.tree),nI i,.ref [sT y.name,iT y.ty,bT y.key],.agg [sT y.name,iT y.ty,bT y.key],bT (!(Col.eqB x y))] (by kernel_rfl) Z Z (by kernel_rfl) Z ?_ ?_
  ·refine Chain.op Z (av Z Z dS Z)<|Chain.op Z (aA Z Z Z eH Z)<|Chain.op Z (au Z Z)<|Chain.op Z (aM (Col.tree x) Z bg Z Z Z (aS (f:=Col.tree) m) (eC _) Z)<|Chain.op Z (ck Z Z sG Z Z)<|Chain.op Z (av Z Z dS Z)<|Chain.op Z (aA Z Z Z eH Z)<|Chain.op Z (au Z Z)<|Chain.op Z (aM (Col.tree y) Z bg Z Z Z (aS (f:=Col.tree) k) (eC _) Z)<|Chain.op Z (ck Z Z sG Z Z)<|Chain.op Z (CD [.string x.name,.int .i64 x.ty,.bool x.key] [.string y.name,.int .i64 y.ty,.bool y.key] Z Z Z (fun w=>Gm _ _ _ _ _ _ w))<|Chain.nil
  refine aF Z (fun h=>?_) (fun h=>?_)
  ·refine ab<|aj 1 Z<|aw<|⟨.inr Z,_,.cons Z .nil,ar (by unfold iW;rw[e,<-d,show Col.eqB x y=false by simpa using h];rfl),Z⟩
  refine am<|ae<|aa 1 Z<|af (t:=nI (i+1)) Z Z Z (ah (ai Z Z Z Zy) (bi (by omega)))<|aa 1 Z<|ag<|⟨_,_,?_,⟨i+1,?_,Z,Z⟩,.rf⟩
  ·omega
  exact⟨by omega,by rw[<-d,show Col.eqB x y=true by simpa using h,Of]⟩
 refine aT<|ab<|aj 1 Z<|aw<|⟨.inr Z,_,.cons Z .nil,ar (by unfold iW;rw[e,<-d,wS l j];rfl),Z⟩
theorem CF(a b:Rel)(r:FitR a)(s:FitR b):Ct 14 [a.tree,b.tree] (bT (fB a b)):=by
 have z:=r.tups;have A:=s.tups;refine Ct.of (n:=58) Tryz.func14 Z Z Z Z Z fun w0 G0=>?_
 refine ab<|aj 3 Z<|ab<|ab<|ae<|aa 4 Z<|af Z Z Z (ak Z (Gq _ _ r.cols s.cols) Z Z)<|af (t:=bT (!(iW a.sch b.sch))) Z Z Z (dm Z Z Zy)<|aa 1 Z<|aq (t:=.box 0 3) Z Z Z Z (fun c=>av Z Z bd Z)<|aq (t:=.sl (a.tups.map Tp.tree)) Z Z Z Z (fun c=>aA Z (if_pos c) Z bJ Z)<|aq (t:=nI a.tups.length) Z Z Z Z (fun c=>ah (aZ Z aN (if_pos c)) (by simp only[L5]))<|aq (t:=.box 1 3) Z Z Z Z (fun c=>av Z Z bd Z)<|aq (t:=.sl (b.tups.map Tp.tree)) Z Z Z Z (fun c=>aA Z (if_pos c) Z bJ Z)<|aq (t:=nI b.tups.length) Z Z Z Z (fun c=>ah (aZ Z aN (if_pos c)) (by simp only[L5]))<|aq (t:=bT (decide (a.tups.length≠b.tups.length))) Z Z Z Z (fun c=>ah (ai Z (if_pos c) (if_pos c) (fun _=>rfl)) (ar (tV a.tups.length b.tups.length)))<|af (t:=bT ((!(iW a.sch b.sch))||(decide (a.tups.length≠b.tups.length)))) Z Z Z (aK Z Z (fun l=>(ar (by rw[l];rfl))) (fun l=>(if_pos l).trans (ar (by rw[l];rfl))))<|ag<|aF Z (fun k=>?_) (fun k=>?_)
 ·refine ab<|aj 1 rfl<|aw<|⟨.inr rfl,_,.cons rfl .nil,ar (by unfold fB;rcases Qk.1 k with h|h;rw[show iW a.sch b.sch=false by simpa using h];rfl;rw[wR (by simpa using h),Pd]),rfl⟩
 have o:a.tups.length=b.tups.length:=by have u:=(Mo.1 k).2;simpa using u
 have q:iW a.sch b.sch=true:=by have u:=(Mo.1 k).1;simpa using u
 refine am<|ab<|ab<|aj 1 Z<|aB<|aR (fun v w=>∃(i:Nat),(i<=a.tups.length/\li Tp.eqB (a.tups.drop i) (b.tups.drop i)=li Tp.eqB a.tups b.tups)/\v=a.tups.length-i/\w=⟨58,[(2,.box 0 0),(3,.box 1 0),(5,nI i)],[(30,(aV a)),(30,(aV b))],[]⟩) 2 0 ⟨0,⟨by omega,Z⟩,Z,Z⟩ .rf ?_;rintro v w ⟨i,⟨B,d⟩,rfl,rfl⟩;refine ab<|ab<|ae<|aa 3 Z<|af (t:=nI a.tups.length) Z Z Z (ah (aZ Z aN Z) (by simp only[L5]))<|af (t:=bT (decide (i<a.tups.length))) Z Z Z (ah (ai Z Z Z Zy) (ar (gA i a.tups.length)))<|ag<|aD Z (fun m=>?_) (fun m=>?_)
 ·obtain⟨x,j⟩:∃x,a.tups[i]? =some x:=⟨_,L3 m⟩;obtain⟨y,g⟩:∃x,b.tups[i]? =some x:=⟨_,L3 (by omega)⟩;rw[th j g]at d;refine am<|ab<|aB<|ab<|cf (fu:=30) [some 28,some 29,some 30,some 31,some 32,some 33,some 34,some 35,some 36,some 37,some 38,some 39,some 40,some 41,some 42,some 43,some 44,some 45,some 46,some 47,some 48,some 49,some 50,some 51,some 52,some 53,some 54,some 55,some 56,some 57] [.box 0 3,.sl (a.tups.map Tp.tree),nI i,.ref (bV x),.ref (bV x),.sl (x.vals.map V.tree),.box 1 3,.sl (b.tups.map Tp.tree),nI i,.ref (bV y),.ref (bV y),.sl (y.vals.map V.tree),bT (li V.eqB x.vals y.vals),bT (!(li V.eqB x.vals y.vals)),bT (!(li V.eqB x.vals y.vals)),if(!(li V.eqB x.vals y.vals))=false then(.box 0 3:Tree)else .sc undef,if(!(li V.eqB x.vals y.vals))=false then(.sl (a.tups.map Tp.tree):Tree)else .sc undef,if(!(li V.eqB x.vals y.vals))=false then(nI i:Tree)else .sc undef,if(!(li V.eqB x.vals y.vals))=false then(.ref (bV x):Tree)else .sc undef,if(!(li V.eqB x.vals y.vals))=false then(.ref (bf x.prob):Tree)else .sc undef,if(!(li V.eqB x.vals y.vals))=false then(.agg (bf x.prob):Tree)else .sc undef,if(!(li V.eqB x.vals y.vals))=false then(.box 1 3:Tree)else .sc undef,if(!(li V.eqB x.vals y.vals))=false then(.sl (b.tups.map Tp.tree):Tree)else .sc undef,if(!(li V.eqB x.vals y.vals))=false then(nI i:Tree)else .sc undef,if(!(li V.eqB x.vals y.vals))=false then(.ref (bV y):Tree)else .sc undef,if(!(li V.eqB x.vals y.vals))=false then(.ref (bf y.prob):Tree)else .sc undef,if(!(li V.eqB x.vals y.vals))=false then(.agg (bf y.prob):Tree)else .sc undef,if(!(li V.eqB x.vals y.vals))=false then(bT (decide (x.prob=y.prob)):Tree)else .sc undef,if(!(li V.eqB x.vals y.vals))=false then(bT (!(decide (x.prob=y.prob))):Tree)else .sc undef,bT ((!(li V.eqB x.vals y.vals))||(!(decide (x.prob=y.prob))))] (by kernel_rfl) Z Z (by kernel_rfl) Z ?_ ?_
  ·refine Chain.op Z (av Z Z bd Z)<|Chain.op Z (aA Z Z Z bJ Z)<|Chain.op Z (au Z Z)<|Chain.op Z (aM (Tp.tree x) Z aN Z Z Z (aS (f:=Tp.tree) j) (bS _) Z)<|Chain.op Z (bH Z Z b9 Z)<|Chain.op Z (bz Z Z cU Z)<|Chain.op Z (av Z Z bd Z)<|Chain.op Z (aA Z Z Z bJ Z)<|Chain.op Z (au Z Z)<|Chain.op Z (aM (Tp.tree y) Z aN Z Z Z (aS (f:=Tp.tree) g) (bS _) Z)<|Chain.op Z (bH Z Z b9 Z)<|Chain.op Z (bz Z Z cU Z)<|Chain.op Z (ak Z (Gp _ _ (r.tup x (L7 j)).2 (s.tup y (L7 g)).2) Z Z)<|Chain.op Z (dm Z Z Zy)<|Chain.op Z (au Z Z)<|bk Z Z Z (fun c=>av Z Z bd Z)<|bk Z Z Z (fun c=>aA Z (if_pos c) Z bJ Z)<|bk Z Z Z (fun c=>au Z Z)<|bk Z Z Z (fun c=>aM (Tp.tree x) Z aN (if_pos c) (if_pos c) Z (aS (f:=Tp.tree) j) (bS _) Z)<|bk Z Z Z (fun c=>bH Z (if_pos c) ep Z)<|bk Z Z Z (fun c=>ck Z (if_pos c) aI Z Z)<|bk Z Z Z (fun c=>av Z Z bd Z)<|bk Z Z Z (fun c=>aA Z (if_pos c) Z bJ Z)<|bk Z Z Z (fun c=>au Z Z)<|bk Z Z Z (fun c=>aM (Tp.tree y) Z aN (if_pos c) (if_pos c) Z (aS (f:=Tp.tree) g) (bS _) Z)<|bk Z Z Z (fun c=>bH Z (if_pos c) ep Z)<|bk Z Z Z (fun c=>ck Z (if_pos c) aI Z Z)<|bk Z Z Z (fun c=>ak Z (D0 _ _ ((r.tup x (L7 j)).1.p.mono (by decide)) ((s.tup y (L7 g)).1.p.mono (by decide))) (eR (if_pos c) (eR (if_pos c) Z)) Z)<|bk Z Z Z (fun c=>dm Z (if_pos c) (fun _=>rfl))<|Chain.op Z (aK Z Z (fun l=>(ar (by rw[l];rfl))) (fun l=>(if_pos l).trans (ar (by rw[l];rfl))))<|Chain.nil
  refine aF Z (fun e=>?_) (fun e=>?_)
  ·refine ab<|aj 1 Z<|aw<|⟨.inr Z,_,.cons Z .nil,ar (by unfold fB;rw[<-d,show Tp.eqB x y=false by unfold Tp.eqB;simp only[MP,Ng]at e;rw[Nu];exact e];simp),Z⟩
  refine am<|ae<|aa 1 Z<|af (t:=nI (i+1)) Z Z Z (ah (ai Z Z Z Zy) (bi (by omega)))<|aa 1 Z<|ag<|⟨_,_,?_,⟨i+1,?_,Z,Z⟩,.rf⟩
  ·omega
  refine⟨by omega,?_⟩;rw[<-d,show Tp.eqB x y=true by unfold Tp.eqB;simp only[Mo,Pa]at e;rw[L8];exact e,Of]
 refine aT<|ab<|aj 1 Z<|aw<|⟨.inr Z,_,.cons Z .nil,ar (by unfold fB;rw[q,<-d,wS o m];rfl),Z⟩
theorem om:∀{cs:List Col} {vs:List V},vs.length=cs.length->(dZ cs vs=[]↔d6 cs=false)
 |[],[],_=>by simp[dZ,d6]
 |[],_::_,h=>by simp at h
 |_::_,[],h=>by simp at h
 |c::cs,v::vs,h=>by
  have a:=om (cs:=cs) (vs:=vs) (by simpa using h);unfold d6 at a⊢;rw[dZ,Pp];cases b:c.key
  ·rw[if_neg (by simp),a];simp
  rw[if_pos Z];simp
theorem ti{s:Sch}{vs:List V}(h:vs.length=s.cols.length):aG s vs=[]↔d6 s.cols=false:=by
 unfold aG;rw[if_pos h,om h]
theorem tj{k:List V}:∀{K:List (List V)} {j:Nat},j<=K.length->(∀x y,x<j->K[x]? =some y->aX y k<0)->(∀y,K[j]? =some y->¬aX y k<0)->bu K k=j
 |[],j,hj,_,_=>by
  obtain rfl:j=0:=by simpa using hj
  rfl
 |y::K,0,_,_,h=>by
  unfold bu;rw[M0,if_neg (by simpa using h y Z)];rfl
 |y::K,j+1,hj,h1,h2=>by
  have b:=tj (k:=k) (K:=K) (j:=j) (by simpa using hj) (fun x z c a=>h1 (x+1) z (by omega) (by simpa using a)) (fun z a=>h2 z (by simpa using a));unfold bu at b⊢;rw[M0,if_pos (by simpa using h1 0 y (by omega) Z),L9,b]
theorem qY(s:Sch)(k:List V):∀(ts:List Tp) (i:Nat) (l:List Nat) (h:Nat),bX s k ts i=h::l->∃t,i<=h/\ts[h-i]? =some t/\aG s t.vals=k
 |[],i,l,h,e=>by simp[bX]at e
 |t::ts,i,l,h,e=>by
  rw[bX]at e;split at e
  ·next hc=>
   injection e with b f
   subst b;exact⟨t,L4 _,by simp,(kr _ _).1 hc⟩
  obtain⟨a,g,c,d⟩:=qY s k ts (i+1) l h e;refine⟨a,by omega,?_,d⟩;rw[show h-i=(h-(i+1))+1 by omega,OH];exact c
theorem u5{s:Sch}{k:List V}{t:Tp}(a:aG s t.vals=k):∀{ts:List Tp} {i:Nat},t∈ts->bX s k ts i≠ []
 |[],_,h=>by cases h
 |u::ts,i,h=>by
  rw[bX];split
  ·simp
  next hc=>
  rcases Mi.1 h with rfl|h
  ·exact absurd ((kr _ _).2 a) hc
  exact u5 a h
theorem Gr{s:Sch}{ts:List Tp}{i j:Nat}{K:List (List V)}{L:List (List Nat)}{l:List Nat}(n:dE s ([],[]) 0 (ts.take i)=(K,L))(m:∀t∈ts,aG s t.vals≠ [])(o:L[j]? =some l):∃f tl d,l=f::tl/\ts[f]? =some d/\K[j]? =some (aG s d.vals):=by
 have g:=jy (s:=s) (ts.take i) [] ([],[]) ⟨Z,fun t b=>(by cases b),fun k m=>(by cases m),List.Pairwise.nil⟩ fun t b=>m t (ME b)
 rw[Mg,n,MI]at g;have q:L=K.map fun k=>bX s k (ts.take i) 0:=g.bl
 rw[q,MN]at o;obtain⟨k,a,rfl⟩:=Nb.1 o;obtain⟨t,b,h⟩:=g.src k (L7 a);cases c:bX s k (ts.take i) 0 with
 |nil=>exact absurd c (u5 h b)
 |cons f tl=>
  obtain⟨d,_,e,p⟩:=qY s k _ _ _ _ c;rw[O7,MU]at e;split at e
  ·exact⟨f,tl,d,Z,e,by rw[a,p]⟩
  cases e
section
variable {w W:World} {base:Nat} {v v':Value} {vs:List Value} {L:List (List Nat)}
theorem Nest.new(h:Nest w base v vs L)(N:Below w.heap.size w W)(y:base<=w.heap.size){i x:Nat}{u:Value}(B:EIs W w.heap.size u [x])(D:W.ownsRow w.heap.size 23 1 v' (L.length+1) (vs.take i++[u]++vs.drop i))(I:∀g,v'.ownBlock=some g->NoDigB W g)(J:i<=L.length):
  Nest W base v' (vs.take i++[u]++vs.drop i) (L.take i++[[x]]++L.drop i):=by
 have Q:=h.len;have p:∀t∈vs,∀b,t.ownBlock=some b->b<w.heap.size:=fun t a b f=>(h.ok b (.inr ⟨t,a,f⟩)).2.1
 have E:=h.later N;refine⟨by rw[show(L.take i++[[x]]++L.drop i).length=L.length+1 by simp;omega];exact jw D y,I,fun j t l a m=>?_,fun j k s t b C n a d c=>?_,fun t a b f e=>?_⟩
 ·rw[nl _ _ (by omega)]at a;rw[nl _ _ J]at m;by_cases z:j<i
  ·rw[if_pos z]at a m;exact E.el j t l a m
  rw[if_neg z]at a m;by_cases q:j=i
  ·rw[if_pos q]at a m;cases a;cases m;exact⟨jw B.1 y,B.2⟩
  rw[if_neg q]at a m;exact E.el _ t l a m
 ·have key:∀(G:Nat) (A:Value),vs[G]? =some A->A.ownBlock=some b->u.ownBlock=some b->False:=fun G A z q O=>by
   have:=p A (L7 z) b q;have:=(B.1.lt b O).1;omega
  rw[nl _ _ (by omega)]at n a;by_cases F:j<i
  ·rw[if_pos F]at n;by_cases o:k<i
   ·rw[if_pos o]at a;exact h.apart j k s t b C n a d c
   rw[if_neg o]at a;by_cases r:k=i
   ·rw[if_pos r]at a;cases a;exact key _ _ n d c
   rw[if_neg r]at a;exact h.apart j (k-1) s t b (by omega) n a d c
  rw[if_neg F]at n;by_cases H:j=i
  ·rw[if_pos H]at n;cases n;by_cases o:k<i
   ·rw[if_pos o]at a;exact key _ _ a c d
   rw[if_neg o,if_neg (by omega)]at a;exact key _ _ a c d
  rw[if_neg H]at n;by_cases o:k<i
  ·rw[if_pos o]at a;exact h.apart (j-1) k s t b (by omega) n a d c
  rw[if_neg o]at a;by_cases r:k=i
  ·rw[if_pos r]at a;cases a;exact key _ _ n d c
  rw[if_neg r]at a;exact h.apart (j-1) (k-1) s t b (by omega) n a d c
 simp only[Mw,Mm]at a;have P:=(D.lt b e).1;rcases a with(a|rfl)|a
 ·have:=p t (ME a) b f;omega
 ·rcases B.1.2 with⟨rfl,_⟩|⟨g,M,cur,rfl,_,K,_⟩
  ·cases f
  injection f with f
  have q:g=b:=f;subst q;exact AR D K (by decide) e
 have:=p t (Nd a) b f;omega
theorem Nest.ones(h:Nest w base v vs L):∀u∈vs,u.oneCell'=true/\bQ u=true:=fun u b=>by
 obtain⟨j,a,rfl⟩:=Nc b;have f:=h.len;obtain⟨d,_⟩:=h.el j _ (L[j]'(by omega)) (L3 a) (L3 (by omega));obtain⟨A,c,e⟩:=cF d;rw[e];exact⟨Z,Z⟩
end
section
variable {w0 w1 W:World} {G0 G1:Nat->Prop} {vO v' u:Value} {vs:List Value} {L:List (List Nat)} {i x:Nat}
theorem Side.newL(h:Side w0 G0 w1 G1 vO vs L (.slice none 0 0) [] [])(d:Below w1.heap.size w1 W)(j:EIs W w1.heap.size u [x])(k:W.ownsRow w1.heap.size 23 1 v' (L.length+1) (vs.take i++[u]++vs.drop i))(l:∀g,v'.ownBlock=some g->NoDigB W g)(m:i<=L.length):
  Side w0 G0 W (pu G0 v' (vs.take i++[u]++vs.drop i) (.slice none 0 0)) v' (vs.take i++[u]++vs.drop i) (L.take i++[[x]]++L.drop i) (.slice none 0 0) [] []/\∀b,b<w1.heap.size->¬G1 b->W.heap[b]? =w1.heap[b]? /\¬pu G0 v' (vs.take i++[u]++vs.drop i) (.slice none 0 0) b:=by
 refine⟨⟨h.nest.new d h.below.size j k l m,KeyR.nil _ _ _,fun b d=>(by cases d),fun b=>OT,aE h.below d h.below.size,h.e0,h.ok0⟩,fun b f e=>⟨d.block b f,fun a=>?_⟩⟩;rcases a with a|a|a
 ·exact e ((h.g1 b).2 (.inl a))
 ·rcases a with a|⟨t,c,a⟩
  ·have:=(k.lt b a).1;omega
  simp only[Mw,Mm]at c;rcases c with(c|rfl)|c
  ·exact e ((h.g1 b).2 (.inr (.inl (.inr ⟨t,ME c,a⟩))))
  ·have:=(j.1.lt b a).1;omega
  exact e ((h.g1 b).2 (.inr (.inl (.inr ⟨t,Nd c,a⟩))))
 cases a
end
def PcR(B i n:Nat)(f:Value->List Value)(r:Value)(W:World):Prop:=∃d,B<=d/\W.heap[d]? =some (.cells #[.int .i64 (i:Nat)] 3 (0,0))/\W.ownsRow B 23 1 r n (f (.slice (some ⟨d,0,none⟩) 1 1))/\∀g,r.ownBlock=some g->NoDigB W g
theorem j5{W W':World}(a:Below W.heap.size W W'){d:Nat}{x:Obj}(h:W.heap[d]? =some x):W'.heap[d]? =some x:=by
 rw[a.block d (MD.1 h).1];exact h
theorem PcR.later{B i n:Nat}{f:Value->List Value}{r:Value}{W W':World}(h:PcR B i n f r W)(a:Below W.heap.size W W'):PcR B i n f r W':=by
 obtain⟨d,k,j,c,e⟩:=h;exact⟨d,k,j5 a j,eA c a,fun g b=>(e g b).of (a.block g (c.lt g b).2)⟩
def Kd(B p i n:Nat)(vs:List Value)(O vS vP:Value):List (Value->World->Prop):=[
 fun r _=>r=O,
 fun r _=>r=.int .i64 (i:Nat),
 fun r W=>∃b,r=.slice (some ⟨b,0,none⟩) 1 1/\B<=b/\W.heap[b]? =some (.cells #[.int .i64 (i:Nat)] 3 (0,0)),
 fun r W=>∃b d,r=.slice (some ⟨b,0,none⟩) 1 1/\B<=d/\W.heap[d]? =some (.cells #[.int .i64 (i:Nat)] 3 (0,0))/\W.heap[b]? =some (.cells #[.slice (some ⟨d,0,none⟩) 1 1] 23 (0,0)),
 fun r W=>PcR B i (p+1) (fun u=>vs.take p++[u]) r W,
 fun r _=>r=vS,
 fun r _=>r=.int .i64 (p:Nat),
 fun r _=>r=vP,
 fun r W=>PcR B i (n+1) (fun u=>vs.take p++[u]++vs.drop p) r W,
 fun r W=>PcR B i (n+1) (fun u=>vs.take p++[u]++vs.drop p) r W]
theorem D5(B p i n:Nat)(vs:List Value)(O j k:Value)(W:World):Stab W (Kd B p i n vs O j k):=
 .eq<|.eq<|.cons (fun _ _ _ _ ⟨b,f,c,e⟩ a=>⟨b,f,c,j5 a e⟩)<|.cons (fun _ _ _ _ ⟨b,d,f,c,e,g⟩ a=>⟨b,d,f,c,j5 a e,j5 a g⟩)<|.cons (fun _ _ _ _ h a=>h.later a)<|.eq<|.eq<|.eq<|.cons (fun _ _ _ _ h a=>h.later a)<|.cons (fun _ _ _ _ h a=>h.later a)<|.nil
theorem D6(B p i n:Nat)(vs:List Value)(O b a:Value):PureF (Kd B p i n vs O b a) [true,true,false,false,false,true,true,true,false,false]:=
 .eq<|.eq<|.any<|.any<|.any<|.eq<|.eq<|.eq<|.any<|.any<|.nil
theorem A7:(Tryz.prog.info? 23).map (fun i=>(i.zero,i.size,i.bytes))=some (some (.slice none 0 0),1,24):=by kernel_rfl
theorem pE{W:World}{B n m c:Nat}{v:Value}{xs news:List Value}{A:Option Addr}(o:W.ownsRow B 23 1 v n xs)(d:A=none->m=0/\c=0)(b:∀a,A=some a->∀j u,news[j]? =some u->W.cell? (a.add j)=some u)(q:news.length=m)(l:∀u∈news,u.oneCell'=true/\bQ u=true)(t:n+m<=1000000)(s:B<=W.heap.size)(p:∀g,v.ownBlock=some g->NoDigB W g):
  ∃v' W',(Builtin.append_ #[98,98] 98 #[v,.slice A m c]).run Tryz.prog W=.ok v' W'/\W'.ownsRow B 23 1 v' (n+m) (xs++news)/\W.grownBy W' v.ownBlock/\(v'.ownBlock=v.ownBlock\/v'.ownBlock=some W.heap.size)/\∀g,v'.ownBlock=some g->NoDigB W' g:=by
 obtain⟨r,f,e,k,i⟩:=info_parts A7;exact mS (P:=Tryz.prog) W B 98 98 23 r (.slice none 0 0) 1 24 Tryz.underlying98 f e k i Z (by decide) v n xs o A m c news (by rw[q,NQ]) d b (fun u h=>(l u h).1) (by unfold maxLen;omega) (by omega) s (by decide) (Mh.2 fun u h=>(l u h).2) p
end Go.Proofs.YtfoejfohbkmmeaaGreatDoor
