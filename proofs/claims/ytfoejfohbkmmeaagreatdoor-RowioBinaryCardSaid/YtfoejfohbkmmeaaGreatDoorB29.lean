import Derived.Test.YtfoejfohbkmmeaaGreatDoorB28
import Derived.Test.YtfoejfohbkmmeaaGreatDoorB00
import Derived.Test.YtfoejfohbkmmeaaGreatDoorB06
import Derived.Test.YtfoejfohbkmmeaaGreatDoorB24
import Derived.Test.YtfoejfohbkmmeaaGreatDoorB22
set_option maxRecDepth 100000
set_option maxHeartbeats 4000000
namespace Go.Proofs.YtfoejfohbkmmeaaGreatDoor
open Go.RowKit
open Lib renaming hid→J
theorem D4{S:St}{o:Oper}{op:BinOp}{e n:TypeId}{x y:Operand}(vs us:List Value){v:Value}(d:o.op=.binOp op e x y n)(k:S.ev x=.agg (vs.map .sc))(p:S.ev y=.agg (us.map .sc))(h:∀w,(do eqGuard op e x y (.agg vs.toArray) (.agg us.toArray);binOp op e (.agg vs.toArray) (.agg us.toArray):Sem Value).run Tryz.prog w=.ok v w):OpOK o S (.sc v):=by
 intro w0 G0 bx rv w T r i;have key:∀{E:En} {xs vs:List Value},FT E xs (vs.map .sc)->xs=vs:=by
  intro E xs vs h;induction vs generalizing xs with
  |nil=>cases h;rfl
  |cons a l ih=>
   cases xs with
   |nil=>cases h
   |cons b m=>
    have c:=h.head.isSc;rw[c,ih h.tail]
 obtain⟨xs,c,g⟩:=(bH i k (by rw[d];simp[Op.operands])).isAgg;obtain⟨q,j,f⟩:=(bH i p (by rw[d];simp[Op.operands])).isAgg;rw[key g]at c;rw[key f]at j;refine aB (v:=v) (W':=w) ?_ ⟨.pure (.sc _ .nil) .nil,Below.refl _ _⟩;simp only[execOp,d,c,j];rw[Sem.run_bind,h w];rfl
def V.eqB(a b:V):Bool:=a.t==b.t&&a.n==b.n&&a.s.toList==b.s.toList
def Col.eqB(a b:Col):Bool:=a.name.toList==b.name.toList&&a.ty==b.ty&&a.key==b.key
theorem Iu{x y:Operand}(a b:Int)(s:ByteArray)(c d:Int)(u:ByteArray)(w:World):(do eqGuard .neq 77 x y (.agg #[.int .i64 a,.int .i64 b,.string s]) (.agg #[.int .i64 c,.int .i64 d,.string u]);binOp .neq 77 (.agg #[.int .i64 a,.int .i64 b,.string s]) (.agg #[.int .i64 c,.int .i64 d,.string u]):Sem Value).run Tryz.prog w=.ok (.bool (!(a==c&&b==d&&s.toList==u.toList))) w:=by
 go_simp;by_cases f:a=c<;>by_cases e:b=d<;>by_cases g:s.toList=u.toList<;>simp[f,e,g]
theorem Iv{x y:Operand}(a:ByteArray)(b:Int)(s:Bool)(c:ByteArray)(d:Int)(u:Bool)(w:World):(do eqGuard .neq 58 x y (.agg #[.string a,.int .i64 b,.bool s]) (.agg #[.string c,.int .i64 d,.bool u]);binOp .neq 58 (.agg #[.string a,.int .i64 b,.bool s]) (.agg #[.string c,.int .i64 d,.bool u]):Sem Value).run Tryz.prog w=.ok (.bool (!(a.toList==c.toList&&b==d&&s==u))) w:=by
 go_simp;by_cases f:a.toList=c.toList<;>by_cases e:b=d<;>by_cases g:s=u<;>simp[f,e,g]
def ly{α:Type}(f:α->α->Bool):List α->List α->Bool
 |[],[]=>true
 |a::l,b::m=>f a b&&ly f l m
 |_,_=>false
theorem uh{α:Type}{f:α->α->Bool}{l m:List α}{i:Nat}{a b:α}(e:l[i]? =some a)(g:m[i]? =some b):ly f (l.drop i) (m.drop i)=(f a b&&ly f (l.drop (i+1)) (m.drop (i+1))):=by
 obtain⟨d,rfl⟩:=Ok.1 e;obtain⟨c,rfl⟩:=Ok.1 g;rw[Ow d,Ow c,ly]
theorem x3{α:Type}{f:α->α->Bool}:∀{l m:List α},l.length≠m.length->ly f l m=false
 |[],[],h=>absurd Z h
 |[],_::_,_=>rfl
 |_::_,[],_=>rfl
 |a::l,b::m,h=>by rw[ly,x3 (by simpa using h),RS]
theorem x4{α:Type}{f:α->α->Bool}{l m:List α}{i:Nat}(h:l.length=m.length)(a:¬i<l.length):ly f (l.drop i) (m.drop i)=true:=by
 rw[Ov (by omega),Ov (by omega)];rfl
theorem sr{α:Type}{f:α->α->Bool}(c:∀a b,f a b=true↔a=b):∀{l m:List α},ly f l m=true↔l=m
 |[],[]=>by simp[ly]
 |[],_::_=>by simp[ly]
 |_::_,[]=>by simp[ly]
 |a::l,b::m=>by rw[ly,Oo,c,sr c,Q8]
theorem rg{a b:ByteArray}(h:a.toList=b.toList):a=b:=by
 have:a.data.toList=b.data.toList:=by rw[<-Lib.toList_data,<-Lib.toList_data,h]
 apply RX;exact Array.toList_inj.1 this
theorem Ff(a b:V):a.eqB b=true↔a=b:=by
 unfold V.eqB;simp only[Oo,beq_iff_eq];constructor
 ·rintro⟨⟨d,c⟩,e⟩;cases a;cases b;simp only at d c e;rw[d,c,rg e]
 rintro rfl;exact⟨⟨rfl,rfl⟩,rfl⟩
theorem z8(a b:Col):a.eqB b=true↔a=b:=by
 unfold Col.eqB;simp only[Oo,beq_iff_eq];constructor
 ·rintro⟨⟨d,c⟩,e⟩;cases a;cases b;simp only at d c e;rw[c,e,rg d]
 rintro rfl;exact⟨⟨rfl,rfl⟩,rfl⟩
def i7(a b:Sch):Bool:= !(((!(a.name.toList==b.name.toList))||(a.cert !=b.cert))||decide (a.cols.length≠b.cols.length))&&ly Col.eqB a.cols b.cols
def Tp.eqB(a b:Tp):Bool:=ly V.eqB a.vals b.vals&&decide (a.prob=b.prob)
def ec(a b:Rel):Bool:=i7 a.sch b.sch&&ly Tp.eqB a.tups b.tups
theorem Ac(a b:Rel):ec a b=true↔a=b:=by
 have j:∀{l m:List V},ly V.eqB l m=true↔l=m:=fun{l m}=>sr Ff
 have i:∀x y:Tp,x.eqB y=true↔x=y:=fun x y=>by
  unfold Tp.eqB;rw[Oo,j,decide_eq_true_eq];constructor
  ·rintro⟨c,d⟩;cases x;cases y;simp only at c d;rw[c,d]
  rintro rfl;exact⟨rfl,rfl⟩
 unfold ec i7;rw[Oo,sr i,Oo,sr z8];constructor
 ·rintro⟨⟨c,d⟩,e⟩;simp only[Pu,OH,RV,beq_iff_eq,bne_eq_false_iff_eq]at c;obtain⟨⟨f,g⟩,_⟩:=c;obtain⟨⟨o,k,s⟩,h⟩:=a;obtain⟨⟨r,n,q⟩,p⟩:=b;simp only at d e f g;rw[d,e,g,rg f]
 rintro rfl;simp
theorem D5(s:Sch)(vs:List V)(w:vs.length<=65536):Ct 164 [s.tree,.sl (vs.map V.tree)] (.sl ((aJ s vs).map V.tree)):=by
 refine Ct.of (n:=33) Tryz.func164 Z Z Z Z Z fun w0 G0=>?_
 refine ab<|ae<|aa 1 Z<|ag (t:=.sl []) Z Z Z (bI (.inr Z) bQ)<|af<|ab<|ab<|ae<|aa 1 Z<|ag (t:=nI vs.length) Z Z Z (ah (aW Z bw Z) (by simp only[Ol]))<|aa 2 Z<|ag (t:=nI s.cols.length) Z Z Z (ah (aW Z bh Z) (by simp only[Ol]))<|ag (t:=bT (decide (vs.length≠s.cols.length))) Z Z Z (ah (ai Z Z Z Zy) (au (qC vs.length s.cols.length)))<|af<|aD Z (fun d=>?_) (fun d=>?_)
 ·refine ab<|ae<|ag (t:=.sl []) Z Z Z (bI (.inr Z) bQ)<|af<|ax<|⟨.inr Z,_,.cons Z .nil,NL (by unfold aJ;rw[if_neg d]) (l:=[]),Z⟩
 have j:vs.length=s.cols.length:=PV.1 d;refine ar<|ab<|ae<|fY (k:=0) (e:=77) (sz:=3) (rs':=[some ⟨77,3,[],false⟩]) (.inr Z) Z Z Z Z Z<|af<|ab<|ab<|aj 1 Z<|aA<|aO (fun p r=>∃(i:Nat) (b:List V),(i<=vs.length/\b.length<=i/\b++eu (s.cols.drop i) (vs.drop i)=eu s.cols vs)/\p=vs.length-i/\r=⟨33,[(1,.sl (vs.map V.tree)),(2,.box 0 0),(5,.own 0),(6,nI i)],[(26,(fm s))],[some ⟨77,3,b.map V.tree,false⟩]⟩) 1 1 ⟨0,[],⟨by omega,by simp,Z⟩,Z,Z⟩ .rf ?_;rintro p r ⟨i,b,⟨x,u,a⟩,rfl,rfl⟩;refine ab<|ab<|ae<|aa 2 Z<|ag (t:=nI vs.length) Z Z Z (ah (aW Z bw Z) (by simp only[Ol]))<|ag (t:=bT (decide (i<vs.length))) Z Z Z (ah (ai Z Z Z Zy) (au (gK i vs.length)))<|af<|aD Z (fun m=>?_) (fun m=>?_)
 ·obtain⟨v,h⟩:∃v,vs[i]? =some v:=⟨_,Og m⟩;obtain⟨c,o⟩:∃c,s.cols[i]? =some c:=⟨_,Og (by omega)⟩;rw[rA o h]at a;refine ar<|ab<|aA<|ab<|ae<|aa 3 Z<|ag (t:=.ref [sT c.name,iT c.ty,bT c.key]) Z Z Z (aK (Col.tree c) Z bh Z Z Z (aX (f:=Col.tree) o) (ei _) Z)<|aa 2 Z<|af<|aH Z (fun g=>?_) (fun g=>?_)
  ·rw[if_pos g]at a;refine ae<|aa 3 rfl<|ag (t:=.ref [iT v.t,iT v.n,sT v.s]) rfl rfl rfl (aK (V.tree v) rfl bw rfl rfl rfl (aX (f:=V.tree) h) (gc _) rfl)<|aa 1 rfl<|ag (t:=.sl [.agg [iT v.t,iT v.n,sT v.s]]) rfl rfl rfl (aN rfl bw gC rfl (by decide) (by decide) rfl rfl rfl rfl rfl)<|a8 (bs':=[(26,(fm s))]) (rs':=[some ⟨77,3,(b++[v]).map V.tree,false⟩]) rfl rfl rfl rfl iP rfl rfl rfl rfl (by intro e q;simp only[OC,O8,or_false]at q;subst q;rfl) (AllC.lit rfl) (AllC.lit rfl) (by simp only[Ol,Oi,Ou];omega) rfl rfl rfl (by rw[PE];rfl)<|aa 1 rfl<|af<|ae<|aa 1 rfl<|ag (t:=nI (i+1)) rfl rfl rfl (ah (ai rfl rfl rfl Zy) (bp (by omega)))<|aa 1 rfl<|af<|⟨_,_,?_,⟨i+1,(b++[v]),?_,rfl,rfl⟩,.rf⟩
   ·omega
   exact⟨by omega,by first|omega|(simp only[Oj,Oi,Ou];omega),by first|exact a|(rw[<-a];simp)⟩
  rw[if_neg (by rw[g];exact Pd)]at a;refine ar<|ae<|aa 1 Z<|ag (t:=nI (i+1)) Z Z Z (ah (ai Z Z Z Zy) (bp (by omega)))<|aa 1 Z<|af<|⟨_,_,?_,⟨i+1,b,?_,Z,Z⟩,.rf⟩
  ·omega
  exact⟨by omega,by first|omega|(simp only[Oj,Oi,Ou];omega),by first|exact a|(rw[<-a];simp)⟩
 refine dI 0 (bs':=[(26,(fm s))]) (rs':=[none]) Z Z Z Z<|aQ<|ab<|aj 2 Z<|ax<|⟨.inr Z,_,.cons Z .nil,NL (by unfold aJ;rw[if_pos j,<-a,Ov (by omega)];simp[eu]),Z⟩
theorem Co(s:Sch)(p:s.cols.length<=65536):Ct 163 [s.tree] (bT (eD s.cols)):=by
 refine Ct.of (n:=17) Tryz.func163 Z Z Z Z Z fun w0 G0=>?_
 refine ab<|aj 2 Z<|ab<|ab<|aj 1 Z<|aA<|aO (fun j m=>∃(i:Nat),(i<=s.cols.length/\∀(k:Nat) (c:Col),k<i->s.cols[k]? =some c->c.key=false)/\j=s.cols.length-i/\m=⟨17,[(1,.box 0 0),(3,nI i)],[(26,(fm s))],[]⟩) 1 0 ⟨0,⟨by omega,fun k c h=>by omega⟩,Z,Z⟩ .rf ?_;rintro j m ⟨i,⟨q,a⟩,rfl,rfl⟩;refine ab<|ab<|ae<|aa 3 Z<|ag (t:=nI s.cols.length) Z Z Z (ah (aW Z bh Z) (by simp only[Ol]))<|ag (t:=bT (decide (i<s.cols.length))) Z Z Z (ah (ai Z Z Z Zy) (au (gK i s.cols.length)))<|af<|aD Z (fun g=>?_) (fun g=>?_)
 ·obtain⟨c,d⟩:∃c,s.cols[i]? =some c:=⟨_,Og g⟩;refine ar<|ab<|aA<|ab<|ae<|aa 3 Z<|ag (t:=.ref [sT c.name,iT c.ty,bT c.key]) Z Z Z (aK (Col.tree c) Z bh Z Z Z (aX (f:=Col.tree) d) (ei _) Z)<|aa 2 Z<|af<|aH Z (fun b=>?_) (fun b=>?_)
  ·refine ab<|aj 1 Z<|ax<|⟨.inr Z,_,.cons Z .nil,au (Q1.2 ⟨c,Om d,b⟩).symm,Z⟩
  refine ar<|ae<|aa 1 Z<|ag (t:=nI (i+1)) Z Z Z (ah (ai Z Z Z Zy) (bp (by omega)))<|aa 1 Z<|af<|⟨_,_,?_,⟨i+1,?_,Z,Z⟩,.rf⟩
  ·omega
  refine⟨by omega,fun k x h e=>?_⟩;rcases OS k i with l|l
  ·exact a k x l e
  obtain rfl:k=i:=by omega
  rw[d]at e;cases e;exact b
 refine aQ<|ab<|aj 1 rfl<|ax<|⟨.inr rfl,_,.cons rfl .nil,au (by unfold eD;rw[eq_comm,Qj];intro x e;obtain⟨k,o,rfl⟩:=Pv e;rw[a k _ (by omega) (Og o)];simp),rfl⟩
theorem Iw(r:Rel)(vs:List V)(k:vs.length<=65536)(m:r.tups.length<=65536)(g:∀t∈r.tups,t.vals.length<=65536):Ct 92 [r.tree,.sl (vs.map V.tree)] (vU (mN vs r.tups 0)):=by
 refine Ct.of (n:=24) Tryz.func92 Z Z Z Z Z fun w0 G0=>?_
 refine ab<|aj 3 Z<|ab<|ab<|aj 1 Z<|aA<|aO (fun h j=>∃(i:Nat),(i<=r.tups.length/\mN vs (r.tups.drop i) i=mN vs r.tups 0)/\h=r.tups.length-i/\j=⟨24,[(1,.sl (vs.map V.tree)),(2,.box 0 0),(6,nI i)],[(30,(a7 r))],[]⟩) 1 0 ⟨0,⟨by omega,Z⟩,Z,Z⟩ .rf ?_;rintro h j ⟨i,⟨l,a⟩,rfl,rfl⟩;refine ab<|ab<|ae<|aa 3 Z<|ag (t:=nI r.tups.length) Z Z Z (ah (aW Z aM Z) (by simp only[Ol]))<|ag (t:=bT (decide (i<r.tups.length))) Z Z Z (ah (ai Z Z Z Zy) (au (gK i r.tups.length)))<|af<|aD Z (fun d=>?_) (fun d=>?_)
 ·obtain⟨t,b⟩:∃t,r.tups[i]? =some t:=⟨_,Og d⟩;have e:=g t (Om b);rw[tK b]at a;refine ar<|ab<|aA<|ab<|ae<|aa 3 Z<|ag (t:=.ref (bY t)) Z Z Z (aK (Tp.tree t) Z aM Z Z Z (aX (f:=Tp.tree) b) (bS _) Z)<|aa 3 Z<|ag Z Z Z (ak Z (mu _ _ e k) Z Z)<|ag (t:=bT ((bg t.vals vs)==0)) Z Z Z (ai Z Z Z Zy)<|af<|aH Z (fun c=>?_) (fun c=>?_)
  ·refine ab<|aj 3 Z<|ax<|⟨.inr Z,_,.cons Z (.cons Z .nil),by unfold vU;rw[<-a,if_pos (by simpa using c)];rfl,Z⟩
  refine ar<|ae<|aa 1 Z<|ag (t:=nI (i+1)) Z Z Z (ah (ai Z Z Z Zy) (bp (by omega)))<|aa 1 Z<|af<|⟨_,_,?_,⟨i+1,?_,Z,Z⟩,.rf⟩
  ·omega
  exact⟨by omega,by rw[<-a,if_neg (by simpa using c)]⟩
 refine aQ<|ab<|aj 2 Z<|ax<|⟨.inr Z,_,.cons Z (.cons Z .nil),by unfold vU;rw[<-a,Ov (by omega)];rfl,Z⟩
theorem KC(r:Rel)(a:List Nat)(h:∀i∈a,i<r.tups.length)(o:a.length<=65536)(k:∀t∈r.tups,Fit 262144 t.prob)(d:∀j,j<=a.length->Fit 262144 (eJ r.tups (a.take j))):Ct 97 [r.tree,.sl (a.map fV)] (dA (eJ r.tups a)):=by
 refine Ct.of (n:=26) Tryz.func97 Z Z Z Z Z fun w0 G0=>?_
 refine ab<|aj 2 Z<|ab<|ae<|ag Z Z Z (ak Z (sq 0 (by decide)) Z Z)<|aa 2 Z<|af<|ab<|ab<|aj 1 Z<|aA<|aO (fun l m=>∃(j:Nat),(j<=a.length)/\l=a.length-j/\m=⟨26,[(1,.sl (a.map fV)),(2,.box 0 0),(4,.box 1 0),(5,.box 2 0),(6,nI j)],[(30,(a7 r)),(65,[bT false,.sl [],.sl []]),(65,[bT (decide ((eJ r.tups (a.take j)).num<0)),aG ((eJ r.tups (a.take j)).num.natAbs),aG ((eJ r.tups (a.take j)).den)])],[]⟩) 3 0 ⟨0,OA _,Z,Z⟩ .rf ?_;rintro l m ⟨j,p,rfl,rfl⟩;refine ab<|ab<|ae<|aa 2 Z<|ag (t:=nI a.length) Z Z Z (ah (aW Z cL Z) (by simp only[Ol]))<|ag (t:=bT (decide (j<a.length))) Z Z Z (ah (ai Z Z Z Zy) (au (gK j a.length)))<|af<|aD Z (fun e=>?_) (fun e=>?_)
 ·obtain⟨i,c⟩:∃i,a[j]? =some i:=⟨_,Og e⟩;have g:=h i (Om c);obtain⟨t,b⟩:∃t,r.tups[i]? =some t:=⟨_,Og g⟩;refine ar<|ab<|aA<|dS (ops:=[_,_,_,_,_,_,_,_,_,_,_]) (fu:=12) (bs':=[(30,(a7 r)),(65,[bT false,.sl [],.sl []]),(65,[bT (decide ((eJ r.tups (a.take (j+1))).num<0)),aG ((eJ r.tups (a.take (j+1))).num.natAbs),aG ((eJ r.tups (a.take (j+1))).den)])]) [some 14,some 15,some 16,some 17,some 18,some 19,some 20,some 21,some 22,some 23,some 24] [.agg [bT (decide ((eJ r.tups (a.take j)).num<0)),aG ((eJ r.tups (a.take j)).num.natAbs),aG ((eJ r.tups (a.take j)).den)],.box 0 3,.sl (r.tups.map Tp.tree),.sl (a.map fV),nI j,.ref [nI i],nI i,.ref (bY t),.ref (aZ t.prob),.agg (aZ t.prob),.agg [bT (decide ((eJ r.tups (a.take (j+1))).num<0)),aG ((eJ r.tups (a.take (j+1))).num.natAbs),aG ((eJ r.tups (a.take (j+1))).den)]] (by kernel_rfl) Z Z Z Z Z (by kernel_rfl) (by kernel_rfl) Z Z Z Z Z Z Z Z fB Z Z Z ?_ ?_
  ·refine Chain.op Z (aR Z Z Z aI Z Z)<|Chain.op Z (aq Z Z a6 Z)<|Chain.op Z (ay Z Z Z bz Z)<|Chain.op Z (av Z Z)<|Chain.op Z (av Z Z)<|Chain.op Z (aK (fV i) Z cL Z Z Z (aX (f:=fV) c) (rz _) Z)<|Chain.op Z (be Z Z eQ Z)<|Chain.op Z (aK (Tp.tree t) Z aM Z Z Z (aX (f:=Tp.tree) b) (bS _) Z)<|Chain.op Z (bu Z Z d5 Z)<|Chain.op Z (cT Z Z aI Z Z)<|Chain.op Z (ak Z (by rw[vQ c b];exact zY _ _ (d j (by omega)) (k t (Om b))) Z Z)<|Chain.nil
  refine ae<|aa 1 Z<|ag (t:=nI (j+1)) Z Z Z (ah (ai Z Z Z Zy) (bp (by omega)))<|aa 1 Z<|af<|⟨_,_,?_,⟨j+1,?_,Z,Z⟩,.rf⟩
  ·omega
  omega
 refine aQ<|ab<|aj 2 Z<|ax<|⟨.inr Z,_,.cons ⟨_,_,_,_,Z,Z,.inl ⟨_,aI,Z,Z⟩⟩ .nil,pC (by rw[Oy (by omega)]),Z⟩
theorem Ix(l m:List V)(o:l.length<=65536)(q:m.length<=65536):Ct 44 [.sl (l.map V.tree),.sl (m.map V.tree)] (bT (ly V.eqB l m)):=by
 refine Ct.of (n:=26) Tryz.func44 Z Z Z Z Z fun w0 G0=>?_
 refine ab<|aj 1 Z<|ab<|ab<|ae<|aa 1 Z<|ag (t:=nI l.length) Z Z Z (ah (aW Z bw Z) (by simp only[Ol]))<|aa 1 Z<|ag (t:=nI m.length) Z Z Z (ah (aW Z bw Z) (by simp only[Ol]))<|ag (t:=bT (decide (l.length≠m.length))) Z Z Z (ah (ai Z Z Z Zy) (au (qC l.length m.length)))<|af<|aD Z (fun b=>?_) (fun b=>?_)
 ·refine ab<|aj 1 Z<|ax<|⟨.inr Z,_,.cons Z .nil,au (x3 b).symm,Z⟩
 have g:l.length=m.length:=PV.1 b;refine ar<|ab<|ab<|aj 1 Z<|aA<|aO (fun j k=>∃(i:Nat),(i<=l.length/\ly V.eqB (l.drop i) (m.drop i)=ly V.eqB l m)/\j=l.length-i/\k=⟨26,[(0,.sl (l.map V.tree)),(1,.sl (m.map V.tree)),(5,nI i)],[],[]⟩) 0 0 ⟨0,⟨by omega,Z⟩,Z,Z⟩ .rf ?_;rintro j k ⟨i,⟨p,a⟩,rfl,rfl⟩;refine ab<|ab<|ae<|aa 2 Z<|ag (t:=nI l.length) Z Z Z (ah (aW Z bw Z) (by simp only[Ol]))<|ag (t:=bT (decide (i<l.length))) Z Z Z (ah (ai Z Z Z Zy) (au (gK i l.length)))<|af<|aD Z (fun d=>?_) (fun d=>?_)
 ·obtain⟨x,h⟩:∃x,l[i]? =some x:=⟨_,Og d⟩;obtain⟨y,e⟩:∃x,m[i]? =some x:=⟨_,Og (by omega)⟩;rw[uh h e]at a;refine ar<|ab<|aA<|ab<|ck (fu:=9) [some 17,some 18,some 19,some 20,some 21,some 22,some 23,some 24,some 25] [.sl (l.map V.tree),nI i,.ref [iT x.t,iT x.n,sT x.s],.agg [iT x.t,iT x.n,sT x.s],.sl (m.map V.tree),nI i,.ref [iT y.t,iT y.n,sT y.s],.agg [iT y.t,iT y.n,sT y.s],bT (!(V.eqB x y))] (by kernel_rfl) Z Z (by kernel_rfl) Z ?_ ?_
  ·refine Chain.op Z (av Z Z)<|Chain.op Z (av Z Z)<|Chain.op Z (aK (V.tree x) Z bw Z Z Z (aX (f:=V.tree) h) (gc _) Z)<|Chain.op Z (cT Z Z mj Z Z)<|Chain.op Z (av Z Z)<|Chain.op Z (av Z Z)<|Chain.op Z (aK (V.tree y) Z bw Z Z Z (aX (f:=V.tree) e) (gc _) Z)<|Chain.op Z (cT Z Z mj Z Z)<|Chain.op Z (D4 [.int .i64 x.t,.int .i64 x.n,.string x.s] [.int .i64 y.t,.int .i64 y.n,.string y.s] Z Z Z (fun w=>Iu _ _ _ _ _ _ w))<|Chain.nil
  refine aH Z (fun c=>?_) (fun c=>?_)
  ·refine ab<|aj 1 Z<|ax<|⟨.inr Z,_,.cons Z .nil,au (by rw[<-a,show V.eqB x y=false by simpa using c];rfl),Z⟩
  refine ar<|ae<|aa 1 Z<|ag (t:=nI (i+1)) Z Z Z (ah (ai Z Z Z Zy) (bp (by omega)))<|aa 1 Z<|af<|⟨_,_,?_,⟨i+1,?_,Z,Z⟩,.rf⟩
  ·omega
  exact⟨by omega,by rw[<-a,show V.eqB x y=true by simpa using c,QA]⟩
 refine aQ<|ab<|aj 1 Z<|ax<|⟨.inr Z,_,.cons Z .nil,au (by rw[<-a,x4 g d]),Z⟩
theorem Iy(a b:Sch)(r:a.cols.length<=65536)(u:b.cols.length<=65536):Ct 43 [a.tree,b.tree] (bT (i7 a b)):=by
 refine Ct.of (n:=45) Tryz.func43 Z Z Z Z Z fun w0 G0=>?_
 refine ab<|aj 3 Z<|ab<|ab<|ae<|aa 4 Z<|ag (t:=bT (!(a.name.toList==b.name.toList))) Z Z Z (ai Z Z Z Zy)<|aa 1 Z<|aw (t:=.box 0 1) Z Z Z Z (fun c=>aq Z Z fq Z)<|aw (t:=bT a.cert) Z Z Z Z (fun c=>ay Z (if_pos c) Z ej Z)<|aw (t:=.box 1 1) Z Z Z Z (fun c=>aq Z Z fq Z)<|aw (t:=bT b.cert) Z Z Z Z (fun c=>ay Z (if_pos c) Z ej Z)<|aw (t:=bT (a.cert !=b.cert)) Z Z Z Z (fun c=>ai Z (if_pos c) (if_pos c) (fun _=>rfl))<|ag (t:=bT ((!(a.name.toList==b.name.toList))||(a.cert !=b.cert))) Z Z Z (aL Z Z (fun g=>(au (by rw[g];rfl))) (fun g=>(if_pos g).trans (au (by rw[g];rfl))))<|aa 1 Z<|aw (t:=.box 0 2) Z Z Z Z (fun c=>aq Z Z cY Z)<|aw (t:=.sl (a.cols.map Col.tree)) Z Z Z Z (fun c=>ay Z (if_pos c) Z ek Z)<|aw (t:=nI a.cols.length) Z Z Z Z (fun c=>ah (aW Z bh (if_pos c)) (by simp only[Ol]))<|aw (t:=.box 1 2) Z Z Z Z (fun c=>aq Z Z cY Z)<|aw (t:=.sl (b.cols.map Col.tree)) Z Z Z Z (fun c=>ay Z (if_pos c) Z ek Z)<|aw (t:=nI b.cols.length) Z Z Z Z (fun c=>ah (aW Z bh (if_pos c)) (by simp only[Ol]))<|aw (t:=bT (decide (a.cols.length≠b.cols.length))) Z Z Z Z (fun c=>ah (ai Z (if_pos c) (if_pos c) (fun _=>rfl)) (au (qC a.cols.length b.cols.length)))<|ag (t:=bT (((!(a.name.toList==b.name.toList))||(a.cert !=b.cert))||(decide (a.cols.length≠b.cols.length)))) Z Z Z (aL Z Z (fun g=>(au (by rw[g];rfl))) (fun g=>(if_pos g).trans (au (by rw[g];rfl))))<|af<|aH Z (fun e=>?_) (fun e=>?_)
 ·refine ab<|aj 1 Z<|ax<|⟨.inr Z,_,.cons Z .nil,au (by unfold i7;rw[e];rfl),Z⟩
 have l:a.cols.length=b.cols.length:=by have q:=(OH.1 e).2;simpa using q
 refine ar<|ab<|ab<|aj 1 Z<|aA<|aO (fun o p=>∃(i:Nat),(i<=a.cols.length/\ly Col.eqB (a.cols.drop i) (b.cols.drop i)=ly Col.eqB a.cols b.cols)/\o=a.cols.length-i/\p=⟨45,[(2,.box 0 0),(3,.box 1 0),(5,nI i)],[(26,(fm a)),(26,(fm b))],[]⟩) 2 0 ⟨0,⟨by omega,Z⟩,Z,Z⟩ .rf ?_;rintro o p ⟨i,⟨s,d⟩,rfl,rfl⟩;refine ab<|ab<|ae<|aa 3 Z<|ag (t:=nI a.cols.length) Z Z Z (ah (aW Z bh Z) (by simp only[Ol]))<|ag (t:=bT (decide (i<a.cols.length))) Z Z Z (ah (ai Z Z Z Zy) (au (gK i a.cols.length)))<|af<|aD Z (fun j=>?_) (fun j=>?_)
 ·obtain⟨x,m⟩:∃x,a.cols[i]? =some x:=⟨_,Og j⟩;obtain⟨y,k⟩:∃x,b.cols[i]? =some x:=⟨_,Og (by omega)⟩;rw[uh m k]at d;refine ar<|ab<|aA<|ab<|ck (fu:=11) [some 34,some 35,some 36,some 37,some 38,some 39,some 40,some 41,some 42,some 43,some 44] [.box 0 2,.sl (a.cols.map Col.tree),nI i,.ref [sT x.name,iT x.ty,bT x.key],.agg [sT x.name,iT x.ty,bT x.key],.box 1 2,.sl (b.cols.map Col.tree),nI i,.ref [sT y.name,iT y.ty,bT y.key],.agg [sT y.name,iT y.ty,bT y.key],bT (!(Col.eqB x y))] (by kernel_rfl) Z Z (by kernel_rfl) Z ?_ ?_
  ·refine Chain.op Z (aq Z Z cY Z)<|Chain.op Z (ay Z Z Z ek Z)<|Chain.op Z (av Z Z)<|Chain.op Z (aK (Col.tree x) Z bh Z Z Z (aX (f:=Col.tree) m) (ei _) Z)<|Chain.op Z (cT Z Z tI Z Z)<|Chain.op Z (aq Z Z cY Z)<|Chain.op Z (ay Z Z Z ek Z)<|Chain.op Z (av Z Z)<|Chain.op Z (aK (Col.tree y) Z bh Z Z Z (aX (f:=Col.tree) k) (ei _) Z)<|Chain.op Z (cT Z Z tI Z Z)<|Chain.op Z (D4 [.string x.name,.int .i64 x.ty,.bool x.key] [.string y.name,.int .i64 y.ty,.bool y.key] Z Z Z (fun w=>Iv _ _ _ _ _ _ w))<|Chain.nil
  refine aH Z (fun h=>?_) (fun h=>?_)
  ·refine ab<|aj 1 Z<|ax<|⟨.inr Z,_,.cons Z .nil,au (by unfold i7;rw[e,<-d,show Col.eqB x y=false by simpa using h];rfl),Z⟩
  refine ar<|ae<|aa 1 Z<|ag (t:=nI (i+1)) Z Z Z (ah (ai Z Z Z Zy) (bp (by omega)))<|aa 1 Z<|af<|⟨_,_,?_,⟨i+1,?_,Z,Z⟩,.rf⟩
  ·omega
  exact⟨by omega,by rw[<-d,show Col.eqB x y=true by simpa using h,QA]⟩
 refine aQ<|ab<|aj 1 Z<|ax<|⟨.inr Z,_,.cons Z .nil,au (by unfold i7;rw[e,<-d,x4 l j];rfl),Z⟩
theorem KD(a b:Rel)(r:FitR a)(s:FitR b):Ct 14 [a.tree,b.tree] (bT (ec a b)):=by
 have A:=r.tups;have z:=s.tups;refine Ct.of (n:=58) Tryz.func14 Z Z Z Z Z fun w0 G0=>?_
 refine ab<|aj 3 Z<|ab<|ab<|ae<|aa 4 Z<|ag Z Z Z (ak Z (Iy _ _ r.cols s.cols) Z Z)<|ag (t:=bT (!(i7 a.sch b.sch))) Z Z Z (dw Z Z Zy)<|aa 1 Z<|aw (t:=.box 0 3) Z Z Z Z (fun c=>aq Z Z a6 Z)<|aw (t:=.sl (a.tups.map Tp.tree)) Z Z Z Z (fun c=>ay Z (if_pos c) Z bz Z)<|aw (t:=nI a.tups.length) Z Z Z Z (fun c=>ah (aW Z aM (if_pos c)) (by simp only[Ol]))<|aw (t:=.box 1 3) Z Z Z Z (fun c=>aq Z Z a6 Z)<|aw (t:=.sl (b.tups.map Tp.tree)) Z Z Z Z (fun c=>ay Z (if_pos c) Z bz Z)<|aw (t:=nI b.tups.length) Z Z Z Z (fun c=>ah (aW Z aM (if_pos c)) (by simp only[Ol]))<|aw (t:=bT (decide (a.tups.length≠b.tups.length))) Z Z Z Z (fun c=>ah (ai Z (if_pos c) (if_pos c) (fun _=>rfl)) (au (qC a.tups.length b.tups.length)))<|ag (t:=bT ((!(i7 a.sch b.sch))||(decide (a.tups.length≠b.tups.length)))) Z Z Z (aL Z Z (fun l=>(au (by rw[l];rfl))) (fun l=>(if_pos l).trans (au (by rw[l];rfl))))<|af<|aH Z (fun k=>?_) (fun k=>?_)
 ·refine ab<|aj 1 rfl<|ax<|⟨.inr rfl,_,.cons rfl .nil,au (by unfold ec;rcases RR.1 k with h|h;rw[show i7 a.sch b.sch=false by simpa using h];rfl;rw[x3 (by simpa using h),RS]),rfl⟩
 have q:a.tups.length=b.tups.length:=by have u:=(OH.1 k).2;simpa using u
 have o:i7 a.sch b.sch=true:=by have u:=(OH.1 k).1;simpa using u
 refine ar<|ab<|ab<|aj 1 Z<|aA<|aO (fun v w=>∃(i:Nat),(i<=a.tups.length/\ly Tp.eqB (a.tups.drop i) (b.tups.drop i)=ly Tp.eqB a.tups b.tups)/\v=a.tups.length-i/\w=⟨58,[(2,.box 0 0),(3,.box 1 0),(5,nI i)],[(30,(a7 a)),(30,(a7 b))],[]⟩) 2 0 ⟨0,⟨by omega,Z⟩,Z,Z⟩ .rf ?_;rintro v w ⟨i,⟨B,d⟩,rfl,rfl⟩;refine ab<|ab<|ae<|aa 3 Z<|ag (t:=nI a.tups.length) Z Z Z (ah (aW Z aM Z) (by simp only[Ol]))<|ag (t:=bT (decide (i<a.tups.length))) Z Z Z (ah (ai Z Z Z Zy) (au (gK i a.tups.length)))<|af<|aD Z (fun m=>?_) (fun m=>?_)
 ·obtain⟨x,j⟩:∃x,a.tups[i]? =some x:=⟨_,Og m⟩;obtain⟨y,e⟩:∃x,b.tups[i]? =some x:=⟨_,Og (by omega)⟩;rw[uh j e]at d;refine ar<|ab<|aA<|ab<|ck (fu:=30) [some 28,some 29,some 30,some 31,some 32,some 33,some 34,some 35,some 36,some 37,some 38,some 39,some 40,some 41,some 42,some 43,some 44,some 45,some 46,some 47,some 48,some 49,some 50,some 51,some 52,some 53,some 54,some 55,some 56,some 57] [.box 0 3,.sl (a.tups.map Tp.tree),nI i,.ref (bY x),.ref (bY x),.sl (x.vals.map V.tree),.box 1 3,.sl (b.tups.map Tp.tree),nI i,.ref (bY y),.ref (bY y),.sl (y.vals.map V.tree),bT (ly V.eqB x.vals y.vals),bT (!(ly V.eqB x.vals y.vals)),bT (!(ly V.eqB x.vals y.vals)),if(!(ly V.eqB x.vals y.vals))=false then(.box 0 3:Tree)else .sc undef,if(!(ly V.eqB x.vals y.vals))=false then(.sl (a.tups.map Tp.tree):Tree)else .sc undef,if(!(ly V.eqB x.vals y.vals))=false then(nI i:Tree)else .sc undef,if(!(ly V.eqB x.vals y.vals))=false then(.ref (bY x):Tree)else .sc undef,if(!(ly V.eqB x.vals y.vals))=false then(.ref (aZ x.prob):Tree)else .sc undef,if(!(ly V.eqB x.vals y.vals))=false then(.agg (aZ x.prob):Tree)else .sc undef,if(!(ly V.eqB x.vals y.vals))=false then(.box 1 3:Tree)else .sc undef,if(!(ly V.eqB x.vals y.vals))=false then(.sl (b.tups.map Tp.tree):Tree)else .sc undef,if(!(ly V.eqB x.vals y.vals))=false then(nI i:Tree)else .sc undef,if(!(ly V.eqB x.vals y.vals))=false then(.ref (bY y):Tree)else .sc undef,if(!(ly V.eqB x.vals y.vals))=false then(.ref (aZ y.prob):Tree)else .sc undef,if(!(ly V.eqB x.vals y.vals))=false then(.agg (aZ y.prob):Tree)else .sc undef,if(!(ly V.eqB x.vals y.vals))=false then(bT (decide (x.prob=y.prob)):Tree)else .sc undef,if(!(ly V.eqB x.vals y.vals))=false then(bT (!(decide (x.prob=y.prob))):Tree)else .sc undef,bT ((!(ly V.eqB x.vals y.vals))||(!(decide (x.prob=y.prob))))] (by kernel_rfl) Z Z (by kernel_rfl) Z ?_ ?_
  ·refine Chain.op Z (aq Z Z a6 Z)<|Chain.op Z (ay Z Z Z bz Z)<|Chain.op Z (av Z Z)<|Chain.op Z (aK (Tp.tree x) Z aM Z Z Z (aX (f:=Tp.tree) j) (bS _) Z)<|Chain.op Z (bu Z Z bW Z)<|Chain.op Z (be Z Z cJ Z)<|Chain.op Z (aq Z Z a6 Z)<|Chain.op Z (ay Z Z Z bz Z)<|Chain.op Z (av Z Z)<|Chain.op Z (aK (Tp.tree y) Z aM Z Z Z (aX (f:=Tp.tree) e) (bS _) Z)<|Chain.op Z (bu Z Z bW Z)<|Chain.op Z (be Z Z cJ Z)<|Chain.op Z (ak Z (Ix _ _ (r.tup x (Om j)).2 (s.tup y (Om e)).2) Z Z)<|Chain.op Z (dw Z Z Zy)<|Chain.op Z (av Z Z)<|aU Z Z Z (fun c=>aq Z Z a6 Z)<|aU Z Z Z (fun c=>ay Z (if_pos c) Z bz Z)<|aU Z Z Z (fun c=>av Z Z)<|aU Z Z Z (fun c=>aK (Tp.tree x) Z aM (if_pos c) (if_pos c) Z (aX (f:=Tp.tree) j) (bS _) Z)<|aU Z Z Z (fun c=>bu Z (if_pos c) d5 Z)<|aU Z Z Z (fun c=>cT Z (if_pos c) aI Z Z)<|aU Z Z Z (fun c=>aq Z Z a6 Z)<|aU Z Z Z (fun c=>ay Z (if_pos c) Z bz Z)<|aU Z Z Z (fun c=>av Z Z)<|aU Z Z Z (fun c=>aK (Tp.tree y) Z aM (if_pos c) (if_pos c) Z (aX (f:=Tp.tree) e) (bS _) Z)<|aU Z Z Z (fun c=>bu Z (if_pos c) d5 Z)<|aU Z Z Z (fun c=>cT Z (if_pos c) aI Z Z)<|aU Z Z Z (fun c=>ak Z (Fd _ _ ((r.tup x (Om j)).1.p.mono (by decide)) ((s.tup y (Om e)).1.p.mono (by decide))) (eo (if_pos c) (eo (if_pos c) Z)) Z)<|aU Z Z Z (fun c=>dw Z (if_pos c) (fun _=>rfl))<|Chain.op Z (aL Z Z (fun l=>(au (by rw[l];rfl))) (fun l=>(if_pos l).trans (au (by rw[l];rfl))))<|Chain.nil
  refine aH Z (fun g=>?_) (fun g=>?_)
  ·refine ab<|aj 1 Z<|ax<|⟨.inr Z,_,.cons Z .nil,au (by unfold ec;rw[<-d,show Tp.eqB x y=false by unfold Tp.eqB;simp only[Px,Pu]at g;rw[P6];exact g];simp),Z⟩
  refine ar<|ae<|aa 1 Z<|ag (t:=nI (i+1)) Z Z Z (ah (ai Z Z Z Zy) (bp (by omega)))<|aa 1 Z<|af<|⟨_,_,?_,⟨i+1,?_,Z,Z⟩,.rf⟩
  ·omega
  refine⟨by omega,?_⟩;rw[<-d,show Tp.eqB x y=true by unfold Tp.eqB;simp only[OH,RV]at g;rw[Oo];exact g,QA]
 refine aQ<|ab<|aj 1 Z<|ax<|⟨.inr Z,_,.cons Z .nil,au (by unfold ec;rw[o,<-d,x4 q m];rfl),Z⟩
theorem oK:∀{cs:List Col} {vs:List V},vs.length=cs.length->(eu cs vs=[]↔eD cs=false)
 |[],[],_=>by simp[eu,eD]
 |[],_::_,h=>by simp at h
 |_::_,[],h=>by simp at h
 |c::cs,v::vs,h=>by
  have a:=oK (cs:=cs) (vs:=vs) (by simpa using h);unfold eD at a⊢;rw[eu,RD];cases b:c.key
  ·rw[if_neg (by simp),a];simp
  rw[if_pos Z];simp
theorem ui{s:Sch}{vs:List V}(h:vs.length=s.cols.length):aJ s vs=[]↔eD s.cols=false:=by
 unfold aJ;rw[if_pos h,oK h]
theorem uj{k:List V}:∀{K:List (List V)} {j:Nat},j<=K.length->(∀x y,x<j->K[x]? =some y->bg y k<0)->(∀y,K[j]? =some y->¬bg y k<0)->bF K k=j
 |[],j,hj,_,_=>by
  obtain rfl:j=0:=by simpa using hj
  rfl
 |y::K,0,_,_,h=>by
  unfold bF;rw[PH,if_neg (by simpa using h y Z)];rfl
 |y::K,j+1,hj,h1,h2=>by
  have b:=uj (k:=k) (K:=K) (j:=j) (by simpa using hj) (fun x z c a=>h1 (x+1) z (by omega) (by simpa using a)) (fun z a=>h2 z (by simpa using a));unfold bF at b⊢;rw[PH,if_pos (by simpa using h1 0 y (by omega) Z),Oi,b]
theorem rK(s:Sch)(k:List V):∀(ts:List Tp) (i:Nat) (l:List Nat) (h:Nat),b8 s k ts i=h::l->∃t,i<=h/\ts[h-i]? =some t/\aJ s t.vals=k
 |[],i,l,h,e=>by simp[b8]at e
 |t::ts,i,l,h,e=>by
  rw[b8]at e;split at e
  ·next hc=>
   injection e with c g
   subst c;exact⟨t,Oh _,by simp,(nN _ _).1 hc⟩
  obtain⟨a,f,d,b⟩:=rK s k ts (i+1) l h e;refine⟨a,by omega,?_,b⟩;rw[show h-i=(h-(i+1))+1 by omega,Ru];exact d
theorem wy{s:Sch}{k:List V}{t:Tp}(a:aJ s t.vals=k):∀{ts:List Tp} {i:Nat},t∈ts->b8 s k ts i≠ []
 |[],_,h=>by cases h
 |u::ts,i,h=>by
  rw[b8];split
  ·simp
  next hc=>
  rcases OC.1 h with rfl|h
  ·exact absurd ((nN _ _).2 a) hc
  exact wy a h
theorem Iz{s:Sch}{ts:List Tp}{i j:Nat}{K:List (List V)}{L:List (List Nat)}{l:List Nat}(g:dP s ([],[]) 0 (ts.take i)=(K,L))(h:∀t∈ts,aJ s t.vals≠ [])(o:L[j]? =some l):∃e tl d,l=e::tl/\ts[e]? =some d/\K[j]? =some (aJ s d.vals):=by
 have m:=jx (s:=s) (ts.take i) [] ([],[]) ⟨Z,fun t a=>(by cases a),fun k h=>(by cases h),List.Pairwise.nil⟩ fun t a=>h t (OV a)
 rw[Ou,g,Py]at m;have p:L=K.map fun k=>b8 s k (ts.take i) 0:=m.bl
 rw[p,O2]at o;obtain⟨k,c,rfl⟩:=Ps.1 o;obtain⟨t,a,n⟩:=m.src k (Om c);cases b:b8 s k (ts.take i) 0 with
 |nil=>exact absurd b (wy n a)
 |cons e tl=>
  obtain⟨d,_,f,q⟩:=rK s k _ _ _ _ b;rw[Q0,Ph]at f;split at f
  ·exact⟨e,tl,d,Z,f,by rw[c,q]⟩
  cases f
section
variable {w W:World} {base:Nat} {v v':Value} {vs:List Value} {L:List (List Nat)}
theorem Nest.new(h:Nest w base v vs L)(K:Below w.heap.size w W)(r:base<=w.heap.size){i x:Nat}{u:Value}(z:EIs W w.heap.size u [x])(D:W.ownsRow w.heap.size 23 1 v' (L.length+1) (vs.take i++[u]++vs.drop i))(M:∀g,v'.ownBlock=some g->NoDigB W g)(I:i<=L.length):
  Nest W base v' (vs.take i++[u]++vs.drop i) (L.take i++[[x]]++L.drop i):=by
 have P:=h.len;have p:∀t∈vs,∀b,t.ownBlock=some b->b<w.heap.size:=fun t a b f=>(h.ok b (.inr ⟨t,a,f⟩)).2.1
 have F:=h.later K;refine⟨by rw[show(L.take i++[[x]]++L.drop i).length=L.length+1 by simp;omega];exact jw D r,M,fun j t l a c=>?_,fun j k s t b C n a d m=>?_,fun t a b f e=>?_⟩
 ·rw[nP _ _ (by omega)]at a;rw[nP _ _ I]at c;by_cases B:j<i
  ·rw[if_pos B]at a c;exact F.el j t l a c
  rw[if_neg B]at a c;by_cases q:j=i
  ·rw[if_pos q]at a c;cases a;cases c;exact⟨jw z.1 r,z.2⟩
  rw[if_neg q]at a c;exact F.el _ t l a c
 ·have key:∀(H:Nat) (A:Value),vs[H]? =some A->A.ownBlock=some b->u.ownBlock=some b->False:=fun H A B q O=>by
   have:=p A (Om B) b q;have:=(z.1.lt b O).1;omega
  rw[nP _ _ (by omega)]at n a;by_cases E:j<i
  ·rw[if_pos E]at n;by_cases o:k<i
   ·rw[if_pos o]at a;exact h.apart j k s t b C n a d m
   rw[if_neg o]at a;by_cases y:k=i
   ·rw[if_pos y]at a;cases a;exact key _ _ n d m
   rw[if_neg y]at a;exact h.apart j (k-1) s t b (by omega) n a d m
  rw[if_neg E]at n;by_cases G:j=i
  ·rw[if_pos G]at n;cases n;by_cases o:k<i
   ·rw[if_pos o]at a;exact key _ _ a m d
   rw[if_neg o,if_neg (by omega)]at a;exact key _ _ a m d
  rw[if_neg G]at n;by_cases o:k<i
  ·rw[if_pos o]at a;exact h.apart (j-1) k s t b (by omega) n a d m
  rw[if_neg o]at a;by_cases y:k=i
  ·rw[if_pos y]at a;cases a;exact key _ _ n d m
  rw[if_neg y]at a;exact h.apart (j-1) (k-1) s t b (by omega) n a d m
 simp only[OZ,OG]at a;have Q:=(D.lt b e).1;rcases a with(a|rfl)|a
 ·have:=p t (OV a) b f;omega
 ·rcases z.1.2 with⟨rfl,_⟩|⟨g,N,cur,rfl,_,J,_⟩
  ·cases f
  injection f with f
  have q:g=b:=f;subst q;exact Cf D J (by decide) e
 have:=p t (Pq a) b f;omega
theorem Nest.ones(h:Nest w base v vs L):∀u∈vs,u.oneCell'=true/\bG u=true:=fun u d=>by
 obtain⟨j,a,rfl⟩:=Pv d;have f:=h.len;obtain⟨b,_⟩:=h.el j _ (L[j]'(by omega)) (Og a) (Og (by omega));obtain⟨A,c,e⟩:=bX b;rw[e];exact⟨Z,Z⟩
end
section
variable {w0 w1 W:World} {G0 G1:Nat->Prop} {vO v' u:Value} {vs:List Value} {L:List (List Nat)} {i x:Nat}
theorem Side.newL(h:Side w0 G0 w1 G1 vO vs L (.slice none 0 0) [] [])(d:Below w1.heap.size w1 W)(k:EIs W w1.heap.size u [x])(j:W.ownsRow w1.heap.size 23 1 v' (L.length+1) (vs.take i++[u]++vs.drop i))(m:∀g,v'.ownBlock=some g->NoDigB W g)(l:i<=L.length):
  Side w0 G0 W (pU G0 v' (vs.take i++[u]++vs.drop i) (.slice none 0 0)) v' (vs.take i++[u]++vs.drop i) (L.take i++[[x]]++L.drop i) (.slice none 0 0) [] []/\∀b,b<w1.heap.size->¬G1 b->W.heap[b]? =w1.heap[b]? /\¬pU G0 v' (vs.take i++[u]++vs.drop i) (.slice none 0 0) b:=by
 refine⟨⟨h.nest.new d h.below.size k j m l,KeyR.nil _ _ _,fun b d=>(by cases d),fun b=>Rh,aF h.below d h.below.size,h.e0,h.ok0⟩,fun b f e=>⟨d.block b f,fun a=>?_⟩⟩;rcases a with a|a|a
 ·exact e ((h.g1 b).2 (.inl a))
 ·rcases a with a|⟨t,c,a⟩
  ·have:=(j.lt b a).1;omega
  simp only[OZ,OG]at c;rcases c with(c|rfl)|c
  ·exact e ((h.g1 b).2 (.inr (.inl (.inr ⟨t,OV c,a⟩))))
  ·have:=(k.1.lt b a).1;omega
  exact e ((h.g1 b).2 (.inr (.inl (.inr ⟨t,Pq c,a⟩))))
 cases a
end
def PcR(B i n:Nat)(f:Value->List Value)(r:Value)(W:World):Prop:=∃d,B<=d/\W.heap[d]? =some (.cells #[.int .i64 (i:Nat)] 3 (0,0))/\W.ownsRow B 23 1 r n (f (.slice (some ⟨d,0,none⟩) 1 1))/\∀g,r.ownBlock=some g->NoDigB W g
theorem j6{W W':World}(a:Below W.heap.size W W'){d:Nat}{x:Obj}(h:W.heap[d]? =some x):W'.heap[d]? =some x:=by
 rw[a.block d (O3.1 h).1];exact h
theorem PcR.later{B i n:Nat}{f:Value->List Value}{r:Value}{W W':World}(h:PcR B i n f r W)(a:Below W.heap.size W W'):PcR B i n f r W':=by
 obtain⟨d,e,k,c,j⟩:=h;exact⟨d,e,j6 a k,d6 c a,fun g b=>(j g b).of (a.block g (c.lt g b).2)⟩
def Mj(B p i n:Nat)(vs:List Value)(O vS vP:Value):List (Value->World->Prop):=[
 fun r _=>r=O,
 fun r _=>r=.int .i64 (i:Nat),
 fun r W=>∃b,r=.slice (some ⟨b,0,none⟩) 1 1/\B<=b/\W.heap[b]? =some (.cells #[.int .i64 (i:Nat)] 3 (0,0)),
 fun r W=>∃b d,r=.slice (some ⟨b,0,none⟩) 1 1/\B<=d/\W.heap[d]? =some (.cells #[.int .i64 (i:Nat)] 3 (0,0))/\W.heap[b]? =some (.cells #[.slice (some ⟨d,0,none⟩) 1 1] 23 (0,0)),
 fun r W=>PcR B i (p+1) (fun u=>vs.take p++[u]) r W,
 fun r _=>r=vS,
 fun r _=>r=.int .i64 (p:Nat),
 fun r _=>r=vP,
 fun r W=>PcR B i (n+1) (fun u=>vs.take p++[u]++vs.drop p) r W,
 fun r W=>PcR B i (n+1) (fun u=>vs.take p++[u]++vs.drop p) r W]
theorem Fg(B p i n:Nat)(vs:List Value)(O g k:Value)(W:World):Stab W (Mj B p i n vs O g k):=
 .eq<|.eq<|.cons (fun _ _ _ _ ⟨b,c,f,e⟩ a=>⟨b,c,f,j6 a e⟩)<|.cons (fun _ _ _ _ ⟨b,d,c,f,e,j⟩ a=>⟨b,d,c,f,j6 a e,j6 a j⟩)<|.cons (fun _ _ _ _ h a=>h.later a)<|.eq<|.eq<|.eq<|.cons (fun _ _ _ _ h a=>h.later a)<|.cons (fun _ _ _ _ h a=>h.later a)<|.nil
theorem Fh(B p i n:Nat)(vs:List Value)(O b a:Value):PureF (Mj B p i n vs O b a) [true,true,false,false,false,true,true,true,false,false]:=
 .eq<|.eq<|.any<|.any<|.any<|.eq<|.eq<|.eq<|.any<|.any<|.nil
theorem Cp:(Tryz.prog.info? 23).map (fun i=>(i.zero,i.size,i.bytes))=some (some (.slice none 0 0),1,24):=by kernel_rfl
theorem p5{W:World}{B n m c:Nat}{v:Value}{xs news:List Value}{A:Option Addr}(p:W.ownsRow B 23 1 v n xs)(d:A=none->m=0/\c=0)(b:∀a,A=some a->∀j u,news[j]? =some u->W.cell? (a.add j)=some u)(o:news.length=m)(l:∀u∈news,u.oneCell'=true/\bG u=true)(t:n+m<=1000000)(q:B<=W.heap.size)(r:∀g,v.ownBlock=some g->NoDigB W g):
  ∃v' W',(Builtin.append_ #[98,98] 98 #[v,.slice A m c]).run Tryz.prog W=.ok v' W'/\W'.ownsRow B 23 1 v' (n+m) (xs++news)/\W.grownBy W' v.ownBlock/\(v'.ownBlock=v.ownBlock\/v'.ownBlock=some W.heap.size)/\∀g,v'.ownBlock=some g->NoDigB W' g:=by
 obtain⟨s,k,e,h,f⟩:=info_parts Cp;exact lP (P:=Tryz.prog) W B 98 98 23 s (.slice none 0 0) 1 24 Tryz.underlying98 k e h f Z (by decide) v n xs p A m c news (by rw[o,Qc]) d b (fun u i=>(l u i).1) (by unfold maxLen;omega) (by omega) q (by decide) (OD.2 fun u i=>(l u i).2) r
end Go.Proofs.YtfoejfohbkmmeaaGreatDoor
