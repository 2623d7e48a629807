import Derived.Test.YtfoejfohbkmmeaaGreatDoorU36
import Derived.Test.YtfoejfohbkmmeaaGreatDoorU08
import Derived.Test.YtfoejfohbkmmeaaGreatDoorU00
set_option maxRecDepth 100000
set_option maxHeartbeats 4000000
namespace Go.Proofs.YtfoejfohbkmmeaaGreatDoor
open Go.RowKit
theorem Ce{S:St}{o:Oper}{op:BinOp}{f p:TypeId}{x y:Operand}(vs us:List Value){v:Value}(d:o.op=.binOp op f x y p)(k:S.ev x=.agg (vs.map .sc))(n:S.ev y=.agg (us.map .sc))(h:∀w,(do eqGuard op f x y (.agg vs.toArray) (.agg us.toArray);binOp op f (.agg vs.toArray) (.agg us.toArray):Sem Value).run Tryz.prog w=.ok v w):OpOK o S (.sc v):=by
 intro w0 G0 bx rv w T q i;have key:∀{E:En} {xs vs:List Value},FT E xs (vs.map .sc)->xs=vs:=by
  intro E xs vs h;induction vs generalizing xs with
  |nil=>cases h;rfl
  |cons a l ih=>
   cases xs with
   |nil=>cases h
   |cons b m=>
    have c:=h.head.isSc;rw[c,ih h.tail]
 obtain⟨xs,c,g⟩:=(bI i k (by rw[d];simp[Op.operands])).isAgg;obtain⟨r,j,e⟩:=(bI i n (by rw[d];simp[Op.operands])).isAgg;rw[key g]at c;rw[key e]at j;refine aq (v:=v) (W':=w) ?_ ⟨.pure (.sc _ .nil) .nil,Below.refl _ _⟩;simp only[execOp,d,c,j];rw[Sem.run_bind,h w];rfl
def V.eqB(a b:V):Bool:=a.t==b.t&&a.n==b.n&&a.s.toList==b.s.toList
def Col.eqB(a b:Col):Bool:=a.name.toList==b.name.toList&&a.ty==b.ty&&a.key==b.key
theorem FP{x y:Operand}(a b:Int)(s:ByteArray)(c d:Int)(u:ByteArray)(w:World):(do eqGuard .neq 77 x y (.agg #[.int .i64 a,.int .i64 b,.string s]) (.agg #[.int .i64 c,.int .i64 d,.string u]);binOp .neq 77 (.agg #[.int .i64 a,.int .i64 b,.string s]) (.agg #[.int .i64 c,.int .i64 d,.string u]):Sem Value).run Tryz.prog w=.ok (.bool (!(a==c&&b==d&&s.toList==u.toList))) w:=by
 go_simp;by_cases g:a=c<;>by_cases f:b=d<;>by_cases e:s.toList=u.toList<;>simp[g,f,e]
theorem FQ{x y:Operand}(a:ByteArray)(b:Int)(s:Bool)(c:ByteArray)(d:Int)(u:Bool)(w:World):(do eqGuard .neq 58 x y (.agg #[.string a,.int .i64 b,.bool s]) (.agg #[.string c,.int .i64 d,.bool u]);binOp .neq 58 (.agg #[.string a,.int .i64 b,.bool s]) (.agg #[.string c,.int .i64 d,.bool u]):Sem Value).run Tryz.prog w=.ok (.bool (!(a.toList==c.toList&&b==d&&s==u))) w:=by
 go_simp;by_cases g:a.toList=c.toList<;>by_cases f:b=d<;>by_cases e:s=u<;>simp[g,f,e]
def ip{α:Type}(f:α->α->Bool):List α->List α->Bool
 |[],[]=>true
 |a::l,b::m=>f a b&&ip f l m
 |_,_=>false
theorem s7{α:Type}{f:α->α->Bool}{l m:List α}{i:Nat}{a b:α}(d:l[i]? =some a)(g:m[i]? =some b):ip f (l.drop i) (m.drop i)=(f a b&&ip f (l.drop (i+1)) (m.drop (i+1))):=by
 obtain⟨c,rfl⟩:=L7.1 d;obtain⟨e,rfl⟩:=L7.1 g;rw[Md c,Md e,ip]
theorem wj{α:Type}{f:α->α->Bool}:∀{l m:List α},l.length≠m.length->ip f l m=false
 |[],[],h=>absurd Z h
 |[],_::_,_=>rfl
 |_::_,[],_=>rfl
 |a::l,b::m,h=>by rw[ip,wj (by simpa using h),PE]
theorem wk{α:Type}{f:α->α->Bool}{l m:List α}{i:Nat}(h:l.length=m.length)(a:¬i<l.length):ip f (l.drop i) (m.drop i)=true:=by
 rw[Mg (by omega),Mg (by omega)];rfl
theorem rg{α:Type}{f:α->α->Bool}(c:∀a b,f a b=true↔a=b):∀{l m:List α},ip f l m=true↔l=m
 |[],[]=>by simp[ip]
 |[],_::_=>by simp[ip]
 |_::_,[]=>by simp[ip]
 |a::l,b::m=>by rw[ip,Ma,c,rg c,Pv]
theorem pT{a b:ByteArray}(h:a.toList=b.toList):a=b:=by
 have:a.data.toList=b.data.toList:=by rw[<-Lib.toList_data,<-Lib.toList_data,h]
 apply PJ;exact Array.toList_inj.1 this
theorem Dw(a b:V):a.eqB b=true↔a=b:=by
 unfold V.eqB;simp only[Ma,beq_iff_eq];constructor
 ·rintro⟨⟨e,d⟩,c⟩;cases a;cases b;simp only at e d c;rw[e,d,pT c]
 rintro rfl;exact⟨⟨rfl,rfl⟩,rfl⟩
theorem yi(a b:Col):a.eqB b=true↔a=b:=by
 unfold Col.eqB;simp only[Ma,beq_iff_eq];constructor
 ·rintro⟨⟨e,d⟩,c⟩;cases a;cases b;simp only at e d c;rw[d,c,pT e]
 rintro rfl;exact⟨⟨rfl,rfl⟩,rfl⟩
def eM(a b:Sch):Bool:= !(((!(a.name.toList==b.name.toList))||(a.cert !=b.cert))||decide (a.cols.length≠b.cols.length))&&ip Col.eqB a.cols b.cols
def Tp.eqB(a b:Tp):Bool:=ip V.eqB a.vals b.vals&&decide (a.prob=b.prob)
def dA(a b:Rel):Bool:=eM a.sch b.sch&&ip Tp.eqB a.tups b.tups
theorem qt(a b:Rel):dA a b=true↔a=b:=by
 have i:∀{l m:List V},ip V.eqB l m=true↔l=m:=fun{l m}=>rg Dw
 have h:∀x y:Tp,x.eqB y=true↔x=y:=fun x y=>by
  unfold Tp.eqB;rw[Ma,i,decide_eq_true_eq];constructor
  ·rintro⟨c,d⟩;cases x;cases y;simp only at c d;rw[c,d]
  rintro rfl;exact⟨rfl,rfl⟩
 unfold dA eM;rw[Ma,rg h,Ma,rg yi];constructor
 ·rintro⟨⟨c,d⟩,f⟩;simp only[Nj,Mz,PH,beq_iff_eq,bne_eq_false_iff_eq]at c;obtain⟨⟨g,e⟩,_⟩:=c;obtain⟨⟨n,o,q⟩,j⟩:=a;obtain⟨⟨s,k,p⟩,r⟩:=b;simp only at d f g e;rw[d,f,e,pT g]
 rintro rfl;simp
theorem Cf(s:Sch)(vs:List V)(w:vs.length<=65536):Ct 164 [s.tree,.sl (vs.map V.tree)] (.sl ((aG s vs).map V.tree)):=by
 refine Ct.of (n:=33) Tryz.func164 Z Z Z Z Z fun w0 G0=>?_
 refine ab<|ae<|aa 1 Z<|af (t:=.sl []) Z Z Z (cW (.inr Z) dI)<|ag<|ab<|ab<|ae<|aa 1 Z<|af (t:=nI vs.length) Z Z Z (ah (bd Z bz Z) (by simp only[L8]))<|aa 2 Z<|af (t:=nI s.cols.length) Z Z Z (ah (bd Z bi Z) (by simp only[L8]))<|af (t:=bT (decide (vs.length≠s.cols.length))) Z Z Z (ah (ai Z Z Z Zy) (av (wD vs.length s.cols.length)))<|ag<|aF Z (fun d=>?_) (fun d=>?_)
 ·refine ab<|ae<|af (t:=.sl []) Z Z Z (cW (.inr Z) dI)<|ag<|aC<|⟨.inr Z,_,.cons Z .nil,Li (by unfold aG;rw[if_neg d]) (l:=[]),Z⟩
 have j:vs.length=s.cols.length:=NE.1 d;refine ax<|ab<|ae<|g7 (k:=0) (e:=77) (sz:=3) (rs':=[some ⟨77,3,[],false⟩]) (.inr Z) Z Z Z Z Z<|ag<|ab<|ab<|aj 1 Z<|aE<|aW (fun p u=>∃(i:Nat) (b:List V),(i<=vs.length/\b.length<=i/\b++dJ (s.cols.drop i) (vs.drop i)=dJ s.cols vs)/\p=vs.length-i/\u=⟨33,[(1,.sl (vs.map V.tree)),(2,.box 0 0),(5,.own 0),(6,nI i)],[(26,(dq s))],[some ⟨77,3,b.map V.tree,false⟩]⟩) 1 1 ⟨0,[],⟨by omega,by simp,Z⟩,Z,Z⟩ ⟨Z,Z,Z,.cons Z Z (.cons Z Z (.cons Z Z (.cons Z Z .nil))),Z⟩ ?_;rintro p u ⟨i,b,⟨x,r,a⟩,rfl,rfl⟩;refine ab<|ab<|ae<|aa 2 Z<|af (t:=nI vs.length) Z Z Z (ah (bd Z bz Z) (by simp only[L8]))<|af (t:=bT (decide (i<vs.length))) Z Z Z (ah (ai Z Z Z Zy) (av (iu i vs.length)))<|ag<|aF Z (fun h=>?_) (fun h=>?_)
 ·obtain⟨v,m⟩:∃v,vs[i]? =some v:=⟨_,L4 h⟩;obtain⟨c,o⟩:∃c,s.cols[i]? =some c:=⟨_,L4 (by omega)⟩;rw[qi o m]at a;refine ax<|ab<|aE<|ab<|ae<|aa 3 Z<|af (t:=.ref [sT c.name,iT c.ty,bT c.key]) Z Z Z (aQ (Col.tree c) Z bi Z Z Z (bf (f:=Col.tree) o) (ej _) Z)<|aa 2 Z<|ag<|aH Z (fun g=>?_) (fun g=>?_)
  ·rw[if_pos g]at a;refine ae<|aa 3 rfl<|af (t:=.ref [iT v.t,iT v.n,sT v.s]) rfl rfl rfl (aQ (V.tree v) rfl bz rfl rfl rfl (bf (f:=V.tree) m) (iZ _) rfl)<|aa 1 rfl<|af (t:=.sl [.agg [iT v.t,iT v.n,sT v.s]]) rfl rfl rfl (a6 rfl bz fM rfl (by decide) (by decide) rfl rfl rfl rfl rfl)<|cD (bs':=[(26,(dq s))]) (rs':=[some ⟨77,3,(b++[v]).map V.tree,false⟩]) rfl rfl rfl rfl ib rfl rfl rfl rfl (by intro e q;simp only[Mi,Nr,or_false]at q;subst q;rfl) (AllC.lit rfl) (AllC.lit rfl) (by simp only[L8,Mb,Mo];omega) rfl rfl rfl (by rw[Nk];rfl)<|aa 1 rfl<|ag<|ae<|aa 1 rfl<|af (t:=nI (i+1)) rfl rfl rfl (ah (ai rfl rfl rfl Zy) (bu (by omega)))<|aa 1 rfl<|ag<|⟨_,_,?_,⟨i+1,(b++[v]),?_,rfl,rfl⟩,⟨rfl,rfl,rfl,.cons rfl rfl (.cons rfl rfl (.cons rfl rfl (.cons rfl rfl .nil))),rfl⟩⟩
   ·omega
   exact⟨by omega,by first|omega|(simp only[Mc,Mb,Mo];omega),by first|exact a|(rw[<-a];simp)⟩
  rw[if_neg (by rw[g];exact MR)]at a;refine ax<|ae<|aa 1 Z<|af (t:=nI (i+1)) Z Z Z (ah (ai Z Z Z Zy) (bu (by omega)))<|aa 1 Z<|ag<|⟨_,_,?_,⟨i+1,b,?_,Z,Z⟩,⟨Z,Z,Z,.cons Z Z (.cons Z Z (.cons Z Z (.cons Z Z .nil))),Z⟩⟩
  ·omega
  exact⟨by omega,by first|omega|(simp only[Mc,Mb,Mo];omega),by first|exact a|(rw[<-a];simp)⟩
 refine fD 0 (bs':=[(26,(dq s))]) (rs':=[none]) Z Z Z Z<|aZ<|ab<|aj 2 Z<|aC<|⟨.inr Z,_,.cons Z .nil,Li (by unfold aG;rw[if_pos j,<-a,Mg (by omega)];simp[dJ]),Z⟩
theorem Aw(s:Sch)(p:s.cols.length<=65536):Ct 163 [s.tree] (bT (dL s.cols)):=by
 refine Ct.of (n:=17) Tryz.func163 Z Z Z Z Z fun w0 G0=>?_
 refine ab<|aj 2 Z<|ab<|ab<|aj 1 Z<|aE<|aW (fun l m=>∃(i:Nat),(i<=s.cols.length/\∀(k:Nat) (c:Col),k<i->s.cols[k]? =some c->c.key=false)/\l=s.cols.length-i/\m=⟨17,[(1,.box 0 0),(3,nI i)],[(26,(dq s))],[]⟩) 1 0 ⟨0,⟨by omega,fun k c h=>by omega⟩,Z,Z⟩ ⟨Z,Z,Z,.cons Z Z (.cons Z Z .nil),Z⟩ ?_;rintro l m ⟨i,⟨q,a⟩,rfl,rfl⟩;refine ab<|ab<|ae<|aa 3 Z<|af (t:=nI s.cols.length) Z Z Z (ah (bd Z bi Z) (by simp only[L8]))<|af (t:=bT (decide (i<s.cols.length))) Z Z Z (ah (ai Z Z Z Zy) (av (iu i s.cols.length)))<|ag<|aF Z (fun e=>?_) (fun e=>?_)
 ·obtain⟨c,d⟩:∃c,s.cols[i]? =some c:=⟨_,L4 e⟩;refine ax<|ab<|aE<|ab<|ae<|aa 3 Z<|af (t:=.ref [sT c.name,iT c.ty,bT c.key]) Z Z Z (aQ (Col.tree c) Z bi Z Z Z (bf (f:=Col.tree) d) (ej _) Z)<|aa 2 Z<|ag<|aH Z (fun b=>?_) (fun b=>?_)
  ·refine ab<|aj 1 Z<|aC<|⟨.inr Z,_,.cons Z .nil,av (OI.2 ⟨c,L9 d,b⟩).symm,Z⟩
  refine ax<|ae<|aa 1 Z<|af (t:=nI (i+1)) Z Z Z (ah (ai Z Z Z Zy) (bu (by omega)))<|aa 1 Z<|ag<|⟨_,_,?_,⟨i+1,?_,Z,Z⟩,⟨Z,Z,Z,.cons Z Z (.cons Z Z .nil),Z⟩⟩
  ·omega
  refine⟨by omega,fun k x h g=>?_⟩;rcases MI k i with j|j
  ·exact a k x j g
  obtain rfl:k=i:=by omega
  rw[d]at g;cases g;exact b
 refine aZ<|ab<|aj 1 rfl<|aC<|⟨.inr rfl,_,.cons rfl .nil,av (by unfold dL;rw[eq_comm,N4];intro x g;obtain⟨k,o,rfl⟩:=Nb g;rw[a k _ (by omega) (L4 o)];simp),rfl⟩
theorem FR(r:Rel)(vs:List V)(k:vs.length<=65536)(m:r.tups.length<=65536)(g:∀t∈r.tups,t.vals.length<=65536):Ct 92 [r.tree,.sl (vs.map V.tree)] (ur (gU vs r.tups 0)):=by
 refine Ct.of (n:=24) Tryz.func92 Z Z Z Z Z fun w0 G0=>?_
 refine ab<|aj 3 Z<|ab<|ab<|aj 1 Z<|aE<|aW (fun h j=>∃(i:Nat),(i<=r.tups.length/\gU vs (r.tups.drop i) i=gU vs r.tups 0)/\h=r.tups.length-i/\j=⟨24,[(1,.sl (vs.map V.tree)),(2,.box 0 0),(6,nI i)],[(30,(aT r))],[]⟩) 1 0 ⟨0,⟨by omega,Z⟩,Z,Z⟩ ⟨Z,Z,Z,.cons Z Z (.cons Z Z (.cons Z Z .nil)),Z⟩ ?_;rintro h j ⟨i,⟨l,a⟩,rfl,rfl⟩;refine ab<|ab<|ae<|aa 3 Z<|af (t:=nI r.tups.length) Z Z Z (ah (bd Z aK Z) (by simp only[L8]))<|af (t:=bT (decide (i<r.tups.length))) Z Z Z (ah (ai Z Z Z Zy) (av (iu i r.tups.length)))<|ag<|aF Z (fun d=>?_) (fun d=>?_)
 ·obtain⟨t,c⟩:∃t,r.tups[i]? =some t:=⟨_,L4 d⟩;have e:=g t (L9 c);rw[sx c]at a;refine ax<|ab<|aE<|ab<|ae<|aa 3 Z<|af (t:=.ref (bS t)) Z Z Z (aQ (Tp.tree t) Z aK Z Z Z (bf (f:=Tp.tree) c) (bQ _) Z)<|aa 3 Z<|af Z Z Z (ar Z (ly _ _ e k) Z Z)<|af (t:=bT ((aO t.vals vs)==0)) Z Z Z (ai Z Z Z Zy)<|ag<|aH Z (fun b=>?_) (fun b=>?_)
  ·refine ab<|aj 3 Z<|aC<|⟨.inr Z,_,.cons Z (.cons Z .nil),by unfold ur;rw[<-a,if_pos (by simpa using b)];rfl,Z⟩
  refine ax<|ae<|aa 1 Z<|af (t:=nI (i+1)) Z Z Z (ah (ai Z Z Z Zy) (bu (by omega)))<|aa 1 Z<|ag<|⟨_,_,?_,⟨i+1,?_,Z,Z⟩,⟨Z,Z,Z,.cons Z Z (.cons Z Z (.cons Z Z .nil)),Z⟩⟩
  ·omega
  exact⟨by omega,by rw[<-a,if_neg (by simpa using b)]⟩
 refine aZ<|ab<|aj 2 Z<|aC<|⟨.inr Z,_,.cons Z (.cons Z .nil),by unfold ur;rw[<-a,Mg (by omega)];rfl,Z⟩
theorem H4(r:Rel)(a:List Nat)(h:∀i∈a,i<r.tups.length)(o:a.length<=65536)(g:∀t∈r.tups,Fit 262144 t.prob)(e:∀j,j<=a.length->Fit 262144 (dR r.tups (a.take j))):Ct 97 [r.tree,.sl (a.map fw)] (dp (dR r.tups a)):=by
 refine Ct.of (n:=26) Tryz.func97 Z Z Z Z Z fun w0 G0=>?_
 refine ab<|aj 2 Z<|ab<|ae<|af Z Z Z (ar Z (rf 0 (by decide)) Z Z)<|aa 2 Z<|ag<|ab<|ab<|aj 1 Z<|aE<|aW (fun l m=>∃(j:Nat),(j<=a.length)/\l=a.length-j/\m=⟨26,[(1,.sl (a.map fw)),(2,.box 0 0),(4,.box 1 0),(5,.box 2 0),(6,nI j)],[(30,(aT r)),(65,[bT false,.sl [],.sl []]),(65,[bT (decide ((dR r.tups (a.take j)).num<0)),aM ((dR r.tups (a.take j)).num.natAbs),aM ((dR r.tups (a.take j)).den)])],[]⟩) 3 0 ⟨0,Mx _,Z,Z⟩ ⟨Z,Z,Z,.cons Z Z (.cons Z Z (.cons Z Z (.cons Z Z (.cons Z Z .nil)))),Z⟩ ?_;rintro l m ⟨j,p,rfl,rfl⟩;refine ab<|ab<|ae<|aa 2 Z<|af (t:=nI a.length) Z Z Z (ah (bd Z cz Z) (by simp only[L8]))<|af (t:=bT (decide (j<a.length))) Z Z Z (ah (ai Z Z Z Zy) (av (iu j a.length)))<|ag<|aF Z (fun d=>?_) (fun d=>?_)
 ·obtain⟨i,b⟩:∃i,a[j]? =some i:=⟨_,L4 d⟩;have k:=h i (L9 b);obtain⟨t,c⟩:∃t,r.tups[i]? =some t:=⟨_,L4 k⟩;refine ax<|ab<|aE<|dH (ops:=[_,_,_,_,_,_,_,_,_,_,_]) (fu:=12) (bs':=[(30,(aT r)),(65,[bT false,.sl [],.sl []]),(65,[bT (decide ((dR r.tups (a.take (j+1))).num<0)),aM ((dR r.tups (a.take (j+1))).num.natAbs),aM ((dR r.tups (a.take (j+1))).den)])]) [some 14,some 15,some 16,some 17,some 18,some 19,some 20,some 21,some 22,some 23,some 24] [.agg [bT (decide ((dR r.tups (a.take j)).num<0)),aM ((dR r.tups (a.take j)).num.natAbs),aM ((dR r.tups (a.take j)).den)],.box 0 3,.sl (r.tups.map Tp.tree),.sl (a.map fw),nI j,.ref [nI i],nI i,.ref (bS t),.ref (aU t.prob),.agg (aU t.prob),.agg [bT (decide ((dR r.tups (a.take (j+1))).num<0)),aM ((dR r.tups (a.take (j+1))).num.natAbs),aM ((dR r.tups (a.take (j+1))).den)]] (by kernel_rfl) Z Z Z Z Z (by kernel_rfl) (by kernel_rfl) Z Z Z Z Z Z Z Z fm Z Z Z ?_ ?_
  ·refine Chain.op Z (aJ Z Z Z aN Z Z)<|Chain.op Z (az Z Z aV Z)<|Chain.op Z (aD Z Z Z bp Z)<|Chain.op Z (aw Z Z)<|Chain.op Z (aw Z Z)<|Chain.op Z (aQ (fw i) Z cz Z Z Z (bf (f:=fw) b) (qg _) Z)<|Chain.op Z (bE Z Z fe Z)<|Chain.op Z (aQ (Tp.tree t) Z aK Z Z Z (bf (f:=Tp.tree) c) (bQ _) Z)<|Chain.op Z (bw Z Z dY Z)<|Chain.op Z (cU Z Z aN Z Z)<|Chain.op Z (ar Z (by rw[um b c];exact ye _ _ (e j (by omega)) (g t (L9 c))) Z Z)<|Chain.nil
  refine ae<|aa 1 Z<|af (t:=nI (j+1)) Z Z Z (ah (ai Z Z Z Zy) (bu (by omega)))<|aa 1 Z<|ag<|⟨_,_,?_,⟨j+1,?_,Z,Z⟩,⟨Z,Z,Z,.cons Z Z (.cons Z Z (.cons Z Z (.cons Z Z (.cons Z Z .nil)))),Z⟩⟩
  ·omega
  omega
 refine aZ<|ab<|aj 2 Z<|aC<|⟨.inr Z,_,.cons ⟨_,_,_,_,Z,Z,.inl ⟨_,aN,Z,Z⟩⟩ .nil,xK (by rw[Me (by omega)]),Z⟩
theorem FSq(l m:List V)(o:l.length<=65536)(q:m.length<=65536):Ct 44 [.sl (l.map V.tree),.sl (m.map V.tree)] (bT (ip V.eqB l m)):=by
 refine Ct.of (n:=26) Tryz.func44 Z Z Z Z Z fun w0 G0=>?_
 refine ab<|aj 1 Z<|ab<|ab<|ae<|aa 1 Z<|af (t:=nI l.length) Z Z Z (ah (bd Z bz Z) (by simp only[L8]))<|aa 1 Z<|af (t:=nI m.length) Z Z Z (ah (bd Z bz Z) (by simp only[L8]))<|af (t:=bT (decide (l.length≠m.length))) Z Z Z (ah (ai Z Z Z Zy) (av (wD l.length m.length)))<|ag<|aF Z (fun b=>?_) (fun b=>?_)
 ·refine ab<|aj 1 Z<|aC<|⟨.inr Z,_,.cons Z .nil,av (wj b).symm,Z⟩
 have e:l.length=m.length:=NE.1 b;refine ax<|ab<|ab<|aj 1 Z<|aE<|aW (fun j k=>∃(i:Nat),(i<=l.length/\ip V.eqB (l.drop i) (m.drop i)=ip V.eqB l m)/\j=l.length-i/\k=⟨26,[(0,.sl (l.map V.tree)),(1,.sl (m.map V.tree)),(5,nI i)],[],[]⟩) 0 0 ⟨0,⟨by omega,Z⟩,Z,Z⟩ ⟨Z,Z,Z,.cons Z Z (.cons Z Z (.cons Z Z .nil)),Z⟩ ?_;rintro j k ⟨i,⟨p,a⟩,rfl,rfl⟩;refine ab<|ab<|ae<|aa 2 Z<|af (t:=nI l.length) Z Z Z (ah (bd Z bz Z) (by simp only[L8]))<|af (t:=bT (decide (i<l.length))) Z Z Z (ah (ai Z Z Z Zy) (av (iu i l.length)))<|ag<|aF Z (fun c=>?_) (fun c=>?_)
 ·obtain⟨x,h⟩:∃x,l[i]? =some x:=⟨_,L4 c⟩;obtain⟨y,g⟩:∃x,m[i]? =some x:=⟨_,L4 (by omega)⟩;rw[s7 h g]at a;refine ax<|ab<|aE<|ab<|ci (fu:=9) [some 17,some 18,some 19,some 20,some 21,some 22,some 23,some 24,some 25] [.sl (l.map V.tree),nI i,.ref [iT x.t,iT x.n,sT x.s],.agg [iT x.t,iT x.n,sT x.s],.sl (m.map V.tree),nI i,.ref [iT y.t,iT y.n,sT y.s],.agg [iT y.t,iT y.n,sT y.s],bT (!(V.eqB x y))] (by kernel_rfl) Z Z (by kernel_rfl) Z ?_ ?_
  ·refine Chain.op Z (aw Z Z)<|Chain.op Z (aw Z Z)<|Chain.op Z (aQ (V.tree x) Z bz Z Z Z (bf (f:=V.tree) h) (iZ _) Z)<|Chain.op Z (cU Z Z ll Z Z)<|Chain.op Z (aw Z Z)<|Chain.op Z (aw Z Z)<|Chain.op Z (aQ (V.tree y) Z bz Z Z Z (bf (f:=V.tree) g) (iZ _) Z)<|Chain.op Z (cU Z Z ll Z Z)<|Chain.op Z (Ce [.int .i64 x.t,.int .i64 x.n,.string x.s] [.int .i64 y.t,.int .i64 y.n,.string y.s] Z Z Z (fun w=>FP _ _ _ _ _ _ w))<|Chain.nil
  refine aH Z (fun d=>?_) (fun d=>?_)
  ·refine ab<|aj 1 Z<|aC<|⟨.inr Z,_,.cons Z .nil,av (by rw[<-a,show V.eqB x y=false by simpa using d];rfl),Z⟩
  refine ax<|ae<|aa 1 Z<|af (t:=nI (i+1)) Z Z Z (ah (ai Z Z Z Zy) (bu (by omega)))<|aa 1 Z<|ag<|⟨_,_,?_,⟨i+1,?_,Z,Z⟩,⟨Z,Z,Z,.cons Z Z (.cons Z Z (.cons Z Z .nil)),Z⟩⟩
  ·omega
  exact⟨by omega,by rw[<-a,show V.eqB x y=true by simpa using d,OC]⟩
 refine aZ<|ab<|aj 1 Z<|aC<|⟨.inr Z,_,.cons Z .nil,av (by rw[<-a,wk e c]),Z⟩
theorem FU(a b:Sch)(r:a.cols.length<=65536)(u:b.cols.length<=65536):Ct 43 [a.tree,b.tree] (bT (eM a b)):=by
 refine Ct.of (n:=45) Tryz.func43 Z Z Z Z Z fun w0 G0=>?_
 refine ab<|aj 3 Z<|ab<|ab<|ae<|aa 4 Z<|af (t:=bT (!(a.name.toList==b.name.toList))) Z Z Z (ai Z Z Z Zy)<|aa 1 Z<|aA (t:=.box 0 1) ((!(a.name.toList==b.name.toList))=false) Z Z Z au Z Z (fun c=>az Z Z fU Z)<|aA (t:=bT a.cert) ((!(a.name.toList==b.name.toList))=false) Z Z Z au Z Z (fun c=>aD Z (if_pos c) Z fW Z)<|aA (t:=.box 1 1) ((!(a.name.toList==b.name.toList))=false) Z Z Z au Z Z (fun c=>az Z Z fU Z)<|aA (t:=bT b.cert) ((!(a.name.toList==b.name.toList))=false) Z Z Z au Z Z (fun c=>aD Z (if_pos c) Z fW Z)<|aA (t:=bT (a.cert !=b.cert)) ((!(a.name.toList==b.name.toList))=false) Z Z Z au Z Z (fun c=>ai Z (if_pos c) (if_pos c) (fun _=>rfl))<|af (t:=bT ((!(a.name.toList==b.name.toList))||(a.cert !=b.cert))) Z Z Z (aL Z Z (fun g=>(av (by rw[g];rfl))) (fun g=>(if_pos g).trans (av (by rw[g];rfl))))<|aa 1 Z<|aA (t:=.box 0 2) (((!(a.name.toList==b.name.toList))||(a.cert !=b.cert))=false) Z Z Z au Z Z (fun c=>az Z Z dt Z)<|aA (t:=.sl (a.cols.map Col.tree)) (((!(a.name.toList==b.name.toList))||(a.cert !=b.cert))=false) Z Z Z au Z Z (fun c=>aD Z (if_pos c) Z ew Z)<|aA (t:=nI a.cols.length) (((!(a.name.toList==b.name.toList))||(a.cert !=b.cert))=false) Z Z Z au Z Z (fun c=>ah (bd Z bi (if_pos c)) (by simp only[L8]))<|aA (t:=.box 1 2) (((!(a.name.toList==b.name.toList))||(a.cert !=b.cert))=false) Z Z Z au Z Z (fun c=>az Z Z dt Z)<|aA (t:=.sl (b.cols.map Col.tree)) (((!(a.name.toList==b.name.toList))||(a.cert !=b.cert))=false) Z Z Z au Z Z (fun c=>aD Z (if_pos c) Z ew Z)<|aA (t:=nI b.cols.length) (((!(a.name.toList==b.name.toList))||(a.cert !=b.cert))=false) Z Z Z au Z Z (fun c=>ah (bd Z bi (if_pos c)) (by simp only[L8]))<|aA (t:=bT (decide (a.cols.length≠b.cols.length))) (((!(a.name.toList==b.name.toList))||(a.cert !=b.cert))=false) Z Z Z au Z Z (fun c=>ah (ai Z (if_pos c) (if_pos c) (fun _=>rfl)) (av (wD a.cols.length b.cols.length)))<|af (t:=bT (((!(a.name.toList==b.name.toList))||(a.cert !=b.cert))||(decide (a.cols.length≠b.cols.length)))) Z Z Z (aL Z Z (fun g=>(av (by rw[g];rfl))) (fun g=>(if_pos g).trans (av (by rw[g];rfl))))<|ag<|aH Z (fun e=>?_) (fun e=>?_)
 ·refine ab<|aj 1 Z<|aC<|⟨.inr Z,_,.cons Z .nil,av (by unfold eM;rw[e];rfl),Z⟩
 have k:a.cols.length=b.cols.length:=by have q:=(Mz.1 e).2;simpa using q
 refine ax<|ab<|ab<|aj 1 Z<|aE<|aW (fun o p=>∃(i:Nat),(i<=a.cols.length/\ip Col.eqB (a.cols.drop i) (b.cols.drop i)=ip Col.eqB a.cols b.cols)/\o=a.cols.length-i/\p=⟨45,[(2,.box 0 0),(3,.box 1 0),(5,nI i)],[(26,(dq a)),(26,(dq b))],[]⟩) 2 0 ⟨0,⟨by omega,Z⟩,Z,Z⟩ ⟨Z,Z,Z,.cons Z Z (.cons Z Z (.cons Z Z .nil)),Z⟩ ?_;rintro o p ⟨i,⟨s,d⟩,rfl,rfl⟩;refine ab<|ab<|ae<|aa 3 Z<|af (t:=nI a.cols.length) Z Z Z (ah (bd Z bi Z) (by simp only[L8]))<|af (t:=bT (decide (i<a.cols.length))) Z Z Z (ah (ai Z Z Z Zy) (av (iu i a.cols.length)))<|ag<|aF Z (fun h=>?_) (fun h=>?_)
 ·obtain⟨x,m⟩:∃x,a.cols[i]? =some x:=⟨_,L4 h⟩;obtain⟨y,l⟩:∃x,b.cols[i]? =some x:=⟨_,L4 (by omega)⟩;rw[s7 m l]at d;refine ax<|ab<|aE<|ab<|ci (fu:=11) [some 34,some 35,some 36,some 37,some 38,some 39,some 40,some 41,some 42,some 43,some 44] [.box 0 2,.sl (a.cols.map Col.tree),nI i,.ref [sT x.name,iT x.ty,bT x.key],.agg [sT x.name,iT x.ty,bT x.key],.box 1 2,.sl (b.cols.map Col.tree),nI i,.ref [sT y.name,iT y.ty,bT y.key],.agg [sT y.name,iT y.ty,bT y.key],bT (!(Col.eqB x y))] (by kernel_rfl) Z Z (by kernel_rfl) Z ?_ ?_
  ·refine Chain.op Z (az Z Z dt Z)<|Chain.op Z (aD Z Z Z ew Z)<|Chain.op Z (aw Z Z)<|Chain.op Z (aQ (Col.tree x) Z bi Z Z Z (bf (f:=Col.tree) m) (ej _) Z)<|Chain.op Z (cU Z Z sr Z Z)<|Chain.op Z (az Z Z dt Z)<|Chain.op Z (aD Z Z Z ew Z)<|Chain.op Z (aw Z Z)<|Chain.op Z (aQ (Col.tree y) Z bi Z Z Z (bf (f:=Col.tree) l) (ej _) Z)<|Chain.op Z (cU Z Z sr Z Z)<|Chain.op Z (Ce [.string x.name,.int .i64 x.ty,.bool x.key] [.string y.name,.int .i64 y.ty,.bool y.key] Z Z Z (fun w=>FQ _ _ _ _ _ _ w))<|Chain.nil
  refine aH Z (fun j=>?_) (fun j=>?_)
  ·refine ab<|aj 1 Z<|aC<|⟨.inr Z,_,.cons Z .nil,av (by unfold eM;rw[e,<-d,show Col.eqB x y=false by simpa using j];rfl),Z⟩
  refine ax<|ae<|aa 1 Z<|af (t:=nI (i+1)) Z Z Z (ah (ai Z Z Z Zy) (bu (by omega)))<|aa 1 Z<|ag<|⟨_,_,?_,⟨i+1,?_,Z,Z⟩,⟨Z,Z,Z,.cons Z Z (.cons Z Z (.cons Z Z .nil)),Z⟩⟩
  ·omega
  exact⟨by omega,by rw[<-d,show Col.eqB x y=true by simpa using j,OC]⟩
 refine aZ<|ab<|aj 1 Z<|aC<|⟨.inr Z,_,.cons Z .nil,av (by unfold eM;rw[e,<-d,wk k h];rfl),Z⟩
theorem Cg(a b:Rel)(r:FitR a)(s:FitR b):Ct 14 [a.tree,b.tree] (bT (dA a b)):=by
 have z:=r.tups;have A:=s.tups;refine Ct.of (n:=58) Tryz.func14 Z Z Z Z Z fun w0 G0=>?_
 refine ab<|aj 3 Z<|ab<|ab<|ae<|aa 4 Z<|af Z Z Z (ar Z (FU _ _ r.cols s.cols) Z Z)<|af (t:=bT (!(eM a.sch b.sch))) Z Z Z (ef Z Z Zy)<|aa 1 Z<|aA (t:=.box 0 3) ((!(eM a.sch b.sch))=false) Z Z Z au Z Z (fun c=>az Z Z aV Z)<|aA (t:=.sl (a.tups.map Tp.tree)) ((!(eM a.sch b.sch))=false) Z Z Z au Z Z (fun c=>aD Z (if_pos c) Z bp Z)<|aA (t:=nI a.tups.length) ((!(eM a.sch b.sch))=false) Z Z Z au Z Z (fun c=>ah (bd Z aK (if_pos c)) (by simp only[L8]))<|aA (t:=.box 1 3) ((!(eM a.sch b.sch))=false) Z Z Z au Z Z (fun c=>az Z Z aV Z)<|aA (t:=.sl (b.tups.map Tp.tree)) ((!(eM a.sch b.sch))=false) Z Z Z au Z Z (fun c=>aD Z (if_pos c) Z bp Z)<|aA (t:=nI b.tups.length) ((!(eM a.sch b.sch))=false) Z Z Z au Z Z (fun c=>ah (bd Z aK (if_pos c)) (by simp only[L8]))<|aA (t:=bT (decide (a.tups.length≠b.tups.length))) ((!(eM a.sch b.sch))=false) Z Z Z au Z Z (fun c=>ah (ai Z (if_pos c) (if_pos c) (fun _=>rfl)) (av (wD a.tups.length b.tups.length)))<|af (t:=bT ((!(eM a.sch b.sch))||(decide (a.tups.length≠b.tups.length)))) Z Z Z (aL Z Z (fun k=>(av (by rw[k];rfl))) (fun k=>(if_pos k).trans (av (by rw[k];rfl))))<|ag<|aH Z (fun l=>?_) (fun l=>?_)
 ·refine ab<|aj 1 rfl<|aC<|⟨.inr rfl,_,.cons rfl .nil,av (by unfold dA;rcases Qo.1 l with h|h;rw[show eM a.sch b.sch=false by simpa using h];rfl;rw[wj (by simpa using h),PE]),rfl⟩
 have q:a.tups.length=b.tups.length:=by have u:=(Mz.1 l).2;simpa using u
 have o:eM a.sch b.sch=true:=by have u:=(Mz.1 l).1;simpa using u
 refine ax<|ab<|ab<|aj 1 Z<|aE<|aW (fun v w=>∃(i:Nat),(i<=a.tups.length/\ip Tp.eqB (a.tups.drop i) (b.tups.drop i)=ip Tp.eqB a.tups b.tups)/\v=a.tups.length-i/\w=⟨58,[(2,.box 0 0),(3,.box 1 0),(5,nI i)],[(30,(aT a)),(30,(aT b))],[]⟩) 2 0 ⟨0,⟨by omega,Z⟩,Z,Z⟩ ⟨Z,Z,Z,.cons Z Z (.cons Z Z (.cons Z Z .nil)),Z⟩ ?_;rintro v w ⟨i,⟨B,d⟩,rfl,rfl⟩;refine ab<|ab<|ae<|aa 3 Z<|af (t:=nI a.tups.length) Z Z Z (ah (bd Z aK Z) (by simp only[L8]))<|af (t:=bT (decide (i<a.tups.length))) Z Z Z (ah (ai Z Z Z Zy) (av (iu i a.tups.length)))<|ag<|aF Z (fun m=>?_) (fun m=>?_)
 ·obtain⟨x,j⟩:∃x,a.tups[i]? =some x:=⟨_,L4 m⟩;obtain⟨y,g⟩:∃x,b.tups[i]? =some x:=⟨_,L4 (by omega)⟩;rw[s7 j g]at d;refine ax<|ab<|aE<|ab<|ci (fu:=30) [some 28,some 29,some 30,some 31,some 32,some 33,some 34,some 35,some 36,some 37,some 38,some 39,some 40,some 41,some 42,some 43,some 44,some 45,some 46,some 47,some 48,some 49,some 50,some 51,some 52,some 53,some 54,some 55,some 56,some 57] [.box 0 3,.sl (a.tups.map Tp.tree),nI i,.ref (bS x),.ref (bS x),.sl (x.vals.map V.tree),.box 1 3,.sl (b.tups.map Tp.tree),nI i,.ref (bS y),.ref (bS y),.sl (y.vals.map V.tree),bT (ip V.eqB x.vals y.vals),bT (!(ip V.eqB x.vals y.vals)),bT (!(ip V.eqB x.vals y.vals)),if(!(ip V.eqB x.vals y.vals))=false then(.box 0 3:Tree)else .sc undef,if(!(ip V.eqB x.vals y.vals))=false then(.sl (a.tups.map Tp.tree):Tree)else .sc undef,if(!(ip V.eqB x.vals y.vals))=false then(nI i:Tree)else .sc undef,if(!(ip V.eqB x.vals y.vals))=false then(.ref (bS x):Tree)else .sc undef,if(!(ip V.eqB x.vals y.vals))=false then(.ref (aU x.prob):Tree)else .sc undef,if(!(ip V.eqB x.vals y.vals))=false then(.agg (aU x.prob):Tree)else .sc undef,if(!(ip V.eqB x.vals y.vals))=false then(.box 1 3:Tree)else .sc undef,if(!(ip V.eqB x.vals y.vals))=false then(.sl (b.tups.map Tp.tree):Tree)else .sc undef,if(!(ip V.eqB x.vals y.vals))=false then(nI i:Tree)else .sc undef,if(!(ip V.eqB x.vals y.vals))=false then(.ref (bS y):Tree)else .sc undef,if(!(ip V.eqB x.vals y.vals))=false then(.ref (aU y.prob):Tree)else .sc undef,if(!(ip V.eqB x.vals y.vals))=false then(.agg (aU y.prob):Tree)else .sc undef,if(!(ip V.eqB x.vals y.vals))=false then(bT (decide (x.prob=y.prob)):Tree)else .sc undef,if(!(ip V.eqB x.vals y.vals))=false then(bT (!(decide (x.prob=y.prob))):Tree)else .sc undef,bT ((!(ip V.eqB x.vals y.vals))||(!(decide (x.prob=y.prob))))] (by kernel_rfl) Z Z (by kernel_rfl) Z ?_ ?_
  ·refine Chain.op Z (az Z Z aV Z)<|Chain.op Z (aD Z Z Z bp Z)<|Chain.op Z (aw Z Z)<|Chain.op Z (aQ (Tp.tree x) Z aK Z Z Z (bf (f:=Tp.tree) j) (bQ _) Z)<|Chain.op Z (bw Z Z b6 Z)<|Chain.op Z (bE Z Z cC Z)<|Chain.op Z (az Z Z aV Z)<|Chain.op Z (aD Z Z Z bp Z)<|Chain.op Z (aw Z Z)<|Chain.op Z (aQ (Tp.tree y) Z aK Z Z Z (bf (f:=Tp.tree) g) (bQ _) Z)<|Chain.op Z (bw Z Z b6 Z)<|Chain.op Z (bE Z Z cC Z)<|Chain.op Z (ar Z (FSq _ _ (r.tup x (L9 j)).2 (s.tup y (L9 g)).2) Z Z)<|Chain.op Z (ef Z Z Zy)<|Chain.op Z (aw Z Z)<|Chain.cnd (t:=.box 0 3) 14 false 42 ((!(ip V.eqB x.vals y.vals))=false) Z (by kernel_rfl) au (fun c=>az Z Z aV Z)<|Chain.cnd (t:=.sl (a.tups.map Tp.tree)) 14 false 42 ((!(ip V.eqB x.vals y.vals))=false) Z (by kernel_rfl) au (fun c=>aD Z (if_pos c) Z bp Z)<|Chain.cnd (t:=nI i) 14 false 42 ((!(ip V.eqB x.vals y.vals))=false) Z (by kernel_rfl) au (fun c=>aw Z Z)<|Chain.cnd (t:=.ref (bS x)) 14 false 42 ((!(ip V.eqB x.vals y.vals))=false) Z (by kernel_rfl) au (fun c=>aQ (Tp.tree x) Z aK (if_pos c) (if_pos c) Z (bf (f:=Tp.tree) j) (bQ _) Z)<|Chain.cnd (t:=.ref (aU x.prob)) 14 false 42 ((!(ip V.eqB x.vals y.vals))=false) Z (by kernel_rfl) au (fun c=>bw Z (if_pos c) dY Z)<|Chain.cnd (t:=.agg (aU x.prob)) 14 false 42 ((!(ip V.eqB x.vals y.vals))=false) Z (by kernel_rfl) au (fun c=>cU Z (if_pos c) aN Z Z)<|Chain.cnd (t:=.box 1 3) 14 false 42 ((!(ip V.eqB x.vals y.vals))=false) Z (by kernel_rfl) au (fun c=>az Z Z aV Z)<|Chain.cnd (t:=.sl (b.tups.map Tp.tree)) 14 false 42 ((!(ip V.eqB x.vals y.vals))=false) Z (by kernel_rfl) au (fun c=>aD Z (if_pos c) Z bp Z)<|Chain.cnd (t:=nI i) 14 false 42 ((!(ip V.eqB x.vals y.vals))=false) Z (by kernel_rfl) au (fun c=>aw Z Z)<|Chain.cnd (t:=.ref (bS y)) 14 false 42 ((!(ip V.eqB x.vals y.vals))=false) Z (by kernel_rfl) au (fun c=>aQ (Tp.tree y) Z aK (if_pos c) (if_pos c) Z (bf (f:=Tp.tree) g) (bQ _) Z)<|Chain.cnd (t:=.ref (aU y.prob)) 14 false 42 ((!(ip V.eqB x.vals y.vals))=false) Z (by kernel_rfl) au (fun c=>bw Z (if_pos c) dY Z)<|Chain.cnd (t:=.agg (aU y.prob)) 14 false 42 ((!(ip V.eqB x.vals y.vals))=false) Z (by kernel_rfl) au (fun c=>cU Z (if_pos c) aN Z Z)<|Chain.cnd (t:=bT (decide (x.prob=y.prob))) 14 false 42 ((!(ip V.eqB x.vals y.vals))=false) Z (by kernel_rfl) au (fun c=>ar Z (Du _ _ ((r.tup x (L9 j)).1.p.mono (by decide)) ((s.tup y (L9 g)).1.p.mono (by decide))) (eU (if_pos c) (eU (if_pos c) Z)) Z)<|Chain.cnd (t:=bT (!(decide (x.prob=y.prob)))) 14 false 42 ((!(ip V.eqB x.vals y.vals))=false) Z (by kernel_rfl) au (fun c=>ef Z (if_pos c) (fun _=>rfl))<|Chain.op Z (aL Z Z (fun k=>(av (by rw[k];rfl))) (fun k=>(if_pos k).trans (av (by rw[k];rfl))))<|Chain.nil
  refine aH Z (fun e=>?_) (fun e=>?_)
  ·refine ab<|aj 1 Z<|aC<|⟨.inr Z,_,.cons Z .nil,av (by unfold dA;rw[<-d,show Tp.eqB x y=false by unfold Tp.eqB;simp only[M5,Nj]at e;rw[N8];exact e];simp),Z⟩
  refine ax<|ae<|aa 1 Z<|af (t:=nI (i+1)) Z Z Z (ah (ai Z Z Z Zy) (bu (by omega)))<|aa 1 Z<|ag<|⟨_,_,?_,⟨i+1,?_,Z,Z⟩,⟨Z,Z,Z,.cons Z Z (.cons Z Z (.cons Z Z .nil)),Z⟩⟩
  ·omega
  refine⟨by omega,?_⟩;rw[<-d,show Tp.eqB x y=true by unfold Tp.eqB;simp only[Mz,PH]at e;rw[Ma];exact e,OC]
 refine aZ<|ab<|aj 1 Z<|aC<|⟨.inr Z,_,.cons Z .nil,av (by unfold dA;rw[o,<-d,wk q m];rfl),Z⟩
end Go.Proofs.YtfoejfohbkmmeaaGreatDoor
