import Derived.Test.YtfoejfohbkmmeaaGreatDoorQ32
import Derived.Test.YtfoejfohbkmmeaaGreatDoorQ07
import Derived.Test.YtfoejfohbkmmeaaGreatDoorQ00
import Derived.Test.YtfoejfohbkmmeaaGreatDoorQ27
import Derived.Test.YtfoejfohbkmmeaaGreatDoorQ25
set_option maxRecDepth 100000
set_option maxHeartbeats 4000000
namespace Go.Proofs.YtfoejfohbkmmeaaGreatDoor
open Go.RowKit
open Lib renaming hid→J
theorem Ce{S:St}{o:Oper}{op:BinOp}{g n:TypeId}{x y:Operand}(vs us:List Value){v:Value}(d:o.op=.binOp op g x y n)(k:S.ev x=.agg (vs.map .sc))(p:S.ev y=.agg (us.map .sc))(h:∀w,(do eqGuard op g x y (.agg vs.toArray) (.agg us.toArray);binOp op g (.agg vs.toArray) (.agg us.toArray):Sem Value).run Tryz.prog w=.ok v w):OpOK o S (.sc v):=by
 intro w0 G0 bx rv w T q i;have key:∀{E:En} {xs vs:List Value},FT E xs (vs.map .sc)->xs=vs:=by
  intro E xs vs h;induction vs generalizing xs with
  |nil=>cases h;rfl
  |cons a l ih=>
   cases xs with
   |nil=>cases h
   |cons b m=>
    have c:=h.head.isSc;rw[c,ih h.tail]
 obtain⟨xs,c,f⟩:=(bI i k (by rw[d];simp[Op.operands])).isAgg;obtain⟨r,j,e⟩:=(bI i p (by rw[d];simp[Op.operands])).isAgg;rw[key f]at c;rw[key e]at j;refine aq (v:=v) (W':=w) ?_ ⟨.pure (.sc _ .nil) .nil,Below.refl _ _⟩;simp only[execOp,d,c,j];rw[Sem.run_bind,h w];rfl
def V.eqB(a b:V):Bool:=a.t==b.t&&a.n==b.n&&a.s.toList==b.s.toList
def Col.eqB(a b:Col):Bool:=a.name.toList==b.name.toList&&a.ty==b.ty&&a.key==b.key
theorem FP{x y:Operand}(a b:Int)(s:ByteArray)(c d:Int)(u:ByteArray)(w:World):(do eqGuard .neq 77 x y (.agg #[.int .i64 a,.int .i64 b,.string s]) (.agg #[.int .i64 c,.int .i64 d,.string u]);binOp .neq 77 (.agg #[.int .i64 a,.int .i64 b,.string s]) (.agg #[.int .i64 c,.int .i64 d,.string u]):Sem Value).run Tryz.prog w=.ok (.bool (!(a==c&&b==d&&s.toList==u.toList))) w:=by
 go_simp;by_cases g:a=c<;>by_cases f:b=d<;>by_cases e:s.toList=u.toList<;>simp[g,f,e]
theorem FQ{x y:Operand}(a:ByteArray)(b:Int)(s:Bool)(c:ByteArray)(d:Int)(u:Bool)(w:World):(do eqGuard .neq 58 x y (.agg #[.string a,.int .i64 b,.bool s]) (.agg #[.string c,.int .i64 d,.bool u]);binOp .neq 58 (.agg #[.string a,.int .i64 b,.bool s]) (.agg #[.string c,.int .i64 d,.bool u]):Sem Value).run Tryz.prog w=.ok (.bool (!(a.toList==c.toList&&b==d&&s==u))) w:=by
 go_simp;by_cases g:a.toList=c.toList<;>by_cases f:b=d<;>by_cases e:s=u<;>simp[g,f,e]
def ip{α:Type}(f:α->α->Bool):List α->List α->Bool
 |[],[]=>true
 |a::l,b::m=>f a b&&ip f l m
 |_,_=>false
theorem s7{α:Type}{f:α->α->Bool}{l m:List α}{i:Nat}{a b:α}(d:l[i]? =some a)(c:m[i]? =some b):ip f (l.drop i) (m.drop i)=(f a b&&ip f (l.drop (i+1)) (m.drop (i+1))):=by
 obtain⟨g,rfl⟩:=L7.1 d;obtain⟨e,rfl⟩:=L7.1 c;rw[Md g,Md e,ip]
theorem wj{α:Type}{f:α->α->Bool}:∀{l m:List α},l.length≠m.length->ip f l m=false
 |[],[],h=>absurd Z h
 |[],_::_,_=>rfl
 |_::_,[],_=>rfl
 |a::l,b::m,h=>by rw[ip,wj (by simpa using h),PE]
theorem wk{α:Type}{f:α->α->Bool}{l m:List α}{i:Nat}(h:l.length=m.length)(a:¬i<l.length):ip f (l.drop i) (m.drop i)=true:=by
 rw[Mg (by omega),Mg (by omega)];rfl
theorem rg{α:Type}{f:α->α->Bool}(c:∀a b,f a b=true↔a=b):∀{l m:List α},ip f l m=true↔l=m
 |[],[]=>by simp[ip]
 |[],_::_=>by simp[ip]
 |_::_,[]=>by simp[ip]
 |a::l,b::m=>by rw[ip,Ma,c,rg c,Pv]
theorem pT{a b:ByteArray}(h:a.toList=b.toList):a=b:=by
 have:a.data.toList=b.data.toList:=by rw[<-Lib.toList_data,<-Lib.toList_data,h]
 apply PJ;exact Array.toList_inj.1 this
theorem Dw(a b:V):a.eqB b=true↔a=b:=by
 unfold V.eqB;simp only[Ma,beq_iff_eq];constructor
 ·rintro⟨⟨e,d⟩,c⟩;cases a;cases b;simp only at e d c;rw[e,d,pT c]
 rintro rfl;exact⟨⟨rfl,rfl⟩,rfl⟩
theorem yi(a b:Col):a.eqB b=true↔a=b:=by
 unfold Col.eqB;simp only[Ma,beq_iff_eq];constructor
 ·rintro⟨⟨e,d⟩,c⟩;cases a;cases b;simp only at e d c;rw[d,c,pT e]
 rintro rfl;exact⟨⟨rfl,rfl⟩,rfl⟩
def eM(a b:Sch):Bool:= !(((!(a.name.toList==b.name.toList))||(a.cert !=b.cert))||decide (a.cols.length≠b.cols.length))&&ip Col.eqB a.cols b.cols
def Tp.eqB(a b:Tp):Bool:=ip V.eqB a.vals b.vals&&decide (a.prob=b.prob)
def dA(a b:Rel):Bool:=eM a.sch b.sch&&ip Tp.eqB a.tups b.tups
theorem qt(a b:Rel):dA a b=true↔a=b:=by
 have i:∀{l m:List V},ip V.eqB l m=true↔l=m:=fun{l m}=>rg Dw
 have h:∀x y:Tp,x.eqB y=true↔x=y:=fun x y=>by
  unfold Tp.eqB;rw[Ma,i,decide_eq_true_eq];constructor
  ·rintro⟨c,d⟩;cases x;cases y;simp only at c d;rw[c,d]
  rintro rfl;exact⟨rfl,rfl⟩
 unfold dA eM;rw[Ma,rg h,Ma,rg yi];constructor
 ·rintro⟨⟨c,d⟩,g⟩;simp only[Nj,Mz,PH,beq_iff_eq,bne_eq_false_iff_eq]at c;obtain⟨⟨e,f⟩,_⟩:=c;obtain⟨⟨s,p,n⟩,j⟩:=a;obtain⟨⟨q,k,r⟩,o⟩:=b;simp only at d g e f;rw[d,g,f,pT e]
 rintro rfl;simp
theorem Cf(s:Sch)(vs:List V)(w:vs.length<=65536):Ct 164 [s.tree,.sl (vs.map V.tree)] (.sl ((aG s vs).map V.tree)):=by
 refine Ct.of (n:=33) Tryz.func164 Z Z Z Z Z fun w0 G0=>?_
 refine ab<|ae<|aa 1 Z<|af (t:=.sl []) Z Z Z (cW (.inr Z) dI)<|ag<|ab<|ab<|ae<|aa 1 Z<|af (t:=nI vs.length) Z Z Z (ah (bd Z bz Z) (by simp only[L8]))<|aa 2 Z<|af (t:=nI s.cols.length) Z Z Z (ah (bd Z bi Z) (by simp only[L8]))<|af (t:=bT (decide (vs.length≠s.cols.length))) Z Z Z (ah (ai Z Z Z Zy) (av (wD vs.length s.cols.length)))<|ag<|aF Z (fun d=>?_) (fun d=>?_)
 ·refine ab<|ae<|af (t:=.sl []) Z Z Z (cW (.inr Z) dI)<|ag<|aC<|⟨.inr Z,_,.cons Z .nil,Li (by unfold aG;rw[if_neg d]) (l:=[]),Z⟩
 have h:vs.length=s.cols.length:=NE.1 d;refine ax<|ab<|ae<|g7 (k:=0) (e:=77) (sz:=3) (rs':=[some ⟨77,3,[],false⟩]) (.inr Z) Z Z Z Z Z<|ag<|ab<|ab<|aj 1 Z<|aE<|aW (fun q p=>∃(i:Nat) (b:List V),(i<=vs.length/\b.length<=i/\b++dJ (s.cols.drop i) (vs.drop i)=dJ s.cols vs)/\q=vs.length-i/\p=⟨33,[(1,.sl (vs.map V.tree)),(2,.box 0 0),(5,.own 0),(6,nI i)],[(26,(dq s))],[some ⟨77,3,b.map V.tree,false⟩]⟩) 1 1 ⟨0,[],⟨by omega,by simp,Z⟩,Z,Z⟩ ⟨Z,Z,Z,.cons Z Z (.cons Z Z (.cons Z Z (.cons Z Z .nil))),Z⟩ ?_;rintro q p ⟨i,b,⟨x,u,a⟩,rfl,rfl⟩;refine ab<|ab<|ae<|aa 2 Z<|af (t:=nI vs.length) Z Z Z (ah (bd Z bz Z) (by simp only[L8]))<|af (t:=bT (decide (i<vs.length))) Z Z Z (ah (ai Z Z Z Zy) (av (iu i vs.length)))<|ag<|aF Z (fun j=>?_) (fun j=>?_)
 ·obtain⟨v,m⟩:∃v,vs[i]? =some v:=⟨_,L4 j⟩;obtain⟨c,o⟩:∃c,s.cols[i]? =some c:=⟨_,L4 (by omega)⟩;rw[qi o m]at a;refine ax<|ab<|aE<|ab<|ae<|aa 3 Z<|af (t:=.ref [sT c.name,iT c.ty,bT c.key]) Z Z Z (aQ (Col.tree c) Z bi Z Z Z (bf (f:=Col.tree) o) (ej _) Z)<|aa 2 Z<|ag<|aH Z (fun g=>?_) (fun g=>?_)
  ·rw[if_pos g]at a;refine ae<|aa 3 rfl<|af (t:=.ref [iT v.t,iT v.n,sT v.s]) rfl rfl rfl (aQ (V.tree v) rfl bz rfl rfl rfl (bf (f:=V.tree) m) (iZ _) rfl)<|aa 1 rfl<|af (t:=.sl [.agg [iT v.t,iT v.n,sT v.s]]) rfl rfl rfl (a6 rfl bz fM rfl (by decide) (by decide) rfl rfl rfl rfl rfl)<|cD (bs':=[(26,(dq s))]) (rs':=[some ⟨77,3,(b++[v]).map V.tree,false⟩]) rfl rfl rfl rfl ib rfl rfl rfl rfl (by intro e r;simp only[Mi,Nr,or_false]at r;subst r;rfl) (AllC.lit rfl) (AllC.lit rfl) (by simp only[L8,Mb,Mo];omega) rfl rfl rfl (by rw[Nk];rfl)<|aa 1 rfl<|ag<|ae<|aa 1 rfl<|af (t:=nI (i+1)) rfl rfl rfl (ah (ai rfl rfl rfl Zy) (bu (by omega)))<|aa 1 rfl<|ag<|⟨_,_,?_,⟨i+1,(b++[v]),?_,rfl,rfl⟩,⟨rfl,rfl,rfl,.cons rfl rfl (.cons rfl rfl (.cons rfl rfl (.cons rfl rfl .nil))),rfl⟩⟩
   ·omega
   exact⟨by omega,by first|omega|(simp only[Mc,Mb,Mo];omega),by first|exact a|(rw[<-a];simp)⟩
  rw[if_neg (by rw[g];exact MR)]at a;refine ax<|ae<|aa 1 Z<|af (t:=nI (i+1)) Z Z Z (ah (ai Z Z Z Zy) (bu (by omega)))<|aa 1 Z<|ag<|⟨_,_,?_,⟨i+1,b,?_,Z,Z⟩,⟨Z,Z,Z,.cons Z Z (.cons Z Z (.cons Z Z (.cons Z Z .nil))),Z⟩⟩
  ·omega
  exact⟨by omega,by first|omega|(simp only[Mc,Mb,Mo];omega),by first|exact a|(rw[<-a];simp)⟩
 refine fD 0 (bs':=[(26,(dq s))]) (rs':=[none]) Z Z Z Z<|aZ<|ab<|aj 2 Z<|aC<|⟨.inr Z,_,.cons Z .nil,Li (by unfold aG;rw[if_pos h,<-a,Mg (by omega)];simp[dJ]),Z⟩
theorem Aw(s:Sch)(p:s.cols.length<=65536):Ct 163 [s.tree] (bT (dL s.cols)):=by
 refine Ct.of (n:=17) Tryz.func163 Z Z Z Z Z fun w0 G0=>?_
 refine ab<|aj 2 Z<|ab<|ab<|aj 1 Z<|aE<|aW (fun l j=>∃(i:Nat),(i<=s.cols.length/\∀(k:Nat) (c:Col),k<i->s.cols[k]? =some c->c.key=false)/\l=s.cols.length-i/\j=⟨17,[(1,.box 0 0),(3,nI i)],[(26,(dq s))],[]⟩) 1 0 ⟨0,⟨by omega,fun k c h=>by omega⟩,Z,Z⟩ ⟨Z,Z,Z,.cons Z Z (.cons Z Z .nil),Z⟩ ?_;rintro l j ⟨i,⟨q,a⟩,rfl,rfl⟩;refine ab<|ab<|ae<|aa 3 Z<|af (t:=nI s.cols.length) Z Z Z (ah (bd Z bi Z) (by simp only[L8]))<|af (t:=bT (decide (i<s.cols.length))) Z Z Z (ah (ai Z Z Z Zy) (av (iu i s.cols.length)))<|ag<|aF Z (fun g=>?_) (fun g=>?_)
 ·obtain⟨c,d⟩:∃c,s.cols[i]? =some c:=⟨_,L4 g⟩;refine ax<|ab<|aE<|ab<|ae<|aa 3 Z<|af (t:=.ref [sT c.name,iT c.ty,bT c.key]) Z Z Z (aQ (Col.tree c) Z bi Z Z Z (bf (f:=Col.tree) d) (ej _) Z)<|aa 2 Z<|ag<|aH Z (fun b=>?_) (fun b=>?_)
  ·refine ab<|aj 1 Z<|aC<|⟨.inr Z,_,.cons Z .nil,av (OI.2 ⟨c,L9 d,b⟩).symm,Z⟩
  refine ax<|ae<|aa 1 Z<|af (t:=nI (i+1)) Z Z Z (ah (ai Z Z Z Zy) (bu (by omega)))<|aa 1 Z<|ag<|⟨_,_,?_,⟨i+1,?_,Z,Z⟩,⟨Z,Z,Z,.cons Z Z (.cons Z Z .nil),Z⟩⟩
  ·omega
  refine⟨by omega,fun k x h e=>?_⟩;rcases MI k i with m|m
  ·exact a k x m e
  obtain rfl:k=i:=by omega
  rw[d]at e;cases e;exact b
 refine aZ<|ab<|aj 1 rfl<|aC<|⟨.inr rfl,_,.cons rfl .nil,av (by unfold dL;rw[eq_comm,N4];intro x e;obtain⟨k,o,rfl⟩:=Nb e;rw[a k _ (by omega) (L4 o)];simp),rfl⟩
theorem FR(r:Rel)(vs:List V)(k:vs.length<=65536)(m:r.tups.length<=65536)(g:∀t∈r.tups,t.vals.length<=65536):Ct 92 [r.tree,.sl (vs.map V.tree)] (ur (gU vs r.tups 0)):=by
 refine Ct.of (n:=24) Tryz.func92 Z Z Z Z Z fun w0 G0=>?_
 refine ab<|aj 3 Z<|ab<|ab<|aj 1 Z<|aE<|aW (fun j h=>∃(i:Nat),(i<=r.tups.length/\gU vs (r.tups.drop i) i=gU vs r.tups 0)/\j=r.tups.length-i/\h=⟨24,[(1,.sl (vs.map V.tree)),(2,.box 0 0),(6,nI i)],[(30,(aT r))],[]⟩) 1 0 ⟨0,⟨by omega,Z⟩,Z,Z⟩ ⟨Z,Z,Z,.cons Z Z (.cons Z Z (.cons Z Z .nil)),Z⟩ ?_;rintro j h ⟨i,⟨l,a⟩,rfl,rfl⟩;refine ab<|ab<|ae<|aa 3 Z<|af (t:=nI r.tups.length) Z Z Z (ah (bd Z aK Z) (by simp only[L8]))<|af (t:=bT (decide (i<r.tups.length))) Z Z Z (ah (ai Z Z Z Zy) (av (iu i r.tups.length)))<|ag<|aF Z (fun d=>?_) (fun d=>?_)
 ·obtain⟨t,c⟩:∃t,r.tups[i]? =some t:=⟨_,L4 d⟩;have e:=g t (L9 c);rw[sx c]at a;refine ax<|ab<|aE<|ab<|ae<|aa 3 Z<|af (t:=.ref (bS t)) Z Z Z (aQ (Tp.tree t) Z aK Z Z Z (bf (f:=Tp.tree) c) (bQ _) Z)<|aa 3 Z<|af Z Z Z (ar Z (ly _ _ e k) Z Z)<|af (t:=bT ((aO t.vals vs)==0)) Z Z Z (ai Z Z Z Zy)<|ag<|aH Z (fun b=>?_) (fun b=>?_)
  ·refine ab<|aj 3 Z<|aC<|⟨.inr Z,_,.cons Z (.cons Z .nil),by unfold ur;rw[<-a,if_pos (by simpa using b)];rfl,Z⟩
  refine ax<|ae<|aa 1 Z<|af (t:=nI (i+1)) Z Z Z (ah (ai Z Z Z Zy) (bu (by omega)))<|aa 1 Z<|ag<|⟨_,_,?_,⟨i+1,?_,Z,Z⟩,⟨Z,Z,Z,.cons Z Z (.cons Z Z (.cons Z Z .nil)),Z⟩⟩
  ·omega
  exact⟨by omega,by rw[<-a,if_neg (by simpa using b)]⟩
 refine aZ<|ab<|aj 2 Z<|aC<|⟨.inr Z,_,.cons Z (.cons Z .nil),by unfold ur;rw[<-a,Mg (by omega)];rfl,Z⟩
theorem H4(r:Rel)(a:List Nat)(k:∀i∈a,i<r.tups.length)(o:a.length<=65536)(h:∀t∈r.tups,Fit 262144 t.prob)(d:∀j,j<=a.length->Fit 262144 (dR r.tups (a.take j))):Ct 97 [r.tree,.sl (a.map fw)] (dp (dR r.tups a)):=by
 refine Ct.of (n:=26) Tryz.func97 Z Z Z Z Z fun w0 G0=>?_
 refine ab<|aj 2 Z<|ab<|ae<|af Z Z Z (ar Z (rf 0 (by decide)) Z Z)<|aa 2 Z<|ag<|ab<|ab<|aj 1 Z<|aE<|aW (fun m l=>∃(j:Nat),(j<=a.length)/\m=a.length-j/\l=⟨26,[(1,.sl (a.map fw)),(2,.box 0 0),(4,.box 1 0),(5,.box 2 0),(6,nI j)],[(30,(aT r)),(65,[bT false,.sl [],.sl []]),(65,[bT (decide ((dR r.tups (a.take j)).num<0)),aM ((dR r.tups (a.take j)).num.natAbs),aM ((dR r.tups (a.take j)).den)])],[]⟩) 3 0 ⟨0,Mx _,Z,Z⟩ ⟨Z,Z,Z,.cons Z Z (.cons Z Z (.cons Z Z (.cons Z Z (.cons Z Z .nil)))),Z⟩ ?_;rintro m l ⟨j,p,rfl,rfl⟩;refine ab<|ab<|ae<|aa 2 Z<|af (t:=nI a.length) Z Z Z (ah (bd Z cz Z) (by simp only[L8]))<|af (t:=bT (decide (j<a.length))) Z Z Z (ah (ai Z Z Z Zy) (av (iu j a.length)))<|ag<|aF Z (fun e=>?_) (fun e=>?_)
 ·obtain⟨i,c⟩:∃i,a[j]? =some i:=⟨_,L4 e⟩;have g:=k i (L9 c);obtain⟨t,b⟩:∃t,r.tups[i]? =some t:=⟨_,L4 g⟩;refine ax<|ab<|aE<|dH (ops:=[_,_,_,_,_,_,_,_,_,_,_]) (fu:=12) (bs':=[(30,(aT r)),(65,[bT false,.sl [],.sl []]),(65,[bT (decide ((dR r.tups (a.take (j+1))).num<0)),aM ((dR r.tups (a.take (j+1))).num.natAbs),aM ((dR r.tups (a.take (j+1))).den)])]) [some 14,some 15,some 16,some 17,some 18,some 19,some 20,some 21,some 22,some 23,some 24] [.agg [bT (decide ((dR r.tups (a.take j)).num<0)),aM ((dR r.tups (a.take j)).num.natAbs),aM ((dR r.tups (a.take j)).den)],.box 0 3,.sl (r.tups.map Tp.tree),.sl (a.map fw),nI j,.ref [nI i],nI i,.ref (bS t),.ref (aU t.prob),.agg (aU t.prob),.agg [bT (decide ((dR r.tups (a.take (j+1))).num<0)),aM ((dR r.tups (a.take (j+1))).num.natAbs),aM ((dR r.tups (a.take (j+1))).den)]] (by kernel_rfl) Z Z Z Z Z (by kernel_rfl) (by kernel_rfl) Z Z Z Z Z Z Z Z fm Z Z Z ?_ ?_
  ·refine Chain.op Z (aJ Z Z Z aN Z Z)<|Chain.op Z (az Z Z aV Z)<|Chain.op Z (aD Z Z Z bp Z)<|Chain.op Z (aw Z Z)<|Chain.op Z (aw Z Z)<|Chain.op Z (aQ (fw i) Z cz Z Z Z (bf (f:=fw) c) (qg _) Z)<|Chain.op Z (bE Z Z fe Z)<|Chain.op Z (aQ (Tp.tree t) Z aK Z Z Z (bf (f:=Tp.tree) b) (bQ _) Z)<|Chain.op Z (bw Z Z dY Z)<|Chain.op Z (cU Z Z aN Z Z)<|Chain.op Z (ar Z (by rw[um c b];exact ye _ _ (d j (by omega)) (h t (L9 b))) Z Z)<|Chain.nil
  refine ae<|aa 1 Z<|af (t:=nI (j+1)) Z Z Z (ah (ai Z Z Z Zy) (bu (by omega)))<|aa 1 Z<|ag<|⟨_,_,?_,⟨j+1,?_,Z,Z⟩,⟨Z,Z,Z,.cons Z Z (.cons Z Z (.cons Z Z (.cons Z Z (.cons Z Z .nil)))),Z⟩⟩
  ·omega
  omega
 refine aZ<|ab<|aj 2 Z<|aC<|⟨.inr Z,_,.cons ⟨_,_,_,_,Z,Z,.inl ⟨_,aN,Z,Z⟩⟩ .nil,xK (by rw[Me (by omega)]),Z⟩
theorem FSq(l m:List V)(o:l.length<=65536)(p:m.length<=65536):Ct 44 [.sl (l.map V.tree),.sl (m.map V.tree)] (bT (ip V.eqB l m)):=by
 refine Ct.of (n:=26) Tryz.func44 Z Z Z Z Z fun w0 G0=>?_
 refine ab<|aj 1 Z<|ab<|ab<|ae<|aa 1 Z<|af (t:=nI l.length) Z Z Z (ah (bd Z bz Z) (by simp only[L8]))<|aa 1 Z<|af (t:=nI m.length) Z Z Z (ah (bd Z bz Z) (by simp only[L8]))<|af (t:=bT (decide (l.length≠m.length))) Z Z Z (ah (ai Z Z Z Zy) (av (wD l.length m.length)))<|ag<|aF Z (fun d=>?_) (fun d=>?_)
 ·refine ab<|aj 1 Z<|aC<|⟨.inr Z,_,.cons Z .nil,av (wj d).symm,Z⟩
 have e:l.length=m.length:=NE.1 d;refine ax<|ab<|ab<|aj 1 Z<|aE<|aW (fun k j=>∃(i:Nat),(i<=l.length/\ip V.eqB (l.drop i) (m.drop i)=ip V.eqB l m)/\k=l.length-i/\j=⟨26,[(0,.sl (l.map V.tree)),(1,.sl (m.map V.tree)),(5,nI i)],[],[]⟩) 0 0 ⟨0,⟨by omega,Z⟩,Z,Z⟩ ⟨Z,Z,Z,.cons Z Z (.cons Z Z (.cons Z Z .nil)),Z⟩ ?_;rintro k j ⟨i,⟨q,a⟩,rfl,rfl⟩;refine ab<|ab<|ae<|aa 2 Z<|af (t:=nI l.length) Z Z Z (ah (bd Z bz Z) (by simp only[L8]))<|af (t:=bT (decide (i<l.length))) Z Z Z (ah (ai Z Z Z Zy) (av (iu i l.length)))<|ag<|aF Z (fun c=>?_) (fun c=>?_)
 ·obtain⟨x,h⟩:∃x,l[i]? =some x:=⟨_,L4 c⟩;obtain⟨y,g⟩:∃x,m[i]? =some x:=⟨_,L4 (by omega)⟩;rw[s7 h g]at a;refine ax<|ab<|aE<|ab<|ci (fu:=9) [some 17,some 18,some 19,some 20,some 21,some 22,some 23,some 24,some 25] [.sl (l.map V.tree),nI i,.ref [iT x.t,iT x.n,sT x.s],.agg [iT x.t,iT x.n,sT x.s],.sl (m.map V.tree),nI i,.ref [iT y.t,iT y.n,sT y.s],.agg [iT y.t,iT y.n,sT y.s],bT (!(V.eqB x y))] (by kernel_rfl) Z Z (by kernel_rfl) Z ?_ ?_
  ·refine Chain.op Z (aw Z Z)<|Chain.op Z (aw Z Z)<|Chain.op Z (aQ (V.tree x) Z bz Z Z Z (bf (f:=V.tree) h) (iZ _) Z)<|Chain.op Z (cU Z Z ll Z Z)<|Chain.op Z (aw Z Z)<|Chain.op Z (aw Z Z)<|Chain.op Z (aQ (V.tree y) Z bz Z Z Z (bf (f:=V.tree) g) (iZ _) Z)<|Chain.op Z (cU Z Z ll Z Z)<|Chain.op Z (Ce [.int .i64 x.t,.int .i64 x.n,.string x.s] [.int .i64 y.t,.int .i64 y.n,.string y.s] Z Z Z (fun w=>FP _ _ _ _ _ _ w))<|Chain.nil
  refine aH Z (fun b=>?_) (fun b=>?_)
  ·refine ab<|aj 1 Z<|aC<|⟨.inr Z,_,.cons Z .nil,av (by rw[<-a,show V.eqB x y=false by simpa using b];rfl),Z⟩
  refine ax<|ae<|aa 1 Z<|af (t:=nI (i+1)) Z Z Z (ah (ai Z Z Z Zy) (bu (by omega)))<|aa 1 Z<|ag<|⟨_,_,?_,⟨i+1,?_,Z,Z⟩,⟨Z,Z,Z,.cons Z Z (.cons Z Z (.cons Z Z .nil)),Z⟩⟩
  ·omega
  exact⟨by omega,by rw[<-a,show V.eqB x y=true by simpa using b,OC]⟩
 refine aZ<|ab<|aj 1 Z<|aC<|⟨.inr Z,_,.cons Z .nil,av (by rw[<-a,wk e c]),Z⟩
theorem FU(a b:Sch)(r:a.cols.length<=65536)(s:b.cols.length<=65536):Ct 43 [a.tree,b.tree] (bT (eM a b)):=by
 refine Ct.of (n:=45) Tryz.func43 Z Z Z Z Z fun w0 G0=>?_
 refine ab<|aj 3 Z<|ab<|ab<|ae<|aa 4 Z<|af (t:=bT (!(a.name.toList==b.name.toList))) Z Z Z (ai Z Z Z Zy)<|aa 1 Z<|aA (t:=.box 0 1) ((!(a.name.toList==b.name.toList))=false) Z Z Z au Z Z (fun c=>az Z Z fU Z)<|aA (t:=bT a.cert) ((!(a.name.toList==b.name.toList))=false) Z Z Z au Z Z (fun c=>aD Z (if_pos c) Z fW Z)<|aA (t:=.box 1 1) ((!(a.name.toList==b.name.toList))=false) Z Z Z au Z Z (fun c=>az Z Z fU Z)<|aA (t:=bT b.cert) ((!(a.name.toList==b.name.toList))=false) Z Z Z au Z Z (fun c=>aD Z (if_pos c) Z fW Z)<|aA (t:=bT (a.cert !=b.cert)) ((!(a.name.toList==b.name.toList))=false) Z Z Z au Z Z (fun c=>ai Z (if_pos c) (if_pos c) (fun _=>rfl))<|af (t:=bT ((!(a.name.toList==b.name.toList))||(a.cert !=b.cert))) Z Z Z (aL Z Z (fun g=>(av (by rw[g];rfl))) (fun g=>(if_pos g).trans (av (by rw[g];rfl))))<|aa 1 Z<|aA (t:=.box 0 2) (((!(a.name.toList==b.name.toList))||(a.cert !=b.cert))=false) Z Z Z au Z Z (fun c=>az Z Z dt Z)<|aA (t:=.sl (a.cols.map Col.tree)) (((!(a.name.toList==b.name.toList))||(a.cert !=b.cert))=false) Z Z Z au Z Z (fun c=>aD Z (if_pos c) Z ew Z)<|aA (t:=nI a.cols.length) (((!(a.name.toList==b.name.toList))||(a.cert !=b.cert))=false) Z Z Z au Z Z (fun c=>ah (bd Z bi (if_pos c)) (by simp only[L8]))<|aA (t:=.box 1 2) (((!(a.name.toList==b.name.toList))||(a.cert !=b.cert))=false) Z Z Z au Z Z (fun c=>az Z Z dt Z)<|aA (t:=.sl (b.cols.map Col.tree)) (((!(a.name.toList==b.name.toList))||(a.cert !=b.cert))=false) Z Z Z au Z Z (fun c=>aD Z (if_pos c) Z ew Z)<|aA (t:=nI b.cols.length) (((!(a.name.toList==b.name.toList))||(a.cert !=b.cert))=false) Z Z Z au Z Z (fun c=>ah (bd Z bi (if_pos c)) (by simp only[L8]))<|aA (t:=bT (decide (a.cols.length≠b.cols.length))) (((!(a.name.toList==b.name.toList))||(a.cert !=b.cert))=false) Z Z Z au Z Z (fun c=>ah (ai Z (if_pos c) (if_pos c) (fun _=>rfl)) (av (wD a.cols.length b.cols.length)))<|af (t:=bT (((!(a.name.toList==b.name.toList))||(a.cert !=b.cert))||(decide (a.cols.length≠b.cols.length)))) Z Z Z (aL Z Z (fun g=>(av (by rw[g];rfl))) (fun g=>(if_pos g).trans (av (by rw[g];rfl))))<|ag<|aH Z (fun e=>?_) (fun e=>?_)
 ·refine ab<|aj 1 Z<|aC<|⟨.inr Z,_,.cons Z .nil,av (by unfold eM;rw[e];rfl),Z⟩
 have k:a.cols.length=b.cols.length:=by have q:=(Mz.1 e).2;simpa using q
 refine ax<|ab<|ab<|aj 1 Z<|aE<|aW (fun p o=>∃(i:Nat),(i<=a.cols.length/\ip Col.eqB (a.cols.drop i) (b.cols.drop i)=ip Col.eqB a.cols b.cols)/\p=a.cols.length-i/\o=⟨45,[(2,.box 0 0),(3,.box 1 0),(5,nI i)],[(26,(dq a)),(26,(dq b))],[]⟩) 2 0 ⟨0,⟨by omega,Z⟩,Z,Z⟩ ⟨Z,Z,Z,.cons Z Z (.cons Z Z (.cons Z Z .nil)),Z⟩ ?_;rintro p o ⟨i,⟨u,d⟩,rfl,rfl⟩;refine ab<|ab<|ae<|aa 3 Z<|af (t:=nI a.cols.length) Z Z Z (ah (bd Z bi Z) (by simp only[L8]))<|af (t:=bT (decide (i<a.cols.length))) Z Z Z (ah (ai Z Z Z Zy) (av (iu i a.cols.length)))<|ag<|aF Z (fun j=>?_) (fun j=>?_)
 ·obtain⟨x,m⟩:∃x,a.cols[i]? =some x:=⟨_,L4 j⟩;obtain⟨y,l⟩:∃x,b.cols[i]? =some x:=⟨_,L4 (by omega)⟩;rw[s7 m l]at d;refine ax<|ab<|aE<|ab<|ci (fu:=11) [some 34,some 35,some 36,some 37,some 38,some 39,some 40,some 41,some 42,some 43,some 44] [.box 0 2,.sl (a.cols.map Col.tree),nI i,.ref [sT x.name,iT x.ty,bT x.key],.agg [sT x.name,iT x.ty,bT x.key],.box 1 2,.sl (b.cols.map Col.tree),nI i,.ref [sT y.name,iT y.ty,bT y.key],.agg [sT y.name,iT y.ty,bT y.key],bT (!(Col.eqB x y))] (by kernel_rfl) Z Z (by kernel_rfl) Z ?_ ?_
  ·refine Chain.op Z (az Z Z dt Z)<|Chain.op Z (aD Z Z Z ew Z)<|Chain.op Z (aw Z Z)<|Chain.op Z (aQ (Col.tree x) Z bi Z Z Z (bf (f:=Col.tree) m) (ej _) Z)<|Chain.op Z (cU Z Z sr Z Z)<|Chain.op Z (az Z Z dt Z)<|Chain.op Z (aD Z Z Z ew Z)<|Chain.op Z (aw Z Z)<|Chain.op Z (aQ (Col.tree y) Z bi Z Z Z (bf (f:=Col.tree) l) (ej _) Z)<|Chain.op Z (cU Z Z sr Z Z)<|Chain.op Z (Ce [.string x.name,.int .i64 x.ty,.bool x.key] [.string y.name,.int .i64 y.ty,.bool y.key] Z Z Z (fun w=>FQ _ _ _ _ _ _ w))<|Chain.nil
  refine aH Z (fun h=>?_) (fun h=>?_)
  ·refine ab<|aj 1 Z<|aC<|⟨.inr Z,_,.cons Z .nil,av (by unfold eM;rw[e,<-d,show Col.eqB x y=false by simpa using h];rfl),Z⟩
  refine ax<|ae<|aa 1 Z<|af (t:=nI (i+1)) Z Z Z (ah (ai Z Z Z Zy) (bu (by omega)))<|aa 1 Z<|ag<|⟨_,_,?_,⟨i+1,?_,Z,Z⟩,⟨Z,Z,Z,.cons Z Z (.cons Z Z (.cons Z Z .nil)),Z⟩⟩
  ·omega
  exact⟨by omega,by rw[<-d,show Col.eqB x y=true by simpa using h,OC]⟩
 refine aZ<|ab<|aj 1 Z<|aC<|⟨.inr Z,_,.cons Z .nil,av (by unfold eM;rw[e,<-d,wk k j];rfl),Z⟩
theorem Cg(a b:Rel)(s:FitR a)(r:FitR b):Ct 14 [a.tree,b.tree] (bT (dA a b)):=by
 have A:=s.tups;have z:=r.tups;refine Ct.of (n:=58) Tryz.func14 Z Z Z Z Z fun w0 G0=>?_
 refine ab<|aj 3 Z<|ab<|ab<|ae<|aa 4 Z<|af Z Z Z (ar Z (FU _ _ s.cols r.cols) Z Z)<|af (t:=bT (!(eM a.sch b.sch))) Z Z Z (ef Z Z Zy)<|aa 1 Z<|aA (t:=.box 0 3) ((!(eM a.sch b.sch))=false) Z Z Z au Z Z (fun c=>az Z Z aV Z)<|aA (t:=.sl (a.tups.map Tp.tree)) ((!(eM a.sch b.sch))=false) Z Z Z au Z Z (fun c=>aD Z (if_pos c) Z bp Z)<|aA (t:=nI a.tups.length) ((!(eM a.sch b.sch))=false) Z Z Z au Z Z (fun c=>ah (bd Z aK (if_pos c)) (by simp only[L8]))<|aA (t:=.box 1 3) ((!(eM a.sch b.sch))=false) Z Z Z au Z Z (fun c=>az Z Z aV Z)<|aA (t:=.sl (b.tups.map Tp.tree)) ((!(eM a.sch b.sch))=false) Z Z Z au Z Z (fun c=>aD Z (if_pos c) Z bp Z)<|aA (t:=nI b.tups.length) ((!(eM a.sch b.sch))=false) Z Z Z au Z Z (fun c=>ah (bd Z aK (if_pos c)) (by simp only[L8]))<|aA (t:=bT (decide (a.tups.length≠b.tups.length))) ((!(eM a.sch b.sch))=false) Z Z Z au Z Z (fun c=>ah (ai Z (if_pos c) (if_pos c) (fun _=>rfl)) (av (wD a.tups.length b.tups.length)))<|af (t:=bT ((!(eM a.sch b.sch))||(decide (a.tups.length≠b.tups.length)))) Z Z Z (aL Z Z (fun l=>(av (by rw[l];rfl))) (fun l=>(if_pos l).trans (av (by rw[l];rfl))))<|ag<|aH Z (fun k=>?_) (fun k=>?_)
 ·refine ab<|aj 1 rfl<|aC<|⟨.inr rfl,_,.cons rfl .nil,av (by unfold dA;rcases Qo.1 k with h|h;rw[show eM a.sch b.sch=false by simpa using h];rfl;rw[wj (by simpa using h),PE]),rfl⟩
 have o:a.tups.length=b.tups.length:=by have u:=(Mz.1 k).2;simpa using u
 have q:eM a.sch b.sch=true:=by have u:=(Mz.1 k).1;simpa using u
 refine ax<|ab<|ab<|aj 1 Z<|aE<|aW (fun w v=>∃(i:Nat),(i<=a.tups.length/\ip Tp.eqB (a.tups.drop i) (b.tups.drop i)=ip Tp.eqB a.tups b.tups)/\w=a.tups.length-i/\v=⟨58,[(2,.box 0 0),(3,.box 1 0),(5,nI i)],[(30,(aT a)),(30,(aT b))],[]⟩) 2 0 ⟨0,⟨by omega,Z⟩,Z,Z⟩ ⟨Z,Z,Z,.cons Z Z (.cons Z Z (.cons Z Z .nil)),Z⟩ ?_;rintro w v ⟨i,⟨B,d⟩,rfl,rfl⟩;refine ab<|ab<|ae<|aa 3 Z<|af (t:=nI a.tups.length) Z Z Z (ah (bd Z aK Z) (by simp only[L8]))<|af (t:=bT (decide (i<a.tups.length))) Z Z Z (ah (ai Z Z Z Zy) (av (iu i a.tups.length)))<|ag<|aF Z (fun m=>?_) (fun m=>?_)
 ·obtain⟨x,j⟩:∃x,a.tups[i]? =some x:=⟨_,L4 m⟩;obtain⟨y,g⟩:∃x,b.tups[i]? =some x:=⟨_,L4 (by omega)⟩;rw[s7 j g]at d;refine ax<|ab<|aE<|ab<|ci (fu:=30) [some 28,some 29,some 30,some 31,some 32,some 33,some 34,some 35,some 36,some 37,some 38,some 39,some 40,some 41,some 42,some 43,some 44,some 45,some 46,some 47,some 48,some 49,some 50,some 51,some 52,some 53,some 54,some 55,some 56,some 57] [.box 0 3,.sl (a.tups.map Tp.tree),nI i,.ref (bS x),.ref (bS x),.sl (x.vals.map V.tree),.box 1 3,.sl (b.tups.map Tp.tree),nI i,.ref (bS y),.ref (bS y),.sl (y.vals.map V.tree),bT (ip V.eqB x.vals y.vals),bT (!(ip V.eqB x.vals y.vals)),bT (!(ip V.eqB x.vals y.vals)),if(!(ip V.eqB x.vals y.vals))=false then(.box 0 3:Tree)else .sc undef,if(!(ip V.eqB x.vals y.vals))=false then(.sl (a.tups.map Tp.tree):Tree)else .sc undef,if(!(ip V.eqB x.vals y.vals))=false then(nI i:Tree)else .sc undef,if(!(ip V.eqB x.vals y.vals))=false then(.ref (bS x):Tree)else .sc undef,if(!(ip V.eqB x.vals y.vals))=false then(.ref (aU x.prob):Tree)else .sc undef,if(!(ip V.eqB x.vals y.vals))=false then(.agg (aU x.prob):Tree)else .sc undef,if(!(ip V.eqB x.vals y.vals))=false then(.box 1 3:Tree)else .sc undef,if(!(ip V.eqB x.vals y.vals))=false then(.sl (b.tups.map Tp.tree):Tree)else .sc undef,if(!(ip V.eqB x.vals y.vals))=false then(nI i:Tree)else .sc undef,if(!(ip V.eqB x.vals y.vals))=false then(.ref (bS y):Tree)else .sc undef,if(!(ip V.eqB x.vals y.vals))=false then(.ref (aU y.prob):Tree)else .sc undef,if(!(ip V.eqB x.vals y.vals))=false then(.agg (aU y.prob):Tree)else .sc undef,if(!(ip V.eqB x.vals y.vals))=false then(bT (decide (x.prob=y.prob)):Tree)else .sc undef,if(!(ip V.eqB x.vals y.vals))=false then(bT (!(decide (x.prob=y.prob))):Tree)else .sc undef,bT ((!(ip V.eqB x.vals y.vals))||(!(decide (x.prob=y.prob))))] (by kernel_rfl) Z Z (by kernel_rfl) Z ?_ ?_
  ·refine Chain.op Z (az Z Z aV Z)<|Chain.op Z (aD Z Z Z bp Z)<|Chain.op Z (aw Z Z)<|Chain.op Z (aQ (Tp.tree x) Z aK Z Z Z (bf (f:=Tp.tree) j) (bQ _) Z)<|Chain.op Z (bw Z Z b6 Z)<|Chain.op Z (bE Z Z cC Z)<|Chain.op Z (az Z Z aV Z)<|Chain.op Z (aD Z Z Z bp Z)<|Chain.op Z (aw Z Z)<|Chain.op Z (aQ (Tp.tree y) Z aK Z Z Z (bf (f:=Tp.tree) g) (bQ _) Z)<|Chain.op Z (bw Z Z b6 Z)<|Chain.op Z (bE Z Z cC Z)<|Chain.op Z (ar Z (FSq _ _ (s.tup x (L9 j)).2 (r.tup y (L9 g)).2) Z Z)<|Chain.op Z (ef Z Z Zy)<|Chain.op Z (aw Z Z)<|Chain.cnd (t:=.box 0 3) 14 false 42 ((!(ip V.eqB x.vals y.vals))=false) Z (by kernel_rfl) au (fun c=>az Z Z aV Z)<|Chain.cnd (t:=.sl (a.tups.map Tp.tree)) 14 false 42 ((!(ip V.eqB x.vals y.vals))=false) Z (by kernel_rfl) au (fun c=>aD Z (if_pos c) Z bp Z)<|Chain.cnd (t:=nI i) 14 false 42 ((!(ip V.eqB x.vals y.vals))=false) Z (by kernel_rfl) au (fun c=>aw Z Z)<|Chain.cnd (t:=.ref (bS x)) 14 false 42 ((!(ip V.eqB x.vals y.vals))=false) Z (by kernel_rfl) au (fun c=>aQ (Tp.tree x) Z aK (if_pos c) (if_pos c) Z (bf (f:=Tp.tree) j) (bQ _) Z)<|Chain.cnd (t:=.ref (aU x.prob)) 14 false 42 ((!(ip V.eqB x.vals y.vals))=false) Z (by kernel_rfl) au (fun c=>bw Z (if_pos c) dY Z)<|Chain.cnd (t:=.agg (aU x.prob)) 14 false 42 ((!(ip V.eqB x.vals y.vals))=false) Z (by kernel_rfl) au (fun c=>cU Z (if_pos c) aN Z Z)<|Chain.cnd (t:=.box 1 3) 14 false 42 ((!(ip V.eqB x.vals y.vals))=false) Z (by kernel_rfl) au (fun c=>az Z Z aV Z)<|Chain.cnd (t:=.sl (b.tups.map Tp.tree)) 14 false 42 ((!(ip V.eqB x.vals y.vals))=false) Z (by kernel_rfl) au (fun c=>aD Z (if_pos c) Z bp Z)<|Chain.cnd (t:=nI i) 14 false 42 ((!(ip V.eqB x.vals y.vals))=false) Z (by kernel_rfl) au (fun c=>aw Z Z)<|Chain.cnd (t:=.ref (bS y)) 14 false 42 ((!(ip V.eqB x.vals y.vals))=false) Z (by kernel_rfl) au (fun c=>aQ (Tp.tree y) Z aK (if_pos c) (if_pos c) Z (bf (f:=Tp.tree) g) (bQ _) Z)<|Chain.cnd (t:=.ref (aU y.prob)) 14 false 42 ((!(ip V.eqB x.vals y.vals))=false) Z (by kernel_rfl) au (fun c=>bw Z (if_pos c) dY Z)<|Chain.cnd (t:=.agg (aU y.prob)) 14 false 42 ((!(ip V.eqB x.vals y.vals))=false) Z (by kernel_rfl) au (fun c=>cU Z (if_pos c) aN Z Z)<|Chain.cnd (t:=bT (decide (x.prob=y.prob))) 14 false 42 ((!(ip V.eqB x.vals y.vals))=false) Z (by kernel_rfl) au (fun c=>ar Z (Du _ _ ((s.tup x (L9 j)).1.p.mono (by decide)) ((r.tup y (L9 g)).1.p.mono (by decide))) (eU (if_pos c) (eU (if_pos c) Z)) Z)<|Chain.cnd (t:=bT (!(decide (x.prob=y.prob)))) 14 false 42 ((!(ip V.eqB x.vals y.vals))=false) Z (by kernel_rfl) au (fun c=>ef Z (if_pos c) (fun _=>rfl))<|Chain.op Z (aL Z Z (fun l=>(av (by rw[l];rfl))) (fun l=>(if_pos l).trans (av (by rw[l];rfl))))<|Chain.nil
  refine aH Z (fun e=>?_) (fun e=>?_)
  ·refine ab<|aj 1 Z<|aC<|⟨.inr Z,_,.cons Z .nil,av (by unfold dA;rw[<-d,show Tp.eqB x y=false by unfold Tp.eqB;simp only[M5,Nj]at e;rw[N8];exact e];simp),Z⟩
  refine ax<|ae<|aa 1 Z<|af (t:=nI (i+1)) Z Z Z (ah (ai Z Z Z Zy) (bu (by omega)))<|aa 1 Z<|ag<|⟨_,_,?_,⟨i+1,?_,Z,Z⟩,⟨Z,Z,Z,.cons Z Z (.cons Z Z (.cons Z Z .nil)),Z⟩⟩
  ·omega
  refine⟨by omega,?_⟩;rw[<-d,show Tp.eqB x y=true by unfold Tp.eqB;simp only[Mz,PH]at e;rw[Ma];exact e,OC]
 refine aZ<|ab<|aj 1 Z<|aC<|⟨.inr Z,_,.cons Z .nil,av (by unfold dA;rw[q,<-d,wk o m];rfl),Z⟩
theorem nM:∀{cs:List Col} {vs:List V},vs.length=cs.length->(dJ cs vs=[]↔dL cs=false)
 |[],[],_=>by simp[dJ,dL]
 |[],_::_,h=>by simp at h
 |_::_,[],h=>by simp at h
 |c::cs,v::vs,h=>by
  have a:=nM (cs:=cs) (vs:=vs) (by simpa using h);unfold dL at a⊢;rw[dJ,Pm];cases b:c.key
  ·rw[if_neg (by simp),a];simp
  rw[if_pos Z];simp
theorem s8{s:Sch}{vs:List V}(h:vs.length=s.cols.length):aG s vs=[]↔dL s.cols=false:=by
 unfold aG;rw[if_pos h,nM h]
theorem s9{k:List V}:∀{K:List (List V)} {j:Nat},j<=K.length->(∀x y,x<j->K[x]? =some y->aO y k<0)->(∀y,K[j]? =some y->¬aO y k<0)->bk K k=j
 |[],j,hj,_,_=>by
  obtain rfl:j=0:=by simpa using hj
  rfl
 |y::K,0,_,_,h=>by
  unfold bk;rw[Nh,if_neg (by simpa using h y Z)];rfl
 |y::K,j+1,hj,h1,h2=>by
  have b:=s9 (k:=k) (K:=K) (j:=j) (by simpa using hj) (fun x z c a=>h1 (x+1) z (by omega) (by simpa using a)) (fun z a=>h2 z (by simpa using a));unfold bk at b⊢;rw[Nh,if_pos (by simpa using h1 0 y (by omega) Z),Mb,b]
theorem qu(s:Sch)(k:List V):∀(ts:List Tp) (i:Nat) (l:List Nat) (h:Nat),bX s k ts i=h::l->∃t,i<=h/\ts[h-i]? =some t/\aG s t.vals=k
 |[],i,l,h,e=>by simp[bX]at e
 |t::ts,i,l,h,e=>by
  rw[bX]at e;split at e
  ·next hc=>
   injection e with c g
   subst c;exact⟨t,L5 _,by simp,(jZ _ _).1 hc⟩
  obtain⟨b,f,a,d⟩:=qu s k ts (i+1) l h e;refine⟨b,by omega,?_,d⟩;rw[show h-i=(h-(i+1))+1 by omega,Pd];exact a
theorem uP{s:Sch}{k:List V}{t:Tp}(a:aG s t.vals=k):∀{ts:List Tp} {i:Nat},t∈ts->bX s k ts i≠ []
 |[],_,h=>by cases h
 |u::ts,i,h=>by
  rw[bX];split
  ·simp
  next hc=>
  rcases Mi.1 h with rfl|h
  ·exact absurd ((jZ _ _).2 a) hc
  exact uP a h
theorem FV{s:Sch}{ts:List Tp}{i j:Nat}{K:List (List V)}{L:List (List Nat)}{l:List Nat}(h:dh s ([],[]) 0 (ts.take i)=(K,L))(n:∀t∈ts,aG s t.vals≠ [])(o:L[j]? =some l):∃d tl f,l=d::tl/\ts[d]? =some f/\K[j]? =some (aG s f.vals):=by
 have m:=i8 (s:=s) (ts.take i) [] ([],[]) ⟨Z,fun t a=>(by cases a),fun k n=>(by cases n),List.Pairwise.nil⟩ fun t a=>n t (MC a)
 rw[Mo,h,M6]at m;have p:L=K.map fun k=>bX s k (ts.take i) 0:=m.bl
 rw[p,MQ]at o;obtain⟨k,b,rfl⟩:=Na.1 o;obtain⟨t,a,g⟩:=m.src k (L9 b);cases c:bX s k (ts.take i) 0 with
 |nil=>exact absurd c (uP g a)
 |cons d tl=>
  obtain⟨f,_,e,q⟩:=qu s k _ _ _ _ c;rw[O8,MZ]at e;split at e
  ·exact⟨d,tl,f,Z,e,by rw[b,q]⟩
  cases e
section
variable {w W:World} {base:Nat} {v v':Value} {vs:List Value} {L:List (List Nat)}
theorem Nest.new(h:Nest w base v vs L)(I:Below w.heap.size w W)(r:base<=w.heap.size){i x:Nat}{u:Value}(z:EIs W w.heap.size u [x])(D:W.ownsRow w.heap.size 23 1 v' (L.length+1) (vs.take i++[u]++vs.drop i))(O:∀g,v'.ownBlock=some g->NoDigB W g)(J:i<=L.length):
  Nest W base v' (vs.take i++[u]++vs.drop i) (L.take i++[[x]]++L.drop i):=by
 have Q:=h.len;have p:∀t∈vs,∀b,t.ownBlock=some b->b<w.heap.size:=fun t a b m=>(h.ok b (.inr ⟨t,a,m⟩)).2.1
 have G:=h.later I;refine⟨by rw[show(L.take i++[[x]]++L.drop i).length=L.length+1 by simp;omega];exact i6 D r,O,fun j t l a c=>?_,fun j k s t b C n a d f=>?_,fun t a b m e=>?_⟩
 ·rw[mT _ _ (by omega)]at a;rw[mT _ _ J]at c;by_cases B:j<i
  ·rw[if_pos B]at a c;exact G.el j t l a c
  rw[if_neg B]at a c;by_cases q:j=i
  ·rw[if_pos q]at a c;cases a;cases c;exact⟨i6 z.1 r,z.2⟩
  rw[if_neg q]at a c;exact G.el _ t l a c
 ·have key:∀(E:Nat) (A:Value),vs[E]? =some A->A.ownBlock=some b->u.ownBlock=some b->False:=fun E A B q K=>by
   have:=p A (L9 B) b q;have:=(z.1.lt b K).1;omega
  rw[mT _ _ (by omega)]at n a;by_cases F:j<i
  ·rw[if_pos F]at n;by_cases o:k<i
   ·rw[if_pos o]at a;exact h.apart j k s t b C n a d f
   rw[if_neg o]at a;by_cases y:k=i
   ·rw[if_pos y]at a;cases a;exact key _ _ n d f
   rw[if_neg y]at a;exact h.apart j (k-1) s t b (by omega) n a d f
  rw[if_neg F]at n;by_cases H:j=i
  ·rw[if_pos H]at n;cases n;by_cases o:k<i
   ·rw[if_pos o]at a;exact key _ _ a f d
   rw[if_neg o,if_neg (by omega)]at a;exact key _ _ a f d
  rw[if_neg H]at n;by_cases o:k<i
  ·rw[if_pos o]at a;exact h.apart (j-1) k s t b (by omega) n a d f
  rw[if_neg o]at a;by_cases y:k=i
  ·rw[if_pos y]at a;cases a;exact key _ _ n d f
  rw[if_neg y]at a;exact h.apart (j-1) (k-1) s t b (by omega) n a d f
 simp only[My,Ml]at a;have P:=(D.lt b e).1;rcases a with(a|rfl)|a
 ·have:=p t (MC a) b m;omega
 ·rcases z.1.2 with⟨rfl,_⟩|⟨g,N,cur,rfl,_,M,_⟩
  ·cases m
  injection m with m
  have q:g=b:=m;subst q;exact Ai D M (by decide) e
 have:=p t (M2 a) b m;omega
theorem Nest.ones(h:Nest w base v vs L):∀u∈vs,u.oneCell'=true/\bL u=true:=fun u b=>by
 obtain⟨j,a,rfl⟩:=Nb b;have f:=h.len;obtain⟨d,_⟩:=h.el j _ (L[j]'(by omega)) (L4 a) (L4 (by omega));obtain⟨A,c,e⟩:=cc d;rw[e];exact⟨Z,Z⟩
end
section
variable {w0 w1 W:World} {G0 G1:Nat->Prop} {vO v' u:Value} {vs:List Value} {L:List (List Nat)} {i x:Nat}
theorem Side.newL(h:Side w0 G0 w1 G1 vO vs L (.slice none 0 0) [] [])(d:Below w1.heap.size w1 W)(k:EIs W w1.heap.size u [x])(j:W.ownsRow w1.heap.size 23 1 v' (L.length+1) (vs.take i++[u]++vs.drop i))(m:∀g,v'.ownBlock=some g->NoDigB W g)(l:i<=L.length):
  Side w0 G0 W (oY G0 v' (vs.take i++[u]++vs.drop i) (.slice none 0 0)) v' (vs.take i++[u]++vs.drop i) (L.take i++[[x]]++L.drop i) (.slice none 0 0) [] []/\∀b,b<w1.heap.size->¬G1 b->W.heap[b]? =w1.heap[b]? /\¬oY G0 v' (vs.take i++[u]++vs.drop i) (.slice none 0 0) b:=by
 refine⟨⟨h.nest.new d h.below.size k j m l,KeyR.nil _ _ _,fun b d=>(by cases d),fun b=>OU,ak h.below d h.below.size,h.e0,h.ok0⟩,fun b e f=>⟨d.block b e,fun a=>?_⟩⟩;rcases a with a|a|a
 ·exact f ((h.g1 b).2 (.inl a))
 ·rcases a with a|⟨t,c,a⟩
  ·have:=(j.lt b a).1;omega
  simp only[My,Ml]at c;rcases c with(c|rfl)|c
  ·exact f ((h.g1 b).2 (.inr (.inl (.inr ⟨t,MC c,a⟩))))
  ·have:=(k.1.lt b a).1;omega
  exact f ((h.g1 b).2 (.inr (.inl (.inr ⟨t,M2 c,a⟩))))
 cases a
end
def PcR(B i n:Nat)(f:Value->List Value)(r:Value)(W:World):Prop:=∃d,B<=d/\W.heap[d]? =some (.cells #[.int .i64 (i:Nat)] 3 (0,0))/\W.ownsRow B 23 1 r n (f (.slice (some ⟨d,0,none⟩) 1 1))/\∀g,r.ownBlock=some g->NoDigB W g
theorem jC{W W':World}(a:Below W.heap.size W W'){d:Nat}{x:Obj}(h:W.heap[d]? =some x):W'.heap[d]? =some x:=by
 rw[a.block d (ML.1 h).1];exact h
theorem PcR.later{B i n:Nat}{f:Value->List Value}{r:Value}{W W':World}(h:PcR B i n f r W)(a:Below W.heap.size W W'):PcR B i n f r W':=by
 obtain⟨d,e,j,c,k⟩:=h;exact⟨d,e,jC a j,dz c a,fun g b=>(k g b).of (a.block g (c.lt g b).2)⟩
def Jt(B p i n:Nat)(vs:List Value)(O vS vP:Value):List (Value->World->Prop):=[
 fun r _=>r=O,
 fun r _=>r=.int .i64 (i:Nat),
 fun r W=>∃b,r=.slice (some ⟨b,0,none⟩) 1 1/\B<=b/\W.heap[b]? =some (.cells #[.int .i64 (i:Nat)] 3 (0,0)),
 fun r W=>∃b d,r=.slice (some ⟨b,0,none⟩) 1 1/\B<=d/\W.heap[d]? =some (.cells #[.int .i64 (i:Nat)] 3 (0,0))/\W.heap[b]? =some (.cells #[.slice (some ⟨d,0,none⟩) 1 1] 23 (0,0)),
 fun r W=>PcR B i (p+1) (fun u=>vs.take p++[u]) r W,
 fun r _=>r=vS,
 fun r _=>r=.int .i64 (p:Nat),
 fun r _=>r=vP,
 fun r W=>PcR B i (n+1) (fun u=>vs.take p++[u]++vs.drop p) r W,
 fun r W=>PcR B i (n+1) (fun u=>vs.take p++[u]++vs.drop p) r W]
theorem Dx(B p i n:Nat)(vs:List Value)(O j g:Value)(W:World):Stab W (Jt B p i n vs O j g):=
 .eq<|.eq<|.cons (fun _ _ _ _ ⟨b,c,e,f⟩ a=>⟨b,c,e,jC a f⟩)<|.cons (fun _ _ _ _ ⟨b,d,c,e,f,k⟩ a=>⟨b,d,c,e,jC a f,jC a k⟩)<|.cons (fun _ _ _ _ h a=>h.later a)<|.eq<|.eq<|.eq<|.cons (fun _ _ _ _ h a=>h.later a)<|.cons (fun _ _ _ _ h a=>h.later a)<|.nil
theorem Dy(B p i n:Nat)(vs:List Value)(O b a:Value):PureF (Jt B p i n vs O b a) [true,true,false,false,false,true,true,true,false,false]:=
 .eq<|.eq<|.any<|.any<|.any<|.eq<|.eq<|.eq<|.any<|.any<|.nil
theorem Az:(Tryz.prog.info? 23).map (fun i=>(i.zero,i.size,i.bytes))=some (some (.slice none 0 0),1,24):=by kernel_rfl
theorem o6{W:World}{B n m c:Nat}{v:Value}{xs news:List Value}{A:Option Addr}(q:W.ownsRow B 23 1 v n xs)(d:A=none->m=0/\c=0)(b:∀a,A=some a->∀j u,news[j]? =some u->W.cell? (a.add j)=some u)(p:news.length=m)(l:∀u∈news,u.oneCell'=true/\bL u=true)(t:n+m<=1000000)(r:B<=W.heap.size)(o:∀g,v.ownBlock=some g->NoDigB W g):
  ∃v' W',(Builtin.append_ #[98,98] 98 #[v,.slice A m c]).run Tryz.prog W=.ok v' W'/\W'.ownsRow B 23 1 v' (n+m) (xs++news)/\W.grownBy W' v.ownBlock/\(v'.ownBlock=v.ownBlock\/v'.ownBlock=some W.heap.size)/\∀g,v'.ownBlock=some g->NoDigB W' g:=by
 obtain⟨s,i,e,k,f⟩:=info_parts Az;exact mz (P:=Tryz.prog) W B 98 98 23 s (.slice none 0 0) 1 24 Tryz.underlying98 i e k f Z (by decide) v n xs q A m c news (by rw[p,Oh]) d b (fun u h=>(l u h).1) (by unfold maxLen;omega) (by omega) r (by decide) (Mh.2 fun u h=>(l u h).2) o
end Go.Proofs.YtfoejfohbkmmeaaGreatDoor
