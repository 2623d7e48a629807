import Derived.Test.YtfoejfohbkmmeaaGreatDoorK26
set_option maxRecDepth 100000
set_option maxHeartbeats 4000000
set_option linter.defProp false
open Go.Proofs.Tryz
namespace Go.Proofs.YtfoejfohbkmmeaaGreatDoor
open Go.RowKit
variable{α:Type}
def Av(q:Rat):Bool:=decide (0<=dk q)&&decide (0<=dk (1-q))
def Aw(q:Rat):(dk (q-1)==0)=(dk (1-q)==0):=by
 rw[TE,beq_iff_eq,beq_iff_eq,yd,yd];constructor
 ·intro h;have:q=1:=by grind
  subst this;grind
 intro h;have:q=1:=by grind
 subst this;grind
def we(cert:Bool)(q:Rat):((!Av q||decide (65536<cR q.den))||(cert&& !(dk (q-1)==0)))= !iw cert q:=by
 unfold Av iw;rw[Aw,show(dk (1-q) !=0)= !(dk (1-q)==0)from rfl,show decide (dk q<0)= !decide (0<=dk q) by rw[<-decide_not];exact decide_eq_decide.2 O,show decide (dk (1-q)<0)= !decide (0<=dk (1-q)) by rw[<-decide_not];exact decide_eq_decide.2 O,show decide (65536<cR q.den)= !decide (cR q.den<=65536) by rw[<-decide_not];exact decide_eq_decide.2 O];generalize decide (0<=dk q)=a;generalize decide (0<=dk (1-q))=b;generalize decide (cR q.den<=65536)=c;generalize (dk (1-q)==0)=d;cases a<;>cases b<;>cases c<;>cases d<;>cases cert<;>rfl
def eZ(l:List Col):Bool:=l.any (·.key)
def Ca(s:ByteArray):Ct 86 [sT s] (bT (j5 s)):=by
 refine Ct.of (n:=68) func86 Z Z Z Z Z λw0 G0=>?_
 refine X 1 Z<|H<|C<|M 1 (t:=nI s.size) Z (fK Z bu Z)<|aI 0 Z Z Zy (B (gF s.size 1))<|ax 1 Z<|N Z Z Z Z (λa=>K Z Z)<|N (t:=nI s.size) Z Z Z Z (λa=>fK Z bu (if_pos a))<|N Z Z Z Z (λa=>aj (aC Z (if_pos a) Z (λ_=>rfl)) (B (nZ s.size 24)))<|M 0 Z (dD Z Z Z Z)<|E<|aK Z (λd=>?_) (λd=>?_)
 ·refine X 1 Z<|aM ⟨Z,B (by unfold j5;simp only[Sm,decide_eq_true_eq]at d;rw[eq_comm,SZ,SZ];left;rcases d with h|h;exact .inl (decide_eq_false O0);exact .inr (decide_eq_false O0)),Z⟩ Z
 refine ar<|H<|X 1 Z<|aB<|aT (λo m=>∃(i:Nat),(i<=s.size/\∀j,j<i->Bv j (s.data.toList.getD j 0)=true)/\o=s.size-i/\m=⟨68,[(0,sT s),(3,nI i)],[],[]⟩) 0 0 ⟨0,⟨O0,λj l=>O0⟩,Z,Z⟩ .rf ?_;rintro o m ⟨i,⟨q,f⟩,rfl,rfl⟩;have p:s.size<=24:=by simp only[Rp,decide_eq_false_iff_not]at d;omega
 refine H<|C<|M 2 (t:=nI s.size) Z (fK Z bu Z)<|aI 0 Z Z Zy (B (gF i s.size))<|E<|ay Z (λg=>?_) (λg=>?_)
 ·obtain⟨c,b⟩:∃c,s.data.toList[i]? =some c:=⟨_,Q2 (by simpa using g)⟩;refine ar<|H<|aB<|C<|M 2 (t:=.sc (.int .u8 ((c.toNat:Nat):Int))) Z (eO Z bu Z Z Z b)<|aI 0 Z Z Zy (B (GC c.toNat 97))<|ax 1 Z<|N Z Z Z Z (λa=>K Z Z)<|N Z Z Z Z (λa=>K Z Z)<|N (t:=.sc (.int .u8 ((c.toNat:Nat):Int))) Z Z Z Z (λa=>eO Z bu (if_pos a) (if_pos a) Z b)<|N Z Z Z Z (λa=>aj (aC Z (if_pos a) Z (λ_=>rfl)) (B (IX c.toNat 122)))<|M 0 Z (cH Z Z Z Z)<|ax 1 Z<|N Z Z Z Z (λa=>K Z Z)<|N Z Z Z Z (λa=>K Z Z)<|N (t:=.sc (.int .u8 ((c.toNat:Nat):Int))) Z Z Z Z (λa=>eO Z bu (if_pos a) (if_pos a) Z b)<|N Z Z Z Z (λa=>aj (aC Z (if_pos a) Z (λ_=>rfl)) (B (GC c.toNat 65)))<|N Z Z Z Z (λa=>K Z (if_pos a))<|cl Z Z Z Z (λa=>K Z Z)<|cl Z Z Z Z (λa=>K Z Z)<|cl (t:=.sc (.int .u8 ((c.toNat:Nat):Int))) Z Z Z Z (λa=>eO Z bu (if_pos a) (if_pos a) Z b)<|cl Z Z Z Z (λa=>aj (aC Z (if_pos a) Z (λ_=>rfl)) (B (IX c.toNat 90)))<|N (t:=bT ((decide (65<=c.toNat))&&(decide (c.toNat<=90)))) Z Z Z Z (λa=>fJ Z (if_pos a) (λe=>(if_pos ⟨a,e⟩).trans (B (by rw[e];rfl))) (λe=>(B (by rw[e];rfl))))<|M 0 Z (dD Z Z Z Z)<|Y 1 Z<|C<|M 2 (t:=.sc (.int .u8 ((c.toNat:Nat):Int))) Z (eO Z bu Z Z Z b)<|aI 0 Z Z Zy (B (GC c.toNat 48))<|ax 1 Z<|N Z Z Z Z (λa=>K Z Z)<|N Z Z Z Z (λa=>K Z Z)<|N (t:=.sc (.int .u8 ((c.toNat:Nat):Int))) Z Z Z Z (λa=>eO Z bu (if_pos a) (if_pos a) Z b)<|N Z Z Z Z (λa=>aj (aC Z (if_pos a) Z (λ_=>rfl)) (B (IX c.toNat 57)))<|M 0 Z (cH Z Z Z Z)<|ax 1 Z<|N Z Z Z Z (λa=>K Z Z)<|N Z Z Z Z (λa=>K Z Z)<|N (t:=.sc (.int .u8 ((c.toNat:Nat):Int))) Z Z Z Z (λa=>eO Z bu (if_pos a) (if_pos a) Z b)<|N Z Z Z Z (λa=>aj (aC Z (if_pos a) Z (λ_=>rfl)) (B (gL c.toNat 95)))<|M 0 Z (dD Z Z Z Z)<|Y 1 Z<|C<|M 1 (t:=bT (!(((decide (97<=c.toNat))&&(decide (c.toNat<=122)))||((decide (65<=c.toNat))&&(decide (c.toNat<=90)))))) Z (dm Z Z Zy)<|ax 1 Z<|N Z Z Z Z (λa=>K Z Z)<|N Z Z Z Z (λa=>aj (aC Z (if_pos a) Z (λ_=>rfl)) (B (gL i 0)))<|N Z Z Z Z (λa=>K Z (if_pos a))<|cl Z Z Z Z (λa=>K Z Z)<|cl (t:=bT (!(((decide (48<=c.toNat))&&(decide (c.toNat<=57)))||(decide (c.toNat=95))))) Z Z Z Z (λa=>dm Z (if_pos a) (λ_=>rfl))<|N (t:=bT ((decide (i=0))||(!(((decide (48<=c.toNat))&&(decide (c.toNat<=57)))||(decide (c.toNat=95)))))) Z Z Z Z (λa=>fJ Z (if_pos a) (λe=>(B (by rw[e];rfl))) (λe=>(if_pos ⟨a,e⟩).trans (B (by rw[e];rfl))))<|M 0 Z (cH Z Z Z Z)<|E<|aK Z (λk=>?_) (λk=>?_)
  ·refine X 1 Z<|aM ⟨Z,B (ya b g (by unfold Bv Bt Bu;revert k;generalize (decide (97<=c.toNat)&&decide (c.toNat<=122))=p1;generalize (decide (65<=c.toNat)&&decide (c.toNat<=90))=p2;generalize (decide (48<=c.toNat)&&decide (c.toNat<=57))=p3;generalize decide (c.toNat=95)=p4;rw[decide_not];generalize decide (i=0)=z;cases p1<;>cases p2<;>cases p3<;>cases p4<;>cases z<;>simp)).symm,Z⟩ Z
  refine ar<|am<|a8 1 (i+1) Z Z Zy O0<|Y 1 Z<|⟨_,_,?_,⟨i+1,?_,Z,Z⟩,.rf⟩
  ·omega
  refine⟨O0,λj l=>?_⟩;rcases RE j i with h|h
  ·exact f j h
  obtain rfl:j=i:=O0
  rw[Rr,b,RH];unfold Bv Bt Bu;revert k;generalize (decide (97<=c.toNat)&&decide (c.toNat<=122))=p1;generalize (decide (65<=c.toNat)&&decide (c.toNat<=90))=p2;generalize (decide (48<=c.toNat)&&decide (c.toNat<=57))=p3;generalize decide (c.toNat=95)=p4;rw[decide_not];generalize decide (j=0)=z;cases p1<;>cases p2<;>cases p3<;>cases p4<;>cases z<;>simp
 refine aX<|X 1 Z<|aM ⟨Z,B (by unfold j5;rw[eq_comm,Q9,Q9];simp only[Rp,decide_eq_false_iff_not]at d;exact⟨⟨decide_eq_true O0,decide_eq_true O0⟩,Rl.2 λj l=>f j (by have:=Tr.1 l;omega)⟩),Z⟩ Z
def wg(s:Sch):Ct 31 [s.tree] (bT (im s)):=by
 refine Ct.of (n:=70) func31 Z Z Z Z Z λw0 G0=>?_
 refine X 2 Z<|H<|C<|M 2 Z (D Z (Ca _) Z Z)<|M 0 (t:=bT (!(j5 s.name))) Z (dm Z Z Zy)<|ax 1 Z<|N Z Z Z Z (λa=>aq Z Z cP Z)<|N Z Z Z Z (λa=>av Z (if_pos a) Z d9 Z)<|N Z Z Z Z (λa=>aU Z bk (if_pos a))<|N Z Z Z Z (λa=>aj (aC Z (if_pos a) Z (λ_=>rfl)) (B (gF s.cols.length 1)))<|M 0 Z (dD Z Z Z Z)<|ax 1 Z<|N Z Z Z Z (λa=>aq Z Z cP Z)<|N Z Z Z Z (λa=>av Z (if_pos a) Z d9 Z)<|N Z Z Z Z (λa=>aU Z bk (if_pos a))<|N Z Z Z Z (λa=>aj (aC Z (if_pos a) Z (λ_=>rfl)) (B (nZ s.cols.length 6)))<|M 0 Z (dD Z Z Z Z)<|E<|aK Z (λg=>?_) (λg=>?_)
 ·refine X 1 Z<|aM ⟨Z,B (by unfold im nd;rw[g];rfl),Z⟩ Z
 refine ar<|H<|X 1 Z<|aB<|aT (λy q=>∃(i:Nat),(i<=s.cols.length/\ik s.cert (s.cols.take i) (s.cols.drop i)=ik s.cert [] s.cols)/\y=s.cols.length-i/\q=⟨70,[(1,.box 0 0),(3,nI i)],[(26,(gC s))],[]⟩) 1 0 ⟨0,⟨O0,Z⟩,Z,Z⟩ .rf ?_;rintro y q ⟨i,⟨G,b⟩,rfl,rfl⟩;have F:s.cols.length<=6:=by simp only[Rp,decide_eq_false_iff_not]at g;omega
 refine H<|C<|M 3 Z (aU Z bk Z)<|aI 0 Z Z Zy (B (gF i s.cols.length))<|E<|ay Z (λr=>?_) (λr=>?_)
 ·obtain⟨c,v⟩:∃c,s.cols[i]? =some c:=⟨_,Q2 r⟩;rw[qZ v]at b;refine ar<|H<|aB<|C<|M 3 (t:=.ref [sT c.name,iT c.ty,bT c.key]) Z (aO (Col.tree c) Z bk Z Z Z (bd (f:=Col.tree) v) (eP _) Z)<|Y 3 Z<|H<|C<|M 2 Z (D Z (Ca _) Z Z)<|M 0 (t:=bT (!(j5 c.name))) Z (dm Z Z Zy)<|ax 1 Z<|N Z Z Z Z (λa=>aq Z Z fN Z)<|N Z Z Z Z (λa=>av Z (if_pos a) Z fq Z)<|N (t:=bT (c.ty !=1)) Z Z Z Z (λa=>aC Z (if_pos a) Z (λ_=>rfl))<|N Z Z Z Z (λa=>K Z (if_pos a))<|cl Z Z Z Z (λa=>aq Z Z fN Z)<|cl Z Z Z Z (λa=>av Z (if_pos a) Z fq Z)<|cl (t:=bT (c.ty !=2)) Z Z Z Z (λa=>aC Z (if_pos a) Z (λ_=>rfl))<|N (t:=bT ((c.ty !=1)&&(c.ty !=2))) Z Z Z Z (λa=>fJ Z (if_pos a) (λe=>(if_pos ⟨a,e⟩).trans (B (by rw[e];rfl))) (λe=>(B (by rw[e];rfl))))<|M 0 Z (dD Z Z Z Z)<|ax 1 Z<|N Z Z Z Z (λa=>aq Z Z fM Z)<|N Z Z Z Z (λa=>av Z (if_pos a) Z eG Z)<|N Z Z Z Z (λa=>K Z (if_pos a))<|cl Z Z Z Z (λa=>aq Z Z jk Z)<|cl Z Z Z Z (λa=>av Z (if_pos a) Z eG Z)<|N (t:=bT (s.cert&&c.key)) Z Z Z Z (λa=>fJ Z (if_pos a) (λe=>(if_pos ⟨a,e⟩).trans (B (by rw[e];rfl))) (λe=>(B (by rw[e];rfl))))<|M 0 Z (dD Z Z Z Z)<|E<|aK Z (λm=>?_) (λm=>?_)
  ·refine X 1 Z<|aM ⟨Z,B (by unfold im;rw[<-b];unfold m9;rw[m];simp),Z⟩ Z
  refine ar<|X 1 Z<|aB<|aT (λy q=>∃(j:Nat),(j<=i/\∀(k:Nat) (d:Col),k<j->s.cols[k]? =some d->(d.name.toList==c.name.toList)=false)/\y=i-j/\q=⟨70,[(1,.box 0 0),(3,nI i),(4,.box 1 0),(5,nI j)],[(26,(gC s)),(58,[sT c.name,iT c.ty,bT c.key])],[]⟩) 2 0 ⟨0,⟨O0,λk d h=>O0⟩,Z,Z⟩ .rf ?_;rintro y q ⟨j,⟨I,l⟩,rfl,rfl⟩;refine H<|C<|aI 2 Z Z Zy (B (gF j i))<|E<|ay Z (λu=>?_) (λu=>?_)
  ·obtain⟨d,p⟩:∃d,s.cols[j]? =some d:=⟨_,Q2 O0⟩;refine ar<|H<|aB<|H<|cB (fu:=9) _ [.box 0 2,.sl (s.cols.map Col.tree),nI j,.ref [sT d.name,iT d.ty,bT d.key],.ref [sT d.name,iT d.ty,bT d.key],sT d.name,.box 1 0,sT c.name,bT (d.name.toList==c.name.toList)] U0 Z Z U0 Z ?_ ?_
   ·refine Chain.op Z (aq Z Z cP Z)<|Chain.op Z (av Z Z Z d9 Z)<|Chain.op Z (K Z Z)<|Chain.op Z (aO (Col.tree d) Z bk Z Z Z (bd (f:=Col.tree) p) (eP _) Z)<|Chain.op Z (bL Z Z ns Z)<|Chain.op Z (bi Z Z kx Z)<|Chain.op Z (aq Z Z ns Z)<|Chain.op Z (av Z Z Z kx Z)<|Chain.op Z (aC Z Z Z Zy)<|Chain.nil
   refine aK Z (λo=>?_) (λo=>?_)
   ·refine X 1 Z<|aM ⟨Z,B (by unfold im;rw[<-b,show(s.cols.take i).any (λd=>d.name.toList==c.name.toList)=true from TX.2 ⟨d,Q8 (jQ p u),o⟩];simp),Z⟩ Z
   refine ar<|am<|a8 1 (j+1) Z Z Zy O0<|Y 1 Z<|⟨_,_,?_,⟨j+1,?_,Z,Z⟩,.rf⟩
   ·omega
   refine⟨O0,λk x h w=>?_⟩;rcases RE k j with z|z
   ·exact l k x z w
   obtain rfl:k=j:=O0
   rw[p]at w;cases w;exact o
  refine aX<|am<|a8 1 (i+1) Z Z Zy O0<|Y 1 Z<|⟨_,_,?_,⟨i+1,?_,Z,Z⟩,.rf⟩
  ·omega
  refine⟨O0,?_⟩;rw[<-b,show m9 s.cert c=false from m,Tg.2 λx w=>?_]
  ·simp
  obtain⟨k,A,rfl⟩:=Sl w;exact by simpa using l k _ (by rw[Rb]at A;omega) (Q2 (by rw[Rb]at A;omega))
 refine aX<|X 1 Z<|aM ⟨Z,B (by unfold im;rw[show nd s=false from g,<-b,Rc O0];rfl),Z⟩ Z
def M6(q:Rat)(b:Fit 262144 q):Ct 96 [dw q] (bT (Av q)):=by
 refine Ct.of (n:=12) func96 Z Z Z Z Z λw0 G0=>?_
 refine X 2 Z<|C<|M 1 Z (D Z (ry _ (b.mono I1)) Z Z)<|M 0 (t:=bT (decide ((dk q)≥0))) Z (aC Z Z Z Zy)<|ax 1 Z<|N Z Z Z Z (λa=>aN Z Z Z aH Z Z)<|N Z Z Z Z (λa=>D Z (Hv _ b) (dN (if_pos a) Z) Z)<|N Z Z Z Z (λa=>D Z (ry _ ((lI oZ b).mono I1)) (dN (if_pos a) Z) Z)<|N (t:=bT (decide ((dk (1-q))≥0))) Z Z Z Z (λa=>aC Z (if_pos a) Z (λ_=>rfl))<|M 0 Z (cH Z Z Z Z)<|Y 1 Z<|aM ⟨Z,B Z,Z⟩ Z
def Gb{S:St}{o:Oper}{op:BinOp}{g p:TypeId}{x y:Operand}(vs us:List Value){v:Value}(f:o.op=.binOp op g x y p)(k:S.ev x=.agg (vs.map .sc))(n:S.ev y=.agg (us.map .sc))(h:∀w,(do eqGuard op g x y (.agg vs.toArray) (.agg us.toArray);binOp op g (.agg vs.toArray) (.agg us.toArray):Sem Value).run prog w=.ok v w):OpOK o S (.sc v):=by
 intro w0 G0 bx rv w T q j;have key:∀{E:En} {xs vs:List Value},FT E xs (vs.map .sc)->xs=vs:=by
  intro E xs vs h;induction vs generalizing xs with
  |nil=>cases h;rfl
  |cons a l ih=>
   cases xs with
   |nil=>cases h
   |cons b m=>
    have c:=h.head.isSc;rw[c,ih h.tail]
 obtain⟨xs,c,d⟩:=(bP j k (by rw[f];simp[Op.operands])).isAgg;obtain⟨r,i,e⟩:=(bP j n (by rw[f];simp[Op.operands])).isAgg;rw[key d]at c;rw[key e]at i;refine aE (v:=v) (W':=w) ?_ ⟨.pure (.sc _ .nil) .nil,Below.refl _ _⟩;simp only[execOp,f,c,i];rw[Sem.run_bind,h w];rfl
def V.eqB(a b:V):Bool:=a.t==b.t&&a.n==b.n&&a.s.toList==b.s.toList
def Col.eqB(a b:Col):Bool:=a.name.toList==b.name.toList&&a.ty==b.ty&&a.key==b.key
def KJ{x y:Operand}(a b:Int)(s:ByteArray)(c d:Int)(u:ByteArray)(w:World):(do eqGuard .neq 77 x y (.agg #[.int .i64 a,.int .i64 b,.string s]) (.agg #[.int .i64 c,.int .i64 d,.string u]);binOp .neq 77 (.agg #[.int .i64 a,.int .i64 b,.string s]) (.agg #[.int .i64 c,.int .i64 d,.string u]):Sem Value).run prog w=.ok (.bool (!(a==c&&b==d&&s.toList==u.toList))) w:=by
 go_simp;by_cases e:a=c<;>by_cases f:b=d<;>by_cases g:s.toList=u.toList<;>simp[e,f,g]
def KK{x y:Operand}(a:ByteArray)(b:Int)(s:Bool)(c:ByteArray)(d:Int)(u:Bool)(w:World):(do eqGuard .neq 58 x y (.agg #[.string a,.int .i64 b,.bool s]) (.agg #[.string c,.int .i64 d,.bool u]);binOp .neq 58 (.agg #[.string a,.int .i64 b,.bool s]) (.agg #[.string c,.int .i64 d,.bool u]):Sem Value).run prog w=.ok (.bool (!(a.toList==c.toList&&b==d&&s==u))) w:=by
 go_simp;by_cases e:a.toList=c.toList<;>by_cases f:b=d<;>by_cases g:s=u<;>simp[e,f,g]
def mz{α:Type}(f:α->α->Bool):List α->List α->Bool
 |[],[]=>true
 |a::l,b::m=>f a b&&mz f l m
 |_,_=>false
def wh{f:α->α->Bool}{l m:List α}{i:Nat}{a b:α}(e:l[i]? =some a)(g:m[i]? =some b):mz f (l.drop i) (m.drop i)=(f a b&&mz f (l.drop (i+1)) (m.drop (i+1))):=by
 obtain⟨c,rfl⟩:=Q6.1 e;obtain⟨d,rfl⟩:=Q6.1 g;rw[Re c,Re d,mz]
def Az{f:α->α->Bool}:∀{l m:List α},l.length≠m.length->mz f l m=false
 |[],[],h=>absurd Z h
 |[],_::_,_=>rfl
 |_::_,[],_=>rfl
 |a::l,b::m,h=>by rw[mz,Az (by simpa using h),UL]
def AA{f:α->α->Bool}{l m:List α}{i:Nat}(h:l.length=m.length)(a:¬i<l.length):mz f (l.drop i) (m.drop i)=true:=by
 rw[Rc O,Rc O];rfl
def ui{f:α->α->Bool}(c:∀a b,f a b=true↔a=b):∀{l m:List α},mz f l m=true↔l=m
 |[],[]=>by simp[mz]
 |[],_::_=>by simp[mz]
 |_::_,[]=>by simp[mz]
 |a::l,b::m=>by rw[mz,Q9,c,ui c,T4]
def sM{a b:ByteArray}(h:a.toList=b.toList):a=b:=by
 have:a.data.toList=b.data.toList:=by rw[<-Lib.toList_data,<-Lib.toList_data,h]
 apply UQ;exact Array.toList_inj.1 this
def Hx(a b:V):a.eqB b=true↔a=b:=by
 unfold V.eqB;simp only[Q9,beq_iff_eq];constructor
 ·rintro⟨⟨c,d⟩,e⟩;cases a;cases b;simp only at c d e;rw[c,d,sM e]
 rintro rfl;exact⟨⟨Z,Z⟩,Z⟩
def Cb(a b:Col):a.eqB b=true↔a=b:=by
 unfold Col.eqB;simp only[Q9,beq_iff_eq];constructor
 ·rintro⟨⟨c,d⟩,e⟩;cases a;cases b;simp only at c d e;rw[d,e,sM c]
 rintro rfl;exact⟨⟨Z,Z⟩,Z⟩
def km(a b:Sch):Bool:= !(((!(a.name.toList==b.name.toList))||(a.cert !=b.cert))||decide (a.cols.length≠b.cols.length))&&mz Col.eqB a.cols b.cols
def Tp.eqB(a b:Tp):Bool:=mz V.eqB a.vals b.vals&&decide (a.prob=b.prob)
def pd(a b:Rel):Bool:=km a.sch b.sch&&mz Tp.eqB a.tups b.tups
def Cc(a b:Rel):pd a b=true↔a=b:=by
 have j:∀{l m:List V},mz V.eqB l m=true↔l=m:=λ{l m}=>ui Hx
 have i:∀x y:Tp,x.eqB y=true↔x=y:=λx y=>by
  unfold Tp.eqB;rw[Q9,j,decide_eq_true_eq];constructor
  ·rintro⟨c,d⟩;cases x;cases y;simp only at c d;rw[c,d]
  rintro rfl;exact⟨Z,Z⟩
 unfold pd km;rw[Q9,ui i,Q9,ui Cb];constructor
 ·rintro⟨⟨c,d⟩,e⟩;simp only[Sk,Rp,UO,beq_iff_eq,bne_eq_false_iff_eq]at c;obtain⟨⟨f,g⟩,_⟩:=c;obtain⟨⟨o,k,n⟩,h⟩:=a;obtain⟨⟨r,p,q⟩,s⟩:=b;simp only at d e f g;rw[d,e,g,sM f]
 rintro rfl;simp
def Gc(s:Sch)(vs:List V)(x:vs.length<=65536):Ct 164 [s.tree,.sl (vs.map V.tree)] (.sl ((aR s vs).map V.tree)):=by
 refine Ct.of (n:=33) func164 Z Z Z Z Z λw0 G0=>?_
 refine C<|M 1 (t:=.sl []) Z (bz (.inr Z) bS)<|E<|H<|C<|M 1 Z (aU Z bI Z)<|M 2 Z (aU Z bk Z)<|aI 0 Z Z Zy (B (od vs.length s.cols.length))<|E<|ay Z (λd=>?_) (λd=>?_)
 ·refine C<|M 0 (t:=.sl []) Z (bz (.inr Z) bS)<|E<|aM ⟨Z,Qv (by unfold aR;rw[if_neg d]) (l:=[]),Z⟩ Z
 have m:vs.length=s.cols.length:=SL.1 d;refine ar<|C<|gc (k:=0) (e:=77) (sz:=3) (rs':=[some ⟨77,3,[],false⟩]) (.inr Z) Z Z Z Z Z<|E<|H<|X 1 Z<|aB<|aT (λu p=>∃(i:Nat) (b:List V),(i<=vs.length/\b.length<=i/\b++eT (s.cols.drop i) (vs.drop i)=eT s.cols vs)/\u=vs.length-i/\p=⟨33,[(1,.sl (vs.map V.tree)),(2,.box 0 0),(5,.own 0),(6,nI i)],[(26,(gC s))],[some ⟨77,3,b.map V.tree,false⟩]⟩) 1 1 ⟨0,[],⟨O0,F0,Z⟩,Z,Z⟩ .rf ?_;rintro u p ⟨i,b,⟨w,q,a⟩,rfl,rfl⟩;refine H<|C<|M 2 Z (aU Z bI Z)<|aI 0 Z Z Zy (B (gF i vs.length))<|E<|ay Z (λh=>?_) (λh=>?_)
 ·obtain⟨v,o⟩:∃v,vs[i]? =some v:=⟨_,Q2 h⟩;obtain⟨c,j⟩:∃c,s.cols[i]? =some c:=⟨_,Q2 O0⟩;rw[tj j o]at a;refine ar<|H<|aB<|C<|M 3 (t:=.ref [sT c.name,iT c.ty,bT c.key]) Z (aO (Col.tree c) Z bk Z Z Z (bd (f:=Col.tree) j) (eP _) Z)<|Y 2 Z<|aK Z (λg=>?_) (λg=>?_)
  ·rw[if_pos g]at a;refine am<|M 3 (t:=.ref [iT v.t,iT v.n,sT v.s]) Z (aO (V.tree v) Z bI Z Z Z (bd (f:=V.tree) o) (gN _) Z)<|M 1 (t:=.sl [.agg [iT v.t,iT v.n,sT v.s]]) Z (aS Z bI gp Z I1 I1 Z Z Z Z Z)<|a7 (bs':=[(26,(gC s))]) (rs':=[some ⟨77,3,(b++[v]).map V.tree,false⟩]) Z Z Z Z iM Z Z Z Z (by intro e r;simp only[Ri,RM,or_false]at r;subst r;rfl) (AllC.lit Z) (AllC.lit Z) (by simp only[Rn,Q5,Ra];omega) Z Z Z (by rw[Sn];rfl)<|Y 1 Z<|am<|a8 1 (i+1) Z Z Zy O0<|Y 1 Z<|⟨_,_,?_,⟨i+1,(b++[v]),?_,Z,Z⟩,.rf⟩
   ·omega
   exact⟨O0,by first|omega|(simp only[Q4,Q5,Ra];omega),by first|exact a|(rw[<-a];simp)⟩
  rw[if_neg (by rw[g];exact R0)]at a;refine ar<|am<|a8 1 (i+1) Z Z Zy O0<|Y 1 Z<|⟨_,_,?_,⟨i+1,b,?_,Z,Z⟩,.rf⟩
  ·omega
  exact⟨O0,by first|omega|(simp only[Q4,Q5,Ra];omega),by first|exact a|(rw[<-a];simp)⟩
 refine dp 0 (bs':=[(26,(gC s))]) (rs':=[none]) Z Z Z Z<|aX<|X 2 Z<|aM ⟨Z,Qv (by unfold aR;rw[if_pos m,<-a,Rc O0];simp[eT]),Z⟩ Z
def Ev(s:Sch)(q:s.cols.length<=65536):Ct 163 [s.tree] (bT (eZ s.cols)):=by
 refine Ct.of (n:=17) func163 Z Z Z Z Z λw0 G0=>?_
 refine X 2 Z<|H<|X 1 Z<|aB<|aT (λm j=>∃(i:Nat),(i<=s.cols.length/\∀(k:Nat) (c:Col),k<i->s.cols[k]? =some c->c.key=false)/\m=s.cols.length-i/\j=⟨17,[(1,.box 0 0),(3,nI i)],[(26,(gC s))],[]⟩) 1 0 ⟨0,⟨O0,λk c h=>O0⟩,Z,Z⟩ .rf ?_;rintro m j ⟨i,⟨p,a⟩,rfl,rfl⟩;refine H<|C<|M 3 Z (aU Z bk Z)<|aI 0 Z Z Zy (B (gF i s.cols.length))<|E<|ay Z (λe=>?_) (λe=>?_)
 ·obtain⟨c,d⟩:∃c,s.cols[i]? =some c:=⟨_,Q2 e⟩;refine ar<|H<|aB<|C<|M 3 (t:=.ref [sT c.name,iT c.ty,bT c.key]) Z (aO (Col.tree c) Z bk Z Z Z (bd (f:=Col.tree) d) (eP _) Z)<|Y 2 Z<|aK Z (λb=>?_) (λb=>?_)
  ·refine X 1 Z<|aM ⟨Z,B (TX.2 ⟨c,Q8 d,b⟩).symm,Z⟩ Z
  refine ar<|am<|a8 1 (i+1) Z Z Zy O0<|Y 1 Z<|⟨_,_,?_,⟨i+1,?_,Z,Z⟩,.rf⟩
  ·omega
  refine⟨O0,λk x h g=>?_⟩;rcases RE k i with l|l
  ·exact a k x l g
  obtain rfl:k=i:=O0
  rw[d]at g;cases g;exact b
 refine aX<|X 1 Z<|aQ<|⟨.inr Z,_,.cons Z .nil,B (by unfold eZ;rw[eq_comm,Tg];intro x g;obtain⟨k,o,rfl⟩:=Sl g;rw[a k _ O0 (Q2 o)];simp),Z⟩
def KL(r:Rel)(vs:List V)(k:vs.length<=65536)(m:r.tups.length<=65536)(e:∀t∈r.tups,t.vals.length<=65536):Ct 92 [r.tree,.sl (vs.map V.tree)] (yl (nS vs r.tups 0)):=by
 refine Ct.of (n:=24) func92 Z Z Z Z Z λw0 G0=>?_
 refine X 3 Z<|H<|X 1 Z<|aB<|aT (λj h=>∃(i:Nat),(i<=r.tups.length/\nS vs (r.tups.drop i) i=nS vs r.tups 0)/\j=r.tups.length-i/\h=⟨24,[(1,.sl (vs.map V.tree)),(2,.box 0 0),(6,nI i)],[(30,(bQ r))],[]⟩) 1 0 ⟨0,⟨O0,Z⟩,Z,Z⟩ .rf ?_;rintro j h ⟨i,⟨l,a⟩,rfl,rfl⟩;refine H<|C<|M 3 Z (aU Z aV Z)<|aI 0 Z Z Zy (B (gF i r.tups.length))<|E<|ay Z (λd=>?_) (λd=>?_)
 ·obtain⟨t,c⟩:∃t,r.tups[i]? =some t:=⟨_,Q2 d⟩;have g:=e t (Q8 c);rw[vC c]at a;refine ar<|H<|aB<|C<|M 3 (t:=.ref (eA t)) Z (aO (Tp.tree t) Z aV Z Z Z (bd (f:=Tp.tree) c) (c6 _) Z)<|M 3 Z (D Z (nk _ _ g k) Z Z)<|M 0 (t:=bT ((bw t.vals vs)==0)) Z (aC Z Z Z Zy)<|E<|aK Z (λb=>?_) (λb=>?_)
  ·refine X 3 Z<|aQ<|⟨.inr Z,_,.cons Z (.cons Z .nil),by unfold yl;rw[<-a,if_pos (by simpa using b)];rfl,Z⟩
  refine ar<|am<|a8 1 (i+1) Z Z Zy O0<|Y 1 Z<|⟨_,_,?_,⟨i+1,?_,Z,Z⟩,.rf⟩
  ·omega
  exact⟨O0,by rw[<-a,if_neg (by simpa using b)]⟩
 refine aX<|X 2 Z<|aQ<|⟨.inr Z,_,.cons Z (.cons Z .nil),by unfold yl;rw[<-a,Rc O0];rfl,Z⟩
def KM(l m:List V)(p:l.length<=65536)(q:m.length<=65536):Ct 44 [.sl (l.map V.tree),.sl (m.map V.tree)] (bT (mz V.eqB l m)):=by
 refine Ct.of (n:=26) func44 Z Z Z Z Z λw0 G0=>?_
 refine X 1 Z<|H<|C<|M 1 Z (aU Z bI Z)<|M 1 Z (aU Z bI Z)<|aI 0 Z Z Zy (B (od l.length m.length))<|E<|ay Z (λb=>?_) (λb=>?_)
 ·refine X 1 Z<|aM ⟨Z,B (Az b).symm,Z⟩ Z
 have e:l.length=m.length:=SL.1 b;refine ar<|H<|X 1 Z<|aB<|aT (λk j=>∃(i:Nat),(i<=l.length/\mz V.eqB (l.drop i) (m.drop i)=mz V.eqB l m)/\k=l.length-i/\j=⟨26,[(0,.sl (l.map V.tree)),(1,.sl (m.map V.tree)),(5,nI i)],[],[]⟩) 0 0 ⟨0,⟨O0,Z⟩,Z,Z⟩ .rf ?_;rintro k j ⟨i,⟨o,a⟩,rfl,rfl⟩;refine H<|C<|M 2 Z (aU Z bI Z)<|aI 0 Z Z Zy (B (gF i l.length))<|E<|ay Z (λc=>?_) (λc=>?_)
 ·obtain⟨x,g⟩:∃x,l[i]? =some x:=⟨_,Q2 c⟩;obtain⟨y,h⟩:∃x,m[i]? =some x:=⟨_,Q2 O0⟩;rw[wh g h]at a;refine ar<|H<|aB<|H<|cB (fu:=9) _ [.sl (l.map V.tree),nI i,.ref [iT x.t,iT x.n,sT x.s],.agg [iT x.t,iT x.n,sT x.s],.sl (m.map V.tree),nI i,.ref [iT y.t,iT y.n,sT y.s],.agg [iT y.t,iT y.n,sT y.s],bT (!(V.eqB x y))] U0 Z Z U0 Z ?_ ?_
  ·refine Chain.op Z (K Z Z)<|Chain.op Z (K Z Z)<|Chain.op Z (aO (V.tree x) Z bI Z Z Z (bd (f:=V.tree) g) (gN _) Z)<|Chain.op Z (dt Z Z fB Z Z)<|Chain.op Z (K Z Z)<|Chain.op Z (K Z Z)<|Chain.op Z (aO (V.tree y) Z bI Z Z Z (bd (f:=V.tree) h) (gN _) Z)<|Chain.op Z (dt Z Z fB Z Z)<|Chain.op Z (Gb [.int .i64 x.t,.int .i64 x.n,.string x.s] [.int .i64 y.t,.int .i64 y.n,.string y.s] Z Z Z (λw=>KJ _ _ _ _ _ _ w))<|Chain.nil
  refine aK Z (λd=>?_) (λd=>?_)
  ·refine X 1 Z<|aM ⟨Z,B (by rw[<-a,show V.eqB x y=false by simpa using d];rfl),Z⟩ Z
  refine ar<|am<|a8 1 (i+1) Z Z Zy O0<|Y 1 Z<|⟨_,_,?_,⟨i+1,?_,Z,Z⟩,.rf⟩
  ·omega
  exact⟨O0,by rw[<-a,show V.eqB x y=true by simpa using d,Tx]⟩
 refine aX<|X 1 Z<|aM ⟨Z,B (by rw[<-a,AA e c]),Z⟩ Z
def KN(a b:Sch)(r:a.cols.length<=65536)(s:b.cols.length<=65536):Ct 43 [a.tree,b.tree] (bT (km a b)):=by
 refine Ct.of (n:=45) func43 Z Z Z Z Z λw0 G0=>?_
 refine X 3 Z<|H<|C<|M 4 (t:=bT (!(a.name.toList==b.name.toList))) Z (aC Z Z Z Zy)<|ax 1 Z<|N Z Z Z Z (λc=>aq Z Z fM Z)<|N Z Z Z Z (λc=>av Z (if_pos c) Z eG Z)<|N Z Z Z Z (λc=>aq Z Z fM Z)<|N Z Z Z Z (λc=>av Z (if_pos c) Z eG Z)<|N (t:=bT (a.cert !=b.cert)) Z Z Z Z (λc=>aC Z (if_pos c) (if_pos c) (λ_=>rfl))<|M 0 Z (dD Z Z Z Z)<|ax 1 Z<|N Z Z Z Z (λc=>aq Z Z cP Z)<|N Z Z Z Z (λc=>av Z (if_pos c) Z d9 Z)<|N Z Z Z Z (λc=>aU Z bk (if_pos c))<|N Z Z Z Z (λc=>aq Z Z cP Z)<|N Z Z Z Z (λc=>av Z (if_pos c) Z d9 Z)<|N Z Z Z Z (λc=>aU Z bk (if_pos c))<|N Z Z Z Z (λc=>aj (aC Z (if_pos c) (if_pos c) (λ_=>rfl)) (B (od a.cols.length b.cols.length)))<|M 0 Z (dD Z Z Z Z)<|E<|aK Z (λe=>?_) (λe=>?_)
 ·refine X 1 Z<|aM ⟨Z,B (by unfold km;rw[e];rfl),Z⟩ Z
 have j:a.cols.length=b.cols.length:=by have p:=(Rp.1 e).2;simpa using p
 refine ar<|H<|X 1 Z<|aB<|aT (λo m=>∃(i:Nat),(i<=a.cols.length/\mz Col.eqB (a.cols.drop i) (b.cols.drop i)=mz Col.eqB a.cols b.cols)/\o=a.cols.length-i/\m=⟨45,[(2,.box 0 0),(3,.box 1 0),(5,nI i)],[(26,(gC a)),(26,(gC b))],[]⟩) 2 0 ⟨0,⟨O0,Z⟩,Z,Z⟩ .rf ?_;rintro o m ⟨i,⟨q,d⟩,rfl,rfl⟩;refine H<|C<|M 3 Z (aU Z bk Z)<|aI 0 Z Z Zy (B (gF i a.cols.length))<|E<|ay Z (λg=>?_) (λg=>?_)
 ·obtain⟨x,k⟩:∃x,a.cols[i]? =some x:=⟨_,Q2 g⟩;obtain⟨y,l⟩:∃x,b.cols[i]? =some x:=⟨_,Q2 O0⟩;rw[wh k l]at d;refine ar<|H<|aB<|H<|cB (fu:=11) _ [.box 0 2,.sl (a.cols.map Col.tree),nI i,.ref [sT x.name,iT x.ty,bT x.key],.agg [sT x.name,iT x.ty,bT x.key],.box 1 2,.sl (b.cols.map Col.tree),nI i,.ref [sT y.name,iT y.ty,bT y.key],.agg [sT y.name,iT y.ty,bT y.key],bT (!(Col.eqB x y))] U0 Z Z U0 Z ?_ ?_
  ·refine Chain.op Z (aq Z Z cP Z)<|Chain.op Z (av Z Z Z d9 Z)<|Chain.op Z (K Z Z)<|Chain.op Z (aO (Col.tree x) Z bk Z Z Z (bd (f:=Col.tree) k) (eP _) Z)<|Chain.op Z (dt Z Z vB Z Z)<|Chain.op Z (aq Z Z cP Z)<|Chain.op Z (av Z Z Z d9 Z)<|Chain.op Z (K Z Z)<|Chain.op Z (aO (Col.tree y) Z bk Z Z Z (bd (f:=Col.tree) l) (eP _) Z)<|Chain.op Z (dt Z Z vB Z Z)<|Chain.op Z (Gb [.string x.name,.int .i64 x.ty,.bool x.key] [.string y.name,.int .i64 y.ty,.bool y.key] Z Z Z (λw=>KK _ _ _ _ _ _ w))<|Chain.nil
  refine aK Z (λh=>?_) (λh=>?_)
  ·refine X 1 Z<|aM ⟨Z,B (by unfold km;rw[e,<-d,show Col.eqB x y=false by simpa using h];rfl),Z⟩ Z
  refine ar<|am<|a8 1 (i+1) Z Z Zy O0<|Y 1 Z<|⟨_,_,?_,⟨i+1,?_,Z,Z⟩,.rf⟩
  ·omega
  exact⟨O0,by rw[<-d,show Col.eqB x y=true by simpa using h,Tx]⟩
 refine aX<|X 1 Z<|aM ⟨Z,B (by unfold km;rw[e,<-d,AA j g];rfl),Z⟩ Z
def M7(a b:Rel)(q:FitR a)(r:FitR b):Ct 14 [a.tree,b.tree] (bT (pd a b)):=by
 have w:=q.tups;have z:=r.tups;refine Ct.of (n:=58) func14 Z Z Z Z Z λw0 G0=>?_
 refine X 3 Z<|H<|C<|M 4 Z (D Z (KN _ _ q.cols r.cols) Z Z)<|M 0 (t:=bT (!(km a.sch b.sch))) Z (dm Z Z Zy)<|ax 1 Z<|N Z Z Z Z (λc=>aq Z Z a6 Z)<|N Z Z Z Z (λc=>av Z (if_pos c) Z bJ Z)<|N Z Z Z Z (λc=>aU Z aV (if_pos c))<|N Z Z Z Z (λc=>aq Z Z a6 Z)<|N Z Z Z Z (λc=>av Z (if_pos c) Z bJ Z)<|N Z Z Z Z (λc=>aU Z aV (if_pos c))<|N Z Z Z Z (λc=>aj (aC Z (if_pos c) (if_pos c) (λ_=>rfl)) (B (od a.tups.length b.tups.length)))<|M 0 Z (dD Z Z Z Z)<|E<|aK Z (λk=>?_) (λk=>?_)
 ·refine X 1 Z<|aM ⟨Z,B (by unfold pd;rcases TI.1 k with h|h;rw[show km a.sch b.sch=false by simpa using h];rfl;rw[Az (by simpa using h),UL]),Z⟩ Z
 have m:a.tups.length=b.tups.length:=by have s:=(Rp.1 k).2;simpa using s
 have o:km a.sch b.sch=true:=by have s:=(Rp.1 k).1;simpa using s
 refine ar<|H<|X 1 Z<|aB<|aT (λv u=>∃(i:Nat),(i<=a.tups.length/\mz Tp.eqB (a.tups.drop i) (b.tups.drop i)=mz Tp.eqB a.tups b.tups)/\v=a.tups.length-i/\u=⟨58,[(2,.box 0 0),(3,.box 1 0),(5,nI i)],[(30,(bQ a)),(30,(bQ b))],[]⟩) 2 0 ⟨0,⟨O0,Z⟩,Z,Z⟩ .rf ?_;rintro v u ⟨i,⟨A,d⟩,rfl,rfl⟩;refine H<|C<|M 3 Z (aU Z aV Z)<|aI 0 Z Z Zy (B (gF i a.tups.length))<|E<|ay Z (λl=>?_) (λl=>?_)
 ·obtain⟨x,g⟩:∃x,a.tups[i]? =some x:=⟨_,Q2 l⟩;obtain⟨y,j⟩:∃x,b.tups[i]? =some x:=⟨_,Q2 O0⟩;rw[wh g j]at d;refine ar<|H<|aB<|H<|cB (fu:=30) _ [.box 0 3,.sl (a.tups.map Tp.tree),nI i,.ref (eA x),.ref (eA x),.sl (x.vals.map V.tree),.box 1 3,.sl (b.tups.map Tp.tree),nI i,.ref (eA y),.ref (eA y),.sl (y.vals.map V.tree),bT (mz V.eqB x.vals y.vals),bT (!(mz V.eqB x.vals y.vals)),bT (!(mz V.eqB x.vals y.vals)),if(!(mz V.eqB x.vals y.vals))=false then(.box 0 3:Tree)else .sc undef,if(!(mz V.eqB x.vals y.vals))=false then(.sl (a.tups.map Tp.tree):Tree)else .sc undef,if(!(mz V.eqB x.vals y.vals))=false then(nI i:Tree)else .sc undef,if(!(mz V.eqB x.vals y.vals))=false then(.ref (eA x):Tree)else .sc undef,if(!(mz V.eqB x.vals y.vals))=false then(.ref (bj x.prob):Tree)else .sc undef,if(!(mz V.eqB x.vals y.vals))=false then(.agg (bj x.prob):Tree)else .sc undef,if(!(mz V.eqB x.vals y.vals))=false then(.box 1 3:Tree)else .sc undef,if(!(mz V.eqB x.vals y.vals))=false then(.sl (b.tups.map Tp.tree):Tree)else .sc undef,if(!(mz V.eqB x.vals y.vals))=false then(nI i:Tree)else .sc undef,if(!(mz V.eqB x.vals y.vals))=false then(.ref (eA y):Tree)else .sc undef,if(!(mz V.eqB x.vals y.vals))=false then(.ref (bj y.prob):Tree)else .sc undef,if(!(mz V.eqB x.vals y.vals))=false then(.agg (bj y.prob):Tree)else .sc undef,if(!(mz V.eqB x.vals y.vals))=false then(bT (decide (x.prob=y.prob)):Tree)else .sc undef,if(!(mz V.eqB x.vals y.vals))=false then(bT (!(decide (x.prob=y.prob))):Tree)else .sc undef,bT ((!(mz V.eqB x.vals y.vals))||(!(decide (x.prob=y.prob))))] U0 Z Z U0 Z ?_ ?_
  ·refine Chain.op Z (aq Z Z a6 Z)<|Chain.op Z (av Z Z Z bJ Z)<|Chain.op Z (K Z Z)<|Chain.op Z (aO (Tp.tree x) Z aV Z Z Z (bd (f:=Tp.tree) g) (c6 _) Z)<|Chain.op Z (bL Z Z cz Z)<|Chain.op Z (bi Z Z di Z)<|Chain.op Z (aq Z Z a6 Z)<|Chain.op Z (av Z Z Z bJ Z)<|Chain.op Z (K Z Z)<|Chain.op Z (aO (Tp.tree y) Z aV Z Z Z (bd (f:=Tp.tree) j) (c6 _) Z)<|Chain.op Z (bL Z Z cz Z)<|Chain.op Z (bi Z Z di Z)<|Chain.op Z (D Z (KM _ _ (q.tup x (Q8 g)).2 (r.tup y (Q8 j)).2) Z Z)<|Chain.op Z (dm Z Z Zy)<|Chain.op Z (K Z Z)<|bG Z Z Z (λc=>aq Z Z a6 Z)<|bG Z Z Z (λc=>av Z (if_pos c) Z bJ Z)<|bG Z Z Z (λc=>K Z Z)<|bG Z Z Z (λc=>aO (Tp.tree x) Z aV (if_pos c) (if_pos c) Z (bd (f:=Tp.tree) g) (c6 _) Z)<|bG Z Z Z (λc=>bL Z (if_pos c) eD Z)<|bG Z Z Z (λc=>dt Z (if_pos c) aH Z Z)<|bG Z Z Z (λc=>aq Z Z a6 Z)<|bG Z Z Z (λc=>av Z (if_pos c) Z bJ Z)<|bG Z Z Z (λc=>K Z Z)<|bG Z Z Z (λc=>aO (Tp.tree y) Z aV (if_pos c) (if_pos c) Z (bd (f:=Tp.tree) j) (c6 _) Z)<|bG Z Z Z (λc=>bL Z (if_pos c) eD Z)<|bG Z Z Z (λc=>dt Z (if_pos c) aH Z Z)<|bG Z Z Z (λc=>D Z (Hw _ _ ((q.tup x (Q8 g)).1.p.mono I1) ((r.tup y (Q8 j)).1.p.mono I1)) (dN (if_pos c) (dN (if_pos c) Z)) Z)<|bG Z Z Z (λc=>dm Z (if_pos c) (λ_=>rfl))<|Chain.op Z (dD Z Z Z Z)<|Chain.nil
  refine aK Z (λe=>?_) (λe=>?_)
  ·refine X 1 Z<|aM ⟨Z,B (by unfold pd;rw[<-d,show Tp.eqB x y=false by unfold Tp.eqB;simp only[Sm,Sk]at e;rw[SZ];exact e];simp),Z⟩ Z
  refine ar<|am<|a8 1 (i+1) Z Z Zy O0<|Y 1 Z<|⟨_,_,?_,⟨i+1,?_,Z,Z⟩,.rf⟩
  ·omega
  refine⟨O0,?_⟩;rw[<-d,show Tp.eqB x y=true by unfold Tp.eqB;simp only[Rp,UO]at e;rw[Q9];exact e,Tx]
 refine aX<|X 1 Z<|aM ⟨Z,B (by unfold pd;rw[o,<-d,AA m l];rfl),Z⟩ Z
