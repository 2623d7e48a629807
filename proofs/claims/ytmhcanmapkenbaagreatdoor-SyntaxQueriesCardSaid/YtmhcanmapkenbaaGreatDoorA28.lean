import Derived.Test.YtmhcanmapkenbaaGreatDoorA27
set_option maxRecDepth 100000
set_option maxHeartbeats 4000000
set_option linter.defProp false
open Go.Proofs.Tryz
namespace Go.Proofs.YtmhcanmapkenbaaGreatDoor
open Go.RowKit
open Lib renaming hid→J
def Gx{s:ByteArray}(h:16384<s.size):fY s=(([],[]),4):=if_pos h
def Nd{s:ByteArray}(h:¬16384<s.size)(a:0<=Lib.indexByte s.data.toList 10):fY s=(([],[]),2):=(if_neg h).trans (if_pos a)
def AO{s:ByteArray}(h:¬16384<s.size)(a:¬0<=Lib.indexByte s.data.toList 10):fY s=match dO (s.size+1) s.data.toList with
 |none=>(([],[]),2)
 |some l=>if(pA l.length (PS.mk l 0 false)).2.fin=true then((pA l.length (PS.mk l 0 false)).1,0)else(([],[]),2):=(if_neg h).trans (if_neg a)
def Nf{s:ByteArray}(h:¬16384<s.size)(a:¬0<=Lib.indexByte s.data.toList 10)(b:dO (s.size+1) s.data.toList=none):fY s=(([],[]),2):=by rw[AO h a,b]
def Gy{s:ByteArray}{l:List Tok}{q:List ByteArray×List Cq}{t:PS}(h:¬16384<s.size)(a:¬0<=Lib.indexByte s.data.toList 10)(b:dO (s.size+1) s.data.toList=some l)(c:pA l.length (PS.mk l 0 false)=(q,t))(d:(!t.fin)=false):fY s=(q,0):=by
 rw[AO h a,b];show(if(pA l.length (PS.mk l 0 false)).2.fin=true then _ else _)=_
 rw[c];exact if_pos (by simpa using d)
def CG{s:ByteArray}{l:List Tok}{q:List ByteArray×List Cq}{t:PS}(h:¬16384<s.size)(a:¬0<=Lib.indexByte s.data.toList 10)(b:dO (s.size+1) s.data.toList=some l)(c:pA l.length (PS.mk l 0 false)=(q,t))(d:(!t.fin)=true):fY s=(([],[]),2):=by
 rw[AO h a,b];show(if(pA l.length (PS.mk l 0 false)).2.fin=true then _ else _)=_
 rw[c];exact if_neg (by simpa using d)
def LO{N:Nat}{s:PS}(h:aI yL s.nxt=true):pA N s=(((nP N s).1,(dt N (ak (aI yD) (nP N s).2).2).1),(dt N (ak (aI yD) (nP N s).2).2).2):=if_pos h
def LP{N:Nat}{s:PS}(h:aI yL s.nxt=false):pA N s=(([],(dt N s).1),(dt N s).2):=if_neg (by rw[h];exact Qk)
def Kb{s:ByteArray}{i:Nat}(h:i<s.size)(a:¬(bj s i).toNat=10):(0<=Lib.indexByte (s.data.toList.drop (i+1)) 10)=(0<=Lib.indexByte (s.data.toList.drop i) 10):=by
 rw[cW h,Lib.indexByte,if_neg (by
  rw[beq_iff_eq];exact λe=>a (by rw[e];rfl))]
 split
 ·next h1=>
  rw[beq_iff_eq]at h1;rw[h1]
 next h1=>
 have b:Lib.indexByte (s.data.toList.drop (i+1)) 10≠ -1:=λe=>h1 (by rw[e];rfl)
 have key:∀l:List UInt8,-1<=Lib.indexByte l 10:=by
  intro l;induction l with
  |nil=>exact T1 _
  |cons c l ih=>
   rw[Lib.indexByte];split
   ·decide
   split
   ·decide
   omega
 have:=key (s.data.toList.drop (i+1));exact propext ⟨λh=>O,λh=>O⟩
def Ng{s:ByteArray}{i:Nat}(h:i<s.size)(a:(bj s i).toNat=10):0<=Lib.indexByte (s.data.toList.drop i) 10:=by
 rw[cW h,Lib.indexByte,if_pos (by rw[beq_iff_eq];exact Sf.1 a)];exact T1 _
def Nh{s:ByteArray}{i:Nat}(h:¬i<s.size):¬0<=Lib.indexByte (s.data.toList.drop i) 10:=by
 rw[Q1 (by rw[<-dT];omega)];decide
def LR:mY prog 101=some ([(0,1),(1,1),(2,1)],[.slice none 0 0,.int .i64 0,.bool false]):=U
def kQ(s:ByteArray)(I:s.size<=1073741824):Ct 15 [sT s] (F5 (fY s)):=by
 refine Ct.of (n:=51) func15 Z Z Z Z Z λw0 G0=>?_
 refine N 2 Z<|Y<|M<|C 1 (t:=nI s.size) Z (dJ Z aR Z)<|aB 0 Z Z Zy (D (DF s.size 16384))<|K<|an Z (λo=>?_) (λo=>?_)
 ·have G:=o;refine N 3 Z<|aO<|⟨.inr Z,_,.cons (eZ Z Z bu Z) (.cons Z .nil),lJ (Gx G),Z⟩
 have m:=o;refine X<|Y<|N 1 Z<|aG<|bn (λF E=>∃(i:Nat),(i<=s.size/\(0<=Lib.indexByte (s.data.toList.drop i) 10)=(0<=Lib.indexByte s.data.toList 10))/\F=s.size-i/\E=⟨51,[(0,sT s),(2,.box 0 0),(4,nI i)],[(43,[.sl [],.sl []])],[]⟩) 1 0 ⟨0,⟨QF _,Z⟩,Z,Z⟩ .rf ?_;rintro F E ⟨i,⟨J,e⟩,rfl,rfl⟩;refine Y<|M<|C 2 (t:=nI s.size) Z (dJ Z aR Z)<|aB 0 Z Z Zy (D (iL i s.size))<|K<|an Z (λp=>?_) (λp=>?_)
 ·have x:=p;refine X<|Y<|aG<|M<|C 2 (t:=.sc (.int .u8 (((bj s i).toNat:Nat):Int))) Z (bM (j:=i) Z aR Z Z Z (bB x))<|aB 0 Z Z Zy (D (e9 ((bj s i).toNat) 10))<|K<|an Z (λq=>?_) (λq=>?_)
  ·have g:=q;refine N 3 Z<|aO<|⟨.inr Z,_,.cons (eZ Z Z bu Z) (.cons Z .nil),lJ (Nd m (e▸Ng x g)),Z⟩
  have g:=q;refine X<|am<|bA 1 (i+1) Z Z Zy O0<|H 1 Z<|⟨_,_,?_,⟨i+1,?_,Z,Z⟩,.rf⟩
  ·omega
  exact⟨O0,(Kb x g).trans e⟩
 have z:¬0<=Lib.indexByte s.data.toList 10:=e▸Nh p;refine bh<|Y ?_;rcases d:dO (s.size+1) s.data.toList with _|l
 ·refine am<|C 1 Z (aJ Z (F7 d▸Gk s O0) Z Z)<|H 5 Z<|Y<|M<|C 1 (t:=bT true) Z (dl Z Z Zy)<|K<|aF (b:=true) Z (λ_=>?_) (λh=>by cases h);refine N 3 Z<|aO<|⟨.inr Z,_,.cons (eZ Z Z bu Z) (.cons Z .nil),lJ (Nf m z d),Z⟩
 refine am<|C 1 Z (aJ Z (F8 d▸Gk s O0) Z Z)<|H 5 Z<|Y<|M<|C 1 (t:=bT false) Z (dl Z Z Zy)<|K<|aF (b:=false) Z (λh=>by cases h) (λ_=>?_);refine X<|N 4 Z<|N 3 Z<|Y<|Y ?_;have f:=OU m d;have A:=f.kp (M0 l.length);have B:=A.kp (fb (c:=aI yD) Z);refine am<|C 1 (t:=bT (aI yL (PS.mk l 0 false).nxt)) Z (dS Z Z Z (wg (PS.mk l 0 false) yL I0 f.hl f.ina) Z Z Z)<|K<|aF Z (λu=>?_) (λu=>?_)
 ·have y:=u;refine M<|ay 1 Z<|aH (r:=.sl (((nP l.length (PS.mk l 0 false)).1).map aE)) (bs':=[(43,[.sl [],.sl []]),(101,[.sl (((nP l.length (PS.mk l 0 false)).2.l).map Tok.tree),nI ((nP l.length (PS.mk l 0 false)).2.a),bT ((nP l.length (PS.mk l 0 false)).2.bad)]),(43,[.sl [],.sl []])]) Z Z Z Z Z Z (Gw l.length (PS.mk l 0 false) f) Z Z Z Z<|H 2 Z<|am<|ay 1 Z<|aH (r:=.tup []) (bs':=[(43,[.sl [],.sl []]),(101,[.sl (((ak (aI yD) (nP l.length (PS.mk l 0 false)).2).2.l).map Tok.tree),nI ((ak (aI yD) (nP l.length (PS.mk l 0 false)).2).2.a),bT ((ak (aI yD) (nP l.length (PS.mk l 0 false)).2).2.bad)]),(43,[.sl (((nP l.length (PS.mk l 0 false)).1).map aE),.sl []])]) Z Z Z Z Z Z (oS l.length (nP l.length (PS.mk l 0 false)).2 A yD I0) Z Z Z Z<|K<|M<|ay 1 Z<|aH (r:=.sl (((dt l.length (ak (aI yD) (nP l.length (PS.mk l 0 false)).2).2).1).map Cq.tree)) (bs':=[(43,[.sl [],.sl []]),(101,[.sl (((dt l.length (ak (aI yD) (nP l.length (PS.mk l 0 false)).2).2).2.l).map Tok.tree),nI ((dt l.length (ak (aI yD) (nP l.length (PS.mk l 0 false)).2).2).2.a),bT ((dt l.length (ak (aI yD) (nP l.length (PS.mk l 0 false)).2).2).2.bad)]),(43,[.sl (((nP l.length (PS.mk l 0 false)).1).map aE),.sl []])]) Z Z Z Z Z Z (yu l.length (ak (aI yD) (nP l.length (PS.mk l 0 false)).2).2 B) Z Z Z Z<|H 2 Z<|Y<|M<|C 1 (t:=bT ((dt l.length (ak (aI yD) (nP l.length (PS.mk l 0 false)).2).2).2.fin)) Z (dS Z Z Z (CB (dt l.length (ak (aI yD) (nP l.length (PS.mk l 0 false)).2).2).2) Z Z Z)<|C 0 (t:=bT (!((dt l.length (ak (aI yD) (nP l.length (PS.mk l 0 false)).2).2).2.fin))) Z (dl Z Z Zy)<|K<|aF Z (λv=>?_) (λv=>?_)
  ·have k:=v;refine N 3 Z<|aO<|⟨.inr Z,_,.cons (eZ Z Z bu Z) (.cons Z .nil),lJ (CG m z d (LO y) k),Z⟩
  have k:=v;refine X<|N 3 Z<|aO<|⟨.inr Z,_,.cons (eZ Z Z bu Z) (.cons Z .nil),uC (Gy m z d (LO y) k),Z⟩
 have y:=u;refine X<|M<|ay 1 Z<|aH (r:=.sl (((dt l.length (PS.mk l 0 false)).1).map Cq.tree)) (bs':=[(43,[.sl [],.sl []]),(101,[.sl (((dt l.length (PS.mk l 0 false)).2.l).map Tok.tree),nI ((dt l.length (PS.mk l 0 false)).2.a),bT ((dt l.length (PS.mk l 0 false)).2.bad)]),(43,[.sl [],.sl []])]) Z Z Z Z Z Z (yu l.length (PS.mk l 0 false) f) Z Z Z Z<|H 2 Z<|Y<|M<|C 1 (t:=bT ((dt l.length (PS.mk l 0 false)).2.fin)) Z (dS Z Z Z (CB (dt l.length (PS.mk l 0 false)).2) Z Z Z)<|C 0 (t:=bT (!((dt l.length (PS.mk l 0 false)).2.fin))) Z (dl Z Z Zy)<|K<|aF Z (λw=>?_) (λw=>?_)
 ·have k:=w;refine N 3 Z<|aO<|⟨.inr Z,_,.cons (eZ Z Z bu Z) (.cons Z .nil),lJ (CG m z d (LP y) k),Z⟩
 have k:=w;refine X<|N 3 Z<|aO<|⟨.inr Z,_,.cons (eZ Z Z bu Z) (.cons Z .nil),uC (Gy m z d (LP y) k),Z⟩
def Kc(a b:ByteArray):Bool:=Op.bytesLess a.toList b.toList
def tW(a b:ByteArray):Int:=if Kc a b=true then-1 else if Kc b a=true then 1 else 0
def yv{a b:ByteArray}:tW a b=0↔a=b:=by
 obtain⟨o,c⟩:∃o,Lib.compareBytes a.data.toList b.data.toList=o:=⟨_,Z⟩;have i:=om c;have j:Lib.compareBytes b.data.toList a.data.toList= -o:=by rw[gP,c]
 have k:=om j;have d:=(fX a.data.toList b.data.toList);rw[c]at d;have l:a=b↔a.data.toList=b.data.toList:=⟨λe=>by rw[e],λe=>SD (Rb e)⟩;unfold tW Kc;rw[i,k,l,<-d];by_cases f:o<0
 ·rw[if_pos (decide_eq_true f)];constructor<;>intro h<;>omega
 rw[if_neg (by simpa using f)];by_cases g: -o<0
 ·rw[if_pos (decide_eq_true g)];constructor<;>intro h<;>omega
 rw[if_neg (by simpa using g)];constructor<;>intro h<;>omega
def LS(a b:ByteArray):(!(Op.bytesLess a.toList b.toList||a.toList==b.toList))=Kc b a:=by
 obtain⟨o,c⟩:∃o,Lib.compareBytes a.data.toList b.data.toList=o:=⟨_,Z⟩;have d:Lib.compareBytes b.data.toList a.data.toList= -o:=by rw[gP,c]
 unfold Kc;rw[om c,BX c,om d,R4];simp only[Re,QD,decide_eq_false_iff_not,decide_eq_true_eq];omega
def gK(a b:Trm):Int:=if(decide (a.v=b9)&&decide (b.v=b9))=true then Fl a.c b.c else tW a.v b.v
def pD{a b:Trm}:gK a b=0↔jE a b=true:=by
 unfold gK jE;by_cases h:(decide (a.v=b9)&&decide (b.v=b9))=true
 ·rw[if_pos h,if_neg (by simpa using h),show Fl a.c b.c=m7 a.c.t a.c.n a.c.s b.c.t b.c.n b.c.s from rfl,Jj,uG];obtain⟨v,t,n,s⟩:=a;obtain⟨v',f,d,e⟩:=b;simp
 rw[if_neg h,if_pos (by simpa[Classical.or_iff_not_imp_left]using h),yv,decide_eq_true_eq]
def ep{α:Type}(p:α->α->Int):List α->List α->Int
 |x::l,y::m=>if p x y=0 then ep p l m else p x y
 |l,m=>(l.length:Int)-m.length
section
variable {α:Type} {p:α->α->Int} {q:α->α->Bool} {l m:List α} {i:Nat} {x y:α}
def LT(a:l[i]? =some x)(b:m[i]? =some y):ep p (l.drop i) (m.drop i)=if p x y=0 then ep p (l.drop (i+1)) (m.drop (i+1))else p x y:=by rw[oB a,oB b,ep]
def wh{R:Int}(h:ep p (l.drop i) (m.drop i)=R)(b:l[i]? =some x)(c:m[i]? =some y)(a:p x y=0):ep p (l.drop (i+1)) (m.drop (i+1))=R:=by rw[<-h,LT b c,if_pos a]
def wj{R:Int}(h:ep p (l.drop i) (m.drop i)=R)(b:l[i]? =some x)(c:m[i]? =some y)(a:¬p x y=0):p x y=R:=by rw[<-h,LT b c,if_neg a]
def AP{R:Int}(h:ep p (l.drop i) (m.drop i)=R)(hl:i<=l.length)(j:i<=m.length)(c:(decide (i<l.length)&&decide (i<m.length))=false):(l.length:Int)-m.length=R:=by
 have e:(l.drop i).length=l.length-i:=QZ;have f:(m.drop i).length=m.length-i:=QZ;have d:l.drop i=[]\/m.drop i=[]:=by
  rw[RV]at c;rcases c with c|c
  ·exact .inl (Q1 (by have:=of_decide_eq_false c;omega))
  exact .inr (Q1 (by have:=of_decide_eq_false c;omega))
 have g:ep p (l.drop i) (m.drop i)=((l.drop i).length:Int)-(m.drop i).length:=by
  generalize l.drop i=a at d⊢;generalize m.drop i=b at d⊢;cases a with
  |nil=>rw[ep];exact λ_ _ _ _ h=>by cases h
  |cons x a=>cases b with
   |nil=>rw[ep];exact λ_ _ _ _ _ h=>by cases h
   |cons y b=>rcases d with h|h<;>cases h
 rw[<-h,g,e,f];omega
def AQ(h:∀x y,p x y=0↔q x y=true):∀l m:List α,ep p l m=0↔pa q l m=true:=by
 intro l;induction l with
 |nil=>
  intro m;rw[ep]
  ·unfold pa;simp;constructor<;>intro h<;>(cases m with|nil=>rfl|cons y m=>simp at h;try omega)
  exact λ_ _ _ _ h=>by cases h
 |cons x l c=>
  intro m;cases m with
  |nil=>
   rw[ep]
   ·unfold pa;simp;omega
   exact λ_ _ _ _ _ h=>by cases h
  |cons y m=>
   rw[ep];have c:=c m;unfold pa at c⊢;simp only[Qn,Q8,Rc,Qh,decide_eq_true_eq]at c⊢;by_cases b:p x y=0
   ·rw[if_pos b,c];have:=(h x y).1 b;constructor
    ·rintro⟨d,a⟩;exact⟨O,this,a⟩
    rintro⟨d,_,a⟩;exact⟨O,a⟩
   rw[if_neg b];constructor
   ·exact λh=>absurd h b
   rintro⟨_,a,_⟩;exact absurd ((h x y).2 a) b
def sH{a b:Nat}(c:a<=1073741824)(d:b<=1073741824):(Tree.sc (.int .i64 (IntKind.i64.wrap (((a:Nat):Int)-((b:Nat):Int)))))=iT (((a:Nat):Int)-((b:Nat):Int)):=by
 have:IntKind.i64.wrap (((a:Nat):Int)-((b:Nat):Int))=((a:Nat):Int)-((b:Nat):Int):=by rw[Sz];omega
 rw[this]
end
def nA(a b:Atm):Int:=if tW a.r b.r=0 then(if(a.ng !=b.ng)=true then(if b.ng=true then-1 else 1)else ep gK a.ts b.ts)else tW a.r b.r
def Gz(a b:Atm):nA a b=0↔la a b=true:=by
 unfold nA la;rw[Qh,Qh,decide_eq_true_eq,<-yv,<-AQ (λx y=>pD),beq_iff_eq];by_cases h:tW a.r b.r=0
 ·rw[if_pos h];by_cases c:a.ng=b.ng
  ·rw[if_neg (by simp[c])];simp[h,c]
  rw[if_pos (by simpa using c)];constructor
  ·intro d;split at d<;>cases d
  intro d;exact absurd d.1.2 c
 rw[if_neg h];simp[h]
def sI(a b:Cpr):Int:=if a.op=b.op then(if gK a.l b.l=0 then gK a.r b.r else gK a.l b.l)else if a.op<b.op then-1 else 1
def GB(a b:Cpr):sI a b=0↔lb a b=true:=by
 unfold sI lb;rw[Qh,Qh,decide_eq_true_eq,<-pD,<-pD];by_cases h:a.op=b.op
 ·rw[if_pos h];by_cases c:gK a.l b.l=0
  ·rw[if_pos c];simp[h,c]
  rw[if_neg c];simp[c]
 rw[if_neg h];constructor
 ·intro d;split at d<;>cases d
 intro d;exact absurd d.1.1 h
def GD(a b:Cq):Int:=if ep nA a.al b.al=0 then ep sI a.cl b.cl else ep nA a.al b.al
def yw(a b:Cq):GD a b=0↔gD a b=true:=by
 unfold GD gD;rw[Qh,<-AQ Gz,<-AQ GB];by_cases h:ep nA a.al b.al=0
 ·rw[if_pos h];simp[h]
 rw[if_neg h];simp[h]
def GE(u v:V):Ct 193 [u.tree,v.tree] (iT (Fl u v)):=Ct.sc ⟨_,func193,Z,Z⟩ λG w vs _ _ c=>by
 obtain⟨x,y,rfl,a,b⟩:=oi c;rw[vI a,vI b];exact rR u.t u.n u.s v.t v.n v.s w
def CH{a b:List ByteArray×List Cq}(h:(!pa (λx y:ByteArray=>decide (x=y)) a.1 b.1||decide (a.2.length≠b.2.length))=false):pa (λx y:ByteArray=>decide (x=y)) a.1 b.1=true/\a.2.length=b.2.length:=by
 rw[QD]at h;exact⟨by simpa using h.1,by simpa using h.2⟩
def Kd{a b:List ByteArray×List Cq}(h:(!pa (λx y:ByteArray=>decide (x=y)) a.1 b.1||decide (a.2.length≠b.2.length))=true):iu a b=false:=by
 unfold iu;rw[Q5]at h;rcases h with h|h
 ·rw[show pa (λx y:ByteArray=>decide (x=y)) a.1 b.1=false by simpa using h];rfl
 rw[kO (p:=gD) (by simpa using h),R8]
def Ke(a b:ByteArray):Ct 146 [sT a,sT b] (iT (tW a b)):=by
 refine Ct.of (n:=13) func146 Z Z Z Z Z λw0 G0=>?_
 refine N 1 Z<|Y<|aG<|M<|aB 2 (t:=bT (Kc a b)) Z Z Zy (Z)<|H 1 Z<|aF Z (λc=>?_) (λc=>?_)
 ·have e:=c;refine N 1 Z<|aV ⟨Z,tK ((if_pos e).symm),Z⟩ Z
 have e:=c;refine M<|aB 2 (t:=bT (Kc b a)) Z Z Zy (D (LS _ _))<|H 1 Z<|aF Z (λd=>?_) (λd=>?_)
 ·have f:=d;refine N 1 Z<|aV ⟨Z,tK (((if_neg (by rw[e];exact Qk)).trans (if_pos f)).symm),Z⟩ Z
 have f:=d;refine X<|N 1 Z<|aV ⟨Z,tK (((if_neg (by rw[e];exact Qk)).trans (if_neg (by rw[f];exact Qk))).symm),Z⟩ Z
def sJ(a b:Trm):Ct 147 [a.tree,b.tree] (iT (gK a b)):=by
 refine Ct.of (n:=31) func147 Z Z Z Z Z λw0 G0=>?_
 refine N 3 Z<|Y<|aG<|M<|aB 2 (t:=bT (decide (a.v=b9))) Z Z Zy (D (aM _ _))<|ay 1 Z<|B Z Z Z Z (λi=>ao Z Z jS Z)<|B Z Z Z Z (λi=>aA Z (if_pos i) Z dL Z)<|B (t:=bT (decide (b.v=b9))) Z Z Z Z (λi=>av (aL Z (if_pos i) Z (λ_=>rfl)) (D (aM _ _)))<|C 0 Z (bR Z Z Z Z)<|H 1 Z<|aF Z (λd=>?_) (λd=>?_)
 ·have g:=d;refine M<|C 4 Z (aJ Z (GE a.c b.c) Z Z)<|H 1 Z<|aV ⟨Z,tK ((if_pos g).symm),Z⟩ Z
 have g:=d;refine M<|aB 4 (t:=bT (Kc a.v b.v)) Z Z Zy (Z)<|H 1 Z<|aF Z (λe=>?_) (λe=>?_)
 ·have h:=e;refine N 1 Z<|aV ⟨Z,tK (((if_neg (by rw[g];exact Qk)).trans (if_pos h)).symm),Z⟩ Z
 have h:=e;refine M<|aB 4 (t:=bT (Kc b.v a.v)) Z Z Zy (D (LS _ _))<|H 1 Z<|aF Z (λf=>?_) (λf=>?_)
 ·have j:=f;refine N 1 Z<|aV ⟨Z,tK (((if_neg (by rw[g];exact Qk)).trans ((if_neg (by rw[h];exact Qk)).trans (if_pos j))).symm),Z⟩ Z
 have j:=f;refine X<|N 1 Z<|aV ⟨Z,tK (((if_neg (by rw[g];exact Qk)).trans ((if_neg (by rw[h];exact Qk)).trans (if_neg (by rw[j];exact Qk)))).symm),Z⟩ Z
def Kf(a b:Atm)(P:a.ts.length<=1073741824)(Q:b.ts.length<=1073741824):Ct 93 [a.tree,b.tree] (iT (nA a b)):=by
 refine Ct.of (n:=58) func93 Z Z Z Z Z λw0 G0=>?_
 refine N 3 Z<|Y<|M<|C 4 Z (aJ Z (Ke a.r b.r) Z Z)<|H 1 Z<|M<|aB 1 (t:=bT (!decide (tW a.r b.r=0))) Z Z Zy (D Z)<|K<|aF Z (λg=>?_) (λg=>?_)
 ·have m:¬tW a.r b.r=0:=by simpa using g
  refine N 2 Z<|aV ⟨Z,tK ((if_neg m).symm),Z⟩ Z
 have m:tW a.r b.r=0:=by simpa using g
 refine X<|Y<|M<|C 4 (t:=bT (a.ng !=b.ng)) Z (aL Z Z Z Zy)<|K<|aF Z (λh=>?_) (λh=>?_)
 ·have o:=h;refine Y<|N 2 Z<|aF Z (λj=>?_) (λj=>?_)
  ·have q:=j;refine N 1 Z<|aV ⟨Z,tK (((if_pos m).trans ((if_pos o).trans (if_pos q))).symm),Z⟩ Z
  have q:=j;refine X<|N 1 Z<|aV ⟨Z,tK (((if_pos m).trans ((if_pos o).trans (if_neg (by rw[q];exact Qk)))).symm),Z⟩ Z
 have o:=h;refine X<|Y<|N 1 Z<|aG<|bn (λI G=>∃(i:Nat),(i<=a.ts.length/\i<=b.ts.length/\ep gK (a.ts.drop i) (b.ts.drop i)=ep gK a.ts b.ts)/\I=a.ts.length-i/\G=⟨58,[(2,.box 0 0),(3,.box 1 0),(6,nI i)],[(144,[sT a.r,bT a.ng,.sl (a.ts.map Trm.tree)]),(144,[sT b.r,bT b.ng,.sl (b.ts.map Trm.tree)])],[]⟩) 2 0 ⟨0,⟨QF _,QF _,Z⟩,Z,Z⟩ .rf ?_;rintro I G ⟨i,⟨L,O,d⟩,rfl,rfl⟩;refine Y<|M<|C 3 Z (bg Z bK Z)<|aB 0 Z Z Zy (D (iL i a.ts.length))<|ay 1 Z<|B Z Z Z Z (λe=>E Z Z)<|B Z Z Z Z (λe=>ao Z Z ce Z)<|B Z Z Z Z (λe=>aA Z (if_pos e) Z cX Z)<|B Z Z Z Z (λe=>bg Z bK (if_pos e))<|B Z Z Z Z (λe=>av (aL Z (if_pos e) (if_pos e) (λ_=>rfl)) (D (iL i b.ts.length)))<|C 0 Z (bR Z Z Z Z)<|K<|aF Z (λk=>?_) (λk=>?_)
 ·have p:=(Qh _ _▸k:_/\_);have w:=of_decide_eq_true p.1;have z:=of_decide_eq_true p.2;obtain⟨x,A⟩:∃x,a.ts[i]? =some x:=⟨_,Qj w⟩;obtain⟨y,F⟩:∃y,b.ts[i]? =some y:=⟨_,Qj z⟩;refine X<|Y<|aG<|Y<|cu (fu:=12) _ [.box 0 2,.sl (a.ts.map Trm.tree),nI i,.ref [sT x.v,iT x.c.t,iT x.c.n,sT x.c.s],.agg [sT x.v,iT x.c.t,iT x.c.n,sT x.c.s],.box 1 2,.sl (b.ts.map Trm.tree),nI i,.ref [sT y.v,iT y.c.t,iT y.c.n,sT y.c.s],.agg [sT y.v,iT y.c.t,iT y.c.n,sT y.c.s],iT (gK x y),iT (gK x y)] U0 Z Z U0 Z ?_ ?_
  ·refine Chain.op Z (ao Z Z ce Z)<|Chain.op Z (aA Z Z Z cX Z)<|Chain.op Z (E Z Z)<|Chain.op Z (aY (Trm.tree x) Z bK Z Z Z (bi (f:=Trm.tree) A) (fx _) Z)<|Chain.op Z (bm Z Z bJ Z Z)<|Chain.op Z (ao Z Z ce Z)<|Chain.op Z (aA Z Z Z cX Z)<|Chain.op Z (E Z Z)<|Chain.op Z (aY (Trm.tree y) Z bK Z Z Z (bi (f:=Trm.tree) F) (fx _) Z)<|Chain.op Z (bm Z Z bJ Z Z)<|Chain.op Z (aJ Z (sJ x y) Z Z)<|Chain.op Z (b7 Z Z)<|Chain.nil
  refine M<|aB 1 (t:=bT (!decide (gK x y=0))) Z Z Zy (D Z)<|K<|aF Z (λl=>?_) (λl=>?_)
  ·have u:¬gK x y=0:=by simpa using l
   refine N 2 Z<|aV ⟨Z,tK ((wj d A F u).trans ((if_pos m).trans ((if_neg (by rw[o];exact Qk)).trans Z)).symm),Z⟩ Z
  have u:gK x y=0:=by simpa using l
  refine X<|am<|bA 1 (i+1) Z Z Zy O0<|H 1 Z<|⟨_,_,?_,⟨i+1,?_,Z,Z⟩,.rf⟩
  ·omega
  exact⟨O0,O0,wh d A F u⟩
 have J:=k;refine bh<|M<|C 2 Z (bg Z bK Z)<|C 2 Z (bg Z bK Z)<|aB 0 (t:=iT (((a.ts.length:Nat):Int)-((b.ts.length:Nat):Int))) Z Z Zy (sH O0 O0)<|H 1 Z<|aV ⟨Z,tK ((AP d L O J).trans ((if_pos m).trans ((if_neg (by rw[o];exact Qk)).trans Z)).symm),Z⟩ Z
def Kg(a b:Cpr):Ct 94 [a.tree,b.tree] (iT (sI a b)):=by
 refine Ct.of (n:=29) func94 Z Z Z Z Z λw0 G0=>?_
 refine N 3 Z<|Y<|M<|aB 4 Z Z Zy (D (qj a.op b.op))<|K<|an Z (λc=>?_) (λc=>?_)
 ·have f:¬a.op=b.op:=c;refine Y<|M<|aB 4 Z Z Zy (D (iL a.op b.op))<|K<|an Z (λd=>?_) (λd=>?_)
  ·have g:=d;refine N 1 Z<|aV ⟨Z,tK (((if_neg f).trans (if_pos g)).symm),Z⟩ Z
  have g:=d;refine X<|N 1 Z<|aV ⟨Z,tK (((if_neg f).trans (if_neg g)).symm),Z⟩ Z
 have f:a.op=b.op:=RF.1 c;refine X<|Y<|M<|C 4 Z (aJ Z (sJ a.l b.l) Z Z)<|H 1 Z<|M<|aB 1 (t:=bT (!decide (gK a.l b.l=0))) Z Z Zy (D Z)<|K<|aF Z (λe=>?_) (λe=>?_)
 ·have h:¬gK a.l b.l=0:=by simpa using e
  refine N 2 Z<|aV ⟨Z,tK (((if_pos f).trans (if_neg h)).symm),Z⟩ Z
 have h:gK a.l b.l=0:=by simpa using e
 refine X<|M<|C 4 Z (aJ Z (sJ a.r b.r) Z Z)<|H 1 Z<|aV ⟨Z,tK (((if_pos f).trans (if_pos h)).symm),Z⟩ Z
def Kh(a b:Cq)(Q:(a.al.length<=1073741824/\(∀x∈a.al,x.ts.length<=1073741824)/\a.cl.length<=1073741824))(R:(b.al.length<=1073741824/\(∀x∈b.al,x.ts.length<=1073741824)/\b.cl.length<=1073741824)):Ct 53 [a.tree,b.tree] (iT (GD a b)):=by
 obtain⟨S,T,U⟩:=id Q;obtain⟨V,W,a0⟩:=id R;refine Ct.of (n:=86) func53 Z Z Z Z Z λw0 G0=>?_
 refine N 3 Z<|Y<|N 1 Z<|aG<|bn (λI G=>∃(i:Nat),(i<=a.al.length/\i<=b.al.length/\ep nA (a.al.drop i) (b.al.drop i)=ep nA a.al b.al)/\I=a.al.length-i/\G=⟨86,[(2,.box 0 0),(3,.box 1 0),(5,nI i)],[(82,[.sl (a.al.map Atm.tree),.sl (a.cl.map Cpr.tree)]),(82,[.sl (b.al.map Atm.tree),.sl (b.cl.map Cpr.tree)])],[]⟩) 2 0 ⟨0,⟨QF _,QF _,Z⟩,Z,Z⟩ .rf ?_;rintro I G ⟨i,⟨O,P,d⟩,rfl,rfl⟩;refine Y<|M<|C 3 Z (bg Z bq Z)<|aB 0 Z Z Zy (D (iL i a.al.length))<|ay 1 Z<|B Z Z Z Z (λg=>E Z Z)<|B Z Z Z Z (λg=>ao Z Z bH Z)<|B Z Z Z Z (λg=>aA Z (if_pos g) Z ck Z)<|B Z Z Z Z (λg=>bg Z bq (if_pos g))<|B Z Z Z Z (λg=>av (aL Z (if_pos g) (if_pos g) (λ_=>rfl)) (D (iL i b.al.length)))<|C 0 Z (bR Z Z Z Z)<|K<|aF Z (λq=>?_) (λq=>?_)
 ·have h:=(Qh _ _▸q:_/\_);have A:=of_decide_eq_true h.1;have F:=of_decide_eq_true h.2;obtain⟨x,m⟩:∃x,a.al[i]? =some x:=⟨_,Qj A⟩;obtain⟨y,o⟩:∃y,b.al[i]? =some y:=⟨_,Qj F⟩;refine X<|Y<|aG<|Y<|cu (fu:=12) _ [.box 0 0,.sl (a.al.map Atm.tree),nI i,.ref [sT x.r,bT x.ng,.sl (x.ts.map Trm.tree)],.agg [sT x.r,bT x.ng,.sl (x.ts.map Trm.tree)],.box 1 0,.sl (b.al.map Atm.tree),nI i,.ref [sT y.r,bT y.ng,.sl (y.ts.map Trm.tree)],.agg [sT y.r,bT y.ng,.sl (y.ts.map Trm.tree)],iT (nA x y),iT (nA x y)] U0 Z Z U0 Z ?_ ?_
  ·refine Chain.op Z (ao Z Z bH Z)<|Chain.op Z (aA Z Z Z ck Z)<|Chain.op Z (E Z Z)<|Chain.op Z (aY (Atm.tree x) Z bq Z Z Z (bi (f:=Atm.tree) m) (cL _) Z)<|Chain.op Z (bm Z Z cI Z Z)<|Chain.op Z (ao Z Z bH Z)<|Chain.op Z (aA Z Z Z ck Z)<|Chain.op Z (E Z Z)<|Chain.op Z (aY (Atm.tree y) Z bq Z Z Z (bi (f:=Atm.tree) o) (cL _) Z)<|Chain.op Z (bm Z Z cI Z Z)<|Chain.op Z (aJ Z (Kf x y (Q.2.1 x (Qo m)) (R.2.1 y (Qo o))) Z Z)<|Chain.op Z (b7 Z Z)<|Chain.nil
  refine M<|aB 1 (t:=bT (!decide (nA x y=0))) Z Z Zy (D Z)<|K<|aF Z (λu=>?_) (λu=>?_)
  ·have j:¬nA x y=0:=by simpa using u
   refine N 2 Z<|aV ⟨Z,tK ((wj d m o j).trans (if_neg (λe=>j ((wj d m o j).trans e))).symm),Z⟩ Z
  have j:nA x y=0:=by simpa using u
  refine X<|am<|bA 1 (i+1) Z Z Zy O0<|H 1 Z<|⟨_,_,?_,⟨i+1,?_,Z,Z⟩,.rf⟩
  ·omega
  exact⟨O0,O0,wh d m o j⟩
 have p:=AP d O P q;refine bh<|Y<|M<|C 2 Z (bg Z bq Z)<|C 2 Z (bg Z bq Z)<|aB 0 Z Z Zy (D (qj a.al.length b.al.length))<|K<|an Z (λL=>?_) (λL=>?_)
 ·have k:¬ep nA a.al b.al=0:=by rw[<-p];omega
  refine M<|C 2 Z (bg Z bq Z)<|C 2 Z (bg Z bq Z)<|aB 0 (t:=iT (((a.al.length:Nat):Int)-((b.al.length:Nat):Int))) Z Z Zy (sH O0 O0)<|H 1 Z<|aV ⟨Z,tK (p.trans (if_neg k).symm),Z⟩ Z
 have k:ep nA a.al b.al=0:=by rw[<-p];omega
 refine X<|Y<|N 1 Z<|aG<|bn (λI G=>∃(i:Nat),(i<=a.cl.length/\i<=b.cl.length/\ep sI (a.cl.drop i) (b.cl.drop i)=ep sI a.cl b.cl)/\I=a.cl.length-i/\G=⟨86,[(2,.box 0 0),(3,.box 1 0),(7,nI i)],[(82,[.sl (a.al.map Atm.tree),.sl (a.cl.map Cpr.tree)]),(82,[.sl (b.al.map Atm.tree),.sl (b.cl.map Cpr.tree)])],[]⟩) 2 0 ⟨0,⟨QF _,QF _,Z⟩,Z,Z⟩ .rf ?_;rintro I G ⟨i,⟨O,P,d⟩,rfl,rfl⟩;refine Y<|M<|C 3 Z (bg Z bZ Z)<|aB 0 Z Z Zy (D (iL i a.cl.length))<|ay 1 Z<|B Z Z Z Z (λg=>E Z Z)<|B Z Z Z Z (λg=>ao Z Z cR Z)<|B Z Z Z Z (λg=>aA Z (if_pos g) Z dW Z)<|B Z Z Z Z (λg=>bg Z bZ (if_pos g))<|B Z Z Z Z (λg=>av (aL Z (if_pos g) (if_pos g) (λ_=>rfl)) (D (iL i b.cl.length)))<|C 0 Z (bR Z Z Z Z)<|K<|aF Z (λw=>?_) (λw=>?_)
 ·have h:=(Qh _ _▸w:_/\_);have A:=of_decide_eq_true h.1;have F:=of_decide_eq_true h.2;obtain⟨x,m⟩:∃x,a.cl[i]? =some x:=⟨_,Qj A⟩;obtain⟨y,o⟩:∃y,b.cl[i]? =some y:=⟨_,Qj F⟩;refine X<|Y<|aG<|Y<|cu (fu:=12) _ [.box 0 1,.sl (a.cl.map Cpr.tree),nI i,.ref [nI x.op,sT x.l.v,iT x.l.c.t,iT x.l.c.n,sT x.l.c.s,sT x.r.v,iT x.r.c.t,iT x.r.c.n,sT x.r.c.s],.agg [nI x.op,sT x.l.v,iT x.l.c.t,iT x.l.c.n,sT x.l.c.s,sT x.r.v,iT x.r.c.t,iT x.r.c.n,sT x.r.c.s],.box 1 1,.sl (b.cl.map Cpr.tree),nI i,.ref [nI y.op,sT y.l.v,iT y.l.c.t,iT y.l.c.n,sT y.l.c.s,sT y.r.v,iT y.r.c.t,iT y.r.c.n,sT y.r.c.s],.agg [nI y.op,sT y.l.v,iT y.l.c.t,iT y.l.c.n,sT y.l.c.s,sT y.r.v,iT y.r.c.t,iT y.r.c.n,sT y.r.c.s],iT (sI x y),iT (sI x y)] U0 Z Z U0 Z ?_ ?_
  ·refine Chain.op Z (ao Z Z cR Z)<|Chain.op Z (aA Z Z Z dW Z)<|Chain.op Z (E Z Z)<|Chain.op Z (aY (Cpr.tree x) Z bZ Z Z Z (bi (f:=Cpr.tree) m) (gk _) Z)<|Chain.op Z (bm Z Z jD Z Z)<|Chain.op Z (ao Z Z cR Z)<|Chain.op Z (aA Z Z Z dW Z)<|Chain.op Z (E Z Z)<|Chain.op Z (aY (Cpr.tree y) Z bZ Z Z Z (bi (f:=Cpr.tree) o) (gk _) Z)<|Chain.op Z (bm Z Z jD Z Z)<|Chain.op Z (aJ Z (Kg x y) Z Z)<|Chain.op Z (b7 Z Z)<|Chain.nil
  refine M<|aB 1 (t:=bT (!decide (sI x y=0))) Z Z Zy (D Z)<|K<|aF Z (λz=>?_) (λz=>?_)
  ·have j:¬sI x y=0:=by simpa using z
   refine N 2 Z<|aV ⟨Z,tK ((wj d m o j).trans (if_pos k).symm),Z⟩ Z
  have j:sI x y=0:=by simpa using z
  refine X<|am<|bA 1 (i+1) Z Z Zy O0<|H 1 Z<|⟨_,_,?_,⟨i+1,?_,Z,Z⟩,.rf⟩
  ·omega
  exact⟨O0,O0,wh d m o j⟩
 have J:=AP d O P w;refine bh<|M<|C 2 Z (bg Z bZ Z)<|C 2 Z (bg Z bZ Z)<|aB 0 (t:=iT (((a.cl.length:Nat):Int)-((b.cl.length:Nat):Int))) Z Z Zy (sH O0 O0)<|H 1 Z<|aV ⟨Z,tK (J.trans (if_pos k).symm),Z⟩ Z
def Em(l m:List ByteArray)(s:l.length<=1073741824):Ct 52 [.sl (l.map aE),.sl (m.map aE)] (bT (pa (λx y:ByteArray=>decide (x=y)) l m)):=by
 refine Ct.of (n:=26) func52 Z Z Z Z Z λw0 G0=>?_
 refine N 1 Z<|Y<|M<|C 1 Z (bg Z bc Z)<|C 1 Z (bg Z bc Z)<|aB 0 Z Z Zy (D (qj l.length m.length))<|K<|an Z (λe=>?_) (λe=>?_)
 ·have c:¬l.length=m.length:=e;refine N 1 Z<|aV ⟨Z,eI (kO c).symm,Z⟩ Z
 have c:l.length=m.length:=RF.1 e;refine X<|Y<|N 1 Z<|aG<|bn (λr o=>∃(i:Nat),(i<=l.length/\((l.zip m).take i).all (λq=>(λx y:ByteArray=>decide (x=y)) q.1 q.2)=true)/\r=l.length-i/\o=⟨26,[(0,.sl (l.map aE)),(1,.sl (m.map aE)),(5,nI i)],[],[]⟩) 0 0 ⟨0,⟨O0,Z⟩,Z,Z⟩ .rf ?_;rintro r o ⟨i,⟨t,d⟩,rfl,rfl⟩;refine Y<|M<|C 2 Z (bg Z bc Z)<|aB 0 Z Z Zy (D (iL i l.length))<|K<|an Z (λh=>?_) (λh=>?_)
 ·obtain⟨a,hl⟩:∃a,l[i]? =some a:=⟨_,Qj h⟩;obtain⟨b,k⟩:∃b,m[i]? =some b:=⟨_,Qj O0⟩;refine X<|Y<|aG<|Y<|cu (fu:=9) _ [.sl (l.map aE),nI i,.ref [sT a],sT a,.sl (m.map aE),nI i,.ref [sT b],sT b,bT (!decide (a=b))] U0 Z Z U0 Z ?_ ?_
  ·refine Chain.op Z (E Z Z)<|Chain.op Z (E Z Z)<|Chain.op Z (aY (aE a) Z bc Z Z Z (bi (f:=aE) hl) (gQ _) Z)<|Chain.op Z (aX Z Z dL Z)<|Chain.op Z (E Z Z)<|Chain.op Z (E Z Z)<|Chain.op Z (aY (aE b) Z bc Z Z Z (bi (f:=aE) k) (gQ _) Z)<|Chain.op Z (aX Z Z dL Z)<|Chain.op Z (av (aL Z Z Z Zy) (D (congrArg (!·) (aM _ _))))<|Chain.nil
  refine aF Z (λg=>?_) (λg=>?_)
  ·have j:=g;refine N 1 Z<|aV ⟨Z,eI (nz (p:=λx y:ByteArray=>decide (x=y)) hl k (by simpa using j)).symm,Z⟩ Z
  have j:=g;refine X<|am<|bA 1 (i+1) Z Z Zy O0<|H 1 Z<|⟨_,_,?_,⟨i+1,?_,Z,Z⟩,.rf⟩
  ·omega
  exact⟨O0,jj (p:=λx y:ByteArray=>decide (x=y)) hl k (by simpa using j) d⟩
 refine bh<|N 1 Z<|aV ⟨Z,eI (kP c O0 d).symm,Z⟩ Z
def oT(a b:List ByteArray×List Cq)(z:a.1.length<=1073741824)(F:a.2.length<=1073741824)(A:b.2.length<=1073741824)(s:∀c∈a.2,(c.al.length<=1073741824/\(∀x∈c.al,x.ts.length<=1073741824)/\c.cl.length<=1073741824))(u:∀c∈b.2,(c.al.length<=1073741824/\(∀x∈c.al,x.ts.length<=1073741824)/\c.cl.length<=1073741824)):Ct 18 [oM a,oM b] (bT (iu a b)):=by
 refine Ct.of (n:=40) func18 Z Z Z Z Z λw0 G0=>?_
 refine N 3 Z<|Y<|M<|C 4 Z (aJ Z (Em a.1 b.1 z) Z Z)<|C 0 (t:=bT (!(pa (λx y:ByteArray=>decide (x=y)) a.1 b.1))) Z (dl Z Z Zy)<|ay 1 Z<|B Z Z Z Z (λd=>ao Z Z dB Z)<|B Z Z Z Z (λd=>aA Z (if_pos d) Z eR Z)<|B Z Z Z Z (λd=>bg Z bQ (if_pos d))<|B Z Z Z Z (λd=>ao Z Z dB Z)<|B Z Z Z Z (λd=>aA Z (if_pos d) Z eR Z)<|B Z Z Z Z (λd=>bg Z bQ (if_pos d))<|B Z Z Z Z (λd=>av (aL Z (if_pos d) (if_pos d) (λ_=>rfl)) (D (qj (a.2.length) (b.2.length))))<|C 0 Z (eo Z Z Z Z)<|K<|aF Z (λg=>?_) (λg=>?_)
 ·have m:=g;refine N 1 Z<|aV ⟨Z,eI (Kd m).symm,Z⟩ Z
 have m:=g;refine X<|Y<|N 1 Z<|aG<|bn (λw v=>∃(i:Nat),(i<=a.2.length/\((a.2.zip b.2).take i).all (λq=>gD q.1 q.2)=true)/\w=a.2.length-i/\v=⟨40,[(2,.box 0 0),(3,.box 1 0),(5,nI i)],[(43,[.sl (a.1.map aE),.sl (a.2.map Cq.tree)]),(43,[.sl (b.1.map aE),.sl (b.2.map Cq.tree)])],[]⟩) 2 0 ⟨0,⟨O0,Z⟩,Z,Z⟩ .rf ?_;rintro w v ⟨i,⟨G,e⟩,rfl,rfl⟩;refine Y<|M<|C 3 Z (bg Z bQ Z)<|aB 0 Z Z Zy (D (iL i (a.2.length)))<|K<|an Z (λj=>?_) (λj=>?_)
 ·obtain⟨x,hl⟩:∃x,a.2[i]? =some x:=⟨_,Qj j⟩;obtain⟨k,l⟩:=CH m;obtain⟨y,o⟩:∃y,b.2[i]? =some y:=⟨_,Qj O0⟩;refine X<|Y<|aG<|Y<|cu (fu:=12) _ [.box 0 1,.sl (a.2.map Cq.tree),nI i,.ref [.sl (x.al.map Atm.tree),.sl (x.cl.map Cpr.tree)],.agg [.sl (x.al.map Atm.tree),.sl (x.cl.map Cpr.tree)],.box 1 1,.sl (b.2.map Cq.tree),nI i,.ref [.sl (y.al.map Atm.tree),.sl (y.cl.map Cpr.tree)],.agg [.sl (y.al.map Atm.tree),.sl (y.cl.map Cpr.tree)],iT (GD x y),bT (!decide (GD x y=0))] U0 Z Z U0 Z ?_ ?_
  ·refine Chain.op Z (ao Z Z dB Z)<|Chain.op Z (aA Z Z Z eR Z)<|Chain.op Z (E Z Z)<|Chain.op Z (aY (Cq.tree x) Z bQ Z Z Z (bi (f:=Cq.tree) hl) (fh _) Z)<|Chain.op Z (bm Z Z ei Z Z)<|Chain.op Z (ao Z Z dB Z)<|Chain.op Z (aA Z Z Z eR Z)<|Chain.op Z (E Z Z)<|Chain.op Z (aY (Cq.tree y) Z bQ Z Z Z (bi (f:=Cq.tree) o) (fh _) Z)<|Chain.op Z (bm Z Z ei Z Z)<|Chain.op Z (aJ Z (Kh x y (s x (Qo hl)) (u y (Qo o))) Z Z)<|Chain.op Z (av (aL Z Z Z Zy) (D Z))<|Chain.nil
  refine aF Z (λh=>?_) (λh=>?_)
  ·have r:gD x y=false:=by rw[<-Bool.not_eq_true,<-yw];simpa using h
   refine N 1 Z<|aV ⟨Z,eI (by unfold iu;rw[nz (p:=gD) hl o r,R8]),Z⟩ Z
  have r:gD x y=true:=by rw[<-yw];simpa using h
  refine X<|am<|bA 1 (i+1) Z Z Zy O0<|H 1 Z<|⟨_,_,?_,⟨i+1,?_,Z,Z⟩,.rf⟩
  ·omega
  exact⟨O0,jj (p:=gD) hl o r e⟩
 obtain⟨k,l⟩:=CH m;refine bh<|N 1 Z<|aV ⟨Z,eI (by unfold iu;rw[k,kP (p:=gD) l O0 e];rfl),Z⟩ Z
