import Derived.Test.YtmhcanmapkenbaaGreatDoorA36
import Derived.Lib.ConvBytes
import Derived.Laws.IdiomStrings
import Derived.Laws.Strings
import Derived.Laws.StructEq
set_option linter.defProp false
open Go.Proofs.Tryz
namespace Go.Proofs.YtmhcanmapkenbaaGreatDoor
open Lib renaming hid→J
variable{y:Operand}
noncomputable def f6 (P:Program) {α:Type}:Sem α->Option α
 | .pure a=>some a
 | .program k=>f6 P (k P)
 | .mark _ k=>f6 P k
 |_=>none
def jm{P:Program}{α:Type}{s:Sem α}{a:α}(w:World)(h:f6 P s=some a):s.run P w=.ok a w:=by
 induction s with
 |pure b=>
  simp only[f6,Qy]at h;subst h;rfl
 |program k ih=>
  simp only[f6]at h;exact ih P h
 |mark m k ih=>
  simp only[f6]at h;exact ih h
 |_=>simp[f6]at h
noncomputable def HH (n:Nat):Value->Bool:=Nat.rec (λ_=>false) (λ_ ih v=>match v with| .agg cs=>List.rec true (λa _ r=>cond (ih a) r false) cs.toList|v=>s0 v) n
def VL.clean{P:Program}{E:EE}:∀(n:Nat) {u v:Value},VL P E [u] [v]->HH n v=true->u=v
 |0,_,_,_,h=>by cases h
 |n+1,u,v,hv,h=>by
  have sc:s0 v=true->u=v:=λg=>by
   cases hv with
   |sc=>rfl
   |any=>cases g
   |fn f xs cs xs' cs' i hx' _=>
    simp only[s0,Qh]at g;have j:cs.length=0:=Ql g.1;have k:cs'.length=0:=Ql g.2;have o:=i.length;have p:=hx'.length;have:cs=[]:=QI j;subst this;have:cs'=[]:=QI k;subst this;have:xs=[]:=QI o;subst this;have:xs'=[]:=QI p;subst this;rfl
   |_=>cases g
  cases v with
  |agg cs=>
   obtain⟨xs,rfl,i⟩:=hv.aggr;have key:∀(l m:List Value),VL P E m l->(List.rec (motive:=λ_=>Bool) true (λa _ r=>cond (HH n a) r false) l)=true->m=l:=λl=>by
    induction l with
    |nil=>intro m e _;cases m with
     |nil=>rfl
     |cons _ _=>cases e
    |cons a l ih=>
     intro m e d;have d:cond (HH n a) _ false=true:=d;cases c:HH n a with
     |false=>rw[c]at d;cases d
     |true=>
      rw[c]at d;cases m with
      |nil=>cases e
      |cons b m=>
       rw[VL.clean n e.head c,ih m e.tail d]
   have:=key cs.toList xs.toList i h;rw[Rb this]
  |_=>exact sc h
noncomputable def lP (v:Value) (A:AH):Rs:=
 match v with
 | .int k (.ofNat n)=>dH n λn=>some (.int k (.ofNat n),A)
 | .int k (.negSucc n)=>dH n λn=>some (.int k (.negSucc n),A)
 | .bool b=>cond b (some (.bool true,A)) (some (.bool false,A))
 |v=>cond (s0 v) (some (v,A)) none
def iS{v v':Value}{A a:AH}(h:lP v A=some (v',a)):v'=v/\a=A/\s0 v=true:=by
 unfold lP at h;split at h
 ·rw[b8]at h;cases h;exact⟨Z,Z,Z⟩
 ·rw[b8]at h;cases h;exact⟨Z,Z,Z⟩
 ·next b=>cases b<;>cases h<;>exact⟨Z,Z,Z⟩
 obtain⟨c,d⟩:=aW h;cases d;exact⟨Z,Z,c⟩
section
variable {P:Program} {base:Nat} {sl:Slo} {A:AH} {o:Oper}
noncomputable def zb (P:Program) (A:AH) (op:BinOp) (t:TypeId) (x y:Operand) (a b:Value):Rs:=cond (HH 4 a&&HH 4 b) (cP (f6 P (do eqGuard op t x y a b;binOp op t a b)) λv=>lP v A) none
noncomputable def qo:IntKind->Nat
 | .i8=>128| .i16=>32768| .i32=>2147483648| .i64=>9223372036854775808| .u8=>256| .u16=>65536| .u32=>4294967296| .u64=>18446744073709551616
def HJ{k:IntKind}{n:Nat}(h:n<qo k):k.wrap (n:Int)=n:=by
 cases k<;>simp only[qo]at h<;>simp only[IntKind.wrap,IntKind.bits,IntKind.signed]<;>simp<;>omega
noncomputable def bV (b:Bool) (A:AH):Rs:=cond b (some (.bool true,A)) (some (.bool false,A))
def qf{b:Bool}{A a:AH}{v:Value}(h:bV b A=some (v,a)):v=.bool b/\a=A:=by cases b<;>cases h<;>exact⟨Z,Z⟩
noncomputable def NO (a b:IntKind):Bool:=Nat.beq (qo a) (qo b)
def pI{a b:IntKind}(h:NO a b=true):a=b:=by
 have:=Ql h;cases a<;>cases b<;>first|rfl|(simp[qo]at this)
noncomputable def CW (op:BinOp) (k:IntKind) (a b:Nat) (A:AH) (e:Rs):Rs:=
 match op with
 | .add=>dH (a+b) λc=>cond (Nat.blt c (qo k)) (some (.int k (.ofNat c),A)) e
 | .sub=>cond (Nat.ble b a&&Nat.blt a (qo k)) (dH (a-b) λc=>some (.int k (.ofNat c),A)) e
 | .mul=>dH (a*b) λc=>cond (Nat.blt c (qo k)) (some (.int k (.ofNat c),A)) e
 | .eql=>bV (Nat.beq a b) A
 | .neq=>bV (!Nat.beq a b) A
 | .lss=>bV (Nat.blt a b) A
 | .leq=>bV (Nat.ble a b) A
 | .gtr=>bV (Nat.blt b a) A
 | .geq=>bV (Nat.ble b a) A
 |_=>e
noncomputable def HK (l:List UInt8):List UInt8->Bool:=List.rec (λm=>List.rec true (λ_ _ _=>false) m) (λa _ ih m=>List.rec false (λb m _=>cond (Nat.beq a.toNat b.toNat) (ih m) false) m) l
def lQ:∀l m:List UInt8,HK l m=(l==m)
 |[],[]=>rfl
 |[],_::_=>rfl
 |_::_,[]=>rfl
 |a::l,b::m=>by
  show cond (Nat.beq a.toNat b.toNat) (HK l m) false=_
  rw[lQ l m,List.cons_beq_cons];cases h:Nat.beq a.toNat b.toNat with
  |true=>
   have:a=b:=Sf.1 (Ql h);subst this;simp
  |false=>
   have:(a==b)=false:=by
    cases c:a==b with
    |false=>rfl
    |true=>
     have:=eq_of_beq c;subst this;simp at h
   rw[this];rfl
def tn{a b:ByteArray}(h:a.data.toList=b.data.toList):a=b:=by
 cases a;cases b;congr 1;exact Rb h
noncomputable def HY (op:BinOp) (a b:ByteArray) (A:AH) (e:Rs):Rs:=
 match op with
 | .add=>cond (Nat.ble (gF a.data.toList+gF b.data.toList) 1099511627776) (fF (o0 a.data.toList b.data.toList) λl=>some (.string ⟨⟨l⟩⟩,A)) none
 | .eql=>bV (HK a.data.toList b.data.toList) A
 | .neq=>bV (!HK a.data.toList b.data.toList) A
 |_=>e
noncomputable def zc (P:Program) (sl:Slo) (A:AH) (op:BinOp) (t:TypeId) (x y:Operand):Rs:=
 match de P sl x,de P sl y with
 | .int k (.ofNat a),.int k' (.ofNat b)=>cond (NO k k') (CW op k a b A (zb P A op t x y (.int k (.ofNat a)) (.int k' (.ofNat b)))) (zb P A op t x y (.int k (.ofNat a)) (.int k' (.ofNat b)))
 | .string a,.string b=>HY op a b A (zb P A op t x y (.string a) (.string b))
 | .slice a _ _,.slice none 0 0=>match P.underlying t with
  |some (.slice _)=>match op with
   | .eql=>bV a.isNone A
   | .neq=>bV a.isSome A
   |_=>none
  |_=>none
 | .pointer a,.pointer none=>match P.underlying t with
  |some (.pointer _)=>match op with
   | .eql=>bV a.isNone A
   | .neq=>bV a.isSome A
   |_=>none
  |_=>none
 |a,b=>zb P A op t x y a b
def qQ{op:BinOp}{t p:TypeId}{x:Operand}{a b:Value}{E:EE}{w:World}{T:Nat->Value}{v:Value}{e:AH}(l:o.op=.binOp op t x y p)(m:VL P E [eL T x] [a])(n:VL P E [eL T y] [b])(k:RelA P E A base w)(c:zb P A op t x y a b=some (v,e)):OpY P o T w (Aft P E e base w v):=by
 unfold zb at c;obtain⟨d,c⟩:=aW c;simp only[Qh]at d;obtain⟨u,h,c⟩:=aS c;obtain⟨rfl,rfl,i⟩:=iS c;have f:=m.clean 4 d.1;have g:=n.clean 4 d.2;have j:=jm w h;refine .of_ok (v:=v) (W':=w) ?_ (.here k (.sc _ i .nil));simp only[execOp,l,f,g];rw[Sem.run_bind,j];rfl
def wS(a b:Nat):((a:Int)==(b:Int))=Nat.beq a b:=by
 cases h:Nat.beq a b with
 |true=>
  have:=Ql h;subst this;simp
 |false=>
  have c:a≠b:=λe=>by subst e;simp at h
  simp;omega
def H0{op:BinOp}{t r:TypeId}{x:Operand}{k:IntKind}{a b:Nat}{E:EE}{w:World}{T:Nat->Value}{v:Value}{l:AH}{e:Rs}(g:o.op=.binOp op t x y r)(i:eL T x=.int k a)(j:eL T y=.int k b)(p:RelA P E A base w)(m:e=some (v,l)->OpY P o T w (Aft P E l base w v))(d:CW op k a b A e=some (v,l)):OpY P o T w (Aft P E l base w v):=by
 have bool:∀c:Bool,bV c A=some (v,l)->(execOp (eL T) o).run P w=.ok (.value (.bool c)) w->OpY P o T w (Aft P E l base w v):=λc f n=>by
  obtain⟨rfl,rfl⟩:=qf f;exact .of_ok n (.here p (.sc _ Z .nil))
 have num:∀c:Nat,c<qo k->some (Value.int k (.ofNat c),A)=some (v,l)->(execOp (eL T) o).run P w=.ok (.value (.int k (k.wrap (c:Int)))) w->OpY P o T w (Aft P E l base w v):=λc f h n=>by
  cases h;rw[HJ f]at n;exact .of_ok n (.here p (.sc _ Z .nil))
 unfold CW at d;split at d
 ·rw[b8]at d;cases f:Nat.blt (a+b) (qo k)with
  |true=>
   rw[f]at d;refine num _ (cU f) d ?_;simp[execOp,g,i,j,eqGuard,binOp,Op.intArith]
  |false=>rw[f]at d;exact m d
 ·cases f:(Nat.ble b a&&Nat.blt a (qo k))with
  |true=>
   rw[f]at d;simp only[Qh,Rh]at f;have q:=cU f.2;rw[b8]at d;refine num (a-b) O d ?_;have:((a:Int)-(b:Int))=((a-b:Nat):Int):=O
   simp[execOp,g,i,j,eqGuard,binOp,Op.intArith,this]
  |false=>rw[f]at d;exact m d
 ·rw[b8]at d;cases f:Nat.blt (a*b) (qo k)with
  |true=>
   rw[f]at d;refine num _ (cU f) d ?_;simp[execOp,g,i,j,eqGuard,binOp,Op.intArith]
  |false=>rw[f]at d;exact m d
 ·refine bool _ d ?_;simp[execOp,g,i,j,eqGuard,binOp,Op.intCmp,<-wS]
 ·refine bool _ d ?_;simp[execOp,g,i,j,eqGuard,binOp,Op.intCmp,<-wS,bne]
 ·refine bool _ d ?_;have:decide ((a:Int)<(b:Int))=Nat.blt a b:=by rw[R4,Q7];simp
  simp only[execOp,g,i,j,eqGuard,binOp,Op.intCmp,this];simp
 ·refine bool _ d ?_;have:decide ((a:Int)<=(b:Int))=Nat.ble a b:=by rw[R4,Rh];simp
  simp only[execOp,g,i,j,eqGuard,binOp,Op.intCmp,this];simp
 ·refine bool _ d ?_;have:decide ((b:Int)<(a:Int))=Nat.blt b a:=by rw[R4,Q7];simp
  simp only[execOp,g,i,j,eqGuard,binOp,Op.intCmp,gt_iff_lt,this];simp
 ·refine bool _ d ?_;have:decide ((b:Int)<=(a:Int))=Nat.ble b a:=by rw[R4,Rh];simp
  simp only[execOp,g,i,j,eqGuard,binOp,Op.intCmp,ge_iff_le,this];simp
 exact m d
def H3{op:BinOp}{t K:TypeId}{x:Operand}(p:o.op=.binOp op t x y K):Good P base sl A o (zc P sl A op t x y):=by
 intro v L f E w T n G;have i:=G.at x;have l:=G.at y;unfold zc at f;split at f
 ·next k a k' b h1 h2=>
  rw[h1]at i;rw[h2]at l;cases D:NO k k' with
  |true=>
   rw[D]at f;have:=pI D;subst this;exact H0 p i.int l.int n (λf=>qQ p i l n f) f
  |false=>rw[D]at f;exact qQ p i l n f
 ·next a b h1 h2=>
  rw[h1]at i;rw[h2]at l;have j:=i.string;have r:=l.string;unfold HY at f;simp only[c8,jH,dd]at f;split at f
  ·obtain⟨H,f⟩:=aW f;cases f;have H:a.data.toList.length+b.data.toList.length<=1099511627776:=by simpa using H
   have J:a.size=a.data.toList.length:=rfl;have I:b.size=b.data.toList.length:=rfl;have z:a++b=⟨⟨a.data.toList++b.data.toList⟩⟩:=by
    have:(a++b).data=a.data++b.data:=RJ ..;cases C:a++b with
    |mk d=>
     rw[C]at this;simp only at this;rw[this];congr 1;exact Rb F
   refine .of_ok (v:=.string (a++b)) (W':=w) ?_ (.here n (by rw[z];exact .sc _ Z .nil));simp[execOp,p,j,r,eqGuard,binOp,Op.stringOp];omega
  ·obtain⟨rfl,rfl⟩:=qf f;rw[lQ];refine .of_ok (W':=w) ?_ (.here n (.sc _ Z .nil));simp[execOp,p,j,r,eqGuard,binOp,Op.stringOp,ByteArray.toList_eq]
  ·obtain⟨rfl,rfl⟩:=qf f;rw[lQ];refine .of_ok (W':=w) ?_ (.here n (.sc _ Z .nil));simp[execOp,p,j,r,eqGuard,binOp,Op.stringOp,ByteArray.toList_eq]
  exact qQ p i l n f
 ·next a m c h1 h2=>
  rw[h1]at i;rw[h2]at l;obtain⟨r,_⟩:=l.nilSlice;have j:∃g B,eL T x=.slice g m B/\g.isNone=a.isNone:=by
   cases a with
   |none=>exact⟨none,c,i.nilSlice.1,Z⟩
   |some a=>
    generalize eL T x=u at i;cases i with
    |sc v h _=>cases h
    |slc=>exact⟨_,_,Z,Z⟩
  obtain⟨g,B,j,s⟩:=j;split at f
  ·next e hu=>
   have q:(Op.equal t (.slice g m B) (.slice none 0 0)).run P w=.ok g.isNone w:=by
    have:∀d:Nat,(Op.equalIn (d+1) t (.slice g m B) (.slice none 0 0)).run P w=.ok g.isNone w:=λd=>by
     cases g<;>simp[Op.equalIn,run_underlying hu]
    exact this 9999
   split at f
   ·obtain⟨rfl,rfl⟩:=qf f;refine .of_ok (v:=.bool a.isNone) (W':=w) ?_ (.here n (.sc _ Z .nil));simp[execOp,p,j,r,eqGuard,binOp,q,s]
   ·obtain⟨rfl,rfl⟩:=qf f;refine .of_ok (v:=.bool a.isSome) (W':=w) ?_ (.here n (.sc _ Z .nil));have:(!g.isNone)=a.isSome:=by rw[s];cases a<;>rfl
    simp only[execOp,p,j,r,eqGuard,binOp];simp;rw[q];simp only[Result.andThen_ok,this]
   cases f
  cases f
 ·next a h1 h2=>
  rw[h1]at i;rw[h2]at l;have r:eL T y=.pointer none:=by
   generalize eL T y=u at l;cases l;rfl
  have j:∃g,eL T x=.pointer g/\g.isNone=a.isNone:=by
   generalize eL T x=u at i;cases i with
   |sc v h _=>exact⟨_,Z,Z⟩
   |ptr=>exact⟨_,Z,Z⟩
   |tpt=>exact⟨_,Z,Z⟩
  obtain⟨g,j,s⟩:=j;split at f
  ·next e hu=>
   have q:(Op.equal t (.pointer g) (.pointer none)).run P w=.ok g.isNone w:=by
    have:∀d:Nat,(Op.equalIn (d+1) t (.pointer g) (.pointer none)).run P w=.ok g.isNone w:=λd=>by
     cases g<;>simp[Op.equalIn,run_underlying hu]
    exact this 9999
   split at f
   ·obtain⟨rfl,rfl⟩:=qf f;refine .of_ok (v:=.bool a.isNone) (W':=w) ?_ (.here n (.sc _ Z .nil));simp[execOp,p,j,r,eqGuard,binOp,q,s]
   ·obtain⟨rfl,rfl⟩:=qf f;refine .of_ok (v:=.bool a.isSome) (W':=w) ?_ (.here n (.sc _ Z .nil));have:(!g.isNone)=a.isSome:=by rw[s];cases a<;>rfl
    simp only[execOp,p,j,r,eqGuard,binOp];simp;rw[q];simp only[Result.andThen_ok,this]
   cases f
  cases f
 exact qQ p i l n f
noncomputable def H4 (P:Program) (sl:Slo) (A:AH) (op:UnOp) (x:Operand):Rs:=cond (HH 1 (de P sl x)) (cP (f6 P (Op.unary op (de P sl x))) λv=>lP v A) none
def KI{op:UnOp}{t:TypeId}{x:Operand}(i:o.op=.unOp op t x):Good P base sl A o (H4 P sl A op x):=by
 intro v j a E w T g h;unfold H4 at a;obtain⟨c,a⟩:=aW a;obtain⟨u,d,a⟩:=aS a;obtain⟨rfl,rfl,e⟩:=iS a;have b:=(h.at x).clean 1 c;have f:=jm w d;refine .of_ok (v:=v) (W':=w) ?_ (.here g (.sc _ e .nil));simp only[execOp,i,b];rw[Sem.run_bind,f];rfl
noncomputable def CX (P:Program) (A:AH) (s d:TypeId) (b:ByteArray):Rs:=match P.underlying s,P.underlying d with
 |some .string,some (.slice e)=>match P.underlying e with
  |some (.int .u8)=>cP (P.info? e) λi=>cond (Nat.beq i.size 1&&Nat.ble (gF b.data.toList) 1099511627776) (lg A (iv (λb=>.int .u8 (.ofNat b.toNat)) b.data.toList) λk A=>some (.slice (some ⟨k,0,none⟩) (gF b.data.toList) e,A)) none
  |_=>none
 |_,_=>none
noncomputable def H5 (v:Value) (r:Option (List UInt8)):Option (List UInt8):=match v with| .int .u8 (.ofNat m)=>cond (Nat.blt m 256) (cP r λl=>some (UInt8.ofNat m::l)) none|_=>none
noncomputable def qR (l:List Value):Option (List UInt8):=List.rec (some []) (λv _ ih=>H5 v ih) l
def nM:∀{l:List Value} {bs:List UInt8},qR l=some bs->l=bs.map λb=>.int .u8 (b.toNat:Int)
 |[],bs,h=>by cases h;rfl
 |v::l,bs,h=>by
  have h:H5 v (qR l)=some bs:=h;unfold H5 at h;split at h
  ·rename_i m _;obtain⟨a,h⟩:=aW h;obtain⟨bs',c,h⟩:=aS h;cases h;rw[nM c,QM];congr 2;have:=cU a;rw[SJ];show Int.ofNat m=_
   congr 1;rw[RC O]
  cases h
def wT{E:EE}:∀{l:List UInt8} {us:List Value},VL P E us (l.map λb=>.int .u8 (b.toNat:Int))->us=l.map λb=>.int .u8 (b.toNat:Int)
 |[],us,h=>by cases h;rfl
 |b::l,[],h=>by cases h
 |b::l,u::us,h=>by
  have:=h.head.int;rw[this,QM,wT h.tail]
noncomputable def CY (P:Program) (A:AH) (s d:TypeId) (n c len:Nat):Rs:=match P.underlying s,P.underlying d with
 |some (.slice e),some .string=>match P.underlying e with
  |some (.int .u8)=>cP (A.get n) λr=>cond (Nat.ble (c+len) (gF r.cs)) (cP (qR (ld len (lM c r.cs))) λl=>fF l λl=>some (.string ⟨⟨l⟩⟩,A)) none
  |_=>none
 |_,_=>none
def H6{s d:TypeId}{x:Operand}{b:ByteArray}(J:o.op=.convert s d x)(K:de P sl x=.string b):Good P base sl A o (CX P A s d b):=by
 intro v L c E w T G H;unfold CX at c;simp only[c8,qL]at c;split at c
 ·next e hs hd=>
  split at c
  ·next hu=>
   obtain⟨i,I,c⟩:=aS c;obtain⟨y,c⟩:=aW c;simp only[Qh,Rh]at y;obtain⟨g,t⟩:=y;have g:=Ql g;obtain⟨u,c⟩:=kg c;cases c;have q:=H.at x;rw[K]at q;have q:=q.string;have k:b.data.toList.length=b.size:=rfl;rw[k]at t⊢;have h:=grownCap_ge w b.size 0 e;have n:=grownCap_le_maxLen w b.size 0 e (by unfold maxLen;omega);unfold maxLen at n;have p:=Lib.run_convert_string_bytes (P:=P) w s d e b hs hd hu;have m:(Lib.bytesCells w e b).size=grownCap w b.size 0 e:=by
    simp[Lib.bytesCells,grownCap]at h⊢;omega
   obtain⟨E',z,B,C,D⟩:=G.fresh (w':=Lib.bytesWorld w e b) (cs:=b.data.toList.map λb=>.int .u8 (.ofNat b.toNat)) (f:=A.nx) (l:=[]) (arr:=Lib.bytesCells w e b) (e:=e) (fz:=((Lib.bytesCells w e b).size,(Lib.bytesCells w e b).size+1)) u (by
     refine Array.ext_getElem? λj=>?_
     rcases SP j w.heap.size with r|r|r
     ·rw[Lib.bytesWorld_at_old w e b j r,SH,if_neg O]
     ·subst r;rw[Lib.bytesWorld_at_new];simp
     have k:(Lib.bytesWorld w e b).heap.size=w.heap.size+1:=by simp[Lib.bytesWorld,World.freeze,World.alloc,World.drew,-World.alloc_eq,-World.drew_eq]
     rw[R0 O,R0 (by simp;omega)]) Z Z Z (.inr (Qi _)) (by rw[Qr,k,m];exact h) (by
    rw[Qr];have:(Lib.bytesCells w e b).toList.take b.data.toList.length=b.data.toList.map λb=>.int .u8 (.ofNat b.toNat):=by
     simp only[Lib.bytesCells,QW,R7];exact List.take_left' F
    rw[this];generalize b.data.toList=l;induction l with
    |nil=>exact .nil
    |cons a l ih=>exact .sc _ Z ih) (.inl ⟨Z,Z⟩)
   refine .of_ok (v:=.slice (some ⟨w.heap.size,0,none⟩) b.size (grownCap w b.size 0 e)) (W':=Lib.bytesWorld w e b) (by simp only[execOp,J,q,Sem.run_bind,p];rfl) ⟨E',z,.slc _ 0 e b.size (grownCap w b.size 0 e) w.heap.size 0 0 B h O (λ_=>⟨Z,_,i,C,I,by rw[m,g];omega⟩) .nil,D⟩
  cases c
 cases c
def H7{s d:TypeId}{x:Operand}{n c f e:Nat}(G:o.op=.convert s d x)(K:de P sl x=.slice (some ⟨n,c,none⟩) f e):Good P base sl A o (CY P A s d n c f):=by
 intro v M a E w T z D;unfold CY at a;simp only[c8,fl,fp,dd]at a;split at a
 ·next e' hs hd=>
  split at a
  ·next hu=>
   obtain⟨r,J,a⟩:=aS a;obtain⟨t,a⟩:=aW a;rw[Rh]at t;obtain⟨l,C,a⟩:=aS a;cases a;have u:=D.at x;rw[K]at u;obtain⟨b,q,L,cap,k,H,hl,_,h⟩:=u.slice;obtain⟨us,N,B,p⟩:=z.reads J k c f t;have y:=nM C;have i:l.length=f:=by
    have:=congrArg List.length y;rw[QN,QZ,Qr]at this;omega
   have m:us=l.map λb=>.int .u8 (b.toNat:Int):=by
    rw[y]at p;exact wT p
   have g:=run_convert_bytes_back (P:=P) w s d e' ⟨b,L,none⟩ cap l hs hu hd λj F=>by
    obtain⟨I,_⟩:=h O;subst I;rw[eG];exact B j _ (by rw[m];simp[Qj F])
   rw[i]at g;refine .of_ok (v:=.string ⟨l.toArray⟩) (W':=w) ?_ (.here z (.sc _ Z .nil));simp only[execOp,G,H,Sem.run_bind,g];rfl
  cases a
 cases a
noncomputable def tq (P:Program) (sl:Slo) (A:AH) (s d:TypeId) (x:Operand):Rs:=cond (HH 1 (de P sl x)) (cP (f6 P (convert s d (de P sl x))) λv=>lP v A) none
def zd{s d:TypeId}{x:Operand}(j:o.op=.convert s d x):Good P base sl A o (tq P sl A s d x):=by
 intro v k a E w T h i;unfold tq at a;obtain⟨c,a⟩:=aW a;obtain⟨u,e,a⟩:=aS a;obtain⟨rfl,rfl,f⟩:=iS a;have b:=(i.at x).clean 1 c;have g:=jm w e;refine .of_ok (v:=v) (W':=w) ?_ (.here h (.sc _ f .nil));simp only[execOp,j,b];rw[Sem.run_bind,g];rfl
noncomputable def H8 (P:Program) (sl:Slo) (A:AH) (s d:TypeId) (x:Operand):Rs:=match de P sl x with
 | .string b=>match P.underlying d with
  |some (.slice _)=>CX P A s d b
  |_=>tq P sl A s d x
 | .slice (some ⟨n,c,none⟩) len _=>CY P A s d n c len
 |_=>tq P sl A s d x
def KJ{s d:TypeId}{x:Operand}(a:o.op=.convert s d x):Good P base sl A o (H8 P sl A s d x):=by
 unfold H8;split
 ·next b hx=>
  split
  ·exact H6 a hx
  exact zd a
 ·next n c len e hx=>exact H7 a hx
 exact zd a
end
section
variable {P:Program} {E:EE} {A:AH} {base:Nat} {w:World} {sl:Slo} {o:Oper}
noncomputable def AH.newM (A:AH):AH:=⟨A.t,A.nx,A.fm,A.nm+1,A.mp.set fc A.nm (some [])⟩
noncomputable def AH.putM (A:AH) (n:Nat) (l:List (Value×Value)):AH:=⟨A.t,A.nx,A.fm,A.nm,A.mp.set fc n (some l)⟩
def KK{n:Nat}{l:List (Value×Value)}(h:A.mget n=some l):n<16384:=cU (aW h).1
def ze{t:Tri ARow}{f:Tri (List Nat)}{x y n:Nat}{l:List (Value×Value)}(c:n<16384)(m:Nat):(⟨t,x,f,y,A.mp.set fc n (some l)⟩:AH).mget m=if m=n then some l else A.mget m:=by
 unfold AH.mget;by_cases a:m<16384
 ·rw[jU a];exact di (some l) fc A.mp n m c a
 have:Nat.blt m 16384=false:=by cases b:Nat.blt m 16384 with|false=>rfl|true=>exact absurd (cU b) a
 rw[this,if_neg O];rfl
def RelA.mapNew(h:RelA P E A base w)(G:A.nm<16384):∃E',RelA P E' A.newM base (w.alloc (.map #[] 0))/\E'.ml A.nm=some w.heap.size/\Fr E E' w (w.alloc (.map #[] 0)):=by
 have d:∀b,b<w.heap.size->(w.alloc (.map #[] 0)).heap[b]? =w.heap[b]? :=λb a=>by
  show(w.heap.push _)[b]? =_
  rw[SH,if_neg O]
 have x:(w.alloc (.map #[] 0)).heap.size=w.heap.size+1:=F
 have l:E.Le ⟨E.lo,E.bl,λn=>if n=A.nm then some w.heap.size else E.ml n,E.tb⟩:=⟨λ_ _ h=>h,λ_ _ h=>h,λn b a=>by
  show(if n=A.nm then _ else _)=_
  rw[if_neg (λe=>by rw[h.mnew n O]at a;cases a)];exact a,λ_ _ h=>h⟩
 have c:=h.later (w':=w.alloc (.map #[] 0)) O d;refine⟨⟨E.lo,E.bl,λn=>if n=A.nm then some w.heap.size else E.ml n,E.tb⟩,⟨λn r C=>?_,c.blk,c.sep,c.fam,c.top,c.mem,c.new,c.nxb,λn cs k=>?_,λn m b j f=>?_,λn y=>?_,λn b a=>?_,c.base,c.typ,c.rty⟩,if_pos Z,⟨l,Z,Z,Z,O,λb a _ _=>d b a,λ_ _=>rfl,λn b a=>?_⟩⟩
 ·obtain⟨b,q,o,p,s,t⟩:=c.row n r C;exact⟨b,q,o,p,s,λi v D=>(t i v D).imp λu g=>⟨g.1,g.2.mono l⟩⟩
 ·unfold AH.newM at k;rw[ze G]at k;split at k
  ·next e=>
   cases k;exact⟨w.heap.size,#[],0,if_pos e,by show(w.heap.push _)[w.heap.size]? =_;simp,h.base,.nil,.nil⟩
  next e=>
  obtain⟨b,es,z,o,p,s,t,B⟩:=c.map n cs k;exact⟨b,es,z,(if_neg e).trans o,p,s,t.mono l,B.mono l⟩
 ·have j:(if n=A.nm then some w.heap.size else E.ml n)=some b:=j;have f:(if m=A.nm then some w.heap.size else E.ml m)=some b:=f;split at j
  ·next e1=>
   cases j;split at f
   ·next e2=>rw[e1,e2]
   have:=h.mlt m _ f;omega
  split at f
  ·cases f;have:=h.mlt n _ j;omega
  exact h.minj n m b j f
 ·have y:A.nm+1<=n:=y;show(if n=A.nm then _ else _)=_
  rw[if_neg O];exact h.mnew n O
 ·have a:(if n=A.nm then some w.heap.size else E.ml n)=some b:=a;rw[x];split at a
  ·cases a;omega
  have:=h.mlt n b a;omega
 have a:(if n=A.nm then some w.heap.size else E.ml n)=some b:=a;split at a
 ·cases a;exact .inr (Qi _)
 exact .inl a
def RelA.mapPut(h:RelA P E A base w){n b:Nat}{cs x:List (Value×Value)}{es d:Array MapEntry}{R cl':Nat}(Q:A.mget n=some cs)(C:E.ml n=some b)(O:w.heap[b]? =some (.map es R))(U:VL P E (d.toList.map (·.key)) (x.map (·.1)))(N:VL P E (d.toList.map (·.val)) (x.map (·.2))):
  RelA P E (A.putM n x) base {w with heap:=w.heap.setIfInBounds b (.map d cl')}/\Fr E E w {w with heap:=w.heap.setIfInBounds b (.map d cl')}:=by
 have K:=h.mlt n b C;have f:∀a,a≠b->(w.heap.setIfInBounds b (.map d cl'))[a]? =w.heap[a]? :=λa M=>by rw[Array.getElem?_setIfInBounds,if_neg (λe=>M e.symm)]
 have o:(w.heap.setIfInBounds b (.map d cl'))[b]? =some (.map d cl'):=by rw[Array.getElem?_setIfInBounds,if_pos Z,if_pos K]
 have B:∀a j,({w with heap:=w.heap.setIfInBounds b (.map d cl')}:World).cell? ⟨a,j,none⟩=w.cell? ⟨a,j,none⟩:=λa j=>by
  by_cases e:a=b
  ·subst e;simp[World.cell?,o,O]
  exact World.cell?_of_block (f a e)
 refine⟨⟨λm r V=>?_,λa s l=>?_,h.sep,h.fam,h.top,h.mem,h.new,h.nxb,λm c D=>?_,h.minj,h.mnew,λm a l=>by simpa using h.mlt m a l,by simpa using h.base,λa t l=>by
  obtain⟨H,I,k⟩:=h.typ a t l;exact⟨H,I,(f a λe=>by subst e;rw[O]at k;cases k).trans k⟩,h.rty⟩,⟨.refl _,Z,Z,Z,F,λa _ _ L=>f a λe=>L n (by rw[e];exact C),λ_ _=>rfl,λ_ _ h=>.inl h⟩⟩
 ·obtain⟨a,q,k,y,z,J⟩:=h.row m r V;exact⟨a,q,k,by simpa using y,z,λi v N=>(J i v N).imp λu g=>⟨(B a _).trans g.1,g.2⟩⟩
 ·obtain⟨k,c,e,fz,y,z⟩:=h.blk a s l;exact⟨k,c,e,fz,(f a λe=>by subst e;rw[O]at y;cases y).trans y,z⟩
 unfold AH.putM at D;rw[ze (KK Q)]at D;split at D
 ·next e=>
  cases D;subst e;obtain⟨G,_,_,k,_,z,_⟩:=h.map m cs Q;rw[C]at k;cases k;exact⟨b,d,cl',C,o,z,U,N⟩
 next e=>
 obtain⟨G,S,H,k,y,z,J⟩:=h.map m c D;exact⟨G,S,H,k,(f G λT=>by subst T;exact e (h.minj _ _ _ k C)).trans y,z,J⟩
noncomputable def NP (A:AH) (r:Option Operand):Rs:=match r with
 |some _=>none
 |none=>cond (Nat.blt A.nm 16384) (dH A.nm λn=>some (.map (some n),⟨A.t,A.nx,A.fm,n+1,A.mp.set fc n (some [])⟩)) none
def KL{t:TypeId}{r:Option Operand}(f:o.op=.makeMap t r):Good P base sl A o (NP A r):=by
 intro v h a E w T e i;unfold NP at a;split at a
 ·cases a
 obtain⟨g,a⟩:=aW a;rw[b8]at a;cases a;obtain⟨E',b,c,d⟩:=e.mapNew (cU g);refine .of_ok (v:=.map (some w.heap.size)) (W':=w.alloc (.map #[] 0)) ?_ ⟨E',b,.mp _ _ c .nil,d⟩;simp[execOp,f,Instr.makeMap,newObj];rfl
noncomputable def EI (a b:Value):Option Bool:=
 match a,b with
 | .string a,.string b=>some (HK a.data.toList b.data.toList)
 | .int k (.ofNat a),.int k' (.ofNat b)=>cond (NO k k') (some (Nat.beq a b)) none
 |_,_=>none
noncomputable def KM (key:Value) (l:List (Value×Value)):Option (Option (Nat×Value)):=List.rec (some none) (λp _ ih=>cP (EI key p.1) λb=>cond b (some (some (0,p.2))) (cP ih λr=>Option.rec (some none) (λq=>some (some (q.1+1,q.2))) r)) l
noncomputable def tr (d:TypeDesc) (key:Value):Bool:=match d,key with
 | .string,.string _=>true
 | .int _,.int _ (.ofNat _)=>true
 |_,_=>false
def KN{d:TypeDesc}{key a:Value}{b:Bool}(h:tr d key=true)(c:EI key a=some b):Instr.sameNow d key a=some b:=by
 unfold EI at c;split at c
 ·next x y=>
  cases c;unfold tr at h;split at h
  ·rw[lQ];simp only[Instr.sameNow];rw[beq_toListBytes,ByteArray.toList_eq,ByteArray.toList_eq]
  ·next he=>cases he
  cases h
 ·next k x k' y=>
  obtain⟨e,f⟩:=aW c;cases f;have:=pI e;subst this;unfold tr at h;split at h
  ·next he=>cases he
  ·simp only[Instr.sameNow,if_true];congr 1;exact wS x y
  cases h
 cases c
def Ps{key a:Value}(h:EI key a=some true):key=a:=by
 unfold EI at h;split at h
 ·next x y=>
  simp only[Qy]at h;rw[lQ]at h;exact congrArg Value.string (tn (eq_of_beq h))
 ·next k x k' y=>
  obtain⟨c,b⟩:=aW h;simp only[Qy]at b;rw[pI c,Ql b]
 cases h
def tu{d:TypeDesc}{key:Value}(hd:tr d key=true):∀{l:List (Value×Value)} {es:List MapEntry} {i:Nat} {r:Option (Nat×Value)},VL P E (es.map (·.key)) (l.map (·.1))->VL P E (es.map (·.val)) (l.map (·.2))->KM key l=some r->
  match r with
  |none=>Instr.findNow d key es i=some none
  |some (j,v)=>∃e,es[j]? =some e/\Instr.findNow d key es i=some (some (i+j,e.val))/\VL P E [e.val] [v]/\e.key=key/\l[j]? =some (key,v)
 |[],[],i,r,_,_,h=>by
  cases h;rfl
 |[],_::_,_,_,h,_,_=>by have:=h.length;simp at this
 |_::_,[],_,_,h,_,_=>by have:=h.length;simp at this
 |p::l,e::es,i,r,hk,hv,h=>by
  obtain⟨b,g,h⟩:=aS (o:=EI key p.1) h;have c:=hk.head;have u:=hv.head;have a:e.key=p.1:=by
   have c:VL P E [e.key] [p.1]:=c;have t:(∃s,p.1=.string s)\/∃k n,p.1=.int k n:=by
    cases F:p.1 with
    |string s=>exact .inl ⟨s,Z⟩
    |int k n=>exact .inr ⟨k,n,Z⟩
    |_=>
     rw[F]at g;cases key with
     |int k n=>cases n<;>cases g
     |_=>cases g
   rcases t with⟨s,f⟩|⟨k,n,f⟩
   ·rw[f]at c⊢;exact c.string
   rw[f]at c⊢;exact c.int
  have f:=KN hd g;cases b with
  |true=>
   cases h;have m:=Ps g;refine⟨e,Z,?_,u,by rw[a,<-m],by rw[m];rfl⟩;simp only[Instr.findNow,a,f,RQ]
  |false=>
   obtain⟨G,D,h⟩:=aS (o:=KM key l) h;have w:=tu hd (i:=i+1) hk.tail hv.tail D;cases G with
   |none=>
    cases h;show Instr.findNow d key (e::es) i=some none
    simp only[Instr.findNow,a,f];exact w
   |some q=>
    obtain⟨j,v⟩:=q;cases h;obtain⟨x,y,z,A,B,C⟩:=w;refine⟨x,by simpa using y,?_,A,B,by simpa using C⟩;simp only[Instr.findNow,a,f];rw[z,show i+(j+1)=i+1+j by omega]
def uW(d:Bool){t:TypeId}{c:TypeDesc}{key:Value}(b:P.underlying t=some c)(a:tr c key=true)(w:World):(Instr.checkKey d 10000 t key).run P w=.ok () w:=by
 have:∀n:Nat,(Instr.checkKey d (n+1) t key).run P w=.ok () w:=λn=>by
  unfold tr at a;split at a
  ·simp[Instr.checkKey,run_underlying b]
  ·simp[Instr.checkKey,run_underlying b]
  cases a
 exact this 9999
def H9{b:TypeDesc}{u key:Value}(h:VL P E [u] [key])(a:tr b key=true):u=key:=by
 unfold tr at a;split at a
 ·exact h.string
 ·exact h.int
 cases a
def tv{b:Nat}{es:Array MapEntry}{a:Nat}(h:w.heap[b]? =some (.map es a)):(getObj b).run P w=.ok (.map es a) w:=by
 simp only[getObj,Sem.run,h]
noncomputable def Ia (P:Program) (sl:Slo) (A:AH) (t:TypeId) (x ix:Operand) (ok:Bool):Rs:=
 match P.underlying t with
 |some (.map kt et)=>cP (P.underlying kt) λtd=>cond (tr td (de P sl ix)) (match de P sl x with
  | .map m=>cP (Option.rec (some []) (λn=>A.mget n) m) λl=>cP (KM (de P sl ix) l) λr=>match r with
   |some q=>cond ok (some (.tuple #[q.2,.bool true],A)) (some (q.2,A))
   |none=>cP (P.info? et) λi=>cP i.zero λz=>cond (s0 z) (cond ok (some (.tuple #[z,.bool false],A)) (some (z,A))) none
  |_=>none) none
 |_=>none
def KO{t:TypeId}{x B:Operand}{ok:Bool}(K:o.op=.lookup t x B ok):Good P base sl A o (Ia P sl A t x B ok):=by
 intro v A' a E w T D U;unfold Ia at a;split at a
 ·next kt et hu=>
  obtain⟨W,I,a⟩:=aS a;obtain⟨M,a⟩:=aW a;have p:=H9 (U.at B) M;split at a
  ·next m hx=>
   obtain⟨l,hl,a⟩:=aS a;obtain⟨r,hr,a⟩:=aS a;have f:=U.at x;rw[hx]at f;have k:=λd=>uW d I M w
   have F:∃(es:Array MapEntry),VL P E (es.toList.map (·.key)) (l.map (·.1))/\VL P E (es.toList.map (·.val)) (l.map (·.2))/\∀g:Option (Nat×Value),(Instr.findKey kt (de P sl B) es.toList).run P w=.ok g w->(Instr.lookup t (eL T x) (eL T B) ok).run P w=match g with
     |some (_,y)=>.ok (if ok then .tuple #[y,.bool true]else y) w
     |none=>((zeroValue et).run P w).andThen λz w=>.ok (if ok then .tuple #[z,.bool false]else z) w:=by
    cases m with
    |none=>
     cases hl;have:eL T x=.map none:=by
      generalize eL T x=u at f;cases f;rfl
     refine⟨#[],.nil,.nil,λg c=>?_⟩;cases g with
     |none=>simp[Instr.lookup,run_underlying hu,this,p,k,c]
     |some q=>simp[Instr.lookup,run_underlying hu,this,p,k,c]
    |some n=>
     have hl:A.mget n=some l:=hl;obtain⟨b,es,cl,R,L,_,X,Y⟩:=D.map n l hl;have:eL T x=.map (some b):=by
      generalize eL T x=u at f;cases f with
      |sc v h _=>cases h
      |mp n b' h _=>rw[R]at h;cases h;rfl
     have H:=tv (P:=P) L;refine⟨es,X,Y,λg c=>?_⟩;cases g with
     |none=>simp[Instr.lookup,run_underlying hu,this,H,p,k,c]
     |some q=>simp[Instr.lookup,run_underlying hu,this,H,p,k,c]
   obtain⟨es,N,O,s⟩:=F;have J:=tu (i:=0) M N O hr;have G:∀g,Instr.findNow W (de P sl B) es.toList 0=some g->(Instr.findKey kt (de P sl B) es.toList).run P w=.ok g w:=λg h1=>by
    unfold Instr.findKey;rw[Sem.run_bind,run_underlying I,Result.andThen_ok,h1];rfl
   cases r with
   |some q=>
    obtain⟨j,y⟩:=q;obtain⟨e,R,L,S,_⟩:=J;have C:=s _ (G _ L);simp only at C;cases ok with
    |true=>
     cases a;refine .of_ok (v:=.tuple #[e.val,.bool true]) (W':=w) (by simp[execOp,K,C]) (.here D ?_);exact .tup [e.val,.bool true] [_,_] (S.cons (.sc _ Z .nil)) .nil
    |false=>
     cases a;exact .of_ok (v:=e.val) (W':=w) (by simp[execOp,K,C]) (.here D S)
   |none=>
    obtain⟨i,hi,a⟩:=aS a;obtain⟨z,hz,a⟩:=aS a;obtain⟨V,a⟩:=aW a;have J:Instr.findNow W (de P sl B) es.toList 0=some none:=J;have C:=s _ (G _ J);have Q:(zeroValue et).run P w=.ok z w:=by simp[zeroValue,typeInfo,hi,hz]
    simp only[Q,Result.andThen_ok]at C;cases ok with
    |true=>
     cases a;refine .of_ok (v:=.tuple #[z,.bool false]) (W':=w) (by simp[execOp,K,C]) (.here D ?_);exact .tup [z,.bool false] [z,.bool false] (.sc _ V (.sc _ Z .nil)) .nil
    |false=>
     cases a;exact .of_ok (W':=w) (by simp[execOp,K,C]) (.here D (.sc _ V .nil))
  cases a
 cases a
noncomputable def EJ (P:Program) (sl:Slo) (A:AH) (t:TypeId) (m k x:Operand):Rs:=
 match P.underlying t with
 |some (.map kt _)=>cP (P.underlying kt) λtd=>cond (tr td (de P sl k)) (match de P sl m with
  | .map (some n)=>cP (A.mget n) λl=>cP (KM (de P sl k) l) λr=>match r with
   |some q=>fF (l.set q.1 (de P sl k,de P sl x)) λl=>some (undef,A.putM n l)
   |none=>fF (o0 l [(de P sl k,de P sl x)]) λl=>some (undef,A.putM n l)
  |_=>none) none
 |_=>none
def CZ{t:TypeId}{m k x:Operand}(V:o.op=.mapUpdate t m k x\/o.op=.insert t m k x):Good P base sl A o (EJ P sl A t m k x):=by
 intro v A' a E w T hR J;unfold EJ at a;simp only[dd,jH]at a;split at a
 ·next kt et f=>
  obtain⟨td,O,a⟩:=aS a;obtain⟨H,a⟩:=aW a;have z:=H9 (J.at k) H;have Q:=J.at x;split at a
  ·next n hm=>
   obtain⟨l,hl,a⟩:=aS a;obtain⟨r,hr,a⟩:=aS a;have G:=J.at m;rw[hm]at G;obtain⟨b,es,X,g1,g2,_,R,S⟩:=hR.map n l hl;have N:eL T m=.map (some b):=by
    generalize eL T m=u at G;cases G with
    |sc v h _=>cases h
    |mp n b' h _=>rw[g1]at h;cases h;rfl
   have M:=tv (P:=P) g2;have K:=uW (P:=P) false O H w;have U:=tu (i:=0) H R S hr;have L:∀Y,Instr.findNow td (de P sl k) es.toList 0=some Y->(Instr.findKey kt (de P sl k) es.toList).run P w=.ok Y w:=λY p=>by
    unfold Instr.findKey;rw[Sem.run_bind,run_underlying O,Result.andThen_ok,p];rfl
   have C:∀ob:Obj,(setObj b ob).run P w=.ok () {w with heap:=w.heap.setIfInBounds b ob}:=λob=>by
    simp only[setObj,Sem.run,g2]
   have fin:∀(g:Array MapEntry) (cl':Nat) (W:List (Value×Value)),VL P E (g.toList.map (·.key)) (W.map (·.1))->VL P E (g.toList.map (·.val)) (W.map (·.2))->(Instr.mapUpdate t (eL T m) (eL T k) (eL T x)).run P w=.ok () {w with heap:=w.heap.setIfInBounds b (.map g cl')}->some (undef,A.putM n W)=some (v,A')->OpY P o T w (Aft P E A' base w v):=λg cl' W p I h3 h4=>by
    cases h4;obtain⟨h5,h6⟩:=hR.mapPut (cl':=cl') hl g1 g2 p I;refine .of_skip (W':={w with heap:=w.heap.setIfInBounds b (.map g cl')}) ?_ ⟨E,h5,.tup [] [] .nil .nil,h6⟩;rcases V with V|V<;>simp[execOp,V,h3]
   cases r with
   |some q=>
    obtain⟨j,y⟩:=q;obtain⟨e,f1,f2,f3,f4,f5⟩:=U;rw[QT]at f2;have D:es[j]? =some e:=by simpa using f1
    have F:∀d:Nat,Instr.sameBits d (de P sl k) (de P sl k)=true:=λd=>by
     unfold tr at H;split at H
     ·next hh=>rw[hh];cases d<;>simp[Instr.sameBits,beq_toListBytes]
     ·next hh=>rw[hh];cases d<;>simp[Instr.sameBits]
     cases H
    refine fin (es.modify j λe=>{e with key:=de P sl k,val:=eL T x}) X (l.set j (de P sl k,de P sl x)) ?_ ?_ ?_ a
    ·refine fy (by have:=R.length;simpa using this) λi u t f s=>?_
     rw[QL,QO,RG]at f;rw[QL,Sv]at s;by_cases c:j=i
     ·subst c;rw[if_pos Z,D]at f;rw[if_pos Z,if_pos (Qm.1 f5).1]at s;cases f;cases s;have:=J.at k;rw[z]at this;exact this
     rw[if_neg c]at f;rw[if_neg c]at s;obtain⟨u',p,I⟩:=R.get i t (by rw[QL];exact s);rw[QL,QO]at p;rw[f]at p;cases p;exact I
    ·refine fy (by have:=S.length;simpa using this) λi u t f s=>?_
     rw[QL,QO,RG]at f;rw[QL,Sv]at s;by_cases c:j=i
     ·subst c;rw[if_pos Z,D]at f;rw[if_pos Z,if_pos (Qm.1 f5).1]at s;cases f;cases s;exact Q
     rw[if_neg c]at f;rw[if_neg c]at s;obtain⟨u',p,I⟩:=S.get i t (by rw[QL];exact s);rw[QL,QO]at p;rw[f]at p;cases p;exact I
    have h7:(Instr.keyThatStays e.key (de P sl k)).run P w=.ok (de P sl k) w:=by
     unfold Instr.keyThatStays;rw[f4,F];rfl
    have h8:=L _ f2;simp[Instr.mapUpdate,run_underlying f,N,M,z,K,h8,D,h7,C]
   |none=>
    have U:Instr.findNow td (de P sl k) es.toList 0=some none:=U;have h8:=L _ U;refine fin (es.push {key:=de P sl k,val:=eL T x,born:=X}) (X+1) (l++[(de P sl k,de P sl x)]) ?_ ?_ ?_ a
    ·rw[Array.toList_push,Qz,Qz];refine R.append ?_;have:=J.at k;rw[z]at this;exact this
    ·rw[Array.toList_push,Qz,Qz];exact S.append Q
    simp[Instr.mapUpdate,run_underlying f,N,M,z,K,h8,C]
  cases a
 cases a
end
