import Derived.Test.YtmhcanmapkenbaaGreatDoorA02
import Derived.Deep.MidRow
import Derived.Laws.IdiomStrings
import Derived.Lib.BufferRead
set_option linter.defProp false
open Go.Proofs.Tryz
namespace Go.Proofs.YtmhcanmapkenbaaGreatDoor
open Go.RowKit
open Lib renaming hid→J
def nT(P:Program)(t:TypeId):Option Nat:=
 match P.underlying t with
 |some d=>if d.isRow then(P.info? t).map (·.size)else none
 |none=>none
def eN(P:Program)(t:TypeId):Bool:=
 match P.underlying t with
 |some d=> !d.isRow
 |none=>false
def gm(P:Program)(s:TypeId)(j:Nat):Option Nat:=
 match P.underlying s with
 |some (.struct fs)=>(fs[j]?).bind λf=>(P.info? f.type).bind λi=>if i.size=0 then none else some f.offset
 |_=>none
def ic(P:Program)(t:TypeId):Option (TypeId×Nat):=
 match P.underlying t with
 |some (.slice e)=>(P.info? e).map λi=>(e,i.size)
 |_=>none
def vf{P:Program}{t:TypeId}{n:Nat}(h:nT P t=some n):∃d,P.underlying t=some d/\d.isRow=true/\(P.info? t).map (·.size)=some n:=by
 unfold nT at h;cases hd:P.underlying t with
 |none=>simp[hd]at h
 |some d=>
  simp only[hd]at h;split at h
  ·exact⟨d,Z,by assumption,h⟩
  cases h
def vg{P:Program}{t:TypeId}(h:eN P t=true):∃d,P.underlying t=some d/\d.isRow=false:=by
 unfold eN at h;cases hd:P.underlying t with
 |none=>simp[hd]at h
 |some d=>exact⟨d,Z,by simpa[hd]using h⟩
def I3{P:Program}{s:TypeId}{j o:Nat}(h:gm P s j=some o):∃a f i,P.underlying s=some (.struct a)/\a[j]? =some f/\P.info? f.type=some i/\i.size≠0/\f.offset=o:=by
 unfold gm at h;split at h
 ·next a hu=>
  cases b:a[j]? with
  |none=>simp[b]at h
  |some f=>
   simp only[b,QY]at h;cases c:P.info? f.type with
   |none=>simp[c]at h
   |some i=>
    simp only[c,QY]at h;split at h
    ·cases h
    exact⟨a,f,i,hu,b,c,by assumption,by simpa using h⟩
 cases h
def jt{P:Program}{t e:TypeId}{n:Nat}(h:ic P t=some (e,n)):P.underlying t=some (.slice e)/\∃i,P.info? e=some i/\i.size=n:=by
 unfold ic at h;split at h
 ·next e' hu=>
  cases a:P.info? e' with
  |none=>simp[a]at h
  |some i=>
   simp only[a,Rf,Qy,Sg]at h;obtain⟨rfl,rfl⟩:=h;exact⟨hu,i,a,Z⟩
 cases h
section
variable {P:Program} {w:World}
def kq{b o:Nat}{t:TypeId}{u:Value}(h:eN P t=true)(c:w.cell? ⟨b,o,none⟩=some u):(Instr.loadAt t (.pointer (some ⟨b,o,none⟩))).run P w=.ok u w:=by
 obtain⟨d,e,hd⟩:=vg h;have a:(isAgg t).run P w=.ok false w:=by
  unfold isAgg;rw[Sem.run_bind,run_underlying e w];cases d<;>simp_all
 simp[Instr.loadAt,Instr.sureAddr,loadVar,a,c]
def kr{b o a:Nat}{s:TypeId}{j:Nat}(h:gm P s j=some a):(Instr.fieldAt s (.pointer (some ⟨b,o,none⟩)) j).run P w=.ok (.pointer (some ⟨b,o+a,none⟩)) w:=by
 obtain⟨k,f,i,g,d,e,c,rfl⟩:=I3 h;simp[Instr.fieldAt,Instr.sureAddr,fieldPlace,run_underlying g,d,sizeOf,typeInfo,e,c,Addr.add_mid]
def nU{b o n c m:Nat}{t e:TypeId}{k:IntKind}{i:Int}(h:ic P t=some (e,m))(a:0<=i)(d:i<n):(Instr.indexAt t (.slice (some ⟨b,o,none⟩) n c) (.int k i)).run P w=.ok (.pointer (some ⟨b,o+i.toNat*m,none⟩)) w:=by
 obtain⟨g,j,f,rfl⟩:=jt h;simp[Instr.indexAt,asIntOf,run_underlying g,sizeOf,typeInfo,f,a,d,Addr.add_mid]
end
section
variable {S:St} {o:Oper}
def xo{op:Op}{s:Nat}(h:Operand.tmp s∈op.operands.toList):(ew op).contains s=true:=by
 simp only[QX,ew,Sa];exact⟨_,h,Z⟩
def EV{E:En}{T:Nat->Value}{op:Op}(a:∀s,(ew op).contains s=true->FT E [T s] [S.get s]){x:Operand}(b:x∈op.operands.toList):FT E [eX T x] [S.ev x]:=by
 cases x with
 |tmp s=>exact a s (xo b)
 |const v=>exact .pure (.sc v .nil) .nil
 |global g=>exact .pure (.sc _ .nil) .nil
 |func f=>exact .pure (.sc _ .nil) .nil
def bY{E:En}{T:Nat->Value}{op:Op}(a:∀s,(ew op).contains s=true->FT E [T s] [S.get s]){x:Operand}{t:Tree}(b:S.ev x=t)(c:x∈op.operands.toList):FT E [eX T x] [t]:=b▸EV a c
def ai{x:Operand}{t:Tree}(a:o.op=.move x)(c:S.ev x=t):OpOK o S t:=by
 intro w0 G0 bx rv w T d b;have h:=bY b c (by rw[a];simp[Op.operands]);exact OpRuns.of_ok (v:=eX T x) (W':=w) (by simp[execOp,a]) ⟨h,Below.refl _ _⟩
def E:type_of% @ai:=@ai
def b7{x:Operand}{t:Tree}(a:o.op=.assign x)(c:S.ev x=t):OpOK o S t:=by
 intro w0 G0 bx rv w T d b;have h:=bY b c (by rw[a];simp[Op.operands]);exact OpRuns.of_ok (v:=eX T x) (W':=w) (by simp[execOp,a]) ⟨h,Below.refl _ _⟩
def cA{v:Value}{t:Tree}(a:o.op=.move (.const v)\/o.op=.assign (.const v))(h:∀W G,PT W G [v] [t]):OpOK o S t:=by
 intro w0 G0 bx rv w T c b;refine OpRuns.of_ok (v:=v) (W':=w) ?_ ⟨.pure (h _ _) .nil,Below.refl _ _⟩;rcases a with a|a<;>simp[execOp,a,eX]
def dn(W:World)(G:Nat->Prop):PT W G [.slice none 0 0] [.sl []]:=.sl0 none 0 (λ_=>rfl) O .nil
def lW{c a b:Operand}{x:Bool}{t:Tree}(d:o.op=.pick c a b)(h:S.ev c=.sc (.bool x))(i:S.ev (if x then a else b)=t):OpOK o S t:=by
 intro w0 G0 bx rv w T j e;have f:=(bY e h (by rw[d];simp[Op.operands])).isSc;have g:FT (en w G0 bx rv S.rs) [eX T (if x then a else b)] [t]:=bY e i (by rw[d];cases x<;>simp[Op.operands]);refine OpRuns.of_ok (v:=eX T (if x then a else b)) (W':=w) ?_ ⟨g,Below.refl _ _⟩;cases x<;>simp[execOp,d,f,asBool]
def qZ{w0 w:World}{G0:Bse}{bs:List (TypeId×List Tree)}{rs:List (Option Row)}{bx:List Nat}{rv:List Value}{k:Nat}{R:Row}{v:Value}(c:Mem w0 G0 bs rs bx rv w)(b:rs[k]? =some (some R))(h:FT (en w G0 bx rv rs) [v] [.own k]):
  rv[k]? =some v/\∃xs,w.ownsRow 0 R.e R.sz v R.es.length xs/\PT w (GG G0 bx rv rs) xs (flat R.es)/\(Sized R.sz R.es/\(R.tt=true->qY v))/\∀g,v.ownBlock=some g->NoDigB w g:=by
 have a:dX rv rs k=some v:=h.isOwn.1;simp only[dX,b,QY,id]at a;exact⟨a,c.row k v R a b⟩
def mI{w:World}{base:Nat}{e:TypeId}{sz n:Nat}{v:Value}{xs:List Value}(h:w.ownsRow base e sz v n xs):∃A c,v=.slice A n c:=by
 rcases h.2 with⟨rfl,a⟩|⟨g,cap,cur,rfl,_⟩
 ·exact⟨none,0,by rw[a]⟩
 exact⟨_,_,Z⟩
def iU{x:Operand}{t e:TypeId}{n:Nat}{es:List Tree}(a:o.op=.call {callee:=.builtin .len,args:=#[x],argTypes:=#[t]})(f:ic prog t=some (e,n))(h:S.ev x=.sl es):OpOK o S (.sc (.int .i64 (es.length:Nat))):=by
 intro w0 G0 bx rv w T i d;obtain⟨A,c,b,_⟩:=(bY d h (by rw[a];simp[Op.operands,Call.operands])).isSl.slice;obtain⟨g,_⟩:=jt f;refine OpRuns.of_ok (v:=.int .i64 (es.length:Nat)) (W':=w) ?_ ⟨.pure (.sc _ .nil) .nil,Below.refl _ _⟩;simp[execOp,a,resolve,invoke,builtin,Builtin.len_,b,run_underlying g,goInt]
def zB{x:Operand}{t e:TypeId}{n k:Nat}{R:Row}(a:o.op=.call {callee:=.builtin .len,args:=#[x],argTypes:=#[t]})(i:ic prog t=some (e,n))(l:S.ev x=.own k)(f:S.rs[k]? =some (some R)):OpOK o S (.sc (.int .i64 (R.es.length:Nat))):=by
 intro w0 G0 bx rv w T h g;obtain⟨_,xs,d,_⟩:=qZ h f (bY g l (by rw[a];simp[Op.operands,Call.operands]));obtain⟨A,c,b⟩:=mI d;obtain⟨j,_⟩:=jt i;refine OpRuns.of_ok (v:=.int .i64 (R.es.length:Nat)) (W':=w) ?_ ⟨.pure (.sc _ .nil) .nil,Below.refl _ _⟩;simp[execOp,a,resolve,invoke,builtin,Builtin.len_,b,run_underlying j,goInt]
def mX{w0 w:World}{G0:Bse}{bs:List (TypeId×List Tree)}{rs:List (Option Row)}{bx:List Nat}{rv:List Value}{b off:Nat}{ty:TypeId}{cs:List Tree}{v:Value}(k:Mem w0 G0 bs rs bx rv w)(j:bs[b]? =some (ty,cs))(h:FT (en w G0 bx rv rs) [v] [.box b off]):
  ∃g us,bx[b]? =some g/\v=.pointer (some ⟨g,off,none⟩)/\IsBlk w g ty us.toArray/\FT (en w G0 bx rv rs) us cs/\us.all cj=true:=by
 obtain⟨g,a,rfl⟩:=h.isBox;obtain⟨l,d,us,c,e,f,i⟩:=k.box b g a;rw[j]at c;cases c;exact⟨g,us,a,Z,e,f,i⟩
def bw{r:List Tree}{x:Operand}{t ty:TypeId}{b off n:Nat}{cs:List Tree}(h:o.op=.load t x)(y:S.ev x=.box b off)(m:S.bs[b]? =some (ty,cs))(s:nT prog t=some n)(f:Nat.ble (off+n) cs.length=true)(c:(cs.drop off).take n=r):OpOK o S (.agg r):=by
 subst c;have f:off+n<=cs.length:=by simpa using f
 intro w0 G0 bx rv w T q l;obtain⟨g,us,_,i,k,e,_⟩:=mX q m (bY l y (by rw[h];simp[Op.operands]));obtain⟨d,u,hd,p⟩:=vf s;have hl:((us.drop off).take n).length=n:=by have:=e.length;rw[QN,QZ];omega
 have c:=run_loadAt_mid (P:=prog) w g off t ((us.drop off).take n) d (λj v a=>by
  rw[k.cell,Ry];rw[QQ]at a;split at a
  ·rw[Q9]at a;exact a
  cases a) u hd (by rw[hl];exact p)
 refine OpRuns.of_ok (v:=.agg ((us.drop off).take n).toArray) (W':=w) ?_ ⟨.agg _ _ ((e.drop off).take n) .nil,Below.refl _ _⟩;simp[execOp,h,i,c]
def aA{x:Operand}{t ty:TypeId}{b off:Nat}{cs:List Tree}{c:Tree}(a:o.op=.load t x)(q:S.ev x=.box b off)(i:S.bs[b]? =some (ty,cs))(n:eN prog t=true)(l:cs[off]? =some c):OpOK o S c:=by
 intro w0 G0 bx rv w T k h;obtain⟨g,us,_,d,e,f,_⟩:=mX k i (bY h q (by rw[a];simp[Op.operands]));obtain⟨u,p,j⟩:=f.get off c l;have m:=kq (P:=prog) (w:=w) (b:=g) (o:=off) (u:=u) n (by rw[e.cell,Ry];exact p);refine OpRuns.of_ok (v:=u) (W':=w) ?_ ⟨j,Below.refl _ _⟩;simp[execOp,a,d,m]
def bm{r:List Tree}{x:Operand}{t:TypeId}{n:Nat}{cs:List Tree}(g:o.op=.load t x)(c:S.ev x=.ref cs)(m:nT prog t=some n)(f:Nat.ble n cs.length=true)(e:cs.take n=r):OpOK o S (.agg r):=by
 subst e;have f:n<=cs.length:=by simpa using f
 intro w0 G0 bx rv w T q i;obtain⟨b,off,xs,h,_,_,k,c⟩:=(bY i c (by rw[g];simp[Op.operands])).isRef;obtain⟨d,p,hd,l⟩:=vf m;have hl:(xs.take n).length=n:=by have:=c.length;rw[QN];omega
 have e:=run_loadAt_mid (P:=prog) w b off t (xs.take n) d (λj v a=>by
  rw[QQ]at a;split at a
  ·exact k j v a
  cases a) p hd (by rw[hl];exact l)
 refine OpRuns.of_ok (v:=.agg (xs.take n).toArray) (W':=w) ?_ ⟨.pure (.agg _ _ (c.take n) .nil) .nil,Below.refl _ _⟩;simp[execOp,g,h,e]
def aX{x:Operand}{t:TypeId}{cs:List Tree}{c:Tree}(d:o.op=.load t x)(a:S.ev x=.ref cs)(k:eN prog t=true)(i:cs[0]? =some c):OpOK o S c:=by
 intro w0 G0 bx rv w T m f;obtain⟨b,off,xs,e,_,_,g,a⟩:=(bY f a (by rw[d];simp[Op.operands])).isRef;obtain⟨u,l,h⟩:=a.get 0 c i;have j:=kq (P:=prog) (w:=w) (b:=b) (o:=off) (u:=u) k (g 0 u l);refine OpRuns.of_ok (v:=u) (W':=w) ?_ ⟨.pure h .nil,Below.refl _ _⟩;simp[execOp,d,e,j]
def ao{r:Nat}{x:Operand}{s:TypeId}{j b off a:Nat}(c:o.op=.fieldAddr s x j)(k:S.ev x=.box b off)(h:gm prog s j=some a)(i:off+a=r):OpOK o S (.box b r):=by
 subst i;intro w0 G0 bx rv w T l f;obtain⟨g,d,e⟩:=(bY f k (by rw[c];simp[Op.operands])).isBox;refine OpRuns.of_ok (v:=.pointer (some ⟨g,off+a,none⟩)) (W':=w) ?_ ⟨.box b _ g d .nil,Below.refl _ _⟩;simp[execOp,c,e,kr h]
def be{r:List Tree}{x:Operand}{s:TypeId}{j a:Nat}{cs:List Tree}(d:o.op=.fieldAddr s x j)(c:S.ev x=.ref cs)(l:gm prog s j=some a)(m:cs.drop a=r):OpOK o S (.ref r):=by
 subst m;intro w0 G0 bx rv w T n h;obtain⟨b,off,xs,f,i,g,k,c⟩:=(bY h c (by rw[d];simp[Op.operands])).isRef;refine OpRuns.of_ok (v:=.pointer (some ⟨b,off+a,none⟩)) (W':=w) ?_ ⟨.pure (.ref b (off+a) (xs.drop a) _ i g (λj u e=>?_) (c.drop a) .nil) .nil,Below.refl _ _⟩
 ·simp[execOp,d,f,kr l]
 rw[Q9]at e;rw[RP];exact k _ u e
def vh{r:Nat}{x:Operand}{s:TypeId}{j k off a:Nat}(b:o.op=.fieldAddr s x j)(l:S.ev x=.elp k off)(h:gm prog s j=some a)(i:off+a=r):OpOK o S (.elp k r):=by
 subst i;intro w0 G0 bx rv w T m f;obtain⟨g,n,c,d,e⟩:=(bY f l (by rw[b];simp[Op.operands])).isElp;refine OpRuns.of_ok (v:=.pointer (some ⟨g,off+a,none⟩)) (W':=w) ?_ ⟨.elp k _ g n c d .nil,Below.refl _ _⟩;simp[execOp,b,e,kr h]
def aY{r:List Tree}(c:Tree){x C:Operand}{t e:TypeId}{n:Nat}{es:List Tree}{k:IntKind}{i:Int}{j:Nat}(p:o.op=.indexAddr t x C)(M:ic prog t=some (e,n))(s:S.ev x=.sl es)(K:S.ev C=.sc (.int k i))(L:i=j)(B:es[j]? =some c)(q:Sized n es)(f:c.cells=r):OpOK o S (.ref r):=by
 subst f;intro w0 G0 bx rv w T N z;have E:=(bY z K (by rw[p];simp[Op.operands])).isSc;obtain⟨A,cp,F,_,_,_,G⟩:=(bY z s (by rw[p];simp[Op.operands])).isSl.slice;obtain⟨a,l⟩:=Qm.1 B;obtain⟨b,off,xs,rfl,I,H,g,s⟩:=G O;subst L;have f:=nU (P:=prog) (w:=w) (b:=b) (o:=off) (n:=es.length) (c:=cp) (k:=k) (i:=(j:Int)) M O O;rw[Int.toNat_natCast]at f;have h:c.cells.length=n:=q c (Qo B);have J:=q.flat;have m:(j+1)*n<=es.length*n:=Ru _ a;rw[Rp,Nat.one_mul]at m;refine OpRuns.of_ok (v:=.pointer (some ⟨b,off+j*n,none⟩)) (W':=w) ?_ ⟨.pure (.ref b (off+j*n) ((xs.drop (j*n)).take n) _ I H (λi u d=>?_) ?_ .nil) .nil,Below.refl _ _⟩
 ·simp[execOp,p,E,F,f]
 ·rw[QQ]at d;split at d
  ·rw[Q9]at d;rw[RP];exact g _ u d
  cases d
 have y:=(s.drop (j*n)).take n;rw[<-uc q j]at y;have D:(flat (es.drop j)).take n=c.cells:=by
  rw[Q3 a,l,lT,<-h,TB]
 rwa[D]at y
def zC{x:Operand}{j:Nat}{ts:List Tree}{t:Tree}(a:o.op=.extract x j)(h:S.ev x=.tup ts)(g:ts[j]? =some t):OpOK o S t:=by
 intro w0 G0 bx rv w T i f;obtain⟨xs,b,c⟩:=(bY f h (by rw[a];simp[Op.operands])).isTup;obtain⟨u,d,e⟩:=c.get j t g;refine OpRuns.of_ok (v:=u) (W':=w) ?_ ⟨e,Below.refl _ _⟩;simp[execOp,a,b,Instr.extract,d]
end
def BB{w:World}{B:Nat}{A:Option Addr}{l:List UInt8}(c:Nat)(h:At w B A (f7 l)):(convert 49 9 (.slice A l.length c)).run prog w=.ok (.string ⟨l.toArray⟩) w:=by
 cases A with
 |none=>
  have hl:l=[]:=by
   cases l with
   |nil=>rfl
   |cons a l=>obtain⟨b,off,e,_⟩:=h (by simp[f7]);cases e
  subst hl;exact Lib.run_convert_nil_bytes w _ _ 5 c underlying49 underlying5 underlying9
 |some a=>
  refine run_convert_bytes_back w _ _ 5 a c l underlying49 underlying5 underlying9 λj f=>?_
  obtain⟨b,off,e,_,d⟩:=h (by rw[mH];omega);injection e with e
  subst e;have:=d j (.int .u8 l[j].toNat) (by simp[f7,Qj f]);rwa[show(⟨b,off,none⟩:Addr).add j=⟨b,off+j,none⟩from by unfold Addr.add;split<;>simp_all]
def EW(c:Int)(d:UInt8)(h:c=d.toNat)(w:World):(convert 49 9 (.slice (some ⟨w.heap.size,0,none⟩) 1 1)).run prog (w.alloc (.cells #[.int .u8 c] 5))=.ok (.string ⟨#[d]⟩) (w.alloc (.cells #[.int .u8 c] 5)):=by
 refine BB (B:=w.heap.size+1) (l:=[d]) 1 λ_=>⟨w.heap.size,0,Z,O,λj u a=>?_⟩
 rw[QT,(gL w 5 #[.int .u8 c]).cell j];subst h;simpa[f7]using a
section
variable {S:St} {o:Oper}
def PB(S:St):Option Operand->Nat->Prop
 |none,l=>l=0
 |some x,l=>∃k,S.ev x=.sc (.int k l)
def PC(S:St)(n:Nat):Option Operand->Nat->Prop
 |none,h=>h=n
 |some x,h=>∃k,S.ev x=.sc (.int k h)
def ln(place:Nat->Option (Nat×Nat)):List Tree->List (Nat×Tree)->Option (List Tree)
 |cells,[]=>some cells
 |cells,(i,t)::rest=>
  match place i with
  |none=>none
  |some (off,size)=>if t.cells.length≠size\/off+t.cells.length>cells.length then none else ln place (cells.take off++t.cells++cells.drop (off+t.cells.length)) rest
def ue:∀(vs:List Value) (k off:Nat) (cells:Array Value),off+k+vs.length<=cells.size->(vs.zipIdx k).foldl (λcs (c,j)=>cs.setIfInBounds (off+j) c) cells=(cells.toList.take (off+k)++vs++cells.toList.drop (off+k+vs.length)).toArray
 |[],k,off,cells,h=>F
 |v::vs,k,off,cells,h=>by
  simp only[Qn]at h;rw[List.zipIdx_cons,RY,ue vs (k+1) off _ (by simp;omega)];simp only[Rk,Qn];congr 1;rw[<-RP,S8 O,SW,Ro (by simp;omega)];have e:(List.take (off+k) cells.toList).length=off+k:=by rw[QN];simp;omega
  rw[Sd _ _ O,e];simp[RP,Sb 1]
def lX{v:Value}(h:v.oneCell'=true):v.cells=#[v]:=by cases v<;>simp_all [Value.cells,Value.oneCell']
def zD{t:Tree}(h:t.one=true):t.cells=[t]:=by cases t<;>simp_all [Tree.cells,Tree.one]
def Tree.oneA:Tree->Bool
 | .agg _=>true
 |t=>t.one
def rb{E:En}{v:Value}{t:Tree}(h:FT E [v] [t])(d:t.oneA=true):FT E v.cells.toList t.cells:=by
 by_cases b:∃cs,t=.agg cs
 ·obtain⟨cs,rfl⟩:=b;obtain⟨xs,rfl,c⟩:=h.isAgg;exact c
 have a:t.one=true:=by
  cases t<;>simp_all [Tree.oneA]
 rw[lX (h.one a),zD a];exact h
def nV{E:En}{place:Nat->Option (Nat×Nat)}:∀{ps:List (Nat×Value)} {qs:List (Nat×Tree)} {cells:Array Value} {ts rs:List Tree},ps.map (·.1)=qs.map (·.1)->FT E (ps.map (·.2)) (qs.map (·.2))->(qs.all λq=>q.2.oneA)=true->FT E cells.toList ts->ln place ts qs=some rs->∃us,Instr.fill place cells ps=some us/\FT E us.toList rs
 |[],[],cells,ts,rs,_,_,_,h,hr=>by
  simp only[ln,Qy]at hr;subst hr;exact⟨cells,Z,h⟩
 |[],_::_,_,_,_,a,_,_,_,_=>by simp at a
 |_::_,[],_,_,_,a,_,_,_,_=>by simp at a
 |(i,v)::ps,(j,t)::qs,cells,ts,rs,a,hf,hp,h,hr=>by
  simp only[QM,Tu]at a hf;obtain⟨rfl,a⟩:=a;simp only[Rc,Qh]at hp;have l:=rb hf.head hp.1;have e:=l.length;have hl:=h.length;simp only[ln]at hr;cases b:place i with
  |none=>simp[b]at hr
  |some p=>
   obtain⟨off,size⟩:=p;simp only[b]at hr;split at hr
   ·cases hr
   next hc=>
   have g:v.cells.size=t.cells.length:=by simpa using e
   have f:cells.size=ts.length:=by simpa using hl
   have m:¬(v.cells.size≠size||decide (off+v.cells.size>cells.size))=true:=by
    simp only[Q5,decide_eq_true_eq,not_or];rw[g,f];constructor<;>omega
   have d:=ue v.cells.toList 0 off cells (by simp;omega);simp only[Instr.fill,b];rw[if_neg m];have n:v.cells.zipIdx.foldl (λcs (x:Value×Nat)=>cs.setIfInBounds (off+x.2) x.1) cells=(cells.toList.take off++v.cells.toList++cells.toList.drop (off+v.cells.toList.length)).toArray:=by
    rw[<-Td,S9];exact d
   have k:(v.cells.zipIdx.foldl (λcs (x:Value×Nat)=>match x with|(c,j)=>cs.setIfInBounds (off+j) c) cells)=(cells.toList.take off++v.cells.toList++cells.toList.drop (off+v.cells.toList.length)).toArray:=n;rw[k];refine nV a hf.tail hp.2 ?_ hr;rw[e];exact((h.take off).append l).append (h.drop _)
end
def Ct(f:FuncId)(args:List Tree)(r:Tree):Prop:=(∃fn,prog.funcs[f]? =some fn/\(fn.name== "runtime.NumGoroutine")=false/\fn.body.isNone=false)/\∀(G:Nat->Prop) (w:World) (vs:List Value),Env w->(∀g,G g->g<w.heap.size/\NoDigB w g)->PT w G vs args->
 Calls prog f vs.toArray w λe w'=>∃v,e=.returned v/\PT w' G [v] [r]/\Below w.heap.size w w'
def c7:Value->Tree
 | .slice none 0 0=>.sl []
 |v=>.sc v
def nW(W:World)(G:Nat->Prop):∀a:List Value,PT W G a (a.map c7)
 |[]=>.nil
 |z::a=>by
  rw[QM];refine PT.cons ?_ (nW W G a);unfold c7;split
  ·exact dn W G
  exact .sc _ .nil
def mY(P:Program)(t:TypeId):Option (List (Nat×Nat)×List Value):=
 match P.underlying t,P.info? t with
 |some (.struct fs),some i=>i.zero.bind λz=>(fs.toList.mapM λf=>(P.info? f.type).map λi=>(f.offset,i.size)).map λpl=>(pl,z.cells.toList)
 |_,_=>none
def gn(P:Program)(e:TypeId):Option (List Value):=(P.info? e).bind λi=>i.zero.map λz=>z.cells.toList
def mZ{P:Program}{w:World}:∀{l:List Field} {a:List (Nat×Nat)},(l.mapM λf=>(P.info? f.type).map λi=>(f.offset,i.size))=some a->(l.mapM (m:=Sem) λf=>do pure (f.offset,<-sizeOf f.type)).run P w=.ok a w
 |[],a,h=>by
  simp at h;subst h;rfl
 |f::l,a,h=>by
  simp only[SM,Option.bind_eq_bind,R6,Q4,Option.pure_def,Qy]at h;obtain⟨_,⟨i,b,rfl⟩,ps,c,rfl⟩:=h;simp[SM,sizeOf,typeInfo,b];have:=mZ (P:=P) (w:=w) c;simp[sizeOf,typeInfo]at this;simp[this]
section
variable {S:St} {o:Oper}
def lp{E:En}{T:Nat->Value}{op:Op}(a:∀s,(ew op).contains s=true->FT E [T s] [S.get s]):∀(ps:List (Nat×Operand)),(∀p∈ps,p.2∈op.operands.toList)->FT E ((ps.map λp=>(p.1,eX T p.2)).map (·.2)) ((ps.map λp=>(p.1,S.ev p.2)).map (·.2))
 |[],_=>.nil
 |p::ps,h=>FT.cons (EV a (h p (Qs ..))) (lp a ps λq b=>h q (QA _ b))
def rc{t:TypeId}{parts:Array (Nat×Operand)}{s:List (Nat×Nat)}{u:List Value}{qs:List (Nat×Tree)}{rs:List Tree}(n:o.op=.build t parts)(hl:mY prog t=some (s,u))(r:parts.toList.map (λp=>(p.1,S.ev p.2))=qs)(b:(qs.all λq=>q.2.oneA)=true)(D:ln (s[·]?) (u.map c7) qs=some rs):OpOK o S (.agg rs):=by
 intro w0 G0 bx rv w T F B;have l:=lp (S:=S) B parts.toList (λp C=>by rw[n];simp only[Op.operands,RH];exact⟨p,C,Z⟩);unfold mY at hl;split at hl
 ·next fs i hu hi=>
  cases j:i.zero with
  |none=>simp[j]at hl
  |some z=>
   simp only[j,QY,Q4,Sg]at hl;obtain⟨a,g,rfl,rfl⟩:=hl;have h:=mZ (w:=w) g;rw[r]at l;obtain⟨us,y,A⟩:=nV (E:=en w G0 bx rv S.rs) (place:=(a[·]?)) (ps:=parts.toList.map λp=>(p.1,eX T p.2)) (qs:=qs) (cells:=z.cells) (ts:=z.cells.toList.map c7) (by rw[<-r];simp) l b (.of (nW _ _ _)) D;refine OpRuns.of_ok (v:=.agg us) (W':=w) ?_ ⟨?_,Below.refl _ _⟩
   ·have e:(fs.mapM (m:=Sem) λf=>do pure (f.offset,<-sizeOf f.type)).run prog w=.ok a.toArray w:=by
     rw[RD,Sem.run_map,h];rfl
    have d:Instr.fill (λx=>a.toArray[x]?) z.cells (parts.map λp=>(p.1,eX T p.2)).toList=some us:=by
     rw[<-y];simp
    have k:(zeroValue t).run prog w=.ok z w:=by simp[zeroValue,typeInfo,hi,j]
    have c:(Instr.build t (parts.map λp=>(p.1,eX T p.2))).run prog w=.ok (.agg us) w:=by
     unfold Instr.build;rw[Sem.run_bind,k,Result.andThen_ok,Sem.run_bind,run_underlying hu,Result.andThen_ok];simp only;rw[Sem.run_bind,e,Result.andThen_ok];simp only[d];rfl
    simp[execOp,n,c]
   have:FT (en w G0 bx rv S.rs) [.agg us.toList.toArray] [.agg rs]:=.agg _ _ A .nil;simpa using this
 cases hl
def Ma{w0 w:World}{G0:Bse}{bs:List (TypeId×List Tree)}{rs:List (Option Row)}{bx:List Nat}{rv:List Value}(a:Mem w0 G0 bs rs bx rv w)(b:Nat)(c:w.heap.size<=b):¬GG G0 bx rv rs b:=λh=>by
 have:=(a.ok b h).1;omega
def aQ{t e:TypeId}{b m:Nat}{parts:Array (Nat×Operand)}{G:List Value}{qs:List (Nat×Tree)}{es:List Tree}(K:o.op=.buildSlice t b parts)(ht:ic prog t=some (e,m))(k:gn prog e=some G)(D:G.length=m)(P:0<b*m)(R:b*m<=16777216)
  (L:parts.toList.map (λp=>(p.1,S.ev p.2))=qs) (f:(qs.all λq=>q.2.oneA)=true) (y:(flat es).all Tree.plain0=true) (hr:ln (λi=>some (i*m,m)) (((List.range (b*m)).map λi=>G[i%m]!).map c7) qs=some (flat es)) (hl:es.length=b):OpOK o S (.sl es):=by
 intro w0 G0 bx rv w T X W;have I:=lp (S:=S) W parts.toList (λp Y=>by rw[K];simp only[Op.operands,RH];exact⟨p,Y,Z⟩);obtain⟨B,i,r,rfl⟩:=jt ht;unfold gn at k;simp only[r,QY,Q4]at k;obtain⟨z,k,rfl⟩:=k;rw[L]at I;have F:z.cells.size=i.size:=by simpa using D
 have c:((Array.range (b*i.size)).map λx=>z.cells[x%z.cells.size]!).toList=(List.range (b*i.size)).map λx=>z.cells.toList[x%i.size]! :=by
  rw[F];simp only[R7,Te];refine SE λa _=>?_
  rw[SR,QG,S6,QO]
 obtain⟨us,Q,H⟩:=nV (E:=en w G0 bx rv S.rs) (place:=λx=>some (x*i.size,i.size)) (ps:=parts.toList.map λp=>(p.1,eX T p.2)) (qs:=qs) (cells:=(Array.range (b*i.size)).map λx=>z.cells[x%z.cells.size]!) (ts:=((List.range (b*i.size)).map λx=>z.cells.toList[x%i.size]!).map c7) (by rw[<-L];simp) I f (.of (by rw[c];exact nW _ _ _)) hr;have g:(Instr.buildSlice t b (parts.map λp=>(p.1,eX T p.2))).run prog w=.ok (.slice (some ⟨w.heap.size,0,none⟩) b b) (w.alloc (.cells us e)):=by
  have C:(zeroValue e).run prog w=.ok z w:=by simp[zeroValue,typeInfo,r,k]
  have A:(sizeOf e).run prog w=.ok i.size w:=by simp[sizeOf,typeInfo,r]
  have l:Instr.fill (λx=>some (x*i.size,i.size)) ((Array.range (b*i.size)).map λx=>z.cells[x%z.cells.size]!) (parts.map λp=>(p.1,eX T p.2)).toList=some us:=by
   rw[<-Q];simp
  have M:¬2^24<b*i.size:=O
  have N:¬b*i.size=0:=O
  simp only[Instr.buildSlice,Sem.run_bind,run_underlying B,Result.andThen_ok,A,gt_iff_lt,if_neg M,if_neg N,C,Sem.run_pure,l,newRow,newObj];rfl
 have J:us.size=(flat es).length:=by have:=H.length;simpa using this
 have n:=gL w e us;have s:b<=9223372036854775807:=by
  have V:0<i.size:=RN λh=>by rw[h]at P;omega
  have:=SN b V;omega
 have d:Below w.heap.size w (w.alloc (.cells us e)):=(Below.refl _ _).alloc (Qi _) _;refine OpRuns.of_ok (v:=.slice (some ⟨w.heap.size,0,none⟩) b b) (W':=w.alloc (.cells us e)) (by simp[execOp,K,g]) ⟨.pure (.sl w.heap.size 0 b b us.toList es (by simp[en]) (Ma X _ (Qi _)) (λj u B=>?_) hl.symm O s ?_ .nil) .nil,d⟩
 ·rw[QT];show(w.alloc (.cells us e)).cell? _=_
  rw[n.cell];simpa using B
 have U:PT w (GG G0 bx rv S.rs) us.toList (flat es):=H.plain0s y;exact U.later d
def lY{E:En}{T:Nat->Value}{op:Op}(a:∀s,(ew op).contains s=true->FT E [T s] [S.get s]):∀(xs:List Operand),(∀x∈xs,x∈op.operands.toList)->FT E (xs.map (eX T)) (xs.map S.ev)
 |[],_=>.nil
 |x::xs,h=>FT.cons (EV a (h x (Qs ..))) (lY a xs λq b=>h q (QA _ b))
def aJ{f:FuncId}{xs:Array Operand}{a:Array TypeId}{ts:List Tree}{r:Tree}(j:o.op=.call {callee:=.value (.func f),args:=xs,argTypes:=a})(b:Ct f ts r)(u:xs.toList.map S.ev=ts)(t:ts.all Tree.plain=true):OpOK o S r:=by
 intro w0 G0 bx rv w T i q;have h:=lY (S:=S) q xs.toList (λx z=>by rw[j];simp only[Op.operands,Call.operands];simp;exact .inr (by simpa using z));rw[u]at h;obtain⟨⟨d,n,p,g⟩,b⟩:=b;have c:=b (GG G0 bx rv S.rs) w _ i.env i.ok (h.plains t);refine OpRuns.of_call (f:=f) (args:=(xs.toList.map (eX T)).toArray) ?_ (c.mono ?_)
 ·have k:¬d.name= "runtime.NumGoroutine" :=by simpa using p
  have l:¬d.body=none:=λe=>by rw[e]at g;cases g
  have m:(xs.toList.map (eX T)).toArray=xs.map (eX T):=Rb F;rw[m];simp[execOp,j,resolve,eX,Deferred.ofValue,invoke,callFunc,n,k,l]
 rintro e w' ⟨v,rfl,y,s⟩;exact⟨v,Z,.pure y .nil,s⟩
def fD(l:List UInt8):List Tree:=l.map λc=>.sc (.int .u8 c.toNat)
def re:∀l,flat (fD l)=fD l
 |[]=>rfl
 |c::l=>by
  have:=re l;simp only[fD,QM,lT,Tree.cells]at this⊢;rw[this];rfl
def ku(l:List UInt8):(fD l).length=l.length:=by simp[fD]
end
def Tree.noDig:Tree->Bool
 | .sc v=>cj v
 | .sl _| .tl _| .ref _| .box _ _| .own _| .elp _ _=>true
 |_=>false
def FT.noDig{E:En}{v:Value}{t:Tree}(h:FT E [v] [t])(a:t.noDig=true):cj v=true:=by
 cases h with
 |pure h _=>
  cases h with
  |sc=>exact a
  |sl0=>rfl
  |sl=>rfl
  |tl=>rfl
  |agg=>simp[Tree.noDig]at a
  |tup=>simp[Tree.noDig]at a
  |ref=>rfl
 |any=>simp[Tree.noDig]at a
 |box=>rfl
 |own=>rfl
 |elp=>rfl
 |agg=>simp[Tree.noDig]at a
 |tup=>simp[Tree.noDig]at a
def FT.noDigs{E:En}:∀{us:List Value} {ts:List Tree},FT E us ts->ts.all Tree.noDig=true->us.all cj=true
 |[],[],_,_=>rfl
 |[],_::_,h,_=>by cases h
 |_::_,[],h,_=>by cases h
 |x::us,t::ts,h,hp=>by
  simp only[Rc,Qh]at hp⊢;exact⟨h.head.noDig hp.1,FT.noDigs h.tail hp.2⟩
section
variable {w0 w w':World} {G0:Bse} {bs:List (TypeId×List Tree)} {rs:List (Option Row)} {bx:List Nat} {rv:List Value}
def lq(g:Nat):∀b,b∈bX (bx++[g]) rv rs↔b∈bX bx rv rs\/b=g:=λb=>by
 simp only[bX,Q6,QP];constructor
 ·rintro((h|h)|h)
  ·exact .inl (.inl h)
  ·exact .inr h
  exact .inl (.inr h)
 rintro((h|h)|h)
 ·exact .inl (.inl h)
 ·exact .inr h
 exact .inl (.inr h)
def Apart.addBox(g:Nat)(h:Apart bx rv rs)(l:g∉bX bx rv rs):Apart (bx++[g]) rv rs:=by
 refine⟨?_,λk v R b d f i n=>?_,h.rr⟩
 ·rw[List.nodup_append];exact⟨h.bb,F,λa m b j e=>by
   rw[QP]at j;subst j e;exact l (aN.2 (.inl m))⟩
 rcases Q6.1 n with c|c
 ·exact h.br k v R b d f i c
 rw[QP]at c;subst c;exact l (aN.2 (.inr ⟨k,v,R,d,f,i⟩))
def jY(j:Obj){us:List Value}{ts:List Tree}(k:FT (en w G0 bx rv rs) us ts):FT (en (w.alloc j) G0 (bx++[w.heap.size]) rv rs) us ts:=by
 refine k.mono (by simp[en]) (λb f e=>⟨Below.heap_alloc w j b f,?_⟩) (λi g a=>?_) (λ_ _ h=>h)
 ·rintro(c|c)
  ·exact e (.inl c)
  rcases(lq (rv:=rv) (rs:=rs) _ b).1 c with d|d
  ·exact e (.inr d)
  simp only[en]at f;omega
 show(bx++[w.heap.size])[i]? =some g
 have a:bx[i]? =some g:=a;rw[Qv (Qm.1 a).1];exact a
def DB(e:Obj){us:List Value}{ts:List Tree}(g:PT w (GG G0 bx rv rs) us ts):PT (w.alloc e) (GG G0 (bx++[w.heap.size]) rv rs) us ts:=by
 refine g.mono F (λb f d=>⟨Below.heap_alloc w e b f,?_⟩);rintro(a|a)
 ·exact d (.inl a)
 rcases(lq (rv:=rv) (rs:=rs) _ b).1 a with c|c
 ·exact d (.inr c)
 omega
def Mem.addBox(h:Mem w0 G0 bs rs bx rv w){us:List Value}{cs:List Tree}{ty:TypeId}(t:FT (en w G0 bx rv rs) us cs)(hd:us.all cj=true):
  Mem w0 G0 (bs++[(ty,cs)]) rs (bx++[w.heap.size]) rv (w.alloc (.cells us.toArray ty)):=by
 have a:Below w.heap.size w (w.alloc (.cells us.toArray ty)):=(Below.refl _ _).alloc (Qi _) _;refine⟨h.below.then a,h.env0,h.g0,by simp[h.nb],h.nr,λi g c=>?_,λk v R x r=>?_,h.nodup.addBox _ λu=>?_,λb s=>?_,λi c=>by have:=h.pin i c;rw[Qv (Qm.1 this).1];exact this⟩
 ·by_cases f:i<bx.length
  ·rw[Qv f]at c;obtain⟨o,l,p,d,j,m,n⟩:=h.box i g c;exact⟨o,l,p,by rw[Qv (by rw[<-h.nb];exact f)];exact d,j.below a j.lt,jY _ m,n⟩
  have e:=(Qm.1 c).1;simp only[QJ,TC]at e;obtain rfl:i=bx.length:=O
  rw[Qx (Qi _),RI]at c;simp only[QV,Qy]at c;subst c;exact⟨ty,cs,us,by rw[h.nb,Qx (Qi _),RI];rfl,gL _ _ _,jY _ t,hd⟩
 ·obtain⟨xs,d,j,m,n⟩:=h.row k v R x r;exact⟨xs,lU d a,DB _ j,m,λg q=>(n g q).of (a.block g (d.lt g q).2)⟩
 ·have:=(h.ok _ (.inr u)).1;omega
 rcases(lq (rv:=rv) (rs:=rs) _ b).1 s with d|d
 ·exact h.ge b d
 have:=h.below.size;exact .inl O
def nX{g:Nat}(i:g∈bX bx rv rs)(c:w.grownBy w' (some g)){us:List Value}{ts:List Tree}(f:FT (en w G0 bx rv rs) us ts):FT (en w' G0 bx rv rs) us ts:=
 f.mono c.size (λb d a=>⟨c.block b d λe=>a (by injection e with e;subst e;exact .inr i),a⟩) (λ_ _ h=>h) (λ_ _ h=>h)
def EX{g:Nat}(h:g∈bX bx rv rs)(c:w.grownBy w' (some g)){us:List Value}{ts:List Tree}(f:PT w (GG G0 bx rv rs) us ts):PT w' (GG G0 bx rv rs) us ts:=
 f.mono c.size (λb d a=>⟨c.block b d λe=>a (by injection e with e;subst e;exact .inr h),a⟩)
def Mem.setBox(h:Mem w0 G0 bs rs bx rv w){b g:Nat}{ty:TypeId}{us:List Value}{cs:List Tree}(m:bx[b]? =some g)(l:w.grownBy w' (some g))(x:IsBlk w' g ty us.toArray)(I:FT (en w' G0 bx rv rs) us cs)(hd:us.all cj=true):Mem w0 G0 (bs.set b (ty,cs)) rs bx rv w':=by
 have f:g∈bX bx rv rs:=aN.2 (.inl (Qo m));have y:=(Qm.1 m).1;refine⟨h.below.grown l (λk e=>by injection e with e;subst e;exact h.ge _ f),h.env0,h.g0,by simp[h.nb],h.nr,λi c r=>?_,λk v R F E=>?_,h.nodup,h.ge,h.pin⟩
 ·by_cases j:i=b
  ·subst j;rw[m]at r;cases r;exact⟨ty,cs,us,by rw[RB (by rw[<-h.nb];exact y)],x,I,hd⟩
  obtain⟨A,s,B,p,q,t,u⟩:=h.box i c r;have a:c≠g:=λe=>by
   subst e;have z:=h.nodup.bb;obtain⟨G,C⟩:=Qm.1 r;obtain⟨H,D⟩:=Qm.1 m;have o:=List.pairwise_iff_getElem.1 z;rcases SP i b with n|n|n
   ·exact o i b G H n (C.trans D.symm)
   ·exact j n
   exact o b i H G n (D.trans C.symm)
  exact⟨A,s,B,by rw[RO (λe=>j e.symm)];exact p,(l.block c q.lt λe=>a (by injection e)).trans q,nX f l t,u⟩
 obtain⟨xs,p,q,t,u⟩:=h.row k v R F E;have a:v.ownBlock≠some g:=λe=>h.nodup.br k v R g F E e (Qo m)
 refine⟨xs,p.kept l (.inr a),EX f l q,t,λc d=>(u c d).of (l.block c (p.lt c d).2 λe=>a (by rw[d];injection e with e;rw[e]))⟩
end
def qi(w0:World)(G0:Bse)(o:Oper)(S S':St):Prop:=∀a w,Sim w0 G0 S a w->OpRuns prog o (λs=>a.tmps.getD s undef) w λv w'=>Sim w0 G0 S' (a.put o.dst v) w'
section
variable {w0:World} {G0:Bse} {ops:Array Oper} {rest:List Oper} {Q:Exit->St->Prop} {S S':St} {o:Oper}
def eA(c:o.guard=none)(h:qi w0 G0 o S S')(k:AOps w0 G0 ops rest Q S'):AOps w0 G0 ops (o::rest) Q S:=by
 intro a w d;refine fK (by simp[Region.wanted,c]) λK b=>?_
 refine Oper.wp_mono ?_ ((h a w d).wp (Q:=I2 w0 G0 Q));rintro f w' ⟨v,rfl,e⟩;exact b _ _ (k _ _ e)
def Mb{ty:TypeId}{x:Operand}{t:Tree}(j:o.op=.box ty x)(hd:df S.n o.dst=true)(m:S.ev x=t)(k:t.oneA=true)(l:t.cells.all Tree.noDig=true):qi w0 G0 o S ({S with bs:=S.bs++[(ty,t.cells)]}.put o.dst (.box S.bs.length 0)):=by
 rintro a w ⟨bx,rv,h,d,e,c⟩;have p:=bY (op:=o.op) (T:=λs=>a.tmps.getD s undef) (S:=S) (λs _=>c s) m (by rw[j];simp[Op.operands]);have g:=rb p k;have f:=h.addBox (ty:=ty) g (g.noDigs l);refine OpRuns.of_ok (v:=.pointer (some ⟨w.heap.size,0,none⟩)) (W':=w.alloc (.cells (eX (λs=>a.tmps.getD s undef) x).cells ty)) ?_ ⟨bx++[w.heap.size],rv,?_,by rw[d9,dQ,d],by rw[c6,e],?_⟩
 ·simp[execOp,j,Instr.box,newVar,newRow,newObj,Sem.run]
 ·rw[dc,b6];simpa using f
 rw[b6];have b:∀i,FT (en (w.alloc (.cells (eX (λs=>a.tmps.getD s undef) x).cells ty)) G0 (bx++[w.heap.size]) rv S.rs) [a.tmps.getD i undef] [S.get i]:=λi=>jY _ (c i)
 intro i;rw[fL a o.dst _ S.n d hd,cF];split
 ·exact .box _ _ _ (by show(bx++[w.heap.size])[S.bs.length]? =_;rw[<-h.nb];simp) .nil
 exact b i
end
