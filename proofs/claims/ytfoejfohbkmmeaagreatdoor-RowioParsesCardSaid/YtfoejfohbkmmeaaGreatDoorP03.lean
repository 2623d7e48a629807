import Derived.Test.YtfoejfohbkmmeaaGreatDoorP02
import Derived.Deep.MidRow
import Derived.Test.YtfoejfohbkmmeaaGreatDoorP00
import Derived.Laws.IdiomStrings
import Derived.Lib.BufferRead
import Derived.Maps.AppendAt
import Derived.Lib.AppendStr
namespace Go.Proofs.YtfoejfohbkmmeaaGreatDoor
open Go.RowKit
open Lib renaming hid→J
def rj(P:Program)(t:TypeId):Option Nat:=
 match P.underlying t with
 |some d=>if d.isRow then(P.info? t).map (·.size)else none
 |none=>none
def jo(P:Program)(t:TypeId):Bool:=
 match P.underlying t with
 |some d=> !d.isRow
 |none=>false
def ku(P:Program)(s:TypeId)(j:Nat):Option Nat:=
 match P.underlying s with
 |some (.struct fs)=>(fs[j]?).bind fun f=>(P.info? f.type).bind fun i=>if i.size=0 then none else some f.offset
 |_=>none
def gN(P:Program)(t:TypeId):Option (TypeId×Nat):=
 match P.underlying t with
 |some (.slice e)=>(P.info? e).map fun i=>(e,i.size)
 |_=>none
theorem vQ{P:Program}{t:TypeId}{n:Nat}(h:rj P t=some n):∃d,P.underlying t=some d/\d.isRow=true/\(P.info? t).map (·.size)=some n:=by
 unfold rj at h;cases a:P.underlying t with
 |none=>simp[a]at h
 |some d=>
  simp only[a]at h;split at h
  ·exact⟨d,Z,by assumption,h⟩
  cases h
theorem vR{P:Program}{t:TypeId}(h:jo P t=true):∃d,P.underlying t=some d/\d.isRow=false:=by
 unfold jo at h;cases a:P.underlying t with
 |none=>simp[a]at h
 |some d=>exact⟨d,Z,by simpa[a]using h⟩
theorem Hk{P:Program}{s:TypeId}{j o:Nat}(h:ku P s j=some o):∃a f i,P.underlying s=some (.struct a)/\a[j]? =some f/\P.info? f.type=some i/\i.size≠0/\f.offset=o:=by
 unfold ku at h;split at h
 ·next a hu=>
  cases c:a[j]? with
  |none=>simp[c]at h
  |some f=>
   simp only[c,M9]at h;cases b:P.info? f.type with
   |none=>simp[b]at h
   |some i=>
    simp only[b,M9]at h;split at h
    ·cases h
    exact⟨a,f,i,hu,c,b,by assumption,by simpa using h⟩
 cases h
theorem jp{P:Program}{t e:TypeId}{n:Nat}(h:gN P t=some (e,n)):P.underlying t=some (.slice e)/\∃i,P.info? e=some i/\i.size=n:=by
 unfold gN at h;split at h
 ·next e' hu=>
  cases a:P.info? e' with
  |none=>simp[a]at h
  |some i=>
   simp only[a,Nq,MK,Pm]at h;obtain⟨rfl,rfl⟩:=h;exact⟨hu,i,a,Z⟩
 cases h
section
variable {P:Program} {w:World}
theorem jq{b o:Nat}{t:TypeId}{u:Value}(h:jo P t=true)(e:w.cell? ⟨b,o,none⟩=some u):(Instr.loadAt t (.pointer (some ⟨b,o,none⟩))).run P w=.ok u w:=by
 obtain⟨d,c,f⟩:=vR h;have a:(isAgg t).run P w=.ok false w:=by
  unfold isAgg;rw[Sem.run_bind,run_underlying c w];cases d<;>simp_all
 simp[Instr.loadAt,Instr.sureAddr,loadVar,a,e]
theorem lr{b o fo:Nat}{s:TypeId}{j:Nat}(h:ku P s j=some fo):(Instr.fieldAt s (.pointer (some ⟨b,o,none⟩)) j).run P w=.ok (.pointer (some ⟨b,o+fo,none⟩)) w:=by
 obtain⟨g,f,i,c,a,e,d,rfl⟩:=Hk h;simp[Instr.fieldAt,Instr.sureAddr,fieldPlace,run_underlying c,a,sizeOf,typeInfo,e,d,Addr.add_mid]
theorem lw{b o n c m:Nat}{t e:TypeId}{k:IntKind}{i:Int}(h:gN P t=some (e,m))(d:0<=i)(f:i<n):(Instr.indexAt t (.slice (some ⟨b,o,none⟩) n c) (.int k i)).run P w=.ok (.pointer (some ⟨b,o+i.toNat*m,none⟩)) w:=by
 obtain⟨a,j,g,rfl⟩:=jp h;simp[Instr.indexAt,asIntOf,run_underlying a,sizeOf,typeInfo,g,d,f,Addr.add_mid]
end
section
variable {S:St} {o:Oper}
theorem xu{op:Op}{s:Nat}(h:Operand.tmp s∈op.operands.toList):(ej op).contains s=true:=by
 simp only[MM,ej,PE];exact⟨_,h,Z⟩
theorem EG{E:En}{T:Nat->Value}{op:Op}(a:∀s,(ej op).contains s=true->FT E [T s] [S.get s]){x:Operand}(b:x∈op.operands.toList):FT E [dU T x] [S.ev x]:=by
 cases x with
 |tmp s=>exact a s (xu b)
 |const v=>exact .pure (.sc v .nil) .nil
 |global g=>exact .pure (.sc _ .nil) .nil
 |func f=>exact .pure (.sc _ .nil) .nil
theorem bL{E:En}{T:Nat->Value}{op:Op}(a:∀s,(ej op).contains s=true->FT E [T s] [S.get s]){x:Operand}{t:Tree}(c:S.ev x=t)(b:x∈op.operands.toList):FT E [dU T x] [t]:=c▸EG a b
theorem au{x:Operand}{t:Tree}(a:o.op=.move x)(c:S.ev x=t):OpOK o S t:=by
 intro w0 G0 bx rv w T d b;have h:=bL b c (by rw[a];simp[Op.operands]);exact aC (v:=dU T x) (W':=w) (by simp[execOp,a]) ⟨h,Below.refl _ _⟩
theorem bp{x:Operand}{t:Tree}(a:o.op=.assign x)(c:S.ev x=t):OpOK o S t:=by
 intro w0 G0 bx rv w T d b;have h:=bL b c (by rw[a];simp[Op.operands]);exact aC (v:=dU T x) (W':=w) (by simp[execOp,a]) ⟨h,Below.refl _ _⟩
theorem cz{v:Value}{t:Tree}(a:o.op=.move (.const v)\/o.op=.assign (.const v))(h:∀W G,PT W G [v] [t]):OpOK o S t:=by
 intro w0 G0 bx rv w T c b;refine aC (v:=v) (W':=w) ?_ ⟨.pure (h _ _) .nil,Below.refl _ _⟩;rcases a with a|a<;>simp[execOp,a,dU]
theorem dk(W:World)(G:Nat->Prop):PT W G [.slice none 0 0] [.sl []]:=.sl0 none 0 (fun _=>rfl) (by omega) .nil
theorem BG{c a b:Operand}{x:Bool}{t:Tree}(d:o.op=.pick c a b)(g:S.ev c=.sc (.bool x))(h:S.ev (if x then a else b)=t):OpOK o S t:=by
 intro w0 G0 bx rv w T j e;have i:=(bL e g (by rw[d];simp[Op.operands])).isSc;have f:FT (en w G0 bx rv S.rs) [dU T (if x then a else b)] [t]:=bL e h (by rw[d];cases x<;>simp[Op.operands]);refine aC (v:=dU T (if x then a else b)) (W':=w) ?_ ⟨f,Below.refl _ _⟩;cases x<;>simp[execOp,d,i,asBool]
theorem lx{w0 w:World}{G0:Bse}{bs:List (TypeId×List Tree)}{rs:List (Option Row)}{bx:List Nat}{rv:List Value}{k:Nat}{R:Row}{v:Value}(c:Mem w0 G0 bs rs bx rv w)(b:rs[k]? =some (some R))(h:FT (en w G0 bx rv rs) [v] [.own k]):
  rv[k]? =some v/\∃xs,w.ownsRow 0 R.e R.sz v R.es.length xs/\PT w (GG G0 bx rv rs) xs (flat R.es)/\(Sized R.sz R.es/\(R.tt=true->nR v))/\∀g,v.ownBlock=some g->NoDigB w g:=by
 have a:fl rv rs k=some v:=h.isOwn.1;simp only[fl,b,M9,id]at a;exact⟨a,c.row k v R a b⟩
theorem cF{w:World}{base:Nat}{e:TypeId}{sz n:Nat}{v:Value}{xs:List Value}(h:w.ownsRow base e sz v n xs):∃A c,v=.slice A n c:=by
 rcases h.2 with⟨rfl,b⟩|⟨g,a,cur,rfl,_⟩
 ·exact⟨none,0,by rw[b]⟩
 exact⟨_,_,Z⟩
theorem aZ{x:Operand}{t e:TypeId}{n:Nat}{es:List Tree}(a:o.op=.call {callee:=.builtin .len,args:=#[x],argTypes:=#[t]})(h:gN Tryz.prog t=some (e,n))(g:S.ev x=.sl es):OpOK o S (.sc (.int .i64 (es.length:Nat))):=by
 intro w0 G0 bx rv w T i d;obtain⟨A,c,b,_⟩:=(bL d g (by rw[a];simp[Op.operands,Call.operands])).isSl.slice;obtain⟨f,_⟩:=jp h;refine aC (v:=.int .i64 (es.length:Nat)) (W':=w) ?_ ⟨.pure (.sc _ .nil) .nil,Below.refl _ _⟩;simp[execOp,a,resolve,invoke,builtin,Builtin.len_,b,run_underlying f,goInt]
theorem zL{x:Operand}{t e:TypeId}{n k:Nat}{R:Row}(a:o.op=.call {callee:=.builtin .len,args:=#[x],argTypes:=#[t]})(l:gN Tryz.prog t=some (e,n))(i:S.ev x=.own k)(j:S.rs[k]? =some (some R)):OpOK o S (.sc (.int .i64 (R.es.length:Nat))):=by
 intro w0 G0 bx rv w T b f;obtain⟨_,xs,g,_⟩:=lx b j (bL f i (by rw[a];simp[Op.operands,Call.operands]));obtain⟨A,c,d⟩:=cF g;obtain⟨h,_⟩:=jp l;refine aC (v:=.int .i64 (R.es.length:Nat)) (W':=w) ?_ ⟨.pure (.sc _ .nil) .nil,Below.refl _ _⟩;simp[execOp,a,resolve,invoke,builtin,Builtin.len_,d,run_underlying h,goInt]
theorem pV{w0 w:World}{G0:Bse}{bs:List (TypeId×List Tree)}{rs:List (Option Row)}{bx:List Nat}{rv:List Value}{b off:Nat}{ty:TypeId}{cs:List Tree}{v:Value}(e:Mem w0 G0 bs rs bx rv w)(j:bs[b]? =some (ty,cs))(h:FT (en w G0 bx rv rs) [v] [.box b off]):
  ∃g us,bx[b]? =some g/\v=.pointer (some ⟨g,off,none⟩)/\IsBlk w g ty us.toArray/\FT (en w G0 bx rv rs) us cs/\us.all bQ=true:=by
 obtain⟨g,c,rfl⟩:=h.isBox;obtain⟨l,i,us,a,k,d,f⟩:=e.box b g c;rw[j]at a;cases a;exact⟨g,us,c,Z,k,d,f⟩
theorem aP{r:List Tree}{x:Operand}{t ty:TypeId}{b off n:Nat}{cs:List Tree}(h:o.op=.load t x)(s:S.ev x=.box b off)(u:S.bs[b]? =some (ty,cs))(z:rj Tryz.prog t=some n)(e:Nat.ble (off+n) cs.length=true)(c:(cs.drop off).take n=r):OpOK o S (.agg r):=by
 subst c;have e:off+n<=cs.length:=by simpa using e
 intro w0 G0 bx rv w T k m;obtain⟨g,us,_,l,p,f,_⟩:=pV k u (bL m s (by rw[h];simp[Op.operands]));obtain⟨d,q,i,A⟩:=vQ z;have y:((us.drop off).take n).length=n:=by have:=f.length;rw[Mf,MQ];omega
 have c:=run_loadAt_mid (P:=Tryz.prog) w g off t ((us.drop off).take n) d (fun j v a=>by
  rw[p.cell,NS];rw[MU]at a;split at a
  ·rw[Nh]at a;exact a
  cases a) q i (by rw[y];exact A)
 refine aC (v:=.agg ((us.drop off).take n).toArray) (W':=w) ?_ ⟨.agg _ _ ((f.drop off).take n) .nil,Below.refl _ _⟩;simp[execOp,h,l,c]
theorem aA{x:Operand}{t ty:TypeId}{b off:Nat}{cs:List Tree}{c:Tree}(a:o.op=.load t x)(j:S.ev x=.box b off)(k:S.bs[b]? =some (ty,cs))(p:jo Tryz.prog t=true)(m:cs[off]? =some c):OpOK o S c:=by
 intro w0 G0 bx rv w T d f;obtain⟨g,us,_,q,h,n,_⟩:=pV d k (bL f j (by rw[a];simp[Op.operands]));obtain⟨u,i,e⟩:=n.get off c m;have l:=jq (P:=Tryz.prog) (w:=w) (b:=g) (o:=off) (u:=u) p (by rw[h.cell,NS];exact i);refine aC (v:=u) (W':=w) ?_ ⟨e,Below.refl _ _⟩;simp[execOp,a,q,l]
theorem ck{r:List Tree}{x:Operand}{t:TypeId}{n:Nat}{cs:List Tree}(g:o.op=.load t x)(a:S.ev x=.ref cs)(q:rj Tryz.prog t=some n)(f:Nat.ble n cs.length=true)(e:cs.take n=r):OpOK o S (.agg r):=by
 subst e;have f:n<=cs.length:=by simpa using f
 intro w0 G0 bx rv w T u k;obtain⟨b,off,xs,i,_,_,m,a⟩:=(bL k a (by rw[g];simp[Op.operands])).isRef;obtain⟨d,l,h,s⟩:=vQ q;have p:(xs.take n).length=n:=by have:=a.length;rw[Mf];omega
 have e:=run_loadAt_mid (P:=Tryz.prog) w b off t (xs.take n) d (fun j v c=>by
  rw[MU]at c;split at c
  ·exact m j v c
  cases c) l h (by rw[p];exact s)
 refine aC (v:=.agg (xs.take n).toArray) (W':=w) ?_ ⟨.pure (.agg _ _ (a.take n) .nil) .nil,Below.refl _ _⟩;simp[execOp,g,i,e]
theorem bz{x:Operand}{t:TypeId}{cs:List Tree}{c:Tree}(d:o.op=.load t x)(a:S.ev x=.ref cs)(k:jo Tryz.prog t=true)(i:cs[0]? =some c):OpOK o S c:=by
 intro w0 G0 bx rv w T m f;obtain⟨b,off,xs,l,_,_,j,a⟩:=(bL f a (by rw[d];simp[Op.operands])).isRef;obtain⟨u,g,e⟩:=a.get 0 c i;have h:=jq (P:=Tryz.prog) (w:=w) (b:=b) (o:=off) (u:=u) k (j 0 u g);refine aC (v:=u) (W':=w) ?_ ⟨.pure e .nil,Below.refl _ _⟩;simp[execOp,d,l,h]
theorem av{r:Nat}{x:Operand}{s:TypeId}{j b off fo:Nat}(a:o.op=.fieldAddr s x j)(f:S.ev x=.box b off)(c:ku Tryz.prog s j=some fo)(h:off+fo=r):OpOK o S (.box b r):=by
 subst h;intro w0 G0 bx rv w T k d;obtain⟨g,i,e⟩:=(bL d f (by rw[a];simp[Op.operands])).isBox;refine aC (v:=.pointer (some ⟨g,off+fo,none⟩)) (W':=w) ?_ ⟨.box b _ g i .nil,Below.refl _ _⟩;simp[execOp,a,e,lr c]
theorem bH{r:List Tree}{x:Operand}{s:TypeId}{j fo:Nat}{cs:List Tree}(c:o.op=.fieldAddr s x j)(a:S.ev x=.ref cs)(e:ku Tryz.prog s j=some fo)(i:cs.drop fo=r):OpOK o S (.ref r):=by
 subst i;intro w0 G0 bx rv w T m g;obtain⟨b,off,xs,l,h,f,k,a⟩:=(bL g a (by rw[c];simp[Op.operands])).isRef;refine aC (v:=.pointer (some ⟨b,off+fo,none⟩)) (W':=w) ?_ ⟨.pure (.ref b (off+fo) (xs.drop fo) _ h f (fun j u d=>?_) (a.drop fo) .nil) .nil,Below.refl _ _⟩
 ·simp[execOp,c,l,lr e]
 rw[Nh]at d;rw[N5];exact k _ u d
theorem vT{r:Nat}{x:Operand}{s:TypeId}{j k off fo:Nat}(a:o.op=.fieldAddr s x j)(f:S.ev x=.elp k off)(b:ku Tryz.prog s j=some fo)(h:off+fo=r):OpOK o S (.elp k r):=by
 subst h;intro w0 G0 bx rv w T l d;obtain⟨g,n,c,i,e⟩:=(bL d f (by rw[a];simp[Op.operands])).isElp;refine aC (v:=.pointer (some ⟨g,off+fo,none⟩)) (W':=w) ?_ ⟨.elp k _ g n c i .nil,Below.refl _ _⟩;simp[execOp,a,e,lr b]
theorem aM{r:List Tree}(c:Tree){x z:Operand}{t e:TypeId}{n:Nat}{es:List Tree}{k:IntKind}{i:Int}{j:Nat}(l:o.op=.indexAddr t x z)(I:gN Tryz.prog t=some (e,n))(g:S.ev x=.sl es)(H:S.ev z=.sc (.int k i))(E:i=j)(C:es[j]? =some c)(q:Sized n es)(f:c.cells=r):OpOK o S (.ref r):=by
 subst f;intro w0 G0 bx rv w T N B;have F:=(bL B H (by rw[l];simp[Op.operands])).isSc;obtain⟨A,cp,G,_,_,_,M⟩:=(bL B g (by rw[l];simp[Op.operands])).isSl.slice;obtain⟨a,s⟩:=L6.1 C;obtain⟨b,off,xs,rfl,L,J,h,g⟩:=M (by omega);subst E;have f:=lw (P:=Tryz.prog) (w:=w) (b:=b) (o:=off) (n:=es.length) (c:=cp) (k:=k) (i:=(j:Int)) I (by omega) (by omega);rw[Ou]at f;have m:c.cells.length=n:=q c (L7 C);have D:=q.flat;have p:(j+1)*n<=es.length*n:=ML _ a;rw[M5,Ol]at p;refine aC (v:=.pointer (some ⟨b,off+j*n,none⟩)) (W':=w) ?_ ⟨.pure (.ref b (off+j*n) ((xs.drop (j*n)).take n) _ L J (fun i u d=>?_) ?_ .nil) .nil,Below.refl _ _⟩
 ·simp[execOp,l,F,G,f]
 ·rw[MU]at d;split at d
  ·rw[Nh]at d;rw[N5];exact h _ u d
  cases d
 have y:=(g.drop (j*n)).take n;rw[<-kJ q j]at y;have K:(flat (es.drop j)).take n=c.cells:=by
  rw[Mc a,s,eN,<-m,P7]
 rwa[K]at y
theorem cT{x:Operand}{j:Nat}{ts:List Tree}{t:Tree}(a:o.op=.extract x j)(e:S.ev x=.tup ts)(g:ts[j]? =some t):OpOK o S t:=by
 intro w0 G0 bx rv w T i c;obtain⟨xs,h,d⟩:=(bL c e (by rw[a];simp[Op.operands])).isTup;obtain⟨u,f,b⟩:=d.get j t g;refine aC (v:=u) (W':=w) ?_ ⟨b,Below.refl _ _⟩;simp[execOp,a,h,Instr.extract,f]
end
theorem BH{w:World}{B:Nat}{A:Option Addr}{l:List UInt8}(c:Nat)(h:At w B A (bE l)):(convert 22 9 (.slice A l.length c)).run Tryz.prog w=.ok (.string ⟨l.toArray⟩) w:=by
 cases A with
 |none=>
  have d:l=[]:=by
   cases l with
   |nil=>rfl
   |cons a l=>obtain⟨b,off,e,_⟩:=h (by simp[bE]);cases e
  subst d;exact Lib.run_convert_nil_bytes w _ _ 5 c Tryz.underlying22 Tryz.underlying5 Tryz.underlying9
 |some a=>
  refine run_convert_bytes_back w _ _ 5 a c l Tryz.underlying22 Tryz.underlying5 Tryz.underlying9 fun j g=>?_
  obtain⟨b,off,e,_,f⟩:=h (by rw[fI];omega);injection e with e
  subst e;have:=f j (.int .u8 l[j].toNat) (by simp[bE,L3 g]);rwa[show(⟨b,off,none⟩:Addr).add j=⟨b,off+j,none⟩from by unfold Addr.add;split<;>simp_all]
theorem EH(c:Int)(d:UInt8)(h:c=d.toNat)(w:World):(convert 22 9 (.slice (some ⟨w.heap.size,0,none⟩) 1 1)).run Tryz.prog (w.alloc (.cells #[.int .u8 c] 5))=.ok (.string ⟨#[d]⟩) (w.alloc (.cells #[.int .u8 c] 5)):=by
 refine BH (B:=w.heap.size+1) (l:=[d]) 1 fun _=>⟨w.heap.size,0,Z,by omega,fun j u a=>?_⟩
 rw[MT,(fp w 5 #[.int .u8 c]).cell j];subst h;simpa[bE]using a
section
variable {S:St} {o:Oper}
def Jn(S:St):Option Operand->Nat->Prop
 |none,l=>l=0
 |some x,l=>∃k,S.ev x=.sc (.int k l)
def Jo(S:St)(n:Nat):Option Operand->Nat->Prop
 |none,h=>h=n
 |some x,h=>∃k,S.ev x=.sc (.int k h)
theorem jK{P:Program}{w:World}{t e:TypeId}{m n c l h:Nat}{A:Option Addr}(q:gN P t=some (e,m))(lo g:Option Value)(f:(lo=none/\l=0)\/∃k,lo=some (.int k l))(b:(g=none/\h=n)\/∃k,g=some (.int k h))(o:l<=h)(r:h<=n)(s:n<=c):
  (Instr.sliceAt t (.slice A n c) lo g none).run P w=.ok (.slice (if c=l then A else A.map (·.add (l*m))) (h-l) (c-l)) w:=by
 obtain⟨d,i,a,rfl⟩:=jp q;have j:¬c<h:=by omega
 rcases f with⟨rfl,rfl⟩|⟨k,rfl⟩
 ·rcases b with⟨rfl,rfl⟩|⟨p,rfl⟩
  ·simp[Instr.sliceAt,Instr.slice,Instr.sliceBounds,run_underlying d,sizeOf,typeInfo,a]
  simp[Instr.sliceAt,Instr.slice,Instr.sliceBounds,Instr.sliceBound,asIntOf,run_underlying d,sizeOf,typeInfo,a,j]
 rcases b with⟨rfl,rfl⟩|⟨p,rfl⟩
 ·simp[Instr.sliceAt,Instr.slice,Instr.sliceBounds,Instr.sliceBound,asIntOf,run_underlying d,sizeOf,typeInfo,a,o]
 simp[Instr.sliceAt,Instr.slice,Instr.sliceBounds,Instr.sliceBound,asIntOf,run_underlying d,sizeOf,typeInfo,a,o,j]
theorem Hl{W:World}{G:Nat->Prop}{b off c n m l h:Nat}{xs:List Value}{es:List Tree}(e:Sized m es)(p:b<W.heap.size)(i:¬G b)(o:∀(j:Nat) u,xs[j]? =some u->W.cell? ⟨b,off+j,none⟩=some u)(k:PT W G xs (flat es))(s:l<=h)(q:h<=es.length)(r:n=h-l)(d:n<=c)(g:c<=9223372036854775807):PT W G [.slice (some ⟨b,off+l*m,none⟩) n c] [.sl ((es.take h).drop l)]:=by
 have f:n=((es.take h).drop l).length:=by rw[MQ,Mf];omega
 refine .sl b (off+l*m) c n ((xs.take (h*m)).drop (l*m)) _ p i (fun j u a=>?_) f (by rw[<-f];exact d) g ?_ .nil
 ·rw[Nh,MU]at a;split at a
  ·rw[N5];exact o _ u a
  cases a
 rw[kJ (e.take h),mP e];exact(k.take _).drop _
theorem kK{x:Operand}{lo d:Option Operand}{t e:TypeId}{m l h:Nat}{es:List Tree}(n:o.op=.slice t x lo d none)(F:gN Tryz.prog t=some (e,m))(B:S.ev x=.sl es)(g:Jn S lo l)(j:Jo S es.length d h)(u:l<=h)(z:h<=es.length)(I:Sized m es):OpOK o S (.sl ((es.take h).drop l)):=by
 intro w0 G0 bx rv w T N r;obtain⟨A,c,H,L,O,C,M⟩:=(bL r B (by rw[n];simp[Op.operands])).isSl.slice;have f:(lo.map (dU T)=none/\l=0)\/∃k,lo.map (dU T)=some (.int k l):=by
  cases lo with
  |none=>exact .inl ⟨Z,g⟩
  |some y=>
   obtain⟨k,q⟩:=g;exact .inr ⟨k,by rw[Nq,(bL r q (by rw[n];simp[Op.operands])).isSc]⟩
 have i:(d.map (dU T)=none/\h=es.length)\/∃k,d.map (dU T)=some (.int k h):=by
  cases d with
  |none=>exact .inl ⟨Z,j⟩
  |some y=>
   obtain⟨k,q⟩:=j;exact .inr ⟨k,by rw[Nq,(bL r q (by rw[n];simp[Op.operands])).isSc]⟩
 have E:=jK (P:=Tryz.prog) (w:=w) (A:=A) F (lo.map (dU T)) (d.map (dU T)) f i u z L;refine aC (v:=.slice (if c=l then A else A.map (·.add (l*m))) (h-l) (c-l)) (W':=w) (by simp[execOp,n,H,E]) ⟨.pure ?_ .nil,Below.refl _ _⟩;by_cases D:h-l=0
 ·have J:(es.take h).drop l=[]:=Mr (by rw[MQ,Mf];omega);rw[J,D];refine .sl0 _ _ (fun e=>?_) (by omega) .nil;split at e
  ·omega
  cases A with
  |none=>have:=C Z;omega
  |some a=>simp at e
 obtain⟨b,off,xs,rfl,K,G,p,s⟩:=M (by omega);rw[if_neg (by omega),Nq,Addr.add_mid];exact Hl I K G p s u z Z (by omega) (by omega)
def nC(place:Nat->Option (Nat×Nat)):List Tree->List (Nat×Tree)->Option (List Tree)
 |cells,[]=>some cells
 |cells,(i,t)::rest=>
  match place i with
  |none=>none
  |some (off,size)=>if t.cells.length≠size\/off+t.cells.length>cells.length then none else nC place (cells.take off++t.cells++cells.drop (off+t.cells.length)) rest
theorem um:∀(vs:List Value) (k off:Nat) (cells:Array Value),off+k+vs.length<=cells.size->(vs.zipIdx k).foldl (fun cs (c,j)=>cs.setIfInBounds (off+j) c) cells=(cells.toList.take (off+k)++vs++cells.toList.drop (off+k+vs.length)).toArray
 |[],k,off,cells,h=>by simp
 |v::vs,k,off,cells,h=>by
  simp only[L9]at h;rw[List.zipIdx_cons,NG,um vs (k+1) off _ (by simp;omega)];simp only[Nr,L9];congr 1;rw[<-N5,Qj (by omega),Pn,Mx (by simp;omega)];have e:(List.take (off+k) cells.toList).length=off+k:=by rw[Mf];simp;omega
  rw[NK _ _ (by omega),e];simp[N5,NW 1]
theorem pW{v:Value}(h:v.oneCell'=true):v.cells=#[v]:=by cases v<;>simp_all [Value.cells,Value.oneCell']
theorem zM{t:Tree}(h:t.one=true):t.cells=[t]:=by cases t<;>simp_all [Tree.cells,Tree.one]
def Tree.oneA:Tree->Bool
 | .agg _=>true
 |t=>t.one
theorem oI{E:En}{v:Value}{t:Tree}(h:FT E [v] [t])(d:t.oneA=true):FT E v.cells.toList t.cells:=by
 by_cases b:∃cs,t=.agg cs
 ·obtain⟨cs,rfl⟩:=b;obtain⟨xs,rfl,c⟩:=h.isAgg;exact c
 have a:t.one=true:=by
  cases t<;>simp_all [Tree.oneA]
 rw[pW (h.one a),zM a];exact h
theorem oJ{E:En}{place:Nat->Option (Nat×Nat)}:∀{ps:List (Nat×Value)} {qs:List (Nat×Tree)} {cells:Array Value} {ts rs:List Tree},ps.map (·.1)=qs.map (·.1)->FT E (ps.map (·.2)) (qs.map (·.2))->(qs.all fun q=>q.2.oneA)=true->FT E cells.toList ts->nC place ts qs=some rs->∃us,Instr.fill place cells ps=some us/\FT E us.toList rs
 |[],[],cells,ts,rs,_,_,_,h,hr=>by
  simp only[nC,MK]at hr;subst hr;exact⟨cells,Z,h⟩
 |[],_::_,_,_,_,a,_,_,_,_=>by simp at a
 |_::_,[],_,_,_,a,_,_,_,_=>by simp at a
 |(i,v)::ps,(j,t)::qs,cells,ts,rs,a,hf,hp,h,hr=>by
  simp only[M3,Pw]at a hf;obtain⟨rfl,a⟩:=a;simp only[Ny,L8]at hp;have l:=oI hf.head hp.1;have e:=l.length;have o:=h.length;simp only[nC]at hr;cases b:place i with
  |none=>simp[b]at hr
  |some p=>
   obtain⟨off,size⟩:=p;simp only[b]at hr;split at hr
   ·cases hr
   next hc=>
   have g:v.cells.size=t.cells.length:=by simpa using e
   have k:cells.size=ts.length:=by simpa using o
   have n:¬(v.cells.size≠size||decide (off+v.cells.size>cells.size))=true:=by
    simp only[MP,decide_eq_true_eq,not_or];rw[g,k];constructor<;>omega
   have d:=um v.cells.toList 0 off cells (by simp;omega);simp only[Instr.fill,b];rw[if_neg n];have m:v.cells.zipIdx.foldl (fun cs (x:Value×Nat)=>cs.setIfInBounds (off+x.2) x.1) cells=(cells.toList.take off++v.cells.toList++cells.toList.drop (off+v.cells.toList.length)).toArray:=by
    rw[<-Array.foldl_toList,Array.toList_zipIdx];exact d
   have f:(v.cells.zipIdx.foldl (fun cs (x:Value×Nat)=>match x with|(c,j)=>cs.setIfInBounds (off+j) c) cells)=(cells.toList.take off++v.cells.toList++cells.toList.drop (off+v.cells.toList.length)).toArray:=m;rw[f];refine oJ a hf.tail hp.2 ?_ hr;rw[e];exact((h.take off).append l).append (h.drop _)
end
def Ct(f:FuncId)(args:List Tree)(r:Tree):Prop:=(∃fn,Tryz.prog.funcs[f]? =some fn/\(fn.name== "runtime.NumGoroutine")=false/\fn.body.isNone=false)/\∀(G:Nat->Prop) (w:World) (vs:List Value),Env w->(∀g,G g->g<w.heap.size/\NoDigB w g)->PT w G vs args->
 Calls Tryz.prog f vs.toArray w fun e w'=>∃v,e=.returned v/\PT w' G [v] [r]/\Below w.heap.size w w'
def dl:Value->Tree
 | .slice none 0 0=>.sl []
 |v=>.sc v
theorem mQ(W:World)(G:Nat->Prop):∀a:List Value,PT W G a (a.map dl)
 |[]=>.nil
 |z::a=>by
  rw[M3];refine PT.cons ?_ (mQ W G a);unfold dl;split
  ·exact dk W G
  exact .sc _ .nil
def ua(P:Program)(t:TypeId):Option (List (Nat×Nat)×List Value):=
 match P.underlying t,P.info? t with
 |some (.struct fs),some i=>i.zero.bind fun z=>(fs.toList.mapM fun f=>(P.info? f.type).map fun i=>(f.offset,i.size)).map fun pl=>(pl,z.cells.toList)
 |_,_=>none
def gz(P:Program)(e:TypeId):Option (List Value):=(P.info? e).bind fun i=>i.zero.map fun z=>z.cells.toList
theorem nS{P:Program}{w:World}:∀{l:List Field} {a:List (Nat×Nat)},(l.mapM fun f=>(P.info? f.type).map fun i=>(f.offset,i.size))=some a->(l.mapM (m:=Sem) fun f=>do pure (f.offset,<-sizeOf f.type)).run P w=.ok a w
 |[],a,h=>by
  simp at h;subst h;rfl
 |f::l,a,h=>by
  simp only[P8,Option.bind_eq_bind,Ow,Nb,Option.pure_def,MK]at h;obtain⟨_,⟨i,c,rfl⟩,ps,b,rfl⟩:=h;simp[P8,sizeOf,typeInfo,c];have:=nS (P:=P) (w:=w) b;simp[sizeOf,typeInfo]at this;simp[this]
section
variable {S:St} {o:Oper}
theorem ml{E:En}{T:Nat->Value}{op:Op}(a:∀s,(ej op).contains s=true->FT E [T s] [S.get s]):∀(ps:List (Nat×Operand)),(∀p∈ps,p.2∈op.operands.toList)->FT E ((ps.map fun p=>(p.1,dU T p.2)).map (·.2)) ((ps.map fun p=>(p.1,S.ev p.2)).map (·.2))
 |[],_=>.nil
 |p::ps,h=>FT.cons (EG a (h p (Ml ..))) (ml a ps fun q b=>h q (Ms _ b))
theorem g8{t:TypeId}{parts:Array (Nat×Operand)}{u:List (Nat×Nat)}{s:List Value}{qs:List (Nat×Tree)}{rs:List Tree}(y:o.op=.build t parts)(b:ua Tryz.prog t=some (u,s))(r:parts.toList.map (fun p=>(p.1,S.ev p.2))=qs)(d:(qs.all fun q=>q.2.oneA)=true)(F:nC (u[·]?) (s.map dl) qs=some rs):OpOK o S (.agg rs):=by
 intro w0 G0 bx rv w T G D;have n:=ml (S:=S) D parts.toList (fun p A=>by rw[y];simp only[Op.operands,NA];exact⟨p,A,Z⟩);unfold ua at b;split at b
 ·next fs i hu hi=>
  cases h:i.zero with
  |none=>simp[h]at b
  |some z=>
   simp only[h,M9,Nb,Pm]at b;obtain⟨a,j,rfl,rfl⟩:=b;have e:=nS (w:=w) j;rw[r]at n;obtain⟨us,B,C⟩:=oJ (E:=en w G0 bx rv S.rs) (place:=(a[·]?)) (ps:=parts.toList.map fun p=>(p.1,dU T p.2)) (qs:=qs) (cells:=z.cells) (ts:=z.cells.toList.map dl) (by rw[<-r];simp) n d (.of (mQ _ _ _)) F;refine aC (v:=.agg us) (W':=w) ?_ ⟨?_,Below.refl _ _⟩
   ·have g:(fs.mapM (m:=Sem) fun f=>do pure (f.offset,<-sizeOf f.type)).run Tryz.prog w=.ok a.toArray w:=by
     rw[Oj,Sem.run_map,e];rfl
    have l:Instr.fill (fun x=>a.toArray[x]?) z.cells (parts.map fun p=>(p.1,dU T p.2)).toList=some us:=by
     rw[<-B];simp
    have k:(zeroValue t).run Tryz.prog w=.ok z w:=by simp[zeroValue,typeInfo,hi,h]
    have c:(Instr.build t (parts.map fun p=>(p.1,dU T p.2))).run Tryz.prog w=.ok (.agg us) w:=by
     unfold Instr.build;rw[Sem.run_bind,k,Result.andThen_ok,Sem.run_bind,run_underlying hu,Result.andThen_ok];simp only;rw[Sem.run_bind,g,Result.andThen_ok];simp only[l];rfl
    simp[execOp,y,c]
   have:FT (en w G0 bx rv S.rs) [.agg us.toList.toArray] [.agg rs]:=.agg _ _ C .nil;simpa using this
 cases b
theorem vU{w0 w:World}{G0:Bse}{bs:List (TypeId×List Tree)}{rs:List (Option Row)}{bx:List Nat}{rv:List Value}(a:Mem w0 G0 bs rs bx rv w)(b:Nat)(c:w.heap.size<=b):¬GG G0 bx rv rs b:=fun h=>by
 have:=(a.ok b h).1;omega
theorem aQ{t e:TypeId}{len m:Nat}{parts:Array (Nat×Operand)}{k:List Value}{qs:List (Nat×Tree)}{es:List Tree}(J:o.op=.buildSlice t len parts)(W:gN Tryz.prog t=some (e,m))(c:gz Tryz.prog e=some k)(C:k.length=m)(R:0<len*m)(P:len*m<=16777216)
  (H:parts.toList.map (fun p=>(p.1,S.ev p.2))=qs) (g:(qs.all fun q=>q.2.oneA)=true) (s:(flat es).all Tree.plain0=true) (V:nC (fun i=>some (i*m,m)) (((List.range (len*m)).map fun i=>k[i%m]!).map dl) qs=some (flat es)) (M:es.length=len):OpOK o S (.sl es):=by
 intro w0 G0 bx rv w T O U;have G:=ml (S:=S) U parts.toList (fun p L=>by rw[J];simp only[Op.operands,NA];exact⟨p,L,Z⟩);obtain⟨D,i,r,rfl⟩:=jp W;unfold gz at c;simp only[r,M9,Nb]at c;obtain⟨z,c,rfl⟩:=c;rw[H]at G;have n:z.cells.size=i.size:=by simpa using C
 have b:((Array.range (len*i.size)).map fun x=>z.cells[x%z.cells.size]!).toList=(List.range (len*i.size)).map fun x=>z.cells.toList[x%i.size]! :=by
  rw[n];simp only[OE,Ql];refine O3 fun a _=>?_
  rw[Pj,MO,Px,Nj]
 obtain⟨us,N,K⟩:=oJ (E:=en w G0 bx rv S.rs) (place:=fun x=>some (x*i.size,i.size)) (ps:=parts.toList.map fun p=>(p.1,dU T p.2)) (qs:=qs) (cells:=(Array.range (len*i.size)).map fun x=>z.cells[x%z.cells.size]!) (ts:=((List.range (len*i.size)).map fun x=>z.cells.toList[x%i.size]!).map dl) (by rw[<-H];simp) G g (.of (by rw[b];exact mQ _ _ _)) V;have d:(Instr.buildSlice t len (parts.map fun p=>(p.1,dU T p.2))).run Tryz.prog w=.ok (.slice (some ⟨w.heap.size,0,none⟩) len len) (w.alloc (.cells us e)):=by
  have A:(zeroValue e).run Tryz.prog w=.ok z w:=by simp[zeroValue,typeInfo,r,c]
  have l:(sizeOf e).run Tryz.prog w=.ok i.size w:=by simp[sizeOf,typeInfo,r]
  have F:Instr.fill (fun x=>some (x*i.size,i.size)) ((Array.range (len*i.size)).map fun x=>z.cells[x%z.cells.size]!) (parts.map fun p=>(p.1,dU T p.2)).toList=some us:=by
   rw[<-N];simp
  have X:¬2^24<len*i.size:=by omega
  have Y:¬len*i.size=0:=by omega
  simp only[Instr.buildSlice,Sem.run_bind,run_underlying D,Result.andThen_ok,l,gt_iff_lt,if_neg X,if_neg Y,A,Sem.run_pure,F,newRow,newObj];rfl
 have I:us.size=(flat es).length:=by have:=K.length;simpa using this
 have y:=fp w e us;have B:len<=9223372036854775807:=by
  have Q:0<i.size:=MS fun h=>by rw[h]at R;omega
  have:=PW len Q;omega
 have f:Below w.heap.size w (w.alloc (.cells us e)):=(Below.refl _ _).alloc (L4 _) _;refine aC (v:=.slice (some ⟨w.heap.size,0,none⟩) len len) (W':=w.alloc (.cells us e)) (by simp[execOp,J,d]) ⟨.pure (.sl w.heap.size 0 len len us.toList es (by simp[en]) (vU O _ (L4 _)) (fun j u D=>?_) M.symm (by omega) B ?_ .nil) .nil,f⟩
 ·rw[MT];show(w.alloc (.cells us e)).cell? _=_
  rw[y.cell];simpa using D
 have h3:PT w (GG G0 bx rv S.rs) us.toList (flat es):=K.plain0s s;exact h3.later f
theorem ru{E:En}{T:Nat->Value}{op:Op}(a:∀s,(ej op).contains s=true->FT E [T s] [S.get s]):∀(xs:List Operand),(∀x∈xs,x∈op.operands.toList)->FT E (xs.map (dU T)) (xs.map S.ev)
 |[],_=>.nil
 |x::xs,h=>FT.cons (EG a (h x (Ml ..))) (ru a xs fun q b=>h q (Ms _ b))
theorem ak{f:FuncId}{xs:Array Operand}{a:Array TypeId}{ts:List Tree}{r:Tree}(h:o.op=.call {callee:=.value (.func f),args:=xs,argTypes:=a})(c:Ct f ts r)(t:xs.toList.map S.ev=ts)(k:ts.all Tree.plain=true):OpOK o S r:=by
 intro w0 G0 bx rv w T i s;have d:=ru (S:=S) s xs.toList (fun x l=>by rw[h];simp only[Op.operands,Call.operands];simp;exact .inr (by simpa using l));rw[t]at d;obtain⟨⟨g,n,p,j⟩,c⟩:=c;have b:=c (GG G0 bx rv S.rs) w _ i.env i.ok (d.plains k);refine cP (f:=f) (args:=(xs.toList.map (dU T)).toArray) ?_ (b.mono ?_)
 ·have u:¬g.name= "runtime.NumGoroutine" :=by simpa using p
  have y:¬g.body=none:=fun e=>by rw[e]at j;cases j
  have q:(xs.toList.map (dU T)).toArray=xs.map (dU T):=Pb (by simp);rw[q];simp[execOp,h,resolve,dU,Deferred.ofValue,invoke,callFunc,n,u,y]
 rintro e w' ⟨v,rfl,m,z⟩;exact⟨v,Z,.pure m .nil,z⟩
def bm(l:List UInt8):List Tree:=l.map fun c=>.sc (.int .u8 c.toNat)
theorem nT:∀l,flat (bm l)=bm l
 |[]=>rfl
 |c::l=>by
  have:=nT l;simp only[bm,M3,eN,Tree.cells]at this⊢;rw[this];rfl
theorem qE(l:List UInt8):Sized 1 (bm l):=Sized.map _ l fun _=>rfl
theorem a6(l:List UInt8):(bm l).length=l.length:=by simp[bm]
end
def Tree.noDig:Tree->Bool
 | .sc v=>bQ v
 | .sl _| .tl _| .ref _| .box _ _| .own _| .elp _ _=>true
 |_=>false
theorem FT.noDig{E:En}{v:Value}{t:Tree}(h:FT E [v] [t])(a:t.noDig=true):bQ v=true:=by
 cases h with
 |pure h _=>
  cases h with
  |sc=>exact a
  |sl0=>rfl
  |sl=>rfl
  |tl=>rfl
  |agg=>simp[Tree.noDig]at a
  |tup=>simp[Tree.noDig]at a
  |ref=>rfl
 |any=>simp[Tree.noDig]at a
 |box=>rfl
 |own=>rfl
 |elp=>rfl
 |agg=>simp[Tree.noDig]at a
 |tup=>simp[Tree.noDig]at a
theorem FT.noDigs{E:En}:∀{us:List Value} {ts:List Tree},FT E us ts->ts.all Tree.noDig=true->us.all bQ=true
 |[],[],_,_=>rfl
 |[],_::_,h,_=>by cases h
 |_::_,[],h,_=>by cases h
 |x::us,t::ts,h,hp=>by
  simp only[Ny,L8]at hp⊢;exact⟨h.head.noDig hp.1,FT.noDigs h.tail hp.2⟩
section
variable {w0 w w':World} {G0:Bse} {bs:List (TypeId×List Tree)} {rs:List (Option Row)} {bx:List Nat} {rv:List Value}
theorem mm(g:Nat):∀b,b∈cR (bx++[g]) rv rs↔b∈cR bx rv rs\/b=g:=fun b=>by
 simp only[cR,Mw,Mm];constructor
 ·rintro((h|h)|h)
  ·exact .inl (.inl h)
  ·exact .inr h
  exact .inl (.inr h)
 rintro((h|h)|h)
 ·exact .inl (.inl h)
 ·exact .inr h
 exact .inl (.inr h)
theorem Apart.addBox(g:Nat)(h:Apart bx rv rs)(f:g∉cR bx rv rs):Apart (bx++[g]) rv rs:=by
 refine⟨?_,fun k v R b l d j n=>?_,h.rr⟩
 ·rw[List.nodup_append];exact⟨h.bb,by simp,fun a m b i e=>by
   rw[Mm]at i;subst i e;exact f (aY.2 (.inl m))⟩
 rcases Mw.1 n with c|c
 ·exact h.br k v R b l d j c
 rw[Mm]at c;subst c;exact f (aY.2 (.inr ⟨k,v,R,l,d,j⟩))
theorem kL(d:Obj){us:List Value}{ts:List Tree}(k:FT (en w G0 bx rv rs) us ts):FT (en (w.alloc d) G0 (bx++[w.heap.size]) rv rs) us ts:=by
 refine k.mono (by simp[en]) (fun b j e=>⟨Below.heap_alloc w d b j,?_⟩) (fun i g a=>?_) (fun _ _ h=>h)
 ·rintro(c|c)
  ·exact e (.inl c)
  rcases(mm (rv:=rv) (rs:=rs) _ b).1 c with f|f
  ·exact e (.inr f)
  simp only[en]at j;omega
 show(bx++[w.heap.size])[i]? =some g
 have a:bx[i]? =some g:=a;rw[My (L6.1 a).1];exact a
theorem C6(c:Obj){us:List Value}{ts:List Tree}(f:PT w (GG G0 bx rv rs) us ts):PT (w.alloc c) (GG G0 (bx++[w.heap.size]) rv rs) us ts:=by
 refine f.mono (by simp) (fun b g d=>⟨Below.heap_alloc w c b g,?_⟩);rintro(a|a)
 ·exact d (.inl a)
 rcases(mm (rv:=rv) (rs:=rs) _ b).1 a with e|e
 ·exact d (.inr e)
 omega
theorem Mem.addBox(h:Mem w0 G0 bs rs bx rv w){us:List Value}{cs:List Tree}{ty:TypeId}(t:FT (en w G0 bx rv rs) us cs)(r:us.all bQ=true):
  Mem w0 G0 (bs++[(ty,cs)]) rs (bx++[w.heap.size]) rv (w.alloc (.cells us.toArray ty)):=by
 have a:Below w.heap.size w (w.alloc (.cells us.toArray ty)):=(Below.refl _ _).alloc (L4 _) _;refine⟨h.below.then a,h.env0,h.g0,by simp[h.nb],h.nr,fun i g c=>?_,fun k v R u x=>?_,h.nodup.addBox _ fun s=>?_,fun b y=>?_,fun i c=>by have:=h.pin i c;rw[My (L6.1 this).1];exact this⟩
 ·by_cases f:i<bx.length
  ·rw[My f]at c;obtain⟨o,m,p,d,j,n,l⟩:=h.box i g c;exact⟨o,m,p,by rw[My (by rw[<-h.nb];exact f)];exact d,j.below a j.lt,kL _ n,l⟩
  have e:=(L6.1 c).1;simp only[Mb,NL]at e;obtain rfl:i=bx.length:=by omega
  rw[Mz (L4 _),M2]at c;simp only[MV,MK]at c;subst c;exact⟨ty,cs,us,by rw[h.nb,Mz (L4 _),M2];rfl,fp _ _ _,kL _ t,r⟩
 ·obtain⟨xs,d,j,n,l⟩:=h.row k v R u x;exact⟨xs,eA d a,C6 _ j,n,fun g q=>(l g q).of (a.block g (d.lt g q).2)⟩
 ·have:=(h.ok _ (.inr s)).1;omega
 rcases(mm (rv:=rv) (rs:=rs) _ b).1 y with d|d
 ·exact h.ge b d
 have:=h.below.size;exact .inl (by omega)
theorem rT{g:Nat}(f:g∈cR bx rv rs)(c:w.grownBy w' (some g)){us:List Value}{ts:List Tree}(d:FT (en w G0 bx rv rs) us ts):FT (en w' G0 bx rv rs) us ts:=
 d.mono c.size (fun b i a=>⟨c.block b i fun e=>a (by injection e with e;subst e;exact .inr f),a⟩) (fun _ _ h=>h) (fun _ _ h=>h)
theorem oK{g:Nat}(f:g∈cR bx rv rs)(c:w.grownBy w' (some g)){us:List Value}{ts:List Tree}(d:PT w (GG G0 bx rv rs) us ts):PT w' (GG G0 bx rv rs) us ts:=
 d.mono c.size (fun b h a=>⟨c.block b h fun e=>a (by injection e with e;subst e;exact .inr f),a⟩)
theorem Mem.setBox(h:Mem w0 G0 bs rs bx rv w){b g:Nat}{ty:TypeId}{us:List Value}{cs:List Tree}(o:bx[b]? =some g)(l:w.grownBy w' (some g))(z:IsBlk w' g ty us.toArray)(J:FT (en w' G0 bx rv rs) us cs)(I:us.all bQ=true):Mem w0 G0 (bs.set b (ty,cs)) rs bx rv w':=by
 have j:g∈cR bx rv rs:=aY.2 (.inl (L7 o));have x:=(L6.1 o).1;refine⟨h.below.grown l (fun k e=>by injection e with e;subst e;exact h.ge _ j),h.env0,h.g0,by simp[h.nb],h.nr,fun i d r=>?_,fun k v R C E=>?_,h.nodup,h.ge,h.pin⟩
 ·by_cases f:i=b
  ·subst f;rw[o]at r;cases r;exact⟨ty,cs,us,by rw[Nw (by rw[<-h.nb];exact x)],z,J,I⟩
  obtain⟨u,A,y,p,q,B,s⟩:=h.box i d r;have a:d≠g:=fun e=>by
   subst e;have t:=h.nodup.bb;obtain⟨H,F⟩:=L6.1 r;obtain⟨D,G⟩:=L6.1 o;have n:=PP.1 t;rcases OQ i b with m|m|m
   ·exact n i b H D m (F.trans G.symm)
   ·exact f m
   exact n b i D H m (G.trans F.symm)
  exact⟨u,A,y,by rw[Nm (fun e=>f e.symm)];exact p,(l.block d q.lt fun e=>a (by injection e)).trans q,rT j l B,s⟩
 obtain⟨xs,p,q,B,s⟩:=h.row k v R C E;have a:v.ownBlock≠some g:=fun e=>h.nodup.br k v R g C E e (L7 o)
 refine⟨xs,p.kept l (.inr a),oK j l q,B,fun d c=>(s d c).of (l.block d (p.lt d c).2 fun e=>a (by rw[c];injection e with e;rw[e]))⟩
end
def rk(w0:World)(G0:Bse)(o:Oper)(S S':St):Prop:=∀a w,Sim w0 G0 S a w->OpRuns Tryz.prog o (fun s=>a.tmps.getD s undef) w fun v w'=>Sim w0 G0 S' (a.put o.dst v) w'
section
variable {w0:World} {G0:Bse} {ops:Array Oper} {rest:List Oper} {Q:Exit->St->Prop} {S S':St} {o:Oper}
theorem gj(d:o.guard=none)(h:rk w0 G0 o S S')(k:AOps w0 G0 ops rest Q S'):AOps w0 G0 ops (o::rest) Q S:=by
 intro a w c;refine eu (by simp[Region.wanted,d]) fun K b=>?_
 refine Oper.wp_mono ?_ ((h a w c).wp (Q:=zK w0 G0 Q));rintro f w' ⟨v,rfl,e⟩;exact b _ _ (k _ _ e)
theorem Jp{ty:TypeId}{x:Operand}{t:Tree}(g:o.op=.box ty x)(k:dM S.n o.dst=true)(p:S.ev x=t)(q:t.oneA=true)(m:t.cells.all Tree.noDig=true):rk w0 G0 o S ({S with bs:=S.bs++[(ty,t.cells)]}.put o.dst (.box S.bs.length 0)):=by
 rintro a w ⟨bx,rv,h,d,e,c⟩;have l:=bL (op:=o.op) (T:=fun s=>a.tmps.getD s undef) (S:=S) (fun s _=>c s) p (by rw[g];simp[Op.operands]);have j:=oI l q;have f:=h.addBox (ty:=ty) j (j.noDigs m);refine aC (v:=.pointer (some ⟨w.heap.size,0,none⟩)) (W':=w.alloc (.cells (dU (fun s=>a.tmps.getD s undef) x).cells ty)) ?_ ⟨bx++[w.heap.size],rv,?_,by rw[dY,fd,d],by rw[dg,e],?_⟩
 ·simp[execOp,g,Instr.box,newVar,newRow,newObj,Sem.run]
 ·rw[eB,c6];simpa using f
 rw[c6];have b:∀i,FT (en (w.alloc (.cells (dU (fun s=>a.tmps.getD s undef) x).cells ty)) G0 (bx++[w.heap.size]) rv S.rs) [a.tmps.getD i undef] [S.get i]:=fun i=>kL _ (c i)
 intro i;rw[gD a o.dst _ S.n d k,dV];split
 ·exact .box _ _ _ (by show(bx++[w.heap.size])[S.bs.length]? =_;rw[<-h.nb];simp) .nil
 exact b i
end
end Go.Proofs.YtfoejfohbkmmeaaGreatDoor
