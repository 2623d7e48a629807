import Derived.Test.YtfoejfohbkmmeaaGreatDoorB02
import Derived.Deep.MidRow
import Derived.Test.YtfoejfohbkmmeaaGreatDoorB00
import Derived.Laws.IdiomStrings
import Derived.Lib.BufferRead
import Derived.Maps.AppendAt
import Derived.Lib.AppendStr
namespace Go.Proofs.YtfoejfohbkmmeaaGreatDoor
open Go.RowKit
open Lib renaming hid→J
def rT(P:Program)(t:TypeId):Option Nat:=
 match P.underlying t with
 |some d=>if d.isRow then(P.info? t).map (·.size)else none
 |none=>none
def ja(P:Program)(t:TypeId):Bool:=
 match P.underlying t with
 |some d=> !d.isRow
 |none=>false
def jm(P:Program)(s:TypeId)(j:Nat):Option Nat:=
 match P.underlying s with
 |some (.struct fs)=>(fs[j]?).bind fun f=>(P.info? f.type).bind fun i=>if i.size=0 then none else some f.offset
 |_=>none
def gS(P:Program)(t:TypeId):Option (TypeId×Nat):=
 match P.underlying t with
 |some (.slice e)=>(P.info? e).map fun i=>(e,i.size)
 |_=>none
theorem xi{P:Program}{t:TypeId}{n:Nat}(h:rT P t=some n):∃d,P.underlying t=some d/\d.isRow=true/\(P.info? t).map (·.size)=some n:=by
 unfold rT at h;cases a:P.underlying t with
 |none=>simp[a]at h
 |some d=>
  simp only[a]at h;split at h
  ·exact⟨d,Z,by assumption,h⟩
  cases h
theorem xj{P:Program}{t:TypeId}(h:ja P t=true):∃d,P.underlying t=some d/\d.isRow=false:=by
 unfold ja at h;cases a:P.underlying t with
 |none=>simp[a]at h
 |some d=>exact⟨d,Z,by simpa[a]using h⟩
theorem JC{P:Program}{s:TypeId}{j o:Nat}(h:jm P s j=some o):∃a f i,P.underlying s=some (.struct a)/\a[j]? =some f/\P.info? f.type=some i/\i.size≠0/\f.offset=o:=by
 unfold jm at h;split at h
 ·next a hu=>
  cases c:a[j]? with
  |none=>simp[c]at h
  |some f=>
   simp only[c,PC]at h;cases b:P.info? f.type with
   |none=>simp[b]at h
   |some i=>
    simp only[b,PC]at h;split at h
    ·cases h
    exact⟨a,f,i,hu,c,b,by assumption,by simpa using h⟩
 cases h
theorem kf{P:Program}{t e:TypeId}{n:Nat}(h:gS P t=some (e,n)):P.underlying t=some (.slice e)/\∃i,P.info? e=some i/\i.size=n:=by
 unfold gS at h;split at h
 ·next e' hu=>
  cases a:P.info? e' with
  |none=>simp[a]at h
  |some i=>
   simp only[a,PG,OI,Qy]at h;obtain⟨rfl,rfl⟩:=h;exact⟨hu,i,a,Z⟩
 cases h
section
variable {P:Program} {w:World}
theorem jt{b o:Nat}{t:TypeId}{u:Value}(h:ja P t=true)(e:w.cell? ⟨b,o,none⟩=some u):(Instr.loadAt t (.pointer (some ⟨b,o,none⟩))).run P w=.ok u w:=by
 obtain⟨d,c,f⟩:=xj h;have a:(isAgg t).run P w=.ok false w:=by
  unfold isAgg;rw[Sem.run_bind,run_underlying c w];cases d<;>simp_all
 simp[Instr.loadAt,Instr.sureAddr,loadVar,a,e]
theorem lJ{b o fo:Nat}{s:TypeId}{j:Nat}(h:jm P s j=some fo):(Instr.fieldAt s (.pointer (some ⟨b,o,none⟩)) j).run P w=.ok (.pointer (some ⟨b,o+fo,none⟩)) w:=by
 obtain⟨g,f,i,d,e,a,c,rfl⟩:=JC h;simp[Instr.fieldAt,Instr.sureAddr,fieldPlace,run_underlying d,e,sizeOf,typeInfo,a,c,Addr.add_mid]
theorem lK{b o n c m:Nat}{t e:TypeId}{k:IntKind}{i:Int}(h:gS P t=some (e,m))(f:0<=i)(d:i<n):(Instr.indexAt t (.slice (some ⟨b,o,none⟩) n c) (.int k i)).run P w=.ok (.pointer (some ⟨b,o+i.toNat*m,none⟩)) w:=by
 obtain⟨g,j,a,rfl⟩:=kf h;simp[Instr.indexAt,asIntOf,run_underlying g,sizeOf,typeInfo,a,f,d,Addr.add_mid]
end
section
variable {S:St} {o:Oper}
theorem yp{op:Op}{s:Nat}(h:Operand.tmp s∈op.operands.toList):(eG op).contains s=true:=by
 simp only[O9,eG,RU];exact⟨_,h,Z⟩
theorem F9{E:En}{T:Nat->Value}{op:Op}(b:∀s,(eG op).contains s=true->FT E [T s] [S.get s]){x:Operand}(a:x∈op.operands.toList):FT E [dm T x] [S.ev x]:=by
 cases x with
 |tmp s=>exact b s (yp a)
 |const v=>exact .pure (.sc v .nil) .nil
 |global g=>exact .pure (.sc _ .nil) .nil
 |func f=>exact .pure (.sc _ .nil) .nil
theorem bH{E:En}{T:Nat->Value}{op:Op}(c:∀s,(eG op).contains s=true->FT E [T s] [S.get s]){x:Operand}{t:Tree}(a:S.ev x=t)(b:x∈op.operands.toList):FT E [dm T x] [t]:=a▸F9 c b
theorem av{x:Operand}{t:Tree}(a:o.op=.move x)(b:S.ev x=t):OpOK o S t:=by
 intro w0 G0 bx rv w T d c;have h:=bH c b (by rw[a];simp[Op.operands]);exact aB (v:=dm T x) (W':=w) (by simp[execOp,a]) ⟨h,Below.refl _ _⟩
theorem bE{x:Operand}{t:Tree}(a:o.op=.assign x)(b:S.ev x=t):OpOK o S t:=by
 intro w0 G0 bx rv w T d c;have h:=bH c b (by rw[a];simp[Op.operands]);exact aB (v:=dm T x) (W':=w) (by simp[execOp,a]) ⟨h,Below.refl _ _⟩
theorem bI{v:Value}{t:Tree}(a:o.op=.move (.const v)\/o.op=.assign (.const v))(h:∀W G,PT W G [v] [t]):OpOK o S t:=by
 intro w0 G0 bx rv w T b c;refine aB (v:=v) (W':=w) ?_ ⟨.pure (h _ _) .nil,Below.refl _ _⟩;rcases a with a|a<;>simp[execOp,a,dm]
theorem bQ(W:World)(G:Nat->Prop):PT W G [.slice none 0 0] [.sl []]:=.sl0 none 0 (fun _=>rfl) (by omega) .nil
theorem Dc{c a b:Operand}{x:Bool}{t:Tree}(d:o.op=.pick c a b)(h:S.ev c=.sc (.bool x))(g:S.ev (if x then a else b)=t):OpOK o S t:=by
 intro w0 G0 bx rv w T j e;have f:=(bH e h (by rw[d];simp[Op.operands])).isSc;have i:FT (en w G0 bx rv S.rs) [dm T (if x then a else b)] [t]:=bH e g (by rw[d];cases x<;>simp[Op.operands]);refine aB (v:=dm T (if x then a else b)) (W':=w) ?_ ⟨i,Below.refl _ _⟩;cases x<;>simp[execOp,d,f,asBool]
theorem g7{w0 w:World}{G0:Bse}{bs:List (TypeId×List Tree)}{rs:List (Option Row)}{bx:List Nat}{rv:List Value}{k:Nat}{R:Row}{v:Value}(c:Mem w0 G0 bs rs bx rv w)(b:rs[k]? =some (some R))(h:FT (en w G0 bx rv rs) [v] [.own k]):
  rv[k]? =some v/\∃xs,w.ownsRow 0 R.e R.sz v R.es.length xs/\PT w (GG G0 bx rv rs) xs (flat R.es)/\(Sized R.sz R.es/\(R.tt=true->ot v))/\∀g,v.ownBlock=some g->NoDigB w g:=by
 have a:fN rv rs k=some v:=h.isOwn.1;simp only[fN,b,PC,id]at a;exact⟨a,c.row k v R a b⟩
theorem bX{w:World}{base:Nat}{e:TypeId}{sz n:Nat}{v:Value}{xs:List Value}(h:w.ownsRow base e sz v n xs):∃A c,v=.slice A n c:=by
 rcases h.2 with⟨rfl,a⟩|⟨g,b,cur,rfl,_⟩
 ·exact⟨none,0,by rw[a]⟩
 exact⟨_,_,Z⟩
theorem aW{x:Operand}{t e:TypeId}{n:Nat}{es:List Tree}(a:o.op=.call {callee:=.builtin .len,args:=#[x],argTypes:=#[t]})(f:gS Tryz.prog t=some (e,n))(b:S.ev x=.sl es):OpOK o S (.sc (.int .i64 (es.length:Nat))):=by
 intro w0 G0 bx rv w T i h;obtain⟨A,c,d,_⟩:=(bH h b (by rw[a];simp[Op.operands,Call.operands])).isSl.slice;obtain⟨g,_⟩:=kf f;refine aB (v:=.int .i64 (es.length:Nat)) (W':=w) ?_ ⟨.pure (.sc _ .nil) .nil,Below.refl _ _⟩;simp[execOp,a,resolve,invoke,builtin,Builtin.len_,d,run_underlying g,goInt]
theorem sL{x:Operand}{t e:TypeId}{n k:Nat}{R:Row}(a:o.op=.call {callee:=.builtin .len,args:=#[x],argTypes:=#[t]})(f:gS Tryz.prog t=some (e,n))(b:S.ev x=.own k)(h:S.rs[k]? =some (some R)):OpOK o S (.sc (.int .i64 (R.es.length:Nat))):=by
 intro w0 G0 bx rv w T j i;obtain⟨_,xs,l,_⟩:=g7 j h (bH i b (by rw[a];simp[Op.operands,Call.operands]));obtain⟨A,c,d⟩:=bX l;obtain⟨g,_⟩:=kf f;refine aB (v:=.int .i64 (R.es.length:Nat)) (W':=w) ?_ ⟨.pure (.sc _ .nil) .nil,Below.refl _ _⟩;simp[execOp,a,resolve,invoke,builtin,Builtin.len_,d,run_underlying g,goInt]
theorem mV{w0 w:World}{G0:Bse}{bs:List (TypeId×List Tree)}{rs:List (Option Row)}{bx:List Nat}{rv:List Value}{b off:Nat}{ty:TypeId}{cs:List Tree}{v:Value}(k:Mem w0 G0 bs rs bx rv w)(e:bs[b]? =some (ty,cs))(h:FT (en w G0 bx rv rs) [v] [.box b off]):
  ∃g us,bx[b]? =some g/\v=.pointer (some ⟨g,off,none⟩)/\IsBlk w g ty us.toArray/\FT (en w G0 bx rv rs) us cs/\us.all bG=true:=by
 obtain⟨g,a,rfl⟩:=h.isBox;obtain⟨f,d,us,c,i,j,l⟩:=k.box b g a;rw[e]at c;cases c;exact⟨g,us,a,Z,i,j,l⟩
theorem aR{r:List Tree}{x:Operand}{t ty:TypeId}{b off n:Nat}{cs:List Tree}(e:o.op=.load t x)(m:S.ev x=.box b off)(l:S.bs[b]? =some (ty,cs))(q:rT Tryz.prog t=some n)(h:Nat.ble (off+n) cs.length=true)(c:(cs.drop off).take n=r):OpOK o S (.agg r):=by
 subst c;have h:off+n<=cs.length:=by simpa using h
 intro w0 G0 bx rv w T A u;obtain⟨g,us,_,p,z,f,_⟩:=mV A l (bH u m (by rw[e];simp[Op.operands]));obtain⟨d,s,y,k⟩:=xi q;have i:((us.drop off).take n).length=n:=by have:=f.length;rw[Ox,OP];omega
 have c:=run_loadAt_mid (P:=Tryz.prog) w g off t ((us.drop off).take n) d (fun j v a=>by
  rw[z.cell,PY];rw[Ph]at a;split at a
  ·rw[PB]at a;exact a
  cases a) s y (by rw[i];exact k)
 refine aB (v:=.agg ((us.drop off).take n).toArray) (W':=w) ?_ ⟨.agg _ _ ((f.drop off).take n) .nil,Below.refl _ _⟩;simp[execOp,e,p,c]
theorem ay{x:Operand}{t ty:TypeId}{b off:Nat}{cs:List Tree}{c:Tree}(a:o.op=.load t x)(e:S.ev x=.box b off)(d:S.bs[b]? =some (ty,cs))(i:ja Tryz.prog t=true)(q:cs[off]? =some c):OpOK o S c:=by
 intro w0 G0 bx rv w T n m;obtain⟨g,us,_,f,p,h,_⟩:=mV n d (bH m e (by rw[a];simp[Op.operands]));obtain⟨u,j,k⟩:=h.get off c q;have l:=jt (P:=Tryz.prog) (w:=w) (b:=g) (o:=off) (u:=u) i (by rw[p.cell,PY];exact j);refine aB (v:=u) (W':=w) ?_ ⟨k,Below.refl _ _⟩;simp[execOp,a,f,l]
theorem cT{r:List Tree}{x:Operand}{t:TypeId}{n:Nat}{cs:List Tree}(f:o.op=.load t x)(a:S.ev x=.ref cs)(l:rT Tryz.prog t=some n)(g:Nat.ble n cs.length=true)(e:cs.take n=r):OpOK o S (.agg r):=by
 subst e;have g:n<=cs.length:=by simpa using g
 intro w0 G0 bx rv w T u q;obtain⟨b,off,xs,k,_,_,p,a⟩:=(bH q a (by rw[f];simp[Op.operands])).isRef;obtain⟨d,m,s,i⟩:=xi l;have h:(xs.take n).length=n:=by have:=a.length;rw[Ox];omega
 have e:=run_loadAt_mid (P:=Tryz.prog) w b off t (xs.take n) d (fun j v c=>by
  rw[Ph]at c;split at c
  ·exact p j v c
  cases c) m s (by rw[h];exact i)
 refine aB (v:=.agg (xs.take n).toArray) (W':=w) ?_ ⟨.pure (.agg _ _ (a.take n) .nil) .nil,Below.refl _ _⟩;simp[execOp,f,k,e]
theorem be{x:Operand}{t:TypeId}{cs:List Tree}{c:Tree}(d:o.op=.load t x)(a:S.ev x=.ref cs)(f:ja Tryz.prog t=true)(l:cs[0]? =some c):OpOK o S c:=by
 intro w0 G0 bx rv w T m k;obtain⟨b,off,xs,e,_,_,j,a⟩:=(bH k a (by rw[d];simp[Op.operands])).isRef;obtain⟨u,g,h⟩:=a.get 0 c l;have i:=jt (P:=Tryz.prog) (w:=w) (b:=b) (o:=off) (u:=u) f (j 0 u g);refine aB (v:=u) (W':=w) ?_ ⟨.pure h .nil,Below.refl _ _⟩;simp[execOp,d,e,i]
theorem aq{r:Nat}{x:Operand}{s:TypeId}{j b off fo:Nat}(a:o.op=.fieldAddr s x j)(c:S.ev x=.box b off)(f:jm Tryz.prog s j=some fo)(e:off+fo=r):OpOK o S (.box b r):=by
 subst e;intro w0 G0 bx rv w T k h;obtain⟨g,d,i⟩:=(bH h c (by rw[a];simp[Op.operands])).isBox;refine aB (v:=.pointer (some ⟨g,off+fo,none⟩)) (W':=w) ?_ ⟨.box b _ g d .nil,Below.refl _ _⟩;simp[execOp,a,i,lJ f]
theorem bu{r:List Tree}{x:Operand}{s:TypeId}{j fo:Nat}{cs:List Tree}(c:o.op=.fieldAddr s x j)(a:S.ev x=.ref cs)(i:jm Tryz.prog s j=some fo)(h:cs.drop fo=r):OpOK o S (.ref r):=by
 subst h;intro w0 G0 bx rv w T m l;obtain⟨b,off,xs,g,f,e,k,a⟩:=(bH l a (by rw[c];simp[Op.operands])).isRef;refine aB (v:=.pointer (some ⟨b,off+fo,none⟩)) (W':=w) ?_ ⟨.pure (.ref b (off+fo) (xs.drop fo) _ f e (fun j u d=>?_) (a.drop fo) .nil) .nil,Below.refl _ _⟩
 ·simp[execOp,c,g,lJ i]
 rw[PB]at d;rw[P9];exact k _ u d
theorem xk{r:Nat}{x:Operand}{s:TypeId}{j k off fo:Nat}(a:o.op=.fieldAddr s x j)(b:S.ev x=.elp k off)(f:jm Tryz.prog s j=some fo)(e:off+fo=r):OpOK o S (.elp k r):=by
 subst e;intro w0 G0 bx rv w T l h;obtain⟨g,n,c,d,i⟩:=(bH h b (by rw[a];simp[Op.operands])).isElp;refine aB (v:=.pointer (some ⟨g,off+fo,none⟩)) (W':=w) ?_ ⟨.elp k _ g n c d .nil,Below.refl _ _⟩;simp[execOp,a,i,lJ f]
theorem aK{r:List Tree}(c:Tree){x B:Operand}{t e:TypeId}{n:Nat}{es:List Tree}{k:IntKind}{i:Int}{j:Nat}(l:o.op=.indexAddr t x B)(E:gS Tryz.prog t=some (e,n))(g:S.ev x=.sl es)(D:S.ev B=.sc (.int k i))(J:i=j)(C:es[j]? =some c)(q:Sized n es)(f:c.cells=r):OpOK o S (.ref r):=by
 subst f;intro w0 G0 bx rv w T N z;have L:=(bH z D (by rw[l];simp[Op.operands])).isSc;obtain⟨A,cp,I,_,_,_,M⟩:=(bH z g (by rw[l];simp[Op.operands])).isSl.slice;obtain⟨d,m⟩:=Ok.1 C;obtain⟨b,off,xs,rfl,G,K,p,g⟩:=M (by omega);subst J;have f:=lK (P:=Tryz.prog) (w:=w) (b:=b) (o:=off) (n:=es.length) (c:=cp) (k:=k) (i:=(j:Int)) E (by omega) (by omega);rw[QI]at f;have s:c.cells.length=n:=q c (Om C);have H:=q.flat;have h:(j+1)*n<=es.length*n:=OT _ d;rw[Pf,QF]at h;refine aB (v:=.pointer (some ⟨b,off+j*n,none⟩)) (W':=w) ?_ ⟨.pure (.ref b (off+j*n) ((xs.drop (j*n)).take n) _ G K (fun i u a=>?_) ?_ .nil) .nil,Below.refl _ _⟩
 ·simp[execOp,l,L,I,f]
 ·rw[Ph]at a;split at a
  ·rw[PB]at a;rw[P9];exact p _ u a
  cases a
 have y:=(g.drop (j*n)).take n;rw[<-kV q j]at y;have F:(flat (es.drop j)).take n=c.cells:=by
  rw[Ow d,m,eN,<-s,List.take_left]
 rwa[F]at y
theorem ef{x:Operand}{j:Nat}{ts:List Tree}{t:Tree}(a:o.op=.extract x j)(b:S.ev x=.tup ts)(f:ts[j]? =some t):OpOK o S t:=by
 intro w0 G0 bx rv w T i g;obtain⟨xs,c,h⟩:=(bH g b (by rw[a];simp[Op.operands])).isTup;obtain⟨u,d,e⟩:=h.get j t f;refine aB (v:=u) (W':=w) ?_ ⟨e,Below.refl _ _⟩;simp[execOp,a,c,Instr.extract,d]
end
theorem Dd{w:World}{B:Nat}{A:Option Addr}{l:List UInt8}(c:Nat)(h:At w B A (bL l)):(convert 22 9 (.slice A l.length c)).run Tryz.prog w=.ok (.string ⟨l.toArray⟩) w:=by
 cases A with
 |none=>
  have d:l=[]:=by
   cases l with
   |nil=>rfl
   |cons a l=>obtain⟨b,off,e,_⟩:=h (by simp[bL]);cases e
  subst d;exact Lib.run_convert_nil_bytes w _ _ 5 c Tryz.underlying22 Tryz.underlying5 Tryz.underlying9
 |some a=>
  refine run_convert_bytes_back w _ _ 5 a c l Tryz.underlying22 Tryz.underlying5 Tryz.underlying9 fun j g=>?_
  obtain⟨b,off,e,_,f⟩:=h (by rw[fw];omega);injection e with e
  subst e;have:=f j (.int .u8 l[j].toNat) (by simp[bL,Og g]);rwa[show(⟨b,off,none⟩:Addr).add j=⟨b,off+j,none⟩from by unfold Addr.add;split<;>simp_all]
section
variable {S:St} {o:Oper}
def Lx(S:St):Option Operand->Nat->Prop
 |none,l=>l=0
 |some x,l=>∃k,S.ev x=.sc (.int k l)
def Ly(S:St)(n:Nat):Option Operand->Nat->Prop
 |none,h=>h=n
 |some x,h=>∃k,S.ev x=.sc (.int k h)
theorem jM{P:Program}{w:World}{t e:TypeId}{m n c l h:Nat}{A:Option Addr}(q:gS P t=some (e,m))(lo f:Option Value)(g:(lo=none/\l=0)\/∃k,lo=some (.int k l))(b:(f=none/\h=n)\/∃k,f=some (.int k h))(o:l<=h)(s:h<=n)(r:n<=c):
  (Instr.sliceAt t (.slice A n c) lo f none).run P w=.ok (.slice (if c=l then A else A.map (·.add (l*m))) (h-l) (c-l)) w:=by
 obtain⟨d,i,a,rfl⟩:=kf q;have j:¬c<h:=by omega
 rcases g with⟨rfl,rfl⟩|⟨k,rfl⟩
 ·rcases b with⟨rfl,rfl⟩|⟨p,rfl⟩
  ·simp[Instr.sliceAt,Instr.slice,Instr.sliceBounds,run_underlying d,sizeOf,typeInfo,a]
  simp[Instr.sliceAt,Instr.slice,Instr.sliceBounds,Instr.sliceBound,asIntOf,run_underlying d,sizeOf,typeInfo,a,j]
 rcases b with⟨rfl,rfl⟩|⟨p,rfl⟩
 ·simp[Instr.sliceAt,Instr.slice,Instr.sliceBounds,Instr.sliceBound,asIntOf,run_underlying d,sizeOf,typeInfo,a,o]
 simp[Instr.sliceAt,Instr.slice,Instr.sliceBounds,Instr.sliceBound,asIntOf,run_underlying d,sizeOf,typeInfo,a,o,j]
theorem JD{W:World}{G:Nat->Prop}{b off c n m l h:Nat}{xs:List Value}{es:List Tree}(f:Sized m es)(i:b<W.heap.size)(g:¬G b)(o:∀(j:Nat) u,xs[j]? =some u->W.cell? ⟨b,off+j,none⟩=some u)(k:PT W G xs (flat es))(q:l<=h)(r:h<=es.length)(s:n=h-l)(d:n<=c)(p:c<=9223372036854775807):PT W G [.slice (some ⟨b,off+l*m,none⟩) n c] [.sl ((es.take h).drop l)]:=by
 have e:n=((es.take h).drop l).length:=by rw[OP,Ox];omega
 refine .sl b (off+l*m) c n ((xs.take (h*m)).drop (l*m)) _ i g (fun j u a=>?_) e (by rw[<-e];exact d) p ?_ .nil
 ·rw[PB,Ph]at a;split at a
  ·rw[P9];exact o _ u a
  cases a
 rw[kV (f.take h),nv f];exact(k.take _).drop _
theorem gh{x:Operand}{lo d:Option Operand}{t e:TypeId}{m l h:Nat}{es:List Tree}(n:o.op=.slice t x lo d none)(C:gS Tryz.prog t=some (e,m))(B:S.ev x=.sl es)(i:Lx S lo l)(f:Ly S es.length d h)(z:l<=h)(u:h<=es.length)(M:Sized m es):OpOK o S (.sl ((es.take h).drop l)):=by
 intro w0 G0 bx rv w T N q;obtain⟨A,c,D,E,O,I,K⟩:=(bH q B (by rw[n];simp[Op.operands])).isSl.slice;have j:(lo.map (dm T)=none/\l=0)\/∃k,lo.map (dm T)=some (.int k l):=by
  cases lo with
  |none=>exact .inl ⟨Z,i⟩
  |some y=>
   obtain⟨k,p⟩:=i;exact .inr ⟨k,by rw[PG,(bH q p (by rw[n];simp[Op.operands])).isSc]⟩
 have g:(d.map (dm T)=none/\h=es.length)\/∃k,d.map (dm T)=some (.int k h):=by
  cases d with
  |none=>exact .inl ⟨Z,f⟩
  |some y=>
   obtain⟨k,p⟩:=f;exact .inr ⟨k,by rw[PG,(bH q p (by rw[n];simp[Op.operands])).isSc]⟩
 have H:=jM (P:=Tryz.prog) (w:=w) (A:=A) C (lo.map (dm T)) (d.map (dm T)) j g z u E;refine aB (v:=.slice (if c=l then A else A.map (·.add (l*m))) (h-l) (c-l)) (W':=w) (by simp[execOp,n,D,H]) ⟨.pure ?_ .nil,Below.refl _ _⟩;by_cases L:h-l=0
 ·have G:(es.take h).drop l=[]:=OB (by rw[OP,Ox];omega);rw[G,L];refine .sl0 _ _ (fun e=>?_) (by omega) .nil;split at e
  ·omega
  cases A with
  |none=>have:=I Z;omega
  |some a=>simp at e
 obtain⟨b,off,xs,rfl,F,J,r,s⟩:=K (by omega);rw[if_neg (by omega),PG,Addr.add_mid];exact JD M F J r s z u Z (by omega) (by omega)
def oV(place:Nat->Option (Nat×Nat)):List Tree->List (Nat×Tree)->Option (List Tree)
 |cells,[]=>some cells
 |cells,(i,t)::rest=>
  match place i with
  |none=>none
  |some (off,size)=>if t.cells.length≠size\/off+t.cells.length>cells.length then none else oV place (cells.take off++t.cells++cells.drop (off+t.cells.length)) rest
theorem vq:∀(vs:List Value) (k off:Nat) (cells:Array Value),off+k+vs.length<=cells.size->(vs.zipIdx k).foldl (fun cs (c,j)=>cs.setIfInBounds (off+j) c) cells=(cells.toList.take (off+k)++vs++cells.toList.drop (off+k+vs.length)).toArray
 |[],k,off,cells,h=>by simp
 |v::vs,k,off,cells,h=>by
  simp only[Oi]at h;rw[List.zipIdx_cons,Qk,vq vs (k+1) off _ (by simp;omega)];simp only[P8,Oi];congr 1;rw[<-P9,SE (by omega),RW,OM (by simp;omega)];have e:(List.take (off+k) cells.toList).length=off+k:=by rw[Ox];simp;omega
  rw[P5 _ _ (by omega),e];simp[P9,P0 1]
theorem qE{v:Value}(h:v.oneCell'=true):v.cells=#[v]:=by cases v<;>simp_all [Value.cells,Value.oneCell']
theorem Bj{t:Tree}(h:t.one=true):t.cells=[t]:=by cases t<;>simp_all [Tree.cells,Tree.one]
def Tree.oneA:Tree->Bool
 | .agg _=>true
 |t=>t.one
theorem oW{E:En}{v:Value}{t:Tree}(h:FT E [v] [t])(d:t.oneA=true):FT E v.cells.toList t.cells:=by
 by_cases c:∃cs,t=.agg cs
 ·obtain⟨cs,rfl⟩:=c;obtain⟨xs,rfl,b⟩:=h.isAgg;exact b
 have a:t.one=true:=by
  cases t<;>simp_all [Tree.oneA]
 rw[qE (h.one a),Bj a];exact h
theorem r8{E:En}{place:Nat->Option (Nat×Nat)}:∀{ps:List (Nat×Value)} {qs:List (Nat×Tree)} {cells:Array Value} {ts rs:List Tree},ps.map (·.1)=qs.map (·.1)->FT E (ps.map (·.2)) (qs.map (·.2))->(qs.all fun q=>q.2.oneA)=true->FT E cells.toList ts->oV place ts qs=some rs->∃us,Instr.fill place cells ps=some us/\FT E us.toList rs
 |[],[],cells,ts,rs,_,_,_,h,hr=>by
  simp only[oV,OI]at hr;subst hr;exact⟨cells,Z,h⟩
 |[],_::_,_,_,_,a,_,_,_,_=>by simp at a
 |_::_,[],_,_,_,a,_,_,_,_=>by simp at a
 |(i,v)::ps,(j,t)::qs,cells,ts,rs,a,hf,hp,h,hr=>by
  simp only[Pt,Q8]at a hf;obtain⟨rfl,a⟩:=a;simp only[PS,Oo]at hp;have l:=oW hf.head hp.1;have d:=l.length;have m:=h.length;simp only[oV]at hr;cases b:place i with
  |none=>simp[b]at hr
  |some p=>
   obtain⟨off,size⟩:=p;simp only[b]at hr;split at hr
   ·cases hr
   next hc=>
   have k:v.cells.size=t.cells.length:=by simpa using d
   have f:cells.size=ts.length:=by simpa using m
   have n:¬(v.cells.size≠size||decide (off+v.cells.size>cells.size))=true:=by
    simp only[Px,decide_eq_true_eq,not_or];rw[k,f];constructor<;>omega
   have e:=vq v.cells.toList 0 off cells (by simp;omega);simp only[Instr.fill,b];rw[if_neg n];have o:v.cells.zipIdx.foldl (fun cs (x:Value×Nat)=>cs.setIfInBounds (off+x.2) x.1) cells=(cells.toList.take off++v.cells.toList++cells.toList.drop (off+v.cells.toList.length)).toArray:=by
    rw[<-Array.foldl_toList,Array.toList_zipIdx];exact e
   have g:(v.cells.zipIdx.foldl (fun cs (x:Value×Nat)=>match x with|(c,j)=>cs.setIfInBounds (off+j) c) cells)=(cells.toList.take off++v.cells.toList++cells.toList.drop (off+v.cells.toList.length)).toArray:=o;rw[g];refine r8 a hf.tail hp.2 ?_ hr;rw[d];exact((h.take off).append l).append (h.drop _)
end
def Ct(f:FuncId)(args:List Tree)(r:Tree):Prop:=(∃fn,Tryz.prog.funcs[f]? =some fn/\(fn.name== "runtime.NumGoroutine")=false/\fn.body.isNone=false)/\∀(G:Nat->Prop) (w:World) (vs:List Value),Env w->(∀g,G g->g<w.heap.size/\NoDigB w g)->PT w G vs args->
 Calls Tryz.prog f vs.toArray w fun e w'=>∃v,e=.returned v/\PT w' G [v] [r]/\Below w.heap.size w w'
def dN:Value->Tree
 | .slice none 0 0=>.sl []
 |v=>.sc v
theorem oX(W:World)(G:Nat->Prop):∀a:List Value,PT W G a (a.map dN)
 |[]=>.nil
 |z::a=>by
  rw[Pt];refine PT.cons ?_ (oX W G a);unfold dN;split
  ·exact bQ W G
  exact .sc _ .nil
def sM(P:Program)(t:TypeId):Option (List (Nat×Nat)×List Value):=
 match P.underlying t,P.info? t with
 |some (.struct fs),some i=>i.zero.bind fun z=>(fs.toList.mapM fun f=>(P.info? f.type).map fun i=>(f.offset,i.size)).map fun pl=>(pl,z.cells.toList)
 |_,_=>none
def gJ(P:Program)(e:TypeId):Option (List Value):=(P.info? e).bind fun i=>i.zero.map fun z=>z.cells.toList
theorem ou{P:Program}{w:World}:∀{l:List Field} {a:List (Nat×Nat)},(l.mapM fun f=>(P.info? f.type).map fun i=>(f.offset,i.size))=some a->(l.mapM (m:=Sem) fun f=>do pure (f.offset,<-sizeOf f.type)).run P w=.ok a w
 |[],a,h=>by
  simp at h;subst h;rfl
 |f::l,a,h=>by
  simp only[Sr,Option.bind_eq_bind,QJ,Ps,Option.pure_def,OI]at h;obtain⟨_,⟨i,b,rfl⟩,ps,c,rfl⟩:=h;simp[Sr,sizeOf,typeInfo,b];have:=ou (P:=P) (w:=w) c;simp[sizeOf,typeInfo]at this;simp[this]
section
variable {S:St} {o:Oper}
theorem oY{E:En}{T:Nat->Value}{op:Op}(a:∀s,(eG op).contains s=true->FT E [T s] [S.get s]):∀(ps:List (Nat×Operand)),(∀p∈ps,p.2∈op.operands.toList)->FT E ((ps.map fun p=>(p.1,dm T p.2)).map (·.2)) ((ps.map fun p=>(p.1,S.ev p.2)).map (·.2))
 |[],_=>.nil
 |p::ps,h=>FT.cons (F9 a (h p (OR ..))) (oY a ps fun q b=>h q (OX _ b))
theorem gi{t:TypeId}{parts:Array (Nat×Operand)}{r:List (Nat×Nat)}{s:List Value}{qs:List (Nat×Tree)}{rs:List Tree}(n:o.op=.build t parts)(b:sM Tryz.prog t=some (r,s))(y:parts.toList.map (fun p=>(p.1,S.ev p.2))=qs)(c:(qs.all fun q=>q.2.oneA)=true)(C:oV (r[·]?) (s.map dN) qs=some rs):OpOK o S (.agg rs):=by
 intro w0 G0 bx rv w T G A;have u:=oY (S:=S) A parts.toList (fun p D=>by rw[n];simp only[Op.operands,PX];exact⟨p,D,Z⟩);unfold sM at b;split at b
 ·next fs i hu hi=>
  cases k:i.zero with
  |none=>simp[k]at b
  |some z=>
   simp only[k,PC,Ps,Qy]at b;obtain⟨a,e,rfl,rfl⟩:=b;have l:=ou (w:=w) e;rw[y]at u;obtain⟨us,F,B⟩:=r8 (E:=en w G0 bx rv S.rs) (place:=(a[·]?)) (ps:=parts.toList.map fun p=>(p.1,dm T p.2)) (qs:=qs) (cells:=z.cells) (ts:=z.cells.toList.map dN) (by rw[<-y];simp) u c (.of (oX _ _ _)) C;refine aB (v:=.agg us) (W':=w) ?_ ⟨?_,Below.refl _ _⟩
   ·have g:(fs.mapM (m:=Sem) fun f=>do pure (f.offset,<-sizeOf f.type)).run Tryz.prog w=.ok a.toArray w:=by
     rw[P2,Sem.run_map,l];rfl
    have h:Instr.fill (fun x=>a.toArray[x]?) z.cells (parts.map fun p=>(p.1,dm T p.2)).toList=some us:=by
     rw[<-F];simp
    have j:(zeroValue t).run Tryz.prog w=.ok z w:=by simp[zeroValue,typeInfo,hi,k]
    have d:(Instr.build t (parts.map fun p=>(p.1,dm T p.2))).run Tryz.prog w=.ok (.agg us) w:=by
     unfold Instr.build;rw[Sem.run_bind,j,Result.andThen_ok,Sem.run_bind,run_underlying hu,Result.andThen_ok];simp only;rw[Sem.run_bind,g,Result.andThen_ok];simp only[h];rfl
    simp[execOp,n,d]
   have:FT (en w G0 bx rv S.rs) [.agg us.toList.toArray] [.agg rs]:=.agg _ _ B .nil;simpa using this
 cases b
theorem Bk{w0 w:World}{G0:Bse}{bs:List (TypeId×List Tree)}{rs:List (Option Row)}{bx:List Nat}{rv:List Value}(a:Mem w0 G0 bs rs bx rv w)(b:Nat)(c:w.heap.size<=b):¬GG G0 bx rv rs b:=fun h=>by
 have:=(a.ok b h).1;omega
theorem aN{t e:TypeId}{len m:Nat}{parts:Array (Nat×Operand)}{s:List Value}{qs:List (Nat×Tree)}{es:List Tree}(G:o.op=.buildSlice t len parts)(M:gS Tryz.prog t=some (e,m))(f:gJ Tryz.prog e=some s)(C:s.length=m)(h0:0<len*m)(V:len*m<=16777216)
  (K:parts.toList.map (fun p=>(p.1,S.ev p.2))=qs) (c:(qs.all fun q=>q.2.oneA)=true) (k:(flat es).all Tree.plain0=true) (R:oV (fun i=>some (i*m,m)) (((List.range (len*m)).map fun i=>s[i%m]!).map dN) qs=some (flat es)) (L:es.length=len):OpOK o S (.sl es):=by
 intro w0 G0 bx rv w T U P;have H:=oY (S:=S) P parts.toList (fun p W=>by rw[G];simp only[Op.operands,PX];exact⟨p,W,Z⟩);obtain⟨y,i,l,rfl⟩:=kf M;unfold gJ at f;simp only[l,PC,Ps]at f;obtain⟨z,f,rfl⟩:=f;rw[K]at H;have D:z.cells.size=i.size:=by simpa using C
 have b:((Array.range (len*i.size)).map fun x=>z.cells[x%z.cells.size]!).toList=(List.range (len*i.size)).map fun x=>z.cells.toList[x%i.size]! :=by
  rw[D];simp only[R9,Array.toList_range];refine QK fun a _=>?_
  rw[Si,O7,List.getElem!_eq_getElem?_getD,PJ]
 obtain⟨us,X,I⟩:=r8 (E:=en w G0 bx rv S.rs) (place:=fun x=>some (x*i.size,i.size)) (ps:=parts.toList.map fun p=>(p.1,dm T p.2)) (qs:=qs) (cells:=(Array.range (len*i.size)).map fun x=>z.cells[x%z.cells.size]!) (ts:=((List.range (len*i.size)).map fun x=>z.cells.toList[x%i.size]!).map dN) (by rw[<-K];simp) H c (.of (by rw[b];exact oX _ _ _)) R;have d:(Instr.buildSlice t len (parts.map fun p=>(p.1,dm T p.2))).run Tryz.prog w=.ok (.slice (some ⟨w.heap.size,0,none⟩) len len) (w.alloc (.cells us e)):=by
  have r:(zeroValue e).run Tryz.prog w=.ok z w:=by simp[zeroValue,typeInfo,l,f]
  have A:(sizeOf e).run Tryz.prog w=.ok i.size w:=by simp[sizeOf,typeInfo,l]
  have n:Instr.fill (fun x=>some (x*i.size,i.size)) ((Array.range (len*i.size)).map fun x=>z.cells[x%z.cells.size]!) (parts.map fun p=>(p.1,dm T p.2)).toList=some us:=by
   rw[<-X];simp
  have N:¬2^24<len*i.size:=by omega
  have O:¬len*i.size=0:=by omega
  simp only[Instr.buildSlice,Sem.run_bind,run_underlying y,Result.andThen_ok,A,gt_iff_lt,if_neg N,if_neg O,r,Sem.run_pure,n,newRow,newObj];rfl
 have J:us.size=(flat es).length:=by have:=I.length;simpa using this
 have F:=g6 w e us;have B:len<=9223372036854775807:=by
  have Q:0<i.size:=Pc fun h=>by rw[h]at h0;omega
  have:=Se len Q;omega
 have g:Below w.heap.size w (w.alloc (.cells us e)):=(Below.refl _ _).alloc (Oh _) _;refine aB (v:=.slice (some ⟨w.heap.size,0,none⟩) len len) (W':=w.alloc (.cells us e)) (by simp[execOp,G,d]) ⟨.pure (.sl w.heap.size 0 len len us.toList es (by simp[en]) (Bk U _ (Oh _)) (fun j u y=>?_) L.symm (by omega) B ?_ .nil) .nil,g⟩
 ·rw[Pk];show(w.alloc (.cells us e)).cell? _=_
  rw[F.cell];simpa using y
 have Y:PT w (GG G0 bx rv S.rs) us.toList (flat es):=I.plain0s k;exact Y.later g
theorem kg{E:En}{T:Nat->Value}{op:Op}(a:∀s,(eG op).contains s=true->FT E [T s] [S.get s]):∀(xs:List Operand),(∀x∈xs,x∈op.operands.toList)->FT E (xs.map (dm T)) (xs.map S.ev)
 |[],_=>.nil
 |x::xs,h=>FT.cons (F9 a (h x (OR ..))) (kg a xs fun q b=>h q (OX _ b))
theorem ak{f:FuncId}{xs:Array Operand}{c:Array TypeId}{ts:List Tree}{r:Tree}(d:o.op=.call {callee:=.value (.func f),args:=xs,argTypes:=c})(b:Ct f ts r)(l:xs.toList.map S.ev=ts)(y:ts.all Tree.plain=true):OpOK o S r:=by
 intro w0 G0 bx rv w T h s;have g:=kg (S:=S) s xs.toList (fun x k=>by rw[d];simp only[Op.operands,Call.operands];simp;exact .inr (by simpa using k));rw[l]at g;obtain⟨⟨j,z,t,i⟩,b⟩:=b;have a:=b (GG G0 bx rv S.rs) w _ h.env h.ok (g.plains y);refine cP (f:=f) (args:=(xs.toList.map (dm T)).toArray) ?_ (a.mono ?_)
 ·have m:¬j.name= "runtime.NumGoroutine" :=by simpa using t
  have p:¬j.body=none:=fun e=>by rw[e]at i;cases i
  have u:(xs.toList.map (dm T)).toArray=xs.map (dm T):=Q6 (by simp);rw[u];simp[execOp,d,resolve,dm,Deferred.ofValue,invoke,callFunc,z,m,p]
 rintro e w' ⟨v,rfl,q,n⟩;exact⟨v,Z,.pure q .nil,n⟩
def am(l:List UInt8):List Tree:=l.map fun c=>.sc (.int .u8 c.toNat)
theorem jN:∀l,flat (am l)=am l
 |[]=>rfl
 |c::l=>by
  have:=jN l;simp only[am,Pt,eN,Tree.cells]at this⊢;rw[this];rfl
theorem aV(l:List UInt8):Sized 1 (am l):=Sized.map _ l fun _=>rfl
theorem aC(l:List UInt8):(am l).length=l.length:=by simp[am]
theorem ro{W:World}{G:Nat->Prop}:∀{l:List UInt8} {xs:List Value},PT W G xs (am l)->xs=bL l
 |[],xs,h=>by cases h;rfl
 |_::l,xs,h=>by
  cases h with
  |sc v h=>rw[ro h];rfl
theorem Lb{W:World}{G:Nat->Prop}{v:Value}{l:List UInt8}(h:PT W G [v] [.sl (am l)]):∃A c,v=.slice A l.length c/\At W W.heap.size A (bL l)/\(A=none->l.length=0/\c=0)/\l.length<=c/\c<=9223372036854775807:=by
 obtain⟨A,c,g,i,n,o,d⟩:=h.slice;rw[aC]at g i d;refine⟨A,c,g,fun m=>?_,fun e=>⟨?_,o e⟩,i,n⟩
 ·obtain⟨b,off,xs,rfl,k,_,p,f⟩:=d (by simpa[bL]using m);rw[jN]at f;rw[<-ro f];exact⟨b,off,Z,k,p⟩
 rcases Pg l.length with a|a
 ·exact a
 obtain⟨b,off,xs,j,_⟩:=d a;rw[e]at j;cases j
end
def Tree.noDig:Tree->Bool
 | .sc v=>bG v
 | .sl _| .tl _| .ref _| .box _ _| .own _| .elp _ _=>true
 |_=>false
theorem FT.noDig{E:En}{v:Value}{t:Tree}(h:FT E [v] [t])(a:t.noDig=true):bG v=true:=by
 cases h with
 |pure h _=>
  cases h with
  |sc=>exact a
  |sl0=>rfl
  |sl=>rfl
  |tl=>rfl
  |agg=>simp[Tree.noDig]at a
  |tup=>simp[Tree.noDig]at a
  |ref=>rfl
 |any=>simp[Tree.noDig]at a
 |box=>rfl
 |own=>rfl
 |elp=>rfl
 |agg=>simp[Tree.noDig]at a
 |tup=>simp[Tree.noDig]at a
theorem FT.noDigs{E:En}:∀{us:List Value} {ts:List Tree},FT E us ts->ts.all Tree.noDig=true->us.all bG=true
 |[],[],_,_=>rfl
 |[],_::_,h,_=>by cases h
 |_::_,[],h,_=>by cases h
 |x::us,t::ts,h,hp=>by
  simp only[PS,Oo]at hp⊢;exact⟨h.head.noDig hp.1,FT.noDigs h.tail hp.2⟩
section
variable {w0 w w':World} {G0:Bse} {bs:List (TypeId×List Tree)} {rs:List (Option Row)} {bx:List Nat} {rv:List Value}
theorem ig(g:Nat):∀b,b∈cl (bx++[g]) rv rs↔b∈cl bx rv rs\/b=g:=fun b=>by
 simp only[cl,OZ,OG];constructor
 ·rintro((h|h)|h)
  ·exact .inl (.inl h)
  ·exact .inr h
  exact .inl (.inr h)
 rintro((h|h)|h)
 ·exact .inl (.inl h)
 ·exact .inr h
 exact .inl (.inr h)
theorem Apart.addBox(g:Nat)(h:Apart bx rv rs)(d:g∉cl bx rv rs):Apart (bx++[g]) rv rs:=by
 refine⟨?_,fun k v R b i l j n=>?_,h.rr⟩
 ·rw[List.nodup_append];exact⟨h.bb,by simp,fun a m b f e=>by
   rw[OG]at f;subst f e;exact d (aY.2 (.inl m))⟩
 rcases OZ.1 n with c|c
 ·exact h.br k v R b i l j c
 rw[OG]at c;subst c;exact d (aY.2 (.inr ⟨k,v,R,i,l,j⟩))
theorem kW(j:Obj){us:List Value}{ts:List Tree}(k:FT (en w G0 bx rv rs) us ts):FT (en (w.alloc j) G0 (bx++[w.heap.size]) rv rs) us ts:=by
 refine k.mono (by simp[en]) (fun b e d=>⟨Below.heap_alloc w j b e,?_⟩) (fun i g a=>?_) (fun _ _ h=>h)
 ·rintro(c|c)
  ·exact d (.inl c)
  rcases(ig (rv:=rv) (rs:=rs) _ b).1 c with f|f
  ·exact d (.inr f)
  simp only[en]at e;omega
 show(bx++[w.heap.size])[i]? =some g
 have a:bx[i]? =some g:=a;rw[OJ (Ok.1 a).1];exact a
theorem El(e:Obj){us:List Value}{ts:List Tree}(g:PT w (GG G0 bx rv rs) us ts):PT (w.alloc e) (GG G0 (bx++[w.heap.size]) rv rs) us ts:=by
 refine g.mono (by simp) (fun b f c=>⟨Below.heap_alloc w e b f,?_⟩);rintro(a|a)
 ·exact c (.inl a)
 rcases(ig (rv:=rv) (rs:=rs) _ b).1 a with d|d
 ·exact c (.inr d)
 omega
theorem Mem.addBox(h:Mem w0 G0 bs rs bx rv w){us:List Value}{cs:List Tree}{ty:TypeId}(s:FT (en w G0 bx rv rs) us cs)(x:us.all bG=true):
  Mem w0 G0 (bs++[(ty,cs)]) rs (bx++[w.heap.size]) rv (w.alloc (.cells us.toArray ty)):=by
 have a:Below w.heap.size w (w.alloc (.cells us.toArray ty)):=(Below.refl _ _).alloc (Oh _) _;refine⟨h.below.then a,h.env0,h.g0,by simp[h.nb],h.nr,fun i g c=>?_,fun k v R t u=>?_,h.nodup.addBox _ fun y=>?_,fun b r=>?_,fun i c=>by have:=h.pin i c;rw[OJ (Ok.1 this).1];exact this⟩
 ·by_cases e:i<bx.length
  ·rw[OJ e]at c;obtain⟨m,l,p,d,j,o,n⟩:=h.box i g c;exact⟨m,l,p,by rw[OJ (by rw[<-h.nb];exact e)];exact d,j.below a j.lt,kW _ o,n⟩
  have f:=(Ok.1 c).1;simp only[Oj,PO]at f;obtain rfl:i=bx.length:=by omega
  rw[ON (Oh _),Pb]at c;simp only[Pa,OI]at c;subst c;exact⟨ty,cs,us,by rw[h.nb,ON (Oh _),Pb];rfl,g6 _ _ _,kW _ s,x⟩
 ·obtain⟨xs,d,j,o,n⟩:=h.row k v R t u;exact⟨xs,d6 d a,El _ j,o,fun g q=>(n g q).of (a.block g (d.lt g q).2)⟩
 ·have:=(h.ok _ (.inr y)).1;omega
 rcases(ig (rv:=rv) (rs:=rs) _ b).1 r with d|d
 ·exact h.ge b d
 have:=h.below.size;exact .inl (by omega)
theorem oZ{g:Nat}(d:g∈cl bx rv rs)(c:w.grownBy w' (some g)){us:List Value}{ts:List Tree}(i:FT (en w G0 bx rv rs) us ts):FT (en w' G0 bx rv rs) us ts:=
 i.mono c.size (fun b f a=>⟨c.block b f fun e=>a (by injection e with e;subst e;exact .inr d),a⟩) (fun _ _ h=>h) (fun _ _ h=>h)
theorem o0{g:Nat}(d:g∈cl bx rv rs)(c:w.grownBy w' (some g)){us:List Value}{ts:List Tree}(h:PT w (GG G0 bx rv rs) us ts):PT w' (GG G0 bx rv rs) us ts:=
 h.mono c.size (fun b f a=>⟨c.block b f fun e=>a (by injection e with e;subst e;exact .inr d),a⟩)
theorem Mem.setBox(h:Mem w0 G0 bs rs bx rv w){b g:Nat}{ty:TypeId}{us:List Value}{cs:List Tree}(m:bx[b]? =some g)(l:w.grownBy w' (some g))(A:IsBlk w' g ty us.toArray)(I:FT (en w' G0 bx rv rs) us cs)(J:us.all bG=true):Mem w0 G0 (bs.set b (ty,cs)) rs bx rv w':=by
 have d:g∈cl bx rv rs:=aY.2 (.inl (Om m));have x:=(Ok.1 m).1;refine⟨h.below.grown l (fun k e=>by injection e with e;subst e;exact h.ge _ d),h.env0,h.g0,by simp[h.nb],h.nr,fun i j p=>?_,fun k v R H D=>?_,h.nodup,h.ge,h.pin⟩
 ·by_cases c:i=b
  ·subst c;rw[m]at p;cases p;exact⟨ty,cs,us,by rw[PA (by rw[<-h.nb];exact x)],A,I,J⟩
  obtain⟨u,s,B,r,q,z,t⟩:=h.box i j p;have a:j≠g:=fun e=>by
   subst e;have y:=h.nodup.bb;obtain⟨G,E⟩:=Ok.1 p;obtain⟨C,F⟩:=Ok.1 m;have n:=R5.1 y;rcases Rf i b with o|o|o
   ·exact n i b G C o (E.trans F.symm)
   ·exact c o
   exact n b i C G o (F.trans E.symm)
  exact⟨u,s,B,by rw[Pp (fun e=>c e.symm)];exact r,(l.block j q.lt fun e=>a (by injection e)).trans q,oZ d l z,t⟩
 obtain⟨xs,r,q,z,t⟩:=h.row k v R H D;have a:v.ownBlock≠some g:=fun e=>h.nodup.br k v R g H D e (Om m)
 refine⟨xs,r.kept l (.inr a),o0 d l q,z,fun j f=>(t j f).of (l.block j (r.lt j f).2 fun e=>a (by rw[f];injection e with e;rw[e]))⟩
end
def lL(w0:World)(G0:Bse)(o:Oper)(S S':St):Prop:=∀a w,Sim w0 G0 S a w->OpRuns Tryz.prog o (fun s=>a.tmps.getD s undef) w fun v w'=>Sim w0 G0 S' (a.put o.dst v) w'
section
variable {w0:World} {G0:Bse} {ops:Array Oper} {rest:List Oper} {Q:Exit->St->Prop} {S S':St} {o:Oper}
theorem dF(c:o.guard=none)(h:lL w0 G0 o S S')(k:AOps w0 G0 ops rest Q S'):AOps w0 G0 ops (o::rest) Q S:=by
 intro a w e;refine eL (by simp[Region.wanted,c]) fun K b=>?_
 refine Oper.wp_mono ?_ ((h a w e).wp (Q:=Bi w0 G0 Q));rintro f w' ⟨v,rfl,d⟩;exact b _ _ (k _ _ d)
theorem Lz{ty:TypeId}{x:Operand}{t:Tree}(g:o.op=.box ty x)(p:cC S.n o.dst=true)(l:S.ev x=t)(k:t.oneA=true)(q:t.cells.all Tree.noDig=true):lL w0 G0 o S ({S with bs:=S.bs++[(ty,t.cells)]}.put o.dst (.box S.bs.length 0)):=by
 rintro a w ⟨bx,rv,j,d,f,c⟩;have m:=bH (op:=o.op) (T:=fun s=>a.tmps.getD s undef) (S:=S) (fun s _=>c s) l (by rw[g];simp[Op.operands]);have h:=oW m k;have e:=j.addBox (ty:=ty) h (h.noDigs q);refine aB (v:=.pointer (some ⟨w.heap.size,0,none⟩)) (W':=w.alloc (.cells (dm (fun s=>a.tmps.getD s undef) x).cells ty)) ?_ ⟨bx++[w.heap.size],rv,?_,by rw[dW,ee,d],by rw[cU,f],?_⟩
 ·simp[execOp,g,Instr.box,newVar,newRow,newObj,Sem.run]
 ·rw[dE,bZ];simpa using e
 rw[bZ];have b:∀i,FT (en (w.alloc (.cells (dm (fun s=>a.tmps.getD s undef) x).cells ty)) G0 (bx++[w.heap.size]) rv S.rs) [a.tmps.getD i undef] [S.get i]:=fun i=>kW _ (c i)
 intro i;rw[gf a o.dst _ S.n d p,cV];split
 ·exact .box _ _ _ (by show(bx++[w.heap.size])[S.bs.length]? =_;rw[<-j.nb];simp) .nil
 exact b i
end
end Go.Proofs.YtfoejfohbkmmeaaGreatDoor
