import Derived.Test.YtmhcanmapkenbaaGreatDoorA16
set_option linter.defProp false
open Go.Proofs.Tryz
namespace Go.Proofs.YtmhcanmapkenbaaGreatDoor
def Tok.tree(t:Tok):Tree:=.agg [.sc (.int .i64 ((t.k:Nat):Int)),.sc (.string t.x)]
def gi(l:List Tok):Sized 2 (l.map Tok.tree):=Sized.map _ l λ_=>rfl
def dT(s:ByteArray):s.size=s.data.toList.length:=RE.symm
def bj(s:ByteArray)(i:Nat):UInt8:=(s.data.toList[i]?).getD 0
def bB{s:ByteArray}{i:Nat}(h:i<s.size):s.data.toList[i]? =some (bj s i):=by
 rw[dT]at h;unfold bj;rw[Qj h];rfl
def cW{s:ByteArray}{i:Nat}(h:i<s.size):s.data.toList.drop i=bj s i::s.data.toList.drop (i+1):=oB (bB h)
def jc{k:IntKind}{a b:Nat}(h:a=b):(Tree.sc (.int k ((a:Nat):Int)))=.sc (.int k ((b:Nat):Int)):=by rw[h]
def PN(c:UInt8):(Tree.sc (.bool (((decide (65<=c.toNat))&&(decide (c.toNat<=90)))||((decide (97<=c.toNat))&&(decide (c.toNat<=122))))))=bT (cO c):=by unfold cO;rw[TR]
def j8(k:Nat)(c:UInt8)(r:List UInt8):iq k (c::r)=if c.toNat<32\/126<c.toNat then 0 else if c.toNat≠39 then iq (k+1) r else match r with
  |d::r'=>if d.toNat=39 then iq (k+2) r' else k+1
  |[]=>k+1:=by rw[iq.eq_def];rfl
def qz{p:UInt8->Bool}{l:List UInt8}{n T:Nat}{c:UInt8}(h:T=n+((l.drop n).takeWhile p).length)(a:l[n]? =some c)(b:p c=true):T=n+1+((l.drop (n+1)).takeWhile p).length:=by
 rw[oB a,SG,b]at h;simp only[if_true,Qn]at h;omega
def vR{p:UInt8->Bool}{l:List UInt8}{n T:Nat}(h:T=n+((l.drop n).takeWhile p).length)(b:∀c,l[n]? =some c->p c=false):n=T:=by
 cases hd:l.drop n with
 |nil=>rw[hd]at h;simp at h;omega
 |cons c r=>
  have a:l[n]? =some c:=by
   have:=congrArg List.head? hd;rwa[List.head?_drop]at this
  rw[hd,SG,b c a]at h;simp at h;omega
def jd{s:ByteArray}{n:Nat}{b:Bool}(h:(decide (n<s.size)&&b)=true):n<s.size/\b=true:=by
 rw[Qh]at h;exact⟨of_decide_eq_true h.1,h.2⟩
def oC{s:ByteArray}{n:Nat}{p:UInt8->Bool}(h:(decide (n<s.size)&&p (bj s n))=false):∀c,s.data.toList[n]? =some c->p c=false:=λc a=>by
 have b:n<s.size:=by rw[dT];exact(Qm.1 a).1
 rw[bB b]at a;cases a;rw[decide_eq_true b,Ri]at h;exact h
def lE(s:ByteArray)(n:Nat):(s.extract n s.size).data.toList=s.data.toList.drop n:=by
 rw[SV,Sl,List.extract_eq_take_drop,dT];exact QU F
def iG(s:ByteArray)(i n:Nat)(h:i+n<=s.size):s.extract i (i+n)=⟨((s.data.toList.drop i).take n).toArray⟩:=by
 apply SD;apply Rb;rw[SV,Sl,List.extract_eq_take_drop];simp
def px(s:ByteArray)(n:Nat):(s.extract n s.size).size=s.size-n:=by rw[dT,lE,QZ,<-dT]
def mr{s:ByteArray}{n d:Nat}(h:cV (s.data.toList.drop n)=d)(c:n<=s.size):n+d<=s.size:=by
 have a:(s.data.toList.drop n).length=s.size-n:=by rw[QZ,<-dT]
 have b:cV (s.data.toList.drop n)<=(s.data.toList.drop n).length:=(Ty _).length_le;omega
def B9{s:ByteArray}{n d e:Nat}(i:0<s.size)(k:(if(bj s 0).toNat=45 then 1 else 0)=n)(hd:cV (s.data.toList.drop n)=d)(j:cV (s.data.toList.drop (n+d+1))=e):
  pw s.data.toList=if d=0 then 0 else if(decide (n+d<s.size)&&(decide ((bj s (n+d)).toNat=47)||decide ((bj s (n+d)).toNat=46)))=true then(if 0<e then n+d+(1+e)else n+d)else n+d:=by
 have hl:s.data.toList=bj s 0::s.data.toList.drop 1:=cW i;have key:∀l:List UInt8,l=bj s 0::s.data.toList.drop 1->pw l=if cV (l.drop n)=0 then 0 else match l.drop (n+cV (l.drop n))with
   |c::r=>if(decide (c.toNat=47)||decide (c.toNat=46))&&decide (0<cV r)then n+cV (l.drop n)+(1+cV r)else n+cV (l.drop n)
   |[]=>n+cV (l.drop n):=λl h=>by
  rw[h,<-k];rfl
 rw[key _ hl,hd];by_cases a:d=0
 ·rw[if_pos a,if_pos a]
 rw[if_neg a,if_neg a];by_cases f:n+d<s.size
 ·rw[cW f];simp only;rw[j,decide_eq_true f,Ri];by_cases g:(decide ((bj s (n+d)).toNat=47)||decide ((bj s (n+d)).toNat=46))=true
  ·rw[g,if_pos Z,Ri];by_cases b:0<e
   ·rw[if_pos (by simpa using b),if_pos b]
   rw[if_neg (by simpa using b),if_neg b]
  rw[if_neg g,if_neg (by rw[Qh];exact λh=>g h.1)]
 rw[Q1 (by rw[<-dT];omega),decide_eq_false f,Bool.false_and,if_neg Qk]
def Ca{c:UInt8}(h:(decide (c.toNat<32)||decide (126<c.toNat))=true):c.toNat<32\/126<c.toNat:=by simpa using h
def FQ{c:UInt8}(h:(decide (c.toNat<32)||decide (126<c.toNat))=false):¬(c.toNat<32\/126<c.toNat):=by simp at h;omega
def JG{s:ByteArray}{i T:Nat}(h:iq i (s.data.toList.drop i)=T)(a:s.size<=i):0=T:=by
 rw[<-h,Q1 (by rw[<-dT];exact a)];rfl
def JH{s:ByteArray}{i T:Nat}(_hn:i<s.size)(h:(match s.data.toList.drop (i+1)with
  |d::r'=>if d.toNat=39 then iq (i+2) r' else i+1
  |[]=>i+1)=T) (b:(decide (i+1<s.size)&&decide ((bj s (i+1)).toNat=39))=false):i+1=T:=by
 by_cases a:i+1<s.size
 ·rw[cW a]at h;rw[decide_eq_true a,Ri]at b;simp only at h;rwa[if_neg (of_decide_eq_false b)]at h
 rw[Q1 (by rw[<-dT];omega)]at h;exact h
def xU{a b c d:Nat}(h:a=c)(e:b=d):(Tree.tup [nI a,nI b])=.tup [nI c,nI d]:=by rw[h,e]
def FR{s:ByteArray}(h:0<s.size):jV s.data.toList=fw (bj s 0) (s.data.toList.drop 1):=by
 have hl:s.data.toList=bj s 0::s.data.toList.drop 1:=cW h;have key:∀l:List UInt8,l=bj s 0::s.data.toList.drop 1->jV l=fw (bj s 0) (s.data.toList.drop 1):=λl h=>by rw[h];rfl
 exact key _ hl
def Au(s:ByteArray):FO (s.data.toList.drop 1)=(decide (1<s.size)&&decide ((bj s 1).toNat=61)):=by
 by_cases h:1<s.size
 ·rw[cW h,decide_eq_true h];rfl
 rw[Q1 (by rw[<-dT];omega),decide_eq_false h];rfl
def FU{c:UInt8}{b:Bool}(h:(decide (c.toNat=33)&&b)=true):c.toNat=33/\b=true:=by
 rw[Qh]at h;exact⟨of_decide_eq_true h.1,h.2⟩
def Av{c:UInt8}{b:Bool}(h:(decide (c.toNat=33)&&b)=false):¬(c.toNat=33/\b=true):=λ⟨a,d⟩=>by
 rw[decide_eq_true a,d]at h;cases h
def Cb:∀(n:Nat) (l:List UInt8) (k:Nat),l.length<=n->iq k l<=k+l.length
 |_,[],_,_=>by simp[iq]
 |0,_::_,_,h=>by simp at h
 |n+1,c::r,k,h=>by
  simp only[Qn]at h;have a:=λl k hl=>Cb n l k hl
  unfold iq;split
  ·omega
  split
  ·have:=a r (k+1) O;simp only[Qn];omega
  split
  ·next d r'=>
   simp only[Qn]at h⊢;split
   ·have:=a r' (k+2) O;omega
   omega
  simp only[Qn];omega
def JI(s:ByteArray)(c:0<s.size):pw s.data.toList<=s.size:=by
 obtain⟨n,b⟩:∃n:Nat,(if(bj s 0).toNat=45 then 1 else 0)=n:=⟨_,Z⟩;have i:n<=1:=by rw[<-b];split<;>omega
 obtain⟨d,hd⟩:∃d,cV (s.data.toList.drop n)=d:=⟨_,Z⟩;have f:n+d<=s.size:=mr hd O;obtain⟨e,a⟩:∃e,cV (s.data.toList.drop (n+d+1))=e:=⟨_,Z⟩;rw[B9 c b hd a];split
 ·omega
 split
 ·next h=>
  have g:=(jd h).1;have:=mr a O;split<;>omega
 omega
def MD(s:ByteArray)(a:0<s.size):(jV s.data.toList).2<=s.size:=by
 have hl:(s.data.toList.drop 1).length=s.size-1:=by rw[QZ,<-dT]
 have b:=JI s a;rw[cW (i:=0) a |> λh=>(show s.data.toList=_ from h)]at b;have d:=Cb _ (s.data.toList.drop 1) 1 (Qi _);have e:((s.data.toList.drop 1).takeWhile j7).length<=(s.data.toList.drop 1).length:=(Ty _).length_le;have c:FO (s.data.toList.drop 1)=true->2<=s.size:=λh=>by
  rw[Au]at h;have:=(jd (n:=1) h).1;omega
 rw[FR a];unfold fw;split
 ·show 1+_<=_;omega
 split
 ·exact b
 split
 ·show iq 1 _<=_;omega
 split
 ·exact a
 split
 ·split
  ·next h=>exact c h
  exact a
 split
 ·next h=>exact c h.2
 exact QF _
def FV{s:ByteArray}{i n:Nat}(a:i<s.size)(h:(jV (s.data.toList.drop i)).2=n):i+n<=s.size:=by
 have:=MD (s.extract i s.size) (by rw[px];omega);rw[lE,h,px]at this;omega
def pT:Option (List Tok)->Tree
 |some l=>.tup [.sl (l.map Tok.tree),.sc (.bool true)]
 |none=>.tup [.sl [],.sc (.bool false)]
def dh(o:Option (List Tok)):(pT o).plain=true:=by cases o<;>rfl
def iH{o:Option (List Tok)}{a:List Tok}(h:(none:Option (List Tok)).map (a++ ·)=o):(Tree.tup [.sl [],bT false])=pT o:=by rw[<-h];rfl
def ME{s:ByteArray}{i:Nat}(h:(decide (i<s.size)&&decide ((bj s i).toNat≠35))=false):s.size<=i\/(i<s.size/\(bj s i).toNat=35):=by
 by_cases a:i<s.size
 ·rw[decide_eq_true a,Ri]at h;exact .inr ⟨a,by simpa using h⟩
 exact .inl O
def sf{s:ByteArray}{i:Nat}{o:Option (List Tok)}{a:List Tok}(h:∃f,s.size-i<f/\(dO f (s.data.toList.drop i)).map (a++ ·)=o)(b:s.size<=i\/(i<s.size/\(bj s i).toNat=35)):(Tree.tup [.sl (a.map Tok.tree),bT true])=pT o:=by
 obtain⟨f,e,h⟩:=h;obtain⟨f,rfl⟩:∃g,f=g+1:=⟨f-1,O⟩;have:dO (f+1) (s.data.toList.drop i)=some []:=by
  rcases b with b|⟨c,d⟩
  ·rw[Q1 (by rw[<-dT];exact b)];rfl
  rw[cW c,dO,if_pos d]
 rw[this]at h;rw[<-h];simp[pT]
def eE{l:Option (List Tok)}{t:Tok}{a:List Tok}{o:Option (List Tok)}(h:(l.map λr=>t::r).map (a++ ·)=o):l.map ((a++[t])++ ·)=o:=by
 rw[<-h];cases l<;>simp
end Go.Proofs.YtmhcanmapkenbaaGreatDoor
namespace Go.Proofs.YtmhcanmapkenbaaGreatDoor
open Go.RowKit
open Lib renaming hid→J
def FW(g:Nat)(w:World):Prop:=∃wE,Env wE/\Below wE.heap.size wE w/\wE.heap.size<=g
def CtM(f:FuncId)(ty:TypeId)(cs args cs':List Tree)(r:Tree):Prop:=(∃fn,prog.funcs[f]? =some fn/\(fn.name== "runtime.NumGoroutine")=false/\fn.body.isNone=false)/\∀(G:Nat->Prop) (w:World) (g:Nat) (us vs:List Value),FW g w->(∀x,G x->x<w.heap.size/\NoDigB w x)->G g->IsBlk w g ty us.toArray->PT w G us cs->us.all cj=true->PT w G vs args->
 Calls prog f (Value.pointer (some ⟨g,0,none⟩)::vs).toArray w λe w'=>∃v us',e=.returned v/\w.grownBy w' (some g)/\IsBlk w' g ty us'.toArray/\PT w' G us' cs'/\us'.all cj=true/\PT w' G [v] [r]
section
variable {w0:World} {G0:Bse} {o:Oper} {S:St}
def sg{f:FuncId}{x:Operand}{l:List Operand}{B:Array TypeId}{b:Nat}{ty:TypeId}{cs m ts:List Tree}{r:Tree}(N:o.op=.call {callee:=.value (.func f),args:=(x::l).toArray,argTypes:=B})(hd:df S.n o.dst=true)(hx:S.ev x=.box b 0)(hb:S.bs[b]? =some (ty,cs))(H:CtM f ty cs ts m r)(ht:l.map S.ev=ts)(O:cs.all Tree.plain=true)(hp:ts.all Tree.plain=true):qi w0 G0 o S ({S with bs:=S.bs.set b (ty,m)}.put o.dst r):=by
 rintro a w ⟨bx,rv,k,A,J,j⟩;have X:=bY (op:=o.op) (T:=λs=>a.tmps.getD s undef) (S:=S) (λs _=>j s) hx (by rw[N];simp[Op.operands,Call.operands]);have U:=lY (E:=en w G0 bx rv S.rs) (T:=λs=>a.tmps.getD s undef) (op:=o.op) (S:=S) (λs _=>j s) l (λy hy=>by rw[N];simp only[Op.operands,Call.operands];simp;exact .inr (.inr hy));rw[ht]at U;obtain⟨g,us,q,hv,p,K,M⟩:=mX k hb X;obtain⟨⟨Q,Y,h2,R⟩,H⟩:=H;have d:g∈bX bx rv S.rs:=aN.2 (.inl (Qo q));have G:FW g w:=by
  obtain⟨wE,C,D,F,W⟩:=k.env0.at k.below;exact⟨wE,C,D,(k.ge _ d).elim (Qu F) (W g)⟩
 have I:=H (GG G0 bx rv S.rs) w g us _ G k.ok (.inr d) p (K.plains O) M (U.plains hp);refine OpRuns.of_call (f:=f) (args:=(Value.pointer (some ⟨g,0,none⟩)::l.map (eX λs=>a.tmps.getD s undef)).toArray) ?_ (I.mono ?_)
 ·have C:¬Q.name= "runtime.NumGoroutine" :=by simpa using h2
  have D:¬Q.body=none:=λe=>by rw[e]at R;cases R
  have F:(Value.pointer (some ⟨g,0,none⟩)::l.map (eX λs=>a.tmps.getD s undef)).toArray=(x::l).toArray.map (eX λs=>a.tmps.getD s undef):=by
   rw[<-hv];simp
  rw[F];simp[execOp,N,resolve,eX,Deferred.ofValue,invoke,callFunc,Y,C,D]
 rintro y w' ⟨v,a0,rfl,V,c,u,t,P⟩;have L:=k.setBox q V c (FT.of (E:=en w' G0 bx rv S.rs) u) t;have z:=lV (o:=o) (S:=S) (rs:=S.rs) A hd (λus ts h=>nX d V h) j (FT.of (E:=en w' G0 bx rv S.rs) P);refine⟨v,Z,bx,rv,by rw[dc,b6];exact L,by rw[d9,dQ];exact A,by rw[c6,J],λi=>?_⟩;rw[b6];have:=z i;rw[cF]at this⊢;exact this
end
def aH{w0:World}{G0:Bse}{o:Oper}{ops:Array Oper}{a:List Oper}{Q:Exit->St->Prop}{n d:Nat}{sl:List (Nat×Tree)}{bs bs':List (TypeId×List Tree)}{rs:List (Option Row)}{f:FuncId}{x:Operand}{i:List Operand}{e:Array TypeId}{b:Nat}{ty:TypeId}{cs c ts:List Tree}{r:Tree}(p:o.op=.call {callee:=.value (.func f),args:=(x::i).toArray,argTypes:=e})(l:o.guard=none)(hd:o.dst=some d)(m:Nat.blt d n=true)(t:St.ev ⟨n,sl,bs,rs⟩ x=.box b 0)(j:bs[b]? =some (ty,cs))(k:CtM f ty cs ts c r)(s:i.map (St.ev ⟨n,sl,bs,rs⟩)=ts)(h:cs.all Tree.plain=true)(q:ts.all Tree.plain=true)(g:bs.set b (ty,c)=bs')(K:AOps w0 G0 ops a Q ⟨n,(d,r)::sl,bs',rs⟩):AOps w0 G0 ops (o::a) Q ⟨n,sl,bs,rs⟩:=by
 subst g;refine eA l (sg (S:=⟨n,sl,bs,rs⟩) p (by rw[hd];simpa[df,Q7]using m) t j k s h q) ?_;rw[hd];exact K
def oD{v:Nat}{o:Oper}{n d:Nat}{sl:List (Nat×Tree)}{bs bs':List (TypeId×List Tree)}{rs:List (Option Row)}{f:FuncId}{x:Operand}{vs:List Value}{c:Array TypeId}{b:Nat}{ty:TypeId}{cs a:List Tree}{r:Tree}(m:o.op=.call {callee:=.value (.func f),args:=(x::vs.map Operand.const).toArray,argTypes:=c})(hd:o.dst=some d)(t:Nat.blt d n=true)(u:St.ev ⟨n,sl,bs,rs⟩ x=.box b 0)(p:bs[b]? =some (ty,cs))(q:CtM f ty cs (vs.map Tree.sc) a r)(h:cs.all Tree.plain=true)(g:bs.set b (ty,a)=bs'):zH v o ⟨n,sl,bs,rs⟩ id r bs' rs:=by
 subst g;intro w0 G0 S w k e l i;dsimp only at k e l;have j:=rx i (by rw[m];simp[Op.operands,Call.operands]) u F;refine⟨_,sg (S:=S) m (by rw[hd,k];simpa[df,Q7]using t) j (by rw[e];exact p) q (by rw[List.map_map];rfl) h (by simp[Tree.plain]),by rw[dQ],by rw[dc];dsimp only;rw[e],by rw[b6];exact l,λs=>?_⟩;rw[cF];rfl
def OG(G:Nat->Prop)(g:Nat):Bse:=⟨λb=>G b/\b≠g,λb=>b=g,1,λ_=>g⟩
def JJ{w:World}{G:Nat->Prop}{g:Nat}{ty:TypeId}{us:List Value}{cs:List Tree}(s:FW g w)(o:∀x,G x->x<w.heap.size/\NoDigB w x)(t:G g)(d:IsBlk w g ty us.toArray)(n:PT w G us cs)(m:us.all cj=true):Mem w (OG G g) [(ty,cs)] [] [g] [] w:=by
 obtain⟨y,p,q,r⟩:=s;have c:∀b,b∈bX [g] [] []->b=g:=λb a=>by simpa[bX]using a
 refine⟨Kept.refl _ _,⟨y,p,q,λb e=>e▸r⟩,λb h=>⟨(o b h.1).1,(o b h.1).2,h.2⟩,Z,Z,λi x f=>?_,λk v R l=>by simp at l,⟨F,λk v R b l=>by simp at l,λj k u v X R b _ l=>by simp at l⟩,λb a=>.inr (c b a),λi f=>?_⟩
 ·cases i with
  |zero=>
   simp only[QV,Qy]at f;subst f;exact⟨ty,cs,us,Z,d,.of (n.mono (Qi _) λb _ a=>⟨Z,λh=>by
    rcases h with h|h
    ·exact a h.1
    rw[c b h]at a;exact a t⟩),m⟩
  |succ i=>simp at f
 have:i<1:=f;obtain rfl:i=0:=O
 rfl
def OH(rvs:List ResultVar)(ty:TypeId)(cs':List Tree)(r:Tree)(e:Exit)(S:St):Prop:=I7 rvs r e S/\S.bs[0]? =some (ty,cs')/\cs'.all Tree.plain0=true
def si{E:En}{vs:List Value}{args:List Tree}{m:Nat}(h:FT E vs args)(i:Nat):FT E [(vs.toArray++Array.replicate m undef).getD i undef] [look (jL 0 args) i]:=by
 rw[pf,if_pos (QF _),Nat.sub_zero];cases e:args[i]? with
 |none=>exact .any _ .nil
 |some t=>
  obtain⟨u,b,a⟩:=h.get i t e;have d:=(Qm.1 b).1;have c:(vs.toArray++Array.replicate m undef).getD i undef=u:=by
   rw[QG,SC (by simpa using d),Ry,b];rfl
  rw[c];exact a
def CtM.of{f:FuncId}{p:Func}{c:Code}{ty:TypeId}{cs args m:List Tree}{r:Tree}{n:Nat}{C:List ResultVar}(U:prog.funcs[f]? =some p)(d:p.body=some c)(O:(p.name== "runtime.NumGoroutine")=false)(hn:p.ntmps=n)(hl:Nat.ble (args.length+1) n=true)(hr:p.results.toList=C)
  (h:∀w0 G g,AWP w0 (OG G g) c (OH C ty m r) ⟨n,jL 0 (.box 0 0::args),[(ty,cs)],[]⟩):CtM f ty cs args m r:=by
 refine⟨⟨p,U,O,by rw[d];rfl⟩,λG w g us vs hE hG V q R M X=>?_⟩;have W:=X.length;have hl:args.length+1<=n:=by simpa using hl
 have L:=JJ hE hG V q R M;have B:∀b,¬G b->¬GG (OG G g) [g] [] [] b:=λb d h=>by
  rcases h with h|h
  ·exact d h.1
  have:b=g:=by simpa[bX]using h
  rw[this]at d;exact d V
 refine calls_of_wp U d (wp_mono (h w G g _ w ⟨[g],[],L,?_,Z,λi=>si (.box 0 0 g Z (.of (X.mono (Qi _) λb _ d=>⟨Z,B b d⟩))) i⟩) ?_)
 ·simp;omega
 rintro e a w' ⟨S',⟨⟨he,ts,S,rfl,Q⟩,H,P⟩,bx,rv,o,_,I,T⟩;obtain⟨j,A,J⟩:=jv o T (hr▸S);have s:bx[0]? =some g:=o.pin 0 Nat.zero_lt_one;obtain⟨a0,Y,l,D,h2,h3,h4⟩:=o.box 0 g s;rw[H]at D;cases D;have y:∀b,¬GG (OG G g) bx rv S'.rs b->¬G b:=λb d E=>by
  by_cases e:b=g
  ·subst e;exact d (.inr (aN.2 (.inl (Qo s))))
  exact d (.inl ⟨E,e⟩)
 have K:w.grownBy w' (some g):=⟨o.below.os,o.below.tape,o.below.output,o.below.size,λk hk N=>o.below.block k hk λe=>N (by rw[show k=g from e])⟩;have z:PT w' G l m:=(h3.plain0s P).mono (Qi _) λb _ d=>⟨Z,y b d⟩
 have key:a.defers=[]/\∃v,(results p a.tmps).run prog w'=.ok v w'/\(λe w'=>∃v l,e=Ending.returned v/\w.grownBy w' (some g)/\IsBlk w' g ty l.toArray/\PT w' G l m/\l.all cj=true/\PT w' G [v] [kx ts]) (.returned v) w':=by
  refine⟨I,if h:j.toArray.size=1 then j.toArray[0]else .tuple j.toArray,?_,_,l,Z,K,h2,z,h4,?_⟩
  ·unfold results;rw[Sem.run_bind,RD,Sem.run_map];exact congrArg (λx:Result (List Value)=>(x.andThen λa w'=>Result.ok a.toArray w').andThen λa w'=>Sem.run prog (pure (if h:a.size=1 then a[0]else Value.tuple a)) w') A
  have D:FT (en w' (OG G g) bx rv S'.rs) [if h:j.toArray.size=1 then j.toArray[0]else .tuple j.toArray] [kx ts]:=by
   match j,ts,J with
   |[],[],_=>exact .tup [] [] .nil .nil
   |[u],[t],h=>exact h
   |u::u'::us,t::t'::ts,h=>
    rw[dif_neg F];exact .tup _ _ h .nil
  exact(D.plain Q).mono (Qi _) λb _ d=>⟨Z,y b d⟩
 rcases he with rfl|rfl
 ·exact key
 exact key
section
variable {w0:World} {G0:Bse} {o:Oper} {S:St}
end
section
variable {w0:World} {G0:Bse} {o:Oper} {S:St}
def a6{x:Operand}{b off:Nat}(a:o.op=.nilCheck x)(h:S.ev x=.box b off):OpOK o S (.box b off):=by
 intro w0 G0 bx rv w T i d;have c:=bY d h (by rw[a];simp[Op.operands]);obtain⟨g,e,f⟩:=c.isBox;refine OpRuns.of_ok (v:=.pointer (some ⟨g,off,none⟩)) (W':=w) ?_ ⟨.box b off g e .nil,Below.refl _ _⟩;simp[execOp,a,f]
def CtV(f:FuncId)(ty:TypeId)(cs args:List Tree)(r:Tree):Prop:=(∃fn,prog.funcs[f]? =some fn/\(fn.name== "runtime.NumGoroutine")=false/\fn.body.isNone=false)/\∀(G:Nat->Prop) (w:World) (g:Nat) (us vs:List Value),FW g w->(∀x,G x->x<w.heap.size/\NoDigB w x)->G g->IsBlk w g ty us.toArray->PT w G us cs->us.all cj=true->PT w G vs args->
 Calls prog f (Value.pointer (some ⟨g,0,none⟩)::vs).toArray w λe w'=>∃v,e=.returned v/\PT w' G [v] [r]/\Below w.heap.size w w'
def dS{f:FuncId}{x:Operand}{a:List Operand}{i:Array TypeId}{b:Nat}{ty:TypeId}{cs ts:List Tree}{r:Tree}(z:o.op=.call {callee:=.value (.func f),args:=(x::a).toArray,argTypes:=i})(N:S.ev x=.box b 0)(n:S.bs[b]? =some (ty,cs))(q:CtV f ty cs ts r)(L:a.map S.ev=ts)(A:cs.all Tree.plain=true)(K:ts.all Tree.plain=true):OpOK o S r:=by
 intro w0 G0 bx rv w T h E;have H:=bY E N (by rw[z];simp[Op.operands,Call.operands]);have F:=lY (S:=S) E a (λy O=>by rw[z];simp only[Op.operands,Call.operands];simp;exact .inr (.inr O));rw[L]at F;obtain⟨g,us,p,M,c,t,u⟩:=mX h n H;obtain⟨⟨C,I,J,D⟩,q⟩:=q;have d:g∈bX bx rv S.rs:=aN.2 (.inl (Qo p));have m:FW g w:=by
  obtain⟨P,j,k,l,G⟩:=h.env0.at h.below;exact⟨P,j,k,(h.ge _ d).elim (Qu l) (G g)⟩
 have s:=q (GG G0 bx rv S.rs) w g us _ m h.ok (.inr d) c (t.plains A) u (F.plains K);refine OpRuns.of_call (f:=f) (args:=(Value.pointer (some ⟨g,0,none⟩)::a.map (eX T)).toArray) ?_ (s.mono ?_)
 ·have j:¬C.name= "runtime.NumGoroutine" :=by simpa using J
  have k:¬C.body=none:=λe=>by rw[e]at D;cases D
  have l:(Value.pointer (some ⟨g,0,none⟩)::a.map (eX T)).toArray=(x::a).toArray.map (eX T):=by
   rw[<-M];simp
  rw[l];simp[execOp,z,resolve,eX,Deferred.ofValue,invoke,callFunc,I,j,k]
 rintro y w' ⟨v,rfl,B,n⟩;exact⟨v,Z,.of B,n⟩
end
def FT.setNil{E:En}:∀{us:List Value} {cs:List Tree} {off:Nat},FT E us cs->cs[off]? =some (.sc (.slice none 0 0))->FT E us (cs.set off (.sl []))
 |[],[],_,_,h=>by simp at h
 |[],_::_,_,h,_=>by cases h
 |_::_,[],_,h,_=>by cases h
 |u::us,c::cs,0,h,e=>by
  simp only[QV,Qy]at e;subst e;have a:=h.head.isSc;subst a;exact FT.cons (.pure (dn _ _) .nil) h.tail
 |u::us,c::cs,off+1,h,e=>FT.cons h.head (FT.setNil h.tail (by simpa using e))
def vS{w0:World}{G0:Bse}{ops:Array Oper}{d:List Oper}{Q:Exit->St->Prop}{n:Nat}{sl:List (Nat×Tree)}{bs bs':List (TypeId×List Tree)}{rs:List (Option Row)}(b off:Nat){ty:TypeId}{cs:List Tree}(u:bs[b]? =some (ty,cs))(v:cs[off]? =some (.sc (.slice none 0 0)))(l:bs.set b (ty,cs.set off (.sl []))=bs')(k:AOps w0 G0 ops d Q ⟨n,sl,bs',rs⟩):AOps w0 G0 ops d Q ⟨n,sl,bs,rs⟩:=by
 subst l;rintro a w ⟨bx,rv,c,p,m,o⟩;refine k a w ⟨bx,rv,⟨c.below,c.env0,c.g0,by simp[c.nb],c.nr,λi g x=>?_,c.row,c.nodup,c.ge,c.pin⟩,p,m,o⟩;obtain⟨q,h,us,j,r,s,t⟩:=c.box i g x;by_cases f:i=b
 ·subst f;rw[u]at j;cases j;have hl:=(Qm.1 u).1;exact⟨ty,_,us,RB hl,r,s.setNil v,t⟩
 exact⟨q,h,us,by rw[RO (λe=>f e.symm)];exact j,r,s,t⟩
