import Derived.Test.YtmhcanmapkenbaaGreatDoorA19
import Derived.Laws.StructEq
set_option maxRecDepth 100000
set_option maxHeartbeats 4000000
set_option linter.defProp false
open Go.Proofs.Tryz
namespace Go.Proofs.YtmhcanmapkenbaaGreatDoor
structure PK (N:Nat) (s:PS):Prop where
 len:s.l.length<=N
 big:N<=1000000000
 ina:s.a<=s.l.length
 sz:∀t∈s.l,t.x.size<=1073741824
def PK.hl{N:Nat}{s:PS}(h:PK N s):s.l.length<=1073741824:=Qu h.len (Qu h.big I)
def PK.kp{N:Nat}{s:PS}{α:Type}{f:PS->α×PS}(h:PK N s)(c:Kp f):PK N (f s).2:=by
 obtain⟨b,a⟩:=c s h.ina;exact⟨by rw[a];exact h.len,h.big,b,by rw[a];exact h.sz⟩
def PK.nxt{N:Nat}{s:PS}(h:PK N s):s.nxt.x.size<=1073741824:=by
 unfold PS.nxt;split
 ·exact QF _
 next h1=>
 have b:s.a<s.l.length:=Nat.lt_of_not_le λc=>h1 (.inr c)
 rw[Qp,Qj b];exact h.sz _ (Rx b)
def eQ{c:Tok->Bool}{s:PS}:(aa c s).1=c s.nxt:=by
 unfold aa;split
 ·next h=>exact h.symm
 next h=>cases a:c s.nxt with
 |true=>exact absurd a h
 |false=>rfl
def x8{c:Tok->Bool}{s:PS}(h:(aa c s).1=true):aa c s=(true,s.adv):=oH (eQ.symm.trans h)
def pV{c:Tok->Bool}{s:PS}(h:(aa c s).1=false):aa c s=(false,s):=so (eQ.symm.trans h)
def gj{β:Type}{c:Tok->Bool}{f:β->PS->β×PS}{m:Nat}{b:β}{t:PS}{R:β×PS}(i:c dN=false)(n:t.l.length-t.a<=m)(h:cD c f m b t=R)(g:(aa c t).1=true):1<=m/\cD c f (m-1) (f b (aa c t).2).1 (f b (aa c t).2).2=R/\(aa c t).2.a=t.a+1/\(aa c t).2.l=t.l:=by
 have d:c t.nxt=true:=eQ.symm.trans g;have j:=nq (s:=t) λe=>by rw[e,i]at d;cases d
 rw[x8 g];obtain⟨m,rfl⟩:∃k,m=k+1:=⟨m-1,O⟩;rw[cD,if_pos d]at h;exact⟨O,h,Z,Z⟩
def eV{β:Type}{c:Tok->Bool}{f:β->PS->β×PS}{m:Nat}{b:β}{t:PS}{R:β×PS}(h:cD c f m b t=R)(a:(aa c t).1=false):R=(b,(aa c t).2):=by
 rw[pV a,<-h];have d:c t.nxt=false:=eQ.symm.trans a;cases m with
 |zero=>rfl
 |succ m=>rw[cD,if_neg (by rw[d];exact Qk)]
def Trm.tree(t:Trm):Tree:=.agg [.sc (.string t.v),.sc (.int .i64 t.c.t),.sc (.int .i64 t.c.n),.sc (.string t.c.s)]
def fx(l:List Trm):Sized 4 (l.map Trm.tree):=Sized.map _ l λ_=>rfl
def Atm.tree(a:Atm):Tree:=.agg [.sc (.string a.r),.sc (.bool a.ng),.sl (a.ts.map Trm.tree)]
def cL(l:List Atm):Sized 3 (l.map Atm.tree):=Sized.map _ l λ_=>rfl
def Cpr.tree(c:Cpr):Tree:=.agg [.sc (.int .i64 ((c.op:Nat):Int)),.sc (.string c.l.v),.sc (.int .i64 c.l.c.t),.sc (.int .i64 c.l.c.n),.sc (.string c.l.c.s),.sc (.string c.r.v),.sc (.int .i64 c.r.c.t),.sc (.int .i64 c.r.c.n),.sc (.string c.r.c.s)]
def gk(l:List Cpr):Sized 9 (l.map Cpr.tree):=Sized.map _ l λ_=>rfl
def Cq.tree(c:Cq):Tree:=.agg [.sl (c.al.map Atm.tree),.sl (c.cl.map Cpr.tree)]
def fh(l:List Cq):Sized 2 (l.map Cq.tree):=Sized.map _ l λ_=>rfl
def x9{s:PS}(h:(decide (s.nxt.k≠2)&&decide (s.nxt.k≠3))=true):dY s=(V.zero,⟨s.l,s.a,true⟩):=by
 rw[Qh]at h;exact if_pos ⟨of_decide_eq_true h.1,of_decide_eq_true h.2⟩
def Ch{s:PS}(h:(decide (s.nxt.k≠2)&&decide (s.nxt.k≠3))=false):¬(s.nxt.k≠2/\s.nxt.k≠3):=λ⟨a,b⟩=>by
 rw[decide_eq_true a,decide_eq_true b]at h;cases h
def uB{s:PS}(h:(decide (s.nxt.k≠2)&&decide (s.nxt.k≠3))=false)(b:cM s.nxt.x=none):dY s=(V.zero,⟨s.l,s.a,true⟩):=by
 unfold dY;rw[if_neg (Ch h),b];rfl
def ya{s:PS}{v:V}(h:(decide (s.nxt.k≠2)&&decide (s.nxt.k≠3))=false)(b:cM s.nxt.x=some v):dY s=(v,⟨s.l,s.a+1,s.bad⟩):=by
 unfold dY;rw[if_neg (Ch h),b];rfl
def P6{v u:V}(h:v=u):v.tree=u.tree:=by rw[h]
def Up{α:Type}(f:PS->α×PS):Prop:=∀s,s.a<=(f s).2.a
section
variable {α β:Type}
def Up.pure(v:α):Up (λs=>(v,s)):=λ_=>Qi _
def Up.bind{f:PS->α×PS}{a:α->PS->β×PS}(h:Up f)(b:∀v,Up (a v)):Up (λs=>a (f s).1 (f s).2):=λs=>Qu (h s) (b _ _)
def yb{a c:PS->α×PS}(b:Bool)(d:Up a)(e:Up c):Up (λs=>if b=true then a s else c s):=by
 cases b
 ·exact e
 exact d
def oK{a b:PS->α×PS}(c:PS->Bool)(d:Up a)(e:Up b):Up (λs=>if c s=true then a s else b s):=λs=>by
 dsimp only;split
 ·exact d s
 exact e s
def pz(c:Tok->Bool):Up (aa c):=λs=>by
 unfold aa;split
 ·exact RX _
 exact Qi _
def qB(c:Tok->Bool):Up (ak c):=λs=>by
 unfold ak;dsimp only;split
 ·exact RX _
 exact Qi _
def oL(c:Tok->Bool){f:β->PS->β×PS}(h:∀b,Up (f b)):∀(n:Nat) (b:β),Up (cD c f n b)
 |0,_=>λ_=>Qi _
 |n+1,b=>λs=>by
  rw[cD];split
  ·exact Qu (Qu (RX _) (h b s.adv)) (oL c h n _ _)
  exact Qi _
end
def sq:Up bI:=λs=>by
 unfold bI;split
 ·exact Qi _
 exact RX _
def Ed:Up dY:=λs=>by
 unfold dY;split
 ·exact Qi _
 split
 ·exact RX _
 exact Qi _
def lH:Up aK:=oK (λs=>decide (s.nxt.k=1)) (Up.bind sq λv=>Up.pure (⟨v,V.zero⟩:Trm)) (Up.bind Ed λv=>Up.pure (⟨b9,v⟩:Trm))
def Ee(N:Nat):Up (dj N):=Up.bind (qB (aT yL)) λ_=>Up.bind (pz (aT yR)) λb=>yb b (Up.pure []) (Up.bind lH λt=>Up.bind (oL (aT yC) (λl=>Up.bind lH λv=>Up.pure (l++[v])) N [t]) λl=>Up.bind (qB (aT yR)) λ_=>Up.pure l)
def MG:Up gH:=λs=>by
 unfold gH;split
 ·exact RX _
 split
 ·exact RX _
 split
 ·exact RX _
 split
 ·exact RX _
 exact Qi _
def su(N:Nat)(c:Cq):Up (dE N c):=Up.bind (pz (a7 au)) λn=>oK (λs=>n||(s.call&&decide (s.nxt.k=1))) (Up.bind sq λa=>Up.bind (Ee N) λt=>Up.pure (⟨c.al++[(⟨a,n,t⟩:Atm)],c.cl⟩:Cq)) (Up.bind lH λx=>Up.bind MG λo=>Up.bind lH λy=>Up.pure (⟨c.al,c.cl++[(⟨o,x,y⟩:Cpr)]⟩:Cq))
def MH(N:Nat):Up (lk N):=Up.bind (pz (a7 bW)) λb=>yb b (Up.pure (⟨[],[]⟩:Cq)) (Up.bind (su N ⟨[],[]⟩) λx=>oL (aT yC) (su N) N x)
def kL{α:Type}{f:PS->α×PS}{t u:PS}{m:Nat}(h:u.a=t.a+1)(hl:u.l=t.l)(d:Kp f)(c:Up f)(e:u.a<=u.l.length)(i:t.l.length-t.a<=m):(f u).2.l.length-(f u).2.a<=m-1:=by
 obtain⟨_,b⟩:=d u e;have g:=c u;rw[b,hl];omega
end Go.Proofs.YtmhcanmapkenbaaGreatDoor
namespace Go.Proofs.YtmhcanmapkenbaaGreatDoor
open Go.RowKit
open Lib renaming hid→J
variable{α:Type}
def JK{rs:List (Option Row)}{k:Nat}{R R':Row}(a:rs[k]? =some (some R)):(rs.set k (some R')).map Option.isSome=rs.map Option.isSome:=by
 refine SO λi=>?_
 rw[QL,QL,Sv];split
 ·next e=>
  subst e;rw[a,if_pos (Qm.1 a).1];rfl
 rfl
def pW(bx:List Nat):∀(rv:List Value) (rs rs':List (Option Row)),rs.map Option.isSome=rs'.map Option.isSome->bX bx rv rs=bX bx rv rs':=λrv rs rs' h=>by
 unfold bX;congr 1;induction rv generalizing rs rs' with
 |nil=>rfl
 |cons v rv ih=>
  match rs,rs',h with
  |[],[],_=>rfl
  |r::rs,r'::rs',h=>
   simp only[QM,Tu]at h;rw[Q8,Q8,List.filterMap_cons,List.filterMap_cons,ih rs rs' h.2];cases r<;>cases r'<;>first|rfl|(exact absurd h.1 F)
def Ef(rv:List Value)(rs rs':List (Option Row))(h:rs.map Option.isSome=rs'.map Option.isSome)(k:Nat):dX rv rs k=dX rv rs' k:=by
 have a:=congrArg (·[k]?) h;simp only[QL]at a;unfold dX;cases c:rs[k]? with
 |none=>
  cases b:rs'[k]? with
  |none=>rfl
  |some r=>rw[c,b]at a;cases a
 |some r=>
  cases b:rs'[k]? with
  |none=>rw[c,b]at a;cases a
  |some r'=>
   rw[c,b]at a;simp only[Rf,Qy]at a;cases r<;>cases r'<;>first|rfl|(exact absurd a F)
def JL(w:World)(G0:Bse)(bx:List Nat)(rv:List Value)(rs rs':List (Option Row))(h:rs.map Option.isSome=rs'.map Option.isSome):en w G0 bx rv rs=en w G0 bx rv rs':=by
 unfold en GG;rw[pW bx rv rs rs' h,funext (Ef rv rs rs' h)]
def Sim.slack{w0:World}{G0:Bse}{n:Nat}{sl:List (Nat×Tree)}{bs:List (TypeId×List Tree)}{rs:List (Option Row)}{a:Act}{w:World}(k:Nat){e sz:Nat}{es:List Tree}{U:Bool}(h:Sim w0 G0 ⟨n,sl,bs,rs⟩ a w)(t:rs[k]? =some (some ⟨e,sz,es,U⟩)):Sim w0 G0 ⟨n,sl,bs,rs.set k (some ⟨e,sz,es,false⟩)⟩ a w:=by
 obtain⟨bx,rv,d,P,x,A⟩:=h;have C:=JK (R':=⟨e,sz,es,false⟩) t;have o:=JL w G0 bx rv _ rs C;have m:=pW bx rv _ rs C;have y:GG G0 bx rv (rs.set k (some ⟨e,sz,es,false⟩))=GG G0 bx rv rs:=by unfold GG;rw[m]
 have c:∀(j:Nat) (R':Row),(rs.set k (some ⟨e,sz,es,false⟩))[j]? =some (some R')->∃R,rs[j]? =some (some R)/\R'.e=R.e/\R'.sz=R.sz/\R'.es=R.es/\(R'.tt=true->R.tt=true):=λj R' f=>by
  rw[Sv]at f;split at f
  ·next p=>
   subst p;rw[if_pos (Qm.1 t).1]at f;cases f;exact⟨_,t,Z,Z,Z,λh=>by cases h⟩
  exact⟨R',f,Z,Z,Z,id⟩
 refine⟨bx,rv,⟨d.below,d.env0,d.g0,d.nb,by rw[Rr];exact d.nr,λi g O=>?_,λj v R' T f=>?_,⟨d.nodup.bb,λj v R' b l r s=>?_,λi j u v X Y b z l r s K L M=>?_⟩,λb N=>d.ge b (by rw[<-m];exact N),d.pin⟩,P,x,λi=>by rw[o];exact A i⟩
 ·rw[o];exact d.box i g O
 ·obtain⟨R,l,p,G,H,I⟩:=c j R' f;rw[y,p,G,H];obtain⟨xs,D,E,B,F⟩:=d.row j v R T l;exact⟨xs,D,E,⟨B.1,λS=>B.2 (I S)⟩,F⟩
 ·obtain⟨R,q,_⟩:=c j R' r;exact d.nodup.br j v R b l q s
 obtain⟨R,q,_⟩:=c i X r;obtain⟨Q,J,_⟩:=c j Y K;exact d.nodup.rr i j u v R Q b z l q s J L M
def mt{w0:World}{G0:Bse}{c:Code}{Q:Exit->St->Prop}{n:Nat}{sl:List (Nat×Tree)}{bs:List (TypeId×List Tree)}{rs rs':List (Option Row)}(k:Nat){e sz:Nat}{es:List Tree}{g:Bool}(d:rs[k]? =some (some ⟨e,sz,es,g⟩))(b:rs.set k (some ⟨e,sz,es,false⟩)=rs')(h:AWP w0 G0 c Q ⟨n,sl,bs,rs'⟩):AWP w0 G0 c Q ⟨n,sl,bs,rs⟩:=λa w f=>by
 subst b;exact h a w (f.slack k d)
def OI{s:PS}(h:(aa (aT yE) s).1=true):gH s=(1,(aa (aT yE) s).2):=by
 rw[x8 h];exact if_pos (eQ.symm.trans h)
def OJ{s:PS}(a:(aa (aT yE) s).1=false)(h:(aa (aT yN) (aa (aT yE) s).2).1=true):gH s=(2,(aa (aT yN) (aa (aT yE) s).2).2):=by
 rw[pV a]at h⊢;rw[x8 h];have b:aT yE s.nxt=false:=eQ.symm.trans a;unfold gH;rw[if_neg (by rw[b];exact Qk),if_pos (eQ.symm.trans h)]
def OL{s:PS}(b:(aa (aT yE) s).1=false)(a:(aa (aT yN) (aa (aT yE) s).2).1=false)(h:(aa (aT qm) (aa (aT yN) (aa (aT yE) s).2).2).1=true):gH s=(3,(aa (aT qm) (aa (aT yN) (aa (aT yE) s).2).2).2):=by
 have c:aT yE s.nxt=false:=eQ.symm.trans b;rw[pV b]at a h⊢;have d:aT yN s.nxt=false:=eQ.symm.trans a;rw[pV a]at h⊢;rw[x8 h];unfold gH;rw[if_neg (by rw[c];exact Qk),if_neg (by rw[d];exact Qk),if_pos (eQ.symm.trans h)]
def JM{s:PS}(c:(aa (aT yE) s).1=false)(b:(aa (aT yN) (aa (aT yE) s).2).1=false)(a:(aa (aT qm) (aa (aT yN) (aa (aT yE) s).2).2).1=false):gH s=if(aa (aT B3) (aa (aT qm) (aa (aT yN) (aa (aT yE) s).2).2).2).1=true then(4,(aa (aT B3) (aa (aT qm) (aa (aT yN) (aa (aT yE) s).2).2).2).2)else(0,(aa (aT B3) (aa (aT qm) (aa (aT yN) (aa (aT yE) s).2).2).2).2.fail):=by
 have d:aT yE s.nxt=false:=eQ.symm.trans c;rw[pV c]at b a⊢;have e:aT yN s.nxt=false:=eQ.symm.trans b;rw[pV b]at a⊢;have f:aT qm s.nxt=false:=eQ.symm.trans a;rw[pV a];unfold gH;rw[if_neg (by rw[d];exact Qk),if_neg (by rw[e];exact Qk),if_neg (by rw[f];exact Qk),eQ];unfold aa;split<;>rfl
def dF{p:α×PS}{v:α}{t:PS}{ty:TypeId}(h:p=(v,t)):(some (ty,[.sl (t.l.map Tok.tree),nI t.a,bT t.bad]):Option (TypeId×List Tree))=some (ty,p.2.cells):=by rw[h];rfl
def yc{f:α->Tree}{l m:List α}(h:l=m):(Tree.sl (l.map f))=.sl (m.map f):=by rw[h]
def bJ:nT prog 146=some 4:=U
def gT:nT prog 34=some 3:=U
def cC:nY prog 40=some (9,1,16):=U
def bc:ic prog 40=some (9,1):=U
def mQ:Md prog 134 0=some 0:=U
def Ly:(prog.info? 146).map (·.size)=some 4:=U
def MI:(prog.info? 34).map (·.size)=some 3:=U
def Lz:mY prog 146=some ([(0,1),(1,3)],[.string (⟨#[]⟩),.int .i64 0,.int .i64 0,.string (⟨#[]⟩)]):=U
def MJ:mY prog 34=some ([(0,1),(1,1),(2,1)],[.int .i64 0,.int .i64 0,.string (⟨#[]⟩)]):=U
def jC:gn prog 146=some [.string (⟨#[]⟩),.int .i64 0,.int .i64 0,.string (⟨#[]⟩)]:=U
def MK:gn prog 34=some [.int .i64 0,.int .i64 0,.string (⟨#[]⟩)]:=U
def cw:gn prog 9=some [.string (⟨#[]⟩)]:=U
def JN(N:Nat)(s:PS)(h:PK N s):CtM 208 92 [.sl (s.l.map Tok.tree),nI s.a,bT s.bad] [] (dY s).2.cells ((dY s).1.tree):=by
 have i:=h.hl;have g:=h.ina;refine CtM.of (n:=40) func208 Z Z Z Z Z λw0 G0 j=>?_
 refine ar 1 Z<|M<|C 1 (t:=.agg [nI s.nxt.k,sT s.nxt.x]) Z (dS Z Z Z (vU s h.hl h.ina) Z Z Z)<|H 2 Z<|Y<|M<|aB 2 Z Z Zy (D (qj s.nxt.k 2))<|ay 1 Z<|B Z Z Z Z (λf=>ao Z Z tU Z)<|B Z Z Z Z (λf=>aA Z (if_pos f) Z cv Z)<|B Z Z Z Z (λf=>av (aL Z (if_pos f) Z (λ_=>rfl)) (D (qj s.nxt.k 3)))<|C 0 Z (bR Z Z Z Z)<|K<|aF Z (λb=>?_) (λb=>?_)
 ·refine M<|C 1 (t:=.box 0 0) Z (a6 Z Z)<|H 2 Z<|ar 2 Z<|aO<|⟨⟨.inr Z,_,.cons (eZ Z Z gT Z) .nil,(by rw[x9 b];rfl),Z⟩,je (x9 b),Z⟩
 refine X<|Y ?_;rcases c:cM s.nxt.x with _|v
 ·refine am<|C 2 Z (aJ Z (xR _ (Qu h.nxt I0) c) Z Z)<|H 6 Z<|Y<|M<|aB 1 Z Z Zy (D (qj 2 0))<|K<|an Z (λd=>?_) (λd=>?_)
  ·refine M<|C 1 (t:=.box 0 0) Z (a6 Z Z)<|H 2 Z<|ar 2 Z<|aO<|⟨⟨.inr Z,_,.cons (eZ Z Z gT Z) .nil,(by rw[uB b c];rfl),Z⟩,je (uB b c),Z⟩
  exact absurd d I0
 refine am<|C 2 Z (aJ Z (xQ _ v (Qu h.nxt I0) c) Z Z)<|H 6 Z<|Y<|M<|aB 1 Z Z Zy (D (qj 0 0))<|K<|an Z (λe=>?_) (λe=>?_)
 ·exact absurd e I0
 refine X<|M<|C 1 (t:=.box 0 0) Z (a6 Z Z)<|bA 2 (s.a+1) Z Z Zy O0<|C 0 (t:=.box 0 0) Z (a6 Z Z)<|H 2 Z<|ar 2 Z<|aO<|⟨⟨.inr Z,_,.cons (eZ Z Z gT Z) .nil,(by rw[ya b c];rfl),Z⟩,je (ya b c),Z⟩
def vX(N:Nat)(s:PS)(h:PK N s):CtM 236 92 [.sl (s.l.map Tok.tree),nI s.a,bT s.bad] [] (aK s).2.cells ((aK s).1.tree):=by
 have e:=h.hl;have d:=h.ina;refine CtM.of (n:=13) func236 Z Z Z Z Z λw0 G0 f=>?_
 refine ar 1 Z<|Y<|M<|C 1 (t:=.agg [nI s.nxt.k,sT s.nxt.x]) Z (dS Z Z Z (vU s h.hl h.ina) Z Z Z)<|C 0 (t:=nI s.nxt.k) Z (BE Z Z mQ Z)<|aB 0 Z Z Zy (D (e9 s.nxt.k 1))<|K<|an Z (λc=>?_) (λc=>?_)
 ·have b:decide (s.nxt.k=1)=true:=decide_eq_true c;refine M<|ay 1 Z<|aH (r:=sT ((bI s).1)) (bs':=[(92,[.sl (((bI s).2.l).map Tok.tree),nI ((bI s).2.a),bT ((bI s).2.bad)]),(146,[sT (⟨#[]⟩),iT 0,iT 0,sT (⟨#[]⟩)])]) Z Z Z Z Z Z (vV s h.hl h.ina) Z Z Z Z<|H 2 Z<|aO<|⟨⟨.inr Z,_,.cons (eZ Z Z bJ Z) .nil,(by unfold aK;rw[if_pos b];rfl),Z⟩,by unfold aK;rw[if_pos b];rfl,Z⟩
 have b:¬decide (s.nxt.k=1)=true:=by rw[decide_eq_false c];exact Qk
 refine X<|M<|ay 1 Z<|aH (r:=.agg [iT ((dY s).1.t),iT ((dY s).1.n),sT ((dY s).1.s)]) (bs':=[(92,[.sl (((dY s).2.l).map Tok.tree),nI ((dY s).2.a),bT ((dY s).2.bad)]),(146,[sT (⟨#[]⟩),iT 0,iT 0,sT (⟨#[]⟩)])]) Z Z Z Z Z Z (JN N s h) Z Z Z Z<|H 2 Z<|aO<|⟨⟨.inr Z,_,.cons (eZ Z Z bJ Z) .nil,(by unfold aK;rw[if_neg b];rfl),Z⟩,by unfold aK;rw[if_neg b];rfl,Z⟩
def PO(N:Nat)(s:PS)(h:PK N s):CtM 237 92 [.sl (s.l.map Tok.tree),nI s.a,bT s.bad] [] (gH s).2.cells (nI ((gH s).1)):=by
 have i:=h.hl;have g:=h.ina;refine CtM.of (n:=18) func237 Z Z Z Z Z λw0 G0 j=>?_
 refine ar 1 Z<|Y<|aG<|M<|ay 1 Z<|aH (r:=bT ((aa (aT yE) s).1)) (bs':=[(92,[.sl (((aa (aT yE) s).2.l).map Tok.tree),nI ((aa (aT yE) s).2.a),bT ((aa (aT yE) s).2.bad)])]) Z Z Z Z Z Z (fQ s yE h.hl h.ina) Z Z Z Z<|H 1 Z<|aF Z (λb=>?_) (λb=>?_)
 ·refine ar 1 Z<|aO<|⟨⟨.inr Z,_,.cons Z .nil,jc (a:=1) (by rw[OI b]),Z⟩,dF (OI b),Z⟩
 refine M<|ay 1 Z<|aH (r:=bT ((aa (aT yN) (aa (aT yE) s).2).1)) (bs':=[(92,[.sl (((aa (aT yN) (aa (aT yE) s).2).2.l).map Tok.tree),nI ((aa (aT yN) (aa (aT yE) s).2).2.a),bT ((aa (aT yN) (aa (aT yE) s).2).2.bad)])]) Z Z Z Z Z Z (fQ (aa (aT yE) s).2 yN (h.kp (ch (c:=aT yE) Z)).hl (h.kp (ch (c:=aT yE) Z)).ina) Z Z Z Z<|H 1 Z<|aF Z (λd=>?_) (λd=>?_)
 ·refine ar 1 Z<|aO<|⟨⟨.inr Z,_,.cons Z .nil,jc (a:=2) (by rw[OJ b d]),Z⟩,dF (OJ b d),Z⟩
 refine M<|ay 1 Z<|aH (r:=bT ((aa (aT qm) (aa (aT yN) (aa (aT yE) s).2).2).1)) (bs':=[(92,[.sl (((aa (aT qm) (aa (aT yN) (aa (aT yE) s).2).2).2.l).map Tok.tree),nI ((aa (aT qm) (aa (aT yN) (aa (aT yE) s).2).2).2.a),bT ((aa (aT qm) (aa (aT yN) (aa (aT yE) s).2).2).2.bad)])]) Z Z Z Z Z Z (fQ (aa (aT yN) (aa (aT yE) s).2).2 qm ((h.kp (ch (c:=aT yE) Z)).kp (ch (c:=aT yN) Z)).hl ((h.kp (ch (c:=aT yE) Z)).kp (ch (c:=aT yN) Z)).ina) Z Z Z Z<|H 1 Z<|aF Z (λe=>?_) (λe=>?_)
 ·refine ar 1 Z<|aO<|⟨⟨.inr Z,_,.cons Z .nil,jc (a:=3) (by rw[OL b d e]),Z⟩,dF (OL b d e),Z⟩
 refine M<|ay 1 Z<|aH (r:=bT ((aa (aT B3) (aa (aT qm) (aa (aT yN) (aa (aT yE) s).2).2).2).1)) (bs':=[(92,[.sl (((aa (aT B3) (aa (aT qm) (aa (aT yN) (aa (aT yE) s).2).2).2).2.l).map Tok.tree),nI ((aa (aT B3) (aa (aT qm) (aa (aT yN) (aa (aT yE) s).2).2).2).2.a),bT ((aa (aT B3) (aa (aT qm) (aa (aT yN) (aa (aT yE) s).2).2).2).2.bad)])]) Z Z Z Z Z Z (fQ (aa (aT qm) (aa (aT yN) (aa (aT yE) s).2).2).2 B3 (((h.kp (ch (c:=aT yE) Z)).kp (ch (c:=aT yN) Z)).kp (ch (c:=aT qm) Z)).hl (((h.kp (ch (c:=aT yE) Z)).kp (ch (c:=aT yN) Z)).kp (ch (c:=aT qm) Z)).ina) Z Z Z Z<|H 1 Z<|aF Z (λf=>?_) (λf=>?_)
 ·refine ar 1 Z<|aO<|⟨⟨.inr Z,_,.cons Z .nil,jc (a:=4) (by rw[JM b d e,if_pos f]),Z⟩,dF ((JM b d e).trans (if_pos f)),Z⟩
 refine X<|M<|C 1 (t:=.box 0 0) Z (a6 Z Z)<|H 2 Z<|ar 1 Z<|aO<|⟨⟨.inr Z,_,.cons Z .nil,jc (a:=0) (by rw[JM b d e,if_neg (by rw[f];exact Qk)]),Z⟩,dF ((JM b d e).trans (if_neg (by rw[f];exact Qk))),Z⟩
def JO(N:Nat)(s:PS)(h:PK N s):CtM 82 92 [.sl (s.l.map Tok.tree),nI s.a,bT s.bad] [] (e8 N s).2.cells (.sl ((e8 N s).1.map aE)):=by
 have A:=h.hl;have z:=h.ina;refine CtM.of (n:=15) func82 Z Z Z Z Z λw0 G0 E=>?_
 refine M<|C 0 (t:=.sl []) Z (cA (.inr Z) dn)<|K<|M<|ay 1 Z<|aH (r:=sT ((bI s).1)) (bs':=[(92,[.sl (((bI s).2.l).map Tok.tree),nI ((bI s).2.a),bT ((bI s).2.bad)])]) Z Z Z Z Z Z (vV s h.hl h.ina) Z Z Z Z<|vB (v:=.string (bI s).1) (k:=0) (rs':=[some ⟨9,1,[(bI s).1].map aE,true⟩]) Z Z Z Z bc cC cw Z Z Z Z Z<|H 1 Z<|Y<|aG<|mt 0 (rs':=[some ⟨9,1,[(bI s).1].map aE,false⟩]) Z Z<|bn (λx q=>∃(m:Nat) (b:List ByteArray) (t:PS),(PK N t/\t.l.length-t.a<=m/\b.length+m<=N+1/\cD (aT yC) (λl s=>(l++[(bI s).1],(bI s).2)) m b t=e8 N s)/\x=m+1/\q=⟨15,[(0,.box 0 0),(3,.own 0)],[(92,[.sl (t.l.map Tok.tree),nI t.a,bT t.bad])],[some ⟨9,1,b.map aE,false⟩]⟩) 1 1 ⟨N,[(bI s).1],(bI s).2,⟨h.kp fS,by have:=(h.kp fS).len;omega,by simp;omega,Z⟩,Z,Z⟩ .rf ?_;rintro x q ⟨m,b,t,⟨i,p,y,d⟩,rfl,rfl⟩;refine Y<|M<|ay 1 Z<|aH (r:=bT ((aa (aT yC) t).1)) (bs':=[(92,[.sl (((aa (aT yC) t).2.l).map Tok.tree),nI ((aa (aT yC) t).2.a),bT ((aa (aT yC) t).2.bad)])]) Z Z Z Z Z Z (fQ t yC i.hl i.ina) Z Z Z Z<|K<|aF Z (λf=>?_) (λf=>?_)
 ·obtain⟨D,d,j,o⟩:=gj Z p d f;have g:=i.kp (ch (c:=aT yC) Z);have B:=fS (aa (aT yC) t).2 g.ina;have u:=i.big;refine X<|aG<|am<|ay 2 Z<|aH (r:=sT ((bI (aa (aT yC) t).2).1)) (bs':=[(92,[.sl (((bI (aa (aT yC) t).2).2.l).map Tok.tree),nI ((bI (aa (aT yC) t).2).2.a),bT ((bI (aa (aT yC) t).2).2.bad)])]) Z Z Z Z Z Z (vV (aa (aT yC) t).2 g.hl g.ina) Z Z Z Z<|C 0 (t:=.sl [sT ((bI (aa (aT yC) t).2).1)]) Z (aQ Z bc cw Z I0 I0 Z Z Z Z Z)<|bD (bs':=[(92,[.sl (((bI (aa (aT yC) t).2).2.l).map Tok.tree),nI ((bI (aa (aT yC) t).2).2.a),bT ((bI (aa (aT yC) t).2).2.bad)])]) (rs':=[some ⟨9,1,(b++[(bI (aa (aT yC) t).2).1]).map aE,false⟩]) Z Z Z Z cC Z Z Z Z (by intro e w;simp only[Qw,QH,or_false]at w;subst w;rfl) (AllC.lit Z) (AllC.lit Z) (by simp only[Qr,Qn,QC];omega) Z Z Z (by rw[Qz];rfl)<|H 1 Z<|⟨_,_,?_,⟨m-1,(b++[(bI (aa (aT yC) t).2).1]),(bI (aa (aT yC) t).2).2,?_,Z,Z⟩,.rf⟩
  ·omega
  exact⟨g.kp fS,kL j o fS sq g.ina O0,by simp;omega,d⟩
 refine bh<|ar 2 Z<|cQ 0 (bs':=[(92,[.sl (((aa (aT yC) t).2.l).map Tok.tree),nI ((aa (aT yC) t).2.a),bT ((aa (aT yC) t).2.bad)])]) (rs':=[none]) Z Z Z Z<|aO<|⟨⟨.inr Z,_,.cons Z .nil,yc (by rw[eV d f]),Z⟩,dF (eV d f),Z⟩
def Ci{N:Nat}{s:PS}(h:(aa (aT yR) (ak (aT yL) s).2).1=true):dj N s=([],(aa (aT yR) (ak (aT yL) s).2).2):=by
 unfold dj;exact if_pos h
def Cj{N m:Nat}{s t:PS}{b:List Trm}(h:(aa (aT yR) (ak (aT yL) s).2).1=false)(c:cD (aT yC) (λl s=>(l++[(aK s).1],(aK s).2)) m b t=cD (aT yC) (λl s=>(l++[(aK s).1],(aK s).2)) N [(aK (aa (aT yR) (ak (aT yL) s).2).2).1] (aK (aa (aT yR) (ak (aT yL) s).2).2).2)(a:(aa (aT yC) t).1=false):dj N s=(b,(ak (aT yR) (aa (aT yC) t).2).2):=by
 have e:=eV c a;unfold dj;refine(if_neg (by rw[h];exact Qk)).trans ?_;show((cD (aT yC) (λl s=>(l++[(aK s).1],(aK s).2)) N [(aK (aa (aT yR) (ak (aT yL) s).2).2).1] (aK (aa (aT yR) (ak (aT yL) s).2).2).2).1,(ak (aT yR) (cD (aT yC) (λl s=>(l++[(aK s).1],(aK s).2)) N [(aK (aa (aT yR) (ak (aT yL) s).2).2).1] (aK (aa (aT yR) (ak (aT yL) s).2).2).2).2).2)=_
 rw[e]
def JP{f:α->Tree}{m:List α}(h:[]=m):(Tree.sl [])=.sl (m.map f):=by subst h;rfl
noncomputable def iw (N:Nat) (s:PS):List ByteArray×PS:=if(aa (aT yR) (ak (aT yL) s).2).1=true then([],(aa (aT yR) (ak (aT yL) s).2).2)else((e8 N (aa (aT yR) (ak (aT yL) s).2).2).1,(ak (aT yR) (e8 N (aa (aT yR) (ak (aT yL) s).2).2).2).2)
def F1{N:Nat}{s:PS}(h:(aa (aT yR) (ak (aT yL) s).2).1=true):iw N s=([],(aa (aT yR) (ak (aT yL) s).2).2):=if_pos h
def F2{N:Nat}{s:PS}(h:(aa (aT yR) (ak (aT yL) s).2).1=false):iw N s=((e8 N (aa (aT yR) (ak (aT yL) s).2).2).1,(ak (aT yR) (e8 N (aa (aT yR) (ak (aT yL) s).2).2).2).2):=if_neg (by rw[h];exact Qk)
def lI:nY prog 142=some (146,4,48):=U
def bK:ic prog 142=some (146,4):=U
def JQ(N:Nat)(s:PS)(h:PK N s):CtM 235 92 [.sl (s.l.map Tok.tree),nI s.a,bT s.bad] [] (dj N s).2.cells (.sl ((dj N s).1.map Trm.tree)):=by
 have E:=h.hl;have D:=h.ina;have j:=h.kp (fb (c:=aT yL) Z);have o:=j.kp (ch (c:=aT yR) Z);refine CtM.of (n:=21) func235 Z Z Z Z Z λw0 G0 G=>?_
 refine M<|C 0 (t:=.sl []) Z (cA (.inr Z) dn)<|K<|M<|ay 1 Z<|aH (r:=.tup []) (bs':=[(92,[.sl (((ak (aT yL) s).2.l).map Tok.tree),nI ((ak (aT yL) s).2.a),bT ((ak (aT yL) s).2.bad)])]) Z Z Z Z Z Z (lF s yL h.hl h.ina) Z Z Z Z<|K<|Y<|M<|ay 1 Z<|aH (r:=bT ((aa (aT yR) (ak (aT yL) s).2).1)) (bs':=[(92,[.sl (((aa (aT yR) (ak (aT yL) s).2).2.l).map Tok.tree),nI ((aa (aT yR) (ak (aT yL) s).2).2.a),bT ((aa (aT yR) (ak (aT yL) s).2).2.bad)])]) Z Z Z Z Z Z (fQ (ak (aT yL) s).2 yR j.hl j.ina) Z Z Z Z<|K<|aF Z (λf=>?_) (λf=>?_)
 ·refine M<|C 0 (t:=.sl []) Z (cA (.inr Z) dn)<|K<|aO<|⟨⟨.inr Z,_,.cons Z .nil,JP (by rw[Ci f]),Z⟩,dF (Ci f),Z⟩
 refine X<|M<|ay 1 Z<|aH (r:=.agg [sT ((aK (aa (aT yR) (ak (aT yL) s).2).2).1.v),iT ((aK (aa (aT yR) (ak (aT yL) s).2).2).1.c.t),iT ((aK (aa (aT yR) (ak (aT yL) s).2).2).1.c.n),sT ((aK (aa (aT yR) (ak (aT yL) s).2).2).1.c.s)]) (bs':=[(92,[.sl (((aK (aa (aT yR) (ak (aT yL) s).2).2).2.l).map Tok.tree),nI ((aK (aa (aT yR) (ak (aT yL) s).2).2).2.a),bT ((aK (aa (aT yR) (ak (aT yL) s).2).2).2.bad)])]) Z Z Z Z Z Z (vX N (aa (aT yR) (ak (aT yL) s).2).2 o) Z Z Z Z<|iX (es:=([(aK (aa (aT yR) (ak (aT yL) s).2).2).1].map Trm.tree)) (k:=0) (rs':=[some ⟨146,4,[(aK (aa (aT yR) (ak (aT yL) s).2).2).1].map Trm.tree,true⟩]) Z Z Z Z bK jC Z I0 I0 Z Z Z Z Z (fx _) Z Z Z<|H 1 Z<|Y<|aG<|mt 0 (rs':=[some ⟨146,4,[(aK (aa (aT yR) (ak (aT yL) s).2).2).1].map Trm.tree,false⟩]) Z Z<|bn (λA x=>∃(m:Nat) (b:List Trm) (t:PS),(PK N t/\t.l.length-t.a<=m/\b.length+m<=N+1/\cD (aT yC) (λl s=>(l++[(aK s).1],(aK s).2)) m b t=cD (aT yC) (λl s=>(l++[(aK s).1],(aK s).2)) N [(aK (aa (aT yR) (ak (aT yL) s).2).2).1] (aK (aa (aT yR) (ak (aT yL) s).2).2).2)/\A=m+1/\x=⟨21,[(0,.box 0 0),(3,.own 0)],[(92,[.sl (t.l.map Tok.tree),nI t.a,bT t.bad])],[some ⟨146,4,b.map Trm.tree,false⟩]⟩) 1 1 ⟨N,[(aK (aa (aT yR) (ak (aT yL) s).2).2).1],(aK (aa (aT yR) (ak (aT yL) s).2).2).2,⟨o.kp fT,by have:=(o.kp fT).len;omega,by simp;omega,Z⟩,Z,Z⟩ .rf ?_;rintro A x ⟨m,b,t,⟨i,w,B,d⟩,rfl,rfl⟩;refine Y<|M<|ay 1 Z<|aH (r:=bT ((aa (aT yC) t).1)) (bs':=[(92,[.sl (((aa (aT yC) t).2.l).map Tok.tree),nI ((aa (aT yC) t).2.a),bT ((aa (aT yC) t).2.bad)])]) Z Z Z Z Z Z (fQ t yC i.hl i.ina) Z Z Z Z<|K<|aF Z (λg=>?_) (λg=>?_)
 ·obtain⟨F,d,q,u⟩:=gj Z w d g;have p:=i.kp (ch (c:=aT yC) Z);have y:=i.big;refine X<|aG<|am<|ay 2 Z<|aH (r:=.agg [sT ((aK (aa (aT yC) t).2).1.v),iT ((aK (aa (aT yC) t).2).1.c.t),iT ((aK (aa (aT yC) t).2).1.c.n),sT ((aK (aa (aT yC) t).2).1.c.s)]) (bs':=[(92,[.sl (((aK (aa (aT yC) t).2).2.l).map Tok.tree),nI ((aK (aa (aT yC) t).2).2.a),bT ((aK (aa (aT yC) t).2).2.bad)])]) Z Z Z Z Z Z (vX N (aa (aT yC) t).2 p) Z Z Z Z<|C 0 (t:=.sl [.agg [sT ((aK (aa (aT yC) t).2).1.v),iT ((aK (aa (aT yC) t).2).1.c.t),iT ((aK (aa (aT yC) t).2).1.c.n),sT ((aK (aa (aT yC) t).2).1.c.s)]]) Z (aQ Z bK jC Z I0 I0 Z Z Z Z Z)<|bD (bs':=[(92,[.sl (((aK (aa (aT yC) t).2).2.l).map Tok.tree),nI ((aK (aa (aT yC) t).2).2.a),bT ((aK (aa (aT yC) t).2).2.bad)])]) (rs':=[some ⟨146,4,(b++[(aK (aa (aT yC) t).2).1]).map Trm.tree,false⟩]) Z Z Z Z lI Z Z Z Z (by intro e z;simp only[Qw,QH,or_false]at z;subst z;rfl) (AllC.lit Z) (AllC.lit Z) (by simp only[Qr,Qn,QC];omega) Z Z Z (by rw[Qz];rfl)<|H 1 Z<|⟨_,_,?_,⟨m-1,(b++[(aK (aa (aT yC) t).2).1]),(aK (aa (aT yC) t).2).2,?_,Z,Z⟩,.rf⟩
  ·omega
  exact⟨p.kp fT,kL q u fT lH p.ina O0,by simp;omega,d⟩
 refine bh<|M<|ay 1 Z<|aH (r:=.tup []) (bs':=[(92,[.sl (((ak (aT yR) (aa (aT yC) t).2).2.l).map Tok.tree),nI ((ak (aT yR) (aa (aT yC) t).2).2.a),bT ((ak (aT yR) (aa (aT yC) t).2).2.bad)])]) Z Z Z Z Z Z (lF (aa (aT yC) t).2 yR (i.kp (ch (c:=aT yC) Z)).hl (i.kp (ch (c:=aT yC) Z)).ina) Z Z Z Z<|K<|ar 2 Z<|cQ 0 (bs':=[(92,[.sl (((ak (aT yR) (aa (aT yC) t).2).2.l).map Tok.tree),nI ((ak (aT yR) (aa (aT yC) t).2).2.a),bT ((ak (aT yR) (aa (aT yC) t).2).2.bad)])]) (rs':=[none]) Z Z Z Z<|aO<|⟨⟨.inr Z,_,.cons Z .nil,yc (by rw[Cj f d g]),Z⟩,dF (Cj f d g),Z⟩
def ML(N:Nat)(s:PS)(h:PK N s):CtM 39 92 [.sl (s.l.map Tok.tree),nI s.a,bT s.bad] [] (iw N s).2.cells (.sl ((iw N s).1.map aE)):=by
 have g:=h.hl;have f:=h.ina;have d:=h.kp (fb (c:=aT yL) Z);have e:=d.kp (ch (c:=aT yR) Z);refine CtM.of (n:=13) func39 Z Z Z Z Z λw0 G0 i=>?_
 refine M<|C 0 (t:=.sl []) Z (cA (.inr Z) dn)<|K<|M<|ay 1 Z<|aH (r:=.tup []) (bs':=[(92,[.sl (((ak (aT yL) s).2.l).map Tok.tree),nI ((ak (aT yL) s).2.a),bT ((ak (aT yL) s).2.bad)])]) Z Z Z Z Z Z (lF s yL h.hl h.ina) Z Z Z Z<|K<|Y<|M<|ay 1 Z<|aH (r:=bT ((aa (aT yR) (ak (aT yL) s).2).1)) (bs':=[(92,[.sl (((aa (aT yR) (ak (aT yL) s).2).2.l).map Tok.tree),nI ((aa (aT yR) (ak (aT yL) s).2).2.a),bT ((aa (aT yR) (ak (aT yL) s).2).2.bad)])]) Z Z Z Z Z Z (fQ (ak (aT yL) s).2 yR d.hl d.ina) Z Z Z Z<|K<|aF Z (λb=>?_) (λb=>?_)
 ·refine M<|C 0 (t:=.sl []) Z (cA (.inr Z) dn)<|K<|aO<|⟨⟨.inr Z,_,.cons Z .nil,JP (by rw[F1 b]),Z⟩,dF (F1 b),Z⟩
 refine X<|M<|ay 1 Z<|aH (r:=.sl (((e8 N (aa (aT yR) (ak (aT yL) s).2).2).1).map aE)) (bs':=[(92,[.sl (((e8 N (aa (aT yR) (ak (aT yL) s).2).2).2.l).map Tok.tree),nI ((e8 N (aa (aT yR) (ak (aT yL) s).2).2).2.a),bT ((e8 N (aa (aT yR) (ak (aT yL) s).2).2).2.bad)])]) Z Z Z Z Z Z (JO N (aa (aT yR) (ak (aT yL) s).2).2 e) Z Z Z Z<|H 1 Z<|M<|ay 1 Z<|aH (r:=.tup []) (bs':=[(92,[.sl (((ak (aT yR) (e8 N (aa (aT yR) (ak (aT yL) s).2).2).2).2.l).map Tok.tree),nI ((ak (aT yR) (e8 N (aa (aT yR) (ak (aT yL) s).2).2).2).2.a),bT ((ak (aT yR) (e8 N (aa (aT yR) (ak (aT yL) s).2).2).2).2.bad)])]) Z Z Z Z Z Z (lF (e8 N (aa (aT yR) (ak (aT yL) s).2).2).2 yR (e.kp (py N)).hl (e.kp (py N)).ina) Z Z Z Z<|K<|ar 2 Z<|aO<|⟨⟨.inr Z,_,.cons Z .nil,yc (by rw[F2 b]),Z⟩,dF (F2 b),Z⟩
section
variable {w0:World} {o:Oper} {S:St}
def JR{op:BinOp}{k t:TypeId}{x y:Operand}{a b c d v:Value}(g:o.op=.binOp op k x y t)(r:S.ev x=.agg [.sc a,.sc b])(s:S.ev y=.agg [.sc c,.sc d])(h:∀w,(do eqGuard op k x y (.agg #[a,b]) (.agg #[c,d]);binOp op k (.agg #[a,b]) (.agg #[c,d]):Sem Value).run prog w=.ok v w):OpOK o S (.sc v):=by
 intro w0 G0 bx rv w T A n;obtain⟨xs,l,i⟩:=(bY n r (by rw[g];simp[Op.operands])).isAgg;obtain⟨B,m,j⟩:=(bY n s (by rw[g];simp[Op.operands])).isAgg;have f:∀{us:List Value} {p q:Value},FT (en w G0 bx rv S.rs) us [.sc p,.sc q]->us=[p,q]:=λ{us p q} e=>by
  match us,e with
  |[u,v],e=>rw[e.head.isSc,e.tail.isSc]
  |[],e=>cases e
  |[u],e=>cases e.tail
  |u::v::z::us,e=>cases e.tail.tail
 rw[f i]at l;rw[f j]at m;refine OpRuns.of_ok (v:=v) (W':=w) ?_ ⟨.pure (.sc _ .nil) .nil,Below.refl _ _⟩;simp only[execOp,g,l,m];rw[Sem.run_bind,h w];rfl
end
def gl{P:Program}{w:World}{t:TypeId}{cs:Array Value}{off:Nat}{v:Value}(a:eN P t=true)(b:cs[off]? =some v):(part t cs off).run P w=.ok v w:=by
 unfold eN at a;split at a
 ·next d hd=>
  have e:d.isRow=false:=by simpa using a
  have c:(isAgg t).run P w=.ok false w:=by
   simp only[isAgg,Sem.run_bind,run_underlying hd,Result.andThen_ok];cases d<;>first|rfl|cases e
  simp[part,c,b]
 cases a
def tV{P:Program}{w:World}{f g:Field}{d:Nat}{k:IntKind}{m n:Int}{a b:ByteArray}(i:(f.name== "_")=false)(j:(g.name== "_")=false)(r:P.underlying f.type=some (.int k))(s:P.underlying g.type=some .string)(of:f.offset=0)(q:g.offset=1)(c:eN P f.type=true)(e:eN P g.type=true):(Op.eqFields (d+1) #[.int k m,.string a] #[.int k n,.string b] [f,g]).run P w=.ok (m==n&&a==b) w:=by
 have l:f.name≠ "_" :=λh=>by rw[h]at i;exact absurd i I
 have o:g.name≠ "_" :=λh=>by rw[h]at j;exact absurd j I
 rw[beq_toListBytes];simp only[Op.eqFields,l,o,ne_eq,not_false_eq_true,if_true,Sem.run_bind,of,q];rw[gl c (v:=.int k m) Z];simp only[Result.andThen_ok];rw[gl c (v:=.int k n) Z];simp only[Result.andThen_ok];rw[run_equalIn_int w d _ k k m n r];simp only[Result.andThen_ok];cases p:m==n
 ·simp
 simp only[Bool.not_true,RM,if_false,Ri,Sem.run_bind];rw[gl e (v:=.string a) Z];simp only[Result.andThen_ok];rw[gl e (v:=.string b) Z];simp only[Result.andThen_ok];rw[run_equalIn_string w d _ a b s];simp only[Result.andThen_ok];cases a.toList==b.toList<;>simp
def Eg{x y:Operand}(k j:Nat)(a b:ByteArray)(w:World):(do eqGuard .eql 134 x y (.agg #[.int .i64 ((k:Nat):Int),.string a]) (.agg #[.int .i64 ((j:Nat):Int),.string b]);binOp .eql 134 (.agg #[.int .i64 ((k:Nat):Int),.string a]) (.agg #[.int .i64 ((j:Nat):Int),.string b]):Sem Value).run prog w=.ok (.bool (decide (k=j)&&decide (a=b))) w:=by
 have n:prog.underlying 134=some (.struct (prog.fieldsOf 134)):=U
 have q:prog.stoodInHeld 134=false:=U
 obtain⟨f,g,i,o,p,s,t,of,r,l,m⟩:∃f g:Field,(prog.fieldsOf 134).toList=[f,g]/\(f.name== "_")=false/\(g.name== "_")=false/\prog.underlying f.type=some (.int .i64)/\prog.underlying g.type=some .string/\f.offset=0/\g.offset=1/\eN prog f.type=true/\eN prog g.type=true:=⟨(prog.fieldsOf 134)[0]!,(prog.fieldsOf 134)[1]!,U,U,U,U,U,U,U,U,U⟩;rw[Sem.run_bind,run_eqGuard_agg _ _ _ _ _ _ _ U];simp only[Result.andThen_ok];rw[run_eql_struct,show(10000:Nat)=9999+1 from rfl,run_equalIn_agg w 9999 _ _ _ n q,i,tV (d:=9998) o p s t of r l m];simp only[Result.andThen_ok];have e:((k:Int)==(j:Int))=decide (k=j):=by
  by_cases h:k=j
  ·subst h;simp
  rw[decide_eq_false h];exact beq_eq_false_iff_ne.2 λu=>h O
 have c:(a==b)=decide (a=b):=(beq_toListBytes a b).trans (aM a b);rw[e,c]
