import Derived.Test.YtmhcanmapkenbaaGreatDoorA06
set_option linter.defProp false
open Go.Proofs.Tryz
namespace Go.Proofs.YtmhcanmapkenbaaGreatDoor
open Go.RowKit
open Lib renaming hid→J
variable{y:Operand}
def DK(L:LayT)(n:Nat):Nat->List Oper->List (Nat×Tree)->List (TypeId×List Tree)->Option (Oper×Nat×List Oper×List (Nat×Tree)×List (TypeId×List Tree))
 |0,o::os,sl,bs=>match o.guard with
  |none=>m6 n o.dst λd=>some (o,d,os,sl,bs)
  |some _=>none
 |k+1,o::os,sl,bs=>Pw L n sl bs o λsl' bs'=>DK L n k os sl' bs'
 |_,[],_,_=>none
def qt{w0:World}{G0:Bse}{ops:Array Oper}{Q:Exit->St->Prop}{n d:Nat}{rs:List (Option Row)}{t:Tree}{o:Oper}{a:List Oper}{sl':List (Nat×Tree)}{bs':List (TypeId×List Tree)}(l:OpOK o ⟨n,sl',bs',rs⟩ t)(K:AOps w0 G0 ops a Q ⟨n,(d,t)::sl',bs',rs⟩):∀(k:Nat) {b:List Oper} {sl:List (Nat×Tree)} {bs:List (TypeId×List Tree)},DK vu n k b sl bs=some (o,d,a,sl',bs')->AOps w0 G0 ops b Q ⟨n,sl,bs,rs⟩
 |0,[],_,_,h=>by cases h
 |0,o1::b,sl,bs,h=>by
  simp only[DK]at h;cases i:o1.guard with
  |some g=>rw[i]at h;cases h
  |none=>
   rw[i]at h;obtain⟨e,c,f,j⟩:=fa h;simp only[Qy,Sg]at j;obtain⟨rfl,rfl,rfl,rfl,rfl⟩:=j;exact iz i c f l K
 |k+1,[],_,_,h=>by cases h
 |k+1,o1::b,sl,bs,h=>by
  obtain⟨p,m,c,f⟩:=E8 BK h;exact c _ _ _ _ _ _ (qt l K k f)
def ac{w0:World}{G0:Bse}{ops:Array Oper}{Q:Exit->St->Prop}{n d:Nat}{rs:List (Option Row)}{o:Oper}{b a:List Oper}{sl sl':List (Nat×Tree)}{bs bs':List (TypeId×List Tree)}(k:Nat){t:Tree}(h:DK vu n k b sl bs=some (o,d,a,sl',bs'))(c:OpOK o ⟨n,sl',bs',rs⟩ t)(K:AOps w0 G0 ops a Q ⟨n,(d,t)::sl',bs',rs⟩):AOps w0 G0 ops b Q ⟨n,sl,bs,rs⟩:=qt c K k h
def C:type_of% @ac:=@ac
def Jb(sl:List (Nat×Tree))(o:Oper):Option (BinOp×TypeId×Operand×Operand×Value×Value):=match o.op with
 | .binOp op ty x y _=>DG sl x λt=>match t with
  | .sc a=>DG sl y λu=>match u with
   | .sc b=>some (op,ty,x,y,a,b)
   |_=>none
  |_=>none
 |_=>none
def BL{n:Nat}{sl:List (Nat×Tree)}{bs:List (TypeId×List Tree)}{rs:List (Option Row)}{o:Oper}{op:BinOp}{ty:TypeId}{x:Operand}{a b v:Value}(h:Jb sl o=some (op,ty,x,y,a,b))(i:∀w,(do eqGuard op ty x y a b;binOp op ty a b:Sem Value).run prog w=.ok v w):OpOK o ⟨n,sl,bs,rs⟩ (.sc v):=by
 unfold Jb at h;cases e:o.op with
 |binOp p tp x1 y1 yt=>
  rw[e]at h;have d:=vo (n:=n) (bs:=bs) (rs:=rs) h;cases f:St.ev ⟨n,sl,bs,rs⟩ x1 with
  |sc a1=>
   rw[f]at d;have c:=vo (n:=n) (bs:=bs) (rs:=rs) d;cases g:St.ev ⟨n,sl,bs,rs⟩ y1 with
   |sc b1=>
    rw[g]at c;simp only[Qy,Sg]at c;obtain⟨rfl,rfl,rfl,rfl,rfl,rfl⟩:=c;exact aL e f g i
   |_=>rw[g]at c;cases c
  |_=>rw[f]at d;cases d
 |_=>rw[e]at h;cases h
def aB{w0:World}{G0:Bse}{ops:Array Oper}{Q:Exit->St->Prop}{n d:Nat}{rs:List (Option Row)}{o:Oper}{f c:List Oper}{sl sl':List (Nat×Tree)}{bs bs':List (TypeId×List Tree)}{op:BinOp}{ty:TypeId}{x:Operand}{a b v:Value}(k:Nat){t:Tree}(h:DK vu n k f sl bs=some (o,d,c,sl',bs'))(g:Jb sl' o=some (op,ty,x,y,a,b))(i:∀w,(do eqGuard op ty x y a b;binOp op ty a b:Sem Value).run prog w=.ok v w)(e:Tree.sc v=t)(K:AOps w0 G0 ops c Q ⟨n,(d,t)::sl',bs',rs⟩):AOps w0 G0 ops f Q ⟨n,sl,bs,rs⟩:=qt (e▸BL g i) K k h
def bA{w0:World}{G0:Bse}{ops:Array Oper}{Q:Exit->St->Prop}{n d:Nat}{rs:List (Option Row)}{o:Oper}{g f:List Oper}{sl sl':List (Nat×Tree)}{bs bs':List (TypeId×List Tree)}{op:BinOp}{ty:TypeId}{x:Operand}{a b:Value}{c:Int}(k m:Nat)(h:DK vu n k g sl bs=some (o,d,f,sl',bs'))(i:Jb sl' o=some (op,ty,x,y,a,b))(j:∀w,(do eqGuard op ty x y a b;binOp op ty a b:Sem Value).run prog w=.ok (.int .i64 (IntKind.i64.wrap c)) w)(e:c=m/\m<9223372036854775808)(K:AOps w0 G0 ops f Q ⟨n,(d,nI m)::sl',bs',rs⟩):AOps w0 G0 ops g Q ⟨n,sl,bs,rs⟩:=qt (jy e▸BL i j) K k h
def af{w0:World}{G0:Bse}{ops:Array Oper}{Q:Exit->St->Prop}{n:Nat}{rs:List (Option Row)}(k:Nat){a:List Oper}{sl sl':List (Nat×Tree)}{bs bs':List (TypeId×List Tree)}(h:DJ vu n k a sl bs=some ([],sl',bs'))(K:Q .normal ⟨n,sl',bs',rs⟩):AOps w0 G0 ops a Q ⟨n,sl,bs,rs⟩:=ay k h (ah K)
def H:type_of% @af:=@af
def ab{w0:World}{G0:Bse}{id:Nat}{Q:Exit->St->Prop}{S:St}{a:List Oper}{y:Code}(h:AOps w0 G0 a.toArray a (ug (AWP w0 G0 y Q) Q) S):AWP w0 G0 (.seq (.region id a.toArray false) y) Q S:=Y (am h)
def M:type_of% @ab:=@ab
def ar{w0:World}{G0:Bse}{id:Nat}{Q:Exit->St->Prop}{n:Nat}{rs:List (Option Row)}{y:Code}(k:Nat){a:List Oper}{sl sl':List (Nat×Tree)}{bs bs':List (TypeId×List Tree)}(h:DJ vu n k a sl bs=some ([],sl',bs'))(K:AWP w0 G0 y Q ⟨n,sl',bs',rs⟩):AWP w0 G0 (.seq (.region id a.toArray false) y) Q ⟨n,sl,bs,rs⟩:=Y (bO k h K)
def N:type_of% @ar:=@ar
def bg{S:St}{o:Oper}{x:Operand}{t e:TypeId}{n:Nat}{α:Type}{f:α->Tree}{l:List α}(a:o.op=.call {callee:=.builtin .len,args:=#[x],argTypes:=#[t]})(b:ic prog t=some (e,n))(c:S.ev x=.sl (l.map f)):OpOK o S (nI l.length):=av (iU a b c) (by rw[Qr])
def vv{S:St}{o:Oper}{x:Operand}{t e:TypeId}{n k:Nat}{R:Row}{α:Type}{f:α->Tree}{l:List α}(b:o.op=.call {callee:=.builtin .len,args:=#[x],argTypes:=#[t]})(c:ic prog t=some (e,n))(d:S.ev x=.own k)(a:S.rs[k]? =some (some R))(hl:R.es=l.map f):OpOK o S (nI l.length):=av (zB b c d a) (by rw[hl,Qr])
inductive RetA (S:St):List ResultVar->Tree->Prop
 |mk {x:ResultVar} {t r:Tree} (hx:I6 S x t) (e:t=r) (hp:r.plain=true):RetA S [x] r
def aV{w0:World}{G0:Bse}{S:St}{Q:Exit->St->Prop}{a:List ResultVar}{r:Tree}{P:Prop}(h:P)(d:(P,Q .ret S)=(RetA S a r,I7 a r .ret S)):AWP w0 G0 .ret Q S:=by
 injection d with b c
 subst b;cases h with
 |mk hx e hp=>exact aO (c▸⟨.inr Z,_,.cons hx .nil,e,hp⟩)
def eZ{S:St}{a ty b off n:Nat}{c:TypeId}{cs:List Tree}(d:S.get a=.box b off)(e:S.bs[b]? =some (c,cs))(hl:nT prog ty=some n)(f:Nat.ble (off+n) cs.length=true):I6 S (.cell a ty) (.agg ((cs.drop off).take n)):=⟨_,_,_,_,d,e,.inl ⟨n,hl,f,Z⟩⟩
def bR{S:St}{o:Oper}{c a b:Operand}{x y:Bool}{u:Tree}(e:o.op=.pick c a b)(d:S.ev c=.sc (.bool x))(f:S.ev a=if x=true then .sc (.bool y)else u)(g:S.ev b=.sc (.bool false)):OpOK o S (.sc (.bool (x&&y))):=by
 cases x with
 |true=>exact lW e d f
 |false=>exact lW e d g
def eo{S:St}{o:Oper}{c a b:Operand}{x y:Bool}{u:Tree}(e:o.op=.pick c a b)(d:S.ev c=.sc (.bool x))(f:S.ev a=.sc (.bool true))(g:S.ev b=if x=false then .sc (.bool y)else u):OpOK o S (.sc (.bool (x||y))):=by
 cases x with
 |true=>exact lW e d f
 |false=>exact lW e d g
def mJ(k:Nat)(es:List Tree):Tree->Tree
 | .own j=>if j=k then .sl es else .own j
 | .elp j off=>if j=k then .any else .elp j off
 | .agg _| .tup _=>.any
 |t=>t
def E9(k:Nat)(es:List Tree):Tree->Tree
 | .agg cs=>.agg (cs.map (mJ k es))
 |t=>mJ k es t
section
variable {w0 w:World} {G0:Bse} {bs:List (TypeId×List Tree)} {rs:List (Option Row)} {bx:List Nat} {rv:List Value} {k:Nat} {R:Row} {v:Value}
def l7(j:Nat)(X:Row)(h:(rs.set k none)[j]? =some (some X)):j≠k/\rs[j]? =some (some X):=by
 by_cases a:j=k
 ·subst a;have hl:=(Qm.1 h).1;rw[Rr]at hl;rw[RB hl]at h;cases h
 rw[RO (λe=>a e.symm)]at h;exact⟨a,h⟩
def rl{b:Nat}(h:b∈bX bx rv (rs.set k none)):b∈bX bx rv rs:=by
 rcases aN.1 h with a|⟨j,u,X,a,c,d⟩
 ·exact aN.2 (.inl a)
 exact aN.2 (.inr ⟨j,u,X,a,(l7 j X c).2,d⟩)
def rm:∀b,b<w.heap.size->¬GG G0 bx rv rs b->w.heap[b]? =w.heap[b]? /\¬GG G0 bx rv (rs.set k none) b:=λ_ _ a=>⟨Z,λh=>a (h.imp id rl)⟩
def Fa(j:Nat)(u:Value)(a:j≠k)(h:dX rv rs j=some u):dX rv (rs.set k none) j=some u:=by
 unfold dX at h⊢;rw[RO (λe=>a e.symm)];exact h
def Jc(c:Mem w0 G0 bs rs bx rv w)(b:rs[k]? =some (some R))(h:dX rv rs k=some v):PT w (GG G0 bx rv (rs.set k none)) [v] [.sl R.es]:=by
 have d:rv[k]? =some v:=by simpa[dX,b]using h
 obtain⟨xs,m,q,y,_⟩:=c.row k v R d b;have f:=q.mono (G':=GG G0 bx rv (rs.set k none)) (Qi _) rm;rcases m.2 with⟨rfl,l⟩|⟨g,cap,cur,rfl,z,s,l,i,A,B⟩
 ·have:R.es=[]:=QI l;rw[this];exact dn _ _
 refine .sl g 0 cap _ xs R.es (QK.1 s).1 (λa=>?_) (λj u x=>?_) Z l (by unfold maxLen at i;omega) f .nil
 ·rcases a with a|a
  ·have r:=c.g0 g a;rcases c.ge g (aN.2 (.inr ⟨k,_,R,d,b,rfl⟩))with n|n
   ·omega
   exact r.2.2 n
  rcases aN.1 a with a|⟨j,u,X,o,e,p⟩
  ·exact c.nodup.br k _ R g d b Z a
  obtain⟨t,e⟩:=l7 j X e;exact c.nodup.rr j k u _ X R g t o e d b p Z
 have:=m.cells (g:=g) Z j u x;rw[Addr.add_mid]at this;exact this
def BM(d:Mem w0 G0 bs rs bx rv w)(a:rs[k]? =some (some R)){u:Value}{t:Tree}(h:FT (en w G0 bx rv rs) [u] [t]):FT (en w G0 bx rv (rs.set k none)) [u] [mJ k R.es t]:=by
 cases h with
 |pure h _=>
  cases t<;>first
   |exact .pure (h.mono (Qi _) rm) .nil
   |(simp only[mJ];exact .any _ .nil)
   |(cases h)
 |any=>exact .any _ .nil
 |box b off g h _=>exact .box b off g h .nil
 |own j n c A hv _=>
  simp only[mJ];split
  ·next e=>subst e;exact .pure (Jc d a hv) .nil
  next e=>exact .own j n c A (Fa j _ e hv) .nil
 |elp j off g n c hv _=>
  simp only[mJ];split
  ·exact .any _ .nil
  next e=>exact .elp j off g n c (Fa j _ e hv) .nil
 |agg=>exact .any _ .nil
 |tup=>exact .any _ .nil
def rn(b:Mem w0 G0 bs rs bx rv w)(a:rs[k]? =some (some R)):∀{us:List Value} {ts:List Tree},FT (en w G0 bx rv rs) us ts->FT (en w G0 bx rv (rs.set k none)) us (ts.map (mJ k R.es))
 |[],[],_=>.nil
 |[],_::_,h=>by cases h
 |_::_,[],h=>by cases h
 |u::us,t::ts,h=>FT.cons (BM b a h.head) (rn b a h.tail)
def Mi(b:Mem w0 G0 bs rs bx rv w)(a:rs[k]? =some (some R)){u:Value}{t:Tree}(h:FT (en w G0 bx rv rs) [u] [t]):FT (en w G0 bx rv (rs.set k none)) [u] [E9 k R.es t]:=by
 cases t with
 |agg cs=>
  obtain⟨xs,rfl,c⟩:=h.isAgg;exact .agg xs _ (rn b a c) .nil
 |_=>exact BM b a h
end
section
variable {w0:World} {G0:Bse} {ops:Array Oper} {rest:List Oper} {Q:Exit->St->Prop} {o:Oper} {n:Nat} {sl:List (Nat×Tree)} {bs:List (TypeId×List Tree)} {rs:List (Option Row)} {S:St}
def Sim.rel{a:Act}{w:World}{k:Nat}{R:Row}(h:Sim w0 G0 ⟨n,sl,bs,rs⟩ a w)(r:rs[k]? =some (some R)):Sim w0 G0 ⟨n,sl.map λp=>(p.1,E9 k R.es p.2),bs.map λp=>(p.1,p.2.map (mJ k R.es)),rs.set k none⟩ a w:=by
 obtain⟨bx,rv,c,z,m,q⟩:=h;refine⟨bx,rv,⟨c.below,c.env0,c.g0,by simp[c.nb],by simp[c.nr],λi g y=>?_,λj u X d e=>?_,⟨c.nodup.bb,λj u X b d e=>c.nodup.br j u X b d (l7 j X e).2,λi j u v X Y b o d e f l=>c.nodup.rr i j u v X Y b o d (l7 i X e).2 f (l7 j Y l).2⟩,λb x=>c.ge b (rl x),c.pin⟩,z,m,λi=>?_⟩
 ·obtain⟨ty,cs,us,d,e,f,l⟩:=c.box i g y;exact⟨ty,cs.map (mJ k R.es),us,by rw[QL,d];rfl,e,rn c r f,l⟩
 ·obtain⟨xs,f,l,s,t⟩:=c.row j u X d (l7 j X e).2;exact⟨xs,f,l.mono (Qi _) rm,s,t⟩
 show FT _ _ [look (sl.map λp=>(p.1,E9 k R.es p.2)) i]
 rw[iV (E9 k R.es) Z];exact Mi c r (q i)
def cQ{c:Code}(k:Nat){R:Row}{sl':List (Nat×Tree)}{bs':List (TypeId×List Tree)}{rs':List (Option Row)}(f:rs[k]? =some (some R))(e:sl.map (λp=>(p.1,E9 k R.es p.2))=sl')(b:bs.map (λp=>(p.1,p.2.map (mJ k R.es)))=bs')(d:rs.set k none=rs')(h:AWP w0 G0 c Q ⟨n,sl',bs',rs'⟩):AWP w0 G0 c Q ⟨n,sl,bs,rs⟩:=by
 subst e b d;exact λa w g=>h a w (g.rel f)
def cG{rs:List (Option Row)}{rv:List Value}{v:Value}{R:Row}(hl:rv.length=rs.length)(j:Nat)(u:Value)(X:Row)(b:(rv++[v])[j]? =some u)(a:(rs++[some R])[j]? =some (some X)):(j=rs.length/\u=v/\X=R)\/(j<rs.length/\rv[j]? =some u/\rs[j]? =some (some X)):=by
 by_cases c:j<rs.length
 ·rw[Qv O]at b;rw[Qv c]at a;exact .inr ⟨c,b,a⟩
 have:=(Qm.1 a).1;simp only[QJ,TC]at this;obtain rfl:j=rs.length:=O
 rw[Qx O,show rs.length-rv.length=0 by omega]at b;rw[Qx (Qi _),RI]at a;simp only[QV,Qy]at b a;exact .inl ⟨Z,b.symm,a.symm⟩
def fq{d k e sz:Nat}(B:o.op=.move (.const (.slice none 0 0))\/o.op=.assign (.const (.slice none 0 0)))(E:o.guard=none)(hd:o.dst=some d)(hn:Nat.blt d n=true)(W:rs.length=k){rs':List (Option Row)}(G:rs++[some ⟨e,sz,[],false⟩]=rs')(K:AOps w0 G0 ops rest Q ⟨n,(d,.own k)::sl,bs,rs'⟩):AOps w0 G0 ops (o::rest) Q ⟨n,sl,bs,rs⟩:=by
 subst G W;refine eA E (S':=⟨n,(d,.own rs.length)::sl,bs,rs++[some ⟨e,sz,[],false⟩]⟩) ?_ K;rintro a w ⟨bx,rv,f,z,D,I⟩;have c:rv.length=rs.length:=f.nr;have x:∀b,b∈bX bx (rv++[.slice none 0 0]) (rs++[some ⟨e,sz,[],false⟩])->b∈bX bx rv rs:=λb C=>by
  rcases aN.1 C with l|⟨j,u,X,l,p,q⟩
  ·exact aN.2 (.inl l)
  rcases cG c j u X l p with⟨_,rfl,_⟩|⟨_,s,t⟩
  ·simp[Value.ownBlock]at q
  exact aN.2 (.inr ⟨j,u,X,s,t,q⟩)
 have m:∀b,b<w.heap.size->¬GG G0 bx rv rs b->w.heap[b]? =w.heap[b]? /\¬GG G0 bx (rv++[.slice none 0 0]) (rs++[some ⟨e,sz,[],false⟩]) b:=λb _ U=>⟨Z,λh=>U (h.imp id (x b))⟩
 have H:∀j u,dX rv rs j=some u->dX (rv++[.slice none 0 0]) (rs++[some ⟨e,sz,[],false⟩]) j=some u:=λj u h=>by
  unfold dX at h⊢;cases J:rs[j]? with
  |none=>simp[J]at h
  |some r=>
   have hl:=(Qm.1 J).1;rw[Qv hl,Qv O];exact h
 have y:∀{us ts},FT (en w G0 bx rv rs) us ts->FT (en w G0 bx (rv++[.slice none 0 0]) (rs++[some ⟨e,sz,[],false⟩])) us ts:=λh=>h.mono (Qi _) m (λ_ _ h=>h) H
 refine OpRuns.of_ok (v:=.slice none 0 0) (W':=w) ?_ ⟨bx,rv++[.slice none 0 0],⟨f.below,f.env0,f.g0,f.nb,by simp[c],λi g V=>?_,λj u X l p=>?_,⟨f.nodup.bb,λj u X b l p q=>?_,λi j u v X Y b F l p q s t A=>?_⟩,λb C=>f.ge b (x b C),f.pin⟩,by rw[d9];exact z,by rw[c6,D],?_⟩
 ·rcases B with B|B<;>simp[execOp,B,eX]
 ·obtain⟨ty,cs,us,l,p,q,s⟩:=f.box i g V;exact⟨ty,cs,us,l,p,y q,s⟩
 ·rcases cG c j u X l p with⟨_,rfl,rfl⟩|⟨_,s,t⟩
  ·exact⟨[],World.ownsRow_nil _ _ _ _,.nil,⟨(λ_ h=>by cases h),λh=>by cases h⟩,(λg E=>by cases E)⟩
  obtain⟨xs,A,R,S,T⟩:=f.row j u X s t;exact⟨xs,A,R.mono (Qi _) m,S,T⟩
 ·rcases cG c j u X l p with⟨_,rfl,_⟩|⟨_,s,t⟩
  ·simp[Value.ownBlock]at q
  exact f.nodup.br j u X b s t q
 ·rcases cG c i u X l p with⟨_,rfl,_⟩|⟨_,L,M⟩
  ·simp[Value.ownBlock]at t
  rcases cG c j v Y q s with⟨_,rfl,_⟩|⟨_,N,P⟩
  ·simp[Value.ownBlock]at A
  exact f.nodup.rr i j u v X Y b F L M N P t A
 intro i;rw[fL a o.dst _ n z (by rw[hd];simpa[df,Q7]using hn),hd];show FT _ _ [look ((d,.own rs.length)::sl) i]
 rw[cK];simp only[Qy];split
 ·refine .own _ 0 0 none ?_ .nil;show dX (rv++[.slice none 0 0]) (rs++[some ⟨e,sz,[],false⟩]) rs.length=_
  unfold dX;rw[Qx (Qi _),RI,Qx O,show rs.length-rv.length=0 by omega];rfl
 exact y (I i)
end
def Fb{P:Program}{o:Oper}{a:Act}{w:World}{K g:Act->World->Prop}{Q i:Exit->Act->World->Prop}(h:∀a w,K a w->g a w)(f:∀e a w,Q e a w->i e a w)(b:o.wp P a w K Q):o.wp P a w g i:=by
 unfold Oper.wp at*;generalize (execOp a.eval o).run P w=r at*;cases r with
 |ok n w'=>
  cases n<;>simp only[Oper.upon]at b⊢<;>
   first
    |exact h _ _ b
    |exact Calls.mono b (λe k d=>by
      cases e with
      |returned v=>exact h _ _ d
      |panicked c=>exact f _ _ _ d
      |outgrown=>obtain⟨a,w,j⟩:=d;exact⟨a,w,f _ _ _ j⟩)
    |exact Rows.mono b (λ_ _ d=>h _ _ d)
 |halt x w'=>cases x<;>simp only[Oper.upon]at b⊢<;>first|exact f _ _ _ b|exact b
def zG{P:Program}{ops:Array Oper}{o:Oper}{a:Act}{w:World}{Q d:Exit->Act->World->Prop}(c:∀e a w,Q e a w->d e a w)(b:wpList P ops Q [o] a w):wpList P ops d [o] a w:=by
 simp only[wpList]at b⊢;split
 ·next hw=>
  rw[if_pos hw]at b;rcases b with b|⟨g,f,w',h⟩
  ·exact .inl (Fb (λa w=>c .normal a w) c b)
  exact .inr ⟨g,f,w',c _ _ _ h⟩
 next hw=>
 rw[if_neg hw]at b;exact c _ _ _ b
def IR(L:Nat->Bool)(i:Nat):Nat->Bool:=λj=>cond (Nat.beq j i) true (L j)
structure Kn (ops:Array Oper) (L:Nat->Bool) (i:Nat):Prop where
 self:L i=false
 up:∀n j,(!Nat.beq j i&&reach ops n i j)=true->L j=true
 down:∀n j,reach ops n j i=true->L j=false
def KeepsP(S:St):List (Nat×Tree)->Prop
 |[]=>True
 |(i,t)::l=>S.get i=t/\KeepsP S l
def KeepsP.get{S:St}:∀{l:List (Nat×Tree)},KeepsP S l->∀i,look l i=.any\/look l i=S.get i
 |[],_,_=>.inl Z
 |(j,t)::l,h,i=>by
  rw[cK];split
  ·next e=>subst e;exact .inr h.1.symm
  exact h.2.get i
structure LeP (S S':St):Prop where
 n:S'.n=S.n
 bs:S'.bs=S.bs
 rs:S'.rs=S.rs
 sl:KeepsP S S'.sl
section
variable {w0:World} {G0:Bse} {Q:Exit->St->Prop} {S:St}
def Sim.leP{S':St}{a:Act}{w:World}(h:Sim w0 G0 S a w)(hl:LeP S S'):Sim w0 G0 S' a w:=by
 obtain⟨bx,rv,e,f,c,d⟩:=h;refine⟨bx,rv,by rw[hl.bs,hl.rs];exact e,by rw[hl.n];exact f,c,λi=>?_⟩;rw[hl.rs];show FT _ _ [look S'.sl i]
 rcases hl.sl.get i with b|b
 ·rw[b];exact .any _ .nil
 rw[b];exact d i
def Sim.drew{a:Act}{w:World}(h:Sim w0 G0 S a w):Sim w0 G0 S a w.drew:=by
 obtain⟨bx,rv,d,e,b,c⟩:=h;exact⟨bx,rv,d.later (Below.refl _ _).drew,e,b,λi=>(c i).later (Below.refl _ _).drew⟩
inductive StepsD (w0:World) (G0:Bse) (ops:Array Oper) (SS:(Nat->Bool)->St->Prop):Nat->List Oper->Prop
 |nil {i:Nat}:StepsD w0 G0 ops SS i []
 |op {i:Nat} {o:Oper} {os:List Oper} (h:∀L,Kn ops L i->∀S,SS L S->AOps w0 G0 ops [o] (λe S'=>e=.normal/\∃Sx,SS (IR L i) Sx/\LeP S' Sx) S) (hs:StepsD w0 G0 ops SS (i+1) os):StepsD w0 G0 ops SS i (o::os)
end
def Fc(W:World)(G:Nat->Prop):∀a:List Value,PT W G a (a.map Tree.sc)
 |[]=>.nil
 |z::a=>.sc z (Fc W G a)
def ph{S:St}{o:Oper}{t:TypeId}{parts:Array (Nat×Operand)}{s:List (Nat×Nat)}{u:List Value}{qs:List (Nat×Tree)}{rs:List Tree}(n:o.op=.build t parts)(hl:mY prog t=some (s,u))(r:parts.toList.map (λp=>(p.1,S.ev p.2))=qs)(b:(qs.all λq=>q.2.oneA)=true)(D:ln (s[·]?) (u.map Tree.sc) qs=some rs):OpOK o S (.agg rs):=by
 intro w0 G0 bx rv w T F B;have l:=lp (S:=S) B parts.toList (λp C=>by rw[n];simp only[Op.operands,RH];exact⟨p,C,Z⟩);unfold mY at hl;split at hl
 ·next fs i hu hi=>
  cases j:i.zero with
  |none=>simp[j]at hl
  |some z=>
   simp only[j,QY,Q4,Sg]at hl;obtain⟨a,g,rfl,rfl⟩:=hl;have h:=mZ (w:=w) g;rw[r]at l;obtain⟨us,y,A⟩:=nV (E:=en w G0 bx rv S.rs) (place:=(a[·]?)) (ps:=parts.toList.map λp=>(p.1,eX T p.2)) (qs:=qs) (cells:=z.cells) (ts:=z.cells.toList.map Tree.sc) (by rw[<-r];simp) l b (.of (Fc _ _ _)) D;refine OpRuns.of_ok (v:=.agg us) (W':=w) ?_ ⟨?_,Below.refl _ _⟩
   ·have e:(fs.mapM (m:=Sem) λf=>do pure (f.offset,<-sizeOf f.type)).run prog w=.ok a.toArray w:=by
     rw[RD,Sem.run_map,h];rfl
    have d:Instr.fill (λx=>a.toArray[x]?) z.cells (parts.map λp=>(p.1,eX T p.2)).toList=some us:=by
     rw[<-y];simp
    have k:(zeroValue t).run prog w=.ok z w:=by simp[zeroValue,typeInfo,hi,j]
    have c:(Instr.build t (parts.map λp=>(p.1,eX T p.2))).run prog w=.ok (.agg us) w:=by
     unfold Instr.build;rw[Sem.run_bind,k,Result.andThen_ok,Sem.run_bind,run_underlying hu,Result.andThen_ok];simp only;rw[Sem.run_bind,e,Result.andThen_ok];simp only[d];rfl
    simp[execOp,n,c]
   have:FT (en w G0 bx rv S.rs) [.agg us.toList.toArray] [.agg rs]:=.agg _ _ A .nil;simpa using this
 cases hl
section
variable {w0 w:World} {G0:Bse} {bs:List (TypeId×List Tree)} {rs:List (Option Row)} {bx:List Nat} {rv:List Value} {e sz:Nat}
def ro(c:rv.length=rs.length)(b:Nat)(i:b∈bX bx (rv++[.slice none 0 0]) (rs++[some ⟨e,sz,[],false⟩])):b∈bX bx rv rs:=by
 rcases aN.1 i with a|⟨j,u,X,a,f,d⟩
 ·exact aN.2 (.inl a)
 rcases cG c j u X a f with⟨_,rfl,_⟩|⟨_,g,h⟩
 ·simp[Value.ownBlock]at d
 exact aN.2 (.inr ⟨j,u,X,g,h,d⟩)
def xw(a:rv.length=rs.length):∀b,b<w.heap.size->¬GG G0 bx rv rs b->w.heap[b]? =w.heap[b]? /\¬GG G0 bx (rv++[.slice none 0 0]) (rs++[some ⟨e,sz,[],false⟩]) b:=λb _ c=>⟨Z,λh=>c (h.imp id (ro a b))⟩
def Fd(a:rv.length=rs.length){us:List Value}{ts:List Tree}(h:FT (en w G0 bx rv rs) us ts):FT (en w G0 bx (rv++[.slice none 0 0]) (rs++[some ⟨e,sz,[],false⟩])) us ts:=h.mono (Qi _) (xw a) (λ_ _ h=>h) λj u h=>by
 have h:dX rv rs j=some u:=h;show dX (rv++[.slice none 0 0]) (rs++[some ⟨e,sz,[],false⟩]) j=some u
 unfold dX at h⊢;cases b:rs[j]? with
 |none=>simp[b]at h
 |some r=>
  have hl:=(Qm.1 b).1;rw[Qv hl,Qv O];exact h
def Mem.addNil(c:Mem w0 G0 bs rs bx rv w):Mem w0 G0 bs (rs++[some ⟨e,sz,[],false⟩]) bx (rv++[.slice none 0 0]) w:=by
 have a:=c.nr;refine⟨c.below,c.env0,c.g0,c.nb,by simp[a],λi g B=>?_,λj u X d f=>?_,⟨c.nodup.bb,λj u X b d f l=>?_,λi j u v X Y b o d f l k m n=>?_⟩,λb z=>c.ge b (ro a b z),c.pin⟩
 ·obtain⟨ty,cs,us,d,f,l,k⟩:=c.box i g B;exact⟨ty,cs,us,d,f,Fd a l,k⟩
 ·rcases cG a j u X d f with⟨_,rfl,rfl⟩|⟨_,k,m⟩
  ·exact⟨[],World.ownsRow_nil _ _ _ _,.nil,⟨(λ_ h=>by cases h),λh=>by cases h⟩,(λg A=>by cases A)⟩
  obtain⟨xs,n,t,x,y⟩:=c.row j u X k m;exact⟨xs,n,t.mono (Qi _) (xw a),x,y⟩
 ·rcases cG a j u X d f with⟨_,rfl,_⟩|⟨_,k,m⟩
  ·simp[Value.ownBlock]at l
  exact c.nodup.br j u X b k m l
 rcases cG a i u X d f with⟨_,rfl,_⟩|⟨_,p,q⟩
 ·simp[Value.ownBlock]at m
 rcases cG a j v Y l k with⟨_,rfl,_⟩|⟨_,r,s⟩
 ·simp[Value.ownBlock]at n
 exact c.nodup.rr i j u v X Y b o p q r s m n
def uh{E:En}{a:Tree}(h:∀v,FT E [v] [.sc (.slice none 0 0)]->FT E [v] [a]):∀{us:List Value} {ts:List Tree} (off:Nat),FT E us ts->ts[off]? =some (.sc (.slice none 0 0))->FT E us (ts.set off a)
 |[],[],_,_,ht=>by simp at ht
 |[],_::_,_,h',_=>by cases h'
 |_::_,[],_,h',_=>by cases h'
 |u::us,t::ts,0,h',ht=>by
  simp only[QV,Qy]at ht;subst ht;exact FT.cons (h u h'.head) h'.tail
 |u::us,t::ts,off+1,h',ht=>FT.cons h'.head (uh h off h'.tail (by simpa using ht))
end
section
variable {w0:World} {G0:Bse} {Q:Exit->St->Prop} {n:Nat} {sl:List (Nat×Tree)} {bs:List (TypeId×List Tree)} {rs:List (Option Row)}
def iM{c:Code}(b off e sz:Nat){ty:TypeId}{cs:List Tree}(y:bs[b]? =some (ty,cs))(A:cs[off]? =some (.sc (.slice none 0 0))){bs':List (TypeId×List Tree)}{rs':List (Option Row)}(l:bs.set b (ty,cs.set off (.own rs.length))=bs')(p:rs++[some ⟨e,sz,[],false⟩]=rs')(h:AWP w0 G0 c Q ⟨n,sl,bs',rs'⟩):AWP w0 G0 c Q ⟨n,sl,bs,rs⟩:=by
 subst l p;rintro a w ⟨bx,rv,z,r,m,q⟩;have o:rv.length=rs.length:=z.nr;have d:Mem w0 G0 bs (rs++[some ⟨e,sz,[],false⟩]) bx (rv++[.slice none 0 0]) w:=z.addNil;refine h a w ⟨bx,rv++[.slice none 0 0],⟨d.below,d.env0,d.g0,by simp[d.nb],d.nr,λi g B=>?_,d.row,d.nodup,d.ge,d.pin⟩,r,m,λi=>Fd o (q i)⟩;obtain⟨s,j,us,k,t,u,x⟩:=d.box i g B;by_cases f:i=b
 ·subst f;rw[y]at k;cases k;refine⟨ty,cs.set off (.own rs.length),us,by rw[RB (Qm.1 y).1],t,uh (λv C=>?_) off u A,x⟩;obtain rfl:=C.isSc;refine .own _ 0 0 none ?_ .nil;show dX (rv++[.slice none 0 0]) (rs++[some ⟨e,sz,[],false⟩]) rs.length=_
  unfold dX;rw[Qx (Qi _),RI,Qx O,show rs.length-rv.length=0 by omega];rfl
 exact⟨s,j,us,by rw[RO (λe=>f e.symm)];exact k,t,u,x⟩
end
