import Derived.Test.YtfoejfohbkmmeaaGreatDoorK06
set_option linter.defProp false
open Go.Proofs.Tryz
namespace Go.Proofs.YtfoejfohbkmmeaaGreatDoor
open Go.RowKit
open Lib renaming hid→J
def GH(L:LayT)(n:Nat):Nat->List Oper->List (Nat×Tree)->List (TypeId×List Tree)->Option (Oper×Nat×List Oper×List (Nat×Tree)×List (TypeId×List Tree))
 |0,o::os,sl,bs=>match o.guard with
  |none=>pT n o.dst λd=>some (o,d,os,sl,bs)
  |some _=>none
 |k+1,o::os,sl,bs=>Qu L n sl bs o λsl' bs'=>GH L n k os sl' bs'
 |_,[],_,_=>none
def tZ{w0:World}{G0:Bse}{ops:Array Oper}{Q:Exit->St->Prop}{n d:Nat}{rs:List (Option Row)}{t:Tree}{o:Oper}{a:List Oper}{sl':List (Nat×Tree)}{bs':List (TypeId×List Tree)}(l:OpOK o ⟨n,sl',bs',rs⟩ t)(K:AOps w0 G0 ops a Q ⟨n,(d,t)::sl',bs',rs⟩):∀(k:Nat) {b:List Oper} {sl:List (Nat×Tree)} {bs:List (TypeId×List Tree)},GH zM n k b sl bs=some (o,d,a,sl',bs')->AOps w0 G0 ops b Q ⟨n,sl,bs,rs⟩
 |0,[],_,_,h=>by cases h
 |0,o1::b,sl,bs,h=>by
  simp only[GH]at h;cases i:o1.guard with
  |some g=>rw[i]at h;cases h
  |none=>
   rw[i]at h;obtain⟨e,c,f,j⟩:=gM h;simp only[Ro,Td]at j;obtain⟨rfl,rfl,rfl,rfl,rfl⟩:=j;exact bW i c f l K
 |k+1,[],_,_,h=>by cases h
 |k+1,o1::b,sl,bs,h=>by
  obtain⟨p,m,c,f⟩:=Jg Fp h;exact c _ _ _ _ _ _ (tZ l K k f)
def aa{w0:World}{G0:Bse}{ops:Array Oper}{Q:Exit->St->Prop}{n d:Nat}{rs:List (Option Row)}{o:Oper}{b a:List Oper}{sl sl':List (Nat×Tree)}{bs bs':List (TypeId×List Tree)}(k:Nat){t:Tree}(h:GH zM n k b sl bs=some (o,d,a,sl',bs'))(c:OpOK o ⟨n,sl',bs',rs⟩ t)(K:AOps w0 G0 ops a Q ⟨n,(d,t)::sl',bs',rs⟩):AOps w0 G0 ops b Q ⟨n,sl,bs,rs⟩:=tZ c K k h
def M:type_of% @aa:=@aa
def Mh(sl:List (Nat×Tree))(o:Oper):Option (BinOp×TypeId×Operand×Operand×Value×Value):=match o.op with
 | .binOp op ty x y _=>GD sl x λt=>match t with
  | .sc a=>GD sl y λu=>match u with
   | .sc b=>some (op,ty,x,y,a,b)
   |_=>none
  |_=>none
 |_=>none
def Fq{n:Nat}{sl:List (Nat×Tree)}{bs:List (TypeId×List Tree)}{rs:List (Option Row)}{o:Oper}{op:BinOp}{ty:TypeId}{x y:Operand}{a b v:Value}(h:Mh sl o=some (op,ty,x,y,a,b))(i:∀w,(do eqGuard op ty x y a b;binOp op ty a b:Sem Value).run prog w=.ok v w):OpOK o ⟨n,sl,bs,rs⟩ (.sc v):=by
 unfold Mh at h;cases e:o.op with
 |binOp p tp x1 y1 yt=>
  rw[e]at h;have d:=zH (n:=n) (bs:=bs) (rs:=rs) h;cases f:St.ev ⟨n,sl,bs,rs⟩ x1 with
  |sc a1=>
   rw[f]at d;have c:=zH (n:=n) (bs:=bs) (rs:=rs) d;cases g:St.ev ⟨n,sl,bs,rs⟩ y1 with
   |sc b1=>
    rw[g]at c;simp only[Ro,Td]at c;obtain⟨rfl,rfl,rfl,rfl,rfl,rfl⟩:=c;exact aC e f g i
   |_=>rw[g]at c;cases c
  |_=>rw[f]at d;cases d
 |_=>rw[e]at h;cases h
def aI{w0:World}{G0:Bse}{ops:Array Oper}{Q:Exit->St->Prop}{n d:Nat}{rs:List (Option Row)}{o:Oper}{f c:List Oper}{sl sl':List (Nat×Tree)}{bs bs':List (TypeId×List Tree)}{op:BinOp}{ty:TypeId}{x y:Operand}{a b v:Value}(k:Nat){t:Tree}(h:GH zM n k f sl bs=some (o,d,c,sl',bs'))(g:Mh sl' o=some (op,ty,x,y,a,b))(i:∀w,(do eqGuard op ty x y a b;binOp op ty a b:Sem Value).run prog w=.ok v w)(e:Tree.sc v=t)(K:AOps w0 G0 ops c Q ⟨n,(d,t)::sl',bs',rs⟩):AOps w0 G0 ops f Q ⟨n,sl,bs,rs⟩:=tZ (e▸Fq g i) K k h
def a8{w0:World}{G0:Bse}{ops:Array Oper}{Q:Exit->St->Prop}{n d:Nat}{rs:List (Option Row)}{o:Oper}{g f:List Oper}{sl sl':List (Nat×Tree)}{bs bs':List (TypeId×List Tree)}{op:BinOp}{ty:TypeId}{x y:Operand}{a b:Value}{c:Int}(k m:Nat)(h:GH zM n k g sl bs=some (o,d,f,sl',bs'))(i:Mh sl' o=some (op,ty,x,y,a,b))(j:∀w,(do eqGuard op ty x y a b;binOp op ty a b:Sem Value).run prog w=.ok (.int .i64 (IntKind.i64.wrap c)) w)(e:c=m/\m<9223372036854775808)(K:AOps w0 G0 ops f Q ⟨n,(d,nI m)::sl',bs',rs⟩):AOps w0 G0 ops g Q ⟨n,sl,bs,rs⟩:=tZ (kK e▸Fq i j) K k h
def ag{w0:World}{G0:Bse}{ops:Array Oper}{Q:Exit->St->Prop}{n:Nat}{rs:List (Option Row)}(k:Nat){a:List Oper}{sl sl':List (Nat×Tree)}{bs bs':List (TypeId×List Tree)}(h:GF zM n k a sl bs=some ([],sl',bs'))(K:Q .normal ⟨n,sl',bs',rs⟩):AOps w0 G0 ops a Q ⟨n,sl,bs,rs⟩:=ax k h (E K)
def Y:type_of% @ag:=@ag
def ae{w0:World}{G0:Bse}{id:Nat}{Q:Exit->St->Prop}{S:St}{a:List Oper}{y:Code}(h:AOps w0 G0 a.toArray a (xT (AWP w0 G0 y Q) Q) S):AWP w0 G0 (.seq (.region id a.toArray false) y) Q S:=H (am h)
def C:type_of% @ae:=@ae
def aw{w0:World}{G0:Bse}{id:Nat}{Q:Exit->St->Prop}{n:Nat}{rs:List (Option Row)}{y:Code}(k:Nat){a:List Oper}{sl sl':List (Nat×Tree)}{bs bs':List (TypeId×List Tree)}(h:GF zM n k a sl bs=some ([],sl',bs'))(K:AWP w0 G0 y Q ⟨n,sl',bs',rs⟩):AWP w0 G0 (.seq (.region id a.toArray false) y) Q ⟨n,sl,bs,rs⟩:=H (eh k h K)
def X:type_of% @aw:=@aw
def aU{S:St}{o:Oper}{x:Operand}{t e:TypeId}{n:Nat}{α:Type}{f:α->Tree}{l:List α}(a:o.op=.call {callee:=.builtin .len,args:=#[x],argTypes:=#[t]})(b:gQ prog t=some (e,n))(c:S.ev x=.sl (l.map f)):OpOK o S (nI l.length):=aj (fw a b c) (by rw[Rn])
def Mi{S:St}{o:Oper}{x:Operand}{t e:TypeId}{n k:Nat}{R:Row}{α:Type}{f:α->Tree}{l:List α}(c:o.op=.call {callee:=.builtin .len,args:=#[x],argTypes:=#[t]})(d:gQ prog t=some (e,n))(g:S.ev x=.own k)(a:S.rs[k]? =some (some R))(b:R.es=l.map f):OpOK o S (nI l.length):=aj (kF c d g a) (by rw[b,Rn])
inductive RetA (S:St):List ResultVar->Tree->Prop
 |mk {x:ResultVar} {t r:Tree} (hx:Mc S x t) (e:t=r) (hp:r.plain=true):RetA S [x] r
def aM{w0:World}{G0:Bse}{S:St}{Q:Exit->St->Prop}{a:List ResultVar}{r:Tree}{P:Prop}(h:P)(d:(P,Q .ret S)=(RetA S a r,Md a r .ret S)):AWP w0 G0 .ret Q S:=by
 injection d with b c
 subst b;cases h with
 |mk hx e hp=>exact aQ (c▸⟨.inr Z,_,.cons hx .nil,e,hp⟩)
def co{S:St}{a ty b off n:Nat}{c:TypeId}{cs:List Tree}(d:S.get a=.box b off)(e:S.bs[b]? =some (c,cs))(g:sf prog ty=some n)(f:Nat.ble (off+n) cs.length=true):Mc S (.cell a ty) (.agg ((cs.drop off).take n)):=⟨_,_,_,_,d,e,.inl ⟨n,g,f,Z⟩⟩
def cH{S:St}{o:Oper}{c a b:Operand}{x y:Bool}{u:Tree}(e:o.op=.pick c a b)(d:S.ev c=.sc (.bool x))(f:S.ev a=if x=true then .sc (.bool y)else u)(g:S.ev b=.sc (.bool false)):OpOK o S (.sc (.bool (x&&y))):=by
 cases x with
 |true=>exact oN e d f
 |false=>exact oN e d g
def dD{S:St}{o:Oper}{c a b:Operand}{x y:Bool}{u:Tree}(e:o.op=.pick c a b)(d:S.ev c=.sc (.bool x))(f:S.ev a=.sc (.bool true))(g:S.ev b=if x=false then .sc (.bool y)else u):OpOK o S (.sc (.bool (x||y))):=by
 cases x with
 |true=>exact oN e d f
 |false=>exact oN e d g
def oe(k:Nat)(es:List Tree):Tree->Tree
 | .own j=>if j=k then .sl es else .own j
 | .elp j off=>if j=k then .any else .elp j off
 | .agg _| .tup _=>.any
 |t=>t
def GJ(k:Nat)(es:List Tree):Tree->Tree
 | .agg cs=>.agg (cs.map (oe k es))
 |t=>oe k es t
section
variable {w0 w:World} {G0:Bse} {bs:List (TypeId×List Tree)} {rs:List (Option Row)} {bx:List Nat} {rv:List Value} {k:Nat} {R:Row} {v:Value}
def jM(j:Nat)(X:Row)(h:(rs.set k none)[j]? =some (some X)):j≠k/\rs[j]? =some (some X):=by
 by_cases a:j=k
 ·subst a;have b:=(Q6.1 h).1;rw[RO]at b;rw[So b]at h;cases h
 rw[Se (λe=>a e.symm)]at h;exact⟨a,h⟩
def pU{b:Nat}(h:b∈cJ bx rv (rs.set k none)):b∈cJ bx rv rs:=by
 rcases be.1 h with a|⟨j,u,X,a,c,d⟩
 ·exact be.2 (.inl a)
 exact be.2 (.inr ⟨j,u,X,a,(jM j X c).2,d⟩)
def og:∀b,b<w.heap.size->¬GG G0 bx rv rs b->w.heap[b]? =w.heap[b]? /\¬GG G0 bx rv (rs.set k none) b:=λ_ _ a=>⟨Z,λh=>a (h.imp id pU)⟩
def zN(j:Nat)(u:Value)(a:j≠k)(h:fX rv rs j=some u):fX rv (rs.set k none) j=some u:=by
 unfold fX at h⊢;rw[Se (λe=>a e.symm)];exact h
def Fr(c:Mem w0 G0 bs rs bx rv w)(b:rs[k]? =some (some R))(h:fX rv rs k=some v):PT w (GG G0 bx rv (rs.set k none)) [v] [.sl R.es]:=by
 have d:rv[k]? =some v:=by simpa[fX,b]using h
 obtain⟨xs,n,r,z,_⟩:=c.row k v R d b;have i:=r.mono (G':=GG G0 bx rv (rs.set k none)) (Q3 _) og;rcases n.2 with⟨rfl,m⟩|⟨g,f,cur,rfl,A,t,m,l,B,C⟩
 ·have:R.es=[]:=Rj m;rw[this];exact bS _ _
 refine .sl g 0 f _ xs R.es (RQ.1 t).1 (λa=>?_) (λj u y=>?_) Z m (by unfold maxLen at l;omega) i .nil
 ·rcases a with a|a
  ·have s:=c.g0 g a;rcases c.ge g (be.2 (.inr ⟨k,_,R,d,b,rfl⟩))with o|o
   ·omega
   exact s.2.2 o
  rcases be.1 a with a|⟨j,u,X,p,e,q⟩
  ·exact c.nodup.br k _ R g d b Z a
  obtain⟨x,e⟩:=jM j X e;exact c.nodup.rr j k u _ X R g x p e d b q Z
 have:=n.cells (g:=g) Z j u y;rw[Addr.add_mid]at this;exact this
def Fs(d:Mem w0 G0 bs rs bx rv w)(a:rs[k]? =some (some R)){u:Value}{t:Tree}(h:FT (en w G0 bx rv rs) [u] [t]):FT (en w G0 bx rv (rs.set k none)) [u] [oe k R.es t]:=by
 cases h with
 |pure h _=>
  cases t<;>first
   |exact .pure (h.mono (Q3 _) og) .nil
   |(simp only[oe];exact .any _ .nil)
   |(cases h)
 |any=>exact .any _ .nil
 |box b off g h _=>exact .box b off g h .nil
 |own j n c A hv _=>
  simp only[oe];split
  ·next e=>subst e;exact .pure (Fr d a hv) .nil
  next e=>exact .own j n c A (zN j _ e hv) .nil
 |elp j off g n c hv _=>
  simp only[oe];split
  ·exact .any _ .nil
  next e=>exact .elp j off g n c (zN j _ e hv) .nil
 |agg=>exact .any _ .nil
 |tup=>exact .any _ .nil
def uD(b:Mem w0 G0 bs rs bx rv w)(a:rs[k]? =some (some R)):∀{us:List Value} {ts:List Tree},FT (en w G0 bx rv rs) us ts->FT (en w G0 bx rv (rs.set k none)) us (ts.map (oe k R.es))
 |[],[],_=>.nil
 |[],_::_,h=>by cases h
 |_::_,[],h=>by cases h
 |u::us,t::ts,h=>FT.cons (Fs b a h.head) (uD b a h.tail)
def Oh(b:Mem w0 G0 bs rs bx rv w)(a:rs[k]? =some (some R)){u:Value}{t:Tree}(h:FT (en w G0 bx rv rs) [u] [t]):FT (en w G0 bx rv (rs.set k none)) [u] [GJ k R.es t]:=by
 cases t with
 |agg cs=>
  obtain⟨xs,rfl,c⟩:=h.isAgg;exact .agg xs _ (uD b a c) .nil
 |_=>exact Fs b a h
end
section
variable {w0:World} {G0:Bse} {ops:Array Oper} {rest:List Oper} {Q:Exit->St->Prop} {o:Oper} {n:Nat} {sl:List (Nat×Tree)} {bs:List (TypeId×List Tree)} {rs:List (Option Row)} {S:St}
def Sim.rel{a:Act}{w:World}{k:Nat}{R:Row}(h:Sim w0 G0 ⟨n,sl,bs,rs⟩ a w)(r:rs[k]? =some (some R)):Sim w0 G0 ⟨n,sl.map λp=>(p.1,GJ k R.es p.2),bs.map λp=>(p.1,p.2.map (oe k R.es)),rs.set k none⟩ a w:=by
 obtain⟨bx,rv,c,z,m,q⟩:=h;refine⟨bx,rv,⟨c.below,c.env0,c.g0,by simp[c.nb],by simp[c.nr],λi g y=>?_,λj u X d e=>?_,⟨c.nodup.bb,λj u X b d e=>c.nodup.br j u X b d (jM j X e).2,λi j u v X Y b o d e f l=>c.nodup.rr i j u v X Y b o d (jM i X e).2 f (jM j Y l).2⟩,λb x=>c.ge b (pU x),c.pin⟩,z,m,λi=>?_⟩
 ·obtain⟨ty,cs,us,d,e,f,l⟩:=c.box i g y;exact⟨ty,cs.map (oe k R.es),us,by rw[RK,d];rfl,e,uD c r f,l⟩
 ·obtain⟨xs,f,l,s,t⟩:=c.row j u X d (jM j X e).2;exact⟨xs,f,l.mono (Q3 _) og,s,t⟩
 show FT _ _ [look (sl.map λp=>(p.1,GJ k R.es p.2)) i]
 rw[kH (GJ k R.es) Z];exact Oh c r (q i)
def dp{c:Code}(k:Nat){R:Row}{sl':List (Nat×Tree)}{bs':List (TypeId×List Tree)}{rs':List (Option Row)}(f:rs[k]? =some (some R))(e:sl.map (λp=>(p.1,GJ k R.es p.2))=sl')(b:bs.map (λp=>(p.1,p.2.map (oe k R.es)))=bs')(d:rs.set k none=rs')(h:AWP w0 G0 c Q ⟨n,sl',bs',rs'⟩):AWP w0 G0 c Q ⟨n,sl,bs,rs⟩:=by
 subst e b d;exact λa w g=>h a w (g.rel f)
def Jh(k:Nat){R:Row}{sl':List (Nat×Tree)}{bs':List (TypeId×List Tree)}{rs':List (Option Row)}(e:rs[k]? =some (some R))(d:sl.map (λp=>(p.1,GJ k R.es p.2))=sl')(b:bs.map (λp=>(p.1,p.2.map (oe k R.es)))=bs')(c:rs.set k none=rs')(h:AOps w0 G0 ops rest Q ⟨n,sl',bs',rs'⟩):AOps w0 G0 ops rest Q ⟨n,sl,bs,rs⟩:=by
 subst d b c;exact λa w f=>h a w (f.rel e)
def dQ{rs:List (Option Row)}{rv:List Value}{v:Value}{R:Row}(d:rv.length=rs.length)(j:Nat)(u:Value)(X:Row)(b:(rv++[v])[j]? =some u)(a:(rs++[some R])[j]? =some (some X)):(j=rs.length/\u=v/\X=R)\/(j<rs.length/\rv[j]? =some u/\rs[j]? =some (some X)):=by
 by_cases c:j<rs.length
 ·rw[Rv O]at b;rw[Rv c]at a;exact .inr ⟨c,b,a⟩
 have:=(Q6.1 a).1;simp only[Q4,Ss]at this;obtain rfl:j=rs.length:=O
 rw[Ru O,show rs.length-rv.length=0 by omega]at b;rw[Ru (Q3 _),RW]at a;simp only[RY,Ro]at b a;exact .inl ⟨Z,b.symm,a.symm⟩
def gc{d k e sz:Nat}(B:o.op=.move (.const (.slice none 0 0))\/o.op=.assign (.const (.slice none 0 0)))(E:o.guard=none)(J:o.dst=some d)(hn:Nat.blt d n=true)(hk:rs.length=k){rs':List (Option Row)}(G:rs++[some ⟨e,sz,[],false⟩]=rs')(K:AOps w0 G0 ops rest Q ⟨n,(d,.own k)::sl,bs,rs'⟩):AOps w0 G0 ops (o::rest) Q ⟨n,sl,bs,rs⟩:=by
 subst G hk;refine dA E (S':=⟨n,(d,.own rs.length)::sl,bs,rs++[some ⟨e,sz,[],false⟩]⟩) ?_ K;rintro a w ⟨bx,rv,f,z,D,I⟩;have c:rv.length=rs.length:=f.nr;have x:∀b,b∈cJ bx (rv++[.slice none 0 0]) (rs++[some ⟨e,sz,[],false⟩])->b∈cJ bx rv rs:=λb C=>by
  rcases be.1 C with l|⟨j,u,X,l,p,q⟩
  ·exact be.2 (.inl l)
  rcases dQ c j u X l p with⟨_,rfl,_⟩|⟨_,s,t⟩
  ·simp[Value.ownBlock]at q
  exact be.2 (.inr ⟨j,u,X,s,t,q⟩)
 have m:∀b,b<w.heap.size->¬GG G0 bx rv rs b->w.heap[b]? =w.heap[b]? /\¬GG G0 bx (rv++[.slice none 0 0]) (rs++[some ⟨e,sz,[],false⟩]) b:=λb _ V=>⟨Z,λh=>V (h.imp id (x b))⟩
 have H:∀j u,fX rv rs j=some u->fX (rv++[.slice none 0 0]) (rs++[some ⟨e,sz,[],false⟩]) j=some u:=λj u h=>by
  unfold fX at h⊢;cases L:rs[j]? with
  |none=>simp[L]at h
  |some r=>
   have hl:=(Q6.1 L).1;rw[Rv hl,Rv O];exact h
 have y:∀{us ts},FT (en w G0 bx rv rs) us ts->FT (en w G0 bx (rv++[.slice none 0 0]) (rs++[some ⟨e,sz,[],false⟩])) us ts:=λh=>h.mono (Q3 _) m (λ_ _ h=>h) H
 refine aE (v:=.slice none 0 0) (W':=w) ?_ ⟨bx,rv++[.slice none 0 0],⟨f.below,f.env0,f.g0,f.nb,by simp[c],λi g W=>?_,λj u X l p=>?_,⟨f.nodup.bb,λj u X b l p q=>?_,λi j u v X Y b F l p q s t A=>?_⟩,λb C=>f.ge b (x b C),f.pin⟩,by rw[ee];exact z,by rw[df,D],?_⟩
 ·rcases B with B|B<;>simp[execOp,B,dG]
 ·obtain⟨ty,cs,us,l,p,q,s⟩:=f.box i g W;exact⟨ty,cs,us,l,p,y q,s⟩
 ·rcases dQ c j u X l p with⟨_,rfl,rfl⟩|⟨_,s,t⟩
  ·exact⟨[],World.ownsRow_nil _ _ _ _,.nil,⟨(λ_ h=>by cases h),λh=>by cases h⟩,(λg E=>by cases E)⟩
  obtain⟨xs,A,S,T,U⟩:=f.row j u X s t;exact⟨xs,A,S.mono (Q3 _) m,T,U⟩
 ·rcases dQ c j u X l p with⟨_,rfl,_⟩|⟨_,s,t⟩
  ·simp[Value.ownBlock]at q
  exact f.nodup.br j u X b s t q
 ·rcases dQ c i u X l p with⟨_,rfl,_⟩|⟨_,M,N⟩
  ·simp[Value.ownBlock]at t
  rcases dQ c j v Y q s with⟨_,rfl,_⟩|⟨_,P,R⟩
  ·simp[Value.ownBlock]at A
  exact f.nodup.rr i j u v X Y b F M N P R t A
 intro i;rw[gA a o.dst _ n z (by rw[J];simpa[cF,R5]using hn),J];show FT _ _ [look ((d,.own rs.length)::sl) i]
 rw[dX];simp only[Ro];split
 ·refine .own _ 0 0 none ?_ .nil;show fX (rv++[.slice none 0 0]) (rs++[some ⟨e,sz,[],false⟩]) rs.length=_
  unfold fX;rw[Ru (Q3 _),RW,Ru O,show rs.length-rv.length=0 by omega];rfl
 exact y (I i)
end
def Ji{P:Program}{o:Oper}{a:Act}{w:World}{K g:Act->World->Prop}{Q i:Exit->Act->World->Prop}(h:∀a w,K a w->g a w)(f:∀e a w,Q e a w->i e a w)(b:o.wp P a w K Q):o.wp P a w g i:=by
 unfold Oper.wp at*;generalize (execOp a.eval o).run P w=r at*;cases r with
 |ok n w'=>
  cases n<;>simp only[Oper.upon]at b⊢<;>
   first
    |exact h _ _ b
    |exact Calls.mono b (λe k d=>by
      cases e with
      |returned v=>exact h _ _ d
      |panicked c=>exact f _ _ _ d
      |outgrown=>obtain⟨a,w,j⟩:=d;exact⟨a,w,f _ _ _ j⟩)
    |exact Rows.mono b (λ_ _ d=>h _ _ d)
 |halt x w'=>cases x<;>simp only[Oper.upon]at b⊢<;>first|exact f _ _ _ b|exact b
def DC{P:Program}{ops:Array Oper}{o:Oper}{a:Act}{w:World}{Q d:Exit->Act->World->Prop}(c:∀e a w,Q e a w->d e a w)(b:wpList P ops Q [o] a w):wpList P ops d [o] a w:=by
 simp only[wpList]at b⊢;split
 ·next hw=>
  rw[if_pos hw]at b;rcases b with b|⟨g,f,w',h⟩
  ·exact .inl (Ji (λa w=>c .normal a w) c b)
  exact .inr ⟨g,f,w',c _ _ _ h⟩
 next hw=>
 rw[if_neg hw]at b;exact c _ _ _ b
def LZ(L:Nat->Bool)(i:Nat):Nat->Bool:=λj=>cond (Nat.beq j i) true (L j)
structure Kn (ops:Array Oper) (L:Nat->Bool) (i:Nat):Prop where
 self:L i=false
 up:∀n j,(!Nat.beq j i&&reach ops n i j)=true->L j=true
 down:∀n j,reach ops n j i=true->L j=false
def KeepsP(S:St):List (Nat×Tree)->Prop
 |[]=>True
 |(i,t)::l=>S.get i=t/\KeepsP S l
def KeepsP.get{S:St}:∀{l:List (Nat×Tree)},KeepsP S l->∀i,look l i=.any\/look l i=S.get i
 |[],_,_=>.inl Z
 |(j,t)::l,h,i=>by
  rw[dX];split
  ·next e=>subst e;exact .inr h.1.symm
  exact h.2.get i
structure LeP (S S':St):Prop where
 n:S'.n=S.n
 bs:S'.bs=S.bs
 rs:S'.rs=S.rs
 sl:KeepsP S S'.sl
section
variable {w0:World} {G0:Bse} {Q:Exit->St->Prop} {S:St}
def Sim.leP{S':St}{a:Act}{w:World}(h:Sim w0 G0 S a w)(b:LeP S S'):Sim w0 G0 S' a w:=by
 obtain⟨bx,rv,f,g,d,e⟩:=h;refine⟨bx,rv,by rw[b.bs,b.rs];exact f,by rw[b.n];exact g,d,λi=>?_⟩;rw[b.rs];show FT _ _ [look S'.sl i]
 rcases b.sl.get i with c|c
 ·rw[c];exact .any _ .nil
 rw[c];exact e i
def Sim.drew{a:Act}{w:World}(h:Sim w0 G0 S a w):Sim w0 G0 S a w.drew:=by
 obtain⟨bx,rv,d,e,b,c⟩:=h;exact⟨bx,rv,d.later (Below.refl _ _).drew,e,b,λi=>(c i).later (Below.refl _ _).drew⟩
inductive StepsD (w0:World) (G0:Bse) (ops:Array Oper) (SS:(Nat->Bool)->St->Prop):Nat->List Oper->Prop
 |nil {i:Nat}:StepsD w0 G0 ops SS i []
 |op {i:Nat} {o:Oper} {os:List Oper} (h:∀L,Kn ops L i->∀S,SS L S->AOps w0 G0 ops [o] (λe S'=>e=.normal/\∃Sx,SS (LZ L i) Sx/\LeP S' Sx) S) (hs:StepsD w0 G0 ops SS (i+1) os):StepsD w0 G0 ops SS i (o::os)
end
def Jj(W:World)(G:Nat->Prop):∀a:List Value,PT W G a (a.map Tree.sc)
 |[]=>.nil
 |z::a=>.sc z (Jj W G a)
def oR{S:St}{o:Oper}{t:TypeId}{parts:Array (Nat×Operand)}{u:List (Nat×Nat)}{y:List Value}{qs:List (Nat×Tree)}{rs:List Tree}(r:o.op=.build t parts)(b:si prog t=some (u,y))(s:parts.toList.map (λp=>(p.1,S.ev p.2))=qs)(c:(qs.all λq=>q.2.oneA)=true)(F:qn (u[·]?) (y.map Tree.sc) qs=some rs):OpOK o S (.agg rs):=by
 intro w0 G0 bx rv w T G C;have n:=qq (S:=S) C parts.toList (λp D=>by rw[r];simp only[Op.operands,Sv];exact⟨p,D,Z⟩);unfold si at b;split at b
 ·next fs i hu hi=>
  cases k:i.zero with
  |none=>simp[k]at b
  |some z=>
   simp only[k,Sp,R9,Td]at b;obtain⟨a,h,rfl,rfl⟩:=b;have j:=pR (w:=w) h;rw[s]at n;obtain⟨us,A,B⟩:=tW (E:=en w G0 bx rv S.rs) (place:=(a[·]?)) (ps:=parts.toList.map λp=>(p.1,dG T p.2)) (qs:=qs) (cells:=z.cells) (ts:=z.cells.toList.map Tree.sc) (by rw[<-s];simp) n c (.of (Jj _ _ _)) F;refine aE (v:=.agg us) (W':=w) ?_ ⟨?_,Below.refl _ _⟩
   ·have g:(fs.mapM (m:=Sem) λf=>do pure (f.offset,<-sizeOf f.type)).run prog w=.ok a.toArray w:=by
     rw[SR,Sem.run_map,j];rfl
    have e:Instr.fill (λx=>a.toArray[x]?) z.cells (parts.map λp=>(p.1,dG T p.2)).toList=some us:=by
     rw[<-A];simp
    have l:(zeroValue t).run prog w=.ok z w:=by simp[zeroValue,typeInfo,hi,k]
    have d:(Instr.build t (parts.map λp=>(p.1,dG T p.2))).run prog w=.ok (.agg us) w:=by
     unfold Instr.build;rw[Sem.run_bind,l,Result.andThen_ok,Sem.run_bind,run_underlying hu,Result.andThen_ok];simp only;rw[Sem.run_bind,g,Result.andThen_ok];simp only[e];rfl
    simp[execOp,r,d]
   have:FT (en w G0 bx rv S.rs) [.agg us.toList.toArray] [.agg rs]:=.agg _ _ B .nil;simpa using this
 cases b
section
variable {w0 w:World} {G0:Bse} {bs:List (TypeId×List Tree)} {rs:List (Option Row)} {bx:List Nat} {rv:List Value} {e sz:Nat}
def uE(c:rv.length=rs.length)(b:Nat)(i:b∈cJ bx (rv++[.slice none 0 0]) (rs++[some ⟨e,sz,[],false⟩])):b∈cJ bx rv rs:=by
 rcases be.1 i with a|⟨j,u,X,a,f,d⟩
 ·exact be.2 (.inl a)
 rcases dQ c j u X a f with⟨_,rfl,_⟩|⟨_,g,h⟩
 ·simp[Value.ownBlock]at d
 exact be.2 (.inr ⟨j,u,X,g,h,d⟩)
def A7(a:rv.length=rs.length):∀b,b<w.heap.size->¬GG G0 bx rv rs b->w.heap[b]? =w.heap[b]? /\¬GG G0 bx (rv++[.slice none 0 0]) (rs++[some ⟨e,sz,[],false⟩]) b:=λb _ c=>⟨Z,λh=>c (h.imp id (uE a b))⟩
def Jk(a:rv.length=rs.length){us:List Value}{ts:List Tree}(h:FT (en w G0 bx rv rs) us ts):FT (en w G0 bx (rv++[.slice none 0 0]) (rs++[some ⟨e,sz,[],false⟩])) us ts:=h.mono (Q3 _) (A7 a) (λ_ _ h=>h) λj u h=>by
 have h:fX rv rs j=some u:=h;show fX (rv++[.slice none 0 0]) (rs++[some ⟨e,sz,[],false⟩]) j=some u
 unfold fX at h⊢;cases b:rs[j]? with
 |none=>simp[b]at h
 |some r=>
  have c:=(Q6.1 b).1;rw[Rv c,Rv O];exact h
def Mem.addNil(c:Mem w0 G0 bs rs bx rv w):Mem w0 G0 bs (rs++[some ⟨e,sz,[],false⟩]) bx (rv++[.slice none 0 0]) w:=by
 have a:=c.nr;refine⟨c.below,c.env0,c.g0,c.nb,by simp[a],λi g B=>?_,λj u X d f=>?_,⟨c.nodup.bb,λj u X b d f l=>?_,λi j u v X Y b o d f l k m n=>?_⟩,λb z=>c.ge b (uE a b z),c.pin⟩
 ·obtain⟨ty,cs,us,d,f,l,k⟩:=c.box i g B;exact⟨ty,cs,us,d,f,Jk a l,k⟩
 ·rcases dQ a j u X d f with⟨_,rfl,rfl⟩|⟨_,k,m⟩
  ·exact⟨[],World.ownsRow_nil _ _ _ _,.nil,⟨(λ_ h=>by cases h),λh=>by cases h⟩,(λg A=>by cases A)⟩
  obtain⟨xs,n,t,x,y⟩:=c.row j u X k m;exact⟨xs,n,t.mono (Q3 _) (A7 a),x,y⟩
 ·rcases dQ a j u X d f with⟨_,rfl,_⟩|⟨_,k,m⟩
  ·simp[Value.ownBlock]at l
  exact c.nodup.br j u X b k m l
 rcases dQ a i u X d f with⟨_,rfl,_⟩|⟨_,p,q⟩
 ·simp[Value.ownBlock]at m
 rcases dQ a j v Y l k with⟨_,rfl,_⟩|⟨_,r,s⟩
 ·simp[Value.ownBlock]at n
 exact c.nodup.rr i j u v X Y b o p q r s m n
def xU{E:En}{a:Tree}(h:∀v,FT E [v] [.sc (.slice none 0 0)]->FT E [v] [a]):∀{us:List Value} {ts:List Tree} (off:Nat),FT E us ts->ts[off]? =some (.sc (.slice none 0 0))->FT E us (ts.set off a)
 |[],[],_,_,ht=>by simp at ht
 |[],_::_,_,h',_=>by cases h'
 |_::_,[],_,h',_=>by cases h'
 |u::us,t::ts,0,h',ht=>by
  simp only[RY,Ro]at ht;subst ht;exact FT.cons (h u h'.head) h'.tail
 |u::us,t::ts,off+1,h',ht=>FT.cons h'.head (xU h off h'.tail (by simpa using ht))
end
section
variable {w0:World} {G0:Bse} {Q:Exit->St->Prop} {n:Nat} {sl:List (Nat×Tree)} {bs:List (TypeId×List Tree)} {rs:List (Option Row)}
def iU{c:Code}(b off e sz:Nat){ty:TypeId}{cs:List Tree}(y:bs[b]? =some (ty,cs))(A:cs[off]? =some (.sc (.slice none 0 0))){bs':List (TypeId×List Tree)}{rs':List (Option Row)}(l:bs.set b (ty,cs.set off (.own rs.length))=bs')(p:rs++[some ⟨e,sz,[],false⟩]=rs')(h:AWP w0 G0 c Q ⟨n,sl,bs',rs'⟩):AWP w0 G0 c Q ⟨n,sl,bs,rs⟩:=by
 subst l p;rintro a w ⟨bx,rv,z,r,m,q⟩;have o:rv.length=rs.length:=z.nr;have d:Mem w0 G0 bs (rs++[some ⟨e,sz,[],false⟩]) bx (rv++[.slice none 0 0]) w:=z.addNil;refine h a w ⟨bx,rv++[.slice none 0 0],⟨d.below,d.env0,d.g0,by simp[d.nb],d.nr,λi g B=>?_,d.row,d.nodup,d.ge,d.pin⟩,r,m,λi=>Jk o (q i)⟩;obtain⟨s,j,us,k,t,u,x⟩:=d.box i g B;by_cases f:i=b
 ·subst f;rw[y]at k;cases k;refine⟨ty,cs.set off (.own rs.length),us,by rw[So (Q6.1 y).1],t,xU (λv C=>?_) off u A,x⟩;obtain rfl:=C.isSc;refine .own _ 0 0 none ?_ .nil;show fX (rv++[.slice none 0 0]) (rs++[some ⟨e,sz,[],false⟩]) rs.length=_
  unfold fX;rw[Ru (Q3 _),RW,Ru O,show rs.length-rv.length=0 by omega];rfl
 exact⟨s,j,us,by rw[Se (λe=>f e.symm)];exact k,t,u,x⟩
end
