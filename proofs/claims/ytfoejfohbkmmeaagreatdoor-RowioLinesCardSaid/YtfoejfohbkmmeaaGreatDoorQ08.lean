import Derived.Test.YtfoejfohbkmmeaaGreatDoorQ07
import Derived.Test.YtfoejfohbkmmeaaGreatDoorQ00
namespace Go.Proofs.YtfoejfohbkmmeaaGreatDoor
open Go.RowKit
open Lib renaming hid→J
def lZ(k:Nat)(es:List Tree):Tree->Tree
 | .own j=>if j=k then .sl es else .own j
 | .elp j off=>if j=k then .any else .elp j off
 | .agg _| .tup _=>.any
 |t=>t
def Cz(k:Nat)(es:List Tree):Tree->Tree
 | .agg cs=>.agg (cs.map (lZ k es))
 |t=>lZ k es t
section
variable {w0 w:World} {G0:Nat->Prop} {bs:List (TypeId×List Tree)} {rs:List (Option Row)} {bx:List Nat} {rv:List Value} {k:Nat} {R:Row} {v:Value}
theorem iv(j:Nat)(X:Row)(h:(rs.set k none)[j]? =some (some X)):j≠k/\rs[j]? =some (some X):=by
 by_cases a:j=k
 ·subst a;have b:=(L7.1 h).1;rw[MU]at b;rw[NA b]at h;cases h
 rw[Nm (fun e=>a e.symm)]at h;exact⟨a,h⟩
theorem nt{b:Nat}(h:b∈cq bx rv (rs.set k none)):b∈cq bx rv rs:=by
 rcases aX.1 h with a|⟨j,u,X,a,d,c⟩
 ·exact aX.2 (.inl a)
 exact aX.2 (.inr ⟨j,u,X,a,(iv j X d).2,c⟩)
theorem l3:∀b,b<w.heap.size->¬GG G0 bx rv rs b->w.heap[b]? =w.heap[b]? /\¬GG G0 bx rv (rs.set k none) b:=fun _ _ a=>⟨Z,fun h=>a (h.imp id nt)⟩
theorem vw(j:Nat)(u:Value)(a:j≠k)(h:fh rv rs j=some u):fh rv (rs.set k none) j=some u:=by
 unfold fh at h⊢;rw[Nm (fun e=>a e.symm)];exact h
theorem Bo(b:Mem w0 G0 bs rs bx rv w)(c:rs[k]? =some (some R))(h:fh rv rs k=some v):PT w (GG G0 bx rv (rs.set k none)) [v] [.sl R.es]:=by
 have d:rv[k]? =some v:=by simpa[fh,c]using h
 obtain⟨xs,n,r,z,_⟩:=b.row k v R d c;have m:=r.mono (G':=GG G0 bx rv (rs.set k none)) (L5 _) l3;rcases n.2 with⟨rfl,f⟩|⟨g,e,cur,rfl,x,s,f,i,A,y⟩
 ·have:R.es=[]:=Mk f;rw[this];exact dI _ _
 refine .sl g 0 e _ xs R.es (ML.1 s).1 (fun a=>?_) (fun j u o=>?_) Z f (by unfold maxLen at i;omega) m .nil
 ·rcases a with a|a
  ·have:=(b.g0 g a).1;omega
  rcases aX.1 a with a|⟨j,u,X,p,l,t⟩
  ·exact b.nodup.br k _ R g d c Z a
  obtain⟨q,l⟩:=iv j X l;exact b.nodup.rr j k u _ X R g q p l d c t Z
 have:=n.cells (g:=g) Z j u o;rw[Addr.add_mid]at this;exact this
theorem Bp(a:Mem w0 G0 bs rs bx rv w)(d:rs[k]? =some (some R)){u:Value}{t:Tree}(h:FT (en w G0 bx rv rs) [u] [t]):FT (en w G0 bx rv (rs.set k none)) [u] [lZ k R.es t]:=by
 cases h with
 |pure h _=>
  cases t<;>first
   |exact .pure (h.mono (L5 _) l3) .nil
   |(simp only[lZ];exact .any _ .nil)
   |(cases h)
 |any=>exact .any _ .nil
 |box b off g h _=>exact .box b off g h .nil
 |own j n c A hv _=>
  simp only[lZ];split
  ·next e=>subst e;exact .pure (Bo a d hv) .nil
  next e=>exact .own j n c A (vw j _ e hv) .nil
 |elp j off g n c hv _=>
  simp only[lZ];split
  ·exact .any _ .nil
  next e=>exact .elp j off g n c (vw j _ e hv) .nil
 |agg=>exact .any _ .nil
 |tup=>exact .any _ .nil
theorem rG(a:Mem w0 G0 bs rs bx rv w)(b:rs[k]? =some (some R)):∀{us:List Value} {ts:List Tree},FT (en w G0 bx rv rs) us ts->FT (en w G0 bx rv (rs.set k none)) us (ts.map (lZ k R.es))
 |[],[],_=>.nil
 |[],_::_,h=>by cases h
 |_::_,[],h=>by cases h
 |u::us,t::ts,h=>FT.cons (Bp a b h.head) (rG a b h.tail)
theorem IP(a:Mem w0 G0 bs rs bx rv w)(b:rs[k]? =some (some R)){u:Value}{t:Tree}(h:FT (en w G0 bx rv rs) [u] [t]):FT (en w G0 bx rv (rs.set k none)) [u] [Cz k R.es t]:=by
 cases t with
 |agg cs=>
  obtain⟨xs,rfl,c⟩:=h.isAgg;exact .agg xs _ (rG a b c) .nil
 |_=>exact Bp a b h
end
section
variable {w0:World} {G0:Nat->Prop} {ops:Array Oper} {rest:List Oper} {Q:Exit->St->Prop} {o:Oper} {n:Nat} {sl:List (Nat×Tree)} {bs:List (TypeId×List Tree)} {rs:List (Option Row)} {S:St}
theorem Sim.rel{a:Act}{w:World}{k:Nat}{R:Row}(h:Sim w0 G0 ⟨n,sl,bs,rs⟩ a w)(r:rs[k]? =some (some R)):Sim w0 G0 ⟨n,sl.map fun p=>(p.1,Cz k R.es p.2),bs.map fun p=>(p.1,p.2.map (lZ k R.es)),rs.set k none⟩ a w:=by
 obtain⟨bx,rv,c,x,m,o⟩:=h;refine⟨bx,rv,⟨c.below,c.env0,c.g0,by simp[c.nb],by simp[c.nr],fun i g z=>?_,fun j u X d e=>?_,⟨c.nodup.bb,fun j u X b d e=>c.nodup.br j u X b d (iv j X e).2,fun i j u v X Y b q d e f l=>c.nodup.rr i j u v X Y b q d (iv i X e).2 f (iv j Y l).2⟩,fun b s=>c.ge b (nt s)⟩,x,m,fun i=>?_⟩
 ·obtain⟨ty,cs,us,d,e,f,l⟩:=c.box i g z;exact⟨ty,cs.map (lZ k R.es),us,by rw[MQ,d];rfl,e,rG c r f,l⟩
 ·obtain⟨xs,f,l,y,t⟩:=c.row j u X d (iv j X e).2;exact⟨xs,f,l.mono (L5 _) l3,y,t⟩
 show FT _ _ [look (sl.map fun p=>(p.1,Cz k R.es p.2)) i]
 rw[jp (Cz k R.es) Z];exact IP c r (o i)
theorem fD{c:Code}(k:Nat){R:Row}{sl':List (Nat×Tree)}{bs':List (TypeId×List Tree)}{rs':List (Option Row)}(f:rs[k]? =some (some R))(d:sl.map (fun p=>(p.1,Cz k R.es p.2))=sl')(b:bs.map (fun p=>(p.1,p.2.map (lZ k R.es)))=bs')(e:rs.set k none=rs')(h:AWP w0 G0 c Q ⟨n,sl',bs',rs'⟩):AWP w0 G0 c Q ⟨n,sl,bs,rs⟩:=by
 subst d b e;exact fun a w g=>h a w (g.rel f)
theorem cS{rs:List (Option Row)}{rv:List Value}{v:Value}{R:Row}(d:rv.length=rs.length)(j:Nat)(u:Value)(X:Row)(b:(rv++[v])[j]? =some u)(a:(rs++[some R])[j]? =some (some X)):(j=rs.length/\u=v/\X=R)\/(j<rs.length/\rv[j]? =some u/\rs[j]? =some (some X)):=by
 by_cases c:j<rs.length
 ·rw[ME (by omega)]at b;rw[ME c]at a;exact .inr ⟨c,b,a⟩
 have:=(L7.1 a).1;simp only[Mc,NL]at this;obtain rfl:j=rs.length:=by omega
 rw[Mw (by omega),show rs.length-rv.length=0 by omega]at b;rw[Mw (L5 _),M4]at a;simp only[MW,MN]at b a;exact .inl ⟨Z,b.symm,a.symm⟩
theorem g7{d k e sz:Nat}(A:o.op=.move (.const (.slice none 0 0))\/o.op=.assign (.const (.slice none 0 0)))(H:o.guard=none)(L:o.dst=some d)(V:Nat.blt d n=true)(R:rs.length=k){rs':List (Option Row)}(E:rs++[some ⟨e,sz,[],false⟩]=rs')(K:AOps w0 G0 ops rest Q ⟨n,(d,.own k)::sl,bs,rs'⟩):AOps w0 G0 ops (o::rest) Q ⟨n,sl,bs,rs⟩:=by
 subst E R;refine eD H (S':=⟨n,(d,.own rs.length)::sl,bs,rs++[some ⟨e,sz,[],false⟩]⟩) ?_ K;rintro a w ⟨bx,rv,f,z,I,C⟩;have c:rv.length=rs.length:=f.nr;have x:∀b,b∈cq bx (rv++[.slice none 0 0]) (rs++[some ⟨e,sz,[],false⟩])->b∈cq bx rv rs:=fun b D=>by
  rcases aX.1 D with l|⟨j,u,X,l,q,p⟩
  ·exact aX.2 (.inl l)
  rcases cS c j u X l q with⟨_,rfl,_⟩|⟨_,s,t⟩
  ·simp[Value.ownBlock]at p
  exact aX.2 (.inr ⟨j,u,X,s,t,p⟩)
 have m:∀b,b<w.heap.size->¬GG G0 bx rv rs b->w.heap[b]? =w.heap[b]? /\¬GG G0 bx (rv++[.slice none 0 0]) (rs++[some ⟨e,sz,[],false⟩]) b:=fun b _ P=>⟨Z,fun h=>P (h.imp id (x b))⟩
 have G:∀j u,fh rv rs j=some u->fh (rv++[.slice none 0 0]) (rs++[some ⟨e,sz,[],false⟩]) j=some u:=fun j u h=>by
  unfold fh at h⊢;cases J:rs[j]? with
  |none=>simp[J]at h
  |some r=>
   have W:=(L7.1 J).1;rw[ME W,ME (by omega)];exact h
 have y:∀{us ts},FT (en w G0 bx rv rs) us ts->FT (en w G0 bx (rv++[.slice none 0 0]) (rs++[some ⟨e,sz,[],false⟩])) us ts:=fun h=>h.mono (L5 _) m (fun _ _ h=>h) G
 refine aq (v:=.slice none 0 0) (W':=w) ?_ ⟨bx,rv++[.slice none 0 0],⟨f.below,f.env0,f.g0,f.nb,by simp[c],fun i g hi=>?_,fun j u X l q=>?_,⟨f.nodup.bb,fun j u X b l q p=>?_,fun i j u v X Y b F l q p s t B=>?_⟩,fun b D=>f.ge b (x b D)⟩,by rw[dB];exact z,by rw[cH,I],?_⟩
 ·rcases A with A|A<;>simp[execOp,A,cA]
 ·obtain⟨ty,cs,us,l,q,p,s⟩:=f.box i g hi;exact⟨ty,cs,us,l,q,y p,s⟩
 ·rcases cS c j u X l q with⟨_,rfl,rfl⟩|⟨_,s,t⟩
  ·exact⟨[],World.ownsRow_nil _ _ _ _,.nil,⟨(fun _ h=>by cases h),fun h=>by cases h⟩,(fun g H=>by cases H)⟩
  obtain⟨xs,B,N,T,O⟩:=f.row j u X s t;exact⟨xs,B,N.mono (L5 _) m,T,O⟩
 ·rcases cS c j u X l q with⟨_,rfl,_⟩|⟨_,s,t⟩
  ·simp[Value.ownBlock]at p
  exact f.nodup.br j u X b s t p
 ·rcases cS c i u X l q with⟨_,rfl,_⟩|⟨_,M,a2⟩
  ·simp[Value.ownBlock]at t
  rcases cS c j v Y p s with⟨_,rfl,_⟩|⟨_,S,U⟩
  ·simp[Value.ownBlock]at B
  exact f.nodup.rr i j u v X Y b F M a2 S U t B
 intro i;rw[ga a o.dst _ n z (by rw[L];simpa[cT,Nn]using V),L];show FT _ _ [look ((d,.own rs.length)::sl) i]
 rw[cV];simp only[MN];split
 ·refine .own _ 0 0 none ?_ .nil;show fh (rv++[.slice none 0 0]) (rs++[some ⟨e,sz,[],false⟩]) rs.length=_
  unfold fh;rw[Mw (L5 _),M4,Mw (by omega),show rs.length-rv.length=0 by omega];rfl
 exact y (C i)
end
theorem Eh{P:Program}{o:Oper}{a:Act}{w:World}{K g:Act->World->Prop}{Q i:Exit->Act->World->Prop}(h:∀a w,K a w->g a w)(f:∀e a w,Q e a w->i e a w)(b:o.wp P a w K Q):o.wp P a w g i:=by
 unfold Oper.wp at*;generalize (execOp a.eval o).run P w=r at*;cases r with
 |ok n w'=>
  cases n<;>simp only[Oper.upon]at b⊢<;>
   first
    |exact h _ _ b
    |exact Calls.mono b (fun e k d=>by
      cases e with
      |returned v=>exact h _ _ d
      |panicked c=>exact f _ _ _ d
      |outgrown=>obtain⟨a,w,j⟩:=d;exact⟨a,w,f _ _ _ j⟩)
    |exact Rows.mono b (fun _ _ d=>h _ _ d)
 |halt x w'=>cases x<;>simp only[Oper.upon]at b⊢<;>first|exact f _ _ _ b|exact b
theorem rH{P:Program}{ops:Array Oper}{o:Oper}{a:Act}{w:World}{Q d:Exit->Act->World->Prop}(c:∀e a w,Q e a w->d e a w)(b:wpList P ops Q [o] a w):wpList P ops d [o] a w:=by
 simp only[wpList]at b⊢;split
 ·next hw=>
  rw[if_pos hw]at b;rcases b with b|⟨f,h,w',g⟩
  ·exact .inl (Eh (fun a w=>c .normal a w) c b)
  exact .inr ⟨f,h,w',c _ _ _ g⟩
 next hw=>
 rw[if_neg hw]at b;exact c _ _ _ b
def DU(L:Nat->Bool)(i:Nat):Nat->Bool:=fun j=>cond (Nat.beq j i) true (L j)
structure Kn (ops:Array Oper) (L:Nat->Bool) (i:Nat):Prop where
 self:L i=false
 up:∀n j,(!Nat.beq j i&&reach ops n i j)=true->L j=true
 down:∀n j,reach ops n j i=true->L j=false
def KeepsP(S:St):List (Nat×Tree)->Prop
 |[]=>True
 |(i,t)::l=>S.get i=t/\KeepsP S l
theorem KeepsP.get{S:St}:∀{l:List (Nat×Tree)},KeepsP S l->∀i,look l i=.any\/look l i=S.get i
 |[],_,_=>.inl Z
 |(j,t)::l,h,i=>by
  rw[cV];split
  ·next e=>subst e;exact .inr h.1.symm
  exact h.2.get i
structure LeP (S S':St):Prop where
 n:S'.n=S.n
 bs:S'.bs=S.bs
 rs:S'.rs=S.rs
 sl:KeepsP S S'.sl
section
variable {w0:World} {G0:Nat->Prop} {Q:Exit->St->Prop} {S:St}
theorem Sim.leP{S':St}{a:Act}{w:World}(h:Sim w0 G0 S a w)(b:LeP S S'):Sim w0 G0 S' a w:=by
 obtain⟨bx,rv,f,g,c,e⟩:=h;refine⟨bx,rv,by rw[b.bs,b.rs];exact f,by rw[b.n];exact g,c,fun i=>?_⟩;rw[b.rs];show FT _ _ [look S'.sl i]
 rcases b.sl.get i with d|d
 ·rw[d];exact .any _ .nil
 rw[d];exact e i
theorem Sim.drew{a:Act}{w:World}(h:Sim w0 G0 S a w):Sim w0 G0 S a w.drew:=by
 obtain⟨bx,rv,e,d,b,c⟩:=h;exact⟨bx,rv,e.later (Below.refl _ _).drew,d,b,fun i=>(c i).later (Below.refl _ _).drew⟩
inductive StepsD (w0:World) (G0:Nat->Prop) (ops:Array Oper) (SS:(Nat->Bool)->St->Prop):Nat->List Oper->Prop
 |nil {i:Nat}:StepsD w0 G0 ops SS i []
 |op {i:Nat} {o:Oper} {os:List Oper} (h:∀L,Kn ops L i->∀S,SS L S->AOps w0 G0 ops [o] (fun e S'=>e=.normal/\∃Sx,SS (DU L i) Sx/\LeP S' Sx) S) (hs:StepsD w0 G0 ops SS (i+1) os):StepsD w0 G0 ops SS i (o::os)
end
theorem Ei(W:World)(G:Nat->Prop):∀a:List Value,PT W G a (a.map Tree.sc)
 |[]=>.nil
 |z::a=>.sc z (Ei W G a)
theorem pr{S:St}{o:Oper}{t:TypeId}{parts:Array (Nat×Operand)}{r:List (Nat×Nat)}{y:List Value}{qs:List (Nat×Tree)}{rs:List Tree}(u:o.op=.build t parts)(b:tJ Tryz.prog t=some (r,y))(s:parts.toList.map (fun p=>(p.1,S.ev p.2))=qs)(d:(qs.all fun q=>q.2.oneA)=true)(B:nW (r[·]?) (y.map Tree.sc) qs=some rs):OpOK o S (.agg rs):=by
 intro w0 G0 bx rv w T G A;have n:=nZ (S:=S) A parts.toList (fun p C=>by rw[u];simp only[Op.operands,Ny];exact⟨p,C,Z⟩);unfold tJ at b;split at b
 ·next fs i hu hi=>
  cases h:i.zero with
  |none=>simp[h]at b
  |some z=>
   simp only[h,Nc,Na,Pk]at b;obtain⟨a,k,rfl,rfl⟩:=b;have l:=nq (w:=w) k;rw[s]at n;obtain⟨us,F,D⟩:=qP (E:=en w G0 bx rv S.rs) (place:=(a[·]?)) (ps:=parts.toList.map fun p=>(p.1,cA T p.2)) (qs:=qs) (cells:=z.cells) (ts:=z.cells.toList.map Tree.sc) (by rw[<-s];simp) n d (.of (Ei _ _ _)) B;refine aq (v:=.agg us) (W':=w) ?_ ⟨?_,Below.refl _ _⟩
   ·have j:(fs.mapM (m:=Sem) fun f=>do pure (f.offset,<-sizeOf f.type)).run Tryz.prog w=.ok a.toArray w:=by
     rw[Ol,Sem.run_map,l];rfl
    have g:Instr.fill (fun x=>a.toArray[x]?) z.cells (parts.map fun p=>(p.1,cA T p.2)).toList=some us:=by
     rw[<-F];simp
    have e:(zeroValue t).run Tryz.prog w=.ok z w:=by simp[zeroValue,typeInfo,hi,h]
    have c:(Instr.build t (parts.map fun p=>(p.1,cA T p.2))).run Tryz.prog w=.ok (.agg us) w:=by
     unfold Instr.build;rw[Sem.run_bind,e,Result.andThen_ok,Sem.run_bind,run_underlying hu,Result.andThen_ok];simp only;rw[Sem.run_bind,j,Result.andThen_ok];simp only[g];rfl
    simp[execOp,u,c]
   have:FT (en w G0 bx rv S.rs) [.agg us.toList.toArray] [.agg rs]:=.agg _ _ D .nil;simpa using this
 cases b
section
variable {w0 w:World} {G0:Nat->Prop} {bs:List (TypeId×List Tree)} {rs:List (Option Row)} {bx:List Nat} {rv:List Value} {e sz:Nat}
theorem rI(a:rv.length=rs.length)(b:Nat)(f:b∈cq bx (rv++[.slice none 0 0]) (rs++[some ⟨e,sz,[],false⟩])):b∈cq bx rv rs:=by
 rcases aX.1 f with c|⟨j,u,X,c,g,d⟩
 ·exact aX.2 (.inl c)
 rcases cS a j u X c g with⟨_,rfl,_⟩|⟨_,i,h⟩
 ·simp[Value.ownBlock]at d
 exact aX.2 (.inr ⟨j,u,X,i,h,d⟩)
theorem wQ(a:rv.length=rs.length):∀b,b<w.heap.size->¬GG G0 bx rv rs b->w.heap[b]? =w.heap[b]? /\¬GG G0 bx (rv++[.slice none 0 0]) (rs++[some ⟨e,sz,[],false⟩]) b:=fun b _ c=>⟨Z,fun h=>c (h.imp id (rI a b))⟩
theorem Ej(a:rv.length=rs.length){us:List Value}{ts:List Tree}(h:FT (en w G0 bx rv rs) us ts):FT (en w G0 bx (rv++[.slice none 0 0]) (rs++[some ⟨e,sz,[],false⟩])) us ts:=h.mono (L5 _) (wQ a) (fun _ _ h=>h) fun j u h=>by
 have h:fh rv rs j=some u:=h;show fh (rv++[.slice none 0 0]) (rs++[some ⟨e,sz,[],false⟩]) j=some u
 unfold fh at h⊢;cases b:rs[j]? with
 |none=>simp[b]at h
 |some r=>
  have c:=(L7.1 b).1;rw[ME c,ME (by omega)];exact h
theorem Mem.addNil(c:Mem w0 G0 bs rs bx rv w):Mem w0 G0 bs (rs++[some ⟨e,sz,[],false⟩]) bx (rv++[.slice none 0 0]) w:=by
 have a:=c.nr;refine⟨c.below,c.env0,c.g0,c.nb,by simp[a],fun i g B=>?_,fun j u X k d=>?_,⟨c.nodup.bb,fun j u X b k d l=>?_,fun i j u v X Y b o k d l f m n=>?_⟩,fun b p=>c.ge b (rI a b p)⟩
 ·obtain⟨ty,cs,us,k,d,l,f⟩:=c.box i g B;exact⟨ty,cs,us,k,d,Ej a l,f⟩
 ·rcases cS a j u X k d with⟨_,rfl,rfl⟩|⟨_,f,m⟩
  ·exact⟨[],World.ownsRow_nil _ _ _ _,.nil,⟨(fun _ h=>by cases h),fun h=>by cases h⟩,(fun g z=>by cases z)⟩
  obtain⟨xs,n,r,x,s⟩:=c.row j u X f m;exact⟨xs,n,r.mono (L5 _) (wQ a),x,s⟩
 ·rcases cS a j u X k d with⟨_,rfl,_⟩|⟨_,f,m⟩
  ·simp[Value.ownBlock]at l
  exact c.nodup.br j u X b f m l
 rcases cS a i u X k d with⟨_,rfl,_⟩|⟨_,q,A⟩
 ·simp[Value.ownBlock]at m
 rcases cS a j v Y l f with⟨_,rfl,_⟩|⟨_,t,y⟩
 ·simp[Value.ownBlock]at n
 exact c.nodup.rr i j u v X Y b o q A t y m n
theorem tV{E:En}{a:Tree}(h:∀v,FT E [v] [.sc (.slice none 0 0)]->FT E [v] [a]):∀{us:List Value} {ts:List Tree} (off:Nat),FT E us ts->ts[off]? =some (.sc (.slice none 0 0))->FT E us (ts.set off a)
 |[],[],_,_,ht=>by simp at ht
 |[],_::_,_,h',_=>by cases h'
 |_::_,[],_,h',_=>by cases h'
 |u::us,t::ts,0,h',ht=>by
  simp only[MW,MN]at ht;subst ht;exact FT.cons (h u h'.head) h'.tail
 |u::us,t::ts,off+1,h',ht=>FT.cons h'.head (tV h off h'.tail (by simpa using ht))
end
section
variable {w0:World} {G0:Nat->Prop} {Q:Exit->St->Prop} {n:Nat} {sl:List (Nat×Tree)} {bs:List (TypeId×List Tree)} {rs:List (Option Row)}
theorem mD{c:Code}(b off e sz:Nat){ty:TypeId}{cs:List Tree}(t:bs[b]? =some (ty,cs))(B:cs[off]? =some (.sc (.slice none 0 0))){bs':List (TypeId×List Tree)}{rs':List (Option Row)}(j:bs.set b (ty,cs.set off (.own rs.length))=bs')(m:rs++[some ⟨e,sz,[],false⟩]=rs')(h:AWP w0 G0 c Q ⟨n,sl,bs',rs'⟩):AWP w0 G0 c Q ⟨n,sl,bs,rs⟩:=by
 subst j m;rintro a w ⟨bx,rv,x,o,q,l⟩;have r:rv.length=rs.length:=x.nr;have d:Mem w0 G0 bs (rs++[some ⟨e,sz,[],false⟩]) bx (rv++[.slice none 0 0]) w:=x.addNil;refine h a w ⟨bx,rv++[.slice none 0 0],⟨d.below,d.env0,d.g0,by simp[d.nb],d.nr,fun i g C=>?_,d.row,d.nodup,d.ge⟩,o,q,fun i=>Ej r (l i)⟩;obtain⟨k,p,us,s,y,u,z⟩:=d.box i g C;by_cases f:i=b
 ·subst f;rw[t]at s;cases s;refine⟨ty,cs.set off (.own rs.length),us,by rw[NA (L7.1 t).1],y,tV (fun v A=>?_) off u B,z⟩;obtain rfl:=A.isSc;refine .own _ 0 0 none ?_ .nil;show fh (rv++[.slice none 0 0]) (rs++[some ⟨e,sz,[],false⟩]) rs.length=_
  unfold fh;rw[Mw (L5 _),M4,Mw (by omega),show rs.length-rv.length=0 by omega];rfl
 exact⟨k,p,us,by rw[Nm (fun e=>f e.symm)];exact s,y,u,z⟩
end
end Go.Proofs.YtfoejfohbkmmeaaGreatDoor
