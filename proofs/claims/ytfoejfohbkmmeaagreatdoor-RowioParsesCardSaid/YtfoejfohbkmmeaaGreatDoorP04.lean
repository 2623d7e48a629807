import Derived.Test.YtfoejfohbkmmeaaGreatDoorP03
import Derived.Test.YtfoejfohbkmmeaaGreatDoorP00
namespace Go.Proofs.YtfoejfohbkmmeaaGreatDoor
open Go.RowKit
open Lib renaming hid→J
section
variable {w0:World} {G0:Bse} {S:St} {o:Oper}
theorem rU{ty:TypeId}{e:List Value}(m:o.op=.alloc ty)(k:dM S.n o.dst=true)(b:gz Tryz.prog ty=some e)(l:e.all bQ=true):rk w0 G0 o S ({S with bs:=S.bs++[(ty,e.map dl)]}.put o.dst (.box S.bs.length 0)):=by
 rintro a w ⟨bx,rv,j,c,d,h⟩;unfold gz at b;simp only[Ow,Nb]at b;obtain⟨i,p,z,b,rfl⟩:=b;have f:=j.addBox (ty:=ty) (us:=z.cells.toList) (cs:=z.cells.toList.map dl) (.of (mQ _ _ _)) l;refine aC (v:=.pointer (some ⟨w.heap.size,0,none⟩)) (W':=w.alloc (.cells z.cells ty)) ?_ ⟨bx++[w.heap.size],rv,?_,by rw[dY,fd,c],by rw[dg,d],?_⟩
 ·have g:(zeroValue ty).run Tryz.prog w=.ok z w:=by simp[zeroValue,typeInfo,p,b]
  simp[execOp,m,Instr.alloc,newVar,newRow,newObj,Sem.run,g]
 ·rw[eB,c6];simpa using f
 rw[c6];intro i;rw[gD a o.dst _ S.n c k,dV];split
 ·exact .box _ _ _ (by show(bx++[w.heap.size])[S.bs.length]? =_;rw[<-j.nb];simp) .nil
 exact kL _ (h i)
theorem nD{P:Program}{w:World}{g off:Nat}{ty t:TypeId}{cur:List Value}{v:Value}(f:w.heap[g]? =some (.cells cur.toArray t (0,0)))(e:(P.info? ty).map (·.size)=some v.cells.size)(b:off+v.cells.size<=cur.length)(h:∀u∈v.cells.toList,u.oneCell'=true):
  (Instr.storeAt ty (.pointer (some ⟨g,off,none⟩)) v).run P w=.ok () (w.setRow g (cur.take off++v.cells.toList++cur.drop (off+v.cells.size)).toArray):=by
 have a:=run_storeCells_at P g off t v.cells.toList 0 cur.toArray w f (by simpa using b) h;simp only[Nk,MY]at a;cases c:P.info? ty with
 |none=>simp[c]at e
 |some i=>
  have d:v.cells.size=i.size:=by simp[c]at e;omega
  simp[Instr.storeAt,Instr.sureAddr,storeVar,sizeOf,typeInfo,c,d]at a⊢;rw[<-d]at a⊢;exact a
theorem oL(w:World)(g:Nat)(cs:Array Value):w.grownBy (w.setRow g cs) (some g):=⟨Z,Z,Z,by simp[World.setRow],fun k _ a=>setRow_other w g k cs (fun e=>a (by rw[e]))⟩
def EI(cs:List Tree)(off:Nat)(t:Tree):List Tree:=cs.take off++t.cells++cs.drop (off+t.cells.length)
theorem mn{us vs:List Value}{off n:Nat}(h:us.all bQ=true)(b:vs.all bQ=true):(us.take off++vs++us.drop n).all bQ=true:=by
 simp only[NH,L8];exact⟨⟨Mh.2 fun x a=>Mh.1 h x (ME a),b⟩,Mh.2 fun x a=>Mh.1 h x (Nd a)⟩
theorem ly{ty k:TypeId}{x y:Operand}{b off:Nat}{cs:List Tree}{t:Tree}{n:Nat}(u:o.op=.store ty x y)(f:o.dst=none)(H:S.ev x=.box b off)(N:S.bs[b]? =some (k,cs))(K:S.ev y=t)(I:t.oneA=true)(J:t.cells.all Tree.one=true)(O:t.cells.all Tree.noDig=true)(M:(Tryz.prog.info? ty).map (·.size)=some n)(E:t.cells.length=n)(A:off+n<=cs.length):rk w0 G0 o S {S with bs:=S.bs.set b (k,EI cs off t)}:=by
 rintro a w ⟨bx,rv,F,B,z,d⟩;have D:=bL (op:=o.op) (T:=fun s=>a.tmps.getD s undef) (S:=S) (fun s _=>d s) K (by rw[u];simp[Op.operands]);have C:=bL (op:=o.op) (T:=fun s=>a.tmps.getD s undef) (S:=S) (fun s _=>d s) H (by rw[u];simp[Op.operands]);generalize (fun s=>a.tmps.getD s undef)=T at D C⊢;obtain⟨g,us,j,L,l,q,G⟩:=pV F N C;have p:=oI D I;have c:=p.length;rw[MY]at c;have r:=q.length;have h:=nD (P:=Tryz.prog) (w:=w) (g:=g) (off:=off) (ty:=ty) (t:=k) (cur:=us) (v:=dU T y) l (by rw[M,c,E]) (by rw[c,E,r];exact A) (p.ones J);have m:g∈cR bx rv S.rs:=aY.2 (.inl (L7 j));have e:=oL w g (us.take off++(dU T y).cells.toList++us.drop (off+(dU T y).cells.size)).toArray;refine fQ (W':=w.setRow g (us.take off++(dU T y).cells.toList++us.drop (off+(dU T y).cells.size)).toArray) (by simp only[execOp,u,L,Sem.run_bind,h,Result.andThen_ok];rfl) ⟨bx,rv,?_,by rw[dY];exact B,by rw[dg,z],?_⟩
 ·refine F.setBox (ty:=k) j e (setRow_heap w g us.toArray _ k (0,0) l) ?_ (mn G (p.noDigs O));unfold EI;rw[<-c];exact rT m e (((q.take off).append p).append (q.drop _))
 intro i;rw[f];exact rT m e (d i)
def iC(k:Nat):Tree->Tree
 | .own j=>if j=k then .any else .own j
 | .elp j off=>if j=k then .any else .elp j off
 | .agg _=>.any
 | .tup _=>.any
 |t=>t
def mb(k:Nat):Tree->Tree
 | .agg cs=>.agg (cs.map (iC k))
 |t=>iC k t
theorem FT.kill0{E E':En}{k:Nat}{v:Value}{t:Tree}(h:FT E [v] [t])(f:E.W.heap.size<=E'.W.heap.size)(d:∀b,b<E.W.heap.size->¬E.G b->E'.W.heap[b]? =E.W.heap[b]? /\¬E'.G b)(e:∀b g,E.bx b=some g->E'.bx b=some g)(a:∀j v,j≠k->E.rv j=some v->E'.rv j=some v):FT E' [v] [iC k t]:=by
 cases h with
 |pure h _=>
  cases t<;>first
   |exact .pure (h.mono f d) .nil
   |(simp only[iC];exact .any _ .nil)
   |(cases h)
 |any=>exact .any _ .nil
 |box b off g h _=>exact .box b off g (e b g h) .nil
 |own j n c A hv _=>
  simp only[iC];split
  ·exact .any _ .nil
  exact .own j n c A (a j _ (by assumption) hv) .nil
 |elp j off g n c hv _=>
  simp only[iC];split
  ·exact .any _ .nil
  exact .elp j off g n c (a j _ (by assumption) hv) .nil
 |agg=>exact .any _ .nil
 |tup=>exact .any _ .nil
theorem pX{E E':En}{k:Nat}(a:E.W.heap.size<=E'.W.heap.size)(e:∀b,b<E.W.heap.size->¬E.G b->E'.W.heap[b]? =E.W.heap[b]? /\¬E'.G b)(c:∀b g,E.bx b=some g->E'.bx b=some g)(d:∀j v,j≠k->E.rv j=some v->E'.rv j=some v):∀{us:List Value} {ts:List Tree},FT E us ts->FT E' us (ts.map (iC k))
 |[],[],_=>.nil
 |[],_::_,h=>by cases h
 |_::_,[],h=>by cases h
 |u::us,t::ts,h=>FT.cons (h.head.kill0 a e c d) (pX a e c d h.tail)
theorem FT.kill{E E':En}{k:Nat}{v:Value}{t:Tree}(h:FT E [v] [t])(c:E.W.heap.size<=E'.W.heap.size)(a:∀b,b<E.W.heap.size->¬E.G b->E'.W.heap[b]? =E.W.heap[b]? /\¬E'.G b)(d:∀b g,E.bx b=some g->E'.bx b=some g)(e:∀j v,j≠k->E.rv j=some v->E'.rv j=some v):FT E' [v] [mb k t]:=by
 cases t with
 |agg cs=>
  obtain⟨xs,rfl,f⟩:=h.isAgg;exact .agg xs _ (pX c a d e f) .nil
 |_=>exact h.kill0 c a d e
def St.kill(S:St)(k:Nat):St:={S with sl:=S.sl.map fun p=>(p.1,mb k p.2),bs:=S.bs.map fun p=>(p.1,p.2.map (iC k))}
theorem jL(f:Tree->Tree)(a:f .any=.any):∀(l:List (Nat×Tree)) (i:Nat),look (l.map fun p=>(p.1,f p.2)) i=f (look l i)
 |[],i=>a.symm
 |(j,t)::l,i=>by
  simp only[M3,cZ];split
  ·rfl
  exact jL f a l i
theorem qF(S:St)(k i:Nat):(S.kill k).get i=mb k (S.get i):=jL (mb k) Z S.sl i
section
variable {w w':World} {bs:List (TypeId×List Tree)} {rs:List (Option Row)} {bx:List Nat} {rv:List Value} {k:Nat} {v v':Value} {R R':Row}
theorem lz(f:k<rv.length)(j:Nat)(u:Value)(X:Row):(rv.set k v')[j]? =some u->(rs.set k (some R'))[j]? =some (some X)->(j=k/\u=v'/\X=R')\/(j≠k/\rv[j]? =some u/\rs[j]? =some (some X)):=fun b a=>by
 by_cases c:j=k
 ·subst c;left;have d:=(L6.1 a).1;rw[MJ]at d;rw[Nw f]at b;rw[Nw d]at a;cases b;cases a;exact⟨Z,Z,Z⟩
 right;rw[Nm (fun e=>c e.symm)]at b a;exact⟨c,b,a⟩
theorem Jq(e:rv[k]? =some v)(n:rs[k]? =some (some R))(a:∀g,v'.ownBlock=some g->v.ownBlock=some g\/w.heap.size<=g){b:Nat}(o:b<w.heap.size)(h:GG G0 bx (rv.set k v') (rs.set k (some R')) b):GG G0 bx rv rs b:=by
 rcases h with h|h
 ·exact .inl h
 refine .inr (aY.2 ?_);rcases aY.1 h with c|⟨j,u,X,c,l,f⟩
 ·exact .inl c
 rcases lz (L6.1 e).1 j u X c l with⟨rfl,rfl,rfl⟩|⟨_,i,m⟩
 ·rcases a b f with d|d
  ·exact .inr ⟨j,v,R,e,n,d⟩
  omega
 exact .inr ⟨j,u,X,i,m,f⟩
theorem oM(d:rv[k]? =some v)(f:rs[k]? =some (some R))(j:w.grownBy w' v.ownBlock)(a:∀g,v'.ownBlock=some g->v.ownBlock=some g\/w.heap.size<=g):∀b,b<w.heap.size->¬GG G0 bx rv rs b->w'.heap[b]? =w.heap[b]? /\¬GG G0 bx (rv.set k v') (rs.set k (some R')) b:=fun b i c=>
 ⟨j.block b i fun e=>c (.inr (aY.2 (.inr ⟨k,v,R,d,f,e.symm⟩))),fun h=>c (Jq d f a i h)⟩
theorem EJ(j:Nat)(u:Value)(a:j≠k)(h:fl rv rs j=some u):fl (rv.set k v') (rs.set k (some R')) j=some u:=by
 unfold fl at h⊢;rw[Nm (fun e=>a e.symm),Nm (fun e=>a e.symm)];exact h
theorem Mem.setRowV(h:Mem w0 G0 bs rs bx rv w){xs:List Value}(r:rv[k]? =some v)(x:rs[k]? =some (some R))(A:w.grownBy w' v.ownBlock)(m:∀g,v'.ownBlock=some g->v.ownBlock=some g\/w.heap.size<=g)(S:w'.ownsRow 0 R'.e R'.sz v' R'.es.length xs)(Q:PT w' (GG G0 bx (rv.set k v') (rs.set k (some R'))) xs (flat R'.es))(N:Sized R'.sz R'.es/\(R'.tt=true->nR v'))(O:∀g,v'.ownBlock=some g->NoDigB w' g):
  Mem w0 G0 (bs.map fun p=>(p.1,p.2.map (iC k))) (rs.set k (some R')) bx (rv.set k v') w':=by
 have d:=(L6.1 r).1;have n:=oM (R':=R') (G0:=G0) (bx:=bx) r x A m;have L:∀b,v.ownBlock=some b->w0.heap.size<=b\/G0.X b:=fun b D=>h.ge b (aY.2 (.inr ⟨k,v,R,r,x,D⟩))
 have y:∀b,b∈cR bx (rv.set k v') (rs.set k (some R'))->b∈cR bx rv rs\/(v'.ownBlock=some b/\w.heap.size<=b):=fun b D=>by
  rcases aY.1 D with a|⟨j,u,X,a,q,o⟩
  ·exact .inl (aY.2 (.inl a))
  rcases lz d j u X a q with⟨rfl,rfl,rfl⟩|⟨_,f,l⟩
  ·rcases m b o with c|c
   ·exact .inl (aY.2 (.inr ⟨j,v,R,r,x,c⟩))
   exact .inr ⟨o,c⟩
  exact .inl (aY.2 (.inr ⟨j,u,X,f,l,o⟩))
 refine⟨h.below.grown A (fun b e=>L b e),h.env0,h.g0,by simp[h.nb],by simp[h.nr],fun i g J=>?_,fun j u X a q=>?_,?_,fun b D=>?_,h.pin⟩
 ·obtain⟨ty,cs,us,a,q,o,f⟩:=h.box i g J;refine⟨ty,cs.map (iC k),us,by rw[MN,a];rfl,(A.block g q.lt fun e=>?_).trans q,pX (E:=en w G0 bx rv rs) (E':=en w' G0 bx (rv.set k v') (rs.set k (some R'))) A.size n (fun _ _ h=>h) (fun j u C V=>EJ j u C V) o,f⟩;exact h.nodup.br k v R g r x e.symm (L7 J)
 ·rcases lz d j u X a q with⟨rfl,rfl,rfl⟩|⟨C,f,l⟩
  ·exact⟨xs,S,Q,N,O⟩
  obtain⟨U,c,z,T,P⟩:=h.row j u X f l;have B:∀b,u.ownBlock=some b->v.ownBlock≠some b:=fun b W e2=>h.nodup.rr j k u v X R b C f l r x W e2
  refine⟨U,c.kept A ?_,z.mono A.size n,T,fun g K=>(P g K).of (A.block g (c.lt g K).2 fun e=>B g K e.symm)⟩;cases hu:u.ownBlock with
  |none=>exact .inl Z
  |some b=>exact .inr fun e=>B b hu e.symm
 ·refine⟨h.nodup.bb,fun j u X b a q o I=>?_,fun i j u t X Y b s a q o f l c=>?_⟩
  ·rcases lz d j u X a q with⟨rfl,rfl,rfl⟩|⟨_,f,l⟩
   ·rcases m b o with c|c
    ·exact h.nodup.br j v R b r x c I
    have:=(h.ok b (.inr (aY.2 (.inl I)))).1;omega
   exact h.nodup.br j u X b f l o I
  rcases lz d i u X a q with⟨rfl,rfl,rfl⟩|⟨J,H,M⟩
  ·rcases lz d j t Y o f with⟨rfl,_,_⟩|⟨C,G,F⟩
   ·exact s Z
   rcases m b l with z|z
   ·exact h.nodup.rr i j v t R Y b s r x G F z c
   have:=(h.ok b (.inr (aY.2 (.inr ⟨j,t,Y,G,F,c⟩)))).1;omega
  rcases lz d j t Y o f with⟨rfl,rfl,rfl⟩|⟨C,G,F⟩
  ·rcases m b c with z|z
   ·exact h.nodup.rr i j u v X R b s H M r x l z
   have:=(h.ok b (.inr (aY.2 (.inr ⟨i,u,X,H,M,l⟩)))).1;omega
  exact h.nodup.rr i j u t X Y b s H M G F l c
 rcases y b D with a|⟨_,a⟩
 ·exact h.ge b a
 have:=h.below.size;exact .inl (by omega)
end
end
theorem cH{w:World}{g:Nat}{c:Array Value}{e:TypeId}{fr:Nat×Nat}(h:w.heap[g]? =some (.cells c e fr))(b:c.toList.all bQ=true):NoDigB w g:=fun i u a=>by
 simp only[World.cell?,h,Qm,N2,if_false]at a;exact Mh.1 b u (L7 (by simpa using a))
theorem mR{w:World}{g:Nat}{c:Array Value}{e:TypeId}(h:w.heap[g]? =some (.cells c e (0,0)))(a:NoDigB w g):c.toList.all bQ=true:=Mh.2 fun u b=>by
 obtain⟨i,d,rfl⟩:=Nc b;refine a i _ ?_;simp only[World.cell?,h,Qm,N2,if_false];rw[<-Nj];exact L3 d
theorem gO{z:Value}(c:z.cells.toList.all bQ=true)(n:Nat):(Builtin.zeroCells z.cells n).toList.all bQ=true:=Mh.2 fun u a=>by
 simp only[Builtin.zeroCells,OE,NA]at a;obtain⟨i,d,rfl⟩:=a;rw[Pj,MO];cases b:z.cells[i%z.cells.size]? with
 |none=>rfl
 |some x=>exact Mh.1 c x (by have:=P9 b;simpa using this)
theorem lA{l:List Value}(h:l.all bQ=true)(n:Nat):(l.take n).all bQ=true:=Mh.2 fun x a=>Mh.1 h x (ME a)
theorem mS{P:Program}(w:World)(base:Nat)(t ty e:TypeId)(i:TypeInfo)(z:Value)(size k:Nat)(J:P.underlying t=some (.slice e))(H:P.info? e=some i)(R:i.zero=some z)
  (o:i.size=size) (F:i.bytes=k) (S:z.cells.size=size) (T:0<size) (v:Value) (n:Nat) (xs:List Value) (b:w.ownsRow base e size v n xs) (A:Option Addr) (m c:Nat) (news:List Value) (C:news.length=m*size) (D:A=none->m=0/\c=0) (f:∀a,A=some a->∀j u,news[j]? =some u->w.cell? (a.add j)=some u) (W:∀u∈news,u.oneCell'=true)
  (M:n+m<=maxLen) (d:(n+m)*k<=140737488355328) (p:base<=w.heap.size) (G:z.cells.toList.all bQ=true) (r:news.all bQ=true) (V:∀g,v.ownBlock=some g->NoDigB w g):
  ∃v' w',(Builtin.append_ #[t,t] ty #[v,.slice A m c]).run P w=.ok v' w'/\w'.ownsRow base e size v' (n+m) (xs++news)/\w.grownBy w' v.ownBlock/\(v'.ownBlock=v.ownBlock\/v'.ownBlock=some w.heap.size)/\∀g,v'.ownBlock=some g->NoDigB w' g:=by
 cases A with
 |none=>
  obtain⟨rfl,rfl⟩:=D rfl;have hn:news=[]:=Mr (by simpa using C);subst hn;have E:=run_append_owned_none (P:=P) (w:=w) base t ty e i size J H v n xs b;exact⟨v,w,E,by simpa using b,⟨Z,Z,Z,L4 _,fun _ _ _=>rfl⟩,.inl Z,V⟩
 |some a=>
  obtain⟨v',w',Q,h2,h3,X,h5⟩:=run_append_own_at (P:=P) w base t ty e i z size k J H R o F S T v n xs b a m c news C (f a rfl) W M d p;refine⟨v',w',Q,h2,h3,h5,?_⟩;subst o;subst F;have O:n+m<=9223372036854775807:=by simp only[maxLen]at M;omega
  rcases b.2 with⟨rfl,rfl⟩|⟨g,B,cur,rfl,a0,y,a1,a2,U,x⟩
  ·by_cases Y:m=0
   ·rw[X.2 ⟨Z,Y⟩];intro g y;cases y
   have h:=run_append_nil (P:=P) w t ty e i z J H R a m c news C (f a Z) (by omega) (by omega) (by have hb:=d;simp only[MT]at hb;omega);rw[Q]at h;injection h with L N
   subst L N;intro g y;cases y;exact cH (heap_alloc_new w.drew _) (by simp only[MZ,NH,L8];exact⟨r,gO G _⟩)
  have I:=mR y (V g Z);by_cases l:n+m<=B
  ·have K:n*i.size+news.length<=cur.size:=by rw[C,U,<-M5];exact ML _ l
   have h:=run_append_room (P:=P) w t ty e i J H g n B cur y a m c news C (f a Z) W l K;rw[Q]at h;injection h with L N
   subst L N;intro g' q;cases q;exact cH (setRow_heap w g cur _ e _ y) (mn I r)
  have s:∀j u,xs[j]? =some u->w.cell? ((⟨g,0,none⟩:Addr).add j)=some u:=b.cells (g:=g) Z;have h:=run_append_grow (P:=P) w t ty e i z J H R ⟨g,0,none⟩ n B xs b.1 s a m c news C (f a Z) (by omega) (by omega) (growslice_fits (by omega) d);rw[Q]at h;injection h with L N
  subst L N;intro g' q;cases q;refine cH (heap_alloc_new w.drew _) ?_;simp only[MZ,NH,L8];exact⟨⟨by rw[<-x];exact lA I _,r⟩,gO G _⟩
theorem EK{P:Program}(w:World)(base:Nat)(t u ty e:TypeId)(i:TypeInfo)(G:P.underlying t=some (.slice e))(H:P.underlying u=some .string)(F:P.info? e=some i)(J:i.zero=some (.int .u8 0))(b:i.size=1)(o:i.bytes=1)
  (v:Value) (n:Nat) (xs:List Value) (d:w.ownsRow base e 1 v n xs) (s:ByteArray) (T:n+s.size<=140737488355328) (k:base<=w.heap.size) (O:∀g,v.ownBlock=some g->NoDigB w g):
  ∃v' w',(Builtin.append_ #[t,u] ty #[v,.string s]).run P w=.ok v' w'/\w'.ownsRow base e 1 v' (n+s.size) (xs++bE s.data.toList)/\w.grownBy w' v.ownBlock/\(v'.ownBlock=v.ownBlock\/v'.ownBlock=some w.heap.size)/\∀g,v'.ownBlock=some g->NoDigB w' g:=by
 have A:(Value.int .u8 0).cells.toList.all bQ=true:=rfl;have f:Lib.strCells s=bE s.data.toList:=by simp[Lib.strCells,bE]
 have h:(Lib.strCells s).all bQ=true:=Mh.2 fun x K=>by
  rw[f]at K;simp only[bE,NA]at K;obtain⟨c,_,rfl⟩:=K;rfl
 obtain⟨v',w',y,E,I,M⟩:=Lib.run_append_own_string (P:=P) w base t u ty e i G H F J b o v n xs d s (by simp only[maxLen];omega) (by omega) k;rcases d.2 with⟨rfl,rfl⟩|⟨g,z,cur,rfl,Q,r,R,S,L,q⟩
 ·by_cases N:s.size=0
  ·refine⟨v',w',y,by rw[<-f];exact E,I,?_,?_⟩
   ·rw[M.2 ⟨Z,N⟩];exact .inl Z
   rw[M.2 ⟨Z,N⟩];intro g r;cases r
  have a:=run_append_nil_string (P:=P) w t u ty e i (.int .u8 0) G H F J s (by omega) (by omega) (by rw[o];omega);refine⟨v',w',y,by rw[<-f];exact E,I,?_⟩;rw[y]at a;injection a with C D
  subst C D;refine⟨.inr Z,fun g r=>?_⟩;cases r;refine cH (heap_alloc_new w.drew _) ?_;simp only[MZ,NH,L8,OE];exact⟨by rw[f]at h;exact h,gO A _⟩
 have B:=mR r (O g Z);by_cases m:n+s.size<=z
 ·have a:=Lib.run_append_room_string (P:=P) w t u ty e i G H F b g n z cur r s m (by rw[L];omega);refine⟨v',w',y,by rw[<-f];exact E,I,?_⟩;rw[y]at a;injection a with C D
  subst C D;refine⟨.inl Z,fun g l=>?_⟩;cases l;exact cH (setRow_heap w _ cur _ e _ r) (mn B h)
 have p:∀j u,xs[j]? =some u->w.cell? ((⟨g,0,none⟩:Addr).add j)=some u:=World.ownsRow.cells d (g:=g) Z;have a:=Lib.run_append_grow_string (P:=P) w t u ty e i (.int .u8 0) G H F J ⟨g,0,none⟩ n z xs (by rw[b];exact d.1) p s (by omega) (by omega) (by rw[o];exact growslice_fits (by omega) (by omega));refine⟨v',w',y,by rw[<-f];exact E,I,?_⟩;rw[y]at a;injection a with C D
 subst C D;refine⟨.inr Z,fun g l=>?_⟩;cases l;refine cH (heap_alloc_new w.drew _) ?_;simp only[MZ,NH,L8];exact⟨⟨by rw[<-q];exact lA B _,h⟩,gO A _⟩
structure AppT (P:Program) (t e:TypeId) (sz by_:Nat):Prop where
 u:P.underlying t=some (.slice e)
 i:∃i z,P.info? e=some i/\i.zero=some z/\i.size=sz/\i.bytes=by_/\z.cells.size=sz/\z.cells.toList.all bQ=true
 pos:0<sz
def kM(P:Program)(t:TypeId):Option (TypeId×Nat×Nat):=
 match P.underlying t with
 |some (.slice e)=>(P.info? e).bind fun i=>i.zero.bind fun z=>if z.cells.size=i.size/\z.cells.toList.all bQ=true/\0<i.size then some (e,i.size,i.bytes)else none
 |_=>none
theorem oN{P:Program}{t e:TypeId}{sz a:Nat}(h:kM P t=some (e,sz,a)):AppT P t e sz a:=by
 unfold kM at h;split at h
 ·next e' hu=>
  simp only[Ow]at h;obtain⟨i,b,z,c,h⟩:=h;split at h
  ·next hc=>
   simp only[MK,Pm]at h;obtain⟨rfl,rfl,rfl⟩:=h;exact⟨hu,⟨i,z,b,c,Z,Z,hc.1,hc.2.1⟩,hc.2.2⟩
  cases h
 cases h
def AllC(p:Tree->Bool)(es:List Tree):Prop:=∀c∈flat es,p c=true
theorem AllC.all{p:Tree->Bool}{es:List Tree}(h:AllC p es):(flat es).all p=true:=Mh.2 h
theorem AllC.lit{p:Tree->Bool}{es:List Tree}(h:(flat es).all p=true):AllC p es:=Mh.1 h
theorem AllC.map{p:Tree->Bool}{α:Type}(f:α->Tree)(l:List α)(h:∀a,(f a).cells.all p=true):AllC p (l.map f):=fun c b=>by
 simp only[flat,List.mem_flatMap,NA]at b;obtain⟨_,⟨a,_,rfl⟩,b⟩:=b;exact Mh.1 (h a) c b
section
variable {w0:World} {G0:Bse} {S:St} {o:Oper}
theorem xv{a:Act}{w w':World}{bx:List Nat}{rv:List Value}{k:Nat}{v v':Value}{R R':Row}{xs:List Value}(F:Mem w0 G0 S.bs S.rs bx rv w)(d:a.tmps.size=S.n)(q:a.defers=[])(x:∀i,FT (en w G0 bx rv S.rs) [a.tmps.getD i undef] [S.get i])(C:dM S.n o.dst=true)
  (m:rv[k]? =some v) (y:S.rs[k]? =some (some R)) (r:w.grownBy w' v.ownBlock) (t:v'.ownBlock=v.ownBlock\/v'.ownBlock=some w.heap.size) (B:w'.ownsRow 0 R'.e R'.sz v' R'.es.length xs) (D:PT w' (GG G0 bx (rv.set k v') (S.rs.set k (some R'))) xs (flat R'.es)) (H:Sized R'.sz R'.es/\(R'.tt=true->nR v')) (p:∀g,v'.ownBlock=some g->NoDigB w' g):
  Sim w0 G0 ({S.kill k with rs:=S.rs.set k (some R')}.put o.dst (.own k)) (a.put o.dst v') w':=by
 have b:∀g,v'.ownBlock=some g->v.ownBlock=some g\/w.heap.size<=g:=fun g f=>by
  rcases t with h|h
  ·exact .inl (h▸f)
  rw[h]at f;injection f with f;exact .inr (by omega)
 have s:=(L6.1 m).1;have l:=(L6.1 y).1;refine⟨bx,rv.set k v',?_,by rw[dY,fd];exact d,by rw[dg,q],?_⟩
 ·rw[eB,c6];exact F.setRowV m y r b B D H p
 rw[c6];intro i;rw[gD a o.dst _ S.n d C,dV];split
 ·obtain⟨A,c,rfl⟩:=cF B;refine .own k _ c A ?_ .nil;show fl (rv.set k _) (S.rs.set k (some R')) k=_
  unfold fl;rw[Nw l,Nw s];rfl
 have z:=(x i).kill (E':=en w' G0 bx (rv.set k v') (S.rs.set k (some R'))) (k:=k) r.size (oM m y r b) (fun _ _ h=>h) (fun j u E G=>EJ j u E G);rw[<-qF]at z;exact z
theorem un{x y:Operand}{t:TypeId}{k m:Nat}{R:Row}{d:List Tree}(K:o.op=.call {callee:=.builtin .append,args:=#[x,y],argTypes:=#[t,t]})(hd:dM S.n o.dst=true)(ht:kM Tryz.prog t=some (R.e,R.sz,m))(H:S.ev x=.own k)(W:S.rs[k]? =some (some R))(hy:S.ev y=.sl d)(hs:Sized R.sz d)(h1:AllC Tree.one d)(h2:AllC Tree.noDig d)(h3:R.es.length+d.length<=1073741824)(h4:m<=100000):
  rk w0 G0 o S ({S.kill k with rs:=S.rs.set k (some ⟨R.e,R.sz,R.es++d,false⟩)}.put o.dst (.own k)):=by
 rintro a w ⟨bx,rv,hm,Z,M,p⟩;have hp:=bL (op:=o.op) (T:=fun s=>a.tmps.getD s undef) (S:=S) (fun s _=>p s) H (by rw[K];simp[Op.operands,Call.operands]);have hq:=(bL (op:=o.op) (T:=fun s=>a.tmps.getD s undef) (S:=S) (fun s _=>p s) hy (by rw[K];simp[Op.operands,Call.operands])).isSl;generalize (fun s=>a.tmps.getD s undef)=T at hp hq⊢;obtain⟨hv,xs,r,V,a0,J⟩:=lx hm W hp;obtain⟨A,c,e1,a2,_,hA,C⟩:=hq.slice;obtain⟨G,⟨i,z,hi,hz,X,L,N,O⟩,D⟩:=oN ht;obtain⟨news,Y,E,a1⟩:∃news,news.length=d.length*R.sz/\PT w (GG G0 bx rv S.rs) news (flat d)/\∀a,A=some a->∀j u,news[j]? =some u->w.cell? (a.add j)=some u:=by
  rcases M1 d.length with Q|Q
  ·obtain rfl:d=[]:=Mr Q;exact⟨[],by simp,.nil,fun a _ j u G=>by simp at G⟩
  obtain⟨b,off,news,rfl,_,_,hc,H⟩:=C Q;refine⟨news,by rw[H.length,hs.flat],H,fun ad ha j u G=>?_⟩;rw[<-MW ha,Addr.add_mid];exact hc j u G
 have q:FT (en w G0 bx rv S.rs) news (flat d):=.of E;obtain⟨v',w',hr,U,l,B,F⟩:=mS (P:=Tryz.prog) w 0 t o.type R.e i z R.sz m G hi hz X L N D (dU T x) R.es.length xs r A d.length c news Y (fun e=>⟨by have:=hA e;omega,hA e⟩) a1 (q.ones h1.all) (by simp only[maxLen];omega) (Ma (NY h3 h4) (by decide)) (Mp _) O (q.noDigs h2.all) J;refine aC (v:=v') (W':=w') ?_ (xv (R':=⟨R.e,R.sz,R.es++d,false⟩) (xs:=xs++news) hm Z M p hd hv W l B (by simpa using U) ?_ ⟨a0.1.append hs,fun h=>by cases h⟩ F)
 ·simp only[execOp,K,resolve,invoke,builtin,Sem.run_bind,Sem.run_pure,Result.andThen_ok,NP,M3,NV,e1,hr]
 have f:=oM (G0:=G0) (bx:=bx) (w:=w) (w':=w') (v':=v') (R':=⟨R.e,R.sz,R.es++d,false⟩) hv W l (fun g I=>by
  rcases B with h|h
  ·exact .inl (h▸I)
  rw[h]at I;injection I with I;exact .inr (by omega))
 rw[iY];exact(V.mono l.size f).append (E.mono l.size f)
end
def xw(K:St->Prop)(Q:Exit->St->Prop):Exit->St->Prop
 | .normal,S=>K S
 |e,S=>Q e S
def xx(id:Nat)(Q:Exit->St->Prop):Exit->St->Prop
 | .exit id',S=>if id'=id then Q .normal S else Q (.exit id') S
 |e,S=>Q e S
section
variable {w0:World} {G0:Bse} {Q:Exit->St->Prop} {S:St}
theorem AWP.mono{c:Code}{b:Exit->St->Prop}(h:AWP w0 G0 c Q S)(d:∀e S,Q e S->b e S):AWP w0 G0 c b S:=fun a w g=>wp_mono (h a w g) fun e _ _ ⟨S',i,f⟩=>⟨S',d e S' i,f⟩
theorem am(h:Q .normal S):AWP w0 G0 .skip Q S:=fun _ _ a=>wp_skip ⟨S,h,a⟩
theorem aT{id:Nat}(h:Q (.exit id) S):AWP w0 G0 (.exit id) Q S:=fun _ _ a=>wp_exit ⟨S,h,a⟩
theorem aw(h:Q .ret S):AWP w0 G0 .ret Q S:=fun _ _ a=>wp_ret ⟨S,h,a⟩
theorem ab{x y:Code}(h:AWP w0 G0 x (xw (AWP w0 G0 y Q) Q) S):AWP w0 G0 (.seq x y) Q S:=fun a w d=>wp_seq (wp_mono (h a w d) fun e f w' ⟨S',c,b⟩=>by
 cases e with
 |normal=>exact c f w' b
 |_=>exact⟨S',c,b⟩)
theorem aF{c:Operand}{x y:Code}{b:Bool}(l:S.ev c=.sc (.bool b))(m:b=true->AWP w0 G0 x Q S)(i:b=false->AWP w0 G0 y Q S):AWP w0 G0 (.cond c x y) Q S:=fun a w d=>by
 have k:a.eval c=.bool b:=by
  obtain⟨bx,rv,n,o,j,e⟩:=d;rw[vM];have:FT (en w G0 bx rv S.rs) [dU (fun s=>a.tmps.getD s undef) c] [S.ev c]:=by
   cases c with
   |tmp s=>exact e s
   |const v=>exact .pure (.sc v .nil) .nil
   |global g=>exact .pure (.sc _ .nil) .nil
   |func f=>exact .pure (.sc _ .nil) .nil
  rw[l]at this;exact this.isSc
 exact wp_cond_split k (fun h=>m h a w d) (fun h=>i h a w d)
theorem aB{id:Nat}{c:Code}(h:AWP w0 G0 c (xx id Q) S):AWP w0 G0 (.block id c) Q S:=fun a w f=>wp_block (wp_mono (h a w f) fun e g w' ⟨S',b,d⟩=>by
 cases e with
 |exit id'=>
  simp only[xx]at b;simp only[Exit.inBlock];split at b
  ·rw[if_pos (by assumption)];exact⟨S',b,d⟩
  rw[if_neg (by assumption)];exact⟨S',b,d⟩
 |_=>exact⟨S',b,d⟩)
theorem fR(p:Nat->Prop):∀n,p n->∃m,p m/\∀k,k<m->¬p k:=fun n=>by
 induction n using Nat.strongRecOn with
 |ind n ih=>
  intro c;by_cases h:∃k,k<n/\p k
  ·obtain⟨k,b,a⟩:=h;exact ih k b a
  exact⟨n,c,fun k b a=>h ⟨k,b,a⟩⟩
open Classical in
theorem EL{c:Code}(I:Nat->St->Prop)(n0:Nat)(h0:I n0 S)(round:∀n S,I n S->AWP w0 G0 c (xw (fun S'=>∃m,m<n/\I m S') Q) S):AWP w0 G0 (.loop c) Q S:=fun a w hs=>by
 let p:Act->World->Nat->Prop:=fun a w n=>∃S,I n S/\Sim w0 G0 S a w
 let μ:Act->World->Nat:=fun a w=>if h:∃n,p a w n then Classical.choose (fR (p a w) _ (Classical.choose_spec h))else 0
 have hμ:∀a w n,p a w n->p a w (μ a w)/\μ a w<=n:=fun a w n hn=>by
  have hex:∃n,p a w n:=⟨n,hn⟩
  have hsp:=Classical.choose_spec (fR (p a w) _ (Classical.choose_spec hex))
  have e:μ a w=Classical.choose (fR (p a w) _ (Classical.choose_spec hex)):=by simp only[μ];rw[dif_pos hex]
  rw[e]
  refine⟨hsp.1,?_⟩
  rcases MA n (Classical.choose (fR (p a w) _ (Classical.choose_spec hex)))with hlt|hge
  ·exact absurd hn (hsp.2 n hlt)
  ·exact hge
 refine wp_loop (fun a w=>∃n,p a w n) μ ⟨n0,S,h0,hs⟩ ?_
 rintro a w ⟨n,hn⟩
 obtain⟨⟨S',hI,hS⟩,_⟩:=hμ a w n hn
 refine wp_mono (round _ S' hI a w hS) ?_
 rintro e a' w' ⟨S'',h1,h2⟩
 cases e with
 |normal=>
  obtain⟨m,hm,hI'⟩:=h1
  have hp:p a' w' m:=⟨S'',hI',h2⟩
  exact⟨⟨m,hp⟩,NC (hμ a' w' m hp).2 hm⟩
 |_=>exact⟨S'',h1,h2⟩
def within0(m k:Nat):Tree->Bool
 | .box b _=>decide (b<m)
 | .own j| .elp j _=>decide (j<k)
 | .agg _| .tup _=>false
 |_=>true
def within(m k:Nat):Tree->Bool
 | .agg cs| .tup cs=>cs.all (within0 m k)
 |t=>within0 m k t
theorem FT.within0{E E':En}{m k:Nat}(f:E.W.heap.size<=E'.W.heap.size)(e:∀b,b<E.W.heap.size->¬E.G b->E'.W.heap[b]? =E.W.heap[b]? /\¬E'.G b)(i:∀b g,b<m->E.bx b=some g->E'.bx b=some g)(d:∀j v,j<k->E.rv j=some v->E'.rv j=some v){v:Value}{t:Tree}(h:FT E [v] [t])(a:Go.Proofs.YtfoejfohbkmmeaaGreatDoor.within0 m k t=true):FT E' [v] [t]:=by
 cases h with
 |pure h _=>exact .pure (h.mono f e) .nil
 |any=>exact .any _ .nil
 |box b off g h _=>exact .box b off g (i b g (by simpa[Go.Proofs.YtfoejfohbkmmeaaGreatDoor.within0]using a) h) .nil
 |own j n c A h _=>exact .own j n c A (d j _ (by simpa[Go.Proofs.YtfoejfohbkmmeaaGreatDoor.within0]using a) h) .nil
 |elp j off g n c h _=>exact .elp j off g n c (d j _ (by simpa[Go.Proofs.YtfoejfohbkmmeaaGreatDoor.within0]using a) h) .nil
 |agg=>simp[Go.Proofs.YtfoejfohbkmmeaaGreatDoor.within0]at a
 |tup=>simp[Go.Proofs.YtfoejfohbkmmeaaGreatDoor.within0]at a
theorem ka{E E':En}{m k:Nat}(e:E.W.heap.size<=E'.W.heap.size)(a:∀b,b<E.W.heap.size->¬E.G b->E'.W.heap[b]? =E.W.heap[b]? /\¬E'.G b)(c:∀b g,b<m->E.bx b=some g->E'.bx b=some g)(d:∀j v,j<k->E.rv j=some v->E'.rv j=some v):∀{us:List Value} {ts:List Tree},FT E us ts->ts.all (Go.Proofs.YtfoejfohbkmmeaaGreatDoor.within0 m k)=true->FT E' us ts
 |[],[],_,_=>.nil
 |[],_::_,h,_=>by cases h
 |_::_,[],h,_=>by cases h
 |u::us,t::ts,h,hp=>by
  simp only[Ny,L8]at hp;exact FT.cons (FT.within0 e a c d h.head hp.1) (ka e a c d h.tail hp.2)
theorem FT.within{E E':En}{m k:Nat}(d:E.W.heap.size<=E'.W.heap.size)(c:∀b,b<E.W.heap.size->¬E.G b->E'.W.heap[b]? =E.W.heap[b]? /\¬E'.G b)(f:∀b g,b<m->E.bx b=some g->E'.bx b=some g)(i:∀j v,j<k->E.rv j=some v->E'.rv j=some v){v:Value}{t:Tree}(h:FT E [v] [t])(a:Go.Proofs.YtfoejfohbkmmeaaGreatDoor.within m k t=true):FT E' [v] [t]:=by
 cases t with
 |agg cs=>
  obtain⟨xs,rfl,e⟩:=h.isAgg;exact .agg xs _ (ka d c f i e a) .nil
 |tup cs=>
  obtain⟨xs,rfl,e⟩:=h.isTup;exact .tup xs _ (ka d c f i e a) .nil
 |_=>exact FT.within0 d c f i h a
inductive Keeps (S:St) (m k:Nat):List (Nat×Tree)->Prop
 |nil:Keeps S m k []
 |cons {i:Nat} {t:Tree} {l:List (Nat×Tree)} (h:S.get i=t) (hw:within m k t=true) (hs:Keeps S m k l):Keeps S m k ((i,t)::l)
theorem Keeps.get{m k:Nat}{l:List (Nat×Tree)}(h:Keeps S m k l)(i:Nat):look l i=.any\/(look l i=S.get i/\within m k (S.get i)=true):=by
 induction h with
 |nil=>exact .inl Z
 |cons h hw _ ih=>
  rw[cZ];split
  ·next e=>subst e;exact .inr ⟨h.symm,by rw[h];exact hw⟩
  exact ih
theorem fe{α:Type}{l:List α}{m i:Nat}{x:α}(h:(l.take m)[i]? =some x):i<m/\l[i]? =some x:=by
 rw[MU]at h;split at h
 ·exact⟨by assumption,h⟩
 cases h
theorem iZ{α:Type}{l:List α}{m i:Nat}{x:α}(h:l[i]? =some x)(a:i<m):(l.take m)[i]? =some x:=by rw[MU,if_pos a];exact h
theorem Sim.less{a:Act}{w:World}(h:Sim w0 G0 S a w)(m k:Nat)(l:List (Nat×Tree))(K:Keeps S m k l)(t:((S.bs.take m).all fun p=>p.2.all (within0 m k))=true)(D:G0.pn<=m:=by first|exact Mp _|exact Nat.le_of_ble_eq_true Z):Sim w0 G0 ⟨S.n,l,S.bs.take m,S.rs.take k⟩ a w:=by
 obtain⟨bx,rv,d,M,z,G⟩:=h;have r:∀b,b∈cR (bx.take m) (rv.take k) (S.rs.take k)->b∈cR bx rv S.rs:=fun b t=>by
  rcases aY.1 t with c|⟨j,u,X,c,e,f⟩
  ·exact aY.2 (.inl (ME c))
  exact aY.2 (.inr ⟨j,u,X,(fe c).2,(fe e).2,f⟩)
 have B:∀b,b<w.heap.size->¬GG G0 bx rv S.rs b->w.heap[b]? =w.heap[b]? /\¬GG G0 (bx.take m) (rv.take k) (S.rs.take k) b:=fun b _ L=>⟨Z,fun h=>L (h.imp id (r b))⟩
 have q:∀b g,b<m->(en w G0 bx rv S.rs).bx b=some g->(en w G0 (bx.take m) (rv.take k) (S.rs.take k)).bx b=some g:=fun b g C h=>iZ (l:=bx) h C
 have s:∀j v,j<k->(en w G0 bx rv S.rs).rv j=some v->(en w G0 (bx.take m) (rv.take k) (S.rs.take k)).rv j=some v:=fun j v J h=>by
  show fl (rv.take k) (S.rs.take k) j=some v
  have h:fl rv S.rs j=some v:=h;unfold fl at h⊢;rw[MU,if_pos J,MU,if_pos J];exact h
 refine⟨bx.take m,rv.take k,⟨d.below,d.env0,d.g0,by simp[d.nb],by simp[d.nr],fun i g x=>?_,fun j u X c e=>?_,⟨d.nodup.bb.sublist (List.take_sublist _ _),fun j u X b c e f y=>d.nodup.br j u X b (fe c).2 (fe e).2 f (ME y),fun i j u v X Y b H c e f o=>d.nodup.rr i j u v X Y b H (fe c).2 (fe e).2 (fe f).2 (fe o).2⟩,fun b t=>d.ge b (r b t),fun i x=>iZ (d.pin i x) (Mj x D)⟩,M,z,fun i=>?_⟩
 ·obtain⟨c,e⟩:=fe x;obtain⟨ty,cs,us,f,o,A,F⟩:=d.box i g e;have I:=iZ f c;exact⟨ty,cs,us,I,o,ka (E:=en w G0 bx rv S.rs) (E':=en w G0 (bx.take m) (rv.take k) (S.rs.take k)) (m:=m) (k:=k) (L4 _) B q s A (Mh.1 t _ (L7 I)),F⟩
 ·obtain⟨xs,f,o,A,F⟩:=d.row j u X (fe c).2 (fe e).2;exact⟨xs,f,o.mono (L4 _) B,A,F⟩
 show FT _ _ [look l i]
 rcases K.get i with c|⟨c,e⟩
 ·rw[c];exact .any _ .nil
 rw[c];exact FT.within (E:=en w G0 bx rv S.rs) (E':=en w G0 (bx.take m) (rv.take k) (S.rs.take k)) (m:=m) (k:=k) (L4 _) B q s (G i) e
def KC(S:St):ResultVar->Tree->Prop
 | .tmp t,x=>S.get t=x
 | .cell a ty,x=>∃b off bt cs,S.get a=.box b off/\S.bs[b]? =some (bt,cs)/\((∃n,rj Tryz.prog ty=some n/\Nat.ble (off+n) cs.length=true/\x=.agg ((cs.drop off).take n))\/(jo Tryz.prog ty=true/\cs[off]? =some x))
inductive ResL (S:St):List ResultVar->List Tree->Prop
 |nil:ResL S [] []
 |cons {x:ResultVar} {t:Tree} {xs:List ResultVar} {ts:List Tree} (h:KC S x t) (hs:ResL S xs ts):ResL S (x::xs) (t::ts)
def mT:List Tree->Tree
 |[t]=>t
 |ts=>.tup ts
def KD(rvs:List ResultVar)(r:Tree)(e:Exit)(S:St):Prop:=(e=.normal\/e=.ret)/\∃ts,ResL S rvs ts/\mT ts=r/\r.plain=true
theorem zN{a:Act}{w:World}{bx:List Nat}{rv:List Value}(F:Mem w0 G0 S.bs S.rs bx rv w)(f:∀i,FT (en w G0 bx rv S.rs) [a.tmps.getD i undef] [S.get i]){x:ResultVar}{t:Tree}(h:KC S x t):
  ∃v,((match x with| .tmp t=>pure (a.tmps.getD t undef)| .cell b t=>do loadVar t (<-asAddr (a.tmps.getD b undef)):Sem Value)).run Tryz.prog w=.ok v w/\FT (en w G0 bx rv S.rs) [v] [t]:=by
 cases x with
 |tmp s=>
  have h:S.get s=t:=h;exact⟨_,Z,h▸f s⟩
 |cell s ty=>
  obtain⟨b,off,L,cs,E,G,K⟩:=h;have B:=f s;rw[E]at B;obtain⟨g,us,_,C,e,p,_⟩:=pV F G B;rcases K with⟨n,r,l,rfl⟩|⟨m,J⟩
  ·obtain⟨d,z,A,H⟩:=vQ r;have l:off+n<=cs.length:=by simpa using l
   have D:((us.drop off).take n).length=n:=by have:=p.length;rw[Mf,MQ];omega
   have I:=run_loadVar_mid (P:=Tryz.prog) w g off ty ((us.drop off).take n) d (fun j v c=>by
    rw[e.cell,NS];rw[MU]at c;split at c
    ·rw[Nh]at c;exact c
    cases c) z A (by rw[D];exact H)
   refine⟨.agg ((us.drop off).take n).toArray,?_,.agg _ _ ((p.drop off).take n) .nil⟩;simp only[C,asAddr,Sem.run_bind,Sem.run_pure,Result.andThen_ok,I]
  obtain⟨u,z,o⟩:=p.get off t J;obtain⟨d,y,A⟩:=vR m;have k:(isAgg ty).run Tryz.prog w=.ok false w:=by
   unfold isAgg;rw[Sem.run_bind,run_underlying y w];cases d<;>simp_all
  have q:w.cell? ⟨g,off,none⟩=some u:=by rw[e.cell,NS];exact z
  refine⟨u,?_,o⟩;simp only[C,asAddr,Sem.run_bind,Sem.run_pure,Result.andThen_ok];simp[loadVar,k,q]
theorem kb{a:Act}{w:World}{bx:List Nat}{rv:List Value}(d:Mem w0 G0 S.bs S.rs bx rv w)(c:∀i,FT (en w G0 bx rv S.rs) [a.tmps.getD i undef] [S.get i]):∀{xs:List ResultVar} {ts:List Tree},ResL S xs ts->
  ∃vs,(xs.mapM (m:=Sem) fun| .tmp t=>pure (a.tmps.getD t undef)| .cell b t=>do loadVar t (<-asAddr (a.tmps.getD b undef))).run Tryz.prog w=.ok vs w/\FT (en w G0 bx rv S.rs) vs ts
 |[],[],_=>⟨[],Z,.nil⟩
 |x::xs,t::ts,.cons h hs=>by
  obtain⟨v,j,f⟩:=zN d c h;obtain⟨vs,g,e⟩:=kb d c hs;refine⟨v::vs,?_,FT.cons f e⟩;rw[P8,Sem.run_bind,j,Result.andThen_ok,Sem.run_bind,g,Result.andThen_ok];rfl
def kw:Nat->List Tree->List (Nat×Tree)
 |_,[]=>[]
 |k,t::ts=>(k,t)::kw (k+1) ts
theorem mU:∀(ts:List Tree) (k i:Nat),look (kw k ts) i=if k<=i then(ts[i-k]?).getD .any else .any
 |[],k,i=>by simp[kw,look]
 |t::ts,k,i=>by
  simp only[kw,cZ,mU ts (k+1) i];by_cases h:k=i
  ·subst h;simp
  rw[if_neg h];by_cases a:k<=i
  ·rw[if_pos (by omega),if_pos a,show i-k=(i-(k+1))+1 by omega,OH]
  rw[if_neg (by omega),if_neg a]
theorem rx{w:World}{G:Nat->Prop}(e:Env w)(d:∀g,G g->g<w.heap.size/\NoDigB w g):Mem w (pln G) [] [] [] [] w:=
 ⟨Kept.refl _ _,.pln e,fun g h=>⟨(d g h).1,(d g h).2,id⟩,Z,Z,fun i g c=>by simp at c,fun k v R a=>by simp at a,⟨List.nodup_nil,fun k v R b a=>by simp at a,fun j k u v X R b _ a=>by simp at a⟩,fun b f=>by simp[cR]at f,fun i c=>absurd c (Oo i)⟩
theorem Ct.of{f:FuncId}{d:Func}{c:Code}{args:List Tree}{r:Tree}{n:Nat}{j:List ResultVar}(A:Tryz.prog.funcs[f]? =some d)(F:d.body=some c)(y:(d.name== "runtime.NumGoroutine")=false)(P:d.ntmps=n)(C:Nat.ble args.length n=true)(L:d.results.toList=j)
  (h:∀w0 G0,AWP w0 (pln G0) c (KD j r) ⟨n,kw 0 args,[],[]⟩):Ct f args r:=by
 refine⟨⟨d,A,y,by rw[F];rfl⟩,fun G w vs K N z=>?_⟩;have B:=z.length;have C:args.length<=n:=by simpa using C
 refine calls_of_wp A F (wp_mono (h w G _ w ⟨[],[],rx K N,?_,Z,fun i=>?_⟩) ?_)
 ·simp;omega
 ·show FT _ _ [look (kw 0 args) i]
  rw[mU,if_pos (Mp _),O7];cases M:args[i]? with
  |none=>exact .any _ .nil
  |some t=>
   obtain⟨u,E,p⟩:=z.get i t M;have J:=(L6.1 E).1;have O:(vs.toArray++Array.replicate (d.ntmps-vs.toArray.size) undef).getD i undef=u:=by
    rw[MO,Od (by simpa using J),NS,E];rfl
   rw[O];refine .pure (p.mono (L4 _) fun b _ g=>⟨Z,fun h=>?_⟩) .nil;rcases h with h|h
   ·exact g h
   simp[cR]at h
 rintro e a w' ⟨S',⟨I,ts,o,rfl,q⟩,bx,rv,D,_,m,s⟩;obtain⟨us,k,l⟩:=kb D s (L▸o);have key:a.defers=[]/\∃v,(results d a.tmps).run Tryz.prog w'=.ok v w'/\(fun e w'=>∃v,e=Ending.returned v/\PT w' G [v] [mT ts]/\Below w.heap.size w w') (.returned v) w':=by
  refine⟨m,if h:us.toArray.size=1 then us.toArray[0]else .tuple us.toArray,?_,_,Z,?_,D.below.below⟩
  ·unfold results;rw[Sem.run_bind,Oj,Sem.run_map];exact congrArg (fun x:Result (List Value)=>(x.andThen fun a w'=>Result.ok a.toArray w').andThen fun a w'=>Sem.run Tryz.prog (pure (if h:a.size=1 then a[0]else Value.tuple a)) w') k
  have H:FT (en w' (pln G) bx rv S'.rs) [if h:us.toArray.size=1 then us.toArray[0]else .tuple us.toArray] [mT ts]:=by
   match us,ts,l with
   |[],[],_=>exact .tup [] [] .nil .nil
   |[u],[t],h=>exact h
   |u::u'::us,t::t'::ts,h=>
    rw[dif_neg (by simp)];exact .tup _ _ h .nil
  exact(H.plain q).mono (L4 _) fun b _ g=>⟨Z,fun h=>g (.inl h)⟩
 rcases I with rfl|rfl
 ·exact key
 exact key
end
end Go.Proofs.YtfoejfohbkmmeaaGreatDoor
