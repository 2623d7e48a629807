import Derived.Test.YtfoejfohbkmmeaaGreatDoorK03
set_option linter.defProp false
open Go.Proofs.Tryz
namespace Go.Proofs.YtfoejfohbkmmeaaGreatDoor
open Go.RowKit
open Lib renaming hid→J
def Tree.noDig:Tree->Bool
 | .sc v=>bR v
 | .sl _| .tl _| .ref _| .box _ _| .own _| .elp _ _=>true
 |_=>false
def FT.noDig{E:En}{v:Value}{t:Tree}(h:FT E [v] [t])(a:t.noDig=true):bR v=true:=by
 cases h with
 |pure h _=>
  cases h with
  |sc=>exact a
  |sl0=>rfl
  |sl=>rfl
  |tl=>rfl
  |agg=>simp[Tree.noDig]at a
  |tup=>simp[Tree.noDig]at a
  |ref=>rfl
 |any=>simp[Tree.noDig]at a
 |box=>rfl
 |own=>rfl
 |elp=>rfl
 |agg=>simp[Tree.noDig]at a
 |tup=>simp[Tree.noDig]at a
def FT.noDigs{E:En}:∀{us:List Value} {ts:List Tree},FT E us ts->ts.all Tree.noDig=true->us.all bR=true
 |[],[],_,_=>rfl
 |[],_::_,h,_=>by cases h
 |_::_,[],h,_=>by cases h
 |x::us,t::ts,h,hp=>by
  simp only[SJ,Q9]at hp⊢;exact⟨h.head.noDig hp.1,FT.noDigs h.tail hp.2⟩
section
variable {w0 w w':World} {G0:Bse} {bs:List (TypeId×List Tree)} {rs:List (Option Row)} {bx:List Nat} {rv:List Value}
def iR(g:Nat):∀b,b∈cJ (bx++[g]) rv rs↔b∈cJ bx rv rs\/b=g:=λb=>by
 simp only[cJ,RI,Rs];constructor
 ·rintro((h|h)|h)
  ·exact .inl (.inl h)
  ·exact .inr h
  exact .inl (.inr h)
 rintro((h|h)|h)
 ·exact .inl (.inl h)
 ·exact .inr h
 exact .inl (.inr h)
def Apart.addBox(g:Nat)(h:Apart bx rv rs)(l:g∉cJ bx rv rs):Apart (bx++[g]) rv rs:=by
 refine⟨?_,λk v R b d f i n=>?_,h.rr⟩
 ·rw[List.nodup_append];exact⟨h.bb,F,λa m b j e=>by
   rw[Rs]at j;subst j e;exact l (be.2 (.inl m))⟩
 rcases RI.1 n with c|c
 ·exact h.br k v R b d f i c
 rw[Rs]at c;subst c;exact l (be.2 (.inr ⟨k,v,R,d,f,i⟩))
def mb(j:Obj){us:List Value}{ts:List Tree}(k:FT (en w G0 bx rv rs) us ts):FT (en (w.alloc j) G0 (bx++[w.heap.size]) rv rs) us ts:=by
 refine k.mono (by simp[en]) (λb f e=>⟨Below.heap_alloc w j b f,?_⟩) (λi g a=>?_) (λ_ _ h=>h)
 ·rintro(c|c)
  ·exact e (.inl c)
  rcases(iR (rv:=rv) (rs:=rs) _ b).1 c with d|d
  ·exact e (.inr d)
  simp only[en]at f;omega
 show(bx++[w.heap.size])[i]? =some g
 have a:bx[i]? =some g:=a;rw[Rv (Q6.1 a).1];exact a
def Gz(e:Obj){us:List Value}{ts:List Tree}(g:PT w (GG G0 bx rv rs) us ts):PT (w.alloc e) (GG G0 (bx++[w.heap.size]) rv rs) us ts:=by
 refine g.mono F (λb f d=>⟨Below.heap_alloc w e b f,?_⟩);rintro(a|a)
 ·exact d (.inl a)
 rcases(iR (rv:=rv) (rs:=rs) _ b).1 a with c|c
 ·exact d (.inr c)
 omega
def Mem.addBox(h:Mem w0 G0 bs rs bx rv w){us:List Value}{cs:List Tree}{ty:TypeId}(u:FT (en w G0 bx rv rs) us cs)(t:us.all bR=true):
  Mem w0 G0 (bs++[(ty,cs)]) rs (bx++[w.heap.size]) rv (w.alloc (.cells us.toArray ty)):=by
 have a:Below w.heap.size w (w.alloc (.cells us.toArray ty)):=(Below.refl _ _).alloc (Q3 _) _;refine⟨h.below.then a,h.env0,h.g0,by simp[h.nb],h.nr,λi g c=>?_,λk v R y r=>?_,h.nodup.addBox _ λx=>?_,λb s=>?_,λi c=>by have:=h.pin i c;rw[Rv (Q6.1 this).1];exact this⟩
 ·by_cases f:i<bx.length
  ·rw[Rv f]at c;obtain⟨o,l,p,d,j,m,n⟩:=h.box i g c;exact⟨o,l,p,by rw[Rv (by rw[<-h.nb];exact f)];exact d,j.below a j.lt,mb _ m,n⟩
  have e:=(Q6.1 c).1;simp only[Q4,Ss]at e;obtain rfl:i=bx.length:=O
  rw[Ru (Q3 _),RW]at c;simp only[RY,Ro]at c;subst c;exact⟨ty,cs,us,by rw[h.nb,Ru (Q3 _),RW];rfl,iF _ _ _,mb _ u,t⟩
 ·obtain⟨xs,d,j,m,n⟩:=h.row k v R y r;exact⟨xs,eF d a,Gz _ j,m,λg q=>(n g q).of (a.block g (d.lt g q).2)⟩
 ·have:=(h.ok _ (.inr x)).1;omega
 rcases(iR (rv:=rv) (rs:=rs) _ b).1 s with d|d
 ·exact h.ge b d
 have:=h.below.size;exact .inl O
def qr{g:Nat}(i:g∈cJ bx rv rs)(c:w.grownBy w' (some g)){us:List Value}{ts:List Tree}(f:FT (en w G0 bx rv rs) us ts):FT (en w' G0 bx rv rs) us ts:=
 f.mono c.size (λb d a=>⟨c.block b d λe=>a (by injection e with e;subst e;exact .inr i),a⟩) (λ_ _ h=>h) (λ_ _ h=>h)
def qt{g:Nat}(h:g∈cJ bx rv rs)(c:w.grownBy w' (some g)){us:List Value}{ts:List Tree}(f:PT w (GG G0 bx rv rs) us ts):PT w' (GG G0 bx rv rs) us ts:=
 f.mono c.size (λb d a=>⟨c.block b d λe=>a (by injection e with e;subst e;exact .inr h),a⟩)
def Mem.setBox(h:Mem w0 G0 bs rs bx rv w){b g:Nat}{ty:TypeId}{us:List Value}{cs:List Tree}(m:bx[b]? =some g)(l:w.grownBy w' (some g))(x:IsBlk w' g ty us.toArray)(J:FT (en w' G0 bx rv rs) us cs)(I:us.all bR=true):Mem w0 G0 (bs.set b (ty,cs)) rs bx rv w':=by
 have f:g∈cJ bx rv rs:=be.2 (.inl (Q8 m));have y:=(Q6.1 m).1;refine⟨h.below.grown l (λk e=>by injection e with e;subst e;exact h.ge _ f),h.env0,h.g0,by simp[h.nb],h.nr,λi c r=>?_,λk v R F E=>?_,h.nodup,h.ge,h.pin⟩
 ·by_cases j:i=b
  ·subst j;rw[m]at r;cases r;exact⟨ty,cs,us,by rw[So (by rw[<-h.nb];exact y)],x,J,I⟩
  obtain⟨A,s,B,p,q,t,u⟩:=h.box i c r;have a:c≠g:=λe=>by
   subst e;have z:=h.nodup.bb;obtain⟨G,C⟩:=Q6.1 r;obtain⟨H,D⟩:=Q6.1 m;have o:=UW.1 z;rcases Ub i b with n|n|n
   ·exact o i b G H n (C.trans D.symm)
   ·exact j n
   exact o b i H G n (D.trans C.symm)
  exact⟨A,s,B,by rw[Se (λe=>j e.symm)];exact p,(l.block c q.lt λe=>a (by injection e)).trans q,qr f l t,u⟩
 obtain⟨xs,p,q,t,u⟩:=h.row k v R F E;have a:v.ownBlock≠some g:=λe=>h.nodup.br k v R g F E e (Q8 m)
 refine⟨xs,p.kept l (.inr a),qt f l q,t,λc d=>(u c d).of (l.block c (p.lt c d).2 λe=>a (by rw[d];injection e with e;rw[e]))⟩
end
def lM(w0:World)(G0:Bse)(o:Oper)(S S':St):Prop:=∀a w,Sim w0 G0 S a w->OpRuns prog o (λs=>a.tmps.getD s undef) w λv w'=>Sim w0 G0 S' (a.put o.dst v) w'
section
variable {w0:World} {G0:Bse} {ops:Array Oper} {rest:List Oper} {Q:Exit->St->Prop} {S S':St} {o:Oper}
def dA(c:o.guard=none)(h:lM w0 G0 o S S')(k:AOps w0 G0 ops rest Q S'):AOps w0 G0 ops (o::rest) Q S:=by
 intro a w d;refine fj (by simp[Region.wanted,c]) λK b=>?_
 refine Oper.wp_mono ?_ ((h a w d).wp (Q:=Dx w0 G0 Q));rintro f w' ⟨v,rfl,e⟩;exact b _ _ (k _ _ e)
def Ob{ty:TypeId}{x:Operand}{t:Tree}(j:o.op=.box ty x)(l:cF S.n o.dst=true)(p:S.ev x=t)(k:t.oneA=true)(m:t.cells.all Tree.noDig=true):lM w0 G0 o S ({S with bs:=S.bs++[(ty,t.cells)]}.put o.dst (.box S.bs.length 0)):=by
 rintro a w ⟨bx,rv,h,d,e,c⟩;have q:=bP (op:=o.op) (T:=λs=>a.tmps.getD s undef) (S:=S) (λs _=>c s) p (by rw[j];simp[Op.operands]);have g:=qo q k;have f:=h.addBox (ty:=ty) g (g.noDigs m);refine aE (v:=.pointer (some ⟨w.heap.size,0,none⟩)) (W':=w.alloc (.cells (dG (λs=>a.tmps.getD s undef) x).cells ty)) ?_ ⟨bx++[w.heap.size],rv,?_,by rw[ee,eu,d],by rw[df,e],?_⟩
 ·simp[execOp,j,Instr.box,newVar,newRow,newObj,Sem.run]
 ·rw[dJ,cj];simpa using f
 rw[cj];have b:∀i,FT (en (w.alloc (.cells (dG (λs=>a.tmps.getD s undef) x).cells ty)) G0 (bx++[w.heap.size]) rv S.rs) [a.tmps.getD i undef] [S.get i]:=λi=>mb _ (c i)
 intro i;rw[gA a o.dst _ S.n d l,dh];split
 ·exact .box _ _ _ (by show(bx++[w.heap.size])[S.bs.length]? =_;rw[<-h.nb];simp) .nil
 exact b i
end
section
variable {w0:World} {G0:Bse} {S:St} {o:Oper}
def uB{ty:TypeId}{h:List Value}(p:o.op=.alloc ty)(k:cF S.n o.dst=true)(c:ij prog ty=some h)(m:h.all bR=true):lM w0 G0 o S ({S with bs:=S.bs++[(ty,h.map eg)]}.put o.dst (.box S.bs.length 0)):=by
 rintro a w ⟨bx,rv,j,b,d,f⟩;unfold ij at c;simp only[TH,R9]at c;obtain⟨i,l,z,c,rfl⟩:=c;have e:=j.addBox (ty:=ty) (us:=z.cells.toList) (cs:=z.cells.toList.map eg) (.of (qp _ _ _)) m;refine aE (v:=.pointer (some ⟨w.heap.size,0,none⟩)) (W':=w.alloc (.cells z.cells ty)) ?_ ⟨bx++[w.heap.size],rv,?_,by rw[ee,eu,b],by rw[df,d],?_⟩
 ·have g:(zeroValue ty).run prog w=.ok z w:=by simp[zeroValue,typeInfo,l,c]
  simp[execOp,p,Instr.alloc,newVar,newRow,newObj,Sem.run,g]
 ·rw[dJ,cj];simpa using e
 rw[cj];intro i;rw[gA a o.dst _ S.n b k,dh];split
 ·exact .box _ _ _ (by show(bx++[w.heap.size])[S.bs.length]? =_;rw[<-j.nb];simp) .nil
 exact mb _ (f i)
def pB{P:Program}{w:World}{g off:Nat}{ty t:TypeId}{cur:List Value}{v:Value}(h:w.heap[g]? =some (.cells cur.toArray t (0,0)))(d:(P.info? ty).map (·.size)=some v.cells.size)(b:off+v.cells.size<=cur.length)(f:∀u∈v.cells.toList,u.oneCell'=true):
  (Instr.storeAt ty (.pointer (some ⟨g,off,none⟩)) v).run P w=.ok () (w.setRow g (cur.take off++v.cells.toList++cur.drop (off+v.cells.size)).toArray):=by
 have a:=run_storeCells_at P g off t v.cells.toList 0 cur.toArray w h (by simpa using b) f;simp only[SB,Sd]at a;cases c:P.info? ty with
 |none=>simp[c]at d
 |some i=>
  have e:v.cells.size=i.size:=by simp[c]at d;omega
  simp[Instr.storeAt,Instr.sureAddr,storeVar,sizeOf,typeInfo,c,e]at a⊢;rw[<-e]at a⊢;exact a
def qu(w:World)(g:Nat)(cs:Array Value):w.grownBy (w.setRow g cs) (some g):=⟨Z,Z,Z,by simp[World.setRow],λk _ a=>setRow_other w g k cs (λe=>a (by rw[e]))⟩
def I9(cs:List Tree)(off:Nat)(t:Tree):List Tree:=cs.take off++t.cells++cs.drop (off+t.cells.length)
def qv{us vs:List Value}{off n:Nat}(h:us.all bR=true)(b:vs.all bR=true):(us.take off++vs++us.drop n).all bR=true:=by
 simp only[S9,Q9];exact⟨⟨Rl.2 λx a=>Rl.1 h x (RG a),b⟩,Rl.2 λx a=>Rl.1 h x (Sf a)⟩
def mR{ty f:TypeId}{x y:Operand}{b off:Nat}{cs:List Tree}{t:Tree}{n:Nat}(A:o.op=.store ty x y)(k:o.dst=none)(O:S.ev x=.box b off)(J:S.bs[b]? =some (f,cs))(N:S.ev y=t)(H:t.oneA=true)(I:t.cells.all Tree.one=true)(L:t.cells.all Tree.noDig=true)(M:(prog.info? ty).map (·.size)=some n)(C:t.cells.length=n)(z:off+n<=cs.length):lM w0 G0 o S {S with bs:=S.bs.set b (f,I9 cs off t)}:=by
 rintro a w ⟨bx,rv,D,B,q,e⟩;have F:=bP (op:=o.op) (T:=λs=>a.tmps.getD s undef) (S:=S) (λs _=>e s) N (by rw[A];simp[Op.operands]);have E:=bP (op:=o.op) (T:=λs=>a.tmps.getD s undef) (S:=S) (λs _=>e s) O (by rw[A];simp[Op.operands]);generalize (λs=>a.tmps.getD s undef)=T at F E⊢;obtain⟨g,us,j,G,h,r,K⟩:=n5 D J E;have p:=qo F H;have c:=p.length;rw[Sd]at c;have u:=r.length;have m:=pB (P:=prog) (w:=w) (g:=g) (off:=off) (ty:=ty) (t:=f) (cur:=us) (v:=dG T y) h (by rw[M,c,C]) (by rw[c,C,u];exact z) (p.ones I);have l:g∈cJ bx rv S.rs:=be.2 (.inl (Q8 j));have d:=qu w g (us.take off++(dG T y).cells.toList++us.drop (off+(dG T y).cells.size)).toArray;refine gS (W':=w.setRow g (us.take off++(dG T y).cells.toList++us.drop (off+(dG T y).cells.size)).toArray) (by simp only[execOp,A,G,Sem.run_bind,m,Result.andThen_ok];rfl) ⟨bx,rv,?_,by rw[ee];exact B,by rw[df,q],?_⟩
 ·refine D.setBox (ty:=f) j d (setRow_heap w g us.toArray _ f (0,0) h) ?_ (qv K (p.noDigs L));unfold I9;rw[<-c];exact qr l d (((r.take off).append p).append (r.drop _))
 intro i;rw[k];exact qr l d (e i)
def iH(k:Nat):Tree->Tree
 | .own j=>if j=k then .any else .own j
 | .elp j off=>if j=k then .any else .elp j off
 | .agg _=>.any
 | .tup _=>.any
 |t=>t
def fk(k:Nat):Tree->Tree
 | .agg cs=>.agg (cs.map (iH k))
 |t=>iH k t
def FT.kill0{E E':En}{k:Nat}{v:Value}{t:Tree}(h:FT E [v] [t])(f:E.W.heap.size<=E'.W.heap.size)(e:∀b,b<E.W.heap.size->¬E.G b->E'.W.heap[b]? =E.W.heap[b]? /\¬E'.G b)(d:∀b g,E.bx b=some g->E'.bx b=some g)(a:∀j v,j≠k->E.rv j=some v->E'.rv j=some v):FT E' [v] [iH k t]:=by
 cases h with
 |pure h _=>
  cases t<;>first
   |exact .pure (h.mono f e) .nil
   |(simp only[iH];exact .any _ .nil)
   |(cases h)
 |any=>exact .any _ .nil
 |box b off g h _=>exact .box b off g (d b g h) .nil
 |own j n c A hv _=>
  simp only[iH];split
  ·exact .any _ .nil
  exact .own j n c A (a j _ (by assumption) hv) .nil
 |elp j off g n c hv _=>
  simp only[iH];split
  ·exact .any _ .nil
  exact .elp j off g n c (a j _ (by assumption) hv) .nil
 |agg=>exact .any _ .nil
 |tup=>exact .any _ .nil
def sj{E E':En}{k:Nat}(e:E.W.heap.size<=E'.W.heap.size)(c:∀b,b<E.W.heap.size->¬E.G b->E'.W.heap[b]? =E.W.heap[b]? /\¬E'.G b)(a:∀b g,E.bx b=some g->E'.bx b=some g)(d:∀j v,j≠k->E.rv j=some v->E'.rv j=some v):∀{us:List Value} {ts:List Tree},FT E us ts->FT E' us (ts.map (iH k))
 |[],[],_=>.nil
 |[],_::_,h=>by cases h
 |_::_,[],h=>by cases h
 |u::us,t::ts,h=>FT.cons (h.head.kill0 e c a d) (sj e c a d h.tail)
def FT.kill{E E':En}{k:Nat}{v:Value}{t:Tree}(h:FT E [v] [t])(e:E.W.heap.size<=E'.W.heap.size)(c:∀b,b<E.W.heap.size->¬E.G b->E'.W.heap[b]? =E.W.heap[b]? /\¬E'.G b)(a:∀b g,E.bx b=some g->E'.bx b=some g)(d:∀j v,j≠k->E.rv j=some v->E'.rv j=some v):FT E' [v] [fk k t]:=by
 cases t with
 |agg cs=>
  obtain⟨xs,rfl,f⟩:=h.isAgg;exact .agg xs _ (sj e c a d f) .nil
 |_=>exact h.kill0 e c a d
def St.kill(S:St)(k:Nat):St:={S with sl:=S.sl.map λp=>(p.1,fk k p.2),bs:=S.bs.map λp=>(p.1,p.2.map (iH k))}
def kH(f:Tree->Tree)(a:f .any=.any):∀(l:List (Nat×Tree)) (i:Nat),look (l.map λp=>(p.1,f p.2)) i=f (look l i)
 |[],i=>a.symm
 |(j,t)::l,i=>by
  simp only[Sb,dX];split
  ·rfl
  exact kH f a l i
def n6(S:St)(k i:Nat):(S.kill k).get i=fk k (S.get i):=kH (fk k) Z S.sl i
section
variable {w w':World} {bs:List (TypeId×List Tree)} {rs:List (Option Row)} {bx:List Nat} {rv:List Value} {k:Nat} {v v':Value} {R R':Row}
def mS(f:k<rv.length)(j:Nat)(u:Value)(X:Row):(rv.set k v')[j]? =some u->(rs.set k (some R'))[j]? =some (some X)->(j=k/\u=v'/\X=R')\/(j≠k/\rv[j]? =some u/\rs[j]? =some (some X)):=λb a=>by
 by_cases c:j=k
 ·subst c;left;have d:=(Q6.1 a).1;rw[RO]at d;rw[So f]at b;rw[So d]at a;cases b;cases a;exact⟨Z,Z,Z⟩
 right;rw[Se (λe=>c e.symm)]at b a;exact⟨c,b,a⟩
def Oc(f:rv[k]? =some v)(n:rs[k]? =some (some R))(c:∀g,v'.ownBlock=some g->v.ownBlock=some g\/w.heap.size<=g){b:Nat}(o:b<w.heap.size)(h:GG G0 bx (rv.set k v') (rs.set k (some R')) b):GG G0 bx rv rs b:=by
 rcases h with h|h
 ·exact .inl h
 refine .inr (be.2 ?_);rcases be.1 h with a|⟨j,u,X,a,i,d⟩
 ·exact .inl a
 rcases mS (Q6.1 f).1 j u X a i with⟨rfl,rfl,rfl⟩|⟨_,l,m⟩
 ·rcases c b d with e|e
  ·exact .inr ⟨j,v,R,f,n,e⟩
  omega
 exact .inr ⟨j,u,X,l,m,d⟩
def n7(i:rv[k]? =some v)(d:rs[k]? =some (some R))(j:w.grownBy w' v.ownBlock)(a:∀g,v'.ownBlock=some g->v.ownBlock=some g\/w.heap.size<=g):∀b,b<w.heap.size->¬GG G0 bx rv rs b->w'.heap[b]? =w.heap[b]? /\¬GG G0 bx (rv.set k v') (rs.set k (some R')) b:=λb f c=>
 ⟨j.block b f λe=>c (.inr (be.2 (.inr ⟨k,v,R,i,d,e.symm⟩))),λh=>c (Oc i d a f h)⟩
def Ja(j:Nat)(u:Value)(a:j≠k)(h:fX rv rs j=some u):fX (rv.set k v') (rs.set k (some R')) j=some u:=by
 unfold fX at h⊢;rw[Se (λe=>a e.symm),Se (λe=>a e.symm)];exact h
def Mem.setRowV(h:Mem w0 G0 bs rs bx rv w){xs:List Value}(s:rv[k]? =some v)(x:rs[k]? =some (some R))(A:w.grownBy w' v.ownBlock)(n:∀g,v'.ownBlock=some g->v.ownBlock=some g\/w.heap.size<=g)(W:w'.ownsRow 0 R'.e R'.sz v' R'.es.length xs)(hx:PT w' (GG G0 bx (rv.set k v') (rs.set k (some R'))) xs (flat R'.es))(N:Sized R'.sz R'.es/\(R'.tt=true->pQ v'))(U:∀g,v'.ownBlock=some g->NoDigB w' g):
  Mem w0 G0 (bs.map λp=>(p.1,p.2.map (iH k))) (rs.set k (some R')) bx (rv.set k v') w':=by
 have d:=(Q6.1 s).1;have o:=n7 (R':=R') (G0:=G0) (bx:=bx) s x A n;have K:∀b,v.ownBlock=some b->w0.heap.size<=b\/G0.X b:=λb B=>h.ge b (be.2 (.inr ⟨k,v,R,s,x,B⟩))
 have z:∀b,b∈cJ bx (rv.set k v') (rs.set k (some R'))->b∈cJ bx rv rs\/(v'.ownBlock=some b/\w.heap.size<=b):=λb B=>by
  rcases be.1 B with a|⟨j,u,X,a,q,f⟩
  ·exact .inl (be.2 (.inl a))
  rcases mS d j u X a q with⟨rfl,rfl,rfl⟩|⟨_,l,m⟩
  ·rcases n b f with c|c
   ·exact .inl (be.2 (.inr ⟨j,v,R,s,x,c⟩))
   exact .inr ⟨f,c⟩
  exact .inl (be.2 (.inr ⟨j,u,X,l,m,f⟩))
 refine⟨h.below.grown A (λb e=>K b e),h.env0,h.g0,by simp[h.nb],by simp[h.nr],λi g L=>?_,λj u X a q=>?_,?_,λb B=>?_,h.pin⟩
 ·obtain⟨ty,cs,us,a,q,f,l⟩:=h.box i g L;refine⟨ty,cs.map (iH k),us,by rw[RK,a];rfl,(A.block g q.lt λe=>?_).trans q,sj (E:=en w G0 bx rv rs) (E':=en w' G0 bx (rv.set k v') (rs.set k (some R'))) A.size o (λ_ _ h=>h) (λj u C V=>Ja j u C V) f,l⟩;exact h.nodup.br k v R g s x e.symm (Q8 L)
 ·rcases mS d j u X a q with⟨rfl,rfl,rfl⟩|⟨C,l,m⟩
  ·exact⟨xs,W,hx,N,U⟩
  obtain⟨ys,c,y,S,T⟩:=h.row j u X l m;have D:∀b,u.ownBlock=some b->v.ownBlock≠some b:=λb P Q=>h.nodup.rr j k u v X R b C l m s x P Q
  refine⟨ys,c.kept A ?_,y.mono A.size o,S,λg J=>(T g J).of (A.block g (c.lt g J).2 λe=>D g J e.symm)⟩;cases hu:u.ownBlock with
  |none=>exact .inl Z
  |some b=>exact .inr λe=>D b hu e.symm
 ·refine⟨h.nodup.bb,λj u X b a q f M=>?_,λi j u t X Y b r a q f l m c=>?_⟩
  ·rcases mS d j u X a q with⟨rfl,rfl,rfl⟩|⟨_,l,m⟩
   ·rcases n b f with c|c
    ·exact h.nodup.br j v R b s x c M
    have:=(h.ok b (.inr (be.2 (.inl M)))).1;omega
   exact h.nodup.br j u X b l m f M
  rcases mS d i u X a q with⟨rfl,rfl,rfl⟩|⟨L,H,I⟩
  ·rcases mS d j t Y f l with⟨rfl,_,_⟩|⟨C,F,G⟩
   ·exact r Z
   rcases n b m with y|y
   ·exact h.nodup.rr i j v t R Y b r s x F G y c
   have:=(h.ok b (.inr (be.2 (.inr ⟨j,t,Y,F,G,c⟩)))).1;omega
  rcases mS d j t Y f l with⟨rfl,rfl,rfl⟩|⟨C,F,G⟩
  ·rcases n b c with y|y
   ·exact h.nodup.rr i j u v X R b r H I s x m y
   have:=(h.ok b (.inr (be.2 (.inr ⟨i,u,X,H,I,m⟩)))).1;omega
  exact h.nodup.rr i j u t X Y b r H I F G m c
 rcases z b B with a|⟨_,a⟩
 ·exact h.ge b a
 have:=h.below.size;exact .inl O
end
end
def cU{w:World}{g:Nat}{c:Array Value}{e:TypeId}{fr:Nat×Nat}(h:w.heap[g]? =some (.cells c e fr))(b:c.toList.all bR=true):NoDigB w g:=λi u a=>by
 simp only[World.cell?,h,Vw,Ty,if_false]at a;exact Rl.1 b u (Q8 (by simpa using a))
def oO{w:World}{g:Nat}{c:Array Value}{e:TypeId}(h:w.heap[g]? =some (.cells c e (0,0)))(a:NoDigB w g):c.toList.all bR=true:=Rl.2 λu d=>by
 obtain⟨i,b,rfl⟩:=Sl d;refine a i _ ?_;simp only[World.cell?,h,Vw,Ty,if_false];rw[<-SC];exact Q2 b
def jz{z:Value}(c:z.cells.toList.all bR=true)(n:Nat):(Builtin.zeroCells z.cells n).toList.all bR=true:=Rl.2 λu a=>by
 simp only[Builtin.zeroCells,U2,Sv]at a;obtain⟨i,d,rfl⟩:=a;rw[Va,RU];cases b:z.cells[i%z.cells.size]? with
 |none=>rfl
 |some x=>exact Rl.1 c x (by have:=Vj b;simpa using this)
def mT{l:List Value}(h:l.all bR=true)(n:Nat):(l.take n).all bR=true:=Rl.2 λx a=>Rl.1 h x (RG a)
def mU{P:Program}(w:World)(base:Nat)(t ty e:TypeId)(i:TypeInfo)(z:Value)(size k:Nat)(M:P.underlying t=some (.slice e))(J:P.info? e=some i)(U:i.zero=some z)
  (o:i.size=size) (G:i.bytes=k) (V:z.cells.size=size) (T:0<size) (v:Value) (n:Nat) (xs:List Value) (b:w.ownsRow base e size v n xs) (A:Option Addr) (m c:Nat) (news:List Value) (C:news.length=m*size) (K:A=none->m=0/\c=0) (f:∀a,A=some a->∀j u,news[j]? =some u->w.cell? (a.add j)=some u) (W:∀u∈news,u.oneCell'=true)
  (F:n+m<=maxLen) (d:(n+m)*k<=140737488355328) (q:base<=w.heap.size) (N:z.cells.toList.all bR=true) (x:news.all bR=true) (X:∀g,v.ownBlock=some g->NoDigB w g):
  ∃v' w',(Builtin.append_ #[t,t] ty #[v,.slice A m c]).run P w=.ok v' w'/\w'.ownsRow base e size v' (n+m) (xs++news)/\w.grownBy w' v.ownBlock/\(v'.ownBlock=v.ownBlock\/v'.ownBlock=some w.heap.size)/\∀g,v'.ownBlock=some g->NoDigB w' g:=by
 cases A with
 |none=>
  obtain⟨rfl,rfl⟩:=K Z;have hn:news=[]:=Rj (by simpa using C);subst hn;have L:=run_append_owned_none (P:=P) (w:=w) base t ty e i size M J v n xs b;exact⟨v,w,L,by simpa using b,⟨Z,Z,Z,Q3 _,λ_ _ _=>rfl⟩,.inl Z,X⟩
 |some a=>
  obtain⟨v',w',Q,h2,h3,h4,h5⟩:=run_append_own_at (P:=P) w base t ty e i z size k M J U o G V T v n xs b a m c news C (f a Z) W F d q;refine⟨v',w',Q,h2,h3,h5,?_⟩;subst o;subst G;have R:n+m<=9223372036854775807:=by simp only[maxLen]at F;omega
  rcases b.2 with⟨rfl,rfl⟩|⟨g,p,cur,rfl,a0,r,a2,a1,S,B⟩
  ·by_cases hm:m=0
   ·rw[h4.2 ⟨Z,hm⟩];intro g r;cases r
   have h:=run_append_nil (P:=P) w t ty e i z M J U a m c news C (f a Z) O O (by have hb:=d;simp only[R4]at hb;omega);rw[Q]at h;injection h with D E
   subst D E;intro g r;cases r;exact cU (heap_alloc_new w.drew _) (by simp only[SE,S9,Q9];exact⟨x,jz N _⟩)
  have H:=oO r (X g Z);by_cases l:n+m<=p
  ·have I:n*i.size+news.length<=cur.size:=by rw[C,S,<-R2];exact RB _ l
   have h:=run_append_room (P:=P) w t ty e i M J g n p cur r a m c news C (f a Z) W l I;rw[Q]at h;injection h with D E
   subst D E;intro Y s;cases s;exact cU (setRow_heap w g cur _ e _ r) (qv H x)
  have y:∀j u,xs[j]? =some u->w.cell? ((⟨g,0,none⟩:Addr).add j)=some u:=b.cells (g:=g) Z;have h:=run_append_grow (P:=P) w t ty e i z M J U ⟨g,0,none⟩ n p xs b.1 y a m c news C (f a Z) O O (growslice_fits O d);rw[Q]at h;injection h with D E
  subst D E;intro Y s;cases s;refine cU (heap_alloc_new w.drew _) ?_;simp only[SE,S9,Q9];exact⟨⟨by rw[<-B];exact mT H _,x⟩,jz N _⟩
def Jb{P:Program}(w:World)(base:Nat)(t u ty e:TypeId)(i:TypeInfo)(H:P.underlying t=some (.slice e))(I:P.underlying u=some .string)(G:P.info? e=some i)(L:i.zero=some (.int .u8 0))(b:i.size=1)(m:i.bytes=1)
  (v:Value) (n:Nat) (xs:List Value) (d:w.ownsRow base e 1 v n xs) (s:ByteArray) (Q:n+s.size<=140737488355328) (l:base<=w.heap.size) (T:∀g,v.ownBlock=some g->NoDigB w g):
  ∃v' w',(Builtin.append_ #[t,u] ty #[v,.string s]).run P w=.ok v' w'/\w'.ownsRow base e 1 v' (n+s.size) (xs++bZ s.data.toList)/\w.grownBy w' v.ownBlock/\(v'.ownBlock=v.ownBlock\/v'.ownBlock=some w.heap.size)/\∀g,v'.ownBlock=some g->NoDigB w' g:=by
 have D:(Value.int .u8 0).cells.toList.all bR=true:=rfl;have f:Lib.strCells s=bZ s.data.toList:=by simp[Lib.strCells,bZ]
 have h:(Lib.strCells s).all bR=true:=Rl.2 λx K=>by
  rw[f]at K;simp only[bZ,Sv]at K;obtain⟨c,_,rfl⟩:=K;rfl
 obtain⟨v',w',r,E,F,M⟩:=Lib.run_append_own_string (P:=P) w base t u ty e i H I G L b m v n xs d s (by simp only[maxLen];omega) O l;rcases d.2 with⟨rfl,rfl⟩|⟨g,k,cur,rfl,R,o,U,S,J,z⟩
 ·by_cases N:s.size=0
  ·refine⟨v',w',r,by rw[<-f];exact E,F,?_,?_⟩
   ·rw[M.2 ⟨Z,N⟩];exact .inl Z
   rw[M.2 ⟨Z,N⟩];intro g o;cases o
  have a:=run_append_nil_string (P:=P) w t u ty e i (.int .u8 0) H I G L s O O (by rw[m];omega);refine⟨v',w',r,by rw[<-f];exact E,F,?_⟩;rw[r]at a;injection a with A B
  subst A B;refine⟨.inr Z,λg o=>?_⟩;cases o;refine cU (heap_alloc_new w.drew _) ?_;simp only[SE,S9,Q9,U2];exact⟨by rw[f]at h;exact h,jz D _⟩
 have C:=oO o (T g Z);by_cases y:n+s.size<=k
 ·have a:=Lib.run_append_room_string (P:=P) w t u ty e i H I G b g n k cur o s y (by rw[J];omega);refine⟨v',w',r,by rw[<-f];exact E,F,?_⟩;rw[r]at a;injection a with A B
  subst A B;refine⟨.inl Z,λg p=>?_⟩;cases p;exact cU (setRow_heap w _ cur _ e _ o) (qv C h)
 have q:∀j u,xs[j]? =some u->w.cell? ((⟨g,0,none⟩:Addr).add j)=some u:=World.ownsRow.cells d (g:=g) Z;have a:=Lib.run_append_grow_string (P:=P) w t u ty e i (.int .u8 0) H I G L ⟨g,0,none⟩ n k xs (by rw[b];exact d.1) q s O O (by rw[m];exact growslice_fits O O);refine⟨v',w',r,by rw[<-f];exact E,F,?_⟩;rw[r]at a;injection a with A B
 subst A B;refine⟨.inr Z,λg p=>?_⟩;cases p;refine cU (heap_alloc_new w.drew _) ?_;simp only[SE,S9,Q9];exact⟨⟨by rw[<-z];exact mT C _,h⟩,jz D _⟩
structure AppT (P:Program) (t e:TypeId) (sz by_:Nat):Prop where
 u:P.underlying t=some (.slice e)
 i:∃i z,P.info? e=some i/\i.zero=some z/\i.size=sz/\i.bytes=by_/\z.cells.size=sz/\z.cells.toList.all bR=true
 pos:0<sz
def kI(P:Program)(t:TypeId):Option (TypeId×Nat×Nat):=
 match P.underlying t with
 |some (.slice e)=>(P.info? e).bind λi=>i.zero.bind λz=>if z.cells.size=i.size/\z.cells.toList.all bR=true/\0<i.size then some (e,i.size,i.bytes)else none
 |_=>none
def qw{P:Program}{t e:TypeId}{sz a:Nat}(h:kI P t=some (e,sz,a)):AppT P t e sz a:=by
 unfold kI at h;split at h
 ·next e' hu=>
  simp only[TH]at h;obtain⟨i,b,z,c,h⟩:=h;split at h
  ·next hc=>
   simp only[Ro,Td]at h;obtain⟨rfl,rfl,rfl⟩:=h;exact⟨hu,⟨i,z,b,c,Z,Z,hc.1,hc.2.1⟩,hc.2.2⟩
  cases h
 cases h
def AllC(p:Tree->Bool)(es:List Tree):Prop:=∀c∈flat es,p c=true
def AllC.all{p:Tree->Bool}{es:List Tree}(h:AllC p es):(flat es).all p=true:=Rl.2 h
def AllC.lit{p:Tree->Bool}{es:List Tree}(h:(flat es).all p=true):AllC p es:=Rl.1 h
def AllC.map{p:Tree->Bool}{α:Type}(f:α->Tree)(l:List α)(h:∀a,(f a).cells.all p=true):AllC p (l.map f):=λc b=>by
 simp only[flat,List.mem_flatMap,Sv]at b;obtain⟨_,⟨a,_,rfl⟩,b⟩:=b;exact Rl.1 (h a) c b
section
variable {w0:World} {G0:Bse} {S:St} {o:Oper}
def uC{a:Act}{w w':World}{bx:List Nat}{rv:List Value}{k:Nat}{v v':Value}{R R':Row}{xs:List Value}(F:Mem w0 G0 S.bs S.rs bx rv w)(d:a.tmps.size=S.n)(p:a.defers=[])(t:∀i,FT (en w G0 bx rv S.rs) [a.tmps.getD i undef] [S.get i])(C:cF S.n o.dst=true)
  (x:rv[k]? =some v) (l:S.rs[k]? =some (some R)) (y:w.grownBy w' v.ownBlock) (m:v'.ownBlock=v.ownBlock\/v'.ownBlock=some w.heap.size) (B:w'.ownsRow 0 R'.e R'.sz v' R'.es.length xs) (H:PT w' (GG G0 bx (rv.set k v') (S.rs.set k (some R'))) xs (flat R'.es)) (G:Sized R'.sz R'.es/\(R'.tt=true->pQ v')) (s:∀g,v'.ownBlock=some g->NoDigB w' g):
  Sim w0 G0 ({S.kill k with rs:=S.rs.set k (some R')}.put o.dst (.own k)) (a.put o.dst v') w':=by
 have b:∀g,v'.ownBlock=some g->v.ownBlock=some g\/w.heap.size<=g:=λg f=>by
  rcases m with h|h
  ·exact .inl (h▸f)
  rw[h]at f;injection f with f;exact .inr O
 have q:=(Q6.1 x).1;have r:=(Q6.1 l).1;refine⟨bx,rv.set k v',?_,by rw[ee,eu];exact d,by rw[df,p],?_⟩
 ·rw[dJ,cj];exact F.setRowV x l y b B H G s
 rw[cj];intro i;rw[gA a o.dst _ S.n d C,dh];split
 ·obtain⟨A,c,rfl⟩:=ce B;refine .own k _ c A ?_ .nil;show fX (rv.set k _) (S.rs.set k (some R')) k=_
  unfold fX;rw[So r,So q];rfl
 have z:=(t i).kill (E':=en w' G0 bx (rv.set k v') (S.rs.set k (some R'))) (k:=k) y.size (n7 x l y b) (λ_ _ h=>h) (λj u E D=>Ja j u E D);rw[<-n6]at z;exact z
def xS{x y:Operand}{t:TypeId}{k m:Nat}{R:Row}{d:List Tree}(X:o.op=.call {callee:=.builtin .append,args:=#[x,y],argTypes:=#[t,t]})(hd:cF S.n o.dst=true)(ht:kI prog t=some (R.e,R.sz,m))(K:S.ev x=.own k)(M:S.rs[k]? =some (some R))(hy:S.ev y=.sl d)(hs:Sized R.sz d)(h1:AllC Tree.one d)(h2:AllC Tree.noDig d)(h3:R.es.length+d.length<=1073741824)(h4:m<=100000):
  lM w0 G0 o S ({S.kill k with rs:=S.rs.set k (some ⟨R.e,R.sz,R.es++d,false⟩)}.put o.dst (.own k)):=by
 rintro a w ⟨bx,rv,hm,a2,Q,p⟩;have hp:=bP (op:=o.op) (T:=λs=>a.tmps.getD s undef) (S:=S) (λs _=>p s) K (by rw[X];simp[Op.operands,Call.operands]);have hq:=(bP (op:=o.op) (T:=λs=>a.tmps.getD s undef) (S:=S) (λs _=>p s) hy (by rw[X];simp[Op.operands,Call.operands])).isSl;generalize (λs=>a.tmps.getD s undef)=T at hp hq⊢;obtain⟨hv,xs,D,Z,a1,W⟩:=gT hm M hp;obtain⟨A,c,e1,a5,_,hA,G⟩:=hq.slice;obtain⟨H,⟨i,z,hi,hz,a0,N,a4,a3⟩,E⟩:=qw ht;obtain⟨news,U,B,V⟩:∃news,news.length=d.length*R.sz/\PT w (GG G0 bx rv S.rs) news (flat d)/\∀a,A=some a->∀j u,news[j]? =some u->w.cell? (a.add j)=some u:=by
  rcases RV d.length with L|L
  ·obtain rfl:d=[]:=Rj L;exact⟨[],F,.nil,λa _ j u H=>by simp at H⟩
  obtain⟨b,off,news,rfl,_,_,hc,K⟩:=G L;refine⟨news,by rw[K.length,hs.flat],K,λad ha j u H=>?_⟩;rw[<-Sw ha,Addr.add_mid];exact hc j u H
 have r:FT (en w G0 bx rv S.rs) news (flat d):=.of B;obtain⟨v',w',hr,Y,l,q,C⟩:=mU (P:=prog) w 0 t o.type R.e i z R.sz m H hi hz a0 N a4 E (dG T x) R.es.length xs D A d.length c news U (λe=>⟨by have:=hA e;omega,hA e⟩) V (r.ones h1.all) (by simp only[maxLen];omega) (Q7 (Tq h3 h4) I) (Rg _) a3 (r.noDigs h2.all) W;refine aE (v:=v') (W':=w') ?_ (uC (R':=⟨R.e,R.sz,R.es++d,false⟩) (xs:=xs++news) hm a2 Q p hd hv M l q (by simpa using Y) ?_ ⟨a1.1.append hs,λh=>by cases h⟩ C)
 ·simp only[execOp,X,resolve,invoke,builtin,Sem.run_bind,Sem.run_pure,Result.andThen_ok,Tk,Sb,TD,e1,hr]
 have f:=n7 (G0:=G0) (bx:=bx) (w:=w) (w':=w') (v':=v') (R':=⟨R.e,R.sz,R.es++d,false⟩) hv M l (λg J=>by
  rcases q with h|h
  ·exact .inl (h▸J)
  rw[h]at J;injection J with J;exact .inr O)
 rw[jO];exact(Z.mono l.size f).append (B.mono l.size f)
end
