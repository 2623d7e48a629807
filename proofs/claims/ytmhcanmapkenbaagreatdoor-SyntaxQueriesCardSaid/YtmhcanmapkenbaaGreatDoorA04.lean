import Derived.Test.YtmhcanmapkenbaaGreatDoorA03
set_option linter.defProp false
open Go.Proofs.Tryz
namespace Go.Proofs.YtmhcanmapkenbaaGreatDoor
open Go.RowKit
open Lib renaming hid→J
section
variable {w0:World} {G0:Bse} {S:St} {o:Oper}
def rg{ty:TypeId}{h:List Value}(m:o.op=.alloc ty)(hd:df S.n o.dst=true)(c:gn prog ty=some h)(l:h.all cj=true):qi w0 G0 o S ({S with bs:=S.bs++[(ty,h.map c7)]}.put o.dst (.box S.bs.length 0)):=by
 rintro a w ⟨bx,rv,j,b,d,f⟩;unfold gn at c;simp only[R6,Q4]at c;obtain⟨i,k,z,c,rfl⟩:=c;have e:=j.addBox (ty:=ty) (us:=z.cells.toList) (cs:=z.cells.toList.map c7) (.of (nW _ _ _)) l;refine OpRuns.of_ok (v:=.pointer (some ⟨w.heap.size,0,none⟩)) (W':=w.alloc (.cells z.cells ty)) ?_ ⟨bx++[w.heap.size],rv,?_,by rw[d9,dQ,b],by rw[c6,d],?_⟩
 ·have g:(zeroValue ty).run prog w=.ok z w:=by simp[zeroValue,typeInfo,k,c]
  simp[execOp,m,Instr.alloc,newVar,newRow,newObj,Sem.run,g]
 ·rw[dc,b6];simpa using e
 rw[b6];intro i;rw[fL a o.dst _ S.n b hd,cF];split
 ·exact .box _ _ _ (by show(bx++[w.heap.size])[S.bs.length]? =_;rw[<-j.nb];simp) .nil
 exact jY _ (f i)
def tP{P:Program}{w:World}{g off:Nat}{ty t:TypeId}{cur:List Value}{v:Value}(h:w.heap[g]? =some (.cells cur.toArray t (0,0)))(d:(P.info? ty).map (·.size)=some v.cells.size)(b:off+v.cells.size<=cur.length)(f:∀u∈v.cells.toList,u.oneCell'=true):
  (Instr.storeAt ty (.pointer (some ⟨g,off,none⟩)) v).run P w=.ok () (w.setRow g (cur.take off++v.cells.toList++cur.drop (off+v.cells.size)).toArray):=by
 have a:=run_storeCells_at P g off t v.cells.toList 0 cur.toArray w h (by simpa using b) f;simp only[RQ,RE]at a;cases c:P.info? ty with
 |none=>simp[c]at d
 |some i=>
  have e:v.cells.size=i.size:=by simp[c]at d;omega
  simp[Instr.storeAt,Instr.sureAddr,storeVar,sizeOf,typeInfo,c,e]at a⊢;rw[<-e]at a⊢;exact a
def vi(w:World)(g:Nat)(cs:Array Value):w.grownBy (w.setRow g cs) (some g):=⟨Z,Z,Z,by simp[World.setRow],λk _ a=>setRow_other w g k cs (λe=>a (by rw[e]))⟩
def EY(cs:List Tree)(off:Nat)(t:Tree):List Tree:=cs.take off++t.cells++cs.drop (off+t.cells.length)
def xp{us vs:List Value}{off n:Nat}(h:us.all cj=true)(b:vs.all cj=true):(us.take off++vs++us.drop n).all cj=true:=by
 simp only[Se,Qh];exact⟨⟨Qt.2 λx a=>Qt.1 h x (Ra a),b⟩,Qt.2 λx a=>Qt.1 h x (TF a)⟩
def kv{ty f:TypeId}{x y:Operand}{b off:Nat}{cs:List Tree}{t:Tree}{n:Nat}(A:o.op=.store ty x y)(k:o.dst=none)(M:S.ev x=.box b off)(I:S.bs[b]? =some (f,cs))(L:S.ev y=t)(G:t.oneA=true)(H:t.cells.all Tree.one=true)(J:t.cells.all Tree.noDig=true)(K:(prog.info? ty).map (·.size)=some n)(hl:t.cells.length=n)(z:off+n<=cs.length):qi w0 G0 o S {S with bs:=S.bs.set b (f,EY cs off t)}:=by
 rintro a w ⟨bx,rv,C,B,q,e⟩;have E:=bY (op:=o.op) (T:=λs=>a.tmps.getD s undef) (S:=S) (λs _=>e s) L (by rw[A];simp[Op.operands]);have D:=bY (op:=o.op) (T:=λs=>a.tmps.getD s undef) (S:=S) (λs _=>e s) M (by rw[A];simp[Op.operands]);generalize (λs=>a.tmps.getD s undef)=T at E D⊢;obtain⟨g,us,j,F,h,r,hd⟩:=mX C I D;have p:=rb E G;have c:=p.length;rw[RE]at c;have u:=r.length;have m:=tP (P:=prog) (w:=w) (g:=g) (off:=off) (ty:=ty) (t:=f) (cur:=us) (v:=eX T y) h (by rw[K,c,hl]) (by rw[c,hl,u];exact z) (p.ones H);have l:g∈bX bx rv S.rs:=aN.2 (.inl (Qo j));have d:=vi w g (us.take off++(eX T y).cells.toList++us.drop (off+(eX T y).cells.size)).toArray;refine OpRuns.of_skip (W':=w.setRow g (us.take off++(eX T y).cells.toList++us.drop (off+(eX T y).cells.size)).toArray) (by simp only[execOp,A,F,Sem.run_bind,m,Result.andThen_ok];rfl) ⟨bx,rv,?_,by rw[d9];exact B,by rw[c6,q],?_⟩
 ·refine C.setBox (ty:=f) j d (setRow_heap w g us.toArray _ f (0,0) h) ?_ (xp hd (p.noDigs J));unfold EY;rw[<-c];exact nX l d (((r.take off).append p).append (r.drop _))
 intro i;rw[k];exact nX l d (e i)
def iy(k:Nat):Tree->Tree
 | .own j=>if j=k then .any else .own j
 | .elp j off=>if j=k then .any else .elp j off
 | .agg _=>.any
 | .tup _=>.any
 |t=>t
def gJ(k:Nat):Tree->Tree
 | .agg cs=>.agg (cs.map (iy k))
 |t=>iy k t
def FT.kill0{E E':En}{k:Nat}{v:Value}{t:Tree}(h:FT E [v] [t])(f:E.W.heap.size<=E'.W.heap.size)(e:∀b,b<E.W.heap.size->¬E.G b->E'.W.heap[b]? =E.W.heap[b]? /\¬E'.G b)(d:∀b g,E.bx b=some g->E'.bx b=some g)(a:∀j v,j≠k->E.rv j=some v->E'.rv j=some v):FT E' [v] [iy k t]:=by
 cases h with
 |pure h _=>
  cases t<;>first
   |exact .pure (h.mono f e) .nil
   |(simp only[iy];exact .any _ .nil)
   |(cases h)
 |any=>exact .any _ .nil
 |box b off g h _=>exact .box b off g (d b g h) .nil
 |own j n c A hv _=>
  simp only[iy];split
  ·exact .any _ .nil
  exact .own j n c A (a j _ (by assumption) hv) .nil
 |elp j off g n c hv _=>
  simp only[iy];split
  ·exact .any _ .nil
  exact .elp j off g n c (a j _ (by assumption) hv) .nil
 |agg=>exact .any _ .nil
 |tup=>exact .any _ .nil
def pe{E E':En}{k:Nat}(e:E.W.heap.size<=E'.W.heap.size)(c:∀b,b<E.W.heap.size->¬E.G b->E'.W.heap[b]? =E.W.heap[b]? /\¬E'.G b)(a:∀b g,E.bx b=some g->E'.bx b=some g)(d:∀j v,j≠k->E.rv j=some v->E'.rv j=some v):∀{us:List Value} {ts:List Tree},FT E us ts->FT E' us (ts.map (iy k))
 |[],[],_=>.nil
 |[],_::_,h=>by cases h
 |_::_,[],h=>by cases h
 |u::us,t::ts,h=>FT.cons (h.head.kill0 e c a d) (pe e c a d h.tail)
def FT.kill{E E':En}{k:Nat}{v:Value}{t:Tree}(h:FT E [v] [t])(e:E.W.heap.size<=E'.W.heap.size)(c:∀b,b<E.W.heap.size->¬E.G b->E'.W.heap[b]? =E.W.heap[b]? /\¬E'.G b)(a:∀b g,E.bx b=some g->E'.bx b=some g)(d:∀j v,j≠k->E.rv j=some v->E'.rv j=some v):FT E' [v] [gJ k t]:=by
 cases t with
 |agg cs=>
  obtain⟨xs,rfl,f⟩:=h.isAgg;exact .agg xs _ (pe e c a d f) .nil
 |_=>exact h.kill0 e c a d
def St.kill(S:St)(k:Nat):St:={S with sl:=S.sl.map λp=>(p.1,gJ k p.2),bs:=S.bs.map λp=>(p.1,p.2.map (iy k))}
def iV(f:Tree->Tree)(a:f .any=.any):∀(l:List (Nat×Tree)) (i:Nat),look (l.map λp=>(p.1,f p.2)) i=f (look l i)
 |[],i=>a.symm
 |(j,t)::l,i=>by
  simp only[QM,cK];split
  ·rfl
  exact iV f a l i
def pM(S:St)(k i:Nat):(S.kill k).get i=gJ k (S.get i):=iV (gJ k) Z S.sl i
section
variable {w w':World} {bs:List (TypeId×List Tree)} {rs:List (Option Row)} {bx:List Nat} {rv:List Value} {k:Nat} {v v':Value} {R R':Row}
def kw(d:k<rv.length)(j:Nat)(u:Value)(X:Row):(rv.set k v')[j]? =some u->(rs.set k (some R'))[j]? =some (some X)->(j=k/\u=v'/\X=R')\/(j≠k/\rv[j]? =some u/\rs[j]? =some (some X)):=λb a=>by
 by_cases c:j=k
 ·subst c;left;have hl:=(Qm.1 a).1;rw[Rr]at hl;rw[RB d]at b;rw[RB hl]at a;cases b;cases a;exact⟨Z,Z,Z⟩
 right;rw[RO (λe=>c e.symm)]at b a;exact⟨c,b,a⟩
def Mc(f:rv[k]? =some v)(n:rs[k]? =some (some R))(c:∀g,v'.ownBlock=some g->v.ownBlock=some g\/w.heap.size<=g){b:Nat}(o:b<w.heap.size)(h:GG G0 bx (rv.set k v') (rs.set k (some R')) b):GG G0 bx rv rs b:=by
 rcases h with h|h
 ·exact .inl h
 refine .inr (aN.2 ?_);rcases aN.1 h with a|⟨j,u,X,a,i,d⟩
 ·exact .inl a
 rcases kw (Qm.1 f).1 j u X a i with⟨rfl,rfl,rfl⟩|⟨_,l,m⟩
 ·rcases c b d with e|e
  ·exact .inr ⟨j,v,R,f,n,e⟩
  omega
 exact .inr ⟨j,u,X,l,m,d⟩
def rh(i:rv[k]? =some v)(d:rs[k]? =some (some R))(j:w.grownBy w' v.ownBlock)(a:∀g,v'.ownBlock=some g->v.ownBlock=some g\/w.heap.size<=g):∀b,b<w.heap.size->¬GG G0 bx rv rs b->w'.heap[b]? =w.heap[b]? /\¬GG G0 bx (rv.set k v') (rs.set k (some R')) b:=λb f c=>
 ⟨j.block b f λe=>c (.inr (aN.2 (.inr ⟨k,v,R,i,d,e.symm⟩))),λh=>c (Mc i d a f h)⟩
def EZ(j:Nat)(u:Value)(a:j≠k)(h:dX rv rs j=some u):dX (rv.set k v') (rs.set k (some R')) j=some u:=by
 unfold dX at h⊢;rw[RO (λe=>a e.symm),RO (λe=>a e.symm)];exact h
def Mem.setRowV(h:Mem w0 G0 bs rs bx rv w){xs:List Value}(s:rv[k]? =some v)(x:rs[k]? =some (some R))(A:w.grownBy w' v.ownBlock)(n:∀g,v'.ownBlock=some g->v.ownBlock=some g\/w.heap.size<=g)(V:w'.ownsRow 0 R'.e R'.sz v' R'.es.length xs)(hx:PT w' (GG G0 bx (rv.set k v') (rs.set k (some R'))) xs (flat R'.es))(N:Sized R'.sz R'.es/\(R'.tt=true->qY v'))(hd:∀g,v'.ownBlock=some g->NoDigB w' g):
  Mem w0 G0 (bs.map λp=>(p.1,p.2.map (iy k))) (rs.set k (some R')) bx (rv.set k v') w':=by
 have d:=(Qm.1 s).1;have o:=rh (R':=R') (G0:=G0) (bx:=bx) s x A n;have K:∀b,v.ownBlock=some b->w0.heap.size<=b\/G0.X b:=λb B=>h.ge b (aN.2 (.inr ⟨k,v,R,s,x,B⟩))
 have z:∀b,b∈bX bx (rv.set k v') (rs.set k (some R'))->b∈bX bx rv rs\/(v'.ownBlock=some b/\w.heap.size<=b):=λb B=>by
  rcases aN.1 B with a|⟨j,u,X,a,q,f⟩
  ·exact .inl (aN.2 (.inl a))
  rcases kw d j u X a q with⟨rfl,rfl,rfl⟩|⟨_,l,m⟩
  ·rcases n b f with c|c
   ·exact .inl (aN.2 (.inr ⟨j,v,R,s,x,c⟩))
   exact .inr ⟨f,c⟩
  exact .inl (aN.2 (.inr ⟨j,u,X,l,m,f⟩))
 refine⟨h.below.grown A (λb e=>K b e),h.env0,h.g0,by simp[h.nb],by simp[h.nr],λi g L=>?_,λj u X a q=>?_,?_,λb B=>?_,h.pin⟩
 ·obtain⟨ty,cs,us,a,q,f,l⟩:=h.box i g L;refine⟨ty,cs.map (iy k),us,by rw[QL,a];rfl,(A.block g q.lt λe=>?_).trans q,pe (E:=en w G0 bx rv rs) (E':=en w' G0 bx (rv.set k v') (rs.set k (some R'))) A.size o (λ_ _ h=>h) (λj u C U=>EZ j u C U) f,l⟩;exact h.nodup.br k v R g s x e.symm (Qo L)
 ·rcases kw d j u X a q with⟨rfl,rfl,rfl⟩|⟨C,l,m⟩
  ·exact⟨xs,V,hx,N,hd⟩
  obtain⟨ys,c,y,S,T⟩:=h.row j u X l m;have D:∀b,u.ownBlock=some b->v.ownBlock≠some b:=λb P Q=>h.nodup.rr j k u v X R b C l m s x P Q
  refine⟨ys,c.kept A ?_,y.mono A.size o,S,λg J=>(T g J).of (A.block g (c.lt g J).2 λe=>D g J e.symm)⟩;cases W:u.ownBlock with
  |none=>exact .inl Z
  |some b=>exact .inr λe=>D b W e.symm
 ·refine⟨h.nodup.bb,λj u X b a q f M=>?_,λi j u t X Y b r a q f l m c=>?_⟩
  ·rcases kw d j u X a q with⟨rfl,rfl,rfl⟩|⟨_,l,m⟩
   ·rcases n b f with c|c
    ·exact h.nodup.br j v R b s x c M
    have:=(h.ok b (.inr (aN.2 (.inl M)))).1;omega
   exact h.nodup.br j u X b l m f M
  rcases kw d i u X a q with⟨rfl,rfl,rfl⟩|⟨L,H,I⟩
  ·rcases kw d j t Y f l with⟨rfl,_,_⟩|⟨C,F,G⟩
   ·exact r Z
   rcases n b m with y|y
   ·exact h.nodup.rr i j v t R Y b r s x F G y c
   have:=(h.ok b (.inr (aN.2 (.inr ⟨j,t,Y,F,G,c⟩)))).1;omega
  rcases kw d j t Y f l with⟨rfl,rfl,rfl⟩|⟨C,F,G⟩
  ·rcases n b c with y|y
   ·exact h.nodup.rr i j u v X R b r H I s x m y
   have:=(h.ok b (.inr (aN.2 (.inr ⟨i,u,X,H,I,m⟩)))).1;omega
  exact h.nodup.rr i j u t X Y b r H I F G m c
 rcases z b B with a|⟨_,a⟩
 ·exact h.ge b a
 have:=h.below.size;exact .inl O
end
end
def fe{w:World}{g:Nat}{c:Array Value}{e:TypeId}{fr:Nat×Nat}(h:w.heap[g]? =some (.cells c e fr))(b:c.toList.all cj=true):NoDigB w g:=λi u a=>by
 simp only[World.cell?,h,TJ,RM,if_false]at a;exact Qt.1 b u (Qo (by simpa using a))
def DC{w:World}{g:Nat}{c:Array Value}{e:TypeId}(h:w.heap[g]? =some (.cells c e (0,0)))(hd:NoDigB w g):c.toList.all cj=true:=Qt.2 λu b=>by
 obtain⟨i,a,rfl⟩:=So b;refine hd i _ ?_;simp only[World.cell?,h,TJ,RM,if_false];rw[<-QO];exact Qj a
def ri{z:Value}(c:z.cells.toList.all cj=true)(n:Nat):(Builtin.zeroCells z.cells n).toList.all cj=true:=Qt.2 λu a=>by
 simp only[Builtin.zeroCells,R7,RH]at a;obtain⟨i,d,rfl⟩:=a;rw[SR,QG];cases b:z.cells[i%z.cells.size]? with
 |none=>rfl
 |some x=>exact Qt.1 c x (by have:=S1 b;simpa using this)
def zE{l:List Value}(h:l.all cj=true)(n:Nat):(l.take n).all cj=true:=Qt.2 λx a=>Qt.1 h x (Ra a)
def I4{P:Program}(w:World)(base:Nat)(t ty e:TypeId)(i:TypeInfo)(z:Value)(size k:Nat)(K:P.underlying t=some (.slice e))(H:P.info? e=some i)(S:i.zero=some z)
  (o:i.size=size) (E:i.bytes=k) (T:z.cells.size=size) (R:0<size) (v:Value) (n:Nat) (xs:List Value) (b:w.ownsRow base e size v n xs) (A:Option Addr) (m c:Nat) (news:List Value) (hl:news.length=m*size) (I:A=none->m=0/\c=0) (f:∀a,A=some a->∀j u,news[j]? =some u->w.cell? (a.add j)=some u) (U:∀u∈news,u.oneCell'=true)
  (D:n+m<=maxLen) (d:(n+m)*k<=140737488355328) (p:base<=w.heap.size) (L:z.cells.toList.all cj=true) (s:news.all cj=true) (hd:∀g,v.ownBlock=some g->NoDigB w g):
  ∃v' w',(Builtin.append_ #[t,t] ty #[v,.slice A m c]).run P w=.ok v' w'/\w'.ownsRow base e size v' (n+m) (xs++news)/\w.grownBy w' v.ownBlock/\(v'.ownBlock=v.ownBlock\/v'.ownBlock=some w.heap.size)/\∀g,v'.ownBlock=some g->NoDigB w' g:=by
 cases A with
 |none=>
  obtain⟨rfl,rfl⟩:=I Z;have hn:news=[]:=QI (by simpa using hl);subst hn;have J:=run_append_owned_none (P:=P) (w:=w) base t ty e i size K H v n xs b;exact⟨v,w,J,by simpa using b,⟨Z,Z,Z,Qi _,λ_ _ _=>rfl⟩,.inl Z,hd⟩
 |some a=>
  obtain⟨v',w',M,W,X,Y,h5⟩:=run_append_own_at (P:=P) w base t ty e i z size k K H S o E T R v n xs b a m c news hl (f a Z) U D d p;refine⟨v',w',M,W,X,h5,?_⟩;subst o;subst E;have N:n+m<=9223372036854775807:=by simp only[maxLen]at D;omega
  rcases b.2 with⟨rfl,rfl⟩|⟨g,cap,cur,rfl,a0,q,a2,a1,Q,y⟩
  ·by_cases hm:m=0
   ·rw[Y.2 ⟨Z,hm⟩];intro g q;cases q
   have h:=run_append_nil (P:=P) w t ty e i z K H S a m c news hl (f a Z) O O (by have hb:=d;simp only[QT]at hb;omega);rw[M]at h;injection h with B C
   subst B C;intro g q;cases q;exact fe (heap_alloc_new w.drew _) (by simp only[QW,Se,Qh];exact⟨s,ri L _⟩)
  have F:=DC q (hd g Z);by_cases l:n+m<=cap
  ·have G:n*i.size+news.length<=cur.size:=by rw[hl,Q,<-Rp];exact Ru _ l
   have h:=run_append_room (P:=P) w t ty e i K H g n cap cur q a m c news hl (f a Z) U l G;rw[M]at h;injection h with B C
   subst B C;intro V r;cases r;exact fe (setRow_heap w g cur _ e _ q) (xp F s)
  have x:∀j u,xs[j]? =some u->w.cell? ((⟨g,0,none⟩:Addr).add j)=some u:=b.cells (g:=g) Z;have h:=run_append_grow (P:=P) w t ty e i z K H S ⟨g,0,none⟩ n cap xs b.1 x a m c news hl (f a Z) O O (growslice_fits O d);rw[M]at h;injection h with B C
  subst B C;intro V r;cases r;refine fe (heap_alloc_new w.drew _) ?_;simp only[QW,Se,Qh];exact⟨⟨by rw[<-y];exact zE F _,s⟩,ri L _⟩
structure AppT (P:Program) (t e:TypeId) (sz by_:Nat):Prop where
 u:P.underlying t=some (.slice e)
 i:∃i z,P.info? e=some i/\i.zero=some z/\i.size=sz/\i.bytes=by_/\z.cells.size=sz/\z.cells.toList.all cj=true
 pos:0<sz
def nY(P:Program)(t:TypeId):Option (TypeId×Nat×Nat):=
 match P.underlying t with
 |some (.slice e)=>(P.info? e).bind λi=>i.zero.bind λz=>if z.cells.size=i.size/\z.cells.toList.all cj=true/\0<i.size then some (e,i.size,i.bytes)else none
 |_=>none
def I5{P:Program}{t e:TypeId}{sz a:Nat}(h:nY P t=some (e,sz,a)):AppT P t e sz a:=by
 unfold nY at h;split at h
 ·next e' hu=>
  simp only[R6]at h;obtain⟨i,b,z,c,h⟩:=h;split at h
  ·next hc=>
   simp only[Qy,Sg]at h;obtain⟨rfl,rfl,rfl⟩:=h;exact⟨hu,⟨i,z,b,c,Z,Z,hc.1,hc.2.1⟩,hc.2.2⟩
  cases h
 cases h
def AllC(p:Tree->Bool)(es:List Tree):Prop:=∀c∈flat es,p c=true
def AllC.all{p:Tree->Bool}{es:List Tree}(h:AllC p es):(flat es).all p=true:=Qt.2 h
def AllC.lit{p:Tree->Bool}{es:List Tree}(h:(flat es).all p=true):AllC p es:=Qt.1 h
section
variable {w0:World} {G0:Bse} {S:St} {o:Oper}
def E1{a:Act}{w w':World}{bx:List Nat}{rv:List Value}{k:Nat}{v v':Value}{R R':Row}{xs:List Value}(E:Mem w0 G0 S.bs S.rs bx rv w)(d:a.tmps.size=S.n)(p:a.defers=[])(t:∀i,FT (en w G0 bx rv S.rs) [a.tmps.getD i undef] [S.get i])(hd:df S.n o.dst=true)
  (x:rv[k]? =some v) (l:S.rs[k]? =some (some R)) (y:w.grownBy w' v.ownBlock) (m:v'.ownBlock=v.ownBlock\/v'.ownBlock=some w.heap.size) (B:w'.ownsRow 0 R'.e R'.sz v' R'.es.length xs) (G:PT w' (GG G0 bx (rv.set k v') (S.rs.set k (some R'))) xs (flat R'.es)) (F:Sized R'.sz R'.es/\(R'.tt=true->qY v')) (s:∀g,v'.ownBlock=some g->NoDigB w' g):
  Sim w0 G0 ({S.kill k with rs:=S.rs.set k (some R')}.put o.dst (.own k)) (a.put o.dst v') w':=by
 have b:∀g,v'.ownBlock=some g->v.ownBlock=some g\/w.heap.size<=g:=λg f=>by
  rcases m with h|h
  ·exact .inl (h▸f)
  rw[h]at f;injection f with f;exact .inr O
 have q:=(Qm.1 x).1;have r:=(Qm.1 l).1;refine⟨bx,rv.set k v',?_,by rw[d9,dQ];exact d,by rw[c6,p],?_⟩
 ·rw[dc,b6];exact E.setRowV x l y b B G F s
 rw[b6];intro i;rw[fL a o.dst _ S.n d hd,cF];split
 ·obtain⟨A,c,rfl⟩:=mI B;refine .own k _ c A ?_ .nil;show dX (rv.set k _) (S.rs.set k (some R')) k=_
  unfold dX;rw[RB r,RB q];rfl
 have z:=(t i).kill (E':=en w' G0 bx (rv.set k v') (S.rs.set k (some R'))) (k:=k) y.size (rh x l y b) (λ_ _ h=>h) (λj u D C=>EZ j u D C);rw[<-pM]at z;exact z
def uf{x y:Operand}{t:TypeId}{k m:Nat}{R:Row}{d:List Tree}(X:o.op=.call {callee:=.builtin .append,args:=#[x,y],argTypes:=#[t,t]})(hd:df S.n o.dst=true)(ht:nY prog t=some (R.e,R.sz,m))(K:S.ev x=.own k)(M:S.rs[k]? =some (some R))(hy:S.ev y=.sl d)(hs:Sized R.sz d)(h1:AllC Tree.one d)(h2:AllC Tree.noDig d)(h3:R.es.length+d.length<=1073741824)(h4:m<=100000):
  qi w0 G0 o S ({S.kill k with rs:=S.rs.set k (some ⟨R.e,R.sz,R.es++d,false⟩)}.put o.dst (.own k)):=by
 rintro a w ⟨bx,rv,hm,a2,Q,p⟩;have hp:=bY (op:=o.op) (T:=λs=>a.tmps.getD s undef) (S:=S) (λs _=>p s) K (by rw[X];simp[Op.operands,Call.operands]);have hq:=(bY (op:=o.op) (T:=λs=>a.tmps.getD s undef) (S:=S) (λs _=>p s) hy (by rw[X];simp[Op.operands,Call.operands])).isSl;generalize (λs=>a.tmps.getD s undef)=T at hp hq⊢;obtain⟨hv,xs,D,Z,a1,W⟩:=qZ hm M hp;obtain⟨A,c,e1,a5,_,hA,G⟩:=hq.slice;obtain⟨H,⟨i,z,hi,hz,a0,N,a4,a3⟩,E⟩:=I5 ht;obtain⟨news,U,B,V⟩:∃news,news.length=d.length*R.sz/\PT w (GG G0 bx rv S.rs) news (flat d)/\∀a,A=some a->∀j u,news[j]? =some u->w.cell? (a.add j)=some u:=by
  rcases RW d.length with L|L
  ·obtain rfl:d=[]:=QI L;exact⟨[],F,.nil,λa _ j u H=>by simp at H⟩
  obtain⟨b,off,news,rfl,_,_,hc,K⟩:=G L;refine⟨news,by rw[K.length,hs.flat],K,λad ha j u H=>?_⟩;rw[<-QS ha,Addr.add_mid];exact hc j u H
 have r:FT (en w G0 bx rv S.rs) news (flat d):=.of B;obtain⟨v',w',hr,Y,l,q,C⟩:=I4 (P:=prog) w 0 t o.type R.e i z R.sz m H hi hz a0 N a4 E (eX T x) R.es.length xs D A d.length c news U (λe=>⟨by have:=hA e;omega,hA e⟩) V (r.ones h1.all) (by simp only[maxLen];omega) (Qu (Tz h3 h4) I) (QF _) a3 (r.noDigs h2.all) W;refine OpRuns.of_ok (v:=v') (W':=w') ?_ (E1 (R':=⟨R.e,R.sz,R.es++d,false⟩) (xs:=xs++news) hm a2 Q p hd hv M l q (by simpa using Y) ?_ ⟨a1.1.append hs,λh=>by cases h⟩ C)
 ·simp only[execOp,X,resolve,invoke,builtin,Sem.run_bind,Sem.run_pure,Result.andThen_ok,R2,QM,Rq,e1,hr]
 have f:=rh (G0:=G0) (bx:=bx) (w:=w) (w':=w') (v':=v') (R':=⟨R.e,R.sz,R.es++d,false⟩) hv M l (λg J=>by
  rcases q with h|h
  ·exact .inl (h▸J)
  rw[h]at J;injection J with J;exact .inr O)
 rw[xm];exact(Z.mono l.size f).append (B.mono l.size f)
end
def ug(K:St->Prop)(Q:Exit->St->Prop):Exit->St->Prop
 | .normal,S=>K S
 |e,S=>Q e S
def xq(id:Nat)(Q:Exit->St->Prop):Exit->St->Prop
 | .exit id',S=>if id'=id then Q .normal S else Q (.exit id') S
 |e,S=>Q e S
section
variable {w0:World} {G0:Bse} {Q:Exit->St->Prop} {S:St}
def AWP.mono{c:Code}{b:Exit->St->Prop}(h:AWP w0 G0 c Q S)(g:∀e S,Q e S->b e S):AWP w0 G0 c b S:=λa w i=>wp_mono (h a w i) λe _ _ ⟨S',d,f⟩=>⟨S',g e S' d,f⟩
def ag(h:Q .normal S):AWP w0 G0 .skip Q S:=λ_ _ a=>wp_skip ⟨S,h,a⟩
def X:type_of% @ag:=@ag
def bh{id:Nat}(h:Q (.exit id) S):AWP w0 G0 (.exit id) Q S:=λ_ _ a=>wp_exit ⟨S,h,a⟩
def aO(h:Q .ret S):AWP w0 G0 .ret Q S:=λ_ _ a=>wp_ret ⟨S,h,a⟩
def ae{x y:Code}(h:AWP w0 G0 x (ug (AWP w0 G0 y Q) Q) S):AWP w0 G0 (.seq x y) Q S:=λa w f=>wp_seq (wp_mono (h a w f) λe d w' ⟨S',b,c⟩=>by
 cases e with
 |normal=>exact b d w' c
 |_=>exact⟨S',b,c⟩)
def Y:type_of% @ae:=@ae
def aF{c:Operand}{x y:Code}{b:Bool}(i:S.ev c=.sc (.bool b))(m:b=true->AWP w0 G0 x Q S)(l:b=false->AWP w0 G0 y Q S):AWP w0 G0 (.cond c x y) Q S:=λa w d=>by
 have k:a.eval c=.bool b:=by
  obtain⟨bx,rv,n,o,j,e⟩:=d;rw[ve];have:FT (en w G0 bx rv S.rs) [eX (λs=>a.tmps.getD s undef) c] [S.ev c]:=by
   cases c with
   |tmp s=>exact e s
   |const v=>exact .pure (.sc v .nil) .nil
   |global g=>exact .pure (.sc _ .nil) .nil
   |func f=>exact .pure (.sc _ .nil) .nil
  rw[i]at this;exact this.isSc
 exact wp_cond_split k (λh=>m h a w d) (λh=>l h a w d)
def aG{id:Nat}{c:Code}(h:AWP w0 G0 c (xq id Q) S):AWP w0 G0 (.block id c) Q S:=λa w f=>wp_block (wp_mono (h a w f) λe g w' ⟨S',b,d⟩=>by
 cases e with
 |exit id'=>
  simp only[xq]at b;simp only[Exit.inBlock];split at b
  ·rw[if_pos (by assumption)];exact⟨S',b,d⟩
  rw[if_neg (by assumption)];exact⟨S',b,d⟩
 |_=>exact⟨S',b,d⟩)
def ff(p:Nat->Prop):∀n,p n->∃m,p m/\∀k,k<m->¬p k:=λn=>by
 induction n using Nat.strongRecOn with
 |ind n ih=>
  intro c;by_cases h:∃k,k<n/\p k
  ·obtain⟨k,a,b⟩:=h;exact ih k a b
  exact⟨n,c,λk a b=>h ⟨k,a,b⟩⟩
open Classical in
def E3{c:Code}(I:Nat->St->Prop)(n0:Nat)(h0:I n0 S)(round:∀n S,I n S->AWP w0 G0 c (ug (λS'=>∃m,m<n/\I m S') Q) S):AWP w0 G0 (.loop c) Q S:=λa w hs=>by
 let p:Act->World->Nat->Prop:=λa w n=>∃S,I n S/\Sim w0 G0 S a w
 let μ:Act->World->Nat:=λa w=>if h:∃n,p a w n then Classical.choose (ff (p a w) _ (Classical.choose_spec h))else 0
 have hμ:∀a w n,p a w n->p a w (μ a w)/\μ a w<=n:=λa w n hn=>by
  have hex:∃n,p a w n:=⟨n,hn⟩
  have hsp:=Classical.choose_spec (ff (p a w) _ (Classical.choose_spec hex))
  have e:μ a w=Classical.choose (ff (p a w) _ (Classical.choose_spec hex)):=by simp only[μ];rw[dif_pos hex]
  rw[e]
  refine⟨hsp.1,?_⟩
  rcases Rm n (Classical.choose (ff (p a w) _ (Classical.choose_spec hex)))with hlt|hge
  ·exact absurd hn (hsp.2 n hlt)
  ·exact hge
 refine wp_loop (λa w=>∃n,p a w n) μ ⟨n0,S,h0,hs⟩ ?_
 rintro a w ⟨n,hn⟩
 obtain⟨⟨S',hI,hS⟩,_⟩:=hμ a w n hn
 refine wp_mono (round _ S' hI a w hS) ?_
 rintro e a' w' ⟨S'',h1,h2⟩
 cases e with
 |normal=>
  obtain⟨m,hm,hI'⟩:=h1
  have hp:p a' w' m:=⟨S'',hI',h2⟩
  exact⟨⟨m,hp⟩,RA (hμ a' w' m hp).2 hm⟩
 |_=>exact⟨S'',h1,h2⟩
def within0(m k:Nat):Tree->Bool
 | .box b _=>decide (b<m)
 | .own j| .elp j _=>decide (j<k)
 | .agg _| .tup _=>false
 |_=>true
def within(m k:Nat):Tree->Bool
 | .agg cs| .tup cs=>cs.all (within0 m k)
 |t=>within0 m k t
def FT.within0{E E':En}{m k:Nat}(i:E.W.heap.size<=E'.W.heap.size)(f:∀b,b<E.W.heap.size->¬E.G b->E'.W.heap[b]? =E.W.heap[b]? /\¬E'.G b)(e:∀b g,b<m->E.bx b=some g->E'.bx b=some g)(d:∀j v,j<k->E.rv j=some v->E'.rv j=some v){v:Value}{t:Tree}(h:FT E [v] [t])(a:Go.Proofs.YtmhcanmapkenbaaGreatDoor.within0 m k t=true):FT E' [v] [t]:=by
 cases h with
 |pure h _=>exact .pure (h.mono i f) .nil
 |any=>exact .any _ .nil
 |box b off g h _=>exact .box b off g (e b g (by simpa[Go.Proofs.YtmhcanmapkenbaaGreatDoor.within0]using a) h) .nil
 |own j n c A h _=>exact .own j n c A (d j _ (by simpa[Go.Proofs.YtmhcanmapkenbaaGreatDoor.within0]using a) h) .nil
 |elp j off g n c h _=>exact .elp j off g n c (d j _ (by simpa[Go.Proofs.YtmhcanmapkenbaaGreatDoor.within0]using a) h) .nil
 |agg=>simp[Go.Proofs.YtmhcanmapkenbaaGreatDoor.within0]at a
 |tup=>simp[Go.Proofs.YtmhcanmapkenbaaGreatDoor.within0]at a
def ju{E E':En}{m k:Nat}(e:E.W.heap.size<=E'.W.heap.size)(c:∀b,b<E.W.heap.size->¬E.G b->E'.W.heap[b]? =E.W.heap[b]? /\¬E'.G b)(a:∀b g,b<m->E.bx b=some g->E'.bx b=some g)(d:∀j v,j<k->E.rv j=some v->E'.rv j=some v):∀{us:List Value} {ts:List Tree},FT E us ts->ts.all (Go.Proofs.YtmhcanmapkenbaaGreatDoor.within0 m k)=true->FT E' us ts
 |[],[],_,_=>.nil
 |[],_::_,h,_=>by cases h
 |_::_,[],h,_=>by cases h
 |u::us,t::ts,h,hp=>by
  simp only[Rc,Qh]at hp;exact FT.cons (FT.within0 e c a d h.head hp.1) (ju e c a d h.tail hp.2)
def FT.within{E E':En}{m k:Nat}(e:E.W.heap.size<=E'.W.heap.size)(c:∀b,b<E.W.heap.size->¬E.G b->E'.W.heap[b]? =E.W.heap[b]? /\¬E'.G b)(a:∀b g,b<m->E.bx b=some g->E'.bx b=some g)(d:∀j v,j<k->E.rv j=some v->E'.rv j=some v){v:Value}{t:Tree}(h:FT E [v] [t])(f:Go.Proofs.YtmhcanmapkenbaaGreatDoor.within m k t=true):FT E' [v] [t]:=by
 cases t with
 |agg cs=>
  obtain⟨xs,rfl,i⟩:=h.isAgg;exact .agg xs _ (ju e c a d i f) .nil
 |tup cs=>
  obtain⟨xs,rfl,i⟩:=h.isTup;exact .tup xs _ (ju e c a d i f) .nil
 |_=>exact FT.within0 e c a d h f
inductive Keeps (S:St) (m k:Nat):List (Nat×Tree)->Prop
 |nil:Keeps S m k []
 |cons {i:Nat} {t:Tree} {l:List (Nat×Tree)} (h:S.get i=t) (hw:within m k t=true) (hs:Keeps S m k l):Keeps S m k ((i,t)::l)
def Keeps.get{m k:Nat}{l:List (Nat×Tree)}(h:Keeps S m k l)(i:Nat):look l i=.any\/(look l i=S.get i/\within m k (S.get i)=true):=by
 induction h with
 |nil=>exact .inl Z
 |cons h hw _ ih=>
  rw[cK];split
  ·next e=>subst e;exact .inr ⟨h.symm,by rw[h];exact hw⟩
  exact ih
def eU{α:Type}{l:List α}{m i:Nat}{x:α}(h:(l.take m)[i]? =some x):i<m/\l[i]? =some x:=by grind
def lr{α:Type}{l:List α}{m i:Nat}{x:α}(h:l[i]? =some x)(a:i<m):(l.take m)[i]? =some x:=by grind
def Sim.less{a:Act}{w:World}(h:Sim w0 G0 S a w)(m k:Nat)(l:List (Nat×Tree))(hl:Keeps S m k l)(q:((S.bs.take m).all λp=>p.2.all (within0 m k))=true)(G:G0.pn<=m:=by first|exact QF _|exact Nat.le_of_ble_eq_true Z):Sim w0 G0 ⟨S.n,l,S.bs.take m,S.rs.take k⟩ a w:=by
 obtain⟨bx,rv,d,L,B,H⟩:=h;have s:∀b,b∈bX (bx.take m) (rv.take k) (S.rs.take k)->b∈bX bx rv S.rs:=λb q=>by
  rcases aN.1 q with c|⟨j,u,X,c,e,f⟩
  ·exact aN.2 (.inl (Ra c))
  exact aN.2 (.inr ⟨j,u,X,(eU c).2,(eU e).2,f⟩)
 have D:∀b,b<w.heap.size->¬GG G0 bx rv S.rs b->w.heap[b]? =w.heap[b]? /\¬GG G0 (bx.take m) (rv.take k) (S.rs.take k) b:=λb _ K=>⟨Z,λh=>K (h.imp id (s b))⟩
 have r:∀b g,b<m->(en w G0 bx rv S.rs).bx b=some g->(en w G0 (bx.take m) (rv.take k) (S.rs.take k)).bx b=some g:=λb g A h=>lr (l:=bx) h A
 have t:∀j v,j<k->(en w G0 bx rv S.rs).rv j=some v->(en w G0 (bx.take m) (rv.take k) (S.rs.take k)).rv j=some v:=λj v J h=>by
  show dX (rv.take k) (S.rs.take k) j=some v
  have h:dX rv S.rs j=some v:=h;unfold dX at h⊢;rw[QQ,if_pos J,QQ,if_pos J];exact h
 refine⟨bx.take m,rv.take k,⟨d.below,d.env0,d.g0,by simp[d.nb],by simp[d.nr],λi g x=>?_,λj u X c e=>?_,⟨d.nodup.bb.sublist (Tj _ _),λj u X b c e f F=>d.nodup.br j u X b (eU c).2 (eU e).2 f (Ra F),λi j u v X Y b C c e f o=>d.nodup.rr i j u v X Y b C (eU c).2 (eU e).2 (eU f).2 (eU o).2⟩,λb q=>d.ge b (s b q),λi x=>lr (d.pin i x) (QE x G)⟩,L,B,λi=>?_⟩
 ·obtain⟨c,e⟩:=eU x;obtain⟨ty,cs,us,f,o,y,z⟩:=d.box i g e;have I:=lr f c;exact⟨ty,cs,us,I,o,ju (E:=en w G0 bx rv S.rs) (E':=en w G0 (bx.take m) (rv.take k) (S.rs.take k)) (m:=m) (k:=k) (Qi _) D r t y (Qt.1 q _ (Qo I)),z⟩
 ·obtain⟨xs,f,o,y,z⟩:=d.row j u X (eU c).2 (eU e).2;exact⟨xs,f,o.mono (Qi _) D,y,z⟩
 show FT _ _ [look l i]
 rcases hl.get i with c|⟨c,e⟩
 ·rw[c];exact .any _ .nil
 rw[c];exact FT.within (E:=en w G0 bx rv S.rs) (E':=en w G0 (bx.take m) (rv.take k) (S.rs.take k)) (m:=m) (k:=k) (Qi _) D r t (H i) e
def I6(S:St):ResultVar->Tree->Prop
 | .tmp t,x=>S.get t=x
 | .cell a ty,x=>∃b off bt cs,S.get a=.box b off/\S.bs[b]? =some (bt,cs)/\((∃n,nT prog ty=some n/\Nat.ble (off+n) cs.length=true/\x=.agg ((cs.drop off).take n))\/(eN prog ty=true/\cs[off]? =some x))
inductive ResL (S:St):List ResultVar->List Tree->Prop
 |nil:ResL S [] []
 |cons {x:ResultVar} {t:Tree} {xs:List ResultVar} {ts:List Tree} (h:I6 S x t) (hs:ResL S xs ts):ResL S (x::xs) (t::ts)
def kx:List Tree->Tree
 |[t]=>t
 |ts=>.tup ts
def I7(rvs:List ResultVar)(r:Tree)(e:Exit)(S:St):Prop:=(e=.normal\/e=.ret)/\∃ts,ResL S rvs ts/\kx ts=r/\r.plain=true
def zF{a:Act}{w:World}{bx:List Nat}{rv:List Value}(H:Mem w0 G0 S.bs S.rs bx rv w)(l:∀i,FT (en w G0 bx rv S.rs) [a.tmps.getD i undef] [S.get i]){x:ResultVar}{t:Tree}(h:I6 S x t):
  ∃v,((match x with| .tmp t=>pure (a.tmps.getD t undef)| .cell b t=>do loadVar t (<-asAddr (a.tmps.getD b undef)):Sem Value)).run prog w=.ok v w/\FT (en w G0 bx rv S.rs) [v] [t]:=by
 cases x with
 |tmp s=>
  have h:S.get s=t:=h;exact⟨_,Z,h▸l s⟩
 |cell s ty=>
  obtain⟨b,off,J,cs,C,D,E⟩:=h;have B:=l s;rw[C]at B;obtain⟨g,us,_,A,e,q,_⟩:=mX H D B;rcases E with⟨n,o,f,rfl⟩|⟨k,F⟩
  ·obtain⟨d,y,hd,G⟩:=vf o;have f:off+n<=cs.length:=by simpa using f
   have hl:((us.drop off).take n).length=n:=by have:=q.length;rw[QN,QZ];omega
   have I:=run_loadVar_mid (P:=prog) w g off ty ((us.drop off).take n) d (λj v m=>by
    rw[e.cell,Ry];rw[QQ]at m;split at m
    ·rw[Q9]at m;exact m
    cases m) y hd (by rw[hl];exact G)
   refine⟨.agg ((us.drop off).take n).toArray,?_,.agg _ _ ((q.drop off).take n) .nil⟩;simp only[A,asAddr,Sem.run_bind,Sem.run_pure,Result.andThen_ok,I]
  obtain⟨u,y,r⟩:=q.get off t F;obtain⟨d,z,hd⟩:=vg k;have c:(isAgg ty).run prog w=.ok false w:=by
   unfold isAgg;rw[Sem.run_bind,run_underlying z w];cases d<;>simp_all
  have p:w.cell? ⟨g,off,none⟩=some u:=by rw[e.cell,Ry];exact y
  refine⟨u,?_,r⟩;simp only[A,asAddr,Sem.run_bind,Sem.run_pure,Result.andThen_ok];simp[loadVar,c,p]
def jv{a:Act}{w:World}{bx:List Nat}{rv:List Value}(d:Mem w0 G0 S.bs S.rs bx rv w)(c:∀i,FT (en w G0 bx rv S.rs) [a.tmps.getD i undef] [S.get i]):∀{xs:List ResultVar} {ts:List Tree},ResL S xs ts->
  ∃vs,(xs.mapM (m:=Sem) λ| .tmp t=>pure (a.tmps.getD t undef)| .cell b t=>do loadVar t (<-asAddr (a.tmps.getD b undef))).run prog w=.ok vs w/\FT (en w G0 bx rv S.rs) vs ts
 |[],[],_=>⟨[],Z,.nil⟩
 |x::xs,t::ts,.cons h hs=>by
  obtain⟨v,e,f⟩:=zF d c h;obtain⟨vs,g,j⟩:=jv d c hs;refine⟨v::vs,?_,FT.cons f j⟩;rw[SM,Sem.run_bind,e,Result.andThen_ok,Sem.run_bind,g,Result.andThen_ok];rfl
def jL:Nat->List Tree->List (Nat×Tree)
 |_,[]=>[]
 |k,t::ts=>(k,t)::jL (k+1) ts
def pf:∀(ts:List Tree) (k i:Nat),look (jL k ts) i=if k<=i then(ts[i-k]?).getD .any else .any
 |[],k,i=>by simp[jL,look]
 |t::ts,k,i=>by
  simp only[jL,cK,pf ts (k+1) i];by_cases h:k=i
  ·subst h;simp
  rw[if_neg h];by_cases a:k<=i
  ·rw[if_pos O,if_pos a,show i-k=(i-(k+1))+1 by omega,Tt]
  rw[if_neg O,if_neg a]
def BC{w:World}{G:Nat->Prop}(e:Env w)(d:∀g,G g->g<w.heap.size/\NoDigB w g):Mem w (pln G) [] [] [] [] w:=
 ⟨Kept.refl _ _,.pln e,λg h=>⟨(d g h).1,(d g h).2,id⟩,Z,Z,λi g c=>by simp at c,λk v R a=>by simp at a,⟨List.nodup_nil,λk v R b a=>by simp at a,λj k u v X R b _ a=>by simp at a⟩,λb f=>by simp[bX]at f,λi c=>absurd c (RZ i)⟩
def Ct.of{f:FuncId}{d:Func}{c:Code}{args:List Tree}{r:Tree}{n:Nat}{k:List ResultVar}(A:prog.funcs[f]? =some d)(z:d.body=some c)(o:(d.name== "runtime.NumGoroutine")=false)(P:d.ntmps=n)(hl:Nat.ble args.length n=true)(N:d.results.toList=k)
  (h:∀w0 G0,AWP w0 (pln G0) c (I7 k r) ⟨n,jL 0 args,[],[]⟩):Ct f args r:=by
 refine⟨⟨d,A,o,by rw[z];rfl⟩,λG w vs J K D=>?_⟩;have B:=D.length;have hl:args.length<=n:=by simpa using hl
 refine calls_of_wp A z (wp_mono (h w G _ w ⟨[],[],BC J K,?_,Z,λi=>?_⟩) ?_)
 ·simp;omega
 ·show FT _ _ [look (jL 0 args) i]
  rw[pf,if_pos (QF _),Nat.sub_zero];cases O:args[i]? with
  |none=>exact .any _ .nil
  |some t=>
   obtain⟨u,E,y⟩:=D.get i t O;have M:=(Qm.1 E).1;have H:(vs.toArray++Array.replicate (d.ntmps-vs.toArray.size) undef).getD i undef=u:=by
    rw[QG,SC (by simpa using M),Ry,E];rfl
   rw[H];refine .pure (y.mono (Qi _) λb _ g=>⟨Z,λh=>?_⟩) .nil;rcases h with h|h
   ·exact g h
   simp[bX]at h
 rintro e a w' ⟨S',⟨L,ts,q,rfl,p⟩,bx,rv,C,_,l,s⟩;obtain⟨us,j,m⟩:=jv C s (N▸q);have key:a.defers=[]/\∃v,(results d a.tmps).run prog w'=.ok v w'/\(λe w'=>∃v,e=Ending.returned v/\PT w' G [v] [kx ts]/\Below w.heap.size w w') (.returned v) w':=by
  refine⟨l,if h:us.toArray.size=1 then us.toArray[0]else .tuple us.toArray,?_,_,Z,?_,C.below.below⟩
  ·unfold results;rw[Sem.run_bind,RD,Sem.run_map];exact congrArg (λx:Result (List Value)=>(x.andThen λa w'=>Result.ok a.toArray w').andThen λa w'=>Sem.run prog (pure (if h:a.size=1 then a[0]else Value.tuple a)) w') j
  have I:FT (en w' (pln G) bx rv S'.rs) [if h:us.toArray.size=1 then us.toArray[0]else .tuple us.toArray] [kx ts]:=by
   match us,ts,m with
   |[],[],_=>exact .tup [] [] .nil .nil
   |[u],[t],h=>exact h
   |u::u'::us,t::t'::ts,h=>
    rw[dif_neg F];exact .tup _ _ h .nil
  exact(I.plain p).mono (Qi _) λb _ g=>⟨Z,λh=>g (.inl h)⟩
 rcases L with rfl|rfl
 ·exact key
 exact key
end
