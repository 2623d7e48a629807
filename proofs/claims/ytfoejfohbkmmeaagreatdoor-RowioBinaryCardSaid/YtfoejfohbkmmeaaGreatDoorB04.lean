import Derived.Test.YtfoejfohbkmmeaaGreatDoorB03
import Derived.Test.YtfoejfohbkmmeaaGreatDoorB00
namespace Go.Proofs.YtfoejfohbkmmeaaGreatDoor
open Go.RowKit
open Lib renaming hid→J
section
variable {w0:World} {G0:Bse} {S:St} {o:Oper}
theorem sN{ty:TypeId}{f:List Value}(l:o.op=.alloc ty)(m:cC S.n o.dst=true)(b:gJ Tryz.prog ty=some f)(p:f.all bG=true):lL w0 G0 o S ({S with bs:=S.bs++[(ty,f.map dN)]}.put o.dst (.box S.bs.length 0)):=by
 rintro a w ⟨bx,rv,j,c,h,d⟩;unfold gJ at b;simp only[QJ,Ps]at b;obtain⟨i,k,z,b,rfl⟩:=b;have g:=j.addBox (ty:=ty) (us:=z.cells.toList) (cs:=z.cells.toList.map dN) (.of (oX _ _ _)) p;refine aB (v:=.pointer (some ⟨w.heap.size,0,none⟩)) (W':=w.alloc (.cells z.cells ty)) ?_ ⟨bx++[w.heap.size],rv,?_,by rw[dW,ee,c],by rw[cU,h],?_⟩
 ·have e:(zeroValue ty).run Tryz.prog w=.ok z w:=by simp[zeroValue,typeInfo,k,b]
  simp[execOp,l,Instr.alloc,newVar,newRow,newObj,Sem.run,e]
 ·rw[dE,bZ];simpa using g
 rw[bZ];intro i;rw[gf a o.dst _ S.n c m,cV];split
 ·exact .box _ _ _ (by show(bx++[w.heap.size])[S.bs.length]? =_;rw[<-j.nb];simp) .nil
 exact kW _ (d i)
theorem n5{P:Program}{w:World}{g off:Nat}{ty t:TypeId}{cur:List Value}{v:Value}(f:w.heap[g]? =some (.cells cur.toArray t (0,0)))(d:(P.info? ty).map (·.size)=some v.cells.size)(b:off+v.cells.size<=cur.length)(h:∀u∈v.cells.toList,u.oneCell'=true):
  (Instr.storeAt ty (.pointer (some ⟨g,off,none⟩)) v).run P w=.ok () (w.setRow g (cur.take off++v.cells.toList++cur.drop (off+v.cells.size)).toArray):=by
 have a:=run_storeCells_at P g off t v.cells.toList 0 cur.toArray w f (by simpa using b) h;simp only[PI,Po]at a;cases c:P.info? ty with
 |none=>simp[c]at d
 |some i=>
  have e:v.cells.size=i.size:=by simp[c]at d;omega
  simp[Instr.storeAt,Instr.sureAddr,storeVar,sizeOf,typeInfo,c,e]at a⊢;rw[<-e]at a⊢;exact a
theorem o4(w:World)(g:Nat)(cs:Array Value):w.grownBy (w.setRow g cs) (some g):=⟨Z,Z,Z,by simp[World.setRow],fun k _ a=>setRow_other w g k cs (fun e=>a (by rw[e]))⟩
def Ga(cs:List Tree)(off:Nat)(t:Tree):List Tree:=cs.take off++t.cells++cs.drop (off+t.cells.length)
theorem o5{us vs:List Value}{off n:Nat}(h:us.all bG=true)(b:vs.all bG=true):(us.take off++vs++us.drop n).all bG=true:=by
 simp only[Qd,Oo];exact⟨⟨OD.2 fun x a=>OD.1 h x (OV a),b⟩,OD.2 fun x a=>OD.1 h x (Pq a)⟩
theorem lM{ty j:TypeId}{x y:Operand}{b off:Nat}{cs:List Tree}{t:Tree}{n:Nat}(u:o.op=.store ty x y)(h:o.dst=none)(G:S.ev x=.box b off)(K:S.bs[b]? =some (j,cs))(H:S.ev y=t)(N:t.oneA=true)(M:t.cells.all Tree.one=true)(J:t.cells.all Tree.noDig=true)(O:(Tryz.prog.info? ty).map (·.size)=some n)(C:t.cells.length=n)(q:off+n<=cs.length):lL w0 G0 o S {S with bs:=S.bs.set b (j,Ga cs off t)}:=by
 rintro a w ⟨bx,rv,E,r,B,d⟩;have D:=bH (op:=o.op) (T:=fun s=>a.tmps.getD s undef) (S:=S) (fun s _=>d s) H (by rw[u];simp[Op.operands]);have F:=bH (op:=o.op) (T:=fun s=>a.tmps.getD s undef) (S:=S) (fun s _=>d s) G (by rw[u];simp[Op.operands]);generalize (fun s=>a.tmps.getD s undef)=T at D F⊢;obtain⟨g,us,l,I,m,z,L⟩:=mV E K F;have p:=oW D N;have c:=p.length;rw[Po]at c;have A:=z.length;have k:=n5 (P:=Tryz.prog) (w:=w) (g:=g) (off:=off) (ty:=ty) (t:=j) (cur:=us) (v:=dm T y) m (by rw[O,c,C]) (by rw[c,C,A];exact q) (p.ones M);have f:g∈cl bx rv S.rs:=aY.2 (.inl (Om l));have e:=o4 w g (us.take off++(dm T y).cells.toList++us.drop (off+(dm T y).cells.size)).toArray;refine gd (W':=w.setRow g (us.take off++(dm T y).cells.toList++us.drop (off+(dm T y).cells.size)).toArray) (by simp only[execOp,u,I,Sem.run_bind,k,Result.andThen_ok];rfl) ⟨bx,rv,?_,by rw[dW];exact r,by rw[cU,B],?_⟩
 ·refine E.setBox (ty:=j) l e (setRow_heap w g us.toArray _ j (0,0) m) ?_ (o5 L (p.noDigs J));unfold Ga;rw[<-c];exact oZ f e (((z.take off).append p).append (z.drop _))
 intro i;rw[h];exact oZ f e (d i)
def ir(k:Nat):Tree->Tree
 | .own j=>if j=k then .any else .own j
 | .elp j off=>if j=k then .any else .elp j off
 | .agg _=>.any
 | .tup _=>.any
 |t=>t
def fi(k:Nat):Tree->Tree
 | .agg cs=>.agg (cs.map (ir k))
 |t=>ir k t
theorem FT.kill0{E E':En}{k:Nat}{v:Value}{t:Tree}(h:FT E [v] [t])(e:E.W.heap.size<=E'.W.heap.size)(d:∀b,b<E.W.heap.size->¬E.G b->E'.W.heap[b]? =E.W.heap[b]? /\¬E'.G b)(f:∀b g,E.bx b=some g->E'.bx b=some g)(a:∀j v,j≠k->E.rv j=some v->E'.rv j=some v):FT E' [v] [ir k t]:=by
 cases h with
 |pure h _=>
  cases t<;>first
   |exact .pure (h.mono e d) .nil
   |(simp only[ir];exact .any _ .nil)
   |(cases h)
 |any=>exact .any _ .nil
 |box b off g h _=>exact .box b off g (f b g h) .nil
 |own j n c A hv _=>
  simp only[ir];split
  ·exact .any _ .nil
  exact .own j n c A (a j _ (by assumption) hv) .nil
 |elp j off g n c hv _=>
  simp only[ir];split
  ·exact .any _ .nil
  exact .elp j off g n c (a j _ (by assumption) hv) .nil
 |agg=>exact .any _ .nil
 |tup=>exact .any _ .nil
theorem qF{E E':En}{k:Nat}(d:E.W.heap.size<=E'.W.heap.size)(a:∀b,b<E.W.heap.size->¬E.G b->E'.W.heap[b]? =E.W.heap[b]? /\¬E'.G b)(e:∀b g,E.bx b=some g->E'.bx b=some g)(c:∀j v,j≠k->E.rv j=some v->E'.rv j=some v):∀{us:List Value} {ts:List Tree},FT E us ts->FT E' us (ts.map (ir k))
 |[],[],_=>.nil
 |[],_::_,h=>by cases h
 |_::_,[],h=>by cases h
 |u::us,t::ts,h=>FT.cons (h.head.kill0 d a e c) (qF d a e c h.tail)
theorem FT.kill{E E':En}{k:Nat}{v:Value}{t:Tree}(h:FT E [v] [t])(e:E.W.heap.size<=E'.W.heap.size)(c:∀b,b<E.W.heap.size->¬E.G b->E'.W.heap[b]? =E.W.heap[b]? /\¬E'.G b)(a:∀b g,E.bx b=some g->E'.bx b=some g)(d:∀j v,j≠k->E.rv j=some v->E'.rv j=some v):FT E' [v] [fi k t]:=by
 cases t with
 |agg cs=>
  obtain⟨xs,rfl,f⟩:=h.isAgg;exact .agg xs _ (qF e c a d f) .nil
 |_=>exact h.kill0 e c a d
def St.kill(S:St)(k:Nat):St:={S with sl:=S.sl.map fun p=>(p.1,fi k p.2),bs:=S.bs.map fun p=>(p.1,p.2.map (ir k))}
theorem jO(f:Tree->Tree)(a:f .any=.any):∀(l:List (Nat×Tree)) (i:Nat),look (l.map fun p=>(p.1,f p.2)) i=f (look l i)
 |[],i=>a.symm
 |(j,t)::l,i=>by
  simp only[Pt,dD];split
  ·rfl
  exact jO f a l i
theorem mW(S:St)(k i:Nat):(S.kill k).get i=fi k (S.get i):=jO (fi k) Z S.sl i
section
variable {w w':World} {bs:List (TypeId×List Tree)} {rs:List (Option Row)} {bx:List Nat} {rv:List Value} {k:Nat} {v v':Value} {R R':Row}
theorem lN(f:k<rv.length)(j:Nat)(u:Value)(X:Row):(rv.set k v')[j]? =some u->(rs.set k (some R'))[j]? =some (some X)->(j=k/\u=v'/\X=R')\/(j≠k/\rv[j]? =some u/\rs[j]? =some (some X)):=fun b a=>by
 by_cases c:j=k
 ·subst c;left;have d:=(Ok.1 a).1;rw[O4]at d;rw[PA f]at b;rw[PA d]at a;cases b;cases a;exact⟨Z,Z,Z⟩
 right;rw[Pp (fun e=>c e.symm)]at b a;exact⟨c,b,a⟩
theorem LA(e:rv[k]? =some v)(l:rs[k]? =some (some R))(c:∀g,v'.ownBlock=some g->v.ownBlock=some g\/w.heap.size<=g){b:Nat}(o:b<w.heap.size)(h:GG G0 bx (rv.set k v') (rs.set k (some R')) b):GG G0 bx rv rs b:=by
 rcases h with h|h
 ·exact .inl h
 refine .inr (aY.2 ?_);rcases aY.1 h with a|⟨j,u,X,a,n,d⟩
 ·exact .inl a
 rcases lN (Ok.1 e).1 j u X a n with⟨rfl,rfl,rfl⟩|⟨_,i,m⟩
 ·rcases c b d with f|f
  ·exact .inr ⟨j,v,R,e,l,f⟩
  omega
 exact .inr ⟨j,u,X,i,m,d⟩
theorem o6(f:rv[k]? =some v)(i:rs[k]? =some (some R))(j:w.grownBy w' v.ownBlock)(a:∀g,v'.ownBlock=some g->v.ownBlock=some g\/w.heap.size<=g):∀b,b<w.heap.size->¬GG G0 bx rv rs b->w'.heap[b]? =w.heap[b]? /\¬GG G0 bx (rv.set k v') (rs.set k (some R')) b:=fun b d c=>
 ⟨j.block b d fun e=>c (.inr (aY.2 (.inr ⟨k,v,R,f,i,e.symm⟩))),fun h=>c (LA f i a d h)⟩
theorem Gb(j:Nat)(u:Value)(a:j≠k)(h:fN rv rs j=some u):fN (rv.set k v') (rs.set k (some R')) j=some u:=by
 unfold fN at h⊢;rw[Pp (fun e=>a e.symm),Pp (fun e=>a e.symm)];exact h
theorem Mem.setRowV(h:Mem w0 G0 bs rs bx rv w){xs:List Value}(s:rv[k]? =some v)(x:rs[k]? =some (some R))(y:w.grownBy w' v.ownBlock)(o:∀g,v'.ownBlock=some g->v.ownBlock=some g\/w.heap.size<=g)(S:w'.ownsRow 0 R'.e R'.sz v' R'.es.length xs)(O:PT w' (GG G0 bx (rv.set k v') (rs.set k (some R'))) xs (flat R'.es))(I:Sized R'.sz R'.es/\(R'.tt=true->ot v'))(V:∀g,v'.ownBlock=some g->NoDigB w' g):
  Mem w0 G0 (bs.map fun p=>(p.1,p.2.map (ir k))) (rs.set k (some R')) bx (rv.set k v') w':=by
 have d:=(Ok.1 s).1;have f:=o6 (R':=R') (G0:=G0) (bx:=bx) s x y o;have L:∀b,v.ownBlock=some b->w0.heap.size<=b\/G0.X b:=fun b B=>h.ge b (aY.2 (.inr ⟨k,v,R,s,x,B⟩))
 have A:∀b,b∈cl bx (rv.set k v') (rs.set k (some R'))->b∈cl bx rv rs\/(v'.ownBlock=some b/\w.heap.size<=b):=fun b B=>by
  rcases aY.1 B with c|⟨j,u,X,c,q,n⟩
  ·exact .inl (aY.2 (.inl c))
  rcases lN d j u X c q with⟨rfl,rfl,rfl⟩|⟨_,l,m⟩
  ·rcases o b n with a|a
   ·exact .inl (aY.2 (.inr ⟨j,v,R,s,x,a⟩))
   exact .inr ⟨n,a⟩
  exact .inl (aY.2 (.inr ⟨j,u,X,l,m,n⟩))
 refine⟨h.below.grown y (fun b e=>L b e),h.env0,h.g0,by simp[h.nb],by simp[h.nr],fun i g H=>?_,fun j u X c q=>?_,?_,fun b B=>?_,h.pin⟩
 ·obtain⟨ty,cs,us,c,q,n,l⟩:=h.box i g H;refine⟨ty,cs.map (ir k),us,by rw[O2,c];rfl,(y.block g q.lt fun e=>?_).trans q,qF (E:=en w G0 bx rv rs) (E':=en w' G0 bx (rv.set k v') (rs.set k (some R'))) y.size f (fun _ _ h=>h) (fun j u D W=>Gb j u D W) n,l⟩;exact h.nodup.br k v R g s x e.symm (Om H)
 ·rcases lN d j u X c q with⟨rfl,rfl,rfl⟩|⟨D,l,m⟩
  ·exact⟨xs,S,O,I,V⟩
  obtain⟨ys,a,z,h8,P⟩:=h.row j u X l m;have C:∀b,u.ownBlock=some b->v.ownBlock≠some b:=fun b Q T=>h.nodup.rr j k u v X R b D l m s x Q T
  refine⟨ys,a.kept y ?_,z.mono y.size f,h8,fun g K=>(P g K).of (y.block g (a.lt g K).2 fun e=>C g K e.symm)⟩;cases U:u.ownBlock with
  |none=>exact .inl Z
  |some b=>exact .inr fun e=>C b U e.symm
 ·refine⟨h.nodup.bb,fun j u X b c q n N=>?_,fun i j u t X Y b r c q n l m a=>?_⟩
  ·rcases lN d j u X c q with⟨rfl,rfl,rfl⟩|⟨_,l,m⟩
   ·rcases o b n with a|a
    ·exact h.nodup.br j v R b s x a N
    have:=(h.ok b (.inr (aY.2 (.inl N)))).1;omega
   exact h.nodup.br j u X b l m n N
  rcases lN d i u X c q with⟨rfl,rfl,rfl⟩|⟨H,J,M⟩
  ·rcases lN d j t Y n l with⟨rfl,_,_⟩|⟨D,F,G⟩
   ·exact r Z
   rcases o b m with z|z
   ·exact h.nodup.rr i j v t R Y b r s x F G z a
   have:=(h.ok b (.inr (aY.2 (.inr ⟨j,t,Y,F,G,a⟩)))).1;omega
  rcases lN d j t Y n l with⟨rfl,rfl,rfl⟩|⟨D,F,G⟩
  ·rcases o b a with z|z
   ·exact h.nodup.rr i j u v X R b r J M s x m z
   have:=(h.ok b (.inr (aY.2 (.inr ⟨i,u,X,J,M,m⟩)))).1;omega
  exact h.nodup.rr i j u t X Y b r J M F G m a
 rcases A b B with c|⟨_,c⟩
 ·exact h.ge b c
 have:=h.below.size;exact .inl (by omega)
end
end
theorem cD{w:World}{g:Nat}{c:Array Value}{e:TypeId}{fr:Nat×Nat}(h:w.heap[g]? =some (.cells c e fr))(b:c.toList.all bG=true):NoDigB w g:=fun i u a=>by
 simp only[World.cell?,h,SG,QB,if_false]at a;exact OD.1 b u (Om (by simpa using a))
theorem nw{w:World}{g:Nat}{c:Array Value}{e:TypeId}(h:w.heap[g]? =some (.cells c e (0,0)))(d:NoDigB w g):c.toList.all bG=true:=OD.2 fun u a=>by
 obtain⟨i,b,rfl⟩:=Pv a;refine d i _ ?_;simp only[World.cell?,h,SG,QB,if_false];rw[<-PJ];exact Og b
theorem iL{z:Value}(b:z.cells.toList.all bG=true)(n:Nat):(Builtin.zeroCells z.cells n).toList.all bG=true:=OD.2 fun u a=>by
 simp only[Builtin.zeroCells,R9,PX]at a;obtain⟨i,d,rfl⟩:=a;rw[Si,O7];cases c:z.cells[i%z.cells.size]? with
 |none=>rfl
 |some x=>exact OD.1 b x (by have:=Ss c;simpa using this)
theorem lO{l:List Value}(h:l.all bG=true)(n:Nat):(l.take n).all bG=true:=OD.2 fun x a=>OD.1 h x (OV a)
theorem lP{P:Program}(w:World)(base:Nat)(t ty e:TypeId)(i:TypeInfo)(z:Value)(size k:Nat)(F:P.underlying t=some (.slice e))(D:P.info? e=some i)(S:i.zero=some z)
  (o:i.size=size) (K:i.bytes=k) (U:z.cells.size=size) (R:0<size) (v:Value) (n:Nat) (xs:List Value) (b:w.ownsRow base e size v n xs) (A:Option Addr) (m c:Nat) (news:List Value) (C:news.length=m*size) (I:A=none->m=0/\c=0) (d:∀a,A=some a->∀j u,news[j]? =some u->w.cell? (a.add j)=some u) (W:∀u∈news,u.oneCell'=true)
  (G:n+m<=maxLen) (f:(n+m)*k<=140737488355328) (p:base<=w.heap.size) (L:z.cells.toList.all bG=true) (y:news.all bG=true) (V:∀g,v.ownBlock=some g->NoDigB w g):
  ∃v' w',(Builtin.append_ #[t,t] ty #[v,.slice A m c]).run P w=.ok v' w'/\w'.ownsRow base e size v' (n+m) (xs++news)/\w.grownBy w' v.ownBlock/\(v'.ownBlock=v.ownBlock\/v'.ownBlock=some w.heap.size)/\∀g,v'.ownBlock=some g->NoDigB w' g:=by
 cases A with
 |none=>
  obtain⟨rfl,rfl⟩:=I rfl;have X:news=[]:=OB (by simpa using C);subst X;have N:=run_append_owned_none (P:=P) (w:=w) base t ty e i size F D v n xs b;exact⟨v,w,N,by simpa using b,⟨Z,Z,Z,Oh _,fun _ _ _=>rfl⟩,.inl Z,V⟩
 |some a=>
  obtain⟨v',w',Q,h2,h3,h4,h5⟩:=run_append_own_at (P:=P) w base t ty e i z size k F D S o K U R v n xs b a m c news C (d a rfl) W G f p;refine⟨v',w',Q,h2,h3,h5,?_⟩;subst o;subst K;have O:n+m<=9223372036854775807:=by simp only[maxLen]at G;omega
  rcases b.2 with⟨rfl,rfl⟩|⟨g,B,cur,rfl,a1,r,a2,a0,T,q⟩
  ·by_cases hm:m=0
   ·rw[h4.2 ⟨Z,hm⟩];intro g r;cases r
   have h:=run_append_nil (P:=P) w t ty e i z F D S a m c news C (d a Z) (by omega) (by omega) (by have Y:=f;simp only[Pk]at Y;omega);rw[Q]at h;injection h with H J
   subst H J;intro g r;cases r;exact cD (heap_alloc_new w.drew _) (by simp only[PK,Qd,Oo];exact⟨y,iL L _⟩)
  have M:=nw r (V g Z);by_cases l:n+m<=B
  ·have E:n*i.size+news.length<=cur.size:=by rw[C,T,<-Pf];exact OT _ l
   have h:=run_append_room (P:=P) w t ty e i F D g n B cur r a m c news C (d a Z) W l E;rw[Q]at h;injection h with H J
   subst H J;intro g' x;cases x;exact cD (setRow_heap w g cur _ e _ r) (o5 M y)
  have s:∀j u,xs[j]? =some u->w.cell? ((⟨g,0,none⟩:Addr).add j)=some u:=b.cells (g:=g) Z;have h:=run_append_grow (P:=P) w t ty e i z F D S ⟨g,0,none⟩ n B xs b.1 s a m c news C (d a Z) (by omega) (by omega) (growslice_fits (by omega) f);rw[Q]at h;injection h with H J
  subst H J;intro g' x;cases x;refine cD (heap_alloc_new w.drew _) ?_;simp only[PK,Qd,Oo];exact⟨⟨by rw[<-q];exact lO M _,y⟩,iL L _⟩
theorem Gc{P:Program}(w:World)(base:Nat)(t u ty e:TypeId)(i:TypeInfo)(F:P.underlying t=some (.slice e))(G:P.underlying u=some .string)(E:P.info? e=some i)(K:i.zero=some (.int .u8 0))(b:i.size=1)(r:i.bytes=1)
  (v:Value) (n:Nat) (xs:List Value) (d:w.ownsRow base e 1 v n xs) (s:ByteArray) (O:n+s.size<=140737488355328) (k:base<=w.heap.size) (Q:∀g,v.ownBlock=some g->NoDigB w g):
  ∃v' w',(Builtin.append_ #[t,u] ty #[v,.string s]).run P w=.ok v' w'/\w'.ownsRow base e 1 v' (n+s.size) (xs++bL s.data.toList)/\w.grownBy w' v.ownBlock/\(v'.ownBlock=v.ownBlock\/v'.ownBlock=some w.heap.size)/\∀g,v'.ownBlock=some g->NoDigB w' g:=by
 have C:(Value.int .u8 0).cells.toList.all bG=true:=rfl;have f:Lib.strCells s=bL s.data.toList:=by simp[Lib.strCells,bL]
 have h:(Lib.strCells s).all bG=true:=OD.2 fun x J=>by
  rw[f]at J;simp only[bL,PX]at J;obtain⟨c,_,rfl⟩:=J;rfl
 obtain⟨v',w',y,H,I,M⟩:=Lib.run_append_own_string (P:=P) w base t u ty e i F G E K b r v n xs d s (by simp only[maxLen];omega) (by omega) k;rcases d.2 with⟨rfl,rfl⟩|⟨g,z,cur,rfl,S,o,T,R,L,m⟩
 ·by_cases N:s.size=0
  ·refine⟨v',w',y,by rw[<-f];exact H,I,?_,?_⟩
   ·rw[M.2 ⟨Z,N⟩];exact .inl Z
   rw[M.2 ⟨Z,N⟩];intro g o;cases o
  have a:=run_append_nil_string (P:=P) w t u ty e i (.int .u8 0) F G E K s (by omega) (by omega) (by rw[r];omega);refine⟨v',w',y,by rw[<-f];exact H,I,?_⟩;rw[y]at a;injection a with A B
  subst A B;refine⟨.inr Z,fun g o=>?_⟩;cases o;refine cD (heap_alloc_new w.drew _) ?_;simp only[PK,Qd,Oo,R9];exact⟨by rw[f]at h;exact h,iL C _⟩
 have D:=nw o (Q g Z);by_cases l:n+s.size<=z
 ·have a:=Lib.run_append_room_string (P:=P) w t u ty e i F G E b g n z cur o s l (by rw[L];omega);refine⟨v',w',y,by rw[<-f];exact H,I,?_⟩;rw[y]at a;injection a with A B
  subst A B;refine⟨.inl Z,fun g q=>?_⟩;cases q;exact cD (setRow_heap w _ cur _ e _ o) (o5 D h)
 have p:∀j u,xs[j]? =some u->w.cell? ((⟨g,0,none⟩:Addr).add j)=some u:=World.ownsRow.cells d (g:=g) Z;have a:=Lib.run_append_grow_string (P:=P) w t u ty e i (.int .u8 0) F G E K ⟨g,0,none⟩ n z xs (by rw[b];exact d.1) p s (by omega) (by omega) (by rw[r];exact growslice_fits (by omega) (by omega));refine⟨v',w',y,by rw[<-f];exact H,I,?_⟩;rw[y]at a;injection a with A B
 subst A B;refine⟨.inr Z,fun g q=>?_⟩;cases q;refine cD (heap_alloc_new w.drew _) ?_;simp only[PK,Qd,Oo];exact⟨⟨by rw[<-m];exact lO D _,h⟩,iL C _⟩
structure AppT (P:Program) (t e:TypeId) (sz by_:Nat):Prop where
 u:P.underlying t=some (.slice e)
 i:∃i z,P.info? e=some i/\i.zero=some z/\i.size=sz/\i.bytes=by_/\z.cells.size=sz/\z.cells.toList.all bG=true
 pos:0<sz
def jP(P:Program)(t:TypeId):Option (TypeId×Nat×Nat):=
 match P.underlying t with
 |some (.slice e)=>(P.info? e).bind fun i=>i.zero.bind fun z=>if z.cells.size=i.size/\z.cells.toList.all bG=true/\0<i.size then some (e,i.size,i.bytes)else none
 |_=>none
theorem o7{P:Program}{t e:TypeId}{sz a:Nat}(h:jP P t=some (e,sz,a)):AppT P t e sz a:=by
 unfold jP at h;split at h
 ·next e' hu=>
  simp only[QJ]at h;obtain⟨i,b,z,c,h⟩:=h;split at h
  ·next hc=>
   simp only[OI,Qy]at h;obtain⟨rfl,rfl,rfl⟩:=h;exact⟨hu,⟨i,z,b,c,Z,Z,hc.1,hc.2.1⟩,hc.2.2⟩
  cases h
 cases h
def AllC(p:Tree->Bool)(es:List Tree):Prop:=∀c∈flat es,p c=true
theorem AllC.all{p:Tree->Bool}{es:List Tree}(h:AllC p es):(flat es).all p=true:=OD.2 h
theorem AllC.lit{p:Tree->Bool}{es:List Tree}(h:(flat es).all p=true):AllC p es:=OD.1 h
theorem AllC.map{p:Tree->Bool}{α:Type}(f:α->Tree)(l:List α)(h:∀a,(f a).cells.all p=true):AllC p (l.map f):=fun c b=>by
 simp only[flat,List.mem_flatMap,PX]at b;obtain⟨_,⟨a,_,rfl⟩,b⟩:=b;exact OD.1 (h a) c b
section
variable {w0:World} {G0:Bse} {S:St} {o:Oper}
theorem yq{a:Act}{w w':World}{bx:List Nat}{rv:List Value}{k:Nat}{v v':Value}{R R':Row}{xs:List Value}(G:Mem w0 G0 S.bs S.rs bx rv w)(d:a.tmps.size=S.n)(t:a.defers=[])(r:∀i,FT (en w G0 bx rv S.rs) [a.tmps.getD i undef] [S.get i])(D:cC S.n o.dst=true)
  (s:rv[k]? =some v) (p:S.rs[k]? =some (some R)) (q:w.grownBy w' v.ownBlock) (y:v'.ownBlock=v.ownBlock\/v'.ownBlock=some w.heap.size) (z:w'.ownsRow 0 R'.e R'.sz v' R'.es.length xs) (C:PT w' (GG G0 bx (rv.set k v') (S.rs.set k (some R'))) xs (flat R'.es)) (H:Sized R'.sz R'.es/\(R'.tt=true->ot v')) (x:∀g,v'.ownBlock=some g->NoDigB w' g):
  Sim w0 G0 ({S.kill k with rs:=S.rs.set k (some R')}.put o.dst (.own k)) (a.put o.dst v') w':=by
 have b:∀g,v'.ownBlock=some g->v.ownBlock=some g\/w.heap.size<=g:=fun g f=>by
  rcases y with h|h
  ·exact .inl (h▸f)
  rw[h]at f;injection f with f;exact .inr (by omega)
 have l:=(Ok.1 s).1;have m:=(Ok.1 p).1;refine⟨bx,rv.set k v',?_,by rw[dW,ee];exact d,by rw[cU,t],?_⟩
 ·rw[dE,bZ];exact G.setRowV s p q b z C H x
 rw[bZ];intro i;rw[gf a o.dst _ S.n d D,cV];split
 ·obtain⟨A,c,rfl⟩:=bX z;refine .own k _ c A ?_ .nil;show fN (rv.set k _) (S.rs.set k (some R')) k=_
  unfold fN;rw[PA m,PA l];rfl
 have B:=(r i).kill (E':=en w' G0 bx (rv.set k v') (S.rs.set k (some R'))) (k:=k) q.size (o6 s p q b) (fun _ _ h=>h) (fun j u F E=>Gb j u F E);rw[<-mW]at B;exact B
theorem vr{x y:Operand}{t:TypeId}{k p:Nat}{R:Row}{d:List Tree}(M:o.op=.call {callee:=.builtin .append,args:=#[x,y],argTypes:=#[t,t]})(hd:cC S.n o.dst=true)(ht:jP Tryz.prog t=some (R.e,R.sz,p))(H:S.ev x=.own k)(K:S.rs[k]? =some (some R))(hy:S.ev y=.sl d)(hs:Sized R.sz d)(h1:AllC Tree.one d)(h2:AllC Tree.noDig d)(h3:R.es.length+d.length<=1073741824)(h4:p<=100000):
  lL w0 G0 o S ({S.kill k with rs:=S.rs.set k (some ⟨R.e,R.sz,R.es++d,false⟩)}.put o.dst (.own k)):=by
 rintro a w ⟨bx,rv,hm,L,Q,m⟩;have hp:=bH (op:=o.op) (T:=fun s=>a.tmps.getD s undef) (S:=S) (fun s _=>m s) H (by rw[M];simp[Op.operands,Call.operands]);have hq:=(bH (op:=o.op) (T:=fun s=>a.tmps.getD s undef) (S:=S) (fun s _=>m s) hy (by rw[M];simp[Op.operands,Call.operands])).isSl;generalize (fun s=>a.tmps.getD s undef)=T at hp hq⊢;obtain⟨hv,xs,C,a1,W,X⟩:=g7 hm K hp;obtain⟨A,c,e1,a2,_,hA,q⟩:=hq.slice;obtain⟨B,⟨i,z,hi,hz,Y,U,a0,V⟩,r⟩:=o7 ht;obtain⟨news,J,F,O⟩:∃news,news.length=d.length*R.sz/\PT w (GG G0 bx rv S.rs) news (flat d)/\∀a,A=some a->∀j u,news[j]? =some u->w.cell? (a.add j)=some u:=by
  rcases Pg d.length with Z|Z
  ·obtain rfl:d=[]:=OB Z;exact⟨[],by simp,.nil,fun a _ j u B=>by simp at B⟩
  obtain⟨b,off,news,rfl,_,_,hc,H⟩:=q Z;refine⟨news,by rw[H.length,hs.flat],H,fun ad ha j u B=>?_⟩;rw[<-PF ha,Addr.add_mid];exact hc j u B
 have D:FT (en w G0 bx rv S.rs) news (flat d):=.of F;obtain⟨v',w',hr,N,l,G,E⟩:=lP (P:=Tryz.prog) w 0 t o.type R.e i z R.sz p B hi hz Y U a0 r (dm T x) R.es.length xs C A d.length c news J (fun e=>⟨by have:=hA e;omega,hA e⟩) O (D.ones h1.all) (by simp only[maxLen];omega) (Oq (Qr h3 h4) (by decide)) (OA _) V (D.noDigs h2.all) X;refine aB (v:=v') (W':=w') ?_ (yq (R':=⟨R.e,R.sz,R.es++d,false⟩) (xs:=xs++news) hm L Q m hd hv K l G (by simpa using N) ?_ ⟨W.1.append hs,fun h=>by cases h⟩ E)
 ·simp only[execOp,M,resolve,invoke,builtin,Sem.run_bind,Sem.run_pure,Result.andThen_ok,Qn,Pt,QM,e1,hr]
 have f:=o6 (G0:=G0) (bx:=bx) (w:=w) (w':=w') (v':=v') (R':=⟨R.e,R.sz,R.es++d,false⟩) hv K l (fun g I=>by
  rcases G with h|h
  ·exact .inl (h▸I)
  rw[h]at I;injection I with I;exact .inr (by omega))
 rw[i8];exact(a1.mono l.size f).append (F.mono l.size f)
end
def yr(K:St->Prop)(Q:Exit->St->Prop):Exit->St->Prop
 | .normal,S=>K S
 |e,S=>Q e S
def yu(id:Nat)(Q:Exit->St->Prop):Exit->St->Prop
 | .exit id',S=>if id'=id then Q .normal S else Q (.exit id') S
 |e,S=>Q e S
section
variable {w0:World} {G0:Bse} {Q:Exit->St->Prop} {S:St}
theorem AWP.mono{c:Code}{b:Exit->St->Prop}(h:AWP w0 G0 c Q S)(i:∀e S,Q e S->b e S):AWP w0 G0 c b S:=fun a w f=>wp_mono (h a w f) fun e _ _ ⟨S',d,g⟩=>⟨S',i e S' d,g⟩
theorem ar(h:Q .normal S):AWP w0 G0 .skip Q S:=fun _ _ a=>wp_skip ⟨S,h,a⟩
theorem aQ{id:Nat}(h:Q (.exit id) S):AWP w0 G0 (.exit id) Q S:=fun _ _ a=>wp_exit ⟨S,h,a⟩
theorem ax(h:Q .ret S):AWP w0 G0 .ret Q S:=fun _ _ a=>wp_ret ⟨S,h,a⟩
theorem ab{x y:Code}(h:AWP w0 G0 x (yr (AWP w0 G0 y Q) Q) S):AWP w0 G0 (.seq x y) Q S:=fun a w f=>wp_seq (wp_mono (h a w f) fun e d w' ⟨S',c,b⟩=>by
 cases e with
 |normal=>exact c d w' b
 |_=>exact⟨S',c,b⟩)
theorem aH{c:Operand}{x y:Code}{b:Bool}(l:S.ev c=.sc (.bool b))(j:b=true->AWP w0 G0 x Q S)(k:b=false->AWP w0 G0 y Q S):AWP w0 G0 (.cond c x y) Q S:=fun a w e=>by
 have i:a.eval c=.bool b:=by
  obtain⟨bx,rv,n,o,m,d⟩:=e;rw[xh];have:FT (en w G0 bx rv S.rs) [dm (fun s=>a.tmps.getD s undef) c] [S.ev c]:=by
   cases c with
   |tmp s=>exact d s
   |const v=>exact .pure (.sc v .nil) .nil
   |global g=>exact .pure (.sc _ .nil) .nil
   |func f=>exact .pure (.sc _ .nil) .nil
  rw[l]at this;exact this.isSc
 exact wp_cond_split i (fun h=>j h a w e) (fun h=>k h a w e)
theorem aA{id:Nat}{c:Code}(h:AWP w0 G0 c (yu id Q) S):AWP w0 G0 (.block id c) Q S:=fun a w f=>wp_block (wp_mono (h a w f) fun e g w' ⟨S',b,d⟩=>by
 cases e with
 |exit id'=>
  simp only[yu]at b;simp only[Exit.inBlock];split at b
  ·rw[if_pos (by assumption)];exact⟨S',b,d⟩
  rw[if_neg (by assumption)];exact⟨S',b,d⟩
 |_=>exact⟨S',b,d⟩)
theorem gj(p:Nat->Prop):∀n,p n->∃m,p m/\∀k,k<m->¬p k:=fun n=>by
 induction n using Nat.strongRecOn with
 |ind n ih=>
  intro c;by_cases h:∃k,k<n/\p k
  ·obtain⟨k,a,b⟩:=h;exact ih k a b
  exact⟨n,c,fun k a b=>h ⟨k,a,b⟩⟩
open Classical in
theorem Gd{c:Code}(I:Nat->St->Prop)(n0:Nat)(h0:I n0 S)(round:∀n S,I n S->AWP w0 G0 c (yr (fun S'=>∃m,m<n/\I m S') Q) S):AWP w0 G0 (.loop c) Q S:=fun a w hs=>by
 let p:Act->World->Nat->Prop:=fun a w n=>∃S,I n S/\Sim w0 G0 S a w
 let μ:Act->World->Nat:=fun a w=>if h:∃n,p a w n then Classical.choose (gj (p a w) _ (Classical.choose_spec h))else 0
 have hμ:∀a w n,p a w n->p a w (μ a w)/\μ a w<=n:=fun a w n hn=>by
  have hex:∃n,p a w n:=⟨n,hn⟩
  have hsp:=Classical.choose_spec (gj (p a w) _ (Classical.choose_spec hex))
  have e:μ a w=Classical.choose (gj (p a w) _ (Classical.choose_spec hex)):=by simp only[μ];rw[dif_pos hex]
  rw[e]
  refine⟨hsp.1,?_⟩
  rcases OS n (Classical.choose (gj (p a w) _ (Classical.choose_spec hex)))with hlt|hge
  ·exact absurd hn (hsp.2 n hlt)
  ·exact hge
 refine wp_loop (fun a w=>∃n,p a w n) μ ⟨n0,S,h0,hs⟩ ?_
 rintro a w ⟨n,hn⟩
 obtain⟨⟨S',hI,hS⟩,_⟩:=hμ a w n hn
 refine wp_mono (round _ S' hI a w hS) ?_
 rintro e a' w' ⟨S'',h1,h2⟩
 cases e with
 |normal=>
  obtain⟨m,hm,hI'⟩:=h1
  have hp:p a' w' m:=⟨S'',hI',h2⟩
  exact⟨⟨m,hp⟩,PP (hμ a' w' m hp).2 hm⟩
 |_=>exact⟨S'',h1,h2⟩
def within0(m k:Nat):Tree->Bool
 | .box b _=>decide (b<m)
 | .own j| .elp j _=>decide (j<k)
 | .agg _| .tup _=>false
 |_=>true
def within(m k:Nat):Tree->Bool
 | .agg cs| .tup cs=>cs.all (within0 m k)
 |t=>within0 m k t
theorem FT.within0{E E':En}{m k:Nat}(i:E.W.heap.size<=E'.W.heap.size)(f:∀b,b<E.W.heap.size->¬E.G b->E'.W.heap[b]? =E.W.heap[b]? /\¬E'.G b)(e:∀b g,b<m->E.bx b=some g->E'.bx b=some g)(d:∀j v,j<k->E.rv j=some v->E'.rv j=some v){v:Value}{t:Tree}(h:FT E [v] [t])(a:Go.Proofs.YtfoejfohbkmmeaaGreatDoor.within0 m k t=true):FT E' [v] [t]:=by
 cases h with
 |pure h _=>exact .pure (h.mono i f) .nil
 |any=>exact .any _ .nil
 |box b off g h _=>exact .box b off g (e b g (by simpa[Go.Proofs.YtfoejfohbkmmeaaGreatDoor.within0]using a) h) .nil
 |own j n c A h _=>exact .own j n c A (d j _ (by simpa[Go.Proofs.YtfoejfohbkmmeaaGreatDoor.within0]using a) h) .nil
 |elp j off g n c h _=>exact .elp j off g n c (d j _ (by simpa[Go.Proofs.YtfoejfohbkmmeaaGreatDoor.within0]using a) h) .nil
 |agg=>simp[Go.Proofs.YtfoejfohbkmmeaaGreatDoor.within0]at a
 |tup=>simp[Go.Proofs.YtfoejfohbkmmeaaGreatDoor.within0]at a
theorem kh{E E':En}{m k:Nat}(d:E.W.heap.size<=E'.W.heap.size)(a:∀b,b<E.W.heap.size->¬E.G b->E'.W.heap[b]? =E.W.heap[b]? /\¬E'.G b)(e:∀b g,b<m->E.bx b=some g->E'.bx b=some g)(c:∀j v,j<k->E.rv j=some v->E'.rv j=some v):∀{us:List Value} {ts:List Tree},FT E us ts->ts.all (Go.Proofs.YtfoejfohbkmmeaaGreatDoor.within0 m k)=true->FT E' us ts
 |[],[],_,_=>.nil
 |[],_::_,h,_=>by cases h
 |_::_,[],h,_=>by cases h
 |u::us,t::ts,h,hp=>by
  simp only[PS,Oo]at hp;exact FT.cons (FT.within0 d a e c h.head hp.1) (kh d a e c h.tail hp.2)
theorem FT.within{E E':En}{m k:Nat}(f:E.W.heap.size<=E'.W.heap.size)(c:∀b,b<E.W.heap.size->¬E.G b->E'.W.heap[b]? =E.W.heap[b]? /\¬E'.G b)(a:∀b g,b<m->E.bx b=some g->E'.bx b=some g)(e:∀j v,j<k->E.rv j=some v->E'.rv j=some v){v:Value}{t:Tree}(h:FT E [v] [t])(i:Go.Proofs.YtfoejfohbkmmeaaGreatDoor.within m k t=true):FT E' [v] [t]:=by
 cases t with
 |agg cs=>
  obtain⟨xs,rfl,d⟩:=h.isAgg;exact .agg xs _ (kh f c a e d i) .nil
 |tup cs=>
  obtain⟨xs,rfl,d⟩:=h.isTup;exact .tup xs _ (kh f c a e d i) .nil
 |_=>exact FT.within0 f c a e h i
inductive Keeps (S:St) (m k:Nat):List (Nat×Tree)->Prop
 |nil:Keeps S m k []
 |cons {i:Nat} {t:Tree} {l:List (Nat×Tree)} (h:S.get i=t) (hw:within m k t=true) (hs:Keeps S m k l):Keeps S m k ((i,t)::l)
theorem Keeps.get{m k:Nat}{l:List (Nat×Tree)}(h:Keeps S m k l)(i:Nat):look l i=.any\/(look l i=S.get i/\within m k (S.get i)=true):=by
 induction h with
 |nil=>exact .inl Z
 |cons h hw _ ih=>
  rw[dD];split
  ·next e=>subst e;exact .inr ⟨h.symm,by rw[h];exact hw⟩
  exact ih
theorem fJ{α:Type}{l:List α}{m i:Nat}{x:α}(h:(l.take m)[i]? =some x):i<m/\l[i]? =some x:=by
 rw[Ph]at h;split at h
 ·exact⟨by assumption,h⟩
 cases h
theorem jb{α:Type}{l:List α}{m i:Nat}{x:α}(h:l[i]? =some x)(a:i<m):(l.take m)[i]? =some x:=by rw[Ph,if_pos a];exact h
theorem Sim.less{a:Act}{w:World}(h:Sim w0 G0 S a w)(m k:Nat)(l:List (Nat×Tree))(K:Keeps S m k l)(o:((S.bs.take m).all fun p=>p.2.all (within0 m k))=true)(G:G0.pn<=m:=by first|exact OA _|exact Nat.le_of_ble_eq_true Z):Sim w0 G0 ⟨S.n,l,S.bs.take m,S.rs.take k⟩ a w:=by
 obtain⟨bx,rv,d,L,F,B⟩:=h;have t:∀b,b∈cl (bx.take m) (rv.take k) (S.rs.take k)->b∈cl bx rv S.rs:=fun b o=>by
  rcases aY.1 o with c|⟨j,u,X,c,e,f⟩
  ·exact aY.2 (.inl (OV c))
  exact aY.2 (.inr ⟨j,u,X,(fJ c).2,(fJ e).2,f⟩)
 have C:∀b,b<w.heap.size->¬GG G0 bx rv S.rs b->w.heap[b]? =w.heap[b]? /\¬GG G0 (bx.take m) (rv.take k) (S.rs.take k) b:=fun b _ M=>⟨Z,fun h=>M (h.imp id (t b))⟩
 have q:∀b g,b<m->(en w G0 bx rv S.rs).bx b=some g->(en w G0 (bx.take m) (rv.take k) (S.rs.take k)).bx b=some g:=fun b g H h=>jb (l:=bx) h H
 have s:∀j v,j<k->(en w G0 bx rv S.rs).rv j=some v->(en w G0 (bx.take m) (rv.take k) (S.rs.take k)).rv j=some v:=fun j v J h=>by
  show fN (rv.take k) (S.rs.take k) j=some v
  have h:fN rv S.rs j=some v:=h;unfold fN at h⊢;rw[Ph,if_pos J,Ph,if_pos J];exact h
 refine⟨bx.take m,rv.take k,⟨d.below,d.env0,d.g0,by simp[d.nb],by simp[d.nr],fun i g x=>?_,fun j u X c e=>?_,⟨d.nodup.bb.sublist (List.take_sublist _ _),fun j u X b c e f y=>d.nodup.br j u X b (fJ c).2 (fJ e).2 f (OV y),fun i j u v X Y b A c e f r=>d.nodup.rr i j u v X Y b A (fJ c).2 (fJ e).2 (fJ f).2 (fJ r).2⟩,fun b o=>d.ge b (t b o),fun i x=>jb (d.pin i x) (Oz x G)⟩,L,F,fun i=>?_⟩
 ·obtain⟨c,e⟩:=fJ x;obtain⟨ty,cs,us,f,r,D,z⟩:=d.box i g e;have I:=jb f c;exact⟨ty,cs,us,I,r,kh (E:=en w G0 bx rv S.rs) (E':=en w G0 (bx.take m) (rv.take k) (S.rs.take k)) (m:=m) (k:=k) (Oh _) C q s D (OD.1 o _ (Om I)),z⟩
 ·obtain⟨xs,f,r,D,z⟩:=d.row j u X (fJ c).2 (fJ e).2;exact⟨xs,f,r.mono (Oh _) C,D,z⟩
 show FT _ _ [look l i]
 rcases K.get i with c|⟨c,e⟩
 ·rw[c];exact .any _ .nil
 rw[c];exact FT.within (E:=en w G0 bx rv S.rs) (E':=en w G0 (bx.take m) (rv.take k) (S.rs.take k)) (m:=m) (k:=k) (Oh _) C q s (B i) e
def MI(S:St):ResultVar->Tree->Prop
 | .tmp t,x=>S.get t=x
 | .cell a ty,x=>∃b off bt cs,S.get a=.box b off/\S.bs[b]? =some (bt,cs)/\((∃n,rT Tryz.prog ty=some n/\Nat.ble (off+n) cs.length=true/\x=.agg ((cs.drop off).take n))\/(ja Tryz.prog ty=true/\cs[off]? =some x))
inductive ResL (S:St):List ResultVar->List Tree->Prop
 |nil:ResL S [] []
 |cons {x:ResultVar} {t:Tree} {xs:List ResultVar} {ts:List Tree} (h:MI S x t) (hs:ResL S xs ts):ResL S (x::xs) (t::ts)
def ki:List Tree->Tree
 |[t]=>t
 |ts=>.tup ts
def LB(rvs:List ResultVar)(r:Tree)(e:Exit)(S:St):Prop:=(e=.normal\/e=.ret)/\∃ts,ResL S rvs ts/\ki ts=r/\r.plain=true
theorem Bl{a:Act}{w:World}{bx:List Nat}{rv:List Value}(H:Mem w0 G0 S.bs S.rs bx rv w)(f:∀i,FT (en w G0 bx rv S.rs) [a.tmps.getD i undef] [S.get i]){x:ResultVar}{t:Tree}(h:MI S x t):
  ∃v,((match x with| .tmp t=>pure (a.tmps.getD t undef)| .cell b t=>do loadVar t (<-asAddr (a.tmps.getD b undef)):Sem Value)).run Tryz.prog w=.ok v w/\FT (en w G0 bx rv S.rs) [v] [t]:=by
 cases x with
 |tmp s=>
  have h:S.get s=t:=h;exact⟨_,Z,h▸f s⟩
 |cell s ty=>
  obtain⟨b,off,L,cs,I,F,J⟩:=h;have C:=f s;rw[I]at C;obtain⟨g,us,_,A,m,p,_⟩:=mV H F C;rcases J with⟨n,y,e,rfl⟩|⟨c,K⟩
  ·obtain⟨d,o,B,E⟩:=xi y;have e:off+n<=cs.length:=by simpa using e
   have D:((us.drop off).take n).length=n:=by have:=p.length;rw[Ox,OP];omega
   have G:=run_loadVar_mid (P:=Tryz.prog) w g off ty ((us.drop off).take n) d (fun j v k=>by
    rw[m.cell,PY];rw[Ph]at k;split at k
    ·rw[PB]at k;exact k
    cases k) o B (by rw[D];exact E)
   refine⟨.agg ((us.drop off).take n).toArray,?_,.agg _ _ ((p.drop off).take n) .nil⟩;simp only[A,asAddr,Sem.run_bind,Sem.run_pure,Result.andThen_ok,G]
  obtain⟨u,o,r⟩:=p.get off t K;obtain⟨d,z,B⟩:=xj c;have l:(isAgg ty).run Tryz.prog w=.ok false w:=by
   unfold isAgg;rw[Sem.run_bind,run_underlying z w];cases d<;>simp_all
  have q:w.cell? ⟨g,off,none⟩=some u:=by rw[m.cell,PY];exact o
  refine⟨u,?_,r⟩;simp only[A,asAddr,Sem.run_bind,Sem.run_pure,Result.andThen_ok];simp[loadVar,l,q]
theorem gk{a:Act}{w:World}{bx:List Nat}{rv:List Value}(d:Mem w0 G0 S.bs S.rs bx rv w)(c:∀i,FT (en w G0 bx rv S.rs) [a.tmps.getD i undef] [S.get i]):∀{xs:List ResultVar} {ts:List Tree},ResL S xs ts->
  ∃vs,(xs.mapM (m:=Sem) fun| .tmp t=>pure (a.tmps.getD t undef)| .cell b t=>do loadVar t (<-asAddr (a.tmps.getD b undef))).run Tryz.prog w=.ok vs w/\FT (en w G0 bx rv S.rs) vs ts
 |[],[],_=>⟨[],Z,.nil⟩
 |x::xs,t::ts,.cons h hs=>by
  obtain⟨v,e,j⟩:=Bl d c h;obtain⟨vs,f,g⟩:=gk d c hs;refine⟨v::vs,?_,FT.cons j g⟩;rw[Sr,Sem.run_bind,e,Result.andThen_ok,Sem.run_bind,f,Result.andThen_ok];rfl
def g8:Nat->List Tree->List (Nat×Tree)
 |_,[]=>[]
 |k,t::ts=>(k,t)::g8 (k+1) ts
theorem jD:∀(ts:List Tree) (k i:Nat),look (g8 k ts) i=if k<=i then(ts[i-k]?).getD .any else .any
 |[],k,i=>by simp[g8,look]
 |t::ts,k,i=>by
  simp only[g8,dD,jD ts (k+1) i];by_cases h:k=i
  ·subst h;simp
  rw[if_neg h];by_cases a:k<=i
  ·rw[if_pos (by omega),if_pos a,show i-k=(i-(k+1))+1 by omega,Ru]
  rw[if_neg (by omega),if_neg a]
theorem ny{w:World}{G:Nat->Prop}(f:Env w)(d:∀g,G g->g<w.heap.size/\NoDigB w g):Mem w (pln G) [] [] [] [] w:=
 ⟨Kept.refl _ _,.pln f,fun g h=>⟨(d g h).1,(d g h).2,id⟩,Z,Z,fun i g c=>by simp at c,fun k v R a=>by simp at a,⟨List.nodup_nil,fun k v R b a=>by simp at a,fun j k u v X R b _ a=>by simp at a⟩,fun b e=>by simp[cl]at e,fun i c=>absurd c (Q9 i)⟩
theorem Mem.ownP{w0 w:World}{G:Nat->Prop}{bs:List (TypeId×List Tree)}{rs:List (Option Row)}{bx:List Nat}{rv:List Value}(h:Mem w0 (pln G) bs rs bx rv w){k n:Nat}{v:Value}{R:Row}{xs:List Value}{e:TypeId}{sz:Nat}(f:rv[k]? =some v)(i:rs[k]? =some (some R))(c:w.ownsRow 0 e sz v n xs):w.ownsRow w0.heap.size e sz v n xs:=by
 refine⟨c.1,c.2.imp id ?_⟩;rintro⟨g,b,cur,rfl,_,d⟩;refine⟨g,b,cur,Z,?_,d⟩;rcases h.ge g (aY.2 (.inr ⟨k,_,R,f,i,rfl⟩))with a|a
 ·exact a
 exact a.elim
theorem Ct.of{f:FuncId}{d:Func}{c:Code}{args:List Tree}{r:Tree}{n:Nat}{j:List ResultVar}(C:Tryz.prog.funcs[f]? =some d)(A:d.body=some c)(m:(d.name== "runtime.NumGoroutine")=false)(P:d.ntmps=n)(z:Nat.ble args.length n=true)(L:d.results.toList=j)
  (h:∀w0 G0,AWP w0 (pln G0) c (LB j r) ⟨n,g8 0 args,[],[]⟩):Ct f args r:=by
 refine⟨⟨d,C,m,by rw[A];rfl⟩,fun G w vs K N F=>?_⟩;have D:=F.length;have z:args.length<=n:=by simpa using z
 refine calls_of_wp C A (wp_mono (h w G _ w ⟨[],[],ny K N,?_,Z,fun i=>?_⟩) ?_)
 ·simp;omega
 ·show FT _ _ [look (g8 0 args) i]
  rw[jD,if_pos (OA _),Q0];cases I:args[i]? with
  |none=>exact .any _ .nil
  |some t=>
   obtain⟨u,B,s⟩:=F.get i t I;have H:=(Ok.1 B).1;have J:(vs.toArray++Array.replicate (d.ntmps-vs.toArray.size) undef).getD i undef=u:=by
    rw[O7,Qh (by simpa using H),PY,B];rfl
   rw[J];refine .pure (s.mono (Oh _) fun b _ g=>⟨Z,fun h=>?_⟩) .nil;rcases h with h|h
   ·exact g h
   simp[cl]at h
 rintro e a w' ⟨S',⟨M,ts,p,rfl,l⟩,bx,rv,E,_,q,o⟩;obtain⟨us,k,y⟩:=gk E o (L▸p);have key:a.defers=[]/\∃v,(results d a.tmps).run Tryz.prog w'=.ok v w'/\(fun e w'=>∃v,e=Ending.returned v/\PT w' G [v] [ki ts]/\Below w.heap.size w w') (.returned v) w':=by
  refine⟨q,if h:us.toArray.size=1 then us.toArray[0]else .tuple us.toArray,?_,_,Z,?_,E.below.below⟩
  ·unfold results;rw[Sem.run_bind,P2,Sem.run_map];exact congrArg (fun x:Result (List Value)=>(x.andThen fun a w'=>Result.ok a.toArray w').andThen fun a w'=>Sem.run Tryz.prog (pure (if h:a.size=1 then a[0]else Value.tuple a)) w') k
  have O:FT (en w' (pln G) bx rv S'.rs) [if h:us.toArray.size=1 then us.toArray[0]else .tuple us.toArray] [ki ts]:=by
   match us,ts,y with
   |[],[],_=>exact .tup [] [] .nil .nil
   |[u],[t],h=>exact h
   |u::u'::us,t::t'::ts,h=>
    rw[dif_neg (by simp)];exact .tup _ _ h .nil
  exact(O.plain l).mono (Oh _) fun b _ g=>⟨Z,fun h=>g (.inl h)⟩
 rcases M with rfl|rfl
 ·exact key
 exact key
end
end Go.Proofs.YtfoejfohbkmmeaaGreatDoor
