import Derived.Test.YtmhcanmapkenbaaGreatDoorA17
set_option linter.defProp false
open Go.Proofs.Tryz
namespace Go.Proofs.YtmhcanmapkenbaaGreatDoor
open Go.RowKit
open Lib renaming hid→J
def killU0(m:Nat):Tree->Tree
 | .own j=>if j<m then .any else .own j
 | .elp j off=>if j<m then .any else .elp j off
 | .agg _=>.any
 | .tup _=>.any
 |t=>t
def killU(m:Nat):Tree->Tree
 | .agg cs=>.agg (cs.map (killU0 m))
 |t=>killU0 m t
def Tree.pre(k m:Nat):Tree->Bool
 | .own j=>Nat.blt j m
 | .box b _=>Nat.blt b k
 |t=>t.plain0
def oE(k:Nat):Tree->Bool
 | .box b _=>Nat.blt b k
 |t=>t.plain
def FT.killU0{E E':En}{m:Nat}{v:Value}{t:Tree}(h:FT E [v] [t])(f:E.W.heap.size<=E'.W.heap.size)(e:∀b,b<E.W.heap.size->¬E.G b->E'.W.heap[b]? =E.W.heap[b]? /\¬E'.G b)(d:∀b g,E.bx b=some g->E'.bx b=some g)(a:∀j v,m<=j->E.rv j=some v->E'.rv j=some v):FT E' [v] [Go.Proofs.YtmhcanmapkenbaaGreatDoor.killU0 m t]:=by
 cases h with
 |pure h _=>
  cases t<;>first
   |exact .pure (h.mono f e) .nil
   |(simp only[Go.Proofs.YtmhcanmapkenbaaGreatDoor.killU0];exact .any _ .nil)
   |(cases h)
 |any=>exact .any _ .nil
 |box b off g h _=>exact .box b off g (d b g h) .nil
 |own j n c A hv _=>
  simp only[Go.Proofs.YtmhcanmapkenbaaGreatDoor.killU0];split
  ·exact .any _ .nil
  exact .own j n c A (a j _ O hv) .nil
 |elp j off g n c hv _=>
  simp only[Go.Proofs.YtmhcanmapkenbaaGreatDoor.killU0];split
  ·exact .any _ .nil
  exact .elp j off g n c (a j _ O hv) .nil
 |agg=>exact .any _ .nil
 |tup=>exact .any _ .nil
def nn{E E':En}{m:Nat}(e:E.W.heap.size<=E'.W.heap.size)(c:∀b,b<E.W.heap.size->¬E.G b->E'.W.heap[b]? =E.W.heap[b]? /\¬E'.G b)(a:∀b g,E.bx b=some g->E'.bx b=some g)(d:∀j v,m<=j->E.rv j=some v->E'.rv j=some v):∀{us:List Value} {ts:List Tree},FT E us ts->FT E' us (ts.map (Go.Proofs.YtmhcanmapkenbaaGreatDoor.killU0 m))
 |[],[],_=>.nil
 |[],_::_,h=>by cases h
 |_::_,[],h=>by cases h
 |u::us,t::ts,h=>FT.cons (h.head.killU0 e c a d) (nn e c a d h.tail)
def FT.killU{E E':En}{m:Nat}{v:Value}{t:Tree}(h:FT E [v] [t])(e:E.W.heap.size<=E'.W.heap.size)(c:∀b,b<E.W.heap.size->¬E.G b->E'.W.heap[b]? =E.W.heap[b]? /\¬E'.G b)(a:∀b g,E.bx b=some g->E'.bx b=some g)(d:∀j v,m<=j->E.rv j=some v->E'.rv j=some v):FT E' [v] [Go.Proofs.YtmhcanmapkenbaaGreatDoor.killU m t]:=by
 cases t with
 |agg cs=>
  obtain⟨xs,rfl,f⟩:=h.isAgg;exact .agg xs _ (nn e c a d f) .nil
 |_=>exact h.killU0 e c a d
def FT.pre1{E E':En}{k m:Nat}{v:Value}{t:Tree}(h:FT E [v] [t])(a:t.pre k m=true)(i:E.W.heap.size<=E'.W.heap.size)(e:∀b,b<E.W.heap.size->¬E.G b->E'.W.heap[b]? =E.W.heap[b]? /\¬E'.G b)(d:∀b g,b<k->E.bx b=some g->E'.bx b=some g)(f:∀j v,j<m->E.rv j=some v->E'.rv j=some v):FT E' [v] [t]:=by
 cases h with
 |pure h _=>exact .pure (h.mono i e) .nil
 |any=>cases a
 |box b off g h _=>exact .box b off g (d _ _ (by simpa[Tree.pre,Q7]using a) h) .nil
 |own j n c A hv _=>exact .own j n c A (f j _ (by simpa[Tree.pre,Q7]using a) hv) .nil
 |elp=>cases a
 |agg=>cases a
 |tup=>cases a
def vT{E E':En}{k m:Nat}(e:E.W.heap.size<=E'.W.heap.size)(c:∀b,b<E.W.heap.size->¬E.G b->E'.W.heap[b]? =E.W.heap[b]? /\¬E'.G b)(a:∀b g,b<k->E.bx b=some g->E'.bx b=some g)(d:∀j v,j<m->E.rv j=some v->E'.rv j=some v):∀{us:List Value} {ts:List Tree},FT E us ts->ts.all (Tree.pre k m)=true->FT E' us ts
 |[],[],_,_=>.nil
 |[],_::_,h,_=>by cases h
 |_::_,[],h,_=>by cases h
 |u::us,t::ts,h,ht=>by
  rw[Rc,Qh]at ht;exact FT.cons (h.head.pre1 ht.1 e c a d) (vT e c a d h.tail ht.2)
def FT.args{E E':En}{k:Nat}(d:E.W.heap.size<=E'.W.heap.size)(c:∀b,b<E.W.heap.size->¬E.G b->E'.W.heap[b]? =E.W.heap[b]? /\¬E'.G b)(a:∀b g,b<k->E.bx b=some g->E'.bx b=some g):∀{us:List Value} {ts:List Tree},FT E us ts->ts.all (oE k)=true->FT E' us ts
 |[],[],_,_=>.nil
 |[],_::_,h,_=>by cases h
 |_::_,[],h,_=>by cases h
 |u::us,t::ts,h,ht=>by
  rw[Rc,Qh]at ht;refine FT.cons ?_ (FT.args d c a h.tail ht.2);have e:=h.head;cases t with
  |box b off=>
   cases e with
   |box _ _ g hg _=>exact .box b off g (a b g (by simpa[oE,Q7]using ht.1) hg) .nil
   |pure h _=>cases h
  |_=>exact .of ((e.plain ht.1).mono d c)
def dk{α:Type}{l:List α}{k i:Nat}{x:α}(h:(l.take k)[i]? =some x):i<k/\l[i]? =some x:=by
 rw[QQ]at h;split at h
 ·exact⟨by assumption,h⟩
 cases h
def iI{α:Type}{l:List α}{k i:Nat}{x:α}(a:i<k)(h:l[i]? =some x):(l.take k)[i]? =some x:=by
 rw[QQ,if_pos a];exact h
def FX{w w':World}{b e sz n:Nat}{v:Value}{xs:List Value}(h:w.ownsRow b e sz v n xs)(i:∀g,v.ownBlock=some g->w'.heap[g]? =w.heap[g]?):w'.ownsRow b e sz v n xs:=by
 refine⟨h.1,?_⟩;rcases h.2 with j|⟨g,cap,cur,c,d,f,a⟩
 ·exact .inl j
 exact .inr ⟨g,cap,cur,c,d,(i g (by rw[c];rfl)).trans f,a⟩
section
variable {w0 w w':World} {G0:Bse} {bs bs':List (TypeId×List Tree)} {rs rs':List (Option Row)} {bx:List Nat} {rv rv':List Value} {k m:Nat}
def tT(G0:Bse)(bx:List Nat)(rv:List Value)(rs:List (Option Row))(k m:Nat):Bse:=⟨λb=>GG G0 bx rv rs b/\b∉bX (bx.take k) (rv.take m) (rs.take m),λb=>b∈bX (bx.take k) (rv.take m) (rs.take m),k,λi=>bx.getD i 0⟩
def dU{b:Nat}(h:b∈bX (bx.take k) (rv.take m) (rs.take m)):b∈bX bx rv rs:=by
 rcases aN.1 h with a|⟨j,v,R,a,c,d⟩
 ·exact aN.2 (.inl (Ra a))
 exact aN.2 (.inr ⟨j,v,R,(dk a).2,(dk c).2,d⟩)
def Mem.lend(h:Mem w0 G0 bs rs bx rv w)(K:k<=bs.length)(t:((bs.take k).all λp=>p.2.all (Tree.pre k m))=true):Mem w (tT G0 bx rv rs k m) (bs.take k) (rs.take m) (bx.take k) (rv.take m) w:=by
 have d:∀b,¬GG G0 bx rv rs b->¬GG (tT G0 bx rv rs k m) (bx.take k) (rv.take m) (rs.take m) b:=λb c a=>by
  rcases a with a|a
  ·exact c a.1
  exact c (.inr (dU a))
 have H:=h.nb;refine⟨Kept.refl _ _,?_,λg q=>⟨(h.ok g q.1).1,(h.ok g q.1).2,q.2⟩,by simp[h.nb],by simp[h.nr],λi g o=>?_,λj v R I G=>?_,⟨h.nodup.bb.sublist (Tj _ _),λj v R b a e f n=>h.nodup.br j v R b (dk a).2 (dk e).2 f (Ra n),λi j u v X R b x a e f n r F=>h.nodup.rr i j u v X R b x (dk a).2 (dk e).2 (dk f).2 (dk n).2 r F⟩,λb c=>.inr c,λi o=>?_⟩
 ·obtain⟨J,A,B,C,D⟩:=h.env0.at h.below;exact⟨J,A,B,λb c=>(h.ge b (dU c)).elim (Qu C) (D b)⟩
 ·obtain⟨y,o⟩:=dk o;obtain⟨ty,cs,us,a,e,f,n⟩:=h.box i g o;have r:=iI y a;refine⟨ty,cs,us,r,e,vT (k:=k) (m:=m) (E:=en w G0 bx rv rs) (E':=en w (tT G0 bx rv rs k m) (bx.take k) (rv.take m) (rs.take m)) (Qi _) (λb _ c=>⟨Z,d b c⟩) (λb g c q=>iI (l:=bx) c q) (λj v z s=>?_) f (Qt.1 t _ (Qo r)),n⟩;show dX (rv.take m) (rs.take m) j=some v
  have s:dX rv rs j=some v:=s;unfold dX at s⊢;rw[QQ,QQ,if_pos z,if_pos z];exact s
 ·obtain⟨xs,a,e,f,n⟩:=h.row j v R (dk I).2 (dk G).2;exact⟨xs,a,e.mono (Qi _) λb _ c=>⟨Z,d b c⟩,f,n⟩
 have o:i<k:=o;have hl:i<bx.length:=O
 show(bx.take k)[i]? =some (bx.getD i 0)
 rw[QQ,if_pos o,Qp,Qj hl];rfl
def sj(h:Mem w0 G0 bs rs bx rv w){i b:Nat}(c:bx[i]? =some b)(n:k<=i):b∉bX (bx.take k) (rv.take m) (rs.take m):=λg=>by
 rcases aN.1 g with a|⟨j,v,R,a,e,f⟩
 ·obtain⟨q,d⟩:=List.getElem?_of_mem a;obtain⟨l,d⟩:=dk d;have:=(List.getElem?_inj (Qm.1 c).1 h.nodup.bb (j:=q)).1 (c.trans d.symm);omega
 exact h.nodup.br j v R b (dk a).2 (dk e).2 f (Qo c)
def sk(h:Mem w0 G0 bs rs bx rv w){j b:Nat}{v:Value}{R:Row}(f:rv[j]? =some v)(d:rs[j]? =some (some R))(e:v.ownBlock=some b)(o:m<=j):b∉bX (bx.take k) (rv.take m) (rs.take m):=λc=>by
 rcases aN.1 c with a|⟨q,u,X,a,g,i⟩
 ·exact h.nodup.br j v R b f d e (Ra a)
 obtain⟨n,l⟩:=dk a;exact h.nodup.rr j q v u R X b O f d l (dk g).2 e i
def j9{j:Nat}{v:Value}{R:Row}(c:rv'.length=m)(d:rs'.length=m)(a:(rv'++rv.drop m)[j]? =some v)(b:(rs'++rs.drop m)[j]? =some (some R)):(j<m/\rv'[j]? =some v/\rs'[j]? =some (some R))\/(m<=j/\rv[j]? =some v/\rs[j]? =some (some R)):=by
 by_cases e:j<m
 ·rw[Qv O]at a b;exact .inl ⟨e,a,b⟩
 rw[Qx O,Q9]at a b;rw[c,show m+(j-m)=j by omega]at a;rw[d,show m+(j-m)=j by omega]at b;exact .inr ⟨O,a,b⟩
def qA(h:Mem w0 G0 bs rs bx rv w)(l:rv'.length=m)(n:rs'.length=m){b:Nat}(c:GG G0 bx (rv'++rv.drop m) (rs'++rs.drop m) b):GG (tT G0 bx rv rs k m) (bx.take k) rv' rs' b:=by
 rcases c with c|c
 ·refine .inl ⟨.inl c,λhl=>?_⟩;have a:=h.g0 b c;rcases h.ge b (dU hl)with d|d
  ·omega
  exact a.2.2 d
 rcases aN.1 c with a|⟨j,v,R,a,d,g⟩
 ·obtain⟨i,o⟩:=List.getElem?_of_mem a;by_cases q:i<k
  ·exact .inr (aN.2 (.inl (Qo (iI q o))))
  exact .inl ⟨.inr (aN.2 (.inl a)),sj h o O⟩
 rcases j9 l n a d with⟨_,e,f⟩|⟨p,e,f⟩
 ·exact .inr (aN.2 (.inr ⟨j,v,R,e,f,g⟩))
 exact .inl ⟨.inr (aN.2 (.inr ⟨j,v,R,e,f,g⟩)),sk h e f g p⟩
def uy(h:Mem w0 G0 bs rs bx rv w)(e:Mem w (tT G0 bx rv rs k m) bs' rs' (bx.take k) rv' w')(c:rv'.length=m)(d:rs'.length=m)(b:Nat)(l:b<w.heap.size)(g:¬GG G0 bx rv rs b):w'.heap[b]? =w.heap[b]? /\¬GG G0 bx (rv'++rv.drop m) (rs'++rs.drop m) b:=by
 refine⟨e.below.block b l λj=>g (.inr (dU j)),λi=>g ?_⟩;rcases qA (k:=k) h c d i with a|a
 ·exact a.1
 rcases e.ge b a with f|f
 ·omega
 exact .inr (dU f)
def Cc(a:rv'.length=m)(b:rs'.length=m){j:Nat}{v:Value}(d:m<=j)(c:dX rv rs j=some v):dX (rv'++rv.drop m) (rs'++rs.drop m) j=some v:=by
 unfold dX at c⊢;rw[Qx O,Qx O,Q9,Q9,a,b,show m+(j-m)=j by omega];exact c
def Mem.back(h:Mem w0 G0 bs rs bx rv w)(hk:k<=bs.length)(c:Mem w (tT G0 bx rv rs k m) bs' rs' (bx.take k) rv' w')(a:rs'.length=m):Mem w0 G0 (bs'++(bs.drop k).map λp=>(p.1,p.2.map (killU0 m))) (rs'++rs.drop m) bx (rv'++rv.drop m) w':=by
 have e:rv'.length=m:=c.nr.trans a;have a3:=h.nb;have a4:=h.nr;have N:bs'.length=k:=by have:=c.nb;rw[QN]at this;omega
 have y:=uy h c e a;refine⟨⟨c.below.os.trans h.below.os,c.below.tape.trans h.below.tape,c.below.output.trans h.below.output,Qu h.below.size c.below.size,λb A V=>?_⟩,h.env0,h.g0,?_,?_,λi g B=>?_,λj v R hv hR=>?_,⟨h.nodup.bb,λj v R b d s n t=>?_,λi j u v X Y b L d s n t f l=>?_⟩,λb A=>?_,h.pin⟩
 ·refine(c.below.block b (QE A h.below.size) λhl=>?_).trans (h.below.block b A V);rcases h.ge b (dU hl)with d|d
  ·omega
  exact V d
 ·rw[QJ,Qr,QZ];omega
 ·rw[QJ,QJ,QZ,QZ];omega
 ·by_cases C:i<k
  ·obtain⟨ty,cs,us,d,s,n,t⟩:=c.box i g (iI C B);refine⟨ty,cs,us,by rw[Qv O];exact d,s,FT.mono (E:=en w' (tT G0 bx rv rs k m) (bx.take k) rv' rs') n (Qi _) (λb _ A=>⟨Z,λr=>A (qA h e a r)⟩) (λq x D=>(dk D).2) (λj v r=>?_),t⟩;show dX (rv'++rv.drop m) (rs'++rs.drop m) j=some v
   have r:dX rv' rs' j=some v:=r;unfold dX at r⊢;cases D:rs'[j]? with
   |none=>rw[D]at r;cases r
   |some o=>
    have M:=(Qm.1 D).1;rw[Qv M,Qv O,D];rw[D]at r;exact r
  obtain⟨ty,cs,us,d,s,n,t⟩:=h.box i g B;refine⟨ty,cs.map (killU0 m),us,?_,(c.below.block g s.lt (sj h B O)).trans s,nn (E:=en w G0 bx rv rs) (E':=en w' G0 bx (rv'++rv.drop m) (rs'++rs.drop m)) c.below.size y (λ_ _ r=>r) (λj v M r=>Cc e a M r) n,t⟩;rw[Qx O,QL,Q9,N,show k+(i-k)=i by omega,d];rfl
 ·rcases j9 e a hv hR with⟨_,t,f⟩|⟨M,t,f⟩
  ·obtain⟨xs,d,s,n,l⟩:=c.row j v R t f;exact⟨xs,d,s.mono (Qi _) λb _ A=>⟨Z,λr=>A (qA h e a r)⟩,n,l⟩
  obtain⟨xs,d,s,n,l⟩:=h.row j v R t f;have z:∀g,v.ownBlock=some g->w'.heap[g]? =w.heap[g]? :=λg K=>c.below.block g (d.lt g K).2 (sk h t f K M)
  exact⟨xs,FX d z,s.mono c.below.size y,n,λg K=>(l g K).of (z g K)⟩
 ·rcases j9 e a d s with⟨_,f,l⟩|⟨_,f,l⟩
  ·obtain⟨i,B⟩:=List.getElem?_of_mem t;by_cases C:i<k
   ·exact c.nodup.br j v R b f l n (Qo (iI C B))
   obtain⟨_,_,_,_,J,_⟩:=h.box i b B;rcases c.ge b (aN.2 (.inr ⟨j,v,R,f,l,n⟩))with P|P
   ·have:=J.lt;omega
   exact sj h B O P
  exact h.nodup.br j v R b f l n t
 ·have W:∀{i j:Nat} {u v:Value} {X Y:Row},rv'[i]? =some u->rs'[i]? =some (some X)->u.ownBlock=some b->m<=j->rv[j]? =some v->rs[j]? =some (some Y)->v.ownBlock=some b->False:=λ{i j u v X Y} g1 g2 g3 g4 Q S T=>by
   obtain⟨_,P,_⟩:=h.row j v Y Q S;rcases c.ge b (aN.2 (.inr ⟨i,u,X,g1,g2,g3⟩))with U|U
   ·have:=(P.lt b T).2;omega
   exact sk h Q S T g4 U
  rcases j9 e a d s with⟨_,F,G⟩|⟨a0,F,G⟩<;>rcases j9 e a n t with⟨_,H,I⟩|⟨b0,H,I⟩
  ·exact c.nodup.rr i j u v X Y b L F G H I f l
  ·exact W F G f b0 H I l
  ·exact W H I l a0 F G f
  exact h.nodup.rr i j u v X Y b L F G H I f l
 rcases aN.1 A with d|⟨j,v,R,d,s,n⟩
 ·exact h.ge b (aN.2 (.inl d))
 rcases j9 e a d s with⟨_,f,l⟩|⟨_,f,l⟩
 ·rcases c.ge b (aN.2 (.inr ⟨j,v,R,f,l,n⟩))with J|J
  ·exact .inl (Qu h.below.size J)
  exact h.ge b (dU J)
 exact h.ge b (aN.2 (.inr ⟨j,v,R,f,l,n⟩))
end
def CtL(f:FuncId)(args:List Tree)(bs:List (TypeId×List Tree))(rs:List (Option Row))(bs':List (TypeId×List Tree))(rs':List (Option Row))(r:Tree):Prop:=(∃fn,prog.funcs[f]? =some fn/\(fn.name== "runtime.NumGoroutine")=false/\fn.body.isNone=false)/\rs'.length=rs.length/\∀(w:World) (G0:Bse) (bx:List Nat) (rv vs:List Value),G0.pn=bs.length->Mem w G0 bs rs bx rv w->FT (en w G0 bx rv rs) vs args->
 Calls prog f vs.toArray w λe w'=>∃v rv',e=.returned v/\Mem w G0 bs' rs' bx rv' w'/\PT w' (GG G0 bx rv' rs') [v] [r]
section
variable {w0:World} {G0:Bse} {o:Oper} {S:St}
def FY{f:FuncId}{xs:Array Operand}{I:Array TypeId}{k m:Nat}{ts:List Tree}{bs':List (TypeId×List Tree)}{rs':List (Option Row)}{r:Tree}(U:o.op=.call {callee:=.value (.func f),args:=xs,argTypes:=I})(hd:df S.n o.dst=true)(H:Nat.ble k S.bs.length=true)(R:Nat.ble m S.rs.length=true)(L:((S.bs.take k).all λp=>p.2.all (Tree.pre k m))=true)(J:CtL f ts (S.bs.take k) (S.rs.take m) bs' rs' r)(ht:xs.toList.map S.ev=ts)(hp:ts.all (oE k)=true):
  qi w0 G0 o S ((⟨S.n,S.sl.map λp=>(p.1,killU m p.2),bs'++(S.bs.drop k).map λp=>(p.1,p.2.map (killU0 m)),rs'++S.rs.drop m⟩:St).put o.dst r):=by
 rintro a w ⟨bx,rv,h,G,M,C⟩;have H:=Rh▸H;have R:=Rh▸R;have Q:=lY (E:=en w G0 bx rv S.rs) (T:=λs=>a.tmps.getD s undef) (op:=o.op) (S:=S) (λs _=>C s) xs.toList (λx hx=>by rw[U];simp only[Op.operands,Call.operands];simp;exact .inr (by simpa using hx));rw[ht]at Q;obtain⟨⟨O,t,Y,P⟩,hl,J⟩:=J;have c:rs'.length=m:=by rw[hl,QN];omega
 have hM:=h.lend H L (m:=m);have D:∀b,¬GG G0 bx rv S.rs b->¬GG (tT G0 bx rv S.rs k m) (bx.take k) (rv.take m) (S.rs.take m) b:=λb q t=>by
  rcases t with t|t
  ·exact q t.1
  exact q (.inr (dU t))
 have K:=J w (tT G0 bx rv S.rs k m) _ _ _ (by show k=_;rw[QN];omega) hM (FT.args (k:=k) (E:=en w G0 bx rv S.rs) (E':=en w (tT G0 bx rv S.rs k m) (bx.take k) (rv.take m) (S.rs.take m)) (Qi _) (λb _ q=>⟨Z,D b q⟩) (λb g q hg=>iI (l:=bx) q hg) Q hp);refine OpRuns.of_call (f:=f) (args:=(xs.toList.map (eX λs=>a.tmps.getD s undef)).toArray) ?_ (K.mono ?_)
 ·have V:¬O.name= "runtime.NumGoroutine" :=by simpa using Y
  have W:¬O.body=none:=λe=>by rw[e]at P;cases P
  have X:(xs.toList.map (eX λs=>a.tmps.getD s undef)).toArray=xs.map (eX λs=>a.tmps.getD s undef):=Rb F;rw[X];simp[execOp,U,resolve,eX,Deferred.ofValue,invoke,callFunc,t,V,W]
 rintro y w' ⟨v,rv',rfl,d,N⟩;have z:rv'.length=m:=d.nr.trans c;have u:=h.back H d c;have A:=uy h d z c;refine⟨v,Z,bx,rv'++rv.drop m,by rw[dc,b6];exact u,by rw[d9,dQ];exact G,by rw[c6,M],λi=>?_⟩;rw[b6,fL a o.dst _ S.n G hd,cF];split
 ·exact .of (N.mono (Qi _) λb _ q=>⟨Z,λB=>q (qA h z c B)⟩)
 show FT _ _ [look (S.sl.map λp=>(p.1,killU m p.2)) i]
 rw[iV (killU m) Z];exact(C i).killU (E':=en w' G0 bx (rv'++rv.drop m) (rs'++S.rs.drop m)) d.below.size A (λ_ _ B=>B) (λj v hj B=>Cc z c hj B)
end
def Lv(rvs:List ResultVar)(bs':List (TypeId×List Tree))(rs':List (Option Row))(r:Tree)(e:Exit)(S:St):Prop:=I7 rvs r e S/\S.bs.take bs'.length=bs'/\S.rs.take rs'.length=rs'/\(bs'.all λp=>p.2.all (Tree.pre bs'.length rs'.length))=true
def CtL.of{f:FuncId}{C:Func}{c:Code}{args:List Tree}{bs bs':List (TypeId×List Tree)}{rs rs':List (Option Row)}{r:Tree}{n:Nat}{I:List ResultVar}(hf:prog.funcs[f]? =some C)(q:C.body=some c)(a0:(C.name== "runtime.NumGoroutine")=false)(hn:C.ntmps=n)(hl:Nat.ble args.length n=true)(hr:C.results.toList=I)(b0:bs'.length=bs.length)(a3:rs'.length=rs.length)
  (h:∀(w0:World) (G X:Nat->Prop) (P:Nat->Nat),AWP w0 ⟨G,X,bs.length,P⟩ c (Lv I bs' rs' r) ⟨n,jL 0 args,bs,rs⟩):CtL f args bs rs bs' rs' r:=by
 refine⟨⟨C,hf,a0,by rw[q];rfl⟩,a3,λw G0 bx rv vs H hm hp=>?_⟩;have h:AWP w G0 c (Lv I bs' rs' r) ⟨n,jL 0 args,bs,rs⟩:=by
  obtain⟨G,X,pn,P⟩:=G0;have H:pn=bs.length:=H;subst H;exact h w G X P
 have a5:=hp.length;have hl:args.length<=n:=by simpa using hl
 refine calls_of_wp hf q (wp_mono (h _ w ⟨bx,rv,hm,?_,Z,λi=>si hp i⟩) ?_)
 ·simp;omega
 rintro e a w' ⟨S',⟨⟨he,ts,N,rfl,a2⟩,D,M,a1⟩,p,rv',d,_,T,a4⟩;obtain⟨s,Q,U⟩:=jv d a4 (hr▸N);have b2:=hm.nb;have a9:=d.nb;have b1:bs'.length<=S'.bs.length:=by
  have:=congrArg List.length D;rw[QN]at this;omega
 have L:p.take bs'.length=bx:=by
  refine SO λi=>?_
  rw[QQ];split
  ·next J=>
   have o:=hm.pin i O;have y:=d.pin i O;rw[o,y]
  rw[Rl];omega
 have hM:Mem w G0 bs' rs' bx (rv'.take rs'.length) w':=by
  have B:∀b,¬GG G0 p rv' S'.rs b->¬GG G0 (p.take bs'.length) (rv'.take rs'.length) (S'.rs.take rs'.length) b:=λb q o=>by
   rcases o with o|o
   ·exact q (.inl o)
   exact q (.inr (dU o))
  have key:Mem w G0 (S'.bs.take bs'.length) (S'.rs.take rs'.length) (p.take bs'.length) (rv'.take rs'.length) w':=by
   refine⟨d.below,d.env0,d.g0,by simp[d.nb],by simp[d.nr],λi g J=>?_,λj v R hv hR=>?_,⟨d.nodup.bb.sublist (Tj _ _),λj v R b o y z A=>d.nodup.br j v R b (dk o).2 (dk y).2 z (Ra A),λi j u v X R b W o y z A K h6=>d.nodup.rr i j u v X R b W (dk o).2 (dk y).2 (dk z).2 (dk A).2 K h6⟩,λb q=>d.ge b (dU q),λi J=>?_⟩
   ·obtain⟨Y,J⟩:=dk J;obtain⟨ty,cs,us,o,y,z,A⟩:=d.box i g J;have K:=iI Y o;refine⟨ty,cs,us,K,y,vT (k:=bs'.length) (m:=rs'.length) (E:=en w' G0 p rv' S'.rs) (E':=en w' G0 (p.take bs'.length) (rv'.take rs'.length) (S'.rs.take rs'.length)) (Qi _) (λb _ q=>⟨Z,B b q⟩) (λb g q hg=>iI (l:=p) q hg) (λj v hj S=>?_) z ?_,A⟩
    ·show dX (rv'.take _) (S'.rs.take _) j=some v
     have S:dX rv' S'.rs j=some v:=S;unfold dX at S⊢;rw[QQ,QQ,if_pos hj,if_pos hj];exact S
    rw[D]at K;exact Qt.1 a1 _ (Qo K)
   ·obtain⟨xs,o,y,z,A⟩:=d.row j v R (dk hv).2 (dk hR).2;exact⟨xs,o,y.mono (Qi _) λb _ q=>⟨Z,B b q⟩,z,A⟩
   exact iI O (d.pin i J)
  rwa[D,M,L]at key
 have V:∀b,¬GG G0 p rv' S'.rs b->¬GG G0 bx (rv'.take rs'.length) rs' b:=λb q o=>by
  rcases o with o|o
  ·exact q (.inl o)
  rw[<-L,<-M]at o;simp only[QN]at o;rcases aN.1 o with y|⟨j,v,R,y,z,A⟩
  ·exact q (.inr (aN.2 (.inl (Ra y))))
  exact q (.inr (aN.2 (.inr ⟨j,v,R,(dk y).2,(dk z).2,A⟩)))
 have key:a.defers=[]/\∃v,(results C a.tmps).run prog w'=.ok v w'/\(λe w'=>∃v rv',e=Ending.returned v/\Mem w G0 bs' rs' bx rv' w'/\PT w' (GG G0 bx rv' rs') [v] [kx ts]) (.returned v) w':=by
  refine⟨T,if h:s.toArray.size=1 then s.toArray[0]else .tuple s.toArray,?_,_,rv'.take rs'.length,Z,hM,?_⟩
  ·unfold results;rw[Sem.run_bind,RD,Sem.run_map];exact congrArg (λx:Result (List Value)=>(x.andThen λa w'=>Result.ok a.toArray w').andThen λa w'=>Sem.run prog (pure (if h:a.size=1 then a[0]else Value.tuple a)) w') Q
  have o:FT (en w' G0 p rv' S'.rs) [if h:s.toArray.size=1 then s.toArray[0]else .tuple s.toArray] [kx ts]:=by
   match s,ts,U with
   |[],[],_=>exact .tup [] [] .nil .nil
   |[u],[t],h=>exact h
   |u::u'::us,t::t'::ts,h=>
    rw[dif_neg F];exact .tup _ _ h .nil
  exact(o.plain a2).mono (Qi _) λb _ q=>⟨Z,V b q⟩
 rcases he with rfl|rfl
 ·exact key
 exact key
def sn{w0:World}{G0:Bse}{o:Oper}{ops:Array Oper}{a:List Oper}{Q:Exit->St->Prop}{n d:Nat}{sl sl':List (Nat×Tree)}{bs g b bs':List (TypeId×List Tree)}{rs q c rs':List (Option Row)}{f:FuncId}{xs:Array Operand}{e:Array TypeId}{ts:List Tree}{r:Tree}(k m:Nat)(y:o.op=.call {callee:=.value (.func f),args:=xs,argTypes:=e})(u:o.guard=none)(hd:o.dst=some d)(x:Nat.blt d n=true)(v:Nat.ble k bs.length=true)(w:Nat.ble m rs.length=true)(s:bs.take k=g)(A:rs.take m=q)(i:(g.all λp=>p.2.all (Tree.pre k m))=true)(t:CtL f ts g q b c r)(B:xs.toList.map (St.ev ⟨n,sl,bs,rs⟩)=ts)(z:ts.all (oE k)=true)(l:(sl.map λp=>(p.1,killU m p.2))=sl')(h:b++((bs.drop k).map λp=>(p.1,p.2.map (killU0 m)))=bs')(j:c++rs.drop m=rs')(K:AOps w0 G0 ops a Q ⟨n,(d,r)::sl',bs',rs'⟩):AOps w0 G0 ops (o::a) Q ⟨n,sl,bs,rs⟩:=by
 subst s A l h j;refine eA u (FY (S:=⟨n,sl,bs,rs⟩) y (by rw[hd];simpa[df,Q7]using x) v w i t B z) ?_;rw[hd];exact K
def xV:Tree->Bool
 | .sc _=>true
 |_=>false
def Tree.scs:Tree->Bool
 | .sc _=>true
 | .agg cs=>cs.all xV
 |_=>false
def Lw{W W':World}{G G':Nat->Prop}:∀{us:List Value} {ts:List Tree},PT W G us ts->ts.all xV=true->PT W' G' us ts
 |[],[],_,_=>.nil
 |[],_::_,h,_=>by cases h
 |_::_,[],h,_=>by cases h
 |u::us,t::ts,h,ht=>by
  rw[Rc,Qh]at ht;cases t with
  |sc v=>
   cases h with
   |sc _ h=>exact .sc _ (Lw h ht.2)
  |_=>cases ht.1
def MF{W W':World}{G G':Nat->Prop}{v:Value}{r:Tree}(h:PT W G [v] [r])(a:r.scs=true):PT W' G' [v] [r]:=by
 cases r with
 |sc x=>
  cases h with
  |sc _ _=>exact .sc _ .nil
 |agg cs=>
  cases h with
  |agg xs _ hx _=>exact .agg xs cs (Lw hx a) .nil
 |_=>cases a
def CtV.of_ct{f:FuncId}{ty:TypeId}{cs ts:List Tree}{r:Tree}(h:Ct f (.ref cs::ts) r)(t:r.scs=true):CtV f ty cs ts r:=by
 refine⟨h.1,λG w g us vs o p z a k q s=>?_⟩;obtain⟨A,m,n,_⟩:=o;have c:∀b,b<w.heap.size->¬G b->w.heap[b]? =w.heap[b]? /\¬(G b/\b≠g):=λb _ d=>⟨Z,λi=>d i.1⟩
 have l:PT w (λb=>G b/\b≠g) (.pointer (some ⟨g,0,none⟩)::vs) (.ref cs::ts):=.ref g 0 us cs a.lt (λi=>i.2 Z) (λj u x=>by rw[QT,a.cell];simpa using x) (k.mono (Qi _) c) (s.mono (Qi _) c);refine(h.2 (λb=>G b/\b≠g) w _ (m.below n (Qi _)) (λb d=>p b d.1) l).mono ?_;rintro e w' ⟨v,rfl,y,d⟩;exact⟨v,Z,MF y t,d⟩
def bG{S:St}{o:Oper}{x:Operand}{cs:List Tree}(c:o.op=.nilCheck x)(f:S.ev x=.ref cs):OpOK o S (.ref cs):=by
 intro w0 G0 bx rv w T g e;have a:=bY e f (by rw[c];simp[Op.operands]);obtain⟨b,off,xs,d,_⟩:=a.isRef;refine OpRuns.of_ok (v:=.pointer (some ⟨b,off,none⟩)) (W':=w) ?_ ⟨d▸a,Below.refl _ _⟩;simp[execOp,c,d]
def PS.cells(s:PS):List Tree:=[.sl (s.l.map Tok.tree),.sc (.int .i64 ((s.a:Nat):Int)),.sc (.bool s.bad)]
def IT(k:Nat)(x:ByteArray)(t:Tok):Bool:=decide (t.k=k)&&decide (t.x=x)
def aM(a b:ByteArray):(a.toList==b.toList)=decide (a=b):=by
 by_cases h:a=b
 ·rw[h,decide_eq_true Z];simp
 rw[decide_eq_false h];exact(Lib.bytes_beq_false_iff a b).2 h
def oF{s:PS}(h:(s.bad||decide (s.l.length<=s.a))=true):s.nxt=dN:=by
 rw[Q5]at h;exact if_pos (h.imp id of_decide_eq_true)
def oG{s:PS}(h:(s.bad||decide (s.l.length<=s.a))=false):s.bad=false/\s.a<s.l.length/\s.l[s.a]? =some s.nxt:=by
 rw[QD]at h;have b:s.a<s.l.length:=by have:=of_decide_eq_false h.2;omega
 refine⟨h.1,b,?_⟩;unfold PS.nxt;rw[if_neg (by rw[h.1];simp;omega),Qp,Qj b];rfl
