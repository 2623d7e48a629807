import Derived.Test.YtfoejfohbkmmeaaGreatDoorQ05
import Derived.Test.YtfoejfohbkmmeaaGreatDoorQ00
import Derived.Test.YtfoejfohbkmmeaaGreatDoorQ03
namespace Go.Proofs.YtfoejfohbkmmeaaGreatDoor
open Go.RowKit
open Lib renaming hid→J
def wK(K:St->Prop)(Q:Exit->St->Prop):Exit->St->Prop
 | .normal,S=>K S
 |e,S=>Q e S
def wL(id:Nat)(Q:Exit->St->Prop):Exit->St->Prop
 | .exit id',S=>if id'=id then Q .normal S else Q (.exit id') S
 |e,S=>Q e S
section
variable {w0:World} {G0:Nat->Prop} {Q:Exit->St->Prop} {S:St}
theorem AWP.mono{c:Code}{b:Exit->St->Prop}(h:AWP w0 G0 c Q S)(d:∀e S,Q e S->b e S):AWP w0 G0 c b S:=fun a w i=>wp_mono (h a w i) fun e _ _ ⟨S',f,g⟩=>⟨S',d e S' f,g⟩
theorem ax(h:Q .normal S):AWP w0 G0 .skip Q S:=fun _ _ a=>wp_skip ⟨S,h,a⟩
theorem aZ{id:Nat}(h:Q (.exit id) S):AWP w0 G0 (.exit id) Q S:=fun _ _ a=>wp_exit ⟨S,h,a⟩
theorem aC(h:Q .ret S):AWP w0 G0 .ret Q S:=fun _ _ a=>wp_ret ⟨S,h,a⟩
theorem ab{x y:Code}(h:AWP w0 G0 x (wK (AWP w0 G0 y Q) Q) S):AWP w0 G0 (.seq x y) Q S:=fun a w d=>wp_seq (wp_mono (h a w d) fun e f w' ⟨S',c,b⟩=>by
 cases e with
 |normal=>exact c f w' b
 |_=>exact⟨S',c,b⟩)
theorem aH{c:Operand}{x y:Code}{b:Bool}(j:S.ev c=.sc (.bool b))(k:b=true->AWP w0 G0 x Q S)(m:b=false->AWP w0 G0 y Q S):AWP w0 G0 (.cond c x y) Q S:=fun a w e=>by
 have l:a.eval c=.bool b:=by
  obtain⟨bx,rv,n,o,i,d⟩:=e;rw[vf];have:FT (en w G0 bx rv S.rs) [cA (fun s=>a.tmps.getD s undef) c] [S.ev c]:=by
   cases c with
   |tmp s=>exact d s
   |const v=>exact .pure (.sc v .nil) .nil
   |global g=>exact .pure (.sc _ .nil) .nil
   |func f=>exact .pure (.sc _ .nil) .nil
  rw[j]at this;exact this.isSc
 exact wp_cond_split l (fun h=>k h a w e) (fun h=>m h a w e)
theorem aE{id:Nat}{c:Code}(h:AWP w0 G0 c (wL id Q) S):AWP w0 G0 (.block id c) Q S:=fun a w f=>wp_block (wp_mono (h a w f) fun e g w' ⟨S',b,d⟩=>by
 cases e with
 |exit id'=>
  simp only[wL]at b;simp only[Exit.inBlock];split at b
  ·rw[if_pos (by assumption)];exact⟨S',b,d⟩
  rw[if_neg (by assumption)];exact⟨S',b,d⟩
 |_=>exact⟨S',b,d⟩)
theorem fH(p:Nat->Prop):∀n,p n->∃m,p m/\∀k,k<m->¬p k:=fun n=>by
 induction n using Nat.strongRecOn with
 |ind n ih=>
  intro c;by_cases h:∃k,k<n/\p k
  ·obtain⟨k,a,b⟩:=h;exact ih k a b
  exact⟨n,c,fun k a b=>h ⟨k,a,b⟩⟩
open Classical in
theorem Eb{c:Code}(I:Nat->St->Prop)(n0:Nat)(h0:I n0 S)(round:∀n S,I n S->AWP w0 G0 c (wK (fun S'=>∃m,m<n/\I m S') Q) S):AWP w0 G0 (.loop c) Q S:=fun a w hs=>by
 let p:Act->World->Nat->Prop:=fun a w n=>∃S,I n S/\Sim w0 G0 S a w
 let μ:Act->World->Nat:=fun a w=>if h:∃n,p a w n then Classical.choose (fH (p a w) _ (Classical.choose_spec h))else 0
 have hμ:∀a w n,p a w n->p a w (μ a w)/\μ a w<=n:=fun a w n hn=>by
  have hex:∃n,p a w n:=⟨n,hn⟩
  have hsp:=Classical.choose_spec (fH (p a w) _ (Classical.choose_spec hex))
  have e:μ a w=Classical.choose (fH (p a w) _ (Classical.choose_spec hex)):=by simp only[μ];rw[dif_pos hex]
  rw[e]
  refine⟨hsp.1,?_⟩
  rcases MI n (Classical.choose (fH (p a w) _ (Classical.choose_spec hex)))with hlt|hge
  ·exact absurd hn (hsp.2 n hlt)
  ·exact hge
 refine wp_loop (fun a w=>∃n,p a w n) μ ⟨n0,S,h0,hs⟩ ?_
 rintro a w ⟨n,hn⟩
 obtain⟨⟨S',hI,hS⟩,_⟩:=hμ a w n hn
 refine wp_mono (round _ S' hI a w hS) ?_
 rintro e a' w' ⟨S'',h1,h2⟩
 cases e with
 |normal=>
  obtain⟨m,hm,hI'⟩:=h1
  have hp:p a' w' m:=⟨S'',hI',h2⟩
  exact⟨⟨m,hp⟩,NC (hμ a' w' m hp).2 hm⟩
 |_=>exact⟨S'',h1,h2⟩
def within0(m k:Nat):Tree->Bool
 | .box b _=>decide (b<m)
 | .own j| .elp j _=>decide (j<k)
 | .agg _| .tup _=>false
 |_=>true
def within(m k:Nat):Tree->Bool
 | .agg cs| .tup cs=>cs.all (within0 m k)
 |t=>within0 m k t
theorem FT.within0{E E':En}{m k:Nat}(f:E.W.heap.size<=E'.W.heap.size)(i:∀b,b<E.W.heap.size->¬E.G b->E'.W.heap[b]? =E.W.heap[b]? /\¬E'.G b)(e:∀b g,b<m->E.bx b=some g->E'.bx b=some g)(d:∀j v,j<k->E.rv j=some v->E'.rv j=some v){v:Value}{t:Tree}(h:FT E [v] [t])(a:Go.Proofs.YtfoejfohbkmmeaaGreatDoor.within0 m k t=true):FT E' [v] [t]:=by
 cases h with
 |pure h _=>exact .pure (h.mono f i) .nil
 |any=>exact .any _ .nil
 |box b off g h _=>exact .box b off g (e b g (by simpa[Go.Proofs.YtfoejfohbkmmeaaGreatDoor.within0]using a) h) .nil
 |own j n c A h _=>exact .own j n c A (d j _ (by simpa[Go.Proofs.YtfoejfohbkmmeaaGreatDoor.within0]using a) h) .nil
 |elp j off g n c h _=>exact .elp j off g n c (d j _ (by simpa[Go.Proofs.YtfoejfohbkmmeaaGreatDoor.within0]using a) h) .nil
 |agg=>simp[Go.Proofs.YtfoejfohbkmmeaaGreatDoor.within0]at a
 |tup=>simp[Go.Proofs.YtfoejfohbkmmeaaGreatDoor.within0]at a
theorem jJ{E E':En}{m k:Nat}(d:E.W.heap.size<=E'.W.heap.size)(e:∀b,b<E.W.heap.size->¬E.G b->E'.W.heap[b]? =E.W.heap[b]? /\¬E'.G b)(a:∀b g,b<m->E.bx b=some g->E'.bx b=some g)(c:∀j v,j<k->E.rv j=some v->E'.rv j=some v):∀{us:List Value} {ts:List Tree},FT E us ts->ts.all (Go.Proofs.YtfoejfohbkmmeaaGreatDoor.within0 m k)=true->FT E' us ts
 |[],[],_,_=>.nil
 |[],_::_,h,_=>by cases h
 |_::_,[],h,_=>by cases h
 |u::us,t::ts,h,hp=>by
  simp only[NP,Ma]at hp;exact FT.cons (FT.within0 d e a c h.head hp.1) (jJ d e a c h.tail hp.2)
theorem FT.within{E E':En}{m k:Nat}(f:E.W.heap.size<=E'.W.heap.size)(i:∀b,b<E.W.heap.size->¬E.G b->E'.W.heap[b]? =E.W.heap[b]? /\¬E'.G b)(d:∀b g,b<m->E.bx b=some g->E'.bx b=some g)(c:∀j v,j<k->E.rv j=some v->E'.rv j=some v){v:Value}{t:Tree}(h:FT E [v] [t])(e:Go.Proofs.YtfoejfohbkmmeaaGreatDoor.within m k t=true):FT E' [v] [t]:=by
 cases t with
 |agg cs=>
  obtain⟨xs,rfl,a⟩:=h.isAgg;exact .agg xs _ (jJ f i d c a e) .nil
 |tup cs=>
  obtain⟨xs,rfl,a⟩:=h.isTup;exact .tup xs _ (jJ f i d c a e) .nil
 |_=>exact FT.within0 f i d c h e
inductive Keeps (S:St) (m k:Nat):List (Nat×Tree)->Prop
 |nil:Keeps S m k []
 |cons {i:Nat} {t:Tree} {l:List (Nat×Tree)} (h:S.get i=t) (hw:within m k t=true) (hs:Keeps S m k l):Keeps S m k ((i,t)::l)
theorem Keeps.get{m k:Nat}{l:List (Nat×Tree)}(h:Keeps S m k l)(i:Nat):look l i=.any\/(look l i=S.get i/\within m k (S.get i)=true):=by
 induction h with
 |nil=>exact .inl Z
 |cons h hw _ ih=>
  rw[cV];split
  ·next e=>subst e;exact .inr ⟨h.symm,by rw[h];exact hw⟩
  exact ih
theorem e8{α:Type}{l:List α}{m i:Nat}{x:α}(h:(l.take m)[i]? =some x):i<m/\l[i]? =some x:=by
 rw[MZ]at h;split at h
 ·exact⟨by assumption,h⟩
 cases h
theorem jq{α:Type}{l:List α}{m i:Nat}{x:α}(h:l[i]? =some x)(a:i<m):(l.take m)[i]? =some x:=by rw[MZ,if_pos a];exact h
theorem Sim.less{a:Act}{w:World}(h:Sim w0 G0 S a w)(m k:Nat)(l:List (Nat×Tree))(K:Keeps S m k l)(o:((S.bs.take m).all fun p=>p.2.all (within0 m k))=true):Sim w0 G0 ⟨S.n,l,S.bs.take m,S.rs.take k⟩ a w:=by
 obtain⟨bx,rv,d,J,D,x⟩:=h;have r:∀b,b∈cq (bx.take m) (rv.take k) (S.rs.take k)->b∈cq bx rv S.rs:=fun b o=>by
  rcases aX.1 o with c|⟨j,u,X,c,e,f⟩
  ·exact aX.2 (.inl (MC c))
  exact aX.2 (.inr ⟨j,u,X,(e8 c).2,(e8 e).2,f⟩)
 have A:∀b,b<w.heap.size->¬GG G0 bx rv S.rs b->w.heap[b]? =w.heap[b]? /\¬GG G0 (bx.take m) (rv.take k) (S.rs.take k) b:=fun b _ I=>⟨Z,fun h=>I (h.imp id (r b))⟩
 have q:∀b g,b<m->(en w G0 bx rv S.rs).bx b=some g->(en w G0 (bx.take m) (rv.take k) (S.rs.take k)).bx b=some g:=fun b g y h=>jq (l:=bx) h y
 have s:∀j v,j<k->(en w G0 bx rv S.rs).rv j=some v->(en w G0 (bx.take m) (rv.take k) (S.rs.take k)).rv j=some v:=fun j v H h=>by
  show fh (rv.take k) (S.rs.take k) j=some v
  have h:fh rv S.rs j=some v:=h;unfold fh at h⊢;rw[MZ,if_pos H,MZ,if_pos H];exact h
 refine⟨bx.take m,rv.take k,⟨d.below,d.env0,d.g0,by simp[d.nb],by simp[d.nr],fun i g L=>?_,fun j u X c e=>?_,⟨d.nodup.bb.sublist (List.take_sublist _ _),fun j u X b c e f B=>d.nodup.br j u X b (e8 c).2 (e8 e).2 f (MC B),fun i j u v X Y b z c e f t=>d.nodup.rr i j u v X Y b z (e8 c).2 (e8 e).2 (e8 f).2 (e8 t).2⟩,fun b o=>d.ge b (r b o)⟩,J,D,fun i=>?_⟩
 ·obtain⟨c,e⟩:=e8 L;obtain⟨ty,cs,us,f,t,C,F⟩:=d.box i g e;have G:=jq f c;exact⟨ty,cs,us,G,t,jJ (E:=en w G0 bx rv S.rs) (E':=en w G0 (bx.take m) (rv.take k) (S.rs.take k)) (m:=m) (k:=k) (L5 _) A q s C (Mh.1 o _ (L9 G)),F⟩
 ·obtain⟨xs,f,t,C,F⟩:=d.row j u X (e8 c).2 (e8 e).2;exact⟨xs,f,t.mono (L5 _) A,C,F⟩
 show FT _ _ [look l i]
 rcases K.get i with c|⟨c,e⟩
 ·rw[c];exact .any _ .nil
 rw[c];exact FT.within (E:=en w G0 bx rv S.rs) (E':=en w G0 (bx.take m) (rv.take k) (S.rs.take k)) (m:=m) (k:=k) (L5 _) A q s (x i) e
def J2(S:St):ResultVar->Tree->Prop
 | .tmp t,x=>S.get t=x
 | .cell a ty,x=>∃b off bt cs,S.get a=.box b off/\S.bs[b]? =some (bt,cs)/\((∃n,qF Tryz.prog ty=some n/\Nat.ble (off+n) cs.length=true/\x=.agg ((cs.drop off).take n))\/(iU Tryz.prog ty=true/\cs[off]? =some x))
inductive ResL (S:St):List ResultVar->List Tree->Prop
 |nil:ResL S [] []
 |cons {x:ResultVar} {t:Tree} {xs:List ResultVar} {ts:List Tree} (h:J2 S x t) (hs:ResL S xs ts):ResL S (x::xs) (t::ts)
def mA:List Tree->Tree
 |[t]=>t
 |ts=>.tup ts
def J3(rvs:List ResultVar)(r:Tree)(e:Exit)(S:St):Prop:=(e=.normal\/e=.ret)/\∃ts,ResL S rvs ts/\mA ts=r/\r.plain=true
theorem yZ{a:Act}{w:World}{bx:List Nat}{rv:List Value}(F:Mem w0 G0 S.bs S.rs bx rv w)(c:∀i,FT (en w G0 bx rv S.rs) [a.tmps.getD i undef] [S.get i]){x:ResultVar}{t:Tree}(h:J2 S x t):
  ∃v,((match x with| .tmp t=>pure (a.tmps.getD t undef)| .cell b t=>do loadVar t (<-asAddr (a.tmps.getD b undef)):Sem Value)).run Tryz.prog w=.ok v w/\FT (en w G0 bx rv S.rs) [v] [t]:=by
 cases x with
 |tmp s=>
  have h:S.get s=t:=h;exact⟨_,Z,h▸c s⟩
 |cell s ty=>
  obtain⟨b,off,L,cs,J,G,E⟩:=h;have A:=c s;rw[J]at A;obtain⟨g,us,_,B,e,y,_⟩:=rB F G A;rcases E with⟨n,z,f,rfl⟩|⟨l,H⟩
  ·obtain⟨d,p,C,K⟩:=vh z;have f:off+n<=cs.length:=by simpa using f
   have I:((us.drop off).take n).length=n:=by have:=y.length;rw[Mf,MS];omega
   have D:=run_loadVar_mid (P:=Tryz.prog) w g off ty ((us.drop off).take n) d (fun j v m=>by
    rw[e.cell,NV];rw[MZ]at m;split at m
    ·rw[Nd]at m;exact m
    cases m) p C (by rw[I];exact K)
   refine⟨.agg ((us.drop off).take n).toArray,?_,.agg _ _ ((y.drop off).take n) .nil⟩;simp only[B,asAddr,Sem.run_bind,Sem.run_pure,Result.andThen_ok,D]
  obtain⟨u,p,o⟩:=y.get off t H;obtain⟨d,r,C⟩:=vk l;have k:(isAgg ty).run Tryz.prog w=.ok false w:=by
   unfold isAgg;rw[Sem.run_bind,run_underlying r w];cases d<;>simp_all
  have q:w.cell? ⟨g,off,none⟩=some u:=by rw[e.cell,NV];exact p
  refine⟨u,?_,o⟩;simp only[B,asAddr,Sem.run_bind,Sem.run_pure,Result.andThen_ok];simp[loadVar,k,q]
theorem jK{a:Act}{w:World}{bx:List Nat}{rv:List Value}(d:Mem w0 G0 S.bs S.rs bx rv w)(c:∀i,FT (en w G0 bx rv S.rs) [a.tmps.getD i undef] [S.get i]):∀{xs:List ResultVar} {ts:List Tree},ResL S xs ts->
  ∃vs,(xs.mapM (m:=Sem) fun| .tmp t=>pure (a.tmps.getD t undef)| .cell b t=>do loadVar t (<-asAddr (a.tmps.getD b undef))).run Tryz.prog w=.ok vs w/\FT (en w G0 bx rv S.rs) vs ts
 |[],[],_=>⟨[],Z,.nil⟩
 |x::xs,t::ts,.cons h hs=>by
  obtain⟨v,e,f⟩:=yZ d c h;obtain⟨vs,g,j⟩:=jK d c hs;refine⟨v::vs,?_,FT.cons f j⟩;rw[Qa,Sem.run_bind,e,Result.andThen_ok,Sem.run_bind,g,Result.andThen_ok];rfl
def j5:Nat->List Tree->List (Nat×Tree)
 |_,[]=>[]
 |k,t::ts=>(k,t)::j5 (k+1) ts
theorem mB:∀(ts:List Tree) (k i:Nat),look (j5 k ts) i=if k<=i then(ts[i-k]?).getD .any else .any
 |[],k,i=>by simp[j5,look]
 |t::ts,k,i=>by
  simp only[j5,cV,mB ts (k+1) i];by_cases h:k=i
  ·subst h;simp
  rw[if_neg h];by_cases a:k<=i
  ·rw[if_pos (by omega),if_pos a,show i-k=(i-(k+1))+1 by omega,Pd]
  rw[if_neg (by omega),if_neg a]
theorem Ct.of{f:FuncId}{d:Func}{c:Code}{args:List Tree}{r:Tree}{n:Nat}{p:List ResultVar}(J:Tryz.prog.funcs[f]? =some d)(q:d.body=some c)(z:(d.name== "runtime.NumGoroutine")=false)(U:d.ntmps=n)(L:Nat.ble args.length n=true)(O:d.results.toList=p)
  (h:∀w0 G0,AWP w0 G0 c (J3 p r) ⟨n,j5 0 args,[],[]⟩):Ct f args r:=by
 refine⟨⟨d,J,z,by rw[q];rfl⟩,fun G w vs N Q I=>?_⟩;have H:=I.length;have L:args.length<=n:=by simpa using L
 refine calls_of_wp J q (wp_mono (h w G _ w ⟨[],[],⟨Below.refl _ _,N,Q,Z,Z,fun i g E=>by simp at E,fun k v R o=>by simp at o,⟨Pb,fun k v R b o=>by simp at o,fun j k u v X R b _ o=>by simp at o⟩,fun b q=>by simp[cq]at q⟩,?_,Z,fun i=>?_⟩) ?_)
 ·simp;omega
 ·show FT _ _ [look (j5 0 args) i]
  rw[mB,if_pos (Mx _),O8];cases M:args[i]? with
  |none=>exact .any _ .nil
  |some t=>
   obtain⟨u,F,D⟩:=I.get i t M;have E:=(L7.1 F).1;have P:(vs.toArray++Array.replicate (d.ntmps-vs.toArray.size) undef).getD i undef=u:=by
    rw[MV,Oz (by simpa using E),NV,F];rfl
   rw[P];refine .pure (D.mono (L5 _) fun b _ l=>⟨Z,fun h=>?_⟩) .nil;rcases h with h|h
   ·exact l h
   simp[cq]at h
 rintro e a w' ⟨S',⟨T,ts,B,rfl,C⟩,bx,rv,K,_,A,y⟩;obtain⟨us,m,s⟩:=jK K y (O▸B);have key:a.defers=[]/\∃v,(results d a.tmps).run Tryz.prog w'=.ok v w'/\(fun e w'=>∃v,e=Ending.returned v/\PT w' G [v] [mA ts]/\Below w.heap.size w w') (.returned v) w':=by
  refine⟨A,if h:us.toArray.size=1 then us.toArray[0]else .tuple us.toArray,?_,_,Z,?_,K.below⟩
  ·unfold results;rw[Sem.run_bind,Ol,Sem.run_map];exact congrArg (fun x:Result (List Value)=>(x.andThen fun a w'=>Result.ok a.toArray w').andThen fun a w'=>Sem.run Tryz.prog (pure (if h:a.size=1 then a[0]else Value.tuple a)) w') m
  have S:FT (en w' G bx rv S'.rs) [if h:us.toArray.size=1 then us.toArray[0]else .tuple us.toArray] [mA ts]:=by
   match us,ts,s with
   |[],[],_=>exact .tup [] [] .nil .nil
   |[u],[t],h=>exact h
   |u::u'::us,t::t'::ts,h=>
    rw[dif_neg (by simp)];exact .tup _ _ h .nil
  exact(S.plain C).mono (L5 _) fun b _ l=>⟨Z,fun h=>l (.inl h)⟩
 rcases T with rfl|rfl
 ·exact key
 exact key
end
def In(P:Program)(ops:Array Oper)(dsts:List (Option Nat))(t:Array Value)(R:Nat->Value->World->Prop)(cons:Nat->Option Nat)(WI:World->Prop)(Ext:Nat->World->World->Prop)(i:Nat)(o:Oper):Prop:=
 (nU ops dsts R cons i o.guard/\∀(T:Nat->Value) (W:World),Given ops dsts t R cons WI i T W->OpRuns P o T W fun v W'=>R i v W'/\Ext i W W')\/
 (∃j b n s,o.guard=some (j,b)/\(j !=i&&reach ops n i j&&cons j==none&&dsts[j]? ==some (some s))=true/\(∀v W,R j v W->v≠ .bool b)/\∀W,R i undef W)
def StepsT(P:Program)(ops:Array Oper)(dsts:List (Option Nat))(t:Array Value)(R:Nat->Value->World->Prop)(cons:Nat->Option Nat)(WI:World->Prop)(Ext:Nat->World->World->Prop):Nat->List Oper->Prop
 |_,[]=>True
 |i,o::l=>In P ops dsts t R cons WI Ext i o/\StepsT P ops dsts t R cons WI Ext (i+1) l
theorem StepsT.at{P:Program}{ops:Array Oper}{a:List (Option Nat)}{t:Array Value}{R:Nat->Value->World->Prop}{cons:Nat->Option Nat}{c:World->Prop}{b:Nat->World->World->Prop}:∀(l:List Oper) (n:Nat),StepsT P ops a t R cons c b n l->∀(k:Nat) (o:Oper),l[k]? =some o->In P ops a t R cons c b (n+k) o
 |[],_,_,k,o,h=>by simp at h
 |x::l,n,hs,0,o,h=>by
  simp only[MW,MN]at h;subst h;exact hs.1
 |x::l,n,hs,k+1,o,h=>by
  have:=StepsT.at l (n+1) hs.2 k o (by simpa using h);rw[show n+1+k=n+(k+1) by omega]at this;exact this
theorem StepsT.cons{P:Program}{ops:Array Oper}{a:List (Option Nat)}{t:Array Value}{R:Nat->Value->World->Prop}{cons:Nat->Option Nat}{c:World->Prop}{b:Nat->World->World->Prop}{i:Nat}{o:Oper}{l:List Oper}
  (e:nU ops a R cons i o.guard) (h:∀(T:Nat->Value) (W:World),Given ops a t R cons c i T W->OpRuns P o T W fun v W'=>R i v W'/\b i W W') (d:StepsT P ops a t R cons c b (i+1) l):StepsT P ops a t R cons c b i (o::l):=⟨.inl ⟨e,h⟩,d⟩
theorem StepsT.skip{P:Program}{ops:Array Oper}{a:List (Option Nat)}{t:Array Value}{R:Nat->Value->World->Prop}{cons:Nat->Option Nat}{d:World->Prop}{c:Nat->World->World->Prop}{i:Nat}{o:Oper}{l:List Oper}{j:Nat}{b:Bool}(n s:Nat)
  (k:o.guard=some (j,b)) (f:(j !=i&&reach ops n i j&&cons j==none&&a[j]? ==some (some s))=true) (g:∀v W,R j v W->v≠ .bool b) (e:∀W,R i undef W) (h:StepsT P ops a t R cons d c (i+1) l):StepsT P ops a t R cons d c i (o::l):=⟨.inr ⟨j,b,n,s,k,f,g,e⟩,h⟩
theorem lW{P:Program}{id:Nat}{ops:Array Oper}{Q:Exit->Act->World->Prop}{a:Act}{w:World}(d:List (Option Nat))(R:Nat->Value->World->Prop)(cons:Nat->Option Nat)(C:World->Prop)(I:Nat->World->World->Prop)
  (hm:P.follows .mixedOrders=true) (a1:dM ops=true) (hd:ops.toList.map (·.dst)=d) (q:bV a.tmps.size d=true)
  (U:∀i W W',C W->I i W W'->C W') (F:∀i j v W W',cons j≠some i->C W->R j v W->I i W W'->R j v W') (h0:C w.drew)
  (K:StepsT P ops d a.tmps R cons C I 0 ops.toList)
  (X:∀(us:List Value) (W:World),us.length=d.length->(∀j,j<ops.size->cons j=none->R j (us.getD j undef) W)->C W->Q .normal ⟨b8 a.tmps (d.zip us),a.defers⟩ W):(Code.region id ops true).wp P Q a w:=by
 have a3:d.length=ops.size:=by rw[<-hd];simp
 refine dF (fun L a' W=>∃us,a'=⟨b8 a.tmps (d.zip us),a.defers⟩/\L.size=ops.size/\Closed ops L/\MonoAt R cons C (fZ a.tmps d) L us W) hm a1 ⟨fZ a.tmps d,?_,by simp,eI ops,⟨Z,fun j k=>absurd k dG,fun _ _=>rfl,h0⟩⟩ ?_ ?_
 ·rw[gX]
 ·rintro L a' W i o h1 h2 S h4 ⟨us,rfl,_,hc,m⟩;have hi:i<ops.size:=(ML.1 S).1;have Y:d[i]? =some o.dst:=by
   rw[<-hd,MQ];simp only[Np,S,Nu]
  have l:us.length=d.length:=by rw[m.len,dj]
  have E:L.getD i false=false:=getD_both h2;have M:∀n j,j≠i->reach ops n i j=true->L.getD j false=true:=fun n j k A=>by
   have r:=hc.step S h4;have:=r.reach n i j A (cM (by omega));rwa[am (fun e=>k e.symm)]at this
  have T:∀n j,reach ops n j i=true->L.getD j false=false:=fun n j A=>by
   cases hl:L.getD j false with
   |false=>rfl
   |true=>
    have:=hc.reach n j i A hl;rw[E]at this;cases this
  have G:Given ops d a.tmps R cons C i (fun s=>(b8 a.tmps (d.zip us)).getD s undef) W:=by
   refine⟨fun s f=>eC d us _ s f,fun n j s f=>?_,fun n j s f=>?_,m.wi⟩
   ·simp only[Ma,bne_iff_ne,beq_iff_eq]at f;obtain⟨⟨⟨k,A⟩,t⟩,f⟩:=f;show R j ((b8 a.tmps (d.zip us)).getD s undef) W
    rw[(cl d us _ j s q l f).1];refine m.fact j (M n j k A) fun c h=>?_
    rw[A8,h]at t;exact T n c t
   simp only[Ma,beq_iff_eq]at f;obtain⟨A,f⟩:=f;show(b8 a.tmps (d.zip us)).getD s undef=_
   rw[(cl d us _ j s q l f).1,m.old j (T n j A),jg _ _ _ _ f]
  have hS:=StepsT.at ops.toList 0 K i o (by simpa using S);rw[M0]at hS;have B:∀j b' n s,(j !=i&&reach ops n i j&&cons j==none&&d[j]? ==some (some s))=true->(∀v W,R j v W->v=.bool b')->yielded ops (b8 a.tmps (d.zip us)) j=some b':=by
   intro j b' n s f N;simp only[Ma,bne_iff_ne,beq_iff_eq]at f;obtain⟨⟨⟨k,A⟩,t⟩,f⟩:=f;have D:=N _ _ (m.fact j (M n j k A) fun c h=>by rw[t]at h;cases h);rw[<-(cl d us _ j s q l f).1]at D;have O:=(cl d us a.tmps j s q l f).2;have J:(ops[j]?).bind (·.dst)=some s:=by
    rw[<-hd,MQ,Np]at f;cases ho:ops[j]? with
    |none=>simp[ho]at f
    |some oj=>simpa[ho]using f
   have:(b8 a.tmps (d.zip us))[s]? =some (.bool b'):=by
    have V:s<(b8 a.tmps (d.zip us)).size:=by rw[fy];exact O
    simp only[MV,MH V,MK]at D;rw[MH V,D]
   simp only[yielded,J,Nc,this]
  rcases hS with hS|⟨j,b,n,s,H,f,N,a0⟩
  rotate_left
  ·have hw:Region.wanted o (yielded ops (b8 a.tmps (d.zip us)))=false:=by
    unfold Region.wanted;rw[H];simp only[Ma,bne_iff_ne,beq_iff_eq]at f;obtain⟨⟨⟨k,A⟩,t⟩,f⟩:=f;have D:=N _ _ (m.fact j (M n j k A) fun c h=>by rw[t]at h;cases h);rw[<-(cl d us _ j s q l f).1]at D;have O:=(cl d us a.tmps j s q l f).2;have J:(ops[j]?).bind (·.dst)=some s:=by
     rw[<-hd,MQ,Np]at f;cases ho:ops[j]? with
     |none=>simp[ho]at f
     |some oj=>simpa[ho]using f
    have V:s<(b8 a.tmps (d.zip us)).size:=by rw[fy];exact O
    simp only[MV,MH V,MK]at D;simp only[yielded,J,Nc,MH V];generalize (b8 a.tmps (d.zip us))[s]=u at D;cases u with
    |bool x=>
     cases x<;>cases b<;>first|rfl|(exact absurd Z D)
    |_=>rfl
   simp only[wpList];rw[if_neg (by rw[hw];exact MR)];refine⟨us.set i undef,?_,by simpa using h1,hc.step S h4,⟨by simpa using m.len,fun j k h=>?_,fun j k=>?_,m.wi⟩⟩
   ·exact iE d us _ _ i _ undef q l Y
   ·by_cases g:i=j
    ·subst g;have:(us.set i undef).getD i undef=undef:=by simp[List.getD,show i<us.length by omega]
     rw[this];exact a0 _
    rw[am g]at k;have:(us.set i undef).getD j undef=us.getD j undef:=by simp[List.getD,g]
    rw[this];refine m.fact j k fun c r=>?_
    have:=h c r;by_cases z:i=c
    ·subst z;exact E
    rwa[am z]at this
   by_cases g:i=j
   ·subst g;rw[cM (by omega)]at k;cases k
   rw[am g]at k;have:(us.set i undef).getD j undef=us.getD j undef:=by simp[List.getD,g]
   rw[this];exact m.old j k
  obtain⟨hg,y⟩:=hS;have y:=y _ W G;have hw:Region.wanted o (yielded ops (b8 a.tmps (d.zip us)))=true:=by
   unfold Region.wanted;cases H:o.guard with
   |none=>rfl
   |some p=>
    obtain⟨j,b⟩:=p;rw[H]at hg;obtain⟨n,s,f,N⟩:=hg;have:=B j b n s f N;simp only[this];cases b<;>rfl
  simp only[wpList];rw[if_pos hw];refine .inl<|Oper.wp_mono ?_ y.wp;rintro a4 a5 ⟨v,e,N,hE⟩;refine⟨us.set i v,?_,by simpa using h1,hc.step S h4,⟨by simpa using m.len,fun j k h=>?_,fun j k=>?_,U _ _ _ m.wi hE⟩⟩
  ·rw[e];exact iE d us _ _ i _ v q l Y
  ·by_cases g:i=j
   ·subst g;have:(us.set i v).getD i undef=v:=by simp[List.getD,show i<us.length by omega]
    rw[this];exact N
   rw[am g]at k;have:(us.set i v).getD j undef=us.getD j undef:=by simp[List.getD,g]
   rw[this];refine F i j _ _ _ (fun e=>?_) m.wi (m.fact j k fun c r=>?_) hE
   ·have:=h i e;rw[cM (by omega)]at this;cases this
   have:=h c r;by_cases z:i=c
   ·subst z;exact E
   rwa[am z]at this
  by_cases g:i=j
  ·subst g;rw[cM (by omega)]at k;cases k
  rw[am g]at k;have:(us.set i v).getD j undef=us.getD j undef:=by simp[List.getD,g]
  rw[this];exact m.old j k
 rintro L a' W h1 ⟨us,rfl,a2,_,m⟩;refine X us W (by rw[m.len,dj]) (fun j k h=>m.fact j (h1 j k) fun c r=>by rw[h]at r;cases r) m.wi
def eJ(s:Nat):List (Option Nat)->Option Nat
 |[]=>none
 |d::ds=>if d=some s then some 0 else(eJ s ds).map (· +1)
theorem eP{s:Nat}:∀{a:List (Option Nat)} {j:Nat},eJ s a=some j->a[j]? =some (some s)
 |[],j,h=>by simp[eJ]at h
 |d::a,j,h=>by
  simp only[eJ]at h;split at h
  ·next e=>cases h;subst e;rfl
  simp only[Na]at h;obtain⟨k,b,rfl⟩:=h;simpa using eP b
theorem fI{s:Nat}:∀{a:List (Option Nat)},eJ s a=none->a.contains (some s)=false
 |[],_=>rfl
 |d::a,h=>by
  simp only[eJ]at h;split at h
  ·cases h
  next e=>
  simp only[Pi]at h;simp only[OM,fI h,Bool.or_false,beq_eq_false_iff_ne];exact fun b=>e b.symm
theorem jL{n:Nat}:∀{a:List (Option Nat)} (i:Nat),bV n a=true->bV n (a.take i)=true
 |[],i,_=>by simp[bV]
 |d::a,0,_=>rfl
 |none::a,i+1,h=>by
  simp only[N5,bV]at h⊢;exact jL i h
 |some s::a,i+1,h=>by
  simp only[N5,bV,Ma,Nj]at h⊢;refine⟨⟨?_,h.1.2⟩,jL i h.2⟩;cases b:(a.take i).contains (some s)with
  |false=>rfl
  |true=>
   have:=MT.2 (MC (MT.1 b));rw[h.1.1]at this;cases this
def wM(ops:Array Oper)(dsts:List (Option Nat))(n i s:Nat):Bool:=
 match eJ s dsts with
 |none=>true
 |some j=>if j<i then reach ops n i j else reach ops n j i
def lX(ops:Array Oper)(dsts:List (Option Nat))(n:Nat):Bool:=(List.range ops.size).all fun i=>match ops[i]? with
 |some o=>(dN o.op).all (wM ops dsts n i)
 |none=>true
inductive Chain (ops:Array Oper) (dsts:List (Option Nat)) (n:Nat):Nat->St->List Oper->List Tree->Prop
 |nil {i:Nat} {S:St}:Chain ops dsts n i S [] []
 |op {i:Nat} {S:St} {o:Oper} {os:List Oper} {t:Tree} {ts:List Tree} (hg:o.guard=none) (h:OpOK o S t) (hs:Chain ops dsts n (i+1) (S.put o.dst t) os ts):Chain ops dsts n i S (o::os) (t::ts)
 |cnd {i:Nat} {S:St} {o:Oper} {os:List Oper} {t:Tree} {ts:List Tree} (j:Nat) (b:Bool) (s:Nat) (C:Prop) [Decidable C] (hg:o.guard=some (j,b)) (hj:(j !=i&&reach ops n i j&&decide (j<i)&&dsts[j]? ==some (some s))=true) (hG:∃gv,S.get s=.sc gv/\(C↔gv=.bool b)) (h:C->OpOK o S t) (hs:Chain ops dsts n (i+1) (S.put o.dst (if C then t else .sc undef)) os ts):Chain ops dsts n i S (o::os) ((if C then t else .sc undef)::ts)
def fk(S:St):List (Option Nat)->List Tree->St
 |d::ds,t::ts=>fk (S.put d t) ds ts
 |_,_=>S
theorem jM:∀(a:List (Option Nat)) (ts:List Tree) (S:St) (d:Option Nat) (t:Tree),a.length=ts.length->fk S (a++[d]) (ts++[t])=(fk S a ts).put d t
 |[],[],S,d,t,_=>rfl
 |_::a,_::ts,S,d,t,h=>jM a ts _ d t (by simpa using h)
theorem k6:∀(a:List (Option Nat)) (ts:List Tree) (S:St),(fk S a ts).bs=S.bs/\(fk S a ts).rs=S.rs/\(fk S a ts).n=S.n
 |[],_,S=>⟨Z,Z,Z⟩
 |_::_,[],S=>⟨Z,Z,Z⟩
 |d::a,t::ts,S=>by
  have:=k6 a ts (S.put d t);rw[dC,ch,eo]at this;exact this
theorem jr:∀(a:List (Option Nat)) (ts:List Tree) (S:St) (s:Nat),a.contains (some s)=false->(fk S a ts).get s=S.get s
 |[],_,S,s,_=>rfl
 |_::_,[],S,s,_=>rfl
 |d::a,t::ts,S,s,h=>by
  simp only[OM,Mz]at h;have:=jr a ts (S.put d t) s h.2;rw[dk,if_neg (fun e=>by rw[e]at h;simp at h)]at this;exact this
theorem mC:∀(a:List (Option Nat)) (ts:List Tree) (S:St) (n j s:Nat) (t:Tree),bV n a=true->a[j]? =some (some s)->ts[j]? =some t->(fk S a ts).get s=t
 |[],_,S,n,j,s,t,_,h,_=>by simp at h
 |_::_,[],S,n,j,s,t,_,_,h=>by simp at h
 |d::a,x::ts,S,n,0,s,t,ha,h,h'=>by
  simp only[MW,MN]at h h';subst h h';simp only[bV,Ma,Nj]at ha;show(fk (S.put (some s) x) a ts).get s=x
  rw[jr a ts _ s ha.1.1,dk,if_pos Z]
 |d::a,x::ts,S,n,j+1,s,t,ha,h,h'=>by
  have b:bV n a=true:=by
   cases d with
   |none=>exact ha
   |some _=>simp only[bV,Ma]at ha;exact ha.2
  exact mC a ts (S.put d x) n j s t b (by simpa using h) (by simpa using h')
theorem Chain.length{ops:Array Oper}{a:List (Option Nat)}{n i:Nat}{S:St}{b:List Oper}{ts:List Tree}(h:Chain ops a n i S b ts):b.length=ts.length:=by induction h<;>simp_all
theorem gA:∀{n:Nat} {a:List (Option Nat)} {j b s:Nat},bV n a=true->a[j]? =some (some s)->a[b]? =some (some s)->j=b
 |_,[],j,_,_,_,h,_=>by simp at h
 |n,d::a,0,0,s,_,_,_=>rfl
 |n,d::a,0,b+1,s,ha,h,c=>by
  simp only[MW,MN]at h;subst h;simp only[bV,Ma,Nj]at ha;have f:=L9 (i:=b) (by simpa using c:a[b]? =some (some s));have:=MT.2 f;rw[ha.1.1]at this;cases this
 |n,d::a,j+1,0,s,ha,h,c=>by
  simp only[MW,MN]at c;subst c;simp only[bV,Ma,Nj]at ha;have f:=L9 (i:=j) (by simpa using h:a[j]? =some (some s));have:=MT.2 f;rw[ha.1.1]at this;cases this
 |n,d::a,j+1,b+1,s,ha,h,c=>by
  have e:bV n a=true:=by
   cases d with
   |none=>exact ha
   |some _=>simp only[bV,Ma]at ha;exact ha.2
  rw[gA e (by simpa using h:a[j]? =_) (by simpa using c:a[b]? =_)]
section
variable {w0:World} {G0:Nat->Prop} {Q:Exit->St->Prop} {S:St}
def RT(G0:Nat->Prop)(bx:List Nat)(rv:List Value)(rs:List (Option Row))(ts:List Tree)(j:Nat)(v:Value)(W:World):Prop:=FT (en W G0 bx rv rs) [v] [ts.getD j .any]
def WT(w0 w:World)(G0:Nat->Prop)(S:St)(bx:List Nat)(rv:List Value)(W:World):Prop:=Mem w0 G0 S.bs S.rs bx rv W/\Below w.heap.size w W
theorem iH{ops:Array Oper}{c:List (Option Nat)}{n:Nat}{a:Act}{w:World}{bx:List Nat}{rv:List Value}(u:bV a.tmps.size c=true)(m:lX ops c n=true)(A:ops.toList.map (·.dst)=c)(q:∀i,FT (en w G0 bx rv S.rs) [a.tmps.getD i undef] [S.get i])(ts:List Tree):
  ∀(D:List Oper) (i:Nat) (us:List Tree) (S':St),Chain ops c n i S' D us->(∀(k:Nat) (o:Oper),D[k]? =some o->ops[i+k]? =some o)->us=ts.drop i->S'=fk S (c.take i) (ts.take i)->i+D.length<=ops.size->i<=ts.length->StepsT Tryz.prog ops c a.tmps (RT G0 bx rv S.rs ts) (fun _=>none) (WT w0 w G0 S bx rv) (fun _ W W'=>Below W.heap.size W W') i D
 |[],i,us,S',h,_,_,_,_,_=>trivial
 |o::D,i,us,S',h,hops,hus,hS',hlen,hle=>by
  have X:ops[i]? =some o:=hops 0 o Z;have a5:i<ops.size:=by simp only[Mb]at hlen;omega
  have b1:c.length=ops.size:=by rw[<-A];simp
  have a9:c[i]? =some o.dst:=by
   rw[<-A,MQ];simp only[Np,X,Nu]
  have d:=k6 (c.take i) (ts.take i) S;rw[<-hS']at d;have y:∀t G,us=t::G->G=ts.drop (i+1)/\ts[i]? =some t/\S'.put o.dst t=fk S (c.take (i+1)) (ts.take (i+1))/\i+1<=ts.length:=fun t G e=>by
   have z:ts.drop i=t::G:=by rw[<-hus,e]
   have p:i<ts.length:=by
    rcases MI i ts.length with h|h
    ·exact h
    rw[Mg h]at z;cases z
   rw[Md p]at z;injection z with h2 Y
   refine⟨Y.symm,by rw[L4 p,h2],?_,p⟩;obtain⟨a0,a3⟩:=L7.1 a9;rw[Mq a0,Mq p,jM _ _ _ _ _ (by simp only[Mf];omega),a3,h2,hS']
  have J:∀s,(∀j,c[j]? =some (some s)->i<=j)->S'.get s=S.get s:=fun s K=>by
   rw[hS'];refine jr _ _ _ s ?_;cases N:(c.take i).contains (some s)with
   |false=>rfl
   |true=>
    obtain⟨j,l,a4⟩:=Nb (MT.1 N);have z:(c.take i)[j]? =some (some s):=by rw[L4 l,a4]
    obtain⟨h2,Y⟩:=e8 z;have:=K j Y;omega
  have B:∀s j,c[j]? =some (some s)->j<i->∃t,ts[j]? =some t/\S'.get s=t:=fun s j l a2=>by
   have a1:j<ts.length:=by omega
   refine⟨ts[j],L4 a1,?_⟩;rw[hS'];have V:=jL i u;exact mC _ _ S a.tmps.size j s _ V (jq l a2) (jq (L4 a1) a2)
  have M:∀(T:Nat->Value) (W:World),Given ops c a.tmps (RT G0 bx rv S.rs ts) (fun _=>none) (WT w0 w G0 S bx rv) i T W->∀s,(dN o.op).contains s=true->FT (en W G0 bx rv S'.rs) [T s] [S'.get s]:=fun T W E s K=>by
   rw[d.2.1];have P:wM ops c n i s=true:=by
    have z:=Mh.1 m i (N1.2 a5);simp only[X]at z;exact Mh.1 z s (MT.1 K)
   unfold wM at P;cases Q:eJ s c with
   |none=>
    have I:=fI Q;rw[E.keep s I,J s (fun j l=>by
     have:=MT.2 (L9 l);rw[I]at this;cases this)]
    exact(q s).later E.wi.2
   |some j=>
    have l:=eP Q;simp only[Q]at P;split at P
    ·next p=>
     obtain⟨t,R,he⟩:=B s j l p;have:=E.fact n j s (by simp only[Ma,bne_iff_ne,beq_iff_eq];exact⟨⟨⟨by omega,P⟩,Z⟩,l⟩);unfold RT at this;rw[Mm,R,MK]at this;rw[he];exact this
    next hge=>
    rw[E.old n j s (by simp only[Ma,beq_iff_eq];exact⟨P,l⟩),J s (fun j' b0=>by
     rw[gA u b0 l];omega)]
    exact(q s).later E.wi.2
  have g:∀(k:Nat) (o:Oper),D[k]? =some o->ops[i+1+k]? =some o:=fun k x Q=>by have:=hops (k+1) x (by simpa using Q);rw[show i+1+k=i+(k+1) by omega,this]
  have f:i+1+D.length<=ops.size:=by simp only[Mb]at hlen;omega
  have H:∀t,OpOK o S' t->ts[i]? =some t->∀(T:Nat->Value) (W:World),Given ops c a.tmps (RT G0 bx rv S.rs ts) (fun _=>none) (WT w0 w G0 S bx rv) i T W->OpRuns Tryz.prog o T W fun v W'=>RT G0 bx rv S.rs ts i v W'/\Below W.heap.size W W':=fun t r R T W E=>by
   have:=r w0 G0 bx rv W T (by rw[d.1,d.2.1];exact E.wi.1) (M T W E);rw[d.2.1]at this;unfold RT;rw[Mm,R,MK];exact this
  have F:∀j s U,(j !=i&&reach ops n i j&&decide (j<i)&&c[j]? ==some (some s))=true->S'.get s=.sc U->(j !=i&&reach ops n i j&&(none:Option Nat)==none&&c[j]? ==some (some s))=true/\∀v W,RT G0 bx rv S.rs ts j v W->v=U:=fun j s U l hS=>by
   simp only[Ma,bne_iff_ne,beq_iff_eq,decide_eq_true_eq]at l⊢;obtain⟨⟨⟨z,h2⟩,Y⟩,h4⟩:=l;refine⟨⟨⟨⟨z,h2⟩,trivial⟩,h4⟩,fun v W L=>?_⟩;obtain⟨t,R,he⟩:=B s j h4 Y;unfold RT at L;rw[Mm,R,MK,<-he,hS]at L;exact L.isSc
  cases h with
  | @op _ _ _ _ t ts' hg r K=>
   obtain⟨e1,O,e3,e4⟩:=y t ts' rfl;exact .cons (by rw[hg];trivial) (H t r O) (iH u m A q ts D (i+1) ts' _ K g e1 e3 f e4)
  | @cnd _ _ _ _ t ts' j b s C _ hg l E r K=>
   obtain⟨U,hS,hC⟩:=E;obtain⟨e1,O,e3,e4⟩:=y _ ts' rfl;obtain⟨g1,g2⟩:=F j s U l hS;by_cases N:C
   ·rw[if_pos N]at O;exact .cons (by rw[hg];exact⟨n,s,g1,fun v W L=>(g2 v W L).trans (hC.1 N)⟩) (H t (r N) O) (iH u m A q ts D (i+1) ts' _ K g e1 e3 f e4)
   rw[if_neg N]at O;refine .skip n s hg g1 (fun v W L e=>N (hC.2 ((g2 v W L).symm.trans e))) (fun W=>?_) (iH u m A q ts D (i+1) ts' _ K g e1 e3 f e4);unfold RT;rw[Mm,O,MK];exact .pure (.sc _ .nil) .nil
theorem Cw{a:Act}{b:List (Option Nat)}{us:List Value}(c:bV a.tmps.size b=true)(e:us.length=b.length)(s:Nat):(b8 a.tmps (b.zip us)).getD s undef=match eJ s b with|none=>a.tmps.getD s undef|some j=>us.getD j undef:=by
 cases d:eJ s b with
 |none=>exact eC b us _ s (fI d)
 |some j=>exact(cl b us _ j s c e (eP d)).1
theorem vo{a:Act}{W:World}{bx:List Nat}{rv:List Value}{b:List (Option Nat)}{us:List Value}{ts:List Tree}(f:bV S.n b=true)(o:a.tmps.size=S.n)(g:a.defers=[])(h:us.length=b.length)(r:ts.length=b.length)(q:Mem w0 G0 S.bs S.rs bx rv W)(k:∀i,FT (en W G0 bx rv S.rs) [a.tmps.getD i undef] [S.get i])(s:∀j,j<b.length->RT G0 bx rv S.rs ts j (us.getD j undef) W):Sim w0 G0 (fk S b ts) ⟨b8 a.tmps (b.zip us),a.defers⟩ W:=by
 have c:=k6 b ts S;refine⟨bx,rv,by rw[c.1,c.2.1];exact q,by rw[c.2.2,fy];exact o,g,fun i=>?_⟩;rw[c.2.1];show FT _ [(b8 a.tmps (b.zip us)).getD i undef] _
 rw[Cw (by rw[o];exact f) h];cases m:eJ i b with
 |none=>rw[jr b ts S i (fI m)];exact k i
 |some j=>
  have p:=eP m;have l:=(L7.1 p).1;have:=s j l;unfold RT at this;have d:j<ts.length:=by omega
  have e:ts.getD j .any=ts[j]:=by rw[Mm,L4 d,MK]
  rw[e]at this;rw[mC b ts S S.n j i _ f p (L4 d)];exact this
theorem Ec{id n:Nat}{ops:List Oper}{b:List (Option Nat)}{ts:List Tree}(q:dM ops.toArray=true)(t:ops.map (·.dst)=b)(c:bV S.n b=true)(e:lX ops.toArray b n=true)(f:Chain ops.toArray b n 0 S ops ts)(k:Q .normal (fk S b ts)):AWP w0 G0 (.region id ops.toArray true) Q S:=by
 rintro a w ⟨bx,rv,z,l,p,d⟩;have m:b.length=ops.length:=by rw[<-t];simp
 have h:=iH (w0:=w0) (G0:=G0) (S:=S) (w:=w) (bx:=bx) (rv:=rv) (a:=a) (by rw[l];exact c) e (by simpa using t) d ts ops 0 ts S f (fun k o A=>by simpa using A) Z Z (by simp) (Mx _);refine lW b (RT G0 bx rv S.rs ts) (fun _=>none) (WT w0 w G0 S bx rv) (fun _ W W'=>Below W.heap.size W W') (by kernel_rfl) q (by simpa using t) (by rw[l];exact c)
  (fun _ W W' r x=>⟨r.1.later x,r.2.trans (x.mono r.2.size)⟩) (fun _ j v W W' _ _ s y=>FT.later s y) ⟨z.later (Below.refl _ _).drew,(Below.refl _ _).drew⟩ (by simpa using h) ?_
 intro us W g s u;exact⟨_,k,vo c l p g (by rw[m];exact f.length.symm) u.1 (fun i=>(d i).later u.2) (fun j B=>s j (by simp;omega) Z)⟩
theorem OpRuns.mono{P:Program}{o:Oper}{T:Nat->Value}{W:World}{K a:Value->World->Prop}(h:OpRuns P o T W K)(b:∀v W,K v W->a v W):OpRuns P o T W a:=by
 unfold OpRuns at h⊢;generalize (execOp (cA T) o).run P W=r at h;cases r with
 |ok n w'=>
  cases n<;>first
   |exact b _ _ h
   |exact Calls.mono h (fun e c ⟨v,d,h⟩=>⟨v,d,b _ _ h⟩)
   |exact h.elim
 |halt x w'=>exact h.elim
theorem StepsT.plain{P:Program}{ops:Array Oper}{a:List (Option Nat)}{t:Array Value}{R:Nat->Value->World->Prop}{cons:Nat->Option Nat}{f:World->Prop}{c:Nat->World->World->Prop}:∀{d:List Oper} {i:Nat},StepsT P ops a t R cons f c i d->(d.all fun o=>o.guard.isNone)=true->Steps P ops a t R cons f c i d
 |[],_,_,_=>trivial
 |o::d,i,h,hg=>by
  simp only[NP,Ma]at hg;refine⟨?_,StepsT.plain h.2 hg.2⟩;rcases h.1 with e|⟨j,b,n,s,e,_⟩
  ·exact e
  rw[e]at hg;simp at hg
theorem vq{id n:Nat}{ops:List Oper}{c:Oper}{b:List (Option Nat)}{ts:List Tree}{S':St}(D:dM (ops++[c]).toArray=true)(L:ops.map (·.dst)=b)(f:c.dst=none)(x:c.guard=none)(F:(ops.all fun o=>o.guard.isNone)=true)(g:bV S.n (b++[none])=true)(p:lX (ops++[c]).toArray (b++[none]) n=true)(s:(List.range ops.length).all (fun i=>reach (ops++[c]).toArray ops.length ops.length i)=true)
  (q:Chain (ops++[c]).toArray (b++[none]) n 0 S ops ts) (H:n5 w0 G0 c (fk S b ts) S') (k:Q .normal S'):AWP w0 G0 (.region id (ops++[c]).toArray true) Q S:=by
 rintro a w ⟨bx,rv,O,A,C,m⟩;have B:b.length=ops.length:=by rw[<-L];simp
 have t:ts.length=b.length:=by rw[B];exact q.length.symm
 have r:(ops++[c]).map (·.dst)=b++[none]:=by rw[Nk,L];simp[f]
 have y:=(iH (w0:=w0) (G0:=G0) (S:=S) (w:=w) (bx:=bx) (rv:=rv) (a:=a) (by rw[A];exact g) p (by simpa using r) m ts ops 0 ts S q (fun k o K=>by rw[M0,NV,ME (L7.1 K).1];exact K) Z Z (by simp) (Mx _)).plain F;refine lS (b++[none]) (RT G0 bx rv S.rs ts) (fun _=>none) (WT w0 w G0 S bx rv) (fun _ W W'=>Below W.heap.size W W') (by kernel_rfl) D (by simpa using r) (by rw[A];exact g) (fun _=>rfl)
  (fun _ W W' E J=>⟨E.1.later J,E.2.trans (J.mono E.2.size)⟩) (fun _ j v W W' _ G M=>FT.later G M) ⟨O.later (Below.refl _ _).drew,(Below.refl _ _).drew⟩ ops.length c (by simp) (by simp) x f s (by simpa using y) ?_
 intro us W u G I;have d:Sim w0 G0 (fk S (b++[none]) (ts++[.any])) ⟨b8 a.tmps ((b++[none]).zip us),a.defers⟩ W:=vo g A C u (by simp[t]) I.1 (fun i=>(m i).later I.2) (fun j N=>by
  unfold RT;by_cases z:j<ts.length
  ·have:=G j (by omega);unfold RT at this;have e:(ts++[Tree.any]).getD j .any=ts.getD j .any:=by rw[Mm,ME z,<-Mm]
   rw[e];exact this
  have:j=ts.length:=by simp at N;omega
  subst this;rw[Mm (l:=ts++[Tree.any]),Mw (L5 _),M4];exact .any _ .nil)
 rw[jM _ _ _ _ _ t.symm]at d;have:=H _ _ d;rw[f]at this;exact this.mono fun v W h=>⟨_,k,h⟩
end
end Go.Proofs.YtfoejfohbkmmeaaGreatDoor
