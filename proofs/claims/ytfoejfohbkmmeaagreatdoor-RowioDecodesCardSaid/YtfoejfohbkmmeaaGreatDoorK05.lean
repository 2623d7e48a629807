import Derived.Test.YtfoejfohbkmmeaaGreatDoorK04
set_option linter.defProp false
open Go.Proofs.Tryz
namespace Go.Proofs.YtfoejfohbkmmeaaGreatDoor
open Go.RowKit
open Lib renaming hid→J
def xT(K:St->Prop)(Q:Exit->St->Prop):Exit->St->Prop
 | .normal,S=>K S
 |e,S=>Q e S
def AW(id:Nat)(Q:Exit->St->Prop):Exit->St->Prop
 | .exit id',S=>if id'=id then Q .normal S else Q (.exit id') S
 |e,S=>Q e S
section
variable {w0:World} {G0:Bse} {Q:Exit->St->Prop} {S:St}
def AWP.mono{c:Code}{b:Exit->St->Prop}(h:AWP w0 G0 c Q S)(g:∀e S,Q e S->b e S):AWP w0 G0 c b S:=λa w i=>wp_mono (h a w i) λe _ _ ⟨S',d,f⟩=>⟨S',g e S' d,f⟩
def ar(h:Q .normal S):AWP w0 G0 .skip Q S:=λ_ _ a=>wp_skip ⟨S,h,a⟩
def aX{id:Nat}(h:Q (.exit id) S):AWP w0 G0 (.exit id) Q S:=λ_ _ a=>wp_exit ⟨S,h,a⟩
def aQ(h:Q .ret S):AWP w0 G0 .ret Q S:=λ_ _ a=>wp_ret ⟨S,h,a⟩
def ab{x y:Code}(h:AWP w0 G0 x (xT (AWP w0 G0 y Q) Q) S):AWP w0 G0 (.seq x y) Q S:=λa w f=>wp_seq (wp_mono (h a w f) λe d w' ⟨S',b,c⟩=>by
 cases e with
 |normal=>exact b d w' c
 |_=>exact⟨S',b,c⟩)
def H:type_of% @ab:=@ab
def aK{c:Operand}{x y:Code}{b:Bool}(i:S.ev c=.sc (.bool b))(m:b=true->AWP w0 G0 x Q S)(l:b=false->AWP w0 G0 y Q S):AWP w0 G0 (.cond c x y) Q S:=λa w d=>by
 have k:a.eval c=.bool b:=by
  obtain⟨bx,rv,n,o,j,e⟩:=d;rw[zB];have:FT (en w G0 bx rv S.rs) [dG (λs=>a.tmps.getD s undef) c] [S.ev c]:=by
   cases c with
   |tmp s=>exact e s
   |const v=>exact .pure (.sc v .nil) .nil
   |global g=>exact .pure (.sc _ .nil) .nil
   |func f=>exact .pure (.sc _ .nil) .nil
  rw[i]at this;exact this.isSc
 exact wp_cond_split k (λh=>m h a w d) (λh=>l h a w d)
def aB{id:Nat}{c:Code}(h:AWP w0 G0 c (AW id Q) S):AWP w0 G0 (.block id c) Q S:=λa w f=>wp_block (wp_mono (h a w f) λe g w' ⟨S',b,d⟩=>by
 cases e with
 |exit id'=>
  simp only[AW]at b;simp only[Exit.inBlock];split at b
  ·rw[if_pos (by assumption)];exact⟨S',b,d⟩
  rw[if_neg (by assumption)];exact⟨S',b,d⟩
 |_=>exact⟨S',b,d⟩)
def gU(p:Nat->Prop):∀n,p n->∃m,p m/\∀k,k<m->¬p k:=λn=>by
 induction n using Nat.strongRecOn with
 |ind n ih=>
  intro c;by_cases h:∃k,k<n/\p k
  ·obtain⟨k,a,b⟩:=h;exact ih k a b
  exact⟨n,c,λk a b=>h ⟨k,a,b⟩⟩
open Classical in
def Jc{c:Code}(I:Nat->St->Prop)(n0:Nat)(h0:I n0 S)(round:∀n S,I n S->AWP w0 G0 c (xT (λS'=>∃m,m<n/\I m S') Q) S):AWP w0 G0 (.loop c) Q S:=λa w hs=>by
 let p:Act->World->Nat->Prop:=λa w n=>∃S,I n S/\Sim w0 G0 S a w
 let μ:Act->World->Nat:=λa w=>if h:∃n,p a w n then Classical.choose (gU (p a w) _ (Classical.choose_spec h))else 0
 have hμ:∀a w n,p a w n->p a w (μ a w)/\μ a w<=n:=λa w n hn=>by
  have hex:∃n,p a w n:=⟨n,hn⟩
  have hsp:=Classical.choose_spec (gU (p a w) _ (Classical.choose_spec hex))
  have e:μ a w=Classical.choose (gU (p a w) _ (Classical.choose_spec hex)):=by simp only[μ];rw[dif_pos hex]
  rw[e]
  refine⟨hsp.1,?_⟩
  rcases RE n (Classical.choose (gU (p a w) _ (Classical.choose_spec hex)))with hlt|hge
  ·exact absurd hn (hsp.2 n hlt)
  ·exact hge
 refine wp_loop (λa w=>∃n,p a w n) μ ⟨n0,S,h0,hs⟩ ?_
 rintro a w ⟨n,hn⟩
 obtain⟨⟨S',hI,hS⟩,_⟩:=hμ a w n hn
 refine wp_mono (round _ S' hI a w hS) ?_
 rintro e a' w' ⟨S'',h1,h2⟩
 cases e with
 |normal=>
  obtain⟨m,hm,hI'⟩:=h1
  have hp:p a' w' m:=⟨S'',hI',h2⟩
  exact⟨⟨m,hp⟩,SG (hμ a' w' m hp).2 hm⟩
 |_=>exact⟨S'',h1,h2⟩
def within0(m k:Nat):Tree->Bool
 | .box b _=>decide (b<m)
 | .own j| .elp j _=>decide (j<k)
 | .agg _| .tup _=>false
 |_=>true
def within(m k:Nat):Tree->Bool
 | .agg cs| .tup cs=>cs.all (within0 m k)
 |t=>within0 m k t
def FT.within0{E E':En}{m k:Nat}(i:E.W.heap.size<=E'.W.heap.size)(f:∀b,b<E.W.heap.size->¬E.G b->E'.W.heap[b]? =E.W.heap[b]? /\¬E'.G b)(e:∀b g,b<m->E.bx b=some g->E'.bx b=some g)(d:∀j v,j<k->E.rv j=some v->E'.rv j=some v){v:Value}{t:Tree}(h:FT E [v] [t])(a:Go.Proofs.YtfoejfohbkmmeaaGreatDoor.within0 m k t=true):FT E' [v] [t]:=by
 cases h with
 |pure h _=>exact .pure (h.mono i f) .nil
 |any=>exact .any _ .nil
 |box b off g h _=>exact .box b off g (e b g (by simpa[Go.Proofs.YtfoejfohbkmmeaaGreatDoor.within0]using a) h) .nil
 |own j n c A h _=>exact .own j n c A (d j _ (by simpa[Go.Proofs.YtfoejfohbkmmeaaGreatDoor.within0]using a) h) .nil
 |elp j off g n c h _=>exact .elp j off g n c (d j _ (by simpa[Go.Proofs.YtfoejfohbkmmeaaGreatDoor.within0]using a) h) .nil
 |agg=>simp[Go.Proofs.YtfoejfohbkmmeaaGreatDoor.within0]at a
 |tup=>simp[Go.Proofs.YtfoejfohbkmmeaaGreatDoor.within0]at a
def lk{E E':En}{m k:Nat}(e:E.W.heap.size<=E'.W.heap.size)(c:∀b,b<E.W.heap.size->¬E.G b->E'.W.heap[b]? =E.W.heap[b]? /\¬E'.G b)(a:∀b g,b<m->E.bx b=some g->E'.bx b=some g)(d:∀j v,j<k->E.rv j=some v->E'.rv j=some v):∀{us:List Value} {ts:List Tree},FT E us ts->ts.all (Go.Proofs.YtfoejfohbkmmeaaGreatDoor.within0 m k)=true->FT E' us ts
 |[],[],_,_=>.nil
 |[],_::_,h,_=>by cases h
 |_::_,[],h,_=>by cases h
 |u::us,t::ts,h,hp=>by
  simp only[SJ,Q9]at hp;exact FT.cons (FT.within0 e c a d h.head hp.1) (lk e c a d h.tail hp.2)
def FT.within{E E':En}{m k:Nat}(e:E.W.heap.size<=E'.W.heap.size)(c:∀b,b<E.W.heap.size->¬E.G b->E'.W.heap[b]? =E.W.heap[b]? /\¬E'.G b)(a:∀b g,b<m->E.bx b=some g->E'.bx b=some g)(d:∀j v,j<k->E.rv j=some v->E'.rv j=some v){v:Value}{t:Tree}(h:FT E [v] [t])(f:Go.Proofs.YtfoejfohbkmmeaaGreatDoor.within m k t=true):FT E' [v] [t]:=by
 cases t with
 |agg cs=>
  obtain⟨xs,rfl,i⟩:=h.isAgg;exact .agg xs _ (lk e c a d i f) .nil
 |tup cs=>
  obtain⟨xs,rfl,i⟩:=h.isTup;exact .tup xs _ (lk e c a d i f) .nil
 |_=>exact FT.within0 e c a d h f
inductive Keeps (S:St) (m k:Nat):List (Nat×Tree)->Prop
 |nil:Keeps S m k []
 |cons {i:Nat} {t:Tree} {l:List (Nat×Tree)} (h:S.get i=t) (hw:within m k t=true) (hs:Keeps S m k l):Keeps S m k ((i,t)::l)
def Keeps.get{m k:Nat}{l:List (Nat×Tree)}(h:Keeps S m k l)(i:Nat):look l i=.any\/(look l i=S.get i/\within m k (S.get i)=true):=by
 induction h with
 |nil=>exact .inl Z
 |cons h hw _ ih=>
  rw[dX];split
  ·next e=>subst e;exact .inr ⟨h.symm,by rw[h];exact hw⟩
  exact ih
def f6{α:Type}{l:List α}{m i:Nat}{x:α}(h:(l.take m)[i]? =some x):i<m/\l[i]? =some x:=by grind
def jQ{α:Type}{l:List α}{m i:Nat}{x:α}(h:l[i]? =some x)(a:i<m):(l.take m)[i]? =some x:=by grind
def Sim.less{a:Act}{w:World}(h:Sim w0 G0 S a w)(m k:Nat)(l:List (Nat×Tree))(L:Keeps S m k l)(q:((S.bs.take m).all λp=>p.2.all (within0 m k))=true)(G:G0.pn<=m:=by first|exact Rg _|exact Nat.le_of_ble_eq_true Z):Sim w0 G0 ⟨S.n,l,S.bs.take m,S.rs.take k⟩ a w:=by
 obtain⟨bx,rv,d,M,B,H⟩:=h;have s:∀b,b∈cJ (bx.take m) (rv.take k) (S.rs.take k)->b∈cJ bx rv S.rs:=λb q=>by
  rcases be.1 q with c|⟨j,u,X,c,e,f⟩
  ·exact be.2 (.inl (RG c))
  exact be.2 (.inr ⟨j,u,X,(f6 c).2,(f6 e).2,f⟩)
 have D:∀b,b<w.heap.size->¬GG G0 bx rv S.rs b->w.heap[b]? =w.heap[b]? /\¬GG G0 (bx.take m) (rv.take k) (S.rs.take k) b:=λb _ K=>⟨Z,λh=>K (h.imp id (s b))⟩
 have r:∀b g,b<m->(en w G0 bx rv S.rs).bx b=some g->(en w G0 (bx.take m) (rv.take k) (S.rs.take k)).bx b=some g:=λb g A h=>jQ (l:=bx) h A
 have t:∀j v,j<k->(en w G0 bx rv S.rs).rv j=some v->(en w G0 (bx.take m) (rv.take k) (S.rs.take k)).rv j=some v:=λj v J h=>by
  show fX (rv.take k) (S.rs.take k) j=some v
  have h:fX rv S.rs j=some v:=h;unfold fX at h⊢;rw[R7,if_pos J,R7,if_pos J];exact h
 refine⟨bx.take m,rv.take k,⟨d.below,d.env0,d.g0,by simp[d.nb],by simp[d.nr],λi g x=>?_,λj u X c e=>?_,⟨d.nodup.bb.sublist (List.take_sublist _ _),λj u X b c e f F=>d.nodup.br j u X b (f6 c).2 (f6 e).2 f (RG F),λi j u v X Y b C c e f o=>d.nodup.rr i j u v X Y b C (f6 c).2 (f6 e).2 (f6 f).2 (f6 o).2⟩,λb q=>d.ge b (s b q),λi x=>jQ (d.pin i x) (Rh x G)⟩,M,B,λi=>?_⟩
 ·obtain⟨c,e⟩:=f6 x;obtain⟨ty,cs,us,f,o,y,z⟩:=d.box i g e;have I:=jQ f c;exact⟨ty,cs,us,I,o,lk (E:=en w G0 bx rv S.rs) (E':=en w G0 (bx.take m) (rv.take k) (S.rs.take k)) (m:=m) (k:=k) (Q3 _) D r t y (Rl.1 q _ (Q8 I)),z⟩
 ·obtain⟨xs,f,o,y,z⟩:=d.row j u X (f6 c).2 (f6 e).2;exact⟨xs,f,o.mono (Q3 _) D,y,z⟩
 show FT _ _ [look l i]
 rcases L.get i with c|⟨c,e⟩
 ·rw[c];exact .any _ .nil
 rw[c];exact FT.within (E:=en w G0 bx rv S.rs) (E':=en w G0 (bx.take m) (rv.take k) (S.rs.take k)) (m:=m) (k:=k) (Q3 _) D r t (H i) e
def Mc(S:St):ResultVar->Tree->Prop
 | .tmp t,x=>S.get t=x
 | .cell a ty,x=>∃b off bt cs,S.get a=.box b off/\S.bs[b]? =some (bt,cs)/\((∃n,sf prog ty=some n/\Nat.ble (off+n) cs.length=true/\x=.agg ((cs.drop off).take n))\/(jP prog ty=true/\cs[off]? =some x))
inductive ResL (S:St):List ResultVar->List Tree->Prop
 |nil:ResL S [] []
 |cons {x:ResultVar} {t:Tree} {xs:List ResultVar} {ts:List Tree} (h:Mc S x t) (hs:ResL S xs ts):ResL S (x::xs) (t::ts)
def ll:List Tree->Tree
 |[t]=>t
 |ts=>.tup ts
def Md(rvs:List ResultVar)(r:Tree)(e:Exit)(S:St):Prop:=(e=.normal\/e=.ret)/\∃ts,ResL S rvs ts/\ll ts=r/\r.plain=true
def DA{a:Act}{w:World}{bx:List Nat}{rv:List Value}(J:Mem w0 G0 S.bs S.rs bx rv w)(l:∀i,FT (en w G0 bx rv S.rs) [a.tmps.getD i undef] [S.get i]){x:ResultVar}{t:Tree}(h:Mc S x t):
  ∃v,((match x with| .tmp t=>pure (a.tmps.getD t undef)| .cell b t=>do loadVar t (<-asAddr (a.tmps.getD b undef)):Sem Value)).run prog w=.ok v w/\FT (en w G0 bx rv S.rs) [v] [t]:=by
 cases x with
 |tmp s=>
  have h:S.get s=t:=h;exact⟨_,Z,h▸l s⟩
 |cell s ty=>
  obtain⟨b,off,L,cs,D,E,F⟩:=h;have C:=l s;rw[D]at C;obtain⟨g,us,_,A,e,q,_⟩:=n5 J E C;rcases F with⟨n,o,f,rfl⟩|⟨k,G⟩
  ·obtain⟨d,y,B,H⟩:=zC o;have f:off+n<=cs.length:=by simpa using f
   have I:((us.drop off).take n).length=n:=by have:=q.length;rw[Rb,Rm];omega
   have K:=run_loadVar_mid (P:=prog) w g off ty ((us.drop off).take n) d (λj v m=>by
    rw[e.cell,SO];rw[R7]at m;split at m
    ·rw[Si]at m;exact m
    cases m) y B (by rw[I];exact H)
   refine⟨.agg ((us.drop off).take n).toArray,?_,.agg _ _ ((q.drop off).take n) .nil⟩;simp only[A,asAddr,Sem.run_bind,Sem.run_pure,Result.andThen_ok,K]
  obtain⟨u,y,r⟩:=q.get off t G;obtain⟨d,z,B⟩:=zD k;have c:(isAgg ty).run prog w=.ok false w:=by
   unfold isAgg;rw[Sem.run_bind,run_underlying z w];cases d<;>simp_all
  have p:w.cell? ⟨g,off,none⟩=some u:=by rw[e.cell,SO];exact y
  refine⟨u,?_,r⟩;simp only[A,asAddr,Sem.run_bind,Sem.run_pure,Result.andThen_ok];simp[loadVar,c,p]
def gV{a:Act}{w:World}{bx:List Nat}{rv:List Value}(d:Mem w0 G0 S.bs S.rs bx rv w)(c:∀i,FT (en w G0 bx rv S.rs) [a.tmps.getD i undef] [S.get i]):∀{xs:List ResultVar} {ts:List Tree},ResL S xs ts->
  ∃vs,(xs.mapM (m:=Sem) λ| .tmp t=>pure (a.tmps.getD t undef)| .cell b t=>do loadVar t (<-asAddr (a.tmps.getD b undef))).run prog w=.ok vs w/\FT (en w G0 bx rv S.rs) vs ts
 |[],[],_=>⟨[],Z,.nil⟩
 |x::xs,t::ts,.cons h hs=>by
  obtain⟨v,e,f⟩:=DA d c h;obtain⟨vs,g,j⟩:=gV d c hs;refine⟨v::vs,?_,FT.cons f j⟩;rw[Vi,Sem.run_bind,e,Result.andThen_ok,Sem.run_bind,g,Result.andThen_ok];rfl
def iI:Nat->List Tree->List (Nat×Tree)
 |_,[]=>[]
 |k,t::ts=>(k,t)::iI (k+1) ts
def kt:∀(ts:List Tree) (k i:Nat),look (iI k ts) i=if k<=i then(ts[i-k]?).getD .any else .any
 |[],k,i=>by simp[iI,look]
 |t::ts,k,i=>by
  simp only[iI,dX,kt ts (k+1) i];by_cases h:k=i
  ·subst h;simp
  rw[if_neg h];by_cases a:k<=i
  ·rw[if_pos O,if_pos a,show i-k=(i-(k+1))+1 by omega,Ur]
  rw[if_neg O,if_neg a]
def oP{w:World}{G:Nat->Prop}(e:Env w)(d:∀g,G g->g<w.heap.size/\NoDigB w g):Mem w (pln G) [] [] [] [] w:=
 ⟨Kept.refl _ _,.pln e,λg h=>⟨(d g h).1,(d g h).2,id⟩,Z,Z,λi g c=>by simp at c,λk v R a=>by simp at a,⟨List.nodup_nil,λk v R b a=>by simp at a,λj k u v X R b _ a=>by simp at a⟩,λb f=>by simp[cJ]at f,λi c=>absurd c (T5 i)⟩
def Mem.ownP{w0 w:World}{G:Nat->Prop}{bs:List (TypeId×List Tree)}{rs:List (Option Row)}{bx:List Nat}{rv:List Value}(h:Mem w0 (pln G) bs rs bx rv w){k n:Nat}{v:Value}{R:Row}{xs:List Value}{e:TypeId}{sz:Nat}(i:rv[k]? =some v)(d:rs[k]? =some (some R))(c:w.ownsRow 0 e sz v n xs):w.ownsRow w0.heap.size e sz v n xs:=by
 refine⟨c.1,c.2.imp id ?_⟩;rintro⟨g,a,cur,rfl,_,f⟩;refine⟨g,a,cur,Z,?_,f⟩;rcases h.ge g (be.2 (.inr ⟨k,_,R,i,d,rfl⟩))with b|b
 ·exact b
 exact b.elim
def Ct.of{f:FuncId}{d:Func}{c:Code}{args:List Tree}{r:Tree}{n:Nat}{k:List ResultVar}(A:prog.funcs[f]? =some d)(z:d.body=some c)(o:(d.name== "runtime.NumGoroutine")=false)(Q:d.ntmps=n)(B:Nat.ble args.length n=true)(O:d.results.toList=k)
  (h:∀w0 G0,AWP w0 (pln G0) c (Md k r) ⟨n,iI 0 args,[],[]⟩):Ct f args r:=by
 refine⟨⟨d,A,o,by rw[z];rfl⟩,λG w vs K L E=>?_⟩;have C:=E.length;have B:args.length<=n:=by simpa using B
 refine calls_of_wp A z (wp_mono (h w G _ w ⟨[],[],oP K L,?_,Z,λi=>?_⟩) ?_)
 ·simp;omega
 ·show FT _ _ [look (iI 0 args) i]
  rw[kt,if_pos (Rg _),TW];cases P:args[i]? with
  |none=>exact .any _ .nil
  |some t=>
   obtain⟨u,H,y⟩:=E.get i t P;have N:=(Q6.1 H).1;have I:(vs.toArray++Array.replicate (d.ntmps-vs.toArray.size) undef).getD i undef=u:=by
    rw[RU,Tc (by simpa using N),SO,H];rfl
   rw[I];refine .pure (y.mono (Q3 _) λb _ g=>⟨Z,λh=>?_⟩) .nil;rcases h with h|h
   ·exact g h
   simp[cJ]at h
 rintro e a w' ⟨S',⟨M,ts,q,rfl,p⟩,bx,rv,D,_,l,s⟩;obtain⟨us,j,m⟩:=gV D s (O▸q);have key:a.defers=[]/\∃v,(results d a.tmps).run prog w'=.ok v w'/\(λe w'=>∃v,e=Ending.returned v/\PT w' G [v] [ll ts]/\Below w.heap.size w w') (.returned v) w':=by
  refine⟨l,if h:us.toArray.size=1 then us.toArray[0]else .tuple us.toArray,?_,_,Z,?_,D.below.below⟩
  ·unfold results;rw[Sem.run_bind,SR,Sem.run_map];exact congrArg (λx:Result (List Value)=>(x.andThen λa w'=>Result.ok a.toArray w').andThen λa w'=>Sem.run prog (pure (if h:a.size=1 then a[0]else Value.tuple a)) w') j
  have J:FT (en w' (pln G) bx rv S'.rs) [if h:us.toArray.size=1 then us.toArray[0]else .tuple us.toArray] [ll ts]:=by
   match us,ts,m with
   |[],[],_=>exact .tup [] [] .nil .nil
   |[u],[t],h=>exact h
   |u::u'::us,t::t'::ts,h=>
    rw[dif_neg F];exact .tup _ _ h .nil
  exact(J.plain p).mono (Q3 _) λb _ g=>⟨Z,λh=>g (.inl h)⟩
 rcases M with rfl|rfl
 ·exact key
 exact key
end
def NM(P:Program)(ops:Array Oper)(dsts:List (Option Nat))(t:Array Value)(R:Nat->Value->World->Prop)(cons:Nat->Option Nat)(WI:World->Prop)(Ext:Nat->World->World->Prop)(i:Nat)(o:Oper):Prop:=
 (ql ops dsts R cons i o.guard/\∀(T:Nat->Value) (W:World),Given ops dsts t R cons WI i T W->OpRuns P o T W λv W'=>R i v W'/\Ext i W W')\/
 (∃j b n s,o.guard=some (j,b)/\(j !=i&&reach ops n i j&&cons j==none&&dsts[j]? ==some (some s))=true/\(∀v W,R j v W->v≠ .bool b)/\∀W,R i undef W)
def StepsT(P:Program)(ops:Array Oper)(dsts:List (Option Nat))(t:Array Value)(R:Nat->Value->World->Prop)(cons:Nat->Option Nat)(WI:World->Prop)(Ext:Nat->World->World->Prop):Nat->List Oper->Prop
 |_,[]=>True
 |i,o::l=>NM P ops dsts t R cons WI Ext i o/\StepsT P ops dsts t R cons WI Ext (i+1) l
def StepsT.at{P:Program}{ops:Array Oper}{a:List (Option Nat)}{t:Array Value}{R:Nat->Value->World->Prop}{cons:Nat->Option Nat}{c:World->Prop}{b:Nat->World->World->Prop}:∀(l:List Oper) (n:Nat),StepsT P ops a t R cons c b n l->∀(k:Nat) (o:Oper),l[k]? =some o->NM P ops a t R cons c b (n+k) o
 |[],_,_,k,o,h=>by simp at h
 |x::l,n,hs,0,o,h=>by
  simp only[RY,Ro]at h;subst h;exact hs.1
 |x::l,n,hs,k+1,o,h=>by
  have:=StepsT.at l (n+1) hs.2 k o (by simpa using h);rw[show n+1+k=n+(k+1) by omega]at this;exact this
def StepsT.cons{P:Program}{ops:Array Oper}{a:List (Option Nat)}{t:Array Value}{R:Nat->Value->World->Prop}{cons:Nat->Option Nat}{c:World->Prop}{b:Nat->World->World->Prop}{i:Nat}{o:Oper}{l:List Oper}
  (d:ql ops a R cons i o.guard) (h:∀(T:Nat->Value) (W:World),Given ops a t R cons c i T W->OpRuns P o T W λv W'=>R i v W'/\b i W W') (e:StepsT P ops a t R cons c b (i+1) l):StepsT P ops a t R cons c b i (o::l):=⟨.inl ⟨d,h⟩,e⟩
def StepsT.skip{P:Program}{ops:Array Oper}{a:List (Option Nat)}{t:Array Value}{R:Nat->Value->World->Prop}{cons:Nat->Option Nat}{d:World->Prop}{c:Nat->World->World->Prop}{i:Nat}{o:Oper}{l:List Oper}{j:Nat}{b:Bool}(n s:Nat)
  (f:o.guard=some (j,b)) (h:(j !=i&&reach ops n i j&&cons j==none&&a[j]? ==some (some s))=true) (e:∀v W,R j v W->v≠ .bool b) (g:∀W,R i undef W) (k:StepsT P ops a t R cons d c (i+1) l):StepsT P ops a t R cons d c i (o::l):=⟨.inr ⟨j,b,n,s,f,h,e,g⟩,k⟩
def n8{P:Program}{id:Nat}{ops:Array Oper}{Q:Exit->Act->World->Prop}{a:Act}{w:World}(d:List (Option Nat))(R:Nat->Value->World->Prop)(cons:Nat->Option Nat)(C:World->Prop)(E:Nat->World->World->Prop)
  (hm:P.follows .mixedOrders=true) (a2:fY ops=true) (hd:ops.toList.map (·.dst)=d) (q:cD a.tmps.size d=true)
  (Y:∀i W W',C W->E i W W'->C W') (M:∀i j v W W',cons j≠some i->C W->R j v W->E i W W'->R j v W') (h0:C w.drew)
  (N:StepsT P ops d a.tmps R cons C E 0 ops.toList)
  (X:∀(us:List Value) (W:World),us.length=d.length->(∀j,j<ops.size->cons j=none->R j (us.getD j undef) W)->C W->Q .normal ⟨dl a.tmps (d.zip us),a.defers⟩ W):(Code.region id ops true).wp P Q a w:=by
 have a9:d.length=ops.size:=by rw[<-hd];simp
 refine iy (λL a' W=>∃us,a'=⟨dl a.tmps (d.zip us),a.defers⟩/\L.size=ops.size/\Closed ops L/\MonoAt R cons C (ja a.tmps d) L us W) hm a2 ⟨ja a.tmps d,?_,F,i8 ops,⟨Z,λj k=>absurd k mO,λ_ _=>rfl,h0⟩⟩ ?_ ?_
 ·rw[kr]
 ·rintro L a' W i o h1 h2 U h4 ⟨us,rfl,_,hc,m⟩;have hi:i<ops.size:=(RQ.1 U).1;have V:d[i]? =some o.dst:=by
   rw[<-hd,RK];simp only[SC,U,Sr]
  have l:us.length=d.length:=by rw[m.len,fc]
  have S:L.getD i false=false:=getD_both h2;have T:∀n j,j≠i->reach ops n i j=true->L.getD j false=true:=λn j k z=>by
   have r:=hc.step U h4;have:=r.reach n i j z (fI O);rwa[dB (λe=>k e.symm)]at this
  have a0:∀n j,reach ops n j i=true->L.getD j false=false:=λn j z=>by
   cases hl:L.getD j false with
   |false=>rfl
   |true=>
    have:=hc.reach n j i z hl;rw[S]at this;cases this
  have G:Given ops d a.tmps R cons C i (λs=>(dl a.tmps (d.zip us)).getD s undef) W:=by
   refine⟨λs f=>fZ d us _ s f,λn j s f=>?_,λn j s f=>?_,m.wi⟩
   ·simp only[Q9,bne_iff_ne,beq_iff_eq]at f;obtain⟨⟨⟨k,z⟩,t⟩,f⟩:=f;show R j ((dl a.tmps (d.zip us)).getD s undef) W
    rw[(dM d us _ j s q l f).1];refine m.fact j (T n j k z) λc h=>?_
    rw[Fd,h]at t;exact a0 n c t
   simp only[Q9,beq_iff_eq]at f;obtain⟨z,f⟩:=f;show(dl a.tmps (d.zip us)).getD s undef=_
   rw[(dM d us _ j s q l f).1,m.old j (a0 n j z),lY _ _ _ _ f]
  have hS:=StepsT.at ops.toList 0 N i o (by simpa using U);rw[R4]at hS;have B:∀j b' n s,(j !=i&&reach ops n i j&&cons j==none&&d[j]? ==some (some s))=true->(∀v W,R j v W->v=.bool b')->yielded ops (dl a.tmps (d.zip us)) j=some b':=by
   intro j b' n s f H;simp only[Q9,bne_iff_ne,beq_iff_eq]at f;obtain⟨⟨⟨k,z⟩,t⟩,f⟩:=f;have D:=H _ _ (m.fact j (T n j k z) λc h=>by rw[t]at h;cases h);rw[<-(dM d us _ j s q l f).1]at D;have J:=(dM d us a.tmps j s q l f).2;have K:(ops[j]?).bind (·.dst)=some s:=by
    rw[<-hd,RK,SC]at f;cases ho:ops[j]? with
    |none=>simp[ho]at f
    |some oj=>simpa[ho]using f
   have:(dl a.tmps (d.zip us))[s]? =some (.bool b'):=by
    have hz:s<(dl a.tmps (d.zip us)).size:=by rw[ii];exact J
    simp only[RU,RN hz,RH]at D;rw[RN hz,D]
   simp only[yielded,K,Sp,this]
  rcases hS with hS|⟨j,b,n,s,I,f,H,a1⟩
  rotate_left
  ·have hw:Region.wanted o (yielded ops (dl a.tmps (d.zip us)))=false:=by
    unfold Region.wanted;rw[I];simp only[Q9,bne_iff_ne,beq_iff_eq]at f;obtain⟨⟨⟨k,z⟩,t⟩,f⟩:=f;have D:=H _ _ (m.fact j (T n j k z) λc h=>by rw[t]at h;cases h);rw[<-(dM d us _ j s q l f).1]at D;have J:=(dM d us a.tmps j s q l f).2;have K:(ops[j]?).bind (·.dst)=some s:=by
     rw[<-hd,RK,SC]at f;cases ho:ops[j]? with
     |none=>simp[ho]at f
     |some oj=>simpa[ho]using f
    have hz:s<(dl a.tmps (d.zip us)).size:=by rw[ii];exact J
    simp only[RU,RN hz,RH]at D;simp only[yielded,K,Sp,RN hz];generalize (dl a.tmps (d.zip us))[s]=u at D;cases u with
    |bool x=>
     cases x<;>cases b<;>first|rfl|(exact absurd Z D)
    |_=>rfl
   simp only[wpList];rw[if_neg (by rw[hw];exact R0)];refine⟨us.set i undef,?_,by simpa using h1,hc.step U h4,⟨by simpa using m.len,λj k h=>?_,λj k=>?_,m.wi⟩⟩
   ·exact kE d us _ _ i _ undef q l V
   ·by_cases g:i=j
    ·subst g;have:(us.set i undef).getD i undef=undef:=by simp[List.getD,show i<us.length by omega]
     rw[this];exact a1 _
    rw[dB g]at k;have:(us.set i undef).getD j undef=us.getD j undef:=by simp[List.getD,g]
    rw[this];refine m.fact j k λc r=>?_
    have:=h c r;by_cases y:i=c
    ·subst y;exact S
    rwa[dB y]at this
   by_cases g:i=j
   ·subst g;rw[fI O]at k;cases k
   rw[dB g]at k;have:(us.set i undef).getD j undef=us.getD j undef:=by simp[List.getD,g]
   rw[this];exact m.old j k
  obtain⟨hg,A⟩:=hS;have A:=A _ W G;have hw:Region.wanted o (yielded ops (dl a.tmps (d.zip us)))=true:=by
   unfold Region.wanted;cases I:o.guard with
   |none=>rfl
   |some p=>
    obtain⟨j,b⟩:=p;rw[I]at hg;obtain⟨n,s,f,H⟩:=hg;have:=B j b n s f H;simp only[this];cases b<;>rfl
  simp only[wpList];rw[if_pos hw];refine .inl<|Oper.wp_mono ?_ A.wp;rintro a5 a4 ⟨v,e,H,hE⟩;refine⟨us.set i v,?_,by simpa using h1,hc.step U h4,⟨by simpa using m.len,λj k h=>?_,λj k=>?_,Y _ _ _ m.wi hE⟩⟩
  ·rw[e];exact kE d us _ _ i _ v q l V
  ·by_cases g:i=j
   ·subst g;have:(us.set i v).getD i undef=v:=by simp[List.getD,show i<us.length by omega]
    rw[this];exact H
   rw[dB g]at k;have:(us.set i v).getD j undef=us.getD j undef:=by simp[List.getD,g]
   rw[this];refine M i j _ _ _ (λe=>?_) m.wi (m.fact j k λc r=>?_) hE
   ·have:=h i e;rw[fI O]at this;cases this
   have:=h c r;by_cases y:i=c
   ·subst y;exact S
   rwa[dB y]at this
  by_cases g:i=j
  ·subst g;rw[fI O]at k;cases k
  rw[dB g]at k;have:(us.set i v).getD j undef=us.getD j undef:=by simp[List.getD,g]
  rw[this];exact m.old j k
 rintro L a' W h1 ⟨us,rfl,a3,_,m⟩;refine X us W (by rw[m.len,fc]) (λj k h=>m.fact j (h1 j k) λc r=>by rw[h]at r;cases r) m.wi
def fD(s:Nat):List (Option Nat)->Option Nat
 |[]=>none
 |d::ds=>if d=some s then some 0 else(fD s ds).map (· +1)
def fQ{s:Nat}:∀{a:List (Option Nat)} {j:Nat},fD s a=some j->a[j]? =some (some s)
 |[],j,h=>by simp[fD]at h
 |d::a,j,h=>by
  simp only[fD]at h;split at h
  ·next e=>cases h;subst e;rfl
  simp only[R9]at h;obtain⟨k,b,rfl⟩:=h;simpa using fQ b
def gW{s:Nat}:∀{a:List (Option Nat)},fD s a=none->a.contains (some s)=false
 |[],_=>rfl
 |d::a,h=>by
  simp only[fD]at h;split at h
  ·cases h
  next e=>
  simp only[Uy]at h;simp only[T3,gW h,Bool.or_false,beq_eq_false_iff_ne];exact λb=>e b.symm
def lm{n:Nat}:∀{a:List (Option Nat)} (i:Nat),cD n a=true->cD n (a.take i)=true
 |[],i,_=>by simp[cD]
 |d::a,0,_=>rfl
 |none::a,i+1,h=>by
  simp only[S7,cD]at h⊢;exact lm i h
 |some s::a,i+1,h=>by
  simp only[S7,cD,Q9,Sk]at h⊢;refine⟨⟨?_,h.1.2⟩,lm i h.2⟩;cases b:(a.take i).contains (some s)with
  |false=>rfl
  |true=>
   have:=RX.2 (RG (RX.1 b));rw[h.1.1]at this;cases this
def AY(ops:Array Oper)(dsts:List (Option Nat))(n i s:Nat):Bool:=
 match fD s dsts with
 |none=>true
 |some j=>if j<i then reach ops n i j else reach ops n j i
def n9(ops:Array Oper)(dsts:List (Option Nat))(n:Nat):Bool:=(List.range ops.size).all λi=>match ops[i]? with
 |some o=>(fd o.op).all (AY ops dsts n i)
 |none=>true
inductive Chain (ops:Array Oper) (dsts:List (Option Nat)) (n:Nat):Nat->St->List Oper->List Tree->Prop
 |nil {i:Nat} {S:St}:Chain ops dsts n i S [] []
 |op {i:Nat} {S:St} {o:Oper} {os:List Oper} {t:Tree} {ts:List Tree} (hg:o.guard=none) (h:OpOK o S t) (hs:Chain ops dsts n (i+1) (S.put o.dst t) os ts):Chain ops dsts n i S (o::os) (t::ts)
 |cnd {i:Nat} {S:St} {o:Oper} {os:List Oper} {t:Tree} {ts:List Tree} (j:Nat) (b:Bool) (s:Nat) (C:Prop) [Decidable C] (hg:o.guard=some (j,b)) (hj:(j !=i&&reach ops n i j&&decide (j<i)&&dsts[j]? ==some (some s))=true) (hG:∃gv,S.get s=.sc gv/\(C↔gv=.bool b)) (h:C->OpOK o S t) (hs:Chain ops dsts n (i+1) (S.put o.dst (if C then t else .sc undef)) os ts):Chain ops dsts n i S (o::os) ((if C then t else .sc undef)::ts)
def gm(S:St):List (Option Nat)->List Tree->St
 |d::ds,t::ts=>gm (S.put d t) ds ts
 |_,_=>S
def lp:∀(a:List (Option Nat)) (ts:List Tree) (S:St) (d:Option Nat) (t:Tree),a.length=ts.length->gm S (a++[d]) (ts++[t])=(gm S a ts).put d t
 |[],[],S,d,t,_=>rfl
 |_::a,_::ts,S,d,t,h=>lp a ts _ d t (by simpa using h)
def mV:∀(a:List (Option Nat)) (ts:List Tree) (S:St),(gm S a ts).bs=S.bs/\(gm S a ts).rs=S.rs/\(gm S a ts).n=S.n
 |[],_,S=>⟨Z,Z,Z⟩
 |_::_,[],S=>⟨Z,Z,Z⟩
 |d::a,t::ts,S=>by
  have:=mV a ts (S.put d t);rw[dJ,cj,eu]at this;exact this
def kJ:∀(a:List (Option Nat)) (ts:List Tree) (S:St) (s:Nat),a.contains (some s)=false->(gm S a ts).get s=S.get s
 |[],_,S,s,_=>rfl
 |_::_,[],S,s,_=>rfl
 |d::a,t::ts,S,s,h=>by
  simp only[T3,Rp]at h;have:=kJ a ts (S.put d t) s h.2;rw[dh,if_neg (λe=>by rw[e]at h;simp at h)]at this;exact this
def oQ:∀(a:List (Option Nat)) (ts:List Tree) (S:St) (n j s:Nat) (t:Tree),cD n a=true->a[j]? =some (some s)->ts[j]? =some t->(gm S a ts).get s=t
 |[],_,S,n,j,s,t,_,h,_=>by simp at h
 |_::_,[],S,n,j,s,t,_,_,h=>by simp at h
 |d::a,x::ts,S,n,0,s,t,ha,h,h'=>by
  simp only[RY,Ro]at h h';subst h h';simp only[cD,Q9,Sk]at ha;show(gm (S.put (some s) x) a ts).get s=x
  rw[kJ a ts _ s ha.1.1,dh,if_pos Z]
 |d::a,x::ts,S,n,j+1,s,t,ha,h,h'=>by
  have b:cD n a=true:=by
   cases d with
   |none=>exact ha
   |some _=>simp only[cD,Q9]at ha;exact ha.2
  exact oQ a ts (S.put d x) n j s t b (by simpa using h) (by simpa using h')
def Chain.length{ops:Array Oper}{a:List (Option Nat)}{n i:Nat}{S:St}{b:List Oper}{ts:List Tree}(h:Chain ops a n i S b ts):b.length=ts.length:=by induction h<;>simp_all
def iS:∀{n:Nat} {a:List (Option Nat)} {j b s:Nat},cD n a=true->a[j]? =some (some s)->a[b]? =some (some s)->j=b
 |_,[],j,_,_,_,h,_=>by simp at h
 |n,d::a,0,0,s,_,_,_=>rfl
 |n,d::a,0,b+1,s,ha,h,c=>by
  simp only[RY,Ro]at h;subst h;simp only[cD,Q9,Sk]at ha;have f:=Q8 (i:=b) (by simpa using c:a[b]? =some (some s));have:=RX.2 f;rw[ha.1.1]at this;cases this
 |n,d::a,j+1,0,s,ha,h,c=>by
  simp only[RY,Ro]at c;subst c;simp only[cD,Q9,Sk]at ha;have f:=Q8 (i:=j) (by simpa using h:a[j]? =some (some s));have:=RX.2 f;rw[ha.1.1]at this;cases this
 |n,d::a,j+1,b+1,s,ha,h,c=>by
  have e:cD n a=true:=by
   cases d with
   |none=>exact ha
   |some _=>simp only[cD,Q9]at ha;exact ha.2
  rw[iS e (by simpa using h:a[j]? =_) (by simpa using c:a[b]? =_)]
section
variable {w0:World} {G0:Bse} {Q:Exit->St->Prop} {S:St}
def RT(G0:Bse)(bx:List Nat)(rv:List Value)(rs:List (Option Row))(ts:List Tree)(j:Nat)(v:Value)(W:World):Prop:=FT (en W G0 bx rv rs) [v] [ts.getD j .any]
def WT(w0 w:World)(G0:Bse)(S:St)(bx:List Nat)(rv:List Value)(W:World):Prop:=Mem w0 G0 S.bs S.rs bx rv W/\Below w.heap.size w W
def jR{ops:Array Oper}{c:List (Option Nat)}{n:Nat}{a:Act}{w:World}{bx:List Nat}{rv:List Value}(r:cD a.tmps.size c=true)(m:n9 ops c n=true)(u:ops.toList.map (·.dst)=c)(B:∀i,FT (en w G0 bx rv S.rs) [a.tmps.getD i undef] [S.get i])(ts:List Tree):
  ∀(E:List Oper) (i:Nat) (us:List Tree) (S':St),Chain ops c n i S' E us->(∀(k:Nat) (o:Oper),E[k]? =some o->ops[i+k]? =some o)->us=ts.drop i->S'=gm S (c.take i) (ts.take i)->i+E.length<=ops.size->i<=ts.length->StepsT prog ops c a.tmps (RT G0 bx rv S.rs ts) (λ_=>none) (WT w0 w G0 S bx rv) (λ_ W W'=>Below W.heap.size W W') i E
 |[],i,us,S',h,_,_,_,_,_=>trivial
 |o::E,i,us,S',h,hops,hus,hS',hlen,hle=>by
  have a3:ops[i]? =some o:=hops 0 o Z;have a5:i<ops.size:=by simp only[Q5]at hlen;omega
  have b1:c.length=ops.size:=by rw[<-u];simp
  have a4:c[i]? =some o.dst:=by
   rw[<-u,RK];simp only[SC,a3,Sr]
  have d:=mV (c.take i) (ts.take i) S;rw[<-hS']at d;have z:∀t G,us=t::G->G=ts.drop (i+1)/\ts[i]? =some t/\S'.put o.dst t=gm S (c.take (i+1)) (ts.take (i+1))/\i+1<=ts.length:=λt G e=>by
   have q:ts.drop i=t::G:=by rw[<-hus,e]
   have p:i<ts.length:=by
    rcases RE i ts.length with h|h
    ·exact h
    rw[Rc h]at q;cases q
   rw[Re p]at q;injection q with R U
   refine⟨U.symm,by rw[Q2 p,R],?_,p⟩;obtain⟨a0,Y⟩:=Q6.1 a4;rw[Rz a0,Rz p,lp _ _ _ _ _ (by simp only[Rb];omega),Y,R,hS']
  have H:∀s,(∀j,c[j]? =some (some s)->i<=j)->S'.get s=S.get s:=λs K=>by
   rw[hS'];refine kJ _ _ _ s ?_;cases M:(c.take i).contains (some s)with
   |false=>rfl
   |true=>
    obtain⟨j,f,b0⟩:=Sl (RX.1 M);have q:(c.take i)[j]? =some (some s):=by rw[Q2 f,b0]
    obtain⟨R,U⟩:=f6 q;have:=K j U;omega
  have y:∀s j,c[j]? =some (some s)->j<i->∃t,ts[j]? =some t/\S'.get s=t:=λs j f a1=>by
   have a2:j<ts.length:=O
   refine⟨ts[j],Q2 a2,?_⟩;rw[hS'];have V:=lm i r;exact oQ _ _ S a.tmps.size j s _ V (jQ f a1) (jQ (Q2 a2) a1)
  have L:∀(T:Nat->Value) (W:World),Given ops c a.tmps (RT G0 bx rv S.rs ts) (λ_=>none) (WT w0 w G0 S bx rv) i T W->∀s,(fd o.op).contains s=true->FT (en W G0 bx rv S'.rs) [T s] [S'.get s]:=λT W D s K=>by
   rw[d.2.1];have X:AY ops c n i s=true:=by
    have q:=Rl.1 m i (Tr.2 a5);simp only[a3]at q;exact Rl.1 q s (RX.1 K)
   unfold AY at X;cases hx:fD s c with
   |none=>
    have I:=gW hx;rw[D.keep s I,H s (λj f=>by
     have:=RX.2 (Q8 f);rw[I]at this;cases this)]
    exact(B s).later D.wi.2
   |some j=>
    have f:=fQ hx;simp only[hx]at X;split at X
    ·next p=>
     obtain⟨t,ht,he⟩:=y s j f p;have:=D.fact n j s (by simp only[Q9,bne_iff_ne,beq_iff_eq];exact⟨⟨⟨O,X⟩,Z⟩,f⟩);unfold RT at this;rw[Rr,ht,RH]at this;rw[he];exact this
    next hge=>
    rw[D.old n j s (by simp only[Q9,beq_iff_eq];exact⟨X,f⟩),H s (λj' a9=>by
     rw[iS r a9 f];omega)]
    exact(B s).later D.wi.2
  have l:∀(k:Nat) (o:Oper),E[k]? =some o->ops[i+1+k]? =some o:=λk x hx=>by have:=hops (k+1) x (by simpa using hx);rw[show i+1+k=i+(k+1) by omega,this]
  have g:i+1+E.length<=ops.size:=by simp only[Q5]at hlen;omega
  have J:∀t,OpOK o S' t->ts[i]? =some t->∀(T:Nat->Value) (W:World),Given ops c a.tmps (RT G0 bx rv S.rs ts) (λ_=>none) (WT w0 w G0 S bx rv) i T W->OpRuns prog o T W λv W'=>RT G0 bx rv S.rs ts i v W'/\Below W.heap.size W W':=λt A ht T W D=>by
   have:=A w0 G0 bx rv W T (by rw[d.1,d.2.1];exact D.wi.1) (L T W D);rw[d.2.1]at this;unfold RT;rw[Rr,ht,RH];exact this
  have F:∀j s Q,(j !=i&&reach ops n i j&&decide (j<i)&&c[j]? ==some (some s))=true->S'.get s=.sc Q->(j !=i&&reach ops n i j&&(none:Option Nat)==none&&c[j]? ==some (some s))=true/\∀v W,RT G0 bx rv S.rs ts j v W->v=Q:=λj s Q f hS=>by
   simp only[Q9,bne_iff_ne,beq_iff_eq,decide_eq_true_eq]at f⊢;obtain⟨⟨⟨q,R⟩,U⟩,h4⟩:=f;refine⟨⟨⟨⟨q,R⟩,trivial⟩,h4⟩,λv W N=>?_⟩;obtain⟨t,ht,he⟩:=y s j h4 U;unfold RT at N;rw[Rr,ht,RH,<-he,hS]at N;exact N.isSc
  cases h with
  | @op _ _ _ _ t ts' hg A K=>
   obtain⟨e1,P,e3,e4⟩:=z t ts' Z;exact .cons (by rw[hg];trivial) (J t A P) (jR r m u B ts E (i+1) ts' _ K l e1 e3 g e4)
  | @cnd _ _ _ _ t ts' j b s C _ hg f D A K=>
   obtain⟨Q,hS,hC⟩:=D;obtain⟨e1,P,e3,e4⟩:=z _ ts' Z;obtain⟨g1,g2⟩:=F j s Q f hS;by_cases M:C
   ·rw[if_pos M]at P;exact .cons (by rw[hg];exact⟨n,s,g1,λv W N=>(g2 v W N).trans (hC.1 M)⟩) (J t (A M) P) (jR r m u B ts E (i+1) ts' _ K l e1 e3 g e4)
   rw[if_neg M]at P;refine .skip n s hg g1 (λv W N e=>M (hC.2 ((g2 v W N).symm.trans e))) (λW=>?_) (jR r m u B ts E (i+1) ts' _ K l e1 e3 g e4);unfold RT;rw[Rr,P,RH];exact .pure (.sc _ .nil) .nil
def GA{a:Act}{b:List (Option Nat)}{us:List Value}(c:cD a.tmps.size b=true)(e:us.length=b.length)(s:Nat):(dl a.tmps (b.zip us)).getD s undef=match fD s b with|none=>a.tmps.getD s undef|some j=>us.getD j undef:=by
 cases d:fD s b with
 |none=>exact fZ b us _ s (gW d)
 |some j=>exact(dM b us _ j s c e (fQ d)).1
def zF{a:Act}{W:World}{bx:List Nat}{rv:List Value}{b:List (Option Nat)}{us:List Value}{ts:List Tree}(d:cD S.n b=true)(o:a.tmps.size=S.n)(g:a.defers=[])(l:us.length=b.length)(s:ts.length=b.length)(r:Mem w0 G0 S.bs S.rs bx rv W)(k:∀i,FT (en W G0 bx rv S.rs) [a.tmps.getD i undef] [S.get i])(q:∀j,j<b.length->RT G0 bx rv S.rs ts j (us.getD j undef) W):Sim w0 G0 (gm S b ts) ⟨dl a.tmps (b.zip us),a.defers⟩ W:=by
 have c:=mV b ts S;refine⟨bx,rv,by rw[c.1,c.2.1];exact r,by rw[c.2.2,ii];exact o,g,λi=>?_⟩;rw[c.2.1];show FT _ [(dl a.tmps (b.zip us)).getD i undef] _
 rw[GA (by rw[o];exact d) l];cases p:fD i b with
 |none=>rw[kJ b ts S i (gW p)];exact k i
 |some j=>
  have m:=fQ p;have h:=(Q6.1 m).1;have:=q j h;unfold RT at this;have f:j<ts.length:=O
  have e:ts.getD j .any=ts[j]:=by rw[Rr,Q2 f,RH]
  rw[e]at this;rw[oQ b ts S S.n j i _ d m (Q2 f)];exact this
def Jd{id n:Nat}{ops:List Oper}{b:List (Option Nat)}{ts:List Tree}(l:fY ops.toArray=true)(m:ops.map (·.dst)=b)(c:cD S.n b=true)(e:n9 ops.toArray b n=true)(d:Chain ops.toArray b n 0 S ops ts)(k:Q .normal (gm S b ts)):AWP w0 G0 (.region id ops.toArray true) Q S:=by
 rintro a w ⟨bx,rv,z,r,p,f⟩;have q:b.length=ops.length:=by rw[<-m];simp
 have s:=jR (w0:=w0) (G0:=G0) (S:=S) (w:=w) (bx:=bx) (rv:=rv) (a:=a) (by rw[r];exact c) e (by simpa using m) f ts ops 0 ts S d (λk o A=>by simpa using A) Z Z F (Rg _);refine n8 b (RT G0 bx rv S.rs ts) (λ_=>none) (WT w0 w G0 S bx rv) (λ_ W W'=>Below W.heap.size W W') U l (by simpa using m) (by rw[r];exact c)
  (λ_ W W' g u=>⟨g.1.later u,g.2.trans (u.mono g.2.size)⟩) (λ_ j v W W' _ _ h y=>FT.later h y) ⟨z.later (Below.refl _ _).drew,(Below.refl _ _).drew⟩ (by simpa using s) ?_
 intro us W t h x;exact⟨_,k,zF c r p t (by rw[q];exact d.length.symm) x.1 (λi=>(f i).later x.2) (λj B=>h j (by simp;omega) Z)⟩
def OpRuns.mono{P:Program}{o:Oper}{T:Nat->Value}{W:World}{K a:Value->World->Prop}(h:OpRuns P o T W K)(b:∀v W,K v W->a v W):OpRuns P o T W a:=by
 unfold OpRuns at h⊢;generalize (execOp (dG T) o).run P W=r at h;cases r with
 |ok n w'=>
  cases n<;>first
   |exact b _ _ h
   |exact Calls.mono h (λe d ⟨v,c,h⟩=>⟨v,c,b _ _ h⟩)
   |exact h.elim
 |halt x w'=>exact h.elim
def StepsT.plain{P:Program}{ops:Array Oper}{a:List (Option Nat)}{t:Array Value}{R:Nat->Value->World->Prop}{cons:Nat->Option Nat}{f:World->Prop}{c:Nat->World->World->Prop}:∀{d:List Oper} {i:Nat},StepsT P ops a t R cons f c i d->(d.all λo=>o.guard.isNone)=true->Steps P ops a t R cons f c i d
 |[],_,_,_=>trivial
 |o::d,i,h,hg=>by
  simp only[SJ,Q9]at hg;refine⟨?_,StepsT.plain h.2 hg.2⟩;rcases h.1 with e|⟨j,b,n,s,e,_⟩
  ·exact e
  rw[e]at hg;simp at hg
def zG{id n:Nat}{ops:List Oper}{c:Oper}{b:List (Option Nat)}{ts:List Tree}{S':St}(y:fY (ops++[c]).toArray=true)(L:ops.map (·.dst)=b)(g:c.dst=none)(C:c.guard=none)(G:(ops.all λo=>o.guard.isNone)=true)(f:cD S.n (b++[none])=true)(r:n9 (ops++[c]).toArray (b++[none]) n=true)(m:(List.range ops.length).all (λi=>reach (ops++[c]).toArray ops.length ops.length i)=true)
  (p:Chain (ops++[c]).toArray (b++[none]) n 0 S ops ts) (B:lM w0 G0 c (gm S b ts) S') (k:Q .normal S'):AWP w0 G0 (.region id (ops++[c]).toArray true) Q S:=by
 rintro a w ⟨bx,rv,R,E,z,s⟩;have A:b.length=ops.length:=by rw[<-L];simp
 have t:ts.length=b.length:=by rw[A];exact p.length.symm
 have q:(ops++[c]).map (·.dst)=b++[none]:=by rw[Sn,L];simp[g]
 have H:=(jR (w0:=w0) (G0:=G0) (S:=S) (w:=w) (bx:=bx) (rv:=rv) (a:=a) (by rw[E];exact f) r (by simpa using q) s ts ops 0 ts S p (λk o M=>by rw[R4,SO,Rv (Q6.1 M).1];exact M) Z Z F (Rg _)).plain G;refine n4 (b++[none]) (RT G0 bx rv S.rs ts) (λ_=>none) (WT w0 w G0 S bx rv) (λ_ W W'=>Below W.heap.size W W') U y (by simpa using q) (by rw[E];exact f) (λ_=>rfl)
  (λ_ W W' u J=>⟨u.1.later J,u.2.trans (J.mono u.2.size)⟩) (λ_ j v W W' _ x N=>FT.later x N) ⟨R.later (Below.refl _ _).drew,(Below.refl _ _).drew⟩ ops.length c F F C g m (by simpa using H) ?_
 intro us W I x K;have d:Sim w0 G0 (gm S (b++[none]) (ts++[.any])) ⟨dl a.tmps ((b++[none]).zip us),a.defers⟩ W:=zF f E z I (by simp[t]) K.1 (λi=>(s i).later K.2) (λj P=>by
  unfold RT;by_cases D:j<ts.length
  ·have:=x j O;unfold RT at this;have e:(ts++[Tree.any]).getD j .any=ts.getD j .any:=by rw[Rr,Rv D,<-Rr]
   rw[e];exact this
  have:j=ts.length:=by simp at P;omega
  subst this;rw[Rr (l:=ts++[Tree.any]),Ru (Q3 _),RW];exact .any _ .nil)
 rw[lp _ _ _ _ _ t.symm]at d;have:=B _ _ d;rw[g]at this;exact this.mono λv W h=>⟨_,k,h⟩
end
