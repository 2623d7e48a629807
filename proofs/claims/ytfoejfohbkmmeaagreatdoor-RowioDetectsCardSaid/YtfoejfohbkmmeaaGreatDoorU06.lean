import Derived.Test.YtfoejfohbkmmeaaGreatDoorU05
import Derived.Test.YtfoejfohbkmmeaaGreatDoorU00
import Derived.Test.YtfoejfohbkmmeaaGreatDoorU02
namespace Go.Proofs.YtfoejfohbkmmeaaGreatDoor
open Go.RowKit
open Lib renaming hid→J
theorem cI{w:World}{g:Nat}{c:Array Value}{e:TypeId}{fr:Nat×Nat}(h:w.heap[g]? =some (.cells c e fr))(b:c.toList.all bL=true):NoDigB w g:=fun i u a=>by
 simp only[World.cell?,h,Qq,N9,if_false]at a;exact Mh.1 b u (L9 (by simpa using a))
theorem my{w:World}{g:Nat}{c:Array Value}{e:TypeId}(h:w.heap[g]? =some (.cells c e (0,0)))(d:NoDigB w g):c.toList.all bL=true:=Mh.2 fun u a=>by
 obtain⟨i,b,rfl⟩:=Nb a;refine d i _ ?_;simp only[World.cell?,h,Qq,N9,if_false];rw[<-Np];exact L4 b
theorem g5{z:Value}(b:z.cells.toList.all bL=true)(n:Nat):(Builtin.zeroCells z.cells n).toList.all bL=true:=Mh.2 fun u a=>by
 simp only[Builtin.zeroCells,PW,Ny]at a;obtain⟨i,d,rfl⟩:=a;rw[P1,MV];cases c:z.cells[i%z.cells.size]? with
 |none=>rfl
 |some x=>exact Mh.1 b x (by have:=Qb c;simpa using this)
theorem kZ{l:List Value}(h:l.all bL=true)(n:Nat):(l.take n).all bL=true:=Mh.2 fun x a=>Mh.1 h x (MC a)
theorem mz{P:Program}(w:World)(base:Nat)(t ty e:TypeId)(i:TypeInfo)(z:Value)(size k:Nat)(H:P.underlying t=some (.slice e))(F:P.info? e=some i)(R:i.zero=some z)
  (o:i.size=size) (L:i.bytes=k) (U:z.cells.size=size) (S:0<size) (v:Value) (n:Nat) (xs:List Value) (b:w.ownsRow base e size v n xs) (A:Option Addr) (m c:Nat) (news:List Value) (C:news.length=m*size) (D:A=none->m=0/\c=0) (f:∀a,A=some a->∀j u,news[j]? =some u->w.cell? (a.add j)=some u) (V:∀u∈news,u.oneCell'=true)
  (M:n+m<=maxLen) (d:(n+m)*k<=140737488355328) (x:base<=w.heap.size) (I:z.cells.toList.all bL=true) (B:news.all bL=true) (W:∀g,v.ownBlock=some g->NoDigB w g):
  ∃v' w',(Builtin.append_ #[t,t] ty #[v,.slice A m c]).run P w=.ok v' w'/\w'.ownsRow base e size v' (n+m) (xs++news)/\w.grownBy w' v.ownBlock/\(v'.ownBlock=v.ownBlock\/v'.ownBlock=some w.heap.size)/\∀g,v'.ownBlock=some g->NoDigB w' g:=by
 cases A with
 |none=>
  obtain⟨rfl,rfl⟩:=D rfl;have hn:news=[]:=Mk (by simpa using C);subst hn;have J:=run_append_owned_none (P:=P) (w:=w) base t ty e i size H F v n xs b;exact⟨v,w,J,by simpa using b,⟨Z,Z,Z,L5 _,fun _ _ _=>rfl⟩,.inl Z,W⟩
 |some a=>
  obtain⟨v',w',O,h2,h3,h4,Y⟩:=run_append_own_at (P:=P) w base t ty e i z size k H F R o L U S v n xs b a m c news C (f a rfl) V M d x;refine⟨v',w',O,h2,h3,Y,?_⟩;subst o;subst L;have Q:n+m<=9223372036854775807:=by simp only[maxLen]at M;omega
  rcases b.2 with⟨rfl,rfl⟩|⟨g,q,cur,rfl,a1,r,X,a0,T,p⟩
  ·by_cases hm:m=0
   ·rw[h4.2 ⟨Z,hm⟩];intro g r;cases r
   have h:=run_append_nil (P:=P) w t ty e i z H F R a m c news C (f a Z) (by omega) (by omega) (by have hb:=d;simp only[M0]at hb;omega);rw[O]at h;injection h with K G
   subst K G;intro g r;cases r;exact cI (heap_alloc_new w.drew _) (by simp only[Nv,NX,Ma];exact⟨B,g5 I _⟩)
  have E:=my r (W g Z);by_cases l:n+m<=q
  ·have N:n*i.size+news.length<=cur.size:=by rw[C,T,<-M3];exact MJ _ l
   have h:=run_append_room (P:=P) w t ty e i H F g n q cur r a m c news C (f a Z) V l N;rw[O]at h;injection h with K G
   subst K G;intro g' y;cases y;exact cI (setRow_heap w g cur _ e _ r) (n7 E B)
  have s:∀j u,xs[j]? =some u->w.cell? ((⟨g,0,none⟩:Addr).add j)=some u:=b.cells (g:=g) Z;have h:=run_append_grow (P:=P) w t ty e i z H F R ⟨g,0,none⟩ n q xs b.1 s a m c news C (f a Z) (by omega) (by omega) (growslice_fits (by omega) d);rw[O]at h;injection h with K G
  subst K G;intro g' y;cases y;refine cI (heap_alloc_new w.drew _) ?_;simp only[Nv,NX,Ma];exact⟨⟨by rw[<-p];exact kZ E _,B⟩,g5 I _⟩
theorem Ea{P:Program}(w:World)(base:Nat)(t u ty e:TypeId)(i:TypeInfo)(H:P.underlying t=some (.slice e))(F:P.underlying u=some .string)(G:P.info? e=some i)(J:i.zero=some (.int .u8 0))(b:i.size=1)(y:i.bytes=1)
  (v:Value) (n:Nat) (xs:List Value) (d:w.ownsRow base e 1 v n xs) (s:ByteArray) (R:n+s.size<=140737488355328) (r:base<=w.heap.size) (Q:∀g,v.ownBlock=some g->NoDigB w g):
  ∃v' w',(Builtin.append_ #[t,u] ty #[v,.string s]).run P w=.ok v' w'/\w'.ownsRow base e 1 v' (n+s.size) (xs++bH s.data.toList)/\w.grownBy w' v.ownBlock/\(v'.ownBlock=v.ownBlock\/v'.ownBlock=some w.heap.size)/\∀g,v'.ownBlock=some g->NoDigB w' g:=by
 have C:(Value.int .u8 0).cells.toList.all bL=true:=rfl;have f:Lib.strCells s=bH s.data.toList:=by simp[Lib.strCells,bH]
 have h:(Lib.strCells s).all bL=true:=Mh.2 fun x K=>by
  rw[f]at K;simp only[bH,Ny]at K;obtain⟨c,_,rfl⟩:=K;rfl
 obtain⟨v',w',o,I,E,N⟩:=Lib.run_append_own_string (P:=P) w base t u ty e i H F G J b y v n xs d s (by simp only[maxLen];omega) (by omega) r;rcases d.2 with⟨rfl,rfl⟩|⟨g,m,cur,rfl,T,p,O,S,L,l⟩
 ·by_cases M:s.size=0
  ·refine⟨v',w',o,by rw[<-f];exact I,E,?_,?_⟩
   ·rw[N.2 ⟨Z,M⟩];exact .inl Z
   rw[N.2 ⟨Z,M⟩];intro g p;cases p
  have a:=run_append_nil_string (P:=P) w t u ty e i (.int .u8 0) H F G J s (by omega) (by omega) (by rw[y];omega);refine⟨v',w',o,by rw[<-f];exact I,E,?_⟩;rw[o]at a;injection a with D B
  subst D B;refine⟨.inr Z,fun g p=>?_⟩;cases p;refine cI (heap_alloc_new w.drew _) ?_;simp only[Nv,NX,Ma,PW];exact⟨by rw[f]at h;exact h,g5 C _⟩
 have A:=my p (Q g Z);by_cases k:n+s.size<=m
 ·have a:=Lib.run_append_room_string (P:=P) w t u ty e i H F G b g n m cur p s k (by rw[L];omega);refine⟨v',w',o,by rw[<-f];exact I,E,?_⟩;rw[o]at a;injection a with D B
  subst D B;refine⟨.inl Z,fun g z=>?_⟩;cases z;exact cI (setRow_heap w _ cur _ e _ p) (n7 A h)
 have q:∀j u,xs[j]? =some u->w.cell? ((⟨g,0,none⟩:Addr).add j)=some u:=World.ownsRow.cells d (g:=g) Z;have a:=Lib.run_append_grow_string (P:=P) w t u ty e i (.int .u8 0) H F G J ⟨g,0,none⟩ n m xs (by rw[b];exact d.1) q s (by omega) (by omega) (by rw[y];exact growslice_fits (by omega) (by omega));refine⟨v',w',o,by rw[<-f];exact I,E,?_⟩;rw[o]at a;injection a with D B
 subst D B;refine⟨.inr Z,fun g z=>?_⟩;cases z;refine cI (heap_alloc_new w.drew _) ?_;simp only[Nv,NX,Ma];exact⟨⟨by rw[<-l];exact kZ A _,h⟩,g5 C _⟩
structure AppT (P:Program) (t e:TypeId) (sz by_:Nat):Prop where
 u:P.underlying t=some (.slice e)
 i:∃i z,P.info? e=some i/\i.zero=some z/\i.size=sz/\i.bytes=by_/\z.cells.size=sz/\z.cells.toList.all bL=true
 pos:0<sz
def lM(P:Program)(t:TypeId):Option (TypeId×Nat×Nat):=
 match P.underlying t with
 |some (.slice e)=>(P.info? e).bind fun i=>i.zero.bind fun z=>if z.cells.size=i.size/\z.cells.toList.all bL=true/\0<i.size then some (e,i.size,i.bytes)else none
 |_=>none
theorem qQ{P:Program}{t e:TypeId}{sz a:Nat}(h:lM P t=some (e,sz,a)):AppT P t e sz a:=by
 unfold lM at h;split at h
 ·next e' hu=>
  simp only[Ot]at h;obtain⟨i,b,z,c,h⟩:=h;split at h
  ·next hc=>
   simp only[MN,Pk]at h;obtain⟨rfl,rfl,rfl⟩:=h;exact⟨hu,⟨i,z,b,c,Z,Z,hc.1,hc.2.1⟩,hc.2.2⟩
  cases h
 cases h
def AllC(p:Tree->Bool)(es:List Tree):Prop:=∀c∈flat es,p c=true
theorem AllC.all{p:Tree->Bool}{es:List Tree}(h:AllC p es):(flat es).all p=true:=Mh.2 h
theorem AllC.lit{p:Tree->Bool}{es:List Tree}(h:(flat es).all p=true):AllC p es:=Mh.1 h
theorem AllC.map{p:Tree->Bool}{α:Type}(f:α->Tree)(l:List α)(h:∀a,(f a).cells.all p=true):AllC p (l.map f):=fun c b=>by
 simp only[flat,PV,Ny]at b;obtain⟨_,⟨a,_,rfl⟩,b⟩:=b;exact Mh.1 (h a) c b
section
variable {w0:World} {G0:Nat->Prop} {S:St} {o:Oper}
theorem wJ{a:Act}{w w':World}{bx:List Nat}{rv:List Value}{k:Nat}{v v':Value}{R R':Row}{xs:List Value}(G:Mem w0 G0 S.bs S.rs bx rv w)(d:a.tmps.size=S.n)(q:a.defers=[])(l:∀i,FT (en w G0 bx rv S.rs) [a.tmps.getD i undef] [S.get i])(E:cT S.n o.dst=true)
  (y:rv[k]? =some v) (p:S.rs[k]? =some (some R)) (s:w.grownBy w' v.ownBlock) (r:v'.ownBlock=v.ownBlock\/v'.ownBlock=some w.heap.size) (B:w'.ownsRow w0.heap.size R'.e R'.sz v' R'.es.length xs) (C:PT w' (GG G0 bx (rv.set k v') (S.rs.set k (some R'))) xs (flat R'.es)) (H:Sized R'.sz R'.es/\(R'.tt=true->np v')) (x:∀g,v'.ownBlock=some g->NoDigB w' g):
  Sim w0 G0 ({S.kill k with rs:=S.rs.set k (some R')}.put o.dst (.own k)) (a.put o.dst v') w':=by
 have b:∀g,v'.ownBlock=some g->v.ownBlock=some g\/w.heap.size<=g:=fun g f=>by
  rcases r with h|h
  ·exact .inl (h▸f)
  rw[h]at f;injection f with f;exact .inr (by omega)
 have t:=(L7.1 y).1;have m:=(L7.1 p).1;refine⟨bx,rv.set k v',?_,by rw[dB,eo];exact d,by rw[cH,q],?_⟩
 ·rw[dC,ch];exact G.setRowV y p s b B C H x
 rw[ch];intro i;rw[ga a o.dst _ S.n d E,dk];split
 ·obtain⟨A,c,rfl⟩:=cc B;refine .own k _ c A ?_ .nil;show fh (rv.set k _) (S.rs.set k (some R')) k=_
  unfold fh;rw[NA m,NA t];rfl
 have z:=(l i).kill (E':=en w' G0 bx (rv.set k v') (S.rs.set k (some R'))) (k:=k) s.size (n8 y p s b) (fun _ _ h=>h) (fun j u D F=>D9 j u D F);rw[<-p8]at z;exact z
theorem tU{x y:Operand}{t:TypeId}{k m:Nat}{R:Row}{d:List Tree}(X:o.op=.call {callee:=.builtin .append,args:=#[x,y],argTypes:=#[t,t]})(hd:cT S.n o.dst=true)(ht:lM Tryz.prog t=some (R.e,R.sz,m))(H:S.ev x=.own k)(M:S.rs[k]? =some (some R))(hy:S.ev y=.sl d)(hs:Sized R.sz d)(h1:AllC Tree.one d)(h2:AllC Tree.noDig d)(h3:R.es.length+d.length<=1073741824)(h4:m<=100000):
  n5 w0 G0 o S ({S.kill k with rs:=S.rs.set k (some ⟨R.e,R.sz,R.es++d,false⟩)}.put o.dst (.own k)):=by
 rintro a w ⟨bx,rv,Z,U,N,p⟩;have hp:=bI (op:=o.op) (T:=fun s=>a.tmps.getD s undef) (S:=S) (fun s _=>p s) H (by rw[X];simp[Op.operands,Call.operands]);have hq:=(bI (op:=o.op) (T:=fun s=>a.tmps.getD s undef) (S:=S) (fun s _=>p s) hy (by rw[X];simp[Op.operands,Call.operands])).isSl;generalize (fun s=>a.tmps.getD s undef)=T at hp hq⊢;obtain⟨hv,xs,r,a0,J,Y⟩:=jn Z M hp;obtain⟨A,c,e1,a3,_,hA,F⟩:=hq.slice;obtain⟨q,⟨i,z,hi,hz,O,V,a1,Q⟩,E⟩:=qQ ht;obtain⟨news,L,G,W⟩:∃news,news.length=d.length*R.sz/\PT w (GG G0 bx rv S.rs) news (flat d)/\∀a,A=some a->∀j u,news[j]? =some u->w.cell? (a.add j)=some u:=by
  rcases M1 d.length with K|K
  ·obtain rfl:d=[]:=Mk K;exact⟨[],by simp,.nil,fun a _ j u q=>by simp at q⟩
  obtain⟨b,off,news,rfl,_,_,hc,H⟩:=F K;refine⟨news,by rw[H.length,hs.flat],H,fun ad ha j u q=>?_⟩;rw[<-Nt ha,Addr.add_mid];exact hc j u q
 have D:FT (en w G0 bx rv S.rs) news (flat d):=.of G;obtain⟨v',w',hr,a2,l,B,C⟩:=mz (P:=Tryz.prog) w w0.heap.size t o.type R.e i z R.sz m q hi hz O V a1 E (cA T x) R.es.length xs r A d.length c news L (fun e=>⟨by have:=hA e;omega,hA e⟩) W (D.ones h1.all) (by simp only[maxLen];omega) (L6 (NU h3 h4) (by decide)) Z.below.size Q (D.noDigs h2.all) Y;refine aq (v:=v') (W':=w') ?_ (wJ (R':=⟨R.e,R.sz,R.es++d,false⟩) (xs:=xs++news) Z U N p hd hv M l B (by simpa using a2) ?_ ⟨J.1.append hs,fun h=>by cases h⟩ C)
 ·simp only[execOp,X,resolve,invoke,builtin,Sem.run_bind,Sem.run_pure,Result.andThen_ok,Nf,MX,ND,e1,hr]
 have f:=n8 (G0:=G0) (bx:=bx) (w:=w) (w':=w') (v':=v') (R':=⟨R.e,R.sz,R.es++d,false⟩) hv M l (fun g I=>by
  rcases B with h|h
  ·exact .inl (h▸I)
  rw[h]at I;injection I with I;exact .inr (by omega))
 rw[iF];exact(a0.mono l.size f).append (G.mono l.size f)
end
def wK(K:St->Prop)(Q:Exit->St->Prop):Exit->St->Prop
 | .normal,S=>K S
 |e,S=>Q e S
def wL(id:Nat)(Q:Exit->St->Prop):Exit->St->Prop
 | .exit id',S=>if id'=id then Q .normal S else Q (.exit id') S
 |e,S=>Q e S
section
variable {w0:World} {G0:Nat->Prop} {Q:Exit->St->Prop} {S:St}
theorem AWP.mono{c:Code}{b:Exit->St->Prop}(h:AWP w0 G0 c Q S)(g:∀e S,Q e S->b e S):AWP w0 G0 c b S:=fun a w f=>wp_mono (h a w f) fun e _ _ ⟨S',d,i⟩=>⟨S',g e S' d,i⟩
theorem ax(h:Q .normal S):AWP w0 G0 .skip Q S:=fun _ _ a=>wp_skip ⟨S,h,a⟩
theorem aZ{id:Nat}(h:Q (.exit id) S):AWP w0 G0 (.exit id) Q S:=fun _ _ a=>wp_exit ⟨S,h,a⟩
theorem aC(h:Q .ret S):AWP w0 G0 .ret Q S:=fun _ _ a=>wp_ret ⟨S,h,a⟩
theorem ab{x y:Code}(h:AWP w0 G0 x (wK (AWP w0 G0 y Q) Q) S):AWP w0 G0 (.seq x y) Q S:=fun a w f=>wp_seq (wp_mono (h a w f) fun e d w' ⟨S',c,b⟩=>by
 cases e with
 |normal=>exact c d w' b
 |_=>exact⟨S',c,b⟩)
theorem aH{c:Operand}{x y:Code}{b:Bool}(k:S.ev c=.sc (.bool b))(j:b=true->AWP w0 G0 x Q S)(m:b=false->AWP w0 G0 y Q S):AWP w0 G0 (.cond c x y) Q S:=fun a w e=>by
 have l:a.eval c=.bool b:=by
  obtain⟨bx,rv,o,n,i,d⟩:=e;rw[vf];have:FT (en w G0 bx rv S.rs) [cA (fun s=>a.tmps.getD s undef) c] [S.ev c]:=by
   cases c with
   |tmp s=>exact d s
   |const v=>exact .pure (.sc v .nil) .nil
   |global g=>exact .pure (.sc _ .nil) .nil
   |func f=>exact .pure (.sc _ .nil) .nil
  rw[k]at this;exact this.isSc
 exact wp_cond_split l (fun h=>j h a w e) (fun h=>m h a w e)
theorem aE{id:Nat}{c:Code}(h:AWP w0 G0 c (wL id Q) S):AWP w0 G0 (.block id c) Q S:=fun a w f=>wp_block (wp_mono (h a w f) fun e g w' ⟨S',b,d⟩=>by
 cases e with
 |exit id'=>
  simp only[wL]at b;simp only[Exit.inBlock];split at b
  ·rw[if_pos (by assumption)];exact⟨S',b,d⟩
  rw[if_neg (by assumption)];exact⟨S',b,d⟩
 |_=>exact⟨S',b,d⟩)
theorem fH(p:Nat->Prop):∀n,p n->∃m,p m/\∀k,k<m->¬p k:=fun n=>by
 induction n using Nat.strongRecOn with
 |ind n ih=>
  intro c;by_cases h:∃k,k<n/\p k
  ·obtain⟨k,b,a⟩:=h;exact ih k b a
  exact⟨n,c,fun k b a=>h ⟨k,b,a⟩⟩
open Classical in
theorem Eb{c:Code}(I:Nat->St->Prop)(n0:Nat)(h0:I n0 S)(round:∀n S,I n S->AWP w0 G0 c (wK (fun S'=>∃m,m<n/\I m S') Q) S):AWP w0 G0 (.loop c) Q S:=fun a w hs=>by
 let p:Act->World->Nat->Prop:=fun a w n=>∃S,I n S/\Sim w0 G0 S a w
 let μ:Act->World->Nat:=fun a w=>if h:∃n,p a w n then Classical.choose (fH (p a w) _ (Classical.choose_spec h))else 0
 have hμ:∀a w n,p a w n->p a w (μ a w)/\μ a w<=n:=fun a w n hn=>by
  have hex:∃n,p a w n:=⟨n,hn⟩
  have hsp:=Classical.choose_spec (fH (p a w) _ (Classical.choose_spec hex))
  have e:μ a w=Classical.choose (fH (p a w) _ (Classical.choose_spec hex)):=by simp only[μ];rw[dif_pos hex]
  rw[e]
  refine⟨hsp.1,?_⟩
  rcases MI n (Classical.choose (fH (p a w) _ (Classical.choose_spec hex)))with hlt|hge
  ·exact absurd hn (hsp.2 n hlt)
  ·exact hge
 refine wp_loop (fun a w=>∃n,p a w n) μ ⟨n0,S,h0,hs⟩ ?_
 rintro a w ⟨n,hn⟩
 obtain⟨⟨S',hI,hS⟩,_⟩:=hμ a w n hn
 refine wp_mono (round _ S' hI a w hS) ?_
 rintro e a' w' ⟨S'',h1,h2⟩
 cases e with
 |normal=>
  obtain⟨m,hm,hI'⟩:=h1
  have hp:p a' w' m:=⟨S'',hI',h2⟩
  exact⟨⟨m,hp⟩,NC (hμ a' w' m hp).2 hm⟩
 |_=>exact⟨S'',h1,h2⟩
def within0(m k:Nat):Tree->Bool
 | .box b _=>decide (b<m)
 | .own j| .elp j _=>decide (j<k)
 | .agg _| .tup _=>false
 |_=>true
def within(m k:Nat):Tree->Bool
 | .agg cs| .tup cs=>cs.all (within0 m k)
 |t=>within0 m k t
theorem FT.within0{E E':En}{m k:Nat}(i:E.W.heap.size<=E'.W.heap.size)(e:∀b,b<E.W.heap.size->¬E.G b->E'.W.heap[b]? =E.W.heap[b]? /\¬E'.G b)(f:∀b g,b<m->E.bx b=some g->E'.bx b=some g)(d:∀j v,j<k->E.rv j=some v->E'.rv j=some v){v:Value}{t:Tree}(h:FT E [v] [t])(a:Go.Proofs.YtfoejfohbkmmeaaGreatDoor.within0 m k t=true):FT E' [v] [t]:=by
 cases h with
 |pure h _=>exact .pure (h.mono i e) .nil
 |any=>exact .any _ .nil
 |box b off g h _=>exact .box b off g (f b g (by simpa[Go.Proofs.YtfoejfohbkmmeaaGreatDoor.within0]using a) h) .nil
 |own j n c A h _=>exact .own j n c A (d j _ (by simpa[Go.Proofs.YtfoejfohbkmmeaaGreatDoor.within0]using a) h) .nil
 |elp j off g n c h _=>exact .elp j off g n c (d j _ (by simpa[Go.Proofs.YtfoejfohbkmmeaaGreatDoor.within0]using a) h) .nil
 |agg=>simp[Go.Proofs.YtfoejfohbkmmeaaGreatDoor.within0]at a
 |tup=>simp[Go.Proofs.YtfoejfohbkmmeaaGreatDoor.within0]at a
theorem jJ{E E':En}{m k:Nat}(a:E.W.heap.size<=E'.W.heap.size)(c:∀b,b<E.W.heap.size->¬E.G b->E'.W.heap[b]? =E.W.heap[b]? /\¬E'.G b)(e:∀b g,b<m->E.bx b=some g->E'.bx b=some g)(d:∀j v,j<k->E.rv j=some v->E'.rv j=some v):∀{us:List Value} {ts:List Tree},FT E us ts->ts.all (Go.Proofs.YtfoejfohbkmmeaaGreatDoor.within0 m k)=true->FT E' us ts
 |[],[],_,_=>.nil
 |[],_::_,h,_=>by cases h
 |_::_,[],h,_=>by cases h
 |u::us,t::ts,h,hp=>by
  simp only[NP,Ma]at hp;exact FT.cons (FT.within0 a c e d h.head hp.1) (jJ a c e d h.tail hp.2)
theorem FT.within{E E':En}{m k:Nat}(f:E.W.heap.size<=E'.W.heap.size)(a:∀b,b<E.W.heap.size->¬E.G b->E'.W.heap[b]? =E.W.heap[b]? /\¬E'.G b)(e:∀b g,b<m->E.bx b=some g->E'.bx b=some g)(i:∀j v,j<k->E.rv j=some v->E'.rv j=some v){v:Value}{t:Tree}(h:FT E [v] [t])(c:Go.Proofs.YtfoejfohbkmmeaaGreatDoor.within m k t=true):FT E' [v] [t]:=by
 cases t with
 |agg cs=>
  obtain⟨xs,rfl,d⟩:=h.isAgg;exact .agg xs _ (jJ f a e i d c) .nil
 |tup cs=>
  obtain⟨xs,rfl,d⟩:=h.isTup;exact .tup xs _ (jJ f a e i d c) .nil
 |_=>exact FT.within0 f a e i h c
inductive Keeps (S:St) (m k:Nat):List (Nat×Tree)->Prop
 |nil:Keeps S m k []
 |cons {i:Nat} {t:Tree} {l:List (Nat×Tree)} (h:S.get i=t) (hw:within m k t=true) (hs:Keeps S m k l):Keeps S m k ((i,t)::l)
theorem Keeps.get{m k:Nat}{l:List (Nat×Tree)}(h:Keeps S m k l)(i:Nat):look l i=.any\/(look l i=S.get i/\within m k (S.get i)=true):=by
 induction h with
 |nil=>exact .inl Z
 |cons h hw _ ih=>
  rw[cV];split
  ·next e=>subst e;exact .inr ⟨h.symm,by rw[h];exact hw⟩
  exact ih
theorem e8{α:Type}{l:List α}{m i:Nat}{x:α}(h:(l.take m)[i]? =some x):i<m/\l[i]? =some x:=by
 rw[MZ]at h;split at h
 ·exact⟨by assumption,h⟩
 cases h
theorem jq{α:Type}{l:List α}{m i:Nat}{x:α}(h:l[i]? =some x)(a:i<m):(l.take m)[i]? =some x:=by rw[MZ,if_pos a];exact h
theorem Sim.less{a:Act}{w:World}(h:Sim w0 G0 S a w)(m k:Nat)(l:List (Nat×Tree))(K:Keeps S m k l)(s:((S.bs.take m).all fun p=>p.2.all (within0 m k))=true):Sim w0 G0 ⟨S.n,l,S.bs.take m,S.rs.take k⟩ a w:=by
 obtain⟨bx,rv,e,I,C,z⟩:=h;have o:∀b,b∈cq (bx.take m) (rv.take k) (S.rs.take k)->b∈cq bx rv S.rs:=fun b s=>by
  rcases aX.1 s with c|⟨j,u,X,c,d,f⟩
  ·exact aX.2 (.inl (MC c))
  exact aX.2 (.inr ⟨j,u,X,(e8 c).2,(e8 d).2,f⟩)
 have F:∀b,b<w.heap.size->¬GG G0 bx rv S.rs b->w.heap[b]? =w.heap[b]? /\¬GG G0 (bx.take m) (rv.take k) (S.rs.take k) b:=fun b _ J=>⟨Z,fun h=>J (h.imp id (o b))⟩
 have q:∀b g,b<m->(en w G0 bx rv S.rs).bx b=some g->(en w G0 (bx.take m) (rv.take k) (S.rs.take k)).bx b=some g:=fun b g B h=>jq (l:=bx) h B
 have r:∀j v,j<k->(en w G0 bx rv S.rs).rv j=some v->(en w G0 (bx.take m) (rv.take k) (S.rs.take k)).rv j=some v:=fun j v G h=>by
  show fh (rv.take k) (S.rs.take k) j=some v
  have h:fh rv S.rs j=some v:=h;unfold fh at h⊢;rw[MZ,if_pos G,MZ,if_pos G];exact h
 refine⟨bx.take m,rv.take k,⟨e.below,e.env0,e.g0,by simp[e.nb],by simp[e.nr],fun i g L=>?_,fun j u X c d=>?_,⟨e.nodup.bb.sublist (List.take_sublist _ _),fun j u X b c d f D=>e.nodup.br j u X b (e8 c).2 (e8 d).2 f (MC D),fun i j u v X Y b A c d f t=>e.nodup.rr i j u v X Y b A (e8 c).2 (e8 d).2 (e8 f).2 (e8 t).2⟩,fun b s=>e.ge b (o b s)⟩,I,C,fun i=>?_⟩
 ·obtain⟨c,d⟩:=e8 L;obtain⟨ty,cs,us,f,t,y,x⟩:=e.box i g d;have H:=jq f c;exact⟨ty,cs,us,H,t,jJ (E:=en w G0 bx rv S.rs) (E':=en w G0 (bx.take m) (rv.take k) (S.rs.take k)) (m:=m) (k:=k) (L5 _) F q r y (Mh.1 s _ (L9 H)),x⟩
 ·obtain⟨xs,f,t,y,x⟩:=e.row j u X (e8 c).2 (e8 d).2;exact⟨xs,f,t.mono (L5 _) F,y,x⟩
 show FT _ _ [look l i]
 rcases K.get i with c|⟨c,d⟩
 ·rw[c];exact .any _ .nil
 rw[c];exact FT.within (E:=en w G0 bx rv S.rs) (E':=en w G0 (bx.take m) (rv.take k) (S.rs.take k)) (m:=m) (k:=k) (L5 _) F q r (z i) d
def J2(S:St):ResultVar->Tree->Prop
 | .tmp t,x=>S.get t=x
 | .cell a ty,x=>∃b off bt cs,S.get a=.box b off/\S.bs[b]? =some (bt,cs)/\((∃n,qF Tryz.prog ty=some n/\Nat.ble (off+n) cs.length=true/\x=.agg ((cs.drop off).take n))\/(iU Tryz.prog ty=true/\cs[off]? =some x))
inductive ResL (S:St):List ResultVar->List Tree->Prop
 |nil:ResL S [] []
 |cons {x:ResultVar} {t:Tree} {xs:List ResultVar} {ts:List Tree} (h:J2 S x t) (hs:ResL S xs ts):ResL S (x::xs) (t::ts)
def mA:List Tree->Tree
 |[t]=>t
 |ts=>.tup ts
def J3(rvs:List ResultVar)(r:Tree)(e:Exit)(S:St):Prop:=(e=.normal\/e=.ret)/\∃ts,ResL S rvs ts/\mA ts=r/\r.plain=true
theorem yZ{a:Act}{w:World}{bx:List Nat}{rv:List Value}(K:Mem w0 G0 S.bs S.rs bx rv w)(e:∀i,FT (en w G0 bx rv S.rs) [a.tmps.getD i undef] [S.get i]){x:ResultVar}{t:Tree}(h:J2 S x t):
  ∃v,((match x with| .tmp t=>pure (a.tmps.getD t undef)| .cell b t=>do loadVar t (<-asAddr (a.tmps.getD b undef)):Sem Value)).run Tryz.prog w=.ok v w/\FT (en w G0 bx rv S.rs) [v] [t]:=by
 cases x with
 |tmp s=>
  have h:S.get s=t:=h;exact⟨_,Z,h▸e s⟩
 |cell s ty=>
  obtain⟨b,off,L,cs,E,J,D⟩:=h;have C:=e s;rw[E]at C;obtain⟨g,us,_,B,l,z,_⟩:=rB K J C;rcases D with⟨n,q,f,rfl⟩|⟨k,I⟩
  ·obtain⟨d,p,A,H⟩:=vh q;have f:off+n<=cs.length:=by simpa using f
   have G:((us.drop off).take n).length=n:=by have:=z.length;rw[Mf,MS];omega
   have F:=run_loadVar_mid (P:=Tryz.prog) w g off ty ((us.drop off).take n) d (fun j v m=>by
    rw[l.cell,NV];rw[MZ]at m;split at m
    ·rw[Nd]at m;exact m
    cases m) p A (by rw[G];exact H)
   refine⟨.agg ((us.drop off).take n).toArray,?_,.agg _ _ ((z.drop off).take n) .nil⟩;simp only[B,asAddr,Sem.run_bind,Sem.run_pure,Result.andThen_ok,F]
  obtain⟨u,p,r⟩:=z.get off t I;obtain⟨d,o,A⟩:=vk k;have c:(isAgg ty).run Tryz.prog w=.ok false w:=by
   unfold isAgg;rw[Sem.run_bind,run_underlying o w];cases d<;>simp_all
  have y:w.cell? ⟨g,off,none⟩=some u:=by rw[l.cell,NV];exact p
  refine⟨u,?_,r⟩;simp only[B,asAddr,Sem.run_bind,Sem.run_pure,Result.andThen_ok];simp[loadVar,c,y]
theorem jK{a:Act}{w:World}{bx:List Nat}{rv:List Value}(d:Mem w0 G0 S.bs S.rs bx rv w)(c:∀i,FT (en w G0 bx rv S.rs) [a.tmps.getD i undef] [S.get i]):∀{xs:List ResultVar} {ts:List Tree},ResL S xs ts->
  ∃vs,(xs.mapM (m:=Sem) fun| .tmp t=>pure (a.tmps.getD t undef)| .cell b t=>do loadVar t (<-asAddr (a.tmps.getD b undef))).run Tryz.prog w=.ok vs w/\FT (en w G0 bx rv S.rs) vs ts
 |[],[],_=>⟨[],Z,.nil⟩
 |x::xs,t::ts,.cons h hs=>by
  obtain⟨v,f,j⟩:=yZ d c h;obtain⟨vs,e,g⟩:=jK d c hs;refine⟨v::vs,?_,FT.cons j g⟩;rw[Qa,Sem.run_bind,f,Result.andThen_ok,Sem.run_bind,e,Result.andThen_ok];rfl
def j5:Nat->List Tree->List (Nat×Tree)
 |_,[]=>[]
 |k,t::ts=>(k,t)::j5 (k+1) ts
theorem mB:∀(ts:List Tree) (k i:Nat),look (j5 k ts) i=if k<=i then(ts[i-k]?).getD .any else .any
 |[],k,i=>by simp[j5,look]
 |t::ts,k,i=>by
  simp only[j5,cV,mB ts (k+1) i];by_cases h:k=i
  ·subst h;simp
  rw[if_neg h];by_cases a:k<=i
  ·rw[if_pos (by omega),if_pos a,show i-k=(i-(k+1))+1 by omega,Pd]
  rw[if_neg (by omega),if_neg a]
theorem Ct.of{f:FuncId}{d:Func}{c:Code}{args:List Tree}{r:Tree}{n:Nat}{o:List ResultVar}(K:Tryz.prog.funcs[f]? =some d)(q:d.body=some c)(C:(d.name== "runtime.NumGoroutine")=false)(U:d.ntmps=n)(H:Nat.ble args.length n=true)(P:d.results.toList=o)
  (h:∀w0 G0,AWP w0 G0 c (J3 o r) ⟨n,j5 0 args,[],[]⟩):Ct f args r:=by
 refine⟨⟨d,K,C,by rw[q];rfl⟩,fun G w vs M N I=>?_⟩;have J:=I.length;have H:args.length<=n:=by simpa using H
 refine calls_of_wp K q (wp_mono (h w G _ w ⟨[],[],⟨Below.refl _ _,M,N,Z,Z,fun i g z=>by simp at z,fun k v R p=>by simp at p,⟨Pb,fun k v R b p=>by simp at p,fun j k u v X R b _ p=>by simp at p⟩,fun b q=>by simp[cq]at q⟩,?_,Z,fun i=>?_⟩) ?_)
 ·simp;omega
 ·show FT _ _ [look (j5 0 args) i]
  rw[mB,if_pos (Mx _),O8];cases Q:args[i]? with
  |none=>exact .any _ .nil
  |some t=>
   obtain⟨u,F,D⟩:=I.get i t Q;have z:=(L7.1 F).1;have S:(vs.toArray++Array.replicate (d.ntmps-vs.toArray.size) undef).getD i undef=u:=by
    rw[MV,Oz (by simpa using z),NV,F];rfl
   rw[S];refine .pure (D.mono (L5 _) fun b _ l=>⟨Z,fun h=>?_⟩) .nil;rcases h with h|h
   ·exact l h
   simp[cq]at h
 rintro e a w' ⟨S',⟨T,ts,E,rfl,y⟩,bx,rv,L,_,A,s⟩;obtain⟨us,m,B⟩:=jK L s (P▸E);have key:a.defers=[]/\∃v,(results d a.tmps).run Tryz.prog w'=.ok v w'/\(fun e w'=>∃v,e=Ending.returned v/\PT w' G [v] [mA ts]/\Below w.heap.size w w') (.returned v) w':=by
  refine⟨A,if h:us.toArray.size=1 then us.toArray[0]else .tuple us.toArray,?_,_,Z,?_,L.below⟩
  ·unfold results;rw[Sem.run_bind,Ol,Sem.run_map];exact congrArg (fun x:Result (List Value)=>(x.andThen fun a w'=>Result.ok a.toArray w').andThen fun a w'=>Sem.run Tryz.prog (pure (if h:a.size=1 then a[0]else Value.tuple a)) w') m
  have O:FT (en w' G bx rv S'.rs) [if h:us.toArray.size=1 then us.toArray[0]else .tuple us.toArray] [mA ts]:=by
   match us,ts,B with
   |[],[],_=>exact .tup [] [] .nil .nil
   |[u],[t],h=>exact h
   |u::u'::us,t::t'::ts,h=>
    rw[dif_neg (by simp)];exact .tup _ _ h .nil
  exact(O.plain y).mono (L5 _) fun b _ l=>⟨Z,fun h=>l (.inl h)⟩
 rcases T with rfl|rfl
 ·exact key
 exact key
end
def In(P:Program)(ops:Array Oper)(dsts:List (Option Nat))(t:Array Value)(R:Nat->Value->World->Prop)(cons:Nat->Option Nat)(WI:World->Prop)(Ext:Nat->World->World->Prop)(i:Nat)(o:Oper):Prop:=
 (nU ops dsts R cons i o.guard/\∀(T:Nat->Value) (W:World),Given ops dsts t R cons WI i T W->OpRuns P o T W fun v W'=>R i v W'/\Ext i W W')\/
 (∃j b n s,o.guard=some (j,b)/\(j !=i&&reach ops n i j&&cons j==none&&dsts[j]? ==some (some s))=true/\(∀v W,R j v W->v≠ .bool b)/\∀W,R i undef W)
def StepsT(P:Program)(ops:Array Oper)(dsts:List (Option Nat))(t:Array Value)(R:Nat->Value->World->Prop)(cons:Nat->Option Nat)(WI:World->Prop)(Ext:Nat->World->World->Prop):Nat->List Oper->Prop
 |_,[]=>True
 |i,o::l=>In P ops dsts t R cons WI Ext i o/\StepsT P ops dsts t R cons WI Ext (i+1) l
theorem StepsT.at{P:Program}{ops:Array Oper}{a:List (Option Nat)}{t:Array Value}{R:Nat->Value->World->Prop}{cons:Nat->Option Nat}{c:World->Prop}{b:Nat->World->World->Prop}:∀(l:List Oper) (n:Nat),StepsT P ops a t R cons c b n l->∀(k:Nat) (o:Oper),l[k]? =some o->In P ops a t R cons c b (n+k) o
 |[],_,_,k,o,h=>by simp at h
 |x::l,n,hs,0,o,h=>by
  simp only[MW,MN]at h;subst h;exact hs.1
 |x::l,n,hs,k+1,o,h=>by
  have:=StepsT.at l (n+1) hs.2 k o (by simpa using h);rw[show n+1+k=n+(k+1) by omega]at this;exact this
theorem StepsT.cons{P:Program}{ops:Array Oper}{a:List (Option Nat)}{t:Array Value}{R:Nat->Value->World->Prop}{cons:Nat->Option Nat}{c:World->Prop}{b:Nat->World->World->Prop}{i:Nat}{o:Oper}{l:List Oper}
  (d:nU ops a R cons i o.guard) (h:∀(T:Nat->Value) (W:World),Given ops a t R cons c i T W->OpRuns P o T W fun v W'=>R i v W'/\b i W W') (e:StepsT P ops a t R cons c b (i+1) l):StepsT P ops a t R cons c b i (o::l):=⟨.inl ⟨d,h⟩,e⟩
theorem StepsT.skip{P:Program}{ops:Array Oper}{a:List (Option Nat)}{t:Array Value}{R:Nat->Value->World->Prop}{cons:Nat->Option Nat}{d:World->Prop}{c:Nat->World->World->Prop}{i:Nat}{o:Oper}{l:List Oper}{j:Nat}{b:Bool}(n s:Nat)
  (f:o.guard=some (j,b)) (k:(j !=i&&reach ops n i j&&cons j==none&&a[j]? ==some (some s))=true) (g:∀v W,R j v W->v≠ .bool b) (e:∀W,R i undef W) (h:StepsT P ops a t R cons d c (i+1) l):StepsT P ops a t R cons d c i (o::l):=⟨.inr ⟨j,b,n,s,f,k,g,e⟩,h⟩
theorem lW{P:Program}{id:Nat}{ops:Array Oper}{Q:Exit->Act->World->Prop}{a:Act}{w:World}(d:List (Option Nat))(R:Nat->Value->World->Prop)(cons:Nat->Option Nat)(D:World->Prop)(J:Nat->World->World->Prop)
  (hm:P.follows .mixedOrders=true) (a0:dM ops=true) (hd:ops.toList.map (·.dst)=d) (q:bV a.tmps.size d=true)
  (U:∀i W W',D W->J i W W'->D W') (E:∀i j v W W',cons j≠some i->D W->R j v W->J i W W'->R j v W') (h0:D w.drew)
  (M:StepsT P ops d a.tmps R cons D J 0 ops.toList)
  (V:∀(us:List Value) (W:World),us.length=d.length->(∀j,j<ops.size->cons j=none->R j (us.getD j undef) W)->D W->Q .normal ⟨b8 a.tmps (d.zip us),a.defers⟩ W):(Code.region id ops true).wp P Q a w:=by
 have a4:d.length=ops.size:=by rw[<-hd];simp
 refine dF (fun L a' W=>∃us,a'=⟨b8 a.tmps (d.zip us),a.defers⟩/\L.size=ops.size/\Closed ops L/\MonoAt R cons D (fZ a.tmps d) L us W) hm a0 ⟨fZ a.tmps d,?_,by simp,eI ops,⟨Z,fun j k=>absurd k dG,fun _ _=>rfl,h0⟩⟩ ?_ ?_
 ·rw[gX]
 ·rintro L a' W i o h1 h2 S h4 ⟨us,rfl,_,hc,m⟩;have hi:i<ops.size:=(ML.1 S).1;have X:d[i]? =some o.dst:=by
   rw[<-hd,MQ];simp only[Np,S,Nu]
  have l:us.length=d.length:=by rw[m.len,dj]
  have O:L.getD i false=false:=getD_both h2;have K:∀n j,j≠i->reach ops n i j=true->L.getD j false=true:=fun n j k z=>by
   have r:=hc.step S h4;have:=r.reach n i j z (cM (by omega));rwa[am (fun e=>k e.symm)]at this
  have Y:∀n j,reach ops n j i=true->L.getD j false=false:=fun n j z=>by
   cases hl:L.getD j false with
   |false=>rfl
   |true=>
    have:=hc.reach n j i z hl;rw[O]at this;cases this
  have G:Given ops d a.tmps R cons D i (fun s=>(b8 a.tmps (d.zip us)).getD s undef) W:=by
   refine⟨fun s f=>eC d us _ s f,fun n j s f=>?_,fun n j s f=>?_,m.wi⟩
   ·simp only[Ma,bne_iff_ne,beq_iff_eq]at f;obtain⟨⟨⟨k,z⟩,t⟩,f⟩:=f;show R j ((b8 a.tmps (d.zip us)).getD s undef) W
    rw[(cl d us _ j s q l f).1];refine m.fact j (K n j k z) fun c h=>?_
    rw[A8,h]at t;exact Y n c t
   simp only[Ma,beq_iff_eq]at f;obtain⟨z,f⟩:=f;show(b8 a.tmps (d.zip us)).getD s undef=_
   rw[(cl d us _ j s q l f).1,m.old j (Y n j z),jg _ _ _ _ f]
  have hS:=StepsT.at ops.toList 0 M i o (by simpa using S);rw[M0]at hS;have B:∀j b' n s,(j !=i&&reach ops n i j&&cons j==none&&d[j]? ==some (some s))=true->(∀v W,R j v W->v=.bool b')->yielded ops (b8 a.tmps (d.zip us)) j=some b':=by
   intro j b' n s f F;simp only[Ma,bne_iff_ne,beq_iff_eq]at f;obtain⟨⟨⟨k,z⟩,t⟩,f⟩:=f;have C:=F _ _ (m.fact j (K n j k z) fun c h=>by rw[t]at h;cases h);rw[<-(cl d us _ j s q l f).1]at C;have H:=(cl d us a.tmps j s q l f).2;have N:(ops[j]?).bind (·.dst)=some s:=by
    rw[<-hd,MQ,Np]at f;cases ho:ops[j]? with
    |none=>simp[ho]at f
    |some oj=>simpa[ho]using f
   have:(b8 a.tmps (d.zip us))[s]? =some (.bool b'):=by
    have T:s<(b8 a.tmps (d.zip us)).size:=by rw[fy];exact H
    simp only[MV,MH T,MK]at C;rw[MH T,C]
   simp only[yielded,N,Nc,this]
  rcases hS with hS|⟨j,b,n,s,I,f,F,a1⟩
  rotate_left
  ·have hw:Region.wanted o (yielded ops (b8 a.tmps (d.zip us)))=false:=by
    unfold Region.wanted;rw[I];simp only[Ma,bne_iff_ne,beq_iff_eq]at f;obtain⟨⟨⟨k,z⟩,t⟩,f⟩:=f;have C:=F _ _ (m.fact j (K n j k z) fun c h=>by rw[t]at h;cases h);rw[<-(cl d us _ j s q l f).1]at C;have H:=(cl d us a.tmps j s q l f).2;have N:(ops[j]?).bind (·.dst)=some s:=by
     rw[<-hd,MQ,Np]at f;cases ho:ops[j]? with
     |none=>simp[ho]at f
     |some oj=>simpa[ho]using f
    have T:s<(b8 a.tmps (d.zip us)).size:=by rw[fy];exact H
    simp only[MV,MH T,MK]at C;simp only[yielded,N,Nc,MH T];generalize (b8 a.tmps (d.zip us))[s]=u at C;cases u with
    |bool x=>
     cases x<;>cases b<;>first|rfl|(exact absurd Z C)
    |_=>rfl
   simp only[wpList];rw[if_neg (by rw[hw];exact MR)];refine⟨us.set i undef,?_,by simpa using h1,hc.step S h4,⟨by simpa using m.len,fun j k h=>?_,fun j k=>?_,m.wi⟩⟩
   ·exact iE d us _ _ i _ undef q l X
   ·by_cases g:i=j
    ·subst g;have:(us.set i undef).getD i undef=undef:=by simp[List.getD,show i<us.length by omega]
     rw[this];exact a1 _
    rw[am g]at k;have:(us.set i undef).getD j undef=us.getD j undef:=by simp[List.getD,g]
    rw[this];refine m.fact j k fun c r=>?_
    have:=h c r;by_cases y:i=c
    ·subst y;exact O
    rwa[am y]at this
   by_cases g:i=j
   ·subst g;rw[cM (by omega)]at k;cases k
   rw[am g]at k;have:(us.set i undef).getD j undef=us.getD j undef:=by simp[List.getD,g]
   rw[this];exact m.old j k
  obtain⟨hg,A⟩:=hS;have A:=A _ W G;have hw:Region.wanted o (yielded ops (b8 a.tmps (d.zip us)))=true:=by
   unfold Region.wanted;cases I:o.guard with
   |none=>rfl
   |some p=>
    obtain⟨j,b⟩:=p;rw[I]at hg;obtain⟨n,s,f,F⟩:=hg;have:=B j b n s f F;simp only[this];cases b<;>rfl
  simp only[wpList];rw[if_pos hw];refine .inl<|Oper.wp_mono ?_ A.wp;rintro a3 a5 ⟨v,e,F,hE⟩;refine⟨us.set i v,?_,by simpa using h1,hc.step S h4,⟨by simpa using m.len,fun j k h=>?_,fun j k=>?_,U _ _ _ m.wi hE⟩⟩
  ·rw[e];exact iE d us _ _ i _ v q l X
  ·by_cases g:i=j
   ·subst g;have:(us.set i v).getD i undef=v:=by simp[List.getD,show i<us.length by omega]
    rw[this];exact F
   rw[am g]at k;have:(us.set i v).getD j undef=us.getD j undef:=by simp[List.getD,g]
   rw[this];refine E i j _ _ _ (fun e=>?_) m.wi (m.fact j k fun c r=>?_) hE
   ·have:=h i e;rw[cM (by omega)]at this;cases this
   have:=h c r;by_cases y:i=c
   ·subst y;exact O
   rwa[am y]at this
  by_cases g:i=j
  ·subst g;rw[cM (by omega)]at k;cases k
  rw[am g]at k;have:(us.set i v).getD j undef=us.getD j undef:=by simp[List.getD,g]
  rw[this];exact m.old j k
 rintro L a' W h1 ⟨us,rfl,a2,_,m⟩;refine V us W (by rw[m.len,dj]) (fun j k h=>m.fact j (h1 j k) fun c r=>by rw[h]at r;cases r) m.wi
end Go.Proofs.YtfoejfohbkmmeaaGreatDoor
