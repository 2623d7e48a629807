import Derived.Test.YtfoejfohbkmmeaaGreatDoorK18
import Derived.Laws.IdiomCopy
set_option maxRecDepth 100000
set_option maxHeartbeats 8000000
set_option linter.defProp false
open Go.Proofs.Tryz
namespace Go.Proofs.YtfoejfohbkmmeaaGreatDoor
open Go.RowKit
open Lib renaming hid→J
def FW(Q:Exit->World->(Nat->Prop)->St->Prop)(e:Exit)(a:Act)(w:World):Prop:=∃w1 G1 S,Q e w1 G1 S/\Sim w1 (pln G1) S a w
def BWP(c:Code)(Q:Exit->World->(Nat->Prop)->St->Prop)(w1:World)(G1:Nat->Prop)(S:St):Prop:=∀a w,Sim w1 (pln G1) S a w->c.wp prog (FW Q) a w
def NS(K:World->(Nat->Prop)->St->Prop)(Q:Exit->World->(Nat->Prop)->St->Prop):Exit->World->(Nat->Prop)->St->Prop
 | .normal,w,G,S=>K w G S
 |e,w,G,S=>Q e w G S
def BH(id:Nat)(Q:Exit->World->(Nat->Prop)->St->Prop):Exit->World->(Nat->Prop)->St->Prop
 | .exit id',w,G,S=>if id'=id then Q .normal w G S else Q (.exit id') w G S
 |e,w,G,S=>Q e w G S
section
variable {w1:World} {G1:Nat->Prop} {Q:Exit->World->(Nat->Prop)->St->Prop} {S:St}
def BWP.of{c:Code}(h:AWP w1 (pln G1) c (λe S=>Q e w1 G1 S) S):BWP c Q w1 G1 S:=λa w f=>wp_mono (h a w f) λ_ _ _ ⟨S',b,d⟩=>⟨w1,G1,S',b,d⟩
def dK{x y:Code}(h:BWP x (NS (BWP y Q) Q) w1 G1 S):BWP (.seq x y) Q w1 G1 S:=λa w f=>wp_seq (wp_mono (h a w f) λe d w' ⟨g,G2,S',b,c⟩=>by
 cases e with
 |normal=>exact b d w' c
 |_=>exact⟨g,G2,S',b,c⟩)
def mp(h:Q .normal w1 G1 S):BWP .skip Q w1 G1 S:=λ_ _ a=>wp_skip ⟨w1,G1,S,h,a⟩
def oo{id:Nat}(h:Q (.exit id) w1 G1 S):BWP (.exit id) Q w1 G1 S:=λ_ _ a=>wp_exit ⟨w1,G1,S,h,a⟩
def mq{c:Operand}{x y:Code}{b:Bool}(i:S.ev c=bT b)(m:b=true->BWP x Q w1 G1 S)(l:b=false->BWP y Q w1 G1 S):BWP (.cond c x y) Q w1 G1 S:=λa w d=>by
 have k:a.eval c=.bool b:=by
  obtain⟨bx,rv,n,o,j,e⟩:=d;rw[zB];have:FT (en w (pln G1) bx rv S.rs) [dG (λs=>a.tmps.getD s undef) c] [S.ev c]:=by
   cases c with
   |tmp s=>exact e s
   |const v=>exact .pure (.sc v .nil) .nil
   |global g=>exact .pure (.sc _ .nil) .nil
   |func f=>exact .pure (.sc _ .nil) .nil
  rw[i]at this;exact this.isSc
 exact wp_cond_split k (λh=>m h a w d) (λh=>l h a w d)
def yi{id:Nat}{c:Code}(h:BWP c (BH id Q) w1 G1 S):BWP (.block id c) Q w1 G1 S:=λa w g=>wp_block (wp_mono (h a w g) λe i w' ⟨f,G2,S',b,d⟩=>by
 cases e with
 |exit id'=>
  simp only[BH]at b;simp only[Exit.inBlock];split at b
  ·rw[if_pos (by assumption)];exact⟨f,G2,S',b,d⟩
  rw[if_neg (by assumption)];exact⟨f,G2,S',b,d⟩
 |_=>exact⟨f,G2,S',b,d⟩)
def oq{c:Code}(h:∀a w,Sim w1 (pln G1) S a w->∃d G2 b,Sim d (pln G2) b a w/\BWP c Q d G2 b):BWP c Q w1 G1 S:=λa w g=>by
 obtain⟨d,G2,b,e,f⟩:=h a w g;exact f a w e
def qX{c:Code}{n:Nat}{sl:List (Nat×Tree)}{bs:List (TypeId×List Tree)}{rs:List (Option Row)}(l:List (Nat×Tree))(b:Keeps ⟨n,sl,bs,rs⟩ 0 0 l)(h:BWP c Q w1 G1 ⟨n,l,[],[]⟩):BWP c Q w1 G1 ⟨n,sl,bs,rs⟩:=λa w d=>h a w (d.less 0 0 l b Z)
open Classical in
def BI{c:Code}(I:Nat->World->(Nat->Prop)->St->Prop)(n0:Nat)(h0:I n0 w1 G1 S)(round:∀n w1 G1 S,I n w1 G1 S->BWP c (NS (λw' G' S'=>∃m,m<n/\I m w' G' S') Q) w1 G1 S):BWP (.loop c) Q w1 G1 S:=λa w hs=>by
 let p:Act->World->Nat->Prop:=λa w n=>∃w1 G1 S,I n w1 G1 S/\Sim w1 (pln G1) S a w
 let μ:Act->World->Nat:=λa w=>if h:∃n,p a w n then Classical.choose (gU (p a w) _ (Classical.choose_spec h))else 0
 have hμ:∀a w n,p a w n->p a w (μ a w)/\μ a w<=n:=λa w n hn=>by
  have hex:∃n,p a w n:=⟨n,hn⟩
  have hsp:=Classical.choose_spec (gU (p a w) _ (Classical.choose_spec hex))
  have e:μ a w=Classical.choose (gU (p a w) _ (Classical.choose_spec hex)):=by simp only[μ];rw[dif_pos hex]
  rw[e]
  refine⟨hsp.1,?_⟩
  rcases RE n (Classical.choose (gU (p a w) _ (Classical.choose_spec hex)))with hlt|hge
  ·exact absurd hn (hsp.2 n hlt)
  ·exact hge
 refine wp_loop (λa w=>∃n,p a w n) μ ⟨n0,w1,G1,S,h0,hs⟩ ?_
 rintro a w ⟨n,hn⟩
 obtain⟨⟨w2,G2,S',hI,hS⟩,_⟩:=hμ a w n hn
 refine wp_mono (round _ w2 G2 S' hI a w hS) ?_
 rintro e a' w' ⟨w3,G3,S'',h1,h2⟩
 cases e with
 |normal=>
  obtain⟨m,hm,hI'⟩:=h1
  have hp:p a' w' m:=⟨w3,G3,S'',hI',h2⟩
  exact⟨⟨m,hp⟩,SG (hμ a' w' m hp).2 hm⟩
 |_=>exact⟨w3,G3,S'',h1,h2⟩
def BOps(ops:Array Oper)(rest:List Oper)(Q:Exit->World->(Nat->Prop)->St->Prop)(w1:World)(G1:Nat->Prop)(S:St):Prop:=∀a w,Sim w1 (pln G1) S a w->wpList prog ops (FW Q) rest a w
variable {ops:Array Oper} {rest:List Oper} {o:Oper}
def gn{id:Nat}{ops:List Oper}(h:BOps ops.toArray ops Q w1 G1 S):BWP (.region id ops.toArray false) Q w1 G1 S:=λa w b=>wp_region_list (by simpa using h a w b)
def jj(h:Q .normal w1 G1 S):BOps ops [] Q w1 G1 S:=λ_ _ a=>⟨w1,G1,S,h,a⟩
def MP(l:o.guard=none)(j:cF S.n o.dst=true){t:Tree}(h:OpOK o S t)(k:BOps ops rest Q w1 G1 (S.put o.dst t)):BOps ops (o::rest) Q w1 G1 S:=by
 rintro a w ⟨bx,rv,e,f,c,b⟩;refine fj (by simp[Region.wanted,l]) λK i=>?_
 have g:=(h w1 (pln G1) bx rv w (λs=>a.tmps.getD s undef) e λs _=>b s).wp (Q:=FW Q);refine Oper.wp_mono ?_ g;rintro p w' ⟨v,rfl,m,d⟩;refine i _ _ (k _ _ ⟨bx,rv,?_,by rw[ee,eu,f],by rw[df,c],?_⟩)
 ·rw[dJ,cj];exact e.later d
 rw[cj];exact jx f j (λ_ _ h=>h.later d) b m
def cM{n d:Nat}{sl:List (Nat×Tree)}{bs:List (TypeId×List Tree)}{rs:List (Option Row)}{t:Tree}(b:o.guard=none)(a:o.dst=some d)(c:Nat.blt d n=true)(h:OpOK o ⟨n,sl,bs,rs⟩ t)(k:BOps ops rest Q w1 G1 ⟨n,(d,t)::sl,bs,rs⟩):BOps ops (o::rest) Q w1 G1 ⟨n,sl,bs,rs⟩:=by
 refine MP b ?_ h ?_
 ·rw[a];simpa[cF,R5]using c
 rw[a];exact k
def gD(g:o.guard=none)(h:∀a w,Sim w1 (pln G1) S a w->OpRuns prog o (λs=>a.tmps.getD s undef) w (λv w'=>∃c G2 b,Sim c (pln G2) b (a.put o.dst v) w'/\BOps ops rest Q c G2 b)):BOps ops (o::rest) Q w1 G1 S:=by
 intro a w i;refine fj (by simp[Region.wanted,g]) λK f=>?_
 refine Oper.wp_mono ?_ ((h a w i).wp (Q:=FW Q));rintro j w' ⟨v,rfl,c,G2,b,d,e⟩;exact f _ _ (e _ _ d)
end
def ot{w:World}{G:Nat->Prop}:(en w (pln G) [] [] []).W=w/\∀b,(en w (pln G) [] [] []).G b↔G b:=⟨Z,λb=>by simp[en,GG,cJ,pln]⟩
def PT.sub{w:World}{G G':Nat->Prop}{us:List Value}{ts:List Tree}(h:PT w G us ts)(a:∀b,¬G b->¬G' b):PT w G' us ts:=h.mono (Q3 _) λb _ c=>⟨Z,a b c⟩
def FT.gg{w:World}{G:Nat->Prop}{v:Value}{t:Tree}(h:PT w G [v] [t]):FT (en w (pln G) [] [] []) [v] [t]:=.of (h.sub λb c a=>c ((ot.2 b).1 a))
def PT.gg{w:World}{G:Nat->Prop}{us:List Value}{ts:List Tree}(h:PT w (GG (pln G) [] [] []) us ts):PT w G us ts:=h.sub λb c a=>c (((ot (w:=w)).2 b).2 a)
def L1(G:Nat->Prop)(w:World):Prop:=∀g,G g->g<w.heap.size/\NoDigB w g
def yj{w:World}{G:Nat->Prop}(a:Env w)(b:L1 G w):Mem w (pln G) [] [] [] [] w:=
 oP a b
section
variable {w1 w w':World} {G1 G2:Nat->Prop} {n:Nat} {sl:List (Nat×Tree)} {a:Act}
def Sim.facts(h:Sim w1 (pln G1) ⟨n,sl,[],[]⟩ a w):Env w/\L1 G1 w/\Below w1.heap.size w1 w/\a.tmps.size=n/\a.defers=[]/\∀i,FT (en w (pln G1) [] [] []) [a.tmps.getD i undef] [look sl i]:=by
 obtain⟨bx,rv,b,f,c,d⟩:=h;obtain rfl:bx=[]:=Rj b.nb;obtain rfl:rv=[]:=Rj b.nr;exact⟨b.env,λg e=>b.ok g (.inl e),b.below.below,f,c,d⟩
def Sim.slot(h:Sim w1 (pln G1) ⟨n,sl,[],[]⟩ a w){i:Nat}{t:Tree}(d:look sl i=t)(c:t.plain=true):PT w G1 [a.tmps.getD i undef] [t]:=by
 have b:=h.facts.2.2.2.2.2 i;rw[d]at b;exact(b.plain c).gg
def Sim.lit(h:Sim w1 (pln G1) ⟨n,sl,[],[]⟩ a w){i:Nat}{v:Value}(c:look sl i=.sc v):a.tmps.getD i undef=v:=by
 have b:=h.facts.2.2.2.2.2 i;rw[c]at b;exact b.isSc
def Sim.mk(b:Env w)(c:L1 G2 w)(e:a.tmps.size=n)(d:a.defers=[])(f:∀i,FT (en w (pln G2) [] [] []) [a.tmps.getD i undef] [look sl i]):Sim w (pln G2) ⟨n,sl,[],[]⟩ a w:=⟨[],[],yj b c,e,d,f⟩
def Sim.turn(h:Sim w1 (pln G1) ⟨n,sl,[],[]⟩ a w)(g:Env w')(c:L1 G2 w')(d:w.heap.size<=w'.heap.size)(l:∀b,b<w.heap.size->¬G1 b->w'.heap[b]? =w.heap[b]? /\¬G2 b):Sim w' (pln G2) ⟨n,sl,[],[]⟩ a w':=by
 obtain⟨_,_,_,m,k,o⟩:=h.facts;refine Sim.mk g c m k λi=>(o i).mono d (λb j c=>?_) (λ_ _ h=>h) (λ_ _ h=>h)
 obtain⟨e,f⟩:=l b j λh=>c ((ot.2 b).2 h)
 exact⟨e,λh=>f ((ot.2 b).1 h)⟩
def SlotL(E:En)(T:Nat->Value):List (Nat×Tree)->Prop
 |[]=>True
 |(i,t)::l=>FT E [T i] [t]/\SlotL E T l
def SlotL.look{E:En}{T:Nat->Value}:∀{l:List (Nat×Tree)},SlotL E T l->∀i,FT E [T i] [Go.Proofs.YtfoejfohbkmmeaaGreatDoor.look l i]
 |[],_,i=>.any _ .nil
 |(j,t)::l,h,i=>by
  rw[dX];split
  ·next e=>subst e;exact h.1
  exact SlotL.look h.2 i
def UnbL(S:St)(cs:List Tree):List (Nat×Tree)->Prop
 |[]=>True
 |(i,t)::l=>((S.get i=t/\within 0 0 t=true)\/∃off,S.get i=.box 0 off/\t=.ref (cs.drop off))/\UnbL S cs l
def vv{S:St}{cs:List Tree}{E E':En}{T:Nat->Value}(a:∀i,FT E [T i] [S.get i])(b:∀v t,FT E [v] [t]->within 0 0 t=true->FT E' [v] [t])(c:∀v off,FT E [v] [.box 0 off]->FT E' [v] [.ref (cs.drop off)]):∀{l:List (Nat×Tree)},UnbL S cs l->∀i,FT E' [T i] [look l i]
 |[],_,i=>.any _ .nil
 |(j,t)::l,h,i=>by
  rw[dX];split
  ·next e=>
   subst e;rcases h.1 with⟨e,d⟩|⟨off,e,rfl⟩
   ·exact b _ _ (e▸a j) d
   exact c _ off (e▸a j)
  exact vv a b c h.2 i
def Sim.unbox{S:St}{ty:TypeId}{cs:List Tree}{l:List (Nat×Tree)}(h:Sim w1 (pln G1) S a w)(o:S.bs=[(ty,cs)])(K:S.rs=[])(J:cs.all Tree.plain0=true)(H:UnbL S cs l):Sim w (pln G1) ⟨S.n,l,[],[]⟩ a w/\Below w1.heap.size w1 w/\Env w1/\L1 G1 w1/\Env w:=by
 obtain⟨bx,rv,c,I,q,y⟩:=h;have s:L1 G1 w:=λg i=>c.ok g (.inl i)
 refine⟨⟨[],[],yj c.env s,I,q,?_⟩,c.below.below,c.env0.env0,λg i=>⟨(c.g0 g i).1,(c.g0 g i).2.1⟩,c.env⟩;have f:∀b,b<w.heap.size->¬GG (pln G1) bx rv S.rs b->w.heap[b]? =w.heap[b]? /\¬GG (pln G1) [] [] [] b:=λb _ d=>⟨Z,λh=>d (.inl (((ot (w:=w)).2 b).1 h))⟩
 refine vv (E':=en w (pln G1) [] [] []) y (λv t z L=>FT.within (E:=en w (pln G1) bx rv S.rs) (E':=en w (pln G1) [] [] []) (m:=0) (k:=0) (Q3 _) f (λb g d=>absurd d (T5 b)) (λj v G=>absurd G (T5 j)) z L) (λv off z=>?_) H;obtain⟨g,us,p,rfl,e,F,_⟩:=n5 c (by rw[o];rfl) z;have r:g∈cJ bx rv S.rs:=be.2 (.inl (Q8 p));have x:PT w G1 us cs:=(F.plain0s J).sub λb d B=>d (.inl B)
 refine FT.gg (.ref g off (us.drop off) _ e.lt (λD=>?_) (λj u C=>?_) (x.drop off) .nil)
 ·have B:=(c.g0 g D).1;rcases c.ge g r with A|A
  ·omega
  exact A
 rw[e.cell];rw[Si]at C;simpa using C
def Sim.back{w0:World}{G0:Nat->Prop}{l:List (Nat×Tree)}(h:Sim w1 (pln G1) ⟨n,sl,[],[]⟩ a w)(p:Env w0)(m:L1 G0 w0)(d:Below w0.heap.size w0 w)(q:SlotL (en w (pln G0) [] [] []) (λi=>a.tmps.getD i undef) l):Sim w0 (pln G0) ⟨n,l,[],[]⟩ a w:=by
 obtain⟨_,_,_,r,e,_⟩:=h.facts;exact⟨[],[],⟨.of d,.pln p,λg o=>⟨(m g o).1,(m g o).2,id⟩,Z,Z,λi g f=>by simp at f,λk v R c=>by simp at c,⟨List.nodup_nil,λk v R b c=>by simp at c,λj k u v X R b _ c=>by simp at c⟩,λb d=>by simp[cJ]at d,λi f=>absurd f (T5 i)⟩,r,e,λi=>q.look i⟩
def g5(h:Sim w' (pln G2) ⟨n,sl,[],[]⟩ a w'){d:Nat}{v:Value}{t:Tree}(g:d<n)(k:FT (en w' (pln G2) [] [] []) [v] [t]):Sim w' (pln G2) ⟨n,(d,t)::sl,[],[]⟩ (a.put (some d) v) w':=by
 obtain⟨e,f,_,c,b,j⟩:=h.facts;refine Sim.mk e f (by rw[ee];exact c) (by rw[df];exact b) λi=>?_
 rw[gA a (some d) v n c (by simpa[cF]using g)];simp only[Ro,dX];split
 ·exact k
 exact j i
end
def BJ{S:St}{o:Oper}{x:Operand}{t e:TypeId}{m n c:Nat}{A:Option Addr}(a:o.op=.call {callee:=.builtin .len,args:=#[x],argTypes:=#[t]})(f:gQ prog t=some (e,m))(h:S.ev x=.sc (.slice A n c)):OpOK o S (iT (n:Nat)):=by
 intro w0 G0 bx rv w T i d;have b:=(bP d h (by rw[a];simp[Op.operands,Call.operands])).isSc;obtain⟨g,_⟩:=lj f;refine aE (v:=.int .i64 (n:Nat)) (W':=w) ?_ ⟨.pure (.sc _ .nil) .nil,Below.refl _ _⟩;simp[execOp,a,resolve,invoke,builtin,Builtin.len_,b,run_underlying g,goInt]
def mr{S:St}{o:Oper}{x g:Operand}{t e:TypeId}{m n c b off j r:Nat}{k:IntKind}{i:Int}(a:o.op=.indexAddr t x g)(u:gQ prog t=some (e,m))(y:S.ev x=.sc (.slice (some ⟨b,off,none⟩) n c))(p:S.ev g=.sc (.int k i))(q:i=(j:Nat))(s:j<n)(d:off+j*m=r):OpOK o S (.sc (.pointer (some ⟨b,r,none⟩))):=by
 subst d q;intro w0 G0 bx rv w T z f;have h:=(bP f y (by rw[a];simp[Op.operands])).isSc;have l:=(bP f p (by rw[a];simp[Op.operands])).isSc;have d:=mQ (P:=prog) (w:=w) (b:=b) (o:=off) (n:=n) (c:=c) (k:=k) (i:=((j:Nat):Int)) u O O;refine aE (v:=.pointer (some ⟨b,off+j*m,none⟩)) (W':=w) ?_ ⟨.pure (.sc _ .nil) .nil,Below.refl _ _⟩;simp[execOp,a,h,l,d]
def FX{w0:World}{G0:Nat->Prop}{Q:Exit->St->Prop}{S:St}{c:Code}(h:BWP c (λe w1 G1 S=>w1=w0/\G1=G0/\Q e S) w0 G0 S):AWP w0 (pln G0) c Q S:=λa w i=>wp_mono (h a w i) λ_ _ _ ⟨_,_,S',⟨b,d,f⟩,g⟩=>⟨S',f,b▸d▸g⟩
def vw{w:World}{t e:TypeId}{z v:Value}(n:gQ prog t=some (e,1))(f:ij prog e=some [z])(p:v.oneCell'=true):(Instr.buildSlice t 1 #[(0,v)]).run prog w=.ok (.slice (some ⟨w.heap.size,0,none⟩) 1 1) (w.alloc (.cells #[v] e)):=by
 obtain⟨o,i,b,m⟩:=lj n;unfold ij at f;simp only[b,Sp,R9]at f;obtain⟨a,g,k⟩:=f;have j:a.cells=#[z]:=by apply TR;simpa using k
 have d:v.cells=#[v]:=sg p;have h:(zeroValue e).run prog w=.ok a w:=by simp[zeroValue,typeInfo,b,g]
 have c:(sizeOf e).run prog w=.ok 1 w:=by simp[sizeOf,typeInfo,b,m]
 have l:Instr.fill (λx=>some (x*1,1)) ((Array.range (1*1)).map λx=>a.cells[x%a.cells.size]!) [(0,v)]=some #[v]:=by
  rw[j];simp only[Instr.fill,d];rw[if_neg F,show Array.range (1*1)=#[0] by decide];simp
 simp only[Instr.buildSlice,Sem.run_bind,run_underlying o,Result.andThen_ok,c,gt_iff_lt];rw[if_neg I,if_neg I];simp only[Sem.run_bind,h,Result.andThen_ok,Sem.run_pure,l,newRow,newObj];rfl
def lH{w:World}{o:Oper}{T:Nat->Value}{t e:TypeId}{s:Nat}{z:Value}(b:o.op=.buildSlice t 1 #[(0,.tmp s)])(c:gQ prog t=some (e,1))(d:ij prog e=some [z])(a:(T s).oneCell'=true):(execOp (dG T) o).run prog w=.ok (.value (.slice (some ⟨w.heap.size,0,none⟩) 1 1)) (w.alloc (.cells #[T s] e)):=by
 have:=vw (w:=w) c d a;simp[execOp,b,dG,this]
def D6{w:World}{o:Oper}{T:Nat->Value}{f:FuncId}{a:Func}{c:Array TypeId}{p q s:Nat}(j:o.op=.call {callee:=.value (.func f),args:=#[.tmp p,.tmp q,.tmp s],argTypes:=c})(i:prog.funcs[f]? =some a)(d:(a.name== "runtime.NumGoroutine")=false)(b:a.body.isNone=false):(execOp (dG T) o).run prog w=.ok (.enter f #[T p,T q,T s]) w:=by
 have g:¬a.name= "runtime.NumGoroutine" :=by simpa using d
 have h:¬a.body=none:=λe=>by rw[e]at b;cases b
 simp[execOp,j,resolve,dG,Deferred.ofValue,invoke,callFunc,i,g,h]
def vz{w:World}{o:Oper}{T:Nat->Value}{t:TypeId}{s b off:Nat}{u:Value}(c:o.op=.load t (.tmp s))(d:T s=.pointer (some ⟨b,off,none⟩))(e:jP prog t=true)(a:w.cell? ⟨b,off,none⟩=some u):(execOp (dG T) o).run prog w=.ok (.value u) w:=by
 have:=j9 (P:=prog) e a;simp[execOp,c,dG,d,this]
section
variable {w1:World} {G1:Nat->Prop} {Q:Exit->World->(Nat->Prop)->St->Prop} {ops:Array Oper} {rest:List Oper} {o:Oper} {n d:Nat} {sl:List (Nat×Tree)}
def g6{t e:TypeId}{s:Nat}{z:Value}(x:o.op=.buildSlice t 1 #[(0,.tmp s)])(r:o.guard=none)(q:o.dst=some d)(u:Nat.blt d n=true)(y:gQ prog t=some (e,1))(A:ij prog e=some [z])(m:∀a w,Sim w1 (pln G1) ⟨n,sl,[],[]⟩ a w->(a.tmps.getD s undef).oneCell'=true)
  (k:∀a w,Sim w1 (pln G1) ⟨n,sl,[],[]⟩ a w->BOps ops rest Q (w.alloc (.cells #[a.tmps.getD s undef] e)) G1 ⟨n,(d,.sc (.slice (some ⟨w.heap.size,0,none⟩) 1 1))::sl,[],[]⟩):BOps ops (o::rest) Q w1 G1 ⟨n,sl,[],[]⟩:=by
 refine gD r λa w f=>?_
 obtain⟨p,i,_⟩:=f.facts;have c:Below w.heap.size w (w.alloc (.cells #[a.tmps.getD s undef] e)):=(Below.refl _ _).alloc (Q3 _) _;refine aE (v:=.slice (some ⟨w.heap.size,0,none⟩) 1 1) (W':=w.alloc (.cells #[a.tmps.getD s undef] e)) ?_ ⟨_,_,_,?_,k a w f⟩
 ·exact lH (T:=λs=>a.tmps.getD s undef) x y A (m a w f)
 rw[q];exact g5 (f.turn (p.below c (Q3 _)) (λg h=>⟨Rh (i g h).1 c.size,(i g h).2.of (c.block g (i g h).1)⟩) c.size λb l j=>⟨c.block b l,j⟩) (by simpa[R5]using u) (.pure (.sc _ .nil) .nil)
def nn{t e:TypeId}{s:Nat}{z:Value}(x:o.op=.buildSlice t 1 #[(0,.tmp s)])(r:o.guard=none)(q:o.dst=some d)(u:Nat.blt d n=true)(y:gQ prog t=some (e,1))(A:ij prog e=some [z])(m:∀a w,Sim w1 (pln G1) ⟨n,sl,[],[]⟩ a w->(a.tmps.getD s undef).oneCell'=true/\bR (a.tmps.getD s undef)=true)
  (k:∀a w,Sim w1 (pln G1) ⟨n,sl,[],[]⟩ a w->BOps ops rest Q (w.alloc (.cells #[a.tmps.getD s undef] e)) (λb=>G1 b\/b=w.heap.size) ⟨n,(d,.sc (.slice (some ⟨w.heap.size,0,none⟩) 1 1))::sl,[],[]⟩):BOps ops (o::rest) Q w1 G1 ⟨n,sl,[],[]⟩:=by
 refine gD r λa w f=>?_
 obtain⟨p,i,_⟩:=f.facts;have c:Below w.heap.size w (w.alloc (.cells #[a.tmps.getD s undef] e)):=(Below.refl _ _).alloc (Q3 _) _;refine aE (v:=.slice (some ⟨w.heap.size,0,none⟩) 1 1) (W':=w.alloc (.cells #[a.tmps.getD s undef] e)) ?_ ⟨_,_,_,?_,k a w f⟩
 ·exact lH (T:=λs=>a.tmps.getD s undef) x y A (m a w f).1
 rw[q];refine g5 (f.turn (p.below c (Q3 _)) (λg h=>?_) c.size λb l j=>⟨c.block b l,λh=>h.elim j O⟩) (by simpa[R5]using u) (.pure (.sc _ .nil) .nil);rcases h with h|rfl
 ·exact⟨Rh (i g h).1 c.size,(i g h).2.of (c.block g (i g h).1)⟩
 exact⟨F,cU (heap_alloc_new _ _) (by simpa using(m a w f).2)⟩
def np{f:FuncId}{c:Func}{b:Array TypeId}{p q s:Nat}(t:o.op=.call {callee:=.value (.func f),args:=#[.tmp p,.tmp q,.tmp s],argTypes:=b})(r:o.guard=none)(l:o.dst=some d)(m:prog.funcs[f]? =some c)(i:(c.name== "runtime.NumGoroutine")=false)(g:c.body.isNone=false)
  (h:∀a w,Sim w1 (pln G1) ⟨n,sl,[],[]⟩ a w->Calls prog f #[a.tmps.getD p undef,a.tmps.getD q undef,a.tmps.getD s undef] w λe w'=>∃v,e=.returned v/\∃k G2 j,Sim k (pln G2) j (a.put (some d) v) w'/\BOps ops rest Q k G2 j):BOps ops (o::rest) Q w1 G1 ⟨n,sl,[],[]⟩:=by
 refine gD r λa w u=>?_
 rw[l];exact cW (f:=f) (args:=#[a.tmps.getD p undef,a.tmps.getD q undef,a.tmps.getD s undef]) (D6 (T:=λs=>a.tmps.getD s undef) t m i g) (h a w u)
def Sim.put1{a:Act}{w:World}{v:Value}{t:Tree}(h:Sim w1 (pln G1) ⟨n,sl,[],[]⟩ a w)(g:d<n)(j:FT (en w (pln G1) [] [] []) [v] [t]):Sim w1 (pln G1) ⟨n,(d,t)::sl,[],[]⟩ (a.put (some d) v) w:=by
 obtain⟨bx,rv,c,f,b,e⟩:=h;obtain rfl:bx=[]:=Rj c.nb;obtain rfl:rv=[]:=Rj c.nr;refine⟨[],[],c,by rw[ee];exact f,by rw[df];exact b,λi=>?_⟩;rw[gA a (some d) v n f (by simpa[cF]using g)];show FT _ _ [look ((d,t)::sl) i]
 simp only[Ro,dX];split
 ·exact j
 exact e i
def vA{t:TypeId}{s b off:Nat}{u:Value}(m:o.op=.load t (.tmp s))(j:o.guard=none)(i:o.dst=some d)(l:Nat.blt d n=true)(p:look sl s=.sc (.pointer (some ⟨b,off,none⟩)))(q:jP prog t=true)(g:b<w1.heap.size)(h:w1.cell? ⟨b,off,none⟩=some u)(k:BOps ops rest Q w1 G1 ⟨n,(d,.sc u)::sl,[],[]⟩):BOps ops (o::rest) Q w1 G1 ⟨n,sl,[],[]⟩:=by
 refine gD j λa w c=>?_
 obtain⟨_,_,e,_⟩:=c.facts;have r:=c.lit p;have f:w.cell? ⟨b,off,none⟩=some u:=by rw[<-h];exact World.cell?_of_block (e.block b g)
 refine aE (v:=u) (W':=w) ?_ ⟨_,_,_,?_,k⟩
 ·exact vz (T:=λs=>a.tmps.getD s undef) m r q f
 rw[i];exact c.put1 (by simpa[R5]using l) (.pure (.sc _ .nil) .nil)
def Sim.later{a:Act}{w w':World}(h:Sim w1 (pln G1) ⟨n,sl,[],[]⟩ a w)(d:Below w.heap.size w w'):Sim w1 (pln G1) ⟨n,sl,[],[]⟩ a w':=by
 obtain⟨bx,rv,e,f,b,c⟩:=h;exact⟨bx,rv,e.later d,f,b,λi=>(c i).later d⟩
def D7{w:World}{o:Oper}{T:Nat->Value}{f g:FuncId}{a:Func}{c:Array TypeId}{p q:Nat}(k:o.op=.call {callee:=.value (.func f),args:=#[.tmp p,.tmp q,.func g],argTypes:=c})(j:prog.funcs[f]? =some a)(d:(a.name== "runtime.NumGoroutine")=false)(b:a.body.isNone=false):(execOp (dG T) o).run prog w=.ok (.enter f #[T p,T q,MO g]) w:=by
 have h:¬a.name= "runtime.NumGoroutine" :=by simpa using d
 have i:¬a.body=none:=λe=>by rw[e]at b;cases b
 simp[execOp,k,resolve,dG,MO,Deferred.ofValue,invoke,callFunc,j,h,i]
def D8{f g:FuncId}{c:Func}{b:Array TypeId}{p q:Nat}{t:Tree}(A:o.op=.call {callee:=.value (.func f),args:=#[.tmp p,.tmp q,.func g],argTypes:=b})(y:o.guard=none)(r:o.dst=some d)(z:Nat.blt d n=true)(x:prog.funcs[f]? =some c)(j:(c.name== "runtime.NumGoroutine")=false)(i:c.body.isNone=false)
  (h:∀a w,Sim w1 (pln G1) ⟨n,sl,[],[]⟩ a w->Calls prog f #[a.tmps.getD p undef,a.tmps.getD q undef,MO g] w λe w'=>∃v,e=.returned v/\PT w' G1 [v] [t]/\Below w.heap.size w w') (k:BOps ops rest Q w1 G1 ⟨n,(d,t)::sl,[],[]⟩):BOps ops (o::rest) Q w1 G1 ⟨n,sl,[],[]⟩:=by
 refine gD y λa w l=>?_
 rw[r];refine cW (f:=f) (args:=#[a.tmps.getD p undef,a.tmps.getD q undef,MO g]) (D7 (T:=λs=>a.tmps.getD s undef) A x j i) ((h a w l).mono ?_);rintro e w' ⟨v,u,B,m⟩;exact⟨v,u,w1,G1,_,(l.later m).put1 (by simpa[R5]using z) (FT.gg B),k⟩
def ms{w w':World}{o:Oper}{T:Nat->Value}{t:TypeId}{p q:Nat}{v x y:Value}(a:o.op=.call {callee:=.builtin .append,args:=#[.tmp p,.tmp q],argTypes:=#[t,t]})(c:T p=x)(d:T q=y)(b:(Builtin.append_ #[t,t] o.type #[x,y]).run prog w=.ok v w'):(execOp (dG T) o).run prog w=.ok (.value v) w':=by
 simp[execOp,a,resolve,dG,invoke,builtin,c,d,b]
def ti{w:World}{o:Oper}{T:Nat->Value}{ty:TypeId}{p q b off:Nat}{v y:Value}(l:o.op=.store ty (.tmp p) (.tmp q))(m:T p=.pointer (some ⟨b,off,none⟩))(n:T q=v)(g:(prog.info? ty).map (·.size)=some 1)(f:v.oneCell'=true)(h:w.cell? ⟨b,off,none⟩=some y)(k:w.frozen? ⟨b,off,none⟩=false):(execOp (dG T) o).run prog w=.ok .skip (w.setCell ⟨b,off,none⟩ v):=by
 have c:=run_storeCells_cells (P:=prog) b off [v] 0 w (λj d=>by
  have:j=0:=by simpa using d
  subst this;show(w.cell? ⟨b,off,none⟩).isSome=true
  rw[h];rfl) (λj d=>by
  have:j=0:=by simpa using d
  subst this;exact k) (λx s=>by rw[Rs.1 s];exact f)
 have e:v.cells=#[v]:=sg f;cases a:prog.info? ty with
 |none=>simp[a]at g
 |some i=>
  have r:i.size=1:=by simpa[a]using g
  simp[execOp,l,dG,m,n,Instr.storeAt,Instr.sureAddr,storeVar,sizeOf,typeInfo,a,r,e]at c⊢;simp[c,World.setCells]
end
def BK{l:List Nat}{d:Nat}(h:Digs l)(c:d<4294967296):Digs (l++[d]):=λe b=>by
 rcases RI.1 b with a|a
 ·exact h e a
 simp at a;omega
def yk(l:List Nat)(k:Nat)(h:l.length<=k):aG (l.take (k+1))=aG (l.take k)+4294967296^k*0:=by
 rw[Rf (i:=k+1) O,Rf (i:=k) O];simp
def NAddInv(w:World)(dx dy:List Nat)(v c i:Value)(wr:World):Prop:=
 ∃(k cy:Nat) (o:List Nat),(k<=dx.length\/k<=dy.length)/\i=.int .i64 k/\c=.int .u64 cy/\cy<=1/\o.length=k/\Digs o/\OwnN wr w.heap.size v o/\aG o+4294967296^k*cy=aG (dx.take k)+aG (dy.take k)/\Below w.heap.size w wr
def nq{w wr:World}{b d o:List Nat}{k a x y s:Nat}{v:Value}{c i:Int}(u:k<b.length\/k<d.length)(e:o.length=k)(g:Digs o)(m:s=a+x+y)(n:s<8589934592)(f:OwnN wr w.heap.size v (o++[s%4294967296]))(t:aG o+4294967296^k*a=aG (b.take k)+aG (d.take k))
  (p:aG (b.take (k+1))=aG (b.take k)+4294967296^k*x) (q:aG (d.take (k+1))=aG (d.take k)+4294967296^k*y) (h:Below w.heap.size w wr) (j:c=((s/4294967296:Nat):Int)) (l:i=((k+1:Nat):Int)):NAddInv w b d v (.int .u64 c) (.int .i64 i) wr:=by
 subst j l m;refine⟨k+1,(a+x+y)/4294967296,o++[(a+x+y)%4294967296],O,Z,Z,O,by simp[e],BK g O,f,?_,h⟩;rw[ez _ _ k e,p,q,RA];generalize 4294967296^k=P at*;have r:P*((a+x+y)%4294967296)+P*(4294967296*((a+x+y)/4294967296))=P*a+P*x+P*y:=by
  rw[<-RF,<-RF,<-RF];congr 1;omega
 rw[Ry];omega
def D9(A B:Option Addr)(ca cb:Nat)(j g:List Nat)(w:World)(h:IsN w A ca j)(h':IsN w B cb g)(hl:j.length<=1073741822)(a9:g.length<=1073741822):
  Calls prog 214 #[.slice A j.length ca,.slice B g.length cb] w (NatPost (aG j+aG g) w):=by
 have HI:=J h;have HJ:=J h';clear h h'
 go_enter func214,ntmps214
 go_wp2
 go_loopw [5,6,7] (λv cb i wr=>NAddInv w j g v cb i wr) (λ_ _ i _=>j.length+g.length-(intOf i).toNat)
 case atStart=>exact⟨0,0,[],.inl (Rg _),Z,Z,O,Z,λd hd=>by simp at hd,OwnN.nil _ _,by simp[aG],Below.refl _ _⟩
 case round=>
  obtain⟨k,q,o,hk,rfl,rfl,m,W,V,G,T,I⟩:=hrel;have HO:=J G;have HQ:=J T;have F:=J I;have D:=J W;have C:=J V;have z:=I.size;have a5:o.length<=1073741822:=O
  clear G T I W V;by_cases H:k<j.length
  ·by_cases E:k<g.length
   ·obtain⟨qx,ox,rfl,M,u⟩:=HI.out.digit H;obtain⟨x,c⟩:∃x,j[k]=x:=⟨_,Z⟩;have r:=(F.out.cell (p:=⟨qx,ox+k,none⟩) M).trans (u k H);rw[c]at r;have Y:x<4294967296:=by rw[<-c];exact HI.out.ok _ (R6 H)
    have Q:=J (show aG (j.take (k+1))=aG (j.take k)+4294967296^k*x by rw[dO j k H,c]);clear u c;obtain⟨qy,oy,rfl,N,m⟩:=HJ.out.digit E;obtain⟨y,f⟩:∃y,g[k]=y:=⟨_,Z⟩;have t:=(F.out.cell (p:=⟨qy,oy+k,none⟩) N).trans (m k E);rw[f]at t;have a0:y<4294967296:=by rw[<-f];exact HJ.out.ok _ (R6 E)
    have R:=J (show aG (g.take (k+1))=aG (g.take k)+4294967296^k*y by rw[dO g k E,f]);clear m f
    go_wp2_with (at_builtin;refine gH w.heap.size _ o _ ((q+x+y)%4294967296) (.tmp 42) (.tmp 45) Z Z Z Z HO.out O O z ?_;intro v2 w2 a b;have n:=J a;have l:=J b;clear a b)
    go_roundw
    case rel=>exact nq (s:=q+x+y) (x:=x) (y:=y) O D.out C.out O O n.out HQ.out Q.out R.out (F.out.trans l.out.below) O O
    case measure=>simp[intOf];omega
   obtain⟨qx,ox,rfl,M,u⟩:=HI.out.digit H;obtain⟨x,c⟩:∃x,j[k]=x:=⟨_,Z⟩;have r:=(F.out.cell (p:=⟨qx,ox+k,none⟩) M).trans (u k H);rw[c]at r;have Y:x<4294967296:=by rw[<-c];exact HI.out.ok _ (R6 H)
   have Q:=J (show aG (j.take (k+1))=aG (j.take k)+4294967296^k*x by rw[dO j k H,c]);clear u c;have R:=J (yk g k O)
   go_wp2_with (at_builtin;refine gH w.heap.size _ o _ ((q+x)%4294967296) (.tmp 42) (.tmp 45) Z Z Z Z HO.out O O z ?_;intro v2 w2 a b;have n:=J a;have l:=J b;clear a b)
   go_roundw
   case rel=>exact nq (s:=q+x) (x:=x) (y:=0) O D.out C.out O O n.out HQ.out Q.out R.out (F.out.trans l.out.below) O O
   case measure=>simp[intOf];omega
  by_cases E:k<g.length
  ·have Q:=J (yk j k O);obtain⟨qy,oy,rfl,N,m⟩:=HJ.out.digit E;obtain⟨y,f⟩:∃y,g[k]=y:=⟨_,Z⟩;have t:=(F.out.cell (p:=⟨qy,oy+k,none⟩) N).trans (m k E);rw[f]at t;have a0:y<4294967296:=by rw[<-f];exact HJ.out.ok _ (R6 E)
   have R:=J (show aG (g.take (k+1))=aG (g.take k)+4294967296^k*y by rw[dO g k E,f]);clear m f
   go_wp2_with (at_builtin;refine gH w.heap.size _ o _ ((q+y)%4294967296) (.tmp 42) (.tmp 45) Z Z Z Z HO.out O O z ?_;intro v2 w2 a b;have n:=J a;have l:=J b;clear a b)
   go_roundw
   case rel=>exact nq (s:=q+y) (x:=0) (y:=y) O D.out C.out O O n.out HQ.out Q.out R.out (F.out.trans l.out.below) O O
   case measure=>simp[intOf];omega
  have hv:aG (o++[q])=aG j+aG g:=by
   have:=HQ.out;rw[Rf O,Rf O]at this;rw[ez o q _ D.out];omega
  have HV:=J hv;have P:Hid (Digs (o++[q])):=BK C.out O;obtain⟨L,hL⟩:∃L,o++[q]=L:=⟨_,Z⟩;have a4:L.length<=1073741823:=by rw[<-hL];simp;omega
  have HL:=J hL;rw[hL]at HV P;clear hv hL
  go_wp2_with (at_builtin;refine gH w.heap.size _ o _ q (.tmp 49) (.tmp 52) Z Z Z Z HO.out O O z ?_;intro v2 w2 a b;rw[HL.out]at a;have l:=J b;obtain⟨A2,c2,e2,U⟩:=a.is P.out;subst e2;have a2:=J U;have X:w.heap.size<=w2.heap.size:=Q7 z b.size;clear a b U)
  refine(dZ A2 c2 L _ a2.out a4).mono ?_;rintro e w3 ⟨v3,rfl,K,S⟩;rw[HV.out]at K;have a3:=J (K.base_le X);have a1:=J ((F.out.trans l.out.below).trans (S.mono X));clear K S
  go_wp2
  go_ret
  exact⟨v3,Z,a3.out,a1.out⟩
def Ea(A B:Option Addr)(ca cb:Nat)(f a:List Nat)(w:World)(h:IsN w A ca f)(h':IsN w B cb a)(hl:f.length<=1048576)(e4:a.length<=1048576):
  Calls prog 158 #[.slice A f.length ca,.slice B a.length cb] w (NatPost (aG f*aG a) w):=by
 have R:=J h;have S:=J h';clear h h';obtain⟨W,v,b2,Y,e1⟩:=fF w (f.length+a.length) O;have v:=v .i64 .i64;have d2:=J b2;have c9:=J Y;have c4:w.heap.size<W.heap.size:=O
 clear b2 Y e1;rw[show((f.length+a.length:Nat):Int)=(f.length:Int)+(a.length:Int) by omega]at v
 go_enter func158,ntmps158
 go_wp2
 clear v
 go_loopw [6] (λi wr=>MulInv w (f.length+a.length) f a i wr) (λi _=>f.length-(intOf i).toNat)
 case atStart=>exact⟨0,List.replicate a.length 0,Rg _,Z,F,kM _,by rw[TW,UH,show a.length+f.length=f.length+a.length by omega];exact d2.out,by simp[lP,aG],c9.out,c4⟩
 case round=>
  obtain⟨k,b,hk,rfl,b5,b3,q,c1,a1,N⟩:=hrel;have V:=J q;have U:=J c1;have C:=J a1;have l:=J b5;have K:=J b3;clear q c1 a1 b5 b3;by_cases o:k<f.length
  ·obtain⟨bx,ox,rfl,a2,a3⟩:=R.out.digit o;have cx:=a3 k o;have H:=R.out.lt o;obtain⟨x,hx⟩:∃x,f[k]=x:=⟨_,Z⟩;rw[hx]at cx H;have HX:=J hx;have CX:=J cx;have d0:=J a2;clear a3 hx cx a2
   go_wp2
   go_loopw [7,8] (λcr j wi=>MuliInv w (f.length+a.length) k x b f a cr j wi) (λ_ j _=>a.length-(intOf j).toNat)
   case atStart=>
    refine⟨0,0,b.take k,Rg _,Z,Z,O,?_,λd hd=>K.out d (RG hd),?_,by simp[aG],C.out,N⟩
    ·rw[Rb,l.out];omega
    rw[SB,<-RL,R3];exact V.out
   case round=>
    rename World=>wi
    obtain⟨m,c,lo,hm,rfl,rfl,hc,b0,a9,b4,a5,a0,c2⟩:=hrel;have g:=J b4;have Q:=J a5;have r:=J a0;have s:=J b0;have T:=J a9;clear b4 a5 a0 b0 a9;by_cases u:m<a.length
    ·obtain⟨e2,oy,rfl,e3,a4⟩:=(S.out.below r.out).digit u;have cy:=a4 m u;have cx:=(r.out.cell (p:=⟨bx,ox+k,none⟩) d0.out).trans CX.out;have I:=S.out.lt u;obtain⟨y,hy⟩:∃y,a[m]=y:=⟨_,Z⟩;rw[hy]at cy I;have HY:=J hy;have M:k+m<b.length:=by have:=l.out;omega
     obtain⟨h1,h2⟩:=FH (tl:=List.replicate (f.length-k) 0) s.out M;have t:=g.out.cell h1;rw[h2]at t;have e0:=g.out.free (k+m);have D:b[k+m]<4294967296:=K.out _ (R6 M);obtain⟨d,hd⟩:∃d,b[k+m]=d:=⟨_,Z⟩;rw[hd]at t D;have HD:=J (show∃h:k+m<b.length,b[k+m]=d from⟨M,hd⟩);obtain⟨d3,d4⟩:=zZ H I D hc;obtain⟨P,z⟩:∃P,x*y=P:=⟨_,Z⟩;have c3:(x:Int)*(y:Int)=(P:Int):=by rw[<-z];simp
     rw[z]at d3 d4;have L:=J z;clear a4 hy h1 h2 hd z;have q1:IntKind.i64.wrap ((k:Int)+(m:Int))=(k:Int)+(m:Int):=by rw[RZ];omega
     have q2:(0:Int)<=(k:Int)+(m:Int):=O
     have q3:((k:Int)+(m:Int)).toNat=k+m:=O
     have q4:(k:Int)+(m:Int)<((f.length+a.length:Nat):Int):=O
     have q5:IntKind.u64.wrap (d:Int)=(d:Int):=by rw[IntKind.wrap_u64];omega
     have q6:IntKind.u64.wrap (x:Int)=(x:Int):=by rw[IntKind.wrap_u64];omega
     have q7:IntKind.u64.wrap (y:Int)=(y:Int):=by rw[IntKind.wrap_u64];omega
     have q8:IntKind.u64.wrap ((c:Int)+(d:Int))=(c:Int)+(d:Int):=by rw[IntKind.wrap_u64];omega
     have q9:IntKind.u64.wrap ((x:Int)*(y:Int))=(P:Int):=by rw[c3,IntKind.wrap_u64];omega
     have e5:IntKind.u64.wrap ((c:Int)+(d:Int)+(P:Int))=(c:Int)+(d:Int)+(P:Int):=by rw[IntKind.wrap_u64];omega
     have e6:(m:Int)<(a.length:Int):=O
     have e7:(k:Int)<(f.length:Int):=O
     go_wp2
     go_quiet (fail)
     go_wp2
     go_roundw
     case rel=>exact qL Z o l.out u s.out T.out g.out Q.out HY.out HD.out (bH r.out) c2 (by rw[L.out];omega) (by rw[L.out];omega) O (by rw[L.out];omega)
     case measure=>simp[intOf];omega
    obtain rfl:m=a.length:=O
    have n:k+a.length<(lo++(b.drop (k+a.length)++List.replicate (f.length-k) 0)).length:=by have:=s.out;simp;omega
    have t:=g.out.cell n;have e0:=g.out.free (k+a.length);obtain⟨old,E⟩:∃old,(lo++(b.drop (k+a.length)++List.replicate (f.length-k) 0))[k+a.length]=old:=⟨_,Z⟩;rw[E]at t;clear E n
    go_wp2
    go_roundw
    case rel=>exact tf Z o l.out U.out HX.out s.out T.out hc g.out Q.out r.out c2 O O
    case measure=>simp[intOf];omega
  obtain rfl:k=f.length:=O
  have q:OwnN wr w.heap.size (.slice (some ⟨w.heap.size,0,none⟩) (f.length+a.length) (f.length+a.length)) b:=by have:=V.out;rwa[RW,SW,RP]at this
  obtain⟨h4,h5⟩:=q.isN K.out;have G:aG b=aG f*aG a:=by have h1:=U.out;rwa[Sa]at h1
  have c0:b.length<=1073741823:=by have:=l.out;omega
  have hT:=dZ _ _ b wr h4 c0;rw[G,<-h5]at hT;have HT:=J hT;clear q h4 h5 G hT
  go_wp2_with fail
  refine HT.out.mono ?_;rintro e w5 ⟨v5,rfl,b1,X⟩;have d1:=J (b1.base_le (VA N));have c5:=J (aL C.out X (VA N));clear b1 X
  go_wp2
  go_ret
  exact⟨v5,Z,d1.out,c5.out⟩
def bu:prog.underlying 9=some .string:=U
def qY(s:ByteArray):Ct 73 [sT s] (bT (j5 s)):=by
 refine Ct.of (n:=58) func73 Z Z Z Z Z λw0 G0=>?_
 refine X 1 Z<|H<|C<|M 1 (t:=nI s.size) Z (fK Z bu Z)<|aI 0 Z Z Zy (B (gF s.size 1))<|ax 1 Z<|N Z Z Z Z (λa=>K Z Z)<|N (t:=nI s.size) Z Z Z Z (λa=>fK Z bu (if_pos a))<|N Z Z Z Z (λa=>aj (aC Z (if_pos a) Z (λ_=>rfl)) (B (nZ s.size 24)))<|M 0 Z (dD Z Z Z Z)<|E<|aK Z (λb=>?_) (λb=>?_)
 ·refine X 1 Z<|aM ⟨Z,B (by unfold j5;simp only[Sm,decide_eq_true_eq]at b;rw[eq_comm,SZ,SZ];left;rcases b with h|h;exact .inl (decide_eq_false O0);exact .inr (decide_eq_false O0)),Z⟩ Z
 refine ar<|H<|X 1 Z<|aB<|aT (λo m=>∃(i:Nat),(i<=s.size/\∀j,j<i->Bv j (s.data.toList.getD j 0)=true)/\o=s.size-i/\m=⟨58,[(0,sT s),(3,nI i)],[],[]⟩) 0 0 ⟨0,⟨O0,λj l=>O0⟩,Z,Z⟩ .rf ?_;rintro o m ⟨i,⟨u,e⟩,rfl,rfl⟩;have r:s.size<=24:=by simp only[Rp,decide_eq_false_iff_not]at b;omega
 refine H<|C<|M 2 (t:=nI s.size) Z (fK Z bu Z)<|aI 0 Z Z Zy (B (gF i s.size))<|E<|ay Z (λf=>?_) (λf=>?_)
 ·obtain⟨c,k⟩:∃c,s.data.toList[i]? =some c:=⟨_,Q2 (by simpa using f)⟩;refine ar<|H<|aB<|C<|M 2 (t:=.sc (.int .u8 ((c.toNat:Nat):Int))) Z (eO Z bu Z Z Z k)<|Y 1 Z<|C<|aI 1 Z Z Zy (B (IX 65 c.toNat))<|ax 1 Z<|N Z Z Z Z (λa=>K Z Z)<|N Z Z Z Z (λa=>aj (aC Z (if_pos a) Z (λ_=>rfl)) (B (IX c.toNat 90)))<|M 0 Z (cH Z Z Z Z)<|ax 1 Z<|N Z Z Z Z (λa=>K Z Z)<|N Z Z Z Z (λa=>aj (aC Z Z (if_pos a) (λ_=>rfl)) (B (IX 97 c.toNat)))<|N Z Z Z Z (λa=>K Z (if_pos a))<|cl Z Z Z Z (λa=>K Z Z)<|cl Z Z Z Z (λa=>aj (aC Z (if_pos a) Z (λ_=>rfl)) (B (IX c.toNat 122)))<|N (t:=bT ((decide (97<=c.toNat))&&(decide (c.toNat<=122)))) Z Z Z Z (λa=>fJ Z (if_pos a) (λd=>(if_pos ⟨a,d⟩).trans (B (by rw[d];rfl))) (λd=>(B (by rw[d];rfl))))<|M 0 Z (dD Z Z Z Z)<|Y 1 Z<|C<|aI 1 Z Z Zy (B (IX 48 c.toNat))<|ax 1 Z<|N Z Z Z Z (λa=>K Z Z)<|N Z Z Z Z (λa=>aj (aC Z (if_pos a) Z (λ_=>rfl)) (B (IX c.toNat 57)))<|M 0 Z (cH Z Z Z Z)<|ax 1 Z<|N Z Z Z Z (λa=>K Z Z)<|N Z Z Z Z (λa=>aj (aC Z (if_pos a) Z (λ_=>rfl)) (B (gL c.toNat 95)))<|M 0 Z (dD Z Z Z Z)<|Y 1 Z<|C<|M 1 (t:=bT (!(((decide (65<=c.toNat))&&(decide (c.toNat<=90)))||((decide (97<=c.toNat))&&(decide (c.toNat<=122)))))) Z (dm Z Z Zy)<|ax 1 Z<|N Z Z Z Z (λa=>K Z Z)<|N Z Z Z Z (λa=>aj (aC Z (if_pos a) Z (λ_=>rfl)) (B (gL i 0)))<|N Z Z Z Z (λa=>K Z (if_pos a))<|cl Z Z Z Z (λa=>K Z Z)<|cl (t:=bT (!(((decide (48<=c.toNat))&&(decide (c.toNat<=57)))||(decide (c.toNat=95))))) Z Z Z Z (λa=>dm Z (if_pos a) (λ_=>rfl))<|N (t:=bT ((decide (i=0))||(!(((decide (48<=c.toNat))&&(decide (c.toNat<=57)))||(decide (c.toNat=95)))))) Z Z Z Z (λa=>fJ Z (if_pos a) (λd=>(B (by rw[d];rfl))) (λd=>(if_pos ⟨a,d⟩).trans (B (by rw[d];rfl))))<|M 0 Z (cH Z Z Z Z)<|E<|aK Z (λg=>?_) (λg=>?_)
  ·refine X 1 Z<|aM ⟨Z,B (ya k f (by unfold Bv Bt Bu;revert g;generalize (decide (65<=c.toNat)&&decide (c.toNat<=90)||decide (97<=c.toNat)&&decide (c.toNat<=122))=p;generalize (decide (48<=c.toNat)&&decide (c.toNat<=57)||decide (c.toNat=95))=q;rw[decide_not];generalize decide (i=0)=z;cases p<;>cases q<;>cases z<;>simp)).symm,Z⟩ Z
  refine ar<|am<|a8 1 (i+1) Z Z Zy O0<|Y 1 Z<|⟨_,_,?_,⟨i+1,?_,Z,Z⟩,.rf⟩
  ·omega
  refine⟨O0,λj l=>?_⟩;rcases RE j i with h|h
  ·exact e j h
  obtain rfl:j=i:=O0
  rw[Rr,k,RH];unfold Bv Bt Bu;revert g;generalize (decide (65<=c.toNat)&&decide (c.toNat<=90)||decide (97<=c.toNat)&&decide (c.toNat<=122))=p;generalize (decide (48<=c.toNat)&&decide (c.toNat<=57)||decide (c.toNat=95))=q;rw[decide_not];generalize decide (j=0)=z;cases p<;>cases q<;>cases z<;>simp
 refine aX<|X 1 Z<|aM ⟨Z,B (by unfold j5;rw[eq_comm,Q9,Q9];simp only[Rp,decide_eq_false_iff_not]at b;exact⟨⟨decide_eq_true O0,decide_eq_true O0⟩,Rl.2 λj l=>e j (by have:=Tr.1 l;omega)⟩),Z⟩ Z
