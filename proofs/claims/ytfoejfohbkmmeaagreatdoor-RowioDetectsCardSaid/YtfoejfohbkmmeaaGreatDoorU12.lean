import Derived.Test.YtfoejfohbkmmeaaGreatDoorU11
import Derived.Test.YtfoejfohbkmmeaaGreatDoorU07
import Derived.Laws.IdiomCopy
import Derived.Test.YtfoejfohbkmmeaaGreatDoorU08
import Derived.Test.YtfoejfohbkmmeaaGreatDoorU00
import Derived.Test.YtfoejfohbkmmeaaGreatDoorU02
import Derived.Test.YtfoejfohbkmmeaaGreatDoorU03
import Derived.Laws.OwnMore
namespace Go.Proofs.YtfoejfohbkmmeaaGreatDoor
open Go.RowKit
open Lib renaming hid→J
def Bu(Q:Exit->World->(Nat->Prop)->St->Prop)(e:Exit)(a:Act)(w:World):Prop:=∃w1 G1 S,Q e w1 G1 S/\Sim w1 G1 S a w
def BWP(c:Code)(Q:Exit->World->(Nat->Prop)->St->Prop)(w1:World)(G1:Nat->Prop)(S:St):Prop:=∀a w,Sim w1 G1 S a w->c.wp Tryz.prog (Bu Q) a w
def Ip(K:World->(Nat->Prop)->St->Prop)(Q:Exit->World->(Nat->Prop)->St->Prop):Exit->World->(Nat->Prop)->St->Prop
 | .normal,w,G,S=>K w G S
 |e,w,G,S=>Q e w G S
def wX(id:Nat)(Q:Exit->World->(Nat->Prop)->St->Prop):Exit->World->(Nat->Prop)->St->Prop
 | .exit id',w,G,S=>if id'=id then Q .normal w G S else Q (.exit id') w G S
 |e,w,G,S=>Q e w G S
section
variable {w1:World} {G1:Nat->Prop} {Q:Exit->World->(Nat->Prop)->St->Prop} {S:St}
theorem BWP.of{c:Code}(h:AWP w1 G1 c (fun e S=>Q e w1 G1 S) S):BWP c Q w1 G1 S:=fun a w b=>wp_mono (h a w b) fun _ _ _ ⟨S',f,d⟩=>⟨w1,G1,S',f,d⟩
theorem cP{x y:Code}(h:BWP x (Ip (BWP y Q) Q) w1 G1 S):BWP (.seq x y) Q w1 G1 S:=fun a w f=>wp_seq (wp_mono (h a w f) fun e d w' ⟨g,G2,S',b,c⟩=>by
 cases e with
 |normal=>exact b d w' c
 |_=>exact⟨g,G2,S',b,c⟩)
theorem km(h:Q .normal w1 G1 S):BWP .skip Q w1 G1 S:=fun _ _ a=>wp_skip ⟨w1,G1,S,h,a⟩
theorem l7{id:Nat}(h:Q (.exit id) w1 G1 S):BWP (.exit id) Q w1 G1 S:=fun _ _ a=>wp_exit ⟨w1,G1,S,h,a⟩
theorem ko{c:Operand}{x y:Code}{b:Bool}(k:S.ev c=bT b)(j:b=true->BWP x Q w1 G1 S)(m:b=false->BWP y Q w1 G1 S):BWP (.cond c x y) Q w1 G1 S:=fun a w e=>by
 have l:a.eval c=.bool b:=by
  obtain⟨bx,rv,o,n,i,d⟩:=e;rw[vf];have:FT (en w G1 bx rv S.rs) [cA (fun s=>a.tmps.getD s undef) c] [S.ev c]:=by
   cases c with
   |tmp s=>exact d s
   |const v=>exact .pure (.sc v .nil) .nil
   |global g=>exact .pure (.sc _ .nil) .nil
   |func f=>exact .pure (.sc _ .nil) .nil
  rw[k]at this;exact this.isSc
 exact wp_cond_split l (fun h=>j h a w e) (fun h=>m h a w e)
theorem t6{id:Nat}{c:Code}(h:BWP c (wX id Q) w1 G1 S):BWP (.block id c) Q w1 G1 S:=fun a w g=>wp_block (wp_mono (h a w g) fun e i w' ⟨d,G2,S',b,f⟩=>by
 cases e with
 |exit id'=>
  simp only[wX]at b;simp only[Exit.inBlock];split at b
  ·rw[if_pos (by assumption)];exact⟨d,G2,S',b,f⟩
  rw[if_neg (by assumption)];exact⟨d,G2,S',b,f⟩
 |_=>exact⟨d,G2,S',b,f⟩)
theorem l8{c:Code}(h:∀a w,Sim w1 G1 S a w->∃d G2 b,Sim d G2 b a w/\BWP c Q d G2 b):BWP c Q w1 G1 S:=fun a w f=>by
 obtain⟨d,G2,b,e,g⟩:=h a w f;exact g a w e
theorem oo{c:Code}{n:Nat}{sl:List (Nat×Tree)}{bs:List (TypeId×List Tree)}{rs:List (Option Row)}(l:List (Nat×Tree))(b:Keeps ⟨n,sl,bs,rs⟩ 0 0 l)(h:BWP c Q w1 G1 ⟨n,l,[],[]⟩):BWP c Q w1 G1 ⟨n,sl,bs,rs⟩:=fun a w d=>h a w (d.less 0 0 l b Z)
open Classical in
theorem wY{c:Code}(I:Nat->World->(Nat->Prop)->St->Prop)(n0:Nat)(h0:I n0 w1 G1 S)(round:∀n w1 G1 S,I n w1 G1 S->BWP c (Ip (fun w' G' S'=>∃m,m<n/\I m w' G' S') Q) w1 G1 S):BWP (.loop c) Q w1 G1 S:=fun a w hs=>by
 let p:Act->World->Nat->Prop:=fun a w n=>∃w1 G1 S,I n w1 G1 S/\Sim w1 G1 S a w
 let μ:Act->World->Nat:=fun a w=>if h:∃n,p a w n then Classical.choose (fH (p a w) _ (Classical.choose_spec h))else 0
 have hμ:∀a w n,p a w n->p a w (μ a w)/\μ a w<=n:=fun a w n hn=>by
  have hex:∃n,p a w n:=⟨n,hn⟩
  have hsp:=Classical.choose_spec (fH (p a w) _ (Classical.choose_spec hex))
  have e:μ a w=Classical.choose (fH (p a w) _ (Classical.choose_spec hex)):=by simp only[μ];rw[dif_pos hex]
  rw[e]
  refine⟨hsp.1,?_⟩
  rcases MI n (Classical.choose (fH (p a w) _ (Classical.choose_spec hex)))with hlt|hge
  ·exact absurd hn (hsp.2 n hlt)
  ·exact hge
 refine wp_loop (fun a w=>∃n,p a w n) μ ⟨n0,w1,G1,S,h0,hs⟩ ?_
 rintro a w ⟨n,hn⟩
 obtain⟨⟨w2,G2,S',hI,hS⟩,_⟩:=hμ a w n hn
 refine wp_mono (round _ w2 G2 S' hI a w hS) ?_
 rintro e a' w' ⟨w3,G3,S'',h1,h2⟩
 cases e with
 |normal=>
  obtain⟨m,hm,hI'⟩:=h1
  have hp:p a' w' m:=⟨w3,G3,S'',hI',h2⟩
  exact⟨⟨m,hp⟩,NC (hμ a' w' m hp).2 hm⟩
 |_=>exact⟨w3,G3,S'',h1,h2⟩
def BOps(ops:Array Oper)(rest:List Oper)(Q:Exit->World->(Nat->Prop)->St->Prop)(w1:World)(G1:Nat->Prop)(S:St):Prop:=∀a w,Sim w1 G1 S a w->wpList Tryz.prog ops (Bu Q) rest a w
variable {ops:Array Oper} {rest:List Oper} {o:Oper}
theorem fl{id:Nat}{ops:List Oper}(h:BOps ops.toArray ops Q w1 G1 S):BWP (.region id ops.toArray false) Q w1 G1 S:=fun a w b=>wp_region_list (by simpa using h a w b)
theorem gL(h:Q .normal w1 G1 S):BOps ops [] Q w1 G1 S:=fun _ _ a=>⟨w1,G1,S,h,a⟩
theorem GN(j:o.guard=none)(l:cT S.n o.dst=true){t:Tree}(h:OpOK o S t)(k:BOps ops rest Q w1 G1 (S.put o.dst t)):BOps ops (o::rest) Q w1 G1 S:=by
 rintro a w ⟨bx,rv,f,e,c,b⟩;refine ec (by simp[Region.wanted,j]) fun K g=>?_
 have m:=(h w1 G1 bx rv w (fun s=>a.tmps.getD s undef) f fun s _=>b s).wp (Q:=Bu Q);refine Oper.wp_mono ?_ m;rintro p w' ⟨v,rfl,i,d⟩;refine g _ _ (k _ _ ⟨bx,rv,?_,by rw[dB,eo,e],by rw[cH,c],?_⟩)
 ·rw[dC,ch];exact f.later d
 rw[ch];exact gY e l (fun _ _ h=>h.later d) b i
theorem b9{n d:Nat}{sl:List (Nat×Tree)}{bs:List (TypeId×List Tree)}{rs:List (Option Row)}{t:Tree}(b:o.guard=none)(a:o.dst=some d)(c:Nat.blt d n=true)(h:OpOK o ⟨n,sl,bs,rs⟩ t)(k:BOps ops rest Q w1 G1 ⟨n,(d,t)::sl,bs,rs⟩):BOps ops (o::rest) Q w1 G1 ⟨n,sl,bs,rs⟩:=by
 refine GN b ?_ h ?_
 ·rw[a];simpa[cT,Nn]using c
 rw[a];exact k
theorem fv(e:o.guard=none)(h:∀a w,Sim w1 G1 S a w->OpRuns Tryz.prog o (fun s=>a.tmps.getD s undef) w (fun v w'=>∃c G2 b,Sim c G2 b (a.put o.dst v) w'/\BOps ops rest Q c G2 b)):BOps ops (o::rest) Q w1 G1 S:=by
 intro a w g;refine ec (by simp[Region.wanted,e]) fun K d=>?_
 refine Oper.wp_mono ?_ ((h a w g).wp (Q:=Bu Q));rintro j w' ⟨v,rfl,c,G2,b,f,i⟩;exact d _ _ (i _ _ f)
end
theorem l9{w:World}{G:Nat->Prop}:(en w G [] [] []).W=w/\∀b,(en w G [] [] []).G b↔G b:=⟨Z,fun b=>by simp[en,GG,cq]⟩
theorem PT.sub{w:World}{G G':Nat->Prop}{us:List Value}{ts:List Tree}(h:PT w G us ts)(a:∀b,¬G b->¬G' b):PT w G' us ts:=h.mono (L5 _) fun b _ c=>⟨Z,a b c⟩
theorem FT.gg{w:World}{G:Nat->Prop}{v:Value}{t:Tree}(h:PT w G [v] [t]):FT (en w G [] [] []) [v] [t]:=.of (h.sub fun b c a=>c ((l9.2 b).1 a))
theorem PT.gg{w:World}{G:Nat->Prop}{us:List Value}{ts:List Tree}(h:PT w (GG G [] [] []) us ts):PT w G us ts:=h.sub fun b c a=>c (((l9 (w:=w)).2 b).2 a)
def Gt(G:Nat->Prop)(w:World):Prop:=∀g,G g->g<w.heap.size/\NoDigB w g
theorem ua{w:World}{G:Nat->Prop}(d:Env w)(e:Gt G w):Mem w G [] [] [] [] w:=
 ⟨Below.refl _ _,d,e,Z,Z,fun i g c=>by simp at c,fun k v R a=>by simp at a,⟨Pb,fun k v R b a=>by simp at a,fun j k u v X R b _ a=>by simp at a⟩,fun b f=>by simp[cq]at f⟩
section
variable {w1 w w':World} {G1 G2:Nat->Prop} {n:Nat} {sl:List (Nat×Tree)} {a:Act}
theorem Sim.facts(h:Sim w1 G1 ⟨n,sl,[],[]⟩ a w):Env w/\Gt G1 w/\Below w1.heap.size w1 w/\a.tmps.size=n/\a.defers=[]/\∀i,FT (en w G1 [] [] []) [a.tmps.getD i undef] [look sl i]:=by
 obtain⟨bx,rv,b,e,c,d⟩:=h;obtain rfl:bx=[]:=Mk b.nb;obtain rfl:rv=[]:=Mk b.nr;exact⟨b.env,fun g f=>b.ok g (.inl f),b.below,e,c,d⟩
theorem Sim.slot(h:Sim w1 G1 ⟨n,sl,[],[]⟩ a w){i:Nat}{t:Tree}(d:look sl i=t)(c:t.plain=true):PT w G1 [a.tmps.getD i undef] [t]:=by
 have b:=h.facts.2.2.2.2.2 i;rw[d]at b;exact(b.plain c).gg
theorem Sim.lit(h:Sim w1 G1 ⟨n,sl,[],[]⟩ a w){i:Nat}{v:Value}(c:look sl i=.sc v):a.tmps.getD i undef=v:=by
 have b:=h.facts.2.2.2.2.2 i;rw[c]at b;exact b.isSc
theorem Sim.mk(c:Env w)(d:Gt G2 w)(b:a.tmps.size=n)(e:a.defers=[])(f:∀i,FT (en w G2 [] [] []) [a.tmps.getD i undef] [look sl i]):Sim w G2 ⟨n,sl,[],[]⟩ a w:=⟨[],[],ua c d,b,e,f⟩
theorem Sim.turn(h:Sim w1 G1 ⟨n,sl,[],[]⟩ a w)(f:Env w')(c:Gt G2 w')(d:w.heap.size<=w'.heap.size)(g:∀b,b<w.heap.size->¬G1 b->w'.heap[b]? =w.heap[b]? /\¬G2 b):Sim w' G2 ⟨n,sl,[],[]⟩ a w':=by
 obtain⟨_,_,_,e,k,l⟩:=h.facts;refine Sim.mk f c e k fun i=>(l i).mono d (fun b j c=>?_) (fun _ _ h=>h) (fun _ _ h=>h)
 obtain⟨m,o⟩:=g b j fun h=>c ((l9.2 b).2 h)
 exact⟨m,fun h=>o ((l9.2 b).1 h)⟩
def SlotL(E:En)(T:Nat->Value):List (Nat×Tree)->Prop
 |[]=>True
 |(i,t)::l=>FT E [T i] [t]/\SlotL E T l
theorem SlotL.look{E:En}{T:Nat->Value}:∀{l:List (Nat×Tree)},SlotL E T l->∀i,FT E [T i] [Go.Proofs.YtfoejfohbkmmeaaGreatDoor.look l i]
 |[],_,i=>.any _ .nil
 |(j,t)::l,h,i=>by
  rw[cV];split
  ·next e=>subst e;exact h.1
  exact SlotL.look h.2 i
def UnbL(S:St)(cs:List Tree):List (Nat×Tree)->Prop
 |[]=>True
 |(i,t)::l=>((S.get i=t/\within 0 0 t=true)\/∃off,S.get i=.box 0 off/\t=.ref (cs.drop off))/\UnbL S cs l
theorem rM{S:St}{cs:List Tree}{E E':En}{T:Nat->Value}(a:∀i,FT E [T i] [S.get i])(c:∀v t,FT E [v] [t]->within 0 0 t=true->FT E' [v] [t])(b:∀v off,FT E [v] [.box 0 off]->FT E' [v] [.ref (cs.drop off)]):∀{l:List (Nat×Tree)},UnbL S cs l->∀i,FT E' [T i] [look l i]
 |[],_,i=>.any _ .nil
 |(j,t)::l,h,i=>by
  rw[cV];split
  ·next e=>
   subst e;rcases h.1 with⟨e,d⟩|⟨off,e,rfl⟩
   ·exact c _ _ (e▸a j) d
   exact b _ off (e▸a j)
  exact rM a c b h.2 i
theorem Sim.unbox{S:St}{ty:TypeId}{cs:List Tree}{l:List (Nat×Tree)}(h:Sim w1 G1 S a w)(p:S.bs=[(ty,cs)])(K:S.rs=[])(I:cs.all Tree.plain0=true)(F:UnbL S cs l):Sim w G1 ⟨S.n,l,[],[]⟩ a w/\Below w1.heap.size w1 w/\Env w1/\Gt G1 w1/\Env w:=by
 obtain⟨bx,rv,c,B,q,o⟩:=h;have y:Gt G1 w:=fun g G=>c.ok g (.inl G)
 refine⟨⟨[],[],ua c.env y,B,q,?_⟩,c.below,c.env0,c.g0,c.env⟩;have e:∀b,b<w.heap.size->¬GG G1 bx rv S.rs b->w.heap[b]? =w.heap[b]? /\¬GG G1 [] [] [] b:=fun b _ f=>⟨Z,fun h=>f (.inl (((l9 (w:=w)).2 b).1 h))⟩
 refine rM (E':=en w G1 [] [] []) o (fun v t s H=>FT.within (E:=en w G1 bx rv S.rs) (E':=en w G1 [] [] []) (m:=0) (k:=0) (L5 _) e (fun b g f=>absurd f (Px b)) (fun j v D=>absurd D (Px j)) s H) (fun v off s=>?_) F;obtain⟨g,us,x,rfl,d,J,_⟩:=rB c (by rw[p];rfl) s;have r:g∈cq bx rv S.rs:=aX.2 (.inl (L9 x));have i:PT w G1 us cs:=(J.plain0s I).sub fun b f A=>f (.inl A)
 refine FT.gg (.ref g off (us.drop off) _ d.lt (fun C=>?_) (fun j u z=>?_) (i.drop off) .nil)
 ·have L:=c.ge g r;have A:=(c.g0 g C).1;omega
 rw[d.cell];rw[Nd]at z;simpa using z
theorem Sim.back{w0:World}{G0:Nat->Prop}{l:List (Nat×Tree)}(h:Sim w1 G1 ⟨n,sl,[],[]⟩ a w)(p:Env w0)(q:Gt G0 w0)(e:Below w0.heap.size w0 w)(f:SlotL (en w G0 [] [] []) (fun i=>a.tmps.getD i undef) l):Sim w0 G0 ⟨n,l,[],[]⟩ a w:=by
 obtain⟨_,_,_,o,d,_⟩:=h.facts;exact⟨[],[],⟨e,p,q,Z,Z,fun i g m=>by simp at m,fun k v R c=>by simp at c,⟨Pb,fun k v R b c=>by simp at c,fun j k u v X R b _ c=>by simp at c⟩,fun b e=>by simp[cq]at e⟩,o,d,fun i=>f.look i⟩
theorem fJ(h:Sim w' G2 ⟨n,sl,[],[]⟩ a w'){d:Nat}{v:Value}{t:Tree}(j:d<n)(f:FT (en w' G2 [] [] []) [v] [t]):Sim w' G2 ⟨n,(d,t)::sl,[],[]⟩ (a.put (some d) v) w':=by
 obtain⟨e,g,_,c,b,k⟩:=h.facts;refine Sim.mk e g (by rw[dB];exact c) (by rw[cH];exact b) fun i=>?_
 rw[ga a (some d) v n c (by simpa[cT]using j)];simp only[MN,cV];split
 ·exact f
 exact k i
end
theorem wZ{S:St}{o:Oper}{x:Operand}{t e:TypeId}{m n c:Nat}{A:Option Addr}(a:o.op=.call {callee:=.builtin .len,args:=#[x],argTypes:=#[t]})(b:gE Tryz.prog t=some (e,m))(d:S.ev x=.sc (.slice A n c)):OpOK o S (iT (n:Nat)):=by
 intro w0 G0 bx rv w T i h;have g:=(bI h d (by rw[a];simp[Op.operands,Call.operands])).isSc;obtain⟨f,_⟩:=jI b;refine aq (v:=.int .i64 (n:Nat)) (W':=w) ?_ ⟨.pure (.sc _ .nil) .nil,Below.refl _ _⟩;simp[execOp,a,resolve,invoke,builtin,Builtin.len_,g,run_underlying f,goInt]
theorem kp{S:St}{o:Oper}{x f:Operand}{t e:TypeId}{m n c b off j r:Nat}{k:IntKind}{i:Int}(a:o.op=.indexAddr t x f)(q:gE Tryz.prog t=some (e,m))(s:S.ev x=.sc (.slice (some ⟨b,off,none⟩) n c))(l:S.ev f=.sc (.int k i))(y:i=(j:Nat))(h:j<n)(d:off+j*m=r):OpOK o S (.sc (.pointer (some ⟨b,r,none⟩))):=by
 subst d y;intro w0 G0 bx rv w T z g;have u:=(bI g s (by rw[a];simp[Op.operands])).isSc;have p:=(bI g l (by rw[a];simp[Op.operands])).isSc;have d:=kV (P:=Tryz.prog) (w:=w) (b:=b) (o:=off) (n:=n) (c:=c) (k:=k) (i:=((j:Nat):Int)) q (by omega) (by omega);refine aq (v:=.pointer (some ⟨b,off+j*m,none⟩)) (W':=w) ?_ ⟨.pure (.sc _ .nil) .nil,Below.refl _ _⟩;simp[execOp,a,u,p,d]
theorem Bv{w0:World}{G0:Nat->Prop}{Q:Exit->St->Prop}{S:St}{c:Code}(h:BWP c (fun e w1 G1 S=>w1=w0/\G1=G0/\Q e S) w0 G0 S):AWP w0 G0 c Q S:=fun a w g=>wp_mono (h a w g) fun _ _ _ ⟨_,_,S',⟨d,b,f⟩,i⟩=>⟨S',f,d▸b▸i⟩
theorem zf{w:World}{t e:TypeId}{z v:Value}(k:gE Tryz.prog t=some (e,1))(d:gc Tryz.prog e=some [z])(m:v.oneCell'=true):(Instr.buildSlice t 1 #[(0,v)]).run Tryz.prog w=.ok (.slice (some ⟨w.heap.size,0,none⟩) 1 1) (w.alloc (.cells #[v] e)):=by
 obtain⟨l,i,b,o⟩:=jI k;unfold gc at d;simp only[b,Nc,Na]at d;obtain⟨a,f,n⟩:=d;have g:a.cells=#[z]:=by apply OW;simpa using n
 have j:v.cells=#[v]:=pp m;have c:(zeroValue e).run Tryz.prog w=.ok a w:=by simp[zeroValue,typeInfo,b,f]
 have h:(sizeOf e).run Tryz.prog w=.ok 1 w:=by simp[sizeOf,typeInfo,b,o]
 have p:Instr.fill (fun x=>some (x*1,1)) ((Array.range (1*1)).map fun x=>a.cells[x%a.cells.size]!) [(0,v)]=some #[v]:=by
  rw[g];simp only[Instr.fill,j];rw[if_neg (by simp),show Array.range (1*1)=#[0] by decide];simp
 simp only[Instr.buildSlice,Sem.run_bind,run_underlying l,Result.andThen_ok,h,gt_iff_lt];rw[if_neg (by decide),if_neg (by decide)];simp only[Sem.run_bind,c,Result.andThen_ok,Sem.run_pure,p,newRow,newObj];rfl
theorem jQ{w:World}{o:Oper}{T:Nat->Value}{t e:TypeId}{s:Nat}{z:Value}(b:o.op=.buildSlice t 1 #[(0,.tmp s)])(d:gE Tryz.prog t=some (e,1))(c:gc Tryz.prog e=some [z])(a:(T s).oneCell'=true):(execOp (cA T) o).run Tryz.prog w=.ok (.value (.slice (some ⟨w.heap.size,0,none⟩) 1 1)) (w.alloc (.cells #[T s] e)):=by
 have:=zf (w:=w) d c a;simp[execOp,b,cA,this]
theorem zh{w:World}{o:Oper}{T:Nat->Value}{f:FuncId}{a:Func}{c:Array TypeId}{p q s:Nat}(h:o.op=.call {callee:=.value (.func f),args:=#[.tmp p,.tmp q,.tmp s],argTypes:=c})(j:Tryz.prog.funcs[f]? =some a)(d:(a.name== "runtime.NumGoroutine")=false)(b:a.body.isNone=false):(execOp (cA T) o).run Tryz.prog w=.ok (.enter f #[T p,T q,T s]) w:=by
 have i:¬a.name= "runtime.NumGoroutine" :=by simpa using d
 have g:¬a.body=none:=fun e=>by rw[e]at b;cases b
 simp[execOp,h,resolve,cA,Deferred.ofValue,invoke,callFunc,j,i,g]
theorem rN{w:World}{o:Oper}{T:Nat->Value}{t:TypeId}{s b off:Nat}{u:Value}(c:o.op=.load t (.tmp s))(a:T s=.pointer (some ⟨b,off,none⟩))(e:iU Tryz.prog t=true)(d:w.cell? ⟨b,off,none⟩=some u):(execOp (cA T) o).run Tryz.prog w=.ok (.value u) w:=by
 have:=iV (P:=Tryz.prog) e d;simp[execOp,c,cA,a,this]
section
variable {w1:World} {G1:Nat->Prop} {Q:Exit->World->(Nat->Prop)->St->Prop} {ops:Array Oper} {rest:List Oper} {o:Oper} {n d:Nat} {sl:List (Nat×Tree)}
theorem fK{t e:TypeId}{s:Nat}{z:Value}(r:o.op=.buildSlice t 1 #[(0,.tmp s)])(x:o.guard=none)(y:o.dst=some d)(p:Nat.blt d n=true)(u:gE Tryz.prog t=some (e,1))(m:gc Tryz.prog e=some [z])(A:∀a w,Sim w1 G1 ⟨n,sl,[],[]⟩ a w->(a.tmps.getD s undef).oneCell'=true)
  (k:∀a w,Sim w1 G1 ⟨n,sl,[],[]⟩ a w->BOps ops rest Q (w.alloc (.cells #[a.tmps.getD s undef] e)) G1 ⟨n,(d,.sc (.slice (some ⟨w.heap.size,0,none⟩) 1 1))::sl,[],[]⟩):BOps ops (o::rest) Q w1 G1 ⟨n,sl,[],[]⟩:=by
 refine fv x fun a w f=>?_
 obtain⟨q,j,_⟩:=f.facts;have c:Below w.heap.size w (w.alloc (.cells #[a.tmps.getD s undef] e)):=(Below.refl _ _).alloc (L5 _) _;refine aq (v:=.slice (some ⟨w.heap.size,0,none⟩) 1 1) (W':=w.alloc (.cells #[a.tmps.getD s undef] e)) ?_ ⟨_,_,_,?_,k a w f⟩
 ·exact jQ (T:=fun s=>a.tmps.getD s undef) r u m (A a w f)
 rw[y];exact fJ (f.turn (q.below c (L5 _)) (fun g h=>⟨Mp (j g h).1 c.size,(j g h).2.of (c.block g (j g h).1)⟩) c.size fun b l i=>⟨c.block b l,i⟩) (by simpa[Nn]using p) (.pure (.sc _ .nil) .nil)
theorem k8{t e:TypeId}{s:Nat}{z:Value}(u:o.op=.buildSlice t 1 #[(0,.tmp s)])(y:o.guard=none)(A:o.dst=some d)(q:Nat.blt d n=true)(x:gE Tryz.prog t=some (e,1))(p:gc Tryz.prog e=some [z])(m:∀a w,Sim w1 G1 ⟨n,sl,[],[]⟩ a w->(a.tmps.getD s undef).oneCell'=true/\bL (a.tmps.getD s undef)=true)
  (k:∀a w,Sim w1 G1 ⟨n,sl,[],[]⟩ a w->BOps ops rest Q (w.alloc (.cells #[a.tmps.getD s undef] e)) (fun b=>G1 b\/b=w.heap.size) ⟨n,(d,.sc (.slice (some ⟨w.heap.size,0,none⟩) 1 1))::sl,[],[]⟩):BOps ops (o::rest) Q w1 G1 ⟨n,sl,[],[]⟩:=by
 refine fv y fun a w f=>?_
 obtain⟨r,j,_⟩:=f.facts;have c:Below w.heap.size w (w.alloc (.cells #[a.tmps.getD s undef] e)):=(Below.refl _ _).alloc (L5 _) _;refine aq (v:=.slice (some ⟨w.heap.size,0,none⟩) 1 1) (W':=w.alloc (.cells #[a.tmps.getD s undef] e)) ?_ ⟨_,_,_,?_,k a w f⟩
 ·exact jQ (T:=fun s=>a.tmps.getD s undef) u x p (m a w f).1
 rw[A];refine fJ (f.turn (r.below c (L5 _)) (fun g h=>?_) c.size fun b l i=>⟨c.block b l,fun h=>h.elim i (by omega)⟩) (by simpa[Nn]using q) (.pure (.sc _ .nil) .nil);rcases h with h|rfl
 ·exact⟨Mp (j g h).1 c.size,(j g h).2.of (c.block g (j g h).1)⟩
 exact⟨by simp,cI (heap_alloc_new _ _) (by simpa using(m a w f).2)⟩
theorem k9{f:FuncId}{g:Func}{b:Array TypeId}{p q s:Nat}(l:o.op=.call {callee:=.value (.func f),args:=#[.tmp p,.tmp q,.tmp s],argTypes:=b})(m:o.guard=none)(t:o.dst=some d)(r:Tryz.prog.funcs[f]? =some g)(c:(g.name== "runtime.NumGoroutine")=false)(i:g.body.isNone=false)
  (h:∀a w,Sim w1 G1 ⟨n,sl,[],[]⟩ a w->Calls Tryz.prog f #[a.tmps.getD p undef,a.tmps.getD q undef,a.tmps.getD s undef] w fun e w'=>∃v,e=.returned v/\∃k G2 j,Sim k G2 j (a.put (some d) v) w'/\BOps ops rest Q k G2 j):BOps ops (o::rest) Q w1 G1 ⟨n,sl,[],[]⟩:=by
 refine fv m fun a w u=>?_
 rw[t];exact bJ (f:=f) (args:=#[a.tmps.getD p undef,a.tmps.getD q undef,a.tmps.getD s undef]) (zh (T:=fun s=>a.tmps.getD s undef) l r c i) (h a w u)
theorem Sim.put1{a:Act}{w:World}{v:Value}{t:Tree}(h:Sim w1 G1 ⟨n,sl,[],[]⟩ a w)(j:d<n)(g:FT (en w G1 [] [] []) [v] [t]):Sim w1 G1 ⟨n,(d,t)::sl,[],[]⟩ (a.put (some d) v) w:=by
 obtain⟨bx,rv,e,f,b,c⟩:=h;obtain rfl:bx=[]:=Mk e.nb;obtain rfl:rv=[]:=Mk e.nr;refine⟨[],[],e,by rw[dB];exact f,by rw[cH];exact b,fun i=>?_⟩;rw[ga a (some d) v n f (by simpa[cT]using j)];show FT _ _ [look ((d,t)::sl) i]
 simp only[MN,cV];split
 ·exact g
 exact c i
theorem rO{t:TypeId}{s b off:Nat}{u:Value}(i:o.op=.load t (.tmp s))(p:o.guard=none)(q:o.dst=some d)(h:Nat.blt d n=true)(r:look sl s=.sc (.pointer (some ⟨b,off,none⟩)))(j:iU Tryz.prog t=true)(g:b<w1.heap.size)(l:w1.cell? ⟨b,off,none⟩=some u)(k:BOps ops rest Q w1 G1 ⟨n,(d,.sc u)::sl,[],[]⟩):BOps ops (o::rest) Q w1 G1 ⟨n,sl,[],[]⟩:=by
 refine fv p fun a w c=>?_
 obtain⟨_,_,e,_⟩:=c.facts;have m:=c.lit r;have f:w.cell? ⟨b,off,none⟩=some u:=by rw[<-l];exact World.cell?_of_block (e.block b g)
 refine aq (v:=u) (W':=w) ?_ ⟨_,_,_,?_,k⟩
 ·exact rN (T:=fun s=>a.tmps.getD s undef) i m j f
 rw[q];exact c.put1 (by simpa[Nn]using h) (.pure (.sc _ .nil) .nil)
theorem Sim.later{a:Act}{w w':World}(h:Sim w1 G1 ⟨n,sl,[],[]⟩ a w)(d:Below w.heap.size w w'):Sim w1 G1 ⟨n,sl,[],[]⟩ a w':=by
 obtain⟨bx,rv,f,e,b,c⟩:=h;exact⟨bx,rv,f.later d,e,b,fun i=>(c i).later d⟩
theorem zi{w:World}{o:Oper}{T:Nat->Value}{f g:FuncId}{a:Func}{c:Array TypeId}{p q:Nat}(i:o.op=.call {callee:=.value (.func f),args:=#[.tmp p,.tmp q,.func g],argTypes:=c})(k:Tryz.prog.funcs[f]? =some a)(d:(a.name== "runtime.NumGoroutine")=false)(b:a.body.isNone=false):(execOp (cA T) o).run Tryz.prog w=.ok (.enter f #[T p,T q,Gs g]) w:=by
 have j:¬a.name= "runtime.NumGoroutine" :=by simpa using d
 have h:¬a.body=none:=fun e=>by rw[e]at b;cases b
 simp[execOp,i,resolve,cA,Gs,Deferred.ofValue,invoke,callFunc,k,j,h]
theorem zj{f g:FuncId}{i:Func}{b:Array TypeId}{p q:Nat}{t:Tree}(r:o.op=.call {callee:=.value (.func f),args:=#[.tmp p,.tmp q,.func g],argTypes:=b})(x:o.guard=none)(A:o.dst=some d)(m:Nat.blt d n=true)(y:Tryz.prog.funcs[f]? =some i)(c:(i.name== "runtime.NumGoroutine")=false)(j:i.body.isNone=false)
  (h:∀a w,Sim w1 G1 ⟨n,sl,[],[]⟩ a w->Calls Tryz.prog f #[a.tmps.getD p undef,a.tmps.getD q undef,Gs g] w fun e w'=>∃v,e=.returned v/\PT w' G1 [v] [t]/\Below w.heap.size w w') (k:BOps ops rest Q w1 G1 ⟨n,(d,t)::sl,[],[]⟩):BOps ops (o::rest) Q w1 G1 ⟨n,sl,[],[]⟩:=by
 refine fv x fun a w l=>?_
 rw[A];refine bJ (f:=f) (args:=#[a.tmps.getD p undef,a.tmps.getD q undef,Gs g]) (zi (T:=fun s=>a.tmps.getD s undef) r y c j) ((h a w l).mono ?_);rintro e w' ⟨v,z,u,B⟩;exact⟨v,z,w1,G1,_,(l.later B).put1 (by simpa[Nn]using m) (FT.gg u),k⟩
theorem kq{w w':World}{o:Oper}{T:Nat->Value}{t:TypeId}{p q:Nat}{v x y:Value}(c:o.op=.call {callee:=.builtin .append,args:=#[.tmp p,.tmp q],argTypes:=#[t,t]})(a:T p=x)(b:T q=y)(d:(Builtin.append_ #[t,t] o.type #[x,y]).run Tryz.prog w=.ok v w'):(execOp (cA T) o).run Tryz.prog w=.ok (.value v) w':=by
 simp[execOp,c,resolve,cA,invoke,builtin,a,b,d]
theorem qa{w:World}{o:Oper}{T:Nat->Value}{ty:TypeId}{p q b off:Nat}{v y:Value}(k:o.op=.store ty (.tmp p) (.tmp q))(n:T p=.pointer (some ⟨b,off,none⟩))(h:T q=v)(f:(Tryz.prog.info? ty).map (·.size)=some 1)(g:v.oneCell'=true)(l:w.cell? ⟨b,off,none⟩=some y)(s:w.frozen? ⟨b,off,none⟩=false):(execOp (cA T) o).run Tryz.prog w=.ok .skip (w.setCell ⟨b,off,none⟩ v):=by
 have c:=run_storeCells_cells (P:=Tryz.prog) b off [v] 0 w (fun j d=>by
  have:j=0:=by simpa using d
  subst this;show(w.cell? ⟨b,off,none⟩).isSome=true
  rw[l];rfl) (fun j d=>by
  have:j=0:=by simpa using d
  subst this;exact s) (fun x m=>by rw[Ml.1 m];exact g)
 have e:v.cells=#[v]:=pp g;cases a:Tryz.prog.info? ty with
 |none=>simp[a]at f
 |some i=>
  have r:i.size=1:=by simpa[a]using f
  simp[execOp,k,cA,n,h,Instr.storeAt,Instr.sureAddr,storeVar,sizeOf,typeInfo,a,r,e]at c⊢;simp[c,World.setCells]
end
def vD(acc:List Nat):List Edge->Nat->Nat
 |[],m=>m
 |e::l,m=>vD acc l (if Region.binds .any e then m|||((1<<<e.on)|||acc.getD e.on 0)else m)
def qT(acc:List Nat)(o:Oper):List Nat:=acc++[vD acc o.after.toList 0]
def qH(l:List Oper):List Nat:=l.foldl qT []
def pB(l:List Oper)(i j:Nat):Bool:=((qH l).getD i 0).testBit j
theorem qb(b:List Nat)(j:Nat):∀(es:List Edge) (m:Nat),(vD b es m).testBit j=true->m.testBit j=true\/∃e∈es,Region.binds .any e=true/\(e.on=j\/(b.getD e.on 0).testBit j=true)
 |[],m,h=>.inl h
 |e::l,m,h=>by
  rcases qb b j l _ h with a|⟨f,d,c,g⟩
  ·by_cases c:Region.binds .any e=true
   ·rw[if_pos c,Nat.testBit_or,Nat.testBit_or,M5,M5]at a;rcases a with a|a|a
    ·exact .inl a
    ·refine .inr ⟨e,by simp,c,.inl ?_⟩;rw[Nat.one_shiftLeft,Nat.testBit_two_pow]at a;simpa using a
    exact .inr ⟨e,by simp,c,.inr a⟩
   rw[if_neg c]at a;exact .inl a
  exact .inr ⟨f,by simp[d],c,g⟩
theorem ub(l:List Oper)(o:Oper):qH (l++[o])=qT (qH l) o:=by simp[qH]
theorem w8{C:List Oper->Prop}(a:C [])(b:∀l o,C l->C (l++[o]))(l:List Oper):C l:=by
 have h:∀m:List Oper,C m.reverse:=by
  intro m;induction m with
  |nil=>exact a
  |cons o m ih=>rw[OF];exact b _ _ ih
 simpa using h l.reverse
theorem xa(l:List Oper):(qH l).length=l.length:=by
 refine w8 (C:=fun l=>(qH l).length=l.length) Z (fun l o a=>?_) l;show(qH (l++[o])).length=(l++[o]).length
 rw[ub,qT];simp[a]
theorem CF{ops:Array Oper}{L:Array Bool}(r:Closed ops L):∀(l:List Oper),(∀(k:Nat) (o:Oper),l[k]? =some o->ops[k]? =some o)->∀i j:Nat,((qH l).getD i 0).testBit j=true->L.getD i false=true->L.getD j false=true:=by
 refine fun l=>w8 (C:=fun l=>(∀(k:Nat) (o:Oper),l[k]? =some o->ops[k]? =some o)->∀i j:Nat,((qH l).getD i 0).testBit j=true->L.getD i false=true->L.getD j false=true) ?_ (fun l o n=>?_) l
 ·intro _ i j h;simp[qH]at h
 intro g i j h c;have b:∀(k:Nat) (o:Oper),l[k]? =some o->ops[k]? =some o:=fun k v m=>g k v (by rw[ME (L7.1 m).1];exact m)
 rw[ub,qT]at h;by_cases f:i<(qH l).length
 ·rw[Mm,ME f,<-Mm]at h;exact n b i j h c
 by_cases t:i=(qH l).length
 ·subst t;rw[Mm,Mw (L5 _)]at h;simp only[M4,MW,MK]at h;rw[xa]at c;have q:ops[l.length]? =some o:=g _ _ (by simp);rcases qb _ _ _ _ h with u|⟨e,s,p,d⟩
  ·simp at u
  have a:=r l.length o q c e (by simpa using s) p;rcases d with rfl|d
  ·exact a
  exact n b e.on j d a
 rw[Mm,Nq (by simp;omega)]at h;simp at h
theorem Closed.anc{l:List Oper}{L:Array Bool}(b:Closed l.toArray L){i j:Nat}(h:pB l i j=true)(a:L.getD i false=true):L.getD j false=true:=
 CF b l (fun k o h=>by simpa using h) i j h a
def Bw(B:Nat)(W W':World):Bool->Prop
 |true=>Below B W W'/\W.heap.size<=W'.heap.size
 |false=>Below W.heap.size W W'
def zk(l:List Oper)(cons:List (Option Nat))(i j:Nat):Bool:=
 match cons.getD j none with
 |none=>true
 |some c=>c==i||pB l c i
def Bx(l:List Oper)(cons:List (Option Nat))(i j:Nat):Bool:=
 j==i||pB l j i||
 match cons.getD j none with
 |none=>false
 |some c=>c==i||pB l i c
inductive PureF:List (Value->World->Prop)->List Bool->Prop
 |nil:PureF [] []
 |eq {x:Value} {l:List (Value->World->Prop)} {p:List Bool} (h:PureF l p):PureF ((fun v _=>v=x)::l) (true::p)
 |any {f:Value->World->Prop} {l:List (Value->World->Prop)} {p:List Bool} (h:PureF l p):PureF (f::l) (false::p)
theorem PureF.get{l:List (Value->World->Prop)}{p:List Bool}(h:PureF l p):∀j v W W',p.getD j true=true->dQ l j v W->dQ l j v W':=by
 induction h with
 |nil=>intro j v W W' _ _;simp[dQ]
 |eq h ih=>
  intro j v W W' a b;cases j with
  |zero=>exact b
  |succ j=>exact ih j v W W' (by simpa using a) b
 |any h ih=>
  intro j v W W' a b;cases j with
  |zero=>simp at a
  |succ j=>exact ih j v W W' (by simpa using a) b
structure MonoC (F:List (Value->World->Prop)) (cons:List (Option Nat)) (B:Nat) (w:World) (init:List Value) (L:Array Bool) (us:List Value) (W:World):Prop where
 len:us.length=init.length
 fact:∀j,L.getD j false=true->(∀c,cons.getD j none=some c->L.getD c false=false)->dQ F j (us.getD j undef) W
 old:∀j,L.getD j false=false->us.getD j undef=init.getD j undef
 below:Below B w W
 size:B<=W.heap.size
structure GivenC (l:List Oper) (dsts:List (Option Nat)) (t:Array Value) (F:List (Value->World->Prop)) (cons:List (Option Nat)) (B:Nat) (w:World) (i:Nat) (T:Nat->Value) (W:World):Prop where
 keep:∀s,dsts.contains (some s)=false->T s=t.getD s undef
 fact:∀j s,(j !=i&&pB l i j&&zk l cons i j&&dsts[j]? ==some (some s))=true->dQ F j (T s) W
 old:∀j s,((j==i||pB l j i)&&dsts[j]? ==some (some s))=true->T s=t.getD s undef
 below:Below B w W
 size:B<=W.heap.size
def vE(l:List Oper)(dsts:List (Option Nat))(F:List (Value->World->Prop))(cons:List (Option Nat))(i:Nat):Option (Nat×Bool)->Prop
 |none=>True
 |some (j,b)=>∃s,(j !=i&&pB l i j&&cons.getD j none==none&&dsts[j]? ==some (some s))=true/\∀v W,dQ F j v W->v=.bool b
def Ez(P:Program)(l:List Oper)(dsts:List (Option Nat))(t:Array Value)(F:List (Value->World->Prop))(cons:List (Option Nat))(ap:List Nat)(B:Nat)(w:World)(i:Nat)(o:Oper):Prop:=
 vE l dsts F cons i o.guard/\∀(T:Nat->Value) (W:World),GivenC l dsts t F cons B w i T W->OpRuns P o T W fun v W'=>dQ F i v W'/\Bw B W W' (ap.contains i)
inductive StepsC (P:Program) (l:List Oper) (dsts:List (Option Nat)) (t:Array Value) (F:List (Value->World->Prop)) (cons:List (Option Nat)) (ap:List Nat) (B:Nat) (w:World):Nat->List Oper->Prop
 |nil {i:Nat}:StepsC P l dsts t F cons ap B w i []
 |cons' {i:Nat} {o:Oper} {r:List Oper} (h:Ez P l dsts t F cons ap B w i o) (hs:StepsC P l dsts t F cons ap B w (i+1) r):StepsC P l dsts t F cons ap B w i (o::r)
section
variable {P:Program} {l:List Oper} {dsts:List (Option Nat)} {t:Array Value} {F:List (Value->World->Prop)} {cs:List (Option Nat)} {ap:List Nat} {B:Nat} {w:World}
end
end Go.Proofs.YtfoejfohbkmmeaaGreatDoor
