import Derived.Test.YtfoejfohbkmmeaaGreatDoorB11
import Derived.Test.YtfoejfohbkmmeaaGreatDoorB05
import Derived.Laws.IdiomCopy
import Derived.Test.YtfoejfohbkmmeaaGreatDoorB00
import Derived.Test.YtfoejfohbkmmeaaGreatDoorB06
import Derived.Test.YtfoejfohbkmmeaaGreatDoorB01
import Derived.Test.YtfoejfohbkmmeaaGreatDoorB02
import Derived.Laws.OwnMore
import Derived.Lib.SmallJoins
set_option maxRecDepth 100000
set_option maxHeartbeats 1000000
namespace Go.Proofs.YtfoejfohbkmmeaaGreatDoor
open Go.RowKit
open Lib renaming hid→J
def Dv(Q:Exit->World->(Nat->Prop)->St->Prop)(e:Exit)(a:Act)(w:World):Prop:=∃w1 G1 S,Q e w1 G1 S/\Sim w1 (pln G1) S a w
def BWP(c:Code)(Q:Exit->World->(Nat->Prop)->St->Prop)(w1:World)(G1:Nat->Prop)(S:St):Prop:=∀a w,Sim w1 (pln G1) S a w->c.wp Tryz.prog (Dv Q) a w
def Lf(K:World->(Nat->Prop)->St->Prop)(Q:Exit->World->(Nat->Prop)->St->Prop):Exit->World->(Nat->Prop)->St->Prop
 | .normal,w,G,S=>K w G S
 |e,w,G,S=>Q e w G S
def yU(id:Nat)(Q:Exit->World->(Nat->Prop)->St->Prop):Exit->World->(Nat->Prop)->St->Prop
 | .exit id',w,G,S=>if id'=id then Q .normal w G S else Q (.exit id') w G S
 |e,w,G,S=>Q e w G S
section
variable {w1:World} {G1:Nat->Prop} {Q:Exit->World->(Nat->Prop)->St->Prop} {S:St}
theorem BWP.of{c:Code}(h:AWP w1 (pln G1) c (fun e S=>Q e w1 G1 S) S):BWP c Q w1 G1 S:=fun a w f=>wp_mono (h a w f) fun _ _ _ ⟨S',d,b⟩=>⟨w1,G1,S',d,b⟩
theorem dj{x y:Code}(h:BWP x (Lf (BWP y Q) Q) w1 G1 S):BWP (.seq x y) Q w1 G1 S:=fun a w g=>wp_seq (wp_mono (h a w g) fun e d w' ⟨f,G2,S',b,c⟩=>by
 cases e with
 |normal=>exact b d w' c
 |_=>exact⟨f,G2,S',b,c⟩)
theorem ld(h:Q .normal w1 G1 S):BWP .skip Q w1 G1 S:=fun _ _ a=>wp_skip ⟨w1,G1,S,h,a⟩
theorem m8{id:Nat}(h:Q (.exit id) w1 G1 S):BWP (.exit id) Q w1 G1 S:=fun _ _ a=>wp_exit ⟨w1,G1,S,h,a⟩
theorem lf{c:Operand}{x y:Code}{b:Bool}(l:S.ev c=bT b)(j:b=true->BWP x Q w1 G1 S)(k:b=false->BWP y Q w1 G1 S):BWP (.cond c x y) Q w1 G1 S:=fun a w e=>by
 have i:a.eval c=.bool b:=by
  obtain⟨bx,rv,n,o,m,d⟩:=e;rw[xh];have:FT (en w (pln G1) bx rv S.rs) [dm (fun s=>a.tmps.getD s undef) c] [S.ev c]:=by
   cases c with
   |tmp s=>exact d s
   |const v=>exact .pure (.sc v .nil) .nil
   |global g=>exact .pure (.sc _ .nil) .nil
   |func f=>exact .pure (.sc _ .nil) .nil
  rw[l]at this;exact this.isSc
 exact wp_cond_split i (fun h=>j h a w e) (fun h=>k h a w e)
theorem vE{id:Nat}{c:Code}(h:BWP c (yU id Q) w1 G1 S):BWP (.block id c) Q w1 G1 S:=fun a w g=>wp_block (wp_mono (h a w g) fun e i w' ⟨d,G2,S',b,f⟩=>by
 cases e with
 |exit id'=>
  simp only[yU]at b;simp only[Exit.inBlock];split at b
  ·rw[if_pos (by assumption)];exact⟨d,G2,S',b,f⟩
  rw[if_neg (by assumption)];exact⟨d,G2,S',b,f⟩
 |_=>exact⟨d,G2,S',b,f⟩)
theorem m9{c:Code}(h:∀a w,Sim w1 (pln G1) S a w->∃b G2 d,Sim b (pln G2) d a w/\BWP c Q b G2 d):BWP c Q w1 G1 S:=fun a w f=>by
 obtain⟨b,G2,d,e,g⟩:=h a w f;exact g a w e
theorem pk{c:Code}{n:Nat}{sl:List (Nat×Tree)}{bs:List (TypeId×List Tree)}{rs:List (Option Row)}(l:List (Nat×Tree))(b:Keeps ⟨n,sl,bs,rs⟩ 0 0 l)(h:BWP c Q w1 G1 ⟨n,l,[],[]⟩):BWP c Q w1 G1 ⟨n,sl,bs,rs⟩:=fun a w d=>h a w (d.less 0 0 l b Z)
open Classical in
theorem yV{c:Code}(I:Nat->World->(Nat->Prop)->St->Prop)(n0:Nat)(h0:I n0 w1 G1 S)(round:∀n w1 G1 S,I n w1 G1 S->BWP c (Lf (fun w' G' S'=>∃m,m<n/\I m w' G' S') Q) w1 G1 S):BWP (.loop c) Q w1 G1 S:=fun a w hs=>by
 let p:Act->World->Nat->Prop:=fun a w n=>∃w1 G1 S,I n w1 G1 S/\Sim w1 (pln G1) S a w
 let μ:Act->World->Nat:=fun a w=>if h:∃n,p a w n then Classical.choose (gj (p a w) _ (Classical.choose_spec h))else 0
 have hμ:∀a w n,p a w n->p a w (μ a w)/\μ a w<=n:=fun a w n hn=>by
  have hex:∃n,p a w n:=⟨n,hn⟩
  have hsp:=Classical.choose_spec (gj (p a w) _ (Classical.choose_spec hex))
  have e:μ a w=Classical.choose (gj (p a w) _ (Classical.choose_spec hex)):=by simp only[μ];rw[dif_pos hex]
  rw[e]
  refine⟨hsp.1,?_⟩
  rcases OS n (Classical.choose (gj (p a w) _ (Classical.choose_spec hex)))with hlt|hge
  ·exact absurd hn (hsp.2 n hlt)
  ·exact hge
 refine wp_loop (fun a w=>∃n,p a w n) μ ⟨n0,w1,G1,S,h0,hs⟩ ?_
 rintro a w ⟨n,hn⟩
 obtain⟨⟨w2,G2,S',hI,hS⟩,_⟩:=hμ a w n hn
 refine wp_mono (round _ w2 G2 S' hI a w hS) ?_
 rintro e a' w' ⟨w3,G3,S'',h1,h2⟩
 cases e with
 |normal=>
  obtain⟨m,hm,hI'⟩:=h1
  have hp:p a' w' m:=⟨w3,G3,S'',hI',h2⟩
  exact⟨⟨m,hp⟩,PP (hμ a' w' m hp).2 hm⟩
 |_=>exact⟨w3,G3,S'',h1,h2⟩
def BOps(ops:Array Oper)(rest:List Oper)(Q:Exit->World->(Nat->Prop)->St->Prop)(w1:World)(G1:Nat->Prop)(S:St):Prop:=∀a w,Sim w1 (pln G1) S a w->wpList Tryz.prog ops (Dv Q) rest a w
variable {ops:Array Oper} {rest:List Oper} {o:Oper}
theorem fP{id:Nat}{ops:List Oper}(h:BOps ops.toArray ops Q w1 G1 S):BWP (.region id ops.toArray false) Q w1 G1 S:=fun a w b=>wp_region_list (by simpa using h a w b)
theorem iv(h:Q .normal w1 G1 S):BOps ops [] Q w1 G1 S:=fun _ _ a=>⟨w1,G1,S,h,a⟩
theorem JV(i:o.guard=none)(m:cC S.n o.dst=true){t:Tree}(h:OpOK o S t)(k:BOps ops rest Q w1 G1 (S.put o.dst t)):BOps ops (o::rest) Q w1 G1 S:=by
 rintro a w ⟨bx,rv,e,f,c,b⟩;refine eL (by simp[Region.wanted,i]) fun K g=>?_
 have j:=(h w1 (pln G1) bx rv w (fun s=>a.tmps.getD s undef) e fun s _=>b s).wp (Q:=Dv Q);refine Oper.wp_mono ?_ j;rintro p w' ⟨v,rfl,l,d⟩;refine g _ _ (k _ _ ⟨bx,rv,?_,by rw[dW,ee,f],by rw[cU,c],?_⟩)
 ·rw[dE,bZ];exact e.later d
 rw[bZ];exact iK f m (fun _ _ h=>h.later d) b l
theorem co{n d:Nat}{sl:List (Nat×Tree)}{bs:List (TypeId×List Tree)}{rs:List (Option Row)}{t:Tree}(c:o.guard=none)(a:o.dst=some d)(b:Nat.blt d n=true)(h:OpOK o ⟨n,sl,bs,rs⟩ t)(k:BOps ops rest Q w1 G1 ⟨n,(d,t)::sl,bs,rs⟩):BOps ops (o::rest) Q w1 G1 ⟨n,sl,bs,rs⟩:=by
 refine JV c ?_ h ?_
 ·rw[a];simpa[cC,Pn]using b
 rw[a];exact k
theorem fT(e:o.guard=none)(h:∀a w,Sim w1 (pln G1) S a w->OpRuns Tryz.prog o (fun s=>a.tmps.getD s undef) w (fun v w'=>∃b G2 c,Sim b (pln G2) c (a.put o.dst v) w'/\BOps ops rest Q b G2 c)):BOps ops (o::rest) Q w1 G1 S:=by
 intro a w g;refine eL (by simp[Region.wanted,e]) fun K d=>?_
 refine Oper.wp_mono ?_ ((h a w g).wp (Q:=Dv Q));rintro j w' ⟨v,rfl,b,G2,c,f,i⟩;exact d _ _ (i _ _ f)
end
theorem nd{w:World}{G:Nat->Prop}:(en w (pln G) [] [] []).W=w/\∀b,(en w (pln G) [] [] []).G b↔G b:=⟨Z,fun b=>by simp[en,GG,cl,pln]⟩
theorem PT.sub{w:World}{G G':Nat->Prop}{us:List Value}{ts:List Tree}(h:PT w G us ts)(a:∀b,¬G b->¬G' b):PT w G' us ts:=h.mono (Oh _) fun b _ c=>⟨Z,a b c⟩
theorem FT.gg{w:World}{G:Nat->Prop}{v:Value}{t:Tree}(h:PT w G [v] [t]):FT (en w (pln G) [] [] []) [v] [t]:=.of (h.sub fun b c a=>c ((nd.2 b).1 a))
theorem PT.gg{w:World}{G:Nat->Prop}{us:List Value}{ts:List Tree}(h:PT w (GG (pln G) [] [] []) us ts):PT w G us ts:=h.sub fun b c a=>c (((nd (w:=w)).2 b).2 a)
def Js(G:Nat->Prop)(w:World):Prop:=∀g,G g->g<w.heap.size/\NoDigB w g
theorem vF{w:World}{G:Nat->Prop}(a:Env w)(b:Js G w):Mem w (pln G) [] [] [] [] w:=
 ny a b
section
variable {w1 w w':World} {G1 G2:Nat->Prop} {n:Nat} {sl:List (Nat×Tree)} {a:Act}
theorem Sim.facts(h:Sim w1 (pln G1) ⟨n,sl,[],[]⟩ a w):Env w/\Js G1 w/\Below w1.heap.size w1 w/\a.tmps.size=n/\a.defers=[]/\∀i,FT (en w (pln G1) [] [] []) [a.tmps.getD i undef] [look sl i]:=by
 obtain⟨bx,rv,b,f,d,c⟩:=h;obtain rfl:bx=[]:=OB b.nb;obtain rfl:rv=[]:=OB b.nr;exact⟨b.env,fun g e=>b.ok g (.inl e),b.below.below,f,d,c⟩
theorem Sim.slot(h:Sim w1 (pln G1) ⟨n,sl,[],[]⟩ a w){i:Nat}{t:Tree}(c:look sl i=t)(d:t.plain=true):PT w G1 [a.tmps.getD i undef] [t]:=by
 have b:=h.facts.2.2.2.2.2 i;rw[c]at b;exact(b.plain d).gg
theorem Sim.lit(h:Sim w1 (pln G1) ⟨n,sl,[],[]⟩ a w){i:Nat}{v:Value}(c:look sl i=.sc v):a.tmps.getD i undef=v:=by
 have b:=h.facts.2.2.2.2.2 i;rw[c]at b;exact b.isSc
theorem Sim.mk(e:Env w)(b:Js G2 w)(f:a.tmps.size=n)(c:a.defers=[])(d:∀i,FT (en w (pln G2) [] [] []) [a.tmps.getD i undef] [look sl i]):Sim w (pln G2) ⟨n,sl,[],[]⟩ a w:=⟨[],[],vF e b,f,c,d⟩
theorem Sim.turn(h:Sim w1 (pln G1) ⟨n,sl,[],[]⟩ a w)(m:Env w')(c:Js G2 w')(d:w.heap.size<=w'.heap.size)(f:∀b,b<w.heap.size->¬G1 b->w'.heap[b]? =w.heap[b]? /\¬G2 b):Sim w' (pln G2) ⟨n,sl,[],[]⟩ a w':=by
 obtain⟨_,_,_,j,k,l⟩:=h.facts;refine Sim.mk m c j k fun i=>(l i).mono d (fun b e c=>?_) (fun _ _ h=>h) (fun _ _ h=>h)
 obtain⟨g,o⟩:=f b e fun h=>c ((nd.2 b).2 h)
 exact⟨g,fun h=>o ((nd.2 b).1 h)⟩
def SlotL(E:En)(T:Nat->Value):List (Nat×Tree)->Prop
 |[]=>True
 |(i,t)::l=>FT E [T i] [t]/\SlotL E T l
theorem SlotL.look{E:En}{T:Nat->Value}:∀{l:List (Nat×Tree)},SlotL E T l->∀i,FT E [T i] [Go.Proofs.YtfoejfohbkmmeaaGreatDoor.look l i]
 |[],_,i=>.any _ .nil
 |(j,t)::l,h,i=>by
  rw[dD];split
  ·next e=>subst e;exact h.1
  exact SlotL.look h.2 i
def UnbL(S:St)(cs:List Tree):List (Nat×Tree)->Prop
 |[]=>True
 |(i,t)::l=>((S.get i=t/\within 0 0 t=true)\/∃off,S.get i=.box 0 off/\t=.ref (cs.drop off))/\UnbL S cs l
theorem tf{S:St}{cs:List Tree}{E E':En}{T:Nat->Value}(a:∀i,FT E [T i] [S.get i])(b:∀v t,FT E [v] [t]->within 0 0 t=true->FT E' [v] [t])(c:∀v off,FT E [v] [.box 0 off]->FT E' [v] [.ref (cs.drop off)]):∀{l:List (Nat×Tree)},UnbL S cs l->∀i,FT E' [T i] [look l i]
 |[],_,i=>.any _ .nil
 |(j,t)::l,h,i=>by
  rw[dD];split
  ·next e=>
   subst e;rcases h.1 with⟨e,d⟩|⟨off,e,rfl⟩
   ·exact b _ _ (e▸a j) d
   exact c _ off (e▸a j)
  exact tf a b c h.2 i
theorem Sim.unbox{S:St}{ty:TypeId}{cs:List Tree}{l:List (Nat×Tree)}(h:Sim w1 (pln G1) S a w)(x:S.bs=[(ty,cs)])(I:S.rs=[])(L:cs.all Tree.plain0=true)(D:UnbL S cs l):Sim w (pln G1) ⟨S.n,l,[],[]⟩ a w/\Below w1.heap.size w1 w/\Env w1/\Js G1 w1/\Env w:=by
 obtain⟨bx,rv,c,F,s,q⟩:=h;have o:Js G1 w:=fun g i=>c.ok g (.inl i)
 refine⟨⟨[],[],vF c.env o,F,s,?_⟩,c.below.below,c.env0.env0,fun g i=>⟨(c.g0 g i).1,(c.g0 g i).2.1⟩,c.env⟩;have d:∀b,b<w.heap.size->¬GG (pln G1) bx rv S.rs b->w.heap[b]? =w.heap[b]? /\¬GG (pln G1) [] [] [] b:=fun b _ e=>⟨Z,fun h=>e (.inl (((nd (w:=w)).2 b).1 h))⟩
 refine tf (E':=en w (pln G1) [] [] []) q (fun v t p G=>FT.within (E:=en w (pln G1) bx rv S.rs) (E':=en w (pln G1) [] [] []) (m:=0) (k:=0) (Oh _) d (fun b g e=>absurd e (Q9 b)) (fun j v J=>absurd J (Q9 j)) p G) (fun v off p=>?_) D;obtain⟨g,us,z,rfl,f,H,_⟩:=mV c (by rw[x];rfl) p;have r:g∈cl bx rv S.rs:=aY.2 (.inl (Om z));have y:PT w G1 us cs:=(H.plain0s L).sub fun b e B=>e (.inl B)
 refine FT.gg (.ref g off (us.drop off) _ f.lt (fun K=>?_) (fun j u A=>?_) (y.drop off) .nil)
 ·have B:=(c.g0 g K).1;rcases c.ge g r with C|C
  ·omega
  exact C
 rw[f.cell];rw[PB]at A;simpa using A
theorem Sim.back{w0:World}{G0:Nat->Prop}{l:List (Nat×Tree)}(h:Sim w1 (pln G1) ⟨n,sl,[],[]⟩ a w)(q:Env w0)(o:Js G0 w0)(e:Below w0.heap.size w0 w)(p:SlotL (en w (pln G0) [] [] []) (fun i=>a.tmps.getD i undef) l):Sim w0 (pln G0) ⟨n,l,[],[]⟩ a w:=by
 obtain⟨_,_,_,r,f,_⟩:=h.facts;exact⟨[],[],⟨.of e,.pln q,fun g m=>⟨(o g m).1,(o g m).2,id⟩,Z,Z,fun i g d=>by simp at d,fun k v R c=>by simp at c,⟨List.nodup_nil,fun k v R b c=>by simp at c,fun j k u v X R b _ c=>by simp at c⟩,fun b e=>by simp[cl]at e,fun i d=>absurd d (Q9 i)⟩,r,f,fun i=>p.look i⟩
theorem go(h:Sim w' (pln G2) ⟨n,sl,[],[]⟩ a w'){d:Nat}{v:Value}{t:Tree}(g:d<n)(f:FT (en w' (pln G2) [] [] []) [v] [t]):Sim w' (pln G2) ⟨n,(d,t)::sl,[],[]⟩ (a.put (some d) v) w':=by
 obtain⟨k,e,_,c,b,j⟩:=h.facts;refine Sim.mk k e (by rw[dW];exact c) (by rw[cU];exact b) fun i=>?_
 rw[gf a (some d) v n c (by simpa[cC]using g)];simp only[OI,dD];split
 ·exact f
 exact j i
end
theorem yW{S:St}{o:Oper}{x:Operand}{t e:TypeId}{m n c:Nat}{A:Option Addr}(a:o.op=.call {callee:=.builtin .len,args:=#[x],argTypes:=#[t]})(f:gS Tryz.prog t=some (e,m))(b:S.ev x=.sc (.slice A n c)):OpOK o S (iT (n:Nat)):=by
 intro w0 G0 bx rv w T i h;have d:=(bH h b (by rw[a];simp[Op.operands,Call.operands])).isSc;obtain⟨g,_⟩:=kf f;refine aB (v:=.int .i64 (n:Nat)) (W':=w) ?_ ⟨.pure (.sc _ .nil) .nil,Below.refl _ _⟩;simp[execOp,a,resolve,invoke,builtin,Builtin.len_,d,run_underlying g,goInt]
theorem lg{S:St}{o:Oper}{x f:Operand}{t e:TypeId}{m n c b off j r:Nat}{k:IntKind}{i:Int}(a:o.op=.indexAddr t x f)(s:gS Tryz.prog t=some (e,m))(l:S.ev x=.sc (.slice (some ⟨b,off,none⟩) n c))(h:S.ev f=.sc (.int k i))(u:i=(j:Nat))(q:j<n)(d:off+j*m=r):OpOK o S (.sc (.pointer (some ⟨b,r,none⟩))):=by
 subst d u;intro w0 G0 bx rv w T z g;have p:=(bH g l (by rw[a];simp[Op.operands])).isSc;have y:=(bH g h (by rw[a];simp[Op.operands])).isSc;have d:=lK (P:=Tryz.prog) (w:=w) (b:=b) (o:=off) (n:=n) (c:=c) (k:=k) (i:=((j:Nat):Int)) s (by omega) (by omega);refine aB (v:=.pointer (some ⟨b,off+j*m,none⟩)) (W':=w) ?_ ⟨.pure (.sc _ .nil) .nil,Below.refl _ _⟩;simp[execOp,a,p,y,d]
theorem Dw{w0:World}{G0:Nat->Prop}{Q:Exit->St->Prop}{S:St}{c:Code}(h:BWP c (fun e w1 G1 S=>w1=w0/\G1=G0/\Q e S) w0 G0 S):AWP w0 (pln G0) c Q S:=fun a w f=>wp_mono (h a w f) fun _ _ _ ⟨_,_,S',⟨g,d,b⟩,i⟩=>⟨S',b,g▸d▸i⟩
theorem tg{w:World}{t e:TypeId}{z v:Value}(l:gS Tryz.prog t=some (e,1))(c:gJ Tryz.prog e=some [z])(o:v.oneCell'=true):(Instr.buildSlice t 1 #[(0,v)]).run Tryz.prog w=.ok (.slice (some ⟨w.heap.size,0,none⟩) 1 1) (w.alloc (.cells #[v] e)):=by
 obtain⟨m,i,b,p⟩:=kf l;unfold gJ at c;simp only[b,PC,Ps]at c;obtain⟨a,f,k⟩:=c;have g:a.cells=#[z]:=by apply Q6;simpa using k
 have h:v.cells=#[v]:=qE o;have d:(zeroValue e).run Tryz.prog w=.ok a w:=by simp[zeroValue,typeInfo,b,f]
 have j:(sizeOf e).run Tryz.prog w=.ok 1 w:=by simp[sizeOf,typeInfo,b,p]
 have n:Instr.fill (fun x=>some (x*1,1)) ((Array.range (1*1)).map fun x=>a.cells[x%a.cells.size]!) [(0,v)]=some #[v]:=by
  rw[g];simp only[Instr.fill,h];rw[if_neg (by simp),show Array.range (1*1)=#[0] by decide];simp
 simp only[Instr.buildSlice,Sem.run_bind,run_underlying m,Result.andThen_ok,j,gt_iff_lt];rw[if_neg (by decide),if_neg (by decide)];simp only[Sem.run_bind,d,Result.andThen_ok,Sem.run_pure,n,newRow,newObj];rfl
theorem kt{w:World}{o:Oper}{T:Nat->Value}{t e:TypeId}{s:Nat}{z:Value}(b:o.op=.buildSlice t 1 #[(0,.tmp s)])(a:gS Tryz.prog t=some (e,1))(c:gJ Tryz.prog e=some [z])(d:(T s).oneCell'=true):(execOp (dm T) o).run Tryz.prog w=.ok (.value (.slice (some ⟨w.heap.size,0,none⟩) 1 1)) (w.alloc (.cells #[T s] e)):=by
 have:=tg (w:=w) a c d;simp[execOp,b,dm,this]
theorem BG{w:World}{o:Oper}{T:Nat->Value}{f:FuncId}{b:Func}{d:Array TypeId}{p q s:Nat}(g:o.op=.call {callee:=.value (.func f),args:=#[.tmp p,.tmp q,.tmp s],argTypes:=d})(i:Tryz.prog.funcs[f]? =some b)(c:(b.name== "runtime.NumGoroutine")=false)(a:b.body.isNone=false):(execOp (dm T) o).run Tryz.prog w=.ok (.enter f #[T p,T q,T s]) w:=by
 have j:¬b.name= "runtime.NumGoroutine" :=by simpa using c
 have h:¬b.body=none:=fun e=>by rw[e]at a;cases a
 simp[execOp,g,resolve,dm,Deferred.ofValue,invoke,callFunc,i,j,h]
theorem th{w:World}{o:Oper}{T:Nat->Value}{t:TypeId}{s b off:Nat}{u:Value}(c:o.op=.load t (.tmp s))(e:T s=.pointer (some ⟨b,off,none⟩))(a:ja Tryz.prog t=true)(d:w.cell? ⟨b,off,none⟩=some u):(execOp (dm T) o).run Tryz.prog w=.ok (.value u) w:=by
 have:=jt (P:=Tryz.prog) a d;simp[execOp,c,dm,e,this]
section
variable {w1:World} {G1:Nat->Prop} {Q:Exit->World->(Nat->Prop)->St->Prop} {ops:Array Oper} {rest:List Oper} {o:Oper} {n d:Nat} {sl:List (Nat×Tree)}
theorem gp{t e:TypeId}{s:Nat}{z:Value}(m:o.op=.buildSlice t 1 #[(0,.tmp s)])(p:o.guard=none)(x:o.dst=some d)(A:Nat.blt d n=true)(u:gS Tryz.prog t=some (e,1))(q:gJ Tryz.prog e=some [z])(r:∀a w,Sim w1 (pln G1) ⟨n,sl,[],[]⟩ a w->(a.tmps.getD s undef).oneCell'=true)
  (k:∀a w,Sim w1 (pln G1) ⟨n,sl,[],[]⟩ a w->BOps ops rest Q (w.alloc (.cells #[a.tmps.getD s undef] e)) G1 ⟨n,(d,.sc (.slice (some ⟨w.heap.size,0,none⟩) 1 1))::sl,[],[]⟩):BOps ops (o::rest) Q w1 G1 ⟨n,sl,[],[]⟩:=by
 refine fT p fun a w f=>?_
 obtain⟨y,i,_⟩:=f.facts;have c:Below w.heap.size w (w.alloc (.cells #[a.tmps.getD s undef] e)):=(Below.refl _ _).alloc (Oh _) _;refine aB (v:=.slice (some ⟨w.heap.size,0,none⟩) 1 1) (W':=w.alloc (.cells #[a.tmps.getD s undef] e)) ?_ ⟨_,_,_,?_,k a w f⟩
 ·exact kt (T:=fun s=>a.tmps.getD s undef) m u q (r a w f)
 rw[x];exact go (f.turn (y.below c (Oh _)) (fun g h=>⟨Oz (i g h).1 c.size,(i g h).2.of (c.block g (i g h).1)⟩) c.size fun b j l=>⟨c.block b j,l⟩) (by simpa[Pn]using A) (.pure (.sc _ .nil) .nil)
theorem lX{t e:TypeId}{s:Nat}{z:Value}(p:o.op=.buildSlice t 1 #[(0,.tmp s)])(q:o.guard=none)(x:o.dst=some d)(A:Nat.blt d n=true)(u:gS Tryz.prog t=some (e,1))(r:gJ Tryz.prog e=some [z])(m:∀a w,Sim w1 (pln G1) ⟨n,sl,[],[]⟩ a w->(a.tmps.getD s undef).oneCell'=true/\bG (a.tmps.getD s undef)=true)
  (k:∀a w,Sim w1 (pln G1) ⟨n,sl,[],[]⟩ a w->BOps ops rest Q (w.alloc (.cells #[a.tmps.getD s undef] e)) (fun b=>G1 b\/b=w.heap.size) ⟨n,(d,.sc (.slice (some ⟨w.heap.size,0,none⟩) 1 1))::sl,[],[]⟩):BOps ops (o::rest) Q w1 G1 ⟨n,sl,[],[]⟩:=by
 refine fT q fun a w f=>?_
 obtain⟨y,i,_⟩:=f.facts;have c:Below w.heap.size w (w.alloc (.cells #[a.tmps.getD s undef] e)):=(Below.refl _ _).alloc (Oh _) _;refine aB (v:=.slice (some ⟨w.heap.size,0,none⟩) 1 1) (W':=w.alloc (.cells #[a.tmps.getD s undef] e)) ?_ ⟨_,_,_,?_,k a w f⟩
 ·exact kt (T:=fun s=>a.tmps.getD s undef) p u r (m a w f).1
 rw[x];refine go (f.turn (y.below c (Oh _)) (fun g h=>?_) c.size fun b j l=>⟨c.block b j,fun h=>h.elim l (by omega)⟩) (by simpa[Pn]using A) (.pure (.sc _ .nil) .nil);rcases h with h|rfl
 ·exact⟨Oz (i g h).1 c.size,(i g h).2.of (c.block g (i g h).1)⟩
 exact⟨by simp,cD (heap_alloc_new _ _) (by simpa using(m a w f).2)⟩
theorem lY{f:FuncId}{g:Func}{i:Array TypeId}{p q s:Nat}(l:o.op=.call {callee:=.value (.func f),args:=#[.tmp p,.tmp q,.tmp s],argTypes:=i})(m:o.guard=none)(t:o.dst=some d)(r:Tryz.prog.funcs[f]? =some g)(b:(g.name== "runtime.NumGoroutine")=false)(c:g.body.isNone=false)
  (h:∀a w,Sim w1 (pln G1) ⟨n,sl,[],[]⟩ a w->Calls Tryz.prog f #[a.tmps.getD p undef,a.tmps.getD q undef,a.tmps.getD s undef] w fun e w'=>∃v,e=.returned v/\∃j G2 k,Sim j (pln G2) k (a.put (some d) v) w'/\BOps ops rest Q j G2 k):BOps ops (o::rest) Q w1 G1 ⟨n,sl,[],[]⟩:=by
 refine fT m fun a w u=>?_
 rw[t];exact cP (f:=f) (args:=#[a.tmps.getD p undef,a.tmps.getD q undef,a.tmps.getD s undef]) (BG (T:=fun s=>a.tmps.getD s undef) l r b c) (h a w u)
theorem Sim.put1{a:Act}{w:World}{v:Value}{t:Tree}(h:Sim w1 (pln G1) ⟨n,sl,[],[]⟩ a w)(j:d<n)(g:FT (en w (pln G1) [] [] []) [v] [t]):Sim w1 (pln G1) ⟨n,(d,t)::sl,[],[]⟩ (a.put (some d) v) w:=by
 obtain⟨bx,rv,c,f,e,b⟩:=h;obtain rfl:bx=[]:=OB c.nb;obtain rfl:rv=[]:=OB c.nr;refine⟨[],[],c,by rw[dW];exact f,by rw[cU];exact e,fun i=>?_⟩;rw[gf a (some d) v n f (by simpa[cC]using j)];show FT _ _ [look ((d,t)::sl) i]
 simp only[OI,dD];split
 ·exact g
 exact b i
theorem ti{t:TypeId}{s b off:Nat}{u:Value}(g:o.op=.load t (.tmp s))(h:o.guard=none)(m:o.dst=some d)(r:Nat.blt d n=true)(q:look sl s=.sc (.pointer (some ⟨b,off,none⟩)))(j:ja Tryz.prog t=true)(i:b<w1.heap.size)(p:w1.cell? ⟨b,off,none⟩=some u)(k:BOps ops rest Q w1 G1 ⟨n,(d,.sc u)::sl,[],[]⟩):BOps ops (o::rest) Q w1 G1 ⟨n,sl,[],[]⟩:=by
 refine fT h fun a w c=>?_
 obtain⟨_,_,f,_⟩:=c.facts;have l:=c.lit q;have e:w.cell? ⟨b,off,none⟩=some u:=by rw[<-p];exact World.cell?_of_block (f.block b i)
 refine aB (v:=u) (W':=w) ?_ ⟨_,_,_,?_,k⟩
 ·exact th (T:=fun s=>a.tmps.getD s undef) g l j e
 rw[m];exact c.put1 (by simpa[Pn]using r) (.pure (.sc _ .nil) .nil)
theorem Sim.later{a:Act}{w w':World}(h:Sim w1 (pln G1) ⟨n,sl,[],[]⟩ a w)(d:Below w.heap.size w w'):Sim w1 (pln G1) ⟨n,sl,[],[]⟩ a w':=by
 obtain⟨bx,rv,e,f,c,b⟩:=h;exact⟨bx,rv,e.later d,f,c,fun i=>(b i).later d⟩
theorem BH{w:World}{o:Oper}{T:Nat->Value}{f g:FuncId}{b:Func}{d:Array TypeId}{p q:Nat}(h:o.op=.call {callee:=.value (.func f),args:=#[.tmp p,.tmp q,.func g],argTypes:=d})(j:Tryz.prog.funcs[f]? =some b)(c:(b.name== "runtime.NumGoroutine")=false)(a:b.body.isNone=false):(execOp (dm T) o).run Tryz.prog w=.ok (.enter f #[T p,T q,Jr g]) w:=by
 have k:¬b.name= "runtime.NumGoroutine" :=by simpa using c
 have i:¬b.body=none:=fun e=>by rw[e]at a;cases a
 simp[execOp,h,resolve,dm,Jr,Deferred.ofValue,invoke,callFunc,j,k,i]
theorem BI{f g:FuncId}{i:Func}{j:Array TypeId}{p q:Nat}{t:Tree}(r:o.op=.call {callee:=.value (.func f),args:=#[.tmp p,.tmp q,.func g],argTypes:=j})(u:o.guard=none)(A:o.dst=some d)(B:Nat.blt d n=true)(y:Tryz.prog.funcs[f]? =some i)(b:(i.name== "runtime.NumGoroutine")=false)(c:i.body.isNone=false)
  (h:∀a w,Sim w1 (pln G1) ⟨n,sl,[],[]⟩ a w->Calls Tryz.prog f #[a.tmps.getD p undef,a.tmps.getD q undef,Jr g] w fun e w'=>∃v,e=.returned v/\PT w' G1 [v] [t]/\Below w.heap.size w w') (k:BOps ops rest Q w1 G1 ⟨n,(d,t)::sl,[],[]⟩):BOps ops (o::rest) Q w1 G1 ⟨n,sl,[],[]⟩:=by
 refine fT u fun a w l=>?_
 rw[A];refine cP (f:=f) (args:=#[a.tmps.getD p undef,a.tmps.getD q undef,Jr g]) (BH (T:=fun s=>a.tmps.getD s undef) r y b c) ((h a w l).mono ?_);rintro e w' ⟨v,m,z,x⟩;exact⟨v,m,w1,G1,_,(l.later x).put1 (by simpa[Pn]using B) (FT.gg z),k⟩
theorem lh{w w':World}{o:Oper}{T:Nat->Value}{t:TypeId}{p q:Nat}{v x y:Value}(b:o.op=.call {callee:=.builtin .append,args:=#[.tmp p,.tmp q],argTypes:=#[t,t]})(d:T p=x)(c:T q=y)(a:(Builtin.append_ #[t,t] o.type #[x,y]).run Tryz.prog w=.ok v w'):(execOp (dm T) o).run Tryz.prog w=.ok (.value v) w':=by
 simp[execOp,b,resolve,dm,invoke,builtin,d,c,a]
theorem rq{w:World}{o:Oper}{T:Nat->Value}{ty:TypeId}{p q b off:Nat}{v y:Value}(h:o.op=.store ty (.tmp p) (.tmp q))(k:T p=.pointer (some ⟨b,off,none⟩))(s:T q=v)(f:(Tryz.prog.info? ty).map (·.size)=some 1)(g:v.oneCell'=true)(n:w.cell? ⟨b,off,none⟩=some y)(m:w.frozen? ⟨b,off,none⟩=false):(execOp (dm T) o).run Tryz.prog w=.ok .skip (w.setCell ⟨b,off,none⟩ v):=by
 have c:=run_storeCells_cells (P:=Tryz.prog) b off [v] 0 w (fun j e=>by
  have:j=0:=by simpa using e
  subst this;show(w.cell? ⟨b,off,none⟩).isSome=true
  rw[n];rfl) (fun j e=>by
  have:j=0:=by simpa using e
  subst this;exact m) (fun x l=>by rw[OG.1 l];exact g)
 have d:v.cells=#[v]:=qE g;cases a:Tryz.prog.info? ty with
 |none=>simp[a]at f
 |some i=>
  have r:i.size=1:=by simpa[a]using f
  simp[execOp,h,dm,k,s,Instr.storeAt,Instr.sureAddr,storeVar,sizeOf,typeInfo,a,r,d]at c⊢;simp[c,World.setCells]
end
def xG(acc:List Nat):List Edge->Nat->Nat
 |[],m=>m
 |e::l,m=>xG acc l (if Region.binds .any e then m|||((1<<<e.on)|||acc.getD e.on 0)else m)
def sf(acc:List Nat)(o:Oper):List Nat:=acc++[xG acc o.after.toList 0]
def rX(l:List Oper):List Nat:=l.foldl sf []
def tj(l:List Oper)(i j:Nat):Bool:=((rX l).getD i 0).testBit j
theorem rt(b:List Nat)(j:Nat):∀(es:List Edge) (m:Nat),(xG b es m).testBit j=true->m.testBit j=true\/∃e∈es,Region.binds .any e=true/\(e.on=j\/(b.getD e.on 0).testBit j=true)
 |[],m,h=>.inl h
 |e::l,m,h=>by
  rcases rt b j l _ h with a|⟨f,d,c,g⟩
  ·by_cases c:Region.binds .any e=true
   ·rw[if_pos c,Nat.testBit_or,Nat.testBit_or,Px,Px]at a;rcases a with a|a|a
    ·exact .inl a
    ·refine .inr ⟨e,by simp,c,.inl ?_⟩;rw[Nat.one_shiftLeft,Nat.testBit_two_pow]at a;simpa using a
    exact .inr ⟨e,by simp,c,.inr a⟩
   rw[if_neg c]at a;exact .inl a
  exact .inr ⟨f,by simp[d],c,g⟩
theorem vG(l:List Oper)(o:Oper):rX (l++[o])=sf (rX l) o:=by simp[rX]
theorem yX{C:List Oper->Prop}(b:C [])(a:∀l o,C l->C (l++[o]))(l:List Oper):C l:=by
 have h:∀m:List Oper,C m.reverse:=by
  intro m;induction m with
  |nil=>exact b
  |cons o m ih=>rw[R3];exact a _ _ ih
 simpa using h l.reverse
theorem yY(l:List Oper):(rX l).length=l.length:=by
 refine yX (C:=fun l=>(rX l).length=l.length) Z (fun l o a=>?_) l;show(rX (l++[o])).length=(l++[o]).length
 rw[vG,sf];simp[a]
theorem EA{ops:Array Oper}{L:Array Bool}(u:Closed ops L):∀(l:List Oper),(∀(k:Nat) (o:Oper),l[k]? =some o->ops[k]? =some o)->∀i j:Nat,((rX l).getD i 0).testBit j=true->L.getD i false=true->L.getD j false=true:=by
 refine fun l=>yX (C:=fun l=>(∀(k:Nat) (o:Oper),l[k]? =some o->ops[k]? =some o)->∀i j:Nat,((rX l).getD i 0).testBit j=true->L.getD i false=true->L.getD j false=true) ?_ (fun l o m=>?_) l
 ·intro _ i j h;simp[rX]at h
 intro g i j h c;have a:∀(k:Nat) (o:Oper),l[k]? =some o->ops[k]? =some o:=fun k s n=>g k s (by rw[OJ (Ok.1 n).1];exact n)
 rw[vG,sf]at h;by_cases f:i<(rX l).length
 ·rw[OE,OJ f,<-OE]at h;exact m a i j h c
 by_cases q:i=(rX l).length
 ·subst q;rw[OE,ON (Oh _)]at h;simp only[Pb,Pa,OW]at h;rw[yY]at c;have p:ops[l.length]? =some o:=g _ _ (by simp);rcases rt _ _ _ _ h with t|⟨e,v,r,d⟩
  ·simp at t
  have b:=u l.length o p c e (by simpa using v) r;rcases d with rfl|d
  ·exact b
  exact m a e.on j d b
 rw[OE,Pi (by simp;omega)]at h;simp at h
theorem Closed.anc{l:List Oper}{L:Array Bool}(b:Closed l.toArray L){i j:Nat}(h:tj l i j=true)(a:L.getD i false=true):L.getD j false=true:=
 EA b l (fun k o h=>by simpa using h) i j h a
def GP(B:Nat)(W W':World):Bool->Prop
 |true=>Below B W W'/\W.heap.size<=W'.heap.size
 |false=>Below W.heap.size W W'
def GQ(l:List Oper)(cons:List (Option Nat))(i j:Nat):Bool:=
 match cons.getD j none with
 |none=>true
 |some c=>c==i||tj l c i
def Lg(l:List Oper)(cons:List (Option Nat))(i j:Nat):Bool:=
 j==i||tj l j i||
 match cons.getD j none with
 |none=>false
 |some c=>c==i||tj l i c
inductive PureF:List (Value->World->Prop)->List Bool->Prop
 |nil:PureF [] []
 |eq {x:Value} {l:List (Value->World->Prop)} {p:List Bool} (h:PureF l p):PureF ((fun v _=>v=x)::l) (true::p)
 |any {f:Value->World->Prop} {l:List (Value->World->Prop)} {p:List Bool} (h:PureF l p):PureF (f::l) (false::p)
theorem PureF.get{l:List (Value->World->Prop)}{p:List Bool}(h:PureF l p):∀j v W W',p.getD j true=true->fx l j v W->fx l j v W':=by
 induction h with
 |nil=>intro j v W W' _ _;simp[fx]
 |eq h ih=>
  intro j v W W' b a;cases j with
  |zero=>exact a
  |succ j=>exact ih j v W W' (by simpa using b) a
 |any h ih=>
  intro j v W W' b a;cases j with
  |zero=>simp at b
  |succ j=>exact ih j v W W' (by simpa using b) a
structure MonoC (F:List (Value->World->Prop)) (cons:List (Option Nat)) (B:Nat) (w:World) (init:List Value) (L:Array Bool) (us:List Value) (W:World):Prop where
 len:us.length=init.length
 fact:∀j,L.getD j false=true->(∀c,cons.getD j none=some c->L.getD c false=false)->fx F j (us.getD j undef) W
 old:∀j,L.getD j false=false->us.getD j undef=init.getD j undef
 below:Below B w W
 size:B<=W.heap.size
structure GivenC (l:List Oper) (dsts:List (Option Nat)) (t:Array Value) (F:List (Value->World->Prop)) (cons:List (Option Nat)) (B:Nat) (w:World) (i:Nat) (T:Nat->Value) (W:World):Prop where
 keep:∀s,dsts.contains (some s)=false->T s=t.getD s undef
 fact:∀j s,(j !=i&&tj l i j&&GQ l cons i j&&dsts[j]? ==some (some s))=true->fx F j (T s) W
 old:∀j s,((j==i||tj l j i)&&dsts[j]? ==some (some s))=true->T s=t.getD s undef
 below:Below B w W
 size:B<=W.heap.size
def BJ(l:List Oper)(dsts:List (Option Nat))(F:List (Value->World->Prop))(cons:List (Option Nat))(i:Nat):Option (Nat×Bool)->Prop
 |none=>True
 |some (j,b)=>∃s,(j !=i&&tj l i j&&cons.getD j none==none&&dsts[j]? ==some (some s))=true/\∀v W,fx F j v W->v=.bool b
def MR(P:Program)(l:List Oper)(dsts:List (Option Nat))(t:Array Value)(F:List (Value->World->Prop))(cons:List (Option Nat))(ap:List Nat)(B:Nat)(w:World)(i:Nat)(o:Oper):Prop:=
 BJ l dsts F cons i o.guard/\∀(T:Nat->Value) (W:World),GivenC l dsts t F cons B w i T W->OpRuns P o T W fun v W'=>fx F i v W'/\GP B W W' (ap.contains i)
inductive StepsC (P:Program) (l:List Oper) (dsts:List (Option Nat)) (t:Array Value) (F:List (Value->World->Prop)) (cons:List (Option Nat)) (ap:List Nat) (B:Nat) (w:World):Nat->List Oper->Prop
 |nil {i:Nat}:StepsC P l dsts t F cons ap B w i []
 |cons' {i:Nat} {o:Oper} {r:List Oper} (h:MR P l dsts t F cons ap B w i o) (hs:StepsC P l dsts t F cons ap B w (i+1) r):StepsC P l dsts t F cons ap B w i (o::r)
section
variable {P:Program} {l:List Oper} {dsts:List (Option Nat)} {t:Array Value} {F:List (Value->World->Prop)} {cs:List (Option Nat)} {ap:List Nat} {B:Nat} {w:World}
end
def aE:List Nat->Nat
 |[]=>0
 |d::l=>d+4294967296*aE l
def Digs(l:List Nat):Prop:=∀d∈l,d<4294967296
def ru:Nat->Nat->List Nat
 |0,_=>[]
 |k+1,n=>if n=0 then []else(n%4294967296)::ru k (n/4294967296)
def az(n:Nat):List Nat:=ru n n
theorem pm:∀(k m n:Nat),n<=k->n<=m->ru k n=ru m n
 |0,m,n,hk,_=>by
  obtain rfl:n=0:=by omega
  cases m<;>simp[ru]
 |k+1,0,n,_,hm=>by
  obtain rfl:n=0:=by omega
  simp[ru]
 |k+1,m+1,n,hk,hm=>by
  simp only[ru];split
  ·rfl
  rw[pm k m (n/4294967296) (by omega) (by omega)]
theorem f4:az 0=[]:=rfl
theorem eO{n:Nat}(h:n≠0):az n=(n%4294967296)::az (n/4294967296):=by
 unfold az;obtain⟨k,rfl⟩:∃k,n=k+1:=⟨n-1,by omega⟩;rw[ru,if_neg h,pm k ((k+1)/4294967296) _ (by omega) (Oh _)]
theorem aS(n:Nat):aE (az n)=n:=by
 induction n using Nat.strongRecOn with
 |ind n ih=>
  by_cases h:n=0
  ·subst h;rfl
  rw[eO h,aE,ih (n/4294967296) (by omega)];omega
theorem cE(n:Nat):Digs (az n):=by
 induction n using Nat.strongRecOn with
 |ind n ih=>
  by_cases h:n=0
  ·subst h;intro d a;simp[f4]at a
  rw[eO h];intro d a;rcases OC.1 a with rfl|a
  ·omega
  exact ih (n/4294967296) (by omega) d a
theorem yZ{n:Nat}:az n=[]↔n=0:=by
 constructor
 ·intro h;have:=aS n;rw[h]at this;exact this.symm
 rintro rfl;rfl
theorem b6{n:Nat}:(az n).length=0↔n=0:=by rw[List.length_eq_zero_iff,yZ]
theorem xH:∀(l:List Nat),Digs l->(∀h:l≠ [],l.getLast h≠0)->l=az (aE l)
 |[],_,_=>rfl
 |d::l,hd,hl=>by
  have a:d<4294967296:=hd d (OR ..);cases l with
  |nil=>
   have g:d≠0:=hl (by simp);simp only[aE,QN,PI];rw[eO g,OY a,Qg a,f4]
  |cons c l=>
   have b:=xH (c::l) (fun x f=>hd x (OX _ f)) (fun h=>by have:=hl (by simp);rwa[List.getLast_cons h]at this);have i:aE (c::l)≠0:=fun e=>by rw[e,f4]at b;cases b
   generalize c::l=m at*;simp only[aE];rw[eO (by omega),show(d+4294967296*aE m)%4294967296=d by omega,show(d+4294967296*aE m)/4294967296=aE m by omega,<-b]
theorem fl:∀(a b:List Nat),aE (a++b)=aE a+4294967296^a.length*aE b
 |[],b=>by simp[aE]
 |d::a,b=>by
  have:=fl a b;simp only[PD,aE,this,Oi,OO,OU];rw[OF (4294967296^a.length) 4294967296,OL];omega
theorem oC:∀(l:List Nat),(∀d∈l,d=0)->aE l=0
 |[],_=>rfl
 |d::l,h=>by
  have b:=h d (OR ..);have a:=oC l (fun x c=>h x (OX _ c));simp[aE,b,a]
theorem vH(a:List Nat)(k:Nat)(p:k<=a.length)(n:Digs a)(l:∀(j:Nat) (o:j<a.length),k<=j->a[j]=0)(g:k=0\/∃h:k-1<a.length,a[k-1]≠0):a.take k=az (aE a):=by
 have e:aE a=aE (a.take k):=by
  rw[<-Pz k a,fl,oC (a.drop k),Pz]
  ·simp
  intro d b;obtain⟨j,o,rfl⟩:=Pv b;rw[Rg];exact l _ _ (by omega)
 rw[e];refine xH _ (fun d b=>n d (OV b)) fun h=>?_
 rcases g with rfl|⟨i,f⟩
 ·simp at h
 have m:k≠0:=fun e=>by subst e;simp at h
 rw[Sf];have c:(a.take k).length=k:=by rw[Ox];omega
 simp only[List.getElem_take,c];exact f
theorem cf:∀(l:List Nat),Digs l->aE l<4294967296^l.length
 |[],_=>by simp[aE]
 |d::l,h=>by
  have c:=h d (OR ..);have b:=cf l (fun x a=>h x (OX _ a));simp only[aE,Oi,OO];omega
theorem bk{n k:Nat}(h:n<4294967296^k):(az n).length<=k:=by
 induction k generalizing n with
 |zero=>
  obtain rfl:n=0:=by simpa using h
  simp[f4]
 |succ k ih=>
  by_cases a:n=0
  ·subst a;simp[f4]
  rw[eO a];rw[OO]at h;have:=ih (n:=n/4294967296) (by rw[Pr (by decide)];exact h);simp;omega
theorem bi{m n:Nat}(h:m<=n):(az m).length<=(az n).length:=by
 refine bk ?_;have:=cf (az n) (cE n);rw[aS]at this;omega
def cG(l:List Nat):List Value:=l.map fun(d:Nat)=>.int .u32 (d:Int)
theorem dG(l:List Nat):(cG l).length=l.length:=by simp[cG]
theorem od(a b:List Nat):cG (a++b)=cG a++cG b:=by simp[cG]
theorem tk(l:List Nat):∀u∈cG l,u.oneCell'=true:=by
 intro u a;simp only[cG,PX]at a;obtain⟨c,_,rfl⟩:=a;rfl
theorem tm:(Tryz.prog.info? 50).map (fun i=>(i.zero,i.size,i.bytes))=some (some (.int .u32 0),1,4):=by kernel_rfl
def OwnN(w:World)(base:Nat)(v:Value)(l:List Nat):Prop:=w.ownsRow base 50 1 v l.length (cG l)
theorem OwnN.nil(w:World)(base:Nat):OwnN w base (.slice none 0 0) []:=World.ownsRow_nil _ _ _ _
theorem OwnN.below{w w':World}{base:Nat}{v:Value}{l:List Nat}(h:OwnN w base v l)(a:Below w.heap.size w w'):OwnN w' base v l:=d6 h a
theorem tq(w:World)(base:Nat)(a:base<=w.heap.size):OwnN (w.alloc (.cells #[] 50)) base (.slice (some ⟨w.heap.size,0,none⟩) 0 0) []:=by
 have:=World.ownsRow_lit (base:=base) (e:=50) (size:=1) w #[] 0 a (by simp[maxLen]) (by simp);exact this
structure IsN (W:World) (A:Option Addr) (c:Nat) (l:List Nat):Prop where
 at_:At W W.heap.size A (cG l)
 nil:A=none->l.length=0/\c=0
 cap:l.length<=c
 max:c<=9223372036854775807
 ok:Digs l
theorem IsN.below{W W':World}{A:Option Addr}{c:Nat}{l:List Nat}(h:IsN W A c l)(a:Below W.heap.size W W'):IsN W' A c l:=⟨(h.at_.below a).more a.size,h.nil,h.cap,h.max,h.ok⟩
theorem OwnN.is{w:World}{base:Nat}{v:Value}{l:List Nat}(h:OwnN w base v l)(d:Digs l):∃A c,v=.slice A l.length c/\IsN w A c l:=by
 rcases h.2 with⟨rfl,a⟩|⟨g,b,cur,rfl,j,i,a,f,m,k⟩
 ·exact⟨none,0,by rw[a],by
   have:l=[]:=OB a;subst this;exact At.nil _ _ _,fun _=>⟨a,Z⟩,by omega,by omega,d⟩
 exact⟨_,b,Z,Eg h,fun e=>(by cases e),a,by unfold maxLen at f;omega,d⟩
theorem IsN.digit{W:World}{A:Option Addr}{c i:Nat}{l:List Nat}(h:IsN W A c l)(g:i<l.length):
  ∃b off,A=some ⟨b,off,none⟩/\b<W.heap.size/\∀(j:Nat) (a:j<l.length),W.cell? ⟨b,off+j,none⟩=some (.int .u32 ((l[j]:Nat):Int)):=by
 obtain⟨b,off,e,f,d⟩:=h.at_ (by rw[dG];omega);exact⟨b,off,e,f,fun j a=>d j _ (by simp[cG,Og a])⟩
theorem At.takeN{w:World}{B:Nat}{A:Option Addr}{l:List Nat}(h:At w B A (cG l))(m:Nat):At w B A (cG (l.take m)):=fun f=>by
 rw[dG,Ox]at f;obtain⟨b,off,e,d,c⟩:=h (by rw[dG];omega);refine⟨b,off,e,d,fun j u a=>c j u ?_⟩;simp only[cG,Q4]at a⊢;rw[Ph]at a;split at a
 ·exact a
 cases a
theorem tr{ops:Array Oper}{b:List Oper}{o:Oper}{a:Act}{Q:Exit->Act->World->Prop}{w:World}(base:Nat)(v:Value)(l m:List Nat)(A:Option Addr)(c:Nat)
  (s x:Operand) (p:o.op=.call {callee:=.builtin .append,args:=#[s,x],argTypes:=#[63,63]}) (z:Region.wanted o (yielded ops a.tmps)=true)
  (t:a.eval s=v) (q:a.eval x=.slice A m.length c) (e:OwnN w base v l) (n:At w w.heap.size A (cG m)) (f:A=none->m.length=0/\c=0) (B:l.length+m.length<=1073741824) (d:base<=w.heap.size)
  (h:∀v' w',OwnN w' base v' (l++m)->Grew w w' base v v'->wpList Tryz.prog ops Q b (a.put o.dst v') w'):wpList Tryz.prog ops Q (o::b) a w:=by
 obtain⟨u,j,g,k,i⟩:=info_parts tm;refine JB s x _ 50 u (.int .u32 0) 1 4 p z Tryz.underlying63 j g k i Z (by decide) base v l.length (cG l) t e A m.length c (cG m) q n (by rw[dG];omega) f (tk _) (by simp only[maxLen];omega) (by omega) d ?_;intro v' w' y r;refine h v' w' ?_ r;unfold OwnN;rw[od,Oj];exact y
theorem gO{ops:Array Oper}{e:List Oper}{o:Oper}{a:Act}{Q:Exit->Act->World->Prop}{w:World}(base:Nat)(v:Value)(l:List Nat)(c:Int)(d:Nat)
  (s x:Operand) (m:o.guard=none) (r:o.op=.call {callee:=.builtin .append,args:=#[s,x],argTypes:=#[63,63]})
  (y:a.eval s=v) (t:a.eval x=.slice (some ⟨w.heap.size,0,none⟩) 1 1) (b:OwnN w base v l) (u:c=d) (A:l.length<=1073741823) (g:base<=w.heap.size)
  (h:∀v' w',OwnN w' base v' (l++[d])->Grew w w' base v v'->wpList Tryz.prog ops Q e (a.put o.dst v') w'):
  wpList Tryz.prog ops Q (o::e) a (w.alloc (.cells #[.int .u32 c] 50)):=by
 obtain⟨z,q,i,n,j⟩:=info_parts tm;refine wpList_append_own_at _ m s x _ r base 50 z (.int .u32 0) 1 4 Tryz.underlying63 q i n j Z (by decide) v l.length (cG l) y (World.ownsRow.alloc b _)
  ⟨w.heap.size,0,none⟩ 1 1 [.int .u32 c] t Z (cell_one_new _ _ _) (by simp[Value.oneCell']) (by simp only[maxLen];omega) (by omega) (by simp;omega) ?_
 intro v' w' f k _ p;refine h v' w' ?_ (sK b ⟨_,.inl Z⟩ k p g);subst u;unfold OwnN;rw[od];simpa[cG]using f
def NatPost(n:Nat)(w:World)(e:Ending)(w':World):Prop:=∃v,e=.returned v/\OwnN w' w.heap.size v (az n)/\Below w.heap.size w w'
theorem NatPost.open_{n:Nat}{w:World}{e:Ending}{w':World}(h:NatPost n w e w'):∃A c,e=.returned (.slice A (az n).length c)/\IsN w' A c (az n)/\Below w.heap.size w w':=by
 obtain⟨v,a,b,f⟩:=h;obtain⟨A,c,rfl,d⟩:=b.is (cE n);exact⟨A,c,a,d,f⟩
theorem ep(A:Option Addr)(c:Nat)(l:List Nat)(w:World)(h:IsN w A c l)(X:l.length<=1073741823):
  Calls Tryz.prog 168 #[.slice A l.length c] w (NatPost (aE l) w):=by
 have D:=J h;have L:=h.cap;have O:=h.max;clear h
 go_enter Tryz.func168,Tryz.ntmps168
 go_wp2
 go_loop [3] (fun i=>∃k:Nat,k<=l.length/\i=.int .i64 k/\(∀(j:Nat) (H:j<l.length),k<=j->l[j]=0)) (fun i=>(intOf i).toNat)
 case atStart=>exact⟨l.length,Oh _,Z,fun j H h=>by omega⟩
 case round=>
  obtain⟨k,T,rfl,R⟩:=hrel;have N:=J R;clear R;have t:(k=0\/∃h:k-1<l.length,l[k-1]≠0)->l.take k=az (aE l):=fun I=>vH l k T D.out.ok N.out I
  have Q:=J t;clear t;by_cases h0:0<k
  ·obtain⟨b,off,rfl,Y,S⟩:=D.out.digit (i:=k-1) (by omega);have K:=S (k-1) (by omega);have F:=J (show∃h:k-1<l.length,l[k-1]=l[k-1]from⟨by omega,Z⟩);obtain⟨d,G⟩:∃d,l[k-1]'(by omega)=d:=⟨_,rfl⟩;rw[G]at K;have P:=J G;clear S G F;by_cases x:d=0
   ·subst x
    go_wp2
    go_round
    case rel=>
     refine⟨k-1,by omega,by go_num,fun j H h=>?_⟩;by_cases e:j=k-1
     ·subst e;exact P.out
     exact N.out j H (by omega)
    case measure=>simp[intOf];omega
   have B:=J (Q.out (.inr ⟨by omega,by rw[P.out];exact x⟩));have V:((d:Int)==0)=false:=by simpa using x
   have n:(az (aE l)).length=k:=by rw[<-B.out,Ox];omega
   have q:=J (D.out.at_.takeN k);rw[B.out]at q;have m:=J n;clear n;obtain⟨W,v,p,_,y⟩:=xe w 50 #[];have z:=J (tq w w.heap.size (Oh _));rw[v]at z;have E:=J v;have u:=J p;have o:=p.size;clear v p y
   go_wp2_with (at_builtin;rw[E.out];refine tr w.heap.size _ [] (az (aE l)) (some ⟨b,off,none⟩) c (.tmp 18) (.tmp 21) rfl rfl rfl (by rw[m.out];rfl) z.out ((q.out.below u.out).more o) (fun h=>by cases h) (by have:=m.out;simp only[Ou];omega) o ?_;intro C M f g;have s:=J f;have r:=J g;clear f g)
   go_ret
   exact⟨C,Z,by simpa using s.out,u.out.trans r.out.below⟩
  obtain rfl:k=0:=by omega
  have B:=J (Q.out (.inl Z));have n:(az (aE l)).length=0:=by rw[<-B.out,Ox];omega
  have q:=J (D.out.at_.takeN 0);rw[B.out]at q;have m:=J n;clear n;obtain⟨W,v,p,_,y⟩:=xe w 50 #[];have z:=J (tq w w.heap.size (Oh _));rw[v]at z;have E:=J v;have u:=J p;have o:=p.size;clear v p y;cases A with
  |none=>
   obtain⟨U,rfl⟩:=D.out.nil rfl
   go_wp2_with (at_builtin;rw[E.out];refine tr w.heap.size _ [] (az (aE l)) none 0 (.tmp 18) (.tmp 21) rfl rfl rfl (by rw[m.out];rfl) z.out ((q.out.below u.out).more o) (fun _=>⟨m.out,rfl⟩) (by have:=m.out;simp only[Ou];omega) o ?_;intro C M f g;have s:=J f;have r:=J g;clear f g)
   go_ret
   exact⟨C,Z,by simpa using s.out,u.out.trans r.out.below⟩
  |some a=>
   go_wp2_with (at_builtin;rw[E.out];refine tr w.heap.size _ [] (az (aE l)) (some a) c (.tmp 18) (.tmp 21) rfl rfl rfl (by rw[m.out];rfl) z.out ((q.out.below u.out).more o) (fun h=>by cases h) (by have:=m.out;simp only[Ou];omega) o ?_;intro C M f g;have s:=J f;have r:=J g;clear f g)
   go_ret
   exact⟨C,Z,by simpa using s.out,u.out.trans r.out.below⟩
end Go.Proofs.YtfoejfohbkmmeaaGreatDoor
