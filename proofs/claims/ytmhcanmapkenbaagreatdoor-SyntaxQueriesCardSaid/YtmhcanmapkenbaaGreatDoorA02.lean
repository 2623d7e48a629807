import Derived.Test.YtmhcanmapkenbaaGreatDoorA01
import Derived.Deep.AppendLies
import Derived.Laws.AppendOwnNone
set_option linter.defProp false
open Go.Proofs.Tryz
namespace Go.Proofs.YtmhcanmapkenbaaGreatDoor
open Go.RowKit
open Lib renaming hid→J
inductive Tree where
 |any
 |sc (v:Value)
 |sl (es:List Tree)
 |tl (es:List Tree)
 |agg (cs:List Tree)
 |tup (ts:List Tree)
 |ref (cs:List Tree)
 |box (b off:Nat)
 |own (k:Nat)
 |elp (k off:Nat)
def Tree.cells:Tree->List Tree
 | .agg cs=>cs
 |t=>[t]
def flat(es:List Tree):List Tree:=es.flatMap Tree.cells
def lT(e:Tree)(es:List Tree):flat (e::es)=e.cells++flat es:=rfl
def xm(a b:List Tree):flat (a++b)=flat a++flat b:=by simp[flat]
def Sized(n:Nat)(es:List Tree):Prop:=∀e∈es,e.cells.length=n
def Sized.tail{n:Nat}{e:Tree}{es:List Tree}(h:Sized n (e::es)):Sized n es:=λx a=>h x (QA _ a)
def Sized.flat{n:Nat}:∀{es:List Tree},Sized n es->(flat es).length=es.length*n
 |[],_=>by simp[Go.Proofs.YtmhcanmapkenbaaGreatDoor.flat]
 |e::es,h=>by rw[lT,QJ,h e (Qs ..),Sized.flat h.tail,Qn,Rp];omega
def Sized.append{n:Nat}{a b:List Tree}(h:Sized n a)(d:Sized n b):Sized n (a++b):=λx e=>by
 rcases Q6.1 e with c|c
 ·exact h x c
 exact d x c
def Sized.map{n:Nat}{α:Type}(f:α->Tree)(l:List α)(h:∀a,(f a).cells.length=n):Sized n (l.map f):=λx b=>by
 obtain⟨a,_,rfl⟩:=RH.1 b;exact h a
def uc{n:Nat}:∀{es:List Tree},Sized n es->∀k,flat (es.drop k)=(flat es).drop (k*n)
 |[],_,k=>by simp[flat]
 |e::es,hs,0=>F
 |e::es,hs,k+1=>by
  have a:e.cells.length=n:=hs e (Qs ..);rw[S7,lT,uc hs.tail k,List.drop_append,a];rw[Q1 (l:=e.cells) (by rw[a,Rp];omega),show(k+1)*n-n=k*n by rw[Rp];omega,Rv]
inductive PT (W:World) (G:Nat->Prop):List Value->List Tree->Prop
 |nil:PT W G [] []
 |sc {us:List Value} {ts:List Tree} (v:Value) (h:PT W G us ts):PT W G (v::us) (.sc v::ts)
 |sl0 {us:List Value} {ts:List Tree} (A:Option Addr) (c:Nat) (hA:A=none->c=0) (hm:c<=9223372036854775807) (h:PT W G us ts):PT W G (.slice A 0 c::us) (.sl []::ts)
 |sl {us:List Value} {ts:List Tree} (b off c n:Nat) (xs:List Value) (es:List Tree) (hb:b<W.heap.size) (hG:¬G b) (hc:∀(j:Nat) u,xs[j]? =some u->W.cell? ⟨b,off+j,none⟩=some u) (hl:n=es.length) (hn:es.length<=c) (hm:c<=9223372036854775807) (hx:PT W G xs (flat es)) (h:PT W G us ts):PT W G (.slice (some ⟨b,off,none⟩) n c::us) (.sl es::ts)
 |tl {us:List Value} {ts:List Tree} (A:Option Addr) (n:Nat) (es:List Tree) (hl:n=es.length) (hs:PT W G [.slice A n n] [.sl es]) (h:PT W G us ts):PT W G (.slice A n n::us) (.tl es::ts)
 |agg {us:List Value} {ts:List Tree} (xs:List Value) (cs:List Tree) (hx:PT W G xs cs) (h:PT W G us ts):PT W G (.agg xs.toArray::us) (.agg cs::ts)
 |tup {us:List Value} {ts:List Tree} (xs:List Value) (cs:List Tree) (hx:PT W G xs cs) (h:PT W G us ts):PT W G (.tuple xs.toArray::us) (.tup cs::ts)
 |ref {us:List Value} {ts:List Tree} (b off:Nat) (xs:List Value) (cs:List Tree) (hb:b<W.heap.size) (hG:¬G b) (hc:∀(j:Nat) u,xs[j]? =some u->W.cell? ⟨b,off+j,none⟩=some u) (hx:PT W G xs cs) (h:PT W G us ts):PT W G (.pointer (some ⟨b,off,none⟩)::us) (.ref cs::ts)
section
variable {W W':World} {G G':Nat->Prop} {us:List Value} {ts:List Tree}
def PT.mono(h:PT W G us ts)(e:W.heap.size<=W'.heap.size)(a:∀b,b<W.heap.size->¬G b->W'.heap[b]? =W.heap[b]? /\¬G' b):PT W' G' us ts:=by
 induction h with
 |nil=>exact .nil
 |sc v _ ih=>exact .sc v ih
 |sl0 A c hA hm _ ih=>exact .sl0 A c hA hm ih
 |sl b off c n xs es hb hG hc hl hn hm _ _ ih1 ih2=>exact .sl b off c n xs es O (a b hb hG).2 (λj u d=>by rw[<-hc j u d];exact World.cell?_of_block (a b hb hG).1) hl hn hm ih1 ih2
 |tl A n es hl _ _ ih1 ih2=>exact .tl A n es hl ih1 ih2
 |agg xs cs _ _ ih1 ih2=>exact .agg xs cs ih1 ih2
 |tup xs cs _ _ ih1 ih2=>exact .tup xs cs ih1 ih2
 |ref b off xs cs hb hG hc _ _ ih1 ih2=>exact .ref b off xs cs O (a b hb hG).2 (λj u d=>by rw[<-hc j u d];exact World.cell?_of_block (a b hb hG).1) ih1 ih2
def PT.later(h:PT W G us ts)(c:Below W.heap.size W W'):PT W' G us ts:=h.mono c.size λb a d=>⟨c.block b a,d⟩
def PT.length(h:PT W G us ts):us.length=ts.length:=by induction h<;>simp_all
def PT.head{u:Value}{t:Tree}(h:PT W G (u::us) (t::ts)):PT W G [u] [t]:=by
 cases h with
 |sc=>exact .sc _ .nil
 |sl0 A c hA hm _=>exact .sl0 A c hA hm .nil
 |sl b off c n xs es hb hG hc hl hn hm hx _=>exact .sl b off c n xs es hb hG hc hl hn hm hx .nil
 |tl A n es hl hs _=>exact .tl A n es hl hs .nil
 |agg xs cs hx _=>exact .agg xs cs hx .nil
 |tup xs cs hx _=>exact .tup xs cs hx .nil
 |ref b off xs cs hb hG hc hx _=>exact .ref b off xs cs hb hG hc hx .nil
def PT.tail{u:Value}{t:Tree}(h:PT W G (u::us) (t::ts)):PT W G us ts:=by
 cases h<;>assumption
def PT.cons{u:Value}{t:Tree}(h:PT W G [u] [t])(a:PT W G us ts):PT W G (u::us) (t::ts):=by
 cases h with
 |sc=>exact .sc _ a
 |sl0 A c hA hm _=>exact .sl0 A c hA hm a
 |sl b off c n xs es hb hG hc hl hn hm hx _=>exact .sl b off c n xs es hb hG hc hl hn hm hx a
 |tl A n es hl hs _=>exact .tl A n es hl hs a
 |agg xs cs hx _=>exact .agg xs cs hx a
 |tup xs cs hx _=>exact .tup xs cs hx a
 |ref b off xs cs hb hG hc hx _=>exact .ref b off xs cs hb hG hc hx a
end
def PT.append{W:World}{G:Nat->Prop}:∀{us vs:List Value} {ts a:List Tree},PT W G us ts->PT W G vs a->PT W G (us++vs) (ts++a)
 |[],_,[],_,_,h'=>h'
 |[],_,t::ts,_,h,_=>by cases h
 |u::us,_,[],_,h,_=>by cases h
 |u::us,_,t::ts,_,h,h'=>h.head.cons (PT.append h.tail h')
def PT.take{W:World}{G:Nat->Prop}:∀{us:List Value} {ts:List Tree} (k:Nat),PT W G us ts->PT W G (us.take k) (ts.take k)
 |[],[],k,_=>by simpa using .nil
 |[],t::ts,_,h=>by cases h
 |u::us,[],_,h=>by cases h
 |u::us,t::ts,0,_=>.nil
 |u::us,t::ts,k+1,h=>h.head.cons (PT.take k h.tail)
def PT.drop{W:World}{G:Nat->Prop}:∀{us:List Value} {ts:List Tree} (k:Nat),PT W G us ts->PT W G (us.drop k) (ts.drop k)
 |[],[],k,_=>by simpa using .nil
 |[],t::ts,_,h=>by cases h
 |u::us,[],_,h=>by cases h
 |u::us,t::ts,0,h=>h
 |u::us,t::ts,k+1,h=>PT.drop k h.tail
def PT.get{W:World}{G:Nat->Prop}:∀{us:List Value} {ts:List Tree},PT W G us ts->∀(i:Nat) (t:Tree),ts[i]? =some t->∃u,us[i]? =some u/\PT W G [u] [t]
 |[],[],_,i,t,h=>by simp at h
 |[],_::_,h,_,_,_=>by cases h
 |_::_,[],h,_,_,_=>by cases h
 |u::us,t::ts,h,0,s,e=>by
  simp only[QV,Qy]at e;subst e;exact⟨u,Z,h.head⟩
 |u::us,t::ts,h,i+1,s,e=>by
  obtain⟨v,a,b⟩:=h.tail.get i s (by simpa using e);exact⟨v,by simpa using a,b⟩
def PT.slice{W:World}{G:Nat->Prop}{v:Value}{es:List Tree}(h:PT W G [v] [.sl es]):∃A c,v=.slice A es.length c/\es.length<=c/\c<=9223372036854775807/\(A=none->c=0)/\(0<es.length->∃b off xs,A=some ⟨b,off,none⟩/\b<W.heap.size/\¬G b/\(∀(j:Nat) u,xs[j]? =some u->W.cell? ⟨b,off+j,none⟩=some u)/\PT W G xs (flat es)):=by
 cases h with
 |sl0 A c hA hm _=>exact⟨A,c,Z,F,hm,hA,λh=>by simp at h⟩
 |sl b off c n xs es hb hG hc hl hn hm hx _=>subst hl;exact⟨_,c,Z,hn,hm,(λe=>by cases e),λ_=>⟨b,off,xs,Z,hb,hG,hc,hx⟩⟩
structure En where
 W:World
 G:Nat->Prop
 bx:Nat->Option Nat
 rv:Nat->Option Value
inductive FT (E:En):List Value->List Tree->Prop
 |nil:FT E [] []
 |pure {us:List Value} {ts:List Tree} {v:Value} {t:Tree} (h:PT E.W E.G [v] [t]) (hs:FT E us ts):FT E (v::us) (t::ts)
 |any {us:List Value} {ts:List Tree} (v:Value) (hs:FT E us ts):FT E (v::us) (.any::ts)
 |box {us:List Value} {ts:List Tree} (b off g:Nat) (hb:E.bx b=some g) (hs:FT E us ts):FT E (.pointer (some ⟨g,off,none⟩)::us) (.box b off::ts)
 |own {us:List Value} {ts:List Tree} (k n c:Nat) (A:Option Addr) (hv:E.rv k=some (.slice A n c)) (hs:FT E us ts):FT E (.slice A n c::us) (.own k::ts)
 |elp {us:List Value} {ts:List Tree} (k off g n c:Nat) (hv:E.rv k=some (.slice (some ⟨g,0,none⟩) n c)) (hs:FT E us ts):FT E (.pointer (some ⟨g,off,none⟩)::us) (.elp k off::ts)
 |agg {us:List Value} {ts:List Tree} (xs:List Value) (cs:List Tree) (hx:FT E xs cs) (hs:FT E us ts):FT E (.agg xs.toArray::us) (.agg cs::ts)
 |tup {us:List Value} {ts:List Tree} (xs:List Value) (cs:List Tree) (hx:FT E xs cs) (hs:FT E us ts):FT E (.tuple xs.toArray::us) (.tup cs::ts)
section
variable {E E':En} {us:List Value} {ts:List Tree}
def FT.mono(h:FT E us ts)(f:E.W.heap.size<=E'.W.heap.size)(e:∀b,b<E.W.heap.size->¬E.G b->E'.W.heap[b]? =E.W.heap[b]? /\¬E'.G b)(d:∀b g,E.bx b=some g->E'.bx b=some g)(a:∀k v,E.rv k=some v->E'.rv k=some v):FT E' us ts:=by
 induction h with
 |nil=>exact .nil
 |pure h _ ih=>exact .pure (h.mono f e) ih
 |any v _ ih=>exact .any v ih
 |box b off g h _ ih=>exact .box b off g (d b g h) ih
 |own k n c A h _ ih=>exact .own k n c A (a k _ h) ih
 |elp k off g n c h _ ih=>exact .elp k off g n c (a k _ h) ih
 |agg xs cs _ _ ih1 ih2=>exact .agg xs cs ih1 ih2
 |tup xs cs _ _ ih1 ih2=>exact .tup xs cs ih1 ih2
def FT.length(h:FT E us ts):us.length=ts.length:=by induction h<;>simp_all
def FT.head{u:Value}{t:Tree}(h:FT E (u::us) (t::ts)):FT E [u] [t]:=by
 cases h with
 |pure h _=>exact .pure h .nil
 |any=>exact .any _ .nil
 |box b off g h _=>exact .box b off g h .nil
 |own k n c A h _=>exact .own k n c A h .nil
 |elp k off g n c h _=>exact .elp k off g n c h .nil
 |agg xs cs hx _=>exact .agg xs cs hx .nil
 |tup xs cs hx _=>exact .tup xs cs hx .nil
def FT.tail{u:Value}{t:Tree}(h:FT E (u::us) (t::ts)):FT E us ts:=by cases h<;>assumption
def FT.cons{u:Value}{t:Tree}(h:FT E [u] [t])(a:FT E us ts):FT E (u::us) (t::ts):=by
 cases h with
 |pure h _=>exact .pure h a
 |any=>exact .any _ a
 |box b off g h _=>exact .box b off g h a
 |own k n c A h _=>exact .own k n c A h a
 |elp k off g n c h _=>exact .elp k off g n c h a
 |agg xs cs hx _=>exact .agg xs cs hx a
 |tup xs cs hx _=>exact .tup xs cs hx a
end
def FT.of:∀{E:En} {us:List Value} {ts:List Tree},PT E.W E.G us ts->FT E us ts
 |_,[],[],_=>.nil
 |_,[],_::_,h=>by cases h
 |_,_::_,[],h=>by cases h
 |_,u::us,t::ts,h=>.pure h.head (FT.of h.tail)
def FT.get{E:En}:∀{us:List Value} {ts:List Tree},FT E us ts->∀(i:Nat) (t:Tree),ts[i]? =some t->∃u,us[i]? =some u/\FT E [u] [t]
 |[],[],_,i,t,h=>by simp at h
 |[],_::_,h,_,_,_=>by cases h
 |_::_,[],h,_,_,_=>by cases h
 |u::us,t::ts,h,0,s,e=>by
  simp only[QV,Qy]at e;subst e;exact⟨u,Z,h.head⟩
 |u::us,t::ts,h,i+1,s,e=>by
  obtain⟨v,a,b⟩:=h.tail.get i s (by simpa using e);exact⟨v,by simpa using a,b⟩
def FT.take{E:En}:∀{us:List Value} {ts:List Tree} (k:Nat),FT E us ts->FT E (us.take k) (ts.take k)
 |[],[],k,_=>by simpa using .nil
 |[],t::ts,_,h=>by cases h
 |u::us,[],_,h=>by cases h
 |u::us,t::ts,0,_=>.nil
 |u::us,t::ts,k+1,h=>h.head.cons (FT.take k h.tail)
def FT.drop{E:En}:∀{us:List Value} {ts:List Tree} (k:Nat),FT E us ts->FT E (us.drop k) (ts.drop k)
 |[],[],k,_=>by simpa using .nil
 |[],t::ts,_,h=>by cases h
 |u::us,[],_,h=>by cases h
 |u::us,t::ts,0,h=>h
 |u::us,t::ts,k+1,h=>FT.drop k h.tail
def FT.append{E:En}:∀{us vs:List Value} {ts a:List Tree},FT E us ts->FT E vs a->FT E (us++vs) (ts++a)
 |[],_,[],_,_,h'=>h'
 |[],_,t::ts,_,h,_=>by cases h
 |u::us,_,[],_,h,_=>by cases h
 |u::us,_,t::ts,_,h,h'=>h.head.cons (FT.append h.tail h')
section
variable {E:En} {v:Value}
def FT.isSc{x:Value}(h:FT E [v] [.sc x]):v=x:=by
 cases h with
 |pure h _=>cases h;rfl
def FT.isSl{es:List Tree}(h:FT E [v] [.sl es]):PT E.W E.G [v] [.sl es]:=by
 cases h with
 |pure h _=>exact h
def FT.isRef{cs:List Tree}(h:FT E [v] [.ref cs]):∃b off xs,v=.pointer (some ⟨b,off,none⟩)/\b<E.W.heap.size/\¬E.G b/\(∀(j:Nat) u,xs[j]? =some u->E.W.cell? ⟨b,off+j,none⟩=some u)/\PT E.W E.G xs cs:=by
 cases h with
 |pure h _=>
  cases h with
  |ref b off xs cs hb hG hc hx _=>exact⟨b,off,xs,Z,hb,hG,hc,hx⟩
def FT.isAgg{cs:List Tree}(h:FT E [v] [.agg cs]):∃xs,v=.agg xs.toArray/\FT E xs cs:=by
 cases h with
 |pure h _=>
  cases h with
  |agg xs cs hx _=>exact⟨xs,Z,.of hx⟩
 |agg xs cs hx _=>exact⟨xs,Z,hx⟩
def FT.isTup{cs:List Tree}(h:FT E [v] [.tup cs]):∃xs,v=.tuple xs.toArray/\FT E xs cs:=by
 cases h with
 |pure h _=>
  cases h with
  |tup xs cs hx _=>exact⟨xs,Z,.of hx⟩
 |tup xs cs hx _=>exact⟨xs,Z,hx⟩
def FT.isBox{b off:Nat}(h:FT E [v] [.box b off]):∃g,E.bx b=some g/\v=.pointer (some ⟨g,off,none⟩):=by
 cases h with
 |pure h _=>cases h
 |box b off g hb _=>exact⟨g,hb,Z⟩
def FT.isOwn{k:Nat}(h:FT E [v] [.own k]):E.rv k=some v/\∃A n c,v=.slice A n c:=by
 cases h with
 |pure h _=>cases h
 |own k n c A hv _=>exact⟨hv,A,n,c,Z⟩
def FT.isElp{k off:Nat}(h:FT E [v] [.elp k off]):∃g n c,E.rv k=some (.slice (some ⟨g,0,none⟩) n c)/\v=.pointer (some ⟨g,off,none⟩):=by
 cases h with
 |pure h _=>cases h
 |elp k off g n c hv _=>exact⟨g,n,c,hv,Z⟩
end
def Tree.plain0:Tree->Bool
 | .sc _| .sl _| .tl _| .ref _=>true
 |_=>false
def Tree.plain:Tree->Bool
 | .sc _| .sl _| .tl _| .ref _=>true
 | .agg cs=>cs.all Tree.plain0
 | .tup cs=>cs.all λt=>match t with
  | .agg ds=>ds.all Tree.plain0
  |t=>t.plain0
 |_=>false
def Tree.one:Tree->Bool
 | .sc v=>v.oneCell'
 | .sl _| .tl _| .ref _| .box _ _| .own _| .elp _ _=>true
 |_=>false
def FT.one{E:En}{v:Value}{t:Tree}(h:FT E [v] [t])(a:t.one=true):v.oneCell'=true:=by
 cases h with
 |pure h _=>
  cases h with
  |sc=>exact a
  |sl0=>rfl
  |sl=>rfl
  |tl=>rfl
  |agg=>simp[Tree.one]at a
  |tup=>simp[Tree.one]at a
  |ref=>rfl
 |any=>simp[Tree.one]at a
 |box=>rfl
 |own=>rfl
 |elp=>rfl
 |agg=>simp[Tree.one]at a
 |tup=>simp[Tree.one]at a
def FT.ones{E:En}:∀{us:List Value} {ts:List Tree},FT E us ts->ts.all Tree.one=true->∀u∈us,u.oneCell'=true
 |[],[],_,_,u,a=>by simp at a
 |[],_::_,h,_,_,_=>by cases h
 |_::_,[],h,_,_,_=>by cases h
 |x::us,t::ts,h,hp,u,a=>by
  simp only[Rc,Qh]at hp;rcases Qw.1 a with rfl|a
  ·exact h.head.one hp.1
  exact FT.ones h.tail hp.2 u a
def FT.plain0{E:En}{v:Value}{t:Tree}(h:FT E [v] [t])(a:t.plain0=true):PT E.W E.G [v] [t]:=by
 cases t<;>simp only[Tree.plain0,RM]at a<;>cases h<;>assumption
def FT.plain0s{E:En}:∀{us:List Value} {ts:List Tree},FT E us ts->ts.all Tree.plain0=true->PT E.W E.G us ts
 |[],[],_,_=>.nil
 |[],_::_,h,_=>by cases h
 |_::_,[],h,_=>by cases h
 |u::us,t::ts,h,hp=>by
  simp only[Rc,Qh]at hp;exact(h.head.plain0 hp.1).cons (FT.plain0s h.tail hp.2)
def FT.plain1{E:En}{v:Value}{cs:List Tree}(h:FT E [v] [.agg cs])(a:cs.all Tree.plain0=true):PT E.W E.G [v] [.agg cs]:=by
 obtain⟨xs,rfl,b⟩:=h.isAgg;exact .agg xs cs (b.plain0s a) .nil
def FT.plain{E:En}{v:Value}{t:Tree}(h:FT E [v] [t])(a:t.plain=true):PT E.W E.G [v] [t]:=by
 cases t with
 |sc _=>exact h.plain0 Z
 |sl _=>exact h.plain0 Z
 |tl _=>exact h.plain0 Z
 |ref _=>exact h.plain0 Z
 |agg cs=>exact h.plain1 a
 |tup cs=>
  obtain⟨xs,rfl,b⟩:=h.isTup;refine .tup xs cs ?_ .nil;clear h;simp only[Tree.plain]at a;induction cs generalizing xs with
  |nil=>cases b;exact .nil
  |cons c cs ih=>
   cases xs with
   |nil=>cases b
   |cons x xs=>
    simp only[Rc,Qh]at a;refine PT.cons ?_ (ih a.2 xs b.tail);have d:=b.head;cases c with
    |agg ds=>exact d.plain1 a.1
    |_=>exact d.plain0 a.1
 |_=>simp[Tree.plain]at a
def FT.plains{E:En}:∀{us:List Value} {ts:List Tree},FT E us ts->ts.all Tree.plain=true->PT E.W E.G us ts
 |[],[],_,_=>.nil
 |[],_::_,h,_=>by cases h
 |_::_,[],h,_=>by cases h
 |u::us,t::ts,h,hp=>by
  simp only[Rc,Qh]at hp;exact(h.head.plain hp.1).cons (FT.plains h.tail hp.2)
def lU{w w':World}{base:Nat}{e:TypeId}{size n:Nat}{v:Value}{xs:List Value}(h:w.ownsRow base e size v n xs)(a:Below w.heap.size w w'):w'.ownsRow base e size v n xs:=
 h.kept (row:=none) ⟨a.os,a.tape,a.output,a.size,λi b _=>a.block i b⟩ (by cases v.ownBlock<;>simp)
def PA(v:Value)(k:Nat):Prop:=v.ownBlock≠some k
structure Grew (w w':World) (base:Nat) (v v':Value):Prop where
 size:w.heap.size<=w'.heap.size
 kept:∀k,k<w.heap.size->PA v k->w'.heap[k]? =w.heap[k]?
 far:∀k,k<w.heap.size->PA v k->PA v' k
 below:Below base w w'
def ez{w w':World}{base:Nat}{e:TypeId}{size n g:Nat}{v:Value}{xs:List Value}(h:w.ownsRow base e size v n xs)(f:v.ownBlock≠some g)(j:∀k,k≠g->w'.heap[k]? =w.heap[k]?):w'.ownsRow base e size v n xs:=by
 refine⟨h.1,?_⟩;rcases h.2 with b|⟨a,cap,cur,rfl,d,i,c⟩
 ·exact .inl b
 refine .inr ⟨a,cap,cur,Z,d,?_,c⟩;rw[j a (λe=>f (by rw[e];rfl))];exact i
def xn{w c w':World}{base:Nat}{v v':Value}{e:TypeId}{size n:Nat}{xs:List Value}(d:w.ownsRow base e size v n xs)(j:∃o,c=w.alloc o\/c=w)(b:c.grownBy w' v.ownBlock)(g:v'.ownBlock=v.ownBlock\/v'.ownBlock=some c.heap.size)(a:base<=w.heap.size):Grew w w' base v v':=by
 have p:w.heap.size<=c.heap.size:=by rcases j with⟨o,rfl|rfl⟩<;>simp
 have i:∀k,k<w.heap.size->c.heap[k]? =w.heap[k]? :=λk i=>by
  rcases j with⟨o,rfl|rfl⟩
  ·exact Below.heap_alloc w o k i
  rfl
 have m:Below w.heap.size w c:=by
  rcases j with⟨o,rfl|rfl⟩
  ·exact(Below.refl _ _).alloc (Qi _) _
  exact Below.refl _ _
 refine⟨Qu p b.size,λk l f=>(b.block k O (λe=>f e.symm)).trans (i k l),λk l f e=>?_,(m.mono a).grown b O (λk e=>(d.lt k e).1)⟩;rcases g with h|h<;>rw[h]at e
 ·exact f e
 injection e with e;omega
def fK{P:Program}{ops:Array Oper}{b:List Oper}{o:Oper}{a:Act}{w:World}{Q:Exit->Act->World->Prop}(d:Region.wanted o (yielded ops a.tmps)=true)
  (h:∀K:Act->World->Prop,(∀c w',wpList P ops Q b c w'->K c w')->o.wp P a w K Q):wpList P ops Q (o::b) a w:=by
 unfold wpList;rw[if_pos d];exact .inl (h _ λ_ _ h=>h)
def At.news{w:World}{B:Nat}{a:Addr}{xs:List Value}(h:At w B (some a) xs):∀j u,xs[j]? =some u->w.cell? (a.add j)=some u:=λj u c=>by
 have f:0<xs.length:=by have:=(Qm.1 c).1;omega
 obtain⟨b,off,e,_,d⟩:=h f;injection e with e
 subst e;rw[show(⟨b,off,none⟩:Addr).add j=⟨b,off+j,none⟩from by unfold Addr.add;split<;>simp_all];exact d j u c
def I1{ops:Array Oper}{j:List Oper}{o:Oper}{a:Act}{Q:Exit->Act->World->Prop}{w:World}(s x:Operand)(t e:TypeId)(i:TypeInfo)(z:Value)(size b:Nat)
  (F:o.op=.call {callee:=.builtin .append,args:=#[s,x],argTypes:=#[t,t]}) (S:Region.wanted o (yielded ops a.tmps)=true)
  (H:prog.underlying t=some (.slice e)) (E:prog.info? e=some i) (T:i.zero=some z) (k:i.size=size) (y:i.bytes=b) (C:z.cells.size=size) (B:0<size)
  (base:Nat) (v:Value) (n:Nat) (xs:List Value) (G:a.eval s=v) (d:w.ownsRow base e size v n xs) (A:Option Addr) (m c:Nat) (news:List Value) (I:a.eval x=.slice A m c) (r:At w w.heap.size A news)
  (hl:news.length=m*size) (l:A=none->m=0/\c=0) (J:∀u∈news,u.oneCell'=true) (q:n+m<=maxLen) (g:(n+m)*b<=140737488355328) (f:base<=w.heap.size)
  (h:∀v' w',w'.ownsRow base e size v' (n+m) (xs++news)->Grew w w' base v v'->wpList prog ops Q j (a.put o.dst v') w'):wpList prog ops Q (o::j) a w:=by
 refine fK S λK D=>?_
 cases A with
 |none=>
  obtain⟨rfl,rfl⟩:=l Z;have O:news=[]:=QI (by simpa using hl);subst O;have p:=run_append_owned_none (P:=prog) (w:=w) base t o.type e i size H E v n xs d;unfold Oper.wp;simp only[execOp,F,resolve,invoke,builtin,Sem.run_bind,Sem.run_pure,Result.andThen_ok,R2,QM,Rq,G,I,p];exact D _ _ (h v w (by simpa using d) ⟨Qi _,λ_ _ _=>rfl,λ_ _ h=>h,Below.refl _ _⟩)
 |some ad=>
  obtain⟨v',w',R,L,M,_,N⟩:=run_append_own_at (P:=prog) w base t o.type e i z size b H E T k y C B v n xs d ad m c news hl r.news J q g f;unfold Oper.wp execOp;simp only[F,resolve,invoke,builtin,Sem.run_bind,Sem.run_pure,Result.andThen_ok,R2,QM,Rq,G,I,R];exact D _ _ (h v' w' L (xn d ⟨.cells #[] 0,.inr Z⟩ M N f))
structure Row where
 e:TypeId
 sz:Nat
 es:List Tree
 tt:Bool
structure St where
 n:Nat
 sl:List (Nat×Tree)
 bs:List (TypeId×List Tree)
 rs:List (Option Row)
def look:List (Nat×Tree)->Nat->Tree
 |[],_=>.any
 |(i,t)::l,j=>cond (Nat.beq i j) t (look l j)
def cK(i:Nat)(t:Tree)(l:List (Nat×Tree))(j:Nat):look ((i,t)::l) j=if i=j then t else look l j:=by
 simp only[look];by_cases h:i=j
 ·subst h;simp
 rw[if_neg h];have:Nat.beq i j=false:=by
  cases a:Nat.beq i j with
  |false=>rfl
  |true=>exact absurd (Ql a) h
 rw[this];rfl
def St.get(S:St)(i:Nat):Tree:=look S.sl i
def St.put(S:St)(d:Option Nat)(t:Tree):St:=
 match d with
 |some d=>{S with sl:=(d,t)::S.sl}
 |none=>S
def St.ev(S:St):Operand->Tree
 | .tmp s=>S.get s
 | .const v=>.sc v
 | .global g=>.sc (.pointer (some ⟨g,0,none⟩))
 | .func f=>.sc (.func (.func f) #[] #[])
def df(n:Nat):Option Nat->Bool
 |some d=>decide (d<n)
 |none=>true
def cj:Value->Bool
 | .int .u32 _=>false
 |_=>true
def NoDigB(w:World)(g:Nat):Prop:=∀i u,w.cell? ⟨g,i,none⟩=some u->cj u=true
def NoDigB.of{w w':World}{g:Nat}(h:NoDigB w g)(a:w'.heap[g]? =w.heap[g]?):NoDigB w' g:=λi u b=>h i u (by rw[<-b];exact(World.cell?_of_block a).symm)
def qY(v:Value):Prop:=∀A m c,v=.slice A m c->c=m
def bX(bx:List Nat)(rv:List Value)(rs:List (Option Row)):List Nat:=bx++(rv.zip rs).filterMap λp=>p.2.bind λ_=>p.1.ownBlock
structure Bse where
 G:Nat->Prop
 X:Nat->Prop
 pn:Nat
 P:Nat->Nat
def pln(G:Nat->Prop):Bse:=⟨G,λ_=>False,0,λ_=>0⟩
structure Kept (w0:World) (X:Nat->Prop) (w:World):Prop where
 os:w.os=w0.os
 tape:w.tape=w0.tape
 output:w.output=w0.output
 size:w0.heap.size<=w.heap.size
 block:∀k,k<w0.heap.size->¬X k->w.heap[k]? =w0.heap[k]?
def Kept.refl(w:World)(X:Nat->Prop):Kept w X w:=⟨Z,Z,Z,Qi _,λ_ _ _=>rfl⟩
def Kept.then{w0 w w':World}{X:Nat->Prop}(h:Kept w0 X w)(a:Below w.heap.size w w'):Kept w0 X w':=⟨a.os.trans h.os,a.tape.trans h.tape,a.output.trans h.output,Qu h.size a.size,λk b c=>(a.block k (QE b h.size)).trans (h.block k b c)⟩
def Kept.grown{w0 w w':World}{X:Nat->Prop}{row:Option Nat}(h:Kept w0 X w)(a:w.grownBy w' row)(f:∀k,row=some k->w0.heap.size<=k\/X k):Kept w0 X w':=⟨a.os.trans h.os,a.tape.trans h.tape,a.output.trans h.output,Qu h.size a.size,λk d c=>(a.block k (QE d h.size) (λe=>by rcases f k e.symm with b|b;(· omega);exact c b)).trans (h.block k d c)⟩
def Kept.below{w0 w:World}(h:Kept w0 (λ_=>False) w):Below w0.heap.size w0 w:=⟨h.os,h.tape,h.output,h.size,λk a=>h.block k a id⟩
def Kept.of{w0 w:World}{X:Nat->Prop}(h:Below w0.heap.size w0 w):Kept w0 X w:=⟨h.os,h.tape,h.output,h.size,λk a _=>h.block k a⟩
def EnvX(w0:World)(X:Nat->Prop):Prop:=∃wE,Env wE/\Below wE.heap.size wE w0/\∀b,X b->wE.heap.size<=b
def EnvX.pln{w:World}(h:Env w):EnvX w (λ_=>False):=⟨w,h,Below.refl _ _,λ_ h=>h.elim⟩
def EnvX.at{w0 w:World}{X:Nat->Prop}(h:EnvX w0 X)(d:Kept w0 X w):∃c,Env c/\Below c.heap.size c w/\c.heap.size<=w0.heap.size/\∀b,X b->c.heap.size<=b:=by
 obtain⟨c,g,a,f⟩:=h;exact⟨c,g,⟨d.os.trans a.os,d.tape.trans a.tape,d.output.trans a.output,Qu a.size d.size,λk e=>(d.block k (QE e a.size) λi=>by have:=f k i;omega).trans (a.block k e)⟩,a.size,f⟩
def EnvX.env{w0 w:World}{X:Nat->Prop}(h:EnvX w0 X)(c:Kept w0 X w):Env w:=by
 obtain⟨d,a,b,_⟩:=h.at c;exact a.below b (Qi _)
def EnvX.env0{w0:World}{X:Nat->Prop}(h:EnvX w0 X):Env w0:=h.env (Kept.refl _ _)
def GG(G0:Bse)(bx:List Nat)(rv:List Value)(rs:List (Option Row)):Nat->Prop:=λb=>G0.G b\/b∈bX bx rv rs
def dX(rv:List Value)(rs:List (Option Row))(k:Nat):Option Value:=((rs[k]?).bind id).bind λ_=>rv[k]?
def en(w:World)(G0:Bse)(bx:List Nat)(rv:List Value)(rs:List (Option Row)):En:=⟨w,GG G0 bx rv rs,λi=>bx[i]?,dX rv rs⟩
structure Apart (bx:List Nat) (rv:List Value) (rs:List (Option Row)):Prop where
 bb:bx.Nodup
 br:∀(k:Nat) (v:Value) (R:Row) (b:Nat),rv[k]? =some v->rs[k]? =some (some R)->v.ownBlock=some b->b∉bx
 rr:∀(j k:Nat) (u v:Value) (X R:Row) (b:Nat),j≠k->rv[j]? =some u->rs[j]? =some (some X)->rv[k]? =some v->rs[k]? =some (some R)->u.ownBlock=some b->v.ownBlock=some b->False
structure Mem (w0:World) (G0:Bse) (bs:List (TypeId×List Tree)) (rs:List (Option Row)) (bx:List Nat) (rv:List Value) (w:World):Prop where
 below:Kept w0 G0.X w
 env0:EnvX w0 G0.X
 g0:∀g,G0.G g->g<w0.heap.size/\NoDigB w0 g/\¬G0.X g
 nb:bx.length=bs.length
 nr:rv.length=rs.length
 box:∀(i g:Nat),bx[i]? =some g->∃ty cs us,bs[i]? =some (ty,cs)/\IsBlk w g ty us.toArray/\FT (en w G0 bx rv rs) us cs/\us.all cj=true
 row:∀(k:Nat) (v:Value) (R:Row),rv[k]? =some v->rs[k]? =some (some R)->∃xs,w.ownsRow 0 R.e R.sz v R.es.length xs/\PT w (GG G0 bx rv rs) xs (flat R.es)/\(Sized R.sz R.es/\(R.tt=true->qY v))/\∀g,v.ownBlock=some g->NoDigB w g
 nodup:Apart bx rv rs
 ge:∀b∈bX bx rv rs,w0.heap.size<=b\/G0.X b
 pin:∀i,i<G0.pn->bx[i]? =some (G0.P i)
section
variable {w0 w w':World} {G0:Bse} {bs:List (TypeId×List Tree)} {rs:List (Option Row)} {bx:List Nat} {rv:List Value}
def FT.later{us:List Value}{ts:List Tree}(h:FT (en w G0 bx rv rs) us ts)(c:Below w.heap.size w w'):FT (en w' G0 bx rv rs) us ts:=
 h.mono c.size (λb a d=>⟨c.block b a,d⟩) (λ_ _ h=>h) (λ_ _ h=>h)
def Mem.later(h:Mem w0 G0 bs rs bx rv w)(a:Below w.heap.size w w'):Mem w0 G0 bs rs bx rv w':=by
 refine⟨h.below.then a,h.env0,h.g0,h.nb,h.nr,λi g l=>?_,λk v R m j=>?_,h.nodup,h.ge,h.pin⟩
 ·obtain⟨ty,cs,us,b,c,d,e⟩:=h.box i g l;exact⟨ty,cs,us,b,c.below a c.lt,d.later a,e⟩
 obtain⟨xs,b,c,d,e⟩:=h.row k v R m j;exact⟨xs,lU b a,c.later a,d,λg f=>(e g f).of (a.block g (b.lt g f).2)⟩
def Mem.env(h:Mem w0 G0 bs rs bx rv w):Env w:=h.env0.env h.below
def aN{b:Nat}:b∈bX bx rv rs↔b∈bx\/∃(k:Nat) (v:Value) (R:Row),rv[k]? =some v/\rs[k]? =some (some R)/\v.ownBlock=some b:=by
 simp only[bX,Q6,Sa];refine or_congr TA ⟨?_,?_⟩
 ·rintro⟨⟨v,r⟩,g,c⟩;obtain⟨k,f,d⟩:=So g;simp only[List.getElem_zip,Sg]at d;have a:k<rv.length/\k<rs.length:=by rw[List.length_zip]at f;omega
  cases r with
  |none=>simp at c
  |some R=>
   refine⟨k,v,R,?_,?_,by simpa using c⟩
   ·rw[Qj a.1,d.1]
   rw[Qj a.2,d.2]
 rintro⟨k,v,R,h,e,c⟩;refine⟨(v,some R),?_,by simpa using c⟩;refine Qo (i:=k) ?_;rw[SI];exact⟨h,e⟩
def Mem.ok(h:Mem w0 G0 bs rs bx rv w):∀g,GG G0 bx rv rs g->g<w.heap.size/\NoDigB w g:=by
 rintro g (c|c)
 ·have a:=h.g0 g c;exact⟨QE a.1 h.below.size,a.2.1.of (h.below.block g a.1 a.2.2)⟩
 rcases aN.1 c with a|⟨k,v,R,n,l,e⟩
 ·obtain⟨i,m,rfl⟩:=So a;obtain⟨ty,cs,us,_,d,_,b⟩:=h.box i _ (Qj m);refine⟨d.lt,λj u f=>?_⟩;rw[d.cell j]at f;exact Qt.1 b u (Qo (by simpa using f))
 obtain⟨xs,a,_,_,b⟩:=h.row k v R n l;exact⟨(a.lt g e).2,b g e⟩
end
def Sim(w0:World)(G0:Bse)(S:St)(a:Act)(w:World):Prop:=
 ∃bx rv,Mem w0 G0 S.bs S.rs bx rv w/\a.tmps.size=S.n/\a.defers=[]/\∀i,FT (en w G0 bx rv S.rs) [a.tmps.getD i undef] [S.get i]
def I2(w0:World)(G0:Bse)(Q:Exit->St->Prop)(e:Exit)(a:Act)(w:World):Prop:=∃S,Q e S/\Sim w0 G0 S a w
def ew(o:Op):List Nat:=o.operands.toList.filterMap λ| .tmp t=>some t|_=>none
def OpOK(o:Oper)(S:St)(t:Tree):Prop:=∀(w0:World) (G0:Bse) (bx:List Nat) (rv:List Value) (w:World) (T:Nat->Value),Mem w0 G0 S.bs S.rs bx rv w->
 (∀s,(ew o.op).contains s=true->FT (en w G0 bx rv S.rs) [T s] [S.get s])->OpRuns prog o T w λv w'=>FT (en w' G0 bx rv S.rs) [v] [t]/\Below w.heap.size w w'
def AOps(w0:World)(G0:Bse)(ops:Array Oper)(rest:List Oper)(Q:Exit->St->Prop)(S:St):Prop:=∀a w,Sim w0 G0 S a w->wpList prog ops (I2 w0 G0 Q) rest a w
def AWP(w0:World)(G0:Bse)(c:Code)(Q:Exit->St->Prop)(S:St):Prop:=∀a w,Sim w0 G0 S a w->c.wp prog (I2 w0 G0 Q) a w
section
variable {w0:World} {G0:Bse} {ops:Array Oper} {rest:List Oper} {Q:Exit->St->Prop} {S:St} {o:Oper}
def fL(a:Act)(d:Option Nat)(v:Value)(n:Nat)(b:a.tmps.size=n)(hd:df n d=true)(i:Nat):(a.put d v).tmps.getD i undef=if d=some i then v else a.tmps.getD i undef:=by
 cases d with
 |none=>simp[Act.put]
 |some d=>
  simp only[df,decide_eq_true_eq]at hd;simp only[Act.put,Qy];by_cases h:d=i
  ·subst h;rw[if_pos Z,QG,Array.getElem?_setIfInBounds_self_of_lt O];rfl
  rw[if_neg h,QG,QG,Array.getElem?_setIfInBounds_ne h]
def d9(a:Act)(d:Option Nat)(v:Value):(a.put d v).tmps.size=a.tmps.size:=by cases d<;>simp[Act.put]
def c6(a:Act)(d:Option Nat)(v:Value):(a.put d v).defers=a.defers:=by cases d<;>rfl
def cF(S:St)(d:Option Nat)(t:Tree)(i:Nat):(S.put d t).get i=if d=some i then t else S.get i:=by
 cases d with
 |none=>simp[St.put]
 |some d=>simp only[St.put,St.get,cK,Qy]
def dQ(S:St)(d:Option Nat)(t:Tree):(S.put d t).n=S.n:=by cases d<;>rfl
def dc(S:St)(d:Option Nat)(t:Tree):(S.put d t).bs=S.bs:=by cases d<;>rfl
def b6(S:St)(d:Option Nat)(t:Tree):(S.put d t).rs=S.rs:=by cases d<;>rfl
def lV{a:Act}{w w':World}{bx:List Nat}{rv:List Value}{t:Tree}{v:Value}{rs:List (Option Row)}(c:a.tmps.size=S.n)(hd:df S.n o.dst=true)(b:∀us ts,FT (en w G0 bx rv S.rs) us ts->FT (en w' G0 bx rv rs) us ts)
  (d:∀i,FT (en w G0 bx rv S.rs) [a.tmps.getD i undef] [S.get i]) (e:FT (en w' G0 bx rv rs) [v] [t]):∀i,FT (en w' G0 bx rv rs) [(a.put o.dst v).tmps.getD i undef] [(S.put o.dst t).get i]:=λi=>by
 rw[fL a o.dst v S.n c hd,cF];split
 ·exact e
 exact b _ _ (d i)
def ah(h:Q .normal S):AOps w0 G0 ops [] Q S:=λ_ _ a=>⟨S,h,a⟩
def K:type_of% @ah:=@ah
def ud(d:∀a w,Sim w0 G0 S a w->Region.wanted o (yielded ops a.tmps)=true)(hd:df S.n o.dst=true){t:Tree}(h:OpOK o S t)(k:AOps w0 G0 ops rest Q (S.put o.dst t)):AOps w0 G0 ops (o::rest) Q S:=by
 intro a w i;have d:=d a w i;obtain⟨bx,rv,f,g,c,b⟩:=i;refine fK d λK l=>?_
 have j:=(h w0 G0 bx rv w (λs=>a.tmps.getD s undef) f λs _=>b s).wp (Q:=I2 w0 G0 Q);refine Oper.wp_mono ?_ j;rintro p w' ⟨v,rfl,m,e⟩;refine l _ _ (k _ _ ⟨bx,rv,?_,by rw[d9,dQ,g],by rw[c6,c],?_⟩)
 ·rw[dc,b6];exact f.later e
 rw[b6];exact lV g hd (λ_ _ h=>h.later e) b m
def BA(a:o.guard=none)(hd:df S.n o.dst=true){t:Tree}(h:OpOK o S t)(k:AOps w0 G0 ops rest Q (S.put o.dst t)):AOps w0 G0 ops (o::rest) Q S:=
 ud (λ_ _ _=>by simp[Region.wanted,a]) hd h k
def am{id:Nat}{ops:List Oper}(h:AOps w0 G0 ops.toArray ops Q S):AWP w0 G0 (.region id ops.toArray false) Q S:=λa w b=>wp_region_list (by simpa using h a w b)
end
