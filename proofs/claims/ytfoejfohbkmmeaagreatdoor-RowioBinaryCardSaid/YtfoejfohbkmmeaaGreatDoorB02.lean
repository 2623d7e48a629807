import Derived.Test.YtfoejfohbkmmeaaGreatDoorB01
import Derived.Test.YtfoejfohbkmmeaaGreatDoorB00
import Derived.Deep.AppendLies
import Derived.Laws.AppendOwnNone
namespace Go.Proofs.YtfoejfohbkmmeaaGreatDoor
open Go.RowKit
open Lib renaming hid→J
inductive Tree where
 |any
 |sc (v:Value)
 |sl (es:List Tree)
 |tl (es:List Tree)
 |agg (cs:List Tree)
 |tup (ts:List Tree)
 |ref (cs:List Tree)
 |box (b off:Nat)
 |own (k:Nat)
 |elp (k off:Nat)
def Tree.cells:Tree->List Tree
 | .agg cs=>cs
 |t=>[t]
def flat(es:List Tree):List Tree:=es.flatMap Tree.cells
theorem eN(e:Tree)(es:List Tree):flat (e::es)=e.cells++flat es:=rfl
theorem i8(a b:List Tree):flat (a++b)=flat a++flat b:=by simp[flat]
def Sized(n:Nat)(es:List Tree):Prop:=∀e∈es,e.cells.length=n
theorem Sized.tail{n:Nat}{e:Tree}{es:List Tree}(h:Sized n (e::es)):Sized n es:=fun x a=>h x (OX _ a)
theorem Sized.flat{n:Nat}:∀{es:List Tree},Sized n es->(flat es).length=es.length*n
 |[],_=>by simp[Go.Proofs.YtfoejfohbkmmeaaGreatDoor.flat]
 |e::es,h=>by rw[eN,Oj,h e (OR ..),Sized.flat h.tail,Oi,Pf];omega
theorem Sized.append{n:Nat}{a b:List Tree}(h:Sized n a)(e:Sized n b):Sized n (a++b):=fun x d=>by
 rcases OZ.1 d with c|c
 ·exact h x c
 exact e x c
theorem Sized.map{n:Nat}{α:Type}(f:α->Tree)(l:List α)(h:∀a,(f a).cells.length=n):Sized n (l.map f):=fun x b=>by
 obtain⟨a,_,rfl⟩:=PX.1 b;exact h a
theorem Sized.take{n:Nat}{es:List Tree}(h:Sized n es)(k:Nat):Sized n (es.take k):=fun x a=>h x (OV a)
theorem C9{n:Nat}:∀{es:List Tree},Sized n es->∀(i:Nat) (h:i<es.length) (j:Nat),j<n->(flat es)[i*n+j]? =es[i].cells[j]?
 |e::es,hs,0,_,j,hj=>by
  rw[eN,RK,Pk,OJ (by rw[hs e (OR ..)];exact hj)];rfl
 |e::es,hs,i+1,h,j,hj=>by
  have:=C9 hs.tail i (by simpa using h) j hj;rw[eN,ON (by rw[hs e (OR ..),Pf];omega),hs e (OR ..),show(i+1)*n+j-n=i*n+j by rw[Pf];omega,this];rfl
theorem nv{n:Nat}:∀{es:List Tree},Sized n es->∀k,flat (es.take k)=(flat es).take (k*n)
 |[],_,k=>by simp[flat]
 |e::es,hs,0=>by simp[flat]
 |e::es,hs,k+1=>by
  have a:e.cells.length=n:=hs e (OR ..);rw[Qw,eN,eN,nv hs.tail k,Rk,a];rw[Oy (l:=e.cells) (by rw[a,Pf];omega),show(k+1)*n-n=k*n by rw[Pf];omega]
theorem kV{n:Nat}:∀{es:List Tree},Sized n es->∀k,flat (es.drop k)=(flat es).drop (k*n)
 |[],_,k=>by simp[flat]
 |e::es,hs,0=>by simp
 |e::es,hs,k+1=>by
  have a:e.cells.length=n:=hs e (OR ..);rw[Qx,eN,kV hs.tail k,R8,a];rw[Ov (l:=e.cells) (by rw[a,Pf];omega),show(k+1)*n-n=k*n by rw[Pf];omega,Py]
inductive PT (W:World) (G:Nat->Prop):List Value->List Tree->Prop
 |nil:PT W G [] []
 |sc {us:List Value} {ts:List Tree} (v:Value) (h:PT W G us ts):PT W G (v::us) (.sc v::ts)
 |sl0 {us:List Value} {ts:List Tree} (A:Option Addr) (c:Nat) (hA:A=none->c=0) (hm:c<=9223372036854775807) (h:PT W G us ts):PT W G (.slice A 0 c::us) (.sl []::ts)
 |sl {us:List Value} {ts:List Tree} (b off c n:Nat) (xs:List Value) (es:List Tree) (hb:b<W.heap.size) (hG:¬G b) (hc:∀(j:Nat) u,xs[j]? =some u->W.cell? ⟨b,off+j,none⟩=some u) (hl:n=es.length) (hn:es.length<=c) (hm:c<=9223372036854775807) (hx:PT W G xs (flat es)) (h:PT W G us ts):PT W G (.slice (some ⟨b,off,none⟩) n c::us) (.sl es::ts)
 |tl {us:List Value} {ts:List Tree} (A:Option Addr) (n:Nat) (es:List Tree) (hl:n=es.length) (hs:PT W G [.slice A n n] [.sl es]) (h:PT W G us ts):PT W G (.slice A n n::us) (.tl es::ts)
 |agg {us:List Value} {ts:List Tree} (xs:List Value) (cs:List Tree) (hx:PT W G xs cs) (h:PT W G us ts):PT W G (.agg xs.toArray::us) (.agg cs::ts)
 |tup {us:List Value} {ts:List Tree} (xs:List Value) (cs:List Tree) (hx:PT W G xs cs) (h:PT W G us ts):PT W G (.tuple xs.toArray::us) (.tup cs::ts)
 |ref {us:List Value} {ts:List Tree} (b off:Nat) (xs:List Value) (cs:List Tree) (hb:b<W.heap.size) (hG:¬G b) (hc:∀(j:Nat) u,xs[j]? =some u->W.cell? ⟨b,off+j,none⟩=some u) (hx:PT W G xs cs) (h:PT W G us ts):PT W G (.pointer (some ⟨b,off,none⟩)::us) (.ref cs::ts)
section
variable {W W':World} {G G':Nat->Prop} {us:List Value} {ts:List Tree}
theorem PT.mono(h:PT W G us ts)(e:W.heap.size<=W'.heap.size)(a:∀b,b<W.heap.size->¬G b->W'.heap[b]? =W.heap[b]? /\¬G' b):PT W' G' us ts:=by
 induction h with
 |nil=>exact .nil
 |sc v _ ih=>exact .sc v ih
 |sl0 A c hA hm _ ih=>exact .sl0 A c hA hm ih
 |sl b off c n xs es hb hG hc hl hn hm _ _ ih1 ih2=>exact .sl b off c n xs es (by omega) (a b hb hG).2 (fun j u d=>by rw[<-hc j u d];exact World.cell?_of_block (a b hb hG).1) hl hn hm ih1 ih2
 |tl A n es hl _ _ ih1 ih2=>exact .tl A n es hl ih1 ih2
 |agg xs cs _ _ ih1 ih2=>exact .agg xs cs ih1 ih2
 |tup xs cs _ _ ih1 ih2=>exact .tup xs cs ih1 ih2
 |ref b off xs cs hb hG hc _ _ ih1 ih2=>exact .ref b off xs cs (by omega) (a b hb hG).2 (fun j u d=>by rw[<-hc j u d];exact World.cell?_of_block (a b hb hG).1) ih1 ih2
theorem PT.later(h:PT W G us ts)(c:Below W.heap.size W W'):PT W' G us ts:=h.mono c.size fun b a d=>⟨c.block b a,d⟩
theorem PT.length(h:PT W G us ts):us.length=ts.length:=by induction h<;>simp_all
theorem PT.head{u:Value}{t:Tree}(h:PT W G (u::us) (t::ts)):PT W G [u] [t]:=by
 cases h with
 |sc=>exact .sc _ .nil
 |sl0 A c hA hm _=>exact .sl0 A c hA hm .nil
 |sl b off c n xs es hb hG hc hl hn hm hx _=>exact .sl b off c n xs es hb hG hc hl hn hm hx .nil
 |tl A n es hl hs _=>exact .tl A n es hl hs .nil
 |agg xs cs hx _=>exact .agg xs cs hx .nil
 |tup xs cs hx _=>exact .tup xs cs hx .nil
 |ref b off xs cs hb hG hc hx _=>exact .ref b off xs cs hb hG hc hx .nil
theorem PT.tail{u:Value}{t:Tree}(h:PT W G (u::us) (t::ts)):PT W G us ts:=by
 cases h<;>assumption
theorem PT.cons{u:Value}{t:Tree}(h:PT W G [u] [t])(a:PT W G us ts):PT W G (u::us) (t::ts):=by
 cases h with
 |sc=>exact .sc _ a
 |sl0 A c hA hm _=>exact .sl0 A c hA hm a
 |sl b off c n xs es hb hG hc hl hn hm hx _=>exact .sl b off c n xs es hb hG hc hl hn hm hx a
 |tl A n es hl hs _=>exact .tl A n es hl hs a
 |agg xs cs hx _=>exact .agg xs cs hx a
 |tup xs cs hx _=>exact .tup xs cs hx a
 |ref b off xs cs hb hG hc hx _=>exact .ref b off xs cs hb hG hc hx a
end
theorem PT.append{W:World}{G:Nat->Prop}:∀{us vs:List Value} {ts a:List Tree},PT W G us ts->PT W G vs a->PT W G (us++vs) (ts++a)
 |[],_,[],_,_,h'=>h'
 |[],_,t::ts,_,h,_=>by cases h
 |u::us,_,[],_,h,_=>by cases h
 |u::us,_,t::ts,_,h,h'=>h.head.cons (PT.append h.tail h')
theorem PT.take{W:World}{G:Nat->Prop}:∀{us:List Value} {ts:List Tree} (k:Nat),PT W G us ts->PT W G (us.take k) (ts.take k)
 |[],[],k,_=>by simpa using .nil
 |[],t::ts,_,h=>by cases h
 |u::us,[],_,h=>by cases h
 |u::us,t::ts,0,_=>.nil
 |u::us,t::ts,k+1,h=>h.head.cons (PT.take k h.tail)
theorem PT.drop{W:World}{G:Nat->Prop}:∀{us:List Value} {ts:List Tree} (k:Nat),PT W G us ts->PT W G (us.drop k) (ts.drop k)
 |[],[],k,_=>by simpa using .nil
 |[],t::ts,_,h=>by cases h
 |u::us,[],_,h=>by cases h
 |u::us,t::ts,0,h=>h
 |u::us,t::ts,k+1,h=>PT.drop k h.tail
theorem PT.get{W:World}{G:Nat->Prop}:∀{us:List Value} {ts:List Tree},PT W G us ts->∀(i:Nat) (t:Tree),ts[i]? =some t->∃u,us[i]? =some u/\PT W G [u] [t]
 |[],[],_,i,t,h=>by simp at h
 |[],_::_,h,_,_,_=>by cases h
 |_::_,[],h,_,_,_=>by cases h
 |u::us,t::ts,h,0,s,e=>by
  simp only[Pa,OI]at e;subst e;exact⟨u,Z,h.head⟩
 |u::us,t::ts,h,i+1,s,e=>by
  obtain⟨v,b,a⟩:=h.tail.get i s (by simpa using e);exact⟨v,by simpa using b,a⟩
theorem PT.slice{W:World}{G:Nat->Prop}{v:Value}{es:List Tree}(h:PT W G [v] [.sl es]):∃A c,v=.slice A es.length c/\es.length<=c/\c<=9223372036854775807/\(A=none->c=0)/\(0<es.length->∃b off xs,A=some ⟨b,off,none⟩/\b<W.heap.size/\¬G b/\(∀(j:Nat) u,xs[j]? =some u->W.cell? ⟨b,off+j,none⟩=some u)/\PT W G xs (flat es)):=by
 cases h with
 |sl0 A c hA hm _=>exact⟨A,c,Z,by simp,hm,hA,fun h=>by simp at h⟩
 |sl b off c n xs es hb hG hc hl hn hm hx _=>subst hl;exact⟨_,c,Z,hn,hm,(fun e=>by cases e),fun _=>⟨b,off,xs,Z,hb,hG,hc,hx⟩⟩
structure En where
 W:World
 G:Nat->Prop
 bx:Nat->Option Nat
 rv:Nat->Option Value
inductive FT (E:En):List Value->List Tree->Prop
 |nil:FT E [] []
 |pure {us:List Value} {ts:List Tree} {v:Value} {t:Tree} (h:PT E.W E.G [v] [t]) (hs:FT E us ts):FT E (v::us) (t::ts)
 |any {us:List Value} {ts:List Tree} (v:Value) (hs:FT E us ts):FT E (v::us) (.any::ts)
 |box {us:List Value} {ts:List Tree} (b off g:Nat) (hb:E.bx b=some g) (hs:FT E us ts):FT E (.pointer (some ⟨g,off,none⟩)::us) (.box b off::ts)
 |own {us:List Value} {ts:List Tree} (k n c:Nat) (A:Option Addr) (hv:E.rv k=some (.slice A n c)) (hs:FT E us ts):FT E (.slice A n c::us) (.own k::ts)
 |elp {us:List Value} {ts:List Tree} (k off g n c:Nat) (hv:E.rv k=some (.slice (some ⟨g,0,none⟩) n c)) (hs:FT E us ts):FT E (.pointer (some ⟨g,off,none⟩)::us) (.elp k off::ts)
 |agg {us:List Value} {ts:List Tree} (xs:List Value) (cs:List Tree) (hx:FT E xs cs) (hs:FT E us ts):FT E (.agg xs.toArray::us) (.agg cs::ts)
 |tup {us:List Value} {ts:List Tree} (xs:List Value) (cs:List Tree) (hx:FT E xs cs) (hs:FT E us ts):FT E (.tuple xs.toArray::us) (.tup cs::ts)
section
variable {E E':En} {us:List Value} {ts:List Tree}
theorem FT.mono(h:FT E us ts)(e:E.W.heap.size<=E'.W.heap.size)(d:∀b,b<E.W.heap.size->¬E.G b->E'.W.heap[b]? =E.W.heap[b]? /\¬E'.G b)(f:∀b g,E.bx b=some g->E'.bx b=some g)(a:∀k v,E.rv k=some v->E'.rv k=some v):FT E' us ts:=by
 induction h with
 |nil=>exact .nil
 |pure h _ ih=>exact .pure (h.mono e d) ih
 |any v _ ih=>exact .any v ih
 |box b off g h _ ih=>exact .box b off g (f b g h) ih
 |own k n c A h _ ih=>exact .own k n c A (a k _ h) ih
 |elp k off g n c h _ ih=>exact .elp k off g n c (a k _ h) ih
 |agg xs cs _ _ ih1 ih2=>exact .agg xs cs ih1 ih2
 |tup xs cs _ _ ih1 ih2=>exact .tup xs cs ih1 ih2
theorem FT.length(h:FT E us ts):us.length=ts.length:=by induction h<;>simp_all
theorem FT.head{u:Value}{t:Tree}(h:FT E (u::us) (t::ts)):FT E [u] [t]:=by
 cases h with
 |pure h _=>exact .pure h .nil
 |any=>exact .any _ .nil
 |box b off g h _=>exact .box b off g h .nil
 |own k n c A h _=>exact .own k n c A h .nil
 |elp k off g n c h _=>exact .elp k off g n c h .nil
 |agg xs cs hx _=>exact .agg xs cs hx .nil
 |tup xs cs hx _=>exact .tup xs cs hx .nil
theorem FT.tail{u:Value}{t:Tree}(h:FT E (u::us) (t::ts)):FT E us ts:=by cases h<;>assumption
theorem FT.cons{u:Value}{t:Tree}(h:FT E [u] [t])(a:FT E us ts):FT E (u::us) (t::ts):=by
 cases h with
 |pure h _=>exact .pure h a
 |any=>exact .any _ a
 |box b off g h _=>exact .box b off g h a
 |own k n c A h _=>exact .own k n c A h a
 |elp k off g n c h _=>exact .elp k off g n c h a
 |agg xs cs hx _=>exact .agg xs cs hx a
 |tup xs cs hx _=>exact .tup xs cs hx a
end
theorem FT.of:∀{E:En} {us:List Value} {ts:List Tree},PT E.W E.G us ts->FT E us ts
 |_,[],[],_=>.nil
 |_,[],_::_,h=>by cases h
 |_,_::_,[],h=>by cases h
 |_,u::us,t::ts,h=>.pure h.head (FT.of h.tail)
theorem FT.get{E:En}:∀{us:List Value} {ts:List Tree},FT E us ts->∀(i:Nat) (t:Tree),ts[i]? =some t->∃u,us[i]? =some u/\FT E [u] [t]
 |[],[],_,i,t,h=>by simp at h
 |[],_::_,h,_,_,_=>by cases h
 |_::_,[],h,_,_,_=>by cases h
 |u::us,t::ts,h,0,s,e=>by
  simp only[Pa,OI]at e;subst e;exact⟨u,Z,h.head⟩
 |u::us,t::ts,h,i+1,s,e=>by
  obtain⟨v,b,a⟩:=h.tail.get i s (by simpa using e);exact⟨v,by simpa using b,a⟩
theorem FT.take{E:En}:∀{us:List Value} {ts:List Tree} (k:Nat),FT E us ts->FT E (us.take k) (ts.take k)
 |[],[],k,_=>by simpa using .nil
 |[],t::ts,_,h=>by cases h
 |u::us,[],_,h=>by cases h
 |u::us,t::ts,0,_=>.nil
 |u::us,t::ts,k+1,h=>h.head.cons (FT.take k h.tail)
theorem FT.drop{E:En}:∀{us:List Value} {ts:List Tree} (k:Nat),FT E us ts->FT E (us.drop k) (ts.drop k)
 |[],[],k,_=>by simpa using .nil
 |[],t::ts,_,h=>by cases h
 |u::us,[],_,h=>by cases h
 |u::us,t::ts,0,h=>h
 |u::us,t::ts,k+1,h=>FT.drop k h.tail
theorem FT.append{E:En}:∀{us vs:List Value} {ts a:List Tree},FT E us ts->FT E vs a->FT E (us++vs) (ts++a)
 |[],_,[],_,_,h'=>h'
 |[],_,t::ts,_,h,_=>by cases h
 |u::us,_,[],_,h,_=>by cases h
 |u::us,_,t::ts,_,h,h'=>h.head.cons (FT.append h.tail h')
section
variable {E:En} {v:Value}
theorem FT.isSc{x:Value}(h:FT E [v] [.sc x]):v=x:=by
 cases h with
 |pure h _=>cases h;rfl
theorem FT.isSl{es:List Tree}(h:FT E [v] [.sl es]):PT E.W E.G [v] [.sl es]:=by
 cases h with
 |pure h _=>exact h
theorem FT.isRef{cs:List Tree}(h:FT E [v] [.ref cs]):∃b off xs,v=.pointer (some ⟨b,off,none⟩)/\b<E.W.heap.size/\¬E.G b/\(∀(j:Nat) u,xs[j]? =some u->E.W.cell? ⟨b,off+j,none⟩=some u)/\PT E.W E.G xs cs:=by
 cases h with
 |pure h _=>
  cases h with
  |ref b off xs cs hb hG hc hx _=>exact⟨b,off,xs,Z,hb,hG,hc,hx⟩
theorem FT.isAgg{cs:List Tree}(h:FT E [v] [.agg cs]):∃xs,v=.agg xs.toArray/\FT E xs cs:=by
 cases h with
 |pure h _=>
  cases h with
  |agg xs cs hx _=>exact⟨xs,Z,.of hx⟩
 |agg xs cs hx _=>exact⟨xs,Z,hx⟩
theorem FT.isTup{cs:List Tree}(h:FT E [v] [.tup cs]):∃xs,v=.tuple xs.toArray/\FT E xs cs:=by
 cases h with
 |pure h _=>
  cases h with
  |tup xs cs hx _=>exact⟨xs,Z,.of hx⟩
 |tup xs cs hx _=>exact⟨xs,Z,hx⟩
theorem FT.isBox{b off:Nat}(h:FT E [v] [.box b off]):∃g,E.bx b=some g/\v=.pointer (some ⟨g,off,none⟩):=by
 cases h with
 |pure h _=>cases h
 |box b off g hb _=>exact⟨g,hb,Z⟩
theorem FT.isOwn{k:Nat}(h:FT E [v] [.own k]):E.rv k=some v/\∃A n c,v=.slice A n c:=by
 cases h with
 |pure h _=>cases h
 |own k n c A hv _=>exact⟨hv,A,n,c,Z⟩
theorem FT.isElp{k off:Nat}(h:FT E [v] [.elp k off]):∃g n c,E.rv k=some (.slice (some ⟨g,0,none⟩) n c)/\v=.pointer (some ⟨g,off,none⟩):=by
 cases h with
 |pure h _=>cases h
 |elp k off g n c hv _=>exact⟨g,n,c,hv,Z⟩
end
def Tree.plain0:Tree->Bool
 | .sc _| .sl _| .tl _| .ref _=>true
 |_=>false
def Tree.plain:Tree->Bool
 | .sc _| .sl _| .tl _| .ref _=>true
 | .agg cs=>cs.all Tree.plain0
 | .tup cs=>cs.all fun t=>match t with
  | .agg ds=>ds.all Tree.plain0
  |t=>t.plain0
 |_=>false
def Tree.one:Tree->Bool
 | .sc v=>v.oneCell'
 | .sl _| .tl _| .ref _| .box _ _| .own _| .elp _ _=>true
 |_=>false
theorem FT.one{E:En}{v:Value}{t:Tree}(h:FT E [v] [t])(a:t.one=true):v.oneCell'=true:=by
 cases h with
 |pure h _=>
  cases h with
  |sc=>exact a
  |sl0=>rfl
  |sl=>rfl
  |tl=>rfl
  |agg=>simp[Tree.one]at a
  |tup=>simp[Tree.one]at a
  |ref=>rfl
 |any=>simp[Tree.one]at a
 |box=>rfl
 |own=>rfl
 |elp=>rfl
 |agg=>simp[Tree.one]at a
 |tup=>simp[Tree.one]at a
theorem FT.ones{E:En}:∀{us:List Value} {ts:List Tree},FT E us ts->ts.all Tree.one=true->∀u∈us,u.oneCell'=true
 |[],[],_,_,u,a=>by simp at a
 |[],_::_,h,_,_,_=>by cases h
 |_::_,[],h,_,_,_=>by cases h
 |x::us,t::ts,h,hp,u,a=>by
  simp only[PS,Oo]at hp;rcases OC.1 a with rfl|a
  ·exact h.head.one hp.1
  exact FT.ones h.tail hp.2 u a
theorem FT.plain0{E:En}{v:Value}{t:Tree}(h:FT E [v] [t])(a:t.plain0=true):PT E.W E.G [v] [t]:=by
 cases t<;>simp only[Tree.plain0,QB]at a<;>cases h<;>assumption
theorem FT.plain0s{E:En}:∀{us:List Value} {ts:List Tree},FT E us ts->ts.all Tree.plain0=true->PT E.W E.G us ts
 |[],[],_,_=>.nil
 |[],_::_,h,_=>by cases h
 |_::_,[],h,_=>by cases h
 |u::us,t::ts,h,hp=>by
  simp only[PS,Oo]at hp;exact(h.head.plain0 hp.1).cons (FT.plain0s h.tail hp.2)
theorem FT.plain1{E:En}{v:Value}{cs:List Tree}(h:FT E [v] [.agg cs])(b:cs.all Tree.plain0=true):PT E.W E.G [v] [.agg cs]:=by
 obtain⟨xs,rfl,a⟩:=h.isAgg;exact .agg xs cs (a.plain0s b) .nil
theorem FT.plain{E:En}{v:Value}{t:Tree}(h:FT E [v] [t])(a:t.plain=true):PT E.W E.G [v] [t]:=by
 cases t with
 |sc _=>exact h.plain0 Z
 |sl _=>exact h.plain0 Z
 |tl _=>exact h.plain0 Z
 |ref _=>exact h.plain0 Z
 |agg cs=>exact h.plain1 a
 |tup cs=>
  obtain⟨xs,rfl,b⟩:=h.isTup;refine .tup xs cs ?_ .nil;clear h;simp only[Tree.plain]at a;induction cs generalizing xs with
  |nil=>cases b;exact .nil
  |cons c cs ih=>
   cases xs with
   |nil=>cases b
   |cons x xs=>
    simp only[PS,Oo]at a;refine PT.cons ?_ (ih a.2 xs b.tail);have d:=b.head;cases c with
    |agg ds=>exact d.plain1 a.1
    |_=>exact d.plain0 a.1
 |_=>simp[Tree.plain]at a
theorem FT.plains{E:En}:∀{us:List Value} {ts:List Tree},FT E us ts->ts.all Tree.plain=true->PT E.W E.G us ts
 |[],[],_,_=>.nil
 |[],_::_,h,_=>by cases h
 |_::_,[],h,_=>by cases h
 |u::us,t::ts,h,hp=>by
  simp only[PS,Oo]at hp;exact(h.head.plain hp.1).cons (FT.plains h.tail hp.2)
theorem vm:(Tryz.prog.info? 5).map (fun i=>(i.zero,i.size,i.bytes))=some (some (.int .u8 0),1,1):=by kernel_rfl
def OwnB(w:World)(base:Nat)(v:Value)(l:List UInt8):Prop:=w.ownsRow base 5 1 v l.length (bL l)
theorem OwnB.nil(w:World)(base:Nat):OwnB w base (.slice none 0 0) []:=World.ownsRow_nil _ _ _ _
theorem d6{w w':World}{base:Nat}{e:TypeId}{size n:Nat}{v:Value}{xs:List Value}(h:w.ownsRow base e size v n xs)(a:Below w.heap.size w w'):w'.ownsRow base e size v n xs:=
 h.kept (row:=none) ⟨a.os,a.tape,a.output,a.size,fun i b _=>a.block i b⟩ (by cases v.ownBlock<;>simp)
theorem OwnB.below{w w':World}{base:Nat}{v:Value}{l:List UInt8}(h:OwnB w base v l)(a:Below w.heap.size w w'):OwnB w' base v l:=d6 h a
def Far(v:Value)(k:Nat):Prop:=v.ownBlock≠some k
theorem sJ{w:World}{base:Nat}{v:Value}{l:List UInt8}{k:Nat}(h:OwnB w base v l)(a:w.heap.size<=k):Far v k:=fun e=>by have:=(h.lt k e).2;omega
structure Grew (w w':World) (base:Nat) (v v':Value):Prop where
 size:w.heap.size<=w'.heap.size
 kept:∀k,k<w.heap.size->Far v k->w'.heap[k]? =w.heap[k]?
 far:∀k,k<w.heap.size->Far v k->Far v' k
 below:Below base w w'
theorem Grew.blk{w w':World}{base:Nat}{v v':Value}(h:Grew w w' base v v'){g:Nat}{t:TypeId}{cs:Array Value}(a:IsBlk w g t cs)(b:Far v g):IsBlk w' g t cs:=(h.kept g a.lt b).trans a
theorem Da{w b w':World}{base:Nat}{v v':Value}{l:List UInt8}(d:OwnB w base v l)(j:∃o,b=w.alloc o\/b=w)(a:b.grownBy w' v.ownBlock)(i:v'.ownBlock=v.ownBlock\/v'.ownBlock=some b.heap.size)(c:base<=w.heap.size):Grew w w' base v v':=by
 have n:w.heap.size<=b.heap.size:=by rcases j with⟨o,rfl|rfl⟩<;>simp
 have f:∀k,k<w.heap.size->b.heap[k]? =w.heap[k]? :=fun k f=>by
  rcases j with⟨o,rfl|rfl⟩
  ·exact Below.heap_alloc w o k f
  rfl
 have p:Below w.heap.size w b:=by
  rcases j with⟨o,rfl|rfl⟩
  ·exact(Below.refl _ _).alloc (Oh _) _
  exact Below.refl _ _
 refine⟨Oq n a.size,fun k m g=>(a.block k (by omega) (fun e=>g e.symm)).trans (f k m),fun k m g e=>?_,(p.mono c).grown a (by omega) (fun k e=>(d.lt k e).1)⟩;rcases i with h|h<;>rw[h]at e
 ·exact g e
 injection e with e;omega
theorem oU{ops:Array Oper}{e:List Oper}{o:Oper}{a:Act}{Q:Exit->Act->World->Prop}{w:World}(base:Nat)(v:Value)(l:List UInt8)(c:Int)(d:UInt8)
  (s x:Operand) (m:o.guard=none) (r:o.op=.call {callee:=.builtin .append,args:=#[s,x],argTypes:=#[22,22]})
  (y:a.eval s=v) (t:a.eval x=.slice (some ⟨w.heap.size,0,none⟩) 1 1) (b:OwnB w base v l) (u:c=d.toNat) (A:l.length<=1099511627776) (g:base<=w.heap.size)
  (h:∀v' w',OwnB w' base v' (l++[d])->Grew w w' base v v'->wpList Tryz.prog ops Q e (a.put o.dst v') w'):
  wpList Tryz.prog ops Q (o::e) a (w.alloc (.cells #[.int .u8 c] 5)):=by
 obtain⟨z,q,i,n,j⟩:=info_parts vm;refine wpList_append_own_at _ m s x _ r base 5 z (.int .u8 0) 1 1 Tryz.underlying22 q i n j Z (by decide) v l.length (bL l) y (World.ownsRow.alloc b _)
  ⟨w.heap.size,0,none⟩ 1 1 [.int .u8 c] t Z (cell_one_new _ _ _) (by simp[Value.oneCell']) (by simp only[maxLen];omega) (by omega) (by simp;omega) ?_
 intro v' w' f k _ p;refine h v' w' ?_ (Da b ⟨_,.inl Z⟩ k p g);subst u;unfold OwnB;rw[n4];simpa[bL]using f
theorem Bg(w:World)(base:Nat)(ty:TypeId)(v:Value)(l:List UInt8)(s:ByteArray)(b:OwnB w base v l)(H:l.length+s.size<=1099511627776)(f:base<=w.heap.size):
  ∃v' w',(Builtin.append_ #[22,9] ty #[v,.string s]).run Tryz.prog w=.ok v' w'/\OwnB w' base v' (l++s.data.toList)/\w.grownBy w' v.ownBlock/\(v'.ownBlock=v.ownBlock\/v'.ownBlock=some w.heap.size):=by
 obtain⟨r,c,k,m,d⟩:=info_parts vm;have p:=Tryz.underlying22;have q:=Tryz.underlying9;obtain⟨v',w',t,C,G,A⟩:=Lib.run_append_own_string (P:=Tryz.prog) w base 22 9 ty 5 r p q c k m d v l.length (bL l) b s (by simp only[maxLen];omega) (by omega) f;refine⟨v',w',t,?_,G,?_⟩
 ·unfold OwnB;rw[n4];have e:(l++s.data.toList).length=l.length+s.size:=by simp
  rw[e];exact C
 rcases b.2 with⟨rfl,I⟩|⟨g,n,cur,rfl,D,z,F,B,y,x⟩
 ·by_cases E:s.size=0
  ·rw[A.2 ⟨Z,E⟩];exact .inl Z
  have a:=run_append_nil_string (P:=Tryz.prog) w 22 9 ty 5 r (.int .u8 0) p q c k s (by omega) (by omega) (by rw[d];omega);rw[t]at a;injection a with o _
  rw[o];exact .inr Z
 by_cases h:l.length+s.size<=n
 ·have a:=Lib.run_append_room_string (P:=Tryz.prog) w 22 9 ty 5 r p q c m g l.length n cur z s h (by rw[y];omega);rw[t]at a;injection a with o _
  rw[o];exact .inl Z
 have i:∀j u,(bL l)[j]? =some u->w.cell? ((⟨g,0,none⟩:Addr).add j)=some u:=World.ownsRow.cells b (g:=g) Z;have a:=Lib.run_append_grow_string (P:=Tryz.prog) w 22 9 ty 5 r (.int .u8 0) p q c k ⟨g,0,none⟩ l.length n (bL l) (by rw[m,fw];omega) i s (by omega) (by omega) (by rw[d];exact growslice_fits (by omega) (by omega));rw[t]at a;injection a with o _
 rw[o];exact .inr Z
theorem JA{ops:Array Oper}{d:List Oper}{o:Oper}{a:Act}{Q:Exit->Act->World->Prop}{w:World}(base:Nat)(v:Value)(l:List UInt8)(str:ByteArray)
  (s x:Operand) (e:o.guard=none) (i:o.op=.call {callee:=.builtin .append,args:=#[s,x],argTypes:=#[22,9]})
  (p:a.eval s=v) (j:a.eval x=.string str) (c:OwnB w base v l) (f:l.length+str.size<=1099511627776) (b:base<=w.heap.size)
  (h:∀v' w',OwnB w' base v' (l++str.data.toList)->Grew w w' base v v'->wpList Tryz.prog ops Q d (a.put o.dst v') w'):
  wpList Tryz.prog ops Q (o::d) a w:=by
 refine wpList_plain e fun K g=>?_
 obtain⟨v',w',n,q,k,m⟩:=Bg w base o.type v l str c f b;unfold Oper.wp execOp;simp only[i,resolve,invoke,builtin,Sem.run_bind,Sem.run_pure,Result.andThen_ok,Qn,Pt,QM,p,j,n];exact g _ _ (h v' w' q (Da c ⟨.cells #[] 0,.inr Z⟩ k m b))
theorem fI{w w':World}{base:Nat}{e:TypeId}{size n g:Nat}{v:Value}{xs:List Value}(h:w.ownsRow base e size v n xs)(j:v.ownBlock≠some g)(f:∀k,k≠g->w'.heap[k]? =w.heap[k]?):w'.ownsRow base e size v n xs:=by
 refine⟨h.1,?_⟩;rcases h.2 with l|⟨b,a,cur,rfl,d,c,i⟩
 ·exact .inl l
 refine .inr ⟨b,a,cur,Z,d,?_,i⟩;rw[f b (fun e=>j (by rw[e];rfl))];exact c
theorem r6{w:World}{base:Nat}{e:TypeId}{size n g:Nat}{v:Value}{xs:List Value}(h:w.ownsRow base e size v n xs)(a:w.heap.size<=g):v.ownBlock≠some g:=fun e=>by have:=(h.lt g e).2;omega
theorem F6:(Tryz.prog.info? 77).map (fun i=>(i.zero,i.size,i.bytes))=some (some (.agg #[.int .i64 0,.int .i64 0,.string ⟨#[]⟩]),3,32):=by kernel_rfl
def OwnV(w:World)(base:Nat)(v:Value)(l:List V):Prop:=w.ownsRow base 77 3 v l.length (dV l)
theorem OwnV.nil(w:World)(base:Nat):OwnV w base (.slice none 0 0) []:=World.ownsRow_nil _ _ _ _
theorem OwnV.below{w w':World}{base:Nat}{v:Value}{l:List V}(h:OwnV w base v l)(a:Below w.heap.size w w'):OwnV w' base v l:=d6 h a
theorem sK{w b w':World}{base:Nat}{v v':Value}{e:TypeId}{size n:Nat}{xs:List Value}(d:w.ownsRow base e size v n xs)(j:∃o,b=w.alloc o\/b=w)(a:b.grownBy w' v.ownBlock)(i:v'.ownBlock=v.ownBlock\/v'.ownBlock=some b.heap.size)(c:base<=w.heap.size):Grew w w' base v v':=by
 have m:w.heap.size<=b.heap.size:=by rcases j with⟨o,rfl|rfl⟩<;>simp
 have f:∀k,k<w.heap.size->b.heap[k]? =w.heap[k]? :=fun k f=>by
  rcases j with⟨o,rfl|rfl⟩
  ·exact Below.heap_alloc w o k f
  rfl
 have p:Below w.heap.size w b:=by
  rcases j with⟨o,rfl|rfl⟩
  ·exact(Below.refl _ _).alloc (Oh _) _
  exact Below.refl _ _
 refine⟨Oq m a.size,fun k l g=>(a.block k (by omega) (fun e=>g e.symm)).trans (f k l),fun k l g e=>?_,(p.mono c).grown a (by omega) (fun k e=>(d.lt k e).1)⟩;rcases i with h|h<;>rw[h]at e
 ·exact g e
 injection e with e;omega
theorem Bh(l:List V):∀u∈dV l,u.oneCell'=true:=by
 intro u a;simp only[dV,List.mem_flatMap,V.cells,OC,O8,or_false]at a;obtain⟨v,_,rfl|rfl|rfl⟩:=a<;>rfl
theorem r7{ops:Array Oper}{c:List Oper}{o:Oper}{a:Act}{Q:Exit->Act->World->Prop}{w:World}(base:Nat)(v:Value)(l:List V)(u:V)
  (s x:Operand) (j:o.guard=none) (q:o.op=.call {callee:=.builtin .append,args:=#[s,x],argTypes:=#[61,61]})
  (y:a.eval s=v) (r:a.eval x=.slice (some ⟨w.heap.size,0,none⟩) 1 1) (b:OwnV w base v l) (A:l.length<=1073741824) (e:base<=w.heap.size)
  (h:∀v' w',OwnV w' base v' (l++[u])->Grew w w' base v v'->wpList Tryz.prog ops Q c (a.put o.dst v') w'):
  wpList Tryz.prog ops Q (o::c) a (w.alloc (.cells #[.int .i64 u.t,.int .i64 u.n,.string u.s] 77)):=by
 obtain⟨z,p,f,k,g⟩:=info_parts F6;refine wpList_append_own_at _ j s x _ q base 77 z (.agg #[.int .i64 0,.int .i64 0,.string ⟨#[]⟩]) 3 32 Tryz.underlying61 p f k g Z (by decide) v l.length (dV l) y (World.ownsRow.alloc b _)
  ⟨w.heap.size,0,none⟩ 1 1 (dV [u]) r (by rw[iY];rfl) (World.news_of_block (g6 w 77 _)) (Bh _) (by simp only[maxLen];omega) (by omega) (by simp;omega) ?_
 intro v' w' d i _ m;refine h v' w' ?_ (sK b ⟨_,.inl Z⟩ i m e);unfold OwnV;rw[uX];simpa using d
theorem eL{P:Program}{ops:Array Oper}{b:List Oper}{o:Oper}{a:Act}{w:World}{Q:Exit->Act->World->Prop}(d:Region.wanted o (yielded ops a.tmps)=true)
  (h:∀K:Act->World->Prop,(∀c w',wpList P ops Q b c w'->K c w')->o.wp P a w K Q):wpList P ops Q (o::b) a w:=by
 unfold wpList;rw[if_pos d];exact .inl (h _ fun _ _ h=>h)
theorem At.news{w:World}{B:Nat}{c:Addr}{xs:List Value}(h:At w B (some c) xs):∀j u,xs[j]? =some u->w.cell? (c.add j)=some u:=fun j u a=>by
 have f:0<xs.length:=by have:=(Ok.1 a).1;omega
 obtain⟨b,off,e,_,d⟩:=h f;injection e with e
 subst e;rw[show(⟨b,off,none⟩:Addr).add j=⟨b,off+j,none⟩from by unfold Addr.add;split<;>simp_all];exact d j u a
theorem JB{ops:Array Oper}{j:List Oper}{o:Oper}{a:Act}{Q:Exit->Act->World->Prop}{w:World}(s x:Operand)(t e:TypeId)(i:TypeInfo)(z:Value)(size b:Nat)
  (H:o.op=.call {callee:=.builtin .append,args:=#[s,x],argTypes:=#[t,t]}) (M:Region.wanted o (yielded ops a.tmps)=true)
  (G:Tryz.prog.underlying t=some (.slice e)) (E:Tryz.prog.info? e=some i) (S:i.zero=some z) (k:i.size=size) (B:i.bytes=b) (C:z.cells.size=size) (y:0<size)
  (base:Nat) (v:Value) (n:Nat) (xs:List Value) (J:a.eval s=v) (d:w.ownsRow base e size v n xs) (A:Option Addr) (m c:Nat) (news:List Value) (F:a.eval x=.slice A m c) (r:At w w.heap.size A news)
  (D:news.length=m*size) (l:A=none->m=0/\c=0) (T:∀u∈news,u.oneCell'=true) (q:n+m<=maxLen) (g:(n+m)*b<=140737488355328) (f:base<=w.heap.size)
  (h:∀v' w',w'.ownsRow base e size v' (n+m) (xs++news)->Grew w w' base v v'->wpList Tryz.prog ops Q j (a.put o.dst v') w'):wpList Tryz.prog ops Q (o::j) a w:=by
 refine eL M fun K I=>?_
 cases A with
 |none=>
  obtain⟨rfl,rfl⟩:=l rfl;have L:news=[]:=OB (by simpa using D);subst L;have p:=run_append_owned_none (P:=Tryz.prog) (w:=w) base t o.type e i size G E v n xs d;unfold Oper.wp;simp only[execOp,H,resolve,invoke,builtin,Sem.run_bind,Sem.run_pure,Result.andThen_ok,Qn,Pt,QM,J,F,p];exact I _ _ (h v w (by simpa using d) ⟨Oh _,fun _ _ _=>rfl,fun _ _ h=>h,Below.refl _ _⟩)
 |some ad=>
  obtain⟨v',w',R,O,U,_,N⟩:=run_append_own_at (P:=Tryz.prog) w base t o.type e i z size b G E S k B C y v n xs d ad m c news D r.news T q g f;unfold Oper.wp execOp;simp only[H,resolve,invoke,builtin,Sem.run_bind,Sem.run_pure,Result.andThen_ok,Qn,Pt,QM,J,F,R];exact I _ _ (h v' w' O (sK d ⟨.cells #[] 0,.inr Z⟩ U N f))
structure Row where
 e:TypeId
 sz:Nat
 es:List Tree
 tt:Bool
structure St where
 n:Nat
 sl:List (Nat×Tree)
 bs:List (TypeId×List Tree)
 rs:List (Option Row)
def look:List (Nat×Tree)->Nat->Tree
 |[],_=>.any
 |(i,t)::l,j=>cond (Nat.beq i j) t (look l j)
theorem dD(i:Nat)(t:Tree)(l:List (Nat×Tree))(j:Nat):look ((i,t)::l) j=if i=j then t else look l j:=by
 simp only[look];by_cases h:i=j
 ·subst h;simp
 rw[if_neg h];have:Nat.beq i j=false:=by
  cases a:Nat.beq i j with
  |false=>rfl
  |true=>exact absurd (QC a) h
 rw[this];rfl
def St.get(S:St)(i:Nat):Tree:=look S.sl i
def St.put(S:St)(d:Option Nat)(t:Tree):St:=
 match d with
 |some d=>{S with sl:=(d,t)::S.sl}
 |none=>S
def St.ev(S:St):Operand->Tree
 | .tmp s=>S.get s
 | .const v=>.sc v
 | .global g=>.sc (.pointer (some ⟨g,0,none⟩))
 | .func f=>.sc (.func (.func f) #[] #[])
def cC(n:Nat):Option Nat->Bool
 |some d=>decide (d<n)
 |none=>true
def bG:Value->Bool
 | .int .u32 _=>false
 |_=>true
def NoDigB(w:World)(g:Nat):Prop:=∀i u,w.cell? ⟨g,i,none⟩=some u->bG u=true
theorem NoDigB.of{w w':World}{g:Nat}(h:NoDigB w g)(a:w'.heap[g]? =w.heap[g]?):NoDigB w' g:=fun i u b=>h i u (by rw[<-b];exact(World.cell?_of_block a).symm)
def ot(v:Value):Prop:=∀A m c,v=.slice A m c->c=m
def cl(bx:List Nat)(rv:List Value)(rs:List (Option Row)):List Nat:=bx++(rv.zip rs).filterMap fun p=>p.2.bind fun _=>p.1.ownBlock
structure Bse where
 G:Nat->Prop
 X:Nat->Prop
 pn:Nat
 P:Nat->Nat
def pln(G:Nat->Prop):Bse:=⟨G,fun _=>False,0,fun _=>0⟩
structure Kept (w0:World) (X:Nat->Prop) (w:World):Prop where
 os:w.os=w0.os
 tape:w.tape=w0.tape
 output:w.output=w0.output
 size:w0.heap.size<=w.heap.size
 block:∀k,k<w0.heap.size->¬X k->w.heap[k]? =w0.heap[k]?
theorem Kept.refl(w:World)(X:Nat->Prop):Kept w X w:=⟨Z,Z,Z,Oh _,fun _ _ _=>rfl⟩
theorem Kept.then{w0 w w':World}{X:Nat->Prop}(h:Kept w0 X w)(a:Below w.heap.size w w'):Kept w0 X w':=⟨a.os.trans h.os,a.tape.trans h.tape,a.output.trans h.output,Oq h.size a.size,fun k b c=>(a.block k (Oz b h.size)).trans (h.block k b c)⟩
theorem Kept.grown{w0 w w':World}{X:Nat->Prop}{row:Option Nat}(h:Kept w0 X w)(a:w.grownBy w' row)(f:∀k,row=some k->w0.heap.size<=k\/X k):Kept w0 X w':=⟨a.os.trans h.os,a.tape.trans h.tape,a.output.trans h.output,Oq h.size a.size,fun k b d=>(a.block k (Oz b h.size) (fun e=>by rcases f k e.symm with c|c;(· omega);exact d c)).trans (h.block k b d)⟩
theorem Kept.below{w0 w:World}(h:Kept w0 (fun _=>False) w):Below w0.heap.size w0 w:=⟨h.os,h.tape,h.output,h.size,fun k a=>h.block k a id⟩
theorem Kept.of{w0 w:World}{X:Nat->Prop}(h:Below w0.heap.size w0 w):Kept w0 X w:=⟨h.os,h.tape,h.output,h.size,fun k a _=>h.block k a⟩
def EnvX(w0:World)(X:Nat->Prop):Prop:=∃wE,Env wE/\Below wE.heap.size wE w0/\∀b,X b->wE.heap.size<=b
theorem EnvX.pln{w:World}(h:Env w):EnvX w (fun _=>False):=⟨w,h,Below.refl _ _,fun _ h=>h.elim⟩
theorem EnvX.at{w0 w:World}{X:Nat->Prop}(h:EnvX w0 X)(d:Kept w0 X w):∃a,Env a/\Below a.heap.size a w/\a.heap.size<=w0.heap.size/\∀b,X b->a.heap.size<=b:=by
 obtain⟨a,g,c,f⟩:=h;exact⟨a,g,⟨d.os.trans c.os,d.tape.trans c.tape,d.output.trans c.output,Oq c.size d.size,fun k e=>(d.block k (Oz e c.size) fun i=>by have:=f k i;omega).trans (c.block k e)⟩,c.size,f⟩
theorem EnvX.env{w0 w:World}{X:Nat->Prop}(h:EnvX w0 X)(a:Kept w0 X w):Env w:=by
 obtain⟨d,b,c,_⟩:=h.at a;exact b.below c (Oh _)
theorem EnvX.env0{w0:World}{X:Nat->Prop}(h:EnvX w0 X):Env w0:=h.env (Kept.refl _ _)
def GG(G0:Bse)(bx:List Nat)(rv:List Value)(rs:List (Option Row)):Nat->Prop:=fun b=>G0.G b\/b∈cl bx rv rs
def fN(rv:List Value)(rs:List (Option Row))(k:Nat):Option Value:=((rs[k]?).bind id).bind fun _=>rv[k]?
def en(w:World)(G0:Bse)(bx:List Nat)(rv:List Value)(rs:List (Option Row)):En:=⟨w,GG G0 bx rv rs,fun i=>bx[i]?,fN rv rs⟩
structure Apart (bx:List Nat) (rv:List Value) (rs:List (Option Row)):Prop where
 bb:bx.Nodup
 br:∀(k:Nat) (v:Value) (R:Row) (b:Nat),rv[k]? =some v->rs[k]? =some (some R)->v.ownBlock=some b->b∉bx
 rr:∀(j k:Nat) (u v:Value) (X R:Row) (b:Nat),j≠k->rv[j]? =some u->rs[j]? =some (some X)->rv[k]? =some v->rs[k]? =some (some R)->u.ownBlock=some b->v.ownBlock=some b->False
structure Mem (w0:World) (G0:Bse) (bs:List (TypeId×List Tree)) (rs:List (Option Row)) (bx:List Nat) (rv:List Value) (w:World):Prop where
 below:Kept w0 G0.X w
 env0:EnvX w0 G0.X
 g0:∀g,G0.G g->g<w0.heap.size/\NoDigB w0 g/\¬G0.X g
 nb:bx.length=bs.length
 nr:rv.length=rs.length
 box:∀(i g:Nat),bx[i]? =some g->∃ty cs us,bs[i]? =some (ty,cs)/\IsBlk w g ty us.toArray/\FT (en w G0 bx rv rs) us cs/\us.all bG=true
 row:∀(k:Nat) (v:Value) (R:Row),rv[k]? =some v->rs[k]? =some (some R)->∃xs,w.ownsRow 0 R.e R.sz v R.es.length xs/\PT w (GG G0 bx rv rs) xs (flat R.es)/\(Sized R.sz R.es/\(R.tt=true->ot v))/\∀g,v.ownBlock=some g->NoDigB w g
 nodup:Apart bx rv rs
 ge:∀b∈cl bx rv rs,w0.heap.size<=b\/G0.X b
 pin:∀i,i<G0.pn->bx[i]? =some (G0.P i)
section
variable {w0 w w':World} {G0:Bse} {bs:List (TypeId×List Tree)} {rs:List (Option Row)} {bx:List Nat} {rv:List Value}
theorem FT.later{us:List Value}{ts:List Tree}(h:FT (en w G0 bx rv rs) us ts)(c:Below w.heap.size w w'):FT (en w' G0 bx rv rs) us ts:=
 h.mono c.size (fun b a d=>⟨c.block b a,d⟩) (fun _ _ h=>h) (fun _ _ h=>h)
theorem Mem.later(h:Mem w0 G0 bs rs bx rv w)(a:Below w.heap.size w w'):Mem w0 G0 bs rs bx rv w':=by
 refine⟨h.below.then a,h.env0,h.g0,h.nb,h.nr,fun i g j=>?_,fun k v R l m=>?_,h.nodup,h.ge,h.pin⟩
 ·obtain⟨ty,cs,us,b,c,d,e⟩:=h.box i g j;exact⟨ty,cs,us,b,c.below a c.lt,d.later a,e⟩
 obtain⟨xs,b,c,d,e⟩:=h.row k v R l m;exact⟨xs,d6 b a,c.later a,d,fun g f=>(e g f).of (a.block g (b.lt g f).2)⟩
theorem Mem.env(h:Mem w0 G0 bs rs bx rv w):Env w:=h.env0.env h.below
theorem aY{b:Nat}:b∈cl bx rv rs↔b∈bx\/∃(k:Nat) (v:Value) (R:Row),rv[k]? =some v/\rs[k]? =some (some R)/\v.ownBlock=some b:=by
 simp only[cl,OZ,RU];refine or_congr Rh ⟨?_,?_⟩
 ·rintro⟨⟨v,r⟩,h,c⟩;obtain⟨k,e,d⟩:=Pv h;simp only[List.getElem_zip,Qy]at d;have a:k<rv.length/\k<rs.length:=by rw[List.length_zip]at e;omega
  cases r with
  |none=>simp at c
  |some R=>
   refine⟨k,v,R,?_,?_,by simpa using c⟩
   ·rw[Og a.1,d.1]
   rw[Og a.2,d.2]
 rintro⟨k,v,R,f,g,c⟩;refine⟨(v,some R),?_,by simpa using c⟩;refine Om (i:=k) ?_;rw[List.getElem?_zip_eq_some];exact⟨f,g⟩
theorem Mem.ok(h:Mem w0 G0 bs rs bx rv w):∀g,GG G0 bx rv rs g->g<w.heap.size/\NoDigB w g:=by
 rintro g (b|b)
 ·have a:=h.g0 g b;exact⟨Oz a.1 h.below.size,a.2.1.of (h.below.block g a.1 a.2.2)⟩
 rcases aY.1 b with a|⟨k,v,R,m,n,d⟩
 ·obtain⟨i,l,rfl⟩:=Pv a;obtain⟨ty,cs,us,_,f,_,c⟩:=h.box i _ (Og l);refine⟨f.lt,fun j u e=>?_⟩;rw[f.cell j]at e;exact OD.1 c u (Om (by simpa using e))
 obtain⟨xs,a,_,_,c⟩:=h.row k v R m n;exact⟨(a.lt g d).2,c g d⟩
end
def Sim(w0:World)(G0:Bse)(S:St)(a:Act)(w:World):Prop:=
 ∃bx rv,Mem w0 G0 S.bs S.rs bx rv w/\a.tmps.size=S.n/\a.defers=[]/\∀i,FT (en w G0 bx rv S.rs) [a.tmps.getD i undef] [S.get i]
def Bi(w0:World)(G0:Bse)(Q:Exit->St->Prop)(e:Exit)(a:Act)(w:World):Prop:=∃S,Q e S/\Sim w0 G0 S a w
def eG(o:Op):List Nat:=o.operands.toList.filterMap fun| .tmp t=>some t|_=>none
def OpOK(o:Oper)(S:St)(t:Tree):Prop:=∀(w0:World) (G0:Bse) (bx:List Nat) (rv:List Value) (w:World) (T:Nat->Value),Mem w0 G0 S.bs S.rs bx rv w->
 (∀s,(eG o.op).contains s=true->FT (en w G0 bx rv S.rs) [T s] [S.get s])->OpRuns Tryz.prog o T w fun v w'=>FT (en w' G0 bx rv S.rs) [v] [t]/\Below w.heap.size w w'
def AOps(w0:World)(G0:Bse)(ops:Array Oper)(rest:List Oper)(Q:Exit->St->Prop)(S:St):Prop:=∀a w,Sim w0 G0 S a w->wpList Tryz.prog ops (Bi w0 G0 Q) rest a w
def AWP(w0:World)(G0:Bse)(c:Code)(Q:Exit->St->Prop)(S:St):Prop:=∀a w,Sim w0 G0 S a w->c.wp Tryz.prog (Bi w0 G0 Q) a w
section
variable {w0:World} {G0:Bse} {ops:Array Oper} {rest:List Oper} {Q:Exit->St->Prop} {S:St} {o:Oper}
theorem gf(a:Act)(d:Option Nat)(v:Value)(n:Nat)(c:a.tmps.size=n)(b:cC n d=true)(i:Nat):(a.put d v).tmps.getD i undef=if d=some i then v else a.tmps.getD i undef:=by
 cases d with
 |none=>simp[Act.put]
 |some d=>
  simp only[cC,decide_eq_true_eq]at b;simp only[Act.put,OI];by_cases h:d=i
  ·subst h;rw[if_pos Z,O7,Array.getElem?_setIfInBounds_self_of_lt (by omega)];rfl
  rw[if_neg h,O7,O7,Array.getElem?_setIfInBounds_ne h]
theorem dW(a:Act)(d:Option Nat)(v:Value):(a.put d v).tmps.size=a.tmps.size:=by cases d<;>simp[Act.put]
theorem cU(a:Act)(d:Option Nat)(v:Value):(a.put d v).defers=a.defers:=by cases d<;>rfl
theorem cV(S:St)(d:Option Nat)(t:Tree)(i:Nat):(S.put d t).get i=if d=some i then t else S.get i:=by
 cases d with
 |none=>simp[St.put]
 |some d=>simp only[St.put,St.get,dD,OI]
theorem ee(S:St)(d:Option Nat)(t:Tree):(S.put d t).n=S.n:=by cases d<;>rfl
theorem dE(S:St)(d:Option Nat)(t:Tree):(S.put d t).bs=S.bs:=by cases d<;>rfl
theorem bZ(S:St)(d:Option Nat)(t:Tree):(S.put d t).rs=S.rs:=by cases d<;>rfl
theorem iK{a:Act}{w w':World}{bx:List Nat}{rv:List Value}{t:Tree}{v:Value}{rs:List (Option Row)}(f:a.tmps.size=S.n)(e:cC S.n o.dst=true)(b:∀us ts,FT (en w G0 bx rv S.rs) us ts->FT (en w' G0 bx rv rs) us ts)
  (d:∀i,FT (en w G0 bx rv S.rs) [a.tmps.getD i undef] [S.get i]) (c:FT (en w' G0 bx rv rs) [v] [t]):∀i,FT (en w' G0 bx rv rs) [(a.put o.dst v).tmps.getD i undef] [(S.put o.dst t).get i]:=fun i=>by
 rw[gf a o.dst v S.n f e,cV];split
 ·exact c
 exact b _ _ (d i)
theorem af(h:Q .normal S):AOps w0 G0 ops [] Q S:=fun _ _ a=>⟨S,h,a⟩
theorem vo(d:∀a w,Sim w0 G0 S a w->Region.wanted o (yielded ops a.tmps)=true)(p:cC S.n o.dst=true){t:Tree}(h:OpOK o S t)(k:AOps w0 G0 ops rest Q (S.put o.dst t)):AOps w0 G0 ops (o::rest) Q S:=by
 intro a w f;have d:=d a w f;obtain⟨bx,rv,g,i,c,b⟩:=f;refine eL d fun K j=>?_
 have l:=(h w0 G0 bx rv w (fun s=>a.tmps.getD s undef) g fun s _=>b s).wp (Q:=Bi w0 G0 Q);refine Oper.wp_mono ?_ l;rintro q w' ⟨v,rfl,m,e⟩;refine j _ _ (k _ _ ⟨bx,rv,?_,by rw[dW,ee,i],by rw[cU,c],?_⟩)
 ·rw[dE,bZ];exact g.later e
 rw[bZ];exact iK i p (fun _ _ h=>h.later e) b m
theorem Db(a:o.guard=none)(b:cC S.n o.dst=true){t:Tree}(h:OpOK o S t)(k:AOps w0 G0 ops rest Q (S.put o.dst t)):AOps w0 G0 ops (o::rest) Q S:=
 vo (fun _ _ _=>by simp[Region.wanted,a]) b h k
theorem ae{id:Nat}{ops:List Oper}(h:AOps w0 G0 ops.toArray ops Q S):AWP w0 G0 (.region id ops.toArray false) Q S:=fun a w b=>wp_region_list (by simpa using h a w b)
end
end Go.Proofs.YtfoejfohbkmmeaaGreatDoor
