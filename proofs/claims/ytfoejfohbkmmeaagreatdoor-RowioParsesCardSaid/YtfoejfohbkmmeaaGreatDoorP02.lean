import Derived.Test.YtfoejfohbkmmeaaGreatDoorP01
import Derived.Test.YtfoejfohbkmmeaaGreatDoorP00
import Derived.Deep.AppendLies
import Derived.Laws.AppendOwnNone
namespace Go.Proofs.YtfoejfohbkmmeaaGreatDoor
open Go.RowKit
open Lib renaming hid→J
theorem fQ{P:Program}{o:Oper}{T:Nat->Value}{W W':World}{K:Value->World->Prop}(h:(execOp (dU T) o).run P W=.ok .skip W')(a:K undef W'):OpRuns P o T W K:=by
 unfold OpRuns;rw[h];exact a
theorem rS{P:Program}{id:Nat}{ops:Array Oper}{Q:Exit->Act->World->Prop}{a:Act}{w:World}(d:List (Option Nat))(R:Nat->Value->World->Prop)(cons:Nat->Option Nat)(x:World->Prop)(C:Nat->World->World->Prop)
  (hm:P.follows .mixedOrders=true) (a3:e8 ops=true) (hd:ops.toList.map (·.dst)=d) (u:b4 a.tmps.size d=true) (S:∀j,cons j=none)
  (N:∀i W W',x W->C i W W'->x W') (D:∀i j v W W',x W->R j v W->C i W W'->R j v W') (h0:x w.drew)
  (n:Nat) (V:Oper) (b3:ops.size=n+1) (a5:ops[n]? =some V) (b2:V.guard=none) (a1:V.dst=none) (O:(List.range n).all (fun i=>reach ops n n i)=true)
  (E:Steps P ops d a.tmps R cons x C 0 (ops.toList.take n))
  (U:∀(us:List Value) (W:World),us.length=d.length->(∀j,j<n->R j (us.getD j undef) W)->x W->OpRuns P V (fun s=>(cj a.tmps (d.zip us)).getD s undef) W fun _ W'=>Q .normal ⟨cj a.tmps (d.zip us),a.defers⟩ W'):(Code.region id ops true).wp P Q a w:=by
 have b5:d.length=ops.size:=by rw[<-hd];simp
 have t:∀j,j<n->reach ops n n j=true:=fun j k=>Mh.1 O j (N6.2 k)
 refine fJ (fun L F W=>L.size=ops.size/\Closed ops L/\((L.getD n false=false/\∃us,F=⟨cj a.tmps (d.zip us),a.defers⟩/\MonoAt R cons x (gC a.tmps d) L us W)\/(L.getD n false=true/\Q .normal F W))) hm a3 ⟨by simp,gi ops,.inl ⟨?_,gC a.tmps d,?_,⟨Z,fun j k=>absurd k j9,fun _ _=>rfl,h0⟩⟩⟩ ?_ ?_
 ·cases h:(Array.replicate ops.size false).getD n false with
  |false=>rfl
  |true=>exact absurd h j9
 ·rw[iB]
 ·rintro L F W i o Y h2 M h4 ⟨_,T,q⟩;have hi:i<ops.size:=(MD.1 M).1;have I:L.getD i false=false:=getD_both h2;rcases q with⟨J,us,rfl,q⟩|⟨K,_⟩
  rotate_left
  ·exfalso;by_cases y:i=n
   ·subst y;rw[I]at K;cases K
   have:=T.reach n n i (t i (by omega)) K;rw[I]at this;cases this
  have a2:d[i]? =some o.dst:=by
   rw[<-hd,MN];simp only[Nj,M,Nq]
  have g:us.length=d.length:=by rw[q.len,dK]
  have H:∀n j,j≠i->reach ops n i j=true->L.getD j false=true:=fun n j k A=>by
   have B:=T.step M h4;have:=B.reach n i j A (dX (by omega));rwa[cl (fun e=>k e.symm)]at this
  have X:∀n j,reach ops n j i=true->L.getD j false=false:=fun n j A=>by
   cases hl:L.getD j false with
   |false=>rfl
   |true=>
    have:=T.reach n j i A hl;rw[I]at this;cases this
  by_cases y:i=n
  ·subst y;obtain rfl:o=V:=MW (M.symm.trans a5);have l:=U us W g (fun j k=>q.fact j (H i j (by omega) (t j k)) fun c m=>by rw[S]at m;cases m) q.wi;have hw:Region.wanted o (yielded ops (cj a.tmps (d.zip us)))=true:=by
    unfold Region.wanted;rw[b2]
   simp only[wpList];rw[if_pos hw];refine .inl<|Oper.wp_mono ?_ (l.wp (Q:=Exit.then (fun F W=>(L.setIfInBounds i true).size=ops.size/\Closed ops (L.setIfInBounds i true)/\(((L.setIfInBounds i true).getD i false=false/\∃us,F=⟨cj a.tmps (d.zip us),a.defers⟩/\MonoAt R cons x (gC a.tmps d) (L.setIfInBounds i true) us W)\/((L.setIfInBounds i true).getD i false=true/\Q .normal F W))) Q));rintro a9 a0 ⟨v,e,hQ⟩;rw[a1]at e;subst e;exact⟨by simpa using Y,T.step M h4,.inr ⟨dX (by omega),hQ⟩⟩
  have G:Given ops d a.tmps R cons x i (fun s=>(cj a.tmps (d.zip us)).getD s undef) W:=by
   refine⟨fun s f=>ez d us _ s f,fun n j s f=>?_,fun n j s f=>?_,q.wi⟩
   ·simp only[L8,bne_iff_ne,beq_iff_eq]at f;obtain⟨⟨⟨k,A⟩,z⟩,f⟩:=f;show R j ((cj a.tmps (d.zip us)).getD s undef) W
    rw[(co d us _ j s u g f).1];refine q.fact j (H n j k A) fun c m=>?_
    rw[BD,m]at z;exact X n c z
   simp only[L8,beq_iff_eq]at f;obtain⟨A,f⟩:=f;show(cj a.tmps (d.zip us)).getD s undef=_
   rw[(co d us _ j s u g f).1,q.old j (X n j A),jD _ _ _ _ f]
  have hS:=Steps.at (ops.toList.take n) 0 E i o (by rw[MU,if_pos (by omega)];simpa using M);rw[MT]at hS;obtain⟨hg,l⟩:=hS;have l:=l _ W G;have hw:Region.wanted o (yielded ops (cj a.tmps (d.zip us)))=true:=by
   unfold Region.wanted;cases b1:o.guard with
   |none=>rfl
   |some p=>
    obtain⟨j,b⟩:=p;rw[b1]at hg;obtain⟨n,s,f,hR⟩:=hg;simp only[L8,bne_iff_ne,beq_iff_eq]at f;obtain⟨⟨⟨k,A⟩,z⟩,f⟩:=f;have hv:=hR _ _ (q.fact j (H n j k A) fun c m=>by rw[z]at m;cases m);rw[<-(co d us _ j s u g f).1]at hv;have b0:=(co d us a.tmps j s u g f).2;have a4:(ops[j]?).bind (·.dst)=some s:=by
     rw[<-hd,MN,Nj]at f;cases ho:ops[j]? with
     |none=>simp[ho]at f
     |some oj=>simpa[ho]using f
    have:(cj a.tmps (d.zip us))[s]? =some (.bool b):=by
     have hz:s<(cj a.tmps (d.zip us)).size:=by rw[fb];exact b0
     simp only[MO,MC hz,MG]at hv;rw[MC hz,hv]
    simp only[yielded,a4,M9,this];cases b<;>rfl
  simp only[wpList];rw[if_pos hw];refine .inl<|Oper.wp_mono ?_ l.wp;rintro a9 a0 ⟨v,e,hR,hE⟩;refine⟨by simpa using Y,T.step M h4,.inl ⟨by rw[cl y];exact J,us.set i v,?_,⟨by simpa using q.len,fun j k m=>?_,fun j k=>?_,N _ _ _ q.wi hE⟩⟩⟩
  ·rw[e];exact iX d us _ _ i _ v u g a2
  ·by_cases r:i=j
   ·subst r;have:(us.set i v).getD i undef=v:=by simp[List.getD,show i<us.length by omega]
    rw[this];exact hR
   rw[cl r]at k;have:(us.set i v).getD j undef=us.getD j undef:=by simp[List.getD,r]
   rw[this];exact D i j _ _ _ q.wi (q.fact j k fun c B=>by rw[S]at B;cases B) hE
  by_cases r:i=j
  ·subst r;rw[dX (by omega)]at k;cases k
  rw[cl r]at k;have:(us.set i v).getD j undef=us.getD j undef:=by simp[List.getD,r]
  rw[this];exact q.old j k
 rintro L F W Y ⟨_,_,q⟩;rcases q with⟨J,_⟩|⟨_,hQ⟩
 ·have:=Y n (by omega);rw[J]at this;cases this
 exact hQ
inductive Tree where
 |any
 |sc (v:Value)
 |sl (es:List Tree)
 |tl (es:List Tree)
 |agg (cs:List Tree)
 |tup (ts:List Tree)
 |ref (cs:List Tree)
 |box (b off:Nat)
 |own (k:Nat)
 |elp (k off:Nat)
def Tree.cells:Tree->List Tree
 | .agg cs=>cs
 |t=>[t]
def flat(es:List Tree):List Tree:=es.flatMap Tree.cells
theorem eN(e:Tree)(es:List Tree):flat (e::es)=e.cells++flat es:=rfl
theorem iY(a b:List Tree):flat (a++b)=flat a++flat b:=by simp[flat]
def Sized(n:Nat)(es:List Tree):Prop:=∀e∈es,e.cells.length=n
theorem Sized.tail{n:Nat}{e:Tree}{es:List Tree}(h:Sized n (e::es)):Sized n es:=fun x a=>h x (Ms _ a)
theorem Sized.flat{n:Nat}:∀{es:List Tree},Sized n es->(flat es).length=es.length*n
 |[],_=>by simp[Go.Proofs.YtfoejfohbkmmeaaGreatDoor.flat]
 |e::es,h=>by rw[eN,Mb,h e (Ml ..),Sized.flat h.tail,L9,M5];omega
theorem Sized.append{n:Nat}{a b:List Tree}(h:Sized n a)(e:Sized n b):Sized n (a++b):=fun x d=>by
 rcases Mw.1 d with c|c
 ·exact h x c
 exact e x c
theorem Sized.map{n:Nat}{α:Type}(f:α->Tree)(l:List α)(h:∀a,(f a).cells.length=n):Sized n (l.map f):=fun x b=>by
 obtain⟨a,_,rfl⟩:=NA.1 b;exact h a
theorem Sized.take{n:Nat}{es:List Tree}(h:Sized n es)(k:Nat):Sized n (es.take k):=fun x a=>h x (ME a)
theorem BE{n:Nat}:∀{es:List Tree},Sized n es->∀(i:Nat) (h:i<es.length) (j:Nat),j<n->(flat es)[i*n+j]? =es[i].cells[j]?
 |e::es,hs,0,_,j,hj=>by
  rw[eN,Pv,MT,My (by rw[hs e (Ml ..)];exact hj)];rfl
 |e::es,hs,i+1,h,j,hj=>by
  have:=BE hs.tail i (by simpa using h) j hj;rw[eN,Mz (by rw[hs e (Ml ..),M5];omega),hs e (Ml ..),show(i+1)*n+j-n=i*n+j by rw[M5];omega,this];rfl
theorem mP{n:Nat}:∀{es:List Tree},Sized n es->∀k,flat (es.take k)=(flat es).take (k*n)
 |[],_,k=>by simp[flat]
 |e::es,hs,0=>by simp[flat]
 |e::es,hs,k+1=>by
  have a:e.cells.length=n:=hs e (Ml ..);rw[NR,eN,eN,mP hs.tail k,OW,a];rw[Me (l:=e.cells) (by rw[a,M5];omega),show(k+1)*n-n=k*n by rw[M5];omega]
theorem kJ{n:Nat}:∀{es:List Tree},Sized n es->∀k,flat (es.drop k)=(flat es).drop (k*n)
 |[],_,k=>by simp[flat]
 |e::es,hs,0=>by simp
 |e::es,hs,k+1=>by
  have a:e.cells.length=n:=hs e (Ml ..);rw[Ob,eN,kJ hs.tail k,PS,a];rw[Md (l:=e.cells) (by rw[a,M5];omega),show(k+1)*n-n=k*n by rw[M5];omega,MI]
inductive PT (W:World) (G:Nat->Prop):List Value->List Tree->Prop
 |nil:PT W G [] []
 |sc {us:List Value} {ts:List Tree} (v:Value) (h:PT W G us ts):PT W G (v::us) (.sc v::ts)
 |sl0 {us:List Value} {ts:List Tree} (A:Option Addr) (c:Nat) (hA:A=none->c=0) (hm:c<=9223372036854775807) (h:PT W G us ts):PT W G (.slice A 0 c::us) (.sl []::ts)
 |sl {us:List Value} {ts:List Tree} (b off c n:Nat) (xs:List Value) (es:List Tree) (hb:b<W.heap.size) (hG:¬G b) (hc:∀(j:Nat) u,xs[j]? =some u->W.cell? ⟨b,off+j,none⟩=some u) (hl:n=es.length) (hn:es.length<=c) (hm:c<=9223372036854775807) (hx:PT W G xs (flat es)) (h:PT W G us ts):PT W G (.slice (some ⟨b,off,none⟩) n c::us) (.sl es::ts)
 |tl {us:List Value} {ts:List Tree} (A:Option Addr) (n:Nat) (es:List Tree) (hl:n=es.length) (hs:PT W G [.slice A n n] [.sl es]) (h:PT W G us ts):PT W G (.slice A n n::us) (.tl es::ts)
 |agg {us:List Value} {ts:List Tree} (xs:List Value) (cs:List Tree) (hx:PT W G xs cs) (h:PT W G us ts):PT W G (.agg xs.toArray::us) (.agg cs::ts)
 |tup {us:List Value} {ts:List Tree} (xs:List Value) (cs:List Tree) (hx:PT W G xs cs) (h:PT W G us ts):PT W G (.tuple xs.toArray::us) (.tup cs::ts)
 |ref {us:List Value} {ts:List Tree} (b off:Nat) (xs:List Value) (cs:List Tree) (hb:b<W.heap.size) (hG:¬G b) (hc:∀(j:Nat) u,xs[j]? =some u->W.cell? ⟨b,off+j,none⟩=some u) (hx:PT W G xs cs) (h:PT W G us ts):PT W G (.pointer (some ⟨b,off,none⟩)::us) (.ref cs::ts)
section
variable {W W':World} {G G':Nat->Prop} {us:List Value} {ts:List Tree}
theorem PT.mono(h:PT W G us ts)(e:W.heap.size<=W'.heap.size)(a:∀b,b<W.heap.size->¬G b->W'.heap[b]? =W.heap[b]? /\¬G' b):PT W' G' us ts:=by
 induction h with
 |nil=>exact .nil
 |sc v _ ih=>exact .sc v ih
 |sl0 A c hA hm _ ih=>exact .sl0 A c hA hm ih
 |sl b off c n xs es hb hG hc hl hn hm _ _ ih1 ih2=>exact .sl b off c n xs es (by omega) (a b hb hG).2 (fun j u d=>by rw[<-hc j u d];exact World.cell?_of_block (a b hb hG).1) hl hn hm ih1 ih2
 |tl A n es hl _ _ ih1 ih2=>exact .tl A n es hl ih1 ih2
 |agg xs cs _ _ ih1 ih2=>exact .agg xs cs ih1 ih2
 |tup xs cs _ _ ih1 ih2=>exact .tup xs cs ih1 ih2
 |ref b off xs cs hb hG hc _ _ ih1 ih2=>exact .ref b off xs cs (by omega) (a b hb hG).2 (fun j u d=>by rw[<-hc j u d];exact World.cell?_of_block (a b hb hG).1) ih1 ih2
theorem PT.later(h:PT W G us ts)(c:Below W.heap.size W W'):PT W' G us ts:=h.mono c.size fun b a d=>⟨c.block b a,d⟩
theorem PT.length(h:PT W G us ts):us.length=ts.length:=by induction h<;>simp_all
theorem PT.head{u:Value}{t:Tree}(h:PT W G (u::us) (t::ts)):PT W G [u] [t]:=by
 cases h with
 |sc=>exact .sc _ .nil
 |sl0 A c hA hm _=>exact .sl0 A c hA hm .nil
 |sl b off c n xs es hb hG hc hl hn hm hx _=>exact .sl b off c n xs es hb hG hc hl hn hm hx .nil
 |tl A n es hl hs _=>exact .tl A n es hl hs .nil
 |agg xs cs hx _=>exact .agg xs cs hx .nil
 |tup xs cs hx _=>exact .tup xs cs hx .nil
 |ref b off xs cs hb hG hc hx _=>exact .ref b off xs cs hb hG hc hx .nil
theorem PT.tail{u:Value}{t:Tree}(h:PT W G (u::us) (t::ts)):PT W G us ts:=by
 cases h<;>assumption
theorem PT.cons{u:Value}{t:Tree}(h:PT W G [u] [t])(a:PT W G us ts):PT W G (u::us) (t::ts):=by
 cases h with
 |sc=>exact .sc _ a
 |sl0 A c hA hm _=>exact .sl0 A c hA hm a
 |sl b off c n xs es hb hG hc hl hn hm hx _=>exact .sl b off c n xs es hb hG hc hl hn hm hx a
 |tl A n es hl hs _=>exact .tl A n es hl hs a
 |agg xs cs hx _=>exact .agg xs cs hx a
 |tup xs cs hx _=>exact .tup xs cs hx a
 |ref b off xs cs hb hG hc hx _=>exact .ref b off xs cs hb hG hc hx a
end
theorem PT.append{W:World}{G:Nat->Prop}:∀{us vs:List Value} {ts a:List Tree},PT W G us ts->PT W G vs a->PT W G (us++vs) (ts++a)
 |[],_,[],_,_,h'=>h'
 |[],_,t::ts,_,h,_=>by cases h
 |u::us,_,[],_,h,_=>by cases h
 |u::us,_,t::ts,_,h,h'=>h.head.cons (PT.append h.tail h')
theorem PT.take{W:World}{G:Nat->Prop}:∀{us:List Value} {ts:List Tree} (k:Nat),PT W G us ts->PT W G (us.take k) (ts.take k)
 |[],[],k,_=>by simpa using .nil
 |[],t::ts,_,h=>by cases h
 |u::us,[],_,h=>by cases h
 |u::us,t::ts,0,_=>.nil
 |u::us,t::ts,k+1,h=>h.head.cons (PT.take k h.tail)
theorem PT.drop{W:World}{G:Nat->Prop}:∀{us:List Value} {ts:List Tree} (k:Nat),PT W G us ts->PT W G (us.drop k) (ts.drop k)
 |[],[],k,_=>by simpa using .nil
 |[],t::ts,_,h=>by cases h
 |u::us,[],_,h=>by cases h
 |u::us,t::ts,0,h=>h
 |u::us,t::ts,k+1,h=>PT.drop k h.tail
theorem PT.get{W:World}{G:Nat->Prop}:∀{us:List Value} {ts:List Tree},PT W G us ts->∀(i:Nat) (t:Tree),ts[i]? =some t->∃u,us[i]? =some u/\PT W G [u] [t]
 |[],[],_,i,t,h=>by simp at h
 |[],_::_,h,_,_,_=>by cases h
 |_::_,[],h,_,_,_=>by cases h
 |u::us,t::ts,h,0,s,e=>by
  simp only[MV,MK]at e;subst e;exact⟨u,Z,h.head⟩
 |u::us,t::ts,h,i+1,s,e=>by
  obtain⟨v,b,a⟩:=h.tail.get i s (by simpa using e);exact⟨v,by simpa using b,a⟩
theorem PT.slice{W:World}{G:Nat->Prop}{v:Value}{es:List Tree}(h:PT W G [v] [.sl es]):∃A c,v=.slice A es.length c/\es.length<=c/\c<=9223372036854775807/\(A=none->c=0)/\(0<es.length->∃b off xs,A=some ⟨b,off,none⟩/\b<W.heap.size/\¬G b/\(∀(j:Nat) u,xs[j]? =some u->W.cell? ⟨b,off+j,none⟩=some u)/\PT W G xs (flat es)):=by
 cases h with
 |sl0 A c hA hm _=>exact⟨A,c,Z,by simp,hm,hA,fun h=>by simp at h⟩
 |sl b off c n xs es hb hG hc hl hn hm hx _=>subst hl;exact⟨_,c,Z,hn,hm,(fun e=>by cases e),fun _=>⟨b,off,xs,Z,hb,hG,hc,hx⟩⟩
structure En where
 W:World
 G:Nat->Prop
 bx:Nat->Option Nat
 rv:Nat->Option Value
inductive FT (E:En):List Value->List Tree->Prop
 |nil:FT E [] []
 |pure {us:List Value} {ts:List Tree} {v:Value} {t:Tree} (h:PT E.W E.G [v] [t]) (hs:FT E us ts):FT E (v::us) (t::ts)
 |any {us:List Value} {ts:List Tree} (v:Value) (hs:FT E us ts):FT E (v::us) (.any::ts)
 |box {us:List Value} {ts:List Tree} (b off g:Nat) (hb:E.bx b=some g) (hs:FT E us ts):FT E (.pointer (some ⟨g,off,none⟩)::us) (.box b off::ts)
 |own {us:List Value} {ts:List Tree} (k n c:Nat) (A:Option Addr) (hv:E.rv k=some (.slice A n c)) (hs:FT E us ts):FT E (.slice A n c::us) (.own k::ts)
 |elp {us:List Value} {ts:List Tree} (k off g n c:Nat) (hv:E.rv k=some (.slice (some ⟨g,0,none⟩) n c)) (hs:FT E us ts):FT E (.pointer (some ⟨g,off,none⟩)::us) (.elp k off::ts)
 |agg {us:List Value} {ts:List Tree} (xs:List Value) (cs:List Tree) (hx:FT E xs cs) (hs:FT E us ts):FT E (.agg xs.toArray::us) (.agg cs::ts)
 |tup {us:List Value} {ts:List Tree} (xs:List Value) (cs:List Tree) (hx:FT E xs cs) (hs:FT E us ts):FT E (.tuple xs.toArray::us) (.tup cs::ts)
section
variable {E E':En} {us:List Value} {ts:List Tree}
theorem FT.mono(h:FT E us ts)(d:E.W.heap.size<=E'.W.heap.size)(f:∀b,b<E.W.heap.size->¬E.G b->E'.W.heap[b]? =E.W.heap[b]? /\¬E'.G b)(e:∀b g,E.bx b=some g->E'.bx b=some g)(a:∀k v,E.rv k=some v->E'.rv k=some v):FT E' us ts:=by
 induction h with
 |nil=>exact .nil
 |pure h _ ih=>exact .pure (h.mono d f) ih
 |any v _ ih=>exact .any v ih
 |box b off g h _ ih=>exact .box b off g (e b g h) ih
 |own k n c A h _ ih=>exact .own k n c A (a k _ h) ih
 |elp k off g n c h _ ih=>exact .elp k off g n c (a k _ h) ih
 |agg xs cs _ _ ih1 ih2=>exact .agg xs cs ih1 ih2
 |tup xs cs _ _ ih1 ih2=>exact .tup xs cs ih1 ih2
theorem FT.length(h:FT E us ts):us.length=ts.length:=by induction h<;>simp_all
theorem FT.head{u:Value}{t:Tree}(h:FT E (u::us) (t::ts)):FT E [u] [t]:=by
 cases h with
 |pure h _=>exact .pure h .nil
 |any=>exact .any _ .nil
 |box b off g h _=>exact .box b off g h .nil
 |own k n c A h _=>exact .own k n c A h .nil
 |elp k off g n c h _=>exact .elp k off g n c h .nil
 |agg xs cs hx _=>exact .agg xs cs hx .nil
 |tup xs cs hx _=>exact .tup xs cs hx .nil
theorem FT.tail{u:Value}{t:Tree}(h:FT E (u::us) (t::ts)):FT E us ts:=by cases h<;>assumption
theorem FT.cons{u:Value}{t:Tree}(h:FT E [u] [t])(a:FT E us ts):FT E (u::us) (t::ts):=by
 cases h with
 |pure h _=>exact .pure h a
 |any=>exact .any _ a
 |box b off g h _=>exact .box b off g h a
 |own k n c A h _=>exact .own k n c A h a
 |elp k off g n c h _=>exact .elp k off g n c h a
 |agg xs cs hx _=>exact .agg xs cs hx a
 |tup xs cs hx _=>exact .tup xs cs hx a
end
theorem FT.of:∀{E:En} {us:List Value} {ts:List Tree},PT E.W E.G us ts->FT E us ts
 |_,[],[],_=>.nil
 |_,[],_::_,h=>by cases h
 |_,_::_,[],h=>by cases h
 |_,u::us,t::ts,h=>.pure h.head (FT.of h.tail)
theorem FT.get{E:En}:∀{us:List Value} {ts:List Tree},FT E us ts->∀(i:Nat) (t:Tree),ts[i]? =some t->∃u,us[i]? =some u/\FT E [u] [t]
 |[],[],_,i,t,h=>by simp at h
 |[],_::_,h,_,_,_=>by cases h
 |_::_,[],h,_,_,_=>by cases h
 |u::us,t::ts,h,0,s,e=>by
  simp only[MV,MK]at e;subst e;exact⟨u,Z,h.head⟩
 |u::us,t::ts,h,i+1,s,e=>by
  obtain⟨v,b,a⟩:=h.tail.get i s (by simpa using e);exact⟨v,by simpa using b,a⟩
theorem FT.take{E:En}:∀{us:List Value} {ts:List Tree} (k:Nat),FT E us ts->FT E (us.take k) (ts.take k)
 |[],[],k,_=>by simpa using .nil
 |[],t::ts,_,h=>by cases h
 |u::us,[],_,h=>by cases h
 |u::us,t::ts,0,_=>.nil
 |u::us,t::ts,k+1,h=>h.head.cons (FT.take k h.tail)
theorem FT.drop{E:En}:∀{us:List Value} {ts:List Tree} (k:Nat),FT E us ts->FT E (us.drop k) (ts.drop k)
 |[],[],k,_=>by simpa using .nil
 |[],t::ts,_,h=>by cases h
 |u::us,[],_,h=>by cases h
 |u::us,t::ts,0,h=>h
 |u::us,t::ts,k+1,h=>FT.drop k h.tail
theorem FT.append{E:En}:∀{us vs:List Value} {ts a:List Tree},FT E us ts->FT E vs a->FT E (us++vs) (ts++a)
 |[],_,[],_,_,h'=>h'
 |[],_,t::ts,_,h,_=>by cases h
 |u::us,_,[],_,h,_=>by cases h
 |u::us,_,t::ts,_,h,h'=>h.head.cons (FT.append h.tail h')
section
variable {E:En} {v:Value}
theorem FT.isSc{x:Value}(h:FT E [v] [.sc x]):v=x:=by
 cases h with
 |pure h _=>cases h;rfl
theorem FT.isSl{es:List Tree}(h:FT E [v] [.sl es]):PT E.W E.G [v] [.sl es]:=by
 cases h with
 |pure h _=>exact h
theorem FT.isTl{es:List Tree}(h:FT E [v] [.tl es]):PT E.W E.G [v] [.tl es]:=by
 cases h with
 |pure h _=>exact h
theorem FT.isRef{cs:List Tree}(h:FT E [v] [.ref cs]):∃b off xs,v=.pointer (some ⟨b,off,none⟩)/\b<E.W.heap.size/\¬E.G b/\(∀(j:Nat) u,xs[j]? =some u->E.W.cell? ⟨b,off+j,none⟩=some u)/\PT E.W E.G xs cs:=by
 cases h with
 |pure h _=>
  cases h with
  |ref b off xs cs hb hG hc hx _=>exact⟨b,off,xs,Z,hb,hG,hc,hx⟩
theorem FT.isAgg{cs:List Tree}(h:FT E [v] [.agg cs]):∃xs,v=.agg xs.toArray/\FT E xs cs:=by
 cases h with
 |pure h _=>
  cases h with
  |agg xs cs hx _=>exact⟨xs,Z,.of hx⟩
 |agg xs cs hx _=>exact⟨xs,Z,hx⟩
theorem FT.isTup{cs:List Tree}(h:FT E [v] [.tup cs]):∃xs,v=.tuple xs.toArray/\FT E xs cs:=by
 cases h with
 |pure h _=>
  cases h with
  |tup xs cs hx _=>exact⟨xs,Z,.of hx⟩
 |tup xs cs hx _=>exact⟨xs,Z,hx⟩
theorem FT.isBox{b off:Nat}(h:FT E [v] [.box b off]):∃g,E.bx b=some g/\v=.pointer (some ⟨g,off,none⟩):=by
 cases h with
 |pure h _=>cases h
 |box b off g hb _=>exact⟨g,hb,Z⟩
theorem FT.isOwn{k:Nat}(h:FT E [v] [.own k]):E.rv k=some v/\∃A n c,v=.slice A n c:=by
 cases h with
 |pure h _=>cases h
 |own k n c A hv _=>exact⟨hv,A,n,c,Z⟩
theorem FT.isElp{k off:Nat}(h:FT E [v] [.elp k off]):∃g n c,E.rv k=some (.slice (some ⟨g,0,none⟩) n c)/\v=.pointer (some ⟨g,off,none⟩):=by
 cases h with
 |pure h _=>cases h
 |elp k off g n c hv _=>exact⟨g,n,c,hv,Z⟩
end
def Tree.plain0:Tree->Bool
 | .sc _| .sl _| .tl _| .ref _=>true
 |_=>false
def Tree.plain:Tree->Bool
 | .sc _| .sl _| .tl _| .ref _=>true
 | .agg cs=>cs.all Tree.plain0
 | .tup cs=>cs.all fun t=>match t with
  | .agg ds=>ds.all Tree.plain0
  |t=>t.plain0
 |_=>false
def Tree.one:Tree->Bool
 | .sc v=>v.oneCell'
 | .sl _| .tl _| .ref _| .box _ _| .own _| .elp _ _=>true
 |_=>false
theorem FT.one{E:En}{v:Value}{t:Tree}(h:FT E [v] [t])(a:t.one=true):v.oneCell'=true:=by
 cases h with
 |pure h _=>
  cases h with
  |sc=>exact a
  |sl0=>rfl
  |sl=>rfl
  |tl=>rfl
  |agg=>simp[Tree.one]at a
  |tup=>simp[Tree.one]at a
  |ref=>rfl
 |any=>simp[Tree.one]at a
 |box=>rfl
 |own=>rfl
 |elp=>rfl
 |agg=>simp[Tree.one]at a
 |tup=>simp[Tree.one]at a
theorem FT.ones{E:En}:∀{us:List Value} {ts:List Tree},FT E us ts->ts.all Tree.one=true->∀u∈us,u.oneCell'=true
 |[],[],_,_,u,a=>by simp at a
 |[],_::_,h,_,_,_=>by cases h
 |_::_,[],h,_,_,_=>by cases h
 |x::us,t::ts,h,hp,u,a=>by
  simp only[Ny,L8]at hp;rcases Mi.1 a with rfl|a
  ·exact h.head.one hp.1
  exact FT.ones h.tail hp.2 u a
theorem FT.plain0{E:En}{v:Value}{t:Tree}(h:FT E [v] [t])(a:t.plain0=true):PT E.W E.G [v] [t]:=by
 cases t<;>simp only[Tree.plain0,N2]at a<;>cases h<;>assumption
theorem FT.plain0s{E:En}:∀{us:List Value} {ts:List Tree},FT E us ts->ts.all Tree.plain0=true->PT E.W E.G us ts
 |[],[],_,_=>.nil
 |[],_::_,h,_=>by cases h
 |_::_,[],h,_=>by cases h
 |u::us,t::ts,h,hp=>by
  simp only[Ny,L8]at hp;exact(h.head.plain0 hp.1).cons (FT.plain0s h.tail hp.2)
theorem FT.plain1{E:En}{v:Value}{cs:List Tree}(h:FT E [v] [.agg cs])(b:cs.all Tree.plain0=true):PT E.W E.G [v] [.agg cs]:=by
 obtain⟨xs,rfl,a⟩:=h.isAgg;exact .agg xs cs (a.plain0s b) .nil
theorem FT.plain{E:En}{v:Value}{t:Tree}(h:FT E [v] [t])(a:t.plain=true):PT E.W E.G [v] [t]:=by
 cases t with
 |sc _=>exact h.plain0 Z
 |sl _=>exact h.plain0 Z
 |tl _=>exact h.plain0 Z
 |ref _=>exact h.plain0 Z
 |agg cs=>exact h.plain1 a
 |tup cs=>
  obtain⟨xs,rfl,b⟩:=h.isTup;refine .tup xs cs ?_ .nil;clear h;simp only[Tree.plain]at a;induction cs generalizing xs with
  |nil=>cases b;exact .nil
  |cons c cs ih=>
   cases xs with
   |nil=>cases b
   |cons x xs=>
    simp only[Ny,L8]at a;refine PT.cons ?_ (ih a.2 xs b.tail);have d:=b.head;cases c with
    |agg ds=>exact d.plain1 a.1
    |_=>exact d.plain0 a.1
 |_=>simp[Tree.plain]at a
theorem FT.plains{E:En}:∀{us:List Value} {ts:List Tree},FT E us ts->ts.all Tree.plain=true->PT E.W E.G us ts
 |[],[],_,_=>.nil
 |[],_::_,h,_=>by cases h
 |_::_,[],h,_=>by cases h
 |u::us,t::ts,h,hp=>by
  simp only[Ny,L8]at hp;exact(h.head.plain hp.1).cons (FT.plains h.tail hp.2)
theorem C5:(Tryz.prog.info? 5).map (fun i=>(i.zero,i.size,i.bytes))=some (some (.int .u8 0),1,1):=by kernel_rfl
theorem eA{w w':World}{base:Nat}{e:TypeId}{size n:Nat}{v:Value}{xs:List Value}(h:w.ownsRow base e size v n xs)(a:Below w.heap.size w w'):w'.ownsRow base e size v n xs:=
 h.kept (row:=none) ⟨a.os,a.tape,a.output,a.size,fun i b _=>a.block i b⟩ (by cases v.ownBlock<;>simp)
def LB(v:Value)(k:Nat):Prop:=v.ownBlock≠some k
structure Grew (w w':World) (base:Nat) (v v':Value):Prop where
 size:w.heap.size<=w'.heap.size
 kept:∀k,k<w.heap.size->LB v k->w'.heap[k]? =w.heap[k]?
 far:∀k,k<w.heap.size->LB v k->LB v' k
 below:Below base w w'
theorem fc{w w':World}{base:Nat}{e:TypeId}{size n g:Nat}{v:Value}{xs:List Value}(h:w.ownsRow base e size v n xs)(c:v.ownBlock≠some g)(f:∀k,k≠g->w'.heap[k]? =w.heap[k]?):w'.ownsRow base e size v n xs:=by
 refine⟨h.1,?_⟩;rcases h.2 with d|⟨b,a,cur,rfl,j,i,l⟩
 ·exact .inl d
 refine .inr ⟨b,a,cur,Z,j,?_,l⟩;rw[f b (fun e=>c (by rw[e];rfl))];exact i
theorem xr{w c w':World}{base:Nat}{v v':Value}{e:TypeId}{size n:Nat}{xs:List Value}(d:w.ownsRow base e size v n xs)(f:∃o,c=w.alloc o\/c=w)(b:c.grownBy w' v.ownBlock)(j:v'.ownBlock=v.ownBlock\/v'.ownBlock=some c.heap.size)(a:base<=w.heap.size):Grew w w' base v v':=by
 have m:w.heap.size<=c.heap.size:=by rcases f with⟨o,rfl|rfl⟩<;>simp
 have i:∀k,k<w.heap.size->c.heap[k]? =w.heap[k]? :=fun k i=>by
  rcases f with⟨o,rfl|rfl⟩
  ·exact Below.heap_alloc w o k i
  rfl
 have p:Below w.heap.size w c:=by
  rcases f with⟨o,rfl|rfl⟩
  ·exact(Below.refl _ _).alloc (L4 _) _
  exact Below.refl _ _
 refine⟨Ma m b.size,fun k l g=>(b.block k (by omega) (fun e=>g e.symm)).trans (i k l),fun k l g e=>?_,(p.mono a).grown b (by omega) (fun k e=>(d.lt k e).1)⟩;rcases j with h|h<;>rw[h]at e
 ·exact g e
 injection e with e;omega
theorem eu{P:Program}{ops:Array Oper}{rest:List Oper}{o:Oper}{a:Act}{w:World}{Q:Exit->Act->World->Prop}(c:Region.wanted o (yielded ops a.tmps)=true)
  (h:∀K:Act->World->Prop,(∀b w',wpList P ops Q rest b w'->K b w')->o.wp P a w K Q):wpList P ops Q (o::rest) a w:=by
 unfold wpList;rw[if_pos c];exact .inl (h _ fun _ _ h=>h)
theorem At.news{w:World}{B:Nat}{a:Addr}{xs:List Value}(h:At w B (some a) xs):∀j u,xs[j]? =some u->w.cell? (a.add j)=some u:=fun j u c=>by
 have f:0<xs.length:=by have:=(L6.1 c).1;omega
 obtain⟨b,off,e,_,d⟩:=h f;injection e with e
 subst e;rw[show(⟨b,off,none⟩:Addr).add j=⟨b,off+j,none⟩from by unfold Addr.add;split<;>simp_all];exact d j u c
theorem Hj{ops:Array Oper}{rest:List Oper}{o:Oper}{a:Act}{Q:Exit->Act->World->Prop}{w:World}(s x:Operand)(t e:TypeId)(i:TypeInfo)(z:Value)(size b:Nat)
  (E:o.op=.call {callee:=.builtin .append,args:=#[s,x],argTypes:=#[t,t]}) (M:Region.wanted o (yielded ops a.tmps)=true)
  (H:Tryz.prog.underlying t=some (.slice e)) (F:Tryz.prog.info? e=some i) (J:i.zero=some z) (j:i.size=size) (p:i.bytes=b) (q:z.cells.size=size) (B:0<size)
  (base:Nat) (v:Value) (n:Nat) (xs:List Value) (I:a.eval s=v) (d:w.ownsRow base e size v n xs) (A:Option Addr) (m c:Nat) (news:List Value) (C:a.eval x=.slice A m c) (y:At w w.heap.size A news)
  (D:news.length=m*size) (k:A=none->m=0/\c=0) (L:∀u∈news,u.oneCell'=true) (r:n+m<=maxLen) (g:(n+m)*b<=140737488355328) (f:base<=w.heap.size)
  (h:∀v' w',w'.ownsRow base e size v' (n+m) (xs++news)->Grew w w' base v v'->wpList Tryz.prog ops Q rest (a.put o.dst v') w'):wpList Tryz.prog ops Q (o::rest) a w:=by
 refine eu M fun K G=>?_
 cases A with
 |none=>
  obtain⟨rfl,rfl⟩:=k rfl;have S:news=[]:=Mr (by simpa using D);subst S;have l:=run_append_owned_none (P:=Tryz.prog) (w:=w) base t o.type e i size H F v n xs d;unfold Oper.wp;simp only[execOp,E,resolve,invoke,builtin,Sem.run_bind,Sem.run_pure,Result.andThen_ok,NP,M3,NV,I,C,l];exact G _ _ (h v w (by simpa using d) ⟨L4 _,fun _ _ _=>rfl,fun _ _ h=>h,Below.refl _ _⟩)
 |some ad=>
  obtain⟨v',w',R,N,T,_,O⟩:=run_append_own_at (P:=Tryz.prog) w base t o.type e i z size b H F J j p q B v n xs d ad m c news D y.news L r g f;unfold Oper.wp execOp;simp only[E,resolve,invoke,builtin,Sem.run_bind,Sem.run_pure,Result.andThen_ok,NP,M3,NV,I,C,R];exact G _ _ (h v' w' N (xr d ⟨.cells #[] 0,.inr Z⟩ T O f))
structure Row where
 e:TypeId
 sz:Nat
 es:List Tree
 tt:Bool
structure St where
 n:Nat
 sl:List (Nat×Tree)
 bs:List (TypeId×List Tree)
 rs:List (Option Row)
def look:List (Nat×Tree)->Nat->Tree
 |[],_=>.any
 |(i,t)::l,j=>cond (Nat.beq i j) t (look l j)
theorem cZ(i:Nat)(t:Tree)(l:List (Nat×Tree))(j:Nat):look ((i,t)::l) j=if i=j then t else look l j:=by
 simp only[look];by_cases h:i=j
 ·subst h;simp
 rw[if_neg h];have:Nat.beq i j=false:=by
  cases a:Nat.beq i j with
  |false=>rfl
  |true=>exact absurd (Oh a) h
 rw[this];rfl
def St.get(S:St)(i:Nat):Tree:=look S.sl i
def St.put(S:St)(d:Option Nat)(t:Tree):St:=
 match d with
 |some d=>{S with sl:=(d,t)::S.sl}
 |none=>S
def St.ev(S:St):Operand->Tree
 | .tmp s=>S.get s
 | .const v=>.sc v
 | .global g=>.sc (.pointer (some ⟨g,0,none⟩))
 | .func f=>.sc (.func (.func f) #[] #[])
def dM(n:Nat):Option Nat->Bool
 |some d=>decide (d<n)
 |none=>true
def bQ:Value->Bool
 | .int .u32 _=>false
 |_=>true
def NoDigB(w:World)(g:Nat):Prop:=∀i u,w.cell? ⟨g,i,none⟩=some u->bQ u=true
theorem NoDigB.of{w w':World}{g:Nat}(h:NoDigB w g)(b:w'.heap[g]? =w.heap[g]?):NoDigB w' g:=fun i u a=>h i u (by rw[<-a];exact(World.cell?_of_block b).symm)
def nR(v:Value):Prop:=∀A m c,v=.slice A m c->c=m
def cR(bx:List Nat)(rv:List Value)(rs:List (Option Row)):List Nat:=bx++(rv.zip rs).filterMap fun p=>p.2.bind fun _=>p.1.ownBlock
structure Bse where
 G:Nat->Prop
 X:Nat->Prop
 pn:Nat
 P:Nat->Nat
def pln(G:Nat->Prop):Bse:=⟨G,fun _=>False,0,fun _=>0⟩
structure Kept (w0:World) (X:Nat->Prop) (w:World):Prop where
 os:w.os=w0.os
 tape:w.tape=w0.tape
 output:w.output=w0.output
 size:w0.heap.size<=w.heap.size
 block:∀k,k<w0.heap.size->¬X k->w.heap[k]? =w0.heap[k]?
theorem Kept.refl(w:World)(X:Nat->Prop):Kept w X w:=⟨Z,Z,Z,L4 _,fun _ _ _=>rfl⟩
theorem Kept.then{w0 w w':World}{X:Nat->Prop}(h:Kept w0 X w)(a:Below w.heap.size w w'):Kept w0 X w':=⟨a.os.trans h.os,a.tape.trans h.tape,a.output.trans h.output,Ma h.size a.size,fun k b c=>(a.block k (Mj b h.size)).trans (h.block k b c)⟩
theorem Kept.grown{w0 w w':World}{X:Nat->Prop}{row:Option Nat}(h:Kept w0 X w)(a:w.grownBy w' row)(f:∀k,row=some k->w0.heap.size<=k\/X k):Kept w0 X w':=⟨a.os.trans h.os,a.tape.trans h.tape,a.output.trans h.output,Ma h.size a.size,fun k b c=>(a.block k (Mj b h.size) (fun e=>by rcases f k e.symm with d|d;(· omega);exact c d)).trans (h.block k b c)⟩
theorem Kept.below{w0 w:World}(h:Kept w0 (fun _=>False) w):Below w0.heap.size w0 w:=⟨h.os,h.tape,h.output,h.size,fun k a=>h.block k a id⟩
theorem Kept.of{w0 w:World}{X:Nat->Prop}(h:Below w0.heap.size w0 w):Kept w0 X w:=⟨h.os,h.tape,h.output,h.size,fun k a _=>h.block k a⟩
def EnvX(w0:World)(X:Nat->Prop):Prop:=∃wE,Env wE/\Below wE.heap.size wE w0/\∀b,X b->wE.heap.size<=b
theorem EnvX.pln{w:World}(h:Env w):EnvX w (fun _=>False):=⟨w,h,Below.refl _ _,fun _ h=>h.elim⟩
theorem EnvX.at{w0 w:World}{X:Nat->Prop}(h:EnvX w0 X)(d:Kept w0 X w):∃c,Env c/\Below c.heap.size c w/\c.heap.size<=w0.heap.size/\∀b,X b->c.heap.size<=b:=by
 obtain⟨c,i,a,f⟩:=h;exact⟨c,i,⟨d.os.trans a.os,d.tape.trans a.tape,d.output.trans a.output,Ma a.size d.size,fun k e=>(d.block k (Mj e a.size) fun g=>by have:=f k g;omega).trans (a.block k e)⟩,a.size,f⟩
theorem EnvX.env{w0 w:World}{X:Nat->Prop}(h:EnvX w0 X)(c:Kept w0 X w):Env w:=by
 obtain⟨d,b,a,_⟩:=h.at c;exact b.below a (L4 _)
theorem EnvX.env0{w0:World}{X:Nat->Prop}(h:EnvX w0 X):Env w0:=h.env (Kept.refl _ _)
def GG(G0:Bse)(bx:List Nat)(rv:List Value)(rs:List (Option Row)):Nat->Prop:=fun b=>G0.G b\/b∈cR bx rv rs
def fl(rv:List Value)(rs:List (Option Row))(k:Nat):Option Value:=((rs[k]?).bind id).bind fun _=>rv[k]?
def en(w:World)(G0:Bse)(bx:List Nat)(rv:List Value)(rs:List (Option Row)):En:=⟨w,GG G0 bx rv rs,fun i=>bx[i]?,fl rv rs⟩
structure Apart (bx:List Nat) (rv:List Value) (rs:List (Option Row)):Prop where
 bb:bx.Nodup
 br:∀(k:Nat) (v:Value) (R:Row) (b:Nat),rv[k]? =some v->rs[k]? =some (some R)->v.ownBlock=some b->b∉bx
 rr:∀(j k:Nat) (u v:Value) (X R:Row) (b:Nat),j≠k->rv[j]? =some u->rs[j]? =some (some X)->rv[k]? =some v->rs[k]? =some (some R)->u.ownBlock=some b->v.ownBlock=some b->False
structure Mem (w0:World) (G0:Bse) (bs:List (TypeId×List Tree)) (rs:List (Option Row)) (bx:List Nat) (rv:List Value) (w:World):Prop where
 below:Kept w0 G0.X w
 env0:EnvX w0 G0.X
 g0:∀g,G0.G g->g<w0.heap.size/\NoDigB w0 g/\¬G0.X g
 nb:bx.length=bs.length
 nr:rv.length=rs.length
 box:∀(i g:Nat),bx[i]? =some g->∃ty cs us,bs[i]? =some (ty,cs)/\IsBlk w g ty us.toArray/\FT (en w G0 bx rv rs) us cs/\us.all bQ=true
 row:∀(k:Nat) (v:Value) (R:Row),rv[k]? =some v->rs[k]? =some (some R)->∃xs,w.ownsRow 0 R.e R.sz v R.es.length xs/\PT w (GG G0 bx rv rs) xs (flat R.es)/\(Sized R.sz R.es/\(R.tt=true->nR v))/\∀g,v.ownBlock=some g->NoDigB w g
 nodup:Apart bx rv rs
 ge:∀b∈cR bx rv rs,w0.heap.size<=b\/G0.X b
 pin:∀i,i<G0.pn->bx[i]? =some (G0.P i)
section
variable {w0 w w':World} {G0:Bse} {bs:List (TypeId×List Tree)} {rs:List (Option Row)} {bx:List Nat} {rv:List Value}
theorem FT.later{us:List Value}{ts:List Tree}(h:FT (en w G0 bx rv rs) us ts)(c:Below w.heap.size w w'):FT (en w' G0 bx rv rs) us ts:=
 h.mono c.size (fun b a d=>⟨c.block b a,d⟩) (fun _ _ h=>h) (fun _ _ h=>h)
theorem Mem.later(h:Mem w0 G0 bs rs bx rv w)(a:Below w.heap.size w w'):Mem w0 G0 bs rs bx rv w':=by
 refine⟨h.below.then a,h.env0,h.g0,h.nb,h.nr,fun i g m=>?_,fun k v R j l=>?_,h.nodup,h.ge,h.pin⟩
 ·obtain⟨ty,cs,us,c,b,e,d⟩:=h.box i g m;exact⟨ty,cs,us,c,b.below a b.lt,e.later a,d⟩
 obtain⟨xs,c,b,e,d⟩:=h.row k v R j l;exact⟨xs,eA c a,b.later a,e,fun g f=>(d g f).of (a.block g (c.lt g f).2)⟩
theorem Mem.env(h:Mem w0 G0 bs rs bx rv w):Env w:=h.env0.env h.below
theorem aY{b:Nat}:b∈cR bx rv rs↔b∈bx\/∃(k:Nat) (v:Value) (R:Row),rv[k]? =some v/\rs[k]? =some (some R)/\v.ownBlock=some b:=by
 simp only[cR,Mw,PE];refine or_congr OT ⟨?_,?_⟩
 ·rintro⟨⟨v,r⟩,e,c⟩;obtain⟨k,f,d⟩:=Nc e;simp only[List.getElem_zip,Pm]at d;have a:k<rv.length/\k<rs.length:=by rw[List.length_zip]at f;omega
  cases r with
  |none=>simp at c
  |some R=>
   refine⟨k,v,R,?_,?_,by simpa using c⟩
   ·rw[L3 a.1,d.1]
   rw[L3 a.2,d.2]
 rintro⟨k,v,R,g,h,c⟩;refine⟨(v,some R),?_,by simpa using c⟩;refine L7 (i:=k) ?_;rw[List.getElem?_zip_eq_some];exact⟨g,h⟩
theorem Mem.ok(h:Mem w0 G0 bs rs bx rv w):∀g,GG G0 bx rv rs g->g<w.heap.size/\NoDigB w g:=by
 rintro g (c|c)
 ·have a:=h.g0 g c;exact⟨Mj a.1 h.below.size,a.2.1.of (h.below.block g a.1 a.2.2)⟩
 rcases aY.1 c with a|⟨k,v,R,l,m,f⟩
 ·obtain⟨i,n,rfl⟩:=Nc a;obtain⟨ty,cs,us,_,d,_,b⟩:=h.box i _ (L3 n);refine⟨d.lt,fun j u e=>?_⟩;rw[d.cell j]at e;exact Mh.1 b u (L7 (by simpa using e))
 obtain⟨xs,a,_,_,b⟩:=h.row k v R l m;exact⟨(a.lt g f).2,b g f⟩
end
def Sim(w0:World)(G0:Bse)(S:St)(a:Act)(w:World):Prop:=
 ∃bx rv,Mem w0 G0 S.bs S.rs bx rv w/\a.tmps.size=S.n/\a.defers=[]/\∀i,FT (en w G0 bx rv S.rs) [a.tmps.getD i undef] [S.get i]
def zK(w0:World)(G0:Bse)(Q:Exit->St->Prop)(e:Exit)(a:Act)(w:World):Prop:=∃S,Q e S/\Sim w0 G0 S a w
def ej(o:Op):List Nat:=o.operands.toList.filterMap fun| .tmp t=>some t|_=>none
def OpOK(o:Oper)(S:St)(t:Tree):Prop:=∀(w0:World) (G0:Bse) (bx:List Nat) (rv:List Value) (w:World) (T:Nat->Value),Mem w0 G0 S.bs S.rs bx rv w->
 (∀s,(ej o.op).contains s=true->FT (en w G0 bx rv S.rs) [T s] [S.get s])->OpRuns Tryz.prog o T w fun v w'=>FT (en w' G0 bx rv S.rs) [v] [t]/\Below w.heap.size w w'
def AOps(w0:World)(G0:Bse)(ops:Array Oper)(rest:List Oper)(Q:Exit->St->Prop)(S:St):Prop:=∀a w,Sim w0 G0 S a w->wpList Tryz.prog ops (zK w0 G0 Q) rest a w
def AWP(w0:World)(G0:Bse)(c:Code)(Q:Exit->St->Prop)(S:St):Prop:=∀a w,Sim w0 G0 S a w->c.wp Tryz.prog (zK w0 G0 Q) a w
section
variable {w0:World} {G0:Bse} {ops:Array Oper} {rest:List Oper} {Q:Exit->St->Prop} {S:St} {o:Oper}
theorem gD(a:Act)(d:Option Nat)(v:Value)(n:Nat)(c:a.tmps.size=n)(b:dM n d=true)(i:Nat):(a.put d v).tmps.getD i undef=if d=some i then v else a.tmps.getD i undef:=by
 cases d with
 |none=>simp[Act.put]
 |some d=>
  simp only[dM,decide_eq_true_eq]at b;simp only[Act.put,MK];by_cases h:d=i
  ·subst h;rw[if_pos Z,MO,O0 (by omega)];rfl
  rw[if_neg h,MO,MO,Pt h]
theorem dY(a:Act)(d:Option Nat)(v:Value):(a.put d v).tmps.size=a.tmps.size:=by cases d<;>simp[Act.put]
theorem dg(a:Act)(d:Option Nat)(v:Value):(a.put d v).defers=a.defers:=by cases d<;>rfl
theorem dV(S:St)(d:Option Nat)(t:Tree)(i:Nat):(S.put d t).get i=if d=some i then t else S.get i:=by
 cases d with
 |none=>simp[St.put]
 |some d=>simp only[St.put,St.get,cZ,MK]
theorem fd(S:St)(d:Option Nat)(t:Tree):(S.put d t).n=S.n:=by cases d<;>rfl
theorem eB(S:St)(d:Option Nat)(t:Tree):(S.put d t).bs=S.bs:=by cases d<;>rfl
theorem c6(S:St)(d:Option Nat)(t:Tree):(S.put d t).rs=S.rs:=by cases d<;>rfl
theorem jE{a:Act}{w w':World}{bx:List Nat}{rv:List Value}{t:Tree}{v:Value}{rs:List (Option Row)}(f:a.tmps.size=S.n)(b:dM S.n o.dst=true)(e:∀us ts,FT (en w G0 bx rv S.rs) us ts->FT (en w' G0 bx rv rs) us ts)
  (c:∀i,FT (en w G0 bx rv S.rs) [a.tmps.getD i undef] [S.get i]) (d:FT (en w' G0 bx rv rs) [v] [t]):∀i,FT (en w' G0 bx rv rs) [(a.put o.dst v).tmps.getD i undef] [(S.put o.dst t).get i]:=fun i=>by
 rw[gD a o.dst v S.n f b,dV];split
 ·exact d
 exact e _ _ (c i)
theorem ag(h:Q .normal S):AOps w0 G0 ops [] Q S:=fun _ _ a=>⟨S,h,a⟩
theorem ul(d:∀a w,Sim w0 G0 S a w->Region.wanted o (yielded ops a.tmps)=true)(j:dM S.n o.dst=true){t:Tree}(h:OpOK o S t)(k:AOps w0 G0 ops rest Q (S.put o.dst t)):AOps w0 G0 ops (o::rest) Q S:=by
 intro a w f;have d:=d a w f;obtain⟨bx,rv,e,i,c,b⟩:=f;refine eu d fun K l=>?_
 have p:=(h w0 G0 bx rv w (fun s=>a.tmps.getD s undef) e fun s _=>b s).wp (Q:=zK w0 G0 Q);refine Oper.wp_mono ?_ p;rintro q w' ⟨v,rfl,m,g⟩;refine l _ _ (k _ _ ⟨bx,rv,?_,by rw[dY,fd,i],by rw[dg,c],?_⟩)
 ·rw[eB,c6];exact e.later g
 rw[c6];exact jE i j (fun _ _ h=>h.later g) b m
theorem BF(b:o.guard=none)(a:dM S.n o.dst=true){t:Tree}(h:OpOK o S t)(k:AOps w0 G0 ops rest Q (S.put o.dst t)):AOps w0 G0 ops (o::rest) Q S:=
 ul (fun _ _ _=>by simp[Region.wanted,b]) a h k
theorem ae{id:Nat}{ops:List Oper}(h:AOps w0 G0 ops.toArray ops Q S):AWP w0 G0 (.region id ops.toArray false) Q S:=fun a w b=>wp_region_list (by simpa using h a w b)
end
end Go.Proofs.YtfoejfohbkmmeaaGreatDoor
