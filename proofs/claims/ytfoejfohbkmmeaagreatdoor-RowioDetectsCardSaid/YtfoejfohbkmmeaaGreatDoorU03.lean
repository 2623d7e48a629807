import Derived.Test.YtfoejfohbkmmeaaGreatDoorU02
import Derived.Test.YtfoejfohbkmmeaaGreatDoorU00
import Derived.Deep.AppendLies
import Derived.Laws.AppendOwnNone
namespace Go.Proofs.YtfoejfohbkmmeaaGreatDoor
open Go.RowKit
open Lib renaming hid→J
theorem eY{P:Program}{o:Oper}{T:Nat->Value}{W W':World}{K:Value->World->Prop}(h:(execOp (cA T) o).run P W=.ok .skip W')(a:K undef W'):OpRuns P o T W K:=by
 unfold OpRuns;rw[h];exact a
theorem lS{P:Program}{id:Nat}{ops:Array Oper}{Q:Exit->Act->World->Prop}{a:Act}{w:World}(d:List (Option Nat))(R:Nat->Value->World->Prop)(cons:Nat->Option Nat)(A:World->Prop)(F:Nat->World->World->Prop)
  (hm:P.follows .mixedOrders=true) (a0:dM ops=true) (hd:ops.toList.map (·.dst)=d) (u:bV a.tmps.size d=true) (N:∀j,cons j=none)
  (O:∀i W W',A W->F i W W'->A W') (C:∀i j v W W',A W->R j v W->F i W W'->R j v W') (h0:A w.drew)
  (n:Nat) (V:Oper) (b5:ops.size=n+1) (a9:ops[n]? =some V) (a2:V.guard=none) (b2:V.dst=none) (T:(List.range n).all (fun i=>reach ops n n i)=true)
  (I:Steps P ops d a.tmps R cons A F 0 (ops.toList.take n))
  (S:∀(us:List Value) (W:World),us.length=d.length->(∀j,j<n->R j (us.getD j undef) W)->A W->OpRuns P V (fun s=>(b8 a.tmps (d.zip us)).getD s undef) W fun _ W'=>Q .normal ⟨b8 a.tmps (d.zip us),a.defers⟩ W'):(Code.region id ops true).wp P Q a w:=by
 have b3:d.length=ops.size:=by rw[<-hd];simp
 have t:∀j,j<n->reach ops n n j=true:=fun j k=>Mh.1 T j (N1.2 k)
 refine dF (fun L J W=>L.size=ops.size/\Closed ops L/\((L.getD n false=false/\∃us,J=⟨b8 a.tmps (d.zip us),a.defers⟩/\MonoAt R cons A (fZ a.tmps d) L us W)\/(L.getD n false=true/\Q .normal J W))) hm a0 ⟨by simp,eI ops,.inl ⟨?_,fZ a.tmps d,?_,⟨Z,fun j k=>absurd k dG,fun _ _=>rfl,h0⟩⟩⟩ ?_ ?_
 ·cases h:(Array.replicate ops.size false).getD n false with
  |false=>rfl
  |true=>exact absurd h dG
 ·rw[gX]
 ·rintro L J W i o Y h2 D h4 ⟨_,U,q⟩;have hi:i<ops.size:=(ML.1 D).1;have K:L.getD i false=false:=getD_both h2;rcases q with⟨M,us,rfl,q⟩|⟨E,_⟩
  rotate_left
  ·exfalso;by_cases B:i=n
   ·subst B;rw[K]at E;cases E
   have:=U.reach n n i (t i (by omega)) E;rw[K]at this;cases this
  have a5:d[i]? =some o.dst:=by
   rw[<-hd,MQ];simp only[Np,D,Nu]
  have g:us.length=d.length:=by rw[q.len,dj]
  have H:∀n j,j≠i->reach ops n i j=true->L.getD j false=true:=fun n j k y=>by
   have x:=U.step D h4;have:=x.reach n i j y (cM (by omega));rwa[am (fun e=>k e.symm)]at this
  have X:∀n j,reach ops n j i=true->L.getD j false=false:=fun n j y=>by
   cases hl:L.getD j false with
   |false=>rfl
   |true=>
    have:=U.reach n j i y hl;rw[K]at this;cases this
  by_cases B:i=n
  ·subst B;obtain rfl:o=V:=Nt (D.symm.trans a9);have l:=S us W g (fun j k=>q.fact j (H i j (by omega) (t j k)) fun c m=>by rw[N]at m;cases m) q.wi;have hw:Region.wanted o (yielded ops (b8 a.tmps (d.zip us)))=true:=by
    unfold Region.wanted;rw[a2]
   simp only[wpList];rw[if_pos hw];refine .inl<|Oper.wp_mono ?_ (l.wp (Q:=Exit.then (fun J W=>(L.setIfInBounds i true).size=ops.size/\Closed ops (L.setIfInBounds i true)/\(((L.setIfInBounds i true).getD i false=false/\∃us,J=⟨b8 a.tmps (d.zip us),a.defers⟩/\MonoAt R cons A (fZ a.tmps d) (L.setIfInBounds i true) us W)\/((L.setIfInBounds i true).getD i false=true/\Q .normal J W))) Q));rintro a4 b1 ⟨v,e,hQ⟩;rw[b2]at e;subst e;exact⟨by simpa using Y,U.step D h4,.inr ⟨cM (by omega),hQ⟩⟩
  have G:Given ops d a.tmps R cons A i (fun s=>(b8 a.tmps (d.zip us)).getD s undef) W:=by
   refine⟨fun s f=>eC d us _ s f,fun n j s f=>?_,fun n j s f=>?_,q.wi⟩
   ·simp only[Ma,bne_iff_ne,beq_iff_eq]at f;obtain⟨⟨⟨k,y⟩,z⟩,f⟩:=f;show R j ((b8 a.tmps (d.zip us)).getD s undef) W
    rw[(cl d us _ j s u g f).1];refine q.fact j (H n j k y) fun c m=>?_
    rw[A8,m]at z;exact X n c z
   simp only[Ma,beq_iff_eq]at f;obtain⟨y,f⟩:=f;show(b8 a.tmps (d.zip us)).getD s undef=_
   rw[(cl d us _ j s u g f).1,q.old j (X n j y),jg _ _ _ _ f]
  have hS:=Steps.at (ops.toList.take n) 0 I i o (by rw[MZ,if_pos (by omega)];simpa using D);rw[M0]at hS;obtain⟨hg,l⟩:=hS;have l:=l _ W G;have hw:Region.wanted o (yielded ops (b8 a.tmps (d.zip us)))=true:=by
   unfold Region.wanted;cases a3:o.guard with
   |none=>rfl
   |some p=>
    obtain⟨j,b⟩:=p;rw[a3]at hg;obtain⟨n,s,f,hR⟩:=hg;simp only[Ma,bne_iff_ne,beq_iff_eq]at f;obtain⟨⟨⟨k,y⟩,z⟩,f⟩:=f;have hv:=hR _ _ (q.fact j (H n j k y) fun c m=>by rw[z]at m;cases m);rw[<-(cl d us _ j s u g f).1]at hv;have a1:=(cl d us a.tmps j s u g f).2;have b0:(ops[j]?).bind (·.dst)=some s:=by
     rw[<-hd,MQ,Np]at f;cases ho:ops[j]? with
     |none=>simp[ho]at f
     |some oj=>simpa[ho]using f
    have:(b8 a.tmps (d.zip us))[s]? =some (.bool b):=by
     have hz:s<(b8 a.tmps (d.zip us)).size:=by rw[fy];exact a1
     simp only[MV,MH hz,MK]at hv;rw[MH hz,hv]
    simp only[yielded,b0,Nc,this];cases b<;>rfl
  simp only[wpList];rw[if_pos hw];refine .inl<|Oper.wp_mono ?_ l.wp;rintro a4 b1 ⟨v,e,hR,hE⟩;refine⟨by simpa using Y,U.step D h4,.inl ⟨by rw[am B];exact M,us.set i v,?_,⟨by simpa using q.len,fun j k m=>?_,fun j k=>?_,O _ _ _ q.wi hE⟩⟩⟩
  ·rw[e];exact iE d us _ _ i _ v u g a5
  ·by_cases r:i=j
   ·subst r;have:(us.set i v).getD i undef=v:=by simp[List.getD,show i<us.length by omega]
    rw[this];exact hR
   rw[am r]at k;have:(us.set i v).getD j undef=us.getD j undef:=by simp[List.getD,r]
   rw[this];exact C i j _ _ _ q.wi (q.fact j k fun c x=>by rw[N]at x;cases x) hE
  by_cases r:i=j
  ·subst r;rw[cM (by omega)]at k;cases k
  rw[am r]at k;have:(us.set i v).getD j undef=us.getD j undef:=by simp[List.getD,r]
  rw[this];exact q.old j k
 rintro L J W Y ⟨_,_,q⟩;rcases q with⟨M,_⟩|⟨_,hQ⟩
 ·have:=Y n (by omega);rw[M]at this;cases this
 exact hQ
theorem lT{P:Program}{id:Nat}{l:List Oper}{Q:Exit->Act->World->Prop}{a:Act}{w:World}(b:List (Option Nat))(F:List (Value->World->Prop))(n:Nat)(f:Oper)
  (A:P.follows .mixedOrders=true) (g:dM l.toArray=true) (x:l.map (·.dst)=b) (h:bV a.tmps.size b=true) (p:Stab w F)
  (o:l.length=n+1) (m:l[n]? =some f) (k:f.guard=none) (q:f.dst=none) (e:(List.range n).all (fun i=>reach l.toArray n n i)=true)
  (c:Steps P l.toArray b a.tmps (dQ F) (fun _=>none) (Below w.heap.size w) (fun _ W W'=>Below W.heap.size W W') 0 (l.take n))
  (d:∀(us:List Value) (W:World),us.length=b.length->(∀j,j<n->dQ F j (us.getD j undef) W)->Below w.heap.size w W->OpRuns P f (fun s=>(b8 a.tmps (b.zip us)).getD s undef) W fun _ W'=>Q .normal ⟨b8 a.tmps (b.zip us),a.defers⟩ W'):(Code.region id l.toArray true).wp P Q a w:=
 lS b (dQ F) (fun _=>none) (Below w.heap.size w) (fun _ W W'=>Below W.heap.size W W') A g (by simpa using x) h (fun _=>rfl)
  (fun _ W W' r z=>r.trans (z.mono r.size)) (fun _ j v W W' y u t=>p.get j v W W' y u t) (Below.refl _ _).drew n f (by simpa using o) (by simpa using m) k q e (by simpa using c) d
inductive Tree where
 |any
 |sc (v:Value)
 |sl (es:List Tree)
 |tl (es:List Tree)
 |agg (cs:List Tree)
 |tup (ts:List Tree)
 |ref (cs:List Tree)
 |box (b off:Nat)
 |own (k:Nat)
 |elp (k off:Nat)
def Tree.cells:Tree->List Tree
 | .agg cs=>cs
 |t=>[t]
def flat(es:List Tree):List Tree:=es.flatMap Tree.cells
theorem ei(e:Tree)(es:List Tree):flat (e::es)=e.cells++flat es:=rfl
theorem iF(a b:List Tree):flat (a++b)=flat a++flat b:=by simp[flat]
def Sized(n:Nat)(es:List Tree):Prop:=∀e∈es,e.cells.length=n
theorem Sized.tail{n:Nat}{e:Tree}{es:List Tree}(h:Sized n (e::es)):Sized n es:=fun x a=>h x (MB _ a)
theorem Sized.flat{n:Nat}:∀{es:List Tree},Sized n es->(flat es).length=es.length*n
 |[],_=>by simp[Go.Proofs.YtfoejfohbkmmeaaGreatDoor.flat]
 |e::es,h=>by rw[ei,Mc,h e (Mr ..),Sized.flat h.tail,Mb,M3];omega
theorem Sized.append{n:Nat}{a b:List Tree}(h:Sized n a)(e:Sized n b):Sized n (a++b):=fun x d=>by
 rcases My.1 d with c|c
 ·exact h x c
 exact e x c
theorem Sized.map{n:Nat}{α:Type}(f:α->Tree)(l:List α)(h:∀a,(f a).cells.length=n):Sized n (l.map f):=fun x b=>by
 obtain⟨a,_,rfl⟩:=Ny.1 b;exact h a
theorem Sized.take{n:Nat}{es:List Tree}(h:Sized n es)(k:Nat):Sized n (es.take k):=fun x a=>h x (MC a)
theorem Bc{n:Nat}:∀{es:List Tree},Sized n es->∀(i:Nat) (h:i<es.length) (j:Nat),j<n->(flat es)[i*n+j]? =es[i].cells[j]?
 |e::es,hs,0,_,j,hj=>by
  rw[ei,O7,M0,ME (by rw[hs e (Mr ..)];exact hj)];rfl
 |e::es,hs,i+1,h,j,hj=>by
  have:=Bc hs.tail i (by simpa using h) j hj;rw[ei,Mw (by rw[hs e (Mr ..),M3];omega),hs e (Mr ..),show(i+1)*n+j-n=i*n+j by rw[M3];omega,this];rfl
theorem mw{n:Nat}:∀{es:List Tree},Sized n es->∀k,flat (es.take k)=(flat es).take (k*n)
 |[],_,k=>by simp[flat]
 |e::es,hs,0=>by simp[flat]
 |e::es,hs,k+1=>by
  have a:e.cells.length=n:=hs e (Mr ..);rw[N5,ei,ei,mw hs.tail k,OX,a];rw[Me (l:=e.cells) (by rw[a,M3];omega),show(k+1)*n-n=k*n by rw[M3];omega]
theorem jh{n:Nat}:∀{es:List Tree},Sized n es->∀k,flat (es.drop k)=(flat es).drop (k*n)
 |[],_,k=>by simp[flat]
 |e::es,hs,0=>by simp
 |e::es,hs,k+1=>by
  have a:e.cells.length=n:=hs e (Mr ..);rw[Of,ei,jh hs.tail k,PU,a];rw[Mg (l:=e.cells) (by rw[a,M3];omega),show(k+1)*n-n=k*n by rw[M3];omega,M6]
inductive PT (W:World) (G:Nat->Prop):List Value->List Tree->Prop
 |nil:PT W G [] []
 |sc {us:List Value} {ts:List Tree} (v:Value) (h:PT W G us ts):PT W G (v::us) (.sc v::ts)
 |sl0 {us:List Value} {ts:List Tree} (A:Option Addr) (c:Nat) (hA:A=none->c=0) (hm:c<=9223372036854775807) (h:PT W G us ts):PT W G (.slice A 0 c::us) (.sl []::ts)
 |sl {us:List Value} {ts:List Tree} (b off c n:Nat) (xs:List Value) (es:List Tree) (hb:b<W.heap.size) (hG:¬G b) (hc:∀(j:Nat) u,xs[j]? =some u->W.cell? ⟨b,off+j,none⟩=some u) (hl:n=es.length) (hn:es.length<=c) (hm:c<=9223372036854775807) (hx:PT W G xs (flat es)) (h:PT W G us ts):PT W G (.slice (some ⟨b,off,none⟩) n c::us) (.sl es::ts)
 |tl {us:List Value} {ts:List Tree} (A:Option Addr) (n:Nat) (es:List Tree) (hl:n=es.length) (hs:PT W G [.slice A n n] [.sl es]) (h:PT W G us ts):PT W G (.slice A n n::us) (.tl es::ts)
 |agg {us:List Value} {ts:List Tree} (xs:List Value) (cs:List Tree) (hx:PT W G xs cs) (h:PT W G us ts):PT W G (.agg xs.toArray::us) (.agg cs::ts)
 |tup {us:List Value} {ts:List Tree} (xs:List Value) (cs:List Tree) (hx:PT W G xs cs) (h:PT W G us ts):PT W G (.tuple xs.toArray::us) (.tup cs::ts)
 |ref {us:List Value} {ts:List Tree} (b off:Nat) (xs:List Value) (cs:List Tree) (hb:b<W.heap.size) (hG:¬G b) (hc:∀(j:Nat) u,xs[j]? =some u->W.cell? ⟨b,off+j,none⟩=some u) (hx:PT W G xs cs) (h:PT W G us ts):PT W G (.pointer (some ⟨b,off,none⟩)::us) (.ref cs::ts)
section
variable {W W':World} {G G':Nat->Prop} {us:List Value} {ts:List Tree}
theorem PT.mono(h:PT W G us ts)(e:W.heap.size<=W'.heap.size)(a:∀b,b<W.heap.size->¬G b->W'.heap[b]? =W.heap[b]? /\¬G' b):PT W' G' us ts:=by
 induction h with
 |nil=>exact .nil
 |sc v _ ih=>exact .sc v ih
 |sl0 A c hA hm _ ih=>exact .sl0 A c hA hm ih
 |sl b off c n xs es hb hG hc hl hn hm _ _ ih1 ih2=>exact .sl b off c n xs es (by omega) (a b hb hG).2 (fun j u d=>by rw[<-hc j u d];exact World.cell?_of_block (a b hb hG).1) hl hn hm ih1 ih2
 |tl A n es hl _ _ ih1 ih2=>exact .tl A n es hl ih1 ih2
 |agg xs cs _ _ ih1 ih2=>exact .agg xs cs ih1 ih2
 |tup xs cs _ _ ih1 ih2=>exact .tup xs cs ih1 ih2
 |ref b off xs cs hb hG hc _ _ ih1 ih2=>exact .ref b off xs cs (by omega) (a b hb hG).2 (fun j u d=>by rw[<-hc j u d];exact World.cell?_of_block (a b hb hG).1) ih1 ih2
theorem PT.later(h:PT W G us ts)(c:Below W.heap.size W W'):PT W' G us ts:=h.mono c.size fun b a d=>⟨c.block b a,d⟩
theorem PT.length(h:PT W G us ts):us.length=ts.length:=by induction h<;>simp_all
theorem PT.head{u:Value}{t:Tree}(h:PT W G (u::us) (t::ts)):PT W G [u] [t]:=by
 cases h with
 |sc=>exact .sc _ .nil
 |sl0 A c hA hm _=>exact .sl0 A c hA hm .nil
 |sl b off c n xs es hb hG hc hl hn hm hx _=>exact .sl b off c n xs es hb hG hc hl hn hm hx .nil
 |tl A n es hl hs _=>exact .tl A n es hl hs .nil
 |agg xs cs hx _=>exact .agg xs cs hx .nil
 |tup xs cs hx _=>exact .tup xs cs hx .nil
 |ref b off xs cs hb hG hc hx _=>exact .ref b off xs cs hb hG hc hx .nil
theorem PT.tail{u:Value}{t:Tree}(h:PT W G (u::us) (t::ts)):PT W G us ts:=by
 cases h<;>assumption
theorem PT.cons{u:Value}{t:Tree}(h:PT W G [u] [t])(a:PT W G us ts):PT W G (u::us) (t::ts):=by
 cases h with
 |sc=>exact .sc _ a
 |sl0 A c hA hm _=>exact .sl0 A c hA hm a
 |sl b off c n xs es hb hG hc hl hn hm hx _=>exact .sl b off c n xs es hb hG hc hl hn hm hx a
 |tl A n es hl hs _=>exact .tl A n es hl hs a
 |agg xs cs hx _=>exact .agg xs cs hx a
 |tup xs cs hx _=>exact .tup xs cs hx a
 |ref b off xs cs hb hG hc hx _=>exact .ref b off xs cs hb hG hc hx a
end
theorem PT.append{W:World}{G:Nat->Prop}:∀{us vs:List Value} {ts a:List Tree},PT W G us ts->PT W G vs a->PT W G (us++vs) (ts++a)
 |[],_,[],_,_,h'=>h'
 |[],_,t::ts,_,h,_=>by cases h
 |u::us,_,[],_,h,_=>by cases h
 |u::us,_,t::ts,_,h,h'=>h.head.cons (PT.append h.tail h')
theorem PT.take{W:World}{G:Nat->Prop}:∀{us:List Value} {ts:List Tree} (k:Nat),PT W G us ts->PT W G (us.take k) (ts.take k)
 |[],[],k,_=>by simpa using .nil
 |[],t::ts,_,h=>by cases h
 |u::us,[],_,h=>by cases h
 |u::us,t::ts,0,_=>.nil
 |u::us,t::ts,k+1,h=>h.head.cons (PT.take k h.tail)
theorem PT.drop{W:World}{G:Nat->Prop}:∀{us:List Value} {ts:List Tree} (k:Nat),PT W G us ts->PT W G (us.drop k) (ts.drop k)
 |[],[],k,_=>by simpa using .nil
 |[],t::ts,_,h=>by cases h
 |u::us,[],_,h=>by cases h
 |u::us,t::ts,0,h=>h
 |u::us,t::ts,k+1,h=>PT.drop k h.tail
theorem PT.get{W:World}{G:Nat->Prop}:∀{us:List Value} {ts:List Tree},PT W G us ts->∀(i:Nat) (t:Tree),ts[i]? =some t->∃u,us[i]? =some u/\PT W G [u] [t]
 |[],[],_,i,t,h=>by simp at h
 |[],_::_,h,_,_,_=>by cases h
 |_::_,[],h,_,_,_=>by cases h
 |u::us,t::ts,h,0,s,e=>by
  simp only[MW,MN]at e;subst e;exact⟨u,Z,h.head⟩
 |u::us,t::ts,h,i+1,s,e=>by
  obtain⟨v,b,a⟩:=h.tail.get i s (by simpa using e);exact⟨v,by simpa using b,a⟩
theorem PT.slice{W:World}{G:Nat->Prop}{v:Value}{es:List Tree}(h:PT W G [v] [.sl es]):∃A c,v=.slice A es.length c/\es.length<=c/\c<=9223372036854775807/\(A=none->c=0)/\(0<es.length->∃b off xs,A=some ⟨b,off,none⟩/\b<W.heap.size/\¬G b/\(∀(j:Nat) u,xs[j]? =some u->W.cell? ⟨b,off+j,none⟩=some u)/\PT W G xs (flat es)):=by
 cases h with
 |sl0 A c hA hm _=>exact⟨A,c,Z,by simp,hm,hA,fun h=>by simp at h⟩
 |sl b off c n xs es hb hG hc hl hn hm hx _=>subst hl;exact⟨_,c,Z,hn,hm,(fun e=>by cases e),fun _=>⟨b,off,xs,Z,hb,hG,hc,hx⟩⟩
structure En where
 W:World
 G:Nat->Prop
 bx:Nat->Option Nat
 rv:Nat->Option Value
inductive FT (E:En):List Value->List Tree->Prop
 |nil:FT E [] []
 |pure {us:List Value} {ts:List Tree} {v:Value} {t:Tree} (h:PT E.W E.G [v] [t]) (hs:FT E us ts):FT E (v::us) (t::ts)
 |any {us:List Value} {ts:List Tree} (v:Value) (hs:FT E us ts):FT E (v::us) (.any::ts)
 |box {us:List Value} {ts:List Tree} (b off g:Nat) (hb:E.bx b=some g) (hs:FT E us ts):FT E (.pointer (some ⟨g,off,none⟩)::us) (.box b off::ts)
 |own {us:List Value} {ts:List Tree} (k n c:Nat) (A:Option Addr) (hv:E.rv k=some (.slice A n c)) (hs:FT E us ts):FT E (.slice A n c::us) (.own k::ts)
 |elp {us:List Value} {ts:List Tree} (k off g n c:Nat) (hv:E.rv k=some (.slice (some ⟨g,0,none⟩) n c)) (hs:FT E us ts):FT E (.pointer (some ⟨g,off,none⟩)::us) (.elp k off::ts)
 |agg {us:List Value} {ts:List Tree} (xs:List Value) (cs:List Tree) (hx:FT E xs cs) (hs:FT E us ts):FT E (.agg xs.toArray::us) (.agg cs::ts)
 |tup {us:List Value} {ts:List Tree} (xs:List Value) (cs:List Tree) (hx:FT E xs cs) (hs:FT E us ts):FT E (.tuple xs.toArray::us) (.tup cs::ts)
section
variable {E E':En} {us:List Value} {ts:List Tree}
theorem FT.mono(h:FT E us ts)(d:E.W.heap.size<=E'.W.heap.size)(e:∀b,b<E.W.heap.size->¬E.G b->E'.W.heap[b]? =E.W.heap[b]? /\¬E'.G b)(f:∀b g,E.bx b=some g->E'.bx b=some g)(a:∀k v,E.rv k=some v->E'.rv k=some v):FT E' us ts:=by
 induction h with
 |nil=>exact .nil
 |pure h _ ih=>exact .pure (h.mono d e) ih
 |any v _ ih=>exact .any v ih
 |box b off g h _ ih=>exact .box b off g (f b g h) ih
 |own k n c A h _ ih=>exact .own k n c A (a k _ h) ih
 |elp k off g n c h _ ih=>exact .elp k off g n c (a k _ h) ih
 |agg xs cs _ _ ih1 ih2=>exact .agg xs cs ih1 ih2
 |tup xs cs _ _ ih1 ih2=>exact .tup xs cs ih1 ih2
theorem FT.length(h:FT E us ts):us.length=ts.length:=by induction h<;>simp_all
theorem FT.head{u:Value}{t:Tree}(h:FT E (u::us) (t::ts)):FT E [u] [t]:=by
 cases h with
 |pure h _=>exact .pure h .nil
 |any=>exact .any _ .nil
 |box b off g h _=>exact .box b off g h .nil
 |own k n c A h _=>exact .own k n c A h .nil
 |elp k off g n c h _=>exact .elp k off g n c h .nil
 |agg xs cs hx _=>exact .agg xs cs hx .nil
 |tup xs cs hx _=>exact .tup xs cs hx .nil
theorem FT.tail{u:Value}{t:Tree}(h:FT E (u::us) (t::ts)):FT E us ts:=by cases h<;>assumption
theorem FT.cons{u:Value}{t:Tree}(h:FT E [u] [t])(a:FT E us ts):FT E (u::us) (t::ts):=by
 cases h with
 |pure h _=>exact .pure h a
 |any=>exact .any _ a
 |box b off g h _=>exact .box b off g h a
 |own k n c A h _=>exact .own k n c A h a
 |elp k off g n c h _=>exact .elp k off g n c h a
 |agg xs cs hx _=>exact .agg xs cs hx a
 |tup xs cs hx _=>exact .tup xs cs hx a
end
theorem FT.of:∀{E:En} {us:List Value} {ts:List Tree},PT E.W E.G us ts->FT E us ts
 |_,[],[],_=>.nil
 |_,[],_::_,h=>by cases h
 |_,_::_,[],h=>by cases h
 |_,u::us,t::ts,h=>.pure h.head (FT.of h.tail)
theorem FT.get{E:En}:∀{us:List Value} {ts:List Tree},FT E us ts->∀(i:Nat) (t:Tree),ts[i]? =some t->∃u,us[i]? =some u/\FT E [u] [t]
 |[],[],_,i,t,h=>by simp at h
 |[],_::_,h,_,_,_=>by cases h
 |_::_,[],h,_,_,_=>by cases h
 |u::us,t::ts,h,0,s,e=>by
  simp only[MW,MN]at e;subst e;exact⟨u,Z,h.head⟩
 |u::us,t::ts,h,i+1,s,e=>by
  obtain⟨v,b,a⟩:=h.tail.get i s (by simpa using e);exact⟨v,by simpa using b,a⟩
theorem FT.take{E:En}:∀{us:List Value} {ts:List Tree} (k:Nat),FT E us ts->FT E (us.take k) (ts.take k)
 |[],[],k,_=>by simpa using .nil
 |[],t::ts,_,h=>by cases h
 |u::us,[],_,h=>by cases h
 |u::us,t::ts,0,_=>.nil
 |u::us,t::ts,k+1,h=>h.head.cons (FT.take k h.tail)
theorem FT.drop{E:En}:∀{us:List Value} {ts:List Tree} (k:Nat),FT E us ts->FT E (us.drop k) (ts.drop k)
 |[],[],k,_=>by simpa using .nil
 |[],t::ts,_,h=>by cases h
 |u::us,[],_,h=>by cases h
 |u::us,t::ts,0,h=>h
 |u::us,t::ts,k+1,h=>FT.drop k h.tail
theorem FT.append{E:En}:∀{us vs:List Value} {ts a:List Tree},FT E us ts->FT E vs a->FT E (us++vs) (ts++a)
 |[],_,[],_,_,h'=>h'
 |[],_,t::ts,_,h,_=>by cases h
 |u::us,_,[],_,h,_=>by cases h
 |u::us,_,t::ts,_,h,h'=>h.head.cons (FT.append h.tail h')
section
variable {E:En} {v:Value}
theorem FT.isSc{x:Value}(h:FT E [v] [.sc x]):v=x:=by
 cases h with
 |pure h _=>cases h;rfl
theorem FT.isSl{es:List Tree}(h:FT E [v] [.sl es]):PT E.W E.G [v] [.sl es]:=by
 cases h with
 |pure h _=>exact h
theorem FT.isRef{cs:List Tree}(h:FT E [v] [.ref cs]):∃b off xs,v=.pointer (some ⟨b,off,none⟩)/\b<E.W.heap.size/\¬E.G b/\(∀(j:Nat) u,xs[j]? =some u->E.W.cell? ⟨b,off+j,none⟩=some u)/\PT E.W E.G xs cs:=by
 cases h with
 |pure h _=>
  cases h with
  |ref b off xs cs hb hG hc hx _=>exact⟨b,off,xs,Z,hb,hG,hc,hx⟩
theorem FT.isAgg{cs:List Tree}(h:FT E [v] [.agg cs]):∃xs,v=.agg xs.toArray/\FT E xs cs:=by
 cases h with
 |pure h _=>
  cases h with
  |agg xs cs hx _=>exact⟨xs,Z,.of hx⟩
 |agg xs cs hx _=>exact⟨xs,Z,hx⟩
theorem FT.isTup{cs:List Tree}(h:FT E [v] [.tup cs]):∃xs,v=.tuple xs.toArray/\FT E xs cs:=by
 cases h with
 |pure h _=>
  cases h with
  |tup xs cs hx _=>exact⟨xs,Z,.of hx⟩
 |tup xs cs hx _=>exact⟨xs,Z,hx⟩
theorem FT.isBox{b off:Nat}(h:FT E [v] [.box b off]):∃g,E.bx b=some g/\v=.pointer (some ⟨g,off,none⟩):=by
 cases h with
 |pure h _=>cases h
 |box b off g hb _=>exact⟨g,hb,Z⟩
theorem FT.isOwn{k:Nat}(h:FT E [v] [.own k]):E.rv k=some v/\∃A n c,v=.slice A n c:=by
 cases h with
 |pure h _=>cases h
 |own k n c A hv _=>exact⟨hv,A,n,c,Z⟩
theorem FT.isElp{k off:Nat}(h:FT E [v] [.elp k off]):∃g n c,E.rv k=some (.slice (some ⟨g,0,none⟩) n c)/\v=.pointer (some ⟨g,off,none⟩):=by
 cases h with
 |pure h _=>cases h
 |elp k off g n c hv _=>exact⟨g,n,c,hv,Z⟩
end
def Tree.plain0:Tree->Bool
 | .sc _| .sl _| .tl _| .ref _=>true
 |_=>false
def Tree.plain:Tree->Bool
 | .sc _| .sl _| .tl _| .ref _=>true
 | .agg cs=>cs.all Tree.plain0
 | .tup cs=>cs.all fun t=>match t with
  | .agg ds=>ds.all Tree.plain0
  |t=>t.plain0
 |_=>false
def Tree.one:Tree->Bool
 | .sc v=>v.oneCell'
 | .sl _| .tl _| .ref _| .box _ _| .own _| .elp _ _=>true
 |_=>false
theorem FT.one{E:En}{v:Value}{t:Tree}(h:FT E [v] [t])(a:t.one=true):v.oneCell'=true:=by
 cases h with
 |pure h _=>
  cases h with
  |sc=>exact a
  |sl0=>rfl
  |sl=>rfl
  |tl=>rfl
  |agg=>simp[Tree.one]at a
  |tup=>simp[Tree.one]at a
  |ref=>rfl
 |any=>simp[Tree.one]at a
 |box=>rfl
 |own=>rfl
 |elp=>rfl
 |agg=>simp[Tree.one]at a
 |tup=>simp[Tree.one]at a
theorem FT.ones{E:En}:∀{us:List Value} {ts:List Tree},FT E us ts->ts.all Tree.one=true->∀u∈us,u.oneCell'=true
 |[],[],_,_,u,a=>by simp at a
 |[],_::_,h,_,_,_=>by cases h
 |_::_,[],h,_,_,_=>by cases h
 |x::us,t::ts,h,hp,u,a=>by
  simp only[NP,Ma]at hp;rcases Mi.1 a with rfl|a
  ·exact h.head.one hp.1
  exact FT.ones h.tail hp.2 u a
theorem FT.plain0{E:En}{v:Value}{t:Tree}(h:FT E [v] [t])(a:t.plain0=true):PT E.W E.G [v] [t]:=by
 cases t<;>simp only[Tree.plain0,N9]at a<;>cases h<;>assumption
theorem FT.plain0s{E:En}:∀{us:List Value} {ts:List Tree},FT E us ts->ts.all Tree.plain0=true->PT E.W E.G us ts
 |[],[],_,_=>.nil
 |[],_::_,h,_=>by cases h
 |_::_,[],h,_=>by cases h
 |u::us,t::ts,h,hp=>by
  simp only[NP,Ma]at hp;exact(h.head.plain0 hp.1).cons (FT.plain0s h.tail hp.2)
theorem FT.plain1{E:En}{v:Value}{cs:List Tree}(h:FT E [v] [.agg cs])(a:cs.all Tree.plain0=true):PT E.W E.G [v] [.agg cs]:=by
 obtain⟨xs,rfl,b⟩:=h.isAgg;exact .agg xs cs (b.plain0s a) .nil
theorem FT.plain{E:En}{v:Value}{t:Tree}(h:FT E [v] [t])(a:t.plain=true):PT E.W E.G [v] [t]:=by
 cases t with
 |sc _=>exact h.plain0 Z
 |sl _=>exact h.plain0 Z
 |tl _=>exact h.plain0 Z
 |ref _=>exact h.plain0 Z
 |agg cs=>exact h.plain1 a
 |tup cs=>
  obtain⟨xs,rfl,b⟩:=h.isTup;refine .tup xs cs ?_ .nil;clear h;simp only[Tree.plain]at a;induction cs generalizing xs with
  |nil=>cases b;exact .nil
  |cons c cs ih=>
   cases xs with
   |nil=>cases b
   |cons x xs=>
    simp only[NP,Ma]at a;refine PT.cons ?_ (ih a.2 xs b.tail);have d:=b.head;cases c with
    |agg ds=>exact d.plain1 a.1
    |_=>exact d.plain0 a.1
 |_=>simp[Tree.plain]at a
theorem FT.plains{E:En}:∀{us:List Value} {ts:List Tree},FT E us ts->ts.all Tree.plain=true->PT E.W E.G us ts
 |[],[],_,_=>.nil
 |[],_::_,h,_=>by cases h
 |_::_,[],h,_=>by cases h
 |u::us,t::ts,h,hp=>by
  simp only[NP,Ma]at hp;exact(h.head.plain hp.1).cons (FT.plains h.tail hp.2)
theorem mx:(Tryz.prog.info? 5).map (fun i=>(i.zero,i.size,i.bytes))=some (some (.int .u8 0),1,1):=by kernel_rfl
def OwnB(w:World)(base:Nat)(v:Value)(l:List UInt8):Prop:=w.ownsRow base 5 1 v l.length (bH l)
theorem OwnB.nil(w:World)(base:Nat):OwnB w base (.slice none 0 0) []:=World.ownsRow_nil _ _ _ _
theorem dz{w w':World}{base:Nat}{e:TypeId}{size n:Nat}{v:Value}{xs:List Value}(h:w.ownsRow base e size v n xs)(a:Below w.heap.size w w'):w'.ownsRow base e size v n xs:=
 h.kept (row:=none) ⟨a.os,a.tape,a.output,a.size,fun i b _=>a.block i b⟩ (by cases v.ownBlock<;>simp)
theorem OwnB.below{w w':World}{base:Nat}{v:Value}{l:List UInt8}(h:OwnB w base v l)(a:Below w.heap.size w w'):OwnB w' base v l:=dz h a
def Far(v:Value)(k:Nat):Prop:=v.ownBlock≠some k
theorem kT{w:World}{base:Nat}{v:Value}{l:List UInt8}{k:Nat}(h:OwnB w base v l)(a:w.heap.size<=k):Far v k:=fun e=>by have:=(h.lt k e).2;omega
structure Grew (w w':World) (base:Nat) (v v':Value):Prop where
 size:w.heap.size<=w'.heap.size
 kept:∀k,k<w.heap.size->Far v k->w'.heap[k]? =w.heap[k]?
 far:∀k,k<w.heap.size->Far v k->Far v' k
 below:Below base w w'
theorem Grew.blk{w w':World}{base:Nat}{v v':Value}(h:Grew w w' base v v'){g:Nat}{t:TypeId}{cs:Array Value}(a:IsBlk w g t cs)(b:Far v g):IsBlk w' g t cs:=(h.kept g a.lt b).trans a
theorem Be{w a w':World}{base:Nat}{v v':Value}{l:List UInt8}(d:OwnB w base v l)(i:∃o,a=w.alloc o\/a=w)(b:a.grownBy w' v.ownBlock)(f:v'.ownBlock=v.ownBlock\/v'.ownBlock=some a.heap.size)(c:base<=w.heap.size):Grew w w' base v v':=by
 have p:w.heap.size<=a.heap.size:=by rcases i with⟨o,rfl|rfl⟩<;>simp
 have g:∀k,k<w.heap.size->a.heap[k]? =w.heap[k]? :=fun k g=>by
  rcases i with⟨o,rfl|rfl⟩
  ·exact Below.heap_alloc w o k g
  rfl
 have n:Below w.heap.size w a:=by
  rcases i with⟨o,rfl|rfl⟩
  ·exact(Below.refl _ _).alloc (L5 _) _
  exact Below.refl _ _
 refine⟨L6 p b.size,fun k m j=>(b.block k (by omega) (fun e=>j e.symm)).trans (g k m),fun k m j e=>?_,(n.mono c).grown b (by omega) (fun k e=>(d.lt k e).1)⟩;rcases f with h|h<;>rw[h]at e
 ·exact j e
 injection e with e;omega
theorem kf{ops:Array Oper}{b:List Oper}{o:Oper}{a:Act}{Q:Exit->Act->World->Prop}{w:World}(base:Nat)(v:Value)(l:List UInt8)(c:Int)(d:UInt8)
  (s x:Operand) (q:o.guard=none) (t:o.op=.call {callee:=.builtin .append,args:=#[s,x],argTypes:=#[22,22]})
  (z:a.eval s=v) (y:a.eval x=.slice (some ⟨w.heap.size,0,none⟩) 1 1) (e:OwnB w base v l) (u:c=d.toNat) (A:l.length<=1099511627776) (g:base<=w.heap.size)
  (h:∀v' w',OwnB w' base v' (l++[d])->Grew w w' base v v'->wpList Tryz.prog ops Q b (a.put o.dst v') w'):
  wpList Tryz.prog ops Q (o::b) a (w.alloc (.cells #[.int .u8 c] 5)):=by
 obtain⟨r,p,k,n,j⟩:=info_parts mx;refine wpList_append_own_at _ q s x _ t base 5 r (.int .u8 0) 1 1 Tryz.underlying22 p k n j Z (by decide) v l.length (bH l) z (World.ownsRow.alloc e _)
  ⟨w.heap.size,0,none⟩ 1 1 [.int .u8 c] y Z (cell_one_new _ _ _) (by simp[Value.oneCell']) (by simp only[maxLen];omega) (by omega) (by simp;omega) ?_
 intro v' w' f m _ i;refine h v' w' ?_ (Be e ⟨_,.inl Z⟩ m i g);subst u;unfold OwnB;rw[it];simpa[bH]using f
theorem yV(w:World)(base:Nat)(ty:TypeId)(v:Value)(l:List UInt8)(s:ByteArray)(b:OwnB w base v l)(I:l.length+s.size<=1099511627776)(n:base<=w.heap.size):
  ∃v' w',(Builtin.append_ #[22,9] ty #[v,.string s]).run Tryz.prog w=.ok v' w'/\OwnB w' base v' (l++s.data.toList)/\w.grownBy w' v.ownBlock/\(v'.ownBlock=v.ownBlock\/v'.ownBlock=some w.heap.size):=by
 obtain⟨t,c,m,h,i⟩:=info_parts mx;have r:=Tryz.underlying22;have p:=Tryz.underlying9;obtain⟨v',w',q,C,A,E⟩:=Lib.run_append_own_string (P:=Tryz.prog) w base 22 9 ty 5 t r p c m h i v l.length (bH l) b s (by simp only[maxLen];omega) (by omega) n;refine⟨v',w',q,?_,A,?_⟩
 ·unfold OwnB;rw[it];have e:(l++s.data.toList).length=l.length+s.size:=by simp
  rw[e];exact C
 rcases b.2 with⟨rfl,H⟩|⟨g,f,cur,rfl,G,B,z,F,y,x⟩
 ·by_cases D:s.size=0
  ·rw[E.2 ⟨Z,D⟩];exact .inl Z
  have a:=run_append_nil_string (P:=Tryz.prog) w 22 9 ty 5 t (.int .u8 0) r p c m s (by omega) (by omega) (by rw[i];omega);rw[q]at a;injection a with o _
  rw[o];exact .inr Z
 by_cases d:l.length+s.size<=f
 ·have a:=Lib.run_append_room_string (P:=Tryz.prog) w 22 9 ty 5 t r p c h g l.length f cur B s d (by rw[y];omega);rw[q]at a;injection a with o _
  rw[o];exact .inl Z
 have k:∀j u,(bH l)[j]? =some u->w.cell? ((⟨g,0,none⟩:Addr).add j)=some u:=World.ownsRow.cells b (g:=g) Z;have a:=Lib.run_append_grow_string (P:=Tryz.prog) w 22 9 ty 5 t (.int .u8 0) r p c m ⟨g,0,none⟩ l.length f (bH l) (by rw[h,eO];omega) k s (by omega) (by omega) (by rw[i];exact growslice_fits (by omega) (by omega));rw[q]at a;injection a with o _
 rw[o];exact .inr Z
theorem Bf{ops:Array Oper}{c:List Oper}{o:Oper}{a:Act}{Q:Exit->Act->World->Prop}{w:World}(base:Nat)(v:Value)(l:List UInt8)(str:ByteArray)
  (s x:Operand) (e:o.guard=none) (m:o.op=.call {callee:=.builtin .append,args:=#[s,x],argTypes:=#[22,9]})
  (n:a.eval s=v) (p:a.eval x=.string str) (d:OwnB w base v l) (f:l.length+str.size<=1099511627776) (b:base<=w.heap.size)
  (h:∀v' w',OwnB w' base v' (l++str.data.toList)->Grew w w' base v v'->wpList Tryz.prog ops Q c (a.put o.dst v') w'):
  wpList Tryz.prog ops Q (o::c) a w:=by
 refine wpList_plain e fun K g=>?_
 obtain⟨v',w',q,i,j,k⟩:=yV w base o.type v l str d f b;unfold Oper.wp execOp;simp only[m,resolve,invoke,builtin,Sem.run_bind,Sem.run_pure,Result.andThen_ok,Nf,MX,ND,n,p,q];exact g _ _ (h v' w' i (Be d ⟨.cells #[] 0,.inr Z⟩ j k b))
theorem eZ{w w':World}{base:Nat}{e:TypeId}{size n g:Nat}{v:Value}{xs:List Value}(h:w.ownsRow base e size v n xs)(j:v.ownBlock≠some g)(d:∀k,k≠g->w'.heap[k]? =w.heap[k]?):w'.ownsRow base e size v n xs:=by
 refine⟨h.1,?_⟩;rcases h.2 with l|⟨b,a,cur,rfl,i,f,c⟩
 ·exact .inl l
 refine .inr ⟨b,a,cur,Z,i,?_,c⟩;rw[d b (fun e=>j (by rw[e];rfl))];exact f
theorem nV{w a w':World}{base:Nat}{v v':Value}{e:TypeId}{size n:Nat}{xs:List Value}(d:w.ownsRow base e size v n xs)(i:∃o,a=w.alloc o\/a=w)(b:a.grownBy w' v.ownBlock)(f:v'.ownBlock=v.ownBlock\/v'.ownBlock=some a.heap.size)(c:base<=w.heap.size):Grew w w' base v v':=by
 have p:w.heap.size<=a.heap.size:=by rcases i with⟨o,rfl|rfl⟩<;>simp
 have g:∀k,k<w.heap.size->a.heap[k]? =w.heap[k]? :=fun k g=>by
  rcases i with⟨o,rfl|rfl⟩
  ·exact Below.heap_alloc w o k g
  rfl
 have m:Below w.heap.size w a:=by
  rcases i with⟨o,rfl|rfl⟩
  ·exact(Below.refl _ _).alloc (L5 _) _
  exact Below.refl _ _
 refine⟨L6 p b.size,fun k l j=>(b.block k (by omega) (fun e=>j e.symm)).trans (g k l),fun k l j e=>?_,(m.mono c).grown b (by omega) (fun k e=>(d.lt k e).1)⟩;rcases f with h|h<;>rw[h]at e
 ·exact j e
 injection e with e;omega
theorem ec{P:Program}{ops:Array Oper}{b:List Oper}{o:Oper}{a:Act}{w:World}{Q:Exit->Act->World->Prop}(d:Region.wanted o (yielded ops a.tmps)=true)
  (h:∀K:Act->World->Prop,(∀c w',wpList P ops Q b c w'->K c w')->o.wp P a w K Q):wpList P ops Q (o::b) a w:=by
 unfold wpList;rw[if_pos d];exact .inl (h _ fun _ _ h=>h)
theorem At.news{w:World}{B:Nat}{c:Addr}{xs:List Value}(h:At w B (some c) xs):∀j u,xs[j]? =some u->w.cell? (c.add j)=some u:=fun j u a=>by
 have d:0<xs.length:=by have:=(L7.1 a).1;omega
 obtain⟨b,off,e,_,f⟩:=h d;injection e with e
 subst e;rw[show(⟨b,off,none⟩:Addr).add j=⟨b,off+j,none⟩from by unfold Addr.add;split<;>simp_all];exact f j u a
theorem vg{ops:Array Oper}{j:List Oper}{o:Oper}{a:Act}{Q:Exit->Act->World->Prop}{w:World}(s x:Operand)(t e:TypeId)(i:TypeInfo)(z:Value)(size b:Nat)
  (I:o.op=.call {callee:=.builtin .append,args:=#[s,x],argTypes:=#[t,t]}) (T:Region.wanted o (yielded ops a.tmps)=true)
  (H:Tryz.prog.underlying t=some (.slice e)) (G:Tryz.prog.info? e=some i) (M:i.zero=some z) (k:i.size=size) (r:i.bytes=b) (C:z.cells.size=size) (q:0<size)
  (base:Nat) (v:Value) (n:Nat) (xs:List Value) (J:a.eval s=v) (d:w.ownsRow base e size v n xs) (A:Option Addr) (m c:Nat) (news:List Value) (E:a.eval x=.slice A m c) (y:At w w.heap.size A news)
  (F:news.length=m*size) (l:A=none->m=0/\c=0) (R:∀u∈news,u.oneCell'=true) (B:n+m<=maxLen) (g:(n+m)*b<=140737488355328) (f:base<=w.heap.size)
  (h:∀v' w',w'.ownsRow base e size v' (n+m) (xs++news)->Grew w w' base v v'->wpList Tryz.prog ops Q j (a.put o.dst v') w'):wpList Tryz.prog ops Q (o::j) a w:=by
 refine ec T fun K D=>?_
 cases A with
 |none=>
  obtain⟨rfl,rfl⟩:=l rfl;have N:news=[]:=Mk (by simpa using F);subst N;have p:=run_append_owned_none (P:=Tryz.prog) (w:=w) base t o.type e i size H G v n xs d;unfold Oper.wp;simp only[execOp,I,resolve,invoke,builtin,Sem.run_bind,Sem.run_pure,Result.andThen_ok,Nf,MX,ND,J,E,p];exact D _ _ (h v w (by simpa using d) ⟨L5 _,fun _ _ _=>rfl,fun _ _ h=>h,Below.refl _ _⟩)
 |some ad=>
  obtain⟨v',w',S,U,O,_,L⟩:=run_append_own_at (P:=Tryz.prog) w base t o.type e i z size b H G M k r C q v n xs d ad m c news F y.news R B g f;unfold Oper.wp execOp;simp only[I,resolve,invoke,builtin,Sem.run_bind,Sem.run_pure,Result.andThen_ok,Nf,MX,ND,J,E,S];exact D _ _ (h v' w' U (nV d ⟨.cells #[] 0,.inr Z⟩ O L f))
end Go.Proofs.YtfoejfohbkmmeaaGreatDoor
