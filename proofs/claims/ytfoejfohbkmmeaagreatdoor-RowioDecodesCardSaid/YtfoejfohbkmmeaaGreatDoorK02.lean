import Derived.Test.YtfoejfohbkmmeaaGreatDoorK01
import Derived.Deep.AppendLies
import Derived.Laws.AppendOwnNone
set_option linter.defProp false
open Go.Proofs.Tryz
namespace Go.Proofs.YtfoejfohbkmmeaaGreatDoor
open Go.RowKit
open Lib renaming hid→J
def gS{P:Program}{o:Oper}{T:Nat->Value}{W W':World}{K:Value->World->Prop}(h:(execOp (dG T) o).run P W=.ok .skip W')(a:K undef W'):OpRuns P o T W K:=by
 unfold OpRuns;rw[h];exact a
def n4{P:Program}{id:Nat}{ops:Array Oper}{Q:Exit->Act->World->Prop}{a:Act}{w:World}(d:List (Option Nat))(R:Nat->Value->World->Prop)(cons:Nat->Option Nat)(x:World->Prop)(C:Nat->World->World->Prop)
  (hm:P.follows .mixedOrders=true) (a2:fY ops=true) (hd:ops.toList.map (·.dst)=d) (u:cD a.tmps.size d=true) (U:∀j,cons j=none)
  (X:∀i W W',x W->C i W W'->x W') (J:∀i j v W W',x W->R j v W->C i W W'->R j v W') (h0:x w.drew)
  (n:Nat) (ol:Oper) (b3:ops.size=n+1) (b1:ops[n]? =some ol) (a9:ol.guard=none) (a4:ol.dst=none) (S:(List.range n).all (λi=>reach ops n n i)=true)
  (K:Steps P ops d a.tmps R cons x C 0 (ops.toList.take n))
  (V:∀(us:List Value) (W:World),us.length=d.length->(∀j,j<n->R j (us.getD j undef) W)->x W->OpRuns P ol (λs=>(dl a.tmps (d.zip us)).getD s undef) W λ_ W'=>Q .normal ⟨dl a.tmps (d.zip us),a.defers⟩ W'):(Code.region id ops true).wp P Q a w:=by
 have b4:d.length=ops.size:=by rw[<-hd];simp
 have t:∀j,j<n->reach ops n n j=true:=λj k=>Rl.1 S j (Tr.2 k)
 refine iy (λL D W=>L.size=ops.size/\Closed ops L/\((L.getD n false=false/\∃us,D=⟨dl a.tmps (d.zip us),a.defers⟩/\MonoAt R cons x (ja a.tmps d) L us W)\/(L.getD n false=true/\Q .normal D W))) hm a2 ⟨F,i8 ops,.inl ⟨?_,ja a.tmps d,?_,⟨Z,λj k=>absurd k mO,λ_ _=>rfl,h0⟩⟩⟩ ?_ ?_
 ·cases h:(Array.replicate ops.size false).getD n false with
  |false=>rfl
  |true=>exact absurd h mO
 ·rw[kr]
 ·rintro L D W i o h1 h2 E h4 ⟨_,T,q⟩;have hi:i<ops.size:=(RQ.1 E).1;have M:L.getD i false=false:=getD_both h2;rcases q with⟨H,us,rfl,q⟩|⟨I,_⟩
  rotate_left
  ·exfalso;by_cases A:i=n
   ·subst A;rw[M]at I;cases I
   have:=T.reach n n i (t i O) I;rw[M]at this;cases this
  have a3:d[i]? =some o.dst:=by
   rw[<-hd,RK];simp only[SC,E,Sr]
  have g:us.length=d.length:=by rw[q.len,fc]
  have N:∀n j,j≠i->reach ops n i j=true->L.getD j false=true:=λn j k B=>by
   have z:=T.step E h4;have:=z.reach n i j B (fI O);rwa[dB (λe=>k e.symm)]at this
  have Y:∀n j,reach ops n j i=true->L.getD j false=false:=λn j B=>by
   cases hl:L.getD j false with
   |false=>rfl
   |true=>
    have:=T.reach n j i B hl;rw[M]at this;cases this
  by_cases A:i=n
  ·subst A;obtain rfl:o=ol:=Sw (E.symm.trans b1);have m:=V us W g (λj k=>q.fact j (N i j O (t j k)) λc l=>by rw[U]at l;cases l) q.wi;have hw:Region.wanted o (yielded ops (dl a.tmps (d.zip us)))=true:=by
    unfold Region.wanted;rw[a9]
   simp only[wpList];rw[if_pos hw];refine .inl<|Oper.wp_mono ?_ (m.wp (Q:=Exit.then (λD W=>(L.setIfInBounds i true).size=ops.size/\Closed ops (L.setIfInBounds i true)/\(((L.setIfInBounds i true).getD i false=false/\∃us,D=⟨dl a.tmps (d.zip us),a.defers⟩/\MonoAt R cons x (ja a.tmps d) (L.setIfInBounds i true) us W)\/((L.setIfInBounds i true).getD i false=true/\Q .normal D W))) Q));rintro a1 a0 ⟨v,e,hQ⟩;rw[a4]at e;subst e;exact⟨by simpa using h1,T.step E h4,.inr ⟨fI O,hQ⟩⟩
  have G:Given ops d a.tmps R cons x i (λs=>(dl a.tmps (d.zip us)).getD s undef) W:=by
   refine⟨λs f=>fZ d us _ s f,λn j s f=>?_,λn j s f=>?_,q.wi⟩
   ·simp only[Q9,bne_iff_ne,beq_iff_eq]at f;obtain⟨⟨⟨k,B⟩,y⟩,f⟩:=f;show R j ((dl a.tmps (d.zip us)).getD s undef) W
    rw[(dM d us _ j s u g f).1];refine q.fact j (N n j k B) λc l=>?_
    rw[Fd,l]at y;exact Y n c y
   simp only[Q9,beq_iff_eq]at f;obtain⟨B,f⟩:=f;show(dl a.tmps (d.zip us)).getD s undef=_
   rw[(dM d us _ j s u g f).1,q.old j (Y n j B),lY _ _ _ _ f]
  have hS:=Steps.at (ops.toList.take n) 0 K i o (by rw[R7,if_pos O];simpa using E);rw[R4]at hS;obtain⟨hg,m⟩:=hS;have m:=m _ W G;have hw:Region.wanted o (yielded ops (dl a.tmps (d.zip us)))=true:=by
   unfold Region.wanted;cases a5:o.guard with
   |none=>rfl
   |some p=>
    obtain⟨j,b⟩:=p;rw[a5]at hg;obtain⟨n,s,f,hR⟩:=hg;simp only[Q9,bne_iff_ne,beq_iff_eq]at f;obtain⟨⟨⟨k,B⟩,y⟩,f⟩:=f;have hv:=hR _ _ (q.fact j (N n j k B) λc l=>by rw[y]at l;cases l);rw[<-(dM d us _ j s u g f).1]at hv;have b0:=(dM d us a.tmps j s u g f).2;have b2:(ops[j]?).bind (·.dst)=some s:=by
     rw[<-hd,RK,SC]at f;cases ho:ops[j]? with
     |none=>simp[ho]at f
     |some oj=>simpa[ho]using f
    have:(dl a.tmps (d.zip us))[s]? =some (.bool b):=by
     have hz:s<(dl a.tmps (d.zip us)).size:=by rw[ii];exact b0
     simp only[RU,RN hz,RH]at hv;rw[RN hz,hv]
    simp only[yielded,b2,Sp,this];cases b<;>rfl
  simp only[wpList];rw[if_pos hw];refine .inl<|Oper.wp_mono ?_ m.wp;rintro a1 a0 ⟨v,e,hR,hE⟩;refine⟨by simpa using h1,T.step E h4,.inl ⟨by rw[dB A];exact H,us.set i v,?_,⟨by simpa using q.len,λj k l=>?_,λj k=>?_,X _ _ _ q.wi hE⟩⟩⟩
  ·rw[e];exact kE d us _ _ i _ v u g a3
  ·by_cases r:i=j
   ·subst r;have:(us.set i v).getD i undef=v:=by simp[List.getD,show i<us.length by omega]
    rw[this];exact hR
   rw[dB r]at k;have:(us.set i v).getD j undef=us.getD j undef:=by simp[List.getD,r]
   rw[this];exact J i j _ _ _ q.wi (q.fact j k λc z=>by rw[U]at z;cases z) hE
  by_cases r:i=j
  ·subst r;rw[fI O]at k;cases k
  rw[dB r]at k;have:(us.set i v).getD j undef=us.getD j undef:=by simp[List.getD,r]
  rw[this];exact q.old j k
 rintro L D W h1 ⟨_,_,q⟩;rcases q with⟨H,_⟩|⟨_,hQ⟩
 ·have:=h1 n O;rw[H]at this;cases this
 exact hQ
def uy{P:Program}{id:Nat}{l:List Oper}{Q:Exit->Act->World->Prop}{a:Act}{w:World}(b:List (Option Nat))(F:List (Value->World->Prop))(n:Nat)(f:Oper)
  (z:P.follows .mixedOrders=true) (g:fY l.toArray=true) (y:l.map (·.dst)=b) (h:cD a.tmps.size b=true) (q:Stab w F)
  (p:l.length=n+1) (o:l[n]? =some f) (m:f.guard=none) (k:f.dst=none) (d:(List.range n).all (λi=>reach l.toArray n n i)=true)
  (c:Steps P l.toArray b a.tmps (fP F) (λ_=>none) (Below w.heap.size w) (λ_ W W'=>Below W.heap.size W W') 0 (l.take n))
  (e:∀(us:List Value) (W:World),us.length=b.length->(∀j,j<n->fP F j (us.getD j undef) W)->Below w.heap.size w W->OpRuns P f (λs=>(dl a.tmps (b.zip us)).getD s undef) W λ_ W'=>Q .normal ⟨dl a.tmps (b.zip us),a.defers⟩ W'):(Code.region id l.toArray true).wp P Q a w:=
 n4 b (fP F) (λ_=>none) (Below w.heap.size w) (λ_ W W'=>Below W.heap.size W W') z g (by simpa using y) h (λ_=>rfl)
  (λ_ W W' r t=>r.trans (t.mono r.size)) (λ_ j v W W' A x u=>q.get j v W W' A x u) (Below.refl _ _).drew n f (by simpa using p) (by simpa using o) m k d (by simpa using c) e
inductive Tree where
 |any
 |sc (v:Value)
 |sl (es:List Tree)
 |tl (es:List Tree)
 |agg (cs:List Tree)
 |tup (ts:List Tree)
 |ref (cs:List Tree)
 |box (b off:Nat)
 |own (k:Nat)
 |elp (k off:Nat)
def Tree.cells:Tree->List Tree
 | .agg cs=>cs
 |t=>[t]
def flat(es:List Tree):List Tree:=es.flatMap Tree.cells
def fm(e:Tree)(es:List Tree):flat (e::es)=e.cells++flat es:=rfl
def jO(a b:List Tree):flat (a++b)=flat a++flat b:=by simp[flat]
def Sized(n:Nat)(es:List Tree):Prop:=∀e∈es,e.cells.length=n
def Sized.tail{n:Nat}{e:Tree}{es:List Tree}(h:Sized n (e::es)):Sized n es:=λx a=>h x (RD _ a)
def Sized.flat{n:Nat}:∀{es:List Tree},Sized n es->(flat es).length=es.length*n
 |[],_=>by simp[Go.Proofs.YtfoejfohbkmmeaaGreatDoor.flat]
 |e::es,h=>by rw[fm,Q4,h e (Rw ..),Sized.flat h.tail,Q5,R2];omega
def Sized.append{n:Nat}{a b:List Tree}(h:Sized n a)(d:Sized n b):Sized n (a++b):=λx e=>by
 rcases RI.1 e with c|c
 ·exact h x c
 exact d x c
def Sized.map{n:Nat}{α:Type}(f:α->Tree)(l:List α)(h:∀a,(f a).cells.length=n):Sized n (l.map f):=λx b=>by
 obtain⟨a,_,rfl⟩:=Sv.1 b;exact h a
def Sized.take{n:Nat}{es:List Tree}(h:Sized n es)(k:Nat):Sized n (es.take k):=λx a=>h x (RG a)
def Ff{n:Nat}:∀{es:List Tree},Sized n es->∀(i:Nat) (h:i<es.length) (j:Nat),j<n->(flat es)[i*n+j]? =es[i].cells[j]?
 |e::es,hs,0,_,j,hj=>by
  rw[fm,Uc,R4,Rv (by rw[hs e (Rw ..)];exact hj)];rfl
 |e::es,hs,i+1,h,j,hj=>by
  have:=Ff hs.tail i (by simpa using h) j hj;rw[fm,Ru (by rw[hs e (Rw ..),R2];omega),hs e (Rw ..),show(i+1)*n+j-n=i*n+j by rw[R2];omega,this];rfl
def lZ{n:Nat}:∀{es:List Tree},Sized n es->∀k,flat (es.take k)=(flat es).take (k*n)
 |[],_,k=>by simp[flat]
 |e::es,hs,0=>by simp[flat]
 |e::es,hs,k+1=>by
  have a:e.cells.length=n:=hs e (Rw ..);rw[S7,fm,fm,lZ hs.tail k,Uf,a];rw[Rf (l:=e.cells) (by rw[a,R2];omega),show(k+1)*n-n=k*n by rw[R2];omega]
def ma{n:Nat}:∀{es:List Tree},Sized n es->∀k,flat (es.drop k)=(flat es).drop (k*n)
 |[],_,k=>by simp[flat]
 |e::es,hs,0=>F
 |e::es,hs,k+1=>by
  have a:e.cells.length=n:=hs e (Rw ..);rw[S8,fm,ma hs.tail k,U1,a];rw[Rc (l:=e.cells) (by rw[a,R2];omega),show(k+1)*n-n=k*n by rw[R2];omega,Sc]
inductive PT (W:World) (G:Nat->Prop):List Value->List Tree->Prop
 |nil:PT W G [] []
 |sc {us:List Value} {ts:List Tree} (v:Value) (h:PT W G us ts):PT W G (v::us) (.sc v::ts)
 |sl0 {us:List Value} {ts:List Tree} (A:Option Addr) (c:Nat) (hA:A=none->c=0) (hm:c<=9223372036854775807) (h:PT W G us ts):PT W G (.slice A 0 c::us) (.sl []::ts)
 |sl {us:List Value} {ts:List Tree} (b off c n:Nat) (xs:List Value) (es:List Tree) (hb:b<W.heap.size) (hG:¬G b) (hc:∀(j:Nat) u,xs[j]? =some u->W.cell? ⟨b,off+j,none⟩=some u) (hl:n=es.length) (hn:es.length<=c) (hm:c<=9223372036854775807) (hx:PT W G xs (flat es)) (h:PT W G us ts):PT W G (.slice (some ⟨b,off,none⟩) n c::us) (.sl es::ts)
 |tl {us:List Value} {ts:List Tree} (A:Option Addr) (n:Nat) (es:List Tree) (hl:n=es.length) (hs:PT W G [.slice A n n] [.sl es]) (h:PT W G us ts):PT W G (.slice A n n::us) (.tl es::ts)
 |agg {us:List Value} {ts:List Tree} (xs:List Value) (cs:List Tree) (hx:PT W G xs cs) (h:PT W G us ts):PT W G (.agg xs.toArray::us) (.agg cs::ts)
 |tup {us:List Value} {ts:List Tree} (xs:List Value) (cs:List Tree) (hx:PT W G xs cs) (h:PT W G us ts):PT W G (.tuple xs.toArray::us) (.tup cs::ts)
 |ref {us:List Value} {ts:List Tree} (b off:Nat) (xs:List Value) (cs:List Tree) (hb:b<W.heap.size) (hG:¬G b) (hc:∀(j:Nat) u,xs[j]? =some u->W.cell? ⟨b,off+j,none⟩=some u) (hx:PT W G xs cs) (h:PT W G us ts):PT W G (.pointer (some ⟨b,off,none⟩)::us) (.ref cs::ts)
section
variable {W W':World} {G G':Nat->Prop} {us:List Value} {ts:List Tree}
def PT.mono(h:PT W G us ts)(e:W.heap.size<=W'.heap.size)(a:∀b,b<W.heap.size->¬G b->W'.heap[b]? =W.heap[b]? /\¬G' b):PT W' G' us ts:=by
 induction h with
 |nil=>exact .nil
 |sc v _ ih=>exact .sc v ih
 |sl0 A c hA hm _ ih=>exact .sl0 A c hA hm ih
 |sl b off c n xs es hb hG hc hl hn hm _ _ ih1 ih2=>exact .sl b off c n xs es O (a b hb hG).2 (λj u d=>by rw[<-hc j u d];exact World.cell?_of_block (a b hb hG).1) hl hn hm ih1 ih2
 |tl A n es hl _ _ ih1 ih2=>exact .tl A n es hl ih1 ih2
 |agg xs cs _ _ ih1 ih2=>exact .agg xs cs ih1 ih2
 |tup xs cs _ _ ih1 ih2=>exact .tup xs cs ih1 ih2
 |ref b off xs cs hb hG hc _ _ ih1 ih2=>exact .ref b off xs cs O (a b hb hG).2 (λj u d=>by rw[<-hc j u d];exact World.cell?_of_block (a b hb hG).1) ih1 ih2
def PT.later(h:PT W G us ts)(c:Below W.heap.size W W'):PT W' G us ts:=h.mono c.size λb a d=>⟨c.block b a,d⟩
def PT.length(h:PT W G us ts):us.length=ts.length:=by induction h<;>simp_all
def PT.head{u:Value}{t:Tree}(h:PT W G (u::us) (t::ts)):PT W G [u] [t]:=by
 cases h with
 |sc=>exact .sc _ .nil
 |sl0 A c hA hm _=>exact .sl0 A c hA hm .nil
 |sl b off c n xs es hb hG hc hl hn hm hx _=>exact .sl b off c n xs es hb hG hc hl hn hm hx .nil
 |tl A n es hl hs _=>exact .tl A n es hl hs .nil
 |agg xs cs hx _=>exact .agg xs cs hx .nil
 |tup xs cs hx _=>exact .tup xs cs hx .nil
 |ref b off xs cs hb hG hc hx _=>exact .ref b off xs cs hb hG hc hx .nil
def PT.tail{u:Value}{t:Tree}(h:PT W G (u::us) (t::ts)):PT W G us ts:=by
 cases h<;>assumption
def PT.cons{u:Value}{t:Tree}(h:PT W G [u] [t])(a:PT W G us ts):PT W G (u::us) (t::ts):=by
 cases h with
 |sc=>exact .sc _ a
 |sl0 A c hA hm _=>exact .sl0 A c hA hm a
 |sl b off c n xs es hb hG hc hl hn hm hx _=>exact .sl b off c n xs es hb hG hc hl hn hm hx a
 |tl A n es hl hs _=>exact .tl A n es hl hs a
 |agg xs cs hx _=>exact .agg xs cs hx a
 |tup xs cs hx _=>exact .tup xs cs hx a
 |ref b off xs cs hb hG hc hx _=>exact .ref b off xs cs hb hG hc hx a
end
def PT.append{W:World}{G:Nat->Prop}:∀{us vs:List Value} {ts a:List Tree},PT W G us ts->PT W G vs a->PT W G (us++vs) (ts++a)
 |[],_,[],_,_,h'=>h'
 |[],_,t::ts,_,h,_=>by cases h
 |u::us,_,[],_,h,_=>by cases h
 |u::us,_,t::ts,_,h,h'=>h.head.cons (PT.append h.tail h')
def PT.take{W:World}{G:Nat->Prop}:∀{us:List Value} {ts:List Tree} (k:Nat),PT W G us ts->PT W G (us.take k) (ts.take k)
 |[],[],k,_=>by simpa using .nil
 |[],t::ts,_,h=>by cases h
 |u::us,[],_,h=>by cases h
 |u::us,t::ts,0,_=>.nil
 |u::us,t::ts,k+1,h=>h.head.cons (PT.take k h.tail)
def PT.drop{W:World}{G:Nat->Prop}:∀{us:List Value} {ts:List Tree} (k:Nat),PT W G us ts->PT W G (us.drop k) (ts.drop k)
 |[],[],k,_=>by simpa using .nil
 |[],t::ts,_,h=>by cases h
 |u::us,[],_,h=>by cases h
 |u::us,t::ts,0,h=>h
 |u::us,t::ts,k+1,h=>PT.drop k h.tail
def PT.get{W:World}{G:Nat->Prop}:∀{us:List Value} {ts:List Tree},PT W G us ts->∀(i:Nat) (t:Tree),ts[i]? =some t->∃u,us[i]? =some u/\PT W G [u] [t]
 |[],[],_,i,t,h=>by simp at h
 |[],_::_,h,_,_,_=>by cases h
 |_::_,[],h,_,_,_=>by cases h
 |u::us,t::ts,h,0,s,e=>by
  simp only[RY,Ro]at e;subst e;exact⟨u,Z,h.head⟩
 |u::us,t::ts,h,i+1,s,e=>by
  obtain⟨v,a,b⟩:=h.tail.get i s (by simpa using e);exact⟨v,by simpa using a,b⟩
def PT.slice{W:World}{G:Nat->Prop}{v:Value}{es:List Tree}(h:PT W G [v] [.sl es]):∃A c,v=.slice A es.length c/\es.length<=c/\c<=9223372036854775807/\(A=none->c=0)/\(0<es.length->∃b off xs,A=some ⟨b,off,none⟩/\b<W.heap.size/\¬G b/\(∀(j:Nat) u,xs[j]? =some u->W.cell? ⟨b,off+j,none⟩=some u)/\PT W G xs (flat es)):=by
 cases h with
 |sl0 A c hA hm _=>exact⟨A,c,Z,F,hm,hA,λh=>by simp at h⟩
 |sl b off c n xs es hb hG hc hl hn hm hx _=>subst hl;exact⟨_,c,Z,hn,hm,(λe=>by cases e),λ_=>⟨b,off,xs,Z,hb,hG,hc,hx⟩⟩
structure En where
 W:World
 G:Nat->Prop
 bx:Nat->Option Nat
 rv:Nat->Option Value
inductive FT (E:En):List Value->List Tree->Prop
 |nil:FT E [] []
 |pure {us:List Value} {ts:List Tree} {v:Value} {t:Tree} (h:PT E.W E.G [v] [t]) (hs:FT E us ts):FT E (v::us) (t::ts)
 |any {us:List Value} {ts:List Tree} (v:Value) (hs:FT E us ts):FT E (v::us) (.any::ts)
 |box {us:List Value} {ts:List Tree} (b off g:Nat) (hb:E.bx b=some g) (hs:FT E us ts):FT E (.pointer (some ⟨g,off,none⟩)::us) (.box b off::ts)
 |own {us:List Value} {ts:List Tree} (k n c:Nat) (A:Option Addr) (hv:E.rv k=some (.slice A n c)) (hs:FT E us ts):FT E (.slice A n c::us) (.own k::ts)
 |elp {us:List Value} {ts:List Tree} (k off g n c:Nat) (hv:E.rv k=some (.slice (some ⟨g,0,none⟩) n c)) (hs:FT E us ts):FT E (.pointer (some ⟨g,off,none⟩)::us) (.elp k off::ts)
 |agg {us:List Value} {ts:List Tree} (xs:List Value) (cs:List Tree) (hx:FT E xs cs) (hs:FT E us ts):FT E (.agg xs.toArray::us) (.agg cs::ts)
 |tup {us:List Value} {ts:List Tree} (xs:List Value) (cs:List Tree) (hx:FT E xs cs) (hs:FT E us ts):FT E (.tuple xs.toArray::us) (.tup cs::ts)
section
variable {E E':En} {us:List Value} {ts:List Tree}
def FT.mono(h:FT E us ts)(f:E.W.heap.size<=E'.W.heap.size)(e:∀b,b<E.W.heap.size->¬E.G b->E'.W.heap[b]? =E.W.heap[b]? /\¬E'.G b)(d:∀b g,E.bx b=some g->E'.bx b=some g)(a:∀k v,E.rv k=some v->E'.rv k=some v):FT E' us ts:=by
 induction h with
 |nil=>exact .nil
 |pure h _ ih=>exact .pure (h.mono f e) ih
 |any v _ ih=>exact .any v ih
 |box b off g h _ ih=>exact .box b off g (d b g h) ih
 |own k n c A h _ ih=>exact .own k n c A (a k _ h) ih
 |elp k off g n c h _ ih=>exact .elp k off g n c (a k _ h) ih
 |agg xs cs _ _ ih1 ih2=>exact .agg xs cs ih1 ih2
 |tup xs cs _ _ ih1 ih2=>exact .tup xs cs ih1 ih2
def FT.length(h:FT E us ts):us.length=ts.length:=by induction h<;>simp_all
def FT.head{u:Value}{t:Tree}(h:FT E (u::us) (t::ts)):FT E [u] [t]:=by
 cases h with
 |pure h _=>exact .pure h .nil
 |any=>exact .any _ .nil
 |box b off g h _=>exact .box b off g h .nil
 |own k n c A h _=>exact .own k n c A h .nil
 |elp k off g n c h _=>exact .elp k off g n c h .nil
 |agg xs cs hx _=>exact .agg xs cs hx .nil
 |tup xs cs hx _=>exact .tup xs cs hx .nil
def FT.tail{u:Value}{t:Tree}(h:FT E (u::us) (t::ts)):FT E us ts:=by cases h<;>assumption
def FT.cons{u:Value}{t:Tree}(h:FT E [u] [t])(a:FT E us ts):FT E (u::us) (t::ts):=by
 cases h with
 |pure h _=>exact .pure h a
 |any=>exact .any _ a
 |box b off g h _=>exact .box b off g h a
 |own k n c A h _=>exact .own k n c A h a
 |elp k off g n c h _=>exact .elp k off g n c h a
 |agg xs cs hx _=>exact .agg xs cs hx a
 |tup xs cs hx _=>exact .tup xs cs hx a
end
def FT.of:∀{E:En} {us:List Value} {ts:List Tree},PT E.W E.G us ts->FT E us ts
 |_,[],[],_=>.nil
 |_,[],_::_,h=>by cases h
 |_,_::_,[],h=>by cases h
 |_,u::us,t::ts,h=>.pure h.head (FT.of h.tail)
def FT.get{E:En}:∀{us:List Value} {ts:List Tree},FT E us ts->∀(i:Nat) (t:Tree),ts[i]? =some t->∃u,us[i]? =some u/\FT E [u] [t]
 |[],[],_,i,t,h=>by simp at h
 |[],_::_,h,_,_,_=>by cases h
 |_::_,[],h,_,_,_=>by cases h
 |u::us,t::ts,h,0,s,e=>by
  simp only[RY,Ro]at e;subst e;exact⟨u,Z,h.head⟩
 |u::us,t::ts,h,i+1,s,e=>by
  obtain⟨v,a,b⟩:=h.tail.get i s (by simpa using e);exact⟨v,by simpa using a,b⟩
def FT.take{E:En}:∀{us:List Value} {ts:List Tree} (k:Nat),FT E us ts->FT E (us.take k) (ts.take k)
 |[],[],k,_=>by simpa using .nil
 |[],t::ts,_,h=>by cases h
 |u::us,[],_,h=>by cases h
 |u::us,t::ts,0,_=>.nil
 |u::us,t::ts,k+1,h=>h.head.cons (FT.take k h.tail)
def FT.drop{E:En}:∀{us:List Value} {ts:List Tree} (k:Nat),FT E us ts->FT E (us.drop k) (ts.drop k)
 |[],[],k,_=>by simpa using .nil
 |[],t::ts,_,h=>by cases h
 |u::us,[],_,h=>by cases h
 |u::us,t::ts,0,h=>h
 |u::us,t::ts,k+1,h=>FT.drop k h.tail
def FT.append{E:En}:∀{us vs:List Value} {ts a:List Tree},FT E us ts->FT E vs a->FT E (us++vs) (ts++a)
 |[],_,[],_,_,h'=>h'
 |[],_,t::ts,_,h,_=>by cases h
 |u::us,_,[],_,h,_=>by cases h
 |u::us,_,t::ts,_,h,h'=>h.head.cons (FT.append h.tail h')
section
variable {E:En} {v:Value}
def FT.isSc{x:Value}(h:FT E [v] [.sc x]):v=x:=by
 cases h with
 |pure h _=>cases h;rfl
def FT.isSl{es:List Tree}(h:FT E [v] [.sl es]):PT E.W E.G [v] [.sl es]:=by
 cases h with
 |pure h _=>exact h
def FT.isRef{cs:List Tree}(h:FT E [v] [.ref cs]):∃b off xs,v=.pointer (some ⟨b,off,none⟩)/\b<E.W.heap.size/\¬E.G b/\(∀(j:Nat) u,xs[j]? =some u->E.W.cell? ⟨b,off+j,none⟩=some u)/\PT E.W E.G xs cs:=by
 cases h with
 |pure h _=>
  cases h with
  |ref b off xs cs hb hG hc hx _=>exact⟨b,off,xs,Z,hb,hG,hc,hx⟩
def FT.isAgg{cs:List Tree}(h:FT E [v] [.agg cs]):∃xs,v=.agg xs.toArray/\FT E xs cs:=by
 cases h with
 |pure h _=>
  cases h with
  |agg xs cs hx _=>exact⟨xs,Z,.of hx⟩
 |agg xs cs hx _=>exact⟨xs,Z,hx⟩
def FT.isTup{cs:List Tree}(h:FT E [v] [.tup cs]):∃xs,v=.tuple xs.toArray/\FT E xs cs:=by
 cases h with
 |pure h _=>
  cases h with
  |tup xs cs hx _=>exact⟨xs,Z,.of hx⟩
 |tup xs cs hx _=>exact⟨xs,Z,hx⟩
def FT.isBox{b off:Nat}(h:FT E [v] [.box b off]):∃g,E.bx b=some g/\v=.pointer (some ⟨g,off,none⟩):=by
 cases h with
 |pure h _=>cases h
 |box b off g hb _=>exact⟨g,hb,Z⟩
def FT.isOwn{k:Nat}(h:FT E [v] [.own k]):E.rv k=some v/\∃A n c,v=.slice A n c:=by
 cases h with
 |pure h _=>cases h
 |own k n c A hv _=>exact⟨hv,A,n,c,Z⟩
def FT.isElp{k off:Nat}(h:FT E [v] [.elp k off]):∃g n c,E.rv k=some (.slice (some ⟨g,0,none⟩) n c)/\v=.pointer (some ⟨g,off,none⟩):=by
 cases h with
 |pure h _=>cases h
 |elp k off g n c hv _=>exact⟨g,n,c,hv,Z⟩
end
def Tree.plain0:Tree->Bool
 | .sc _| .sl _| .tl _| .ref _=>true
 |_=>false
def Tree.plain:Tree->Bool
 | .sc _| .sl _| .tl _| .ref _=>true
 | .agg cs=>cs.all Tree.plain0
 | .tup cs=>cs.all λt=>match t with
  | .agg ds=>ds.all Tree.plain0
  |t=>t.plain0
 |_=>false
def Tree.one:Tree->Bool
 | .sc v=>v.oneCell'
 | .sl _| .tl _| .ref _| .box _ _| .own _| .elp _ _=>true
 |_=>false
def FT.one{E:En}{v:Value}{t:Tree}(h:FT E [v] [t])(a:t.one=true):v.oneCell'=true:=by
 cases h with
 |pure h _=>
  cases h with
  |sc=>exact a
  |sl0=>rfl
  |sl=>rfl
  |tl=>rfl
  |agg=>simp[Tree.one]at a
  |tup=>simp[Tree.one]at a
  |ref=>rfl
 |any=>simp[Tree.one]at a
 |box=>rfl
 |own=>rfl
 |elp=>rfl
 |agg=>simp[Tree.one]at a
 |tup=>simp[Tree.one]at a
def FT.ones{E:En}:∀{us:List Value} {ts:List Tree},FT E us ts->ts.all Tree.one=true->∀u∈us,u.oneCell'=true
 |[],[],_,_,u,a=>by simp at a
 |[],_::_,h,_,_,_=>by cases h
 |_::_,[],h,_,_,_=>by cases h
 |x::us,t::ts,h,hp,u,a=>by
  simp only[SJ,Q9]at hp;rcases Ri.1 a with rfl|a
  ·exact h.head.one hp.1
  exact FT.ones h.tail hp.2 u a
def FT.plain0{E:En}{v:Value}{t:Tree}(h:FT E [v] [t])(a:t.plain0=true):PT E.W E.G [v] [t]:=by
 cases t<;>simp only[Tree.plain0,Ty]at a<;>cases h<;>assumption
def FT.plain0s{E:En}:∀{us:List Value} {ts:List Tree},FT E us ts->ts.all Tree.plain0=true->PT E.W E.G us ts
 |[],[],_,_=>.nil
 |[],_::_,h,_=>by cases h
 |_::_,[],h,_=>by cases h
 |u::us,t::ts,h,hp=>by
  simp only[SJ,Q9]at hp;exact(h.head.plain0 hp.1).cons (FT.plain0s h.tail hp.2)
def FT.plain1{E:En}{v:Value}{cs:List Tree}(h:FT E [v] [.agg cs])(a:cs.all Tree.plain0=true):PT E.W E.G [v] [.agg cs]:=by
 obtain⟨xs,rfl,b⟩:=h.isAgg;exact .agg xs cs (b.plain0s a) .nil
def FT.plain{E:En}{v:Value}{t:Tree}(h:FT E [v] [t])(a:t.plain=true):PT E.W E.G [v] [t]:=by
 cases t with
 |sc _=>exact h.plain0 Z
 |sl _=>exact h.plain0 Z
 |tl _=>exact h.plain0 Z
 |ref _=>exact h.plain0 Z
 |agg cs=>exact h.plain1 a
 |tup cs=>
  obtain⟨xs,rfl,b⟩:=h.isTup;refine .tup xs cs ?_ .nil;clear h;simp only[Tree.plain]at a;induction cs generalizing xs with
  |nil=>cases b;exact .nil
  |cons c cs ih=>
   cases xs with
   |nil=>cases b
   |cons x xs=>
    simp only[SJ,Q9]at a;refine PT.cons ?_ (ih a.2 xs b.tail);have d:=b.head;cases c with
    |agg ds=>exact d.plain1 a.1
    |_=>exact d.plain0 a.1
 |_=>simp[Tree.plain]at a
def FT.plains{E:En}:∀{us:List Value} {ts:List Tree},FT E us ts->ts.all Tree.plain=true->PT E.W E.G us ts
 |[],[],_,_=>.nil
 |[],_::_,h,_=>by cases h
 |_::_,[],h,_=>by cases h
 |u::us,t::ts,h,hp=>by
  simp only[SJ,Q9]at hp;exact(h.head.plain hp.1).cons (FT.plains h.tail hp.2)
def xP:(prog.info? 5).map (λi=>(i.zero,i.size,i.bytes))=some (some (.int .u8 0),1,1):=U
def OwnB(w:World)(base:Nat)(v:Value)(l:List UInt8):Prop:=w.ownsRow base 5 1 v l.length (bZ l)
def OwnB.nil(w:World)(base:Nat):OwnB w base (.slice none 0 0) []:=World.ownsRow_nil _ _ _ _
def eF{w w':World}{base:Nat}{e:TypeId}{size n:Nat}{v:Value}{xs:List Value}(h:w.ownsRow base e size v n xs)(a:Below w.heap.size w w'):w'.ownsRow base e size v n xs:=
 h.kept (row:=none) ⟨a.os,a.tape,a.output,a.size,λi b _=>a.block i b⟩ (by cases v.ownBlock<;>simp)
def OwnB.below{w w':World}{base:Nat}{v:Value}{l:List UInt8}(h:OwnB w base v l)(a:Below w.heap.size w w'):OwnB w' base v l:=eF h a
def Far(v:Value)(k:Nat):Prop:=v.ownBlock≠some k
def uz{w:World}{base:Nat}{v:Value}{l:List UInt8}{k:Nat}(h:OwnB w base v l)(a:w.heap.size<=k):Far v k:=λe=>by have:=(h.lt k e).2;omega
structure Grew (w w':World) (base:Nat) (v v':Value):Prop where
 size:w.heap.size<=w'.heap.size
 kept:∀k,k<w.heap.size->Far v k->w'.heap[k]? =w.heap[k]?
 far:∀k,k<w.heap.size->Far v k->Far v' k
 below:Below base w w'
def Grew.blk{w w':World}{base:Nat}{v v':Value}(h:Grew w w' base v v'){g:Nat}{t:TypeId}{cs:Array Value}(a:IsBlk w g t cs)(b:Far v g):IsBlk w' g t cs:=(h.kept g a.lt b).trans a
def Fg{w c w':World}{base:Nat}{v v':Value}{l:List UInt8}(d:OwnB w base v l)(j:∃o,c=w.alloc o\/c=w)(b:c.grownBy w' v.ownBlock)(g:v'.ownBlock=v.ownBlock\/v'.ownBlock=some c.heap.size)(a:base<=w.heap.size):Grew w w' base v v':=by
 have p:w.heap.size<=c.heap.size:=by rcases j with⟨o,rfl|rfl⟩<;>simp
 have i:∀k,k<w.heap.size->c.heap[k]? =w.heap[k]? :=λk i=>by
  rcases j with⟨o,rfl|rfl⟩
  ·exact Below.heap_alloc w o k i
  rfl
 have n:Below w.heap.size w c:=by
  rcases j with⟨o,rfl|rfl⟩
  ·exact(Below.refl _ _).alloc (Q3 _) _
  exact Below.refl _ _
 refine⟨Q7 p b.size,λk m f=>(b.block k O (λe=>f e.symm)).trans (i k m),λk m f e=>?_,(n.mono a).grown b O (λk e=>(d.lt k e).1)⟩;rcases g with h|h<;>rw[h]at e
 ·exact f e
 injection e with e;omega
def qm{ops:Array Oper}{e:List Oper}{o:Oper}{a:Act}{Q:Exit->Act->World->Prop}{w:World}(base:Nat)(v:Value)(l:List UInt8)(c:Int)(d:UInt8)
  (s x:Operand) (j:o.guard=none) (t:o.op=.call {callee:=.builtin .append,args:=#[s,x],argTypes:=#[22,22]})
  (u:a.eval s=v) (y:a.eval x=.slice (some ⟨w.heap.size,0,none⟩) 1 1) (b:OwnB w base v l) (r:c=d.toNat) (A:l.length<=1099511627776) (f:base<=w.heap.size)
  (h:∀v' w',OwnB w' base v' (l++[d])->Grew w w' base v v'->wpList prog ops Q e (a.put o.dst v') w'):
  wpList prog ops Q (o::e) a (w.alloc (.cells #[.int .u8 c] 5)):=by
 obtain⟨z,m,n,p,q⟩:=info_parts xP;refine wpList_append_own_at _ j s x _ t base 5 z (.int .u8 0) 1 1 underlying22 m n p q Z I v l.length (bZ l) u (World.ownsRow.alloc b _)
  ⟨w.heap.size,0,none⟩ 1 1 [.int .u8 c] y Z (cell_one_new _ _ _) (by simp[Value.oneCell']) (by simp only[maxLen];omega) O (by simp;omega) ?_
 intro v' w' g k _ i;refine h v' w' ?_ (Fg b ⟨_,.inl Z⟩ k i f);subst r;unfold OwnB;rw[pA];simpa[bZ]using g
def Dv(w:World)(base:Nat)(ty:TypeId)(v:Value)(l:List UInt8)(s:ByteArray)(b:OwnB w base v l)(I:l.length+s.size<=1099511627776)(f:base<=w.heap.size):
  ∃v' w',(Builtin.append_ #[22,9] ty #[v,.string s]).run prog w=.ok v' w'/\OwnB w' base v' (l++s.data.toList)/\w.grownBy w' v.ownBlock/\(v'.ownBlock=v.ownBlock\/v'.ownBlock=some w.heap.size):=by
 obtain⟨t,c,k,m,n⟩:=info_parts xP;have q:=underlying22;have r:=underlying9;obtain⟨v',w',p,z,A,B⟩:=Lib.run_append_own_string (P:=prog) w base 22 9 ty 5 t q r c k m n v l.length (bZ l) b s (by simp only[maxLen];omega) O f;refine⟨v',w',p,?_,A,?_⟩
 ·unfold OwnB;rw[pA];have e:(l++s.data.toList).length=l.length+s.size:=F
  rw[e];exact z
 rcases b.2 with⟨rfl,J⟩|⟨g,d,cur,rfl,C,E,H,D,x,y⟩
 ·by_cases G:s.size=0
  ·rw[B.2 ⟨Z,G⟩];exact .inl Z
  have a:=run_append_nil_string (P:=prog) w 22 9 ty 5 t (.int .u8 0) q r c k s O O (by rw[n];omega);rw[p]at a;injection a with o _
  rw[o];exact .inr Z
 by_cases i:l.length+s.size<=d
 ·have a:=Lib.run_append_room_string (P:=prog) w 22 9 ty 5 t q r c m g l.length d cur E s i (by rw[x];omega);rw[p]at a;injection a with o _
  rw[o];exact .inl Z
 have h:∀j u,(bZ l)[j]? =some u->w.cell? ((⟨g,0,none⟩:Addr).add j)=some u:=World.ownsRow.cells b (g:=g) Z;have a:=Lib.run_append_grow_string (P:=prog) w 22 9 ty 5 t (.int .u8 0) q r c k ⟨g,0,none⟩ l.length d (bZ l) (by rw[m,eR];omega) h s O O (by rw[n];exact growslice_fits O O);rw[p]at a;injection a with o _
 rw[o];exact .inr Z
def L8{ops:Array Oper}{d:List Oper}{o:Oper}{a:Act}{Q:Exit->Act->World->Prop}{w:World}(base:Nat)(v:Value)(l:List UInt8)(str:ByteArray)
  (s x:Operand) (e:o.guard=none) (m:o.op=.call {callee:=.builtin .append,args:=#[s,x],argTypes:=#[22,9]})
  (p:a.eval s=v) (q:a.eval x=.string str) (c:OwnB w base v l) (k:l.length+str.size<=1099511627776) (b:base<=w.heap.size)
  (h:∀v' w',OwnB w' base v' (l++str.data.toList)->Grew w w' base v v'->wpList prog ops Q d (a.put o.dst v') w'):
  wpList prog ops Q (o::d) a w:=by
 refine wpList_plain e λK j=>?_
 obtain⟨v',w',n,f,g,i⟩:=Dv w base o.type v l str c k b;unfold Oper.wp execOp;simp only[m,resolve,invoke,builtin,Sem.run_bind,Sem.run_pure,Result.andThen_ok,Tk,Sb,TD,p,q,n];exact j _ _ (h v' w' f (Fg c ⟨.cells #[] 0,.inr Z⟩ g i b))
def jw{w w':World}{base:Nat}{e:TypeId}{size n g:Nat}{v:Value}{xs:List Value}(h:w.ownsRow base e size v n xs)(i:v.ownBlock≠some g)(l:∀k,k≠g->w'.heap[k]? =w.heap[k]?):w'.ownsRow base e size v n xs:=by
 refine⟨h.1,?_⟩;rcases h.2 with c|⟨b,a,cur,rfl,f,j,d⟩
 ·exact .inl c
 refine .inr ⟨b,a,cur,Z,f,?_,d⟩;rw[l b (λe=>i (by rw[e];rfl))];exact j
def I6:(prog.info? 77).map (λi=>(i.zero,i.size,i.bytes))=some (some (.agg #[.int .i64 0,.int .i64 0,.string ⟨#[]⟩]),3,32):=U
def OwnV(w:World)(base:Nat)(v:Value)(l:List V):Prop:=w.ownsRow base 77 3 v l.length (ep l)
def OwnV.nil(w:World)(base:Nat):OwnV w base (.slice none 0 0) []:=World.ownsRow_nil _ _ _ _
def OwnV.below{w w':World}{base:Nat}{v:Value}{l:List V}(h:OwnV w base v l)(a:Below w.heap.size w w'):OwnV w' base v l:=eF h a
def uA{w c w':World}{base:Nat}{v v':Value}{e:TypeId}{size n:Nat}{xs:List Value}(d:w.ownsRow base e size v n xs)(j:∃o,c=w.alloc o\/c=w)(b:c.grownBy w' v.ownBlock)(g:v'.ownBlock=v.ownBlock\/v'.ownBlock=some c.heap.size)(a:base<=w.heap.size):Grew w w' base v v':=by
 have p:w.heap.size<=c.heap.size:=by rcases j with⟨o,rfl|rfl⟩<;>simp
 have i:∀k,k<w.heap.size->c.heap[k]? =w.heap[k]? :=λk i=>by
  rcases j with⟨o,rfl|rfl⟩
  ·exact Below.heap_alloc w o k i
  rfl
 have m:Below w.heap.size w c:=by
  rcases j with⟨o,rfl|rfl⟩
  ·exact(Below.refl _ _).alloc (Q3 _) _
  exact Below.refl _ _
 refine⟨Q7 p b.size,λk l f=>(b.block k O (λe=>f e.symm)).trans (i k l),λk l f e=>?_,(m.mono a).grown b O (λk e=>(d.lt k e).1)⟩;rcases g with h|h<;>rw[h]at e
 ·exact f e
 injection e with e;omega
def Dw(l:List V):∀u∈ep l,u.oneCell'=true:=by
 intro u a;simp only[ep,List.mem_flatMap,V.cells,Ri,RM,or_false]at a;obtain⟨v,_,rfl|rfl|rfl⟩:=a<;>rfl
def Fh{ops:Array Oper}{c:List Oper}{o:Oper}{a:Act}{Q:Exit->Act->World->Prop}{w:World}(base:Nat)(v:Value)(l:List V)(u:V)
  (s x:Operand) (g:o.guard=none) (q:o.op=.call {callee:=.builtin .append,args:=#[s,x],argTypes:=#[61,61]})
  (r:a.eval s=v) (y:a.eval x=.slice (some ⟨w.heap.size,0,none⟩) 1 1) (b:OwnV w base v l) (A:l.length<=1073741824) (d:base<=w.heap.size)
  (h:∀v' w',OwnV w' base v' (l++[u])->Grew w w' base v v'->wpList prog ops Q c (a.put o.dst v') w'):
  wpList prog ops Q (o::c) a (w.alloc (.cells #[.int .i64 u.t,.int .i64 u.n,.string u.s] 77)):=by
 obtain⟨z,j,k,m,p⟩:=info_parts I6;refine wpList_append_own_at _ g s x _ q base 77 z (.agg #[.int .i64 0,.int .i64 0,.string ⟨#[]⟩]) 3 32 underlying61 j k m p Z I v l.length (ep l) r (World.ownsRow.alloc b _)
  ⟨w.heap.size,0,none⟩ 1 1 (ep [u]) y (by rw[jL];rfl) (World.news_of_block (iF w 77 _)) (Dw _) (by simp only[maxLen];omega) O (by simp;omega) ?_
 intro v' w' e i _ f;refine h v' w' ?_ (uA b ⟨_,.inl Z⟩ i f d);unfold OwnV;rw[xx];simpa using e
def fj{P:Program}{ops:Array Oper}{b:List Oper}{o:Oper}{a:Act}{w:World}{Q:Exit->Act->World->Prop}(d:Region.wanted o (yielded ops a.tmps)=true)
  (h:∀K:Act->World->Prop,(∀c w',wpList P ops Q b c w'->K c w')->o.wp P a w K Q):wpList P ops Q (o::b) a w:=by
 unfold wpList;rw[if_pos d];exact .inl (h _ λ_ _ h=>h)
def At.news{w:World}{B:Nat}{a:Addr}{xs:List Value}(h:At w B (some a) xs):∀j u,xs[j]? =some u->w.cell? (a.add j)=some u:=λj u c=>by
 have f:0<xs.length:=by have:=(Q6.1 c).1;omega
 obtain⟨b,off,e,_,d⟩:=h f;injection e with e
 subst e;rw[show(⟨b,off,none⟩:Addr).add j=⟨b,off+j,none⟩from by unfold Addr.add;split<;>simp_all];exact d j u c
def L9{ops:Array Oper}{j:List Oper}{o:Oper}{a:Act}{Q:Exit->Act->World->Prop}{w:World}(s x:Operand)(t e:TypeId)(i:TypeInfo)(z:Value)(size b:Nat)
  (G:o.op=.call {callee:=.builtin .append,args:=#[s,x],argTypes:=#[t,t]}) (T:Region.wanted o (yielded ops a.tmps)=true)
  (I:prog.underlying t=some (.slice e)) (E:prog.info? e=some i) (U:i.zero=some z) (k:i.size=size) (y:i.bytes=b) (C:z.cells.size=size) (B:0<size)
  (base:Nat) (v:Value) (n:Nat) (xs:List Value) (H:a.eval s=v) (d:w.ownsRow base e size v n xs) (A:Option Addr) (m c:Nat) (news:List Value) (J:a.eval x=.slice A m c) (r:At w w.heap.size A news)
  (F:news.length=m*size) (l:A=none->m=0/\c=0) (L:∀u∈news,u.oneCell'=true) (q:n+m<=maxLen) (g:(n+m)*b<=140737488355328) (f:base<=w.heap.size)
  (h:∀v' w',w'.ownsRow base e size v' (n+m) (xs++news)->Grew w w' base v v'->wpList prog ops Q j (a.put o.dst v') w'):wpList prog ops Q (o::j) a w:=by
 refine fj T λK D=>?_
 cases A with
 |none=>
  obtain⟨rfl,rfl⟩:=l Z;have R:news=[]:=Rj (by simpa using F);subst R;have p:=run_append_owned_none (P:=prog) (w:=w) base t o.type e i size I E v n xs d;unfold Oper.wp;simp only[execOp,G,resolve,invoke,builtin,Sem.run_bind,Sem.run_pure,Result.andThen_ok,Tk,Sb,TD,H,J,p];exact D _ _ (h v w (by simpa using d) ⟨Q3 _,λ_ _ _=>rfl,λ_ _ h=>h,Below.refl _ _⟩)
 |some ad=>
  obtain⟨v',w',S,M,N,_,O⟩:=run_append_own_at (P:=prog) w base t o.type e i z size b I E U k y C B v n xs d ad m c news F r.news L q g f;unfold Oper.wp execOp;simp only[G,resolve,invoke,builtin,Sem.run_bind,Sem.run_pure,Result.andThen_ok,Tk,Sb,TD,H,J,S];exact D _ _ (h v' w' M (uA d ⟨.cells #[] 0,.inr Z⟩ N O f))
