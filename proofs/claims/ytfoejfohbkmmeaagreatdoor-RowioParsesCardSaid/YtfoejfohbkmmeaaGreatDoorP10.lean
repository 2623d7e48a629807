import Derived.Test.YtfoejfohbkmmeaaGreatDoorP01
import Derived.Test.YtfoejfohbkmmeaaGreatDoorP00
import Derived.Test.YtfoejfohbkmmeaaGreatDoorP02
import Derived.Laws.OwnMore
import Derived.Lib.SmallJoins
import Derived.Deep.QuietTactic
import Derived.BigQuiet
set_option maxRecDepth 100000
set_option maxHeartbeats 2000000
namespace Go.Proofs.YtfoejfohbkmmeaaGreatDoor
open Go.RowKit
open Lib renaming hid→J
def wm(acc:List Nat):List Edge->Nat->Nat
 |[],m=>m
 |e::l,m=>wm acc l (if Region.binds .any e then m|||((1<<<e.on)|||acc.getD e.on 0)else m)
def rz(acc:List Nat)(o:Oper):List Nat:=acc++[wm acc o.after.toList 0]
def rl(l:List Oper):List Nat:=l.foldl rz []
def p8(l:List Oper)(i j:Nat):Bool:=((rl l).getD i 0).testBit j
theorem qK(b:List Nat)(j:Nat):∀(es:List Edge) (m:Nat),(wm b es m).testBit j=true->m.testBit j=true\/∃e∈es,Region.binds .any e=true/\(e.on=j\/(b.getD e.on 0).testBit j=true)
 |[],m,h=>.inl h
 |e::l,m,h=>by
  rcases qK b j l _ h with a|⟨g,d,c,f⟩
  ·by_cases c:Region.binds .any e=true
   ·rw[if_pos c,Nat.testBit_or,Nat.testBit_or,MP,MP]at a;rcases a with a|a|a
    ·exact .inl a
    ·refine .inr ⟨e,by simp,c,.inl ?_⟩;rw[Nat.one_shiftLeft,Nat.testBit_two_pow]at a;simpa using a
    exact .inr ⟨e,by simp,c,.inr a⟩
   rw[if_neg c]at a;exact .inl a
  exact .inr ⟨g,by simp[d],c,f⟩
theorem uw(l:List Oper)(o:Oper):rl (l++[o])=rz (rl l) o:=by simp[rl]
theorem xI{C:List Oper->Prop}(a:C [])(b:∀l o,C l->C (l++[o]))(l:List Oper):C l:=by
 have h:∀m:List Oper,C m.reverse:=by
  intro m;induction m with
  |nil=>exact a
  |cons o m ih=>rw[Qx];exact b _ _ ih
 simpa using h l.reverse
theorem xJ(l:List Oper):(rl l).length=l.length:=by
 refine xI (C:=fun l=>(rl l).length=l.length) Z (fun l o a=>?_) l;show(rl (l++[o])).length=(l++[o]).length
 rw[uw,rz];simp[a]
theorem Dd{ops:Array Oper}{L:Array Bool}(t:Closed ops L):∀(l:List Oper),(∀(k:Nat) (o:Oper),l[k]? =some o->ops[k]? =some o)->∀i j:Nat,((rl l).getD i 0).testBit j=true->L.getD i false=true->L.getD j false=true:=by
 refine fun l=>xI (C:=fun l=>(∀(k:Nat) (o:Oper),l[k]? =some o->ops[k]? =some o)->∀i j:Nat,((rl l).getD i 0).testBit j=true->L.getD i false=true->L.getD j false=true) ?_ (fun l o g=>?_) l
 ·intro _ i j h;simp[rl]at h
 intro n i j h f;have b:∀(k:Nat) (o:Oper),l[k]? =some o->ops[k]? =some o:=fun k q m=>n k q (by rw[My (L6.1 m).1];exact m)
 rw[uw,rz]at h;by_cases d:i<(rl l).length
 ·rw[Mk,My d,<-Mk]at h;exact g b i j h f
 by_cases r:i=(rl l).length
 ·subst r;rw[Mk,Mz (L4 _)]at h;simp only[M2,MV,MG]at h;rw[xJ]at f;have v:ops[l.length]? =some o:=n _ _ (by simp);rcases qK _ _ _ _ h with s|⟨e,p,u,c⟩
  ·simp at s
  have a:=t l.length o v f e (by simpa using p) u;rcases c with rfl|c
  ·exact a
  exact g b e.on j c a
 rw[Mk,Nn (by simp;omega)]at h;simp at h
theorem Closed.anc{l:List Oper}{L:Array Bool}(a:Closed l.toArray L){i j:Nat}(h:p8 l i j=true)(b:L.getD i false=true):L.getD j false=true:=
 Dd a l (fun k o h=>by simpa using h) i j h b
def BU(B:Nat)(W W':World):Bool->Prop
 |true=>Below B W W'/\W.heap.size<=W'.heap.size
 |false=>Below W.heap.size W W'
def zX(l:List Oper)(cons:List (Option Nat))(i j:Nat):Bool:=
 match cons.getD j none with
 |none=>true
 |some c=>c==i||p8 l c i
def BV(l:List Oper)(cons:List (Option Nat))(i j:Nat):Bool:=
 j==i||p8 l j i||
 match cons.getD j none with
 |none=>false
 |some c=>c==i||p8 l i c
inductive PureF:List (Value->World->Prop)->List Bool->Prop
 |nil:PureF [] []
 |eq {x:Value} {l:List (Value->World->Prop)} {p:List Bool} (h:PureF l p):PureF ((fun v _=>v=x)::l) (true::p)
 |any {f:Value->World->Prop} {l:List (Value->World->Prop)} {p:List Bool} (h:PureF l p):PureF (f::l) (false::p)
theorem PureF.get{l:List (Value->World->Prop)}{p:List Bool}(h:PureF l p):∀j v W W',p.getD j true=true->eL l j v W->eL l j v W':=by
 induction h with
 |nil=>intro j v W W' _ _;simp[eL]
 |eq h ih=>
  intro j v W W' a b;cases j with
  |zero=>exact b
  |succ j=>exact ih j v W W' (by simpa using a) b
 |any h ih=>
  intro j v W W' a b;cases j with
  |zero=>simp at a
  |succ j=>exact ih j v W W' (by simpa using a) b
structure MonoC (F:List (Value->World->Prop)) (cons:List (Option Nat)) (B:Nat) (w:World) (init:List Value) (L:Array Bool) (us:List Value) (W:World):Prop where
 len:us.length=init.length
 fact:∀j,L.getD j false=true->(∀c,cons.getD j none=some c->L.getD c false=false)->eL F j (us.getD j undef) W
 old:∀j,L.getD j false=false->us.getD j undef=init.getD j undef
 below:Below B w W
 size:B<=W.heap.size
structure GivenC (l:List Oper) (dsts:List (Option Nat)) (t:Array Value) (F:List (Value->World->Prop)) (cons:List (Option Nat)) (B:Nat) (w:World) (i:Nat) (T:Nat->Value) (W:World):Prop where
 keep:∀s,dsts.contains (some s)=false->T s=t.getD s undef
 fact:∀j s,(j !=i&&p8 l i j&&zX l cons i j&&dsts[j]? ==some (some s))=true->eL F j (T s) W
 old:∀j s,((j==i||p8 l j i)&&dsts[j]? ==some (some s))=true->T s=t.getD s undef
 below:Below B w W
 size:B<=W.heap.size
def wn(l:List Oper)(dsts:List (Option Nat))(F:List (Value->World->Prop))(cons:List (Option Nat))(i:Nat):Option (Nat×Bool)->Prop
 |none=>True
 |some (j,b)=>∃s,(j !=i&&p8 l i j&&cons.getD j none==none&&dsts[j]? ==some (some s))=true/\∀v W,eL F j v W->v=.bool b
def Fc(P:Program)(l:List Oper)(dsts:List (Option Nat))(t:Array Value)(F:List (Value->World->Prop))(cons:List (Option Nat))(ap:List Nat)(B:Nat)(w:World)(i:Nat)(o:Oper):Prop:=
 wn l dsts F cons i o.guard/\∀(T:Nat->Value) (W:World),GivenC l dsts t F cons B w i T W->OpRuns P o T W fun v W'=>eL F i v W'/\BU B W W' (ap.contains i)
inductive StepsC (P:Program) (l:List Oper) (dsts:List (Option Nat)) (t:Array Value) (F:List (Value->World->Prop)) (cons:List (Option Nat)) (ap:List Nat) (B:Nat) (w:World):Nat->List Oper->Prop
 |nil {i:Nat}:StepsC P l dsts t F cons ap B w i []
 |cons' {i:Nat} {o:Oper} {r:List Oper} (h:Fc P l dsts t F cons ap B w i o) (hs:StepsC P l dsts t F cons ap B w (i+1) r):StepsC P l dsts t F cons ap B w i (o::r)
section
variable {P:Program} {l:List Oper} {dsts:List (Option Nat)} {t:Array Value} {F:List (Value->World->Prop)} {cs:List (Option Nat)} {ap:List Nat} {B:Nat} {w:World}
theorem StepsC.cons{i:Nat}{o:Oper}{r:List Oper}(b:wn l dsts F cs i o.guard)(h:∀(T:Nat->Value) (W:World),GivenC l dsts t F cs B w i T W->OpRuns P o T W fun v W'=>eL F i v W'/\BU B W W' (ap.contains i))
  (a:StepsC P l dsts t F cs ap B w (i+1) r):StepsC P l dsts t F cs ap B w i (o::r):=.cons' ⟨b,h⟩ a
theorem StepsC.at{n:Nat}{r:List Oper}(h:StepsC P l dsts t F cs ap B w n r):∀(k:Nat) (o:Oper),r[k]? =some o->Fc P l dsts t F cs ap B w (n+k) o:=by
 induction h with
 |nil=>intro k o h;simp at h
 |cons' h hs ih=>
  intro k o a;cases k with
  |zero=>
   simp only[MV,MK]at a;subst a;exact h
  |succ k=>
   have:=ih k o (by simpa using a);rwa[N5,NW 1 k]at this
theorem r8{id:Nat}{Q:Exit->Act->World->Prop}{a:Act}(dsts:List (Option Nat))(F:List (Value->World->Prop))(pf:List Bool)(cons:List (Option Nat))(ap:List Nat)(B:Nat)
  (hm:P.follows .mixedOrders=true) (a0:e8 l.toArray=true) (V:l.map (·.dst)=dsts) (y:b4 a.tmps.size dsts=true) (hB:B<=w.heap.size) (S:∀W,Stab W F)
  (a3:PureF F pf) (H:(ap.all fun i=>(List.range l.length).all fun j=>pf.getD j true||BV l cons i j)=true)
  (D:StepsC P l dsts a.tmps F cons ap B w 0 l)
  (R:∀(us:List Value) (W:World),us.length=dsts.length->(∀j,j<l.length->cons.getD j none=none->eL F j (us.getD j undef) W)->Below B w W->B<=W.heap.size->Q .normal ⟨cj a.tmps (dsts.zip us),a.defers⟩ W):(Code.region id l.toArray true).wp P Q a w:=by
 have b0:dsts.length=l.length:=by rw[<-V];simp
 refine fJ (fun L a' W=>∃us,a'=⟨cj a.tmps (dsts.zip us),a.defers⟩/\L.size=l.length/\Closed l.toArray L/\MonoC F cons B w (gC a.tmps dsts) L us W) hm a0 ⟨gC a.tmps dsts,?_,by simp,gi l.toArray,⟨Z,fun j h=>absurd h j9,fun _ _=>rfl,(Below.refl _ _).drew,hB⟩⟩ ?_ ?_
 ·rw[iB]
 ·rintro L a' W i o K h2 h3 h4 ⟨us,rfl,_,hc,m⟩;have K:L.size=l.length:=by simpa using K
  have C:l[i]? =some o:=by simpa using h3
  have hi:i<l.length:=(L6.1 C).1;have Y:dsts[i]? =some o.dst:=by rw[<-V,MN,C];rfl
  have k:us.length=dsts.length:=by rw[m.len,dK]
  have A:L.getD i false=false:=getD_both h2;have r:=hc.step h3 h4;have N:∀j,j≠i->p8 l i j=true->L.getD j false=true:=fun j h x=>by
   have:=r.anc x (dX (by omega));rwa[cl (fun e=>h e.symm)]at this
  have I:∀j,p8 l j i=true->L.getD j false=false:=fun j x=>by
   cases hl:L.getD j false with
   |false=>rfl
   |true=>
    have:=hc.anc x hl;rw[A]at this;cases this
  have G:GivenC l dsts a.tmps F cons B w i (fun s=>(cj a.tmps (dsts.zip us)).getD s undef) W:=by
   refine⟨fun s d=>ez dsts us _ s d,fun j s d=>?_,fun j s d=>?_,m.below,m.size⟩
   ·simp only[L8,bne_iff_ne,beq_iff_eq]at d;obtain⟨⟨⟨h,x⟩,q⟩,d⟩:=d;show eL F j ((cj a.tmps (dsts.zip us)).getD s undef) W
    rw[(co dsts us _ j s y k d).1];refine m.fact j (N j h x) fun c g=>?_
    rw[zX,g]at q;simp only[MP,beq_iff_eq]at q;rcases q with rfl|q
    ·exact A
    exact I c q
   simp only[L8,MP,beq_iff_eq]at d;obtain⟨x,d⟩:=d;show(cj a.tmps (dsts.zip us)).getD s undef=_
   have h:L.getD j false=false:=by
    rcases x with rfl|x
    ·exact A
    exact I j x
   rw[(co dsts us _ j s y k d).1,m.old j h,jD _ _ _ _ d]
  obtain⟨hg,t⟩:Fc P l dsts a.tmps F cons ap B w i o:=by
   have:=D.at i o C;rwa[MT]at this
  have t:=t _ W G;have hw:Region.wanted o (yielded l.toArray (cj a.tmps (dsts.zip us)))=true:=by
   unfold Region.wanted;cases a5:o.guard with
   |none=>rfl
   |some p=>
    obtain⟨j,b⟩:=p;rw[a5]at hg;obtain⟨s,d,hR⟩:=hg;simp only[L8,bne_iff_ne,beq_iff_eq]at d;obtain⟨⟨⟨h,x⟩,q⟩,d⟩:=d;have X:=hR _ _ (m.fact j (N j h x) fun c g=>by rw[q]at g;cases g);rw[<-(co dsts us _ j s y k d).1]at X;have a4:=(co dsts us a.tmps j s y k d).2;have a2:(l.toArray[j]?).bind (·.dst)=some s:=by
     rw[<-V,MN]at d;cases ho:l[j]? with
     |none=>simp[ho]at d
     |some oj=>simpa[ho]using d
    have:(cj a.tmps (dsts.zip us))[s]? =some (.bool b):=by
     have hz:s<(cj a.tmps (dsts.zip us)).size:=by rw[fb];exact a4
     simp only[MO,MC hz,MG]at X;rw[MC hz,X]
    simp only[yielded,a2,M9,this];cases b<;>rfl
  simp only[wpList];rw[if_pos hw];refine .inl<|Oper.wp_mono ?_ t.wp;rintro a9 J ⟨v,e,hR,E⟩;have O:Below B W J/\W.heap.size<=J.heap.size:=by
   cases T:ap.contains i with
   |true=>rw[T]at E;exact E
   |false=>
    rw[T]at E;exact⟨Below.mono E m.size,Below.size E⟩
  refine⟨us.set i v,?_,by simpa using K,r,⟨by simpa using m.len,fun j h g=>?_,fun j h=>?_,m.below.trans O.1,Ma m.size O.2⟩⟩
  ·rw[e];exact iX dsts us _ _ i _ v y k Y
  ·by_cases n:i=j
   ·subst n;have:(us.set i v).getD i undef=v:=by simp[List.getD,show i<us.length by omega]
    rw[this];exact hR
   have u:L.getD j false=true:=by rwa[cl n]at h
   have:(us.set i v).getD j undef=us.getD j undef:=by simp[List.getD,n]
   rw[this];have hf:eL F j (us.getD j undef) W:=m.fact j u fun c z=>by
    have:=g c z;by_cases M:i=c
    ·subst M;exact A
    rwa[cl M]at this
   cases T:ap.contains i with
   |false=>
    rw[T]at E;exact(S W).get j _ _ _ (Below.refl _ _) hf E
   |true=>
    by_cases a1:j<l.length
    ·have h5:=Mh.1 H i (by simpa using T);have f:=Mh.1 h5 j (N6.2 a1);rw[MP]at f;rcases f with f|f
     ·exact a3.get j _ _ _ f hf
     exfalso;unfold BV at f;simp only[MP,beq_iff_eq]at f;rcases f with(f|f)|f
     ·exact n f.symm
     ·rw[I j f]at u;cases u
     cases z:cons.getD j none with
     |none=>rw[z]at f;cases f
     |some c=>
      rw[z]at f;simp only[MP,beq_iff_eq]at f;have U:=g c z;rcases f with rfl|f
      ·rw[dX (by omega)]at U;cases U
      rw[r.anc f (dX (by omega))]at U;cases U
    have hL:L.getD j false=false:=by simp[OM (show L.size<=j by omega)]
    rw[hL]at u;cases u
  by_cases n:i=j
  ·subst n;rw[dX (by omega)]at h;cases h
  rw[cl n]at h;have:(us.set i v).getD j undef=us.getD j undef:=by simp[List.getD,n]
  rw[this];exact m.old j h
 rintro L a' W K ⟨us,rfl,_,_,m⟩;exact R us W (by rw[m.len,dK]) (fun j h g=>m.fact j (K j (by simpa using h)) fun c r=>by rw[g]at r;cases r) m.below m.size
end
def ay:List Nat->Nat
 |[]=>0
 |d::l=>d+4294967296*ay l
def Digs(l:List Nat):Prop:=∀d∈l,d<4294967296
def qL:Nat->Nat->List Nat
 |0,_=>[]
 |k+1,n=>if n=0 then []else(n%4294967296)::qL k (n/4294967296)
def ax(n:Nat):List Nat:=qL n n
theorem oV:∀(k m n:Nat),n<=k->n<=m->qL k n=qL m n
 |0,m,n,hk,_=>by
  obtain rfl:n=0:=by omega
  cases m<;>simp[qL]
 |k+1,0,n,_,hm=>by
  obtain rfl:n=0:=by omega
  simp[qL]
 |k+1,m+1,n,hk,hm=>by
  simp only[qL];split
  ·rfl
  rw[oV k m (n/4294967296) (by omega) (by omega)]
theorem gX:ax 0=[]:=rfl
theorem fg{n:Nat}(h:n≠0):ax n=(n%4294967296)::ax (n/4294967296):=by
 unfold ax;obtain⟨k,rfl⟩:∃k,n=k+1:=⟨n-1,by omega⟩;rw[qL,if_neg h,oV k ((k+1)/4294967296) _ (by omega) (L4 _)]
theorem aO(n:Nat):ay (ax n)=n:=by
 induction n using Nat.strongRecOn with
 |ind n ih=>
  by_cases h:n=0
  ·subst h;rfl
  rw[fg h,ay,ih (n/4294967296) (by omega)];omega
theorem bZ(n:Nat):Digs (ax n):=by
 induction n using Nat.strongRecOn with
 |ind n ih=>
  by_cases h:n=0
  ·subst h;intro d a;simp[gX]at a
  rw[fg h];intro d a;rcases Mi.1 a with rfl|a
  ·omega
  exact ih (n/4294967296) (by omega) d a
theorem xK{n:Nat}:ax n=[]↔n=0:=by
 constructor
 ·intro h;have:=aO n;rw[h]at this;exact this.symm
 rintro rfl;rfl
theorem bR{n:Nat}:(ax n).length=0↔n=0:=by rw[List.length_eq_zero_iff,xK]
theorem BW:∀(l:List Nat),Digs l->(∀h:l≠ [],l.getLast h≠0)->l=ax (ay l)
 |[],_,_=>rfl
 |d::l,hd,hl=>by
  have a:d<4294967296:=hd d (Ml ..);cases l with
  |nil=>
   have g:d≠0:=hl (by simp);simp only[ay,OB,Nk];rw[fg g,ND a,N3 a,gX]
  |cons c l=>
   have b:=BW (c::l) (fun x f=>hd x (Ms _ f)) (fun h=>by have:=hl (by simp);rwa[List.getLast_cons h]at this);have i:ay (c::l)≠0:=fun e=>by rw[e,gX]at b;cases b
   generalize c::l=m at*;simp only[ay];rw[fg (by omega),show(d+4294967296*ay m)%4294967296=d by omega,show(d+4294967296*ay m)/4294967296=ay m by omega,<-b]
theorem eT:∀(a b:List Nat),ay (a++b)=ay a+4294967296^a.length*ay b
 |[],b=>by simp[ay]
 |d::a,b=>by
  have:=eT a b;simp only[Na,ay,this,L9,MH,MB];rw[Mt (4294967296^a.length) 4294967296,Mu];omega
theorem nX:∀(l:List Nat),(∀d∈l,d=0)->ay l=0
 |[],_=>rfl
 |d::l,h=>by
  have c:=h d (Ml ..);have a:=nX l (fun x b=>h x (Ms _ b));simp[ay,c,a]
theorem ux(a:List Nat)(k:Nat)(p:k<=a.length)(g:Digs a)(l:∀(j:Nat) (i:j<a.length),k<=j->a[j]=0)(n:k=0\/∃h:k-1<a.length,a[k-1]≠0):a.take k=ax (ay a):=by
 have e:ay a=ay (a.take k):=by
  rw[<-M4 k a,eT,nX (a.drop k),M4]
  ·simp
  intro d b;obtain⟨j,i,rfl⟩:=Nc b;rw[OR];exact l _ _ (by omega)
 rw[e];refine BW _ (fun d b=>g d (ME b)) fun h=>?_
 rcases n with rfl|⟨o,f⟩
 ·simp at h
 have m:k≠0:=fun e=>by subst e;simp at h
 rw[List.getLast_eq_getElem];have c:(a.take k).length=k:=by rw[Mf];omega
 simp only[List.getElem_take,c];exact f
theorem b8:∀(l:List Nat),Digs l->ay l<4294967296^l.length
 |[],_=>by simp[ay]
 |d::l,h=>by
  have c:=h d (Ml ..);have b:=b8 l (fun x a=>h x (Ms _ a));simp only[ay,L9,MH];omega
theorem a8{n k:Nat}(h:n<4294967296^k):(ax n).length<=k:=by
 induction k generalizing n with
 |zero=>
  obtain rfl:n=0:=by simpa using h
  simp[gX]
 |succ k ih=>
  by_cases a:n=0
  ·subst a;simp[gX]
  rw[fg a];rw[MH]at h;have:=ih (n:=n/4294967296) (by rw[Nt (by decide)];exact h);simp;omega
theorem a7{m n:Nat}(h:m<=n):(ax m).length<=(ax n).length:=by
 refine a8 ?_;have:=b8 (ax n) (bZ n);rw[aO]at this;omega
def cA(l:List Nat):List Value:=l.map fun(d:Nat)=>.int .u32 (d:Int)
theorem dn(l:List Nat):(cA l).length=l.length:=by simp[cA]
theorem nH(a b:List Nat):cA (a++b)=cA a++cA b:=by simp[cA]
theorem r9(l:List Nat):∀u∈cA l,u.oneCell'=true:=by
 intro u a;simp only[cA,NA]at a;obtain⟨c,_,rfl⟩:=a;rfl
theorem sd:(Tryz.prog.info? 50).map (fun i=>(i.zero,i.size,i.bytes))=some (some (.int .u32 0),1,4):=by kernel_rfl
def OwnN(w:World)(base:Nat)(v:Value)(l:List Nat):Prop:=w.ownsRow base 50 1 v l.length (cA l)
theorem OwnN.nil(w:World)(base:Nat):OwnN w base (.slice none 0 0) []:=World.ownsRow_nil _ _ _ _
theorem OwnN.below{w w':World}{base:Nat}{v:Value}{l:List Nat}(h:OwnN w base v l)(a:Below w.heap.size w w'):OwnN w' base v l:=eA h a
theorem se(w:World)(base:Nat)(a:base<=w.heap.size):OwnN (w.alloc (.cells #[] 50)) base (.slice (some ⟨w.heap.size,0,none⟩) 0 0) []:=by
 have:=World.ownsRow_lit (base:=base) (e:=50) (size:=1) w #[] 0 a (by simp[maxLen]) (by simp);exact this
structure IsN (W:World) (A:Option Addr) (c:Nat) (l:List Nat):Prop where
 at_:At W W.heap.size A (cA l)
 nil:A=none->l.length=0/\c=0
 cap:l.length<=c
 max:c<=9223372036854775807
 ok:Digs l
theorem IsN.below{W W':World}{A:Option Addr}{c:Nat}{l:List Nat}(h:IsN W A c l)(a:Below W.heap.size W W'):IsN W' A c l:=⟨(h.at_.below a).more a.size,h.nil,h.cap,h.max,h.ok⟩
theorem OwnN.is{w:World}{base:Nat}{v:Value}{l:List Nat}(h:OwnN w base v l)(d:Digs l):∃A c,v=.slice A l.length c/\IsN w A c l:=by
 rcases h.2 with⟨rfl,a⟩|⟨g,b,cur,rfl,k,j,a,f,i,m⟩
 ·exact⟨none,0,by rw[a],by
   have:l=[]:=Mr a;subst this;exact At.nil _ _ _,fun _=>⟨a,Z⟩,by omega,by omega,d⟩
 exact⟨_,b,Z,C1 h,fun e=>(by cases e),a,by unfold maxLen at f;omega,d⟩
theorem IsN.digit{W:World}{A:Option Addr}{c i:Nat}{l:List Nat}(h:IsN W A c l)(g:i<l.length):
  ∃b off,A=some ⟨b,off,none⟩/\b<W.heap.size/\∀(j:Nat) (a:j<l.length),W.cell? ⟨b,off+j,none⟩=some (.int .u32 ((l[j]:Nat):Int)):=by
 obtain⟨b,off,e,f,d⟩:=h.at_ (by rw[dn];omega);exact⟨b,off,e,f,fun j a=>d j _ (by simp[cA,L3 a])⟩
theorem At.takeN{w:World}{B:Nat}{A:Option Addr}{l:List Nat}(h:At w B A (cA l))(m:Nat):At w B A (cA (l.take m)):=fun d=>by
 rw[dn,Mf]at d;obtain⟨b,off,e,f,c⟩:=h (by rw[dn];omega);refine⟨b,off,e,f,fun j u a=>c j u ?_⟩;simp only[cA,O1]at a⊢;rw[MU]at a;split at a
 ·exact a
 cases a
theorem sf{ops:Array Oper}{rest:List Oper}{o:Oper}{a:Act}{Q:Exit->Act->World->Prop}{w:World}(base:Nat)(v:Value)(l m:List Nat)(A:Option Addr)(c:Nat)
  (s x:Operand) (y:o.op=.call {callee:=.builtin .append,args:=#[s,x],argTypes:=#[63,63]}) (n:Region.wanted o (yielded ops a.tmps)=true)
  (q:a.eval s=v) (r:a.eval x=.slice A m.length c) (e:OwnN w base v l) (j:At w w.heap.size A (cA m)) (d:A=none->m.length=0/\c=0) (z:l.length+m.length<=1073741824) (b:base<=w.heap.size)
  (h:∀v' w',OwnN w' base v' (l++m)->Grew w w' base v v'->wpList Tryz.prog ops Q rest (a.put o.dst v') w'):wpList Tryz.prog ops Q (o::rest) a w:=by
 obtain⟨u,g,f,k,i⟩:=info_parts sd;refine Hj s x _ 50 u (.int .u32 0) 1 4 y n Tryz.underlying63 g f k i Z (by decide) base v l.length (cA l) q e A m.length c (cA m) r j (by rw[dn];omega) d (r9 _) (by simp only[maxLen];omega) (by omega) b ?_;intro v' w' p t;refine h v' w' ?_ t;unfold OwnN;rw[nH,Mb];exact p
theorem gm{ops:Array Oper}{rest:List Oper}{o:Oper}{a:Act}{Q:Exit->Act->World->Prop}{w:World}(base:Nat)(v:Value)(l:List Nat)(c:Int)(d:Nat)
  (s x:Operand) (p:o.guard=none) (y:o.op=.call {callee:=.builtin .append,args:=#[s,x],argTypes:=#[63,63]})
  (q:a.eval s=v) (r:a.eval x=.slice (some ⟨w.heap.size,0,none⟩) 1 1) (b:OwnN w base v l) (t:c=d) (z:l.length<=1073741823) (f:base<=w.heap.size)
  (h:∀v' w',OwnN w' base v' (l++[d])->Grew w w' base v v'->wpList Tryz.prog ops Q rest (a.put o.dst v') w'):
  wpList Tryz.prog ops Q (o::rest) a (w.alloc (.cells #[.int .u32 c] 50)):=by
 obtain⟨u,i,g,m,j⟩:=info_parts sd;refine wpList_append_own_at _ p s x _ y base 50 u (.int .u32 0) 1 4 Tryz.underlying63 i g m j Z (by decide) v l.length (cA l) q (World.ownsRow.alloc b _)
  ⟨w.heap.size,0,none⟩ 1 1 [.int .u32 c] r Z (cell_one_new _ _ _) (by simp[Value.oneCell']) (by simp only[maxLen];omega) (by omega) (by simp;omega) ?_
 intro v' w' e k _ n;refine h v' w' ?_ (xr b ⟨_,.inl Z⟩ k n f);subst t;unfold OwnN;rw[nH];simpa[cA]using e
def NatPost(n:Nat)(w:World)(e:Ending)(w':World):Prop:=∃v,e=.returned v/\OwnN w' w.heap.size v (ax n)/\Below w.heap.size w w'
theorem NatPost.open_{n:Nat}{w:World}{e:Ending}{w':World}(h:NatPost n w e w'):∃A c,e=.returned (.slice A (ax n).length c)/\IsN w' A c (ax n)/\Below w.heap.size w w':=by
 obtain⟨v,f,d,a⟩:=h;obtain⟨A,c,rfl,b⟩:=d.is (bZ n);exact⟨A,c,f,b,a⟩
theorem dN(A:Option Addr)(c:Nat)(l:List Nat)(w:World)(h:IsN w A c l)(X:l.length<=1073741823):
  Calls Tryz.prog 168 #[.slice A l.length c] w (NatPost (ay l) w):=by
 have C:=J h;have S:=h.cap;have O:=h.max;clear h
 go_enter Tryz.func168,Tryz.ntmps168
 go_wp2
 go_loop [3] (fun i=>∃k:Nat,k<=l.length/\i=.int .i64 k/\(∀(j:Nat) (G:j<l.length),k<=j->l[j]=0)) (fun i=>(intOf i).toNat)
 case atStart=>exact⟨l.length,L4 _,Z,fun j G h=>by omega⟩
 case round=>
  obtain⟨k,V,rfl,N⟩:=hrel;have M:=J N;clear N;have t:(k=0\/∃h:k-1<l.length,l[k-1]≠0)->l.take k=ax (ay l):=fun I=>ux l k V C.out.ok M.out I
  have L:=J t;clear t;by_cases Y:0<k
  ·obtain⟨b,off,rfl,hb,Q⟩:=C.out.digit (i:=k-1) (by omega);have H:=Q (k-1) (by omega);have K:=J (show∃h:k-1<l.length,l[k-1]=l[k-1]from⟨by omega,Z⟩);obtain⟨d,F⟩:∃d,l[k-1]'(by omega)=d:=⟨_,rfl⟩;rw[F]at H;have R:=J F;clear Q F K;by_cases u:d=0
   ·subst u
    go_wp2
    go_round
    case rel=>
     refine⟨k-1,by omega,by go_num,fun j G h=>?_⟩;by_cases e:j=k-1
     ·subst e;exact R.out
     exact M.out j G (by omega)
    case measure=>simp[intOf];omega
   have D:=J (L.out (.inr ⟨by omega,by rw[R.out];exact u⟩));have U:((d:Int)==0)=false:=by simpa using u
   have m:(ax (ay l)).length=k:=by rw[<-D.out,Mf];omega
   have q:=J (C.out.at_.takeN k);rw[D.out]at q;have n:=J m;clear m;obtain⟨W,v,p,_,y⟩:=ri w 50 #[];have z:=J (se w w.heap.size (L4 _));rw[v]at z;have E:=J v;have x:=J p;have o:=p.size;clear v p y
   go_wp2_with (at_builtin;rw[E.out];refine sf w.heap.size _ [] (ax (ay l)) (some ⟨b,off,none⟩) c (.tmp 18) (.tmp 21) rfl rfl rfl (by rw[n.out];rfl) z.out ((q.out.below x.out).more o) (fun h=>by cases h) (by have:=n.out;simp only[Mg];omega) o ?_;intro B P f g;have r:=J f;have s:=J g;clear f g)
   go_ret
   exact⟨B,Z,by simpa using r.out,x.out.trans s.out.below⟩
  obtain rfl:k=0:=by omega
  have D:=J (L.out (.inl Z));have m:(ax (ay l)).length=0:=by rw[<-D.out,Mf];omega
  have q:=J (C.out.at_.takeN 0);rw[D.out]at q;have n:=J m;clear m;obtain⟨W,v,p,_,y⟩:=ri w 50 #[];have z:=J (se w w.heap.size (L4 _));rw[v]at z;have E:=J v;have x:=J p;have o:=p.size;clear v p y;cases A with
  |none=>
   obtain⟨T,rfl⟩:=C.out.nil rfl
   go_wp2_with (at_builtin;rw[E.out];refine sf w.heap.size _ [] (ax (ay l)) none 0 (.tmp 18) (.tmp 21) rfl rfl rfl (by rw[n.out];rfl) z.out ((q.out.below x.out).more o) (fun _=>⟨n.out,rfl⟩) (by have:=n.out;simp only[Mg];omega) o ?_;intro B P f g;have r:=J f;have s:=J g;clear f g)
   go_ret
   exact⟨B,Z,by simpa using r.out,x.out.trans s.out.below⟩
  |some a=>
   go_wp2_with (at_builtin;rw[E.out];refine sf w.heap.size _ [] (ax (ay l)) (some a) c (.tmp 18) (.tmp 21) rfl rfl rfl (by rw[n.out];rfl) z.out ((q.out.below x.out).more o) (fun h=>by cases h) (by have:=n.out;simp only[Mg];omega) o ?_;intro B P f g;have r:=J f;have s:=J g;clear f g)
   go_ret
   exact⟨B,Z,by simpa using r.out,x.out.trans s.out.below⟩
def eo(a b:Int):Int:=if a<b then-1 else if b<a then 1 else 0
theorem gM{a b:Int}(h:a<b):eo a b= -1:=by simp[eo,h]
theorem m0{a b:Int}(h:b<a):eo a b=1:=by simp[eo,h,show¬a<b by omega]
theorem kk{a b:Int}(d:¬a<b)(c:¬b<a):eo a b=0:=by simp[eo,d,c]
def zC(a b c:Int):Int:=if a≠0 then a else if b≠0 then b else c
theorem JD(g:Nat)(h:Nat)(a b c:Int)(w:World)(q:w.cell? ⟨g,0,none⟩=some (.int .i64 a))(r:w.cell? ⟨g,1,none⟩=some (.int .i64 b))(p:w.cell? ⟨g,2,none⟩=some (.int .i64 c)):
  Calls Tryz.prog 185 #[.slice (some ⟨g,0,none⟩) 3 h] w fun e w'=>e=.returned (.int .i64 (zC a b c))/\w=w':=by
 by_cases d:a=0
 ·subst d;by_cases f:b=0
  ·subst f;by_cases i:c=0
   ·subst i
    go_enter Tryz.func185,Tryz.ntmps185
    go_wp2
    refine wp_loop_rounds 4 ?_;rw[rounds_succ]
    go_wp2
    rw[rounds_succ]
    go_wp2
    rw[rounds_succ]
    go_wp2
    rw[rounds_succ]
    go_wp2
    go_ret
    exact⟨Z,Z⟩
   have m:(c !=0)=true:=by simpa using i
   have o:(c==0)=false:=by simpa using i
   go_enter Tryz.func185,Tryz.ntmps185
   go_wp2
   refine wp_loop_rounds 4 ?_;rw[rounds_succ]
   go_wp2
   rw[rounds_succ]
   go_wp2
   rw[rounds_succ]
   go_wp2
   go_ret
   exact⟨Z,Z⟩
  have k:(b !=0)=true:=by simpa using f
  have l:(b==0)=false:=by simpa using f
  go_enter Tryz.func185,Tryz.ntmps185
  go_wp2
  refine wp_loop_rounds 4 ?_;rw[rounds_succ]
  go_wp2
  rw[rounds_succ]
  go_wp2
  go_ret
  exact⟨by simp[zC,f],Z⟩
 have j:(a !=0)=true:=by simpa using d
 have n:(a==0)=false:=by simpa using d
 go_enter Tryz.func185,Tryz.ntmps185
 go_wp2
 refine wp_loop_rounds 4 ?_;rw[rounds_succ]
 go_wp2
 go_ret
 exact⟨by simp[zC,d],Z⟩
theorem zY(a b:Int)(w:World):
  Calls Tryz.prog 186 #[.int .i64 a,.int .i64 b] w fun e w'=>e=.returned (.int .i64 (eo a b))/\w=w':=by
 by_cases d:a<b
 ·have E:=J (gM d)
  go_enter Tryz.func186,Tryz.ntmps186
  go_wp2
  go_ret
  exact⟨by rw[E.out];rfl,Z⟩
 by_cases c:b<a
 ·have E:=J (m0 c)
  go_enter Tryz.func186,Tryz.ntmps186
  go_wp2
  go_ret
  exact⟨by rw[E.out];rfl,Z⟩
 have E:=J (kk d c)
 go_enter Tryz.func186,Tryz.ntmps186
 go_wp2
 go_ret
 exact⟨by rw[E.out];rfl,Z⟩
theorem wt(a b:Int)(w:World):
  Calls Tryz.prog 187 #[.int .i64 a,.int .i64 b] w fun e w'=>e=.returned (.int .i64 (eo a b))/\w=w':=by
 by_cases d:a<b
 ·have E:=J (gM d)
  go_enter Tryz.func187,Tryz.ntmps187
  go_wp2
  go_ret
  exact⟨by rw[E.out];rfl,Z⟩
 by_cases c:b<a
 ·have E:=J (m0 c)
  go_enter Tryz.func187,Tryz.ntmps187
  go_wp2
  go_ret
  exact⟨by rw[E.out];rfl,Z⟩
 have E:=J (kk d c)
 go_enter Tryz.func187,Tryz.ntmps187
 go_wp2
 go_ret
 exact⟨by rw[E.out];rfl,Z⟩
theorem sg(n:Int)(w:World):
  Calls Tryz.prog 143 #[.int .i64 n] w fun e w'=>e=.returned (.agg #[.int .i64 1,.int .i64 n,.string ⟨#[]⟩])/\Below w.heap.size w w':=by
 go_enter Tryz.func143,Tryz.ntmps143
 go_wp2
 exact bodyPost_ret (v:=.agg #[.int .i64 1,.int .i64 n,.string ⟨#[]⟩]) (by simp[results,Tryz.results143,go_sem]) Z ⟨Z,(Below.refl _ _).alloc (L4 _) _⟩
theorem ky(s:ByteArray)(w:World):
  Calls Tryz.prog 141 #[.string s] w fun e w'=>e=.returned (.agg #[.int .i64 2,.int .i64 0,.string s])/\Below w.heap.size w w':=by
 go_enter Tryz.func141,Tryz.ntmps141
 go_wp2
 exact bodyPost_ret (v:=.agg #[.int .i64 2,.int .i64 0,.string s]) (by simp[results,Tryz.results141,go_sem]) Z ⟨Z,(Below.refl _ _).alloc (L4 _) _⟩
theorem lF{m n:Nat}(h:(ax m).length<(ax n).length):m<n:=by
 rcases MA m n with a|a
 ·exact a
 have:=a7 a;omega
theorem lG(a:List Nat)(k:Nat)(c:k<a.length):ay a=ay (a.take k)+4294967296^k*(a[k]+4294967296*ay (a.drop (k+1))):=by
 have h:a=a.take k++a[k]::a.drop (k+1):=by rw[<-Mc c,M4]
 have b:(a.take k).length=k:=by rw[Mf];omega
 conv=>lhs;rw[h]
 rw[eT,b,ay]
theorem wu(a b:List Nat)(k:Nat)(g:Digs a)(m:a.length=b.length)(i:k<a.length)(l:∀(j:Nat) (f:j<a.length) (c:j<b.length),k<j->a[j]=b[j])(o:a[k]<b[k]'(by omega)):ay a<ay b:=by
 have h:a.drop (k+1)=b.drop (k+1):=by
  apply OX
  ·simp[m]
  intro j f c;simp only[OR];exact l _ _ _ (by omega)
 rw[lG a k i,lG b k (by omega),h];have f:=b8 (a.take k) (fun d e=>g d (ME e));have c:(a.take k).length=k:=by rw[Mf];omega
 rw[c]at f;have n:=Nl (4294967296^k) (show a[k]+4294967296*ay (b.drop (k+1))+1<=b[k]'(by omega)+4294967296*ay (b.drop (k+1)) by omega);rw[MB]at n;omega
theorem xL(a b:List Nat)(e:a.length=b.length)(f:∀(j:Nat) (d:j<a.length) (c:j<b.length),a[j]=b[j]):a=b:=OX e fun j d c=>f j d c
theorem bh{B n:Nat}{w W:World}(h:Below B w W):Below B w (W.drewN n):=⟨h.os,h.tape,h.output,h.size,h.block⟩
def BX(x y:Nat)(w:World)(e:Ending)(w':World):Prop:=e=.returned (.int .i64 (eo x y))/\Below w.heap.size w w'
theorem km{x y:Nat}(h:x<y):eo (x:Int) (y:Int)= -1:=gM (by omega)
theorem jt{x y:Nat}(h:y<x):eo (x:Int) (y:Int)=1:=m0 (by omega)
theorem ju{x y:Nat}(h:x=y):eo (x:Int) (y:Int)=0:=kk (by omega) (by omega)
theorem rA(A B:Option Addr)(ca cb:Nat)(x y:List Nat)(w:World)(hA:IsN w A ca x)(hB:IsN w B cb y)(a5:x.length<=1073741823)(a2:y.length<=1073741823):
  Calls Tryz.prog 101 #[.slice A x.length ca,.slice B y.length cb] w (BX (ay x) (ay y) w):=by
 have HA:=J hA;have HB:=J hB;clear hA hB;have M:(ax (ay x)).length<=x.length:=a8 (b8 x HA.out.ok);have G:(ax (ay y)).length<=y.length:=a8 (b8 y HB.out.ok)
 go_enter Tryz.func101,Tryz.ntmps101
 go_wp2_with fail
 refine(dN A ca x _ HA.out a5).mono ?_;intro e w1 f;obtain⟨A1,c1,rfl,P,u⟩:=f.open_;have c:=J P;have O:=J u;have L:=u.size;clear f P u
 go_wp2_with fail
 refine(dN B cb y _ (HB.out.below O.out) a2).mono ?_;intro e w2 g;obtain⟨A2,c2,rfl,Q,l⟩:=g.open_;have t:=J Q;have c:=J (c.out.below l);have E:=J (aE O.out l L);have a3:w.heap.size<=w2.heap.size:=Ma L l.size;clear g Q l;generalize hX:ay x=X at c M⊢;generalize hY:ay y=Y at t G⊢;have n:=J hX;have m:=J hY;clear hX hY;obtain⟨a,V⟩:∃a,ax X=a:=⟨_,rfl⟩;obtain⟨b,hb⟩:∃b,ax Y=b:=⟨_,rfl⟩;have H:Hid (ay a=X):=by rw[<-V];exact aO X
 have R:Hid (ay b=Y):=by rw[<-hb];exact aO Y
 have S:=J (@lF X Y);have v:=J (@lF Y X);rw[V,hb]at S v;rw[V]at c M⊢;rw[hb]at t G⊢;clear V hb;by_cases I:a.length=b.length
 ·have d:=J I;have g1:((a.length:Int)==(b.length:Int))=true:=by rw[beq_iff_eq];omega
  have g2:((a.length:Int) !=(b.length:Int))=false:=by rw[bne_eq_false_iff_eq];omega
  clear I
  go_wp2
  go_loopw [7] (fun i wr=>∃k:Nat,k<=a.length/\i=.int .i64 ((k:Int)-1)/\(∀(j:Nat) (f:j<a.length) (g:j<b.length),k<=j->a[j]=b[j])/\Below w2.heap.size w2 wr) (fun i _=>(intOf i+1).toNat)
  case atStart=>exact⟨a.length,L4 _,Z,fun j f g h=>by omega,Below.refl _ _⟩
  case round=>
   obtain⟨k,hk,rfl,he,C⟩:=hrel;have s:=J he;have r:=J C;have W:=J (aE E.out C a3);clear he C;cases k with
   |zero=>
    have a1:=J (show X=Y by rw[<-H.out,<-R.out,xL a b d.out (fun j f g=>s.out j f g (by omega))])
    go_wp2
    go_ret
    exact⟨by rw[n.out,m.out,ju a1.out];rfl,W.out⟩
   |succ k=>
    rw[show((k+1:Nat):Int)-1=(k:Int) by omega];obtain⟨b1,o1,rfl,u,F⟩:=(c.out.below r.out).digit (i:=k) (by omega);obtain⟨b2,o2,rfl,l,U⟩:=(t.out.below r.out).digit (i:=k) (by have:=d.out;omega);have c1:=F k (by omega);have c2:=U k (by have:=d.out;omega);have D:k<b.length:=by have:=d.out;omega
    have T:k<a.length:=by omega
    have N:Hid (a[k]'T<b[k]'D->ay a<ay b):=(fun h=>wu a b k c.out.ok d.out (by omega) (fun j f g h'=>s.out j f g (by omega)) h);have K:Hid (b[k]'D<a[k]'T->ay b<ay a):=(fun h=>wu b a k t.out.ok d.out.symm D (fun j f g h'=>(s.out j g f (by omega)).symm) h);rw[H.out,R.out]at N K;obtain⟨p,hp⟩:∃p,a[k]'(by omega)=p:=⟨_,rfl⟩;obtain⟨q,hq⟩:∃q,b[k]=q:=⟨_,rfl⟩;have HP:=J hp;have HQ:=J hq;rw[hp]at c1;rw[hq]at c2;clear F U hp hq;have k0:(0:Int)<=(k:Int):=by omega
    have k1:(k:Int)<(a.length:Int):=by omega
    have k2:(k:Int)<(b.length:Int):=by omega
    rcases OQ p q with o|o|o
    ·have z:=J (N.out (by rw[HP.out,HQ.out];exact o));have t1:decide ((p:Int)<(q:Int))=true:=by simp;omega
     go_wp2
     go_quiet (fail)
     go_wp2
     go_ret
     exact⟨by rw[n.out,m.out,km z.out];rfl,bh W.out⟩
    ·subst o
     go_wp2
     go_quiet (fail)
     go_wp2
     go_quiet (fail)
     go_wp2
     go_roundw
     case rel=>
      refine⟨k,by omega,by go_num,fun j f g h=>?_,by first|exact bh (bh r.out)|exact bh r.out⟩;by_cases e:j=k
      ·subst e;rw[HP.out,HQ.out]
      exact s.out j f g (by omega)
     case measure=>simp[intOf]
    have z:=J (K.out (by rw[HP.out,HQ.out];exact o));have t1:decide ((p:Int)<(q:Int))=false:=by simp;omega
    have t2:decide ((q:Int)<(p:Int))=true:=by simp;omega
    go_wp2
    go_quiet (fail)
    go_wp2
    go_quiet (fail)
    go_wp2
    go_ret
    exact⟨by rw[n.out,m.out,jt z.out];rfl,by first|exact bh (bh W.out)|exact bh W.out⟩
 have g1:((a.length:Int)==(b.length:Int))=false:=by rw[beq_eq_false_iff_ne];omega
 have g2:((a.length:Int) !=(b.length:Int))=true:=by rw[bne_iff_ne];omega
 rcases MA a.length b.length with a4|a9
 ·have z:=J (S.out a4)
  go_wp2
  go_ret
  exact⟨by rw[n.out,m.out,km z.out];rfl,E.out⟩
 have a0:b.length<a.length:=by omega
 have z:=J (v.out a0)
 go_wp2
 go_ret
 exact⟨by rw[n.out,m.out,jt z.out];rfl,E.out⟩
end Go.Proofs.YtfoejfohbkmmeaaGreatDoor
