import Derived.Test.YtmhcanmapkenbaaGreatDoorA01
set_option linter.defProp false
open Go.Proofs.Tryz
namespace Go.Proofs.YtmhcanmapkenbaaGreatDoor
open Lib renaming hid→J
inductive Tri (α:Type) where
 |lf
 |one (a:α)
 |nd (l r:Tri α)
section
variable {α β γ:Type}
noncomputable def Tri.get (d:Nat):Tri α->Nat->Option α:=Nat.rec (λt _=>Tri.rec none some (λ_ _ _ _=>none) t) (λ_ ih t n=>Tri.rec none (λ_=>none) (λl r _ _=>Nat.rec (ih l (n/2)) (λ_ _=>ih r (n/2)) (n%2)) t) d
noncomputable def Tri.set (d:Nat):Tri α->Nat->Option α->Tri α:=Nat.rec (λ_ _ a=>Option.rec .lf .one a) (λ_ ih t n a=>Tri.rec (Nat.rec (.nd (ih .lf (n/2) a) .lf) (λ_ _=>.nd .lf (ih .lf (n/2) a)) (n%2)) (λ_=>Nat.rec (.nd (ih .lf (n/2) a) .lf) (λ_ _=>.nd .lf (ih .lf (n/2) a)) (n%2)) (λl r _ _=>Nat.rec (.nd (ih l (n/2) a) r) (λ_ _=>.nd l (ih r (n/2) a)) (n%2)) t) d
def wD(t:Tri α)(n:Nat):Tri.get 0 t n=match t with| .one a=>some a|_=>none:=by cases t<;>rfl
def eS(d:Nat)(t:Tri α)(n:Nat):Tri.get (d+1) t n=match t with| .nd l r=>if n%2=0 then Tri.get d l (n/2)else Tri.get d r (n/2)|_=>none:=by
 cases t with
 |nd l r=>
  show Nat.rec (motive:=λ_=>Option α) (Tri.get d l (n/2)) (λ_ _=>Tri.get d r (n/2)) (n%2)=_
  cases h:n%2 with
  |zero=>rfl
  |succ k=>rfl
 |_=>rfl
def wF(t:Tri α)(n:Nat)(a:Option α):Tri.set 0 t n a=match a with|some a=>.one a|none=>.lf:=by cases a<;>rfl
def wG(d:Nat)(t:Tri α)(n:Nat)(a:Option α):Tri.set (d+1) t n a=match t with
  | .nd l r=>if n%2=0 then .nd (Tri.set d l (n/2) a) r else .nd l (Tri.set d r (n/2) a)
  |_=>if n%2=0 then .nd (Tri.set d .lf (n/2) a) .lf else .nd .lf (Tri.set d .lf (n/2) a):=by
 cases t with
 |nd l r=>
  show Nat.rec (motive:=λ_=>Tri α) (.nd (Tri.set d l (n/2) a) r) (λ_ _=>.nd l (Tri.set d r (n/2) a)) (n%2)=_
  cases h:n%2 with
  |zero=>rfl
  |succ k=>rfl
 |lf=>
  show Nat.rec (motive:=λ_=>Tri α) (.nd (Tri.set d .lf (n/2) a) .lf) (λ_ _=>.nd .lf (Tri.set d .lf (n/2) a)) (n%2)=_
  cases h:n%2 with
  |zero=>rfl
  |succ k=>rfl
 |one b=>
  show Nat.rec (motive:=λ_=>Tri α) (.nd (Tri.set d .lf (n/2) a) .lf) (λ_ _=>.nd .lf (Tri.set d .lf (n/2) a)) (n%2)=_
  cases h:n%2 with
  |zero=>rfl
  |succ k=>rfl
def dz(d n:Nat):Tri.get d (.lf:Tri α) n=none:=by cases d<;>rfl
def di(a:Option α):∀(d:Nat) (t:Tri α) (n m:Nat),n<2^d->m<2^d->Tri.get d (Tri.set d t n a) m=if m=n then a else Tri.get d t m
 |0,t,n,m,hn,hm=>by
  have f:m=n:=by simp at hn hm;omega
  rw[if_pos f,wF,wD];cases a<;>rfl
 |d+1,t,n,m,hn,hm=>by
  have g:2^(d+1)=2*2^d:=by rw[Rw,RR]
  have e:=λ(s:Tri α)=>di a d s (n/2) (m/2) O O
  have c:m%2=n%2->(m/2=n/2↔m=n):=λh=>O
  rw[wG,eS (t:=t)];cases t with
  |nd l r=>
   simp only;split
   ·next h0=>
    rw[eS];simp only;split
    ·next f=>rw[e];simp only[c O]
    next f=>rw[if_neg O]
   next h0=>
   rw[eS];simp only;split
   ·next f=>rw[if_neg O]
   next f=>rw[e];simp only[c O]
  |lf=>
   simp only;split
   ·rw[eS];simp only;split
    ·rw[e,dz];simp only[c O]
    rw[dz,if_neg O]
   rw[eS];simp only;split
   ·rw[dz,if_neg O]
   rw[e,dz];simp only[c O]
  |one b=>
   simp only;split
   ·rw[eS];simp only;split
    ·rw[e,dz];simp only[c O]
    rw[dz,if_neg O]
   rw[eS];simp only;split
   ·rw[dz,if_neg O]
   rw[e,dz];simp only[c O]
noncomputable def dH (n:Nat) (k:Nat->α):α:=Nat.rec (k 0) (λp _=>k (p+1)) n
def b8(n:Nat)(k:Nat->α):dH n k=k n:=by cases n<;>rfl
noncomputable def cP (o:Option β) (k:β->Option γ):Option γ:=Option.rec none k o
def aS{o:Option β}{k:β->Option γ}{r:γ}(h:cP o k=some r):∃a,o=some a/\k a=some r:=by
 cases o with
 |none=>cases h
 |some a=>exact⟨a,Z,h⟩
def aW{b:Bool}{x:Option γ}{r:γ}(h:cond b x none=some r):b=true/\x=some r:=by
 cases b with
 |true=>exact⟨Z,h⟩
 |false=>cases h
noncomputable def iv (f:β->γ) (l:List β):List γ:=List.rec [] (λa _ ih=>f a::ih) l
def qL(f:β->γ):∀l,iv f l=l.map f
 |[]=>rfl
 |a::l=>congrArg (f a:: ·) (qL f l)
noncomputable def jT (l:List β):Nat->Option β:=List.rec (λ_=>none) (λa _ ih n=>Nat.rec (some a) (λm _=>ih m) n) l
def ia:∀(l:List β) (n:Nat),jT l n=l[n]?
 |[],_=>rfl
 |_::_,0=>rfl
 |_::l,n+1=>by rw[Tt];exact ia l n
noncomputable def fF (l:List β):(List β->γ)->γ:=List.rec (λk=>k []) (λa _ ih k=>ih λl=>k (a::l)) l
def dd:∀(l:List β) (k:List β->γ),fF l k=k l
 |[],_=>rfl
 |a::l,k=>dd l λl=>k (a::l)
noncomputable def NK (l:List β):Nat->Nat:=List.rec (λn=>n) (λ_ _ ih n=>ih (n+1)) l
def CT:∀(l:List β) (n:Nat),NK l n=l.length+n
 |[],n=>(QT n).symm
 |_::l,n=>by
  show NK l (n+1)=_
  rw[CT l,Qn];omega
noncomputable def gF (l:List β):Nat:=NK l 0
@[simp] theorem c8 (l:List β):gF l=l.length:=CT l 0
noncomputable def lM (n:Nat):List β->List β:=Nat.rec (λl=>l) (λ_ ih l=>List.rec [] (λ_ l _=>ih l) l) n
@[simp] theorem fl:∀(n:Nat) (l:List β),lM n l=l.drop n
 |0,_=>rfl
 |n+1,[]=>rfl
 |n+1,_::l=>fl n l
noncomputable def ld (n:Nat):List β->List β:=Nat.rec (λ_=>[]) (λ_ ih l=>List.rec [] (λa l _=>a::ih l) l) n
@[simp] theorem fp:∀(n:Nat) (l:List β),ld n l=l.take n
 |0,_=>rfl
 |n+1,[]=>rfl
 |n+1,a::l=>congrArg (a:: ·) (fp n l)
noncomputable def o0 (l m:List β):List β:=List.rec m (λa _ ih=>a::ih) l
@[simp] theorem jH:∀(l m:List β),o0 l m=l++m
 |[],_=>rfl
 |a::l,m=>congrArg (a:: ·) (jH l m)
noncomputable def pG (f:β->Bool) (l:List β):Bool:=List.rec true (λa _ ih=>cond (f a) ih false) l
@[simp] theorem iK (f:β->Bool):∀l,pG f l=l.all f
 |[]=>rfl
 |a::l=>by
  show cond (f a) (pG f l) false=_
  rw[iK f l,Rc];cases f a<;>rfl
end
structure ARow where
 cs:List Value
 fam:Nat
 fro:Bool
 ty:Nat:=0
structure AH where
 t:Tri ARow
 nx:Nat
 fm:Tri (List Nat)
 nm:Nat
 mp:Tri (List (Value×Value))
abbrev fc:Nat:=14
noncomputable def AH.get (A:AH) (n:Nat):Option ARow:=cond (Nat.blt n 16384) (A.t.get fc n) none
noncomputable def AH.fget (A:AH) (n:Nat):Option (List Nat):=cond (Nat.blt n 16384) (A.fm.get fc n) none
noncomputable def AH.mget (A:AH) (n:Nat):Option (List (Value×Value)):=cond (Nat.blt n 16384) (A.mp.get fc n) none
def FzB(n:Nat)(fz:Nat×Nat):Prop:=fz.2=0\/n<=fz.1
def FzB.free{w:World}{g:Nat}{cur:Array Value}{e:TypeId}{fz:Nat×Nat}{i:Nat}(h:FzB cur.size fz)(a:w.heap[g]? =some (.cells cur e fz))(c:i<cur.size):w.frozen? ⟨g,i,none⟩=false:=by
 obtain⟨d,b⟩:=fz;simp only[World.frozen?,a,RV,decide_eq_false_iff_not];rcases h with h|h
 ·right;simp only at h;omega
 left;simp only at h;omega
def nH(P:Program)(g o:Nat)(t:TypeId)(fz:Nat×Nat):∀(vs:List Value) (i:Nat) (cur:Array Value) (w:World),w.heap[g]? =some (.cells cur t fz)->FzB cur.size fz->o+i+vs.length<=cur.size->(∀v∈vs,v.oneCell'=true)->
  (storeCells ⟨g,o,none⟩ vs i).run P w=.ok () (w.setRow g (cur.toList.take (o+i)++vs++cur.toList.drop (o+i+vs.length)).toArray)
 |[],i,cur,w,hg,_,_,_=>by
  simp only[storeCells,Rn,QC,RQ,R3,Array.toArray_toList];rw[setRow_self w g cur t fz hg];rfl
 |v::rest,i,cur,w,hg,hfz,hl,h1=>by
  have f:o+i<cur.size:=by simp at hl;omega
  have b:(⟨g,o,none⟩:Addr).add i=⟨g,o+i,none⟩:=by unfold Addr.add;split<;>simp_all
  have a:w.cell? ⟨g,o+i,none⟩=some cur[o+i]:=by simp[World.cell?,hg,f]
  have c:=hfz.free hg f;have d:(store ((⟨g,o,none⟩:Addr).add i) v).run P w=.ok () (w.setRow g (cur.setIfInBounds (o+i) v)):=by
   rw[b,run_store P w _ v _ (h1 v F),a];simp[c,setCell_eq_setRow w g (o+i) cur t fz v hg]
  have j:=nH P g o t fz rest (i+1) (cur.setIfInBounds (o+i) v) (w.setRow g (cur.setIfInBounds (o+i) v)) (setRow_heap w g cur _ t _ hg) (by simpa using hfz) (by simp at hl⊢;omega) (λx h=>h1 x (by simp[h]));simp only[storeCells,Sem.run_bind,d,Result.andThen_ok,j,setRow_setRow];congr 3;have e:=list_seg_step cur.toList (o+i) v rest (by simp at hl⊢;omega);simpa[Rk,RP]using e
structure EE where
 lo:Nat->Option (Nat×Nat)
 bl:Nat->Option Nat
 ml:Nat->Option Nat
 tb:Nat->Option TypeId
def s0:Value->Bool
 | .bool _| .int .. | .float .. | .complex .. | .string _| .pointer none| .slice none 0 0| .map none| .chan none| .nilFunc| .nilIface=>true
 | .func _ a b=>Nat.beq a.toList.length 0&&Nat.beq b.toList.length 0
 |_=>false
def yQ:Value->Bool
 | .agg _| .tuple _| .chan (some _)=>false
 |_=>true
inductive VL (P:Program) (E:EE):List Value->List Value->Prop
 |nil:VL P E [] []
 |sc {us ts:List Value} (v:Value) (h:s0 v=true) (hs:VL P E us ts):VL P E (v::us) (v::ts)
 |any {us ts:List Value} (u:Value) (hs:VL P E us ts):VL P E (u::us) (.chan (some 0)::ts)
 |ptr {us ts:List Value} (n c b o:Nat) (h:E.lo n=some (b,o)) (hs:VL P E us ts):VL P E (.pointer (some ⟨b,o+c,none⟩)::us) (.pointer (some ⟨n,c,none⟩)::ts)
 |slc {us ts:List Value} (n c e len cap b o q:Nat) (h:E.lo n=some (b,o)) (hl:len<=cap) (hm:cap<=9223372036854775807) (hr:0<cap->q=o+c/\∃s i,E.bl b=some s/\P.info? e=some i/\o+c+cap*i.size<=s) (hs:VL P E us ts):VL P E (.slice (some ⟨b,q,none⟩) len cap::us) (.slice (some ⟨n,c,none⟩) len e::ts)
 |agg {us ts:List Value} (xs cs:List Value) (hx:VL P E xs cs) (hs:VL P E us ts):VL P E (.agg xs.toArray::us) (.agg cs.toArray::ts)
 |tup {us ts:List Value} (xs cs:List Value) (hx:VL P E xs cs) (hs:VL P E us ts):VL P E (.tuple xs.toArray::us) (.tuple cs.toArray::ts)
 |fn {us ts:List Value} (f:Fn) (xs cs xs' cs':List Value) (hx:VL P E xs cs) (hx':VL P E xs' cs') (hs:VL P E us ts):VL P E (.func f xs.toArray xs'.toArray::us) (.func f cs.toArray cs'.toArray::ts)
 |ifc {us ts:List Value} (t:TypeId) (u v:Value) (hx:VL P E [u] [v]) (hs:VL P E us ts):VL P E (.iface t u::us) (.iface t v::ts)
 |tpt {us ts:List Value} (n b t:Nat) (h:E.lo n=some (b,0)) (ht:E.tb b=some t) (hb:∃i,P.info? t=some i/\E.bl b=some i.size) (hs:VL P E us ts):VL P E (.pointer (some ⟨b,0,none⟩)::us) (.pointer (some ⟨n,0,some t⟩)::ts)
 |mp {us ts:List Value} (n b:Nat) (h:E.ml n=some b) (hs:VL P E us ts):VL P E (.map (some b)::us) (.map (some n)::ts)
structure EE.Le (E E':EE):Prop where
 lo:∀n x,E.lo n=some x->E'.lo n=some x
 bl:∀b s,E.bl b=some s->E'.bl b=some s
 ml:∀n b,E.ml n=some b->E'.ml n=some b
 tb:∀b t,E.tb b=some t->E'.tb b=some t
def EE.Le.refl(E:EE):E.Le E:=⟨λ_ _ h=>h,λ_ _ h=>h,λ_ _ h=>h,λ_ _ h=>h⟩
def EE.Le.trans{E E' a:EE}(h:E.Le E')(d:E'.Le a):E.Le a:=⟨λn x e=>d.lo n x (h.lo n x e),λb s c=>d.bl b s (h.bl b s c),λb s c=>d.ml b s (h.ml b s c),λb s c=>d.tb b s (h.tb b s c)⟩
section
variable {P:Program} {E E':EE} {us ts:List Value}
def VL.mono(h:VL P E us ts)(a:E.Le E'):VL P E' us ts:=by
 induction h with
 |nil=>exact .nil
 |sc v h _ ih=>exact .sc v h ih
 |any u _ ih=>exact .any u ih
 |ptr n c b o h _ ih=>exact .ptr n c b o (a.lo _ _ h) ih
 |slc n c e len cap b o q h hl hm hr _ ih=>exact .slc n c e len cap b o q (a.lo _ _ h) hl hm (λd=>⟨(hr d).1,(hr d).2.imp λ_ h=>h.imp λ_ h=>⟨a.bl _ _ h.1,h.2⟩⟩) ih
 |agg xs cs _ _ ih1 ih2=>exact .agg xs cs ih1 ih2
 |tup xs cs _ _ ih1 ih2=>exact .tup xs cs ih1 ih2
 |fn f xs cs xs' cs' _ _ _ ih1 ih2 ih3=>exact .fn f xs cs xs' cs' ih1 ih2 ih3
 |ifc t u v _ _ ih1 ih2=>exact .ifc t u v ih1 ih2
 |tpt n b t h ht hb _ ih=>exact .tpt n b t (a.lo _ _ h) (a.tb _ _ ht) (hb.imp λ_ h=>⟨h.1,a.bl _ _ h.2⟩) ih
 |mp n b h _ ih=>exact .mp n b (a.ml _ _ h) ih
def VL.length(h:VL P E us ts):us.length=ts.length:=by induction h<;>simp_all
def VL.head{u t:Value}(h:VL P E (u::us) (t::ts)):VL P E [u] [t]:=by
 cases h with
 |sc v h _=>exact .sc _ h .nil
 |any u _=>exact .any _ .nil
 |ptr n c b o h _=>exact .ptr n c b o h .nil
 |slc n c e len cap b o q h hl hm hr _=>exact .slc n c e len cap b o q h hl hm hr .nil
 |agg xs cs hx _=>exact .agg xs cs hx .nil
 |tup xs cs hx _=>exact .tup xs cs hx .nil
 |fn f xs cs xs' cs' hx hx' _=>exact .fn f xs cs xs' cs' hx hx' .nil
 |ifc t u v hx _=>exact .ifc t u v hx .nil
 |tpt n b t h ht hb _=>exact .tpt n b t h ht hb .nil
 |mp n b h _=>exact .mp n b h .nil
def VL.tail{u t:Value}(h:VL P E (u::us) (t::ts)):VL P E us ts:=by cases h<;>assumption
def VL.cons{u t:Value}(h:VL P E [u] [t])(a:VL P E us ts):VL P E (u::us) (t::ts):=by
 cases h with
 |sc v h _=>exact .sc _ h a
 |any u _=>exact .any _ a
 |ptr n c b o h _=>exact .ptr n c b o h a
 |slc n c e len cap b o q h hl hm hr _=>exact .slc n c e len cap b o q h hl hm hr a
 |agg xs cs hx _=>exact .agg xs cs hx a
 |tup xs cs hx _=>exact .tup xs cs hx a
 |fn f xs cs xs' cs' hx hx' _=>exact .fn f xs cs xs' cs' hx hx' a
 |ifc t u v hx _=>exact .ifc t u v hx a
 |tpt n b t h ht hb _=>exact .tpt n b t h ht hb a
 |mp n b h _=>exact .mp n b h a
end
section
variable {P:Program} {E:EE}
def VL.append:∀{us vs ts a:List Value},VL P E us ts->VL P E vs a->VL P E (us++vs) (ts++a)
 |[],_,[],_,_,h'=>h'
 |[],_,t::ts,_,h,_=>by cases h
 |u::us,_,[],_,h,_=>by cases h
 |u::us,_,t::ts,_,h,h'=>h.head.cons (VL.append h.tail h')
def VL.get:∀{us ts:List Value},VL P E us ts->∀(i:Nat) (t:Value),ts[i]? =some t->∃u,us[i]? =some u/\VL P E [u] [t]
 |[],[],_,i,t,h=>by simp at h
 |[],_::_,h,_,_,_=>by cases h
 |_::_,[],h,_,_,_=>by cases h
 |u::us,t::ts,h,0,s,e=>by
  simp only[QV,Qy]at e;subst e;exact⟨u,Z,h.head⟩
 |u::us,t::ts,h,i+1,s,e=>by
  obtain⟨v,a,b⟩:=h.tail.get i s (by simpa using e);exact⟨v,by simpa using a,b⟩
def fy:∀{us ts:List Value},us.length=ts.length->(∀(i:Nat) (u t:Value),us[i]? =some u->ts[i]? =some t->VL P E [u] [t])->VL P E us ts
 |[],[],_,_=>.nil
 |u::us,t::ts,hl,h=>(h 0 u t Z Z).cons (fy (by simpa using hl) λi u t b a=>h (i+1) u t (by simpa using b) (by simpa using a))
def VL.take{us ts:List Value}(h:VL P E us ts)(k:Nat):VL P E (us.take k) (ts.take k):=by
 refine fy (by simp[h.length]) λi u t a c=>?_
 rw[QQ]at a c;split at a
 ·obtain⟨e,b,d⟩:=h.get i t (by simpa[*]using c);rw[a]at b;cases b;exact d
 cases a
def VL.drop{us ts:List Value}(h:VL P E us ts)(k:Nat):VL P E (us.drop k) (ts.drop k):=by
 refine fy (by simp[h.length]) λi u t c b=>?_
 rw[Q9]at c b;obtain⟨e,a,d⟩:=h.get _ t b;rw[c]at a;cases a;exact d
def VL.one1{u t:Value}(h:VL P E [u] [t])(a:yQ t=true):u.oneCell'=true:=by
 cases h with
 |sc _ h _=>cases u<;>first|rfl|cases h
 |agg=>simp[yQ]at a
 |tup=>simp[yQ]at a
 |any=>simp[yQ]at a
 |_=>rfl
def VL.ones:∀{us ts:List Value},VL P E us ts->ts.all yQ=true->∀u∈us,u.oneCell'=true
 |[],[],_,_,u,a=>by simp at a
 |[],_::_,h,_,_,_=>by cases h
 |_::_,[],h,_,_,_=>by cases h
 |x::us,t::ts,h,hp,u,a=>by
  simp only[Rc,Qh]at hp;rcases Qw.1 a with rfl|a
  ·exact h.head.one1 hp.1
  exact VL.ones h.tail hp.2 u a
def VL.cells{u t:Value}(h:VL P E [u] [t])(a:(match t with| .chan (some _)=>false|_=>true)=true):VL P E u.cells.toList t.cells.toList:=by
 cases h with
 |any=>cases a
 |agg xs cs hx _=>simpa[Value.cells]using hx
 |sc v' h _=>
  have:∀w:Value,s0 w=true->w.cells.toList=[w]:=λw d=>by cases w<;>first|rfl|cases d
  rw[this _ h];exact .sc _ h .nil
 |ptr n c b o h _=>exact .ptr n c b o h .nil
 |slc n c e len cap b o q h hl hm hr _=>exact .slc n c e len cap b o q h hl hm hr .nil
 |tup xs cs hx _=>exact .tup xs cs hx .nil
 |fn f xs cs xs' cs' hx hx' _=>exact .fn f xs cs xs' cs' hx hx' .nil
 |ifc t u v hx _=>exact .ifc t u v hx .nil
 |tpt n b t h ht hb _=>exact .tpt n b t h ht hb .nil
 |mp n b h _=>exact .mp n b h .nil
end
def NL(E:EE)(A:AH)(b:Nat):Prop:=∃n r o,A.get n=some r/\r.fro=false/\E.lo n=some (b,o)
structure RelA (P:Program) (E:EE) (A:AH) (base:Nat) (w:World):Prop where
 row:∀n r,A.get n=some r->∃b o,E.lo n=some (b,o)/\b<w.heap.size/\((r.fro=true/\b<base)\/∃s,E.bl b=some s/\o+r.cs.length<=s)/\∀i v,r.cs[i]? =some v->∃u,w.cell? ⟨b,o+i,none⟩=some u/\VL P E [u] [v]
 blk:∀b s,E.bl b=some s->base<=b/\∃c e fz,w.heap[b]? =some (.cells c e fz)/\c.size=s/\(NL E A b->FzB s fz)
 sep:∀n m r q b o o',A.get n=some r->A.get m=some q->E.lo n=some (b,o)->E.lo m=some (b,o')->n=m\/r.fam=q.fam
 fam:∀n r,A.get n=some r->n<A.nx/\r.fam<A.nx/\∃l,A.fget r.fam=some l/\n∈l
 top:∀f n l,A.fget f=some (n::l)->∀r m q b o o',A.get n=some r->A.get m=some q->q.fam=f->E.lo n=some (b,o)->E.lo m=some (b,o')->o'+q.cs.length<=o+r.cs.length
 mem:∀f l,A.fget f=some l->f<A.nx/\∀m∈l,m<A.nx/\∀r,A.get m=some r->r.fam=f
 new:∀n,A.nx<=n->E.lo n=none
 nxb:A.nx<=16384
 map:∀n cs,A.mget n=some cs->∃b es cl,E.ml n=some b/\w.heap[b]? =some (.map es cl)/\base<=b/\VL P E (es.toList.map (·.key)) (cs.map (·.1))/\VL P E (es.toList.map (·.val)) (cs.map (·.2))
 minj:∀n m b,E.ml n=some b->E.ml m=some b->n=m
 mnew:∀n,A.nm<=n->E.ml n=none
 mlt:∀n b,E.ml n=some b->b<w.heap.size
 base:base<=w.heap.size
 typ:∀b t,E.tb b=some t->∃c fz,w.heap[b]? =some (.cells c t fz)
 rty:∀n r t,A.get n=some r->r.ty=t+1->∃b o,E.lo n=some (b,o)/\E.tb b=some t
structure Fr (E E':EE) (w w':World):Prop where
 le:E.Le E'
 os:w'.os=w.os
 tape:w'.tape=w.tape
 output:w'.output=w.output
 size:w.heap.size<=w'.heap.size
 block:∀b,b<w.heap.size->E.bl b=none->(∀n,E.ml n≠some b)->w'.heap[b]? =w.heap[b]?
 old:∀b,b<w.heap.size->E'.bl b=E.bl b
 mold:∀n b,E'.ml n=some b->E.ml n=some b\/w.heap.size<=b
def Fr.refl(E:EE)(w:World):Fr E E w w:=⟨.refl E,Z,Z,Z,Qi _,λ_ _ _ _=>rfl,λ_ _=>rfl,λ_ _ h=>.inl h⟩
def Fr.trans{E E' f:EE}{w w' g:World}(h:Fr E E' w w')(a:Fr E' f w' g):Fr E f w g:=
 ⟨h.le.trans a.le,a.os.trans h.os,a.tape.trans h.tape,a.output.trans h.output,Qu h.size a.size,λb d j i=>(a.block b (QE d h.size) ((h.old b d).trans j) λn e=>by
  rcases h.mold n b e with c|c
  ·exact i n c
  ·omega).trans (h.block b d j i),λb d=>(a.old b (QE d h.size)).trans (h.old b d),λn b e=>by
  rcases a.mold n b e with c|c
  ·exact h.mold n b c
  exact .inr (Qu h.size c)⟩
noncomputable def AH.put (A:AH) (n:Nat) (x:Option ARow):AH:=⟨A.t.set fc n x,A.nx,A.fm,A.nm,A.mp⟩
noncomputable def AH.fput (A:AH) (f:Nat) (l:List Nat):AH:=⟨A.t,A.nx,A.fm.set fc f (some l),A.nm,A.mp⟩
noncomputable def s5 (n:Nat) (l:List Nat):Tri ARow->Tri ARow:=List.rec (λt=>t) (λm _ ih t=>ih (cond (Nat.beq m n) t (t.set fc m none))) l
noncomputable def AH.kill (A:AH) (n f:Nat):AH:=Option.rec A (λl=>List.rec A (λ_ l' _=>List.rec A (λ_ _ _=>⟨s5 n l A.t,A.nx,A.fm.set fc f (some [n]),A.nm,A.mp⟩) l') l) (A.fget f)
def cU{a b:Nat}(h:Nat.blt a b=true):a<b:=by simpa[Q7]using h
def jU{a b:Nat}(h:a<b):Nat.blt a b=true:=by simpa[Q7]using h
def my{A:AH}{n:Nat}{r:ARow}(h:A.get n=some r):n<16384:=cU (aW h).1
def s6{A:AH}{n:Nat}{l:List Nat}(h:A.fget n=some l):n<16384:=cU (aW h).1
def iR{A:AH}{n:Nat}(h:n<16384):A.get n=A.t.get fc n:=by unfold AH.get;rw[jU h];rfl
def mz{A:AH}{n:Nat}(h:¬n<16384):A.get n=none:=by
 unfold AH.get;have:Nat.blt n 16384=false:=by cases a:Nat.blt n 16384 with|false=>rfl|true=>exact absurd (cU a) h
 rw[this];rfl
def gW{A:AH}{n:Nat}(h:n<16384):A.fget n=A.fm.get fc n:=by unfold AH.fget;rw[jU h];rfl
def s7{A:AH}{n:Nat}(h:¬n<16384):A.fget n=none:=by
 unfold AH.fget;have:Nat.blt n 16384=false:=by cases a:Nat.blt n 16384 with|false=>rfl|true=>exact absurd (cU a) h
 rw[this];rfl
def kW{A:AH}{n:Nat}{x:Option ARow}(b:n<16384)(m:Nat):(A.put n x).get m=if m=n then x else A.get m:=by
 by_cases a:m<16384
 ·rw[iR a,iR a];exact di x fc A.t n m b a
 rw[mz a,mz a,if_neg O]
def o4{A:AH}{f:Nat}{l:List Nat}(b:f<16384)(m:Nat):(A.fput f l).fget m=if m=f then some l else A.fget m:=by
 by_cases a:m<16384
 ·rw[gW a,gW a];exact di (some l) fc A.fm f m b a
 rw[s7 a,s7 a,if_neg O]
def uQ(n:Nat):∀(l:List Nat) (t:Tri ARow) (m:Nat),(∀k∈l,k<16384)->m<16384->(s5 n l t).get fc m=if m∈l/\m≠n then none else t.get fc m
 |[],t,m,_,_=>by simp[s5]
 |k::l,t,m,hl,hm=>by
  have f:=λt=>uQ n l t m (λk d=>hl k (QA _ d)) hm
  show(s5 n l (cond (Nat.beq k n) t (t.set fc k none))).get fc m=_
  rw[f];cases c:Nat.beq k n with
  |true=>
   have:=Ql c;subst this;by_cases a:m=k
   ·subst a;simp
   simp[a]
  |false=>
   have b:k≠n:=λe=>by subst e;simp at c
   show(if m∈l/\m≠n then none else(t.set fc k none).get fc m)=_
   rw[di none fc t k m (hl k (Qs ..)) hm];by_cases a:m=k
   ·subst a;simp[b]
   simp[a]
section
variable {P:Program} {E E':EE} {A:AH} {base:Nat} {w:World}
def RelA.sub{d:AH}(h:RelA P E A base w)(v:d.nx=A.nx)(y:d.nm=A.nm/\d.mp=A.mp)(i:∀n r,d.get n=some r->A.get n=some r)(F:∀n r,d.get n=some r->∃l,d.fget r.fam=some l/\n∈l)
  (k:∀f l,d.fget f=some l->f<A.nx/\∀m∈l,m<A.nx/\∀r,A.get m=some r->r.fam=f) (G:∀f n l,d.fget f=some (n::l)->A.fget f=some (n::l)\/∀m q,d.get m=some q->q.fam=f->m=n\/∀r,d.get n≠some r):RelA P E d base w where
 row n r j:=h.row n r (i n r j)
 blk b s hb:=by
  obtain⟨g,c,e,fz,a,p,u⟩:=h.blk b s hb;exact⟨g,c,e,fz,a,p,λ⟨n,r,o,z,B,C⟩=>u ⟨n,r,o,i _ _ z,B,C⟩⟩
 sep n m r q b o o' g a:=h.sep n m r q b o o' (i _ _ g) (i _ _ a)
 fam n r j:=by
  obtain⟨g,a,_⟩:=h.fam n r (i n r j);rw[v];exact⟨g,a,F n r j⟩
 top f n l hl r m q b o o' g a p u h5:=by
  rcases G f n l hl with x|x
  ·exact h.top f n l x r m q b o o' (i _ _ g) (i _ _ a) p u h5
  rcases x m q a p with rfl|D
  ·rw[g]at a;cases a;rw[u]at h5;cases h5;exact Qi _
  exact absurd g (D r)
 mem f l hl:=by
  obtain⟨g,a⟩:=k f l hl;rw[v];exact⟨g,λm k=>⟨(a m k).1,λr j=>(a m k).2 r (i _ _ j)⟩⟩
 new n hn:=h.new n (by rw[<-v];exact hn)
 nxb:=by rw[v];exact h.nxb
 map n cs k:=h.map n cs (by unfold AH.mget at k⊢;rw[<-y.2];exact k)
 minj:=h.minj
 mnew n hn:=h.mnew n (by rw[<-y.1];exact hn)
 mlt:=h.mlt
 base:=h.base
 typ:=h.typ
 rty n r t j:=h.rty n r t (i n r j)
def kd(h:RelA P E A base w){n:Nat}{r:ARow}(o:A.get n=some r)(m:Nat):(A.kill n r.fam).get m=match A.get m with|some q=>if q.fam=r.fam/\m≠n then none else some q|none=>none:=by
 obtain⟨v,u,l,hl,b⟩:=h.fam n r o;obtain⟨_,d⟩:=h.mem _ _ hl;have s:=h.nxb;unfold AH.kill;rw[hl]
 match l,hl,b,d with
 |[k],hl,b,_=>
  show A.get m=_
  cases i:A.get m with
  |none=>rfl
  |some q=>
   simp only;split
   ·next f=>
    obtain⟨_,_,p,a,c⟩:=h.fam m q i;rw[f.1,hl]at a;cases a;simp only[QP]at b c;exact absurd (c.trans b.symm) f.2
   rfl
 |k::k'::l,hl,b,d=>
  show AH.get ⟨s5 n (k::k'::l) A.t,A.nx,A.fm.set fc r.fam (some [n]),A.nm,A.mp⟩ m=_
  by_cases g:m<16384
  ·rw[iR g];show(s5 n (k::k'::l) A.t).get fc m=_
   rw[uQ n _ A.t m (λk j=>by have:=(d k j).1;omega) g,<-iR (A:=A) g];cases i:A.get m with
   |none=>simp
   |some q=>
    simp only;obtain⟨_,_,p,a,c⟩:=h.fam m q i;by_cases f:q.fam=r.fam
    ·rw[f,hl]at a;cases a;simp only[c,f,true_and]
    by_cases e:m∈k::k'::l/\m≠n
    ·exact absurd ((d m e.1).2 q i) f
    rw[if_neg e,if_neg (λh=>f h.1)]
  rw[mz g,mz g]
def ke(h:RelA P E A base w){n:Nat}{r:ARow}(b:A.get n=some r)(g:Nat):(A.kill n r.fam).fget g=if g=r.fam then some [n]else A.fget g:=by
 obtain⟨f,d,l,hl,a⟩:=h.fam n r b;have c:=h.nxb;unfold AH.kill;rw[hl]
 match l,hl,a with
 |[k],hl,a=>
  show A.fget g=_
  split
  ·next e=>
   subst e;rw[hl];simp only[QP]at a;rw[a]
  rfl
 |k::k'::l,hl,a=>
  exact o4 (A:=⟨s5 n (k::k'::l) A.t,A.nx,A.fm,A.nm,A.mp⟩) (l:=[n]) O g
def wH(A:AH)(n f:Nat):(A.kill n f).nx=A.nx:=by
 unfold AH.kill;cases A.fget f with
 |none=>rfl
 |some l=>
  match l with
  |[]=>rfl
  |[_]=>rfl
  |_::_::_=>rfl
def Kz(A:AH)(n f:Nat):(A.kill n f).nm=A.nm/\(A.kill n f).mp=A.mp:=by
 unfold AH.kill;cases A.fget f with
 |none=>exact⟨Z,Z⟩
 |some l=>
  match l with
  |[]=>exact⟨Z,Z⟩
  |[_]=>exact⟨Z,Z⟩
  |_::_::_=>exact⟨Z,Z⟩
def RelA.kill(h:RelA P E A base w){n:Nat}{r:ARow}(b:A.get n=some r):RelA P E (A.kill n r.fam) base w:=by
 have p:=kd h b;have i:∀m q,(A.kill n r.fam).get m=some q->A.get m=some q/\(q.fam=r.fam->m=n):=λm q a=>by
  rw[p m]at a;cases c:A.get m with
  |none=>rw[c]at a;cases a
  |some q'=>
   rw[c]at a;simp only at a;split at a
   ·cases a
   next hc=>
   cases a;exact⟨Z,λe=>Classical.byContradiction λj=>hc ⟨e,j⟩⟩
 refine h.sub (wH _ _ _) (Kz _ _ _) (λm q a=>(i m q a).1) (λm q a=>?_) (λf l hl=>?_) (λf m l hl=>?_)
 ·obtain⟨d,g⟩:=i m q a;rw[ke h b];split
  ·next e=>exact⟨[n],Z,by rw[g e];exact QP.2 Z⟩
  exact(h.fam m q d).2.2
 ·rw[ke h b]at hl;split at hl
  ·next e=>
   cases hl;obtain⟨d,g,_⟩:=h.fam n r b;exact⟨by rw[e];exact g,λm s=>by rw[QP.1 s];exact⟨d,λq a=>by rw[b]at a;cases a;exact e.symm⟩⟩
  exact h.mem f l hl
 rw[ke h b]at hl;split at hl
 ·next e=>
  cases hl;subst e;exact .inr λk q a o=>.inl ((i k q a).2 o)
 exact .inl hl
def uR(h:RelA P E A base w){n:Nat}{r:ARow}(a:A.get n=some r):(A.kill n r.fam).get n=some r:=by
 rw[kd h a,a];simp
end
noncomputable def AH.grow (A:AH) (cs:List Value) (f:Nat) (l:List Nat) (ty:Nat:=0):AH:=⟨A.t.set fc A.nx (some ⟨cs,f,false,ty⟩),A.nx+1,A.fm.set fc f (some (A.nx::l)),A.nm,A.mp⟩
section
variable {P:Program} {E E':EE} {A:AH} {base:Nat} {w w':World}
def He(a:A.nx<16384){cs:List Value}{f:Nat}{l:List Nat}{ty:Nat}(m:Nat):(A.grow cs f l ty).get m=if m=A.nx then some ⟨cs,f,false,ty⟩else A.get m:=kW (A:=A) (x:=some ⟨cs,f,false,ty⟩) a m
def EA{cs:List Value}{f:Nat}{l:List Nat}{ty:Nat}(a:f<16384)(m:Nat):(A.grow cs f l ty).fget m=if m=f then some (A.nx::l)else A.fget m:=o4 (A:=A) a m
def RelA.grow(h:RelA P E A base w){cs:List Value}{f:Nat}{l:List Nat}{ty:Nat}{b o s:Nat}(hx:A.nx<16384)(X:E.Le E')(F:E'.lo A.nx=some (b,o))(a:∀n,n≠A.nx->E'.lo n=E.lo n)(Y:E'.bl b=some s)(hs:o+cs.length<=s)
  (K:∀y s,E'.bl y=some s->base<=y/\∃c e fz,w'.heap[y]? =some (.cells c e fz)/\c.size=s/\(NL E A y\/y=b->FzB s fz)) (R:w.heap.size<=w'.heap.size) (Q:∀i v,cs[i]? =some v->∃u,w'.cell? ⟨b,o+i,none⟩=some u/\VL P E' [u] [v])
  (a2:∀n r y H,A.get n=some r->E.lo n=some (y,H)->∀i v,r.cs[i]? =some v->w'.cell? ⟨y,H+i,none⟩=w.cell? ⟨y,H+i,none⟩)
  (G:∀n r H,A.get n=some r->E.lo n=some (b,H)->r.fam=f/\H+r.cs.length<=o+cs.length) (hl:(f=A.nx/\l=[])\/A.fget f=some l) (J:E'.ml=E.ml) (a5:∀(b:Nat) es U,w.heap[b]? =some (.map es U)->w'.heap[b]? =some (.map es U)) (b0:∀b t,E'.tb b=some t->∃c fz,w'.heap[b]? =some (.cells c t fz)) (a9:∀t,ty=t+1->E'.tb b=some t):RelA P E' (A.grow cs f l ty) base w':=by
 have hf:f<=A.nx:=by
  rcases hl with g|g
  ·omega
  have:=(h.mem _ _ g).1;omega
 have hg:=He (cs:=cs) (f:=f) (l:=l) (ty:=ty) hx;have I:=EA (A:=A) (cs:=cs) (f:=f) (l:=l) (ty:=ty) O;have z:∀n r,(A.grow cs f l ty).get n=some r->(n=A.nx/\r=⟨cs,f,false,ty⟩)\/(n≠A.nx/\A.get n=some r):=λn r d=>by
  rw[hg]at d;split at d
  ·next e=>cases d;exact .inl ⟨e,Z⟩
  next e=>exact .inr ⟨e,d⟩
 have b2:∀n r,A.get n=some r->n<A.nx:=λn r d=>(h.fam n r d).1
 have N:∀y s,E'.bl y=some s->base<=y/\∃c e fz,w'.heap[y]? =some (.cells c e fz)/\c.size=s/\(NL E' (A.grow cs f l ty) y->FzB s fz):=λy s' a4=>by
  obtain⟨g,c,e,fz,p,C,x⟩:=K y s' a4;refine⟨g,c,e,fz,p,C,λ⟨n,r,H,W,g2,g3⟩=>x ?_⟩;rcases z n r W with⟨rfl,rfl⟩|⟨D,W⟩
  ·rw[F]at g3;cases g3;exact .inr Z
  rw[a n D]at g3;exact .inl ⟨n,r,H,W,g2,g3⟩
 refine⟨λn r d=>?_,N,λn m r q T o1 o2 g p C x=>?_,λn r d=>?_,λV n l' j r m q T o1 o2 g p C x B=>?_,λV l' j=>?_,λn hn=>?_,?_,λn a3 M=>?_,by rw[J];exact h.minj,by rw[J];exact h.mnew,λn b hb=>QE (h.mlt n b (by rw[<-J];exact hb)) R,Qu h.base R,b0,λn r t d ht=>?_⟩
 ·rcases z n r d with⟨rfl,rfl⟩|⟨D,d⟩
  ·obtain⟨_,c,e,fz,g,_⟩:=K b s Y;exact⟨b,o,F,(QK.1 g).1,.inr ⟨s,Y,hs⟩,Q⟩
  obtain⟨y,H,g,p,C,x⟩:=h.row n r d;refine⟨y,H,by rw[a n D];exact g,QE p R,C.imp id λ⟨s',B,h6⟩=>⟨s',X.bl _ _ B,h6⟩,λi v hv=>?_⟩;obtain⟨u,B,h6⟩:=x i v hv;exact⟨u,(a2 n r y H d g i v hv).trans B,h6.mono X⟩
 ·rcases z n r g with⟨rfl,rfl⟩|⟨D,g⟩
  ·rcases z m q p with⟨rfl,rfl⟩|⟨k,p⟩
   ·exact .inl Z
   rw[F]at C;cases C;rw[a m k]at x;exact .inr (G m q _ p x).1.symm
  rw[a n D]at C;rcases z m q p with⟨rfl,rfl⟩|⟨k,p⟩
  ·rw[F]at x;cases x;exact .inr (G n r _ g C).1
  rw[a m k]at x;exact h.sep n m r q T o1 o2 g p C x
 ·show n<A.nx+1/\r.fam<A.nx+1/\_
  rcases z n r d with⟨rfl,rfl⟩|⟨D,d⟩
  ·exact⟨O,by show f<_;omega,A.nx::l,by rw[I,if_pos Z],Qs ..⟩
  obtain⟨g,p,l',C,x⟩:=h.fam n r d;refine⟨O,O,?_⟩;rw[I];split
  ·next e=>
   rcases hl with B|B
   ·omega
   rw[<-e,C]at B;cases B;exact⟨_,Z,QA _ x⟩
  exact⟨l',C,x⟩
 ·rw[I]at j;split at j
  ·next e=>
   cases j;subst e;rw[F]at x;cases x;rw[hg,if_pos Z]at g;cases g;rcases z m q p with⟨rfl,rfl⟩|⟨k,p⟩
   ·rw[F]at B;cases B;exact Qi _
   rw[a m k]at B;exact(G m q _ p B).2
  next e=>
  have a1:n≠A.nx:=by
   have:=((h.mem _ _ j).2 n (Qs ..)).1;omega
  rcases z m q p with⟨rfl,rfl⟩|⟨k,p⟩
  ·exact absurd C.symm e
  rw[hg,if_neg a1]at g;rw[a n a1]at x;rw[a m k]at B;exact h.top V n l' j r m q T o1 o2 g p C x B
 ·show V<A.nx+1/\_
  rw[I]at j;have L:∀S,A.fget V=some S->∀m∈S,m<A.nx+1/\∀r,(A.grow cs f l ty).get m=some r->r.fam=V:=λS a0 m M=>by
   obtain⟨g,p⟩:=(h.mem _ _ a0).2 m M;refine⟨O,λr d=>?_⟩;rw[hg,if_neg O]at d;exact p r d
  split at j
  ·next e=>
   cases j;refine⟨O,λm M=>?_⟩;rcases Qw.1 M with rfl|M
   ·exact⟨by show A.nx<A.nx+1;omega,λr d=>by rw[hg,if_pos Z]at d;cases d;exact e.symm⟩
   rcases hl with⟨_,B⟩|B
   ·subst B;cases M
   exact L l (by rw[e];exact B) m M
  exact⟨by have:=(h.mem _ _ j).1;omega,L l' j⟩
 ·have hn:A.nx+1<=n:=hn;rw[a n O];exact h.new n O
 ·show A.nx+1<=16384
  omega
 ·obtain⟨b,es,U,g,p,C,x⟩:=h.map n a3 M;exact⟨b,es,U,by rw[J];exact g,a5 b es U p,C,x.1.mono X,x.2.mono X⟩
 rcases z n r d with⟨rfl,rfl⟩|⟨D,d⟩
 ·exact⟨b,o,F,a9 t ht⟩
 obtain⟨T,o1,W,g2⟩:=h.rty n r t d ht;exact⟨T,o1,(a n D).trans W,X.tb _ _ g2⟩
def RelA.write(h:RelA P E A base w){n:Nat}{r:ARow}{b o:Nat}{cs:List Value}{fr:Bool}(L:A.get n=some r)(H:E.lo n=some (b,o))(C:cs.length=r.cs.length)(T:∀m q,A.get m=some q->q.fam=r.fam->m=n)
  (B:w.heap.size<=w'.heap.size) (Q:∀b s,E.bl b=some s->base<=b/\∃c e fz,w'.heap[b]? =some (.cells c e fz)/\c.size=s/\(NL E A b->FzB s fz)) (G:∀i v,cs[i]? =some v->∃u,w'.cell? ⟨b,o+i,none⟩=some u/\VL P E [u] [v])
  (S:∀k,k≠b->k<w.heap.size->w'.heap[k]? =w.heap[k]?) (a1:∀(b:Nat) es N,w.heap[b]? =some (.map es N)->w'.heap[b]? =some (.map es N)) (a2:∀b t,E.tb b=some t->∃c fz,w'.heap[b]? =some (.cells c t fz)) (R:r.fro=true->fr=true):RelA P E (A.put n (some ⟨cs,r.fam,fr,r.ty⟩)) base w':=by
 have hn:=h.fam n r L;have a3:=h.nxb;have hg:=kW (A:=A) (x:=some ⟨cs,r.fam,fr,r.ty⟩) (n:=n) O;have z:∀m q,(A.put n (some ⟨cs,r.fam,fr,r.ty⟩)).get m=some q->(m=n/\q=⟨cs,r.fam,fr,r.ty⟩)\/(m≠n/\A.get m=some q):=λm q a=>by
  rw[hg]at a;split at a
  ·next e=>cases a;exact .inl ⟨e,Z⟩
  next e=>exact .inr ⟨e,a⟩
 have d:∀m q,(A.put n (some ⟨cs,r.fam,fr,r.ty⟩)).get m=some q->∃q',A.get m=some q'/\q'.fam=q.fam/\q'.cs.length=q.cs.length:=λm q a=>by
  rcases z m q a with⟨rfl,rfl⟩|⟨_,a⟩
  ·exact⟨r,L,Z,C.symm⟩
  exact⟨q,a,Z,Z⟩
 have F:∀b s,E.bl b=some s->base<=b/\∃c e fz,w'.heap[b]? =some (.cells c e fz)/\c.size=s/\(NL E (A.put n (some ⟨cs,r.fam,fr,r.ty⟩)) b->FzB s fz):=λk s' a0=>by
  obtain⟨g,c,e,fz,j,p,y⟩:=Q k s' a0;refine⟨g,c,e,fz,j,p,λ⟨m,q,M,g1,g2,g3⟩=>y ?_⟩;rcases z m q g1 with⟨rfl,rfl⟩|⟨I,g1⟩
  ·exact⟨m,r,M,L,(by cases hf:r.fro with|false=>rfl|true=>rw[R hf]at g2;cases g2),g3⟩
  exact⟨m,q,M,g1,g2,g3⟩
 refine⟨λm q a=>?_,F,λU m r1 q W o1 o2 g j p y=>?_,λm q a=>?_,λf U l hl r1 m q W o1 o2 g j p y h5=>?_,λf l hl=>?_,h.new,h.nxb,λn X V=>?_,h.minj,h.mnew,λn b hb=>QE (h.mlt n b hb) B,Qu h.base B,a2,λm q t a ht=>by
  rcases z m q a with⟨rfl,rfl⟩|⟨_,a⟩
  ·exact h.rty m r t L ht
  exact h.rty m q t a ht⟩
 ·rcases z m q a with⟨rfl,rfl⟩|⟨I,a⟩
  ·obtain⟨k,M,g,j,p,_⟩:=h.row m r L;rw[H]at g;cases g;exact⟨b,o,H,QE j B,by rw[C];exact p.imp (λh=>⟨R h.1,h.2⟩) id,G⟩
  obtain⟨k,M,g,j,p,y⟩:=h.row m q a;have hb:k≠b:=λe=>by
   subst e;rcases h.sep m n q r k M o a L g H with e|e
   ·exact I e
   exact I (T m q a e)
  refine⟨k,M,g,QE j B,p,λi v hv=>?_⟩;obtain⟨u,h5,h6⟩:=y i v hv;exact⟨u,(World.cell?_of_block (S k hb j)).trans h5,h6⟩
 ·obtain⟨J,D,K,_⟩:=d U r1 g;obtain⟨q2,Y,e4,_⟩:=d m q j;rw[<-K,<-e4];exact h.sep U m J q2 W o1 o2 D Y p y
 ·obtain⟨J,D,K,_⟩:=d m q a;rw[<-K];exact h.fam m J D
 ·obtain⟨J,D,K,e5⟩:=d U r1 g;obtain⟨q2,Y,e4,e6⟩:=d m q j;rw[<-e5,<-e6];exact h.top f U l hl J m q2 W o1 o2 D Y (e4.trans p) y h5
 ·obtain⟨g,j⟩:=h.mem f l hl;refine⟨g,λm V=>⟨(j m V).1,λq a=>?_⟩⟩;obtain⟨J,D,K,_⟩:=d m q a;rw[<-K];exact(j m V).2 J D
 obtain⟨b,es,N,g,j,p,y⟩:=h.map n X V;exact⟨b,es,N,g,a1 b es N j,p,y⟩
def RelA.later(h:RelA P E A base w)(g:w.heap.size<=w'.heap.size)(a:∀b,b<w.heap.size->w'.heap[b]? =w.heap[b]?):RelA P E A base w' where
 row n r hr:=by
  obtain⟨b,o,d,f,j,k⟩:=h.row n r hr;refine⟨b,o,d,QE f g,j,λi v q=>?_⟩;obtain⟨u,m,p⟩:=k i v q;exact⟨u,(World.cell?_of_block (a b f)).trans m,p⟩
 blk b s hb:=by
  obtain⟨d,c,e,fz,f,j⟩:=h.blk b s hb;exact⟨d,c,e,fz,(a b (QK.1 f).1).trans f,j⟩
 sep:=h.sep
 fam:=h.fam
 top:=h.top
 mem:=h.mem
 new:=h.new
 nxb:=h.nxb
 map n cs hm:=by
  obtain⟨b,es,l,d,f,j,k⟩:=h.map n cs hm;exact⟨b,es,l,d,(a b (QK.1 f).1).trans f,j,k⟩
 minj:=h.minj
 mnew:=h.mnew
 mlt n b hb:=QE (h.mlt n b hb) g
 base:=Qu h.base g
 typ b t hb:=by
  obtain⟨c,fz,d⟩:=h.typ b t hb;exact⟨c,fz,(a b (QK.1 d).1).trans d⟩
 rty:=h.rty
end
