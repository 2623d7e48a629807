import Derived.Test.YtmhcanmapkenbaaGreatDoorA38
set_option linter.defProp false
open Go.Proofs.Tryz
namespace Go.Proofs.YtmhcanmapkenbaaGreatDoor
open Lib renaming hid→J
section
variable {P:Program} {sl sl':Slo} {A A':AH} {o:Oper} {call:fC}
def k5{α β:Type}{f g:α->β}:∀{l:List α},(∀x∈l,f x=g x)->iv f l=iv g l
 |[],_=>rfl
 |a::l,h=>by
  show f a::iv f l=g a::iv g l
  rw[h a (Qs ..),k5 λx b=>h x (QA _ b)]
def pK{d:Nat}{x:Option Operand}(h:∀y,x=some y->de P sl y=de P sl' y):t7 P sl d x=t7 P sl' d x:=by
 cases x with
 |none=>rfl
 |some y=>
  show(match de P sl y with| .int _ (.ofNat n)=>some n|_=>none)=(match de P sl' y with| .int _ (.ofNat n)=>some n|_=>none)
  rw[h y Z]
def Bl(h:∀x∈o.op.operands.toList,de P sl x=de P sl' x):jr P call sl A o=jr P call sl' A o:=by
 obtain⟨F,op,E,I,u,v⟩:=o;unfold jr;simp only at h⊢;have n:∀{x y:Operand},op.operands.toList=[x,y]->de P sl x=de P sl' x/\de P sl y=de P sl' y:=λe=>⟨h _ (by rw[e];simp),h _ (by rw[e];simp)⟩
 have args:∀(l:List Operand),(∀x∈l,x∈op.operands.toList)->iv (de P sl) l=iv (de P sl') l:=λl hl=>k5 λx q=>h x (hl x q)
 cases op with
 |move x=>simp only[h x (by simp[Op.operands])]
 |assign x=>simp only[h x (by simp[Op.operands])]
 |pick c a b=>
  simp only[tc];rw[h c (by simp[Op.operands]),h a (by simp[Op.operands]),h b (by simp[Op.operands])]
 |box _ x=>
  simp only[yY];rw[h x (by simp[Op.operands])]
 |build t ps=>
  simp only[o6];rw[k5 (f:=λp:Nat×Operand=>(p.1,de P sl p.2)) (g:=λp=>(p.1,de P sl' p.2)) λp w=>by
   rw[h p.2 (by simp only[Op.operands,RH];exact⟨p,w,Z⟩)]]
 |buildSlice t len ps=>
  simp only[yZ,wP];rw[k5 (f:=λp:Nat×Operand=>(p.1,de P sl p.2)) (g:=λp=>(p.1,de P sl' p.2)) λp w=>by
   rw[h p.2 (by simp only[Op.operands,RH];exact⟨p,w,Z⟩)]]
 |load t a=>
  simp only[KB];rw[h a (by simp[Op.operands])]
 |store t a x=>
  simp only[KC];rw[(n Z).1,(n Z).2]
 |nilCheck x=>
  simp only[te];rw[h x (by simp[Op.operands])]
 |binOp op t x y _=>
  simp only[zc];rw[(n Z).1,(n Z).2]
 |unOp op _ x=>
  simp only[H4];rw[h x (by simp[Op.operands])]
 |convert s d x=>
  simp only[H8,tq];rw[h x (by simp[Op.operands])]
 |makeSlice t l c=>
  simp only[Hv];rw[(n Z).1,(n Z).2]
 |slice t x lo hi mx=>
  simp only[Hu];rw[h x (by simp[Op.operands])];have C:∀d,t7 P sl d lo=t7 P sl' d lo:=λd=>pK λy r=>h y (by subst r;simp[Op.operands])
  have D:∀d,t7 P sl d hi=t7 P sl' d hi:=λd=>pK λy r=>h y (by subst r;simp[Op.operands])
  have G:∀d z,mx=some z->t7 P sl d (some z)=t7 P sl' d (some z):=λd z H=>pK λy r=>h y (by subst H;cases r;simp[Op.operands])
  cases mx with
  |none=>simp only[C,D]
  |some z=>simp only[C,D,G _ z Z]
 |fieldAddr s x f=>
  simp only[Hq];rw[h x (by simp[Op.operands])]
 |field t x f=>
  simp only[y6];rw[h x (by simp[Op.operands])]
 |indexAddr t x ix=>
  simp only[Ht];rw[(n Z).1,(n Z).2]
 |index t x ix=>
  simp only[Hz];rw[(n Z).1,(n Z).2]
 |extract t i=>
  simp only[y5];rw[h t (by simp[Op.operands])]
 |makeFunc fn a b=>
  simp only[NR];rw[args a.toList (λx q=>by simp only[Op.operands,QW];exact Sh _ q),args b.toList (λx q=>by simp only[Op.operands,QW];exact Sc _ q)]
 |lookup t x ix ok=>
  simp only[Ia];rw[(n Z).1,(n Z).2]
 |mapUpdate t m k x=>
  simp only[EJ];rw[h m (by simp[Op.operands]),h k (by simp[Op.operands]),h x (by simp[Op.operands])]
 |insert t m k x=>
  simp only[EJ];rw[h m (by simp[Op.operands]),h k (by simp[Op.operands]),h x (by simp[Op.operands])]
 |call c=>
  obtain⟨B,xs,ts⟩:=c;have j:∀x∈xs.toList,x∈(Op.call ⟨B,xs,ts⟩).operands.toList:=λx q=>by
   simp only[Op.operands,Call.operands,QW];exact Sc _ q
  cases B with
  |builtin b=>
   show zh P sl A b ts.toList xs.toList=zh P sl' A b ts.toList xs.toList
   unfold zh;split
   ·unfold wQ;split
    ·next s x q=>
     rw[h s (j _ (by rw[q];simp)),h x (j _ (by rw[q];simp))]
    rfl
   ·unfold ti;split
    ·next t x _ q=>rw[h x (j _ (by rw[q];simp))]
    rfl
   ·unfold wR;split
    ·next t _ d s _ q=>rw[h s (j _ (by rw[q];simp)),h d (j _ (by rw[q];simp))]
    rfl
   ·unfold zf;rw[args xs.toList j]
   ·unfold zf;rw[args xs.toList j]
   ·unfold zg;split
    ·next t x _ q=>rw[h x (j _ (by rw[q];simp))]
    rfl
   ·unfold C0;split
    ·next x q=>rw[h x (j _ (by rw[q];simp))]
    rfl
   ·unfold C1;split
    ·next pt it x y _ q=>rw[h x (j _ (by rw[q];simp)),h y (j _ (by rw[q];simp))]
    rfl
   rfl
  |value f=>
   show pJ P call sl A f xs.toList=pJ P call sl' A f xs.toList
   unfold pJ;rw[h f (by simp[Op.operands,Call.operands]),args xs.toList j]
  |invoke _ _=>rfl
 |_=>rfl
def bo:Op->Bool
 | .store .. | .alloc _| .box .. | .buildSlice .. | .makeSlice .. | .makeMap .. | .mapUpdate .. | .insert .. =>true
 | .call c=>match c.callee with| .builtin .len| .builtin .min| .builtin .max| .builtin .cap=>false|_=>true
 |_=>false
def gc:Op->Bool
 | .alloc _| .box .. | .buildSlice .. | .makeSlice .. =>true
 |_=>false
def eY{op:Op}(h:gc op=true):bo op=true:=by cases op<;>first|rfl|cases h
def Im(a:gc o.op=true):Newer P sl A o (jr P call sl A o):=by
 unfold jr;split<;>rename_i h<;>first
  |exact qc h
  |exact uU h
  |exact uV h
  |exact y9 h
  |(rw[h]at a;cases a)
  |exact dP
def tB{v:Value}(l:bo o.op=false)(e:jr P call sl A o=some (v,A'))(F:A'.nx=A.nx):A'=A:=by
 obtain⟨D,op,B,I,q,r⟩:=o;have g:∀{α:Type} {x:Option α} {k:α->Rs},(∀a,k a=some (v,A')->A'=A)->cP x k=some (v,A')->A'=A:=λE e=>by
  obtain⟨a,_,h⟩:=aS e;exact E a h
 have p:∀{u:Value},lP u A=some (v,A')->A'=A:=λh=>(iS h).2.1
 have n:∀{op:BinOp} {t:TypeId} {x y:Operand} {a b:Value},zb P A op t x y a b=some (v,A')->A'=A:=λh=>by
  unfold zb at h;obtain⟨_,h⟩:=aW h;obtain⟨_,_,h⟩:=aS h;exact p h
 have j:∀{b:Bool} {x y:Rs},(x=some (v,A')->A'=A)->(y=some (v,A')->A'=A)->cond b x y=some (v,A')->A'=A:=λ{b x y} G H h=>by
  cases b
  ·exact H h
  exact G h
 have sm:∀{u:Value},some (u,A)=some (v,A')->A'=A:=λh=>by cases h;rfl
 have m:∀{b:Bool},bV b A=some (v,A')->A'=A:=λh=>(qf h).2
 unfold jr at e;simp only at e l;cases op with
 |move x=>exact sm e
 |assign x=>exact sm e
 |pick c a b=>
  simp only[tc]at e;split at e
  ·exact sm e
  ·exact sm e
  cases e
 |build t ps=>
  simp only[o6]at e;refine g (λz e=>?_) e;obtain⟨_,e⟩:=aW e;split at e
  ·exact g (λ_ e=>g (λ_ e=>sm e) e) e
  ·exact g (λ_ e=>g (λ_ e=>sm e) e) e
  cases e
 |load t a=>exact g (λ_ e=>sm e) e
 |nilCheck x=>
  simp only[te]at e;split at e
  ·exact sm e
  cases e
 |binOp op t x y _=>
  simp only[zc]at e;split at e
  ·refine j (λe=>?_) n e;unfold CW at e;split at e<;>first
    |(rw[b8]at e;exact j sm n e)
    |(refine j (λe=>?_) n e;rw[b8]at e;exact sm e)
    |exact m e
    |exact n e
  ·unfold HY at e;split at e
   ·obtain⟨_,e⟩:=aW e;rw[dd]at e;exact sm e
   ·exact m e
   ·exact m e
   exact n e
  ·split at e
   ·split at e
    ·exact m e
    ·exact m e
    cases e
   cases e
  ·split at e
   ·split at e
    ·exact m e
    ·exact m e
    cases e
   cases e
  exact n e
 |unOp op _ x=>
  simp only[H4]at e;obtain⟨_,e⟩:=aW e;exact g (λ_ e=>p e) e
 |convert s d x=>
  have w:tq P sl A s d x=some (v,A')->A'=A:=λe=>by
   unfold tq at e;obtain⟨_,e⟩:=aW e;exact g (λ_ e=>p e) e
  simp only[H8]at e;split at e
  ·split at e
   ·unfold CX at e;split at e
    ·split at e
     ·obtain⟨_,_,e⟩:=aS e;have e:=(aW e).2;obtain⟨_,e⟩:=kg e;cases e;exact absurd F (Nat.succ_ne_self _)
     cases e
    cases e
   exact w e
  ·unfold CY at e;simp only[dd]at e;split at e
   ·split at e
    ·refine g (λ_ e=>?_) e;exact g (λ_ e=>sm e) (aW e).2
    cases e
   cases e
  exact w e
 |slice t x lo hi mx=>
  simp only[Hu,c8,fl,fp,dd,b8]at e;split at e
  ·split at e
   ·refine g (λ_ e=>g (λ_ e=>g (λ_ e=>?_) e) e) e;obtain⟨_,e⟩:=aW e;refine g (λ_ e=>?_) e;exact sm (aW e).2
   ·refine g (λ_ e=>g (λ_ e=>g (λ_ e=>?_) e) e) e;obtain⟨_,e⟩:=aW e;exact g (λ_ e=>sm e) e
   cases e
  split at e
  ·refine g (λ_ e=>g (λ_ e=>?_) e) e;obtain⟨_,e⟩:=aW e;refine g (λ_ e=>?_) e;split at e
   ·exact sm e
   ·exact sm (aW e).2
   cases e
  ·split at e
   ·refine g (λ_ e=>g (λ_ e=>?_) e) e;exact sm (aW e).2
   cases e
  ·split at e
   ·refine g (λ_ e=>g (λ_ e=>?_) e) e;obtain⟨_,e⟩:=aW e;refine g (λ_ e=>g (λ_ e=>?_) e) e;exact sm (aW e).2
   cases e
  cases e
 |fieldAddr s x f=>
  simp only[Hq,b8]at e;split at e
  ·refine g (λ_ e=>g (λ_ e=>?_) e) e;exact sm (mA e).2
  cases e
 |field t x f=>
  simp only[y6]at e;split at e
  ·exact g (λ_ e=>g (λ_ e=>j (g λ_ e=>sm e) (g λ_ e=>sm e) e) e) e
  cases e
 |indexAddr t x ix=>
  simp only[Ht,b8]at e;split at e
  ·split at e
   ·refine g (λ_ e=>?_) e;exact sm (aW e).2
   ·split at e
    ·refine g (λ_ e=>?_) e;exact sm (aW e).2
    cases e
   cases e
  cases e
 |index t x ix=>
  simp only[Hz,b8]at e;split at e
  ·split at e
   ·exact g (λ_ e=>sm e) e
   ·refine g (λ_ e=>g (λ_ e=>?_) e) e;exact j sm (g λ_ e=>sm e) (aW e).2
   cases e
  cases e
 |extract t i=>
  simp only[y5]at e;split at e
  ·exact g (λ_ e=>sm e) e
  cases e
 |makeFunc fn a b=>exact sm e
 |call c=>
  obtain⟨C,xs,ts⟩:=c;cases C with
  |builtin b=>
   have e:zh P sl A b ts.toList xs.toList=some (v,A'):=e;unfold zh at e;split at e
   ·cases l
   ·unfold ti at e;simp only[c8,b8]at e;split at e
    ·split at e
     ·exact sm e
     ·exact sm e
     ·exact sm e
     cases e
    cases e
   ·cases l
   ·unfold zf at e;exact g (λ_ e=>p e) (aW e).2
   ·unfold zf at e;exact g (λ_ e=>p e) (aW e).2
   ·unfold zg at e;split at e
    ·split at e
     ·exact sm e
     ·exact sm e
     cases e
    cases e
   ·cases l
   ·cases l
   cases e
  |value f=>cases l
  |invoke _ _=>cases e
 |lookup t x ix ok=>
  simp only[Ia]at e;split at e
  ·refine g (λ_ e=>?_) e;have e:=(aW e).2;split at e
   ·refine g (λ_ e=>g (λ_ e=>?_) e) e;split at e
    ·exact j sm sm e
    refine g (λ_ e=>g (λ_ e=>?_) e) e;exact j sm sm (aW e).2
   cases e
  cases e
 |makeMap _ _=>cases l
 |mapUpdate _ _ _ _=>cases l
 |insert _ _ _ _=>cases l
 |alloc _=>cases l
 |box _ _=>cases l
 |buildSlice _ _ _=>cases l
 |makeSlice _ _ _=>cases l
 |store _ _ _=>cases l
 |_=>cases e
end
noncomputable def KV (f:Value->Value->Bool) (l:List Value):List Value->Bool:=List.rec (λm=>List.rec true (λ_ _ _=>false) m) (λx _ r m=>List.rec false (λy m _=>cond (f x y) (r m) false) m) l
def w7{f:Value->Value->Bool}(b:∀v w,f v w=true->v=w):∀l m:List Value,KV f l m=true->l=m
 |[],[],_=>rfl
 |[],_::_,h=>by cases h
 |_::_,[],h=>by cases h
 |x::l,y::m,h=>by
  have h:cond (f x y) (KV f l m) false=true:=h;cases a:f x y with
  |false=>rw[a]at h;cases h
  |true=>
   rw[a]at h;rw[b x y a,w7 b l m h]
noncomputable def NU (ih:Value->Value->Bool) (v w:Value):Bool:=
 match v,w with
 | .int k (.ofNat a),.int k' (.ofNat b)=>NO k k'&&Nat.beq a b
 | .int k (.negSucc a),.int k' (.negSucc b)=>NO k k'&&Nat.beq a b
 | .bool true,.bool true=>true
 | .bool false,.bool false=>true
 | .string a,.string b=>HK a.data.toList b.data.toList
 | .pointer none,.pointer none=>true
 | .pointer (some ⟨n,c,none⟩),.pointer (some ⟨n',c',none⟩)=>Nat.beq n n'&&Nat.beq c c'
 | .pointer (some ⟨n,c,some s⟩),.pointer (some ⟨n',c',some s'⟩)=>Nat.beq n n'&&Nat.beq c c'&&Nat.beq s s'
 | .slice none m c,.slice none m' c'=>Nat.beq m m'&&Nat.beq c c'
 | .slice (some ⟨n,c,none⟩) m e,.slice (some ⟨n',c',none⟩) m' e'=>Nat.beq n n'&&Nat.beq c c'&&Nat.beq m m'&&Nat.beq e e'
 | .agg a,.agg b=>KV ih a.toList b.toList
 | .tuple a,.tuple b=>KV ih a.toList b.toList
 | .nilIface,.nilIface=>true
 | .nilFunc,.nilFunc=>true
 | .map none,.map none=>true
 | .map (some a),.map (some b)=>Nat.beq a b
 | .iface t u,.iface t' u'=>Nat.beq t t'&&ih u u'
 | .chan (some a),.chan (some b)=>Nat.beq a b
 |_,_=>false
noncomputable def Od (n:Nat):Value->Value->Bool:=Nat.rec (λ_ _=>false) (λ_ ih=>NU ih) n
def Io:∀(n:Nat) {v w:Value},Od n v w=true->v=w
 |0,_,_,h=>by cases h
 |n+1,v,w,h=>by
  have c:=λ{v w:Value}=>Io n (v:=v) (w:=w)
  have h:NU (Od n) v w=true:=h;unfold NU at h;split at h
  ·simp only[Qh]at h;rw[pI h.1,Ql h.2]
  ·simp only[Qh]at h;rw[pI h.1,Ql h.2]
  ·rfl
  ·rfl
  ·next a b=>
   rw[lQ]at h;exact congrArg Value.string (tn (eq_of_beq h))
  ·rfl
  ·simp only[Qh]at h;rw[Ql h.1,Ql h.2]
  ·simp only[Qh]at h;rw[Ql h.1.1,Ql h.1.2,Ql h.2]
  ·simp only[Qh]at h;rw[Ql h.1,Ql h.2]
  ·simp only[Qh]at h;rw[Ql h.1.1.1,Ql h.1.1.2,Ql h.1.2,Ql h.2]
  ·next a b=>rw[Rb (w7 (λv w=>c) _ _ h)]
  ·next a b=>rw[Rb (w7 (λv w=>c) _ _ h)]
  ·rfl
  ·rfl
  ·rfl
  ·rw[Ql h]
  ·simp only[Qh]at h;rw[Ql h.1,c h.2]
  ·rw[Ql h]
  cases h
noncomputable def lR (f:Nat->Oper->Bool) (l:List Oper):Nat->Bool:=List.rec (λ_=>true) (λo _ ih i=>cond (f i o) (ih (i+1)) false) l
def k7{f:Nat->Oper->Bool}:∀{l:List Oper} {s:Nat},lR f l s=true->∀(i:Nat) (o:Oper),l[i]? =some o->f (s+i) o=true
 |[],_,_,_,_,h=>by simp at h
 |o::l,s,h,i,o',ho=>by
  have h:cond (f s o) (lR f l (s+1)) false=true:=h;cases a:f s o with
  |false=>rw[a]at h;cases h
  |true=>
   rw[a]at h;cases i with
   |zero=>cases ho;exact a
   |succ i=>
    have:=k7 (l:=l) (s:=s+1) h i o' (by simpa using ho);rw[show s+(i+1)=s+1+i by omega];exact this
noncomputable def mV (l:List Nat):Nat->Nat:=List.rec (λ_=>0) (λa _ ih n=>Nat.rec a (λm _=>ih m) n) l
def tC:∀(l:List Nat) (i:Nat),mV l i=l.getD i 0
 |[],_=>rfl
 |_::_,0=>rfl
 |_::l,n+1=>by rw[Ta];exact tC l n
noncomputable def w8 (acc:List Nat) (es:List Edge):Nat:=List.rec 0 (λe _ ih=>cond (Region.binds .any e) (Nat.lor (Nat.lor (2^e.on) (mV acc e.on)) ih) ih) es
noncomputable def fW (ops:List Oper):List Nat->List Nat:=List.rec (λacc=>acc) (λo _ ih acc=>dH (w8 acc o.after.toList) λm=>ih (acc++[m])) ops
noncomputable def go (C:List Nat) (i k:Nat):Bool:=Nat.testBit (mV C i) k
def C7{acc:List Nat}{L:Array Bool}{k:Nat}(a:∀i,Nat.testBit (mV acc i) k=true->L.getD i false=true->L.getD k false=true):∀{es:List Edge},Nat.testBit (w8 acc es) k=true->(∀e∈es,Region.binds .any e=true->L.getD e.on false=true)->L.getD k false=true
 |[],h,_=>by simp[w8]at h
 |e::es,h,hw=>by
  have h:Nat.testBit (cond (Region.binds .any e) (Nat.lor (Nat.lor (2^e.on) (mV acc e.on)) (w8 acc es)) (w8 acc es)) k=true:=h;have f:=C7 a (es:=es);cases d:Region.binds .any e with
  |false=>
   rw[d]at h;exact f h λc b=>hw c (QA _ b)
  |true=>
   rw[d]at h;have hl:=hw e (Qs ..) d;have h:((2^e.on|||mV acc e.on)|||w8 acc es).testBit k=true:=h;rw[Nat.testBit_or,Nat.testBit_or,Q5,Q5]at h;rcases h with(h|h)|h
   ·rw[Nat.testBit_two_pow]at h;simp only[decide_eq_true_eq]at h;subst h;exact hl
   ·exact a _ h hl
   exact f h λc b=>hw c (QA _ b)
def w9{all:Array Oper}{L:Array Bool}(b:Closed all L)(k:Nat):∀(ops:List Oper) (acc:List Nat),(∀i o,ops[i]? =some o->all[acc.length+i]? =some o)->(∀i,Nat.testBit (mV acc i) k=true->L.getD i false=true->L.getD k false=true)->∀i,Nat.testBit (mV (fW ops acc) i) k=true->L.getD i false=true->L.getD k false=true
 |[],acc,_,h=>h
 |o::ops,acc,ho,h=>by
  have e:fW (o::ops) acc=fW ops (acc++[w8 acc o.after.toList]):=by
   show dH (w8 acc o.after.toList) (λm=>fW ops (acc++[m]))=_
   rw[b8]
  rw[e];refine w9 b k ops _ (λi l g=>?_) λi a hl=>?_
  ·rw[QJ];have:=ho (i+1) l (by simpa using g);rw[show acc.length+ [w8 acc o.after.toList].length+i=acc.length+(i+1) by simp;omega];exact this
  rw[tC,Qp]at a;by_cases c:i<acc.length
  ·rw[Qv c]at a;exact h i (by rw[tC,Qp];exact a) hl
  by_cases d:i=acc.length
  ·subst d;rw[Qx (Qi _),RI]at a;have j:=b acc.length o (by simpa using ho 0 o Z) hl;exact C7 h a λe f=>j e (by simpa using f)
  rw[Rl (by simp;omega)]at a;simp at a
noncomputable def qh (xs:List Operand):List Nat:=List.rec [] (λx _ ih=>Operand.rec (λt=>t::ih) (λ_=>ih) (λ_=>ih) (λ_=>ih) x) xs
def uY:∀{xs:List Operand} {t:Nat},Operand.tmp t∈xs->t∈qh xs
 |x::xs,t,h=>by
  rcases Qw.1 h with rfl|h
  ·exact Qs ..
  have:=uY h;cases x with
  |tmp s=>exact QA _ this
  |const v=>exact this
  |global g=>exact this
  |func f=>exact this
noncomputable def KW (all:List Oper) (g:Option (Nat×Bool)):List Nat:=Option.rec [] (λp=>Option.rec [] (λo=>Option.rec [] (λd=>[d]) o.dst) (jT all p.1)) g
noncomputable def Bm (o:Oper) (t:Nat):Bool:=Option.rec false (λd=>Nat.beq d t) o.dst
noncomputable def eu (ops:List Oper):Nat->Nat:=List.rec (λ_=>0) (λo _ ih i=>Nat.rec 0 (λk _=>cond (bo o.op) (ih k+1) (ih k)) i) ops
noncomputable def Ip (ops:List Oper) (n:Nat):Bool:=
 (λC=>d7 ops.toArray&&lR (λi o=>Option.rec true (λd=>Nat.blt d n&&lR (λk o'=>cond (Nat.blt i k) (!Bm o' d) true) ops 0) o.dst
  &&pG (λt=>lR (λk o'=>cond (Bm o' t) (!Nat.beq k i&&(go C i k||go C k i)) true) ops 0) (o0 (KW ops o.guard) (qh o.op.operands.toList))
  &&(cond (bo o.op&& !gc o.op) (lR (λk o'=>cond (bo o'.op&&Nat.blt k i) (go C i k) true) ops 0) true
  &&lR (λk o'=>cond (gc o'.op&&go C i k) (lR (λm o''=>cond (bo o''.op&&Nat.blt m k) (go C i m) true) ops 0) true) ops 0)) ops 0) (fW ops [])
abbrev PZ:=Option (List (Bool×Value)×List AH×Slo×AH)
noncomputable def qp (sl:Slo) (d:Option Nat) (v:Value):Slo:=Option.rec sl (λd=>sset sl d v) d
noncomputable def P0 (P:Program) (call:fC) (all:List Oper) (ops:List Oper):Slo->AH->PZ:=
 List.rec (λsl A=>some ([],[],sl,A)) (λo _ ih sl A=>cP (t8 all sl o.guard) λb=>cP (cond b (jr P call sl A o) (some (undef,A))) λr=>cond (bo o.op||Nat.beq r.2.nx A.nx) (cP (ih (qp sl o.dst r.1) r.2) λq=>some ((b,r.1)::q.1,cond (bo o.op) (r.2::q.2.1) q.2.1,q.2.2)) none) ops
noncomputable def Iq (f:Nat->AH->Bool) (l:List AH):Nat->Bool:=List.rec (λ_=>true) (λA _ ih i=>cond (f i A) (ih (i+1)) false) l
noncomputable def Ir (C:List Nat) (all:List Oper) (i j:Nat):Bool:=lR (λk o=>cond (bo o.op) (cond (go C i k) (Nat.blt (eu all k) j) true&&cond (go C k i) (Nat.ble j (eu all k)) true) true) all 0
noncomputable def P1 (P:Program) (call:fC) (all:List Oper) (Hs:List AH) (ops:List Oper):Nat->List (Bool×Value)->Slo->Bool:=
 List.rec (λ_ _ _=>true) (λo _ ih i vs sl=>List.rec false (λv vs _=>cond (cond (bo o.op) true (cond v.1 (Iq (λj H=>cond (Ir (fW all []) all i j) (Option.rec false (λr=>Od 6 r.1 v.2&&Nat.beq r.2.nx H.nx) (jr P call sl H o)) true) Hs 0) true)) (ih (i+1) vs (qp sl o.dst v.2)) false) vs) ops
noncomputable def Bn (P:Program):C5:=λcall ops sl A=>cond (Ip ops sl.n) (cP (P0 P call ops ops sl A) λq=>cond (List.rec true (λ_ _ _=>P1 P call ops (A::q.2.1) ops 0 q.1 sl) q.2.1) (some (q.2.2.1,q.2.2.2)) none) none
def kj{ops:List Oper}:∀{i:Nat} {o:Oper},ops[i]? =some o->eu ops (i+1)=if bo o.op then eu ops i+1 else eu ops i:=by
 induction ops with
 |nil=>intro i o h;simp at h
 |cons a l ih=>
  intro i o h;cases i with
  |zero=>
   cases h;show cond (bo a.op) (eu l 0+1) (eu l 0)=_
   have:eu l 0=0:=by cases l<;>rfl
   rw[this];cases bo a.op<;>rfl
  |succ i=>
   have:=ih (i:=i) (o:=o) (by simpa using h);show cond (bo a.op) (eu l (i+1)+1) (eu l (i+1))=if bo o.op then cond (bo a.op) (eu l i+1) (eu l i)+1 else cond (bo a.op) (eu l i+1) (eu l i)
   rw[this];cases bo a.op<;>cases bo o.op<;>rfl
def tD{ops:List Oper}{i:Nat}:∀{k:Nat},i<=k->eu ops i<=eu ops k:=by
 intro k e;induction k with
 |zero=>
  have:i=0:=O
  subst this;exact Qi _
 |succ k ih=>
  rcases Rm i (k+1)with h|h
  ·refine Qu (ih O) ?_;cases c:ops[k]? with
   |some o=>
    rw[kj c];split<;>omega
   |none=>
    have key:∀(l:List Oper) (n m:Nat),l.length<=n->n<=m->eu l n=eu l m:=λl=>by
     induction l with
     |nil=>intro n m _ _;rfl
     |cons a l ih2=>
      intro n m b d;cases n with
      |zero=>simp at b
      |succ n=>
       cases m with
       |zero=>omega
       |succ m=>
        have:=ih2 n m (by simpa using b) O;show cond (bo a.op) (eu l n+1) (eu l n)=cond (bo a.op) (eu l m+1) (eu l m)
        rw[this]
    rw[key ops k (k+1) (by simpa using c) O];exact Qi _
  have:i=k+1:=O
  subst this;exact Qi _
def C8{f:Nat->AH->Bool}:∀{l:List AH} {s:Nat},Iq f l s=true->∀(i:Nat) (A:AH),l[i]? =some A->f (s+i) A=true
 |[],_,_,_,_,h=>by simp at h
 |A::l,s,h,i,A',hA=>by
  have h:cond (f s A) (Iq f l (s+1)) false=true:=h;cases a:f s A with
  |false=>rw[a]at h;cases h
  |true=>
   rw[a]at h;cases i with
   |zero=>cases hA;exact a
   |succ i=>
    have:=C8 (l:=l) (s:=s+1) h i A' (by simpa using hA);rw[show s+(i+1)=s+1+i by omega];exact this
noncomputable def iB:Slo->List Oper->List (Bool×Value)->Nat->Slo
 |sl,o::os,v::vs,i+1=>iB (qp sl o.dst v.2) os vs i
 |sl,_,_,_=>sl
def Is{P:Program}{call:fC}{all:List Oper}:∀{ops:List Oper} {sl sl':Slo} {A l:AH} {vs:List (Bool×Value)} {g:List AH},P0 P call all ops sl A=some (vs,g,sl',l)->
  vs.length=ops.length/\sl'=iB sl ops vs ops.length/\(A::g)[eu ops ops.length]? =some l/\g.length=eu ops ops.length/\
  ∀i o,ops[i]? =some o->∃b v H m,vs[i]? =some (b,v)/\(A::g)[eu ops i]? =some H/\t8 all (iB sl ops vs i) o.guard=some b/\(if b=true then jr P call (iB sl ops vs i) H o=some (v,m)else(v=undef/\m=H))/\(bo o.op=true->(A::g)[eu ops i+1]? =some m)/\(bo o.op=false->m=H)
 |[],sl,sl',A,l,vs,g,h=>by
  cases h;exact⟨Z,Z,Z,Z,λi o h=>by simp at h⟩
 |o::ops,sl,sl',A,l,vs,g,h=>by
  obtain⟨b,J,h⟩:=aS (o:=t8 all sl o.guard) h;obtain⟨⟨v,H⟩,n,h⟩:=aS h;obtain⟨k,h⟩:=aW h;obtain⟨⟨M,a,L,N⟩,I,h⟩:=aS (o:=P0 P call all ops (qp sl o.dst v) H) h;cases h;have f:bo o.op=false->H=A:=λd=>by
   cases b with
   |true=>exact tB d n (Ql (by rw[d]at k;exact k))
   |false=>cases n;rfl
  obtain⟨C,D,E,p,G⟩:=Is I;have j:∀i,eu (o::ops) (i+1)=cond (bo o.op) (eu ops i+1) (eu ops i):=λ_=>rfl
  have c:∀i:Nat,(A::cond (bo o.op) (H::a) a)[eu (o::ops) (i+1)]? =(H::a)[eu ops i]? :=λi=>by
   rw[j];cases d:bo o.op with
   |true=>rfl
   |false=>rw[<-f d];rfl
  have e:∀i:Nat,(A::cond (bo o.op) (H::a) a)[eu (o::ops) (i+1)+1]? =(H::a)[eu ops i+1]? :=λi=>by
   rw[j];cases d:bo o.op with
   |true=>rfl
   |false=>rw[<-f d];rfl
  refine⟨by simp[C],D,by rw[Qn,c];exact E,?_,λi K q=>?_⟩
  ·rw[Qn,j];cases bo o.op with
   |true=>simp[p]
   |false=>exact p
  cases i with
  |zero=>
   cases q;refine⟨b,v,A,H,Z,by cases d:bo o.op<;>rfl,J,?_,λd=>?_,f⟩
   ·cases b with
    |true=>rw[if_pos Z];exact n
    |false=>rw[if_neg F];cases n;exact⟨Z,Z⟩
   rw[d];rfl
  |succ i=>
   obtain⟨t,v',r,s,u,w,x,y,z,B⟩:=G i K (by simpa using q);exact⟨t,v',r,s,by simpa using u,by rw[c];exact w,x,y,λd=>by rw[e];exact z d,B⟩
def It{P:Program}{call:fC}{all:List Oper}{b:List AH}:∀{ops:List Oper} {s:Nat} {vs:List (Bool×Value)} {sl:Slo},P1 P call all b ops s vs sl=true->∀i o v,ops[i]? =some o->vs[i]? =some (true,v)->bo o.op=false->∀j H,b[j]? =some H->Ir (fW all []) all (s+i) j=true->∃f,jr P call (iB sl ops vs i) H o=some (v,f)/\f.nx=H.nx
 |[],_,_,_,_,i,o,v,ho,_,_,_,_,_,_=>by simp at ho
 |o::ops,s,[],sl,h,_,_,_,_,hv,_,_,_,_,_=>by simp at hv
 |o::ops,s,w::vs,sl,h,i,o',v,ho,hv,hm,j,H,hH,hj=>by
  have h:cond (cond (bo o.op) true (cond w.1 (Iq (λj H=>cond (Ir (fW all []) all s j) (Option.rec false (λr=>Od 6 r.1 w.2&&Nat.beq r.2.nx H.nx) (jr P call sl H o)) true) b 0) true)) (P1 P call all b ops (s+1) vs (qp sl o.dst w.2)) false=true:=h;cases a:cond (bo o.op) true (cond w.1 (Iq (λj H=>cond (Ir (fW all []) all s j) (Option.rec false (λr=>Od 6 r.1 w.2&&Nat.beq r.2.nx H.nx) (jr P call sl H o)) true) b 0) true)with
  |false=>rw[a]at h;cases h
  |true=>
   rw[a]at h;cases i with
   |zero=>
    cases ho;cases hv;rw[hm]at a;have a:=C8 a j H hH;rw[QT]at a;rw[RQ]at hj;rw[hj]at a;cases e:jr P call sl H o with
    |none=>rw[e]at a;cases a
    |some r=>
     rw[e]at a;obtain⟨c,d⟩:Od 6 r.1 v=true/\Nat.beq r.2.nx H.nx=true:=by rw[<-Qh];exact a
     have:r.1=v:=Io 6 c;exact⟨r.2,by rw[<-this];exact e,Ql d⟩
   |succ i=>exact It h i o' v (by simpa using ho) (by simpa using hv) hm j H hH (by rw[show s+1+i=s+(i+1) by omega];exact hj)
structure DrF (ops:List Oper) (n:Nat):Prop where
 acy:d7 ops.toArray=true
 lt:∀(i:Nat) o d,ops[i]? =some o->o.dst=some d->d<n
 ne:∀(i k:Nat) o o' d,ops[i]? =some o->ops[k]? =some o'->o.dst=some d->o'.dst=some d->i=k
 dep:∀(i:Nat) o t (k:Nat) o',ops[i]? =some o->t∈KW ops o.guard++qh o.op.operands.toList->ops[k]? =some o'->o'.dst=some t->k≠i/\(go (fW ops []) i k=true\/go (fW ops []) k i=true)
 chain:∀(i k:Nat) o o',ops[i]? =some o->ops[k]? =some o'->bo o.op=true->gc o.op=false->bo o'.op=true->k<i->go (fW ops []) i k=true
 flo:∀(i k m:Nat) o o' o'',ops[i]? =some o->ops[k]? =some o'->ops[m]? =some o''->gc o'.op=true->go (fW ops []) i k=true->bo o''.op=true->m<k->go (fW ops []) i m=true
def C9{o:Oper}{t:Nat}(h:o.dst=some t):Bm o t=true:=by
 unfold Bm;rw[h];exact Nat.beq_refl t
def EM{ops:List Oper}{n:Nat}(h:Ip ops n=true):DrF ops n:=by
 have h:(d7 ops.toArray&&lR (λi o=>Option.rec true (λd=>Nat.blt d n&&lR (λk a=>cond (Nat.blt i k) (!Bm a d) true) ops 0) o.dst
  &&pG (λt=>lR (λk a=>cond (Bm a t) (!Nat.beq k i&&(go (fW ops []) i k||go (fW ops []) k i)) true) ops 0) (o0 (KW ops o.guard) (qh o.op.operands.toList))
  &&(cond (bo o.op&& !gc o.op) (lR (λk a=>cond (bo a.op&&Nat.blt k i) (go (fW ops []) i k) true) ops 0) true
  &&lR (λk a=>cond (gc a.op&&go (fW ops []) i k) (lR (λm g=>cond (bo g.op&&Nat.blt m k) (go (fW ops []) i m) true) ops 0) true) ops 0)) ops 0)=true:=h
 rw[Qh]at h;obtain⟨z,A⟩:=h;have l:=λi o c=>k7 A i o c
 simp only[QT,Qh,iK,jH]at l;have hd:∀(i:Nat) o d,ops[i]? =some o->o.dst=some d->Nat.blt d n=true/\lR (λk a=>cond (Nat.blt i k) (!Bm a d) true) ops 0=true:=λi o d c hd=>by
  have:=(l i o c).1.1;rw[hd]at this;simpa using this
 have p:∀(i k:Nat) o a d,ops[i]? =some o->ops[k]? =some a->o.dst=some d->a.dst=some d->¬i<k:=λi k o a d c b j f u=>by
  have:=k7 (hd i o d c j).2 k a b;rw[QT,jU u,C9 f]at this;cases this
 refine⟨z,λi o d c j=>cU (hd i o d c j).1,λi k o a d c b j f=>?_,λi o t k a c B b f=>?_,λi k o a c b w s x v=>?_,λi k m o a g c b q s r w y=>?_⟩
 ·have:=p i k o a d c b j f;have:=p k i a o d b c f j;omega
 ·have:=Qt.1 (l i o c).1.2 t B;have:=k7 this k a b;rw[QT,C9 f]at this;simp only[cond_true,Qh,Re,Q5]at this;exact⟨λe=>by subst e;simp at this,this.2⟩
 ·have:=(l i o c).2.1;rw[w,s]at this;have:=k7 this k a b;rw[QT,x,jU v]at this;exact this
 have:=k7 (l i o c).2.2 k a b;rw[QT,s,r]at this;have:=k7 this m g q;rw[QT,w,jU y]at this;exact this
def Iu(sl:Slo)(d:Option Nat)(v:Value):(qp sl d v).n=sl.n:=by
 cases d with
 |none=>rfl
 |some d=>
  show(sset sl d v).n=sl.n
  unfold sset;cases Nat.blt d sl.n<;>rfl
def Da{sl:Slo}{e:Nat}(h:InR sl e)(d:Option Nat)(v:Value):InR (qp sl d v) e:=by
 cases d with
 |none=>exact h
 |some d=>exact h.sset
def Bo{sl:Slo}{t:Nat}{d:Option Nat}{v:Value}(h:d≠some t):jq (qp sl d v) t=jq sl t:=by
 cases d with
 |none=>rfl
 |some d=>
  show jq (sset sl d v) t=_
  by_cases hd:d<sl.n
  ·exact(yS sl d v t hd).1 λe=>h (by rw[e])
  have:sset sl d v=sl:=by
   unfold sset;cases a:Nat.blt d sl.n with
   |true=>exact absurd (cU a) hd
   |false=>rfl
  rw[this]
def Bp:∀(ops:List Oper) (vs:List (Bool×Value)) (sl:Slo) (i:Nat),(iB sl ops vs i).n=sl.n
 |[],_,_,_=>by unfold iB;rfl
 |_::_,[],_,_=>by unfold iB;rfl
 |_::_,_::_,_,0=>by unfold iB;rfl
 |o::ops,v::vs,sl,i+1=>by
  show(iB (qp sl o.dst v.2) ops vs i).n=_
  rw[Bp ops vs _ i,Iu]
def Db:∀(ops:List Oper) (vs:List (Bool×Value)) (sl:Slo) (i:Nat) {e:Nat},InR sl e->InR (iB sl ops vs i) e
 |[],_,_,_,_,h=>by unfold iB;exact h
 |_::_,[],_,_,_,h=>by unfold iB;exact h
 |_::_,_::_,_,0,_,h=>by unfold iB;exact h
 |o::ops,v::vs,sl,i+1,_,h=>Db ops vs _ i (Da h o.dst v.2)
def jo{t:Nat}:∀(ops:List Oper) (vs:List (Bool×Value)) (sl:Slo) (i:Nat),(∀(k:Nat) o,k<i->ops[k]? =some o->o.dst≠some t)->jq (iB sl ops vs i) t=jq sl t
 |[],_,_,_,_=>by unfold iB;rfl
 |_::_,[],_,_,_=>by unfold iB;rfl
 |_::_,_::_,_,0,_=>by unfold iB;rfl
 |o::ops,v::vs,sl,i+1,h=>by
  show jq (iB (qp sl o.dst v.2) ops vs i) t=_
  rw[jo ops vs _ i λk b c a=>h (k+1) b O (by simpa using a)];exact Bo (h 0 o O Z)
def tE{t:Nat}{b:Bool}{v:Value}:∀(ops:List Oper) (vs:List (Bool×Value)) (sl:Slo) (i k:Nat) (o:Oper),ops[k]? =some o->o.dst=some t->k<i->vs[k]? =some (b,v)->t<sl.n->InR sl t->(∀(d:Nat) a,d≠k->ops[d]? =some a->a.dst≠some t)->jq (iB sl ops vs i) t=v
 |[],_,_,_,k,o,ho,_,_,_,_,_,_=>by simp at ho
 |_::_,[],_,_,k,_,_,_,_,hv,_,_,_=>by simp at hv
 |_::_,_::_,_,0,k,_,_,_,h,_,_,_,_=>O
 |o::ops,w::vs,sl,i+1,0,a,ho,hd,_,hv,hn,hi,hu=>by
  cases ho;cases hv;show jq (iB (qp sl o.dst v) ops vs i) t=v
  rw[jo ops vs _ i λk a _ e=>hu (k+1) a O (by simpa using e),hd];exact NM hn hi
 |o::ops,w::vs,sl,i+1,k+1,a,ho,hd,hk,hv,hn,hi,hu=>by
  show jq (iB (qp sl o.dst w.2) ops vs i) t=v
  exact tE ops vs _ i k a (by simpa using ho) hd O (by simpa using hv) (by rw[Iu];exact hn) (Da hi _ _) λd f g c=>hu (d+1) f O (by simpa using c)
def Bq{all:List Oper}{sl sl':Slo}{g:Option (Nat×Bool)}(h:∀t∈KW all g,jq sl t=jq sl' t):t8 all sl g=t8 all sl' g:=by
 cases g with
 |none=>rfl
 |some p=>
  show cP (jT all p.1) _=cP (jT all p.1) _
  cases c:jT all p.1 with
  |none=>rfl
  |some o=>
   show cP o.dst _=cP o.dst _
   cases hd:o.dst with
   |none=>rfl
   |some d=>
    have a:d∈KW all (some p):=by
     show d∈(Option.rec [] (λo:Oper=>Option.rec [] (λd=>[d]) o.dst) (jT all p.1):List Nat)
     rw[c];show d∈(Option.rec [] (λd=>[d]) o.dst:List Nat)
     rw[hd];exact QP.2 Z
    show(match jq sl d with| .bool b=>some (cond b p.2 (!p.2))| .tuple _=>some false|_=>none)=(match jq sl' d with| .bool b=>some (cond b p.2 (!p.2))| .tuple _=>some false|_=>none)
    rw[h d a]
def Br{ops:List Oper}(b:d7 ops.toArray=true){i k:Nat}(h:go (fW ops []) i k=true)(l:i<ops.length):k<=i:=by
 have a:∀m,((Array.range ops.length).map λm=>decide (m<=i)).getD m false=decide (m<ops.length/\m<=i):=λm=>by
  rw[QG,Array.getElem?_map];by_cases c:m<ops.length
  ·simp[c]
  rw[R0 (by simpa using c)];simp[c]
 have f:Closed ops.toArray ((Array.range ops.length).map λm=>decide (m<=i)):=λj o n hl e g d=>by
  rw[a]at hl⊢;simp only[decide_eq_true_eq]at hl⊢;have:=Qt.1 b j (SL.2 (by simpa using hl.1));rw[n]at this;simp only[Rf,Q2,Sm,Q5,decide_eq_true_eq]at this;have:=(this e g).resolve_left (by rw[d];decide);omega
 have:=w9 f k ops [] (λi o h=>by simpa using h) (λi h=>by simp[mV]at h) i h (by rw[a];simpa using l);rw[a]at this;simp only[decide_eq_true_eq]at this;exact this.2
def Iv{ops:List Oper}{i k:Nat}{o f:Oper}(j:ops[i]? =some o)(e:ops[k]? =some f)(g:bo o.op=true)(d:bo f.op=true)(h:eu ops i=eu ops k):i=k:=by
 rcases SP i k with c|b|c
 ·have a:=kj j;rw[if_pos g]at a;have:=tD (ops:=ops) (i:=i+1) (k:=k) O;omega
 ·exact b
 have a:=kj e;rw[if_pos d]at a;have:=tD (ops:=ops) (i:=k+1) (k:=i) O;omega
def Iw{ops:List Oper}{j:Nat}:∀i,i<=ops.length->j<eu ops i->∃(k:Nat) (f:Oper),k<i/\ops[k]? =some f/\bo f.op=true/\eu ops k=j:=λm=>by
 induction m with
 |zero=>
  intro _ h;have:eu ops 0=0:=by cases ops<;>rfl
  omega
 |succ m ih=>
  intro l h;have b:ops[m]? =some (ops[m]'O):=Qj O;have c:=kj b;by_cases d:j<eu ops m
  ·obtain⟨k,e,n,g⟩:=ih O d;exact⟨k,e,O,g⟩
  cases a:bo (ops[m]'O).op with
  |false=>rw[a,if_neg F]at c;omega
  |true=>
   rw[a,if_pos Z]at c;exact⟨m,_,O,b,a,O⟩
def RelA.absorb{P:Program}{E:EE}{A:AH}{base:Nat}{w:World}(h:RelA P E A base w){cs:List Value}{arr:Array Value}{e:TypeId}{b:Nat}(l:A.nx<16384)(m:w.heap[b]? =some (.cells arr e (0,0)))(H:base<=b)(k:E.bl b=none)(J:cs.length<=arr.size)(N:VL P E (arr.toList.take cs.length) cs):
  ∃E',RelA P E' (A.grow cs A.nx []) base w/\E.Le E'/\E'.lo A.nx=some (b,0)/\E'.bl b=some arr.size/\(∀d,d≠b->E'.bl d=E.bl d)/\E'.ml=E.ml/\E'.tb b=some e:=by
 have y:E.Le ⟨λn=>if n=A.nx then some (b,0)else E.lo n,λd=>if d=b then some arr.size else E.bl d,E.ml,λd=>if d=b then some e else E.tb d⟩:=⟨λn x l=>by
   show(if n=A.nx then _ else _)=_
   rw[if_neg (λe=>by rw[h.new n O]at l;cases l)];exact l,λd s a=>by
   show(if d=b then _ else _)=_
   rw[if_neg (λe=>by subst e;rw[k]at a;cases a)];exact a,λ_ _ h=>h,λd t a=>by
   show(if d=b then _ else _)=_
   split
   ·next e1=>
    subst e1;obtain⟨R,D,g⟩:=h.typ d t a;rw[m]at g;cases g;rfl
   exact a⟩
 refine⟨_,h.grow (b:=b) (o:=0) (s:=arr.size) l y (if_pos Z) (λn K=>if_neg K) (if_pos Z) O (λd s a=>?_) (Qi _) (λi v B=>?_) (λ_ _ _ _ _ _ _ _ _=>rfl) (λn r S L z=>?_) (.inl ⟨Z,Z⟩) Z (λ_ _ _ h=>h) (λd t a=>?_) (λt M=>by cases M),y,if_pos Z,if_pos Z,λd a=>if_neg a,Z,if_pos Z⟩
 ·have a:(if d=b then some arr.size else E.bl d)=some s:=a;split at a
  ·next e1=>
   cases a;subst e1;exact⟨H,arr,e,_,m,Z,λ_=>.inl Z⟩
  next hne=>
  obtain⟨f,c,C,p,q,F,G⟩:=h.blk d s a;exact⟨f,c,C,p,q,F,λI=>G (I.resolve_right hne)⟩
 ·obtain⟨u,f,q⟩:=N.get i v B;refine⟨u,?_,q.mono y⟩;rw[cell_of_row w b (0+i) arr e _ m];rw[QQ]at f;split at f
  ·simpa using f
  cases f
 ·obtain⟨Q,T,g,_,j,_⟩:=h.row n r L;rw[z]at g;cases g;rcases j with j|⟨s,j,_⟩
  ·omega
  rw[k]at j;cases j
 have a:(if d=b then some e else E.tb d)=some t:=a;split at a
 ·next e1=>
  cases a;subst e1;exact⟨_,_,m⟩
 exact h.typ d t a
def Bs{ops:List Oper}{L:Array Bool}(a:Closed ops.toArray L){i k:Nat}(h:go (fW ops []) i k=true)(hl:L.getD i false=true):L.getD k false=true:=w9 a k ops [] (λi o h=>by simpa using h) (λi h=>by simp[mV]at h) i h hl
