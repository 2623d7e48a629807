import Derived.Test.YtmhcanmapkenbaaGreatDoorA15
set_option linter.defProp false
open Go.Proofs.Tryz
namespace Go.Proofs.YtmhcanmapkenbaaGreatDoor
section
variable {α β:Type} {W:List Tok->Prop}
def oz{d i:List Tok->Option (α×List Tok)}{k m:PS->α×PS}{c:PS->Bool}{C:List Tok->Bool}(p:∀s,W s.l->s.bad=false->c s=C (s.l.drop s.a))(n:Fol W d k)(o:Fol W i m):Fol W (λl=>if C l=true then d l else i l) (λs=>if c s=true then k s else m s):=λs b=>by
 cases j:s.bad with
 |true=>
  have e:∀(f:PS->α×PS) (g:List Tok->Option (α×List Tok)),Fol W g f->(f s).2.l=s.l/\(true=true->(f s).2.bad=true)/\(true=false->FolAt (if C (s.l.drop s.a)=true then d (s.l.drop s.a)else i (s.l.drop s.a)) s (f s)):=λf g h=>⟨(h s b).1,λ_=>(h s b).2.1 j,λe=>by cases e⟩
  dsimp only;split
  ·exact e k d n
  exact e m i o
 |false=>
  dsimp only;rw[p s b j];split
  ·refine⟨(n s b).1,λe=>(by cases e),λ_=>(n s b).2.2 j⟩
  refine⟨(o s b).1,λe=>(by cases e),λ_=>(o s b).2.2 j⟩
def hd(l:List Tok):Tok:=l.headD dN
def vP{s:PS}(b:s.bad=false):s.nxt=hd (s.l.drop s.a):=by
 cases hl:s.l.drop s.a with
 |nil=>exact nj hl
 |cons t r=>exact(il b hl).1
def Fol.look{d e:List Tok->Option (α×List Tok)}{a b:PS->α×PS}(c:Tok->Bool)(f:Fol W d a)(g:Fol W e b):Fol W (λl=>if c (hd l)=true then d l else e l) (λs=>if c s.nxt=true then a s else b s):=oz (c:=λs=>c s.nxt) (λs _ h=>by rw[vP h]) f g
def aa(c:Tok->Bool)(s:PS):Bool×PS:=if c s.nxt=true then(true,s.adv)else(false,s)
def kH{c:Tok->Bool}(a:c dN=false):Fol W (j3 c) (aa c):=JB (λ_ _=>rfl) a
def ak(c:Tok->Bool)(s:PS):Unit×PS:=((),if c s.nxt=true then s.adv else s.fail)
def fP(c:Tok->Bool):List Tok->Option (Unit×List Tok):=vO λt=>if c t=true then some ()else none
def j4{c:Tok->Bool}(a:c dN=false):Fol W (fP c) (ak c):=by
 refine kG (λs v h=>?_) (λs h=>?_) (by rw[a];rfl)
 ·unfold ak;split at h
  ·next hc=>rw[if_pos hc]
  cases h
 unfold ak;split at h
 ·cases h
 next hc=>rw[if_neg hc];exact⟨Z,Z⟩
def dV{d e:List Tok->Option (α×List Tok)}{a c:PS->α×PS}(f:Fol W d a)(g:Fol W e c)(b:Bool):Fol W (λl=>if b=true then d l else e l) (λs=>if b=true then a s else c s):=by
 cases b
 ·exact g
 exact f
def Fol.congrW{g:List Tok->Option (α×List Tok)}{f a:PS->α×PS}(h:Fol W g f)(c:∀s,W s.l->a s=f s):Fol W g a:=λs b=>by
 rw[c s b];exact h s b
def Fol.congrG{g b:List Tok->Option (α×List Tok)}{f:PS->α×PS}(h:Fol W g f)(d:∀s:PS,W s.l->b (s.l.drop s.a)=g (s.l.drop s.a)):Fol W b f:=λs c=>by
 rw[d s c];exact h s c
def cD(c:Tok->Bool)(f:β->PS->β×PS):Nat->β->PS->β×PS
 |0,b,s=>(b,s)
 |n+1,b,s=>if c s.nxt=true then cD c f n (f b s.adv).1 (f b s.adv).2 else(b,s)
def im(c:Tok->Bool)(g:β->List Tok->Option (β×List Tok)):Nat->β->List Tok->Option (β×List Tok)
 |0,b,r=>some (b,r)
 |n+1,b,r=>(j3 c r).bind λp=>if p.1=true then(g b p.2).bind λq=>im c g n q.1 q.2 else some (b,p.2)
def lC{c:Tok->Bool}(a:c dN=false){g:β->List Tok->Option (β×List Tok)}{f:β->PS->β×PS}(h:∀b,Fol W (g b) (f b)):∀(n:Nat) (b:β),Fol W (im c g n b) (cD c f n b)
 |0,b=>Fol.pure b
 |n+1,b=>by
  refine(Fol.bind (kH a) λm=>dV (Fol.bind (h b) λv=>lC a h n v) (Fol.pure b) m).congr (λr=>rfl) (λs=>?_);show cD c f (n+1) b s=_
  unfold aa;rw[cD];split<;>rfl
def Ae{g:List Tok->Option (α×List Tok)}{f:PS->α×PS}(h:Fol W g f)(b:α):Fol W g (λs=>if s.bad=true then(b,s)else f s):=λs c=>by
 dsimp only;cases a:s.bad with
 |true=>rw[if_pos Z];exact⟨Z,λ_=>a,λe=>by cases e⟩
 |false=>
  rw[if_neg F];exact⟨(h s c).1,λe=>(by cases e),λ_=>(h s c).2.2 a⟩
end
structure Trm where
 v:ByteArray
 c:V
structure Atm where
 r:ByteArray
 ng:Bool
 ts:List Trm
structure Cpr where
 op:Nat
 l:Trm
 r:Trm
structure Cq where
 al:List Atm
 cl:List Cpr
def b9:ByteArray:=⟨#[]⟩
def au:ByteArray:=⟨#[110,111,116]⟩
def bW:ByteArray:=⟨#[116,114,117,101]⟩
def cg:ByteArray:=⟨#[102,97,108,115,101]⟩
def gp:ByteArray:=⟨#[111,114]⟩
def yL:ByteArray:=⟨#[40]⟩
def yR:ByteArray:=⟨#[41]⟩
def yC:ByteArray:=⟨#[44]⟩
def yD:ByteArray:=⟨#[58]⟩
def yE:ByteArray:=⟨#[61]⟩
def yN:ByteArray:=⟨#[33,61]⟩
def qm:ByteArray:=⟨#[60]⟩
def B3:ByteArray:=⟨#[60,61]⟩
def a7(x:ByteArray)(t:Tok):Bool:=decide (t.k=1)&&decide (t.x=x)
def aT(x:ByteArray)(t:Tok):Bool:=decide (t.k=4)&&decide (t.x=x)
def FJ:List ByteArray:=[⟨#[114,101,108,97,116,105,111,110]⟩,⟨#[99,101,114,116,97,105,110]⟩,⟨#[116,117,112,108,101]⟩,⟨#[107,101,121]⟩,⟨#[114,117,108,101]⟩,⟨#[105,109,112,108,105,101,115]⟩,⟨#[111,114]⟩,⟨#[99,111,117,110,116]⟩,⟨#[116,111]⟩,⟨#[111,102]⟩,⟨#[102,97,99,116,111,114]⟩,⟨#[102,111,114]⟩,⟨#[111,98,115,101,114,118,101]⟩,⟨#[100,101,110,121]⟩,⟨#[97,115,107]⟩,⟨#[112,114,111,98,97,98,105,108,105,116,121]⟩,⟨#[115,117,109]⟩,⟨#[116,104,114,101,115,104,111,108,100]⟩,⟨#[116,111,112]⟩,⟨#[116,114,117,101]⟩,⟨#[102,97,108,115,101]⟩,⟨#[110,111,116]⟩,⟨#[105,110,116]⟩,⟨#[115,116,114,105,110,103]⟩]
def io(x:ByteArray):Bool:=FJ.any λy=>decide (x=y)
def ip:List Tok->Option (ByteArray×List Tok):=vO λt=>if t.k=1/\io t.x=false then some t.x else none
noncomputable def nk:List Tok->Option (V×List Tok):=vO λt=>if t.k=2\/t.k=3 then cM t.x else none
noncomputable def gu (l:List Tok):Option (Trm×List Tok):=if decide ((hd l).k=1)=true then(ip l).bind λp=>some (⟨p.1,V.zero⟩,p.2)else(nk l).bind λp=>some (⟨b9,p.1⟩,p.2)
noncomputable def ja (N:Nat) (l:List Tok):Option (List Trm×List Tok):=(fP (aT yL) l).bind λp=>(j3 (aT yR) p.2).bind λq=>if q.1=true then some ([],q.2)else(gu q.2).bind λt=>(im (aT yC) (λl r=>(gu r).bind λx=>some (l++[x.1],x.2)) N [t.1] t.2).bind λm=>(fP (aT yR) m.2).bind λu=>some (m.1,u.2)
def xS(x:ByteArray):Option Nat:=if x=yE then some 1 else if x=yN then some 2 else if x=qm then some 3 else if x=B3 then some 4 else none
def Lu:List Tok->Option (Nat×List Tok):=vO λt=>if t.k=4 then xS t.x else none
def pR:List Tok->Bool
 |_::t::_=>aT yL t
 |_=>false
noncomputable def jb (N:Nat) (c:Cq) (l:List Tok):Option (Cq×List Tok):=(j3 (a7 au) l).bind λn=>if(n.1||(pR n.2&&decide ((hd n.2).k=1)))=true then(ip n.2).bind λa=>(ja N a.2).bind λt=>some (⟨c.al++[⟨a.1,n.1,t.1⟩],c.cl⟩,t.2)else(gu n.2).bind λx=>(Lu x.2).bind λo=>(gu o.2).bind λy=>some (⟨c.al,c.cl++[⟨o.1,x.1,y.1⟩]⟩,y.2)
noncomputable def JC (N:Nat) (l:List Tok):Option (Cq×List Tok):=(j3 (a7 bW) l).bind λb=>if b.1=true then some (⟨[],[]⟩,b.2)else(jb N ⟨[],[]⟩ b.2).bind λx=>im (aT yC) (jb N) N x.1 x.2
noncomputable def pv (N:Nat) (l:List Tok):Option (List Cq×List Tok):=(JC N l).bind λc=>im (a7 gp) (λl r=>(JC N r).bind λx=>some (l++[x.1],x.2)) N [c.1] c.2
noncomputable def jO (N:Nat) (l:List Tok):Option (List Cq×List Tok):=(j3 (a7 cg) l).bind λb=>if b.1=true then some ([],b.2)else pv N b.2
def ga(N:Nat)(l:List Tok):Option (List ByteArray×List Tok):=(ip l).bind λt=>im (aT yC) (λl r=>(ip r).bind λx=>some (l++[x.1],x.2)) N [t.1] t.2
def bI(s:PS):ByteArray×PS:=if s.nxt.k≠1\/io s.nxt.x=true then(b9,s.fail)else(s.nxt.x,s.adv)
noncomputable def dY (s:PS):V×PS:=if s.nxt.k≠2/\s.nxt.k≠3 then(V.zero,s.fail)else match cM s.nxt.x with
 |some v=>(v,s.adv)
 |none=>(V.zero,s.fail)
noncomputable def aK (s:PS):Trm×PS:=if decide (s.nxt.k=1)=true then(⟨(bI s).1,V.zero⟩,(bI s).2)else(⟨b9,(dY s).1⟩,(dY s).2)
noncomputable def dj (N:Nat) (s:PS):List Trm×PS:=
 let b:=aa (aT yR) (ak (aT yL) s).2
 if b.1=true then([],b.2)else
  let m:=cD (aT yC) (λl s=>(l++[(aK s).1],(aK s).2)) N [(aK b.2).1] (aK b.2).2
  (m.1,(ak (aT yR) m.2).2)
def gH(s:PS):Nat×PS:=if aT yE s.nxt=true then(1,s.adv)else if aT yN s.nxt=true then(2,s.adv)else if aT qm s.nxt=true then(3,s.adv)else if aT B3 s.nxt=true then(4,s.adv)else(0,s.fail)
def PS.call(s:PS):Bool:=match s.l[s.a+1]? with
 |some t=>aT yL t
 |none=>false
noncomputable def dE (N:Nat) (c:Cq) (s:PS):Cq×PS:=
 let n:=aa (a7 au) s
 if(n.1||(n.2.call&&decide (n.2.nxt.k=1)))=true then
  let a:=bI n.2
  let t:=dj N a.2
  (⟨c.al++[⟨a.1,n.1,t.1⟩],c.cl⟩,t.2)
 else
  let x:=aK n.2
  let o:=gH x.2
  let y:=aK o.2
  (⟨c.al,c.cl++[⟨o.1,x.1,y.1⟩]⟩,y.2)
noncomputable def lk (N:Nat) (s:PS):Cq×PS:=
 let b:=aa (a7 bW) s
 if b.1=true then(⟨[],[]⟩,b.2)else cD (aT yC) (dE N) N (dE N ⟨[],[]⟩ b.2).1 (dE N ⟨[],[]⟩ b.2).2
noncomputable def jP (N:Nat) (s:PS):List Cq×PS:=cD (a7 gp) (λl s=>(l++[(lk N s).1],(lk N s).2)) N [(lk N s).1] (lk N s).2
noncomputable def co (N:Nat) (s:PS):List Cq×PS:=
 let b:=aa (a7 cg) s
 if b.1=true then([],b.2)else jP N b.2
def e8(N:Nat)(s:PS):List ByteArray×PS:=cD (aT yC) (λl s=>(l++[(bI s).1],(bI s).2)) N [(bI s).1] (bI s).2
section
variable {W:List Tok->Prop}
def mh:Fol W ip bI:=kG (λs v h=>by
  split at h
  ·next h1=>
   injection h with h
   unfold bI;rw[if_neg (by rw[h1.2];simp[h1.1]),h]
  ·cases h) (λs h=>by
  split at h
  ·cases h
  next h1=>
  unfold bI;rw[if_pos (by
   by_cases a:s.nxt.k=1
   ·right;cases b:io s.nxt.x with
    |true=>rfl
    |false=>exact absurd ⟨a,b⟩ h1
   exact .inl a)]
  exact⟨Z,Z⟩) Z
def Af:Fol W nk dY:=kG (λs v h=>by
  split at h
  ·next h1=>unfold dY;rw[if_neg O,h]
  ·cases h) (λs h=>by
  unfold dY;split at h
  ·next h1=>rw[if_neg O,h];exact⟨Z,Z⟩
  next h1=>rw[if_pos O];exact⟨Z,Z⟩) Z
def mi:Fol W gu aK:=Fol.look (λt=>decide (t.k=1)) (Fol.bind mh λv=>Fol.pure (⟨v,V.zero⟩:Trm)) (Fol.bind Af λv=>Fol.pure (⟨b9,v⟩:Trm))
def Ag(N:Nat):Fol W (ja N) (dj N):=Fol.bind (j4 Z) λ_=>Fol.bind (kH Z) λb=>dV (Fol.pure []) (Fol.bind mi λt=>Fol.bind (lC Z (λl=>Fol.bind mi λv=>Fol.pure (l++[v])) N [t]) λm=>Fol.bind (j4 Z) λ_=>Fol.pure m) b
def JD:Fol W Lu gH:=kG (λs v h=>by
  split at h
  ·next h1=>
   unfold gH aT xS at*;simp only[h1,decide_true,Ri,decide_eq_true_eq];repeat (split at h; · next h2=>injection h with h;simp[h2,h,yE,yN,qm,B3])
   cases h
  ·cases h) (λs h=>by
  unfold gH aT;split at h
  ·next h1=>
   unfold xS at h;simp only[h1,decide_true,Ri,decide_eq_true_eq];split at h
   ·cases h
   split at h
   ·cases h
   split at h
   ·cases h
   split at h
   ·cases h
   next h2 h3 h4 h5=>
   rw[if_neg h2,if_neg h3,if_neg h4,if_neg h5];exact⟨Z,Z⟩
  next h1=>simp only[h1,decide_false,Bool.false_and,RM,if_false];exact⟨Z,Z⟩) Z
def MA(s:PS):s.call=pR (s.l.drop s.a):=by
 unfold PS.call;have:s.l[s.a+1]? =(s.l.drop s.a)[1]? :=by rw[Q9]
 rw[this]
 match s.l.drop s.a with
 |[]=>rfl
 |[_]=>rfl
 |_::t::_=>rfl
def uu(N:Nat)(c:Cq):Fol W (jb N c) (dE N c):=Fol.bind (kH Z) λn=>oz (c:=λs=>n||(s.call&&decide (s.nxt.k=1))) (C:=λl=>n||(pR l&&decide ((hd l).k=1))) (λs _ b=>by rw[MA,vP b]) (Fol.bind mh λa=>Fol.bind (Ag N) λt=>Fol.pure (⟨c.al++[⟨a,n,t⟩],c.cl⟩:Cq)) (Fol.bind mi λx=>Fol.bind JD λo=>Fol.bind mi λy=>Fol.pure (⟨c.al,c.cl++[⟨o,x,y⟩]⟩:Cq))
def B4(N:Nat):Fol W (JC N) (lk N):=Fol.bind (kH Z) λb=>dV (Fol.pure (⟨[],[]⟩:Cq)) (Fol.bind (uu N ⟨[],[]⟩) λx=>lC Z (uu N) N x) b
def Ah(N:Nat):Fol W (pv N) (jP N):=Fol.bind (B4 N) λc=>lC Z (λl=>Fol.bind (B4 N) λv=>Fol.pure (l++[v])) N [c]
def nl(N:Nat):Fol W (jO N) (co N):=Fol.bind (kH Z) λb=>dV (Fol.pure ([]:List Cq)) (Ah N) b
def Ai(N:Nat):Fol W (ga N) (e8 N):=Fol.bind mh λt=>lC Z (λl=>Fol.bind mh λv=>Fol.pure (l++[v])) N [t]
end
def cO(c:UInt8):Bool:=(decide (97<=c.toNat)&&decide (c.toNat<=122))||(decide (65<=c.toNat)&&decide (c.toNat<=90))
def FK(x:ByteArray):Bool:=match x.data.toList with
 |c::_=>cO c
 |[]=>false
structure WfT (t:Tok):Prop where
 w:t.k=1->FK t.x=true
 s:t.k=4->FK t.x=false
 k:t.k=1\/t.k=2\/t.k=3\/t.k=4
 n:t.k=2->∀v,cM t.x=some v->v=⟨1,v.n,b9⟩
def r8(l:List Tok):Prop:=∀t∈l,WfT t
def aI(x:ByteArray)(t:Tok):Bool:=decide (t.k≠3)&&decide (t.k≠2)&&decide (t.x=x)
def vQ(s:PS):s.nxt=dN\/s.nxt∈s.l:=by
 unfold PS.nxt;split
 ·exact .inl Z
 next h=>
 have b:s.a<s.l.length:=Nat.lt_of_not_le λc=>h (.inr c)
 right;rw[Qp,Qj b];exact Rx b
def B5{x:ByteArray}(b:FK x=true)(s:PS)(d:r8 s.l):aI x s.nxt=a7 x s.nxt:=by
 unfold aI a7;rcases vQ s with h|h
 ·rw[h];have:(dN.x=x)=False:=eq_false λe=>by rw[<-e]at b;cases b
  simp[this]
 have c:=d _ h;rcases c.k with a|a|a|a
 ·simp[a]
 ·simp[a]
 ·simp[a]
 have:(s.nxt.x=x)=False:=eq_false λe=>by rw[<-e,c.s a]at b;cases b
 simp[this]
def B6{x:ByteArray}(d:FK x=false)(b:x≠b9)(s:PS)(f:r8 s.l):aI x s.nxt=aT x s.nxt:=by
 unfold aI aT;rcases vQ s with h|h
 ·rw[h];have:(dN.x=x)=False:=eq_false λe=>b e.symm
  simp[this]
 have c:=f _ h;rcases c.k with a|a|a|a
 ·have:(s.nxt.x=x)=False:=eq_false λe=>by rw[<-e,c.w a]at d;cases d
  simp[this]
 ·simp[a]
 ·simp[a]
 simp[a]
section
variable {α β:Type} {W:List Tok->Prop}
def lD{c a:Tok->Bool}(h:∀s:PS,W s.l->a s.nxt=c s.nxt)(b:c dN=false):Fol W (j3 c) (aa a):=(kH b).congrW λs d=>by
 unfold aa;rw[h s d]
def j5{c a:Tok->Bool}(h:∀s:PS,W s.l->a s.nxt=c s.nxt)(b:c dN=false):Fol W (fP c) (ak a):=(j4 b).congrW λs d=>by
 unfold ak;rw[h s d]
def j6{c a:Tok->Bool}(e:∀s:PS,W s.l->a s.nxt=c s.nxt)(d:c dN=false){g:β->List Tok->Option (β×List Tok)}{f:β->PS->β×PS}(h:∀b,Fol W (g b) (f b)):∀(n:Nat) (b:β),Fol W (im c g n b) (cD a f n b)
 |0,b=>Fol.pure b
 |n+1,b=>by
  refine(Fol.bind (lD e d) λm=>dV (Fol.bind (h b) λv=>j6 e d h n v) (Fol.pure b) m).congr (λr=>rfl) (λs=>?_);show cD a f (n+1) b s=_
  unfold aa;rw[cD];split<;>rfl
end
def bp(k:Nat)(s:PS):ByteArray×PS:=if s.nxt.k≠k then(b9,s.fail)else(s.nxt.x,s.adv)
def bC(s:PS):ByteArray×PS:=if io (bp 1 s).1=true then((bp 1 s).1,(bp 1 s).2.fail)else bp 1 s
noncomputable def kI (s:PS):Int×PS:=match cM (bp 2 s).1 with
 |some v=>(v.n,(bp 2 s).2)
 |none=>(0,(bp 2 s).2.fail)
noncomputable def eD (s:PS):V×PS:=if decide (s.nxt.k=3)=true then(match cM (bp 3 s).1 with
 |some v=>(v,(bp 3 s).2)
 |none=>(V.zero,(bp 3 s).2.fail))else(⟨1,(kI s).1,b9⟩,(kI s).2)
noncomputable def ax (s:PS):Trm×PS:=if decide (s.nxt.k=1)=true then(⟨(bC s).1,V.zero⟩,(bC s).2)else(⟨b9,(eD s).1⟩,(eD s).2)
noncomputable def bE (N:Nat) (s:PS):List Trm×PS:=
 let b:=aa (aI yR) (ak (aI yL) s).2
 if b.1=true then([],b.2)else
  let m:=cD (aI yC) (λl s=>(l++[(ax s).1],(ax s).2)) N [(ax b.2).1] (ax b.2).2
  (m.1,(ak (aI yR) m.2).2)
def fG(s:PS):Nat×PS:=match xS (bp 4 s).1 with
 |some n=>(n,(bp 4 s).2)
 |none=>(0,(bp 4 s).2.fail)
noncomputable def gh (N:Nat) (c:Cq) (s:PS):Cq×PS:=
 let n:=aa (aI au) s
 if n.1=true then
  let a:=bC n.2
  let t:=bE N a.2
  (⟨c.al++[⟨a.1,true,t.1⟩],c.cl⟩,t.2)
 else
  let x:=ax n.2
  if(decide (x.1.v≠b9)&&aI yL x.2.nxt)=true then
   let t:=bE N x.2
   (⟨c.al++[⟨x.1.v,false,t.1⟩],c.cl⟩,t.2)
  else
   let o:=fG x.2
   let y:=ax o.2
   (⟨c.al,c.cl++[⟨o.1,x.1,y.1⟩]⟩,y.2)
noncomputable def k9 (N:Nat) (s:PS):Cq×PS:=
 let b:=aa (aI bW) s
 if b.1=true then(⟨[],[]⟩,b.2)else if b.2.bad=true then(⟨[],[]⟩,b.2)else cD (aI yC) (gh N) N (gh N ⟨[],[]⟩ b.2).1 (gh N ⟨[],[]⟩ b.2).2
noncomputable def jQ (N:Nat) (s:PS):List Cq×PS:=cD (aI gp) (λl s=>(l++[(k9 N s).1],(k9 N s).2)) N [(k9 N s).1] (k9 N s).2
noncomputable def dt (N:Nat) (s:PS):List Cq×PS:=
 let b:=aa (aI cg) s
 if b.1=true then([],b.2)else jQ N b.2
def r9(N:Nat)(s:PS):List ByteArray×PS:=cD (aI yC) (λl s=>(l++[(bC s).1],(bC s).2)) N [(bC s).1] (bC s).2
def FL:io b9=false:=I
def Aj:cM b9=none:=by
 cases h:cM b9 with
 |none=>rfl
 |some v=>
  have b:=eJ h;have a:v.fmt=[]:=b.2.2.symm;have c:bz v.t v.n v.s=true:=b.1;unfold V.fmt cH at a;rw[if_pos c]at a;split at a
  ·unfold Lib.itoa at a;split at a
   ·cases a
   have:=congrArg List.length a;rw[Lib.decDigits_length]at this;have d:=Lib.nDigits_pos v.n.toNat;simp at this;omega
  simp at a
section
variable {W:List Tok->Prop}
def mj:Fol W ip bC:=kG (λs v h=>by
  split at h
  ·next h1=>
   injection h with h
   unfold bC bp;rw[if_neg (by simp[h1.1,h1.2]),if_neg (by simp[h1.1]),h]
  ·cases h) (λs h=>by
  split at h
  ·cases h
  next h1=>
  unfold bC;by_cases a:s.nxt.k=1
  ·have e:bp 1 s=(s.nxt.x,s.adv):=if_neg (by simp[a]);rw[e,if_pos (by
    cases b:io s.nxt.x with
    |true=>rfl
    |false=>exact absurd ⟨a,b⟩ h1)]
   exact⟨Z,Z⟩
  have e:bp 1 s=(b9,s.fail):=if_pos a;rw[e,if_neg (by rw[FL];simp)];exact⟨Z,Z⟩) Z
def Ak:Fol r8 nk eD:=by
 have c:∀s:PS,r8 s.l->eD s=if s.nxt.k=3 then(match cM s.nxt.x with|some v=>(v,s.adv)|none=>(V.zero,s.adv.fail))else if s.nxt.k=2 then(match cM s.nxt.x with|some v=>(v,s.adv)|none=>(⟨1,0,b9⟩,s.adv.fail))else(⟨1,0,b9⟩,s.fail.fail):=λs e=>by
  unfold eD kI bp;by_cases a:s.nxt.k=3
  ·simp[a]
  rw[if_neg (by simpa using a),if_neg a];by_cases b:s.nxt.k=2
  ·rw[if_pos b,if_neg (by simpa using b)];dsimp only;cases d:cM s.nxt.x with
   |none=>rfl
   |some v=>
    rcases vQ s with h|h
    ·rw[h]at b;cases b
    have:=(e _ h).n b v d;dsimp only;rw[<-this]
  rw[if_pos b,if_neg b];dsimp only;rw[Aj]
 refine Fol.congrW (f:=λs=>if s.nxt.k=3 then(match cM s.nxt.x with|some v=>(v,s.adv)|none=>(V.zero,s.adv.fail))else if s.nxt.k=2 then(match cM s.nxt.x with|some v=>(v,s.adv)|none=>(⟨1,0,b9⟩,s.adv.fail))else(⟨1,0,b9⟩,s.fail.fail)) ?_ c;refine kG (λs v h=>?_) (λs h=>?_) Z
 ·split at h
  ·next c=>
   rw[h];by_cases a:s.nxt.k=3
   ·rw[if_pos a]
   rw[if_neg a,if_pos O]
  cases h
 split at h
 ·next c=>
  rw[h];by_cases a:s.nxt.k=3
  ·rw[if_pos a];exact⟨Z,Z⟩
  rw[if_neg a,if_pos O];exact⟨Z,Z⟩
 next c=>rw[if_neg O,if_neg O];exact⟨Z,Z⟩
def mm:Fol r8 gu ax:=Fol.look (λt=>decide (t.k=1)) (Fol.bind mj λv=>Fol.pure (⟨v,V.zero⟩:Trm)) (Fol.bind Ak λv=>Fol.pure (⟨b9,v⟩:Trm))
def Px:∀s:PS,r8 s.l->aI yL s.nxt=aT yL s.nxt:=B6 I I
def PL:∀s:PS,r8 s.l->aI yR s.nxt=aT yR s.nxt:=B6 I I
def PM:∀s:PS,r8 s.l->aI yC s.nxt=aT yC s.nxt:=B6 I I
def sd(N:Nat):Fol r8 (ja N) (bE N):=Fol.bind (j5 Px Z) λ_=>Fol.bind (lD PL Z) λb=>dV (Fol.pure []) (Fol.bind mm λt=>Fol.bind (j6 PM Z (λl=>Fol.bind mm λv=>Fol.pure (l++[v])) N [t]) λm=>Fol.bind (j5 PL Z) λ_=>Fol.pure m) b
def FM:xS b9=none:=I
def JE:Fol W Lu fG:=kG (λs v h=>by
  split at h
  ·next h1=>unfold fG bp;rw[if_neg (by simp[h1])];dsimp only;rw[h]
  ·cases h) (λs h=>by
  unfold fG bp;split at h
  ·next h1=>rw[if_neg (by simp[h1])];dsimp only;rw[h];exact⟨Z,Z⟩
  next h1=>rw[if_pos h1];dsimp only;rw[FM];exact⟨Z,Z⟩) Z
noncomputable def Al (N:Nat) (c:Cq) (l:List Tok):Option (Cq×List Tok):=(j3 (a7 au) l).bind λn=>if n.1=true then(ip n.2).bind λa=>(ja N a.2).bind λt=>some (⟨c.al++[⟨a.1,true,t.1⟩],c.cl⟩,t.2)else(gu n.2).bind λx=>if(decide (x.1.v≠b9)&&aT yL (hd x.2))=true then(ja N x.2).bind λt=>some (⟨c.al++[⟨x.1.v,false,t.1⟩],c.cl⟩,t.2)else(Lu x.2).bind λo=>(gu o.2).bind λy=>some (⟨c.al,c.cl++[⟨o.1,x.1,y.1⟩]⟩,y.2)
def Ao(N:Nat)(c:Cq):Fol r8 (Al N c) (gh N c):=Fol.bind (lD (B5 (x:=au) I) Z) λn=>dV (Fol.bind mj λa=>Fol.bind (sd N) λt=>Fol.pure (Cq.mk (c.al++[Atm.mk a true t]) c.cl)) (Fol.bind mm λx=>oz (c:=λs=>decide (x.v≠b9)&&aI yL s.nxt) (C:=λl=>decide (x.v≠b9)&&aT yL (hd l)) (λs d b=>by rw[Px s d,vP b]) (Fol.bind (sd N) λt=>Fol.pure (Cq.mk (c.al++[Atm.mk x.v false t]) c.cl)) (Fol.bind JE λo=>Fol.bind mm λy=>Fol.pure (Cq.mk c.al (c.cl++[Cpr.mk o x y])))) n
def FN(N:Nat)(c:Cq)(l:List Tok)(j:r8 l):Al N c l=jb N c l:=by
 unfold Al jb;cases l with
 |nil=>rfl
 |cons t r=>
  have i:=j t (Qs ..);cases f:a7 au t with
  |true=>simp only[j3,f,if_true,QY,Bool.true_or]
  |false=>
   simp only[j3,f,RM,if_false,QY,Tg];have h:pR (t::r)=aT yL (hd r):=by cases r<;>rfl
   rw[h];by_cases a:t.k=1
   ·have m:t.x≠b9:=λe=>by
     have:=i.w a;rw[e]at this;cases this
    have b:gu (t::r)=(ip (t::r)).bind λp=>some (⟨p.1,V.zero⟩,p.2):=if_pos (decide_eq_true a)
    rw[b];show _=if(aT yL (hd r)&&decide (t.k=1))=true then _ else _
    rw[decide_eq_true a,Bool.and_true];cases g:io t.x with
    |true=>
     have d:ip (t::r)=none:=by simp[ip,vO,g]
     rw[d];simp
    |false=>
     have d:ip (t::r)=some (t.x,r):=by simp[ip,vO,g,a]
     rw[d];simp only[QY,m,ne_eq,not_false_eq_true,decide_true,Ri]
   have b:gu (t::r)=(nk (t::r)).bind λp=>some (⟨b9,p.1⟩,p.2):=if_neg (by simpa[hd]using a)
   show _=if(aT yL (hd r)&&decide (t.k=1))=true then _ else _
   rw[decide_eq_false a,R8,b];cases nk (t::r)with
   |none=>rfl
   |some p=>simp
def JF{l:List Tok}(h:r8 l)(n:Nat):r8 (l.drop n):=λt a=>h t (TF a)
def uv(N:Nat)(c:Cq):Fol r8 (jb N c) (gh N c):=(Ao N c).congrG λs a=>(FN N c _ (JF a _)).symm
def B7(N:Nat):Fol r8 (JC N) (k9 N):=Fol.bind (lD (B5 (x:=bW) I) Z) λb=>dV (Fol.pure (⟨[],[]⟩:Cq)) (Ae (Fol.bind (uv N ⟨[],[]⟩) λx=>j6 PM Z (uv N) N x) ⟨[],[]⟩) b
def Ap(N:Nat):Fol r8 (pv N) (jQ N):=Fol.bind (B7 N) λc=>j6 (B5 (x:=gp) I) Z (λl=>Fol.bind (B7 N) λv=>Fol.pure (l++[v])) N [c]
def se(N:Nat):Fol r8 (jO N) (dt N):=Fol.bind (lD (B5 (x:=cg) I) Z) λb=>dV (Fol.pure ([]:List Cq)) (Ap N) b
def Aq(N:Nat):Fol r8 (ga N) (r9 N):=Fol.bind mj λt=>j6 PM Z (λl=>Fol.bind mj λv=>Fol.pure (l++[v])) N [t]
end
structure Stm where
 word:ByteArray
 name:ByteArray
 num:ByteArray
 has:Bool
 sch:Sch
 vals:List V
 cols:List ByteArray
 kind:Nat
 body:Cq
 heads:List Cq
 mn:Int
 mx:Int
 neg:Bool
 ds:List Cq
 rname:ByteArray
 rkind:Nat
 grp:Int
 kk:Int
 head:List ByteArray
 rds:List Cq
section
variable {α β:Type} {W:List Tok->Prop}
def gB(g:List Tok->Option (α×List Tok))(h:α->List Tok->Option (β×List Tok))(l:List Tok):Option (β×List Tok):=(g l).bind λp=>h p.1 p.2
def fB(f:PS->α×PS)(h:α->PS->β×PS)(s:PS):β×PS:=h (f s).1 (f s).2
def gR(v:α)(l:List Tok):Option (α×List Tok):=some (v,l)
def fR(v:α)(s:PS):α×PS:=(v,s)
def gI(b:Bool)(g1 g2:List Tok->Option (α×List Tok))(l:List Tok):Option (α×List Tok):=if b=true then g1 l else g2 l
def fI(b:Bool)(f1 f2:PS->α×PS)(s:PS):α×PS:=if b=true then f1 s else f2 s
def Fol.b{g:List Tok->Option (α×List Tok)}{f:PS->α×PS}{c:α->List Tok->Option (β×List Tok)}{a:α->PS->β×PS}(h:Fol W g f)(d:∀v,Fol W (c v) (a v)):Fol W (gB g c) (fB f a):=Fol.bind h d
def Fol.r(v:α):Fol W (gR v) (fR v):=Fol.pure v
def Fol.i{d e:List Tok->Option (α×List Tok)}{a c:PS->α×PS}(b:Bool)(f:Fol W d a)(g:Fol W e c):Fol W (gI b d e) (fI b a c):=dV f g b
def OC(v:α)(s:PS):α×PS:=(v,s.fail)
def Fol.f(v:α):Fol W (λ_=>none) (OC v):=Fol.fail λ_=>rfl
end
noncomputable def pS (N:Nat):List Tok->Option (List ByteArray×List Tok):=gB (fP (aT yL)) λ_=>gB (j3 (aT yR)) λb=>gI b (gR []) (gB (ga N) λl=>gB (fP (aT yR)) λ_=>gR l)
noncomputable def OD (N:Nat):PS->List ByteArray×PS:=fB (ak (aT yL)) λ_=>fB (aa (aT yR)) λb=>fI b (fR []) (fB (e8 N) λl=>fB (ak (aT yR)) λ_=>fR l)
section
variable {W:List Tok->Prop}
def D6(N:Nat):Fol W (pS N) (OD N):=Fol.b (j4 Z) λ_=>Fol.b (kH Z) λb=>Fol.i b (Fol.r _) (Fol.b (Ai N) λl=>Fol.b (j4 Z) λ_=>Fol.r l)
end
def Qc:∀s:PS,r8 s.l->aI yD s.nxt=aT yD s.nxt:=B6 I I
def PS.fin(s:PS):Bool:= !s.bad&&decide (s.a=s.l.length)
def oA{α:Type}{g:List Tok->Option (α×List Tok)}{f:PS->α×PS}{W:List Tok->Prop}(h:Fol W g f)(l:List Tok)(m:W l):((f ⟨l,0,false⟩).2.fin=true->∃v,g l=some (v,[])/\(f ⟨l,0,false⟩).1=v)/\(∀v,g l=some (v,[])->(f ⟨l,0,false⟩).2.fin=true/\(f ⟨l,0,false⟩).1=v):=by
 have c:=(h ⟨l,0,false⟩ m).2.2 Z;rw[Tc]at c;cases k:g l with
 |none=>
  rw[k]at c;have c:(f ⟨l,0,false⟩).2.bad=true:=c;refine⟨λb=>?_,λv b=>by cases b⟩;unfold PS.fin at b;rw[c]at b;cases b
 |some q=>
  obtain⟨v,r⟩:=q;rw[k]at c;obtain⟨a,e,d,j⟩:=c;have j:a<=l.length:=j (QF _);rw[e];unfold PS.fin;dsimp only at d⊢;refine⟨λb=>⟨v,?_,Z⟩,λv' b=>?_⟩
  ·have i:a=l.length:=by simpa using b
   rw[d,i,Ts]
  injection b with b
  injection b with b i
  rw[i]at d;have:=List.drop_eq_nil_iff.1 d.symm;exact⟨by simp;omega,b⟩
def gw(c:UInt8):Bool:=decide (48<=c.toNat)&&decide (c.toNat<=57)
def j7(c:UInt8):Bool:=cO c||gw c||decide (c.toNat=95)
def cV(l:List UInt8):Nat:=(l.takeWhile gw).length
def pw(l:List UInt8):Nat:=
 let n:=match l with
  |c::_=>if c.toNat=45 then 1 else 0
  |[]=>0
 let d:=cV (l.drop n)
 if d=0 then 0 else match l.drop (n+d)with
  |c::r=>if(decide (c.toNat=47)||decide (c.toNat=46))&&decide (0<cV r)then n+d+(1+cV r)else n+d
  |[]=>n+d
def iq:Nat->List UInt8->Nat
 |_,[]=>0
 |k,c::r=>if c.toNat<32\/126<c.toNat then 0 else if c.toNat≠39 then iq (k+1) r else match r with
  |d::r'=>if d.toNat=39 then iq (k+2) r' else k+1
  |[]=>k+1
def xT(c:UInt8):Bool:=decide (c.toNat=40)||decide (c.toNat=41)||decide (c.toNat=44)||decide (c.toNat=58)||decide (c.toNat=61)
def FO(r:List UInt8):Bool:=match r with
 |c::_=>decide (c.toNat=61)
 |[]=>false
def fw(c:UInt8)(r:List UInt8):Nat×Nat:=if cO c=true then(1,1+(r.takeWhile j7).length)else if(gw c||decide (c.toNat=45))=true then(2,pw (c::r))else if c.toNat=39 then(3,iq 1 r)else if xT c=true then(4,1)else if c.toNat=60 then(if FO r=true then(4,2)else(4,1))else if c.toNat=33/\FO r=true then(4,2)else(0,0)
def jV:List UInt8->Nat×Nat
 |[]=>(0,0)
 |c::r=>fw c r
def dO:Nat->List UInt8->Option (List Tok)
 |0,_=>some []
 |_+1,[]=>some []
 |n+1,c::r=>if c.toNat=35 then some []else if c.toNat=32 then dO n r else if(jV (c::r)).2=0 then none else(dO n ((c::r).drop (jV (c::r)).2)).map λl=>⟨(jV (c::r)).1,⟨((c::r).take (jV (c::r)).2).toArray⟩⟩::l
def D7(c:UInt8)(l:List UInt8):FK ⟨(c::l).toArray⟩=cO c:=rfl
def uw{c:UInt8}{r:List UInt8}{n:Nat}(h:n≠0):∃l,(c::r).take n=c::l:=by
 cases n with
 |zero=>exact absurd Z h
 |succ n=>exact⟨_,Z⟩
def MB{c:UInt8}{l:List UInt8}(e:(gw c||decide (c.toNat=45))=true)(v:V)(h:cM ⟨(c::l).toArray⟩=some v):v=⟨1,v.n,b9⟩:=by
 obtain⟨a,f,b⟩:=eJ h;have a:bz v.t v.n v.s=true:=a;have b:c::l=v.fmt:=b;unfold V.fmt cH at b;rw[if_pos a]at b;split at b
 ·next ht=>
  obtain⟨t,n,s⟩:=v;dsimp only at ht a⊢;subst ht;obtain⟨d⟩:=s;have:d=#[]:=by
   unfold bz at a;simpa using a
  rw[this];rfl
 have:c=39:=by injection b
 rw[this]at e;exact absurd e I
def OE(c:UInt8)(h:xT c=true\/c.toNat=60\/c.toNat=33):cO c=false:=by
 unfold xT at h;unfold cO;simp only[Q5,decide_eq_true_eq]at h;rw[QD,RV,RV,decide_eq_false_iff_not,decide_eq_false_iff_not,decide_eq_false_iff_not,decide_eq_false_iff_not];omega
def MC(c:UInt8)(r:List UInt8)(h:(jV (c::r)).2≠0):WfT ⟨(jV (c::r)).1,⟨((c::r).take (jV (c::r)).2).toArray⟩⟩:=by
 obtain⟨l,hl⟩:=uw (c:=c) (r:=r) h;rw[hl];change WfT ⟨(fw c r).1,⟨(c::l).toArray⟩⟩;change(fw c r).2≠0 at h;clear hl;unfold fw at h⊢;split
 ·next h1=>exact⟨λ_=>h1,λe=>(by cases e),.inl Z,λe=>(by cases e)⟩
 split
 ·next h2=>exact⟨λe=>(by cases e),λe=>(by cases e),.inr (.inl Z),λ_ v b=>MB h2 v b⟩
 split
 ·exact⟨λe=>(by cases e),λe=>(by cases e),.inr (.inr (.inl Z)),λe=>(by cases e)⟩
 have key:(xT c=true\/c.toNat=60\/c.toNat=33)->WfT ⟨4,⟨(c::l).toArray⟩⟩:=λa=>⟨λe=>(by cases e),λ_=>(D7 c l).trans (OE c a),.inr (.inr (.inr Z)),λe=>(by cases e)⟩
 split
 ·next h4=>exact key (.inl h4)
 split
 ·next h5=>split<;>exact key (.inr (.inl h5))
 split
 ·next h6=>exact key (.inr (.inr h6.1))
 next h1 h2 h3 h4 h5 h6=>rw[if_neg h1,if_neg h2,if_neg h3,if_neg h4,if_neg h5,if_neg h6]at h;exact absurd Z h
def As:∀(n:Nat) (s:List UInt8) (l:List Tok),dO n s=some l->r8 l
 |0,_,l,h=>by
  injection h with h;subst h;exact λt a=>(by cases a)
 |_+1,[],l,h=>by
  injection h with h;subst h;exact λt a=>(by cases a)
 |n+1,c::r,l,h=>by
  unfold dO at h;split at h
  ·injection h with h;subst h;exact λt a=>(by cases a)
  split at h
  ·exact As n r l h
  split at h
  ·cases h
  next h3=>
  cases b:dO n ((c::r).drop (jV (c::r)).2)with
  |none=>rw[b]at h;cases h
  |some q=>
   rw[b]at h;injection h with h
   subst h;intro t a;rcases Qw.1 a with rfl|a
   ·exact MC c r h3
   exact As n _ q b t a
structure An where
 vals:List V
 q:Rat
def bb(l:List UInt8):ByteArray:=⟨l.toArray⟩
def OF(s:ByteArray):bb s.data.toList=s:=kz s
def FP(a b:List UInt8):bb a++bb b=bb (a++b):=iY a b
def B8(a:List UInt8)(s:ByteArray):bb a++s=bb (a++s.data.toList):=by
 have:=FP a s.data.toList;rwa[OF]at this
def mq(l:List UInt8):(bb l).size=l.length:=by show l.toArray.size=_;simp
structure AnOK (a:An):Prop where
 rng:∀v∈a.vals,v.rng/\v.fmt.length<=200/\v.s.size<=9223372036854775807
 len:a.vals.length<=3
 fit:Fit 262144 a.q
 num:(OB a.q.num.natAbs).size<=1000
 den:(OB a.q.den).size<=1000
def oB{α:Type}{l:List α}{j:Nat}{x:α}(h:l[j]? =some x):l.drop j=x::l.drop (j+1):=by
 obtain⟨a,rfl⟩:=Qm.1 h;exact Q3 a
