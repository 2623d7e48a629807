import Derived.Test.YtmhcanmapkenbaaGreatDoorA24
set_option linter.defProp false
open Go.Proofs.Tryz
namespace Go.Proofs.YtmhcanmapkenbaaGreatDoor
variable{α:Type}
def nB(l:List UInt8):Option (List Tok):=dO (l.length+1) l
def pE:∀(n m:Nat) (l:List UInt8),l.length<n->l.length<m->dO n l=dO m l
 |0,_,_,h,_=>absurd h (RZ _)
 |_+1,0,_,_,h=>absurd h (RZ _)
 |_+1,_+1,[],_,_=>rfl
 |n+1,m+1,c::r,h1,h2=>by
  simp only[Qn]at h1 h2;rw[dO,dO];split
  ·rfl
  split
  ·exact pE n m r O O
  split
  ·rfl
  next h3=>
  have a:((c::r).drop (jV (c::r)).2).length<=r.length:=by rw[QZ,Qn];omega
  rw[pE n m _ O O]
def CI(r:List UInt8):nB (32::r)=nB r:=by
 unfold nB;rw[Qn,dO,if_neg I,if_pos I]
def sK{c:UInt8}{r:List UInt8}{k n:Nat}(b:c.toNat≠35)(a:c.toNat≠32)(d:jV (c::r)=(k,n+1)):nB (c::r)=(nB (r.drop n)).map (⟨k,⟨(c::r.take n).toArray⟩⟩:: ·):=by
 unfold nB;rw[Qn,dO,if_neg b,if_neg a,d,if_neg (Nat.succ_ne_zero n)];show(dO (r.length+1) (r.drop n)).map _=_
 rw[pE (r.length+1) ((r.drop n).length+1) _ (by rw[QZ];omega) O];rfl
def SpC(c:UInt8):Prop:=c.toNat=32\/c.toNat=40\/c.toNat=41\/c.toNat=44\/c.toNat=58
def Sp(r:List UInt8):Prop:=∀c,r.head?=some c->SpC c
def Sp.nil:Sp []:=λc h=>by cases h
def Sp.cons{c:UInt8}{r:List UInt8}(h:SpC c):Sp (c::r):=λd hd=>by injection hd with hd;rwa[<-hd]
structure LxS (s:List UInt8) (ts:List Tok):Prop where
 n:∀c∈s,c≠10
 l:∀r,Sp r->nB (s++r)=(nB r).map (ts++ ·)
structure LxA (s:List UInt8) (ts:List Tok):Prop where
 n:∀c∈s,c≠10
 l:∀r,nB (s++r)=(nB r).map (ts++ ·)
def LxA.s{s:List UInt8}{ts:List Tok}(h:LxA s ts):LxS s ts:=⟨h.n,λr _=>h.l r⟩
def qE(o:Option (List Tok))(a b:List Tok):(o.map (b++ ·)).map (a++ ·)=o.map ((a++b)++ ·):=by
 cases o with
 |none=>rfl
 |some l=>simp
def Pz{a b:List UInt8}(d:∀c∈a,c≠10)(e:∀c∈b,c≠10):∀c∈a++b,c≠10:=λc f=>(Q6.1 f).elim (d c) (e c)
def LxA.nil:LxA [] []:=⟨λc h=>(by cases h),λr=>by cases h:nB r<;>simp[h]⟩
def fZ{a b:List UInt8}{ta e:List Tok}(c:LxA a ta)(d:LxA b e):LxA (a++b) (ta++e):=⟨Pz c.n d.n,λr=>by rw[Q0,c.l,d.l,qE]⟩
def oU{a b:List UInt8}{ta e:List Tok}(c:LxA a ta)(d:LxS b e):LxS (a++b) (ta++e):=⟨Pz c.n d.n,λr f=>by rw[Q0,c.l,d.l r f,qE]⟩
def qF{a b:List UInt8}{c:UInt8}{ta f:List Tok}(d:LxS a ta)(e:LxA (c::b) f)(g:SpC c):LxA (a++c::b) (ta++f):=⟨Pz d.n e.n,λr=>by rw[Q0,d.l _ (by exact .cons g),e.l,qE]⟩
def yx{a b:List UInt8}{ta f:List Tok}(d:LxS a ta)(e:LxS b f)(g:∃c w,b=c::w/\SpC c):LxS (a++b) (ta++f):=by
 obtain⟨c,w,rfl,h⟩:=g;exact⟨Pz d.n e.n,λr i=>by rw[Q0,d.l _ (by exact .cons h),e.l r i,qE]⟩
def qG{t:Tok}{c:UInt8}{w:List UInt8}(f:t.x.data.toList=c::w)(e:c.toNat≠35)(b:c.toNat≠32)(a:∀d∈c::w,d≠10)(g:∀r,Sp r->jV (c::(w++r))=(t.k,w.length+1)):LxS t.x.data.toList [t]:=by
 refine⟨by rw[f];exact a,λr h=>?_⟩;rw[f,Rj,sK e b (g r h),TE,TB,<-f];rfl
def kR{c:UInt8}{w:List UInt8}{k:Nat}(e:c.toNat≠35)(b:c.toNat≠32)(a:∀d∈c::w,d≠10)(f:∀r,jV (c::(w++r))=(k,w.length+1)):LxA (c::w) [⟨k,⟨(c::w).toArray⟩⟩]:=⟨a,λr=>by
 rw[Rj,sK e b (f r),TE,TB];rfl⟩
def jk:LxA [32] []:=⟨I,λr=>by rw[RL,CI];cases h:nB r<;>simp⟩
def O5(x:List UInt8):Prop:=∃c w,x=c::w/\cO c=true/\∀d∈w,j7 d=true
def SpC.wd{c:UInt8}(h:SpC c):j7 c=false:=by
 unfold j7 cO gw;rcases h with h|h|h|h|h<;>simp[h]
def SpC.dg{c:UInt8}(h:SpC c):gw c=false:=by
 unfold gw;rcases h with h|h|h|h|h<;>simp[h]
def LU{p:UInt8->Bool}{w r:List UInt8}(b:∀d∈w,p d=true)(a:∀c,r.head?=some c->p c=false):(w++r).takeWhile p=w:=by
 rw[List.takeWhile_append_of_pos b];cases r with
 |nil=>simp
 |cons c r=>rw[SG,a c Z];simp
def LV{d:UInt8}(h:j7 d=true):d≠10:=λe=>by rw[e]at h;cases h
def Ni{c:UInt8}(h:cO c=true):j7 c=true:=by unfold j7;rw[h];rfl
def kS{x:ByteArray}(h:O5 x.data.toList):LxS x.data.toList [⟨1,x⟩]:=by
 obtain⟨c,w,g,a,b⟩:=h;refine qG (t:=⟨1,x⟩) g (λe=>?_) (λe=>?_) (λd hd=>?_) λr f=>?_
 ·have:cO c=false:=by unfold cO;simp[e]
  rw[a]at this;cases this
 ·have:cO c=false:=by unfold cO;simp[e]
  rw[a]at this;cases this
 ·rcases Qw.1 hd with rfl|hd
  ·exact LV (Ni a)
  exact LV (b d hd)
 show fw c (w++r)=_
 unfold fw;rw[if_pos a,LU b λd hd=>(f d hd).wd,Sb]
def oV:∀(k u:Nat),u<=k->∀c∈Lib.decDigits u,gw c=true
 |k,u,h,c,a=>by
  have key:∀d:Nat,d<10->gw (UInt8.ofNat (48+d))=true:=I
  by_cases b:u<10
  ·rw[Lib.decDigits_one b,QP]at a;rw[a];exact key _ b
  cases k with
  |zero=>omega
  |succ k=>
   rw[Lib.decDigits,dif_neg b]at a;rcases Q6.1 a with a|a
   ·exact oV k (u/10) O c a
   rw[QP]at a;rw[a];exact key _ (R9 _ I)
def uL(c:UInt8)(l:List UInt8){n:Nat}(k:(if c.toNat=45 then 1 else 0)=n){ds r:List UInt8}(hl:(c::l).drop n=ds++r)(hd:∀d∈ds,gw d=true)(j:ds≠ [])(a:Sp r):pw (c::l)=n+ds.length:=by
 have b:cV ((c::l).drop n)=ds.length:=by
  unfold cV;rw[hl,LU hd λd hd=>(a d hd).dg]
 have f:(c::l).drop (n+ds.length)=r:=by rw[<-RK,hl,TE]
 have g:ds.length≠0:=λe=>j (Rz.1 e)
 have i:pw (c::l)=(if cV ((c::l).drop n)=0 then 0 else match (c::l).drop (n+cV ((c::l).drop n))with
  |d::r=>if(decide (d.toNat=47)||decide (d.toNat=46))&&decide (0<cV r)then n+cV ((c::l).drop n)+(1+cV r)else n+cV ((c::l).drop n)
  |[]=>n+cV ((c::l).drop n)):=by subst k;rfl
 rw[i,b,if_neg g,f];cases r with
 |nil=>rfl
 |cons d r=>
  have:=a d Z;refine if_neg λh=>?_
  unfold SpC at this;simp only[Qh,Q5,decide_eq_true_eq]at h;omega
def AR{c:UInt8}(h:gw c=true):c.toNat≠45/\c.toNat≠35/\c.toNat≠32/\c≠10/\cO c=false:=by
 unfold gw at h;rw[Qh]at h;have a:=of_decide_eq_true h.1;have b:=of_decide_eq_true h.2;refine⟨O,O,O,λe=>by rw[e]at a;exact absurd a I,?_⟩;unfold cO;rw[decide_eq_false (by omega:¬97<=c.toNat),decide_eq_false (by omega:¬65<=c.toNat)];rfl
def Nj(n:Int){x:ByteArray}(g:x.data.toList=Lib.itoa n):LxS x.data.toList [⟨2,x⟩]:=by
 have f:∀u,Lib.decDigits u≠ []:=λu e=>by
  have:=congrArg List.length e;rw[Lib.decDigits_length]at this;have m:=Lib.nDigits_pos u;simp at this;omega
 unfold Lib.itoa at g;split at g
 ·refine qG (t:=⟨2,x⟩) g I I (λd hd=>?_) λr k=>?_
  ·rcases Qw.1 hd with rfl|hd
   ·decide
   exact(AR (oV _ _ (Qi _) d hd)).2.2.2.1
  show fw 45 (_++r)=_
  unfold fw;rw[if_neg I,if_pos I,uL 45 _ (n:=1) Z (by rfl) (oV _ _ (Qi _)) (f _) k,Sb]
 cases hd:Lib.decDigits n.toNat with
 |nil=>exact absurd hd (f _)
 |cons c w=>
  rw[hd]at g;have a:=oV _ n.toNat (Qi _);rw[hd]at a;obtain⟨j,i,h,l,b⟩:=AR (a c (Qs ..));refine qG (t:=⟨2,x⟩) g i h (λd hd=>(AR (a d hd)).2.2.2.1) λr k=>?_
  show fw c (_++r)=_
  unfold fw;rw[if_neg (by rw[b];exact Qk),if_pos (by rw[a c (Qs ..)];rfl),uL c _ (n:=0) (if_neg j) (ds:=c::w) (by rfl) a (List.cons_ne_nil _ _) k,Qn,QT]
def yy{r:List UInt8}(b:Sp r):∀(s:List UInt8) (k:Nat),(∀c∈s,nO c=true)->iq k (gG s++39::r)=k+(gG s).length+1
 |[],k,_=>by
  rw[gG,Rv,j8,if_neg I,if_neg I];cases r with
  |nil=>rfl
  |cons d r=>
   have:=b d Z;unfold SpC at this;exact if_neg O
 |c::s,k,h=>by
  have a:nO c=true:=h c (Qs ..);unfold nO at a;have a:=of_decide_eq_true a;have f:=λk=>yy b s k λd hd=>h d (QA _ hd)
  rw[gG];split
  ·next e=>
   rw[Rj,Rj,j8,if_neg I,if_neg I];show(if(39:UInt8).toNat=39 then iq (k+2) (gG s++39::r)else k+1)=_
   rw[if_pos I,f];simp only[Qn];omega
  next e=>
  rw[Rj,j8,if_neg O,if_pos (show c.toNat≠39 from λg=>e (Sf.1 g)),f];simp only[Qn];omega
def wk:∀{s:List UInt8} {c:UInt8},c∈gG s->c∈s
 |[],c,h=>by rw[gG]at h;cases h
 |d::s,c,h=>by
  rw[gG]at h;split at h
  ·next e=>
   rcases Qw.1 h with h|h
   ·rw[h,<-e];exact Qs ..
   rcases Qw.1 h with h|h
   ·rw[h,<-e];exact Qs ..
   exact QA _ (wk h)
  rcases Qw.1 h with h|h
  ·rw[h];exact Qs ..
  exact QA _ (wk h)
def Nk{c:UInt8}(h:nO c=true):c≠10:=λe=>by rw[e]at h;exact absurd h I
def Nl{s:List UInt8}{x:ByteArray}(a:∀c∈s,nO c=true)(e:x.data.toList=39::(gG s++[39])):LxS x.data.toList [⟨3,x⟩]:=by
 refine qG (t:=⟨3,x⟩) e I I (λd hd=>?_) λr b=>?_
 ·rcases Qw.1 hd with rfl|hd
  ·decide
  rcases Q6.1 hd with hd|hd
  ·exact Nk (a d (wk hd))
  rw[QP.1 hd];decide
 show fw 39 (_++r)=_
 unfold fw;rw[if_neg I,if_neg I,if_pos I,Q0,RL,yy b s 1 a];simp only[QJ,Qn,QC];rw[Sb 1]
def yz(v:V):Tok:=⟨if v.t=1 then 2 else 3,⟨v.fmt.toArray⟩⟩
def GF{v:V}(e:v.ok=true):LxS v.fmt [yz v]:=by
 have a:v.fmt=if v.t=1 then Lib.itoa v.n else [39]++gG v.s.data.toList++[39]:=if_pos e
 have b:(⟨v.fmt.toArray⟩:ByteArray).data.toList=v.fmt:=F
 unfold yz;split
 ·next h=>rw[if_pos h]at a;exact b▸Nj (x:=⟨v.fmt.toArray⟩) v.n (b.trans a)
 next h=>
 rw[if_neg h]at a;refine b▸Nl (x:=⟨v.fmt.toArray⟩) (s:=v.s.data.toList) ?_ (b.trans (by rw[a];rfl));have d:bz v.t v.n v.s=true:=e;unfold bz at d;rw[if_neg h,Qh]at d;exact λc f=>Qt.1 d.2 c f
def LW:LxA [44,32] [⟨4,yC⟩]:=fZ (kR (c:=44) (w:=[]) (k:=4) I I I λr=>rfl) jk
def O6:LxA [40] [⟨4,yL⟩]:=kR (c:=40) (w:=[]) (k:=4) I I I λr=>rfl
def O7:LxA [41] [⟨4,yR⟩]:=kR (c:=41) (w:=[]) (k:=4) I I I λr=>rfl
def O8:LxA [58,32] [⟨4,yD⟩]:=fZ (kR (c:=58) (w:=[]) (k:=4) I I I λr=>rfl) jk
def O9:LxA [32,61,32] [⟨4,yE⟩]:=fZ jk (fZ (kR (c:=61) (w:=[]) (k:=4) I I I λr=>rfl) jk)
def Pa:LxA [32,33,61,32] [⟨4,yN⟩]:=fZ jk (fZ (kR (c:=33) (w:=[61]) (k:=4) I I I λr=>rfl) jk)
def Nm:LxA [32,60,61,32] [⟨4,B3⟩]:=fZ jk (fZ (kR (c:=60) (w:=[61]) (k:=4) I I I λr=>rfl) jk)
def Nn:LxA [32,60,32] [⟨4,qm⟩]:=fZ jk (by
 refine⟨I,λr=>?_⟩;rw[Rj,sK (c:=60) (k:=4) (n:=0) I I Z];show(nB (32::r)).map _=_
 rw[CI];rfl)
def GH{a:List UInt8}{ta:List Tok}(b:LxS a ta):LxA (a++[32]) ta:=Rn ta▸qF b jk (.inl Z)
def uM{l:List UInt8}(h:(match l with|c::w=>cO c&&w.all j7|[]=>false)=true):O5 l:=by
 cases l with
 |nil=>cases h
 |cons c w=>
  simp only[Qh]at h;exact⟨c,w,Z,h.1,λd hd=>Qt.1 h.2 d hd⟩
def No:LxA [110,111,116,32] [⟨1,au⟩]:=GH (kS (x:=au) (uM I))
def Pb:LxA [32,111,114,32] [⟨1,gp⟩]:=fZ jk (GH (kS (x:=gp) (uM I)))
def Ki:LxS [116,114,117,101] [⟨1,bW⟩]:=kS (x:=bW) (uM I)
def GJ:LxS [102,97,108,115,101] [⟨1,cg⟩]:=kS (x:=cg) (uM I)
def tj(sep:Tok){α:Type}(g:α->List Tok):List α->List Tok
 |[]=>[]
 |x::l=>g x++l.flatMap λy=>sep::g y
def GK{b:List UInt8}{sep:Tok}(o:LxA b [sep])(n:∃c w,b=c::w/\SpC c){f:α->ByteArray}{g:α->List Tok}:∀(l:List α),(∀a∈l,LxS (f a).data.toList (g a))->LxS (jn b 0 (l.map f)) (tj sep g l):=by
 have key:∀(l:List α) (j:Nat),(∀a∈l,LxS (f a).data.toList (g a))->LxS (jn b (j+1) (l.map f)) (l.flatMap λy=>sep::g y):=by
  intro l;induction l with
  |nil=>exact λ_ _=>LxA.nil.s
  |cons x l ih=>
   intro j h;rw[QM,jn,if_pos (Sw j),Tm];have i:=h x (Qs ..);have k:=ih (j+1) λa m=>h a (QA _ m)
   refine oU (ta:=[sep]) o ?_;cases l with
   |nil=>
    have e:g x++([]:List α).flatMap (λy=>sep::g y)=g x:=Rn _;rw[Rq,jn,Rn];show LxS (f x).data.toList (g x++([]:List α).flatMap λy=>sep::g y)
    rw[e];exact i
   |cons y l=>
    refine yx i k ?_;obtain⟨c,w,e,d⟩:=n;rw[QM,jn,if_pos (Sw _),e];exact⟨c,_,Z,d⟩
 intro l h;cases l with
 |nil=>exact LxA.nil.s
 |cons x l=>
  rw[QM,jn,if_neg (Nat.lt_irrefl 0),Rv];have i:=h x (Qs ..);have k:=key l 0 λa m=>h a (QA _ m)
  cases l with
  |nil=>
   rw[Rq,jn,Rn];have e:tj sep g [x]=g x:=Rn _;rw[e];exact i
  |cons y l=>
   refine yx i k ?_;obtain⟨c,w,e,d⟩:=n;rw[QM,jn,if_pos (Sw _),e];exact⟨c,_,Z,d⟩
def CJ{f:α->ByteArray}{g:α->List Tok}(l:List α)(h:∀a∈l,LxS (f a).data.toList (g a)):LxA (bF (l.map f)).data.toList (⟨4,yL⟩::(tj ⟨4,yC⟩ g l++[⟨4,yR⟩])):=by
 have e:(bF (l.map f)).data.toList=[40]++(jn [44,32] 0 (l.map f)++[41]):=by
  unfold bF;simp
 rw[e];exact fZ (ta:=[⟨4,yL⟩]) O6 (qF (GK LW ⟨44,[32],Z,.inr (.inr (.inr (.inl Z)))⟩ l h) O7 (.inr (.inr (.inl Z))))
def GN(x:ByteArray):Prop:=O5 x.data.toList/\io x=false
def GT(t:Trm):Prop:=(GN t.v/\t.c=V.zero)\/(t.v=b9/\cM ⟨t.c.fmt.toArray⟩=some t.c)
def GA(a:Atm):Prop:=GN a.r/\∀t∈a.ts,GT t
def GC(k:Cpr):Prop:=GT k.l/\GT k.r/\1<=k.op/\k.op<=4
def GQ(c:Cq):Prop:=(∀a∈c.al,GA a)/\∀k∈c.cl,GC k
def mE(t:Trm):Tok:=if t.v=b9 then yz t.c else⟨1,t.v⟩
def uN(n:Nat):Tok:=⟨4,if n=1 then yE else if n=2 then yN else if n=3 then qm else B3⟩
def sL(l:List Trm):List Tok:=⟨4,yL⟩::(tj ⟨4,yC⟩ (λt=>[mE t]) l++[⟨4,yR⟩])
def Eo(a:Atm):List Tok:=(if a.ng=true then [⟨1,au⟩]else [])++⟨1,a.r⟩::sL a.ts
def Np(k:Cpr):List Tok:=[mE k.l,uN k.op,mE k.r]
def Ep(c:Cq):List (Sum Atm Cpr):=c.al.map .inl++c.cl.map .inr
noncomputable def Nq:Sum Atm Cpr->ByteArray
 | .inl a=>dw a
 | .inr k=>(eF k).getD b9
def sM:Sum Atm Cpr->List Tok
 | .inl a=>Eo a
 | .inr k=>Np k
def GI:Sum Atm Cpr->Prop
 | .inl a=>GA a
 | .inr k=>GC k
def nC(c:Cq):List Tok:=if(Ep c).length=0 then [⟨1,bW⟩]else tj ⟨4,yC⟩ sM (Ep c)
def sN(l:List Cq):List Tok:=if l.length=0 then [⟨1,cg⟩]else tj ⟨1,gp⟩ nC l
def wm(l:List ByteArray):List Tok:=⟨4,yL⟩::(tj ⟨4,yC⟩ (λn=>[⟨1,n⟩]) l++[⟨4,yR⟩])
def jF(q:List ByteArray×List Cq):List Tok:=if 0<q.1.length then wm q.1++⟨4,yD⟩::sN q.2 else sN q.2
def GN.ne{x:ByteArray}(h:GN x):x≠b9:=λe=>by
 obtain⟨c,w,a,_⟩:=h.1;rw[e]at a;cases a
def wn{t:Trm}(h:GT t):LxS (aD t).data.toList [mE t]:=by
 unfold aD mE;rcases h with h|h
 ·rw[if_neg h.1.ne,if_neg h.1.ne];exact kS h.1.1
 rw[if_pos h.1,if_pos h.1];have a:=eJ h.2;have e:(⟨t.c.fmt.toArray⟩:ByteArray).data.toList=t.c.fmt:=F
 rw[e];exact GF a.1
def Kj{a:Atm}(h:GA a):LxA (dw a).data.toList (Eo a):=by
 have b:LxA (a.r++bF (a.ts.map aD)).data.toList (⟨1,a.r⟩::sL a.ts):=by
  have c:=CJ (f:=aD) (g:=λt=>[mE t]) a.ts λt d=>wn (h.2 t d)
  have e:(bF (a.ts.map aD)).data.toList=40::(jn [44,32] 0 (a.ts.map aD)++[41]):=by unfold bF;simp
  rw[RJ,QW,e];rw[e]at c;exact qF (kS h.1.1) c (.inr (.inl Z))
 unfold dw Eo;split
 ·rw[RJ,QW];exact fZ No b
 exact b
def AS{k:Cpr}(h:GC k):∃x,eF k=some x/\LxS x.data.toList (Np k):=by
 obtain⟨a,b,f,g⟩:=h;have key:∀o:ByteArray,∀w,o.data.toList=32::w->kM k.op=some o->LxA o.data.toList [uN k.op]->∃x,eF k=some x/\LxS x.data.toList (Np k):=λo w d c hl=>by
  refine⟨_,ny c,?_⟩;rw[RJ,QW,RJ,QW];rw[d]at hl⊢;exact oU (qF (wn a) hl (.inl Z)) (wn b)
 have:k.op=1\/k.op=2\/k.op=3\/k.op=4:=O
 rcases this with e|e|e|e
 ·exact key ⟨#[32,61,32]⟩ [61,32] Z (by rw[e];rfl) (by rw[e];exact O9)
 ·exact key ⟨#[32,33,61,32]⟩ [33,61,32] Z (by rw[e];rfl) (by rw[e];exact Pa)
 ·exact key ⟨#[32,60,32]⟩ [60,32] Z (by rw[e];rfl) (by rw[e];exact Nn)
 exact key ⟨#[32,60,61,32]⟩ [60,61,32] Z (by rw[e];rfl) (by rw[e];exact Nm)
def Pc{i:Sum Atm Cpr}(h:GI i):LxS (Nq i).data.toList (sM i):=by
 cases i with
 |inl a=>exact(Kj h).s
 |inr k=>
  obtain⟨x,b,c⟩:=AS h;show LxS ((eF k).getD b9).data.toList _
  rw[b];exact c
def GQ.it{c:Cq}(h:GQ c):∀i∈Ep c,GI i:=λi b=>by
 rcases Q6.1 b with b|b
 ·obtain⟨a,d,rfl⟩:=RH.1 b;exact h.1 a d
 obtain⟨a,d,rfl⟩:=RH.1 b;exact h.2 a d
def GQ.all{c:Cq}(h:GQ c):(c.cl.all λk=>(eF k).isSome)=true:=Qt.2 λk b=>by
 obtain⟨x,a,_⟩:=AS (h.2 k b);rw[a];rfl
def GQ.ps{c:Cq}(h:GQ c):kb c=(Ep c).map Nq:=by
 unfold kb Ep;rw[Qz,List.map_map,List.map_map];congr 1;have key:∀l:List Cpr,(∀k∈l,GC k)->l.filterMap eF=l.map (Nq∘Sum.inr):=by
  intro l;induction l with
  |nil=>exact λ_=>rfl
  |cons k l ih=>
   intro h;obtain⟨x,a,_⟩:=AS (h k (Qs ..));rw[List.filterMap_cons,a,QM,ih λk b=>h k (QA _ b)];show x::_=(eF k).getD b9::_
   rw[a];rfl
 exact key c.cl h.2
def lc{c:Cq}(h:GQ c):∃x,dG c=some x/\LxS x.data.toList (nC c):=by
 unfold dG nC;rw[if_pos h.all];refine⟨_,Z,?_⟩;rw[h.ps,Qr];split
 ·exact Ki
 exact GK LW ⟨44,[32],Z,.inr (.inr (.inr (.inl Z)))⟩ _ λi a=>Pc (h.it i a)
def AT{l:List Cq}(h:∀c∈l,GQ c):∃x,v8 l=some x/\LxS x.data.toList (sN l):=by
 unfold v8 sN;split
 ·exact⟨_,Z,GJ⟩
 have e:(l.all λd=>(dG d).isSome)=true:=Qt.2 λc b=>by
  obtain⟨x,a,_⟩:=lc (h c b);rw[a];rfl
 rw[if_pos e];refine⟨_,Z,?_⟩;have key:∀l:List Cq,(∀c∈l,GQ c)->l.filterMap dG=l.map λc=>(dG c).getD b9:=by
  intro l;induction l with
  |nil=>exact λ_=>rfl
  |cons k l ih=>
   intro h;obtain⟨x,a,_⟩:=lc (h k (Qs ..));rw[List.filterMap_cons,a,QM,ih λk g=>h k (QA _ g),a];rfl
 rw[key l h];exact GK Pb ⟨32,[111,114,32],Z,.inl Z⟩ l λc b=>by
  obtain⟨x,a,f⟩:=lc (h c b);rw[a];exact f
structure GQy (q:List ByteArray×List Cq):Prop where
 h:∀n∈q.1,GN n
 q:∀c∈q.2,GQ c
def wt{q:List ByteArray×List Cq}(h:GQy q):∃x,fA q=some x/\LxS x.data.toList (jF q):=by
 obtain⟨x,b,c⟩:=AT h.q;unfold jF;split
 ·next a=>
  refine⟨_,we b a,?_⟩;rw[RJ,QW,RJ,QW,Q0];have d:=CJ (f:=id) (g:=λn=>[⟨1,n⟩]) q.1 λn a=>kS (h.h n a).1
  rw[List.map_id]at d;exact oU d (oU (ta:=[⟨4,yD⟩]) O8 c)
 next a=>exact⟨_,sF b a,c⟩
def CK{c:Tok->Bool}{t:Tok}{r:List Tok}(h:c t=true):j3 c (t::r)=some (true,r):=if_pos h
def jG{c:Tok->Bool}{r:List Tok}(h:c (hd r)=false):j3 c r=some (false,r):=by
 cases r with
 |nil=>rfl
 |cons t r=>exact if_neg (by rw[show c t=false from h];exact Qk)
def GL{c:Tok->Option α}{t:Tok}{v:α}{r:List Tok}(h:c t=some v):vO c (t::r)=some (v,r):=by
 show(c t).map _=_
 rw[h];rfl
def sO{c:Tok->Bool}{t:Tok}{r:List Tok}(h:c t=true):fP c (t::r)=some ((),r):=GL (if_pos h)
def sP{β:Type}{c:Tok->Bool}{g:β->List Tok->Option (β×List Tok)}{sep:Tok}{tk:α->List Tok}{upd:β->α->β}(P:List Tok->Prop)(f:c sep=true)(a:∀l,P (sep::l)){r:List Tok}(e:P r)(d:c (hd r)=false):∀(l:List α) (n:Nat) (b:β),l.length<=n->(∀x∈l,∀b r,P r->g b (tk x++r)=some (upd b x,r))->im c g n b ((l.flatMap λy=>sep::tk y)++r)=some (l.foldl upd b,r)
 |[],n,b,_,_=>by
  rw[List.flatMap_nil,Rv];cases n with
  |zero=>rfl
  |succ n=>rw[im,jG d];rfl
 |x::l,n,b,hn,h=>by
  cases n with
  |zero=>cases hn
  |succ n=>
   rw[Tm,Rj,Rj,im,CK f];show(g b (_++_++r)).bind _=_
   have i:P ((l.flatMap λy=>sep::tk y)++r):=by
    cases l with
    |nil=>exact e
    |cons y l=>exact a _
   rw[Q0,h x (Qs ..) b _ i];exact sP P f a e d l n (upd b x) (by simpa using hn) λy j=>h y (QA _ j)
def kT:∀(l:List α) (b:List α),l.foldl (λb x=>b++[x]) b=b++l
 |[],b=>F
 |x::l,b=>by rw[RY,kT l];simp
def sQ{x:ByteArray}(h:io x=false)(r:List Tok):ip (⟨1,x⟩::r)=some (x,r):=GL (if_pos ⟨Z,h⟩)
def GM(v:V):(yz v).k=2\/(yz v).k=3:=by
 show(if v.t=1 then 2 else 3)=2\/(if v.t=1 then 2 else 3)=3
 split
 ·exact .inl Z
 exact .inr Z
def wu{t:Trm}(h:GT t)(r:List Tok):gu (mE t::r)=some (t,r):=by
 obtain⟨v,c⟩:=t;unfold mE;rcases h with⟨a,b⟩|⟨a,b⟩
 ·dsimp only at a b⊢;subst b;rw[if_neg a.ne];unfold gu;rw[if_pos (by rfl),sQ a.2];rfl
 dsimp only at a b⊢;subst a;rw[if_pos Z];have d:=GM c;unfold gu;rw[if_neg (by show¬decide ((yz c).k=1)=true;rw[decide_eq_true_eq];omega)];have e:nk (yz c::r)=some (c,r):=GL ((if_pos d).trans b);rw[e];rfl
def oW{t:Trm}(h:GT t):(mE t).k≠4/\∀x,io x=true->a7 x (mE t)=false:=by
 unfold mE;rcases h with⟨a,_⟩|⟨a,_⟩
 ·rw[if_neg a.ne];refine⟨F,λx b=>?_⟩;unfold a7;rw[decide_eq_false (λe:t.v=x=>by rw[e]at a;rw[a.2]at b;cases b),R8]
 rw[if_pos a];have d:=GM t.c;refine⟨O,λx _=>?_⟩;unfold a7;rw[decide_eq_false (by omega:¬(yz t.c).k=1),Bool.false_and]
def AU{x:ByteArray}{t:Tok}(h:t.k≠4):aT x t=false:=by unfold aT;rw[decide_eq_false h,Bool.false_and]
def CL{N:Nat}{l:List Trm}(h:∀t∈l,GT t)(c:l.length<=N)(r:List Tok):ja N (sL l++r)=some (l,r):=by
 unfold ja sL;rw[Rj,sO Z];show((j3 (aT yR) _).bind _)=_
 rw[Q0,RL];cases l with
 |nil=>rfl
 |cons t l=>
  have a:=h t (Qs ..);rw[tj,Q0,RL,jG (by exact AU (oW a).1)];show((gu _).bind _)=_
  rw[wu a];show((im _ _ N [t] _).bind _)=_
  rw[sP (upd:=λb x=>b++[x]) (tk:=λt=>[mE t]) (λ_=>True) Z (λ_=>trivial) trivial Z l N [t] (by simp at c;omega) (λx d b r _=>by
   rw[RL,wu (h x (QA _ d))];rfl),kT,QY]
  dsimp only;rw[sO Z];rfl
def yA(c:Cq):Sum Atm Cpr->Cq
 | .inl a=>⟨c.al++[a],c.cl⟩
 | .inr k=>⟨c.al,c.cl++[k]⟩
def nD:∀(d:List Atm) (b:List Cpr) (c:Cq),(d.map Sum.inl++b.map Sum.inr).foldl yA c=⟨c.al++d,c.cl++b⟩
 |[],[],c=>F
 |[],k::b,c=>by
  have:=nD [] b (yA c (.inr k));rw[Rq,Rv,QM,RY];rw[Rq,Rv]at this;rw[this];simp[yA]
 |a::d,b,c=>by
  rw[QM,Rj,RY,nD d b];simp[yA]
def PQ{n:Nat}(a:1<=n)(b:n<=4)(r:List Tok):Lu (uN n::r)=some (n,r):=by
 have:n=1\/n=2\/n=3\/n=4:=O
 rcases this with rfl|rfl|rfl|rfl<;>rfl
def yB:io au=true:=by decide+kernel
def uO:io bW=true:=by decide+kernel
def sS:io cg=true:=by decide+kernel
def AV{x y:ByteArray}(h:io x=false)(a:io y=true):a7 y ⟨1,x⟩=false:=by
 unfold a7;rw[decide_eq_false (λe:x=y=>by rw[e,a]at h;cases h),R8]
def NI(N:Nat):Sum Atm Cpr->Prop
 | .inl a=>a.ts.length<=N
 | .inr _=>True
def yF{N:Nat}{c:Cq}{l l0 a d:List Tok}{b:Bool}{x:ByteArray}{ts:List Trm}(e:j3 (a7 au) l=some (b,l0))(h:(b||(pR l0&&decide ((hd l0).k=1)))=true)(f:ip l0=some (x,a))(g:ja N a=some (ts,d)):jb N c l=some (⟨c.al++[⟨x,b,ts⟩],c.cl⟩,d):=by
 unfold jb;rw[e];show(if(b||(pR l0&&decide ((hd l0).k=1)))=true then _ else _)=_
 rw[if_pos h,f];show((ja N a).bind _)=_
 rw[g];rfl
def GO{N:Nat}{c:Cq}{l l0 a d e:List Tok}{b:Bool}{x y:Trm}{o:Nat}(f:j3 (a7 au) l=some (b,l0))(j:(b||(pR l0&&decide ((hd l0).k=1)))=false)(g:gu l0=some (x,a))(h:Lu a=some (o,d))(i:gu d=some (y,e)):jb N c l=some (⟨c.al,c.cl++[⟨o,x,y⟩]⟩,e):=by
 unfold jb;rw[f];show(if(b||(pR l0&&decide ((hd l0).k=1)))=true then _ else _)=_
 rw[if_neg (by rw[j];exact Qk),g];show((Lu a).bind _)=_
 rw[h];show((gu d).bind _)=_
 rw[i];rfl
def GP{n:Nat}(a:1<=n)(b:n<=4):aT yL (uN n)=false:=by
 have:n=1\/n=2\/n=3\/n=4:=O
 rcases this with e|e|e|e<;>rw[e]<;>decide
def GR{N:Nat}{i:Sum Atm Cpr}(h:GI i)(j:NI N i)(c:Cq)(r:List Tok):jb N c (sM i++r)=some (yA c i,r):=by
 cases i with
 |inl a=>
  obtain⟨e,m,ts⟩:=a;obtain⟨b,d⟩:GN e/\∀t∈ts,GT t:=h;cases m with
  |true=>exact yF (l0:=⟨1,e⟩::(sL ts++r)) Z (Bool.true_or _) (sQ b.2 _) (CL d j r)
  |false=>exact yF (l0:=⟨1,e⟩::(sL ts++r)) (jG (AV b.2 yB)) Z (sQ b.2 _) (CL d j r)
 |inr k=>
  obtain⟨b,d,f,g⟩:GC k:=h;refine GO (l0:=mE k.l::uN k.op::mE k.r::r) (jG ((oW b).2 _ yB)) ?_ (wu b _) (PQ f g _) (wu d r);show(false||(aT yL (uN k.op)&&_))=false
  rw[GP f g];rfl
def PR:Sum Atm Cpr->Tok
 | .inl a=>if a.ng=true then⟨1,au⟩else⟨1,a.r⟩
 | .inr k=>mE k.l
def Pe(i:Sum Atm Cpr)(r:List Tok):hd (sM i++r)=PR i:=by
 cases i with
 |inl a=>
  obtain⟨c,b,ts⟩:=a;cases b<;>rfl
 |inr k=>rfl
def yG{i:Sum Atm Cpr}(h:GI i)(r:List Tok):a7 bW (hd (sM i++r))=false/\a7 cg (hd (sM i++r))=false/\aT yL (hd (sM i++r))=false:=by
 rw[Pe];cases i with
 |inl a=>
  obtain⟨c,b,ts⟩:=a;cases b with
  |true=>
   show a7 bW ⟨1,au⟩=false/\a7 cg ⟨1,au⟩=false/\aT yL ⟨1,au⟩=false
   decide
  |false=>exact⟨AV h.1.2 uO,AV h.1.2 sS,AU (show(1:Nat)≠4 by decide)⟩
 |inr k=>exact⟨(oW h.1).2 _ uO,(oW h.1).2 _ sS,AU (oW h.1).1⟩
def CM{sep:Tok}{g:α->List Tok}{x:α}{l:List α}{r:List Tok}:tj sep g (x::l)++r=g x++((l.flatMap λy=>sep::g y)++r):=by rw[tj,Q0]
def yH{c:Cq}(h:GQ c)(r:List Tok):a7 cg (hd (nC c++r))=false/\aT yL (hd (nC c++r))=false:=by
 unfold nC;cases a:Ep c with
 |nil=>
  show a7 cg ⟨1,bW⟩=false/\aT yL ⟨1,bW⟩=false
  decide
 |cons i l=>
  rw[if_neg F,CM];exact(yG (h.it i (by rw[a];exact Qs ..)) _).2
structure NQ (N:Nat) (c:Cq):Prop where
 l:(Ep c).length<=N
 i:∀i∈Ep c,NI N i
def Pf{N:Nat}{c:Cq}(h:GQ c)(k:NQ N c){r:List Tok}(o:aT yC (hd r)=false):JC N (nC c++r)=some (c,r):=by
 have d:(Ep c).foldl yA ⟨[],[]⟩=c:=by
  have:=nD c.al c.cl ⟨[],[]⟩;rw[Rv,Rv]at this;exact this
 unfold JC nC;cases a:Ep c with
 |nil=>
  rw[a]at d;rw[<-d];rfl
 |cons i l=>
  have e:∀j∈i::l,GI j:=λj f=>h.it j (by rw[a];exact f)
  have g:∀j∈i::l,NI N j:=λj f=>k.i j (by rw[a];exact f)
  have n:=k.l;rw[a,Qn]at n;rw[if_neg F,CM,jG (yG (e i (Qs ..)) _).1];show((jb N ⟨[],[]⟩ _).bind _)=_
  rw[GR (e i (Qs ..)) (g i (Qs ..))];show im (aT yC) (jb N) N (yA ⟨[],[]⟩ i) _=_
  rw[sP (upd:=yA) (tk:=sM) (λ_=>True) Z (λ_=>trivial) trivial o l N _ O λx m b r _=>GR (e x (QA _ m)) (g x (QA _ m)) b r];rw[a,RY]at d;rw[d]
def CN{N:Nat}{l:List Cq}(h:∀c∈l,GQ c)(f:∀c∈l,NQ N c)(hl:l.length<=N):jO N (sN l)=some (l,[]):=by
 unfold jO sN;cases l with
 |nil=>rfl
 |cons c l=>
  have i:=h c (Qs ..);have e:=CM (sep:=⟨1,gp⟩) (g:=nC) (x:=c) (l:=l) (r:=[]);rw[Rn,Rn]at e;rw[if_neg F,e,jG (yH i _).1];show pv N _=_
  unfold pv;have a:aT yC (hd (l.flatMap λy=>(⟨1,gp⟩:Tok)::nC y))=false:=by
   cases l with
   |nil=>rfl
   |cons d l=>rfl
  rw[Pf i (f c (Qs ..)) a];have j:=sP (c:=a7 gp) (g:=λl r=>(JC N r).bind λx=>some (l++[x.1],x.2)) (upd:=λb x=>b++[x]) (tk:=nC) (sep:=⟨1,gp⟩) (r:=[]) (λr=>aT yC (hd r)=false) Z (λ_=>rfl) Z Z l N [c] (by simp at hl;omega) (λx k b r m=>by
   rw[Pf (h x (QA _ k)) (f x (QA _ k)) m];rfl)
  rw[Rn,kT]at j;exact j
def Kk{N:Nat}{n:ByteArray}{l:List ByteArray}(h:∀x∈n::l,GN x)(a:l.length<=N){r:List Tok}(c:aT yC (hd r)=false):ga N (tj ⟨4,yC⟩ (λn=>[⟨1,n⟩]) (n::l)++r)=some (n::l,r):=by
 unfold ga;rw[CM,RL,sQ (h n (Qs ..)).2];show im _ _ N [n] _=_
 rw[sP (upd:=λb x=>b++[x]) (tk:=λn=>[⟨1,n⟩]) (λ_=>True) Z (λ_=>trivial) trivial c l N [n] a (λx d b r _=>by
  rw[RL,sQ (h x (QA _ d)).2];rfl),kT]
 rfl
def bd{β:Type}{o:Option α}{f:α->Option β}{a:α}{b:Option β}(h:o=some a)(k:f a=b):o.bind f=b:=by rw[h];exact k
def PU{b a:List Tok->Option (α×List Tok)}{l:List Tok}:gI false b a l=a l:=rfl
noncomputable def AW (N:Nat) (l:List Tok):Option ((List ByteArray×List Cq)×List Tok):=if aT yL (hd l)=true then(pS N l).bind λh=>(fP (aT yD) h.2).bind λu=>if decide (h.1.length=0)=true then none else(jO N u.2).bind λd=>some ((h.1,d.1),d.2)else(jO N l).bind λd=>some (([],d.1),d.2)
def Kl{W:List Tok->Prop}(N:Nat):Fol W (pS N) (iw N):=(D6 N).congr (λ_=>rfl) λ_=>rfl
def sU{W:List Tok->Prop}(N:Nat):Fol W (AW N) (lh N):=by
 refine(Fol.look (aT yL) (Fol.bind (Kl N) λh=>Fol.bind (j4 (c:=aT yD) Z) λ_=>dV (Fol.bind (Fol.f ()) λ_=>Fol.bind (nl N) λd=>Fol.pure (h,d)) (Fol.bind (nl N) λd=>Fol.pure (h,d)) (decide (h.length=0))) (Fol.bind (nl N) λd=>Fol.pure (([]:List ByteArray),d))).congr (λl=>?_) (λs=>?_)
 ·rfl
 unfold lh;split
 ·by_cases h:(iw N s).1.length=0
  ·rw[if_pos h,if_pos (decide_eq_true h)];rfl
  rw[if_neg h,if_neg (by simpa using h)]
 rfl
def Pg{N:Nat}{q:List ByteArray×List Cq}(h:GQy q)(b:∀c∈q.2,NQ N c)(hl:q.2.length<=N)(d:q.1.length<=N):AW N (jF q)=some (q,[]):=by
 obtain⟨g,ds⟩:=q;unfold AW jF;dsimp only at hl d⊢;cases g with
 |nil=>
  have a:(if 0<([]:List ByteArray).length then wm []++⟨4,yD⟩::sN ds else sN ds)=sN ds:=if_neg (Nat.lt_irrefl 0);rw[a];have e:aT yL (hd (sN ds))=false:=by
   unfold sN;cases ds with
   |nil=>decide
   |cons c l=>
    rw[if_neg F,tj];exact(yH (h.q c (Qs ..)) _).2
  rw[e,if_neg Qk,CN h.q b hl];rfl
 |cons n l=>
  have a:(if 0<(n::l).length then wm (n::l)++⟨4,yD⟩::sN ds else sN ds)=wm (n::l)++⟨4,yD⟩::sN ds:=if_pos (Sw _);rw[a,if_pos (by rfl)];have e:pS N (wm (n::l)++⟨4,yD⟩::sN ds)=some (n::l,⟨4,yD⟩::sN ds):=by
   have f:wm (n::l)++⟨4,yD⟩::sN ds=⟨4,yL⟩::(tj ⟨4,yC⟩ (λn=>[⟨1,n⟩]) (n::l)++⟨4,yR⟩::⟨4,yD⟩::sN ds):=by
    unfold wm;rw[Rj,Q0,RL]
   rw[f];unfold pS gB;exact bd (sO Z) (bd (jG Z) (PU.trans (bd (Kk h.h (by simp at d;omega) Z) (bd (sO Z) Z))))
  exact bd e (bd (sO Z) ((if_neg F).trans (bd (CN h.q b hl) Z)))
def wv{sep:Tok}{g:α->List Tok}:∀(l:List α),(∀x∈l,1<=(g x).length)->l.length<=(tj sep g l).length/\∀x∈l,(g x).length<=(tj sep g l).length:=by
 have key:∀l:List α,l.length<=(l.flatMap λy=>sep::g y).length/\∀x∈l,(g x).length<=(l.flatMap λy=>sep::g y).length:=by
  intro l;induction l with
  |nil=>exact⟨Qi _,λx a=>by cases a⟩
  |cons y l ih=>
   rw[Tm,QJ,Qn,Qn];refine⟨O,λx a=>?_⟩;rcases Qw.1 a with rfl|a
   ·omega
   have:=ih.2 x a;omega
 intro l h;cases l with
 |nil=>exact⟨Qi _,λx a=>by cases a⟩
 |cons y l=>
  have c:=h y (Qs ..);have b:=key l;rw[tj,QJ,Qn];refine⟨O,λx a=>?_⟩;rcases Qw.1 a with rfl|a
  ·omega
  have:=b.2 x a;omega
def GS(i:Sum Atm Cpr):1<=(sM i).length/\NI (sM i).length i:=by
 cases i with
 |inl a=>
  show 1<=(Eo a).length/\a.ts.length<=(Eo a).length
  have:=(wv (sep:=⟨4,yC⟩) (g:=λt=>[mE t]) a.ts λ_ _=>Qi _).1;unfold Eo sL;simp only[QJ,Qn,QC];omega
 |inr k=>exact⟨by show 1<=3;decide,trivial⟩
def NI.mono{n m:Nat}{i:Sum Atm Cpr}(h:NI n i)(b:n<=m):NI m i:=by
 cases i with
 |inl a=>exact Qu h b
 |inr k=>trivial
def GU(c:Cq):1<=(nC c).length/\NQ (nC c).length c:=by
 unfold nC;cases a:Ep c with
 |nil=>exact⟨Qi _,by rw[a];exact QF _,by rw[a];exact λi a=>by cases a⟩
 |cons i l=>
  have h:=wv (sep:=⟨4,yC⟩) (g:=sM) (i::l) λx _=>(GS x).1
  rw[if_neg F];have b:=h.1;rw[Qn]at b;exact⟨O,by rw[a];exact h.1,by rw[a];exact λx d=>(GS x).2.mono (h.2 x d)⟩
def NQ.mono{n m:Nat}{c:Cq}(h:NQ n c)(a:n<=m):NQ m c:=⟨Qu h.l a,λi b=>(h.i i b).mono a⟩
def Ph(l:List Cq):l.length<=(sN l).length/\∀c∈l,NQ (sN l).length c:=by
 unfold sN;cases l with
 |nil=>exact⟨QF _,λc a=>by cases a⟩
 |cons c l=>
  have h:=wv (sep:=⟨1,gp⟩) (g:=nC) (c::l) λx _=>(GU x).1
  rw[if_neg F];exact⟨h.1,λx b=>(GU x).2.mono (h.2 x b)⟩
def Km(q:List ByteArray×List Cq):q.2.length<=(jF q).length/\(∀c∈q.2,NQ (jF q).length c)/\q.1.length<=(jF q).length:=by
 have h:=Ph q.2;unfold jF;split
 ·have b:=(wv (sep:=⟨4,yC⟩) (g:=λn=>[⟨1,n⟩]) q.1 λ_ _=>Qi _).1;have e:(wm q.1++⟨4,yD⟩::sN q.2).length=(tj ⟨4,yC⟩ (λn=>[(⟨1,n⟩:Tok)]) q.1).length+3+(sN q.2).length:=by
   unfold wm;simp only[QJ,Qn,QC];omega
  rw[e];exact⟨O,λc a=>(h.2 c a).mono O,O⟩
 exact⟨h.1,h.2,O⟩
def kU{q:List ByteArray×List Cq}{x:ByteArray}(h:GQy q)(p:fA q=some x)(r:x.size<=16384):aC x=(q,0):=by
 obtain⟨s,b,e⟩:=wt h;rw[p]at b;injection b with b
 subst b;have f:=e.l [] Sp.nil;rw[Rn]at f;have i:dO (x.size+1) x.data.toList=some (jF q):=by
  have:nB x.data.toList=dO (x.size+1) x.data.toList:=by unfold nB;rw[dT]
  rw[<-this,f];show(dO 1 []).map _=_
  show some (jF q++[])=_
  rw[Rn]
 have j:¬Lib.indexByte x.data.toList 10≥0:=λg=>by
  have key:∀l:List UInt8,(∀c∈l,c≠10)->Lib.indexByte l 10= -1:=by
   intro l;induction l with
   |nil=>exact λ_=>rfl
   |cons c l ih=>
    intro h;rw[Lib.indexByte,if_neg (by simpa using h c (Qs ..)),ih λd hd=>h d (QA _ hd)];rfl
  rw[key _ e.n]at g;exact absurd g I
 have a:=Km q;obtain⟨_,k⟩:=oA (W:=λ_=>True) (sU (jF q).length) (jF q) trivial;obtain⟨m,o⟩:=k q (Pg h a.2.1 a.1 a.2.2);rw[Cu O j,i];show(if(lh (jF q).length (PS.mk (jF q) 0 false)).2.fin=true then _ else _)=_
 rw[if_pos m,o]
