import Derived.Test.YtmhcanmapkenbaaGreatDoorA39
set_option linter.defProp false
open Go.Proofs.Tryz
namespace Go.Proofs.YtmhcanmapkenbaaGreatDoor
open Lib renaming hid→J
noncomputable def mG (ops:List Oper) (L:Array Bool) (j k:Nat):Bool:=L.getD k false&&(match ops[k]? with|some o=> !gc o.op||Nat.blt (eu ops k) j|none=>true)
def Bt{ops:List Oper}{L:Array Bool}{j k:Nat}{o:Oper}(b:ops[k]? =some o)(a:gc o.op=false)(hl:L.getD k false=true):mG ops L j k=true:=by
 unfold mG;rw[hl,b,Ri];simp[a]
def tF{ops:List Oper}{L:Array Bool}{j k:Nat}{o:Oper}(b:ops[k]? =some o)(hl:L.getD k false=true)(a:eu ops k<j):mG ops L j k=true:=by
 unfold mG;rw[hl,b,Ri];simp only[jU a,Bool.or_true]
def xa{ops:List Oper}{L:Array Bool}{j k:Nat}{o:Oper}(d:ops[k]? =some o)(b:gc o.op=true)(c:¬eu ops k<j):mG ops L j k=false:=by
 unfold mG;have:Nat.blt (eu ops k) j=false:=by cases a:Nat.blt (eu ops k) j with|false=>rfl|true=>exact absurd (cU a) c
 rw[d];simp only[b,this];simp
def Ix{ops:List Oper}{L L':Array Bool}{j j' k:Nat}{o:Oper}(b:ops[k]? =some o)(hl:L'.getD k false=L.getD k false)(d:gc o.op=true->(eu ops k<j'↔eu ops k<j)):mG ops L' j' k=mG ops L j k:=by
 cases a:gc o.op with
 |false=>
  unfold mG;rw[hl,b];simp[a]
 |true=>
  by_cases h:eu ops k<j
  ·cases c:L.getD k false with
   |true=>rw[tF b (hl.trans c) ((d a).2 h),tF b c h]
   |false=>unfold mG;rw[hl,c];rfl
  rw[xa b a h,xa b a λe=>h ((d a).1 e)]
open Classical in
noncomputable def gV (ops:List Oper) (val:Nat->Value) (sl:Slo) (L:Array Bool) (j t:Nat):Value:=
 if h:∃k,(∃o,ops[k]? =some o/\o.dst=some t)/\L.getD k false=true then(if mG ops L j h.choose=true then val h.choose else .chan (some 0))else jq sl t
section
variable {ops:List Oper} {val:Nat->Value} {sl:Slo} {L L':Array Bool} {t n k j j':Nat} {o:Oper}
def Dc(d:DrF ops n)(c:ops[k]? =some o)(hd:o.dst=some t)(hl:L.getD k false=true):gV ops val sl L j t=if mG ops L j k=true then val k else .chan (some 0):=by
 have h:∃k,(∃o,ops[k]? =some o/\o.dst=some t)/\L.getD k false=true:=⟨k,⟨o,c,hd⟩,hl⟩;unfold gV;rw[dif_pos h];obtain⟨⟨e,b,a⟩,_⟩:=h.choose_spec;rw[d.ne _ _ _ _ _ b c a hd]
def xb(a:DrF ops n)(c:ops[k]? =some o)(hd:o.dst=some t)(hl:L.getD k false=true)(b:mG ops L j k=true):gV ops val sl L j t=val k:=by rw[Dc a c hd hl,if_pos b]
def NV(a:DrF ops n)(c:ops[k]? =some o)(hd:o.dst=some t)(hl:L.getD k false=true)(b:mG ops L j k=false):gV ops val sl L j t=.chan (some 0):=by rw[Dc a c hd hl,if_neg (by rw[b];simp)]
def jI(h:∀(k:Nat) o,ops[k]? =some o->o.dst=some t->L.getD k false=false):gV ops val sl L j t=jq sl t:=by
 unfold gV;rw[dif_neg];rintro⟨k,⟨o,a,hd⟩,hl⟩;rw[h k o a hd]at hl;cases hl
def xc(i:DrF ops n)(h:∀(k:Nat) o,ops[k]? =some o->o.dst=some t->L'.getD k false=L.getD k false/\(gc o.op=true->(eu ops k<j'↔eu ops k<j))):gV ops val sl L' j' t=gV ops val sl L j t:=by
 by_cases f:∃(k:Nat) (e:Oper),ops[k]? =some e/\e.dst=some t
 ·obtain⟨k,e,a,b⟩:=f;obtain⟨l,p⟩:=h k e a b;cases hl:L.getD k false with
  |true=>rw[Dc i a b hl,Dc i a b (l.trans hl),Ix a l p]
  |false=>rw[jI λm g d c=>by rw[i.ne m k g e t d a c b];exact l.trans hl,jI λm g d c=>by rw[i.ne m k g e t d a c b];exact hl]
 rw[jI λk e a b=>absurd ⟨k,e,a,b⟩ f,jI λk e a b=>absurd ⟨k,e,a,b⟩ f]
end
def KX(l:List Value)(n k:Nat)(t:Nat)(h:l.length<=8*k)(a:t<l.length):jq ⟨n,chk k l⟩ t=s8 l t:=(Ba k l t h a).2
def Iy(l:List Value)(n k:Nat)(t:Nat)(a:l.length<=t):jq ⟨n,chk k l⟩ t=.chan (some 0):=by
 rcases wJ k l t with h|h
 ·show s8 (slc (chk k l) (t/8)) (t%8)=_
  rw[h,iA,Qp,Rl a];rfl
 exact h
def NW{b x:Bool}(h:b=true)(k:x=true):cond b x false=true:=by rw[h];exact k
structure Pd (P:Program) (ops:List Oper) (vs:List (Bool×Value)) (Hs:List AH) (w:World) (E:EE) (W:World) (a:Act) (i:Nat) (o:Oper) (p:Nat):Prop where
 yes:∀v,vs[i]? =some (true,v)->∃(arr:Array Value) (e:TypeId) (cs:List Value) (H:AH),Hs[eu ops i]? =some H/\Hs[eu ops i+1]? =some (H.grow cs H.nx [])/\H.nx<16384/\w.heap.size<=p/\W.heap[p]? =some (.cells arr e (0,0))/\E.bl p=none/\(∀n,E.ml n≠some p)/\cs.length<=arr.size/\VL P E (arr.toList.take cs.length) cs/\∀E':EE,E.Le E'->E'.lo H.nx=some (p,0)->E'.bl p=some arr.size->E'.tb p=some e->∀d,o.dst=some d->VL P E' [a.tmps.getD d undef] [v]
 no:∀v,vs[i]? =some (false,v)->Hs[eu ops i+1]? =Hs[eu ops i]? /\∀d,o.dst=some d->VL P E [a.tmps.getD d undef] [v]
structure DI (P:Program) (base:Nat) (ops:List Oper) (val:Nat->Value) (vs:List (Bool×Value)) (sl:Slo) (Hs:List AH) (E0:EE) (w:World) (L:Array Bool) (a:Act) (W:World) (E:EE) (j:Nat) (M:AH) (pb:Nat->Nat):Prop where
 hM:Hs[j]? =some M
 rel:RelA P E M base W
 fr:Fr E0 E w W
 lo:∀(i:Nat) o,ops[i]? =some o->bo o.op=true->eu ops i<j->L.getD i false=true
 nf:∀(i:Nat) o,ops[i]? =some o->bo o.op=true->gc o.op=false->L.getD i false=true->eu ops i<j
 slv:∀t,VL P E [a.tmps.getD t undef] [gV ops val sl L j t]
 pd:∀(i:Nat) o,ops[i]? =some o->gc o.op=true->L.getD i false=true->j<=eu ops i->Pd P ops vs Hs w E W a i o (pb i)
 inj:∀(i k:Nat) o o' v v',ops[i]? =some o->ops[k]? =some o'->gc o.op=true->gc o'.op=true->L.getD i false=true->L.getD k false=true->j<=eu ops i->j<=eu ops k->vs[i]? =some (true,v)->vs[k]? =some (true,v')->pb i=pb k->i=k
section
variable {P:Program} {base n:Nat} {ops:List Oper} {val:Nat->Value} {vs:List (Bool×Value)} {sl:Slo} {Hs:List AH} {E0 E:EE} {w W:World} {L:Array Bool} {a:Act} {j:Nat} {M:AH} {pb:Nat->Nat}
def Pd.le{E':EE}{i p:Nat}{o:Oper}(h:Pd P ops vs Hs w E W a i o p){W':World}{j:Act}(f:E.Le E')(s:p<W.heap.size->E.bl p=none->(∀n,E.ml n≠some p)->W'.heap[p]? =W.heap[p]? /\E'.bl p=none/\∀n,E'.ml n≠some p)(k:∀d,o.dst=some d->j.tmps.getD d undef=a.tmps.getD d undef):Pd P ops vs Hs w E' W' j i o p where
 yes v hv:=by
  obtain⟨arr,e,cs,H,t,u,x,y,l,z,A,B,C,g⟩:=h.yes v hv;obtain⟨D,F,G⟩:=s (QK.1 l).1 z A;exact⟨arr,e,cs,H,t,u,x,y,D.trans l,F,G,B,C.mono f,λc b m q r d hd=>by rw[k d hd];exact g c (f.trans b) m q r d hd⟩
 no v hv:=⟨(h.no v hv).1,λd hd=>by rw[k d hd];exact((h.no v hv).2 d hd).mono f⟩
def DI.absorb(hF:DrF ops n)(hb:base<=w.heap.size)(hv:∀(i:Nat) o,ops[i]? =some o->∃b v,vs[i]? =some (b,v)/\val i=v)(h:DI P base ops val vs sl Hs E0 w L a W E j M pb){i:Nat}{o:Oper}(q:ops[i]? =some o)(hm:bo o.op=true)(J:eu ops i=j)(hl:L.getD i false=true):∃E' M',DI P base ops val vs sl Hs E0 w L a W E' (j+1) M' pb:=by
 have y:gc o.op=true:=by
  cases hf:gc o.op with
  |true=>rfl
  |false=>have:=h.nf i o q hm hf hl;omega
 obtain⟨b,v,x,D⟩:=hv i o q;have hp:=h.pd i o q y hl O;have B:∀(k:Nat) f,ops[k]? =some f->bo f.op=true->k≠i->eu ops k≠j:=λk f c m K e=>K (Iv c q m hm O)
 have hg:∀E':EE,E.Le E'->(∀d,o.dst=some d->VL P E' [a.tmps.getD d undef] [v])->∀t,VL P E' [a.tmps.getD t undef] [gV ops val sl L (j+1) t]:=λE' hE hd t=>by
  by_cases s:o.dst=some t
  ·rw[xb hF q s hl (tF q hl O),D];exact hd t s
  rw[xc (L:=L) (j:=j) hF λk f c Y=>⟨Z,λg=>by
   have:=B k f c (eY g) λe=>by subst e;rw[q]at c;cases c;exact s Y
   omega⟩]
  exact(h.slv t).mono hE
 have A:∀(k:Nat) f,ops[k]? =some f->bo f.op=true->eu ops k<j+1->L.getD k false=true:=λk f c m K=>by
  by_cases z:k=i
  ·subst z;exact hl
  exact h.lo k f c m (by have:=B k f c m z;omega)
 have C:∀(k:Nat) f,ops[k]? =some f->bo f.op=true->gc f.op=false->L.getD k false=true->eu ops k<j+1:=λk f c m g l=>Nat.lt_succ_of_lt (h.nf k f c m g l)
 cases b with
 |true=>
  obtain⟨arr,e,cs,H,N,p2,p3,p4,p5,p6,p7,p8,p9,a0⟩:=hp.yes v x;have X:H=M:=by
   rw[J,h.hM]at N;exact(QS N).symm
  subst X;obtain⟨E',r1,G,r3,r4,r5,r6,r7⟩:=h.rel.absorb p3 p5 (Qu hb p4) p6 p8 p9;refine⟨E',_,by rw[<-J];exact p2,r1,⟨h.fr.le.trans G,h.fr.os,h.fr.tape,h.fr.output,h.fr.size,h.fr.block,λI r=>(r5 I O).trans (h.fr.old I r),λn I r=>h.fr.mold n I (by rw[<-r6];exact r)⟩,A,C,hg E' G (a0 E' G r3 r4 r7),λk f c g l K=>?_,λi1 k o1 o2 v1 v2 Q R S T U V g7 g8=>h.inj i1 k o1 o2 v1 v2 Q R S T U V O O⟩;have u:=h.pd k f c g l O;obtain⟨bk,vk,F,_⟩:=hv k f c;cases bk with
  |true=>exact u.le G (λ_ q6 q7=>⟨Z,(r5 _ λe=>by have:=h.inj k i f o vk v c q g y l hl O O F x e;subst this;omega).trans q6,by rw[r6];exact q7⟩) λ_ _=>rfl
  |false=>exact⟨λv' p=>(by rw[F]at p;cases p),λv' p=>⟨(u.no v' p).1,λd hd=>((u.no v' p).2 d hd).mono G⟩⟩
 |false=>
  obtain⟨N,p2⟩:=hp.no v x;exact⟨E,M,by rw[<-J,N,J];exact h.hM,h.rel,h.fr,A,C,hg E (.refl _) p2,λk f c g l K=>h.pd k f c g l O,λi1 k o1 o2 v1 v2 Q R S T U V g7 g8=>h.inj i1 k o1 o2 v1 v2 Q R S T U V O O⟩
def DI.max(f:DrF ops n)(g:base<=w.heap.size)(k:∀(i:Nat) o,ops[i]? =some o->∃b v,vs[i]? =some (b,v)/\val i=v):∀(m:Nat) (E:EE) (j:Nat) (M:AH),Hs.length-j=m->DI P base ops val vs sl Hs E0 w L a W E j M pb->∃E' j' d,DI P base ops val vs sl Hs E0 w L a W E' j' d pb/\∀(i:Nat) o,ops[i]? =some o->bo o.op=true->eu ops i=j'->L.getD i false=false
 |0,E,j,M,e,h=>by
  have:=(Qm.1 h.hM).1;omega
 |m+1,E,j,M,e,h=>by
  by_cases c:∃(i:Nat) (o:Oper),ops[i]? =some o/\bo o.op=true/\eu ops i=j/\L.getD i false=true
  ·obtain⟨i,o,l,p,q,r⟩:=c;obtain⟨E',d,s⟩:=h.absorb f g k l p q r;exact DI.max f g k m E' (j+1) d O s
  exact⟨E,j,M,h,λi o u e t=>by
   cases hl:L.getD i false with
   |false=>rfl
   |true=>exact absurd ⟨i,o,u,e,t,hl⟩ c⟩
end
def xd{a:Act}{d:Nat}{u:Value}(h:d<a.tmps.size):(a.put (some d) u).tmps.getD d undef=u:=by
 show(a.tmps.setIfInBounds d u).getD d undef=u
 rw[QG,Array.getElem?_setIfInBounds,if_pos Z,if_pos h];rfl
def mC{a:Act}{d:Option Nat}{t:Nat}{u:Value}(h:d≠some t):(a.put d u).tmps.getD t undef=a.tmps.getD t undef:=by
 cases d with
 |none=>rfl
 |some d=>
  show(a.tmps.setIfInBounds d u).getD t undef=_
  rw[QG,Array.getElem?_setIfInBounds,if_neg (λe=>h (by rw[e])),QG]
section
variable {P:Program} {base:Nat}
def KY(b3:P.follows .mixedOrders=true):Ij P base (Bn P):=by
 intro call hc ops sl A sl' A' he id E0 w a hR hG hS;unfold Bn at he;obtain⟨i8,he⟩:=aW he;have hF:=EM i8;obtain⟨⟨vs,hs,s',H'⟩,h1,he⟩:=aS he;obtain⟨h2,he⟩:=aW he;cases he;obtain⟨f1,f2,f3,f4,f5⟩:=Is h1;generalize l6:(λi:Nat=>((vs[i]?).getD (false,undef)).2)=val;have a0:∀(i:Nat) b v,vs[i]? =some (b,v)->val i=v:=λi b v h=>by rw[<-l6];simp[h]
 have k0:∀(i:Nat) o,ops[i]? =some o->∃b v,vs[i]? =some (b,v)/\val i=v:=λi o U=>by
  obtain⟨b,v,_,_,hv,_⟩:=f5 i o U;exact⟨b,v,hv,a0 i b v hv⟩
 have k4:=hS.wf;refine fH (λL a' W=>L.size=ops.length/\Closed ops.toArray L/\a'.tmps.size=sl.n/\a'.defers=[]/\∃E j M pb,DI P base ops val vs sl (A::hs) E0 w L a' W E j M pb/\∀(i:Nat) o,ops[i]? =some o->bo o.op=true->eu ops i=j->L.getD i false=false) b3 hF.acy ?_ ?_ ?_
 ·have c3:∀k:Nat,(Array.replicate ops.toArray.size false).getD k false=false:=λk=>by
   cases hl:(Array.replicate ops.toArray.size false).getD k false with
   |false=>rfl
   |true=>exact absurd hl ko
  refine⟨F,gr _,hS.size,hS.dfr,E0,0,A,λ_=>0,⟨Z,hR.later (Qi _) (λ_ _=>rfl),⟨.refl _,Z,Z,Z,Qi _,λ_ _ _ _=>rfl,λ_ _=>rfl,λ_ _ h=>.inl h⟩,λi o _ _ h=>absurd h (RZ _),λi o _ _ _ h=>(by rw[c3]at h;cases h),λt=>?_,λi o _ _ h=>(by rw[c3]at h;cases h),λi k o r v v' _ _ _ _ h=>(by rw[c3]at h;cases h)⟩,λi o _ _ _=>c3 i⟩;rw[jI λk o _ _=>c3 k];exact hS.slot t
 ·rintro L a' W i o p8 c9 U hw ⟨f0,d1,a3,d2,E,j,M,pb,C,b0⟩;have U:ops[i]? =some o:=by simpa using U
  have hi:i<ops.length:=(Qm.1 U).1;have i9:L.getD i false=false:=by
   rw[QG]at c9⊢;rw[QR O]at c9⊢;exact c9
  obtain⟨b,v,H,H1,hv,hH,n0,a5,i4,p0⟩:=f5 i o U;have e2:Closed ops.toArray (L.setIfInBounds i true):=d1.step (by simpa using U) hw;have a2:∀k,go (fW ops []) i k=true->k≠i->L.getD k false=true:=λk y a4=>by
   have:=Bs e2 y (d8 O);rwa[bU (λe=>a4 e.symm)]at this
  have n1:∀(k:Nat) r,ops[k]? =some r->bo r.op=true->L.getD k false=true->(∀(m:Nat) J,m<k->ops[m]? =some J->bo J.op=true->L.getD m false=true)->eu ops k<j:=λk r f I G X=>by
   refine Nat.lt_of_not_le λi3=>?_
   have Y:k<ops.length:=(Qm.1 f).1;have i8:=kj f;rw[if_pos I]at i8;obtain⟨m,J,g1,g2,g3,g4⟩:=Iw (ops:=ops) (j:=j) (k+1) O O;have g5:=b0 m J g2 g3 g4;have g6:L.getD m false=true:=by
    rcases Rm m k with g|g
    ·exact X m J g g2 g3
    have:m=k:=O
    rw[this];exact G
   rw[g5]at g6;cases g6
  have e3:∀(k:Nat) r,ops[k]? =some r->bo r.op=true->go (fW ops []) i k=true->k≠i->eu ops k<j:=λk r f Q y a4=>by
   have i3:=Br hF.acy y hi;cases D:gc r.op with
   |false=>exact C.nf k r f Q D (a2 k y a4)
   |true=>exact n1 k r f Q (a2 k y a4) λm J p6 T l3=>a2 m (hF.flo i k m o r J U f T D y l3 p6) O
  have i2:∀(k:Nat) r,ops[k]? =some r->bo r.op=true->go (fW ops []) k i=true->j<=eu ops k:=λk r f Q y=>by
   refine Nat.le_of_not_lt λh=>?_
   have:=Bs d1 y (C.lo k r f Q h);rw[i9]at this;cases this
  have e4:bo o.op=true->¬eu ops i<j:=λQ h=>by
   have:=C.lo i o U Q h;rw[i9]at this;cases this
  -- canonical slots
  have l0:∀t∈KW ops o.guard++qh o.op.operands.toList,gV ops val sl L j t=jq (iB sl ops vs i) t:=λt ht=>by
   by_cases a9:∃(k:Nat) (r:Oper),ops[k]? =some r/\r.dst=some t
   ·obtain⟨k,r,f,hd⟩:=a9;have Y:k<ops.length:=(Qm.1 f).1;obtain⟨a4,y⟩:=hF.dep i o t k r U ht f hd;rcases y with y|y
    ·have i3:=Br hF.acy y hi;have b5:=a2 k y a4;have c0:mG ops L j k=true:=by
      cases D:gc r.op with
      |false=>exact Bt f D b5
      |true=>exact tF f b5 (e3 k r f (eY D) y a4)
     obtain⟨b,v,_,_,hv,_⟩:=f5 k r f;rw[xb hF f hd b5 c0,a0 k b v hv];have a3:=hF.lt k r t f hd;exact(tE ops vs sl i k r f hd O hv a3 (k4 t a3) λk' J b2 T a1=>b2 (hF.ne k' k J r t T f a1 hd)).symm
    have i3:=Br hF.acy y Y;have b5:L.getD k false=false:=by
     cases hl:L.getD k false with
     |false=>rfl
     |true=>
      have:=Bs d1 y hl;rw[i9]at this;cases this
    rw[jI λk' J T a1=>by rw[hF.ne k' k J r t T f a1 hd];exact b5];exact(jo ops vs sl i λk' J b2 T a1=>by
     have:=hF.ne k' k J r t T f a1 hd;omega).symm
   rw[jI λk r f hd=>absurd ⟨k,r,f,hd⟩ a9];exact(jo ops vs sl i λk r _ f hd=>a9 ⟨k,r,f,hd⟩).symm
  -- the abstract slots at this point
  obtain⟨N,hN⟩:∃N,∀t∈KW ops o.guard++qh o.op.operands.toList,t<N:=by
   generalize KW ops o.guard++qh o.op.operands.toList=l;induction l with
   |nil=>exact⟨0,λt h=>by cases h⟩
   |cons x l ih=>
    obtain⟨N,hN⟩:=ih;refine⟨N+x+1,λt h=>?_⟩;rcases Qw.1 h with rfl|h
    ·omega
    have:=hN t h;omega
  let S:Slo:=⟨sl.n,chk N ((List.range N).map (gV ops val sl L j))⟩
  have c2:((List.range N).map (gV ops val sl L j)).length=N:=F
  have e1:∀t,t<N->jq S t=gV ops val sl L j t:=λt ht=>by
   show jq ⟨sl.n,chk N _⟩ t=_
   rw[KX _ _ _ _ (by rw[c2];omega) (by rw[c2];exact ht),iA,Qp,QL,List.getElem?_range ht];rfl
  have h4:∀t,VL P E [a'.tmps.getD t undef] [jq S t]:=λt=>by
   by_cases ht:t<N
   ·rw[e1 t ht];exact C.slv t
   have:jq S t=.chan (some 0):=Iy _ _ _ _ (by rw[c2];omega);rw[this];exact .any _ .nil
  have l1:∀t∈KW ops o.guard++qh o.op.operands.toList,jq S t=jq (iB sl ops vs i) t:=λt ht=>by rw[e1 t (hN t ht),l0 t ht]
  have m4:t8 ops S o.guard=some b:=by
   rw[<-n0];exact Bq λt ht=>l1 t (Sh _ ht)
  have k3:=C4 (o:=o) h4 m4;have c4:∀K,jr P call S K o=jr P call (iB sl ops vs i) K o:=λK=>Bl λx hx=>by
   cases x with
   |tmp t=>exact l1 t (Sc _ (uY hx))
   |const _=>rfl
   |global _=>rfl
   |func _=>rfl
  have c1:bo o.op=true->gc o.op=false->j=eu ops i:=λQ D=>by
   refine Nat.le_antisymm (Nat.le_of_not_lt (e4 Q)) (Nat.le_of_not_lt λh=>?_);obtain⟨k,r,g1,g2,g3,g4⟩:=Iw (ops:=ops) (j:=j) i O h;have:=a2 k (hF.chain i k o r U g2 Q D g3 g1) O;rw[b0 k r g2 g3 g4]at this;cases this
  have d3:bo o.op=false->b=true->∃A2,jr P call S M o=some (v,A2)/\A2.nx=M.nx:=λQ hb=>by
   subst hb;rw[if_pos Z]at a5;rw[c4];have hM:=C.hM;cases hs with
   |nil=>
    have n2:j=0:=by
     have:=(Qm.1 hM).1;simp at this;omega
    have p4:eu ops i=0:=by
     have:=(Qm.1 hH).1;simp at this;omega
    subst n2;rw[p4]at hH;rw[hM]at hH;cases hH;exact⟨H1,a5,by rw[p0 Q]⟩
   |cons h0 hs'=>
    refine It h2 i o v U hv Q j M hM ?_;unfold Ir;have key:∀(l:List Oper) (s:Nat),(∀k r,l[k]? =some r->ops[s+k]? =some r)->lR (λk o=>cond (bo o.op) (cond (go (fW ops []) (0+i) k) (Nat.blt (eu ops k) j) true&&cond (go (fW ops []) k (0+i)) (Nat.ble j (eu ops k)) true) true) l s=true:=λl=>by
     induction l with
     |nil=>intro s _;rfl
     |cons x l ih=>
      intro s hl;have hx:ops[s]? =some x:=by simpa using hl 0 x Z
      have h5:cond (bo x.op) (cond (go (fW ops []) (0+i) s) (Nat.blt (eu ops s) j) true&&cond (go (fW ops []) s (0+i)) (Nat.ble j (eu ops s)) true) true=true:=by
       rw[QT];cases b3:bo x.op with
       |false=>rfl
       |true=>
        have a4:s≠i:=λe=>by
         subst e;rw[U]at hx;cases hx;rw[Q]at b3;cases b3
        show(cond (go (fW ops []) i s) (Nat.blt (eu ops s) j) true&&cond (go (fW ops []) s i) (Nat.ble j (eu ops s)) true)=true
        rw[Qh];constructor
        ·cases hd:go (fW ops []) i s with
         |false=>rfl
         |true=>exact jU (e3 s x hx b3 hd a4)
        cases hd:go (fW ops []) s i with
        |false=>rfl
        |true=>exact Rh▸(i2 s x hx b3 hd)
      exact NW h5 (ih (s+1) λk r Y=>by
       have:=hl (k+1) r (by simpa using Y);rw[show s+1+k=s+(k+1) by omega];exact this)
    exact key ops 0 λk r Y=>by rw[QT];exact Y
  have l4:(L.setIfInBounds i true).size=ops.length:=by simpa using f0
  have e7:∀u:Value,(a'.put o.dst u).tmps.size=sl.n/\(a'.put o.dst u).defers=[]:=λu=>by
   cases hd:o.dst with
   |none=>exact⟨a3,d2⟩
   |some d=>exact⟨by show(a'.tmps.setIfInBounds d u).size=_;rw[Array.size_setIfInBounds];exact a3,d2⟩
  have e5:∀(k:Nat) r d,ops[k]? =some r->k≠i->r.dst=some d->o.dst≠some d:=λk r d f Y hd R=>Y (hF.ne k i r o d f U hd R)
  have done:∀(u:Value) (W':World) (E':EE) (j':Nat) (M':AH) k6,DI P base ops val vs sl (A::hs) E0 w (L.setIfInBounds i true) (a'.put o.dst u) W' E' j' M' k6->(L.setIfInBounds i true).size=ops.length/\Closed ops.toArray (L.setIfInBounds i true)/\(a'.put o.dst u).tmps.size=sl.n/\(a'.put o.dst u).defers=[]/\∃E j M pb,DI P base ops val vs sl (A::hs) E0 w (L.setIfInBounds i true) (a'.put o.dst u) W' E j M pb/\∀(i':Nat) o,ops[i']? =some o->bo o.op=true->eu ops i'=j->(L.setIfInBounds i true).getD i' false=false:=λu W' E' j' M' k6 h=>by
   obtain⟨E2,j2,M2,g1,g2⟩:=DI.max hF hR.base k0 _ E' j' M' Z h;exact⟨l4,e2,(e7 u).1,(e7 u).2,E2,j2,M2,k6,g1,g2⟩
  -- an operation that is not a row's making
  have fin:gc o.op=false->∀(u:Value) (W':World) (E':EE) (M':AH),RelA P E' M' base W'->VL P E' [u] [v]->Fr E E' W W'->(bo o.op=true->M'=H1)->(bo o.op=false->M'=M)->∃j',DI P base ops val vs sl (A::hs) E0 w (L.setIfInBounds i true) (a'.put o.dst u) W' E' j' M' pb:=λD u W' E' M' g1 g2 g3 g4 g5=>by
   have i0:∀(k:Nat) r,ops[k]? =some r->gc r.op=true->k≠i:=λk r f B e=>by
    subst e;rw[U]at f;cases f;rw[D]at B;cases B
   have b1:∀(k:Nat) r,ops[k]? =some r->bo r.op=true->k≠i->(eu ops k<(if bo o.op=true then j+1 else j)↔eu ops k<j):=λk r f I Y=>by
    split
    ·next Q=>
     have h6:=c1 Q D;have:eu ops k≠eu ops i:=λe=>Y (Iv f U I Q e)
     omega
    exact TA
   refine⟨if bo o.op=true then j+1 else j,?_,g1,C.fr.trans g3,λk r f I Y=>?_,λk r f I B G=>?_,λt=>?_,λk r f B G Y=>?_,λi1 k o1 o2 v1 v2 q1 q2 q3 q4 q5 q6 q7 q8=>?_⟩
   ·split
    ·next Q=>rw[c1 Q D,g4 Q];exact i4 Q
    next Q=>rw[g5 (by simpa using Q)];exact C.hM
   ·by_cases z:k=i
    ·subst z;exact d8 O
    rw[bU (λe=>z e.symm)];exact C.lo k r f I ((b1 k r f I z).1 Y)
   ·by_cases z:k=i
    ·subst z;rw[U]at f;cases f;rw[if_pos I,<-c1 I D];exact SB j
    rw[bU (λe=>z e.symm)]at G;exact(b1 k r f I z).2 (C.nf k r f I B G)
   ·by_cases hd:o.dst=some t
    ·have p7:=hF.lt i o t U hd;rw[xb hF U hd (d8 O) (Bt U D (d8 O)),a0 i b v hv,hd,xd (by rw[a3];exact p7)];exact g2
    rw[mC hd,xc (L:=L) (j:=j) hF λk r f R=>?_]
    ·exact(C.slv t).mono g3.le
    have z:k≠i:=λe=>by subst e;rw[U]at f;cases f;exact hd R
    exact⟨bU λe=>z e.symm,λB=>b1 k r f (eY B) z⟩
   ·have z:=i0 k r f B;rw[bU (λe=>z e.symm)]at G;have b2:j<=eu ops k:=Nat.le_of_not_lt λh=>absurd ((b1 k r f (eY B) z).2 h) (Tn.2 Y)
    exact(C.pd k r f B G b2).le g3.le (λp1 p2 p3=>⟨g3.block _ p1 p2 p3,(g3.old _ p1).trans p2,λn e=>by
     rcases g3.mold n _ e with h|h
     ·exact p3 n h
     omega⟩) λd hd=>mC (e5 k r d f z hd)
   have k1:=i0 i1 o1 q1 q3;have k2:=i0 k o2 q2 q4;rw[bU (λe=>k1 e.symm)]at q5;rw[bU (λe=>k2 e.symm)]at q6;exact C.inj i1 k o1 o2 v1 v2 q1 q2 q3 q4 q5 q6 (Nat.le_of_not_lt λh=>absurd ((b1 i1 o1 q1 (eY q3) k1).2 h) (Tn.2 q7)) (Nat.le_of_not_lt λh=>absurd ((b1 k o2 q2 (eY q4) k2).2 h) (Tn.2 q8))
  -- a row's making
  have e0:gc o.op=true->∀(u:Value) (W':World) (q:Nat),W.heap.size<=W'.heap.size->(∀p,p<W.heap.size->W'.heap[p]? =W.heap[p]?)->W'.os=W.os->W'.tape=W.tape->W'.output=W.output->(b=true->q=W.heap.size)->Pd P ops vs (A::hs) w E W' (a'.put o.dst u) i o q->DI P base ops val vs sl (A::hs) E0 w (L.setIfInBounds i true) (a'.put o.dst u) W' E j M (λk=>if k=i then q else pb k):=λD u W' q g1 g2 g3 g4 g5 g6 g7=>by
   have Q:=eY D;have l2:=e4 Q;have e6:∀(k:Nat) r v',ops[k]? =some r->gc r.op=true->L.getD k false=true->j<=eu ops k->vs[k]? =some (true,v')->pb k<W.heap.size:=λk r v' f B G Y V=>by
    obtain⟨_,_,_,_,_,_,_,_,p5,_⟩:=(C.pd k r f B G Y).yes v' V;exact(QK.1 p5).1
   refine⟨C.hM,C.rel.later g1 g2,C.fr.trans ⟨.refl _,g3,g4,g5,g1,λp hp _ _=>g2 p hp,λ_ _=>rfl,λ_ _ h=>.inl h⟩,λk r f I Y=>?_,λk r f I B G=>?_,λt=>?_,λk r f B G Y=>?_,λi1 k o1 o2 v1 v2 q1 q2 q3 q4 q5 q6 q7 q8 q9 d4 b4=>?_⟩
   ·have z:k≠i:=λe=>by subst e;exact l2 Y
    rw[bU (λe=>z e.symm)];exact C.lo k r f I Y
   ·have z:k≠i:=λe=>by subst e;rw[U]at f;cases f;rw[D]at B;cases B
    rw[bU (λe=>z e.symm)]at G;exact C.nf k r f I B G
   ·by_cases hd:o.dst=some t
    ·rw[NV hF U hd (d8 O) (xa U D l2)];exact .any _ .nil
    rw[mC hd,xc (L:=L) (j:=j) hF λk r f R=>?_]
    ·exact C.slv t
    have z:k≠i:=λe=>by subst e;rw[U]at f;cases f;exact hd R
    exact⟨bU λe=>z e.symm,λ_=>TA⟩
   ·show Pd P ops vs (A::hs) w E W' (a'.put o.dst u) k r (if k=i then q else pb k)
    by_cases z:k=i
    ·subst z;rw[U]at f;cases f;rw[if_pos Z];exact g7
    rw[bU (λe=>z e.symm)]at G;rw[if_neg z];exact(C.pd k r f B G Y).le (.refl _) (λp1 p2 p3=>⟨g2 _ p1,p2,p3⟩) λd hd=>mC (e5 k r d f z hd)
   have b4:(if i1=i then q else pb i1)=(if k=i then q else pb k):=b4;by_cases k1:i1=i
   ·by_cases k2:k=i
    ·rw[k1,k2]
    rw[if_pos k1,if_neg k2]at b4;rw[bU (λe=>k2 e.symm)]at q6;have:=e6 k o2 v2 q2 q4 q6 q8 d4;have hb:b=true:=by subst k1;rw[hv]at q9;cases q9;rfl
    have:=g6 hb;omega
   rw[bU (λe=>k1 e.symm)]at q5;by_cases k2:k=i
   ·rw[if_neg k1,if_pos k2]at b4;have:=e6 i1 o1 v1 q1 q3 q5 q7 q9;have hb:b=true:=by subst k2;rw[hv]at d4;cases d4;rfl
    have:=g6 hb;omega
   rw[if_neg k1,if_neg k2]at b4;rw[bU (λe=>k2 e.symm)]at q6;exact C.inj i1 k o1 o2 v1 v2 q1 q2 q3 q4 q5 q6 q7 q8 q9 d4 b4
  unfold wpList;rw[k3];cases b with
  |true=>
   rw[if_pos Z]at a5⊢;refine .inl ?_;cases D:gc o.op with
   |true=>
    obtain⟨cs,hx,d0,c5⟩:=Im (P:=P) (call:=call) (sl:=S) (A:=H) D v H1 (by rw[c4];exact a5);obtain⟨arr,e,u,r1,r2,r3,r4⟩:=c5 E W (λs=>a'.tmps.getD s undef) ⟨h4,hG.le C.fr.le⟩;have h9:OpY P o (λs=>a'.tmps.getD s undef) W (λu' W'=>u'=u/\W'=W.alloc (.cells arr e)):=.of_ok r1 ⟨Z,Z⟩;refine Oper.wp_mono ?_ h9.wp;rintro m1 g8 ⟨u',rfl,rfl,rfl⟩;have i5:∀p,p<W.heap.size->(W.alloc (.cells arr e)).heap[p]? =W.heap[p]? :=λp hp=>by
     show(W.heap.push _)[p]? =_
     rw[SH,if_neg O]
    refine done u' _ E j M _ (e0 D u' _ W.heap.size (by show _<=(W.heap.push _).size;simp) i5 Z Z Z (λ_=>rfl) ⟨λv' V=>?_,λv' V=>(by rw[hv]at V;cases V)⟩);rw[hv]at V;cases V;refine⟨arr,e,cs,H,hH,by rw[<-d0];exact i4 (eY D),hx,C.fr.size,by show(W.heap.push _)[W.heap.size]? =_;simp,?_,λn hn=>by have:=C.rel.mlt n _ hn;omega,r2,r3,λE' q1 q2 q3 q4 d hd=>?_⟩
    ·cases hb:E.bl W.heap.size with
     |none=>rfl
     |some s=>
      obtain⟨_,c,e,fz,q2,_⟩:=C.rel.blk _ _ hb;have:=(QK.1 q2).1;omega
    rw[hd,xd (by rw[a3];exact hF.lt i o d U hd)];exact r4 E' q1 q2 q3 q4
   |false=>
    have hM:=C.hM;have c5:∃M',jr P call S M o=some (v,M')/\(bo o.op=true->M'=H1)/\(bo o.op=false->M'=M):=by
     cases Q:bo o.op with
     |true=>
      have:M=H:=by
       rw[c1 Q D,hH]at hM;exact(QS hM).symm
      exact⟨H1,by rw[c4,this];exact a5,λ_=>rfl,λh=>by cases h⟩
     |false=>
      obtain⟨A2,h6,m2⟩:=d3 Q Z;exact⟨A2,h6,λh=>(by cases h),λ_=>tB Q h6 m2⟩
    obtain⟨M',h6,h7,h8⟩:=c5;have h9:=(C3 (o:=o) hc v M' h6 E W _ C.rel ⟨h4,hG.le C.fr.le⟩);refine Oper.wp_mono ?_ h9.wp;rintro m1 g8 ⟨u,rfl,E',g1,g2,g3⟩;obtain⟨j',h⟩:=fin D u g8 E' M' g1 g2 g3 h7 h8;exact done u g8 E' j' M' pb h
  |false=>
   rw[if_neg F]at a5⊢;obtain⟨l5,d0⟩:=a5;cases D:gc o.op with
   |true=>
    refine done undef W E j M _ (e0 D undef W 0 (Qi _) (λ_ _=>rfl) Z Z Z (λh=>by cases h) ⟨λv' V=>(by rw[hv]at V;cases V),λv' V=>?_⟩);rw[hv]at V;cases V;refine⟨by rw[i4 (eY D),d0,hH],λd hd=>?_⟩;rw[hd,xd (by rw[a3];exact hF.lt i o d U hd),l5];exact wW
   |false=>
    have hM:=C.hM;obtain⟨j',h⟩:=fin D undef W E M C.rel (by rw[l5];exact wW) (.refl _ _) (λQ=>by
     rw[d0];rw[c1 Q D,hH]at hM;exact(QS hM).symm) λ_=>rfl
    exact done undef W E j' M pb h
 rintro L a' W X ⟨f0,d1,a3,d2,E,j,M,pb,C,b0⟩;have X:∀i,i<ops.length->L.getD i false=true:=λi hi=>X i (by simpa using hi)
 have hM:=C.hM;have o3:j=eu ops ops.length:=by
  have h3:j<=eu ops ops.length:=by
   have:=(Qm.1 hM).1;simp only[Qn]at this;omega
  refine Nat.le_antisymm h3 (Nat.le_of_not_lt λh=>?_);obtain⟨k,r,g1,g2,g3,g4⟩:=Iw (ops:=ops) (j:=j) ops.length (Qi _) h;have:=b0 k r g2 g3 g4;rw[X k g1]at this;cases this
 have m3:M=H':=by
  rw[o3,f3]at hM;exact(QS hM).symm
 subst m3;rw[f2];refine⟨Z,E,C.rel,⟨by rw[Bp];exact a3,λd hd=>Db ops vs sl _ (k4 d (by rwa[Bp]at hd)),λt=>?_,d2⟩,C.fr⟩;have h5:=C.slv t;by_cases a9:∃(k:Nat) (r:Oper),ops[k]? =some r/\r.dst=some t
 ·obtain⟨k,r,f,R⟩:=a9;have Y:k<ops.length:=(Qm.1 f).1;have c0:mG ops L j k=true:=by
   cases D:gc r.op with
   |false=>exact Bt f D (X k Y)
   |true=>
    refine tF f (X k Y) ?_;have h6:=kj f;rw[if_pos (eY D)]at h6;have:=tD (ops:=ops) (i:=k+1) (k:=ops.length) O;omega
  obtain⟨b,v,_,_,hv,_⟩:=f5 k r f;rw[xb hF f R (X k Y) c0,a0 k b v hv]at h5;have g0:=hF.lt k r t f R;rw[tE ops vs sl ops.length k r f R Y hv g0 (k4 t g0) λk' J b2 T a1=>b2 (hF.ne k' k J r t T f a1 R)];exact h5
 rw[jI λk r f R=>absurd ⟨k,r,f,R⟩ a9]at h5;rw[jo ops vs sl _ λk r _ f R=>a9 ⟨k,r,f,R⟩];exact h5
end
noncomputable def Pt:Option Nat->Option Nat->Bool
 |none,none=>true
 |some a,some b=>Nat.beq a b
 |_,_=>false
def xe:∀{a b:Option Nat},Pt a b=true->a=b
 |none,none,_=>rfl
 |some a,some b,h=>congrArg some (Ql h)
 |none,some _,h=>by cases h
 |some _,none,h=>by cases h
noncomputable def xf (f:Value->Value->Bool) (l:List Value):List Value->Bool:=List.rec (λm=>List.rec true (λ_ _ _=>false) m) (λa _ ih m=>List.rec false (λb m _=>cond (f a b) (ih m) false) m) l
def cE{a b:Bool}(h:cond a b false=true):a=true/\b=true:=by
 cases a with
 |true=>exact⟨Z,h⟩
 |false=>cases h
def o8{f:Value->Value->Bool}(c:∀a b,f a b=true->a=b):∀l m:List Value,xf f l m=true->l=m
 |[],[],_=>rfl
 |[],_::_,h=>by cases h
 |_::_,[],h=>by cases h
 |a::l,b::m,h=>by
  have h:cond (f a b) (xf f l m) false=true:=h;obtain⟨d,e⟩:=cE h;rw[c a b d,o8 c l m e]
noncomputable def P9:Int->Int->Bool
 | .ofNat a,.ofNat b=>Nat.beq a b
 | .negSucc a,.negSucc b=>Nat.beq a b
 |_,_=>false
def NX:∀{a b:Int},P9 a b=true->a=b
 | .ofNat _,.ofNat _,h=>congrArg Int.ofNat (Ql h)
 | .negSucc _,.negSucc _,h=>congrArg Int.negSucc (Ql h)
 | .ofNat _,.negSucc _,h=>by cases h
 | .negSucc _,.ofNat _,h=>by cases h
noncomputable def P2 (ih:Value->Value->Bool) (a b:Value):Bool:=
 match a,b with
 | .bool true,.bool true=>true
 | .bool false,.bool false=>true
 | .int k x,.int k' y=>cond (NO k k') (P9 x y) false
 | .string s,.string t=>HK s.data.toList t.data.toList
 | .pointer none,.pointer none=>true
 | .pointer (some ⟨n,c,s⟩),.pointer (some ⟨m,d,t⟩)=>cond (Nat.beq n m) (cond (Nat.beq c d) (Pt s t) false) false
 | .slice none n c,.slice none m d=>cond (Nat.beq n m) (Nat.beq c d) false
 | .slice (some ⟨n,c,s⟩) i j,.slice (some ⟨m,d,t⟩) k l=>cond (Nat.beq n m) (cond (Nat.beq c d) (cond (Pt s t) (cond (Nat.beq i k) (Nat.beq j l) false) false) false) false
 | .chan x,.chan y=>Pt x y
 | .map x,.map y=>Pt x y
 | .nilFunc,.nilFunc=>true
 | .nilIface,.nilIface=>true
 | .agg xs,.agg ys=>xf ih xs.toList ys.toList
 | .tuple xs,.tuple ys=>xf ih xs.toList ys.toList
 |_,_=>false
noncomputable def L5 (n:Nat):Value->Value->Bool:=Nat.rec (λ_ _=>false) (λ_ ih=>P2 ih) n
def xg:∀(n:Nat) (a b:Value),L5 n a b=true->a=b
 |0,_,_,h=>by cases h
 |n+1,a,b,h=>by
  have e:=xg n;have h:P2 (L5 n) a b=true:=h;unfold P2 at h;split at h
  ·rfl
  ·rfl
  ·obtain⟨c,d⟩:=cE h;rw[pI c,NX d]
  ·rw[lQ]at h;exact congrArg Value.string (tn (eq_of_beq h))
  ·rfl
  ·obtain⟨c,h⟩:=cE h;obtain⟨d,h⟩:=cE h;rw[Ql c,Ql d,xe h]
  ·obtain⟨c,h⟩:=cE h;rw[Ql c,Ql h]
  ·obtain⟨c,h⟩:=cE h;obtain⟨d,h⟩:=cE h;obtain⟨f,h⟩:=cE h;obtain⟨g,h⟩:=cE h;rw[Ql c,Ql d,xe f,Ql g,Ql h]
  ·rw[xe h]
  ·rw[xe h]
  ·rfl
  ·rfl
  ·rw[Rb (o8 e _ _ h)]
  ·rw[Rb (o8 e _ _ h)]
  cases h
noncomputable def zr {α:Type} (l:List (Nat×α)):Tri α:=List.rec .lf (λp _ ih=>Tri.set fc ih p.1 (some p.2)) l
def xh{α:Type}:∀(l:List (Nat×α)),(∀p∈l,p.1<16384)->∀(n:Nat) (a:α),n<16384->(zr l).get fc n=some a->(n,a)∈l
 |[],_,n,a,_,h=>by rw[show zr ([]:List (Nat×α))=.lf from rfl,dz]at h;cases h
 |p::l,hl,n,a,hn,h=>by
  rw[show zr (p::l)=Tri.set fc (zr l) p.1 (some p.2)from rfl,di (some p.2) fc _ _ _ (hl p (Qs ..)) hn]at h;split at h
  ·next e=>
   cases h;rw[e];exact Qs ..
  exact QA _ (xh l (λp b=>hl p (QA _ b)) n a hn h)
structure Lit where
 R:List (Nat×ARow)
 F:List (Nat×List Nat)
 nx:Nat
 nm:Nat
noncomputable def jp (g:Nat) (m:Int):ARow:=⟨[.int .i64 m],g,true,0⟩
noncomputable def Lit.mk' (L:Lit) (g:Nat) (m:Int):AH:=⟨Tri.set fc (zr L.R) g (some (jp g m)),L.nx,Tri.set fc (zr L.F) g (some [g]),L.nm,.lf⟩
noncomputable def NY (l:List Nat):List Nat->Bool:=List.rec (λm=>List.rec true (λ_ _ _=>false) m) (λa _ ih m=>List.rec false (λb m _=>cond (Nat.beq a b) (ih m) false) m) l
def Dd:∀l m:List Nat,NY l m=true->l=m
 |[],[],_=>rfl
 |[],_::_,h=>by cases h
 |_::_,[],h=>by cases h
 |a::l,b::m,h=>by
  have h:cond (Nat.beq a b) (NY l m) false=true:=h;obtain⟨c,d⟩:=cE h;rw[Ql c,Dd l m d]
noncomputable def P3 (x:Option ARow) (r:ARow):Bool:=match x with
 |some q=>cond (Nat.beq q.fam r.fam) (cond (Nat.beq q.ty r.ty) (cond (cond q.fro r.fro (!r.fro)) (xf (L5 40) q.cs r.cs) false) false) false
 |none=>false
def NZ{x:Option ARow}{r:ARow}(h:P3 x r=true):x=some r:=by
 unfold P3 at h;split at h
 ·next q=>
  obtain⟨cs,j,b,ty⟩:=q;obtain⟨i,f,a,m⟩:=r;obtain⟨k,h⟩:=cE h;obtain⟨l,h⟩:=cE h;obtain⟨g,h⟩:=cE h;have c:=Ql k;have d:=Ql l;have e:=o8 (xg 40) _ _ h;simp only at c d e g;subst c d e;have:b=a:=by cases b<;>cases a<;>first|rfl|cases g
  rw[this]
 cases h
noncomputable def N0 (x:Option (List Nat)) (l:List Nat):Bool:=match x with
 |some q=>NY q l
 |none=>false
def KZ{x:Option (List Nat)}{l:List Nat}(h:N0 x l=true):x=some l:=by
 unfold N0 at h;split at h
 ·rw[Dd _ _ h]
 cases h
noncomputable def N1 (n:Nat) (l:List Nat):Bool:=List.rec false (λa _ ih=>cond (Nat.beq a n) true ih) l
def De{n:Nat}:∀{l:List Nat},N1 n l=true->n∈l
 |[],h=>by cases h
 |a::l,h=>by
  have h:cond (Nat.beq a n) true (N1 n l)=true:=h;cases b:Nat.beq a n with
  |true=>rw[Ql b];exact Qs ..
  |false=>rw[b]at h;exact QA _ (De h)
noncomputable def K0 (F:List (Nat×List Nat)) (f n:Nat):Bool:=match (zr F).get fc f with
 |some l=>N1 n l
 |none=>false
noncomputable def Lit.chk (L:Lit) (g:Nat) (A:AH):Bool:=cond (Nat.beq A.nx L.nx) (cond (Nat.beq A.nm L.nm) (cond (pG (λp=>cond (Nat.blt p.1 16384) (cond (Nat.beq p.2.fam g) false (cond (Nat.blt p.2.fam 16384) (cond (P3 (A.get p.1) p.2) (K0 L.F p.2.fam p.1) false) false)) false) L.R) (pG (λp=>cond (Nat.blt p.1 16384) (N0 (A.fget p.1) p.2) false) L.F) false) false) false
def Lit.rel{P:Program}{E:EE}{A:AH}{base:Nat}{w:World}{L:Lit}{g:Nat}{m:Int}(h:RelA P E A base w)(C:L.chk g A=true)(W:A.get g=some (jp g m))(h2:A.fget g=some [g]):RelA P E (L.mk' g m) base w:=by
 unfold Lit.chk at C;simp only[iK]at C;obtain⟨Q,C⟩:=cE C;obtain⟨S,C⟩:=cE C;obtain⟨H,M⟩:=cE C;have Q:=Ql Q;have S:=Ql S;have H:∀p∈L.R,p.1<16384/\p.2.fam≠g/\p.2.fam<16384/\A.get p.1=some p.2/\K0 L.F p.2.fam p.1=true:=λp D=>by
  have:=Qt.1 H p D;obtain⟨B,d⟩:=cE this;cases G:Nat.beq p.2.fam g with
  |true=>rw[G]at d;cases d
  |false=>
   rw[G]at d;obtain⟨T,d⟩:=cE (a:=Nat.blt p.2.fam 16384) d;obtain⟨z,d4⟩:=cE d;exact⟨cU B,λe=>by rw[e]at G;simp at G,cU T,NZ z,d4⟩
 have M:∀p∈L.F,p.1<16384/\A.fget p.1=some p.2:=λp D=>by
  have:=Qt.1 M p D;obtain⟨B,d⟩:=cE this;exact⟨cU B,KZ d⟩
 have N:=my W;have K:∀n r,(L.mk' g m).get n=some r->n<16384/\((n=g/\r=jp g m)\/(n≠g/\(n,r)∈L.R)):=λn r j=>by
  have u:=my j;rw[iR u]at j;have j:(Tri.set fc (zr L.R) g (some (jp g m))).get fc n=some r:=j;rw[di _ fc _ _ _ N u]at j;refine⟨u,?_⟩;split at j
  ·next e=>cases j;exact .inl ⟨e,Z⟩
  next e=>exact .inr ⟨e,xh L.R (λp D=>(H p D).1) n r u j⟩
 have U:∀f l,(L.mk' g m).fget f=some l->f<16384/\((f=g/\l=[g])\/(f≠g/\(f,l)∈L.F)):=λf l hl=>by
  have u:=s6 hl;rw[gW u]at hl;have hl:(Tri.set fc (zr L.F) g (some [g])).get fc f=some l:=hl;rw[di _ fc _ _ _ N u]at hl;refine⟨u,?_⟩;split at hl
  ·next e=>cases hl;exact .inl ⟨e,Z⟩
  next e=>exact .inr ⟨e,xh L.F (λp D=>(M p D).1) f l u hl⟩
 have i:∀n r,(L.mk' g m).get n=some r->A.get n=some r:=λn r j=>by
  rcases(K n r j).2 with⟨rfl,rfl⟩|⟨_,I⟩
  ·exact W
  exact(H _ I).2.2.2.1
 have v:∀f l,(L.mk' g m).fget f=some l->A.fget f=some l:=λf l hl=>by
  rcases(U f l hl).2 with⟨rfl,rfl⟩|⟨_,I⟩
  ·exact h2
  exact(M _ I).2
 have J:∀n r,(L.mk' g m).get n=some r->∃l,(L.mk' g m).fget r.fam=some l/\n∈l:=λn r j=>by
  have key:∀f,f<16384->(L.mk' g m).fget f=if f=g then some [g]else(zr L.F).get fc f:=λf X=>by
   rw[gW X];show(Tri.set fc (zr L.F) g (some [g])).get fc f=_
   exact di _ fc _ _ _ N X
  rcases(K n r j).2 with⟨rfl,rfl⟩|⟨_,I⟩
  ·exact⟨[n],by rw[key _ (show(jp n m).fam<16384 from N),if_pos (show(jp n m).fam=n from rfl)],QP.2 Z⟩
  obtain⟨_,B,T,_,z⟩:=H _ I;have B:r.fam≠g:=B;rw[key _ T,if_neg B];have z:K0 L.F r.fam n=true:=z;unfold K0 at z;split at z
  ·next l hl=>exact⟨l,hl,De z⟩
  cases z
 have O:(L.mk' g m).nx=A.nx:=Q.symm;refine⟨λn r j=>h.row n r (i n r j),λb s G=>?_,λn m r q b o V y x=>h.sep n m r q b o V (i _ _ y) (i _ _ x),λn r j=>?_,λf n l hl r m q b o V y x=>h.top f n l (v _ _ hl) r m q b o V (i _ _ y) (i _ _ x),λf l hl=>?_,λn u=>h.new n (by rw[<-O];exact u),by rw[O];exact h.nxb,λn cs hm=>?_,h.minj,λn u=>h.mnew n (by rw[S];exact u),h.mlt,h.base,h.typ,λn r t j=>h.rty n r t (i n r j)⟩
 ·obtain⟨y,c,e,fz,x,g3,g4⟩:=h.blk b s G;exact⟨y,c,e,fz,x,g3,λ⟨n,r,o,k1,k2,k3⟩=>g4 ⟨n,r,o,i _ _ k1,k2,k3⟩⟩
 ·obtain⟨y,x,_⟩:=h.fam n r (i n r j);rw[O];exact⟨y,x,J n r j⟩
 ·obtain⟨y,x⟩:=h.mem f l (v f l hl);rw[O];exact⟨y,λk Y=>⟨(x k Y).1,λr j=>(x k Y).2 r (i _ _ j)⟩⟩
 have:(L.mk' g m).mget n=none:=by
  unfold AH.mget;cases Nat.blt n 16384 with
  |false=>rfl
  |true=>show Tri.get fc (.lf:Tri (List (Value×Value))) n=none;exact dz _ _
 rw[this]at hm;cases hm
structure Ent where
 f:FuncId
 args:List Value
 L:Lit
 v:Value
 L':Lit
def Ent.Ok(P:Program)(base g:Nat)(e:Ent):Prop:=(∃fn,P.funcs[e.f]? =some fn/\(fn.name== "runtime.NumGoroutine")=false/\fn.body.isNone=false)/\∀(m:Int) E w vs,RelA P E (e.L.mk' g m) base w->Gl P E->VL P E vs e.args->Calls P e.f vs.toArray w λx w'=>∃u,x=.returned u/\Aft P E (e.L'.mk' g m) base w e.v u w'
noncomputable def Ent.run (g:Nat) (call:fC) (e:Ent) (m:Int):Option (Option ARow×Option (List Nat)):=cP (call e.f e.args (e.L.mk' g m)) λr=>cond (cond (L5 40 r.1 e.v) (e.L'.chk g r.2) false) (some (r.2.get g,r.2.fget g)) none
def Ent.ok{P:Program}{base g:Nat}{call:fC}{e:Ent}(n:gb P base call)(h:∀m,e.run g call m=some (some (jp g m),some [g])):e.Ok P base g:=by
 have key:∀m,∃a,call e.f e.args (e.L.mk' g m)=some (e.v,a)/\e.L'.chk g a=true/\a.get g=some (jp g m)/\a.fget g=some [g]:=λm=>by
  obtain⟨⟨v,a⟩,b,d⟩:=aS (h m);obtain⟨i,c⟩:=aW d;obtain⟨j,k⟩:=cE i;simp only[Qy,Sg]at c;have l:v=e.v:=xg 40 _ _ j;exact⟨a,by rw[b,l],k,c.1,c.2⟩
 refine⟨?_,λm E w vs p o q=>?_⟩
 ·obtain⟨a,b,_⟩:=key 0;exact(n _ _ _ _ _ b).1
 obtain⟨a,b,d,i,c⟩:=key m;refine((n _ _ _ _ _ b).2 E w vs p o q).mono ?_;rintro x w' ⟨u,rfl,E',j,k,l⟩;exact⟨u,Z,E',Lit.rel j d i c,k,l⟩
