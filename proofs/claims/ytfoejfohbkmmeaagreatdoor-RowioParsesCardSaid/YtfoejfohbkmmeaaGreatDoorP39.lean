import Derived.Test.YtfoejfohbkmmeaaGreatDoorP38
import Derived.Test.YtfoejfohbkmmeaaGreatDoorP00
import Derived.Lib.SlBytesConst
import Derived.Test.YtfoejfohbkmmeaaGreatDoorP06
set_option maxRecDepth 100000
set_option maxHeartbeats 4000000
namespace Go.Proofs.YtfoejfohbkmmeaaGreatDoor
open Go.RowKit
open Lib renaming hid→J
def fk(c:UInt8):List UInt8->Bool->List UInt8->List ByteArray
 |[],_,cur=>[bs cur]
 |x::l,q,cur=>if(x==c&& !(if x==39 then !q else q))=true then bs cur::fk c l (if x==39 then !q else q) []else fk c l (if x==39 then !q else q) (cur++[x])
def g6(c:UInt8)(s:ByteArray):List ByteArray:=fk c s.data.toList false []
noncomputable def dD:List ByteArray->List V->List V×Bool
 |[],acc=>(acc,true)
 |x::xs,acc=>match fP x with
  |none=>(acc,false)
  |some v=>dD xs (acc++[v])
def zo(P:List ByteArray)(cert:Bool):Bool:=(decide (P.length=1) !=cert)||decide (2<P.length)
noncomputable def vr (P:List ByteArray) (cert:Bool):Tp×Bool:=
 if zo P cert=true then(⟨[],1⟩,false)
 else if(dD (g6 44 (P.getD 0 ⟨#[]⟩)) []).2=false then(⟨(dD (g6 44 (P.getD 0 ⟨#[]⟩)) []).1,1⟩,false)
 else if cert=true then(⟨(dD (g6 44 (P.getD 0 ⟨#[]⟩)) []).1,1⟩,true)
 else if(cV (P.getD 1 ⟨#[]⟩)).2=0 then(⟨(dD (g6 44 (P.getD 0 ⟨#[]⟩)) []).1,(cV (P.getD 1 ⟨#[]⟩)).1⟩,true)
 else(⟨(dD (g6 44 (P.getD 0 ⟨#[]⟩)) []).1,1⟩,false)
noncomputable def gh (s:ByteArray) (cert:Bool):Tp×Bool:=vr (g6 58 s) cert
def vt:List UInt8->List UInt8->List ByteArray
 |[],cur=>if cur=[]then []else [bs cur]
 |x::l,cur=>if x=10 then bs cur::vt l []else vt l (cur++[x])
noncomputable def EA (cert:Bool):List ByteArray->Nat->Rel->Rel×Nat×Int
 |[],_,r=>(r,0,0)
 |l::ls,i,r=>if(l.toList==(⟨#[]⟩:ByteArray).toList)=true then EA cert ls (i+1) r
  else if(gh l cert).2=false then(Rel.zero,i,2)
  else if bP r (gh l cert).1=0 then EA cert ls (i+1) (bU r (gh l cert).1)
  else(Rel.zero,i,bP r (gh l cert).1)
noncomputable def ir (s:Sch) (b:List UInt8):Rel×Nat×Int:=if fv s=false then(Rel.zero,0,1)else if 16384<b.length then(Rel.zero,0,4)else EA s.cert (vt b []) 0 ⟨s,[]⟩
theorem pP(c:UInt8):∀(l:List UInt8) (q:Bool) (cur:List UInt8),fk c l q cur≠ []
 |[],_,_=>by rw[fk];simp
 |x::l,q,cur=>by
  rw[fk];by_cases h:(x==c&& !(if x==39 then !q else q))=true
  ·rw[if_pos h];simp
  rw[if_neg h];exact pP c l _ _
def mh(c:UInt8):List ByteArray->List UInt8
 |[]=>[]
 |x::l=>x.data.toList++(if l=[]then []else c::mh c l)
theorem nv(c:UInt8):∀(l:List UInt8) (q:Bool) (cur:List UInt8),mh c (fk c l q cur)=cur++l
 |[],_,cur=>by rw[fk,mh,if_pos Z,de]
 |x::l,q,cur=>by
  rw[fk];by_cases h:(x==c&& !(if x==39 then !q else q))=true
  ·rw[if_pos h,mh,if_neg (pP _ _ _ _),nv c l,de];rw[L8]at h;rw[eq_of_beq h.1];simp
  rw[if_neg h,nv c l];simp
theorem jJ{c x:UInt8}(a:x≠c)(l:List UInt8)(q:Bool)(cur:List UInt8):fk c (x::l) q cur=fk c l (if x==39 then !q else q) (cur++[x]):=by
 rw[fk,if_neg];rw[beq_eq_false_iff_ne.2 a];simp
theorem oB{c:UInt8}{rest:List UInt8}{q:Bool}:∀(l cur:List UInt8),(∀x∈l,x≠c/\x≠39)->fk c (l++rest) q cur=fk c rest q (cur++l)
 |[],cur,_=>by rw[MI,Mq]
 |x::l,cur,h=>by
  obtain⟨d,b⟩:=h x (Ml ..);rw[Na,jJ d,beq_eq_false_iff_ne.2 b,if_neg (by simp),oB l _ fun y a=>h y (Ms _ a)];simp
theorem tL{c:UInt8}(a:c≠39){rest:List UInt8}:∀(l cur:List UInt8),fk c (gB l++rest) true cur=fk c rest true (cur++gB l)
 |[],cur=>by rw[gB,MI,Mq]
 |x::l,cur=>by
  rw[gB];by_cases b:x=39
  ·rw[if_pos b,Na,Na,jJ (Ne.symm a),jJ (Ne.symm a)];show fk c (gB l++rest) true _=_
   rw[tL a l];simp
  rw[if_neg b,Na,fk,if_neg (by rw[beq_eq_false_iff_ne.2 b];simp),beq_eq_false_iff_ne.2 b,if_neg (by simp),tL a l];simp
theorem pQ{v:V}(f:v.ok=true){c:UInt8}(d:c=44\/c=58)(rest cur:List UInt8):fk c (v.fmt++rest) false cur=fk c rest false (cur++v.fmt):=by
 have a:c≠39:=by rcases d with rfl|rfl<;>decide
 rcases ns f with h|⟨l,g,h⟩
 ·rw[h];refine oB _ _ fun x e=>?_
  have b:=CN (tH v.n x e);rw[Mo,beq_eq_false_iff_ne,beq_eq_false_iff_ne]at b;exact⟨by rcases d with rfl|rfl;exact b.1.1;exact b.1.2,b.2⟩
 rw[h,Na,jJ (Ne.symm a)];show fk c (gB l++[39]++rest) true _=_
 rw[Mv,tL a,Oi,jJ (Ne.symm a)];show fk c rest false _=_
 simp
theorem oC:∀(i:Nat),0<i->∀l,be i l=be 1 l:=by
 intro i a l;induction l generalizing i with
 |nil=>rfl
 |cons x l ih=>rw[be,be,if_pos a,if_pos (by omega),ih (i+1) (by omega),ih 2 (by omega)]
theorem tM{rest:List UInt8}:∀(vs:List V) (i:Nat) (cur:List UInt8),(∀v∈vs,tJ v)->fk 58 (be i vs++rest) false cur=fk 58 rest false (cur++be i vs)
 |[],i,cur,_=>by rw[be,MI,Mq]
 |v::vs,i,cur,h=>by
  have c:=fun cur=>tM (rest:=rest) vs (i+1) cur fun x d=>h x (Ms _ d)
  have b:=(h v (Ml ..)).1;rw[be];by_cases a:0<i
  ·rw[if_pos a,Mv,Oi,jJ (by decide)];show fk 58 (_++rest) false _=_
   rw[Mv,pQ b (.inr Z),c];simp
  rw[if_neg a,MI,Mv,pQ b (.inr Z),c];simp
theorem vu:∀(vs:List V) (v:V) (cur:List UInt8),tJ v->(∀x∈vs,tJ x)->fk 44 (v.fmt++be 1 vs) false cur=bs (cur++v.fmt)::vs.map fun u=>bs u.fmt
 |[],v,cur,hv,_=>by rw[be,pQ hv.1 (.inl Z),fk];rfl
 |u::vs,v,cur,hv,h=>by
  have b:=vu vs u [] (h u (Ml ..)) fun x a=>h x (Ms _ a)
  rw[pQ hv.1 (.inl Z),be,if_pos (by omega),oC 2 (by omega),Oi,fk,if_pos (by decide)];show bs _::fk 44 (u.fmt++be 1 vs) false []=_
  rw[b];rfl
theorem tN:∀(vs a:List V),(∀v∈vs,tJ v)->dD (vs.map fun u=>bs u.fmt) a=(a++vs,true)
 |[],a,_=>by rw[NV,dD,Mq]
 |v::vs,a,h=>by
  have b:=h v (Ml ..);rw[M3,dD,oA b.1 b.2];simp only;rw[tN vs _ fun x c=>h x (Ms _ c)];simp
theorem vv:∀(L:List ByteArray) (a vs:List V),dD L a=(vs,true)->∃c,vs=a++c/\L=c.map (fun u=>bs u.fmt)/\∀w∈c,tJ w
 |[],a,vs,h=>by
  rw[dD]at h;exact⟨[],by rw[Mq];exact(congrArg Prod.fst h).symm,Z,fun _ b=>by cases b⟩
 |x::L,a,vs,h=>by
  rw[dD]at h;cases d:fP x with
  |none=>rw[d]at h;exact absurd (congrArg Prod.snd h) (by simp)
  |some v=>
   rw[d]at h;obtain⟨c,k,g,j⟩:=vv L _ vs h;obtain⟨i,f,e⟩:=je d;refine⟨v::c,by rw[k];simp,by rw[g,M3,<-e,lm],fun w b=>?_⟩;rcases Mi.1 b with rfl|b
   ·exact⟨i,f⟩
   exact j w b
theorem vw:∀(vs:List V) (v:V),mh 44 ((v::vs).map fun u=>bs u.fmt)=v.fmt++be 1 vs
 |[],v=>by rw[M3,NV,mh,if_pos Z,de];rfl
 |u::vs,v=>by
  rw[M3,mh,if_neg (by simp),vw vs u,de,be,if_pos (by omega),oC 2 (by omega)];rfl
theorem rc{r:ByteArray}{c:UInt8}(h:Lib.hasPrefix r.data.toList [c]=true):r.data.toList=c::(r.extract 1 r.size).data.toList:=by
 rw[dF,Me (by rw[<-aL];exact L4 _)];cases e:r.data.toList with
 |nil=>rw[e]at h;simp[Lib.hasPrefix]at h
 |cons a l=>
  rw[e]at h;simp[Lib.hasPrefix,List.isPrefixOf]at h;rw[<-h];rfl
theorem CR(s:ByteArray)(k:Nat):s.data.toList=(s.extract 0 k).data.toList++(s.extract k s.size).data.toList:=by
 rw[dF,dF,M8,Me (i:=s.size) (by rw[<-aL];exact L4 _),M4]
theorem tO:∀(n:Nat) (s:ByteArray) (b vs:List V) (r:ByteArray),iq n s b=some (vs,r)->∃v c,vs=b++v::c/\tJ v/\(∀x∈c,tJ x)/\s.data.toList=v.fmt++(be 1 c++r.data.toList)
 |0,_,_,_,_,h=>by rw[iq]at h;cases h
 |n+1,s,b,vs,r,h=>by
  rw[iq]at h;cases d:fP (s.extract 0 (jl s))with
  |none=>rw[d]at h;cases h
  |some v=>
   rw[d]at h;dsimp only at h;obtain⟨j,i,l⟩:=je d;have f:=CR s (jl s);rw[l]at f;split at h
   ·next a=>
    obtain⟨u,c,m,e,g,k⟩:=tO n _ _ _ _ h;refine⟨v,u::c,by rw[m];simp,⟨j,i⟩,fun x a=>?_,?_⟩
    ·rcases Mi.1 a with rfl|a
     ·exact e
     exact g x a
    rw[f,rc a,k,be,if_pos (by omega),oC 2 (by omega)];simp
   injection h with h
   injection h with e g
   refine⟨v,[],by rw[<-e],⟨j,i⟩,(fun _ a=>(by cases a)),?_⟩;rw[f,<-g];rfl
structure Form (s:ByteArray) (cert:Bool) (t:Tp):Prop where
 one:∃v vs,t.vals=v::vs
 ok:∀v∈t.vals,tJ v
 tx:(cert=true/\t.prob=1/\s.data.toList=be 0 t.vals)\/(cert=false/\∃p,s.data.toList=be 0 t.vals++58::p/\cV (bs p)=(t.prob,0))
theorem xg(v:V)(vs:List V):be 0 (v::vs)=v.fmt++be 1 vs:=by rw[be,if_neg (by omega)];rfl
theorem CS{v:V}{vs:List V}(c:tJ v)(b:∀x∈vs,tJ x):∀x∈v::vs,tJ x:=fun x a=>by
 rcases Mi.1 a with rfl|a
 ·exact c
 exact b x a
theorem Bo{s:ByteArray}{cert:Bool}(h:(bW s cert).ok=true):Form s cert (g5 (bW s cert)):=by
 unfold g5;unfold bW at h⊢;cases b:iq (s.size+1) s []with
 |none=>rw[b]at h;cases h
 |some x=>
  obtain⟨vs,r⟩:=x;rw[b]at h;obtain⟨v,i,g,d,f,a⟩:=tO _ _ _ _ _ b;rw[MI]at g;subst g;dsimp only at h⊢;rw[<-Mv,<-xg]at a;cases e:cert with
  |true=>
   rw[e,if_pos Z]at h;rw[if_pos Z];dsimp only at h⊢;have j:r.data.toList=[]:=by
    rw[Lib.toList_data,Lib.toList_data]at h;exact eq_of_beq h
   rw[j,Mq]at a;exact⟨⟨v,i,Z⟩,CS d f,.inl ⟨Z,ei 1,a⟩⟩
  |false=>
   rw[e,if_neg (by simp)]at h;rw[if_neg (by simp)];split at h
   ·cases h
   next hx=>
   rw[if_neg hx];split at h
   ·next hp=>
    rw[if_pos hp];dsimp only;have c:Lib.hasPrefix r.data.toList [58]=true:=by simpa using hx
    rw[rc c]at a;refine⟨⟨v,i,Z⟩,CS d f,.inr ⟨Z,_,a,?_⟩⟩;rw[lm,ei,<-hp]
   cases h
theorem Bp{s:ByteArray}{cert:Bool}{t:Tp}(h:Form s cert t):(bW s cert).ok=true/\g5 (bW s cert)=t:=by
 obtain⟨j,prob⟩:=t;obtain⟨⟨v,vs,f⟩,a,c⟩:=h;dsimp only at f a c;subst f;have k:∀rest,SepE rest->iq ((bs (be 0 (v::vs)++rest)).size+1) (bs (be 0 (v::vs)++rest)) []=some (v::vs,bs rest):=fun rest b=>by
  have e:be 0 (v::vs)++rest=v.fmt++(be 1 vs++rest):=by rw[be,if_neg (by omega)];simp
  have n:=nu vs 1 (by omega);rw[e];refine nt b vs v _ [] ?_ (a v (Ml ..)) fun x m=>a x (Ms _ m)
  rw[eV];simp only[Mb];omega
 rcases c with⟨rfl,g,i⟩|⟨rfl,p,i,g⟩
 ·subst g;have d:=k [] (.inl Z);rw[Mq,<-i,lm]at d;unfold bW;rw[d];refine⟨beq_self_eq_true (⟨#[]⟩:ByteArray).toList,?_⟩;show(⟨v::vs,dH (decide ((1:Rat).num<0)) (1:Rat).num.natAbs (1:Rat).den⟩:Tp)=_
  rw[ei]
 have d:=k (58::p) (.inr ⟨_,Z⟩);rw[<-i,lm]at d;have l:(bs (58::p)).extract 1 (bs (58::p)).size=bs p:=l7 [58] p;unfold bW;rw[d];simp only;rw[if_neg (by simp),if_neg (by rw[de];simp[Lib.hasPrefix,List.isPrefixOf]),l,if_pos (by rw[g])];refine⟨Z,?_⟩;unfold g5;simp only;rw[g,ei]
theorem xh{c:UInt8}(h:cc c=true):c≠58/\c≠39:=by
 unfold cc at h;simp only[L8,decide_eq_true_eq]at h;exact⟨fun e=>by subst e;revert h;decide,fun e=>by subst e;revert h;decide⟩
theorem xi{ng:Bool}{u:ByteArray}(h:(fj ng u (j7 u.data.toList) (u.extract (j7 u.data.toList+1) u.size)).2=0):∀c∈u.data.toList,c≠58/\c≠39:=by
 intro c b;have f:=pH u.data.toList;have j:=wP u.data.toList;generalize o:j7 u.data.toList=n at h f j;unfold fj at h;split at h
 ·exact absurd h (by decide)
 split at h
 ·next hf=>exact xh (Mh.1 (lZ (by rw[o,hf,aL])) c b)
 next hf=>
 split at h
 ·exact absurd h (by decide)
 next g=>
 have g:ip (bD u n) (u.extract (n+1) u.size)=false:=by simpa using g
 unfold ip at g;rw[Mo,Mo,Nu]at g;obtain⟨⟨a,m⟩,k⟩:=g;have l:(u.extract (n+1) u.size).data.toList.all cc=true:=lZ (by rw[<-aL];simpa using k);have d:n<u.size:=by rw[aL]at hf⊢;omega
 have i:=CR u n;have p:(u.extract n u.size).data.toList=bD u n::(u.extract (n+1) u.size).data.toList:=by
  rw[dF,dF,Me (by rw[<-aL];exact L4 _),Mc (by rw[<-aL];exact d)];have:=bN d;rw[L3 (by rw[<-aL];exact d)]at this;rw[MW this]
 rw[i,p,dF,M8]at b;rcases Mw.1 b with b|b
 ·exact xh (Mh.1 f c b)
 rcases Mi.1 b with rfl|b
 ·rcases a with a|a
  ·have a:(bD u n).toNat=47:=by simpa using a
   exact⟨fun e=>by rw[e]at a;revert a;decide,fun e=>by rw[e]at a;revert a;decide⟩
  have a:(bD u n).toNat=46:=by simpa using a
  exact⟨fun e=>by rw[e]at a;revert a;decide,fun e=>by rw[e]at a;revert a;decide⟩
 exact xh (Mh.1 l c b)
theorem xj{s:ByteArray}(h:(cV s).2=0):∀c∈s.data.toList,c≠58/\c≠39:=by
 unfold cV at h;split at h
 ·exact absurd h (by decide)
 have b:=xi h;intro c a;unfold d7 at b;split at b
 ·next hn=>
  unfold it at hn;simp only[L8,decide_eq_true_eq]at hn;have e:s.data.toList=bD s 0::(s.extract 1 s.size).data.toList:=by
   have:=bN hn.1;rw[L3 (by rw[<-aL];exact hn.1)]at this;rw[dF,Me (by rw[<-aL];exact L4 _),<-MW this,<-Mc,M8]
  rw[e]at a;rcases Mi.1 a with rfl|a
  ·exact⟨fun e=>absurd hn.2 (by rw[e];decide),fun e=>absurd hn.2 (by rw[e];decide)⟩
  exact b c a
 exact b c a
theorem GQ{s:ByteArray}{vs:List V}{v:V}(b:tJ v)(a:∀x∈vs,tJ x)(h:s.data.toList=be 0 (v::vs)):g6 44 s=(v::vs).map fun u=>bs u.fmt:=by
 unfold g6;rw[h,xg,vu vs v [] b a];rfl
theorem Bq{s:ByteArray}{cert:Bool}{t:Tp}(h:Form s cert t):gh s cert=(t,true):=by
 obtain⟨k,prob⟩:=t;obtain⟨⟨v,vs,f⟩,a,e⟩:=h;dsimp only at f a e;subst f;have b:dD (g6 44 (bs (be 0 (v::vs)))) []=(v::vs,true):=by
  rw[GQ (a v (Ml ..)) (fun x m=>a x (Ms _ m)) (de _),tN _ _ a];rfl
 unfold gh;rcases e with⟨rfl,g,i⟩|⟨rfl,p,i,g⟩
 ·have j:g6 58 s=[bs (be 0 (v::vs))]:=by
   unfold g6;have:=tM (rest:=[]) (v::vs) 0 [] a;rw[Mq,MI]at this;rw[i,this];rfl
  unfold vr;rw[j,if_neg (by simp[zo])];show(if(dD (g6 44 (bs (be 0 (v::vs)))) []).2=false then _ else _)=_
  rw[b,if_neg (by simp),if_pos Z,g];show((⟨(dD (g6 44 (bs (be 0 (v::vs)))) []).1,1⟩:Tp),true)=_
  rw[b]
 have d:=xj (s:=bs p) (by rw[g]);rw[de]at d;have j:g6 58 s=[bs (be 0 (v::vs)),bs p]:=by
  unfold g6;have l:=oB (c:=58) (rest:=[]) (q:=false) p [] d;rw[Mq,MI]at l;rw[i,tM (v::vs) 0 [] a,MI,fk,if_pos (by decide)];show bs _::fk 58 p false []=_
  rw[l];rfl
 unfold vr;rw[j,if_neg (by simp[zo])];show(if(dD (g6 44 (bs (be 0 (v::vs)))) []).2=false then _ else _)=_
 rw[b,if_neg (by simp),if_neg (by simp)];show(if(cV (bs p)).2=0 then((⟨(dD (g6 44 (bs (be 0 (v::vs)))) []).1,(cV (bs p)).1⟩:Tp),true)else _)=_
 rw[g,if_pos Z,b]
theorem tP{s:ByteArray}{cert:Bool}(h:(gh s cert).2=true):Form s cert (gh s cert).1:=by
 unfold gh at h⊢;have b:=nv 58 s.data.toList false [];rw[MI]at b;change mh 58 (g6 58 s)=_ at b;have d:g6 58 s≠ []:=pP _ _ _ _;generalize g6 58 s=P at h b d;unfold vr at h⊢;split at h
 ·cases h
 next h1=>
 rw[if_neg h1];split at h
 ·cases h
 next h2=>
 rw[if_neg h2];obtain⟨x,P,rfl⟩:∃x l,P=x::l:=by
  cases P with
  |nil=>exact absurd Z d
  |cons x l=>exact⟨x,l,Z⟩
 rw[show(x::P).getD 0 ⟨#[]⟩=x from rfl]at h h2⊢;have o:dD (g6 44 x) []=((dD (g6 44 x) []).1,true):=by rw[show true=(dD (g6 44 x) []).2 by simpa using h2]
 obtain⟨j,f,g,e⟩:=vv _ _ _ o;rw[MI]at f;have a:=nv 44 x.data.toList false [];rw[MI]at a;change mh 44 (g6 44 x)=_ at a;have c:g6 44 x≠ []:=pP _ _ _ _;obtain⟨v,vs,rfl⟩:∃v vs,j=v::vs:=by
  cases j with
  |nil=>exact absurd g c
  |cons v vs=>exact⟨v,vs,Z⟩
 rw[g,vw,<-xg]at a;rw[f]at h⊢;unfold zo at h1;simp only[MP,decide_eq_true_eq,not_or,bne_iff_ne,ne_eq,Nx,Bool.not_eq_true]at h1;cases i:cert with
 |true=>
  rw[if_pos Z];rw[i]at h1;have m:P=[]:=by have:=h1.1;simpa using this
  subst m;rw[mh,if_pos Z,Mq]at b;exact⟨⟨v,vs,Z⟩,e,.inl ⟨Z,Z,by rw[<-b,<-a]⟩⟩
 |false=>
  rw[i]at h h1;rw[if_neg (by simp)]at h⊢;obtain⟨y,rfl⟩:∃y,P=[y]:=by
   obtain⟨k,n⟩:=h1;cases P with
   |nil=>simp at k
   |cons y l=>
    cases l with
    |nil=>exact⟨y,Z⟩
    |cons _ _=>simp at n
  rw[show [x,y].getD 1 ⟨#[]⟩=y from rfl]at h⊢;split at h
  ·next hp=>
   rw[if_pos hp];rw[mh,if_neg (by simp),mh,if_pos Z,Mq,<-a]at b;refine⟨⟨v,vs,Z⟩,e,.inr ⟨Z,y.data.toList,b.symm,?_⟩⟩;rw[lm,<-hp]
  cases h
theorem CT(s:ByteArray)(cert:Bool):(gh s cert).2=(bW s cert).ok/\((bW s cert).ok=true->(gh s cert).1=g5 (bW s cert)):=by
 cases h:(bW s cert).ok with
 |true=>rw[Bq (Bo h)];exact⟨Z,fun _=>rfl⟩
 |false=>
  refine⟨?_,fun h=>by cases h⟩;cases a:(gh s cert).2 with
  |false=>rfl
  |true=>rw[(Bp (tP a)).1]at h;cases h
theorem Br(cert:Bool):∀(L:List ByteArray) (i:Nat) (r:Rel),EA cert L i r=cG cert L i r
 |[],_,_=>rfl
 |l::L,i,r=>by
  obtain⟨b,a⟩:=CT l cert;rw[EA,cG,Br cert L,b];split
  ·rfl
  cases h:(bW l cert).ok with
  |false=>rw[if_pos Z,if_pos Z]
  |true=>rw[if_neg (c:=true=false) (by simp),if_neg (c:=true=false) (by simp),a h,Br cert L,qv]
theorem Bs(cert:Bool):∀(l cur:List UInt8) (i:Nat) (r:Rel),(10:UInt8)∉cur->cG cert (dq (bs (cur++l))) i r=cG cert (vt l cur) i r
 |[],cur,i,r,h=>by
  rw[Mq,vt];split
  ·next e=>rw[e,vq];rfl
  rw[l8 h]
 |x::l,cur,i,r,h=>by
  rw[vt];split
  ·next e=>
   subst e;have a:=fun i r=>Bs cert l [] i r (by simp)
   rw[jf h,cG,cG];rw[MI]at a;simp only[a]
  next e=>
  have:=Bs cert l (cur++[x]) i r (by simp only[Mw,Mm,not_or];exact⟨h,Ne.symm e⟩);rw[Mv]at this;exact this
theorem nw(s:Sch)(b:List UInt8):ir s b=eM s b:=by
 unfold ir eM;rw[Br,<-Bs s.cert b [] 0 _ (by simp)];rfl
theorem pR:FitR Rel.zero:=⟨by decide,by decide,fun t a=>by cases a⟩
theorem GR{cert:Bool}:∀(L:List ByteArray) (i:Nat) (r:Rel),FitR r->(∀x∈L,x.size<=65000)->FitR (cG cert L i r).1
 |[],_,r,h,_=>h
 |l::L,i,r,h,hL=>by
  have e:=hL l (Ml ..);have a:=fun i r h=>GR (cert:=cert) L i r h fun x b=>hL x (Ms _ b)
  rw[cG];split
  ·exact a _ _ h
  split
  ·exact pR
  next h1=>
  split
  ·next h2=>
   have c:=tz (l:=l) (cert:=cert) (by simpa using h1);have d:=tA (l:=l) (cert:=cert);exact a _ _ (pF h (xb (vs:=(g5 (bW l cert)).vals) c.2.2.2) (by show(bW l cert).vs.length<=_;omega) (ov h2)).1
  exact pR
theorem l9(s:Sch)(b:List UInt8):FitR (eM s b).1:=by
 unfold eM;split
 ·exact pR
 next hs=>
 split
 ·exact pR
 next hb=>
 have c:=gY (s:=s) (by simpa using hs);refine GR _ _ _ ⟨by show s.cols.length<=_;omega,by simp,fun t d=>by cases d⟩ fun x a=>?_
 have:=l4 _ _ _ _ _ a;have e:(⟨b.toArray⟩:ByteArray).size=b.length:=by simp[ByteArray.size]
 omega
def iA(c:UInt8):Bool:=decide (c.toNat=47)||decide (c.toNat=46)
def fH(l:List UInt8):Nat:=(l.takeWhile fun c=> !iA c).length
def dG(s:ByteArray):Bool:=s.data.toList.all cc&&decide (0<s.size)
theorem IW(l:List UInt8):fH l<=l.length:=(Oc _).length_le
theorem zp{c:UInt8}(h:cc c=true):iA c=false:=by
 unfold cc at h;unfold iA;simp only[L8,decide_eq_true_eq]at h;rw[decide_eq_false (by omega),decide_eq_false (by omega)];rfl
theorem GS{c:UInt8}(h:iA c=true):cc c=false:=by
 cases a:cc c with
 |false=>rfl
 |true=>rw[zp a]at h;cases h
theorem qA{p:UInt8->Bool}:∀{a b:List UInt8},a.all p=true->(b=[]\/∃c t,b=c::t/\p c=false)->((a++b).takeWhile p).length=a.length
 |[],b,_,h=>by
  rcases h with rfl|⟨c,t,rfl,d⟩
  ·rfl
  rw[MI,M0,d];rfl
 |x::a,b,ha,h=>by
  rw[Ny,L8]at ha;rw[Na,M0,ha.1,if_pos Z,L9,L9,qA ha.2 h]
theorem Jj{p:UInt8->Bool}:∀{l:List UInt8} {c:UInt8},l[(l.takeWhile p).length]? =some c->p c=false
 |[],c,h=>by simp at h
 |x::l,c,h=>by
  rw[M0]at h;cases a:p x with
  |false=>
   rw[a,if_neg (by simp)]at h;simp at h;rw[<-h];exact a
  |true=>
   rw[a,if_pos Z,L9,OH]at h;exact Jj h
theorem Kp{u:ByteArray}{n:Nat}(h:n<u.size):u.data.toList=(u.extract 0 n).data.toList++bD u n::(u.extract (n+1) u.size).data.toList:=by
 rw[dF,dF,M8,Me (i:=u.size) (by rw[<-aL];exact L4 _)];have:=bN h;rw[L3 (by rw[<-aL];exact h)]at this;rw[<-MW this,<-Mc,M4]
theorem IX{u:ByteArray}{n:Nat}(h:n<=u.size):(u.extract 0 n).data.toList.length=n:=by
 rw[<-aL,Mn];omega
theorem xk{u:ByteArray}(h:fH u.data.toList<u.size):iA (bD u (fH u.data.toList))=true:=by
 have:=Jj (p:=fun c=> !iA c) (bN h);unfold fH;simpa using this
theorem xn{u:ByteArray}{n:Nat}(h:n<=u.size)(b:(u.extract 0 n).data.toList.all cc=true)(i:n<u.size->iA (bD u n)=true):j7 u.data.toList=n/\fH u.data.toList=n:=by
 have d:=IX h;have a:(u.extract 0 n).data.toList.all (fun c=> !iA c)=true:=by
  rw[Mh]at b⊢;intro x j;rw[zp (b x j)];rfl
 rcases MA n u.size with f|f
 ·have e:=Kp f;have g:=i f;unfold j7 fH;rw[e];exact⟨(qA b (.inr ⟨_,_,Z,GS g⟩)).trans d,(qA a (.inr ⟨_,_,Z,by rw[g];rfl⟩)).trans d⟩
 have e:u.data.toList=(u.extract 0 n).data.toList++[]:=by
  rw[dF,M8,Me (by rw[<-aL];omega),Mq]
 unfold j7 fH;rw[e];exact⟨(qA b (.inl Z)).trans d,(qA a (.inl Z)).trans d⟩
theorem Kq{l:List UInt8}(h:l.all cc=true):j7 l=l.length:=by
 have:=qA (b:=[]) h (.inl Z);rw[Mq]at this;exact this
theorem vz{r:ByteArray}:(r.toList==(⟨#[]⟩:ByteArray).toList)=decide (r.size=0):=by
 rw[Lib.toList_data,Lib.toList_data,aL];cases r.data.toList with
 |nil=>rfl
 |cons x l=>simp
theorem vA{c:UInt8}{r:ByteArray}(a:iA c=true)(b:dG r=true):ip c r=false:=by
 unfold dG at b;rw[L8,decide_eq_true_eq]at b;unfold ip;unfold iA at a;rw[vz,decide_eq_false (p:=r.size=0) (by omega),Kq b.1,<-aL,decide_eq_false (p:=r.size≠r.size) (by simp),Qg,Qg];simp only[MP,decide_eq_true_eq]at a;rcases a with h|h
 ·rw[decide_eq_false (p:=c.toNat≠47) (by omega)];rfl
 rw[decide_eq_false (p:=c.toNat≠46) (by omega),Pd]
theorem Kr{ng:Bool}{u:ByteArray}(h:((!dG (u.extract 0 (fH u.data.toList)))||(decide (fH u.data.toList<u.size)&& !dG (u.extract (fH u.data.toList+1) u.size)))=true):fj ng u (j7 u.data.toList) (u.extract (j7 u.data.toList+1) u.size)=(0,2):=by
 have e:=pH u.data.toList;have a:=wP u.data.toList;rw[<-aL]at a;have b:(u.extract 0 (j7 u.data.toList)).data.toList.all cc=true:=by rw[dF,M8];exact e
 unfold fj;split
 ·rfl
 next h0=>
 have l:dG (u.extract 0 (j7 u.data.toList))=true:=by
  unfold dG;rw[b,decide_eq_true (by simp only[Mn];omega)];rfl
 split
 ·next h1=>
  obtain⟨_,i⟩:=xn a b (fun h=>absurd h1 (by omega));rw[i,l,h1,decide_eq_false (Nat.lt_irrefl _)]at h;cases h
 next h1=>
 split
 ·rfl
 next c=>
 have c:ip (bD u (j7 u.data.toList)) (u.extract (j7 u.data.toList+1) u.size)=false:=by simpa using c
 have m:=c;unfold ip at c;rw[Mo,Mo,Nu,vz]at c;obtain⟨⟨g,j⟩,f⟩:=c;have n:iA (bD u (j7 u.data.toList))=true:=by
  unfold iA;rw[MP];rcases g with h|h
  ·exact .inl (by simpa using h)
  exact .inr (by simpa using h)
 obtain⟨_,i⟩:=xn a b (fun _=>n);have k:(u.extract (j7 u.data.toList+1) u.size).data.toList.all cc=true:=lZ (by rw[<-aL];simpa using f);have d:dG (u.extract (j7 u.data.toList+1) u.size)=true:=by
  unfold dG;rw[k,decide_eq_true (by have:=of_decide_eq_false j;omega)];rfl
 rw[i,l,d]at h;simp at h
theorem Bt{u:ByteArray}(h:dG (u.extract 0 (fH u.data.toList))=true):j7 u.data.toList=fH u.data.toList/\0<fH u.data.toList:=by
 have a:=IW u.data.toList;rw[<-aL]at a;unfold dG at h;rw[L8,decide_eq_true_eq]at h;refine⟨(xn a h.1 fun h=>xk h).1,?_⟩;have:=h.2;simp only[Mn]at this;omega
theorem Ks{ng:Bool}{u:ByteArray}(h:dG (u.extract 0 (fH u.data.toList))=true)(a:fH u.data.toList=u.size):fj ng u (j7 u.data.toList) (u.extract (j7 u.data.toList+1) u.size)=(dH ng (cI u.data.toList) 1,0):=by
 obtain⟨e,b⟩:=Bt h;rw[e];unfold fj;rw[if_neg (by omega),if_pos a]
theorem CU{ng:Bool}{u:ByteArray}(h:dG (u.extract 0 (fH u.data.toList))=true)(b:fH u.data.toList<u.size)(a:dG (u.extract (fH u.data.toList+1) u.size)=true)(c:(bD u (fH u.data.toList)).toNat=47):fj ng u (j7 u.data.toList) (u.extract (j7 u.data.toList+1) u.size)=if cI (u.extract (fH u.data.toList+1) u.size).data.toList=0 then(0,20)else(dH ng (cI (u.extract 0 (fH u.data.toList)).data.toList) (cI (u.extract (fH u.data.toList+1) u.size).data.toList),0):=by
 obtain⟨e,d⟩:=Bt h;rw[e];unfold fj;rw[if_neg (by omega),if_neg (by omega),vA (xk b) a,if_neg (by simp),if_neg (by omega)]
theorem Kt{ng:Bool}{u:ByteArray}(h:dG (u.extract 0 (fH u.data.toList))=true)(f:fH u.data.toList<u.size)(c:dG (u.extract (fH u.data.toList+1) u.size)=true)(i:(bD u (fH u.data.toList)).toNat≠47):fj ng u (j7 u.data.toList) (u.extract (j7 u.data.toList+1) u.size)=(dH ng (cI (u.extract 0 (fH u.data.toList)++u.extract (fH u.data.toList+1) u.size).data.toList) (10^(u.size-(fH u.data.toList+1))),0):=by
 obtain⟨e,g⟩:=Bt h;have b:=xk f;have a:(bD u (fH u.data.toList)).toNat=46:=by
  unfold iA at b;simp only[MP,decide_eq_true_eq]at b;omega
 have d:(u.extract (fH u.data.toList+1) u.size).size=u.size-(fH u.data.toList+1):=by simp only[Mn];omega
 rw[e];unfold fj;rw[if_neg (by omega),if_neg (by omega),vA b c,if_neg (by simp),if_pos a,d]
theorem vB{u:ByteArray}{i:Nat}(h:i<u.size):fH (u.data.toList.drop i)=if iA (bD u i)=true then 0 else fH (u.data.toList.drop (i+1))+1:=by
 have a:i<u.data.toList.length:=by rw[<-aL];exact h
 have e:=bN h;rw[L3 a]at e;unfold fH;rw[Mc a,MW e,M0];cases b:iA (bD u i)<;>simp
theorem zq{p:UInt8->Bool}{u:ByteArray}{i:Nat}(h:i<u.size):(u.data.toList.drop i).all p=(p (bD u i)&&(u.data.toList.drop (i+1)).all p):=by
 have a:i<u.data.toList.length:=by rw[<-aL];exact h
 have e:=bN h;rw[L3 a]at e;rw[Mc a,MW e,Ny]
theorem El(l:List UInt8)(c:UInt8):cI (l++[c])=cI l*10+(c.toNat-48):=by unfold cI;rw[OS];rfl
theorem vC{u:ByteArray}{i:Nat}(h:i<u.size):u.data.toList.take (i+1)=u.data.toList.take i++[bD u i]:=by
 have a:i<u.data.toList.length:=by rw[<-aL];exact h
 have e:=bN h;rw[L3 a]at e;rw[Mx a,MW e]
theorem CV{c:UInt8}{u:ByteArray}{i:Nat}(h:i<u.size)(q:Bool)(cur:List UInt8):fk c (u.data.toList.drop i) q cur=if(bD u i==c&& !(if bD u i==39 then !q else q))=true then bs cur::fk c (u.data.toList.drop (i+1)) (if bD u i==39 then !q else q) []else fk c (u.data.toList.drop (i+1)) (if bD u i==39 then !q else q) (cur++[bD u i]):=by
 have a:i<u.data.toList.length:=by rw[<-aL];exact h
 have e:=bN h;rw[L3 a]at e;rw[Mc a,MW e,fk]
theorem GT{u:ByteArray}{i:Nat}(h:i<u.size)(cur:List UInt8):vt (u.data.toList.drop i) cur=if bD u i=10 then bs cur::vt (u.data.toList.drop (i+1)) []else vt (u.data.toList.drop (i+1)) (cur++[bD u i]):=by
 have a:i<u.data.toList.length:=by rw[<-aL];exact h
 have e:=bN h;rw[L3 a]at e;rw[Mc a,MW e,vt]
theorem zu{u:ByteArray}{f i:Nat}(a:f<=i)(h:i<u.size):(u.extract f (i+1)).data.toList=(u.extract f i).data.toList++[bD u i]:=by
 rw[dF,dF,vC h,List.drop_append_of_le_length (by rw[Mf,<-aL];omega)]
theorem mN{u:ByteArray}(i:Nat):(u.extract i i).data.toList=[]:=by
 rw[dF,Md (by rw[Mf];omega)]
def Lf:List UInt8:=[39,98,44,32,99,39,44,49,58,48,46,53,10,10,39,97,39,44,50,58,49,47,51]
def Lg:List UInt8:=[39,97,39,44,49,58,49,10,39,97,39,44,50,58,49,47,57]
def He:List UInt8:=[39,97,39,44,50,58,49,47,51,10,39,98,44,32,99,39,44,49,58,49,47,50,10]
def kA:Tp:=⟨[⟨2,0,⟨#[97]⟩⟩,⟨1,2,⟨#[]⟩⟩],dH false 1 3⟩
def kB:Tp:=⟨[⟨2,0,⟨#[98,44,32,99]⟩⟩,⟨1,1,⟨#[]⟩⟩],dH false 1 2⟩
theorem Lh:dq (bs Lf)=[bs [39,98,44,32,99,39,44,49,58,48,46,53],bs [],bs [39,97,39,44,50,58,49,47,51]]:=by
 have e:=jf (a:=[39,98,44,32,99,39,44,49,58,48,46,53]) (b:=[10,39,97,39,44,50,58,49,47,51]) (by decide);have c:=jf (a:=[]) (b:=[39,97,39,44,50,58,49,47,51]) (by decide);have d:=l8 (a:=[39,97,39,44,50,58,49,47,51]) (by decide);rw[d]at c;exact e.trans (congrArg _ c)
theorem ny{v:V}{vs:List V}{p:List UInt8}{q:Rat}(f:tJ v)(a:∀x∈vs,tJ x)(b:cV (bs p)=(q,0)):(bW (bs (be 0 (v::vs)++58::p)) false).ok=true/\g5 (bW (bs (be 0 (v::vs)++58::p)) false)=⟨v::vs,q⟩:=by
 have d:iq ((bs (be 0 (v::vs)++58::p)).size+1) (bs (be 0 (v::vs)++58::p)) []=some (v::vs,bs (58::p)):=by
  have e:be 0 (v::vs)++58::p=v.fmt++(be 1 vs++58::p):=by rw[be,if_neg (by omega)];simp
  have g:=nu vs 1 (by omega);rw[e];refine nt (.inr ⟨_,Z⟩) vs v _ [] ?_ f a;rw[eV];simp only[Mb];omega
 have c:(bs (58::p)).extract 1 (bs (58::p)).size=bs p:=l7 [58] p;unfold bW;rw[d];simp only;rw[if_neg (by simp),if_neg (by rw[de];simp[Lib.hasPrefix,List.isPrefixOf]),c,if_pos (by rw[b])];refine⟨Z,?_⟩;unfold g5;simp only;rw[b,ei]
def Ly:List UInt8:=[39,98,44,32,99,39,44,49,58,48,46,53]
def Lz:List UInt8:=[39,97,39,44,50,58,49,47,51]
def Li:List UInt8:=[39,97,39,44,49,58,49]
def KA:List UInt8:=[39,97,39,44,50,58,49,47,57]
def kC:Tp:=⟨[⟨2,0,⟨#[97]⟩⟩,⟨1,1,⟨#[]⟩⟩],dH false 1 1⟩
def kD:Tp:=⟨[⟨2,0,⟨#[97]⟩⟩,⟨1,2,⟨#[]⟩⟩],dH false 1 9⟩
theorem re:(∀x∈[(⟨1,1,⟨#[]⟩⟩:V)],tJ x)/\(∀x∈[(⟨1,2,⟨#[]⟩⟩:V)],tJ x)/\tJ ⟨2,0,⟨#[97]⟩⟩/\tJ ⟨2,0,⟨#[98,44,32,99]⟩⟩:=by
 refine⟨fun x a=>?_,fun x a=>?_,?_,?_⟩
 ·rw[Mm.1 a];exact⟨by kernel_rfl,by unfold V.rng;decide⟩
 ·rw[Mm.1 a];exact⟨by kernel_rfl,by unfold V.rng;decide⟩
 ·exact⟨by kernel_rfl,by unfold V.rng;decide⟩
 exact⟨by kernel_rfl,by unfold V.rng;decide⟩
theorem Lj:(bW (bs Ly) false).ok=true/\g5 (bW (bs Ly) false)=kB:=by
 have h:=ny (p:=[48,46,53]) (q:=dH false 1 2) re.2.2.2 re.1 (by decide+kernel);have e:be 0 [(⟨2,0,⟨#[98,44,32,99]⟩⟩:V),⟨1,1,⟨#[]⟩⟩]++58::[48,46,53]=Ly:=by kernel_rfl
 rw[e]at h;exact h
theorem Lk:(bW (bs Lz) false).ok=true/\g5 (bW (bs Lz) false)=kA:=by
 have h:=ny (p:=[49,47,51]) (q:=dH false 1 3) re.2.2.1 re.2.1 (by decide+kernel);have e:be 0 [(⟨2,0,⟨#[97]⟩⟩:V),⟨1,2,⟨#[]⟩⟩]++58::[49,47,51]=Lz:=by kernel_rfl
 rw[e]at h;exact h
theorem Ll:(bW (bs Li) false).ok=true/\g5 (bW (bs Li) false)=kC:=by
 have h:=ny (p:=[49]) (q:=dH false 1 1) re.2.2.1 re.1 (by decide+kernel);have e:be 0 [(⟨2,0,⟨#[97]⟩⟩:V),⟨1,1,⟨#[]⟩⟩]++58::[49]=Li:=by kernel_rfl
 rw[e]at h;exact h
theorem Lm:(bW (bs KA) false).ok=true/\g5 (bW (bs KA) false)=kD:=by
 have h:=ny (p:=[49,47,57]) (q:=dH false 1 9) re.2.2.1 re.2.1 (by decide+kernel);have e:be 0 [(⟨2,0,⟨#[97]⟩⟩:V),⟨1,2,⟨#[]⟩⟩]++58::[49,47,57]=KA:=by kernel_rfl
 rw[e]at h;exact h
theorem Ln:dq (bs Lg)=[bs Li,bs KA]:=by
 have c:=jf (a:=Li) (b:=KA) (by decide);have d:=l8 (a:=KA) (by decide);rw[d]at c;exact c
theorem LU:fC ⟨gL,[kA,kB]⟩=He:=by kernel_rfl
theorem Lo:c8 ⟨gL,[]⟩ kB=0:=by decide+kernel
theorem Lp:c8 ⟨gL,[kB]⟩ kA=0:=by decide+kernel
theorem Lq:bU ⟨gL,[kB]⟩ kA=⟨gL,[kA,kB]⟩:=by kernel_rfl
theorem Lr:c8 ⟨gL,[]⟩ kC=0:=by decide+kernel
theorem Jk:bU ⟨gL,[]⟩ kB=⟨gL,[kB]⟩/\bU ⟨gL,[]⟩ kC=⟨gL,[kC]⟩:=⟨by kernel_rfl,by kernel_rfl⟩
theorem Jl:c8 ⟨gL,[kC]⟩ kD=19:=by decide+kernel
theorem rN{l:List UInt8}{L:List ByteArray}{i:Nat}{r:Rel}{t:Tp}(a:l≠ [])(h:(bW (bs l) false).ok=true/\g5 (bW (bs l) false)=t):cG false (bs l::L) i r=if c8 r t=0 then cG false L (i+1) (bU r t)else(Rel.zero,i,c8 r t):=by
 rw[cG,if_neg (by
  rw[Lib.toList_data,Lib.toList_data,de];cases l with
  |nil=>exact absurd Z a
  |cons x l=>simp),if_neg (by rw[h.1];simp),h.2]
theorem Ls:eM gL Lf=(⟨gL,[kA,kB]⟩,0,0):=by
 unfold eM;rw[if_neg (by decide+kernel),if_neg (by decide)];show cG false (dq (bs Lf)) 0 ⟨gL,[]⟩=_
 rw[Lh];show cG false (bs Ly::bs []::bs Lz::[]) 0 ⟨gL,[]⟩=_
 rw[rN (by decide) Lj,if_pos Lo,Jk.1,nP,rN (by decide) Lk,if_pos Lp,Lq];rfl
theorem Lt:eM gL Lg=(Rel.zero,1,19):=by
 unfold eM;rw[if_neg (by decide+kernel),if_neg (by decide)];show cG false (dq (bs Lg)) 0 ⟨gL,[]⟩=_
 rw[Ln,rN (by decide) Ll,if_pos Lr,Jk.2,rN (by decide) Lm,if_neg (by rw[Jl];decide),Jl]
theorem qB{W:World}{G:Nat->Prop}:∀l:List UInt8,PT W G (bE l) (flat (bm l))
 |[]=>.nil
 |c::l=>.sc _ (qB l)
theorem rg{w0:World}{G0:Bse}{ops:Array Oper}{rest:List Oper}{Q:Exit->St->Prop}{n d p:Nat}{sl:List (Nat×Tree)}{bs:List (TypeId×List Tree)}{rs:List (Option Row)}{o e:Oper}(l:List UInt8)
  (J:o.guard=none) (i:o.dst=some d) (O:Nat.blt d n=true) (x:e.op=.convert 22 22 (.tmp d)) (A:e.guard=none) (c:e.dst=some p) (z:Nat.blt p n=true) (R:l.length<=1048576)
  (f:∀(w:World) (T:Nat->Value),(execOp (dU T) o).run Tryz.prog w=.ok (.value (.slice (some ⟨w.heap.size,0,none⟩) l.length l.length)) (w.alloc (.cells (bE l).toArray 5)))
  (k:AOps w0 G0 ops rest Q ⟨n,(p,.sl (bm l))::(d,.any)::sl,bs,rs⟩):AOps w0 G0 ops (o::e::rest) Q ⟨n,sl,bs,rs⟩:=by
 rintro a w ⟨bx,rv,B,b,r,y⟩;refine eu (by simp[Region.wanted,J]) fun K I=>?_
 have F:OpRuns Tryz.prog o (fun s=>a.tmps.getD s undef) w (fun v w'=>v=.slice (some ⟨w.heap.size,0,none⟩) l.length l.length/\w'=w.alloc (.cells (bE l).toArray 5)):=aC (f w _) ⟨Z,Z⟩;refine Oper.wp_mono ?_ (F.wp (Q:=zK w0 G0 Q));rintro H w' ⟨v,rfl,rfl,rfl⟩;refine I _ _<|eu (by simp[Region.wanted,A]) fun U q=>?_
 have g:d<n:=by simpa[Nv]using O
 have N:(a.put o.dst (.slice (some ⟨w.heap.size,0,none⟩) l.length l.length)).tmps.getD d undef=.slice (some ⟨w.heap.size,0,none⟩) l.length l.length:=by
  rw[i,gD a (some d) _ n b (by simpa[dM]using g),if_pos Z]
 have L:=Lib.run_convert_bytes_const (P:=Tryz.prog) w 22 5 (bE l).toArray l.length l.length Tryz.underlying22 Tryz.underlying5;have G:OpRuns Tryz.prog e (fun s=>(a.put o.dst (.slice (some ⟨w.heap.size,0,none⟩) l.length l.length)).tmps.getD s undef) (w.alloc (.cells (bE l).toArray 5)) (fun v w'=>v=.slice (some ⟨w.heap.size,0,none⟩) l.length l.length/\w'=w.alloc (.cells (bE l).toArray 5 ((bE l).toArray.size,(bE l).toArray.size+1))):=by
  refine aC (v:=.slice (some ⟨w.heap.size,0,none⟩) l.length l.length) ?_ ⟨Z,Z⟩;simp only[execOp,x,dU,N,Sem.run_bind,L,Result.andThen_ok,Sem.run_pure]
 refine Oper.wp_mono ?_ (G.wp (Q:=zK w0 G0 Q));rintro H w' ⟨v,rfl,rfl,rfl⟩;have E:Below w.heap.size w (w.alloc (.cells (bE l).toArray 5 ((bE l).toArray.size,(bE l).toArray.size+1))):=(Below.refl _ _).alloc (L4 _) _;refine q _ _ (k _ _ ⟨bx,rv,B.later E,by rw[dY,dY,b],by rw[dg,dg,r],?_⟩);have C:=jE (S:=⟨n,sl,bs,rs⟩) (o:=o) (v:=.slice (some ⟨w.heap.size,0,none⟩) l.length l.length) (t:=.any) b (by rw[i];simpa[dM]using g) (fun _ _ h=>FT.later h E) y (.any _ .nil);rw[i]at C;have m:FT (en (w.alloc (.cells (bE l).toArray 5 ((bE l).toArray.size,(bE l).toArray.size+1))) G0 bx rv rs) [.slice (some ⟨w.heap.size,0,none⟩) l.length l.length] [.sl (bm l)]:=by
  refine .pure (.sl w.heap.size 0 l.length l.length (bE l) (bm l) (by simp[en]) (vU B _ (L4 _)) (fun j u M=>?_) (by simp[bm]) (by simp[bm]) (by omega) (qB l) .nil) .nil;rw[MT];simp only[en,World.cell?,World.alloc,Array.getElem?_push,if_true];simpa using M
 have D:=jE (S:=⟨n,(d,.any)::sl,bs,rs⟩) (o:=e) (v:=.slice (some ⟨w.heap.size,0,none⟩) l.length l.length) (t:=.sl (bm l)) (a:=a.put (some d) (.slice (some ⟨w.heap.size,0,none⟩) l.length l.length)) (by rw[dY];exact b) (by rw[c];simpa[dM,Nv]using z) (fun _ _ h=>h) C m;rw[c]at D;rw[i,c];exact D
def kR:Rel:=⟨gL,[kA,kB]⟩
theorem CW:Good kR:=by
 have c:∀t∈kR.tups,t=kA\/t=kB:=fun t a=>by
  have a:t∈[kA,kB]:=a;simpa using a
 refine⟨by decide+kernel,fun t a=>?_,fun t a=>?_,fun t a=>?_,by decide,.inr Z⟩
 ·rcases c t a with rfl|rfl
  ·show dH false 1 3∈iy;unfold iy;simp
  show dH false 1 2∈iy;unfold iy;simp
 ·rcases c t a with rfl|rfl<;>(intro v b;simp only[kA,kB,Mi,NU,or_false]at b;rcases b with rfl|rfl<;>decide)
 rcases c t a with rfl|rfl<;>(intro v b;simp only[kA,kB,Mi,NU,or_false]at b;rcases b with rfl|rfl<;>(unfold V.rng;decide))
theorem GU:Ct 15 [] (bT true):=by
 obtain⟨c,k⟩:∃z:Nat,z=0:=⟨_,rfl⟩;obtain⟨d,g⟩:∃z:Nat,z=0:=⟨_,rfl⟩;obtain⟨j,i⟩:∃z:Nat,z=1:=⟨_,rfl⟩;obtain⟨e,f⟩:∃z:Nat,z=19:=⟨_,rfl⟩;refine Ct.of (n:=43) Tryz.func15 Z Z Z Z Z fun w0 G0=>?_
 refine ab<|aj 1 Z<|ab<|ae<|af Z Z Z (ak Z pO Z Z) ?_;refine rg Lf Z Z Z Z Z Z Z (by decide) (fun w T=>by
  simp only[execOp,dU];go_simp;exact⟨Z,Z⟩) ?_
 refine af (t:=.tup [.agg (aV kR),nI c,nI d]) Z Z Z (ak Z (by have h:=nq gL Lf;rw[Ls]at h;rw[k,g];exact h) Z Z)<|aa 8 Z<|ag<|ab<|ae<|af Z Z Z (ak Z pO Z Z) ?_;refine rg Lg Z Z Z Z Z Z Z (by decide) (fun w T=>by
  simp only[execOp,dU];go_simp;exact⟨Z,Z⟩) ?_
 refine af (t:=.tup [.agg eD,nI j,nI e]) Z Z Z (ak Z (by have h:=nq gL Lg;rw[Lt]at h;rw[i,f];exact h) Z Z)<|aa 8 Z<|ag<|ab<|ae<|aa 1 Z<|af (t:=bT (decide (d=0))) Z Z Z (ah (ai Z Z Z Zy) (ar (jF d 0)))<|aa 1 Z<|aq (t:=nI c) Z Z Z Z (fun b=>au Z Z)<|aq (t:=bT (decide (c=0))) Z Z Z Z (fun b=>ah (ai Z (if_pos b) Z (fun _=>rfl)) (ar (jF c 0)))<|af (t:=bT ((decide (d=0))&&(decide (c=0)))) Z Z Z (aK Z Z (fun a=>(if_pos a).trans (ar (by rw[a];rfl))) (fun a=>(ar (by rw[a];rfl))))<|aa 1 Z<|aq (t:=.agg (aV kR)) Z Z Z Z (fun b=>aP Z Z Z bj Z Z)<|aq (t:=.sl (bm He)) Z Z Z Z (fun b=>ak Z (by have h:=Bk kR CW.fit.1 CW.fit.2;rw[show fC kR=He from LU]at h;exact h) (eR (if_pos b) Z) Z)<|aq (t:=sT (⟨He.toArray⟩:ByteArray)) Z Z Z Z (fun b=>mY Z (if_pos b))<|aq (t:=bT ((⟨He.toArray⟩:ByteArray).toList==(⟨#[39,97,39,44,50,58,49,47,51,10,39,98,44,32,99,39,44,49,58,49,47,50,10]⟩:ByteArray).toList)) Z Z Z Z (fun b=>ai Z (if_pos b) Z (fun _=>rfl))<|af (t:=bT (((decide (d=0))&&(decide (c=0)))&&((⟨He.toArray⟩:ByteArray).toList==(⟨#[39,97,39,44,50,58,49,47,51,10,39,98,44,32,99,39,44,49,58,49,47,50,10]⟩:ByteArray).toList))) Z Z Z (aK Z Z (fun a=>(if_pos a).trans (ar (by rw[a];rfl))) (fun a=>(ar (by rw[a];rfl))))<|aa 1 Z<|aq (t:=nI e) Z Z Z Z (fun b=>au Z Z)<|aq (t:=bT (decide (e=19))) Z Z Z Z (fun b=>ah (ai Z (if_pos b) Z (fun _=>rfl)) (ar (jF e 19)))<|af (t:=bT ((((decide (d=0))&&(decide (c=0)))&&((⟨He.toArray⟩:ByteArray).toList==(⟨#[39,97,39,44,50,58,49,47,51,10,39,98,44,32,99,39,44,49,58,49,47,50,10]⟩:ByteArray).toList))&&(decide (e=19)))) Z Z Z (aK Z Z (fun a=>(if_pos a).trans (ar (by rw[a];rfl))) (fun a=>(ar (by rw[a];rfl))))<|aa 1 Z<|aq (t:=nI j) Z Z Z Z (fun b=>au Z Z)<|aq (t:=bT (decide (j=1))) Z Z Z Z (fun b=>ah (ai Z (if_pos b) Z (fun _=>rfl)) (ar (jF j 1)))<|af (t:=bT (((((decide (d=0))&&(decide (c=0)))&&((⟨He.toArray⟩:ByteArray).toList==(⟨#[39,97,39,44,50,58,49,47,51,10,39,98,44,32,99,39,44,49,58,49,47,50,10]⟩:ByteArray).toList))&&(decide (e=19)))&&(decide (j=1)))) Z Z Z (aK Z Z (fun a=>(if_pos a).trans (ar (by rw[a];rfl))) (fun a=>(ar (by rw[a];rfl))))<|aa 1 Z<|ag<|aw<|⟨.inr Z,_,.cons Z .nil,ar (by rw[k,g,i,f,show((⟨He.toArray⟩:ByteArray).toList==(⟨#[39,97,39,44,50,58,49,47,51,10,39,98,44,32,99,39,44,49,58,49,47,50,10]⟩:ByteArray).toList)=true from beq_self_eq_true (⟨He.toArray⟩:ByteArray).toList];rfl),Z⟩
end Go.Proofs.YtfoejfohbkmmeaaGreatDoor
