import Derived.Test.YtmhcanmapkenbaaGreatDoorA34
set_option linter.defProp false
open Go.Proofs.Tryz
namespace Go.Proofs.YtmhcanmapkenbaaGreatDoor
open Lib renaming hid→J
def yW(A:AH)(cs:List Value)(f:Nat)(l:List Nat)(ty:Nat):A.growN A.nx cs f l ty=A.grow cs f l ty:=rfl
section
variable {P:Program} {E:EE} {A A':AH} {base:Nat} {w:World}
def wN(h:RelA P E A base w){m:Nat}{i:TypeInfo}{k:Value}{t u ty e:TypeId}{d:TypeDesc}{X:Value}{n news:List Value}(N:A.nx<16384)
  (L:P.underlying t=some (.slice e)) (M:P.underlying u=some d) (hd:d=.string\/∃x,d=.slice x) (F:P.info? e=some i) (Q:i.zero=some k) (D:k.cells.toList.length=i.size)
  (B:(Builtin.lenOf X).run P w=.ok m w) (R:0<m) (r:n.length=m*i.size) (z:∀W:World,(∀b,b<w.heap.size->W.heap[b]? =w.heap[b]?)->(Builtin.firstCells i.size m X).run P W=.ok n.toArray W) (j:VL P E n news)
  (K:m<=1099511627776) (v:m*i.bytes<=140737488355328):
  ∃y w' E',(Builtin.append_ #[t,u] ty #[.slice none 0 0,X]).run P w=.ok y w'/\RelA P E' (A.grow news A.nx [] (e+1)) base w'/\VL P E' [y] [.slice (some ⟨A.nx,0,none⟩) m e]/\Fr E E' w w':=by
 have g:news.length=m*i.size:=by rw[<-j.length,r]
 have c:=mT P w t u ty e i k d L M hd F Q none 0 0 [] n X m (by simp[Builtin.firstCells]) B (z w.drew λ_ _=>rfl) O O (growslice_fits O (by simpa using v));simp only[QT]at c;have p:=grownCap_ge w m 0 e;have o:=grownCap_le_maxLen w m 0 e (by unfold maxLen;omega);unfold maxLen at o;have C:=size_zeroCells k.cells (grownCap w m 0 e-m);have s:k.cells.size=i.size:=by simpa using D
 have a:(([]:List Value).toArray++n.toArray++Builtin.zeroCells k.cells (grownCap w m 0 e-m)).size=grownCap w m 0 e*i.size:=by
  simp only[SQ,Rg,C,r,s,QC];rw[QT,<-Rp];congr 1;omega
 have q:m*i.size<=grownCap w m 0 e*i.size:=Ru _ p;obtain⟨E',G,H,I,J,_⟩:=h.freshT (ty:=e+1) (w':=w.drew.alloc (.cells (([]:List Value).toArray++n.toArray++Builtin.zeroCells k.cells (grownCap w m 0 e-m)) e)) (cs:=news) (f:=A.nx) (l:=[]) (fz:=(0,0)) N Z Z Z Z (.inl Z) (by rw[a,g];exact q) (by
  rw[<-j.length,QW,QW];simp only[Rv];rw[List.take_left' Z];exact j) (.inl ⟨Z,Z⟩) (.inr Z)
 refine⟨_,_,E',c,G,.slc _ 0 e _ _ w.heap.size 0 0 H p O (λ_=>⟨Z,_,i,I,F,?_⟩) .nil,J⟩;rw[a];omega
def Hk{u:Value}{a:Option Addr}{n c:Nat}(g:VL P E [u] [.slice a n c]):∃f d,u=.slice f n d/\n<=d:=by
 cases g with
 |sc v h _=>
  match a,n,c,h with
  |none,0,0,_=>exact⟨_,_,Z,Qi _⟩
 |slc n c e len cap b o q h hl hm hr _=>exact⟨_,_,Z,hl⟩
def Hl(h:RelA P E A base w){ts:List TypeId}{s x v us ux:Value}{ty:TypeId}(U:VL P E [us] [s])(hx:VL P E [ux] [x])(f:Hi P A ts s x=some (v,A')):
  ∃y w' E',(Builtin.append_ ts.toArray ty #[us,ux]).run P w=.ok y w'/\RelA P E' A' base w'/\VL P E' [y] [v]/\Fr E E' w w':=by
 unfold Hi at f;simp only[c8,fl,fp,jH,iK,dd]at f;split at f
 ·next t u=>
  split at f
  ·next e ht=>
   split at f
   ·next b len ee=>
    obtain⟨i,hi,f⟩:=aS f;obtain⟨zv,hz,f⟩:=aS f;obtain⟨h1,f⟩:=aW f;simp only[Qh]at h1;obtain⟨⟨⟨h1,h2⟩,h3⟩,h4⟩:=h1;have a1:=Ql h1;have a5:=cU h2;obtain⟨d,hu,hd⟩:=NN h3;obtain⟨m,hm,f⟩:=aS f;have L:=yU hx hm w;cases K:Nat.beq m 0 with
    |true=>
     rw[K]at f;have:=Ql K;subst this;cases f;obtain⟨a',c',rfl,M⟩:=Hk U;exact⟨_,w,E,yV P w t u ty e i d ht hu hd hi a' len c' ux L (qn hx hm i.size w) M,h,U,.refl _ _⟩
    |false=>
     rw[K]at f;have N:0<m:=RN λe=>by subst e;cases K
     obtain⟨T,f⟩:=aW f;simp only[Qh,Rh]at T;obtain⟨news,hn,f⟩:=aS f;obtain⟨a0,f⟩:=aW f;obtain⟨nr,X,Y,V⟩:=uT h hx ⟨m,hm,Qi _⟩ N (λs U=>by subst U;exact Ql h4) hn;cases b with
     |none=>
      obtain⟨I,f⟩:=kg f;cases f;obtain⟨rfl,rfl,rfl⟩:=U.nilSlice;simp only[QT]at T;exact wN h I ht hu hd hi hz a1 L N X V Y T.1 T.2
     |some a=>
      obtain⟨n,c,sp⟩:=a;cases sp with
      |some _=>cases f
      |none=>
      obtain⟨r,C,f⟩:=aS f;obtain⟨W,f⟩:=mA f;obtain⟨h6,f⟩:=aW f;simp only[Qh,Rh]at h6;obtain⟨⟨h6,h7⟩,h8⟩:=h6;have I:=cU h8;have:=Ql h6;subst this;obtain⟨l,hl,f⟩:=aS f;rw[b8,b8]at f;obtain⟨S,o,q,cap,z,rfl,M,a2,R⟩:=U.slice;have a9:cond (Nat.beq r.ty (ee+1)) (ee+1) 0=0\/(cond (Nat.beq r.ty (ee+1)) (ee+1) 0=ee+1/\r.ty=ee+1):=by
       cases hb:Nat.beq r.ty (ee+1)with
       |true=>exact .inr ⟨Z,Ql hb⟩
       |false=>exact .inl Z
      have F:=λ(A1:AH) (l1:List Nat) (g1:RelA P E A1 base w) (g2:A1.nx<16384) (g3:A1.fget r.fam=some l1) (g4:∀k q,A1.get k=some q->∀J,E.lo k=some (S,J)->q.fam=r.fam/\J+q.cs.length<=o+(c+len*i.size))=>
       Hj (ty:=ty) h C W g1 g2 g3 g4 z M a2 R ht hu hd hi hz a1 a5 L N X V Y a0 T.1 T.2 h7 a9
      cases j:Nat.beq (c+len*i.size) r.cs.length with
      |true=>
       rw[j]at f;have j:=Ql j
       match l,hl,f with
       |n'::l,hl,f=>
        have f:cond (Nat.beq n n') _ _=some (v,A'):=f;cases Q:Nat.beq n n' with
        |true=>
         rw[Q]at f;have:=Ql Q;subst this;cases f;refine F A _ h I hl λk q G J g=>⟨?_,?_⟩
         ·rcases h.sep k n q r S J o G C g z with D|D
          ·subst D;rw[C]at G;cases G;rfl
          exact D
         have hf:q.fam=r.fam:=by
          rcases h.sep k n q r S J o G C g z with D|D
          ·subst D;rw[C]at G;cases G;rfl
          exact D
         have:=h.top r.fam n l hl r k q S o J C G hf z g;omega
        |false=>
         rw[Q]at f;cases f;have H:=wH A n r.fam;have:=F (A.kill n r.fam) [n] (h.kill C) (by rw[H];exact I) (by rw[ke h C,if_pos Z]) λk q G J g=>by
          have p:=(kd h C k).symm.trans G;cases B:A.get k with
          |none=>rw[B]at p;cases p
          |some q'=>
           rw[B]at p;simp only at p;split at p
           ·cases p
           next hc=>
           cases p;have hf:q.fam=r.fam:=by
            rcases h.sep k n q r S J o B C g z with D|D
            ·subst D;rw[C]at B;cases B;rfl
            exact D
           have a3:k=n:=Classical.byContradiction λa4=>hc ⟨hf,a4⟩
           subst a3;rw[C]at B;cases B;rw[z]at g;cases g;exact⟨Z,O⟩
         rw[<-yW,H]at this;exact this
      |false=>
       rw[j]at f;have f:some (Value.slice (some ⟨A.nx,0,none⟩) (len+m) ee,((A.kill n r.fam).put n none).growN A.nx ((r.cs.drop c).take (len*i.size)++news) r.fam [n] (cond (Nat.beq r.ty (ee+1)) (ee+1) 0))=some (v,A'):=f;cases f;obtain⟨g1,g2,g3⟩:=t6 h C;have H:((A.kill n r.fam).put n none).nx=A.nx:=wH A n r.fam;have:=F ((A.kill n r.fam).put n none) [n] g1 (by rw[H];exact I) g2 λk q G J g=>by
        obtain⟨D,e2,e3⟩:=g3 k q G;rcases h.sep k n q r S J o e2 C g z with e4|e4
        ·exact absurd e4 D
        exact absurd e4 e3
       rw[<-yW,H]at this;exact this
   cases f
  cases f
 cases f
end
def Bc(v:Value):Bool:=
 match v with
 | .chan (some _)=>false
 |_=>true
def VL.cells'{P:Program}{E:EE}{u t:Value}(h:VL P E [u] [t])(a:Bc t=true):VL P E u.cells.toList t.cells.toList:=h.cells (by
 cases t with
 |chan r=>cases r with
  |none=>rfl
  |some _=>cases a
 |_=>rfl)
def VL.scs{P:Program}{E:EE}:∀{l:List Value},l.all s0=true->VL P E l l
 |[],_=>.nil
 |v::l,h=>by
  simp only[Rc,Qh]at h;exact .sc v h.1 (VL.scs h.2)
noncomputable def mU (place:Nat->Option (Nat×Nat)) (cells:List Value) (ps:List (Nat×Value)):Option (List Value):=
 List.rec (λcells=>some cells) (λp _ ih cells=>cP (place p.1) λq=>cond (Bc p.2&&Nat.beq (gF p.2.cells.toList) q.2&&Nat.ble (q.1+q.2) (gF cells)) (fF (Bb q.1 cells p.2.cells.toList) ih) none) ps cells
def Be{place:Nat->Option (Nat×Nat)}{cells:List Value}{p:Nat×Value}{ps:List (Nat×Value)}:mU place cells (p::ps)=cP (place p.1) λq=>cond (Bc p.2&&Nat.beq p.2.cells.toList.length q.2&&Nat.ble (q.1+q.2) cells.length) (mU place (Bb q.1 cells p.2.cells.toList) ps) none:=by
 show cP (place p.1) (λq=>cond (Bc p.2&&Nat.beq (gF p.2.cells.toList) q.2&&Nat.ble (q.1+q.2) (gF cells)) (fF (Bb q.1 cells p.2.cells.toList) λc=>mU place c ps) none)=_
 simp only[c8,dd]
def nJ:∀(vs:List Value) (k off:Nat) (cells:Array Value),off+k+vs.length<=cells.size->(vs.zipIdx k).foldl (λcs (c,j)=>cs.setIfInBounds (off+j) c) cells=(cells.toList.take (off+k)++vs++cells.toList.drop (off+k+vs.length)).toArray
 |[],k,off,cells,h=>F
 |v::vs,k,off,cells,h=>by
  simp only[Qn]at h;rw[List.zipIdx_cons,RY,nJ vs (k+1) off _ (by simp;omega)];simp only[Rk,Qn];congr 1;rw[<-RP,S8 O,SW,Ro (by simp;omega)];have e:(List.take (off+k) cells.toList).length=off+k:=by rw[QN];simp;omega
  rw[Sd _ _ O,e];simp[RP,Sb 1]
def mB{P:Program}{E:EE}{place:Nat->Option (Nat×Nat)}:∀{ps qs:List (Nat×Value)} {cells:Array Value} {ts rs:List Value},ps.map (·.1)=qs.map (·.1)->VL P E (ps.map (·.2)) (qs.map (·.2))->VL P E cells.toList ts->mU place ts qs=some rs->∃us,Instr.fill place cells ps=some us/\VL P E us.toList rs
 |[],[],cells,ts,rs,_,_,h,b=>by
  cases b;exact⟨cells,Z,h⟩
 |[],_::_,_,_,_,a,_,_,_=>by simp at a
 |_::_,[],_,_,_,a,_,_,_=>by simp at a
 |(i,v)::ps,(j,t)::qs,cells,ts,rs,a,hf,h,b=>by
  simp only[QM,Tu]at a hf;obtain⟨rfl,a⟩:=a;rw[Be]at b;obtain⟨⟨off,size⟩,l,b⟩:=aS b;obtain⟨o,b⟩:=aW b;simp only[Qh,Rh]at o;obtain⟨⟨g,d⟩,r⟩:=o;have d:=Ql d;have p:=hf.head.cells' g;have f:=p.length;have hl:=h.length;have m:v.cells.size=t.cells.toList.length:=by simpa using f
  have k:cells.size=ts.length:=by simpa using hl
  have s:¬(v.cells.size≠size||decide (off+v.cells.size>cells.size))=true:=by
   simp only[Q5,decide_eq_true_eq,not_or];rw[m,k];constructor<;>omega
  have e:=nJ v.cells.toList 0 off cells (by simp;omega);simp only[Instr.fill,l];rw[if_neg s];have u:v.cells.zipIdx.foldl (λcs (x:Value×Nat)=>cs.setIfInBounds (off+x.2) x.1) cells=(cells.toList.take off++v.cells.toList++cells.toList.drop (off+v.cells.toList.length)).toArray:=by
   rw[<-Td,S9];exact e
  have n:(v.cells.zipIdx.foldl (λcs (x:Value×Nat)=>match x with|(c,j)=>cs.setIfInBounds (off+j) c) cells)=(cells.toList.take off++v.cells.toList++cells.toList.drop (off+v.cells.toList.length)).toArray:=u;rw[n];refine mB a hf.tail ?_ b;rw[qO off ts _ (by simp only at d⊢;omega)];simp only;have q:v.cells.toList.length=t.cells.toList.length:=f;rw[q];exact((h.take off).append p).append (h.drop _)
noncomputable def de (P:Program) (sl:Slo) (x:Operand):Value:=Operand.rec (λt=>jq sl t) (λv=>cond (s0 v) v (.chan (some 0))) (λg=>cond (Nat.blt g P.globals.size) (.pointer (some ⟨g,0,none⟩)) (.chan (some 0))) (λf=>.func (.func f) #[] #[]) x
section
variable {P:Program} {E:EE} {T:Nat->Value} {sl:Slo}
def SlotV.at(h:SlotV P E T sl)(x:Operand):VL P E [eL T x] [de P sl x]:=by
 cases x with
 |tmp s=>exact h.slot s
 |const v=>
  show VL P E [v] [cond (s0 v) v _]
  cases b:s0 v with
  |true=>exact .sc v b .nil
  |false=>exact .any v .nil
 |global g=>
  show VL P E [_] [cond (Nat.blt g P.globals.size) _ _]
  cases a:Nat.blt g P.globals.size with
  |true=>
   have:=VL.ptr (P:=P) (E:=E) g 0 g 0 (h.glob g (cU a)) .nil;simpa[eL]using this
  |false=>exact .any _ .nil
 |func f=>exact .sc _ Z .nil
def SlotV.parts(h:SlotV P E T sl):∀ps:List (Nat×Operand),(ps.map λp=>(p.1,eL T p.2)).map (·.1)=(iv (λp=>(p.1,de P sl p.2)) ps).map (·.1)/\VL P E ((ps.map λp=>(p.1,eL T p.2)).map (·.2)) ((iv (λp=>(p.1,de P sl p.2)) ps).map (·.2))
 |[]=>⟨Z,.nil⟩
 |p::ps=>by
  obtain⟨a,b⟩:=SlotV.parts h ps;rw[qL]at a b⊢;simp only[QM]at a b⊢;exact⟨by rw[a],(h.at p.2).cons b⟩
def SlotV.args(h:SlotV P E T sl):∀xs:List Operand,VL P E (xs.map (eL T)) (iv (de P sl) xs)
 |[]=>.nil
 |x::xs=>(h.at x).cons (SlotV.args h xs)
end
abbrev Rs:=Option (Value×AH)
section
variable {P:Program} {base:Nat} {sl:Slo} {A:AH} {o:Oper}
def eT{v:Value}(h:∀E w T,RelA P E A base w->SlotV P E T sl->∃u,(execOp (eL T) o).run P w=.ok (.value u) w/\VL P E [u] [v]):Good P base sl A o (some (v,A)):=by
 intro v' f e E w T a d;cases e;obtain⟨u,b,c⟩:=h E w T a d;exact .of_ok b (.here a c)
def d6:Good P base sl A o none:=λ_ _ e=>by cases e
def EB{x:Operand}(b:o.op=.move x):Good P base sl A o (some (de P sl x,A)):=eT λE w T c a=>⟨_,by simp[execOp,b],a.at x⟩
def yX{x:Operand}(b:o.op=.assign x):Good P base sl A o (some (de P sl x,A)):=eT λE w T c a=>⟨_,by simp[execOp,b],a.at x⟩
noncomputable def tc (P:Program) (sl:Slo) (A:AH) (c a b:Operand):Rs:=match de P sl c with| .bool true=>some (de P sl a,A)| .bool false=>some (de P sl b,A)|_=>none
def EC{c a b:Operand}(e:o.op=.pick c a b):Good P base sl A o (tc P sl A c a b):=by
 unfold tc;split
 ·next h=>exact eT λE w T f d=>⟨_,by have:=d.at c;rw[h]at this;simp[execOp,e,this.bool,asBool],d.at a⟩
 ·next h=>exact eT λE w T f d=>⟨_,by have:=d.at c;rw[h]at this;simp[execOp,e,this.bool,asBool],d.at b⟩
 exact d6
def Newer(P:Program)(sl:Slo)(A:AH)(o:Oper)(r:Rs):Prop:=∀v A',r=some (v,A')->∃cs,A.nx<16384/\A'=A.grow cs A.nx []/\∀(E:EE) (w:World) T,SlotV P E T sl->∃(arr:Array Value) (e:TypeId) (u:Value),(execOp (eL T) o).run P w=.ok (.value u) (w.alloc (.cells arr e))/\cs.length<=arr.size/\VL P E (arr.toList.take cs.length) cs/\∀E':EE,E.Le E'->E'.lo A.nx=some (w.heap.size,0)->E'.bl w.heap.size=some arr.size->E'.tb w.heap.size=some e->VL P E' [u] [v]
def dP:Newer P sl A o none:=λ_ _ e=>by cases e
def Newer.good{r:Rs}(h:Newer P sl A o r):Good P base sl A o r:=by
 intro v' b q E w T n p;obtain⟨cs,s,rfl,h⟩:=h v' b q;obtain⟨arr,e,u,j,hl,k,m⟩:=h E w T p;obtain⟨E',c,d,g,a,i⟩:=n.freshT (w':=w.alloc (.cells arr e)) (cs:=cs) (f:=A.nx) (l:=[]) (arr:=arr) (e:=e) (fz:=(0,0)) s Z Z Z Z (.inl Z) hl k (.inl ⟨Z,Z⟩) (.inl Z);exact .of_ok j ⟨E',c,m E' a.le d g i,a⟩
def kh{cs:List Value}{f:Nat->Value}(h:∀(E:EE) (w:World) T,SlotV P E T sl->∃(arr:Array Value) (e:TypeId) (u:Value),(execOp (eL T) o).run P w=.ok (.value u) (w.alloc (.cells arr e))/\VL P E arr.toList cs/\∀E':EE,E.Le E'->E'.lo A.nx=some (w.heap.size,0)->E'.bl w.heap.size=some arr.size->E'.tb w.heap.size=some e->VL P E' [u] [f A.nx]):Newer P sl A o (lg A cs λk A=>some (f k,A)):=by
 intro v' j a;obtain⟨i,a⟩:=kg a;cases a;refine⟨cs,i,Z,λE w T g=>?_⟩;obtain⟨arr,e,u,c,b,d⟩:=h E w T g;have hl:arr.size=cs.length:=by simpa using b.length
 exact⟨arr,e,u,c,O,by rw[<-hl,<-RE,SA];exact b,d⟩
noncomputable def Hm (P:Program) (e:TypeId):Bool:=match P.underlying e with
 |some (.struct fs)=>match fs.toList with
  |[f,g]=>(match P.underlying f.type,P.underlying g.type with|some (.pointer e'),some (.slice _)=>Nat.beq e' e|_,_=>false)
  |_=>false
 |_=>false
noncomputable def qP (P:Program) (A:AH) (e:TypeId):Rs:=cP (L2 P e) λz=>cond (pG s0 z) (cond (Hm P e) (cP (P.info? e) λi=>cond (Nat.beq (gF z) i.size) (lg A z λk A=>some (.pointer (some ⟨k,0,some e⟩),A)) none) (lg A z λk A=>some (.pointer (some ⟨k,0,none⟩),A))) none
def Pr{E:EE}{n b:Nat}(h:E.lo n=some (b,0)):VL P E [.pointer (some ⟨b,0,none⟩)] [.pointer (some ⟨n,0,none⟩)]:=.ptr n 0 b 0 h .nil
def qc{e:TypeId}(g:o.op=.alloc e):Newer P sl A o (qP P A e):=by
 unfold qP;cases j:L2 P e with
 |none=>exact dP
 |some z=>
  show Newer P sl A o (cond (pG s0 z) _ none)
  rw[iK];cases h:z.all s0 with
  |false=>exact dP
  |true=>
   show Newer P sl A o (cond (Hm P e) _ _)
   cases Hm P e with
   |false=>
    refine kh (f:=λk=>.pointer (some ⟨k,0,none⟩)) λE w T n=>?_
    obtain⟨d,b,a⟩:=o5 j w;refine⟨d.cells,e,_,?_,by rw[a];exact VL.scs h,λE' _ c _ _=>Pr c⟩;simp[execOp,g,Instr.alloc,b,newVar,newRow]
   |true=>
    show Newer P sl A o (cP (P.info? e) _)
    cases p:P.info? e with
    |none=>exact dP
    |some i=>
     show Newer P sl A o (cond (Nat.beq (gF z) i.size) _ none)
     rw[c8];cases hl:Nat.beq z.length i.size with
     |false=>exact dP
     |true=>
      have hl:=Ql hl;refine kh (f:=λk=>.pointer (some ⟨k,0,some e⟩)) λE w T n=>?_
      obtain⟨d,b,a⟩:=o5 j w;refine⟨d.cells,e,.pointer (some ⟨w.heap.size,0,none⟩),?_,by rw[a];exact VL.scs h,λE' _ c l m=>.tpt _ _ e c m ⟨i,p,by rw[l,<-hl,<-a];simp⟩ .nil⟩;simp[execOp,g,Instr.alloc,b,newVar,newRow]
def Bf{e:TypeId}(a:o.op=.alloc e):Good P base sl A o (qP P A e):=(qc a).good
noncomputable def yY (P:Program) (sl:Slo) (A:AH) (x:Operand):Rs:=cond (Bc (de P sl x)) (lg A (de P sl x).cells.toList λk A=>some (.pointer (some ⟨k,0,none⟩),A)) none
def uU{e:TypeId}{x:Operand}(d:o.op=.box e x):Newer P sl A o (yY P sl A x):=by
 unfold yY;cases c:Bc (de P sl x)with
 |false=>exact dP
 |true=>
  refine kh (f:=λk=>.pointer (some ⟨k,0,none⟩)) λE w T b=>?_
  refine⟨(eL T x).cells,e,_,?_,(b.at x).cells' c,λE' _ a _ _=>Pr a⟩;simp[execOp,d,Instr.box,newVar,newRow]
def Hn{e:TypeId}{x:Operand}(a:o.op=.box e x):Good P base sl A o (yY P sl A x):=(uU a).good
end
section
variable {P:Program} {base:Nat} {sl:Slo} {A:AH} {o:Oper}
noncomputable def wO (P:Program) (fs:List Field):Option (List (Nat×Nat)):=List.rec (some []) (λf _ ih=>cP (s9 P f.type) λs=>cP ih λl=>some ((f.offset,s)::l)) fs
def qe{w:World}:∀{l:List Field} {a:List (Nat×Nat)},wO P l=some a->(l.mapM (m:=Sem) λf=>do pure (f.offset,<-sizeOf f.type)).run P w=.ok a w
 |[],a,h=>by
  cases h;rfl
 |f::l,a,h=>by
  obtain⟨s,b,h⟩:=aS (o:=s9 P f.type) h;obtain⟨ps,c,h⟩:=aS (o:=wO P l) h;cases h;have d:=dI b w;have e:=qe (w:=w) c;simp only[SM,Sem.run_bind,d,Result.andThen_ok,Sem.run_pure];rw[e];rfl
noncomputable def o6 (P:Program) (sl:Slo) (A:AH) (t:TypeId) (ps:List (Nat×Operand)):Rs:=cP (L2 P t) λz=>cond (z.all s0) (match P.underlying t with
 |some (.struct fs)=>cP (wO P fs.toList) λpl=>cP (mU (jT pl) z (iv (λp=>(p.1,de P sl p.2)) ps)) λcs=>some (.agg cs.toArray,A)
 |some (.array _ e)=>cP (s9 P e) λs=>cP (mU (λi=>some (i*s,s)) z (iv (λp=>(p.1,de P sl p.2)) ps)) λcs=>some (.agg cs.toArray,A)
 |_=>none) none
def Bg{t:TypeId}{ps:Array (Nat×Operand)}(H:o.op=.build t ps):Good P base sl A o (o6 P sl A t ps.toList):=by
 intro v L a E w T G I;unfold o6 at a;obtain⟨z,K,a⟩:=aS a;obtain⟨J,a⟩:=aW a;obtain⟨F,j,D⟩:=o5 K w;obtain⟨g,h⟩:=I.parts ps.toList;have k:VL P E F.cells.toList z:=by rw[D];exact VL.scs J
 split at a
 ·next fs hu=>
  obtain⟨d,l,a⟩:=aS a;obtain⟨cs,q,a⟩:=aS a;cases a;have r:mU (d[·]?) z (iv (λp=>(p.1,de P sl p.2)) ps.toList)=some cs:=by
   have:(λi=>d[i]?)=jT d:=by funext i;exact(ia d i).symm
   rw[this];exact q
  obtain⟨us,u,y⟩:=mB g h k r;have C:=qe (w:=w) l;have B:(fs.mapM (m:=Sem) λf=>do pure (f.offset,<-sizeOf f.type)).run P w=.ok d.toArray w:=by
   rw[RD,Sem.run_map,C];rfl
  have c:Instr.fill (λx=>d.toArray[x]?) F.cells (ps.map λp=>(p.1,eL T p.2)).toList=some us:=by
   rw[<-u];simp
  have b:(Instr.build t (ps.map λp=>(p.1,eL T p.2))).run P w=.ok (.agg us) w:=by
   unfold Instr.build;rw[Sem.run_bind,j,Result.andThen_ok,Sem.run_bind,run_underlying hu,Result.andThen_ok];simp only;rw[Sem.run_bind,B,Result.andThen_ok];simp only[c];rfl
  refine .of_ok (v:=.agg us) (W':=w) (by simp[execOp,H,b]) (.here G ?_);have:=VL.agg us.toList cs y (.nil (P:=P) (E:=E));simpa using this
 ·next n e hu=>
  obtain⟨s,l,a⟩:=aS a;obtain⟨cs,q,a⟩:=aS a;cases a;obtain⟨us,u,y⟩:=mB g h k q;have c:Instr.fill (λi=>some (i*s,s)) F.cells (ps.map λp=>(p.1,eL T p.2)).toList=some us:=by
   rw[<-u];simp
  have b:(Instr.build t (ps.map λp=>(p.1,eL T p.2))).run P w=.ok (.agg us) w:=by
   unfold Instr.build;rw[Sem.run_bind,j,Result.andThen_ok,Sem.run_bind,run_underlying hu,Result.andThen_ok];simp only;rw[Sem.run_bind,dI l w,Result.andThen_ok];simp only[c];rfl
  refine .of_ok (v:=.agg us) (W':=w) (by simp[execOp,H,b]) (.here G ?_);have:=VL.agg us.toList cs y (.nil (P:=P) (E:=E));simpa using this
 cases a
noncomputable def o7 (z:List Value) (n:Nat):List Value:=Nat.rec [] (λ_ ih=>z++ih) n
def ef(z:List Value):∀n,(o7 z n).length=n*z.length
 |0=>by rw[Nat.zero_mul];rfl
 |n+1=>by
  show(z++o7 z n).length=_
  rw[QJ,ef z n,Rp];omega
def ki(z:List Value):∀(n i:Nat),i<n*z.length->(o7 z n)[i]? =z[i%z.length]?
 |0,i,h=>by simp at h
 |n+1,i,h=>by
  show(z++o7 z n)[i]? =_
  by_cases a:i<z.length
  ·rw[Qv a,RC a]
  rw[Qx O,ki z n (i-z.length) (by rw[Rp]at h;omega),<-Nat.mod_eq_sub_mod O]
def nK(a:Value)(n s:Nat)(f:a.cells.toList.length=s):((Array.range (n*s)).map (a.cells[· %a.cells.size]!)).toList=o7 a.cells.toList n:=by
 have d:a.cells.size=s:=by simpa using f
 refine SO λi=>?_
 simp only[R7,Te,QL];by_cases b:i<n*s
 ·rw[List.getElem?_range b,Rf,ki _ n i (by rw[f];exact b),f,d];have c:i%s<a.cells.size:=by
   rw[d];exact R9 _ (RN λe=>by rw[e]at b;simp at b)
  rw[getElem!_pos a.cells _ c,QO,QR c]
 rw[Rl (by simpa using b),Rl (by rw[ef,f];omega)];rfl
noncomputable def EP (P:Program) (t:TypeId):Option (TypeId×Nat):=match P.underlying t with|some (.slice e)=>cP (s9 P e) λs=>some (e,s)|_=>none
def nL{t e:TypeId}{s:Nat}(h:EP P t=some (e,s)):P.underlying t=some (.slice e)/\∃i,P.info? e=some i/\i.size=s:=by
 unfold EP at h;split at h
 ·next e' hu=>
  obtain⟨d,a,c⟩:=aS h;cases c;unfold s9 at a;cases b:P.info? e with
  |none=>rw[b]at a;cases a
  |some i=>
   rw[b]at a;exact⟨hu,i,Z,by simpa using a⟩
 cases h
noncomputable def wP (P:Program) (sl:Slo) (A:AH) (t:TypeId) (len:Nat) (ps:List (Nat×Operand)):Rs:=cP (EP P t) λe=>cP (L2 P e.1) λz=>cond (z.all s0&&Nat.beq z.length e.2&&Nat.blt 0 (len*e.2)&&Nat.ble (len*e.2) 16777216) (cP (mU (λi=>some (i*e.2,e.2)) (o7 z len) (iv (λp=>(p.1,de P sl p.2)) ps)) λcs=>lg A cs λk A=>some (.slice (some ⟨k,0,none⟩) len e.1,A)) none
def Bh{t:TypeId}{a:Nat}{ps:Array (Nat×Operand)}(ho:o.op=.buildSlice t a ps):Newer P sl A o (wP P sl A t a ps.toList):=by
 unfold wP;cases X:EP P t with
 |none=>exact dP
 |some es=>
  obtain⟨e,s⟩:=es;show Newer P sl A o (cP (L2 P e) _)
  cases hz:L2 P e with
  |none=>exact dP
  |some z=>
   show Newer P sl A o (cond (z.all s0&&Nat.beq z.length s&&Nat.blt 0 (a*s)&&Nat.ble (a*s) 16777216) _ none)
   cases L:(z.all s0&&Nat.beq z.length s&&Nat.blt 0 (a*s)&&Nat.ble (a*s) 16777216)with
   |false=>exact dP
   |true=>
    show Newer P sl A o (cP (mU (λi=>some (i*s,s)) (o7 z a) (iv (λp=>(p.1,de P sl p.2)) ps.toList)) _)
    cases Y:mU (λi=>some (i*s,s)) (o7 z a) (iv (λp=>(p.1,de P sl p.2)) ps.toList)with
    |none=>exact dP
    |some cs=>
     simp only[Qh,Rh]at L;obtain⟨⟨⟨S,r⟩,y⟩,h4⟩:=L;have r:=Ql r;have y:=cU y;obtain⟨g,i,M,rfl⟩:=nL X;refine kh (f:=λk=>.slice (some ⟨k,0,none⟩) a e) λE w T W=>?_
     obtain⟨l,I,q⟩:=o5 hz w;obtain⟨C,D⟩:=W.parts ps.toList;have J:l.cells.toList.length=i.size:=by rw[q];exact r
     have b:VL P E ((Array.range (a*i.size)).map (l.cells[· %l.cells.size]!)).toList (o7 z a):=by
      rw[nK l a i.size J,q];refine fy Z λj u t g N=>?_
      rw[g]at N;cases N;rw[ki z a j (by have:=(Qm.1 g).1;rwa[ef]at this)]at g;exact .sc _ (Qt.1 S _ (Qo g)) .nil
     obtain⟨us,U,V⟩:=mB C D b Y;have m:Instr.fill (λx=>some (x*i.size,i.size)) ((Array.range (a*i.size)).map (l.cells[· %l.cells.size]!)) (ps.map λp=>(p.1,eL T p.2)).toList=some us:=by
      rw[<-U];simp
     have Q:¬2^24<a*i.size:=O
     have R:¬a*i.size=0:=O
     have F:(sizeOf e).run P w=.ok i.size w:=by simp[sizeOf,typeInfo,M]
     have n:(Instr.buildSlice t a (ps.map λp=>(p.1,eL T p.2))).run P w=.ok (.slice (some ⟨w.heap.size,0,none⟩) a a) (w.alloc (.cells us e)):=by
      simp only[Instr.buildSlice,Sem.run_bind,run_underlying g,Result.andThen_ok,F,gt_iff_lt,if_neg Q,if_neg R,I,Sem.run_pure,m,newRow,newObj];rfl
     have G:us.size=a*i.size:=by
      have K:=b.length;have B:∀{ps:List (Nat×Value)} {c d:Array Value},Instr.fill (λi'=>some (i'*i.size,i.size)) c ps=some d->d.size=c.size:=λ{ps}=>by
       induction ps with
       |nil=>intro c d h;simp only[Instr.fill,Qy]at h;rw[h]
       |cons p ps ih=>
        intro c d h;obtain⟨j,v⟩:=p;simp only[Instr.fill]at h;split at h
        ·cases h
        next hc'=>
        simp only[Q5,not_or,decide_eq_true_eq,Tn]at hc';have:=nJ v.cells.toList 0 (j*i.size) c (by simp;omega);have H:v.cells.zipIdx.foldl (λcs (x:Value×Nat)=>cs.setIfInBounds (j*i.size+x.2) x.1) c=(c.toList.take (j*i.size+0)++v.cells.toList++c.toList.drop (j*i.size+0+v.cells.toList.length)).toArray:=by
         rw[<-Td,S9];exact this
        have:=ih h;rw[this];show(v.cells.zipIdx.foldl (λcs (x:Value×Nat)=>cs.setIfInBounds (j*i.size+x.2) x.1) c).size=c.size
        rw[H];simp;omega
      rw[B m];simp
     refine⟨us,e,_,by simp[execOp,ho,n],V,λE' _ K B _=>.slc _ 0 e a a w.heap.size 0 0 K (Qi _) ?_ (λ_=>⟨Z,_,i,B,M,by rw[G];omega⟩) .nil⟩;have:a<=a*i.size:=SN a (RN λe=>by rw[e]at y;omega);omega
noncomputable def yZ (P:Program) (sl:Slo) (A:AH) (t:TypeId) (len:Nat) (ps:List (Nat×Operand)):Rs:=cond (Nat.beq len 0) (List.rec (cP (EP P t) λe=>lg A [] λk A=>some (.slice (some ⟨k,0,none⟩) 0 e.1,A)) (λ_ _ _=>none) ps) (wP P sl A t len ps)
def uV{t:TypeId}{a:Nat}{ps:Array (Nat×Operand)}(g:o.op=.buildSlice t a ps):Newer P sl A o (yZ P sl A t a ps.toList):=by
 unfold yZ;cases c:Nat.beq a 0 with
 |false=>exact Bh g
 |true=>
  have c:=Ql c;subst c;obtain⟨ps⟩:=ps;cases ps with
  |cons _ _=>exact dP
  |nil=>
   show Newer P sl A o (cP (EP P t) _)
   cases m:EP P t with
   |none=>exact dP
   |some es=>
    obtain⟨e,s⟩:=es;obtain⟨p,i,n,rfl⟩:=nL m;refine kh (f:=λk=>.slice (some ⟨k,0,none⟩) 0 e) λE w T q=>?_
    have d:(sizeOf e).run P w=.ok i.size w:=by simp[sizeOf,typeInfo,n]
    have b:(Instr.buildSlice t 0 #[]).run P w=.ok (.slice (some ⟨w.heap.size,0,none⟩) 0 0) (w.alloc (.cells #[] e)):=by
     have j:∀f:Nat->Value,Array.map f (Array.range 0)=#[]:=λf=>Array.eq_empty_of_size_eq_zero F
     simp[Instr.buildSlice,run_underlying p,d,Instr.fill,newRow,j]
    exact⟨#[],e,_,by simp[execOp,g,b],.nil,λE' _ l _ _=>.slc _ 0 e 0 0 w.heap.size 0 0 l (Qi _) O (λh=>absurd h (Nat.lt_irrefl _)) .nil⟩
def Ho{t:TypeId}{a:Nat}{ps:Array (Nat×Operand)}(b:o.op=.buildSlice t a ps):Good P base sl A o (yZ P sl A t a ps.toList):=(uV b).good
noncomputable def KB (P:Program) (sl:Slo) (A:AH) (t:TypeId) (a:Operand):Rs:=cP (kX P A t (de P sl a)) λv=>some (v,A)
def ED{t:TypeId}{a:Operand}(f:o.op=.load t a):Good P base sl A o (KB P sl A t a):=by
 unfold KB;cases h:kX P A t (de P sl a)with
 |none=>exact d6
 |some v=>
   refine eT λE w T d e=>?_
   obtain⟨y,b,c⟩:=uS d (e.at a) h;exact⟨y,by simp[execOp,f,b],c⟩
noncomputable def KC (P:Program) (sl:Slo) (A:AH) (t:TypeId) (a x:Operand):Rs:=
 match de P sl a with
 | .pointer (some ⟨n,c,none⟩)=>cP (s9 P t) λs=>cond (Bc (de P sl x)&&Nat.beq (de P sl x).cells.toList.length s) (cP (kf A n c (de P sl x).cells.toList) λA=>some (undef,A)) none
 |_=>none
def Bi{t:TypeId}{a x:Operand}(u:o.op=.store t a x):Good P base sl A o (KC P sl A t a x):=by
 intro v B d E w T r j;unfold KC at d;have i:=j.at a;split at d
 ·next n c hv=>
  rw[hv]at i;obtain⟨b,q,g,y⟩:=i.pointer;obtain⟨s,z,d⟩:=aS d;obtain⟨f,d⟩:=aW d;simp only[Qh]at f;obtain⟨C,k,d⟩:=aS d;cases d;have e:=(j.at x).cells' f.1;obtain⟨w',l,m,p⟩:=lN r g e k;have hl:=e.length;have h:(eL T x).cells.size=s:=by
   have:=Ql f.2;have hl:(eL T x).cells.size=(de P sl x).cells.toList.length:=by simpa using hl
   omega
  refine .of_skip (W':=w') ?_ ⟨E,m,.tup [] [] .nil .nil,p⟩;simp[execOp,u,y,Instr.storeAt,Instr.sureAddr,storeVar,dI z,h,l]
 cases d
noncomputable def te (P:Program) (sl:Slo) (A:AH) (x:Operand):Rs:=match de P sl x with| .pointer (some a)=>some (.pointer (some a),A)|_=>none
def EF{x:Operand}(e:o.op=.nilCheck x):Good P base sl A o (te P sl A x):=by
 unfold te;split
 ·next a h=>
   refine eT λE w T f d=>?_
   have b:=d.at x;rw[h]at b;refine⟨eL T x,?_,b⟩;cases c:eL T x with
   |pointer p=>
    rw[c]at b;cases p with
    |none=>cases b
    |some p=>simp[execOp,e,c]
   |_=>rw[c]at b;cases b
 exact d6
noncomputable def y5 (P:Program) (sl:Slo) (A:AH) (t:Operand) (i:Nat):Rs:=match de P sl t with| .tuple vs=>cP (jT vs.toList i) λv=>some (v,A)|_=>none
def Hp{t:Operand}{i:Nat}(j:o.op=.extract t i):Good P base sl A o (y5 P sl A t i):=by
 unfold y5;split
 ·next vs h=>
  cases c:jT vs.toList i with
  |none=>exact d6
  |some v=>
    refine eT λE w T k g=>?_
    have a:=g.at t;rw[h]at a;obtain⟨xs,d,e⟩:=a.tupl;rw[ia]at c;obtain⟨u,b,f⟩:=e.get i v c;refine⟨u,?_,f⟩;simp only[QO]at b;simp[execOp,j,d,Instr.extract,b]
 exact d6
end
