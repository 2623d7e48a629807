import Derived.Test.YtmhcanmapkenbaaGreatDoorA33
set_option linter.defProp false
open Go.Proofs.Tryz
namespace Go.Proofs.YtmhcanmapkenbaaGreatDoor
open Lib renaming hid→J
def eL(T:Nat->Value):Operand->Value
 | .tmp s=>T s
 | .const v=>v
 | .global g=>.pointer (some ⟨g,0,none⟩)
 | .func f=>.func (.func f) #[] #[]
def wI(a:Act):a.eval=eL λs=>a.tmps.getD s undef:=by
 funext x;cases x<;>rfl
structure Slo where
 n:Nat
 l:List (List Value)
noncomputable def s8 (l:List Value):Nat->Value:=List.rec (λ_=>.chan (some 0)) (λv _ ih n=>Nat.rec v (λm _=>ih m) n) l
noncomputable def slc (l:List (List Value)):Nat->List Value:=List.rec (λ_=>[]) (λv _ ih n=>Nat.rec v (λm _=>ih m) n) l
noncomputable def jq (S:Slo) (i:Nat):Value:=s8 (slc S.l (i/8)) (i%8)
noncomputable def Hf (l:List Value):Nat->Value->List Value:=List.rec (λ_ _=>[]) (λa l ih n v=>Nat.rec (v::l) (λm _=>a::ih m v) n) l
noncomputable def Oc (l:List (List Value)):Nat->Nat->Value->List (List Value):=List.rec (λ_ _ _=>[]) (λa l ih n k v=>Nat.rec (Hf a k v::l) (λm _=>a::ih m k v) n) l
noncomputable def sset (S:Slo) (d:Nat) (v:Value):Slo:=cond (Nat.blt d S.n) ⟨S.n,Oc S.l (d/8) (d%8) v⟩ S
def qM:∀(l:List Value) (i:Nat) (v:Value) (j:Nat),s8 (Hf l i v) j=(if j=i then s8 (Hf l i v) i else s8 l j)/\(s8 (Hf l i v) i=v\/s8 (Hf l i v) i=.chan (some 0))
 |[],i,v,j=>⟨by split<;>rfl,.inr Z⟩
 |a::l,0,v,j=>⟨by cases j<;>rfl,.inl Z⟩
 |a::l,i+1,v,0=>⟨Z,(qM l i v 0).2⟩
 |a::l,i+1,v,j+1=>by
  obtain⟨b,c⟩:=qM l i v j;refine⟨?_,c⟩;show s8 (Hf l i v) j=if j+1=i+1 then s8 (Hf l i v) i else s8 l j
  rw[b];simp only[Nat.add_right_cancel_iff]
def qN:∀(l:List (List Value)) (i k:Nat) (v:Value) (j:Nat),slc (Oc l i k v) j=if j=i then Hf (slc l i) k v else slc l j
 |[],i,k,v,j=>by split<;>rfl
 |a::l,0,k,v,j=>by cases j<;>rfl
 |a::l,i+1,k,v,0=>rfl
 |a::l,i+1,k,v,j+1=>by
  show slc (Oc l i k v) j=if j+1=i+1 then Hf (slc l i) k v else slc l j
  rw[qN l i k v j];simp only[Nat.add_right_cancel_iff]
def yS(S:Slo)(d:Nat)(v:Value)(s:Nat)(h:d<S.n):(s≠d->jq (sset S d v) s=jq S s)/\(s=d->jq (sset S d v) s=v\/jq (sset S d v) s=.chan (some 0)):=by
 have e:sset S d v=⟨S.n,Oc S.l (d/8) (d%8) v⟩:=by unfold sset;rw[jU h];rfl
 unfold jq;rw[e];simp only;rw[qN];refine⟨λb=>?_,λa=>?_⟩
 ·split
  ·next e1=>rw[(qM _ _ _ _).1,if_neg O,e1]
  rfl
 subst a;rw[if_pos Z];exact(qM _ _ v (s%8)).2
def InR(S:Slo)(d:Nat):Prop:=d%8<(slc S.l (d/8)).length
def CU:∀(l:List Value) (i:Nat) (v:Value),(Hf l i v).length=l.length
 |[],_,_=>rfl
 |_::_,0,_=>rfl
 |_::l,i+1,v=>congrArg (· +1) (CU l i v)
def Hg:∀(l:List Value) (i:Nat) (v:Value),i<l.length->s8 (Hf l i v) i=v
 |[],_,_,h=>by simp at h
 |_::_,0,_,_=>rfl
 |_::l,i+1,v,h=>Hg l i v (by simpa using h)
def InR.sset{S:Slo}{d e:Nat}{v:Value}(h:InR S e):InR (sset S d v) e:=by
 unfold Go.Proofs.YtmhcanmapkenbaaGreatDoor.sset;cases Nat.blt d S.n with
 |false=>exact h
 |true=>
  show e%8<(slc (Oc S.l (d/8) (d%8) v) (e/8)).length
  rw[qN];split
  ·next he=>rw[CU,<-he];exact h
  exact h
def NM{S:Slo}{d:Nat}{v:Value}(h:d<S.n)(a:InR S d):jq (sset S d v) d=v:=by
 have e:Go.Proofs.YtmhcanmapkenbaaGreatDoor.sset S d v=⟨S.n,Oc S.l (d/8) (d%8) v⟩:=by unfold Go.Proofs.YtmhcanmapkenbaaGreatDoor.sset;rw[jU h];rfl
 unfold jq;rw[e];simp only;rw[qN,if_pos Z];exact Hg _ _ _ a
noncomputable def chk (k:Nat):List Value->List (List Value):=Nat.rec (λ_=>[]) (λ_ ih l=>List.rec [] (λ_ _ _=>ld 8 l::ih (lM 8 l)) l) k
def iA:∀(l:List Value) (i:Nat),s8 l i=l.getD i (.chan (some 0))
 |[],_=>rfl
 |_::_,0=>rfl
 |_::l,n+1=>by rw[Ta];exact iA l n
def wJ:∀(k:Nat) (l:List Value) (i:Nat),s8 (slc (chk k l) (i/8)) (i%8)=s8 l i\/s8 (slc (chk k l) (i/8)) (i%8)=.chan (some 0)
 |0,l,i=>.inr Z
 |k+1,[],i=>.inr Z
 |k+1,a::l,i=>by
  have e:chk (k+1) (a::l)=ld 8 (a::l)::chk k (lM 8 (a::l)):=rfl;rw[e,fp,fl];by_cases b:i<8
  ·rw[Sn b,RC b];show s8 ((a::l).take 8) i=_\/_
   rw[iA,iA,Qp,QQ,if_pos b,Qp];exact .inl Z
  have c:i/8=(i-8)/8+1:=O
  have d:i%8=(i-8)%8:=O
  rw[c,d];show s8 (slc (chk k ((a::l).drop 8)) ((i-8)/8)) ((i-8)%8)=_\/_
  rcases wJ k ((a::l).drop 8) (i-8)with h|h
  ·left;rw[h,iA,iA,Qp,Q9,Qp];congr 2;omega
  exact .inr h
def Ba:∀(k:Nat) (l:List Value) (i:Nat),l.length<=8*k->i<l.length->i%8<(slc (chk k l) (i/8)).length/\s8 (slc (chk k l) (i/8)) (i%8)=s8 l i
 |0,l,i,h,hi=>O
 |k+1,[],i,_,hi=>by simp at hi
 |k+1,a::l,i,h,hi=>by
  have g:chk (k+1) (a::l)=ld 8 (a::l)::chk k (lM 8 (a::l)):=rfl;rw[g,fp,fl];by_cases b:i<8
  ·rw[Sn b,RC b];show i<((a::l).take 8).length/\s8 ((a::l).take 8) i=_
   refine⟨by rw[QN];omega,?_⟩;rw[iA,iA,Qp,QQ,if_pos b,Qp]
  have c:i/8=(i-8)/8+1:=O
  have d:i%8=(i-8)%8:=O
  rw[c,d];show(i-8)%8<(slc (chk k ((a::l).drop 8)) ((i-8)/8)).length/\s8 (slc (chk k ((a::l).drop 8)) ((i-8)/8)) ((i-8)%8)=_
  obtain⟨e,f⟩:=Ba k ((a::l).drop 8) (i-8) (by rw[QZ];omega) (by rw[QZ];omega);refine⟨e,?_⟩;rw[f,iA,iA,Qp,Q9,Qp];congr 2;omega
noncomputable def KA (l:List Value) (n:Nat):Slo:=⟨n,chk n l⟩
def Hh(l:List Value)(n i:Nat):jq (KA l n) i=s8 l i\/jq (KA l n) i=.chan (some 0):=wJ n l i
structure SlotV (P:Program) (E:EE) (T:Nat->Value) (sl:Slo):Prop where
 slot:∀s,VL P E [T s] [jq sl s]
 glob:∀g,g<P.globals.size->E.lo g=some (g,0)
def OpY(P:Program)(o:Oper)(T:Nat->Value)(W:World)(K:Value->World->Prop):Prop:=
 match (execOp (eL T) o).run P W with
 | .ok (.value v) W'=>K v W'
 | .ok .skip W'=>K undef W'
 | .ok (.enter f args) W'=>Calls P f args W' λe W''=>∃v,e=.returned v/\K v W''
 |_=>False
def OpY.of_ok{P:Program}{o:Oper}{T:Nat->Value}{W W':World}{K:Value->World->Prop}{v:Value}(h:(execOp (eL T) o).run P W=.ok (.value v) W')(a:K v W'):OpY P o T W K:=by
 unfold OpY;rw[h];exact a
def OpY.of_skip{P:Program}{o:Oper}{T:Nat->Value}{W W':World}{K:Value->World->Prop}(h:(execOp (eL T) o).run P W=.ok .skip W')(a:K undef W'):OpY P o T W K:=by
 unfold OpY;rw[h];exact a
def OpY.of_call{P:Program}{o:Oper}{T:Nat->Value}{W:World}{K:Value->World->Prop}{f:FuncId}{args:Array Value}(h:(execOp (eL T) o).run P W=.ok (.enter f args) W)(b:Calls P f args W λe a=>∃v,e=.returned v/\K v a):OpY P o T W K:=by
 unfold OpY;rw[h];exact b
def OpY.wp{P:Program}{o:Oper}{a:Act}{W:World}{K:Value->World->Prop}{Q:Exit->Act->World->Prop}(h:OpY P o (λs=>a.tmps.getD s undef) W K):o.wp P a W (λb W'=>∃v,b=a.put o.dst v/\K v W') Q:=by
 unfold OpY at h;unfold Oper.wp;rw[wI];generalize (execOp (eL λs=>a.tmps.getD s undef) o).run P W=r at h;cases r with
 |ok n w'=>
  cases n<;>simp only[Oper.upon]at h⊢<;>
   first
    |exact⟨_,Z,h⟩
    |exact Calls.mono h (λe f ⟨v,c,d⟩=>by subst c;exact⟨v,Z,d⟩)
    |exact h.elim
 |halt x w'=>cases x<;>exact h.elim
def Aft(P:Program)(E:EE)(A':AH)(base:Nat)(w:World)(v:Value)(u:Value)(w':World):Prop:=∃E',RelA P E' A' base w'/\VL P E' [u] [v]/\Fr E E' w w'
def Aft.here{P:Program}{E:EE}{A:AH}{base:Nat}{w:World}{v u:Value}(h:RelA P E A base w)(a:VL P E [u] [v]):Aft P E A base w v u w:=⟨E,h,a,.refl _ _⟩
def Good(P:Program)(base:Nat)(sl:Slo)(A:AH)(o:Oper)(r:Option (Value×AH)):Prop:=∀v A',r=some (v,A')->∀E w T,RelA P E A base w->SlotV P E T sl->OpY P o T w (Aft P E A' base w v)
def VL.int{P:Program}{E:EE}{u:Value}{k:IntKind}{n:Int}(h:VL P E [u] [.int k n]):u=.int k n:=by cases h;rfl
def VL.bool{P:Program}{E:EE}{u:Value}{b:Bool}(h:VL P E [u] [.bool b]):u=.bool b:=by cases h;rfl
def VL.string{P:Program}{E:EE}{u:Value}{s:ByteArray}(h:VL P E [u] [.string s]):u=.string s:=by cases h;rfl
def VL.pointer{P:Program}{E:EE}{u:Value}{n c:Nat}(h:VL P E [u] [.pointer (some ⟨n,c,none⟩)]):∃b o,E.lo n=some (b,o)/\u=.pointer (some ⟨b,o+c,none⟩):=by
 cases h with
 |sc v h _=>cases h
 |ptr n c b o h _=>exact⟨b,o,h,Z⟩
def VL.slice{P:Program}{E:EE}{u:Value}{n c e a:Nat}(h:VL P E [u] [.slice (some ⟨n,c,none⟩) a e]):∃b o q cap,E.lo n=some (b,o)/\u=.slice (some ⟨b,q,none⟩) a cap/\a<=cap/\cap<=9223372036854775807/\(0<cap->q=o+c/\∃s i,E.bl b=some s/\P.info? e=some i/\o+c+cap*i.size<=s):=by
 cases h with
 |sc v h _=>cases h
 |slc n c e a cap b o q h hl hm hr _=>exact⟨b,o,q,cap,h,Z,hl,hm,hr⟩
def VL.nilSlice{P:Program}{E:EE}{u:Value}{m c:Nat}(h:VL P E [u] [.slice none m c]):u=.slice none m c/\m=0/\c=0:=by
 cases h with
 |sc v h _=>
  match m,c,h with
  |0,0,_=>exact⟨Z,Z,Z⟩
def VL.aggr{P:Program}{E:EE}{u:Value}{cs:Array Value}(h:VL P E [u] [.agg cs]):∃xs,u=.agg xs/\VL P E xs.toList cs.toList:=by
 cases h with
 |sc v h _=>cases h
 |agg xs cs hx _=>exact⟨_,Z,by simpa using hx⟩
def VL.tupl{P:Program}{E:EE}{u:Value}{cs:Array Value}(h:VL P E [u] [.tuple cs]):∃xs,u=.tuple xs/\VL P E xs.toList cs.toList:=by
 cases h with
 |sc v h _=>cases h
 |tup xs cs hx _=>exact⟨_,Z,by simpa using hx⟩
section
variable {P:Program} {E:EE} {A:AH} {base:Nat} {w:World}
def RelA.reads(h:RelA P E A base w){n:Nat}{r:ARow}{b o:Nat}(q:A.get n=some r)(i:E.lo n=some (b,o))(c m:Nat)(y:c+m<=r.cs.length):∃us:List Value,us.length=m/\(∀(j:Nat) u,us[j]? =some u->w.cell? ⟨b,o+c+j,none⟩=some u)/\VL P E us ((r.cs.drop c).take m):=by
 obtain⟨x,z,k,_,_,l⟩:=h.row n r q;rw[i]at k;cases k;have key:∀j,j<m->∃u v,w.cell? ⟨b,o+c+j,none⟩=some u/\r.cs[c+j]? =some v/\VL P E [u] [v]:=λj d=>by
  obtain⟨u,e,g⟩:=l (c+j) r.cs[c+j] (Qj O);exact⟨u,_,by rw[show o+c+j=o+(c+j) by omega];exact e,Qj O,g⟩
 refine⟨(List.range m).map λj=>(w.cell? ⟨b,o+c+j,none⟩).getD undef,F,λj u a=>?_,fy (by simp;omega) λj u t a f=>?_⟩
 ·rw[QL]at a;by_cases d:j<m
  ·obtain⟨s,v,e,_⟩:=key j d;rw[List.getElem?_range d]at a;simp only[Rf,e,Q2,Qy]at a;rw[<-a];exact e
  rw[Rl (by simpa using d)]at a;cases a
 rw[QQ,Q9]at f;split at f
 ·next d=>
  obtain⟨s,v,e,g,p⟩:=key j d;rw[QL,List.getElem?_range d]at a;simp only[Rf,e,Q2,Qy]at a;rw[g]at f;cases f;rw[<-a];exact p
 cases f
end
noncomputable def Pp (vs:List Value):List Value->List Value:=List.rec (λl=>l) (λv _ ih l=>List.rec [] (λ_ l' _=>v::ih l') l) vs
noncomputable def Bb (c:Nat):List Value->List Value->List Value:=Nat.rec (λl vs=>Pp vs l) (λ_ ih l vs=>List.rec [] (λa l' _=>a::ih l' vs) l) c
def CV:∀(vs l:List Value),vs.length<=l.length->Pp vs l=vs++l.drop vs.length
 |[],l,_=>rfl
 |v::vs,[],h=>by simp at h
 |v::vs,a::l,h=>congrArg (v:: ·) (CV vs l (by simpa using h))
def qO:∀(c:Nat) (l vs:List Value),c+vs.length<=l.length->Bb c l vs=l.take c++vs++l.drop (c+vs.length)
 |0,l,vs,h=>by rw[Tb,Rv,QT];exact CV vs l O
 |c+1,[],vs,h=>by simp at h
 |c+1,a::l,vs,h=>by
  rw[show c+1+vs.length=(c+vs.length)+1 by omega];exact congrArg (a:: ·) (qO c l vs (by simp only[Qn]at h;omega))
def yT{c:Nat}{l vs:List Value}(h:c+vs.length<=l.length):(Bb c l vs).length=l.length:=by
 rw[qO c l vs h];simp;omega
noncomputable def Pq (P:Program) (t:TypeId):Option Bool:=(P.underlying t).map λd=>match d with| .struct _| .array _ _=>true|_=>false
noncomputable def s9 (P:Program) (t:TypeId):Option Nat:=(P.info? t).map (·.size)
noncomputable def L2 (P:Program) (t:TypeId):Option (List Value):=(P.info? t).bind λi=>i.zero.map λz=>z.cells.toList
noncomputable def kX (P:Program) (A:AH) (t:TypeId) (v:Value):Option Value:=
 match v with
 | .pointer (some ⟨n,c,none⟩)=>cP (A.get n) λr=>cP (Pq P t) λg=>cond g (cP (s9 P t) λs=>cond (Nat.ble (c+s) (gF r.cs)) (fF (ld s (lM c r.cs)) λl=>some (.agg l.toArray)) none) (jT r.cs c)
 |_=>none
noncomputable def kf (A:AH) (n c:Nat) (vs:List Value):Option AH:=cP (A.get n) λr=>cond r.fro none (cond (Nat.ble (c+gF vs) (gF r.cs)&&pG yQ vs) (fF (Bb c r.cs vs) λl=>some ((A.kill n r.fam).put n (some ⟨l,r.fam,false,r.ty⟩))) none)
def mA{b:Bool}{α:Type}{x:Option α}{r:α}(h:cond b none x=some r):b=false/\x=some r:=by
 cases b with
 |false=>exact⟨Z,h⟩
 |true=>cases h
def wK{P:Program}{t:TypeId}{g:Bool}(h:Pq P t=some g)(w:World):(isAgg t).run P w=.ok g w:=by
 unfold Pq at h;cases a:P.underlying t with
 |none=>rw[a]at h;cases h
 |some d=>
  rw[a]at h;simp only[Rf,Qy]at h;unfold isAgg;rw[Sem.run_bind,run_underlying a w];subst h;cases d<;>simp
def dI{P:Program}{t:TypeId}{s:Nat}(h:s9 P t=some s)(w:World):(sizeOf t).run P w=.ok s w:=by
 unfold s9 at h;cases a:P.info? t with
 |none=>rw[a]at h;cases h
 |some i=>
  rw[a]at h;simp only[Rf,Qy]at h;simp[sizeOf,typeInfo,a,h]
def o5{P:Program}{t:TypeId}{z:List Value}(h:L2 P t=some z)(w:World):∃a,(zeroValue t).run P w=.ok a w/\a.cells.toList=z:=by
 unfold L2 at h;cases b:P.info? t with
 |none=>rw[b]at h;cases h
 |some i=>
  rw[b]at h;cases c:i.zero with
  |none=>simp[c]at h
  |some a=>
   simp only[QY,c,Rf,Qy]at h;exact⟨a,by simp[zeroValue,typeInfo,b,c],h⟩
def eG(b o i:Nat):(⟨b,o,none⟩:Addr).add i=⟨b,o+i,none⟩:=by unfold Addr.add;split<;>simp_all
section
variable {P:Program} {E:EE} {A A':AH} {base:Nat} {w:World}
def uS(h:RelA P E A base w){t:TypeId}{u v x:Value}(C:VL P E [u] [v])(a:kX P A t v=some x):∃y,(Instr.loadAt t u).run P w=.ok y w/\VL P E [y] [x]:=by
 unfold kX at a;simp only[c8,fl,fp,dd]at a;split at a
 ·next n c=>
  obtain⟨b,o,e,rfl⟩:=C.pointer;obtain⟨r,l,a⟩:=aS a;obtain⟨g,z,a⟩:=aS a;have d:=wK z w;cases g with
  |true=>
   obtain⟨s,B,a⟩:=aS a;obtain⟨f,m⟩:=aW a;cases m;obtain⟨us,p,i,k⟩:=h.reads l e c s (by simpa using f);have hl:=run_loadCells_list (P:=P) w ⟨b,o+c,none⟩ us (λj v D=>by rw[eG];exact i j v D);rw[p]at hl;refine⟨.agg us.toArray,?_,.agg us _ k .nil⟩;simp[Instr.loadAt,Instr.sureAddr,loadVar,d,dI B,hl]
  |false=>
   have a:jT r.cs c=some x:=a;rw[ia]at a;obtain⟨F,G,f,_,_,i⟩:=h.row n r l;rw[e]at f;cases f;obtain⟨y,k,q⟩:=i c x a;refine⟨y,?_,q⟩;simp[Instr.loadAt,Instr.sureAddr,loadVar,d,k]
 cases a
def lN(h:RelA P E A base w){n c b o:Nat}{us vs:List Value}(G:E.lo n=some (b,o))(Y:VL P E us vs)(F:kf A n c vs=some A'):∃w',(storeCells ⟨b,o+c,none⟩ us).run P w=.ok () w'/\RelA P E A' base w'/\Fr E E w w':=by
 unfold kf at F;simp only[c8,iK,dd]at F;obtain⟨r,N,F⟩:=aS F;obtain⟨l,F⟩:=mA F;obtain⟨T,h2⟩:=aW F;cases h2;simp only[Qh]at T;have K:c+vs.length<=r.cs.length:=by simpa using T.1
 have hk:=h.kill N;have W:=uR h N;obtain⟨d,o',h3,h4,h5,h6⟩:=h.row n r N;rw[G]at h3;cases h3;obtain⟨s,U,h8⟩:=h5.resolve_left λh=>by rw[l]at h;cases h.1
 obtain⟨h9,cur,e,fz,j,I,z⟩:=h.blk b s U;have J:FzB s fz:=z ⟨n,r,o,N,l,G⟩;clear z;have a3:=Y.length;have Q:=nH P b (o+c) e fz us 0 cur w j (by rw[I];exact J) (by rw[I];omega) (Y.ones T.2);simp only[RQ]at Q;have p:=setRow_heap w b cur (cur.toList.take (o+c)++us++cur.toList.drop (o+c+us.length)).toArray e fz j;have x:(w.setRow b (cur.toList.take (o+c)++us++cur.toList.drop (o+c+us.length)).toArray).heap.size=w.heap.size:=by simp[World.setRow]
 have f:∀d,d≠b->(w.setRow b (cur.toList.take (o+c)++us++cur.toList.drop (o+c+us.length)).toArray).heap[d]? =w.heap[d]? :=λd a=>by
  simp only[World.setRow];rw[RG,if_neg (λe=>a e.symm)]
 refine⟨_,Q,?_,⟨.refl E,Z,Z,Z,by rw[x];exact Qi _,λd _ hn _=>f d (λe=>by rw[e,U]at hn;cases hn),λ_ _=>rfl,λ_ _ h=>.inl h⟩⟩;have L:=yT K;have:=hk.write (w':=w.setRow b (cur.toList.take (o+c)++us++cur.toList.drop (o+c+us.length)).toArray) (cs:=Bb c r.cs vs) W G L (λm q B hf=>?_) (by rw[x];exact Qi _) (λd s' a=>?_) (λi v y=>?_) (λd a _=>f d a) (λd es cl a=>(f d (λe=>by subst e;rw[j]at a;cases a)).trans a) (λd t a=>by
  obtain⟨c1,S,g⟩:=h.typ d t a;by_cases k:d=b
  ·subst k;rw[j]at g;cases g;exact⟨_,_,p⟩
  exact⟨c1,S,(f d k).trans g⟩) (fr:=r.fro) id
 ·rw[l]at this;exact this
 ·rw[kd h N]at B;cases M:A.get m with
  |none=>rw[M]at B;cases B
  |some q'=>
   rw[M]at B;simp only at B;split at B
   ·cases B
   next hc=>
   cases B;exact Classical.byContradiction λX=>hc ⟨hf,X⟩
 ·obtain⟨g,H,e',R,C,g3,g4⟩:=hk.blk d s' a;by_cases k:d=b
  ·subst k;rw[U]at a;cases a;exact⟨g,_,e,fz,p,by simp;omega,λ_=>J⟩
  exact⟨g,H,e',R,(f d k).trans C,g3,g4⟩
 have D:=cell_of_row _ b (o+i) _ e fz p;rw[D];rw[qO c r.cs vs K]at y;have a1:i<r.cs.length:=by
  have:=(Qm.1 y).1;simp at this;omega
 simp only[Ry];by_cases V:i<c
 ·rw[Q0,Qv (by simp;omega),QQ,if_pos V]at y;obtain⟨u,g,C⟩:=h6 i v y;refine⟨u,?_,C⟩;rw[Q0,Qv (by simp;omega),QQ,if_pos O];rw[cell_of_row w b (o+i) cur e fz j]at g;simpa using g
 by_cases a2:i<c+vs.length
 ·rw[Qv (by simp;omega),Qx (by simp;omega)]at y;simp only[QN]at y;obtain⟨u,g,C⟩:=Y.get _ v y;refine⟨u,?_,C⟩;rw[Qv (by simp;omega),Qx (by simp;omega)];simp only[QN,RE];rw[<-g];congr 1;omega
 rw[Qx (by simp;omega),Q9]at y;simp only[QJ,QN]at y;have a0:r.cs[i]? =some v:=by rw[<-y];congr 1;omega
 obtain⟨u,g,C⟩:=h6 i v a0;refine⟨u,?_,C⟩;rw[Qx (by simp;omega),Q9];simp only[QJ,QN,RE];rw[cell_of_row w b (o+i) cur e fz j]at g;rw[<-g,QO];congr 1;omega
end
noncomputable def AH.growN (A:AH) (n:Nat) (cs:List Value) (f:Nat) (l:List Nat) (ty:Nat:=0):AH:=⟨A.t.set fc n (some ⟨cs,f,false,ty⟩),n+1,A.fm.set fc f (some (n::l)),A.nm,A.mp⟩
noncomputable def lg {α:Type} (A:AH) (cs:List Value) (k:Nat->AH->Option α) (ty:Nat:=0):Option α:=cond (Nat.blt A.nx 16384) (dH A.nx λn=>k n (A.growN n cs n [] ty)) none
def kg{α:Type}{A:AH}{cs:List Value}{k:Nat->AH->Option α}{ty:Nat}{r:α}(h:lg A cs k ty=some r):A.nx<16384/\k A.nx (A.grow cs A.nx [] ty)=some r:=by
 unfold lg at h;obtain⟨b,a⟩:=aW h;rw[b8]at a;exact⟨cU b,a⟩
section
variable {P:Program} {E:EE} {A:AH} {base:Nat} {w w':World}
def RelA.freshT(h:RelA P E A base w){cs:List Value}{f:Nat}{l:List Nat}{ty:Nat}{arr:Array Value}{e:TypeId}{fz:Nat×Nat}(z:A.nx<16384)(N:w'.heap=w.heap.push (.cells arr e fz))(H:w'.os=w.os)(K:w'.tape=w.tape)(I:w'.output=w.output)(G:FzB arr.size fz)
  (Y:cs.length<=arr.size) (hv:VL P E (arr.toList.take cs.length) cs) (hl:(f=A.nx/\l=[])\/A.fget f=some l) (L:ty=0\/ty=e+1):
  ∃E',RelA P E' (A.grow cs f l ty) base w'/\E'.lo A.nx=some (w.heap.size,0)/\E'.bl w.heap.size=some arr.size/\Fr E E' w w'/\E'.tb w.heap.size=some e:=by
 have k:∀b s,E.bl b=some s->b<w.heap.size:=λb s a=>by
  obtain⟨_,c,e,fz,y,_⟩:=h.blk b s a;exact(QK.1 y).1
 have F:E.Le ⟨λn=>if n=A.nx then some (w.heap.size,0)else E.lo n,λb=>if b=w.heap.size then some arr.size else E.bl b,E.ml,λb=>if b=w.heap.size then some e else E.tb b⟩:=⟨λn x z=>by
   show(if n=A.nx then _ else _)=_
   rw[if_neg (λe=>by rw[h.new n O]at z;cases z)];exact z,λb s a=>by
   show(if b=w.heap.size then _ else _)=_
   rw[if_neg (λe=>by have:=k b s a;omega)];exact a,λ_ _ h=>h,λb t a=>by
   obtain⟨Q,q,j⟩:=h.typ b t a;have:=(QK.1 j).1;show(if b=w.heap.size then _ else _)=_
   rw[if_neg O];exact a⟩
 have g:w'.heap[w.heap.size]? =some (.cells arr e fz):=by rw[N];simp
 have d:∀b,b<w.heap.size->w'.heap[b]? =w.heap[b]? :=λb a=>by rw[N,SH,if_neg O]
 have a0:w'.heap.size=w.heap.size+1:=by rw[N];simp
 refine⟨_,h.grow (b:=w.heap.size) (o:=0) (s:=arr.size) z F (if_pos Z) (λn hn=>if_neg hn) (if_pos Z) O (λb s a=>?_) O (λi v M=>?_) (λn r S o' J m i v _=>?_) (λn r o' J m=>?_) hl Z (λb es cl a=>(d b (QK.1 a).1).trans a) (λb t a=>?_) (λt B=>(if_pos Z).trans (congrArg some (by
  rcases L with D|D
  ·rw[D]at B;cases B
  rw[D]at B;exact Nat.succ.inj B))),if_pos Z,if_pos Z,⟨F,H,K,I,O,λb a _ _=>d b a,λb a=>if_neg O,λ_ _ h=>.inl h⟩,if_pos Z⟩
 ·have a:(if b=w.heap.size then some arr.size else E.bl b)=some s:=a;split at a
  ·next e1=>
   cases a;subst e1;exact⟨h.base,arr,e,fz,g,Z,λ_=>G⟩
  next hne=>
  obtain⟨p,c,U,C,y,V,W⟩:=h.blk b s a;exact⟨p,c,U,C,(d b (k b s a)).trans y,V,λX=>W (X.resolve_right hne)⟩
 ·obtain⟨u,p,y⟩:=hv.get i v M;refine⟨u,?_,y.mono F⟩;rw[cell_of_row w' w.heap.size (0+i) arr e fz g];rw[QQ]at p;split at p
  ·simpa using p
  cases p
 ·obtain⟨T,o1,j,R,_⟩:=h.row n r J;rw[m]at j;cases j;exact World.cell?_of_block (d S R)
 ·obtain⟨T,o1,j,R,_⟩:=h.row n r J;rw[m]at j;cases j;omega
 have a:(if b=w.heap.size then some e else E.tb b)=some t:=a;split at a
 ·next e1=>
  cases a;subst e1;exact⟨_,_,g⟩
 obtain⟨Q,q,j⟩:=h.typ b t a;exact⟨Q,q,(d b (QK.1 j).1).trans j⟩
def RelA.fresh(h:RelA P E A base w){cs:List Value}{f:Nat}{l:List Nat}{arr:Array Value}{e:TypeId}{fz:Nat×Nat}(p:A.nx<16384)(o:w'.heap=w.heap.push (.cells arr e fz))(c:w'.os=w.os)(g:w'.tape=w.tape)(d:w'.output=w.output)(a:FzB arr.size fz)
  (b:cs.length<=arr.size) (n:VL P E (arr.toList.take cs.length) cs) (hl:(f=A.nx/\l=[])\/A.fget f=some l):
  ∃E',RelA P E' (A.grow cs f l) base w'/\E'.lo A.nx=some (w.heap.size,0)/\E'.bl w.heap.size=some arr.size/\Fr E E' w w':=by
 obtain⟨E',i,j,k,m,_⟩:=h.freshT p o c g d a b n hl (.inl Z);exact⟨E',i,j,k,m⟩
end
noncomputable def lO (v:Value):Option Nat:=
 match v with
 | .slice _ n _=>some n
 | .string s=>some (gF s.data.toList)
 |_=>none
noncomputable def wL (A:AH) (es:Nat) (x:Value) (m:Nat):Option (List Value):=
 match x with
 | .slice none _ _=>some []
 | .slice (some ⟨n,c,none⟩) _ _=>cP (A.get n) λr=>cond (Nat.ble (c+m*es) (gF r.cs)) (fF (ld (m*es) (lM c r.cs)) some) none
 | .string s=>fF (iv (λb=>.int .u8 b.toNat) (ld m s.data.toList)) some
 |_=>none
section
variable {P:Program} {E:EE} {A:AH} {base:Nat} {w:World}
def yU{u v:Value}{m:Nat}(f:VL P E [u] [v])(d:lO v=some m)(w:World):(Builtin.lenOf u).run P w=.ok m w:=by
 unfold lO at d;simp only[c8]at d;split at d
 ·next a n c=>
  cases d;cases f with
  |sc v h _=>simp[Builtin.lenOf]
  |slc n c e len cap b o q h hl hm hr _=>simp[Builtin.lenOf]
 ·next s=>
  cases d;rw[f.string];rfl
 cases d
def pH{u:Value}{a:Option Addr}{n c:Nat}(g:VL P E [u] [.slice a n c]):∃d f,u=.slice d n f:=by
 cases g with
 |sc v h _=>exact⟨_,_,Z⟩
 |slc n c e len cap b o q h hl hm hr _=>exact⟨_,_,Z⟩
def uT(h:RelA P E A base w){u v:Value}{m es:Nat}{cs:List Value}(p:VL P E [u] [v])(H:∃k,lO v=some k/\m<=k)(Q:0<m)(d:∀s,v=.string s->es=1)(a:wL A es v m=some cs):
  ∃us,us.length=m*es/\VL P E us cs/\∀W:World,(∀b,b<w.heap.size->W.heap[b]? =w.heap[b]?)->(Builtin.firstCells es m u).run P W=.ok us.toArray W:=by
 obtain⟨k,i,I⟩:=H;unfold wL at a;simp only[c8,fl,fp,dd,qL]at a;split at a
 ·next n c=>
  obtain⟨_,y,_⟩:=p.nilSlice;simp only[lO,c8,Qy]at i;omega
 ·next n c len e=>
  simp only[lO,c8,Qy]at i;obtain⟨b,o,q,cap,f,rfl,hl,_,K⟩:=p.slice;obtain⟨r,g,a⟩:=aS a;obtain⟨y,C⟩:=aW a;cases C;obtain⟨us,z,D,F⟩:=h.reads g f c (m*es) (by simpa using y);obtain⟨J,_⟩:=K O;subst J;obtain⟨N,R,t,B,_⟩:=h.row _ r g;rw[f]at t;cases t;refine⟨us,z,F,λW G=>run_firstCells_some (P:=P) W es m ⟨b,o+c,none⟩ len cap us z λj x M=>?_⟩;rw[eG];exact(World.cell?_of_block (G b B)).trans (D j x M)
 ·next s=>
  cases a;simp only[lO,c8,Qy]at i;rw[p.string];have d:=d s Z;subst d;have L:s.data.toList.length=s.size:=rfl;refine⟨(s.data.toList.take m).map λb=>.int .u8 b.toNat,by simp;omega,?_,λW _=>?_⟩
  ·generalize s.data.toList.take m=l;induction l with
   |nil=>exact .nil
   |cons b l ih=>exact .sc _ Z ih
  simp only[Builtin.firstCells,Sem.run_pure];congr 1;apply Rb;simp
 cases a
end
def mT(P:Program)(w:World)(t u ty e:TypeId)(i:TypeInfo)(z:Value)(d:TypeDesc)(q:P.underlying t=some (.slice e))(r:P.underlying u=some d)(hd:d=.string\/∃x,d=.slice x)(o:P.info? e=some i)(s:i.zero=some z)
  (h:Option Addr) (n c:Nat) (a news:List Value) (X:Value) (m:Nat) (g:(Builtin.firstCells i.size n (.slice h n c)).run P w.drew=.ok a.toArray w.drew) (hl:(Builtin.lenOf X).run P w=.ok m w) (l:(Builtin.firstCells i.size m X).run P w.drew=.ok news.toArray w.drew)
  (v:c<n+m) (k:((n+m:Nat):Int)<=9223372036854775807) (j:Builtin.nextslicecap (n+m) c*i.bytes<=281474976710656):
  (Builtin.append_ #[t,u] ty #[.slice h n c,X]).run P w=.ok (.slice (some ⟨w.heap.size,0,none⟩) (n+m) (grownCap w (n+m) c e)) (w.drew.alloc (.cells (a.toArray++news.toArray++Builtin.zeroCells z.cells (grownCap w (n+m) c e-(n+m))) e)):=by
 have p:¬(n+m<=c):=O
 have f:¬(9223372036854775807<((n:Int)+(m:Int))):=O
 have b:¬(281474976710656<Builtin.nextslicecap (n+m) c*i.bytes):=O
 rcases hd with rfl|⟨x,rfl⟩<;>(simp[Builtin.append_,run_underlying q,run_underlying r,sizeOf,typeInfo,zeroValue,o,s,hl,p,f,b,Question.forced,l,g,newRow,grownCap];congr 2;apply Rb;simp[Q0])
def wM(P:Program)(w w':World)(t u ty e:TypeId)(i:TypeInfo)(d:TypeDesc)(j:P.underlying t=some (.slice e))(k:P.underlying u=some d)(hd:d=.string\/∃x,d=.slice x)(h:P.info? e=some i)
  (a:Addr) (n c:Nat) (news:List Value) (X:Value) (m:Nat) (hl:(Builtin.lenOf X).run P w=.ok m w) (f:(Builtin.firstCells i.size m X).run P w=.ok news.toArray w) (g:n+m<=c) (b:(storeCells (a.add (n*i.size)) news).run P w=.ok () w'):
  (Builtin.append_ #[t,u] ty #[.slice (some a) n c,X]).run P w=.ok (.slice (some a) (n+m) c) w':=by
 rcases hd with rfl|⟨x,rfl⟩<;>simp[Builtin.append_,run_underlying j,run_underlying k,sizeOf,typeInfo,h,hl,g,f,b]
def yV(P:Program)(w:World)(t u ty e:TypeId)(i:TypeInfo)(d:TypeDesc)(h:P.underlying t=some (.slice e))(j:P.underlying u=some d)(hd:d=.string\/∃x,d=.slice x)(g:P.info? e=some i)
  (a:Option Addr) (n c:Nat) (X:Value) (hl:(Builtin.lenOf X).run P w=.ok 0 w) (b:(Builtin.firstCells i.size 0 X).run P w=.ok #[] w) (f:n<=c):
  (Builtin.append_ #[t,u] ty #[.slice a n c,X]).run P w=.ok (.slice a n c) w:=by
 rcases hd with rfl|⟨x,rfl⟩<;>cases a<;>simp[Builtin.append_,run_underlying h,run_underlying j,sizeOf,typeInfo,g,hl,f,b,storeCells]
def qn{P:Program}{E:EE}{u v:Value}(d:VL P E [u] [v])(b:lO v=some 0)(es:Nat)(w:World):(Builtin.firstCells es 0 u).run P w=.ok #[] w:=by
 unfold lO at b;simp only[c8]at b;split at b
 ·obtain⟨a,c,rfl⟩:=pH d;cases a<;>simp[Builtin.firstCells,loadCells,loadCellsFrom]
 ·next s=>
  rw[d.string];simp only[Builtin.firstCells,Sem.run_pure];congr 1;apply Rb;simp
 cases b
noncomputable def PX (P:Program) (t u:TypeId):Bool:=match P.underlying u with|some .string=>true|some (.slice _)=>true|_=>false
def NN{P:Program}{t u:TypeId}(h:PX P t u=true):∃d,P.underlying u=some d/\(d=.string\/∃x,d=.slice x):=by
 unfold PX at h;split at h
 ·next h1=>exact⟨_,h1,.inl Z⟩
 ·next h1=>exact⟨_,h1,.inr ⟨_,Z⟩⟩
 cases h
def t6{P:Program}{E:EE}{A:AH}{base:Nat}{w:World}(h:RelA P E A base w){n:Nat}{r:ARow}(g:A.get n=some r):RelA P E ((A.kill n r.fam).put n none) base w/\((A.kill n r.fam).put n none).fget r.fam=some [n]/\∀m q,((A.kill n r.fam).put n none).get m=some q->m≠n/\A.get m=some q/\q.fam≠r.fam:=by
 have j:=h.kill g;have o:n<16384:=my g;have c:∀f,((A.kill n r.fam).put n none).fget f=(A.kill n r.fam).fget f:=λ_=>rfl
 have i:∀m q,((A.kill n r.fam).put n none).get m=some q->m≠n/\(A.kill n r.fam).get m=some q:=λm q a=>by
  rw[kW o]at a;split at a
  ·cases a
  next e=>exact⟨e,a⟩
 refine⟨j.sub Z ⟨Z,Z⟩ (λm q a=>(i m q a).2) (λm q a=>by rw[c];exact(j.fam m q (i m q a).2).2.2) (λf l hl=>j.mem f l hl) (λf m l hl=>.inl hl),by rw[c,ke h g,if_pos Z],λm q a=>?_⟩;obtain⟨k,b⟩:=i m q a;rw[kd h g]at b;cases d:A.get m with
 |none=>rw[d]at b;cases b
 |some q'=>
  rw[d]at b;simp only at b;split at b
  ·cases b
  next hc=>
  cases b;exact⟨k,Z,λe=>hc ⟨e,k⟩⟩
noncomputable def Hi (P:Program) (A:AH) (ts:List TypeId) (s x:Value):Option (Value×AH):=
 match ts with
 |[t,u]=>match P.underlying t with
  |some (.slice e)=>match s with
   | .slice b len ee=>cP (P.info? e) λi=>cP i.zero λzv=>cond (Nat.beq (gF zv.cells.toList) i.size&&Nat.blt 0 i.size&&PX P t u&&(match x with| .string _=>Nat.beq i.size 1|_=>true)) (cP (lO x) λm=>cond (Nat.beq m 0) (some (s,A)) (cond (Nat.ble (len+m) 1099511627776&&Nat.ble ((len+m)*i.bytes) 140737488355328) (cP (wL A i.size x m) λnews=>cond (pG yQ news) (match b with
    |none=>lg A news (λk A=>some (.slice (some ⟨k,0,none⟩) m e,A)) (e+1)
    |some ⟨n,c,none⟩=>cP (A.get n) λr=>cond r.fro none (cond (Nat.beq ee e&&Nat.ble (c+len*i.size) (gF r.cs)&&Nat.blt A.nx 16384) (cP (A.fget r.fam) λl=>dH A.nx λk=>dH (len+m) λlm=>fF (o0 (ld (len*i.size) (lM c r.cs)) news) λall=>cond (Nat.beq (c+len*i.size) (gF r.cs))
      (List.rec none (λn' _ _=>cond (Nat.beq n n') (some (.slice (some ⟨k,0,none⟩) lm e,A.growN k all r.fam l (cond (Nat.beq r.ty (e+1)) (e+1) 0))) (some (.slice (some ⟨k,0,none⟩) lm e,(A.kill n r.fam).growN k all r.fam [n] (cond (Nat.beq r.ty (e+1)) (e+1) 0)))) l)
      (some (.slice (some ⟨k,0,none⟩) lm e,((A.kill n r.fam).put n none).growN k all r.fam [n] (cond (Nat.beq r.ty (e+1)) (e+1) 0)))) none)
    |_=>none) none) none)) none
   |_=>none
  |_=>none
 |_=>none
section
variable {P:Program} {E:EE} {A A1:AH} {base:Nat} {w:World}
def Hj(h:RelA P E A base w){n c e a cap m b o q:Nat}{r:ARow}{l:List Nat}{i:TypeInfo}{zv:Value}{t u ty:TypeId}{d:TypeDesc}{X:Value}{D news:List Value}(hr:A.get n=some r)(b4:r.fro=false)(h1:RelA P E A1 base w)(hx:A1.nx<16384)(hl:A1.fget r.fam=some l)
  (b0:∀m q,A1.get m=some q->∀o',E.lo m=some (b,o')->q.fam=r.fam/\o'+q.cs.length<=o+(c+a*i.size)) (U:E.lo n=some (b,o))
  (g4:a<=cap) (e3:cap<=9223372036854775807) (M:0<cap->q=o+c/\∃s i',E.bl b=some s/\P.info? e=some i'/\o+c+cap*i'.size<=s)
  (ht:P.underlying t=some (.slice e)) (hu:P.underlying u=some d) (hd:d=.string\/∃x,d=.slice x) (hi:P.info? e=some i) (hz:i.zero=some zv) (f5:zv.cells.toList.length=i.size) (g8:0<i.size)
  (c3:(Builtin.lenOf X).run P w=.ok m w) (hm:0<m) (a4:D.length=m*i.size) (b3:∀W:World,(∀b,b<w.heap.size->W.heap[b]? =w.heap[b]?)->(Builtin.firstCells i.size m X).run P W=.ok D.toArray W) (V:VL P E D news) (c4:news.all yQ=true)
  (g5:a+m<=1099511627776) (e1:(a+m)*i.bytes<=140737488355328) (hc:c+a*i.size<=r.cs.length) {tt:Nat} (d0:tt=0\/(tt=e+1/\r.ty=e+1)):
  ∃y w' E',(Builtin.append_ #[t,u] ty #[.slice (some ⟨b,q,none⟩) a cap,X]).run P w=.ok y w'/\RelA P E' (A1.grow ((r.cs.drop c).take (a*i.size)++news) r.fam l tt) base w'/\VL P E' [y] [.slice (some ⟨A1.nx,0,none⟩) (a+m) e]/\Fr E E' w w':=by
 have a3:news.length=m*i.size:=by rw[<-V.length,a4]
 have T:((r.cs.drop c).take (a*i.size)++news).length=(a+m)*i.size:=by
  rw[QJ,a3,QN,QZ,Rp];omega
 obtain⟨us,Y,d1,d2⟩:=h.reads hr U c (a*i.size) hc;obtain⟨_,_,R,g6,g3,_⟩:=h.row n r hr;rw[U]at R;cases R;by_cases hg:a+m<=cap
 ·obtain⟨hq,s,i',I,c2,g0⟩:=M O;subst hq;rw[hi]at c2;cases c2;obtain⟨e2,cur,G,fz,B,c9,a1⟩:=h.blk b s I;have b5:FzB s fz:=a1 ⟨n,r,o,hr,b4,U⟩;clear a1;have L:(a+m)*i.size<=cap*i.size:=Ru _ hg;rw[Rp]at L;have a9:=nH P b (o+c+a*i.size) G fz D 0 cur w B (by rw[c9];exact b5) (by rw[c9];omega) (V.ones c4);simp only[RQ]at a9;generalize hW:w.setRow b (cur.toList.take (o+c+a*i.size)++D++cur.toList.drop (o+c+a*i.size+D.length)).toArray=w' at a9;have N:w'.heap[b]? =some (.cells (cur.toList.take (o+c+a*i.size)++D++cur.toList.drop (o+c+a*i.size+D.length)).toArray G fz):=by
   rw[<-hW];exact setRow_heap w b cur _ G fz B
  have e6:w'.heap.size=w.heap.size:=by rw[<-hW];simp[World.setRow]
  have C:∀p,p≠b->w'.heap[p]? =w.heap[p]? :=λp g=>by
   rw[<-hW];simp only[World.setRow];rw[RG,if_neg (λe=>g e.symm)]
  have hE:E.Le ⟨λk=>if k=A1.nx then some (b,o+c)else E.lo k,E.bl,E.ml,E.tb⟩:=⟨λk x hx=>by
   show(if k=A1.nx then _ else _)=_
   rw[if_neg (λe=>by rw[h1.new k O]at hx;cases hx)];exact hx,λ_ _ hb=>hb,λ_ _ hb=>hb,λ_ _ hb=>hb⟩
  have J:∀j,w'.cell? ⟨b,j,none⟩=(cur.toList.take (o+c+a*i.size)++D++cur.toList.drop (o+c+a*i.size+D.length))[j]? :=λj=>by
   rw[cell_of_row w' b j _ G fz N];simp
  have S:∀j,w.cell? ⟨b,j,none⟩=cur.toList[j]? :=λj=>by
   rw[cell_of_row w b j cur G fz B];simp
  have a2:∀j,j<o+c+a*i.size->w'.cell? ⟨b,j,none⟩=w.cell? ⟨b,j,none⟩:=λj hj=>by
   rw[J,S,Q0,Qv (by simp;omega),QQ,if_pos hj]
  refine⟨_,w',_,wM P w w' t u ty e i d ht hu hd hi ⟨b,o+c,none⟩ a cap D X m c3 (b3 w λ_ _=>rfl) hg (by rw[eG];exact a9),h1.grow (b:=b) (o:=o+c) (s:=s) hx hE (if_pos Z) (λk hk=>if_neg hk) I (by rw[T,Rp];omega) (λp s' g=>?_) O (λj v hv=>?_) (λk q' p o' a5 K j v hv=>?_) (λk q' o' a5 K=>?_) (.inr hl) Z (λp es cl g=>(C p (λe=>by subst e;rw[B]at g;cases g)).trans g) (λp t g=>by
   obtain⟨c1,e0,R⟩:=h.typ p t g;by_cases z:p=b
   ·subst z;rw[B]at R;cases R;exact⟨_,_,N⟩
   ·exact⟨c1,e0,(C p z).trans R⟩) (λt ht=>by
   rcases d0 with h0|⟨h0,h2⟩
   ·omega
   obtain⟨b2,o2,R,g2⟩:=h.rty n r t hr O;rw[U]at R;cases R;exact g2),?_,⟨hE,by rw[<-hW];rfl,by rw[<-hW];rfl,by rw[<-hW];rfl,O,λp _ hn _=>C p (λe=>by rw[e,I]at hn;cases hn),λ_ _=>rfl,λ_ _ h=>.inl h⟩⟩
  ·obtain⟨H,c',e',d4,Q,f3,f4⟩:=h1.blk p s' g;by_cases z:p=b
   ·subst z;rw[I]at g;cases g;exact⟨H,_,G,fz,N,by simp;omega,λ_=>b5⟩
   exact⟨H,c',e',d4,(C p z).trans Q,f3,λhh=>f4 (hh.resolve_right z)⟩
  ·by_cases hj:j<a*i.size
   ·rw[Qv (by rw[QN,QZ];omega)]at hv;obtain⟨x,H,Q⟩:=d2.get j v hv;refine⟨x,?_,Q.mono hE⟩;rw[a2 (o+c+j) O];exact d1 j x H
   have e5:((r.cs.drop c).take (a*i.size)).length=a*i.size:=by rw[QN,QZ];omega
   rw[Qx O,e5]at hv;obtain⟨x,H,Q⟩:=V.get _ v hv;refine⟨x,?_,Q.mono hE⟩;have g7:=(Qm.1 H).1;rw[J,Qv (by simp;omega),Qx (by simp;omega),<-H];congr 1;simp only[QN,RE];omega
  ·by_cases z:p=b
   ·subst z;obtain⟨_,Q⟩:=b0 k q' a5 o' K;have:=(Qm.1 hv).1;exact a2 _ O
   exact World.cell?_of_block (C p z)
  ·obtain⟨H,Q⟩:=b0 k q' a5 o' K;exact⟨H,by rw[T,Rp];omega⟩
  exact .slc _ 0 e _ cap b (o+c) (o+c) (if_pos Z) hg e3 (λ_=>⟨Z,s,i,I,hi,O⟩) .nil
 have e4:(Builtin.firstCells i.size a (.slice (some ⟨b,q,none⟩) a cap)).run P w.drew=.ok us.toArray w.drew:=by
  rcases RW a with h0|h0
  ·subst h0;have:us=[]:=QI (by rw[Y];simp);subst this;simp[Builtin.firstCells,loadCells,loadCellsFrom]
  obtain⟨hq,_⟩:=M O;subst hq;refine run_firstCells_some (P:=P) w.drew i.size a ⟨b,o+c,none⟩ a cap us Y λj x hx=>?_
  rw[eG];exact d1 j x hx
 have c5:=mT P w t u ty e i zv d ht hu hd hi hz (some ⟨b,q,none⟩) a cap us D X m e4 c3 (b3 w.drew λ_ _=>rfl) O O (growslice_fits O e1);have c0:=grownCap_ge w (a+m) cap e;have b1:=grownCap_le_maxLen w (a+m) cap e (by unfold maxLen;omega);unfold maxLen at b1;have f0:=size_zeroCells zv.cells (grownCap w (a+m) cap e-(a+m));have d3:zv.cells.size=i.size:=by simpa using f5
 have a0:(us.toArray++D.toArray++Builtin.zeroCells zv.cells (grownCap w (a+m) cap e-(a+m))).size=grownCap w (a+m) cap e*i.size:=by
  simp only[SQ,Rg,f0,Y,a4,d3];rw[<-Rp,<-Rp];congr 1;omega
 have L:(a+m)*i.size<=grownCap w (a+m) cap e*i.size:=Ru _ c0;obtain⟨E',H,Q,f3,f4,_⟩:=h1.freshT (ty:=tt) (w':=w.drew.alloc (.cells (us.toArray++D.toArray++Builtin.zeroCells zv.cells (grownCap w (a+m) cap e-(a+m))) e)) (cs:=(r.cs.drop c).take (a*i.size)++news) (f:=r.fam) (l:=l) (fz:=(0,0)) hx Z Z Z Z (.inl Z) (by rw[a0,T];exact L) (by
  have e7:((r.cs.drop c).take (a*i.size)++news).length=(us++D).length:=by rw[T,QJ,Y,a4,Rp]
  rw[e7,QW,QW,List.take_left' F];exact d2.append V) (.inr hl) (d0.imp id And.left)
 refine⟨_,_,E',c5,H,.slc _ 0 e _ _ w.heap.size 0 0 Q c0 O (λ_=>⟨Z,_,i,f3,hi,?_⟩) .nil,f4⟩;rw[a0];omega
end
