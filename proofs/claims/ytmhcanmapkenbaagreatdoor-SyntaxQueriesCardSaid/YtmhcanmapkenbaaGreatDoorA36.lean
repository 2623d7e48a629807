import Derived.Test.YtmhcanmapkenbaaGreatDoorA35
import Derived.Lib.AppendZerosOnto
set_option linter.defProp false
open Go.Proofs.Tryz
namespace Go.Proofs.YtmhcanmapkenbaaGreatDoor
open Lib renaming hid→J
def EG(s:ByteArray)(l h:Nat):s.extract l h=⟨⟨(s.data.toList.take h).drop l⟩⟩:=by
 have:(s.extract l h).data.toList=(s.data.toList.take h).drop l:=by
  rw[SV,Sl,List.extract_eq_take_drop,List.drop_take]
 cases a:s.extract l h with
 |mk d=>
  rw[a]at this;congr 1;exact Rb this
section
variable {P:Program} {base:Nat} {sl:Slo} {A:AH} {o:Oper}
def th{E:EE}{n c b q k:Nat}(h:E.lo n=some (b,q)):VL P E [.pointer (some ⟨b,q+c+k,none⟩)] [.pointer (some ⟨n,c+k,none⟩)]:=by
 have:=VL.ptr (P:=P) n (c+k) b q h .nil;rwa[<-RP]at this
noncomputable def unT (v:Value):Value:=match v with
 | .pointer (some ⟨n,c,some _⟩)=>.pointer (some ⟨n,c,none⟩)
 |v=>v
def VL.unT{E:EE}{u v:Value}(h:VL P E [u] [v]):VL P E [u] [unT v]:=by
 unfold Go.Proofs.YtmhcanmapkenbaaGreatDoor.unT;split
 ·cases h with
  |sc v h _=>cases h
  |tpt m b t h _ _ _=>exact .ptr _ 0 b 0 h .nil
 exact h
noncomputable def Hq (P:Program) (sl:Slo) (A:AH) (s:TypeId) (x:Operand) (f:Nat):Rs:=
 match unT (de P sl x),P.underlying s with
 | .pointer (some ⟨n,c,none⟩),some (.struct fs)=>cP (jT fs.toList f) λfd=>cP (s9 P fd.type) λz=>cond (Nat.beq z 0) none (dH (c+fd.offset) λq=>some (.pointer (some ⟨n,q,none⟩),A))
 |_,_=>none
def KD{s:TypeId}{x:Operand}{f:Nat}(k:o.op=.fieldAddr s x f):Good P base sl A o (Hq P sl A s x f):=by
 unfold Hq;split
 ·next n c fs hx hu=>
  cases a:jT fs.toList f with
  |none=>exact d6
  |some fd=>
   show Good P base sl A o (cP (s9 P fd.type) _)
   cases m:s9 P fd.type with
   |none=>exact d6
   |some z=>
    show Good P base sl A o (cond (Nat.beq z 0) none (dH (c+fd.offset) _))
    rw[b8];cases i:Nat.beq z 0 with
    |true=>exact d6
    |false=>
     refine eT λE w T p j=>?_
     have h:=(j.at x).unT;rw[hx]at h;obtain⟨b,q,d,l⟩:=h.pointer;rw[ia]at a;simp only[QO]at a;have g:z≠0:=λe=>by subst e;cases i
     refine⟨_,?_,th d⟩;simp[execOp,k,l,Instr.fieldAt,Instr.sureAddr,fieldPlace,run_underlying hu,a,dI m,g,eG]
 exact d6
noncomputable def y6 (P:Program) (sl:Slo) (A:AH) (t:TypeId) (x:Operand) (f:Nat):Rs:=
 match de P sl x,P.underlying t with
 | .agg cs,some (.struct fs)=>cP (jT fs.toList f) λfd=>cP (Pq P fd.type) λg=>cond g (cP (s9 P fd.type) λs=>some (.agg ((cs.toList.drop fd.offset).take s).toArray,A)) (cP (jT cs.toList fd.offset) λv=>some (v,A))
 |_,_=>none
def y7{E:EE}{xs cs:List Value}(h:VL P E xs cs):VL P E [.agg xs.toArray] [.agg cs.toArray]:=.agg xs cs h .nil
def Hr{t:TypeId}{x:Operand}{f:Nat}(k:o.op=.field t x f):Good P base sl A o (y6 P sl A t x f):=by
 intro v z a E w T j p;unfold y6 at a;split at a
 ·next cs fs hx hu=>
  have e:=p.at x;rw[hx]at e;obtain⟨xs,l,m⟩:=e.aggr;obtain⟨c,d,a⟩:=aS a;obtain⟨g,q,a⟩:=aS a;rw[ia]at d;simp only[QO]at d;have b:=wK q w;cases g with
  |true=>
   obtain⟨s,r,a⟩:=aS a;cases a;refine .of_ok (v:=.agg ((xs.toList.drop c.offset).take s).toArray) (W':=w) ?_ (.here j (y7 ((m.drop _).take _)));have:xs.extract c.offset (c.offset+s)=((xs.toList.drop c.offset).take s).toArray:=by
    apply Rb;rw[Sl,List.extract_eq_drop_take',List.take_drop]
   simp[execOp,k,l,Instr.field,run_underlying hu,d,part,asAgg,b,dI r,this]
  |false=>
   obtain⟨y,h,a⟩:=aS a;cases a;rw[ia]at h;obtain⟨u,i,n⟩:=m.get _ _ h;simp only[QO]at i;refine .of_ok (v:=u) (W':=w) ?_ (.here j n);simp[execOp,k,l,Instr.field,run_underlying hu,d,part,asAgg,b,i]
 cases a
noncomputable def Ht (P:Program) (sl:Slo) (A:AH) (t:TypeId) (x ix:Operand):Rs:=
 match de P sl ix with
 | .int _ (.ofNat i)=>match de P sl x with
  | .slice (some ⟨n,c,none⟩) len _=>cP (EP P t) λe=>cond (Nat.blt i len) (dH (c+i*e.2) λq=>some (.pointer (some ⟨n,q,none⟩),A)) none
  | .pointer (some ⟨n,c,none⟩)=>match P.underlying t with
   |some (.array m e)=>cP (s9 P e) λs=>cond (Nat.blt i m) (dH (c+i*s) λq=>some (.pointer (some ⟨n,q,none⟩),A)) none
   |_=>none
  |_=>none
 |_=>none
def KE{t:TypeId}{x y:Operand}(C:o.op=.indexAddr t x y):Good P base sl A o (Ht P sl A t x y):=by
 intro v G a E w T B j;unfold Ht at a;split at a
 ·next k i hi=>
  have h:=j.at y;rw[hi]at h;have h:=h.int;split at a
  ·next n c z ee hx=>
   have g:=j.at x;rw[hx]at g;obtain⟨b,q,L,cap,f,r,hl,J,D⟩:=g.slice;obtain⟨⟨e,s⟩,l,a⟩:=aS a;obtain⟨d,a⟩:=aW a;rw[b8]at a;cases a;have d:=cU d;obtain⟨u,K,p,rfl⟩:=nL l;obtain⟨rfl,_⟩:=D O;refine .of_ok (W':=w) ?_ (.here B (th f));have H:(0:Int)<=(i:Int):=O
   have I:(i:Int)<(z:Int):=O
   simp[execOp,C,r,h,Instr.indexAt,asIntOf,run_underlying u,sizeOf,typeInfo,p,d,eG]
  ·next n c hx=>
   split at a
   ·next m e u=>
    have g:=j.at x;rw[hx]at g;obtain⟨b,q,f,r⟩:=g.pointer;obtain⟨s,F,a⟩:=aS a;obtain⟨d,a⟩:=aW a;rw[b8]at a;cases a;have d:=cU d;refine .of_ok (W':=w) ?_ (.here B (th f));simp[execOp,C,r,h,Instr.indexAt,Instr.sureAddr,asIntOf,run_underlying u,dI F,d,eG]
   cases a
  cases a
 cases a
noncomputable def t7 (P:Program) (sl:Slo) (d:Nat) (x:Option Operand):Option Nat:=
 Option.rec (some d) (λx=>match de P sl x with| .int _ (.ofNat n)=>some n|_=>none) x
def eW{E:EE}{T:Nat->Value}{d n:Nat}{x:Option Operand}(a:SlotV P E T sl)(h:t7 P sl d x=some n):(x=none/\n=d)\/∃y k,x=some y/\eL T y=.int k n:=by
 cases x with
 |none=>cases h;exact .inl ⟨Z,Z⟩
 |some y=>
  have h:(match de P sl y with| .int _ (.ofNat n)=>some n|_=>none)=some n:=h;split at h
  ·next k m hy=>
   cases h;have:=a.at y;rw[hy]at this;exact .inr ⟨y,k,Z,this.int⟩
  cases h
theorem kY{T:Nat->Value}{w:World}{a cap l h:Nat}{d c:Option Operand}{b:Bool}(e:(d=none/\l=0)\/∃y k,d=some y/\eL T y=.int k l)(f:(c=none/\h=a)\/∃y k,c=some y/\eL T y=.int k h)(hl:l<=h)(i:h<=cap):
  (Instr.sliceBounds b a cap (d.map (eL T)) (c.map (eL T)) none).run P w=.ok (l,h,cap) w:=by
 have g:∀{m:Nat},m<=cap->(0:Int)<=(m:Int)/\(m:Int)<=(cap:Int):=fun j=>by omega
 rcases e with⟨rfl,rfl⟩|⟨y,k,rfl,n⟩<;>rcases f with⟨rfl,rfl⟩|⟨z,p,rfl,o⟩<;>simp[*,Instr.sliceBounds,Instr.sliceBound,asIntOf]
noncomputable def Hu (P:Program) (sl:Slo) (A:AH) (t:TypeId) (x:Operand) (lo hi mx:Option Operand):Rs:=
 match mx with
 |some z=>match de P sl x with
  | .slice (some ⟨n,c,none⟩) len ee=>cP (t7 P sl 0 lo) λl=>cP (t7 P sl len hi) λh=>cP (t7 P sl len (some z)) λm=>cond (Nat.ble l h&&Nat.ble h m&&Nat.ble m len&&hi.isSome) (cP (EP P t) λe=>cond (Nat.beq e.1 ee) (dH (h-l) λm=>dH (c+l*e.2) λq=>some (.slice (some ⟨n,q,none⟩) m ee,A)) none) none
  | .slice none len _=>cP (t7 P sl 0 lo) λl=>cP (t7 P sl len hi) λh=>cP (t7 P sl len (some z)) λm=>cond (Nat.ble l h&&Nat.ble h m&&Nat.ble m len&&hi.isSome) (cP (EP P t) λ_=>some (.slice none 0 0,A)) none
  |_=>none
 |none=>match de P sl x with
  | .slice a len ee=>cP (t7 P sl 0 lo) λl=>cP (t7 P sl len hi) λh=>cond (Nat.ble l h&&Nat.ble h len) (cP (EP P t) λe=>match a with
   |none=>some (.slice none 0 0,A)
   |some ⟨n,c,none⟩=>cond (Nat.beq e.1 ee) (dH (h-l) λm=>dH (c+l*e.2) λq=>some (.slice (some ⟨n,q,none⟩) m ee,A)) none
   |_=>none) none
  | .string s=>match P.underlying t with
   |some .string=>cP (t7 P sl 0 lo) λl=>cP (t7 P sl (gF s.data.toList) hi) λh=>cond (Nat.ble l h&&Nat.ble h (gF s.data.toList)) (fF (lM l (ld h s.data.toList)) λm=>some (.string ⟨⟨m⟩⟩,A)) none
   |_=>none
  | .pointer (some ⟨n,c,none⟩)=>match P.underlying t with
   |some (.array k e)=>cP (t7 P sl 0 lo) λl=>cP (t7 P sl k hi) λh=>cond (Nat.ble l h&&Nat.ble h k) (cP (P.info? e) λi=>cP (A.get n) λr=>cond (!r.fro&&Nat.ble (c+k*i.size) r.cs.length&&Nat.ble k 1099511627776) (dH (h-l) λm=>dH (c+l*i.size) λq=>some (.slice (some ⟨n,q,none⟩) m e,A)) none) none
   |_=>none
  |_=>none
def KF{t:TypeId}{x:Operand}{lo hi mx:Option Operand}(V:o.op=.slice t x lo hi mx):Good P base sl A o (Hu P sl A t x lo hi mx):=by
 intro v A' d E w T R u;unfold Hu at d;simp only[c8,fl,fp,dd,b8]at d;split at d
 ·next z=>
  split at d
  ·next n c len ee hx=>
   obtain⟨l,hl,d⟩:=aS d;obtain⟨h,U,d⟩:=aS d;obtain⟨m,a3,d⟩:=aS d;obtain⟨p,d⟩:=aW d;simp only[Qh,Rh]at p;obtain⟨⟨⟨a4,I⟩,a5⟩,a1⟩:=p;obtain⟨⟨e,s⟩,N,d⟩:=aS d;obtain⟨J,i,g,rfl⟩:=nL N;obtain⟨a2,d⟩:=aW d;have:=Ql a2;simp only at this;subst this;cases d;have C:=u.at x;rw[hx]at C;obtain⟨b,q,q',cap,j,G,b1,hm,hr⟩:=C.slice;have f:s9 P e=some i.size:=by unfold s9;rw[g];rfl
   have D:(Instr.sliceBounds true len cap (lo.map (eL T)) (hi.map (eL T)) (some (eL T z))).run P w=.ok (l,h,m) w:=by
    have S:=eW u hl;have F:=eW u U;have H:=eW u a3;cases hi with
    |none=>cases a1
    |some y=>
     rcases F with⟨F,_⟩|⟨y',k2,F,K⟩
     ·cases F
     cases F;rcases H with⟨H,_⟩|⟨z',k3,H,L⟩
     ·cases H
     cases H;have e1:m<=cap:=O
     rcases S with⟨rfl,rfl⟩|⟨x',k1,rfl,a0⟩
     ·simp[Instr.sliceBounds,Instr.sliceBound,asIntOf,K,L,e1,I]
     simp[Instr.sliceBounds,Instr.sliceBound,asIntOf,a0,K,L,e1,a4,I]
   by_cases B:m=l
   ·subst B;refine .of_ok (v:=.slice (some ⟨b,q',none⟩) (h-m) (m-m)) (W':=w) ?_ (.here R (.slc n (c+m*i.size) e (h-m) (m-m) b q q' j O O (λY=>O) .nil));simp[execOp,V,G,Instr.sliceAt,Instr.slice,run_underlying J,D,dI f]
   obtain⟨rfl,sz,i2,M,Q,W⟩:=hr O;rw[g]at Q;cases Q;have X:l*i.size+(m-l)*i.size=m*i.size:=by rw[<-Rp];congr 1;omega
   have b3:m*i.size<=cap*i.size:=Ru _ O;refine .of_ok (v:=.slice (some ⟨b,q+c+l*i.size,none⟩) (h-l) (m-l)) (W':=w) ?_ (.here R (.slc n (c+l*i.size) e (h-l) (m-l) b q _ j O O (λ_=>⟨O,sz,i,M,g,O⟩) .nil));simp[execOp,V,G,Instr.sliceAt,Instr.slice,run_underlying J,D,dI f,B,eG]
  ·next len ee hx=>
   obtain⟨l,hl,d⟩:=aS d;obtain⟨h,U,d⟩:=aS d;obtain⟨m,a3,d⟩:=aS d;obtain⟨p,d⟩:=aW d;simp only[Qh,Rh]at p;obtain⟨⟨⟨a4,I⟩,a5⟩,a1⟩:=p;obtain⟨⟨e,s⟩,N,d⟩:=aS d;obtain⟨J,i,g,rfl⟩:=nL N;cases d;have C:=u.at x;rw[hx]at C;obtain⟨G,rfl,rfl⟩:=C.nilSlice;have b2:m=0:=O
   have a9:h=0:=O
   have b0:l=0:=O
   subst b2 a9 b0;have f:s9 P e=some i.size:=by unfold s9;rw[g];rfl
   have D:(Instr.sliceBounds true 0 0 (lo.map (eL T)) (hi.map (eL T)) (some (eL T z))).run P w=.ok (0,0,0) w:=by
    have S:=eW u hl;have F:=eW u U;have H:=eW u a3;cases hi with
    |none=>cases a1
    |some y=>
     rcases F with⟨F,_⟩|⟨y',k2,F,K⟩
     ·cases F
     cases F;rcases H with⟨H,_⟩|⟨z',k3,H,L⟩
     ·cases H
     cases H;rcases S with⟨rfl,_⟩|⟨x',k1,rfl,a0⟩
     ·simp[Instr.sliceBounds,Instr.sliceBound,asIntOf,K,L]
     simp[Instr.sliceBounds,Instr.sliceBound,asIntOf,a0,K,L]
   refine .of_ok (v:=.slice none 0 0) (W':=w) ?_ (.here R (.sc _ Z .nil));simp[execOp,V,G,Instr.sliceAt,Instr.slice,run_underlying J,D,dI f]
  cases d
 split at d
 ·next a len ee hx=>
  obtain⟨l,hl,d⟩:=aS d;obtain⟨h,U,d⟩:=aS d;obtain⟨p,d⟩:=aW d;simp only[Qh,Rh]at p;obtain⟨⟨e,s⟩,N,d⟩:=aS d;obtain⟨J,i,g,rfl⟩:=nL N;have C:=u.at x;rw[hx]at C;have S:=eW u hl;have F:=eW u U;have f:s9 P e=some i.size:=by unfold s9;rw[g];rfl
  cases a with
  |none=>
   cases d;obtain⟨G,rfl,rfl⟩:=C.nilSlice;have D:=kY (P:=P) (w:=w) (b:=true) (cap:=0) S F p.1 p.2;obtain⟨rfl⟩:l=0:=O
   obtain⟨rfl⟩:h=0:=O
   refine .of_ok (v:=.slice none 0 0) (W':=w) ?_ (.here R (.sc _ Z .nil));simp[execOp,V,G,Instr.sliceAt,Instr.slice,run_underlying J,D,dI f]
  |some a=>
   obtain⟨n,c,sp⟩:=a;cases sp with
   |some _=>cases d
   |none=>
    obtain⟨a2,d⟩:=aW d;have:=Ql a2;simp only at this;subst this;cases d;obtain⟨b,q,q',cap,j,G,b1,hm,hr⟩:=C.slice;have D:=kY (P:=P) (w:=w) (b:=true) (cap:=cap) S F p.1 O;by_cases B:cap=l
    ·subst B;refine .of_ok (v:=.slice (some ⟨b,q',none⟩) (h-cap) (cap-cap)) (W':=w) ?_ (.here R (.slc n (c+cap*i.size) e (h-cap) (cap-cap) b q q' j O O (λY=>O) .nil));simp[execOp,V,G,Instr.sliceAt,Instr.slice,run_underlying J,D,dI f]
    obtain⟨rfl,sz,i2,M,Q,W⟩:=hr O;rw[g]at Q;cases Q;have X:l*i.size+(cap-l)*i.size=cap*i.size:=by rw[<-Rp];congr 1;omega
    refine .of_ok (v:=.slice (some ⟨b,q+c+l*i.size,none⟩) (h-l) (cap-l)) (W':=w) ?_ (.here R (.slc n (c+l*i.size) e (h-l) (cap-l) b q _ j O O (λ_=>⟨O,sz,i,M,g,O⟩) .nil));simp[execOp,V,G,Instr.sliceAt,Instr.slice,run_underlying J,D,dI f,B,eG]
 ·next s hx=>
  split at d
  ·next J=>
   obtain⟨l,hl,d⟩:=aS d;obtain⟨h,U,d⟩:=aS d;obtain⟨p,d⟩:=aW d;simp only[Qh,Rh]at p;cases d;have C:=u.at x;rw[hx]at C;have G:=C.string;have D:=kY (P:=P) (w:=w) (b:=false) (cap:=s.data.toList.length) (eW u hl) (eW u U) p.1 p.2;have f:s.size=s.data.toList.length:=rfl;rw[<-f]at D;refine .of_ok (v:=.string (s.extract l h)) (W':=w) ?_ (.here R (by rw[EG];exact .sc _ Z .nil));simp[execOp,V,G,Instr.sliceAt,Instr.slice,run_underlying J,D]
  cases d
 ·next n c hx=>
  split at d
  ·next k e J=>
   obtain⟨l,hl,d⟩:=aS d;obtain⟨h,U,d⟩:=aS d;obtain⟨p,d⟩:=aW d;simp only[Qh,Rh]at p;obtain⟨i,g,d⟩:=aS d;obtain⟨r,hr,d⟩:=aS d;obtain⟨I,d⟩:=aW d;simp only[Qh,Re,Rh]at I;cases d;have C:=u.at x;rw[hx]at C;obtain⟨b,q,j,G⟩:=C.pointer;have f:s9 P e=some i.size:=by unfold s9;rw[g];rfl
   have D:=kY (P:=P) (w:=w) (b:=false) (cap:=k) (eW u hl) (eW u U) p.1 p.2;obtain⟨b',q',S,_,H,_⟩:=R.row n r hr;rw[j]at S;cases S;obtain⟨s,M,W⟩:=H.resolve_left λh=>by rw[I.1.1]at h;cases h.1
   have X:l*i.size+(k-l)*i.size=k*i.size:=by rw[<-Rp];congr 1;omega
   by_cases B:k=l
   ·subst B;refine .of_ok (v:=.slice (some ⟨b,q+c,none⟩) (h-k) (k-k)) (W':=w) ?_ (.here R (.slc n (c+k*i.size) e (h-k) (k-k) b q _ j O O (λY=>O) .nil));simp[execOp,V,G,Instr.sliceAt,Instr.sureAddr,run_underlying J,D,dI f]
   refine .of_ok (v:=.slice (some ⟨b,q+c+l*i.size,none⟩) (h-l) (k-l)) (W':=w) ?_ (.here R (.slc n (c+l*i.size) e (h-l) (k-l) b q _ j O O (λ_=>⟨O,s,i,M,g,O⟩) .nil));simp[execOp,V,G,Instr.sliceAt,Instr.sureAddr,run_underlying J,D,dI f,B,eG]
  cases d
 cases d
end
section
variable {P:Program} {base:Nat} {sl:Slo} {A:AH} {o:Oper}
def y8{m:Nat}(h:m<=1099511627776):IntKind.i64.wrap (m:Int)=m:=by rw[Sz];omega
noncomputable def Hv (P:Program) (sl:Slo) (A:AH) (t:TypeId) (l c:Operand):Rs:=
 match de P sl l,de P sl c with
 | .int _ (.ofNat n),.int _ (.ofNat m)=>match P.underlying t with
  |some (.slice e)=>cP (P.info? e) λi=>cP i.zero λzv=>cond (zv.cells.toList.all s0&&Nat.beq zv.cells.toList.length i.size&&Nat.ble n m&&Nat.ble m 1099511627776&&Nat.ble (i.bytes*m) 140737488355328) (lg A (o7 zv.cells.toList n) λk A=>some (.slice (some ⟨k,0,none⟩) n e,A)) none
  |_=>none
 |_,_=>none
def y9{t:TypeId}{l c:Operand}(W:o.op=.makeSlice t l c):Newer P sl A o (Hv P sl A t l c):=by
 intro v A' a;unfold Hv at a;split at a
 ·next k n k' m hl hc=>
  split at a
  ·next e b=>
   obtain⟨i,D,a⟩:=aS a;obtain⟨h,Y,a⟩:=aS a;obtain⟨C,a⟩:=aW a;simp only[Qh,Rh]at C;obtain⟨⟨⟨⟨C,d⟩,G⟩,Q⟩,h5⟩:=C;have d:=Ql d;obtain⟨X,a⟩:=kg a;cases a;refine⟨_,X,Z,λE w T R=>?_⟩;have z:=R.at l;rw[hl]at z;have z:=z.int;have B:=R.at c;rw[hc]at B;have B:=B.int;have r:(sizeOf e).run P w=.ok i.size w:=by simp[sizeOf,typeInfo,D]
   have I:(zeroValue e).run P w=.ok h w:=by simp[zeroValue,typeInfo,D,Y]
   have s:(typeInfo e).run P w=.ok i w:=by simp[typeInfo,D]
   have hb:((i.bytes:Int)*(m:Int))<=140737488355328:=by
    rw[<-Int.natCast_mul];omega
   have K:¬((m:Int)<0\/281474976710656<(i.bytes:Int)*(m:Int)):=O
   have L:¬((n:Int)<0):=O
   have M:¬((m:Int)<(n:Int)):=O
   have x:=y8 Q;have y:=y8 (Qu G Q);have q:(Instr.makeSlice t (.int k n) (.int k' m)).run P w=.ok (.slice (some ⟨w.heap.size,0,none⟩) n m) (w.alloc (.cells ((Array.range (m*i.size)).map (h.cells[· %h.cells.size]!)) e)):=by
    by_cases N:m*i.size=0
    ·simp[Instr.makeSlice,run_underlying b,asInt,asIntOf,s,x,y,K,L,M,r,N,newRow];have J:∀f:Nat->Value,Array.map f (Array.range 0)=#[]:=λf=>Array.eq_empty_of_size_eq_zero F
     rw[J,J]
    simp[Instr.makeSlice,run_underlying b,asInt,asIntOf,s,x,y,K,L,M,r,N,I,newRow]
   have H:=nK h m i.size d;have g:((Array.range (m*i.size)).map (h.cells[· %h.cells.size]!)).size=m*i.size:=F
   have p:n*i.size<=m*i.size:=Ru _ G;refine⟨(Array.range (m*i.size)).map (h.cells[· %h.cells.size]!),e,.slice (some ⟨w.heap.size,0,none⟩) n m,by simp[execOp,W,z,B,q],by rw[ef,d,g];exact p,(by
    rw[H];refine fy (by rw[QN,ef,ef,d];omega) λj u t b S=>?_
    rw[QQ]at b;split at b
    ·next hj=>
     rw[ef,d]at hj;rw[ki _ m j (by rw[d];omega)]at b;rw[ki _ n j (by rw[d];exact hj),b]at S;cases S;exact .sc _ (Qt.1 C _ (Qo b)) .nil
    cases b),λE' _ U V _=>.slc _ 0 e n m w.heap.size 0 0 U G O (λ_=>⟨Z,_,i,V,D,by rw[g];omega⟩) .nil⟩
  cases a
 cases a
def KG{t:TypeId}{l c:Operand}(a:o.op=.makeSlice t l c):Good P base sl A o (Hv P sl A t l c):=(y9 a).good
noncomputable def ti (P:Program) (sl:Slo) (A:AH) (ts:List TypeId) (xs:List Operand):Rs:=
 match ts,xs with
 |[t],[x]=>match P.underlying t,de P sl x with
  |some (.slice _),.slice _ n _=>dH n λn=>some (.int .i64 (.ofNat n),A)
  |some .string,.string s=>dH (gF s.data.toList) λn=>some (.int .i64 (.ofNat n),A)
  |some (.array n _),_=>some (.int .i64 (.ofNat n),A)
  |_,_=>none
 |_,_=>none
def Hw{xs:Array Operand}{ts:Array TypeId}(f:o.op=.call {callee:=.builtin .len,args:=xs,argTypes:=ts}):Good P base sl A o (ti P sl A ts.toList xs.toList):=by
 intro v i b E w T d h;obtain⟨xs⟩:=xs;obtain⟨ts⟩:=ts;simp only at b;unfold ti at b;simp only[c8]at b;split at b
 ·next t x=>
  have c:=h.at x;split at b
  ·next e a n ee hu hx=>
   rw[b8]at b;cases b;rw[hx]at c;obtain⟨j,k,g⟩:=pH c;refine .of_ok (v:=goInt n) (W':=w) ?_ (.here d (.sc _ Z .nil));simp[execOp,f,resolve,invoke,builtin,Builtin.len_,run_underlying hu,g]
  ·next s hu hx=>
   rw[b8]at b;cases b;rw[hx]at c;have g:=c.string;refine .of_ok (v:=goInt s.size) (W':=w) ?_ (.here d (.sc _ Z .nil));simp[execOp,f,resolve,invoke,builtin,Builtin.len_,run_underlying hu,g]
  ·next n e hu=>
   cases b;refine .of_ok (v:=goInt n) (W':=w) ?_ (.here d (.sc _ Z .nil));simp[execOp,f,resolve,invoke,builtin,Builtin.len_,run_underlying hu]
  cases b
 cases b
noncomputable def Hx (P:Program) (A:AH) (ts:List TypeId) (s:Value) (m:Nat):Rs:=
 match ts,s with
 |[t,u],.slice none _ _=>match P.underlying t,P.underlying u with
  |some (.slice e),some (.int _)=>cP (P.info? e) λi=>cP i.zero λzv=>cond (pG s0 zv.cells.toList&&Nat.beq (gF zv.cells.toList) i.size&&Nat.blt 0 i.size&&Nat.blt 0 m&&Nat.ble m 1099511627776&&Nat.ble (m*i.bytes) 140737488355328) (lg A (o7 zv.cells.toList m) λk A=>some (.slice (some ⟨k,0,none⟩) m e,A)) none
  |_,_=>none
 |_,_=>none
noncomputable def wQ (P:Program) (sl:Slo) (A:AH) (ts:List TypeId) (xs:List Operand):Rs:=
 match xs with
 |[s,x]=>match de P sl x with
  | .int _ (.ofNat m)=>Hx P A ts (de P sl s) m
  |_=>Hi P A ts (de P sl s) (de P sl x)
 |_=>none
def Hy{xs:Array Operand}{ts:Array TypeId}(U:o.op=.call {callee:=.builtin .append,args:=xs,argTypes:=ts}):Good P base sl A o (wQ P sl A ts.toList xs.toList):=by
 intro v A' a E w T Q H;obtain⟨xs⟩:=xs;obtain⟨ts⟩:=ts;simp only at a;unfold wQ at a;split at a
 ·next s x=>
  split at a
  ·next k m hx=>
   have r:=H.at x;rw[hx]at r;have r:=r.int;have G:=H.at s;unfold Hx at a;simp only[iK,c8]at a;split at a
   ·next t u c1 c2 hs=>
    rw[hs]at G;obtain⟨hp,rfl,rfl⟩:=G.nilSlice;split at a
    ·next e kn I z=>
     obtain⟨i,S,a⟩:=aS a;obtain⟨b,hz,a⟩:=aS a;obtain⟨R,a⟩:=aW a;simp only[Qh,Rh]at R;obtain⟨⟨⟨⟨⟨J,c⟩,h⟩,p⟩,a0⟩,K⟩:=R;have c:=Ql c;have h:=cU h;have p:=cU p;obtain⟨M,a⟩:=kg a;cases a;have g:=Lib.run_append_grow_zeros (P:=P) w t u o.type e i b k kn I z S hz none 0 0 [] (by simp[Builtin.firstCells]) m p h O O O (growslice_fits O (by simpa using K));simp only[QT]at g;have C:=grownCap_ge w m 0 e;have B:=grownCap_le_maxLen w m 0 e (by unfold maxLen;omega);unfold maxLen at B;have F:b.cells.size=i.size:=by simpa using c
     have N:∀n,(Builtin.zeroCells b.cells n).toList=o7 b.cells.toList n:=λn=>by
      have:=nK b n i.size c;unfold Builtin.zeroCells;rw[F]at this⊢;exact this
     have L:(o7 b.cells.toList m).length=m*i.size:=by rw[ef,c]
     have d:(([]:List Value).toArray++Builtin.zeroCells b.cells m++Builtin.zeroCells b.cells (grownCap w m 0 e-m)).size=grownCap w m 0 e*i.size:=by
      have V:=size_zeroCells b.cells m;have W:=size_zeroCells b.cells (grownCap w m 0 e-m);simp only[SQ,Rg,QC,V,W,F];rw[QT,<-Rp];congr 1;omega
     have D:m*i.size<=grownCap w m 0 e*i.size:=Ru _ C;obtain⟨E',X,Y,f3,f4⟩:=Q.fresh (w':=w.drew.alloc (.cells (([]:List Value).toArray++Builtin.zeroCells b.cells m++Builtin.zeroCells b.cells (grownCap w m 0 e-m)) e)) (cs:=o7 b.cells.toList m) (f:=A.nx) (l:=[]) (fz:=(0,0)) M Z Z Z Z (.inl Z) (by rw[d,L];exact D) (by
      rw[QW,QW,N];simp only[Rv];rw[List.take_left' Z];refine fy Z λj u t z I=>?_
      rw[z]at I;cases I;rw[ki _ m j (by have:=(Qm.1 z).1;rwa[ef]at this)]at z;exact .sc _ (Qt.1 J _ (Qo z)) .nil) (.inl ⟨Z,Z⟩)
     refine .of_ok (v:=.slice (some ⟨w.heap.size,0,none⟩) m (grownCap w m 0 e)) (W':=w.drew.alloc (.cells (([]:List Value).toArray++Builtin.zeroCells b.cells m++Builtin.zeroCells b.cells (grownCap w m 0 e-m)) e)) ?_ ⟨E',X,.slc _ 0 e _ _ w.heap.size 0 0 Y C O (λ_=>⟨Z,_,i,f3,S,by rw[d];omega⟩) .nil,f4⟩;simp only[execOp,U,resolve,invoke,builtin,R2,QM,Rq,hp,r,Sem.run_bind,Sem.run_pure,Result.andThen_ok];have q:(Builtin.append_ #[t,u] o.type #[.slice none 0 0,.int k (Int.ofNat m)]).run P w=_:=g;rw[q];rfl
    cases a
   cases a
  obtain⟨y,w',E',r,G,h3,h4⟩:=Hl (ty:=o.type) Q (H.at s) (H.at x) a;refine .of_ok (v:=y) (W':=w') ?_ ⟨E',G,h3,h4⟩;simp[execOp,U,resolve,invoke,builtin,r]
 cases a
noncomputable def wR (P:Program) (sl:Slo) (A:AH) (ts:List TypeId) (xs:List Operand):Rs:=
 match ts,xs with
 |t::_,[d,s]=>cP (EP P t) λe=>cP (lO (de P sl s)) λm=>match de P sl d with
  | .slice (some ⟨n,c,none⟩) k _=>cond (match de P sl s with| .string _=>Nat.beq e.2 1|_=>true) (dH (Nat.min m k) λj=>cond (Nat.beq j 0) (some (.int .i64 (.ofNat 0),A)) (cP (wL A e.2 (de P sl s) j) λvs=>cP (kf A n c vs) λA=>some (.int .i64 (.ofNat j),A))) none
  |_=>none
 |_,_=>none
def EH{xs:Array Operand}{ts:Array TypeId}(J:o.op=.call {callee:=.builtin .copy,args:=xs,argTypes:=ts}):Good P base sl A o (wR P sl A ts.toList xs.toList):=by
 intro v A' f E w T B I;obtain⟨xs⟩:=xs;obtain⟨ts⟩:=ts;simp only at f;unfold wR at f;split at f
 ·next t ts d s=>
  obtain⟨⟨e,z⟩,C,f⟩:=aS f;obtain⟨m,r,f⟩:=aS f;obtain⟨L,i,V,rfl⟩:=nL C;have x:(sizeOf e).run P w=.ok i.size w:=by simp[sizeOf,typeInfo,V]
  split at f
  ·next n c k ee hd=>
   obtain⟨h,f⟩:=aW f;rw[b8]at f;have l:=I.at s;have p:=I.at d;rw[hd]at p;obtain⟨b,q,q',cap,D,K,X,_,Y⟩:=p.slice;have g:=yU l r w;cases j:Nat.beq (Nat.min m k) 0 with
   |true=>
    rw[j]at f;have j:=Ql j;cases f;have S:(Builtin.firstCells i.size 0 (eL T s)).run P w=.ok #[] w:=by
     unfold lO at r;split at r
     ·next a' n' c' hx'=>
      rw[hx']at l;obtain⟨a,c,U⟩:=pH l;rw[U];cases a<;>simp[Builtin.firstCells,loadCells,loadCellsFrom]
     ·next s' hx'=>
      rw[hx']at l;rw[l.string];simp only[Builtin.firstCells,Sem.run_pure];congr 1;apply Rb;simp
     cases r
    refine .of_ok (v:=goInt 0) (W':=w) ?_ (.here B (.sc _ Z .nil));simp[execOp,J,resolve,invoke,builtin,Builtin.copy_,run_underlying L,K,g,x,j,S,storeCells]
   |false=>
    rw[j]at f;obtain⟨vs,hv,f⟩:=aS f;obtain⟨A1,H,f⟩:=aS f;cases f;have u:0<Nat.min m k:=RN λe=>by rw[e]at j;cases j
    have F:Nat.min m k<=m:=Nat.min_le_left m k;have W:Nat.min m k<=k:=Nat.min_le_right m k;obtain⟨us,h1,M,y⟩:=uT B l ⟨m,r,F⟩ u (λs' G=>by rw[G]at h;exact Ql h) hv;obtain⟨rfl,_⟩:=Y O;obtain⟨w',N,Q,R⟩:=lN B D M H;have y:=y w λ_ _=>rfl
    refine .of_ok (v:=goInt (Nat.min m k:Nat)) (W':=w') ?_ ⟨E,Q,.sc _ Z .nil,R⟩;simp[execOp,J,resolve,invoke,builtin,Builtin.copy_,run_underlying L,K,g,x,y,N]
  cases f
 cases f
noncomputable def Hz (P:Program) (sl:Slo) (A:AH) (t:TypeId) (x ix:Operand):Rs:=
 match de P sl ix with
 | .int _ (.ofNat i)=>match de P sl x,P.underlying t with
  | .string s,some .string=>cP (jT s.data.toList i) λb=>dH b.toNat λc=>some (.int .u8 (.ofNat c),A)
  | .agg cs,some (.array n e)=>cP (Pq P e) λg=>cP (s9 P e) λs=>cond (Nat.blt i n) (cond g (some (.agg ((cs.toList.drop (i*s)).take s).toArray,A)) (cP (jT cs.toList (i*s)) λv=>some (v,A))) none
  |_,_=>none
 |_=>none
def KH{t:TypeId}{x z:Operand}(r:o.op=.index t x z):Good P base sl A o (Hz P sl A t x z):=by
 intro v I a E w T m C;unfold Hz at a;split at a
 ·next k i hi=>
  have f:=C.at z;rw[hi]at f;have f:=f.int;have h:=C.at x;split at a
  ·next s hx hu=>
   rw[hx]at h;have l:=h.string;obtain⟨b,p,a⟩:=aS a;rw[b8]at a;cases a;rw[ia]at p;refine .of_ok (v:=.int .u8 b.toNat) (W':=w) ?_ (.here m (.sc _ Z .nil));have q:s[i]? =some b:=by
    have c:=(Qm.1 p).1;have:i<s.size:=c;rw[getElem?_pos s i this];congr 1;have j:=(Qm.1 p).2;rw[<-j];rfl
   simp[execOp,r,l,f,Instr.index,asIntOf,run_underlying hu,q]
  ·next cs n e hx hu=>
   rw[hx]at h;obtain⟨xs,l,F⟩:=h.aggr;obtain⟨g,H,a⟩:=aS a;obtain⟨s,D,a⟩:=aS a;obtain⟨c,a⟩:=aW a;have c:=cU c;have d:=wK H w;cases g with
   |true=>
    cases a;refine .of_ok (v:=.agg ((xs.toList.drop (i*s)).take s).toArray) (W':=w) ?_ (.here m (y7 ((F.drop _).take _)));have:xs.extract (i*s) (i*s+s)=((xs.toList.drop (i*s)).take s).toArray:=by
     apply Rb;rw[Sl,List.extract_eq_drop_take',List.take_drop]
    simp[execOp,r,l,f,Instr.index,asIntOf,run_underlying hu,c,part,d,dI D,this]
   |false=>
    obtain⟨y,j,a⟩:=aS (o:=jT cs.toList (i*s)) a;cases a;rw[ia]at j;obtain⟨u,B,G⟩:=F.get _ _ j;simp only[QO]at B;refine .of_ok (v:=u) (W':=w) ?_ (.here m G);simp[execOp,r,l,f,Instr.index,asIntOf,run_underlying hu,c,part,d,dI D,B]
  cases a
 cases a
end
