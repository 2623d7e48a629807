import Derived.Test.YtmhcanmapkenbaaGreatDoorA37
import Derived.Lib.UnsafeStr
import Derived.LoopN
import Derived.Scope
set_option linter.defProp false
open Go.Proofs.Tryz
namespace Go.Proofs.YtmhcanmapkenbaaGreatDoor
open Lib renaming hid→J
section
variable {P:Program} {E:EE} {A:AH} {base:Nat} {w w':World} {sl:Slo} {o:Oper}
def RelA.frz(h:RelA P E A base w){b:Nat}{c:Array Value}{e:TypeId}{fz m:Nat×Nat}(x:¬NL E A b)(F:w.heap[b]? =some (.cells c e fz))(y:w'.heap[b]? =some (.cells c e m))(z:w'.heap.size=w.heap.size)(d:∀a,a≠b->w'.heap[a]? =w.heap[a]?):RelA P E A base w':=by
 have p:∀a j,w'.cell? ⟨a,j,none⟩=w.cell? ⟨a,j,none⟩:=λa j=>by
  by_cases B:a=b
  ·subst B;simp[World.cell?,F,y]
  exact World.cell?_of_block (d a B)
 refine⟨λn r L=>?_,λa s D=>?_,h.sep,h.fam,h.top,h.mem,h.new,h.nxb,λn cs K=>?_,h.minj,h.mnew,λn a D=>by rw[z];exact h.mlt n a D,by rw[z];exact h.base,λa t D=>?_,h.rty⟩
 ·obtain⟨a,q,k,l,C,H⟩:=h.row n r L;exact⟨a,q,k,by rw[z];exact l,C,λi v M=>(H i v M).imp λu g=>⟨(p a _).trans g.1,g.2⟩⟩
 ·obtain⟨k,G,B,o,l,C,H⟩:=h.blk a s D;by_cases f:a=b
  ·subst f;rw[F]at l;cases l;exact⟨k,c,e,m,y,C,λJ=>absurd J x⟩
  exact⟨k,G,B,o,(d a f).trans l,C,H⟩
 ·obtain⟨a,es,I,k,l,C⟩:=h.map n cs K;exact⟨a,es,I,k,(d a λB=>by subst B;rw[F]at l;cases l).trans l,C⟩
 obtain⟨G,o,k⟩:=h.typ a t D;by_cases f:a=b
 ·subst f;rw[F]at k;cases k;exact⟨c,m,y⟩
 exact⟨G,o,(d a f).trans k⟩
def KP{e:TypeId}(b:P.cellsOf e=1)(a off n:Nat)(c:off+n<=a):liesAt P P.depth e a off e n=true:=by
 have hd:P.depth=(2*(P.types.size+Made.depth)+1)+1:=rfl;rw[hd];simp only[liesAt,Q5];left;rw[hd];simp only[rowAt,b,T0,Nat.mod_one,beq_self_eq_true,Ri,Q5,Qh,decide_eq_true_eq];simp[c,sameLayout]
theorem mF (w : World) (pt it ty e : TypeId) (hp : P.underlying pt = some (.pointer e)) (hc : P.cellsOf e = 1) (g q cells : Nat) (hsh : w.shape? g = some (e, cells)) (l : List UInt8) (h0 : l ≠ []) (hn : q + l.length ≤ cells) (h63 : l.length ≤ 9223372036854775807)
  (hcell : ∀ j x, l[j]? = some x → w.cell? ((⟨g, q, none⟩ : Addr).add j) = some (.int .u8 x.toNat)) :
  (Builtin.unsafeString_ #[pt, it] ty #[.pointer (some ⟨g, q, none⟩), .int .i64 l.length]).run P w = .ok (.string ⟨l.toArray⟩) (w.freeze ⟨g, q, none⟩ l.length) := by
 have hl : l.length ≠ 0 := by simpa using h0
 have hlb := Lib.run_loadBytes (P := P) w l ⟨g, q, none⟩ .empty hcell
 have hlies := KP (P := P) hc (cells / P.cellsOf e) q l.length (by rw [hc]; simpa using hn)
 have h63' : ¬ (9223372036854775807 : Int) < (l.length : Int) := by omega
 have hmax : IntKind.i64.max = 9223372036854775807 := rfl
 have hneg : ¬ (l.length : Int) < 0 := by omega
 have hdef : Builtin.unsafeString_ #[pt, it] ty #[.pointer (some ⟨g, q, none⟩), .int .i64 l.length] =
   (asInt (.int .i64 l.length) >>= fun n => do
    if n < 0 then runtimePanic (.error "unsafe.String: len out of range")
    if n > IntKind.i64.max then unsupported (.unsafePointer "String: a length above the largest int")
    if n = 0 then pure (.string .empty)
    else if ← variablesAt ⟨g, q, none⟩ (← elemOf pt) n.toNat then do
     let s ← loadBytes ⟨g, q, none⟩ .empty n.toNat
     freeze ⟨g, q, none⟩ n.toNat
     pure (.string s)
    else unsupported (.unsafePointer "String: not so many bytes at ptr")) := rfl
 rw [hdef]
 simp [asInt, asIntOf, hmax, h63', hneg, hl, variablesAt, hsh, elemOf, run_underlying hp, hlies, hlb]
def wV{w:World}{b q m:Nat}{c:Array Value}{e:TypeId}{fz:Nat×Nat}(j:0<m)(i:w.heap[b]? =some (.cells c e fz)):(∃d,(w.freeze ⟨b,q,none⟩ m).heap[b]? =some (.cells c e d))/\(∀a,a≠b->(w.freeze ⟨b,q,none⟩ m).heap[a]? =w.heap[a]?)/\(w.freeze ⟨b,q,none⟩ m).heap.size=w.heap.size/\(w.freeze ⟨b,q,none⟩ m).os=w.os/\(w.freeze ⟨b,q,none⟩ m).tape=w.tape/\(w.freeze ⟨b,q,none⟩ m).output=w.output:=by
 obtain⟨h,g⟩:=fz;unfold World.freeze;rw[if_neg O];refine⟨⟨if h==g then(q,q+m)else(min h q,max g (q+m)),?_⟩,λa f=>?_,?_,Z,Z,Z⟩
 ·show(w.heap.modify b _)[b]? =_
  rw[RG,if_pos Z,i];rfl
 ·show(w.heap.modify b _)[a]? =_
  rw[RG,if_neg (λe=>f e.symm)]
 show(w.heap.modify b _).size=_
 rw[Array.size_modify]
noncomputable def C0 (P:Program) (sl:Slo) (A:AH) (xs:List Operand):Rs:=match xs with
 |[x]=>match de P sl x with
  | .slice (some ⟨n,c,none⟩) len _=>cond (Nat.blt 0 len) (some (.pointer (some ⟨n,c,none⟩),A)) none
  | .slice none _ _=>some (.pointer none,A)
  |_=>none
 |_=>none
def Ib{xs:Array Operand}{ts:Array TypeId}(k:o.op=.call {callee:=.builtin .unsafeSliceData,args:=xs,argTypes:=ts}):Good P base sl A o (C0 P sl A xs.toList):=by
 intro v p a E w T j l;obtain⟨xs⟩:=xs;simp only at a;unfold C0 at a;split at a
 ·next x=>
  have f:=l.at x;split at a
  ·next n c len e hx=>
   obtain⟨i,a⟩:=aW a;cases a;have i:=cU i;rw[hx]at f;obtain⟨b,q,r,cap,g,h,hl,_,d⟩:=f.slice;obtain⟨rfl,_⟩:=d O;refine .of_ok (v:=.pointer (some ⟨b,q+c,none⟩)) (W':=w) ?_ (.here j (.ptr n c b q g .nil));have:=Lib.run_unsafeSliceData_row (P:=P) w ts o.type ⟨b,q+c,none⟩ len cap O;simp[execOp,k,resolve,invoke,builtin,h,this]
  ·next m c hx=>
   cases a;rw[hx]at f;obtain⟨h,_⟩:=f.nilSlice;refine .of_ok (v:=.pointer none) (W':=w) ?_ (.here j (.sc _ Z .nil));have:=Lib.run_unsafeSliceData_nil (P:=P) w ts o.type m c;simp[execOp,k,resolve,invoke,builtin,h,this]
  cases a
 cases a
noncomputable def C1 (P:Program) (sl:Slo) (A:AH) (ts:List TypeId) (xs:List Operand):Rs:=match ts,xs with
 |[pt,_],[x,y]=>match de P sl x,de P sl y with
  | .pointer none,.int .i64 (.ofNat 0)=>some (.string ⟨#[]⟩,A)
  | .pointer (some ⟨n,c,none⟩),.int .i64 (.ofNat m)=>match P.underlying pt with
   |some (.pointer e)=>cP (A.get n) λr=>cond (Nat.beq (P.cellsOf e) 1&&Nat.beq r.ty (e+1)&& !r.fro&&Nat.blt 0 m&&Nat.ble m 1099511627776&&Nat.ble (c+m) (gF r.cs)) (cP (qR (ld m (lM c r.cs))) λl=>fF l λl=>some (.string ⟨⟨l⟩⟩,(A.kill n r.fam).put n (some ⟨r.cs,r.fam,true,r.ty⟩))) none
   |_=>none
  |_,_=>none
 |_,_=>none
def Ic{xs:Array Operand}{ts:Array TypeId}(ho:o.op=.call {callee:=.builtin .unsafeString,args:=xs,argTypes:=ts}):Good P base sl A o (C1 P sl A ts.toList xs.toList):=by
 intro v A' a E w T p hS;obtain⟨xs⟩:=xs;obtain⟨ts⟩:=ts;simp only at a;unfold C1 at a;simp only[c8,fp,fl,dd]at a;split at a
 ·next pt it x y=>
  have M:=hS.at x;have U:=hS.at y;split at a
  ·next hx hy=>
   cases a;rw[hx]at M;rw[hy]at U;have Y:eL T x=.pointer none:=by
    generalize eL T x=u at M;cases M;rfl
   have i:=U.int;refine .of_ok (v:=.string .empty) (W':=w) ?_ (.here p (.sc _ Z .nil));have:=Lib.run_unsafeString_none (P:=P) w pt it o.type none;have g:eL T y=.int .i64 0:=i;simp[execOp,ho,resolve,invoke,builtin,Y,g,this]
  ·next n c m hx hy=>
   split at a
   ·next e hu=>
    obtain⟨r,I,a⟩:=aS a;obtain⟨h3,a⟩:=aW a;simp only[Qh,Rh,Re]at h3;obtain⟨⟨⟨⟨⟨D,L⟩,Q⟩,H⟩,a4⟩,X⟩:=h3;have D:=Ql D;have L:=Ql L;have H:=cU H;obtain⟨l,hl,a⟩:=aS a;cases a;rw[hx]at M;rw[hy]at U;have i:=U.int;obtain⟨b,q,f,Y⟩:=M.pointer;obtain⟨b',q',g1,_,g3,_⟩:=p.row n r I;rw[f]at g1;cases g1;obtain⟨s,N,a1⟩:=g3.resolve_left λh=>by rw[Q]at h;cases h.1
    obtain⟨W,cur,e1,fz,d,b0,_⟩:=p.blk b s N;obtain⟨b2,q2,g4,g5⟩:=p.rty n r e I L;rw[f]at g4;cases g4;obtain⟨c1,a3,g6⟩:=p.typ b e g5;rw[d]at g6;cases g6;have h4:=nM hl;have S:l.length=m:=by
     have:=congrArg List.length h4;rw[QN,QZ,Qr]at this;omega
    obtain⟨us,k1,k2,k3⟩:=p.reads I f c m X;rw[h4]at k3;have a0:=wT k3;have C:=mF (P:=P) w pt it o.type e hu D b (q+c) cur.size (by simp[World.shape?,d]) l (λe=>by subst e;simp at S;omega) O O λj x' hj=>by
     rw[eG];exact k2 j _ (by rw[a0];simp[hj])
    rw[S]at C
    -- the family's other rows given up, the row marked, the block frozen
    have R:=p.kill I;have G:=uR p I;have z:∀k q,(A.kill n r.fam).get k=some q->q.fam=r.fam->k=n:=λk q i hf=>by
     rw[kd p I]at i;cases g:A.get k with
     |none=>rw[g]at i;cases i
     |some q'=>
      rw[g]at i;simp only at i;split at i
      ·cases i
      next hc=>
      cases i;exact Classical.byContradiction λt=>hc ⟨hf,t⟩
    obtain⟨_,_,f1,_,_,f4⟩:=R.row n r G;rw[f]at f1;cases f1;have hw:=R.write (w':=w) (cs:=r.cs) (fr:=true) G f Z z (Qi _) R.blk f4 (λ_ _ _=>rfl) (λ_ _ _ h=>h) R.typ λ_=>rfl
    have a9:=p.fam n r I;have a5:=p.nxb;have F:¬NL E ((A.kill n r.fam).put n (some ⟨r.cs,r.fam,true,r.ty⟩)) b:=λ⟨k,q1,o1,z1,z2,z3⟩=>by
     rw[kW O]at z1;split at z1
     ·cases z1;cases z2
     next t=>
     rcases R.sep k n q1 r b o1 q z1 G z3 f with V|V
     ·exact t V
     exact t (z k q1 z1 V)
    obtain⟨⟨a2,J⟩,B,K,z1,z2,z3⟩:=wV (w:=w) (q:=q+c) H d;refine .of_ok (v:=.string ⟨l.toArray⟩) (W':=w.freeze ⟨b,q+c,none⟩ m) ?_ ⟨E,hw.frz F d J K B,.sc _ Z .nil,⟨.refl _,z1,z2,z3,O,λb' _ hn _=>B b' (λe=>by rw[e,N]at hn;cases hn),λ_ _=>rfl,λ_ _ h=>.inl h⟩⟩;have g:eL T y=.int .i64 (m:Int):=i;simp[execOp,ho,resolve,invoke,builtin,Y,g,C]
   cases a
  cases a
 cases a
end
def Gl(P:Program)(E:EE):Prop:=∀g,g<P.globals.size->E.lo g=some (g,0)
def Gl.le{P:Program}{E E':EE}(h:Gl P E)(a:E.Le E'):Gl P E':=λg b=>a.lo _ _ (h g b)
abbrev fC:=FuncId->List Value->AH->Rs
def gb(P:Program)(base:Nat)(call:fC):Prop:=∀f args A v A',call f args A=some (v,A')->(∃fn,P.funcs[f]? =some fn/\(fn.name== "runtime.NumGoroutine")=false/\fn.body.isNone=false)/\∀E w vs,RelA P E A base w->Gl P E->VL P E vs args->Calls P f vs.toArray w λe w'=>∃u,e=.returned u/\Aft P E A' base w v u w'
section
variable {P:Program} {base:Nat} {sl:Slo} {A:AH} {o:Oper} {call:fC}
noncomputable def NR (P:Program) (sl:Slo) (A:AH) (fn:Fn) (a b:List Operand):Rs:=some (.func fn (iv (de P sl) a).toArray (iv (de P sl) b).toArray,A)
def KQ{d:Fn}{a b:Array Operand}(g:o.op=.makeFunc d a b):Good P base sl A o (NR P sl A d a.toList b.toList):=eT λE w T h f=>by
 refine⟨.func d (a.map (eL T)) (b.map (eL T)),by simp[execOp,g,Instr.makeFunc],?_⟩;have:=VL.fn (P:=P) (E:=E) d (a.toList.map (eL T)) _ (b.toList.map (eL T)) _ (f.args a.toList) (f.args b.toList) .nil;have e:∀c:Array Operand,(c.toList.map (eL T)).toArray=c.map (eL T):=λc=>Rb F
 rwa[e,e]at this
def VL.cleans{E:EE}:∀{us vs:List Value},VL P E us vs->vs.all (HH 1)=true->us=vs
 |[],[],_,_=>rfl
 |[],_::_,h,_=>by cases h
 |_::_,[],h,_=>by cases h
 |u::us,v::vs,h,hc=>by
  simp only[Rc,Qh]at hc;rw[h.head.clean 1 hc.1,VL.cleans h.tail hc.2]
noncomputable def Ie (P:Program) (g:FuncId):Bool:=match P.funcs[g]? with|some fn=>fn.body.isNone|none=>false
noncomputable def NS (P:Program) (A:AH) (g:FuncId) (args:List Value):Rs:=cond (pG (HH 1) args) (cP (f6 P (callFunc g args.toArray)) λn=>match n with| .value v=>lP v A|_=>none) none
noncomputable def pJ (P:Program) (call:fC) (sl:Slo) (A:AH) (f:Operand) (xs:List Operand):Rs:=
 match de P sl f with
 | .func (.func g) a b=>cond (Ie P g) (NS P A g (o0 a.toList (o0 (iv (de P sl) xs) b.toList))) (call g (o0 a.toList (o0 (iv (de P sl) xs) b.toList)) A)
 |_=>none
def VL.func{E:EE}{u:Value}{g:Fn}{a b:Array Value}(h:VL P E [u] [.func g a b]):∃xs c,u=.func g xs c/\VL P E xs.toList a.toList/\VL P E c.toList b.toList:=by
 cases h with
 |sc v h _=>
  simp only[s0,Qh]at h;have d:a.toList=[]:=QI (Ql h.1);have e:b.toList=[]:=QI (Ql h.2);exact⟨a,b,Z,by rw[d];exact .nil,by rw[e];exact .nil⟩
 |fn f xs cs xs' cs' hx hx' _=>exact⟨_,_,Z,by simpa using hx,by simpa using hx'⟩
def EK{f:Operand}{xs:Array Operand}{ts:Array TypeId}(I:gb P base call)(B:o.op=.call {callee:=.value f,args:=xs,argTypes:=ts}):Good P base sl A o (pJ P call sl A f xs.toList):=by
 intro v r c E w T z p;unfold pJ at c;split at c
 ·next g a b hf=>
  have u:=p.at f;rw[hf]at u;obtain⟨us,vs,x,G,H⟩:=u.func;simp only[jH,<-Q0]at c;have d:=(G.append (p.args xs.toList)).append H;have s:(us.toList++xs.toList.map (eL T)++vs.toList).toArray=us++xs.map (eL T)++vs:=Rb F;cases i:Ie P g with
  |true=>
  rw[i]at c;have c:NS P A g (a.toList++iv (de P sl) xs.toList++b.toList)=some (v,r):=c;unfold NS at c;simp only[iK]at c;obtain⟨q,c⟩:=aW c;obtain⟨n,l,c⟩:=aS c;split at c
  ·next y=>
   obtain⟨rfl,rfl,m⟩:=iS c;have j:=d.cleans q;have h:=jm w l;refine .of_ok (v:=v) (W':=w) ?_ (.here z (.sc _ m .nil));rw[<-j,s]at h;have k:=h;rw[Array.append_assoc]at k;simp[execOp,B,resolve,x,Deferred.ofValue,invoke,h,k]
  ·cases c
  |false=>
  rw[i]at c;have c:call g (a.toList++iv (de P sl) xs.toList++b.toList) A=some (v,r):=c;obtain⟨⟨t,l,m,j⟩,h⟩:=I _ _ _ _ _ c;have k:=h E w (us.toList++xs.toList.map (eL T)++vs.toList) z p.glob d;refine .of_call (f:=g) (args:=(us.toList++xs.toList.map (eL T)++vs.toList).toArray) ?_ k;have C:¬t.name= "runtime.NumGoroutine" :=by simpa using m
  have D:¬t.body=none:=λe=>by rw[e]at j;cases j
  rw[s];simp[execOp,B,resolve,x,Deferred.ofValue,invoke,callFunc,l,C,D]
 cases c
noncomputable def zf (P:Program) (sl:Slo) (A:AH) (f:Array Value->Sem Value) (xs:List Operand):Rs:=cond (pG (HH 1) (iv (de P sl) xs)) (cP (f6 P (f (iv (de P sl) xs).toArray)) λv=>lP v A) none
def C2{f:Array Value->Sem Value}{xs:Array Operand}(k:∀T,execOp (eL T) o=(do pure (.value (<-f (xs.map (eL T)))))):Good P base sl A o (zf P sl A f xs.toList):=by
 intro v l a E w T i j;unfold zf at a;simp only[iK]at a;obtain⟨b,a⟩:=aW a;obtain⟨u,e,a⟩:=aS a;obtain⟨rfl,rfl,g⟩:=iS a;have h:=(j.args xs.toList).cleans b;have c:=jm w e;refine .of_ok (v:=v) (W':=w) ?_ (.here i (.sc _ g .nil));have d:(xs.toList.map (eL T)).toArray=xs.map (eL T):=Rb F;rw[<-h,d]at c;rw[k,Sem.run_bind,c];rfl
noncomputable def zg (P:Program) (sl:Slo) (A:AH) (ts:List TypeId) (xs:List Operand):Rs:=
 match ts,xs with
 |[t],[x]=>match P.underlying t,de P sl x with
  |some (.slice _),.slice none _ _=>some (.int .i64 (.ofNat 0),A)
  |some (.array n _),_=>some (.int .i64 (.ofNat n),A)
  |_,_=>none
 |_,_=>none
def Ig{xs:Array Operand}{ts:Array TypeId}(f:o.op=.call {callee:=.builtin .cap,args:=xs,argTypes:=ts}):Good P base sl A o (zg P sl A ts.toList xs.toList):=by
 intro v i a E w T d g;obtain⟨xs⟩:=xs;obtain⟨ts⟩:=ts;simp only at a;unfold zg at a;split at a
 ·next t x=>
  have b:=g.at x;split at a
  ·next e m c hu hx=>
   cases a;rw[hx]at b;obtain⟨h,rfl,rfl⟩:=b.nilSlice;refine .of_ok (v:=goInt 0) (W':=w) ?_ (.here d (.sc _ Z .nil));simp[execOp,f,resolve,invoke,builtin,Builtin.cap_,run_underlying hu,h]
  ·next n e hu=>
   cases a;refine .of_ok (v:=goInt n) (W':=w) ?_ (.here d (.sc _ Z .nil));simp[execOp,f,resolve,invoke,builtin,Builtin.cap_,run_underlying hu]
  cases a
 cases a
noncomputable def zh (P:Program) (sl:Slo) (A:AH) (b:Builtin) (ts:List TypeId) (xs:List Operand):Rs:=
 match b with
 | .append=>wQ P sl A ts xs
 | .len=>ti P sl A ts xs
 | .copy=>wR P sl A ts xs
 | .min=>zf P sl A (Builtin.min_ #[] 0) xs
 | .max=>zf P sl A (Builtin.max_ #[] 0) xs
 | .cap=>zg P sl A ts xs
 | .unsafeSliceData=>C0 P sl A xs
 | .unsafeString=>C1 P sl A ts xs
 |_=>none
noncomputable def jr (P:Program) (call:fC) (sl:Slo) (A:AH) (o:Oper):Rs:=
 match o.op with
 | .move x=>some (de P sl x,A)
 | .assign x=>some (de P sl x,A)
 | .pick c a b=>tc P sl A c a b
 | .alloc e=>qP P A e
 | .box _ x=>yY P sl A x
 | .build t ps=>o6 P sl A t ps.toList
 | .buildSlice t len ps=>yZ P sl A t len ps.toList
 | .load t a=>KB P sl A t a
 | .store t a x=>KC P sl A t a x
 | .nilCheck x=>te P sl A x
 | .binOp op t x y _=>zc P sl A op t x y
 | .unOp op _ x=>H4 P sl A op x
 | .convert s d x=>H8 P sl A s d x
 | .makeSlice t l c=>Hv P sl A t l c
 | .slice t x lo hi mx=>Hu P sl A t x lo hi mx
 | .fieldAddr s x f=>Hq P sl A s x f
 | .field t x f=>y6 P sl A t x f
 | .indexAddr t x ix=>Ht P sl A t x ix
 | .index t x ix=>Hz P sl A t x ix
 | .extract t i=>y5 P sl A t i
 | .makeFunc fn a b=>NR P sl A fn a.toList b.toList
 | .makeMap _ r=>NP A r
 | .lookup t x ix ok=>Ia P sl A t x ix ok
 | .mapUpdate t m k x=>EJ P sl A t m k x
 | .insert t m k x=>EJ P sl A t m k x
 | .call c=>match c.callee with
  | .builtin b=>zh P sl A b c.argTypes.toList c.args.toList
  | .value f=>pJ P call sl A f c.args.toList
  |_=>none
 |_=>none
def C3(d:gb P base call):Good P base sl A o (jr P call sl A o):=by
 unfold jr;split
 ·next h=>exact EB h
 ·next h=>exact yX h
 ·next h=>exact EC h
 ·next h=>exact Bf h
 ·next h=>exact Hn h
 ·next h=>exact Bg h
 ·next h=>exact Ho h
 ·next h=>exact ED h
 ·next h=>exact Bi h
 ·next h=>exact EF h
 ·next h=>exact H3 h
 ·next h=>exact KI h
 ·next h=>exact KJ h
 ·next h=>exact KG h
 ·next h=>exact KF h
 ·next h=>exact KD h
 ·next h=>exact Hr h
 ·next h=>exact KE h
 ·next h=>exact KH h
 ·next h=>exact Hp h
 ·next h=>exact KQ h
 ·next h=>exact KL h
 ·next h=>exact KO h
 ·next h=>exact CZ (.inl h)
 ·next h=>exact CZ (.inr h)
 ·next c h=>
  obtain⟨a,xs,ts⟩:=c;cases a with
  |builtin b=>
   show Good P base sl A o (zh P sl A b ts.toList xs.toList)
   unfold zh;split
   ·exact Hy h
   ·exact Hw h
   ·exact EH h
   ·exact C2 λT=>by simp only[execOp,h,resolve,invoke,builtin];rfl
   ·exact C2 λT=>by simp only[execOp,h,resolve,invoke,builtin];rfl
   ·exact Ig h
   ·exact Ib h
   ·exact Ic h
   exact d6
  |value f=>exact EK d h
  |invoke _ _=>exact d6
 exact d6
structure SimA (P:Program) (E:EE) (sl:Slo) (a:Act):Prop where
 size:a.tmps.size=sl.n
 wf:∀d,d<sl.n->InR sl d
 slot:∀s,VL P E [a.tmps.getD s undef] [jq sl s]
 dfr:a.defers=[]
def SimA.mono{E E':EE}{a:Act}(h:SimA P E sl a)(b:E.Le E'):SimA P E' sl a:=⟨h.size,h.wf,λs=>(h.slot s).mono b,h.dfr⟩
def wW{E:EE}:VL P E [undef] [undef]:=.tup [] [] .nil .nil
def SimA.put{E:EE}{a:Act}{u v:Value}(h:SimA P E sl a)(l:VL P E [u] [v])(d:Option Nat):SimA P E (Option.rec sl (λd=>sset sl d v) d) (a.put d u):=by
 cases d with
 |none=>exact h
 |some d=>
  refine⟨?_,λe k=>(h.wf e (by revert k;show e<(sset sl d v).n->_;unfold sset;cases Nat.blt d sl.n<;>exact id)).sset,λs=>?_,h.dfr⟩
  ·show(a.tmps.setIfInBounds d u).size=(sset sl d v).n
   rw[Array.size_setIfInBounds,h.size];unfold sset;cases Nat.blt d sl.n<;>rfl
  show VL P E [(a.tmps.setIfInBounds d u).getD s undef] [jq (sset sl d v) s]
  have b:=h.slot s;have m:=h.size;rw[QG]at b⊢;rw[Array.getElem?_setIfInBounds];by_cases hd:d<sl.n
  ·obtain⟨f,i⟩:=yS sl d v s hd;by_cases e:d=s
   ·subst e;rw[if_pos Z,if_pos O];rcases i rfl with g|g
    ·rw[g];exact l
    rw[g];exact .any _ .nil
   rw[if_neg e,f (λh=>e h.symm)];exact b
  have c:sset sl d v=sl:=by
   unfold sset;cases j:Nat.blt d sl.n with
   |true=>exact absurd (cU j) hd
   |false=>rfl
  rw[c];by_cases e:d=s
  ·subst e;rw[if_pos Z,if_neg O];rw[R0 O]at b;exact b
  rw[if_neg e];exact b
def SimA.slots{E:EE}{a:Act}(h:SimA P E sl a)(b:Gl P E):SlotV P E (λs=>a.tmps.getD s undef) sl:=⟨h.slot,b⟩
noncomputable def t8 (ops:List Oper) (sl:Slo) (g:Option (Nat×Bool)):Option Bool:=Option.rec (some true) (λp=>cP (jT ops p.1) λo=>cP o.dst λd=>match jq sl d with| .bool b=>some (cond b p.2 (!p.2))| .tuple _=>some false|_=>none) g
def C4{E:EE}{a:Act}{ops:List Oper}{b:Bool}(h:∀s,VL P E [a.tmps.getD s undef] [jq sl s])(f:t8 ops sl o.guard=some b):Region.wanted o (yielded ops.toArray a.tmps)=b:=by
 unfold t8 at f;unfold Region.wanted;cases l:o.guard with
 |none=>rw[l]at f;cases f;rfl
 |some p=>
  obtain⟨j,want⟩:=p;rw[l]at f;obtain⟨q,i,f⟩:=aS (o:=jT ops j) f;obtain⟨d,k,f⟩:=aS f;rw[ia]at i;have e:=h d;split at f
  ·next c hc=>
   rw[hc]at e;have e:=e.bool;have m:a.tmps[d]? =some (.bool c):=by
    rw[QG]at e;cases g:a.tmps[d]? with
    |none=>rw[g]at e;cases e
    |some x=>rw[g]at e;exact congrArg some e
   have g:yielded ops.toArray a.tmps j=some c:=by
    unfold yielded;simp[i,k,m]
   simp only[g];cases f;cases c<;>cases want<;>rfl
  ·next vs hc=>
   rw[hc]at e;obtain⟨xs,e,_⟩:=e.tupl;cases f;have g:yielded ops.toArray a.tmps j=none:=by
    unfold yielded;simp only[Ry,i,k,QY];rw[QG]at e;cases n:a.tmps[d]? with
    |none=>rfl
    |some x=>
     rw[n]at e;have e:x=.tuple xs:=e;rw[e]
   simp only[g];rfl
  cases f
def Ih{o:Oper}{a:Act}{w:World}{K g:Act->World->Prop}{Q i:Exit->Act->World->Prop}(h:∀a w,K a w->g a w)(f:∀e a w,Q e a w->i e a w)(b:o.wp P a w K Q):o.wp P a w g i:=by
 unfold Oper.wp at*;generalize (execOp a.eval o).run P w=r at*;cases r with
 |ok n w'=>
  cases n<;>simp only[Oper.upon]at b⊢<;>
   first
    |exact h _ _ b
    |exact Calls.mono b (λe k d=>by
      cases e with
      |returned v=>exact h _ _ d
      |panicked c=>exact f _ _ _ d
      |outgrown=>obtain⟨a,w,j⟩:=d;exact⟨a,w,f _ _ _ j⟩)
    |exact Rows.mono b (λ_ _ d=>h _ _ d)
 |halt x w'=>cases x<;>simp only[Oper.upon]at b⊢<;>first|exact f _ _ _ b|exact b
def kZ{ops:Array Oper}{Q c:Exit->Act->World->Prop}(b:∀e a w,Q e a w->c e a w):∀{l:List Oper} {a:Act} {w:World},wpList P ops Q l a w->wpList P ops c l a w
 |[],_,_,h=>b _ _ _ h
 |o::l,a,w,h=>by
  unfold wpList at h⊢;split
  ·next hw=>
   rw[if_pos hw]at h;rcases h with h|⟨f,d,w',g⟩
   ·exact .inl (Ih (λa w h=>kZ b h) b h)
   exact .inr ⟨f,d,w',b _ _ _ g⟩
  next hw=>
  rw[if_neg hw]at h;exact kZ b h
noncomputable def Ii (P:Program) (call:fC) (all:List Oper) (ops:List Oper):Slo->AH->Option (Slo×AH):=
 List.rec (λsl A=>some (sl,A)) (λo _ ih sl A=>cP (t8 all sl o.guard) λb=>cond b (cP (jr P call sl A o) λr=>ih (Option.rec sl (λd=>sset sl d r.1) o.dst) r.2) (ih (Option.rec sl (λd=>sset sl d undef) o.dst) A)) ops
def AftC(P:Program)(base:Nat)(E:EE)(w:World)(x:Exit)(sl':Slo)(A':AH)(e:Exit)(a':Act)(w':World):Prop:=e=x/\∃E',RelA P E' A' base w'/\SimA P E' sl' a'/\Fr E E' w w'
def AftC.step{E E':EE}{w w':World}{x:Exit}{sl':Slo}{c:AH}(k:Fr E E' w w'){e:Exit}{d:Act}{a:World}(h:AftC P base E' w' x sl' c e d a):AftC P base E w x sl' c e d a:=by
 obtain⟨f,b,g,i,j⟩:=h;exact⟨f,b,g,i,k.trans j⟩
def tw(g:gb P base call)(all:List Oper):∀(ops:List Oper) (sl:Slo) (A:AH) (sl':Slo) (d:AH),Ii P call all ops sl A=some (sl',d)->∀(E:EE) (w:World) (a:Act),RelA P E A base w->Gl P E->SimA P E sl a->wpList P all.toArray (AftC P base E w .normal sl' d) ops a w
 |[],sl,A,sl',d,c,E,w,a,hR,hG,hS=>by
  cases c;exact⟨Z,E,hR,hS,.refl _ _⟩
 |o::ops,sl,A,sl',d,c,E,w,a,hR,hG,hS=>by
  obtain⟨b,p,c⟩:=aS (o:=t8 all sl o.guard) c;have q:=C4 (o:=o) hS.slot p;unfold wpList;rw[q];cases b with
  |true=>
   obtain⟨⟨v,i⟩,j,c⟩:=aS (o:=jr P call sl A o) c;rw[if_pos Z];refine .inl ?_;have k:=(C3 (o:=o) g v i j E w _ hR (hS.slots hG)).wp (Q:=AftC P base E w .normal sl' d);refine Oper.wp_mono ?_ k;rintro r w' ⟨u,rfl,E',l,m,f⟩;have n:=tw g all ops _ i sl' d c E' w' (a.put o.dst u) l (hG.le f.le) ((hS.mono f.le).put m o.dst);exact kZ (λe a w h=>h.step f) n
  |false=>
   rw[if_neg F];exact tw g all ops _ A sl' d c E w _ hR hG (hS.put wW o.dst)
end
abbrev wX:=Option (Exit×Slo×AH)
abbrev C5:=fC->List Oper->Slo->AH->Option (Slo×AH)
def Ij(P:Program)(base:Nat)(fc:C5):Prop:=∀call,gb P base call->∀ops sl A sl' A',fc call ops sl A=some (sl',A')->∀id E w a,RelA P E A base w->Gl P E->SimA P E sl a->(Code.region id ops.toArray true).wp P (AftC P base E w .normal sl' A') a w
noncomputable def L3 (ev:Slo->AH->wX) (m:Nat):Slo->AH->wX:=Nat.rec (λ_ _=>none) (λ_ ih sl A=>cP (ev sl A) λr=>match r.1 with| .normal=>ih r.2.1 r.2.2|_=>some r) m
noncomputable def EL (args:List Value):Nat->List Value:=List.rec (λn=>Nat.rec [] (λ_ ih=>undef::ih) n) (λa _ ih n=>a::ih (n-1)) args
def L4:∀n:Nat,Nat.rec (motive:=λ_=>List Value) [] (λ_ a=>undef::a) n=List.replicate n undef
 |0=>rfl
 |n+1=>congrArg (undef:: ·) (L4 n)
def wY:∀(args:List Value) (n:Nat),args.length<=n->EL args n=args++List.replicate (n-args.length) undef
 |[],n,_=>L4 n
 |a::args,n,h=>by
  simp only[Qn]at h;have:=wY args (n-1) O;show a::EL args (n-1)=_
  rw[this,Qn,show n-1-args.length=n-(args.length+1) by omega];rfl
noncomputable def Ik (P:Program) (A:AH) (sl:Slo) (l:List ResultVar):Option (List Value):=List.rec (some []) (λx _ ih=>cP (match x with| .tmp t=>some (jq sl t)| .cell a t=>kX P A t (jq sl a)) λv=>cP ih λvs=>some (v::vs)) l
noncomputable def KR (vs:List Value):Value:=match vs with|[v]=>v|vs=>.tuple vs.toArray
noncomputable def C6 (P:Program) (ev:Code->Slo->AH->wX) (f:FuncId) (args:List Value) (A:AH):Rs:=cP (P.funcs[f]?) λfn=>cP fn.body λc=>cond (Nat.ble args.length fn.ntmps) (cP (ev c (KA (EL args fn.ntmps) fn.ntmps) A) λr=>match r.1 with
 | .normal=>cP (Ik P r.2.2 r.2.1 fn.results.toList) λvs=>some (KR vs,r.2.2)
 | .ret=>cP (Ik P r.2.2 r.2.1 fn.results.toList) λvs=>some (KR vs,r.2.2)
 |_=>none) none
noncomputable def uX (P:Program) (ora:fC) (ev:Code->Slo->AH->wX) (f:FuncId) (args:List Value) (A:AH):Rs:=Option.rec (C6 P ev f args A) (λr=>some r) (ora f args A)
noncomputable def KT (P:Program) (ora:fC) (fc:C5) (n:Nat):Code->Slo->AH->wX:=
 Nat.rec (λ_ _ _=>none) (λ_ ih c sl A=>match c with
  | .skip=>some (.normal,sl,A)
  | .label _=>some (.normal,sl,A)
  | .region _ ops d=>cond d (cP (fc (uX P ora ih) ops.toList sl A) λr=>some (.normal,r.1,r.2)) (cP (Ii P (uX P ora ih) ops.toList ops.toList sl A) λr=>some (.normal,r.1,r.2))
  | .seq a b=>cP (ih a sl A) λr=>match r.1 with| .normal=>ih b r.2.1 r.2.2|_=>some r
  | .cond x a b=>match de P sl x with| .bool true=>ih a sl A| .bool false=>ih b sl A|_=>none
  | .block id b=>cP (ih b sl A) λr=>match r.1 with| .exit i=>cond (Nat.beq i id) (some (.normal,r.2.1,r.2.2)) (some r)|_=>some r
  | .loop b=>L3 (ih b) 100000 sl A
  | .exit i=>some (.exit i,sl,A)
  | .ret=>some (.ret,sl,A)
  | .scope b=>cP (ih b sl A) λr=>match r.1 with| .goto _=>none|_=>some r
  |_=>none) n
section
variable {P:Program} {base:Nat} {ora:fC} {fc:C5}
def Bj(P:Program)(base:Nat)(ev:Code->Slo->AH->wX):Prop:=∀c sl A x sl' A',ev c sl A=some (x,sl',A')->∀E w a,RelA P E A base w->Gl P E->SimA P E sl a->c.wp P (AftC P base E w x sl' A') a w
def wZ(P:Program):Prop:=∀(f:FuncId) (fn:Func),P.funcs[f]? =some fn->(fn.name== "runtime.NumGoroutine")=false
def NT(a:Act):ResultVar->Sem Value
 | .tmp t=>pure (a.tmps.getD t undef)
 | .cell b t=>do loadVar t (<-asAddr (a.tmps.getD b undef))
noncomputable def PY (P:Program) (A:AH) (sl:Slo):ResultVar->Option Value
 | .tmp t=>some (jq sl t)
 | .cell a t=>kX P A t (jq sl a)
def KU{E:EE}{A:AH}{w:World}{a:Act}{sl:Slo}(j:RelA P E A base w)(f:SimA P E sl a):∀{x:ResultVar} {v:Value},PY P A sl x=some v->∃u,(NT a x).run P w=.ok u w/\VL P E [u] [v]
 | .tmp t,v,h=>by
  cases h;exact⟨_,Z,f.slot t⟩
 | .cell b t,v,d=>by
  have e:=f.slot b;have d:kX P A t (jq sl b)=some v:=d;obtain⟨y,g,i⟩:=uS j e d;refine⟨y,?_,i⟩;rw[<-g];unfold kX at d;split at d
  ·next n c hc=>
   rw[hc]at e;obtain⟨_,_,_,k⟩:=e.pointer;show((asAddr (a.tmps.getD b undef)).bind λx=>loadVar t x).run P w=(Instr.loadAt t (a.tmps.getD b undef)).run P w
   rw[k];rfl
  cases d
def zi{E:EE}{A:AH}{w:World}{a:Act}{sl:Slo}(c:RelA P E A base w)(d:SimA P E sl a):∀{xs:List ResultVar} {vs:List Value},Ik P A sl xs=some vs->∃us,(xs.mapM (m:=Sem) (NT a)).run P w=.ok us w/\VL P E us vs
 |[],vs,b=>by
  cases b;exact⟨[],Z,.nil⟩
 |x::xs,vs,b=>by
  obtain⟨v,e,b⟩:=aS (o:=match x with| .tmp t=>some (jq sl t)| .cell a t=>kX P A t (jq sl a)) b;obtain⟨k,f,b⟩:=aS (o:=Ik P A sl xs) b;cases b;obtain⟨us,g,h⟩:=zi c d f;obtain⟨u,i,j⟩:=KU c d (x:=x) (v:=v) (by rw[<-e];cases x<;>rfl);refine⟨u::us,?_,j.cons h⟩;rw[SM,Sem.run_bind,i,Result.andThen_ok,Sem.run_bind,g,Result.andThen_ok];rfl
def qg{c:Code}{Q b:Exit->Act->World->Prop}(d:∀e a w,Q e a w->b e a w):∀{n:Nat} {a:Act} {w:World},Code.rounds P c Q n a w->Code.rounds P c b n a w
 |0,_,_,h=>h
 |n+1,a,w,h=>by
  rw[rounds_succ]at h⊢;refine wp_mono h ?_;intro e a w h;cases e with
  |normal=>exact qg d h
  |_=>exact d _ _ _ h
def Il{E:EE}:∀{us vs:List Value},VL P E us vs->VL P E [if h:us.toArray.size=1 then us.toArray[0]else .tuple us.toArray] [KR vs]
 |[],[],_=>.tup [] [] .nil .nil
 |[u],[v],h=>h
 |u::u'::us,v::v'::vs,h=>by
  rw[dif_neg F];exact .tup _ _ h .nil
 |[],_::_,h=>by cases h
 |_::_,[],h=>by cases h
 |[_],_::_::_,h=>by cases h.tail
 |_::_::_,[_],h=>by cases h.tail
def tz(N:wZ P){ev:Code->Slo->AH->wX}(q:Bj P base ev):gb P base (C6 P ev):=by
 intro f args A v z i;unfold C6 at i;obtain⟨b,t,i⟩:=aS i;obtain⟨c,B,i⟩:=aS i;obtain⟨o,i⟩:=aW i;have o:args.length<=b.ntmps:=by simpa using o
 obtain⟨⟨x,sl',p⟩,G,i⟩:=aS i;refine⟨⟨b,t,N f b t,by rw[B];rfl⟩,λE w vs Q M C=>?_⟩;have j:=C.length;have R:SimA P E (KA (EL args b.ntmps) b.ntmps) {tmps:=vs.toArray++Array.replicate (b.ntmps-vs.toArray.size) undef,defers:=[]}:=by
  have m:(EL args b.ntmps).length=b.ntmps:=by rw[wY args _ o];simp;omega
  refine⟨by show _=b.ntmps;simp[j];omega,λd hd=>(Ba _ _ d (by rw[m];omega) (by rw[m];exact hd)).1,λs=>?_,Z⟩;rcases Hh (EL args b.ntmps) b.ntmps s with l|l
  rotate_left
  ·rw[l];exact .any _ .nil
  rw[l,wY args _ o,iA,QG,Qp];have F:(vs.toArray++Array.replicate (b.ntmps-vs.toArray.size) undef)[s]? =(vs++List.replicate (b.ntmps-vs.length) undef)[s]? :=by
   rw[<-QO];simp
  rw[F];by_cases T:s<vs.length
  ·rw[Qv T,Qv O];obtain⟨u,k,n⟩:=C.get s args[s] (Qj O);rw[k,Qj O];exact n
  rw[Qx O,Qx O,j];cases k:(List.replicate (b.ntmps-args.length) undef)[s-args.length]? with
  |none=>exact .any _ .nil
  |some u=>
   have:=List.eq_of_mem_replicate (Qo k);subst this;exact wW
 refine calls_of_wp t B (wp_mono (q c _ A x sl' p G E w _ Q M R) ?_);rintro e a w' ⟨rfl,E',k,n,H⟩;have key:∀r,cP (Ik P p sl' b.results.toList) (λvs=>some (KR vs,p))=some r->r=(v,z)->a.defers=[]/\∃u,(results b a.tmps).run P w'=.ok u w'/\∃D,Ending.returned u=.returned D/\Aft P E z base w v D w':=λr S i=>by
  subst i;obtain⟨U,I,J⟩:=aS S;cases J;obtain⟨us,K,L⟩:=zi k n I;refine⟨n.dfr,if h:us.toArray.size=1 then us.toArray[0]else .tuple us.toArray,?_,_,Z,E',k,Il L,H⟩;unfold results;have y:∀g:ResultVar->Sem Value,(∀x,g x=NT a x)->(b.results.toList.mapM g).run P w'=.ok us w':=λg l=>by
   rw[funext l];exact K
  rw[Sem.run_bind,RD,Sem.run_map,y _ λx=>by cases x<;>rfl];rfl
 cases e with
 |normal=>exact key _ i Z
 |ret=>exact key _ i Z
 |_=>cases i
def Bk(d:wZ P)(e:gb P base ora){ev:Code->Slo->AH->wX}(b:Bj P base ev):gb P base (uX P ora ev):=by
 intro f args A v c a;unfold uX at a;cases h:ora f args A with
 |none=>rw[h]at a;exact tz d b f args A v c a
 |some r=>
  rw[h]at a;cases a;exact e f args A v c h
def tA{b:Code}{ev:Slo->AH->wX}(f:∀sl A x sl' c,ev sl A=some (x,sl',c)->∀E w a,RelA P E A base w->Gl P E->SimA P E sl a->b.wp P (AftC P base E w x sl' c) a w):∀(m:Nat) (sl:Slo) (A:AH) (x:Exit) (sl':Slo) (c:AH),L3 ev m sl A=some (x,sl',c)->∀E w a,RelA P E A base w->Gl P E->SimA P E sl a->Code.rounds P b (AftC P base E w x sl' c) m a w
 |0,_,_,_,_,_,d,_,_,_,_,_,_=>by cases d
 |m+1,sl,A,x,sl',c,d,E,w,a,hR,hG,hS=>by
  obtain⟨⟨q,g,j⟩,p,d⟩:=aS (o:=ev sl A) d;rw[rounds_succ];refine wp_mono (f sl A q g j p E w a hR hG hS) ?_;rintro e n w' ⟨rfl,E',k,l,i⟩;cases e with
  |normal=>
   have:=tA f m g j x sl' c d E' w' n k (hG.le i.le) l;exact qg (λe a w h=>h.step i) this
  |_=>
   cases d;exact⟨Z,E',k,l,i⟩
def zj(H:wZ P)(J:gb P base ora)(hd:Ij P base fc):∀n,Bj P base (KT P ora fc n)
 |0=>λ_ _ _ _ _ _ b=>by cases b
 |n+1=>by
  have z:=zj H J hd n;have I:=Bk H J z;intro c sl A x sl' q b E w a j k g;cases c with
  |skip=>
   cases b;exact wp_skip ⟨Z,E,j,g,.refl _ _⟩
  |label l=>
   cases b;exact wp_label ⟨Z,E,j,g,.refl _ _⟩
  |region id ops d=>
   cases d with
   |true=>
    obtain⟨⟨s,B⟩,m,b⟩:=aS (o:=fc (uX P ora (KT P ora fc n)) ops.toList sl A) b;cases b;have:=hd _ I ops.toList sl A s B m id E w a j k g;simpa using this
   |false=>
    obtain⟨⟨s,B⟩,m,b⟩:=aS (o:=Ii P (uX P ora (KT P ora fc n)) ops.toList ops.toList sl A) b;cases b;refine wp_region_list ?_;have:=tw I ops.toList ops.toList sl A s B m E w a j k g;simpa using this
  |seq a1 b1=>
   obtain⟨⟨C,f,r⟩,m,b⟩:=aS (o:=KT P ora fc n a1 sl A) b;refine wp_seq (wp_mono (z a1 sl A C f r m E w a j k g) ?_);rintro e G w' ⟨rfl,E',u,v,p⟩;cases e with
   |normal=>exact wp_mono (z b1 f r x sl' q b E' w' G u (k.le p.le) v) λe a w h=>h.step p
   |_=>
    cases b;exact⟨Z,E',u,v,p⟩
  |cond y a1 b1=>
   have F:=(g.slots k).at y;have b:(match de P sl y with| .bool true=>KT P ora fc n a1 sl A| .bool false=>KT P ora fc n b1 sl A|_=>none)=some (x,sl',q):=b;split at b
   ·next h=>
    rw[h]at F;exact wp_cond (t:=true) (by rw[wI];exact F.bool) (z a1 sl A x sl' q b E w a j k g)
   ·next h=>
    rw[h]at F;exact wp_cond (t:=false) (by rw[wI];exact F.bool) (z b1 sl A x sl' q b E w a j k g)
   cases b
  |block id b1=>
   obtain⟨⟨C,f,r⟩,m,b⟩:=aS (o:=KT P ora fc n b1 sl A) b;refine wp_block (wp_mono (z b1 sl A C f r m E w a j k g) ?_);rintro e G w' ⟨rfl,E',u,v,p⟩;cases e with
   |exit i=>
    have b:cond (Nat.beq i id) (some (Exit.normal,f,r)) (some (Exit.exit i,f,r))=some (x,sl',q):=b;show if i=id then _ else _
    cases D:Nat.beq i id with
    |true=>
     rw[D]at b;cases b;rw[if_pos (Ql D)];exact⟨Z,E',u,v,p⟩
    |false=>
     rw[D]at b;cases b;rw[if_neg (λe=>by subst e;simp at D)];exact⟨Z,E',u,v,p⟩
   |_=>
    cases b;exact⟨Z,E',u,v,p⟩
  |loop b1=>exact wp_loop_rounds 100000 (tA (λsl A x sl' q h=>z b1 sl A x sl' q h) 100000 sl A x sl' q b E w a j k g)
  |exit i=>
   cases b;exact wp_exit ⟨Z,E,j,g,.refl _ _⟩
  |ret=>
   cases b;exact wp_ret ⟨Z,E,j,g,.refl _ _⟩
  |scope b1=>
   obtain⟨⟨C,f,r⟩,m,b⟩:=aS (o:=KT P ora fc n b1 sl A) b;refine wp_scope_straight (wp_mono (z b1 sl A C f r m E w a j k g) ?_);rintro e G w' ⟨rfl,E',u,v,p⟩;cases e with
   |goto _=>cases b
   |_=>
    cases b;exact⟨Z,E',u,v,p⟩
  |_=>cases b
end
