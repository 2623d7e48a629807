import Derived.Test.YtfoejfohbkmmeaaGreatDoorP41
import Derived.Test.YtfoejfohbkmmeaaGreatDoorP00
import Derived.Test.YtfoejfohbkmmeaaGreatDoorP06
import Derived.Test.YtfoejfohbkmmeaaGreatDoorP22
import Derived.Test.YtfoejfohbkmmeaaGreatDoorP39
import Derived.Test.YtfoejfohbkmmeaaGreatDoorP18
import Derived.Test.YtfoejfohbkmmeaaGreatDoorP40
import Derived.Test.YtfoejfohbkmmeaaGreatDoorP15
import Derived.Test.YtfoejfohbkmmeaaGreatDoorP35
import Derived.Test.YtfoejfohbkmmeaaGreatDoorP36
import Derived.Test.YtfoejfohbkmmeaaGreatDoorP01
set_option maxRecDepth 100000
set_option maxHeartbeats 4000000
namespace Go.Proofs.YtfoejfohbkmmeaaGreatDoor
open Go.RowKit
open Lib renaming hid→J
theorem zy(r:Rel)(I:FitR r)(G:∀t∈r.tups,TxT t)(y:A9 r)(g:bw r=0):CtZ 13 [r.tree] (fC r):=by
 refine CtZ.of (n:=61) Tryz.func13 Z Z Z Z Z fun w0 G0=>?_
 refine ch<|BWP.of<|ae<|aa 1 Z<|af (t:=.sl []) Z Z Z (cz (.inr Z) dk)<|ag<|ch<|BWP.of<|ab<|ae<|aa 1 Z<|af Z Z Z (ak Z (lY r I y) Z Z)<|af (t:=bT ((bw r) !=0)) Z Z Z (ai Z Z Z Zy)<|ag<|aF Z (fun q=>?_) (fun q=>?_)
 ·exact absurd g (by simpa using q)
 have g:bw r=0:=by simpa using q
 have L:=lX g;refine am<|ch<|BWP.of<|aj 1 Z<|ch<|BWP.of<|ab<|aj 1 Z<|aB<|aR (fun D E=>∃(i:Nat) (d:List UInt8),(i<=r.tups.length/\d.length<=i*20000/\d++(r.tups.drop i).flatMap (lk r.sch.cert)=zf r)/\D=r.tups.length-i/\E=⟨61,[(1,.box 0 0),(3,sT (bs d)),(4,nI i)],[(30,(aV r))],[]⟩) 1 0 ⟨0,[],⟨by omega,by simp,Z⟩,Z,Z⟩ .rf ?_;rintro D E ⟨i,d,⟨R,K,h⟩,rfl,rfl⟩;refine ab<|ab<|ae<|aa 3 Z<|af (t:=nI r.tups.length) Z Z Z (ah (aZ Z aN Z) (by simp only[L5]))<|af (t:=bT (decide (i<r.tups.length))) Z Z Z (ah (ai Z Z Z Zy) (ar (gA i r.tups.length)))<|ag<|aD Z (fun F=>?_) (fun F=>?_)
 ·obtain⟨t,k⟩:∃t,r.tups[i]? =some t:=⟨_,L3 F⟩;have l:=L7 k;have o:=G t l;have N:=mK g t l;rw[tB k]at h;refine am<|ab<|aB<|ab<|ab<|aj 1 Z<|aB<|aR (fun D E=>∃(j:Nat) (a:List UInt8),(j<=t.vals.length/\a.length<=d.length+j*131/\a++be j (t.vals.drop j)=d++be 0 t.vals)/\D=t.vals.length-j/\E=⟨61,[(1,.box 0 0),(3,sT (bs a)),(4,nI i),(5,nI j)],[(30,(aV r))],[]⟩) 1 0 ⟨0,d,⟨by omega,by simp,Z⟩,Z,Z⟩ .rf ?_;rintro D E ⟨j,a,⟨P,M,b⟩,rfl,rfl⟩;refine ab<|ab<|ae<|aa 4 Z<|af (t:=.ref (bV t)) Z Z Z (aM (Tp.tree t) Z aN Z Z Z (aS (f:=Tp.tree) k) (bS _) Z)<|aa 2 Z<|af (t:=nI t.vals.length) Z Z Z (ah (aZ Z bq Z) (by simp only[L5]))<|af (t:=bT (decide (j<t.vals.length))) Z Z Z (ah (ai Z Z Z Zy) (ar (gA j t.vals.length)))<|ag<|aD Z (fun B=>?_) (fun B=>?_)
  ·obtain⟨v,m⟩:∃v,t.vals[j]? =some v:=⟨_,L3 B⟩;have A:=L7 m;have z:=o.rng v A;have H:=tC v z;rw[rb m]at b;refine am<|ab<|aB<|ab<|ab<|ae<|aa 1 Z<|af (t:=bT (decide (0<j))) Z Z Z (ah (ai Z Z Z Zy) (ar (oF j 0)))<|ag<|aD Z (fun x=>?_) (fun x=>?_)
   ·rw[if_pos x]at b;refine ae<|aa 1 Z ?_;have c:(bs a).size=a.length:=eV _;refine af (t:=sT (bs (a++[44]))) Z Z Z (ah (ai Z Z Z (fun _=>ft (by show _+1<=_;omega))) (gd (oD a [44])))<|aa 1 Z<|ag<|ae<|aa 4 Z<|af (t:=.ref (bV t)) Z Z Z (aM (Tp.tree t) Z aN Z Z Z (aS (f:=Tp.tree) k) (bS _) Z)<|aa 3 Z<|af (t:=.ref [iT v.t,iT v.n,sT v.s]) Z Z Z (aM (V.tree v) Z bq Z Z Z (aS (f:=V.tree) m) (ie _) Z)<|aa 1 Z<|af Z Z Z (ak Z (zv v z (y t l v A)) Z Z) ?_;have c:(bs (a++[44])).size=(a++[44]).length:=eV _;simp only[Mb,L9,Mg]at c;refine af (t:=sT (bs ((a++[44])++v.fmt))) Z Z Z (ah (ai Z Z Z (fun _=>ft (by show _+v.fmt.length<=_;omega))) (gd (oD (a++[44]) v.fmt)))<|aa 1 Z<|ag<|ae<|aa 1 Z<|af (t:=nI (j+1)) Z Z Z (ah (ai Z Z Z Zy) (bi (by omega)))<|aa 1 Z<|ag<|⟨_,_,?_,⟨j+1,((a++[44])++v.fmt),?_,Z,Z⟩,.rf⟩
    ·omega
    refine⟨by omega,?_,?_⟩
    ·simp only[Mb,L9,Mg];omega
    rw[<-b];simp
   rw[if_neg x,MI]at b;refine am<|ae<|aa 4 Z<|af (t:=.ref (bV t)) Z Z Z (aM (Tp.tree t) Z aN Z Z Z (aS (f:=Tp.tree) k) (bS _) Z)<|aa 3 Z<|af (t:=.ref [iT v.t,iT v.n,sT v.s]) Z Z Z (aM (V.tree v) Z bq Z Z Z (aS (f:=V.tree) m) (ie _) Z)<|aa 1 Z<|af Z Z Z (ak Z (zv v z (y t l v A)) Z Z) ?_;have c:(bs a).size=a.length:=eV _;refine af (t:=sT (bs (a++v.fmt))) Z Z Z (ah (ai Z Z Z (fun _=>ft (by show _+v.fmt.length<=_;omega))) (gd (oD a v.fmt)))<|aa 1 Z<|ag<|ae<|aa 1 Z<|af (t:=nI (j+1)) Z Z Z (ah (ai Z Z Z Zy) (bi (by omega)))<|aa 1 Z<|ag<|⟨_,_,?_,⟨j+1,(a++v.fmt),?_,Z,Z⟩,.rf⟩
   ·omega
   refine⟨by omega,?_,?_⟩
   ·simp only[Mb,L9,Mg];omega
   rw[<-b];simp
  rw[Md (by omega:t.vals.length<=j),show be j []=[]from by cases j<;>rfl,Mq]at b;refine aT<|ab<|ab<|ae<|aa 3 Z<|af (t:=bT (!r.sch.cert)) Z Z Z (dm Z Z Zy)<|ag<|aF Z (fun u=>?_) (fun u=>?_)
  ·have w:r.sch.cert=false:=by simpa using u
   refine ae<|aa 1 Z ?_;have c:(bs a).size=a.length:=eV _;refine af (t:=sT (bs (a++[58]))) Z Z Z (ah (ai Z Z Z (fun _=>ft (by show _+1<=_;omega))) (gd (oD a [58])))<|aa 3 Z<|af (t:=.ref (bV t)) Z Z Z (aM (Tp.tree t) Z aN Z Z Z (aS (f:=Tp.tree) k) (bS _) Z)<|aa 2 Z<|af Z Z Z (ak Z (Bu t.prob (I.tup t l).1.p (by have:=o.num;omega) (by have:=o.den;omega)) Z Z) ?_;have c:(bs (a++[58])).size=(a++[58]).length:=eV _;simp only[Mb,L9,Mg]at c;refine af (t:=sT (bs ((a++[58])++(eG t.prob).data.toList))) Z Z Z (ah (ai Z Z Z (fun _=>ft (by have:=gJ o;omega))) (gd (IY (a++[58]) (eG t.prob))))<|aa 1 Z<|ag<|ae<|aa 1 Z ?_;have c:(bs ((a++[58])++(eG t.prob).data.toList)).size=((a++[58])++(eG t.prob).data.toList).length:=eV _;simp only[Mb,L9,Mg]at c;refine af (t:=sT (bs (((a++[58])++(eG t.prob).data.toList)++[10]))) Z Z Z (ah (ai Z Z Z (fun _=>ft (by have:=gJ o;have e:(eG t.prob).data.toList.length=(eG t.prob).size:=(by simp);(try simp only[e]at c);show _+1<=_;omega))) (gd (oD ((a++[58])++(eG t.prob).data.toList) [10])))<|aa 1 Z<|ag<|ae<|aa 1 Z<|af (t:=nI (i+1)) Z Z Z (ah (ai Z Z Z Zy) (bi (by omega)))<|aa 1 Z<|ag<|⟨_,_,?_,⟨i+1,(((a++[58])++(eG t.prob).data.toList)++[10]),?_,Z,Z⟩,.rf⟩
   ·omega
   refine⟨by omega,?_,?_⟩
   ·have:=gJ o;have e:(eG t.prob).data.toList.length=(eG t.prob).size:=by simp
    simp only[Mb,L9,Mg,e];omega
   rw[<-h];unfold lk;rw[w,b];simp
  have w:r.sch.cert=true:=by simpa using u
  refine am<|ae<|aa 1 Z ?_;have c:(bs a).size=a.length:=eV _;refine af (t:=sT (bs (a++[10]))) Z Z Z (ah (ai Z Z Z (fun _=>ft (by have:=gJ o;have e:(eG t.prob).data.toList.length=(eG t.prob).size:=(by simp);(try simp only[e]at c);show _+1<=_;omega))) (gd (oD a [10])))<|aa 1 Z<|ag<|ae<|aa 1 Z<|af (t:=nI (i+1)) Z Z Z (ah (ai Z Z Z Zy) (bi (by omega)))<|aa 1 Z<|ag<|⟨_,_,?_,⟨i+1,(a++[10]),?_,Z,Z⟩,.rf⟩
  ·omega
  refine⟨by omega,?_,?_⟩
  ·have:=gJ o;have e:(eG t.prob).data.toList.length=(eG t.prob).size:=by simp
   simp only[Mb,L9,Mg,e];omega
  rw[<-h];unfold lk;rw[w,b];simp
 refine aT<|ch ?_;have C:d=fC r:=by unfold fC;rw[if_pos g,<-h,Md (by omega)];simp
 refine mu [(3,sT (bs d))] (.cons Z Z .nil)<|ee<|bI (t:=sT (bs d)) Z Z Z (au Z Z)<|Bx (s:=bs d) Z Z Z Z Z (by rw[eV];omega) (fun v Q J O=>?_);refine bI (t:=.sc v) Z Z Z (bp Z Z)<|fD<|Hv<|⟨Z,v,Z,(by rw[de,C]at J;exact J),O⟩
section
variable {S:St} {o:Oper}
theorem tU{t e:TypeId}{len m:Nat}{parts:Array (Nat×Operand)}{k:List Value}{qs:List (Nat×Tree)}{es:List Tree}(K:o.op=.buildSlice t len parts)(W:gN Tryz.prog t=some (e,m))(c:gz Tryz.prog e=some k)(C:k.length=m)(R:0<len*m)(P:len*m<=16777216)
  (H:parts.toList.map (fun p=>(p.1,S.ev p.2))=qs) (g:(qs.all fun q=>q.2.oneA)=true) (s:(flat es).all Tree.plain0=true) (V:nC (fun i=>some (i*m,m)) (((List.range (len*m)).map fun i=>k[i%m]!).map dl) qs=some (flat es)) (J:es.length=len):OpOK o S (.tl es):=by
 intro w0 G0 bx rv w T O U;have G:=ml (S:=S) U parts.toList (fun p M=>by rw[K];simp only[Op.operands,NA];exact⟨p,M,Z⟩);obtain⟨D,i,r,rfl⟩:=jp W;unfold gz at c;simp only[r,M9,Nb]at c;obtain⟨z,c,rfl⟩:=c;rw[H]at G;have n:z.cells.size=i.size:=by simpa using C
 have b:((Array.range (len*i.size)).map fun x=>z.cells[x%z.cells.size]!).toList=(List.range (len*i.size)).map fun x=>z.cells.toList[x%i.size]! :=by
  rw[n];simp only[OE,Ql];refine O3 fun a _=>?_
  rw[Pj,MO,Px,Nj]
 obtain⟨us,N,L⟩:=oJ (E:=en w G0 bx rv S.rs) (place:=fun x=>some (x*i.size,i.size)) (ps:=parts.toList.map fun p=>(p.1,dU T p.2)) (qs:=qs) (cells:=(Array.range (len*i.size)).map fun x=>z.cells[x%z.cells.size]!) (ts:=((List.range (len*i.size)).map fun x=>z.cells.toList[x%i.size]!).map dl) (by rw[<-H];simp) G g (.of (by rw[b];exact mQ _ _ _)) V;have d:(Instr.buildSlice t len (parts.map fun p=>(p.1,dU T p.2))).run Tryz.prog w=.ok (.slice (some ⟨w.heap.size,0,none⟩) len len) (w.alloc (.cells us e)):=by
  have A:(zeroValue e).run Tryz.prog w=.ok z w:=by simp[zeroValue,typeInfo,r,c]
  have l:(sizeOf e).run Tryz.prog w=.ok i.size w:=by simp[sizeOf,typeInfo,r]
  have F:Instr.fill (fun x=>some (x*i.size,i.size)) ((Array.range (len*i.size)).map fun x=>z.cells[x%z.cells.size]!) (parts.map fun p=>(p.1,dU T p.2)).toList=some us:=by
   rw[<-N];simp
  have X:¬2^24<len*i.size:=by omega
  have Y:¬len*i.size=0:=by omega
  simp only[Instr.buildSlice,Sem.run_bind,run_underlying D,Result.andThen_ok,l,gt_iff_lt,if_neg X,if_neg Y,A,Sem.run_pure,F,newRow,newObj];rfl
 have I:us.size=(flat es).length:=by have:=L.length;simpa using this
 have y:=fp w e us;have B:len<=9223372036854775807:=by
  have Q:0<i.size:=MS fun h=>by rw[h]at R;omega
  have:=PW len Q;omega
 have f:Below w.heap.size w (w.alloc (.cells us e)):=(Below.refl _ _).alloc (L4 _) _;refine aC (v:=.slice (some ⟨w.heap.size,0,none⟩) len len) (W':=w.alloc (.cells us e)) (by simp[execOp,K,d]) ⟨.pure (.tl _ len es J.symm (.sl w.heap.size 0 len len us.toList es (by simp[en]) (vU O _ (L4 _)) (fun j u D=>?_) J.symm (by omega) B ?_ .nil) .nil) .nil,f⟩
 ·rw[MT];show(w.alloc (.cells us e)).cell? _=_
  rw[y.cell];simpa using D
 have h3:PT w (GG G0 bx rv S.rs) us.toList (flat es):=L.plain0s s;exact h3.later f
theorem BA{x y:Operand}{t:TypeId}{e sz d:Nat}{xs a:List Tree}(q:o.op=.call {callee:=.builtin .append,args:=#[x,y],argTypes:=#[t,t]})(ht:kM Tryz.prog t=some (e,sz,d))(R:S.ev x=.tl xs)(hy:S.ev y=.sl a)(s:Sized sz xs)(C:Sized sz a)(h0:0<xs.length)(W:0<a.length)(h3:xs.length+a.length<=1000000)(N:d<=100000):OpOK o S (.sl (xs++a)):=by
 intro w0 G0 bx rv w T X L;have J:=(bL L R (by rw[q];simp[Op.operands,Call.operands])).isTl;have K:=(bL L hy (by rw[q];simp[Op.operands,Call.operands])).isSl;obtain⟨hu,⟨i,z,hi,Q,l,r,Z,a0⟩,M⟩:=oN ht;generalize p:dU T x=vx at J;generalize B:dU T y=vy at K;cases J with
 |tl A n es hn hp2 _=>
  subst hn;obtain⟨A1,c1,G,_,_,_,k1⟩:=hp2.slice;obtain⟨Y,o1,us,rfl,a1,_,m,k⟩:=k1 h0;injection G with G e2 e3
  subst G;obtain⟨A2,c2,rfl,_,_,_,k2⟩:=K.slice;obtain⟨V,U,vs,rfl,O,_,I,f⟩:=k2 W;have E:us.length=xs.length*i.size:=by rw[k.length,s.flat,l]
  have F:vs.length=a.length*i.size:=by rw[f.length,C.flat,l]
  have b:(xs.length+a.length)*i.bytes<=140737488355328:=by rw[r];exact Ma (NY h3 N) (by decide)
  have hr:=run_append_grow (P:=Tryz.prog) w t o.type e i z hu hi Q ⟨Y,o1,none⟩ xs.length xs.length us E (fun j u c=>by rw[Addr.add_mid];exact m j u c) ⟨V,U,none⟩ a.length c2 vs F (fun j u c=>by rw[Addr.add_mid];exact I j u c) (by omega) (by omega) (growslice_fits (by omega) b);have H:=grownCap_ge w (xs.length+a.length) xs.length e;have D:=grownCap_le_maxLen w (xs.length+a.length) xs.length e (by unfold maxLen;omega);have g:Below w.heap.size w (w.drew.alloc (.cells (us.toArray++vs.toArray++Builtin.zeroCells z.cells (grownCap w (xs.length+a.length) xs.length e-(xs.length+a.length))) e)):=((Below.refl _ _).drew).alloc (L4 _) _;have h:IsBlk (w.drew.alloc (.cells (us.toArray++vs.toArray++Builtin.zeroCells z.cells (grownCap w (xs.length+a.length) xs.length e-(xs.length+a.length))) e)) w.heap.size e (us.toArray++vs.toArray++Builtin.zeroCells z.cells (grownCap w (xs.length+a.length) xs.length e-(xs.length+a.length))):=fp w.drew e _;refine aC (v:=.slice (some ⟨w.heap.size,0,none⟩) (xs.length+a.length) (grownCap w (xs.length+a.length) xs.length e)) (W':=w.drew.alloc (.cells (us.toArray++vs.toArray++Builtin.zeroCells z.cells (grownCap w (xs.length+a.length) xs.length e-(xs.length+a.length))) e)) ?_ ⟨.pure (.sl w.heap.size 0 (grownCap w (xs.length+a.length) xs.length e) (xs.length+a.length) (us++vs) (xs++a) h.lt (vU X _ (L4 _)) (fun j u c=>?_) (by rw[Mb]) (by rw[Mb];exact H) (by unfold maxLen at D;omega) ?_ .nil) .nil,g⟩
  ·simp only[execOp,q,resolve,invoke,builtin,Sem.run_bind,Sem.run_pure,Result.andThen_ok,NP,M3,NV];rw[p,B,hr];rfl
  ·rw[MT];show(w.drew.alloc _).cell? _=_
   rw[h.cell,Od,<-c]
   ·simp
   have:=(L6.1 c).1;simpa using this
  rw[show flat (xs++a)=flat xs++flat a by simp[flat]];exact(k.append f).later g
end
section
variable {w0:World} {G0:Bse} {o:Oper} {S:St}
end
theorem xq(k:IntKind)(j:Nat)(h:j<=k.bits)(i:∀n:Int,0<=n->n<2^j->k.wrap n=n)(a b:Nat)(e:a<2^j)(g:b<2^j):bits .xor k a b=((a^^^b:Nat):Int):=by
 have f:2^j<=2^k.bits:=MR (by decide) h;have c:a%2^k.bits=a:=ND (Mj e f);have d:b%2^k.bits=b:=ND (Mj g f);simp only[bits,BitVec.ofInt_natCast,BitVec.toNat_xor,BitVec.toNat_ofNat,c,d];exact i _ (Int.natCast_nonneg _) (by exact_mod_cast Nat.xor_lt_two_pow e g)
theorem G8{x y:Operand}(a b:Nat)(c:a<256)(d:b<256)(w:World):(do eqGuard .xor 5 x y (.int .u8 (a:Nat)) (.int .u8 (b:Nat));binOp .xor 5 (.int .u8 (a:Nat)) (.int .u8 (b:Nat)):Sem Value).run Tryz.prog w=.ok (.int .u8 ((a^^^b:Nat):Int)) w:=by
 have key:=xq .u8 8 (by decide) (fun n e f=>by rw[PY];omega) a b c d;go_simp
section
variable {w0:World} {G0:Bse} {o:Oper} {S:St}
end
section
variable {w0:World} {G0:Bse} {o:Oper} {S:St}
end
structure Enc (r:Rel):Prop where
 valid:bw r=0
 fit:FitR r/\True
 rng:∀t∈r.tups,∀v∈t.vals,v.rng
theorem Eu{x y:Operand}(a b:Nat)(c:0<b)(w:World):(do eqGuard .rem 36 x y (.int .u64 (a:Nat)) (.int .u64 (b:Nat));binOp .rem 36 (.int .u64 (a:Nat)) (.int .u64 (b:Nat)):Sem Value).run Tryz.prog w=.ok (.int .u64 ((a%b:Nat):Int)) w:=by
 go_simp;rw[if_neg (by omega),Oe (by omega)]
def G9:List Sch:=j8++[gL]
def C0(z:Int):Sch:=G9.getD ((z%65536).toNat%5) gL
theorem Ev{x y:Operand}(a:Int)(w:World):(do eqGuard .and 3 x y (.int .i64 a) (.int .i64 1);binOp .and 3 (.int .i64 a) (.int .i64 1):Sem Value).run Tryz.prog w=.ok (.int .i64 (((a%2).toNat:Nat):Int)) w:=by
 have e:((a%2).toNat:Int)=a%2:=by omega
 have key:bits .and .i64 a 1=a%2:=yD a;rw[e];go_simp
theorem I7{Q:Exit->World->(Nat->Prop)->St->Prop}{w1:World}{G1:Nat->Prop}{S:St}{x y:Code}(J:World->(Nat->Prop)->St->Prop)(h:BWP x (Fb J Q) w1 G1 S)(k:∀b c d,J b c d->BWP y Q b c d):BWP (.seq x y) Q w1 G1 S:=
 ch fun a w i=>wp_mono (h a w i) fun e j w' ⟨b,c,S',f,g⟩=>⟨b,c,S',by
  cases e with
  |normal=>exact k _ _ _ f
  |_=>exact f,g⟩
theorem Sim.upd{w1 w W:World}{G0:Nat->Prop}{n g:Nat}{sl:List (Nat×Tree)}{a:Act}(k:Sim w1 (pln G0) ⟨n,sl,[],[]⟩ a w){D:List (Option Nat)}{us:List Value}(d:Below w.heap.size w W)(o:w.heap.size<=g){i:Nat}{t:Tree}(m:D.contains (some i)=false)(f:t.plain=true)(l:look sl i=t):FT (en W (pln fun b=>G0 b\/some g=some b) [] [] []) [(cj a.tmps (D.zip us)).getD i undef] [t]:=by
 rw[ez _ us _ i m];exact FT.gg ((k.slot l f).mono d.size fun b c j=>⟨d.block b c,fun h=>h.elim j fun e=>by injection e with e;omega⟩)
def LooksL(sl:List (Nat×Tree)):List (Nat×Tree)->Prop
 |[]=>True
 |(i,t)::l=>look sl i=t/\LooksL sl l
theorem pT{w1:World}{G1 G0:Nat->Prop}{n:Nat}{sl:List (Nat×Tree)}{a:Act}{w:World}(d:Sim w1 (pln G1) ⟨n,sl,[],[]⟩ a w)(c:∀b,¬G1 b->¬G0 b):∀{l:List (Nat×Tree)},LooksL sl l->(l.all fun p=>p.2.plain)=true->SlotL (en w (pln G0) [] [] []) (fun i=>a.tmps.getD i undef) l
 |[],_,_=>trivial
 |(i,t)::l,h,hp=>by
  rw[Ny,L8]at hp;exact⟨FT.gg ((d.slot h.1 hp.1).sub c),pT d c h.2 hp.2⟩
def PrJ(n:Nat)(w0:World)(G0:Nat->Prop)(B:Nat)(v:Value)(N:Nat)(L:List (Nat×Tree))(w2:World)(G2:Nat->Prop)(S2:St):Prop:=∃(X:List UInt8) (sl:List (Nat×Tree)),X.length=N/\RowZ w2 B v X/\Below w0.heap.size w0 w2/\G2=(fun b=>G0 b\/v.ownBlock=some b)/\S2=⟨n,sl,[],[]⟩/\look sl 19=.sc v/\LooksL sl L
theorem PrJ.back{n:Nat}{w0:World}{G0:Nat->Prop}{B:Nat}{v:Value}{N:Nat}{L:List (Nat×Tree)}{c:Code}{Q:Exit->World->(Nat->Prop)->St->Prop}(z:Env w0)(q:wk G0 w0)(E:w0.heap.size<=B)(r:(L.all fun p=>p.2.plain)=true)(h:∀X:List UInt8,X.length=N->BWP c Q w0 G0 ⟨n,(19,.sl (bm X))::L,[],[]⟩){o:World}{m:Nat->Prop}{l:St}(x:PrJ n w0 G0 B v N L o m l):BWP c Q o m l:=by
 obtain⟨X,sl,u,k,i,rfl,rfl,t,s⟩:=x;refine jQ fun a w f=>⟨w0,G0,⟨n,(19,.sl (bm X))::L,[],[]⟩,?_,h X u⟩
 obtain⟨_,_,d,_⟩:=f.facts;refine f.back z q (aE i d i.size) ⟨?_,pT f (fun b i h=>i (.inl h)) s r⟩;show FT _ [a.tmps.getD 19 undef] _
 rw[f.lit t];refine FT.gg ((k.later d).pt fun g A j=>?_);obtain⟨C,D,rfl,y,_⟩:=k.cells;have e:C=g:=by simpa[Value.ownBlock]using A
 have:=(q g j).1;omega
def LZ(r:Rel)(G:Nat->Prop)(B:Nat)(T:List UInt8):List (Value->World->Prop):=[fun v W=>PT W G [v] [r.tree],fun v W=>RowZ W B v T,fun v W=>PT W G [v] [r.tree],fun v W=>RowZ W B v T,fun v W=>RowZ W B v (T++T),fun v W=>RowZ W B v (T++T)]
theorem I8(r:Rel)(G:Nat->Prop)(B:Nat)(T:List UInt8)(W:World):Stab W (LZ r G B T):=
 .cons (fun _ _ _ _ h a=>h.later a)<|.cons (fun _ _ _ _ h a=>h.later a)<|.cons (fun _ _ _ _ h a=>h.later a)<|.cons (fun _ _ _ _ h a=>h.later a)<|.cons (fun _ _ _ _ h a=>h.later a)<|.cons (fun _ _ _ _ h a=>h.later a) .nil
theorem I9(r:Rel)(G:Nat->Prop)(B:Nat)(T:List UInt8):PureF (LZ r G B T) [false,false,false,false,false,false]:=.any<|.any<|.any<|.any<|.any<|.any .nil
section
variable {Q:Exit->World->(Nat->Prop)->St->Prop} {w1:World} {G1:Nat->Prop} {ops:Array Oper} {rest:List Oper} {o:Oper} {n d:Nat} {sl:List (Nat×Tree)}
theorem zz{ty:TypeId}{p q g j r c B m:Nat}{l:List UInt8}(ho:o.op=.store ty (.tmp p) (.tmp q))(hg:o.guard=none)(hd:o.dst=none)(hp:look sl p=.sc (.pointer (some ⟨g,j,none⟩)))(hq:look sl q=.sc (.int .u8 (c:Nat)))(hi:(Tryz.prog.info? ty).map (·.size)=some 1)
  (hz:RowZ w1 B (.slice (some ⟨g,0,none⟩) m r) l) (hj:j<l.length) (hc:c<256) (hG:G1 g) {J:World} (O:Env J) (G:J.heap.size<=B) (L:Below J.heap.size J w1)
  (k:∀U,RowZ U B (.slice (some ⟨g,0,none⟩) m r) (l.set j (UInt8.ofNat c))->Below B w1 U->BOps ops rest Q U G1 ⟨n,sl,[],[]⟩):BOps ops (o::rest) Q w1 G1 ⟨n,sl,[],[]⟩:=by
 refine eS hg fun a w d=>?_
 obtain⟨hE,K,hb,a9,a5,_⟩:=d.facts;obtain⟨g',a4,cur,N,e,W,f,D,X,Y,a0,S,P⟩:=hz.later hb;injection e with H e2 V
 injection H with H
 injection H with H
 subst H;have z:j<cur.size:=by omega
 have y:w.cell? ⟨g,j,none⟩=some cur[j]:=by simp[World.cell?,f,z]
 have E:=mv (w:=w) (o:=o) (T:=fun s=>a.tmps.getD s undef) ho (d.lit hp) (d.lit hq) hi Z y (D.free f z);have I:=setCell_eq_setRow w g j cur _ N (.int .u8 (c:Nat)) f;rw[I]at E;have hh:=setRow_heap w g cur (cur.setIfInBounds j (.int .u8 (c:Nat))) _ N f;have a1:=(MD.1 f).1;have F:Below B w (w.setRow g (cur.setIfInBounds j (.int .u8 (c:Nat)))):=⟨Z,Z,Z,by simp,fun k hk=>setRow_other w g k _ (by omega)⟩;have v:(cur.setIfInBounds j (.int .u8 (c:Nat))).toList.all bQ=true:=by
  rw[Nr,Mh];intro x hx;rcases Ok hx with h|h
  ·exact Mh.1 P x h
  rw[h];rfl
 have M:RowZ (w.setRow g (cur.setIfInBounds j (.int .u8 (c:Nat)))) B (.slice (some ⟨g,0,none⟩) m r) (l.set j (UInt8.ofNat c)):=by
  refine⟨g,r,_,N,by rw[MJ,e2],W,hh,by rw[Array.size_setIfInBounds];exact D,by rw[MJ,V];exact X,by rw[V];exact Y,by rw[Array.size_setIfInBounds,V];exact a0,?_,v⟩;rw[Nr,MJ,Pn,S];unfold bE;rw[Qn];show _=List.set _ _ (Value.int .u8 (((UInt8.ofNat c).toNat:Nat):Int))
  rw[PF,ND (show c<2^8 by omega)]
 obtain⟨g2,_,e4,a3,a2,_,_,_,_⟩:=hz.cells;have hB:B<=w1.heap.size:=by omega
 have R:wk G1 (w.setRow g (cur.setIfInBounds j (.int .u8 (c:Nat)))):=fun b C=>by
  obtain⟨h3,h4⟩:=K b C;refine⟨by simpa using h3,fun i u hu=>?_⟩;by_cases t:b=g
  ·subst t;exact cH hh v i u hu
  exact h4 i u (by rw[<-World.cell?_of_block (setRow_other w g b _ t)];exact hu)
 refine fQ E ⟨_,G1,_,?_,k _ M ((hb.mono hB).trans F)⟩;rw[hd];refine d.turn (O.below ((L.trans (hb.mono (Ma G hB))).trans (F.mono G)) (L4 _)) R (by simp) fun b C A=>⟨setRow_other w g b _ (fun e=>A (e▸hG)),A⟩
end
theorem BB:kM Tryz.prog 52=some (26,3,48):=by kernel_rfl
theorem zA:Ct 24 [] (.tl (j8.map Sch.tree)):=by
 refine Ct.of (n:=21) Tryz.func24 Z Z Z Z Z fun w0 G0=>?_
 refine ab<|ae<|af (t:=.sl []) Z Z Z (cz (.inr Z) dk)<|ag<|ab<|aj 6 Z<|ab<|ae<|aa 2 Z<|af (t:=.sl [.agg [sT (⟨#[97]⟩),iT 1,bT false],.agg [sT (⟨#[98]⟩),iT 1,bT false]]) Z Z Z (aQ Z bg fw Z (by decide) (by decide) Z Z Z Z Z)<|aa 2 Z<|af (t:=.sl [.agg [sT (⟨#[97]⟩),iT 1,bT false]]) Z Z Z (aQ Z bg fw Z (by decide) (by decide) Z Z Z Z Z)<|aa 3 Z<|af (t:=.sl [.agg [sT (⟨#[107]⟩),iT 1,bT true],.agg [sT (⟨#[118]⟩),iT 1,bT false]]) Z Z Z (aQ Z bg fw Z (by decide) (by decide) Z Z Z Z Z)<|aa 3 Z<|af (t:=.sl [.agg [sT (⟨#[97]⟩),iT 1,bT false],.agg [sT (⟨#[98]⟩),iT 1,bT false]]) Z Z Z (aQ Z bg fw Z (by decide) (by decide) Z Z Z Z Z)<|aa 1 Z<|af (t:=.tl ([.agg [sT (⟨#[82]⟩),bT false,.sl [.agg [sT (⟨#[97]⟩),iT 1,bT false],.agg [sT (⟨#[98]⟩),iT 1,bT false]]],.agg [sT (⟨#[83]⟩),bT false,.sl [.agg [sT (⟨#[97]⟩),iT 1,bT false]]],.agg [sT (⟨#[75]⟩),bT false,.sl [.agg [sT (⟨#[107]⟩),iT 1,bT true],.agg [sT (⟨#[118]⟩),iT 1,bT false]]],.agg [sT (⟨#[67]⟩),bT true,.sl [.agg [sT (⟨#[97]⟩),iT 1,bT false],.agg [sT (⟨#[98]⟩),iT 1,bT false]]]])) Z Z Z (tU Z gf oz Z (by decide) (by decide) Z Z Z Z Z)<|aa 1 Z<|ag<|aw<|⟨.inr Z,_,.cons Z .nil,Z,Z⟩
theorem Ew(z:Int):Ct 9 [iT z] ((C0 z).tree):=by
 refine Ct.of (n:=12) Tryz.func9 Z Z Z Z Z fun w0 G0=>?_
 refine ab<|aj 1 Z<|ab ?_;obtain⟨S,a⟩:∃S,G9[((z%65536).toNat)%5]? =some S:=⟨_,L3 (show((z%65536).toNat)%5<5 by omega)⟩;have b:S=C0 z:=by unfold C0;rw[Mk,a];rfl
 refine ae<|af Z Z Z (ak Z zA Z Z)<|af Z Z Z (ak Z pO Z Z)<|af (t:=.sl [.agg (dj gL)]) Z Z Z (aQ Z gf oz Z (by decide) (by decide) Z Z Z Z Z)<|af (t:=.sl (G9.map Sch.tree)) Z Z Z (ah (BA Z BB Z Z (jI j8) (jI [gL]) (by decide) (by decide) (by decide) (by decide)) Z)<|aa 1 Z<|af (t:=nI ((z%65536).toNat)) Z Z Z (ai Z Z Z (fun w=>p7 z w))<|af (t:=nI (((z%65536).toNat)%5)) Z Z Z (ai Z Z Z (fun w=>lC ((z%65536).toNat) 5 (by omega) w))<|af (t:=.ref (dj S)) Z Z Z (aM (Sch.tree S) Z gf Z Z Z (aS (f:=Sch.tree) a) (jI _) Z)<|aa 2 Z<|ag<|aw<|⟨.inr Z,_,.cons ⟨_,_,_,_,Z,Z,.inl ⟨_,eI,Z,Z⟩⟩ .nil,congrArg Sch.tree b,Z⟩
theorem Ex (zn za : Int) (b : List UInt8) (l : List Int) (c : UInt8) (hl : l.length ≤ 9223372036854775807) : Ct 3 [.sc (.int .i64 zn), .sl (bm b), .sl (l.map gK), .sc (.int .i64 za), .sc (.int .u8 ((c.toNat : Nat) : Int))] (.sc (.bool true)) := by
 refine Ct.of (n := 126) Tryz.func3 rfl rfl rfl rfl rfl fun w0 G0 => ?_
 refine ab ?_
 refine ae ?_
 refine af (t := .sc (.bool false)) rfl rfl rfl (bp rfl rfl) ?_
 refine ag ?_
 refine ab ?_
 refine ab ?_
 refine ae ?_
 refine af (t := .sl (bm b)) rfl rfl rfl (au rfl rfl) ?_
 refine af (t := .sc (.int .i64 ((b.length : Nat) : Int))) rfl rfl rfl (ah (aZ rfl cC rfl) (by simp only [List.length_map, a6])) ?_
 refine af (t := .sc (.bool (decide (200 < b.length)))) rfl rfl rfl (ah (ai rfl rfl rfl (fun _ => rfl)) (ar (oF (b.length) (200)))) ?_
 refine ag ?_
 refine aF (b := decide (200 < b.length)) rfl (fun hc1 => ?_) (fun hc1 => ?_)
 ·
  replace hc1 := of_decide_eq_true hc1
  refine ab ?_
  refine ae ?_
  refine af (t := .sc (.bool true)) rfl rfl rfl (bp rfl rfl) ?_
  refine ag ?_
  refine aw ?_
  exact ⟨.inr rfl, _, .cons rfl .nil, rfl, rfl⟩
 ·
  replace hc1 := of_decide_eq_false hc1
  refine am ?_
  refine ab ?_
  obtain ⟨S, hS⟩ : ∃ S, C0 zn = S := ⟨_, rfl⟩
  obtain ⟨⟨x, i, e⟩, hx⟩ : ∃ p, eM S b = p := ⟨_, rfl⟩
  obtain ⟨⟨y, j, f⟩, hy⟩ : ∃ p, ir S b = p := ⟨_, rfl⟩
  refine ae ?_
  refine af (t := .sc (.int .i64 zn)) rfl rfl rfl (au rfl rfl) ?_
  refine af (t := .agg (dj S)) rfl rfl rfl (ak rfl (by have h := Ew zn; rw [hS] at h; exact h) rfl rfl) ?_
  refine qG (b := 0) (bs' := [(26, [.sc (.string (⟨#[]⟩)), .sc (.bool false), .sl []])]) rfl rfl rfl rfl oz rfl rfl rfl rfl ?_
  refine qH (bs' := [(26, (dj S))]) rfl rfl rfl rfl rfl rfl rfl rfl rfl Kk rfl rfl rfl ?_
  refine ag ?_
  refine ab ?_
  refine ae ?_
  refine af (t := .agg (dj S)) rfl rfl rfl (aP rfl rfl rfl eI rfl rfl) ?_
  refine af (t := .sl (bm b)) rfl rfl rfl (au rfl rfl) ?_
  refine af (t := .tup [.agg (aV x), .sc (.int .i64 ((i : Nat) : Int)), .sc (.int .i64 e)]) rfl rfl rfl (ak rfl (by have h := nq S b; rw [hx] at h; exact h) rfl rfl) ?_
  refine af (t := .tup [.agg (aV x), .sc (.int .i64 ((i : Nat) : Int)), .sc (.int .i64 e)]) rfl rfl rfl (au rfl rfl) ?_
  refine af (t := .agg (aV x)) rfl rfl rfl (cT rfl rfl rfl) ?_
  refine af (t := .sc (.int .i64 ((i : Nat) : Int))) rfl rfl rfl (cT rfl rfl rfl) ?_
  refine af (t := .sc (.int .i64 e)) rfl rfl rfl (cT rfl rfl rfl) ?_
  refine qG (b := 1) (bs' := [(26, (dj S)), (30, eD)]) rfl rfl rfl rfl j4 rfl rfl rfl rfl ?_
  refine qH (bs' := [(26, (dj S)), (30, (aV x))]) rfl rfl rfl rfl rfl rfl rfl rfl rfl oe rfl rfl rfl ?_
  refine af (t := .sc (.int .i64 ((i : Nat) : Int))) rfl rfl rfl (bp rfl rfl) ?_
  refine af (t := .sc (.int .i64 e)) rfl rfl rfl (bp rfl rfl) ?_
  refine ag ?_
  refine ab ?_
  refine ae ?_
  refine af (t := .agg (dj S)) rfl rfl rfl (aP rfl rfl rfl eI rfl rfl) ?_
  refine af (t := .sl (bm b)) rfl rfl rfl (au rfl rfl) ?_
  refine af (t := .tup [.agg (aV y), .sc (.int .i64 ((j : Nat) : Int)), .sc (.int .i64 f)]) rfl rfl rfl (ak rfl (by have h := vF S b; rw [hy] at h; exact h) rfl rfl) ?_
  refine af (t := .tup [.agg (aV y), .sc (.int .i64 ((j : Nat) : Int)), .sc (.int .i64 f)]) rfl rfl rfl (au rfl rfl) ?_
  refine af (t := .agg (aV y)) rfl rfl rfl (cT rfl rfl rfl) ?_
  refine af (t := .sc (.int .i64 ((j : Nat) : Int))) rfl rfl rfl (cT rfl rfl rfl) ?_
  refine af (t := .sc (.int .i64 f)) rfl rfl rfl (cT rfl rfl rfl) ?_
  refine qG (b := 2) (bs' := [(26, (dj S)), (30, (aV x)), (30, eD)]) rfl rfl rfl rfl j4 rfl rfl rfl rfl ?_
  refine qH (bs' := [(26, (dj S)), (30, (aV x)), (30, (aV y))]) rfl rfl rfl rfl rfl rfl rfl rfl rfl oe rfl rfl rfl ?_
  refine af (t := .sc (.int .i64 ((j : Nat) : Int))) rfl rfl rfl (bp rfl rfl) ?_
  refine af (t := .sc (.int .i64 f)) rfl rfl rfl (bp rfl rfl) ?_
  refine ag ?_
  refine ab ?_
  refine ae ?_
  refine af (t := .sl (l.map gK)) rfl rfl rfl (au rfl rfl) ?_
  refine ki (fun t_ => ∃ r : Rel, Good r ∧ t_ = r.tree) rfl rfl rfl (kQ rfl (GO l hl) rfl rfl) ?_
  rintro _ ⟨r, hg, rfl⟩; have hg3 := hg.len
  refine qG (b := 3) (bs' := [(26, (dj S)), (30, (aV x)), (30, (aV y)), (30, eD)]) rfl rfl rfl rfl j4 rfl rfl rfl rfl ?_
  refine qH (bs' := [(26, (dj S)), (30, (aV x)), (30, (aV y)), (30, (aV r))]) rfl rfl rfl rfl rfl rfl rfl rfl rfl oe rfl rfl rfl ?_
  refine ag ?_
  obtain ⟨T, hT⟩ : ∃ T, fC r = T := ⟨_, rfl⟩
  have hTl : T.length ≤ 2400 := by rw [← hT]; exact (Eo hg).2.2.2
  have hfz : CtZ 13 [r.tree] T := by rw [← hT]; exact zy r hg.fit.1 hg.fit.2 hg.str hg.valid
  refine wl ?_
  refine jQ (fun aU wU hsim => ?_)
  obtain ⟨hs0, hb0, hE0, hG0, hEU⟩ := hsim.unboxN (l := [(3, .sc (.int .i64 za)), (4, .sc (.int .u8 ((c.toNat : Nat) : Int))), (12, .ref (aV x)), (13, .sc (.int .i64 ((i : Nat) : Int))), (14, .sc (.int .i64 e)), (15, .ref (aV y)), (16, .sc (.int .i64 ((j : Nat) : Int))), (17, .sc (.int .i64 f)), (18, .ref (aV r))]) (.keep rfl rfl (.keep rfl rfl (.box0 rfl rfl rfl (.keep rfl rfl (.keep rfl rfl (.box0 rfl rfl rfl (.keep rfl rfl (.keep rfl rfl (.box0 rfl rfl rfl (.nil))))))))))
  refine ⟨wU, G0, _, hs0, ?_⟩
  clear hsim hs0
  refine ch ?_
  rintro a w hs
  obtain ⟨hE, hOk, hbw, hn, hdf, hsl⟩ := hs.facts
  have ha3 := hs.lit (i := 3) rfl
  have ha4 := hs.lit (i := 4) rfl
  have ha13 := hs.lit (i := 13) rfl
  have ha14 := hs.lit (i := 14) rfl
  have ha16 := hs.lit (i := 16) rfl
  have ha17 := hs.lit (i := 17) rfl
  have hr18 := hs.slot (i := 18) (t := .ref (aV r)) rfl rfl
  refine r8 [some 47, some 48, some 49, some 50, some 51, some 19] (LZ r G0 w.heap.size T) [false, false, false, false, false, false] [some 1, some 4, some 3, some 4, some 5, none] [4] w.heap.size (by kernel_rfl) (by kernel_rfl) (by kernel_rfl) (by rw [hn]; rfl) (Nat.le_refl _) (fun W => I8 _ _ _ _ W) (I9 _ _ _ _) (by kernel_rfl) ?_ ?_
  ·
   refine StepsC.cons trivial (fun T_ W hg_ => ?_) ?_
   ·have h18 : PT W G0 [T_ 18] [.ref (aV r)] := by rw [hg_.keep 18 rfl]; exact hr18.mono hg_.size fun b hb hG => ⟨hg_.below.block b hb, hG⟩
    exact OpOK.at (n := 126) (sl := [(18, .ref (aV r))]) (t := r.tree) (ck rfl rfl bj rfl rfl) rfl (hE.below hg_.below (Nat.le_refl _)) (lp hOk hg_.below hg_.size) ⟨FT.gg h18, trivial⟩
   refine StepsC.cons trivial (fun T_ W hg_ => ?_) ?_
   ·have h : PT W G0 [T_ 47] [r.tree] := hg_.fact 0 47 (by kernel_rfl)
    exact (G7 hfz rfl h (hE.below hg_.below (Nat.le_refl _)) (lp hOk hg_.below hg_.size)).mono fun v W' ⟨h2, h3⟩ => ⟨h2.less hg_.size, h3⟩
   refine StepsC.cons trivial (fun T_ W hg_ => ?_) ?_
   ·have h18 : PT W G0 [T_ 18] [.ref (aV r)] := by rw [hg_.keep 18 rfl]; exact hr18.mono hg_.size fun b hb hG => ⟨hg_.below.block b hb, hG⟩
    exact OpOK.at (n := 126) (sl := [(18, .ref (aV r))]) (t := r.tree) (ck rfl rfl bj rfl rfl) rfl (hE.below hg_.below (Nat.le_refl _)) (lp hOk hg_.below hg_.size) ⟨FT.gg h18, trivial⟩
   refine StepsC.cons trivial (fun T_ W hg_ => ?_) ?_
   ·have h : PT W G0 [T_ 49] [r.tree] := hg_.fact 2 49 (by kernel_rfl)
    exact (G7 hfz rfl h (hE.below hg_.below (Nat.le_refl _)) (lp hOk hg_.below hg_.size)).mono fun v W' ⟨h2, h3⟩ => ⟨h2.less hg_.size, h3⟩
   refine StepsC.cons trivial (fun T_ W hg_ => ?_) ?_
   ·have h1 : RowZ W w.heap.size (T_ 48) T := hg_.fact 1 48 (by kernel_rfl)
    have h2 : RowZ W w.heap.size (T_ 50) T := hg_.fact 3 50 (by kernel_rfl)
    obtain ⟨i0, hi0, hz0, hz1, hz2⟩ := info_parts C5
    obtain ⟨v, W', hrun, h3, h4, h5⟩ := G6 W w.heap.size 22 _ i0 Tryz.underlying22 hi0 hz0 hz1 hz2 h1 h2 (by omega) hg_.size
    exact aC (v := v) (W' := W') (jR rfl rfl rfl hrun) ⟨h3, h4, h5⟩
   refine StepsC.cons trivial (fun T_ W hg_ => ?_) ?_
   ·have h1 : RowZ W w.heap.size (T_ 51) (T ++ T) := hg_.fact 4 51 (by kernel_rfl)
    exact aC (v := T_ 51) (W' := W) (by simp [execOp, dU]) ⟨h1, Below.refl _ _⟩
   exact StepsC.nil
  intro us W hul hf hbW hsz
  have f5 : RowZ W w.heap.size (us.getD 5 undef) (T ++ T) := hf 5 (by decide) rfl
  clear hf
  have hu19 := (co [some 47, some 48, some 49, some 50, some 51, some 19] us a.tmps 5 19 (by rw [hn]; rfl) hul rfl).1
  obtain ⟨v, hv⟩ : ∃ v, us.getD 5 undef = v := ⟨_, rfl⟩
  rw [hv] at f5 hu19
  obtain ⟨g, cap, rfl, hbg, hgl, hcl, hcm, hnd, hcs⟩ := f5.cells
  have hb0W : Below w0.heap.size w0 W := aE (aE hb0 hbw hb0.size) hbW (Nat.le_trans hb0.size hbw.size)
  refine ⟨W, fun b => G0 b ∨ some g = some b, ⟨126, [(3, .sc (.int .i64 za)), (4, .sc (.int .u8 ((c.toNat : Nat) : Int))), (12, .ref (aV x)), (13, .sc (.int .i64 ((i : Nat) : Int))), (14, .sc (.int .i64 e)), (15, .ref (aV y)), (16, .sc (.int .i64 ((j : Nat) : Int))), (17, .sc (.int .i64 f)), (18, .ref (aV r)), (19, .sc (.slice (some ⟨g, 0, none⟩) (T ++ T).length cap))], [], []⟩, ?_, Sim.mk (hE.below hbW (Nat.le_refl _)) (fun b hb => hb.elim (fun h => lp hOk hbW hbW.size b h) fun e => by injection e with e; subst e; exact ⟨hgl, hnd⟩) (by rw [fb]; exact hn) hdf (SlotL.look (l := [(3, .sc (.int .i64 za)), (4, .sc (.int .u8 ((c.toNat : Nat) : Int))), (12, .ref (aV x)), (13, .sc (.int .i64 ((i : Nat) : Int))), (14, .sc (.int .i64 e)), (15, .ref (aV y)), (16, .sc (.int .i64 ((j : Nat) : Int))), (17, .sc (.int .i64 f)), (18, .ref (aV r)), (19, .sc (.slice (some ⟨g, 0, none⟩) (T ++ T).length cap))]) ⟨hs.upd hbW hbg (i := 3) rfl rfl rfl, hs.upd hbW hbg (i := 4) rfl rfl rfl, hs.upd hbW hbg (i := 12) rfl rfl rfl, hs.upd hbW hbg (i := 13) rfl rfl rfl, hs.upd hbW hbg (i := 14) rfl rfl rfl, hs.upd hbW hbg (i := 15) rfl rfl rfl, hs.upd hbW hbg (i := 16) rfl rfl rfl, hs.upd hbW hbg (i := 17) rfl rfl rfl, hs.upd hbW hbg (i := 18) rfl rfl rfl, kG hu19, trivial⟩)⟩
  obtain ⟨B, hBe⟩ : ∃ B, w.heap.size = B := ⟨_, rfl⟩
  have hB0 : w0.heap.size ≤ B := by rw [← hBe]; exact Nat.le_trans hb0.size hbw.size
  have hEW : Env W := hE.below hbW (Nat.le_refl _)
  have hBW : Below B W W := Below.refl _ _
  rw [hBe] at f5 hbg
  clear hs hu19 hul hv us hbW hsz hsl hn hdf hOk hbw hr18 ha3 ha4 ha13 ha14 ha16 ha17 hE a hBe w hb0 hEU aU wU
  obtain ⟨N, hN⟩ : ∃ N, (T ++ T).length = N := ⟨_, rfl⟩
  have hN2 : N ≤ 4800 := by rw [← hN, List.length_append]; omega
  rw [hN] at f5
  rw [hN]
  show BWP _ _ _ _ _
  refine I7 (PrJ 126 w0 G0 B (.slice (some ⟨g, 0, none⟩) N cap) N [(3, .sc (.int .i64 za)), (4, .sc (.int .u8 ((c.toNat : Nat) : Int))), (12, .ref (aV x)), (13, .sc (.int .i64 ((i : Nat) : Int))), (14, .sc (.int .i64 e)), (15, .ref (aV y)), (16, .sc (.int .i64 ((j : Nat) : Int))), (17, .sc (.int .i64 f)), (18, .ref (aV r))]) ?_ fun w2 G2 S2 hJ => ?_
  ·
   refine ch (ee ?_)
   refine bI (t := .sc (.slice (some ⟨g, 0, none⟩) N cap)) rfl rfl rfl (au rfl rfl) ?_
   refine bI (t := .sc (.int .i64 ((N : Nat) : Int))) rfl rfl rfl (oU rfl cC rfl) ?_
   refine bI (t := .sc (.bool (decide (0 < N)))) rfl rfl rfl (ah (ai rfl rfl rfl (fun _ => rfl)) (ar (oF (N) (0)))) ?_
   refine fD ?_
   show BWP _ _ _ _ _
   refine jP (b := decide (0 < N)) rfl (fun hc => ?_) (fun hc => ?_)
   ·
    replace hc := of_decide_eq_true hc
    obtain ⟨az, haz⟩ : ∃ az : Nat, IntKind.u64.wrap za = (az : Nat) := ⟨(IntKind.u64.wrap za).toNat, by rw [IntKind.wrap_u64]; omega⟩
    have hml : az % N < N := Nat.mod_lt _ hc
    obtain ⟨m, hme⟩ : ∃ m, az % N = m := ⟨_, rfl⟩
    rw [hme] at hml
    obtain ⟨q, hq⟩ : ∃ q, (T ++ T)[m]? = some q := ⟨_, List.getElem?_eq_getElem (by omega)⟩
    have hcell : W.cell? ⟨g, m, none⟩ = some (.int .u8 (q.toNat : Nat)) := by
     have h := hcs m (.int .u8 (q.toNat : Nat)) (by unfold bE; rw [List.getElem?_map, hq]; rfl)
     rwa [Nat.zero_add] at h
    refine ee ?_
    refine bI (t := .sc (.slice (some ⟨g, 0, none⟩) N cap)) rfl rfl rfl (au rfl rfl) ?_
    refine bI (t := .sc (.int .i64 za)) rfl rfl rfl (au rfl rfl) ?_
    refine bI (t := .sc (.int .u64 ((az : Nat) : Int))) rfl rfl rfl (ah (g9 rfl iJ iK rfl) (d8 haz)) ?_
    refine bI (t := .sc (.slice (some ⟨g, 0, none⟩) N cap)) rfl rfl rfl (au rfl rfl) ?_
    refine bI (t := .sc (.int .i64 ((N : Nat) : Int))) rfl rfl rfl (oU rfl cC rfl) ?_
    refine bI (t := .sc (.int .u64 ((N : Nat) : Int))) rfl rfl rfl (ah (g9 rfl iJ iK rfl) (Jg (by omega))) ?_
    refine bI (t := .sc (.int .u64 ((az % N : Nat) : Int))) rfl rfl rfl (ai rfl rfl rfl (fun w => Eu az _ hc w)) ?_
    refine bI (t := .sc (.int .i64 ((m : Nat) : Int))) rfl rfl rfl (ah (g9 rfl iK iJ rfl) (EP (by rw [hme]) (by omega))) ?_
    refine bI (t := .sc (.pointer (some ⟨g, m, none⟩))) rfl rfl rfl (i8 (j := m) rfl cC rfl rfl rfl hml (by simp)) ?_
    refine nW (u := .int .u8 (q.toNat : Nat)) rfl rfl rfl rfl rfl qq hgl hcell ?_
    refine bI (t := .sc (.int .u8 ((c.toNat : Nat) : Int))) rfl rfl rfl (au rfl rfl) ?_
    refine bI (t := .sc (.int .u8 (((q.toNat ^^^ c.toNat) : Nat) : Int))) rfl rfl rfl (ai rfl rfl rfl (fun w => G8 q.toNat c.toNat q.toNat_lt c.toNat_lt w)) ?_
    refine bI (t := .sc (.pointer (some ⟨g, m, none⟩))) rfl rfl rfl (i8 (j := m) rfl cC rfl rfl rfl hml (by simp)) ?_
    refine zz (c := (q.toNat ^^^ c.toNat)) rfl rfl rfl rfl rfl qr f5 (by omega) (Nat.xor_lt_two_pow (n := 8) q.toNat_lt c.toNat_lt) (.inr rfl) hE0 hB0 hb0W (fun w2 hz2 hb2 => ?_)
    refine fD ?_
    exact ⟨_, _, by rw [List.length_set]; exact hN, hz2, hb0W.trans (hb2.mono hB0), rfl, rfl, rfl, rfl, rfl, rfl, rfl, rfl, rfl, rfl, rfl, rfl, trivial⟩
   · exact jO ⟨T ++ T, _, hN, f5, hb0W, rfl, rfl, rfl, rfl, rfl, rfl, rfl, rfl, rfl, rfl, rfl, rfl, trivial⟩
  ·
   refine PrJ.back hE0 hG0 hB0 rfl (fun X hX => ?_) hJ
   refine BWP.of ?_
   refine ab ?_
   obtain ⟨k, hk⟩ : ∃ k, (za % 2).toNat = k := ⟨_, rfl⟩
   have hk1 : k ≤ 1 := by omega
   obtain ⟨P, hP⟩ : ∃ P, N / 2 * k = P := ⟨_, rfl⟩
   have hP1 : P ≤ N / 2 := by rw [← hP]; exact Nat.le_trans (Nat.mul_le_mul_left _ hk1) (Nat.le_of_eq (Nat.mul_one _))
   refine ae ?_
   refine af (t := .sl (bm X)) rfl rfl rfl (au rfl rfl) ?_
   refine af (t := .sl (bm X)) rfl rfl rfl (au rfl rfl) ?_
   refine af (t := .sc (.int .i64 ((N : Nat) : Int))) rfl rfl rfl (ah (aZ rfl cC rfl) (by simp only [a6, hX])) ?_
   refine af (t := .sl (bm X)) rfl rfl rfl (au rfl rfl) ?_
   refine af (t := .sc (.int .i64 ((N : Nat) : Int))) rfl rfl rfl (ah (aZ rfl cC rfl) (by simp only [a6, hX])) ?_
   refine af (t := .sc (.int .i64 ((N / 2 : Nat) : Int))) rfl rfl rfl (ai rfl rfl rfl (fun w => wj N 2 (by decide) (by omega) w)) ?_
   refine af (t := .sc (.int .i64 za)) rfl rfl rfl (au rfl rfl) ?_
   refine af (t := .sc (.int .i64 ((k : Nat) : Int))) rfl rfl rfl (ai rfl rfl rfl (fun w => by rw [← hk]; exact Ev za w)) ?_
   refine af (t := .sc (.int .i64 ((P : Nat) : Int))) rfl rfl rfl (ah (ai rfl rfl rfl (fun _ => rfl)) (EP (by rw [← hP]; exact (Int.natCast_mul _ _).symm) (by omega))) ?_
   refine af (t := .sc (.int .i64 ((N - P : Nat) : Int))) rfl rfl rfl (ah (ai rfl rfl rfl (fun _ => rfl)) (EP (by omega) (by omega))) ?_
   refine af (t := .sl (bm (X.take (N - P)))) rfl rfl rfl (ah (kK (l := 0) (h := N - P) rfl cC rfl rfl ⟨_, rfl⟩ (Nat.zero_le _) (by rw [a6]; omega) (qE _)) (by unfold bm; rw [List.drop_zero, List.map_take])) ?_
   refine af (t := .sl (bm (X.take (N - P)))) rfl rfl rfl (bp rfl rfl) ?_
   refine ag ?_
   refine ab ?_
   obtain ⟨⟨u, i2, e2⟩, hu⟩ : ∃ p, eM r.sch (X.take (N - P)) = p := ⟨_, rfl⟩
   obtain ⟨⟨v, j2, f2⟩, hv⟩ : ∃ p, ir r.sch (X.take (N - P)) = p := ⟨_, rfl⟩
   refine ae ?_
   refine af (t := .ref (aV r)) rfl rfl rfl (bH rfl rfl fy rfl) ?_
   refine af (t := .agg (dj r.sch)) rfl rfl rfl (ck rfl rfl eI rfl rfl) ?_
   refine af (t := .sl (bm (X.take (N - P)))) rfl rfl rfl (au rfl rfl) ?_
   refine af (t := .tup [.agg (aV u), .sc (.int .i64 ((i2 : Nat) : Int)), .sc (.int .i64 e2)]) rfl rfl rfl (ak rfl (by have h := nq r.sch (X.take (N - P)); rw [hu] at h; exact h) rfl rfl) ?_
   refine af (t := .tup [.agg (aV u), .sc (.int .i64 ((i2 : Nat) : Int)), .sc (.int .i64 e2)]) rfl rfl rfl (au rfl rfl) ?_
   refine af (t := .agg (aV u)) rfl rfl rfl (cT rfl rfl rfl) ?_
   refine af (t := .sc (.int .i64 ((i2 : Nat) : Int))) rfl rfl rfl (cT rfl rfl rfl) ?_
   refine af (t := .sc (.int .i64 e2)) rfl rfl rfl (cT rfl rfl rfl) ?_
   refine qG (b := 0) (bs' := [(30, eD)]) rfl rfl rfl rfl j4 rfl rfl rfl rfl ?_
   refine qH (bs' := [(30, (aV u))]) rfl rfl rfl rfl rfl rfl rfl rfl rfl oe rfl rfl rfl ?_
   refine af (t := .sc (.int .i64 ((i2 : Nat) : Int))) rfl rfl rfl (bp rfl rfl) ?_
   refine af (t := .sc (.int .i64 e2)) rfl rfl rfl (bp rfl rfl) ?_
   refine ag ?_
   refine ab ?_
   refine ae ?_
   refine af (t := .ref (aV r)) rfl rfl rfl (bH rfl rfl fy rfl) ?_
   refine af (t := .agg (dj r.sch)) rfl rfl rfl (ck rfl rfl eI rfl rfl) ?_
   refine af (t := .sl (bm (X.take (N - P)))) rfl rfl rfl (au rfl rfl) ?_
   refine af (t := .tup [.agg (aV v), .sc (.int .i64 ((j2 : Nat) : Int)), .sc (.int .i64 f2)]) rfl rfl rfl (ak rfl (by have h := vF r.sch (X.take (N - P)); rw [hv] at h; exact h) rfl rfl) ?_
   refine af (t := .tup [.agg (aV v), .sc (.int .i64 ((j2 : Nat) : Int)), .sc (.int .i64 f2)]) rfl rfl rfl (au rfl rfl) ?_
   refine af (t := .agg (aV v)) rfl rfl rfl (cT rfl rfl rfl) ?_
   refine af (t := .sc (.int .i64 ((j2 : Nat) : Int))) rfl rfl rfl (cT rfl rfl rfl) ?_
   refine af (t := .sc (.int .i64 f2)) rfl rfl rfl (cT rfl rfl rfl) ?_
   refine qG (b := 1) (bs' := [(30, (aV u)), (30, eD)]) rfl rfl rfl rfl j4 rfl rfl rfl rfl ?_
   refine qH (bs' := [(30, (aV u)), (30, (aV v))]) rfl rfl rfl rfl rfl rfl rfl rfl rfl oe rfl rfl rfl ?_
   refine af (t := .sc (.int .i64 ((j2 : Nat) : Int))) rfl rfl rfl (bp rfl rfl) ?_
   refine af (t := .sc (.int .i64 f2)) rfl rfl rfl (bp rfl rfl) ?_
   refine ag ?_
   refine ab ?_
   have hfx : FitR x := by have h := l9 S b; rw [hx] at h; exact h
   have hfy : FitR y := by have h := l9 S b; rw [← nw, hy] at h; exact h
   have hq := hx.symm.trans ((nw S b).symm.trans hy)
   obtain ⟨hR, hI, hE⟩ : x = y ∧ i = j ∧ e = f := ⟨congrArg (·.1) hq, congrArg (·.2.1) hq, congrArg (·.2.2) hq⟩
   have hfu : FitR u := by have h := l9 r.sch (X.take (N - P)); rw [hu] at h; exact h
   have hfv : FitR v := by have h := l9 r.sch (X.take (N - P)); rw [← nw, hv] at h; exact h
   have hq2 := hu.symm.trans ((nw r.sch (X.take (N - P))).symm.trans hv)
   obtain ⟨hR2, hI2, hE2⟩ : u = v ∧ i2 = j2 ∧ e2 = f2 := ⟨congrArg (·.1) hq2, congrArg (·.2.1) hq2, congrArg (·.2.2) hq2⟩
   refine ae ?_
   refine af (t := .sc (.int .i64 e)) rfl rfl rfl (au rfl rfl) ?_
   refine af (t := .sc (.int .i64 f)) rfl rfl rfl (au rfl rfl) ?_
   refine af (t := .sc (.bool (e == f))) rfl rfl rfl (ai rfl rfl rfl (fun _ => rfl)) ?_
   refine af (t := .sc (.bool (e == f))) rfl rfl rfl (au rfl rfl) ?_
   refine aq (t := .sc (.int .i64 ((i : Nat) : Int))) rfl rfl rfl rfl (fun hC => au rfl rfl) ?_
   refine aq (t := .sc (.int .i64 ((j : Nat) : Int))) rfl rfl rfl rfl (fun hC => au rfl rfl) ?_
   refine aq (t := .sc (.bool (decide (i = j)))) rfl rfl rfl rfl (fun hC => ah (ai rfl (if_pos hC) (if_pos hC) (fun _ => rfl)) (ar (jF (i) (j)))) ?_
   refine af (t := .sc (.bool ((e == f) && (decide (i = j))))) rfl rfl rfl (aK rfl rfl (fun h_ => (if_pos h_).trans (ar (by rw [h_]; rfl))) (fun h_ => (ar (by rw [h_]; rfl)))) ?_
   refine af (t := .sc (.bool ((e == f) && (decide (i = j))))) rfl rfl rfl (au rfl rfl) ?_
   refine aq (t := .agg (aV x)) rfl rfl rfl rfl (fun hC => ck rfl rfl bj rfl rfl) ?_
   refine aq (t := .agg (aV y)) rfl rfl rfl rfl (fun hC => ck rfl rfl bj rfl rfl) ?_
   refine aq (t := .sc (.bool (fB x y))) rfl rfl rfl rfl (fun hC => ak rfl (CF x y hfx hfy) (eR (if_pos hC) (eR (if_pos hC) rfl)) rfl) ?_
   refine af (t := .sc (.bool (((e == f) && (decide (i = j))) && (fB x y)))) rfl rfl rfl (aK rfl rfl (fun h_ => (if_pos h_).trans (ar (by rw [h_]; rfl))) (fun h_ => (ar (by rw [h_]; rfl)))) ?_
   refine af (t := .sc (.bool (((e == f) && (decide (i = j))) && (fB x y)))) rfl rfl rfl (au rfl rfl) ?_
   refine aq (t := .sc (.int .i64 e2)) rfl rfl rfl rfl (fun hC => au rfl rfl) ?_
   refine aq (t := .sc (.int .i64 f2)) rfl rfl rfl rfl (fun hC => au rfl rfl) ?_
   refine aq (t := .sc (.bool (e2 == f2))) rfl rfl rfl rfl (fun hC => ai rfl (if_pos hC) (if_pos hC) (fun _ => rfl)) ?_
   refine af (t := .sc (.bool ((((e == f) && (decide (i = j))) && (fB x y)) && (e2 == f2)))) rfl rfl rfl (aK rfl rfl (fun h_ => (if_pos h_).trans (ar (by rw [h_]; rfl))) (fun h_ => (ar (by rw [h_]; rfl)))) ?_
   refine af (t := .sc (.bool ((((e == f) && (decide (i = j))) && (fB x y)) && (e2 == f2)))) rfl rfl rfl (au rfl rfl) ?_
   refine aq (t := .sc (.int .i64 ((i2 : Nat) : Int))) rfl rfl rfl rfl (fun hC => au rfl rfl) ?_
   refine aq (t := .sc (.int .i64 ((j2 : Nat) : Int))) rfl rfl rfl rfl (fun hC => au rfl rfl) ?_
   refine aq (t := .sc (.bool (decide (i2 = j2)))) rfl rfl rfl rfl (fun hC => ah (ai rfl (if_pos hC) (if_pos hC) (fun _ => rfl)) (ar (jF (i2) (j2)))) ?_
   refine af (t := .sc (.bool (((((e == f) && (decide (i = j))) && (fB x y)) && (e2 == f2)) && (decide (i2 = j2))))) rfl rfl rfl (aK rfl rfl (fun h_ => (if_pos h_).trans (ar (by rw [h_]; rfl))) (fun h_ => (ar (by rw [h_]; rfl)))) ?_
   refine af (t := .sc (.bool (((((e == f) && (decide (i = j))) && (fB x y)) && (e2 == f2)) && (decide (i2 = j2))))) rfl rfl rfl (au rfl rfl) ?_
   refine aq (t := .agg (aV u)) rfl rfl rfl rfl (fun hC => aP rfl rfl rfl bj rfl rfl) ?_
   refine aq (t := .agg (aV v)) rfl rfl rfl rfl (fun hC => aP rfl rfl rfl bj rfl rfl) ?_
   refine aq (t := .sc (.bool (fB u v))) rfl rfl rfl rfl (fun hC => ak rfl (CF u v hfu hfv) (eR (if_pos hC) (eR (if_pos hC) rfl)) rfl) ?_
   refine af (t := .sc (.bool ((((((e == f) && (decide (i = j))) && (fB x y)) && (e2 == f2)) && (decide (i2 = j2))) && (fB u v)))) rfl rfl rfl (aK rfl rfl (fun h_ => (if_pos h_).trans (ar (by rw [h_]; rfl))) (fun h_ => (ar (by rw [h_]; rfl)))) ?_
   refine af (t := .sc (.bool ((((((e == f) && (decide (i = j))) && (fB x y)) && (e2 == f2)) && (decide (i2 = j2))) && (fB u v)))) rfl rfl rfl (au rfl rfl) ?_
   refine aq (t := .sc (.bool true)) rfl rfl rfl rfl (fun hC => ak rfl (GU) rfl rfl) ?_
   refine af (t := .sc (.bool (((((((e == f) && (decide (i = j))) && (fB x y)) && (e2 == f2)) && (decide (i2 = j2))) && (fB u v)) || false))) rfl rfl rfl (aK rfl rfl (fun h_ => (if_pos h_).trans (ar (by rw [h_]; rfl))) (fun h_ => (ar (by rw [h_]; rfl)))) ?_
   refine af (t := .sc (.bool (((((((e == f) && (decide (i = j))) && (fB x y)) && (e2 == f2)) && (decide (i2 = j2))) && (fB u v)) || false))) rfl rfl rfl (bp rfl rfl) ?_
   refine ag ?_
   refine aw ?_
   exact ⟨rfl, rfl, .inr rfl, _, .cons rfl .nil, ar (by rw [hR, hI, hE, hR2, hI2, hE2, (qX y y).2 rfl, (qX v v).2 rfl]; simp), rfl⟩
theorem vG{W:World}{G:Nat->Prop}:∀l:List Int,PT W G (lq l) (flat (l.map gK))
 |[]=>.nil
 |_::l=>.sc _ (vG l)
theorem Ha{W:World}{A:Option Addr}{l:List Int}{c:Nat}(d:At W W.heap.size A (lq l))(j:l.length<=c)(f:c<=9223372036854775807)(i:A=none->c=0):PT W (fun _=>False) [.slice A l.length c] [.sl (l.map gK)]:=by
 cases e:l with
 |nil=>exact .sl0 _ _ i f .nil
 |cons x m=>
  rw[<-e];obtain⟨b,o,rfl,g,a⟩:=d (by rw[e];simp[lq]);exact .sl b o c _ (lq l) _ g (fun h=>h) a (by simp) (by simpa using j) f (vG l) .nil
end Go.Proofs.YtfoejfohbkmmeaaGreatDoor
