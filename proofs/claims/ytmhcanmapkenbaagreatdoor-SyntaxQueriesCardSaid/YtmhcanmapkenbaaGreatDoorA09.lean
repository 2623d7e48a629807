import Derived.Test.YtmhcanmapkenbaaGreatDoorA08
import Derived.Laws.BitsLemmas
import Derived.Lib.SliceRun
import Derived.Deep.QuietTactic
import Derived.BigQuiet
import Derived.StillTailTactics
import Derived.Laws.BitsAllLaws
import Derived.Laws.Bits64
import Derived.Lib.ReplaceLaws
import Derived.Lib.ItoaNum
import Derived.Lib.ParseIntB
import Derived.Laws.OwnMore
set_option linter.defProp false
open Go.Proofs.Tryz
namespace Go.Proofs.YtmhcanmapkenbaaGreatDoor
open Go.RowKit
open Lib renaming hid→J
variable{y:Operand}{z:Value}
section
variable {w0:World} {G0:Bse} {S:St} {o:Oper}
def pO{W:World}{G:Nat->Prop}:∀{l:List UInt8} {xs:List Value},PT W G xs (fD l)->xs=f7 l
 |[],xs,h=>by cases h;rfl
 |_::l,xs,h=>by
  cases h with
  |sc v h=>rw[pO (l:=l) h];rfl
def DL{W:World}{G:Nat->Prop}{v:Value}{l:List UInt8}(h:PT W G [v] [.sl (fD l)]):∃A c,v=.slice A l.length c/\At W W.heap.size A (f7 l):=by
 obtain⟨A,c,a,f,k,m,d⟩:=PT.slice h;rw[ku]at a f d;refine⟨A,c,a,λj=>?_⟩;obtain⟨b,off,xs,rfl,g,_,i,e⟩:=d (by rwa[mH]at j);rw[re]at e;rw[<-pO e];exact⟨b,off,Z,g,i⟩
def pm{x:Operand}{l:List UInt8}(b:o.op=.convert 49 9 x)(g:S.ev x=.sl (fD l)):OpOK o S (.sc (.string ⟨l.toArray⟩)):=by
 intro w0 G0 bx rv w T h f;obtain⟨A,c,d,e⟩:=DL (bY f g (by rw[b];simp[Op.operands])).isSl;refine OpRuns.of_ok (v:=.string ⟨l.toArray⟩) (W':=w) ?_ ⟨.pure (.sc _ .nil) .nil,Below.refl _ _⟩;have a:=BB c e;simp only[en]at a;simp[execOp,b,d,a]
def DM{ty:TypeId}{h:List Value}(m:o.op=.alloc ty)(hd:df S.n o.dst=true)(c:gn prog ty=some h)(l:h.all cj=true):qi w0 G0 o S ({S with bs:=S.bs++[(ty,h.map Tree.sc)]}.put o.dst (.box S.bs.length 0)):=by
 rintro a w ⟨bx,rv,j,b,d,f⟩;unfold gn at c;simp only[R6,Q4]at c;obtain⟨i,k,z,c,rfl⟩:=c;have e:=j.addBox (ty:=ty) (us:=z.cells.toList) (cs:=z.cells.toList.map Tree.sc) (.of (Fc _ _ _)) l;refine OpRuns.of_ok (v:=.pointer (some ⟨w.heap.size,0,none⟩)) (W':=w.alloc (.cells z.cells ty)) ?_ ⟨bx++[w.heap.size],rv,?_,by rw[d9,dQ,b],by rw[c6,d],?_⟩
 ·have g:(zeroValue ty).run prog w=.ok z w:=by simp[zeroValue,typeInfo,k,c]
  simp[execOp,m,Instr.alloc,newVar,newRow,newObj,Sem.run,g]
 ·rw[dc,b6];simpa using e
 rw[b6];intro i;rw[fL a o.dst _ S.n b hd,cF];split
 ·exact .box _ _ _ (by show(bx++[w.heap.size])[S.bs.length]? =_;rw[<-j.nb];simp) .nil
 exact jY _ (f i)
def vA{ops:Array Oper}{a:List Oper}{Q:Exit->St->Prop}{n d b:Nat}{sl:List (Nat×Tree)}{bs bs':List (TypeId×List Tree)}{rs:List (Option Row)}{ty:TypeId}{e:List Value}{cs:List Tree}(l:o.op=.alloc ty)(i:o.guard=none)(hd:o.dst=some d)(j:Nat.blt d n=true)(m:gn prog ty=some e)(f:e.all cj=true)(h:e.map Tree.sc=cs)(g:bs.length=b)(c:bs++[(ty,cs)]=bs')
  (k:AOps w0 G0 ops a Q ⟨n,(d,.box b 0)::sl,bs',rs⟩):AOps w0 G0 ops (o::a) Q ⟨n,sl,bs,rs⟩:=by
 subst h g c;refine eA i (DM (S:=⟨n,sl,bs,rs⟩) l (by rw[hd];simpa[df,Q7]using j) m f) ?_;rw[hd];exact k
end
section
variable {w0:World} {G0:Bse} {ops:Array Oper} {rest:List Oper} {Q:Exit->St->Prop} {o:Oper} {n:Nat} {sl:List (Nat×Tree)} {bs:List (TypeId×List Tree)} {rs:List (Option Row)} {S:St}
end
def n5{x:Operand}(a b:Nat)(c:0<b)(w:World):(do eqGuard .rem 3 x y (.int .i64 (a:Nat)) (.int .i64 (b:Nat));binOp .rem 3 (.int .i64 (a:Nat)) (.int .i64 (b:Nat)):Sem Value).run prog w=.ok (.int .i64 ((a%b:Nat):Int)) w:=by
 go_simp;rw[if_neg O,Th O]
def Jf{x:Operand}(a b:Nat)(e:0<b)(c:a<9223372036854775808)(w:World):(do eqGuard .quo 3 x y (.int .i64 (a:Nat)) (.int .i64 (b:Nat));binOp .quo 3 (.int .i64 (a:Nat)) (.int .i64 (b:Nat)):Sem Value).run prog w=.ok (.int .i64 ((a/b:Nat):Int)) w:=by
 have key:IntKind.i64.wrap ((a:Int)/(b:Int))=((a/b:Nat):Int):=by
  have d:a/b<=a:=Su a b;rw[show((a:Int)/(b:Int))=((a/b:Nat):Int) by simp,Sz];generalize a/b=q at*;omega
 clear c;go_simp;omega
def DN(n:Int):bits .and .i64 n 65535=n%65536:=by
 have a:(BitVec.ofInt 64 65535).toNat=2^16-1:=I
 have key:(BitVec.ofInt 64 n&&& BitVec.ofInt 64 65535).toNat=(n%((2^64:Nat):Int)).toNat%2^16:=by
  rw[BitVec.toNat_and,BitVec.toNat_ofInt,a,Nat.and_two_pow_sub_one_eq_mod]
 show IntKind.i64.wrap ((BitVec.ofInt 64 n&&& BitVec.ofInt 64 65535).toNat:Nat)=n%65536
 rw[key,Sz];omega
def ui{x:Operand}(a:Int)(w:World):(do eqGuard .and 3 x y (.int .i64 a) (.int .i64 65535);binOp .and 3 (.int .i64 a) (.int .i64 65535):Sem Value).run prog w=.ok (.int .i64 (((a%65536).toNat:Nat):Int)) w:=by
 have key:bits .and .i64 a 65535=(((a%65536).toNat:Nat):Int):=by rw[DN];omega
 go_simp
section
variable {w0:World} {G0:Bse} {S:St} {o:Oper}
end
def TH{w:World}{t e:TypeId}{v:Value}(n:ic prog t=some (e,1))(f:gn prog e=some [z])(p:v.oneCell'=true):(Instr.buildSlice t 1 #[(0,v)]).run prog w=.ok (.slice (some ⟨w.heap.size,0,none⟩) 1 1) (w.alloc (.cells #[v] e)):=by
 obtain⟨o,i,b,m⟩:=jt n;unfold gn at f;simp only[b,QY,Q4]at f;obtain⟨a,g,k⟩:=f;have j:a.cells=#[z]:=by apply Rb;simpa using k
 have d:v.cells=#[v]:=lX p;have h:(zeroValue e).run prog w=.ok a w:=by simp[zeroValue,typeInfo,b,g]
 have c:(sizeOf e).run prog w=.ok 1 w:=by simp[sizeOf,typeInfo,b,m]
 have l:Instr.fill (λx=>some (x*1,1)) ((Array.range (1*1)).map λx=>a.cells[x%a.cells.size]!) [(0,v)]=some #[v]:=by
  rw[j];simp only[Instr.fill,d];rw[if_neg F,show Array.range (1*1)=#[0] by decide];simp
 simp only[Instr.buildSlice,Sem.run_bind,run_underlying o,Result.andThen_ok,c,gt_iff_lt];rw[if_neg I,if_neg I];simp only[Sem.run_bind,h,Result.andThen_ok,Sem.run_pure,l,newRow,newObj];rfl
def bs(l:List UInt8):ByteArray:=⟨l.toArray⟩
section
variable {w0:World} {G0:Bse} {o:Oper} {S:St}
def DO{t e:TypeId}{x:Operand}{v:Value}{k:Nat}(u:o.op=.buildSlice t 1 #[(0,x)])(hd:df S.n o.dst=true)(D:ic prog t=some (e,1))(I:nY prog t=some (e,1,k))(E:gn prog e=some [z])(r:S.ev x=.sc v)(y:v.oneCell'=true)(B:cj v=true):qi w0 G0 o S ({S with rs:=S.rs++[some (⟨e,1,[.sc v],true⟩:Row)]}.put o.dst (.own S.rs.length)):=by
 rintro a w ⟨bx,rv,d,q,l,j⟩;have b:=(bY (op:=o.op) (T:=λs=>a.tmps.getD s undef) (S:=S) (λs _=>j s) r (by rw[u];simp[Op.operands])).isSc;generalize (λs=>a.tmps.getD s undef)=T at b⊢;have f:=World.ownsRow_lit (base:=w.heap.size) (e:=e) (size:=1) w #[v] 1 (Qi _) (by simp only[maxLen];omega) F;have C:Below w.heap.size w (w.alloc (.cells #[v] e)):=(Below.refl _ _).alloc (Qi _) _;have p:∀g,(Value.slice (some ⟨w.heap.size,0,none⟩) 1 1).ownBlock=some g->NoDigB (w.alloc (.cells #[v] e)) g:=λg m=>by
  injection m with m
  subst m;exact fe (heap_alloc_new w _) (by simp[B])
 obtain⟨G,H⟩:=d.addRow (R:=⟨e,1,[.sc v],true⟩) (v:=.slice (some ⟨w.heap.size,0,none⟩) 1 1) C (by simpa using f) (.sc v .nil) ⟨λx r=>(by rw[QP.1 r];rfl),λ_ A n c e=>(by cases e;rfl)⟩ p;refine OpRuns.of_ok (v:=.slice (some ⟨w.heap.size,0,none⟩) 1 1) (W':=w.alloc (.cells #[v] e)) ?_ (BN q l hd d.nr G ⟨_,_,_,Z⟩ (λi=>H [_] [_] (j i)) Z);have h:=TH (w:=w) D E y;simp[execOp,u,b,h]
end
def vB{w0:World}{G0:Bse}{o:Oper}{ops:Array Oper}{a:List Oper}{Q:Exit->St->Prop}{n d k:Nat}{sl:List (Nat×Tree)}{bs:List (TypeId×List Tree)}{rs rs':List (Option Row)}{t e:TypeId}{x:Operand}{v:Value}{b:Nat}(m:o.op=.buildSlice t 1 #[(0,x)])(i:o.guard=none)(hd:o.dst=some d)(l:Nat.blt d n=true)(h:ic prog t=some (e,1))(p:nY prog t=some (e,1,b))(r:gn prog e=some [z])(q:St.ev ⟨n,sl,bs,rs⟩ x=.sc v)(f:v.oneCell'=true)(g:cj v=true)(j:rs.length=k)(c:rs++[some ⟨e,1,[.sc v],true⟩]=rs')(K:AOps w0 G0 ops a Q ⟨n,(d,.own k)::sl,bs,rs'⟩):AOps w0 G0 ops (o::a) Q ⟨n,sl,bs,rs⟩:=by
 subst j c;refine eA i (DO (S:=⟨n,sl,bs,rs⟩) m (by rw[hd];simpa[df,Q7]using l) h p r q f g) ?_;rw[hd];exact K
section
variable {w0:World} {G0:Bse} {o:Oper} {S:St}
def xx{t e:TypeId}{d m:Nat}{parts:Array (Nat×Operand)}{zs:List Value}{qs:List (Nat×Tree)}{es:List Tree}(ho:o.op=.buildSlice t d parts)(hd:df S.n o.dst=true)(ht:ic prog t=some (e,m))(F:gn prog e=some zs)(a0:zs.length=m)(h0:0<d*m)(a2:d*m<=16777216)
  (hq:parts.toList.map (λp=>(p.1,S.ev p.2))=qs) (y:(qs.all λq=>q.2.oneA)=true) (U:(flat es).all Tree.plain0=true) (hr:ln (λi=>some (i*m,m)) (((List.range (d*m)).map λi=>zs[i%m]!).map c7) qs=some (flat es)) (hl:es.length=d) (j:Sized m es) (Q:(flat es).all Tree.noDig=true):
  qi w0 G0 o S ({S with rs:=S.rs++[some (⟨e,m,es,true⟩:Row)]}.put o.dst (.own S.rs.length)):=by
 rintro a w ⟨bx,rv,l,X,J,D⟩;have hT:∀s,(ew o.op).contains s=true->FT (en w G0 bx rv S.rs) [(λs=>a.tmps.getD s undef) s] [S.get s]:=λs _=>D s
 generalize a3:(λs=>a.tmps.getD s undef)=T at hT⊢;have hf:=lp (S:=S) hT parts.toList (λp hp=>by rw[ho];simp only[Op.operands,RH];exact⟨p,hp,Z⟩);obtain⟨hu,i,M,rfl⟩:=jt ht;unfold gn at F;simp only[M,QY,Q4]at F;obtain⟨z,F,rfl⟩:=F;rw[hq]at hf;have a1:z.cells.size=i.size:=by simpa using a0
 have f:((Array.range (d*i.size)).map λx=>z.cells[x%z.cells.size]!).toList=(List.range (d*i.size)).map λx=>z.cells.toList[x%i.size]! :=by
  rw[a1];simp only[R7,Te];refine SE λa _=>?_
  rw[SR,QG,S6,QO]
 obtain⟨us,h1,H⟩:=nV (E:=en w G0 bx rv S.rs) (place:=λx=>some (x*i.size,i.size)) (ps:=parts.toList.map λp=>(p.1,eX T p.2)) (qs:=qs) (cells:=(Array.range (d*i.size)).map λx=>z.cells[x%z.cells.size]!) (ts:=((List.range (d*i.size)).map λx=>z.cells.toList[x%i.size]!).map c7) (by rw[<-hq];simp) hf y (.of (by rw[f];exact nW _ _ _)) hr;have C:(Instr.buildSlice t d (parts.map λp=>(p.1,eX T p.2))).run prog w=.ok (.slice (some ⟨w.heap.size,0,none⟩) d d) (w.alloc (.cells us e)):=by
  have Y:(zeroValue e).run prog w=.ok z w:=by simp[zeroValue,typeInfo,M,F]
  have W:(sizeOf e).run prog w=.ok i.size w:=by simp[sizeOf,typeInfo,M]
  have G:Instr.fill (λx=>some (x*i.size,i.size)) ((Array.range (d*i.size)).map λx=>z.cells[x%z.cells.size]!) (parts.map λp=>(p.1,eX T p.2)).toList=some us:=by
   rw[<-h1];simp
  have e1:¬2^24<d*i.size:=O
  have e2:¬d*i.size=0:=O
  simp only[Instr.buildSlice,Sem.run_bind,run_underlying hu,Result.andThen_ok,W,gt_iff_lt,if_neg e1,if_neg e2,Y,Sem.run_pure,G,newRow,newObj];rfl
 have k:us.size=(flat es).length:=by have:=H.length;simpa using this
 have P:d<=maxLen:=by
  have h5:0<i.size:=RN λh=>by rw[h]at h0;omega
  have:=SN d h5;unfold maxLen;omega
 have K:(flat es).length=d*i.size:=by rw[j.flat,hl]
 have B:=World.ownsRow_lit (base:=w.heap.size) (e:=e) (size:=i.size) w us d (Qi _) P (by rw[k,K]);have I:Below w.heap.size w (w.alloc (.cells us e)):=(Below.refl _ _).alloc (Qi _) _;have r:∀g,(Value.slice (some ⟨w.heap.size,0,none⟩) d d).ownBlock=some g->NoDigB (w.alloc (.cells us e)) g:=λg L=>by
  injection L with L
  subst L;exact fe (heap_alloc_new w _) (H.noDigs Q)
 have V:PT w (GG G0 bx rv S.rs) us.toList (flat es):=H.plain0s U;have u:PT (w.alloc (.cells us e)) (λb=>GG G0 bx rv S.rs b\/(Value.slice (some ⟨w.heap.size,0,none⟩) d d).ownBlock=some b) us.toList (flat es):=V.mono I.size λb N hG=>⟨I.block b N,λh=>h.elim hG λh=>by
  have h:some w.heap.size=some b:=h;injection h with h
  omega⟩
 obtain⟨m1,m2⟩:=l.addRow (R:=⟨e,i.size,es,true⟩) (v:=.slice (some ⟨w.heap.size,0,none⟩) d d) I (by rw[hl];exact B) u ⟨j,λ_ A n c e=>(by cases e;rfl)⟩ r;refine OpRuns.of_ok (v:=.slice (some ⟨w.heap.size,0,none⟩) d d) (W':=w.alloc (.cells us e)) ?_ (BN X J hd l.nr m1 ⟨_,_,_,Z⟩ (λi=>m2 [_] [_] (D i)) Z);simp[execOp,ho,C]
end
def iX{w0:World}{G0:Bse}{o:Oper}{ops:Array Oper}{b:List Oper}{Q:Exit->St->Prop}{n d k:Nat}{sl:List (Nat×Tree)}{bs:List (TypeId×List Tree)}{rs rs':List (Option Row)}{t e:TypeId}{a m:Nat}{parts:Array (Nat×Operand)}{s:List Value}{qs:List (Nat×Tree)}{es:List Tree}(y:o.op=.buildSlice t a parts)(v:o.guard=none)(hd:o.dst=some d)(x:Nat.blt d n=true)(B:ic prog t=some (e,m))(C:gn prog e=some s)(r:s.length=m)(u:0<a*m)(g:a*m<=16777216)
  (z:parts.toList.map (λp=>(p.1,St.ev ⟨n,sl,bs,rs⟩ p.2))=qs) (c:(qs.all λq=>q.2.oneA)=true) (j:(flat es).all Tree.plain0=true) (A:ln (λi=>some (i*m,m)) (((List.range (a*m)).map λi=>s[i%m]!).map c7) qs=some (flat es)) (hl:es.length=a) (f:Sized m es) (h:(flat es).all Tree.noDig=true) (w:rs.length=k) (l:rs++[some ⟨e,m,es,true⟩]=rs') (K:AOps w0 G0 ops b Q ⟨n,(d,.own k)::sl,bs,rs'⟩):AOps w0 G0 ops (o::b) Q ⟨n,sl,bs,rs⟩:=by
 subst w l;refine eA v (xx (S:=⟨n,sl,bs,rs⟩) y (by rw[hd];simpa[df,Q7]using x) B C r u g z c j A hl f h) ?_;rw[hd];exact K
def iE(a b:Int):Int:=if a<b then-1 else if b<a then 1 else 0
def Jg{a b:Int}(h:a<b):iE a b= -1:=by simp[iE,h]
def Jh{a b:Int}(h:b<a):iE a b=1:=by simp[iE,h,show¬a<b by omega]
def Ji{a b:Int}(c:¬a<b)(d:¬b<a):iE a b=0:=by simp[iE,c,d]
def Mn(a b c:Int):Int:=if a≠0 then a else if b≠0 then b else c
def rB(n:Int)(w:World):
  Calls prog 281 #[.int .i64 n] w λe w'=>e=.returned (.agg #[.int .i64 1,.int .i64 n,.string ⟨#[]⟩])/\Below w.heap.size w w':=by
 go_enter func281,ntmps281
 go_wp2
 exact bodyPost_ret (v:=.agg #[.int .i64 1,.int .i64 n,.string ⟨#[]⟩]) (by simp[results,results281,go_sem]) Z ⟨Z,(Below.refl _ _).alloc (Qi _) _⟩
def jN(s:ByteArray)(w:World):
  Calls prog 279 #[.string s] w λe w'=>e=.returned (.agg #[.int .i64 2,.int .i64 0,.string s])/\Below w.heap.size w w':=by
 go_enter func279,ntmps279
 go_wp2
 exact bodyPost_ret (v:=.agg #[.int .i64 2,.int .i64 0,.string s]) (by simp[results,results279,go_sem]) Z ⟨Z,(Below.refl _ _).alloc (Qi _) _⟩
def m7(ta na:Int)(sa:ByteArray)(tb nb:Int)(sb:ByteArray):Int:=Mn (iE ta tb) (iE na nb) (Lib.compareBytes sa.data.toList sb.data.toList)
def nO(c:UInt8):Bool:=decide (32<=c.toNat/\c.toNat<=126)
def bz(t n:Int)(s:ByteArray):Bool:=
 if t=1 then s.data.toList.isEmpty else decide (t=2)&&decide (n=0)&&decide (s.size<=64)&&s.data.toList.all nO
def mL(s:ByteArray)(k:Nat)(h:k<s.size):(s.data.toList.take (k+1)).all nO=((s.data.toList.take k).all nO&&nO s[k]):=by
 rw[Ro (by simpa using h),Se];simp;rfl
def jz{l:List UInt8}(k:Nat)(h:(l.take k).all nO=false):l.all nO=false:=by
 rw[TS]at h⊢;obtain⟨x,b,a⟩:=h;exact⟨x,Ra b,a⟩
def DP(n:Int)(s:ByteArray)(w:World):
  Calls prog 59 #[.agg #[.int .i64 1,.int .i64 n,.string s]] w λe w'=>e=.returned (.bool (bz 1 n s))/\Below w.heap.size w w':=by
 go_enter func59,ntmps59
 go_wp2
 go_ret
 exact⟨by simp[bz,Lib.toList_data],(Below.refl _ _).alloc (Qi _) _⟩
def xy(t n:Int)(s:ByteArray)(w:World)(b:t≠1)(a:t≠2):
  Calls prog 59 #[.agg #[.int .i64 t,.int .i64 n,.string s]] w λe w'=>e=.returned (.bool (bz t n s))/\Below w.heap.size w w':=by
 have c:=J (show bz t n s=false by simp[bz,b,a]);have d:(t==1)=false:=by simpa using b
 have f:(t !=2)=true:=by simpa using a
 have g:(t==2)=false:=by simpa using a
 clear b a
 go_enter func59,ntmps59
 go_wp2
 go_ret
 exact⟨by rw[c.out];rfl,(Below.refl _ _).alloc (Qi _) _⟩
def DQ(n:Int)(s:ByteArray)(w:World)(h:n≠0):
  Calls prog 59 #[.agg #[.int .i64 2,.int .i64 n,.string s]] w λe w'=>e=.returned (.bool (bz 2 n s))/\Below w.heap.size w w':=by
 have a:=J (show bz 2 n s=false by simp[bz,h]);have b:(n==0)=false:=by simpa using h
 have c:(n !=0)=true:=by simpa using h
 clear h
 go_enter func59,ntmps59
 go_wp2
 go_ret
 exact⟨by rw[a.out];rfl,(Below.refl _ _).alloc (Qi _) _⟩
def zJ(s:ByteArray)(w:World)(h:64<s.size):
  Calls prog 59 #[.agg #[.int .i64 2,.int .i64 0,.string s]] w λe w'=>e=.returned (.bool (bz 2 0 s))/\Below w.heap.size w w':=by
 have a:=J (show bz 2 0 s=false by simp[bz];omega)
 go_enter func59,ntmps59
 go_wp2
 go_ret
 exact⟨by rw[a.out];rfl,(Below.refl _ _).alloc (Qi _) _⟩
def DR(s:ByteArray)(w:World)(h:s.size<=64):
  Calls prog 59 #[.agg #[.int .i64 2,.int .i64 0,.string s]] w λe w'=>e=.returned (.bool (bz 2 0 s))/\Below w.heap.size w w':=by
 have c:=J (show bz 2 0 s=s.data.toList.all nO by simp[bz,h])
 go_enter func59,ntmps59
 go_wp2
 go_loop [3] (λi=>∃k:Nat,k<=s.size/\(s.data.toList.take k).all nO=true/\i=.int .i64 k) (λi=>s.size-(intOf i).toNat)
 case atStart=>exact⟨0,QF _,F,Z⟩
 case round=>
  obtain⟨k,m,a,rfl⟩:=hrel;have g:=J a;clear a;by_cases f:k<s.size
  ·have d:=J (mL s k f);by_cases j:32<=s[k].toNat
   ·by_cases l:s[k].toNat<=126
    ·have b:=J (show nO s[k]=true by simp[nO,j,l])
     go_wp2
     go_round
     case rel=>exact⟨k+1,O,by rw[d.out,g.out,b.out];rfl,by go_num⟩
     case measure=>simp[intOf];omega
    have b:=J (show s.data.toList.all nO=false from jz (k+1) (by rw[d.out];simp[nO,l]))
    go_wp2
    go_ret
    exact⟨by rw[c.out,b.out];rfl,(Below.refl _ _).alloc (Qi _) _⟩
   have b:=J (show s.data.toList.all nO=false from jz (k+1) (by rw[d.out];simp[nO,j]))
   go_wp2
   go_ret
   exact⟨by rw[c.out,b.out];rfl,(Below.refl _ _).alloc (Qi _) _⟩
  have b:=J (show s.data.toList.all nO=true by have:=g.out;rwa[QU (by simp;omega)]at this)
  go_wp2
  go_ret
  exact⟨by rw[c.out,b.out];rfl,(Below.refl _ _).alloc (Qi _) _⟩
def gf(t n:Int)(s:ByteArray)(w:World):
  Calls prog 59 #[.agg #[.int .i64 t,.int .i64 n,.string s]] w λe w'=>e=.returned (.bool (bz t n s))/\Below w.heap.size w w':=by
 by_cases b:t=1
 ·subst b;exact DP n s w
 by_cases c:t=2
 ·subst c;by_cases d:n=0
  ·subst d;rcases Rm 64 s.size with a|a
   ·exact zJ s w a
   exact DR s w a
  exact DQ n s w d
 exact xy t n s w b c
def V.ok(v:V):Bool:=bz v.t v.n v.s
end Go.Proofs.YtmhcanmapkenbaaGreatDoor
namespace Go.Proofs.YtmhcanmapkenbaaGreatDoor
def iY(a b:List UInt8):(⟨a.toArray⟩++⟨b.toArray⟩:ByteArray)=⟨(a++b).toArray⟩:=by apply SD;simp[RJ]
def kz(s:ByteArray):(⟨s.data.toList.toArray⟩:ByteArray)=s:=by apply SD;simp
def qu(old new s:List UInt8):List UInt8:=Lib.replaceK old new (Lib.count s old) s
def eB{old a:List UInt8}(s:List UInt8)(h:(old==a)=false):Lib.replaceAll s old a=qu old a s:=by
 simp[Lib.replaceAll,Lib.replace,h,qu,Lib.replaceNum]
def qv{old b:List UInt8}(h:old≠ []):qu old b []=[]:=by
 have c:Lib.index [] old= -1:=by cases old with|nil=>exact absurd Z h|cons a t=>rfl
 rw[qu,Lib.count_miss c];rfl
def vC{old a s:List UInt8}(h:old≠ [])(d:old.isPrefixOf s=true):qu old a s=a++qu old a (s.drop old.length):=by
 have b:Lib.index s old=(0:Nat):=Lib.index_first (i:=0) (QF _) (by simpa[Lib.occAt]using d) (λ_ h=>absurd h (RZ _));have c:=Lib.count_hit h b;rw[qu,c,Sb,Lib.replaceK_hit old a _ s 0 b];simp[qu]
def n6{old b:List UInt8}{c:UInt8}{l:List UInt8}(h:old≠ [])(k:old.isPrefixOf (c::l)=false):qu old b (c::l)=c::qu old b l:=by
 have f:Lib.index (c::l) old=if Lib.index l old== -1 then-1 else Lib.index l old+1:=by rw[Lib.index,k];rfl
 rcases Lib.index_spec l old with⟨d,_⟩|⟨i,d,_⟩
 ·rw[d]at f;have a:Lib.index (c::l) old= -1:=f;rw[qu,qu,Lib.count_miss a,Lib.count_miss d];rfl
 have a:Lib.index (c::l) old=((i+1:Nat):Int):=by
  rw[f,d,if_neg F];omega
 have e:(c::l).drop (i+1+old.length)=l.drop (i+old.length):=by
  rw[show i+1+old.length=(i+old.length)+1 by omega];rfl
 have g:=Lib.count_hit h a;have j:=Lib.count_hit h d;rw[e]at g;rw[qu,qu,g,j,Sb,Lib.replaceK_hit old b _ _ (i+1) a,Lib.replaceK_hit old b _ _ i d,e];simp
def gG:List UInt8->List UInt8
 |[]=>[]
 |c::l=>if c=39 then 39::39::gG l else c::gG l
def qw:∀s:List UInt8,qu [39] [39,39] s=gG s
 |[]=>qv F
 |c::l=>by
  by_cases a:c=39
  ·subst a;rw[vC F F];simp[gG,qw l]
  rw[n6 (old:=[39]) (c:=c) (l:=l) F (by rw[List.isPrefixOf];simp[Ne.symm a])];simp[gG,a,qw l]
def po:∀s:List UInt8,qu [39,39] [39] (gG s)=s
 |[]=>qv F
 |c::l=>by
  by_cases a:c=39
  ·subst a;rw[show gG (39::l)=39::39::gG l by simp[gG]];rw[vC F F];simp[po l]
  rw[show gG (c::l)=c::gG l by simp[gG,a]];rw[n6 (old:=[39,39]) (c:=c) (l:=gG l) F (by rw[List.isPrefixOf];simp[Ne.symm a])];simp[po l]
def gX:∀s:List UInt8,(gG s).length<=2*s.length
 |[]=>by simp[gG]
 |c::l=>by
  have:=gX l;by_cases a:c=39<;>simp[gG,a]<;>omega
def mM(M:Nat):∀(l r:List UInt8) (acc a:Nat),Lib.parseUintM M acc l=.ok a->Lib.parseUintM M acc (l++r)=Lib.parseUintM M a r
 |[],r,acc,a,h=>by simp[Lib.parseUintM]at h;subst h;rfl
 |c::l,r,acc,a,h=>by
  simp only[Lib.parseUintM,Rj]at h⊢;split at h
  ·rename_i h1;rw[if_pos h1];split at h
   ·cases h
   rename_i h2;rw[if_neg h2];split at h
   ·cases h
   rename_i h3;rw[if_neg h3];exact mM M l r _ a h
  cases h
def ii(d:Nat)(h:d<10):(UInt8.ofNat (48+d)).toNat=48+d:=by
 simp[SJ];omega
def rC(M:Nat)(a:M<=18446744073709551615):∀(k u:Nat),u<=k->u<=M->Lib.parseUintM M 0 (Lib.decDigits u)=.ok u
 |k,u,hk,hu=>by
  by_cases h:u<10
  ·rw[Lib.decDigits,dif_pos h];simp only[Lib.parseUintM,ii u h];rw[if_pos O,if_neg O,if_neg O];congr 1;omega
  rw[Lib.decDigits,dif_neg h]
  match k,hk with
  |0,hk=>omega
  |k+1,hk=>
   have b:=rC M a k (u/10) O O;rw[mM M _ _ _ _ b];have hd:u%10<10:=O
   simp only[Lib.parseUintM,ii _ hd];rw[if_pos O,if_neg O,if_neg O];congr 1;omega
def n7:∀(k u:Nat),u<=k->∃c r,Lib.decDigits u=c::r/\48<=c.toNat/\c.toNat<=57
 |k,u,hk=>by
  by_cases h:u<10
  ·rw[Lib.decDigits,dif_pos h];exact⟨_,_,Z,by rw[ii u h];omega,by rw[ii u h];omega⟩
  rw[Lib.decDigits,dif_neg h]
  match k,hk with
  |0,hk=>omega
  |k+1,hk=>
   obtain⟨c,r,e,a,b⟩:=n7 k (u/10) O;exact⟨c,r++[_],by rw[e];rfl,a,b⟩
def rD(u:Nat)(h:u<=18446744073709551615):Lib.parseUintB 64 (Lib.decDigits u)=.ok u:=by
 obtain⟨c,r,e,_,_⟩:=n7 u u (Qi _);have a:(2^64-1:Nat)=18446744073709551615:=I
 rw[Lib.parseUintB,if_neg (by rw[e];simp),a];exact rC _ (Qi _) u u (Qi _) h
def zK(n:Int)(f: -9223372036854775808<=n)(g:n<=9223372036854775807):Lib.parseIntB 64 (Lib.itoa n)=.ok n:=by
 have a:(2^(64-1):Nat)=9223372036854775808:=I
 by_cases h:n<0
 ·rw[Lib.itoa,if_pos h];simp only[Lib.parseIntB];rw[if_pos (Or.inr I),rD _ O];have d:(45:UInt8).toNat=45:=I
  simp only[a,d];rw[if_neg F,if_neg (by simp;omega),if_pos trivial];congr 1;omega
 rw[Lib.itoa,if_neg h];obtain⟨c,r,e,i,j⟩:=n7 n.toNat n.toNat (Qi _);have b:=rD n.toNat O;rw[e]at b⊢;simp only[Lib.parseIntB];rw[if_neg O,b];simp only[a];rw[if_neg O,if_neg O,if_neg O];congr 1;omega
def pp(n:Int):∃c r,Lib.itoa n=c::r/\c≠39:=by
 by_cases h:n<0
 ·exact⟨45,_,by rw[Lib.itoa,if_pos h],I⟩
 obtain⟨c,r,e,a,_⟩:=n7 n.toNat n.toNat (Qi _);exact⟨c,r,by rw[Lib.itoa,if_neg h,e],λe=>by subst e;simp at a⟩
def gP:∀a b:List UInt8,Lib.compareBytes b a= -Lib.compareBytes a b
 |[],[]=>rfl
 |[],_::_=>rfl
 |_::_,[]=>rfl
 |x::a,y::b=>by
  have e:=gP a b;simp only[Lib.compareBytes,S4];by_cases c:x.toNat<y.toNat
  ·rw[if_neg O,if_pos c,if_pos c];rfl
  by_cases d:y.toNat<x.toNat
  ·rw[if_pos d,if_neg c,if_pos d]
  rw[if_neg d,if_neg c,if_neg c,if_neg d];exact e
def fX:∀a b:List UInt8,Lib.compareBytes a b=0↔a=b
 |[],[]=>by simp[Lib.compareBytes]
 |[],_::_=>by simp[Lib.compareBytes]
 |_::_,[]=>by simp[Lib.compareBytes]
 |x::a,y::b=>by
  have e:=fX a b;simp only[Lib.compareBytes,S4];by_cases c:x.toNat<y.toNat
  ·rw[if_pos c];constructor
   ·intro h;omega
   intro h;injection h with h _;subst h;omega
  by_cases d:y.toNat<x.toNat
  ·rw[if_neg c,if_pos d];constructor
   ·intro h;omega
   intro h;injection h with h _;subst h;omega
  rw[if_neg c,if_neg d,e];have:x=y:=Sf.1 O;simp[this]
def iZ:∀a b:List UInt8,Lib.compareBytes a b= -1\/Lib.compareBytes a b=0\/Lib.compareBytes a b=1
 |[],[]=>by simp[Lib.compareBytes]
 |[],_::_=>by simp[Lib.compareBytes]
 |_::_,[]=>by simp[Lib.compareBytes]
 |x::a,y::b=>by
  have c:=iZ a b;simp only[Lib.compareBytes];split
  ·simp
  split
  ·simp
  exact c
end Go.Proofs.YtmhcanmapkenbaaGreatDoor
namespace Go.Proofs.YtmhcanmapkenbaaGreatDoor
open Go.RowKit
def kA(a b:Int):iE a b= -1/\a<b\/iE a b=0/\a=b\/iE a b=1/\b<a:=by grind [iE]
def l9{a b c:Int}(h:a≠0):Mn a b c=a:=by simp[Mn,h]
def kB{b c:Int}(h:b≠0):Mn 0 b c=b:=by simp[Mn,h]
def uj(c:Int):Mn 0 0 c=c:=by simp[Mn]
def Jj(ta d:Int)(b:ByteArray)(f nb:Int)(c:ByteArray):m7 ta d b f nb c=0↔ta=f/\d=nb/\b=c:=by
 have g:=fX b.data.toList c.data.toList;have i:b.data.toList=c.data.toList↔b=c:=⟨λh=>by rw[<-kz b,<-kz c,h],λh=>by rw[h]⟩;unfold m7;rcases kA ta f with⟨e,h⟩|⟨e,h⟩|⟨e,h⟩<;>rw[e]
 ·rw[l9 I];constructor
  ·intro a;omega
  rintro⟨a,_⟩;omega
 ·rcases kA d nb with⟨e,a⟩|⟨e,a⟩|⟨e,a⟩<;>rw[e]
  ·rw[kB I];constructor
   ·intro a;omega
   rintro⟨_,a,_⟩;omega
  ·rw[uj,g,i];exact⟨λx=>⟨h,a,x⟩,λx=>x.2.2⟩
  rw[kB I];constructor
  ·intro a;omega
  rintro⟨_,a,_⟩;omega
 rw[l9 I];constructor
 ·intro a;omega
 rintro⟨a,_⟩;omega
def Fl(a b:V):Int:=m7 a.t a.n a.s b.t b.n b.s
def BO(acc:List Nat):List Edge->Nat->Nat
 |[],m=>m
 |e::l,m=>BO acc l (if Region.binds .any e then m|||((1<<<e.on)|||acc.getD e.on 0)else m)
def Jk(acc:List Nat)(o:Oper):List Nat:=acc++[BO acc o.after.toList 0]
def PG(l:List Oper):List Nat:=l.foldl Jk []
def Jl(l:List Oper)(i j:Nat):Bool:=((PG l).getD i 0).testBit j
def Oo(B:Nat)(W W':World):Bool->Prop
 |true=>Below B W W'/\W.heap.size<=W'.heap.size
 |false=>Below W.heap.size W W'
def Mo(l:List Oper)(cons:List (Option Nat))(i j:Nat):Bool:=
 match cons.getD j none with
 |none=>true
 |some c=>c==i||Jl l c i
inductive PureF:List (Value->World->Prop)->List Bool->Prop
 |nil:PureF [] []
 |eq {x:Value} {l:List (Value->World->Prop)} {p:List Bool} (h:PureF l p):PureF ((λv _=>v=x)::l) (true::p)
 |any {f:Value->World->Prop} {l:List (Value->World->Prop)} {p:List Bool} (h:PureF l p):PureF (f::l) (false::p)
structure MonoC (F:List (Value->World->Prop)) (cons:List (Option Nat)) (B:Nat) (w:World) (init:List Value) (L:Array Bool) (us:List Value) (W:World):Prop where
 len:us.length=init.length
 fact:∀j,L.getD j false=true->(∀c,cons.getD j none=some c->L.getD c false=false)->jK F j (us.getD j undef) W
 old:∀j,L.getD j false=false->us.getD j undef=init.getD j undef
 below:Below B w W
 size:B<=W.heap.size
structure GivenC (l:List Oper) (dsts:List (Option Nat)) (t:Array Value) (F:List (Value->World->Prop)) (cons:List (Option Nat)) (B:Nat) (w:World) (i:Nat) (T:Nat->Value) (W:World):Prop where
 keep:∀s,dsts.contains (some s)=false->T s=t.getD s undef
 fact:∀j s,(j !=i&&Jl l i j&&Mo l cons i j&&dsts[j]? ==some (some s))=true->jK F j (T s) W
 old:∀j s,((j==i||Jl l j i)&&dsts[j]? ==some (some s))=true->T s=t.getD s undef
 below:Below B w W
 size:B<=W.heap.size
def Mp(l:List Oper)(dsts:List (Option Nat))(F:List (Value->World->Prop))(cons:List (Option Nat))(i:Nat):Option (Nat×Bool)->Prop
 |none=>True
 |some (j,b)=>∃s,(j !=i&&Jl l i j&&cons.getD j none==none&&dsts[j]? ==some (some s))=true/\∀v W,jK F j v W->v=.bool b
def Oq(P:Program)(l:List Oper)(dsts:List (Option Nat))(t:Array Value)(F:List (Value->World->Prop))(cons:List (Option Nat))(ap:List Nat)(B:Nat)(w:World)(i:Nat)(o:Oper):Prop:=
 Mp l dsts F cons i o.guard/\∀(T:Nat->Value) (W:World),GivenC l dsts t F cons B w i T W->OpRuns P o T W λv W'=>jK F i v W'/\Oo B W W' (ap.contains i)
inductive StepsC (P:Program) (l:List Oper) (dsts:List (Option Nat)) (t:Array Value) (F:List (Value->World->Prop)) (cons:List (Option Nat)) (ap:List Nat) (B:Nat) (w:World):Nat->List Oper->Prop
 |nil {i:Nat}:StepsC P l dsts t F cons ap B w i []
 |cons' {i:Nat} {o:Oper} {r:List Oper} (h:Oq P l dsts t F cons ap B w i o) (hs:StepsC P l dsts t F cons ap B w (i+1) r):StepsC P l dsts t F cons ap B w i (o::r)
section
variable {P:Program} {l:List Oper} {dsts:List (Option Nat)} {t:Array Value} {F:List (Value->World->Prop)} {cs:List (Option Nat)} {ap:List Nat} {B:Nat} {w:World}
end
def a8:List Nat->Nat
 |[]=>0
 |d::l=>d+4294967296*a8 l
def iF(l:List Nat):Prop:=∀d∈l,d<4294967296
def pP:Nat->Nat->List Nat
 |0,_=>[]
 |k+1,n=>if n=0 then []else(n%4294967296)::pP k (n/4294967296)
def aP(n:Nat):List Nat:=pP n n
def n8:∀(k m n:Nat),n<=k->n<=m->pP k n=pP m n
 |0,m,n,hk,_=>by
  obtain rfl:n=0:=O
  cases m<;>simp[pP]
 |k+1,0,n,_,hm=>by
  obtain rfl:n=0:=O
  simp[pP]
 |k+1,m+1,n,hk,hm=>by
  simp only[pP];split
  ·rfl
  rw[n8 k m (n/4294967296) O O]
def j0:aP 0=[]:=rfl
def iO{n:Nat}(h:n≠0):aP n=(n%4294967296)::aP (n/4294967296):=by
 unfold aP;obtain⟨k,rfl⟩:∃k,n=k+1:=⟨n-1,O⟩;rw[pP,if_neg h,n8 k ((k+1)/4294967296) _ O (Qi _)]
def bS(n:Nat):a8 (aP n)=n:=by
 induction n using Nat.strongRecOn with
 |ind n ih=>
  by_cases h:n=0
  ·subst h;rfl
  rw[iO h,a8,ih (n/4294967296) O];omega
def dA(n:Nat):iF (aP n):=by
 induction n using Nat.strongRecOn with
 |ind n ih=>
  by_cases h:n=0
  ·subst h;intro d hd;simp[j0]at hd
  rw[iO h];intro d hd;rcases Qw.1 hd with rfl|hd
  ·omega
  exact ih (n/4294967296) O d hd
def Fm{n:Nat}:aP n=[]↔n=0:=by
 constructor
 ·intro h;have:=bS n;rw[h]at this;exact this.symm
 rintro rfl;rfl
def dK{n:Nat}:(aP n).length=0↔n=0:=by rw[Rz,Fm]
def BP:∀(l:List Nat),iF l->(∀h:l≠ [],l.getLast h≠0)->l=aP (a8 l)
 |[],_,_=>rfl
 |d::l,hd,hl=>by
  have a:d<4294967296:=hd d (Qs ..);cases l with
  |nil=>
   have f:d≠0:=hl F;simp only[a8,TL,RQ];rw[iO f,RC a,Sn a,j0]
  |cons c l=>
   have b:=BP (c::l) (λx g=>hd x (QA _ g)) (λh=>by have:=hl F;rwa[List.getLast_cons h]at this);have i:a8 (c::l)≠0:=λe=>by rw[e,j0]at b;cases b
   generalize c::l=m at*;simp only[a8];rw[iO O,show(d+4294967296*a8 m)%4294967296=d by omega,show(d+4294967296*a8 m)/4294967296=a8 m by omega,<-b]
def ij:∀(a b:List Nat),a8 (a++b)=a8 a+4294967296^a.length*a8 b
 |[],b=>by simp[a8]
 |d::a,b=>by
  have:=ij a b;simp only[Rj,a8,this,Qn,Rw,RS];rw[RR (4294967296^a.length) 4294967296,Rt];omega
def m8:∀(l:List Nat),(∀d∈l,d=0)->a8 l=0
 |[],_=>rfl
 |d::l,h=>by
  have a:=h d (Qs ..);have b:=m8 l (λx c=>h x (QA _ c));simp[a8,a,b]
def DS(ds:List Nat)(k:Nat)(m:k<=ds.length)(hd:iF ds)(f:∀(j:Nat) (g:j<ds.length),k<=j->ds[j]=0)(hl:k=0\/∃h:k-1<ds.length,ds[k-1]≠0):ds.take k=aP (a8 ds):=by
 have e:a8 ds=a8 (ds.take k):=by
  rw[<-R3 k ds,ij,m8 (ds.drop k),R3]
  ·simp
  intro d a;obtain⟨j,g,rfl⟩:=So a;rw[TT];exact f _ _ O
 rw[e];refine BP _ (λd a=>hd d (Ra a)) λh=>?_
 rcases hl with rfl|⟨l,c⟩
 ·simp at h
 have i:k≠0:=λe=>by subst e;simp at h
 rw[List.getLast_eq_getElem];have b:(ds.take k).length=k:=by rw[QN];omega
 simp only[List.getElem_take,b];exact c
def eP:∀(l:List Nat),iF l->a8 l<4294967296^l.length
 |[],_=>by simp[a8]
 |d::l,h=>by
  have b:=h d (Qs ..);have c:=eP l (λx a=>h x (QA _ a));simp only[a8,Qn,Rw];omega
def bP{n k:Nat}(h:n<4294967296^k):(aP n).length<=k:=by
 induction k generalizing n with
 |zero=>
  obtain rfl:n=0:=by simpa using h
  simp[j0]
 |succ k ih=>
  by_cases a:n=0
  ·subst a;simp[j0]
  rw[iO a];rw[Rw]at h;have:=ih (n:=n/4294967296) (by rw[S5 I];exact h);simp;omega
def dp{m n:Nat}(h:m<=n):(aP m).length<=(aP n).length:=by
 refine bP ?_;have:=eP (aP n) (dA n);rw[bS]at this;omega
def dq(l:List Nat):List Value:=l.map λ(d:Nat)=>.int .u32 (d:Int)
def fN(l:List Nat):(dq l).length=l.length:=by simp[dq]
def mN(a b:List Nat):dq (a++b)=dq a++dq b:=by simp[dq]
def zL(l:List Nat):∀u∈dq l,u.oneCell'=true:=by
 intro u a;simp only[dq,RH]at a;obtain⟨c,_,rfl⟩:=a;rfl
def rE:(prog.info? 114).map (λi=>(i.zero,i.size,i.bytes))=some (some (.int .u32 0),1,4):=U
def OwnN(w:World)(base:Nat)(v:Value)(l:List Nat):Prop:=w.ownsRow base 114 1 v l.length (dq l)
def OwnN.nil(w:World)(base:Nat):OwnN w base (.slice none 0 0) []:=World.ownsRow_nil _ _ _ _
def OwnN.below{w w':World}{base:Nat}{v:Value}{l:List Nat}(h:OwnN w base v l)(a:Below w.heap.size w w'):OwnN w' base v l:=lU h a
def OwnN.empty(w:World)(base:Nat)(a:base<=w.heap.size):OwnN (w.alloc (.cells #[] 114)) base (.slice (some ⟨w.heap.size,0,none⟩) 0 0) []:=by
 have:=World.ownsRow_lit (base:=base) (e:=114) (size:=1) w #[] 0 a (by simp[maxLen]) F;exact this
structure IsN (W:World) (A:Option Addr) (c:Nat) (l:List Nat):Prop where
 at_:At W W.heap.size A (dq l)
 nil:A=none->l.length=0/\c=0
 cap:l.length<=c
 max:c<=9223372036854775807
 ok:iF l
def IsN.below{W W':World}{A:Option Addr}{c:Nat}{l:List Nat}(h:IsN W A c l)(a:Below W.heap.size W W'):IsN W' A c l:=⟨(h.at_.below a).more a.size,h.nil,h.cap,h.max,h.ok⟩
def OwnN.is{w:World}{base:Nat}{v:Value}{l:List Nat}(h:OwnN w base v l)(hd:iF l):∃A c,v=.slice A l.length c/\IsN w A c l:=by
 rcases h.2 with⟨rfl,a⟩|⟨g,cap,cur,rfl,d,f,a,b,i,j⟩
 ·exact⟨none,0,by rw[a],by
   have:l=[]:=QI a;subst this;exact At.nil _ _ _,λ_=>⟨a,Z⟩,O,O,hd⟩
 exact⟨_,cap,Z,Dx h,λe=>(by cases e),a,by unfold maxLen at b;omega,hd⟩
def IsN.digit{W:World}{A:Option Addr}{c i:Nat}{l:List Nat}(h:IsN W A c l)(g:i<l.length):
  ∃b off,A=some ⟨b,off,none⟩/\b<W.heap.size/\∀(j:Nat) (a:j<l.length),W.cell? ⟨b,off+j,none⟩=some (.int .u32 ((l[j]:Nat):Int)):=by
 obtain⟨b,off,e,d,f⟩:=h.at_ (by rw[fN];omega);exact⟨b,off,e,d,λj a=>f j _ (by simp[dq,Qj a])⟩
def At.takeN{w:World}{B:Nat}{A:Option Addr}{l:List Nat}(h:At w B A (dq l))(m:Nat):At w B A (dq (l.take m)):=λf=>by
 rw[fN,QN]at f;obtain⟨b,off,e,c,d⟩:=h (by rw[fN];omega);refine⟨b,off,e,c,λj u a=>d j u ?_⟩;simp only[dq,List.map_take]at a⊢;rw[QQ]at a;split at a
 ·exact a
 cases a
def rF{ops:Array Oper}{b:List Oper}{o:Oper}{a:Act}{Q:Exit->Act->World->Prop}{w:World}(base:Nat)(v:Value)(l m:List Nat)(A:Option Addr)(c:Nat)
  (s x:Operand) (r:o.op=.call {callee:=.builtin .append,args:=#[s,x],argTypes:=#[25,25]}) (u:Region.wanted o (yielded ops a.tmps)=true)
  (t:a.eval s=v) (y:a.eval x=.slice A m.length c) (f:OwnN w base v l) (g:At w w.heap.size A (dq m)) (e:A=none->m.length=0/\c=0) (hl:l.length+m.length<=1073741824) (d:base<=w.heap.size)
  (h:∀v' w',OwnN w' base v' (l++m)->Grew w w' base v v'->wpList prog ops Q b (a.put o.dst v') w'):wpList prog ops Q (o::b) a w:=by
 obtain⟨z,i,j,k,n⟩:=info_parts rE;refine I1 s x _ 114 z (.int .u32 0) 1 4 r u underlying25 i j k n Z I base v l.length (dq l) t f A m.length c (dq m) y g (by rw[fN];omega) e (zL _) (by simp only[maxLen];omega) O d ?_;intro v' w' p q;refine h v' w' ?_ q;unfold OwnN;rw[mN,QJ];exact p
def ma{ops:Array Oper}{e:List Oper}{o:Oper}{a:Act}{Q:Exit->Act->World->Prop}{w:World}(base:Nat)(v:Value)(l:List Nat)(c:Int)(d:Nat)
  (s x:Operand) (j:o.guard=none) (t:o.op=.call {callee:=.builtin .append,args:=#[s,x],argTypes:=#[25,25]})
  (u:a.eval s=v) (y:a.eval x=.slice (some ⟨w.heap.size,0,none⟩) 1 1) (b:OwnN w base v l) (r:c=d) (hl:l.length<=1073741823) (f:base<=w.heap.size)
  (h:∀v' w',OwnN w' base v' (l++[d])->Grew w w' base v v'->wpList prog ops Q e (a.put o.dst v') w'):
  wpList prog ops Q (o::e) a (w.alloc (.cells #[.int .u32 c] 114)):=by
 obtain⟨z,m,n,p,q⟩:=info_parts rE;refine wpList_append_own_at _ j s x _ t base 114 z (.int .u32 0) 1 4 underlying25 m n p q Z I v l.length (dq l) u (World.ownsRow.alloc b _)
  ⟨w.heap.size,0,none⟩ 1 1 [.int .u32 c] y Z (cell_one_new _ _ _) (by simp[Value.oneCell']) (by simp only[maxLen];omega) O (by simp;omega) ?_
 intro v' w' g k _ i;refine h v' w' ?_ (xn b ⟨_,.inl Z⟩ k i f);subst r;unfold OwnN;rw[mN];simpa[dq]using g
def NatPost(n:Nat)(w:World)(e:Ending)(w':World):Prop:=∃v,e=.returned v/\OwnN w' w.heap.size v (aP n)/\Below w.heap.size w w'
def NatPost.open_{n:Nat}{w:World}{e:Ending}{w':World}(h:NatPost n w e w'):∃A c,e=.returned (.slice A (aP n).length c)/\IsN w' A c (aP n)/\Below w.heap.size w w':=by
 obtain⟨v,b,f,a⟩:=h;obtain⟨A,c,rfl,d⟩:=f.is (dA n);exact⟨A,c,b,d,a⟩
