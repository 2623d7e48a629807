import Derived.Test.YtfoejfohbkmmeaaGreatDoorU49
import Derived.Test.YtfoejfohbkmmeaaGreatDoorU08
import Derived.Test.YtfoejfohbkmmeaaGreatDoorU00
import Derived.Test.YtfoejfohbkmmeaaGreatDoorU46
set_option maxRecDepth 100000
set_option maxHeartbeats 4000000
namespace Go.Proofs.YtfoejfohbkmmeaaGreatDoor
open Go.RowKit
open Lib renaming hid→J
theorem Sd{x y:Operand}(a b:Nat)(c:0<b)(w:World):(do eqGuard .rem 36 x y (.int .u64 (a:Nat)) (.int .u64 (b:Nat));binOp .rem 36 (.int .u64 (a:Nat)) (.int .u64 (b:Nat)):Sem Value).run Tryz.prog w=.ok (.int .u64 ((a%b:Nat):Int)) w:=by
 go_simp;rw[if_neg (by omega),OA (by omega)]
theorem Se{l:List UInt8}{q:Nat}{c:UInt8}(h:l[q/8]? =some c)(p:Nat):f5 (l.set (q/8) (UInt8.ofNat (c.toNat^^^2^(q%8)))) p=(f5 l p^^decide (p=q)):=by
 unfold f5;have b:=(L7.1 h).1;have d:c.toNat^^^2^(q%8)<256:=Nat.xor_lt_two_pow (n:=8) c.toNat_lt (NS (by decide) (Ni _ (by decide)));rw[Mm,Mm];by_cases a:p/8=q/8
 ·rw[a,NA b,h,MK,MK,Ry d,Nat.testBit_xor,Nat.testBit_two_pow];congr 1;exact decide_eq_decide.2 (by omega)
 rw[Nm (Ne.symm a),decide_eq_false (by intro e;exact a (by rw[e])),Bool.xor_false]
theorem Sf(a t:List UInt8){p:Nat}(h:p<8*a.length):f5 (a++t) p=f5 a p:=by
 unfold f5;rw[Mm,Mm,ME (by omega)]
theorem Sg{a:List UInt8}{p:Nat}(h:¬p<8*a.length):f5 a p=false:=by
 unfold f5;rw[Mm,Nq (by omega)];exact Nat.zero_testBit _
theorem RN(l:List UInt8)(k p:Nat):f5 (l.take k) p=(decide (p<8*k)&&f5 l p):=by
 unfold f5;rw[Mm,Mm,MZ];by_cases h:p<8*k
 ·rw[if_pos (by omega),decide_eq_true h,OC]
 rw[if_neg (by omega),decide_eq_false h,Bool.false_and];exact Nat.zero_testBit _
def RO(E bl:List UInt8)(C fr i bits:Nat):Prop:=bl.length=C+4/\bl.drop C=Rl (H8 E)/\∀p,p<8*C->f5 bl p=(f5 E p^^(decide (fr<=p)&&decide (p<fr+i)&&bits.testBit (p-fr)))
theorem RP{E:List UInt8}{C fr bits:Nat}(a:E.length=C):RO E (E++Rl (H8 E)) C fr 0 bits:=by
 refine⟨by rw[Mc,a];rfl,by rw[<-a,List.drop_left],fun p b=>?_⟩;rw[Sf E _ (by omega)];by_cases h:fr<=p
 ·rw[decide_eq_false (show¬p<fr+0 by omega)];simp
 rw[decide_eq_false h];simp
theorem RD(bits i:Nat):bits.testBit i=decide (bits/2^i%2=1):=Nat.testBit_eq_decide_div_mod_eq
theorem RQ{E e:List UInt8}{C fr i bits:Nat}{c:UInt8}(h:RO E e C fr i bits)(l:fr+32<=8*C)(m:i<32)(g:e[(fr+i)/8]? =some c)(k:bits/2^i%2=1):RO E (e.set ((fr+i)/8) (UInt8.ofNat (c.toNat^^^2^((fr+i)%8)))) C fr (i+1) bits:=by
 obtain⟨a,b,d⟩:=h;refine⟨by rw[MU];exact a,by rw[Qn (by omega)];exact b,fun p j=>?_⟩;rw[Se g,d p j,Bool.xor_assoc];congr 1;by_cases f:p=fr+i
 ·subst f;rw[decide_eq_true Z,decide_eq_false (show¬fr+i<fr+i by omega),decide_eq_true (show fr<=fr+i by omega),decide_eq_true (show fr+i<fr+(i+1) by omega),show fr+i-fr=i by omega,RD,decide_eq_true k];rfl
 rw[decide_eq_false f,Bool.xor_false,show decide (p<fr+(i+1))=decide (p<fr+i)from decide_eq_decide.2 (by omega)]
theorem RR{E c:List UInt8}{C fr i bits:Nat}(h:RO E c C fr i bits)(g:¬bits/2^i%2=1):RO E c C fr (i+1) bits:=by
 obtain⟨a,b,d⟩:=h;refine⟨a,b,fun p e=>?_⟩;rw[d p e];congr 1;by_cases f:p=fr+i
 ·subst f;rw[decide_eq_false (show¬fr+i<fr+i by omega),decide_eq_true (show fr<=fr+i by omega),decide_eq_true (show fr+i<fr+(i+1) by omega),show fr+i-fr=i by omega,RD,decide_eq_false g];rfl
 rw[show decide (p<fr+(i+1))=decide (p<fr+i)from decide_eq_decide.2 (by omega)]
theorem Su{E c:List UInt8}{C fr bits:Nat}(h:RO E c C fr 32 bits)(g:E.length=C)(k:fr+32<=8*C)(j:bits<4294967296)(i:bits≠0):Rl (H8 (c.take C))≠c.drop C:=by
 obtain⟨a,b,d⟩:=h;intro e;rw[b]at e;refine Rv (a:=E) (b:=c.take C) (s:=fr) (bits:=bits) (by rw[Mf,a,g];omega) (by omega) j i (fun p=>?_) (SC (Sp _) (Sp _) e).symm;rw[RN];by_cases f:p<8*C
 ·rw[decide_eq_true f,OC,d p f]
 rw[decide_eq_false f,Bool.false_and,Sg (by omega),decide_eq_false (show¬p<fr+32 by omega)];simp
theorem Sv{r:Rel}(b:Good r):(QK r).length=(QU r).length+4/\6<=(QU r).length/\(QU r).length<=100000000:=by
 obtain⟨⟨o,G⟩,⟨m,E⟩,e⟩:=RA b;have F:=QQ r.sch.name;have q:=QB r.sch.name.data.toList (by omega);have H:=QI r.sch.cert;have u:=QN r.sch.cols.length;have I:=g9 (n:=r.sch.cols.length) (by omega);have v:=QN r.tups.length;have s:=b.len;have J:=g9 (n:=r.tups.length) (by omega);have i:∀l:List Col,(∀c∈l,c.name.size<=24/\0<=c.ty/\c.ty<=2)->(l.flatMap Rn).length<=l.length*100/\l.length<=(l.flatMap Rn).length:=by
  intro l;induction l with
  |nil=>intro _;exact⟨L5 _,L5 _⟩
  |cons c l ih=>
   intro h;obtain⟨C,K,A⟩:=h c (Mr ..);have k:=ih fun x d=>h x (MB _ d)
   have y:=QQ c.name;have j:=QB c.name.data.toList (by omega);have g:=g9 (n:=c.ty.toNat) (by omega);have D:=QI c.key;have b4:(Rn c).length=(Pl c.name.data.toList).length+((EJ c.ty.toNat).length+(Qk c.key).length):=by unfold Rn;simp only[Mc]
   rw[OD,Mc,Mb,b4];omega
 have f:∀l:List Tp,(∀t∈l,t∈r.tups)->(l.flatMap Sb).length<=l.length*3000000:=by
  intro l;induction l with
  |nil=>intro _;exact L5 _
  |cons t l ih=>
   intro h;have a:=h t (Mr ..);have k:=ih fun x d=>h x (MB _ d)
   obtain⟨_,_,z⟩:=RB b a;have j:=QB (fE t.vals) (by omega);have g:=RC t.prob (b.fit.1.tup t a).1.p;have b4:(Sb t).length=(Pl (fE t.vals)).length+(Rk t.prob).length:=by unfold Sb;simp only[Mc]
   rw[OD,Mc,Mb,b4];omega
 have B:=i _ e;have w:=f _ fun t h=>h
 have e8:(Rl (H8 (QU r))).length=4:=rfl;refine⟨by unfold QK;rw[Mc,e8],?_,?_⟩
 ·unfold QU Rg;simp only[Mc];omega
 unfold QU Rg;simp only[Mc];omega
theorem RS(b:List UInt8)(C:Nat)(d:b.length=C+4)(f:C<=1000000000)(e:Rl (H8 (b.take C))≠b.drop C):Ct 20 [.sl (bg b)] (.tup [Rel.zero.tree,iT 5]):=by
 refine Ct.of (n:=51) Tryz.func20 Z Z Z Z Z fun w0 G0=>?_
 refine ab<|aj 2 Z<|ab<|ab<|ae<|aa 1 Z<|af (t:=nI (C+4)) Z Z Z (ah (bd Z df Z) (by simp only[a7,d]))<|af (t:=bT (decide (C+4<4))) Z Z Z (ah (ai Z Z Z Zy) (av (iu (C+4) 4)))<|ag<|aF Z (fun a=>?_) (fun a=>?_)
 ·exact absurd a (by omega)
 refine ax<|ab<|ae<|aa 2 Z<|af (t:=nI (C+4)) Z Z Z (ah (bd Z df Z) (by simp only[a7,d]))<|af (t:=nI C) Z Z Z (ah (ai Z Z Z Zy) (bu (by omega)))<|af (t:=.sl (bg (b.take C))) Z Z Z (ah (iG (l:=0) (h:=C) Z df Z Z ⟨_,Z⟩ (Mx _) (by rw[a7];omega) (lU _)) (by unfold bg;rw[Nx,OB]))<|aa 1 Z<|ag<|ab<|ab<|ci (fu:=9) [some 18,some 19,some 20,some 21,some 22,some 23,some 24,some 25,some 26] [.sl (bg (b.take C)),.sl (bg (Rl (H8 (b.take C)))),.sl (bg b),.sl (bg b),nI (C+4),nI C,.sl (bg (b.drop C)),bT (decide (Rl (H8 (b.take C))=b.drop C)),bT (!(decide (Rl (H8 (b.take C))=b.drop C)))] (by kernel_rfl) Z Z (by kernel_rfl) Z ?_ ?_
 ·refine Chain.op Z (aw Z Z)<|Chain.op Z (ar Z (SF _ (by rw[Mf];omega)) Z Z)<|Chain.op Z (aw Z Z)<|Chain.op Z (aw Z Z)<|Chain.op Z (ah (bd Z df Z) (by simp only[a7,d]))<|Chain.op Z (ah (ai Z Z Z Zy) (bu (by omega)))<|Chain.op Z (ah (iG (l:=C) (h:=(bg b).length) Z df Z ⟨_,Z⟩ Z (by rw[a7];omega) (L5 _) (lU _)) (by rw[Me (L5 _)];unfold bg;rw[OL]))<|Chain.op Z (ar Z (R8 _ _) Z Z)<|Chain.op Z (ef Z Z Zy)<|Chain.nil
 refine aH Z (fun c=>?_) (fun c=>?_)
 ·refine ab<|aj 3 Z<|aC<|⟨.inr Z,_,.cons ⟨_,_,_,_,Z,Z,.inl ⟨_,bq,Z,Z⟩⟩ (.cons Z .nil),Z,Z⟩
 exact absurd (by simpa using c) e
theorem RU(l:List Int)(z:Int)(bits:Nat)(N:l.length<=9223372036854775807)(q:bits<4294967296):Ct 8 [.sl (l.map gi),iT z,.sc (.int .u32 ((bits:Nat):Int))] (bT true):=by
 obtain⟨m,s⟩:∃z:Nat,z=0:=⟨_,rfl⟩;obtain⟨B,y⟩:∃z:Nat,z=5:=⟨_,rfl⟩;refine Ct.of (n:=73) Tryz.func8 Z Z Z Z Z fun w0 G0=>?_
 refine ab<|aj 1 Z<|ab<|ae<|aa 1 Z<|jP (fun O=>∃r:Rel,Good r/\O=r.tree) Z Z Z (kk Z (Gm l N) Z Z) ?_;rintro _ ⟨r,K,rfl⟩;obtain⟨u,G,E⟩:=Sv K;refine RH (r:=.int .i64 ((m:Nat):Int)) (k:=0) (rs':=[some ⟨5,1,bg (QK r),false⟩]) Z Z Z Z (by rw[s];exact Sc K) Z Z Z Z<|aa 5 Z<|ag<|ab<|ab<|ae<|aa 1 Z<|af (t:=bT (decide (m≠0))) Z Z Z (ah (ai Z Z Z Zy) (av (wD m 0)))<|aa 1 Z<|aA (t:=.own 0) ((decide (m≠0))=false) Z Z Z au Z Z (fun A=>aw Z Z)<|aA (t:=nI ((QK r).length)) ((decide (m≠0))=false) Z Z Z au Z Z (fun A=>ah (yX Z df (if_pos A) Z) (by simp only[a7]))<|aA (t:=bT (decide ((QK r).length<10))) ((decide (m≠0))=false) Z Z Z au Z Z (fun A=>ah (ai Z (if_pos A) Z (fun _=>rfl)) (av (iu ((QK r).length) 10)))<|af (t:=bT ((decide (m≠0))||(decide ((QK r).length<10)))) Z Z Z (aL Z Z (fun d=>(av (by rw[d];rfl))) (fun d=>(if_pos d).trans (av (by rw[d];rfl))))<|ag<|aH Z (fun g=>?_) (fun g=>?_)
 ·rw[s,decide_eq_false (show¬(0:Nat)≠0 by decide),decide_eq_false (show¬(QK r).length<10 by omega)]at g;cases g
 refine ax<|ab<|ab<|ae<|aa 1 Z<|af (t:=bT (decide (bits=0))) Z Z Z (ah (ai Z Z Z Zy) (av (lY bits 0)))<|ag<|aF Z (fun p=>?_) (fun p=>?_)
 ·refine ab<|aj 1 Z<|aC<|⟨.inr Z,_,.cons Z .nil,Z,Z⟩
 have H:=p;refine ax<|ab ?_;obtain⟨az,D⟩:∃az:Nat,IntKind.u64.wrap z=(az:Nat):=⟨(IntKind.u64.wrap z).toNat,by rw[IntKind.wrap_u64];omega⟩;obtain⟨C,o⟩:∃C,(QU r).length=C:=⟨_,rfl⟩;rw[o]at u G E;obtain⟨fr,v⟩:∃f,az%(8*C-31)=f:=⟨_,rfl⟩;have L:fr<8*C-31:=by rw[<-v];exact Ni _ (by omega)
 refine ae<|aa 1 Z<|af (t:=.sc (.int .u64 ((az:Nat):Int))) Z Z Z (ah (k7 Z mR nF Z) (ep D))<|aa 1 Z<|af (t:=nI (C+4)) Z Z Z (ah (yX Z df Z Z) (by simp only[a7,u]))<|af (t:=nI C) Z Z Z (ah (ai Z Z Z Zy) (bu (by omega)))<|af (t:=nI (8*C)) Z Z Z (ah (ai Z Z Z Zy) (bu (by omega)))<|af (t:=nI ((8*C)-31)) Z Z Z (ah (ai Z Z Z Zy) (bu (by omega)))<|af (t:=.sc (.int .u64 ((8*C-31:Nat):Int))) Z Z Z (ah (k7 Z mR nF Z) (KA (by omega)))<|af (t:=.sc (.int .u64 ((az%(8*C-31):Nat):Int))) Z Z Z (ai Z Z Z (fun w=>Sd az _ (by omega) w))<|af (t:=nI fr) Z Z Z (ah (k7 Z nF mR Z) (J4 (by rw[v]) (by omega)))<|aa 1 Z<|ag<|ab<|ab<|aj 1 Z<|aE<|aW (fun J M=>∃(i:Nat) (e:List UInt8),(i<=32/\RO (QU r) e C fr i bits)/\J=32-i/\M=⟨73,[(2,.sc (.int .u32 ((bits:Nat):Int))),(7,.own 0),(9,nI fr),(10,nI i)],[],[some ⟨5,1,bg e,false⟩]⟩) 0 1 ⟨0,QK r,⟨Mx _,RP o⟩,Z,Z⟩ ⟨Z,Z,Z,.cons Z Z (.cons Z Z (.cons Z Z (.cons Z Z .nil))),Z⟩ ?_;rintro J M ⟨i,e,⟨Q,a⟩,rfl,rfl⟩;refine ab<|ab<|ae<|aa 1 Z<|af (t:=bT (decide (i<32))) Z Z Z (ah (ai Z Z Z Zy) (av (iu i 32)))<|ag<|aF Z (fun F=>?_) (fun F=>?_)
 ·have P:=a.1;refine ax<|ab<|aE<|ab<|ae<|aa 2 Z<|af (t:=.sc (.int .u64 ((i:Nat):Int))) Z Z Z (ah (k7 Z mR nF Z) (KA (by omega)))<|af (t:=.sc (.int .u32 ((bits/2^i:Nat):Int))) Z Z Z (ai Z Z Z (fun w=>H2 bits i (by omega) w))<|af (t:=.sc (.int .u32 ((bits/2^i%2:Nat):Int))) Z Z Z (ai Z Z Z (fun w=>Q8 _ (NC (NY _ _) q) w))<|af (t:=bT (decide (bits/2^i%2=1))) Z Z Z (ah (ai Z Z Z Zy) (av (lY (bits/2^i%2) 1)))<|ag<|aF Z (fun h=>?_) (fun h=>?_)
  ·have b:=h;obtain⟨c,x⟩:∃c,e[(fr+i)/8]? =some c:=⟨_,L4 (by omega)⟩;refine ae<|aa 3 Z<|af (t:=nI (fr+i)) Z Z Z (ah (ai Z Z Z Zy) (bu (by omega)))<|af (t:=nI ((fr+i)/8)) Z Z Z (ai Z Z Z (fun w=>Bs (fr+i) 8 (by omega) (by omega) w))<|af (t:=.elp 0 ((fr+i)/8)) Z Z Z (gK (j:=(fr+i)/8) Z df Z Z Z Z Z (by rw[a7];omega) (Oh _))<|af (t:=.sc (.int .u8 ((c.toNat:Nat):Int))) Z Z Z (oh (c:=.sc (.int .u8 ((c.toNat:Nat):Int))) (j:=(fr+i)/8) (fo:=0) Z Z Z uK (Q2 x) (by simp) (by show 0<1;decide) Z)<|aa 2 Z<|af (t:=nI (fr+i)) Z Z Z (ah (ai Z Z Z Zy) (bu (by omega)))<|af (t:=nI ((fr+i)%8)) Z Z Z (ai Z Z Z (fun w=>mF (fr+i) 8 (by omega) w))<|af (t:=.sc (.int .u64 (((fr+i)%8:Nat):Int))) Z Z Z (ah (k7 Z mR nF Z) (KA (by omega)))<|af (t:=.sc (.int .u8 ((2^((fr+i)%8):Nat):Int))) Z Z Z (ai Z Z Z (fun w=>So _ (Ni _ (by decide)) w))<|af (t:=.sc (.int .u8 ((c.toNat^^^2^((fr+i)%8):Nat):Int))) Z Z Z (ai Z Z Z (fun w=>Sm c.toNat _ c.toNat_lt (NS (n:=8) (by decide) (Ni _ (by decide))) w))<|af (t:=.elp 0 ((fr+i)/8)) Z Z Z (gK (j:=(fr+i)/8) Z df Z Z Z Z Z (by rw[a7];omega) (Oh _))<|Et (j:=(fr+i)/8) (rs':=[some ⟨5,1,bg (e.set ((fr+i)/8) (UInt8.ofNat (c.toNat^^^2^((fr+i)%8)))),false⟩]) Z Z Z Z Z (by simp) (by rw[a7];omega) Z Z Z Z Z uL Z (by rw[<-QV (Nat.xor_lt_two_pow (n:=8) c.toNat_lt (NS (by decide) (Ni _ (by decide))))];rfl)<|ag<|ae<|aa 1 Z<|af (t:=nI (i+1)) Z Z Z (ah (ai Z Z Z Zy) (bu (by omega)))<|aa 1 Z<|ag<|⟨_,_,?_,⟨i+1,(e.set ((fr+i)/8) (UInt8.ofNat (c.toNat^^^2^((fr+i)%8)))),?_,Z,Z⟩,⟨Z,Z,Z,.cons Z Z (.cons Z Z (.cons Z Z (.cons Z Z .nil))),Z⟩⟩
   ·omega
   exact⟨by omega,RQ a (by omega) (by omega) x b⟩
  have b:=h;refine ax<|ae<|aa 1 Z<|af (t:=nI (i+1)) Z Z Z (ah (ai Z Z Z Zy) (bu (by omega)))<|aa 1 Z<|ag<|⟨_,_,?_,⟨i+1,e,?_,Z,Z⟩,⟨Z,Z,Z,.cons Z Z (.cons Z Z (.cons Z Z (.cons Z Z .nil))),Z⟩⟩
  ·omega
  exact⟨by omega,RR a b⟩
 obtain rfl:i=32:=by omega
 have I:=Su a o (by omega) q H;refine fD 0 (bs':=[]) (rs':=[none]) Z Z Z Z<|aZ<|ab<|ae<|aa 1 Z<|af (t:=.tup [.agg dS,nI B]) Z Z Z (ar Z (by rw[y];exact RS e C a.1 (by omega) I) Z Z)<|aa 6 Z<|ag<|ab<|ae<|aa 1 Z<|af (t:=bT (decide (B=5))) Z Z Z (ah (ai Z Z Z Zy) (av (lY B 5)))<|aa 1 Z<|aA (t:=bT true) ((decide (B=5))=true) Z Z Z au Z Z (fun A=>ar Z yL Z Z)<|af (t:=bT ((decide (B=5))||false)) Z Z Z (aL Z Z (fun d=>(if_pos d).trans (av (by rw[d];rfl))) (fun d=>(av (by rw[d];rfl))))<|aa 1 Z<|ag<|aC<|⟨.inr Z,_,.cons Z .nil,av (by rw[y];rfl),Z⟩
theorem SG{x:Int}(h:(Lit.int .u32 x).wf=true):0<=x/\x<=4294967295:=by simpa[Lit.wf,IntKind.min,IntKind.max,IntKind.signed,IntKind.bits]using h
theorem RE{W:World}{A:Option Addr}{l:List Int}{c:Nat}{z x:Int}(a:At W W.heap.size A (kQ l))(b:l.length<=c)(i:c<=9223372036854775807)(d:A=none->c=0)(n:0<=x/\x<=4294967295)(f:Env W):
  Calls Tryz.prog 8 #[.slice A l.length c,.int .i64 z,.int .u32 x] W (H9 W):=by
 obtain⟨e,rfl⟩:∃e:Nat,x=(e:Int):=⟨x.toNat,by omega⟩;have h:=(RU l z e (by omega) (by omega)).2 (fun _=>False) W [.slice A l.length c,.int .i64 z,.int .u32 e] f (fun g k=>k.elim) ((Gr a b i d).cons (.sc _ (.sc _ .nil)));refine h.mono ?_;rintro en w' ⟨v,rfl,j,m⟩;cases j with
 |sc _ _=>exact⟨Z,m⟩
end Go.Proofs.YtfoejfohbkmmeaaGreatDoor
