import Derived.Test.YtfoejfohbkmmeaaGreatDoorU48
import Derived.Test.YtfoejfohbkmmeaaGreatDoorU08
import Derived.Test.YtfoejfohbkmmeaaGreatDoorU00
import Derived.Test.YtfoejfohbkmmeaaGreatDoorU41
set_option maxRecDepth 100000
set_option maxHeartbeats 4000000
namespace Go.Proofs.YtfoejfohbkmmeaaGreatDoor
open Go.RowKit
open Lib renaming hid→J
theorem Q2{l:List UInt8}{j:Nat}{c:UInt8}(h:l[j]? =some c):(bg l)[j]? =some (.sc (.int .u8 ((c.toNat:Nat):Int))):=by
 unfold bg;rw[MQ,h];rfl
def Rl(c:Nat):List UInt8:=[UInt8.ofNat (c/2^24%256),UInt8.ofNat (c/2^16%256),UInt8.ofNat (c/2^8%256),UInt8.ofNat (c%256)]
theorem Ry{x:Nat}(h:x<256):(UInt8.ofNat x).toNat=x:=by rw[O6];exact NZ h
theorem QP(c:Nat):bg (Rl c)=[.sc (.int .u8 ((c/2^24%256:Nat):Int)),.sc (.int .u8 ((c/2^16%256:Nat):Int)),.sc (.int .u8 ((c/2^8%256:Nat):Int)),.sc (.int .u8 ((c%256:Nat):Int))]:=by
 show [Tree.sc (.int .u8 ((UInt8.ofNat (c/2^24%256)).toNat:Nat)),.sc (.int .u8 ((UInt8.ofNat (c/2^16%256)).toNat:Nat)),.sc (.int .u8 ((UInt8.ofNat (c/2^8%256)).toNat:Nat)),.sc (.int .u8 ((UInt8.ofNat (c%256)).toNat:Nat))]=_
 rw[Ry (Ni _ (by decide)),Ry (Ni _ (by decide)),Ry (Ni _ (by decide)),Ry (Ni _ (by decide))]
theorem SC{a b:Nat}(c:a<4294967296)(d:b<4294967296)(h:Rl a=Rl b):a=b:=by
 have e:=congrArg bg h;rw[QP,QP]at e;simp only[Pv,Tree.sc.injEq,Value.int.injEq,true_and,and_true]at e;rw[show(2:Nat)^24=16777216 from rfl,show(2:Nat)^16=65536 from rfl,show(2:Nat)^8=256 from rfl]at e;omega
theorem SL(a b:List UInt8):((bs a).toList==(bs b).toList)=decide (a=b):=by
 rw[Lib.toList_data,Lib.toList_data,eX,eX,O2,beq_iff_eq,decide_eq_true_eq]
theorem R7(l:List UInt8)(B:l.length<=4611686018427387904):Ct 176 [.sc (.int .u32 ((0:Nat):Int)),.sl (bg l)] (.sc (.int .u32 ((H8 l:Nat):Int))):=by
 refine Ct.of (n:=35) Tryz.func176 Z Z Z Z Z fun w0 G0=>?_
 refine ab<|aj 1 Z<|ab<|ae<|aa 1 Z<|af (t:=.sc (.int .u32 ((4294967295:Nat):Int))) Z Z Z (ah (ef Z Z (fun w=>Q7 0 (by decide) w)) (F1 (by decide)))<|aa 1 Z<|ag<|ab<|ab<|ae<|aa 1 Z<|af (t:=nI l.length) Z Z Z (ah (bd Z df Z) (by simp only[a7]))<|aa 1 Z<|ag<|aE<|aW (fun i o=>∃(j:Nat) (x:Nat),(j<=l.length/\x<4294967296/\Q3 x (l.drop j)=Q3 4294967295 l)/\i=l.length-j/\o=⟨35,[(5,.sc (.int .u32 ((x:Nat):Int))),(11,.sl (bg l)),(12,nI l.length),(13,nI j)],[],[]⟩) 0 0 ⟨0,4294967295,⟨Mx _,by decide,Z⟩,Z,Z⟩ ⟨Z,Z,Z,.cons Z Z (.cons Z Z (.cons Z Z (.cons Z Z .nil))),Z⟩ ?_;rintro i o ⟨j,x,⟨A,r,b⟩,rfl,rfl⟩;refine ab<|ae<|af (t:=bT (decide (j<l.length))) Z Z Z (ah (ai Z Z Z Zy) (av (iu j l.length)))<|ag<|ab<|aF Z (fun h=>?_) (fun h=>?_)
 ·obtain⟨c,p⟩:∃c,l[j]? =some c:=⟨_,L4 h⟩;have q:l.drop j=c::l.drop (j+1):=by
   obtain⟨g,u⟩:=L7.1 p;rw[Md g,u]
  rw[q,R4]at b;have v:c.toNat<256:=c.toNat_lt;refine ax<|ab<|aE<|ab<|ae<|af (t:=.ref [.sc (.int .u8 ((c.toNat:Nat):Int))]) Z Z Z (aQ (.sc (.int .u8 ((c.toNat:Nat):Int))) Z df Z Z Z (Q2 p) (lU _) Z)<|aa 2 Z<|ag<|ab<|ae<|aa 2 Z<|af (t:=.sc (.int .u32 ((c.toNat:Nat):Int))) Z Z Z (ah (k7 Z Dp Aq Z) (SK (by omega)))<|af (t:=.sc (.int .u32 ((x^^^c.toNat:Nat):Int))) Z Z Z (ai Z Z Z (fun w=>Q6 x c.toNat r (by omega) w))<|aa 1 Z<|ag<|ab<|aj 1 Z<|aE<|aW (fun i o=>∃(k:Nat) (y:Nat),(k<=8/\y<4294967296/\QW (8-k) y=QW 8 (x^^^c.toNat))/\i=8-k/\o=⟨35,[(5,.sc (.int .u32 ((y:Nat):Int))),(11,.sl (bg l)),(12,nI l.length),(13,nI j),(21,nI k)],[],[]⟩) 0 0 ⟨0,x^^^c.toNat,⟨Mx _,Nat.xor_lt_two_pow (n:=32) r (by omega),Z⟩,Z,Z⟩ ⟨Z,Z,Z,.cons Z Z (.cons Z Z (.cons Z Z (.cons Z Z (.cons Z Z .nil)))),Z⟩ ?_;rintro i o ⟨k,y,⟨C,f,a⟩,rfl,rfl⟩;refine ab<|ae<|af (t:=bT (decide (k<8))) Z Z Z (ah (ai Z Z Z Zy) (av (iu k 8)))<|ag<|ab<|aF Z (fun s=>?_) (fun s=>?_)
  ·obtain⟨m,z⟩:∃m,8-k=m+1:=⟨7-k,by omega⟩;rw[z,R5]at a;refine ax<|ab<|aE<|ab<|ae<|aa 1 Z<|af (t:=.sc (.int .u32 ((y%2:Nat):Int))) Z Z Z (ai Z Z Z (fun w=>Q8 y f w))<|aa 1 Z<|ag<|ab<|ae<|aa 1 Z<|af (t:=.sc (.int .u32 ((y/2:Nat):Int))) Z Z Z (ai Z Z Z (fun w=>FL y f w))<|aa 1 Z<|ag<|ab<|ae<|aa 1 Z<|af (t:=bT (decide (y%2=1))) Z Z Z (ah (ai Z Z Z Zy) (av (lY (y%2) 1)))<|ag<|aF Z (fun e=>?_) (fun e=>?_)
   ·have g:QA y=y/2^^^2197175160:=if_pos e;have d:=QG f;rw[g]at a d;refine ae<|aa 1 Z<|af (t:=.sc (.int .u32 (((y/2)^^^2197175160:Nat):Int))) Z Z Z (ai Z Z Z (fun w=>Q6 (y/2) 2197175160 (by omega) (by decide) w))<|aa 1 Z<|ag<|ae<|af (t:=nI (k+1)) Z Z Z (ah (ai Z Z Z Zy) (bu (by omega)))<|aa 1 Z<|ag<|⟨_,_,?_,⟨k+1,(y/2)^^^2197175160,?_,Z,Z⟩,⟨Z,Z,Z,.cons Z Z (.cons Z Z (.cons Z Z (.cons Z Z (.cons Z Z .nil)))),Z⟩⟩
    ·omega
    exact⟨by omega,d,by rw[show 8-(k+1)=m by omega];exact a⟩
   have g:QA y=y/2:=if_neg e;have d:=QG f;rw[g]at a d;refine ax<|ae<|af (t:=nI (k+1)) Z Z Z (ah (ai Z Z Z Zy) (bu (by omega)))<|aa 1 Z<|ag<|⟨_,_,?_,⟨k+1,y/2,?_,Z,Z⟩,⟨Z,Z,Z,.cons Z Z (.cons Z Z (.cons Z Z (.cons Z Z (.cons Z Z .nil)))),Z⟩⟩
   ·omega
   exact⟨by omega,d,by rw[show 8-(k+1)=m by omega];exact a⟩
  rw[show 8-k=0 by omega]at a;have a:y=QW 8 (x^^^c.toNat):=a;rw[<-a]at b;refine aZ<|ae<|af (t:=nI (j+1)) Z Z Z (ah (ai Z Z Z Zy) (bu (by omega)))<|aa 1 Z<|ag<|⟨_,_,?_,⟨j+1,y,?_,Z,Z⟩,⟨Z,Z,Z,.cons Z Z (.cons Z Z (.cons Z Z (.cons Z Z .nil))),Z⟩⟩
  ·omega
  exact⟨by omega,f,b⟩
 refine aZ<|ab<|ae<|aa 1 Z<|af (t:=.sc (.int .u32 ((x^^^4294967295:Nat):Int))) Z Z Z (ef Z Z (fun w=>Q7 x r w))<|aa 1 Z<|ag<|aC<|⟨.inr Z,_,.cons Z .nil,F1 (by unfold H8;rw[<-b,Mg (by omega)];rfl),Z⟩
theorem Ss(l:List UInt8)(a:l.length<=4611686018427387904):Ct 112 [.sl (bg l)] (.sc (.int .u32 ((H8 l:Nat):Int))):=by
 refine Ct.of (n:=5) Tryz.func112 Z Z Z Z Z fun w0 G0=>?_
 refine ab<|aj 1 Z<|ab<|ae<|aa 1 Z<|af Z Z Z (ar Z (R7 l a) Z Z)<|aa 1 Z<|ag<|aC<|⟨.inr Z,_,.cons Z .nil,Z,Z⟩
theorem SF(l:List UInt8)(a:l.length<=4611686018427387904):Ct 54 [.sl (bg l)] (.sl (bg (Rl (H8 l)))):=by
 refine Ct.of (n:=18) Tryz.func54 Z Z Z Z Z fun w0 G0=>?_
 refine ab<|ae<|af (t:=.sl []) Z Z Z (cW (.inr Z) dI)<|ag<|ab<|ae<|aa 1 Z<|af Z Z Z (ar Z (Ss l a) Z Z)<|aa 1 Z<|ag<|ab<|ae<|aa 1 Z<|af (t:=.sc (.int .u32 ((H8 l/2^24:Nat):Int))) Z Z Z (ai Z Z Z (fun w=>H2 (H8 l) 24 (by decide) w))<|af (t:=.sc (.int .u8 ((H8 l/2^24%256:Nat):Int))) Z Z Z (ah (k7 Z Aq Dp Z) Ri)<|aa 1 Z<|af (t:=.sc (.int .u32 ((H8 l/2^16:Nat):Int))) Z Z Z (ai Z Z Z (fun w=>H2 (H8 l) 16 (by decide) w))<|af (t:=.sc (.int .u8 ((H8 l/2^16%256:Nat):Int))) Z Z Z (ah (k7 Z Aq Dp Z) Ri)<|aa 1 Z<|af (t:=.sc (.int .u32 ((H8 l/2^8:Nat):Int))) Z Z Z (ai Z Z Z (fun w=>H2 (H8 l) 8 (by decide) w))<|af (t:=.sc (.int .u8 ((H8 l/2^8%256:Nat):Int))) Z Z Z (ah (k7 Z Aq Dp Z) Ri)<|aa 1 Z<|af (t:=.sc (.int .u8 ((H8 l%256:Nat):Int))) Z Z Z (ah (k7 Z Aq Dp Z) Ri)<|af (t:=.sl [.sc (.int .u8 ((H8 l/2^24%256:Nat):Int)),.sc (.int .u8 ((H8 l/2^16%256:Nat):Int)),.sc (.int .u8 ((H8 l/2^8%256:Nat):Int)),.sc (.int .u8 ((H8 l%256:Nat):Int))]) Z Z Z (a6 Z df jm Z (by decide) (by decide) Z Z Z Z Z)<|aa 1 Z<|ag<|aC<|⟨.inr Z,_,.cons Z .nil,congrArg Tree.sl (QP _).symm,Z⟩
theorem R8(a b:List UInt8):Ct 61 [.sl (bg a),.sl (bg b)] (bT (decide (a=b))):=by
 refine Ct.of (n:=10) Tryz.func61 Z Z Z Z Z fun w0 G0=>?_
 refine ab<|aj 1 Z<|ab<|ae<|aa 1 Z<|af (t:=sT (bs a)) Z Z Z (pA Z Z)<|aa 1 Z<|af (t:=sT (bs b)) Z Z Z (pA Z Z)<|af (t:=bT (decide (a=b))) Z Z Z (ah (ai Z Z Z Zy) (av (SL a b)))<|aa 1 Z<|ag<|aC<|⟨.inr Z,_,.cons Z .nil,Z,Z⟩
section
variable {w0:World} {G0:Nat->Prop} {o:Oper} {S:St}
theorem R9{f:FuncId}{x:Operand}{H:Array TypeId}{k:Nat}{l m:List UInt8}{R:Row}(V:o.op=.call {callee:=.value (.func f),args:=#[x],argTypes:=H})(hd:cT S.n o.dst=true)(I:CtO f [.sl (bg l)] 5 1 (bg m))(Y:S.ev x=.own k)(hR:S.rs[k]? =some (some R))(C:R.es=bg l):n5 w0 G0 o S ({S with rs:=S.rs++[some (⟨5,1,bg m,false⟩:Row)]}.put o.dst (.own S.rs.length)):=by
 rintro a w ⟨bx,rv,r,M,F,q⟩;have L:=bI (op:=o.op) (T:=fun s=>a.tmps.getD s undef) (S:=S) (fun s _=>q s) Y (by rw[V];simp[Op.operands,Call.operands]);generalize hT:(fun s=>a.tmps.getD s undef)=T at L⊢;obtain⟨hv,xs,d,p,a0,N⟩:=jn r hR L;generalize z:cA T x=v at hv d p N L;rw[C]at d p;have t:PT w (fun b=>GG G0 bx rv S.rs b/\v.ownBlock≠some b) [v] [.sl (bg l)]:=by
  rcases d.2 with⟨rfl,B⟩|⟨g,D,cur,rfl,hb,J,B,K,hs,ht⟩
  ·rw[Mk B];exact dI _ _
  refine .sl g 0 D _ xs (bg l) (ML.1 J).1 (fun h=>h.2 Z) (fun j u hu=>?_) Z B (by unfold maxLen at K;omega) (p.mono (L5 _) fun b _ hG=>⟨Z,fun h=>hG h.1⟩) .nil;have:=World.ownsRow.cells d (g:=g) Z j u hu;rw[show(⟨g,0,none⟩:Addr).add j=⟨g,0+j,none⟩from Addr.add_lit ..]at this;exact this
 obtain⟨⟨W,h1,h2,P⟩,I⟩:=I;have O:=I _ w [v] r.env (fun g J=>r.ok g J.1) t;refine bJ (f:=f) (args:=[v].toArray) ?_ (O.mono ?_)
 ·have e1:¬W.name= "runtime.NumGoroutine" :=by simpa using h2
  have e2:¬W.body=none:=fun e=>by rw[e]at P;cases P
  simp[execOp,V,resolve,cA,Deferred.ofValue,invoke,callFunc,h1,e1,e2];exact z
 rintro y w' ⟨v',ys,rfl,Q,U,k3,k4,k5⟩;have E:PT w' (fun b=>GG G0 bx rv S.rs b\/v'.ownBlock=some b) ys (flat (bg m)):=by
  rw[kW]at U;rw[p9 U];exact u5 m
 obtain⟨X,m2⟩:=r.addRow (R:=⟨5,1,bg m,false⟩) k5 Q E ⟨k3,fun h=>by cases h⟩ k4;obtain⟨A,c,G⟩:=cc Q;exact⟨v',Z,vA M F hd r.nr X ⟨A,_,c,G⟩ (fun i=>m2 [_] [_] (q i)) Z⟩
theorem RM{w:World}{a b c d:Int}:(Instr.buildSlice 22 4 #[(0,.int .u8 a),(1,.int .u8 b),(2,.int .u8 c),(3,.int .u8 d)]).run Tryz.prog w=.ok (.slice (some ⟨w.heap.size,0,none⟩) 4 4) (w.alloc (.cells #[.int .u8 a,.int .u8 b,.int .u8 c,.int .u8 d] 5)):=by
 go_simp
theorem Sa{x y z u:Operand}{a b c d:Nat}(l:o.op=.buildSlice 22 4 #[(0,x),(1,y),(2,z),(3,u)])(L:cT S.n o.dst=true)(m:S.ev x=.sc (.int .u8 (a:Nat)))(K:S.ev y=.sc (.int .u8 (b:Nat)))(I:S.ev z=.sc (.int .u8 (c:Nat)))(J:S.ev u=.sc (.int .u8 (d:Nat))):n5 w0 G0 o S ({S with rs:=S.rs++[some (⟨5,1,[.sc (.int .u8 (a:Nat)),.sc (.int .u8 (b:Nat)),.sc (.int .u8 (c:Nat)),.sc (.int .u8 (d:Nat))],true⟩:Row)]}.put o.dst (.own S.rs.length)):=by
 rintro s w ⟨bx,rv,k,t,q,f⟩;have F:=(bI (op:=o.op) (T:=fun i=>s.tmps.getD i undef) (S:=S) (fun s _=>f s) m (by rw[l];simp[Op.operands])).isSc;have D:=(bI (op:=o.op) (T:=fun i=>s.tmps.getD i undef) (S:=S) (fun s _=>f s) K (by rw[l];simp[Op.operands])).isSc;have G:=(bI (op:=o.op) (T:=fun i=>s.tmps.getD i undef) (S:=S) (fun s _=>f s) I (by rw[l];simp[Op.operands])).isSc;have E:=(bI (op:=o.op) (T:=fun i=>s.tmps.getD i undef) (S:=S) (fun s _=>f s) J (by rw[l];simp[Op.operands])).isSc;generalize (fun i=>s.tmps.getD i undef)=T at F D G E⊢;obtain⟨C,p⟩:∃C:Array Value,#[.int .u8 (a:Nat),.int .u8 (b:Nat),.int .u8 (c:Nat),.int .u8 (d:Nat)]=C:=⟨_,rfl⟩;have j:=World.ownsRow_lit (base:=w.heap.size) (e:=5) (size:=1) w C 4 (L5 _) (by simp only[maxLen];omega) (by rw[<-p];rfl);have N:Below w.heap.size w (w.alloc (.cells C 5)):=(Below.refl _ _).alloc (L5 _) _;have B:∀g,(Value.slice (some ⟨w.heap.size,0,none⟩) 4 4).ownBlock=some g->NoDigB (w.alloc (.cells C 5)) g:=fun g r=>by
  injection r with r
  subst r;exact cI (heap_alloc_new w _) (by rw[<-p];rfl)
 obtain⟨H,M⟩:=k.addRow (R:=⟨5,1,[.sc (.int .u8 (a:Nat)),.sc (.int .u8 (b:Nat)),.sc (.int .u8 (c:Nat)),.sc (.int .u8 (d:Nat))],true⟩) (v:=.slice (some ⟨w.heap.size,0,none⟩) 4 4) N j (by rw[<-p];exact .sc _ (.sc _ (.sc _ (.sc _ .nil)))) ⟨fun x m=>(by simp only[Mi,N0,or_false]at m;rcases m with rfl|rfl|rfl|rfl<;>rfl),fun _ A n c e=>(by cases e;rfl)⟩ B;refine aq (v:=.slice (some ⟨w.heap.size,0,none⟩) 4 4) (W':=w.alloc (.cells C 5)) ?_ (vA t q L k.nr H ⟨_,_,_,Z⟩ (fun i=>M [_] [_] (f i)) Z);have h:=RM (w:=w) (a:=(a:Nat)) (b:=(b:Nat)) (c:=(c:Nat)) (d:=(d:Nat));rw[p]at h;simp[execOp,l,F,D,G,E,h]
end
theorem Rz{w0:World}{G0:Nat->Prop}{o:Oper}{ops:Array Oper}{a:List Oper}{Q:Exit->St->Prop}{n d k j:Nat}{sl:List (Nat×Tree)}{bs:List (TypeId×List Tree)}{rs rs':List (Option Row)}{f:FuncId}{x:Operand}{b:Array TypeId}{l m:List UInt8}{R:Row}(p:o.op=.call {callee:=.value (.func f),args:=#[x],argTypes:=b})(s:o.guard=none)(g:o.dst=some d)(h:Nat.blt d n=true)(q:CtO f [.sl (bg l)] 5 1 (bg m))(r:St.ev ⟨n,sl,bs,rs⟩ x=.own k)(t:rs[k]? =some (some R))(c:R.es=bg l)(i:rs.length=j)(e:rs++[some ⟨5,1,bg m,false⟩]=rs')(K:AOps w0 G0 ops a Q ⟨n,(d,.own j)::sl,bs,rs'⟩):AOps w0 G0 ops (o::a) Q ⟨n,sl,bs,rs⟩:=by
 subst i e;refine eD s (R9 (S:=⟨n,sl,bs,rs⟩) p (by rw[g];simpa[cT,Nn]using h) q r t c) ?_;rw[g];exact K
theorem Rm{w0:World}{G0:Nat->Prop}{o:Oper}{ops:Array Oper}{f:List Oper}{Q:Exit->St->Prop}{n e k:Nat}{sl:List (Nat×Tree)}{bs:List (TypeId×List Tree)}{rs rs':List (Option Row)}{x y z u:Operand}{a b c d:Nat}(m:o.op=.buildSlice 22 4 #[(0,x),(1,y),(2,z),(3,u)])(s:o.guard=none)(h:o.dst=some e)(j:Nat.blt e n=true)(p:St.ev ⟨n,sl,bs,rs⟩ x=.sc (.int .u8 (a:Nat)))(r:St.ev ⟨n,sl,bs,rs⟩ y=.sc (.int .u8 (b:Nat)))(i:St.ev ⟨n,sl,bs,rs⟩ z=.sc (.int .u8 (c:Nat)))(q:St.ev ⟨n,sl,bs,rs⟩ u=.sc (.int .u8 (d:Nat)))(l:rs.length=k)(g:rs++[some ⟨5,1,[.sc (.int .u8 (a:Nat)),.sc (.int .u8 (b:Nat)),.sc (.int .u8 (c:Nat)),.sc (.int .u8 (d:Nat))],true⟩]=rs')(K:AOps w0 G0 ops f Q ⟨n,(e,.own k)::sl,bs,rs'⟩):AOps w0 G0 ops (o::f) Q ⟨n,sl,bs,rs⟩:=by
 subst l g;refine eD s (Sa (S:=⟨n,sl,bs,rs⟩) m (by rw[h];simpa[cT,Nn]using j) p r i q) ?_;rw[h];exact K
def Rn(c:Col):List UInt8:=Pl c.name.data.toList++(EJ c.ty.toNat++Qk c.key)
def Rg(s:Sch):List UInt8:=Pl s.name.data.toList++(Qk s.cert++EJ s.cols.length)
def Sb(t:Tp):List UInt8:=Pl (fE t.vals)++Rk t.prob
def QU(r:Rel):List UInt8:=Rg r.sch++(r.sch.cols.flatMap Rn++(EJ r.tups.length++r.tups.flatMap Sb))
def QK(r:Rel):List UInt8:=QU r++Rl (H8 (QU r))
theorem QB(l:List UInt8)(h:l.length<=1000000000):(Pl l).length<=l.length+10/\l.length+1<=(Pl l).length:=by
 have b:=g9 (n:=l.length) (by omega);have a:=QN l.length;unfold Pl;rw[Mc];omega
theorem QI(b:Bool):(Qk b).length<=10/\1<=(Qk b).length:=by
 unfold Qk;exact⟨g9 (by split<;>decide),QN _⟩
theorem QQ(s:ByteArray):s.data.toList.length=s.size:=by simp
theorem RA{r:Rel}(h:Good r):(1<=r.sch.name.size/\r.sch.name.size<=24)/\(1<=r.sch.cols.length/\r.sch.cols.length<=6)/\∀c∈r.sch.cols,c.name.size<=24/\0<=c.ty/\c.ty<=2:=by
 have key:∀s∈gT::kO,(1<=s.name.size/\s.name.size<=24)/\(1<=s.cols.length/\s.cols.length<=6)/\∀c∈s.cols,c.name.size<=24/\0<=c.ty/\c.ty<=2:=by decide+kernel
 refine key _ ?_;rcases h.sch with a|a
 ·exact MB _ a
 rw[a];exact Mr ..
theorem RB{r:Rel}(h:Good r){t:Tp}(a:t∈r.tups):t.vals.all V.ok=true/\t.vals.length<=6/\(fE t.vals).length<=396:=by
 have e:=(rn h t a).vok;have b:t.vals.all V.ok=true:=Mh.2 fun v d=>(e v d).1
 have c:=qB h.valid t a;have f:=Ix b;exact⟨b,c,by omega⟩
theorem Rh{α:Type}{f:α->List UInt8}{l:List α}{i:Nat}{x:α}(h:l[i]? =some x):(l.drop i).flatMap f=f x++(l.drop (i+1)).flatMap f:=by
 obtain⟨a,rfl⟩:=L7.1 h;rw[Md a,OD]
theorem RC(q:Rat)(h:Fit 262144 q):(Rk q).length<=2097175:=by
 have b:=QO _ h.num;have a:=QO _ h.den;unfold Rk;rw[Mb,Mc];omega
theorem SM{z:Int}(a:0<=z)(b:z<=2):(Tree.sc (.int .u64 (IntKind.u64.wrap z)))=.sc (.int .u64 ((z.toNat:Nat):Int)):=by
 rw[IntKind.wrap_u64];congr 2;omega
theorem SD(l:List UInt8)(a:l.length<=4611686018427387904):CtO 54 [.sl (bg l)] 5 1 (bg (Rl (H8 l))):=by
 refine CtO.of (n:=18) Tryz.func54 Z Z Z Z Z fun w0 G0=>?_
 refine ab<|ae<|af (t:=.sl []) Z Z Z (cW (.inr Z) dI)<|ag<|ab<|ae<|aa 1 Z<|af Z Z Z (ar Z (Ss l a) Z Z)<|aa 1 Z<|ag<|ab<|ae<|aa 1 Z<|af (t:=.sc (.int .u32 ((H8 l/2^24:Nat):Int))) Z Z Z (ai Z Z Z (fun w=>H2 (H8 l) 24 (by decide) w))<|af (t:=.sc (.int .u8 ((H8 l/2^24%256:Nat):Int))) Z Z Z (ah (k7 Z Aq Dp Z) Ri)<|aa 1 Z<|af (t:=.sc (.int .u32 ((H8 l/2^16:Nat):Int))) Z Z Z (ai Z Z Z (fun w=>H2 (H8 l) 16 (by decide) w))<|af (t:=.sc (.int .u8 ((H8 l/2^16%256:Nat):Int))) Z Z Z (ah (k7 Z Aq Dp Z) Ri)<|aa 1 Z<|af (t:=.sc (.int .u32 ((H8 l/2^8:Nat):Int))) Z Z Z (ai Z Z Z (fun w=>H2 (H8 l) 8 (by decide) w))<|af (t:=.sc (.int .u8 ((H8 l/2^8%256:Nat):Int))) Z Z Z (ah (k7 Z Aq Dp Z) Ri)<|aa 1 Z<|af (t:=.sc (.int .u8 ((H8 l%256:Nat):Int))) Z Z Z (ah (k7 Z Aq Dp Z) Ri)<|Rm (k:=0) (rs':=[some ⟨5,1,bg (Rl (H8 l)),true⟩]) Z Z Z Z Z Z Z Z Z (by rw[QP];rfl)<|aa 1 Z<|ag<|aC<|⟨.inr Z,0,true,Z,Z⟩
theorem Sc{r:Rel}(g:Good r):CtP 18 [r.tree] 5 1 (bg (QK r)) (.int .i64 0):=by
 refine CtP.of (n:=90) Tryz.func18 Z Z Z Z Z fun w0 G0=>?_
 refine ab<|ae<|aa 1 Z<|af (t:=.sl []) Z Z Z (cW (.inr Z) dI)<|aa 1 Z<|ag<|ab<|ab ?_;obtain⟨⟨U,a1⟩,⟨N,M⟩,B⟩:=RA g;have Y:=QQ r.sch.name;have X:=QB r.sch.name.data.toList (by omega);have Q:=QI r.sch.cert;have T:=g9 (n:=r.sch.cols.length) (by omega);refine ae<|aa 1 Z<|af Z Z Z (ar Z (qq r g.fit.1) Z Z)<|aa 1 Z<|ag<|ab<|ae<|aa 1 Z<|af (t:=bT ((bm r) !=0)) Z Z Z (ai Z Z Z Zy)<|ag<|aH Z (fun u=>?_) (fun u=>?_)
 ·exact absurd g.valid (by simpa using u)
 refine ax<|ab<|ae<|aa 3 Z<|af (t:=.sl (bg r.sch.name.data.toList)) Z Z Z (QS Z Z (by omega))<|IS (k:=0) (rs':=[some ⟨5,1,bg (Pl r.sch.name.data.toList),false⟩]) Z Z Z Z (QZ _ (by omega)) Z Z Z Z<|aa 1 Z<|ag<|ab<|ae<|aa 4 Z<|af Z Z Z (ar Z (RY _) Z Z)<|cD (bs':=[(30,(aT r))]) (rs':=[some ⟨5,1,bg ((Pl r.sch.name.data.toList)++Qk r.sch.cert),false⟩]) Z Z Z Z eS Z Z Z Z (lU _) (AllC.map _ _ fun _=>rfl) (AllC.map _ _ fun _=>rfl) (by simp only[a7];omega) Z Z Z (by simp only[fq];rfl)<|aa 1 Z<|ag<|ab<|ae<|aa 4 Z<|af (t:=nI r.sch.cols.length) Z Z Z (ah (bd Z bi Z) (by simp only[L8]))<|af (t:=.sc (.int .u64 ((r.sch.cols.length:Nat):Int))) Z Z Z (ah (k7 Z mR nB Z) (KA (by omega)))<|af Z Z Z (ar Z ((QH _ (by omega)).ct) Z Z)<|cD (bs':=[(30,(aT r))]) (rs':=[some ⟨5,1,bg (((Pl r.sch.name.data.toList)++Qk r.sch.cert)++EJ r.sch.cols.length),false⟩]) Z Z Z Z eS Z Z Z Z (lU _) (AllC.map _ _ fun _=>rfl) (AllC.map _ _ fun _=>rfl) (by simp only[a7,Mc];omega) Z Z Z (by simp only[fq];rfl)<|aa 1 Z<|ag<|ab<|ab<|ae<|aa 3 Z<|af (t:=nI r.sch.cols.length) Z Z Z (ah (bd Z bi Z) (by simp only[L8]))<|aa 1 Z<|ag<|aE<|aW (fun x A=>∃(i:Nat) (a:List UInt8),(i<=r.sch.cols.length/\a.length<=100+i*100/\a++(r.sch.cols.drop i).flatMap Rn=Rg r.sch++r.sch.cols.flatMap Rn)/\x=r.sch.cols.length-i/\A=⟨90,[(1,.box 0 0),(5,.own 0),(36,.sl (r.sch.cols.map Col.tree)),(37,nI r.sch.cols.length),(38,nI i)],[(30,(aT r))],[some ⟨5,1,bg a,false⟩]⟩) 1 1 ⟨0,(((Pl r.sch.name.data.toList)++Qk r.sch.cert)++EJ r.sch.cols.length),⟨Mx _,by simp only[Mc];omega,by unfold Rg;simp⟩,Z,Z⟩ ⟨Z,Z,Z,.cons Z Z (.cons Z Z (.cons Z Z (.cons Z Z (.cons Z Z .nil)))),Z⟩ ?_;rintro x A ⟨i,a,⟨hi,H,e⟩,rfl,rfl⟩;refine ab<|ae<|af (t:=bT (decide (i<r.sch.cols.length))) Z Z Z (ah (ai Z Z Z Zy) (av (iu i r.sch.cols.length)))<|ag<|ab<|aF Z (fun y=>?_) (fun y=>?_)
 ·obtain⟨c,o⟩:∃c,r.sch.cols[i]? =some c:=⟨_,L4 y⟩;obtain⟨L,F,E⟩:=B c (L9 o);rw[Rh o]at e;have I:=QQ c.name;have S:=QB c.name.data.toList (by omega);have R:=g9 (n:=c.ty.toNat) (by omega);have W:=QI c.key;refine ax<|ab<|aE<|ab<|ae<|af (t:=.ref [sT c.name,iT c.ty,bT c.key]) Z Z Z (aQ (Col.tree c) Z bi Z Z Z (bf (f:=Col.tree) o) (ej _) Z)<|aa 3 Z<|ag<|ab<|ae<|aa 3 Z<|af (t:=.sl (bg c.name.data.toList)) Z Z Z (QS Z Z (by omega))<|af Z Z Z (ar Z ((QZ _ (by omega)).ct) Z Z)<|cD (bs':=[(30,(aT r)),(58,[sT c.name,iT c.ty,bT c.key])]) (rs':=[some ⟨5,1,bg (a++Pl c.name.data.toList),false⟩]) Z Z Z Z eS Z Z Z Z (lU _) (AllC.map _ _ fun _=>rfl) (AllC.map _ _ fun _=>rfl) (by simp only[a7];omega) Z Z Z (by simp only[fq];rfl)<|aa 1 Z<|ag<|ab<|ae<|aa 3 Z<|af (t:=.sc (.int .u64 ((c.ty.toNat:Nat):Int))) Z Z Z (ah (k7 Z mR nB Z) (SM F E))<|af Z Z Z (ar Z ((QH _ (by omega)).ct) Z Z)<|cD (bs':=[(30,(aT r)),(58,[sT c.name,iT c.ty,bT c.key])]) (rs':=[some ⟨5,1,bg ((a++Pl c.name.data.toList)++EJ c.ty.toNat),false⟩]) Z Z Z Z eS Z Z Z Z (lU _) (AllC.map _ _ fun _=>rfl) (AllC.map _ _ fun _=>rfl) (by simp only[a7,Mc];omega) Z Z Z (by simp only[fq];rfl)<|aa 1 Z<|ag<|ae<|aa 3 Z<|af Z Z Z (ar Z (RY _) Z Z)<|cD (bs':=[(30,(aT r)),(58,[sT c.name,iT c.ty,bT c.key])]) (rs':=[some ⟨5,1,bg (((a++Pl c.name.data.toList)++EJ c.ty.toNat)++Qk c.key),false⟩]) Z Z Z Z eS Z Z Z Z (lU _) (AllC.map _ _ fun _=>rfl) (AllC.map _ _ fun _=>rfl) (by simp only[a7,Mc];omega) Z Z Z (by simp only[fq];rfl)<|aa 1 Z<|ag<|ae<|af (t:=nI (i+1)) Z Z Z (ah (ai Z Z Z Zy) (bu (by omega)))<|aa 1 Z<|ag<|⟨_,_,?_,⟨i+1,(((a++Pl c.name.data.toList)++EJ c.ty.toNat)++Qk c.key),?_,Z,Z⟩,⟨Z,Z,Z,.cons Z Z (.cons Z Z (.cons Z Z (.cons Z Z (.cons Z Z .nil)))),Z⟩⟩
  ·omega
  exact⟨by omega,by simp only[Mc];omega,by rw[<-e];unfold Rn;simp⟩
 have C:a=Rg r.sch++r.sch.cols.flatMap Rn:=by rw[<-e,Mg (by omega)];simp
 have V:=g9 (n:=r.tups.length) (by have:=g.len;omega);refine aZ<|ab<|ae<|aa 3 Z<|af (t:=nI r.tups.length) Z Z Z (ah (bd Z aK Z) (by simp only[L8]))<|af (t:=.sc (.int .u64 ((r.tups.length:Nat):Int))) Z Z Z (ah (k7 Z mR nB Z) (KA (by have:=g.len;omega)))<|af Z Z Z (ar Z ((QH _ (by have:=g.len;omega)).ct) Z Z)<|cD (bs':=[(30,(aT r))]) (rs':=[some ⟨5,1,bg (a++EJ r.tups.length),false⟩]) Z Z Z Z eS Z Z Z Z (lU _) (AllC.map _ _ fun _=>rfl) (AllC.map _ _ fun _=>rfl) (by simp only[a7];omega) Z Z Z (by simp only[fq];rfl)<|aa 1 Z<|ag<|ab<|ab<|ae<|aa 2 Z<|af (t:=nI r.tups.length) Z Z Z (ah (bd Z aK Z) (by simp only[L8]))<|aa 1 Z<|ag<|aE<|aW (fun x A=>∃(j:Nat) (b:List UInt8),(j<=r.tups.length/\b.length<=1000+j*3000000/\b++(r.tups.drop j).flatMap Sb=QU r)/\x=r.tups.length-j/\A=⟨90,[(1,.box 0 0),(5,.own 0),(68,.sl (r.tups.map Tp.tree)),(69,nI r.tups.length),(70,nI j)],[(30,(aT r))],[some ⟨5,1,bg b,false⟩]⟩) 1 1 ⟨0,(a++EJ r.tups.length),⟨Mx _,by simp only[Mc];omega,by rw[C];unfold QU;simp⟩,Z,Z⟩ ⟨Z,Z,Z,.cons Z Z (.cons Z Z (.cons Z Z (.cons Z Z (.cons Z Z .nil)))),Z⟩ ?_;rintro x A ⟨j,b,⟨hj,G,d⟩,rfl,rfl⟩;have J:=g.len;refine ab<|ae<|af (t:=bT (decide (j<r.tups.length))) Z Z Z (ah (ai Z Z Z Zy) (av (iu j r.tups.length)))<|ag<|ab<|aF Z (fun s=>?_) (fun s=>?_)
 ·obtain⟨t,q⟩:∃t,r.tups[j]? =some t:=⟨_,L4 s⟩;have h:=L9 q;obtain⟨D,K,a0⟩:=RB g h;have z:=(g.fit.1.tup t h).1.p;rw[Rh q]at d;have O:=QB (fE t.vals) (by omega);have P:=RC t.prob z;refine ax<|ab<|aE<|ab<|ae<|af (t:=.ref (bS t)) Z Z Z (aQ (Tp.tree t) Z aK Z Z Z (bf (f:=Tp.tree) q) (bQ _) Z)<|aa 3 Z<|ag<|ab<|ae<|aa 3 Z<|af Z Z Z (ar Z (SA t.vals (by omega) D (fun v hv=>g.rng t h v hv)) Z Z)<|af Z Z Z (ar Z ((QZ _ (by omega)).ct) Z Z)<|cD (bs':=[(30,(aT r)),(67,(bS t))]) (rs':=[some ⟨5,1,bg (b++Pl (fE t.vals)),false⟩]) Z Z Z Z eS Z Z Z Z (lU _) (AllC.map _ _ fun _=>rfl) (AllC.map _ _ fun _=>rfl) (by simp only[a7];omega) Z Z Z (by simp only[fq];rfl)<|aa 1 Z<|ag<|ae<|aa 3 Z<|af Z Z Z (ar Z (SB t.prob z) Z Z)<|cD (bs':=[(30,(aT r)),(67,(bS t))]) (rs':=[some ⟨5,1,bg ((b++Pl (fE t.vals))++Rk t.prob),false⟩]) Z Z Z Z eS Z Z Z Z (lU _) (AllC.map _ _ fun _=>rfl) (AllC.map _ _ fun _=>rfl) (by simp only[a7,Mc];omega) Z Z Z (by simp only[fq];rfl)<|aa 1 Z<|ag<|ae<|af (t:=nI (j+1)) Z Z Z (ah (ai Z Z Z Zy) (bu (by omega)))<|aa 1 Z<|ag<|⟨_,_,?_,⟨j+1,((b++Pl (fE t.vals))++Rk t.prob),?_,Z,Z⟩,⟨Z,Z,Z,.cons Z Z (.cons Z Z (.cons Z Z (.cons Z Z (.cons Z Z .nil)))),Z⟩⟩
  ·omega
  exact⟨by omega,by simp only[Mc];omega,by rw[<-d];unfold Sb;simp⟩
 have w:b=QU r:=by rw[<-d,Mg (by omega)];simp
 refine aZ<|ab<|ae<|aa 2 Z<|Rz (k:=0) (j:=1) (l:=b) (m:=Rl (H8 b)) (rs':=[some ⟨5,1,bg b,false⟩,some ⟨5,1,bg (Rl (H8 b)),false⟩]) Z Z Z Z (SD b (by omega)) Z Z Z Z Z<|J6 1 (bs':=[(30,(aT r))]) (rs':=[some ⟨5,1,bg b,false⟩,none]) Z Z Z Z<|cD (bs':=[(30,(aT r))]) (rs':=[some ⟨5,1,bg (b++Rl (H8 b)),false⟩,none]) Z Z Z Z eS Z Z Z Z (lU _) (AllC.map _ _ fun _=>rfl) (AllC.map _ _ fun _=>rfl) (by simp only[a7,Rl,Mb,Mo];omega) Z Z Z (by simp only[fq];rfl)<|aa 2 Z<|ag<|aC<|⟨.inr Z,0,false,Z,by rw[w];rfl,Z⟩
end Go.Proofs.YtfoejfohbkmmeaaGreatDoor
