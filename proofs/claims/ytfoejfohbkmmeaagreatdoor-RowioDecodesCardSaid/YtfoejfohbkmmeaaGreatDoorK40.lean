import Derived.Test.YtfoejfohbkmmeaaGreatDoorK39
set_option maxRecDepth 100000
set_option maxHeartbeats 4000000
set_option linter.defProp false
open Go.Proofs.Tryz
namespace Go.Proofs.YtfoejfohbkmmeaaGreatDoor
open Go.RowKit
open Lib renaming hid→J
def LN{l:List UInt8}(h:0<l.length)(d:l[0].toNat=1)(a:9<=l.length):i6 l=some (⟨1,(cI ((l.drop 1).take 8):Int)-9223372036854775808,⟨#[]⟩⟩,9):=by
 cases l with
 |nil=>simp at h
 |cons c l=>
  have b:c=1:=Ta.1 d;subst b;simp only[i6,if_true,S8,Su];rw[if_pos (by simp at a;omega)]
def C6{l:List UInt8}(h:0<l.length)(d:l[0].toNat=1)(a:¬9<=l.length):i6 l=none:=by
 cases l with
 |nil=>simp at h
 |cons c l=>
  have b:c=1:=Ta.1 d;subst b;simp only[i6,if_true];rw[if_neg (by simp at a;omega)]
def LO{l:List UInt8}(h:0<l.length)(b:l[0].toNat=2):i6 l=if jI (l.drop 1)<(l.drop 1).length then some (⟨2,0,⟨((l.drop 1).take (jI (l.drop 1))).toArray⟩⟩,jI (l.drop 1)+2)else none:=by
 cases l with
 |nil=>simp at h
 |cons c l=>
  have a:c=2:=Ta.1 b;subst a;simp only[i6,S8,Su];rw[if_neg I,if_pos trivial]
def E7{l:List UInt8}(h:0<l.length)(a:l[0].toNat≠1)(b:l[0].toNat≠2):i6 l=none:=by
 cases l with
 |nil=>simp at h
 |cons c l=>
  have d:c≠1:=λe=>a (by subst e;rfl)
  have f:c≠2:=λe=>b (by subst e;rfl)
  simp only[i6,if_neg d,if_neg f]
def zh{l:List UInt8}(h:0<l.length):l≠ []:=λe=>by subst e;simp at h
def oK{c a:List UInt8}{b:List V}(d:0<a.length)(e:ir c=(ir a).map (b++ ·))(h:i6 a=none\/∃v k,i6 a=some (v,k)/\v.ok=false):ir c=none:=by
 rw[e,pg (zh d)];rcases h with h|⟨v,k,h,f⟩
 ·rw[h];rfl
 rw[h];dsimp only;rw[if_neg (by rw[f];decide)];rfl
def qi(s:Rdr):Col×Rdr:=(⟨⟨(bM 24 s).1.toArray⟩,(((bX 2 (bM 24 s).2).1:Nat):Int),decide ((bX 1 (bX 2 (bM 24 s).2).2).1=1)⟩,(bX 1 (bX 2 (bM 24 s).2).2).2)
def lL:Nat->List Col->Rdr->List Col×Rdr
 |0,acc,s=>(acc,s)
 |k+1,acc,s=>lL k (acc++[(qi s).1]) (qi s).2
structure Ot where
 vals:List V
 o:Option Rat
def Ot.tree(t:Ot):Tree:=.agg [.sl (t.vals.map V.tree),.sc (.bool (xH t.o)),aY (xI t.o),aY (xJ t.o)]
def Ot.tp(t:Ot):Tp:=⟨t.vals,t.o.getD 0⟩
def iv(m:Nat):Nat->List Ot->Rdr->Option (List Ot×Rdr)
 |0,acc,s=>some (acc,s)
 |k+1,acc,s=>match ir (bM m s).1 with
  |none=>none
  |some l=>iv m k (acc++[⟨l,(d7 (bM m s).2).1⟩]) (d7 (bM m s).2).2
def IM(b:List UInt8):Sch×Nat×Rdr:=
 let a:=bM 24 ⟨b,0⟩
 let c:=bX 1 a.2
 let n:=bX 6 c.2
 let C:=lL n.1 [] n.2
 let m:=bX 64 C.2
 (⟨⟨a.1.toArray⟩,decide (c.1=1),C.1⟩,m.1,m.2)
def zi(b:List UInt8):Option (List Ot×Rdr):=iv b.length (IM b).2.1 [] (IM b).2.2
def jX(b:List UInt8):Sch×List Ot×Bool:=match zi b with
 |none=>(⟨⟨#[]⟩,false,[]⟩,[],false)
 |some p=>((IM b).1,p.1,decide (p.2.err=0)&&decide (p.2.rest.length=0))
def C7(s:Sch)(l:List Ot):Tree:=.agg [.sc (.string s.name),.sc (.bool s.cert),.sl (s.cols.map Col.tree),.sl (l.map Ot.tree)]
def LP(b:List UInt8):Tree:=.tup [C7 (jX b).1 (jX b).2.1,.sc (.bool (jX b).2.2)]
def oL(b:List UInt8):Option Rel:=if(jX b).2.2=true then some ⟨(jX b).1,(jX b).2.1.map Ot.tp⟩else none
def C8(s:Rdr):(qi s).2.rest.length<=s.rest.length:=Q7 (de _ _) (Q7 (de _ _) (fW _ _))
def zj:∀(k:Nat) (a:List Col) (s:Rdr),(lL k a s).1.length=a.length+k/\(lL k a s).2.rest.length<=s.rest.length
 |0,_,_=>⟨Z,Q3 _⟩
 |k+1,a,s=>by
  have h:=zj k (a++[(qi s).1]) (qi s).2;have b:=C8 s;rw[lL];rw[Q4,Ss]at h;omega
def Nw(b:List UInt8):(IM b).2.2.rest.length<=b.length/\(IM b).1.cols.length<=6/\(IM b).2.1<=64:=by
 have a:=fW 24 ⟨b,0⟩;have d:=de 1 (bM 24 ⟨b,0⟩).2;have e:=de 6 (bX 1 (bM 24 ⟨b,0⟩).2).2;have f:=fv 6 (bX 1 (bM 24 ⟨b,0⟩).2).2;have c:=zj (bX 6 (bX 1 (bM 24 ⟨b,0⟩).2).2).1 [] (bX 6 (bX 1 (bM 24 ⟨b,0⟩).2).2).2;have g:=de 64 (lL (bX 6 (bX 1 (bM 24 ⟨b,0⟩).2).2).1 [] (bX 6 (bX 1 (bM 24 ⟨b,0⟩).2).2).2).2;have h:=fv 64 (lL (bX 6 (bX 1 (bM 24 ⟨b,0⟩).2).2).1 [] (bX 6 (bX 1 (bM 24 ⟨b,0⟩).2).2).2).2;unfold IM;dsimp only at a⊢;rw[Ra]at c;omega
def zk(m:Nat):∀(k:Nat) (a:List Ot) (s:Rdr) (p:List Ot×Rdr),iv m k a s=some p->p.1.length=a.length+k
 |0,_,_,p,h=>by
  simp only[iv,Ro]at h;subst h;rfl
 |k+1,a,s,p,h=>by
  rw[iv]at h;cases b:ir (bM m s).1 with
  |none=>rw[b]at h;cases h
  |some l=>
   rw[b]at h;have:=zk m k _ _ p h;rw[Q4,Ss]at this;omega
def xg(s:Rdr)(h:(d7 s).1=none):(d7 s).2.err≠0:=by
 unfold d7 at h⊢;generalize dU (dU (eL 1 s).2).2=b at h⊢;generalize dU (eL 1 s).2=a at h⊢;generalize eL 1 s=p at h⊢;generalize fh _ _ _=cb at h⊢;split
 ·assumption
 split
 ·simp
 split
 ·assumption
 split
 ·next h1 h2 h3 h4=>rw[if_neg h1,if_neg h2,if_neg h3,if_pos h4]at h;cases h
 simp
def zl(m:Nat):∀(k:Nat) (a:List Ot) (s:Rdr) (p:List Ot×Rdr),s.err≠0->iv m k a s=some p->p.2.err≠0
 |0,_,_,p,hs,h=>by
  simp only[iv,Ro]at h;subst h;exact hs
 |k+1,a,s,p,hs,h=>by
  rw[iv,wT hs,rE]at h;dsimp only at h;rw[Is hs]at h;exact zl m k _ s p hs h
def Pm(t:Ot):Prop:=∃q,t.o=some q/\Fit 2048 q
def xh{t:Ot}(h:Pm t):t.tree=t.tp.tree:=by
 obtain⟨q,a,_⟩:=h;obtain⟨l,o⟩:=t;dsimp only at a;subst a;rfl
def xi(s:Rdr){q:Rat}(h:(d7 s).1=some q):Fit 2048 q:=by
 have f:=mM (eL 1 s).2;have g:=mM (dU (eL 1 s).2).2;unfold d7 at h;generalize dU (dU (eL 1 s).2).2=b at h g;generalize dU (eL 1 s).2=a at h f;generalize eL 1 s=p at h;split at h
 ·cases h
 split at h
 ·cases h
 split at h
 ·cases h
 split at h
 ·next hc=>
  simp only[Ro]at h;have d:=qg hc;rw[h]at d;unfold dw iC at d;simp only[Tree.agg.injEq,T4,and_true]at d;have e:∀x y,aY x=aY y->(aD x).length=(aD y).length:=λx y c=>by
   unfold aY at c;injection c with c
   have:=congrArg List.length c;simpa using this
  exact⟨by rw[<-e _ _ d.2.1];exact f,by rw[<-e _ _ d.2.2];exact g⟩
 cases h
def C9(m:Nat):∀(k:Nat) (a:List Ot) (s:Rdr) (p:List Ot×Rdr),(∀t∈a,Pm t)->iv m k a s=some p->p.2.err=0->∀t∈p.1,Pm t
 |0,_,_,p,ha,h,_=>by
  simp only[iv,Ro]at h;subst h;exact ha
 |k+1,a,s,p,ha,h,he=>by
  rw[iv]at h;cases d:ir (bM m s).1 with
  |none=>rw[d]at h;cases h
  |some l=>
   rw[d]at h;dsimp only at h;cases c:(d7 (bM m s).2).1 with
   |none=>exact absurd he (zl m k _ _ p (xg _ c) h)
   |some q=>
    refine C9 m k _ _ p (λt b=>?_) h he;rcases RI.1 b with b|b
    ·exact ha t b
    rw[Rs]at b;subst b;exact⟨q,c,xi _ c⟩
def sZ:∀(n:Nat) (b:List UInt8) (l:List V),rC n b=some l->l.length<=n/\∀v∈l,v.rng
 |0,b,l,h=>by
  simp only[rC,Ro]at h;subst h;exact⟨F,λv e=>by cases e⟩
 |n+1,[],l,h=>by
  simp only[rC,Ro]at h;subst h;exact⟨F,λv e=>by cases e⟩
 |n+1,c::b,l,h=>by
  rw[rC]at h;cases a:i6 (c::b)with
  |none=>rw[a]at h;cases h
  |some p=>
   obtain⟨v,k⟩:=p;rw[a]at h;dsimp only at h;split at h
   ·rw[R9]at h;obtain⟨m,g,rfl⟩:=h;obtain⟨o,j⟩:=sZ n _ m g;refine⟨by simp only[Q5];omega,λx f=>?_⟩;rcases Ri.1 f with rfl|f
    ·simp only[i6]at a;split at a
     ·split at a
      ·simp only[Ro,Td]at a;obtain⟨rfl,_⟩:=a;have d:=iq (b.take 8);have i:(b.take 8).length<=8:=by rw[Rb];omega
       have:cI (b.take 8)<18446744073709551616:=Rh d (Q7 (Rx I i) I);unfold V.rng;dsimp only;omega
      cases a
     split at a
     ·split at a
      ·simp only[Ro,Td]at a;obtain⟨rfl,_⟩:=a;unfold V.rng;dsimp only;omega
      cases a
     cases a
    exact j x f
   cases h
def xj(m:Nat):∀(k:Nat) (a:List Ot) (s:Rdr) (p:List Ot×Rdr),(∀t∈a,t.vals.length<=m/\∀v∈t.vals,v.rng)->iv m k a s=some p->∀t∈p.1,t.vals.length<=m/\∀v∈t.vals,v.rng
 |0,_,_,p,ha,h=>by
  simp only[iv,Ro]at h;subst h;exact ha
 |k+1,a,s,p,ha,h=>by
  rw[iv]at h;cases c:ir (bM m s).1 with
  |none=>rw[c]at h;cases h
  |some l=>
   rw[c]at h;dsimp only at h;refine xj m k _ _ p (λt b=>?_) h;rcases RI.1 b with b|b
   ·exact ha t b
   rw[Rs]at b;subst b;obtain⟨d,e⟩:=sZ _ _ _ c;exact⟨Q7 d (ie m s),e⟩
def s0{b:List UInt8}{r:Rel}(o:b.length<=65536)(h:oL b=some r):FitR r/\(∀t∈r.tups,∀v∈t.vals,v.rng)/\C7 (jX b).1 (jX b).2.1=r.tree:=by
 unfold oL at h;obtain⟨_,u,w⟩:=Nw b;split at h
 ·next c=>
  simp only[Ro]at h;unfold jX at c h⊢;cases i:zi b with
  |none=>rw[i]at c;cases c
  |some p=>
   rw[i]at c h;dsimp only at c h⊢;rw[Q9]at c;have c:=And.intro (of_decide_eq_true c.1) (of_decide_eq_true c.2);have m:=C9 _ _ [] _ p (λt d=>by cases d) i c.1;have n:=xj _ _ [] _ p (λt d=>by cases d) i;have g:=zk _ _ [] _ p i;rw[Ra]at g;have e:∀t∈r.tups,∃x∈p.1,x.tp=t:=λt d=>by rw[<-h]at d;exact Sv.1 d
   refine⟨⟨by rw[<-h];dsimp only;omega,by rw[<-h];dsimp only;rw[Rn];omega,λt d=>?_⟩,λt d v k=>?_,?_⟩
   ·obtain⟨x,f,rfl⟩:=e t d;obtain⟨q,s,l⟩:=m x f;have j:x.tp.prob=q:=by unfold Ot.tp;rw[s];rfl
    refine⟨⟨by rw[j];exact l.mono I,?_⟩,Q7 (n x f).1 o⟩;rw[j];exact(lI (a:=1) (b:=2048) ⟨I,I⟩ l).mono I
   ·obtain⟨x,f,rfl⟩:=e t d;exact(n x f).2 v k
   unfold C7 Rel.tree;rw[<-h];dsimp only;rw[List.map_map,show p.1.map Ot.tree=p.1.map (Tp.tree∘Ot.tp)from SV λx f=>xh (m x f)]
 cases h
def dI(l:List UInt8):V×Nat:=if l.length<9 then(⟨0,0,⟨#[]⟩⟩,0)else(⟨1,(cI ((l.drop 1).take 8):Int)-9223372036854775808,⟨#[]⟩⟩,9)
def dS(t:List UInt8):V×Nat:=if jI t<t.length then(⟨2,0,⟨(t.take (jI t)).toArray⟩⟩,jI t+2)else(⟨0,0,⟨#[]⟩⟩,0)
def dV(c:UInt8)(l:List UInt8):V×Nat:=if c.toNat=1 then dI l else if c.toNat=2 then dS (l.drop 1)else(⟨0,0,⟨#[]⟩⟩,0)
def QY(p:V×Nat):Tree:=.tup [p.1.tree,.sc (.int .i64 ((p.2:Nat):Int))]
def AS{p q:V×Nat}(h:p=q): .tup [q.1.tree,nI (q.2)]=QY p:=by rw[h];rfl
def Gq{c:UInt8}{l:List UInt8}(h:l[0]? =some c):i6 l=if(dV c l).2=0 then none else some (dV c l):=by
 cases l with
 |nil=>cases h
 |cons a l=>
  obtain rfl:a=c:=by simpa using h
  unfold dV;by_cases b:a.toNat=1
  ·obtain rfl:a=1:=Ta.1 b;rw[if_pos b];unfold dI;simp only[i6,if_true,Q5,S8,Su];by_cases g:l.length+1<9
   ·rw[if_pos g,if_neg O];rfl
   rw[if_neg g,if_pos O];rfl
  have i:a≠1:=λe=>b (by subst e;rfl)
  rw[if_neg b];by_cases d:a.toNat=2
  ·obtain rfl:a=2:=Ta.1 d;rw[if_pos d];unfold dS;simp only[i6,if_neg i,if_true,S8,Su];by_cases f:jI l<l.length
   ·rw[if_pos f,if_pos f];rfl
   rw[if_neg f,if_neg f];rfl
  have j:a≠2:=λe=>d (by subst e;rfl)
  rw[if_neg d];simp only[i6,if_neg i,if_neg j];rfl
def Qs{c:UInt8}{l:List UInt8}(h:l[0]? =some c):(dV c l).2<=l.length:=by
 have a:=Gq h;by_cases b:(dV c l).2=0
 ·omega
 rw[if_neg b]at a;exact(rD a).2
def N6:Option (List V)->Tree
 |some l=>.tup [.sl (l.map V.tree),.sc (.int .i64 0)]
 |none=>.tup [.sl [],.sc (.int .i64 2)]
def tM(o:Option (List V)):(N6 o).plain=true:=by cases o<;>rfl
def app1{α:Type}(f:α->Tree)(l:List α)(a:α):l.map f++[f a]=(l++[a]).map f:=F
def E8{x y:Operand}(a r:Nat)(b:a*256=r)(h:r<18446744073709551616)(w:World):(do eqGuard .shl 89 x y (.int .u64 (a:Nat)) (.int .u64 8);binOp .shl 89 (.int .u64 (a:Nat)) (.int .u64 8):Sem Value).run prog w=.ok (.int .u64 ((r:Nat):Int)) w:=by
 have key:IntKind.u64.wrap ((a:Int)*256)=((r:Nat):Int):=by
  rw[IntKind.wrap_u64];omega
 simp[eqGuard,binOp,Op.shift,IntKind.bits];exact key
def Pd:si prog 77=some ([(0,1),(1,1),(2,1)],[.int .i64 0,.int .i64 0,.string (⟨#[]⟩)]):=U
def Nx(n:Int):Ct 143 [.sc (.int .i64 n)] ((⟨1,n,⟨#[]⟩⟩:V).tree):=by
 refine Ct.of (n:=5) func143 Z Z Z Z Z λw0 G0=>?_
 refine H<|am<|AZ (b:=0) (bs':=[(77,[.sc (.int .i64 0),.sc (.int .i64 0),.sc (.string (⟨#[]⟩))])]) Z Z Z Z gp Z Z Z Z<|E<|H<|am<|bW (t:=.sc (.int .i64 n)) Z Z Z (K Z Z)<|bW (t:=.agg [.sc (.int .i64 1),.sc (.int .i64 n),.sc (.string (⟨#[]⟩))]) Z Z Z (f5 Z Pd Z Z Z)<|A5 (bs':=[(77,[.sc (.int .i64 1),.sc (.int .i64 n),.sc (.string (⟨#[]⟩))])]) Z Z Z Z Z Z Z Z Z OM Z Z Z<|E<|aQ<|⟨.inr Z,_,.cons ⟨_,_,_,_,Z,Z,.inl ⟨_,fB,Z,Z⟩⟩ .nil,Z,Z⟩
def Ny(s:ByteArray):Ct 141 [.sc (.string s)] ((⟨2,0,s⟩:V).tree):=by
 refine Ct.of (n:=5) func141 Z Z Z Z Z λw0 G0=>?_
 refine H<|am<|AZ (b:=0) (bs':=[(77,[.sc (.int .i64 0),.sc (.int .i64 0),.sc (.string (⟨#[]⟩))])]) Z Z Z Z gp Z Z Z Z<|E<|H<|am<|bW (t:=.sc (.string s)) Z Z Z (K Z Z)<|bW (t:=.agg [.sc (.int .i64 2),.sc (.int .i64 0),.sc (.string s)]) Z Z Z (f5 Z Pd Z Z Z)<|A5 (bs':=[(77,[.sc (.int .i64 2),.sc (.int .i64 0),.sc (.string s)])]) Z Z Z Z Z Z Z Z Z OM Z Z Z<|E<|aQ<|⟨.inr Z,_,.cons ⟨_,_,_,_,Z,Z,.inl ⟨_,fB,Z,Z⟩⟩ .nil,Z,Z⟩
def Nz(l:List UInt8):Ct 181 [.sl (ak l)] (QY (dI l)):=by
 refine Ct.of (n:=28) func181 Z Z Z Z Z λw0 G0=>?_
 refine H<|am<|AZ (b:=0) (bs':=[(77,[.sc (.int .i64 0),.sc (.int .i64 0),.sc (.string (⟨#[]⟩))])]) Z Z Z Z gp Z Z Z Z<|bW (t:=.sc (.int .i64 0)) Z Z Z (bN Z Z)<|E<|H<|H<|am<|bW (t:=.sl (ak l)) Z Z Z (K Z Z)<|bW (t:=.sc (.int .i64 ((l.length:Nat):Int))) Z Z Z (aj (fw Z aJ Z) (by simp only[Rn,aA]))<|bW (t:=.sc (.bool (decide (l.length<9)))) Z Z Z (aj (aC Z Z Z Zy) (B (gF l.length 9)))<|E<|aK (b:=decide (l.length<9)) Z (λa=>?_) (λa=>?_)
 ·replace a:=of_decide_eq_true a;have o:dI l=(⟨0,0,⟨#[]⟩⟩,0):=if_pos a;refine H<|am<|bW (t:=.agg [.sc (.int .i64 0),.sc (.int .i64 0),.sc (.string (⟨#[]⟩))]) Z Z Z (f5 Z Pd Z Z Z)<|A5 (bs':=[(77,[.sc (.int .i64 0),.sc (.int .i64 0),.sc (.string (⟨#[]⟩))])]) Z Z Z Z Z Z Z Z Z OM Z Z Z<|bW (t:=.sc (.int .i64 0)) Z Z Z (bN Z Z)<|E<|aQ<|⟨.inr Z,_,.cons ⟨_,_,_,_,Z,Z,.inl ⟨_,fB,Z,Z⟩⟩ (.cons Z .nil),AS o,Z⟩
 replace a:=of_decide_eq_false a;obtain⟨m,q⟩:∃m,(l.drop 1).take 8=m:=⟨_,Z⟩;have g:m.length=8:=by rw[<-q,Rb,Rm];omega
 refine ar<|H<|am<|bW (t:=.sc (.int .u64 0)) Z Z Z (bN Z Z)<|E<|H<|H<|am<|bW (t:=.sl (ak l)) Z Z Z (K Z Z)<|bW (t:=.sl (ak m)) Z Z Z (aj (ef (l:=1) (h:=9) Z aJ Z ⟨_,Z⟩ ⟨_,Z⟩ I (by rw[aA];omega) (aP _)) (by rw[<-q,Uq];unfold ak;rw[Tv,Tw]))<|bW (t:=.sc (.int .i64 ((8:Nat):Int))) Z Z Z (aj (fw Z aJ Z) (by rw[aA,g]))<|bW (t:=.sc (.int .i64 0)) Z Z Z (K Z Z)<|E<|aB<|aT (λx v=>∃(j:Nat),(j<=8)/\x=8-j/\v=⟨28,[(2,.box 0 0),(4,.sc (.int .u64 ((cI (m.take j):Nat):Int))),(12,.sl (ak m)),(13,.sc (.int .i64 ((8:Nat):Int))),(14,.sc (.int .i64 ((j:Nat):Int)))],[(77,[.sc (.int .i64 0),.sc (.int .i64 0),.sc (.string (⟨#[]⟩))])],[]⟩) 1 0 ⟨0,Rg _,Z,Z⟩ .rf ?_;rintro x v ⟨j,C,rfl,rfl⟩;refine H<|am<|bW (t:=.sc (.bool (decide (j<8)))) Z Z Z (aj (aC Z Z Z Zy) (B (gF j 8)))<|E<|H<|aK (b:=decide (j<8)) Z (λd=>?_) (λd=>?_)
 ·replace d:=of_decide_eq_true d;obtain⟨c,f⟩:∃c,m[j]? =some c:=⟨_,Q2 O⟩;have p:c.toNat<256:=c.toNat_lt;obtain⟨z,e⟩:∃z,cI (m.take j)=z:=⟨_,Z⟩;have A:z<72057594037927936:=by rw[<-e];exact xe (k:=7) (by rw[Rb];omega) (Q3 _)
  have u:cI (m.take (j+1))=z*256+c.toNat:=by rw[List.take_add_one,f,Option.toList_some,jH,e]
  rw[e];refine ar<|H<|aB<|H<|am<|bW (t:=.ref [.sc (.int .u8 ((c.toNat:Nat):Int))]) Z Z Z (aO (.sc (.int .u8 ((c.toNat:Nat):Int))) Z aJ Z Z Z (dR f) (aP _) Z)<|bW (t:=.sc (.int .u8 ((c.toNat:Nat):Int))) Z Z Z (bi Z Z jG Z)<|bW (t:=.sc (.int .u8 ((c.toNat:Nat):Int))) Z Z Z (bN Z Z)<|E<|am<|bW (t:=.sc (.int .u64 ((z:Nat):Int))) Z Z Z (K Z Z)<|bW (t:=.sc (.int .u64 ((z*256:Nat):Int))) Z Z Z (aC Z Z Z (λw=>E8 z _ Z O w))<|bW (t:=.sc (.int .u8 ((c.toNat:Nat):Int))) Z Z Z (K Z Z)<|bW (t:=.sc (.int .u64 ((c.toNat:Nat):Int))) Z Z Z (aj (bp Z b7 b6 Z) (jt O))<|bW (t:=.sc (.int .u64 ((z*256+c.toNat:Nat):Int))) Z Z Z (aC Z Z Z (λw=>po (z*256) c.toNat _ O O (by rw[Rk,<-Nat.two_pow_add_eq_or_of_lt (i:=8) p z]) w))<|bW (t:=.sc (.int .u64 ((z*256+c.toNat:Nat):Int))) Z Z Z (bN Z Z)<|E<|am<|bW (t:=.sc (.int .i64 ((j+1:Nat):Int))) Z Z Z (aj (aC Z Z Z Zy) (pC O O))<|bW (t:=.sc (.int .i64 ((j+1:Nat):Int))) Z Z Z (K Z Z)<|E<|⟨_,_,?_,⟨j+1,?_,Z,Z⟩,⟨Z,Z,Z,.cons Z Z (.cons (by rw[u];rfl) Z (.cons Z Z (.cons Z Z (.cons Z Z .nil)))),Z⟩⟩
  ·omega
  omega
 replace d:=of_decide_eq_false d;have y:j=8:=O
 have r:m.take j=m:=Rf O;obtain⟨z,e⟩:∃z,cI m=z:=⟨_,Z⟩;rw[r,e];have s:z<18446744073709551616:=by rw[<-e];have:=iq m;rw[g]at this;exact Rh this I
 have o:dI l=(⟨1,(z:Int)-9223372036854775808,⟨#[]⟩⟩,9):=by unfold dI;rw[if_neg a,q,e]
 refine aX<|H<|am<|bW (t:=.sc (.int .u64 ((z:Nat):Int))) Z Z Z (K Z Z)<|bW (t:=.sc (.int .u64 (bits .xor .u64 ((z:Nat):Int) 9223372036854775808))) Z Z Z (aC Z Z Z Zy)<|bW (t:=.sc (.int .i64 (((z:Nat):Int)-9223372036854775808))) Z Z Z (aj (bp Z b6 o0 Z) (ej (by have h:=zf z s;unfold wrap64 at h;rw[RZ];exact h)))<|bW (t:=.agg [.sc (.int .i64 1),.sc (.int .i64 (((z:Nat):Int)-9223372036854775808)),.sc (.string (⟨#[]⟩:ByteArray))]) Z Z Z (D Z (Nx _) Z Z)<|A5 (bs':=[(77,[.sc (.int .i64 1),.sc (.int .i64 (((z:Nat):Int)-9223372036854775808)),.sc (.string (⟨#[]⟩:ByteArray))])]) Z Z Z Z Z Z Z Z Z OM Z Z Z<|bW (t:=.sc (.int .i64 9)) Z Z Z (bN Z Z)<|E<|aQ<|⟨.inr Z,_,.cons ⟨_,_,_,_,Z,Z,.inl ⟨_,fB,Z,Z⟩⟩ (.cons Z .nil),AS o,Z⟩
def NA(l:List UInt8)(v:l.length<=1073741824):Ct 182 [.sl (ak l)] (QY (dS (l.drop 1))):=by
 refine Ct.of (n:=24) func182 Z Z Z Z Z λw0 G0=>?_
 refine H<|am<|AZ (b:=0) (bs':=[(77,[.sc (.int .i64 0),.sc (.int .i64 0),.sc (.string (⟨#[]⟩))])]) Z Z Z Z gp Z Z Z Z<|bW (t:=.sc (.int .i64 0)) Z Z Z (bN Z Z)<|E<|H<|H<|am<|bW (t:=.sc (.int .i64 1)) Z Z Z (bN Z Z)<|E<|aB<|aT (λr p=>∃(i:Nat),(1<=i/\i-1<=jI (l.drop 1))/\r=l.length-i/\p=⟨24,[(0,.sl (ak l)),(2,.box 0 0),(4,.sc (.int .i64 ((i:Nat):Int)))],[(77,[.sc (.int .i64 0),.sc (.int .i64 0),.sc (.string (⟨#[]⟩))])],[]⟩) 1 0 ⟨1,⟨Q3 _,Rg _⟩,Z,Z⟩ .rf ?_;rintro r p ⟨i,⟨k,q⟩,rfl,rfl⟩;refine H<|H<|am<|bW (t:=.sc (.int .i64 ((i:Nat):Int))) Z Z Z (K Z Z)<|bW (t:=.sl (ak l)) Z Z Z (K Z Z)<|bW (t:=.sc (.int .i64 ((l.length:Nat):Int))) Z Z Z (aj (fw Z aJ Z) (by simp only[Rn,aA]))<|bW (t:=.sc (.bool (decide (i<l.length)))) Z Z Z (aj (aC Z Z Z Zy) (B (gF i l.length)))<|E<|aK (b:=decide (i<l.length)) Z (λd=>?_) (λd=>?_)
 ·replace d:=of_decide_eq_true d;obtain⟨c,e⟩:∃c,l[i]? =some c:=⟨_,Q2 d⟩;obtain⟨s,m⟩:=Q6.1 e;have j:i-1<(l.drop 1).length:=by rw[Rm];omega
  have f:(l.drop 1)[i-1]=c:=by rw[TO,<-m];congr 1;omega
  refine ar<|H<|aB<|H<|am<|bW (t:=.sl (ak l)) Z Z Z (K Z Z)<|bW (t:=.sc (.int .i64 ((i:Nat):Int))) Z Z Z (K Z Z)<|bW (t:=.ref [.sc (.int .u8 ((c.toNat:Nat):Int))]) Z Z Z (aO (.sc (.int .u8 ((c.toNat:Nat):Int))) Z aJ Z Z Z (dR e) (aP _) Z)<|bW (t:=.sc (.int .u8 ((c.toNat:Nat):Int))) Z Z Z (bi Z Z jG Z)<|bW (t:=.sc (.bool (decide (c.toNat=0)))) Z Z Z (aj (aC Z Z Z Zy) (B (gL c.toNat 0)))<|E<|aK (b:=decide (c.toNat=0)) Z (λa=>?_) (λa=>?_)
  ·replace a:=of_decide_eq_true a;have o:jI (l.drop 1)=i-1:=Nat.le_antisymm (xf _ _ j (by rw[f];exact a)) q;have g:dS (l.drop 1)=(⟨2,0,bs ((l.drop 1).take (i-1))⟩,i+1):=by unfold dS;rw[o,if_pos j,show i-1+2=i+1 by omega];rfl
   refine H<|am<|bW (t:=.sl (ak l)) Z Z Z (K Z Z)<|bW (t:=.sc (.int .i64 ((i:Nat):Int))) Z Z Z (K Z Z)<|bW (t:=.sl (ak ((l.drop 1).take (i-1)))) Z Z Z (aj (ef (l:=1) (h:=i) Z aJ Z ⟨_,Z⟩ ⟨_,Z⟩ k (by rw[aA];omega) (aP _)) (by rw[Uq];unfold ak;rw[Tv,Tw]))<|bW (t:=.sc (.string (bs ((l.drop 1).take (i-1))))) Z Z Z (eH Z Z)<|bW (t:=.agg [.sc (.int .i64 2),.sc (.int .i64 0),.sc (.string (bs ((l.drop 1).take (i-1))))]) Z Z Z (D Z (Ny _) Z Z)<|bW (t:=.sc (.int .i64 ((i:Nat):Int))) Z Z Z (K Z Z)<|bW (t:=.sc (.int .i64 ((i+1:Nat):Int))) Z Z Z (aj (aC Z Z Z Zy) (pC O O))<|A5 (bs':=[(77,[.sc (.int .i64 2),.sc (.int .i64 0),.sc (.string (bs ((l.drop 1).take (i-1))))])]) Z Z Z Z Z Z Z Z Z OM Z Z Z<|bW (t:=.sc (.int .i64 ((i+1:Nat):Int))) Z Z Z (bN Z Z)<|E<|aQ<|⟨.inr Z,_,.cons ⟨_,_,_,_,Z,Z,.inl ⟨_,fB,Z,Z⟩⟩ (.cons Z .nil),AS g,Z⟩
  replace a:=of_decide_eq_false a;have u:=sY _ _ j q (by rw[f];exact a);refine ar<|am<|bW (t:=.sc (.int .i64 ((i:Nat):Int))) Z Z Z (K Z Z)<|bW (t:=.sc (.int .i64 ((i+1:Nat):Int))) Z Z Z (aj (aC Z Z Z Zy) (pC O O))<|bW (t:=.sc (.int .i64 ((i+1:Nat):Int))) Z Z Z (bN Z Z)<|E<|⟨_,_,?_,⟨i+1,?_,Z,Z⟩,.rf⟩
  ·omega
  omega
 replace d:=of_decide_eq_false d;have g:dS (l.drop 1)=(⟨0,0,⟨#[]⟩⟩,0):=by unfold dS;rw[if_neg];rw[Rm];omega
 refine aX<|H<|am<|bW (t:=.agg [.sc (.int .i64 0),.sc (.int .i64 0),.sc (.string (⟨#[]⟩))]) Z Z Z (f5 Z Pd Z Z Z)<|A5 (bs':=[(77,[.sc (.int .i64 0),.sc (.int .i64 0),.sc (.string (⟨#[]⟩))])]) Z Z Z Z Z Z Z Z Z OM Z Z Z<|bW (t:=.sc (.int .i64 0)) Z Z Z (bN Z Z)<|E<|aQ<|⟨.inr Z,_,.cons ⟨_,_,_,_,Z,Z,.inl ⟨_,fB,Z,Z⟩⟩ (.cons Z .nil),AS g,Z⟩
def Gr(l:List UInt8)(P:l.length<=1073741824):Ct 118 [.sl (ak l)] (N6 (ir l)):=by
 refine Ct.of (n:=42) func118 Z Z Z Z Z λw0 G0=>?_
 refine C<|M 0 (t:=.sl []) Z (bz (.inr Z) bS)<|Y 1 Z<|C<|gc (k:=0) (e:=77) (sz:=3) (rs':=[some ⟨77,3,[].map V.tree,false⟩]) (.inr Z) Z Z Z Z Z<|E<|H<|aB<|aT (λK I=>∃(a:List UInt8) (g:List V),(a.length<=l.length/\g.length+a.length<=l.length/\ir l=(ir a).map (g++ ·))/\K=a.length/\I=⟨42,[(0,.sl (ak a)),(4,.own 0)],[],[some ⟨77,3,g.map V.tree,false⟩]⟩) 0 1 ⟨l,[],⟨Q3 _,F0,by cases ir l<;>simp⟩,Z,Z⟩ .rf ?_;rintro K I ⟨a,g,⟨O,L,j⟩,rfl,rfl⟩;refine H<|C<|M 1 Z (aU Z aJ Z)<|aI 0 Z Z Zy (B (nZ a.length 0))<|E<|ay Z (λr=>?_) (λr=>?_)
 ·obtain⟨c,i⟩:∃c,a[0]? =some c:=⟨_,Q2 r⟩;obtain⟨⟨v,k⟩,u⟩:∃d,dV c a=d:=⟨_,Z⟩;have w:=Qs i;have f:=pg (b:=a) (λe=>by rw[e]at i;cases i);rw[Gq i,u]at f;rw[u]at w;dsimp only at w f;refine ar<|aB<|X 1 Z<|X 1 Z<|H<|oc ⟨42,[(0,.sl (ak a)),(4,.own 0),(5,.box 0 0),(6,nI k)],[(77,[iT v.t,iT v.n,sT v.s])],[some ⟨77,3,g.map V.tree,false⟩]⟩ 1 1 ?_ ?_
  ·refine C<|M 1 (t:=.ref [.sc (.int .u8 ((c.toNat:Nat):Int))]) Z (aO (.sc (.int .u8 ((c.toNat:Nat):Int))) Z aJ Z Z Z (dR i) (aP _) Z)<|Y 1 Z<|aB<|C<|aI 0 Z Z Zy (B (gL c.toNat 1))<|Y 1 Z<|ay Z (λm=>?_) (λm=>?_)
   ·have q:dI a=(v,k):=by rw[<-u];exact(if_pos m).symm
    refine am<|M 1 (t:=.tup [.agg [iT v.t,iT v.n,sT v.s],nI k]) Z (D Z (by have h:=Nz a;rw[q]at h;exact h) Z Z)<|Y 5 Z<|.rf
   refine C<|aI 0 Z Z Zy (B (gL c.toNat 2))<|Y 1 Z<|ay Z (λo=>?_) (λo=>?_)
   ·have q:dS (a.drop 1)=(v,k):=by rw[<-u];exact((if_neg m).trans (if_pos o)).symm
    refine am<|M 1 (t:=.tup [.agg [iT v.t,iT v.n,sT v.s],nI k]) Z (D Z (by have h:=NA a O0;rw[q]at h;exact h) Z Z)<|Y 5 Z<|.rf
   cases u.symm.trans ((if_neg m).trans (if_neg o));refine ar<|.rf
  refine H<|C<|aI 1 Z Z Zy (B (gL k 0))<|ax 1 Z<|N Z Z Z Z (λx=>aN Z Z Z fB Z Z)<|N Z Z Z Z (λx=>D Z (BB v) (dN (if_pos x) Z) Z)<|N (t:=bT (!v.ok)) Z Z Z Z (λx=>dm Z (if_pos x) (λ_=>rfl))<|M 0 Z (dD Z Z Z Z)<|E<|aK Z (λp=>?_) (λp=>?_)
  ·have z:ir l=none:=by
    rw[j,f];by_cases y:k=0
    ·rw[if_pos y];rfl
    have G:v.ok=false:=by simpa[y]using p
    rw[if_neg y];dsimp only;rw[if_neg (by rw[G];decide)];rfl
   refine C<|M 0 (t:=.sl []) Z (bz (.inr Z) bS)<|Y 1 Z<|aQ<|⟨.inr Z,_,.cons Z (.cons Z .nil),by rw[z];rfl,tM _⟩
  obtain⟨A,G⟩:k≠0/\v.ok=true:=by simpa using p
  refine ar<|C<|M 2 (t:=.sl [.agg [iT v.t,iT v.n,sT v.s]]) Z (aS Z bI gp Z I1 I1 Z Z Z Z Z)<|a7 (bs':=[(77,[iT v.t,iT v.n,sT v.s])]) (rs':=[some ⟨77,3,(g++[v]).map V.tree,false⟩]) Z Z Z Z iM Z Z Z Z (by intro e J;simp only[Ri,RM,or_false]at J;subst J;rfl) (AllC.lit Z) (AllC.lit Z) (by simp only[Rn,Q5,Ra];omega) Z Z Z (by rw[<-app1];rfl)<|Y 1 Z<|am<|M 2 (t:=.sl (ak (a.drop k))) Z (aj (ef (l:=k) (h:=(ak a).length) Z aJ Z ⟨_,Z⟩ Z (by rw[aA];omega) (Q3 _) (aP _)) (mJ _ _))<|Y 1 Z<|⟨_,_,?_,⟨a.drop k,g++[v],?_,Z,Z⟩,.rf⟩
  ·rw[Rm];omega
  exact⟨by rw[Rm];omega,by simp only[Rm,Q4,Q5,Ra];omega,by rw[j,f,if_neg A];dsimp only;rw[if_pos G];cases ir (a.drop k)<;>simp⟩
 have F:a=[]:=Rj O0;have z:ir l=some g:=by rw[j,F,rE];simp
 refine aX<|H<|dp 0 (bs':=[]) (rs':=[none]) Z Z Z Z<|eh 3 Z<|aQ<|⟨.inr Z,_,.cons Z (.cons Z .nil),by rw[z];rfl,tM _⟩
def Gs(W:World)(G:Nat->Prop):∀l:List V,PT W G (ep l) (flat (l.map V.tree))
 |[]=>.nil
 |v::l=>by
  rw[Sb,fm];exact .sc _ (.sc _ (.sc _ (Gs W G l)))
def AT{a:Int}{m:Nat}(h:a=m)(b:m<18446744073709551616):(Tree.sc (.int .u64 (IntKind.u64.wrap a)))=.sc (.int .u64 ((m:Nat):Int)):=by
 subst h;rw[IntKind.wrap_u64];congr 2;omega
def Pn:(prog.info? 4).map (·.size)=some 1:=U
def Po:(prog.info? 9).map (·.size)=some 1:=U
def E9(b:List UInt8)(hb:b.length<=65536):Ct 62 [.sl (ak b)] (LP b):=by
 obtain⟨a,W⟩:∃x,bM 24 ⟨b,0⟩=x:=⟨_,Z⟩;obtain⟨c,hc⟩:∃x,bX 1 a.2=x:=⟨_,Z⟩;obtain⟨n,hn⟩:∃x,bX 6 c.2=x:=⟨_,Z⟩;have g1:=fW 24 ⟨b,0⟩;have g2:=de 1 a.2;have g3:=de 6 c.2;have g4:=fv 6 c.2;rw[W]at g1;rw[hc]at g2;rw[hn]at g3 g4;dsimp only at g1;refine Ct.of (n:=80) func62 Z Z Z Z Z λw0 G0=>?_
 refine X 2 Z<|C<|ax 1 Z<|Ex (k:=1) (bs':=[(30,c7),(184,[.sl (ak ((Rdr.mk b 0).rest)),nI ((Rdr.mk b 0).err)])]) Z Z Z Z (O7 b O0) Z Z Z Z<|Y 1 Z<|C<|qW (cs:=[sT (⟨#[]⟩),bT false,.sc (.slice none 0 0),.sc (.slice none 0 0)]) (b:=2) (bs':=[(30,c7),(184,[.sl (ak ((Rdr.mk b 0).rest)),nI ((Rdr.mk b 0).err)]),(30,[sT (⟨#[]⟩),bT false,.sc (.slice none 0 0),.sc (.slice none 0 0)])]) Z Z Z Z jE Z Z Z Z<|E<|C<|ax 1 Z<|bm (r:=.sl (ak a.1)) (bs':=[(30,c7),(184,[.sl (ak a.2.rest),nI (a.2.err)]),(30,[sT (⟨#[]⟩),bT false,.sc (.slice none 0 0),.sc (.slice none 0 0)])]) Z Z Z Z Z Z (W▸rZ ⟨b,0⟩ 24 (by dsimp only;omega) I1) Z Z Z Z<|M 0 (t:=sT (bs a.1)) Z (eH Z Z)<|Y 3 Z<|C<|ax 1 Z<|bm (r:=.sc (.int .u64 ((c.1:Nat):Int))) (bs':=[(30,c7),(184,[.sl (ak c.2.rest),nI (c.2.err)]),(30,[sT (bs a.1),bT false,.sc (.slice none 0 0),.sc (.slice none 0 0)])]) Z Z Z Z Z Z (hc▸sV a.2 1 O0) Z Z Z Z<|aI 0 Z Z Zy (B (gL (c.1) 1))<|Y 3 Z<|H<|C<|ax 1 Z<|bm (r:=.sc (.int .u64 ((n.1:Nat):Int))) (bs':=[(30,c7),(184,[.sl (ak n.2.rest),nI (n.2.err)]),(30,[sT (bs a.1),bT (decide (c.1=1)),.sc (.slice none 0 0),.sc (.slice none 0 0)])]) Z Z Z Z Z Z (hn▸sV c.2 6 O0) Z Z Z Z<|Y 1 Z<|aB<|iU 2 2 58 3 (bs':=[(30,c7),(184,[.sl (ak n.2.rest),nI (n.2.err)]),(30,[sT (bs a.1),bT (decide (c.1=1)),.own 0,.sc (.slice none 0 0)])]) (rs':=[some ⟨58,3,[].map Col.tree,false⟩]) Z Z Z Z<|aT (λS L=>∃(i:Nat) (d:List Col) (s:Rdr),(i<=n.1/\d.length=i/\s.rest.length<=b.length/\lL (n.1-i) d s=lL n.1 [] n.2)/\S=n.1-i/\L=⟨80,[(0,.sl (ak b)),(2,.box 0 0),(4,.box 1 0),(5,.box 2 0),(23,.sc (.int .u64 ((n.1:Nat):Int))),(24,.sc (.int .u64 ((i:Nat):Int)))],[(30,c7),(184,[.sl (ak s.rest),nI s.err]),(30,[sT (bs a.1),bT (decide (c.1=1)),.own 0,.sc (.slice none 0 0)])],[some ⟨58,3,d.map Col.tree,false⟩]⟩) 3 1 ⟨0,[],n.2,⟨Rg _,Z,O0,Z⟩,Z,Z⟩ .rf ?_;rintro S L ⟨i,d,s,⟨hi,a0,a9,w⟩,rfl,rfl⟩;refine C<|aI 0 Z Z Zy (B (gF i (n.1)))<|E<|H<|ay Z (λA=>?_) (λA=>?_)
 ·obtain⟨z,hz⟩:∃z,n.1-i=z+1:=⟨n.1-i-1,O0⟩;obtain⟨p,G⟩:∃x,bM 24 s=x:=⟨_,Z⟩;obtain⟨q,I⟩:∃x,bX 2 p.2=x:=⟨_,Z⟩;obtain⟨o,A⟩:∃x,bX 1 q.2=x:=⟨_,Z⟩;have P:qi s=((⟨bs p.1,((q.1:Nat):Int),decide (o.1=1)⟩:Col),o.2):=by unfold qi;rw[G,I,A];rfl
  have l1:=fW 24 s;have l2:=de 2 p.2;have l3:=de 1 q.2;have l4:=fv 2 p.2;rw[G]at l1;rw[I]at l2 l4;rw[A]at l3;rw[hz,lL,P]at w;refine ar<|H<|aB<|C<|ax 1 Z<|bm (r:=.sl (ak p.1)) (bs':=[(30,c7),(184,[.sl (ak p.2.rest),nI (p.2.err)]),(30,[sT (bs a.1),bT (decide (c.1=1)),.own 0,.sc (.slice none 0 0)])]) Z Z Z Z Z Z (G▸rZ s 24 O0 I1) Z Z Z Z<|M 0 (t:=sT (bs p.1)) Z (eH Z Z)<|Y 1 Z<|C<|ax 1 Z<|bm (r:=.sc (.int .u64 ((q.1:Nat):Int))) (bs':=[(30,c7),(184,[.sl (ak q.2.rest),nI (q.2.err)]),(30,[sT (bs a.1),bT (decide (c.1=1)),.own 0,.sc (.slice none 0 0)])]) Z Z Z Z Z Z (I▸sV p.2 2 O0) Z Z Z Z<|M 0 (t:=nI (q.1)) Z (aj (bp Z b6 cf Z) (pC Z O0))<|Y 1 Z<|eM (sl':=[(0,.sl (ak b)),(2,.box 0 0),(4,.box 1 0),(5,.box 2 0),(23,.sc (.int .u64 ((n.1:Nat):Int))),(24,.sc (.int .u64 ((i:Nat):Int))),(25,bT (decide (i<n.1))),(6,sT (bs p.1)),(7,nI (q.1))]) ⟨Z,⟨Z,⟨Z,⟨Z,⟨Z,⟨Z,⟨Z,⟨Z,⟨Z,trivial⟩⟩⟩⟩⟩⟩⟩⟩⟩<|Vr (fu:=3) [some 32,some 33,some 34,some 35,some 36,some 37,some 38,some 39,some 40,some 41,some 42,some 43,some 44,none] [6,10,13] [.box 2 0,.box 2 2,.own 0,sT (bs p.1),nI (q.1),.box 1 0,.sc (.int .u64 ((o.1:Nat):Int)),bT (decide (o.1=1)),.agg [sT (bs p.1),nI (q.1),bT (decide (o.1=1))],.sl [.agg [sT (bs p.1),nI (q.1),bT (decide (o.1=1))]],.own 0,.box 2 0,.box 2 2,.any] [([6],[(30,c7),(184,[.sl (ak o.2.rest),nI (o.2.err)]),(30,[sT (bs a.1),bT (decide (c.1=1)),.own 0,.sc (.slice none 0 0)])],[some ⟨58,3,d.map Col.tree,false⟩],[]),([10,6],[(30,c7),(184,[.sl (ak o.2.rest),nI (o.2.err)]),(30,[sT (bs a.1),bT (decide (c.1=1)),.any,.sc (.slice none 0 0)])],[some ⟨58,3,(d++[(⟨bs p.1,((q.1:Nat):Int),decide (o.1=1)⟩:Col)]).map Col.tree,false⟩],[(2,.any)])] [13,10,6] [(30,c7),(184,[.sl (ak o.2.rest),nI (o.2.err)]),(30,[sT (bs a.1),bT (decide (c.1=1)),.own 0,.sc (.slice none 0 0)])] [some ⟨58,3,(d++[(⟨bs p.1,((q.1:Nat):Int),decide (o.1=1)⟩:Col)]).map Col.tree,false⟩] [(2,.any)] U0 Z U0 U0 U0 Z Z ?_ ?_
  ·refine .opp [] (.okk Z (aq Z Z cV Z)<|.okk Z (aq Z Z cV Z)<|.fin)<|.opp [0] (.okk Z (aq Z Z cP Z)<|.okk Z (aq Z Z cP Z)<|.fin)<|.opp [1] (.okk Z (av Z Z Z d9 Z)<|.okk Z (av Z Z Z d9 Z)<|.fin)<|.opp [] (.okk Z (K Z Z)<|.okk Z (K Z Z)<|.fin)<|.opp [] (.okk Z (K Z Z)<|.okk Z (K Z Z)<|.fin)<|.opp [] (.okk Z (K Z Z)<|.fin)<|.opp [5] (.wr 1 id (.sc (.int .u64 ((o.1:Nat):Int))) U0 Z Z (rA (vs:=[.int .u64 1]) Z Z Z Z Z (A▸sV q.2 1 O0) Z Z) Z Z Z Z (.ks 6 Z (.i Z (.k Z (.k Z (.k Z (.k Z (.k Z (.k Z (.k Z .nil)))))))))<|.fin)<|.opp [6] (.no U0<|.okk Z (aj (aC Z Z Z Zy) (B (gL (o.1) 1)))<|.fin)<|.opp [3,4,7] (.no U0<|.okk Z (f5 Z wF Z Z Z)<|.fin)<|.opp [8] (.no U0<|.okk Z (aS Z bk iL Z I1 I1 Z Z Z Z Z)<|.fin)<|.opp [2,9] (.no U0<|.wr 2 (fk 0) (.own 0) U0 Z Z (c8 Z Z Z nw Z Z Z Z (by intro e Q;simp only[Ri,RM,or_false]at Q;subst Q;rfl) (AllC.lit Z) (AllC.lit Z) (by simp only[Rn,Q5,Ra];omega) Z Z (by rw[<-app1];rfl)) Z Z Z Z (.ks 10 Z (.i Z (.k Z (.k Z (.k Z .nil)))))<|.fin)<|.opp [] (.nos 2<|.okk Z (aq Z Z cV Z)<|.fin)<|.opp [11] (.nos 2<|.okk Z (aq Z Z cP Z)<|.fin)<|.opp [10,12] (.nos 2<|.wr 3 id .any U0 Z Z (fx Z Z Z Z Z Z Z Z vX Z Z Z) Z Z Z Z (.ks 13 Z (.i Z .nil))<|.fin)<|.nil
  refine am<|aI 0 (t:=.sc (.int .u64 ((i+1:Nat):Int))) Z Z Zy (AT O0 O0)<|Y 1 Z<|⟨_,_,?_,⟨i+1,d++[(⟨bs p.1,((q.1:Nat):Int),decide (o.1=1)⟩:Col)],o.2,?_,Z,Z⟩,.rf⟩
  ·omega
  exact⟨O0,by rw[Q4,a0];rfl,O0,by rw[show n.1-(i+1)=z by omega];exact w⟩
 have a4:i=n.1:=O0
 rw[a4,RW,lL]at w;obtain⟨m,hm⟩:∃x,bX 64 s=x:=⟨_,Z⟩;have l5:=de 64 s;have l6:=fv 64 s;rw[hm]at l5 l6;have R:IM b=(⟨bs a.1,decide (c.1=1),d⟩,m.1,m.2):=by simp only[IM,W,hc,hn,<-w,hm];rfl
 have y:zi b=iv b.length m.1 [] m.2:=by unfold zi;rw[R]
 refine aX<|H<|C<|ax 1 Z<|bm (r:=.sc (.int .u64 ((m.1:Nat):Int))) (bs':=[(30,c7),(184,[.sl (ak m.2.rest),nI (m.2.err)]),(30,[sT (bs a.1),bT (decide (c.1=1)),.own 0,.sc (.slice none 0 0)])]) Z Z Z Z Z Z (hm▸sV s 64 O0) Z Z Z Z<|Y 1 Z<|aB<|iU 2 3 67 4 (bs':=[(30,c7),(184,[.sl (ak m.2.rest),nI (m.2.err)]),(30,[sT (bs a.1),bT (decide (c.1=1)),.own 0,.own 1])]) (rs':=[some ⟨58,3,d.map Col.tree,false⟩,some ⟨67,4,([]:List Ot).map Ot.tree,false⟩]) Z Z Z Z<|aT (λS L=>∃(j:Nat) (v:List Ot) (u:Rdr),(j<=m.1/\v.length=j/\u.rest.length<=b.length/\iv b.length (m.1-j) v u=iv b.length m.1 [] m.2)/\S=m.1-j/\L=⟨80,[(0,.sl (ak b)),(2,.box 0 0),(4,.box 1 0),(5,.box 2 0),(47,.sc (.int .u64 ((m.1:Nat):Int))),(48,.sc (.int .u64 ((j:Nat):Int)))],[(30,c7),(184,[.sl (ak u.rest),nI u.err]),(30,[sT (bs a.1),bT (decide (c.1=1)),.own 0,.own 1])],[some ⟨58,3,d.map Col.tree,false⟩,some ⟨67,4,(v).map Ot.tree,false⟩]⟩) 3 2 ⟨0,[],m.2,⟨Rg _,Z,O0,Z⟩,Z,Z⟩ .rf ?_;rintro S L ⟨j,v,u,⟨hj,a2,b0,g⟩,rfl,rfl⟩;refine C<|aI 0 Z Z Zy (B (gF j (m.1)))<|E<|H<|ay Z (λa3=>?_) (λa3=>?_)
 ·obtain⟨z,hz⟩:∃z,m.1-j=z+1:=⟨m.1-j-1,O0⟩;obtain⟨k,T⟩:∃x,bM b.length u=x:=⟨_,Z⟩;obtain⟨f,hf⟩:∃x,d7 k.2=x:=⟨_,Z⟩;have l7:=fW b.length u;have l8:=yV k.2;have l9:=ie b.length u;rw[T]at l7 l9;rw[hf]at l8;rw[hz,iv,T]at g;refine ar<|H<|aB<|H ?_;rcases F:ir k.1 with _|l
  ·rw[F]at g;have U:jX b=(⟨⟨#[]⟩,false,[]⟩,[],false):=by unfold jX;rw[y,<-g]
   refine am<|M 2 Z (aU Z aJ Z)<|bm (r:=.sl (ak k.1)) (bs':=[(30,c7),(184,[.sl (ak k.2.rest),nI (k.2.err)]),(30,[sT (bs a.1),bT (decide (c.1=1)),.own 0,.own 1])]) Z Z Z Z Z Z (T▸rZ u b.length O0 O0) Z Z Z Z<|M 0 (t:=.tup [.sl [],nI 2]) Z (D Z (by have h:=Gr k.1 O0;rw[F]at h;exact h) Z Z)<|Y 5 Z<|H<|C<|aI 1 Z Z Zy (B (od 2 0))<|E<|ay Z (λN=>?_) (λN=>?_)
   ·refine X 3 Z<|aQ<|⟨.inr Z,_,.cons (co Z Z bf Z) (.cons Z .nil),by unfold LP;rw[U];rfl,Z⟩
   exact absurd I1 N
  rw[F]at g;dsimp only at g;rw[hf]at g;refine am<|M 2 Z (aU Z aJ Z)<|bm (r:=.sl (ak k.1)) (bs':=[(30,c7),(184,[.sl (ak k.2.rest),nI (k.2.err)]),(30,[sT (bs a.1),bT (decide (c.1=1)),.own 0,.own 1])]) Z Z Z Z Z Z (T▸rZ u b.length O0 O0) Z Z Z Z<|M 0 (t:=.tup [.sl (l.map V.tree),nI 0]) Z (D Z (by have h:=Gr k.1 O0;rw[F]at h;exact h) Z Z)<|Y 5 Z<|H<|C<|aI 1 Z Z Zy (B (od 0 0))<|E<|ay Z (λO=>?_) (λO=>?_)
  ·exact absurd Z O
  refine ar<|eM (sl':=[(0,.sl (ak b)),(2,.box 0 0),(4,.box 1 0),(5,.box 2 0),(47,.sc (.int .u64 ((m.1:Nat):Int))),(48,.sc (.int .u64 ((j:Nat):Int))),(49,bT (decide (j<m.1))),(8,.sl (l.map V.tree)),(9,nI 0),(59,bT (decide (0≠0)))]) ⟨Z,⟨Z,⟨Z,⟨Z,⟨Z,⟨Z,⟨Z,⟨Z,⟨Z,⟨Z,trivial⟩⟩⟩⟩⟩⟩⟩⟩⟩⟩<|Vr (fu:=3) [some 61,some 62,some 63,some 64,some 65,some 66,some 67,some 68,some 69,none] [4,7,9] [.box 2 3,.own 1,.sl (l.map V.tree),.box 1 0,.agg [bT (xH f.1),aY (xI f.1),aY (xJ f.1)],.agg [.sl (l.map V.tree),bT (xH f.1),aY (xI f.1),aY (xJ f.1)],.sl [.agg [.sl (l.map V.tree),bT (xH f.1),aY (xI f.1),aY (xJ f.1)]],.own 1,.box 2 3,.any] [([4],[(30,c7),(184,[.sl (ak f.2.rest),nI (f.2.err)]),(30,[sT (bs a.1),bT (decide (c.1=1)),.own 0,.own 1])],[some ⟨58,3,d.map Col.tree,false⟩,some ⟨67,4,(v).map Ot.tree,false⟩],[]),([7,4],[(30,c7),(184,[.sl (ak f.2.rest),nI (f.2.err)]),(30,[sT (bs a.1),bT (decide (c.1=1)),.own 0,.any])],[some ⟨58,3,d.map Col.tree,false⟩,some ⟨67,4,(v++[(⟨l,f.1⟩:Ot)]).map Ot.tree,false⟩],[(1,.any)])] [9,7,4] [(30,c7),(184,[.sl (ak f.2.rest),nI (f.2.err)]),(30,[sT (bs a.1),bT (decide (c.1=1)),.own 0,.own 1])] [some ⟨58,3,d.map Col.tree,false⟩,some ⟨67,4,(v++[(⟨l,f.1⟩:Ot)]).map Ot.tree,false⟩] [(1,.any)] U0 Z U0 U0 U0 Z Z ?_ ?_
  ·refine .opp [] (.okk Z (aq Z Z a6 Z)<|.okk Z (aq Z Z a6 Z)<|.fin)<|.opp [0] (.okk Z (av Z Z Z bJ Z)<|.okk Z (av Z Z Z bJ Z)<|.fin)<|.opp [] (.okk Z (K Z Z)<|.okk Z (K Z Z)<|.fin)<|.opp [] (.okk Z (K Z Z)<|.fin)<|.opp [3] (.wr 1 id (.agg [bT (xH f.1),aY (xI f.1),aY (xJ f.1)]) U0 Z Z (rA (vs:=[]) Z Z Z Z Z (hf▸Pb k.2 O0) Z Z) Z Z Z Z (.ks 4 Z (.i Z (.k Z (.k Z (.k Z (.k Z (.k Z .nil)))))))<|.fin)<|.opp [2,4] (.no U0<|.okk Z (f5 Z gw Z Z Z)<|.fin)<|.opp [5] (.no U0<|.okk Z (aS Z aV go Z I1 I1 Z Z Z Z Z)<|.fin)<|.opp [1,6] (.no U0<|.wr 2 (fk 1) (.own 1) U0 Z Z (c8 Z Z Z ia Z Z Z Z (by intro e Q;simp only[Ri,RM,or_false]at Q;subst Q;rfl) (AllC.lit Z) (AllC.lit Z) (by simp only[Rn,Q5,Ra];omega) Z Z (by rw[<-app1];rfl)) Z Z Z Z (.ks 7 Z (.i Z (.k Z (.k Z .nil))))<|.fin)<|.opp [] (.nos 2<|.okk Z (aq Z Z a6 Z)<|.fin)<|.opp [7,8] (.nos 2<|.wr 3 id .any U0 Z Z (fx Z Z Z Z Z Z Z Z k7 Z Z Z) Z Z Z Z (.ks 9 Z (.i Z .nil))<|.fin)<|.nil
  refine am<|aI 0 (t:=.sc (.int .u64 ((j+1:Nat):Int))) Z Z Zy (AT O0 O0)<|Y 1 Z<|⟨_,_,?_,⟨j+1,v++[(⟨l,f.1⟩:Ot)],f.2,?_,Z,Z⟩,.rf⟩
  ·omega
  exact⟨O0,by rw[Q4,a2];rfl,O0,by rw[show m.1-(j+1)=z by omega];exact g⟩
 have a5:j=m.1:=O0
 rw[a5,RW,iv]at g;have U:jX b=(⟨bs a.1,decide (c.1=1),d⟩,v,decide (u.err=0)&&decide (u.rest.length=0)):=by unfold jX;rw[y,<-g,R]
 refine dp 0 (bs':=[(30,c7),(184,[.sl (ak u.rest),nI u.err]),(30,[sT (bs a.1),bT (decide (c.1=1)),.sl (d.map Col.tree),.own 1])]) (rs':=[none,some ⟨67,4,(v).map Ot.tree,false⟩]) Z Z Z Z<|dp 1 (bs':=[(30,c7),(184,[.sl (ak u.rest),nI u.err]),(30,[sT (bs a.1),bT (decide (c.1=1)),.sl (d.map Col.tree),.sl ((v).map Ot.tree)])]) (rs':=[none,none]) Z Z Z Z<|aX<|H<|eM (sl':=[(0,.sl (ak b)),(2,.box 0 0),(4,.box 1 0),(5,.box 2 0),(47,.sc (.int .u64 ((m.1:Nat):Int))),(48,.sc (.int .u64 ((j:Nat):Int))),(49,bT (decide (j<m.1)))]) ⟨Z,⟨Z,⟨Z,⟨Z,⟨Z,⟨Z,⟨Z,trivial⟩⟩⟩⟩⟩⟩⟩<|Vr (fu:=4) [some 71,some 72,some 73,some 74,some 75,some 76,some 77,some 78,some 79,none,some 3] [9] [.agg [sT (bs a.1),bT (decide (c.1=1)),.sl (d.map Col.tree),.sl ((v).map Ot.tree)],.box 1 0,nI u.err,bT (decide (u.err=0)),bT (decide (u.err=0)),if(decide (u.err=0))=true then(.box 1 0:Tree)else .sc undef,if(decide (u.err=0))=true then(nI u.rest.length:Tree)else .sc undef,if(decide (u.err=0))=true then(bT (decide (u.rest.length=0)):Tree)else .sc undef,bT ((decide (u.err=0))&&(decide (u.rest.length=0))),.any,bT ((decide (u.err=0))&&(decide (u.rest.length=0)))] [] [9] [(30,[sT (bs a.1),bT (decide (c.1=1)),.sl (d.map Col.tree),.sl ((v).map Ot.tree)]),(184,[.sl (ak u.rest),nI u.err]),(30,[sT (bs a.1),bT (decide (c.1=1)),.sl (d.map Col.tree),.sl ((v).map Ot.tree)])] [none,none] [] U0 Z U0 U0 U0 Z Z ?_ ?_
 ·refine .opp [] (.okk Z (aN Z Z Z bf Z Z)<|.fin)<|.opp [] (.okk Z (K Z Z)<|.fin)<|.opp [1] (.okk Z (Cj Z Z Z (Qn u) Z Z Z)<|.fin)<|.opp [2] (.okk Z (aj (aC Z Z Z Zy) (B (gL u.err 0)))<|.fin)<|.opp [3] (.okk Z (K Z Z)<|.fin)<|.opp [4] (.cnd (t:=.box 1 0) 4 true 75 76 ((decide (u.err=0))=true) U0 Z Z Z Z U0 U0 sk Z Z Z (λJ=>K Z Z)<|.fin)<|.opp [4,5] (.cnd (t:=nI u.rest.length) 4 true 75 77 ((decide (u.err=0))=true) U0 Z Z Z Z U0 U0 sk Z Z Z (λJ=>Cj Z (if_pos J) Z (Qo u) Z Z Z)<|.fin)<|.opp [4,6] (.cnd (t:=bT (decide (u.rest.length=0))) 4 true 75 78 ((decide (u.err=0))=true) U0 Z Z Z Z U0 U0 sk Z Z Z (λJ=>aj (aC Z (if_pos J) Z (λ_=>rfl)) (B (gL u.rest.length 0)))<|.cnd (t:=bT (decide (u.rest.length=0))) 4 true 75 78 ((decide (u.err=0))=true) U0 Z Z Z Z U0 U0 sk Z Z Z (λJ=>aj (aC Z (if_pos J) Z (λ_=>rfl)) (B (gL u.rest.length 0)))<|.nil)<|.opp [4,7] (.okk Z (cH Z Z Z Z)<|.okk Z (cH Z Z Z Z)<|.nil)<|.opp [0] (.wr 1 id .any U0 Z Z (fx Z Z Z Z Z Z Z Z nD Z Z Z) Z Z Z Z (.ks 9 Z (.i Z (.k Z .nil)))<|.fin)<|.opp [8] (.no U0<|.okk Z (bN Z Z)<|.nil)<|.nil
 refine aQ<|⟨.inr Z,_,.cons (co Z Z bf Z) (.cons Z .nil),by unfold LP;rw[U];rfl,Z⟩
def j2(b:List UInt8):Rel×Nat:=
 if b.length<4 then(Rel.zero,3)
 else if jv (ft (b.take (b.length-4)))≠b.drop (b.length-4)then(Rel.zero,5)
 else match oL (b.take (b.length-4))with
  |none=>(Rel.zero,2)
  |some r=>if bK r=0/\dH r=b then(r,0)else(Rel.zero,2)
def NC(b:List UInt8):Tree:=.tup [(j2 b).1.tree,.sc (.int .i64 (((j2 b).2:Nat):Int))]
def pr{b:List UInt8}{r:Rel}{e:Nat}(h:j2 b=(r,e)){t:Tree}(a:t=r.tree): .tup [t,nI e]=NC b:=by unfold NC;rw[h,a]
def ND{t:Tree}{r:Rel}{a:Nat}(d:t=r.tree)(c:Enc r)(b:a=0):Ct 18 [t] (.tup [.sl (ak (dH r)),nI a]):=by
 subst d b;exact(EV c).ct
def NE{t:Tree}{r:Rel}(b:t=r.tree)(a:FitR r)(c:bK r≠0):Ct 18 [t] (.tup [.sl [],iT (bK r)]):=by
 subst b;exact Ip r a c
def IN(b:List UInt8)(F:b.length<=65536):Ct 20 [.sl (ak b)] (NC b):=by
 obtain⟨f,q⟩:∃z:Nat,z=0:=⟨_,Z⟩;refine Ct.of (n:=51) func20 Z Z Z Z Z λw0 G0=>?_
 refine H<|am<|AZ (b:=0) (bs':=[(30,c7)]) Z Z Z Z jE Z Z Z Z<|bW (t:=.sc (.int .i64 0)) Z Z Z (bN Z Z)<|E<|H<|H<|am<|bW (t:=.sl (ak b)) Z Z Z (K Z Z)<|bW (t:=.sc (.int .i64 ((b.length:Nat):Int))) Z Z Z (aj (fw Z aJ Z) (by simp only[Rn,aA]))<|bW (t:=.sc (.bool (decide (b.length<4)))) Z Z Z (aj (aC Z Z Z Zy) (B (gF b.length 4)))<|E<|aK (b:=decide (b.length<4)) Z (λc=>?_) (λc=>?_)
 ·replace c:=of_decide_eq_true c;have e:j2 b=(Rel.zero,3):=by unfold j2;rw[if_pos c]
  refine H<|am<|bW (t:=.agg c7) Z Z Z (f5 Z k6 Z Z Z)<|A5 (bs':=[(30,c7)]) Z Z Z Z Z Z Z Z Z nD Z Z Z<|bW (t:=.sc (.int .i64 3)) Z Z Z (bN Z Z)<|E<|aQ<|⟨.inr Z,_,.cons ⟨_,_,_,_,Z,Z,.inl ⟨_,bf,Z,Z⟩⟩ (.cons Z .nil),pr e Z,Z⟩
 replace c:=of_decide_eq_false c;obtain⟨C,a⟩:∃C,b.length-4=C:=⟨_,Z⟩;have y:b.length=C+4:=O
 have p:j2 b=if jv (ft (b.take C))≠b.drop C then(Rel.zero,5)else match oL (b.take C)with
  |none=>(Rel.zero,2)
  |some r=>if bK r=0/\dH r=b then(r,0)else(Rel.zero,2):=by unfold j2;rw[if_neg c,a]
 refine ar<|H<|am<|bW (t:=.sl (ak b)) Z Z Z (K Z Z)<|bW (t:=.sl (ak b)) Z Z Z (K Z Z)<|bW (t:=.sc (.int .i64 ((C+4:Nat):Int))) Z Z Z (aj (fw Z aJ Z) (by simp only[aA,y]))<|bW (t:=.sc (.int .i64 ((C:Nat):Int))) Z Z Z (aj (aC Z Z Z Zy) (pC O O))<|bW (t:=.sl (ak (b.take C))) Z Z Z (aj (ef (l:=0) (h:=C) Z aJ Z Z ⟨_,Z⟩ (Rg _) (by rw[aA];omega) (aP _)) (kz _ _))<|bW (t:=.sl (ak (b.take C))) Z Z Z (bN Z Z)<|E<|H<|H<|cB (fu:=9) [some 18,some 19,some 20,some 21,some 22,some 23,some 24,some 25,some 26] [.sl (ak (b.take C)),.sl (ak (jv (ft (b.take C)))),.sl (ak b),.sl (ak b),.sc (.int .i64 ((C+4:Nat):Int)),.sc (.int .i64 ((C:Nat):Int)),.sl (ak (b.drop C)),.sc (.bool (decide (jv (ft (b.take C))=b.drop C))),.sc (.bool (!(decide (jv (ft (b.take C))=b.drop C))))] U Z Z U Z ?_ ?_
 ·refine Chain.op (t:=.sl (ak (b.take C))) Z (K Z Z)<|Chain.op (t:=.sl (ak (jv (ft (b.take C))))) Z (D Z (O3 _ (by rw[Rb];omega)) Z Z)<|Chain.op (t:=.sl (ak b)) Z (K Z Z)<|Chain.op (t:=.sl (ak b)) Z (K Z Z)<|Chain.op (t:=.sc (.int .i64 ((C+4:Nat):Int))) Z (aj (fw Z aJ Z) (by simp only[aA,y]))<|Chain.op (t:=.sc (.int .i64 ((C:Nat):Int))) Z (aj (aC Z Z Z Zy) (pC O O))<|Chain.op (t:=.sl (ak (b.drop C))) Z (aj (ef (l:=C) (h:=(ak b).length) Z aJ Z ⟨_,Z⟩ Z (by rw[aA];omega) (Q3 _) (aP _)) (mJ _ _))<|Chain.op (t:=.sc (.bool (decide (jv (ft (b.take C))=b.drop C)))) Z (D Z (sS _ _) Z Z)<|Chain.op (t:=.sc (.bool (!(decide (jv (ft (b.take C))=b.drop C))))) Z (dm Z Z Zy)<|Chain.nil
 refine aK (b:= !(decide (jv (ft (b.take C))=b.drop C))) Z (λi=>?_) (λi=>?_)
 ·have d:jv (ft (b.take C))≠b.drop C:=by simpa using i
  have e:j2 b=(Rel.zero,5):=by rw[p,if_pos d]
  refine H<|am<|bW (t:=.agg c7) Z Z Z (f5 Z k6 Z Z Z)<|A5 (bs':=[(30,c7)]) Z Z Z Z Z Z Z Z Z nD Z Z Z<|bW (t:=.sc (.int .i64 5)) Z Z Z (bN Z Z)<|E<|aQ<|⟨.inr Z,_,.cons ⟨_,_,_,_,Z,Z,.inl ⟨_,bf,Z,Z⟩⟩ (.cons Z .nil),pr e Z,Z⟩
 have d:jv (ft (b.take C))=b.drop C:=by simpa using i
 refine ar<|H<|am<|bW (t:=.sl (ak (b.take C))) Z Z Z (K Z Z)<|bW (t:=.tup [.agg [.sc (.string ((jX (b.take C)).1.name)),.sc (.bool ((jX (b.take C)).1.cert)),.sl (((jX (b.take C)).1.cols).map Col.tree),.sl (((jX (b.take C)).2.1).map Ot.tree)],.sc (.bool ((jX (b.take C)).2.2))]) Z Z Z (D Z (E9 (b.take C) (by rw[Rb];omega)) Z Z)<|bW (t:=.tup [.agg [.sc (.string ((jX (b.take C)).1.name)),.sc (.bool ((jX (b.take C)).1.cert)),.sl (((jX (b.take C)).1.cols).map Col.tree),.sl (((jX (b.take C)).2.1).map Ot.tree)],.sc (.bool ((jX (b.take C)).2.2))]) Z Z Z (K Z Z)<|bW (t:=.agg [.sc (.string ((jX (b.take C)).1.name)),.sc (.bool ((jX (b.take C)).1.cert)),.sl (((jX (b.take C)).1.cols).map Col.tree),.sl (((jX (b.take C)).2.1).map Ot.tree)]) Z Z Z (eN Z Z Z)<|bW (t:=.sc (.bool ((jX (b.take C)).2.2))) Z Z Z (eN Z Z Z)<|AZ (b:=1) (bs':=[(30,c7),(30,c7)]) Z Z Z Z jE Z Z Z Z<|A5 (bs':=[(30,c7),(30,[.sc (.string ((jX (b.take C)).1.name)),.sc (.bool ((jX (b.take C)).1.cert)),.sl (((jX (b.take C)).1.cols).map Col.tree),.sl (((jX (b.take C)).2.1).map Ot.tree)])]) Z Z Z Z Z Z Z Z Z nD Z Z Z<|bW (t:=.sc (.bool ((jX (b.take C)).2.2))) Z Z Z (bN Z Z)<|E<|H<|H<|am<|bW (t:=.sc (.bool ((jX (b.take C)).2.2))) Z Z Z (K Z Z)<|bW (t:=.sc (.bool (!((jX (b.take C)).2.2)))) Z Z Z (dm Z Z Zy)<|E<|aK (b:= !((jX (b.take C)).2.2)) Z (λj=>?_) (λj=>?_)
 ·have e:j2 b=(Rel.zero,2):=by
   have w:(jX (b.take C)).2.2=false:=by simpa using j
   have A:oL (b.take C)=none:=by unfold oL;rw[w];rfl
   rw[p,if_neg (λh=>h d),A]
  refine H<|am<|bW (t:=.agg c7) Z Z Z (f5 Z k6 Z Z Z)<|A5 (bs':=[(30,c7),(30,[.sc (.string ((jX (b.take C)).1.name)),.sc (.bool ((jX (b.take C)).1.cert)),.sl (((jX (b.take C)).1.cols).map Col.tree),.sl (((jX (b.take C)).2.1).map Ot.tree)])]) Z Z Z Z Z Z Z Z Z nD Z Z Z<|bW (t:=.sc (.int .i64 2)) Z Z Z (bN Z Z)<|E<|aQ<|⟨.inr Z,_,.cons ⟨_,_,_,_,Z,Z,.inl ⟨_,bf,Z,Z⟩⟩ (.cons Z .nil),pr e Z,Z⟩
 obtain⟨r,v⟩:∃r,oL (b.take C)=some r:=by
  have w:(jX (b.take C)).2.2=true:=by simpa using j
  exact⟨_,by unfold oL;rw[if_pos w]⟩
 obtain⟨s,x,o⟩:=s0 (by rw[Rb];omega) v;refine ar<|H ?_;by_cases u:bK r=0
 ·refine am<|bW (t:=.agg [.sc (.string ((jX (b.take C)).1.name)),.sc (.bool ((jX (b.take C)).1.cert)),.sl (((jX (b.take C)).1.cols).map Col.tree),.sl (((jX (b.take C)).2.1).map Ot.tree)]) Z Z Z (aN Z Z Z bf Z Z)<|bW (t:=.tup [.sl (ak (dH r)),.sc (.int .i64 ((f:Nat):Int))]) Z Z Z (D Z (ND o ⟨u,⟨s,trivial⟩,x⟩ q) Z Z)<|bW (t:=.tup [.sl (ak (dH r)),.sc (.int .i64 ((f:Nat):Int))]) Z Z Z (K Z Z)<|bW (t:=.sl (ak (dH r))) Z Z Z (eN Z Z Z)<|bW (t:=.sc (.int .i64 ((f:Nat):Int))) Z Z Z (eN Z Z Z)<|bW (t:=.sl (ak (dH r))) Z Z Z (bN Z Z)<|bW (t:=.sc (.int .i64 ((f:Nat):Int))) Z Z Z (bN Z Z)<|E<|H<|H<|am<|bW (t:=.sc (.int .i64 ((f:Nat):Int))) Z Z Z (K Z Z)<|bW (t:=.sc (.bool (decide (f≠0)))) Z Z Z (aj (aC Z Z Z Zy) (B (od f 0)))<|bW (t:=.sc (.bool (decide (f≠0)))) Z Z Z (K Z Z)<|N (t:=.sl (ak (dH r))) Z Z Z Z (λa=>K Z Z)<|N (t:=.sl (ak b)) Z Z Z Z (λa=>K Z Z)<|N (t:=.sc (.bool (decide (dH r=b)))) Z Z Z Z (λa=>D Z (sS _ _) (dN (if_pos a) (dN (if_pos a) Z)) Z)<|N (t:=.sc (.bool (!(decide (dH r=b))))) Z Z Z Z (λa=>dm Z (if_pos a) (λ_=>rfl))<|bW (t:=.sc (.bool ((decide (f≠0))||(!(decide (dH r=b)))))) Z Z Z (fJ Z Z (λg=>(B (by rw[g];rfl))) (λg=>(if_pos g).trans (B (by rw[g];rfl))))<|E<|aK (b:=(decide (f≠0))||(!(decide (dH r=b)))) Z (λk=>?_) (λk=>?_)
  ·have e:j2 b=(Rel.zero,2):=by rw[p,if_neg (λh=>h d),v];exact if_neg λh=>by simp[h.2,q]at k
   refine H<|am<|bW (t:=.agg c7) Z Z Z (f5 Z k6 Z Z Z)<|A5 (bs':=[(30,c7),(30,[.sc (.string ((jX (b.take C)).1.name)),.sc (.bool ((jX (b.take C)).1.cert)),.sl (((jX (b.take C)).1.cols).map Col.tree),.sl (((jX (b.take C)).2.1).map Ot.tree)])]) Z Z Z Z Z Z Z Z Z nD Z Z Z<|bW (t:=.sc (.int .i64 2)) Z Z Z (bN Z Z)<|E<|aQ<|⟨.inr Z,_,.cons ⟨_,_,_,_,Z,Z,.inl ⟨_,bf,Z,Z⟩⟩ (.cons Z .nil),pr e Z,Z⟩
  have e:j2 b=(r,0):=by
   rw[p,if_neg (λh=>h d),v];refine if_pos ⟨u,?_⟩;by_cases h:dH r=b
   ·exact h
   simp[h]at k
  refine ar<|H<|am<|bW (t:=.agg [.sc (.string ((jX (b.take C)).1.name)),.sc (.bool ((jX (b.take C)).1.cert)),.sl (((jX (b.take C)).1.cols).map Col.tree),.sl (((jX (b.take C)).2.1).map Ot.tree)]) Z Z Z (aN Z Z Z bf Z Z)<|A5 (bs':=[(30,[.sc (.string ((jX (b.take C)).1.name)),.sc (.bool ((jX (b.take C)).1.cert)),.sl (((jX (b.take C)).1.cols).map Col.tree),.sl (((jX (b.take C)).2.1).map Ot.tree)]),(30,[.sc (.string ((jX (b.take C)).1.name)),.sc (.bool ((jX (b.take C)).1.cert)),.sl (((jX (b.take C)).1.cols).map Col.tree),.sl (((jX (b.take C)).2.1).map Ot.tree)])]) Z Z Z Z Z Z Z Z Z nD Z Z Z<|bW (t:=.sc (.int .i64 0)) Z Z Z (bN Z Z)<|E<|aQ<|⟨.inr Z,_,.cons ⟨_,_,_,_,Z,Z,.inl ⟨_,bf,Z,Z⟩⟩ (.cons Z .nil),pr e o,Z⟩
 refine am<|bW (t:=.agg [.sc (.string ((jX (b.take C)).1.name)),.sc (.bool ((jX (b.take C)).1.cert)),.sl (((jX (b.take C)).1.cols).map Col.tree),.sl (((jX (b.take C)).2.1).map Ot.tree)]) Z Z Z (aN Z Z Z bf Z Z)<|bW (t:=.tup [.sl (ak ([]:List UInt8)),.sc (.int .i64 (bK r))]) Z Z Z (D Z (NE o s u) Z Z)<|bW (t:=.tup [.sl (ak ([]:List UInt8)),.sc (.int .i64 (bK r))]) Z Z Z (K Z Z)<|bW (t:=.sl (ak ([]:List UInt8))) Z Z Z (eN Z Z Z)<|bW (t:=.sc (.int .i64 (bK r))) Z Z Z (eN Z Z Z)<|bW (t:=.sl (ak ([]:List UInt8))) Z Z Z (bN Z Z)<|bW (t:=.sc (.int .i64 (bK r))) Z Z Z (bN Z Z)<|E<|H<|H<|am<|bW (t:=.sc (.int .i64 (bK r))) Z Z Z (K Z Z)<|bW (t:=.sc (.bool ((bK r) !=0))) Z Z Z (aC Z Z Z Zy)<|bW (t:=.sc (.bool ((bK r) !=0))) Z Z Z (K Z Z)<|N (t:=.sl (ak ([]:List UInt8))) Z Z Z Z (λa=>K Z Z)<|N (t:=.sl (ak b)) Z Z Z Z (λa=>K Z Z)<|N (t:=.sc (.bool (decide (([]:List UInt8)=b)))) Z Z Z Z (λa=>D Z (sS _ _) (dN (if_pos a) (dN (if_pos a) Z)) Z)<|N (t:=.sc (.bool (!(decide (([]:List UInt8)=b))))) Z Z Z Z (λa=>dm Z (if_pos a) (λ_=>rfl))<|bW (t:=.sc (.bool (((bK r) !=0)||(!(decide (([]:List UInt8)=b)))))) Z Z Z (fJ Z Z (λg=>(B (by rw[g];rfl))) (λg=>(if_pos g).trans (B (by rw[g];rfl))))<|E<|aK (b:=((bK r) !=0)||(!(decide (([]:List UInt8)=b)))) Z (λm=>?_) (λm=>?_)
 ·have e:j2 b=(Rel.zero,2):=by rw[p,if_neg (λh=>h d),v];exact if_neg λh=>u h.1
  refine H<|am<|bW (t:=.agg c7) Z Z Z (f5 Z k6 Z Z Z)<|A5 (bs':=[(30,c7),(30,[.sc (.string ((jX (b.take C)).1.name)),.sc (.bool ((jX (b.take C)).1.cert)),.sl (((jX (b.take C)).1.cols).map Col.tree),.sl (((jX (b.take C)).2.1).map Ot.tree)])]) Z Z Z Z Z Z Z Z Z nD Z Z Z<|bW (t:=.sc (.int .i64 2)) Z Z Z (bN Z Z)<|E<|aQ<|⟨.inr Z,_,.cons ⟨_,_,_,_,Z,Z,.inl ⟨_,bf,Z,Z⟩⟩ (.cons Z .nil),pr e Z,Z⟩
 exact absurd (by simp at m;exact m.1) u
