import Derived.Test.YtfoejfohbkmmeaaGreatDoorK41
set_option maxRecDepth 100000
set_option maxHeartbeats 4000000
set_option linter.defProp false
open Go.Proofs.Tryz
namespace Go.Proofs.YtfoejfohbkmmeaaGreatDoor
open Go.RowKit
open Lib renaming hid→J
def Pe:Option (List V)->Tree
 |some l=>.tup [.sl (l.map V.tree),.sc (.bool true)]
 |none=>.tup [.sl [],.sc (.bool false)]
def De(l:List UInt8)(k:l.length<=1073741824):Ct 71 [.sl (ak l)] (Pe (ir l)):=⟨⟨_,func71,Z,Z⟩,λG w vs _ j n=>by
 obtain⟨u,rfl,i⟩:=eC n;obtain⟨A,c,rfl,a,_,d,b⟩:=I8 i;refine(Dd A c l w a d b k).mono ?_;rintro e w' ⟨o,p,g⟩;cases h:ir l with
 |none=>exact⟨_,p h,.tup [.slice none 0 0,.bool false] _ ((bS _ _).cons (.sc _ .nil)) .nil,g⟩
 |some L=>
  obtain⟨v,rfl,m⟩:=o L h;have f:(L.map V.tree).length=L.length:=Rn ..;exact⟨_,Z,.tup [v,.bool true] _ ((vL j (by rw[f];exact m) (Gs w' G L)).cons (.sc _ .nil)) .nil,g⟩⟩
def NJ(b:List UInt8):Tree:=.tup [(nY b).1.tree,.sc (.int .i64 (((nY b).2:Nat):Int))]
def pu{b:List UInt8}{r:Rel}{e:Nat}(h:nY b=(r,e)){t:Tree}(a:t=r.tree): .tup [t,nI e]=NJ b:=by unfold NJ;rw[h,a]
def Pf(s:Sch)(l:List Ot)(r:Rel)(a:r.sch=s):xE r (l.map Ot.rt)=C7 s l:=by
 unfold xE dL C7;rw[a,List.map_map,show l.map (Rt.tree∘Ot.rt)=l.map Ot.tree from SV λx _=>Fb x]
def LV{s:Sch}{l:List Ot}{r:Rel}(b:(⟨s,l.map Ot.tp⟩:Rel)=r)(a:∀t∈l,Pm t):C7 s l=r.tree:=by
 subst b;unfold C7 Rel.tree;dsimp only;rw[List.map_map,show l.map Ot.tree=l.map (Tp.tree∘Ot.tp)from SV λx c=>xh (a x c)]
def NK{r:Rel}(c:FitR r)(h:∀t∈r.tups,∀v∈t.vals,v.s.size<=9223372036854775807):xD r:=λt a v b=>h t a v b
def N7:si prog 104=some ([(0,1),(1,1)],[.slice none 0 0,.int .i64 0]):=U
def IT(b:List UInt8)(b5:b.length<=65536):Ct 22 [.sl (ak b)] (NJ b):=by
 obtain⟨R,c3⟩:∃z:Nat,z=0:=⟨_,Z⟩;refine Ct.of (n:=136) func22 Z Z Z Z Z λw0 G0=>?_
 refine H<|am<|AZ (b:=0) (bs':=[(30,c7)]) Z Z Z Z jE Z Z Z Z<|bW (t:=.sc (.int .i64 0)) Z Z Z (bN Z Z)<|E<|H<|H<|am<|bW (t:=.sl (ak b)) Z Z Z (K Z Z)<|bW (t:=.sc (.int .i64 ((b.length:Nat):Int))) Z Z Z (aj (fw Z aJ Z) (by simp only[Rn,aA]))<|bW (t:=.sc (.bool (decide (b.length<4)))) Z Z Z (aj (aC Z Z Z Zy) (B (gF b.length 4)))<|E<|aK (b:=decide (b.length<4)) Z (λA=>?_) (λA=>?_)
 ·replace A:=of_decide_eq_true A;have S:nY b=(Rel.zero,3):=by unfold nY;rw[if_pos A]
  refine H<|am<|bW (t:=.agg c7) Z Z Z (f5 Z k6 Z Z Z)<|A5 (bs':=[(30,c7)]) Z Z Z Z Z Z Z Z Z nD Z Z Z<|bW (t:=.sc (.int .i64 3)) Z Z Z (bN Z Z)<|E<|aQ<|⟨.inr Z,_,.cons ⟨_,_,_,_,Z,Z,.inl ⟨_,bf,Z,Z⟩⟩ (.cons Z .nil),pu S Z,Z⟩
 replace A:=of_decide_eq_false A;obtain⟨C,g⟩:∃C,b.length-4=C:=⟨_,Z⟩;have hb:b.length=C+4:=O
 have e2:(b.take C).length=C:=by rw[Rb];omega
 have hD:nY b=if jv (ft (b.take C))≠b.drop C then(Rel.zero,5)else match oM (b.take C)with
  |none=>(Rel.zero,2)
  |some p=>if p.2.err=0/\bK (nX (b.take C) p)=0/\dH (nX (b.take C) p)=b then(nX (b.take C) p,0)else(Rel.zero,2):=by unfold nY;rw[if_neg A,g];rfl
 refine ar<|H<|H<|cB (fu:=10) [some 19,some 20,some 21,some 22,some 23,some 24,some 25,some 26,some 27,some 28] [.sl (ak b),.sl (ak b),.sc (.int .i64 ((C+4:Nat):Int)),.sc (.int .i64 ((C:Nat):Int)),.sl (ak (b.take C)),.sl (ak (b.take C++jv (ft (b.take C)))),.sc (.string (bs (b.take C++jv (ft (b.take C))))),.sl (ak b),.sc (.string (bs b)),.sc (.bool (!((bs (b.take C++jv (ft (b.take C)))).toList==(bs b).toList)))] U Z Z U Z ?_ ?_
 ·refine Chain.op (t:=.sl (ak b)) Z (K Z Z)<|Chain.op (t:=.sl (ak b)) Z (K Z Z)<|Chain.op (t:=.sc (.int .i64 ((C+4:Nat):Int))) Z (aj (fw Z aJ Z) (by simp only[aA,hb]))<|Chain.op (t:=.sc (.int .i64 ((C:Nat):Int))) Z (aj (aC Z Z Z Zy) (pC O O))<|Chain.op (t:=.sl (ak (b.take C))) Z (aj (ef (l:=0) (h:=C) Z aJ Z Z ⟨_,Z⟩ (Rg _) (by rw[aA];omega) (aP _)) (kz _ _))<|Chain.op (t:=.sl (ak (b.take C++jv (ft (b.take C))))) Z (D Z (wY _ O) Z Z)<|Chain.op (t:=.sc (.string (bs (b.take C++jv (ft (b.take C)))))) Z (eH Z Z)<|Chain.op (t:=.sl (ak b)) Z (K Z Z)<|Chain.op (t:=.sc (.string (bs b))) Z (eH Z Z)<|Chain.op (t:=.sc (.bool (!((bs (b.take C++jv (ft (b.take C)))).toList==(bs b).toList)))) Z (aC Z Z Z Zy)<|Chain.nil
 refine aK (b:= !((bs (b.take C++jv (ft (b.take C)))).toList==(bs b).toList)) Z (λX=>?_) (λX=>?_)
 ·have a5:jv (ft (b.take C))≠b.drop C:=λh=>by rw[h,R3]at X;simp at X
  have S:nY b=(Rel.zero,5):=by rw[hD,if_pos a5]
  refine H<|am<|bW (t:=.agg c7) Z Z Z (f5 Z k6 Z Z Z)<|A5 (bs':=[(30,c7)]) Z Z Z Z Z Z Z Z Z nD Z Z Z<|bW (t:=.sc (.int .i64 5)) Z Z Z (bN Z Z)<|E<|aQ<|⟨.inr Z,_,.cons ⟨_,_,_,_,Z,Z,.inl ⟨_,bf,Z,Z⟩⟩ (.cons Z .nil),pu S Z,Z⟩
 have a5:jv (ft (b.take C))=b.drop C:=by
  have h1:(bs (b.take C++jv (ft (b.take C)))).toList=(bs b).toList:=by simpa using X
  have h2:b.take C++jv (ft (b.take C))=b.take C++b.drop C:=by
   rw[R3,<-eW (b.take C++jv (ft (b.take C))),<-Lib.toList_data,h1,Lib.toList_data,eW]
  exact List.append_cancel_left h2
 obtain⟨ct,a9⟩:∃x,b.take C=x:=⟨_,Z⟩;have b4:nY b=match oM ct with
  |none=>(Rel.zero,2)
  |some p=>if p.2.err=0/\bK (nX ct p)=0/\dH (nX ct p)=b then(nX ct p,0)else(Rel.zero,2):=by rw[hD,if_neg (λh=>h a5),a9]
 rw[a9]at e2;obtain⟨a,ha⟩:∃x,bM 24 ⟨ct,0⟩=x:=⟨_,Z⟩;obtain⟨c,hc⟩:∃x,bX 1 a.2=x:=⟨_,Z⟩;obtain⟨n,hn⟩:∃x,bX 6 c.2=x:=⟨_,Z⟩;have g1:=fW 24 ⟨ct,0⟩;have g2:=de 1 a.2;have g3:=de 6 c.2;have g4:=fv 6 c.2;rw[ha]at g1;rw[hc]at g2;rw[hn]at g3 g4;dsimp only at g1;refine ar<|H<|am<|bW (t:=.sl (ak b)) Z Z Z (K Z Z)<|bW (t:=.sl (ak b)) Z Z Z (K Z Z)<|bW (t:=.sc (.int .i64 ((C+4:Nat):Int))) Z Z Z (aj (fw Z aJ Z) (by simp only[aA,hb]))<|bW (t:=.sc (.int .i64 ((C:Nat):Int))) Z Z Z (aj (aC Z Z Z Zy) (pC O O))<|bW (t:=.sl (ak ct)) Z Z Z (aj (ef (l:=0) (h:=C) Z aJ Z Z ⟨_,Z⟩ (Rg _) (by rw[aA];omega) (aP _)) ((kz _ _).trans (by rw[a9])))<|bW (t:=.agg [.sl (ak ct),.sc (.int .i64 0)]) Z Z Z (f5 Z N7 Z Z Z)<|GB (cs:=[.sl (ak ct),.sc (.int .i64 0)]) (b:=1) (bs':=[(30,c7),(104,[.sl (ak ct),.sc (.int .i64 0)])]) Z Z Z Z Z Z Z Z Z Z<|bW (t:=.box 1 0) Z Z Z (bN Z Z)<|E<|H<|am<|bW (t:=.agg [.sc (.string (⟨#[]⟩)),.sc (.bool false),.sc (.slice none 0 0),.sc (.slice none 0 0)]) Z Z Z (oR Z k6 Z Z Z)<|AZ (b:=2) (bs':=[(30,c7),(104,[.sl (ak ct),.sc (.int .i64 0)]),(30,c7)]) Z Z Z Z jE Z Z Z Z<|A5 (bs':=[(30,c7),(104,[.sl (ak ct),.sc (.int .i64 0)]),(30,[.sc (.string (⟨#[]⟩)),.sc (.bool false),.sc (.slice none 0 0),.sc (.slice none 0 0)])]) Z Z Z Z Z Z Z Z Z nD Z Z Z<|E<|H<|am<|bW (t:=.box 1 0) Z Z Z (K Z Z)<|bm (r:=.sl (ak a.1)) (bs':=[(30,c7),(104,[.sl (ak a.2.rest),.sc (.int .i64 ((a.2.err:Nat):Int))]),(30,[.sc (.string (⟨#[]⟩)),.sc (.bool false),.sc (.slice none 0 0),.sc (.slice none 0 0)])]) Z Z Z Z Z Z (ha▸r5 ⟨ct,0⟩ 24 (by dsimp only;omega) I) Z Z Z Z<|bW (t:=.sc (.string (bs a.1))) Z Z Z (eH Z Z)<|bW (t:=.box 2 0) Z Z Z (aq Z Z cV Z)<|bW (t:=.box 2 0) Z Z Z (aq Z Z Am Z)<|A5 (bs':=[(30,c7),(104,[.sl (ak a.2.rest),.sc (.int .i64 ((a.2.err:Nat):Int))]),(30,[.sc (.string (bs a.1)),.sc (.bool false),.sc (.slice none 0 0),.sc (.slice none 0 0)])]) Z Z Z Z Z Z Z Z Z Po Z Z Z<|E<|H<|am<|bW (t:=.box 1 0) Z Z Z (K Z Z)<|bm (r:=.sc (.int .u64 ((c.1:Nat):Int))) (bs':=[(30,c7),(104,[.sl (ak c.2.rest),.sc (.int .i64 ((c.2.err:Nat):Int))]),(30,[.sc (.string (bs a.1)),.sc (.bool false),.sc (.slice none 0 0),.sc (.slice none 0 0)])]) Z Z Z Z Z Z (hc▸sW a.2 1 O) Z Z Z Z<|bW (t:=.sc (.bool (decide (c.1=1)))) Z Z Z (aj (aC Z Z Z Zy) (B (gL (c.1) 1)))<|bW (t:=.box 2 0) Z Z Z (aq Z Z cV Z)<|bW (t:=.box 2 1) Z Z Z (aq Z Z fM Z)<|A5 (bs':=[(30,c7),(104,[.sl (ak c.2.rest),.sc (.int .i64 ((c.2.err:Nat):Int))]),(30,[.sc (.string (bs a.1)),.sc (.bool (decide (c.1=1))),.sc (.slice none 0 0),.sc (.slice none 0 0)])]) Z Z Z Z Z Z Z Z Z Pn Z Z Z<|E<|H<|am<|bW (t:=.box 1 0) Z Z Z (K Z Z)<|bm (r:=.sc (.int .u64 ((n.1:Nat):Int))) (bs':=[(30,c7),(104,[.sl (ak n.2.rest),.sc (.int .i64 ((n.2.err:Nat):Int))]),(30,[.sc (.string (bs a.1)),.sc (.bool (decide (c.1=1))),.sc (.slice none 0 0),.sc (.slice none 0 0)])]) Z Z Z Z Z Z (hn▸sW c.2 6 O) Z Z Z Z<|bW (t:=.sc (.int .u64 ((n.1:Nat):Int))) Z Z Z (bN Z Z)<|E<|H<|H<|am<|bW (t:=.sc (.int .u64 0)) Z Z Z (bN Z Z)<|E<|aB<|iU 2 2 58 3 (bs':=[(30,c7),(104,[.sl (ak n.2.rest),.sc (.int .i64 ((n.2.err:Nat):Int))]),(30,[.sc (.string (bs a.1)),.sc (.bool (decide (c.1=1))),.own 0,.sc (.slice none 0 0)])]) (rs':=[some ⟨58,3,[].map Col.tree,false⟩]) Z Z Z Z<|aT (λn_ S_=>∃(i:Nat) (d:List Col) (s:Rdr),(i<=n.1/\d.length=i/\s.rest.length<=b.length/\jY (n.1-i) d s=jY n.1 [] n.2)/\n_=n.1-i/\S_=⟨136,[(0,.sl (ak b)),(2,.box 0 0),(4,.box 1 0),(5,.box 2 0),(6,.sc (.int .u64 ((n.1:Nat):Int))),(7,.sc (.int .u64 ((i:Nat):Int)))],[(30,c7),(104,[.sl (ak s.rest),.sc (.int .i64 ((s.err:Nat):Int))]),(30,[.sc (.string (bs a.1)),.sc (.bool (decide (c.1=1))),.own 0,.sc (.slice none 0 0)])],[some ⟨58,3,d.map Col.tree,false⟩]⟩) 3 1 ⟨0,[],n.2,⟨Rg _,Z,O,Z⟩,Z,Z⟩ .rf ?_;rintro n_ S_ ⟨i,d,s,⟨hi,d3,f0,J⟩,rfl,rfl⟩;refine H<|H<|am<|bW (t:=.sc (.int .u64 ((i:Nat):Int))) Z Z Z (K Z Z)<|bW (t:=.sc (.int .u64 ((n.1:Nat):Int))) Z Z Z (K Z Z)<|bW (t:=.sc (.bool (decide (i<n.1)))) Z Z Z (aj (aC Z Z Z Zy) (B (gF i (n.1))))<|bW (t:=.sc (.bool (decide (i<n.1)))) Z Z Z (K Z Z)<|N (t:=.box 1 0) Z Z Z Z (λg=>K Z Z)<|N (t:=.box 1 0) Z Z Z Z (λg=>bD Z (if_pos g))<|N (t:=.box 1 1) Z Z Z Z (λg=>aq Z (if_pos g) pO Z)<|N (t:=.sc (.int .i64 ((s.err:Nat):Int))) Z Z Z Z (λg=>av Z (if_pos g) Z wV Z)<|N (t:=.sc (.bool (decide (s.err=0)))) Z Z Z Z (λg=>aj (aC Z (if_pos g) Z (λ_=>rfl)) (B (gL s.err 0)))<|bW (t:=.sc (.bool ((decide (i<n.1))&&(decide (s.err=0))))) Z Z Z (fJ Z Z (λq=>(if_pos q).trans (B (by rw[q];rfl))) (λq=>(B (by rw[q];rfl))))<|E<|aK (b:=(decide (i<n.1))&&(decide (s.err=0))) Z (λP=>?_) (λP=>?_)
 ·rw[Q9]at P;have e7:=of_decide_eq_true P.1;have e9:=of_decide_eq_true P.2;obtain⟨z,hz⟩:∃z,n.1-i=z+1:=⟨n.1-i-1,O⟩;obtain⟨G,a4⟩:∃x,bM 24 s=x:=⟨_,Z⟩;obtain⟨L,T⟩:∃x,bX 2 G.2=x:=⟨_,Z⟩;obtain⟨F,A⟩:∃x,bX 1 L.2=x:=⟨_,Z⟩;have c2:qi s=((⟨bs G.1,((L.1:Nat):Int),decide (F.1=1)⟩:Col),F.2):=by unfold qi;rw[a4,T,A];rfl
  have l1:=fW 24 s;have l2:=de 2 G.2;have l3:=de 1 L.2;have l4:=fv 2 G.2;rw[a4]at l1;rw[T]at l2 l4;rw[A]at l3;rw[hz,jY,if_neg O,c2]at J;refine ar<|H<|aB<|H<|am<|bW (t:=.box 1 0) Z Z Z (K Z Z)<|bm (r:=.sl (ak G.1)) (bs':=[(30,c7),(104,[.sl (ak G.2.rest),.sc (.int .i64 ((G.2.err:Nat):Int))]),(30,[.sc (.string (bs a.1)),.sc (.bool (decide (c.1=1))),.own 0,.sc (.slice none 0 0)])]) Z Z Z Z Z Z (a4▸r5 s 24 O I) Z Z Z Z<|bW (t:=.sc (.string (bs G.1))) Z Z Z (eH Z Z)<|bW (t:=.sc (.string (bs G.1))) Z Z Z (bN Z Z)<|E<|H<|am<|bW (t:=.box 1 0) Z Z Z (K Z Z)<|bm (r:=.sc (.int .u64 ((L.1:Nat):Int))) (bs':=[(30,c7),(104,[.sl (ak L.2.rest),.sc (.int .i64 ((L.2.err:Nat):Int))]),(30,[.sc (.string (bs a.1)),.sc (.bool (decide (c.1=1))),.own 0,.sc (.slice none 0 0)])]) Z Z Z Z Z Z (T▸sW G.2 2 O) Z Z Z Z<|bW (t:=.sc (.int .i64 ((L.1:Nat):Int))) Z Z Z (aj (bp Z b6 cf Z) (pC Z O))<|bW (t:=.sc (.int .i64 ((L.1:Nat):Int))) Z Z Z (bN Z Z)<|E<|eM (sl':=[(0,.sl (ak b)),(2,.box 0 0),(4,.box 1 0),(5,.box 2 0),(6,.sc (.int .u64 ((n.1:Nat):Int))),(7,.sc (.int .u64 ((i:Nat):Int))),(59,.sc (.bool ((decide (i<n.1))&&(decide (s.err=0))))),(8,.sc (.string (bs G.1))),(9,.sc (.int .i64 ((L.1:Nat):Int)))]) ⟨Z,⟨Z,⟨Z,⟨Z,⟨Z,⟨Z,⟨Z,⟨Z,⟨Z,trivial⟩⟩⟩⟩⟩⟩⟩⟩⟩<|Vr (fu:=3) [some 68,some 69,some 70,some 71,some 72,some 73,some 74,some 75,some 76,some 77,some 78,some 79,some 80,none] [6,10,13] [.box 2 0,.box 2 2,.own 0,.sc (.string (bs G.1)),.sc (.int .i64 ((L.1:Nat):Int)),.box 1 0,.sc (.int .u64 ((F.1:Nat):Int)),.sc (.bool (decide (F.1=1))),.agg [.sc (.string (bs G.1)),.sc (.int .i64 ((L.1:Nat):Int)),.sc (.bool (decide (F.1=1)))],.sl [.agg [.sc (.string (bs G.1)),.sc (.int .i64 ((L.1:Nat):Int)),.sc (.bool (decide (F.1=1)))]],.own 0,.box 2 0,.box 2 2,.any] [([6],[(30,c7),(104,[.sl (ak F.2.rest),.sc (.int .i64 ((F.2.err:Nat):Int))]),(30,[.sc (.string (bs a.1)),.sc (.bool (decide (c.1=1))),.own 0,.sc (.slice none 0 0)])],[some ⟨58,3,d.map Col.tree,false⟩],[]),([10,6],[(30,c7),(104,[.sl (ak F.2.rest),.sc (.int .i64 ((F.2.err:Nat):Int))]),(30,[.sc (.string (bs a.1)),.sc (.bool (decide (c.1=1))),.any,.sc (.slice none 0 0)])],[some ⟨58,3,(d++[(⟨bs G.1,((L.1:Nat):Int),decide (F.1=1)⟩:Col)]).map Col.tree,false⟩],[(2,.any)])] [13,10,6] [(30,c7),(104,[.sl (ak F.2.rest),.sc (.int .i64 ((F.2.err:Nat):Int))]),(30,[.sc (.string (bs a.1)),.sc (.bool (decide (c.1=1))),.own 0,.sc (.slice none 0 0)])] [some ⟨58,3,(d++[(⟨bs G.1,((L.1:Nat):Int),decide (F.1=1)⟩:Col)]).map Col.tree,false⟩] [(2,.any)] U Z U U U Z Z ?_ ?_
  ·refine .opp [] (.okk Z (aq Z Z cV Z)<|.okk Z (aq Z Z cV Z)<|.fin)<|.opp [0] (.okk Z (aq Z Z cP Z)<|.okk Z (aq Z Z cP Z)<|.fin)<|.opp [1] (.okk Z (av Z Z Z d9 Z)<|.okk Z (av Z Z Z d9 Z)<|.fin)<|.opp [] (.okk Z (K Z Z)<|.okk Z (K Z Z)<|.fin)<|.opp [] (.okk Z (K Z Z)<|.okk Z (K Z Z)<|.fin)<|.opp [] (.okk Z (K Z Z)<|.fin)<|.opp [5] (.wr 1 id (.sc (.int .u64 ((F.1:Nat):Int))) U Z Z (rA (vs:=[.int .u64 1]) Z Z Z Z Z (A▸sW L.2 1 O) Z Z) Z Z Z Z (.k Z (.k Z (.k Z (.k Z (.k Z (.k Z (.i Z (.k Z (.k Z (.k Z (.k Z (.k Z (.k Z (.k Z .nil))))))))))))))<|.fin)<|.opp [6] (.no U<|.okk Z (aj (aC Z Z Z Zy) (B (gL (F.1) 1)))<|.fin)<|.opp [3,4,7] (.no U<|.okk Z (f5 Z wF Z Z Z)<|.fin)<|.opp [8] (.no U<|.okk Z (aS Z bk iL Z I I Z Z Z Z Z)<|.fin)<|.opp [2,9] (.no U<|.wr 2 (fk 0) (.own 0) U Z Z (c8 Z Z Z nw Z Z Z Z (by intro e he;simp only[Ri,RM,or_false]at he;subst he;rfl) (AllC.lit Z) (AllC.lit Z) (by simp only[Rn,Q5,Ra];omega) Z Z (by rw[<-app1];rfl)) Z Z Z Z (.k Z (.k Z (.k Z (.k Z (.k Z (.k Z (.k Z (.k Z (.k Z (.k Z (.i Z (.k Z (.k Z (.k Z .nil))))))))))))))<|.fin)<|.opp [] (.nos 2<|.okk Z (aq Z Z cV Z)<|.fin)<|.opp [11] (.nos 2<|.okk Z (aq Z Z cP Z)<|.fin)<|.opp [10,12] (.nos 2<|.wr 3 id .any U Z Z (fx Z Z Z Z Z Z Z Z vX Z Z Z) Z Z Z Z (.k Z (.k Z (.k Z (.k Z (.k Z (.k Z (.k Z (.k Z (.k Z (.k Z (.k Z (.k Z (.k Z (.i Z .nil))))))))))))))<|.fin)<|.nil
  refine am<|bW (t:=.sc (.int .u64 ((i:Nat):Int))) Z Z Z (K Z Z)<|bW (t:=.sc (.int .u64 ((i+1:Nat):Int))) Z Z Z (aj (aC Z Z Z Zy) (AT O O))<|bW (t:=.sc (.int .u64 ((i+1:Nat):Int))) Z Z Z (bN Z Z)<|E<|⟨_,_,?_,⟨i+1,d++[(⟨bs G.1,((L.1:Nat):Int),decide (F.1=1)⟩:Col)],F.2,?_,Z,Z⟩,.rf⟩
  ·omega
  exact⟨O,by rw[Q4,d3];rfl,O,by rw[show n.1-(i+1)=z by omega];exact J⟩
 have J:(d,s)=jY n.1 [] n.2:=by
  rw[<-J];by_cases h0:s.err=0
  ·have:¬i<n.1:=λh=>by rw[decide_eq_true h,decide_eq_true h0]at P;cases P
   rw[show n.1-i=0 by omega,jY]
  cases n.1-i with
  |zero=>rw[jY]
  |succ z=>rw[jY,if_pos h0]
 obtain⟨m,hm⟩:∃x,bX 64 s=x:=⟨_,Z⟩;have l5:=de 64 s;have l6:=fv 64 s;rw[hm]at l5 l6;have c4:IY ct=(⟨bs a.1,decide (c.1=1),d⟩,m.1,m.2):=by simp only[IY,ha,hc,hn,<-J,hm];rfl
 have M:oM ct=iZ 396 m.1 [] m.2:=by unfold oM;rw[c4]
 refine aX<|H<|am<|bW (t:=.box 1 0) Z Z Z (K Z Z)<|bm (r:=.sc (.int .u64 ((m.1:Nat):Int))) (bs':=[(30,c7),(104,[.sl (ak m.2.rest),.sc (.int .i64 ((m.2.err:Nat):Int))]),(30,[.sc (.string (bs a.1)),.sc (.bool (decide (c.1=1))),.own 0,.sc (.slice none 0 0)])]) Z Z Z Z Z Z (hm▸sW s 64 O) Z Z Z Z<|bW (t:=.sc (.int .u64 ((m.1:Nat):Int))) Z Z Z (bN Z Z)<|E<|H<|H<|am<|bW (t:=.sc (.int .u64 0)) Z Z Z (bN Z Z)<|E<|aB<|iU 2 3 67 4 (bs':=[(30,c7),(104,[.sl (ak m.2.rest),.sc (.int .i64 ((m.2.err:Nat):Int))]),(30,[.sc (.string (bs a.1)),.sc (.bool (decide (c.1=1))),.own 0,.own 1])]) (rs':=[some ⟨58,3,d.map Col.tree,false⟩,some ⟨67,4,([]:List Ot).map Ot.tree,false⟩]) Z Z Z Z<|aT (λn_ S_=>∃(j:Nat) (o:List Ot) (u:Rdr),(j<=m.1/\o.length=j/\u.rest.length<=b.length/\iZ 396 (m.1-j) o u=iZ 396 m.1 [] m.2)/\n_=m.1-j/\S_=⟨136,[(0,.sl (ak b)),(2,.box 0 0),(4,.box 1 0),(5,.box 2 0),(6,.sc (.int .u64 ((m.1:Nat):Int))),(10,.sc (.int .u64 ((j:Nat):Int)))],[(30,c7),(104,[.sl (ak u.rest),.sc (.int .i64 ((u.err:Nat):Int))]),(30,[.sc (.string (bs a.1)),.sc (.bool (decide (c.1=1))),.own 0,.own 1])],[some ⟨58,3,d.map Col.tree,false⟩,some ⟨67,4,(o).map Ot.tree,false⟩]⟩) 3 2 ⟨0,[],m.2,⟨Rg _,Z,O,Z⟩,Z,Z⟩ .rf ?_;rintro n_ S_ ⟨j,o,u,⟨hj,b5,f1,w⟩,rfl,rfl⟩;refine H<|H<|am<|bW (t:=.sc (.int .u64 ((j:Nat):Int))) Z Z Z (K Z Z)<|bW (t:=.sc (.int .u64 ((m.1:Nat):Int))) Z Z Z (K Z Z)<|bW (t:=.sc (.bool (decide (j<m.1)))) Z Z Z (aj (aC Z Z Z Zy) (B (gF j (m.1))))<|bW (t:=.sc (.bool (decide (j<m.1)))) Z Z Z (K Z Z)<|N (t:=.box 1 0) Z Z Z Z (λg=>K Z Z)<|N (t:=.box 1 0) Z Z Z Z (λg=>bD Z (if_pos g))<|N (t:=.box 1 1) Z Z Z Z (λg=>aq Z (if_pos g) pO Z)<|N (t:=.sc (.int .i64 ((u.err:Nat):Int))) Z Z Z Z (λg=>av Z (if_pos g) Z wV Z)<|N (t:=.sc (.bool (decide (u.err=0)))) Z Z Z Z (λg=>aj (aC Z (if_pos g) Z (λ_=>rfl)) (B (gL u.err 0)))<|bW (t:=.sc (.bool ((decide (j<m.1))&&(decide (u.err=0))))) Z Z Z (fJ Z Z (λq=>(if_pos q).trans (B (by rw[q];rfl))) (λq=>(B (by rw[q];rfl))))<|E<|aK (b:=(decide (j<m.1))&&(decide (u.err=0))) Z (λQ=>?_) (λQ=>?_)
 ·rw[Q9]at Q;have e8:=of_decide_eq_true Q.1;have b3:=of_decide_eq_true Q.2;obtain⟨z,hz⟩:∃z,m.1-j=z+1:=⟨m.1-j-1,O⟩;obtain⟨k,hk⟩:∃x,bM 396 u=x:=⟨_,Z⟩;obtain⟨f,hf⟩:∃x,d7 k.2=x:=⟨_,Z⟩;have l7:=fW 396 u;have l8:=yV k.2;have l9:=ie 396 u;rw[hk]at l7 l9;rw[hf]at l8;rw[hz,iZ,if_neg O,hk]at w;refine ar<|H<|aB<|H ?_;rcases a0:ir k.1 with _|l
  ·rw[a0]at w;have S:nY b=(Rel.zero,2):=by rw[b4,M,<-w]
   refine am<|bW (t:=.box 1 0) Z Z Z (K Z Z)<|bm (r:=.sl (ak k.1)) (bs':=[(30,c7),(104,[.sl (ak k.2.rest),.sc (.int .i64 ((k.2.err:Nat):Int))]),(30,[.sc (.string (bs a.1)),.sc (.bool (decide (c.1=1))),.own 0,.own 1])]) Z Z Z Z Z Z (hk▸r5 u 396 O I) Z Z Z Z<|bW (t:=.tup [.sl [],.sc (.bool false)]) Z Z Z (D Z (by have h:=De k.1 O;rw[a0]at h;exact h) Z Z)<|bW (t:=.tup [.sl [],.sc (.bool false)]) Z Z Z (K Z Z)<|bW (t:=.sl []) Z Z Z (eN Z Z Z)<|bW (t:=.sc (.bool false)) Z Z Z (eN Z Z Z)<|bW (t:=.sl []) Z Z Z (bN Z Z)<|bW (t:=.sc (.bool false)) Z Z Z (bN Z Z)<|E<|H<|H<|am<|bW (t:=.sc (.bool false)) Z Z Z (K Z Z)<|bW (t:=.sc (.bool true)) Z Z Z (dm Z Z Zy)<|E<|aK (b:=true) Z (λ_=>?_) (λh=>by cases h);refine H<|am<|bW (t:=.agg c7) Z Z Z (f5 Z k6 Z Z Z)<|A5 (bs':=[(30,c7),(104,[.sl (ak k.2.rest),.sc (.int .i64 ((k.2.err:Nat):Int))]),(30,[.sc (.string (bs a.1)),.sc (.bool (decide (c.1=1))),.own 0,.own 1])]) Z Z Z Z Z Z Z Z Z nD Z Z Z<|bW (t:=.sc (.int .i64 2)) Z Z Z (bN Z Z)<|E<|aQ<|⟨.inr Z,_,.cons ⟨_,_,_,_,Z,Z,.inl ⟨_,bf,Z,Z⟩⟩ (.cons Z .nil),pu S Z,Z⟩
  rw[a0]at w;dsimp only at w;rw[hf]at w;refine am<|bW (t:=.box 1 0) Z Z Z (K Z Z)<|bm (r:=.sl (ak k.1)) (bs':=[(30,c7),(104,[.sl (ak k.2.rest),.sc (.int .i64 ((k.2.err:Nat):Int))]),(30,[.sc (.string (bs a.1)),.sc (.bool (decide (c.1=1))),.own 0,.own 1])]) Z Z Z Z Z Z (hk▸r5 u 396 O I) Z Z Z Z<|bW (t:=.tup [.sl (l.map V.tree),.sc (.bool true)]) Z Z Z (D Z (by have h:=De k.1 O;rw[a0]at h;exact h) Z Z)<|bW (t:=.tup [.sl (l.map V.tree),.sc (.bool true)]) Z Z Z (K Z Z)<|bW (t:=.sl (l.map V.tree)) Z Z Z (eN Z Z Z)<|bW (t:=.sc (.bool true)) Z Z Z (eN Z Z Z)<|bW (t:=.sl (l.map V.tree)) Z Z Z (bN Z Z)<|bW (t:=.sc (.bool true)) Z Z Z (bN Z Z)<|E<|H<|H<|am<|bW (t:=.sc (.bool true)) Z Z Z (K Z Z)<|bW (t:=.sc (.bool false)) Z Z Z (dm Z Z Zy)<|E<|aK (b:=false) Z (λh=>by cases h) (λ_=>?_);refine ar<|eM (sl':=[(0,.sl (ak b)),(2,.box 0 0),(4,.box 1 0),(5,.box 2 0),(6,.sc (.int .u64 ((m.1:Nat):Int))),(10,.sc (.int .u64 ((j:Nat):Int))),(92,.sc (.bool ((decide (j<m.1))&&(decide (u.err=0))))),(11,.sl (l.map V.tree)),(12,.sc (.bool true)),(102,.sc (.bool false))]) ⟨Z,⟨Z,⟨Z,⟨Z,⟨Z,⟨Z,⟨Z,⟨Z,⟨Z,⟨Z,trivial⟩⟩⟩⟩⟩⟩⟩⟩⟩⟩<|Vr (fu:=3) [some 104,some 105,some 106,some 107,some 108,some 109,some 110,some 111,some 112,none] [4,7,9] [.box 2 3,.own 1,.sl (l.map V.tree),.box 1 0,.agg [.sc (.bool (xH f.1)),aY (xI f.1),aY (xJ f.1)],.agg [.sl (l.map V.tree),.sc (.bool (xH f.1)),aY (xI f.1),aY (xJ f.1)],.sl [.agg [.sl (l.map V.tree),.sc (.bool (xH f.1)),aY (xI f.1),aY (xJ f.1)]],.own 1,.box 2 3,.any] [([4],[(30,c7),(104,[.sl (ak f.2.rest),.sc (.int .i64 ((f.2.err:Nat):Int))]),(30,[.sc (.string (bs a.1)),.sc (.bool (decide (c.1=1))),.own 0,.own 1])],[some ⟨58,3,d.map Col.tree,false⟩,some ⟨67,4,(o).map Ot.tree,false⟩],[]),([7,4],[(30,c7),(104,[.sl (ak f.2.rest),.sc (.int .i64 ((f.2.err:Nat):Int))]),(30,[.sc (.string (bs a.1)),.sc (.bool (decide (c.1=1))),.own 0,.any])],[some ⟨58,3,d.map Col.tree,false⟩,some ⟨67,4,(o++[(⟨l,f.1⟩:Ot)]).map Ot.tree,false⟩],[(1,.any)])] [9,7,4] [(30,c7),(104,[.sl (ak f.2.rest),.sc (.int .i64 ((f.2.err:Nat):Int))]),(30,[.sc (.string (bs a.1)),.sc (.bool (decide (c.1=1))),.own 0,.own 1])] [some ⟨58,3,d.map Col.tree,false⟩,some ⟨67,4,(o++[(⟨l,f.1⟩:Ot)]).map Ot.tree,false⟩] [(1,.any)] U Z U U U Z Z ?_ ?_
  ·refine .opp [] (.okk Z (aq Z Z a6 Z)<|.okk Z (aq Z Z a6 Z)<|.fin)<|.opp [0] (.okk Z (av Z Z Z bJ Z)<|.okk Z (av Z Z Z bJ Z)<|.fin)<|.opp [] (.okk Z (K Z Z)<|.okk Z (K Z Z)<|.fin)<|.opp [] (.okk Z (K Z Z)<|.fin)<|.opp [3] (.wr 1 id (.agg [.sc (.bool (xH f.1)),aY (xI f.1),aY (xJ f.1)]) U Z Z (rA (vs:=[]) Z Z Z Z Z (hf▸Pc k.2 O) Z Z) Z Z Z Z (.k Z (.k Z (.k Z (.k Z (.i Z (.k Z (.k Z (.k Z (.k Z (.k Z .nil))))))))))<|.fin)<|.opp [2,4] (.no U<|.okk Z (f5 Z gw Z Z Z)<|.fin)<|.opp [5] (.no U<|.okk Z (aS Z aV go Z I I Z Z Z Z Z)<|.fin)<|.opp [1,6] (.no U<|.wr 2 (fk 1) (.own 1) U Z Z (c8 Z Z Z ia Z Z Z Z (by intro e he;simp only[Ri,RM,or_false]at he;subst he;rfl) (AllC.lit Z) (AllC.lit Z) (by simp only[Rn,Q5,Ra];omega) Z Z (by rw[<-app1];rfl)) Z Z Z Z (.k Z (.k Z (.k Z (.k Z (.k Z (.k Z (.k Z (.i Z (.k Z (.k Z .nil))))))))))<|.fin)<|.opp [] (.nos 2<|.okk Z (aq Z Z a6 Z)<|.fin)<|.opp [7,8] (.nos 2<|.wr 3 id .any U Z Z (fx Z Z Z Z Z Z Z Z k7 Z Z Z) Z Z Z Z (.k Z (.k Z (.k Z (.k Z (.k Z (.k Z (.k Z (.k Z (.k Z (.i Z .nil))))))))))<|.fin)<|.nil
  refine am<|bW (t:=.sc (.int .u64 ((j:Nat):Int))) Z Z Z (K Z Z)<|bW (t:=.sc (.int .u64 ((j+1:Nat):Int))) Z Z Z (aj (aC Z Z Z Zy) (AT O O))<|bW (t:=.sc (.int .u64 ((j+1:Nat):Int))) Z Z Z (bN Z Z)<|E<|⟨_,_,?_,⟨j+1,o++[(⟨l,f.1⟩:Ot)],f.2,?_,Z,Z⟩,.rf⟩
  ·omega
  exact⟨O,by rw[Q4,b5];rfl,O,by rw[show m.1-(j+1)=z by omega];exact w⟩
 have W:oM ct=some (o,u):=by
  rw[M,<-w];by_cases h0:u.err=0
  ·have:¬j<m.1:=λh=>by rw[decide_eq_true h,decide_eq_true h0]at Q;cases Q
   rw[show m.1-j=0 by omega,iZ]
  cases m.1-j with
  |zero=>rw[iZ]
  |succ z=>rw[iZ,if_pos h0]
 obtain⟨r,hr⟩:∃r,nX ct (o,u)=r:=⟨_,Z⟩;have a3:nY b=if u.err=0/\bK r=0/\dH r=b then(r,0)else(Rel.zero,2):=by rw[b4,W];dsimp only;rw[hr]
 obtain⟨a2,c9,d0⟩:=Db W;rw[hr]at a2 c9;have b2:(⟨⟨bs a.1,decide (c.1=1),d⟩,o.map Ot.tp⟩:Rel)=r:=by rw[<-hr];unfold nX;rw[c4]
 have b0:r.tups=(o.map Ot.rt).map Rt.tp:=by rw[<-b2,List.map_map];exact(SV λx _=>(LQ x).symm)
 have c5:H8 (o.map Ot.rt):=λx hx=>by
  obtain⟨y,hy,rfl⟩:=Sv.1 hx;exact LS (d0 y hy)
 have d2:xD r:=NK a2 λt ht v hv=>by
  rw[b0,List.map_map]at ht;obtain⟨y,hy,rfl⟩:=Sv.1 ht;have e5:v∈y.vals:=by simpa[Rt.tp,Ot.rt]using hv
  exact Q7 (NG ((d0 y hy).ok v e5)) I
 have d1:xE r (o.map Ot.rt)=.agg [.sc (.string (bs a.1)),.sc (.bool (decide (c.1=1))),.sl (d.map Col.tree),.sl (o.map Ot.tree)]:=Pf ⟨bs a.1,decide (c.1=1),d⟩ o r (by rw[<-b2]);refine dp 0 (bs':=[(30,c7),(104,[.sl (ak u.rest),.sc (.int .i64 ((u.err:Nat):Int))]),(30,[.sc (.string (bs a.1)),.sc (.bool (decide (c.1=1))),.sl (d.map Col.tree),.own 1])]) (rs':=[none,some ⟨67,4,(o).map Ot.tree,false⟩]) Z Z Z Z<|dp 1 (bs':=[(30,c7),(104,[.sl (ak u.rest),.sc (.int .i64 ((u.err:Nat):Int))]),(30,[.sc (.string (bs a.1)),.sc (.bool (decide (c.1=1))),.sl (d.map Col.tree),.sl ((o).map Ot.tree)])]) (rs':=[none,none]) Z Z Z Z<|aX<|H ?_;by_cases hv:bK r=0
 ·refine am<|bW (t:=.agg [.sc (.string (bs a.1)),.sc (.bool (decide (c.1=1))),.sl (d.map Col.tree),.sl ((o).map Ot.tree)]) Z Z Z (aN Z Z Z bf Z Z)<|bW (t:=.tup [.sl (ak (dH r)),.sc (.int .i64 ((R:Nat):Int))]) Z Z Z (D Z (by have h:=(tL r (o.map Ot.rt) b0 ⟨hv,⟨a2,trivial⟩,c9⟩ d2 c5).ct;rw[d1]at h;rw[c3];exact h) Z Z)<|bW (t:=.tup [.sl (ak (dH r)),.sc (.int .i64 ((R:Nat):Int))]) Z Z Z (K Z Z)<|bW (t:=.sl (ak (dH r))) Z Z Z (eN Z Z Z)<|bW (t:=.sc (.int .i64 ((R:Nat):Int))) Z Z Z (eN Z Z Z)<|bW (t:=.sl (ak (dH r))) Z Z Z (bN Z Z)<|bW (t:=.sc (.int .i64 ((R:Nat):Int))) Z Z Z (bN Z Z)<|E<|H<|H<|am<|bW (t:=.box 1 0) Z Z Z (K Z Z)<|bW (t:=.box 1 0) Z Z Z (bD Z Z)<|bW (t:=.box 1 1) Z Z Z (aq Z Z pO Z)<|bW (t:=.sc (.int .i64 ((u.err:Nat):Int))) Z Z Z (av Z Z Z wV Z)<|bW (t:=.sc (.bool (decide (u.err≠0)))) Z Z Z (aj (aC Z Z Z Zy) (B (od u.err 0)))<|bW (t:=.sc (.bool (decide (u.err≠0)))) Z Z Z (K Z Z)<|N (t:=.sc (.int .i64 ((R:Nat):Int))) Z Z Z Z (λg=>K Z Z)<|N (t:=.sc (.bool (decide (R≠0)))) Z Z Z Z (λg=>aj (aC Z (if_pos g) Z (λ_=>rfl)) (B (od R 0)))<|bW (t:=.sc (.bool ((decide (u.err≠0))||(decide (R≠0))))) Z Z Z (fJ Z Z (λq=>(B (by rw[q];rfl))) (λq=>(if_pos q).trans (B (by rw[q];rfl))))<|bW (t:=.sc (.bool ((decide (u.err≠0))||(decide (R≠0))))) Z Z Z (K Z Z)<|N (t:=.sl (ak (dH r))) Z Z Z Z (λg=>K Z Z)<|N (t:=.sc (.string (bs (dH r)))) Z Z Z Z (λg=>eH Z (if_pos g))<|N (t:=.sl (ak b)) Z Z Z Z (λg=>K Z Z)<|N (t:=.sc (.string (bs b))) Z Z Z Z (λg=>eH Z (if_pos g))<|N (t:=.sc (.bool (!((bs (dH r)).toList==(bs b).toList)))) Z Z Z Z (λg=>aC Z (if_pos g) (if_pos g) (λ_=>rfl))<|bW (t:=.sc (.bool (((decide (u.err≠0))||(decide (R≠0)))||(!((bs (dH r)).toList==(bs b).toList))))) Z Z Z (fJ Z Z (λq=>(B (by rw[q];rfl))) (λq=>(if_pos q).trans (B (by rw[q];rfl))))<|E<|aK (b:=((decide (u.err≠0))||(decide (R≠0)))||(!((bs (dH r)).toList==(bs b).toList))) Z (λY=>?_) (λY=>?_)
  ·have S:nY b=(Rel.zero,2):=by rw[a3];exact if_neg λh=>by rw[h.1,c3,h.2.2]at Y;simp at Y
   refine H<|am<|bW (t:=.agg c7) Z Z Z (f5 Z k6 Z Z Z)<|A5 (bs':=[(30,c7),(104,[.sl (ak u.rest),.sc (.int .i64 ((u.err:Nat):Int))]),(30,[.sc (.string (bs a.1)),.sc (.bool (decide (c.1=1))),.sl (d.map Col.tree),.sl ((o).map Ot.tree)])]) Z Z Z Z Z Z Z Z Z nD Z Z Z<|bW (t:=.sc (.int .i64 2)) Z Z Z (bN Z Z)<|E<|aQ<|⟨.inr Z,_,.cons ⟨_,_,_,_,Z,Z,.inl ⟨_,bf,Z,Z⟩⟩ (.cons Z .nil),pu S Z,Z⟩
  obtain⟨T,d4⟩:=Rp.1 Y;obtain⟨e1,e6⟩:=Rp.1 T;have b3:u.err=0:=by simpa using e1
  have e3:dH r=b:=by
   have h1:(bs (dH r)).toList=(bs b).toList:=by simpa using d4
   rw[<-eW (dH r),<-Lib.toList_data,h1,Lib.toList_data,eW]
  have S:nY b=(r,0):=by rw[a3];exact if_pos ⟨b3,hv,e3⟩
  have e4:C7 ⟨bs a.1,decide (c.1=1),d⟩ o=r.tree:=LV b2 (Dc 396 _ [] _ (o,u) (λt ht=>by cases ht) (by rw[<-M];exact W) b3);refine ar<|H<|am<|bW (t:=.agg [.sc (.string (bs a.1)),.sc (.bool (decide (c.1=1))),.sl (d.map Col.tree),.sl ((o).map Ot.tree)]) Z Z Z (aN Z Z Z bf Z Z)<|A5 (bs':=[(30,[.sc (.string (bs a.1)),.sc (.bool (decide (c.1=1))),.sl (d.map Col.tree),.sl ((o).map Ot.tree)]),(104,[.sl (ak u.rest),.sc (.int .i64 ((u.err:Nat):Int))]),(30,[.sc (.string (bs a.1)),.sc (.bool (decide (c.1=1))),.sl (d.map Col.tree),.sl ((o).map Ot.tree)])]) Z Z Z Z Z Z Z Z Z nD Z Z Z<|bW (t:=.sc (.int .i64 0)) Z Z Z (bN Z Z)<|E<|aQ<|⟨.inr Z,_,.cons ⟨_,_,_,_,Z,Z,.inl ⟨_,bf,Z,Z⟩⟩ (.cons Z .nil),pu S e4,Z⟩
 refine am<|bW (t:=.agg [.sc (.string (bs a.1)),.sc (.bool (decide (c.1=1))),.sl (d.map Col.tree),.sl ((o).map Ot.tree)]) Z Z Z (aN Z Z Z bf Z Z)<|bW (t:=.tup [.sl (ak ([]:List UInt8)),.sc (.int .i64 (bK r))]) Z Z Z (D Z (by have h:=C5 r (o.map Ot.rt) b0 a2 d2 c5 hv;rw[d1]at h;exact h) Z Z)<|bW (t:=.tup [.sl (ak ([]:List UInt8)),.sc (.int .i64 (bK r))]) Z Z Z (K Z Z)<|bW (t:=.sl (ak ([]:List UInt8))) Z Z Z (eN Z Z Z)<|bW (t:=.sc (.int .i64 (bK r))) Z Z Z (eN Z Z Z)<|bW (t:=.sl (ak ([]:List UInt8))) Z Z Z (bN Z Z)<|bW (t:=.sc (.int .i64 (bK r))) Z Z Z (bN Z Z)<|E<|H<|H<|am<|bW (t:=.box 1 0) Z Z Z (K Z Z)<|bW (t:=.box 1 0) Z Z Z (bD Z Z)<|bW (t:=.box 1 1) Z Z Z (aq Z Z pO Z)<|bW (t:=.sc (.int .i64 ((u.err:Nat):Int))) Z Z Z (av Z Z Z wV Z)<|bW (t:=.sc (.bool (decide (u.err≠0)))) Z Z Z (aj (aC Z Z Z Zy) (B (od u.err 0)))<|bW (t:=.sc (.bool (decide (u.err≠0)))) Z Z Z (K Z Z)<|N (t:=.sc (.int .i64 (bK r))) Z Z Z Z (λg=>K Z Z)<|N (t:=.sc (.bool ((bK r) !=0))) Z Z Z Z (λg=>aC Z (if_pos g) Z (λ_=>rfl))<|bW (t:=.sc (.bool ((decide (u.err≠0))||((bK r) !=0)))) Z Z Z (fJ Z Z (λq=>(B (by rw[q];rfl))) (λq=>(if_pos q).trans (B (by rw[q];rfl))))<|bW (t:=.sc (.bool ((decide (u.err≠0))||((bK r) !=0)))) Z Z Z (K Z Z)<|N (t:=.sl (ak ([]:List UInt8))) Z Z Z Z (λg=>K Z Z)<|N (t:=.sc (.string (bs []))) Z Z Z Z (λg=>eH Z (if_pos g))<|N (t:=.sl (ak b)) Z Z Z Z (λg=>K Z Z)<|N (t:=.sc (.string (bs b))) Z Z Z Z (λg=>eH Z (if_pos g))<|N (t:=.sc (.bool (!((bs []).toList==(bs b).toList)))) Z Z Z Z (λg=>aC Z (if_pos g) (if_pos g) (λ_=>rfl))<|bW (t:=.sc (.bool (((decide (u.err≠0))||((bK r) !=0))||(!((bs []).toList==(bs b).toList))))) Z Z Z (fJ Z Z (λq=>(B (by rw[q];rfl))) (λq=>(if_pos q).trans (B (by rw[q];rfl))))<|E<|aK (b:=((decide (u.err≠0))||((bK r) !=0))||(!((bs []).toList==(bs b).toList))) Z (λc0=>?_) (λc0=>?_)
 ·have S:nY b=(Rel.zero,2):=by rw[a3];exact if_neg λh=>hv h.2.1
  refine H<|am<|bW (t:=.agg c7) Z Z Z (f5 Z k6 Z Z Z)<|A5 (bs':=[(30,c7),(104,[.sl (ak u.rest),.sc (.int .i64 ((u.err:Nat):Int))]),(30,[.sc (.string (bs a.1)),.sc (.bool (decide (c.1=1))),.sl (d.map Col.tree),.sl ((o).map Ot.tree)])]) Z Z Z Z Z Z Z Z Z nD Z Z Z<|bW (t:=.sc (.int .i64 2)) Z Z Z (bN Z Z)<|E<|aQ<|⟨.inr Z,_,.cons ⟨_,_,_,_,Z,Z,.inl ⟨_,bf,Z,Z⟩⟩ (.cons Z .nil),pu S Z,Z⟩
 exact absurd (by simpa using(Rp.1 (Rp.1 c0).1).2) hv
def Df{w:World}{base e sz n m c:Nat}{A:Option Addr}{xs:List Value}(h:w.ownsRow base e sz (.slice A n c) n xs)(p:m<=n):w.ownsRow base e sz (.slice A m c) m (xs.take (m*sz)):=by
 have f:m*sz<=n*sz:=RB _ p;refine⟨by rw[Rb,h.1];omega,?_⟩;rcases h.2 with⟨a,s⟩|⟨g,i,cur,a,k,o,t,l,q,r⟩
 ·injection a with b j d
  subst b d;have:m=0:=O
  subst this;exact .inl ⟨Z,Z⟩
 injection a with b j d
 subst b d;exact .inr ⟨g,c,cur,Z,k,o,O,l,q,by rw[<-r,Vk,SD f]⟩
section
variable {w0:World} {G0:Bse} {S:St} {o:Oper}
def Pg{t e:TypeId}{k m:Nat}{I:IntKind}{R:Row}{x y:Operand}(E:o.op=.slice t x none (some y) none)(V:cF S.n o.dst=true)(W:gQ prog t=some (e,R.sz))(X:S.ev x=.own k)(z:S.rs[k]? =some (some R))(Y:S.ev y=.sc (.int I (m:Nat)))(K:m<=R.es.length):
  lM w0 G0 o S ({S.kill k with rs:=S.rs.set k (some ⟨R.e,R.sz,R.es.take m,false⟩)}.put o.dst (.own k)):=by
 rintro a w ⟨bx,rv,p,G,B,f⟩;have L:=bP (op:=o.op) (T:=λs=>a.tmps.getD s undef) (S:=S) (λs _=>f s) X (by rw[E];simp[Op.operands]);have M:=(bP (op:=o.op) (T:=λs=>a.tmps.getD s undef) (S:=S) (λs _=>f s) Y (by rw[E];simp[Op.operands])).isSc;generalize (λs=>a.tmps.getD s undef)=T at L M⊢;obtain⟨H,xs,b,F,r,q⟩:=gT p z L;obtain⟨A,c,J⟩:=ce b;rw[J]at b H q;have D:R.es.length<=c:=by
  rcases b.2 with⟨u,h0⟩|⟨g,O,cur,u,_,_,h3,_⟩
  ·injection u with _ _ Q;omega
  injection u with _ _ Q;omega
 have N:=jb (P:=prog) (w:=w) (A:=A) (n:=R.es.length) (c:=c) (l:=0) (h:=m) W none (some (.int I (m:Nat))) (.inl ⟨Z,Z⟩) (.inr ⟨I,Z⟩) (Rg _) K D;have U:(if c=0 then A else A.map (·.add (0*R.sz)))=A:=by
  split
  ·rfl
  cases A with
  |none=>rfl
  |some a=>simp[Addr.add]
 rw[U]at N;have j:(R.es.take m).length=m:=by rw[Rb];omega
 have i:w.grownBy w (Value.slice A R.es.length c).ownBlock:=⟨Z,Z,Z,Q3 _,λ_ _ _=>rfl⟩;refine aE (v:=.slice A m c) (W':=w) (by simp[execOp,E,J,M,N]) (uC (R':=⟨R.e,R.sz,R.es.take m,false⟩) (v':=.slice A m c) (xs:=xs.take (m*R.sz)) p G B f V H z i (.inl (by cases A<;>rfl)) (by rw[j];exact Df b K) ?_ ⟨r.1.take _,λh=>by cases h⟩ λg C=>q g (by cases A<;>exact C));have d:=n7 (G0:=G0) (bx:=bx) (w:=w) (w':=w) (v':=.slice A m c) (R':=⟨R.e,R.sz,R.es.take m,false⟩) H z i (λg C=>.inl (by cases A<;>exact C));show PT w _ _ (flat (R.es.take m))
 rw[lZ r.1];exact(F.mono (Q3 _) d).take _
end
def IU{w0:World}{G0:Bse}{o:Oper}{ops:Array Oper}{a:List Oper}{Q:Exit->St->Prop}{n d k m:Nat}{sl sl':List (Nat×Tree)}{bs bs':List (TypeId×List Tree)}{rs rs':List (Option Row)}{x y:Operand}{t e:TypeId}{v:IntKind}{R:Row}(q:o.op=.slice t x none (some y) none)(i:o.guard=none)(g:o.dst=some d)(l:Nat.blt d n=true)(r:gQ prog t=some (e,R.sz))(s:St.ev ⟨n,sl,bs,rs⟩ x=.own k)(h:rs[k]? =some (some R))(u:St.ev ⟨n,sl,bs,rs⟩ y=.sc (.int v (m:Nat)))(j:m<=R.es.length)(f:sl.map (λp=>(p.1,fk k p.2))=sl')(b:bs.map (λp=>(p.1,p.2.map (iH k)))=bs')(c:rs.set k (some ⟨R.e,R.sz,R.es.take m,false⟩)=rs')
  (K:AOps w0 G0 ops a Q ⟨n,(d,.own k)::sl',bs',rs'⟩):AOps w0 G0 ops (o::a) Q ⟨n,sl,bs,rs⟩:=by
 subst f b c;refine dA i (Pg (S:=⟨n,sl,bs,rs⟩) q (by rw[g];simpa[cF,R5]using l) r s h u j) ?_;rw[g];exact K
def zv{x y:Operand}(a b:Nat)(c:0<b)(w:World):(do eqGuard .rem 36 x y (.int .u64 (a:Nat)) (.int .u64 (b:Nat));binOp .rem 36 (.int .u64 (a:Nat)) (.int .u64 (b:Nat)):Sem Value).run prog w=.ok (.int .u64 ((a%b:Nat):Int)) w:=by
 go_simp;rw[if_neg O,Te O]
def LW{r:Rel}(b:Good r):(dH r).length=(fV r).length+4/\6<=(fV r).length/\(fV r).length<=100000000:=by
 obtain⟨⟨G,H⟩,⟨I,J⟩,k⟩:=CR b;have z:=ib r.sch.name;have A:=gj r.sch.name.data.toList O;have B:=iY r.sch.cert;have C:=oG r.sch.cols.length;have D:=dz (n:=r.sch.cols.length) O;have E:=oG r.tups.length;have K:=b.len;have F:=dz (n:=r.tups.length) O;have i:∀l:List Col,(∀c∈l,c.name.size<=24/\0<=c.ty/\c.ty<=2)->(l.flatMap jo).length<=l.length*100/\l.length<=(l.flatMap jo).length:=by
  intro l;induction l with
  |nil=>intro _;exact⟨Q3 _,Q3 _⟩
  |cons c l ih=>
   intro h;obtain⟨q,s,u⟩:=h c (Rw ..);have m:=ih λx e=>h x (RD _ e)
   have v:=ib c.name;have f:=gj c.name.data.toList O;have g:=dz (n:=c.ty.toNat) O;have w:=iY c.key;have d:(jo c).length=(em c.name.data.toList).length+((cZ c.ty.toNat).length+(gP c.key).length):=by unfold jo;simp only[Q4]
   rw[SI,Q4,Q5,d];omega
 have o:∀l:List Tp,(∀t∈l,t∈r.tups)->(l.flatMap gz).length<=l.length*3000000:=by
  intro l;induction l with
  |nil=>intro _;exact Q3 _
  |cons t l ih=>
   intro h;have a:=h t (Rw ..);have m:=ih λx e=>h x (RD _ e)
   obtain⟨_,_,L⟩:=CS b a;have f:=gj (eJ t.vals) O;have g:=CT t.prob (b.fit.1.tup t a).1.p;have d:(gz t).length=(em (eJ t.vals)).length+(mF t.prob).length:=by unfold gz;simp only[Q4]
   rw[SI,Q4,Q5,d];omega
 have y:=i _ k;have M:=o _ λt h=>h
 have j:(jv (ft (fV r))).length=4:=rfl;refine⟨by unfold dH;rw[Q4,j],?_,?_⟩
 ·unfold fV nW;simp only[Q4];omega
 unfold fV nW;simp only[Q4];omega
def IV{x y:Operand}(a:Int)(w:World):(do eqGuard .and 3 x y (.int .i64 a) (.int .i64 1);binOp .and 3 (.int .i64 a) (.int .i64 1):Sem Value).run prog w=.ok (.int .i64 (((a%2).toNat:Nat):Int)) w:=by
 have e:((a%2).toNat:Int)=a%2:=O
 have key:bits .and .i64 a 1=a%2:=B3 a;rw[e];go_simp
def xn{b:List UInt8}{x:Rel}{e:Nat}(c:b.length<=65536)(h:j2 b=(x,e)):Ct 20 [.sl (ak b)] (.tup [x.tree,nI e]):=by
 have a:=IN b c;unfold NC at a;rw[h]at a;exact a
def xo{b:List UInt8}{x:Rel}{e:Nat}(c:b.length<=65536)(h:j2 b=(x,e)):Ct 22 [.sl (ak b)] (.tup [x.tree,nI e]):=by
 have a:=IT b c;unfold NJ at a;rw[NI c,h]at a;exact a
def Dg{b:List UInt8}{x:Rel}{e:Nat}(f:b.length<=65536)(h:j2 b=(x,e)):FitR x:=by
 have a:FitR Rel.zero:=⟨Rg _,Rg _,λt c=>by cases c⟩;have d:x=(j2 b).1:=by rw[h]
 rw[d];unfold j2;split
 ·exact a
 split
 ·exact a
 split
 ·exact a
 next r hr=>
 split
 ·exact(s0 (by rw[Rb];omega) hr).1
 exact a
def xp{b:List UInt8}{x:Rel}{e:Nat}(c:b.length<=65536)(h:j2 b=(x,e)):Ct 14 [x.tree,x.tree] (bT true):=by
 have a:=M7 x x (Dg c h) (Dg c h);rw[(Cc x x).2 Z]at a;exact a
def LX{r:Rel}(a:Good r){b:List UInt8}(c:dH r=b):CtP 19 [r.tree] 5 1 (ak b) (.int .i64 0):=by
 have h:=tL r (r.tups.map Tp.rt) (K3 r) a.enc a.str (NV λt d=>(a.fit.1.tup t d).1.p);rw[Gf]at h;subst c;exact h
def Dh(l:List UInt8)(a:l.length<=1000000000):Ct 23 [.sl (ak l)] (.sl (ak (l++jv (ft l)))):=by
 refine Ct.of (n:=5) func23 Z Z Z Z Z λw0 G0=>?_
 refine C<|M 0 (t:=.sl []) Z (bz (.inr Z) bS)<|E<|C<|M 1 Z (D Z (wY l a) Z Z)<|Y 1 Z<|aM ⟨Z,Z,Z⟩ Z
def Fc(b:List UInt8)(l:List Int)(J zt:Int)(c:UInt8)(hl:l.length<=9223372036854775807):Ct 7 [.sl (ak b),.sl (l.map jV),iT J,.sc (.int .u8 ((c.toNat:Nat):Int)),iT zt] (bT true):=by
 refine Ct.of (n:=137) func7 Z Z Z Z Z λw0 G0=>?_
 refine aw 1 Z<|H<|ae<|M 1 Z (aU Z aJ Z)<|aI 0 Z Z Zy (B (nZ b.length 200))<|E<|ay Z (λT=>?_) (λT=>?_)
 ·refine aw 1 Z<|aM ⟨Z,Z,Z⟩ Z
 have a4:b.length<=200:=O0
 refine ar<|H ?_;obtain⟨⟨L,e0⟩,f⟩:∃p,j2 b=p:=⟨_,Z⟩;obtain⟨sb,G⟩:∃x,b++jv (ft b)=x:=⟨_,Z⟩;have o:sb.length<=65536:=by rw[<-G,Q4];show b.length+4<=_;omega
 obtain⟨⟨O,e1⟩,g⟩:∃p,j2 sb=p:=⟨_,Z⟩;refine am<|M 1 Z (D Z (xn O0 f) Z Z)<|ag 6 Z<|ae<|M 1 Z (D Z (xo O0 f) Z Z)<|ag 6 Z<|ae<|M 1 (t:=.sl (ak sb)) Z (D Z (by rw[<-G];exact Dh b O0) Z Z)<|ag 1 Z<|ae<|M 1 Z (D Z (xn o g) Z Z)<|ag 6 Z<|ae<|M 1 Z (D Z (xo o g) Z Z)<|ag 6 Z<|ae<|ax 1 Z<|lG (λt_=>∃r:Rel,Good r/\t_=r.tree) Z Z Z (mo Z (Lk l hl) Z Z) ?_;rintro _ ⟨r,U,rfl⟩;obtain⟨fb,z⟩:∃x,dH r=x:=⟨_,Z⟩;refine EQ (r:=.int .i64 0) (k:=0) (rs':=[some ⟨5,1,ak fb,false⟩]) Z Z Z Z (LX U z) Z Z Z Z<|ag 5 Z<|H ?_;obtain⟨R,f2,f3⟩:=LW U;have f4:=NF U;rw[z]at R f4;obtain⟨C,a⟩:∃C,(fV r).length=C:=⟨_,Z⟩;rw[a]at R f2 f3;obtain⟨ct,y⟩:∃x,fb.take C=x:=⟨_,Z⟩;have e:ct.length=C:=by rw[<-y,Rb];omega
 refine am<|M 2 (t:=nI (C+4)) Z (aj (kF Z aJ Z Z) (by simp only[aA,R]))<|a8 0 C Z Z Zy O0<|IU (m:=C) (bs':=[(30,(bQ L)),(30,(bQ L)),(30,(bQ O)),(30,(bQ O))]) (rs':=[some ⟨5,1,ak ct,false⟩]) Z Z Z Z aJ Z Z Z (by rw[aA];omega) Z Z (by rw[<-y];unfold ak;rw[Tv];rfl)<|ag 1 Z<|H<|ae<|M 1 (t:=nI C) Z (aj (kF Z aJ Z Z) (by simp only[aA,e]))<|aI 0 Z Z Zy (B (nZ C 0))<|E<|ay Z (λv=>?_) (λv=>?_)
 ·obtain⟨d,S⟩:∃d:Nat,IntKind.u64.wrap J=(d:Nat):=⟨(IntKind.u64.wrap J).toNat,by rw[IntKind.wrap_u64];omega⟩;have W:d%C<C:=RJ _ O0;obtain⟨m,A⟩:∃m,d%C=m:=⟨_,Z⟩;rw[A]at W;obtain⟨q,hq⟩:∃q,ct[m]? =some q:=⟨_,Q2 O0⟩;obtain⟨X,hX⟩:∃X,ct.set m (UInt8.ofNat (q.toNat^^^c.toNat))=X:=⟨_,Z⟩;have u:X.length=C:=by rw[<-hX,RO];exact e
  refine am<|M 2 (t:=.sc (.int .u64 ((d:Nat):Int))) Z (aj (bp Z cf eX Z) (ej S))<|M 1 (t:=nI C) Z (aj (kF Z aJ Z Z) (by simp only[aA,e]))<|M 0 (t:=.sc (.int .u64 ((C:Nat):Int))) Z (aj (bp Z cf eX Z) (jt O0))<|M 0 (t:=.sc (.int .u64 ((m:Nat):Int))) Z (aC Z Z Z (λw=>by rw[<-A];exact zv d C O0 w))<|M 0 (t:=nI m) Z (aj (bp Z eX cf Z) (pC Z O0))<|M 0 (t:=.elp 0 m) Z (eS (j:=m) Z aJ Z Z Z Z Z (by rw[aA];omega) (ST _))<|M 0 (t:=.sc (.int .u8 ((q.toNat:Nat):Int))) Z (mW (c:=.sc (.int .u8 ((q.toNat:Nat):Int))) (j:=m) (fo:=0) Z Z Z jG (dR hq) F0 (by show 0<1;decide) Z)<|M 1 (t:=.sc (.int .u8 (((q.toNat^^^c.toNat):Nat):Int))) Z (aC Z Z Z (λw=>Lo q.toNat c.toNat q.toNat_lt c.toNat_lt w))<|M 0 (t:=.elp 0 m) Z (eS (j:=m) Z aJ Z Z Z Z Z (by rw[aA];omega) (ST _))<|jc (j:=m) (rs':=[some ⟨5,1,ak X,false⟩]) Z Z Z Z Z F0 (by rw[aA];omega) Z Z Z Z Z ky Z (by rw[<-hX,<-tH (Nat.xor_lt_two_pow (n:=8) q.toNat_lt c.toNat_lt)];rfl)<|E<|H<|dp 0 (bs':=[(30,(bQ L)),(30,(bQ L)),(30,(bQ O)),(30,(bQ O))]) (rs':=[none]) Z Z Z Z ?_;obtain⟨Q,a1⟩:∃d:Nat,IntKind.u64.wrap zt=(d:Nat):=⟨(IntKind.u64.wrap zt).toNat,by rw[IntKind.wrap_u64];omega⟩;have a0:Q%(C+1)<C+1:=RJ _ O0;obtain⟨p,F⟩:∃p,Q%(C+1)=p:=⟨_,Z⟩;rw[F]at a0;obtain⟨k,hk⟩:∃k,(J%2).toNat=k:=⟨_,Z⟩;have V:k<=1:=O0
  obtain⟨P,hP⟩:∃P,p%8*k=P:=⟨_,Z⟩;have a2:P<=p:=by rw[<-hP];exact Q7 (Sz _ V) O0
  obtain⟨Y,hY⟩:∃Y,X.take (C-P)=Y:=⟨_,Z⟩;have a3:Y.length<=C:=by rw[<-hY,Rb];omega
  obtain⟨sy,I⟩:∃x,Y++jv (ft Y)=x:=⟨_,Z⟩;have s:sy.length<=65536:=by rw[<-I,Q4];show Y.length+4<=_;omega
  obtain⟨⟨x2,e2⟩,i⟩:∃p,j2 sy=p:=⟨_,Z⟩;refine am<|M 2 (t:=nI C) Z (aj (fw Z aJ Z) (by simp only[aA,u]))<|M 1 (t:=.sc (.int .u64 ((Q:Nat):Int))) Z (aj (bp Z cf eX Z) (ej a1))<|M 1 (t:=nI C) Z (aj (fw Z aJ Z) (by simp only[aA,u]))<|a8 0 (C+1) Z Z Zy O0<|M 0 (t:=.sc (.int .u64 ((C+1:Nat):Int))) Z (aj (bp Z cf eX Z) (jt O0))<|M 0 (t:=.sc (.int .u64 ((p:Nat):Int))) Z (aC Z Z Z (λw=>by rw[<-F];exact zv Q (C+1) O0 w))<|M 0 (t:=nI p) Z (aj (bp Z eX cf Z) (pC Z O0))<|M 0 (t:=nI (p%8)) Z (aC Z Z Z (λw=>vu p w))<|M 1 (t:=nI k) Z (aC Z Z Z (λw=>by rw[<-hk];exact IV J w))<|aI 0 (t:=nI P) Z Z Zy (pC (by rw[<-hP];exact(Um _ _).symm) O0)<|a8 0 (C-P) Z Z Zy O0<|M 0 (t:=.sl (ak Y)) Z (aj (ef (l:=0) (h:=C-P) Z aJ Z Z ⟨_,Z⟩ (Rg _) (by rw[aA];omega) (aP _)) ((kz _ _).trans (by rw[hY])))<|M 0 (t:=.sl (ak sy)) Z (D Z (by rw[<-I];exact Dh Y O0) Z Z)<|ag 1 Z<|ae<|M 1 Z (D Z (xn s i) Z Z)<|ag 6 Z<|ae<|M 1 Z (D Z (xo s i) Z Z)<|ag 6 Z<|ae<|aI 2 Z Z Zy (B (gL e0 e0))<|ax 1 Z<|N Z Z Z Z (λa=>aN Z Z Z bf Z Z)<|N Z Z Z Z (λa=>aN Z Z Z bf Z Z)<|N Z Z Z Z (λa=>D Z (xp O0 f) (dN (if_pos a) (dN (if_pos a) Z)) Z)<|M 0 Z (cH Z Z Z Z)<|ax 1 Z<|N Z Z Z Z (λa=>K Z Z)<|N Z Z Z Z (λa=>K Z Z)<|N Z Z Z Z (λa=>aj (aC Z (if_pos a) (if_pos a) (λ_=>rfl)) (B (gL e1 e1)))<|M 0 Z (cH Z Z Z Z)<|ax 1 Z<|N Z Z Z Z (λa=>aN Z Z Z bf Z Z)<|N Z Z Z Z (λa=>aN Z Z Z bf Z Z)<|N Z Z Z Z (λa=>D Z (xp o g) (dN (if_pos a) (dN (if_pos a) Z)) Z)<|M 0 Z (cH Z Z Z Z)<|ax 1 Z<|N Z Z Z Z (λa=>K Z Z)<|N Z Z Z Z (λa=>K Z Z)<|N Z Z Z Z (λa=>aj (aC Z (if_pos a) (if_pos a) (λ_=>rfl)) (B (gL e2 e2)))<|M 0 Z (cH Z Z Z Z)<|ax 1 Z<|N Z Z Z Z (λa=>aN Z Z Z bf Z Z)<|N Z Z Z Z (λa=>aN Z Z Z bf Z Z)<|N Z Z Z Z (λa=>D Z (xp s i) (dN (if_pos a) (dN (if_pos a) Z)) Z)<|M 0 Z (cH Z Z Z Z)<|ax 1 Z<|N Z Z Z Z (λa=>D Z Ll Z Z)<|M 0 Z (cH Z Z Z Z)<|ag 1 Z<|aM ⟨Z,B F0,Z⟩ Z
 exact absurd (show 0<C by omega) v
def zw{W:World}{G:Nat->Prop}:∀l:List Int,PT W G (mN l) (flat (l.map jV))
 |[]=>.nil
 |_::l=>.sc _ (zw l)
def LY{W:World}{A:Option Addr}{l:List Int}{c:Nat}(d:At W W.heap.size A (mN l))(i:l.length<=c)(e:c<=9223372036854775807)(j:A=none->c=0):PT W (λ_=>False) [.slice A l.length c] [.sl (l.map jV)]:=by
 cases f:l with
 |nil=>exact .sl0 _ _ j e .nil
 |cons x m=>
  rw[<-f];obtain⟨b,o,rfl,g,a⟩:=d (by rw[f];simp[mN]);exact .sl b o c _ (mN l) _ g (λh=>h) a F (by simpa using i) e (zw l) .nil
end Go.Proofs.YtfoejfohbkmmeaaGreatDoor
namespace Go.Proofs.YtfoejfohbkmmeaaGreatDoor
open Go.ChangeShapes Go.WideShapes Go.ChangeAt Go.RowKit Go.Joins Go.Deep
open Lib renaming hid→J
def Di{H:Type}{enc:TypeId×Value->H}{W:World}{E base:Nat}{k:Nat->Bool}{m:Bool}{v:Value}{d:DataW H}{p:List MemPlace}
  (N:Value.okWide prog W .any E 22 v) (h:DataW.Trod enc prog W base k m 22 v d p):
  ∃(A:Option Addr) (l:List UInt8) (c:Nat),v=.slice A l.length c/\At W W.heap.size A (bZ l)/\l.length<=c/\c<=9223372036854775807/\(A=none->c=0):=by
 obtain⟨Q,len,r,rfl⟩:=okWide_slice underlying22 N;obtain⟨x,I⟩:=h;rcases open_ints underlying22 underlying5 xO I with⟨g,_⟩|⟨a,D,w,i,g,_,K,s,P,_,f,t⟩
 ·simp[Value.cells]at g;obtain⟨rfl,rfl,rfl⟩:=g;exact⟨none,[],0,Z,At.nil _ _ _,F,F,λ_=>rfl⟩
 simp[Value.cells]at g;obtain⟨rfl,rfl,rfl⟩:=g;have L:len<=i.length:=by rw[P];split<;>omega
 have e:((i.take len).map λn=>UInt8.ofNat n.toNat).length=len:=by simp;omega
 refine⟨some a,(i.take len).map λn=>UInt8.ofNat n.toNat,r,by rw[e],λM=>?_,by rw[e];exact K,xN s,λe=>by cases e⟩;rw[eR,e]at M;have y:=f 0 O;have B:a.spot=none:=by
  have:=World.cell?_spot y;simpa[Addr.add]using this
 refine⟨a.block,a.off,by cases a;simp_all,?_,λj u C=>?_⟩
 ·have:=World.block_lt_of_cell? _ _ y;simpa[block_add]using this
 have J:j<len:=by
  have:=(Q6.1 C).1;rwa[eR,e]at this
 have z:=f j O;have G:a.add j=⟨a.block,a.off+j,none⟩:=by
  obtain⟨b,o,S⟩:=a;simp only at B;subst B;exact add_plain b o j
 rw[G]at z;rw[z,<-C];have q:j<i.length:=O
 have s:=t i[j] (R6 q);have R:0<=i[j]/\i[j]<=255:=by simpa[Lit.wf,IntKind.min,IntKind.max,IntKind.signed,IntKind.bits]using s
 simp only[bZ,RK,R7,J,if_true,Q2 q,Sr,List.getD,RH];congr 2;have:(UInt8.ofNat i[j].toNat).toNat=i[j].toNat:=by simp[Tl];omega
 rw[this];omega
def zx{W:World}{G:Nat->Prop}:∀l:List UInt8,PT W G (bZ l) (flat (ak l))
 |[]=>.nil
 |_::l=>.sc _ (zx l)
def IW{W:World}{A:Option Addr}{l:List UInt8}{c:Nat}(d:At W W.heap.size A (bZ l))(i:l.length<=c)(e:c<=9223372036854775807)(j:A=none->c=0):PT W (λ_=>False) [.slice A l.length c] [.sl (ak l)]:=by
 cases f:l with
 |nil=>exact .sl0 _ _ j e .nil
 |cons x m=>
  rw[<-f];obtain⟨b,o,rfl,g,a⟩:=d (by rw[f];simp[bZ]);exact .sl b o c _ (bZ l) _ g (λh=>h) a (by rw[aA]) (by rw[aA];exact i) e (zx l) .nil
def Dj{W:World}{A f:Option Addr}{b:List UInt8}{l:List Int}{c a:Nat}{n zt x:Int}(i:At W W.heap.size A (bZ b))(s:b.length<=c)(q:c<=9223372036854775807)(t:A=none->c=0)(d:At W W.heap.size f (mN l))(k:l.length<=a)(j:a<=9223372036854775807)(m:f=none->a=0)(w:0<=x/\x<=255)(o:Env W):
  Calls prog 7 #[.slice A b.length c,.slice f l.length a,.int .i64 n,.int .u8 x,.int .i64 zt] W (Na W):=by
 obtain⟨e,rfl⟩:∃e:UInt8,x=((e.toNat:Nat):Int):=⟨UInt8.ofNat x.toNat,by simp;omega⟩;have h:=(Fc b l n zt e O).2 (λ_=>False) W [.slice A b.length c,.slice f l.length a,.int .i64 n,.int .u8 ((e.toNat:Nat):Int),.int .i64 zt] o (λg r=>r.elim) ((IW i s q t).cons ((LY d k j m).cons (.sc _ (.sc _ (.sc _ .nil)))));refine h.mono ?_;rintro en w' ⟨v,rfl,u,p⟩;cases u with
 |sc _ _=>exact⟨Z,p⟩
