import Derived.Test.YtfoejfohbkmmeaaGreatDoorB38
import Derived.Test.YtfoejfohbkmmeaaGreatDoorB00
import Derived.Test.YtfoejfohbkmmeaaGreatDoorB06
import Derived.Test.YtfoejfohbkmmeaaGreatDoorB36
import Derived.Test.YtfoejfohbkmmeaaGreatDoorB37
set_option maxRecDepth 100000
set_option maxHeartbeats 4000000
namespace Go.Proofs.YtfoejfohbkmmeaaGreatDoor
open Go.RowKit
open Lib renaming hid→J
theorem I5(l:List V)(b:l.length<=65536)(a:l.all V.ok=true)(d:∀v∈l,v.rng)(c:∀v∈l,v.s.size<=9223372036854775807):Ct 58 [.sl (l.map V.tree)] (.sl (am (d7 l))):=(FE l b a d c).ct
theorem AP{q:Rat}(h:q∈iJ):mS q=n3 q:=by
 unfold iJ at h;simp only[OC,Qf,or_false]at h;rcases h with rfl|rfl|rfl|rfl|rfl|rfl|rfl|rfl<;>decide+kernel
def AQ(t:Tp):List UInt8:=df (d7 t.vals)++mS t.prob
theorem CR{r:Rel}(h:Good r):r.tups.flatMap AQ=r.tups.flatMap ka:=by
 have:∀l:List Tp,(∀t∈l,t∈r.tups)->l.flatMap AQ=l.flatMap ka:=by
  intro l;induction l with
  |nil=>intro _;rfl
  |cons t l ih=>
   intro a;rw[PZ,PZ,ih fun x b=>a x (OX _ b)];unfold AQ ka;rw[AP (h.prob t (a t (OR ..)))]
 exact this _ fun _ h=>h
theorem FF(q:Rat)(h:Fit 262144 q):(mS q).length<=2097175:=by
 have f:=nX q.num.natAbs;have c:=nX q.den;have a:=h.num;have e:=h.den;have d:=gX (fD q.num.natAbs) (by omega);have b:=gX (fD q.den) (by omega);unfold mS;rw[Oi,Oj];omega
theorem CS{r:Rel}(b:Good r):Ct 19 [r.tree] (.tup [.sl (am (eY r)),iT 0]):=by
 refine Ct.of (n:=97) Tryz.func19 Z Z Z Z Z fun w0 G0=>?_
 refine ab<|ae<|aa 1 Z<|ag (t:=.sl []) Z Z Z (bI (.inr Z) bQ)<|aa 1 Z<|af<|ab<|ab ?_;obtain⟨⟨T,S⟩,⟨U,a1⟩,D⟩:=AJ b;have R:=jk r.sch.name;have J:=gX r.sch.name.data.toList (by omega);have W:=jJ r.sch.cert;have K:=dM (n:=r.sch.cols.length) (by omega);refine ae<|aa 1 Z<|ag Z Z Z (ak Z (mA r b.fit.1 b.str) Z Z)<|aa 1 Z<|af<|ab<|ae<|aa 1 Z<|ag (t:=bT ((bD r) !=0)) Z Z Z (ai Z Z Z Zy)<|af<|aH Z (fun s=>?_) (fun s=>?_)
 ·exact absurd b.valid (by simpa using s)
 refine ar<|ab<|eH (sl':=[(0,.agg (a7 r)),(1,.box 0 0),(2,.sl []),(3,iT 0),(4,iT (bD r)),(12,bT ((bD r) !=0))]) ⟨Z,⟨Z,⟨Z,⟨Z,⟨Z,⟨Z,trivial⟩⟩⟩⟩⟩⟩<|di (fu:=5) [some 14,some 15,some 16,some 17,some 18,some 19,some 20,some 21,some 22,some 23,some 24,some 5] [4,10] [.box 0 0,.box 0 0,sT r.sch.name,.sl (am r.sch.name.data.toList),.own 0,.box 0 0,.box 0 1,bT r.sch.cert,.sc (.int .u64 (((if r.sch.cert then 1 else 0):Nat):Int)),.sl (am (fM r.sch.cert)),.own 0,.own 0] [⟨[4],[(0,.agg (a7 r)),(1,.box 0 0),(2,.sl []),(3,iT 0),(4,iT (bD r)),(12,bT ((bD r) !=0))],[(30,(a7 r))],[some ⟨5,1,am (df r.sch.name.data.toList),false⟩],[.box 0 0,.box 0 0,sT r.sch.name,.sl (am r.sch.name.data.toList),.own 0,.box 0 0,.box 0 1,bT r.sch.cert,.sc (.int .u64 (((if r.sch.cert then 1 else 0):Nat):Int)),.sl (am (fM r.sch.cert)),.own 0,.own 0]⟩] ⟨[10,4],[(0,.agg (a7 r)),(1,.box 0 0),(2,.sl []),(3,iT 0),(4,iT (bD r)),(12,bT ((bD r) !=0))],[(30,(a7 r))],[some ⟨5,1,am ((df r.sch.name.data.toList)++fM r.sch.cert),false⟩],[.box 0 0,.box 0 0,sT r.sch.name,.sl (am r.sch.name.data.toList),.any,.box 0 0,.box 0 1,bT r.sch.cert,.sc (.int .u64 (((if r.sch.cert then 1 else 0):Nat):Int)),.sl (am (fM r.sch.cert)),.own 0,.own 0]⟩ (by kernel_rfl) Z (by kernel_rfl) (by kernel_rfl) (by kernel_rfl) Z Z ?_ ?_
 ·refine .opp [] (.okk Z (aq Z Z dl Z)<|.fin)<|.opp [0] (.okk Z (aq Z Z xT Z)<|.fin)<|.opp [1] (.okk Z (ay Z Z Z jH Z)<|.fin)<|.opp [2] (.okk Z (nV Z Z (by omega))<|.fin)<|.opp [3] (.wr 1 id (.own 0) (by kernel_rfl) Z Z (FB Z Z Z (qq _ (by omega)) Z Z Z Z) Z Z Z Z (.k Z (.k Z (.k Z (.k Z (.i Z (.k Z (.k Z (.k Z (.k Z (.k Z (.k Z (.k Z .nil))))))))))))<|.fin)<|.opp [] (.okk Z (aq Z Z dl Z)<|.okk Z (aq Z Z dl Z)<|.fin)<|.opp [5] (.okk Z (aq Z Z fq Z)<|.okk Z (aq Z Z fq Z)<|.fin)<|.opp [6] (.okk Z (ay Z Z Z ej Z)<|.okk Z (ay Z Z Z ej Z)<|.fin)<|.opp [7] (.no (by kernel_rfl)<|.okk Z (ak Z (I2 _) Z Z)<|.fin)<|.opp [8] (.no (by kernel_rfl)<|.okk Z (ak Z ((lF _ (by split<;>decide)).ct) Z Z)<|.fin)<|.opp [4,9] (.no (by kernel_rfl)<|.wr 2 (fi 0) (.own 0) (by kernel_rfl) Z Z (c7 Z Z Z aT Z Z Z Z (aV _) (AllC.map _ _ fun _=>rfl) (AllC.map _ _ fun _=>rfl) (by simp only[aC,Oj,Oi,Ou];omega) Z Z (by simp only[bd];rfl)) Z Z Z Z (.k Z (.k Z (.k Z (.k Z (.k Z (.k Z (.k Z (.k Z (.k Z (.k Z (.i Z (.d (by kernel_rfl) .nil))))))))))))<|.fin)<|.opp [10] (.nos 2<|.okk Z (bE Z Z)<|.nil)<|.nil
 refine ab<|ae<|aa 4 Z<|ag (t:=nI r.sch.cols.length) Z Z Z (ah (aW Z bh Z) (by simp only[Ol]))<|ag (t:=.sc (.int .u64 ((r.sch.cols.length:Nat):Int))) Z Z Z (ah (bM Z dQ cj Z) (pX (by omega)))<|ag Z Z Z (ak Z ((lF _ (by omega)).ct) Z Z)<|a8 (bs':=[(30,(a7 r))]) (rs':=[some ⟨5,1,am (((df r.sch.name.data.toList)++fM r.sch.cert)++c6 r.sch.cols.length),false⟩]) Z Z Z Z aT Z Z Z Z (aV _) (AllC.map _ _ fun _=>rfl) (AllC.map _ _ fun _=>rfl) (by simp only[aC,Oj,Oi,Ou];omega) Z Z Z (by simp only[bd];rfl)<|aa 1 Z<|af<|ab<|ab<|aj 1 Z<|aA<|aO (fun w z=>∃(i:Nat) (a:List UInt8),(i<=r.sch.cols.length/\a.length<=100+i*100/\a++(r.sch.cols.drop i).flatMap lD=qm r.sch++r.sch.cols.flatMap lD)/\w=r.sch.cols.length-i/\z=⟨97,[(1,.box 0 0),(5,.own 0),(6,nI i)],[(30,(a7 r))],[some ⟨5,1,am a,false⟩]⟩) 1 1 ⟨0,(((df r.sch.name.data.toList)++fM r.sch.cert)++c6 r.sch.cols.length),⟨OA _,by simp only[Oj];omega,by unfold qm;simp⟩,Z,Z⟩ .rf ?_;rintro w z ⟨i,a,⟨hi,F,g⟩,rfl,rfl⟩;refine ab<|ab<|ae<|aa 4 Z<|ag (t:=nI r.sch.cols.length) Z Z Z (ah (aW Z bh Z) (by simp only[Ol]))<|ag (t:=bT (decide (i<r.sch.cols.length))) Z Z Z (ah (ai Z Z Z Zy) (au (gK i r.sch.cols.length)))<|af<|aD Z (fun y=>?_) (fun y=>?_)
 ·obtain⟨c,o⟩:∃c,r.sch.cols[i]? =some c:=⟨_,Og y⟩;obtain⟨I,B,u⟩:=D c (Om o);rw[lE o]at g;have M:=jk c.name;have a2:=gX c.name.data.toList (by omega);have H:=dM (n:=c.ty.toNat) (by omega);have X:=jJ c.key;refine ar<|ab<|aA<|ab<|ae<|aa 4 Z<|ag (t:=.ref [sT c.name,iT c.ty,bT c.key]) Z Z Z (aK (Col.tree c) Z bh Z Z Z (aX (f:=Col.tree) o) (ei _) Z)<|aa 3 Z<|af<|eH (sl':=[(1,.box 0 0),(5,.own 0),(6,nI i),(38,bT (decide (i<r.sch.cols.length))),(7,.box 1 0)]) ⟨Z,⟨Z,⟨Z,⟨Z,⟨Z,trivial⟩⟩⟩⟩⟩<|di (fu:=6) [some 47,some 48,some 49,some 50,some 51,some 52,some 53,some 54,some 55,some 56,some 57,some 58,some 59,some 60,some 61,some 62,some 5] [5,10,15] [.own 0,.box 1 0,sT c.name,.sl (am c.name.data.toList),.sl (am (df c.name.data.toList)),.own 0,.box 1 1,iT c.ty,.sc (.int .u64 ((c.ty.toNat:Nat):Int)),.sl (am (c6 c.ty.toNat)),.own 0,.box 1 2,bT c.key,.sc (.int .u64 (((if c.key then 1 else 0):Nat):Int)),.sl (am (fM c.key)),.own 0,.own 0] [⟨[5],[(1,.box 0 0),(5,.any),(6,nI i),(38,bT (decide (i<r.sch.cols.length))),(7,.box 1 0)],[(30,(a7 r)),(58,[sT c.name,iT c.ty,bT c.key])],[some ⟨5,1,am (a++df c.name.data.toList),false⟩],[.any,.box 1 0,sT c.name,.sl (am c.name.data.toList),.sl (am (df c.name.data.toList)),.own 0,.box 1 1,iT c.ty,.sc (.int .u64 ((c.ty.toNat:Nat):Int)),.sl (am (c6 c.ty.toNat)),.own 0,.box 1 2,bT c.key,.sc (.int .u64 (((if c.key then 1 else 0):Nat):Int)),.sl (am (fM c.key)),.own 0,.own 0]⟩,⟨[10,5],[(1,.box 0 0),(5,.any),(6,nI i),(38,bT (decide (i<r.sch.cols.length))),(7,.box 1 0)],[(30,(a7 r)),(58,[sT c.name,iT c.ty,bT c.key])],[some ⟨5,1,am ((a++df c.name.data.toList)++c6 c.ty.toNat),false⟩],[.any,.box 1 0,sT c.name,.sl (am c.name.data.toList),.sl (am (df c.name.data.toList)),.any,.box 1 1,iT c.ty,.sc (.int .u64 ((c.ty.toNat:Nat):Int)),.sl (am (c6 c.ty.toNat)),.own 0,.box 1 2,bT c.key,.sc (.int .u64 (((if c.key then 1 else 0):Nat):Int)),.sl (am (fM c.key)),.own 0,.own 0]⟩] ⟨[15,10,5],[(1,.box 0 0),(5,.any),(6,nI i),(38,bT (decide (i<r.sch.cols.length))),(7,.box 1 0)],[(30,(a7 r)),(58,[sT c.name,iT c.ty,bT c.key])],[some ⟨5,1,am (((a++df c.name.data.toList)++c6 c.ty.toNat)++fM c.key),false⟩],[.any,.box 1 0,sT c.name,.sl (am c.name.data.toList),.sl (am (df c.name.data.toList)),.any,.box 1 1,iT c.ty,.sc (.int .u64 ((c.ty.toNat:Nat):Int)),.sl (am (c6 c.ty.toNat)),.any,.box 1 2,bT c.key,.sc (.int .u64 (((if c.key then 1 else 0):Nat):Int)),.sl (am (fM c.key)),.own 0,.own 0]⟩ (by kernel_rfl) Z (by kernel_rfl) (by kernel_rfl) (by kernel_rfl) Z Z ?_ ?_
  ·refine .opp [] (.okk Z (av Z Z)<|.fin)<|.opp [] (.okk Z (aq Z Z mi Z)<|.fin)<|.opp [1] (.okk Z (ay Z Z Z jH Z)<|.fin)<|.opp [2] (.okk Z (nV Z Z (by omega))<|.fin)<|.opp [3] (.okk Z (ak Z ((qq _ (by omega)).ct) Z Z)<|.fin)<|.opp [0,4] (.wr 1 (fi 0) (.own 0) (by kernel_rfl) Z Z (c7 Z Z Z aT Z Z Z Z (aV _) (AllC.map _ _ fun _=>rfl) (AllC.map _ _ fun _=>rfl) (by simp only[aC,Oj,Oi,Ou];omega) Z Z (by simp only[bd];rfl)) Z Z Z Z (.k Z (.k Z (.k Z (.k Z (.k Z (.i Z (.k Z (.k Z (.k Z (.k Z (.d (by kernel_rfl) (.k Z (.k Z (.k Z (.k Z (.d (by kernel_rfl) (.d (by kernel_rfl) .nil)))))))))))))))))<|.fin)<|.opp [] (.okk Z (aq Z Z ft Z)<|.okk Z (aq Z Z ft Z)<|.fin)<|.opp [6] (.okk Z (ay Z Z Z eQ Z)<|.okk Z (ay Z Z Z eQ Z)<|.fin)<|.opp [7] (.okk Z (ah (bM Z dQ cj Z) (Mq B u))<|.okk Z (ah (bM Z dQ cj Z) (Mq B u))<|.fin)<|.opp [8] (.no (by kernel_rfl)<|.okk Z (ak Z ((lF _ (by omega)).ct) Z Z)<|.fin)<|.opp [5,9] (.no (by kernel_rfl)<|.wr 2 (fi 0) (.own 0) (by kernel_rfl) Z Z (c7 Z Z Z aT Z Z Z Z (aV _) (AllC.map _ _ fun _=>rfl) (AllC.map _ _ fun _=>rfl) (by simp only[aC,Oj,Oi,Ou];omega) Z Z (by simp only[bd];rfl)) Z Z Z Z (.k Z (.k Z (.k Z (.k Z (.k Z (.k Z (.k Z (.k Z (.k Z (.k Z (.i Z (.k Z (.k Z (.k Z (.k Z (.d (by kernel_rfl) (.d (by kernel_rfl) .nil)))))))))))))))))<|.fin)<|.opp [] (.okk Z (aq Z Z iz Z)<|.okk Z (aq Z Z iz Z)<|.okk Z (aq Z Z iz Z)<|.fin)<|.opp [11] (.okk Z (ay Z Z Z ej Z)<|.okk Z (ay Z Z Z ej Z)<|.okk Z (ay Z Z Z ej Z)<|.fin)<|.opp [12] (.nos 2<|.okk Z (ak Z (I2 _) Z Z)<|.fin)<|.opp [13] (.nos 2<|.okk Z (ak Z ((lF _ (by split<;>decide)).ct) Z Z)<|.fin)<|.opp [10,14] (.nos 2<|.wr 3 (fi 0) (.own 0) (by kernel_rfl) Z Z (c7 Z Z Z aT Z Z Z Z (aV _) (AllC.map _ _ fun _=>rfl) (AllC.map _ _ fun _=>rfl) (by simp only[aC,Oj,Oi,Ou];omega) Z Z (by simp only[bd];rfl)) Z Z Z Z (.k Z (.k Z (.k Z (.k Z (.k Z (.k Z (.k Z (.k Z (.k Z (.k Z (.k Z (.k Z (.k Z (.k Z (.k Z (.i Z (.d (by kernel_rfl) .nil)))))))))))))))))<|.fin)<|.opp [15] (.nos 3<|.okk Z (bE Z Z)<|.nil)<|.nil
  refine ae<|aa 1 Z<|ag (t:=nI (i+1)) Z Z Z (ah (ai Z Z Z Zy) (bp (by omega)))<|aa 1 Z<|af<|⟨_,_,?_,⟨i+1,(((a++df c.name.data.toList)++c6 c.ty.toNat)++fM c.key),?_,Z,Z⟩,.rf⟩
  ·omega
  exact⟨by omega,by simp only[Oj];omega,by rw[<-g];unfold lD;simp⟩
 have E:a=qm r.sch++r.sch.cols.flatMap lD:=by rw[<-g,Ov (by omega)];simp
 have O:=dM (n:=r.tups.length) (by have:=b.len;omega);refine aQ<|ab<|ae<|aa 3 Z<|ag (t:=nI r.tups.length) Z Z Z (ah (aW Z aM Z) (by simp only[Ol]))<|ag (t:=.sc (.int .u64 ((r.tups.length:Nat):Int))) Z Z Z (ah (bM Z dQ cj Z) (pX (by have:=b.len;omega)))<|ag Z Z Z (ak Z ((lF _ (by have:=b.len;omega)).ct) Z Z)<|a8 (bs':=[(30,(a7 r))]) (rs':=[some ⟨5,1,am (a++c6 r.tups.length),false⟩]) Z Z Z Z aT Z Z Z Z (aV _) (AllC.map _ _ fun _=>rfl) (AllC.map _ _ fun _=>rfl) (by simp only[aC,Oj,Oi,Ou];omega) Z Z Z (by simp only[bd];rfl)<|aa 1 Z<|af<|ab<|ab<|aj 1 Z<|aA<|aO (fun w z=>∃(j:Nat) (m:List UInt8),(j<=r.tups.length/\m.length<=1000+j*3000000/\m++(r.tups.drop j).flatMap AQ=iD r)/\w=r.tups.length-j/\z=⟨97,[(1,.box 0 0),(5,.own 0),(8,nI j)],[(30,(a7 r))],[some ⟨5,1,am m,false⟩]⟩) 1 1 ⟨0,(a++c6 r.tups.length),⟨OA _,by simp only[Oj];omega,by rw[PQ,CR b,E];unfold iD;simp⟩,Z,Z⟩ .rf ?_;rintro w z ⟨j,m,⟨hj,G,e⟩,rfl,rfl⟩;have P:=b.len;refine ab<|ab<|ae<|aa 3 Z<|ag (t:=nI r.tups.length) Z Z Z (ah (aW Z aM Z) (by simp only[Ol]))<|ag (t:=bT (decide (j<r.tups.length))) Z Z Z (ah (ai Z Z Z Zy) (au (gK j r.tups.length)))<|af<|aD Z (fun A=>?_) (fun A=>?_)
 ·obtain⟨t,h⟩:∃t,r.tups[j]? =some t:=⟨_,Og A⟩;have l:=Om h;obtain⟨C,L,N⟩:=AL b l;have x:=(b.fit.1.tup t l).1.p;rw[lE h]at e;have Y:=gX (d7 t.vals) (by omega);have a0:=FF t.prob x;refine ar<|ab<|aA<|eH (sl':=[(1,.box 0 0),(5,.own 0),(8,nI j),(74,bT (decide (j<r.tups.length)))]) ⟨Z,⟨Z,⟨Z,⟨Z,trivial⟩⟩⟩⟩<|di (fu:=8) [some 77,some 78,some 79,some 80,some 81,some 82,some 83,some 84,some 85,some 86,some 87,some 88,some 89,some 90,some 91,some 92,some 93,some 94,some 5] [9,17] [.own 0,.box 0 3,.sl (r.tups.map Tp.tree),nI j,.ref (bY t),.ref (bY t),.sl (t.vals.map V.tree),.sl (am (d7 t.vals)),.sl (am (df (d7 t.vals))),.own 0,.box 0 3,.sl (r.tups.map Tp.tree),nI j,.ref (bY t),.ref (aZ t.prob),.agg (aZ t.prob),.sl (am (mS t.prob)),.own 0,.own 0] [⟨[9],[(1,.box 0 0),(5,.any),(8,nI j),(74,bT (decide (j<r.tups.length)))],[(30,(a7 r))],[some ⟨5,1,am (m++df (d7 t.vals)),false⟩],[.any,.box 0 3,.sl (r.tups.map Tp.tree),nI j,.ref (bY t),.ref (bY t),.sl (t.vals.map V.tree),.sl (am (d7 t.vals)),.sl (am (df (d7 t.vals))),.own 0,.box 0 3,.sl (r.tups.map Tp.tree),nI j,.ref (bY t),.ref (aZ t.prob),.agg (aZ t.prob),.sl (am (mS t.prob)),.own 0,.own 0]⟩] ⟨[17,9],[(1,.box 0 0),(5,.any),(8,nI j),(74,bT (decide (j<r.tups.length)))],[(30,(a7 r))],[some ⟨5,1,am ((m++df (d7 t.vals))++mS t.prob),false⟩],[.any,.box 0 3,.sl (r.tups.map Tp.tree),nI j,.ref (bY t),.ref (bY t),.sl (t.vals.map V.tree),.sl (am (d7 t.vals)),.sl (am (df (d7 t.vals))),.any,.box 0 3,.sl (r.tups.map Tp.tree),nI j,.ref (bY t),.ref (aZ t.prob),.agg (aZ t.prob),.sl (am (mS t.prob)),.own 0,.own 0]⟩ (by kernel_rfl) Z (by kernel_rfl) (by kernel_rfl) (by kernel_rfl) Z Z ?_ ?_
  ·refine .opp [] (.okk Z (av Z Z)<|.fin)<|.opp [] (.okk Z (aq Z Z a6 Z)<|.fin)<|.opp [1] (.okk Z (ay Z Z Z bz Z)<|.fin)<|.opp [] (.okk Z (av Z Z)<|.fin)<|.opp [2,3] (.okk Z (aK (Tp.tree t) Z aM Z Z Z (aX (f:=Tp.tree) h) (bS _) Z)<|.fin)<|.opp [4] (.okk Z (bu Z Z bW Z)<|.fin)<|.opp [5] (.okk Z (be Z Z cJ Z)<|.fin)<|.opp [6] (.okk Z (ak Z (I5 t.vals (by omega) C (fun v Q=>b.rng t l v Q) (b.str t l)) Z Z)<|.fin)<|.opp [7] (.okk Z (ak Z ((qq _ (by omega)).ct) Z Z)<|.fin)<|.opp [0,8] (.wr 1 (fi 0) (.own 0) (by kernel_rfl) Z Z (c7 Z Z Z aT Z Z Z Z (aV _) (AllC.map _ _ fun _=>rfl) (AllC.map _ _ fun _=>rfl) (by simp only[aC,Oj,Oi,Ou];omega) Z Z (by simp only[bd];rfl)) Z Z Z Z (.k Z (.k Z (.k Z (.k Z (.k Z (.k Z (.k Z (.k Z (.k Z (.i Z (.k Z (.k Z (.k Z (.k Z (.k Z (.k Z (.k Z (.d (by kernel_rfl) (.d (by kernel_rfl) .nil)))))))))))))))))))<|.fin)<|.opp [] (.okk Z (aq Z Z a6 Z)<|.okk Z (aq Z Z a6 Z)<|.fin)<|.opp [10] (.okk Z (ay Z Z Z bz Z)<|.okk Z (ay Z Z Z bz Z)<|.fin)<|.opp [] (.okk Z (av Z Z)<|.okk Z (av Z Z)<|.fin)<|.opp [11,12] (.okk Z (aK (Tp.tree t) Z aM Z Z Z (aX (f:=Tp.tree) h) (bS _) Z)<|.okk Z (aK (Tp.tree t) Z aM Z Z Z (aX (f:=Tp.tree) h) (bS _) Z)<|.fin)<|.opp [13] (.okk Z (bu Z Z d5 Z)<|.okk Z (bu Z Z d5 Z)<|.fin)<|.opp [14] (.okk Z (cT Z Z aI Z Z)<|.okk Z (cT Z Z aI Z Z)<|.fin)<|.opp [15] (.no (by kernel_rfl)<|.okk Z (ak Z (I3 t.prob x) Z Z)<|.fin)<|.opp [9,16] (.no (by kernel_rfl)<|.wr 2 (fi 0) (.own 0) (by kernel_rfl) Z Z (c7 Z Z Z aT Z Z Z Z (aV _) (AllC.map _ _ fun _=>rfl) (AllC.map _ _ fun _=>rfl) (by simp only[aC,Oj,Oi,Ou];omega) Z Z (by simp only[bd];rfl)) Z Z Z Z (.k Z (.k Z (.k Z (.k Z (.k Z (.k Z (.k Z (.k Z (.k Z (.k Z (.k Z (.k Z (.k Z (.k Z (.k Z (.k Z (.k Z (.i Z (.d (by kernel_rfl) .nil)))))))))))))))))))<|.fin)<|.opp [17] (.nos 2<|.okk Z (bE Z Z)<|.nil)<|.nil
  refine ae<|aa 1 Z<|ag (t:=nI (j+1)) Z Z Z (ah (ai Z Z Z Zy) (bp (by omega)))<|aa 1 Z<|af<|⟨_,_,?_,⟨j+1,((m++df (d7 t.vals))++mS t.prob),?_,Z,Z⟩,.rf⟩
  ·omega
  exact⟨by omega,by simp only[Oj];omega,by rw[<-e];unfold AQ;simp⟩
 have q:m=iD r:=by rw[<-e,Ov (by omega)];simp
 refine dI 0 (bs':=[(30,(a7 r))]) (rs':=[none]) Z Z Z Z<|aQ<|ab<|ae<|aa 1 Z<|ag Z Z Z (ak Z (CP m (by omega)) Z Z)<|aa 2 Z<|af<|ax<|⟨.inr Z,_,.cons Z (.cons Z .nil),by rw[q];rfl,Z⟩
def Jw(n:Nat):List UInt8:=if n=0 then []else Jw (n/256)++[UInt8.ofNat (n%256)]
termination_by n
decreasing_by omega
theorem uM{n:Nat}(h:n≠0):Jw n=Jw (n/256)++[UInt8.ofNat (n%256)]:=by rw[Jw,if_neg h]
theorem lG:Jw 0=[]:=by rw[Jw,if_pos Z]
theorem I6(n:Nat):d8 (Jw n)=n:=by
 induction n using Nat.strongRecOn with
 |ind n ih=>
  by_cases h:n=0
  ·subst h;rw[lG];rfl
  rw[uM h,lc,ih _ (by omega),qk (by omega)];omega
theorem I7(n:Nat)(h:n≠0):∃c l,Jw n=c::l/\c.toNat≠0:=by
 induction n using Nat.strongRecOn with
 |ind n ih=>
  rw[uM h];by_cases a:n/256=0
  ·rw[a,lG];exact⟨_,[],Z,by rw[qk (by omega)];omega⟩
  obtain⟨c,l,e,b⟩:=ih _ (by omega) a;rw[e];exact⟨c,l++[_],Z,b⟩
theorem N9(c:UInt8):UInt8.ofNat c.toNat=c:=Qu.1 (qk c.toNat_lt)
theorem Mx(l:List UInt8)(h:l=[]\/∃c r,l=c::r/\c.toNat≠0):l=Jw (d8 l):=by
 obtain⟨m,b⟩:∃m,l.length=m:=⟨_,rfl⟩;induction m generalizing l with
 |zero=>
  have:l=[]:=OB b;subst this;exact lG.symm
 |succ m ih=>
  rcases List.eq_nil_or_concat l with rfl|⟨r,d,rfl⟩
  ·simp at b
  rw[List.concat_eq_append]at h b⊢;have j:r=[]\/∃c t,r=c::t/\c.toNat≠0:=by
   cases r with
   |nil=>exact .inl Z
   |cons c t=>
    rcases h with h|⟨o,n,e,a⟩
    ·simp at h
    rw[PD]at e;injection e with k p
    exact .inr ⟨c,t,Z,k▸a⟩
  have q:=d.toNat_lt;have e:=ih r j (by simpa using b);rw[lc];have i:d8 r*256+d.toNat≠0:=by
   intro i;have g:d.toNat=0:=by omega
   have f:d8 r=0:=by omega
   rw[f,lG]at e;subst e;rcases h with h|⟨o,n,e,a⟩
   ·simp at h
   simp only[Py,Q8]at e;rw[<-e.1]at a;exact a g
  rw[uM i,show(d8 r*256+d.toNat)/256=d8 r by omega,show(d8 r*256+d.toNat)%256=d.toNat by omega,<-e,N9]
theorem I8(q:Nat):(4294967296:Nat)^q=256^(4*q):=by rw[QG]
theorem yl:∀(q n:Nat),(az n).getD q 0=n/4294967296^q%4294967296
 |0,n=>by
  by_cases h:n=0
  ·subst h;rfl
  rw[eO h];simp
 |q+1,n=>by
  by_cases h:n=0
  ·subst h;simp[f4]
  rw[eO h,SF,yl q,PR,OO,OF 4294967296]
theorem KX(n i:Nat):(az n).getD (i/4) 0/2^(i%4*8)%256=n/256^i%256:=by
 rw[yl,I8];have e:256^i=256^(4*(i/4))*256^(i%4):=by rw[<-PN];congr 1;omega
 rw[e,<-PR];generalize n/256^(4*(i/4))=m;have h:i%4=0\/i%4=1\/i%4=2\/i%4=3:=by omega
 rcases h with h|h|h|h<;>rw[h]
 ·show m%4294967296/1%256=m/1%256;omega
 ·show m%4294967296/256%256=m/256%256;omega
 ·show m%4294967296/65536%256=m/65536%256;omega
 show m%4294967296/16777216%256=m/16777216%256;omega
def KY(n sz:Nat):List UInt8:=(List.range sz).map fun j=>UInt8.ofNat (n/256^(sz-1-j)%256)
theorem I9(n sz:Nat):KY n (sz+1)=KY (n/256) sz++[UInt8.ofNat (n%256)]:=by
 unfold KY;rw[List.range_succ,PE];congr 1
 ·refine QK fun j a=>?_
  have a:=Qs.1 a;rw[PR,show 256*256^(sz-1-j)=256^(sz+1-1-j) by rw[OF,<-OO];congr 1;omega]
 simp
theorem AR:∀(sz n:Nat),d8 (KY n sz)=n%256^sz
 |0,n=>by simp[KY,d8,Sm]
 |sz+1,n=>by
  rw[I9,lc,AR sz,qk (by omega),OO,OF (256^sz) 256,Nat.mod_mul,OF 256 (n/256%256^sz)];omega
theorem wS(n sz:Nat):∀(k:Nat) (l:List UInt8),k<=l.length->∀j,(qi n sz k l)[j]? =if j<k then some (UInt8.ofNat ((az n).getD ((sz-1-j)/4) 0/2^((sz-1-j)%4*8)%256))else l[j]?
 |0,l,_,j=>by rw[qi,if_neg (by omega)]
 |k+1,l,h,j=>by
  rw[qi,wS n sz k _ (by rw[O4];omega) j];by_cases b:j<k
  ·rw[if_pos b,if_pos (by omega)]
  rw[if_neg b];by_cases a:j=k
  ·subst a;rw[if_pos (by omega),PA (by omega)]
  rw[if_neg (by omega),Pp (fun e=>a e.symm)]
theorem Ja(n:Nat):mI n=KY n ((bP n+7)/8):=by
 unfold mI KY;generalize (bP n+7)/8=sz;refine QT fun j=>?_
 rw[wS n sz sz _ (by simp) j,O2];by_cases h:j<sz
 ·rw[if_pos h,List.getElem?_range h,PG,KX]
 rw[if_neg h,Pi (by simpa using h),Pi (by simpa using h)];rfl
theorem uN{n:Nat}(h:n≠0):2^(bP n-1)<=n/\n<2^bP n/\1<=bP n:=by
 have s:0<(az n).length:=by
  rcases Pg (az n).length with d|d
  ·exact absurd (b6.1 d) h
  exact d
 obtain⟨L,c⟩:∃L,(az n).length=L+1:=⟨(az n).length-1,by omega⟩;have f:=cf (az n) (cE n);rw[aS,c]at f;have i:=nG h;have e:bP n=32*L+Lib.bitLen ((az n).getD L 0):=by unfold bP;rw[if_neg h,c];simp
 rw[c,QP]at i;have g:=yl L n;have m:n/4294967296^L<4294967296:=by
  rw[Pr (Pw (by decide)),OF,<-OO];exact f
 rw[OY m]at g;rw[g]at i e;have j:(n/4294967296^L)<2^64:=Nat.lt_trans m (by decide);obtain⟨p,k,o⟩:=Lib.bitLenAux_bounds 64 _ j i;have r:Lib.bitLen (n/4294967296^L)=Lib.bitLenAux 64 (n/4294967296^L):=rfl;rw[r]at e;generalize Lib.bitLenAux 64 (n/4294967296^L)=b at p k o e;have q:(4294967296:Nat)^L=2^(32*L):=by rw[QG]
 have a:0<4294967296^L:=Pw (by decide);have l:=(RG a).1 k;have d:=(Pr a).1 o;rw[q,<-PN]at l d;rw[e];refine⟨?_,?_,by omega⟩
 ·rw[show 32*L+b-1=b-1+32*L by omega];exact l
 rw[P0];exact d
theorem KZ(n:Nat):mI n=Jw n:=by
 by_cases h:n=0
 ·subst h;rw[lG];rfl
 obtain⟨f,g,l⟩:=uN h;rw[Ja];obtain⟨z,d⟩:∃z,(bP n+7)/8=z+1:=⟨(bP n+7)/8-1,by omega⟩;rw[d];have a:∀k,(256:Nat)^k=2^(8*k):=fun k=>by rw[QG]
 have b:n<256^(z+1):=by rw[a];exact Oz g (OQ (by decide) (by omega))
 have c:256^z<=n:=by rw[a];exact Oq (OQ (by decide) (by omega)) f
 have e:=Mx (KY n (z+1)) (.inr ?_)
 ·rw[AR,OY b]at e;exact e
 unfold KY;rw[List.range_succ_eq_map,Pt];refine⟨_,_,Z,?_⟩;rw[qk (by omega),show z+1-1-0=z by omega];have i:n/256^z<256:=by rw[Pr (Pw (by decide)),OF,<-OO];exact b
 have j:0<n/256^z:=Nat.div_pos c (Pw (by decide));rw[OY i];omega
theorem AS:∀(a b:List UInt8),d8 (a++b)=d8 a*256^b.length+d8 b
 |[],b=>by simp[d8]
 |c::a,b=>by
  rw[PD,d8,d8,AS a b,Oj,PN,Pf,OL,P9]
theorem AT(n:Nat)(t:List UInt8)(h:(mI n).length<=8192):eV ⟨kT n++t,0⟩=(n,⟨t,0⟩):=by
 unfold eV kT;rw[mJ t (by omega) h,if_neg (by simp)];dsimp only;rw[KZ];by_cases a:n=0
 ·subst a;rw[lG]
 obtain⟨c,l,e,b⟩:=I7 n a;rw[e];dsimp only;rw[if_neg b,<-e,I6]
theorem AU(q:Rat):ie (decide (q.num<0)) q.num.natAbs q.den=true:=by
 unfold ie;rw[Oo];refine⟨decide_eq_true q.den_nz,?_⟩;have a:=q.reduced;split
 ·next h=>
  rw[h,Nat.coprime_iff_gcd_eq_one,Rx]at a;rw[a,Oo];refine⟨?_,decide_eq_true Z⟩;have:¬q.num<0:=by omega
  simp[this]
 exact decide_eq_true a
theorem FG(q:Rat)(t:List UInt8)(c:(mI q.num.natAbs).length<=8192)(b:(mI q.den).length<=8192):fX ⟨n3 q++t,0⟩=(some q,⟨t,0⟩):=by
 have a:eW 1 ⟨n3 q++t,0⟩=([if q.num<0 then 1 else 0],⟨kT q.num.natAbs++(kT q.den++t),0⟩):=by
  have:=AM [if q.num<0 then 1 else 0] (kT q.num.natAbs++(kT q.den++t));rw[show n3 q++t=[if q.num<0 then(1:UInt8)else 0]++(kT q.num.natAbs++(kT q.den++t)) by unfold n3;simp];exact this
 unfold fX;rw[a];dsimp only;rw[AT _ _ c];dsimp only;rw[AT _ _ b];dsimp only;have d:decide (((([if q.num<0 then(1:UInt8)else 0]).headD 0).toNat)=1)=decide (q.num<0):=by
  split
  ·next h=>simp[h]
  next h=>simp[h]
 rw[if_neg (by simp),if_neg (by split<;>simp),if_neg (by simp),d,if_pos (AU q),fU]
theorem AV(k:IntKind)(j:Nat)(i:j<=k.bits)(h:∀n:Int,0<=n->n<2^j->k.wrap n=n)(a b:Nat)(e:a<2^j)(g:b<2^j):bits .or k a b=((a|||b:Nat):Int):=by
 have f:2^j<=2^k.bits:=OQ (by decide) i;have d:a%2^k.bits=a:=OY (Oz e f);have c:b%2^k.bits=b:=OY (Oz g f);simp only[bits,BitVec.ofInt_natCast,BitVec.toNat_or,BitVec.toNat_ofNat,d,c];exact h _ (Int.natCast_nonneg _) (by exact_mod_cast SR e g)
def kb(K v:Nat):List Nat:=(List.range K).map fun q=>v/4294967296^q%4294967296
theorem ke(K v:Nat):(kb K v).length=K:=by simp[kb]
theorem qu{K q:Nat}(v:Nat)(h:q<K):(kb K v)[q]? =some (v/4294967296^q%4294967296):=by
 unfold kb;rw[O2,List.getElem?_range h];rfl
theorem FH(K:Nat):kb K 0=List.replicate K 0:=by
 unfold kb;refine QT fun j=>?_
 rw[O2,List.getElem?_replicate];by_cases h:j<K
 ·rw[List.getElem?_range h,if_pos h];simp
 rw[if_neg h,Pi (by simpa using h)];rfl
theorem FI(B K v:Nat):((List.range (K+1)).map fun q=>v/B^q%B)=(v%B)::((List.range K).map fun q=>v/B/B^q%B):=by
 rw[List.range_succ_eq_map,Pt,List.map_map];congr 1
 ·rw[QO,Rp]
 refine QK fun q _=>?_
 show v/B^(q+1)%B=v/B/B^q%B
 rw[PR,OO,OF B]
theorem FJ(K v:Nat):kb (K+1) v=(v%4294967296)::kb K (v/4294967296):=FI 4294967296 K v
theorem FK(K v:Nat):aE (kb K v)=v%4294967296^K:=by
 induction K generalizing v with
 |zero=>rw[QO,Sm];rfl
 |succ K ih=>rw[FJ,aE,ih,OO,OF (4294967296^K) 4294967296,Nat.mod_mul]
theorem FL{K v:Nat}(k:0<K)(g:4294967296^(K-1)<=v)(f:v<4294967296^K):kb K v=az v:=by
 have a:∀b:kb K v≠ [],(kb K v).getLast b≠0:=fun b=>by
  have h:(kb K v)[K-1]? =some (v/4294967296^(K-1)%4294967296):=qu v (by omega);rw[Sf];obtain⟨l,j⟩:=Ok.1 h;have e:(kb K v)[(kb K v).length-1]'(by rw[ke];omega)=(kb K v)[K-1]:=by congr 1;rw[ke]
  rw[e,j];have c:v/4294967296^(K-1)<4294967296:=by
   rw[Pr (Pw (by decide)),show 4294967296*4294967296^(K-1)=4294967296^K by rw[OF,<-OO,show(K-1).succ=K by omega]];exact f
  rw[OY c];have:=Nat.div_pos g (Pw (by decide));omega
 have e:=xH (kb K v) (fun d i=>by
  obtain⟨q,_,rfl⟩:=PX.1 i;exact Pe _ (by decide)) a
 rw[FK,OY f]at e;exact e
theorem Jb{K v c i:Nat}(u:v<256^i)(w:c<256)(m:i/4<K):v/4294967296^(i/4)%4294967296<256^(i%4)/\(v/4294967296^(i/4)%4294967296|||c*256^(i%4))=v/4294967296^(i/4)%4294967296+c*256^(i%4)/\v/4294967296^(i/4)%4294967296+c*256^(i%4)<4294967296/\c*256^(i%4)<4294967296/\(kb K v).set (i/4) (v/4294967296^(i/4)%4294967296+c*256^(i%4))=kb K (v+c*256^i):=by
 have f:(256:Nat)^i=4294967296^(i/4)*256^(i%4):=by rw[I8,<-PN];congr 1;omega
 have l:v/4294967296^(i/4)<256^(i%4):=by
  rw[Pr (Pw (by decide)),OF,<-f];exact u
 have n:256^(i%4)<=16777216:=by
  have h:i%4=0\/i%4=1\/i%4=2\/i%4=3:=by omega
  rcases h with h|h|h|h<;>rw[h]<;>decide
 have q:v/4294967296^(i/4)%4294967296=v/4294967296^(i/4):=OY (by omega);have y:c*256^(i%4)<=255*256^(i%4):=OT _ (by omega);have b:v/4294967296^(i/4)+c*256^(i%4)<4294967296:=by omega
 rw[q];refine⟨l,?_,b,by omega,?_⟩
 ·have s:(256:Nat)^(i%4)=2^(8*(i%4)):=by rw[QG]
  rw[s]at l⊢;rw[Sk,OF c,<-Nat.two_pow_add_eq_or_of_lt l,P0]
 have a:(v+c*256^i)/4294967296^(i/4)=v/4294967296^(i/4)+c*256^(i%4):=by
  rw[f,P1,QX _ _ (Pw (by decide))]
 refine QT fun j=>?_
 by_cases o:j=i/4
 ·subst o;rw[PA (by rw[ke];exact m),qu _ m,a,OY b]
 rw[Pp (fun e=>o e.symm)];by_cases d:j<K
 ·rw[qu _ d,qu _ d];congr 1;rcases OS j (i/4)with r|t
  ·obtain⟨k,g⟩:∃k,i/4=j+1+k:=⟨i/4-j-1,by omega⟩;rw[f,g,PN,OO];rw[show c*(4294967296^j*4294967296*4294967296^k*256^(i%4))=4294967296^j*(4294967296*(4294967296^k*256^(i%4)*c)) by ac_rfl,QX _ _ (Pw (by decide)),QY]
  obtain⟨k,g⟩:∃k,j=i/4+1+k:=⟨j-i/4-1,by omega⟩;have z:∀x,x<4294967296->x/(4294967296^(1+k))=0:=fun x p=>Qg (Oz p (by rw[PN,Nat.pow_one];exact Se _ (Pw (by decide))))
  rw[g,show i/4+1+k=i/4+(1+k) by omega,PN,<-PR,<-PR,a,z _ (by omega),z _ (by omega)]
 rw[Pi (by rw[ke];omega),Pi (by rw[ke];omega)]
theorem FM{l:List UInt8}{i:Nat}{c:UInt8}(h:l[l.length-1-i]? =some c)(g:i<l.length):d8 l%256^(i+1)=d8 l%256^i+c.toNat*256^i:=by
 obtain⟨d,f⟩:=Ok.1 h;have key:∀k,k<=l.length->d8 l%256^k=d8 (l.drop (l.length-k)):=fun k j=>by
  have e:=AS (l.take (l.length-k)) (l.drop (l.length-k));rw[Pz]at e;have b:(l.drop (l.length-k)).length=k:=by rw[OP];omega
  have a:=lV (l.drop (l.length-k));rw[b]at e a;rw[e,OF,Sh,OY a]
 rw[key _ (by omega),key _ (by omega),show l.length-(i+1)=l.length-1-i by omega,Ow d,f,d8,show l.length-1-i+1=l.length-i by omega,OP,show l.length-(l.length-i)=i by omega];omega
theorem Jc{l:List UInt8}{c:UInt8}{t:List UInt8}(h:l=c::t)(e:c.toNat≠0):kb ((l.length+3)/4) (d8 l%256^l.length)=az (d8 l):=by
 have a:=lV l;rw[OY a];have d:0<l.length:=by rw[h];simp
 have b:256^(l.length-1)<=d8 l:=by
  rw[h,d8];simp only[Oi,QP];have:1*256^t.length<=c.toNat*256^t.length:=OT _ (by omega);omega
 refine FL (by omega) ?_ ?_
 ·rw[I8];exact Oq (OQ (by decide) (by omega)) b
 rw[I8];exact Oz a (OQ (by decide) (by omega))
theorem Jd(l:List UInt8):(az (d8 l)).length<=(l.length+3)/4:=by
 refine bk ?_;rw[I8];exact Oz (lV l) (OQ (by decide) (by omega))
theorem qv(s:Rdr):(az (eV s).1).length<=2048:=by
 have a:(az 0).length<=2048:=by rw[f4];simp
 have b:=kG 8192 s;unfold eV;split
 ·exact a
 split
 ·exact a
 next c l e=>
 rw[e]at b;split
 ·exact a
 exact Oq (Jd _) (by omega)
theorem qw{p:Option Rat×Rdr}{o:Option Rat}{a:Rdr}(h:p=(o,a)):yj o=yj p.1:=by rw[h]
theorem uO{ng:Bool}{n d:Nat}(h:ie ng n d=true):iH ng n d=dA (eh ng n d):=by
 unfold ie at h;rw[Oo]at h;have f:0<d:=Pc (of_decide_eq_true h.1);have b:=rI ng n d f;by_cases a:n=0
 ·subst a;rw[if_pos Z,Oo]at h;have c:ng=false:=by simpa using h.2.1
  have e:d=1:=of_decide_eq_true h.2.2;subst c e;exact b
 rw[if_neg a]at h;have c:Nat.gcd n d=1:=of_decide_eq_true h.2;rw[c,Rp,Rp,decide_eq_true a,Bool.and_true]at b;exact b
theorem Je{s:Rdr}(h:(eW 1 s).2.err=0):∃c,(eW 1 s).1=[c]:=by
 unfold eW at h⊢;split
 ·next h1=>rw[if_pos h1]at h;exact absurd h h1
 split
 ·next h1 h2=>rw[if_neg h1,if_pos h2]at h;cases h
 next h1 h2=>
 cases a:s.rest with
 |nil=>rw[a]at h2;simp at h2
 |cons c l=>exact⟨c,by simp⟩
theorem wT{n:Nat}(h:decide ((az n).length=0)=false):(az n)[(az n).length-1]? =some ((az n).getD ((az n).length-1) 0):=by
 have:=of_decide_eq_false h;rw[OE,Og (by omega),OW]
theorem CT(ng:Bool)(n d:Nat)(x:(az n).length<=262144)(w:(az d).length<=262144):Ct 184 [iH ng n d] (bT (ie ng n d)):=by
 obtain⟨k,i⟩:∃t,(az d).getD ((az d).length-1) 0=t:=⟨_,rfl⟩;obtain⟨l,j⟩:∃t,(az n).getD ((az n).length-1) 0=t:=⟨_,rfl⟩;have q:decide ((az d).length=0)=false->(az d)[(az d).length-1]? =some k:=fun h=>by rw[wT h,i]
 have p:d≠0->k≠0:=fun h=>by rw[<-i];exact nG h
 refine Ct.of (n:=47) Tryz.func184 Z Z Z Z Z fun w0 G0=>?_
 refine ab<|aj 2 Z<|ab<|ab<|ae<|aa 2 Z<|ag (t:=nI ((az d).length)) Z Z Z (ah (aW Z bN Z) (by simp only[Ol]))<|ag (t:=bT (decide ((az d).length=0))) Z Z Z (ah (ai Z Z Z Zy) (au (iF ((az d).length) 0)))<|aa 1 Z<|aw (t:=.box 0 2) Z Z Z Z (fun a=>aq Z Z cg Z)<|aw (t:=.sl ((az d).map eP)) Z Z Z Z (fun a=>ay Z (if_pos a) Z bK Z)<|aw (t:=.box 0 2) Z Z Z Z (fun a=>aq Z Z cg Z)<|aw (t:=.sl ((az d).map eP)) Z Z Z Z (fun a=>ay Z (if_pos a) Z bK Z)<|aw (t:=nI ((az d).length)) Z Z Z Z (fun a=>ah (aW Z bN (if_pos a)) (by simp only[Ol]))<|aw (t:=nI ((az d).length-1)) Z Z Z Z (fun a=>ah (ai Z (if_pos a) Z (fun _=>rfl)) (Df (by have:=of_decide_eq_false a;omega) (by omega)))<|aw (t:=.ref [.sc (.int .u32 ((k:Nat):Int))]) Z Z Z Z (fun a=>aK (eP k) Z bN (if_pos a) (if_pos a) Z (aX (f:=eP) (q a)) (eS _) Z)<|aw (t:=.sc (.int .u32 ((k:Nat):Int))) Z Z Z Z (fun a=>be Z (if_pos a) gz Z)<|aw (t:=bT (decide (k=0))) Z Z Z Z (fun a=>ah (ai Z (if_pos a) Z (fun _=>rfl)) (au (iF k 0)))<|ag (t:=bT ((decide ((az d).length=0))||(decide (k=0)))) Z Z Z (aL Z Z (fun b=>(au (by rw[b];rfl))) (fun b=>(if_pos b).trans (au (by rw[b];rfl))))<|af<|aH Z (fun c=>?_) (fun c=>?_)
 ·have s:d=0:=by
   by_cases h:d=0
   ·exact h
   have u:=p h;have v:¬(az d).length=0:=fun e=>h (b6.1 e)
   rw[decide_eq_false v,decide_eq_false u]at c;cases c
  refine ab<|aj 1 Z<|ax<|⟨.inr Z,_,.cons Z .nil,au (by unfold ie;rw[s];rfl),Z⟩
 have m:d≠0:=fun e=>by
  subst e;rw[decide_eq_true (show(az 0).length=0 from rfl)]at c;cases c
 refine ar<|ab<|ab<|ae<|aa 2 Z<|ag (t:=nI ((az n).length)) Z Z Z (ah (aW Z bN Z) (by simp only[Ol]))<|ag (t:=bT (decide ((az n).length=0))) Z Z Z (ah (ai Z Z Z Zy) (au (iF ((az n).length) 0)))<|af<|aD Z (fun g=>?_) (fun g=>?_)
 ·refine ab<|ae<|aa 2 Z<|ag (t:=bT (!ng)) Z Z Z (dw Z Z Zy)<|aa 1 Z<|aw (t:=.box 0 2) Z Z Z Z (fun a=>aq Z Z cg Z)<|aw (t:=.sl ((az d).map eP)) Z Z Z Z (fun a=>ay Z (if_pos a) Z bK Z)<|aw (t:=bT (decide (d=1))) Z Z Z Z (fun a=>ak Z (pF d) (eo (if_pos a) Z) Z)<|ag (t:=bT ((!ng)&&(decide (d=1)))) Z Z Z (aL Z Z (fun b=>(if_pos b).trans (au (by rw[b];rfl))) (fun b=>(au (by rw[b];rfl))))<|aa 1 Z<|af<|ax<|⟨.inr Z,_,.cons Z .nil,au (by unfold ie;rw[decide_eq_true m,if_pos (b6.1 g),QA]),Z⟩
 refine ar<|ab ?_;have o:l≠0:=by rw[<-j];exact nG fun e=>g (b6.2 e)
 have r:(az n)[(az n).length-1]? =some l:=by rw[wT (decide_eq_false g),j]
 refine ae<|aa 4 Z<|ag (t:=nI ((az n).length)) Z Z Z (ah (aW Z bN Z) (by simp only[Ol]))<|ag (t:=nI (((az n).length)-1)) Z Z Z (ah (ai Z Z Z Zy) (bp (by omega)))<|ag (t:=.ref [.sc (.int .u32 ((l:Nat):Int))]) Z Z Z (aK (eP l) Z bN Z Z Z (aX (f:=eP) r) (eS _) Z)<|aa 1 Z<|ag (t:=bT (decide (l≠0))) Z Z Z (ah (ai Z Z Z Zy) (au (qC l 0)))<|aa 1 Z<|aw (t:=.box 0 1) Z Z Z Z (fun a=>aq Z Z dk Z)<|aw (t:=.sl ((az n).map eP)) Z Z Z Z (fun a=>ay Z (if_pos a) Z bK Z)<|aw (t:=.box 0 2) Z Z Z Z (fun a=>aq Z Z cg Z)<|aw (t:=.sl ((az d).map eP)) Z Z Z Z (fun a=>ay Z (if_pos a) Z bK Z)<|aw (t:=aG (Nat.gcd n d)) Z Z Z Z (fun a=>ak Z (Hj n d (by omega) (by omega)) (eo (if_pos a) (eo (if_pos a) Z)) Z)<|aw (t:=bT (decide (Nat.gcd n d=1))) Z Z Z Z (fun a=>ak Z (pF _) (eo (if_pos a) Z) Z)<|ag (t:=bT ((decide (l≠0))&&(decide (Nat.gcd n d=1)))) Z Z Z (aL Z Z (fun b=>(if_pos b).trans (au (by rw[b];rfl))) (fun b=>(au (by rw[b];rfl))))<|aa 1 Z<|af<|ax<|⟨.inr Z,_,.cons Z .nil,au (by unfold ie;rw[decide_eq_true m,if_neg (fun e=>g (b6.2 e)),decide_eq_true o,QA]),Z⟩
end Go.Proofs.YtfoejfohbkmmeaaGreatDoor
