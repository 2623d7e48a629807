import Derived.Test.YtfoejfohbkmmeaaGreatDoorB33
import Derived.Test.YtfoejfohbkmmeaaGreatDoorB00
import Derived.Test.YtfoejfohbkmmeaaGreatDoorB06
set_option maxRecDepth 100000
set_option maxHeartbeats 4000000
namespace Go.Proofs.YtfoejfohbkmmeaaGreatDoor
open Go.RowKit
open Lib renaming hid→J
theorem IP{s:Sch}{i:Nat}(h:mF[i]? =some s):s∈mF\/s=iG:=.inl (Om h)
theorem Good.small{r:Rel}(h:Good r):FitR r:=h.fit.1
theorem CF:jP Tryz.prog 74=some (30,4,72):=by kernel_rfl
theorem uz:gS Tryz.prog 74=some (30,4):=by kernel_rfl
theorem yf(l:List Int)(T:l.length<=9223372036854775807):CtE 36 [.sl (l.map gW)] (fun N=>∃b:List Rel,b.length=4/\(∀r∈b,Good r)/\N=.sl (b.map Rel.tree)):=by
 refine CtE.of (n:=95) Tryz.func36 Z Z Z Z Z fun w0 G0=>?_
 refine ab<|ae<|ag (t:=.sl []) Z Z Z (bI (.inr Z) bQ)<|af<|ab<|ae<|fY (k:=0) (e:=30) (sz:=4) (rs':=[some ⟨30,4,[].map Rel.tree,false⟩]) (.inr Z) Z Z Z Z Z<|af<|ab<|ae<|ag Z Z Z (ak Z CE Z Z)<|aa 1 Z<|af<|ab<|ab<|aj 1 Z<|aA<|aO (fun B C=>∃(i:Nat) (b:List Rel),(i<=4/\b.length=i/\∀r∈b,Good r)/\B=4-i/\C=⟨95,[(0,.sl (l.map gW)),(3,.own 0),(4,.sl (mF.map Sch.tree)),(5,nI i)],[],[some ⟨30,4,b.map Rel.tree,false⟩]⟩) 0 1 ⟨0,[],⟨by omega,Z,fun r X=>by cases X⟩,Z,Z⟩ .rf ?_;rintro B C ⟨i,b,⟨hi,R,J⟩,rfl,rfl⟩;have Y:mF.length=4:=rfl;refine ab<|ab<|ae<|aa 2 Z<|ag (t:=nI mF.length) Z Z Z (ah (aW Z j9 Z) (by simp only[Ol]))<|ag (t:=bT (decide (i<mF.length))) Z Z Z (ah (ai Z Z Z Zy) (au (gK i mF.length)))<|af<|aD Z (fun u=>?_) (fun u=>?_)
 ·replace u:i<4:=u;obtain⟨s,A⟩:∃s,mF[i]? =some s:=⟨_,Og u⟩;have K:=IP A;have W:=(rj K).1;refine ar<|ab<|aA<|ab<|ae<|aa 2 Z<|ag (t:=.ref (fm s)) Z Z Z (aK (Sch.tree s) Z j9 Z Z Z (aX (f:=Sch.tree) A) (rh _) Z)<|aa 4 Z<|af<|ab<|ab<|aj 1 Z<|aA<|aO (fun B C=>∃(k:Nat) (r:Rel),(k<=3/\GoodK s k r)/\B=3-k/\C=⟨95,[(0,.sl (l.map gW)),(3,.own 0),(4,.sl (mF.map Sch.tree)),(5,nI i),(6,.box 0 0),(7,nI k)],[(30,(a7 r))],[some ⟨30,4,b.map Rel.tree,false⟩]⟩) 1 1 ⟨0,⟨s,[]⟩,⟨by omega,ur K⟩,Z,Z⟩ .rf ?_;rintro B C ⟨k,r,⟨hk,D⟩,rfl,rfl⟩;refine ab<|ab<|ae<|aa 3 Z<|kp (fun N=>∃n:Nat,n<4294967296/\N=nI n) Z Z Z (kY Z (D7 l i T (by omega)) Z Z) ?_;rintro _ ⟨n,hn,rfl⟩;refine ag (t:=nI (n%4)) Z Z Z (ai Z Z Z (fun w=>lS n 4 (by omega) w))<|ag (t:=bT (decide (k<n%4))) Z Z Z (ah (ai Z Z Z Zy) (au (gK k (n%4))))<|aa 1 Z<|aw (t:=nI i) Z Z Z Z (fun c=>av Z Z)<|aw (t:=bT (decide (i=1))) Z Z Z Z (fun c=>ah (ai Z (if_pos c) Z (fun _=>rfl)) (au (iF i 1)))<|aw (t:=bT (decide (i=1))) Z Z Z Z (fun c=>av Z (if_pos c))<|ce (t:=nI k) Z Z Z Z (fun c=>av Z Z)<|ce (t:=bT (decide (k=2))) Z Z Z Z (fun c=>ah (ai Z (if_pos c) Z (fun _=>rfl)) (au (iF k 2)))<|aw (t:=bT ((decide (i=1))&&(decide (k=2)))) Z Z Z Z (fun c=>aL Z (if_pos c) (fun y=>(if_pos ⟨c,y⟩).trans (au (by rw[y];rfl))) (fun y=>(au (by rw[y];rfl))))<|aw (t:=bT (!((decide (i=1))&&(decide (k=2))))) Z Z Z Z (fun c=>dw Z (if_pos c) (fun _=>rfl))<|ag (t:=bT ((decide (k<n%4))&&(!((decide (i=1))&&(decide (k=2)))))) Z Z Z (aL Z Z (fun y=>(if_pos y).trans (au (by rw[y];rfl))) (fun y=>(au (by rw[y];rfl))))<|af<|aH Z (fun F=>?_) (fun F=>?_)
  ·have Q:k<3:=by
    rw[Oo]at F;have:=of_decide_eq_true F.1;omega
   refine ar<|ab<|aA<|ab<|ae<|aa 2 Z<|ag (t:=nI (3*i)) Z Z Z (ah (ai Z Z Z Zy) (bp (by omega)))<|ag (t:=nI (4+(3*i))) Z Z Z (ah (ai Z Z Z Zy) (bp (by omega)))<|aa 1 Z<|ag (t:=nI ((4+(3*i))+k)) Z Z Z (ah (ai Z Z Z Zy) (bp (by omega)))<|kp (fun N=>∃n:Nat,n<4294967296/\N=nI n) Z Z Z (kY Z (D7 l _ T (by omega)) Z Z) ?_;rintro _ ⟨m,hm,rfl⟩;refine aa 1 Z<|af<|ab ?_;obtain⟨q,P⟩:∃q,(if s.cert=true then(((1:Nat):Nat):Rat)else dh (m/2^4))=q:=⟨_,rfl⟩;have H:q∈iJ:=by
    rw[<-P];split
    ·exact Fm
    exact wF _
   refine ae<|aa 1 Z<|ag (t:=nI (m/2^4)) Z Z Z (ai Z Z Z (fun w=>ju m 4 (by decide) w))<|ag Z Z Z (ak Z (qe _) Z Z)<|ag (t:=.agg [.sc (.slice none 0 0),bT (decide ((dh (m/2^4)).num<0)),aG ((dh (m/2^4)).num.natAbs),aG ((dh (m/2^4)).den)]) Z Z Z (qJ Z gG Z Z Z)<|aa 2 Z<|af<|ab<|o8 ⟨95,[(0,.sl (l.map gW)),(3,.own 0),(4,.sl (mF.map Sch.tree)),(5,nI i),(6,.box 0 0),(7,nI k),(8,nI m),(9,.box 1 0)],[(30,(a7 r)),(67,[.sc (.slice none 0 0),bT (decide (q.num<0)),aG q.num.natAbs,aG q.den])],[some ⟨30,4,b.map Rel.tree,false⟩]⟩ 2 1 ?_ ?_
   ·refine ab<|ae<|aa 2 Z<|ag (t:=.ref (fm s)) Z Z Z (aK (Sch.tree s) Z j9 Z Z Z (aX (f:=Sch.tree) A) (rh _) Z)<|aa 2 Z<|af<|aH Z (fun G=>?_) (fun G=>?_)
    ·refine ae<|ag Z Z Z (ak Z (sq 1 (by decide)) Z Z)<|aa 2 Z<|af<|⟨Z,by rw[<-P,show(if s.cert=true then(((1:Nat):Nat):Rat)else dh (m/2^4))=_ from(if_pos G)];rfl,Z,.cons Z Z (.cons Z Z (.cons Z Z (.cons Z Z (.cons Z Z (.cons Z Z (.cons Z Z (.cons Z Z .nil))))))),Z⟩
    refine ar<|⟨Z,by rw[<-P,show(if s.cert=true then(((1:Nat):Nat):Rat)else dh (m/2^4))=_ from(if_neg (by rw[G];exact Pd))];rfl,Z,.cons Z Z (.cons Z Z (.cons Z Z (.cons Z Z (.cons Z Z (.cons Z Z (.cons Z Z (.cons Z Z .nil))))))),Z⟩
   refine ab<|ab<|aj 1 Z<|aA<|jE 1 0 77 3 (bs':=[(30,(a7 r)),(67,[.own 1,bT (decide (q.num<0)),aG q.num.natAbs,aG q.den])]) (rs':=[some ⟨30,4,b.map Rel.tree,false⟩,some ⟨77,3,[].map V.tree,false⟩]) Z Z Z Z<|aO (fun B C=>∃(j:Nat) (a:List V) (z:Nat),(j<=s.cols.length/\a.length=j/\z<4294967296/\∀v∈a,v.s.size<=9223372036854775807/\v.rng)/\B=s.cols.length-j/\C=⟨95,[(0,.sl (l.map gW)),(3,.own 0),(4,.sl (mF.map Sch.tree)),(5,nI i),(6,.box 0 0),(7,nI k),(8,nI z),(9,.box 1 0),(10,nI j)],[(30,(a7 r)),(67,[.own 1,bT (decide (q.num<0)),aG q.num.natAbs,aG q.den])],[some ⟨30,4,b.map Rel.tree,false⟩,some ⟨77,3,a.map V.tree,false⟩]⟩) 2 2 ⟨0,[],m,⟨by omega,Z,hm,fun v g=>by cases g⟩,Z,Z⟩ .rf ?_;rintro B C ⟨j,a,z,⟨hj,L,hz,d⟩,rfl,rfl⟩;refine ab<|ab<|ae<|aa 3 Z<|ag (t:=.ref (fm s)) Z Z Z (aK (Sch.tree s) Z j9 Z Z Z (aX (f:=Sch.tree) A) (rh _) Z)<|aa 2 Z<|ag (t:=nI s.cols.length) Z Z Z (ah (aW Z bh Z) (by simp only[Ol]))<|ag (t:=bT (decide (j<s.cols.length))) Z Z Z (ah (ai Z Z Z Zy) (au (gK j s.cols.length)))<|af<|aD Z (fun S=>?_) (fun S=>?_)
   ·refine ar<|ab<|aA<|ab<|eH (sl':=[(0,.sl (l.map gW)),(3,.own 0),(4,.sl (mF.map Sch.tree)),(5,nI i),(6,.box 0 0),(7,nI k),(8,nI z),(9,.box 1 0),(10,nI j),(67,bT (decide (j<s.cols.length)))]) ⟨Z,⟨Z,⟨Z,⟨Z,⟨Z,⟨Z,⟨Z,⟨Z,⟨Z,⟨Z,trivial⟩⟩⟩⟩⟩⟩⟩⟩⟩⟩<|di (fu:=4) [some 70,some 71,some 72,some 73,some 74,some 75,some 76,some 77,some 78,none] [7,9] [.box 1 0,.own 1,nI z,nI (z%3),nI (1+(z%3)),.agg [iT 1,nI (1+z%3),sT (⟨#[]⟩)],.sl [.agg [iT 1,nI (1+z%3),sT (⟨#[]⟩)]],.own 1,.box 1 0,.any] [⟨[7],[(0,.sl (l.map gW)),(3,.own 0),(4,.sl (mF.map Sch.tree)),(5,nI i),(6,.box 0 0),(7,nI k),(8,nI z),(9,.box 1 0),(10,nI j),(67,bT (decide (j<s.cols.length)))],[(30,(a7 r)),(67,[.any,bT (decide (q.num<0)),aG q.num.natAbs,aG q.den])],[some ⟨30,4,b.map Rel.tree,false⟩,some ⟨77,3,(a++[(⟨1,((1+z%3:Nat):Int),⟨#[]⟩⟩:V)]).map V.tree,false⟩],[.box 1 0,.any,nI z,nI (z%3),nI (1+(z%3)),.agg [iT 1,nI (1+z%3),sT (⟨#[]⟩)],.sl [.agg [iT 1,nI (1+z%3),sT (⟨#[]⟩)]],.own 1,.box 1 0,.any]⟩] ⟨[9,7],[(0,.sl (l.map gW)),(3,.own 0),(4,.sl (mF.map Sch.tree)),(5,nI i),(6,.box 0 0),(7,nI k),(8,nI z),(9,.box 1 0),(10,nI j),(67,bT (decide (j<s.cols.length)))],[(30,(a7 r)),(67,[.own 1,bT (decide (q.num<0)),aG q.num.natAbs,aG q.den])],[some ⟨30,4,b.map Rel.tree,false⟩,some ⟨77,3,(a++[(⟨1,((1+z%3:Nat):Int),⟨#[]⟩⟩:V)]).map V.tree,false⟩],[.box 1 0,.any,nI z,nI (z%3),nI (1+(z%3)),.agg [iT 1,nI (1+z%3),sT (⟨#[]⟩)],.sl [.agg [iT 1,nI (1+z%3),sT (⟨#[]⟩)]],.own 1,.box 1 0,.any]⟩ (by kernel_rfl) Z (by kernel_rfl) (by kernel_rfl) (by kernel_rfl) Z Z ?_ ?_
    ·refine .opp [] (.okk rfl (aq rfl rfl bW rfl)<|.fin)<|.opp [0] (.okk rfl (ay rfl rfl rfl cJ rfl)<|.fin)<|.opp [] (.okk rfl (av rfl rfl)<|.fin)<|.opp [2] (.okk rfl (ai rfl rfl rfl (fun w=>lS z 3 (by omega) w))<|.fin)<|.opp [3] (.okk rfl (ah (ai rfl rfl rfl Zy) (bp (by omega)))<|.fin)<|.opp [4] (.okk rfl (ak rfl (qc _) rfl rfl)<|.fin)<|.opp [5] (.okk rfl (aN rfl bw gC rfl (by decide) (by decide) rfl rfl rfl rfl rfl)<|.fin)<|.opp [1,6] (.wr 1 (fi 1) (.own 1) (by kernel_rfl) rfl rfl (c7 rfl rfl rfl iP rfl rfl rfl rfl (by intro e o;simp only[OC,O8,or_false]at o;subst o;rfl) (AllC.lit rfl) (AllC.lit rfl) (by simp only[Ol,Oi,Ou];omega) rfl rfl (by rw[PE];rfl)) rfl rfl rfl rfl (.k rfl (.k rfl (.k rfl (.k rfl (.k rfl (.k rfl (.k rfl (.i rfl (.k rfl (.k rfl .nil))))))))))<|.fin)<|.opp [] (.no (by kernel_rfl)<|.okk rfl (aq rfl rfl bW rfl)<|.fin)<|.opp [7,8] (.no (by kernel_rfl)<|.wr 2 id .any (by kernel_rfl) rfl rfl (gm rfl rfl rfl rfl rfl rfl rfl rfl Cw rfl rfl rfl) rfl rfl rfl rfl (.k rfl (.k rfl (.k rfl (.k rfl (.k rfl (.k rfl (.k rfl (.k rfl (.k rfl (.i rfl .nil))))))))))<|.fin)<|.nil
    refine ae<|aa 1 Z<|ag (t:=nI (z/3)) Z Z Z (ai Z Z Z (fun w=>se z 3 (by omega) (by omega) w))<|aa 1 Z<|af<|ae<|aa 1 Z<|ag (t:=nI (j+1)) Z Z Z (ah (ai Z Z Z Zy) (bp (by omega)))<|aa 1 Z<|af<|⟨_,_,?_,⟨j+1,a++[(⟨1,((1+z%3:Nat):Int),⟨#[]⟩⟩:V)],z/3,?_,Z,Z⟩,.rf⟩
    ·omega
    refine⟨by omega,by simp[L],by omega,fun v g=>?_⟩;rcases OZ.1 g with h|h
    ·exact d v h
    rw[OG.1 h];exact⟨by show 0<=_;omega,by show-9223372036854775808<=((1+z%3:Nat):Int);omega,by show((1+z%3:Nat):Int)<=9223372036854775807;omega⟩
   refine aQ<|ab ?_;by_cases o:cB r (⟨a,q⟩:Tp)=0
   ·refine dI 1 (bs':=[(30,(a7 r)),(67,[.sl (a.map V.tree),bT (decide (q.num<0)),aG q.num.natAbs,aG q.den])]) (rs':=[some ⟨30,4,b.map Rel.tree,false⟩,none]) Z Z Z Z ?_;have E:a.length<=65536:=by omega
    have p:Cr ⟨a,q⟩:=fun v g=>(d v g).1
    have I:∀v∈(⟨a,q⟩:Tp).vals,v.rng:=fun v g=>(d v g).2
    refine ae<|aa 2 Z<|ag (t:=.tup [.agg [sT ((cZ r (⟨a,q⟩:Tp)).sch.name),bT ((cZ r (⟨a,q⟩:Tp)).sch.cert),.sl (((cZ r (⟨a,q⟩:Tp)).sch.cols).map Col.tree),.sl (((cZ r (⟨a,q⟩:Tp)).tups).map Tp.tree)],iT 0]) Z Z Z (ak Z (by have h:=iV r ⟨a,q⟩ (D.1.fit).1 D.1.str (mG H) p E;rw[yb o]at h;exact h) Z Z)<|aa 6 Z<|af<|ab<|ae<|aa 1 Z<|ag (t:=bT (decide (0=0))) Z Z Z (ah (ai Z Z Z Zy) (au (iF 0 0)))<|af<|aD Z (fun O=>?_) (fun O=>?_)
    ·refine aj 2 Z<|ae<|aa 1 Z<|ag (t:=nI (k+1)) Z Z Z (ah (ai Z Z Z Zy) (bp (by omega)))<|aa 1 Z<|af<|⟨_,_,?_,⟨k+1,(cZ r (⟨a,q⟩:Tp)),?_,Z,Z⟩,.rf⟩
     ·omega
     exact⟨by omega,Av D Q o H p I⟩
    exact absurd Z O
   refine dI 1 (bs':=[(30,(a7 r)),(67,[.sl (a.map V.tree),bT (decide (q.num<0)),aG q.num.natAbs,aG q.den])]) (rs':=[some ⟨30,4,b.map Rel.tree,false⟩,none]) Z Z Z Z ?_;have E:a.length<=65536:=by omega
   have p:Cr ⟨a,q⟩:=fun v g=>(d v g).1
   have I:∀v∈(⟨a,q⟩:Tp).vals,v.rng:=fun v g=>(d v g).2
   refine ae<|aa 2 Z<|ag (t:=.tup [.agg dB,iT (cB r (⟨a,q⟩:Tp))]) Z Z Z (ak Z (by have h:=iV r ⟨a,q⟩ (D.1.fit).1 D.1.str (mG H) p E;rw[ut o]at h;exact h) Z Z)<|aa 6 Z<|af<|ab<|ae<|aa 1 Z<|ag (t:=bT ((cB r (⟨a,q⟩:Tp))==0)) Z Z Z (ai Z Z Z Zy)<|af<|aH Z (fun M=>?_) (fun M=>?_)
   ·exact absurd (by simpa using M) o
   refine ar<|ae<|aa 1 Z<|ag (t:=nI (k+1)) Z Z Z (ah (ai Z Z Z Zy) (bp (by omega)))<|aa 1 Z<|af<|⟨_,_,?_,⟨k+1,r,?_,Z,Z⟩,.rf⟩
   ·omega
   exact⟨by omega,D.more⟩
  refine aQ<|ae<|aa 2 rfl<|ag (t:=.sl [.agg (a7 r)]) rfl rfl rfl (aN rfl uz iS rfl (by decide) (by decide) rfl rfl rfl rfl rfl)<|a8 (bs':=[(30,(a7 r))]) (rs':=[some ⟨30,4,(b++[r]).map Rel.tree,false⟩]) rfl rfl rfl rfl CF rfl rfl rfl rfl (by intro e o;simp only[OC,O8,or_false]at o;subst o;rfl) (AllC.lit rfl) (AllC.lit rfl) (by simp only[Ol,Oi,Ou];omega) rfl rfl rfl (by rw[PE];rfl)<|aa 1 rfl<|af<|ae<|aa 1 rfl<|ag (t:=nI (i+1)) rfl rfl rfl (ah (ai rfl rfl rfl Zy) (bp (by omega)))<|aa 1 rfl<|af<|⟨_,_,?_,⟨i+1,b++[r],?_,rfl,rfl⟩,.rf⟩
  ·omega
  refine⟨by omega,by simp[R],fun x U=>?_⟩;rcases OZ.1 U with h|h
  ·exact J x h
  rw[OG.1 h];exact D.1
 refine aQ<|ab<|dI 0 (bs':=[]) (rs':=[none]) Z Z Z Z<|aj 2 Z<|ax<|⟨_,⟨b,by omega,J,Z⟩,.inr Z,_,.cons Z .nil,Z,Z⟩
def dK(x:ByteArray)(k:Nat):Tp:=⟨[⟨2,0,x⟩,⟨1,((k/2^3:Nat):Int)-20,⟨#[]⟩⟩],dh (k/2^5)⟩
theorem wJ{a:Int}(h: -9223372036854775808<=a)(b:a<=9223372036854775807):(Tree.sc (.int .i64 (IntKind.i64.wrap a)))=iT a:=by
 rw[Pj];congr 2;omega
theorem jj{x:ByteArray}(n:Nat):(dK x n).prob∈iJ:=wF _
theorem nu{x:ByteArray}(h:x.size<=5)(n:Nat):Cr (dK x n):=fun v a=>by
 simp only[dK,OC,Qf,or_false]at a;rcases a with rfl|rfl
 ·show x.size<=_;omega
 show 0<=_;omega
theorem IQ(x:ByteArray){n:Nat}(h:n<4294967296):∀v∈(dK x n).vals,v.rng:=fun v a=>by
 simp only[dK,OC,Qf,or_false]at a;rcases a with rfl|rfl
 ·exact⟨by show(-9223372036854775808:Int)<=0;omega,by show(0:Int)<=9223372036854775807;omega⟩
 exact⟨by show-9223372036854775808<=((n/2^3:Nat):Int)-20;omega,by show((n/2^3:Nat):Int)-20<=9223372036854775807;omega⟩
theorem Fo:gJ Tryz.prog 9=some [.string (⟨#[]⟩)]:=by kernel_rfl
theorem IR(l:List Int)(p:l.length<=9223372036854775807):CtE 12 [.sl (l.map gW)] (fun c=>∃r:Rel,Good r/\c=r.tree):=by
 refine CtE.of (n:=55) Tryz.func12 Z Z Z Z Z fun w0 G0=>?_
 refine ab<|aj 1 Z<|ab<|ae<|aa 1 Z<|kp (fun c=>∃n:Nat,n<4294967296/\c=nI n) Z Z Z (kY Z (D7 l 0 p (by omega)) Z Z) ?_;rintro _ ⟨n,E,rfl⟩;refine aa 1 Z<|af<|ab<|ab<|ae<|aa 1 Z<|ag (t:=nI (n%5)) Z Z Z (ai Z Z Z (fun w=>lS n 5 (by omega) w))<|ag (t:=bT (decide (n%5<4))) Z Z Z (ah (ai Z Z Z Zy) (au (gK (n%5) 4)))<|af<|aD Z (fun q=>?_) (fun q=>?_)
 ·refine ab<|ae<|aa 1 Z<|kp (fun c=>∃a:List Rel,a.length=4/\(∀r∈a,Good r)/\c=.sl (a.map Rel.tree)) Z Z Z (kY Z (yf l p) Z Z) ?_;rintro _ ⟨a,A,v,rfl⟩;obtain⟨e,g⟩:∃e,a[n%5]? =some e:=⟨_,Og (by omega)⟩;have s:=v e (Om g);refine aa 1 Z<|ag (t:=nI (n%5)) Z Z Z (ai Z Z Z (fun w=>lS n 5 (by omega) w))<|ag (t:=.ref (a7 e)) Z Z Z (aK (Rel.tree e) Z uz Z Z Z (aX (f:=Rel.tree) g) (Fl _) Z)<|aa 2 Z<|af<|ax<|⟨_,⟨e,s,Z⟩,.inr Z,_,.cons ⟨_,_,_,_,Z,Z,.inl ⟨_,bm,Z,Z⟩⟩ .nil,Z,Z⟩
 refine ar<|ab<|ae<|ag Z Z Z (ak Z uu Z Z)<|aa 3 Z<|af<|ab<|ab<|aj 1 Z<|aA<|aO (fun y z=>∃(i:Nat) (r:Rel),(1<=i/\i<=4/\GoodK iG (i-1) r)/\y=4-i/\z=⟨55,[(0,.sl (l.map gW)),(2,.box 0 0),(3,nI n),(4,.box 1 0),(5,nI i)],[(30,dB),(30,(a7 r))],[]⟩) 2 0 ⟨1,⟨iG,[]⟩,⟨by omega,by omega,ur (.inr Z)⟩,Z,Z⟩ .rf ?_;rintro y z ⟨i,r,⟨B,C,b⟩,rfl,rfl⟩;refine ab<|ab<|ae<|aa 1 Z<|ag (t:=bT (decide (i<4))) Z Z Z (ah (ai Z Z Z Zy) (au (gK i 4)))<|af<|aD Z (fun x=>?_) (fun x=>?_)
 ·refine ar<|ab<|aA<|ab<|ae<|aa 2 Z<|kp (fun c=>∃n:Nat,n<4294967296/\c=nI n) Z Z Z (kY Z (D7 l i p (by omega)) Z Z) ?_;rintro _ ⟨m,D,rfl⟩;refine aa 1 Z<|af<|ab<|ae<|ag (t:=.sl (b9.map jB)) Z Z Z (ah (aN Z mE Fo Z (by decide) (by decide) Z Z Z Z Z) (rfl))<|aa 1 Z<|ag (t:=nI (m%5)) Z Z Z (ai Z Z Z (fun w=>lS m 5 (by omega) w))<|ag (t:=.ref [sT (b9.getD (m%5) ⟨#[]⟩)]) Z Z Z (aK (jB (b9.getD (m%5) ⟨#[]⟩)) Z mE Z Z Z (aX (f:=jB) (lB m).1) (wA _) Z)<|aa 2 Z<|af<|ab ?_;by_cases d:cB r (dK (b9.getD (m%5) ⟨#[]⟩) m)=0
  ·refine eH (sl':=[(0,.sl (l.map gW)),(2,.box 0 0),(3,nI n),(4,.box 1 0),(5,nI i),(24,bT (decide (i<4))),(6,nI m),(7,sT (b9.getD (m%5) ⟨#[]⟩))]) ⟨Z,⟨Z,⟨Z,⟨Z,⟨Z,⟨Z,⟨Z,⟨Z,trivial⟩⟩⟩⟩⟩⟩⟩⟩<|di (fu:=1) [some 36,some 37,some 38,some 39,some 40,some 41,some 42,some 43,some 44,some 45,some 46,some 47,some 48,some 35,some 49,some 50,some 8,none,some 9] [16,17] [.agg (a7 r),sT (b9.getD (m%5) ⟨#[]⟩),.agg [iT 2,iT 0,sT (b9.getD (m%5) ⟨#[]⟩)],nI m,nI (m/2^3),iT (((m/2^3:Nat):Int)-20),.agg [iT 1,iT (((m/2^3:Nat):Int)-20),sT (⟨#[]⟩)],.sl [.agg [iT 2,iT 0,sT (b9.getD (m%5) ⟨#[]⟩)],.agg [iT 1,iT (((m/2^3:Nat):Int)-20),sT (⟨#[]⟩)]],nI m,nI (m/2^5),.agg [bT (decide ((dh (m/2^5)).num<0)),aG ((dh (m/2^5)).num.natAbs),aG ((dh (m/2^5)).den)],.agg [.sl [.agg [iT 2,iT 0,sT (b9.getD (m%5) ⟨#[]⟩)],.agg [iT 1,iT (((m/2^3:Nat):Int)-20),sT (⟨#[]⟩)]],bT (decide ((dh (m/2^5)).num<0)),aG ((dh (m/2^5)).num.natAbs),aG ((dh (m/2^5)).den)],.tup [.agg [sT ((cZ r (dK (b9.getD (m%5) ⟨#[]⟩) m)).sch.name),bT ((cZ r (dK (b9.getD (m%5) ⟨#[]⟩) m)).sch.cert),.sl (((cZ r (dK (b9.getD (m%5) ⟨#[]⟩) m)).sch.cols).map Col.tree),.sl (((cZ r (dK (b9.getD (m%5) ⟨#[]⟩) m)).tups).map Tp.tree)],iT 0],.tup [.agg [sT ((cZ r (dK (b9.getD (m%5) ⟨#[]⟩) m)).sch.name),bT ((cZ r (dK (b9.getD (m%5) ⟨#[]⟩) m)).sch.cert),.sl (((cZ r (dK (b9.getD (m%5) ⟨#[]⟩) m)).sch.cols).map Col.tree),.sl (((cZ r (dK (b9.getD (m%5) ⟨#[]⟩) m)).tups).map Tp.tree)],iT 0],.agg [sT ((cZ r (dK (b9.getD (m%5) ⟨#[]⟩) m)).sch.name),bT ((cZ r (dK (b9.getD (m%5) ⟨#[]⟩) m)).sch.cert),.sl (((cZ r (dK (b9.getD (m%5) ⟨#[]⟩) m)).sch.cols).map Col.tree),.sl (((cZ r (dK (b9.getD (m%5) ⟨#[]⟩) m)).tups).map Tp.tree)],iT 0,.any,.any,iT 0] [⟨[16],[(0,.sl (l.map gW)),(2,.box 0 0),(3,nI n),(4,.box 1 0),(5,nI i),(24,bT (decide (i<4))),(6,nI m),(7,sT (b9.getD (m%5) ⟨#[]⟩))],[(30,dB),(30,(a7 r)),(30,dB)],[],[.agg (a7 r),sT (b9.getD (m%5) ⟨#[]⟩),.agg [iT 2,iT 0,sT (b9.getD (m%5) ⟨#[]⟩)],nI m,nI (m/2^3),iT (((m/2^3:Nat):Int)-20),.agg [iT 1,iT (((m/2^3:Nat):Int)-20),sT (⟨#[]⟩)],.sl [.agg [iT 2,iT 0,sT (b9.getD (m%5) ⟨#[]⟩)],.agg [iT 1,iT (((m/2^3:Nat):Int)-20),sT (⟨#[]⟩)]],nI m,nI (m/2^5),.agg [bT (decide ((dh (m/2^5)).num<0)),aG ((dh (m/2^5)).num.natAbs),aG ((dh (m/2^5)).den)],.agg [.sl [.agg [iT 2,iT 0,sT (b9.getD (m%5) ⟨#[]⟩)],.agg [iT 1,iT (((m/2^3:Nat):Int)-20),sT (⟨#[]⟩)]],bT (decide ((dh (m/2^5)).num<0)),aG ((dh (m/2^5)).num.natAbs),aG ((dh (m/2^5)).den)],.tup [.agg [sT ((cZ r (dK (b9.getD (m%5) ⟨#[]⟩) m)).sch.name),bT ((cZ r (dK (b9.getD (m%5) ⟨#[]⟩) m)).sch.cert),.sl (((cZ r (dK (b9.getD (m%5) ⟨#[]⟩) m)).sch.cols).map Col.tree),.sl (((cZ r (dK (b9.getD (m%5) ⟨#[]⟩) m)).tups).map Tp.tree)],iT 0],.tup [.agg [sT ((cZ r (dK (b9.getD (m%5) ⟨#[]⟩) m)).sch.name),bT ((cZ r (dK (b9.getD (m%5) ⟨#[]⟩) m)).sch.cert),.sl (((cZ r (dK (b9.getD (m%5) ⟨#[]⟩) m)).sch.cols).map Col.tree),.sl (((cZ r (dK (b9.getD (m%5) ⟨#[]⟩) m)).tups).map Tp.tree)],iT 0],.agg [sT ((cZ r (dK (b9.getD (m%5) ⟨#[]⟩) m)).sch.name),bT ((cZ r (dK (b9.getD (m%5) ⟨#[]⟩) m)).sch.cert),.sl (((cZ r (dK (b9.getD (m%5) ⟨#[]⟩) m)).sch.cols).map Col.tree),.sl (((cZ r (dK (b9.getD (m%5) ⟨#[]⟩) m)).tups).map Tp.tree)],iT 0,.box 2 0,.any,iT 0]⟩] ⟨[17,16],[(0,.sl (l.map gW)),(2,.box 0 0),(3,nI n),(4,.box 1 0),(5,nI i),(24,bT (decide (i<4))),(6,nI m),(7,sT (b9.getD (m%5) ⟨#[]⟩))],[(30,dB),(30,(a7 r)),(30,[sT ((cZ r (dK (b9.getD (m%5) ⟨#[]⟩) m)).sch.name),bT ((cZ r (dK (b9.getD (m%5) ⟨#[]⟩) m)).sch.cert),.sl (((cZ r (dK (b9.getD (m%5) ⟨#[]⟩) m)).sch.cols).map Col.tree),.sl (((cZ r (dK (b9.getD (m%5) ⟨#[]⟩) m)).tups).map Tp.tree)])],[],[.agg (a7 r),sT (b9.getD (m%5) ⟨#[]⟩),.agg [iT 2,iT 0,sT (b9.getD (m%5) ⟨#[]⟩)],nI m,nI (m/2^3),iT (((m/2^3:Nat):Int)-20),.agg [iT 1,iT (((m/2^3:Nat):Int)-20),sT (⟨#[]⟩)],.sl [.agg [iT 2,iT 0,sT (b9.getD (m%5) ⟨#[]⟩)],.agg [iT 1,iT (((m/2^3:Nat):Int)-20),sT (⟨#[]⟩)]],nI m,nI (m/2^5),.agg [bT (decide ((dh (m/2^5)).num<0)),aG ((dh (m/2^5)).num.natAbs),aG ((dh (m/2^5)).den)],.agg [.sl [.agg [iT 2,iT 0,sT (b9.getD (m%5) ⟨#[]⟩)],.agg [iT 1,iT (((m/2^3:Nat):Int)-20),sT (⟨#[]⟩)]],bT (decide ((dh (m/2^5)).num<0)),aG ((dh (m/2^5)).num.natAbs),aG ((dh (m/2^5)).den)],.tup [.agg [sT ((cZ r (dK (b9.getD (m%5) ⟨#[]⟩) m)).sch.name),bT ((cZ r (dK (b9.getD (m%5) ⟨#[]⟩) m)).sch.cert),.sl (((cZ r (dK (b9.getD (m%5) ⟨#[]⟩) m)).sch.cols).map Col.tree),.sl (((cZ r (dK (b9.getD (m%5) ⟨#[]⟩) m)).tups).map Tp.tree)],iT 0],.tup [.agg [sT ((cZ r (dK (b9.getD (m%5) ⟨#[]⟩) m)).sch.name),bT ((cZ r (dK (b9.getD (m%5) ⟨#[]⟩) m)).sch.cert),.sl (((cZ r (dK (b9.getD (m%5) ⟨#[]⟩) m)).sch.cols).map Col.tree),.sl (((cZ r (dK (b9.getD (m%5) ⟨#[]⟩) m)).tups).map Tp.tree)],iT 0],.agg [sT ((cZ r (dK (b9.getD (m%5) ⟨#[]⟩) m)).sch.name),bT ((cZ r (dK (b9.getD (m%5) ⟨#[]⟩) m)).sch.cert),.sl (((cZ r (dK (b9.getD (m%5) ⟨#[]⟩) m)).sch.cols).map Col.tree),.sl (((cZ r (dK (b9.getD (m%5) ⟨#[]⟩) m)).tups).map Tp.tree)],iT 0,.box 2 0,.any,iT 0]⟩ (by kernel_rfl) Z (by kernel_rfl) (by kernel_rfl) (by kernel_rfl) Z Z ?_ ?_
   ·refine .opp [] (.okk Z (aR Z Z Z bm Z Z)<|.okk Z (aR Z Z Z bm Z Z)<|.fin)<|.opp [] (.okk Z (av Z Z)<|.okk Z (av Z Z)<|.fin)<|.opp [1] (.okk Z (ak Z (sy _) Z Z)<|.okk Z (ak Z (sy _) Z Z)<|.fin)<|.opp [] (.okk Z (av Z Z)<|.okk Z (av Z Z)<|.fin)<|.opp [3] (.okk Z (ai Z Z Z (fun w=>ju m 3 (by decide) w))<|.okk Z (ai Z Z Z (fun w=>ju m 3 (by decide) w))<|.fin)<|.opp [4] (.okk Z (ah (ai Z Z Z Zy) (wJ (by omega) (by omega)))<|.okk Z (ah (ai Z Z Z Zy) (wJ (by omega) (by omega)))<|.fin)<|.opp [5] (.okk Z (ak Z (qc _) Z Z)<|.okk Z (ak Z (qc _) Z Z)<|.fin)<|.opp [2,6] (.okk Z (aN Z bw gC Z (by decide) (by decide) Z Z Z Z Z)<|.okk Z (aN Z bw gC Z (by decide) (by decide) Z Z Z Z Z)<|.fin)<|.opp [] (.okk Z (av Z Z)<|.okk Z (av Z Z)<|.fin)<|.opp [8] (.okk Z (ai Z Z Z (fun w=>ju m 5 (by decide) w))<|.okk Z (ai Z Z Z (fun w=>ju m 5 (by decide) w))<|.fin)<|.opp [9] (.okk Z (ak Z (qe _) Z Z)<|.okk Z (ak Z (qe _) Z Z)<|.fin)<|.opp [7,10] (.okk Z (gi Z gG Z Z Z)<|.okk Z (gi Z gG Z Z Z)<|.fin)<|.opp [0,11] (.okk Z (ak Z (by have h:=iV r (dK (b9.getD (m%5) ⟨#[]⟩) m) (b.1.fit).1 b.1.str (mG (jj _)) (nu (lB _).2 _) (by show 2<=65536;decide);rw[yb d]at h;exact h) Z Z)<|.okk Z (ak Z (by have h:=iV r (dK (b9.getD (m%5) ⟨#[]⟩) m) (b.1.fit).1 b.1.str (mG (jj _)) (nu (lB _).2 _) (by show 2<=65536;decide);rw[yb d]at h;exact h) Z Z)<|.fin)<|.opp [12] (.okk Z (av Z Z)<|.okk Z (av Z Z)<|.fin)<|.opp [13] (.okk Z (ef Z Z Z)<|.okk Z (ef Z Z Z)<|.fin)<|.opp [13] (.okk Z (ef Z Z Z)<|.okk Z (ef Z Z Z)<|.okk Z (ef Z Z Z)<|.nil)<|.opp [] (.wr 1 id (.box 2 0) (by kernel_rfl) Z Z (jR Z Z Z iS Z Z Z Z) Z Z Z Z (.k Z (.k Z (.k Z (.k Z (.k Z (.k Z (.k Z (.k Z (.k Z (.k Z (.k Z (.k Z (.k Z (.k Z (.k Z (.k Z (.i Z (.k Z (.k Z .nil)))))))))))))))))))<|.fin)<|.opp [14,16] (.no (by kernel_rfl)<|.wr 2 id .any (by kernel_rfl) Z Z (gm Z Z Z Z Z Z Z Z mv Z Z Z) Z Z Z Z (.k Z (.k Z (.k Z (.k Z (.k Z (.k Z (.k Z (.k Z (.k Z (.k Z (.k Z (.k Z (.k Z (.k Z (.k Z (.k Z (.k Z (.i Z (.k Z .nil)))))))))))))))))))<|.fin)<|.opp [15] (.nos 2<|.okk Z (bE Z Z)<|.nil)<|.nil
   refine ab<|ae<|aa 1 Z<|ag (t:=bT (decide (0=0))) Z Z Z (ah (ai Z Z Z Zy) (au (iF 0 0)))<|af<|aD Z (fun j=>?_) (fun j=>?_)
   ·refine aj 2 Z<|ae<|aa 1 Z<|ag (t:=nI (i+1)) Z Z Z (ah (ai Z Z Z Zy) (bp (by omega)))<|aa 1 Z<|af<|⟨_,_,?_,⟨i+1,(cZ r (dK (b9.getD (m%5) ⟨#[]⟩) m)),?_,Z,Z⟩,.rf⟩
    ·omega
    refine⟨by omega,by omega,?_⟩;have u:=Av b (by omega) d (jj _) (nu (lB _).2 _) (IQ _ D);rwa[show i-1+1=i+1-1 from by omega]at u
   exact absurd Z j
  refine eH (sl':=[(0,.sl (l.map gW)),(2,.box 0 0),(3,nI n),(4,.box 1 0),(5,nI i),(24,bT (decide (i<4))),(6,nI m),(7,sT (b9.getD (m%5) ⟨#[]⟩))]) ⟨Z,⟨Z,⟨Z,⟨Z,⟨Z,⟨Z,⟨Z,⟨Z,trivial⟩⟩⟩⟩⟩⟩⟩⟩<|di (fu:=1) [some 36,some 37,some 38,some 39,some 40,some 41,some 42,some 43,some 44,some 45,some 46,some 47,some 48,some 35,some 49,some 50,some 8,none,some 9] [16,17] [.agg (a7 r),sT (b9.getD (m%5) ⟨#[]⟩),.agg [iT 2,iT 0,sT (b9.getD (m%5) ⟨#[]⟩)],nI m,nI (m/2^3),iT (((m/2^3:Nat):Int)-20),.agg [iT 1,iT (((m/2^3:Nat):Int)-20),sT (⟨#[]⟩)],.sl [.agg [iT 2,iT 0,sT (b9.getD (m%5) ⟨#[]⟩)],.agg [iT 1,iT (((m/2^3:Nat):Int)-20),sT (⟨#[]⟩)]],nI m,nI (m/2^5),.agg [bT (decide ((dh (m/2^5)).num<0)),aG ((dh (m/2^5)).num.natAbs),aG ((dh (m/2^5)).den)],.agg [.sl [.agg [iT 2,iT 0,sT (b9.getD (m%5) ⟨#[]⟩)],.agg [iT 1,iT (((m/2^3:Nat):Int)-20),sT (⟨#[]⟩)]],bT (decide ((dh (m/2^5)).num<0)),aG ((dh (m/2^5)).num.natAbs),aG ((dh (m/2^5)).den)],.tup [.agg dB,iT (cB r (dK (b9.getD (m%5) ⟨#[]⟩) m))],.tup [.agg dB,iT (cB r (dK (b9.getD (m%5) ⟨#[]⟩) m))],.agg dB,iT (cB r (dK (b9.getD (m%5) ⟨#[]⟩) m)),.any,.any,iT (cB r (dK (b9.getD (m%5) ⟨#[]⟩) m))] [⟨[16],[(0,.sl (l.map gW)),(2,.box 0 0),(3,nI n),(4,.box 1 0),(5,nI i),(24,bT (decide (i<4))),(6,nI m),(7,sT (b9.getD (m%5) ⟨#[]⟩))],[(30,dB),(30,(a7 r)),(30,dB)],[],[.agg (a7 r),sT (b9.getD (m%5) ⟨#[]⟩),.agg [iT 2,iT 0,sT (b9.getD (m%5) ⟨#[]⟩)],nI m,nI (m/2^3),iT (((m/2^3:Nat):Int)-20),.agg [iT 1,iT (((m/2^3:Nat):Int)-20),sT (⟨#[]⟩)],.sl [.agg [iT 2,iT 0,sT (b9.getD (m%5) ⟨#[]⟩)],.agg [iT 1,iT (((m/2^3:Nat):Int)-20),sT (⟨#[]⟩)]],nI m,nI (m/2^5),.agg [bT (decide ((dh (m/2^5)).num<0)),aG ((dh (m/2^5)).num.natAbs),aG ((dh (m/2^5)).den)],.agg [.sl [.agg [iT 2,iT 0,sT (b9.getD (m%5) ⟨#[]⟩)],.agg [iT 1,iT (((m/2^3:Nat):Int)-20),sT (⟨#[]⟩)]],bT (decide ((dh (m/2^5)).num<0)),aG ((dh (m/2^5)).num.natAbs),aG ((dh (m/2^5)).den)],.tup [.agg dB,iT (cB r (dK (b9.getD (m%5) ⟨#[]⟩) m))],.tup [.agg dB,iT (cB r (dK (b9.getD (m%5) ⟨#[]⟩) m))],.agg dB,iT (cB r (dK (b9.getD (m%5) ⟨#[]⟩) m)),.box 2 0,.any,iT (cB r (dK (b9.getD (m%5) ⟨#[]⟩) m))]⟩] ⟨[17,16],[(0,.sl (l.map gW)),(2,.box 0 0),(3,nI n),(4,.box 1 0),(5,nI i),(24,bT (decide (i<4))),(6,nI m),(7,sT (b9.getD (m%5) ⟨#[]⟩))],[(30,dB),(30,(a7 r)),(30,dB)],[],[.agg (a7 r),sT (b9.getD (m%5) ⟨#[]⟩),.agg [iT 2,iT 0,sT (b9.getD (m%5) ⟨#[]⟩)],nI m,nI (m/2^3),iT (((m/2^3:Nat):Int)-20),.agg [iT 1,iT (((m/2^3:Nat):Int)-20),sT (⟨#[]⟩)],.sl [.agg [iT 2,iT 0,sT (b9.getD (m%5) ⟨#[]⟩)],.agg [iT 1,iT (((m/2^3:Nat):Int)-20),sT (⟨#[]⟩)]],nI m,nI (m/2^5),.agg [bT (decide ((dh (m/2^5)).num<0)),aG ((dh (m/2^5)).num.natAbs),aG ((dh (m/2^5)).den)],.agg [.sl [.agg [iT 2,iT 0,sT (b9.getD (m%5) ⟨#[]⟩)],.agg [iT 1,iT (((m/2^3:Nat):Int)-20),sT (⟨#[]⟩)]],bT (decide ((dh (m/2^5)).num<0)),aG ((dh (m/2^5)).num.natAbs),aG ((dh (m/2^5)).den)],.tup [.agg dB,iT (cB r (dK (b9.getD (m%5) ⟨#[]⟩) m))],.tup [.agg dB,iT (cB r (dK (b9.getD (m%5) ⟨#[]⟩) m))],.agg dB,iT (cB r (dK (b9.getD (m%5) ⟨#[]⟩) m)),.box 2 0,.any,iT (cB r (dK (b9.getD (m%5) ⟨#[]⟩) m))]⟩ (by kernel_rfl) Z (by kernel_rfl) (by kernel_rfl) (by kernel_rfl) Z Z ?_ ?_
  ·refine .opp [] (.okk Z (aR Z Z Z bm Z Z)<|.okk Z (aR Z Z Z bm Z Z)<|.fin)<|.opp [] (.okk Z (av Z Z)<|.okk Z (av Z Z)<|.fin)<|.opp [1] (.okk Z (ak Z (sy _) Z Z)<|.okk Z (ak Z (sy _) Z Z)<|.fin)<|.opp [] (.okk Z (av Z Z)<|.okk Z (av Z Z)<|.fin)<|.opp [3] (.okk Z (ai Z Z Z (fun w=>ju m 3 (by decide) w))<|.okk Z (ai Z Z Z (fun w=>ju m 3 (by decide) w))<|.fin)<|.opp [4] (.okk Z (ah (ai Z Z Z Zy) (wJ (by omega) (by omega)))<|.okk Z (ah (ai Z Z Z Zy) (wJ (by omega) (by omega)))<|.fin)<|.opp [5] (.okk Z (ak Z (qc _) Z Z)<|.okk Z (ak Z (qc _) Z Z)<|.fin)<|.opp [2,6] (.okk Z (aN Z bw gC Z (by decide) (by decide) Z Z Z Z Z)<|.okk Z (aN Z bw gC Z (by decide) (by decide) Z Z Z Z Z)<|.fin)<|.opp [] (.okk Z (av Z Z)<|.okk Z (av Z Z)<|.fin)<|.opp [8] (.okk Z (ai Z Z Z (fun w=>ju m 5 (by decide) w))<|.okk Z (ai Z Z Z (fun w=>ju m 5 (by decide) w))<|.fin)<|.opp [9] (.okk Z (ak Z (qe _) Z Z)<|.okk Z (ak Z (qe _) Z Z)<|.fin)<|.opp [7,10] (.okk Z (gi Z gG Z Z Z)<|.okk Z (gi Z gG Z Z Z)<|.fin)<|.opp [0,11] (.okk Z (ak Z (by have h:=iV r (dK (b9.getD (m%5) ⟨#[]⟩) m) (b.1.fit).1 b.1.str (mG (jj _)) (nu (lB _).2 _) (by show 2<=65536;decide);rw[ut d]at h;exact h) Z Z)<|.okk Z (ak Z (by have h:=iV r (dK (b9.getD (m%5) ⟨#[]⟩) m) (b.1.fit).1 b.1.str (mG (jj _)) (nu (lB _).2 _) (by show 2<=65536;decide);rw[ut d]at h;exact h) Z Z)<|.fin)<|.opp [12] (.okk Z (av Z Z)<|.okk Z (av Z Z)<|.fin)<|.opp [13] (.okk Z (ef Z Z Z)<|.okk Z (ef Z Z Z)<|.fin)<|.opp [13] (.okk Z (ef Z Z Z)<|.okk Z (ef Z Z Z)<|.okk Z (ef Z Z Z)<|.nil)<|.opp [] (.wr 1 id (.box 2 0) (by kernel_rfl) Z Z (jR Z Z Z iS Z Z Z Z) Z Z Z Z (.k Z (.k Z (.k Z (.k Z (.k Z (.k Z (.k Z (.k Z (.k Z (.k Z (.k Z (.k Z (.k Z (.k Z (.k Z (.k Z (.i Z (.k Z (.k Z .nil)))))))))))))))))))<|.fin)<|.opp [14,16] (.no (by kernel_rfl)<|.wr 2 id .any (by kernel_rfl) Z Z (gm Z Z Z Z Z Z Z Z mv Z Z Z) Z Z Z Z (.k Z (.k Z (.k Z (.k Z (.k Z (.k Z (.k Z (.k Z (.k Z (.k Z (.k Z (.k Z (.k Z (.k Z (.k Z (.k Z (.k Z (.i Z (.k Z .nil)))))))))))))))))))<|.fin)<|.opp [15] (.nos 2<|.okk Z (bE Z Z)<|.nil)<|.nil
  refine ab<|ae<|aa 1 Z<|ag (t:=bT ((cB r (dK (b9.getD (m%5) ⟨#[]⟩) m))==0)) Z Z Z (ai Z Z Z Zy)<|af<|aH Z (fun o=>?_) (fun o=>?_)
  ·exact absurd (by simpa using o) d
  refine ar<|ae<|aa 1 Z<|ag (t:=nI (i+1)) Z Z Z (ah (ai Z Z Z Zy) (bp (by omega)))<|aa 1 Z<|af<|⟨_,_,?_,⟨i+1,r,?_,Z,Z⟩,.rf⟩
  ·omega
  refine⟨by omega,by omega,?_⟩;have u:=b.more;rwa[show i-1+1=i+1-1 from by omega]at u
 refine aQ<|ab<|aj 2 Z<|ax<|⟨_,⟨r,b.1,Z⟩,.inr Z,_,.cons ⟨_,_,_,_,Z,Z,.inl ⟨_,bm,Z,Z⟩⟩ .nil,Z,Z⟩
theorem AA:∀{cs:List Col} {vs:List V},fF cs vs=false->vs.length=cs.length->∀v∈vs,v.ok=true
 |[],[],_,_,v,h=>by cases h
 |[],_::_,_,h,_,_=>by simp at h
 |_::_,[],_,h,_,_=>by simp at h
 |c::cs,u::vs,h,hl,v,a=>by
  rw[fF]at h;simp only[OH,RV]at h;rcases OC.1 a with rfl|a
  ·exact h.1.2
  exact AA h.2 (by simpa using hl) v a
structure LnOK (s:Sch) (t:Tp):Prop where
 c:bV s t=0
 q:t.prob∈iJ
 r:∀v∈t.vals,v.rng
theorem wK:∀(vs:List V) (i:Nat),0<i->vs.length<=(de i vs).length
 |[],_,_=>Oh _
 |v::vs,i,hi=>by
  have:=wK vs (i+1) (by omega);rw[de,if_pos hi];simp only[Oj,Oi,Ou];omega
theorem vg(cert:Bool)(L:List ByteArray)(i:Nat)(r:Rel):eK cert (bs []::L) i r=eK cert L (i+1) r:=by
 rw[eK,if_pos (show((bs []).toList==(⟨#[]⟩:ByteArray).toList)=true from beq_self_eq_true (⟨#[]⟩:ByteArray).toList)]
def Nm:List UInt8:=[39,98,44,32,99,39,44,49,58,48,46,53,10,10,39,97,39,44,50,58,49,47,51]
def Nn:List UInt8:=[39,97,39,44,49,58,49,10,39,97,39,44,50,58,49,47,57]
def Jt:List UInt8:=[39,97,39,44,50,58,49,47,51,10,39,98,44,32,99,39,44,49,58,49,47,50,10]
def kA:Tp:=⟨[⟨2,0,⟨#[97]⟩⟩,⟨1,2,⟨#[]⟩⟩],eh false 1 3⟩
def kB:Tp:=⟨[⟨2,0,⟨#[98,44,32,99]⟩⟩,⟨1,1,⟨#[]⟩⟩],eh false 1 2⟩
theorem No:em (bs Nm)=[bs [39,98,44,32,99,39,44,49,58,48,46,53],bs [],bs [39,97,39,44,50,58,49,47,51]]:=by
 have e:=nt (a:=[39,98,44,32,99,39,44,49,58,48,46,53]) (b:=[10,39,97,39,44,50,58,49,47,51]) (by decide);have c:=nt (a:=[]) (b:=[39,97,39,44,50,58,49,47,51]) (by decide);have d:=uw (a:=[39,97,39,44,50,58,49,47,51]) (by decide);rw[d]at c;exact e.trans (congrArg _ c)
theorem nS{v:V}{vs:List V}{p:List UInt8}{q:Rat}(d:Lo v)(a:∀x∈vs,Lo x)(b:gH (bs p)=(q,0)):(dq (bs (de 0 (v::vs)++58::p)) false).ok=true/\kS (dq (bs (de 0 (v::vs)++58::p)) false)=⟨v::vs,q⟩:=by
 have f:lA ((bs (de 0 (v::vs)++58::p)).size+1) (bs (de 0 (v::vs)++58::p)) []=some (v::vs,bs (58::p)):=by
  have e:de 0 (v::vs)++58::p=v.fmt++(de 1 vs++58::p):=by rw[de,if_neg (by omega)];simp
  have g:=wK vs 1 (by omega);rw[e];refine wI (.inr ⟨_,Z⟩) vs v _ [] ?_ d a;rw[yc];simp only[Oj];omega
 have c:(bs (58::p)).extract 1 (bs (58::p)).size=bs p:=qf [58] p;unfold dq;rw[f];simp only;rw[if_neg (by simp),if_neg (by rw[fG];simp[Lib.hasPrefix,List.isPrefixOf]),c,if_pos (by rw[b])];refine⟨Z,?_⟩;unfold kS;simp only;rw[b,fU]
def NN:List UInt8:=[39,98,44,32,99,39,44,49,58,48,46,53]
def NO:List UInt8:=[39,97,39,44,50,58,49,47,51]
def Np:List UInt8:=[39,97,39,44,49,58,49]
def ME:List UInt8:=[39,97,39,44,50,58,49,47,57]
def kC:Tp:=⟨[⟨2,0,⟨#[97]⟩⟩,⟨1,1,⟨#[]⟩⟩],eh false 1 1⟩
def kD:Tp:=⟨[⟨2,0,⟨#[97]⟩⟩,⟨1,2,⟨#[]⟩⟩],eh false 1 9⟩
theorem rP:(∀x∈[(⟨1,1,⟨#[]⟩⟩:V)],Lo x)/\(∀x∈[(⟨1,2,⟨#[]⟩⟩:V)],Lo x)/\Lo ⟨2,0,⟨#[97]⟩⟩/\Lo ⟨2,0,⟨#[98,44,32,99]⟩⟩:=by
 refine⟨fun x a=>?_,fun x a=>?_,?_,?_⟩
 ·rw[OG.1 a];exact⟨by kernel_rfl,by unfold V.rng;decide⟩
 ·rw[OG.1 a];exact⟨by kernel_rfl,by unfold V.rng;decide⟩
 ·exact⟨by kernel_rfl,by unfold V.rng;decide⟩
 exact⟨by kernel_rfl,by unfold V.rng;decide⟩
theorem Nq:(dq (bs NN) false).ok=true/\kS (dq (bs NN) false)=kB:=by
 have h:=nS (p:=[48,46,53]) (q:=eh false 1 2) rP.2.2.2 rP.1 (by decide+kernel);have e:de 0 [(⟨2,0,⟨#[98,44,32,99]⟩⟩:V),⟨1,1,⟨#[]⟩⟩]++58::[48,46,53]=NN:=by kernel_rfl
 rw[e]at h;exact h
theorem Nr:(dq (bs NO) false).ok=true/\kS (dq (bs NO) false)=kA:=by
 have h:=nS (p:=[49,47,51]) (q:=eh false 1 3) rP.2.2.1 rP.2.1 (by decide+kernel);have e:de 0 [(⟨2,0,⟨#[97]⟩⟩:V),⟨1,2,⟨#[]⟩⟩]++58::[49,47,51]=NO:=by kernel_rfl
 rw[e]at h;exact h
theorem Ns:(dq (bs Np) false).ok=true/\kS (dq (bs Np) false)=kC:=by
 have h:=nS (p:=[49]) (q:=eh false 1 1) rP.2.2.1 rP.1 (by decide+kernel);have e:de 0 [(⟨2,0,⟨#[97]⟩⟩:V),⟨1,1,⟨#[]⟩⟩]++58::[49]=Np:=by kernel_rfl
 rw[e]at h;exact h
theorem Nt:(dq (bs ME) false).ok=true/\kS (dq (bs ME) false)=kD:=by
 have h:=nS (p:=[49,47,57]) (q:=eh false 1 9) rP.2.2.1 rP.2.1 (by decide+kernel);have e:de 0 [(⟨2,0,⟨#[97]⟩⟩:V),⟨1,2,⟨#[]⟩⟩]++58::[49,47,57]=ME:=by kernel_rfl
 rw[e]at h;exact h
theorem Nu:em (bs Nn)=[bs Np,bs ME]:=by
 have c:=nt (a:=Np) (b:=ME) (by decide);have d:=uw (a:=ME) (by decide);rw[d]at c;exact c
theorem N6:qa ⟨iG,[kA,kB]⟩=Jt:=by kernel_rfl
theorem Nv:dH ⟨iG,[]⟩ kB=0:=by decide+kernel
theorem Nw:dH ⟨iG,[kB]⟩ kA=0:=by decide+kernel
theorem Nx:cZ ⟨iG,[kB]⟩ kA=⟨iG,[kA,kB]⟩:=by kernel_rfl
theorem Ny:dH ⟨iG,[]⟩ kC=0:=by decide+kernel
theorem Lp:cZ ⟨iG,[]⟩ kB=⟨iG,[kB]⟩/\cZ ⟨iG,[]⟩ kC=⟨iG,[kC]⟩:=⟨by kernel_rfl,by kernel_rfl⟩
theorem Lq:dH ⟨iG,[kC]⟩ kD=19:=by decide+kernel
theorem sA{l:List UInt8}{L:List ByteArray}{i:Nat}{r:Rel}{t:Tp}(a:l≠ [])(h:(dq (bs l) false).ok=true/\kS (dq (bs l) false)=t):eK false (bs l::L) i r=if dH r t=0 then eK false L (i+1) (cZ r t)else(Rel.zero,i,dH r t):=by
 rw[eK,if_neg (by
  rw[Lib.toList_data,Lib.toList_data,fG];cases l with
  |nil=>exact absurd Z a
  |cons x l=>simp),if_neg (by rw[h.1];simp),h.2]
theorem Nz:iC iG Nm=(⟨iG,[kA,kB]⟩,0,0):=by
 unfold iC;rw[if_neg (by decide+kernel),if_neg (by decide)];show eK false (em (bs Nm)) 0 ⟨iG,[]⟩=_
 rw[No];show eK false (bs NN::bs []::bs NO::[]) 0 ⟨iG,[]⟩=_
 rw[sA (by decide) Nq,if_pos Nv,Lp.1,vg,sA (by decide) Nr,if_pos Nw,Nx];rfl
theorem NA:iC iG Nn=(Rel.zero,1,19):=by
 unfold iC;rw[if_neg (by decide+kernel),if_neg (by decide)];show eK false (em (bs Nn)) 0 ⟨iG,[]⟩=_
 rw[Nu,sA (by decide) Ns,if_pos Ny,Lp.2,sA (by decide) Nt,if_neg (by rw[Lq];decide),Lq]
end Go.Proofs.YtfoejfohbkmmeaaGreatDoor
