import Derived.Test.YtfoejfohbkmmeaaGreatDoorP37
import Derived.Test.YtfoejfohbkmmeaaGreatDoorP00
import Derived.Test.YtfoejfohbkmmeaaGreatDoorP06
set_option maxRecDepth 100000
set_option maxHeartbeats 4000000
namespace Go.Proofs.YtfoejfohbkmmeaaGreatDoor
open Go.RowKit
open Lib renaming hid→J
theorem GM{s:Sch}{i:Nat}(h:j8[i]? =some s):s∈j8\/s=gL:=.inl (L7 h)
theorem Bm:kM Tryz.prog 74=some (30,4,72):=by kernel_rfl
theorem tK:gN Tryz.prog 74=some (30,4):=by kernel_rfl
theorem xf(l:List Int)(T:l.length<=9223372036854775807):CtE 36 [.sl (l.map gK)] (fun K=>∃b:List Rel,b.length=4/\(∀r∈b,Good r)/\K=.sl (b.map Rel.tree)):=by
 refine CtE.of (n:=95) Tryz.func36 Z Z Z Z Z fun w0 G0=>?_
 refine ab<|ae<|af (t:=.sl []) Z Z Z (cz (.inr Z) dk)<|ag<|ab<|ae<|gW (k:=0) (e:=30) (sz:=4) (rs':=[some ⟨30,4,[].map Rel.tree,false⟩]) (.inr Z) Z Z Z Z Z<|ag<|ab<|ae<|af Z Z Z (ak Z Bl Z Z)<|aa 1 Z<|ag<|ab<|ab<|aj 1 Z<|aB<|aR (fun B C=>∃(i:Nat) (b:List Rel),(i<=4/\b.length=i/\∀r∈b,Good r)/\B=4-i/\C=⟨95,[(0,.sl (l.map gK)),(3,.own 0),(4,.sl (j8.map Sch.tree)),(5,nI i)],[],[some ⟨30,4,b.map Rel.tree,false⟩]⟩) 0 1 ⟨0,[],⟨by omega,Z,fun r Y=>by cases Y⟩,Z,Z⟩ .rf ?_;rintro B C ⟨i,b,⟨hi,R,N⟩,rfl,rfl⟩;have a0:j8.length=4:=rfl;refine ab<|ab<|ae<|aa 2 Z<|af (t:=nI j8.length) Z Z Z (ah (aZ Z gf Z) (by simp only[L5]))<|af (t:=bT (decide (i<j8.length))) Z Z Z (ah (ai Z Z Z Zy) (ar (gA i j8.length)))<|ag<|aD Z (fun p=>?_) (fun p=>?_)
 ·replace p:i<4:=p;obtain⟨s,y⟩:∃s,j8[i]? =some s:=⟨_,L3 p⟩;have M:=GM y;have X:=(qz M).1;refine am<|ab<|aB<|ab<|ae<|aa 2 Z<|af (t:=.ref (dj s)) Z Z Z (aM (Sch.tree s) Z gf Z Z Z (aS (f:=Sch.tree) y) (jI _) Z)<|aa 4 Z<|ag<|ab<|ab<|aj 1 Z<|aB<|aR (fun B C=>∃(k:Nat) (r:Rel),(k<=3/\GoodK s k r)/\B=3-k/\C=⟨95,[(0,.sl (l.map gK)),(3,.own 0),(4,.sl (j8.map Sch.tree)),(5,nI i),(6,.box 0 0),(7,nI k)],[(30,(aV r))],[some ⟨30,4,b.map Rel.tree,false⟩]⟩) 1 1 ⟨0,⟨s,[]⟩,⟨by omega,tF M⟩,Z,Z⟩ .rf ?_;rintro B C ⟨k,r,⟨hk,F⟩,rfl,rfl⟩;refine ab<|ab<|ae<|aa 3 Z<|ki (fun K=>∃n:Nat,n<4294967296/\K=nI n) Z Z Z (kQ Z (CM l i T (by omega)) Z Z) ?_;rintro _ ⟨n,hn,rfl⟩;refine af (t:=nI (n%4)) Z Z Z (ai Z Z Z (fun w=>lC n 4 (by omega) w))<|af (t:=bT (decide (k<n%4))) Z Z Z (ah (ai Z Z Z Zy) (ar (gA k (n%4))))<|aa 1 Z<|aq (t:=nI i) Z Z Z Z (fun c=>au Z Z)<|aq (t:=bT (decide (i=1))) Z Z Z Z (fun c=>ah (ai Z (if_pos c) Z (fun _=>rfl)) (ar (jF i 1)))<|aq (t:=bT (decide (i=1))) Z Z Z Z (fun c=>au Z (if_pos c))<|bY (t:=nI k) Z Z Z Z (fun c=>au Z Z)<|bY (t:=bT (decide (k=2))) Z Z Z Z (fun c=>ah (ai Z (if_pos c) Z (fun _=>rfl)) (ar (jF k 2)))<|aq (t:=bT ((decide (i=1))&&(decide (k=2)))) Z Z Z Z (fun c=>aK Z (if_pos c) (fun A=>(if_pos ⟨c,A⟩).trans (ar (by rw[A];rfl))) (fun A=>(ar (by rw[A];rfl))))<|aq (t:=bT (!((decide (i=1))&&(decide (k=2))))) Z Z Z Z (fun c=>dm Z (if_pos c) (fun _=>rfl))<|af (t:=bT ((decide (k<n%4))&&(!((decide (i=1))&&(decide (k=2)))))) Z Z Z (aK Z Z (fun A=>(if_pos A).trans (ar (by rw[A];rfl))) (fun A=>(ar (by rw[A];rfl))))<|ag<|aF Z (fun H=>?_) (fun H=>?_)
  ·have S:k<3:=by
    rw[L8]at H;have:=of_decide_eq_true H.1;omega
   refine am<|ab<|aB<|ab<|ae<|aa 2 Z<|af (t:=nI (3*i)) Z Z Z (ah (ai Z Z Z Zy) (bi (by omega)))<|af (t:=nI (4+(3*i))) Z Z Z (ah (ai Z Z Z Zy) (bi (by omega)))<|aa 1 Z<|af (t:=nI ((4+(3*i))+k)) Z Z Z (ah (ai Z Z Z Zy) (bi (by omega)))<|ki (fun K=>∃n:Nat,n<4294967296/\K=nI n) Z Z Z (kQ Z (CM l _ T (by omega)) Z Z) ?_;rintro _ ⟨m,W,rfl⟩;refine aa 1 Z<|ag<|ab ?_;obtain⟨q,P⟩:∃q,(if s.cert=true then(((1:Nat):Nat):Rat)else dd (m/2^4))=q:=⟨_,rfl⟩;have E:q∈iy:=by
    rw[<-P];split
    ·exact Eh
    exact vf _
   refine ae<|aa 1 Z<|af (t:=nI (m/2^4)) Z Z Z (ai Z Z Z (fun w=>jr m 4 (by decide) w))<|af Z Z Z (ak Z (pN _) Z Z)<|af (t:=.agg [.sc (.slice none 0 0),bT (decide ((dd (m/2^4)).num<0)),aH ((dd (m/2^4)).num.natAbs),aH ((dd (m/2^4)).den)]) Z Z Z (mW Z fZ Z Z Z)<|aa 2 Z<|ag<|ab<|jN ⟨95,[(0,.sl (l.map gK)),(3,.own 0),(4,.sl (j8.map Sch.tree)),(5,nI i),(6,.box 0 0),(7,nI k),(8,nI m),(9,.box 1 0)],[(30,(aV r)),(67,[.sc (.slice none 0 0),bT (decide (q.num<0)),aH q.num.natAbs,aH q.den])],[some ⟨30,4,b.map Rel.tree,false⟩]⟩ 2 1 ?_ ?_
   ·refine ab<|ae<|aa 2 Z<|af (t:=.ref (dj s)) Z Z Z (aM (Sch.tree s) Z gf Z Z Z (aS (f:=Sch.tree) y) (jI _) Z)<|aa 2 Z<|ag<|aF Z (fun D=>?_) (fun D=>?_)
    ·refine ae<|af Z Z Z (ak Z (pD 1 (by decide)) Z Z)<|aa 2 Z<|ag<|⟨Z,by rw[<-P,show(if s.cert=true then(((1:Nat):Nat):Rat)else dd (m/2^4))=_ from(if_pos D)];rfl,Z,.cons Z Z (.cons Z Z (.cons Z Z (.cons Z Z (.cons Z Z (.cons Z Z (.cons Z Z (.cons Z Z .nil))))))),Z⟩
    refine am<|⟨Z,by rw[<-P,show(if s.cert=true then(((1:Nat):Nat):Rat)else dd (m/2^4))=_ from(if_neg (by rw[D];exact MF))];rfl,Z,.cons Z Z (.cons Z Z (.cons Z Z (.cons Z Z (.cons Z Z (.cons Z Z (.cons Z Z (.cons Z Z .nil))))))),Z⟩
   refine ab<|ab<|aj 1 Z<|aB<|kO 1 0 77 3 (bs':=[(30,(aV r)),(67,[.own 1,bT (decide (q.num<0)),aH q.num.natAbs,aH q.den])]) (rs':=[some ⟨30,4,b.map Rel.tree,false⟩,some ⟨77,3,[].map V.tree,false⟩]) Z Z Z Z<|aR (fun B C=>∃(j:Nat) (a:List V) (z:Nat),(j<=s.cols.length/\a.length=j/\z<4294967296/\∀v∈a,v.s.size<=9223372036854775807/\v.rng)/\B=s.cols.length-j/\C=⟨95,[(0,.sl (l.map gK)),(3,.own 0),(4,.sl (j8.map Sch.tree)),(5,nI i),(6,.box 0 0),(7,nI k),(8,nI z),(9,.box 1 0),(10,nI j)],[(30,(aV r)),(67,[.own 1,bT (decide (q.num<0)),aH q.num.natAbs,aH q.den])],[some ⟨30,4,b.map Rel.tree,false⟩,some ⟨77,3,a.map V.tree,false⟩]⟩) 2 2 ⟨0,[],m,⟨by omega,Z,W,fun v g=>by cases g⟩,Z,Z⟩ .rf ?_;rintro B C ⟨j,a,z,⟨hj,O,hz,d⟩,rfl,rfl⟩;refine ab<|ab<|ae<|aa 3 Z<|af (t:=.ref (dj s)) Z Z Z (aM (Sch.tree s) Z gf Z Z Z (aS (f:=Sch.tree) y) (jI _) Z)<|aa 2 Z<|af (t:=nI s.cols.length) Z Z Z (ah (aZ Z bg Z) (by simp only[L5]))<|af (t:=bT (decide (j<s.cols.length))) Z Z Z (ah (ai Z Z Z Zy) (ar (gA j s.cols.length)))<|ag<|aD Z (fun Q=>?_) (fun Q=>?_)
   ·refine am<|ab<|aB<|ab<|hH (sl':=[(0,.sl (l.map gK)),(3,.own 0),(4,.sl (j8.map Sch.tree)),(5,nI i),(6,.box 0 0),(7,nI k),(8,nI z),(9,.box 1 0),(10,nI j),(67,bT (decide (j<s.cols.length)))]) ⟨Z,⟨Z,⟨Z,⟨Z,⟨Z,⟨Z,⟨Z,⟨Z,⟨Z,⟨Z,trivial⟩⟩⟩⟩⟩⟩⟩⟩⟩⟩<|ff (fu:=4) [some 70,some 71,some 72,some 73,some 74,some 75,some 76,some 77,some 78,none] [7,9] [.box 1 0,.own 1,nI z,nI (z%3),nI (1+(z%3)),.agg [iT 1,nI (1+z%3),sT (⟨#[]⟩)],.sl [.agg [iT 1,nI (1+z%3),sT (⟨#[]⟩)]],.own 1,.box 1 0,.any] [⟨[7],[(0,.sl (l.map gK)),(3,.own 0),(4,.sl (j8.map Sch.tree)),(5,nI i),(6,.box 0 0),(7,nI k),(8,nI z),(9,.box 1 0),(10,nI j),(67,bT (decide (j<s.cols.length)))],[(30,(aV r)),(67,[.any,bT (decide (q.num<0)),aH q.num.natAbs,aH q.den])],[some ⟨30,4,b.map Rel.tree,false⟩,some ⟨77,3,(a++[(⟨1,((1+z%3:Nat):Int),⟨#[]⟩⟩:V)]).map V.tree,false⟩],[.box 1 0,.any,nI z,nI (z%3),nI (1+(z%3)),.agg [iT 1,nI (1+z%3),sT (⟨#[]⟩)],.sl [.agg [iT 1,nI (1+z%3),sT (⟨#[]⟩)]],.own 1,.box 1 0,.any]⟩] ⟨[9,7],[(0,.sl (l.map gK)),(3,.own 0),(4,.sl (j8.map Sch.tree)),(5,nI i),(6,.box 0 0),(7,nI k),(8,nI z),(9,.box 1 0),(10,nI j),(67,bT (decide (j<s.cols.length)))],[(30,(aV r)),(67,[.own 1,bT (decide (q.num<0)),aH q.num.natAbs,aH q.den])],[some ⟨30,4,b.map Rel.tree,false⟩,some ⟨77,3,(a++[(⟨1,((1+z%3:Nat):Int),⟨#[]⟩⟩:V)]).map V.tree,false⟩],[.box 1 0,.any,nI z,nI (z%3),nI (1+(z%3)),.agg [iT 1,nI (1+z%3),sT (⟨#[]⟩)],.sl [.agg [iT 1,nI (1+z%3),sT (⟨#[]⟩)]],.own 1,.box 1 0,.any]⟩ (by kernel_rfl) Z (by kernel_rfl) (by kernel_rfl) (by kernel_rfl) Z Z ?_ ?_
    ·refine .opp [] (.okk rfl (av rfl rfl b9 rfl)<|.fin)<|.opp [0] (.okk rfl (aA rfl rfl rfl cU rfl)<|.fin)<|.opp [] (.okk rfl (au rfl rfl)<|.fin)<|.opp [2] (.okk rfl (ai rfl rfl rfl (fun w=>lC z 3 (by omega) w))<|.fin)<|.opp [3] (.okk rfl (ah (ai rfl rfl rfl Zy) (bi (by omega)))<|.fin)<|.opp [4] (.okk rfl (ak rfl (pM _) rfl rfl)<|.fin)<|.opp [5] (.okk rfl (aQ rfl bq fx rfl (by decide) (by decide) rfl rfl rfl rfl rfl)<|.fin)<|.opp [1,6] (.wr 1 (mb 1) (.own 1) (by kernel_rfl) rfl rfl (kP rfl rfl rfl gR rfl rfl rfl rfl (by intro e o;simp only[Mi,Nf,or_false]at o;subst o;rfl) (AllC.lit rfl) (AllC.lit rfl) (by simp only[L5,L9,Mg];omega) rfl rfl (by rw[MX];rfl)) rfl rfl rfl rfl (.k rfl (.k rfl (.k rfl (.k rfl (.k rfl (.k rfl (.k rfl (.i rfl (.k rfl (.k rfl .nil))))))))))<|.fin)<|.opp [] (.no (by kernel_rfl)<|.okk rfl (av rfl rfl b9 rfl)<|.fin)<|.opp [7,8] (.no (by kernel_rfl)<|.wr 2 id .any (by kernel_rfl) rfl rfl (gE rfl rfl rfl rfl rfl rfl rfl rfl Bh rfl rfl rfl) rfl rfl rfl rfl (.k rfl (.k rfl (.k rfl (.k rfl (.k rfl (.k rfl (.k rfl (.k rfl (.k rfl (.i rfl .nil))))))))))<|.fin)<|.nil
    refine ae<|aa 1 Z<|af (t:=nI (z/3)) Z Z Z (ai Z Z Z (fun w=>wj z 3 (by omega) (by omega) w))<|aa 1 Z<|ag<|ae<|aa 1 Z<|af (t:=nI (j+1)) Z Z Z (ah (ai Z Z Z Zy) (bi (by omega)))<|aa 1 Z<|ag<|⟨_,_,?_,⟨j+1,a++[(⟨1,((1+z%3:Nat):Int),⟨#[]⟩⟩:V)],z/3,?_,Z,Z⟩,.rf⟩
    ·omega
    refine⟨by omega,by simp[O],by omega,fun v g=>?_⟩;rcases Mw.1 g with h|h
    ·exact d v h
    rw[Mm.1 h];exact⟨by show 0<=_;omega,by show-9223372036854775808<=((1+z%3:Nat):Int);omega,by show((1+z%3:Nat):Int)<=9223372036854775807;omega⟩
   refine aT<|ab ?_;by_cases o:bP r (⟨a,q⟩:Tp)=0
   ·refine ek 1 (bs':=[(30,(aV r)),(67,[.sl (a.map V.tree),bT (decide (q.num<0)),aH q.num.natAbs,aH q.den])]) (rs':=[some ⟨30,4,b.map Rel.tree,false⟩,none]) Z Z Z Z ?_;have G:a.length<=65536:=by omega
    have u:yO ⟨a,q⟩:=fun v g=>(d v g).1
    have J:∀v∈(⟨a,q⟩:Tp).vals,v.rng:=fun v g=>(d v g).2
    refine ae<|aa 2 Z<|af (t:=.tup [.agg [sT ((bU r (⟨a,q⟩:Tp)).sch.name),bT ((bU r (⟨a,q⟩:Tp)).sch.cert),.sl (((bU r (⟨a,q⟩:Tp)).sch.cols).map Col.tree),.sl (((bU r (⟨a,q⟩:Tp)).tups).map Tp.tree)],iT 0]) Z Z Z (ak Z (by have h:=ga r ⟨a,q⟩ (F.1.fit).1 F.1.str (l6 E) u G;rw[rL o]at h;exact h) Z Z)<|aa 6 Z<|ag<|ab<|ae<|aa 1 Z<|af (t:=bT (decide (0=0))) Z Z Z (ah (ai Z Z Z Zy) (ar (jF 0 0)))<|ag<|aD Z (fun I=>?_) (fun I=>?_)
    ·refine aj 2 Z<|ae<|aa 1 Z<|af (t:=nI (k+1)) Z Z Z (ah (ai Z Z Z Zy) (bi (by omega)))<|aa 1 Z<|ag<|⟨_,_,?_,⟨k+1,(bU r (⟨a,q⟩:Tp)),?_,Z,Z⟩,.rf⟩
     ·omega
     exact⟨by omega,zh F S o E u J⟩
    exact absurd Z I
   refine ek 1 (bs':=[(30,(aV r)),(67,[.sl (a.map V.tree),bT (decide (q.num<0)),aH q.num.natAbs,aH q.den])]) (rs':=[some ⟨30,4,b.map Rel.tree,false⟩,none]) Z Z Z Z ?_;have G:a.length<=65536:=by omega
   have u:yO ⟨a,q⟩:=fun v g=>(d v g).1
   have J:∀v∈(⟨a,q⟩:Tp).vals,v.rng:=fun v g=>(d v g).2
   refine ae<|aa 2 Z<|af (t:=.tup [.agg eD,iT (bP r (⟨a,q⟩:Tp))]) Z Z Z (ak Z (by have h:=ga r ⟨a,q⟩ (F.1.fit).1 F.1.str (l6 E) u G;rw[pL o]at h;exact h) Z Z)<|aa 6 Z<|ag<|ab<|ae<|aa 1 Z<|af (t:=bT ((bP r (⟨a,q⟩:Tp))==0)) Z Z Z (ai Z Z Z Zy)<|ag<|aF Z (fun L=>?_) (fun L=>?_)
   ·exact absurd (by simpa using L) o
   refine am<|ae<|aa 1 Z<|af (t:=nI (k+1)) Z Z Z (ah (ai Z Z Z Zy) (bi (by omega)))<|aa 1 Z<|ag<|⟨_,_,?_,⟨k+1,r,?_,Z,Z⟩,.rf⟩
   ·omega
   exact⟨by omega,F.more⟩
  refine aT<|ae<|aa 2 rfl<|af (t:=.sl [.agg (aV r)]) rfl rfl rfl (aQ rfl tK j4 rfl (by decide) (by decide) rfl rfl rfl rfl rfl)<|cg (bs':=[(30,(aV r))]) (rs':=[some ⟨30,4,(b++[r]).map Rel.tree,false⟩]) rfl rfl rfl rfl Bm rfl rfl rfl rfl (by intro e o;simp only[Mi,Nf,or_false]at o;subst o;rfl) (AllC.lit rfl) (AllC.lit rfl) (by simp only[L5,L9,Mg];omega) rfl rfl rfl (by rw[MX];rfl)<|aa 1 rfl<|ag<|ae<|aa 1 rfl<|af (t:=nI (i+1)) rfl rfl rfl (ah (ai rfl rfl rfl Zy) (bi (by omega)))<|aa 1 rfl<|ag<|⟨_,_,?_,⟨i+1,b++[r],?_,rfl,rfl⟩,.rf⟩
  ·omega
  refine⟨by omega,by simp[R],fun x U=>?_⟩;rcases Mw.1 U with h|h
  ·exact N x h
  rw[Mm.1 h];exact F.1
 refine aT<|ab<|ek 0 (bs':=[]) (rs':=[none]) Z Z Z Z<|aj 2 Z<|aw<|⟨_,⟨b,by omega,N,Z⟩,.inr Z,_,.cons Z .nil,Z,Z⟩
def dA(x:ByteArray)(k:Nat):Tp:=⟨[⟨2,0,x⟩,⟨1,((k/2^3:Nat):Int)-20,⟨#[]⟩⟩],dd (k/2^5)⟩
theorem CO{a:Int}(h: -9223372036854775808<=a)(b:a<=9223372036854775807):(Tree.sc (.int .i64 (IntKind.i64.wrap a)))=iT a:=by
 rw[Np];congr 2;omega
theorem jg{x:ByteArray}(n:Nat):(dA x n).prob∈iy:=vf _
theorem mM{x:ByteArray}(h:x.size<=5)(n:Nat):yO (dA x n):=fun v a=>by
 simp only[dA,Mi,NU,or_false]at a;rcases a with rfl|rfl
 ·show x.size<=_;omega
 show 0<=_;omega
theorem GN(x:ByteArray){n:Nat}(h:n<4294967296):∀v∈(dA x n).vals,v.rng:=fun v a=>by
 simp only[dA,Mi,NU,or_false]at a;rcases a with rfl|rfl
 ·exact⟨by show(-9223372036854775808:Int)<=0;omega,by show(0:Int)<=9223372036854775807;omega⟩
 exact⟨by show-9223372036854775808<=((n/2^3:Nat):Int)-20;omega,by show((n/2^3:Nat):Int)-20<=9223372036854775807;omega⟩
theorem ln:gz Tryz.prog 9=some [.string (⟨#[]⟩)]:=by kernel_rfl
theorem GO(l:List Int)(s:l.length<=9223372036854775807):CtE 12 [.sl (l.map gK)] (fun c=>∃r:Rel,Good r/\c=r.tree):=by
 refine CtE.of (n:=55) Tryz.func12 Z Z Z Z Z fun w0 G0=>?_
 refine ab<|aj 1 Z<|ab<|ae<|aa 1 Z<|ki (fun c=>∃n:Nat,n<4294967296/\c=nI n) Z Z Z (kQ Z (CM l 0 s (by omega)) Z Z) ?_;rintro _ ⟨n,E,rfl⟩;refine aa 1 Z<|ag<|ab<|ab<|ae<|aa 1 Z<|af (t:=nI (n%5)) Z Z Z (ai Z Z Z (fun w=>lC n 5 (by omega) w))<|af (t:=bT (decide (n%5<4))) Z Z Z (ah (ai Z Z Z Zy) (ar (gA (n%5) 4)))<|ag<|aD Z (fun p=>?_) (fun p=>?_)
 ·refine ab<|ae<|aa 1 Z<|ki (fun c=>∃b:List Rel,b.length=4/\(∀r∈b,Good r)/\c=.sl (b.map Rel.tree)) Z Z Z (kQ Z (xf l s) Z Z) ?_;rintro _ ⟨b,C,u,rfl⟩;obtain⟨e,o⟩:∃e,b[n%5]? =some e:=⟨_,L3 (by omega)⟩;have v:=u e (L7 o);refine aa 1 Z<|af (t:=nI (n%5)) Z Z Z (ai Z Z Z (fun w=>lC n 5 (by omega) w))<|af (t:=.ref (aV e)) Z Z Z (aM (Rel.tree e) Z tK Z Z Z (aS (f:=Rel.tree) o) (Eg _) Z)<|aa 2 Z<|ag<|aw<|⟨_,⟨e,v,Z⟩,.inr Z,_,.cons ⟨_,_,_,_,Z,Z,.inl ⟨_,bj,Z,Z⟩⟩ .nil,Z,Z⟩
 refine am<|ab<|ae<|af Z Z Z (ak Z pO Z Z)<|aa 3 Z<|ag<|ab<|ab<|aj 1 Z<|aB<|aR (fun y z=>∃(i:Nat) (r:Rel),(1<=i/\i<=4/\GoodK gL (i-1) r)/\y=4-i/\z=⟨55,[(0,.sl (l.map gK)),(2,.box 0 0),(3,nI n),(4,.box 1 0),(5,nI i)],[(30,eD),(30,(aV r))],[]⟩) 2 0 ⟨1,⟨gL,[]⟩,⟨by omega,by omega,tF (.inr Z)⟩,Z,Z⟩ .rf ?_;rintro y z ⟨i,r,⟨A,D,a⟩,rfl,rfl⟩;refine ab<|ab<|ae<|aa 1 Z<|af (t:=bT (decide (i<4))) Z Z Z (ah (ai Z Z Z Zy) (ar (gA i 4)))<|ag<|aD Z (fun x=>?_) (fun x=>?_)
 ·refine am<|ab<|aB<|ab<|ae<|aa 2 Z<|ki (fun c=>∃n:Nat,n<4294967296/\c=nI n) Z Z Z (kQ Z (CM l i s (by omega)) Z Z) ?_;rintro _ ⟨m,B,rfl⟩;refine aa 1 Z<|ag<|ab<|ae<|af (t:=.sl (b7.map bG)) Z Z Z (ah (aQ Z cD ln Z (by decide) (by decide) Z Z Z Z Z) (rfl))<|aa 1 Z<|af (t:=nI (m%5)) Z Z Z (ai Z Z Z (fun w=>lC m 5 (by omega) w))<|af (t:=.ref [sT (b7.getD (m%5) ⟨#[]⟩)]) Z Z Z (aM (bG (b7.getD (m%5) ⟨#[]⟩)) Z cD Z Z Z (aS (f:=bG) (ll m).1) (fM _) Z)<|aa 2 Z<|ag<|ab ?_;by_cases d:bP r (dA (b7.getD (m%5) ⟨#[]⟩) m)=0
  ·refine hH (sl':=[(0,.sl (l.map gK)),(2,.box 0 0),(3,nI n),(4,.box 1 0),(5,nI i),(24,bT (decide (i<4))),(6,nI m),(7,sT (b7.getD (m%5) ⟨#[]⟩))]) ⟨Z,⟨Z,⟨Z,⟨Z,⟨Z,⟨Z,⟨Z,⟨Z,trivial⟩⟩⟩⟩⟩⟩⟩⟩<|ff (fu:=1) [some 36,some 37,some 38,some 39,some 40,some 41,some 42,some 43,some 44,some 45,some 46,some 47,some 48,some 35,some 49,some 50,some 8,none,some 9] [16,17] [.agg (aV r),sT (b7.getD (m%5) ⟨#[]⟩),.agg [iT 2,iT 0,sT (b7.getD (m%5) ⟨#[]⟩)],nI m,nI (m/2^3),iT (((m/2^3:Nat):Int)-20),.agg [iT 1,iT (((m/2^3:Nat):Int)-20),sT (⟨#[]⟩)],.sl [.agg [iT 2,iT 0,sT (b7.getD (m%5) ⟨#[]⟩)],.agg [iT 1,iT (((m/2^3:Nat):Int)-20),sT (⟨#[]⟩)]],nI m,nI (m/2^5),.agg [bT (decide ((dd (m/2^5)).num<0)),aH ((dd (m/2^5)).num.natAbs),aH ((dd (m/2^5)).den)],.agg [.sl [.agg [iT 2,iT 0,sT (b7.getD (m%5) ⟨#[]⟩)],.agg [iT 1,iT (((m/2^3:Nat):Int)-20),sT (⟨#[]⟩)]],bT (decide ((dd (m/2^5)).num<0)),aH ((dd (m/2^5)).num.natAbs),aH ((dd (m/2^5)).den)],.tup [.agg [sT ((bU r (dA (b7.getD (m%5) ⟨#[]⟩) m)).sch.name),bT ((bU r (dA (b7.getD (m%5) ⟨#[]⟩) m)).sch.cert),.sl (((bU r (dA (b7.getD (m%5) ⟨#[]⟩) m)).sch.cols).map Col.tree),.sl (((bU r (dA (b7.getD (m%5) ⟨#[]⟩) m)).tups).map Tp.tree)],iT 0],.tup [.agg [sT ((bU r (dA (b7.getD (m%5) ⟨#[]⟩) m)).sch.name),bT ((bU r (dA (b7.getD (m%5) ⟨#[]⟩) m)).sch.cert),.sl (((bU r (dA (b7.getD (m%5) ⟨#[]⟩) m)).sch.cols).map Col.tree),.sl (((bU r (dA (b7.getD (m%5) ⟨#[]⟩) m)).tups).map Tp.tree)],iT 0],.agg [sT ((bU r (dA (b7.getD (m%5) ⟨#[]⟩) m)).sch.name),bT ((bU r (dA (b7.getD (m%5) ⟨#[]⟩) m)).sch.cert),.sl (((bU r (dA (b7.getD (m%5) ⟨#[]⟩) m)).sch.cols).map Col.tree),.sl (((bU r (dA (b7.getD (m%5) ⟨#[]⟩) m)).tups).map Tp.tree)],iT 0,.any,.any,iT 0] [⟨[16],[(0,.sl (l.map gK)),(2,.box 0 0),(3,nI n),(4,.box 1 0),(5,nI i),(24,bT (decide (i<4))),(6,nI m),(7,sT (b7.getD (m%5) ⟨#[]⟩))],[(30,eD),(30,(aV r)),(30,eD)],[],[.agg (aV r),sT (b7.getD (m%5) ⟨#[]⟩),.agg [iT 2,iT 0,sT (b7.getD (m%5) ⟨#[]⟩)],nI m,nI (m/2^3),iT (((m/2^3:Nat):Int)-20),.agg [iT 1,iT (((m/2^3:Nat):Int)-20),sT (⟨#[]⟩)],.sl [.agg [iT 2,iT 0,sT (b7.getD (m%5) ⟨#[]⟩)],.agg [iT 1,iT (((m/2^3:Nat):Int)-20),sT (⟨#[]⟩)]],nI m,nI (m/2^5),.agg [bT (decide ((dd (m/2^5)).num<0)),aH ((dd (m/2^5)).num.natAbs),aH ((dd (m/2^5)).den)],.agg [.sl [.agg [iT 2,iT 0,sT (b7.getD (m%5) ⟨#[]⟩)],.agg [iT 1,iT (((m/2^3:Nat):Int)-20),sT (⟨#[]⟩)]],bT (decide ((dd (m/2^5)).num<0)),aH ((dd (m/2^5)).num.natAbs),aH ((dd (m/2^5)).den)],.tup [.agg [sT ((bU r (dA (b7.getD (m%5) ⟨#[]⟩) m)).sch.name),bT ((bU r (dA (b7.getD (m%5) ⟨#[]⟩) m)).sch.cert),.sl (((bU r (dA (b7.getD (m%5) ⟨#[]⟩) m)).sch.cols).map Col.tree),.sl (((bU r (dA (b7.getD (m%5) ⟨#[]⟩) m)).tups).map Tp.tree)],iT 0],.tup [.agg [sT ((bU r (dA (b7.getD (m%5) ⟨#[]⟩) m)).sch.name),bT ((bU r (dA (b7.getD (m%5) ⟨#[]⟩) m)).sch.cert),.sl (((bU r (dA (b7.getD (m%5) ⟨#[]⟩) m)).sch.cols).map Col.tree),.sl (((bU r (dA (b7.getD (m%5) ⟨#[]⟩) m)).tups).map Tp.tree)],iT 0],.agg [sT ((bU r (dA (b7.getD (m%5) ⟨#[]⟩) m)).sch.name),bT ((bU r (dA (b7.getD (m%5) ⟨#[]⟩) m)).sch.cert),.sl (((bU r (dA (b7.getD (m%5) ⟨#[]⟩) m)).sch.cols).map Col.tree),.sl (((bU r (dA (b7.getD (m%5) ⟨#[]⟩) m)).tups).map Tp.tree)],iT 0,.box 2 0,.any,iT 0]⟩] ⟨[17,16],[(0,.sl (l.map gK)),(2,.box 0 0),(3,nI n),(4,.box 1 0),(5,nI i),(24,bT (decide (i<4))),(6,nI m),(7,sT (b7.getD (m%5) ⟨#[]⟩))],[(30,eD),(30,(aV r)),(30,[sT ((bU r (dA (b7.getD (m%5) ⟨#[]⟩) m)).sch.name),bT ((bU r (dA (b7.getD (m%5) ⟨#[]⟩) m)).sch.cert),.sl (((bU r (dA (b7.getD (m%5) ⟨#[]⟩) m)).sch.cols).map Col.tree),.sl (((bU r (dA (b7.getD (m%5) ⟨#[]⟩) m)).tups).map Tp.tree)])],[],[.agg (aV r),sT (b7.getD (m%5) ⟨#[]⟩),.agg [iT 2,iT 0,sT (b7.getD (m%5) ⟨#[]⟩)],nI m,nI (m/2^3),iT (((m/2^3:Nat):Int)-20),.agg [iT 1,iT (((m/2^3:Nat):Int)-20),sT (⟨#[]⟩)],.sl [.agg [iT 2,iT 0,sT (b7.getD (m%5) ⟨#[]⟩)],.agg [iT 1,iT (((m/2^3:Nat):Int)-20),sT (⟨#[]⟩)]],nI m,nI (m/2^5),.agg [bT (decide ((dd (m/2^5)).num<0)),aH ((dd (m/2^5)).num.natAbs),aH ((dd (m/2^5)).den)],.agg [.sl [.agg [iT 2,iT 0,sT (b7.getD (m%5) ⟨#[]⟩)],.agg [iT 1,iT (((m/2^3:Nat):Int)-20),sT (⟨#[]⟩)]],bT (decide ((dd (m/2^5)).num<0)),aH ((dd (m/2^5)).num.natAbs),aH ((dd (m/2^5)).den)],.tup [.agg [sT ((bU r (dA (b7.getD (m%5) ⟨#[]⟩) m)).sch.name),bT ((bU r (dA (b7.getD (m%5) ⟨#[]⟩) m)).sch.cert),.sl (((bU r (dA (b7.getD (m%5) ⟨#[]⟩) m)).sch.cols).map Col.tree),.sl (((bU r (dA (b7.getD (m%5) ⟨#[]⟩) m)).tups).map Tp.tree)],iT 0],.tup [.agg [sT ((bU r (dA (b7.getD (m%5) ⟨#[]⟩) m)).sch.name),bT ((bU r (dA (b7.getD (m%5) ⟨#[]⟩) m)).sch.cert),.sl (((bU r (dA (b7.getD (m%5) ⟨#[]⟩) m)).sch.cols).map Col.tree),.sl (((bU r (dA (b7.getD (m%5) ⟨#[]⟩) m)).tups).map Tp.tree)],iT 0],.agg [sT ((bU r (dA (b7.getD (m%5) ⟨#[]⟩) m)).sch.name),bT ((bU r (dA (b7.getD (m%5) ⟨#[]⟩) m)).sch.cert),.sl (((bU r (dA (b7.getD (m%5) ⟨#[]⟩) m)).sch.cols).map Col.tree),.sl (((bU r (dA (b7.getD (m%5) ⟨#[]⟩) m)).tups).map Tp.tree)],iT 0,.box 2 0,.any,iT 0]⟩ (by kernel_rfl) Z (by kernel_rfl) (by kernel_rfl) (by kernel_rfl) Z Z ?_ ?_
   ·refine .opp [] (.okk Z (aP Z Z Z bj Z Z)<|.okk Z (aP Z Z Z bj Z Z)<|.fin)<|.opp [] (.okk Z (au Z Z)<|.okk Z (au Z Z)<|.fin)<|.opp [1] (.okk Z (ak Z (rM _) Z Z)<|.okk Z (ak Z (rM _) Z Z)<|.fin)<|.opp [] (.okk Z (au Z Z)<|.okk Z (au Z Z)<|.fin)<|.opp [3] (.okk Z (ai Z Z Z (fun w=>jr m 3 (by decide) w))<|.okk Z (ai Z Z Z (fun w=>jr m 3 (by decide) w))<|.fin)<|.opp [4] (.okk Z (ah (ai Z Z Z Zy) (CO (by omega) (by omega)))<|.okk Z (ah (ai Z Z Z Zy) (CO (by omega) (by omega)))<|.fin)<|.opp [5] (.okk Z (ak Z (pM _) Z Z)<|.okk Z (ak Z (pM _) Z Z)<|.fin)<|.opp [2,6] (.okk Z (aQ Z bq fx Z (by decide) (by decide) Z Z Z Z Z)<|.okk Z (aQ Z bq fx Z (by decide) (by decide) Z Z Z Z Z)<|.fin)<|.opp [] (.okk Z (au Z Z)<|.okk Z (au Z Z)<|.fin)<|.opp [8] (.okk Z (ai Z Z Z (fun w=>jr m 5 (by decide) w))<|.okk Z (ai Z Z Z (fun w=>jr m 5 (by decide) w))<|.fin)<|.opp [9] (.okk Z (ak Z (pN _) Z Z)<|.okk Z (ak Z (pN _) Z Z)<|.fin)<|.opp [7,10] (.okk Z (g8 Z fZ Z Z Z)<|.okk Z (g8 Z fZ Z Z Z)<|.fin)<|.opp [0,11] (.okk Z (ak Z (by have h:=ga r (dA (b7.getD (m%5) ⟨#[]⟩) m) (a.1.fit).1 a.1.str (l6 (jg _)) (mM (ll _).2 _) (by show 2<=65536;decide);rw[rL d]at h;exact h) Z Z)<|.okk Z (ak Z (by have h:=ga r (dA (b7.getD (m%5) ⟨#[]⟩) m) (a.1.fit).1 a.1.str (l6 (jg _)) (mM (ll _).2 _) (by show 2<=65536;decide);rw[rL d]at h;exact h) Z Z)<|.fin)<|.opp [12] (.okk Z (au Z Z)<|.okk Z (au Z Z)<|.fin)<|.opp [13] (.okk Z (cT Z Z Z)<|.okk Z (cT Z Z Z)<|.fin)<|.opp [13] (.okk Z (cT Z Z Z)<|.okk Z (cT Z Z Z)<|.okk Z (cT Z Z Z)<|.nil)<|.opp [] (.wr 1 id (.box 2 0) (by kernel_rfl) Z Z (i7 Z Z Z j4 Z Z Z Z) Z Z Z Z (.k Z (.k Z (.k Z (.k Z (.k Z (.k Z (.k Z (.k Z (.k Z (.k Z (.k Z (.k Z (.k Z (.k Z (.k Z (.k Z (.i Z (.k Z (.k Z .nil)))))))))))))))))))<|.fin)<|.opp [14,16] (.no (by kernel_rfl)<|.wr 2 id .any (by kernel_rfl) Z Z (gE Z Z Z Z Z Z Z Z oe Z Z Z) Z Z Z Z (.k Z (.k Z (.k Z (.k Z (.k Z (.k Z (.k Z (.k Z (.k Z (.k Z (.k Z (.k Z (.k Z (.k Z (.k Z (.k Z (.k Z (.i Z (.k Z .nil)))))))))))))))))))<|.fin)<|.opp [15] (.nos 2<|.okk Z (bp Z Z)<|.nil)<|.nil
   refine ab<|ae<|aa 1 Z<|af (t:=bT (decide (0=0))) Z Z Z (ah (ai Z Z Z Zy) (ar (jF 0 0)))<|ag<|aD Z (fun g=>?_) (fun g=>?_)
   ·refine aj 2 Z<|ae<|aa 1 Z<|af (t:=nI (i+1)) Z Z Z (ah (ai Z Z Z Zy) (bi (by omega)))<|aa 1 Z<|ag<|⟨_,_,?_,⟨i+1,(bU r (dA (b7.getD (m%5) ⟨#[]⟩) m)),?_,Z,Z⟩,.rf⟩
    ·omega
    refine⟨by omega,by omega,?_⟩;have q:=zh a (by omega) d (jg _) (mM (ll _).2 _) (GN _ B);rwa[show i-1+1=i+1-1 from by omega]at q
   exact absurd Z g
  refine hH (sl':=[(0,.sl (l.map gK)),(2,.box 0 0),(3,nI n),(4,.box 1 0),(5,nI i),(24,bT (decide (i<4))),(6,nI m),(7,sT (b7.getD (m%5) ⟨#[]⟩))]) ⟨Z,⟨Z,⟨Z,⟨Z,⟨Z,⟨Z,⟨Z,⟨Z,trivial⟩⟩⟩⟩⟩⟩⟩⟩<|ff (fu:=1) [some 36,some 37,some 38,some 39,some 40,some 41,some 42,some 43,some 44,some 45,some 46,some 47,some 48,some 35,some 49,some 50,some 8,none,some 9] [16,17] [.agg (aV r),sT (b7.getD (m%5) ⟨#[]⟩),.agg [iT 2,iT 0,sT (b7.getD (m%5) ⟨#[]⟩)],nI m,nI (m/2^3),iT (((m/2^3:Nat):Int)-20),.agg [iT 1,iT (((m/2^3:Nat):Int)-20),sT (⟨#[]⟩)],.sl [.agg [iT 2,iT 0,sT (b7.getD (m%5) ⟨#[]⟩)],.agg [iT 1,iT (((m/2^3:Nat):Int)-20),sT (⟨#[]⟩)]],nI m,nI (m/2^5),.agg [bT (decide ((dd (m/2^5)).num<0)),aH ((dd (m/2^5)).num.natAbs),aH ((dd (m/2^5)).den)],.agg [.sl [.agg [iT 2,iT 0,sT (b7.getD (m%5) ⟨#[]⟩)],.agg [iT 1,iT (((m/2^3:Nat):Int)-20),sT (⟨#[]⟩)]],bT (decide ((dd (m/2^5)).num<0)),aH ((dd (m/2^5)).num.natAbs),aH ((dd (m/2^5)).den)],.tup [.agg eD,iT (bP r (dA (b7.getD (m%5) ⟨#[]⟩) m))],.tup [.agg eD,iT (bP r (dA (b7.getD (m%5) ⟨#[]⟩) m))],.agg eD,iT (bP r (dA (b7.getD (m%5) ⟨#[]⟩) m)),.any,.any,iT (bP r (dA (b7.getD (m%5) ⟨#[]⟩) m))] [⟨[16],[(0,.sl (l.map gK)),(2,.box 0 0),(3,nI n),(4,.box 1 0),(5,nI i),(24,bT (decide (i<4))),(6,nI m),(7,sT (b7.getD (m%5) ⟨#[]⟩))],[(30,eD),(30,(aV r)),(30,eD)],[],[.agg (aV r),sT (b7.getD (m%5) ⟨#[]⟩),.agg [iT 2,iT 0,sT (b7.getD (m%5) ⟨#[]⟩)],nI m,nI (m/2^3),iT (((m/2^3:Nat):Int)-20),.agg [iT 1,iT (((m/2^3:Nat):Int)-20),sT (⟨#[]⟩)],.sl [.agg [iT 2,iT 0,sT (b7.getD (m%5) ⟨#[]⟩)],.agg [iT 1,iT (((m/2^3:Nat):Int)-20),sT (⟨#[]⟩)]],nI m,nI (m/2^5),.agg [bT (decide ((dd (m/2^5)).num<0)),aH ((dd (m/2^5)).num.natAbs),aH ((dd (m/2^5)).den)],.agg [.sl [.agg [iT 2,iT 0,sT (b7.getD (m%5) ⟨#[]⟩)],.agg [iT 1,iT (((m/2^3:Nat):Int)-20),sT (⟨#[]⟩)]],bT (decide ((dd (m/2^5)).num<0)),aH ((dd (m/2^5)).num.natAbs),aH ((dd (m/2^5)).den)],.tup [.agg eD,iT (bP r (dA (b7.getD (m%5) ⟨#[]⟩) m))],.tup [.agg eD,iT (bP r (dA (b7.getD (m%5) ⟨#[]⟩) m))],.agg eD,iT (bP r (dA (b7.getD (m%5) ⟨#[]⟩) m)),.box 2 0,.any,iT (bP r (dA (b7.getD (m%5) ⟨#[]⟩) m))]⟩] ⟨[17,16],[(0,.sl (l.map gK)),(2,.box 0 0),(3,nI n),(4,.box 1 0),(5,nI i),(24,bT (decide (i<4))),(6,nI m),(7,sT (b7.getD (m%5) ⟨#[]⟩))],[(30,eD),(30,(aV r)),(30,eD)],[],[.agg (aV r),sT (b7.getD (m%5) ⟨#[]⟩),.agg [iT 2,iT 0,sT (b7.getD (m%5) ⟨#[]⟩)],nI m,nI (m/2^3),iT (((m/2^3:Nat):Int)-20),.agg [iT 1,iT (((m/2^3:Nat):Int)-20),sT (⟨#[]⟩)],.sl [.agg [iT 2,iT 0,sT (b7.getD (m%5) ⟨#[]⟩)],.agg [iT 1,iT (((m/2^3:Nat):Int)-20),sT (⟨#[]⟩)]],nI m,nI (m/2^5),.agg [bT (decide ((dd (m/2^5)).num<0)),aH ((dd (m/2^5)).num.natAbs),aH ((dd (m/2^5)).den)],.agg [.sl [.agg [iT 2,iT 0,sT (b7.getD (m%5) ⟨#[]⟩)],.agg [iT 1,iT (((m/2^3:Nat):Int)-20),sT (⟨#[]⟩)]],bT (decide ((dd (m/2^5)).num<0)),aH ((dd (m/2^5)).num.natAbs),aH ((dd (m/2^5)).den)],.tup [.agg eD,iT (bP r (dA (b7.getD (m%5) ⟨#[]⟩) m))],.tup [.agg eD,iT (bP r (dA (b7.getD (m%5) ⟨#[]⟩) m))],.agg eD,iT (bP r (dA (b7.getD (m%5) ⟨#[]⟩) m)),.box 2 0,.any,iT (bP r (dA (b7.getD (m%5) ⟨#[]⟩) m))]⟩ (by kernel_rfl) Z (by kernel_rfl) (by kernel_rfl) (by kernel_rfl) Z Z ?_ ?_
  ·refine .opp [] (.okk Z (aP Z Z Z bj Z Z)<|.okk Z (aP Z Z Z bj Z Z)<|.fin)<|.opp [] (.okk Z (au Z Z)<|.okk Z (au Z Z)<|.fin)<|.opp [1] (.okk Z (ak Z (rM _) Z Z)<|.okk Z (ak Z (rM _) Z Z)<|.fin)<|.opp [] (.okk Z (au Z Z)<|.okk Z (au Z Z)<|.fin)<|.opp [3] (.okk Z (ai Z Z Z (fun w=>jr m 3 (by decide) w))<|.okk Z (ai Z Z Z (fun w=>jr m 3 (by decide) w))<|.fin)<|.opp [4] (.okk Z (ah (ai Z Z Z Zy) (CO (by omega) (by omega)))<|.okk Z (ah (ai Z Z Z Zy) (CO (by omega) (by omega)))<|.fin)<|.opp [5] (.okk Z (ak Z (pM _) Z Z)<|.okk Z (ak Z (pM _) Z Z)<|.fin)<|.opp [2,6] (.okk Z (aQ Z bq fx Z (by decide) (by decide) Z Z Z Z Z)<|.okk Z (aQ Z bq fx Z (by decide) (by decide) Z Z Z Z Z)<|.fin)<|.opp [] (.okk Z (au Z Z)<|.okk Z (au Z Z)<|.fin)<|.opp [8] (.okk Z (ai Z Z Z (fun w=>jr m 5 (by decide) w))<|.okk Z (ai Z Z Z (fun w=>jr m 5 (by decide) w))<|.fin)<|.opp [9] (.okk Z (ak Z (pN _) Z Z)<|.okk Z (ak Z (pN _) Z Z)<|.fin)<|.opp [7,10] (.okk Z (g8 Z fZ Z Z Z)<|.okk Z (g8 Z fZ Z Z Z)<|.fin)<|.opp [0,11] (.okk Z (ak Z (by have h:=ga r (dA (b7.getD (m%5) ⟨#[]⟩) m) (a.1.fit).1 a.1.str (l6 (jg _)) (mM (ll _).2 _) (by show 2<=65536;decide);rw[pL d]at h;exact h) Z Z)<|.okk Z (ak Z (by have h:=ga r (dA (b7.getD (m%5) ⟨#[]⟩) m) (a.1.fit).1 a.1.str (l6 (jg _)) (mM (ll _).2 _) (by show 2<=65536;decide);rw[pL d]at h;exact h) Z Z)<|.fin)<|.opp [12] (.okk Z (au Z Z)<|.okk Z (au Z Z)<|.fin)<|.opp [13] (.okk Z (cT Z Z Z)<|.okk Z (cT Z Z Z)<|.fin)<|.opp [13] (.okk Z (cT Z Z Z)<|.okk Z (cT Z Z Z)<|.okk Z (cT Z Z Z)<|.nil)<|.opp [] (.wr 1 id (.box 2 0) (by kernel_rfl) Z Z (i7 Z Z Z j4 Z Z Z Z) Z Z Z Z (.k Z (.k Z (.k Z (.k Z (.k Z (.k Z (.k Z (.k Z (.k Z (.k Z (.k Z (.k Z (.k Z (.k Z (.k Z (.k Z (.i Z (.k Z (.k Z .nil)))))))))))))))))))<|.fin)<|.opp [14,16] (.no (by kernel_rfl)<|.wr 2 id .any (by kernel_rfl) Z Z (gE Z Z Z Z Z Z Z Z oe Z Z Z) Z Z Z Z (.k Z (.k Z (.k Z (.k Z (.k Z (.k Z (.k Z (.k Z (.k Z (.k Z (.k Z (.k Z (.k Z (.k Z (.k Z (.k Z (.k Z (.i Z (.k Z .nil)))))))))))))))))))<|.fin)<|.opp [15] (.nos 2<|.okk Z (bp Z Z)<|.nil)<|.nil
  refine ab<|ae<|aa 1 Z<|af (t:=bT ((bP r (dA (b7.getD (m%5) ⟨#[]⟩) m))==0)) Z Z Z (ai Z Z Z Zy)<|ag<|aF Z (fun j=>?_) (fun j=>?_)
  ·exact absurd (by simpa using j) d
  refine am<|ae<|aa 1 Z<|af (t:=nI (i+1)) Z Z Z (ah (ai Z Z Z Zy) (bi (by omega)))<|aa 1 Z<|ag<|⟨_,_,?_,⟨i+1,r,?_,Z,Z⟩,.rf⟩
  ·omega
  refine⟨by omega,by omega,?_⟩;have q:=a.more;rwa[show i-1+1=i+1-1 from by omega]at q
 refine aT<|ab<|aj 2 Z<|aw<|⟨_,⟨r,a.1,Z⟩,.inr Z,_,.cons ⟨_,_,_,_,Z,Z,.inl ⟨_,bj,Z,Z⟩⟩ .nil,Z,Z⟩
def iz(cert:Bool)(t:Tp):List UInt8:=be 0 t.vals++(if cert then []else 58::(eG t.prob).data.toList)
theorem Bn(cert:Bool)(t:Tp):lk cert t=iz cert t++[10]:=by unfold lk iz;simp
theorem zk:∀{cs:List Col} {vs:List V},fa cs vs=false->vs.length=cs.length->∀v∈vs,v.ok=true
 |[],[],_,_,v,h=>by cases h
 |[],_::_,_,h,_,_=>by simp at h
 |_::_,[],_,h,_,_=>by simp at h
 |c::cs,u::vs,h,hl,v,a=>by
  rw[fa]at h;simp only[Mo,Pa]at h;rcases Mi.1 a with rfl|a
  ·exact h.1.2
  exact zk h.2 (by simpa using hl) v a
theorem Ei{q:Rat}(h:ik true q=true):q=1:=by
 unfold ik at h;simp only[L8,Ng,Mo,Of,bne_eq_false_iff_eq]at h;have:=(qk _).1 h.1.2
 grind
structure LnOK (s:Sch) (t:Tp):Prop where
 c:bM s t=0
 q:t.prob∈iy
 r:∀v∈t.vals,v.rng
theorem LnOK.vok{s:Sch}{t:Tp}(h:LnOK s t):∀v∈t.vals,tJ v:=fun v a=>⟨zk (eF h.c).2.2.2 (eF h.c).1 v a,h.r v a⟩
theorem nu:∀(vs:List V) (i:Nat),0<i->vs.length<=(be i vs).length
 |[],_,_=>L4 _
 |v::vs,i,hi=>by
  have:=nu vs (i+1) (by omega);rw[be,if_pos hi];simp only[Mb,L9,Mg];omega
theorem vk:∀(vs:List V) (i:Nat),(∀v∈vs,v.rng)->(be i vs).length<=vs.length*131
 |[],_,_=>L4 _
 |v::vs,i,h=>by
  have d:=vk vs (i+1) fun x a=>h x (Ms _ a)
  have c:=tC v (h v (Ml ..));have b:(if 0<i then [(44:UInt8)]else []).length<=1:=by split<;>simp
  rw[be];simp only[Mb,L9];omega
theorem vm:∀(vs:List V) (i:Nat),(∀v∈vs,tJ v)->∀c∈be i vs,32<=c.toNat/\c.toNat<=126
 |[],_,_,c,a=>by cases a
 |v::vs,i,h,c,a=>by
  rw[be]at a;simp only[Mw]at a;rcases a with a|a|a
  ·split at a
   ·rw[Mm.1 a];decide
   cases a
  ·exact Ko (h v (Ml ..)).1 c a
  exact vm vs (i+1) (fun x b=>h x (Ms _ b)) c a
theorem CP{s:Sch}{t:Tp}(h:LnOK s t):∀c∈iz s.cert t,32<=c.toNat/\c.toNat<=126:=fun c a=>by
 unfold iz at a;rcases Mw.1 a with a|a
 ·exact vm _ _ h.vok c a
 split at a
 ·cases a
 rcases Mi.1 a with rfl|a
 ·decide
 have:=Mh.1 (mL h.q).2.1 c a;simpa using this
theorem zl{s:Sch}{t:Tp}(h:LnOK s t):(iz s.cert t).length<=795/\1<=(iz s.cert t).length:=by
 have m:=vk t.vals 0 h.r;have j:=(gY (eF h.c).2.2.1);have d:=(eF h.c).1;have i:=(mL h.q).2.2;have f:(eG t.prob).data.toList.length=(eG t.prob).size:=by simp
 constructor
 ·unfold iz;rw[Mb];split
  ·simp only[Mg];omega
  simp only[L9,f];omega
 have b:=h.vok;unfold iz;cases a:t.vals with
 |nil=>rw[a]at d;simp at d;omega
 |cons v vs=>
  rw[a]at b;have k:1<=v.fmt.length:=by
   rcases ns (b v (Ml ..)).1 with e|⟨l,_,e⟩
   ·obtain⟨c,r,g,_⟩:=iE v.n;rw[e,g];simp
   rw[e];simp
  rw[be];simp only[Mb];omega
theorem Ej{s:Sch}{t:Tp}(h:LnOK s t):(bW (bs (iz s.cert t)) s.cert).ok=true/\g5 (bW (bs (iz s.cert t)) s.cert)=t:=by
 obtain⟨p,f,m,_⟩:=eF h.c;have i:=gY m;have g:=h.vok;obtain⟨b,prob⟩:=t;cases b with
 |nil=>simp at p;omega
 |cons v vs=>
  have k:∀rest,SepE rest->iq ((bs (be 0 (v::vs)++rest)).size+1) (bs (be 0 (v::vs)++rest)) []=some (v::vs,bs rest):=fun rest a=>by
   have e:be 0 (v::vs)++rest=v.fmt++(be 1 vs++rest):=by rw[be,if_neg (by omega)];simp
   have r:=nu vs 1 (by omega);rw[e];refine nt a vs v _ [] ?_ (g v (Ml ..)) fun x n=>g x (Ms _ n)
   rw[eV];simp only[Mb];omega
  cases o:s.cert with
  |true=>
   rw[o]at f;obtain rfl:prob=1:=Ei f;have d:=k [] (.inl Z);unfold bW iz;rw[if_pos Z,d];refine⟨beq_self_eq_true (⟨#[]⟩:ByteArray).toList,?_⟩;show(⟨v::vs,dH (decide ((1:Rat).num<0)) (1:Rat).num.natAbs (1:Rat).den⟩:Tp)=_
   rw[ei]
  |false=>
   have d:=k (58::(eG prob).data.toList) (.inr ⟨_,Z⟩);have j:=(mL h.q).1;have l:(bs (58::(eG prob).data.toList)).extract 1 (bs (58::(eG prob).data.toList)).size=eG prob:=by
    have:=l7 [58] (eG prob).data.toList;rw[lm]at this;exact this
   unfold bW iz;rw[if_neg (by simp),d];simp only;rw[if_neg (by simp),if_neg (by rw[de];simp[Lib.hasPrefix,List.isPrefixOf]),l,if_pos (by rw[j])];refine⟨Z,?_⟩;unfold g5;simp only;rw[j,ei]
theorem vo{vs:List V}:∀{ts:List Tp} {i:Nat},(∀t∈ts,aX t.vals vs≠0)->(iv vs ts i).isSome=false
 |[],_,_=>rfl
 |t::ts,i,h=>by
  rw[iv,if_neg (h t (Ml ..))];exact vo fun x a=>h x (Ms _ a)
theorem IU{s:Sch}{a b:List Tp}{t:Tp}(h:bw ⟨s,a++t::b⟩=0):c8 ⟨s,a++b⟩ t=0/\bU ⟨s,a++b⟩ t=⟨s,a++t::b⟩:=by
 obtain⟨z,r,o,q⟩:=iP.1 h;obtain⟨m,n⟩:=(gc _).1 o;have v:bw ⟨s,a++b⟩=0:=u6 h ((List.Sublist.refl a).append (List.sublist_cons_self t b));obtain⟨y,l,k⟩:=N8.1 n;have i:∀x∈a,aX x.vals t.vals<0:=fun x d=>k x d t (Ml ..)
 have p:∀x∈b,aX t.vals x.vals<0:=fun x d=>(N4.1 l).1 x d
 have f:∀x∈b,¬aX x.vals t.vals<0/\aX x.vals t.vals≠0:=fun x d=>by
  have u:=p x d;have w:=mC t.vals x.vals;omega
 have g:ql t.vals (a++b)=a.length:=by
  unfold ql;rw[List.takeWhile_append_of_pos (fun x d=>decide_eq_true (i x d))];cases b with
  |nil=>simp
  |cons x b=>rw[M0,if_neg (by simpa using(f x (Ml ..)).1)];simp
 have j:bU ⟨s,a++b⟩ t=⟨s,a++t::b⟩:=by
  unfold bU;simp only[g];simp
 refine⟨?_,j⟩;rw[qv];unfold bP;rw[if_neg (c:=bw ⟨s,a++b⟩≠0) (by omega),if_neg (c:=bM s t≠0) (by have e:bM s t=0:=m t (by simp);omega),if_neg (by
  rw[vo]
  ·simp
  intro x d;rcases Mw.1 d with d|d
  ·have:=i x d;omega
  exact(f x d).2),j]
 exact h
theorem nP(cert:Bool)(L:List ByteArray)(i:Nat)(r:Rel):cG cert (bs []::L) i r=cG cert L (i+1) r:=by
 rw[cG,if_pos (show((bs []).toList==(⟨#[]⟩:ByteArray).toList)=true from beq_self_eq_true (⟨#[]⟩:ByteArray).toList)]
theorem zm{s:Sch}{t:Tp}{a b:List Tp}(L:List ByteArray)(i:Nat)(f:bw ⟨s,a++t::b⟩=0)(h:LnOK s t):cG s.cert (bs (iz s.cert t)::L) i ⟨s,a++b⟩=cG s.cert L (i+1) ⟨s,a++t::b⟩:=by
 obtain⟨k,e⟩:=Ej h;obtain⟨j,d⟩:=IU f;have c:=(zl h).2;rw[cG,if_neg (by
  rw[Lib.toList_data,Lib.toList_data,de];cases g:iz s.cert t with
  |nil=>rw[g]at c;simp at c
  |cons x l=>simp),if_neg (by rw[k];simp),e,if_pos j,d]
theorem LT{s:Sch}{t:Tp}(h:LnOK s t):(10:UInt8)∉iz s.cert t:=fun a=>by
 have:=(CP h 10 a).1;exact absurd this (by decide)
def Ek(k:Nat)(cert:Bool)(us:List Tp):List UInt8:=us.flatMap fun t=>List.replicate k 10++(iz cert t++[10])
theorem CQ{s:Sch}{k:Nat}:∀(us:List Tp),(∀t∈us,LnOK s t)->(Ek k s.cert us).length<=us.length*(k+796)
 |[],_=>Mp _
 |t::us,h=>by
  have b:=CQ (k:=k) us fun x a=>h x (Ms _ a)
  have c:=(zl (h t (Ml ..))).1;unfold Ek at b⊢;rw[Pg];simp only[Mb,OU,L9,Mg,Nat.succ_mul];omega
theorem GP{s:Sch}{k:Nat}:∀(us:List Tp),(∀t∈us,LnOK s t)->LP (Ek k s.cert us)=true:=fun us h=>by
 refine Mh.2 fun c a=>decide_eq_true ?_
 obtain⟨t,b,a⟩:=List.mem_flatMap.1 a;simp only[Mw,Mm]at a;rcases a with a|a|rfl
 ·rw[(OA.1 a).2];decide
 ·have:=(CP (h t b) c a).2;omega
 decide
theorem IV{r:Rel}(h:Good r):∀t∈r.tups,LnOK r.sch t:=fun t a=>⟨((gc _).1 (iP.1 h.valid).2.2.1).1 t a,h.prob t a,h.rng t a⟩
theorem vq(cert:Bool)(j:Nat)(r:Rel):cG cert (dq (bs [])) j r=(r,0,0):=by
 have e:dq (bs [])=[bs []]:=l8 (by simp);rw[e,nP];rfl
end Go.Proofs.YtfoejfohbkmmeaaGreatDoor
