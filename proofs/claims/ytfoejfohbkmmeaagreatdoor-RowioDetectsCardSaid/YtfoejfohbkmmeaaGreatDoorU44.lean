import Derived.Test.YtfoejfohbkmmeaaGreatDoorU43
import Derived.Test.YtfoejfohbkmmeaaGreatDoorU08
import Derived.Test.YtfoejfohbkmmeaaGreatDoorU00
set_option maxRecDepth 100000
set_option maxHeartbeats 4000000
namespace Go.Proofs.YtfoejfohbkmmeaaGreatDoor
open Go.RowKit
open Lib renaming hid→J
theorem Gk{s:Sch}{i:Nat}(h:kO[i]? =some s):s∈kO\/s=gT:=.inl (L9 h)
theorem Good.small{r:Rel}(h:Good r):FitR r:=h.fit.1
theorem AT:lM Tryz.prog 74=some (30,4,72):=by kernel_rfl
theorem tB:gE Tryz.prog 74=some (30,4):=by kernel_rfl
theorem wC(l:List Int)(T:l.length<=9223372036854775807):CtE 36 [.sl (l.map gi)] (fun K=>∃b:List Rel,b.length=4/\(∀r∈b,Good r)/\K=.sl (b.map Rel.tree)):=by
 refine CtE.of (n:=95) Tryz.func36 Z Z Z Z Z fun w0 G0=>?_
 refine ab<|ae<|af (t:=.sl []) Z Z Z (cW (.inr Z) dI)<|ag<|ab<|ae<|g7 (k:=0) (e:=30) (sz:=4) (rs':=[some ⟨30,4,[].map Rel.tree,false⟩]) (.inr Z) Z Z Z Z Z<|ag<|ab<|ae<|af Z Z Z (ar Z AS Z Z)<|aa 1 Z<|ag<|ab<|ab<|aj 1 Z<|aE<|aW (fun B C=>∃(i:Nat) (b:List Rel),(i<=4/\b.length=i/\∀r∈b,Good r)/\B=4-i/\C=⟨95,[(0,.sl (l.map gi)),(3,.own 0),(4,.sl (kO.map Sch.tree)),(5,nI i)],[],[some ⟨30,4,b.map Rel.tree,false⟩]⟩) 0 1 ⟨0,[],⟨by omega,Z,fun r X=>by cases X⟩,Z,Z⟩ ⟨Z,Z,Z,.cons Z Z (.cons Z Z (.cons Z Z (.cons Z Z .nil))),Z⟩ ?_;rintro B C ⟨i,b,⟨hi,P,N⟩,rfl,rfl⟩;have Y:kO.length=4:=rfl;refine ab<|ab<|ae<|aa 2 Z<|af (t:=nI kO.length) Z Z Z (ah (bd Z jG Z) (by simp only[L8]))<|af (t:=bT (decide (i<kO.length))) Z Z Z (ah (ai Z Z Z Zy) (av (iu i kO.length)))<|ag<|aF Z (fun y=>?_) (fun y=>?_)
 ·replace y:i<4:=y;obtain⟨s,u⟩:∃s,kO[i]? =some s:=⟨_,L4 y⟩;have L:=Gk u;have U:=(pW L).1;refine ax<|ab<|aE<|ab<|ae<|aa 2 Z<|af (t:=.ref (dq s)) Z Z Z (aQ (Sch.tree s) Z jG Z Z Z (bf (f:=Sch.tree) u) (pU _) Z)<|aa 4 Z<|ag<|ab<|ab<|aj 1 Z<|aE<|aW (fun B C=>∃(k:Nat) (r:Rel),(k<=3/\GoodK s k r)/\B=3-k/\C=⟨95,[(0,.sl (l.map gi)),(3,.own 0),(4,.sl (kO.map Sch.tree)),(5,nI i),(6,.box 0 0),(7,nI k)],[(30,(aT r))],[some ⟨30,4,b.map Rel.tree,false⟩]⟩) 1 1 ⟨0,⟨s,[]⟩,⟨by omega,tu L⟩,Z,Z⟩ ⟨Z,Z,Z,.cons Z Z (.cons Z Z (.cons Z Z (.cons Z Z (.cons Z Z (.cons Z Z .nil))))),Z⟩ ?_;rintro B C ⟨k,r,⟨hk,F⟩,rfl,rfl⟩;refine ab<|ab<|ae<|aa 3 Z<|jP (fun K=>∃n:Nat,n<4294967296/\K=nI n) Z Z Z (kk Z (Cn l i T (by omega)) Z Z) ?_;rintro _ ⟨n,hn,rfl⟩;refine af (t:=nI (n%4)) Z Z Z (ai Z Z Z (fun w=>mF n 4 (by omega) w))<|af (t:=bT (decide (k<n%4))) Z Z Z (ah (ai Z Z Z Zy) (av (iu k (n%4))))<|aa 1 Z<|aA (t:=nI i) ((decide (k<n%4))=true) Z Z Z au Z Z (fun c=>aw Z Z)<|aA (t:=bT (decide (i=1))) ((decide (k<n%4))=true) Z Z Z au Z Z (fun c=>ah (ai Z (if_pos c) Z (fun _=>rfl)) (av (lY i 1)))<|aA (t:=bT (decide (i=1))) ((decide (k<n%4))=true) Z Z Z au Z Z (fun c=>aw Z (if_pos c))<|aA (t:=nI k) (((decide (k<n%4))=true)/\((decide (i=1))=true)) Z Z Z ee Z Z (fun c=>aw Z Z)<|aA (t:=bT (decide (k=2))) (((decide (k<n%4))=true)/\((decide (i=1))=true)) Z Z Z ee Z Z (fun c=>ah (ai Z (if_pos c) Z (fun _=>rfl)) (av (lY k 2)))<|aA (t:=bT ((decide (i=1))&&(decide (k=2)))) ((decide (k<n%4))=true) Z Z Z au Z Z (fun c=>aL Z (if_pos c) (fun p=>(if_pos ⟨c,p⟩).trans (av (by rw[p];rfl))) (fun p=>(av (by rw[p];rfl))))<|aA (t:=bT (!((decide (i=1))&&(decide (k=2))))) ((decide (k<n%4))=true) Z Z Z au Z Z (fun c=>ef Z (if_pos c) (fun _=>rfl))<|af (t:=bT ((decide (k<n%4))&&(!((decide (i=1))&&(decide (k=2)))))) Z Z Z (aL Z Z (fun p=>(if_pos p).trans (av (by rw[p];rfl))) (fun p=>(av (by rw[p];rfl))))<|ag<|aH Z (fun E=>?_) (fun E=>?_)
  ·have R:k<3:=by
    rw[Ma]at E;have:=of_decide_eq_true E.1;omega
   refine ax<|ab<|aE<|ab<|ae<|aa 2 Z<|af (t:=nI (3*i)) Z Z Z (ah (ai Z Z Z Zy) (bu (by omega)))<|af (t:=nI (4+(3*i))) Z Z Z (ah (ai Z Z Z Zy) (bu (by omega)))<|aa 1 Z<|af (t:=nI ((4+(3*i))+k)) Z Z Z (ah (ai Z Z Z Zy) (bu (by omega)))<|jP (fun K=>∃n:Nat,n<4294967296/\K=nI n) Z Z Z (kk Z (Cn l _ T (by omega)) Z Z) ?_;rintro _ ⟨m,hm,rfl⟩;refine aa 1 Z<|ag<|ab ?_;obtain⟨q,S⟩:∃q,(if s.cert=true then(((1:Nat):Nat):Rat)else bM (m/2^4))=q:=⟨_,rfl⟩;have H:q∈gW:=by
    rw[<-S];split
    ·exact DK
    exact uU _
   refine ae<|aa 1 Z<|af (t:=nI (m/2^4)) Z Z Z (ai Z Z Z (fun w=>iW m 4 (by decide) w))<|af Z Z Z (ar Z (pi _) Z Z)<|af (t:=.agg [.sc (.slice none 0 0),bT (decide ((bM (m/2^4)).num<0)),aM ((bM (m/2^4)).num.natAbs),aM ((bM (m/2^4)).den)]) Z Z Z (pr Z gt Z Z Z)<|aa 2 Z<|ag<|ab<|rE ⟨95,[(0,.sl (l.map gi)),(3,.own 0),(4,.sl (kO.map Sch.tree)),(5,nI i),(6,.box 0 0),(7,nI k),(8,nI m),(9,.box 1 0)],[(30,(aT r)),(67,[.sc (.slice none 0 0),bT (decide (q.num<0)),aM q.num.natAbs,aM q.den])],[some ⟨30,4,b.map Rel.tree,false⟩]⟩ 2 1 ?_ ?_
   ·refine ab<|ae<|aa 2 Z<|af (t:=.ref (dq s)) Z Z Z (aQ (Sch.tree s) Z jG Z Z Z (bf (f:=Sch.tree) u) (pU _) Z)<|aa 2 Z<|ag<|aH Z (fun D=>?_) (fun D=>?_)
    ·refine ae<|af Z Z Z (ar Z (rf 1 (by decide)) Z Z)<|aa 2 Z<|ag<|⟨Z,by rw[<-S,show(if s.cert=true then(((1:Nat):Nat):Rat)else bM (m/2^4))=_ from(if_pos D)];rfl,Z,.cons Z Z (.cons Z Z (.cons Z Z (.cons Z Z (.cons Z Z (.cons Z Z (.cons Z Z (.cons Z Z .nil))))))),Z⟩
    refine ax<|⟨Z,by rw[<-S,show(if s.cert=true then(((1:Nat):Nat):Rat)else bM (m/2^4))=_ from(if_neg (by rw[D];exact MR))];rfl,Z,.cons Z Z (.cons Z Z (.cons Z Z (.cons Z Z (.cons Z Z (.cons Z Z (.cons Z Z (.cons Z Z .nil))))))),Z⟩
   refine ab<|ab<|aj 1 Z<|aE<|mD 1 0 77 3 (bs':=[(30,(aT r)),(67,[.own 1,bT (decide (q.num<0)),aM q.num.natAbs,aM q.den])]) (rs':=[some ⟨30,4,b.map Rel.tree,false⟩,some ⟨77,3,[].map V.tree,false⟩]) Z Z Z Z<|aW (fun B C=>∃(j:Nat) (a:List V) (z:Nat),(j<=s.cols.length/\a.length=j/\z<4294967296/\∀v∈a,v.s.size<=9223372036854775807/\v.rng)/\B=s.cols.length-j/\C=⟨95,[(0,.sl (l.map gi)),(3,.own 0),(4,.sl (kO.map Sch.tree)),(5,nI i),(6,.box 0 0),(7,nI k),(8,nI z),(9,.box 1 0),(10,nI j)],[(30,(aT r)),(67,[.own 1,bT (decide (q.num<0)),aM q.num.natAbs,aM q.den])],[some ⟨30,4,b.map Rel.tree,false⟩,some ⟨77,3,a.map V.tree,false⟩]⟩) 2 2 ⟨0,[],m,⟨by omega,Z,hm,fun v g=>by cases g⟩,Z,Z⟩ ⟨Z,Z,Z,.cons Z Z (.cons Z Z (.cons Z Z (.cons Z Z (.cons Z Z (.cons Z Z (.cons Z Z (.cons Z Z (.cons Z Z .nil)))))))),Z⟩ ?_;rintro B C ⟨j,a,z,⟨hj,I,hz,d⟩,rfl,rfl⟩;refine ab<|ab<|ae<|aa 3 Z<|af (t:=.ref (dq s)) Z Z Z (aQ (Sch.tree s) Z jG Z Z Z (bf (f:=Sch.tree) u) (pU _) Z)<|aa 2 Z<|af (t:=nI s.cols.length) Z Z Z (ah (bd Z bi Z) (by simp only[L8]))<|af (t:=bT (decide (j<s.cols.length))) Z Z Z (ah (ai Z Z Z Zy) (av (iu j s.cols.length)))<|ag<|aF Z (fun Q=>?_) (fun Q=>?_)
   ·refine ax<|ab<|aE<|ab<|iw (sl':=[(0,.sl (l.map gi)),(3,.own 0),(4,.sl (kO.map Sch.tree)),(5,nI i),(6,.box 0 0),(7,nI k),(8,nI z),(9,.box 1 0),(10,nI j),(67,bT (decide (j<s.cols.length)))]) ⟨Z,⟨Z,⟨Z,⟨Z,⟨Z,⟨Z,⟨Z,⟨Z,⟨Z,⟨Z,trivial⟩⟩⟩⟩⟩⟩⟩⟩⟩⟩<|fz (fu:=4) [some 70,some 71,some 72,some 73,some 74,some 75,some 76,some 77,some 78,none] [7,9] [.box 1 0,.own 1,nI z,nI (z%3),nI (1+(z%3)),.agg [iT 1,nI (1+z%3),sT (⟨#[]⟩)],.sl [.agg [iT 1,nI (1+z%3),sT (⟨#[]⟩)]],.own 1,.box 1 0,.any] [⟨[7],[(0,.sl (l.map gi)),(3,.own 0),(4,.sl (kO.map Sch.tree)),(5,nI i),(6,.box 0 0),(7,nI k),(8,nI z),(9,.box 1 0),(10,nI j),(67,bT (decide (j<s.cols.length)))],[(30,(aT r)),(67,[.any,bT (decide (q.num<0)),aM q.num.natAbs,aM q.den])],[some ⟨30,4,b.map Rel.tree,false⟩,some ⟨77,3,(a++[(⟨1,((1+z%3:Nat):Int),⟨#[]⟩⟩:V)]).map V.tree,false⟩],[.box 1 0,.any,nI z,nI (z%3),nI (1+(z%3)),.agg [iT 1,nI (1+z%3),sT (⟨#[]⟩)],.sl [.agg [iT 1,nI (1+z%3),sT (⟨#[]⟩)]],.own 1,.box 1 0,.any]⟩] ⟨[9,7],[(0,.sl (l.map gi)),(3,.own 0),(4,.sl (kO.map Sch.tree)),(5,nI i),(6,.box 0 0),(7,nI k),(8,nI z),(9,.box 1 0),(10,nI j),(67,bT (decide (j<s.cols.length)))],[(30,(aT r)),(67,[.own 1,bT (decide (q.num<0)),aM q.num.natAbs,aM q.den])],[some ⟨30,4,b.map Rel.tree,false⟩,some ⟨77,3,(a++[(⟨1,((1+z%3:Nat):Int),⟨#[]⟩⟩:V)]).map V.tree,false⟩],[.box 1 0,.any,nI z,nI (z%3),nI (1+(z%3)),.agg [iT 1,nI (1+z%3),sT (⟨#[]⟩)],.sl [.agg [iT 1,nI (1+z%3),sT (⟨#[]⟩)]],.own 1,.box 1 0,.any]⟩ (by kernel_rfl) Z (by kernel_rfl) (by kernel_rfl) (by kernel_rfl) Z Z ?_ ?_
    ·refine .op [] (by kernel_rfl) ?_ ?_
     ·refine .ok (t:=.box 1 0) (by kernel_rfl) Z Z (az Z Z b6 Z)<|.no (by kernel_rfl)<|.no (by kernel_rfl)<|.nil
     refine .op [0] (by kernel_rfl) ?_ ?_
     ·refine .ok (t:=.own 1) (by kernel_rfl) Z Z (aD Z Z Z cC Z)<|.no (by kernel_rfl)<|.no (by kernel_rfl)<|.nil
     refine .op [] (by kernel_rfl) ?_ ?_
     ·refine .ok (t:=nI z) (by kernel_rfl) Z Z (aw Z Z)<|.no (by kernel_rfl)<|.no (by kernel_rfl)<|.nil
     refine .op [2] (by kernel_rfl) ?_ ?_
     ·refine .ok (t:=nI (z%3)) (by kernel_rfl) Z Z (ai Z Z Z (fun w=>mF z 3 (by omega) w))<|.no (by kernel_rfl)<|.no (by kernel_rfl)<|.nil
     refine .op [3] (by kernel_rfl) ?_ ?_
     ·refine .ok (t:=nI (1+(z%3))) (by kernel_rfl) Z Z (ah (ai Z Z Z Zy) (bu (by omega)))<|.no (by kernel_rfl)<|.no (by kernel_rfl)<|.nil
     refine .op [4] (by kernel_rfl) ?_ ?_
     ·refine .ok (t:=.agg [iT 1,nI (1+z%3),sT (⟨#[]⟩)]) (by kernel_rfl) Z Z (ar Z (ph _) Z Z)<|.no (by kernel_rfl)<|.no (by kernel_rfl)<|.nil
     refine .op [5] (by kernel_rfl) ?_ ?_
     ·refine .ok (t:=.sl [.agg [iT 1,nI (1+z%3),sT (⟨#[]⟩)]]) (by kernel_rfl) Z Z (a6 Z bz fM Z (by decide) (by decide) Z Z Z Z Z)<|.no (by kernel_rfl)<|.no (by kernel_rfl)<|.nil
     refine .op [1,6] (by kernel_rfl) ?_ ?_
     ·refine .wr 1 (lI 1) (.own 1) (by kernel_rfl) rfl rfl (kj rfl rfl rfl ib rfl rfl rfl rfl (by intro e o;simp only[Mi,Nr,or_false]at o;subst o;rfl) (AllC.lit rfl) (AllC.lit rfl) (by simp only[L8,Mb,Mo];omega) rfl rfl (by rw[Nk];rfl)) rfl rfl rfl rfl (.k rfl (.k rfl (.k rfl (.k rfl (.k rfl (.k rfl (.k rfl (.i rfl (.k rfl (.k rfl .nil))))))))))<|.no (by kernel_rfl)<|.no (by kernel_rfl)<|.nil
     refine .op [] (by kernel_rfl) ?_ ?_
     ·refine .no (by kernel_rfl)<|.ok (t:=.box 1 0) (by kernel_rfl) Z Z (az Z Z b6 Z)<|.no (by kernel_rfl)<|.nil
     refine .op [7,8] (by kernel_rfl) ?_ ?_
     ·refine .no (by kernel_rfl)<|.wr 2 id .any (by kernel_rfl) Z Z (gJ Z Z Z Z Z Z Z Z AL Z Z Z) Z Z Z Z (.k Z (.k Z (.k Z (.k Z (.k Z (.k Z (.k Z (.k Z (.k Z (.i Z .nil))))))))))<|.no (by kernel_rfl)<|.nil
     exact .nil
    refine ae<|aa 1 Z<|af (t:=nI (z/3)) Z Z Z (ai Z Z Z (fun w=>Bs z 3 (by omega) (by omega) w))<|aa 1 Z<|ag<|ae<|aa 1 Z<|af (t:=nI (j+1)) Z Z Z (ah (ai Z Z Z Zy) (bu (by omega)))<|aa 1 Z<|ag<|⟨_,_,?_,⟨j+1,a++[(⟨1,((1+z%3:Nat):Int),⟨#[]⟩⟩:V)],z/3,?_,Z,Z⟩,⟨Z,Z,Z,.cons Z Z (.cons Z Z (.cons Z Z (.cons Z Z (.cons Z Z (.cons Z Z (.cons Z Z (.cons Z Z (.cons Z Z .nil)))))))),Z⟩⟩
    ·omega
    refine⟨by omega,by simp[I],by omega,fun v g=>?_⟩;rcases My.1 g with h|h
    ·exact d v h
    rw[Ml.1 h];exact⟨by show 0<=_;omega,by show-9223372036854775808<=((1+z%3:Nat):Int);omega,by show((1+z%3:Nat):Int)<=9223372036854775807;omega⟩
   refine aZ<|ab ?_;by_cases o:bK r (⟨a,q⟩:Tp)=0
   ·refine fD 1 (bs':=[(30,(aT r)),(67,[.sl (a.map V.tree),bT (decide (q.num<0)),aM q.num.natAbs,aM q.den])]) (rs':=[some ⟨30,4,b.map Rel.tree,false⟩,none]) Z Z Z Z ?_;have G:a.length<=65536:=by omega
    have A:AB ⟨a,q⟩:=fun v g=>(d v g).1
    have M:∀v∈(⟨a,q⟩:Tp).vals,v.rng:=fun v g=>(d v g).2
    refine ae<|aa 2 Z<|af (t:=.tup [.agg [sT ((bD r (⟨a,q⟩:Tp)).sch.name),bT ((bD r (⟨a,q⟩:Tp)).sch.cert),.sl (((bD r (⟨a,q⟩:Tp)).sch.cols).map Col.tree),.sl (((bD r (⟨a,q⟩:Tp)).tups).map Tp.tree)],iT 0]) Z Z Z (ar Z (by have h:=iq r ⟨a,q⟩ (F.1.fit).1 F.1.str (lF H) A G;rw[wy o]at h;exact h) Z Z)<|aa 6 Z<|ag<|ab<|ae<|aa 1 Z<|af (t:=bT (decide (0=0))) Z Z Z (ah (ai Z Z Z Zy) (av (lY 0 0)))<|ag<|aF Z (fun J=>?_) (fun J=>?_)
    ·refine aj 2 Z<|ae<|aa 1 Z<|af (t:=nI (k+1)) Z Z Z (ah (ai Z Z Z Zy) (bu (by omega)))<|aa 1 Z<|ag<|⟨_,_,?_,⟨k+1,(bD r (⟨a,q⟩:Tp)),?_,Z,Z⟩,⟨Z,Z,Z,.cons Z Z (.cons Z Z (.cons Z Z (.cons Z Z (.cons Z Z (.cons Z Z .nil))))),Z⟩⟩
     ·omega
     exact⟨by omega,yF F R o H A M⟩
    exact absurd Z J
   refine fD 1 (bs':=[(30,(aT r)),(67,[.sl (a.map V.tree),bT (decide (q.num<0)),aM q.num.natAbs,aM q.den])]) (rs':=[some ⟨30,4,b.map Rel.tree,false⟩,none]) Z Z Z Z ?_;have G:a.length<=65536:=by omega
   have A:AB ⟨a,q⟩:=fun v g=>(d v g).1
   have M:∀v∈(⟨a,q⟩:Tp).vals,v.rng:=fun v g=>(d v g).2
   refine ae<|aa 2 Z<|af (t:=.tup [.agg dS,iT (bK r (⟨a,q⟩:Tp))]) Z Z Z (ar Z (by have h:=iq r ⟨a,q⟩ (F.1.fit).1 F.1.str (lF H) A G;rw[tv o]at h;exact h) Z Z)<|aa 6 Z<|ag<|ab<|ae<|aa 1 Z<|af (t:=bT ((bK r (⟨a,q⟩:Tp))==0)) Z Z Z (ai Z Z Z Zy)<|ag<|aH Z (fun O=>?_) (fun O=>?_)
   ·exact absurd (by simpa using O) o
   refine ax<|ae<|aa 1 Z<|af (t:=nI (k+1)) Z Z Z (ah (ai Z Z Z Zy) (bu (by omega)))<|aa 1 Z<|ag<|⟨_,_,?_,⟨k+1,r,?_,Z,Z⟩,⟨Z,Z,Z,.cons Z Z (.cons Z Z (.cons Z Z (.cons Z Z (.cons Z Z (.cons Z Z .nil))))),Z⟩⟩
   ·omega
   exact⟨by omega,F.more⟩
  refine aZ<|ae<|aa 2 rfl<|af (t:=.sl [.agg (aT r)]) rfl rfl rfl (a6 rfl tB im rfl (by decide) (by decide) rfl rfl rfl rfl rfl)<|cD (bs':=[(30,(aT r))]) (rs':=[some ⟨30,4,(b++[r]).map Rel.tree,false⟩]) rfl rfl rfl rfl AT rfl rfl rfl rfl (by intro e o;simp only[Mi,Nr,or_false]at o;subst o;rfl) (AllC.lit rfl) (AllC.lit rfl) (by simp only[L8,Mb,Mo];omega) rfl rfl rfl (by rw[Nk];rfl)<|aa 1 rfl<|ag<|ae<|aa 1 rfl<|af (t:=nI (i+1)) rfl rfl rfl (ah (ai rfl rfl rfl Zy) (bu (by omega)))<|aa 1 rfl<|ag<|⟨_,_,?_,⟨i+1,b++[r],?_,rfl,rfl⟩,⟨rfl,rfl,rfl,.cons rfl rfl (.cons rfl rfl (.cons rfl rfl (.cons rfl rfl .nil))),rfl⟩⟩
  ·omega
  refine⟨by omega,by simp[P],fun x W=>?_⟩;rcases My.1 W with h|h
  ·exact N x h
  rw[Ml.1 h];exact F.1
 refine aZ<|ab<|fD 0 (bs':=[]) (rs':=[none]) Z Z Z Z<|aj 2 Z<|aC<|⟨_,⟨b,by omega,N,Z⟩,.inr Z,_,.cons Z .nil,Z,Z⟩
end Go.Proofs.YtfoejfohbkmmeaaGreatDoor
