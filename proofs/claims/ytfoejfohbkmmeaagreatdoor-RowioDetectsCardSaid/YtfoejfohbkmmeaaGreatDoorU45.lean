import Derived.Test.YtfoejfohbkmmeaaGreatDoorU44
import Derived.Test.YtfoejfohbkmmeaaGreatDoorU08
import Derived.Test.YtfoejfohbkmmeaaGreatDoorU00
import Derived.Test.YtfoejfohbkmmeaaGreatDoorU43
set_option maxRecDepth 100000
set_option maxHeartbeats 4000000
namespace Go.Proofs.YtfoejfohbkmmeaaGreatDoor
open Go.RowKit
def bZ(x:ByteArray)(k:Nat):Tp:=⟨[⟨2,0,x⟩,⟨1,((k/2^3:Nat):Int)-20,⟨#[]⟩⟩],bM (k/2^5)⟩
theorem uX{a:Int}(h: -9223372036854775808<=a)(b:a<=9223372036854775807):(Tree.sc (.int .i64 (IntKind.i64.wrap a)))=iT a:=by
 rw[Ns];congr 2;omega
theorem iO{x:ByteArray}(n:Nat):(bZ x n).prob∈gW:=uU _
theorem ms{x:ByteArray}(h:x.size<=5)(n:Nat):AB (bZ x n):=fun v a=>by
 simp only[bZ,Mi,N0,or_false]at a;rcases a with rfl|rfl
 ·show x.size<=_;omega
 show 0<=_;omega
theorem Gl(x:ByteArray){n:Nat}(h:n<4294967296):∀v∈(bZ x n).vals,v.rng:=fun v a=>by
 simp only[bZ,Mi,N0,or_false]at a;rcases a with rfl|rfl
 ·exact⟨by show(-9223372036854775808:Int)<=0;omega,by show(0:Int)<=9223372036854775807;omega⟩
 exact⟨by show-9223372036854775808<=((n/2^3:Nat):Int)-20;omega,by show((n/2^3:Nat):Int)-20<=9223372036854775807;omega⟩
theorem DL:gc Tryz.prog 9=some [.string (⟨#[]⟩)]:=by kernel_rfl
theorem Gm(l:List Int)(p:l.length<=9223372036854775807):CtE 12 [.sl (l.map gi)] (fun c=>∃r:Rel,Good r/\c=r.tree):=by
 refine CtE.of (n:=55) Tryz.func12 Z Z Z Z Z fun w0 G0=>?_
 refine ab<|aj 1 Z<|ab<|ae<|aa 1 Z<|jP (fun c=>∃n:Nat,n<4294967296/\c=nI n) Z Z Z (kk Z (Cn l 0 p (by omega)) Z Z) ?_;rintro _ ⟨n,E,rfl⟩;refine aa 1 Z<|ag<|ab<|ab<|ae<|aa 1 Z<|af (t:=nI (n%5)) Z Z Z (ai Z Z Z (fun w=>mF n 5 (by omega) w))<|af (t:=bT (decide (n%5<4))) Z Z Z (ah (ai Z Z Z Zy) (av (iu (n%5) 4)))<|ag<|aF Z (fun q=>?_) (fun q=>?_)
 ·refine ab<|ae<|aa 1 Z<|jP (fun c=>∃b:List Rel,b.length=4/\(∀r∈b,Good r)/\c=.sl (b.map Rel.tree)) Z Z Z (kk Z (wC l p) Z Z) ?_;rintro _ ⟨b,B,u,rfl⟩;obtain⟨d,j⟩:∃d,b[n%5]? =some d:=⟨_,L4 (by omega)⟩;have x:=u d (L9 j);refine aa 1 Z<|af (t:=nI (n%5)) Z Z Z (ai Z Z Z (fun w=>mF n 5 (by omega) w))<|af (t:=.ref (aT d)) Z Z Z (aQ (Rel.tree d) Z tB Z Z Z (bf (f:=Rel.tree) j) (DJ _) Z)<|aa 2 Z<|ag<|aC<|⟨_,⟨d,x,Z⟩,.inr Z,_,.cons ⟨_,_,_,_,Z,Z,.inl ⟨_,bq,Z,Z⟩⟩ .nil,Z,Z⟩
 refine ax<|ab<|ae<|af Z Z Z (ar Z tw Z Z)<|aa 3 Z<|ag<|ab<|ab<|aj 1 Z<|aE<|aW (fun y z=>∃(i:Nat) (r:Rel),(1<=i/\i<=4/\GoodK gT (i-1) r)/\y=4-i/\z=⟨55,[(0,.sl (l.map gi)),(2,.box 0 0),(3,nI n),(4,.box 1 0),(5,nI i)],[(30,dS),(30,(aT r))],[]⟩) 2 0 ⟨1,⟨gT,[]⟩,⟨by omega,by omega,tu (.inr Z)⟩,Z,Z⟩ ⟨Z,Z,Z,.cons Z Z (.cons Z Z (.cons Z Z (.cons Z Z (.cons Z Z .nil)))),Z⟩ ?_;rintro y z ⟨i,r,⟨C,A,a⟩,rfl,rfl⟩;refine ab<|ab<|ae<|aa 1 Z<|af (t:=bT (decide (i<4))) Z Z Z (ah (ai Z Z Z Zy) (av (iu i 4)))<|ag<|aF Z (fun s=>?_) (fun s=>?_)
 ·refine ax<|ab<|aE<|ab<|ae<|aa 2 Z<|jP (fun c=>∃n:Nat,n<4294967296/\c=nI n) Z Z Z (kk Z (Cn l i p (by omega)) Z Z) ?_;rintro _ ⟨m,D,rfl⟩;refine aa 1 Z<|ag<|ab<|ae<|af (t:=.sl (bj.map jf)) Z Z Z (ah (a6 Z lE DL Z (by decide) (by decide) Z Z Z Z Z) (rfl))<|aa 1 Z<|af (t:=nI (m%5)) Z Z Z (ai Z Z Z (fun w=>mF m 5 (by omega) w))<|af (t:=.ref [sT (bj.getD (m%5) ⟨#[]⟩)]) Z Z Z (aQ (jf (bj.getD (m%5) ⟨#[]⟩)) Z lE Z Z Z (bf (f:=jf) (kP m).1) (uS _) Z)<|aa 2 Z<|ag<|ab ?_;by_cases e:bK r (bZ (bj.getD (m%5) ⟨#[]⟩) m)=0
  ·refine iw (sl':=[(0,.sl (l.map gi)),(2,.box 0 0),(3,nI n),(4,.box 1 0),(5,nI i),(24,bT (decide (i<4))),(6,nI m),(7,sT (bj.getD (m%5) ⟨#[]⟩))]) ⟨Z,⟨Z,⟨Z,⟨Z,⟨Z,⟨Z,⟨Z,⟨Z,trivial⟩⟩⟩⟩⟩⟩⟩⟩<|fz (fu:=1) [some 36,some 37,some 38,some 39,some 40,some 41,some 42,some 43,some 44,some 45,some 46,some 47,some 48,some 35,some 49,some 50,some 8,none,some 9] [16,17] [.agg (aT r),sT (bj.getD (m%5) ⟨#[]⟩),.agg [iT 2,iT 0,sT (bj.getD (m%5) ⟨#[]⟩)],nI m,nI (m/2^3),iT (((m/2^3:Nat):Int)-20),.agg [iT 1,iT (((m/2^3:Nat):Int)-20),sT (⟨#[]⟩)],.sl [.agg [iT 2,iT 0,sT (bj.getD (m%5) ⟨#[]⟩)],.agg [iT 1,iT (((m/2^3:Nat):Int)-20),sT (⟨#[]⟩)]],nI m,nI (m/2^5),.agg [bT (decide ((bM (m/2^5)).num<0)),aM ((bM (m/2^5)).num.natAbs),aM ((bM (m/2^5)).den)],.agg [.sl [.agg [iT 2,iT 0,sT (bj.getD (m%5) ⟨#[]⟩)],.agg [iT 1,iT (((m/2^3:Nat):Int)-20),sT (⟨#[]⟩)]],bT (decide ((bM (m/2^5)).num<0)),aM ((bM (m/2^5)).num.natAbs),aM ((bM (m/2^5)).den)],.tup [.agg [sT ((bD r (bZ (bj.getD (m%5) ⟨#[]⟩) m)).sch.name),bT ((bD r (bZ (bj.getD (m%5) ⟨#[]⟩) m)).sch.cert),.sl (((bD r (bZ (bj.getD (m%5) ⟨#[]⟩) m)).sch.cols).map Col.tree),.sl (((bD r (bZ (bj.getD (m%5) ⟨#[]⟩) m)).tups).map Tp.tree)],iT 0],.tup [.agg [sT ((bD r (bZ (bj.getD (m%5) ⟨#[]⟩) m)).sch.name),bT ((bD r (bZ (bj.getD (m%5) ⟨#[]⟩) m)).sch.cert),.sl (((bD r (bZ (bj.getD (m%5) ⟨#[]⟩) m)).sch.cols).map Col.tree),.sl (((bD r (bZ (bj.getD (m%5) ⟨#[]⟩) m)).tups).map Tp.tree)],iT 0],.agg [sT ((bD r (bZ (bj.getD (m%5) ⟨#[]⟩) m)).sch.name),bT ((bD r (bZ (bj.getD (m%5) ⟨#[]⟩) m)).sch.cert),.sl (((bD r (bZ (bj.getD (m%5) ⟨#[]⟩) m)).sch.cols).map Col.tree),.sl (((bD r (bZ (bj.getD (m%5) ⟨#[]⟩) m)).tups).map Tp.tree)],iT 0,.any,.any,iT 0] [⟨[16],[(0,.sl (l.map gi)),(2,.box 0 0),(3,nI n),(4,.box 1 0),(5,nI i),(24,bT (decide (i<4))),(6,nI m),(7,sT (bj.getD (m%5) ⟨#[]⟩))],[(30,dS),(30,(aT r)),(30,dS)],[],[.agg (aT r),sT (bj.getD (m%5) ⟨#[]⟩),.agg [iT 2,iT 0,sT (bj.getD (m%5) ⟨#[]⟩)],nI m,nI (m/2^3),iT (((m/2^3:Nat):Int)-20),.agg [iT 1,iT (((m/2^3:Nat):Int)-20),sT (⟨#[]⟩)],.sl [.agg [iT 2,iT 0,sT (bj.getD (m%5) ⟨#[]⟩)],.agg [iT 1,iT (((m/2^3:Nat):Int)-20),sT (⟨#[]⟩)]],nI m,nI (m/2^5),.agg [bT (decide ((bM (m/2^5)).num<0)),aM ((bM (m/2^5)).num.natAbs),aM ((bM (m/2^5)).den)],.agg [.sl [.agg [iT 2,iT 0,sT (bj.getD (m%5) ⟨#[]⟩)],.agg [iT 1,iT (((m/2^3:Nat):Int)-20),sT (⟨#[]⟩)]],bT (decide ((bM (m/2^5)).num<0)),aM ((bM (m/2^5)).num.natAbs),aM ((bM (m/2^5)).den)],.tup [.agg [sT ((bD r (bZ (bj.getD (m%5) ⟨#[]⟩) m)).sch.name),bT ((bD r (bZ (bj.getD (m%5) ⟨#[]⟩) m)).sch.cert),.sl (((bD r (bZ (bj.getD (m%5) ⟨#[]⟩) m)).sch.cols).map Col.tree),.sl (((bD r (bZ (bj.getD (m%5) ⟨#[]⟩) m)).tups).map Tp.tree)],iT 0],.tup [.agg [sT ((bD r (bZ (bj.getD (m%5) ⟨#[]⟩) m)).sch.name),bT ((bD r (bZ (bj.getD (m%5) ⟨#[]⟩) m)).sch.cert),.sl (((bD r (bZ (bj.getD (m%5) ⟨#[]⟩) m)).sch.cols).map Col.tree),.sl (((bD r (bZ (bj.getD (m%5) ⟨#[]⟩) m)).tups).map Tp.tree)],iT 0],.agg [sT ((bD r (bZ (bj.getD (m%5) ⟨#[]⟩) m)).sch.name),bT ((bD r (bZ (bj.getD (m%5) ⟨#[]⟩) m)).sch.cert),.sl (((bD r (bZ (bj.getD (m%5) ⟨#[]⟩) m)).sch.cols).map Col.tree),.sl (((bD r (bZ (bj.getD (m%5) ⟨#[]⟩) m)).tups).map Tp.tree)],iT 0,.box 2 0,.any,iT 0]⟩] ⟨[17,16],[(0,.sl (l.map gi)),(2,.box 0 0),(3,nI n),(4,.box 1 0),(5,nI i),(24,bT (decide (i<4))),(6,nI m),(7,sT (bj.getD (m%5) ⟨#[]⟩))],[(30,dS),(30,(aT r)),(30,[sT ((bD r (bZ (bj.getD (m%5) ⟨#[]⟩) m)).sch.name),bT ((bD r (bZ (bj.getD (m%5) ⟨#[]⟩) m)).sch.cert),.sl (((bD r (bZ (bj.getD (m%5) ⟨#[]⟩) m)).sch.cols).map Col.tree),.sl (((bD r (bZ (bj.getD (m%5) ⟨#[]⟩) m)).tups).map Tp.tree)])],[],[.agg (aT r),sT (bj.getD (m%5) ⟨#[]⟩),.agg [iT 2,iT 0,sT (bj.getD (m%5) ⟨#[]⟩)],nI m,nI (m/2^3),iT (((m/2^3:Nat):Int)-20),.agg [iT 1,iT (((m/2^3:Nat):Int)-20),sT (⟨#[]⟩)],.sl [.agg [iT 2,iT 0,sT (bj.getD (m%5) ⟨#[]⟩)],.agg [iT 1,iT (((m/2^3:Nat):Int)-20),sT (⟨#[]⟩)]],nI m,nI (m/2^5),.agg [bT (decide ((bM (m/2^5)).num<0)),aM ((bM (m/2^5)).num.natAbs),aM ((bM (m/2^5)).den)],.agg [.sl [.agg [iT 2,iT 0,sT (bj.getD (m%5) ⟨#[]⟩)],.agg [iT 1,iT (((m/2^3:Nat):Int)-20),sT (⟨#[]⟩)]],bT (decide ((bM (m/2^5)).num<0)),aM ((bM (m/2^5)).num.natAbs),aM ((bM (m/2^5)).den)],.tup [.agg [sT ((bD r (bZ (bj.getD (m%5) ⟨#[]⟩) m)).sch.name),bT ((bD r (bZ (bj.getD (m%5) ⟨#[]⟩) m)).sch.cert),.sl (((bD r (bZ (bj.getD (m%5) ⟨#[]⟩) m)).sch.cols).map Col.tree),.sl (((bD r (bZ (bj.getD (m%5) ⟨#[]⟩) m)).tups).map Tp.tree)],iT 0],.tup [.agg [sT ((bD r (bZ (bj.getD (m%5) ⟨#[]⟩) m)).sch.name),bT ((bD r (bZ (bj.getD (m%5) ⟨#[]⟩) m)).sch.cert),.sl (((bD r (bZ (bj.getD (m%5) ⟨#[]⟩) m)).sch.cols).map Col.tree),.sl (((bD r (bZ (bj.getD (m%5) ⟨#[]⟩) m)).tups).map Tp.tree)],iT 0],.agg [sT ((bD r (bZ (bj.getD (m%5) ⟨#[]⟩) m)).sch.name),bT ((bD r (bZ (bj.getD (m%5) ⟨#[]⟩) m)).sch.cert),.sl (((bD r (bZ (bj.getD (m%5) ⟨#[]⟩) m)).sch.cols).map Col.tree),.sl (((bD r (bZ (bj.getD (m%5) ⟨#[]⟩) m)).tups).map Tp.tree)],iT 0,.box 2 0,.any,iT 0]⟩ (by kernel_rfl) Z (by kernel_rfl) (by kernel_rfl) (by kernel_rfl) Z Z ?_ ?_
   ·refine .op [] (by kernel_rfl) ?_ ?_
    ·refine .ok (t:=.agg (aT r)) (by kernel_rfl) Z Z (aJ Z Z Z bq Z Z)<|.ok (t:=.agg (aT r)) (by kernel_rfl) Z Z (aJ Z Z Z bq Z Z)<|.no (by kernel_rfl)<|.nil
    refine .op [] (by kernel_rfl) ?_ ?_
    ·refine .ok (t:=sT (bj.getD (m%5) ⟨#[]⟩)) (by kernel_rfl) Z Z (aw Z Z)<|.ok (t:=sT (bj.getD (m%5) ⟨#[]⟩)) (by kernel_rfl) Z Z (aw Z Z)<|.no (by kernel_rfl)<|.nil
    refine .op [1] (by kernel_rfl) ?_ ?_
    ·refine .ok (t:=.agg [iT 2,iT 0,sT (bj.getD (m%5) ⟨#[]⟩)]) (by kernel_rfl) Z Z (ar Z (rk _) Z Z)<|.ok (t:=.agg [iT 2,iT 0,sT (bj.getD (m%5) ⟨#[]⟩)]) (by kernel_rfl) Z Z (ar Z (rk _) Z Z)<|.no (by kernel_rfl)<|.nil
    refine .op [] (by kernel_rfl) ?_ ?_
    ·refine .ok (t:=nI m) (by kernel_rfl) Z Z (aw Z Z)<|.ok (t:=nI m) (by kernel_rfl) Z Z (aw Z Z)<|.no (by kernel_rfl)<|.nil
    refine .op [3] (by kernel_rfl) ?_ ?_
    ·refine .ok (t:=nI (m/2^3)) (by kernel_rfl) Z Z (ai Z Z Z (fun w=>iW m 3 (by decide) w))<|.ok (t:=nI (m/2^3)) (by kernel_rfl) Z Z (ai Z Z Z (fun w=>iW m 3 (by decide) w))<|.no (by kernel_rfl)<|.nil
    refine .op [4] (by kernel_rfl) ?_ ?_
    ·refine .ok (t:=iT (((m/2^3:Nat):Int)-20)) (by kernel_rfl) Z Z (ah (ai Z Z Z Zy) (uX (by omega) (by omega)))<|.ok (t:=iT (((m/2^3:Nat):Int)-20)) (by kernel_rfl) Z Z (ah (ai Z Z Z Zy) (uX (by omega) (by omega)))<|.no (by kernel_rfl)<|.nil
    refine .op [5] (by kernel_rfl) ?_ ?_
    ·refine .ok (t:=.agg [iT 1,iT (((m/2^3:Nat):Int)-20),sT (⟨#[]⟩)]) (by kernel_rfl) Z Z (ar Z (ph _) Z Z)<|.ok (t:=.agg [iT 1,iT (((m/2^3:Nat):Int)-20),sT (⟨#[]⟩)]) (by kernel_rfl) Z Z (ar Z (ph _) Z Z)<|.no (by kernel_rfl)<|.nil
    refine .op [2,6] (by kernel_rfl) ?_ ?_
    ·refine .ok (t:=.sl [.agg [iT 2,iT 0,sT (bj.getD (m%5) ⟨#[]⟩)],.agg [iT 1,iT (((m/2^3:Nat):Int)-20),sT (⟨#[]⟩)]]) (by kernel_rfl) Z Z (a6 Z bz fM Z (by decide) (by decide) Z Z Z Z Z)<|.ok (t:=.sl [.agg [iT 2,iT 0,sT (bj.getD (m%5) ⟨#[]⟩)],.agg [iT 1,iT (((m/2^3:Nat):Int)-20),sT (⟨#[]⟩)]]) (by kernel_rfl) Z Z (a6 Z bz fM Z (by decide) (by decide) Z Z Z Z Z)<|.no (by kernel_rfl)<|.nil
    refine .op [] (by kernel_rfl) ?_ ?_
    ·refine .ok (t:=nI m) (by kernel_rfl) Z Z (aw Z Z)<|.ok (t:=nI m) (by kernel_rfl) Z Z (aw Z Z)<|.no (by kernel_rfl)<|.nil
    refine .op [8] (by kernel_rfl) ?_ ?_
    ·refine .ok (t:=nI (m/2^5)) (by kernel_rfl) Z Z (ai Z Z Z (fun w=>iW m 5 (by decide) w))<|.ok (t:=nI (m/2^5)) (by kernel_rfl) Z Z (ai Z Z Z (fun w=>iW m 5 (by decide) w))<|.no (by kernel_rfl)<|.nil
    refine .op [9] (by kernel_rfl) ?_ ?_
    ·refine .ok (t:=.agg [bT (decide ((bM (m/2^5)).num<0)),aM ((bM (m/2^5)).num.natAbs),aM ((bM (m/2^5)).den)]) (by kernel_rfl) Z Z (ar Z (pi _) Z Z)<|.ok (t:=.agg [bT (decide ((bM (m/2^5)).num<0)),aM ((bM (m/2^5)).num.natAbs),aM ((bM (m/2^5)).den)]) (by kernel_rfl) Z Z (ar Z (pi _) Z Z)<|.no (by kernel_rfl)<|.nil
    refine .op [7,10] (by kernel_rfl) ?_ ?_
    ·refine .ok (t:=.agg [.sl [.agg [iT 2,iT 0,sT (bj.getD (m%5) ⟨#[]⟩)],.agg [iT 1,iT (((m/2^3:Nat):Int)-20),sT (⟨#[]⟩)]],bT (decide ((bM (m/2^5)).num<0)),aM ((bM (m/2^5)).num.natAbs),aM ((bM (m/2^5)).den)]) (by kernel_rfl) Z Z (fG Z gt Z Z Z)<|.ok (t:=.agg [.sl [.agg [iT 2,iT 0,sT (bj.getD (m%5) ⟨#[]⟩)],.agg [iT 1,iT (((m/2^3:Nat):Int)-20),sT (⟨#[]⟩)]],bT (decide ((bM (m/2^5)).num<0)),aM ((bM (m/2^5)).num.natAbs),aM ((bM (m/2^5)).den)]) (by kernel_rfl) Z Z (fG Z gt Z Z Z)<|.no (by kernel_rfl)<|.nil
    refine .op [0,11] (by kernel_rfl) ?_ ?_
    ·refine .ok (t:=.tup [.agg [sT ((bD r (bZ (bj.getD (m%5) ⟨#[]⟩) m)).sch.name),bT ((bD r (bZ (bj.getD (m%5) ⟨#[]⟩) m)).sch.cert),.sl (((bD r (bZ (bj.getD (m%5) ⟨#[]⟩) m)).sch.cols).map Col.tree),.sl (((bD r (bZ (bj.getD (m%5) ⟨#[]⟩) m)).tups).map Tp.tree)],iT 0]) (by kernel_rfl) Z Z (ar Z (by have h:=iq r (bZ (bj.getD (m%5) ⟨#[]⟩) m) (a.1.fit).1 a.1.str (lF (iO _)) (ms (kP _).2 _) (by show 2<=65536;decide);rw[wy e]at h;exact h) Z Z)<|.ok (t:=.tup [.agg [sT ((bD r (bZ (bj.getD (m%5) ⟨#[]⟩) m)).sch.name),bT ((bD r (bZ (bj.getD (m%5) ⟨#[]⟩) m)).sch.cert),.sl (((bD r (bZ (bj.getD (m%5) ⟨#[]⟩) m)).sch.cols).map Col.tree),.sl (((bD r (bZ (bj.getD (m%5) ⟨#[]⟩) m)).tups).map Tp.tree)],iT 0]) (by kernel_rfl) Z Z (ar Z (by have h:=iq r (bZ (bj.getD (m%5) ⟨#[]⟩) m) (a.1.fit).1 a.1.str (lF (iO _)) (ms (kP _).2 _) (by show 2<=65536;decide);rw[wy e]at h;exact h) Z Z)<|.no (by kernel_rfl)<|.nil
    refine .op [12] (by kernel_rfl) ?_ ?_
    ·refine .ok (t:=.tup [.agg [sT ((bD r (bZ (bj.getD (m%5) ⟨#[]⟩) m)).sch.name),bT ((bD r (bZ (bj.getD (m%5) ⟨#[]⟩) m)).sch.cert),.sl (((bD r (bZ (bj.getD (m%5) ⟨#[]⟩) m)).sch.cols).map Col.tree),.sl (((bD r (bZ (bj.getD (m%5) ⟨#[]⟩) m)).tups).map Tp.tree)],iT 0]) (by kernel_rfl) Z Z (aw Z Z)<|.ok (t:=.tup [.agg [sT ((bD r (bZ (bj.getD (m%5) ⟨#[]⟩) m)).sch.name),bT ((bD r (bZ (bj.getD (m%5) ⟨#[]⟩) m)).sch.cert),.sl (((bD r (bZ (bj.getD (m%5) ⟨#[]⟩) m)).sch.cols).map Col.tree),.sl (((bD r (bZ (bj.getD (m%5) ⟨#[]⟩) m)).tups).map Tp.tree)],iT 0]) (by kernel_rfl) Z Z (aw Z Z)<|.no (by kernel_rfl)<|.nil
    refine .op [13] (by kernel_rfl) ?_ ?_
    ·refine .ok (t:=.agg [sT ((bD r (bZ (bj.getD (m%5) ⟨#[]⟩) m)).sch.name),bT ((bD r (bZ (bj.getD (m%5) ⟨#[]⟩) m)).sch.cert),.sl (((bD r (bZ (bj.getD (m%5) ⟨#[]⟩) m)).sch.cols).map Col.tree),.sl (((bD r (bZ (bj.getD (m%5) ⟨#[]⟩) m)).tups).map Tp.tree)]) (by kernel_rfl) Z Z (dD Z Z Z)<|.ok (t:=.agg [sT ((bD r (bZ (bj.getD (m%5) ⟨#[]⟩) m)).sch.name),bT ((bD r (bZ (bj.getD (m%5) ⟨#[]⟩) m)).sch.cert),.sl (((bD r (bZ (bj.getD (m%5) ⟨#[]⟩) m)).sch.cols).map Col.tree),.sl (((bD r (bZ (bj.getD (m%5) ⟨#[]⟩) m)).tups).map Tp.tree)]) (by kernel_rfl) Z Z (dD Z Z Z)<|.no (by kernel_rfl)<|.nil
    refine .op [13] (by kernel_rfl) ?_ ?_
    ·refine .ok (t:=iT 0) (by kernel_rfl) Z Z (dD Z Z Z)<|.ok (t:=iT 0) (by kernel_rfl) Z Z (dD Z Z Z)<|.ok (t:=iT 0) (by kernel_rfl) Z Z (dD Z Z Z)<|.nil
    refine .op [] (by kernel_rfl) ?_ ?_
    ·refine .wr 1 id (.box 2 0) (by kernel_rfl) Z Z (iI Z Z Z im Z Z Z Z) Z Z Z Z (.k Z (.k Z (.k Z (.k Z (.k Z (.k Z (.k Z (.k Z (.k Z (.k Z (.k Z (.k Z (.k Z (.k Z (.k Z (.k Z (.i Z (.k Z (.k Z .nil)))))))))))))))))))<|.no (by kernel_rfl)<|.no (by kernel_rfl)<|.nil
    refine .op [14,16] (by kernel_rfl) ?_ ?_
    ·refine .no (by kernel_rfl)<|.wr 2 id .any (by kernel_rfl) Z Z (gJ Z Z Z Z Z Z Z Z lz Z Z Z) Z Z Z Z (.k Z (.k Z (.k Z (.k Z (.k Z (.k Z (.k Z (.k Z (.k Z (.k Z (.k Z (.k Z (.k Z (.k Z (.k Z (.k Z (.k Z (.i Z (.k Z .nil)))))))))))))))))))<|.no (by kernel_rfl)<|.nil
    refine .op [15] (by kernel_rfl) ?_ ?_
    ·refine .no (by kernel_rfl)<|.no (by kernel_rfl)<|.ok (t:=iT 0) (by kernel_rfl) Z Z (bW Z Z)<|.nil
    exact .nil
   refine ab<|ae<|aa 1 Z<|af (t:=bT (decide (0=0))) Z Z Z (ah (ai Z Z Z Zy) (av (lY 0 0)))<|ag<|aF Z (fun g=>?_) (fun g=>?_)
   ·refine aj 2 Z<|ae<|aa 1 Z<|af (t:=nI (i+1)) Z Z Z (ah (ai Z Z Z Zy) (bu (by omega)))<|aa 1 Z<|ag<|⟨_,_,?_,⟨i+1,(bD r (bZ (bj.getD (m%5) ⟨#[]⟩) m)),?_,Z,Z⟩,⟨Z,Z,Z,.cons Z Z (.cons Z Z (.cons Z Z (.cons Z Z (.cons Z Z .nil)))),Z⟩⟩
    ·omega
    refine⟨by omega,by omega,?_⟩;have v:=yF a (by omega) e (iO _) (ms (kP _).2 _) (Gl _ D);rwa[show i-1+1=i+1-1 from by omega]at v
   exact absurd Z g
  refine iw (sl':=[(0,.sl (l.map gi)),(2,.box 0 0),(3,nI n),(4,.box 1 0),(5,nI i),(24,bT (decide (i<4))),(6,nI m),(7,sT (bj.getD (m%5) ⟨#[]⟩))]) ⟨Z,⟨Z,⟨Z,⟨Z,⟨Z,⟨Z,⟨Z,⟨Z,trivial⟩⟩⟩⟩⟩⟩⟩⟩<|fz (fu:=1) [some 36,some 37,some 38,some 39,some 40,some 41,some 42,some 43,some 44,some 45,some 46,some 47,some 48,some 35,some 49,some 50,some 8,none,some 9] [16,17] [.agg (aT r),sT (bj.getD (m%5) ⟨#[]⟩),.agg [iT 2,iT 0,sT (bj.getD (m%5) ⟨#[]⟩)],nI m,nI (m/2^3),iT (((m/2^3:Nat):Int)-20),.agg [iT 1,iT (((m/2^3:Nat):Int)-20),sT (⟨#[]⟩)],.sl [.agg [iT 2,iT 0,sT (bj.getD (m%5) ⟨#[]⟩)],.agg [iT 1,iT (((m/2^3:Nat):Int)-20),sT (⟨#[]⟩)]],nI m,nI (m/2^5),.agg [bT (decide ((bM (m/2^5)).num<0)),aM ((bM (m/2^5)).num.natAbs),aM ((bM (m/2^5)).den)],.agg [.sl [.agg [iT 2,iT 0,sT (bj.getD (m%5) ⟨#[]⟩)],.agg [iT 1,iT (((m/2^3:Nat):Int)-20),sT (⟨#[]⟩)]],bT (decide ((bM (m/2^5)).num<0)),aM ((bM (m/2^5)).num.natAbs),aM ((bM (m/2^5)).den)],.tup [.agg dS,iT (bK r (bZ (bj.getD (m%5) ⟨#[]⟩) m))],.tup [.agg dS,iT (bK r (bZ (bj.getD (m%5) ⟨#[]⟩) m))],.agg dS,iT (bK r (bZ (bj.getD (m%5) ⟨#[]⟩) m)),.any,.any,iT (bK r (bZ (bj.getD (m%5) ⟨#[]⟩) m))] [⟨[16],[(0,.sl (l.map gi)),(2,.box 0 0),(3,nI n),(4,.box 1 0),(5,nI i),(24,bT (decide (i<4))),(6,nI m),(7,sT (bj.getD (m%5) ⟨#[]⟩))],[(30,dS),(30,(aT r)),(30,dS)],[],[.agg (aT r),sT (bj.getD (m%5) ⟨#[]⟩),.agg [iT 2,iT 0,sT (bj.getD (m%5) ⟨#[]⟩)],nI m,nI (m/2^3),iT (((m/2^3:Nat):Int)-20),.agg [iT 1,iT (((m/2^3:Nat):Int)-20),sT (⟨#[]⟩)],.sl [.agg [iT 2,iT 0,sT (bj.getD (m%5) ⟨#[]⟩)],.agg [iT 1,iT (((m/2^3:Nat):Int)-20),sT (⟨#[]⟩)]],nI m,nI (m/2^5),.agg [bT (decide ((bM (m/2^5)).num<0)),aM ((bM (m/2^5)).num.natAbs),aM ((bM (m/2^5)).den)],.agg [.sl [.agg [iT 2,iT 0,sT (bj.getD (m%5) ⟨#[]⟩)],.agg [iT 1,iT (((m/2^3:Nat):Int)-20),sT (⟨#[]⟩)]],bT (decide ((bM (m/2^5)).num<0)),aM ((bM (m/2^5)).num.natAbs),aM ((bM (m/2^5)).den)],.tup [.agg dS,iT (bK r (bZ (bj.getD (m%5) ⟨#[]⟩) m))],.tup [.agg dS,iT (bK r (bZ (bj.getD (m%5) ⟨#[]⟩) m))],.agg dS,iT (bK r (bZ (bj.getD (m%5) ⟨#[]⟩) m)),.box 2 0,.any,iT (bK r (bZ (bj.getD (m%5) ⟨#[]⟩) m))]⟩] ⟨[17,16],[(0,.sl (l.map gi)),(2,.box 0 0),(3,nI n),(4,.box 1 0),(5,nI i),(24,bT (decide (i<4))),(6,nI m),(7,sT (bj.getD (m%5) ⟨#[]⟩))],[(30,dS),(30,(aT r)),(30,dS)],[],[.agg (aT r),sT (bj.getD (m%5) ⟨#[]⟩),.agg [iT 2,iT 0,sT (bj.getD (m%5) ⟨#[]⟩)],nI m,nI (m/2^3),iT (((m/2^3:Nat):Int)-20),.agg [iT 1,iT (((m/2^3:Nat):Int)-20),sT (⟨#[]⟩)],.sl [.agg [iT 2,iT 0,sT (bj.getD (m%5) ⟨#[]⟩)],.agg [iT 1,iT (((m/2^3:Nat):Int)-20),sT (⟨#[]⟩)]],nI m,nI (m/2^5),.agg [bT (decide ((bM (m/2^5)).num<0)),aM ((bM (m/2^5)).num.natAbs),aM ((bM (m/2^5)).den)],.agg [.sl [.agg [iT 2,iT 0,sT (bj.getD (m%5) ⟨#[]⟩)],.agg [iT 1,iT (((m/2^3:Nat):Int)-20),sT (⟨#[]⟩)]],bT (decide ((bM (m/2^5)).num<0)),aM ((bM (m/2^5)).num.natAbs),aM ((bM (m/2^5)).den)],.tup [.agg dS,iT (bK r (bZ (bj.getD (m%5) ⟨#[]⟩) m))],.tup [.agg dS,iT (bK r (bZ (bj.getD (m%5) ⟨#[]⟩) m))],.agg dS,iT (bK r (bZ (bj.getD (m%5) ⟨#[]⟩) m)),.box 2 0,.any,iT (bK r (bZ (bj.getD (m%5) ⟨#[]⟩) m))]⟩ (by kernel_rfl) Z (by kernel_rfl) (by kernel_rfl) (by kernel_rfl) Z Z ?_ ?_
  ·refine .op [] (by kernel_rfl) ?_ ?_
   ·refine .ok (t:=.agg (aT r)) (by kernel_rfl) Z Z (aJ Z Z Z bq Z Z)<|.ok (t:=.agg (aT r)) (by kernel_rfl) Z Z (aJ Z Z Z bq Z Z)<|.no (by kernel_rfl)<|.nil
   refine .op [] (by kernel_rfl) ?_ ?_
   ·refine .ok (t:=sT (bj.getD (m%5) ⟨#[]⟩)) (by kernel_rfl) Z Z (aw Z Z)<|.ok (t:=sT (bj.getD (m%5) ⟨#[]⟩)) (by kernel_rfl) Z Z (aw Z Z)<|.no (by kernel_rfl)<|.nil
   refine .op [1] (by kernel_rfl) ?_ ?_
   ·refine .ok (t:=.agg [iT 2,iT 0,sT (bj.getD (m%5) ⟨#[]⟩)]) (by kernel_rfl) Z Z (ar Z (rk _) Z Z)<|.ok (t:=.agg [iT 2,iT 0,sT (bj.getD (m%5) ⟨#[]⟩)]) (by kernel_rfl) Z Z (ar Z (rk _) Z Z)<|.no (by kernel_rfl)<|.nil
   refine .op [] (by kernel_rfl) ?_ ?_
   ·refine .ok (t:=nI m) (by kernel_rfl) Z Z (aw Z Z)<|.ok (t:=nI m) (by kernel_rfl) Z Z (aw Z Z)<|.no (by kernel_rfl)<|.nil
   refine .op [3] (by kernel_rfl) ?_ ?_
   ·refine .ok (t:=nI (m/2^3)) (by kernel_rfl) Z Z (ai Z Z Z (fun w=>iW m 3 (by decide) w))<|.ok (t:=nI (m/2^3)) (by kernel_rfl) Z Z (ai Z Z Z (fun w=>iW m 3 (by decide) w))<|.no (by kernel_rfl)<|.nil
   refine .op [4] (by kernel_rfl) ?_ ?_
   ·refine .ok (t:=iT (((m/2^3:Nat):Int)-20)) (by kernel_rfl) Z Z (ah (ai Z Z Z Zy) (uX (by omega) (by omega)))<|.ok (t:=iT (((m/2^3:Nat):Int)-20)) (by kernel_rfl) Z Z (ah (ai Z Z Z Zy) (uX (by omega) (by omega)))<|.no (by kernel_rfl)<|.nil
   refine .op [5] (by kernel_rfl) ?_ ?_
   ·refine .ok (t:=.agg [iT 1,iT (((m/2^3:Nat):Int)-20),sT (⟨#[]⟩)]) (by kernel_rfl) Z Z (ar Z (ph _) Z Z)<|.ok (t:=.agg [iT 1,iT (((m/2^3:Nat):Int)-20),sT (⟨#[]⟩)]) (by kernel_rfl) Z Z (ar Z (ph _) Z Z)<|.no (by kernel_rfl)<|.nil
   refine .op [2,6] (by kernel_rfl) ?_ ?_
   ·refine .ok (t:=.sl [.agg [iT 2,iT 0,sT (bj.getD (m%5) ⟨#[]⟩)],.agg [iT 1,iT (((m/2^3:Nat):Int)-20),sT (⟨#[]⟩)]]) (by kernel_rfl) Z Z (a6 Z bz fM Z (by decide) (by decide) Z Z Z Z Z)<|.ok (t:=.sl [.agg [iT 2,iT 0,sT (bj.getD (m%5) ⟨#[]⟩)],.agg [iT 1,iT (((m/2^3:Nat):Int)-20),sT (⟨#[]⟩)]]) (by kernel_rfl) Z Z (a6 Z bz fM Z (by decide) (by decide) Z Z Z Z Z)<|.no (by kernel_rfl)<|.nil
   refine .op [] (by kernel_rfl) ?_ ?_
   ·refine .ok (t:=nI m) (by kernel_rfl) Z Z (aw Z Z)<|.ok (t:=nI m) (by kernel_rfl) Z Z (aw Z Z)<|.no (by kernel_rfl)<|.nil
   refine .op [8] (by kernel_rfl) ?_ ?_
   ·refine .ok (t:=nI (m/2^5)) (by kernel_rfl) Z Z (ai Z Z Z (fun w=>iW m 5 (by decide) w))<|.ok (t:=nI (m/2^5)) (by kernel_rfl) Z Z (ai Z Z Z (fun w=>iW m 5 (by decide) w))<|.no (by kernel_rfl)<|.nil
   refine .op [9] (by kernel_rfl) ?_ ?_
   ·refine .ok (t:=.agg [bT (decide ((bM (m/2^5)).num<0)),aM ((bM (m/2^5)).num.natAbs),aM ((bM (m/2^5)).den)]) (by kernel_rfl) Z Z (ar Z (pi _) Z Z)<|.ok (t:=.agg [bT (decide ((bM (m/2^5)).num<0)),aM ((bM (m/2^5)).num.natAbs),aM ((bM (m/2^5)).den)]) (by kernel_rfl) Z Z (ar Z (pi _) Z Z)<|.no (by kernel_rfl)<|.nil
   refine .op [7,10] (by kernel_rfl) ?_ ?_
   ·refine .ok (t:=.agg [.sl [.agg [iT 2,iT 0,sT (bj.getD (m%5) ⟨#[]⟩)],.agg [iT 1,iT (((m/2^3:Nat):Int)-20),sT (⟨#[]⟩)]],bT (decide ((bM (m/2^5)).num<0)),aM ((bM (m/2^5)).num.natAbs),aM ((bM (m/2^5)).den)]) (by kernel_rfl) Z Z (fG Z gt Z Z Z)<|.ok (t:=.agg [.sl [.agg [iT 2,iT 0,sT (bj.getD (m%5) ⟨#[]⟩)],.agg [iT 1,iT (((m/2^3:Nat):Int)-20),sT (⟨#[]⟩)]],bT (decide ((bM (m/2^5)).num<0)),aM ((bM (m/2^5)).num.natAbs),aM ((bM (m/2^5)).den)]) (by kernel_rfl) Z Z (fG Z gt Z Z Z)<|.no (by kernel_rfl)<|.nil
   refine .op [0,11] (by kernel_rfl) ?_ ?_
   ·refine .ok (t:=.tup [.agg dS,iT (bK r (bZ (bj.getD (m%5) ⟨#[]⟩) m))]) (by kernel_rfl) Z Z (ar Z (by have h:=iq r (bZ (bj.getD (m%5) ⟨#[]⟩) m) (a.1.fit).1 a.1.str (lF (iO _)) (ms (kP _).2 _) (by show 2<=65536;decide);rw[tv e]at h;exact h) Z Z)<|.ok (t:=.tup [.agg dS,iT (bK r (bZ (bj.getD (m%5) ⟨#[]⟩) m))]) (by kernel_rfl) Z Z (ar Z (by have h:=iq r (bZ (bj.getD (m%5) ⟨#[]⟩) m) (a.1.fit).1 a.1.str (lF (iO _)) (ms (kP _).2 _) (by show 2<=65536;decide);rw[tv e]at h;exact h) Z Z)<|.no (by kernel_rfl)<|.nil
   refine .op [12] (by kernel_rfl) ?_ ?_
   ·refine .ok (t:=.tup [.agg dS,iT (bK r (bZ (bj.getD (m%5) ⟨#[]⟩) m))]) (by kernel_rfl) Z Z (aw Z Z)<|.ok (t:=.tup [.agg dS,iT (bK r (bZ (bj.getD (m%5) ⟨#[]⟩) m))]) (by kernel_rfl) Z Z (aw Z Z)<|.no (by kernel_rfl)<|.nil
   refine .op [13] (by kernel_rfl) ?_ ?_
   ·refine .ok (t:=.agg dS) (by kernel_rfl) Z Z (dD Z Z Z)<|.ok (t:=.agg dS) (by kernel_rfl) Z Z (dD Z Z Z)<|.no (by kernel_rfl)<|.nil
   refine .op [13] (by kernel_rfl) ?_ ?_
   ·refine .ok (t:=iT (bK r (bZ (bj.getD (m%5) ⟨#[]⟩) m))) (by kernel_rfl) Z Z (dD Z Z Z)<|.ok (t:=iT (bK r (bZ (bj.getD (m%5) ⟨#[]⟩) m))) (by kernel_rfl) Z Z (dD Z Z Z)<|.ok (t:=iT (bK r (bZ (bj.getD (m%5) ⟨#[]⟩) m))) (by kernel_rfl) Z Z (dD Z Z Z)<|.nil
   refine .op [] (by kernel_rfl) ?_ ?_
   ·refine .wr 1 id (.box 2 0) (by kernel_rfl) Z Z (iI Z Z Z im Z Z Z Z) Z Z Z Z (.k Z (.k Z (.k Z (.k Z (.k Z (.k Z (.k Z (.k Z (.k Z (.k Z (.k Z (.k Z (.k Z (.k Z (.k Z (.k Z (.i Z (.k Z (.k Z .nil)))))))))))))))))))<|.no (by kernel_rfl)<|.no (by kernel_rfl)<|.nil
   refine .op [14,16] (by kernel_rfl) ?_ ?_
   ·refine .no (by kernel_rfl)<|.wr 2 id .any (by kernel_rfl) Z Z (gJ Z Z Z Z Z Z Z Z lz Z Z Z) Z Z Z Z (.k Z (.k Z (.k Z (.k Z (.k Z (.k Z (.k Z (.k Z (.k Z (.k Z (.k Z (.k Z (.k Z (.k Z (.k Z (.k Z (.k Z (.i Z (.k Z .nil)))))))))))))))))))<|.no (by kernel_rfl)<|.nil
   refine .op [15] (by kernel_rfl) ?_ ?_
   ·refine .no (by kernel_rfl)<|.no (by kernel_rfl)<|.ok (t:=iT (bK r (bZ (bj.getD (m%5) ⟨#[]⟩) m))) (by kernel_rfl) Z Z (bW Z Z)<|.nil
   exact .nil
  refine ab<|ae<|aa 1 Z<|af (t:=bT ((bK r (bZ (bj.getD (m%5) ⟨#[]⟩) m))==0)) Z Z Z (ai Z Z Z Zy)<|ag<|aH Z (fun o=>?_) (fun o=>?_)
  ·exact absurd (by simpa using o) e
  refine ax<|ae<|aa 1 Z<|af (t:=nI (i+1)) Z Z Z (ah (ai Z Z Z Zy) (bu (by omega)))<|aa 1 Z<|ag<|⟨_,_,?_,⟨i+1,r,?_,Z,Z⟩,⟨Z,Z,Z,.cons Z Z (.cons Z Z (.cons Z Z (.cons Z Z (.cons Z Z .nil)))),Z⟩⟩
  ·omega
  refine⟨by omega,by omega,?_⟩;have v:=a.more;rwa[show i-1+1=i+1-1 from by omega]at v
 refine aZ<|ab<|aj 2 Z<|aC<|⟨_,⟨r,a.1,Z⟩,.inr Z,_,.cons ⟨_,_,_,_,Z,Z,.inl ⟨_,bq,Z,Z⟩⟩ .nil,Z,Z⟩
def fj(cert:Bool)(t:Tp):List UInt8:=b7 0 t.vals++(if cert then []else 58::(gF t.prob).data.toList)
theorem AU(cert:Bool)(t:Tp):pg cert t=fj cert t++[10]:=by unfold pg fj;simp
theorem yJ:∀{cs:List Col} {vs:List V},eW cs vs=false->vs.length=cs.length->∀v∈vs,v.ok=true
 |[],[],_,_,v,h=>by cases h
 |[],_::_,_,h,_,_=>by simp at h
 |_::_,[],_,h,_,_=>by simp at h
 |c::cs,u::vs,h,hl,v,a=>by
  rw[eW]at h;simp only[Mz,PH]at h;rcases Mi.1 a with rfl|a
  ·exact h.1.2
  exact yJ h.2 (by simpa using hl) v a
theorem DM{q:Rat}(h:gP true q=true):q=1:=by
 unfold gP at h;simp only[Ma,Nj,Mz,OC,bne_eq_false_iff_eq]at h;have:=(pM _).1 h.1.2
 grind
structure LnOK (s:Sch) (t:Tp):Prop where
 c:bG s t=0
 q:t.prob∈gW
 r:∀v∈t.vals,v.rng
theorem LnOK.vok{s:Sch}{t:Tp}(h:LnOK s t):∀v∈t.vals,Gv v:=fun v a=>⟨yJ (ek h.c).2.2.2 (ek h.c).1 v a,h.r v a⟩
theorem pZ:∀(vs:List V) (i:Nat),0<i->vs.length<=(b7 i vs).length
 |[],_,_=>L5 _
 |v::vs,i,hi=>by
  have:=pZ vs (i+1) (by omega);rw[b7,if_pos hi];simp only[Mc,Mb,Mo];omega
theorem uY:∀(vs:List V) (i:Nat),(∀v∈vs,v.rng)->(b7 i vs).length<=vs.length*131
 |[],_,_=>L5 _
 |v::vs,i,h=>by
  have d:=uY vs (i+1) fun x a=>h x (MB _ a)
  have c:=yE v (h v (Mr ..));have b:(if 0<i then [(44:UInt8)]else []).length<=1:=by split<;>simp
  rw[b7];simp only[Mc,Mb];omega
theorem uZ:∀(vs:List V) (i:Nat),(∀v∈vs,Gv v)->∀c∈b7 i vs,32<=c.toNat/\c.toNat<=126
 |[],_,_,c,a=>by cases a
 |v::vs,i,h,c,a=>by
  rw[b7]at a;simp only[My]at a;rcases a with a|a|a
  ·split at a
   ·rw[Ml.1 a];decide
   cases a
  ·exact JI (h v (Mr ..)).1 c a
  exact uZ vs (i+1) (fun x b=>h x (MB _ b)) c a
theorem Co{s:Sch}{t:Tp}(h:LnOK s t):∀c∈fj s.cert t,32<=c.toNat/\c.toNat<=126:=fun c a=>by
 unfold fj at a;rcases My.1 a with a|a
 ·exact uZ _ _ h.vok c a
 split at a
 ·cases a
 rcases Mi.1 a with rfl|a
 ·decide
 have:=Mh.1 (mr h.q).2.1 c a;simpa using this
theorem tC{s:Sch}{t:Tp}(h:LnOK s t):(fj s.cert t).length<=795/\1<=(fj s.cert t).length:=by
 have j:=uY t.vals 0 h.r;have m:=(jk (ek h.c).2.2.1);have b:=(ek h.c).1;have k:=(mr h.q).2.2;have g:(gF t.prob).data.toList.length=(gF t.prob).size:=by simp
 constructor
 ·unfold fj;rw[Mc];split
  ·simp only[Mo];omega
  simp only[Mb,g];omega
 have d:=h.vok;unfold fj;cases a:t.vals with
 |nil=>rw[a]at b;simp at b;omega
 |cons v vs=>
  rw[a]at d;have i:1<=v.fmt.length:=by
   rcases pX (d v (Mr ..)).1 with e|⟨l,_,e⟩
   ·obtain⟨c,r,f,_⟩:=g8 v.n;rw[e,f];simp
   rw[e];simp
  rw[b7];simp only[Mc];omega
theorem DN{s:Sch}{t:Tp}(h:LnOK s t):(cE (bs (fj s.cert t)) s.cert).ok=true/\jF (cE (bs (fj s.cert t)) s.cert)=t:=by
 obtain⟨m,j,p,_⟩:=ek h.c;have g:=jk p;have k:=h.vok;obtain⟨d,prob⟩:=t;cases d with
 |nil=>simp at m;omega
 |cons v vs=>
  have l:∀a,SepE a->j0 ((bs (b7 0 (v::vs)++a)).size+1) (bs (b7 0 (v::vs)++a)) []=some (v::vs,bs a):=fun a b=>by
   have e:b7 0 (v::vs)++a=v.fmt++(b7 1 vs++a):=by rw[b7,if_neg (by omega)];simp
   have u:=pZ vs 1 (by omega);rw[e];refine pY b vs v _ [] ?_ (k v (Mr ..)) fun x o=>k x (MB _ o)
   rw[rl];simp only[Mc];omega
  cases n:s.cert with
  |true=>
   rw[n]at j;obtain rfl:prob=1:=DM j;have f:=l [] (.inl Z);unfold cE fj;rw[if_pos Z,f];refine⟨beq_self_eq_true (⟨#[]⟩:ByteArray).toList,?_⟩;show(⟨v::vs,cF (decide ((1:Rat).num<0)) (1:Rat).num.natAbs (1:Rat).den⟩:Tp)=_
   rw[fd]
  |false=>
   have f:=l (58::(gF prob).data.toList) (.inr ⟨_,Z⟩);have i:=(mr h.q).1;have r:(bs (58::(gF prob).data.toList)).extract 1 (bs (58::(gF prob).data.toList)).size=gF prob:=by
    have:=mY [58] (gF prob).data.toList;rw[Gh]at this;exact this
   unfold cE fj;rw[if_neg (by simp),f];simp only;rw[if_neg (by simp),if_neg (by rw[eX];simp[Lib.hasPrefix,List.isPrefixOf]),r,if_pos (by rw[i])];refine⟨Z,?_⟩;unfold jF;simp only;rw[i,fd]
theorem u4{vs:List V}:∀{ts:List Tp} {i:Nat},(∀t∈ts,aO t.vals vs≠0)->(gU vs ts i).isSome=false
 |[],_,_=>rfl
 |t::ts,i,h=>by
  rw[gU,if_neg (h t (Mr ..))];exact u4 fun x a=>h x (MB _ a)
theorem Ih{s:Sch}{a b:List Tp}{t:Tp}(h:bm ⟨s,a++t::b⟩=0):cJ ⟨s,a++b⟩ t=0/\bD ⟨s,a++b⟩ t=⟨s,a++t::b⟩:=by
 obtain⟨w,z,m,y⟩:=gw.1 h;obtain⟨l,k⟩:=(fQ _).1 m;have u:bm ⟨s,a++b⟩=0:=mW h ((List.Sublist.refl a).append (P8 t b));obtain⟨v,p,n⟩:=Od.1 k;have i:∀x∈a,aO x.vals t.vals<0:=fun x d=>n x d t (Mr ..)
 have o:∀x∈b,aO t.vals x.vals<0:=fun x d=>(Oc.1 p).1 x d
 have g:∀x∈b,¬aO x.vals t.vals<0/\aO x.vals t.vals≠0:=fun x d=>by
  have r:=o x d;have q:=mh t.vals x.vals;omega
 have f:pN t.vals (a++b)=a.length:=by
  unfold pN;rw[List.takeWhile_append_of_pos (fun x d=>decide_eq_true (i x d))];cases b with
  |nil=>simp
  |cons x b=>rw[Nh,if_neg (by simpa using(g x (Mr ..)).1)];simp
 have j:bD ⟨s,a++b⟩ t=⟨s,a++t::b⟩:=by
  unfold bD;simp only[f];simp
 refine⟨?_,j⟩;rw[DA];unfold bK;rw[if_neg (c:=bm ⟨s,a++b⟩≠0) (by omega),if_neg (c:=bG s t≠0) (by have e:bG s t=0:=l t (by simp);omega),if_neg (by
  rw[u4]
  ·simp
  intro x d;rcases My.1 d with d|d
  ·have:=i x d;omega
  exact(g x d).2),j]
 exact h
theorem ke(cert:Bool)(L:List ByteArray)(i:Nat)(r:Rel):cG cert (bs []::L) i r=cG cert L (i+1) r:=by
 rw[cG,if_pos (show((bs []).toList==(⟨#[]⟩:ByteArray).toList)=true from beq_self_eq_true (⟨#[]⟩:ByteArray).toList)]
theorem qC{s:Sch}{t:Tp}{a b:List Tp}(L:List ByteArray)(i:Nat)(f:bm ⟨s,a++t::b⟩=0)(h:LnOK s t):cG s.cert (bs (fj s.cert t)::L) i ⟨s,a++b⟩=cG s.cert L (i+1) ⟨s,a++t::b⟩:=by
 obtain⟨g,k⟩:=DN h;obtain⟨e,j⟩:=Ih f;have c:=(tC h).2;rw[cG,if_neg (by
  rw[Lib.toList_data,Lib.toList_data,eX];cases d:fj s.cert t with
  |nil=>rw[d]at c;simp at c
  |cons x l=>simp),if_neg (by rw[g];simp),k,if_pos e,j]
theorem KO{s:Sch}{t:Tp}(h:LnOK s t):(10:UInt8)∉fj s.cert t:=fun a=>by
 have:=(Co h 10 a).1;exact absurd this (by decide)
def mZ(k:Nat)(cert:Bool)(us:List Tp):List UInt8:=us.flatMap fun t=>List.replicate k 10++(fj cert t++[10])
theorem rm{s:Sch}{k:Nat}:∀(us:List Tp),(∀t∈us,LnOK s t)->(mZ k s.cert us).length<=us.length*(k+796)
 |[],_=>Mx _
 |t::us,h=>by
  have b:=rm (k:=k) us fun x a=>h x (MB _ a)
  have c:=(tC (h t (Mr ..))).1;unfold mZ at b⊢;rw[OD];simp only[Mc,Ok,Mb,Mo,Nat.succ_mul];omega
theorem yK{s:Sch}{k:Nat}:∀(us:List Tp),(∀t∈us,LnOK s t)->tN (mZ k s.cert us)=true:=fun us h=>by
 refine Mh.2 fun c a=>decide_eq_true ?_
 obtain⟨t,b,a⟩:=PV.1 a;simp only[My,Ml]at a;rcases a with a|a|rfl
 ·rw[(ON.1 a).2];decide
 ·have:=(Co (h t b) c a).2;omega
 decide
theorem rn{r:Rel}(h:Good r):∀t∈r.tups,LnOK r.sch t:=fun t a=>⟨((fQ _).1 (gw.1 h.valid).2.2.1).1 t a,h.prob t a,h.rng t a⟩
theorem DO(cert:Bool)(j:Nat)(r:Rel):cG cert (cL (bs [])) j r=(r,0,0):=by
 have e:cL (bs [])=[bs []]:=lG (by simp);rw[e,ke];rfl
end Go.Proofs.YtfoejfohbkmmeaaGreatDoor
