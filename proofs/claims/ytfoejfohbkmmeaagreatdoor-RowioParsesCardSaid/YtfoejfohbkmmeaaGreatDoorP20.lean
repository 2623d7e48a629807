import Derived.Test.YtfoejfohbkmmeaaGreatDoorP19
import Derived.Test.YtfoejfohbkmmeaaGreatDoorP00
import Derived.Test.YtfoejfohbkmmeaaGreatDoorP06
import Derived.Test.YtfoejfohbkmmeaaGreatDoorP18
import Derived.Laws.BitsLemmas
set_option maxRecDepth 100000
set_option maxHeartbeats 4000000
namespace Go.Proofs.YtfoejfohbkmmeaaGreatDoor
open Go.RowKit
def my(d:Nat):Tree:=.sc (.int .u32 (d:Nat))
theorem lI(l:List Nat):Sized 1 (l.map my):=Sized.map _ l fun _=>rfl
theorem uF{m n:Nat}(h:m=n):aH n=aH m:=by rw[h]
theorem o8{p q:Rat}(h:p=q):dt p=dt q:=by rw[h]
theorem sD(n:Nat)(c:(ax n).length<=1073741823):Ct 172 [aH n] (aH n):=eU ⟨_,Tryz.func172,Z,Z⟩ (fun _ _ _ a h=>fO a h) fun G w vs _ _ b=>by
 obtain⟨u,rfl,h⟩:=dp b;exact B6 (dQ h) c
theorem Il(M N:Nat)(a:(ax M).length<=1048576)(e:(ax N).length<=1048576):Ct 196 [aH M,aH N] (aH (M+N)):=eU ⟨_,Tryz.func196,Z,Z⟩ (fun _ _ _ c h=>fO c h) fun G w vs _ _ b=>by
 obtain⟨u,x,rfl,f,d⟩:=d5 b;exact LH (dQ f) (dQ d) a e
theorem JU(M N:Nat)(a:(ax M).length<=1048576)(e:(ax N).length<=1048576):Ct 209 [aH M,aH N] (aH (Nat.gcd M N)):=eU ⟨_,Tryz.func209,Z,Z⟩ (fun _ _ _ c h=>fO c h) fun G w vs _ _ b=>by
 obtain⟨u,x,rfl,f,d⟩:=d5 b;exact KU (dQ f) (dQ d) a e
theorem Ch(M N:Nat)(d:(ax M).length<=1048576)(g:(ax N).length<=1048576)(h:0<N):Ct 210 [aH M,aH N] (.tup [aH (M/N),aH (M%N),bT true]):=eU (K:=LX M N) ⟨_,Tryz.func210,Z,Z⟩ (fun _ _ _ c ⟨_,_,e,b,a⟩=>by
  subst e;exact .tup [_,_,.bool true] _ ((fO c b).cons ((fO c a).cons (.sc _ .nil))) .nil) fun G w vs _ _ f=>by
 obtain⟨u,x,rfl,b,a⟩:=d5 f;exact Ce (dQ b) (dQ a) d g h
theorem Ci(M N:Nat)(c:(ax M).length<=1048576)(g:(ax N).length<=1048576):Ct 197 [aH M,aH N] (.tup [aH (M-N),bT (decide (N<=M))]):=eU (K:=KQ M N) ⟨_,Tryz.func197,Z,Z⟩ (fun _ _ _ e h=>by
  rcases MA M N with b|a
  ·rw[show M-N=0 by omega,decide_eq_false (by omega),h.2 b];exact .tup [_,.bool false] _ (.sl0 _ _ (fun _=>rfl) (by decide) (.sc _ .nil)) .nil
  obtain⟨v,rfl,i⟩:=h.1 a;rw[decide_eq_true a];exact .tup [v,.bool true] _ ((fO e i).cons (.sc _ .nil)) .nil) fun G w vs _ _ d=>by
 obtain⟨u,x,rfl,j,f⟩:=d5 d;exact LI (dQ j) (dQ f) c g
theorem FE(n:Nat):(decide ((ax n).length=1)&&decide ((ax n).getD 0 0=1))=decide (n=1):=by
 by_cases h:n=1
 ·subst h;rfl
 rw[decide_eq_false h,Nu];by_cases a:(ax n).length=1
 ·right;refine decide_eq_false fun e=>h ?_
  obtain⟨_,_,b⟩:=xY (n:=n) a;rw[b]at e;exact e
 left;exact decide_eq_false a
theorem JV{ng:Bool}{N D:Nat}(h:(decide (cM N=0)||decide (cM D=0))=true):0=dH ng N D:=by
 rw[MP,decide_eq_true_eq,decide_eq_true_eq,jW,jW]at h;rcases h with rfl|rfl
 ·exact(mx _ _).symm
 exact(xZ _ _).symm
def qj(ng:Bool)(N D:Nat):Int:=if N=0 then 0 else if D=0 then 0 else if ng then-1 else 1
theorem JW{ng:Bool}{N D:Nat}(h:(decide (cM N=0)||decide (cM D=0))=true):0=qj ng N D:=by
 rw[MP,decide_eq_true_eq,decide_eq_true_eq,jW,jW]at h;unfold qj;rcases h with rfl|rfl
 ·rfl
 rw[if_pos Z,ite_self]
theorem Cj{ng:Bool}{N D:Nat}(c:N≠0)(a:D≠0):(Tree.agg [bT ng,aH (N/Nat.gcd N D),aH (D/Nat.gcd N D)])=dt (dH ng N D):=by
 obtain⟨e,b,d⟩:=qg ng (MS c) (MS a);unfold dt jX;rw[e,b,d]
theorem FF{ng:Bool}{N D:Nat}(b:N≠0)(a:D≠0)(h:Nat.gcd N D=1):(Tree.agg [bT ng,aH N,aH D])=dt (dH ng N D):=by
 have:=Cj (ng:=ng) b a;rwa[h,P0,P0]at this
theorem AC(ng:Bool){N D X E:Nat}(b:0<D)(c:0<E)(h:X*D=N*E):dH ng N D=dH ng X E:=by
 unfold dH;rw[Rat.mkRat_eq_iff (by omega) (by omega)];have a:(N:Int)*(E:Int)=(X:Int)*(D:Int):=by rw[<-O4,<-O4,h]
 cases ng
 ·simpa using a
 simp only[if_true,Qz,a]
theorem jZ(a b:Int){d:Nat}(c:0<d):mkRat a d+mkRat b d=mkRat (a+b) d:=by
 rw[Rat.mkRat_add_mkRat _ _ (by omega) (by omega),<-Int.add_mul,Rat.mkRat_mul_right (by omega)]
theorem o9(ng:Bool)(X Y:Nat){d:Nat}(a:0<d):dH ng X d+dH ng Y d=dH ng (X+Y) d:=by
 unfold dH;rw[jZ _ _ a];congr 1;cases ng<;>simp<;>omega
theorem sE{ng a:Bool}(h:ng≠a){X Y d:Nat}(b:0<d)(c:Y<=X):dH ng X d+dH a Y d=dH ng (X-Y) d:=by
 unfold dH;rw[jZ _ _ b];congr 1;cases ng<;>cases a<;>simp at h⊢<;>omega
theorem sF{ng a:Bool}(h:ng≠a){X Y d:Nat}(b:0<d)(c:X<Y):dH ng X d+dH a Y d=dH a (Y-X) d:=by
 unfold dH;rw[jZ _ _ b];congr 1;cases ng<;>cases a<;>simp at h⊢<;>omega
theorem wI(a b:Nat):(ax (a*b)).length<=(ax a).length+(ax b).length:=by
 have d:=b8 (ax a) (bZ a);have c:=b8 (ax b) (bZ b);rw[aO]at d c;refine a8 ?_;rw[NZ];exact PV d c
theorem Im(a b L:Nat)(c:(ax a).length<=L)(e:(ax b).length<=L):(ax (a+b)).length<=L+1:=by
 have f:=b8 (ax a) (bZ a);have d:=b8 (ax b) (bZ b);rw[aO]at f d;refine a8 ?_;have h:(4294967296:Nat)^(ax a).length<=4294967296^L:=MR (by decide) c;have g:(4294967296:Nat)^(ax b).length<=4294967296^L:=MR (by decide) e;rw[MH];omega
theorem Io(a b:Nat):(eo (a:Int) (b:Int) !=0)=decide (a≠b):=by
 unfold eo;rw[OJ,bne_iff_ne,decide_eq_true_iff];split
 ·constructor
  ·intro _ e;omega
  intro _ e;cases e
 split
 ·constructor
  ·intro _ e;omega
  intro _ e;cases e
 constructor
 ·intro h;exact absurd rfl h
 intro h;omega
theorem FG{ng:Bool}{N D:Nat}(h:qj ng N D≠0):N≠0/\D≠0:=by
 unfold qj at h;constructor<;>intro e<;>subst e<;>simp at h
theorem Je{ng:Bool}{N D:Nat}(h:qj ng N D=0):dH ng N D=0:=by
 unfold qj at h;by_cases b:N=0
 ·subst b;exact mx _ _
 by_cases a:D=0
 ·subst a;exact xZ _ _
 rw[if_neg b,if_neg a]at h;cases ng<;>simp at h
theorem AD(ng b:Bool){N D M E:Nat}(a:D≠0)(d:E≠0)(g:(ax N).length<=262144)(j:(ax D).length<=262144)(i:(ax M).length<=262144)(f:(ax E).length<=262144):∃X Y Z,(D=E->X=N/\Y=M/\Z=D)/\(D≠E->X=N*E/\Y=M*D/\Z=D*E)/\0<Z/\dH ng N D+dH b M E=dH ng X Z+dH b Y Z/\(ax X).length<=524288/\(ax Y).length<=524288/\(ax Z).length<=524288:=by
 by_cases h:D=E
 ·subst h;exact⟨N,M,D,fun _=>⟨Zz,Zz,Zz⟩,fun e=>absurd Zz e,MS a,Zz,by omega,by omega,by omega⟩
 have m:=wI N E;have k:=wI M D;have l:=wI D E;have c:0<D*E:=OD (MS a) (MS d);exact⟨N*E,M*D,D*E,fun e=>absurd e h,fun _=>⟨Zz,Zz,Zz⟩,c,by rw[AC ng (MS a) c (show N*E*D=N*(D*E) by rw[Mu,Mt E]),AC b (MS d) c (show M*D*E=M*(D*E) by rw[Mu])],by omega,by omega,by omega⟩
theorem aI:rj Tryz.prog 65=some 3:=by kernel_rfl
theorem c7:gN Tryz.prog 63=some (50,1):=by kernel_rfl
theorem lJ:ku Tryz.prog 65 0=some 0:=by kernel_rfl
theorem dR:ku Tryz.prog 65 1=some 1:=by kernel_rfl
theorem dw:ku Tryz.prog 65 2=some 2:=by kernel_rfl
theorem fh:jo Tryz.prog 4=true:=by kernel_rfl
theorem n4:jo Tryz.prog 50=true:=by kernel_rfl
theorem b6:jo Tryz.prog 63=true:=by kernel_rfl
theorem eg:(Tryz.prog.info? 65).map (·.size)=some 3:=by kernel_rfl
theorem JX:ua Tryz.prog 65=some ([(0,1),(1,1),(2,1)],[.bool false,.slice none 0 0,.slice none 0 0]):=by kernel_rfl
theorem j0:gz Tryz.prog 65=some [.bool false,.slice none 0 0,.slice none 0 0]:=by kernel_rfl
theorem yc(n:Nat):Ct 109 [aH n] (bT (decide (n=1))):=by
 have c:decide ((ax n).length=1)=true->(ax n)[0]? =some ((ax n).getD 0 0):=fun h=>by
  have:=of_decide_eq_true h;rw[Mk,L3 (by omega),MG]
 refine Ct.of (n:=12) Tryz.func109 Z Z Z Z Z fun w0 G0=>?_
 refine ab<|aj 1 Z<|ab<|ae<|aa 1 Z<|af (t:=nI ((ax n).length)) Z Z Z (ah (aZ Z c7 Z) (by simp only[L5]))<|af (t:=bT (decide ((ax n).length=1))) Z Z Z (ah (ai Z Z Z Zy) (ar (jF ((ax n).length) 1)))<|aa 1 Z<|aq (t:=.sl ((ax n).map my)) Z Z Z Z (fun a=>au Z Z)<|aq (t:=.ref [.sc (.int .u32 ((((ax n).getD 0 0):Nat):Int))]) Z Z Z Z (fun a=>aM (my ((ax n).getD 0 0)) Z c7 (if_pos a) Z Z (aS (f:=my) (c a)) (lI _) Z)<|aq (t:=.sc (.int .u32 ((((ax n).getD 0 0):Nat):Int))) Z Z Z Z (fun a=>bz Z (if_pos a) n4 Z)<|aq (t:=bT (decide (((ax n).getD 0 0)=1))) Z Z Z Z (fun a=>ah (ai Z (if_pos a) Z (fun _=>rfl)) (ar (jF (((ax n).getD 0 0)) 1)))<|af (t:=bT ((decide ((ax n).length=1))&&(decide (((ax n).getD 0 0)=1)))) Z Z Z (aK Z Z (fun b=>(if_pos b).trans (ar (by rw[b];rfl))) (fun b=>(ar (by rw[b];rfl))))<|aa 1 Z<|ag<|aw<|⟨.inr Z,_,.cons Z .nil,ar (FE n),Z⟩
theorem Ip:Ct 208 [] (dt 0):=by
 refine Ct.of (n:=3) Tryz.func208 Z Z Z Z Z fun w0 G0=>?_
 refine ab<|aj 1 Z<|ab<|ae<|af Z Z Z (ak Z (ij 1 (by decide)) Z Z)<|aa 2 Z<|ag<|aw<|⟨.inr Z,_,.cons ⟨_,_,_,_,Z,Z,.inl ⟨_,aI,Z,Z⟩⟩ .nil,Z,Z⟩
theorem JY:Ct 131 [] (dt 1):=by
 refine Ct.of (n:=4) Tryz.func131 Z Z Z Z Z fun w0 G0=>?_
 refine ab<|aj 1 Z<|ab<|ae<|af Z Z Z (ak Z (ij 1 (by decide)) Z Z)<|af Z Z Z (ak Z (ij 1 (by decide)) Z Z)<|aa 2 Z<|ag<|aw<|⟨.inr Z,_,.cons ⟨_,_,_,_,Z,Z,.inl ⟨_,aI,Z,Z⟩⟩ .nil,Z,Z⟩
theorem lK(ng:Bool)(N D:Nat)(d:(ax N).length<=1048576)(i:(ax D).length<=1048576):Ct 145 [bT ng,aH N,aH D] (dt (dH ng N D)):=by
 refine Ct.of (n:=52) Tryz.func145 Z Z Z Z Z fun w0 G0=>?_
 refine ab<|aj 1 Z<|ab<|ab<|ae<|aa 1 Z<|af Z Z Z (ak Z (n3 N d) Z Z)<|af (t:=bT (decide (cM N=0))) Z Z Z (ah (ai Z Z Z Zy) (ar (jF (cM N) 0)))<|aa 1 Z<|aq (t:=aH D) Z Z Z Z (fun h=>au Z Z)<|aq (t:=nI (cM D)) Z Z Z Z (fun h=>ak Z (n3 D i) (eR (if_pos h) Z) Z)<|aq (t:=bT (decide (cM D=0))) Z Z Z Z (fun h=>ah (ai Z (if_pos h) Z (fun _=>rfl)) (ar (jF (cM D) 0)))<|af (t:=bT ((decide (cM N=0))||(decide (cM D=0)))) Z Z Z (aK Z Z (fun g=>(ar (by rw[g];rfl))) (fun g=>(if_pos g).trans (ar (by rw[g];rfl))))<|ag<|aF Z (fun b=>?_) (fun b=>?_)
 ·refine ab<|ae<|af Z Z Z (ak Z Ip Z Z)<|aa 1 Z<|ag<|aw<|⟨.inr Z,_,.cons ⟨_,_,_,_,Z,Z,.inl ⟨_,aI,Z,Z⟩⟩ .nil,o8 (JV b),Z⟩
 have a:N≠0:=fun e=>by
  subst e;rw[show cM 0=0 from rfl]at b;cases b
 have c:D≠0:=fun e=>by
  subst e;rw[show cM 0=0 from rfl,Qs]at b;cases b
 refine am<|ab<|ae<|aa 2 Z<|af Z Z Z (ak Z (JU N D d i) Z Z)<|aa 1 Z<|ag<|ab<|ab<|ae<|aa 1 Z<|af Z Z Z (ak Z (yc _) Z Z)<|ag<|aD Z (fun f=>?_) (fun f=>?_)
 ·refine ab<|ae<|aa 2 Z<|af Z Z Z (ak Z (sD N (by omega)) Z Z)<|aa 1 Z<|af Z Z Z (ak Z (sD D (by omega)) Z Z)<|aa 2 Z<|ag<|aw<|⟨.inr Z,_,.cons ⟨_,_,_,_,Z,Z,.inl ⟨_,aI,Z,Z⟩⟩ .nil,FF a c f,Z⟩
 refine am<|ab<|ae<|aa 2 Z<|af Z Z Z (ak Z (Ch _ _ d (Ma (a7 (PX D (MS a))) d) (Pf _ (MS a))) Z Z)<|aa 7 Z<|ag<|ab<|ae<|aa 2 Z<|af Z Z Z (ak Z (Ch _ _ i (Ma (a7 (PX D (MS a))) d) (Pf _ (MS a))) Z Z)<|aa 7 Z<|ag<|ab<|aj 5 Z<|aw<|⟨.inr Z,_,.cons ⟨_,_,_,_,Z,Z,.inl ⟨_,aI,Z,Z⟩⟩ .nil,(Cj a c),Z⟩
theorem k6(ng:Bool)(N D:Nat)(b:(ax N).length<=262144)(a:(ax D).length<=262144):Ct 145 [bT ng,aH N,aH D] (dt (dH ng N D)):=lK ng N D (by omega) (by omega)
theorem rE(ng:Bool)(N D:Nat)(b:(ax N).length<=262144)(a:(ax D).length<=262144):Ct 107 [jX ng N D] (dt (dH ng N D)):=by
 refine Ct.of (n:=10) Tryz.func107 Z Z Z Z Z fun w0 G0=>?_
 refine ab<|aj 2 Z<|ab<|ae<|aa 6 Z<|af Z Z Z (ak Z (k6 ng N D b a) Z Z)<|aa 1 Z<|ag<|aw<|⟨.inr Z,_,.cons ⟨_,_,_,_,Z,Z,.inl ⟨_,aI,Z,Z⟩⟩ .nil,Z,Z⟩
theorem JZ(ng:Bool)(N D:Nat):Ct 195 [jX ng N D] (jX (!ng) N D):=by
 refine Ct.of (n:=11) Tryz.func195 Z Z Z Z Z fun w0 G0=>?_
 refine ab<|aj 2 Z<|ab<|ae<|aa 2 Z<|af (t:=bT (!ng)) Z Z Z (dm Z Z Zy)<|aa 6 Z<|ag<|aw<|⟨.inr Z,_,.cons ⟨_,_,_,_,Z,Z,.inl ⟨_,aI,Z,Z⟩⟩ .nil,Z,Z⟩
theorem wJ(ng:Bool)(N D:Nat)(i:(ax N).length<=262144)(h:(ax D).length<=262144):Ct 66 [jX ng N D] (iT (qj ng N D)):=by
 refine Ct.of (n:=15) Tryz.func66 Z Z Z Z Z fun w0 G0=>?_
 refine ab<|aj 2 Z<|ab<|ab<|ae<|aa 2 Z<|af Z Z Z (ak Z (k5 N (by omega)) Z Z)<|af (t:=bT (decide (cM N=0))) Z Z Z (ah (ai Z Z Z Zy) (ar (jF (cM N) 0)))<|aa 1 Z<|aq (t:=.box 0 2) Z Z Z Z (fun c=>av Z Z dw Z)<|aq (t:=aH D) Z Z Z Z (fun c=>aA Z (if_pos c) Z b6 Z)<|aq (t:=nI (cM D)) Z Z Z Z (fun c=>ak Z (k5 D (by omega)) (eR (if_pos c) Z) Z)<|aq (t:=bT (decide (cM D=0))) Z Z Z Z (fun c=>ah (ai Z (if_pos c) Z (fun _=>rfl)) (ar (jF (cM D) 0)))<|af (t:=bT ((decide (cM N=0))||(decide (cM D=0)))) Z Z Z (aK Z Z (fun g=>(ar (by rw[g];rfl))) (fun g=>(if_pos g).trans (ar (by rw[g];rfl))))<|ag<|aF Z (fun a=>?_) (fun a=>?_)
 ·refine ab<|aj 1 Z<|aw<|⟨.inr Z,_,.cons Z .nil,d8 (JW a),Z⟩
 have d:N≠0:=fun e=>by
  subst e;rw[show cM 0=0 from rfl]at a;cases a
 have f:D≠0:=fun e=>by
  subst e;rw[show cM 0=0 from rfl,Qs]at a;cases a
 refine am<|ab<|ab<|aj 2 Z<|aF Z (fun b=>?_) (fun b=>?_)
 ·refine ab<|aj 1 Z<|aw<|⟨.inr Z,_,.cons Z .nil,d8 (by unfold qj;rw[if_neg d,if_neg f,b];rfl),Z⟩
 refine am<|ab<|aj 1 Z<|aw<|⟨.inr Z,_,.cons Z .nil,d8 (by unfold qj;rw[if_neg d,if_neg f,b];rfl),Z⟩
theorem FH(ng d:Bool)(N D M E:Nat)(j:(ax N).length<=262144)(m:(ax D).length<=262144)(k:(ax M).length<=262144)(o:(ax E).length<=262144):Ct 132 [jX ng N D,jX d M E] (dt (dH ng N D+dH d M E)):=by
 refine Ct.of (n:=84) Tryz.func132 Zz Zz Zz Zz Zz fun w0 G0=>?_
 refine ab<|aj 3 Zz<|ab<|ab<|ae<|aa 1 Zz<|af Zz Zz Zz (ak Zz (wJ ng N D j m) Zz Zz)<|af (t:=bT ((qj ng N D)==0)) Zz Zz Zz (ai Zz Zz Zz Zy)<|ag<|aF Zz (fun e=>?_) (fun e=>?_)
 ·refine ab<|ae<|aa 1 Zz<|af Zz Zz Zz (ak Zz (rE d M E k o) Zz Zz)<|aa 1 Zz<|ag<|aw<|⟨.inr Zz,_,.cons ⟨_,_,_,_,Zz,Zz,.inl ⟨_,aI,Zz,Zz⟩⟩ .nil,o8 (by rw[Je (eq_of_beq e),Rat.zero_add]),Zz⟩
 have p:=FG (ne_of_beq_false e);refine am<|ab<|ab<|ae<|aa 1 Zz<|af Zz Zz Zz (ak Zz (wJ d M E k o) Zz Zz)<|af (t:=bT ((qj d M E)==0)) Zz Zz Zz (ai Zz Zz Zz Zy)<|ag<|aF Zz (fun g=>?_) (fun g=>?_)
 ·refine ab<|ae<|aa 1 Zz<|af Zz Zz Zz (ak Zz (rE ng N D j m) Zz Zz)<|aa 1 Zz<|ag<|aw<|⟨.inr Zz,_,.cons ⟨_,_,_,_,Zz,Zz,.inl ⟨_,aI,Zz,Zz⟩⟩ .nil,o8 (by rw[Je (eq_of_beq g),Rat.add_zero]),Zz⟩
 have q:=FG (ne_of_beq_false g);obtain⟨X,Y,Z,i,v,h,a,w,x,z⟩:=AD ng d p.2 q.2 j m k o;refine am<|ab<|cf (fu:=9) [some 22,some 23,some 24,some 25,some 26,some 27,some 5,some 6,some 7] [.box 0 1,aH N,.box 1 1,aH M,.box 0 2,aH D,aH N,aH M,aH D] (by kernel_rfl) Zz Zz (by kernel_rfl) Zz ?_ ?_
 ·refine Chain.op Zz (av Zz Zz dR Zz)<|Chain.op Zz (aA Zz Zz Zz b6 Zz)<|Chain.op Zz (av Zz Zz dR Zz)<|Chain.op Zz (aA Zz Zz Zz b6 Zz)<|Chain.op Zz (av Zz Zz dw Zz)<|Chain.op Zz (aA Zz Zz Zz b6 Zz)<|Chain.op Zz (bp Zz Zz)<|Chain.op Zz (bp Zz Zz)<|Chain.op Zz (bp Zz Zz)<|Chain.nil
 refine ab<|jN ⟨84,[(2,.box 0 0),(3,.box 1 0),(4,.box 2 0),(5,aH X),(6,aH Y),(7,aH Z)],[(65,[bT ng,aH N,aH D]),(65,[bT d,aH M,aH E]),(65,[bT false,.sl [],.sl []])],[]⟩ 3 0 ?_ ?_
 ·refine ab<|ae<|aa 4 Zz<|af Zz Zz Zz (ak Zz (Cg D E (by omega) (by omega)) Zz Zz)<|af (t:=bT (decide (D≠E))) Zz Zz Zz (ah (ai Zz Zz Zz Zy) (ar (Io D E)))<|ag<|aD Zz (fun b=>?_) (fun b=>?_)
  ·refine ab<|cf (fu:=12) [some 34,some 35,some 36,some 37,some 38,some 39,some 40,some 41,some 42,some 43,some 5,some 6] [.box 0 1,aH N,.box 1 2,aH E,aH (N*E),.box 1 1,aH M,.box 0 2,aH D,aH (M*D),aH (N*E),aH (M*D)] (by kernel_rfl) Zz Zz (by kernel_rfl) Zz ?_ ?_
   ·refine Chain.op Zz (av Zz Zz dR Zz)<|Chain.op Zz (aA Zz Zz Zz b6 Zz)<|Chain.op Zz (av Zz Zz dw Zz)<|Chain.op Zz (aA Zz Zz Zz b6 Zz)<|Chain.op Zz (ak Zz (kq _ _ (by omega) (by omega)) Zz Zz)<|Chain.op Zz (av Zz Zz dR Zz)<|Chain.op Zz (aA Zz Zz Zz b6 Zz)<|Chain.op Zz (av Zz Zz dw Zz)<|Chain.op Zz (aA Zz Zz Zz b6 Zz)<|Chain.op Zz (ak Zz (kq _ _ (by omega) (by omega)) Zz Zz)<|Chain.op Zz (bp Zz Zz)<|Chain.op Zz (bp Zz Zz)<|Chain.nil
   refine ae<|aa 4 Zz<|af Zz Zz Zz (ak Zz (kq _ _ (by omega) (by omega)) Zz Zz)<|aa 1 Zz<|ag ?_;obtain⟨s,u,l⟩:=v b;exact⟨Zz,Zz,Zz,.cons Zz Zz (.cons Zz Zz (.cons Zz Zz (.cons (uF s) Zz (.cons (uF u) Zz (.cons (uF l) Zz .nil))))),Zz⟩
  replace b:=Nx.1 b;refine am ?_;obtain⟨s,u,l⟩:=i b;exact⟨Zz,Zz,Zz,.cons Zz Zz (.cons Zz Zz (.cons Zz Zz (.cons (uF s) Zz (.cons (uF u) Zz (.cons (uF l) Zz .nil))))),Zz⟩
 refine ab<|ab<|ae<|aa 4 Zz<|af (t:=bT (ng==d)) Zz Zz Zz (ai Zz Zz Zz Zy)<|ag<|aF Zz (fun c=>?_) (fun c=>?_)
 ·refine ab<|dI (ops:=[_,_,_,_,_,_,_]) (fu:=8) (bs':=[(65,[bT ng,aH N,aH D]),(65,[bT d,aH M,aH E]),(65,[bT (decide ((dH ng (X+Y) Z).num<0)),aH ((dH ng (X+Y) Z).num.natAbs),aH ((dH ng (X+Y) Z).den)])]) [some 54,some 55,some 56,some 57,some 58,some 59,some 60] [.box 0 0,bT ng,aH X,aH Y,aH (X+Y),aH Z,.agg [bT (decide ((dH ng (X+Y) Z).num<0)),aH ((dH ng (X+Y) Z).num.natAbs),aH ((dH ng (X+Y) Z).den)]] (by kernel_rfl) Zz Zz Zz Zz Zz (by kernel_rfl) (by kernel_rfl) Zz Zz Zz Zz Zz Zz Zz Zz eg Zz Zz Zz ?_ ?_
  ·refine Chain.op Zz (av Zz Zz lJ Zz)<|Chain.op Zz (aA Zz Zz Zz fh Zz)<|Chain.op Zz (au Zz Zz)<|Chain.op Zz (au Zz Zz)<|Chain.op Zz (ak Zz (Il _ _ (by omega) (by omega)) Zz Zz)<|Chain.op Zz (au Zz Zz)<|Chain.op Zz (ak Zz (lK _ _ _ (Ma (Im X Y 524288 w x) (by decide)) (by omega)) Zz Zz)<|Chain.nil
  refine aw<|⟨.inr Zz,_,.cons ⟨_,_,_,_,Zz,Zz,.inl ⟨_,aI,Zz,Zz⟩⟩ .nil,o8 (by rw[a,<-eq_of_beq c,o9 _ _ _ h]),Zz⟩
 refine am<|ab<|ab<|ae<|aa 2 Zz<|af Zz Zz Zz (ak Zz (Ci _ _ (by omega) (by omega)) Zz Zz)<|aa 5 Zz<|ag<|ab<|aj 1 Zz<|aD Zz (fun f=>?_) (fun f=>?_)
 ·have r:=f;refine ab<|ae<|aa 4 Zz<|af Zz Zz Zz (ak Zz (lK _ _ _ (Ma (a7 (PB _ _)) (by omega)) (by omega)) Zz Zz)<|aa 1 Zz<|ag<|aw<|⟨.inr Zz,_,.cons ⟨_,_,_,_,Zz,Zz,.inl ⟨_,aI,Zz,Zz⟩⟩ .nil,o8 (by rw[a,sE (ne_of_beq_false c) h r]),Zz⟩
 have y:=f;refine am<|ab<|ae<|aa 2 Zz<|af Zz Zz Zz (ak Zz (Ci _ _ (by omega) (by omega)) Zz Zz)<|aa 5 Zz<|ag<|ab<|ae<|aa 4 Zz<|af Zz Zz Zz (ak Zz (lK _ _ _ (Ma (a7 (PB _ _)) (by omega)) (by omega)) Zz Zz)<|aa 1 Zz<|ag<|aw<|⟨.inr Zz,_,.cons ⟨_,_,_,_,Zz,Zz,.inl ⟨_,aI,Zz,Zz⟩⟩ .nil,o8 (by rw[a,sF (ne_of_beq_false c) h (by omega)]),Zz⟩
theorem pa{cert:Bool}{l:List Col}{i:Nat}{c:Col}(h:l[i]? =some c):ig cert (l.take i) (l.drop i)=(nZ cert c||(l.take i).any (fun d=>d.name.toList==c.name.toList)||ig cert (l.take (i+1)) (l.drop (i+1))):=by
 obtain⟨a,rfl⟩:=L6.1 h;rw[Mc a,ig,Mx a]
theorem sG:rj Tryz.prog 58=some 3:=by kernel_rfl
theorem bg:gN Tryz.prog 24=some (58,3):=by kernel_rfl
theorem Iq:ku Tryz.prog 26 0=some 0:=by kernel_rfl
theorem gp:ku Tryz.prog 26 1=some 1:=by kernel_rfl
theorem dS:ku Tryz.prog 26 2=some 2:=by kernel_rfl
theorem pb:ku Tryz.prog 58 0=some 0:=by kernel_rfl
theorem gt:ku Tryz.prog 58 1=some 1:=by kernel_rfl
theorem pc:ku Tryz.prog 58 2=some 2:=by kernel_rfl
theorem eH:jo Tryz.prog 24=true:=by kernel_rfl
theorem fi:jo Tryz.prog 3=true:=by kernel_rfl
theorem nd:jo Tryz.prog 9=true:=by kernel_rfl
theorem J0:(Tryz.prog.info? 58).map (·.size)=some 3:=by kernel_rfl
theorem fw:gz Tryz.prog 58=some [.string (⟨#[]⟩),.int .i64 0,.bool false]:=by kernel_rfl
theorem j1(s:Sch):Ct 26 [s.tree] (bT (fv s)):=by
 refine Ct.of (n:=69) Tryz.func26 Z Z Z Z Z fun w0 G0=>?_
 refine ab<|aj 2 Z<|ab<|ab<|ae<|aa 2 Z<|af Z Z Z (ak Z (o6 _) Z Z)<|af (t:=bT (!(gw s.name))) Z Z Z (dm Z Z Zy)<|aa 1 Z<|aq (t:=.box 0 2) Z Z Z Z (fun a=>av Z Z dS Z)<|aq (t:=.sl (s.cols.map Col.tree)) Z Z Z Z (fun a=>aA Z (if_pos a) Z eH Z)<|aq (t:=nI s.cols.length) Z Z Z Z (fun a=>ah (aZ Z bg (if_pos a)) (by simp only[L5]))<|aq (t:=bT (decide (s.cols.length<1))) Z Z Z Z (fun a=>ah (ai Z (if_pos a) Z (fun _=>rfl)) (ar (gA s.cols.length 1)))<|af (t:=bT ((!(gw s.name))||(decide (s.cols.length<1)))) Z Z Z (aK Z Z (fun b=>(ar (by rw[b];rfl))) (fun b=>(if_pos b).trans (ar (by rw[b];rfl))))<|aa 1 Z<|aq (t:=.box 0 2) Z Z Z Z (fun a=>av Z Z dS Z)<|aq (t:=.sl (s.cols.map Col.tree)) Z Z Z Z (fun a=>aA Z (if_pos a) Z eH Z)<|aq (t:=nI s.cols.length) Z Z Z Z (fun a=>ah (aZ Z bg (if_pos a)) (by simp only[L5]))<|aq (t:=bT (decide (6<s.cols.length))) Z Z Z Z (fun a=>ah (ai Z (if_pos a) Z (fun _=>rfl)) (ar (oF s.cols.length 6)))<|af (t:=bT (((!(gw s.name))||(decide (s.cols.length<1)))||(decide (6<s.cols.length)))) Z Z Z (aK Z Z (fun b=>(ar (by rw[b];rfl))) (fun b=>(if_pos b).trans (ar (by rw[b];rfl))))<|ag<|aF Z (fun m=>?_) (fun m=>?_)
 ·refine ab<|aj 1 Z<|aw<|⟨.inr Z,_,.cons Z .nil,ar (by unfold fv m8;rw[m];rfl),Z⟩
 refine am<|ab<|ab<|ae<|aa 2 Z<|af (t:=nI s.cols.length) Z Z Z (ah (aZ Z bg Z) (by simp only[L5]))<|aa 1 Z<|ag<|aB<|aR (fun y z=>∃(i:Nat),(i<=s.cols.length/\ig s.cert (s.cols.take i) (s.cols.drop i)=ig s.cert [] s.cols)/\y=s.cols.length-i/\z=⟨69,[(1,.box 0 0),(24,.sl (s.cols.map Col.tree)),(25,nI s.cols.length),(26,nI i)],[(26,(dj s))],[]⟩) 1 0 ⟨0,⟨by omega,Z⟩,Z,Z⟩ .rf ?_;rintro y z ⟨i,⟨G,g⟩,rfl,rfl⟩;have E:s.cols.length<=6:=by simp only[Mo,decide_eq_false_iff_not]at m;omega
 refine ab<|ae<|af (t:=bT (decide (i<s.cols.length))) Z Z Z (ah (ai Z Z Z Zy) (ar (gA i s.cols.length)))<|ag<|ab<|aD Z (fun A=>?_) (fun A=>?_)
 ·obtain⟨c,v⟩:∃c,s.cols[i]? =some c:=⟨_,L3 A⟩;rw[pa v]at g;refine am<|ab<|aB<|ab<|ae<|aa 1 Z<|af (t:=.ref [sT c.name,iT c.ty,bT c.key]) Z Z Z (aM (Col.tree c) Z bg Z Z Z (aS (f:=Col.tree) v) (eC _) Z)<|aa 4 Z<|ag<|ab<|ab<|ae<|aa 2 Z<|af Z Z Z (ak Z (o6 _) Z Z)<|af (t:=bT (!(gw c.name))) Z Z Z (dm Z Z Zy)<|aa 1 Z<|aq (t:=.box 1 1) Z Z Z Z (fun a=>av Z Z gt Z)<|aq (t:=iT c.ty) Z Z Z Z (fun a=>aA Z (if_pos a) Z fi Z)<|aq (t:=bT (c.ty !=1)) Z Z Z Z (fun a=>ai Z (if_pos a) Z (fun _=>rfl))<|aq (t:=bT (c.ty !=1)) Z Z Z Z (fun a=>au Z (if_pos a))<|bY (t:=.box 1 1) Z Z Z Z (fun a=>av Z Z gt Z)<|bY (t:=iT c.ty) Z Z Z Z (fun a=>aA Z (if_pos a) Z fi Z)<|bY (t:=bT (c.ty !=2)) Z Z Z Z (fun a=>ai Z (if_pos a) Z (fun _=>rfl))<|aq (t:=bT ((c.ty !=1)&&(c.ty !=2))) Z Z Z Z (fun a=>aK Z (if_pos a) (fun b=>(if_pos ⟨a,b⟩).trans (ar (by rw[b];rfl))) (fun b=>(ar (by rw[b];rfl))))<|af (t:=bT ((!(gw c.name))||((c.ty !=1)&&(c.ty !=2)))) Z Z Z (aK Z Z (fun b=>(ar (by rw[b];rfl))) (fun b=>(if_pos b).trans (ar (by rw[b];rfl))))<|aa 1 Z<|aq (t:=.box 0 1) Z Z Z Z (fun a=>av Z Z gp Z)<|aq (t:=bT s.cert) Z Z Z Z (fun a=>aA Z (if_pos a) Z fh Z)<|aq (t:=bT s.cert) Z Z Z Z (fun a=>au Z (if_pos a))<|bY (t:=.box 1 2) Z Z Z Z (fun a=>av Z Z pc Z)<|bY (t:=bT c.key) Z Z Z Z (fun a=>aA Z (if_pos a) Z fh Z)<|aq (t:=bT (s.cert&&c.key)) Z Z Z Z (fun a=>aK Z (if_pos a) (fun b=>(if_pos ⟨a,b⟩).trans (ar (by rw[b];rfl))) (fun b=>(ar (by rw[b];rfl))))<|af (t:=bT (((!(gw c.name))||((c.ty !=1)&&(c.ty !=2)))||(s.cert&&c.key))) Z Z Z (aK Z Z (fun b=>(ar (by rw[b];rfl))) (fun b=>(if_pos b).trans (ar (by rw[b];rfl))))<|ag<|aF Z (fun q=>?_) (fun q=>?_)
  ·refine ab<|aj 1 Z<|aw<|⟨.inr Z,_,.cons Z .nil,ar (by unfold fv;rw[<-g];unfold nZ;rw[q];simp),Z⟩
  refine am<|ab<|ae<|aa 3 Z<|af (t:=.sl ((s.cols.take i).map Col.tree)) Z Z Z (ah (kK (l:=0) (h:=i) Z bg Z Z ⟨_,Z⟩ (by first|omega|(simp only[L5];omega)) (by first|omega|(simp only[L5];omega)) (eC _)) (by simp only[O1,M8]))<|af (t:=nI ((s.cols.take i).length)) Z Z Z (ah (aZ Z bg Z) (by simp only[L5]))<|aa 1 Z<|ag<|aB<|aR (fun y z=>∃(j:Nat),(j<=(s.cols.take i).length/\∀k (u:k<(s.cols.take i).length),k<j->((s.cols.take i)[k].name.toList==c.name.toList)=false)/\y=(s.cols.take i).length-j/\z=⟨69,[(1,.box 0 0),(3,nI i),(4,.box 1 0),(24,.sl (s.cols.map Col.tree)),(25,nI s.cols.length),(26,nI i),(56,.sl ((s.cols.take i).map Col.tree)),(57,nI ((s.cols.take i).length)),(58,nI j)],[(26,(dj s)),(58,[sT c.name,iT c.ty,bT c.key])],[]⟩) 2 0 ⟨0,⟨by omega,fun k u h=>by omega⟩,Z,Z⟩ .rf ?_;rintro y z ⟨j,⟨F,o⟩,rfl,rfl⟩;have D:(s.cols.take i).length<=6:=by rw[Mf];omega
  refine ab<|ae<|af (t:=bT (decide (j<(s.cols.take i).length))) Z Z Z (ah (ai Z Z Z Zy) (ar (gA j ((s.cols.take i).length))))<|ag<|ab<|aD Z (fun w=>?_) (fun w=>?_)
  ·obtain⟨d,r⟩:∃d,(s.cols.take i)[j]? =some d:=⟨_,L3 w⟩;refine am<|ab<|aB<|ab<|ae<|af (t:=.ref [sT d.name,iT d.ty,bT d.key]) Z Z Z (aM (Col.tree d) Z bg Z Z Z (aS (f:=Col.tree) r) (eC _) Z)<|aa 3 Z<|ag<|ab<|ae<|aa 4 Z<|af (t:=bT (d.name.toList==c.name.toList)) Z Z Z (ai Z Z Z Zy)<|ag<|aF Z (fun p=>?_) (fun p=>?_)
   ·refine ab<|aj 1 Z<|aw<|⟨.inr Z,_,.cons Z .nil,ar (by unfold fv;rw[<-g,show(s.cols.take i).any (fun d=>d.name.toList==c.name.toList)=true from OF.2 ⟨d,L7 r,p⟩];simp),Z⟩
   refine am<|ae<|af (t:=nI (j+1)) Z Z Z (ah (ai Z Z Z Zy) (bi (by omega)))<|aa 1 Z<|ag<|⟨_,_,?_,⟨j+1,?_,Z,Z⟩,.rf⟩
   ·omega
   refine⟨by omega,fun k u h=>?_⟩;rcases MA k j with B|B
   ·exact o k u B
   obtain rfl:k=j:=by omega
   obtain⟨_,e⟩:=L6.1 r;rw[e];exact p
  refine aT<|ae<|af (t:=nI (i+1)) Z Z Z (ah (ai Z Z Z Zy) (bi (by omega)))<|aa 1 Z<|ag<|⟨_,_,?_,⟨i+1,?_,Z,Z⟩,.rf⟩
  ·omega
  refine⟨by omega,?_⟩;rw[<-g,show nZ s.cert c=false from q,N1.2 fun x C=>?_]
  ·simp
  obtain⟨k,u,rfl⟩:=Nc C;exact by simpa using o k u (by omega)
 refine aT<|ab<|aj 1 Z<|aw<|⟨.inr Z,_,.cons Z .nil,ar (by unfold fv;rw[show m8 s=false from m,<-g,Md (by omega)];rfl),Z⟩
theorem yd(ng:Bool)(N D:Nat):dH (!ng) N D= -dH ng N D:=by
 unfold dH;rw[Rat.neg_mkRat];cases ng<;>simp
theorem Ir(p q:Rat)(a:Fit 262144 p)(b:Fit 262144 q):Ct 132 [dt p,jX (!decide (q.num<0)) q.num.natAbs q.den] (dt (p-q)):=by
 have:=FH (decide (p.num<0)) (!decide (q.num<0)) p.num.natAbs p.den q.num.natAbs q.den a.num a.den b.num b.den;rw[yd,ei,ei,<-Rat.sub_eq_add_neg]at this;exact this
def cE(q:Rat):Int:=q.num.sign
theorem Dz(q:Rat):qj (decide (q.num<0)) q.num.natAbs q.den=cE q:=by
 unfold qj cE;have:=q.den_nz;rcases Pi q.num 0 with h|h|h
 ·rw[if_neg (by omega),if_neg this,decide_eq_true h,NN h];rfl
 ·rw[h];rfl
 rw[if_neg (by omega),if_neg this,decide_eq_false (by omega),N0 h];rfl
theorem k7(q:Rat)(h:Fit 262144 q):Ct 66 [dt q] (iT (cE q)):=by
 have:=wJ (decide (q.num<0)) q.num.natAbs q.den h.num h.den;rw[Dz]at this;exact this
theorem sH(q:Rat)(h:Fit 262144 q):Ct 107 [dt q] (dt q):=by
 have:=rE (decide (q.num<0)) q.num.natAbs q.den h.num h.den;rw[ei]at this;exact this
theorem rF:Fit 262144 1:=⟨by decide,by decide⟩
theorem k8(q:Rat):cE q<0↔q<0:=by
 unfold cE;rw[Int.sign_neg_iff,<-Rat.not_le,<-Rat.num_nonneg];omega
theorem qk(q:Rat):cE q=0↔q=0:=by
 unfold cE;rw[PQ,Rat.num_eq_zero]
def ik(cert:Bool)(q:Rat):Bool:= !((decide (cE q<0)||decide (cE (1-q)<0))||(cert&&(cE (1-q) !=0)))&&decide (cM q.den<=65536)
theorem pd:Jr Tryz.prog 65 2=some 2:=by kernel_rfl
theorem uG:Tryz.prog.underlying 2=some (.int .i64):=by kernel_rfl
theorem lL:Tryz.prog.underlying 89=some (.int .u64):=by kernel_rfl
theorem Is(p q:Rat)(a:Fit 262144 p)(b:Fit 262144 q):Ct 130 [dt p,dt q] (dt (p-q)):=by
 refine Ct.of (n:=9) Tryz.func130 Z Z Z Z Z fun w0 G0=>?_
 refine ab<|aj 3 Z<|ab<|dI (ops:=[_,_,_,_]) (fu:=5) (bs':=[(65,(bf p)),(65,(bf q)),(65,[bT (decide ((p-q).num<0)),aH ((p-q).num.natAbs),aH ((p-q).den)])]) [some 5,some 6,some 7,some 8] [.agg (bf p),.agg (bf q),.agg [bT (!decide (q.num<0)),aH q.num.natAbs,aH q.den],.agg [bT (decide ((p-q).num<0)),aH ((p-q).num.natAbs),aH ((p-q).den)]] (by kernel_rfl) Z Z Z Z Z (by kernel_rfl) (by kernel_rfl) Z Z Z Z Z Z Z Z eg Z Z Z ?_ ?_
 ·refine Chain.op Z (aP Z Z Z aI Z Z)<|Chain.op Z (aP Z Z Z aI Z Z)<|Chain.op Z (ak Z (JZ _ _ _) Z Z)<|Chain.op Z (ak Z (Ir p q a b) Z Z)<|Chain.nil
 refine aw<|⟨.inr Z,_,.cons ⟨_,_,_,_,Z,Z,.inl ⟨_,aI,Z,Z⟩⟩ .nil,Z,Z⟩
theorem sI(q:Rat)(a:Fit 262144 q):Ct 67 [dt q] (dt (1-q)):=by
 refine Ct.of (n:=6) Tryz.func67 Z Z Z Z Z fun w0 G0=>?_
 refine ab<|aj 2 Z<|ab<|dI (ops:=[_,_,_]) (fu:=4) (bs':=[(65,(bf q)),(65,[bT (decide ((1-q).num<0)),aH ((1-q).num.natAbs),aH ((1-q).den)])]) [some 3,some 4,some 5] [.agg [bT (decide ((1:Rat).num<0)),aH ((1:Rat).num.natAbs),aH ((1:Rat).den)],.agg (bf q),.agg [bT (decide ((1-q).num<0)),aH ((1-q).num.natAbs),aH ((1-q).den)]] (by kernel_rfl) Z Z Z Z Z (by kernel_rfl) (by kernel_rfl) Z Z Z Z Z Z Z Z eg Z Z Z ?_ ?_
 ·refine Chain.op Z (ak Z JY Z Z)<|Chain.op Z (aP Z Z Z aI Z Z)<|Chain.op Z (ak Z (Is 1 q rF a) Z Z)<|Chain.nil
 refine aw<|⟨.inr Z,_,.cons ⟨_,_,_,_,Z,Z,.inl ⟨_,aI,Z,Z⟩⟩ .nil,Z,Z⟩
theorem pe(n:Int)(b: -9223372036854775808<=n)(c:n<=9223372036854775807):Ct 146 [iT n] (aH n.natAbs):=by
 refine Ct.of (n:=14) Tryz.func146 Z Z Z Z Z fun w0 G0=>?_
 refine ab<|ae<|af (t:=.sl []) Z Z Z (cz (.inr Z) dk)<|ag<|ab<|ab<|ae<|aa 1 Z<|af (t:=bT (decide (n<0))) Z Z Z (ai Z Z Z Zy)<|ag<|aD Z (fun a=>?_) (fun a=>?_)
 ·refine ab<|ae<|aa 1 Z<|af (t:=iT (n+1)) Z Z Z (ah (ai Z Z Z Zy) (d8 (by rw[Np];omega)))<|af (t:=iT (-(n+1))) Z Z Z (ah (dm Z Z Zy) (d8 (by rw[Np];omega)))<|af (t:=.sc (.int .u64 (-(n+1)))) Z Z Z (ah (g9 Z uG lL Z) (d8 (by rw[IntKind.wrap_u64];omega)))<|af (t:=.sc (.int .u64 ((n.natAbs:Nat):Int))) Z Z Z (ah (ai Z Z Z Zy) (d8 (by rw[IntKind.wrap_u64];omega)))<|af Z Z Z (ak Z (ij n.natAbs (by omega)) Z Z)<|aa 1 Z<|ag<|aw<|⟨.inr Z,_,.cons Z .nil,Z,Z⟩
 refine am<|ab<|ae<|aa 1 Z<|af (t:=.sc (.int .u64 ((n.natAbs:Nat):Int))) Z Z Z (ah (g9 Z uG lL Z) (d8 (by rw[IntKind.wrap_u64];omega)))<|af Z Z Z (ak Z (ij n.natAbs (by omega)) Z Z)<|aa 1 Z<|ag<|aw<|⟨.inr Z,_,.cons Z .nil,Z,Z⟩
theorem wK(s:Sch)(q:Rat)(e:Fit 262144 q)(d:Fit 262144 (1-q)):Ct 122 [s.tree,dt q] (bT (ik s.cert q)):=by
 refine Ct.of (n:=30) Tryz.func122 Z Z Z Z Z fun w0 G0=>?_
 refine ab<|aj 3 Z<|ab<|ae<|aa 1 Z<|af Z Z Z (ak Z (sI q e) Z Z)<|aa 2 Z<|ag<|ab<|ab<|ae<|aa 1 Z<|af Z Z Z (ak Z (k7 q e) Z Z)<|af (t:=bT (decide ((cE q)<0))) Z Z Z (ai Z Z Z Zy)<|aa 1 Z<|aq (t:=.agg [bT (decide ((1-q).num<0)),aH ((1-q).num.natAbs),aH ((1-q).den)]) Z Z Z Z (fun a=>aP Z Z Z aI Z Z)<|aq (t:=iT (cE (1-q))) Z Z Z Z (fun a=>ak Z (k7 (1-q) d) (eR (if_pos a) Z) Z)<|aq (t:=bT (decide ((cE (1-q))<0))) Z Z Z Z (fun a=>ai Z (if_pos a) Z (fun _=>rfl))<|af (t:=bT ((decide ((cE q)<0))||(decide ((cE (1-q))<0)))) Z Z Z (aK Z Z (fun b=>(ar (by rw[b];rfl))) (fun b=>(if_pos b).trans (ar (by rw[b];rfl))))<|aa 1 Z<|aq (t:=.box 0 1) Z Z Z Z (fun a=>av Z Z gp Z)<|aq (t:=bT s.cert) Z Z Z Z (fun a=>aA Z (if_pos a) Z fh Z)<|aq (t:=bT s.cert) Z Z Z Z (fun a=>au Z (if_pos a))<|bY (t:=.agg [bT (decide ((1-q).num<0)),aH ((1-q).num.natAbs),aH ((1-q).den)]) Z Z Z Z (fun a=>aP Z Z Z aI Z Z)<|bY (t:=iT (cE (1-q))) Z Z Z Z (fun a=>ak Z (k7 (1-q) d) (eR (if_pos a) Z) Z)<|bY (t:=bT ((cE (1-q)) !=0)) Z Z Z Z (fun a=>ai Z (if_pos a) Z (fun _=>rfl))<|aq (t:=bT (s.cert&&((cE (1-q)) !=0))) Z Z Z Z (fun a=>aK Z (if_pos a) (fun b=>(if_pos ⟨a,b⟩).trans (ar (by rw[b];rfl))) (fun b=>(ar (by rw[b];rfl))))<|af (t:=bT (((decide ((cE q)<0))||(decide ((cE (1-q))<0)))||(s.cert&&((cE (1-q)) !=0)))) Z Z Z (aK Z Z (fun b=>(ar (by rw[b];rfl))) (fun b=>(if_pos b).trans (ar (by rw[b];rfl))))<|ag<|aF Z (fun c=>?_) (fun c=>?_)
 ·refine ab<|aj 1 Z<|aw<|⟨.inr Z,_,.cons Z .nil,ar (by unfold ik;rw[c];rfl),Z⟩
 refine am<|ab<|ae<|aa 1 Z<|af Z Z Z (ak Z (sH q e) Z Z)<|af (t:=aH q.den) Z Z Z (BI Z Z pd Z)<|af Z Z Z (ak Z (k5 q.den e.den) Z Z)<|af (t:=bT (decide (cM q.den<=65536))) Z Z Z (ah (ai Z Z Z Zy) (ar (Ez (cM q.den) 65536)))<|aa 1 Z<|ag<|aw<|⟨.inr Z,_,.cons Z .nil,ar (by unfold ik;rw[c];rfl),Z⟩
end Go.Proofs.YtfoejfohbkmmeaaGreatDoor
