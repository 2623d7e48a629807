import Derived.Test.YtfoejfohbkmmeaaGreatDoorK16
import Derived.Laws.BitsLemmas
set_option maxRecDepth 100000
set_option maxHeartbeats 4000000
set_option linter.defProp false
open Go.Proofs.Tryz
namespace Go.Proofs.YtfoejfohbkmmeaaGreatDoor
open Go.RowKit
open Lib renaming hid→J
def Wa(n:Int)(w:World):
  Calls prog 38 #[.int .i64 n] w λe w'=>e=.returned (.agg #[.int .i64 1,.int .i64 n,.string ⟨#[]⟩])/\Below w.heap.size w w':=by
 go_enter func38,ntmps38
 go_wp2
 exact bodyPost_ret (v:=.agg #[.int .i64 1,.int .i64 n,.string ⟨#[]⟩]) (by simp[results,results38,go_sem]) Z ⟨Z,(Below.refl _ _).alloc (Q3 _) _⟩
def nf(s:ByteArray)(w:World):
  Calls prog 37 #[.string s] w λe w'=>e=.returned (.agg #[.int .i64 2,.int .i64 0,.string s])/\Below w.heap.size w w':=by
 go_enter func37,ntmps37
 go_wp2
 exact bodyPost_ret (v:=.agg #[.int .i64 2,.int .i64 0,.string s]) (by simp[results,results37,go_sem]) Z ⟨Z,(Below.refl _ _).alloc (Q3 _) _⟩
def Ae(n:Int)(s:ByteArray)(w:World):
  Calls prog 98 #[.agg #[.int .i64 1,.int .i64 n,.string s]] w λe w'=>e=.returned (.bool (bY 1 n s))/\Below w.heap.size w w':=by
 go_enter func98,ntmps98
 go_wp2
 go_ret
 exact⟨by simp[bY,Lib.toList_data],(Below.refl _ _).alloc (Q3 _) _⟩
def ve(t n:Int)(s:ByteArray)(w:World)(a:t≠1)(b:t≠2):
  Calls prog 98 #[.agg #[.int .i64 t,.int .i64 n,.string s]] w λe w'=>e=.returned (.bool (bY t n s))/\Below w.heap.size w w':=by
 have c:=J (show bY t n s=false by simp[bY,a,b]);have d:(t==1)=false:=by simpa using a
 have f:(t==2)=false:=by simpa using b
 clear a b
 go_enter func98,ntmps98
 go_wp2
 go_ret
 exact⟨by rw[c.out];rfl,(Below.refl _ _).alloc (Q3 _) _⟩
def Af(n:Int)(s:ByteArray)(w:World)(q:s.size<=9223372036854775807):
  Calls prog 98 #[.agg #[.int .i64 2,.int .i64 n,.string s]] w λe w'=>e=.returned (.bool (bY 2 n s))/\Below w.heap.size w w':=by
 have d:=J (show bY 2 n s=(decide (n=0)&&decide (s.size<=64)&&s.data.toList.all qE) by simp[bY])
 go_enter func98,ntmps98
 go_wp2
 go_loop [3] (λi=>∃k:Nat,k<=s.size/\(s.data.toList.take k).all qE=true/\i=.int .i64 k) (λi=>s.size-(intOf i).toNat)
 case atStart=>exact⟨0,Rg _,F,Z⟩
 case round=>
  obtain⟨k,p,b,rfl⟩:=hrel;have j:=J b;clear b;by_cases h:k<s.size
  ·have g:=J (pF s k h);by_cases l:32<=s[k].toNat
   ·by_cases m:s[k].toNat<=126
    ·have a:=J (show qE s[k]=true by simp[qE,l,m])
     go_wp2
     go_round
     case rel=>exact⟨k+1,O,by rw[g.out,j.out,a.out];rfl,by go_num⟩
     case measure=>simp[intOf];omega
    have a:=J (show s.data.toList.all qE=false from lz (k+1) (by rw[g.out];simp[qE,m]))
    go_wp2
    go_ret
    exact⟨by rw[d.out,a.out,UL];rfl,(Below.refl _ _).alloc (Q3 _) _⟩
   have a:=J (show s.data.toList.all qE=false from lz (k+1) (by rw[g.out];simp[qE,l]))
   go_wp2
   go_ret
   exact⟨by rw[d.out,a.out,UL];rfl,(Below.refl _ _).alloc (Q3 _) _⟩
  have a:=J (show s.data.toList.all qE=true by have:=j.out;rwa[Rf (by simp;omega)]at this);by_cases f:n=0
  ·subst f;have c:=J (show decide ((s.size:Int)<=64)=bY 2 0 s by rw[d.out,a.out];simp;omega)
   go_wp2
   go_ret
   exact⟨by rw[<-c.out];rfl,(Below.refl _ _).alloc (Q3 _) _⟩
  have c:=J (show bY 2 n s=false by rw[d.out,a.out];simp[f]);have o:(n==0)=false:=by simpa using f
  clear f
  go_wp2
  go_ret
  exact⟨by rw[c.out];rfl,(Below.refl _ _).alloc (Q3 _) _⟩
def qP(t n:Int)(s:ByteArray)(w:World)(c:s.size<=9223372036854775807):
  Calls prog 98 #[.agg #[.int .i64 t,.int .i64 n,.string s]] w λe w'=>e=.returned (.bool (bY t n s))/\Below w.heap.size w w':=by
 by_cases a:t=1
 ·subst a;exact Ae n s w
 by_cases b:t=2
 ·subst b;exact Af n s w c
 exact ve t n s w a b
def BC:∀a b:List UInt8,Op.bytesLess a b=decide (Lib.compareBytes a b<0)
 |[],[]=>by simp[Op.bytesLess,Lib.compareBytes]
 |[],_::_=>by simp[Op.bytesLess,Lib.compareBytes]
 |_::_,[]=>by simp[Op.bytesLess,Lib.compareBytes]
 |x::a,y::b=>by
  have f:=BC a b;simp only[Op.bytesLess,Lib.compareBytes,Ue];by_cases c:x.toNat<y.toNat
  ·simp[c]
  by_cases d:y.toNat<x.toNat
  ·have:¬x=y:=λe=>by subst e;omega
   simp[c,d,this]
  have:x=y:=Ta.1 O;simp[this,f]
def MG{a b:ByteArray}{o:Int}(h:Lib.compareBytes a.data.toList b.data.toList=o):Op.bytesLess a.toList b.toList=decide (o<0):=by
 rw[Lib.toList_data,Lib.toList_data,BC,h]
def MH{a b:ByteArray}{o:Int}(h:Lib.compareBytes a.data.toList b.data.toList=o):(a.toList==b.toList)=decide (o=0):=by
 rw[Lib.toList_data,Lib.toList_data,TE];simp only[beq_iff_eq,decide_eq_true_eq];rw[<-jZ,h]
def vf(c d:Int)(a:ByteArray)(g nb:Int)(b:ByteArray)(w:World):
  Calls prog 161 #[.agg #[.int .i64 c,.int .i64 d,.string a],.agg #[.int .i64 g,.int .i64 nb,.string b]] w λe w'=>e=.returned (.int .i64 (jB c d a g nb b))/\Below w.heap.size w w':=by
 rcases ew c g with⟨e,h⟩|⟨e,h⟩|⟨e,h⟩
 ·have f:=J (show jB c d a g nb b= -1 by rw[jB,e,gG I]);have m:(c==g)=false:=by simp;omega
  have n:(c !=g)=true:=by simp;omega
  clear e
  go_enter func161,ntmps161
  go_wp2
  go_ret
  exact⟨by rw[f.out];rfl,((Below.refl _ _).alloc (Q3 _) _).alloc F _⟩
 ·subst h;rcases ew d nb with⟨i,h⟩|⟨i,h⟩|⟨i,h⟩
  ·have f:=J (show jB c d a c nb b= -1 by rw[jB,e,i,fR I]);have m:(d==nb)=false:=by simp;omega
   have n:(d !=nb)=true:=by simp;omega
   clear e i
   go_enter func161,ntmps161
   go_wp2
   go_ret
   exact⟨by rw[f.out];rfl,((Below.refl _ _).alloc (Q3 _) _).alloc F _⟩
  ·subst h;obtain⟨o,l⟩:∃o,Lib.compareBytes a.data.toList b.data.toList=o:=⟨_,Z⟩;have f:=J (show jB c d a c d b=o by rw[jB,e,i,mi,l]);have p:=iJ a.data.toList b.data.toList;rw[l]at p;have j:=MG l;have k:=MH l;clear e i l;rcases p with rfl|rfl|rfl
   ·replace j:Op.bytesLess a.toList b.toList=true:=j.trans I;replace k:(a.toList==b.toList)=false:=k.trans I
    go_enter func161,ntmps161
    go_wp2
    go_ret
    exact⟨by rw[f.out];rfl,((Below.refl _ _).alloc (Q3 _) _).alloc F _⟩
   ·replace j:Op.bytesLess a.toList b.toList=false:=j.trans I;replace k:(a.toList==b.toList)=true:=k.trans I
    go_enter func161,ntmps161
    go_wp2
    go_ret
    exact⟨by rw[f.out];rfl,((Below.refl _ _).alloc (Q3 _) _).alloc F _⟩
   replace j:Op.bytesLess a.toList b.toList=false:=j.trans I;replace k:(a.toList==b.toList)=false:=k.trans I
   go_enter func161,ntmps161
   go_wp2
   go_ret
   exact⟨by rw[f.out];rfl,((Below.refl _ _).alloc (Q3 _) _).alloc F _⟩
  have f:=J (show jB c d a c nb b=1 by rw[jB,e,i,fR I]);have m:(d==nb)=false:=by simp;omega
  have n:(d !=nb)=true:=by simp;omega
  clear e i
  go_enter func161,ntmps161
  go_wp2
  go_ret
  exact⟨by rw[f.out];rfl,((Below.refl _ _).alloc (Q3 _) _).alloc F _⟩
 have f:=J (show jB c d a g nb b=1 by rw[jB,e,gG I]);have m:(c==g)=false:=by simp;omega
 have n:(c !=g)=true:=by simp;omega
 clear e
 go_enter func161,ntmps161
 go_wp2
 go_ret
 exact⟨by rw[f.out];rfl,((Below.refl _ _).alloc (Q3 _) _).alloc F _⟩
def xB(A B:Option Addr)(c d:Nat)(l m:List V)(w:World)(h:At w w.heap.size A (ep l))(M:At w w.heap.size B (ep m))(hl:l.length<=65536)(_hm:m.length<=65536):
  Calls prog 93 #[.slice A l.length c,.slice B m.length d] w λe w'=>e=.returned (.int .i64 (bw l m))/\Below w.heap.size w w':=by
 have P:=J h;have Q:=J M;clear h M
 go_enter func93,ntmps93
 go_wp2
 go_loopw [5] (λi wr=>∃k:Nat,k<=l.length/\k<=m.length/\i=.int .i64 k/\bw l m=bw (l.drop k) (m.drop k)/\Below w.heap.size w wr) (λi _=>l.length-(intOf i).toNat)
 case atStart=>exact⟨0,Rg _,Rg _,Z,Z,Below.refl _ _⟩
 case round=>
  obtain⟨k,hk,Y,rfl,u,g⟩:=hrel;have r:=J u;have a:=J g;have y:=J (P.out.below g);have z:=J (Q.out.below g);have v:=a.out.size;clear u g;by_cases q:k<l.length
  ·by_cases j:k<m.length
   ·obtain⟨b1,o1,rfl,R,F,G,H⟩:=y.out.val q;obtain⟨b2,o2,rfl,S,I,K,L⟩:=z.out.val j;have f:=J (xZ l m k q j);obtain⟨x,C⟩:∃x,iA l[k] m[k]=x:=⟨_,Z⟩;have f:Hid (bw (l.drop k) (m.drop k)=if x=0 then bw (l.drop (k+1)) (m.drop (k+1))else x):=by rw[<-C];exact f
    have E:Hid (∀W:World,Calls prog 161 #[.agg #[.int .i64 l[k].t,.int .i64 l[k].n,.string l[k].s],.agg #[.int .i64 m[k].t,.int .i64 m[k].n,.string m[k].s]] W λe w'=>e=.returned (.int .i64 x)/\Below W.heap.size W w'):=λW=>by
     have:=vf l[k].t l[k].n l[k].s m[k].t m[k].n m[k].s W;rwa[show jB l[k].t l[k].n l[k].s m[k].t m[k].n m[k].s=x from C]at this
    clear C;have T:(0:Int)<=(k:Int):=O
    have X:(k:Int)<(l.length:Int):=O
    have N:(k:Int)<(m.length:Int):=O
    by_cases o:x=0
    ·subst o
     go_wp2
     refine wp_region_still_tail 8 U U ?_;simp only[S7,Ud,S8,Su];change wpStill _ _ wr.drew _ _ _;iterate 8 still_step
     refine wpStill_nil ?_;clear F G H I K L
     go_wp2_with fail
     refine(E.out _).mono ?_;rintro e D ⟨rfl,b⟩;have p:=J (show Below w.heap.size w D from a.out.drew.trans (b.mono (by simpa using v)));clear b
     go_wp2
     go_roundw
     case rel=>exact⟨k+1,O,O,by go_num,by rw[r.out,f.out];simp,p.out⟩
     case measure=>simp[intOf];omega
    have a0:(x !=0)=true:=by simpa using o
    have a1:(x==0)=false:=by simpa using o
    go_wp2
    refine wp_region_still_tail 8 U U ?_;simp only[S7,Ud,S8,Su];change wpStill _ _ wr.drew _ _ _;iterate 8 still_step
    refine wpStill_nil ?_;clear F G H I K L
    go_wp2_with fail
    refine(E.out _).mono ?_;rintro e D ⟨rfl,b⟩;have p:=J (show Below w.heap.size w D from a.out.drew.trans (b.mono (by simpa using v)));clear b
    go_wp2
    go_ret
    exact⟨by rw[r.out,f.out,if_neg o];rfl,p.out⟩
   have f:=J (show bw (l.drop k) (m.drop k)=1 by
    rw[Re q,Rc (l:=m) O];rfl)
   go_wp2
   go_ret
   exact⟨by rw[r.out,f.out];rfl,a.out⟩
  by_cases j:k<m.length
  ·have f:=J (show bw (l.drop k) (m.drop k)= -1 by
    rw[Re j,Rc (l:=l) O];rfl)
   go_wp2
   go_ret
   exact⟨by rw[r.out,f.out];rfl,a.out⟩
  have f:=J (show bw (l.drop k) (m.drop k)=0 by
   rw[Rc (l:=l) O,Rc (l:=m) O];rfl)
  go_wp2
  go_ret
  exact⟨by rw[r.out,f.out];rfl,a.out⟩
def fS(d:Nat):Tree:=.sc (.int .u32 (d:Nat))
def fz(l:List Nat):Sized 1 (l.map fS):=Sized.map _ l λ_=>rfl
def yc{m n:Nat}(h:m=n):aY n=aY m:=by rw[h]
def nh{p q:Rat}(h:p=q):dw p=dw q:=by rw[h]
def vg(n:Nat)(b:(aD n).length<=1073741823):Ct 172 [aY n] (aY n):=fy ⟨_,func172,Z,Z⟩ (λ_ _ _ a h=>fe a h) λG w vs _ _ c=>by
 obtain⟨u,rfl,h⟩:=eC c;exact FE (ek h) b
def MI(M N:Nat)(d:(aD M).length<=1048576)(e:(aD N).length<=1048576):Ct 196 [aY M,aY N] (aY (M+N)):=fy ⟨_,func196,Z,Z⟩ (λ_ _ _ c h=>fe c h) λG w vs _ _ f=>by
 obtain⟨u,x,rfl,a,b⟩:=dE f;exact QF (ek a) (ek b) d e
def J2(M N:Nat)(d:(aD M).length<=1048576)(e:(aD N).length<=1048576):Ct 209 [aY M,aY N] (aY (Nat.gcd M N)):=fy ⟨_,func209,Z,Z⟩ (λ_ _ _ c h=>fe c h) λG w vs _ _ f=>by
 obtain⟨u,x,rfl,a,b⟩:=dE f;exact PG (ek a) (ek b) d e
def FQ(M N:Nat)(f:(aD M).length<=1048576)(g:(aD N).length<=1048576)(d:0<N):Ct 210 [aY M,aY N] (.tup [aY (M/N),aY (M%N),bT true]):=fy (K:=QZ M N) ⟨_,func210,Z,Z⟩ (λ_ _ _ c ⟨_,_,e,a,b⟩=>by
  subst e;exact .tup [_,_,.bool true] _ ((fe c a).cons ((fe c b).cons (.sc _ .nil))) .nil) λG w vs _ _ h=>by
 obtain⟨u,x,rfl,a,b⟩:=dE h;exact FM (ek a) (ek b) f g d
def FR(M N:Nat)(f:(aD M).length<=1048576)(g:(aD N).length<=1048576):Ct 197 [aY M,aY N] (.tup [aY (M-N),bT (decide (N<=M))]):=fy (K:=PD M N) ⟨_,func197,Z,Z⟩ (λ_ _ _ e h=>by
  rcases RE M N with b|a
  ·rw[show M-N=0 by omega,decide_eq_false O,h.2 b];exact .tup [_,.bool false] _ (.sl0 _ _ (λ_=>rfl) I (.sc _ .nil)) .nil
  obtain⟨v,rfl,j⟩:=h.1 a;rw[decide_eq_true a];exact .tup [v,.bool true] _ ((fe e j).cons (.sc _ .nil)) .nil) λG w vs _ _ i=>by
 obtain⟨u,x,rfl,c,d⟩:=dE i;exact QG (ek c) (ek d) f g
def J3(n:Nat):(decide ((aD n).length=1)&&decide ((aD n).getD 0 0=1))=decide (n=1):=by
 by_cases h:n=1
 ·subst h;rfl
 rw[decide_eq_false h,SZ];by_cases a:(aD n).length=1
 ·right;refine decide_eq_false λe=>h ?_
  obtain⟨_,_,b⟩:=Bs (n:=n) a;rw[b]at e;exact e
 left;exact decide_eq_false a
def OD{ng:Bool}{N D:Nat}(h:(decide (cR N=0)||decide (cR D=0))=true):0=eK ng N D:=by
 rw[Sm,decide_eq_true_eq,decide_eq_true_eq,kS,kS]at h;rcases h with rfl|rfl
 ·exact(kP _ _).symm
 exact(kQ _ _).symm
def sD(ng:Bool)(N D:Nat):Int:=if N=0 then 0 else if D=0 then 0 else if ng then-1 else 1
def OE{ng:Bool}{N D:Nat}(h:(decide (cR N=0)||decide (cR D=0))=true):0=sD ng N D:=by
 rw[Sm,decide_eq_true_eq,decide_eq_true_eq,kS,kS]at h;unfold sD;rcases h with rfl|rfl
 ·rfl
 rw[if_pos Z,ite_self]
def Ag{ng:Bool}{N D:Nat}(e:N≠0)(d:D≠0):(Tree.agg [bT ng,aY (N/Nat.gcd N D),aY (D/Nat.gcd N D)])=dw (eK ng N D):=by
 obtain⟨a,b,c⟩:=oW ng (RR e) (RR d);unfold dw iC;rw[a,b,c]
def J4{ng:Bool}{N D:Nat}(b:N≠0)(a:D≠0)(h:Nat.gcd N D=1):(Tree.agg [bT ng,aY N,aY D])=dw (eK ng N D):=by
 have:=Ag (ng:=ng) b a;rwa[h,TV,TV]at this
def D4(ng:Bool){N D X E:Nat}(b:0<D)(c:0<E)(h:X*D=N*E):eK ng N D=eK ng X E:=by
 unfold eK;rw[Rat.mkRat_eq_iff O O];have a:(N:Int)*(E:Int)=(X:Int)*(D:Int):=by rw[<-Um,<-Um,h]
 cases ng
 ·simpa using a
 simp only[if_true,VK,a]
def kV(a b:Int){d:Nat}(c:0<d):mkRat a d+mkRat b d=mkRat (a+b) d:=by
 rw[Rat.mkRat_add_mkRat _ _ O O,<-Int.add_mul,Rat.mkRat_mul_right O]
def qQ(ng:Bool)(X Y:Nat){d:Nat}(a:0<d):eK ng X d+eK ng Y d=eK ng (X+Y) d:=by
 unfold eK;rw[kV _ _ a];congr 1;cases ng<;>simp<;>omega
def vh{ng a:Bool}(h:ng≠a){X Y d:Nat}(b:0<d)(c:Y<=X):eK ng X d+eK a Y d=eK ng (X-Y) d:=by
 unfold eK;rw[kV _ _ b];congr 1;cases ng<;>cases a<;>simp at h⊢<;>omega
def vk{ng a:Bool}(h:ng≠a){X Y d:Nat}(b:0<d)(c:X<Y):eK ng X d+eK a Y d=eK a (Y-X) d:=by
 unfold eK;rw[kV _ _ b];congr 1;cases ng<;>cases a<;>simp at h⊢<;>omega
def Ah(a b:Nat):(aD (a*b)).length<=(aD a).length+(aD b).length:=by
 have c:=cC (aD a) (ck a);have d:=cC (aD b) (ck b);rw[aW]at c d;refine bq ?_;rw[SF];exact U5 c d
def MJ(a b L:Nat)(e:(aD a).length<=L)(f:(aD b).length<=L):(aD (a+b)).length<=L+1:=by
 have c:=cC (aD a) (ck a);have d:=cC (aD b) (ck b);rw[aW]at c d;refine bq ?_;have g:(4294967296:Nat)^(aD a).length<=4294967296^L:=Rx I e;have h:(4294967296:Nat)^(aD b).length<=4294967296^L:=Rx I f;rw[RA];omega
def MK(a b:Nat):(fE (a:Int) (b:Int) !=0)=decide (a≠b):=by
 unfold fE;rw[TE,bne_iff_ne,decide_eq_true_iff];split
 ·constructor
  ·intro _ e;omega
  intro _ e;cases e
 split
 ·constructor
  ·intro _ e;omega
  intro _ e;cases e
 constructor
 ·intro h;exact absurd Z h
 intro h;omega
def J5{ng:Bool}{N D:Nat}(h:sD ng N D≠0):N≠0/\D≠0:=by
 unfold sD at h;constructor<;>intro e<;>subst e<;>simp at h
def NQ{ng:Bool}{N D:Nat}(h:sD ng N D=0):eK ng N D=0:=by
 unfold sD at h;by_cases a:N=0
 ·subst a;exact kP _ _
 by_cases b:D=0
 ·subst b;exact kQ _ _
 rw[if_neg a,if_neg b]at h;cases ng<;>simp at h
def D5(ng c:Bool){N D M E:Nat}(a:D≠0)(d:E≠0)(j:(aD N).length<=262144)(f:(aD D).length<=262144)(i:(aD M).length<=262144)(g:(aD E).length<=262144):∃X Y Z,(D=E->X=N/\Y=M/\Z=D)/\(D≠E->X=N*E/\Y=M*D/\Z=D*E)/\0<Z/\eK ng N D+eK c M E=eK ng X Z+eK c Y Z/\(aD X).length<=524288/\(aD Y).length<=524288/\(aD Z).length<=524288:=by
 by_cases h:D=E
 ·subst h;exact⟨N,M,D,λ_=>⟨Zz,Zz,Zz⟩,λe=>absurd Zz e,RR a,Zz,O,O,O⟩
 have k:=Ah N E;have l:=Ah M D;have m:=Ah D E;have b:0<D*E:=TJ (RR a) (RR d);exact⟨N*E,M*D,D*E,λe=>absurd e h,λ_=>⟨Zz,Zz,Zz⟩,b,by rw[D4 ng (RR a) b (show N*E*D=N*(D*E) by rw[Ry,Rk E]),D4 c (RR d) b (show M*D*E=M*(D*E) by rw[Ry])],O,O,O⟩
def aH:sf prog 65=some 3:=U
def bV:gQ prog 63=some (50,1):=U
def ni:jy prog 65 0=some 0:=U
def cL:jy prog 65 1=some 1:=U
def b8:jy prog 65 2=some 2:=U
def eG:jP prog 4=true:=U
def gY:jP prog 50=true:=U
def bE:jP prog 63=true:=U
def d8:(prog.info? 65).map (·.size)=some 3:=U
def OF:si prog 65=some ([(0,1),(1,1),(2,1)],[.bool false,.slice none 0 0,.slice none 0 0]):=U
def gZ:ij prog 65=some [.bool false,.slice none 0 0,.slice none 0 0]:=U
def qS(n:Nat):Ct 109 [aY n] (bT (decide (n=1))):=by
 have b:decide ((aD n).length=1)=true->(aD n)[0]? =some ((aD n).getD 0 0):=λh=>by
  have:=of_decide_eq_true h;rw[Rr,Q2 O0,RH]
 refine Ct.of (n:=12) func109 Z Z Z Z Z λw0 G0=>?_
 refine X 1 Z<|C<|M 1 Z (aU Z bV Z)<|aI 0 Z Z Zy (B (gL ((aD n).length) 1))<|ax 1 Z<|N Z Z Z Z (λa=>K Z Z)<|N (t:=.ref [.sc (.int .u32 ((((aD n).getD 0 0):Nat):Int))]) Z Z Z Z (λa=>aO (fS ((aD n).getD 0 0)) Z bV (if_pos a) Z Z (bd (f:=fS) (b a)) (fz _) Z)<|N Z Z Z Z (λa=>bi Z (if_pos a) gY Z)<|N Z Z Z Z (λa=>aj (aC Z (if_pos a) Z (λ_=>rfl)) (B (gL (((aD n).getD 0 0)) 1)))<|M 0 Z (cH Z Z Z Z)<|Y 1 Z<|aM ⟨Z,B (J3 n),Z⟩ Z
def ML:Ct 208 [] (dw 0):=by
 refine Ct.of (n:=3) func208 Z Z Z Z Z λw0 G0=>?_
 refine X 1 Z<|C<|M 0 Z (D Z (jg 1 I1) Z Z)<|Y 2 Z<|aM ⟨(co Z Z aH Z),Z,Z⟩ Z
def OG:Ct 131 [] (dw 1):=by
 refine Ct.of (n:=4) func131 Z Z Z Z Z λw0 G0=>?_
 refine X 1 Z<|C<|M 0 Z (D Z (jg 1 I1) Z Z)<|M 0 Z (D Z (jg 1 I1) Z Z)<|Y 2 Z<|aM ⟨(co Z Z aH Z),Z,Z⟩ Z
def nj(ng:Bool)(N D:Nat)(c:(aD N).length<=1048576)(h:(aD D).length<=1048576):Ct 145 [bT ng,aY N,aY D] (dw (eK ng N D)):=by
 refine Ct.of (n:=52) func145 Z Z Z Z Z λw0 G0=>?_
 refine X 1 Z<|H<|C<|M 1 Z (ah Z (pY N c) Z Z)<|aI 0 Z Z Zy (B (gL (cR N) 0))<|ax 1 Z<|ai Z Z Z Z (λg=>K Z Z)<|ai Z Z Z Z (λg=>ah Z (pY D h) (dN (if_pos g) Z) Z)<|ai Z Z Z Z (λg=>aj (aC Z (if_pos g) Z (λ_=>rfl)) (B (gL (cR D) 0)))<|M 0 Z (dD Z Z Z Z)<|E<|aK Z (λa=>?_) (λa=>?_)
 ·refine C<|M 0 Z (ah Z ML Z Z)<|Y 1 Z<|aM ⟨(co Z Z aH Z),nh (OD a),Z⟩ Z
 have b:N≠0:=λe=>by
  subst e;rw[show cR 0=0 from rfl]at a;cases a
 have f:D≠0:=λe=>by
  subst e;rw[show cR 0=0 from rfl,VC]at a;cases a
 refine ar<|C<|M 2 Z (ah Z (J2 N D c h) Z Z)<|Y 1 Z<|H<|C<|M 1 Z (ah Z (qS _) Z Z)<|E<|ay Z (λd=>?_) (λd=>?_)
 ·refine C<|M 2 Z (ah Z (vg N O0) Z Z)<|M 1 Z (ah Z (vg D O0) Z Z)<|Y 2 Z<|aM ⟨(co Z Z aH Z),J4 b f d,Z⟩ Z
 refine ar<|C<|M 2 Z (ah Z (FQ _ _ c (Q7 (bh (U8 D (RR b))) c) (T0 _ (RR b))) Z Z)<|Y 7 Z<|C<|M 2 Z (ah Z (FQ _ _ h (Q7 (bh (U8 D (RR b))) c) (T0 _ (RR b))) Z Z)<|Y 7 Z<|X 5 Z<|aM ⟨(co Z Z aH Z),(Ag b f),Z⟩ Z
def mm(ng:Bool)(N D:Nat)(b:(aD N).length<=262144)(a:(aD D).length<=262144):Ct 145 [bT ng,aY N,aY D] (dw (eK ng N D)):=nj ng N D O O
def ud(ng:Bool)(N D:Nat)(b:(aD N).length<=262144)(a:(aD D).length<=262144):Ct 107 [iC ng N D] (dw (eK ng N D)):=by
 refine Ct.of (n:=10) func107 Z Z Z Z Z λw0 G0=>?_
 refine X 2 Z<|C<|M 6 Z (ah Z (mm ng N D b a) Z Z)<|Y 1 Z<|aM ⟨(co Z Z aH Z),Z,Z⟩ Z
def OH(ng:Bool)(N D:Nat):Ct 195 [iC ng N D] (iC (!ng) N D):=by
 refine Ct.of (n:=11) func195 Z Z Z Z Z λw0 G0=>?_
 refine X 2 Z<|C<|M 2 (t:=bT (!ng)) Z (dm Z Z Zy)<|Y 6 Z<|aM ⟨(co Z Z aH Z),Z,Z⟩ Z
def Ai(ng:Bool)(N D:Nat)(h:(aD N).length<=262144)(g:(aD D).length<=262144):Ct 66 [iC ng N D] (iT (sD ng N D)):=by
 refine Ct.of (n:=15) func66 Z Z Z Z Z λw0 G0=>?_
 refine X 2 Z<|H<|C<|M 2 Z (ah Z (kw N O0) Z Z)<|aI 0 Z Z Zy (B (gL (cR N) 0))<|ax 1 Z<|ai Z Z Z Z (λc=>aq Z Z b8 Z)<|ai Z Z Z Z (λc=>av Z (if_pos c) Z bE Z)<|ai Z Z Z Z (λc=>ah Z (kw D O0) (dN (if_pos c) Z) Z)<|ai Z Z Z Z (λc=>aj (aC Z (if_pos c) Z (λ_=>rfl)) (B (gL (cR D) 0)))<|M 0 Z (dD Z Z Z Z)<|E<|aK Z (λa=>?_) (λa=>?_)
 ·refine X 1 Z<|aM ⟨Z,ej (OE a),Z⟩ Z
 have f:N≠0:=λe=>by
  subst e;rw[show cR 0=0 from rfl]at a;cases a
 have d:D≠0:=λe=>by
  subst e;rw[show cR 0=0 from rfl,VC]at a;cases a
 refine ar<|H<|X 2 Z<|aK Z (λb=>?_) (λb=>?_)
 ·refine X 1 Z<|aM ⟨Z,ej (by unfold sD;rw[if_neg f,if_neg d,b];rfl),Z⟩ Z
 refine ar<|X 1 Z<|aM ⟨Z,ej (by unfold sD;rw[if_neg f,if_neg d,b];rfl),Z⟩ Z
def J6(ng d:Bool)(N D M E:Nat)(p:(aD N).length<=262144)(l:(aD D).length<=262144)(o:(aD M).length<=262144)(m:(aD E).length<=262144):Ct 132 [iC ng N D,iC d M E] (dw (eK ng N D+eK d M E)):=by
 refine Ct.of (n:=84) func132 Zz Zz Zz Zz Zz λw0 G0=>?_
 refine aw 3 Zz<|H<|C<|aa 1 Zz (ah Zz (Ai ng N D p l) Zz Zz)<|aa 0 (t:=bT ((sD ng N D)==0)) Zz (aC Zz Zz Zz Zy)<|af<|aK Zz (λe=>?_) (λe=>?_)
 ·refine C<|aa 1 Zz (ah Zz (ud d M E o m) Zz Zz)<|ag 1 Zz<|aM ⟨(co Zz Zz aH Zz),nh (by rw[NQ (eq_of_beq e),Rat.zero_add]),Zz⟩ Zz
 have r:=J5 (ne_of_beq_false e);refine ar<|H<|C<|aa 1 Zz (ah Zz (Ai d M E o m) Zz Zz)<|aa 0 (t:=bT ((sD d M E)==0)) Zz (aC Zz Zz Zz Zy)<|af<|aK Zz (λf=>?_) (λf=>?_)
 ·refine C<|aa 1 Zz (ah Zz (ud ng N D p l) Zz Zz)<|ag 1 Zz<|aM ⟨(co Zz Zz aH Zz),nh (by rw[NQ (eq_of_beq f),Rat.add_zero]),Zz⟩ Zz
 have s:=J5 (ne_of_beq_false f);obtain⟨X,Y,Z,u,v,h,b,w,x,z⟩:=D5 ng d r.2 s.2 p l o m;refine ar<|H<|cB (fu:=9) _ [.box 0 1,aY N,.box 1 1,aY M,.box 0 2,aY D,aY N,aY M,aY D] U0 Zz Zz U0 Zz ?_ ?_
 ·refine Chain.op Zz (aq Zz Zz cL Zz)<|Chain.op Zz (av Zz Zz Zz bE Zz)<|Chain.op Zz (aq Zz Zz cL Zz)<|Chain.op Zz (av Zz Zz Zz bE Zz)<|Chain.op Zz (aq Zz Zz b8 Zz)<|Chain.op Zz (av Zz Zz Zz bE Zz)<|Chain.op Zz (bN Zz Zz)<|Chain.op Zz (bN Zz Zz)<|Chain.op Zz (bN Zz Zz)<|Chain.nil
 refine H<|oc ⟨84,[(2,.box 0 0),(3,.box 1 0),(4,.box 2 0),(5,aY X),(6,aY Y),(7,aY Z)],[(65,[bT ng,aY N,aY D]),(65,[bT d,aY M,aY E]),(65,ml)],[]⟩ 3 0 ?_ ?_
 ·refine C<|aa 4 Zz (ah Zz (FP D E O0 O0) Zz Zz)<|aI 0 (t:=bT (decide (D≠E))) Zz Zz Zy (B (MK D E))<|af<|ay Zz (λa=>?_) (λa=>?_)
  ·refine H<|cB (fu:=12) _ [.box 0 1,aY N,.box 1 2,aY E,aY (N*E),.box 1 1,aY M,.box 0 2,aY D,aY (M*D),aY (N*E),aY (M*D)] U0 Zz Zz U0 Zz ?_ ?_
   ·refine Chain.op Zz (aq Zz Zz cL Zz)<|Chain.op Zz (av Zz Zz Zz bE Zz)<|Chain.op Zz (aq Zz Zz b8 Zz)<|Chain.op Zz (av Zz Zz Zz bE Zz)<|Chain.op Zz (ah Zz (lF _ _ O0 O0) Zz Zz)<|Chain.op Zz (aq Zz Zz cL Zz)<|Chain.op Zz (av Zz Zz Zz bE Zz)<|Chain.op Zz (aq Zz Zz b8 Zz)<|Chain.op Zz (av Zz Zz Zz bE Zz)<|Chain.op Zz (ah Zz (lF _ _ O0 O0) Zz Zz)<|Chain.op Zz (bN Zz Zz)<|Chain.op Zz (bN Zz Zz)<|Chain.nil
   refine am<|aa 4 Zz (ah Zz (lF _ _ O0 O0) Zz Zz)<|ag 1 Zz ?_;obtain⟨i,j,k⟩:=v a;exact⟨Zz,Zz,Zz,.cons Zz Zz (.cons Zz Zz (.cons Zz Zz (.cons (yc i) Zz (.cons (yc j) Zz (.cons (yc k) Zz .nil))))),Zz⟩
  replace a:=SL.1 a;refine ar ?_;obtain⟨i,j,k⟩:=u a;exact⟨Zz,Zz,Zz,.cons Zz Zz (.cons Zz Zz (.cons Zz Zz (.cons (yc i) Zz (.cons (yc j) Zz (.cons (yc k) Zz .nil))))),Zz⟩
 refine H<|C<|aa 4 (t:=bT (ng==d)) Zz (aC Zz Zz Zz Zy)<|af<|aK Zz (λc=>?_) (λc=>?_)
 ·refine H<|dq (ops:=[_,_,_,_,_,_,_]) (fu:=8) (bs':=[(65,[bT ng,aY N,aY D]),(65,[bT d,aY M,aY E]),(65,(bj (eK ng (X+Y) Z)))]) [some 54,some 55,some 56,some 57,some 58,some 59,some 60] [.box 0 0,bT ng,aY X,aY Y,aY (X+Y),aY Z,.agg (bj (eK ng (X+Y) Z))] U0 Zz Zz Zz Zz Zz U0 U0 Zz Zz Zz Zz Zz Zz Zz Zz d8 Zz Zz Zz ?_ ?_
  ·refine Chain.op Zz (aq Zz Zz ni Zz)<|Chain.op Zz (av Zz Zz Zz eG Zz)<|Chain.op Zz (K Zz Zz)<|Chain.op Zz (K Zz Zz)<|Chain.op Zz (ah Zz (MI _ _ O0 O0) Zz Zz)<|Chain.op Zz (K Zz Zz)<|Chain.op Zz (ah Zz (nj _ _ _ (Q7 (MJ X Y 524288 w x) I1) O0) Zz Zz)<|Chain.nil
  exact aM ⟨(co Zz Zz aH Zz),nh (by rw[b,<-eq_of_beq c,qQ _ _ _ h]),Zz⟩ Zz
 refine ar<|H<|C<|aa 2 Zz (ah Zz (FR _ _ O0 O0) Zz Zz)<|ag 5 Zz<|aw 1 Zz<|ay Zz (λg=>?_) (λg=>?_)
 ·have q:=g;refine C<|aa 4 Zz (ah Zz (nj _ _ _ (Q7 (bh (Ui _ _)) O0) O0) Zz Zz)<|ag 1 Zz<|aM ⟨(co Zz Zz aH Zz),nh (by rw[b,vh (ne_of_beq_false c) h q]),Zz⟩ Zz
 have y:=g;refine ar<|C<|aa 2 Zz (ah Zz (FR _ _ O0 O0) Zz Zz)<|ag 5 Zz<|C<|aa 4 Zz (ah Zz (nj _ _ _ (Q7 (bh (Ui _ _)) O0) O0) Zz Zz)<|ag 1 Zz<|aM ⟨(co Zz Zz aH Zz),nh (by rw[b,vk (ne_of_beq_false c) h O0]),Zz⟩ Zz
def vm(ng:Bool)(N D:Nat):eK (!ng) N D= -eK ng N D:=by
 unfold eK;rw[Rat.neg_mkRat];cases ng<;>simp
def MM(p q:Rat)(a:Fit 262144 p)(b:Fit 262144 q):Ct 132 [dw p,iC (!decide (q.num<0)) q.num.natAbs q.den] (dw (p-q)):=by
 have:=J6 (decide (p.num<0)) (!decide (q.num<0)) p.num.natAbs p.den q.num.natAbs q.den a.num a.den b.num b.den;rw[vm,gB,gB,<-Rat.sub_eq_add_neg]at this;exact this
def dk(q:Rat):Int:=q.num.sign
def G6(q:Rat):sD (decide (q.num<0)) q.num.natAbs q.den=dk q:=by
 unfold sD dk;have:=q.den_nz;rcases Uw q.num 0 with h|h|h
 ·rw[if_neg O,if_neg this,decide_eq_true h,SP h];rfl
 ·rw[h];rfl
 rw[if_neg O,if_neg this,decide_eq_false O,S6 h];rfl
def mn(q:Rat)(h:Fit 262144 q):Ct 66 [dw q] (iT (dk q)):=by
 have:=Ai (decide (q.num<0)) q.num.natAbs q.den h.num h.den;rw[G6]at this;exact this
def qT(q:Rat)(h:Fit 262144 q):Ct 107 [dw q] (dw q):=by
 have:=ud (decide (q.num<0)) q.num.natAbs q.den h.num h.den;rw[gB]at this;exact this
def oZ:Fit 262144 1:=⟨I,I⟩
def kW(q:Rat):dk q<0↔q<0:=by
 unfold dk;rw[Int.sign_neg_iff,<-Rat.not_le,<-Rat.num_nonneg];omega
def yd(q:Rat):dk q=0↔q=0:=by
 unfold dk;rw[UY,Rat.num_eq_zero]
def iw(cert:Bool)(q:Rat):Bool:= !((decide (dk q<0)||decide (dk (1-q)<0))||(cert&&(dk (1-q) !=0)))&&decide (cR q.den<=65536)
def qU:Od prog 65 2=some 2:=U
def fM:jy prog 26 1=some 1:=U
def o0:prog.underlying 2=some (.int .i64):=U
def b6:prog.underlying 89=some (.int .u64):=U
def MN(p q:Rat)(a:Fit 262144 p)(b:Fit 262144 q):Ct 130 [dw p,dw q] (dw (p-q)):=by
 refine Ct.of (n:=9) func130 Z Z Z Z Z λw0 G0=>?_
 refine X 3 Z<|H<|dq (ops:=[_,_,_,_]) (fu:=5) (bs':=[(65,(bj p)),(65,(bj q)),(65,(bj (p-q)))]) [some 5,some 6,some 7,some 8] [.agg (bj p),.agg (bj q),.agg [bT (!decide (q.num<0)),aY q.num.natAbs,aY q.den],.agg (bj (p-q))] U Z Z Z Z Z U U Z Z Z Z Z Z Z Z d8 Z Z Z ?_ ?_
 ·refine Chain.op Z (aN Z Z Z aH Z Z)<|Chain.op Z (aN Z Z Z aH Z Z)<|Chain.op Z (D Z (OH _ _ _) Z Z)<|Chain.op Z (D Z (MM p q a b) Z Z)<|Chain.nil
 exact aM ⟨(co Z Z aH Z),Z,Z⟩ Z
def vo(q:Rat)(a:Fit 262144 q):Ct 67 [dw q] (dw (1-q)):=by
 refine Ct.of (n:=6) func67 Z Z Z Z Z λw0 G0=>?_
 refine X 2 Z<|H<|dq (ops:=[_,_,_]) (fu:=4) (bs':=[(65,(bj q)),(65,(bj (1-q)))]) [some 3,some 4,some 5] [.agg (bj (1:Rat)),.agg (bj q),.agg (bj (1-q))] U Z Z Z Z Z U U Z Z Z Z Z Z Z Z d8 Z Z Z ?_ ?_
 ·refine Chain.op Z (D Z OG Z Z)<|Chain.op Z (aN Z Z Z aH Z Z)<|Chain.op Z (D Z (MN 1 q oZ a) Z Z)<|Chain.nil
 exact aM ⟨(co Z Z aH Z),Z,Z⟩ Z
def qV(n:Int)(b: -9223372036854775808<=n)(c:n<=9223372036854775807):Ct 146 [iT n] (aY n.natAbs):=by
 refine Ct.of (n:=14) func146 Z Z Z Z Z λw0 G0=>?_
 refine C<|M 0 (t:=.sl []) Z (bz (.inr Z) bS)<|E<|H<|C<|M 1 (t:=bT (decide (n<0))) Z (aC Z Z Z Zy)<|E<|ay Z (λa=>?_) (λa=>?_)
 ·refine C<|aI 1 (t:=iT (n+1)) Z Z Zy (ej (by rw[RZ];omega))<|M 0 (t:=iT (-(n+1))) Z (aj (dm Z Z Zy) (ej (by rw[RZ];omega)))<|M 0 (t:=.sc (.int .u64 (-(n+1)))) Z (aj (bp Z o0 b6 Z) (ej (by rw[IntKind.wrap_u64];omega)))<|aI 0 (t:=.sc (.int .u64 ((n.natAbs:Nat):Int))) Z Z Zy (ej (by rw[IntKind.wrap_u64];omega))<|M 0 Z (D Z (jg n.natAbs O0) Z Z)<|Y 1 Z<|aM ⟨Z,Z,Z⟩ Z
 refine ar<|C<|M 1 (t:=.sc (.int .u64 ((n.natAbs:Nat):Int))) Z (aj (bp Z o0 b6 Z) (ej (by rw[IntKind.wrap_u64];omega)))<|M 0 Z (D Z (jg n.natAbs O0) Z Z)<|Y 1 Z<|aM ⟨Z,Z,Z⟩ Z
def Aj(s:Sch)(q:Rat)(e:Fit 262144 q)(c:Fit 262144 (1-q)):Ct 122 [s.tree,dw q] (bT (iw s.cert q)):=by
 refine Ct.of (n:=30) func122 Z Z Z Z Z λw0 G0=>?_
 refine X 3 Z<|C<|M 1 Z (D Z (vo q e) Z Z)<|Y 2 Z<|H<|C<|M 1 Z (D Z (mn q e) Z Z)<|M 0 (t:=bT (decide ((dk q)<0))) Z (aC Z Z Z Zy)<|ax 1 Z<|N Z Z Z Z (λa=>aN Z Z Z aH Z Z)<|N Z Z Z Z (λa=>D Z (mn (1-q) c) (dN (if_pos a) Z) Z)<|N (t:=bT (decide ((dk (1-q))<0))) Z Z Z Z (λa=>aC Z (if_pos a) Z (λ_=>rfl))<|M 0 Z (dD Z Z Z Z)<|ax 1 Z<|N Z Z Z Z (λa=>aq Z Z fM Z)<|N Z Z Z Z (λa=>av Z (if_pos a) Z eG Z)<|N Z Z Z Z (λa=>K Z (if_pos a))<|cl Z Z Z Z (λa=>aN Z Z Z aH Z Z)<|cl Z Z Z Z (λa=>D Z (mn (1-q) c) (dN (if_pos a) Z) Z)<|cl (t:=bT ((dk (1-q)) !=0)) Z Z Z Z (λa=>aC Z (if_pos a) Z (λ_=>rfl))<|N (t:=bT (s.cert&&((dk (1-q)) !=0))) Z Z Z Z (λa=>fJ Z (if_pos a) (λd=>(if_pos ⟨a,d⟩).trans (B (by rw[d];rfl))) (λd=>(B (by rw[d];rfl))))<|M 0 Z (dD Z Z Z Z)<|E<|aK Z (λb=>?_) (λb=>?_)
 ·refine X 1 Z<|aM ⟨Z,B (by unfold iw;rw[b];rfl),Z⟩ Z
 refine ar<|C<|M 1 Z (D Z (qT q e) Z Z)<|M 0 (t:=aY q.den) Z (Fj Z Z qU Z)<|M 0 Z (D Z (kw q.den e.den) Z Z)<|aI 0 Z Z Zy (B (IX (cR q.den) 65536))<|Y 1 Z<|aM ⟨Z,B (by unfold iw;rw[b];rfl),Z⟩ Z
def BD(n:Nat)(h:(aD n).length<=1073741823):Ct 168 [aY n] (aY n):=fy ⟨_,func168,Z,Z⟩ (λ_ _ _ d h=>fe d h) λG w vs _ _ i=>by
 obtain⟨u,rfl,b⟩:=eC i;obtain⟨A,c,rfl,g⟩:=ek b;refine(dZ A c (aD n) w g h).mono ?_;rintro e w' ⟨v,rfl,a,f⟩;rw[aW]at a;exact⟨v,Z,a.isD,f⟩
def FU(x y:Nat)(h:(aD x).length<=1073741823)(i:(aD y).length<=1073741823):Ct 101 [aY x,aY y] (iT (fE x y)):=Ct.sc ⟨_,func101,Z,Z⟩ λG w vs _ _ g=>by
 obtain⟨u,v,rfl,a,b⟩:=dE g;obtain⟨A,c,rfl,e⟩:=ek a;obtain⟨B,d,rfl,f⟩:=ek b;have:=ua A B c d (aD x) (aD y) w e f h i;rw[aW,aW]at this;exact this
def ue(x y:Nat)(f:(aD x).length<=1073741823)(a:y<=x):Ct 217 [aY x,aY y] (.tup [aY (x-y),bT true]):=⟨⟨_,func217,Z,Z⟩,λG w vs _ i m=>by
 obtain⟨u,v,rfl,g,h⟩:=dE m;obtain⟨A,c,rfl,j⟩:=ek g;obtain⟨B,d,rfl,k⟩:=ek h;have n:(aD y).length<=1073741823:=Q7 (bh a) f;have:=zV A B c d (aD x) (aD y) w j k f n (by rw[aW,aW];exact a);rw[aW,aW]at this;refine this.mono ?_;rintro e w' ⟨v,rfl,l,b⟩;exact⟨_,Z,.tup [v,.bool true] _ ((fe (OkG.later i b) l.isD).cons (.sc _ .nil)) .nil,b⟩⟩
def Ak(n:Nat)(d:n<18446744073709551616):Ct 102 [.sc (.int .u64 (n:Nat))] (aY n):=fy ⟨_,func102,Z,Z⟩ (λ_ _ _ b h=>fe b h) λG w vs _ _ g=>by
 obtain⟨u,rfl,a⟩:=eC g;cases a;refine(sv n w d).mono ?_;rintro e w' ⟨v,rfl,f,c⟩;exact⟨v,Z,f.isD,c⟩
def BE(n:Int)(a: -9223372036854775808<=n)(b:n<=9223372036854775807):Ct 162 [iT n] (aY n.natAbs):=fy ⟨_,func162,Z,Z⟩ (λ_ _ _ d h=>fe d h) λG w vs _ _ i=>by
 obtain⟨u,rfl,c⟩:=eC i;cases c;refine(JI n w a b).mono ?_;rintro e w' ⟨v,rfl,g,f⟩;exact⟨v,Z,g.isD,f⟩
def th(ng:Bool)(N D:Nat)(a:0<D):iC (ng&&decide (N≠0)) (N/Nat.gcd N D) (D/Nat.gcd N D)=dw (eK ng N D):=by
 unfold dw;rcases RV N with h|h
 ·subst h;rw[kP,Uu,Nat.div_self a];simp
 obtain⟨b,c,d⟩:=oW ng h a;rw[b,c,d];simp[show N≠0 by omega]
def BF{ng:Bool}{N D:Nat}{w:World}{G:Nat->Prop}(f:OkG G w)(d:0<D){e:Ending}{w':World}(h:uV (ng&&decide (N≠0)) (N/Nat.gcd N D) (D/Nat.gcd N D) w e w'):∃v,e=.returned v/\PT w' G [v] [dw (eK ng N D)]/\Below w.heap.size w w':=by
 obtain⟨i,g,rfl,b,c,a⟩:=h;refine⟨_,Z,?_,a⟩;rw[<-th ng N D d];exact OC (OkG.later f a) ⟨i,g,Z,b.isD,c.isD⟩
def jh(ng:Bool)(N D:Nat)(l:(aD N).length<=1048576)(j:(aD D).length<=1048576)(b:0<D):Ct 110 [bT ng,aY N,aY D] (dw (eK ng N D)):=⟨⟨_,func110,Z,Z⟩,λG w vs _ k o=>by
 obtain⟨a,u,v,rfl,f,g,i⟩:=qN o;cases f;obtain⟨A,c,rfl,m⟩:=ek g;obtain⟨B,d,rfl,n⟩:=ek i;exact(Bl ng A B c d N D w m n l j b).mono λe w' h=>BF k b h⟩
def G7(ng:Bool)(N D:Nat)(l:(aD N).length<=1048576)(j:(aD D).length<=1048576)(b:0<D):Ct 48 [iC ng N D] (dw (eK ng N D)):=⟨⟨_,func48,Z,Z⟩,λG w vs _ k o=>by
 obtain⟨a,rfl,f⟩:=eC o;obtain⟨q,p,rfl,g,i⟩:=OB f;obtain⟨A,c,rfl,m⟩:=g;obtain⟨B,d,rfl,n⟩:=i;exact(zY ng A B c d N D w m n l j b).mono λe w' h=>BF k b h⟩
def gI(q:Rat)(h:Fit 1048576 q):Ct 48 [dw q] (dw q):=by
 have:=G7 (decide (q.num<0)) q.num.natAbs q.den h.num h.den q.den_pos;rwa[gB]at this
def nk(l m:List V)(g:l.length<=65536)(h:m.length<=65536):Ct 93 [.sl (l.map V.tree),.sl (m.map V.tree)] (iT (bw l m)):=Ct.sc ⟨_,func93,Z,Z⟩ λG w vs _ _ i=>by
 obtain⟨u,x,rfl,e,f⟩:=dE i;obtain⟨A,c,rfl,a,_⟩:=qO e;obtain⟨B,d,rfl,b,_⟩:=qO f;exact xB A B c d l m w a b g h
def ye(v:V)(b:v.s.size<=9223372036854775807):Ct 98 [v.tree] (bT v.ok):=Ct.sc ⟨_,func98,Z,Z⟩ λG w vs _ _ a=>by
 obtain⟨u,rfl,h⟩:=eC a;rw[D3 h];exact qP v.t v.n v.s w b
def vq(m:Nat):Tree->Tree
 | .box b off=>if b=m then .box (m+1) off else if b=m+1 then .box m off else .box b off
 | .agg _| .tup _=>.any
 |t=>t
def NR(m:Nat):Tree->Tree
 | .agg cs=>.agg (cs.map (vq m))
 |t=>vq m t
section
variable {w0 w:World} {G0:Bse} {bs:List (TypeId×List Tree)} {rs:List (Option Row)} {bx:List Nat} {rv:List Value} {g1 g2:Nat}
def OI{α:Type}{l:List α}{x y z:α}{i m:Nat}(d:l.length=m)(h:(l++[x,y])[i]? =some z):(i=m/\z=x)\/(i=m+1/\z=y)\/(i<m/\l[i]? =some z):=by
 subst d;rcases RE i l.length with a|a
 ·rw[Rv a]at h;exact .inr (.inr ⟨a,h⟩)
 rw[Ru a]at h;have c:=(Q6.1 h).1;simp only[Q5,Ra]at c;have:i-l.length=0\/i-l.length=1:=O
 rcases this with b|b<;>rw[b]at h<;>simp at h
 ·exact .inl ⟨O,h.symm⟩
 exact .inr (.inl ⟨O,h.symm⟩)
def J7{α:Type}{l:List α}{x y z:α}{i m:Nat}(b:l.length=m)(h:(l++[x,y])[i]? =some z):(l++[y,x])[if i=m then m+1 else if i=m+1 then m else i]? =some z:=by
 rcases OI b h with⟨rfl,rfl⟩|⟨rfl,rfl⟩|⟨c,a⟩
 ·rw[if_pos Z,Ru O,show i+1-l.length=1 by omega];rfl
 ·rw[if_neg O,if_pos Z,Ru O,show m-l.length=0 by omega];rfl
 rw[if_neg O,if_neg O,Rv O];exact a
def sE(b:Nat):b∈cJ (bx++[g2,g1]) rv rs↔b∈cJ (bx++[g1,g2]) rv rs:=by
 rw[be,be];refine or_congr ?_ T1;simp only[RI,Ri,To,or_false];constructor<;>(rintro(h|h|h)<;>simp[h])
def J8{m:Nat}(k:bx.length=m){u:Value}{t:Tree}(h:FT (en w G0 (bx++[g1,g2]) rv rs) [u] [t]):FT (en w G0 (bx++[g2,g1]) rv rs) [u] [vq m t]:=by
 have i:GG G0 (bx++[g2,g1]) rv rs=GG G0 (bx++[g1,g2]) rv rs:=funext λb=>propext (or_congr T1 (sE b))
 cases h with
 |pure h _=>
  have f:PT (en w G0 (bx++[g2,g1]) rv rs).W (en w G0 (bx++[g2,g1]) rv rs).G [u] [t]:=by
   show PT w (GG G0 (bx++[g2,g1]) rv rs) [u] [t]
   rw[i];exact h
  cases t<;>first
   |exact .pure f .nil
   |(simp only[vq];exact .any _ .nil)
   |(cases h)
 |any=>exact .any _ .nil
 |box b off g h _=>
  have h:(bx++[g1,g2])[b]? =some g:=h;have a:=J7 k h;simp only[vq];by_cases d:b=m
  ·rw[if_pos d]at a⊢;exact .box _ off g a .nil
  by_cases e:b=m+1
  ·rw[if_neg d,if_pos e]at a⊢;exact .box _ off g a .nil
  rw[if_neg d,if_neg e]at a⊢;exact .box _ off g a .nil
 |own j n c A hv _=>exact .own j n c A hv .nil
 |elp j off g n c hv _=>exact .elp j off g n c hv .nil
 |agg=>exact .any _ .nil
 |tup=>exact .any _ .nil
def Al{m:Nat}(a:bx.length=m):∀{us:List Value} {ts:List Tree},FT (en w G0 (bx++[g1,g2]) rv rs) us ts->FT (en w G0 (bx++[g2,g1]) rv rs) us (ts.map (vq m))
 |[],[],_=>.nil
 |[],_::_,h=>by cases h
 |_::_,[],h=>by cases h
 |u::us,t::ts,h=>FT.cons (J8 a h.head) (Al a h.tail)
def PH{m:Nat}(a:bx.length=m){u:Value}{t:Tree}(h:FT (en w G0 (bx++[g1,g2]) rv rs) [u] [t]):FT (en w G0 (bx++[g2,g1]) rv rs) [u] [NR m t]:=by
 cases t with
 |agg cs=>
  obtain⟨xs,rfl,b⟩:=h.isAgg;exact .agg xs _ (Al a b) .nil
 |_=>exact J8 a h
def OJ{S S':St}{a:Act}{m:Nat}{p:List (TypeId×List Tree)}{x y:TypeId×List Tree}(h:Sim w0 G0 S a w)(G:p.length=m)(L:S.bs=p++[x,y])(N:S'.n=S.n)(u:S'.bs=(p++[y,x]).map λq=>(q.1,q.2.map (vq m)))(j:S'.rs=S.rs)(Q:∀s,S'.get s=NR m (S.get s))(P:G0.pn<=m):Sim w0 G0 S' a w:=by
 obtain⟨bx,rv,c,I,E,H⟩:=h;have M:bx.length=m+2:=by rw[c.nb,L];simp[G]
 obtain⟨l,g1,g2,rfl,A⟩:∃l g1 g2,bx=l++[g1,g2]/\l.length=m:=by
  refine⟨bx.take m,bx[m],bx[m+1],?_,by simp;omega⟩;conv=>lhs;rw[<-R3 m bx]
  congr 1;rw[Re O,Re O,Rc O]
 refine⟨l++[g2,g1],rv,⟨c.below,c.env0,c.g0,by rw[u];simp[A,G],by rw[j];exact c.nr,λi g F=>?_,λk v R J t=>?_,⟨?_,λk v R b J t d f=>?_,by rw[j];exact c.nodup.rr⟩,λb d=>?_,λi F=>by have o:=c.pin i F;rw[Rv O]at o⊢;exact o⟩,by rw[N];exact I,E,λi=>?_⟩
 ·obtain⟨ty,cs,us,o,B,C,D⟩:=c.box _ g (J7 A F);rw[L]at o;have K:=J7 G o;have e:(if(if i=m then m+1 else if i=m+1 then m else i)=m then m+1 else if(if i=m then m+1 else if i=m+1 then m else i)=m+1 then m else(if i=m then m+1 else if i=m+1 then m else i))=i:=by
   by_cases r:i=m
   ·rw[if_pos r,if_neg O,if_pos Z,r]
   by_cases z:i=m+1
   ·rw[if_neg r,if_pos z,if_pos Z,z]
   rw[if_neg r,if_neg z,if_neg r,if_neg z]
  rw[e]at K;refine⟨ty,cs.map (vq m),us,by rw[u,RK,K];rfl,B,?_,D⟩;rw[j];exact Al A C
 ·rw[j]at t;obtain⟨xs,o,B,C,D⟩:=c.row k v R J t;refine⟨xs,o,?_,C,D⟩;rw[j,show GG G0 (l++[g2,g1]) rv S.rs=GG G0 (l++[g1,g2]) rv S.rs from funext λb=>propext (or_congr T1 (sE b))];exact B
 ·have:=c.nodup.bb;refine this.perm<|List.Perm.append_left l (List.Perm.swap g2 g1 [])
 ·rw[j]at t;refine c.nodup.br k v R b J t d ?_;simp only[RI,Ri,To,or_false]at f⊢;rcases f with h|h|h
  ·exact .inl h
  ·exact .inr (.inr h)
  exact .inr (.inl h)
 ·rw[j]at d;exact c.ge b ((sE b).1 d)
 rw[j,Q];exact PH A (H i)
end
def vr{l:Nat}{o:Oper}{n d b:Nat}{sl:List (Nat×Tree)}{p bs':List (TypeId×List Tree)}{y:TypeId×List Tree}{rs:List (Option Row)}{ty:TypeId}{e:List Value}{cs:List Tree}(z:o.op=.alloc ty)(g:o.dst=some d)(x:Nat.blt d n=true)(C:ij prog ty=some e)(r:e.all bR=true)(u:e.map eg=cs)(t:p.length=b)(c:((p++[(ty,cs),y]).map λq=>(q.1,q.2.map (vq b)))=bs')(i:l<=b:=by first|exact Rg _|exact Nat.le_of_ble_eq_true Z):xz l o ⟨n,sl,p++[y],rs⟩ (NR b) (.box b 0) bs' rs:=by
 subst u t c;intro w0 G0 S m j f k B;dsimp only at j f k;have c:S.bs++[(ty,e.map eg)]=p++[y,(ty,e.map eg)]:=by rw[f];simp
 refine⟨⟨S.n,(d,.box p.length 0)::S.sl.map (λq=>(q.1,NR p.length q.2)),(p++[(ty,e.map eg),y]).map λq=>(q.1,q.2.map (vq p.length)),S.rs⟩,?_,Z,Z,k,λs=>?_⟩
 ·intro a w A;refine OpRuns.mono (uB (S:=S) z (by rw[g,j];simpa[cF,R5]using x) C r a w A) λv W h=>?_
  refine OJ h Z (by rw[dJ];exact c) (by rw[eu]) Z (by rw[cj]) (λs=>?_) (by rw[m];exact i);rw[dh,g];show look ((d,Tree.box p.length 0)::_) s=_
  rw[dX,kH _ Z];simp only[Ro];split
  ·have:S.bs.length=p.length+1:=by rw[f];simp
   show _=NR _ (Tree.box S.bs.length 0)
   rw[this];simp[NR,vq]
  rfl
 show look ((d,Tree.box p.length 0)::_) s=_
 rw[dX,kH _ Z,g];simp only[Ro];rfl
