import Derived.Test.YtfoejfohbkmmeaaGreatDoorU32
import Derived.Test.YtfoejfohbkmmeaaGreatDoorU11
import Derived.Test.YtfoejfohbkmmeaaGreatDoorU08
import Derived.Test.YtfoejfohbkmmeaaGreatDoorU00
import Derived.Test.YtfoejfohbkmmeaaGreatDoorU14
import Derived.Test.YtfoejfohbkmmeaaGreatDoorU17
import Derived.Test.YtfoejfohbkmmeaaGreatDoorU01
import Derived.Shelf.Strings.IndexAnyAll
set_option maxRecDepth 100000
set_option maxHeartbeats 8000000
namespace Go.Proofs.YtfoejfohbkmmeaaGreatDoor
open Go.RowKit
open Lib renaming hid→J
def o4(d:Nat):Tree:=.sc (.int .u32 (d:Nat))
theorem nK(l:List Nat):Sized 1 (l.map o4):=Sized.map _ l fun _=>rfl
def fx(n:Nat):List UInt8:=if h:n=0 then []else UInt8.ofNat (48+n%10)::fx (n/10)
termination_by n
decreasing_by omega
theorem lA:fx 0=[]:=by rw[fx];simp
theorem mU{n:Nat}(h:0<n):fx n=UInt8.ofNat (48+n%10)::fx (n/10):=by rw[fx,dif_neg (by omega)]
theorem Dj:∀n:Nat,0<n->(fx n).reverse=Lib.decDigits n:=by
 intro n;induction n using Nat.strongRecOn with
 |ind n ih=>
  intro h;rw[mU h,Lib.decDigits,OF];split
  ·next h9=>
   rw[show n/10=0 by omega,lA,show n%10=n by omega];rfl
  next h9=>rw[ih (n/10) (by omega) (by omega)]
theorem uJ:∀(k n:Nat),n<10^k->(fx n).length<=k
 |0,n,h=>by
  have:n=0:=by simpa using h
  subst this;rw[lA];exact L5 _
 |k+1,n,h=>by
  rcases M1 n with rfl|a
  ·rw[lA];simp
  rw[mU a,Mb];have:=uJ k (n/10) (by rw[MM]at h;omega);omega
theorem sU{n L:Nat}(h:(ay n).length<=L):(fx n).length<=10*L:=by
 refine uJ _ _ ?_;have a:=b4 (ay n) (bY n);rw[aI]at a;have c:(4294967296:Nat)^(ay n).length<=(10^10)^(ay n).length:=OJ (by decide) _;have b:(10^10:Nat)^(ay n).length<=(10^10)^L:=MP (by decide) h;rw[PF];omega
theorem Fz{n:Nat}(h:0<n):1<=(fx n).length:=by rw[mU h];simp
theorem Ap{b:List UInt8}{q i g n:Nat}(k:i<9)(c:g<10^(9-i))(f:0<g\/0<q)(h:b++fx (q*10^(9-i)+g)=fx n):g/10<10^(9-(i+1))/\(b++[UInt8.ofNat (48+g%10)])++fx (q*10^(9-(i+1))+g/10)=fx n:=by
 have e:10^(9-i)=10^(9-(i+1))*10:=by rw[<-MM];congr 1;omega
 rw[e]at c h;have j:0<10^(9-(i+1)):=NN (by decide);obtain⟨P,d⟩:∃P,10^(9-(i+1))=P:=⟨_,rfl⟩;rw[d]at c h j⊢;have a:0<q*(P*10)+g:=by
  rcases f with h|h
  ·omega
  have:0<q*(P*10):=Oi h (by omega);omega
 rw[<-Mu]at h a;rw[mU a,show(q*P*10+g)%10=g%10 by omega,show(q*P*10+g)/10=q*P+g/10 by omega]at h;exact⟨by omega,by rw[<-h];simp⟩
theorem Dk{a:List UInt8}{q i g n:Nat}(d:i<=9)(b:g<10^(9-i))(e:¬(i<9/\(0<g\/0<q)))(h:a++fx (q*10^(9-i)+g)=fx n):a++fx q=fx n:=by
 by_cases c:i=9
 ·subst c;have:g=0:=by simpa using b
  subst this;simpa using h
 have:g=0/\q=0:=by omega
 obtain⟨rfl,rfl⟩:=this;simpa using h
theorem re{q:Nat}:0<(ay q).length↔0<q:=by
 have:=bR (n:=q);omega
def Dl(l L:List UInt8)(k:Nat):Prop:=L.length=l.length/\∀t:Nat,L[t]? =if t<k\/l.length-k<=t then l.reverse[t]? else l[t]?
theorem FA{l L:List UInt8}{k:Nat}{a b:UInt8}(h:Dl l L k)(o:k<l.length-1-k)(j:L[k]? =some a)(m:L[l.length-1-k]? =some b):Dl l ((L.set k b).set (l.length-1-k) a) (k+1):=by
 obtain⟨n,e⟩:=h;refine⟨by simp[n],fun t=>?_⟩;have c:=(e k).symm.trans j;have d:=(e (l.length-1-k)).symm.trans m;rw[if_neg (by omega)]at c d;rw[OQ,OQ,MU];by_cases i:l.length-1-k=t
 ·subst i;rw[if_pos Z,if_pos (by omega),if_pos (by omega),Pt (by omega),show l.length-1-(l.length-1-k)=k by omega,c]
 rw[if_neg i];by_cases f:k=t
 ·subst f;rw[if_pos Z,if_pos (by omega),if_pos (by omega),Pt (by omega),d]
 rw[if_neg f,e t];by_cases g:t<k\/l.length-k<=t
 ·rw[if_pos g,if_pos (by omega)]
 rw[if_neg g,if_neg (by omega)]
theorem Hx{l L:List UInt8}{k:Nat}(h:Dl l L k)(a:¬k<l.length-1-k):L=l.reverse:=by
 apply PN;intro t;rw[h.2 t];split
 ·rfl
 next h3=>
 have:t=l.length-1-t:=by omega
 rw[Pt (by omega),<-this]
theorem Dm(l:List UInt8):Dl l l 0:=⟨Z,fun t=>by
 split
 ·next h=>
  rw[Nq (by omega),Nq (by simp;omega)]
 rfl⟩
theorem Cb{l L:List UInt8}{k t:Nat}(h:Dl l L k)(a:t<l.length):∃c,L[t]? =some c:=⟨_,L4 (by rw[h.1];exact a)⟩
theorem KB{L:List UInt8}{t:Nat}{c:UInt8}(h:L[t]? =some c):(bg L)[t]? =some (.sc (.int .u8 c.toNat)):=by
 unfold bg;rw[MQ,h];rfl
theorem KC(L:List UInt8)(t:Nat)(c:UInt8):(bg L).set t (.sc (.int .u8 c.toNat))=bg (L.set t c):=by unfold bg;rw[List.map_set]
theorem KD{e sz:Nat}{b:Bool}{es a:List Tree}(h:es=a):[some (⟨e,sz,es,b⟩:Row)]=[some ⟨e,sz,a,b⟩]:=by rw[h]
theorem Dn{x y:Operand}(a:Nat)(w:World):(do eqGuard .rem 50 x y (.int .u32 (a:Nat)) (.int .u32 10);binOp .rem 50 (.int .u32 (a:Nat)) (.int .u32 10):Sem Value).run Tryz.prog w=.ok (.int .u32 ((a%10:Nat):Int)) w:=by
 go_simp;rw[OA (by omega)]
theorem Do{x y:Operand}(a:Nat)(h:a<4294967296)(w:World):(do eqGuard .quo 50 x y (.int .u32 (a:Nat)) (.int .u32 10);binOp .quo 50 (.int .u32 (a:Nat)) (.int .u32 10):Sem Value).run Tryz.prog w=.ok (.int .u32 ((a/10:Nat):Int)) w:=by
 go_simp;rw[IntKind.wrap_u32];omega
theorem Hy{a:Int}{m:Nat}(h:a=m)(b:m<4294967296):(Tree.sc (.int .u32 (IntKind.u32.wrap a)))=.sc (.int .u32 ((m:Nat):Int)):=by
 subst h;rw[IntKind.wrap_u32];congr 2;omega
theorem Jr{m:Nat}(_:m<256):(Tree.sc (.int .u8 (IntKind.u8.wrap ((m:Nat):Int))))=.sc (.int .u8 ((UInt8.ofNat m).toNat:Nat)):=by
 rw[IntKind.wrap_u8];congr 2
theorem FB(n:Nat)(h:(ay n).length<=1073741823):Ct 172 [aM n] (aM n):=dW ⟨_,Tryz.func172,Z,Z⟩ (fun _ _ _ b h=>ia b h) fun G w vs _ _ a=>by
 obtain⟨u,rfl,c⟩:=cR a;exact uf (dX c) h
theorem FC(n d:Nat)(h:(ay n).length<=1048576)(g:0<d)(b:d<4294967296):Ct 173 [aM n,.sc (.int .u32 (d:Nat))] (.tup [aM (n/d),.sc (.int .u32 ((n%d:Nat):Int))]):=dW (K:=QD n d) ⟨_,Tryz.func173,Z,Z⟩ (fun G W v f h=>by
  obtain⟨a,rfl,c⟩:=h;exact .tup [a,.int .u32 _] _ ((ia f c).cons (.sc _ .nil)) .nil) fun G w vs _ _ e=>by
 obtain⟨u,v,rfl,c,i⟩:=eL e;cases i;exact uk (dX c) h g b
theorem ya(a:List UInt8)(c:UInt8):bg (a++[c])=bg a++[.sc (.int .u8 c.toNat)]:=by simp[bg]
theorem FD{m n L:Nat}(h:(ay n).length<=L)(a:m<=n):(ay m).length<=L:=L6 (aS a) h
theorem eS:lM Tryz.prog 22=some (5,1,1):=by kernel_rfl
theorem df:gE Tryz.prog 22=some (5,1):=by kernel_rfl
theorem dw:gE Tryz.prog 63=some (50,1):=by kernel_rfl
theorem uK:iU Tryz.prog 5=true:=by kernel_rfl
theorem uL:(Tryz.prog.info? 5).map (·.size)=some 1:=by kernel_rfl
theorem Dp:Tryz.prog.underlying 5=some (.int .u8):=by kernel_rfl
theorem Aq:Tryz.prog.underlying 50=some (.int .u32):=by kernel_rfl
theorem jm:gc Tryz.prog 5=some [.int .u8 0]:=by kernel_rfl
theorem sV(n:Nat)(D:(ay n).length<=262144):Ct 108 [aM n] (.sc (.string ⟨(Lib.decDigits n).toArray⟩)):=by
 refine Ct.of (n:=72) Tryz.func108 Z Z Z Z Z fun w0 G0=>?_
 refine ab<|aj 1 Z<|ab<|ae<|aa 1 Z<|af Z Z Z (ar Z (FB n (L6 D (by decide))) Z Z)<|aa 1 Z<|ag<|ab<|ab<|ae<|aa 1 Z<|af (t:=nI ((ay n).length)) Z Z Z (ah (bd Z dw Z) (by simp only[L8]))<|af (t:=bT (decide ((ay n).length=0))) Z Z Z (ah (ai Z Z Z Zy) (av (lY ((ay n).length) 0)))<|ag<|aF Z (fun v=>?_) (fun v=>?_)
 ·refine ab<|aj 1 Z<|aC<|⟨.inr Z,_,.cons Z .nil,(congrArg (fun F:List UInt8=>Tree.sc (.string ⟨F.toArray⟩)) (by rw[bR.1 v,Lib.decDigits];rfl)),Z⟩
 refine ax<|ab<|ae<|g7 (k:=0) (e:=5) (sz:=1) (rs':=[some ⟨5,1,bg [],false⟩]) (.inr Z) Z Z Z Z Z<|ag<|ab<|aE<|aW (fun r s=>∃(m:Nat) (d:List UInt8),(m<=n/\d++fx m=fx n)/\r=m+1/\s=⟨72,[(3,.sl ((ay m).map o4)),(4,.own 0)],[],[some ⟨5,1,bg d,false⟩]⟩) 0 1 ⟨n,[],⟨L5 _,Z⟩,Z,Z⟩ ⟨Z,Z,Z,.cons Z Z (.cons Z Z .nil),Z⟩ ?_;rintro r s ⟨m,d,⟨I,o⟩,rfl,rfl⟩;refine ab<|ab<|ae<|aa 1 Z<|af (t:=nI ((ay m).length)) Z Z Z (ah (bd Z dw Z) (by simp only[L8]))<|af (t:=bT (decide (0<(ay m).length))) Z Z Z (ah (ai Z Z Z Zy) (av (tE ((ay m).length) 0)))<|ag<|aF Z (fun x=>?_) (fun x=>?_)
 ·have A:0<m:=re.1 x;have H:(ay m).length<=1048576:=L6 (FD D I) (by decide);refine ax<|aE<|ab<|ae<|aa 1 Z<|af Z Z Z (ar Z (FC m 1000000000 H (by decide) (by decide)) Z Z)<|aa 5 Z<|ag<|ab<|aj 2 Z<|ab<|aj 1 Z<|aE<|aW (fun r s=>∃(i:Nat) (g:Nat) (h:List UInt8),(i<=9/\g<10^(9-i)/\h++fx (m/1000000000*10^(9-i)+g)=fx n)/\r=9-i/\s=⟨72,[(3,.sl ((ay (m/1000000000)).map o4)),(4,.own 0),(6,.sc (.int .u32 ((g:Nat):Int))),(7,nI i)],[],[some ⟨5,1,bg h,false⟩]⟩) 0 1 ⟨0,(m%1000000000),d,⟨by omega,Ni _ (by decide),by show d++fx (m/1000000000*1000000000+m%1000000000)=fx n;rw[Nat.div_add_mod'];exact o⟩,Z,Z⟩ ⟨Z,Z,Z,.cons Z Z (.cons Z Z (.cons Z Z (.cons Z Z .nil))),Z⟩ ?_;rintro r s ⟨i,g,h,⟨R,G,Q⟩,rfl,rfl⟩;refine ab<|ab<|ae<|aa 1 Z<|af (t:=bT (decide (i<9))) Z Z Z (ah (ai Z Z Z Zy) (av (iu i 9)))<|aa 1 Z<|aA (t:=.sc (.int .u32 ((g:Nat):Int))) ((decide (i<9))=true) Z Z Z au Z Z (fun l=>aw Z Z)<|aA (t:=bT (decide (0<g))) ((decide (i<9))=true) Z Z Z au Z Z (fun l=>ah (ai Z (if_pos l) Z (fun _=>rfl)) (av (tE g 0)))<|aA (t:=bT (decide (0<g))) ((decide (i<9))=true) Z Z Z au Z Z (fun l=>aw Z (if_pos l))<|aA (t:=.sl ((ay (m/1000000000)).map o4)) (((decide (i<9))=true)/\((decide (0<g))=false)) Z Z Z ee Z Z (fun l=>aw Z Z)<|aA (t:=nI ((ay (m/1000000000)).length)) (((decide (i<9))=true)/\((decide (0<g))=false)) Z Z Z ee Z Z (fun l=>ah (bd Z dw (if_pos l)) (by simp only[L8]))<|aA (t:=bT (decide (0<(ay (m/1000000000)).length))) (((decide (i<9))=true)/\((decide (0<g))=false)) Z Z Z ee Z Z (fun l=>ah (ai Z (if_pos l) Z (fun _=>rfl)) (av (tE ((ay (m/1000000000)).length) 0)))<|aA (t:=bT ((decide (0<g))||(decide (0<(ay (m/1000000000)).length)))) ((decide (i<9))=true) Z Z Z au Z Z (fun l=>aL Z (if_pos l) (fun p=>(av (by rw[p];rfl))) (fun p=>(if_pos ⟨l,p⟩).trans (av (by rw[p];rfl))))<|af (t:=bT ((decide (i<9))&&((decide (0<g))||(decide (0<(ay (m/1000000000)).length))))) Z Z Z (aL Z Z (fun p=>(if_pos p).trans (av (by rw[p];rfl))) (fun p=>(av (by rw[p];rfl))))<|ag<|aH Z (fun q=>?_) (fun q=>?_)
  ·have E:i<9/\(0<g\/0<m/1000000000):=by
    rw[Ma,M5,decide_eq_true_eq,decide_eq_true_eq,decide_eq_true_eq,re]at q;exact q
   have B:g<4294967296:=Mp G (L6 (MP (by decide) (show 9-i<=9 by omega)) (by decide));have y:=Ap E.1 G E.2 Q;have N:h.length+1<=2621440:=by
    have J:=sU D;rw[<-y.2]at J;simp only[Mc,NL]at J;omega
   refine ax<|ab<|aE<|ab<|ae<|aa 2 rfl<|af (t:=.sc (.int .u32 ((g%10:Nat):Int))) rfl rfl rfl (ai rfl rfl rfl (fun w=>Dn g w))<|af (t:=.sc (.int .u32 ((48+g%10:Nat):Int))) rfl rfl rfl (ah (ai rfl rfl rfl Zy) (Hy (by omega) (by omega)))<|af (t:=.sc (.int .u8 ((UInt8.ofNat (48+g%10)).toNat:Int))) rfl rfl rfl (ah (k7 rfl Aq Dp rfl) ((Jr (by omega))))<|af (t:=.sl [.sc (.int .u8 ((UInt8.ofNat (48+g%10)).toNat:Int))]) rfl rfl rfl (a6 rfl df jm rfl (by decide) (by decide) rfl rfl rfl rfl rfl)<|cD (bs':=[]) (rs':=[some ⟨5,1,bg (h++[UInt8.ofNat (48+g%10)]),false⟩]) rfl rfl rfl rfl eS rfl rfl rfl rfl (by intro e O;simp only[Mi,Nr,or_false]at O;subst O;rfl) (AllC.lit rfl) (AllC.lit rfl) (by simp only[a7,Mb,Mo];omega) rfl rfl rfl (by rw[ya];rfl)<|aa 1 rfl<|ag<|ae<|aa 1 rfl<|af (t:=.sc (.int .u32 ((g/10:Nat):Int))) rfl rfl rfl (ai rfl rfl rfl (fun w=>Do g B w))<|aa 1 rfl<|ag<|ae<|aa 1 rfl<|af (t:=nI (i+1)) rfl rfl rfl (ah (ai rfl rfl rfl Zy) (bu (by omega)))<|aa 1 rfl<|ag<|⟨_,_,?_,⟨i+1,g/10,(h++[UInt8.ofNat (48+g%10)]),?_,rfl,rfl⟩,⟨rfl,rfl,rfl,.cons rfl rfl (.cons rfl rfl (.cons rfl rfl (.cons rfl rfl .nil))),rfl⟩⟩
   ·omega
   exact⟨by omega,y.1,y.2⟩
  have E:¬(i<9/\(0<g\/0<m/1000000000)):=by
   rw[N8,Mz,decide_eq_false_iff_not,decide_eq_false_iff_not,decide_eq_false_iff_not,re]at q;omega
  refine aZ<|⟨_,_,?_,⟨(m/1000000000),h,?_,Z,Z⟩,⟨Z,Z,Z,.cons Z Z (.cons Z Z .nil),Z⟩⟩
  ·omega
  exact⟨by omega,Dk R G E Q⟩
 have A:m=0:=by have:=mt re.2 x;omega
 subst A;have u:d=fx n:=by rw[lA,MA]at o;exact o
 have C:0<n:=NG fun e=>v (bR.2 e)
 have S:1<=d.length:=by rw[u];exact Fz C
 have K:d.length<=2621440:=by rw[u];exact sU D
 refine aZ<|ab<|ab<|ae<|aa 1 Z<|af (t:=nI d.length) Z Z Z (ah (yX Z df Z Z) (by simp only[a7]))<|af (t:=nI (d.length-1)) Z Z Z (ah (ai Z Z Z Zy) (bu (by omega)))<|aa 2 Z<|ag<|aE<|aW (fun r s=>∃(k:Nat) (L:List UInt8),(k<=d.length-1-k+1/\Dl d L k)/\r=d.length-k/\s=⟨72,[(4,.own 0),(8,nI k),(9,nI (d.length-1-k))],[],[some ⟨5,1,bg L,false⟩]⟩) 0 1 ⟨0,d,⟨by omega,Dm _⟩,Z,Z⟩ ⟨Z,Z,Z,.cons Z Z (.cons Z Z (.cons Z Z .nil)),Z⟩ ?_;rintro r s ⟨k,L,⟨T,f⟩,rfl,rfl⟩;refine ab<|ab<|ae<|aa 2 Z<|af (t:=bT (decide (k<(d.length-1-k)))) Z Z Z (ah (ai Z Z Z Zy) (av (iu k ((d.length-1-k)))))<|ag<|aF Z (fun z=>?_) (fun z=>?_)
 ·obtain⟨a,M⟩:=Cb (t:=k) f (by omega);obtain⟨b,P⟩:=Cb (t:=d.length-1-k) f (by omega);refine ax<|ab<|aE<|iw (sl':=[(4,.own 0),(8,nI k),(9,nI (d.length-1-k)),(51,bT (decide (k<(d.length-1-k))))]) ⟨Z,⟨Z,⟨Z,⟨Z,trivial⟩⟩⟩⟩<|fz (fu:=3) [some 56,some 57,some 58,some 59,some 60,some 61,some 62,some 63,some 64,some 65,some 66,some 67,some 68,none,some 69,none] [13,15] [.own 0,nI k,.own 0,nI (d.length-1-k),.own 0,nI (d.length-1-k),.elp 0 (d.length-1-k),.sc (.int .u8 (b.toNat:Int)),.own 0,nI k,.elp 0 k,.sc (.int .u8 (a.toNat:Int)),.elp 0 k,.any,.elp 0 (d.length-1-k),.any] [⟨[13],[(4,.own 0),(8,nI k),(9,nI (d.length-1-k)),(51,bT (decide (k<(d.length-1-k))))],[],[some ⟨5,1,bg (L.set k b),false⟩],[.own 0,nI k,.own 0,nI (d.length-1-k),.own 0,nI (d.length-1-k),.elp 0 (d.length-1-k),.sc (.int .u8 (b.toNat:Int)),.own 0,nI k,.elp 0 k,.sc (.int .u8 (a.toNat:Int)),.elp 0 k,.any,.elp 0 (d.length-1-k),.any]⟩] ⟨[15,13],[(4,.own 0),(8,nI k),(9,nI (d.length-1-k)),(51,bT (decide (k<(d.length-1-k))))],[],[some ⟨5,1,bg ((L.set k b).set (d.length-1-k) a),false⟩],[.own 0,nI k,.own 0,nI (d.length-1-k),.own 0,nI (d.length-1-k),.elp 0 (d.length-1-k),.sc (.int .u8 (b.toNat:Int)),.own 0,nI k,.elp 0 k,.sc (.int .u8 (a.toNat:Int)),.elp 0 k,.any,.elp 0 (d.length-1-k),.any]⟩ (by kernel_rfl) Z (by kernel_rfl) (by kernel_rfl) (by kernel_rfl) Z Z ?_ ?_
  ·refine .op [] (by kernel_rfl) ?_ ?_
   ·refine .ok (t:=.own 0) (by kernel_rfl) Z Z (aw Z Z)<|.no (by kernel_rfl)<|.no (by kernel_rfl)<|.nil
   refine .op [] (by kernel_rfl) ?_ ?_
   ·refine .ok (t:=nI k) (by kernel_rfl) Z Z (aw Z Z)<|.no (by kernel_rfl)<|.no (by kernel_rfl)<|.nil
   refine .op [] (by kernel_rfl) ?_ ?_
   ·refine .ok (t:=.own 0) (by kernel_rfl) Z Z (aw Z Z)<|.ok (t:=.own 0) (by kernel_rfl) Z Z (aw Z Z)<|.no (by kernel_rfl)<|.nil
   refine .op [] (by kernel_rfl) ?_ ?_
   ·refine .ok (t:=nI (d.length-1-k)) (by kernel_rfl) Z Z (aw Z Z)<|.ok (t:=nI (d.length-1-k)) (by kernel_rfl) Z Z (aw Z Z)<|.no (by kernel_rfl)<|.nil
   refine .op [] (by kernel_rfl) ?_ ?_
   ·refine .ok (t:=.own 0) (by kernel_rfl) Z Z (aw Z Z)<|.no (by kernel_rfl)<|.no (by kernel_rfl)<|.nil
   refine .op [] (by kernel_rfl) ?_ ?_
   ·refine .ok (t:=nI (d.length-1-k)) (by kernel_rfl) Z Z (aw Z Z)<|.no (by kernel_rfl)<|.no (by kernel_rfl)<|.nil
   refine .op [4,5] (by kernel_rfl) ?_ ?_
   ·refine .ok (t:=.elp 0 (d.length-1-k)) (by kernel_rfl) Z Z (gK (j:=(d.length-1-k)) Z df Z Z Z Z Z (by show _<(bg _).length;first|(rw[a7,f.1];omega)|(rw[a7,MU,f.1];omega)|(rw[a7,MU,MU,f.1];omega)) (Oh _))<|.no (by kernel_rfl)<|.no (by kernel_rfl)<|.nil
   refine .op [6] (by kernel_rfl) ?_ ?_
   ·refine .ok (t:=.sc (.int .u8 (b.toNat:Int))) (by kernel_rfl) Z Z (oh (c:=.sc (.int .u8 (b.toNat:Int))) (j:=(d.length-1-k)) (fo:=0) Z Z Z uK (KB P) (by simp) (by show 0<1;decide) Z)<|.no (by kernel_rfl)<|.no (by kernel_rfl)<|.nil
   refine .op [] (by kernel_rfl) ?_ ?_
   ·refine .ok (t:=.own 0) (by kernel_rfl) Z Z (aw Z Z)<|.no (by kernel_rfl)<|.no (by kernel_rfl)<|.nil
   refine .op [] (by kernel_rfl) ?_ ?_
   ·refine .ok (t:=nI k) (by kernel_rfl) Z Z (aw Z Z)<|.no (by kernel_rfl)<|.no (by kernel_rfl)<|.nil
   refine .op [8,9] (by kernel_rfl) ?_ ?_
   ·refine .ok (t:=.elp 0 k) (by kernel_rfl) Z Z (gK (j:=k) Z df Z Z Z Z Z (by show _<(bg _).length;first|(rw[a7,f.1];omega)|(rw[a7,MU,f.1];omega)|(rw[a7,MU,MU,f.1];omega)) (Oh _))<|.no (by kernel_rfl)<|.no (by kernel_rfl)<|.nil
   refine .op [10] (by kernel_rfl) ?_ ?_
   ·refine .ok (t:=.sc (.int .u8 (a.toNat:Int))) (by kernel_rfl) Z Z (oh (c:=.sc (.int .u8 (a.toNat:Int))) (j:=k) (fo:=0) Z Z Z uK (KB M) (by simp) (by show 0<1;decide) Z)<|.no (by kernel_rfl)<|.no (by kernel_rfl)<|.nil
   refine .op [0,1] (by kernel_rfl) ?_ ?_
   ·refine .ok (t:=.elp 0 k) (by kernel_rfl) Z Z (gK (j:=k) Z df Z Z Z Z Z (by show _<(bg _).length;first|(rw[a7,f.1];omega)|(rw[a7,MU,f.1];omega)|(rw[a7,MU,MU,f.1];omega)) (Oh _))<|.no (by kernel_rfl)<|.no (by kernel_rfl)<|.nil
   refine .op [7,12] (by kernel_rfl) ?_ ?_
   ·refine .wr 1 id .any (by kernel_rfl) Z Z (l6 (j:=k) Z Z Z Z (by simp) (by show _<(bg L).length;rw[a7,f.1];omega) Z Z Z Z Z uL Z (KD (KC _ _ _))) Z Z Z Z (.k Z (.k Z (.k Z (.k Z (.k Z (.k Z (.k Z (.k Z (.k Z (.k Z (.k Z (.k Z (.k Z (.i Z (.k Z (.k Z .nil))))))))))))))))<|.no (by kernel_rfl)<|.no (by kernel_rfl)<|.nil
   refine .op [2,3] (by kernel_rfl) ?_ ?_
   ·refine .no (by kernel_rfl)<|.ok (t:=.elp 0 (d.length-1-k)) (by kernel_rfl) Z Z (gK (j:=(d.length-1-k)) Z df Z Z Z Z Z (by show _<(bg _).length;first|(rw[a7,f.1];omega)|(rw[a7,MU,f.1];omega)|(rw[a7,MU,MU,f.1];omega)) (Oh _))<|.no (by kernel_rfl)<|.nil
   refine .op [11,14] (by kernel_rfl) ?_ ?_
   ·refine .no (by kernel_rfl)<|.wr 2 id .any (by kernel_rfl) Z Z (l6 (j:=(d.length-1-k)) Z Z Z Z (by simp) (by show _<(bg _).length;rw[a7,MU,f.1];omega) Z Z Z Z Z uL Z (KD (KC _ _ _))) Z Z Z Z (.k Z (.k Z (.k Z (.k Z (.k Z (.k Z (.k Z (.k Z (.k Z (.k Z (.k Z (.k Z (.k Z (.k Z (.k Z (.i Z .nil))))))))))))))))<|.no (by kernel_rfl)<|.nil
   exact .nil
  refine ae<|aa 1 Z<|af (t:=nI (k+1)) Z Z Z (ah (ai Z Z Z Zy) (bu (by omega)))<|aa 1 Z<|af (t:=nI ((d.length-1-k)-1)) Z Z Z (ah (ai Z Z Z Zy) (bu (by omega)))<|aa 2 Z<|ag<|⟨_,_,?_,⟨k+1,((L.set k b).set (d.length-1-k) a),?_,Z,Z⟩,⟨Z,Z,Z,.cons Z Z (.cons Z Z (.cons Z Z .nil)),Z⟩⟩
  ·omega
  exact⟨by omega,FA f (by omega) M P⟩
 refine aZ<|ab<|fD 0 (bs':=[]) (rs':=[none]) Z Z Z Z<|ae<|aa 1 Z<|af (t:=sT (⟨L.toArray⟩)) Z Z Z (pA Z Z)<|aa 1 Z<|ag<|aC<|⟨.inr Z,_,.cons Z .nil,(congrArg (fun F:List UInt8=>Tree.sc (.string ⟨F.toArray⟩)) (by rw[Hx f z,u];exact Dj n C)),Z⟩
def Js(base:Nat)(l:List Nat)(m a:Nat)(w:World)(e:Ending)(w':World):Prop:=
 ∃v' l',e=.returned v'/\OwnN w' base v' l'/\Digs l'/\aB l'=aB l*m+a/\l'.length<=l.length+1/\Below base w w'
def ScInv(base:Nat)(v:Value)(l:List Nat)(m a:Nat)(w:World)(c i:Value)(wr:World):Prop:=
 ∃(k cy:Nat) (lo:List Nat),k<=l.length/\i=.int .i64 k/\c=.int .u64 cy/\cy<4294967296/\lo.length=k/\Digs lo/\OwnN wr base v (lo++l.drop k)/\aB lo+4294967296^k*cy=aB (l.take k)*m+a/\Below base w wr/\w.heap.size<=wr.heap.size
theorem Dq{lo l:List Nat}{k g:Nat}(a:lo.length=k)(b:k<l.length):(lo++l.drop k).set k g=(lo++[g])++l.drop (k+1):=by
 subst a;rw[NK _ _ (L5 _),M4,Md b,Ms,MG];rfl
theorem As{base g d:Nat}{l lo:List Nat}{m a k f x t:Nat}{w wr:World}{z q i:Int}(j:k<l.length)(s:l[k]=x)(r:t=x*m+f)(e:t/4294967296<4294967296)(b:lo.length=k)(h:Digs lo)(c:OwnN wr base (.slice (some ⟨g,0,none⟩) l.length d) (lo++l.drop k))(D:aB lo+4294967296^k*f=aB (l.take k)*m+a)(v:Below base w wr)(y:w.heap.size<=wr.heap.size)(u:base<=g)
  (o:z=((t%4294967296:Nat):Int)) (A:q=((t/4294967296:Nat):Int)) (n:i=((k+1:Nat):Int)):ScInv base (.slice (some ⟨g,0,none⟩) l.length d) l m a w (.int .u64 q) (.int .i64 i) (wr.setCell ⟨g,k,none⟩ (.int .u32 z)):=by
 subst A n;refine⟨k+1,t/4294967296,lo++[t%4294967296],j,Z,Z,e,by simp[b],dO h (Ni _ (by decide)),?_,?_,v.setCell (p:=⟨g,k,none⟩) u _,by simpa[World.setCell]using y⟩
 ·have:=c.put (i:=k) (by simp[b];omega) z _ o;rw[Dq b j]at this;exact this
 rw[dm lo _ k b,cQ l k j,s,MM];generalize 4294967296^k=P at*;have C:P*(t%4294967296)+P*4294967296*(t/4294967296)=P*t:=by rw[Mu,<-MF,Nat.mod_add_div]
 have B:P*t=P*x*m+P*f:=by rw[r,MF,Mu]
 rw[M3];omega
theorem uM(base:Nat)(v:Value)(l:List Nat)(m a:Nat)(w:World)(h:OwnN w base v l)(E:Digs l)(hb:base<=w.heap.size)(hl:l.length<=1048576)(hm:m<4294967296)(ha:a<4294967296):
  Calls Tryz.prog 246 #[v,.int .u32 m,.int .u32 a] w (Js base l m a w):=by
 obtain⟨A,c,rfl,_⟩:=h.is E;have O:=J h;have S:=J E;clear h E
 go_enter Tryz.func246,Tryz.ntmps246
 go_wp2
 go_loopw [7,15] (fun cb i wr=>ScInv base (.slice A l.length c) l m a w cb i wr) (fun _ i _=>l.length-(intOf i).toNat)
 case atStart=>exact⟨0,a,[],Mx _,Z,Z,ha,Z,fun d E=>by simp at E,O.out,by simp[aB],Below.refl _ _,L5 _⟩
 case round=>
  obtain⟨k,r,lo,hk,rfl,rfl,z,I,C,j,G,F,D⟩:=hrel;have s:=J j;have V:=J G;have M:=J F;have b:=J I;have q:=J C;clear j G F I C;by_cases B:k<l.length
  ·obtain⟨g,a2,hv,hg,_⟩:=s.out.lies (by have:=b.out;simp;omega);injection hv with R Y P
   subst R P;have o:k<(lo++l.drop k).length:=by have:=b.out;simp;omega
   have u:=s.out.cell o;have a4:=s.out.free k;have K:(lo++l.drop k)[k]=l[k]:=by
    have h1:=b.out;rw[O3 (by omega),OS];congr 1;omega
   rw[K]at u;have n:l[k]<4294967296:=S.out _ (MY B);obtain⟨x,N⟩:∃x,l[k]=x:=⟨_,rfl⟩;rw[N]at u n;have HX:=J N;obtain⟨U,Q⟩:=vM (d:=0) n hm (by omega) z;obtain⟨L,f⟩:∃L,x*m=L:=⟨_,rfl⟩;have a1:(x:Int)*(m:Int)=(L:Int):=by rw[<-f];simp
   rw[f]at U Q;have W:=J f;have HG:=J hg;clear K N f Y o hg
   go_wp2
   go_roundw
   case rel=>exact As (t:=L+r) B HX.out (by rw[W.out]) (by omega) b.out q.out s.out V.out M.out D HG.out (by omega) (by omega) (by omega)
   case measure=>simp[intOf];omega
  obtain rfl:k=l.length:=by omega
  have H:Hid (OwnN wr base (.slice A l.length c) lo):=by have:=s.out;rwa[List.drop_length,MA]at this
  have y:Hid (aB lo+4294967296^l.length*r=aB l*m+a):=by have:=V.out;rwa[M9]at this
  have a3:lo.length<=1048576:=by have:=b.out;omega
  have T:base<=wr.heap.size:=L6 hb D;clear s V;by_cases h0:0<r
  ·go_wp2_with (at_builtin;refine fS base _ lo _ r (.tmp 37) (.tmp 40) rfl rfl rfl rfl H.out (by omega) (by omega) T ?_;intro v2 w2 e p;have X:=J e;have a0:=J p;clear e p)
   go_ret
   exact⟨v2,lo++[r],Z,X.out,dO q.out z,by rw[dm lo r _ b.out];exact y.out,by have:=b.out;simp;omega,M.out.trans a0.out.below⟩
  obtain rfl:r=0:=by omega
  go_wp2
  go_ret
  exact⟨_,lo,Z,H.out,q.out,by have:=y.out;omega,by have:=b.out;omega,M.out⟩
def dK(c:UInt8):Bool:=decide (48<=c.toNat)&&decide (c.toNat<=57)
def eB(l:List UInt8):Nat:=l.foldl (fun a c=>a*10+(c.toNat-48)) 0
theorem nL:∀(l:List UInt8) (a:Nat),l.foldl (fun a c=>a*10+(c.toNat-48)) a=a*10^l.length+eB l
 |[],a=>by simp[eB]
 |c::l,a=>by
  have b:=nL l (a*10+(c.toNat-48));have d:=nL l (0*10+(c.toNat-48));unfold eB at b⊢;rw[NH,NH,b,d,Mb,MM,M3,O7,M0,Mu,Mt 10,NT];rfl
theorem yb(a b:List UInt8):eB (a++b)=eB a*10^b.length+eB b:=by
 have h:=nL b (eB a);unfold eB at h⊢;rw[Pg];exact h
theorem Dr{l:List UInt8}{k:Nat}{c:UInt8}(h:l[k]? =some c):eB (l.take (k+1))=eB (l.take k)*10+(c.toNat-48):=by
 obtain⟨a,rfl⟩:=L7.1 h;rw[Mq a,yb];simp[eB]
theorem o5(l:List UInt8)(k j:Nat)(h:k+j<=l.length):eB (l.take (k+j))=eB (l.take k)*10^j+eB ((l.drop k).take j):=by
 rw[List.take_add,yb];congr 3;simp;omega
def Iv(s:ByteArray)(w:World)(v i:Value)(wr:World):Prop:=
 ∃(k:Nat) (l:List Nat),k<=s.size/\i=.int .i64 k/\OwnN wr w.heap.size v l/\Digs l/\aB l=eB (s.data.toList.take k)/\l.length<=k/\Below w.heap.size w wr
def PbInv(s:ByteArray)(W:World)(k:Nat)(vi va vp vj:Value)(wr:World):Prop:=
 ∃(j a p:Nat),j<=9/\k+j<=s.size/\vi=.int .i64 ((k+j:Nat):Int)/\va=.int .u32 a/\vp=.int .u32 p/\vj=.int .i64 j/\p=10^j/\a<p/\a=eB ((s.data.toList.drop k).take j)/\wr=W
theorem sW{s:ByteArray}{W:World}{k j a p:Nat}{c:UInt8}{x y z u:Int}(m:j<9)(o:k+j<s.size)(h:p=10^j)(n:a<p)(i:a=eB ((s.data.toList.drop k).take j))(d:s.data.toList[k+j]? =some c)(q:48<=c.toNat/\c.toNat<=57)
  (e:x=((k+(j+1):Nat):Int)) (g:y=((a*10+(c.toNat-48):Nat):Int)) (b:z=((p*10:Nat):Int)) (f:u=((j+1:Nat):Int)):PbInv s W k (.int .i64 x) (.int .u32 y) (.int .u32 z) (.int .i64 u) W:=by
 subst e g b f;refine⟨j+1,_,_,m,by omega,Z,Z,Z,Z,by rw[h,MM],by omega,?_,Z⟩;rw[i,Dr (l:=s.data.toList.drop k) (k:=j) (c:=c) (by rw[Nd];exact d)]
theorem Au(s:ByteArray)(w:World)(h1:1<=s.size)(h2:s.size<=4000)(hd:∀(k:Nat) (h:k<s.size),48<=s[k].toNat/\s[k].toNat<=57)(hc:1<s.size->∀h:0<s.size,s[0].toNat≠48):Calls Tryz.prog 211 #[.string s] w (Gives (fun W v=>∃a,v=.tuple #[a,.int .i64 0]/\IsD W a (eB s.data.toList)) w):=by
 have HD:=J hd;have a1:Hid (∀k (h:k<s.size),s.data.toList[k]? =some s[k]):=fun k h=>by
  rw[L4 (by rw[M7];exact h)];rfl
 clear hd;have e0:s.size=s.data.toList.length:=by rw[M7];rfl
 have E0:=J e0;clear e0
 go_enter Tryz.func211,Tryz.ntmps211
 have e1:¬(4000:Int)<(s.size:Int):=by omega
 have e2:((s.size:Int)==0)=false:=by simpa using(by omega:¬(s.size:Int)=0)
 have e5:(0:Int)<(s.size:Int):=by omega
 have y:∀(h:0<s.size),(1<s.size/\((s[0].toNat:Int)==48)=false)\/s.size=1:=fun h=>by
  rcases MI 1 s.size with O|O
  ·exact .inl ⟨O,by have:=hc O h;simpa using(by omega:¬(s[0].toNat:Int)=48)⟩
  exact .inr (by omega)
 rcases y (by omega)with⟨h3,h4⟩|h3
 ·have e3:(1:Int)<(s.size:Int):=by omega
  go_wp2
  clear e3 h3 h4 y hc
  go_loopw [4] (fun i wr=>wr=w/\∃k:Nat,k<=s.size/\i=.int .i64 k) (fun i _=>s.size-(intOf i).toNat)
  case atStart=>exact⟨Z,0,Mx _,Z⟩
  case round=>
   obtain⟨R,k,hk,rfl⟩:=hrel;obtain rfl:w=wr:=R.symm;by_cases o:k<s.size
   ·obtain⟨z,C⟩:=HD.out k o;have f1:¬((s[k].toNat:Int)<48):=by omega
    have f2:¬((57:Int)<(s[k].toNat:Int)):=by omega
    go_wp2
    go_roundw
    case rel=>first|exact⟨trivial,k+1,o,Z⟩|exact⟨Z,k+1,o,Z⟩
    case measure=>simp[intOf];omega
   obtain rfl:k=s.size:=by omega
   go_wp2
   go_loopw [5,6] (fun v i wr=>Iv s w v i wr) (fun _ i _=>s.size-(intOf i).toNat)
   case atStart=>exact⟨0,[],Mx _,Z,OwnN.nil _ _,fun d hd=>by simp at hd,Z,L5 _,Below.refl _ _⟩
   case round=>
    obtain⟨k,l,hk,rfl,q,H,b,b0,X⟩:=hrel;have HO:=J q;have V:=J b;have HL:=J H;have x:=J X;have I:=X.size;clear q b H X;by_cases o:k<s.size
    ·go_wp2
     rename World=>W
     go_loopw [6,7,8,9] (fun vi va vp vj wr=>PbInv s W k vi va vp vj wr) (fun _ _ _ j _=>9-(intOf j).toNat)
     case atStart=>exact⟨0,0,1,by omega,by omega,Z,Z,Z,Z,Z,by omega,by simp[eB],Z⟩
     case round=>
      obtain⟨j,a,Y,hj,G,rfl,rfl,rfl,rfl,N,ha,he,hW⟩:=hrel;subst hW;have L:=J N;have S:=J he;have a5:Y<=1000000000:=by rw[N];exact MP (by decide) hj
      clear N he;by_cases U:j<9/\k+j<s.size
      ·obtain⟨K,p⟩:=U;have a4:Y<=100000000:=by rw[L.out];exact MP (by decide) (show j<=8 by omega)
       obtain⟨z,C⟩:=HD.out (k+j) p;obtain⟨c,E⟩:∃c,s[k+j]=c:=⟨_,rfl⟩;have HC:=J (show s.data.toList[k+j]? =some c by rw[a1.out (k+j) p,E]);rw[E]at z C;have a2:(48:Int)<=(c.toNat:Int):=by omega
       have a0:(c.toNat:Int)<=57:=by omega
       go_wp2
       go_roundw
       case rel=>exact sW K p L.out ha S.out HC.out ⟨z,C⟩ (by omega) (by omega) (by omega) (by omega)
       case measure=>simp[intOf];omega
      have a9:0<j:=by omega
      have a3:¬((j:Int)<9/\((k+j:Nat):Int)<(s.size:Int)):=by omega
      have HS:=J (uM w.heap.size _ l Y a _ HO.out HL.out I (by omega) (by omega) (by omega));by_cases K:j<9
      ·have p:¬(k+j<s.size):=by omega
       go_wp2_with fail
       refine HS.out.mono ?_;rintro e w5 ⟨v5,M,rfl,n,m,f,Q,g⟩;have u:=J n;have r:=J f;have B:=J m;have t:=J g;clear n f m g
       go_wp2
       go_roundw
       case rel=>exact⟨k+j,M,G,Z,u.out,B.out,by rw[r.out,V.out,L.out,S.out,o5 _ _ _ (by have:=E0.out;omega)],by omega,x.out.trans t.out⟩
       case measure=>simp[intOf];omega
      go_wp2_with fail
      refine HS.out.mono ?_;rintro e w5 ⟨v5,M,rfl,n,m,f,Q,g⟩;have u:=J n;have r:=J f;have B:=J m;have t:=J g;clear n f m g
      go_wp2
      go_roundw
      case rel=>exact⟨k+j,M,G,Z,u.out,B.out,by rw[r.out,V.out,L.out,S.out,o5 _ _ _ (by have:=E0.out;omega)],by omega,x.out.trans t.out⟩
      case measure=>simp[intOf];omega
    obtain rfl:k=s.size:=by omega
    have b:aB l=eB s.data.toList:=by have O:=V.out;rwa[E0.out,M9]at O
    obtain⟨A,c,rfl,hi⟩:=HO.out.is HL.out;have HT:=J (oD hi Z (by omega) b);clear hi b
    go_wp2_with fail
    refine HT.out.mono ?_;rintro e w6 ⟨v6,rfl,F,D⟩;have P:=J F;have T:=J (ak x.out D I);clear F D
    go_wp2
    go_ret2
    exact⟨_,Z,⟨_,Z,P.out⟩,T.out⟩
 have e3:¬(1:Int)<(s.size:Int):=by omega
 go_wp2
 clear e3 h3 y hc
 go_loopw [4] (fun i wr=>wr=w/\∃k:Nat,k<=s.size/\i=.int .i64 k) (fun i _=>s.size-(intOf i).toNat)
 case atStart=>exact⟨Z,0,Mx _,Z⟩
 case round=>
  obtain⟨R,k,hk,rfl⟩:=hrel;obtain rfl:w=wr:=R.symm;by_cases o:k<s.size
  ·obtain⟨z,C⟩:=HD.out k o;have f1:¬((s[k].toNat:Int)<48):=by omega
   have f2:¬((57:Int)<(s[k].toNat:Int)):=by omega
   go_wp2
   go_roundw
   case rel=>first|exact⟨trivial,k+1,o,Z⟩|exact⟨Z,k+1,o,Z⟩
   case measure=>simp[intOf];omega
  obtain rfl:k=s.size:=by omega
  go_wp2
  go_loopw [5,6] (fun v i wr=>Iv s w v i wr) (fun _ i _=>s.size-(intOf i).toNat)
  case atStart=>exact⟨0,[],Mx _,Z,OwnN.nil _ _,fun d hd=>by simp at hd,Z,L5 _,Below.refl _ _⟩
  case round=>
   obtain⟨k,l,hk,rfl,q,H,b,b0,X⟩:=hrel;have HO:=J q;have V:=J b;have HL:=J H;have x:=J X;have I:=X.size;clear q b H X;by_cases o:k<s.size
   ·go_wp2
    rename World=>W
    go_loopw [6,7,8,9] (fun vi va vp vj wr=>PbInv s W k vi va vp vj wr) (fun _ _ _ j _=>9-(intOf j).toNat)
    case atStart=>exact⟨0,0,1,by omega,by omega,Z,Z,Z,Z,Z,by omega,by simp[eB],Z⟩
    case round=>
     obtain⟨j,a,Y,hj,G,rfl,rfl,rfl,rfl,N,ha,he,hW⟩:=hrel;subst hW;have L:=J N;have S:=J he;have a5:Y<=1000000000:=by rw[N];exact MP (by decide) hj
     clear N he;by_cases U:j<9/\k+j<s.size
     ·obtain⟨K,p⟩:=U;have a4:Y<=100000000:=by rw[L.out];exact MP (by decide) (show j<=8 by omega)
      obtain⟨z,C⟩:=HD.out (k+j) p;obtain⟨c,E⟩:∃c,s[k+j]=c:=⟨_,rfl⟩;have HC:=J (show s.data.toList[k+j]? =some c by rw[a1.out (k+j) p,E]);rw[E]at z C;have a2:(48:Int)<=(c.toNat:Int):=by omega
      have a0:(c.toNat:Int)<=57:=by omega
      go_wp2
      go_roundw
      case rel=>exact sW K p L.out ha S.out HC.out ⟨z,C⟩ (by omega) (by omega) (by omega) (by omega)
      case measure=>simp[intOf];omega
     have a9:0<j:=by omega
     have a3:¬((j:Int)<9/\((k+j:Nat):Int)<(s.size:Int)):=by omega
     have HS:=J (uM w.heap.size _ l Y a _ HO.out HL.out I (by omega) (by omega) (by omega));by_cases K:j<9
     ·have p:¬(k+j<s.size):=by omega
      go_wp2_with fail
      refine HS.out.mono ?_;rintro e w5 ⟨v5,M,rfl,n,m,f,Q,g⟩;have u:=J n;have r:=J f;have B:=J m;have t:=J g;clear n f m g
      go_wp2
      go_roundw
      case rel=>exact⟨k+j,M,G,Z,u.out,B.out,by rw[r.out,V.out,L.out,S.out,o5 _ _ _ (by have:=E0.out;omega)],by omega,x.out.trans t.out⟩
      case measure=>simp[intOf];omega
     go_wp2_with fail
     refine HS.out.mono ?_;rintro e w5 ⟨v5,M,rfl,n,m,f,Q,g⟩;have u:=J n;have r:=J f;have B:=J m;have t:=J g;clear n f m g
     go_wp2
     go_roundw
     case rel=>exact⟨k+j,M,G,Z,u.out,B.out,by rw[r.out,V.out,L.out,S.out,o5 _ _ _ (by have:=E0.out;omega)],by omega,x.out.trans t.out⟩
     case measure=>simp[intOf];omega
   obtain rfl:k=s.size:=by omega
   have b:aB l=eB s.data.toList:=by have O:=V.out;rwa[E0.out,M9]at O
   obtain⟨A,c,rfl,hi⟩:=HO.out.is HL.out;have HT:=J (oD hi Z (by omega) b);clear hi b
   go_wp2_with fail
   refine HT.out.mono ?_;rintro e w6 ⟨v6,rfl,F,D⟩;have P:=J F;have T:=J (ak x.out D I);clear F D
   go_wp2
   go_ret2
   exact⟨_,Z,⟨_,Z,P.out⟩,T.out⟩
theorem Ds(s:ByteArray)(c:1<=s.size)(m:s.size<=4000)(l:s.data.toList.all dK=true)(f:¬(1<s.size/\((s.data.toList[0]?).getD 0).toNat=48)):Ct 211 [sT s] (.tup [aM (eB s.data.toList),iT 0]):=dW (K:=fun W v=>∃a,v=.tuple #[a,.int .i64 0]/\IsD W a (eB s.data.toList)) ⟨_,Tryz.func211,Z,Z⟩ (fun G W v i h=>by
  obtain⟨a,rfl,c⟩:=h;exact .tup [a,.int .i64 0] _ ((ia i c).cons (.sc _ .nil)) .nil) fun G w vs _ _ g=>by
 obtain⟨u,rfl,d⟩:=cR g;cases d;have b:∀(k:Nat) (h:k<s.size),s.data.toList[k]? =some s[k]:=fun k h=>by
  rw[L4 (by rw[M7];exact h)];rfl
 refine Au s w c m (fun k h=>?_) (fun h j e=>?_)
 ·have:=Mh.1 l _ (L9 (b k h));unfold dK at this;simpa using this
 refine f ⟨h,?_⟩;rw[b 0 j];exact e
def lK(l:List UInt8):Int:=if l.any (fun c=>c==44||c==58)then((l.takeWhile fun c=> !(c==44||c==58)).length:Int)else-1
def tN(l:List UInt8):Bool:=l.all fun c=>decide (c.toNat<128)
theorem FE{l:List UInt8}(h:tN l=true):∀(j:Nat) b,l[j]? =some b->b.toNat<128:=fun _ b a=>of_decide_eq_true (Mh.1 h b (L9 a))
theorem FF{l:List UInt8}(h:tN l=true)(k:Nat):tN (l.drop k)=true:=Mh.2 fun x a=>Mh.1 h x (M2 a)
theorem FG{l:List UInt8}(h:tN l=true)(k:Nat):tN (l.take k)=true:=Mh.2 fun x a=>Mh.1 h x (MC a)
theorem uN:∀l:List UInt8,Lib.indexAny l [44,58]=lK l
 |[]=>rfl
 |b::l=>by
  have d:=uN l;unfold Lib.indexAny;rw[d];have e:([44,58]:List UInt8).contains b=(b==44||b==58):=by
   simp only[List.contains,List.elem];cases b==44<;>cases b==58<;>rfl
  rw[e];unfold lK;rw[Pm,Nh];cases h:(b==44||b==58)
  ·simp only[Qm,Bool.not_false,if_true,N9,if_false];by_cases a:l.any (fun c=>c==44||c==58)=true
   ·rw[if_pos a,if_pos a,if_neg (by simp)];simp
   rw[if_neg a,if_neg a,if_pos (by decide)]
  simp
theorem yc(s:ByteArray)(h:s.size<=1048576)(b:tN s.data.toList=true):Ct 140 [sT s,.sc (.string ⟨#[44,58]⟩)] (iT (lK s.data.toList)):=Ct.sc ⟨_,Tryz.func140,Z,Z⟩ fun G w vs _ _ a=>by
 obtain⟨u,x,rfl,d,c⟩:=eL a;cases d;cases c;have:=Any.strings_IndexAny_laid Tryz.lays153 (by kernel_rfl) s ⟨#[44,58]⟩ w (by omega) (by decide) (FE b) (FE (by decide));rw[<-uN];exact this
theorem lB(s p:ByteArray):Ct 77 [sT s,sT p] (bT (Lib.hasPrefix s.data.toList p.data.toList)):=Ct.sc ⟨_,Tryz.func77,Z,Z⟩ fun G w vs _ _ c=>by
 obtain⟨u,x,rfl,b,a⟩:=eL c;cases b;cases a;exact(Tryz.strings_HasPrefix s p w).mono fun _ _ ⟨b,a⟩=>⟨b,by rw[a];exact Below.refl _ _⟩
end Go.Proofs.YtfoejfohbkmmeaaGreatDoor
