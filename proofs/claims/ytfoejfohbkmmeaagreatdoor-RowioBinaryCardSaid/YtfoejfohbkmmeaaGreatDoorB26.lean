import Derived.Test.YtfoejfohbkmmeaaGreatDoorB25
import Derived.Test.YtfoejfohbkmmeaaGreatDoorB08
import Derived.Test.YtfoejfohbkmmeaaGreatDoorB00
import Derived.Test.YtfoejfohbkmmeaaGreatDoorB06
import Derived.Test.YtfoejfohbkmmeaaGreatDoorB13
import Derived.Test.YtfoejfohbkmmeaaGreatDoorB16
import Derived.Shelf.Strings.IndexAnyAll
set_option maxRecDepth 100000
set_option maxHeartbeats 8000000
namespace Go.Proofs.YtfoejfohbkmmeaaGreatDoor
open Go.RowKit
open Lib renaming hid→J
def fW(n:Nat):List UInt8:=if h:n=0 then []else UInt8.ofNat (48+n%10)::fW (n/10)
termination_by n
decreasing_by omega
theorem my:fW 0=[]:=by rw[fW];simp
theorem nQ{n:Nat}(h:0<n):fW n=UInt8.ofNat (48+n%10)::fW (n/10):=by rw[fW,dif_neg (by omega)]
theorem E3:∀n:Nat,0<n->(fW n).reverse=Lib.decDigits n:=by
 intro n;induction n using Nat.strongRecOn with
 |ind n ih=>
  intro h;rw[nQ h,Lib.decDigits,R3];split
  ·next h9=>
   rw[show n/10=0 by omega,my,show n%10=n by omega];rfl
  next h9=>rw[ih (n/10) (by omega) (by omega)]
theorem wu:∀(k n:Nat),n<10^k->(fW n).length<=k
 |0,n,h=>by
  have:n=0:=by simpa using h
  subst this;rw[my];exact Oh _
 |k+1,n,h=>by
  rcases Pg n with rfl|a
  ·rw[my];simp
  rw[nQ a,Oi];have:=wu k (n/10) (by rw[OO]at h;omega);omega
theorem ua{n L:Nat}(h:(az n).length<=L):(fW n).length<=10*L:=by
 refine wu _ _ ?_;have a:=cf (az n) (cE n);rw[aS]at a;have b:(4294967296:Nat)^(az n).length<=(10^10)^(az n).length:=RQ (by decide) _;have c:(10^10:Nat)^(az n).length<=(10^10)^L:=OQ (by decide) h;rw[QG];omega
theorem Ie{n:Nat}(h:0<n):1<=(fW n).length:=by rw[nQ h];simp
theorem Cj{b:List UInt8}{q i g n:Nat}(k:i<9)(c:g<10^(9-i))(j:0<g\/0<q)(h:b++fW (q*10^(9-i)+g)=fW n):g/10<10^(9-(i+1))/\(b++[UInt8.ofNat (48+g%10)])++fW (q*10^(9-(i+1))+g/10)=fW n:=by
 have e:10^(9-i)=10^(9-(i+1))*10:=by rw[<-OO];congr 1;omega
 rw[e]at c h;have f:0<10^(9-(i+1)):=Pw (by decide);obtain⟨P,d⟩:∃P,10^(9-(i+1))=P:=⟨_,rfl⟩;rw[d]at c h f⊢;have a:0<q*(P*10)+g:=by
  rcases j with h|h
  ·omega
  have:0<q*(P*10):=QZ h (by omega);omega
 rw[<-OL]at h a;rw[nQ a,show(q*P*10+g)%10=g%10 by omega,show(q*P*10+g)/10=q*P+g/10 by omega]at h;exact⟨by omega,by rw[<-h];simp⟩
theorem E4{a:List UInt8}{q i g n:Nat}(d:i<=9)(b:g<10^(9-i))(e:¬(i<9/\(0<g\/0<q)))(h:a++fW (q*10^(9-i)+g)=fW n):a++fW q=fW n:=by
 by_cases c:i=9
 ·subst c;have:g=0:=by simpa using b
  subst this;simpa using h
 have:g=0/\q=0:=by omega
 obtain⟨rfl,rfl⟩:=this;simpa using h
theorem pY{q:Nat}:0<(az q).length↔0<q:=by
 have:=b6 (n:=q);omega
def E5(l L:List UInt8)(k:Nat):Prop:=L.length=l.length/\∀t:Nat,L[t]? =if t<k\/l.length-k<=t then l.reverse[t]? else l[t]?
theorem Ig{l L:List UInt8}{k:Nat}{a b:UInt8}(h:E5 l L k)(o:k<l.length-1-k)(j:L[k]? =some a)(m:L[l.length-1-k]? =some b):E5 l ((L.set k b).set (l.length-1-k) a) (k+1):=by
 obtain⟨n,e⟩:=h;refine⟨by simp[n],fun t=>?_⟩;have d:=(e k).symm.trans j;have c:=(e (l.length-1-k)).symm.trans m;rw[if_neg (by omega)]at d c;rw[Re,Re,O4];by_cases i:l.length-1-k=t
 ·subst i;rw[if_pos Z,if_pos (by omega),if_pos (by omega),RI (by omega),show l.length-1-(l.length-1-k)=k by omega,d]
 rw[if_neg i];by_cases g:k=t
 ·subst g;rw[if_pos Z,if_pos (by omega),if_pos (by omega),RI (by omega),c]
 rw[if_neg g,e t];by_cases f:t<k\/l.length-k<=t
 ·rw[if_pos f,if_pos (by omega)]
 rw[if_neg f,if_neg (by omega)]
theorem Kv{l L:List UInt8}{k:Nat}(h:E5 l L k)(a:¬k<l.length-1-k):L=l.reverse:=by
 apply QT;intro t;rw[h.2 t];split
 ·rfl
 next h3=>
 have:t=l.length-1-t:=by omega
 rw[RI (by omega),<-this]
theorem E6(l:List UInt8):E5 l l 0:=⟨Z,fun t=>by
 split
 ·next h=>
  rw[Pi (by omega),Pi (by simp;omega)]
 rfl⟩
theorem DZ{l L:List UInt8}{k t:Nat}(h:E5 l L k)(a:t<l.length):∃c,L[t]? =some c:=⟨_,Og (by rw[h.1];exact a)⟩
theorem Ng{L:List UInt8}{t:Nat}{c:UInt8}(h:L[t]? =some c):(am L)[t]? =some (.sc (.int .u8 c.toNat)):=by
 unfold am;rw[O2,h];rfl
theorem Nh(L:List UInt8)(t:Nat)(c:UInt8):(am L).set t (.sc (.int .u8 c.toNat))=am (L.set t c):=by unfold am;rw[SH]
theorem Ni{e sz:Nat}{b:Bool}{es a:List Tree}(h:es=a):[some (⟨e,sz,es,b⟩:Row)]=[some ⟨e,sz,a,b⟩]:=by rw[h]
theorem E7{x y:Operand}(a:Nat)(w:World):(do eqGuard .rem 50 x y (.int .u32 (a:Nat)) (.int .u32 10);binOp .rem 50 (.int .u32 (a:Nat)) (.int .u32 10):Sem Value).run Tryz.prog w=.ok (.int .u32 ((a%10:Nat):Int)) w:=by
 go_simp;rw[Qz (by omega)]
theorem E8{x y:Operand}(a:Nat)(h:a<4294967296)(w:World):(do eqGuard .quo 50 x y (.int .u32 (a:Nat)) (.int .u32 10);binOp .quo 50 (.int .u32 (a:Nat)) (.int .u32 10):Sem Value).run Tryz.prog w=.ok (.int .u32 ((a/10:Nat):Int)) w:=by
 go_simp;rw[Qq];omega
theorem Kw{a:Int}{m:Nat}(h:a=m)(b:m<4294967296):(Tree.sc (.int .u32 (IntKind.u32.wrap a)))=.sc (.int .u32 ((m:Nat):Int)):=by
 subst h;rw[Qq];congr 2;omega
theorem Mh{m:Nat}(a:m<256):(Tree.sc (.int .u8 (IntKind.u8.wrap ((m:Nat):Int))))=.sc (.int .u8 ((UInt8.ofNat m).toNat:Nat)):=by
 rw[RO];congr 2
theorem Ih(n d:Nat)(h:(az n).length<=1048576)(g:0<d)(b:d<4294967296):Ct 173 [aG n,.sc (.int .u32 (d:Nat))] (.tup [aG (n/d),.sc (.int .u32 ((n%d:Nat):Int))]):=fp (K:=QD n d) ⟨_,Tryz.func173,Z,Z⟩ (fun G W v e h=>by
  obtain⟨a,rfl,c⟩:=h;exact .tup [a,.int .u32 _] _ ((fQ e c).cons (.sc _ .nil)) .nil) fun G w vs _ _ f=>by
 obtain⟨u,v,rfl,c,i⟩:=dO f;cases i;exact vM (d9 c) h g b
theorem zU(a:List UInt8)(c:UInt8):am (a++[c])=am a++[.sc (.int .u8 c.toNat)]:=by simp[am]
theorem Ii{m n L:Nat}(h:(az n).length<=L)(a:m<=n):(az m).length<=L:=Oq (bi a) h
theorem aT:jP Tryz.prog 22=some (5,1,1):=by kernel_rfl
theorem aP:gS Tryz.prog 22=some (5,1):=by kernel_rfl
theorem lr:ja Tryz.prog 5=true:=by kernel_rfl
theorem lw:(Tryz.prog.info? 5).map (·.size)=some 1:=by kernel_rfl
theorem ch:Tryz.prog.underlying 5=some (.int .u8):=by kernel_rfl
theorem cI:Tryz.prog.underlying 50=some (.int .u32):=by kernel_rfl
theorem cR:gJ Tryz.prog 5=some [.int .u8 0]:=by kernel_rfl
theorem ub(n:Nat)(D:(az n).length<=262144):Ct 108 [aG n] (.sc (.string ⟨(Lib.decDigits n).toArray⟩)):=by
 refine Ct.of (n:=72) Tryz.func108 Z Z Z Z Z fun w0 G0=>?_
 refine ab<|aj 1 Z<|ab<|ae<|aa 1 Z<|ag Z Z Z (ak Z (tF n (Oq D (by decide))) Z Z)<|aa 1 Z<|af<|ab<|ab<|ae<|aa 1 Z<|ag (t:=nI ((az n).length)) Z Z Z (ah (aW Z bN Z) (by simp only[Ol]))<|ag (t:=bT (decide ((az n).length=0))) Z Z Z (ah (ai Z Z Z Zy) (au (iF ((az n).length) 0)))<|af<|aD Z (fun v=>?_) (fun v=>?_)
 ·refine ab<|aj 1 Z<|ax<|⟨.inr Z,_,.cons Z .nil,(congrArg (fun I:List UInt8=>Tree.sc (.string ⟨I.toArray⟩)) (by rw[b6.1 v,Lib.decDigits];rfl)),Z⟩
 refine ar<|ab<|ae<|fY (k:=0) (e:=5) (sz:=1) (rs':=[some ⟨5,1,am [],false⟩]) (.inr Z) Z Z Z Z Z<|af<|ab<|aA<|aO (fun r s=>∃(m:Nat) (d:List UInt8),(m<=n/\d++fW m=fW n)/\r=m+1/\s=⟨72,[(3,.sl ((az m).map eP)),(4,.own 0)],[],[some ⟨5,1,am d,false⟩]⟩) 0 1 ⟨n,[],⟨Oh _,Z⟩,Z,Z⟩ .rf ?_;rintro r s ⟨m,d,⟨H,o⟩,rfl,rfl⟩;refine ab<|ab<|ae<|aa 1 Z<|ag (t:=nI ((az m).length)) Z Z Z (ah (aW Z bN Z) (by simp only[Ol]))<|ag (t:=bT (decide (0<(az m).length))) Z Z Z (ah (ai Z Z Z Zy) (au (qH ((az m).length) 0)))<|af<|aD Z (fun y=>?_) (fun y=>?_)
 ·have A:0<m:=pY.1 y;have F:(az m).length<=1048576:=Oq (Ii D H) (by decide);refine ar<|aA<|ab<|ae<|aa 1 Z<|ag Z Z Z (ak Z (Ih m 1000000000 F (by decide) (by decide)) Z Z)<|aa 5 Z<|af<|ab<|aj 2 Z<|ab<|aj 1 Z<|aA<|aO (fun r s=>∃(i:Nat) (g:Nat) (h:List UInt8),(i<=9/\g<10^(9-i)/\h++fW (m/1000000000*10^(9-i)+g)=fW n)/\r=9-i/\s=⟨72,[(3,.sl ((az (m/1000000000)).map eP)),(4,.own 0),(6,.sc (.int .u32 ((g:Nat):Int))),(7,nI i)],[],[some ⟨5,1,am h,false⟩]⟩) 0 1 ⟨0,(m%1000000000),d,⟨by omega,Pe _ (by decide),by show d++fW (m/1000000000*1000000000+m%1000000000)=fW n;rw[Nat.div_add_mod'];exact o⟩,Z,Z⟩ .rf ?_;rintro r s ⟨i,g,h,⟨R,G,Q⟩,rfl,rfl⟩;refine ab<|ab<|ae<|aa 1 Z<|ag (t:=bT (decide (i<9))) Z Z Z (ah (ai Z Z Z Zy) (au (gK i 9)))<|aa 1 Z<|aw (t:=.sc (.int .u32 ((g:Nat):Int))) Z Z Z Z (fun l=>av Z Z)<|aw (t:=bT (decide (0<g))) Z Z Z Z (fun l=>ah (ai Z (if_pos l) Z (fun _=>rfl)) (au (qH g 0)))<|aw (t:=bT (decide (0<g))) Z Z Z Z (fun l=>av Z (if_pos l))<|ce (t:=.sl ((az (m/1000000000)).map eP)) Z Z Z Z (fun l=>av Z Z)<|ce (t:=nI ((az (m/1000000000)).length)) Z Z Z Z (fun l=>ah (aW Z bN (if_pos l)) (by simp only[Ol]))<|ce (t:=bT (decide (0<(az (m/1000000000)).length))) Z Z Z Z (fun l=>ah (ai Z (if_pos l) Z (fun _=>rfl)) (au (qH ((az (m/1000000000)).length) 0)))<|aw (t:=bT ((decide (0<g))||(decide (0<(az (m/1000000000)).length)))) Z Z Z Z (fun l=>aL Z (if_pos l) (fun p=>(au (by rw[p];rfl))) (fun p=>(if_pos ⟨l,p⟩).trans (au (by rw[p];rfl))))<|ag (t:=bT ((decide (i<9))&&((decide (0<g))||(decide (0<(az (m/1000000000)).length))))) Z Z Z (aL Z Z (fun p=>(if_pos p).trans (au (by rw[p];rfl))) (fun p=>(au (by rw[p];rfl))))<|af<|aH Z (fun q=>?_) (fun q=>?_)
  ·have E:i<9/\(0<g\/0<m/1000000000):=by
    rw[Oo,Px,decide_eq_true_eq,decide_eq_true_eq,decide_eq_true_eq,pY]at q;exact q
   have z:g<4294967296:=Oz G (Oq (OQ (by decide) (show 9-i<=9 by omega)) (by decide));have u:=Cj E.1 G E.2 Q;have N:h.length+1<=2621440:=by
    have P:=ua D;rw[<-u.2]at P;simp only[Oj,PO]at P;omega
   refine ar<|ab<|aA<|ab<|ae<|aa 2 rfl<|ag (t:=.sc (.int .u32 ((g%10:Nat):Int))) rfl rfl rfl (ai rfl rfl rfl (fun w=>E7 g w))<|ag (t:=.sc (.int .u32 ((48+g%10:Nat):Int))) rfl rfl rfl (ah (ai rfl rfl rfl Zy) (Kw (by omega) (by omega)))<|ag (t:=.sc (.int .u8 ((UInt8.ofNat (48+g%10)).toNat:Int))) rfl rfl rfl (ah (bM rfl cI ch rfl) ((Mh (by omega))))<|ag (t:=.sl [.sc (.int .u8 ((UInt8.ofNat (48+g%10)).toNat:Int))]) rfl rfl rfl (aN rfl aP cR rfl (by decide) (by decide) rfl rfl rfl rfl rfl)<|a8 (bs':=[]) (rs':=[some ⟨5,1,am (h++[UInt8.ofNat (48+g%10)]),false⟩]) rfl rfl rfl rfl aT rfl rfl rfl rfl (by intro e O;simp only[OC,O8,or_false]at O;subst O;rfl) (AllC.lit rfl) (AllC.lit rfl) (by simp only[aC,Oi,Ou];omega) rfl rfl rfl (by rw[zU];rfl)<|aa 1 rfl<|af<|ae<|aa 1 rfl<|ag (t:=.sc (.int .u32 ((g/10:Nat):Int))) rfl rfl rfl (ai rfl rfl rfl (fun w=>E8 g z w))<|aa 1 rfl<|af<|ae<|aa 1 rfl<|ag (t:=nI (i+1)) rfl rfl rfl (ah (ai rfl rfl rfl Zy) (bp (by omega)))<|aa 1 rfl<|af<|⟨_,_,?_,⟨i+1,g/10,(h++[UInt8.ofNat (48+g%10)]),?_,rfl,rfl⟩,.rf⟩
   ·omega
   exact⟨by omega,u.1,u.2⟩
  have E:¬(i<9/\(0<g\/0<m/1000000000)):=by
   rw[P6,OH,decide_eq_false_iff_not,decide_eq_false_iff_not,decide_eq_false_iff_not,pY]at q;omega
  refine aQ<|⟨_,_,?_,⟨(m/1000000000),h,?_,Z,Z⟩,.rf⟩
  ·omega
  exact⟨by omega,E4 R G E Q⟩
 have A:m=0:=by have:=mt pY.2 y;omega
 subst A;have x:d=fW n:=by rw[my,O5]at o;exact o
 have B:0<n:=Pc fun e=>v (b6.2 e)
 have S:1<=d.length:=by rw[x];exact Ie B
 have M:d.length<=2621440:=by rw[x];exact ua D
 refine aQ<|ab<|ab<|ae<|aa 1 Z<|ag (t:=nI d.length) Z Z Z (ah (sL Z aP Z Z) (by simp only[Ol,aC]))<|ag (t:=nI (d.length-1)) Z Z Z (ah (ai Z Z Z Zy) (bp (by omega)))<|aa 2 Z<|af<|aA<|aO (fun r s=>∃(k:Nat) (L:List UInt8),(k<=d.length-1-k+1/\E5 d L k)/\r=d.length-k/\s=⟨72,[(4,.own 0),(8,nI k),(9,nI (d.length-1-k))],[],[some ⟨5,1,am L,false⟩]⟩) 0 1 ⟨0,d,⟨by omega,E6 _⟩,Z,Z⟩ .rf ?_;rintro r s ⟨k,L,⟨T,f⟩,rfl,rfl⟩;refine ab<|ab<|ae<|aa 2 Z<|ag (t:=bT (decide (k<(d.length-1-k)))) Z Z Z (ah (ai Z Z Z Zy) (au (gK k ((d.length-1-k)))))<|af<|aD Z (fun C=>?_) (fun C=>?_)
 ·obtain⟨a,J⟩:=DZ (t:=k) f (by omega);obtain⟨b,K⟩:=DZ (t:=d.length-1-k) f (by omega);refine ar<|ab<|aA<|eH (sl':=[(4,.own 0),(8,nI k),(9,nI (d.length-1-k)),(51,bT (decide (k<(d.length-1-k))))]) ⟨Z,⟨Z,⟨Z,⟨Z,trivial⟩⟩⟩⟩<|di (fu:=3) [some 56,some 57,some 58,some 59,some 60,some 61,some 62,some 63,some 64,some 65,some 66,some 67,some 68,none,some 69,none] [13,15] [.own 0,nI k,.own 0,nI (d.length-1-k),.own 0,nI (d.length-1-k),.elp 0 (d.length-1-k),.sc (.int .u8 (b.toNat:Int)),.own 0,nI k,.elp 0 k,.sc (.int .u8 (a.toNat:Int)),.elp 0 k,.any,.elp 0 (d.length-1-k),.any] [⟨[13],[(4,.own 0),(8,nI k),(9,nI (d.length-1-k)),(51,bT (decide (k<(d.length-1-k))))],[],[some ⟨5,1,am (L.set k b),false⟩],[.own 0,nI k,.own 0,nI (d.length-1-k),.own 0,nI (d.length-1-k),.elp 0 (d.length-1-k),.sc (.int .u8 (b.toNat:Int)),.own 0,nI k,.elp 0 k,.sc (.int .u8 (a.toNat:Int)),.elp 0 k,.any,.elp 0 (d.length-1-k),.any]⟩] ⟨[15,13],[(4,.own 0),(8,nI k),(9,nI (d.length-1-k)),(51,bT (decide (k<(d.length-1-k))))],[],[some ⟨5,1,am ((L.set k b).set (d.length-1-k) a),false⟩],[.own 0,nI k,.own 0,nI (d.length-1-k),.own 0,nI (d.length-1-k),.elp 0 (d.length-1-k),.sc (.int .u8 (b.toNat:Int)),.own 0,nI k,.elp 0 k,.sc (.int .u8 (a.toNat:Int)),.elp 0 k,.any,.elp 0 (d.length-1-k),.any]⟩ (by kernel_rfl) Z (by kernel_rfl) (by kernel_rfl) (by kernel_rfl) Z Z ?_ ?_
  ·refine .opp [] (.okk Z (av Z Z)<|.fin)<|.opp [] (.okk Z (av Z Z)<|.fin)<|.opp [] (.okk Z (av Z Z)<|.okk Z (av Z Z)<|.fin)<|.opp [] (.okk Z (av Z Z)<|.okk Z (av Z Z)<|.fin)<|.opp [] (.okk Z (av Z Z)<|.fin)<|.opp [] (.okk Z (av Z Z)<|.fin)<|.opp [4,5] (.okk Z (fk (j:=(d.length-1-k)) Z aP Z Z Z Z Z (by show _<(am _).length;first|(rw[aC,f.1];omega)|(rw[aC,O4,f.1];omega)|(rw[aC,O4,O4,f.1];omega)) (Qc _))<|.fin)<|.opp [6] (.okk Z (pd (c:=.sc (.int .u8 (b.toNat:Int))) (j:=(d.length-1-k)) (fo:=0) Z Z Z lr (Ng K) (by simp) (by show 0<1;decide) Z)<|.fin)<|.opp [] (.okk Z (av Z Z)<|.fin)<|.opp [] (.okk Z (av Z Z)<|.fin)<|.opp [8,9] (.okk Z (fk (j:=k) Z aP Z Z Z Z Z (by show _<(am _).length;first|(rw[aC,f.1];omega)|(rw[aC,O4,f.1];omega)|(rw[aC,O4,O4,f.1];omega)) (Qc _))<|.fin)<|.opp [10] (.okk Z (pd (c:=.sc (.int .u8 (a.toNat:Int))) (j:=k) (fo:=0) Z Z Z lr (Ng J) (by simp) (by show 0<1;decide) Z)<|.fin)<|.opp [0,1] (.okk Z (fk (j:=k) Z aP Z Z Z Z Z (by show _<(am _).length;first|(rw[aC,f.1];omega)|(rw[aC,O4,f.1];omega)|(rw[aC,O4,O4,f.1];omega)) (Qc _))<|.fin)<|.opp [7,12] (.wr 1 id .any (by kernel_rfl) Z Z (m6 (j:=k) Z Z Z Z (by simp) (by show _<(am L).length;rw[aC,f.1];omega) Z Z Z Z Z lw Z (Ni (Nh _ _ _))) Z Z Z Z (.k Z (.k Z (.k Z (.k Z (.k Z (.k Z (.k Z (.k Z (.k Z (.k Z (.k Z (.k Z (.k Z (.i Z (.k Z (.k Z .nil))))))))))))))))<|.fin)<|.opp [2,3] (.no (by kernel_rfl)<|.okk Z (fk (j:=(d.length-1-k)) Z aP Z Z Z Z Z (by show _<(am _).length;first|(rw[aC,f.1];omega)|(rw[aC,O4,f.1];omega)|(rw[aC,O4,O4,f.1];omega)) (Qc _))<|.fin)<|.opp [11,14] (.no (by kernel_rfl)<|.wr 2 id .any (by kernel_rfl) Z Z (m6 (j:=(d.length-1-k)) Z Z Z Z (by simp) (by show _<(am _).length;rw[aC,O4,f.1];omega) Z Z Z Z Z lw Z (Ni (Nh _ _ _))) Z Z Z Z (.k Z (.k Z (.k Z (.k Z (.k Z (.k Z (.k Z (.k Z (.k Z (.k Z (.k Z (.k Z (.k Z (.k Z (.k Z (.i Z .nil))))))))))))))))<|.fin)<|.nil
  refine ae<|aa 1 Z<|ag (t:=nI (k+1)) Z Z Z (ah (ai Z Z Z Zy) (bp (by omega)))<|aa 1 Z<|ag (t:=nI ((d.length-1-k)-1)) Z Z Z (ah (ai Z Z Z Zy) (bp (by omega)))<|aa 2 Z<|af<|⟨_,_,?_,⟨k+1,((L.set k b).set (d.length-1-k) a),?_,Z,Z⟩,.rf⟩
  ·omega
  exact⟨by omega,Ig f (by omega) J K⟩
 refine aQ<|ab<|dI 0 (bs':=[]) (rs':=[none]) Z Z Z Z<|ae<|aa 1 Z<|ag (t:=sT (⟨L.toArray⟩)) Z Z Z (gM Z Z)<|aa 1 Z<|af<|ax<|⟨.inr Z,_,.cons Z .nil,(congrArg (fun I:List UInt8=>Tree.sc (.string ⟨I.toArray⟩)) (by rw[Kv f C,x];exact E3 n B)),Z⟩
def Mi(base:Nat)(l:List Nat)(m a:Nat)(w:World)(e:Ending)(w':World):Prop:=
 ∃v' l',e=.returned v'/\OwnN w' base v' l'/\Digs l'/\aE l'=aE l*m+a/\l'.length<=l.length+1/\Below base w w'
def ScInv(base:Nat)(v:Value)(l:List Nat)(m a:Nat)(w:World)(c i:Value)(wr:World):Prop:=
 ∃(k cy:Nat) (lo:List Nat),k<=l.length/\i=.int .i64 k/\c=.int .u64 cy/\cy<4294967296/\lo.length=k/\Digs lo/\OwnN wr base v (lo++l.drop k)/\aE lo+4294967296^k*cy=aE (l.take k)*m+a/\Below base w wr/\w.heap.size<=wr.heap.size
theorem E9{lo l:List Nat}{k g:Nat}(a:lo.length=k)(b:k<l.length):(lo++l.drop k).set k g=(lo++[g])++l.drop (k+1):=by
 subst a;rw[P5 _ _ (Oh _),Pb,Ow b,Qe,O0];rfl
theorem Ck{base g d:Nat}{l lo:List Nat}{m a k h x t:Nat}{w wr:World}{z q i:Int}(e:k<l.length)(u:l[k]=x)(v:t=x*m+h)(f:t/4294967296<4294967296)(b:lo.length=k)(j:Digs lo)(c:OwnN wr base (.slice (some ⟨g,0,none⟩) l.length d) (lo++l.drop k))(B:aE lo+4294967296^k*h=aE (l.take k)*m+a)(s:Below base w wr)(y:w.heap.size<=wr.heap.size)(o:base<=g)
  (r:z=((t%4294967296:Nat):Int)) (A:q=((t/4294967296:Nat):Int)) (n:i=((k+1:Nat):Int)):ScInv base (.slice (some ⟨g,0,none⟩) l.length d) l m a w (.int .u64 q) (.int .i64 i) (wr.setCell ⟨g,k,none⟩ (.int .u32 z)):=by
 subst A n;refine⟨k+1,t/4294967296,lo++[t%4294967296],e,Z,Z,f,by simp[b],eA j (Pe _ (by decide)),?_,?_,s.setCell (p:=⟨g,k,none⟩) o _,by simpa[World.setCell]using y⟩
 ·have:=c.put (i:=k) (by simp[b];omega) z _ r;rw[E9 b e]at this;exact this
 rw[dY lo _ k b,dp l k e,u,OO];generalize 4294967296^k=P at*;have D:P*(t%4294967296)+P*4294967296*(t/4294967296)=P*t:=by rw[OL,<-OU,Nat.mod_add_div]
 have C:P*t=P*x*m+P*h:=by rw[v,OU,OL]
 rw[Pf];omega
theorem wv(base:Nat)(v:Value)(l:List Nat)(m a:Nat)(w:World)(h:OwnN w base v l)(B:Digs l)(hb:base<=w.heap.size)(hl:l.length<=1048576)(hm:m<4294967296)(ha:a<4294967296):
  Calls Tryz.prog 246 #[v,.int .u32 m,.int .u32 a] w (Mi base l m a w):=by
 obtain⟨A,c,rfl,_⟩:=h.is B;have P:=J h;have V:=J B;clear h B
 go_enter Tryz.func246,Tryz.ntmps246
 go_wp2
 go_loopw [7,15] (fun cb i wr=>ScInv base (.slice A l.length c) l m a w cb i wr) (fun _ i _=>l.length-(intOf i).toNat)
 case atStart=>exact⟨0,a,[],OA _,Z,Z,ha,Z,fun d B=>by simp at B,P.out,by simp[aE],Below.refl _ _,Oh _⟩
 case round=>
  obtain⟨k,r,lo,hk,rfl,rfl,E,I,D,n,z,C,u⟩:=hrel;have s:=J n;have Y:=J z;have M:=J C;have b:=J I;have q:=J D;clear n z C I D;by_cases F:k<l.length
  ·obtain⟨g,a3,hv,hg,_⟩:=s.out.lies (by have:=b.out;simp;omega);injection hv with X a0 R
   subst X R;have p:k<(lo++l.drop k).length:=by have:=b.out;simp;omega
   have H:=s.out.cell p;have a4:=s.out.free k;have G:(lo++l.drop k)[k]=l[k]:=by
    have h1:=b.out;rw[Rq (by omega),Rg];congr 1;omega
   rw[G]at H;have j:l[k]<4294967296:=V.out _ (Pm F);obtain⟨x,N⟩:∃x,l[k]=x:=⟨_,rfl⟩;rw[N]at H j;have HX:=J N;obtain⟨T,U⟩:=xN (d:=0) j hm (by omega) E;obtain⟨L,f⟩:∃L,x*m=L:=⟨_,rfl⟩;have a1:(x:Int)*(m:Int)=(L:Int):=by rw[<-f];simp
   rw[f]at T U;have W:=J f;have HG:=J hg;clear G N f a0 p hg
   go_wp2
   go_roundw
   case rel=>exact Ck (t:=L+r) F HX.out (by rw[W.out]) (by omega) b.out q.out s.out Y.out M.out u HG.out (by omega) (by omega) (by omega)
   case measure=>simp[intOf];omega
  obtain rfl:k=l.length:=by omega
  have y:Hid (OwnN wr base (.slice A l.length c) lo):=by have:=s.out;rwa[Sa,O5]at this
  have K:Hid (aE lo+4294967296^l.length*r=aE l*m+a):=by have:=Y.out;rwa[Pl]at this
  have a2:lo.length<=1048576:=by have:=b.out;omega
  have S:base<=wr.heap.size:=Oq hb u;clear s Y;by_cases h0:0<r
  ·go_wp2_with (at_builtin;refine gO base _ lo _ r (.tmp 37) (.tmp 40) rfl rfl rfl rfl y.out (by omega) (by omega) S ?_;intro v2 w2 e o;have Q:=J e;have O:=J o;clear e o)
   go_ret
   exact⟨v2,lo++[r],Z,Q.out,eA q.out E,by rw[dY lo r _ b.out];exact K.out,by have:=b.out;simp;omega,M.out.trans O.out.below⟩
  obtain rfl:r=0:=by omega
  go_wp2
  go_ret
  exact⟨_,lo,Z,y.out,q.out,by have:=K.out;omega,by have:=b.out;omega,M.out⟩
def ew(c:UInt8):Bool:=decide (48<=c.toNat)&&decide (c.toNat<=57)
def fa(l:List UInt8):Nat:=l.foldl (fun a c=>a*10+(c.toNat-48)) 0
theorem oJ:∀(l:List UInt8) (a:Nat),l.foldl (fun a c=>a*10+(c.toNat-48)) a=a*10^l.length+fa l
 |[],a=>by simp[fa]
 |c::l,a=>by
  have b:=oJ l (a*10+(c.toNat-48));have d:=oJ l (0*10+(c.toNat-48));unfold fa at b⊢;rw[Qk,Qk,b,d,Oi,OO,Pf,RK,Pk,OL,OF 10,P9];rfl
theorem zV(a b:List UInt8):fa (a++b)=fa a*10^b.length+fa b:=by
 have h:=oJ b (fa a);unfold fa at h⊢;rw[ST];exact h
theorem Fa{l:List UInt8}{k:Nat}{c:UInt8}(h:l[k]? =some c):fa (l.take (k+1))=fa (l.take k)*10+(c.toNat-48):=by
 obtain⟨a,rfl⟩:=Ok.1 h;rw[OM a,zV];simp[fa]
theorem pZ(l:List UInt8)(k j:Nat)(h:k+j<=l.length):fa (l.take (k+j))=fa (l.take k)*10^j+fa ((l.drop k).take j):=by
 rw[List.take_add,zV];congr 3;simp;omega
def Lk(s:ByteArray)(w:World)(v i:Value)(wr:World):Prop:=
 ∃(k:Nat) (l:List Nat),k<=s.size/\i=.int .i64 k/\OwnN wr w.heap.size v l/\Digs l/\aE l=fa (s.data.toList.take k)/\l.length<=k/\Below w.heap.size w wr
def PbInv(s:ByteArray)(W:World)(k:Nat)(vi va vp vj:Value)(wr:World):Prop:=
 ∃(j a p:Nat),j<=9/\k+j<=s.size/\vi=.int .i64 ((k+j:Nat):Int)/\va=.int .u32 a/\vp=.int .u32 p/\vj=.int .i64 j/\p=10^j/\a<p/\a=fa ((s.data.toList.drop k).take j)/\wr=W
theorem uc{s:ByteArray}{W:World}{k j a p:Nat}{c:UInt8}{x y z u:Int}(i:j<9)(o:k+j<s.size)(e:p=10^j)(n:a<p)(b:a=fa ((s.data.toList.drop k).take j))(h:s.data.toList[k+j]? =some c)(q:48<=c.toNat/\c.toNat<=57)
  (f:x=((k+(j+1):Nat):Int)) (m:y=((a*10+(c.toNat-48):Nat):Int)) (d:z=((p*10:Nat):Int)) (g:u=((j+1:Nat):Int)):PbInv s W k (.int .i64 x) (.int .u32 y) (.int .u32 z) (.int .i64 u) W:=by
 subst f m d g;refine⟨j+1,_,_,i,by omega,Z,Z,Z,Z,by rw[e,OO],by omega,?_,Z⟩;rw[b,Fa (l:=s.data.toList.drop k) (k:=j) (c:=c) (by rw[PB];exact h)]
theorem Cl(s:ByteArray)(w:World)(h1:1<=s.size)(h2:s.size<=4000)(hd:∀(k:Nat) (h:k<s.size),48<=s[k].toNat/\s[k].toNat<=57)(hc:1<s.size->∀h:0<s.size,s[0].toNat≠48):Calls Tryz.prog 211 #[.string s] w (gU (fun W v=>∃a,v=.tuple #[a,.int .i64 0]/\IsD W a (fa s.data.toList)) w):=by
 have HD:=J hd;have a2:Hid (∀k (h:k<s.size),s.data.toList[k]? =some s[k]):=fun k h=>by
  rw[Og (by rw[Po];exact h)];rfl
 clear hd;have e0:s.size=s.data.toList.length:=by rw[Po];rfl
 have E0:=J e0;clear e0
 go_enter Tryz.func211,Tryz.ntmps211
 have e1:¬(4000:Int)<(s.size:Int):=by omega
 have e2:((s.size:Int)==0)=false:=by simpa using(by omega:¬(s.size:Int)=0)
 have e5:(0:Int)<(s.size:Int):=by omega
 have z:∀(h:0<s.size),(1<s.size/\((s[0].toNat:Int)==48)=false)\/s.size=1:=fun h=>by
  rcases OS 1 s.size with S|S
  ·exact .inl ⟨S,by have:=hc S h;simpa using(by omega:¬(s[0].toNat:Int)=48)⟩
  exact .inr (by omega)
 rcases z (by omega)with⟨h3,h4⟩|h3
 ·have e3:(1:Int)<(s.size:Int):=by omega
  go_wp2
  clear e3 h3 h4 z hc
  go_loopw [4] (fun i wr=>wr=w/\∃k:Nat,k<=s.size/\i=.int .i64 k) (fun i _=>s.size-(intOf i).toNat)
  case atStart=>exact⟨Z,0,OA _,Z⟩
  case round=>
   obtain⟨V,k,hk,rfl⟩:=hrel;obtain rfl:w=wr:=V.symm;by_cases p:k<s.size
   ·obtain⟨y,C⟩:=HD.out k p;have f1:¬((s[k].toNat:Int)<48):=by omega
    have f2:¬((57:Int)<(s[k].toNat:Int)):=by omega
    go_wp2
    go_roundw
    case rel=>first|exact⟨trivial,k+1,p,Z⟩|exact⟨Z,k+1,p,Z⟩
    case measure=>simp[intOf];omega
   obtain rfl:k=s.size:=by omega
   go_wp2
   go_loopw [5,6] (fun v i wr=>Lk s w v i wr) (fun _ i _=>s.size-(intOf i).toNat)
   case atStart=>exact⟨0,[],OA _,Z,OwnN.nil _ _,fun d hd=>by simp at hd,Z,Oh _,Below.refl _ _⟩
   case round=>
    obtain⟨k,l,hk,rfl,q,F,b,a5,N⟩:=hrel;have HO:=J q;have U:=J b;have HL:=J F;have B:=J N;have E:=N.size;clear q b F N;by_cases p:k<s.size
    ·go_wp2
     rename World=>W
     go_loopw [6,7,8,9] (fun vi va vp vj wr=>PbInv s W k vi va vp vj wr) (fun _ _ _ j _=>9-(intOf j).toNat)
     case atStart=>exact⟨0,0,1,by omega,by omega,Z,Z,Z,Z,Z,by omega,by simp[fa],Z⟩
     case round=>
      obtain⟨j,a,Q,hj,H,rfl,rfl,rfl,rfl,Y,ha,he,hW⟩:=hrel;subst hW;have L:=J Y;have R:=J he;have a9:Q<=1000000000:=by rw[Y];exact OQ (by decide) hj
      clear Y he;by_cases M:j<9/\k+j<s.size
      ·obtain⟨I,o⟩:=M;have a4:Q<=100000000:=by rw[L.out];exact OQ (by decide) (show j<=8 by omega)
       obtain⟨y,C⟩:=HD.out (k+j) o;obtain⟨c,K⟩:∃c,s[k+j]=c:=⟨_,rfl⟩;have HC:=J (show s.data.toList[k+j]? =some c by rw[a2.out (k+j) o,K]);rw[K]at y C;have a3:(48:Int)<=(c.toNat:Int):=by omega
       have a0:(c.toNat:Int)<=57:=by omega
       go_wp2
       go_roundw
       case rel=>exact uc I o L.out ha R.out HC.out ⟨y,C⟩ (by omega) (by omega) (by omega) (by omega)
       case measure=>simp[intOf];omega
      have b0:0<j:=by omega
      have a1:¬((j:Int)<9/\((k+j:Nat):Int)<(s.size:Int)):=by omega
      have HS:=J (wv w.heap.size _ l Q a _ HO.out HL.out E (by omega) (by omega) (by omega));by_cases I:j<9
      ·have o:¬(k+j<s.size):=by omega
       go_wp2_with fail
       refine HS.out.mono ?_;rintro e w5 ⟨v5,X,rfl,n,g,m,T,f⟩;have t:=J n;have u:=J m;have r:=J g;have x:=J f;clear n m g f
       go_wp2
       go_roundw
       case rel=>exact⟨k+j,X,H,Z,t.out,r.out,by rw[u.out,U.out,L.out,R.out,pZ _ _ _ (by have:=E0.out;omega)],by omega,B.out.trans x.out⟩
       case measure=>simp[intOf];omega
      go_wp2_with fail
      refine HS.out.mono ?_;rintro e w5 ⟨v5,X,rfl,n,g,m,T,f⟩;have t:=J n;have u:=J m;have r:=J g;have x:=J f;clear n m g f
      go_wp2
      go_roundw
      case rel=>exact⟨k+j,X,H,Z,t.out,r.out,by rw[u.out,U.out,L.out,R.out,pZ _ _ _ (by have:=E0.out;omega)],by omega,B.out.trans x.out⟩
      case measure=>simp[intOf];omega
    obtain rfl:k=s.size:=by omega
    have b:aE l=fa s.data.toList:=by have S:=U.out;rwa[E0.out,Pl]at S
    obtain⟨A,c,rfl,hi⟩:=HO.out.is HL.out;have HT:=J (pr hi Z (by omega) b);clear hi b
    go_wp2_with fail
    refine HT.out.mono ?_;rintro e w6 ⟨v6,rfl,D,G⟩;have P:=J D;have O:=J (aF B.out G E);clear D G
    go_wp2
    go_ret2
    exact⟨_,Z,⟨_,Z,P.out⟩,O.out⟩
 have e3:¬(1:Int)<(s.size:Int):=by omega
 go_wp2
 clear e3 h3 z hc
 go_loopw [4] (fun i wr=>wr=w/\∃k:Nat,k<=s.size/\i=.int .i64 k) (fun i _=>s.size-(intOf i).toNat)
 case atStart=>exact⟨Z,0,OA _,Z⟩
 case round=>
  obtain⟨V,k,hk,rfl⟩:=hrel;obtain rfl:w=wr:=V.symm;by_cases p:k<s.size
  ·obtain⟨y,C⟩:=HD.out k p;have f1:¬((s[k].toNat:Int)<48):=by omega
   have f2:¬((57:Int)<(s[k].toNat:Int)):=by omega
   go_wp2
   go_roundw
   case rel=>first|exact⟨trivial,k+1,p,Z⟩|exact⟨Z,k+1,p,Z⟩
   case measure=>simp[intOf];omega
  obtain rfl:k=s.size:=by omega
  go_wp2
  go_loopw [5,6] (fun v i wr=>Lk s w v i wr) (fun _ i _=>s.size-(intOf i).toNat)
  case atStart=>exact⟨0,[],OA _,Z,OwnN.nil _ _,fun d hd=>by simp at hd,Z,Oh _,Below.refl _ _⟩
  case round=>
   obtain⟨k,l,hk,rfl,q,F,b,a5,N⟩:=hrel;have HO:=J q;have U:=J b;have HL:=J F;have B:=J N;have E:=N.size;clear q b F N;by_cases p:k<s.size
   ·go_wp2
    rename World=>W
    go_loopw [6,7,8,9] (fun vi va vp vj wr=>PbInv s W k vi va vp vj wr) (fun _ _ _ j _=>9-(intOf j).toNat)
    case atStart=>exact⟨0,0,1,by omega,by omega,Z,Z,Z,Z,Z,by omega,by simp[fa],Z⟩
    case round=>
     obtain⟨j,a,Q,hj,H,rfl,rfl,rfl,rfl,Y,ha,he,hW⟩:=hrel;subst hW;have L:=J Y;have R:=J he;have a9:Q<=1000000000:=by rw[Y];exact OQ (by decide) hj
     clear Y he;by_cases M:j<9/\k+j<s.size
     ·obtain⟨I,o⟩:=M;have a4:Q<=100000000:=by rw[L.out];exact OQ (by decide) (show j<=8 by omega)
      obtain⟨y,C⟩:=HD.out (k+j) o;obtain⟨c,K⟩:∃c,s[k+j]=c:=⟨_,rfl⟩;have HC:=J (show s.data.toList[k+j]? =some c by rw[a2.out (k+j) o,K]);rw[K]at y C;have a3:(48:Int)<=(c.toNat:Int):=by omega
      have a0:(c.toNat:Int)<=57:=by omega
      go_wp2
      go_roundw
      case rel=>exact uc I o L.out ha R.out HC.out ⟨y,C⟩ (by omega) (by omega) (by omega) (by omega)
      case measure=>simp[intOf];omega
     have b0:0<j:=by omega
     have a1:¬((j:Int)<9/\((k+j:Nat):Int)<(s.size:Int)):=by omega
     have HS:=J (wv w.heap.size _ l Q a _ HO.out HL.out E (by omega) (by omega) (by omega));by_cases I:j<9
     ·have o:¬(k+j<s.size):=by omega
      go_wp2_with fail
      refine HS.out.mono ?_;rintro e w5 ⟨v5,X,rfl,n,g,m,T,f⟩;have t:=J n;have u:=J m;have r:=J g;have x:=J f;clear n m g f
      go_wp2
      go_roundw
      case rel=>exact⟨k+j,X,H,Z,t.out,r.out,by rw[u.out,U.out,L.out,R.out,pZ _ _ _ (by have:=E0.out;omega)],by omega,B.out.trans x.out⟩
      case measure=>simp[intOf];omega
     go_wp2_with fail
     refine HS.out.mono ?_;rintro e w5 ⟨v5,X,rfl,n,g,m,T,f⟩;have t:=J n;have u:=J m;have r:=J g;have x:=J f;clear n m g f
     go_wp2
     go_roundw
     case rel=>exact⟨k+j,X,H,Z,t.out,r.out,by rw[u.out,U.out,L.out,R.out,pZ _ _ _ (by have:=E0.out;omega)],by omega,B.out.trans x.out⟩
     case measure=>simp[intOf];omega
   obtain rfl:k=s.size:=by omega
   have b:aE l=fa s.data.toList:=by have S:=U.out;rwa[E0.out,Pl]at S
   obtain⟨A,c,rfl,hi⟩:=HO.out.is HL.out;have HT:=J (pr hi Z (by omega) b);clear hi b
   go_wp2_with fail
   refine HT.out.mono ?_;rintro e w6 ⟨v6,rfl,D,G⟩;have P:=J D;have O:=J (aF B.out G E);clear D G
   go_wp2
   go_ret2
   exact⟨_,Z,⟨_,Z,P.out⟩,O.out⟩
theorem Fb(s:ByteArray)(c:1<=s.size)(m:s.size<=4000)(l:s.data.toList.all ew=true)(j:¬(1<s.size/\((s.data.toList[0]?).getD 0).toNat=48)):Ct 211 [sT s] (.tup [aG (fa s.data.toList),iT 0]):=fp (K:=fun W v=>∃a,v=.tuple #[a,.int .i64 0]/\IsD W a (fa s.data.toList)) ⟨_,Tryz.func211,Z,Z⟩ (fun G W v d h=>by
  obtain⟨a,rfl,c⟩:=h;exact .tup [a,.int .i64 0] _ ((fQ d c).cons (.sc _ .nil)) .nil) fun G w vs _ _ f=>by
 obtain⟨u,rfl,g⟩:=dZ f;cases g;have b:∀(k:Nat) (h:k<s.size),s.data.toList[k]? =some s[k]:=fun k h=>by
  rw[Og (by rw[Po];exact h)];rfl
 refine Cl s w c m (fun k h=>?_) (fun h i e=>?_)
 ·have:=OD.1 l _ (Om (b k h));unfold ew at this;simpa using this
 refine j ⟨h,?_⟩;rw[b 0 i];exact e
def mQ(l:List UInt8):Int:=if l.any (fun c=>c==44||c==58)then((l.takeWhile fun c=> !(c==44||c==58)).length:Int)else-1
def A8(l:List UInt8):Bool:=l.all fun c=>decide (c.toNat<128)
theorem Ij{l:List UInt8}(h:A8 l=true):∀(j:Nat) b,l[j]? =some b->b.toNat<128:=fun j b a=>of_decide_eq_true (OD.1 h b (Om a))
theorem Ik{l:List UInt8}(h:A8 l=true)(k:Nat):A8 (l.drop k)=true:=OD.2 fun x a=>OD.1 h x (Pq a)
theorem Il{l:List UInt8}(h:A8 l=true)(k:Nat):A8 (l.take k)=true:=OD.2 fun x a=>OD.1 h x (OV a)
theorem ww:∀l:List UInt8,Lib.indexAny l [44,58]=mQ l
 |[]=>rfl
 |b::l=>by
  have d:=ww l;unfold Lib.indexAny;rw[d];have e:([44,58]:List UInt8).contains b=(b==44||b==58):=by
   simp only[List.contains,List.elem];cases b==44<;>cases b==58<;>rfl
  rw[e];unfold mQ;rw[RD,PH];cases h:(b==44||b==58)
  ·simp only[SD,Bool.not_false,if_true,QB,if_false];by_cases a:l.any (fun c=>c==44||c==58)=true
   ·rw[if_pos a,if_pos a,if_neg (by simp)];simp
   rw[if_neg a,if_neg a,if_pos (by decide)]
  simp
theorem zW(s:ByteArray)(h:s.size<=1048576)(c:A8 s.data.toList=true):Ct 140 [sT s,.sc (.string ⟨#[44,58]⟩)] (iT (mQ s.data.toList)):=Ct.sc ⟨_,Tryz.func140,Z,Z⟩ fun G w vs _ _ d=>by
 obtain⟨u,x,rfl,b,a⟩:=dO d;cases b;cases a;have:=Any.strings_IndexAny_laid Tryz.lays153 (by kernel_rfl) s ⟨#[44,58]⟩ w (by omega) (by decide) (Ij c) (Ij (by decide));rw[<-ww];exact this
theorem mz(s p:ByteArray):Ct 77 [sT s,sT p] (bT (Lib.hasPrefix s.data.toList p.data.toList)):=Ct.sc ⟨_,Tryz.func77,Z,Z⟩ fun G w vs _ _ c=>by
 obtain⟨u,x,rfl,b,a⟩:=dO c;cases b;cases a;exact(Tryz.strings_HasPrefix s p w).mono fun _ _ ⟨b,a⟩=>⟨b,by rw[a];exact Below.refl _ _⟩
theorem lx(s:ByteArray)(l h:Nat):(s.extract l h).data.toList=(s.data.toList.take h).drop l:=by
 rw[ByteArray.data_extract,Array.toList_extract,List.extract_eq_take_drop,List.drop_take]
theorem bR(s:ByteArray):s.size=s.data.toList.length:=by simp
def dR(s:ByteArray)(i:Nat):UInt8:=(s.data.toList[i]?).getD 0
theorem ff{s:ByteArray}{i:Nat}(h:i<s.size):s.data.toList[i]? =some (dR s i):=by
 rw[bR]at h;unfold dR;rw[Og h];rfl
def u9(l:List UInt8):Nat:=(l.takeWhile ew).length
theorem Im(l:List UInt8):u9 l<=l.length:=(QL _).length_le
theorem Io{s:ByteArray}{i:Nat}(a:(s.data.toList.drop i).takeWhile ew=(s.data.toList.takeWhile ew).drop i)(h:i<s.size)(c:ew (dR s i)=true):(s.data.toList.drop (i+1)).takeWhile ew=(s.data.toList.takeWhile ew).drop (i+1)/\i+1<=u9 s.data.toList:=by
 have b:i<s.data.toList.length:=by rw[<-bR];exact h
 have e:s.data.toList[i]=dR s i:=by have:=ff h;rw[Og b]at this;exact PF this
 rw[Ow b,PH,e,c,if_pos Z]at a;constructor
 ·have:=congrArg List.tail a;simpa[List.tail_drop]using this
 have:=congrArg List.length a;rw[Oi,OP]at this;unfold u9;omega
theorem Kx{s:ByteArray}{i:Nat}(b:(s.data.toList.drop i).takeWhile ew=(s.data.toList.takeWhile ew).drop i)(d:i<=u9 s.data.toList)(c:((decide (i<s.size)&&decide (48<=(dR s i).toNat))&&decide ((dR s i).toNat<=57))=false):i=u9 s.data.toList:=by
 have f:(s.data.toList.drop i).takeWhile ew=[]:=by
  by_cases h:i<s.size
  ·have a:i<s.data.toList.length:=by rw[<-bR];exact h
   have e:s.data.toList[i]=dR s i:=by have:=ff h;rw[Og a]at this;exact PF this
   rw[Ow a,PH,e];rw[decide_eq_true h,QA]at c;rw[show ew (dR s i)=false from c];rfl
  rw[Ov (by rw[<-bR];omega)];rfl
 rw[f]at b;have:=congrArg List.length b;rw[OP]at this;unfold u9 at d⊢;simp only[Ou]at this;omega
theorem N4{a b:Nat}(h:a=b):aG a=aG b:=by rw[h]
theorem Cn{s t:ByteArray}(j:1<t.size)(d:(dR t 0).toNat=48)(g:t.size<=s.size)(f:fa t.data.toList=fa s.data.toList)(c:t.data.toList.all ew=true):1<=(t.extract 1 t.size).size/\(t.extract 1 t.size).size<=s.size/\fa (t.extract 1 t.size).data.toList=fa s.data.toList/\(t.extract 1 t.size).data.toList.all ew=true:=by
 have e:(t.extract 1 t.size).data.toList=t.data.toList.tail:=by
  rw[lx,bR,Pl,List.drop_one]
 have k:(t.extract 1 t.size).size=t.size-1:=by simp[O6]
 have b:t.data.toList=dR t 0::t.data.toList.tail:=by
  have:=ff (s:=t) (i:=0) (by omega);cases h:t.data.toList with
  |nil=>rw[h]at this;cases this
  |cons a l=>rw[h]at this;simp at this;rw[List.tail_cons,<-this]
 refine⟨by omega,by omega,?_,?_⟩
 ·rw[e,<-f];conv=>rhs;rw[b]
  unfold fa;rw[Qk,d]
 rw[e];rw[b,PS,Oo]at c;exact c.2
theorem Ip(s:ByteArray)(m:s.size<=1048576):Ct 147 [sT s] (nI (u9 s.data.toList)):=by
 refine Ct.of (n:=23) Tryz.func147 Z Z Z Z Z fun w0 G0=>?_
 refine ab<|aj 1 Z<|ab<|aj 1 Z<|ab<|aA<|aO (fun j k=>∃(i:Nat),(i<=s.size/\(s.data.toList.drop i).takeWhile ew=(s.data.toList.takeWhile ew).drop i/\i<=u9 s.data.toList)/\j=s.size-i/\k=⟨23,[(0,sT s),(3,nI i)],[],[]⟩) 0 0 ⟨0,⟨by omega,Z,by omega⟩,Z,Z⟩ .rf ?_;rintro j k ⟨i,⟨l,d,g⟩,rfl,rfl⟩;refine ab<|ab<|ae<|aa 2 Z<|ag (t:=nI s.size) Z Z Z (fj Z bj Z)<|ag (t:=bT (decide (i<s.size))) Z Z Z (ah (ai Z Z Z Zy) (au (gK i s.size)))<|aa 1 Z<|aw (t:=sT s) Z Z Z Z (fun a=>av Z Z)<|aw (t:=nI i) Z Z Z Z (fun a=>av Z Z)<|aw (t:=.sc (.int .u8 (((dR s i).toNat:Nat):Int))) Z Z Z Z (fun a=>eg Z bj (if_pos a) (if_pos a) Z (ff (of_decide_eq_true a)))<|aw (t:=bT (decide (48<=(dR s i).toNat))) Z Z Z Z (fun a=>ah (ai Z Z (if_pos a) (fun _=>rfl)) (au (F0 48 ((dR s i).toNat))))<|ag (t:=bT ((decide (i<s.size))&&(decide (48<=(dR s i).toNat)))) Z Z Z (aL Z Z (fun c=>(if_pos c).trans (au (by rw[c];rfl))) (fun c=>(au (by rw[c];rfl))))<|aa 1 Z<|aw (t:=sT s) Z Z Z Z (fun a=>av Z Z)<|aw (t:=nI i) Z Z Z Z (fun a=>av Z Z)<|aw (t:=.sc (.int .u8 (((dR s i).toNat:Nat):Int))) Z Z Z Z (fun a=>eg Z bj (if_pos a) (if_pos a) Z (ff (of_decide_eq_true (Bool.and_eq_true_iff.1 a).1)))<|aw (t:=bT (decide ((dR s i).toNat<=57))) Z Z Z Z (fun a=>ah (ai Z (if_pos a) Z (fun _=>rfl)) (au (F0 ((dR s i).toNat) 57)))<|ag (t:=bT (((decide (i<s.size))&&(decide (48<=(dR s i).toNat)))&&(decide ((dR s i).toNat<=57)))) Z Z Z (aL Z Z (fun c=>(if_pos c).trans (au (by rw[c];rfl))) (fun c=>(au (by rw[c];rfl))))<|af<|aH Z (fun b=>?_) (fun b=>?_)
 ·rw[Oo,Oo]at b;have h:=of_decide_eq_true b.1.1;have e:=Io d h (by unfold ew;rw[b.1.2,b.2];rfl);refine ar<|aA<|ae<|aa 1 Z<|ag (t:=nI (i+1)) Z Z Z (ah (ai Z Z Z Zy) (bp (by omega)))<|aa 1 Z<|af<|⟨_,_,?_,⟨i+1,?_,Z,Z⟩,.rf⟩
  ·omega
  exact⟨by omega,e.1,e.2⟩
 have f:=Kx d g b;refine aQ<|ab<|aj 2 Z<|ax<|⟨.inr Z,_,.cons Z .nil,ez (by rw[<-f]),Z⟩
theorem nR(s:ByteArray)(q:1<=s.size)(u:s.size<=4000)(p:s.data.toList.all ew=true):Ct 148 [sT s] (aG (fa s.data.toList)):=by
 refine Ct.of (n:=21) Tryz.func148 Z Z Z Z Z fun w0 G0=>?_
 refine ab<|ae<|ag (t:=.sl []) Z Z Z (bI (.inr Z) bQ)<|af<|ab<|aA<|aO (fun m o=>∃(t:ByteArray),(1<=t.size/\t.size<=s.size/\fa t.data.toList=fa s.data.toList/\t.data.toList.all ew=true)/\m=t.size/\o=⟨21,[(0,sT t)],[],[]⟩) 0 0 ⟨s,⟨by omega,Oh _,Z,p⟩,Z,Z⟩ .rf ?_;rintro m o ⟨t,⟨r,k,c,b⟩,rfl,rfl⟩;refine ab<|ab<|ae<|aa 1 Z<|ag (t:=nI t.size) Z Z Z (fj Z bj Z)<|ag (t:=bT (decide (1<t.size))) Z Z Z (ah (ai Z Z Z Zy) (au (qH t.size 1)))<|aa 1 Z<|aw (t:=sT t) Z Z Z Z (fun d=>av Z Z)<|aw (t:=.sc (.int .u8 (((dR t 0).toNat:Nat):Int))) Z Z Z Z (fun d=>eg (j:=0) Z bj (if_pos d) Z Z (ff (by have:=of_decide_eq_true d;omega)))<|aw (t:=bT (decide ((dR t 0).toNat=48))) Z Z Z Z (fun d=>ah (ai Z (if_pos d) Z (fun _=>rfl)) (au (iF ((dR t 0).toNat) 48)))<|ag (t:=bT ((decide (1<t.size))&&(decide ((dR t 0).toNat=48)))) Z Z Z (aL Z Z (fun f=>(if_pos f).trans (au (by rw[f];rfl))) (fun f=>(au (by rw[f];rfl))))<|af<|aH Z (fun a=>?_) (fun a=>?_)
 ·rw[Oo]at a;have i:=of_decide_eq_true a.1;have g:=of_decide_eq_true a.2;refine ar<|aA<|ae<|aa 1 Z<|ag (t:=sT (t.extract 1 t.size)) Z Z Z (fK (l:=1) (h:=t.size) Z bj Z ⟨_,Z⟩ Z (by omega) (by omega))<|aa 1 Z<|af<|⟨_,_,?_,⟨t.extract 1 t.size,?_,Z,Z⟩,.rf⟩
  ·simp only[O6];omega
  exact Cn i g k c b
 have e:¬(1<t.size/\(dR t 0).toNat=48):=fun h=>by rw[decide_eq_true h.1,decide_eq_true h.2]at a;cases a
 refine aQ<|ab<|ae<|aa 1 Z<|ag Z Z Z (ak Z (Fb t (by omega) (by omega) b e) Z Z)<|aa 5 Z<|af<|ab<|aj 2 Z<|ax<|⟨.inr Z,_,.cons Z .nil,N4 c,Z⟩
end Go.Proofs.YtfoejfohbkmmeaaGreatDoor
