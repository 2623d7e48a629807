import Derived.Test.YtfoejfohbkmmeaaGreatDoorP28
import Derived.Test.YtfoejfohbkmmeaaGreatDoorP09
import Derived.Test.YtfoejfohbkmmeaaGreatDoorP00
import Derived.Test.YtfoejfohbkmmeaaGreatDoorP06
import Derived.Test.YtfoejfohbkmmeaaGreatDoorP11
import Derived.Test.YtfoejfohbkmmeaaGreatDoorP14
import Derived.Shelf.Strings.IndexAnyAll
set_option maxRecDepth 100000
set_option maxHeartbeats 8000000
namespace Go.Proofs.YtfoejfohbkmmeaaGreatDoor
open Go.RowKit
open Lib renaming hid→J
def fG(n:Nat):List UInt8:=if h:n=0 then []else UInt8.ofNat (48+n%10)::fG (n/10)
termination_by n
decreasing_by omega
theorem lV:fG 0=[]:=by rw[fG];simp
theorem nn{n:Nat}(h:0<n):fG n=UInt8.ofNat (48+n%10)::fG (n/10):=by rw[fG,dif_neg (by omega)]
theorem DQ:∀n:Nat,0<n->(fG n).reverse=Lib.decDigits n:=by
 intro n;induction n using Nat.strongRecOn with
 |ind n ih=>
  intro h;rw[nn h,Lib.decDigits,Qx];split
  ·next h9=>
   rw[show n/10=0 by omega,lV,show n%10=n by omega];rfl
  next h9=>rw[ih (n/10) (by omega) (by omega)]
theorem uX:∀(k n:Nat),n<10^k->(fG n).length<=k
 |0,n,h=>by
  have:n=0:=by simpa using h
  subst this;rw[lV];exact L4 _
 |k+1,n,h=>by
  rcases M1 n with rfl|a
  ·rw[lV];simp
  rw[nn a,L9];have:=uX k (n/10) (by rw[MH]at h;omega);omega
theorem td{n L:Nat}(h:(ax n).length<=L):(fG n).length<=10*L:=by
 refine uX _ _ ?_;have a:=b8 (ax n) (bZ n);rw[aO]at a;have c:(4294967296:Nat)^(ax n).length<=(10^10)^(ax n).length:=PC (by decide) _;have b:(10^10:Nat)^(ax n).length<=(10^10)^L:=MR (by decide) h;rw[PD];omega
theorem Ga{n:Nat}(h:0<n):1<=(fG n).length:=by rw[nn h];simp
theorem AW{b:List UInt8}{q i g n:Nat}(k:i<9)(c:g<10^(9-i))(f:0<g\/0<q)(h:b++fG (q*10^(9-i)+g)=fG n):g/10<10^(9-(i+1))/\(b++[UInt8.ofNat (48+g%10)])++fG (q*10^(9-(i+1))+g/10)=fG n:=by
 have e:10^(9-i)=10^(9-(i+1))*10:=by rw[<-MH];congr 1;omega
 rw[e]at c h;have j:0<10^(9-(i+1)):=NF (by decide);obtain⟨P,d⟩:∃P,10^(9-(i+1))=P:=⟨_,rfl⟩;rw[d]at c h j⊢;have a:0<q*(P*10)+g:=by
  rcases f with h|h
  ·omega
  have:0<q*(P*10):=OD h (by omega);omega
 rw[<-Mu]at h a;rw[nn a,show(q*P*10+g)%10=g%10 by omega,show(q*P*10+g)/10=q*P+g/10 by omega]at h;exact⟨by omega,by rw[<-h];simp⟩
theorem DR{a:List UInt8}{q i g n:Nat}(e:i<=9)(c:g<10^(9-i))(d:¬(i<9/\(0<g\/0<q)))(h:a++fG (q*10^(9-i)+g)=fG n):a++fG q=fG n:=by
 by_cases b:i=9
 ·subst b;have:g=0:=by simpa using c
  subst this;simpa using h
 have:g=0/\q=0:=by omega
 obtain⟨rfl,rfl⟩:=this;simpa using h
theorem rI{q:Nat}:0<(ax q).length↔0<q:=by
 have:=bR (n:=q);omega
def DS(l L:List UInt8)(k:Nat):Prop:=L.length=l.length/\∀t:Nat,L[t]? =if t<k\/l.length-k<=t then l.reverse[t]? else l[t]?
theorem Gb{l L:List UInt8}{k:Nat}{a b:UInt8}(h:DS l L k)(o:k<l.length-1-k)(j:L[k]? =some a)(m:L[l.length-1-k]? =some b):DS l ((L.set k b).set (l.length-1-k) a) (k+1):=by
 obtain⟨n,e⟩:=h;refine⟨by simp[n],fun t=>?_⟩;have c:=(e k).symm.trans j;have d:=(e (l.length-1-k)).symm.trans m;rw[if_neg (by omega)]at c d;rw[OP,OP,MJ];by_cases f:l.length-1-k=t
 ·subst f;rw[if_pos Z,if_pos (by omega),if_pos (by omega),Ps (by omega),show l.length-1-(l.length-1-k)=k by omega,c]
 rw[if_neg f];by_cases g:k=t
 ·subst g;rw[if_pos Z,if_pos (by omega),if_pos (by omega),Ps (by omega),d]
 rw[if_neg g,e t];by_cases i:t<k\/l.length-k<=t
 ·rw[if_pos i,if_pos (by omega)]
 rw[if_neg i,if_neg (by omega)]
theorem IF{l L:List UInt8}{k:Nat}(h:DS l L k)(a:¬k<l.length-1-k):L=l.reverse:=by
 apply PL;intro t;rw[h.2 t];split
 ·rfl
 next h3=>
 have:t=l.length-1-t:=by omega
 rw[Ps (by omega),<-this]
theorem DT(l:List UInt8):DS l l 0:=⟨Z,fun t=>by
 split
 ·next h=>
  rw[Nn (by omega),Nn (by simp;omega)]
 rfl⟩
theorem Cz{l L:List UInt8}{k t:Nat}(h:DS l L k)(a:t<l.length):∃c,L[t]? =some c:=⟨_,L3 (by rw[h.1];exact a)⟩
theorem K8{L:List UInt8}{t:Nat}{c:UInt8}(h:L[t]? =some c):(bm L)[t]? =some (.sc (.int .u8 c.toNat)):=by
 unfold bm;rw[MN,h];rfl
theorem K9(L:List UInt8)(t:Nat)(c:UInt8):(bm L).set t (.sc (.int .u8 c.toNat))=bm (L.set t c):=by unfold bm;rw[Qn]
theorem La{e sz:Nat}{b:Bool}{es a:List Tree}(h:es=a):[some (⟨e,sz,es,b⟩:Row)]=[some ⟨e,sz,a,b⟩]:=by rw[h]
theorem DU{x y:Operand}(a:Nat)(w:World):(do eqGuard .rem 50 x y (.int .u32 (a:Nat)) (.int .u32 10);binOp .rem 50 (.int .u32 (a:Nat)) (.int .u32 10):Sem Value).run Tryz.prog w=.ok (.int .u32 ((a%10:Nat):Int)) w:=by
 go_simp;rw[Oe (by omega)]
theorem DV{x y:Operand}(a:Nat)(h:a<4294967296)(w:World):(do eqGuard .quo 50 x y (.int .u32 (a:Nat)) (.int .u32 10);binOp .quo 50 (.int .u32 (a:Nat)) (.int .u32 10):Sem Value).run Tryz.prog w=.ok (.int .u32 ((a/10:Nat):Int)) w:=by
 go_simp;rw[IntKind.wrap_u32];omega
theorem IG{a:Int}{m:Nat}(h:a=m)(b:m<4294967296):(Tree.sc (.int .u32 (IntKind.u32.wrap a)))=.sc (.int .u32 ((m:Nat):Int)):=by
 subst h;rw[IntKind.wrap_u32];congr 2;omega
theorem Ka{m:Nat}(a:m<256):(Tree.sc (.int .u8 (IntKind.u8.wrap ((m:Nat):Int))))=.sc (.int .u8 ((UInt8.ofNat m).toNat:Nat)):=by
 rw[PY];congr 2
theorem Gc(n d:Nat)(h:(ax n).length<=1048576)(e:0<d)(b:d<4294967296):Ct 173 [aH n,.sc (.int .u32 (d:Nat))] (.tup [aH (n/d),.sc (.int .u32 ((n%d:Nat):Int))]):=eU (K:=QD n d) ⟨_,Tryz.func173,Z,Z⟩ (fun G W v g h=>by
  obtain⟨a,rfl,c⟩:=h;exact .tup [a,.int .u32 _] _ ((fO g c).cons (.sc _ .nil)) .nil) fun G w vs _ _ f=>by
 obtain⟨u,v,rfl,c,i⟩:=d5 f;cases i;exact uC (dQ c) h e b
theorem yF(a:List UInt8)(c:UInt8):bm (a++[c])=bm a++[.sc (.int .u8 c.toNat)]:=by simp[bm]
theorem Gd{m n L:Nat}(h:(ax n).length<=L)(a:m<=n):(ax m).length<=L:=Ma (a7 a) h
theorem f6:kM Tryz.prog 22=some (5,1,1):=by kernel_rfl
theorem cC:gN Tryz.prog 22=some (5,1):=by kernel_rfl
theorem qq:jo Tryz.prog 5=true:=by kernel_rfl
theorem qr:(Tryz.prog.info? 5).map (·.size)=some 1:=by kernel_rfl
theorem uY:Tryz.prog.underlying 5=some (.int .u8):=by kernel_rfl
theorem AY:Tryz.prog.underlying 50=some (.int .u32):=by kernel_rfl
theorem lh:gz Tryz.prog 5=some [.int .u8 0]:=by kernel_rfl
theorem te(n:Nat)(E:(ax n).length<=262144):Ct 108 [aH n] (.sc (.string ⟨(Lib.decDigits n).toArray⟩)):=by
 refine Ct.of (n:=72) Tryz.func108 Z Z Z Z Z fun w0 G0=>?_
 refine ab<|aj 1 Z<|ab<|ae<|aa 1 Z<|af Z Z Z (ak Z (sD n (Ma E (by decide))) Z Z)<|aa 1 Z<|ag<|ab<|ab<|ae<|aa 1 Z<|af (t:=nI ((ax n).length)) Z Z Z (ah (aZ Z c7 Z) (by simp only[L5]))<|af (t:=bT (decide ((ax n).length=0))) Z Z Z (ah (ai Z Z Z Zy) (ar (jF ((ax n).length) 0)))<|ag<|aD Z (fun u=>?_) (fun u=>?_)
 ·refine ab<|aj 1 Z<|aw<|⟨.inr Z,_,.cons Z .nil,(congrArg (fun I:List UInt8=>Tree.sc (.string ⟨I.toArray⟩)) (by rw[bR.1 u,Lib.decDigits];rfl)),Z⟩
 refine am<|ab<|ae<|gW (k:=0) (e:=5) (sz:=1) (rs':=[some ⟨5,1,bm [],false⟩]) (.inr Z) Z Z Z Z Z<|ag<|ab<|aB<|aR (fun r s=>∃(m:Nat) (d:List UInt8),(m<=n/\d++fG m=fG n)/\r=m+1/\s=⟨72,[(3,.sl ((ax m).map my)),(4,.own 0)],[],[some ⟨5,1,bm d,false⟩]⟩) 0 1 ⟨n,[],⟨L4 _,Z⟩,Z,Z⟩ .rf ?_;rintro r s ⟨m,d,⟨G,o⟩,rfl,rfl⟩;refine ab<|ab<|ae<|aa 1 Z<|af (t:=nI ((ax m).length)) Z Z Z (ah (aZ Z c7 Z) (by simp only[L5]))<|af (t:=bT (decide (0<(ax m).length))) Z Z Z (ah (ai Z Z Z Zy) (ar (oF ((ax m).length) 0)))<|ag<|aD Z (fun y=>?_) (fun y=>?_)
 ·have B:0<m:=rI.1 y;have F:(ax m).length<=1048576:=Ma (Gd E G) (by decide);refine am<|aB<|ab<|ae<|aa 1 Z<|af Z Z Z (ak Z (Gc m 1000000000 F (by decide) (by decide)) Z Z)<|aa 5 Z<|ag<|ab<|aj 2 Z<|ab<|aj 1 Z<|aB<|aR (fun r s=>∃(i:Nat) (g:Nat) (h:List UInt8),(i<=9/\g<10^(9-i)/\h++fG (m/1000000000*10^(9-i)+g)=fG n)/\r=9-i/\s=⟨72,[(3,.sl ((ax (m/1000000000)).map my)),(4,.own 0),(6,.sc (.int .u32 ((g:Nat):Int))),(7,nI i)],[],[some ⟨5,1,bm h,false⟩]⟩) 0 1 ⟨0,(m%1000000000),d,⟨by omega,Ni _ (by decide),by show d++fG (m/1000000000*1000000000+m%1000000000)=fG n;rw[Nat.div_add_mod'];exact o⟩,Z,Z⟩ .rf ?_;rintro r s ⟨i,g,h,⟨R,H,K⟩,rfl,rfl⟩;refine ab<|ab<|ae<|aa 1 Z<|af (t:=bT (decide (i<9))) Z Z Z (ah (ai Z Z Z Zy) (ar (gA i 9)))<|aa 1 Z<|aq (t:=.sc (.int .u32 ((g:Nat):Int))) Z Z Z Z (fun l=>au Z Z)<|aq (t:=bT (decide (0<g))) Z Z Z Z (fun l=>ah (ai Z (if_pos l) Z (fun _=>rfl)) (ar (oF g 0)))<|aq (t:=bT (decide (0<g))) Z Z Z Z (fun l=>au Z (if_pos l))<|bY (t:=.sl ((ax (m/1000000000)).map my)) Z Z Z Z (fun l=>au Z Z)<|bY (t:=nI ((ax (m/1000000000)).length)) Z Z Z Z (fun l=>ah (aZ Z c7 (if_pos l)) (by simp only[L5]))<|bY (t:=bT (decide (0<(ax (m/1000000000)).length))) Z Z Z Z (fun l=>ah (ai Z (if_pos l) Z (fun _=>rfl)) (ar (oF ((ax (m/1000000000)).length) 0)))<|aq (t:=bT ((decide (0<g))||(decide (0<(ax (m/1000000000)).length)))) Z Z Z Z (fun l=>aK Z (if_pos l) (fun q=>(ar (by rw[q];rfl))) (fun q=>(if_pos ⟨l,q⟩).trans (ar (by rw[q];rfl))))<|af (t:=bT ((decide (i<9))&&((decide (0<g))||(decide (0<(ax (m/1000000000)).length))))) Z Z Z (aK Z Z (fun q=>(if_pos q).trans (ar (by rw[q];rfl))) (fun q=>(ar (by rw[q];rfl))))<|ag<|aF Z (fun p=>?_) (fun p=>?_)
  ·have D:i<9/\(0<g\/0<m/1000000000):=by
    rw[L8,MP,decide_eq_true_eq,decide_eq_true_eq,decide_eq_true_eq,rI]at p;exact p
   have A:g<4294967296:=Mj H (Ma (MR (by decide) (show 9-i<=9 by omega)) (by decide));have v:=AW D.1 H D.2 K;have M:h.length+1<=2621440:=by
    have N:=td E;rw[<-v.2]at N;simp only[Mb,NL]at N;omega
   refine am<|ab<|aB<|ab<|ae<|aa 2 rfl<|af (t:=.sc (.int .u32 ((g%10:Nat):Int))) rfl rfl rfl (ai rfl rfl rfl (fun w=>DU g w))<|af (t:=.sc (.int .u32 ((48+g%10:Nat):Int))) rfl rfl rfl (ah (ai rfl rfl rfl Zy) (IG (by omega) (by omega)))<|af (t:=.sc (.int .u8 ((UInt8.ofNat (48+g%10)).toNat:Int))) rfl rfl rfl (ah (g9 rfl AY uY rfl) ((Ka (by omega))))<|af (t:=.sl [.sc (.int .u8 ((UInt8.ofNat (48+g%10)).toNat:Int))]) rfl rfl rfl (aQ rfl cC lh rfl (by decide) (by decide) rfl rfl rfl rfl rfl)<|cg (bs':=[]) (rs':=[some ⟨5,1,bm (h++[UInt8.ofNat (48+g%10)]),false⟩]) rfl rfl rfl rfl f6 rfl rfl rfl rfl (by intro e O;simp only[Mi,Nf,or_false]at O;subst O;rfl) (AllC.lit rfl) (AllC.lit rfl) (by simp only[a6,L9,Mg];omega) rfl rfl rfl (by rw[yF];rfl)<|aa 1 rfl<|ag<|ae<|aa 1 rfl<|af (t:=.sc (.int .u32 ((g/10:Nat):Int))) rfl rfl rfl (ai rfl rfl rfl (fun w=>DV g A w))<|aa 1 rfl<|ag<|ae<|aa 1 rfl<|af (t:=nI (i+1)) rfl rfl rfl (ah (ai rfl rfl rfl Zy) (bi (by omega)))<|aa 1 rfl<|ag<|⟨_,_,?_,⟨i+1,g/10,(h++[UInt8.ofNat (48+g%10)]),?_,rfl,rfl⟩,.rf⟩
   ·omega
   exact⟨by omega,v.1,v.2⟩
  have D:¬(i<9/\(0<g\/0<m/1000000000)):=by
   rw[Nu,Mo,decide_eq_false_iff_not,decide_eq_false_iff_not,decide_eq_false_iff_not,rI]at p;omega
  refine aT<|⟨_,_,?_,⟨(m/1000000000),h,?_,Z,Z⟩,.rf⟩
  ·omega
  exact⟨by omega,DR R H D K⟩
 have B:m=0:=by have:=mt rI.2 y;omega
 subst B;have x:d=fG n:=by rw[lV,Mq]at o;exact o
 have C:0<n:=MS fun e=>u (bR.2 e)
 have S:1<=d.length:=by rw[x];exact Ga C
 have P:d.length<=2621440:=by rw[x];exact td E
 refine aT<|ab<|ab<|ae<|aa 1 Z<|af (t:=nI d.length) Z Z Z (ah (zL Z cC Z Z) (by simp only[L5,a6]))<|af (t:=nI (d.length-1)) Z Z Z (ah (ai Z Z Z Zy) (bi (by omega)))<|aa 2 Z<|ag<|aB<|aR (fun r s=>∃(k:Nat) (L:List UInt8),(k<=d.length-1-k+1/\DS d L k)/\r=d.length-k/\s=⟨72,[(4,.own 0),(8,nI k),(9,nI (d.length-1-k))],[],[some ⟨5,1,bm L,false⟩]⟩) 0 1 ⟨0,d,⟨by omega,DT _⟩,Z,Z⟩ .rf ?_;rintro r s ⟨k,L,⟨T,f⟩,rfl,rfl⟩;refine ab<|ab<|ae<|aa 2 Z<|af (t:=bT (decide (k<(d.length-1-k)))) Z Z Z (ah (ai Z Z Z Zy) (ar (gA k ((d.length-1-k)))))<|ag<|aD Z (fun z=>?_) (fun z=>?_)
 ·obtain⟨a,J⟩:=Cz (t:=k) f (by omega);obtain⟨b,Q⟩:=Cz (t:=d.length-1-k) f (by omega);refine am<|ab<|aB<|hH (sl':=[(4,.own 0),(8,nI k),(9,nI (d.length-1-k)),(51,bT (decide (k<(d.length-1-k))))]) ⟨Z,⟨Z,⟨Z,⟨Z,trivial⟩⟩⟩⟩<|ff (fu:=3) [some 56,some 57,some 58,some 59,some 60,some 61,some 62,some 63,some 64,some 65,some 66,some 67,some 68,none,some 69,none] [13,15] [.own 0,nI k,.own 0,nI (d.length-1-k),.own 0,nI (d.length-1-k),.elp 0 (d.length-1-k),.sc (.int .u8 (b.toNat:Int)),.own 0,nI k,.elp 0 k,.sc (.int .u8 (a.toNat:Int)),.elp 0 k,.any,.elp 0 (d.length-1-k),.any] [⟨[13],[(4,.own 0),(8,nI k),(9,nI (d.length-1-k)),(51,bT (decide (k<(d.length-1-k))))],[],[some ⟨5,1,bm (L.set k b),false⟩],[.own 0,nI k,.own 0,nI (d.length-1-k),.own 0,nI (d.length-1-k),.elp 0 (d.length-1-k),.sc (.int .u8 (b.toNat:Int)),.own 0,nI k,.elp 0 k,.sc (.int .u8 (a.toNat:Int)),.elp 0 k,.any,.elp 0 (d.length-1-k),.any]⟩] ⟨[15,13],[(4,.own 0),(8,nI k),(9,nI (d.length-1-k)),(51,bT (decide (k<(d.length-1-k))))],[],[some ⟨5,1,bm ((L.set k b).set (d.length-1-k) a),false⟩],[.own 0,nI k,.own 0,nI (d.length-1-k),.own 0,nI (d.length-1-k),.elp 0 (d.length-1-k),.sc (.int .u8 (b.toNat:Int)),.own 0,nI k,.elp 0 k,.sc (.int .u8 (a.toNat:Int)),.elp 0 k,.any,.elp 0 (d.length-1-k),.any]⟩ (by kernel_rfl) Z (by kernel_rfl) (by kernel_rfl) (by kernel_rfl) Z Z ?_ ?_
  ·refine .opp [] (.okk Z (au Z Z)<|.fin)<|.opp [] (.okk Z (au Z Z)<|.fin)<|.opp [] (.okk Z (au Z Z)<|.okk Z (au Z Z)<|.fin)<|.opp [] (.okk Z (au Z Z)<|.okk Z (au Z Z)<|.fin)<|.opp [] (.okk Z (au Z Z)<|.fin)<|.opp [] (.okk Z (au Z Z)<|.fin)<|.opp [4,5] (.okk Z (ia (j:=(d.length-1-k)) Z cC Z Z Z Z Z (by show _<(bm _).length;first|(rw[a6,f.1];omega)|(rw[a6,MJ,f.1];omega)|(rw[a6,MJ,MJ,f.1];omega)) (NQ _))<|.fin)<|.opp [6] (.okk Z (oS (c:=.sc (.int .u8 (b.toNat:Int))) (j:=(d.length-1-k)) (fo:=0) Z Z Z qq (K8 Q) (by simp) (by show 0<1;decide) Z)<|.fin)<|.opp [] (.okk Z (au Z Z)<|.fin)<|.opp [] (.okk Z (au Z Z)<|.fin)<|.opp [8,9] (.okk Z (ia (j:=k) Z cC Z Z Z Z Z (by show _<(bm _).length;first|(rw[a6,f.1];omega)|(rw[a6,MJ,f.1];omega)|(rw[a6,MJ,MJ,f.1];omega)) (NQ _))<|.fin)<|.opp [10] (.okk Z (oS (c:=.sc (.int .u8 (a.toNat:Int))) (j:=k) (fo:=0) Z Z Z qq (K8 J) (by simp) (by show 0<1;decide) Z)<|.fin)<|.opp [0,1] (.okk Z (ia (j:=k) Z cC Z Z Z Z Z (by show _<(bm _).length;first|(rw[a6,f.1];omega)|(rw[a6,MJ,f.1];omega)|(rw[a6,MJ,MJ,f.1];omega)) (NQ _))<|.fin)<|.opp [7,12] (.wr 1 id .any (by kernel_rfl) Z Z (mr (j:=k) Z Z Z Z (by simp) (by show _<(bm L).length;rw[a6,f.1];omega) Z Z Z Z Z qr Z (La (K9 _ _ _))) Z Z Z Z (.k Z (.k Z (.k Z (.k Z (.k Z (.k Z (.k Z (.k Z (.k Z (.k Z (.k Z (.k Z (.k Z (.i Z (.k Z (.k Z .nil))))))))))))))))<|.fin)<|.opp [2,3] (.no (by kernel_rfl)<|.okk Z (ia (j:=(d.length-1-k)) Z cC Z Z Z Z Z (by show _<(bm _).length;first|(rw[a6,f.1];omega)|(rw[a6,MJ,f.1];omega)|(rw[a6,MJ,MJ,f.1];omega)) (NQ _))<|.fin)<|.opp [11,14] (.no (by kernel_rfl)<|.wr 2 id .any (by kernel_rfl) Z Z (mr (j:=(d.length-1-k)) Z Z Z Z (by simp) (by show _<(bm _).length;rw[a6,MJ,f.1];omega) Z Z Z Z Z qr Z (La (K9 _ _ _))) Z Z Z Z (.k Z (.k Z (.k Z (.k Z (.k Z (.k Z (.k Z (.k Z (.k Z (.k Z (.k Z (.k Z (.k Z (.k Z (.k Z (.i Z .nil))))))))))))))))<|.fin)<|.nil
  refine ae<|aa 1 Z<|af (t:=nI (k+1)) Z Z Z (ah (ai Z Z Z Zy) (bi (by omega)))<|aa 1 Z<|af (t:=nI ((d.length-1-k)-1)) Z Z Z (ah (ai Z Z Z Zy) (bi (by omega)))<|aa 2 Z<|ag<|⟨_,_,?_,⟨k+1,((L.set k b).set (d.length-1-k) a),?_,Z,Z⟩,.rf⟩
  ·omega
  exact⟨by omega,Gb f (by omega) J Q⟩
 refine aT<|ab<|ek 0 (bs':=[]) (rs':=[none]) Z Z Z Z<|ae<|aa 1 Z<|af (t:=sT (⟨L.toArray⟩)) Z Z Z (mY Z Z)<|aa 1 Z<|ag<|aw<|⟨.inr Z,_,.cons Z .nil,(congrArg (fun I:List UInt8=>Tree.sc (.string ⟨I.toArray⟩)) (by rw[IF f z,x];exact DQ n C)),Z⟩
def Kb(base:Nat)(l:List Nat)(m a:Nat)(w:World)(e:Ending)(w':World):Prop:=
 ∃v' l',e=.returned v'/\OwnN w' base v' l'/\Digs l'/\ay l'=ay l*m+a/\l'.length<=l.length+1/\Below base w w'
def ScInv(base:Nat)(v:Value)(l:List Nat)(m a:Nat)(w:World)(c i:Value)(wr:World):Prop:=
 ∃(k cy:Nat) (lo:List Nat),k<=l.length/\i=.int .i64 k/\c=.int .u64 cy/\cy<4294967296/\lo.length=k/\Digs lo/\OwnN wr base v (lo++l.drop k)/\ay lo+4294967296^k*cy=ay (l.take k)*m+a/\Below base w wr/\w.heap.size<=wr.heap.size
theorem DW{lo l:List Nat}{k g:Nat}(a:lo.length=k)(b:k<l.length):(lo++l.drop k).set k g=(lo++[g])++l.drop (k+1):=by
 subst a;rw[NK _ _ (L4 _),M2,Mc b,NO,Mv];rfl
theorem ScInv.next{base g c:Nat}{l lo:List Nat}{m a k h x t:Nat}{w wr:World}{z q i:Int}(f:k<l.length)(r:l[k]=x)(y:t=x*m+h)(e:t/4294967296<4294967296)(b:lo.length=k)(j:Digs lo)(d:OwnN wr base (.slice (some ⟨g,0,none⟩) l.length c) (lo++l.drop k))(C:ay lo+4294967296^k*h=ay (l.take k)*m+a)(v:Below base w wr)(u:w.heap.size<=wr.heap.size)(s:base<=g)
  (o:z=((t%4294967296:Nat):Int)) (n:q=((t/4294967296:Nat):Int)) (A:i=((k+1:Nat):Int)):ScInv base (.slice (some ⟨g,0,none⟩) l.length c) l m a w (.int .u64 q) (.int .i64 i) (wr.setCell ⟨g,k,none⟩ (.int .u32 z)):=by
 subst n A;refine⟨k+1,t/4294967296,lo++[t%4294967296],f,Z,Z,e,by simp[b],d9 j (Ni _ (by decide)),?_,?_,v.setCell (p:=⟨g,k,none⟩) s _,by simpa[World.setCell]using u⟩
 ·have:=d.put (i:=k) (by simp[b];omega) z _ o;rw[DW b f]at this;exact this
 rw[dO lo _ k b,df l k f,r,MH];generalize 4294967296^k=P at*;have B:P*(t%4294967296)+P*4294967296*(t/4294967296)=P*t:=by rw[Mu,<-MB,Nat.mod_add_div]
 have D:P*t=P*x*m+P*h:=by rw[y,MB,Mu]
 rw[M5];omega
theorem uZ(base:Nat)(v:Value)(l:List Nat)(m a:Nat)(w:World)(h:OwnN w base v l)(z:Digs l)(hb:base<=w.heap.size)(hl:l.length<=1048576)(hm:m<4294967296)(ha:a<4294967296):
  Calls Tryz.prog 246 #[v,.int .u32 m,.int .u32 a] w (Kb base l m a w):=by
 obtain⟨A,c,rfl,_⟩:=h.is z;have Y:=J h;have S:=J z;clear h z
 go_enter Tryz.func246,Tryz.ntmps246
 go_wp2
 go_loopw [7,15] (fun cb i wr=>ScInv base (.slice A l.length c) l m a w cb i wr) (fun _ i _=>l.length-(intOf i).toNat)
 case atStart=>exact⟨0,a,[],Mp _,Z,Z,ha,Z,fun d z=>by simp at z,Y.out,by simp[ay],Below.refl _ _,L4 _⟩
 case round=>
  obtain⟨k,q,lo,hk,rfl,rfl,y,B,H,o,u,I,F⟩:=hrel;have s:=J o;have W:=J u;have O:=J I;have b:=J B;have r:=J H;clear o u I B H;by_cases K:k<l.length
  ·obtain⟨g,a4,hv,hg,_⟩:=s.out.lies (by have:=b.out;simp;omega);injection hv with X U N
   subst X N;have j:k<(lo++l.drop k).length:=by have:=b.out;simp;omega
   have E:=s.out.cell j;have a3:=s.out.free k;have C:(lo++l.drop k)[k]=l[k]:=by
    have h1:=b.out;rw[O5 (by omega),OR];congr 1;omega
   rw[C]at E;have n:l[k]<4294967296:=S.out _ (M7 K);obtain⟨x,P⟩:∃x,l[k]=x:=⟨_,rfl⟩;rw[P]at E n;have HX:=J P;obtain⟨Q,T⟩:=wA (d:=0) n hm (by omega) y;obtain⟨L,f⟩:∃L,x*m=L:=⟨_,rfl⟩;have a1:(x:Int)*(m:Int)=(L:Int):=by rw[<-f];simp
   rw[f]at Q T;have a0:=J f;have HG:=J hg;clear C P f U j hg
   go_wp2
   go_roundw
   case rel=>exact ScInv.next (t:=L+q) K HX.out (by rw[a0.out]) (by omega) b.out r.out s.out W.out O.out F HG.out (by omega) (by omega) (by omega)
   case measure=>simp[intOf];omega
  obtain rfl:k=l.length:=by omega
  have D:Hid (OwnN wr base (.slice A l.length c) lo):=by have:=s.out;rwa[PU,Mq]at this
  have G:Hid (ay lo+4294967296^l.length*q=ay l*m+a):=by have:=W.out;rwa[M6]at this
  have a2:lo.length<=1048576:=by have:=b.out;omega
  have R:base<=wr.heap.size:=Ma hb F;clear s W;by_cases h0:0<q
  ·go_wp2_with (at_builtin;refine gm base _ lo _ q (.tmp 37) (.tmp 40) rfl rfl rfl rfl D.out (by omega) (by omega) R ?_;intro v2 w2 e p;have M:=J e;have V:=J p;clear e p)
   go_ret
   exact⟨v2,lo++[q],Z,M.out,d9 r.out y,by rw[dO lo q _ b.out];exact G.out,by have:=b.out;simp;omega,O.out.trans V.out.below⟩
  obtain rfl:q=0:=by omega
  go_wp2
  go_ret
  exact⟨_,lo,Z,D.out,r.out,by have:=G.out;omega,by have:=b.out;omega,O.out⟩
def cc(c:UInt8):Bool:=decide (48<=c.toNat)&&decide (c.toNat<=57)
def cI(l:List UInt8):Nat:=l.foldl (fun a c=>a*10+(c.toNat-48)) 0
theorem oh:∀(l:List UInt8) (a:Nat),l.foldl (fun a c=>a*10+(c.toNat-48)) a=a*10^l.length+cI l
 |[],a=>by simp[cI]
 |c::l,a=>by
  have b:=oh l (a*10+(c.toNat-48));have d:=oh l (0*10+(c.toNat-48));unfold cI at b⊢;rw[NG,NG,b,d,L9,MH,M5,Pv,MT,Mu,Mt 10,N5];rfl
theorem yG(a b:List UInt8):cI (a++b)=cI a*10^b.length+cI b:=by
 have h:=oh b (cI a);unfold cI at h⊢;rw[OS];exact h
theorem DX{l:List UInt8}{k:Nat}{c:UInt8}(h:l[k]? =some c):cI (l.take (k+1))=cI (l.take k)*10+(c.toNat-48):=by
 obtain⟨a,rfl⟩:=L6.1 h;rw[Mx a,yG];simp[cI]
theorem pB(l:List UInt8)(k j:Nat)(h:k+j<=l.length):cI (l.take (k+j))=cI (l.take k)*10^j+cI ((l.drop k).take j):=by
 rw[List.take_add,yG];congr 3;simp;omega
def Jh(s:ByteArray)(w:World)(v i:Value)(wr:World):Prop:=
 ∃(k:Nat) (l:List Nat),k<=s.size/\i=.int .i64 k/\OwnN wr w.heap.size v l/\Digs l/\ay l=cI (s.data.toList.take k)/\l.length<=k/\Below w.heap.size w wr
def PbInv(s:ByteArray)(W:World)(k:Nat)(vi va vp vj:Value)(wr:World):Prop:=
 ∃(j a p:Nat),j<=9/\k+j<=s.size/\vi=.int .i64 ((k+j:Nat):Int)/\va=.int .u32 a/\vp=.int .u32 p/\vj=.int .i64 j/\p=10^j/\a<p/\a=cI ((s.data.toList.drop k).take j)/\wr=W
theorem PbInv.next{s:ByteArray}{W:World}{k j a p:Nat}{c:UInt8}{x y z u:Int}(m:j<9)(q:k+j<s.size)(b:p=10^j)(n:a<p)(f:a=cI ((s.data.toList.drop k).take j))(i:s.data.toList[k+j]? =some c)(o:48<=c.toNat/\c.toNat<=57)
  (h:x=((k+(j+1):Nat):Int)) (g:y=((a*10+(c.toNat-48):Nat):Int)) (d:z=((p*10:Nat):Int)) (e:u=((j+1:Nat):Int)):PbInv s W k (.int .i64 x) (.int .u32 y) (.int .u32 z) (.int .i64 u) W:=by
 subst h g d e;refine⟨j+1,_,_,m,by omega,Z,Z,Z,Z,by rw[b,MH],by omega,?_,Z⟩;rw[f,DX (l:=s.data.toList.drop k) (k:=j) (c:=c) (by rw[Nh];exact i)]
theorem AZ(s:ByteArray)(w:World)(h1:1<=s.size)(h2:s.size<=4000)(hd:∀(k:Nat) (h:k<s.size),48<=s[k].toNat/\s[k].toNat<=57)(hc:1<s.size->∀h:0<s.size,s[0].toNat≠48):Calls Tryz.prog 211 #[.string s] w (gF (fun W v=>∃a,v=.tuple #[a,.int .i64 0]/\IsD W a (cI s.data.toList)) w):=by
 have HD:=J hd;have a1:Hid (∀k (h:k<s.size),s.data.toList[k]? =some s[k]):=fun k h=>by
  rw[L3 (by rw[MY];exact h)];rfl
 clear hd;have e0:s.size=s.data.toList.length:=by rw[MY];rfl
 have E0:=J e0;clear e0
 go_enter Tryz.func211,Tryz.ntmps211
 have e1:¬(4000:Int)<(s.size:Int):=by omega
 have e2:((s.size:Int)==0)=false:=by simpa using(by omega:¬(s.size:Int)=0)
 have e5:(0:Int)<(s.size:Int):=by omega
 have B:∀(h:0<s.size),(1<s.size/\((s[0].toNat:Int)==48)=false)\/s.size=1:=fun h=>by
  rcases MA 1 s.size with U|U
  ·exact .inl ⟨U,by have:=hc U h;simpa using(by omega:¬(s[0].toNat:Int)=48)⟩
  exact .inr (by omega)
 rcases B (by omega)with⟨h3,h4⟩|h3
 ·have e3:(1:Int)<(s.size:Int):=by omega
  go_wp2
  clear e3 h3 h4 B hc
  go_loopw [4] (fun i wr=>wr=w/\∃k:Nat,k<=s.size/\i=.int .i64 k) (fun i _=>s.size-(intOf i).toNat)
  case atStart=>exact⟨Z,0,Mp _,Z⟩
  case round=>
   obtain⟨Q,k,hk,rfl⟩:=hrel;obtain rfl:w=wr:=Q.symm;by_cases p:k<s.size
   ·obtain⟨x,C⟩:=HD.out k p;have f1:¬((s[k].toNat:Int)<48):=by omega
    have f2:¬((57:Int)<(s[k].toNat:Int)):=by omega
    go_wp2
    go_roundw
    case rel=>first|exact⟨trivial,k+1,p,Z⟩|exact⟨Z,k+1,p,Z⟩
    case measure=>simp[intOf];omega
   obtain rfl:k=s.size:=by omega
   go_wp2
   go_loopw [5,6] (fun v i wr=>Jh s w v i wr) (fun _ i _=>s.size-(intOf i).toNat)
   case atStart=>exact⟨0,[],Mp _,Z,OwnN.nil _ _,fun d hd=>by simp at hd,Z,L4 _,Below.refl _ _⟩
   case round=>
    obtain⟨k,l,hk,rfl,q,F,b,a4,X⟩:=hrel;have HO:=J q;have O:=J b;have HL:=J F;have r:=J X;have K:=X.size;clear q b F X;by_cases p:k<s.size
    ·go_wp2
     rename World=>W
     go_loopw [6,7,8,9] (fun vi va vp vj wr=>PbInv s W k vi va vp vj wr) (fun _ _ _ j _=>9-(intOf j).toNat)
     case atStart=>exact⟨0,0,1,by omega,by omega,Z,Z,Z,Z,Z,by omega,by simp[cI],Z⟩
     case round=>
      obtain⟨j,a,T,hj,E,rfl,rfl,rfl,rfl,M,ha,he,hW⟩:=hrel;subst hW;have L:=J M;have S:=J he;have a5:T<=1000000000:=by rw[M];exact MR (by decide) hj
      clear M he;by_cases P:j<9/\k+j<s.size
      ·obtain⟨G,o⟩:=P;have b0:T<=100000000:=by rw[L.out];exact MR (by decide) (show j<=8 by omega)
       obtain⟨x,C⟩:=HD.out (k+j) o;obtain⟨c,H⟩:∃c,s[k+j]=c:=⟨_,rfl⟩;have HC:=J (show s.data.toList[k+j]? =some c by rw[a1.out (k+j) o,H]);rw[H]at x C;have a0:(48:Int)<=(c.toNat:Int):=by omega
       have a3:(c.toNat:Int)<=57:=by omega
       go_wp2
       go_roundw
       case rel=>exact PbInv.next G o L.out ha S.out HC.out ⟨x,C⟩ (by omega) (by omega) (by omega) (by omega)
       case measure=>simp[intOf];omega
      have a9:0<j:=by omega
      have a2:¬((j:Int)<9/\((k+j:Nat):Int)<(s.size:Int)):=by omega
      have HS:=J (uZ w.heap.size _ l T a _ HO.out HL.out K (by omega) (by omega) (by omega));by_cases G:j<9
      ·have o:¬(k+j<s.size):=by omega
       go_wp2_with fail
       refine HS.out.mono ?_;rintro e w5 ⟨v5,Y,rfl,f,m,g,N,n⟩;have u:=J f;have z:=J g;have y:=J m;have t:=J n;clear f g m n
       go_wp2
       go_roundw
       case rel=>exact⟨k+j,Y,E,Z,u.out,y.out,by rw[z.out,O.out,L.out,S.out,pB _ _ _ (by have:=E0.out;omega)],by omega,r.out.trans t.out⟩
       case measure=>simp[intOf];omega
      go_wp2_with fail
      refine HS.out.mono ?_;rintro e w5 ⟨v5,Y,rfl,f,m,g,N,n⟩;have u:=J f;have z:=J g;have y:=J m;have t:=J n;clear f g m n
      go_wp2
      go_roundw
      case rel=>exact⟨k+j,Y,E,Z,u.out,y.out,by rw[z.out,O.out,L.out,S.out,pB _ _ _ (by have:=E0.out;omega)],by omega,r.out.trans t.out⟩
      case measure=>simp[intOf];omega
    obtain rfl:k=s.size:=by omega
    have b:ay l=cI s.data.toList:=by have U:=O.out;rwa[E0.out,M6]at U
    obtain⟨A,c,rfl,hi⟩:=HO.out.is HL.out;have HT:=J (o4 hi Z (by omega) b);clear hi b
    go_wp2_with fail
    refine HT.out.mono ?_;rintro e w6 ⟨v6,rfl,I,D⟩;have R:=J I;have V:=J (aE r.out D K);clear I D
    go_wp2
    go_ret2
    exact⟨_,Z,⟨_,Z,R.out⟩,V.out⟩
 have e3:¬(1:Int)<(s.size:Int):=by omega
 go_wp2
 clear e3 h3 B hc
 go_loopw [4] (fun i wr=>wr=w/\∃k:Nat,k<=s.size/\i=.int .i64 k) (fun i _=>s.size-(intOf i).toNat)
 case atStart=>exact⟨Z,0,Mp _,Z⟩
 case round=>
  obtain⟨Q,k,hk,rfl⟩:=hrel;obtain rfl:w=wr:=Q.symm;by_cases p:k<s.size
  ·obtain⟨x,C⟩:=HD.out k p;have f1:¬((s[k].toNat:Int)<48):=by omega
   have f2:¬((57:Int)<(s[k].toNat:Int)):=by omega
   go_wp2
   go_roundw
   case rel=>first|exact⟨trivial,k+1,p,Z⟩|exact⟨Z,k+1,p,Z⟩
   case measure=>simp[intOf];omega
  obtain rfl:k=s.size:=by omega
  go_wp2
  go_loopw [5,6] (fun v i wr=>Jh s w v i wr) (fun _ i _=>s.size-(intOf i).toNat)
  case atStart=>exact⟨0,[],Mp _,Z,OwnN.nil _ _,fun d hd=>by simp at hd,Z,L4 _,Below.refl _ _⟩
  case round=>
   obtain⟨k,l,hk,rfl,q,F,b,a4,X⟩:=hrel;have HO:=J q;have O:=J b;have HL:=J F;have r:=J X;have K:=X.size;clear q b F X;by_cases p:k<s.size
   ·go_wp2
    rename World=>W
    go_loopw [6,7,8,9] (fun vi va vp vj wr=>PbInv s W k vi va vp vj wr) (fun _ _ _ j _=>9-(intOf j).toNat)
    case atStart=>exact⟨0,0,1,by omega,by omega,Z,Z,Z,Z,Z,by omega,by simp[cI],Z⟩
    case round=>
     obtain⟨j,a,T,hj,E,rfl,rfl,rfl,rfl,M,ha,he,hW⟩:=hrel;subst hW;have L:=J M;have S:=J he;have a5:T<=1000000000:=by rw[M];exact MR (by decide) hj
     clear M he;by_cases P:j<9/\k+j<s.size
     ·obtain⟨G,o⟩:=P;have b0:T<=100000000:=by rw[L.out];exact MR (by decide) (show j<=8 by omega)
      obtain⟨x,C⟩:=HD.out (k+j) o;obtain⟨c,H⟩:∃c,s[k+j]=c:=⟨_,rfl⟩;have HC:=J (show s.data.toList[k+j]? =some c by rw[a1.out (k+j) o,H]);rw[H]at x C;have a0:(48:Int)<=(c.toNat:Int):=by omega
      have a3:(c.toNat:Int)<=57:=by omega
      go_wp2
      go_roundw
      case rel=>exact PbInv.next G o L.out ha S.out HC.out ⟨x,C⟩ (by omega) (by omega) (by omega) (by omega)
      case measure=>simp[intOf];omega
     have a9:0<j:=by omega
     have a2:¬((j:Int)<9/\((k+j:Nat):Int)<(s.size:Int)):=by omega
     have HS:=J (uZ w.heap.size _ l T a _ HO.out HL.out K (by omega) (by omega) (by omega));by_cases G:j<9
     ·have o:¬(k+j<s.size):=by omega
      go_wp2_with fail
      refine HS.out.mono ?_;rintro e w5 ⟨v5,Y,rfl,f,m,g,N,n⟩;have u:=J f;have z:=J g;have y:=J m;have t:=J n;clear f g m n
      go_wp2
      go_roundw
      case rel=>exact⟨k+j,Y,E,Z,u.out,y.out,by rw[z.out,O.out,L.out,S.out,pB _ _ _ (by have:=E0.out;omega)],by omega,r.out.trans t.out⟩
      case measure=>simp[intOf];omega
     go_wp2_with fail
     refine HS.out.mono ?_;rintro e w5 ⟨v5,Y,rfl,f,m,g,N,n⟩;have u:=J f;have z:=J g;have y:=J m;have t:=J n;clear f g m n
     go_wp2
     go_roundw
     case rel=>exact⟨k+j,Y,E,Z,u.out,y.out,by rw[z.out,O.out,L.out,S.out,pB _ _ _ (by have:=E0.out;omega)],by omega,r.out.trans t.out⟩
     case measure=>simp[intOf];omega
   obtain rfl:k=s.size:=by omega
   have b:ay l=cI s.data.toList:=by have U:=O.out;rwa[E0.out,M6]at U
   obtain⟨A,c,rfl,hi⟩:=HO.out.is HL.out;have HT:=J (o4 hi Z (by omega) b);clear hi b
   go_wp2_with fail
   refine HT.out.mono ?_;rintro e w6 ⟨v6,rfl,I,D⟩;have R:=J I;have V:=J (aE r.out D K);clear I D
   go_wp2
   go_ret2
   exact⟨_,Z,⟨_,Z,R.out⟩,V.out⟩
theorem DY(s:ByteArray)(c:1<=s.size)(i:s.size<=4000)(d:s.data.toList.all cc=true)(l:¬(1<s.size/\((s.data.toList[0]?).getD 0).toNat=48)):Ct 211 [sT s] (.tup [aH (cI s.data.toList),iT 0]):=eU (K:=fun W v=>∃a,v=.tuple #[a,.int .i64 0]/\IsD W a (cI s.data.toList)) ⟨_,Tryz.func211,Z,Z⟩ (fun G W v g h=>by
  obtain⟨a,rfl,c⟩:=h;exact .tup [a,.int .i64 0] _ ((fO g c).cons (.sc _ .nil)) .nil) fun G w vs _ _ f=>by
 obtain⟨u,rfl,m⟩:=dp f;cases m;have b:∀(k:Nat) (h:k<s.size),s.data.toList[k]? =some s[k]:=fun k h=>by
  rw[L3 (by rw[MY];exact h)];rfl
 refine AZ s w c i (fun k h=>?_) (fun h j e=>?_)
 ·have:=Mh.1 d _ (L7 (b k h));unfold cc at this;simpa using this
 refine l ⟨h,?_⟩;rw[b 0 j];exact e
def me(l:List UInt8):Int:=if l.any (fun c=>c==44||c==58)then((l.takeWhile fun c=> !(c==44||c==58)).length:Int)else-1
def LP(l:List UInt8):Bool:=l.all fun c=>decide (c.toNat<128)
theorem Kc{l:List UInt8}(h:LP l=true):∀(j:Nat) b,l[j]? =some b->b.toNat<128:=fun j b a=>of_decide_eq_true (Mh.1 h b (L7 a))
theorem u3:∀l:List UInt8,Lib.indexAny l [44,58]=me l
 |[]=>rfl
 |b::l=>by
  have e:=u3 l;unfold Lib.indexAny;rw[e];have d:([44,58]:List UInt8).contains b=(b==44||b==58):=by
   simp only[List.contains,List.elem];cases b==44<;>cases b==58<;>rfl
  rw[d];unfold me;rw[Pp,M0];cases h:(b==44||b==58)
  ·simp only[Qi,Bool.not_false,if_true,N2,if_false];by_cases a:l.any (fun c=>c==44||c==58)=true
   ·rw[if_pos a,if_pos a,if_neg (by simp)];simp
   rw[if_neg a,if_neg a,if_pos (by decide)]
  simp
theorem lW(s p:ByteArray):Ct 77 [sT s,sT p] (bT (Lib.hasPrefix s.data.toList p.data.toList)):=Ct.sc ⟨_,Tryz.func77,Z,Z⟩ fun G w vs _ _ c=>by
 obtain⟨u,x,rfl,b,a⟩:=d5 c;cases b;cases a;exact(Tryz.strings_HasPrefix s p w).mono fun _ _ ⟨b,a⟩=>⟨b,by rw[a];exact Below.refl _ _⟩
theorem dF(s:ByteArray)(l h:Nat):(s.extract l h).data.toList=(s.data.toList.take h).drop l:=by
 rw[P6,Array.toList_extract,List.extract_eq_take_drop,List.drop_take]
theorem aL(s:ByteArray):s.size=s.data.toList.length:=by simp
def bD(s:ByteArray)(i:Nat):UInt8:=(s.data.toList[i]?).getD 0
theorem bN{s:ByteArray}{i:Nat}(h:i<s.size):s.data.toList[i]? =some (bD s i):=by
 rw[aL]at h;unfold bD;rw[L3 h];rfl
def j7(l:List UInt8):Nat:=(l.takeWhile cc).length
theorem wP(l:List UInt8):j7 l<=l.length:=(Oc _).length_le
theorem Ge{s:ByteArray}{i:Nat}(a:(s.data.toList.drop i).takeWhile cc=(s.data.toList.takeWhile cc).drop i)(h:i<s.size)(c:cc (bD s i)=true):(s.data.toList.drop (i+1)).takeWhile cc=(s.data.toList.takeWhile cc).drop (i+1)/\i+1<=j7 s.data.toList:=by
 have b:i<s.data.toList.length:=by rw[<-aL];exact h
 have e:s.data.toList[i]=bD s i:=by have:=bN h;rw[L3 b]at this;exact MW this
 rw[Mc b,M0,e,c,if_pos Z]at a;constructor
 ·have:=congrArg List.tail a;simpa[List.tail_drop]using this
 have:=congrArg List.length a;rw[L9,MQ]at this;unfold j7;omega
theorem IH{s:ByteArray}{i:Nat}(c:(s.data.toList.drop i).takeWhile cc=(s.data.toList.takeWhile cc).drop i)(d:i<=j7 s.data.toList)(a:((decide (i<s.size)&&decide (48<=(bD s i).toNat))&&decide ((bD s i).toNat<=57))=false):i=j7 s.data.toList:=by
 have f:(s.data.toList.drop i).takeWhile cc=[]:=by
  by_cases h:i<s.size
  ·have b:i<s.data.toList.length:=by rw[<-aL];exact h
   have e:s.data.toList[i]=bD s i:=by have:=bN h;rw[L3 b]at this;exact MW this
   rw[Mc b,M0,e];rw[decide_eq_true h,Of]at a;rw[show cc (bD s i)=false from a];rfl
  rw[Md (by rw[<-aL];omega)];rfl
 rw[f]at c;have:=congrArg List.length c;rw[MQ]at this;unfold j7 at d⊢;simp only[Mg]at this;omega
theorem LQ{a b:Nat}(h:a=b):aH a=aH b:=by rw[h]
theorem A5{s t:ByteArray}(k:1<t.size)(d:(bD t 0).toNat=48)(f:t.size<=s.size)(g:cI t.data.toList=cI s.data.toList)(b:t.data.toList.all cc=true):1<=(t.extract 1 t.size).size/\(t.extract 1 t.size).size<=s.size/\cI (t.extract 1 t.size).data.toList=cI s.data.toList/\(t.extract 1 t.size).data.toList.all cc=true:=by
 have e:(t.extract 1 t.size).data.toList=t.data.toList.tail:=by
  rw[dF,aL,M6,List.drop_one]
 have j:(t.extract 1 t.size).size=t.size-1:=by simp[Mn]
 have c:t.data.toList=bD t 0::t.data.toList.tail:=by
  have:=bN (s:=t) (i:=0) (by omega);cases h:t.data.toList with
  |nil=>rw[h]at this;cases this
  |cons a l=>rw[h]at this;simp at this;rw[List.tail_cons,<-this]
 refine⟨by omega,by omega,?_,?_⟩
 ·rw[e,<-g];conv=>rhs;rw[c]
  unfold cI;rw[NG,d]
 rw[e];rw[c,Ny,L8]at b;exact b.2
theorem Gf(s:ByteArray)(m:s.size<=1048576):Ct 147 [sT s] (nI (j7 s.data.toList)):=by
 refine Ct.of (n:=23) Tryz.func147 Z Z Z Z Z fun w0 G0=>?_
 refine ab<|aj 1 Z<|ab<|aj 1 Z<|ab<|aB<|aR (fun j k=>∃(i:Nat),(i<=s.size/\(s.data.toList.drop i).takeWhile cc=(s.data.toList.takeWhile cc).drop i/\i<=j7 s.data.toList)/\j=s.size-i/\k=⟨23,[(0,sT s),(3,nI i)],[],[]⟩) 0 0 ⟨0,⟨by omega,Z,by omega⟩,Z,Z⟩ .rf ?_;rintro j k ⟨i,⟨l,d,h⟩,rfl,rfl⟩;refine ab<|ab<|ae<|aa 2 Z<|af (t:=nI s.size) Z Z Z (cW Z aJ Z)<|af (t:=bT (decide (i<s.size))) Z Z Z (ah (ai Z Z Z Zy) (ar (gA i s.size)))<|aa 1 Z<|aq (t:=sT s) Z Z Z Z (fun a=>au Z Z)<|aq (t:=nI i) Z Z Z Z (fun a=>au Z Z)<|aq (t:=.sc (.int .u8 (((bD s i).toNat:Nat):Int))) Z Z Z Z (fun a=>ce Z aJ (if_pos a) (if_pos a) Z (bN (of_decide_eq_true a)))<|aq (t:=bT (decide (48<=(bD s i).toNat))) Z Z Z Z (fun a=>ah (ai Z Z (if_pos a) (fun _=>rfl)) (ar (Ez 48 ((bD s i).toNat))))<|af (t:=bT ((decide (i<s.size))&&(decide (48<=(bD s i).toNat)))) Z Z Z (aK Z Z (fun c=>(if_pos c).trans (ar (by rw[c];rfl))) (fun c=>(ar (by rw[c];rfl))))<|aa 1 Z<|aq (t:=sT s) Z Z Z Z (fun a=>au Z Z)<|aq (t:=nI i) Z Z Z Z (fun a=>au Z Z)<|aq (t:=.sc (.int .u8 (((bD s i).toNat:Nat):Int))) Z Z Z Z (fun a=>ce Z aJ (if_pos a) (if_pos a) Z (bN (of_decide_eq_true (OZ.1 a).1)))<|aq (t:=bT (decide ((bD s i).toNat<=57))) Z Z Z Z (fun a=>ah (ai Z (if_pos a) Z (fun _=>rfl)) (ar (Ez ((bD s i).toNat) 57)))<|af (t:=bT (((decide (i<s.size))&&(decide (48<=(bD s i).toNat)))&&(decide ((bD s i).toNat<=57)))) Z Z Z (aK Z Z (fun c=>(if_pos c).trans (ar (by rw[c];rfl))) (fun c=>(ar (by rw[c];rfl))))<|ag<|aF Z (fun b=>?_) (fun b=>?_)
 ·rw[L8,L8]at b;have g:=of_decide_eq_true b.1.1;have e:=Ge d g (by unfold cc;rw[b.1.2,b.2];rfl);refine am<|aB<|ae<|aa 1 Z<|af (t:=nI (i+1)) Z Z Z (ah (ai Z Z Z Zy) (bi (by omega)))<|aa 1 Z<|ag<|⟨_,_,?_,⟨i+1,?_,Z,Z⟩,.rf⟩
  ·omega
  exact⟨by omega,e.1,e.2⟩
 have f:=IH d h b;refine aT<|ab<|aj 2 Z<|aw<|⟨.inr Z,_,.cons Z .nil,d8 (by rw[<-f]),Z⟩
theorem np(s:ByteArray)(u:1<=s.size)(q:s.size<=4000)(p:s.data.toList.all cc=true):Ct 148 [sT s] (aH (cI s.data.toList)):=by
 refine Ct.of (n:=21) Tryz.func148 Z Z Z Z Z fun w0 G0=>?_
 refine ab<|ae<|af (t:=.sl []) Z Z Z (cz (.inr Z) dk)<|ag<|ab<|aB<|aR (fun m o=>∃(t:ByteArray),(1<=t.size/\t.size<=s.size/\cI t.data.toList=cI s.data.toList/\t.data.toList.all cc=true)/\m=t.size/\o=⟨21,[(0,sT t)],[],[]⟩) 0 0 ⟨s,⟨by omega,L4 _,Z,p⟩,Z,Z⟩ .rf ?_;rintro m o ⟨t,⟨r,k,c,b⟩,rfl,rfl⟩;refine ab<|ab<|ae<|aa 1 Z<|af (t:=nI t.size) Z Z Z (cW Z aJ Z)<|af (t:=bT (decide (1<t.size))) Z Z Z (ah (ai Z Z Z Zy) (ar (oF t.size 1)))<|aa 1 Z<|aq (t:=sT t) Z Z Z Z (fun e=>au Z Z)<|aq (t:=.sc (.int .u8 (((bD t 0).toNat:Nat):Int))) Z Z Z Z (fun e=>ce (j:=0) Z aJ (if_pos e) Z Z (bN (by have:=of_decide_eq_true e;omega)))<|aq (t:=bT (decide ((bD t 0).toNat=48))) Z Z Z Z (fun e=>ah (ai Z (if_pos e) Z (fun _=>rfl)) (ar (jF ((bD t 0).toNat) 48)))<|af (t:=bT ((decide (1<t.size))&&(decide ((bD t 0).toNat=48)))) Z Z Z (aK Z Z (fun f=>(if_pos f).trans (ar (by rw[f];rfl))) (fun f=>(ar (by rw[f];rfl))))<|ag<|aF Z (fun a=>?_) (fun a=>?_)
 ·rw[L8]at a;have i:=of_decide_eq_true a.1;have g:=of_decide_eq_true a.2;refine am<|aB<|ae<|aa 1 Z<|af (t:=sT (t.extract 1 t.size)) Z Z Z (cJ (l:=1) (h:=t.size) Z aJ Z ⟨_,Z⟩ Z (by omega) (by omega))<|aa 1 Z<|ag<|⟨_,_,?_,⟨t.extract 1 t.size,?_,Z,Z⟩,.rf⟩
  ·simp only[Mn];omega
  exact A5 i g k c b
 have d:¬(1<t.size/\(bD t 0).toNat=48):=fun h=>by rw[decide_eq_true h.1,decide_eq_true h.2]at a;cases a
 refine aT<|ab<|ae<|aa 1 Z<|af Z Z Z (ak Z (DY t (by omega) (by omega) b d) Z Z)<|aa 5 Z<|ag<|ab<|aj 2 Z<|aw<|⟨.inr Z,_,.cons Z .nil,LQ c,Z⟩
end Go.Proofs.YtfoejfohbkmmeaaGreatDoor
