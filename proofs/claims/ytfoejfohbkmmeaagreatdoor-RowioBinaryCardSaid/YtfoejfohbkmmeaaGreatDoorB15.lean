import Derived.Test.YtfoejfohbkmmeaaGreatDoorB02
import Derived.Test.YtfoejfohbkmmeaaGreatDoorB00
import Derived.Test.YtfoejfohbkmmeaaGreatDoorB14
import Derived.Laws.CopyOwn
import Derived.Laws.Bits64
import Derived.Deep.QuietTactic
import Derived.BigQuiet
set_option maxRecDepth 100000
set_option maxHeartbeats 2000000
namespace Go.Proofs.YtfoejfohbkmmeaaGreatDoor
open Go.RowKit
structure Rd (α:Type) where
 size:Nat
 rd:World->List Value->α->Prop
 len:∀{w cs a},rd w cs a->cs.length=size
 keep:∀{w w' cs a},rd w cs a->Below w.heap.size w w'->rd w' cs a
 one:∀{w cs a},rd w cs a->∀u∈cs,u.oneCell'=true
inductive Reads {α:Type} (R:Rd α) (W:World):List Value->List α->Prop
 |nil:Reads R W [] []
 |cons {cs xs:List Value} {a:α} {l:List α} (h:R.rd W cs a) (hs:Reads R W xs l):Reads R W (cs++xs) (a::l)
variable {α:Type} {R:Rd α}
def gU(K:World->Value->Prop)(w:World)(e:Ending)(w':World):Prop:=∃v,e=.returned v/\K w' v/\Below w.heap.size w w'
end Go.Proofs.YtfoejfohbkmmeaaGreatDoor
namespace Go.Proofs.YtfoejfohbkmmeaaGreatDoor
open Go.RowKit
open Lib renaming hid→J
theorem IsD.open_{W:World}{v:Value}{n:Nat}(h:IsD W v n):∃A c a,v=.slice A a.length c/\IsN W A c a/\Hid (a=az n):=by
 obtain⟨A,c,e,b⟩:=h;exact⟨A,c,az n,e,b,Z⟩
theorem IsN.isD{W:World}{A:Option Addr}{c n:Nat}{a:List Nat}(h:IsN W A c a)(b:a=az n):IsD W (.slice A a.length c) n:=by subst b;exact⟨A,c,Z,h⟩
theorem OwnN.isD{W:World}{base:Nat}{v:Value}{n:Nat}(h:OwnN W base v (az n)):IsD W v n:=h.is (cE n)
theorem IsN.cut{W:World}{A:Option Addr}{c k:Nat}{a:List Nat}(h:IsN W A c a)(g:k<=a.length)(f:a.take k=az (aE a))(d:A=none->k=0):IsD W (.slice A k k) (aE a):=by
 have b:(az (aE a)).length=k:=by rw[<-f,Ox];omega
 have i:=h.cap;have j:=h.max;refine⟨A,k,by rw[b],?_,fun e=>⟨by rw[b];exact d e,d e⟩,by omega,by omega,cE _⟩;have:=h.at_.takeN k;rwa[f]at this
theorem IsN.nz{W:World}{A:Option Addr}{c:Nat}{a:List Nat}(h:IsN W A c a)(d:0<a.length):∃b off,A=some ⟨b,off,none⟩:=by
 obtain⟨b,off,e,_⟩:=h.digit d;exact⟨b,off,e⟩
theorem tz(A:Option Addr)(c:Nat)(f:List Nat)(w:World)(h:IsN w A c f)(_hl:f.length<=1073741823):
  Calls Tryz.prog 193 #[.slice A f.length c] w (gU (fun W v=>IsD W v (aE f)) w):=by
 have m:=J h;have t:=h.cap;have x:=h.max;clear h
 go_enter Tryz.func193,Tryz.ntmps193
 go_wp2
 go_loop [3] (fun i=>∃k:Nat,k<=f.length/\i=.int .i64 k/\(∀(j:Nat) (q:j<f.length),k<=j->f[j]=0)) (fun i=>(intOf i).toNat)
 case atStart=>exact⟨f.length,Oh _,Z,fun j q h=>by omega⟩
 case round=>
  obtain⟨k,o,rfl,B⟩:=hrel;have u:=J B;clear B;have g:(k=0\/∃h:k-1<f.length,f[k-1]≠0)->f.take k=az (aE f):=fun r=>vH f k o m.out.ok u.out r
  have z:=J g;clear g;by_cases G:0<k
  ·obtain⟨b,off,rfl,F,C⟩:=m.out.digit (i:=k-1) (by omega);have s:=C (k-1) (by omega);obtain⟨d,p⟩:∃d,f[k-1]'(by omega)=d:=⟨_,rfl⟩;rw[p]at s;have y:=J p;clear C p;by_cases l:d=0
   ·subst l
    go_wp2
    go_round
    case rel=>
     refine⟨k-1,by omega,by go_num,fun j q h=>?_⟩;by_cases e:j=k-1
     ·subst e;exact y.out
     exact u.out j q (by omega)
    case measure=>simp[intOf];omega
   have n:=J (z.out (.inr ⟨by omega,by rw[y.out];exact l⟩));have E:((d:Int)==0)=false:=by simpa using l
   go_wp2
   go_ret
   exact⟨_,Z,m.out.cut o n.out (fun e=>by cases e),Below.refl _ _⟩
  obtain rfl:k=0:=by omega
  have n:=J (z.out (.inl Z));cases A with
  |none=>
   obtain⟨D,rfl⟩:=m.out.nil rfl
   go_wp2
   go_ret
   exact⟨_,Z,m.out.cut o n.out (fun _=>rfl),Below.refl _ _⟩
  |some a=>
   go_wp2
   go_ret
   exact⟨_,Z,m.out.cut o n.out (fun _=>rfl),Below.refl _ _⟩
theorem li{v:Value}{n:Nat}{w:World}(h:IsD w v n)(a:(az n).length<=1073741823):Calls Tryz.prog 193 #[v] w (gU (fun W v=>IsD W v n) w):=by
 obtain⟨A,c,rfl,b⟩:=h;have:=tz A c (az n) w b a;rwa[aS]at this
theorem qR(n:Nat)(w:World)(y:n<18446744073709551616):Calls Tryz.prog 149 #[.int .u64 n] w (gU (fun W v=>IsD W v n) w):=by
 have p:aE [n%4294967296,n/4294967296]=n:=by simp only[aE];omega
 have f:Digs [n%4294967296,n/4294967296]:=fun d f=>by
  simp only[OC,O8,or_false]at f;rcases f with rfl|rfl<;>omega
 obtain⟨W,o,a,b,l⟩:=xe w 50 #[.int .u32 ((n:Int)%4294967296),.int .u32 ((n:Int)/4294967296)];have m:IsN W (some ⟨w.heap.size,0,none⟩) 2 [n%4294967296,n/4294967296]:=by
  refine⟨fun _=>⟨w.heap.size,0,Z,by omega,fun j u s=>?_⟩,fun e=>(by cases e),by simp,by omega,f⟩;rw[Pk,b.cell j,<-s];simp[cG]
 have g:=J (tz (some ⟨w.heap.size,0,none⟩) 2 [n%4294967296,n/4294967296] W m (by simp));rw[p]at g;have t:=J o;have q:=J a;have x:=a.size;clear p f m o a b l
 go_enter Tryz.func149,Tryz.ntmps149
 go_wp2_with fail
 rw[t.out];refine g.out.mono ?_;rintro e z ⟨r,rfl,c,h⟩;have i:=J c;have k:=J (q.out.trans (h.mono x));clear c h
 go_wp2
 go_ret
 exact⟨r,Z,i.out,k.out⟩
theorem ED{W:World}{g:Nat}{cur:List Value}{A:Option Addr}{c:Nat}{a:List Nat}(d:W.heap[g]? =some (.cells cur.toArray 50 (0,0)))(f:cur.length=a.length)(h:IsN W A c a):
  ∃w',(∀ty,(Builtin.copy_ #[63,63] ty #[.slice (some ⟨g,0,none⟩) a.length a.length,.slice A a.length c]).run Tryz.prog W=.ok (.int .i64 (a.length:Nat)) w')/\w'.heap[g]? =some (.cells (cG a).toArray 50 (0,0))/\Below g W w':=by
 have i:=Tryz.underlying63;have j:(Tryz.prog.info? 50).map (·.size)=some 1:=by kernel_rfl
 by_cases k:a.length=0
 ·obtain rfl:a=[]:=OB k;obtain rfl:cur=[]:=OB f;exact⟨W,fun ty=>by simpa[goInt]using run_copy_none (P:=Tryz.prog) W 63 63 ty _ (some ⟨g,0,none⟩) A 0 0 0 c i j Z,by simpa[cG]using d,Below.refl _ _⟩
 obtain⟨b,off,rfl⟩:=h.nz (by omega);have l:=fun ty=>run_copy_row (P:=Tryz.prog) W 63 63 ty _ g 0 a.length a.length ⟨b,off,none⟩ a.length c cur.toArray _ (cG a) i j d (by rw[dG];simp) h.at_.news (by rw[dG];simp;omega) (tk _)
 have e:((cur.toArray.toList.take 0++cG a)++cur.toArray.toList.drop (0+(cG a).length))=cG a:=by
  rw[Ov (by rw[dG];simp;omega)];simp
 exact⟨W.setRow g (cG a).toArray,fun ty=>by rw[l ty,e,dG];rfl,setRow_heap W g _ _ _ _ d,below_setRow (Below.refl _ _) (Oh _) _⟩
theorem DC{v:Value}{n:Nat}{w:World}(h:IsD w v n)(L:(az n).length<=1073741823):Calls Tryz.prog 172 #[v] w (gU (fun W v=>IsD W v n) w):=by
 have M:=J (li h L);obtain⟨Y,c0,rfl,_⟩:=h
 go_enter Tryz.func172,Tryz.ntmps172
 go_wp2_with fail
 refine M.out.mono ?_;rintro e z ⟨U,rfl,l,b⟩;obtain⟨V,c1,A,rfl,m,q⟩:=l.open_;have T:A.length<=1073741823:=by have:=q.out;rw[this];exact L
 have d:=J m;have K:=J b;have p:=b.size;clear l m b;obtain⟨W,i,o,r,f⟩:=fd z A.length (by omega);have i:=i .i64 .i64;have D:=J o;have x:=J r;have O:=J f;clear o r f;obtain⟨cur,a,F⟩:∃cur:List Value,W.heap[z.heap.size]? =some (.cells cur.toArray 50 (0,0))/\cur.length=A.length:=by
  rcases D.out.2 with⟨E,_⟩|⟨g,R,cur,E,_,N,_,_,C,_⟩
  ·cases E
  injection E with y X S
  injection y with y
  injection y with y
  subst y S;refine⟨cur.toList,by simpa using N,?_⟩;simpa using C
 have G:=J a;clear a;have H:=J (d.out.below x.out);obtain⟨Q,k,s,t⟩:=ED G.out F H.out;have k:=k 3;have B:=J s;have I:=J ((aF K.out x.out p).trans (t.mono p));clear s t
 go_wp2
 go_ret
 refine⟨_,Z,?_,I.out⟩;refine IsN.isD (n:=n) ?_ q.out;have c:=B.out;refine⟨fun _=>⟨z.heap.size,0,Z,(O3.1 c).1,fun j u P=>?_⟩,fun e=>(by cases e),Oh _,by omega,d.out.ok⟩;rw[cell_of_row Q z.heap.size (0+j) _ _ _ c];simpa using P
theorem GX{a b:Int}(h:a=b):Value.int .i64 a=.int .i64 b:=by rw[h]
theorem BO{n:Nat}(b:n<18446744073709551616):(n=0/\az n=[])\/(0<n/\n<4294967296/\az n=[n])\/(4294967296<=n/\az n=[n%4294967296,n/4294967296]):=by
 rcases Pg n with rfl|h
 ·exact .inl ⟨Z,Z⟩
 rcases OS n 4294967296 with a|a
 ·refine .inr (.inl ⟨h,a,?_⟩);rw[eO (by omega),Qg a,OY a];rfl
 refine .inr (.inr ⟨a,?_⟩);rw[eO (by omega),eO (by omega),show n/4294967296/4294967296=0 by omega,show n/4294967296%4294967296=n/4294967296 by omega];rfl
theorem DD(a b:Nat)(e:a<4294967296)(d:b<4294967296):bits .or .u64 (((a*4294967296:Nat)):Int) (b:Int)=((a*4294967296+b:Nat):Int):=by
 rw[u64_or_nat (a*4294967296) b (by omega) (by omega)];have c:(2:Nat)^32=4294967296:=by decide
 have:=PU (i:=32) (b:=b) (by rw[c];exact d) a;rw[Qp,c]at this;rw[this]
theorem DE{v:Value}{n:Nat}{w:World}(h:IsD w v n)(D:n<18446744073709551616):Calls Tryz.prog 266 #[v] w (gU (fun _ r=>r=.tuple #[.int .u64 n,.bool true]) w):=by
 have F:(az n).length<=2:=bk (by have:(4294967296^2:Nat)=18446744073709551616:=(by decide);omega);have C:=J (li h (by omega));obtain⟨K,u,rfl,_⟩:=h
 go_enter Tryz.func266,Tryz.ntmps266
 go_wp2_with fail
 refine C.out.mono ?_;rintro e L ⟨H,rfl,p,t⟩;obtain⟨I,z,G,rfl,q,s⟩:=p.open_;have f:=J q;have k:=J t;have a:=J s.out;clear p q t s C;rcases BO D with⟨B,g⟩|⟨B,A,g⟩|⟨B,g⟩
 ·rw[g]at a;obtain rfl:=a.out;subst B;clear g D
  go_wp2
  go_ret2
  exact⟨_,Z,Z,k.out⟩
 ·rw[g]at a;obtain rfl:=a.out;obtain⟨b,off,rfl,E,m⟩:=f.out.digit (i:=0) (by simp);have u:=m 0 (by simp);simp only[Rb,PI]at u;clear m g
  go_wp2
  go_ret2
  exact⟨_,Z,Z,k.out⟩
 rw[g]at a;obtain rfl:=a.out;obtain⟨b,off,rfl,E,m⟩:=f.out.digit (i:=0) (by simp);have u:=m 0 (by simp);have z:=m 1 (by simp);simp only[Rb,PI]at u;simp only[List.getElem_cons_succ,Rb]at z;have j:=DD (n/4294967296) (n%4294967296) (by omega) (by omega);rw[show n/4294967296*4294967296+n%4294967296=n by omega]at j;have l:=J j;have y:n%4294967296<4294967296:=by omega
 have x:n/4294967296<4294967296:=by omega
 obtain⟨lo,d⟩:∃lo,n%4294967296=lo:=⟨_,rfl⟩;obtain⟨o,c⟩:∃o,n/4294967296=o:=⟨_,rfl⟩;rw[d]at u l y f;rw[c]at z l x f;have M:=J (show n=o*4294967296+lo by omega);rw[d,c];clear j d c m g
 go_wp2
 go_quiet (fail)
 go_wp2
 go_ret2
 refine⟨_,Z,?_,bq k.out⟩;have A:=l.out;first
  |rfl
  |(rw[show(((o*4294967296:Nat)):Int)=(o:Int)*4294967296 by omega]at A;rw[<-A];rfl)
def bP(n:Nat):Nat:=if n=0 then 0 else 32*((az n).length-1)+Lib.bitLen ((az n).getD ((az n).length-1) 0)
theorem BP{d:Nat}(h:0<d)(a:d<2^64):0<Lib.bitLen d:=by
 have:=(Lib.bitLenAux_bounds 64 d a (by omega)).1;exact this
theorem J3{v:Value}{n:Nat}{w:World}(h:IsD w v n)(u:(az n).length<=1048576):Calls Tryz.prog 129 #[v] w (gU (fun _ r=>r=.int .i64 (bP n)) w):=by
 have y:=J (li h (by omega));obtain⟨K,C,rfl,_⟩:=h
 go_enter Tryz.func129,Tryz.ntmps129
 go_wp2_with fail
 refine y.out.mono ?_;rintro e L ⟨G,rfl,k,o⟩;obtain⟨H,M,a,rfl,l,f⟩:=k.open_;have j:=J l;have m:=J o;have A:a.length<=1048576:=by have:=f.out;rw[this];exact u
 have z:Hid (bP n=if a.length=0 then 0 else 32*(a.length-1)+Lib.bitLen (a.getD (a.length-1) 0)):=by
  show _=_
  unfold bP;rw[f.out];by_cases g:n=0
  ·rw[if_pos g,if_pos (b6.2 g)]
  rw[if_neg g,if_neg (fun e=>g (b6.1 e))]
 clear k l o f y u;by_cases g:a.length=0
 ·have D:((a.length:Int)==0)=true:=by rw[beq_iff_eq];omega
  go_wp2
  go_ret
  exact⟨_,Z,by rw[z.out,if_pos g];rfl,m.out⟩
 have D:((a.length:Int)==0)=false:=by rw[beq_eq_false_iff_ne];omega
 obtain⟨b,off,rfl,I,B⟩:=j.out.digit (i:=0) (by omega);have C:=B (a.length-1) (by omega);have c:a[a.length-1]'(by omega)<4294967296:=j.out.ok _ (Pm _);obtain⟨d,s⟩:∃d,a[a.length-1]'(by omega)=d:=⟨_,rfl⟩;rw[s]at C c;have p:Hid (bP n=32*(a.length-1)+Lib.bitLen d):=by
  show _=_
  rw[z.out,if_neg g,<-s,List.getD,Og (by omega)];rfl
 obtain⟨x,q⟩:∃x,Lib.bitLen d=x:=⟨_,rfl⟩;have E:x<=32:=by rw[<-q];exact Lib.bitLen_le d 32 (by decide) (by rw[show(2:Nat)^32=4294967296 by decide];exact c)
 have t:=J (fun w=>Tryz.bits_Len32 (d:Int) w (by omega) (by omega));simp only[QI]at t;rw[q]at t p;clear B s q
 go_wp2_with fail
 refine(t.out _).mono ?_;rintro e F ⟨rfl,rfl⟩
 go_wp2
 go_ret
 exact⟨_,Z,GX (by rw[p.out];omega),m.out⟩
theorem GY{u v:Value}{X Y:Nat}{w:World}(hu:IsD w u X)(hv:IsD w v Y)(U:(az X).length<=1073741823)(E:(az Y).length<=1073741823):Calls Tryz.prog 151 #[u,v] w (gU (fun _ r=>r=.int .i64 (fz X Y)) w):=by
 have HC:=J (li hu U);have HV:=J hv;obtain⟨A0,c0,rfl,_⟩:=hu;obtain⟨B0,e0,rfl,_⟩:=hv
 go_enter Tryz.func151,Tryz.ntmps151
 go_wp2_with fail
 refine HC.out.mono ?_;rintro e w1 ⟨v1,rfl,O,s⟩;obtain⟨A1,c1,a,rfl,F,d⟩:=O.open_;have I:=J F;have H:=J s;have y:=J d.out;have M:=s.size;clear O F s d HC;have R:=J (li (HV.out.below H.out) E)
 go_wp2_with fail
 refine R.out.mono ?_;rintro e w2 ⟨v2,rfl,a1,g⟩;obtain⟨A2,c2,b,rfl,V,d⟩:=a1.open_;have P:=J V;have D:=J (I.out.below g);have A:=J (aF H.out g M);have z:=J d.out;have a5:w.heap.size<=w2.heap.size:=Oq M g.size;clear a1 V g d R I;have a0:Hid (aE a=X):=by rw[y.out];exact aS X
 have S:Hid (aE b=Y):=by rw[z.out];exact aS Y
 have N:=J (@lZ X Y);have t:=J (@lZ Y X);have a9:a.length<=1073741823:=by rw[y.out];exact U
 have b0:b.length<=1073741823:=by rw[z.out];exact E
 rw[<-y.out,<-z.out]at N t;by_cases G:a.length=b.length
 ·have c:=J G;have g1:((a.length:Int)==(b.length:Int))=true:=by rw[beq_iff_eq];omega
  have g2:((a.length:Int) !=(b.length:Int))=false:=by rw[bne_eq_false_iff_eq];omega
  clear G
  go_wp2
  go_loopw [5] (fun i wr=>∃k:Nat,k<=a.length/\i=.int .i64 ((k:Int)-1)/\(∀(j:Nat) (l:j<a.length) (m:j<b.length),k<=j->a[j]=b[j])/\Below w2.heap.size w2 wr) (fun i _=>(intOf i+1).toNat)
  case atStart=>exact⟨a.length,Oh _,Z,fun j l m h=>by omega,Below.refl _ _⟩
  case round=>
   obtain⟨k,hk,rfl,he,C⟩:=hrel;have n:=J he;have o:=J C;have HF:=J (aF A.out C a5);clear he C;cases k with
   |zero=>
    have a2:=J (show X=Y by rw[<-a0.out,<-S.out,za a b c.out (fun j l m=>n.out j l m (by omega))])
    go_wp2
    go_ret
    exact⟨_,Z,by rw[mb a2.out];rfl,HF.out⟩
   |succ k=>
    rw[show((k+1:Nat):Int)-1=(k:Int) by omega];obtain⟨b1,o1,rfl,s,T⟩:=(D.out.below o.out).digit (i:=k) (by omega);obtain⟨b2,o2,rfl,g,W⟩:=(P.out.below o.out).digit (i:=k) (by have:=c.out;omega);have c1:=T k (by omega);have c2:=W k (by have:=c.out;omega);have x:k<b.length:=by have:=c.out;omega
    have Q:k<a.length:=by omega
    have K:Hid (a[k]'Q<b[k]'x->aE a<aE b):=(fun h=>xI a b k D.out.ok c.out (by omega) (fun j l m h'=>n.out j l m (by omega)) h);have L:Hid (b[k]'x<a[k]'Q->aE b<aE a):=(fun h=>xI b a k P.out.ok c.out.symm x (fun j l m h'=>(n.out j m l (by omega)).symm) h);rw[a0.out,S.out]at K L;obtain⟨p,hp⟩:∃p,a[k]'(by omega)=p:=⟨_,rfl⟩;obtain⟨q,hq⟩:∃q,b[k]=q:=⟨_,rfl⟩;have HP:=J hp;have HQ:=J hq;rw[hp]at c1;rw[hq]at c2;clear T W hp hq;have k0:(0:Int)<=(k:Int):=by omega
    have k1:(k:Int)<(a.length:Int):=by omega
    have k2:(k:Int)<(b.length:Int):=by omega
    rcases Rf p q with f|f|f
    ·have B:=J (K.out (by rw[HP.out,HQ.out];exact f));have t1:decide ((p:Int)<(q:Int))=true:=by simp;omega
     go_wp2
     go_quiet (fail)
     go_wp2
     go_ret
     exact⟨_,Z,by rw[ku B.out];rfl,bq HF.out⟩
    ·subst f
     go_wp2
     go_quiet (fail)
     go_wp2
     go_quiet (fail)
     go_wp2
     go_roundw
     case rel=>
      refine⟨k,by omega,by go_num,fun j l m h=>?_,by first|exact bq (bq o.out)|exact bq o.out⟩;by_cases e:j=k
      ·subst e;rw[HP.out,HQ.out]
      exact n.out j l m (by omega)
     case measure=>simp[intOf]
    have B:=J (L.out (by rw[HP.out,HQ.out];exact f));have t1:decide ((p:Int)<(q:Int))=false:=by simp;omega
    have t2:decide ((q:Int)<(p:Int))=true:=by simp;omega
    go_wp2
    go_quiet (fail)
    go_wp2
    go_quiet (fail)
    go_wp2
    go_ret
    exact⟨_,Z,by rw[jv B.out];rfl,by first|exact bq (bq HF.out)|exact bq HF.out⟩
 have g1:((a.length:Int)==(b.length:Int))=false:=by rw[beq_eq_false_iff_ne];omega
 have g2:((a.length:Int) !=(b.length:Int))=true:=by rw[bne_iff_ne];omega
 rcases OS a.length b.length with a3|b3
 ·have B:=J (N.out a3)
  go_wp2
  go_ret
  exact⟨_,Z,by rw[ku B.out];rfl,A.out⟩
 have a4:b.length<a.length:=by omega
 have B:=J (t.out a4)
 go_wp2
 go_ret
 exact⟨_,Z,by rw[jv B.out];rfl,A.out⟩
def LV(w:World)(G:Nat)(x y:Value)(wr:World):Prop:=∃a b:Nat,x=.int .u64 a/\y=.int .u64 b/\a<18446744073709551616/\b<18446744073709551616/\Nat.gcd a b=G/\Below w.heap.size w wr
theorem EE{u v:Value}{X Y:Nat}{w:World}(F:IsD w u X)(G:IsD w v Y)(A:X<18446744073709551616)(C:Y<18446744073709551616):Calls Tryz.prog 244 #[u,v] w (gU (fun W r=>IsD W r (Nat.gcd X Y)) w):=by
 have B:=J (DE F A);have L:=J G;obtain⟨V,c0,rfl,_⟩:=F;obtain⟨S,e0,rfl,_⟩:=G
 go_enter Tryz.func244,Tryz.ntmps244
 go_wp2_with fail
 refine B.out.mono ?_;rintro e w1 ⟨T,rfl,t,f⟩;obtain rfl:=t;have k:=J f;have i:=f.size;clear f B;have j:=J (DE (L.out.below k.out) C)
 go_wp2_with fail
 refine j.out.mono ?_;rintro e K ⟨v2,rfl,p,c⟩;obtain rfl:=p;have q:=J (aF k.out c i);have P:w.heap.size<=K.heap.size:=Oq i c.size;clear c j
 go_wp2
 go_loopw [5,7] (fun x y wr=>LV w (Nat.gcd X Y) x y wr) (fun _ y _=>(intOf y).toNat)
 case atStart=>exact⟨X,Y,Z,Z,A,C,Z,q.out⟩
 case round=>
  obtain⟨a,b,rfl,rfl,N,O,D,d⟩:=hrel;have E:=J D;have l:=J d;have o:=d.size;clear D d;by_cases Q:0<b
  ·have I:((b:Int)==0)=false:=by rw[beq_eq_false_iff_ne];omega
   have H:((a:Int)%(b:Int))=((a%b:Nat):Int):=by omega
   have R:a%b<b:=Pe _ Q
   go_wp2
   go_quiet (fail)
   go_wp2
   go_roundw
   case rel=>exact⟨b,a%b,Z,by first|rfl|(congr 1;simp[Qz]),O,by omega,by rw[<-E.out,QH b,<-Sn,QH],bq l.out⟩
   case measure=>first|(simp[intOf];omega)|(simp[intOf,Qz];omega)
  obtain rfl:b=0:=by omega
  have g:Nat.gcd X Y=a:=by rw[<-E.out,Rt]
  have s:=J g;have M:=J (fun w=>qR a w N);clear g
  go_wp2_with fail
  refine(M.out _).mono ?_;rintro e U ⟨v4,rfl,m,h⟩;have n:=J m;have z:=J (aF l.out h o);clear m h
  go_wp2
  go_ret
  exact⟨_,Z,by rw[s.out];exact n.out,z.out⟩
end Go.Proofs.YtfoejfohbkmmeaaGreatDoor
