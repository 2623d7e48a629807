import Derived.Lib.ReplaceLaws
import Derived.Lib.ItoaNum
import Derived.Lib.ParseIntB
import Derived.Test.YtfoejfohbkmmeaaGreatDoorK09
import Derived.Laws.OwnMore
set_option maxRecDepth 100000
set_option maxHeartbeats 2000000
set_option linter.defProp false
open Go.Proofs.Tryz
namespace Go.Proofs.YtfoejfohbkmmeaaGreatDoor
def Jy(a b:List UInt8):(⟨a.toArray⟩++⟨b.toArray⟩:ByteArray)=⟨(a++b).toArray⟩:=by apply UQ;simp[UD]
def mZ(s:ByteArray):(⟨s.data.toList.toArray⟩:ByteArray)=s:=by apply UQ;simp
def uJ(old new s:List UInt8):List UInt8:=Lib.replaceK old new (Lib.count s old) s
def jd{old new:List UInt8}(s:List UInt8)(h:(old==new)=false):Lib.replaceAll s old new=uJ old new s:=by
 simp[Lib.replaceAll,Lib.replace,h,uJ,Lib.replaceNum]
def Fw{old new:List UInt8}(h:old≠ []):uJ old new []=[]:=by
 have b:Lib.index [] old= -1:=by cases old with|nil=>exact absurd Z h|cons a t=>rfl
 rw[uJ,Lib.count_miss b];rfl
def Fx{old new s:List UInt8}(h:old≠ [])(c:old.isPrefixOf s=true):uJ old new s=new++uJ old new (s.drop old.length):=by
 have a:Lib.index s old=(0:Nat):=Lib.index_first (i:=0) (Rg _) (by simpa[Lib.occAt]using c) (λ_ h=>absurd h (T5 _));have b:=Lib.count_hit h a;rw[uJ,b,SN,Lib.replaceK_hit old new _ s 0 a];simp[uJ]
def Bd{old new:List UInt8}{c:UInt8}{l:List UInt8}(h:old≠ [])(j:old.isPrefixOf (c::l)=false):uJ old new (c::l)=c::uJ old new l:=by
 have d:Lib.index (c::l) old=if Lib.index l old== -1 then-1 else Lib.index l old+1:=by rw[Lib.index,j];rfl
 rcases Lib.index_spec l old with⟨b,_⟩|⟨i,b,_⟩
 ·rw[b]at d;have a:Lib.index (c::l) old= -1:=d;rw[uJ,uJ,Lib.count_miss a,Lib.count_miss b];rfl
 have a:Lib.index (c::l) old=((i+1:Nat):Int):=by
  rw[d,b,if_neg F];omega
 have e:(c::l).drop (i+1+old.length)=l.drop (i+old.length):=by
  rw[show i+1+old.length=(i+old.length)+1 by omega];rfl
 have f:=Lib.count_hit h a;have g:=Lib.count_hit h b;rw[e]at f;rw[uJ,uJ,f,g,SN,Lib.replaceK_hit old new _ _ (i+1) a,Lib.replaceK_hit old new _ _ i b,e];simp
def m0:List UInt8->List UInt8
 |[]=>[]
 |c::l=>if c=39 then 39::39::m0 l else c::m0 l
def zR:∀s:List UInt8,uJ [39] [39,39] s=m0 s
 |[]=>Fw F
 |c::l=>by
  by_cases a:c=39
  ·subst a;rw[Fx F F];simp[m0,zR l]
  rw[Bd (old:=[39]) (c:=c) (l:=l) F (by rw[List.isPrefixOf];simp[Ne.symm a])];simp[m0,a,zR l]
def me:∀s:List UInt8,uJ [39,39] [39] (m0 s)=s
 |[]=>Fw F
 |c::l=>by
  by_cases a:c=39
  ·subst a;rw[show m0 (39::l)=39::39::m0 l by simp[m0]];rw[Fx F F];simp[me l]
  rw[show m0 (c::l)=c::m0 l by simp[m0,a]];rw[Bd (old:=[39,39]) (c:=c) (l:=m0 l) F (by rw[List.isPrefixOf];simp[Ne.symm a])];simp[me l]
def lO:∀s:List UInt8,(m0 s).length<=2*s.length
 |[]=>by simp[m0]
 |c::l=>by
  have:=lO l;by_cases a:c=39<;>simp[m0,a]<;>omega
def Mo{a b:List UInt8}(h:m0 a=m0 b):a=b:=by
 rw[<-me a,<-me b,h]
def pG(M:Nat):∀(l r:List UInt8) (b a:Nat),Lib.parseUintM M b l=.ok a->Lib.parseUintM M b (l++r)=Lib.parseUintM M a r
 |[],r,b,a,h=>by simp[Lib.parseUintM]at h;subst h;rfl
 |c::l,r,b,a,h=>by
  simp only[Lib.parseUintM,Sq]at h⊢;split at h
  ·rename_i h1;rw[if_pos h1];split at h
   ·cases h
   rename_i h2;rw[if_neg h2];split at h
   ·cases h
   rename_i h3;rw[if_neg h3];exact pG M l r _ a h
  cases h
def gX(d:Nat)(h:d<10):(UInt8.ofNat (48+d)).toNat=48+d:=by
 simp[Tl];omega
def uK(M:Nat)(a:M<=18446744073709551615):∀(k u:Nat),u<=k->u<=M->Lib.parseUintM M 0 (Lib.decDigits u)=.ok u
 |k,u,hk,hu=>by
  by_cases h:u<10
  ·rw[Lib.decDigits,dif_pos h];simp only[Lib.parseUintM,gX u h];rw[if_pos O,if_neg O,if_neg O];congr 1;omega
  rw[Lib.decDigits,dif_neg h]
  match k,hk with
  |0,hk=>omega
  |k+1,hk=>
   have c:=uK M a k (u/10) O O;rw[pG M _ _ _ _ c];have b:u%10<10:=O
   simp only[Lib.parseUintM,gX _ b];rw[if_pos O,if_neg O,if_neg O];congr 1;omega
def qF:∀(k u:Nat),u<=k->∃c r,Lib.decDigits u=c::r/\48<=c.toNat/\c.toNat<=57
 |k,u,hk=>by
  by_cases h:u<10
  ·rw[Lib.decDigits,dif_pos h];exact⟨_,_,Z,by rw[gX u h];omega,by rw[gX u h];omega⟩
  rw[Lib.decDigits,dif_neg h]
  match k,hk with
  |0,hk=>omega
  |k+1,hk=>
   obtain⟨c,r,e,a,b⟩:=qF k (u/10) O;exact⟨c,r++[_],by rw[e];rfl,a,b⟩
def uL(u:Nat)(h:u<=18446744073709551615):Lib.parseUintB 64 (Lib.decDigits u)=.ok u:=by
 obtain⟨c,r,e,_,_⟩:=qF u u (Q3 _);have a:(2^64-1:Nat)=18446744073709551615:=I
 rw[Lib.parseUintB,if_neg (by rw[e];simp),a];exact uK _ (Q3 _) u u (Q3 _) h
def pV(n:Int)(f: -9223372036854775808<=n)(g:n<=9223372036854775807):Lib.parseIntB 64 (Lib.itoa n)=.ok n:=by
 have a:(2^(64-1):Nat)=9223372036854775808:=I
 by_cases h:n<0
 ·rw[Lib.itoa,if_pos h];simp only[Lib.parseIntB];rw[if_pos (Or.inr I),uL _ O];have d:(45:UInt8).toNat=45:=I
  simp only[a,d];rw[if_neg F,if_neg (by simp;omega),if_pos trivial];congr 1;omega
 rw[Lib.itoa,if_neg h];obtain⟨c,r,e,i,j⟩:=qF n.toNat n.toNat (Q3 _);have b:=uL n.toNat O;rw[e]at b⊢;simp only[Lib.parseIntB];rw[if_neg O,b];simp only[a];rw[if_neg O,if_neg O,if_neg O];congr 1;omega
def Jz{a b:Int}(d: -9223372036854775808<=a)(e:a<=9223372036854775807)(f: -9223372036854775808<=b)(g:b<=9223372036854775807)(h:Lib.itoa a=Lib.itoa b):a=b:=by
 have c:=pV a d e;have i:=pV b f g;rw[h,i]at c;injection c with c
 exact c.symm
def mf(n:Int):∃c r,Lib.itoa n=c::r/\c≠39:=by
 by_cases h:n<0
 ·exact⟨45,_,by rw[Lib.itoa,if_pos h],I⟩
 obtain⟨c,r,e,a,_⟩:=qF n.toNat n.toNat (Q3 _);exact⟨c,r,by rw[Lib.itoa,if_neg h,e],λe=>by subst e;simp at a⟩
def mh:∀a b:List UInt8,Lib.compareBytes b a= -Lib.compareBytes a b
 |[],[]=>rfl
 |[],_::_=>rfl
 |_::_,[]=>rfl
 |x::a,y::b=>by
  have e:=mh a b;simp only[Lib.compareBytes,Ue];by_cases c:x.toNat<y.toNat
  ·rw[if_neg O,if_pos c,if_pos c];rfl
  by_cases d:y.toNat<x.toNat
  ·rw[if_pos d,if_neg c,if_pos d]
  rw[if_neg d,if_neg c,if_neg c,if_neg d];exact e
def jZ:∀a b:List UInt8,Lib.compareBytes a b=0↔a=b
 |[],[]=>by simp[Lib.compareBytes]
 |[],_::_=>by simp[Lib.compareBytes]
 |_::_,[]=>by simp[Lib.compareBytes]
 |x::a,y::b=>by
  have e:=jZ a b;simp only[Lib.compareBytes,Ue];by_cases c:x.toNat<y.toNat
  ·rw[if_pos c];constructor
   ·intro h;omega
   intro h;injection h with h _;subst h;omega
  by_cases d:y.toNat<x.toNat
  ·rw[if_neg c,if_pos d];constructor
   ·intro h;omega
   intro h;injection h with h _;subst h;omega
  rw[if_neg c,if_neg d,e];have:x=y:=Ta.1 O;simp[this]
def kL:∀a b c:List UInt8,Lib.compareBytes a b<=0->Lib.compareBytes b c<=0->Lib.compareBytes a c<=0
 |[],[],c,_,h=>h
 |[],_::_,[],_,h=>by simp[Lib.compareBytes]at h
 |[],_::_,_::_,_,_=>by simp[Lib.compareBytes]
 |_::_,[],_,h,_=>by simp[Lib.compareBytes]at h
 |_::_,_::_,[],_,h=>by simp[Lib.compareBytes]at h
 |x::a,y::b,z::c,h,k=>by
  have i:=kL a b c;simp only[Lib.compareBytes,Ue]at h k⊢;by_cases f:x.toNat<y.toNat
  ·by_cases d:y.toNat<z.toNat
   ·rw[if_pos O];omega
   by_cases e:z.toNat<y.toNat
   ·rw[if_neg d,if_pos e]at k;omega
   rw[if_pos O];omega
  by_cases g:y.toNat<x.toNat
  ·rw[if_neg f,if_pos g]at h;omega
  rw[if_neg f,if_neg g]at h;by_cases d:y.toNat<z.toNat
  ·rw[if_pos O];omega
  by_cases e:z.toNat<y.toNat
  ·rw[if_neg d,if_pos e]at k;omega
  rw[if_neg d,if_neg e]at k;rw[if_neg O,if_neg O];exact i h k
def iJ:∀a b:List UInt8,Lib.compareBytes a b= -1\/Lib.compareBytes a b=0\/Lib.compareBytes a b=1
 |[],[]=>by simp[Lib.compareBytes]
 |[],_::_=>by simp[Lib.compareBytes]
 |_::_,[]=>by simp[Lib.compareBytes]
 |x::a,y::b=>by
  have c:=iJ a b;simp only[Lib.compareBytes];split
  ·simp
  split
  ·simp
  exact c
end Go.Proofs.YtfoejfohbkmmeaaGreatDoor
namespace Go.Proofs.YtfoejfohbkmmeaaGreatDoor
open Go.RowKit
open Lib renaming hid→J
def Be(a b:Int):fE b a= -fE a b:=by grind [fE]
def ew(a b:Int):fE a b= -1/\a<b\/fE a b=0/\a=b\/fE a b=1/\b<a:=by grind [fE]
def gG{a b c:Int}(h:a≠0):Dk a b c=a:=by simp[Dk,h]
def fR{b c:Int}(h:b≠0):Dk 0 b c=b:=by simp[Dk,h]
def mi(c:Int):Dk 0 0 c=c:=by simp[Dk]
def JA(b a:Int)(d:ByteArray)(c nb:Int)(f:ByteArray):jB c nb f b a d= -jB b a d c nb f:=by
 have g:=Be b c;have h:=Be a nb;have i:=mh d.data.toList f.data.toList;unfold jB;rw[g,h,i];rcases ew b c with⟨e,_⟩|⟨e,_⟩|⟨e,_⟩<;>rw[e]
 ·simp[Dk]
 ·rcases ew a nb with⟨e,_⟩|⟨e,_⟩|⟨e,_⟩<;>rw[e]<;>simp[Dk]
 simp[Dk]
def DG(d a:Int)(b:ByteArray)(f nb:Int)(c:ByteArray): -1<=jB d a b f nb c/\jB d a b f nb c<=1:=by
 have g:=iJ b.data.toList c.data.toList;unfold jB;rcases ew d f with⟨e,_⟩|⟨e,_⟩|⟨e,_⟩<;>rw[e]
 ·simp[Dk]
 ·rcases ew a nb with⟨e,_⟩|⟨e,_⟩|⟨e,_⟩<;>rw[e]<;>simp[Dk]
  omega
 simp[Dk]
def Mp(f d:Int)(b:ByteArray)(g nb:Int)(c:ByteArray):jB f d b g nb c=0↔f=g/\d=nb/\b=c:=by
 have i:=jZ b.data.toList c.data.toList;have j:b.data.toList=c.data.toList↔b=c:=⟨λh=>by rw[<-mZ b,<-mZ c,h],λh=>by rw[h]⟩;unfold jB;rcases ew f g with⟨e,h⟩|⟨e,h⟩|⟨e,h⟩<;>rw[e]
 ·rw[gG I];constructor
  ·intro a;omega
  rintro⟨a,_⟩;omega
 ·rcases ew d nb with⟨e,a⟩|⟨e,a⟩|⟨e,a⟩<;>rw[e]
  ·rw[fR I];constructor
   ·intro a;omega
   rintro⟨_,a,_⟩;omega
  ·rw[mi,i,j];exact⟨λx=>⟨h,a,x⟩,λx=>x.2.2⟩
  rw[fR I];constructor
  ·intro a;omega
  rintro⟨_,a,_⟩;omega
 rw[gG I];constructor
 ·intro a;omega
 rintro⟨a,_⟩;omega
def DH(f e:Int)(o:ByteArray)(l nb:Int)(p:ByteArray)(c nc:Int)(sc:ByteArray)(k:jB f e o l nb p<=0)(d:jB l nb p c nc sc<=0):jB f e o c nc sc<=0:=by
 have q:=kL o.data.toList p.data.toList sc.data.toList;unfold jB at*;rcases ew f l with⟨m,h⟩|⟨m,h⟩|⟨m,h⟩
 ·rcases ew l c with⟨a,j⟩|⟨a,j⟩|⟨a,j⟩
  ·rw[kb (show f<c by omega),gG I];omega
  ·rw[kb (show f<c by omega),gG I];omega
  rw[a,gG I]at d;omega
 ·rcases ew l c with⟨a,j⟩|⟨a,j⟩|⟨a,j⟩
  ·rw[kb (show f<c by omega),gG I];omega
  ·rw[show fE f c=0 from qD O O];rw[m]at k;rw[a]at d;rcases ew e nb with⟨n,g⟩|⟨n,g⟩|⟨n,g⟩
   ·rcases ew nb nc with⟨b,i⟩|⟨b,i⟩|⟨b,i⟩
    ·rw[kb (show e<nc by omega),fR I];omega
    ·rw[kb (show e<nc by omega),fR I];omega
    rw[b,fR I]at d;omega
   ·rcases ew nb nc with⟨b,i⟩|⟨b,i⟩|⟨b,i⟩
    ·rw[kb (show e<nc by omega),fR I];omega
    ·rw[show fE e nc=0 from qD O O,mi];rw[n,mi]at k;rw[b,mi]at d;exact q k d
    rw[b,fR I]at d;omega
   rw[n,fR I]at k;omega
  rw[a,gG I]at d;omega
 rw[m,gG I]at k;omega
def iA(a b:V):Int:=jB a.t a.n a.s b.t b.n b.s
def bw:List V->List V->Int
 |[],[]=>0
 |[],_::_=> -1
 |_::_,[]=>1
 |a::l,b::m=>if iA a b=0 then bw l m else iA a b
def xZ(l m:List V)(k:Nat)(a:k<l.length)(b:k<m.length):bw (l.drop k) (m.drop k)=if iA l[k] m[k]=0 then bw (l.drop (k+1)) (m.drop (k+1))else iA l[k] m[k]:=by
 rw[Re a,Re b,bw]
def tO(A B:Option Addr)(c d:Nat)(l m:List V)(w:World)(h:At w w.heap.size A (ep l))(S:At w w.heap.size B (ep m))(hl:l.length<=65536)(_hm:m.length<=65536):
  Calls prog 123 #[.slice A l.length c,.slice B m.length d,.func (.func 124) #[] #[]] w λe w'=>e=.returned (.int .i64 (bw l m))/\Below w.heap.size w w':=by
 have T:=J h;have U:=J S;clear h S
 go_enter func123,ntmps123
 go_wp2
 go_loopw [13] (λi wr=>∃k:Nat,k<=l.length/\k<=m.length/\i=.int .i64 k/\bw l m=bw (l.drop k) (m.drop k)/\Below w.heap.size w wr) (λi _=>l.length-(intOf i).toNat)
 case atStart=>exact⟨0,Rg _,Rg _,Z,Z,Below.refl _ _⟩
 case round=>
  obtain⟨k,hk,a0,rfl,D,g⟩:=hrel;have v:=J D;have a:=J g;have E:=J (T.out.below g);have F:=J (U.out.below g);clear D g;by_cases u:k<l.length
  ·obtain⟨b1,o1,rfl,X,P,Q,R⟩:=E.out.val u;by_cases j:k<m.length
   ·obtain⟨G,M,rfl,Y,H,I,K⟩:=F.out.val j;have p:=a.out.size;have y:∀o:Obj,(wr.alloc o).cell? ⟨G,M+k*3,none⟩=some (.int .i64 m[k].t):=λo=>(World.cell?_alloc_lt wr o _ (by simp;omega)).trans H
    have z:∀o:Obj,(wr.alloc o).cell? ⟨G,M+k*3+1,none⟩=some (.int .i64 m[k].n):=λo=>(World.cell?_alloc_lt wr o _ (by simp;omega)).trans I
    have C:∀o:Obj,(wr.alloc o).cell? ⟨G,M+k*3+2,none⟩=some (.string m[k].s):=λo=>(World.cell?_alloc_lt wr o _ (by simp;omega)).trans K
    have f:=J (xZ l m k u j);obtain⟨x,L⟩:∃x,iA l[k] m[k]=x:=⟨_,Z⟩;have f:Hid (bw (l.drop k) (m.drop k)=if x=0 then bw (l.drop (k+1)) (m.drop (k+1))else x):=by rw[<-L];exact f
    have N:Hid (∀W:World,Calls prog 124 #[.agg #[.int .i64 l[k].t,.int .i64 l[k].n,.string l[k].s],.agg #[.int .i64 m[k].t,.int .i64 m[k].n,.string m[k].s]] W λe w'=>e=.returned (.int .i64 x)/\Below W.heap.size W w'):=λW=>by
     have:=Bb l[k].t l[k].n l[k].s m[k].t m[k].n m[k].s W;rwa[show jB l[k].t l[k].n l[k].s m[k].t m[k].n m[k].s=x from L]at this
    clear L;by_cases q:x=0
    ·subst q
     go_wp2_with fail
     clear H I K y z C P Q R;refine(N.out _).mono ?_;rintro e w1 ⟨rfl,b⟩;have r:=J b;clear b
     go_wp2
     go_roundw
     case rel=>
      refine⟨k+1,O,O,by go_num,by rw[v.out,f.out];simp,?_⟩;exact(((a.out.alloc p _).alloc (by simp;omega) _).trans (r.out.mono (by simp;omega)))
     case measure=>simp[intOf];omega
    have a1:(x !=0)=true:=by simpa using q
    have a2:(x==0)=false:=by simpa using q
    go_wp2_with fail
    clear H I K y z C P Q R;refine(N.out _).mono ?_;rintro e w1 ⟨rfl,b⟩;have r:=J b;clear b
    go_wp2
    go_ret
    exact⟨by rw[v.out,f.out,if_neg q];rfl,(((a.out.alloc p _).alloc (by simp;omega) _).trans (r.out.mono (by simp;omega)))⟩
   have f:=J (show bw (l.drop k) (m.drop k)=1 by
    rw[Re u,Rc (l:=m) O];rfl)
   have p:=a.out.size
   go_wp2
   go_ret
   exact⟨by rw[v.out,f.out];rfl,a.out.alloc p _⟩
  by_cases j:k<m.length
  ·have f:=J (show bw (l.drop k) (m.drop k)= -1 by
    rw[Re j,Rc (l:=l) O];rfl)
   go_wp2
   go_ret
   exact⟨by rw[v.out,f.out];rfl,a.out⟩
  have f:=J (show bw (l.drop k) (m.drop k)=0 by
   rw[Rc (l:=l) O,Rc (l:=m) O];rfl)
  go_wp2
  go_ret
  exact⟨by rw[v.out,f.out];rfl,a.out⟩
def DI(A B:Option Addr)(c d:Nat)(l m:List V)(w:World)(h:At w w.heap.size A (ep l))(a:At w w.heap.size B (ep m))(g:l.length<=65536)(i:m.length<=65536):
  Calls prog 64 #[.slice A l.length c,.slice B m.length d] w λe w'=>e=.returned (.int .i64 (bw l m))/\Below w.heap.size w w':=by
 have b:=J (tO A B c d l m w h a g i);clear h a
 go_enter func64,ntmps64
 go_wp2_with fail
 refine b.out.mono ?_;rintro e w' ⟨rfl,f⟩
 go_wp2
 go_ret
 exact⟨Z,f⟩
def zS(acc:List Nat):List Edge->Nat->Nat
 |[],m=>m
 |e::l,m=>zS acc l (if Region.binds .any e then m|||((1<<<e.on)|||acc.getD e.on 0)else m)
def t6(acc:List Nat)(o:Oper):List Nat:=acc++[zS acc o.after.toList 0]
def tP(l:List Oper):List Nat:=l.foldl t6 []
def uM(l:List Oper)(i j:Nat):Bool:=((tP l).getD i 0).testBit j
def s8(b:List Nat)(j:Nat):∀(es:List Edge) (m:Nat),(zS b es m).testBit j=true->m.testBit j=true\/∃e∈es,Region.binds .any e=true/\(e.on=j\/(b.getD e.on 0).testBit j=true)
 |[],m,h=>.inl h
 |e::l,m,h=>by
  rcases s8 b j l _ h with a|⟨f,d,c,g⟩
  ·by_cases c:Region.binds .any e=true
   ·rw[if_pos c,Nat.testBit_or,Nat.testBit_or,Sm,Sm]at a;rcases a with a|a|a
    ·exact .inl a
    ·refine .inr ⟨e,F,c,.inl ?_⟩;rw[Nat.one_shiftLeft,Nat.testBit_two_pow]at a;simpa using a
    exact .inr ⟨e,F,c,.inr a⟩
   rw[if_neg c]at a;exact .inl a
  exact .inr ⟨f,by simp[d],c,g⟩
def x5(l:List Oper)(o:Oper):tP (l++[o])=t6 (tP l) o:=by simp[tP]
def Bf{C:List Oper->Prop}(a:C [])(b:∀l o,C l->C (l++[o]))(l:List Oper):C l:=by
 have h:∀m:List Oper,C m.reverse:=by
  intro m;induction m with
  |nil=>exact a
  |cons o m ih=>rw[Ut];exact b _ _ ih
 simpa using h l.reverse
def Bg(l:List Oper):(tP l).length=l.length:=by
 refine Bf (C:=λl=>(tP l).length=l.length) Z (λl o a=>?_) l;show(tP (l++[o])).length=(l++[o]).length
 rw[x5,t6];simp[a]
def GN{ops:Array Oper}{L:Array Bool}(r:Closed ops L):∀(l:List Oper),(∀(k:Nat) (o:Oper),l[k]? =some o->ops[k]? =some o)->∀i j:Nat,((tP l).getD i 0).testBit j=true->L.getD i false=true->L.getD j false=true:=by
 refine λl=>Bf (C:=λl=>(∀(k:Nat) (o:Oper),l[k]? =some o->ops[k]? =some o)->∀i j:Nat,((tP l).getD i 0).testBit j=true->L.getD i false=true->L.getD j false=true) ?_ (λl o n=>?_) l
 ·intro _ i j h;simp[tP]at h
 intro m i j h d;have a:∀(k:Nat) (o:Oper),l[k]? =some o->ops[k]? =some o:=λk v g=>m k v (by rw[Rv (Q6.1 g).1];exact g)
 rw[x5,t6]at h;by_cases f:i<(tP l).length
 ·rw[Rr,Rv f,<-Rr]at h;exact n a i j h d
 by_cases s:i=(tP l).length
 ·subst s;rw[Rr,Ru (Q3 _)]at h;simp only[RW,RY,RH]at h;rw[Bg]at d;have u:ops[l.length]? =some o:=m _ _ F;rcases s8 _ _ _ _ h with p|⟨e,t,q,c⟩
  ·simp at p
  have b:=r l.length o u d e (by simpa using t) q;rcases c with rfl|c
  ·exact b
  exact n a e.on j c b
 rw[Rr,R8 (by simp;omega)]at h;simp at h
def Closed.anc{l:List Oper}{L:Array Bool}(a:Closed l.toArray L){i j:Nat}(h:uM l i j=true)(b:L.getD i false=true):L.getD j false=true:=
 GN a l (λk o h=>by simpa using h) i j h b
def JB(B:Nat)(W W':World):Bool->Prop
 |true=>Below B W W'/\W.heap.size<=W'.heap.size
 |false=>Below W.heap.size W W'
def JC(l:List Oper)(cons:List (Option Nat))(i j:Nat):Bool:=
 match cons.getD j none with
 |none=>true
 |some c=>c==i||uM l c i
def NO(l:List Oper)(cons:List (Option Nat))(i j:Nat):Bool:=
 j==i||uM l j i||
 match cons.getD j none with
 |none=>false
 |some c=>c==i||uM l i c
inductive PureF:List (Value->World->Prop)->List Bool->Prop
 |nil:PureF [] []
 |eq {x:Value} {l:List (Value->World->Prop)} {p:List Bool} (h:PureF l p):PureF ((λv _=>v=x)::l) (true::p)
 |any {f:Value->World->Prop} {l:List (Value->World->Prop)} {p:List Bool} (h:PureF l p):PureF (f::l) (false::p)
def PureF.get{l:List (Value->World->Prop)}{p:List Bool}(h:PureF l p):∀j v W W',p.getD j true=true->fP l j v W->fP l j v W':=by
 induction h with
 |nil=>intro j v W W' _ _;simp[fP]
 |eq h ih=>
  intro j v W W' b a;cases j with
  |zero=>exact a
  |succ j=>exact ih j v W W' (by simpa using b) a
 |any h ih=>
  intro j v W W' b a;cases j with
  |zero=>simp at b
  |succ j=>exact ih j v W W' (by simpa using b) a
structure MonoC (F:List (Value->World->Prop)) (cons:List (Option Nat)) (B:Nat) (w:World) (init:List Value) (L:Array Bool) (us:List Value) (W:World):Prop where
 len:us.length=init.length
 fact:∀j,L.getD j false=true->(∀c,cons.getD j none=some c->L.getD c false=false)->fP F j (us.getD j undef) W
 old:∀j,L.getD j false=false->us.getD j undef=init.getD j undef
 below:Below B w W
 size:B<=W.heap.size
structure GivenC (l:List Oper) (dsts:List (Option Nat)) (t:Array Value) (F:List (Value->World->Prop)) (cons:List (Option Nat)) (B:Nat) (w:World) (i:Nat) (T:Nat->Value) (W:World):Prop where
 keep:∀s,dsts.contains (some s)=false->T s=t.getD s undef
 fact:∀j s,(j !=i&&uM l i j&&JC l cons i j&&dsts[j]? ==some (some s))=true->fP F j (T s) W
 old:∀j s,((j==i||uM l j i)&&dsts[j]? ==some (some s))=true->T s=t.getD s undef
 below:Below B w W
 size:B<=W.heap.size
def DJ(l:List Oper)(dsts:List (Option Nat))(F:List (Value->World->Prop))(cons:List (Option Nat))(i:Nat):Option (Nat×Bool)->Prop
 |none=>True
 |some (j,b)=>∃s,(j !=i&&uM l i j&&cons.getD j none==none&&dsts[j]? ==some (some s))=true/\∀v W,fP F j v W->v=.bool b
def Pu(P:Program)(l:List Oper)(dsts:List (Option Nat))(t:Array Value)(F:List (Value->World->Prop))(cons:List (Option Nat))(ap:List Nat)(B:Nat)(w:World)(i:Nat)(o:Oper):Prop:=
 DJ l dsts F cons i o.guard/\∀(T:Nat->Value) (W:World),GivenC l dsts t F cons B w i T W->OpRuns P o T W λv W'=>fP F i v W'/\JB B W W' (ap.contains i)
inductive StepsC (P:Program) (l:List Oper) (dsts:List (Option Nat)) (t:Array Value) (F:List (Value->World->Prop)) (cons:List (Option Nat)) (ap:List Nat) (B:Nat) (w:World):Nat->List Oper->Prop
 |nil {i:Nat}:StepsC P l dsts t F cons ap B w i []
 |cons' {i:Nat} {o:Oper} {r:List Oper} (h:Pu P l dsts t F cons ap B w i o) (hs:StepsC P l dsts t F cons ap B w (i+1) r):StepsC P l dsts t F cons ap B w i (o::r)
section
variable {P:Program} {l:List Oper} {dsts:List (Option Nat)} {t:Array Value} {F:List (Value->World->Prop)} {cs:List (Option Nat)} {ap:List Nat} {B:Nat} {w:World}
end
def aG:List Nat->Nat
 |[]=>0
 |d::l=>d+4294967296*aG l
def Digs(l:List Nat):Prop:=∀d∈l,d<4294967296
def s9:Nat->Nat->List Nat
 |0,_=>[]
 |k+1,n=>if n=0 then []else(n%4294967296)::s9 k (n/4294967296)
def aD(n:Nat):List Nat:=s9 n n
def qG:∀(k m n:Nat),n<=k->n<=m->s9 k n=s9 m n
 |0,m,n,hk,_=>by
  obtain rfl:n=0:=O
  cases m<;>simp[s9]
 |k+1,0,n,_,hm=>by
  obtain rfl:n=0:=O
  simp[s9]
 |k+1,m+1,n,hk,hm=>by
  simp only[s9];split
  ·rfl
  rw[qG k m (n/4294967296) O O]
def gf:aD 0=[]:=rfl
def fp{n:Nat}(h:n≠0):aD n=(n%4294967296)::aD (n/4294967296):=by
 unfold aD;obtain⟨k,rfl⟩:∃k,n=k+1:=⟨n-1,O⟩;rw[s9,if_neg h,qG k ((k+1)/4294967296) _ O (Q3 _)]
def aW(n:Nat):aG (aD n)=n:=by
 induction n using Nat.strongRecOn with
 |ind n ih=>
  by_cases h:n=0
  ·subst h;rfl
  rw[fp h,aG,ih (n/4294967296) O];omega
def ck(n:Nat):Digs (aD n):=by
 induction n using Nat.strongRecOn with
 |ind n ih=>
  by_cases h:n=0
  ·subst h;intro d a;simp[gf]at a
  rw[fp h];intro d a;rcases Ri.1 a with rfl|a
  ·omega
  exact ih (n/4294967296) O d a
def Bh{n:Nat}:aD n=[]↔n=0:=by
 constructor
 ·intro h;have:=aW n;rw[h]at this;exact this.symm
 rintro rfl;rfl
def b9{n:Nat}:(aD n).length=0↔n=0:=by rw[List.length_eq_zero_iff,Bh]
def zT:∀(l:List Nat),Digs l->(∀h:l≠ [],l.getLast h≠0)->l=aD (aG l)
 |[],_,_=>rfl
 |d::l,hd,hl=>by
  have a:d<4294967296:=hd d (Rw ..);cases l with
  |nil=>
   have f:d≠0:=hl F;simp only[aG,TL,SB];rw[fp f,RC a,S5 a,gf]
  |cons c l=>
   have b:=zT (c::l) (λx g=>hd x (RD _ g)) (λh=>by have:=hl F;rwa[List.getLast_cons h]at this);have i:aG (c::l)≠0:=λe=>by rw[e,gf]at b;cases b
   generalize c::l=m at*;simp only[aG];rw[fp O,show(d+4294967296*aG m)%4294967296=d by omega,show(d+4294967296*aG m)/4294967296=aG m by omega,<-b]
def fL:∀(a b:List Nat),aG (a++b)=aG a+4294967296^a.length*aG b
 |[],b=>by simp[aG]
 |d::a,b=>by
  have:=fL a b;simp only[Sq,aG,this,Q5,RA,RF];rw[Rk (4294967296^a.length) 4294967296,Ry];omega
def pW:∀(l:List Nat),(∀d∈l,d=0)->aG l=0
 |[],_=>rfl
 |d::l,h=>by
  have a:=h d (Rw ..);have b:=pW l (λx c=>h x (RD _ c));simp[aG,a,b]
def x6(a:List Nat)(k:Nat)(p:k<=a.length)(i:Digs a)(g:∀(j:Nat) (l:j<a.length),k<=j->a[j]=0)(n:k=0\/∃h:k-1<a.length,a[k-1]≠0):a.take k=aD (aG a):=by
 have e:aG a=aG (a.take k):=by
  rw[<-R3 k a,fL,pW (a.drop k),R3]
  ·simp
  intro d b;obtain⟨j,l,rfl⟩:=Sl b;rw[TO];exact g _ _ O
 rw[e];refine zT _ (λd b=>i d (RG b)) λh=>?_
 rcases n with rfl|⟨o,f⟩
 ·simp at h
 have m:k≠0:=λe=>by subst e;simp at h
 rw[U7];have c:(a.take k).length=k:=by rw[Rb];omega
 simp only[List.getElem_take,c];exact f
def cC:∀(l:List Nat),Digs l->aG l<4294967296^l.length
 |[],_=>by simp[aG]
 |d::l,h=>by
  have b:=h d (Rw ..);have c:=cC l (λx a=>h x (RD _ a));simp only[aG,Q5,RA];omega
def bq{n k:Nat}(h:n<4294967296^k):(aD n).length<=k:=by
 induction k generalizing n with
 |zero=>
  obtain rfl:n=0:=by simpa using h
  simp[gf]
 |succ k ih=>
  by_cases a:n=0
  ·subst a;simp[gf]
  rw[fp a];rw[RA]at h;have:=ih (n:=n/4294967296) (by rw[Sg I];exact h);simp;omega
def bh{m n:Nat}(h:m<=n):(aD m).length<=(aD n).length:=by
 refine bq ?_;have:=cC (aD n) (ck n);rw[aW]at this;omega
def cT(l:List Nat):List Value:=l.map λ(d:Nat)=>.int .u32 (d:Int)
def dY(l:List Nat):(cT l).length=l.length:=by simp[cT]
def pH(a b:List Nat):cT (a++b)=cT a++cT b:=by simp[cT]
def uN(l:List Nat):∀u∈cT l,u.oneCell'=true:=by
 intro u a;simp only[cT,Sv]at a;obtain⟨c,_,rfl⟩:=a;rfl
def uO:(prog.info? 50).map (λi=>(i.zero,i.size,i.bytes))=some (some (.int .u32 0),1,4):=U
def OwnN(w:World)(base:Nat)(v:Value)(l:List Nat):Prop:=w.ownsRow base 50 1 v l.length (cT l)
def OwnN.nil(w:World)(base:Nat):OwnN w base (.slice none 0 0) []:=World.ownsRow_nil _ _ _ _
def OwnN.below{w w':World}{base:Nat}{v:Value}{l:List Nat}(h:OwnN w base v l)(a:Below w.heap.size w w'):OwnN w' base v l:=eF h a
def uP(w:World)(base:Nat)(a:base<=w.heap.size):OwnN (w.alloc (.cells #[] 50)) base (.slice (some ⟨w.heap.size,0,none⟩) 0 0) []:=by
 have:=World.ownsRow_lit (base:=base) (e:=50) (size:=1) w #[] 0 a (by simp[maxLen]) F;exact this
structure IsN (W:World) (A:Option Addr) (c:Nat) (l:List Nat):Prop where
 at_:At W W.heap.size A (cT l)
 nil:A=none->l.length=0/\c=0
 cap:l.length<=c
 max:c<=9223372036854775807
 ok:Digs l
def IsN.below{W W':World}{A:Option Addr}{c:Nat}{l:List Nat}(h:IsN W A c l)(a:Below W.heap.size W W'):IsN W' A c l:=⟨(h.at_.below a).more a.size,h.nil,h.cap,h.max,h.ok⟩
def OwnN.is{w:World}{base:Nat}{v:Value}{l:List Nat}(h:OwnN w base v l)(d:Digs l):∃A c,v=.slice A l.length c/\IsN w A c l:=by
 rcases h.2 with⟨rfl,a⟩|⟨g,b,cur,rfl,i,j,a,f,k,m⟩
 ·exact⟨none,0,by rw[a],by
   have:l=[]:=Rj a;subst this;exact At.nil _ _ _,λ_=>⟨a,Z⟩,O,O,d⟩
 exact⟨_,b,Z,Gw h,λe=>(by cases e),a,by unfold maxLen at f;omega,d⟩
def IsN.digit{W:World}{A:Option Addr}{c i:Nat}{l:List Nat}(h:IsN W A c l)(g:i<l.length):
  ∃b off,A=some ⟨b,off,none⟩/\b<W.heap.size/\∀(j:Nat) (a:j<l.length),W.cell? ⟨b,off+j,none⟩=some (.int .u32 ((l[j]:Nat):Int)):=by
 obtain⟨b,off,e,d,f⟩:=h.at_ (by rw[dY];omega);exact⟨b,off,e,d,λj a=>f j _ (by simp[cT,Q2 a])⟩
def At.takeN{w:World}{B:Nat}{A:Option Addr}{l:List Nat}(h:At w B A (cT l))(m:Nat):At w B A (cT (l.take m)):=λf=>by
 rw[dY,Rb]at f;obtain⟨b,off,e,c,d⟩:=h (by rw[dY];omega);refine⟨b,off,e,c,λj u a=>d j u ?_⟩;simp only[cT,Tv]at a⊢;rw[R7]at a;split at a
 ·exact a
 cases a
def uQ{ops:Array Oper}{b:List Oper}{o:Oper}{a:Act}{Q:Exit->Act->World->Prop}{w:World}(base:Nat)(v:Value)(l m:List Nat)(A:Option Addr)(c:Nat)
  (s x:Operand) (r:o.op=.call {callee:=.builtin .append,args:=#[s,x],argTypes:=#[63,63]}) (u:Region.wanted o (yielded ops a.tmps)=true)
  (t:a.eval s=v) (y:a.eval x=.slice A m.length c) (f:OwnN w base v l) (g:At w w.heap.size A (cT m)) (e:A=none->m.length=0/\c=0) (B:l.length+m.length<=1073741824) (d:base<=w.heap.size)
  (h:∀v' w',OwnN w' base v' (l++m)->Grew w w' base v v'->wpList prog ops Q b (a.put o.dst v') w'):wpList prog ops Q (o::b) a w:=by
 obtain⟨z,i,j,k,n⟩:=info_parts uO;refine L9 s x _ 50 z (.int .u32 0) 1 4 r u underlying63 i j k n Z I base v l.length (cT l) t f A m.length c (cT m) y g (by rw[dY];omega) e (uN _) (by simp only[maxLen];omega) O d ?_;intro v' w' p q;refine h v' w' ?_ q;unfold OwnN;rw[pH,Q4];exact p
def gH{ops:Array Oper}{e:List Oper}{o:Oper}{a:Act}{Q:Exit->Act->World->Prop}{w:World}(base:Nat)(v:Value)(l:List Nat)(c:Int)(d:Nat)
  (s x:Operand) (j:o.guard=none) (t:o.op=.call {callee:=.builtin .append,args:=#[s,x],argTypes:=#[63,63]})
  (u:a.eval s=v) (y:a.eval x=.slice (some ⟨w.heap.size,0,none⟩) 1 1) (b:OwnN w base v l) (r:c=d) (A:l.length<=1073741823) (f:base<=w.heap.size)
  (h:∀v' w',OwnN w' base v' (l++[d])->Grew w w' base v v'->wpList prog ops Q e (a.put o.dst v') w'):
  wpList prog ops Q (o::e) a (w.alloc (.cells #[.int .u32 c] 50)):=by
 obtain⟨z,m,n,p,q⟩:=info_parts uO;refine wpList_append_own_at _ j s x _ t base 50 z (.int .u32 0) 1 4 underlying63 m n p q Z I v l.length (cT l) u (World.ownsRow.alloc b _)
  ⟨w.heap.size,0,none⟩ 1 1 [.int .u32 c] y Z (cell_one_new _ _ _) (by simp[Value.oneCell']) (by simp only[maxLen];omega) O (by simp;omega) ?_
 intro v' w' g k _ i;refine h v' w' ?_ (uA b ⟨_,.inl Z⟩ k i f);subst r;unfold OwnN;rw[pH];simpa[cT]using g
def NatPost(n:Nat)(w:World)(e:Ending)(w':World):Prop:=∃v,e=.returned v/\OwnN w' w.heap.size v (aD n)/\Below w.heap.size w w'
def NatPost.open_{n:Nat}{w:World}{e:Ending}{w':World}(h:NatPost n w e w'):∃A c,e=.returned (.slice A (aD n).length c)/\IsN w' A c (aD n)/\Below w.heap.size w w':=by
 obtain⟨v,b,f,a⟩:=h;obtain⟨A,c,rfl,d⟩:=f.is (ck n);exact⟨A,c,b,d,a⟩
def dZ(A:Option Addr)(c:Nat)(l:List Nat)(w:World)(h:IsN w A c l)(hl:l.length<=1073741823):
  Calls prog 168 #[.slice A l.length c] w (NatPost (aG l) w):=by
 have B:=J h;have Q:=h.cap;have R:=h.max;clear h
 go_enter func168,ntmps168
 go_wp2
 go_loop [3] (λi=>∃k:Nat,k<=l.length/\i=.int .i64 k/\(∀(j:Nat) (I:j<l.length),k<=j->l[j]=0)) (λi=>(intOf i).toNat)
 case atStart=>exact⟨l.length,Q3 _,Z,λj I h=>O⟩
 case round=>
  obtain⟨k,V,rfl,S⟩:=hrel;have N:=J S;clear S;have t:(k=0\/∃h:k-1<l.length,l[k-1]≠0)->l.take k=aD (aG l):=λK=>x6 l k V B.out.ok N.out K
  have M:=J t;clear t;by_cases Y:0<k
  ·obtain⟨b,off,rfl,hb,P⟩:=B.out.digit (i:=k-1) O;have G:=P (k-1) O;have F:=J (show∃h:k-1<l.length,l[k-1]=l[k-1]from⟨O,Z⟩);obtain⟨d,H⟩:∃d,l[k-1]'O=d:=⟨_,Z⟩;rw[H]at G;have L:=J H;clear P H F;by_cases x:d=0
   ·subst x
    go_wp2
    go_round
    case rel=>
     refine⟨k-1,O,by go_num,λj I h=>?_⟩;by_cases e:j=k-1
     ·subst e;exact L.out
     exact N.out j I O
    case measure=>simp[intOf];omega
   have C:=J (M.out (.inr ⟨O,by rw[L.out];exact x⟩));have U:((d:Int)==0)=false:=by simpa using x
   have n:(aD (aG l)).length=k:=by rw[<-C.out,Rb];omega
   have q:=J (B.out.at_.takeN k);rw[C.out]at q;have m:=J n;clear n;obtain⟨W,v,o,_,y⟩:=Dt w 50 #[];have z:=J (uP w w.heap.size (Q3 _));rw[v]at z;have E:=J v;have u:=J o;have p:=o.size;clear v o y
   go_wp2_with (at_builtin;rw[E.out];refine uQ w.heap.size _ [] (aD (aG l)) (some ⟨b,off,none⟩) c (.tmp 18) (.tmp 21) Z Z Z (by rw[m.out];rfl) z.out ((q.out.below u.out).more p) (λh=>by cases h) (by have:=m.out;simp only[Ra];omega) p ?_;intro D T f g;have r:=J f;have s:=J g;clear f g)
   go_ret
   exact⟨D,Z,by simpa using r.out,u.out.trans s.out.below⟩
  obtain rfl:k=0:=O
  have C:=J (M.out (.inl Z));have n:(aD (aG l)).length=0:=by rw[<-C.out,Rb];omega
  have q:=J (B.out.at_.takeN 0);rw[C.out]at q;have m:=J n;clear n;obtain⟨W,v,o,_,y⟩:=Dt w 50 #[];have z:=J (uP w w.heap.size (Q3 _));rw[v]at z;have E:=J v;have u:=J o;have p:=o.size;clear v o y;cases A with
  |none=>
   obtain⟨X,rfl⟩:=B.out.nil Z
   go_wp2_with (at_builtin;rw[E.out];refine uQ w.heap.size _ [] (aD (aG l)) none 0 (.tmp 18) (.tmp 21) Z Z Z (by rw[m.out];rfl) z.out ((q.out.below u.out).more p) (λ_=>⟨m.out,Z⟩) (by have:=m.out;simp only[Ra];omega) p ?_;intro D T f g;have r:=J f;have s:=J g;clear f g)
   go_ret
   exact⟨D,Z,by simpa using r.out,u.out.trans s.out.below⟩
  |some a=>
   go_wp2_with (at_builtin;rw[E.out];refine uQ w.heap.size _ [] (aD (aG l)) (some a) c (.tmp 18) (.tmp 21) Z Z Z (by rw[m.out];rfl) z.out ((q.out.below u.out).more p) (λh=>by cases h) (by have:=m.out;simp only[Ra];omega) p ?_;intro D T f g;have r:=J f;have s:=J g;clear f g)
   go_ret
   exact⟨D,Z,by simpa using r.out,u.out.trans s.out.below⟩
def m5{m n:Nat}(h:(aD m).length<(aD n).length):m<n:=by
 rcases RE m n with a|a
 ·exact a
 have:=bh a;omega
def m6(a:List Nat)(k:Nat)(b:k<a.length):aG a=aG (a.take k)+4294967296^k*(a[k]+4294967296*aG (a.drop (k+1))):=by
 have h:a=a.take k++a[k]::a.drop (k+1):=by rw[<-Re b,R3]
 have c:(a.take k).length=k:=by rw[Rb];omega
 conv=>lhs;rw[h]
 rw[fL,c,aG]
def zU(a b:List Nat)(k:Nat)(h:Digs a)(n:a.length=b.length)(m:k<a.length)(l:∀(j:Nat) (c:j<a.length) (e:j<b.length),k<j->a[j]=b[j])(o:a[k]<b[k]'O):aG a<aG b:=by
 have i:a.drop (k+1)=b.drop (k+1):=by
  apply Ug
  ·simp[n]
  intro j c e;simp only[TO];exact l _ _ _ O
 rw[m6 a k m,m6 b k O,i];have c:=cC (a.take k) (λd f=>h d (RG f));have e:(a.take k).length=k:=by rw[Rb];omega
 rw[e]at c;have g:=Sz (4294967296^k) (show a[k]+4294967296*aG (b.drop (k+1))+1<=b[k]'O+4294967296*aG (b.drop (k+1)) by omega);rw[RF]at g;omega
def Bi(a b:List Nat)(f:a.length=b.length)(e:∀(j:Nat) (c:j<a.length) (d:j<b.length),a[j]=b[j]):a=b:=Ug f λj c d=>e j c d
def bH{B n:Nat}{w W:World}(h:Below B w W):Below B w (W.drewN n):=⟨h.os,h.tape,h.output,h.size,h.block⟩
def Fy(x y:Nat)(w:World)(e:Ending)(w':World):Prop:=e=.returned (.int .i64 (fE x y))/\Below w.heap.size w w'
def lB{x y:Nat}(h:x<y):fE (x:Int) (y:Int)= -1:=kb O
def ke{x y:Nat}(h:y<x):fE (x:Int) (y:Int)=1:=zP O
def m7{x y:Nat}(h:x=y):fE (x:Int) (y:Int)=0:=qD O O
def ua(A B:Option Addr)(ca cb:Nat)(x y:List Nat)(w:World)(hA:IsN w A ca x)(hB:IsN w B cb y)(a3:x.length<=1073741823)(a4:y.length<=1073741823):
  Calls prog 101 #[.slice A x.length ca,.slice B y.length cb] w (Fy (aG x) (aG y) w):=by
 have HA:=J hA;have HB:=J hB;clear hA hB;have P:(aD (aG x)).length<=x.length:=bq (cC x HA.out.ok);have Q:(aD (aG y)).length<=y.length:=bq (cC y HB.out.ok)
 go_enter func101,ntmps101
 go_wp2_with fail
 refine(dZ A ca x _ HA.out a3).mono ?_;intro e w1 f;obtain⟨A1,c1,rfl,R,u⟩:=f.open_;have c:=J R;have F:=J u;have V:=u.size;clear f R u
 go_wp2_with fail
 refine(dZ B cb y _ (HB.out.below F.out) a4).mono ?_;intro e w2 g;obtain⟨A2,c2,rfl,S,n⟩:=g.open_;have t:=J S;have c:=J (c.out.below n);have z:=J (aL F.out n V);have a5:w.heap.size<=w2.heap.size:=Q7 V n.size;clear g S n;generalize hX:aG x=X at c P⊢;generalize hY:aG y=Y at t Q⊢;have l:=J hX;have m:=J hY;clear hX hY;obtain⟨a,ha⟩:∃a,aD X=a:=⟨_,Z⟩;obtain⟨b,hb⟩:∃b,aD Y=b:=⟨_,Z⟩;have K:Hid (aG a=X):=by rw[<-ha];exact aW X
 have L:Hid (aG b=Y):=by rw[<-hb];exact aW Y
 have I:=J (@m5 X Y);have v:=J (@m5 Y X);rw[ha,hb]at I v;rw[ha]at c P⊢;rw[hb]at t Q⊢;clear ha hb;by_cases U:a.length=b.length
 ·have d:=J U;have g1:((a.length:Int)==(b.length:Int))=true:=by rw[beq_iff_eq];omega
  have g2:((a.length:Int) !=(b.length:Int))=false:=by rw[bne_eq_false_iff_eq];omega
  clear U
  go_wp2
  go_loopw [7] (λi wr=>∃k:Nat,k<=a.length/\i=.int .i64 ((k:Int)-1)/\(∀(j:Nat) (f:j<a.length) (g:j<b.length),k<=j->a[j]=b[j])/\Below w2.heap.size w2 wr) (λi _=>(intOf i+1).toNat)
  case atStart=>exact⟨a.length,Q3 _,Z,λj f g h=>O,Below.refl _ _⟩
  case round=>
   obtain⟨k,hk,rfl,he,D⟩:=hrel;have s:=J he;have r:=J D;have W:=J (aL z.out D a5);clear he D;cases k with
   |zero=>
    have a0:=J (show X=Y by rw[<-K.out,<-L.out,Bi a b d.out (λj f g=>s.out j f g O)])
    go_wp2
    go_ret
    exact⟨by rw[l.out,m.out,m7 a0.out];rfl,W.out⟩
   |succ k=>
    rw[show((k+1:Nat):Int)-1=(k:Int) by omega];obtain⟨b1,o1,rfl,u,M⟩:=(c.out.below r.out).digit (i:=k) O;obtain⟨b2,o2,rfl,n,N⟩:=(t.out.below r.out).digit (i:=k) (by have:=d.out;omega);have c1:=M k O;have c2:=N k (by have:=d.out;omega);have E:k<b.length:=by have:=d.out;omega
    have T:k<a.length:=O
    have H:Hid (a[k]'T<b[k]'E->aG a<aG b):=(λh=>zU a b k c.out.ok d.out O (λj f g h'=>s.out j f g O) h);have G:Hid (b[k]'E<a[k]'T->aG b<aG a):=(λh=>zU b a k t.out.ok d.out.symm E (λj f g h'=>(s.out j g f O).symm) h);rw[K.out,L.out]at H G;obtain⟨p,hp⟩:∃p,a[k]'O=p:=⟨_,Z⟩;obtain⟨q,hq⟩:∃q,b[k]=q:=⟨_,Z⟩;have HP:=J hp;have HQ:=J hq;rw[hp]at c1;rw[hq]at c2;clear M N hp hq;have k0:(0:Int)<=(k:Int):=O
    have k1:(k:Int)<(a.length:Int):=O
    have k2:(k:Int)<(b.length:Int):=O
    rcases Ub p q with o|o|o
    ·have C:=J (H.out (by rw[HP.out,HQ.out];exact o));have t1:decide ((p:Int)<(q:Int))=true:=by simp;omega
     go_wp2
     go_quiet (fail)
     go_wp2
     go_ret
     exact⟨by rw[l.out,m.out,lB C.out];rfl,bH W.out⟩
    ·subst o
     go_wp2
     go_quiet (fail)
     go_wp2
     go_quiet (fail)
     go_wp2
     go_roundw
     case rel=>
      refine⟨k,O,by go_num,λj f g h=>?_,by first|exact bH (bH r.out)|exact bH r.out⟩;by_cases e:j=k
      ·subst e;rw[HP.out,HQ.out]
      exact s.out j f g O
     case measure=>simp[intOf]
    have C:=J (G.out (by rw[HP.out,HQ.out];exact o));have t1:decide ((p:Int)<(q:Int))=false:=by simp;omega
    have t2:decide ((q:Int)<(p:Int))=true:=by simp;omega
    go_wp2
    go_quiet (fail)
    go_wp2
    go_quiet (fail)
    go_wp2
    go_ret
    exact⟨by rw[l.out,m.out,ke C.out];rfl,by first|exact bH (bH W.out)|exact bH W.out⟩
 have g1:((a.length:Int)==(b.length:Int))=false:=by rw[beq_eq_false_iff_ne];omega
 have g2:((a.length:Int) !=(b.length:Int))=true:=by rw[bne_iff_ne];omega
 rcases RE a.length b.length with a2|a9
 ·have C:=J (I.out a2)
  go_wp2
  go_ret
  exact⟨by rw[l.out,m.out,lB C.out];rfl,z.out⟩
 have a1:b.length<a.length:=O
 have C:=J (v.out a1)
 go_wp2
 go_ret
 exact⟨by rw[l.out,m.out,ke C.out];rfl,z.out⟩
