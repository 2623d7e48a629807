import Derived.Test.YtfoejfohbkmmeaaGreatDoorK25
import Derived.Shelf.Strings.IndexAnyAll
set_option maxRecDepth 100000
set_option maxHeartbeats 8000000
set_option linter.defProp false
open Go.Proofs.Tryz
namespace Go.Proofs.YtfoejfohbkmmeaaGreatDoor
open Go.RowKit
open Lib renaming hid→J
def eU(c:UInt8):Bool:=decide (48<=c.toNat)&&decide (c.toNat<=57)
def fT(l:List UInt8):Nat:=l.foldl (λa c=>a*10+(c.toNat-48)) 0
def p8:∀(l:List UInt8) (a:Nat),l.foldl (λa c=>a*10+(c.toNat-48)) a=a*10^l.length+fT l
 |[],a=>by simp[fT]
 |c::l,a=>by
  have b:=p8 l (a*10+(c.toNat-48));have d:=p8 l (0*10+(c.toNat-48));unfold fT at b⊢;rw[Th,Th,b,d,Q5,RA,R2,Uc,R4,Ry,Rk 10,S4];rfl
def B6(a b:List UInt8):fT (a++b)=fT a*10^b.length+fT b:=by
 have h:=p8 b (fT a);unfold fT at h⊢;rw[VI];exact h
def Ht{l:List UInt8}{k:Nat}{c:UInt8}(h:l[k]? =some c):fT (l.take (k+1))=fT (l.take k)*10+(c.toNat-48):=by
 obtain⟨a,rfl⟩:=Q6.1 h;rw[Rz a,B6];simp[fT]
def ru(l:List UInt8)(k j:Nat)(h:k+j<=l.length):fT (l.take (k+j))=fT (l.take k)*10^j+fT ((l.drop k).take j):=by
 rw[List.take_add,B6];congr 3;simp;omega
def NU(s:ByteArray)(w:World)(v i:Value)(wr:World):Prop:=
 ∃(k:Nat) (l:List Nat),k<=s.size/\i=.int .i64 k/\OwnN wr w.heap.size v l/\Digs l/\aG l=fT (s.data.toList.take k)/\l.length<=k/\Below w.heap.size w wr
def PbInv(s:ByteArray)(W:World)(k:Nat)(vi va vp vj:Value)(wr:World):Prop:=
 ∃(j a p:Nat),j<=9/\k+j<=s.size/\vi=.int .i64 ((k+j:Nat):Int)/\va=.int .u32 a/\vp=.int .u32 p/\vj=.int .i64 j/\p=10^j/\a<p/\a=fT ((s.data.toList.drop k).take j)/\wr=W
def v7{s:ByteArray}{W:World}{k j a p:Nat}{c:UInt8}{x y z u:Int}(e:j<9)(q:k+j<s.size)(f:p=10^j)(n:a<p)(d:a=fT ((s.data.toList.drop k).take j))(b:s.data.toList[k+j]? =some c)(o:48<=c.toNat/\c.toNat<=57)
  (h:x=((k+(j+1):Nat):Int)) (i:y=((a*10+(c.toNat-48):Nat):Int)) (m:z=((p*10:Nat):Int)) (g:u=((j+1:Nat):Int)):PbInv s W k (.int .i64 x) (.int .u32 y) (.int .u32 z) (.int .i64 u) W:=by
 subst h i m g;refine⟨j+1,_,_,e,O,Z,Z,Z,Z,by rw[f,RA],O,?_,Z⟩;rw[d,Ht (l:=s.data.toList.drop k) (k:=j) (c:=c) (by rw[Si];exact b)]
def Et(s:ByteArray)(w:World)(h1:1<=s.size)(h2:s.size<=4000)(hd:∀(k:Nat) (h:k<s.size),48<=s[k].toNat/\s[k].toNat<=57)(hc:1<s.size->∀h:0<s.size,s[0].toNat≠48):Calls prog 211 #[.string s] w (iB (λW v=>∃a,v=.tuple #[a,.int .i64 0]/\IsD W a (fT s.data.toList)) w):=by
 have HD:=J hd;have a0:Hid (∀k (h:k<s.size),s.data.toList[k]? =some s[k]):=λk h=>by
  rw[Q2 (by rw[Sd];exact h)];rfl
 clear hd;have e0:s.size=s.data.toList.length:=by rw[Sd];rfl
 have E0:=J e0;clear e0
 go_enter func211,ntmps211
 have e1:¬(4000:Int)<(s.size:Int):=O
 have e2:((s.size:Int)==0)=false:=by simpa using(by omega:¬(s.size:Int)=0)
 have e5:(0:Int)<(s.size:Int):=O
 have C:∀(h:0<s.size),(1<s.size/\((s[0].toNat:Int)==48)=false)\/s.size=1:=λh=>by
  rcases RE 1 s.size with S|S
  ·exact .inl ⟨S,by have:=hc S h;simpa using(by omega:¬(s[0].toNat:Int)=48)⟩
  exact .inr O
 rcases C O with⟨h3,h4⟩|h3
 ·have e3:(1:Int)<(s.size:Int):=O
  go_wp2
  clear e3 h3 h4 C hc
  go_loopw [4] (λi wr=>wr=w/\∃k:Nat,k<=s.size/\i=.int .i64 k) (λi _=>s.size-(intOf i).toNat)
  case atStart=>exact⟨Z,0,Rg _,Z⟩
  case round=>
   obtain⟨Y,k,hk,rfl⟩:=hrel;obtain rfl:w=wr:=Y.symm;by_cases p:k<s.size
   ·obtain⟨z,B⟩:=HD.out k p;have f1:¬((s[k].toNat:Int)<48):=O
    have f2:¬((57:Int)<(s[k].toNat:Int)):=O
    go_wp2
    go_roundw
    case rel=>first|exact⟨trivial,k+1,p,Z⟩|exact⟨Z,k+1,p,Z⟩
    case measure=>simp[intOf];omega
   obtain rfl:k=s.size:=O
   go_wp2
   go_loopw [5,6] (λv i wr=>NU s w v i wr) (λ_ i _=>s.size-(intOf i).toNat)
   case atStart=>exact⟨0,[],Rg _,Z,OwnN.nil _ _,λd hd=>by simp at hd,Z,Q3 _,Below.refl _ _⟩
   case round=>
    obtain⟨k,l,hk,rfl,q,K,b,a5,T⟩:=hrel;have HO:=J q;have R:=J b;have HL:=J K;have t:=J T;have L:=T.size;clear q b K T;by_cases p:k<s.size
    ·go_wp2
     rename World=>W
     go_loopw [6,7,8,9] (λvi va vp vj wr=>PbInv s W k vi va vp vj wr) (λ_ _ _ j _=>9-(intOf j).toNat)
     case atStart=>exact⟨0,0,1,O,O,Z,Z,Z,Z,Z,O,by simp[fT],Z⟩
     case round=>
      obtain⟨j,a,pw,hj,H,rfl,rfl,rfl,rfl,X,ha,he,hW⟩:=hrel;subst hW;have M:=J X;have Q:=J he;have b0:pw<=1000000000:=by rw[X];exact Rx I hj
      clear X he;by_cases U:j<9/\k+j<s.size
      ·obtain⟨G,o⟩:=U;have a9:pw<=100000000:=by rw[M.out];exact Rx I (show j<=8 by omega)
       obtain⟨z,B⟩:=HD.out (k+j) o;obtain⟨c,E⟩:∃c,s[k+j]=c:=⟨_,Z⟩;have HC:=J (show s.data.toList[k+j]? =some c by rw[a0.out (k+j) o,E]);rw[E]at z B;have a1:(48:Int)<=(c.toNat:Int):=O
       have a2:(c.toNat:Int)<=57:=O
       go_wp2
       go_roundw
       case rel=>exact v7 G o M.out ha Q.out HC.out ⟨z,B⟩ O O O O
       case measure=>simp[intOf];omega
      have a4:0<j:=O
      have a3:¬((j:Int)<9/\((k+j:Nat):Int)<(s.size:Int)):=O
      have HS:=J (yC w.heap.size _ l pw a _ HO.out HL.out L O O O);by_cases G:j<9
      ·have o:¬(k+j<s.size):=O
       go_wp2_with fail
       refine HS.out.mono ?_;rintro e w5 ⟨v5,l5,rfl,m,g,n,V,f⟩;have x:=J m;have y:=J n;have u:=J g;have r:=J f;clear m n g f
       go_wp2
       go_roundw
       case rel=>exact⟨k+j,l5,H,Z,x.out,u.out,by rw[y.out,R.out,M.out,Q.out,ru _ _ _ (by have:=E0.out;omega)],O,t.out.trans r.out⟩
       case measure=>simp[intOf];omega
      go_wp2_with fail
      refine HS.out.mono ?_;rintro e w5 ⟨v5,l5,rfl,m,g,n,V,f⟩;have x:=J m;have y:=J n;have u:=J g;have r:=J f;clear m n g f
      go_wp2
      go_roundw
      case rel=>exact⟨k+j,l5,H,Z,x.out,u.out,by rw[y.out,R.out,M.out,Q.out,ru _ _ _ (by have:=E0.out;omega)],O,t.out.trans r.out⟩
      case measure=>simp[intOf];omega
    obtain rfl:k=s.size:=O
    have b:aG l=fT s.data.toList:=by have S:=R.out;rwa[E0.out,Sa]at S
    obtain⟨A,c,rfl,hi⟩:=HO.out.is HL.out;have HT:=J (qK hi Z O b);clear hi b
    go_wp2_with fail
    refine HT.out.mono ?_;rintro e w6 ⟨v6,rfl,F,D⟩;have P:=J F;have N:=J (aL t.out D L);clear F D
    go_wp2
    go_ret2
    exact⟨_,Z,⟨_,Z,P.out⟩,N.out⟩
 have e3:¬(1:Int)<(s.size:Int):=O
 go_wp2
 clear e3 h3 C hc
 go_loopw [4] (λi wr=>wr=w/\∃k:Nat,k<=s.size/\i=.int .i64 k) (λi _=>s.size-(intOf i).toNat)
 case atStart=>exact⟨Z,0,Rg _,Z⟩
 case round=>
  obtain⟨Y,k,hk,rfl⟩:=hrel;obtain rfl:w=wr:=Y.symm;by_cases p:k<s.size
  ·obtain⟨z,B⟩:=HD.out k p;have f1:¬((s[k].toNat:Int)<48):=O
   have f2:¬((57:Int)<(s[k].toNat:Int)):=O
   go_wp2
   go_roundw
   case rel=>first|exact⟨trivial,k+1,p,Z⟩|exact⟨Z,k+1,p,Z⟩
   case measure=>simp[intOf];omega
  obtain rfl:k=s.size:=O
  go_wp2
  go_loopw [5,6] (λv i wr=>NU s w v i wr) (λ_ i _=>s.size-(intOf i).toNat)
  case atStart=>exact⟨0,[],Rg _,Z,OwnN.nil _ _,λd hd=>by simp at hd,Z,Q3 _,Below.refl _ _⟩
  case round=>
   obtain⟨k,l,hk,rfl,q,K,b,a5,T⟩:=hrel;have HO:=J q;have R:=J b;have HL:=J K;have t:=J T;have L:=T.size;clear q b K T;by_cases p:k<s.size
   ·go_wp2
    rename World=>W
    go_loopw [6,7,8,9] (λvi va vp vj wr=>PbInv s W k vi va vp vj wr) (λ_ _ _ j _=>9-(intOf j).toNat)
    case atStart=>exact⟨0,0,1,O,O,Z,Z,Z,Z,Z,O,by simp[fT],Z⟩
    case round=>
     obtain⟨j,a,pw,hj,H,rfl,rfl,rfl,rfl,X,ha,he,hW⟩:=hrel;subst hW;have M:=J X;have Q:=J he;have b0:pw<=1000000000:=by rw[X];exact Rx I hj
     clear X he;by_cases U:j<9/\k+j<s.size
     ·obtain⟨G,o⟩:=U;have a9:pw<=100000000:=by rw[M.out];exact Rx I (show j<=8 by omega)
      obtain⟨z,B⟩:=HD.out (k+j) o;obtain⟨c,E⟩:∃c,s[k+j]=c:=⟨_,Z⟩;have HC:=J (show s.data.toList[k+j]? =some c by rw[a0.out (k+j) o,E]);rw[E]at z B;have a1:(48:Int)<=(c.toNat:Int):=O
      have a2:(c.toNat:Int)<=57:=O
      go_wp2
      go_roundw
      case rel=>exact v7 G o M.out ha Q.out HC.out ⟨z,B⟩ O O O O
      case measure=>simp[intOf];omega
     have a4:0<j:=O
     have a3:¬((j:Int)<9/\((k+j:Nat):Int)<(s.size:Int)):=O
     have HS:=J (yC w.heap.size _ l pw a _ HO.out HL.out L O O O);by_cases G:j<9
     ·have o:¬(k+j<s.size):=O
      go_wp2_with fail
      refine HS.out.mono ?_;rintro e w5 ⟨v5,l5,rfl,m,g,n,V,f⟩;have x:=J m;have y:=J n;have u:=J g;have r:=J f;clear m n g f
      go_wp2
      go_roundw
      case rel=>exact⟨k+j,l5,H,Z,x.out,u.out,by rw[y.out,R.out,M.out,Q.out,ru _ _ _ (by have:=E0.out;omega)],O,t.out.trans r.out⟩
      case measure=>simp[intOf];omega
     go_wp2_with fail
     refine HS.out.mono ?_;rintro e w5 ⟨v5,l5,rfl,m,g,n,V,f⟩;have x:=J m;have y:=J n;have u:=J g;have r:=J f;clear m n g f
     go_wp2
     go_roundw
     case rel=>exact⟨k+j,l5,H,Z,x.out,u.out,by rw[y.out,R.out,M.out,Q.out,ru _ _ _ (by have:=E0.out;omega)],O,t.out.trans r.out⟩
     case measure=>simp[intOf];omega
   obtain rfl:k=s.size:=O
   have b:aG l=fT s.data.toList:=by have S:=R.out;rwa[E0.out,Sa]at S
   obtain⟨A,c,rfl,hi⟩:=HO.out.is HL.out;have HT:=J (qK hi Z O b);clear hi b
   go_wp2_with fail
   refine HT.out.mono ?_;rintro e w6 ⟨v6,rfl,F,D⟩;have P:=J F;have N:=J (aL t.out D L);clear F D
   go_wp2
   go_ret2
   exact⟨_,Z,⟨_,Z,P.out⟩,N.out⟩
def Hu(s:ByteArray)(c:1<=s.size)(f:s.size<=4000)(l:s.data.toList.all eU=true)(j:¬(1<s.size/\((s.data.toList[0]?).getD 0).toNat=48)):Ct 211 [sT s] (.tup [aY (fT s.data.toList),iT 0]):=fy (K:=λW v=>∃a,v=.tuple #[a,.int .i64 0]/\IsD W a (fT s.data.toList)) ⟨_,func211,Z,Z⟩ (λG W v i h=>by
  obtain⟨a,rfl,c⟩:=h;exact .tup [a,.int .i64 0] _ ((fe i c).cons (.sc _ .nil)) .nil) λG w vs _ _ m=>by
 obtain⟨u,rfl,g⟩:=eC m;cases g;have b:∀(k:Nat) (h:k<s.size),s.data.toList[k]? =some s[k]:=λk h=>by
  rw[Q2 (by rw[Sd];exact h)];rfl
 refine Et s w c f (λk h=>?_) (λh d e=>?_)
 ·have:=Rl.1 l _ (Q8 (b k h));unfold eU at this;simpa using this
 refine j ⟨h,?_⟩;rw[b 0 d];exact e
def nU(l:List UInt8):Int:=if l.any (λc=>c==44||c==58)then((l.takeWhile λc=> !(c==44||c==58)).length:Int)else-1
def Dl(l:List UInt8):Bool:=l.all λc=>decide (c.toNat<128)
def Ky{l:List UInt8}(h:Dl l=true):∀(j:Nat) b,l[j]? =some b->b.toNat<128:=λj b a=>of_decide_eq_true (Rl.1 h b (Q8 a))
def Kz{l:List UInt8}(h:Dl l=true)(k:Nat):Dl (l.drop k)=true:=Rl.2 λx a=>Rl.1 h x (Sf a)
def KA{l:List UInt8}(h:Dl l=true)(k:Nat):Dl (l.take k)=true:=Rl.2 λx a=>Rl.1 h x (RG a)
def yD:∀l:List UInt8,Lib.indexAny l [44,58]=nU l
 |[]=>rfl
 |b::l=>by
  have e:=yD l;unfold Lib.indexAny;rw[e];have d:([44,58]:List UInt8).contains b=(b==44||b==58):=by
   simp only[List.contains,List.elem];cases b==44<;>cases b==58<;>rfl
  rw[d];unfold nU;rw[UA,SA];cases h:(b==44||b==58)
  ·simp only[Vt,Bool.not_false,if_true,Ty,if_false];by_cases a:l.any (λc=>c==44||c==58)=true
   ·rw[if_pos a,if_pos a,if_neg F];simp
   rw[if_neg a,if_neg a,if_pos I]
  simp
def B7(s:ByteArray)(h:s.size<=1048576)(c:Dl s.data.toList=true):Ct 140 [sT s,.sc (.string ⟨#[44,58]⟩)] (iT (nU s.data.toList)):=Ct.sc ⟨_,func140,Z,Z⟩ λG w vs _ _ d=>by
 obtain⟨u,x,rfl,a,b⟩:=dE d;cases a;cases b;have:=Any.strings_IndexAny_laid lays153 U s ⟨#[44,58]⟩ w O I (Ky c) (Ky I);rw[<-yD];exact this
def nF(s p:ByteArray):Ct 77 [sT s,sT p] (bT (Lib.hasPrefix s.data.toList p.data.toList)):=Ct.sc ⟨_,func77,Z,Z⟩ λG w vs _ _ c=>by
 obtain⟨u,x,rfl,a,b⟩:=dE c;cases a;cases b;exact(Tryz.strings_HasPrefix s p w).mono λ_ _ ⟨a,b⟩=>⟨a,by rw[b];exact Below.refl _ _⟩
def my(s:ByteArray)(l h:Nat):(s.extract l h).data.toList=(s.data.toList.take h).drop l:=by
 rw[ByteArray.data_extract,Array.toList_extract,List.extract_eq_take_drop,Uq]
def cg(s:ByteArray):s.size=s.data.toList.length:=F
def gi(s:ByteArray)(i:Nat):UInt8:=(s.data.toList[i]?).getD 0
def fG{s:ByteArray}{i:Nat}(h:i<s.size):s.data.toList[i]? =some (gi s i):=by
 rw[cg]at h;unfold gi;rw[Q2 h];rfl
def Au(l:List UInt8):Nat:=(l.takeWhile eU).length
def KB(l:List UInt8):Au l<=l.length:=(TK _).length_le
def KC{s:ByteArray}{i:Nat}(a:(s.data.toList.drop i).takeWhile eU=(s.data.toList.takeWhile eU).drop i)(h:i<s.size)(c:eU (gi s i)=true):(s.data.toList.drop (i+1)).takeWhile eU=(s.data.toList.takeWhile eU).drop (i+1)/\i+1<=Au s.data.toList:=by
 have b:i<s.data.toList.length:=by rw[<-cg];exact h
 have e:s.data.toList[i]=gi s i:=by have:=fG h;rw[Q2 b]at this;exact Sw this
 rw[Re b,SA,e,c,if_pos Z]at a;constructor
 ·have:=congrArg List.tail a;simpa[List.tail_drop]using this
 have:=congrArg List.length a;rw[Q5,Rm]at this;unfold Au;omega
def M3{s:ByteArray}{i:Nat}(b:(s.data.toList.drop i).takeWhile eU=(s.data.toList.takeWhile eU).drop i)(f:i<=Au s.data.toList)(a:((decide (i<s.size)&&decide (48<=(gi s i).toNat))&&decide ((gi s i).toNat<=57))=false):i=Au s.data.toList:=by
 have d:(s.data.toList.drop i).takeWhile eU=[]:=by
  by_cases h:i<s.size
  ·have c:i<s.data.toList.length:=by rw[<-cg];exact h
   have e:s.data.toList[i]=gi s i:=by have:=fG h;rw[Q2 c]at this;exact Sw this
   rw[Re c,SA,e];rw[decide_eq_true h,Tx]at a;rw[show eU (gi s i)=false from a];rfl
  rw[Rc (by rw[<-cg];omega)];rfl
 rw[d]at b;have:=congrArg List.length b;rw[Rm]at this;unfold Au at f⊢;simp only[Ra]at this;omega
def QN{a b:Nat}(h:a=b):aY a=aY b:=by rw[h]
def Eu{s t:ByteArray}(j:1<t.size)(g:(gi t 0).toNat=48)(d:t.size<=s.size)(f:fT t.data.toList=fT s.data.toList)(c:t.data.toList.all eU=true):1<=(t.extract 1 t.size).size/\(t.extract 1 t.size).size<=s.size/\fT (t.extract 1 t.size).data.toList=fT s.data.toList/\(t.extract 1 t.size).data.toList.all eU=true:=by
 have e:(t.extract 1 t.size).data.toList=t.data.toList.tail:=by
  rw[my,cg,Sa,List.drop_one]
 have k:(t.extract 1 t.size).size=t.size-1:=by simp[RS]
 have b:t.data.toList=gi t 0::t.data.toList.tail:=by
  have:=fG (s:=t) (i:=0) O;cases h:t.data.toList with
  |nil=>rw[h]at this;cases this
  |cons a l=>rw[h]at this;simp at this;rw[List.tail_cons,<-this]
 refine⟨O,O,?_,?_⟩
 ·rw[e,<-f];conv=>rhs;rw[b]
  unfold fT;rw[Th,g]
 rw[e];rw[b,SJ,Q9]at c;exact c.2
def KD(s:ByteArray)(l:s.size<=1048576):Ct 147 [sT s] (nI (Au s.data.toList)):=by
 refine Ct.of (n:=23) func147 Z Z Z Z Z λw0 G0=>?_
 refine X 1 Z<|X 1 Z<|H<|aB<|aT (λj h=>∃(i:Nat),(i<=s.size/\(s.data.toList.drop i).takeWhile eU=(s.data.toList.takeWhile eU).drop i/\i<=Au s.data.toList)/\j=s.size-i/\h=⟨23,[(0,sT s),(3,nI i)],[],[]⟩) 0 0 ⟨0,⟨O0,Z,O0⟩,Z,Z⟩ .rf ?_;rintro j h ⟨i,⟨k,c,g⟩,rfl,rfl⟩;refine H<|C<|M 2 (t:=nI s.size) Z (fK Z bu Z)<|aI 0 Z Z Zy (B (gF i s.size))<|ax 1 Z<|N Z Z Z Z (λa=>K Z Z)<|N Z Z Z Z (λa=>K Z Z)<|N (t:=.sc (.int .u8 (((gi s i).toNat:Nat):Int))) Z Z Z Z (λa=>eO Z bu (if_pos a) (if_pos a) Z (fG (of_decide_eq_true a)))<|N Z Z Z Z (λa=>aj (aC Z Z (if_pos a) (λ_=>rfl)) (B (IX 48 ((gi s i).toNat))))<|M 0 Z (cH Z Z Z Z)<|ax 1 Z<|N Z Z Z Z (λa=>K Z Z)<|N Z Z Z Z (λa=>K Z Z)<|N (t:=.sc (.int .u8 (((gi s i).toNat:Nat):Int))) Z Z Z Z (λa=>eO Z bu (if_pos a) (if_pos a) Z (fG (of_decide_eq_true (Bool.and_eq_true_iff.1 a).1)))<|N Z Z Z Z (λa=>aj (aC Z (if_pos a) Z (λ_=>rfl)) (B (IX ((gi s i).toNat) 57)))<|M 0 Z (cH Z Z Z Z)<|E<|aK Z (λb=>?_) (λb=>?_)
 ·rw[Q9,Q9]at b;have f:=of_decide_eq_true b.1.1;have e:=KC c f (by unfold eU;rw[b.1.2,b.2];rfl);refine ar<|aB<|am<|a8 1 (i+1) Z Z Zy O0<|Y 1 Z<|⟨_,_,?_,⟨i+1,?_,Z,Z⟩,.rf⟩
  ·omega
  exact⟨O0,e.1,e.2⟩
 have d:=M3 c g b;refine aX<|X 2 Z<|aM ⟨Z,ej (by rw[<-d]),Z⟩ Z
def pb(s:ByteArray)(p:1<=s.size)(q:s.size<=4000)(o:s.data.toList.all eU=true):Ct 148 [sT s] (aY (fT s.data.toList)):=by
 refine Ct.of (n:=21) func148 Z Z Z Z Z λw0 G0=>?_
 refine C<|M 0 (t:=.sl []) Z (bz (.inr Z) bS)<|E<|H<|aB<|aT (λm k=>∃(t:ByteArray),(1<=t.size/\t.size<=s.size/\fT t.data.toList=fT s.data.toList/\t.data.toList.all eU=true)/\m=t.size/\k=⟨21,[(0,sT t)],[],[]⟩) 0 0 ⟨s,⟨O0,Q3 _,Z,o⟩,Z,Z⟩ .rf ?_;rintro m k ⟨t,⟨r,g,c,b⟩,rfl,rfl⟩;refine H<|C<|M 1 (t:=nI t.size) Z (fK Z bu Z)<|aI 0 Z Z Zy (B (nZ t.size 1))<|ax 1 Z<|N Z Z Z Z (λd=>K Z Z)<|N (t:=.sc (.int .u8 (((gi t 0).toNat:Nat):Int))) Z Z Z Z (λd=>eO (j:=0) Z bu (if_pos d) Z Z (fG (by have:=of_decide_eq_true d;omega)))<|N Z Z Z Z (λd=>aj (aC Z (if_pos d) Z (λ_=>rfl)) (B (gL ((gi t 0).toNat) 48)))<|M 0 Z (cH Z Z Z Z)<|E<|aK Z (λa=>?_) (λa=>?_)
 ·rw[Q9]at a;have f:=of_decide_eq_true a.1;have i:=of_decide_eq_true a.2;refine ar<|aB<|am<|M 1 (t:=sT (t.extract 1 t.size)) Z (ga (l:=1) (h:=t.size) Z bu Z ⟨_,Z⟩ Z O0 O0)<|Y 1 Z<|⟨_,_,?_,⟨t.extract 1 t.size,?_,Z,Z⟩,.rf⟩
  ·simp only[RS];omega
  exact Eu f i g c b
 have e:¬(1<t.size/\(gi t 0).toNat=48):=λh=>by rw[decide_eq_true h.1,decide_eq_true h.2]at a;cases a
 refine aX<|C<|M 1 Z (D Z (Hu t O0 O0 b e) Z Z)<|Y 5 Z<|X 2 Z<|aM ⟨Z,QN c,Z⟩ Z
def sL{α:Type}{l:List α}{i:Nat}{t:α}(h:l[i]? =some t):l.take (i+1)=l.take i++[t]:=by
 obtain⟨a,rfl⟩:=Q6.1 h;exact Rz a
def B8(r:Rel)(m:r.tups.length<=65536)(c:∀t∈r.tups,Ct 48 [dw t.prob] (dw t.prob)):Ct 17 [r.tree] (r.tree):=by
 refine Ct.of (n:=35) func17 Z Z Z Z Z λw0 G0=>?_
 refine X 2 Z<|C<|M 2 (t:=.agg (j6 r (.sc (.slice none 0 0)))) Z (oR Z k6 Z Z Z)<|Y 2 Z<|H<|H<|iU 2 3 67 4 (bs':=[(30,(bQ r)),(30,c7),(30,(j6 r (.own 0)))]) (rs':=[some ⟨67,4,[],false⟩]) Z Z Z Z<|eh 1 Z<|aB<|aT (λh d=>∃(i:Nat),(i<=r.tups.length)/\h=r.tups.length-i/\d=⟨35,[(1,.box 0 0),(2,.box 1 0),(3,.box 2 0),(4,nI i)],[(30,(bQ r)),(30,c7),(30,(j6 r (.own 0)))],[some ⟨67,4,(r.tups.take i).map Tp.tree,false⟩]⟩) 3 1 ⟨0,Rg _,Z,Z⟩ .rf ?_;rintro h d ⟨i,j,rfl,rfl⟩;refine H<|C<|M 3 Z (aU Z aV Z)<|aI 0 Z Z Zy (B (gF i r.tups.length))<|E<|ay Z (λb=>?_) (λb=>?_)
 ·obtain⟨t,a⟩:∃t,r.tups[i]? =some t:=⟨_,Q2 b⟩;refine ar<|H<|aB<|eM (sl':=[(1,.box 0 0),(2,.box 1 0),(3,.box 2 0),(4,nI i),(12,bT (decide (i<r.tups.length)))]) ⟨Z,⟨Z,⟨Z,⟨Z,⟨Z,trivial⟩⟩⟩⟩⟩<|Vr (fu:=7) [some 15,some 16,some 17,some 18,some 19,some 20,some 21,some 22,some 23,some 24,some 25,some 26,some 27,some 28,some 29,some 30,some 31,some 32,some 33,none] [17,19] [.box 2 3,.own 0,.box 0 3,.sl (r.tups.map Tp.tree),nI i,.ref (eA t),.ref (eA t),.sl (t.vals.map V.tree),.box 0 3,.sl (r.tups.map Tp.tree),nI i,.ref (eA t),.ref (bj t.prob),.agg (bj t.prob),.agg (bj t.prob),.agg (eA t),.sl [.agg (eA t)],.own 0,.box 2 3,.any] [([17],[(30,(bQ r)),(30,c7),(30,(j6 r .any))],[some ⟨67,4,(r.tups.take (i+1)).map Tp.tree,false⟩],[(1,.any)])] [19,17] [(30,(bQ r)),(30,c7),(30,(j6 r (.own 0)))] [some ⟨67,4,(r.tups.take (i+1)).map Tp.tree,false⟩] [(1,.any)] U0 Z U0 U0 U0 Z Z ?_ ?_
  ·refine .opp [] (.okk Z (aq Z Z a6 Z)<|.fin)<|.opp [0] (.okk Z (av Z Z Z bJ Z)<|.fin)<|.opp [] (.okk Z (aq Z Z a6 Z)<|.fin)<|.opp [2] (.okk Z (av Z Z Z bJ Z)<|.fin)<|.opp [] (.okk Z (K Z Z)<|.fin)<|.opp [3,4] (.okk Z (aO (Tp.tree t) Z aV Z Z Z (bd (f:=Tp.tree) a) (c6 _) Z)<|.fin)<|.opp [5] (.okk Z (bL Z Z cz Z)<|.fin)<|.opp [6] (.okk Z (bi Z Z di Z)<|.fin)<|.opp [] (.okk Z (aq Z Z a6 Z)<|.fin)<|.opp [8] (.okk Z (av Z Z Z bJ Z)<|.fin)<|.opp [] (.okk Z (K Z Z)<|.fin)<|.opp [9,10] (.okk Z (aO (Tp.tree t) Z aV Z Z Z (bd (f:=Tp.tree) a) (c6 _) Z)<|.fin)<|.opp [11] (.okk Z (bL Z Z eD Z)<|.fin)<|.opp [12] (.okk Z (dt Z Z aH Z Z)<|.fin)<|.opp [13] (.okk Z (D Z (c t (Q8 a)) Z Z)<|.fin)<|.opp [7,14] (.okk Z (f5 Z gw Z Z Z)<|.fin)<|.opp [15] (.okk Z (aS Z aV go Z I1 I1 Z Z Z Z Z)<|.fin)<|.opp [1,16] (.wr 1 (fk 0) (.own 0) U0 Z Z (c8 Z Z Z ia Z Z Z Z (by intro e g;simp only[Ri,RM,or_false]at g;subst g;rfl) (AllC.lit Z) (AllC.lit Z) (by simp only[Rn,Rb,Q5,Ra];omega) Z Z (by rw[sL a,Sn];rfl)) Z Z Z Z (.ks 17 Z (.i Z (.k Z (.k Z .nil))))<|.fin)<|.opp [] (.no U0<|.okk Z (aq Z Z a6 Z)<|.fin)<|.opp [17,18] (.no U0<|.wr 2 id .any U0 Z Z (fx Z Z Z Z Z Z Z Z k7 Z Z Z) Z Z Z Z (.ks 19 Z (.i Z .nil))<|.fin)<|.nil
  refine am<|a8 1 (i+1) Z Z Zy O0<|Y 1 Z<|⟨_,_,?_,⟨i+1,?_,Z,Z⟩,.rf⟩
  ·omega
  omega
 refine dp 0 (bs':=[(30,(bQ r)),(30,c7),(30,[sT r.sch.name,bT r.sch.cert,.sl (r.sch.cols.map Col.tree),.sl ((r.tups.take i).map Tp.tree)])]) (rs':=[none]) Z Z Z Z<|aX<|X 2 Z<|aM ⟨(co Z Z bf Z),congrArg (λx:List Tp=>Tree.agg [sT r.sch.name,bT r.sch.cert,.sl (r.sch.cols.map Col.tree),.sl (x.map Tp.tree)]) (Rf (l:=r.tups) (i:=i) O0),Z⟩ Z
def F6(M N:Nat)(m:(aD M).length<=1048576)(n:(aD N).length<=1048576):Ct 214 [aY M,aY N] (aY (M+N)):=fy ⟨_,func214,Z,Z⟩ (λ_ _ _ f h=>fe f h) λG w vs _ _ l=>by
 obtain⟨u,v,rfl,a,b⟩:=dE l;obtain⟨A,c,rfl,i⟩:=ek a;obtain⟨B,d,rfl,j⟩:=ek b;have:=D9 A B c d (aD M) (aD N) w i j O O;rw[aW,aW]at this;refine this.mono ?_;rintro e w' ⟨v,rfl,k,g⟩;exact⟨v,Z,k.isD,g⟩
def pc(M N:Nat)(g:(aD M).length<=1048576)(i:(aD N).length<=1048576):Ct 158 [aY M,aY N] (aY (M*N)):=fy ⟨_,func158,Z,Z⟩ (λ_ _ _ f h=>fe f h) λG w vs _ _ n=>by
 obtain⟨u,v,rfl,a,b⟩:=dE n;obtain⟨A,c,rfl,k⟩:=ek a;obtain⟨B,d,rfl,l⟩:=ek b;have:=Ea A B c d (aD M) (aD N) w k l g i;rw[aW,aW]at this;refine this.mono ?_;rintro e w' ⟨v,rfl,m,j⟩;exact⟨v,Z,m.isD,j⟩
def F9(n:Nat):eK false n 1=(n:Rat):=by
 unfold eK;rw[if_neg F,Rat.mkRat_one];rfl
def KE(p q:Rat):((decide (p.num<0)==decide (q.num<0)&&decide (p.num.natAbs=q.num.natAbs))&&decide (p.den=q.den))=decide (p=q):=by
 rw[TE];simp only[Q9,beq_iff_eq,decide_eq_true_eq,decide_eq_decide];constructor
 ·rintro⟨⟨b,c⟩,a⟩;exact Rat.ext O a
 rintro rfl;exact⟨⟨T1,Z⟩,Z⟩
def wd{x y:Operand}(t:Nat)(a:t<4294967296)(w:World):(do eqGuard .shr 50 x y (.int .u32 (t:Nat)) (.int .u64 1);binOp .shr 50 (.int .u32 (t:Nat)) (.int .u64 1):Sem Value).run prog w=.ok (.int .u32 ((t/2:Nat):Int)) w:=by
 simp[eqGuard,binOp,Op.shift,IntKind.bits];exact Uk _ I
def B9{d:Nat}(h:d<4294967296):Lib.bitLen d<=64:=by
 by_cases a:d=0
 ·subst a;decide
 have:=(Lib.bitLenAux_bounds 64 d O a).2.1;unfold Lib.bitLen;rcases RE 64 (Lib.bitLenAux 64 d)with b|b
 ·have c:2^64<=2^(Lib.bitLenAux 64 d-1):=Rx I O;omega
 exact b
def KF{n d k t:Nat}(b:n≠0)(a:(aD n)[(aD n).length-1]? =some d)(h:k+Lib.bitLen t=Lib.bitLen d)(c:t=0):32*((aD n).length-1)+k=cR n:=by
 subst c;unfold cR;rw[if_neg b,Rr,a,RH,<-h,show Lib.bitLen 0=0 from rfl];omega
def Ga(a b:Nat):decide (fE (a:Int) (b:Int)≥0)=decide (b<=a):=by
 rw[BN];by_cases h:a<b
 ·rw[if_pos h];simp;omega
 rw[if_neg h];split<;>simp<;>omega
def M4(q:Rat)(h:Fit 1048576 q):Ct 249 [dw q] (dw (-q)):=by
 refine Ct.of (n:=11) func249 Z Z Z Z Z λw0 G0=>?_
 refine X 2 Z<|C<|M 2 (t:=bT (!(decide (q.num<0)))) Z (dm Z Z Zy)<|M 4 Z (D Z (jh _ _ _ h.num h.den q.den_pos) Z Z)<|Y 1 Z<|aM ⟨(co Z Z aH Z),nh (by rw[vm,gB]),Z⟩ Z
def KG(p q:Rat)(a:Fit 262144 p)(b:Fit 262144 q):Ct 167 [dw p,dw q] (dw (p+q)):=by
 have f:(aD (p.num.natAbs*q.den)).length<=524288:=ip a.num b.den;have g:(aD (q.num.natAbs*p.den)).length<=524288:=ip b.num a.den;have e:(aD (p.den*q.den)).length<=524288:=ip a.den b.den;have d:0<(p.den*q.den):=TJ p.den_pos q.den_pos;refine Ct.of (n:=71) func167 Z Z Z Z Z λw0 G0=>?_
 refine X 3 Z<|H<|eM (sl':=[(0,.agg (bj p)),(1,.agg (bj q)),(2,.box 0 0),(3,.box 1 0),(4,.box 2 0)]) ⟨Z,⟨Z,⟨Z,⟨Z,⟨Z,trivial⟩⟩⟩⟩⟩<|Vr (fu:=2) [some 14,some 15,some 16,some 17,some 5,some 6,none,none] [4,5,6,7] [.agg (bj p),.agg (bj p),.agg (bj q),.agg (bj q),.any,.any,.any,.any] [([4],[(65,(bj p)),(65,(bj q)),(65,ml),(65,ml)],[],[(4,.box 3 0)]),([5],[(65,(bj p)),(65,(bj q)),(65,ml),(65,ml)],[],[(5,.box 3 0)]),([5,4],[(65,(bj p)),(65,(bj q)),(65,ml),(65,ml),(65,ml)],[],[(4,.box 3 0),(5,.box 4 0)]),([6,5,4],[(65,(bj p)),(65,(bj q)),(65,ml),(65,(bj p)),(65,ml)],[],[(4,.box 3 0),(5,.box 4 0)])] [7,6,5,4] [(65,(bj p)),(65,(bj q)),(65,ml),(65,(bj p)),(65,(bj q))] [] [(4,.box 3 0),(5,.box 4 0)] U0 Z U0 U0 U0 Z Z ?_ ?_
 ·refine .opp [] (.okk Z (aN Z Z Z aH Z Z)<|.okk Z (aN Z Z Z aH Z Z)<|.okk Z (aN Z Z Z aH Z Z)<|.okk Z (aN Z Z Z aH Z Z)<|.fin)<|.opp [0] (.okk Z (D Z (gI p (a.mono I1)) Z Z)<|.okk Z (D Z (gI p (a.mono I1)) Z Z)<|.okk Z (D Z (gI p (a.mono I1)) Z Z)<|.okk Z (D Z (gI p (a.mono I1)) Z Z)<|.fin)<|.opp [] (.okk Z (aN Z Z Z aH Z Z)<|.okk Z (aN Z Z Z aH Z Z)<|.okk Z (aN Z Z Z aH Z Z)<|.okk Z (aN Z Z Z aH Z Z)<|.fin)<|.opp [2] (.okk Z (D Z (gI q (b.mono I1)) Z Z)<|.okk Z (D Z (gI q (b.mono I1)) Z Z)<|.okk Z (D Z (gI q (b.mono I1)) Z Z)<|.okk Z (D Z (gI q (b.mono I1)) Z Z)<|.fin)<|.opp [] (.wr 1 id (.box 3 0) U0 Z Z (iz Z Z Z gZ Z Z Z Z) Z Z Z Z (.ks 4 Z (.i Z (.k Z (.k Z (.k Z .nil)))))<|.no U0<|.wr 3 (NR 3) (.box 3 0) U0 Z Z (vr (p:=[(65,(bj p)),(65,(bj q)),(65,ml)]) Z Z Z gZ Z Z Z Z) Z Z Z Z (.ks 4 Z (.i Z (.k Z (.k Z (.k Z .nil)))))<|.fin)<|.opp [] (.wr 2 id (.box 3 0) U0 Z Z (iz Z Z Z gZ Z Z Z Z) Z Z Z Z (.ks 5 Z (.i Z (.k Z (.k Z .nil))))<|.wr 3 id (.box 4 0) U0 Z Z (iz Z Z Z gZ Z Z Z Z) Z Z Z Z (.ks 5 Z (.i Z (.k Z (.k Z .nil))))<|.fin)<|.opp [1,4] (.nos 3<|.wr 4 id .any U0 Z Z (fx Z Z Z Z Z Z Z Z d8 Z Z Z) Z Z Z Z (.ks 6 Z (.i Z (.k Z .nil)))<|.fin)<|.opp [3,5] (.nos 4<|.wr 5 id .any U0 Z Z (fx Z Z Z Z Z Z Z Z d8 Z Z Z) Z Z Z Z (.ks 7 Z (.i Z .nil))<|.fin)<|.nil
 refine H<|cB (fu:=12) _ [.box 3 1,aY p.num.natAbs,.box 4 2,aY q.den,aY (p.num.natAbs*q.den),.box 4 1,aY q.num.natAbs,.box 3 2,aY p.den,aY (q.num.natAbs*p.den),aY (p.num.natAbs*q.den),aY (q.num.natAbs*p.den)] U0 Z Z U0 Z ?_ ?_
 ·refine Chain.op Z (aq Z Z cL Z)<|Chain.op Z (av Z Z Z bE Z)<|Chain.op Z (aq Z Z b8 Z)<|Chain.op Z (av Z Z Z bE Z)<|Chain.op Z (D Z (pc _ _ (Q7 a.num I1) (Q7 b.den I1)) Z Z)<|Chain.op Z (aq Z Z cL Z)<|Chain.op Z (av Z Z Z bE Z)<|Chain.op Z (aq Z Z b8 Z)<|Chain.op Z (av Z Z Z bE Z)<|Chain.op Z (D Z (pc _ _ (Q7 b.num I1) (Q7 a.den I1)) Z Z)<|Chain.op Z (bN Z Z)<|Chain.op Z (bN Z Z)<|Chain.nil
 refine C<|M 4 Z (D Z (pc _ _ (Q7 a.den I1) (Q7 b.den I1)) Z Z)<|Y 1 Z<|H<|C<|M 4 (t:=bT ((decide (p.num<0))==(decide (q.num<0)))) Z (aC Z Z Z Zy)<|E<|aK Z (λc=>?_) (λc=>?_)
 ·refine H<|dq (ops:=[_,_,_,_,_,_,_]) (fu:=8) (bs':=[(65,(bj p)),(65,(bj q)),(65,(bj (eK (decide (p.num<0)) ((p.num.natAbs*q.den)+(q.num.natAbs*p.den)) (p.den*q.den)))),(65,(bj p)),(65,(bj q))]) [some 38,some 39,some 40,some 41,some 42,some 43,some 44] [.box 3 0,bT (decide (p.num<0)),aY (p.num.natAbs*q.den),aY (q.num.natAbs*p.den),aY ((p.num.natAbs*q.den)+(q.num.natAbs*p.den)),aY (p.den*q.den),.agg (bj (eK (decide (p.num<0)) ((p.num.natAbs*q.den)+(q.num.natAbs*p.den)) (p.den*q.den)))] U0 Z Z Z Z Z U0 U0 Z Z Z Z Z Z Z Z d8 Z Z Z ?_ ?_
  ·refine Chain.op Z (aq Z Z ni Z)<|Chain.op Z (av Z Z Z eG Z)<|Chain.op Z (K Z Z)<|Chain.op Z (K Z Z)<|Chain.op Z (D Z (F6 _ _ (Q7 f I1) (Q7 g I1)) Z Z)<|Chain.op Z (K Z Z)<|Chain.op Z (D Z (jh _ _ _ (Q7 (sG f g) I1) (Q7 e I1) d) Z Z)<|Chain.nil
  exact aM ⟨(co Z Z aH Z),nh (vH (by simpa using c)),Z⟩ Z
 refine ar<|H<|C<|M 2 Z (D Z (FU _ _ (Q7 f I1) (Q7 g I1)) Z Z)<|aI 0 (t:=bT (decide ((q.num.natAbs*p.den)<=(p.num.natAbs*q.den)))) Z Z Zy (B (Ga _ _))<|E<|ay Z (λh=>?_) (λh=>?_)
 ·have j:=h;refine C<|M 2 Z (D Z (ue _ _ (Q7 f I1) j) Z Z)<|Y 5 Z<|C<|M 4 Z (D Z (jh _ _ _ (Q7 (bh (Ui _ _)) (Q7 f I1)) (Q7 e I1) d) Z Z)<|Y 1 Z<|aM ⟨(co Z Z aH Z),nh (Ef (by simpa using c) j),Z⟩ Z
 refine ar<|C<|M 2 Z (D Z (ue _ _ (Q7 g I1) O0) Z Z)<|Y 5 Z<|C<|M 4 Z (D Z (jh _ _ _ (Q7 (bh (Ui _ _)) (Q7 g I1)) (Q7 e I1) d) Z Z)<|Y 1 Z<|aM ⟨(co Z Z aH Z),nh (Eg (by simpa using c) O0),Z⟩ Z
def KH(p q:Rat)(b:Fit 262144 p)(a:Fit 262144 q):Ct 216 [dw p,dw q] (dw (p-q)):=by
 refine Ct.of (n:=9) func216 Z Z Z Z Z λw0 G0=>?_
 refine X 3 Z<|H<|dq (ops:=[_,_,_,_]) (fu:=5) (bs':=[(65,(bj p)),(65,(bj q)),(65,(bj (p+ -q)))]) [some 5,some 6,some 7,some 8] [.agg (bj p),.agg (bj q),.agg (bj (-q)),.agg (bj (p+ -q))] U Z Z Z Z Z U U Z Z Z Z Z Z Z Z d8 Z Z Z ?_ ?_
 ·refine Chain.op Z (aN Z Z Z aH Z Z)<|Chain.op Z (aN Z Z Z aH Z Z)<|Chain.op Z (D Z (M4 q (a.mono I)) Z Z)<|Chain.op Z (D Z (KG _ _ b (Ap a)) Z Z)<|Chain.nil
 exact aM ⟨(co Z Z aH Z),nh (Rat.sub_eq_add_neg _ _).symm,Z⟩ Z
def rx(n:Nat)(b:n<4611686018427387904):Ct 87 [nI n] (dw (n:Rat)):=by
 refine Ct.of (n:=18) func87 Z Z Z Z Z λw0 G0=>?_
 refine X 1 Z<|H<|C<|aI 1 Z Z Zy (B (gF n 0))<|E<|ay Z (λa=>?_) (λa=>?_)
 ·exact absurd a O0
 refine ar<|C<|M 1 (t:=.sc (.int .u64 ((n:Nat):Int))) Z (aj (bp Z cf b6 Z) (ej (by rw[IntKind.wrap_u64];omega)))<|M 0 Z (D Z (Ak n O0) Z Z)<|M 0 Z (D Z (Ak 1 I1) Z Z)<|M 0 Z (D Z (jh _ _ _ (Q7 (kY O0) I1) I1 I1) Z Z)<|Y 1 Z<|aM ⟨(co Z Z aH Z),nh (F9 n),Z⟩ Z
def ry(q:Rat)(h:Fit 1048576 q):Ct 165 [dw q] (iT (dk q)):=by
 refine Ct.of (n:=14) func165 Z Z Z Z Z λw0 G0=>?_
 refine X 2 Z<|C<|M 1 Z (D Z (gI q h) Z Z)<|Y 2 Z<|H<|aB<|C<|M 2 Z (aU Z bV Z)<|aI 0 Z Z Zy (B (gL ((aD q.num.natAbs).length) 0))<|Y 1 Z<|ay Z (λa=>?_) (λa=>?_)
 ·refine X 1 Z<|aM ⟨Z,ej (by unfold dk;rw[show q.num=0 by rw[b9]at a;omega];rfl),Z⟩ Z
 refine X 3 Z<|ay Z (λb=>?_) (λb=>?_)
 ·refine X 1 Z<|aM ⟨Z,ej (by unfold dk;rw[SP b]),Z⟩ Z
 refine ar<|X 1 Z<|aM ⟨Z,ej (by unfold dk;rw[S6 (by rw[b9]at a;omega)]),Z⟩ Z
def Hv(q:Rat)(a:Fit 262144 q):Ct 166 [dw q] (dw (1-q)):=by
 refine Ct.of (n:=6) func166 Z Z Z Z Z λw0 G0=>?_
 refine X 2 Z<|H<|dq (ops:=[_,_,_]) (fu:=4) (bs':=[(65,(bj q)),(65,(bj (((1:Nat):Rat)-q)))]) [some 3,some 4,some 5] [.agg (bj (((1:Nat):Nat):Rat)),.agg (bj q),.agg (bj (((1:Nat):Rat)-q))] U Z Z Z Z Z U U Z Z Z Z Z Z Z Z d8 Z Z Z ?_ ?_
 ·refine Chain.op Z (D Z (rx 1 I) Z Z)<|Chain.op Z (aN Z Z Z aH Z Z)<|Chain.op Z (D Z (KH _ _ oZ a) Z Z)<|Chain.nil
 exact aM ⟨(co Z Z aH Z),Z,Z⟩ Z
def rz(x y:Nat)(r:(aD x).length<=1048576)(o:(aD y).length<=1048576):Ct 103 [aY x,aY y] (bT (decide (x=y))):=by
 refine Ct.of (n:=26) func103 Z Z Z Z Z λw0 G0=>?_
 refine X 1 Z<|H<|C<|M 1 Z (aU Z bV Z)<|M 1 Z (aU Z bV Z)<|aI 0 Z Z Zy (B (od ((aD x).length) ((aD y).length)))<|E<|ay Z (λc=>?_) (λc=>?_)
 ·refine X 1 Z<|aM ⟨Z,B (decide_eq_false λe=>c (by rw[e])).symm,Z⟩ Z
 have p:(aD x).length=(aD y).length:=SL.1 c;refine ar<|H<|X 1 Z<|aB<|aT (λm l=>∃(i:Nat),(i<=(aD x).length/\(aD x).take i=(aD y).take i)/\m=(aD x).length-i/\l=⟨26,[(0,.sl ((aD x).map fS)),(1,.sl ((aD y).map fS)),(5,nI i)],[],[]⟩) 0 0 ⟨0,⟨O0,Z⟩,Z,Z⟩ .rf ?_;rintro m l ⟨i,⟨q,h⟩,rfl,rfl⟩;refine H<|C<|M 2 Z (aU Z bV Z)<|aI 0 Z Z Zy (B (gF i ((aD x).length)))<|E<|ay Z (λj=>?_) (λj=>?_)
 ·obtain⟨d,a⟩:∃d,(aD x)[i]? =some d:=⟨_,Q2 j⟩;obtain⟨e,b⟩:∃e,(aD y)[i]? =some e:=⟨_,Q2 O0⟩;refine ar<|H<|aB<|H<|cB (fu:=9) _ [.sl ((aD x).map fS),nI i,.ref [.sc (.int .u32 ((d:Nat):Int))],.sc (.int .u32 ((d:Nat):Int)),.sl ((aD y).map fS),nI i,.ref [.sc (.int .u32 ((e:Nat):Int))],.sc (.int .u32 ((e:Nat):Int)),bT (decide (d≠e))] U0 Z Z U0 Z ?_ ?_
  ·refine Chain.op Z (K Z Z)<|Chain.op Z (K Z Z)<|Chain.op Z (aO (fS d) Z bV Z Z Z (bd (f:=fS) a) (fz _) Z)<|Chain.op Z (bi Z Z gY Z)<|Chain.op Z (K Z Z)<|Chain.op Z (K Z Z)<|Chain.op Z (aO (fS e) Z bV Z Z Z (bd (f:=fS) b) (fz _) Z)<|Chain.op Z (bi Z Z gY Z)<|Chain.op Z (aj (aC Z Z Z Zy) (B (od d e)))<|Chain.nil
  refine ay Z (λg=>?_) (λg=>?_)
  ·refine X 1 Z<|aM ⟨Z,B (decide_eq_false λe=>g (by rw[e]at a;rw[a]at b;exact Sw b)).symm,Z⟩ Z
  have k:d=e:=SL.1 g;refine ar<|am<|a8 1 (i+1) Z Z Zy O0<|Y 1 Z<|⟨_,_,?_,⟨i+1,?_,Z,Z⟩,.rf⟩
  ·omega
  refine⟨O0,?_⟩;rw[sL a,sL b,h,k]
 refine aX<|X 1 Z<|aM ⟨Z,B (decide_eq_true (by rw[Rf O0,Rf O0]at h;rw[<-aW x,h,aW])).symm,Z⟩ Z
def Hw(p q:Rat)(b:Fit 1048576 p)(c:Fit 1048576 q):Ct 45 [dw p,dw q] (bT (decide (p=q))):=by
 refine Ct.of (n:=24) func45 Z Z Z Z Z λw0 G0=>?_
 refine X 3 Z<|C<|M 4 (t:=bT ((decide (p.num<0))==(decide (q.num<0)))) Z (aC Z Z Z Zy)<|ax 1 Z<|N Z Z Z Z (λa=>aq Z Z cL Z)<|N Z Z Z Z (λa=>av Z (if_pos a) Z bE Z)<|N Z Z Z Z (λa=>aq Z Z cL Z)<|N Z Z Z Z (λa=>av Z (if_pos a) Z bE Z)<|N Z Z Z Z (λa=>D Z (rz _ _ b.num c.num) (dN (if_pos a) (dN (if_pos a) Z)) Z)<|M 0 Z (cH Z Z Z Z)<|ax 1 Z<|N Z Z Z Z (λa=>aq Z Z b8 Z)<|N Z Z Z Z (λa=>av Z (if_pos a) Z bE Z)<|N Z Z Z Z (λa=>aq Z Z b8 Z)<|N Z Z Z Z (λa=>av Z (if_pos a) Z bE Z)<|N Z Z Z Z (λa=>D Z (rz _ _ b.den c.den) (dN (if_pos a) (dN (if_pos a) Z)) Z)<|M 0 Z (cH Z Z Z Z)<|Y 1 Z<|aM ⟨Z,B (KE p q),Z⟩ Z
def M5(a b:Int)(d: -9223372036854775808<=a)(e:a<=9223372036854775807)(f: -9223372036854775808<=b)(g:b<=9223372036854775807)(h:b≠0):Ct 94 [iT a,iT b] (.tup [dw (eK ((decide (a<0)) !=(decide (b<0))) a.natAbs b.natAbs),iT 0]):=by
 refine Ct.of (n:=19) func94 Z Z Z Z Z λw0 G0=>?_
 refine X 2 Z<|H<|C<|M 1 (t:=bT (b==0)) Z (aC Z Z Z Zy)<|E<|aK Z (λc=>?_) (λc=>?_)
 ·exact absurd (by simpa using c) h
 refine ar<|C<|M 1 (t:=bT (decide (a<0))) Z (aC Z Z Z Zy)<|M 1 (t:=bT (decide (b<0))) Z (aC Z Z Z Zy)<|M 0 (t:=bT ((decide (a<0)) !=(decide (b<0)))) Z (aC Z Z Z Zy)<|M 1 Z (D Z (BE a d e) Z Z)<|M 1 Z (D Z (BE b f g) Z Z)<|M 0 Z (D Z (jh _ _ _ (Q7 (kY O0) I1) (Q7 (kY O0) I1) O0) Z Z)<|Y 2 Z<|aQ<|⟨.inr Z,_,.cons (co Z Z aH Z) (.cons Z .nil),Z,Z⟩
def KI(n:Nat)(r:(aD n).length<=1048576):Ct 159 [aY n] (iT (cR n)):=by
 refine Ct.of (n:=28) func159 Z Z Z Z Z λw0 G0=>?_
 refine X 1 Z<|C<|M 1 Z (D Z (BD n O0) Z Z)<|Y 1 Z<|H<|C<|M 1 Z (aU Z bV Z)<|aI 0 Z Z Zy (B (gL ((aD n).length) 0))<|E<|ay Z (λb=>?_) (λb=>?_)
 ·refine X 1 Z<|aM ⟨Z,ej (by rw[show cR n=0 from kS.2 (b9.1 b)];rfl),Z⟩ Z
 obtain⟨d,c⟩:∃d,(aD n)[(aD n).length-1]? =some d:=⟨_,Q2 O0⟩;have a:d<4294967296:=ck n d (Q8 c);have i:n≠0:=λe=>b (b9.2 e)
 refine ar<|C<|M 1 Z (aU Z bV Z)<|a8 0 (((aD n).length)-1) Z Z Zy O0<|a8 0 (32*(((aD n).length)-1)) Z Z Zy O0<|Y 1 Z<|H<|C<|M 2 Z (aU Z bV Z)<|a8 0 (((aD n).length)-1) Z Z Zy O0<|M 0 (t:=.ref [.sc (.int .u32 ((d:Nat):Int))]) Z (aO (fS d) Z bV Z Z Z (bd (f:=fS) c) (fz _) Z)<|Y 2 Z<|aB<|aT (λm j=>∃(k:Nat) (t:Nat),(t<4294967296/\k<=64/\k+Lib.bitLen t=Lib.bitLen d)/\m=t+1/\j=⟨28,[(4,nI (32*((aD n).length-1)+k)),(5,.sc (.int .u32 ((t:Nat):Int)))],[],[]⟩) 0 0 ⟨0,d,⟨a,O0,R4 _⟩,Z,Z⟩ .rf ?_;rintro m j ⟨k,t,⟨o,q,g⟩,rfl,rfl⟩;refine H<|C<|aI 1 Z Z Zy (B (nZ t 0))<|E<|ay Z (λh=>?_) (λh=>?_)
 ·refine ar<|H<|aB<|am<|a8 1 ((32*((aD n).length-1)+k)+1) Z Z Zy O0<|Y 1 Z<|am<|M 1 (t:=.sc (.int .u32 ((t/2:Nat):Int))) Z (aC Z Z Z (λw=>wd t o w))<|Y 1 Z<|⟨_,_,?_,⟨k+1,t/2,?_,Z,Z⟩,.rf⟩
  ·omega
  have p:=Lib.bitLen_half t O0 O0;have l:Lib.bitLen d<=64:=B9 a;exact⟨O0,O0,O0⟩
 refine aX<|X 2 Z<|aM ⟨Z,ej (by rw[KF i c g O0]),Z⟩ Z
