import Derived.Test.YtfoejfohbkmmeaaGreatDoorK37
set_option maxRecDepth 100000
set_option maxHeartbeats 8000000
set_option linter.defProp false
open Go.Proofs.Tryz
namespace Go.Proofs.YtfoejfohbkmmeaaGreatDoor
open Go.RowKit
open Lib renaming hid→J
def Lz(n:Nat):List UInt8:=if n=0 then []else Lz (n/256)++[UInt8.ofNat (n%256)]
termination_by n
decreasing_by omega
def w9{n:Nat}(h:n≠0):Lz n=Lz (n/256)++[UInt8.ofNat (n%256)]:=by rw[Lz,if_neg h]
def mL:Lz 0=[]:=by rw[Lz,if_pos Z]
def LA(n:Nat):cI (Lz n)=n:=by
 induction n using Nat.strongRecOn with
 |ind n ih=>
  by_cases h:n=0
  ·subst h;rw[mL];rfl
  rw[w9 h,jH,ih _ O,mG O];omega
def LB(n:Nat)(h:n≠0):∃c l,Lz n=c::l/\c.toNat≠0:=by
 induction n using Nat.strongRecOn with
 |ind n ih=>
  rw[w9 h];by_cases a:n/256=0
  ·rw[a,mL];exact⟨_,[],Z,by rw[mG O];omega⟩
  obtain⟨c,l,e,b⟩:=ih _ O a;rw[e];exact⟨c,l++[_],Z,b⟩
def QU(c:UInt8):UInt8.ofNat c.toNat=c:=Ta.1 (mG c.toNat_lt)
def LC(l:List UInt8)(h:l=[]\/∃c r,l=c::r/\c.toNat≠0):l=Lz (cI l):=by
 obtain⟨m,b⟩:∃m,l.length=m:=⟨_,Z⟩;induction m generalizing l with
 |zero=>
  have:l=[]:=Rj b;subst this;exact mL.symm
 |succ m ih=>
  rcases List.eq_nil_or_concat l with rfl|⟨r,d,rfl⟩
  ·simp at b
  rw[List.concat_eq_append]at h b⊢;have n:r=[]\/∃c t,r=c::t/\c.toNat≠0:=by
   cases r with
   |nil=>exact .inl Z
   |cons c t=>
    rcases h with h|⟨j,o,e,a⟩
    ·simp at h
    rw[Sq]at e;injection e with k p
    exact .inr ⟨c,t,Z,k▸a⟩
  have q:=d.toNat_lt;have e:=ih r n (by simpa using b);rw[jH];have i:cI r*256+d.toNat≠0:=by
   intro i;have g:d.toNat=0:=O
   have f:cI r=0:=O
   rw[f,mL]at e;subst e;rcases h with h|⟨j,o,e,a⟩
   ·simp at h
   simp only[Sc,T4]at e;rw[<-e.1]at a;exact a g
  rw[w9 i,show(cI r*256+d.toNat)/256=cI r by omega,show(cI r*256+d.toNat)%256=d.toNat by omega,<-e,QU]
def LD(q:Nat):(4294967296:Nat)^q=256^(4*q):=by rw[Tu]
def AQ:∀(q n:Nat),(aD n).getD q 0=n/4294967296^q%4294967296
 |0,n=>by
  by_cases h:n=0
  ·subst h;rfl
  rw[fp h];simp
 |q+1,n=>by
  by_cases h:n=0
  ·subst h;simp[gf]
  rw[fp h,Vv,AQ q,SH,RA,Rk 4294967296]
def Ns(n i:Nat):(aD n).getD (i/4) 0/2^(i%4*8)%256=n/256^i%256:=by
 rw[AQ,LD];have e:256^i=256^(4*(i/4))*256^(i%4):=by rw[<-SF];congr 1;omega
 rw[e,<-SH];generalize n/256^(4*(i/4))=m;have h:i%4=0\/i%4=1\/i%4=2\/i%4=3:=O
 rcases h with h|h|h|h<;>rw[h]
 ·show m%4294967296/1%256=m/1%256;omega
 ·show m%4294967296/256%256=m/256%256;omega
 ·show m%4294967296/65536%256=m/65536%256;omega
 show m%4294967296/16777216%256=m/16777216%256;omega
def Nt(n sz:Nat):List UInt8:=(List.range sz).map λj=>UInt8.ofNat (n/256^(sz-1-j)%256)
def LE(n sz:Nat):Nt n (sz+1)=Nt (n/256) sz++[UInt8.ofNat (n%256)]:=by
 unfold Nt;rw[List.range_succ,Sn];congr 1
 ·refine SV λj a=>?_
  have a:=Tr.1 a;rw[SH,show 256*256^(sz-1-j)=256^(sz+1-1-j) by rw[Rk,<-RA];congr 1;omega]
 simp
def CW:∀(sz n:Nat),cI (Nt n sz)=n%256^sz
 |0,n=>by simp[Nt,cI,Vd]
 |sz+1,n=>by
  rw[LE,jH,CW sz,mG O,RA,Rk (256^sz) 256,Nat.mod_mul,Rk 256 (n/256%256^sz)];omega
def yX(n sz:Nat):∀(k:Nat) (l:List UInt8),k<=l.length->∀j,(rR n sz k l)[j]? =if j<k then some (UInt8.ofNat ((aD n).getD ((sz-1-j)/4) 0/2^((sz-1-j)%4*8)%256))else l[j]?
 |0,l,_,j=>by rw[rR,if_neg O]
 |k+1,l,h,j=>by
  rw[rR,yX n sz k _ (by rw[RO];omega) j];by_cases a:j<k
  ·rw[if_pos a,if_pos O]
  rw[if_neg a];by_cases b:j=k
  ·subst b;rw[if_pos O,So O]
  rw[if_neg O,Se (λe=>b e.symm)]
def LF(n:Nat):nO n=Nt n ((cR n+7)/8):=by
 unfold nO Nt;generalize (cR n+7)/8=sz;refine TN λj=>?_
 rw[yX n sz sz _ F j,RK];by_cases h:j<sz
 ·rw[if_pos h,List.getElem?_range h,Sr,Ns]
 rw[if_neg h,R8 (by simpa using h),R8 (by simpa using h)];rfl
def xa{n:Nat}(h:n≠0):2^(cR n-1)<=n/\n<2^cR n/\1<=cR n:=by
 have s:0<(aD n).length:=by
  rcases RV (aD n).length with d|d
  ·exact absurd (b9.1 d) h
  exact d
 obtain⟨L,c⟩:∃L,(aD n).length=L+1:=⟨(aD n).length-1,O⟩;have g:=cC (aD n) (ck n);rw[aW,c]at g;have j:=oX h;have e:cR n=32*L+Lib.bitLen ((aD n).getD L 0):=by unfold cR;rw[if_neg h,c];simp
 rw[c,Tn]at j;have f:=AQ L n;have o:n/4294967296^L<4294967296:=by
  rw[Sg (Sh I),Rk,<-RA];exact g
 rw[RC o]at f;rw[f]at j e;have i:(n/4294967296^L)<2^64:=Nat.lt_trans o I;obtain⟨p,k,l⟩:=Lib.bitLenAux_bounds 64 _ i j;have q:Lib.bitLen (n/4294967296^L)=Lib.bitLenAux 64 (n/4294967296^L):=rfl;rw[q]at e;generalize Lib.bitLenAux 64 (n/4294967296^L)=b at p k l e;have r:(4294967296:Nat)^L=2^(32*L):=by rw[Tu]
 have a:0<4294967296^L:=Sh I;have m:=(UE a).1 k;have d:=(Sg a).1 l;rw[r,<-SF]at m d;rw[e];refine⟨?_,?_,O⟩
 ·rw[show 32*L+b-1=b-1+32*L by omega];exact m
 rw[SN];exact d
def AR(n:Nat):nO n=Lz n:=by
 by_cases h:n=0
 ·subst h;rw[mL];rfl
 obtain⟨d,f,j⟩:=xa h;rw[LF];obtain⟨z,i⟩:∃z,(cR n+7)/8=z+1:=⟨(cR n+7)/8-1,O⟩;rw[i];have a:∀k,(256:Nat)^k=2^(8*k):=λk=>by rw[Tu]
 have b:n<256^(z+1):=by rw[a];exact Rh f (Rx I O)
 have c:256^z<=n:=by rw[a];exact Q7 (Rx I O) d
 have e:=LC (Nt n (z+1)) (.inr ?_)
 ·rw[CW,RC b]at e;exact e
 unfold Nt;rw[List.range_succ_eq_map,Sb];refine⟨_,_,Z,?_⟩;rw[mG O,show z+1-1-0=z by omega];have g:n/256^z<256:=by rw[Sg (Sh I),Rk,<-RA];exact b
 have l:0<n/256^z:=Nat.div_pos c (Sh I);rw[RC g];omega
def oJ:∀(a b:List UInt8),cI (a++b)=cI a*256^b.length+cI b
 |[],b=>by simp[cI]
 |c::a,b=>by
  rw[Sq,cI,cI,oJ a b,Q4,SF,R2,Ry,S4]
def LG{d:Nat}(h:d<4294967296):cI (jv d)=d:=by
 simp only[jv,cI,Q5,Ra];rw[mG (RJ _ I),mG (RJ _ I),mG (RJ _ I),mG (RJ _ I)];simp only[R4,Nat.reduceAdd,Nat.reducePow];omega
def yY:∀l:List Nat,Digs l->cI (l.reverse.flatMap jv)=aG l
 |[],_=>rfl
 |d::l,h=>by
  have a:d<4294967296:=h d (Rw ..);rw[Ut,Ul,oJ,yY l (λx b=>h x (RD _ b))];have e:[d].flatMap jv=jv d:=F
  rw[e,LG a,Gn,aG,show(256:Nat)^4=4294967296 from rfl];omega
def xb:∀l:List UInt8,cI (l.dropWhile λc=>decide (c.toNat=0))=cI l
 |[]=>rfl
 |c::l=>by
  rw[List.dropWhile_cons];split
  ·next h=>
   have h:=of_decide_eq_true h;rw[xb l,cI,h];omega
  rfl
def xc:∀l:List UInt8,(l.dropWhile λc=>decide (c.toNat=0))=[]\/∃c r,(l.dropWhile λc=>decide (c.toNat=0))=c::r/\c.toNat≠0
 |[]=>.inl Z
 |c::l=>by
  rw[List.dropWhile_cons];split
  ·exact xc l
  next h=>exact .inr ⟨c,l,Z,λe=>h (decide_eq_true e)⟩
def CY(n:Nat):ig n=Lz n:=by
 have e:=LC (ig n) (xc _);rw[show cI (ig n)=n from(xb _).trans ((yY _ (ck n)).trans (aW n))]at e;exact e
def LH(q:Rat):oI q=mF q:=by
 unfold oI mF li;rw[AR,AR,CY,CY]
def CZ(n:Nat)(t:List UInt8)(h:(nO n).length<=8192):dU ⟨li n++t,0⟩=(n,⟨t,0⟩):=by
 unfold dU li;rw[jK t O h,if_neg F];dsimp only;rw[AR];by_cases a:n=0
 ·subst a;rw[mL]
 obtain⟨c,l,e,b⟩:=LB n a;rw[e];dsimp only;rw[if_neg b,<-e,LA]
def C0(q:Rat):fh (decide (q.num<0)) q.num.natAbs q.den=true:=by
 unfold fh;rw[Q9];refine⟨decide_eq_true q.den_nz,?_⟩;have a:=q.reduced;split
 ·next h=>
  rw[h,Nat.coprime_iff_gcd_eq_one,Uu]at a;rw[a,Q9];refine⟨?_,decide_eq_true Z⟩;have:¬q.num<0:=O
  simp[this]
 exact decide_eq_true a
def yZ(q:Rat)(t:List UInt8)(b:(nO q.num.natAbs).length<=8192)(c:(nO q.den).length<=8192):d7 ⟨mF q++t,0⟩=(some q,⟨t,0⟩):=by
 have a:eL 1 ⟨mF q++t,0⟩=([if q.num<0 then 1 else 0],⟨li q.num.natAbs++(li q.den++t),0⟩):=by
  have:=CU [if q.num<0 then 1 else 0] (li q.num.natAbs++(li q.den++t));rw[show mF q++t=[if q.num<0 then(1:UInt8)else 0]++(li q.num.natAbs++(li q.den++t)) by unfold mF;simp];exact this
 unfold d7;rw[a];dsimp only;rw[CZ _ _ b];dsimp only;rw[CZ _ _ c];dsimp only;have d:decide (((([if q.num<0 then(1:UInt8)else 0]).headD 0).toNat)=1)=decide (q.num<0):=by
  split
  ·next h=>simp[h]
  next h=>simp[h]
 rw[if_neg F,if_neg (by split<;>simp),if_neg F,d,if_pos (C0 q),gB]
def tK(k:IntKind)(j:Nat)(h:j<=k.bits)(i:∀n:Int,0<=n->n<2^j->k.wrap n=n)(a b:Nat)(e:a<2^j)(f:b<2^j):bits .or k a b=((a|||b:Nat):Int):=by
 have g:2^j<=2^k.bits:=Rx I h;have c:a%2^k.bits=a:=RC (Rh e g);have d:b%2^k.bits=b:=RC (Rh f g);simp only[bits,BitVec.ofInt_natCast,BitVec.toNat_or,BitVec.toNat_ofNat,c,d];exact i _ (Int.natCast_nonneg _) (by exact_mod_cast VG e f)
def iu(K v:Nat):List Nat:=(List.range K).map λq=>v/4294967296^q%4294967296
def iE(K v:Nat):(iu K v).length=K:=by simp[iu]
def r9{K q:Nat}(v:Nat)(h:q<K):(iu K v)[q]? =some (v/4294967296^q%4294967296):=by
 unfold iu;rw[RK,List.getElem?_range h];rfl
def Iy(K:Nat):iu K 0=List.replicate K 0:=by
 unfold iu;refine TN λj=>?_
 rw[RK,List.getElem?_replicate];by_cases h:j<K
 ·rw[List.getElem?_range h,if_pos h];simp
 rw[if_neg h,R8 (by simpa using h)];rfl
def Iz(B K v:Nat):((List.range (K+1)).map λq=>v/B^q%B)=(v%B)::((List.range K).map λq=>v/B/B^q%B):=by
 rw[List.range_succ_eq_map,Sb,List.map_map];congr 1
 ·rw[TM,TV]
 refine SV λq _=>?_
 show v/B^(q+1)%B=v/B/B^q%B
 rw[SH,RA,Rk B]
def IA(K v:Nat):iu (K+1) v=(v%4294967296)::iu K (v/4294967296):=Iz 4294967296 K v
def zb(K v:Nat):aG (iu K v)=v%4294967296^K:=by
 induction K generalizing v with
 |zero=>rw[TM,Vd];rfl
 |succ K ih=>rw[IA,aG,ih,RA,Rk (4294967296^K) 4294967296,Nat.mod_mul]
def IB{K v:Nat}(l:0<K)(g:4294967296^(K-1)<=v)(f:v<4294967296^K):iu K v=aD v:=by
 have a:∀b:iu K v≠ [],(iu K v).getLast b≠0:=λb=>by
  have h:(iu K v)[K-1]? =some (v/4294967296^(K-1)%4294967296):=r9 v O;rw[U7];obtain⟨k,i⟩:=Q6.1 h;have e:(iu K v)[(iu K v).length-1]'(by rw[iE];omega)=(iu K v)[K-1]:=by congr 1;rw[iE]
  rw[e,i];have c:v/4294967296^(K-1)<4294967296:=by
   rw[Sg (Sh I),show 4294967296*4294967296^(K-1)=4294967296^K by rw[Rk,<-RA,show(K-1).succ=K by omega]];exact f
  rw[RC c];have:=Nat.div_pos g (Sh I);omega
 have e:=zT (iu K v) (λd j=>by
  obtain⟨q,_,rfl⟩:=Sv.1 j;exact RJ _ I) a
 rw[zb,RC f]at e;exact e
def LI{K v c i:Nat}(t:v<256^i)(w:c<256)(n:i/4<K):v/4294967296^(i/4)%4294967296<256^(i%4)/\(v/4294967296^(i/4)%4294967296|||c*256^(i%4))=v/4294967296^(i/4)%4294967296+c*256^(i%4)/\v/4294967296^(i/4)%4294967296+c*256^(i%4)<4294967296/\c*256^(i%4)<4294967296/\(iu K v).set (i/4) (v/4294967296^(i/4)%4294967296+c*256^(i%4))=iu K (v+c*256^i):=by
 have f:(256:Nat)^i=4294967296^(i/4)*256^(i%4):=by rw[LD,<-SF];congr 1;omega
 have l:v/4294967296^(i/4)<256^(i%4):=by
  rw[Sg (Sh I),Rk,<-f];exact t
 have m:256^(i%4)<=16777216:=by
  have h:i%4=0\/i%4=1\/i%4=2\/i%4=3:=O
  rcases h with h|h|h|h<;>rw[h]<;>decide
 have p:v/4294967296^(i/4)%4294967296=v/4294967296^(i/4):=RC O;have y:c*256^(i%4)<=255*256^(i%4):=RB _ O;have d:v/4294967296^(i/4)+c*256^(i%4)<4294967296:=O
 rw[p];refine⟨l,?_,d,O,?_⟩
 ·have q:(256:Nat)^(i%4)=2^(8*(i%4)):=by rw[Tu]
  rw[q]at l⊢;rw[Vb,Rk c,<-Nat.two_pow_add_eq_or_of_lt l,SN]
 have a:(v+c*256^i)/4294967296^(i/4)=v/4294967296^(i/4)+c*256^(i%4):=by
  rw[f,SQ,TT _ _ (Sh I)]
 refine TN λj=>?_
 by_cases o:j=i/4
 ·subst o;rw[So (by rw[iE];exact n),r9 _ n,a,RC d]
 rw[Se (λe=>o e.symm)];by_cases b:j<K
 ·rw[r9 _ b,r9 _ b];congr 1;rcases RE j (i/4)with s|r
  ·obtain⟨k,g⟩:∃k,i/4=j+1+k:=⟨i/4-j-1,O⟩;rw[f,g,SF,RA];rw[show c*(4294967296^j*4294967296*4294967296^k*256^(i%4))=4294967296^j*(4294967296*(4294967296^k*256^(i%4)*c)) by ac_rfl,TT _ _ (Sh I),TU]
  obtain⟨k,g⟩:∃k,j=i/4+1+k:=⟨j-i/4-1,O⟩;have z:∀x,x<4294967296->x/(4294967296^(1+k))=0:=λx u=>S5 (Rh u (by rw[SF,Nat.pow_one];exact U6 _ (Sh I)))
  rw[g,show i/4+1+k=i/4+(1+k) by omega,SF,<-SH,<-SH,a,z _ O,z _ O]
 rw[R8 (by rw[iE];omega),R8 (by rw[iE];omega)]
def IC{l:List UInt8}{i:Nat}{c:UInt8}(h:l[l.length-1-i]? =some c)(g:i<l.length):cI l%256^(i+1)=cI l%256^i+c.toNat*256^i:=by
 obtain⟨d,f⟩:=Q6.1 h;have key:∀k,k<=l.length->cI l%256^k=cI (l.drop (l.length-k)):=λk j=>by
  have e:=oJ (l.take (l.length-k)) (l.drop (l.length-k));rw[R3]at e;have a:(l.drop (l.length-k)).length=k:=by rw[Rm];omega
  have b:=iq (l.drop (l.length-k));rw[a]at e b;rw[e,Rk,UJ,RC b]
 rw[key _ O,key _ O,show l.length-(i+1)=l.length-1-i by omega,Re d,f,cI,show l.length-1-i+1=l.length-i by omega,Rm,show l.length-(l.length-i)=i by omega];omega
def LJ{l:List UInt8}{c:UInt8}{t:List UInt8}(h:l=c::t)(e:c.toNat≠0):iu ((l.length+3)/4) (cI l%256^l.length)=aD (cI l):=by
 have a:=iq l;rw[RC a];have d:0<l.length:=by rw[h];simp
 have b:256^(l.length-1)<=cI l:=by
  rw[h,cI];simp only[Q5,Tn];have:1*256^t.length<=c.toNat*256^t.length:=RB _ O;omega
 refine IB O ?_ ?_
 ·rw[LD];exact Q7 (Rx I O) b
 rw[LD];exact Rh a (Rx I O)
def LK(l:List UInt8):(aD (cI l)).length<=(l.length+3)/4:=by
 refine bq ?_;rw[LD];exact Rh (iq l) (Rx I O)
def mM(s:Rdr):(aD (dU s).1).length<=2048:=by
 have a:(aD 0).length<=2048:=by rw[gf];simp
 have b:=ie 8192 s;unfold dU;split
 ·exact a
 split
 ·exact a
 next c l e=>
 rw[e]at b;split
 ·exact a
 exact Q7 (LK _) O
def kq{p:Option Rat×Rdr}{o:Option Rat}{a:Rdr}(h:p=(o,a)):wQ o=wQ p.1:=by rw[h]
def qg{ng:Bool}{n d:Nat}(h:fh ng n d=true):iC ng n d=dw (eK ng n d):=by
 unfold fh at h;rw[Q9]at h;have f:0<d:=RR (of_decide_eq_true h.1);have b:=th ng n d f;by_cases c:n=0
 ·subst c;rw[if_pos Z,Q9]at h;have a:ng=false:=by simpa using h.2.1
  have e:d=1:=of_decide_eq_true h.2.2;subst a e;exact b
 rw[if_neg c]at h;have a:Nat.gcd n d=1:=of_decide_eq_true h.2;rw[a,TV,TV,decide_eq_true c,Bool.and_true]at b;exact b
def C1{s:Rdr}(h:(eL 1 s).2.err=0):∃c,(eL 1 s).1=[c]:=by
 unfold eL at h⊢;split
 ·next h1=>rw[if_pos h1]at h;exact absurd h h1
 split
 ·next h1 h2=>rw[if_neg h1,if_pos h2]at h;cases h
 next h1 h2=>
 cases a:s.rest with
 |nil=>rw[a]at h2;simp at h2
 |cons c l=>exact⟨c,F⟩
def ze{n:Nat}(h:decide ((aD n).length=0)=false):(aD n)[(aD n).length-1]? =some ((aD n).getD ((aD n).length-1) 0):=by
 have:=of_decide_eq_false h;rw[Rr,Q2 O,RH]
def E4(ng:Bool)(n d:Nat)(w:(aD n).length<=262144)(v:(aD d).length<=262144):Ct 184 [iC ng n d] (bT (fh ng n d)):=by
 obtain⟨l,g⟩:∃t,(aD d).getD ((aD d).length-1) 0=t:=⟨_,Z⟩;obtain⟨m,i⟩:∃t,(aD n).getD ((aD n).length-1) 0=t:=⟨_,Z⟩;have p:decide ((aD d).length=0)=false->(aD d)[(aD d).length-1]? =some l:=λh=>by rw[ze h,g]
 have r:d≠0->l≠0:=λh=>by rw[<-g];exact oX h
 refine Ct.of (n:=47) func184 Z Z Z Z Z λw0 G0=>?_
 refine X 2 Z<|H<|C<|M 2 Z (aU Z bV Z)<|aI 0 Z Z Zy (B (gL ((aD d).length) 0))<|ax 1 Z<|N Z Z Z Z (λa=>aq Z Z b8 Z)<|N Z Z Z Z (λa=>av Z (if_pos a) Z bE Z)<|N Z Z Z Z (λa=>aq Z Z b8 Z)<|N Z Z Z Z (λa=>av Z (if_pos a) Z bE Z)<|N Z Z Z Z (λa=>aU Z bV (if_pos a))<|N (t:=nI ((aD d).length-1)) Z Z Z Z (λa=>aj (aC Z (if_pos a) Z (λ_=>rfl)) (pC (by have:=of_decide_eq_false a;omega) O0))<|N (t:=.ref [.sc (.int .u32 ((l:Nat):Int))]) Z Z Z Z (λa=>aO (fS l) Z bV (if_pos a) (if_pos a) Z (bd (f:=fS) (p a)) (fz _) Z)<|N Z Z Z Z (λa=>bi Z (if_pos a) gY Z)<|N Z Z Z Z (λa=>aj (aC Z (if_pos a) Z (λ_=>rfl)) (B (gL l 0)))<|M 0 Z (dD Z Z Z Z)<|E<|aK Z (λb=>?_) (λb=>?_)
 ·have o:d=0:=by
   by_cases h:d=0
   ·exact h
   have s:=r h;have u:¬(aD d).length=0:=λe=>h (b9.1 e)
   rw[decide_eq_false u,decide_eq_false s]at b;cases b
  refine X 1 Z<|aM ⟨Z,B (by unfold fh;rw[o];rfl),Z⟩ Z
 have j:d≠0:=λe=>by
  subst e;rw[decide_eq_true (show(aD 0).length=0 from rfl)]at b;cases b
 refine ar<|H<|C<|M 2 Z (aU Z bV Z)<|aI 0 Z Z Zy (B (gL ((aD n).length) 0))<|E<|ay Z (λc=>?_) (λc=>?_)
 ·refine C<|M 2 (t:=bT (!ng)) Z (dm Z Z Zy)<|ax 1 Z<|N Z Z Z Z (λa=>aq Z Z b8 Z)<|N Z Z Z Z (λa=>av Z (if_pos a) Z bE Z)<|N Z Z Z Z (λa=>D Z (qS d) (dN (if_pos a) Z) Z)<|M 0 Z (cH Z Z Z Z)<|Y 1 Z<|aM ⟨Z,B (by unfold fh;rw[decide_eq_true j,if_pos (b9.1 c),Tx]),Z⟩ Z
 refine ar<|H ?_;have k:m≠0:=by rw[<-i];exact oX λe=>c (b9.2 e)
 have q:(aD n)[(aD n).length-1]? =some m:=by rw[ze (decide_eq_false c),i]
 refine am<|M 4 Z (aU Z bV Z)<|a8 0 (((aD n).length)-1) Z Z Zy O0<|M 0 (t:=.ref [.sc (.int .u32 ((m:Nat):Int))]) Z (aO (fS m) Z bV Z Z Z (bd (f:=fS) q) (fz _) Z)<|aI 1 Z Z Zy (B (od m 0))<|ax 1 Z<|N Z Z Z Z (λa=>aq Z Z cL Z)<|N Z Z Z Z (λa=>av Z (if_pos a) Z bE Z)<|N Z Z Z Z (λa=>aq Z Z b8 Z)<|N Z Z Z Z (λa=>av Z (if_pos a) Z bE Z)<|N Z Z Z Z (λa=>D Z (J2 n d O0 O0) (dN (if_pos a) (dN (if_pos a) Z)) Z)<|N Z Z Z Z (λa=>D Z (qS _) (dN (if_pos a) Z) Z)<|M 0 Z (cH Z Z Z Z)<|Y 1 Z<|aM ⟨Z,B (by unfold fh;rw[decide_eq_true j,if_neg (λe=>c (b9.2 e)),decide_eq_true k,Tx]),Z⟩ Z
def EnvB.grown{g:Nat}{w w':World}(h:EnvB g w)(d:w.grownBy w' (some g)):EnvB g w':=by
 obtain⟨f,b,a,c⟩:=h;exact⟨f,b,a.grown d a.size (λk e=>by injection e with e;omega),c⟩
def OkG.grown{G:Nat->Prop}{w w':World}{g:Nat}{ty:TypeId}{us:List Value}(i:OkG G w)(d:w.grownBy w' (some g))(a:IsBlk w' g ty us.toArray)(b:us.all bR=true):OkG G w':=λx j=>by
 obtain⟨c,f⟩:=i x j;refine⟨Rh c d.size,?_⟩;by_cases e:x=g
 ·subst e;exact cU a b
 exact f.of (d.block x c λh=>e (by injection h))
def jp{w w' c:World}{g:Nat}(h:w.grownBy w' (some g))(a:w'.grownBy c (some g)):w.grownBy c (some g):=
 ⟨a.os.trans h.os,a.tape.trans h.tape,a.output.trans h.output,Q7 h.size a.size,λk d b=>(a.block k (Rh d h.size) b).trans (h.block k d b)⟩
def sX{w w':World}{g:Nat}(h:Below w.heap.size w w'):w.grownBy w' (some g):=⟨h.os,h.tape,h.output,h.size,λk a _=>h.block k a⟩
def qh{w':World}{G:Nat->Prop}{g:Nat}{ty:TypeId}{us:List Value}{s:Rdr}(a:IsBlk w' g ty us.toArray)(h:PT w' G us s.cells):w'.cell? ⟨g,1,none⟩=some (.int .i64 ((s.err:Nat):Int)):=by
 obtain⟨v,x,rfl,c,b⟩:=dE h;cases b;rw[a.cell];rfl
def QV(w:World)(l:List UInt8)(i:Value)(w':World):Prop:=∃k,k<=l.length/\i=.int .i64 k/\OwnN w' w.heap.size (.slice (some ⟨w.heap.size,0,none⟩) ((l.length+3)/4) ((l.length+3)/4)) (iu ((l.length+3)/4) (cI l%256^k))/\Below w.heap.size w w'
def xd{w a:World}{G:Nat->Prop}{g:Nat}{us:List Value}{s c:Rdr}{n:Nat}{v:Value}(h:dU s=(n,c))(f:w.grownBy a (some g))(d:IsBlk a g 184 us.toArray)(i:PT a G us c.cells)(e:us.all bR=true)(j:PT a G [v] [aY n]):∃v' b,Ending.returned v=.returned v'/\w.grownBy a (some g)/\IsBlk a g 184 b.toArray/\PT a G b (dU s).2.cells/\b.all bR=true/\PT a G [v'] [aY (dU s).1]:=by
 rw[h];exact⟨v,us,Z,f,d,i,e,j⟩
def N5(s:Rdr)(hl:s.rest.length<=1073741824):CtM 183 184 s.cells [] (dU s).2.cells (aY (dU s).1):=⟨⟨_,func183,Z,Z⟩,λG w g us vs hE hG hg S g3 f9 hp=>by
 cases hp;obtain⟨q,hq⟩:∃q,bM 8192 s=q:=⟨_,Z⟩;have g4:=ie 8192 s;rw[hq]at g4;have hB:=(rZ s 8192 hl I).2;rw[hq]at hB;have hB:=J hB
 go_enter func183,ntmps183
 go_wp2_with fail
 refine(hB.out G w g us [.int .i64 (8192:Nat)] hE hG hg S g3 f9 (.sc _ .nil)).mono ?_;rintro e l ⟨v1,h8,rfl,g1,b1,p1,n1,r1⟩;have c1:=qh b1 p1;obtain⟨A1,cp,rfl,R,B,f8,u9⟩:=I8 r1;have HP:=J (show∀n,dU s=(n,q.2)->∀v,PT l G [v] [aY n]->∃v' d0,Ending.returned v=.returned v'/\w.grownBy l (some g)/\IsBlk l g 184 d0.toArray/\PT l G d0 (dU s).2.cells/\d0.all bR=true/\PT l G [v'] [aY (dU s).1]from λn hn v hv=>xd hn g1 b1 p1 n1 hv);have A:=J g1;have d3:=J p1;have z:=J b1;have C:=J n1;have i5:=J r1;have i0:=J R;have HE:=J hE;have d2:=J hG;clear g1 p1 b1 n1 hB r1 R hE hG g3 S f9;by_cases he:q.2.err=0;rotate_left
 ·have hz:decide ((q.2.err:Int)=0)=false:=by simp;omega
  have v0:((q.2.err:Int)==0)=false:=by simp;omega
  have hU:dU s=(0,q.2):=by unfold dU;rw[hq,if_pos he]
  go_wp2
  go_ret
  exact HP.out 0 hU _ (bS _ _)
 have c1:l.cell? ⟨g,1,none⟩=some (.int .i64 0):=by rw[c1,he];rfl
 obtain⟨L,D⟩:∃L,q.1.length=L:=⟨_,Z⟩;rw[D]at f8 g4 B i5;have Q:=J D;by_cases c0:L=0
 ·have hU:dU s=(0,q.2):=by
   unfold dU;rw[hq,if_neg O,Rj (D.trans c0)]
  subst c0;rw[D];clear B f8 D
  go_wp2
  go_ret
  exact HP.out 0 hU _ (bS _ _)
 obtain⟨c,t,H⟩:∃c t,q.1=c::t:=by
  cases h:q.1 with
  |nil=>rw[h]at D;exact absurd D.symm c0
  |cons c t=>exact⟨c,t,Z⟩
 obtain⟨b,off,rfl,hb,c2⟩:=i0.out (by simp[bZ];omega);have i3:=J c2;have d1:=J hb;have cc:l.cell? ⟨b,off,none⟩=some (.int .u8 (c.toNat:Nat)):=by
  have:=c2 0 (.int .u8 (c.toNat:Nat)) (by rw[H];rfl);exact this
 rw[D];clear B c2 hb D;have v3:((L:Int)==0)=false:=by simp;omega
 have v4:(0:Int)<(L:Int):=O
 by_cases F:c.toNat=0
 ·have hU:dU s=(0,⟨[],2⟩):=by unfold dU;rw[hq,if_neg O,H];exact if_pos F
  rw[F]at cc
  go_wp2_with fail
  refine((sU q.2.rest q.2.err 2).2 G l g h8 [.int .i64 (2:Nat)] (HE.out.grown A.out) (OkG.grown d2.out A.out z.out C.out) hg z.out d3.out C.out (.sc _ .nil)).mono ?_;rintro e w2 ⟨v2,r0,rfl,g2,b2,p2,n2,r2⟩;have HQ:=J (xd hU (jp A.out g2) b2 p2 n2 (bS _ _:PT w2 G [.slice none 0 0] [aY 0]));clear g2 b2 p2 n2 r2
  go_wp2
  go_ret
  exact HQ.out
 have hU:dU s=(cI q.1,q.2):=by unfold dU;rw[hq,if_neg O,H];exact if_neg F
 have v5:((c.toNat:Int)==0)=false:=by simp;omega
 obtain⟨K,hK⟩:∃K,(L+3)/4=K:=⟨_,Z⟩;obtain⟨W,N,g0,d4,v6⟩:=fF l K O;have N:=N .i64 .i64;have i4:=J g0;have i2:=J d4;have q1:IntKind.i64.wrap ((L:Int)+3)=(L:Int)+3:=by rw[RZ];omega
 clear g0 d4;rw[show(K:Int)=((L:Int)+3)/4 by omega]at N
 go_wp2
 clear N
 go_loopw [31] (λi wr=>QV l q.1 i wr) (λi _=>L-(intOf i).toNat)
 case atStart=>exact⟨0,Rg _,Z,by have:=i4.out;rw[Q.out,TM,Vd,Iy,hK];exact this,i2.out⟩
 case round=>
  obtain⟨k,hk,rfl,j,e0⟩:=hrel;rw[Q.out]at hk j;rw[hK]at j;have m:=J e0;clear e0;by_cases o2:k<L
  ·obtain⟨d,hd⟩:∃d,q.1[q.1.length-1-k]? =some d:=⟨_,Q2 (by rw[Q.out];omega)⟩;have o1:d.toNat<256:=d.toNat_lt;obtain⟨v,hv⟩:∃v,cI q.1%256^k=v:=⟨_,Z⟩;obtain⟨h5,c5,h6,h7,c9⟩:=LI (K:=K) (v:=v) (c:=d.toNat) (i:=k) (by rw[<-hv];exact RJ _ (Sh I)) o1 O;rw[hv]at j;have y:=J j;clear j;obtain⟨r,M⟩:∃x,v/4294967296^(k/4)%4294967296=x:=⟨_,Z⟩;rw[M]at h5 c5 h6 c9;have e2:k/4<(iu K v).length:=by rw[iE];omega
   have cr:=y.out.cell e2;have fr:=y.out.free (k/4);have e1:(iu K v)[k/4]=r:=by
    have:=r9 v (show k/4<K by omega);rw[M]at this;exact(Q6.1 this).2
   rw[e1]at cr;have cb:wr.cell? ⟨b,off+(L-1-k),none⟩=some (.int .u8 (d.toNat:Nat)):=by
    have h1:(bZ q.1)[L-1-k]? =some (.int .u8 (d.toNat:Nat)):=by
     rw[Q.out]at hd;unfold bZ;rw[RK,hd];rfl
    rw[<-i3.out _ _ h1];exact m.out.cell (p:=⟨b,off+(L-1-k),none⟩) d1.out
   have HD:=J hd;have k0:=J c9;obtain⟨u,P⟩:∃x,d.toNat*256^(k%4)=x:=⟨_,Z⟩;have c3:r<4294967296:=by rw[<-M];exact RJ _ I
   have k1:=J P;rw[P]at c5 h6 h7;have q2:(0:Int)<=(k:Int)/4:=O
   have q3:((k:Int)/4).toNat=k/4:=O
   have q4:(k:Int)/4<(K:Int):=O
   have q5:IntKind.i64.wrap ((L:Int)-1)=(L:Int)-1:=by rw[RZ];omega
   have q6:IntKind.i64.wrap ((L:Int)-1-(k:Int))=(L:Int)-1-(k:Int):=by rw[RZ];omega
   have q7:(0:Int)<=(L:Int)-1-(k:Int):=O
   have q8:((L:Int)-1-(k:Int)).toNat=L-1-k:=O
   have q9:(L:Int)-1-(k:Int)<(L:Int):=O
   have o3:IntKind.u32.wrap (d.toNat:Int)=(d.toNat:Int):=by rw[SU];omega
   have p0:IntKind.i64.wrap ((k:Int)%4*8)=(k:Int)%4*8:=by rw[RZ];omega
   have p3:((k:Int)%4*8).toNat=k%4*8:=O
   have p4:IntKind.u32.wrap ((d.toNat:Int)*2^(k%4*8))=(u:Int):=by
    have e:((d.toNat:Int)*2^(k%4*8))=((u:Nat):Int):=by
     rw[<-P,show(256:Nat)^(k%4)=2^(k%4*8) by rw[Rk (k%4) 8,Tu]];simp
    rw[e,SU];omega
   have q0:bits .or .u32 (r:Int) (u:Int)=((r+u:Nat):Int):=by
    have:=tK .u32 32 I (λn h0 h1=>by rw[SU];omega) r u c3 h7;rw[c5]at this;exact this
   clear hd c9 P e1 M h5 e2;have h4:=(y.out.lt _ Z).2;have n0:=Rh d1.out m.out.size
   go_wp2
   -- R11
   refine uy [some 34,some 35,some 36,some 37,some 38,some 39,some 40,some 41,some 42,some 43,some 44,some 45,some 46,some 47,some 48,some 49,some 50,some 51,some 52,some 53,none] ([λv _=>v=.slice (some ⟨l.heap.size,0,none⟩) K K,λv _=>v=.int .i64 (k:Int),λv _=>v=.int .i64 ((k:Int)/4),λv _=>v=.pointer (some ⟨l.heap.size,k/4,none⟩),λv _=>v=.int .u32 (r:Int),λv _=>v=.slice (some ⟨b,off,none⟩) L cp,λv _=>v=.slice (some ⟨b,off,none⟩) L cp,λv _=>v=.int .i64 (L:Int),λv _=>v=.int .i64 ((L:Int)-1),λv _=>v=.int .i64 (k:Int),λv _=>v=.int .i64 ((L:Int)-1-(k:Int)),λv _=>v=.pointer (some ⟨b,off+(L-1-k),none⟩),λv _=>v=.int .u8 (d.toNat:Int),λv _=>v=.int .u32 (d.toNat:Int),λv _=>v=.int .i64 (k:Int),λv _=>v=.int .i64 ((k:Int)%4),λv _=>v=.int .i64 ((k:Int)%4*8),λv _=>v=.int .u32 (u:Int),λv _=>v=.int .u32 ((r+u:Nat):Int),λv _=>v=.pointer (some ⟨l.heap.size,k/4,none⟩)]) 20 _ U U (by rfl) (by rfl) (.eq (.eq (.eq (.eq (.eq (.eq (.eq (.eq (.eq (.eq (.eq (.eq (.eq (.eq (.eq (.eq (.eq (.eq (.eq (.eq .nil)))))))))))))))))))) (by rfl) (by rfl) (by rfl) (by rfl) U ?_ ?_
   ·refine Steps.cons trivial (λT W a=>?_) ?_
    ·have e4:T 4=.slice (some ⟨l.heap.size,0,none⟩) K K:=a.keep 4 (by rfl);have f:=a.wi;clear a;refine aE (v:=.slice (some ⟨l.heap.size,0,none⟩) K K) (W':=W) ?_ ⟨Z,Below.refl _ _⟩;simp only[execOp,dG,e4];go_simp
    refine Steps.cons trivial (λT W a=>?_) ?_
    ·have e5:T 5=.int .i64 (k:Int):=a.keep 5 (by rfl);have f:=a.wi;clear a;refine aE (v:=.int .i64 (k:Int)) (W':=W) ?_ ⟨Z,Below.refl _ _⟩;simp only[execOp,dG,e5];go_simp
    refine Steps.cons trivial (λT W a=>?_) ?_
    ·have k3:T 35=.int .i64 (k:Int):=a.fact 1 1 35 U;have f:=a.wi;clear a;refine aE (v:=.int .i64 ((k:Int)/4)) (W':=W) ?_ ⟨Z,Below.refl _ _⟩;have v8:IntKind.i64.wrap ((k:Int)/4)=(k:Int)/4:=by rw[RZ];omega
     simp only[execOp,dG,k3];go_simp
    refine Steps.cons trivial (λT W a=>?_) ?_
    ·have b4:T 34=.slice (some ⟨l.heap.size,0,none⟩) K K:=a.fact 1 0 34 U;have b5:T 36=.int .i64 ((k:Int)/4):=a.fact 1 2 36 U;have f:=a.wi;clear a;refine aE (v:=.pointer (some ⟨l.heap.size,k/4,none⟩)) (W':=W) ?_ ⟨Z,Below.refl _ _⟩;simp only[execOp,dG,b4,b5];go_simp
    refine Steps.cons trivial (λT W a=>?_) ?_
    ·have k4:T 37=.pointer (some ⟨l.heap.size,k/4,none⟩):=a.fact 1 3 37 U;have f:=a.wi;clear a;have cr:=(f.cell (p:=⟨l.heap.size,k/4,none⟩) h4).trans cr;refine aE (v:=.int .u32 (r:Int)) (W':=W) ?_ ⟨Z,Below.refl _ _⟩;simp only[execOp,dG,k4];go_simp
    refine Steps.cons trivial (λT W a=>?_) ?_
    ·have e3:T 3=.slice (some ⟨b,off,none⟩) L cp:=a.keep 3 (by rfl);have f:=a.wi;clear a;refine aE (v:=.slice (some ⟨b,off,none⟩) L cp) (W':=W) ?_ ⟨Z,Below.refl _ _⟩;simp only[execOp,dG,e3];go_simp
    refine Steps.cons trivial (λT W a=>?_) ?_
    ·have e3:T 3=.slice (some ⟨b,off,none⟩) L cp:=a.keep 3 (by rfl);have f:=a.wi;clear a;refine aE (v:=.slice (some ⟨b,off,none⟩) L cp) (W':=W) ?_ ⟨Z,Below.refl _ _⟩;simp only[execOp,dG,e3];go_simp
    refine Steps.cons trivial (λT W a=>?_) ?_
    ·have l1:T 40=.slice (some ⟨b,off,none⟩) L cp:=a.fact 1 6 40 U;have f:=a.wi;clear a;refine aE (v:=.int .i64 (L:Int)) (W':=W) ?_ ⟨Z,Below.refl _ _⟩;simp only[execOp,resolve,invoke,builtin,Tk,Sb,TD,dG,l1];go_simp
    refine Steps.cons trivial (λT W a=>?_) ?_
    ·have l2:T 41=.int .i64 (L:Int):=a.fact 1 7 41 U;have f:=a.wi;clear a;refine aE (v:=.int .i64 ((L:Int)-1)) (W':=W) ?_ ⟨Z,Below.refl _ _⟩;simp only[execOp,dG,l2];go_simp
    refine Steps.cons trivial (λT W a=>?_) ?_
    ·have e5:T 5=.int .i64 (k:Int):=a.keep 5 (by rfl);have f:=a.wi;clear a;refine aE (v:=.int .i64 (k:Int)) (W':=W) ?_ ⟨Z,Below.refl _ _⟩;simp only[execOp,dG,e5];go_simp
    refine Steps.cons trivial (λT W a=>?_) ?_
    ·have l3:T 42=.int .i64 ((L:Int)-1):=a.fact 1 8 42 U;have l4:T 43=.int .i64 (k:Int):=a.fact 1 9 43 U;have f:=a.wi;clear a;refine aE (v:=.int .i64 ((L:Int)-1-(k:Int))) (W':=W) ?_ ⟨Z,Below.refl _ _⟩;simp only[execOp,dG,l3,l4];go_simp
    refine Steps.cons trivial (λT W a=>?_) ?_
    ·have l0:T 39=.slice (some ⟨b,off,none⟩) L cp:=a.fact 1 5 39 U;have l5:T 44=.int .i64 ((L:Int)-1-(k:Int)):=a.fact 1 10 44 U;have f:=a.wi;clear a;refine aE (v:=.pointer (some ⟨b,off+(L-1-k),none⟩)) (W':=W) ?_ ⟨Z,Below.refl _ _⟩;simp only[execOp,dG,l0,l5];go_simp;intro h9;omega
    refine Steps.cons trivial (λT W a=>?_) ?_
    ·have l6:T 45=.pointer (some ⟨b,off+(L-1-k),none⟩):=a.fact 1 11 45 U;have f:=a.wi;clear a;have cb:=(f.cell (p:=⟨b,off+(L-1-k),none⟩) n0).trans cb;refine aE (v:=.int .u8 (d.toNat:Int)) (W':=W) ?_ ⟨Z,Below.refl _ _⟩;simp only[execOp,dG,l6];go_simp
    refine Steps.cons trivial (λT W a=>?_) ?_
    ·have l7:T 46=.int .u8 (d.toNat:Int):=a.fact 1 12 46 U;have f:=a.wi;clear a;refine aE (v:=.int .u32 (d.toNat:Int)) (W':=W) ?_ ⟨Z,Below.refl _ _⟩;simp only[execOp,dG,l7];go_simp
    refine Steps.cons trivial (λT W a=>?_) ?_
    ·have e5:T 5=.int .i64 (k:Int):=a.keep 5 (by rfl);have f:=a.wi;clear a;refine aE (v:=.int .i64 (k:Int)) (W':=W) ?_ ⟨Z,Below.refl _ _⟩;simp only[execOp,dG,e5];go_simp
    refine Steps.cons trivial (λT W a=>?_) ?_
    ·have l9:T 48=.int .i64 (k:Int):=a.fact 1 14 48 U;have f:=a.wi;clear a;refine aE (v:=.int .i64 ((k:Int)%4)) (W':=W) ?_ ⟨Z,Below.refl _ _⟩;simp only[execOp,dG,l9];go_simp;exact Te O
    refine Steps.cons trivial (λT W a=>?_) ?_
    ·have m1:T 49=.int .i64 ((k:Int)%4):=a.fact 1 15 49 U;have f:=a.wi;clear a;refine aE (v:=.int .i64 ((k:Int)%4*8)) (W':=W) ?_ ⟨Z,Below.refl _ _⟩;simp only[execOp,dG,m1];go_simp
    refine Steps.cons trivial (λT W a=>?_) ?_
    ·have l8:T 47=.int .u32 (d.toNat:Int):=a.fact 1 13 47 U;have m2:T 50=.int .i64 ((k:Int)%4*8):=a.fact 1 16 50 U;have f:=a.wi;clear a;refine aE (v:=.int .u32 (u:Int)) (W':=W) ?_ ⟨Z,Below.refl _ _⟩;simp only[execOp,dG,l8,m2];go_simp
    refine Steps.cons trivial (λT W a=>?_) ?_
    ·have k5:T 38=.int .u32 (r:Int):=a.fact 1 4 38 U;have m3:T 51=.int .u32 (u:Int):=a.fact 1 17 51 U;have f:=a.wi;clear a;refine aE (v:=.int .u32 ((r+u:Nat):Int)) (W':=W) ?_ ⟨Z,Below.refl _ _⟩;simp only[execOp,dG,k5,m3];go_simp
    refine Steps.cons trivial (λT W a=>?_) ?_
    ·have b4:T 34=.slice (some ⟨l.heap.size,0,none⟩) K K:=a.fact 1 0 34 U;have b5:T 36=.int .i64 ((k:Int)/4):=a.fact 1 2 36 U;have f:=a.wi;clear a;refine aE (v:=.pointer (some ⟨l.heap.size,k/4,none⟩)) (W':=W) ?_ ⟨Z,Below.refl _ _⟩;simp only[execOp,dG,b4,b5];go_simp
    exact Steps.nil
   ·intro us W2 b3 o E;obtain⟨y0,v9,rfl,e6⟩:=cG b3;clear b3;obtain⟨y1,h8,rfl,e7⟩:=cG e6;clear e6;obtain⟨y2,r0,rfl,e8⟩:=cG e7;clear e7;obtain⟨y3,w0,rfl,e9⟩:=cG e8;clear e8;obtain⟨y4,w3,rfl,f0⟩:=cG e9;clear e9;obtain⟨y5,w4,rfl,f1⟩:=cG f0;clear f0;obtain⟨y6,w5,rfl,f2⟩:=cG f1;clear f1;obtain⟨y7,w6,rfl,f3⟩:=cG f2;clear f2;obtain⟨y8,w7,rfl,f4⟩:=cG f3;clear f3;obtain⟨y9,w8,rfl,f7⟩:=cG f4;clear f4;obtain⟨r3,t3,rfl,V⟩:=cG f7;clear f7;obtain⟨r4,t4,rfl,X⟩:=cG V;clear V;obtain⟨s1,t5,rfl,Y⟩:=cG X;clear X;obtain⟨s2,t7,rfl,a0⟩:=cG Y;clear Y;obtain⟨s3,t8,rfl,a1⟩:=cG a0;clear a0;obtain⟨s4,t9,rfl,a2⟩:=cG a1;clear a1;obtain⟨s5,u0,rfl,a3⟩:=cG a2;clear a2;obtain⟨t0,u1,rfl,a4⟩:=cG a3;clear a3;obtain⟨t1,u2,rfl,a5⟩:=cG a4;clear a4;obtain⟨t2,u3,rfl,a9⟩:=cG a5;clear a5;obtain⟨x0,u4,rfl,b0⟩:=cG a9;clear a9;obtain rfl:=Fe b0;clear b0;obtain rfl:y0=.slice (some ⟨l.heap.size,0,none⟩) K K:=o 0 I;obtain rfl:y1=.int .i64 (k:Int):=o 1 I;obtain rfl:y2=.int .i64 ((k:Int)/4):=o 2 I;obtain rfl:y3=.pointer (some ⟨l.heap.size,k/4,none⟩):=o 3 I;obtain rfl:y4=.int .u32 (r:Int):=o 4 I;obtain rfl:y5=.slice (some ⟨b,off,none⟩) L cp:=o 5 I;obtain rfl:y6=.slice (some ⟨b,off,none⟩) L cp:=o 6 I;obtain rfl:y7=.int .i64 (L:Int):=o 7 I;obtain rfl:y8=.int .i64 ((L:Int)-1):=o 8 I;obtain rfl:y9=.int .i64 (k:Int):=o 9 I;obtain rfl:r3=.int .i64 ((L:Int)-1-(k:Int)):=o 10 I;obtain rfl:r4=.pointer (some ⟨b,off+(L-1-k),none⟩):=o 11 I;obtain rfl:s1=.int .u8 (d.toNat:Int):=o 12 I;obtain rfl:s2=.int .u32 (d.toNat:Int):=o 13 I;obtain rfl:s3=.int .i64 (k:Int):=o 14 I;obtain rfl:s4=.int .i64 ((k:Int)%4):=o 15 I;obtain rfl:s5=.int .i64 ((k:Int)%4*8):=o 16 I;obtain rfl:t0=.int .u32 (u:Int):=o 17 I;obtain rfl:t1=.int .u32 ((r+u:Nat):Int):=o 18 I;obtain rfl:t2=.pointer (some ⟨l.heap.size,k/4,none⟩):=o 19 I;clear o;simp only[dl,SM,VB,US,T2,Tb]
   -- END R11
    have c4:=y.out.below E;have m4:=c4.free (k/4);have k2:=(E.cell (p:=⟨l.heap.size,k/4,none⟩) h4).trans cr;have i9:=J c4;have i1:=J E;clear c4 E;refine gS (W':=W2.setCell ⟨l.heap.size,k/4,none⟩ (.int .u32 ((r+u:Nat):Int))) ?_ ?_
    ·simp only[execOp,dG];go_simp
    clear k2 m4 cr fr cb q2 q3 q4 q5 q6 q7 q8 q9 o3 p0 p3 p4 q0
    go_wp2
    go_roundw
    case rel=>
     refine⟨k+1,by rw[Q.out];omega,Z,?_,(aL m.out i1.out m.out.size).setCell (Q3 _) _⟩;have h1:=i9.out.put (i:=k/4) (by rw[iE]) ((r+u:Nat):Int) (r+u) Z;have h2:=k0.out;rw[k1.out]at h2;have h3:=IC HD.out (by rw[Q.out];exact o2);rw[hv]at h3;rw[Q.out,hK,h3,<-h2];exact h1
    case measure=>simp[intOf];omega
  obtain rfl:k=L:=O
  have j:OwnN wr l.heap.size (.slice (some ⟨l.heap.size,0,none⟩) K K) (aD (cI q.1)):=by
   have h1:=j;have h2:=LJ H F;rw[Q.out,hK]at h2;rw[h2]at h1;exact h1
  have hv:PT wr G [.slice (some ⟨l.heap.size,0,none⟩) K K] [aY (cI q.1)]:=fe (OkG.later (OkG.grown d2.out A.out z.out C.out) m.out) j.isD;have HQ:=J (xd hU (jp A.out (sX m.out)) (z.out.below m.out z.out.lt) (d3.out.later m.out) C.out hv);clear j hv
  go_wp2
  go_ret
  exact HQ.out⟩
