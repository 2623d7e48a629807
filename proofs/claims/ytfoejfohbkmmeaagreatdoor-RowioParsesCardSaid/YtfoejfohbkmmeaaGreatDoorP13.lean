import Derived.Lib.ReplaceLaws
import Derived.Lib.ItoaNum
import Derived.Lib.ParseIntB
import Derived.Test.YtfoejfohbkmmeaaGreatDoorP00
import Derived.Test.YtfoejfohbkmmeaaGreatDoorP12
import Derived.Test.YtfoejfohbkmmeaaGreatDoorP03
import Derived.Test.YtfoejfohbkmmeaaGreatDoorP02
import Derived.Laws.CopyOwn
import Derived.Laws.Bits64
import Derived.Deep.QuietTactic
import Derived.BigQuiet
set_option maxRecDepth 100000
set_option maxHeartbeats 2000000
namespace Go.Proofs.YtfoejfohbkmmeaaGreatDoor
theorem kE(a b:List UInt8):(⟨a.toArray⟩++⟨b.toArray⟩:ByteArray)=⟨(a++b).toArray⟩:=by apply PH;simp[OC]
theorem jv(s:ByteArray):(⟨s.data.toList.toArray⟩:ByteArray)=s:=by apply PH;simp
def sm(old new s:List UInt8):List UInt8:=Lib.replaceK old new (Lib.count s old) s
theorem ib{old new:List UInt8}(s:List UInt8)(h:(old==new)=false):Lib.replaceAll s old new=sm old new s:=by
 simp[Lib.replaceAll,Lib.replace,h,sm,Lib.replaceNum]
theorem B3{old new:List UInt8}(h:old≠ []):sm old new []=[]:=by
 have b:Lib.index [] old= -1:=by cases old with|nil=>exact absurd rfl h|cons a t=>rfl
 rw[sm,Lib.count_miss b];rfl
theorem B4{old new s:List UInt8}(h:old≠ [])(c:old.isPrefixOf s=true):sm old new s=new++sm old new (s.drop old.length):=by
 have a:Lib.index s old=(0:Nat):=Lib.index_first (i:=0) (Mp _) (by simpa[Lib.occAt]using c) (fun _ h=>absurd h (Oo _));have b:=Lib.count_hit h a;rw[sm,b,NW,Lib.replaceK_hit old new _ s 0 a];simp[sm]
theorem xO{old new:List UInt8}{c:UInt8}{l:List UInt8}(h:old≠ [])(g:old.isPrefixOf (c::l)=false):sm old new (c::l)=c::sm old new l:=by
 have d:Lib.index (c::l) old=if Lib.index l old== -1 then-1 else Lib.index l old+1:=by rw[Lib.index,g];rfl
 rcases Lib.index_spec l old with⟨b,_⟩|⟨i,b,_⟩
 ·rw[b]at d;have a:Lib.index (c::l) old= -1:=d;rw[sm,sm,Lib.count_miss a,Lib.count_miss b];rfl
 have a:Lib.index (c::l) old=((i+1:Nat):Int):=by
  rw[d,b,if_neg (by simp)];omega
 have e:(c::l).drop (i+1+old.length)=l.drop (i+old.length):=by
  rw[show i+1+old.length=(i+old.length)+1 by omega];rfl
 have f:=Lib.count_hit h a;have j:=Lib.count_hit h b;rw[e]at f;rw[sm,sm,f,j,NW,Lib.replaceK_hit old new _ _ (i+1) a,Lib.replaceK_hit old new _ _ i b,e];simp
def gB:List UInt8->List UInt8
 |[]=>[]
 |c::l=>if c=39 then 39::39::gB l else c::gB l
theorem wz:∀s:List UInt8,sm [39] [39,39] s=gB s
 |[]=>B3 (by simp)
 |c::l=>by
  by_cases a:c=39
  ·subst a;rw[B4 (by simp) (by simp)];simp[gB,wz l]
  rw[xO (old:=[39]) (c:=c) (l:=l) (by simp) (by rw[List.isPrefixOf];simp[Ne.symm a])];simp[gB,a,wz l]
theorem kT:∀s:List UInt8,sm [39,39] [39] (gB s)=s
 |[]=>B3 (by simp)
 |c::l=>by
  by_cases a:c=39
  ·subst a;rw[show gB (39::l)=39::39::gB l by simp[gB]];rw[B4 (by simp) (by simp)];simp[kT l]
  rw[show gB (c::l)=c::gB l by simp[gB,a]];rw[xO (old:=[39,39]) (c:=c) (l:=gB l) (by simp) (by rw[List.isPrefixOf];simp[Ne.symm a])];simp[kT l]
theorem iS:∀s:List UInt8,(gB s).length<=2*s.length
 |[]=>by simp[gB]
 |c::l=>by
  have:=iS l;by_cases a:c=39<;>simp[gB,a]<;>omega
theorem H4{a b:List UInt8}(h:gB a=gB b):a=b:=by
 rw[<-kT a,<-kT b,h]
theorem nK(M:Nat):∀(l r:List UInt8) (b a:Nat),Lib.parseUintM M b l=.ok a->Lib.parseUintM M b (l++r)=Lib.parseUintM M a r
 |[],r,b,a,h=>by simp[Lib.parseUintM]at h;subst h;rfl
 |c::l,r,b,a,h=>by
  simp only[Lib.parseUintM,Na]at h⊢;split at h
  ·rename_i h1;rw[if_pos h1];split at h
   ·cases h
   rename_i h2;rw[if_neg h2];split at h
   ·cases h
   rename_i h3;rw[if_neg h3];exact nK M l r _ a h
  cases h
theorem fm(d:Nat)(h:d<10):(UInt8.ofNat (48+d)).toNat=48+d:=by
 simp[PF];omega
theorem sn(M:Nat)(a:M<=18446744073709551615):∀(k u:Nat),u<=k->u<=M->Lib.parseUintM M 0 (Lib.decDigits u)=.ok u
 |k,u,hk,hu=>by
  by_cases h:u<10
  ·rw[Lib.decDigits,dif_pos h];simp only[Lib.parseUintM,fm u h];rw[if_pos (by omega),if_neg (by omega),if_neg (by omega)];congr 1;omega
  rw[Lib.decDigits,dif_neg h]
  match k,hk with
  |0,hk=>omega
  |k+1,hk=>
   have c:=sn M a k (u/10) (by omega) (by omega);rw[nK M _ _ _ _ c];have b:u%10<10:=by omega
   simp only[Lib.parseUintM,fm _ b];rw[if_pos (by omega),if_neg (by omega),if_neg (by omega)];congr 1;omega
theorem oY:∀(k u:Nat),u<=k->∃c r,Lib.decDigits u=c::r/\48<=c.toNat/\c.toNat<=57
 |k,u,hk=>by
  by_cases h:u<10
  ·rw[Lib.decDigits,dif_pos h];exact⟨_,_,Z,by rw[fm u h];omega,by rw[fm u h];omega⟩
  rw[Lib.decDigits,dif_neg h]
  match k,hk with
  |0,hk=>omega
  |k+1,hk=>
   obtain⟨c,r,e,b,a⟩:=oY k (u/10) (by omega);exact⟨c,r++[_],by rw[e];rfl,b,a⟩
theorem so(u:Nat)(h:u<=18446744073709551615):Lib.parseUintB 64 (Lib.decDigits u)=.ok u:=by
 obtain⟨c,r,e,_,_⟩:=oY u u (L4 _);have a:(2^64-1:Nat)=18446744073709551615:=by decide
 rw[Lib.parseUintB,if_neg (by rw[e];simp),a];exact sn _ (L4 _) u u (L4 _) h
theorem nY(n:Int)(g: -9223372036854775808<=n)(j:n<=9223372036854775807):Lib.parseIntB 64 (Lib.itoa n)=.ok n:=by
 have a:(2^(64-1):Nat)=9223372036854775808:=by decide
 by_cases h:n<0
 ·rw[Lib.itoa,if_pos h];simp only[Lib.parseIntB];rw[if_pos (Or.inr (by decide)),so _ (by omega)];have d:(45:UInt8).toNat=45:=by decide
  simp only[a,d];rw[if_neg (by simp),if_neg (by simp;omega),if_pos trivial];congr 1;omega
 rw[Lib.itoa,if_neg h];obtain⟨c,r,e,f,i⟩:=oY n.toNat n.toNat (L4 _);have b:=so n.toNat (by omega);rw[e]at b⊢;simp only[Lib.parseIntB];rw[if_neg (by omega),b];simp only[a];rw[if_neg (by omega),if_neg (by omega),if_neg (by omega)];congr 1;omega
theorem Fh{a b:Int}(d: -9223372036854775808<=a)(g:a<=9223372036854775807)(e: -9223372036854775808<=b)(f:b<=9223372036854775807)(h:Lib.itoa a=Lib.itoa b):a=b:=by
 have c:=nY a d g;have i:=nY b e f;rw[h,i]at c;injection c with c
 exact c.symm
theorem iE(n:Int):∃c r,Lib.itoa n=c::r/\c≠39:=by
 by_cases h:n<0
 ·exact⟨45,_,by rw[Lib.itoa,if_pos h],by decide⟩
 obtain⟨c,r,e,a,_⟩:=oY n.toNat n.toNat (L4 _);exact⟨c,r,by rw[Lib.itoa,if_neg h,e],fun e=>by subst e;simp at a⟩
theorem kU:∀a b:List UInt8,Lib.compareBytes b a= -Lib.compareBytes a b
 |[],[]=>rfl
 |[],_::_=>rfl
 |_::_,[]=>rfl
 |x::a,y::b=>by
  have e:=kU a b;simp only[Lib.compareBytes,OV];by_cases c:x.toNat<y.toNat
  ·rw[if_neg (by omega),if_pos c,if_pos c];rfl
  by_cases d:y.toNat<x.toNat
  ·rw[if_pos d,if_neg c,if_pos d]
  rw[if_neg d,if_neg c,if_neg c,if_neg d];exact e
theorem ji:∀a b:List UInt8,Lib.compareBytes a b=0↔a=b
 |[],[]=>by simp[Lib.compareBytes]
 |[],_::_=>by simp[Lib.compareBytes]
 |_::_,[]=>by simp[Lib.compareBytes]
 |x::a,y::b=>by
  have e:=ji a b;simp only[Lib.compareBytes,OV];by_cases c:x.toNat<y.toNat
  ·rw[if_pos c];constructor
   ·intro h;omega
   intro h;injection h with h _;subst h;omega
  by_cases d:y.toNat<x.toNat
  ·rw[if_neg c,if_pos d];constructor
   ·intro h;omega
   intro h;injection h with h _;subst h;omega
  rw[if_neg c,if_neg d,e];have:x=y:=OL.1 (by omega);simp[this]
theorem jT:∀a b c:List UInt8,Lib.compareBytes a b<=0->Lib.compareBytes b c<=0->Lib.compareBytes a c<=0
 |[],[],c,_,h=>h
 |[],_::_,[],_,h=>by simp[Lib.compareBytes]at h
 |[],_::_,_::_,_,_=>by simp[Lib.compareBytes]
 |_::_,[],_,h,_=>by simp[Lib.compareBytes]at h
 |_::_,_::_,[],_,h=>by simp[Lib.compareBytes]at h
 |x::a,y::b,z::c,h,k=>by
  have i:=jT a b c;simp only[Lib.compareBytes,OV]at h k⊢;by_cases g:x.toNat<y.toNat
  ·by_cases d:y.toNat<z.toNat
   ·rw[if_pos (by omega)];omega
   by_cases e:z.toNat<y.toNat
   ·rw[if_neg d,if_pos e]at k;omega
   rw[if_pos (by omega)];omega
  by_cases f:y.toNat<x.toNat
  ·rw[if_neg g,if_pos f]at h;omega
  rw[if_neg g,if_neg f]at h;by_cases d:y.toNat<z.toNat
  ·rw[if_pos (by omega)];omega
  by_cases e:z.toNat<y.toNat
  ·rw[if_neg d,if_pos e]at k;omega
  rw[if_neg d,if_neg e]at k;rw[if_neg (by omega),if_neg (by omega)];exact i h k
theorem gP:∀a b:List UInt8,Lib.compareBytes a b= -1\/Lib.compareBytes a b=0\/Lib.compareBytes a b=1
 |[],[]=>by simp[Lib.compareBytes]
 |[],_::_=>by simp[Lib.compareBytes]
 |_::_,[]=>by simp[Lib.compareBytes]
 |x::a,y::b=>by
  have c:=gP a b;simp only[Lib.compareBytes];split
  ·simp
  split
  ·simp
  exact c
end Go.Proofs.YtfoejfohbkmmeaaGreatDoor
namespace Go.Proofs.YtfoejfohbkmmeaaGreatDoor
open Go.RowKit
open Lib renaming hid→J
def Fi(W0:World)(ds:List Nat)(r i:Value)(wr:World):Prop:=
 ∃(k:Nat) (qs:List Nat),k<=ds.length/\i=.int .i64 ((k:Int)-1)/\qs.length+k=ds.length/\Digs qs/\r=.int .u64 ((ay (ds.drop k)%10:Nat):Int)/\ay qs=ay (ds.drop k)/10/\OwnN wr W0.heap.size (.slice (some ⟨W0.heap.size,0,none⟩) ds.length ds.length) (List.replicate k 0++qs)/\Below W0.heap.size W0 wr
theorem qb(k g:Nat)(qs:List Nat):(List.replicate (k+1) 0++qs).set k g=List.replicate k 0++g::qs:=by
 rw[List.replicate_succ',Mv,NK _ _ (by simp)];simp
theorem xP(a:List Nat)(k:Nat)(h:k<a.length):ay (a.drop k)=a[k]+4294967296*ay (a.drop (k+1)):=by
 rw[Mc h,ay]
def uz(n:Nat)(w:World)(e:Ending)(w':World):Prop:=∃v,e=.returned (.tuple #[v,.int .u64 ((n%10:Nat):Int)])/\OwnN w' w.heap.size v (ax (n/10))/\Below w.heap.size w w'
theorem Dg(A:Option Addr)(c:Nat)(a:List Nat)(w:World)(h:IsN w A c a)(hl:a.length<=1048576):
  Calls Tryz.prog 169 #[.slice A a.length c,.int .u64 10] w (uz (ay a) w):=by
 have HI:=J h;clear h;obtain⟨W,l,B,E,S⟩:=eO w a.length (by omega);have l:=l .i64 .i64;have L:=J B;have I:=J E;clear B E S
 go_enter Tryz.func169,Tryz.ntmps169
 go_wp2
 clear l
 go_loopw [7,8] (fun r i wr=>Fi w a r i wr) (fun _ i _=>(intOf i+1).toNat)
 case atStart=>exact⟨a.length,[],L4 _,Z,by simp,fun d q=>by simp at q,by simp[ay],by simp[ay],by simpa using L.out,I.out⟩
 case round=>
  obtain⟨k,qs,hk,rfl,D,u,rfl,s,f,n⟩:=hrel;have F:=J u;have y:=J s;have H:=J f;have M:=J n;have g:=J D;have z:=n.size;clear u s f n D;cases k with
  |zero=>
   rw[M8]at*;have f:OwnN wr w.heap.size (.slice (some ⟨w.heap.size,0,none⟩) a.length a.length) qs:=by have:=H.out;simpa using this
   have t:IsN wr (some ⟨w.heap.size,0,none⟩) a.length qs:=by
    obtain⟨A',c',e,hi⟩:=f.is F.out;injection e with e1 e2 e3
    subst e1 e3;exact hi
   have o:=dN (some ⟨w.heap.size,0,none⟩) a.length qs wr t (by have:=g.out;omega);rw[show qs.length=a.length by have:=g.out;omega,y.out]at o;have K:=J o;obtain⟨m,P⟩:∃m,ay a%10=m:=⟨_,rfl⟩;rw[P];have HM:=J P;clear f t o P
   go_wp2_with fail
   refine K.out.mono ?_;rintro e w5 ⟨v5,rfl,G,C⟩;have N:=J (G.base_le z);have V:=J (aE M.out C z);clear G C
   go_wp2
   go_ret2
   exact⟨v5,by rw[HM.out];rfl,N.out,V.out⟩
  |succ k=>
   rw[show((k+1:Nat):Int)-1=(k:Int) by omega];have j:k<a.length:=by omega
   obtain⟨b,off,rfl,hb,hc⟩:=HI.out.digit j;obtain⟨d,q⟩:∃d,a[k]=d:=⟨_,rfl⟩;have R:=(M.out.cell (p:=⟨b,off+k,none⟩) hb).trans (hc k j);rw[q]at R;have X:d<4294967296:=by rw[<-q];exact HI.out.ok _ (M7 j)
   have U:=J (show ay (a.drop k)=d+4294967296*ay (a.drop (k+1)) by rw[xP a k j,q]);obtain⟨r,T⟩:∃r,ay (a.drop (k+1))%10=r:=⟨_,rfl⟩;have Y:r<10:=by omega
   rw[T];have HR:=J T;have a0:=H.out.free k;have a1:=H.out.cell (i:=k) (by simp;omega);clear hc q T
   go_wp2
   go_roundw
   case rel=>
    have e1:=U.out;have e2:=y.out;have e3:=HR.out;refine⟨k,(r*4294967296+d)/10::qs,by omega,Z,by have:=g.out;simp;omega,fun x O=>?_,?_,?_,?_,M.out.setCell (p:=⟨w.heap.size,k,none⟩) (L4 _) _⟩
    ·rcases Mi.1 O with rfl|O
     ·omega
     exact F.out x O
    ·congr 1;omega
    ·rw[ay,e2];omega
    have v:(List.replicate (k+1) (0:Nat)++qs).length=a.length:=by have:=g.out;simp;omega
    have h1:OwnN wr w.heap.size (.slice (some ⟨w.heap.size,0,none⟩) (List.replicate (k+1) 0++qs).length a.length) (List.replicate (k+1) 0++qs):=by
     rw[v];exact H.out
    have Q:=h1.set (i:=k) ((r*4294967296+d)/10);rw[MJ,qb,v]at Q;have e:(((r*4294967296+d)/10:Nat):Int)=((r:Int)*4294967296+(d:Int))/10:=by omega
    rw[e]at Q;exact Q
   case measure=>simp[intOf]
theorem JJ{wr:World}{A:Option Addr}{c n:Nat}(h:IsN wr A c (ax n))(a:(ax n).length<=1048576):Calls Tryz.prog 169 #[.slice A (ax n).length c,.int .u64 10] wr (uz n wr):=by
 have:=Dg A c (ax n) wr h a;rwa[aO]at this
def H6(m:Nat)(t:List UInt8):List UInt8:=if m=0 then t else Lib.decDigits m++t
theorem Fj{m:Nat}(h:m≠0)(t:List UInt8):H6 m t=H6 (m/10) (UInt8.ofNat (48+m%10)::t):=by
 unfold H6;rw[if_neg h];rw[Lib.decDigits];by_cases a:m<10
 ·rw[dif_pos a,if_pos (by omega),ND a];rfl
 rw[dif_neg a,if_neg (by omega)];simp
def JK(w:World)(D:List UInt8)(x s:Value)(wr:World):Prop:=∃(m:Nat) (t:List UInt8),NumIn w wr x m/\s=.string ⟨t.toArray⟩/\H6 m t=D/\(ax m).length<=1048576/\t.length<=D.length/\Below w.heap.size w wr
theorem H7(m:Nat)(t:List UInt8):t.length<=(H6 m t).length:=by
 unfold H6;split
 ·exact L4 _
 simp
def m6(l:List UInt8)(w:World)(e:Ending)(w':World):Prop:=e=.returned (.string ⟨l.toArray⟩)/\Below w.heap.size w w'
theorem sq(A:Option Addr)(c:Nat)(d:List Nat)(w:World)(h:IsN w A c d)(hl:d.length<=1048576)(T:(Lib.decDigits (ay d)).length<=1073741824):
  Calls Tryz.prog 100 #[.slice A d.length c] w (m6 (Lib.decDigits (ay d)) w):=by
 have U:=J h;clear h;obtain⟨N,I⟩:∃N,ay d=N:=⟨_,rfl⟩;have HN:=J I;rw[I]at T⊢;have a0:(ax N).length<=d.length:=by rw[<-I];exact a8 (b8 d U.out.ok)
 clear I
 go_enter Tryz.func100,Tryz.ntmps100
 go_wp2_with fail
 refine(dN A c d _ U.out (by omega)).mono ?_;intro e w1 g;rw[HN.out]at g;obtain⟨v1,rfl,E,o⟩:=g.num (L4 _);have C:=J E;have B:=J o;have Y:=o.size;clear g E o;obtain⟨A1,c1,e1,_⟩:=C.out.is;subst e1;by_cases a:N=0
 ·have X:(((ax N).length:Int)==0)=true:=by rw[beq_iff_eq];have:=bR.2 a;omega
  have b:=J (show Lib.decDigits N=[48] by rw[a,Lib.decDigits];rfl);clear a
  go_wp2
  go_ret
  exact⟨by rw[b.out];rfl,B.out⟩
 have X:(((ax N).length:Int)==0)=false:=by rw[beq_eq_false_iff_ne];intro h;exact a (bR.1 (by omega))
 have b:=J (show H6 N []=Lib.decDigits N by rw[H6,if_neg a,Mq]);clear a;obtain⟨D,i⟩:∃D,Lib.decDigits N=D:=⟨_,rfl⟩;rw[i]at b T;have O:=J i;clear i
 go_wp2
 go_loopw [3,4] (fun x s wr=>JK w D x s wr) (fun x _ wr=>oX x wr)
 case atStart=>exact⟨N,[],C.out,Z,b.out,by omega,by simp,B.out⟩
 case round=>
  obtain⟨m,t,f,rfl,y,u,a2,l⟩:=hrel;have V:=J f;have HM:=J f.num;have p:=J y;have r:=J l;have j:=l.size;obtain⟨Am,cm,em,v⟩:=f.is;subst em;have K:=J v;clear f y l v;by_cases a:m=0
  ·have g2:decide (0<((ax m).length:Int))=false:=by rw[decide_eq_false_iff_not];have:=bR.2 a;omega
   have g3:decide (0<(ax m).length)=false:=by rw[decide_eq_false_iff_not];have:=bR.2 a;omega
   have g4:((ax m).length:Int)<=0:=by have:=bR.2 a;omega
   have HT:=J (show t=D by have:=p.out;rwa[H6,if_pos a]at this);clear a
   go_wp2
   go_ret
   exact⟨by rw[O.out,<-HT.out];rfl,r.out⟩
  have a1:0<(ax m).length:=by
   rcases M1 (ax m).length with h|h
   ·exact absurd (bR.1 h) a
   exact h
  have n:=J (Fj a t);have H:m%10<10:=Ni _ (by decide);have P:=J a;clear a
  go_wp2_with fail
  refine(JJ K.out u).mono ?_;rintro e L ⟨v4,S,F,k⟩;have G:NumIn w L v4 (m/10):=OwnN.base_le F j;have z:=J G;have M:=J (aE r.out k j);have Q:w.heap.size<=L.heap.size:=Ma j k.size;obtain⟨q,R⟩:∃q,m%10=q:=⟨_,rfl⟩;rw[R]at S H n;subst S;clear F G k R;have W:=EH (48+(q:Int)) (UInt8.ofNat (48+q)) (by rw[fm q H];omega) L
  go_wp2
  go_roundw
  case rel=>
   refine⟨m/10,UInt8.ofNat (48+q)::t,z.out.below ((Below.refl _ _).alloc (L4 _) _),?_,by rw[<-n.out];exact p.out,Ma (a7 (NT _ _)) u,?_,M.out.alloc Q _⟩
   ·have:=kE [UInt8.ofNat (48+q)] t;simpa using this
   have g:=H7 (m/10) (UInt8.ofNat (48+q)::t);rw[<-n.out,p.out]at g;exact g
  case measure=>
   have g:=(z.out.below ((Below.refl _ _).alloc (L4 _) (.cells #[.int .u8 (48+(q:Int))] 5))).num;rw[g,HM.out];have:=P.out;omega
theorem kV(n:Nat)(w:World)(x:n<18446744073709551616):Calls Tryz.prog 102 #[.int .u64 n] w (NatPost n w):=by
 have o:ay [n%4294967296,n/4294967296]=n:=by simp only[ay];omega
 have c:Digs [n%4294967296,n/4294967296]:=fun d c=>by
  simp only[Mi,Nf,or_false]at c;rcases c with rfl|rfl<;>omega
 obtain⟨W,m,a,g,k⟩:=ri w 50 #[.int .u32 ((n:Int)%4294967296),.int .u32 ((n:Int)/4294967296)];have p:IsN W (some ⟨w.heap.size,0,none⟩) 2 [n%4294967296,n/4294967296]:=by
  refine⟨fun _=>⟨w.heap.size,0,Z,by omega,fun j u v=>?_⟩,fun e=>(by cases e),by simp,by omega,c⟩;rw[MT,g.cell j,<-v];simp[cA]
 have b:=J (dN (some ⟨w.heap.size,0,none⟩) 2 [n%4294967296,n/4294967296] W p (by simp));rw[o]at b;have s:=J m;have r:=J a;have q:=a.size;clear o c p m a g k
 go_enter Tryz.func102,Tryz.ntmps102
 go_wp2_with fail
 rw[s.out];refine b.out.mono ?_;rintro e y ⟨t,rfl,f,h⟩;have i:=J (f.base_le q);have l:=J (r.out.trans (h.mono q));clear f h
 go_wp2
 go_ret
 exact⟨t,Z,i.out,l.out⟩
theorem KO{P:Program}{f:FuncId}{w:World}{n:Nat}{x:Int}(h:x=(n:Int))(a:Calls P f #[.int .u64 (n:Int)] w (NatPost n w)):Calls P f #[.int .u64 x] w (NatPost n w):=by subst h;exact a
theorem sr(n:Int)(w:World)(k: -9223372036854775808<=n)(l:n<=9223372036854775807):Calls Tryz.prog 162 #[.int .i64 n] w (NatPost n.natAbs w):=by
 have g:=J (fun w=>kV n.natAbs w (by omega));by_cases j:n<0
 ·go_enter Tryz.func162,Tryz.ntmps162
  go_wp2_with fail
  refine(KO (n:=n.natAbs) (by omega) (g.out _)).mono ?_;rintro e h ⟨f,rfl,a,b⟩;have d:=J a;have c:=J b;clear a b
  go_wp2
  go_ret
  exact⟨f,Z,d.out,c.out⟩
 have i:0<=n:=by omega
 go_enter Tryz.func162,Tryz.ntmps162
 go_wp2_with fail
 refine(KO (n:=n.natAbs) (by omega) (g.out _)).mono ?_;rintro e h ⟨f,rfl,a,b⟩;have d:=J a;have c:=J b;clear a b
 go_wp2
 go_ret
 exact⟨f,Z,d.out,c.out⟩
theorem LG{wr:World}{A B:Option Addr}{c d m n:Nat}(h:IsN wr A c (ax m))(b:IsN wr B d (ax n))(e:(ax m).length<=1048576)(a:(ax n).length<=1048576):Calls Tryz.prog 174 #[.slice A (ax m).length c,.slice B (ax n).length d] wr (NatPost (Nat.gcd m n) wr):=by
 have:=H2 A B c d (ax m) (ax n) wr h b (by omega) (by omega);rwa[aO,aO]at this
theorem KP{wr:World}{A B:Option Addr}{c d m n:Nat}(h:IsN wr A c (ax m))(b:IsN wr B d (ax n))(f:(ax m).length<=1048576)(a:(ax n).length<=1048576)(e:0<n):Calls Tryz.prog 175 #[.slice A (ax m).length c,.slice B (ax n).length d] wr (BZ m n wr):=by
 have:=z8 A B c d (ax m) (ax n) wr h b (by omega) (by omega) (by rw[aO];exact e);rwa[aO,aO]at this
def IsD(W:World)(v:Value)(n:Nat):Prop:=∃A c,v=.slice A (ax n).length c/\IsN W A c (ax n)
theorem IsD.below{W W':World}{v:Value}{n:Nat}(h:IsD W v n)(a:Below W.heap.size W W'):IsD W' v n:=by
 obtain⟨A,c,e,b⟩:=h;exact⟨A,c,e,b.below a⟩
def kW(ng:Bool)(N D:Nat)(w:World)(e:Ending)(w':World):Prop:=∃vn vd,e=.returned (.agg #[.bool ng,vn,vd])/\OwnN w' w.heap.size vn (ax N)/\OwnN w' w.heap.size vd (ax D)/\Below w.heap.size w w'
theorem su(k:Bool)(A B:Option Addr)(ca cb X Y:Nat)(w:World)(hA:IsN w A ca (ax X))(hB:IsN w B cb (ax Y))(q:(ax X).length<=1048576)(C:(ax Y).length<=1048576)(hY:0<Y):
  Calls Tryz.prog 110 #[.bool k,.slice A (ax X).length ca,.slice B (ax Y).length cb] w (kW (k&&decide (X≠0)) (X/Nat.gcd X Y) (Y/Nat.gcd X Y) w):=by
 have HA:=J hA;have HB:=J hB;clear hA hB;obtain⟨W,hW,D,L,c0⟩:=ri w 65 #[.bool false,.slice none 0 0,.slice none 0 0];have HW:=J hW;have t:=J D;have S:=J L;have H:=D.size;have e7:w.heap.size<W.heap.size:=by omega
 clear hW D L c0;have a0:0<Nat.gcd X Y:=Nat.gcd_pos_of_pos_right _ hY;have e1:Nat.gcd X Y<=Y:=Nat.gcd_le_right _ hY;have I:X/Nat.gcd X Y=0↔X=0:=by
  constructor
  ·intro h;have i:=O8 (Nat.gcd_dvd_left X Y);rw[h]at i;omega
  intro h;rw[h];simp
 have O:Y/Nat.gcd X Y≠0:=by
  intro h;have i:=O8 (Nat.gcd_dvd_right X Y);rw[h]at i;omega
 have f0:(ax (X/Nat.gcd X Y)).length<=1048576:=Ma (a7 (NT _ _)) q;have U:(ax (Nat.gcd X Y)).length<=1048576:=Ma (a7 e1) C;generalize hg:Nat.gcd X Y=g at*;have u:=J I;have e6:=J O;have F:=J hg;clear I O hg
 go_enter Tryz.func110,Tryz.ntmps110
 go_wp2_with fail
 rw[HW.out];refine(LG (HA.out.below t.out) (HB.out.below t.out) q C).mono ?_;intro e w1 i;rw[F.out]at i;obtain⟨A1,c1,rfl,a5,d⟩:=i.open_;have a3:=J a5;have a4:=J (aE t.out d H);have G:w.heap.size<=w1.heap.size:=Ma H d.size;have M:w.heap.size<w1.heap.size:=Mj e7 d.size;have N:=J (S.out.below d S.out.lt);clear i a5 d
 go_wp2_with fail
 refine(KP (HA.out.below a4.out) a3.out q U a0).mono ?_;rintro e w2 ⟨q2,r2,rfl,o,c5,b⟩;obtain⟨A2,c2,e2,Q⟩:=o.is (bZ _);subst e2;have f4:=J Q;have V:=J (aE a4.out b G);have T:w.heap.size<=w2.heap.size:=Ma G b.size;have a1:=J (N.out.below b N.out.lt);have K:=J (a3.out.below b);have b1:=J (o.base_le (Ph M));have P:w.heap.size<w2.heap.size:=Mj M b.size;clear o c5 Q b
 go_wp2_with fail
 refine(KP (HB.out.below V.out) K.out C U a0).mono ?_;rintro e w3 ⟨q3,r3,rfl,p,b2,a⟩;obtain⟨A3,c3,e3,E⟩:=p.is (bZ _);subst e3;have f5:=J E;have a2:=J (aE V.out a T);have e0:w.heap.size<=w3.heap.size:=Ma T a.size;have l:=J (a1.out.below a a1.out.lt);have m:=J (b1.out.below a);have R:=J (p.base_le (Ph P));have b3:w.heap.size<w3.heap.size:=Mj P a.size;clear p b2 E a;have f7:(((ax (Y/g)).length:Int)==0)=false:=by rw[beq_eq_false_iff_ne];intro h;exact e6.out (bR.1 (by omega))
 by_cases c:X=0
 ·have f:=J c;have g1:(((ax (X/g)).length:Int)==0)=true:=by rw[beq_iff_eq];have:=bR.2 (u.out.2 c);omega
  clear c
  go_wp2_with fail
  refine(kV 1 _ (by omega)).mono ?_;rintro e w4 ⟨v4,rfl,s,z⟩;have b0:=J (s.base_le (Ph b3));have b5:=J (aE a2.out z e0);have a9:=J (l.out.below z l.out.lt);obtain⟨y,x,d3,f1,f2,f3⟩:=a9.out.three;obtain⟨A4,c4,e4,_⟩:=s.is (bZ 1);subst e4;clear s z
  go_wp2
  clear y x d3 f1 f2 f3;obtain⟨w6,h6,r,n,e5,j⟩:=ec a9.out (.bool false) (.slice none 0 0) (.slice A4 (ax 1).length c4);rw[h6];obtain⟨d0,y,x,_,_,_⟩:=r.three;have e9:OwnN w6 (w.heap.size+1) (.slice A4 (ax 1).length c4) (ax 1):=fc b0.out (iR b0.out (OY _)) j;refine bodyPost_ret (v:=.agg #[.bool false,.slice none 0 0,.slice A4 (ax 1).length c4]) (by simp[results,Tryz.results110,go_sem,d0,y,x]) Z ⟨.slice none 0 0,.slice A4 (ax 1).length c4,by rw[f.out];simp,?_,?_,b5.out.trans n⟩
  ·rw[u.out.2 f.out];exact OwnN.nil _ _
  have e:Y/g=1:=by
   have i:=F.out;rw[f.out,PN]at i;rw[<-i];exact Nat.div_self hY
  rw[e];exact e9.base_le (Qy _)
 have f:=J c;have g1:(((ax (X/g)).length:Int)==0)=false:=by rw[beq_eq_false_iff_ne];intro h;exact c (u.out.1 (bR.1 (by omega)))
 clear c;obtain⟨y,x,d3,f1,f2,f3⟩:=l.out.three
 go_wp2
 clear y x d3 f1 f2 f3;obtain⟨w6,h6,r,n,e5,j⟩:=ec l.out (.bool k) (.slice A2 (ax (X/g)).length c2) (.slice A3 (ax (Y/g)).length c3);rw[h6];obtain⟨d0,y,x,_,_,_⟩:=r.three;have c9:OwnN w6 (w.heap.size+1) (.slice A2 (ax (X/g)).length c2) (ax (X/g)):=fc m.out (iR m.out (OY _)) j;have d4:OwnN w6 (w.heap.size+1) (.slice A3 (ax (Y/g)).length c3) (ax (Y/g)):=fc R.out (iR R.out (OY _)) j;refine bodyPost_ret (v:=.agg #[.bool k,.slice A2 (ax (X/g)).length c2,.slice A3 (ax (Y/g)).length c3]) (by simp[results,Tryz.results110,go_sem,d0,y,x]) Z ⟨_,_,?_,c9.base_le (Qy _),d4.base_le (Qy _),a2.out.trans n⟩;have hx:=f.out;simp[hx]
theorem oZ(a:Bool)(A B:Option Addr)(q r X Y:Nat)(w:World)(N:IsN w A q (ax X))(R:IsN w B r (ax Y))(F:(ax X).length<=1048576)(z:(ax Y).length<=1048576)(U:0<Y):
  Calls Tryz.prog 48 #[.agg #[.bool a,.slice A (ax X).length q,.slice B (ax Y).length r]] w (kW (a&&decide (X≠0)) (X/Nat.gcd X Y) (Y/Nat.gcd X Y) w):=by
 have HA:=J N;have S:=J R;clear N R;obtain⟨W,I,g,s,b,u⟩:=t6 w 65 65 #[.bool a,.slice A (ax X).length q,.slice B (ax Y).length r] #[.bool false,.slice none 0 0,.slice none 0 0];have HW:=J I;have c:=J g;have n:=J b;have f:=g.size;have m:w.heap.size+1<W.heap.size:=by omega
 clear I g s b u;have E:=J (su a A B q r X Y W (HA.out.below c.out) (S.out.below c.out) F z U)
 go_enter Tryz.func48,Tryz.ntmps48
 go_wp2_with fail
 rw[HW.out];refine E.out.mono ?_;rintro e w1 ⟨vn,vd,rfl,d,h,i⟩;obtain⟨P,L,en,_⟩:=d.is (bZ _);obtain⟨Q,K,ed,_⟩:=h.is (bZ _);subst en ed;have o:=J d;have k:=J h;have C:=J (aE c.out i f);have p:=J (n.out.below i n.out.lt);obtain⟨G,t,T,f1,f2,f3⟩:=p.out.three;clear d h i
 go_wp2
 clear G t T f1 f2 f3;obtain⟨w6,O,H,x,V,j⟩:=ec p.out (.bool (a&&decide (X≠0))) (.slice P (ax (X/Nat.gcd X Y)).length L) (.slice Q (ax (Y/Nat.gcd X Y)).length K);first
  |rw[O]
  |(have M:=O;simp only[ne_eq,decide_not]at M;rw[M])
 obtain⟨d0,G,t,_,_,_⟩:=H.three;have y:=fc o.out (iR o.out m) j;have D:=fc k.out (iR k.out m) j;exact bodyPost_ret (v:=.agg #[.bool (a&&decide (X≠0)),.slice P (ax (X/Nat.gcd X Y)).length L,.slice Q (ax (Y/Nat.gcd X Y)).length K]) (by simp[results,Tryz.results48,go_sem,d0,G,t]) Z ⟨_,_,Z,OwnN.base_le (l:=ax (X/Nat.gcd X Y)) y f,OwnN.base_le (l:=ax (Y/Nat.gcd X Y)) D f,C.out.trans (x.mono (by omega))⟩
def Dh(ng:Bool)(N D:Nat)(w:World)(e:Ending)(w':World):Prop:=∃vn vd,e=.returned (.tuple #[.agg #[.bool ng,vn,vd],.int .i64 0])/\OwnN w' w.heap.size vn (ax N)/\OwnN w' w.heap.size vd (ax D)/\Below w.heap.size w w'
theorem B5(n:Int)(a: -9223372036854775808<=n)(b:n<=9223372036854775807):(ax n.natAbs).length<=2:=a8 (by
 have:(4294967296^2:Nat)=18446744073709551616:=by decide
 omega)
theorem lH:(ax 1).length<=1:=a8 (by decide)
theorem kX{ng:Bool}{X:Nat}(h:ng=true->X≠0):(ng&&decide (X≠0))=ng/\X/Nat.gcd X 1=X/\1/Nat.gcd X 1=1:=by
 refine⟨?_,by simp,by simp⟩;cases ng with
 |false=>rfl
 |true=>simp[h Z]
theorem Ac{ng:Bool}{A B:Option Addr}{c b X:Nat}{w:World}(d:IsN w A c (ax X))(e:IsN w B b (ax 1))(a:(ax X).length<=1048576)(h:ng=true->X≠0):Calls Tryz.prog 110 #[.bool ng,.slice A (ax X).length c,.slice B (ax 1).length b] w (kW ng X 1 w):=by
 have:=su ng A B c b X 1 w d e a (by have:=lH;omega) (by decide);rwa[(kX h).1,(kX h).2.1,(kX h).2.2]at this
theorem Ae{ng:Bool}{A B:Option Addr}{c b X:Nat}{w:World}(d:IsN w A c (ax X))(e:IsN w B b (ax 1))(a:(ax X).length<=1048576)(h:ng=true->X≠0):Calls Tryz.prog 48 #[.agg #[.bool ng,.slice A (ax X).length c,.slice B (ax 1).length b]] w (kW ng X 1 w):=by
 have:=oZ ng A B c b X 1 w d e a (by have:=lH;omega) (by decide);rwa[(kX h).1,(kX h).2.1,(kX h).2.2]at this
theorem xQ(n:Int)(w:World)(h0: -9223372036854775808<=n)(q:n<=9223372036854775807):
  Calls Tryz.prog 94 #[.int .i64 n,.int .i64 1] w (Dh (decide (n<0)) n.natAbs 1 w):=by
 obtain⟨W,Y,g,p,M⟩:=ri w 65 #[.bool false,.slice none 0 0,.slice none 0 0];have HW:=J Y;have G:=J g;have C:=J p;have y:=g.size;have O:w.heap.size<W.heap.size:=by omega
 clear Y g p M;have hl:=B5 n h0 q;have a2:=lH;obtain⟨ng,P⟩:∃ng,decide (n<0)=ng:=⟨_,rfl⟩;have s:=J P;have a0:(ng !=false)=ng:=by cases ng<;>rfl
 go_enter Tryz.func94,Tryz.ntmps94
 go_wp2_with fail
 rw[HW.out];refine(sr n _ h0 q).mono ?_;intro e w1 u;obtain⟨A1,c1,rfl,z,b⟩:=u.open_;have K:=J z;have S:=J (aE G.out b y);have t:w.heap.size<=w1.heap.size:=Ma y b.size;have N:w.heap.size<w1.heap.size:=Mj O b.size;have F:=J (C.out.below b C.out.lt);clear u z b
 go_wp2_with fail
 refine(sr 1 _ (by omega) (by omega)).mono ?_;intro e w2 u;obtain⟨A2,c2,rfl,A,a⟩:=u.open_;have r:=J A;have m:=J (K.out.below a);have V:=J (aE S.out a t);have f:w.heap.size<=w2.heap.size:=Ma t a.size;have o:w.heap.size<w2.heap.size:=Mj N a.size;have j:=J (F.out.below a F.out.lt);clear u A a;have E:(1:Int).natAbs=1:=rfl;rw[E]at r⊢;clear E;have R:=J (show ng=true->n.natAbs≠0 from fun h=>by
  have q:=s.out;rw[h]at q;simp at q;omega)
 go_wp2_with fail
 refine(Ac m.out r.out (by omega) R.out).mono ?_;rintro e w3 ⟨vn,vd,rfl,d,i,c⟩;obtain⟨An,cn,en,_⟩:=d.is (bZ _);obtain⟨Ad,cd,ed,_⟩:=i.is (bZ _);subst en ed;have D:=J d;have x:=J i;have H:=J (aE V.out c f);have B:=J (j.out.below c j.out.lt);obtain⟨X,I,d3,f1,f2,f3⟩:=B.out.three;clear d i c
 go_wp2
 clear X I d3 f1 f2 f3;obtain⟨w6,h6,U,L,a1,k⟩:=ec B.out (.bool ng) (.slice An (ax n.natAbs).length cn) (.slice Ad (ax 1).length cd);rw[h6];obtain⟨d0,X,I,_,_,_⟩:=U.three;have Q:=fc D.out (iR D.out o) k;have T:=fc x.out (iR x.out o) k;exact bodyPost_ret (v:=.tuple #[.agg #[.bool ng,.slice An (ax n.natAbs).length cn,.slice Ad (ax 1).length cd],.int .i64 0]) (by simp[results,Tryz.results94,go_sem,d0,X,I]) Z ⟨_,_,by rw[s.out],OwnN.base_le (l:=ax n.natAbs) Q f,OwnN.base_le (l:=ax 1) T f,H.out.trans L⟩
end Go.Proofs.YtfoejfohbkmmeaaGreatDoor
namespace Go.Proofs.YtfoejfohbkmmeaaGreatDoor
open Go.RowKit
structure Rd (α:Type) where
 size:Nat
 rd:World->List Value->α->Prop
 len:∀{w cs a},rd w cs a->cs.length=size
 keep:∀{w w' cs a},rd w cs a->Below w.heap.size w w'->rd w' cs a
 one:∀{w cs a},rd w cs a->∀u∈cs,u.oneCell'=true
inductive Reads {α:Type} (R:Rd α) (W:World):List Value->List α->Prop
 |nil:Reads R W [] []
 |cons {cs xs:List Value} {a:α} {l:List α} (h:R.rd W cs a) (hs:Reads R W xs l):Reads R W (cs++xs) (a::l)
variable {α:Type} {R:Rd α}
def gF(K:World->Value->Prop)(w:World)(e:Ending)(w':World):Prop:=∃v,e=.returned v/\K w' v/\Below w.heap.size w w'
end Go.Proofs.YtfoejfohbkmmeaaGreatDoor
namespace Go.Proofs.YtfoejfohbkmmeaaGreatDoor
open Go.RowKit
open Lib renaming hid→J
theorem IsD.open_{W:World}{v:Value}{n:Nat}(h:IsD W v n):∃A c a,v=.slice A a.length c/\IsN W A c a/\Hid (a=ax n):=by
 obtain⟨A,c,e,b⟩:=h;exact⟨A,c,ax n,e,b,Z⟩
theorem IsN.isD{W:World}{A:Option Addr}{c n:Nat}{a:List Nat}(h:IsN W A c a)(b:a=ax n):IsD W (.slice A a.length c) n:=by subst b;exact⟨A,c,Z,h⟩
theorem OwnN.isD{W:World}{base:Nat}{v:Value}{n:Nat}(h:OwnN W base v (ax n)):IsD W v n:=h.is (bZ n)
theorem IsN.cut{W:World}{A:Option Addr}{c k:Nat}{a:List Nat}(h:IsN W A c a)(i:k<=a.length)(f:a.take k=ax (ay a))(b:A=none->k=0):IsD W (.slice A k k) (ay a):=by
 have d:(ax (ay a)).length=k:=by rw[<-f,Mf];omega
 have j:=h.cap;have g:=h.max;refine⟨A,k,by rw[d],?_,fun e=>⟨by rw[d];exact b e,b e⟩,by omega,by omega,bZ _⟩;have:=h.at_.takeN k;rwa[f]at this
theorem IsN.nz{W:World}{A:Option Addr}{c:Nat}{a:List Nat}(h:IsN W A c a)(d:0<a.length):∃b off,A=some ⟨b,off,none⟩:=by
 obtain⟨b,off,e,_⟩:=h.digit d;exact⟨b,off,e⟩
theorem sv(A:Option Addr)(c:Nat)(f:List Nat)(w:World)(h:IsN w A c f)(_hl:f.length<=1073741823):
  Calls Tryz.prog 193 #[.slice A f.length c] w (gF (fun W v=>IsD W v (ay f)) w):=by
 have m:=J h;have C:=h.cap;have y:=h.max;clear h
 go_enter Tryz.func193,Tryz.ntmps193
 go_wp2
 go_loop [3] (fun i=>∃k:Nat,k<=f.length/\i=.int .i64 k/\(∀(j:Nat) (q:j<f.length),k<=j->f[j]=0)) (fun i=>(intOf i).toNat)
 case atStart=>exact⟨f.length,L4 _,Z,fun j q h=>by omega⟩
 case round=>
  obtain⟨k,n,rfl,x⟩:=hrel;have u:=J x;clear x;have g:(k=0\/∃h:k-1<f.length,f[k-1]≠0)->f.take k=ax (ay f):=fun s=>ux f k n m.out.ok u.out s
  have t:=J g;clear g;by_cases F:0<k
  ·obtain⟨b,off,rfl,G,z⟩:=m.out.digit (i:=k-1) (by omega);have r:=z (k-1) (by omega);obtain⟨d,p⟩:∃d,f[k-1]'(by omega)=d:=⟨_,rfl⟩;rw[p]at r;have B:=J p;clear z p;by_cases l:d=0
   ·subst l
    go_wp2
    go_round
    case rel=>
     refine⟨k-1,by omega,by go_num,fun j q h=>?_⟩;by_cases e:j=k-1
     ·subst e;exact B.out
     exact u.out j q (by omega)
    case measure=>simp[intOf];omega
   have o:=J (t.out (.inr ⟨by omega,by rw[B.out];exact l⟩));have E:((d:Int)==0)=false:=by simpa using l
   go_wp2
   go_ret
   exact⟨_,Z,m.out.cut n o.out (fun e=>by cases e),Below.refl _ _⟩
  obtain rfl:k=0:=by omega
  have o:=J (t.out (.inl Z));cases A with
  |none=>
   obtain⟨D,rfl⟩:=m.out.nil rfl
   go_wp2
   go_ret
   exact⟨_,Z,m.out.cut n o.out (fun _=>rfl),Below.refl _ _⟩
  |some a=>
   go_wp2
   go_ret
   exact⟨_,Z,m.out.cut n o.out (fun _=>rfl),Below.refl _ _⟩
theorem kY{v:Value}{n:Nat}{w:World}(h:IsD w v n)(a:(ax n).length<=1073741823):Calls Tryz.prog 193 #[v] w (gF (fun W v=>IsD W v n) w):=by
 obtain⟨A,c,rfl,b⟩:=h;have:=sv A c (ax n) w b a;rwa[aO]at this
theorem qc(n:Nat)(w:World)(y:n<18446744073709551616):Calls Tryz.prog 149 #[.int .u64 n] w (gF (fun W v=>IsD W v n) w):=by
 have o:ay [n%4294967296,n/4294967296]=n:=by simp only[ay];omega
 have c:Digs [n%4294967296,n/4294967296]:=fun d c=>by
  simp only[Mi,Nf,or_false]at c;rcases c with rfl|rfl<;>omega
 obtain⟨W,m,a,g,k⟩:=ri w 50 #[.int .u32 ((n:Int)%4294967296),.int .u32 ((n:Int)/4294967296)];have p:IsN W (some ⟨w.heap.size,0,none⟩) 2 [n%4294967296,n/4294967296]:=by
  refine⟨fun _=>⟨w.heap.size,0,Z,by omega,fun j u t=>?_⟩,fun e=>(by cases e),by simp,by omega,c⟩;rw[MT,g.cell j,<-t];simp[cA]
 have b:=J (sv (some ⟨w.heap.size,0,none⟩) 2 [n%4294967296,n/4294967296] W p (by simp));rw[o]at b;have r:=J m;have q:=J a;have x:=a.size;clear o c p m a g k
 go_enter Tryz.func149,Tryz.ntmps149
 go_wp2_with fail
 rw[r.out];refine b.out.mono ?_;rintro e z ⟨s,rfl,f,h⟩;have i:=J f;have l:=J (q.out.trans (h.mono x));clear f h
 go_wp2
 go_ret
 exact⟨s,Z,i.out,l.out⟩
theorem Di{W:World}{g:Nat}{cur:List Value}{A:Option Addr}{c:Nat}{a:List Nat}(d:W.heap[g]? =some (.cells cur.toArray 50 (0,0)))(f:cur.length=a.length)(j:IsN W A c a):
  ∃w',(∀ty,(Builtin.copy_ #[63,63] ty #[.slice (some ⟨g,0,none⟩) a.length a.length,.slice A a.length c]).run Tryz.prog W=.ok (.int .i64 (a.length:Nat)) w')/\w'.heap[g]? =some (.cells (cA a).toArray 50 (0,0))/\Below g W w':=by
 have h:=Tryz.underlying63;have i:(Tryz.prog.info? 50).map (·.size)=some 1:=by kernel_rfl
 by_cases k:a.length=0
 ·obtain rfl:a=[]:=Mr k;obtain rfl:cur=[]:=Mr f;exact⟨W,fun ty=>by simpa[goInt]using run_copy_none (P:=Tryz.prog) W 63 63 ty _ (some ⟨g,0,none⟩) A 0 0 0 c h i Z,by simpa[cA]using d,Below.refl _ _⟩
 obtain⟨b,off,rfl⟩:=j.nz (by omega);have l:=fun ty=>run_copy_row (P:=Tryz.prog) W 63 63 ty _ g 0 a.length a.length ⟨b,off,none⟩ a.length c cur.toArray _ (cA a) h i d (by rw[dn];simp) j.at_.news (by rw[dn];simp;omega) (r9 _)
 have e:((cur.toArray.toList.take 0++cA a)++cur.toArray.toList.drop (0+(cA a).length))=cA a:=by
  rw[Md (by rw[dn];simp;omega)];simp
 exact⟨W.setRow g (cA a).toArray,fun ty=>by rw[l ty,e,dn];rfl,setRow_heap W g _ _ _ _ d,below_setRow (Below.refl _ _) (L4 _) _⟩
theorem B6{v:Value}{n:Nat}{w:World}(h:IsD w v n)(L:(ax n).length<=1073741823):Calls Tryz.prog 172 #[v] w (gF (fun W v=>IsD W v n) w):=by
 have M:=J (kY h L);obtain⟨V,c0,rfl,_⟩:=h
 go_enter Tryz.func172,Tryz.ntmps172
 go_wp2_with fail
 refine M.out.mono ?_;rintro e z ⟨X,rfl,p,b⟩;obtain⟨A1,Y,I,rfl,r,x⟩:=p.open_;have P:I.length<=1073741823:=by have:=x.out;rw[this];exact L
 have i:=J r;have G:=J b;have m:=b.size;clear p r b;obtain⟨W,l,q,s,o⟩:=eO z I.length (by omega);have l:=l .i64 .i64;have A:=J q;have c:=J s;have N:=J o;clear q s o;obtain⟨cur,a,E⟩:∃cur:List Value,W.heap[z.heap.size]? =some (.cells cur.toArray 50 (0,0))/\cur.length=I.length:=by
  rcases A.out.2 with⟨C,_⟩|⟨g,R,cur,C,_,Q,_,_,K,_⟩
  ·cases C
  injection C with k U T
  injection k with k
  injection k with k
  subst k T;refine⟨cur.toList,by simpa using Q,?_⟩;simpa using K
 have F:=J a;clear a;have D:=J (i.out.below c.out);obtain⟨O,y,f,d⟩:=Di F.out E D.out;have y:=y 3;have H:=J f;have B:=J ((aE G.out c.out m).trans (d.mono m));clear f d
 go_wp2
 go_ret
 refine⟨_,Z,?_,B.out⟩;refine IsN.isD (n:=n) ?_ x.out;have t:=H.out;refine⟨fun _=>⟨z.heap.size,0,Z,(MD.1 t).1,fun j u S=>?_⟩,fun e=>(by cases e),L4 _,by omega,i.out.ok⟩;rw[cell_of_row O z.heap.size (0+j) _ _ _ t];simpa using S
end Go.Proofs.YtfoejfohbkmmeaaGreatDoor
