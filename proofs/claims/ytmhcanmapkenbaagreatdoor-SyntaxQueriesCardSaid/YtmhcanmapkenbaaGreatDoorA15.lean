import Derived.Test.YtmhcanmapkenbaaGreatDoorA14
set_option maxRecDepth 100000
set_option maxHeartbeats 2000000
set_option linter.defProp false
open Go.Proofs.Tryz
namespace Go.Proofs.YtmhcanmapkenbaaGreatDoor
open Go.RowKit
open Lib renaming hid→J
def B0:List UInt8->List UInt8
 |[]=>[]
 |[_]=>[]
 |c::d::r=>if c=39 then c::B0 r else c::B0 (d::r)
def B1:∀(e:List UInt8),B0 (gG e++[39])=e
 |[]=>rfl
 |c::l=>by
  have b:=B1 l;by_cases a:c=39
  ·subst a;simp only[gG,if_true,Rj,B0];rw[b]
  simp only[gG,if_neg a,Rj];cases h:gG l++[39]with
  |nil=>simp at h
  |cons d r=>rw[B0,if_neg a,<-h,b]
def xN{l:List UInt8}{i:Nat}(h:i+1<l.length):B0 (l.drop i)=if l[i]=39 then l[i]::B0 (l.drop (i+2))else l[i]::B0 (l.drop (i+1)):=by
 rw[Q3 (show i<l.length by omega),Q3 h,B0]
def JA{l:List UInt8}{i:Nat}(h:¬i+1<l.length):B0 (l.drop i)=[]:=by
 have hl:(l.drop i).length<=1:=by rw[QZ];omega
 cases hd:l.drop i with
 |nil=>rfl
 |cons c r=>
  cases r with
  |nil=>rfl
  |cons d r=>rw[hd]at hl;simp at hl
def Lt(t n:Int)(st:ByteArray)(l:List UInt8)(w:World)(e:Ending)(w':World):Prop:=
 (cH t n st=l->e=.returned (.tuple #[.agg #[.int .i64 t,.int .i64 n,.string st],.bool true]))/\(cH t n st≠l->e=.returned (.tuple #[.agg #[.int .i64 0,.int .i64 0,.string ⟨#[]⟩],.bool false]))/\Below w.heap.size w w'
def My(w:World)(l:List UInt8)(i:Value)(wr:World):Prop:=∃(k:Nat) (acc:List UInt8),i=.int .i64 k/\1<=k/\k<=l.length+1/\acc.length<=k/\B0 (l.drop 1)=acc++B0 (l.drop k)/\IsBlk wr (w.heap.size+1) 34 #[.int .i64 2,.int .i64 0,.string ⟨acc.toArray⟩]/\IsBlk wr w.heap.size 34 #[.int .i64 0,.int .i64 0,.string ⟨#[]⟩]/\Below w.heap.size w wr
def rX(s:ByteArray)(w:World)(h:130<s.size\/s.size=0)(a:s.size<=9223372036854775807):
  Calls prog 275 #[.string s] w λe w'=>e=.returned (.tuple #[.agg #[.int .i64 0,.int .i64 0,.string ⟨#[]⟩],.bool false])/\Below w.heap.size w w':=by
 rcases h with h|h
 ·go_enter func275,ntmps275
  go_wp2
  exact bodyPost_ret (v:=.tuple #[.agg #[.int .i64 0,.int .i64 0,.string ⟨#[]⟩],.bool false]) (by simp[results,results275,go_sem]) Z ⟨Z,(Below.refl _ _).alloc (Qi _) _⟩
 have b:s=⟨#[]⟩:=by
  have:s.data.toList=[]:=QI (by simpa using h);rw[<-kz s,this]
 subst b;clear h a
 go_enter func275,ntmps275
 go_wp2
 exact bodyPost_ret (v:=.tuple #[.agg #[.int .i64 0,.int .i64 0,.string ⟨#[]⟩],.bool false]) (by simp[results,results275,go_sem]) Z ⟨Z,(Below.refl _ _).alloc (Qi _) _⟩
def ot(s g:ByteArray)(w:World)(h0:0<s.size)(b1:s.size<=130)(hq:s[0].toNat=39)(S:B0 (s.data.toList.drop 1)=g.data.toList):
  Calls prog 275 #[.string s] w (Lt 2 0 g s.data.toList w):=by
 have a2:=J S;clear S;have n:s.data.toList.length=s.size:=F
 have R:s.toList.isEmpty=false:=by
  rw[Lib.toList_data];cases h:s.data.toList with
  |nil=>rw[h]at n;simp at n;omega
  |cons a l=>rfl
 have x:s.toList≠ []:=by
  intro e;rw[e]at R;cases R
 have b3:(s.toList== [])=false:=by
  rw[beq_eq_false_iff_ne];exact x
 have c:=J n;clear x n
 go_enter func275,ntmps275
 go_wp2
 obtain⟨W,hW,N,t,u,b0⟩:=tO w 34 34 #[.int .i64 0,.int .i64 0,.string ⟨#[]⟩] #[.int .i64 2,.int .i64 0,.string ⟨#[]⟩];first
  |rw[hW]
  |(go_outline;fail)
 have a0:=J N;have f:=J t;have b:=J u;clear hW N t u b0;obtain⟨l,hl⟩:∃l,s.data.toList=l:=⟨_,Z⟩;have HL:=J hl;rw[hl]at c;clear hl
 go_loopw [5] (λi wr=>My w l i wr) (λi _=>200-(intOf i).toNat)
 case atStart=>exact⟨1,[],Z,O,O,F,F,b.out,f.out,a0.out⟩
 case round=>
  obtain⟨k,acc,rfl,b5,c3,b4,y,B,Q,P⟩:=hrel;have V:=J y;have b:=J B;have f:=J Q;have j:=J P;obtain⟨o,q,r,G,H,I⟩:=B.three;have b2:l.length<=130:=by have:=c.out;omega
  clear y B Q P;by_cases c4:k+1<s.size
  ·have L:=J (vM s k O)
   go_wp2
   have q1:IntKind.i64.wrap ((k:Int)+1)=(k:Int)+1:=IntWalk.i64_in _ O;have q2:(0:Int)<=(k:Int)+1:=O
   have q3:((k:Int)+1).toNat=k+1:=O
   have q4:(k:Int)+1<=(s.size:Int):=O
   have q5:(k:Int)<=(k:Int)+1:=O
   have q6:¬9223372036854775807<acc.length+(min (k+1) s.size-k):=O
   refine wp_region_still_tail 9 U U ?_;simp only[RU,Tb,S7,Tc];change wpStill _ _ wr.drew _ _ _;iterate 9 still_step
   refine wpStill_nil ?_;clear q1 q2 q3 q4 q5 q6;by_cases M:s[k].toNat=39
   ·go_wp2
    have E:=b.out.put 2 (.string (⟨acc.toArray⟩++s.extract k (k+1)));refine⟨⟨k+2,acc++[s[k]],by congr 1,O,by have:=c.out;omega,by simp;omega,?_,?_,?_,?_⟩,by simp only[intOf];omega⟩
    ·rw[V.out,xN (l:=l) (i:=k) (by have:=c.out;omega)];have:l[k]'(by have:=c.out;omega)=s[k]:=by simp only[<-HL.out];rfl
     rw[this,if_pos (Tv M)];simp
    ·rw[L.out]at E⊢;rw[show(⟨acc.toArray⟩++⟨#[s[k]]⟩:ByteArray)=⟨(acc++[s[k]]).toArray⟩from iY acc [s[k]]]at E⊢;exact E
    ·exact(Below.heap_setCell _ _ _ _ F).trans f.out
    exact(j.out.setCell (p:=⟨w.heap.size+1,2,none⟩) F _).drew
   go_wp2
   have E:=b.out.put 2 (.string (⟨acc.toArray⟩++s.extract k (k+1)));refine⟨⟨k+1,acc++[s[k]],by congr 1,O,by have:=c.out;omega,by simp;omega,?_,?_,?_,?_⟩,by simp only[intOf];omega⟩
   ·rw[V.out,xN (l:=l) (i:=k) (by have:=c.out;omega)];have:l[k]'(by have:=c.out;omega)=s[k]:=by simp only[<-HL.out];rfl
    rw[this,if_neg (λe=>M (by rw[e];rfl))];simp
   ·rw[L.out]at E⊢;rw[show(⟨acc.toArray⟩++⟨#[s[k]]⟩:ByteArray)=⟨(acc++[s[k]]).toArray⟩from iY acc [s[k]]]at E⊢;exact E
   ·exact(Below.heap_setCell _ _ _ _ F).trans f.out
   exact(j.out.setCell (p:=⟨w.heap.size+1,2,none⟩) F _).drew
  clear o q r G H I;have D:acc=g.data.toList:=by rw[<-a2.out,HL.out,V.out,JA (by have:=c.out;omega)];simp
  have T:g.size<=9223372036854775807:=by have:=congrArg List.length D;rw[show g.data.toList.length=g.size by simp]at this;omega
  have a3:=J T;rw[D,kz]at b;clear T V D;obtain⟨X,Y,c2,G,H,I⟩:=b.out.three
  go_wp2_with fail
  clear X Y c2 G H I;refine(i7 2 0 g _ O O a3.out).mono ?_;rintro e w5 ⟨rfl,m⟩;have K:=J (j.out.trans (m.mono j.out.size));have a1:=J (b.out.below m b.out.lt);have z:=J (f.out.below m f.out.lt);clear m f b j;obtain⟨X,Y,c2,G,H,I⟩:=a1.out.three;obtain⟨o,q,r,g0,g1,g2⟩:=z.out.three;by_cases d:cH 2 0 g=s.data.toList
  ·have a4:=mf (cH 2 0 g) s d.symm
   go_wp2
   clear X Y c2 G H I o q r g0 g1 g2;obtain⟨w6,h6,C,A,a9,a5⟩:=dM z.out (.int .i64 2) (.int .i64 0) (.string g);rw[h6];obtain⟨o,q,r,_,_,_⟩:=C.three;exact bodyPost_ret (v:=.tuple #[.agg #[.int .i64 2,.int .i64 0,.string g],.bool true]) (by simp[results,results275,go_sem,o,q,r]) Z ⟨λ_=>rfl,λhn=>absurd d hn,K.out.trans A⟩
  have a4:=pu (cH 2 0 g) s (λe=>d e.symm)
  go_wp2
  clear X Y c2 G H I o q r g0 g1 g2;obtain⟨w6,h6,C,A,a9,a5⟩:=dM z.out (.int .i64 0) (.int .i64 0) (.string ⟨#[]⟩);rw[h6];obtain⟨o,q,r,_,_,_⟩:=C.three;exact bodyPost_ret (v:=.tuple #[.agg #[.int .i64 0,.int .i64 0,.string ⟨#[]⟩],.bool false]) (by simp[results,results275,go_sem,o,q,r]) Z ⟨λhn=>absurd hn d,λ_=>rfl,K.out.trans A⟩
def rY(n:Int)(h: -9223372036854775808<=n/\n<=9223372036854775807):wrap64 n=n:=by unfold wrap64;omega
def kF(a:Int)(b:UInt8):Int:=if 48<=b.toNat/\b.toNat<=57 then wrap64 (wrap64 (10*a)-((b.toNat:Int)-48))else a
def xO(l:List UInt8):Int:=if l.head?≠some 45/\l.foldl kF 0≠ -9223372036854775808 then-l.foldl kF 0 else l.foldl kF 0
def D4(a:Int)(b:UInt8)(h: -9223372036854775808<=a/\a<=9223372036854775807): -9223372036854775808<=kF a b/\kF a b<=9223372036854775807:=by
 unfold kF;split
 ·simp only[wrap64];constructor<;>omega
 exact h
def m9:∀(l:List UInt8) (a:Int),-9223372036854775808<=a/\a<=9223372036854775807-> -9223372036854775808<=l.foldl kF a/\l.foldl kF a<=9223372036854775807
 |[],_,h=>h
 |b::l,a,h=>m9 l _ (D4 a b h)
def nh(l:List UInt8): -9223372036854775808<=xO l/\xO l<=9223372036854775807:=by
 have:=m9 l 0 O;unfold xO;split<;>omega
def rZ(u:Nat)(h:u<=9223372036854775808):(Lib.decDigits u).foldl kF 0= -(u:Int):=by
 induction u using Nat.strongRecOn with
 |ind u ih=>
  have hd:∀(k:Nat),k<10->(48<=(UInt8.ofNat (48+k)).toNat/\(UInt8.ofNat (48+k)).toNat<=57)/\(UInt8.ofNat (48+k)).toNat=48+k:=I
  rw[Lib.decDigits];split
  ·rename_i h10;obtain⟨a,b⟩:=hd u h10;simp only[RY,List.foldl_nil,kF];rw[if_pos a,b,rY (10*0) O,rY _ O];omega
  rename_i h10;obtain⟨a,b⟩:=hd (u%10) (R9 _ I);rw[TV,ih (u/10) O O];simp only[RY,List.foldl_nil,kF];rw[if_pos a,b,rY (10*_) O,rY _ O];omega
def FI(u:Nat):(Lib.decDigits u).head?≠some 45:=by
 induction u using Nat.strongRecOn with
 |ind u ih=>
  have hd:∀(k:Nat),k<10->UInt8.ofNat (48+k)≠45:=I
  rw[Lib.decDigits];split
  ·rename_i h10;simpa using hd u h10
  rename_i h10;have:=ih (u/10) O;cases b:Lib.decDigits (u/10)with
  |nil=>simpa using hd (u%10) (R9 _ I)
  |cons a r=>rw[b]at this;simpa using this
def D5(n:Int)(b: -9223372036854775808<=n)(c:n<=9223372036854775807):xO (Lib.itoa n)=n:=by
 unfold xO Lib.itoa;by_cases h:n<0
 ·rw[if_pos h];have a:kF 0 45=0:=I
  simp only[List.head?_cons,ne_eq,not_true,false_and,if_false,RY];rw[a,rZ _ O];omega
 rw[if_neg h,if_pos ⟨FI _,by rw[rZ _ O];omega⟩,rZ _ O];omega
def Mz(w:World)(l:List UInt8)(i:Value)(wr:World):Prop:=∃(k:Nat) (a:Int),i=.int .i64 k/\k<=l.length/\(l.take k).foldl kF 0=a/\IsBlk wr (w.heap.size+1) 34 #[.int .i64 1,.int .i64 a,.string ⟨#[]⟩]/\IsBlk wr w.heap.size 34 #[.int .i64 0,.int .i64 0,.string ⟨#[]⟩]/\Below w.heap.size w wr
def ur{l:List UInt8}{k:Nat}(h:k<l.length):(l.take (k+1)).foldl kF 0=kF ((l.take k).foldl kF 0) l[k]:=by
 rw[<-List.take_append_getElem h,TV];rfl
def ou(s:ByteArray)(w:World)(n:Int)(h0:0<s.size)(b5:s.size<=130)(hq:s[0].toNat≠39)(G:xO s.data.toList=n):
  Calls prog 275 #[.string s] w (Lt 1 n ⟨#[]⟩ s.data.toList w):=by
 have Y:s.data.toList.length=s.size:=F
 have b2:s.toList.isEmpty=false:=by
  rw[Lib.toList_data];cases h:s.data.toList with
  |nil=>rw[h]at Y;simp at Y;omega
  |cons a l=>rfl
 have a2:s.toList≠ []:=by
  intro e;rw[e]at b2;cases b2
 have c3:(s.toList== [])=false:=by
  rw[beq_eq_false_iff_ne];exact a2
 have y:=J Y;have HN:=J G;have c9:((s[0].toNat:Int)==39)=false:=by rw[beq_eq_false_iff_ne];omega
 clear a2 Y G
 go_enter func275,ntmps275
 go_wp2
 obtain⟨W,hW,b0,a0,a1,b4⟩:=tO w 34 34 #[.int .i64 0,.int .i64 0,.string ⟨#[]⟩] #[.int .i64 1,.int .i64 0,.string ⟨#[]⟩];first
  |rw[hW]
  |(go_outline;fail)
 have b3:=J b0;have f:=J a0;have d:=J a1;clear hW b0 a0 a1 b4;obtain⟨l,hl⟩:∃l,s.data.toList=l:=⟨_,Z⟩;have HL:=J hl;rw[hl]at y;clear hl
 go_loopw [6] (λi wr=>Mz w l i wr) (λi _=>200-(intOf i).toNat)
 case atStart=>exact⟨0,0,Z,O,F,d.out,f.out,b3.out⟩
 case round=>
  obtain⟨k,a,rfl,c4,E,L,K,b1⟩:=hrel;have HU:=J E;have d:=J L;have f:=J K;have g:=J b1;have HA:=J (show-9223372036854775808<=a/\a<=9223372036854775807 by rw[<-E];exact m9 _ 0 O);clear E L K b1;by_cases c5:k<s.size
  ·obtain⟨m,o,q,z,A,B⟩:=d.out.three;by_cases hd:48<=s[k].toNat/\s[k].toNat<=57
   ·have e1:=hd.1;have e2:=hd.2;clear hd
    go_wp2
    have q1:IntKind.u8.wrap ((s[k].toNat:Int)-48)=(s[k].toNat:Int)-48:=IntWalk.u8_in _ O;have q2:IntKind.i64.wrap ((s[k].toNat:Int)-48)=(s[k].toNat:Int)-48:=IntWalk.i64_in _ O;refine wp_region_still_tail 10 U U ?_;simp only[RU,Tb,S7,Tc];change wpStill _ _ wr.drew _ _ _;iterate 10 still_step
    refine wpStill_nil ?_;clear q1 q2
    go_wp2
    have hw:=d.out.put 1 (.int .i64 (wrap64 (wrap64 (10*a)-((s[k].toNat:Int)-48))));refine⟨⟨k+1,_,by congr 1,by have:=y.out;omega,?_,hw,?_,?_⟩,by simp only[intOf];omega⟩
    ·rw[ur (by have:=y.out;omega),HU.out];have:l[k]'(by have:=y.out;omega)=s[k]:=by simp only[<-HL.out];rfl
     rw[this,kF,if_pos ⟨e1,e2⟩]
    ·exact(Below.heap_setCell _ _ _ _ F).trans f.out
    exact(g.out.setCell (p:=⟨w.heap.size+1,1,none⟩) F _).drew
   have HD:=J hd;have a3:¬48<=s[k].toNat\/¬s[k].toNat<=57:=O
   clear hd;rcases a3 with a3|a3
   all_goals
    go_wp2
    refine⟨⟨k+1,a,by congr 1,by have:=y.out;omega,?_,d.out,f.out,g.out⟩,by simp only[intOf];omega⟩;rw[ur (by have:=y.out;omega),HU.out];have:l[k]'(by have:=y.out;omega)=s[k]:=by simp only[<-HL.out];rfl
    rw[this,kF,if_neg HD.out]
  have H:s.data.toList.foldl kF 0=a:=by
   rw[HL.out,<-HU.out,QU (by have:=y.out;omega)]
  have T:s.data.toList.head?=some s[0]:=by
   rw[List.head?_eq_getElem?];exact Qj _
  have HR:=J (show-9223372036854775808<=n/\n<=9223372036854775807 by rw[<-HN.out];exact nh _);have c:=HN.out;unfold xO at c;rw[H,T]at c;obtain⟨m,o,q,z,A,B⟩:=d.out.three;clear H T;by_cases a5:s[0].toNat=45
  ·have D:a=n:=by
    rw[if_neg]at c
    ·exact c
    intro hc;exact hc.1 (congrArg some (Tv a5))
   rw[D]at d;clear c D;clear m o q z A B;obtain⟨M,N,P,z,A,B⟩:=d.out.three
   go_wp2_with fail
   clear M N P z A B;refine(i7 1 n ⟨#[]⟩ _ HR.out.1 HR.out.2 I).mono ?_;rintro e w5 ⟨rfl,j⟩;have x:=J (g.out.trans (j.mono g.out.size));have Q:=J (d.out.below j d.out.lt);have r:=J (f.out.below j f.out.lt);clear j f d g;obtain⟨M,N,P,z,A,B⟩:=Q.out.three;obtain⟨m,o,q,g0,g1,g2⟩:=r.out.three;by_cases b:cH 1 n ⟨#[]⟩=s.data.toList
   ·have S:=mf (cH 1 n ⟨#[]⟩) s b.symm
    go_wp2
    clear M N P z A B m o q g0 g1 g2;obtain⟨w6,R,u,t,X,V⟩:=dM r.out (.int .i64 1) (.int .i64 n) (.string ⟨#[]⟩);rw[R];obtain⟨m,o,q,_,_,_⟩:=u.three;exact bodyPost_ret (v:=.tuple #[.agg #[.int .i64 1,.int .i64 n,.string ⟨#[]⟩],.bool true]) (by simp[results,results275,go_sem,m,o,q]) Z ⟨λ_=>rfl,λG=>absurd b G,x.out.trans t⟩
   have S:=pu (cH 1 n ⟨#[]⟩) s (λe=>b e.symm)
   go_wp2
   clear M N P z A B m o q g0 g1 g2;obtain⟨w6,R,u,t,X,V⟩:=dM r.out (.int .i64 0) (.int .i64 0) (.string ⟨#[]⟩);rw[R];obtain⟨m,o,q,_,_,_⟩:=u.three;exact bodyPost_ret (v:=.tuple #[.agg #[.int .i64 0,.int .i64 0,.string ⟨#[]⟩],.bool false]) (by simp[results,results275,go_sem,m,o,q]) Z ⟨λG=>absurd G b,λ_=>rfl,x.out.trans t⟩
  by_cases C:a= -9223372036854775808
  ·have D:a=n:=by
    rw[if_neg]at c
    ·exact c
    intro hc;exact hc.2 C
   rw[D]at d C;clear c D;subst C;clear m o q z A B;obtain⟨M,N,P,z,A,B⟩:=d.out.three
   go_wp2_with fail
   clear M N P z A B;refine(i7 1 (-9223372036854775808) ⟨#[]⟩ _ HR.out.1 HR.out.2 I).mono ?_;rintro e w5 ⟨rfl,j⟩;have x:=J (g.out.trans (j.mono g.out.size));have Q:=J (d.out.below j d.out.lt);have r:=J (f.out.below j f.out.lt);clear j f d g;obtain⟨M,N,P,z,A,B⟩:=Q.out.three;obtain⟨m,o,q,g0,g1,g2⟩:=r.out.three;by_cases b:cH 1 (-9223372036854775808) ⟨#[]⟩=s.data.toList
   ·have S:=mf (cH 1 (-9223372036854775808) ⟨#[]⟩) s b.symm
    go_wp2
    clear M N P z A B m o q g0 g1 g2;obtain⟨w6,R,u,t,X,V⟩:=dM r.out (.int .i64 1) (.int .i64 (-9223372036854775808)) (.string ⟨#[]⟩);rw[R];obtain⟨m,o,q,_,_,_⟩:=u.three;exact bodyPost_ret (v:=.tuple #[.agg #[.int .i64 1,.int .i64 (-9223372036854775808),.string ⟨#[]⟩],.bool true]) (by simp[results,results275,go_sem,m,o,q]) Z ⟨λ_=>rfl,λG=>absurd b G,x.out.trans t⟩
   have S:=pu (cH 1 (-9223372036854775808) ⟨#[]⟩) s (λe=>b e.symm)
   go_wp2
   clear M N P z A B m o q g0 g1 g2;obtain⟨w6,R,u,t,X,V⟩:=dM r.out (.int .i64 0) (.int .i64 0) (.string ⟨#[]⟩);rw[R];obtain⟨m,o,q,_,_,_⟩:=u.three;exact bodyPost_ret (v:=.tuple #[.agg #[.int .i64 0,.int .i64 0,.string ⟨#[]⟩],.bool false]) (by simp[results,results275,go_sem,m,o,q]) Z ⟨λG=>absurd G b,λ_=>rfl,x.out.trans t⟩
  have D: -a=n:=by
   rw[if_pos]at c
   ·exact c
   exact⟨λe=>a5 (by rw[QS e];rfl),C⟩
  clear c;have q1:wrap64 (-a)=n:=by rw[D];exact rY _ HR.out
  have q2:((s[0].toNat:Int) !=45)=true:=by rw[bne_iff_ne];omega
  have q3:(a != -9223372036854775808)=true:=by rw[bne_iff_ne];exact C
  clear D
  go_wp2_with fail
  clear q1 q2 q3 m o q z A B;obtain⟨W2,a9⟩:∃W2,wr.setCell ⟨w.heap.size+1,1,none⟩ (.int .i64 n)=W2:=⟨_,Z⟩;have L:=d.out.put 1 (.int .i64 n);have K:=(Below.heap_setCell wr ⟨w.heap.size+1,1,none⟩ (.int .i64 n) w.heap.size F).trans f.out;have a4:=g.out.setCell (p:=⟨w.heap.size+1,1,none⟩) F (.int .i64 n);rw[a9]at L K a4⊢;clear d f g;have d:=J (show IsBlk W2 (w.heap.size+1) 34 #[.int .i64 1,.int .i64 n,.string ⟨#[]⟩]from L);have f:=J (show IsBlk W2 w.heap.size 34 #[.int .i64 0,.int .i64 0,.string ⟨#[]⟩]from K);have g:=J a4;clear L K a4 a9;refine(i7 1 n ⟨#[]⟩ _ HR.out.1 HR.out.2 I).mono ?_;rintro e w5 ⟨rfl,j⟩;have x:=J (g.out.trans (j.mono g.out.size));have Q:=J (d.out.below j d.out.lt);have r:=J (f.out.below j f.out.lt);clear j f d g;obtain⟨M,N,P,z,A,B⟩:=Q.out.three;obtain⟨m,o,q,g0,g1,g2⟩:=r.out.three;by_cases b:cH 1 n ⟨#[]⟩=s.data.toList
  ·have S:=mf (cH 1 n ⟨#[]⟩) s b.symm
   go_wp2
   clear M N P z A B m o q g0 g1 g2;obtain⟨w6,R,u,t,X,V⟩:=dM r.out (.int .i64 1) (.int .i64 n) (.string ⟨#[]⟩);rw[R];obtain⟨m,o,q,_,_,_⟩:=u.three;exact bodyPost_ret (v:=.tuple #[.agg #[.int .i64 1,.int .i64 n,.string ⟨#[]⟩],.bool true]) (by simp[results,results275,go_sem,m,o,q]) Z ⟨λ_=>rfl,λG=>absurd b G,x.out.trans t⟩
  have S:=pu (cH 1 n ⟨#[]⟩) s (λe=>b e.symm)
  go_wp2
  clear M N P z A B m o q g0 g1 g2;obtain⟨w6,R,u,t,X,V⟩:=dM r.out (.int .i64 0) (.int .i64 0) (.string ⟨#[]⟩);rw[R];obtain⟨m,o,q,_,_,_⟩:=u.three;exact bodyPost_ret (v:=.tuple #[.agg #[.int .i64 0,.int .i64 0,.string ⟨#[]⟩],.bool false]) (by simp[results,results275,go_sem,m,o,q]) Z ⟨λG=>absurd G b,λ_=>rfl,x.out.trans t⟩
def ut{s:ByteArray}{c:UInt8}{r:List UInt8}(h:s.data.toList=c::r)(a:0<s.size):s[0]=c:=by
 have:s.data.toList[0]'(by rw[h];simp)=c:=by simp only[h];rfl
 exact this
def xP(t n:Int)(f s:ByteArray)(w:World)(a:bz t n f=true)(g:s.data.toList=cH t n f)(k: -9223372036854775808<=n)(l:n<=9223372036854775807):
  Calls prog 275 #[.string s] w λe w'=>e=.returned (.tuple #[.agg #[.int .i64 t,.int .i64 n,.string f],.bool true])/\Below w.heap.size w w':=by
 have hl:=Jx a k l;have q:s.size=(cH t n f).length:=by rw[<-g];simp
 have d:0<s.size:=O
 by_cases m:t=1
 ·subst m;obtain rfl:=ly a;have b:s.data.toList=Lib.itoa n:=by rw[g];simp[cH,a]
  obtain⟨c,r,e,o⟩:=pp n;refine(ou s w n d O ?_ (by rw[b];exact D5 n k l)).mono ?_
  ·rw[ut (by rw[b,e]) d];exact λh=>o (Tv h)
  rintro e w' ⟨i,_,j⟩;exact⟨i g.symm,j⟩
 obtain⟨rfl,rfl,p,_⟩:=kE m a;have b:s.data.toList=39::(gG f.data.toList++[39]):=by rw[g];simp[cH,a]
 refine(ot s f w d O ?_ (by rw[b];exact B1 _)).mono ?_
 ·rw[ut b d];rfl
 rintro e w' ⟨i,_,j⟩;exact⟨i g.symm,j⟩
def vN(s:ByteArray)(w:World)(m:s.size<=4294967280)(h:∀(t n:Int) (b:ByteArray),bz t n b=true-> -9223372036854775808<=n->n<=9223372036854775807->s.data.toList≠cH t n b):
  Calls prog 275 #[.string s] w λe w'=>e=.returned (.tuple #[.agg #[.int .i64 0,.int .i64 0,.string ⟨#[]⟩],.bool false])/\Below w.heap.size w w':=by
 by_cases c:130<s.size\/s.size=0
 ·exact rX s w c O
 have d:0<s.size:=O
 have a:s.data.toList.length=s.size:=F
 have key:∀(t n:Int) (b:ByteArray),-9223372036854775808<=n->n<=9223372036854775807->cH t n b≠s.data.toList:=by
  intro t n b k l e;cases j:bz t n b
  ·rw[show cH t n b=[] by simp[cH,j]]at e;rw[<-e]at a;simp at a;omega
  exact h t n b j k l e.symm
 by_cases i:s[0].toNat=39
 ·refine(ot s ⟨(B0 (s.data.toList.drop 1)).toArray⟩ w d O i F).mono ?_;rintro e w' ⟨_,f,g⟩;exact⟨f (key _ _ _ O O),g⟩
 refine(ou s w (xO s.data.toList) d O i Z).mono ?_;rintro e w' ⟨_,f,g⟩;exact⟨f (key _ _ _ (nh _).1 (nh _).2),g⟩
def V.zero:V:=⟨0,0,⟨#[]⟩⟩
def Ac(s:ByteArray)(v:V):Prop:=v.ok=true/\v.rng/\s.data.toList=v.fmt
noncomputable def cM (s:ByteArray):Option V:=open Classical in if h:∃v:V,Ac s v then some (Classical.choose h)else none
def eJ{s:ByteArray}{v:V}(h:cM s=some v):Ac s v:=by
 unfold cM at h;split at h
 ·next h1=>
  injection h with h
  rw[<-h];exact Classical.choose_spec h1
 cases h
def pQ{s:ByteArray}(h:cM s=none)(v:V):¬Ac s v:=λa=>by
 unfold cM at h;split at h
 ·cases h
 next h1=>exact h1 ⟨v,a⟩
def xQ(s:ByteArray)(v:V)(i:s.size<=4294967280)(h:cM s=some v):Ct 252 [sT s] (.tup [v.tree,iT 0]):=⟨⟨_,func252,Z,Z⟩,λG w vs d _ g=>by
 obtain⟨u,rfl,a⟩:=ik g;cases a;obtain⟨a,b,c⟩:=eJ h;refine(Fz v.t v.n v.s s w i a c b.1 b.2 d).mono ?_;rintro e w' ⟨rfl,f⟩;exact⟨_,Z,.tup [.agg #[.int .i64 v.t,.int .i64 v.n,.string v.s],.int .i64 0] _ (.agg [.int .i64 v.t,.int .i64 v.n,.string v.s] _ (.sc _ (.sc _ (.sc _ .nil))) (.sc _ .nil)) .nil,f⟩⟩
def xR(s:ByteArray)(g:s.size<=4294967280)(h:cM s=none):Ct 252 [sT s] (.tup [V.zero.tree,iT 2]):=⟨⟨_,func252,Z,Z⟩,λG w vs c _ f=>by
 obtain⟨u,rfl,a⟩:=ik f;cases a;refine(DY s w g (λt n j i b a e=>pQ h ⟨t,n,j⟩ ⟨i,⟨b,a⟩,e⟩) c).mono ?_;rintro e w' ⟨rfl,d⟩;exact⟨_,Z,.tup [.agg #[.int .i64 0,.int .i64 0,.string ⟨#[]⟩],.int .i64 2] _ (.agg [.int .i64 0,.int .i64 0,.string ⟨#[]⟩] _ (.sc _ (.sc _ (.sc _ .nil))) (.sc _ .nil)) .nil,d⟩⟩
def ov(s:ByteArray)(v:V)(h:cM s=some v):Ct 275 [sT s] (.tup [v.tree,bT true]):=⟨⟨_,func275,Z,Z⟩,λG w vs _ _ f=>by
 obtain⟨u,rfl,a⟩:=ik f;cases a;obtain⟨a,b,c⟩:=eJ h;refine(xP v.t v.n v.s s w a c b.1 b.2).mono ?_;rintro e w' ⟨rfl,d⟩;exact⟨_,Z,.tup [.agg #[.int .i64 v.t,.int .i64 v.n,.string v.s],.bool true] _ (.agg [.int .i64 v.t,.int .i64 v.n,.string v.s] _ (.sc _ (.sc _ (.sc _ .nil))) (.sc _ .nil)) .nil,d⟩⟩
def ow(s:ByteArray)(f:s.size<=4294967280)(h:cM s=none):Ct 275 [sT s] (.tup [V.zero.tree,bT false]):=⟨⟨_,func275,Z,Z⟩,λG w vs _ _ d=>by
 obtain⟨u,rfl,a⟩:=ik d;cases a;refine(vN s w f (λt n i g b a e=>pQ h ⟨t,n,i⟩ ⟨g,⟨b,a⟩,e⟩)).mono ?_;rintro e w' ⟨rfl,c⟩;exact⟨_,Z,.tup [.agg #[.int .i64 0,.int .i64 0,.string ⟨#[]⟩],.bool false] _ (.agg [.int .i64 0,.int .i64 0,.string ⟨#[]⟩] _ (.sc _ (.sc _ (.sc _ .nil))) (.sc _ .nil)) .nil,c⟩⟩
end Go.Proofs.YtmhcanmapkenbaaGreatDoor
namespace Go.Proofs.YtmhcanmapkenbaaGreatDoor
structure Tok where
 k:Nat
 x:ByteArray
def dN:Tok:=⟨0,⟨#[]⟩⟩
structure PS where
 l:List Tok
 a:Nat
 bad:Bool
def PS.nxt(s:PS):Tok:=if s.bad=true\/s.l.length<=s.a then dN else s.l.getD s.a dN
def PS.fail(s:PS):PS:={s with bad:=true}
def PS.adv(s:PS):PS:={s with a:=s.a+1}
def ni{s:PS}(h:s.bad=true):s.nxt=dN:=if_pos (.inl h)
def nj{s:PS}(h:s.l.drop s.a=[]):s.nxt=dN:=if_pos (.inr (List.drop_eq_nil_iff.1 h))
def il{s:PS}{t:Tok}{r:List Tok}(e:s.bad=false)(h:s.l.drop s.a=t::r):s.nxt=t/\s.l.drop (s.a+1)=r:=by
 have c:s.a<s.l.length:=by
  rcases Rm s.a s.l.length with b|b
  ·exact b
  rw[List.drop_eq_nil_iff.2 b]at h;cases h
 rw[Q3 c]at h;injection h with b d
 refine⟨?_,d⟩;unfold PS.nxt;rw[if_neg (by simp[e];omega),Qp,Qj c];exact b
def B2{l:List Tok}{a:Nat}{t:Tok}{r:List Tok}(h:l.drop a=t::r):a+1<=l.length:=by
 rcases Rm a l.length with b|b
 ·exact b
 rw[List.drop_eq_nil_iff.2 b]at h;cases h
def FolAt{α:Type}(o:Option (α×List Tok))(s:PS)(p:α×PS):Prop:=match o with
 |some (v,r)=>∃a,p=(v,⟨s.l,a,false⟩)/\r=s.l.drop a/\(s.a<=s.l.length->a<=s.l.length)
 |none=>p.2.bad=true
def FolAt.trans{α:Type}{o:Option (α×List Tok)}{s:PS}{a:Nat}{p:α×PS}(h:FolAt o ⟨s.l,a,false⟩ p)(g:s.a<=s.l.length->a<=s.l.length):FolAt o s p:=by
 cases o with
 |none=>exact h
 |some q=>
  obtain⟨v,r⟩:=q;obtain⟨b,c,d,e⟩:=h;exact⟨b,c,d,λf=>e (g f)⟩
def Fol{α:Type}(W:List Tok->Prop)(g:List Tok->Option (α×List Tok))(f:PS->α×PS):Prop:=
 ∀s,W s.l->(f s).2.l=s.l/\(s.bad=true->(f s).2.bad=true)/\(s.bad=false->FolAt (g (s.l.drop s.a)) s (f s))
section
variable {α β:Type} {W:List Tok->Prop}
def Fol.pure(v:α):Fol W (λl=>some (v,l)) (λs=>(v,s)):=λs _=>⟨Z,id,λb=>⟨s.a,by rw[<-b],Z,id⟩⟩
def Fol.bind{g:List Tok->Option (α×List Tok)}{f:PS->α×PS}{j:α->List Tok->Option (β×List Tok)}{i:α->PS->β×PS}(h:Fol W g f)(q:∀v,Fol W (j v) (i v)):Fol W (λl=>(g l).bind λp=>j p.1 p.2) (λs=>i (f s).1 (f s).2):=λs o=>by
 have c:=h s o;have m:W (f s).2.l:=by rw[c.1];exact o
 have b:=q (f s).1 (f s).2 m;refine⟨b.1.trans c.1,λk=>b.2.1 (c.2.1 k),λk=>?_⟩;have d:=c.2.2 k;show FolAt ((g (s.l.drop s.a)).bind λp=>j p.1 p.2) s (i (f s).1 (f s).2)
 cases n:g (s.l.drop s.a)with
 |none=>
  rw[n]at d;exact b.2.1 d
 |some p=>
  obtain⟨v,r⟩:=p;rw[n]at d;obtain⟨a,e,u,t⟩:=d;rw[e]at b⊢;subst u;exact FolAt.trans (b.2.2 Z) t
def Fol.congr{g b:List Tok->Option (α×List Tok)}{f a:PS->α×PS}(h:Fol W g f)(d:∀l,b l=g l)(c:∀s,a s=f s):Fol W b a:=λs e=>by
 rw[c,d];exact h s e
def Fol.fail{f:PS->α×PS}(h:∀s,(f s).2=s.fail):Fol W (λ_=>none) f:=λs _=>by
 rw[h];exact⟨Z,λ_=>rfl,λ_=>by show(f s).2.bad=true;rw[h];rfl⟩
end
def vO{α:Type}(c:Tok->Option α):List Tok->Option (α×List Tok)
 |t::r=>(c t).map λv=>(v,r)
 |[]=>none
def kG{α:Type}{W:List Tok->Prop}{c:Tok->Option α}{f:PS->α×PS}(k:∀s v,c s.nxt=some v->f s=(v,s.adv))(m:∀s,c s.nxt=none->(f s).2.bad=true/\(f s).2.l=s.l)(i:c dN=none):Fol W (vO c) f:=λs _=>by
 cases b:c s.nxt with
 |some v=>
  rw[k s v b];have d:s.bad=false:=by
   cases d:s.bad with
   |false=>rfl
   |true=>rw[ni d,i]at b;cases b
  refine⟨Z,λh=>(Qk (d.symm.trans h)).elim,λ_=>?_⟩;cases hd:s.l.drop s.a with
  |nil=>rw[nj hd,i]at b;cases b
  |cons t r=>
   obtain⟨e,j⟩:=il d hd;rw[e]at b;show FolAt ((c t).map λv=>(v,r)) s _
   rw[b];exact⟨s.a+1,by unfold PS.adv;rw[<-d],j.symm,λ_=>B2 hd⟩
 |none=>
  obtain⟨g,n⟩:=m s b;refine⟨n,λ_=>g,λd=>?_⟩;cases hd:s.l.drop s.a with
  |nil=>exact g
  |cons t r=>
   obtain⟨e,_⟩:=il d hd;rw[e]at b;show FolAt ((c t).map λv=>(v,r)) s _
   rw[b];exact g
def j3(c:Tok->Bool):List Tok->Option (Bool×List Tok)
 |t::r=>if c t then some (true,r)else some (false,t::r)
 |[]=>some (false,[])
def JB{W:List Tok->Prop}{c:Tok->Bool}{f:PS->Bool×PS}(h:∀s,W s.l->f s=if c s.nxt then(true,s.adv)else(false,s))(g:c dN=false):Fol W (j3 c) f:=λs j=>by
 rw[h s j];cases d:c s.nxt with
 |true=>
  rw[if_pos Z];have b:s.bad=false:=by
   cases b:s.bad with
   |false=>rfl
   |true=>rw[ni b,g]at d;cases d
  refine⟨Z,λh=>(Qk (b.symm.trans h)).elim,λ_=>?_⟩;cases hd:s.l.drop s.a with
  |nil=>rw[nj hd,g]at d;cases d
  |cons t r=>
   obtain⟨e,i⟩:=il b hd;rw[e]at d;show FolAt (if c t=true then some (true,r)else some (false,t::r)) s _
   rw[d];exact⟨s.a+1,by unfold PS.adv;rw[<-b],i.symm,λ_=>B2 hd⟩
 |false=>
  rw[if_neg F];refine⟨Z,id,λb=>?_⟩;cases hd:s.l.drop s.a with
  |nil=>exact⟨s.a,by rw[<-b],hd.symm,id⟩
  |cons t r=>
   obtain⟨e,_⟩:=il b hd;rw[e]at d;show FolAt (if c t=true then some (true,r)else some (false,t::r)) s _
   rw[d];exact⟨s.a,by rw[<-b],hd.symm,id⟩
