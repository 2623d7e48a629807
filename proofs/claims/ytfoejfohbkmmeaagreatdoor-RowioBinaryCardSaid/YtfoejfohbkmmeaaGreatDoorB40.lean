import Derived.Test.YtfoejfohbkmmeaaGreatDoorB39
import Derived.Test.YtfoejfohbkmmeaaGreatDoorB16
import Derived.Test.YtfoejfohbkmmeaaGreatDoorB00
import Derived.Test.YtfoejfohbkmmeaaGreatDoorB06
import Derived.Test.YtfoejfohbkmmeaaGreatDoorB11
import Derived.Laws.BitsAllLaws
import Derived.Laws.Bits64
set_option maxRecDepth 100000
set_option maxHeartbeats 8000000
namespace Go.Proofs.YtfoejfohbkmmeaaGreatDoor
open Go.RowKit
open Lib renaming hid→J
theorem EnvB.grown{g:Nat}{w w':World}(h:EnvB g w)(f:w.grownBy w' (some g)):EnvB g w':=by
 obtain⟨d,b,a,c⟩:=h;exact⟨d,b,a.grown f a.size (fun k e=>by injection e with e;omega),c⟩
theorem OkG.grown{G:Nat->Prop}{w w':World}{g:Nat}{ty:TypeId}{us:List Value}(f:OkG G w)(d:w.grownBy w' (some g))(a:IsBlk w' g ty us.toArray)(b:us.all bG=true):OkG G w':=fun x i=>by
 obtain⟨c,j⟩:=f x i;refine⟨Oz c d.size,?_⟩;by_cases e:x=g
 ·subst e;exact cD a b
 exact j.of (d.block x c fun h=>e (by injection h))
theorem qz{w w' a:World}{g:Nat}(h:w.grownBy w' (some g))(c:w'.grownBy a (some g)):w.grownBy a (some g):=
 ⟨c.os.trans h.os,c.tape.trans h.tape,c.output.trans h.output,Oq h.size c.size,fun k d b=>(c.block k (Oz d h.size) b).trans (h.block k d b)⟩
theorem FN{w w':World}{g:Nat}(h:Below w.heap.size w w'):w.grownBy w' (some g):=⟨h.os,h.tape,h.output,h.size,fun k a _=>h.block k a⟩
theorem CU{w':World}{G:Nat->Prop}{g:Nat}{ty:TypeId}{us:List Value}{s:Rdr}(a:IsBlk w' g ty us.toArray)(h:PT w' G us s.cells):w'.cell? ⟨g,1,none⟩=some (.int .i64 ((s.err:Nat):Int)):=by
 obtain⟨v,x,rfl,c,b⟩:=dO h;cases b;rw[a.cell];rfl
def Oa(w:World)(l:List UInt8)(i:Value)(w':World):Prop:=∃k,k<=l.length/\i=.int .i64 k/\OwnN w' w.heap.size (.slice (some ⟨w.heap.size,0,none⟩) ((l.length+3)/4) ((l.length+3)/4)) (kb ((l.length+3)/4) (d8 l%256^k))/\Below w.heap.size w w'
theorem uP{w a:World}{G:Nat->Prop}{g:Nat}{us:List Value}{s c:Rdr}{n:Nat}{v:Value}(j:eV s=(n,c))(d:w.grownBy a (some g))(f:IsBlk a g 184 us.toArray)(e:PT a G us c.cells)(i:us.all bG=true)(h:PT a G [v] [aG n]):∃v' b,Ending.returned v=.returned v'/\w.grownBy a (some g)/\IsBlk a g 184 b.toArray/\PT a G b (eV s).2.cells/\b.all bG=true/\PT a G [v'] [aG (eV s).1]:=by
 rw[j];exact⟨v,us,Z,d,f,e,i,h⟩
theorem Lv(s:Rdr)(hl:s.rest.length<=1073741824):CtM 183 184 s.cells [] (eV s).2.cells (aG (eV s).1):=⟨⟨_,Tryz.func183,Z,Z⟩,fun G w g us vs hE hG hg O h4 f7 hp=>by
 cases hp;obtain⟨q,hq⟩:∃q,cz 8192 s=q:=⟨_,rfl⟩;have e6:=kG 8192 s;rw[hq]at e6;have hB:=(qp s 8192 hl (by decide)).2;rw[hq]at hB;have hB:=J hB
 go_enter Tryz.func183,Tryz.ntmps183
 go_wp2_with fail
 refine(hB.out G w g us [.int .i64 (8192:Nat)] hE hG hg O h4 f7 (.sc _ .nil)).mono ?_;rintro e j ⟨v1,d4,rfl,g1,b1,p1,n1,r1⟩;have c1:=CU b1 p1;obtain⟨A1,cp,rfl,R,B,f3,w0⟩:=Lb r1;have HP:=J (show∀n,eV s=(n,q.2)->∀v,PT j G [v] [aG n]->∃v' c2,Ending.returned v=.returned v'/\w.grownBy j (some g)/\IsBlk j g 184 c2.toArray/\PT j G c2 (eV s).2.cells/\c2.all bG=true/\PT j G [v'] [aG (eV s).1]from fun n hn v X=>uP hn g1 b1 p1 n1 X);have z:=J g1;have d2:=J p1;have A:=J b1;have F:=J n1;have l9:=J r1;have r3:=J R;have HE:=J hE;have c5:=J hG;clear g1 p1 b1 n1 hB r1 R hE hG h4 O f7;by_cases he:q.2.err=0;rotate_left
 ·have hz:decide ((q.2.err:Int)=0)=false:=by simp;omega
  have u2:((q.2.err:Int)==0)=false:=by simp;omega
  have hU:eV s=(0,q.2):=by unfold eV;rw[hq,if_pos he]
  go_wp2
  go_ret
  exact HP.out 0 hU _ (bQ _ _)
 have c1:j.cell? ⟨g,1,none⟩=some (.int .i64 0):=by rw[c1,he];rfl
 obtain⟨L,C⟩:∃L,q.1.length=L:=⟨_,rfl⟩;rw[C]at f3 e6 B l9;have HL:=J C;by_cases b5:L=0
 ·have hU:eV s=(0,q.2):=by
   unfold eV;rw[hq,if_neg (by omega),OB (C.trans b5)]
  subst b5;rw[C];clear B f3 C
  go_wp2
  go_ret
  exact HP.out 0 hU _ (bQ _ _)
 obtain⟨c,t,M⟩:∃c t,q.1=c::t:=by
  cases h:q.1 with
  |nil=>rw[h]at C;exact absurd C.symm b5
  |cons c t=>exact⟨c,t,Z⟩
 obtain⟨b,off,rfl,hb,b3⟩:=r3.out (by simp[bL];omega);have l6:=J b3;have d0:=J hb;have cc:j.cell? ⟨b,off,none⟩=some (.int .u8 (c.toNat:Nat)):=by
  have:=b3 0 (.int .u8 (c.toNat:Nat)) (by rw[M];rfl);exact this
 rw[C];clear B b3 hb C;have v4:((L:Int)==0)=false:=by simp;omega
 have v5:(0:Int)<(L:Int):=by omega
 by_cases D:c.toNat=0
 ·have hU:eV s=(0,⟨[],2⟩):=by unfold eV;rw[hq,if_neg (by omega),M];exact if_pos D
  rw[D]at cc
  go_wp2_with fail
  refine((rl q.2.rest q.2.err 2).2 G j g d4 [.int .i64 (2:Nat)] (HE.out.grown z.out) (OkG.grown c5.out z.out A.out F.out) hg A.out d2.out F.out (.sc _ .nil)).mono ?_;rintro e w2 ⟨v2,i3,rfl,g2,b2,p2,n2,r2⟩;have HQ:=J (uP hU (qz z.out g2) b2 p2 n2 (bQ _ _:PT w2 G [.slice none 0 0] [aG 0]));clear g2 b2 p2 n2 r2
  go_wp2
  go_ret
  exact HQ.out
 have hU:eV s=(d8 q.1,q.2):=by unfold eV;rw[hq,if_neg (by omega),M];exact if_neg D
 have v0:((c.toNat:Int)==0)=false:=by simp;omega
 obtain⟨K,hK⟩:∃K,(L+3)/4=K:=⟨_,rfl⟩;obtain⟨W,I,e2,h5,w7⟩:=fd j K (by omega);have I:=I .i64 .i64;have h7:=J e2;have s3:=J h5;have q1:IntKind.i64.wrap ((L:Int)+3)=(L:Int)+3:=by rw[Pj];omega
 clear e2 h5;rw[show(K:Int)=((L:Int)+3)/4 by omega]at I
 go_wp2
 clear I
 go_loopw [31] (fun i wr=>Oa j q.1 i wr) (fun i _=>L-(intOf i).toNat)
 case atStart=>exact⟨0,OA _,Z,by have:=h7.out;rw[HL.out,QO,Sm,FH,hK];exact this,s3.out⟩
 case round=>
  obtain⟨k,hk,rfl,l,f6⟩:=hrel;rw[HL.out]at hk l;rw[hK]at l;have m:=J f6;clear f6;by_cases i9:k<L
  ·obtain⟨d,hd⟩:∃d,q.1[q.1.length-1-k]? =some d:=⟨_,Og (by rw[HL.out];omega)⟩;have i2:d.toNat<256:=d.toNat_lt;obtain⟨v,X⟩:∃v,d8 q.1%256^k=v:=⟨_,rfl⟩;obtain⟨e8,c0,g0,c9,b4⟩:=Jb (K:=K) (v:=v) (c:=d.toNat) (i:=k) (by rw[<-X];exact Pe _ (Pw (by decide))) i2 (by omega);rw[X]at l;have y:=J l;clear l;obtain⟨r,N⟩:∃x,v/4294967296^(k/4)%4294967296=x:=⟨_,rfl⟩;rw[N]at e8 c0 g0 b4;have f2:k/4<(kb K v).length:=by rw[ke];omega
   have cr:=y.out.cell f2;have fr:=y.out.free (k/4);have f9:(kb K v)[k/4]=r:=by
    have:=qu v (show k/4<K by omega);rw[N]at this;exact(Ok.1 this).2
   rw[f9]at cr;have cb:wr.cell? ⟨b,off+(L-1-k),none⟩=some (.int .u8 (d.toNat:Nat)):=by
    have h1:(bL q.1)[L-1-k]? =some (.int .u8 (d.toNat:Nat)):=by
     rw[HL.out]at hd;unfold bL;rw[O2,hd];rfl
    rw[<-l6.out _ _ h1];exact m.out.cell (p:=⟨b,off+(L-1-k),none⟩) d0.out
   have HD:=J hd;have l3:=J b4;obtain⟨u,E⟩:∃x,d.toNat*256^(k%4)=x:=⟨_,rfl⟩;have c3:r<4294967296:=by rw[<-N];exact Pe _ (by decide)
   have l8:=J E;rw[E]at c0 g0 c9;have q2:(0:Int)<=(k:Int)/4:=by omega
   have q3:((k:Int)/4).toNat=k/4:=by omega
   have q4:(k:Int)/4<(K:Int):=by omega
   have q5:IntKind.i64.wrap ((L:Int)-1)=(L:Int)-1:=by rw[Pj];omega
   have q6:IntKind.i64.wrap ((L:Int)-1-(k:Int))=(L:Int)-1-(k:Int):=by rw[Pj];omega
   have q7:(0:Int)<=(L:Int)-1-(k:Int):=by omega
   have q8:((L:Int)-1-(k:Int)).toNat=L-1-k:=by omega
   have q9:(L:Int)-1-(k:Int)<(L:Int):=by omega
   have l7:IntKind.u32.wrap (d.toNat:Int)=(d.toNat:Int):=by rw[Qq];omega
   have k1:IntKind.i64.wrap ((k:Int)%4*8)=(k:Int)%4*8:=by rw[Pj];omega
   have l5:((k:Int)%4*8).toNat=k%4*8:=by omega
   have l4:IntKind.u32.wrap ((d.toNat:Int)*2^(k%4*8))=(u:Int):=by
    have e:((d.toNat:Int)*2^(k%4*8))=((u:Nat):Int):=by
     rw[<-E,show(256:Nat)^(k%4)=2^(k%4*8) by rw[OF (k%4) 8,QG]];simp
    rw[e,Qq];omega
   have k3:bits .or .u32 (r:Int) (u:Int)=((r+u:Nat):Int):=by
    have:=AV .u32 32 (by decide) (fun n h0 h1=>by rw[Qq];omega) r u c3 c9;rw[c0]at this;exact this
   clear hd b4 E f9 N e8 f2;have e0:=(y.out.lt _ Z).2;have m4:=Oz d0.out m.out.size
   go_wp2
   -- R11
   refine sI [some 34,some 35,some 36,some 37,some 38,some 39,some 40,some 41,some 42,some 43,some 44,some 45,some 46,some 47,some 48,some 49,some 50,some 51,some 52,some 53,none] ([fun v _=>v=.slice (some ⟨j.heap.size,0,none⟩) K K,fun v _=>v=.int .i64 (k:Int),fun v _=>v=.int .i64 ((k:Int)/4),fun v _=>v=.pointer (some ⟨j.heap.size,k/4,none⟩),fun v _=>v=.int .u32 (r:Int),fun v _=>v=.slice (some ⟨b,off,none⟩) L cp,fun v _=>v=.slice (some ⟨b,off,none⟩) L cp,fun v _=>v=.int .i64 (L:Int),fun v _=>v=.int .i64 ((L:Int)-1),fun v _=>v=.int .i64 (k:Int),fun v _=>v=.int .i64 ((L:Int)-1-(k:Int)),fun v _=>v=.pointer (some ⟨b,off+(L-1-k),none⟩),fun v _=>v=.int .u8 (d.toNat:Int),fun v _=>v=.int .u32 (d.toNat:Int),fun v _=>v=.int .i64 (k:Int),fun v _=>v=.int .i64 ((k:Int)%4),fun v _=>v=.int .i64 ((k:Int)%4*8),fun v _=>v=.int .u32 (u:Int),fun v _=>v=.int .u32 ((r+u:Nat):Int),fun v _=>v=.pointer (some ⟨j.heap.size,k/4,none⟩)]) 20 _ (by kernel_rfl) (by kernel_rfl) (by rfl) (by rfl) (.eq (.eq (.eq (.eq (.eq (.eq (.eq (.eq (.eq (.eq (.eq (.eq (.eq (.eq (.eq (.eq (.eq (.eq (.eq (.eq .nil)))))))))))))))))))) (by rfl) (by rfl) (by rfl) (by rfl) (by kernel_rfl) ?_ ?_
   ·refine Steps.cons trivial (fun T W a=>?_) ?_
    ·have e4:T 4=.slice (some ⟨j.heap.size,0,none⟩) K K:=a.keep 4 (by rfl);have f:=a.wi;clear a;refine aB (v:=.slice (some ⟨j.heap.size,0,none⟩) K K) (W':=W) ?_ ⟨Z,Below.refl _ _⟩;simp only[execOp,dm,e4];go_simp
    refine Steps.cons trivial (fun T W a=>?_) ?_
    ·have e5:T 5=.int .i64 (k:Int):=a.keep 5 (by rfl);have f:=a.wi;clear a;refine aB (v:=.int .i64 (k:Int)) (W':=W) ?_ ⟨Z,Below.refl _ _⟩;simp only[execOp,dm,e5];go_simp
    refine Steps.cons trivial (fun T W a=>?_) ?_
    ·have l0:T 35=.int .i64 (k:Int):=a.fact 1 1 35 (by kernel_rfl);have f:=a.wi;clear a;refine aB (v:=.int .i64 ((k:Int)/4)) (W':=W) ?_ ⟨Z,Below.refl _ _⟩;have w3:IntKind.i64.wrap ((k:Int)/4)=(k:Int)/4:=by rw[Pj];omega
     simp only[execOp,dm,l0];go_simp
    refine Steps.cons trivial (fun T W a=>?_) ?_
    ·have b0:T 34=.slice (some ⟨j.heap.size,0,none⟩) K K:=a.fact 1 0 34 (by kernel_rfl);have c4:T 36=.int .i64 ((k:Int)/4):=a.fact 1 2 36 (by kernel_rfl);have f:=a.wi;clear a;refine aB (v:=.pointer (some ⟨j.heap.size,k/4,none⟩)) (W':=W) ?_ ⟨Z,Below.refl _ _⟩;simp only[execOp,dm,b0,c4];go_simp
    refine Steps.cons trivial (fun T W a=>?_) ?_
    ·have r0:T 37=.pointer (some ⟨j.heap.size,k/4,none⟩):=a.fact 1 3 37 (by kernel_rfl);have f:=a.wi;clear a;have cr:=(f.cell (p:=⟨j.heap.size,k/4,none⟩) e0).trans cr;refine aB (v:=.int .u32 (r:Int)) (W':=W) ?_ ⟨Z,Below.refl _ _⟩;simp only[execOp,dm,r0];go_simp
    refine Steps.cons trivial (fun T W a=>?_) ?_
    ·have e3:T 3=.slice (some ⟨b,off,none⟩) L cp:=a.keep 3 (by rfl);have f:=a.wi;clear a;refine aB (v:=.slice (some ⟨b,off,none⟩) L cp) (W':=W) ?_ ⟨Z,Below.refl _ _⟩;simp only[execOp,dm,e3];go_simp
    refine Steps.cons trivial (fun T W a=>?_) ?_
    ·have e3:T 3=.slice (some ⟨b,off,none⟩) L cp:=a.keep 3 (by rfl);have f:=a.wi;clear a;refine aB (v:=.slice (some ⟨b,off,none⟩) L cp) (W':=W) ?_ ⟨Z,Below.refl _ _⟩;simp only[execOp,dm,e3];go_simp
    refine Steps.cons trivial (fun T W a=>?_) ?_
    ·have q0:T 40=.slice (some ⟨b,off,none⟩) L cp:=a.fact 1 6 40 (by kernel_rfl);have f:=a.wi;clear a;refine aB (v:=.int .i64 (L:Int)) (W':=W) ?_ ⟨Z,Below.refl _ _⟩;simp only[execOp,resolve,invoke,builtin,Qn,Pt,QM,dm,q0];go_simp
    refine Steps.cons trivial (fun T W a=>?_) ?_
    ·have m1:T 41=.int .i64 (L:Int):=a.fact 1 7 41 (by kernel_rfl);have f:=a.wi;clear a;refine aB (v:=.int .i64 ((L:Int)-1)) (W':=W) ?_ ⟨Z,Below.refl _ _⟩;simp only[execOp,dm,m1];go_simp
    refine Steps.cons trivial (fun T W a=>?_) ?_
    ·have e5:T 5=.int .i64 (k:Int):=a.keep 5 (by rfl);have f:=a.wi;clear a;refine aB (v:=.int .i64 (k:Int)) (W':=W) ?_ ⟨Z,Below.refl _ _⟩;simp only[execOp,dm,e5];go_simp
    refine Steps.cons trivial (fun T W a=>?_) ?_
    ·have i4:T 42=.int .i64 ((L:Int)-1):=a.fact 1 8 42 (by kernel_rfl);have p3:T 43=.int .i64 (k:Int):=a.fact 1 9 43 (by kernel_rfl);have f:=a.wi;clear a;refine aB (v:=.int .i64 ((L:Int)-1-(k:Int))) (W':=W) ?_ ⟨Z,Below.refl _ _⟩;simp only[execOp,dm,i4,p3];go_simp
    refine Steps.cons trivial (fun T W a=>?_) ?_
    ·have s5:T 39=.slice (some ⟨b,off,none⟩) L cp:=a.fact 1 5 39 (by kernel_rfl);have s4:T 44=.int .i64 ((L:Int)-1-(k:Int)):=a.fact 1 10 44 (by kernel_rfl);have f:=a.wi;clear a;refine aB (v:=.pointer (some ⟨b,off+(L-1-k),none⟩)) (W':=W) ?_ ⟨Z,Below.refl _ _⟩;simp only[execOp,dm,s5,s4];go_simp;intro h9;omega
    refine Steps.cons trivial (fun T W a=>?_) ?_
    ·have o3:T 45=.pointer (some ⟨b,off+(L-1-k),none⟩):=a.fact 1 11 45 (by kernel_rfl);have f:=a.wi;clear a;have cb:=(f.cell (p:=⟨b,off+(L-1-k),none⟩) m4).trans cb;refine aB (v:=.int .u8 (d.toNat:Int)) (W':=W) ?_ ⟨Z,Below.refl _ _⟩;simp only[execOp,dm,o3];go_simp
    refine Steps.cons trivial (fun T W a=>?_) ?_
    ·have i5:T 46=.int .u8 (d.toNat:Int):=a.fact 1 12 46 (by kernel_rfl);have f:=a.wi;clear a;refine aB (v:=.int .u32 (d.toNat:Int)) (W':=W) ?_ ⟨Z,Below.refl _ _⟩;simp only[execOp,dm,i5];go_simp
    refine Steps.cons trivial (fun T W a=>?_) ?_
    ·have e5:T 5=.int .i64 (k:Int):=a.keep 5 (by rfl);have f:=a.wi;clear a;refine aB (v:=.int .i64 (k:Int)) (W':=W) ?_ ⟨Z,Below.refl _ _⟩;simp only[execOp,dm,e5];go_simp
    refine Steps.cons trivial (fun T W a=>?_) ?_
    ·have s1:T 48=.int .i64 (k:Int):=a.fact 1 14 48 (by kernel_rfl);have f:=a.wi;clear a;refine aB (v:=.int .i64 ((k:Int)%4)) (W':=W) ?_ ⟨Z,Below.refl _ _⟩;simp only[execOp,dm,s1];go_simp;exact Qz (by omega)
    refine Steps.cons trivial (fun T W a=>?_) ?_
    ·have p4:T 49=.int .i64 ((k:Int)%4):=a.fact 1 15 49 (by kernel_rfl);have f:=a.wi;clear a;refine aB (v:=.int .i64 ((k:Int)%4*8)) (W':=W) ?_ ⟨Z,Below.refl _ _⟩;simp only[execOp,dm,p4];go_simp
    refine Steps.cons trivial (fun T W a=>?_) ?_
    ·have k4:T 47=.int .u32 (d.toNat:Int):=a.fact 1 13 47 (by kernel_rfl);have p0:T 50=.int .i64 ((k:Int)%4*8):=a.fact 1 16 50 (by kernel_rfl);have f:=a.wi;clear a;refine aB (v:=.int .u32 (u:Int)) (W':=W) ?_ ⟨Z,Below.refl _ _⟩;simp only[execOp,dm,k4,p0];go_simp
    refine Steps.cons trivial (fun T W a=>?_) ?_
    ·have l2:T 38=.int .u32 (r:Int):=a.fact 1 4 38 (by kernel_rfl);have m2:T 51=.int .u32 (u:Int):=a.fact 1 17 51 (by kernel_rfl);have f:=a.wi;clear a;refine aB (v:=.int .u32 ((r+u:Nat):Int)) (W':=W) ?_ ⟨Z,Below.refl _ _⟩;simp only[execOp,dm,l2,m2];go_simp
    refine Steps.cons trivial (fun T W a=>?_) ?_
    ·have b0:T 34=.slice (some ⟨j.heap.size,0,none⟩) K K:=a.fact 1 0 34 (by kernel_rfl);have c4:T 36=.int .i64 ((k:Int)/4):=a.fact 1 2 36 (by kernel_rfl);have f:=a.wi;clear a;refine aB (v:=.pointer (some ⟨j.heap.size,k/4,none⟩)) (W':=W) ?_ ⟨Z,Below.refl _ _⟩;simp only[execOp,dm,b0,c4];go_simp
    exact Steps.nil
   ·intro us W2 a1 o H;obtain⟨y0,v6,rfl,e7⟩:=ci a1;clear a1;obtain⟨y1,d4,rfl,f0⟩:=ci e7;clear e7;obtain⟨y2,i3,rfl,e9⟩:=ci f0;clear f0;obtain⟨y3,v8,rfl,e1⟩:=ci e9;clear e9;obtain⟨y4,w6,rfl,d1⟩:=ci e1;clear e1;obtain⟨y5,u4,rfl,f8⟩:=ci d1;clear d1;obtain⟨y6,u3,rfl,g4⟩:=ci f8;clear f8;obtain⟨y7,v3,rfl,g3⟩:=ci g4;clear g4;obtain⟨y8,w5,rfl,d3⟩:=ci g3;clear g3;obtain⟨y9,w4,rfl,f1⟩:=ci d3;clear d3;obtain⟨o2,t4,rfl,V⟩:=ci f1;clear f1;obtain⟨k0,t7,rfl,a2⟩:=ci V;clear V;obtain⟨h8,t8,rfl,a0⟩:=ci a2;clear a2;obtain⟨o1,u0,rfl,a5⟩:=ci a0;clear a0;obtain⟨i1,t1,rfl,a4⟩:=ci a5;clear a5;obtain⟨i0,t5,rfl,Y⟩:=ci a4;clear a4;obtain⟨r4,t0,rfl,S⟩:=ci Y;clear Y;obtain⟨n0,u1,rfl,P⟩:=ci S;clear S;obtain⟨s2,t9,rfl,U⟩:=ci P;clear P;obtain⟨h6,t3,rfl,Q⟩:=ci U;clear U;obtain⟨v9,t2,rfl,a3⟩:=ci Q;clear Q;obtain rfl:=C8 a3;clear a3;obtain rfl:y0=.slice (some ⟨j.heap.size,0,none⟩) K K:=o 0 (by decide);obtain rfl:y1=.int .i64 (k:Int):=o 1 (by decide);obtain rfl:y2=.int .i64 ((k:Int)/4):=o 2 (by decide);obtain rfl:y3=.pointer (some ⟨j.heap.size,k/4,none⟩):=o 3 (by decide);obtain rfl:y4=.int .u32 (r:Int):=o 4 (by decide);obtain rfl:y5=.slice (some ⟨b,off,none⟩) L cp:=o 5 (by decide);obtain rfl:y6=.slice (some ⟨b,off,none⟩) L cp:=o 6 (by decide);obtain rfl:y7=.int .i64 (L:Int):=o 7 (by decide);obtain rfl:y8=.int .i64 ((L:Int)-1):=o 8 (by decide);obtain rfl:y9=.int .i64 (k:Int):=o 9 (by decide);obtain rfl:o2=.int .i64 ((L:Int)-1-(k:Int)):=o 10 (by decide);obtain rfl:k0=.pointer (some ⟨b,off+(L-1-k),none⟩):=o 11 (by decide);obtain rfl:h8=.int .u8 (d.toNat:Int):=o 12 (by decide);obtain rfl:o1=.int .u32 (d.toNat:Int):=o 13 (by decide);obtain rfl:i1=.int .i64 (k:Int):=o 14 (by decide);obtain rfl:i0=.int .i64 ((k:Int)%4):=o 15 (by decide);obtain rfl:r4=.int .i64 ((k:Int)%4*8):=o 16 (by decide);obtain rfl:n0=.int .u32 (u:Int):=o 17 (by decide);obtain rfl:s2=.int .u32 ((r+u:Nat):Int):=o 18 (by decide);obtain rfl:h6=.pointer (some ⟨j.heap.size,k/4,none⟩):=o 19 (by decide);clear o;simp only[cM,PW,SM,RZ,Q5,Qe]
   -- END R11
    have a9:=y.out.below H;have k2:=a9.free (k/4);have m3:=(H.cell (p:=⟨j.heap.size,k/4,none⟩) e0).trans cr;have k5:=J a9;have l1:=J H;clear a9 H;refine gd (W':=W2.setCell ⟨j.heap.size,k/4,none⟩ (.int .u32 ((r+u:Nat):Int))) ?_ ?_
    ·simp only[execOp,dm];go_simp
    clear m3 k2 cr fr cb q2 q3 q4 q5 q6 q7 q8 q9 l7 k1 l5 l4 k3
    go_wp2
    go_roundw
    case rel=>
     refine⟨k+1,by rw[HL.out];omega,Z,?_,(aF m.out l1.out m.out.size).setCell (Oh _) _⟩;have h1:=k5.out.put (i:=k/4) (by rw[ke]) ((r+u:Nat):Int) (r+u) Z;have h2:=l3.out;rw[l8.out]at h2;have h3:=FM HD.out (by rw[HL.out];exact i9);rw[X]at h3;rw[HL.out,hK,h3,<-h2];exact h1
    case measure=>simp[intOf];omega
  obtain rfl:k=L:=by omega
  have l:OwnN wr j.heap.size (.slice (some ⟨j.heap.size,0,none⟩) K K) (az (d8 q.1)):=by
   have h1:=l;have h2:=Jc M D;rw[HL.out,hK]at h2;rw[h2]at h1;exact h1
  have X:PT wr G [.slice (some ⟨j.heap.size,0,none⟩) K K] [aG (d8 q.1)]:=fQ (OkG.later (OkG.grown c5.out z.out A.out F.out) m.out) l.isD;have HQ:=J (uP hU (qz z.out (FN m.out)) (A.out.below m.out A.out.lt) (d2.out.later m.out) F.out X);clear l X
  go_wp2
  go_ret
  exact HQ.out⟩
theorem iE(o:Option Rat):(yj o).plain=true:=rfl
theorem My(s:Rdr)(z:s.rest.length<=1073741824):CtM 119 184 [.sl (am s.rest),nI s.err] [] (fX s).2.cells (yj (fX s).1):=by
 obtain⟨k,j⟩:∃q,eW 1 s=q:=⟨_,rfl⟩;obtain⟨a,p⟩:∃q,eV k.2=q:=⟨_,rfl⟩;obtain⟨b,u⟩:∃q,eV a.2=q:=⟨_,rfl⟩;have x:=uH 1 s;have v:=uI k.2;have y:=qv k.2;have w:=qv a.2;rw[j]at x;rw[p]at v y;rw[u]at w;refine CtM.of (n:=46) Tryz.func119 Z Z Z Z Z fun w0 G0 A=>?_
 refine ab<|aj 1 Z<|ab<|ae<|aa 1 Z<|cW (r:=.sl (am k.1)) (bs':=[(184,[.sl (am k.2.rest),nI (k.2.err)]),(65,[bT false,.sl [],.sl []])]) Z Z Z Z Z Z (j▸Lu s 1 (by omega)) Z Z Z Z<|aa 1 Z<|af<|ab<|ab<|ae<|aa 1 Z<|ag (t:=.box 0 0) Z Z Z (dz Z Z)<|aa 2 Z<|ag (t:=bT (decide (k.2.err≠0))) Z Z Z (ah (ai Z Z Z Zy) (au (qC (k.2.err) 0)))<|af<|aD Z (fun h=>?_) (fun h=>?_)
 ·refine ab ?_;have e:fX s=(none,⟨k.2.rest,k.2.err⟩):=by unfold fX;rw[j,if_pos h]
  refine aj 2 Z<|ax<|⟨⟨.inr Z,_,.cons ⟨_,_,_,_,Z,Z,.inl ⟨_,aI,Z,Z⟩⟩ .nil,qw e,iE _⟩,uK e Z,Z⟩
 obtain⟨c,m⟩:∃c,k.1=[c]:=by rw[<-j];exact Je (by rw[j];omega)
 have l:k.1[0]? =some c:=by rw[m];rfl
 have o:fX s=if 1<c.toNat then(none,⟨[],2⟩)else if b.2.err≠0 then(none,b.2)else if ie (decide (c.toNat=1)) a.1 b.1 then(some (eh (decide (c.toNat=1)) a.1 b.1),b.2)else(none,⟨[],2⟩):=by
  unfold fX;rw[j,p,u,if_neg h,m];rfl
 refine ar<|ab<|ab<|ae<|aa 1 Z<|ag (t:=.ref [.sc (.int .u8 ((c.toNat:Nat):Int))]) Z Z Z (aK (.sc (.int .u8 ((c.toNat:Nat):Int))) Z aP Z Z Z (fS l) (aV _) Z)<|aa 1 Z<|ag (t:=bT (decide (1<c.toNat))) Z Z Z (ah (ai Z Z Z Zy) (au (qH c.toNat 1)))<|af<|aD Z (fun f=>?_) (fun f=>?_)
 ·refine ab ?_;have e:fX s=(none,⟨[],2⟩):=by rw[o,if_pos f]
  refine ae<|aa 1 Z<|cW (r:=.tup []) (bs':=[(184,[.sl (am []),nI 2]),(65,[bT false,.sl [],.sl []])]) Z Z Z Z Z Z (rl k.2.rest k.2.err 2) Z Z Z Z<|af<|ab<|aj 2 Z<|ax<|⟨⟨.inr Z,_,.cons ⟨_,_,_,_,Z,Z,.inl ⟨_,aI,Z,Z⟩⟩ .nil,qw e,iE _⟩,uK e Z,Z⟩
 refine ar<|ab<|ae<|aa 1 Z<|cW (r:=aG a.1) (bs':=[(184,[.sl (am a.2.rest),nI (a.2.err)]),(65,[bT false,.sl [],.sl []])]) Z Z Z Z Z Z (p▸Lv k.2 (by omega)) Z Z Z Z<|aa 1 Z<|af<|ab<|ae<|aa 1 Z<|cW (r:=aG b.1) (bs':=[(184,[.sl (am b.2.rest),nI (b.2.err)]),(65,[bT false,.sl [],.sl []])]) Z Z Z Z Z Z (u▸Lv a.2 (by omega)) Z Z Z Z<|aa 1 Z<|af<|ab<|ab<|ae<|aa 1 Z<|ag (t:=.box 0 0) Z Z Z (dz Z Z)<|aa 2 Z<|ag (t:=bT (decide (b.2.err≠0))) Z Z Z (ah (ai Z Z Z Zy) (au (qC (b.2.err) 0)))<|af<|aD Z (fun g=>?_) (fun g=>?_)
 ·refine ab ?_;have e:fX s=(none,⟨b.2.rest,b.2.err⟩):=by rw[o,if_neg f,if_pos g]
  refine aj 2 Z<|ax<|⟨⟨.inr Z,_,.cons ⟨_,_,_,_,Z,Z,.inl ⟨_,aI,Z,Z⟩⟩ .nil,qw e,iE _⟩,uK e Z,Z⟩
 refine ar<|ab<|ae<|aa 1 Z<|ag (t:=.ref [.sc (.int .u8 ((c.toNat:Nat):Int))]) Z Z Z (aK (.sc (.int .u8 ((c.toNat:Nat):Int))) Z aP Z Z Z (fS l) (aV _) Z)<|aa 1 Z<|ag (t:=bT (decide (c.toNat=1))) Z Z Z (ah (ai Z Z Z Zy) (au (iF c.toNat 1)))<|aa 5 Z<|af<|ab<|ab<|ae<|aa 1 Z<|ag Z Z Z (ak Z (CT _ a.1 b.1 (by omega) (by omega)) Z Z)<|ag (t:=bT (!(ie (decide (c.toNat=1)) a.1 b.1))) Z Z Z (dw Z Z Zy)<|af<|aH Z (fun i=>?_) (fun i=>?_)
 ·refine ab ?_;have d:ie (decide (c.toNat=1)) a.1 b.1=false:=by simpa using i
  have e:fX s=(none,⟨[],2⟩):=by rw[o,if_neg f,if_neg g,d];rfl
  refine ae<|aa 1 Z<|cW (r:=.tup []) (bs':=[(184,[.sl (am []),nI 2]),(65,[bT false,.sl [],.sl []]),(65,[bT (decide (c.toNat=1)),aG a.1,aG b.1])]) Z Z Z Z Z Z (rl b.2.rest b.2.err 2) Z Z Z Z<|af<|ab<|aj 2 Z<|ax<|⟨⟨.inr Z,_,.cons ⟨_,_,_,_,Z,Z,.inl ⟨_,aI,Z,Z⟩⟩ .nil,qw e,iE _⟩,uK e Z,Z⟩
 refine ar<|ab ?_;have d:ie (decide (c.toNat=1)) a.1 b.1=true:=by simpa using i
 have e:fX s=(some (eh (decide (c.toNat=1)) a.1 b.1),⟨b.2.rest,b.2.err⟩):=by rw[o,if_neg f,if_neg g,d];rfl
 refine aj 2 Z<|ax<|⟨⟨.inr Z,_,.cons ⟨_,_,_,_,Z,Z,.inl ⟨_,aI,Z,Z⟩⟩ .nil,(uO d).trans (qw e),iE _⟩,uK e Z,Z⟩
theorem At.subB{w:World}{B b off:Nat}{l:List UInt8}(h:At w B (some ⟨b,off,none⟩) (bL l))(k m:Nat):At w B (some ⟨b,off+k,none⟩) (bL ((l.drop k).take m)):=fun f=>by
 rw[fw,Ox,OP]at f;obtain⟨i,c,e,d,g⟩:=h (by rw[fw];omega);cases e;refine⟨b,off+k,Z,d,fun j u a=>?_⟩;rw[P9];refine g (k+j) u ?_;simp only[bL,Q4,QS]at a⊢;rw[Ph]at a;split at a
 ·rwa[PB]at a
 cases a
theorem At.byte{w:World}{B:Nat}{A:Option Addr}{l:List UInt8}{i:Nat}(h:At w B A (bL l))(f:i<l.length):
  ∃b off,A=some ⟨b,off,none⟩/\b<B/\∀(j:Nat) (a:j<l.length),w.cell? ⟨b,off+j,none⟩=some (.int .u8 l[j].toNat):=by
 obtain⟨b,off,e,d,c⟩:=h (by rw[fw];omega);exact⟨b,off,e,d,fun j a=>c j _ (by simp[bL,Og a])⟩
theorem CV(l:List UInt8)(k:Nat)(b:k<8)(a:9<=l.length):d8 ((((l.drop 1).take 8)).take (k+1))=d8 (((l.drop 1).take 8).take k)*256+(l[1+k]'(by omega)).toNat:=by
 have h:k<((l.drop 1).take 8).length:=by simp;omega
 rw[OM h,lc];simp[P0]
theorem CW{l:List UInt8}{k:Nat}(h:l.length<=k)(a:k<=7):d8 l<72057594037927936:=by
 have b:=lV l;have d:256^l.length<=256^7:=OQ (by decide) (by omega);have c:(256^7:Nat)=72057594037927936:=by decide
 omega
theorem K0(N x:Nat)(d:N<72057594037927936)(c:x<256):bits .or .u64 ((N:Int)*256) (x:Int)=((N*256+x:Nat):Int):=by
 have h:=u64_or_nat (N*256) x (by omega) (by omega);have e:((N*256:Nat):Int)=(N:Int)*256:=by omega
 rw[e]at h;rw[h];have a:N*256|||x=N*256+x:=by
  have:=PU (i:=8) (b:=x) c N;rw[Qp]at this;exact this.symm
 rw[a]
theorem FO(N:Nat)(a:N<18446744073709551616):wrap64 (bits .xor .u64 (N:Int) 9223372036854775808)=(N:Int)-9223372036854775808:=by
 have h:=u64_xor_nat N 9223372036854775808 a (by decide);rw[show((9223372036854775808:Nat):Int)=9223372036854775808 from rfl]at h;rw[h,Du N a];simp only[wrap64];omega
theorem FP(A:Option Addr)(c:Nat)(l:List UInt8)(w:World)(h:l.length<9):
  Calls Tryz.prog 181 #[.slice A l.length c] w fun e w'=>e=.returned (.tuple #[.agg #[.int .i64 0,.int .i64 0,.string ⟨#[]⟩],.int .i64 0])/\Below w.heap.size w w':=by
 go_enter Tryz.func181,Tryz.ntmps181
 go_wp2
 exact bodyPost_ret (v:=.tuple #[.agg #[.int .i64 0,.int .i64 0,.string ⟨#[]⟩],.int .i64 0]) (by simp[results,Tryz.results181,go_sem]) Z ⟨Z,(Below.refl _ _).alloc (Oh _) _⟩
theorem CY(b off c:Nat)(l:List UInt8)(w:World)(S:9<=l.length)(hc:l.length<=c)(hm:c<=9223372036854775807)(U:b<w.heap.size)(d:∀(j:Nat) (hj:j<l.length),w.cell? ⟨b,off+j,none⟩=some (.int .u8 l[j].toNat)):
  Calls Tryz.prog 181 #[.slice (some ⟨b,off,none⟩) l.length c] w fun e w'=>e=.returned (.tuple #[.agg #[.int .i64 1,.int .i64 ((d8 ((l.drop 1).take 8):Int)-9223372036854775808),.string ⟨#[]⟩],.int .i64 9])/\Below w.heap.size w w':=by
 have Q:=J d;clear d;have X:(9:Int)<=(l.length:Int):=by omega
 have a1:(l.length:Int)<=(c:Int):=by omega
 go_enter Tryz.func181,Tryz.ntmps181
 obtain⟨W,O,r,h,_⟩:=xe w 77 #[.int .i64 0,.int .i64 0,.string ⟨#[]⟩];have Y:=J O;have f:=J r;have s:=J h;clear O r h
 go_wp2
 rw[Y.out]
 go_loop [4,14] (fun n i=>∃k:Nat,k<=8/\i=.int .i64 k/\n=.int .u64 (d8 (((l.drop 1).take 8).take k):Int)) (fun _ i=>8-(intOf i).toNat)
 case atStart=>exact⟨0,by omega,Z,by simp[d8]⟩
 case round=>
  obtain⟨k,hk,rfl,rfl⟩:=hrel;by_cases G:k<8
  ·have C:=J (CV l k G S);have m:=CW (l:=((l.drop 1).take 8).take k) (k:=k) (by simp;omega) (by omega);have H:W.cell? ⟨b,off+1+k,none⟩=some (.int .u8 (l[1+k]'(by omega)).toNat):=by
    rw[P9];exact(f.out.cell (p:=⟨b,off+(1+k),none⟩) U).trans (Q.out (1+k) (by omega))
   have o:(l[1+k]'(by omega)).toNat<256:=UInt8.toNat_lt _;generalize (l[1+k]'(by omega)).toNat=x at C H o;generalize d8 (((l.drop 1).take 8).take k)=N at C m⊢;have I:=J (K0 N x m o)
   go_wp2
   go_round
   case rel=>exact⟨k+1,by omega,by go_num,by rw[I.out,C.out]⟩
   case measure=>simp[intOf];omega
  obtain rfl:k=8:=by omega
  have K:=J (show d8 (((l.drop 1).take 8).take 8)=d8 ((l.drop 1).take 8) by rw[List.take_take];rfl);have a:d8 ((l.drop 1).take 8)<18446744073709551616:=by
   have h1:=lV ((l.drop 1).take 8);have V:((l.drop 1).take 8).length=8:=by simp;omega
   rw[V]at h1;have h3:(256^8:Nat)=18446744073709551616:=by decide
   omega
  have t:=J (FO _ a);generalize L:d8 (((l.drop 1).take 8).take 8)=N at K⊢;have a2:=J L;clear L a;obtain⟨M,y⟩:∃M,d8 ((l.drop 1).take 8)=M:=⟨_,rfl⟩;rw[y]at K t;have A:=J y;clear y;obtain rfl:N=M:=K.out
  go_wp2_with fail
  rw[t.out];refine(oA _ _).mono ?_;rintro e w1 ⟨rfl,g⟩;have q:=s.out.below g s.out.lt;obtain⟨B,D,u,R,f1,f2⟩:=q.three;have E:=J g;clear g
  go_wp2
  clear B D u R f1 f2;obtain⟨w6,T,z,F,a0,P⟩:=eZ q (.int .i64 1) (.int .i64 ((N:Int)-9223372036854775808)) (.string ⟨#[]⟩);rw[T];obtain⟨B,D,u,_,_,_⟩:=z.three;refine bodyPost_ret (v:=.tuple #[.agg #[.int .i64 1,.int .i64 ((N:Int)-9223372036854775808),.string ⟨#[]⟩],.int .i64 9]) (by simp[results,Tryz.results181,go_sem,B,D,u]) Z ⟨by rw[A.out],?_⟩;exact(aF f.out E.out f.out.size).trans F
theorem wU:∀(l:List UInt8) (k:Nat) (a:k<l.length),k<=jd l->l[k].toNat≠0->k+1<=jd l
 |[],k,a,_,_=>by simp at a
 |c::l,0,a,_,h=>by
  have b:c≠0:=fun e=>h (by subst e;rfl)
  simp only[jd,if_neg b];omega
 |c::l,k+1,a,hz,h=>by
  simp only[jd]at hz⊢;split at hz
  ·omega
  rename_i b;rw[if_neg b];have:=wU l k (by simpa using a) (by omega) (by simpa using h);omega
theorem AW:∀(l:List UInt8) (k:Nat) (a:k<l.length),l[k].toNat=0->jd l<=k
 |[],k,a,_=>by simp at a
 |c::l,0,a,h=>by
  have b:c=0:=Qu.1 h;simp[jd,b]
 |c::l,k+1,a,h=>by
  have:=AW l k (by simpa using a) (by simpa using h);simp only[jd];split<;>omega
def Mz(l:List UInt8)(w:World)(e:Ending)(w':World):Prop:=(e=.returned (if jd (l.drop 1)<(l.drop 1).length then .tuple #[.agg #[.int .i64 2,.int .i64 0,.string ⟨((l.drop 1).take (jd (l.drop 1))).toArray⟩],.int .i64 ((jd (l.drop 1):Nat)+2)]
 else .tuple #[.agg #[.int .i64 0,.int .i64 0,.string ⟨#[]⟩],.int .i64 0]))/\Below w.heap.size w w'
theorem uQ(b off c:Nat)(l:List UInt8)(w:World)(h1:1<=l.length)(hc:l.length<=c)(hm:c<=9223372036854775807)(o:At w w.heap.size (some ⟨b,off,none⟩) (bL l)):
  Calls Tryz.prog 182 #[.slice (some ⟨b,off,none⟩) l.length c] w (Mz l w):=by
 obtain⟨b',a0,e,hb,d⟩:=o.byte (i:=0) (by omega);cases e;have HC:=J d;have R:=J o;clear d o;obtain⟨W,hW,G,A,_⟩:=xe w 77 #[.int .i64 0,.int .i64 0,.string ⟨#[]⟩];have HW:=J hW;have f:=J G;have j:=J A;clear hW G A;have t:=xF (l.drop 1);have D:(l.drop 1).length+1=l.length:=by simp;omega
 have H:=J D;have K:(l.drop 1).length+1<=l.length:=by omega
 obtain⟨z,U⟩:∃z,jd (l.drop 1)=z:=⟨_,rfl⟩;have B:=J U;rw[U]at t;have a3:=J t;clear t U D K
 go_enter Tryz.func182,Tryz.ntmps182
 go_wp2
 rw[HW.out]
 go_loop [4] (fun i=>∃k:Nat,k<=z/\k+1<=l.length/\i=.int .i64 ((k:Int)+1)) (fun i=>l.length-(intOf i).toNat)
 case atStart=>exact⟨0,by omega,by omega,Z⟩
 case round=>
  obtain⟨k,hk,a1,rfl⟩:=hrel;by_cases a5:k+1<l.length
  ·have Y:W.cell? ⟨b,off+(k+1),none⟩=some (.int .u8 (l[k+1]'(by omega)).toNat):=(f.out.cell (p:=⟨b,off+(k+1),none⟩) hb).trans (HC.out (k+1) (by omega));have s:k<(l.drop 1).length:=by have:=H.out;omega
   have h:=J (show(l.drop 1)[k].toNat=(l[k+1]'(by omega)).toNat by simp);generalize (l[k+1]'(by omega)).toNat=x at Y h;by_cases N:x=0
   ·subst N;have L:=J (show z=k by have:=AW (l.drop 1) k s h.out;rw[B.out]at this;omega);have a2:1<c:=by omega
    obtain⟨F,g⟩:∃F,(l.drop 1).take k=F:=⟨_,rfl⟩;have C:F.length=k:=by rw[<-g,Ox];omega
    have I:=Dd (c-1) ((R.out.below f.out).subB 1 k);rw[g,C]at I;have Q:=J g;have a:=J (show z<(l.drop 1).length by have:=L.out;omega);clear g C h s
    go_wp2_with fail
    refine(i6 _ _).mono ?_;rintro e w1 ⟨rfl,u⟩;have E:=j.out.below u j.out.lt;obtain⟨q,r,m,O,S,X⟩:=E.three;have V:=J u;clear u I
    go_wp2
    clear q r m O S X;obtain⟨w6,P,n,y,T,M⟩:=eZ E (.int .i64 2) (.int .i64 0) (.string ⟨F.toArray⟩);rw[P];obtain⟨q,r,m,_,_,_⟩:=n.three;refine bodyPost_ret (v:=.tuple #[.agg #[.int .i64 2,.int .i64 0,.string ⟨F.toArray⟩],.int .i64 ((k:Int)+1+1)]) (by simp[results,Tryz.results182,go_sem,q,r,m]) Z ⟨?_,(aF f.out V.out f.out.size).trans y⟩;rw[B.out,if_pos a.out,L.out,Q.out,show(k:Int)+1+1=(k:Int)+2 by omega]
   have L:=J (show k+1<=z by have:=wU (l.drop 1) k s (by rw[B.out];omega) (by rw[h.out];exact N);rw[B.out]at this;omega);have a4:((x:Int)==0)=false:=by simpa using N
   go_wp2
   go_round
   case rel=>exact⟨k+1,L.out,by omega,by go_num⟩
   case measure=>simp[intOf];omega
  have a:=J (show¬z<(l.drop 1).length by have:=H.out;omega);obtain⟨q,r,m,O,S,X⟩:=j.out.three
  go_wp2
  clear q r m O S X;obtain⟨w6,P,n,y,T,M⟩:=eZ j.out (.int .i64 0) (.int .i64 0) (.string ⟨#[]⟩);rw[P];obtain⟨q,r,m,_,_,_⟩:=n.three;refine bodyPost_ret (v:=.tuple #[.agg #[.int .i64 0,.int .i64 0,.string ⟨#[]⟩],.int .i64 0]) (by simp[results,Tryz.results182,go_sem,q,r,m]) Z ⟨?_,f.out.trans y⟩;rw[B.out,if_neg a.out]
end Go.Proofs.YtfoejfohbkmmeaaGreatDoor
