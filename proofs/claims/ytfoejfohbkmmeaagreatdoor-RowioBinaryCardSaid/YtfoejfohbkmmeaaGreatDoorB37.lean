import Derived.Test.YtfoejfohbkmmeaaGreatDoorB09
import Derived.Test.YtfoejfohbkmmeaaGreatDoorB36
import Derived.Test.YtfoejfohbkmmeaaGreatDoorB00
import Derived.Test.YtfoejfohbkmmeaaGreatDoorB06
import Derived.Test.YtfoejfohbkmmeaaGreatDoorB08
set_option maxRecDepth 100000
set_option maxHeartbeats 4000000
namespace Go.Proofs.YtfoejfohbkmmeaaGreatDoor
open Go.RowKit
theorem AN{x y:Operand}(a:Nat)(h:a<256)(w:World):(do eqGuard .and 5 x y (.int .u8 (a:Nat)) (.int .u8 127);binOp .and 5 (.int .u8 (a:Nat)) (.int .u8 127):Sem Value).run Tryz.prog w=.ok (.int .u8 ((a%128:Nat):Int)) w:=by
 have key:bits .and .u8 (a:Int) 127=((a%128:Nat):Int):=by
  have:∀x:Fin 256,bits .and .u8 (x.val:Int) 127=((x.val%128:Nat):Int):=by decide+kernel
  exact this ⟨a,h⟩
 go_simp
theorem CL{x y:Operand}(a k r:Nat)(c:k<64)(b:a*2^k%18446744073709551616=r)(w:World):(do eqGuard .shl 89 x y (.int .u64 (a:Nat)) (.int .i64 (k:Nat));binOp .shl 89 (.int .u64 (a:Nat)) (.int .i64 (k:Nat)):Sem Value).run Tryz.prog w=.ok (.int .u64 ((r:Nat):Int)) w:=by
 subst b;have key:IntKind.u64.wrap ((a:Int)*2^k)=((a*2^k%18446744073709551616:Nat):Int):=by
  rw[IntKind.wrap_u64,show((a:Int)*2^k)=((a*2^k:Nat):Int) by simp];omega
 simp[eqGuard,binOp,Op.shift,IntKind.bits];first
  |exact key
  |(rw[if_neg (by omega)];simpa using key)
  |(simpa using key)
theorem FA{x y:Operand}(a b r:Nat)(d:a<18446744073709551616)(e:b<18446744073709551616)(c:a|||b=r)(w:World):(do eqGuard .or 89 x y (.int .u64 (a:Nat)) (.int .u64 (b:Nat));binOp .or 89 (.int .u64 (a:Nat)) (.int .u64 (b:Nat)):Sem Value).run Tryz.prog w=.ok (.int .u64 ((r:Nat):Int)) w:=by
 have key:=bits_or_u64_nat a b d e;rw[c]at key;clear c d e;go_simp
theorem IZ(i:Nat):(2:Nat)^(7*i)=128^i:=by rw[QG]
theorem yk{i n:Nat}(a:i<=9)(h:n<128^i):n<9223372036854775808:=Oz h (Oq (OQ (by decide) a) (by decide))
theorem NE{i n d:Nat}(f:i<=9)(h:n<128^i)(k:d<128):(n|||(d*128^i%18446744073709551616))=(n+d*128^i)%18446744073709551616:=by
 have j:=yk f h;have e:d*128^i%18446744073709551616=(d*128^i%18446744073709551616)/2^(7*i)*2^(7*i):=by
  have c:(18446744073709551616:Nat)=2^(7*i)*2^(64-7*i):=by
   rw[<-PN,show 7*i+(64-7*i)=64 by omega]
  rw[<-IZ,c,OF d,Nat.mul_mod_mul_left,Q3 _ (Pw (by decide)),OF]
 have g:n+d*128^i%18446744073709551616<18446744073709551616:=by
  have l:d*128^i%18446744073709551616<18446744073709551616:=Pe _ (by decide);have b:(128^i)∣18446744073709551616-d*128^i%18446744073709551616:=by
   refine Nat.dvd_sub ?_ ?_
   ·rw[<-IZ];exact⟨2^(64-7*i),by rw[<-PN,show 7*i+(64-7*i)=64 by omega]⟩
   rw[e,IZ];exact Nat.dvd_mul_left ..
  have:=Nat.le_of_dvd (by omega) b;omega
 rw[Nat.add_mod,OY (a:=n) (by omega),OY g];rw[e];generalize (d*128^i%18446744073709551616)/2^(7*i)=q;rw[Sk,OF,<-Nat.two_pow_add_eq_or_of_lt (by rw[IZ];exact h),P0]
theorem Lr{i n d:Nat}(h:n<128^i)(a:d<128):n+d*128^i<128^(i+1):=by
 have:=OT (128^i) (show d+1<=128 by omega);rw[Pf]at this;rw[OO];omega
def Ls(p:Nat×Nat×Nat):Tree:=.tup [.sc (.int .u64 ((p.1:Nat):Int)),.sc (.int .i64 ((p.2.1:Nat):Int)),.sc (.int .i64 ((p.2.2:Nat):Int))]
theorem qn{p:Nat×Nat×Nat}{a b c:Nat}(h:p=(a,b,c)): .tup [.sc (.int .u64 ((a:Nat):Int)),nI b,nI c]=Ls p:=by rw[h];rfl
theorem CM{f i n:Nat}{c:UInt8}{l:List UInt8}:gY (f+1) i n (c::l)=if 128<=c.toNat then gY f (i+1) (n+c.toNat%128*128^i) l else if(0<i/\c.toNat=0)\/(i=9/\1<c.toNat)then(0,0,2)else(n+c.toNat%128*128^i,i+1,0):=rfl
theorem uJ(l:List UInt8)(k:Nat):Tree.sl ((((am l).take (am l).length)).drop k)=.sl (am (l.drop k)):=by rw[Oy (Oh _)];unfold am;rw[QS]
theorem wR(l:List UInt8)(k:Nat):Tree.sl (((am l).take k).drop 0)=.sl (am (l.take k)):=by rw[PQ];unfold am;rw[Q4]
theorem Ea{p:Nat×Rdr}{a:Nat}{b:Rdr}(h:p=(a,b)):Tree.sc (.int .u64 ((a:Nat):Int))=.sc (.int .u64 ((p.1:Nat):Int)):=by rw[h]
theorem mK{α:Type}{p:α×Rdr}{a:α}{l:List UInt8}{e:Nat}{ty:TypeId}(h:p=(a,⟨l,e⟩)):[(ty,[Tree.sl (am l),nI e])][0]? =some (ty,p.2.cells):=by rw[h];rfl
theorem uK{α:Type}{p:α×Rdr}{a:α}{l:List UInt8}{e:Nat}{x:TypeId×List Tree}{bs:List (TypeId×List Tree)}{ty:TypeId}(h:p=(a,⟨l,e⟩))(b:x=(ty,[Tree.sl (am l),nI e])):(x::bs)[0]? =some (ty,p.2.cells):=by rw[h,b];rfl
theorem qo{p:List UInt8×Rdr}{a:List UInt8}{b:Rdr}(h:p=(a,b)):Tree.sl (am a)=.sl (am p.1):=by rw[h]
theorem Ju:jm Tryz.prog 184 0=some 0:=by kernel_rfl
theorem Jv:jm Tryz.prog 184 1=some 1:=by kernel_rfl
theorem Mr:ja Tryz.prog 22=true:=by kernel_rfl
theorem Ms:ja Tryz.prog 31=true:=by kernel_rfl
theorem Mt:(Tryz.prog.info? 22).map (·.size)=some 1:=by kernel_rfl
theorem Mu:(Tryz.prog.info? 31).map (·.size)=some 1:=by kernel_rfl
theorem Lt:sM Tryz.prog 184=some ([(0,1),(1,1)],[.slice none 0 0,.int .i64 0]):=by kernel_rfl
theorem I1(l:List UInt8)(F:l.length<=4611686018427387904):Ct 179 [.sl (am l)] (Ls (gY 10 0 0 l)):=by
 refine Ct.of (n:=54) Tryz.func179 Z Z Z Z Z fun w0 G0=>?_
 refine ab<|aj 3 Z<|ab<|aj 1 Z<|ab<|ab<|aj 1 Z<|aA<|aO (fun A B=>∃(i:Nat) (n:Nat),(i<=10/\n<128^i/\gY (10-i) i n (l.drop i)=gY 10 0 0 l)/\A=10-i/\B=⟨54,[(0,.sl (am l)),(5,.sc (.int .u64 ((n%18446744073709551616:Nat):Int))),(7,nI i)],[],[]⟩) 0 0 ⟨0,0,⟨OA _,by decide,Z⟩,Z,Z⟩ .rf ?_;rintro A B ⟨i,n,⟨G,s,b⟩,rfl,rfl⟩;refine ab<|ae<|ag (t:=bT (decide (i<10))) Z Z Z (ah (ai Z Z Z Zy) (au (gK i 10)))<|af<|ab<|aD Z (fun u=>?_) (fun u=>?_)
 ·obtain⟨f,z⟩:∃f,10-i=f+1:=⟨9-i,by omega⟩;refine ar<|ab<|aA<|ab<|aj 2 Z<|ab<|ab<|ae<|aa 2 Z<|ag (t:=nI l.length) Z Z Z (ah (aW Z aP Z) (by simp only[Ol,aC]))<|ag (t:=bT (decide (l.length<=i))) Z Z Z (ah (ai Z Z Z Zy) (au (Gg i l.length)))<|af<|aD Z (fun x=>?_) (fun x=>?_)
  ·refine ab<|aj 3 Z<|ax<|⟨.inr Z,_,.cons Z (.cons Z (.cons Z .nil)),qn (by rw[<-b,Ov (by omega),z];rfl),Z⟩
  obtain⟨c,j⟩:∃c,l[i]? =some c:=⟨_,Og (by omega)⟩;have y:l.drop i=c::l.drop (i+1):=by
   obtain⟨r,q⟩:=Ok.1 j;rw[Ow r,q]
  have D:c.toNat<256:=c.toNat_lt;have o:c.toNat%128<128:=Pe _ (by decide);rw[y,z,CM]at b;have E:=yk (by omega) s;have v:n%18446744073709551616=n:=OY (by omega);refine ar<|ab<|ae<|aa 3 Z<|ag (t:=.ref [.sc (.int .u8 ((c.toNat:Nat):Int))]) Z Z Z (aK (.sc (.int .u8 ((c.toNat:Nat):Int))) Z aP Z Z Z (fS j) (aV _) Z)<|aa 1 Z<|ag (t:=.sc (.int .u8 ((c.toNat%128:Nat):Int))) Z Z Z (ai Z Z Z (fun w=>AN c.toNat c.toNat_lt w))<|ag (t:=.sc (.int .u64 ((c.toNat%128:Nat):Int))) Z Z Z (ah (bM Z ch cj Z) (pX (by omega)))<|aa 1 Z<|ag (t:=nI (7*i)) Z Z Z (ah (ai Z Z Z Zy) (bp (by omega)))<|ag (t:=.sc (.int .u64 ((c.toNat%128*128^i%18446744073709551616:Nat):Int))) Z Z Z (ai Z Z Z (fun w=>CL (c.toNat%128) (7*i) _ (by omega) (by rw[IZ]) w))<|ag (t:=.sc (.int .u64 (((n+c.toNat%128*128^i)%18446744073709551616:Nat):Int))) Z Z Z (ai Z Z Z (fun w=>FA (n%18446744073709551616) _ _ (Pe _ (by decide)) (Pe _ (by decide)) (by rw[v];exact NE (by omega) s o) w))<|aa 1 Z<|af<|ab<|ab<|ae<|aa 2 Z<|ag (t:=.ref [.sc (.int .u8 ((c.toNat:Nat):Int))]) Z Z Z (aK (.sc (.int .u8 ((c.toNat:Nat):Int))) Z aP Z Z Z (fS j) (aV _) Z)<|aa 1 Z<|ag (t:=bT (decide (128<=c.toNat))) Z Z Z (ah (ai Z Z Z Zy) (au (Gg c.toNat 128)))<|af<|aD Z (fun p=>?_) (fun p=>?_)
  ·have m:=p;rw[if_pos m]at b;refine aQ<|ae<|ag (t:=nI (i+1)) Z Z Z (ah (ai Z Z Z Zy) (bp (by omega)))<|aa 1 Z<|af<|⟨_,_,?_,⟨i+1,n+c.toNat%128*128^i,?_,Z,Z⟩,.rf⟩
   ·omega
   exact⟨by omega,Lr s o,by rw[show 10-(i+1)=f by omega];exact b⟩
  have m:=p;refine ar<|ab<|ab<|ae<|aa 1 Z<|ag (t:=bT (decide (0<i))) Z Z Z (ah (ai Z Z Z Zy) (au (qH i 0)))<|aa 1 Z<|aw (t:=.sl (am l)) Z Z Z Z (fun a=>av Z Z)<|aw (t:=nI i) Z Z Z Z (fun a=>av Z Z)<|aw (t:=.ref [.sc (.int .u8 ((c.toNat:Nat):Int))]) Z Z Z Z (fun a=>aK (.sc (.int .u8 ((c.toNat:Nat):Int))) Z aP (if_pos a) (if_pos a) Z (fS j) (aV _) Z)<|aw (t:=.sc (.int .u8 ((c.toNat:Nat):Int))) Z Z Z Z (fun a=>be Z (if_pos a) lr Z)<|aw (t:=bT (decide (c.toNat=0))) Z Z Z Z (fun a=>ah (ai Z (if_pos a) Z (fun _=>rfl)) (au (iF c.toNat 0)))<|ag (t:=bT ((decide (0<i))&&(decide (c.toNat=0)))) Z Z Z (aL Z Z (fun d=>(if_pos d).trans (au (by rw[d];rfl))) (fun d=>(au (by rw[d];rfl))))<|aa 1 Z<|aw (t:=nI i) Z Z Z Z (fun a=>av Z Z)<|aw (t:=bT (decide (i=9))) Z Z Z Z (fun a=>ah (ai Z (if_pos a) Z (fun _=>rfl)) (au (iF i 9)))<|aw (t:=bT (decide (i=9))) Z Z Z Z (fun a=>av Z (if_pos a))<|ce (t:=.sl (am l)) Z Z Z Z (fun a=>av Z Z)<|ce (t:=nI i) Z Z Z Z (fun a=>av Z Z)<|ce (t:=.ref [.sc (.int .u8 ((c.toNat:Nat):Int))]) Z Z Z Z (fun a=>aK (.sc (.int .u8 ((c.toNat:Nat):Int))) Z aP (if_pos a) (if_pos a) Z (fS j) (aV _) Z)<|ce (t:=.sc (.int .u8 ((c.toNat:Nat):Int))) Z Z Z Z (fun a=>be Z (if_pos a) lr Z)<|ce (t:=bT (decide (1<c.toNat))) Z Z Z Z (fun a=>ah (ai Z (if_pos a) Z (fun _=>rfl)) (au (qH c.toNat 1)))<|aw (t:=bT ((decide (i=9))&&(decide (1<c.toNat)))) Z Z Z Z (fun a=>aL Z (if_pos a) (fun d=>(if_pos ⟨a,d⟩).trans (au (by rw[d];rfl))) (fun d=>(au (by rw[d];rfl))))<|ag (t:=bT (((decide (0<i))&&(decide (c.toNat=0)))||((decide (i=9))&&(decide (1<c.toNat))))) Z Z Z (aL Z Z (fun d=>(au (by rw[d];rfl))) (fun d=>(if_pos d).trans (au (by rw[d];rfl))))<|af<|aH Z (fun g=>?_) (fun g=>?_)
  ·have e:(0<i/\c.toNat=0)\/(i=9/\1<c.toNat):=by
    rcases RR.1 g with h|h
    ·rw[Oo]at h;exact .inl ⟨of_decide_eq_true h.1,of_decide_eq_true h.2⟩
    rw[Oo]at h;exact .inr ⟨of_decide_eq_true h.1,of_decide_eq_true h.2⟩
   refine ab<|aj 3 Z<|ax<|⟨.inr Z,_,.cons Z (.cons Z (.cons Z .nil)),qn (by rw[<-b,if_neg m,if_pos e]),Z⟩
  have e:¬((0<i/\c.toNat=0)\/(i=9/\1<c.toNat)):=by
   rintro(⟨r,q⟩|⟨r,q⟩)
   ·rw[decide_eq_true r,decide_eq_true q]at g;simp at g
   rw[decide_eq_true r,decide_eq_true q]at g;simp at g
  have k:n+c.toNat%128*128^i<18446744073709551616:=by
   by_cases C:i=9
   ·subst C;have:c.toNat<=1:=by
     rcases OS 1 c.toNat with h|h
     ·exact absurd (.inr ⟨Z,h⟩) e
     exact h
    have q:c.toNat%128*128^9<=1*128^9:=OT _ (by omega);omega
   have:=yk (n:=n+c.toNat%128*128^i) (i:=i+1) (by omega) (Lr s o);omega
  refine ar<|ab<|ae<|aa 2 Z<|ag (t:=nI (i+1)) Z Z Z (ah (ai Z Z Z Zy) (bp (by omega)))<|aa 3 Z<|af<|ax<|⟨.inr Z,_,.cons Z (.cons Z (.cons Z .nil)),qn (by rw[<-b,if_neg m,if_neg e,OY k]),Z⟩
 refine aQ<|ab<|aj 3 Z<|ax<|⟨.inr Z,_,.cons Z (.cons Z (.cons Z .nil)),qn (by rw[<-b,show 10-i=0 by omega];rfl),Z⟩
theorem rl(l:List UInt8)(z e:Nat):CtM 180 184 [.sl (am l),nI z] [nI e] [.sl (am []),nI e] (.tup []):=by
 refine CtM.of (n:=11) Tryz.func180 Z Z Z Z Z fun w0 G0 a=>?_
 refine ab<|ae<|aa 2 Z<|ag (t:=.box 0 0) Z Z Z (dz Z Z)<|aa 2 Z<|af<|ae<|aa 1 Z<|ag (t:=.box 0 0) Z Z Z (dz Z Z)<|aa 2 Z<|ph 0 0 (bs':=[(184,[.sl [],nI e])]) Z Z Z<|af<|⟨⟨.inl Z,_,.nil,Z,Z⟩,Z,Z⟩
theorem rm (s : Rdr) (m : Nat) (hl : s.rest.length ≤ 4611686018427387904) : CtM 117 184 [.sl (am s.rest), .sc (.int .i64 ((s.err : Nat) : Int))] [.sc (.int .u64 ((m : Nat) : Int))] (c8 m s).2.cells (.sc (.int .u64 (((c8 m s).1 : Nat) : Int))) := by
 obtain ⟨p, hp⟩ : ∃ p, gY 10 0 0 s.rest = p := ⟨_, rfl⟩
 refine CtM.of (n := 44) Tryz.func117 rfl rfl rfl rfl rfl fun w0 G0 g0 => ?_
 refine ab ?_
 refine ae ?_
 refine ag (t := .sc (.int .u64 0)) rfl rfl rfl (bE rfl rfl) ?_
 refine af ?_
 refine ab ?_
 refine ab ?_
 refine ae ?_
 refine ag (t := .box 0 0) rfl rfl rfl (av rfl rfl) ?_
 refine ag (t := .box 0 0) rfl rfl rfl (dz rfl rfl) ?_
 refine ag (t := .box 0 1) rfl rfl rfl (aq rfl rfl Jv rfl) ?_
 refine ag (t := .sc (.int .i64 ((s.err : Nat) : Int))) rfl rfl rfl (ay rfl rfl rfl Ms rfl) ?_
 refine ag (t := .sc (.bool (decide (s.err ≠ 0)))) rfl rfl rfl (ah (ai rfl rfl rfl (fun _ => rfl)) (au (qC (s.err) (0)))) ?_
 refine af ?_
 refine aH (b := decide (s.err ≠ 0)) rfl (fun hc1 => ?_) (fun hc1 => ?_)
 ·
  replace hc1 := of_decide_eq_true hc1
  refine ab ?_
  have hU : c8 m s = (0, ⟨s.rest, s.err⟩) := if_pos hc1
  refine ae ?_
  refine ag (t := .sc (.int .u64 0)) rfl rfl rfl (bE rfl rfl) ?_
  refine af ?_
  refine ax ?_
  exact ⟨⟨.inr rfl, _, .cons rfl .nil, Ea hU, rfl⟩, mK hU, rfl⟩
 ·
  replace hc1 := of_decide_eq_false hc1
  refine ar ?_
  refine ab ?_
  refine ae ?_
  refine ag (t := .box 0 0) rfl rfl rfl (av rfl rfl) ?_
  refine ag (t := .box 0 0) rfl rfl rfl (dz rfl rfl) ?_
  refine ag (t := .box 0 0) rfl rfl rfl (aq rfl rfl Ju rfl) ?_
  refine ag (t := .sl (am s.rest)) rfl rfl rfl (ay rfl rfl rfl Mr rfl) ?_
  refine ag (t := .tup [.sc (.int .u64 ((p.1 : Nat) : Int)), .sc (.int .i64 ((p.2.1 : Nat) : Int)), .sc (.int .i64 ((p.2.2 : Nat) : Int))]) rfl rfl rfl (ak rfl (hp ▸ I1 s.rest hl) rfl rfl) ?_
  refine ag (t := .tup [.sc (.int .u64 ((p.1 : Nat) : Int)), .sc (.int .i64 ((p.2.1 : Nat) : Int)), .sc (.int .i64 ((p.2.2 : Nat) : Int))]) rfl rfl rfl (av rfl rfl) ?_
  refine ag (t := .sc (.int .u64 ((p.1 : Nat) : Int))) rfl rfl rfl (ef rfl rfl rfl) ?_
  refine ag (t := .sc (.int .i64 ((p.2.1 : Nat) : Int))) rfl rfl rfl (ef rfl rfl rfl) ?_
  refine ag (t := .sc (.int .i64 ((p.2.2 : Nat) : Int))) rfl rfl rfl (ef rfl rfl rfl) ?_
  refine ag (t := .sc (.int .u64 ((p.1 : Nat) : Int))) rfl rfl rfl (bE rfl rfl) ?_
  refine ag (t := .sc (.int .i64 ((p.2.1 : Nat) : Int))) rfl rfl rfl (bE rfl rfl) ?_
  refine ag (t := .sc (.int .i64 ((p.2.2 : Nat) : Int))) rfl rfl rfl (bE rfl rfl) ?_
  refine af ?_
  refine ab ?_
  refine ab ?_
  refine ae ?_
  refine ag (t := .sc (.int .i64 ((p.2.2 : Nat) : Int))) rfl rfl rfl (av rfl rfl) ?_
  refine ag (t := .sc (.bool (decide (p.2.2 = 0)))) rfl rfl rfl (ah (ai rfl rfl rfl (fun _ => rfl)) (au (iF (p.2.2) (0)))) ?_
  refine ag (t := .sc (.bool (decide (p.2.2 = 0)))) rfl rfl rfl (av rfl rfl) ?_
  refine aw (t := .sc (.int .u64 ((p.1 : Nat) : Int))) rfl rfl rfl rfl (fun hC => av rfl rfl) ?_
  refine aw (t := .sc (.int .u64 ((m : Nat) : Int))) rfl rfl rfl rfl (fun hC => av rfl rfl) ?_
  refine aw (t := .sc (.bool (decide (m < p.1)))) rfl rfl rfl rfl (fun hC => ah (ai rfl (if_pos hC) (if_pos hC) (fun _ => rfl)) (au (qH (p.1) (m)))) ?_
  refine ag (t := .sc (.bool ((decide (p.2.2 = 0)) && (decide (m < p.1))))) rfl rfl rfl (aL rfl rfl (fun h_ => (if_pos h_).trans (au (by rw [h_]; rfl))) (fun h_ => (au (by rw [h_]; rfl)))) ?_
  refine af ?_
  refine aH (b := (decide (p.2.2 = 0)) && (decide (m < p.1))) rfl (fun hc2 => ?_) (fun hc2 => ?_)
  ·
   have hq : p.2.2 = 0 ∧ m < p.1 := by
    rw [Bool.and_eq_true] at hc2
    exact ⟨of_decide_eq_true hc2.1, of_decide_eq_true hc2.2⟩
   have hU : c8 m s = (0, ⟨[], 4⟩) := by unfold c8; rw [hp, if_neg hc1, if_neg (by omega), if_pos hq.2]
   refine ae ?_
   refine ag (t := .sc (.int .i64 4)) rfl rfl rfl (bE rfl rfl) ?_
   refine af ?_
   refine ab ?_
   refine ab ?_
   refine ae ?_
   refine ag (t := .sc (.int .i64 4)) rfl rfl rfl (av rfl rfl) ?_
   refine ag (t := .sc (.bool true)) rfl rfl rfl (ai rfl rfl rfl (fun _ => rfl)) ?_
   refine af ?_
   refine aH (b := true) rfl (fun _ => ?_) (fun h => by cases h)
   refine ab ?_
   refine ae ?_
   refine ag (t := .box 0 0) rfl rfl rfl (av rfl rfl) ?_
   refine ag (t := .sc (.int .i64 4)) rfl rfl rfl (av rfl rfl) ?_
   refine cW (r := .tup []) (bs' := [(184, [.sl (am []), .sc (.int .i64 ((4 : Nat) : Int))])]) rfl rfl rfl rfl rfl rfl (rl s.rest s.err 4) rfl rfl rfl rfl ?_
   refine af ?_
   refine ab ?_
   refine ae ?_
   refine ag (t := .sc (.int .u64 0)) rfl rfl rfl (bE rfl rfl) ?_
   refine af ?_
   refine ax ?_
   exact ⟨⟨.inr rfl, _, .cons rfl .nil, Ea hU, rfl⟩, mK hU, rfl⟩
  ·
   refine ar ?_
   refine ab ?_
   refine ab ?_
   refine ae ?_
   refine ag (t := .sc (.int .i64 ((p.2.2 : Nat) : Int))) rfl rfl rfl (av rfl rfl) ?_
   refine ag (t := .sc (.bool (decide (p.2.2 ≠ 0)))) rfl rfl rfl (ah (ai rfl rfl rfl (fun _ => rfl)) (au (qC (p.2.2) (0)))) ?_
   refine af ?_
   refine aH (b := decide (p.2.2 ≠ 0)) rfl (fun hc4 => ?_) (fun hc4 => ?_)
   ·
    replace hc4 := of_decide_eq_true hc4
    have hU : c8 m s = (0, ⟨[], p.2.2⟩) := by unfold c8; rw [hp, if_neg hc1, if_pos hc4]
    refine ab ?_
    refine ae ?_
    refine ag (t := .box 0 0) rfl rfl rfl (av rfl rfl) ?_
    refine ag (t := .sc (.int .i64 ((p.2.2 : Nat) : Int))) rfl rfl rfl (av rfl rfl) ?_
    refine cW (r := .tup []) (bs' := [(184, [.sl (am []), .sc (.int .i64 ((p.2.2 : Nat) : Int))])]) rfl rfl rfl rfl rfl rfl (rl s.rest s.err p.2.2) rfl rfl rfl rfl ?_
    refine af ?_
    refine ab ?_
    refine ae ?_
    refine ag (t := .sc (.int .u64 0)) rfl rfl rfl (bE rfl rfl) ?_
    refine af ?_
    refine ax ?_
    exact ⟨⟨.inr rfl, _, .cons rfl .nil, Ea hU, rfl⟩, mK hU, rfl⟩
   ·
    replace hc4 := of_decide_eq_false hc4
    refine ar ?_
    refine ab ?_
    have hq : p.2.2 = 0 := by omega
    have hm : ¬ m < p.1 := fun h => by rw [decide_eq_true hq, decide_eq_true h] at hc2; cases hc2
    have hsz := uG 10 0 0 s.rest (by rw [hp]; exact hq)
    rw [hp] at hsz
    have hU : c8 m s = (p.1, ⟨s.rest.drop p.2.1, s.err⟩) := by unfold c8; rw [hp, if_neg hc1, if_neg (by omega), if_neg hm, show s.err = 0 by omega]
    refine ae ?_
    refine ag (t := .box 0 0) rfl rfl rfl (av rfl rfl) ?_
    refine ag (t := .box 0 0) rfl rfl rfl (av rfl rfl) ?_
    refine ag (t := .box 0 0) rfl rfl rfl (dz rfl rfl) ?_
    refine ag (t := .box 0 0) rfl rfl rfl (aq rfl rfl Ju rfl) ?_
    refine ag (t := .sl (am s.rest)) rfl rfl rfl (ay rfl rfl rfl Mr rfl) ?_
    refine ag (t := .sc (.int .i64 ((p.2.1 : Nat) : Int))) rfl rfl rfl (av rfl rfl) ?_
    refine ag (t := .sl (am (s.rest.drop p.2.1))) rfl rfl rfl (ah (gh (l := p.2.1) (h := (am s.rest).length) rfl aP rfl ⟨_, rfl⟩ rfl (by rw [aC]; omega) (Nat.le_refl _) (aV _)) (uJ _ _)) ?_
    refine ag (t := .box 0 0) rfl rfl rfl (dz rfl rfl) ?_
    refine ag (t := .box 0 0) rfl rfl rfl (aq rfl rfl Ju rfl) ?_
    refine yx (bs' := [(184, [.sl (am (s.rest.drop p.2.1)), .sc (.int .i64 ((s.err : Nat) : Int))])]) rfl rfl rfl rfl rfl rfl rfl rfl rfl Mt rfl rfl rfl ?_
    refine af ?_
    refine ab ?_
    refine ae ?_
    refine ag (t := .sc (.int .u64 ((p.1 : Nat) : Int))) rfl rfl rfl (av rfl rfl) ?_
    refine ag (t := .sc (.int .u64 ((p.1 : Nat) : Int))) rfl rfl rfl (bE rfl rfl) ?_
    refine af ?_
    refine ax ?_
    exact ⟨⟨.inr rfl, _, .cons rfl .nil, Ea hU, rfl⟩, mK hU, rfl⟩
theorem Lu(s:Rdr)(n:Nat)(e:s.rest.length<=1073741824):CtM 178 184 [.sl (am s.rest),nI s.err] [nI n] (eW n s).2.cells (.sl (am (eW n s).1)):=by
 refine CtM.of (n:=39) Tryz.func178 Z Z Z Z Z fun w0 G0 f=>?_
 refine ab<|ae<|ag (t:=.sl []) Z Z Z (bI (.inr Z) bQ)<|af<|ab<|ab<|ae<|aa 1 Z<|ag (t:=.box 0 0) Z Z Z (dz Z Z)<|aa 2 Z<|ag (t:=bT (decide (s.err≠0))) Z Z Z (ah (ai Z Z Z Zy) (au (qC s.err 0)))<|af<|aD Z (fun a=>?_) (fun a=>?_)
 ·refine ab ?_;have b:eW n s=([],⟨s.rest,s.err⟩):=if_pos a;refine ae<|ag (t:=.sl []) Z Z Z (bI (.inr Z) bQ)<|af<|ax<|⟨⟨.inr Z,_,.cons Z .nil,qo b,Z⟩,mK b,Z⟩
 refine ar<|ab<|ab<|ae<|aa 1 Z<|ag (t:=bT (decide (n<0))) Z Z Z (ah (ai Z Z Z Zy) (au (gK n 0)))<|af<|aD Z (fun d=>?_) (fun d=>?_)
 ·exact absurd d (by omega)
 refine ar<|ab<|ab<|ae<|aa 2 Z<|ag (t:=.box 0 0) Z Z Z (dz Z Z)<|aa 2 Z<|ag (t:=nI s.rest.length) Z Z Z (ah (aW Z aP Z) (by simp only[Ol,aC]))<|ag (t:=bT (decide (s.rest.length<n))) Z Z Z (ah (ai Z Z Z Zy) (au (qH n s.rest.length)))<|af<|aD Z (fun c=>?_) (fun c=>?_)
 ·refine ab ?_;have b:eW n s=([],⟨[],3⟩):=by unfold eW;rw[if_neg a,if_pos c]
  refine ae<|aa 1 Z<|cW (r:=.tup []) (bs':=[(184,[.sl (am []),nI 3])]) Z Z Z Z Z Z (rl s.rest s.err 3) Z Z Z Z<|af<|ab<|ae<|ag (t:=.sl []) Z Z Z (bI (.inr Z) bQ)<|af<|ax<|⟨⟨.inr Z,_,.cons Z .nil,qo b,Z⟩,mK b,Z⟩
 refine ar<|ab ?_;have b:eW n s=(s.rest.take n,⟨s.rest.drop n,s.err⟩):=by unfold eW;rw[if_neg a,if_neg c,show s.err=0 by omega]
 refine ae<|aa 1 Z<|ag (t:=.box 0 0) Z Z Z (dz Z Z)<|aa 3 Z<|ag (t:=.sl (am (s.rest.take n))) Z Z Z (ah (gh (l:=0) (h:=n) Z aP Z Z ⟨_,Z⟩ (OA _) (by rw[aC];omega) (aV _)) (wR _ _))<|n8 (k:=0) (rs':=[some ⟨5,1,am (s.rest.take n),false⟩]) Z Z Z Z aT Z (aV _) (AllC.map _ _ fun _=>rfl) (AllC.map _ _ fun _=>rfl) (by rw[aC,Ox];omega) Z Z Z<|aa 1 Z<|af<|ab<|ae<|aa 2 Z<|ag (t:=.box 0 0) Z Z Z (dz Z Z)<|aa 3 Z<|ag (t:=.sl (am (s.rest.drop n))) Z Z Z (ah (gh (l:=n) (h:=(am s.rest).length) Z aP Z ⟨_,Z⟩ Z (by rw[aC];omega) (Oh _) (aV _)) (uJ _ _))<|ag (t:=.box 0 0) Z Z Z (dz Z Z)<|aa 2 Z<|af<|ab<|aj 2 Z<|dI 0 (bs':=[(184,[.sl (am (s.rest.drop n)),nI s.err])]) (rs':=[none]) Z Z Z Z<|ax<|⟨⟨.inr Z,_,.cons Z .nil,qo b,Z⟩,mK b,Z⟩
theorem qp(s:Rdr)(m:Nat)(h:s.rest.length<=1073741824)(j:m<=1073741824):CtM 116 184 [.sl (am s.rest),nI s.err] [nI m] (cz m s).2.cells (.sl (am (cz m s).1)):=by
 obtain⟨q,d⟩:∃q,c8 m s=q:=⟨_,rfl⟩;have e:=iW m s;have f:=eR m s;rw[d]at e f;obtain⟨k,g⟩:∃k,eW q.1 q.2=k:=⟨_,rfl⟩;refine CtM.of (n:=21) Tryz.func116 Z Z Z Z Z fun w0 G0 i=>?_
 refine ab<|ae<|ag (t:=.sl []) Z Z Z (bI (.inr Z) bQ)<|af<|ab<|ab<|ae<|aa 1 Z<|ag (t:=bT (decide (m<0))) Z Z Z (ah (ai Z Z Z Zy) (au (gK m 0)))<|af<|aD Z (fun b=>?_) (fun b=>?_)
 ·exact absurd b (by omega)
 refine ar<|ab<|ae<|aa 2 Z<|ag (t:=.sc (.int .u64 ((m:Nat):Int))) Z Z Z (ah (bM Z dQ cj Z) (pX (by omega)))<|cW (r:=.sc (.int .u64 ((q.1:Nat):Int))) (bs':=[(184,[.sl (am q.2.rest),nI (q.2.err)])]) Z Z Z Z Z Z (d▸rm s m (by omega)) Z Z Z Z<|aa 1 Z<|af<|ab<|ab<|ae<|aa 1 Z<|ag (t:=.box 0 0) Z Z Z (dz Z Z)<|aa 2 Z<|ag (t:=bT (decide (q.2.err≠0))) Z Z Z (ah (ai Z Z Z Zy) (au (qC (q.2.err) 0)))<|af<|aD Z (fun a=>?_) (fun a=>?_)
 ·refine ab ?_;have c:cz m s=([],⟨q.2.rest,q.2.err⟩):=by unfold cz;rw[d,if_pos a]
  refine ae<|ag (t:=.sl []) Z Z Z (bI (.inr Z) bQ)<|af<|ax<|⟨⟨.inr Z,_,.cons Z .nil,qo c,Z⟩,mK c,Z⟩
 refine ar<|ab ?_;have c:cz m s=(k.1,⟨k.2.rest,k.2.err⟩):=by unfold cz;rw[d,if_neg a,g]
 refine ae<|aa 2 Z<|ag (t:=nI (q.1)) Z Z Z (ah (bM Z cj dQ Z) (Df Z (by omega)))<|cW (r:=.sl (am k.1)) (bs':=[(184,[.sl (am k.2.rest),nI (k.2.err)])]) Z Z Z Z Z Z (g▸Lu q.2 q.1 (by omega)) Z Z Z Z<|aa 1 Z<|af<|ax<|⟨⟨.inr Z,_,.cons Z .nil,qo c,Z⟩,mK c,Z⟩
theorem Mv(l:List UInt8)(a:l.length<=1073741824):CtN 115 [.sl (am l)] 184 (Rdr.mk l 0).cells:=by
 refine CtN.of (n:=7) Tryz.func115 Z Z Z Z Z fun w0 G0=>?_
 refine ab<|aj 1 Z<|ab<|ae<|aa 1 Z<|n8 (k:=0) (rs':=[some ⟨5,1,am l,false⟩]) Z Z Z Z aT Z (aV _) (AllC.map _ _ fun _=>rfl) (AllC.map _ _ fun _=>rfl) (by rw[aC];omega) Z Z Z<|aa 3 Z<|af<|dI 0 (bs':=[(184,[.sl (am l),iT 0])]) (rs':=[none]) Z Z Z Z<|ax<|⟨.inr Z,Z,0,Z,Z⟩
theorem NF(s:Rdr):NU 120 184 s.cells [] (nI s.err):=⟨⟨_,Tryz.func120,Z,Z⟩,fun G w g us vs j h f a b d c=>by
 cases c;obtain⟨v,x,rfl,i,e⟩:=dO b;cases e;have k:w.cell? ⟨g,1,none⟩=some (.int .i64 ((s.err:Nat):Int)):=by rw[a.cell];rfl
 go_enter Tryz.func120,Tryz.ntmps120
 go_wp2
 go_ret
 exact⟨_,Z,.sc _ .nil,Below.refl _ _⟩⟩
theorem NG(s:Rdr):NU 121 184 s.cells [] (nI s.rest.length):=⟨⟨_,Tryz.func121,Z,Z⟩,fun G w g us vs l k j a b h e=>by
 cases e;obtain⟨v,x,rfl,f,i⟩:=dO b;cases i;obtain⟨A,c,rfl,d⟩:=vw f;have m:w.cell? ⟨g,0,none⟩=some (.slice A s.rest.length c):=by rw[a.cell];rfl
 go_enter Tryz.func121,Tryz.ntmps121
 go_wp2
 go_ret
 exact⟨_,Z,.sc _ .nil,Below.refl _ _⟩⟩
theorem FB{u:Nat}{o:Oper}{n d k:Nat}{sl:List (Nat×Tree)}{bs:List (TypeId×List Tree)}{rs rs':List (Option Row)}{f:FuncId}{x:Operand}{h:Array TypeId}{t:Tree}{es:List Tree}{e sz:Nat}(i:o.op=.call {callee:=.value (.func f),args:=#[x],argTypes:=h})(v:o.dst=some d)(w:Nat.blt d n=true)(r:CtO f [t] e sz es)(q:St.ev ⟨n,sl,bs,rs⟩ x=t)(j:t.plain=true)(p:rs.length=k)(c:rs++[some ⟨e,sz,es,false⟩]=rs'):uY u o ⟨n,sl,bs,rs⟩ id (.own k) bs rs':=by
 subst p c;intro w0 G0 S y m l b g;dsimp only at m l b;have a:=mM g (by rw[i];simp[Op.operands,Call.operands]) q (by rintro rfl;simp[Tree.plain]at j);refine⟨_,yB (S:=S) i (by rw[v,m];simpa[cC,Pn]using w) r (by simp[a]) (by simp[j]),by rw[ee],by rw[dE,l],by rw[bZ];dsimp only;rw[b],fun s=>?_⟩;rw[cV,b];rfl
theorem Mw{m:Nat}:(m%256)|||128=m%128+128:=by
 have:∀x:Fin 256,(x.val|||128)=x.val%128+128:=by decide+kernel
 have h:=this ⟨m%256,Pe _ (by decide)⟩;simp only at h;rw[h];omega
theorem CN{x y:Operand}(m:Nat)(w:World):(do eqGuard .or 5 x y (.int .u8 ((m%256:Nat):Int)) (.int .u8 128);binOp .or 5 (.int .u8 ((m%256:Nat):Int)) (.int .u8 128):Sem Value).run Tryz.prog w=.ok (.int .u8 ((m%128+128:Nat):Int)) w:=by
 have key:=(bits_nat .u8 8 (by decide) (fun n e d=>by rw[RO];omega) (m%256) 128 (Pe _ (by decide)) (by decide)).2;rw[Mw]at key;have a:∀b c:Nat,bits .or .u8 (b:Int) 128=((c:Nat):Int)->(do eqGuard .or 5 x y (.int .u8 (b:Nat)) (.int .u8 128);binOp .or 5 (.int .u8 (b:Nat)) (.int .u8 128):Sem Value).run Tryz.prog w=.ok (.int .u8 ((c:Nat):Int)) w:=fun b c key=>by go_simp
 exact a _ _ key
theorem lF(n:Nat)(o:n<18446744073709551616):CtO 56 [.sc (.int .u64 ((n:Nat):Int))] 5 1 (am (c6 n)):=by
 refine CtO.of (n:=19) Tryz.func56 Z Z Z Z Z fun w0 G0=>?_
 refine ab<|ae<|ag (t:=.sl []) Z Z Z (bI (.inr Z) bQ)<|af<|ab<|ae<|fY (k:=0) (e:=5) (sz:=1) (rs':=[some ⟨5,1,am [],false⟩]) (.inr Z) Z Z Z Z Z<|af<|ab<|aA<|aO (fun j l=>∃(m:Nat) (a:List UInt8),(m<18446744073709551616/\a++c6 m=c6 n)/\j=m+1/\l=⟨19,[(0,.sc (.int .u64 ((m:Nat):Int))),(3,.own 0)],[],[some ⟨5,1,am a,false⟩]⟩) 0 1 ⟨n,[],⟨o,Z⟩,Z,Z⟩ .rf ?_;rintro j l ⟨m,a,⟨q,b⟩,rfl,rfl⟩;have f:=congrArg List.length b;have p:=dM o;rw[Oj]at f;refine ab<|ab<|ae<|aa 1 Z<|ag (t:=bT (decide (128<=m))) Z Z Z (ah (ai Z Z Z Zy) (au (Gg m 128)))<|af<|aD Z (fun d=>?_) (fun d=>?_)
 ·have i:=d;have h:c6 m=UInt8.ofNat (m%128+128)::c6 (m/128):=by rw[c6,if_pos i]
  refine ar<|aA<|ab<|ae<|aa 2 rfl<|ag (t:=.sc (.int .u8 ((m%256:Nat):Int))) rfl rfl rfl (ah (bM rfl cj ch rfl) mH)<|ag (t:=.sc (.int .u8 ((m%128+128:Nat):Int))) rfl rfl rfl (ai rfl rfl rfl (fun w=>CN m w))<|ag (t:=.sl [.sc (.int .u8 ((m%128+128:Nat):Int))]) rfl rfl rfl (aN rfl aP cR rfl (by decide) (by decide) rfl rfl rfl rfl rfl)<|a8 (bs':=[]) (rs':=[some ⟨5,1,am (a++[UInt8.ofNat (m%128+128)]),false⟩]) rfl rfl rfl rfl aT rfl rfl rfl rfl (by intro e c;simp only[OC,O8,or_false]at c;subst c;rfl) (AllC.lit rfl) (AllC.lit rfl) (by simp only[aC,Oj,Oi,Ou];omega) rfl rfl rfl (by rw[bd,AC (by omega)];rfl)<|aa 1 rfl<|af<|ae<|aa 1 rfl<|ag (t:=.sc (.int .u64 ((m/128:Nat):Int))) rfl rfl rfl (ai rfl rfl rfl (fun w=>AB m w))<|aa 1 rfl<|af<|⟨_,_,?_,⟨m/128,(a++[UInt8.ofNat (m%128+128)]),?_,rfl,rfl⟩,.rf⟩
  ·omega
  exact⟨by omega,by rw[<-b,h];simp⟩
 refine aQ<|ab ?_;have g:a++[UInt8.ofNat m]=c6 n:=by rw[<-b,c6,if_neg (by omega)]
 refine ae<|aa 2 rfl<|ag (t:=.sc (.int .u8 ((m:Nat):Int))) rfl rfl rfl (ah (bM rfl cj ch rfl) (N7 (by omega)))<|ag (t:=.sl [.sc (.int .u8 ((m:Nat):Int))]) rfl rfl rfl (aN rfl aP cR rfl (by decide) (by decide) rfl rfl rfl rfl rfl)<|a8 (bs':=[]) (rs':=[some ⟨5,1,am (a++[UInt8.ofNat m]),false⟩]) rfl rfl rfl rfl aT rfl rfl rfl rfl (by intro e c;simp only[OC,O8,or_false]at c;subst c;rfl) (AllC.lit rfl) (AllC.lit rfl) (by simp only[aC,Oj,Oi,Ou];omega) rfl rfl rfl (by rw[bd,AC (by omega)];rfl)<|aa 1 rfl<|af<|ax<|⟨.inr rfl,0,false,rfl,by rw[g];rfl⟩
theorem qq(l:List UInt8)(b:l.length<=1000000000):CtO 55 [.sl (am l)] 5 1 (am (df l)):=by
 refine CtO.of (n:=9) Tryz.func55 Z Z Z Z Z fun w0 G0=>?_
 refine ab<|ae<|ag (t:=.sl []) Z Z Z (bI (.inr Z) bQ)<|af<|ab ?_;have a:=dM (n:=l.length) (by omega);refine ae<|aa 1 Z<|ag (t:=nI l.length) Z Z Z (ah (aW Z aP Z) (by simp only[Ol,aC]))<|ag (t:=.sc (.int .u64 ((l.length:Nat):Int))) Z Z Z (ah (bM Z dQ cj Z) (pX (by omega)))<|oz (k:=0) (rs':=[some ⟨5,1,am (c6 l.length),false⟩]) Z Z Z Z (lF l.length (by omega)) Z Z Z Z<|aa 1 Z<|a8 (bs':=[]) (rs':=[some ⟨5,1,am ((c6 l.length)++l),false⟩]) Z Z Z Z aT Z Z Z Z (aV _) (AllC.map _ _ fun _=>rfl) (AllC.map _ _ fun _=>rfl) (by simp only[aC,Oj,Oi,Ou];omega) Z Z Z (by simp only[bd];rfl)<|aa 1 Z<|af<|ax<|⟨.inr Z,0,false,Z,Z⟩
theorem I2(b:Bool):Ct 57 [bT b] (.sc (.int .u64 (((if b then 1 else 0):Nat):Int))):=by
 refine Ct.of (n:=4) Tryz.func57 Z Z Z Z Z fun w0 G0=>?_
 refine ab<|aj 1 Z<|ab<|ab<|aj 1 Z<|aH Z (fun a=>?_) (fun a=>?_)
 ·refine ab<|aj 1 Z<|ax<|⟨.inr Z,_,.cons Z .nil,oi (by rw[a];rfl),Z⟩
 refine ar<|ab<|aj 1 Z<|ax<|⟨.inr Z,_,.cons Z .nil,oi (by rw[a];rfl),Z⟩
theorem CO(l:List UInt8)(A:l.length<=4611686018427387904):Ct 177 [.sc (.int .u32 ((0:Nat):Int)),.sl (am l)] (.sc (.int .u32 ((g5 l:Nat):Int))):=by
 refine Ct.of (n:=38) Tryz.func177 Z Z Z Z Z fun w0 G0=>?_
 refine ab<|aj 1 Z<|ab<|ae<|aa 1 Z<|ag (t:=.sc (.int .u32 ((4294967295:Nat):Int))) Z Z Z (ah (dw Z Z (fun w=>nU 0 (by decide) w)) (oi (by decide)))<|aa 1 Z<|af<|ab<|ab<|aj 1 Z<|aA<|aO (fun h i=>∃(j:Nat) (x:Nat),(j<=l.length/\x<4294967296/\AE x (l.drop j)=AE 4294967295 l)/\h=l.length-j/\i=⟨38,[(1,.sl (am l)),(5,.sc (.int .u32 ((x:Nat):Int))),(6,nI j)],[],[]⟩) 0 0 ⟨0,4294967295,⟨OA _,by decide,Z⟩,Z,Z⟩ .rf ?_;rintro h i ⟨j,x,⟨C,q,b⟩,rfl,rfl⟩;refine ab<|ab<|ae<|aa 2 Z<|ag (t:=nI l.length) Z Z Z (ah (aW Z aP Z) (by simp only[Ol,aC]))<|ag (t:=bT (decide (j<l.length))) Z Z Z (ah (ai Z Z Z Zy) (au (gK j l.length)))<|af<|aD Z (fun f=>?_) (fun f=>?_)
 ·obtain⟨c,p⟩:∃c,l[j]? =some c:=⟨_,Og f⟩;have s:l.drop j=c::l.drop (j+1):=by
   obtain⟨o,v⟩:=Ok.1 p;rw[Ow o,v]
  rw[s,wM]at b;have u:c.toNat<256:=c.toNat_lt;refine ar<|ab<|aA<|ab<|ae<|aa 3 Z<|ag (t:=.ref [.sc (.int .u8 ((c.toNat:Nat):Int))]) Z Z Z (aK (.sc (.int .u8 ((c.toNat:Nat):Int))) Z aP Z Z Z (fS p) (aV _) Z)<|aa 1 Z<|ag (t:=.sc (.int .u32 ((c.toNat:Nat):Int))) Z Z Z (ah (bM Z ch cI Z) (ND (by omega)))<|ag (t:=.sc (.int .u32 ((x^^^c.toNat:Nat):Int))) Z Z Z (ai Z Z Z (fun w=>nT x c.toNat q (by omega) w))<|aa 1 Z<|af<|ab<|aj 1 Z<|aA<|aO (fun h i=>∃(k:Nat) (y:Nat),(k<=8/\y<4294967296/\uA (8-k) y=uA 8 (x^^^c.toNat))/\h=8-k/\i=⟨38,[(1,.sl (am l)),(5,.sc (.int .u32 ((y:Nat):Int))),(6,nI j),(7,nI k)],[],[]⟩) 0 0 ⟨0,x^^^c.toNat,⟨OA _,Nat.xor_lt_two_pow (n:=32) q (by omega),Z⟩,Z,Z⟩ .rf ?_;rintro h i ⟨k,y,⟨B,g,a⟩,rfl,rfl⟩;refine ab<|ab<|ae<|aa 1 Z<|ag (t:=bT (decide (k<8))) Z Z Z (ah (ai Z Z Z Zy) (au (gK k 8)))<|af<|aD Z (fun r=>?_) (fun r=>?_)
  ·obtain⟨m,z⟩:∃m,8-k=m+1:=⟨7-k,by omega⟩;rw[z,wN]at a;refine ar<|ab<|aA<|ab<|ae<|aa 1 Z<|ag (t:=.sc (.int .u32 ((y%2:Nat):Int))) Z Z Z (ai Z Z Z (fun w=>wL y g w))<|aa 1 Z<|af<|ab<|ae<|aa 1 Z<|ag (t:=.sc (.int .u32 ((y/2:Nat):Int))) Z Z Z (ai Z Z Z (fun w=>ud y g w))<|aa 1 Z<|af<|ab<|ae<|aa 1 Z<|ag (t:=bT (decide (y%2=1))) Z Z Z (ah (ai Z Z Z Zy) (au (iF (y%2) 1)))<|af<|aD Z (fun e=>?_) (fun e=>?_)
   ·have o:AD y=y/2^^^2197175160:=if_pos e;have d:=sB g;rw[o]at a d;refine ae<|aa 1 Z<|ag (t:=.sc (.int .u32 (((y/2)^^^2197175160:Nat):Int))) Z Z Z (ai Z Z Z (fun w=>nT (y/2) 2197175160 (by omega) (by decide) w))<|aa 1 Z<|af<|ae<|aa 1 Z<|ag (t:=nI (k+1)) Z Z Z (ah (ai Z Z Z Zy) (bp (by omega)))<|aa 1 Z<|af<|⟨_,_,?_,⟨k+1,(y/2)^^^2197175160,?_,Z,Z⟩,.rf⟩
    ·omega
    exact⟨by omega,d,by rw[show 8-(k+1)=m by omega];exact a⟩
   have o:AD y=y/2:=if_neg e;have d:=sB g;rw[o]at a d;refine ar<|ae<|aa 1 Z<|ag (t:=nI (k+1)) Z Z Z (ah (ai Z Z Z Zy) (bp (by omega)))<|aa 1 Z<|af<|⟨_,_,?_,⟨k+1,y/2,?_,Z,Z⟩,.rf⟩
   ·omega
   exact⟨by omega,d,by rw[show 8-(k+1)=m by omega];exact a⟩
  rw[show 8-k=0 by omega]at a;have a:y=uA 8 (x^^^c.toNat):=a;rw[<-a]at b;refine aQ<|ae<|aa 1 Z<|ag (t:=nI (j+1)) Z Z Z (ah (ai Z Z Z Zy) (bp (by omega)))<|aa 1 Z<|af<|⟨_,_,?_,⟨j+1,y,?_,Z,Z⟩,.rf⟩
  ·omega
  exact⟨by omega,g,b⟩
 refine aQ<|ab<|ae<|aa 1 Z<|ag (t:=.sc (.int .u32 ((x^^^4294967295:Nat):Int))) Z Z Z (dw Z Z (fun w=>nU x q w))<|aa 1 Z<|af<|ax<|⟨.inr Z,_,.cons Z .nil,oi (by unfold g5;rw[<-b,Ov (by omega)];rfl),Z⟩
theorem KR(l:List UInt8)(a:l.length<=4611686018427387904):Ct 114 [.sl (am l)] (.sc (.int .u32 ((g5 l:Nat):Int))):=by
 refine Ct.of (n:=5) Tryz.func114 Z Z Z Z Z fun w0 G0=>?_
 refine ab<|aj 1 Z<|ab<|ae<|aa 1 Z<|ag Z Z Z (ak Z (CO l a) Z Z)<|aa 1 Z<|af<|ax<|⟨.inr Z,_,.cons Z .nil,Z,Z⟩
theorem CP(l:List UInt8)(b:l.length<=1000000000):Ct 60 [.sl (am l)] (.sl (am (l++om (g5 l)))):=by
 refine Ct.of (n:=22) Tryz.func60 Z Z Z Z Z fun w0 G0=>?_
 refine ab<|ae<|ag (t:=.sl []) rfl rfl rfl (bI (.inr rfl) bQ)<|af<|ab<|ae<|aa 1 rfl<|ag rfl rfl rfl (ak rfl (KR l (by omega)) rfl rfl)<|aa 1 rfl<|af<|ab<|ae<|lW (k:=0) (rs':=[some ⟨5,1,am [],true⟩]) rfl rfl rfl rfl aT rfl rfl<|aa 1 rfl<|a8 (bs':=[]) (rs':=[some ⟨5,1,am ([]++l),false⟩]) rfl rfl rfl rfl aT rfl rfl rfl rfl (aV _) (AllC.map _ _ fun _=>rfl) (AllC.map _ _ fun _=>rfl) (by simp only[aC,Oj,Oi,Ou];omega) rfl rfl rfl (by simp only[bd];rfl)<|aa 1 rfl<|ag (t:=.sc (.int .u32 ((g5 l/2^24:Nat):Int))) rfl rfl rfl (ai rfl rfl rfl (fun w=>fg (g5 l) 24 (by decide) w))<|ag (t:=.sc (.int .u8 ((g5 l/2^24%256:Nat):Int))) rfl rfl rfl (ah (bM rfl cI ch rfl) mH)<|aa 1 rfl<|ag (t:=.sc (.int .u32 ((g5 l/2^16:Nat):Int))) rfl rfl rfl (ai rfl rfl rfl (fun w=>fg (g5 l) 16 (by decide) w))<|ag (t:=.sc (.int .u8 ((g5 l/2^16%256:Nat):Int))) rfl rfl rfl (ah (bM rfl cI ch rfl) mH)<|aa 1 rfl<|ag (t:=.sc (.int .u32 ((g5 l/2^8:Nat):Int))) rfl rfl rfl (ai rfl rfl rfl (fun w=>fg (g5 l) 8 (by decide) w))<|ag (t:=.sc (.int .u8 ((g5 l/2^8%256:Nat):Int))) rfl rfl rfl (ah (bM rfl cI ch rfl) mH)<|aa 1 rfl<|ag (t:=.sc (.int .u8 ((g5 l%256:Nat):Int))) rfl rfl rfl (ah (bM rfl cI ch rfl) mH)<|ag (t:=.sl [.sc (.int .u8 ((g5 l/2^24%256:Nat):Int)),.sc (.int .u8 ((g5 l/2^16%256:Nat):Int)),.sc (.int .u8 ((g5 l/2^8%256:Nat):Int)),.sc (.int .u8 ((g5 l%256:Nat):Int))]) rfl rfl rfl (aN rfl aP cR rfl (by decide) (by decide) rfl rfl rfl rfl rfl)<|a8 (bs':=[]) (rs':=[some ⟨5,1,am (([]++l)++om (g5 l)),false⟩]) rfl rfl rfl rfl aT rfl rfl rfl rfl (by intro e a;simp only[OC,O8,or_false]at a;rcases a with rfl|rfl|rfl|rfl<;>rfl) (AllC.lit rfl) (AllC.lit rfl) (by simp only[aC,Oj,Oi,Ou];omega) rfl rfl rfl (by simp only[bd,ql];rfl)<|aa 1 rfl<|af<|dI 0 (bs':=[]) (rs':=[none]) rfl rfl rfl rfl<|ax<|⟨.inr rfl,_,.cons rfl .nil,IL rfl,rfl⟩
end Go.Proofs.YtfoejfohbkmmeaaGreatDoor
