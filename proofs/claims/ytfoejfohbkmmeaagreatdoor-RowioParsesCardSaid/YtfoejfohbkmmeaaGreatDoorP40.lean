import Derived.Test.YtfoejfohbkmmeaaGreatDoorP38
import Derived.Test.YtfoejfohbkmmeaaGreatDoorP00
import Derived.Test.YtfoejfohbkmmeaaGreatDoorP39
import Derived.Test.YtfoejfohbkmmeaaGreatDoorP35
import Derived.Test.YtfoejfohbkmmeaaGreatDoorP06
set_option maxRecDepth 100000
set_option maxHeartbeats 4000000
namespace Go.Proofs.YtfoejfohbkmmeaaGreatDoor
open Go.RowKit
open Lib renaming hid→J
theorem Em(r:Rel):zf r=Ek 0 r.sch.cert r.tups:=by
 unfold zf Ek;have e:(lk r.sch.cert)=fun t=>List.replicate 0 10++(iz r.sch.cert t++[10]):=funext fun t=>by rw[Bn];rfl
 rw[e]
theorem vD{s:Sch}:∀(us a:List Tp) (i:Nat),bw ⟨s,a++us⟩=0->(∀t∈us,LnOK s t)->cG s.cert (dq (bs (Ek 0 s.cert us))) i ⟨s,a⟩=(⟨s,a++us⟩,0,0)
 |[],a,i,_,_=>by
  rw[Mq];exact vq s.cert i ⟨s,a⟩
 |t::us,a,i,hv,h=>by
  have d:=h t (Ml ..);have e:Ek 0 s.cert (t::us)=iz s.cert t++10::Ek 0 s.cert us:=by
   unfold Ek;rw[Pg];simp
  have b:bw ⟨s,a++t::[]⟩=0:=u6 hv ((List.Sublist.refl a).append ((List.nil_sublist us).cons_cons t));have f:=zm (dq (bs (Ek 0 s.cert us))) i b d;rw[Mq]at f;have c:=vD us (a++[t]) (i+1) (by rw[Mv];exact hv) fun x g=>h x (Ms _ g)
  rw[Mv]at c;rw[e,jf (LT d),f];exact c
theorem Eo{r:Rel}(h:Good r):fC r=Ek 0 r.sch.cert r.tups/\eM r.sch (fC r)=(r,0,0)/\LP (fC r)=true/\(fC r).length<=2400:=by
 have e:fC r=Ek 0 r.sch.cert r.tups:=by
  unfold fC;rw[if_pos h.valid,Em]
 have a:=IV h;have b:=CQ (k:=0) r.tups a;have d:=h.len;have c:(Ek 0 r.sch.cert r.tups).length<=2400:=Ma b (Ma (NY d (show 0+796<=800 by omega)) (by decide));rw[e];refine⟨Z,?_,GP _ a,c⟩;unfold eM;rw[if_neg (by rw[(iP.1 h.valid).1];simp),if_neg (by omega)];exact vD r.tups [] 0 h.valid a
theorem GV(d:Nat):(eo (d:Nat) ((1:Nat):Int) !=0)= !decide (d=1):=by
 unfold eo;by_cases h:d=1
 ·subst h;rfl
 rw[decide_eq_false h];by_cases a:(d:Int)<((1:Nat):Int)
 ·rw[if_pos a];rfl
 rw[if_neg a,if_pos (by omega)];rfl
theorem zv(v:V)(h:v.rng)(c:v.s.size<=9223372036854775807):Ct 41 [v.tree] (.sc (.string ⟨v.fmt.toArray⟩)):=Ct.sc ⟨_,Tryz.func41,Z,Z⟩ fun G w vs _ _ a=>by
 obtain⟨u,rfl,b⟩:=dp a;rw[wH b];exact j6 v.t v.n v.s w h.1 h.2 c
theorem oD(a b:List UInt8):bs a++bs b=bs (a++b):=GJ (by rw[OC,MZ,de,de,de])
theorem IY(a:List UInt8)(s:ByteArray):bs a++s=bs (a++s.data.toList):=by
 have:=oD a s.data.toList;rwa[lm]at this
theorem vE(n:Nat):(iu n).size=(Lib.decDigits n).length:=by simp[iu,ByteArray.size]
theorem Bu (q : Rat) (hq : Fit 262144 q) (h1 : (iu q.num.natAbs).size ≤ 1073741824) (h2 : (iu q.den).size ≤ 1073741824) : Ct 42 [dt q] (.sc (.string (eG q))) := by
 refine Ct.of (n := 26) Tryz.func42 rfl rfl rfl rfl rfl fun w0 G0 => ?_
 refine ab ?_
 refine ae ?_
 refine uo (cs := (bf q)) (b := 0) (bs' := [(65, (bf q))]) rfl rfl rfl rfl rfl rfl rfl rfl rfl rfl ?_
 refine af (t := .sc (.string (⟨#[]⟩))) rfl rfl rfl (bp rfl rfl) ?_
 refine ag ?_
 refine ab ?_
 refine ae ?_
 refine af (t := .agg (bf q)) rfl rfl rfl (aP rfl rfl rfl aI rfl rfl) ?_
 refine af (t := .agg (bf q)) rfl rfl rfl (ak rfl (eP q (hq.mono (by decide))) rfl rfl) ?_
 refine qG (b := 1) (bs' := [(65, (bf q)), (65, [.sc (.bool false), .sl [], .sl []])]) rfl rfl rfl rfl j0 rfl rfl rfl rfl ?_
 refine qH (bs' := [(65, (bf q)), (65, (bf q))]) rfl rfl rfl rfl rfl rfl rfl rfl rfl eg rfl rfl rfl ?_
 refine ag ?_
 refine ab ?_
 obtain ⟨t, ht⟩ : ∃ t, rq q = t := ⟨_, rfl⟩
 have hts : t.size ≤ 1073741825 := by
  rw [← ht]; unfold rq; split
  ·rw [ByteArray.size_append]; have := h1; show 1 + _ ≤ _; omega
  ·omega
 refine ae ?_
 refine af (t := .box 1 1) rfl rfl rfl (av rfl rfl dR rfl) ?_
 refine af (t := aH q.num.natAbs) rfl rfl rfl (aA rfl rfl rfl b6 rfl) ?_
 refine af (t := .sc (.string (iu q.num.natAbs))) rfl rfl rfl (ak rfl (Cw _ (Nat.le_trans hq.num (by decide)) (by rw [← vE]; exact h1)) rfl rfl) ?_
 refine af (t := .sc (.string (iu q.num.natAbs))) rfl rfl rfl (bp rfl rfl) ?_
 refine ag ?_
 refine ab ?_
 refine jN ⟨26, [(1, .box 0 0), (2, .sc (.string (⟨#[]⟩))), (3, .box 1 0), (4, .sc (.string t))], [(65, (bf q)), (65, (bf q))], []⟩ 2 0 ?_ ?_
 ·
  refine ab ?_
  refine ae ?_
  refine af (t := .box 1 0) rfl rfl rfl (av rfl rfl lJ rfl) ?_
  refine af (t := .sc (.bool (decide (q.num < 0)))) rfl rfl rfl (aA rfl rfl rfl fh rfl) ?_
  refine ag ?_
  refine aF (b := decide (q.num < 0)) rfl (fun hc1 => ?_) (fun hc1 => ?_)
  ·
   replace hc1 := of_decide_eq_true hc1
   refine ae ?_
   refine af (t := .sc (.string (iu q.num.natAbs))) rfl rfl rfl (au rfl rfl) ?_
   refine af (t := .sc (.string ((⟨#[45]⟩ : ByteArray) ++ iu q.num.natAbs))) rfl rfl rfl (ai rfl rfl rfl (fun _ => ft (by show 1 + _ ≤ _; omega))) ?_
   refine af (t := .sc (.string ((⟨#[45]⟩ : ByteArray) ++ iu q.num.natAbs))) rfl rfl rfl (bp rfl rfl) ?_
   refine ag ?_
   exact ⟨rfl, rfl, rfl, .cons rfl rfl (.cons rfl rfl (.cons rfl rfl (.cons (gd (by rw [← ht]; unfold rq; rw [if_pos hc1])) rfl .nil))), rfl⟩
  ·
   replace hc1 := of_decide_eq_false hc1
   refine am ?_
   exact ⟨rfl, rfl, rfl, .cons rfl rfl (.cons rfl rfl (.cons rfl rfl (.cons (gd (by rw [← ht]; unfold rq; rw [if_neg hc1])) rfl .nil))), rfl⟩
 ·
  refine ab ?_
  refine ab ?_
  refine cf (fu := 5) [some 14, some 15, some 16, some 17, some 18] [.box 1 2, aH q.den, aH 1, .sc (.int .i64 (eo ((q.den : Nat) : Int) ((1 : Nat) : Int))), .sc (.bool (!decide (q.den = 1)))] (by kernel_rfl) rfl rfl (by kernel_rfl) rfl ?_ ?_
  ·
   refine Chain.op (t := .box 1 2) rfl (av rfl rfl dw rfl) ?_
   refine Chain.op (t := aH q.den) rfl (aA rfl rfl rfl b6 rfl) ?_
   refine Chain.op (t := aH 1) rfl (ak rfl (mE 1 (by decide)) rfl rfl) ?_
   refine Chain.op (t := .sc (.int .i64 (eo ((q.den : Nat) : Int) ((1 : Nat) : Int)))) rfl (ak rfl (Cu _ _ (Nat.le_trans hq.den (by decide)) (by decide)) rfl rfl) ?_
   refine Chain.op (t := .sc (.bool (!decide (q.den = 1)))) rfl (ah (ai rfl rfl rfl (fun _ => rfl)) (ar (GV _))) ?_
   exact Chain.nil
  refine aF (b := !decide (q.den = 1)) rfl (fun hc2 => ?_) (fun hc2 => ?_)
  ·
   refine ae ?_
   refine af (t := .sc (.string t)) rfl rfl rfl (au rfl rfl) ?_
   refine af (t := .sc (.string (t ++ (⟨#[47]⟩ : ByteArray)))) rfl rfl rfl (ai rfl rfl rfl (fun _ => ft (by show _ + 1 ≤ _; omega))) ?_
   refine af (t := .box 1 2) rfl rfl rfl (av rfl rfl dw rfl) ?_
   refine af (t := aH q.den) rfl rfl rfl (aA rfl rfl rfl b6 rfl) ?_
   refine af (t := .sc (.string (iu q.den))) rfl rfl rfl (ak rfl (Cw _ (Nat.le_trans hq.den (by decide)) (by rw [← vE]; exact h2)) rfl rfl) ?_
   refine af (t := .sc (.string (t ++ (⟨#[47]⟩ : ByteArray) ++ iu q.den))) rfl rfl rfl (ai rfl rfl rfl (fun _ => ft (by rw [ByteArray.size_append]; show _ + 1 + _ ≤ _; omega))) ?_
   refine af (t := .sc (.string (t ++ (⟨#[47]⟩ : ByteArray) ++ iu q.den))) rfl rfl rfl (bp rfl rfl) ?_
   refine ag ?_
   refine ab ?_
   refine ae ?_
   refine af (t := .sc (.string (t ++ (⟨#[47]⟩ : ByteArray) ++ iu q.den))) rfl rfl rfl (au rfl rfl) ?_
   refine af (t := .sc (.string (t ++ (⟨#[47]⟩ : ByteArray) ++ iu q.den))) rfl rfl rfl (bp rfl rfl) ?_
   refine ag ?_
   refine aw ?_
   exact ⟨.inr rfl, _, .cons rfl .nil, gd (by unfold eG; rw [ht, if_neg (by simpa using hc2), ByteArray.append_assoc]), rfl⟩
  ·
   refine am ?_
   refine ab ?_
   refine ae ?_
   refine af (t := .sc (.string t)) rfl rfl rfl (au rfl rfl) ?_
   refine af (t := .sc (.string t)) rfl rfl rfl (bp rfl rfl) ?_
   refine ag ?_
   refine aw ?_
   exact ⟨.inr rfl, _, .cons rfl .nil, gd (by unfold eG; rw [ht, if_pos (by simpa using hc2)]), rfl⟩
theorem GW(c:UInt8):cc c= !((decide (c.toNat<48))||(decide (57<c.toNat))):=by
 unfold cc;by_cases b:c.toNat<48
 ·rw[decide_eq_true b,decide_eq_false (by omega)];rfl
 rw[decide_eq_false b,decide_eq_true (p:=48<=c.toNat) (by omega)];by_cases a:57<c.toNat
 ·rw[decide_eq_true a,decide_eq_false (by omega)];rfl
 rw[decide_eq_false a,decide_eq_true (by omega)];rfl
theorem Ku(a:Bool)(c:UInt8):((a&&decide (c.toNat≠47))&&decide (c.toNat≠46))=(a&& !iA c):=by
 unfold iA;cases a<;>by_cases d:c.toNat=47<;>by_cases b:c.toNat=46<;>simp[d,b]
theorem IZ{p:UInt8->Bool}{s:ByteArray}{i:Nat}(h:¬i<s.size):(s.data.toList.drop i).all p=true:=by
 rw[Md (by rw[<-aL];omega)];rfl
theorem Lu{a:Nat}(h:48<=a)(b:a<256):(Tree.sc (.int .u8 (IntKind.u8.wrap ((a:Int)-48))))=.sc (.int .u8 ((a-48:Nat):Int)):=by
 have:=PY ((a:Int)-48);have e:IntKind.u8.wrap ((a:Int)-48)=((a-48:Nat):Int):=by omega
 rw[e]
theorem Ep{l:List UInt8}(h:l.all cc=true):(ax (cI l)).length<=l.length/\(ax (cI l*10)).length<=l.length+1:=by
 have a:=CG h;exact⟨pI a,pI (by rw[MH];omega)⟩
theorem Kv{s:ByteArray}{i:Nat}(h:s.data.toList.all cc=true)(a:i<s.size):48<=(bD s i).toNat/\(bD s i).toNat<=57:=by
 have:=Mh.1 h _ (L7 (bN a));unfold cc at this;simpa using this
theorem GX{l:List UInt8}(h:l.all cc=true)(i:Nat):(l.take i).all cc=true:=Mh.2 fun x a=>Mh.1 h x (ME a)
theorem I1{s:ByteArray}{i:Nat}(h:i<s.size):cI (s.data.toList.take (i+1))=cI (s.data.toList.take i)*10+((bD s i).toNat-48):=by rw[vC h,El]
theorem GY(s:ByteArray){i:Nat}(h:¬i<s.size):cI (s.data.toList.take i)=cI s.data.toList:=by rw[Me (by rw[<-aL];omega)]
def Kw(u:ByteArray)(k:Nat):Bool:=(!(dG (u.extract 0 k)))||((decide (k<u.size))&&(!(dG (u.extract (k+1) u.size))))
theorem I2{u:ByteArray}{k:Nat}(h:Kw u k=false):dG (u.extract 0 k)=true/\(k<u.size->dG (u.extract (k+1) u.size)=true):=by
 unfold Kw at h;simp only[Mo,Pa,Nu,decide_eq_false_iff_not]at h;exact⟨h.1,fun a=>h.2.resolve_left fun h=>h a⟩
theorem gU{s:ByteArray}(h:dG s=true):s.data.toList.all cc=true:=by
 unfold dG at h;exact(OZ.1 h).1
theorem Kx{m n:Nat}(h:m=n):aH m=aH n:=by rw[h]
theorem LV{l m:List ByteArray}(h:l=m):(Tree.sl (l.map bG))=.sl (m.map bG):=by rw[h]
theorem GZ{c d:UInt8}(h:c.toNat=d.toNat):c=d:=OL.1 h
theorem xo(s:ByteArray)(v:V)(h:fP s=some v):Ct 89 [sT s] (.tup [v.tree,bT true]):=⟨⟨_,Tryz.func89,Z,Z⟩,fun G w vs _ _ c=>by
 obtain⟨u,rfl,a⟩:=dp c;cases a;obtain⟨a,b,f⟩:=je h;refine(yY v.t v.n v.s s w a f b.1 b.2).mono ?_;rintro e w' ⟨rfl,d⟩;exact⟨_,Z,.tup [.agg #[.int .i64 v.t,.int .i64 v.n,.string v.s],.bool true] _ (.agg [.int .i64 v.t,.int .i64 v.n,.string v.s] _ (.sc _ (.sc _ (.sc _ .nil))) (.sc _ .nil)) .nil,d⟩⟩
theorem xp(s:ByteArray)(c:s.size<=4294967280)(h:fP s=none):Ct 89 [sT s] (.tup [V.zero.tree,bT false]):=⟨⟨_,Tryz.func89,Z,Z⟩,fun G w vs _ _ b=>by
 obtain⟨u,rfl,a⟩:=dp b;cases a;refine(wW s w c (fun t n d f g a e=>mJ h ⟨t,n,d⟩ ⟨f,⟨g,a⟩,e⟩)).mono ?_;rintro e w' ⟨rfl,i⟩;exact⟨_,Z,.tup [.agg #[.int .i64 0,.int .i64 0,.string ⟨#[]⟩],.bool false] _ (.agg [.int .i64 0,.int .i64 0,.string ⟨#[]⟩] _ (.sc _ (.sc _ (.sc _ .nil))) (.sc _ .nil)) .nil,i⟩⟩
theorem I3:Ct 87 [iT 1] (dt 1):=by
 have h:=pD 1 (by decide);exact h
def G4(a c:UInt8)(q:Bool):Bool:=(decide (a.toNat=c.toNat))&&(!q)
theorem CY(a c:UInt8)(q:Bool):G4 a c q=(a==c&& !q):=by
 unfold G4;have:(decide (a.toNat=c.toNat))=(a==c):=by
  by_cases h:a=c
  ·rw[h];simp
  rw[decide_eq_false (fun e=>h (GZ e)),beq_eq_false_iff_ne.2 h]
 rw[this]
theorem I4{a c:UInt8}{q:Bool}(h:G4 a c q=true):(a==c&& !q)=true:=by rw[<-CY];exact h
theorem I5{a c:UInt8}{q:Bool}(h:G4 a c q=false):¬(a==c&& !q)=true:=by rw[<-CY,h];exact MF
theorem ma:kM Tryz.prog 59=some (9,1,16):=by kernel_rfl
theorem tQ(s:ByteArray)(k:s.size<=1048576):Ct 156 [sT s] (bT (dG s)):=by
 refine Ct.of (n:=23) Tryz.func156 Z Z Z Z Z fun w0 G0=>?_
 refine ab<|aj 1 Z<|ab<|ab<|aj 1 Z<|aB<|aR (fun g h=>∃(i:Nat),(i<=s.size/\(s.data.toList.drop i).all cc=s.data.toList.all cc)/\g=s.size-i/\h=⟨23,[(0,sT s),(3,nI i)],[],[]⟩) 0 0 ⟨0,⟨Mp _,Z⟩,Z,Z⟩ .rf ?_;rintro g h ⟨i,⟨j,a⟩,rfl,rfl⟩;refine ab<|ab<|ae<|aa 2 Z<|af (t:=nI s.size) Z Z Z (cW Z aJ Z)<|af (t:=bT (decide (i<s.size))) Z Z Z (ah (ai Z Z Z Zy) (ar (gA i s.size)))<|ag<|aD Z (fun c=>?_) (fun c=>?_)
 ·have b:=c;refine am<|ab<|aB<|ab<|ae<|aa 2 Z<|af (t:=.sc (.int .u8 (((bD s i).toNat:Nat):Int))) Z Z Z (ce Z aJ Z Z Z (bN b))<|af (t:=bT (decide ((bD s i).toNat<48))) Z Z Z (ah (ai Z Z Z Zy) (ar (gA ((bD s i).toNat) 48)))<|aa 1 Z<|aq (t:=sT s) Z Z Z Z (fun e=>au Z Z)<|aq (t:=nI i) Z Z Z Z (fun e=>au Z Z)<|aq (t:=.sc (.int .u8 (((bD s i).toNat:Nat):Int))) Z Z Z Z (fun e=>ce Z aJ (if_pos e) (if_pos e) Z (bN b))<|aq (t:=bT (decide (57<(bD s i).toNat))) Z Z Z Z (fun e=>ah (ai Z (if_pos e) Z (fun _=>rfl)) (ar (oF ((bD s i).toNat) 57)))<|af (t:=bT ((decide ((bD s i).toNat<48))||(decide (57<(bD s i).toNat)))) Z Z Z (aK Z Z (fun f=>(ar (by rw[f];rfl))) (fun f=>(if_pos f).trans (ar (by rw[f];rfl))))<|ag<|aF Z (fun d=>?_) (fun d=>?_)
  ·refine ab<|aj 1 Z<|aw<|⟨.inr Z,_,.cons Z .nil,ar (by unfold dG;rw[<-a,zq b,GW,d];rfl),Z⟩
  refine am<|ae<|aa 1 Z<|af (t:=nI (i+1)) Z Z Z (ah (ai Z Z Z Zy) (bi (by omega)))<|aa 1 Z<|ag<|⟨_,_,?_,⟨i+1,?_,Z,Z⟩,.rf⟩
  ·omega
  exact⟨by omega,by rw[<-a,zq b,GW,d];rfl⟩
 refine aT<|ab<|ae<|aa 1 Z<|af (t:=nI s.size) Z Z Z (cW Z aJ Z)<|af (t:=bT (decide (0<s.size))) Z Z Z (ah (ai Z Z Z Zy) (ar (oF s.size 0)))<|aa 1 Z<|ag<|aw<|⟨.inr Z,_,.cons Z .nil,ar (by unfold dG;rw[<-a,IZ c,Of]),Z⟩
theorem pS(s:ByteArray)(k:s.size<=100000)(a:s.data.toList.all cc=true):Ct 157 [sT s] (aH (cI s.data.toList)):=by
 refine Ct.of (n:=22) Tryz.func157 Z Z Z Z Z fun w0 G0=>?_
 refine ab<|ae<|af (t:=.sl []) Z Z Z (cz (.inr Z) dk)<|ag<|ab<|ae<|af (t:=.sl []) Z Z Z (cz (.inr Z) dk)<|ag<|ab<|ab<|aj 1 Z<|aB<|aR (fun e f=>∃(i:Nat),(i<=s.size)/\e=s.size-i/\f=⟨22,[(0,sT s),(3,aH (cI (s.data.toList.take i))),(4,nI i)],[],[]⟩) 0 0 ⟨0,Mp _,Z,Z⟩ .rf ?_;rintro e f ⟨i,l,rfl,rfl⟩;refine ab<|ab<|ae<|aa 2 Z<|af (t:=nI s.size) Z Z Z (cW Z aJ Z)<|af (t:=bT (decide (i<s.size))) Z Z Z (ah (ai Z Z Z Zy) (ar (gA i s.size)))<|ag<|aD Z (fun b=>?_) (fun b=>?_)
 ·have c:=b;have d:=Kv a c;obtain⟨j,g⟩:=Ep (GX a i);have h:(s.data.toList.take i).length<=s.size:=by rw[Mf,<-aL];omega
  refine am<|ab<|aB<|cf (fu:=11) [some 11,some 12,some 13,some 14,some 15,some 16,some 17,some 18,some 19,some 20,some 3] [aH (cI (s.data.toList.take i)),aH 10,aH ((cI (s.data.toList.take i))*10),sT s,nI i,.sc (.int .u8 (((bD s i).toNat:Nat):Int)),.sc (.int .u8 (((bD s i).toNat-48:Nat):Int)),.sc (.int .u64 (((bD s i).toNat-48:Nat):Int)),aH ((bD s i).toNat-48),aH (cI (s.data.toList.take (i+1))),aH (cI (s.data.toList.take (i+1)))] (by kernel_rfl) Z Z (by kernel_rfl) Z ?_ ?_
  ·refine Chain.op Z (au Z Z)<|Chain.op Z (ak Z (mE 10 (by decide)) Z Z)<|Chain.op Z (ak Z (pC _ 10 (by omega) (by decide)) Z Z)<|Chain.op Z (au Z Z)<|Chain.op Z (au Z Z)<|Chain.op Z (ce Z aJ Z Z Z (bN c))<|Chain.op Z (ah (ai Z Z Z Zy) (Lu d.1 (by omega)))<|Chain.op Z (ah (g9 Z uY lL Z) (d8 (by rw[IntKind.wrap_u64];omega)))<|Chain.op Z (ak Z (mE _ (by omega)) Z Z)<|Chain.op Z (ak Z (by rw[I1 c];exact CA _ _ (by omega) (Ma (iI (by omega)) (by decide))) Z Z)<|Chain.op Z (bp Z Z)<|Chain.nil
  refine ae<|aa 1 Z<|af (t:=nI (i+1)) Z Z Z (ah (ai Z Z Z Zy) (bi (by omega)))<|aa 1 Z<|ag<|⟨_,_,?_,⟨i+1,?_,Z,Z⟩,.rf⟩
  ·omega
  omega
 refine aT<|ab<|aj 2 Z<|aw<|⟨.inr Z,_,.cons Z .nil,Kx (GY s b),Z⟩
theorem tR(s:ByteArray)(S:s.size<=1048576):Ct 90 [sT s] (uf (cV s)):=by
 refine Ct.of (n:=115) Tryz.func90 Z Z Z Z Z fun w0 G0=>?_
 refine ab<|aj 2 Z<|ab<|ab<|ae<|aa 1 Z<|af (t:=nI s.size) Z Z Z (cW Z aJ Z)<|af (t:=bT (decide (4000<s.size))) Z Z Z (ah (ai Z Z Z Zy) (ar (oF s.size 4000)))<|ag<|aD Z (fun A=>?_) (fun A=>?_)
 ·refine ab<|aj 3 Z<|aw<|⟨.inr Z,_,.cons ⟨_,_,_,_,Z,Z,.inl ⟨_,aI,Z,Z⟩⟩ (.cons Z .nil),by unfold uf cV;rw[if_pos A];rfl,dW _⟩
 refine am<|ab ?_;obtain⟨u,I⟩:∃u,d7 s=u:=⟨_,rfl⟩;have P:u.size<=4000:=by
  rw[<-I];unfold d7;split
  ·simp only[Mn];omega
  omega
 have o:cV s=fj (it s) u (j7 u.data.toList) (u.extract (j7 u.data.toList+1) u.size):=by unfold cV;rw[if_neg A,I]
 refine ae<|aa 1 Z<|af (t:=nI s.size) Z Z Z (cW Z aJ Z)<|af (t:=bT (decide (0<s.size))) Z Z Z (ah (ai Z Z Z Zy) (ar (oF s.size 0)))<|aa 1 Z<|aq (t:=sT s) Z Z Z Z (fun a=>au Z Z)<|aq (t:=.sc (.int .u8 (((bD s 0).toNat:Nat):Int))) Z Z Z Z (fun a=>ce (j:=0) Z aJ (if_pos a) Z Z (bN (of_decide_eq_true a)))<|aq (t:=bT (decide ((bD s 0).toNat=45))) Z Z Z Z (fun a=>ah (ai Z (if_pos a) Z (fun _=>rfl)) (ar (jF ((bD s 0).toNat) 45)))<|af (t:=bT ((decide (0<s.size))&&(decide ((bD s 0).toNat=45)))) Z Z Z (aK Z Z (fun b=>(if_pos b).trans (ar (by rw[b];rfl))) (fun b=>(ar (by rw[b];rfl))))<|af (t:=bT (it s)) Z Z Z (ah (bp Z Z) (ar Z))<|ag<|ab<|jN ⟨115,[(0,sT u),(2,.box 0 0),(3,iT 0),(4,bT (it s))],[(65,[bT false,.sl [],.sl []])],[]⟩ 1 0 ?_ ?_
 ·refine ab<|aj 1 Z<|aF Z (fun w=>?_) (fun w=>?_)
  ·have Q:0<s.size:=by have h:=w;unfold it at h;rw[L8]at h;exact of_decide_eq_true h.1
   refine ae<|aa 1 Z<|af (t:=sT (s.extract 1 s.size)) Z Z Z (cJ (l:=1) (h:=s.size) Z aJ Z ⟨_,Z⟩ Z (by omega) (by omega))<|aa 1 Z<|ag<|⟨Z,Z,Z,.cons (gd (by rw[<-I];unfold d7;rw[if_pos w])) Z (.cons Z Z (.cons Z Z (.cons Z Z .nil))),Z⟩
  refine am<|⟨Z,Z,Z,.cons (gd (by rw[<-I];unfold d7;rw[if_neg (by rw[show it s=false from w];exact MF)])) Z (.cons Z Z (.cons Z Z (.cons Z Z .nil))),Z⟩
 refine ab<|aj 1 Z<|ab<|aB<|aR (fun F G=>∃(k:Nat),(k<=u.size/\k+fH (u.data.toList.drop k)=fH u.data.toList)/\F=u.size-k/\G=⟨115,[(0,sT u),(2,.box 0 0),(3,iT 0),(4,bT (it s)),(5,nI k)],[(65,[bT false,.sl [],.sl []])],[]⟩) 1 0 ⟨0,⟨Mp _,by rw[MT];rfl⟩,Z,Z⟩ .rf ?_;rintro F G ⟨k,⟨O,g⟩,rfl,rfl⟩;refine ab<|ab<|ae<|aa 2 Z<|af (t:=nI u.size) Z Z Z (cW Z aJ Z)<|af (t:=bT (decide (k<u.size))) Z Z Z (ah (ai Z Z Z Zy) (ar (gA k u.size)))<|aa 1 Z<|aq (t:=sT u) Z Z Z Z (fun a=>au Z Z)<|aq (t:=nI k) Z Z Z Z (fun a=>au Z Z)<|aq (t:=.sc (.int .u8 (((bD u k).toNat:Nat):Int))) Z Z Z Z (fun a=>ce Z aJ (if_pos a) (if_pos a) Z (bN (of_decide_eq_true a)))<|aq (t:=bT (decide ((bD u k).toNat≠47))) Z Z Z Z (fun a=>ah (ai Z (if_pos a) Z (fun _=>rfl)) (ar (tV ((bD u k).toNat) 47)))<|af (t:=bT ((decide (k<u.size))&&(decide ((bD u k).toNat≠47)))) Z Z Z (aK Z Z (fun b=>(if_pos b).trans (ar (by rw[b];rfl))) (fun b=>(ar (by rw[b];rfl))))<|aa 1 Z<|aq (t:=sT u) Z Z Z Z (fun a=>au Z Z)<|aq (t:=nI k) Z Z Z Z (fun a=>au Z Z)<|aq (t:=.sc (.int .u8 (((bD u k).toNat:Nat):Int))) Z Z Z Z (fun a=>ce Z aJ (if_pos a) (if_pos a) Z (bN (of_decide_eq_true (OZ.1 a).1)))<|aq (t:=bT (decide ((bD u k).toNat≠46))) Z Z Z Z (fun a=>ah (ai Z (if_pos a) Z (fun _=>rfl)) (ar (tV ((bD u k).toNat) 46)))<|af (t:=bT ((decide (k<u.size))&&(!iA (bD u k)))) Z Z Z (ah (t:=bT (((decide (k<u.size))&&(decide ((bD u k).toNat≠47)))&&(decide ((bD u k).toNat≠46)))) (aK Z Z (fun b=>(if_pos b).trans (ar (by rw[b];rfl))) (fun b=>(ar (by rw[b];rfl)))) (ar (Ku _ _)))<|ag<|aF Z (fun r=>?_) (fun r=>?_)
 ·obtain⟨z,L⟩:=OZ.1 r;replace z:=of_decide_eq_true z;refine am<|aB<|ae<|aa 1 Z<|af (t:=nI (k+1)) Z Z Z (ah (ai Z Z Z Zy) (bi (by omega)))<|aa 1 Z<|ag<|⟨_,_,?_,⟨k+1,?_,Z,Z⟩,.rf⟩
  ·omega
  exact⟨by omega,by rw[vB z,if_neg (by simpa using L)]at g;omega⟩
 have c:fH u.data.toList=k:=by
  rcases MA k u.size with h|h
  ·rw[decide_eq_true h,Of]at r;rw[vB h,if_pos (by simpa using r)]at g;omega
  rw[Md (by rw[<-aL];omega)]at g;exact g.symm
 refine aT<|ab<|ab<|ae<|aa 2 Z<|af (t:=sT (u.extract 0 k)) Z Z Z (cJ (l:=0) (h:=k) Z aJ Z Z ⟨_,Z⟩ (by omega) (by omega))<|af Z Z Z (ak Z (tQ _ (by simp only[Mn];omega)) Z Z)<|af (t:=bT (!(dG (u.extract 0 k)))) Z Z Z (dm Z Z Zy)<|aa 1 Z<|aq (t:=nI k) Z Z Z Z (fun a=>au Z Z)<|aq (t:=sT u) Z Z Z Z (fun a=>au Z Z)<|aq (t:=nI u.size) Z Z Z Z (fun a=>cW Z aJ (if_pos a))<|aq (t:=bT (decide (k<u.size))) Z Z Z Z (fun a=>ah (ai Z (if_pos a) (if_pos a) (fun _=>rfl)) (ar (gA k u.size)))<|aq (t:=bT (decide (k<u.size))) Z Z Z Z (fun a=>au Z (if_pos a))<|bY (t:=sT u) Z Z Z Z (fun a=>au Z Z)<|bY (t:=nI k) Z Z Z Z (fun a=>au Z Z)<|bY (t:=nI (k+1)) Z Z Z Z (fun a=>ah (ai Z (if_pos a) Z (fun _=>rfl)) (bi (by omega)))<|bY (t:=sT (u.extract (k+1) u.size)) Z Z Z Z (fun a=>cJ (l:=k+1) (h:=u.size) Z aJ (if_pos a) ⟨_,(if_pos a)⟩ Z (by have:=of_decide_eq_true a.2;omega) (by omega))<|bY (t:=bT (dG (u.extract (k+1) u.size))) Z Z Z Z (fun a=>ak Z (tQ _ (by simp only[Mn];omega)) (eR (if_pos a) Z) Z)<|bY (t:=bT (!(dG (u.extract (k+1) u.size)))) Z Z Z Z (fun a=>dm Z (if_pos a) (fun _=>rfl))<|aq (t:=bT ((decide (k<u.size))&&(!(dG (u.extract (k+1) u.size))))) Z Z Z Z (fun a=>aK Z (if_pos a) (fun b=>(if_pos ⟨a,b⟩).trans (ar (by rw[b];rfl))) (fun b=>(ar (by rw[b];rfl))))<|af (t:=bT (Kw u k)) Z Z Z (ah (t:=bT ((!(dG (u.extract 0 k)))||((decide (k<u.size))&&(!(dG (u.extract (k+1) u.size)))))) (aK Z Z (fun b=>(ar (by rw[b];rfl))) (fun b=>(if_pos b).trans (ar (by rw[b];rfl)))) (ar Z))<|ag<|aF Z (fun C=>?_) (fun C=>?_)
 ·have M:=C;refine ab<|aj 3 Z<|aw<|⟨.inr Z,_,.cons ⟨_,_,_,_,Z,Z,.inl ⟨_,aI,Z,Z⟩⟩ (.cons Z .nil),by rw[o,Kr (by rw[c];exact M)];rfl,dW _⟩
 obtain⟨f,d⟩:=I2 C;refine am<|ab<|ab<|ae<|aa 2 Z<|af (t:=nI u.size) Z Z Z (cW Z aJ Z)<|af (t:=bT (decide (k=u.size))) Z Z Z (ah (ai Z Z Z Zy) (ar (jF k u.size)))<|ag<|aD Z (fun E=>?_) (fun E=>?_)
 ·have K:=E;have y:u.data.toList.all cc=true:=by
   have h:=gU f;rw[dF,M8,Me (by rw[<-aL];omega)]at h;exact h
  refine ab<|ae<|aa 2 Z<|af Z Z Z (ak Z (pS u (by omega) y) Z Z)<|af Z Z Z (ak Z (mE 1 (by decide)) Z Z)<|af Z Z Z (ak Z (io _ _ _ (eQ y (by rw[<-aL];omega)) (by decide) (by decide)) Z Z)<|aa 2 Z<|ag<|aw<|⟨.inr Z,_,.cons ⟨_,_,_,_,Z,Z,.inl ⟨_,aI,Z,Z⟩⟩ (.cons Z .nil),by rw[o,Ks (by rw[c];exact f) (by rw[c];exact K)];rfl,dW _⟩
 have p:k<u.size:=by omega
 replace d:=d p;refine am<|ab<|ab<|ae<|aa 2 Z<|af (t:=.sc (.int .u8 (((bD u k).toNat:Nat):Int))) Z Z Z (ce Z aJ Z Z Z (bN p))<|af (t:=bT (decide ((bD u k).toNat=47))) Z Z Z (ah (ai Z Z Z Zy) (ar (jF ((bD u k).toNat) 47)))<|ag<|aD Z (fun B=>?_) (fun B=>?_)
 ·have v:=B;refine ab<|ae<|aa 2 Z<|af (t:=nI (k+1)) Z Z Z (ah (ai Z Z Z Zy) (bi (by omega)))<|af (t:=sT (u.extract (k+1) u.size)) Z Z Z (cJ (l:=k+1) (h:=u.size) Z aJ Z ⟨_,Z⟩ Z (by omega) (by omega))<|af Z Z Z (ak Z (pS _ (by simp only[Mn];omega) (gU d)) Z Z)<|aa 1 Z<|ag<|ab<|ab<|ae<|aa 1 Z<|af (t:=nI ((ax (cI (u.extract (k+1) u.size).data.toList)).length)) Z Z Z (ah (aZ Z c7 Z) (by simp only[L5]))<|af (t:=bT (decide ((ax (cI (u.extract (k+1) u.size).data.toList)).length=0))) Z Z Z (ah (ai Z Z Z Zy) (ar (jF ((ax (cI (u.extract (k+1) u.size).data.toList)).length) 0)))<|ag<|aD Z (fun D=>?_) (fun D=>?_)
  ·have q:=bR.1 D;refine ab<|aj 3 Z<|aw<|⟨.inr Z,_,.cons ⟨_,_,_,_,Z,Z,.inl ⟨_,aI,Z,Z⟩⟩ (.cons Z .nil),by rw[o,CU (by rw[c];exact f) (by rw[c];exact p) (by rw[c];exact d) (by rw[c];exact v),c,if_pos q];rfl,dW _⟩
  have q:¬cI (u.extract (k+1) u.size).data.toList=0:=fun e=>D (bR.2 e)
  refine am<|ab<|ae<|aa 3 Z<|af (t:=sT (u.extract 0 k)) Z Z Z (cJ (l:=0) (h:=k) Z aJ Z Z ⟨_,Z⟩ (by omega) (by omega))<|af Z Z Z (ak Z (pS _ (by simp only[Mn];omega) (gU f)) Z Z)<|aa 1 Z<|af Z Z Z (ak Z (io _ _ _ (eQ (gU f) (by rw[<-aL];simp only[Mn];omega)) (eQ (gU d) (by rw[<-aL];simp only[Mn];omega)) (MS q)) Z Z)<|aa 2 Z<|ag<|aw<|⟨.inr Z,_,.cons ⟨_,_,_,_,Z,Z,.inl ⟨_,aI,Z,Z⟩⟩ (.cons Z .nil),by rw[o,CU (by rw[c];exact f) (by rw[c];exact p) (by rw[c];exact d) (by rw[c];exact v),c,if_neg q];rfl,dW _⟩
 have v:=B;have x:(u.extract 0 k++u.extract (k+1) u.size).data.toList.all cc=true:=by rw[OC,MZ,NH,gU f,gU d];rfl
 refine am<|ab<|ae<|af Z Z Z (ak Z (mE 1 (by decide)) Z Z)<|aa 1 Z<|ag<|ab<|ab<|ae<|aa 1 Z<|af (t:=nI (k+1)) Z Z Z (ah (ai Z Z Z Zy) (bi (by omega)))<|aa 1 Z<|ag<|aB<|aR (fun F G=>∃(m:Nat),(k+1+m<=u.size)/\F=u.size-m/\G=⟨115,[(0,sT u),(2,.box 0 0),(3,iT 0),(4,bT (it s)),(5,nI k),(7,aH (10^m)),(8,nI (k+1+m))],[(65,[bT false,.sl [],.sl []])],[]⟩) 1 0 ⟨0,by omega,Z,Z⟩ .rf ?_;rintro F G ⟨m,R,rfl,rfl⟩;refine ab<|ab<|ae<|aa 2 Z<|af (t:=nI u.size) Z Z Z (cW Z aJ Z)<|af (t:=bT (decide (k+1+m<u.size))) Z Z Z (ah (ai Z Z Z Zy) (ar (gA (k+1+m) u.size)))<|ag<|aD Z (fun H=>?_) (fun H=>?_)
 ·have N:=H;refine am<|ab<|aB<|ae<|aa 1 Z<|af Z Z Z (ak Z (mE 10 (by decide)) Z Z)<|af Z Z Z (ak Z (pC (10^m) 10 (l0 (by omega)) (by decide)) Z Z)<|aa 1 Z<|ag<|ae<|aa 1 Z<|af (t:=nI ((k+1+m)+1)) Z Z Z (ah (ai Z Z Z Zy) (bi (by omega)))<|aa 1 Z<|ag<|⟨_,_,?_,⟨m+1,?_,Z,Z⟩,.rf⟩
  ·omega
  omega
 have J:m=u.size-(k+1):=by omega
 refine aT<|ab<|hH (sl':=[(0,sT u),(2,.box 0 0),(3,iT 0),(4,bT (it s)),(5,nI k),(7,aH (10^m)),(8,nI (k+1+m)),(97,bT (decide (k+1+m<u.size)))]) ⟨Z,⟨Z,⟨Z,⟨Z,⟨Z,⟨Z,⟨Z,⟨Z,trivial⟩⟩⟩⟩⟩⟩⟩⟩<|ff (fu:=1) [some 103,some 104,some 105,some 106,some 107,some 108,some 109,some 110,some 111,some 112,some 113,some 114,none,some 3] [12] [bT (it s),sT u,nI k,sT (u.extract 0 k),sT u,nI k,nI (k+1),sT (u.extract (k+1) u.size),sT (u.extract 0 k++u.extract (k+1) u.size),aH (cI (u.extract 0 k++u.extract (k+1) u.size).data.toList),aH (10^m),.agg [bT (decide ((dH (it s) (cI (u.extract 0 k++u.extract (k+1) u.size).data.toList) (10^m)).num<0)),aH ((dH (it s) (cI (u.extract 0 k++u.extract (k+1) u.size).data.toList) (10^m)).num.natAbs),aH ((dH (it s) (cI (u.extract 0 k++u.extract (k+1) u.size).data.toList) (10^m)).den)],.any,iT 0] [] ⟨[12],[(0,sT u),(2,.box 0 0),(3,iT 0),(4,bT (it s)),(5,nI k),(7,aH (10^m)),(8,nI (k+1+m)),(97,bT (decide (k+1+m<u.size)))],[(65,[bT (decide ((dH (it s) (cI (u.extract 0 k++u.extract (k+1) u.size).data.toList) (10^m)).num<0)),aH ((dH (it s) (cI (u.extract 0 k++u.extract (k+1) u.size).data.toList) (10^m)).num.natAbs),aH ((dH (it s) (cI (u.extract 0 k++u.extract (k+1) u.size).data.toList) (10^m)).den)])],[],[bT (it s),sT u,nI k,sT (u.extract 0 k),sT u,nI k,nI (k+1),sT (u.extract (k+1) u.size),sT (u.extract 0 k++u.extract (k+1) u.size),aH (cI (u.extract 0 k++u.extract (k+1) u.size).data.toList),aH (10^m),.agg [bT (decide ((dH (it s) (cI (u.extract 0 k++u.extract (k+1) u.size).data.toList) (10^m)).num<0)),aH ((dH (it s) (cI (u.extract 0 k++u.extract (k+1) u.size).data.toList) (10^m)).num.natAbs),aH ((dH (it s) (cI (u.extract 0 k++u.extract (k+1) u.size).data.toList) (10^m)).den)],.any,iT 0]⟩ (by kernel_rfl) Z (by kernel_rfl) (by kernel_rfl) (by kernel_rfl) Z Z ?_ ?_
 ·refine .opp [] (.okk Z (au Z Z)<|.fin)<|.opp [] (.okk Z (au Z Z)<|.fin)<|.opp [] (.okk Z (au Z Z)<|.fin)<|.opp [1,2] (.okk Z (cJ (l:=0) (h:=k) Z aJ Z Z ⟨_,Z⟩ (by omega) (by omega))<|.fin)<|.opp [] (.okk Z (au Z Z)<|.fin)<|.opp [] (.okk Z (au Z Z)<|.fin)<|.opp [5] (.okk Z (ah (ai Z Z Z Zy) (bi (by omega)))<|.fin)<|.opp [4,6] (.okk Z (cJ (l:=k+1) (h:=u.size) Z aJ Z ⟨_,Z⟩ Z (by omega) (by omega))<|.fin)<|.opp [3,7] (.okk Z (ai Z Z Z (fun _=>ft (by simp only[Mn];omega)))<|.fin)<|.opp [8] (.okk Z (ak Z (pS _ (by rw[No];simp only[Mn];omega) x) Z Z)<|.fin)<|.opp [] (.okk Z (au Z Z)<|.fin)<|.opp [0,9,10] (.okk Z (ak Z (io _ _ _ (eQ x (by rw[<-aL,No];simp only[Mn];omega)) (l0 (by omega)) (NF (by decide))) Z Z)<|.fin)<|.opp [11] (.wr 1 id .any (by kernel_rfl) Z Z (gE Z Z Z Z Z Z Z Z eg Z Z Z) Z Z Z Z (.k Z (.k Z (.k Z (.k Z (.k Z (.k Z (.k Z (.k Z (.k Z (.k Z (.k Z (.k Z (.i Z (.k Z .nil))))))))))))))<|.fin)<|.opp [] (.no (by kernel_rfl)<|.okk Z (bp Z Z)<|.nil)<|.nil
 refine aw<|⟨.inr Z,_,.cons ⟨_,_,_,_,Z,Z,.inl ⟨_,aI,Z,Z⟩⟩ (.cons Z .nil),by rw[o,Kt (by rw[c];exact f) (by rw[c];exact p) (by rw[c];exact d) (by rw[c];exact v),c,<-J];rfl,dW _⟩
theorem Er(s:ByteArray)(x:s.size<=1048576):Ct 32 [sT s] (.sl ((vt s.data.toList []).map bG)):=by
 refine Ct.of (n:=36) Tryz.func32 Z Z Z Z Z fun w0 G0=>?_
 refine ab<|ae<|af (t:=.sl []) Z Z Z (cz (.inr Z) dk)<|ag<|ab<|ae<|gW (k:=0) (e:=9) (sz:=1) (rs':=[some ⟨9,1,[].map bG,false⟩]) (.inr Z) Z Z Z Z Z<|ag<|ab<|aj 1 Z<|ab<|ab<|aj 1 Z<|aB<|aR (fun r v=>∃(i:Nat) (f:Nat) (a:List ByteArray),(f<=i/\i<=s.size/\a.length<=i/\a++vt (s.data.toList.drop i) (s.extract f i).data.toList=vt s.data.toList [])/\r=s.size-i/\v=⟨36,[(0,sT s),(2,.sl []),(3,.own 0),(4,nI f),(5,nI i)],[],[some ⟨9,1,a.map bG,false⟩]⟩) 0 1 ⟨0,0,[],⟨L4 _,Mp _,L4 _,by rw[mN];rfl⟩,Z,Z⟩ .rf ?_;rintro r v ⟨i,f,a,⟨p,w,q,b⟩,rfl,rfl⟩;refine ab<|ab<|ae<|aa 2 Z<|af (t:=nI s.size) Z Z Z (cW Z aJ Z)<|af (t:=bT (decide (i<s.size))) Z Z Z (ah (ai Z Z Z Zy) (ar (gA i s.size)))<|ag<|aD Z (fun j=>?_) (fun j=>?_)
 ·have c:=j;refine am<|ab<|aB<|ab<|ae<|aa 2 Z<|af (t:=.sc (.int .u8 (((bD s i).toNat:Nat):Int))) Z Z Z (ce Z aJ Z Z Z (bN c))<|af (t:=bT (decide ((bD s i).toNat=10))) Z Z Z (ah (ai Z Z Z Zy) (ar (jF ((bD s i).toNat) 10)))<|ag<|aD Z (fun g=>?_) (fun g=>?_)
  ·have d:bD s i=10:=GZ g;refine ab<|ae<|aa 4 rfl<|af (t:=sT (s.extract f i)) rfl rfl rfl (cJ (l:=f) (h:=i) rfl aJ rfl ⟨_,rfl⟩ ⟨_,rfl⟩ (by omega) (by omega))<|af (t:=.sl [sT (s.extract f i)]) rfl rfl rfl (aQ rfl cD ln rfl (by decide) (by decide) rfl rfl rfl rfl rfl)<|cg (bs':=[]) (rs':=[some ⟨9,1,(a++[s.extract f i]).map bG,false⟩]) rfl rfl rfl rfl ma rfl rfl rfl rfl (by intro e m;simp only[Mi,Nf,or_false]at m;subst m;rfl) (AllC.lit rfl) (AllC.lit rfl) (by simp only[L5,L9,Mg];omega) rfl rfl rfl (by rw[MX];rfl)<|aa 1 rfl<|ag<|ae<|aa 1 rfl<|af (t:=nI (i+1)) rfl rfl rfl (ah (ai rfl rfl rfl Zy) (bi (by omega)))<|aa 1 rfl<|ag<|ae<|aa 1 rfl<|af (t:=nI (i+1)) rfl rfl rfl (ah (ai rfl rfl rfl Zy) (bi (by omega)))<|aa 1 rfl<|ag<|⟨_,_,?_,⟨i+1,i+1,(a++[s.extract f i]),?_,rfl,rfl⟩,.rf⟩
   ·omega
   refine⟨by omega,by omega,by(try simp only[Mb,L9,Mg]);omega,?_⟩;rw[<-b,GT c,if_pos d,mN,lm,Mv];rfl
  have d:¬bD s i=10:=fun e=>g (by rw[e];rfl)
  refine am<|ae<|aa 1 Z<|af (t:=nI (i+1)) Z Z Z (ah (ai Z Z Z Zy) (bi (by omega)))<|aa 1 Z<|ag<|⟨_,_,?_,⟨i+1,f,a,?_,Z,Z⟩,.rf⟩
  ·omega
  refine⟨by omega,by omega,by(try simp only[Mb,L9,Mg]);omega,?_⟩;rw[<-b,GT c,if_neg d,zu p c]
 refine aT<|ab<|ab<|ae<|aa 2 Z<|af (t:=nI s.size) Z Z Z (cW Z aJ Z)<|af (t:=bT (decide (f<s.size))) Z Z Z (ah (ai Z Z Z Zy) (ar (gA f s.size)))<|ag<|aD Z (fun o=>?_) (fun o=>?_)
 ·refine ae<|aa 3 rfl<|af (t:=sT (s.extract f s.size)) rfl rfl rfl (cJ (l:=f) (h:=s.size) rfl aJ rfl ⟨_,rfl⟩ rfl (by omega) (by omega))<|af (t:=.sl [sT (s.extract f s.size)]) rfl rfl rfl (aQ rfl cD ln rfl (by decide) (by decide) rfl rfl rfl rfl rfl)<|cg (bs':=[]) (rs':=[some ⟨9,1,(a++[s.extract f s.size]).map bG,false⟩]) rfl rfl rfl rfl ma rfl rfl rfl rfl (by intro e m;simp only[Mi,Nf,or_false]at m;subst m;rfl) (AllC.lit rfl) (AllC.lit rfl) (by simp only[L5,L9,Mg];omega) rfl rfl rfl (by rw[MX];rfl)<|aa 1 rfl<|ag<|ab<|ek 0 (bs':=[]) (rs':=[none]) rfl rfl rfl rfl<|aj 2 rfl<|aw<|⟨.inr rfl,_,.cons rfl .nil,LV (by rw[<-b,Md (by rw[<-aL];omega),vt,if_neg (fun e=>by have u:=congrArg List.length e;rw[<-aL,Mn]at u;simp at u;omega),lm,show i=s.size by omega]),rfl⟩
 refine am<|ab<|ek 0 (bs':=[]) (rs':=[none]) Z Z Z Z<|aj 2 Z<|aw<|⟨.inr Z,_,.cons Z .nil,LV (by rw[<-b,Md (by rw[<-aL];omega),vt,if_pos (by rw[show f=i by omega];exact mN i),Mq]),Z⟩
theorem CZ(s:ByteArray)(c:UInt8)(D:s.size<=1048576):Ct 88 [sT s,.sc (.int .u8 ((c.toNat:Nat):Int))] (.sl ((g6 c s).map bG)):=by
 refine Ct.of (n:=45) Tryz.func88 Z Z Z Z Z fun w0 G0=>?_
 refine ab<|ae<|af (t:=.sl []) Z Z Z (cz (.inr Z) dk)<|ag<|ab<|ae<|gW (k:=0) (e:=9) (sz:=1) (rs':=[some ⟨9,1,[].map bG,false⟩]) (.inr Z) Z Z Z Z Z<|ag<|ab<|aj 2 Z<|ab<|ab<|aj 1 Z<|aB<|aR (fun A B=>∃(i:Nat) (f:Nat) (q:Bool) (a:List ByteArray),(f<=i/\i<=s.size/\a.length<=i/\a++fk c (s.data.toList.drop i) q (s.extract f i).data.toList=g6 c s)/\A=s.size-i/\B=⟨45,[(0,sT s),(1,.sc (.int .u8 ((c.toNat:Nat):Int))),(4,.sl []),(5,.own 0),(6,nI f),(7,bT q),(8,nI i)],[],[some ⟨9,1,a.map bG,false⟩]⟩) 0 1 ⟨0,0,false,[],⟨L4 _,Mp _,L4 _,by rw[mN];rfl⟩,Z,Z⟩ .rf ?_;rintro A B ⟨i,f,q,a,⟨x,C,z,d⟩,rfl,rfl⟩;refine ab<|ab<|ae<|aa 2 Z<|af (t:=nI s.size) Z Z Z (cW Z aJ Z)<|af (t:=bT (decide (i<s.size))) Z Z Z (ah (ai Z Z Z Zy) (ar (gA i s.size)))<|ag<|aD Z (fun u=>?_) (fun u=>?_)
 ·have b:=u;obtain⟨j,g⟩:∃j,(if bD s i==39 then !q else q)=j:=⟨_,rfl⟩;refine am<|ab<|aB<|ab<|jN ⟨45,[(0,sT s),(1,.sc (.int .u8 ((c.toNat:Nat):Int))),(4,.sl []),(5,.own 0),(6,nI f),(7,bT j),(8,nI i)],[],[some ⟨9,1,a.map bG,false⟩]⟩ 0 1 ?_ ?_
  ·refine ab<|ae<|aa 2 Z<|af (t:=.sc (.int .u8 (((bD s i).toNat:Nat):Int))) Z Z Z (ce Z aJ Z Z Z (bN b))<|af (t:=bT (decide ((bD s i).toNat=39))) Z Z Z (ah (ai Z Z Z Zy) (ar (jF ((bD s i).toNat) 39)))<|ag<|aD Z (fun r=>?_) (fun r=>?_)
   ·have o:bD s i=39:=GZ r;refine ae<|aa 1 Z<|af (t:=bT (!q)) Z Z Z (dm Z Z Zy)<|aa 1 Z<|ag<|⟨Z,Z,Z,.cons Z Z (.cons Z Z (.cons Z Z (.cons Z Z (.cons Z Z (.cons (ar (by rw[<-g,if_pos (by rw[o];rfl)])) Z (.cons Z Z .nil)))))),Z⟩
   have o:¬bD s i=39:=fun e=>r (by rw[e];rfl)
   refine am<|⟨Z,Z,Z,.cons Z Z (.cons Z Z (.cons Z Z (.cons Z Z (.cons Z Z (.cons (ar (by rw[<-g,if_neg (by rw[beq_eq_false_iff_ne.2 o];exact MF)])) Z (.cons Z Z .nil)))))),Z⟩
  refine ab<|ae<|aa 2 Z<|af (t:=.sc (.int .u8 (((bD s i).toNat:Nat):Int))) Z Z Z (ce Z aJ Z Z Z (bN b))<|aa 1 Z<|af (t:=bT (decide ((bD s i).toNat=c.toNat))) Z Z Z (ah (ai Z Z Z Zy) (ar (jF ((bD s i).toNat) c.toNat)))<|aa 1 Z<|aq (t:=bT j) Z Z Z Z (fun y=>au Z Z)<|aq (t:=bT (!j)) Z Z Z Z (fun y=>dm Z (if_pos y) (fun _=>rfl))<|af (t:=bT (G4 (bD s i) c j)) Z Z Z (ah (t:=bT ((decide ((bD s i).toNat=c.toNat))&&(!j))) (aK Z Z (fun w=>(if_pos w).trans (ar (by rw[w];rfl))) (fun w=>(ar (by rw[w];rfl)))) (ar Z))<|ag<|aF Z (fun m=>?_) (fun m=>?_)
  ·have p:=I4 m;refine ab<|ae<|aa 4 rfl<|af (t:=sT (s.extract f i)) rfl rfl rfl (cJ (l:=f) (h:=i) rfl aJ rfl ⟨_,rfl⟩ ⟨_,rfl⟩ (by omega) (by omega))<|af (t:=.sl [sT (s.extract f i)]) rfl rfl rfl (aQ rfl cD ln rfl (by decide) (by decide) rfl rfl rfl rfl rfl)<|cg (bs':=[]) (rs':=[some ⟨9,1,(a++[s.extract f i]).map bG,false⟩]) rfl rfl rfl rfl ma rfl rfl rfl rfl (by intro e v;simp only[Mi,Nf,or_false]at v;subst v;rfl) (AllC.lit rfl) (AllC.lit rfl) (by simp only[L5,L9,Mg];omega) rfl rfl rfl (by rw[MX];rfl)<|aa 1 rfl<|ag<|ae<|aa 1 rfl<|af (t:=nI (i+1)) rfl rfl rfl (ah (ai rfl rfl rfl Zy) (bi (by omega)))<|aa 1 rfl<|ag<|ae<|aa 1 rfl<|af (t:=nI (i+1)) rfl rfl rfl (ah (ai rfl rfl rfl Zy) (bi (by omega)))<|aa 1 rfl<|ag<|⟨_,_,?_,⟨i+1,i+1,j,(a++[s.extract f i]),?_,rfl,rfl⟩,.rf⟩
   ·omega
   refine⟨by omega,by omega,by(try simp only[Mb,L9,Mg]);omega,?_⟩;rw[<-d,CV b,g,if_pos p,mN,lm,Mv];rfl
  have p:=I5 m;refine am<|ae<|aa 1 Z<|af (t:=nI (i+1)) Z Z Z (ah (ai Z Z Z Zy) (bi (by omega)))<|aa 1 Z<|ag<|⟨_,_,?_,⟨i+1,f,j,a,?_,Z,Z⟩,.rf⟩
  ·omega
  refine⟨by omega,by omega,by(try simp only[Mb,L9,Mg]);omega,?_⟩;rw[<-d,CV b,g,if_neg p,zu x b]
 refine aT<|ab<|ae<|aa 3 rfl<|af (t:=sT (s.extract f s.size)) rfl rfl rfl (cJ (l:=f) (h:=s.size) rfl aJ rfl ⟨_,rfl⟩ rfl (by omega) (by omega))<|af (t:=.sl [sT (s.extract f s.size)]) rfl rfl rfl (aQ rfl cD ln rfl (by decide) (by decide) rfl rfl rfl rfl rfl)<|cg (bs':=[]) (rs':=[some ⟨9,1,(a++[s.extract f s.size]).map bG,false⟩]) rfl rfl rfl rfl ma rfl rfl rfl rfl (by intro e v;simp only[Mi,Nf,or_false]at v;subst v;rfl) (AllC.lit rfl) (AllC.lit rfl) (by simp only[L5,L9,Mg];omega) rfl rfl rfl (by rw[MX];rfl)<|aa 1 rfl<|ag<|ek 0 (bs':=[]) (rs':=[none]) rfl rfl rfl rfl<|aw<|⟨.inr rfl,_,.cons rfl .nil,LV (by rw[<-d,Md (by rw[<-aL];omega),fk,lm,show i=s.size by omega]),rfl⟩
end Go.Proofs.YtfoejfohbkmmeaaGreatDoor
