import Derived.Test.YtfoejfohbkmmeaaGreatDoorU45
import Derived.Test.YtfoejfohbkmmeaaGreatDoorU00
import Derived.Lib.SlBytesConst
import Derived.Test.YtfoejfohbkmmeaaGreatDoorU08
import Derived.Test.YtfoejfohbkmmeaaGreatDoorU41
import Derived.Test.YtfoejfohbkmmeaaGreatDoorU02
set_option maxRecDepth 100000
set_option maxHeartbeats 4000000
namespace Go.Proofs.YtfoejfohbkmmeaaGreatDoor
open Go.RowKit
open Lib renaming hid→J
def KP:List UInt8:=[39,98,44,32,99,39,44,49,58,48,46,53,10,10,39,97,39,44,50,58,49,47,51]
def KQ:List UInt8:=[39,97,39,44,49,58,49,10,39,97,39,44,50,58,49,47,57]
def Cp:List UInt8:=[39,97,39,44,50,58,49,47,51,10,39,98,44,32,99,39,44,49,58,49,47,50,10]
def kA:Tp:=⟨[⟨2,0,⟨#[97]⟩⟩,⟨1,2,⟨#[]⟩⟩],cF false 1 3⟩
def kB:Tp:=⟨[⟨2,0,⟨#[98,44,32,99]⟩⟩,⟨1,1,⟨#[]⟩⟩],cF false 1 2⟩
theorem KR:cL (bs KP)=[bs [39,98,44,32,99,39,44,49,58,48,46,53],bs [],bs [39,97,39,44,50,58,49,47,51]]:=by
 have e:=iN (a:=[39,98,44,32,99,39,44,49,58,48,46,53]) (b:=[10,39,97,39,44,50,58,49,47,51]) (by decide);have c:=iN (a:=[]) (b:=[39,97,39,44,50,58,49,47,51]) (by decide);have d:=lG (a:=[39,97,39,44,50,58,49,47,51]) (by decide);rw[d]at c;exact e.trans (congrArg _ c)
theorem m0{v:V}{vs:List V}{p:List UInt8}{q:Rat}(c:Gv v)(a:∀x∈vs,Gv x)(b:gR (bs p)=(q,0)):(cE (bs (b7 0 (v::vs)++58::p)) false).ok=true/\jF (cE (bs (b7 0 (v::vs)++58::p)) false)=⟨v::vs,q⟩:=by
 have f:j0 ((bs (b7 0 (v::vs)++58::p)).size+1) (bs (b7 0 (v::vs)++58::p)) []=some (v::vs,bs (58::p)):=by
  have e:b7 0 (v::vs)++58::p=v.fmt++(b7 1 vs++58::p):=by rw[b7,if_neg (by omega)];simp
  have g:=pZ vs 1 (by omega);rw[e];refine pY (.inr ⟨_,Z⟩) vs v _ [] ?_ c a;rw[rl];simp only[Mc];omega
 have d:(bs (58::p)).extract 1 (bs (58::p)).size=bs p:=mY [58] p;unfold cE;rw[f];simp only;rw[if_neg (by simp),if_neg (by rw[eX];simp[Lib.hasPrefix,List.isPrefixOf]),d,if_pos (by rw[b])];refine⟨Z,?_⟩;unfold jF;simp only;rw[b,fd]
def Ln:List UInt8:=[39,98,44,32,99,39,44,49,58,48,46,53]
def Lo:List UInt8:=[39,97,39,44,50,58,49,47,51]
def KT:List UInt8:=[39,97,39,44,49,58,49]
def JX:List UInt8:=[39,97,39,44,50,58,49,47,57]
def kC:Tp:=⟨[⟨2,0,⟨#[97]⟩⟩,⟨1,1,⟨#[]⟩⟩],cF false 1 1⟩
def kD:Tp:=⟨[⟨2,0,⟨#[97]⟩⟩,⟨1,2,⟨#[]⟩⟩],cF false 1 9⟩
theorem qD:(∀x∈[(⟨1,1,⟨#[]⟩⟩:V)],Gv x)/\(∀x∈[(⟨1,2,⟨#[]⟩⟩:V)],Gv x)/\Gv ⟨2,0,⟨#[97]⟩⟩/\Gv ⟨2,0,⟨#[98,44,32,99]⟩⟩:=by
 refine⟨fun x a=>?_,fun x a=>?_,?_,?_⟩
 ·rw[Ml.1 a];exact⟨by kernel_rfl,by unfold V.rng;decide⟩
 ·rw[Ml.1 a];exact⟨by kernel_rfl,by unfold V.rng;decide⟩
 ·exact⟨by kernel_rfl,by unfold V.rng;decide⟩
 exact⟨by kernel_rfl,by unfold V.rng;decide⟩
theorem KU:(cE (bs Ln) false).ok=true/\jF (cE (bs Ln) false)=kB:=by
 have h:=m0 (p:=[48,46,53]) (q:=cF false 1 2) qD.2.2.2 qD.1 (by decide+kernel);have e:b7 0 [(⟨2,0,⟨#[98,44,32,99]⟩⟩:V),⟨1,1,⟨#[]⟩⟩]++58::[48,46,53]=Ln:=by kernel_rfl
 rw[e]at h;exact h
theorem KV:(cE (bs Lo) false).ok=true/\jF (cE (bs Lo) false)=kA:=by
 have h:=m0 (p:=[49,47,51]) (q:=cF false 1 3) qD.2.2.1 qD.2.1 (by decide+kernel);have e:b7 0 [(⟨2,0,⟨#[97]⟩⟩:V),⟨1,2,⟨#[]⟩⟩]++58::[49,47,51]=Lo:=by kernel_rfl
 rw[e]at h;exact h
theorem KW:(cE (bs KT) false).ok=true/\jF (cE (bs KT) false)=kC:=by
 have h:=m0 (p:=[49]) (q:=cF false 1 1) qD.2.2.1 qD.1 (by decide+kernel);have e:b7 0 [(⟨2,0,⟨#[97]⟩⟩:V),⟨1,1,⟨#[]⟩⟩]++58::[49]=KT:=by kernel_rfl
 rw[e]at h;exact h
theorem KX:(cE (bs JX) false).ok=true/\jF (cE (bs JX) false)=kD:=by
 have h:=m0 (p:=[49,47,57]) (q:=cF false 1 9) qD.2.2.1 qD.2.1 (by decide+kernel);have e:b7 0 [(⟨2,0,⟨#[97]⟩⟩:V),⟨1,2,⟨#[]⟩⟩]++58::[49,47,57]=JX:=by kernel_rfl
 rw[e]at h;exact h
theorem KY:cL (bs KQ)=[bs KT,bs JX]:=by
 have c:=iN (a:=KT) (b:=JX) (by decide);have d:=lG (a:=JX) (by decide);rw[d]at c;exact c
theorem LL:j1 ⟨gT,[kA,kB]⟩=Cp:=by kernel_rfl
theorem KZ:cJ ⟨gT,[]⟩ kB=0:=by decide+kernel
theorem K0:cJ ⟨gT,[kB]⟩ kA=0:=by decide+kernel
theorem K3:bD ⟨gT,[kB]⟩ kA=⟨gT,[kA,kB]⟩:=by kernel_rfl
theorem K4:cJ ⟨gT,[]⟩ kC=0:=by decide+kernel
theorem IA:bD ⟨gT,[]⟩ kB=⟨gT,[kB]⟩/\bD ⟨gT,[]⟩ kC=⟨gT,[kC]⟩:=⟨by kernel_rfl,by kernel_rfl⟩
theorem IB:cJ ⟨gT,[kC]⟩ kD=19:=by decide+kernel
theorem ro{l:List UInt8}{L:List ByteArray}{i:Nat}{r:Rel}{t:Tp}(a:l≠ [])(h:(cE (bs l) false).ok=true/\jF (cE (bs l) false)=t):cG false (bs l::L) i r=if cJ r t=0 then cG false L (i+1) (bD r t)else(Rel.zero,i,cJ r t):=by
 rw[cG,if_neg (by
  rw[Lib.toList_data,Lib.toList_data,eX];cases l with
  |nil=>exact absurd Z a
  |cons x l=>simp),if_neg (by rw[h.1];simp),h.2]
theorem K5:fg gT KP=(⟨gT,[kA,kB]⟩,0,0):=by
 unfold fg;rw[if_neg (by decide+kernel),if_neg (by decide)];show cG false (cL (bs KP)) 0 ⟨gT,[]⟩=_
 rw[KR];show cG false (bs Ln::bs []::bs Lo::[]) 0 ⟨gT,[]⟩=_
 rw[ro (by decide) KU,if_pos KZ,IA.1,ke,ro (by decide) KV,if_pos K0,K3];rfl
theorem K6:fg gT KQ=(Rel.zero,1,19):=by
 unfold fg;rw[if_neg (by decide+kernel),if_neg (by decide)];show cG false (cL (bs KQ)) 0 ⟨gT,[]⟩=_
 rw[KY,ro (by decide) KW,if_pos K4,IA.2,ro (by decide) KX,if_neg (by rw[IB];decide),IB]
theorem u5{W:World}{G:Nat->Prop}:∀l:List UInt8,PT W G (bH l) (flat (bg l))
 |[]=>.nil
 |_::l=>.sc _ (u5 l)
theorem qE{w0:World}{G0:Nat->Prop}{ops:Array Oper}{c:List Oper}{Q:Exit->St->Prop}{n d y:Nat}{sl:List (Nat×Tree)}{bs:List (TypeId×List Tree)}{rs:List (Option Row)}{o f:Oper}(l:List UInt8)
  (M:o.guard=none) (m:o.dst=some d) (H:Nat.blt d n=true) (z:f.op=.convert 22 22 (.tmp d)) (A:f.guard=none) (e:f.dst=some y) (B:Nat.blt y n=true) (U:l.length<=1048576)
  (g:∀(w:World) (T:Nat->Value),(execOp (cA T) o).run Tryz.prog w=.ok (.value (.slice (some ⟨w.heap.size,0,none⟩) l.length l.length)) (w.alloc (.cells (bH l).toArray 5)))
  (k:AOps w0 G0 ops c Q ⟨n,(y,.sl (bg l))::(d,.any)::sl,bs,rs⟩):AOps w0 G0 ops (o::f::c) Q ⟨n,sl,bs,rs⟩:=by
 rintro a w ⟨bx,rv,E,b,r,q⟩;refine ec (by simp[Region.wanted,M]) fun K G=>?_
 have J:OpRuns Tryz.prog o (fun s=>a.tmps.getD s undef) w (fun v w'=>v=.slice (some ⟨w.heap.size,0,none⟩) l.length l.length/\w'=w.alloc (.cells (bH l).toArray 5)):=aq (g w _) ⟨Z,Z⟩;refine Oper.wp_mono ?_ (J.wp (Q:=yW w0 G0 Q));rintro N w' ⟨v,rfl,rfl,rfl⟩;refine G _ _<|ec (by simp[Region.wanted,A]) fun V x=>?_
 have i:d<n:=by simpa[Nn]using H
 have R:(a.put o.dst (.slice (some ⟨w.heap.size,0,none⟩) l.length l.length)).tmps.getD d undef=.slice (some ⟨w.heap.size,0,none⟩) l.length l.length:=by
  rw[m,ga a (some d) _ n b (by simpa[cT]using i),if_pos Z]
 have L:=Lib.run_convert_bytes_const (P:=Tryz.prog) w 22 5 (bH l).toArray l.length l.length Tryz.underlying22 Tryz.underlying5;have O:OpRuns Tryz.prog f (fun s=>(a.put o.dst (.slice (some ⟨w.heap.size,0,none⟩) l.length l.length)).tmps.getD s undef) (w.alloc (.cells (bH l).toArray 5)) (fun v w'=>v=.slice (some ⟨w.heap.size,0,none⟩) l.length l.length/\w'=w.alloc (.cells (bH l).toArray 5 ((bH l).toArray.size,(bH l).toArray.size+1))):=by
  refine aq (v:=.slice (some ⟨w.heap.size,0,none⟩) l.length l.length) ?_ ⟨Z,Z⟩;simp only[execOp,z,cA,R,Sem.run_bind,L,Result.andThen_ok,Sem.run_pure]
 refine Oper.wp_mono ?_ (O.wp (Q:=yW w0 G0 Q));rintro N w' ⟨v,rfl,rfl,rfl⟩;have F:Below w.heap.size w (w.alloc (.cells (bH l).toArray 5 ((bH l).toArray.size,(bH l).toArray.size+1))):=(Below.refl _ _).alloc (L5 _) _;refine x _ _ (k _ _ ⟨bx,rv,E.later F,by rw[dB,dB,b],by rw[cH,cH,r],?_⟩);have D:=gY (S:=⟨n,sl,bs,rs⟩) (o:=o) (v:=.slice (some ⟨w.heap.size,0,none⟩) l.length l.length) (t:=.any) b (by rw[m];simpa[cT]using i) (fun _ _ h=>FT.later h F) q (.any _ .nil);rw[m]at D;have p:FT (en (w.alloc (.cells (bH l).toArray 5 ((bH l).toArray.size,(bH l).toArray.size+1))) G0 bx rv rs) [.slice (some ⟨w.heap.size,0,none⟩) l.length l.length] [.sl (bg l)]:=by
  refine .pure (.sl w.heap.size 0 l.length l.length (bH l) (bg l) (by simp[en]) (D5 E _ (L5 _)) (fun j u I=>?_) (by simp[bg]) (by simp[bg]) (by omega) (u5 l) .nil) .nil;rw[M0];simp only[en,World.cell?,World.alloc,Array.getElem?_push,if_true];simpa using I
 have C:=gY (S:=⟨n,(d,.any)::sl,bs,rs⟩) (o:=f) (v:=.slice (some ⟨w.heap.size,0,none⟩) l.length l.length) (t:=.sl (bg l)) (a:=a.put (some d) (.slice (some ⟨w.heap.size,0,none⟩) l.length l.length)) (by rw[dB];exact b) (by rw[e];simpa[cT,Nn]using B) (fun _ _ h=>h) D p;rw[e]at C;rw[m,e];exact C
def kR:Rel:=⟨gT,[kA,kB]⟩
theorem Cq:Good kR:=by
 have c:∀t∈kR.tups,t=kA\/t=kB:=fun t a=>by
  have a:t∈[kA,kB]:=a;simpa using a
 refine⟨by decide+kernel,fun t a=>?_,fun t a=>?_,fun t a=>?_,by decide,.inr Z⟩
 ·rcases c t a with rfl|rfl
  ·show cF false 1 3∈gW;unfold gW;simp
  show cF false 1 2∈gW;unfold gW;simp
 ·rcases c t a with rfl|rfl<;>(intro v b;simp only[kA,kB,Mi,N0,or_false]at b;rcases b with rfl|rfl<;>decide)
 rcases c t a with rfl|rfl<;>(intro v b;simp only[kA,kB,Mi,N0,or_false]at b;rcases b with rfl|rfl<;>(unfold V.rng;decide))
theorem u6{r:Rel}(h:Good r):Ct 17 [r.tree] (r.tree):=by
 refine qr r h.small.tups fun t c=>?_
 obtain⟨a,b⟩:=(h.small.tup t c).1.p;have:=uF (decide (t.prob.num<0)) t.prob.num.natAbs t.prob.den (L6 a (by decide)) (L6 b (by decide)) (NG t.prob.den_nz);rw[fd]at this;exact this
theorem yL:Ct 15 [] (bT true):=by
 obtain⟨c,k⟩:∃z:Nat,z=0:=⟨_,rfl⟩;obtain⟨b,j⟩:∃z:Nat,z=0:=⟨_,rfl⟩;obtain⟨i,g⟩:∃z:Nat,z=1:=⟨_,rfl⟩;obtain⟨e,f⟩:∃z:Nat,z=19:=⟨_,rfl⟩;refine Ct.of (n:=43) Tryz.func15 Z Z Z Z Z fun w0 G0=>?_
 refine ab<|aj 1 Z<|ab<|ae<|af Z Z Z (ar Z tw Z Z) ?_;refine qE KP Z Z Z Z Z Z Z (by decide) (fun w T=>by
  simp only[execOp,cA];go_simp;exact⟨Z,Z⟩) ?_
 refine af (t:=.tup [.agg (aT kR),nI c,nI b]) Z Z Z (ar Z (by have h:=mX gT KP (by decide);rw[K5]at h;rw[k,j];exact h) Z Z)<|aa 8 Z<|ag<|ab<|ae<|af Z Z Z (ar Z tw Z Z) ?_;refine qE KQ Z Z Z Z Z Z Z (by decide) (fun w T=>by
  simp only[execOp,cA];go_simp;exact⟨Z,Z⟩) ?_
 refine af (t:=.tup [.agg dS,nI i,nI e]) Z Z Z (ar Z (by have h:=mX gT KQ (by decide);rw[K6]at h;rw[g,f];exact h) Z Z)<|aa 8 Z<|ag<|ab<|ae<|aa 1 Z<|af (t:=bT (decide (b=0))) Z Z Z (ah (ai Z Z Z Zy) (av (lY b 0)))<|aa 1 Z<|aA (t:=nI c) ((decide (b=0))=true) Z Z Z au Z Z (fun d=>aw Z Z)<|aA (t:=bT (decide (c=0))) ((decide (b=0))=true) Z Z Z au Z Z (fun d=>ah (ai Z (if_pos d) Z (fun _=>rfl)) (av (lY c 0)))<|af (t:=bT ((decide (b=0))&&(decide (c=0)))) Z Z Z (aL Z Z (fun a=>(if_pos a).trans (av (by rw[a];rfl))) (fun a=>(av (by rw[a];rfl))))<|aa 1 Z<|aA (t:=.agg (aT kR)) (((decide (b=0))&&(decide (c=0)))=true) Z Z Z au Z Z (fun d=>aJ Z Z Z bq Z Z)<|aA (t:=.sl (bg Cp)) (((decide (b=0))&&(decide (c=0)))=true) Z Z Z au Z Z (fun d=>ar Z (by have h:=tq kR Cq.fit.1 Cq.fit.2;rw[show j1 kR=Cp from LL]at h;exact h) (eU (if_pos d) Z) Z)<|aA (t:=sT (⟨Cp.toArray⟩:ByteArray)) (((decide (b=0))&&(decide (c=0)))=true) Z Z Z au Z Z (fun d=>pA Z (if_pos d))<|aA (t:=bT ((⟨Cp.toArray⟩:ByteArray).toList==(⟨#[39,97,39,44,50,58,49,47,51,10,39,98,44,32,99,39,44,49,58,49,47,50,10]⟩:ByteArray).toList)) (((decide (b=0))&&(decide (c=0)))=true) Z Z Z au Z Z (fun d=>ai Z (if_pos d) Z (fun _=>rfl))<|af (t:=bT (((decide (b=0))&&(decide (c=0)))&&((⟨Cp.toArray⟩:ByteArray).toList==(⟨#[39,97,39,44,50,58,49,47,51,10,39,98,44,32,99,39,44,49,58,49,47,50,10]⟩:ByteArray).toList))) Z Z Z (aL Z Z (fun a=>(if_pos a).trans (av (by rw[a];rfl))) (fun a=>(av (by rw[a];rfl))))<|aa 1 Z<|aA (t:=nI e) ((((decide (b=0))&&(decide (c=0)))&&((⟨Cp.toArray⟩:ByteArray).toList==(⟨#[39,97,39,44,50,58,49,47,51,10,39,98,44,32,99,39,44,49,58,49,47,50,10]⟩:ByteArray).toList))=true) Z Z Z au Z Z (fun d=>aw Z Z)<|aA (t:=bT (decide (e=19))) ((((decide (b=0))&&(decide (c=0)))&&((⟨Cp.toArray⟩:ByteArray).toList==(⟨#[39,97,39,44,50,58,49,47,51,10,39,98,44,32,99,39,44,49,58,49,47,50,10]⟩:ByteArray).toList))=true) Z Z Z au Z Z (fun d=>ah (ai Z (if_pos d) Z (fun _=>rfl)) (av (lY e 19)))<|af (t:=bT ((((decide (b=0))&&(decide (c=0)))&&((⟨Cp.toArray⟩:ByteArray).toList==(⟨#[39,97,39,44,50,58,49,47,51,10,39,98,44,32,99,39,44,49,58,49,47,50,10]⟩:ByteArray).toList))&&(decide (e=19)))) Z Z Z (aL Z Z (fun a=>(if_pos a).trans (av (by rw[a];rfl))) (fun a=>(av (by rw[a];rfl))))<|aa 1 Z<|aA (t:=nI i) (((((decide (b=0))&&(decide (c=0)))&&((⟨Cp.toArray⟩:ByteArray).toList==(⟨#[39,97,39,44,50,58,49,47,51,10,39,98,44,32,99,39,44,49,58,49,47,50,10]⟩:ByteArray).toList))&&(decide (e=19)))=true) Z Z Z au Z Z (fun d=>aw Z Z)<|aA (t:=bT (decide (i=1))) (((((decide (b=0))&&(decide (c=0)))&&((⟨Cp.toArray⟩:ByteArray).toList==(⟨#[39,97,39,44,50,58,49,47,51,10,39,98,44,32,99,39,44,49,58,49,47,50,10]⟩:ByteArray).toList))&&(decide (e=19)))=true) Z Z Z au Z Z (fun d=>ah (ai Z (if_pos d) Z (fun _=>rfl)) (av (lY i 1)))<|af (t:=bT (((((decide (b=0))&&(decide (c=0)))&&((⟨Cp.toArray⟩:ByteArray).toList==(⟨#[39,97,39,44,50,58,49,47,51,10,39,98,44,32,99,39,44,49,58,49,47,50,10]⟩:ByteArray).toList))&&(decide (e=19)))&&(decide (i=1)))) Z Z Z (aL Z Z (fun a=>(if_pos a).trans (av (by rw[a];rfl))) (fun a=>(av (by rw[a];rfl))))<|aa 1 Z<|ag<|aC<|⟨.inr Z,_,.cons Z .nil,av (by rw[k,j,g,f,show((⟨Cp.toArray⟩:ByteArray).toList==(⟨#[39,97,39,44,50,58,49,47,51,10,39,98,44,32,99,39,44,49,58,49,47,50,10]⟩:ByteArray).toList)=true from beq_self_eq_true (⟨Cp.toArray⟩:ByteArray).toList];rfl),Z⟩
theorem RZ(r:Rel):Gg r=mZ 0 r.sch.cert r.tups:=by
 unfold Gg mZ;have e:(pg r.sch.cert)=fun t=>List.replicate 0 10++(fj r.sch.cert t++[10]):=funext fun t=>by rw[AU];rfl
 rw[e]
theorem Q4{s:Sch}:∀(us a:List Tp) (i:Nat),bm ⟨s,a++us⟩=0->(∀t∈us,LnOK s t)->cG s.cert (cL (bs (mZ 0 s.cert us))) i ⟨s,a⟩=(⟨s,a++us⟩,0,0)
 |[],a,i,_,_=>by
  rw[MA];exact DO s.cert i ⟨s,a⟩
 |t::us,a,i,hv,h=>by
  have c:=h t (Mr ..);have e:mZ 0 s.cert (t::us)=fj s.cert t++10::mZ 0 s.cert us:=by
   unfold mZ;rw[OD];simp
  have b:bm ⟨s,a++t::[]⟩=0:=mW hv ((List.Sublist.refl a).append ((List.nil_sublist us).cons_cons t));have d:=qC (cL (bs (mZ 0 s.cert us))) i b c;rw[MA]at d;have f:=Q4 us (a++[t]) (i+1) (by rw[MG];exact hv) fun x g=>h x (MB _ g)
  rw[MG]at f;rw[e,iN (KO c),d];exact f
theorem R0{r:Rel}(h:Good r):j1 r=mZ 0 r.sch.cert r.tups/\fg r.sch (j1 r)=(r,0,0)/\tN (j1 r)=true/\(j1 r).length<=2400:=by
 have e:j1 r=mZ 0 r.sch.cert r.tups:=by
  unfold j1;rw[if_pos h.valid,RZ]
 have a:=rn h;have b:=rm (k:=0) r.tups a;have d:=h.len;have c:(mZ 0 r.sch.cert r.tups).length<=2400:=L6 b (L6 (NU d (show 0+796<=800 by omega)) (by decide));rw[e];refine⟨Z,?_,yK _ a,c⟩;unfold fg;rw[if_neg (by rw[(gw.1 h.valid).1];simp),if_neg (by omega)];exact Q4 r.tups [] 0 h.valid a
def QF(r:Rel):Rel:=⟨⟨⟨#[]⟩,r.sch.cert,r.sch.cols⟩,r.tups⟩
theorem Sh(r:Rel):fF (QF r).sch=false:=by
 have h:bU (⟨#[]⟩:ByteArray)=false:=rfl;show(!((((!bU (⟨#[]⟩:ByteArray))||_)||_)||_))=false
 rw[h];simp
theorem Ro(r:Rel):j1 (QF r)=[]:=by
 unfold j1;rw[if_neg];intro h;have:=(gw.1 h).1;rw[Sh]at this;cases this
theorem Sw{r:Rel}(h:FitR r):FitR (QF r):=⟨h.cols,h.tups,h.tup⟩
theorem Si(d:Nat):(eu (d:Nat) ((1:Nat):Int) !=0)= !decide (d=1):=by
 unfold eu;by_cases h:d=1
 ·subst h;rfl
 rw[decide_eq_false h];by_cases a:(d:Int)<((1:Nat):Int)
 ·rw[if_pos a];rfl
 rw[if_neg a,if_pos (by omega)];rfl
theorem Rp(v:V)(h:v.rng)(b:v.s.size<=9223372036854775807):Ct 41 [v.tree] (.sc (.string ⟨v.fmt.toArray⟩)):=Ct.sc ⟨_,Tryz.func41,Z,Z⟩ fun G w vs _ _ a=>by
 obtain⟨u,rfl,c⟩:=cR a;rw[zW c];exact lD v.t v.n v.s w h.1 h.2 b
theorem QL(a b:List UInt8):bs a++bs b=bs (a++b):=Iz (by rw[Pr,Nv,eX,eX,eX])
theorem Sz(a:List UInt8)(s:ByteArray):bs a++s=bs (a++s.data.toList):=by
 have:=QL a s.data.toList;rwa[Gh]at this
theorem Q5(n:Nat):(qM n).size=(Lib.decDigits n).length:=by simp[qM,ByteArray.size]
theorem QS{S:St}{o:Oper}{x:Operand}{s:ByteArray}(b:o.op=.convert 9 22 x)(g:S.ev x=sT s)(n:s.size<=9223372036854775807):OpOK o S (.sl (bg s.data.toList)):=by
 intro w0 G0 bx rv w T h l;have i:=(bI l g (by rw[b];simp[Op.operands])).isSc;have m:=Lib.run_convert_string_bytes (P:=Tryz.prog) w 9 22 5 s Tryz.underlying9 Tryz.underlying22 Tryz.underlying5;have e:=Joins.below_bytesWorld _ w 5 s (L5 _);have f:=grownCap_le_maxLen w s.size 0 5 (by unfold maxLen;omega);have a:s.data.toList.length=s.size:=by simp
 unfold maxLen at f;refine aq (v:=.slice (some ⟨w.heap.size,0,none⟩) s.size (grownCap w s.size 0 5)) (W':=Lib.bytesWorld w 5 s) (by simp[execOp,b,i,m]) ⟨?_,e⟩;refine .pure ?_ .nil;have d:=PT.sl (W:=Lib.bytesWorld w 5 s) (G:=GG G0 bx rv S.rs) w.heap.size 0 (grownCap w s.size 0 5) s.data.toList.length (bH s.data.toList) (bg s.data.toList) (by rw[Lib.bytesWorld_size];omega) (D5 h _ (L5 _)) (fun j u c=>?_) (by rw[a7]) (by rw[a7,a];exact grownCap_ge _ _ _ _) (by omega) (u5 _) .nil
 ·rw[a]at d;exact d
 have k:j<s.data.toList.length:=by
  have:=(L7.1 c).1;rwa[eO]at this
 rw[M0,Lib.bytesWorld_cell w 5 s j (by omega),<-c];simp[bH,L4 k,List.getD]
theorem RF (q : Rat) (hq : Fit 262144 q) (h1 : (qM q.num.natAbs).size ≤ 1073741824) (h2 : (qM q.den).size ≤ 1073741824) : Ct 42 [dp q] (.sc (.string (gF q))) := by
 refine Ct.of (n := 26) Tryz.func42 rfl rfl rfl rfl rfl fun w0 G0 => ?_
 refine ab ?_
 refine ae ?_
 refine Cx (cs := (aU q)) (b := 0) (bs' := [(65, (aU q))]) rfl rfl rfl rfl rfl rfl rfl rfl rfl rfl ?_
 refine af (t := .sc (.string (⟨#[]⟩))) rfl rfl rfl (bW rfl rfl) ?_
 refine ag ?_
 refine ab ?_
 refine ae ?_
 refine af (t := .agg (aU q)) rfl rfl rfl (aJ rfl rfl rfl aN rfl rfl) ?_
 refine af (t := .agg (aU q)) rfl rfl rfl (ar rfl (ff q (hq.mono (by decide))) rfl rfl) ?_
 refine wN (b := 1) (bs' := [(65, (aU q)), (65, [.sc (.bool false), .sl [], .sl []])]) rfl rfl rfl rfl lk rfl rfl rfl rfl ?_
 refine wO (bs' := [(65, (aU q)), (65, (aU q))]) rfl rfl rfl rfl rfl rfl rfl rfl rfl fm rfl rfl rfl ?_
 refine ag ?_
 refine ab ?_
 obtain ⟨t, ht⟩ : ∃ t, yq q = t := ⟨_, rfl⟩
 have hts : t.size ≤ 1073741825 := by
  rw [← ht]; unfold yq; split
  ·rw [ByteArray.size_append]; have := h1; show 1 + _ ≤ _; omega
  ·omega
 refine ae ?_
 refine af (t := .box 1 1) rfl rfl rfl (az rfl rfl fX rfl) ?_
 refine af (t := aM q.num.natAbs) rfl rfl rfl (aD rfl rfl rfl dU rfl) ?_
 refine af (t := .sc (.string (qM q.num.natAbs))) rfl rfl rfl (ar rfl (Lj _ (Nat.le_trans hq.num (by decide)) (by rw [← Q5]; exact h1)) rfl rfl) ?_
 refine af (t := .sc (.string (qM q.num.natAbs))) rfl rfl rfl (bW rfl rfl) ?_
 refine ag ?_
 refine ab ?_
 refine rE ⟨26, [(1, .box 0 0), (2, .sc (.string (⟨#[]⟩))), (3, .box 1 0), (4, .sc (.string t))], [(65, (aU q)), (65, (aU q))], []⟩ 2 0 ?_ ?_
 ·
  refine ab ?_
  refine ae ?_
  refine af (t := .box 1 0) rfl rfl rfl (az rfl rfl wg rfl) ?_
  refine af (t := .sc (.bool (decide (q.num < 0)))) rfl rfl rfl (aD rfl rfl rfl fW rfl) ?_
  refine ag ?_
  refine aH (b := decide (q.num < 0)) rfl (fun hc1 => ?_) (fun hc1 => ?_)
  ·
   replace hc1 := of_decide_eq_true hc1
   refine ae ?_
   refine af (t := .sc (.string (qM q.num.natAbs))) rfl rfl rfl (aw rfl rfl) ?_
   refine af (t := .sc (.string ((⟨#[45]⟩ : ByteArray) ++ qM q.num.natAbs))) rfl rfl rfl (ai rfl rfl rfl (fun _ => qR (by show 1 + _ ≤ _; omega))) ?_
   refine af (t := .sc (.string ((⟨#[45]⟩ : ByteArray) ++ qM q.num.natAbs))) rfl rfl rfl (bW rfl rfl) ?_
   refine ag ?_
   exact ⟨rfl, rfl, rfl, .cons rfl rfl (.cons rfl rfl (.cons rfl rfl (.cons (o9 (by rw [← ht]; unfold yq; rw [if_pos hc1])) rfl .nil))), rfl⟩
  ·
   replace hc1 := of_decide_eq_false hc1
   refine ax ?_
   exact ⟨rfl, rfl, rfl, .cons rfl rfl (.cons rfl rfl (.cons rfl rfl (.cons (o9 (by rw [← ht]; unfold yq; rw [if_neg hc1])) rfl .nil))), rfl⟩
 ·
  refine ab ?_
  refine ab ?_
  refine ci (fu := 5) [some 14, some 15, some 16, some 17, some 18] [.box 1 2, aM q.den, aM 1, .sc (.int .i64 (eu ((q.den : Nat) : Int) ((1 : Nat) : Int))), .sc (.bool (!decide (q.den = 1)))] (by kernel_rfl) rfl rfl (by kernel_rfl) rfl ?_ ?_
  ·
   refine Chain.op (t := .box 1 2) rfl (az rfl rfl fY rfl) ?_
   refine Chain.op (t := aM q.den) rfl (aD rfl rfl rfl dU rfl) ?_
   refine Chain.op (t := aM 1) rfl (ar rfl (Ft 1 (by decide)) rfl rfl) ?_
   refine Chain.op (t := .sc (.int .i64 (eu ((q.den : Nat) : Int) ((1 : Nat) : Int)))) rfl (ar rfl (Hs _ _ (Nat.le_trans hq.den (by decide)) (by decide)) rfl rfl) ?_
   refine Chain.op (t := .sc (.bool (!decide (q.den = 1)))) rfl (ah (ai rfl rfl rfl (fun _ => rfl)) (av (Si _))) ?_
   exact Chain.nil
  refine aH (b := !decide (q.den = 1)) rfl (fun hc2 => ?_) (fun hc2 => ?_)
  ·
   refine ae ?_
   refine af (t := .sc (.string t)) rfl rfl rfl (aw rfl rfl) ?_
   refine af (t := .sc (.string (t ++ (⟨#[47]⟩ : ByteArray)))) rfl rfl rfl (ai rfl rfl rfl (fun _ => qR (by show _ + 1 ≤ _; omega))) ?_
   refine af (t := .box 1 2) rfl rfl rfl (az rfl rfl fY rfl) ?_
   refine af (t := aM q.den) rfl rfl rfl (aD rfl rfl rfl dU rfl) ?_
   refine af (t := .sc (.string (qM q.den))) rfl rfl rfl (ar rfl (Lj _ (Nat.le_trans hq.den (by decide)) (by rw [← Q5]; exact h2)) rfl rfl) ?_
   refine af (t := .sc (.string (t ++ (⟨#[47]⟩ : ByteArray) ++ qM q.den))) rfl rfl rfl (ai rfl rfl rfl (fun _ => qR (by rw [ByteArray.size_append]; show _ + 1 + _ ≤ _; omega))) ?_
   refine af (t := .sc (.string (t ++ (⟨#[47]⟩ : ByteArray) ++ qM q.den))) rfl rfl rfl (bW rfl rfl) ?_
   refine ag ?_
   refine ab ?_
   refine ae ?_
   refine af (t := .sc (.string (t ++ (⟨#[47]⟩ : ByteArray) ++ qM q.den))) rfl rfl rfl (aw rfl rfl) ?_
   refine af (t := .sc (.string (t ++ (⟨#[47]⟩ : ByteArray) ++ qM q.den))) rfl rfl rfl (bW rfl rfl) ?_
   refine ag ?_
   refine aC ?_
   exact ⟨.inr rfl, _, .cons rfl .nil, o9 (by unfold gF; rw [ht, if_neg (by simpa using hc2), ByteArray.append_assoc]), rfl⟩
  ·
   refine ax ?_
   refine ab ?_
   refine ae ?_
   refine af (t := .sc (.string t)) rfl rfl rfl (aw rfl rfl) ?_
   refine af (t := .sc (.string t)) rfl rfl rfl (bW rfl rfl) ?_
   refine ag ?_
   refine aC ?_
   exact ⟨.inr rfl, _, .cons rfl .nil, o9 (by unfold gF; rw [ht, if_pos (by simpa using hc2)]), rfl⟩
theorem Rq(r:Rel)(K:FitR r)(H:∀t∈r.tups,TxT t)(A:FW r):Ct 13 [r.tree] (.sl (bg (j1 r))):=by
 refine Ct.of (n:=61) Tryz.func13 Z Z Z Z Z fun w0 G0=>?_
 refine ab<|ae<|aa 1 Z<|af (t:=.sl []) Z Z Z (cW (.inr Z) dI)<|ag<|ab<|ab<|ae<|aa 1 Z<|af Z Z Z (ar Z (o7 r K A) Z Z)<|af (t:=bT ((bm r) !=0)) Z Z Z (ai Z Z Z Zy)<|ag<|aH Z (fun w=>?_) (fun w=>?_)
 ·have h:¬bm r=0:=by simpa using w
  refine ab<|ae<|af (t:=.sl []) Z Z Z (cW (.inr Z) dI)<|ag<|aC<|⟨.inr Z,_,.cons Z .nil,LV (a:=[]) (by unfold j1;rw[if_neg h]),Z⟩
 have h:bm r=0:=by simpa using w
 have I:=nN h;refine ax<|ab<|aj 1 Z<|ab<|ab<|aj 1 Z<|aE<|aW (fun D F=>∃(i:Nat) (g:List UInt8),(i<=r.tups.length/\g.length<=i*20000/\g++(r.tups.drop i).flatMap (pg r.sch.cert)=Gg r)/\D=r.tups.length-i/\F=⟨61,[(1,.box 0 0),(3,sT (bs g)),(4,nI i)],[(30,(aT r))],[]⟩) 1 0 ⟨0,[],⟨by omega,by simp,Z⟩,Z,Z⟩ ⟨Z,Z,Z,.cons Z Z (.cons Z Z (.cons Z Z .nil)),Z⟩ ?_;rintro D F ⟨i,g,⟨O,J,k⟩,rfl,rfl⟩;refine ab<|ab<|ae<|aa 3 Z<|af (t:=nI r.tups.length) Z Z Z (ah (bd Z aK Z) (by simp only[L8]))<|af (t:=bT (decide (i<r.tups.length))) Z Z Z (ah (ai Z Z Z Zy) (av (iu i r.tups.length)))<|ag<|aF Z (fun E=>?_) (fun E=>?_)
 ·obtain⟨t,l⟩:∃t,r.tups[i]? =some t:=⟨_,L4 E⟩;have m:=L9 l;have q:=H t m;have M:=qB h t m;rw[AQ l]at k;refine ax<|ab<|aE<|ab<|ab<|aj 1 Z<|aE<|aW (fun D F=>∃(j:Nat) (b:List UInt8),(j<=t.vals.length/\b.length<=g.length+j*131/\b++b7 j (t.vals.drop j)=g++b7 0 t.vals)/\D=t.vals.length-j/\F=⟨61,[(1,.box 0 0),(3,sT (bs b)),(4,nI i),(5,nI j)],[(30,(aT r))],[]⟩) 1 0 ⟨0,g,⟨by omega,by simp,Z⟩,Z,Z⟩ ⟨Z,Z,Z,.cons Z Z (.cons Z Z (.cons Z Z (.cons Z Z .nil))),Z⟩ ?_;rintro D F ⟨j,b,⟨N,L,c⟩,rfl,rfl⟩;refine ab<|ab<|ae<|aa 4 Z<|af (t:=.ref (bS t)) Z Z Z (aQ (Tp.tree t) Z aK Z Z Z (bf (f:=Tp.tree) l) (bQ _) Z)<|aa 2 Z<|af (t:=nI t.vals.length) Z Z Z (ah (bd Z bz Z) (by simp only[L8]))<|af (t:=bT (decide (j<t.vals.length))) Z Z Z (ah (ai Z Z Z Zy) (av (iu j t.vals.length)))<|ag<|aF Z (fun C=>?_) (fun C=>?_)
  ·obtain⟨v,o⟩:∃v,t.vals[j]? =some v:=⟨_,L4 C⟩;have y:=L9 o;have z:=q.rng v y;have G:=yE v z;rw[yD o]at c;refine ax<|ab<|aE<|ab<|ab<|ae<|aa 1 Z<|af (t:=bT (decide (0<j))) Z Z Z (ah (ai Z Z Z Zy) (av (tE j 0)))<|ag<|aF Z (fun x=>?_) (fun x=>?_)
   ·rw[if_pos x]at c;refine ae<|aa 1 Z ?_;have d:(bs b).size=b.length:=rl _;refine af (t:=sT (bs (b++[44]))) Z Z Z (ah (ai Z Z Z (fun _=>qR (by show _+1<=_;omega))) (o9 (QL b [44])))<|aa 1 Z<|ag<|ae<|aa 4 Z<|af (t:=.ref (bS t)) Z Z Z (aQ (Tp.tree t) Z aK Z Z Z (bf (f:=Tp.tree) l) (bQ _) Z)<|aa 3 Z<|af (t:=.ref [iT v.t,iT v.n,sT v.s]) Z Z Z (aQ (V.tree v) Z bz Z Z Z (bf (f:=V.tree) o) (iZ _) Z)<|aa 1 Z<|af Z Z Z (ar Z (Rp v z (A t m v y)) Z Z) ?_;have d:(bs (b++[44])).size=(b++[44]).length:=rl _;simp only[Mc,Mb,Mo]at d;refine af (t:=sT (bs ((b++[44])++v.fmt))) Z Z Z (ah (ai Z Z Z (fun _=>qR (by show _+v.fmt.length<=_;omega))) (o9 (QL (b++[44]) v.fmt)))<|aa 1 Z<|ag<|ae<|aa 1 Z<|af (t:=nI (j+1)) Z Z Z (ah (ai Z Z Z Zy) (bu (by omega)))<|aa 1 Z<|ag<|⟨_,_,?_,⟨j+1,((b++[44])++v.fmt),?_,Z,Z⟩,⟨Z,Z,Z,.cons Z Z (.cons Z Z (.cons Z Z (.cons Z Z .nil))),Z⟩⟩
    ·omega
    refine⟨by omega,?_,?_⟩
    ·simp only[Mc,Mb,Mo];omega
    rw[<-c];simp
   rw[if_neg x,M6]at c;refine ax<|ae<|aa 4 Z<|af (t:=.ref (bS t)) Z Z Z (aQ (Tp.tree t) Z aK Z Z Z (bf (f:=Tp.tree) l) (bQ _) Z)<|aa 3 Z<|af (t:=.ref [iT v.t,iT v.n,sT v.s]) Z Z Z (aQ (V.tree v) Z bz Z Z Z (bf (f:=V.tree) o) (iZ _) Z)<|aa 1 Z<|af Z Z Z (ar Z (Rp v z (A t m v y)) Z Z) ?_;have d:(bs b).size=b.length:=rl _;refine af (t:=sT (bs (b++v.fmt))) Z Z Z (ah (ai Z Z Z (fun _=>qR (by show _+v.fmt.length<=_;omega))) (o9 (QL b v.fmt)))<|aa 1 Z<|ag<|ae<|aa 1 Z<|af (t:=nI (j+1)) Z Z Z (ah (ai Z Z Z Zy) (bu (by omega)))<|aa 1 Z<|ag<|⟨_,_,?_,⟨j+1,(b++v.fmt),?_,Z,Z⟩,⟨Z,Z,Z,.cons Z Z (.cons Z Z (.cons Z Z (.cons Z Z .nil))),Z⟩⟩
   ·omega
   refine⟨by omega,?_,?_⟩
   ·simp only[Mc];omega
   rw[<-c];simp
  rw[Mg (by omega:t.vals.length<=j),show b7 j []=[]from by cases j<;>rfl,MA]at c;refine aZ<|ab<|ab<|ae<|aa 3 Z<|af (t:=bT (!r.sch.cert)) Z Z Z (ef Z Z Zy)<|ag<|aH Z (fun u=>?_) (fun u=>?_)
  ·have B:r.sch.cert=false:=by simpa using u
   refine ae<|aa 1 Z ?_;have d:(bs b).size=b.length:=rl _;refine af (t:=sT (bs (b++[58]))) Z Z Z (ah (ai Z Z Z (fun _=>qR (by show _+1<=_;omega))) (o9 (QL b [58])))<|aa 3 Z<|af (t:=.ref (bS t)) Z Z Z (aQ (Tp.tree t) Z aK Z Z Z (bf (f:=Tp.tree) l) (bQ _) Z)<|aa 2 Z<|af Z Z Z (ar Z (RF t.prob (K.tup t m).1.p (by have:=q.num;omega) (by have:=q.den;omega)) Z Z) ?_;have d:(bs (b++[58])).size=(b++[58]).length:=rl _;simp only[Mc,Mb,Mo]at d;refine af (t:=sT (bs ((b++[58])++(gF t.prob).data.toList))) Z Z Z (ah (ai Z Z Z (fun _=>qR (by have:=mq q;omega))) (o9 (Sz (b++[58]) (gF t.prob))))<|aa 1 Z<|ag<|ae<|aa 1 Z ?_;have d:(bs ((b++[58])++(gF t.prob).data.toList)).size=((b++[58])++(gF t.prob).data.toList).length:=rl _;simp only[Mc,Mb,Mo]at d;refine af (t:=sT (bs (((b++[58])++(gF t.prob).data.toList)++[10]))) Z Z Z (ah (ai Z Z Z (fun _=>qR (by have:=mq q;have e:(gF t.prob).data.toList.length=(gF t.prob).size:=(by simp);(try simp only[e]at d);show _+1<=_;omega))) (o9 (QL ((b++[58])++(gF t.prob).data.toList) [10])))<|aa 1 Z<|ag<|ae<|aa 1 Z<|af (t:=nI (i+1)) Z Z Z (ah (ai Z Z Z Zy) (bu (by omega)))<|aa 1 Z<|ag<|⟨_,_,?_,⟨i+1,(((b++[58])++(gF t.prob).data.toList)++[10]),?_,Z,Z⟩,⟨Z,Z,Z,.cons Z Z (.cons Z Z (.cons Z Z .nil)),Z⟩⟩
   ·omega
   refine⟨by omega,?_,?_⟩
   ·have:=mq q;have e:(gF t.prob).data.toList.length=(gF t.prob).size:=by simp
    simp only[Mc,Mb,Mo,e];omega
   rw[<-k];unfold pg;rw[B,c];simp
  have B:r.sch.cert=true:=by simpa using u
  refine ax<|ae<|aa 1 Z ?_;have d:(bs b).size=b.length:=rl _;refine af (t:=sT (bs (b++[10]))) Z Z Z (ah (ai Z Z Z (fun _=>qR (by have:=mq q;have e:(gF t.prob).data.toList.length=(gF t.prob).size:=(by simp);(try simp only[e]at d);show _+1<=_;omega))) (o9 (QL b [10])))<|aa 1 Z<|ag<|ae<|aa 1 Z<|af (t:=nI (i+1)) Z Z Z (ah (ai Z Z Z Zy) (bu (by omega)))<|aa 1 Z<|ag<|⟨_,_,?_,⟨i+1,(b++[10]),?_,Z,Z⟩,⟨Z,Z,Z,.cons Z Z (.cons Z Z (.cons Z Z .nil)),Z⟩⟩
  ·omega
  refine⟨by omega,?_,?_⟩
  ·have:=mq q;have e:(gF t.prob).data.toList.length=(gF t.prob).size:=by simp
   simp only[Mc,Mb,Mo];omega
  rw[<-k];unfold pg;rw[B,c];simp
 refine aZ<|ab<|ae<|aa 1 Z<|af (t:=.sl (bg ((bs g).data.toList))) Z Z Z (QS Z Z (by rw[rl];omega))<|aa 1 Z<|ag<|aC<|⟨.inr Z,_,.cons Z .nil,LV (by rw[eX];unfold j1;rw[if_pos h,<-k,Mg (by omega)];simp),Z⟩
theorem SH:(Tryz.prog.info? 9).map (·.size)=some 1:=by kernel_rfl
theorem RG (l : List Int) (hl : l.length ≤ 9223372036854775807) : Ct 4 [.sl (l.map gi)] (.sc (.bool true)) := by
 obtain ⟨z0, hz0⟩ : ∃ z : Nat, z = 0 := ⟨_, rfl⟩
 obtain ⟨e0, he0⟩ : ∃ z : Nat, z = 0 := ⟨_, rfl⟩
 obtain ⟨q0, hq0⟩ : ∃ q : Bool, q = true := ⟨_, rfl⟩
 refine Ct.of (n := 53) Tryz.func4 rfl rfl rfl rfl rfl fun w0 G0 => ?_
 refine ab ?_
 refine ae ?_
 refine af (t := .sc (.bool false)) rfl rfl rfl (bW rfl rfl) ?_
 refine ag ?_
 refine ab ?_
 refine ae ?_
 refine af (t := .sl (l.map gi)) rfl rfl rfl (aw rfl rfl) ?_
 refine jP (fun t_ => ∃ r : Rel, Good r ∧ t_ = r.tree) rfl rfl rfl (kk rfl (Gm l hl) rfl rfl) ?_
 rintro _ ⟨r, hg, rfl⟩; have hpf := R0 hg
 refine wN (b := 0) (bs' := [(30, dS)]) rfl rfl rfl rfl im rfl rfl rfl rfl ?_
 refine wO (bs' := [(30, (aT r))]) rfl rfl rfl rfl rfl rfl rfl rfl rfl lz rfl rfl rfl ?_
 refine ag ?_
 refine ab ?_
 refine ae ?_
 refine af (t := .agg (aT r)) rfl rfl rfl (aJ rfl rfl rfl bq rfl rfl) ?_
 refine af (t := .sl (bg (j1 r))) rfl rfl rfl (ar rfl (tq r hg.fit.1 hg.fit.2) rfl rfl) ?_
 refine af (t := .sl (bg (j1 r))) rfl rfl rfl (bW rfl rfl) ?_
 refine ag ?_
 refine ab ?_
 refine ae ?_
 refine af (t := .box 0 0) rfl rfl rfl (az rfl rfl dZ rfl) ?_
 refine af (t := .agg (dq r.sch)) rfl rfl rfl (aJ rfl rfl rfl eR rfl rfl) ?_
 refine af (t := .sl (bg (j1 r))) rfl rfl rfl (aw rfl rfl) ?_
 refine af (t := .tup [.agg (aT r), .sc (.int .i64 ((z0 : Nat) : Int)), .sc (.int .i64 ((e0 : Nat) : Int))]) rfl rfl rfl (ar rfl (by have h := mX r.sch (j1 r) hpf.2.2.1; rw [hpf.2.1] at h; rw [hz0, he0]; exact h) rfl rfl) ?_
 refine af (t := .tup [.agg (aT r), .sc (.int .i64 ((z0 : Nat) : Int)), .sc (.int .i64 ((e0 : Nat) : Int))]) rfl rfl rfl (aw rfl rfl) ?_
 refine af (t := .agg (aT r)) rfl rfl rfl (dD rfl rfl rfl) ?_
 refine af (t := .sc (.int .i64 ((z0 : Nat) : Int))) rfl rfl rfl (dD rfl rfl rfl) ?_
 refine af (t := .sc (.int .i64 ((e0 : Nat) : Int))) rfl rfl rfl (dD rfl rfl rfl) ?_
 refine wN (b := 1) (bs' := [(30, (aT r)), (30, dS)]) rfl rfl rfl rfl im rfl rfl rfl rfl ?_
 refine wO (bs' := [(30, (aT r)), (30, (aT r))]) rfl rfl rfl rfl rfl rfl rfl rfl rfl lz rfl rfl rfl ?_
 refine af (t := .sc (.int .i64 ((z0 : Nat) : Int))) rfl rfl rfl (bW rfl rfl) ?_
 refine af (t := .sc (.int .i64 ((e0 : Nat) : Int))) rfl rfl rfl (bW rfl rfl) ?_
 refine ag ?_
 refine ab ?_
 refine ae ?_
 refine af (t := .agg (aT r)) rfl rfl rfl (aJ rfl rfl rfl bq rfl rfl) ?_
 refine wN (b := 2) (bs' := [(30, (aT r)), (30, (aT r)), (30, dS)]) rfl rfl rfl rfl im rfl rfl rfl rfl ?_
 refine wO (bs' := [(30, (aT r)), (30, (aT r)), (30, (aT r))]) rfl rfl rfl rfl rfl rfl rfl rfl rfl lz rfl rfl rfl ?_
 refine ag ?_
 refine ab ?_
 refine ae ?_
 refine af (t := .box 2 0) rfl rfl rfl (az rfl rfl dZ rfl) ?_
 refine af (t := .box 2 0) rfl rfl rfl (az rfl rfl Hh rfl) ?_
 refine wO (bs' := [(30, (aT r)), (30, (aT r)), (30, [.sc (.string (⟨#[]⟩)), .sc (.bool r.sch.cert), .sl (r.sch.cols.map Col.tree), .sl (r.tups.map Tp.tree)])]) rfl rfl rfl rfl rfl rfl rfl rfl rfl SH rfl rfl rfl ?_
 refine ag ?_
 refine ab ?_
 refine ci (fu := 30) [some 24, some 25, some 26, some 27, some 28, some 29, some 30, some 31, some 32, some 33, some 34, some 35, some 36, some 37, some 38, some 39, some 40, some 41, some 42, some 43, some 44, some 45, some 46, some 47, some 48, some 49, some 50, some 51, some 52, some 2] [.sl (bg (j1 r)), .sc (.string (bs (j1 r))), .agg (aT r), .sl (bg (j1 r)), .sc (.string (bs (j1 r))), .sc (.bool q0), .sc (.bool q0), if q0 = true then (.sc (.int .i64 ((e0 : Nat) : Int)) : Tree) else .sc undef, if q0 = true then (.sc (.bool (decide (e0 = 0))) : Tree) else .sc undef, .sc (.bool (q0 && (decide (e0 = 0)))), .sc (.bool (q0 && (decide (e0 = 0)))), if (q0 && (decide (e0 = 0))) = true then (.sc (.int .i64 ((z0 : Nat) : Int)) : Tree) else .sc undef, if (q0 && (decide (e0 = 0))) = true then (.sc (.bool (decide (z0 = 0))) : Tree) else .sc undef, .sc (.bool ((q0 && (decide (e0 = 0))) && (decide (z0 = 0)))), .sc (.bool ((q0 && (decide (e0 = 0))) && (decide (z0 = 0)))), if ((q0 && (decide (e0 = 0))) && (decide (z0 = 0))) = true then (.agg (aT r) : Tree) else .sc undef, if ((q0 && (decide (e0 = 0))) && (decide (z0 = 0))) = true then (.agg (aT r) : Tree) else .sc undef, if ((q0 && (decide (e0 = 0))) && (decide (z0 = 0))) = true then (.agg (aT r) : Tree) else .sc undef, if ((q0 && (decide (e0 = 0))) && (decide (z0 = 0))) = true then (.sc (.bool (dA r r)) : Tree) else .sc undef, .sc (.bool (((q0 && (decide (e0 = 0))) && (decide (z0 = 0))) && (dA r r))), .sc (.bool (((q0 && (decide (e0 = 0))) && (decide (z0 = 0))) && (dA r r))), if (((q0 && (decide (e0 = 0))) && (decide (z0 = 0))) && (dA r r)) = true then (.agg [.sc (.string (⟨#[]⟩)), .sc (.bool r.sch.cert), .sl (r.sch.cols.map Col.tree), .sl (r.tups.map Tp.tree)] : Tree) else .sc undef, if (((q0 && (decide (e0 = 0))) && (decide (z0 = 0))) && (dA r r)) = true then (.sl (bg (j1 (QF r))) : Tree) else .sc undef, if (((q0 && (decide (e0 = 0))) && (decide (z0 = 0))) && (dA r r)) = true then (.sc (.int .i64 (((j1 (QF r)).length : Nat) : Int)) : Tree) else .sc undef, if (((q0 && (decide (e0 = 0))) && (decide (z0 = 0))) && (dA r r)) = true then (.sc (.bool (decide ((j1 (QF r)).length = 0))) : Tree) else .sc undef, .sc (.bool ((((q0 && (decide (e0 = 0))) && (decide (z0 = 0))) && (dA r r)) && (decide ((j1 (QF r)).length = 0)))), .sc (.bool ((((q0 && (decide (e0 = 0))) && (decide (z0 = 0))) && (dA r r)) && (decide ((j1 (QF r)).length = 0)))), if ((((q0 && (decide (e0 = 0))) && (decide (z0 = 0))) && (dA r r)) && (decide ((j1 (QF r)).length = 0))) = true then (.sc (.bool true) : Tree) else .sc undef, .sc (.bool (((((q0 && (decide (e0 = 0))) && (decide (z0 = 0))) && (dA r r)) && (decide ((j1 (QF r)).length = 0))) || false)), .sc (.bool (((((q0 && (decide (e0 = 0))) && (decide (z0 = 0))) && (dA r r)) && (decide ((j1 (QF r)).length = 0))) || false))] (by kernel_rfl) rfl rfl (by kernel_rfl) rfl ?_ ?_
 ·
  refine Chain.op (t := .sl (bg (j1 r))) rfl (aw rfl rfl) ?_
  refine Chain.op (t := .sc (.string (bs (j1 r)))) rfl (pA rfl rfl) ?_
  refine Chain.op (t := .agg (aT r)) rfl (aJ rfl rfl rfl bq rfl rfl) ?_
  refine Chain.op (t := .sl (bg (j1 r))) rfl (ar rfl (Rq r hg.fit.1 hg.fit.2 hg.str) rfl rfl) ?_
  refine Chain.op (t := .sc (.string (bs (j1 r)))) rfl (pA rfl rfl) ?_
  refine Chain.op (t := .sc (.bool q0)) rfl (ah (ai rfl rfl rfl (fun _ => rfl)) (av (by rw [hq0]; exact beq_self_eq_true _))) ?_
  refine Chain.op (t := .sc (.bool q0)) rfl (aw rfl rfl) ?_
  refine Chain.cnd (t := .sc (.int .i64 ((e0 : Nat) : Int))) 6 true 30 (q0 = true) rfl (by kernel_rfl) au (fun hC => aw rfl rfl) ?_
  refine Chain.cnd (t := .sc (.bool (decide (e0 = 0)))) 6 true 30 (q0 = true) rfl (by kernel_rfl) au (fun hC => ah (ai rfl (if_pos hC) rfl (fun _ => rfl)) (av (lY (e0) (0)))) ?_
  refine Chain.op (t := .sc (.bool (q0 && (decide (e0 = 0))))) rfl (aL rfl rfl (fun h_ => (if_pos h_).trans (av (by rw [h_]; rfl))) (fun h_ => (av (by rw [h_]; rfl)))) ?_
  refine Chain.op (t := .sc (.bool (q0 && (decide (e0 = 0))))) rfl (aw rfl rfl) ?_
  refine Chain.cnd (t := .sc (.int .i64 ((z0 : Nat) : Int))) 10 true 34 ((q0 && (decide (e0 = 0))) = true) rfl (by kernel_rfl) au (fun hC => aw rfl rfl) ?_
  refine Chain.cnd (t := .sc (.bool (decide (z0 = 0)))) 10 true 34 ((q0 && (decide (e0 = 0))) = true) rfl (by kernel_rfl) au (fun hC => ah (ai rfl (if_pos hC) rfl (fun _ => rfl)) (av (lY (z0) (0)))) ?_
  refine Chain.op (t := .sc (.bool ((q0 && (decide (e0 = 0))) && (decide (z0 = 0))))) rfl (aL rfl rfl (fun h_ => (if_pos h_).trans (av (by rw [h_]; rfl))) (fun h_ => (av (by rw [h_]; rfl)))) ?_
  refine Chain.op (t := .sc (.bool ((q0 && (decide (e0 = 0))) && (decide (z0 = 0))))) rfl (aw rfl rfl) ?_
  refine Chain.cnd (t := .agg (aT r)) 14 true 38 (((q0 && (decide (e0 = 0))) && (decide (z0 = 0))) = true) rfl (by kernel_rfl) au (fun hC => aJ rfl rfl rfl bq rfl rfl) ?_
  refine Chain.cnd (t := .agg (aT r)) 14 true 38 (((q0 && (decide (e0 = 0))) && (decide (z0 = 0))) = true) rfl (by kernel_rfl) au (fun hC => aJ rfl rfl rfl bq rfl rfl) ?_
  refine Chain.cnd (t := .agg (aT r)) 14 true 38 (((q0 && (decide (e0 = 0))) && (decide (z0 = 0))) = true) rfl (by kernel_rfl) au (fun hC => ar rfl (u6 hg) (eU (if_pos hC) rfl) rfl) ?_
  refine Chain.cnd (t := .sc (.bool (dA r r))) 14 true 38 (((q0 && (decide (e0 = 0))) && (decide (z0 = 0))) = true) rfl (by kernel_rfl) au (fun hC => ar rfl (Cg r r hg.fit.1 hg.fit.1) (eU (if_pos hC) (eU (if_pos hC) rfl)) rfl) ?_
  refine Chain.op (t := .sc (.bool (((q0 && (decide (e0 = 0))) && (decide (z0 = 0))) && (dA r r)))) rfl (aL rfl rfl (fun h_ => (if_pos h_).trans (av (by rw [h_]; rfl))) (fun h_ => (av (by rw [h_]; rfl)))) ?_
  refine Chain.op (t := .sc (.bool (((q0 && (decide (e0 = 0))) && (decide (z0 = 0))) && (dA r r)))) rfl (aw rfl rfl) ?_
  refine Chain.cnd (t := .agg [.sc (.string (⟨#[]⟩)), .sc (.bool r.sch.cert), .sl (r.sch.cols.map Col.tree), .sl (r.tups.map Tp.tree)]) 20 true 44 ((((q0 && (decide (e0 = 0))) && (decide (z0 = 0))) && (dA r r)) = true) rfl (by kernel_rfl) au (fun hC => aJ rfl rfl rfl bq rfl rfl) ?_
  refine Chain.cnd (t := .sl (bg (j1 (QF r)))) 20 true 44 ((((q0 && (decide (e0 = 0))) && (decide (z0 = 0))) && (dA r r)) = true) rfl (by kernel_rfl) au (fun hC => ar rfl (tq (QF r) (Sw hg.fit.1) hg.fit.2) (eU (if_pos hC) rfl) rfl) ?_
  refine Chain.cnd (t := .sc (.int .i64 (((j1 (QF r)).length : Nat) : Int))) 20 true 44 ((((q0 && (decide (e0 = 0))) && (decide (z0 = 0))) && (dA r r)) = true) rfl (by kernel_rfl) au (fun hC => ah (bd rfl df (if_pos hC)) (by simp only [ a7])) ?_
  refine Chain.cnd (t := .sc (.bool (decide ((j1 (QF r)).length = 0)))) 20 true 44 ((((q0 && (decide (e0 = 0))) && (decide (z0 = 0))) && (dA r r)) = true) rfl (by kernel_rfl) au (fun hC => ah (ai rfl (if_pos hC) rfl (fun _ => rfl)) (av (lY ((j1 (QF r)).length) (0)))) ?_
  refine Chain.op (t := .sc (.bool ((((q0 && (decide (e0 = 0))) && (decide (z0 = 0))) && (dA r r)) && (decide ((j1 (QF r)).length = 0))))) rfl (aL rfl rfl (fun h_ => (if_pos h_).trans (av (by rw [h_]; rfl))) (fun h_ => (av (by rw [h_]; rfl)))) ?_
  refine Chain.op (t := .sc (.bool ((((q0 && (decide (e0 = 0))) && (decide (z0 = 0))) && (dA r r)) && (decide ((j1 (QF r)).length = 0))))) rfl (aw rfl rfl) ?_
  refine Chain.cnd (t := .sc (.bool true)) 26 true 50 (((((q0 && (decide (e0 = 0))) && (decide (z0 = 0))) && (dA r r)) && (decide ((j1 (QF r)).length = 0))) = true) rfl (by kernel_rfl) au (fun hC => ar rfl (yL) rfl rfl) ?_
  refine Chain.op (t := .sc (.bool (((((q0 && (decide (e0 = 0))) && (decide (z0 = 0))) && (dA r r)) && (decide ((j1 (QF r)).length = 0))) || false))) rfl (aL rfl rfl (fun h_ => (if_pos h_).trans (av (by rw [h_]; rfl))) (fun h_ => (av (by rw [h_]; rfl)))) ?_
  refine Chain.op (t := .sc (.bool (((((q0 && (decide (e0 = 0))) && (decide (z0 = 0))) && (dA r r)) && (decide ((j1 (QF r)).length = 0))) || false))) rfl (bW rfl rfl) ?_
  exact Chain.nil
 refine aC ?_
 exact ⟨.inr rfl, _, .cons rfl .nil, av (by rw [hq0, he0, hz0, (qt r r).2 rfl, Ro]; rfl), rfl⟩
theorem u7{W:World}{G:Nat->Prop}:∀l:List Int,PT W G (kQ l) (flat (l.map gi))
 |[]=>.nil
 |_::l=>.sc _ (u7 l)
theorem Gr{W:World}{A:Option Addr}{l:List Int}{c:Nat}(d:At W W.heap.size A (kQ l))(g:l.length<=c)(f:c<=9223372036854775807)(i:A=none->c=0):PT W (fun _=>False) [.slice A l.length c] [.sl (l.map gi)]:=by
 cases e:l with
 |nil=>exact .sl0 _ _ i f .nil
 |cons x m=>
  rw[<-e];obtain⟨b,o,rfl,j,a⟩:=d (by rw[e];simp[kQ]);exact .sl b o c _ (kQ l) _ j (fun h=>h) a (by simp) (by simpa using g) f (u7 l) .nil
theorem Rr{W:World}{A:Option Addr}{l:List Int}{c:Nat}(a:At W W.heap.size A (kQ l))(b:l.length<=c)(f:c<=9223372036854775807)(d:A=none->c=0)(e:Env W):
  Calls Tryz.prog 4 #[.slice A l.length c] W (H9 W):=by
 have h:=(RG l (by omega)).2 (fun _=>False) W [.slice A l.length c] e (fun g j=>j.elim) (Gr a b f d);refine h.mono ?_;rintro en w' ⟨v,rfl,i,k⟩;cases i with
 |sc _ _=>exact⟨Z,k⟩
end Go.Proofs.YtfoejfohbkmmeaaGreatDoor
