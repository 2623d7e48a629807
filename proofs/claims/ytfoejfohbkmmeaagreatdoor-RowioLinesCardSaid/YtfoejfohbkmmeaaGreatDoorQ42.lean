import Derived.Test.YtfoejfohbkmmeaaGreatDoorQ41
import Derived.Test.YtfoejfohbkmmeaaGreatDoorQ00
import Derived.Lib.SlBytesConst
import Derived.Test.YtfoejfohbkmmeaaGreatDoorQ07
import Derived.Test.YtfoejfohbkmmeaaGreatDoorQ02
import Derived.Test.YtfoejfohbkmmeaaGreatDoorQ37
set_option maxRecDepth 100000
set_option maxHeartbeats 4000000
namespace Go.Proofs.YtfoejfohbkmmeaaGreatDoor
open Go.RowKit
open Lib renaming hid→J
def KP:List UInt8:=[39,98,44,32,99,39,44,49,58,48,46,53,10,10,39,97,39,44,50,58,49,47,51]
def KQ:List UInt8:=[39,97,39,44,49,58,49,10,39,97,39,44,50,58,49,47,57]
def Cp:List UInt8:=[39,97,39,44,50,58,49,47,51,10,39,98,44,32,99,39,44,49,58,49,47,50,10]
def kA:Tp:=⟨[⟨2,0,⟨#[97]⟩⟩,⟨1,2,⟨#[]⟩⟩],cF false 1 3⟩
def kB:Tp:=⟨[⟨2,0,⟨#[98,44,32,99]⟩⟩,⟨1,1,⟨#[]⟩⟩],cF false 1 2⟩
theorem KR:cL (bs KP)=[bs [39,98,44,32,99,39,44,49,58,48,46,53],bs [],bs [39,97,39,44,50,58,49,47,51]]:=by
 have d:=iN (a:=[39,98,44,32,99,39,44,49,58,48,46,53]) (b:=[10,39,97,39,44,50,58,49,47,51]) (by decide);have c:=iN (a:=[]) (b:=[39,97,39,44,50,58,49,47,51]) (by decide);have e:=lG (a:=[39,97,39,44,50,58,49,47,51]) (by decide);rw[e]at c;exact d.trans (congrArg _ c)
theorem m0{v:V}{vs:List V}{p:List UInt8}{q:Rat}(c:Gv v)(a:∀x∈vs,Gv x)(b:gR (bs p)=(q,0)):(cE (bs (b7 0 (v::vs)++58::p)) false).ok=true/\jF (cE (bs (b7 0 (v::vs)++58::p)) false)=⟨v::vs,q⟩:=by
 have d:j0 ((bs (b7 0 (v::vs)++58::p)).size+1) (bs (b7 0 (v::vs)++58::p)) []=some (v::vs,bs (58::p)):=by
  have e:b7 0 (v::vs)++58::p=v.fmt++(b7 1 vs++58::p):=by rw[b7,if_neg (by omega)];simp
  have g:=pZ vs 1 (by omega);rw[e];refine pY (.inr ⟨_,Z⟩) vs v _ [] ?_ c a;rw[rl];simp only[Mc];omega
 have f:(bs (58::p)).extract 1 (bs (58::p)).size=bs p:=mY [58] p;unfold cE;rw[d];simp only;rw[if_neg (by simp),if_neg (by rw[eX];simp[Lib.hasPrefix,List.isPrefixOf]),f,if_pos (by rw[b])];refine⟨Z,?_⟩;unfold jF;simp only;rw[b,fd]
def Ln:List UInt8:=[39,98,44,32,99,39,44,49,58,48,46,53]
def Lo:List UInt8:=[39,97,39,44,50,58,49,47,51]
def KT:List UInt8:=[39,97,39,44,49,58,49]
def JX:List UInt8:=[39,97,39,44,50,58,49,47,57]
def kC:Tp:=⟨[⟨2,0,⟨#[97]⟩⟩,⟨1,1,⟨#[]⟩⟩],cF false 1 1⟩
def kD:Tp:=⟨[⟨2,0,⟨#[97]⟩⟩,⟨1,2,⟨#[]⟩⟩],cF false 1 9⟩
theorem qD:(∀x∈[(⟨1,1,⟨#[]⟩⟩:V)],Gv x)/\(∀x∈[(⟨1,2,⟨#[]⟩⟩:V)],Gv x)/\Gv ⟨2,0,⟨#[97]⟩⟩/\Gv ⟨2,0,⟨#[98,44,32,99]⟩⟩:=by
 refine⟨fun x a=>?_,fun x a=>?_,?_,?_⟩
 ·rw[Ml.1 a];exact⟨by kernel_rfl,by unfold V.rng;decide⟩
 ·rw[Ml.1 a];exact⟨by kernel_rfl,by unfold V.rng;decide⟩
 ·exact⟨by kernel_rfl,by unfold V.rng;decide⟩
 exact⟨by kernel_rfl,by unfold V.rng;decide⟩
theorem KU:(cE (bs Ln) false).ok=true/\jF (cE (bs Ln) false)=kB:=by
 have h:=m0 (p:=[48,46,53]) (q:=cF false 1 2) qD.2.2.2 qD.1 (by decide+kernel);have e:b7 0 [(⟨2,0,⟨#[98,44,32,99]⟩⟩:V),⟨1,1,⟨#[]⟩⟩]++58::[48,46,53]=Ln:=by kernel_rfl
 rw[e]at h;exact h
theorem KV:(cE (bs Lo) false).ok=true/\jF (cE (bs Lo) false)=kA:=by
 have h:=m0 (p:=[49,47,51]) (q:=cF false 1 3) qD.2.2.1 qD.2.1 (by decide+kernel);have e:b7 0 [(⟨2,0,⟨#[97]⟩⟩:V),⟨1,2,⟨#[]⟩⟩]++58::[49,47,51]=Lo:=by kernel_rfl
 rw[e]at h;exact h
theorem KW:(cE (bs KT) false).ok=true/\jF (cE (bs KT) false)=kC:=by
 have h:=m0 (p:=[49]) (q:=cF false 1 1) qD.2.2.1 qD.1 (by decide+kernel);have e:b7 0 [(⟨2,0,⟨#[97]⟩⟩:V),⟨1,1,⟨#[]⟩⟩]++58::[49]=KT:=by kernel_rfl
 rw[e]at h;exact h
theorem KX:(cE (bs JX) false).ok=true/\jF (cE (bs JX) false)=kD:=by
 have h:=m0 (p:=[49,47,57]) (q:=cF false 1 9) qD.2.2.1 qD.2.1 (by decide+kernel);have e:b7 0 [(⟨2,0,⟨#[97]⟩⟩:V),⟨1,2,⟨#[]⟩⟩]++58::[49,47,57]=JX:=by kernel_rfl
 rw[e]at h;exact h
theorem KY:cL (bs KQ)=[bs KT,bs JX]:=by
 have c:=iN (a:=KT) (b:=JX) (by decide);have d:=lG (a:=JX) (by decide);rw[d]at c;exact c
theorem LL:j1 ⟨gT,[kA,kB]⟩=Cp:=by kernel_rfl
theorem KZ:cJ ⟨gT,[]⟩ kB=0:=by decide+kernel
theorem K0:cJ ⟨gT,[kB]⟩ kA=0:=by decide+kernel
theorem K3:bD ⟨gT,[kB]⟩ kA=⟨gT,[kA,kB]⟩:=by kernel_rfl
theorem K4:cJ ⟨gT,[]⟩ kC=0:=by decide+kernel
theorem IA:bD ⟨gT,[]⟩ kB=⟨gT,[kB]⟩/\bD ⟨gT,[]⟩ kC=⟨gT,[kC]⟩:=⟨by kernel_rfl,by kernel_rfl⟩
theorem IB:cJ ⟨gT,[kC]⟩ kD=19:=by decide+kernel
theorem ro{l:List UInt8}{L:List ByteArray}{i:Nat}{r:Rel}{t:Tp}(a:l≠ [])(h:(cE (bs l) false).ok=true/\jF (cE (bs l) false)=t):cG false (bs l::L) i r=if cJ r t=0 then cG false L (i+1) (bD r t)else(Rel.zero,i,cJ r t):=by
 rw[cG,if_neg (by
  rw[Lib.toList_data,Lib.toList_data,eX];cases l with
  |nil=>exact absurd Z a
  |cons x l=>simp),if_neg (by rw[h.1];simp),h.2]
theorem K5:fg gT KP=(⟨gT,[kA,kB]⟩,0,0):=by
 unfold fg;rw[if_neg (by decide+kernel),if_neg (by decide)];show cG false (cL (bs KP)) 0 ⟨gT,[]⟩=_
 rw[KR];show cG false (bs Ln::bs []::bs Lo::[]) 0 ⟨gT,[]⟩=_
 rw[ro (by decide) KU,if_pos KZ,IA.1,ke,ro (by decide) KV,if_pos K0,K3];rfl
theorem K6:fg gT KQ=(Rel.zero,1,19):=by
 unfold fg;rw[if_neg (by decide+kernel),if_neg (by decide)];show cG false (cL (bs KQ)) 0 ⟨gT,[]⟩=_
 rw[KY,ro (by decide) KW,if_pos K4,IA.2,ro (by decide) KX,if_neg (by rw[IB];decide),IB]
theorem u5{W:World}{G:Nat->Prop}:∀l:List UInt8,PT W G (bH l) (flat (bg l))
 |[]=>.nil
 |c::l=>.sc _ (u5 l)
theorem qE{w0:World}{G0:Nat->Prop}{ops:Array Oper}{c:List Oper}{Q:Exit->St->Prop}{n d p:Nat}{sl:List (Nat×Tree)}{bs:List (TypeId×List Tree)}{rs:List (Option Row)}{o f:Oper}(l:List UInt8)
  (M:o.guard=none) (m:o.dst=some d) (N:Nat.blt d n=true) (y:f.op=.convert 22 22 (.tmp d)) (r:f.guard=none) (e:f.dst=some p) (A:Nat.blt p n=true) (V:l.length<=1048576)
  (g:∀(w:World) (T:Nat->Value),(execOp (cA T) o).run Tryz.prog w=.ok (.value (.slice (some ⟨w.heap.size,0,none⟩) l.length l.length)) (w.alloc (.cells (bH l).toArray 5)))
  (k:AOps w0 G0 ops c Q ⟨n,(p,.sl (bg l))::(d,.any)::sl,bs,rs⟩):AOps w0 G0 ops (o::f::c) Q ⟨n,sl,bs,rs⟩:=by
 rintro a w ⟨bx,rv,F,b,B,q⟩;refine ec (by simp[Region.wanted,M]) fun K G=>?_
 have R:OpRuns Tryz.prog o (fun s=>a.tmps.getD s undef) w (fun v w'=>v=.slice (some ⟨w.heap.size,0,none⟩) l.length l.length/\w'=w.alloc (.cells (bH l).toArray 5)):=aq (g w _) ⟨Z,Z⟩;refine Oper.wp_mono ?_ (R.wp (Q:=yW w0 G0 Q));rintro I w' ⟨v,rfl,rfl,rfl⟩;refine G _ _<|ec (by simp[Region.wanted,r]) fun U x=>?_
 have i:d<n:=by simpa[Nn]using N
 have L:(a.put o.dst (.slice (some ⟨w.heap.size,0,none⟩) l.length l.length)).tmps.getD d undef=.slice (some ⟨w.heap.size,0,none⟩) l.length l.length:=by
  rw[m,ga a (some d) _ n b (by simpa[cT]using i),if_pos Z]
 have O:=Lib.run_convert_bytes_const (P:=Tryz.prog) w 22 5 (bH l).toArray l.length l.length Tryz.underlying22 Tryz.underlying5;have J:OpRuns Tryz.prog f (fun s=>(a.put o.dst (.slice (some ⟨w.heap.size,0,none⟩) l.length l.length)).tmps.getD s undef) (w.alloc (.cells (bH l).toArray 5)) (fun v w'=>v=.slice (some ⟨w.heap.size,0,none⟩) l.length l.length/\w'=w.alloc (.cells (bH l).toArray 5 ((bH l).toArray.size,(bH l).toArray.size+1))):=by
  refine aq (v:=.slice (some ⟨w.heap.size,0,none⟩) l.length l.length) ?_ ⟨Z,Z⟩;simp only[execOp,y,cA,L,Sem.run_bind,O,Result.andThen_ok,Sem.run_pure]
 refine Oper.wp_mono ?_ (J.wp (Q:=yW w0 G0 Q));rintro I w' ⟨v,rfl,rfl,rfl⟩;have C:Below w.heap.size w (w.alloc (.cells (bH l).toArray 5 ((bH l).toArray.size,(bH l).toArray.size+1))):=(Below.refl _ _).alloc (L5 _) _;refine x _ _ (k _ _ ⟨bx,rv,F.later C,by rw[dB,dB,b],by rw[cH,cH,B],?_⟩);have D:=gY (S:=⟨n,sl,bs,rs⟩) (o:=o) (v:=.slice (some ⟨w.heap.size,0,none⟩) l.length l.length) (t:=.any) b (by rw[m];simpa[cT]using i) (fun _ _ h=>FT.later h C) q (.any _ .nil);rw[m]at D;have z:FT (en (w.alloc (.cells (bH l).toArray 5 ((bH l).toArray.size,(bH l).toArray.size+1))) G0 bx rv rs) [.slice (some ⟨w.heap.size,0,none⟩) l.length l.length] [.sl (bg l)]:=by
  refine .pure (.sl w.heap.size 0 l.length l.length (bH l) (bg l) (by simp[en]) (D5 F _ (L5 _)) (fun j u H=>?_) (by simp[bg]) (by simp[bg]) (by omega) (u5 l) .nil) .nil;rw[M0];simp only[en,World.cell?,World.alloc,Array.getElem?_push,if_true];simpa using H
 have E:=gY (S:=⟨n,(d,.any)::sl,bs,rs⟩) (o:=f) (v:=.slice (some ⟨w.heap.size,0,none⟩) l.length l.length) (t:=.sl (bg l)) (a:=a.put (some d) (.slice (some ⟨w.heap.size,0,none⟩) l.length l.length)) (by rw[dB];exact b) (by rw[e];simpa[cT,Nn]using A) (fun _ _ h=>h) D z;rw[e]at E;rw[m,e];exact E
theorem K7(e:Nat)(h:e<256):bits .and .u8 (e:Int) 3=((e%4:Nat):Int):=by
 have:∀x:Fin 256,bits .and .u8 (x.val:Int) 3=((x.val%4:Nat):Int):=by decide+kernel
 exact this ⟨e,h⟩
theorem K8(e:Nat)(h:e<256):bits .and .u8 (e:Int) 4=((e/4%2*4:Nat):Int):=by
 have:∀x:Fin 256,bits .and .u8 (x.val:Int) 4=((x.val/4%2*4:Nat):Int):=by decide+kernel
 exact this ⟨e,h⟩
theorem DP{x y:Operand}(e:Nat)(h:e<256)(w:World):(do eqGuard .and 5 x y (.int .u8 (e:Nat)) (.int .u8 3);binOp .and 5 (.int .u8 (e:Nat)) (.int .u8 3):Sem Value).run Tryz.prog w=.ok (.int .u8 ((e%4:Nat):Int)) w:=by
 have key:=K7 e h;go_simp
theorem DQ{x y:Operand}(e:Nat)(h:e<256)(w:World):(do eqGuard .and 5 x y (.int .u8 (e:Nat)) (.int .u8 4);binOp .and 5 (.int .u8 (e:Nat)) (.int .u8 4):Sem Value).run Tryz.prog w=.ok (.int .u8 ((e/4%2*4:Nat):Int)) w:=by
 have key:=K8 e h;go_simp
def kR:Rel:=⟨gT,[kA,kB]⟩
theorem Cq:Good kR:=by
 have c:∀t∈kR.tups,t=kA\/t=kB:=fun t a=>by
  have a:t∈[kA,kB]:=a;simpa using a
 refine⟨by decide+kernel,fun t a=>?_,fun t a=>?_,fun t a=>?_,by decide,.inr Z⟩
 ·rcases c t a with rfl|rfl
  ·show cF false 1 3∈gW;unfold gW;simp
  show cF false 1 2∈gW;unfold gW;simp
 ·rcases c t a with rfl|rfl<;>(intro v b;simp only[kA,kB,Mi,N0,or_false]at b;rcases b with rfl|rfl<;>decide)
 rcases c t a with rfl|rfl<;>(intro v b;simp only[kA,kB,Mi,N0,or_false]at b;rcases b with rfl|rfl<;>(unfold V.rng;decide))
theorem u6{r:Rel}(h:Good r):Ct 17 [r.tree] (r.tree):=by
 refine qr r h.small.tups fun t a=>?_
 obtain⟨c,b⟩:=(h.small.tup t a).1.p;have:=uF (decide (t.prob.num<0)) t.prob.num.natAbs t.prob.den (L6 c (by decide)) (L6 b (by decide)) (NG t.prob.den_nz);rw[fd]at this;exact this
def Ii(r:Rel)(j:Nat):Rel:=⟨r.sch,(r.tups.take (j+1)).drop j⟩
theorem AY{r:Rel}{j:Nat}{t:Tp}(h:r.tups[j]? =some t):Ii r j=⟨r.sch,[t]⟩:=by
 obtain⟨a,rfl⟩:=L7.1 h;unfold Ii;congr 1;rw[Mq a,List.drop_append_of_le_length (by rw[Mf];omega),Mg (by rw[Mf];omega)];rfl
theorem tD{r:Rel}(b:Good r){j:Nat}{t:Tp}(h:r.tups[j]? =some t):Good ⟨r.sch,[t]⟩/\j1 ⟨r.sch,[t]⟩=fj r.sch.cert t++[10]:=by
 have d:=L9 h;have c:∀x∈[t],x∈r.tups:=fun x a=>by rw[Ml.1 a];exact d
 have e:bm ⟨r.sch,[t]⟩=0:=by
  have:=b.valid;obtain⟨s,ts⟩:=r;exact mW this (List.singleton_sublist.2 d)
 refine⟨⟨e,fun x a=>b.prob x (c x a),fun x a=>b.str x (c x a),fun x a=>b.rng x (c x a),by show 1<=3;decide,b.sch⟩,?_⟩;unfold j1 Gg;rw[if_pos e];show [t].flatMap _=_
 rw[OD,List.flatMap_nil,MA,AU]
theorem Ij{k:Nat}{r:Rel}{j:Nat}{t:Tp}(h:r.tups[j]? =some t):mZ k r.sch.cert (r.tups.drop j).reverse=mZ k r.sch.cert (r.tups.drop (j+1)).reverse++(List.replicate k 10++(fj r.sch.cert t++[10])):=by
 obtain⟨a,rfl⟩:=L7.1 h;rw[Md a,OF];unfold mZ;rw[O1];simp
theorem yL:Ct 15 [] (bT true):=by
 obtain⟨c,k⟩:∃z:Nat,z=0:=⟨_,rfl⟩;obtain⟨b,f⟩:∃z:Nat,z=0:=⟨_,rfl⟩;obtain⟨g,i⟩:∃z:Nat,z=1:=⟨_,rfl⟩;obtain⟨e,j⟩:∃z:Nat,z=19:=⟨_,rfl⟩;refine Ct.of (n:=43) Tryz.func15 Z Z Z Z Z fun w0 G0=>?_
 refine ab<|aj 1 Z<|ab<|ae<|af Z Z Z (ar Z tw Z Z) ?_;refine qE KP Z Z Z Z Z Z Z (by decide) (fun w T=>by
  simp only[execOp,cA];go_simp;exact⟨Z,Z⟩) ?_
 refine af (t:=.tup [.agg (aT kR),nI c,nI b]) Z Z Z (ar Z (by have h:=mX gT KP (by decide);rw[K5]at h;rw[k,f];exact h) Z Z)<|aa 8 Z<|ag<|ab<|ae<|af Z Z Z (ar Z tw Z Z) ?_;refine qE KQ Z Z Z Z Z Z Z (by decide) (fun w T=>by
  simp only[execOp,cA];go_simp;exact⟨Z,Z⟩) ?_
 refine af (t:=.tup [.agg dS,nI g,nI e]) Z Z Z (ar Z (by have h:=mX gT KQ (by decide);rw[K6]at h;rw[i,j];exact h) Z Z)<|aa 8 Z<|ag<|ab<|ae<|aa 1 Z<|af (t:=bT (decide (b=0))) Z Z Z (ah (ai Z Z Z Zy) (av (lY b 0)))<|aa 1 Z<|aA (t:=nI c) ((decide (b=0))=true) Z Z Z au Z Z (fun d=>aw Z Z)<|aA (t:=bT (decide (c=0))) ((decide (b=0))=true) Z Z Z au Z Z (fun d=>ah (ai Z (if_pos d) Z (fun _=>rfl)) (av (lY c 0)))<|af (t:=bT ((decide (b=0))&&(decide (c=0)))) Z Z Z (aL Z Z (fun a=>(if_pos a).trans (av (by rw[a];rfl))) (fun a=>(av (by rw[a];rfl))))<|aa 1 Z<|aA (t:=.agg (aT kR)) (((decide (b=0))&&(decide (c=0)))=true) Z Z Z au Z Z (fun d=>aJ Z Z Z bq Z Z)<|aA (t:=.sl (bg Cp)) (((decide (b=0))&&(decide (c=0)))=true) Z Z Z au Z Z (fun d=>ar Z (by have h:=tq kR Cq.fit.1 Cq.fit.2;rw[show j1 kR=Cp from LL]at h;exact h) (eU (if_pos d) Z) Z)<|aA (t:=sT (⟨Cp.toArray⟩:ByteArray)) (((decide (b=0))&&(decide (c=0)))=true) Z Z Z au Z Z (fun d=>pA Z (if_pos d))<|aA (t:=bT ((⟨Cp.toArray⟩:ByteArray).toList==(⟨#[39,97,39,44,50,58,49,47,51,10,39,98,44,32,99,39,44,49,58,49,47,50,10]⟩:ByteArray).toList)) (((decide (b=0))&&(decide (c=0)))=true) Z Z Z au Z Z (fun d=>ai Z (if_pos d) Z (fun _=>rfl))<|af (t:=bT (((decide (b=0))&&(decide (c=0)))&&((⟨Cp.toArray⟩:ByteArray).toList==(⟨#[39,97,39,44,50,58,49,47,51,10,39,98,44,32,99,39,44,49,58,49,47,50,10]⟩:ByteArray).toList))) Z Z Z (aL Z Z (fun a=>(if_pos a).trans (av (by rw[a];rfl))) (fun a=>(av (by rw[a];rfl))))<|aa 1 Z<|aA (t:=nI e) ((((decide (b=0))&&(decide (c=0)))&&((⟨Cp.toArray⟩:ByteArray).toList==(⟨#[39,97,39,44,50,58,49,47,51,10,39,98,44,32,99,39,44,49,58,49,47,50,10]⟩:ByteArray).toList))=true) Z Z Z au Z Z (fun d=>aw Z Z)<|aA (t:=bT (decide (e=19))) ((((decide (b=0))&&(decide (c=0)))&&((⟨Cp.toArray⟩:ByteArray).toList==(⟨#[39,97,39,44,50,58,49,47,51,10,39,98,44,32,99,39,44,49,58,49,47,50,10]⟩:ByteArray).toList))=true) Z Z Z au Z Z (fun d=>ah (ai Z (if_pos d) Z (fun _=>rfl)) (av (lY e 19)))<|af (t:=bT ((((decide (b=0))&&(decide (c=0)))&&((⟨Cp.toArray⟩:ByteArray).toList==(⟨#[39,97,39,44,50,58,49,47,51,10,39,98,44,32,99,39,44,49,58,49,47,50,10]⟩:ByteArray).toList))&&(decide (e=19)))) Z Z Z (aL Z Z (fun a=>(if_pos a).trans (av (by rw[a];rfl))) (fun a=>(av (by rw[a];rfl))))<|aa 1 Z<|aA (t:=nI g) (((((decide (b=0))&&(decide (c=0)))&&((⟨Cp.toArray⟩:ByteArray).toList==(⟨#[39,97,39,44,50,58,49,47,51,10,39,98,44,32,99,39,44,49,58,49,47,50,10]⟩:ByteArray).toList))&&(decide (e=19)))=true) Z Z Z au Z Z (fun d=>aw Z Z)<|aA (t:=bT (decide (g=1))) (((((decide (b=0))&&(decide (c=0)))&&((⟨Cp.toArray⟩:ByteArray).toList==(⟨#[39,97,39,44,50,58,49,47,51,10,39,98,44,32,99,39,44,49,58,49,47,50,10]⟩:ByteArray).toList))&&(decide (e=19)))=true) Z Z Z au Z Z (fun d=>ah (ai Z (if_pos d) Z (fun _=>rfl)) (av (lY g 1)))<|af (t:=bT (((((decide (b=0))&&(decide (c=0)))&&((⟨Cp.toArray⟩:ByteArray).toList==(⟨#[39,97,39,44,50,58,49,47,51,10,39,98,44,32,99,39,44,49,58,49,47,50,10]⟩:ByteArray).toList))&&(decide (e=19)))&&(decide (g=1)))) Z Z Z (aL Z Z (fun a=>(if_pos a).trans (av (by rw[a];rfl))) (fun a=>(av (by rw[a];rfl))))<|aa 1 Z<|ag<|aC<|⟨.inr Z,_,.cons Z .nil,av (by rw[k,f,i,j,show((⟨Cp.toArray⟩:ByteArray).toList==(⟨#[39,97,39,44,50,58,49,47,51,10,39,98,44,32,99,39,44,49,58,49,47,50,10]⟩:ByteArray).toList)=true from beq_self_eq_true (⟨Cp.toArray⟩:ByteArray).toList];rfl),Z⟩
theorem Gn(a:List UInt8)(q:Nat):a++List.replicate q 10++[10]=a++List.replicate (q+1) 10:=by rw[MG,<-Qh]
theorem JJ{a:Nat}(h:a<256):(Tree.sc (.int .u8 (IntKind.u8.wrap (a:Int))))=.sc (.int .u8 ((a:Nat):Int)):=by
 have:IntKind.u8.wrap (a:Int)=a:=by
  have:=IntKind.wrap_u8 (a:Int);omega
 rw[this]
theorem Ik{T:List UInt8}(h:∃l:List UInt8,T=l++[10]):T=T.take (T.length-1)++[10]:=by
 obtain⟨l,rfl⟩:=h;simp
theorem Il{k:Nat}{cert:Bool}:∀{us:List Tp},us≠ []->∃l,mZ k cert us=l++[10]:=fun{us} h=>by
 obtain⟨a,t,rfl⟩:∃a t,us=a++[t]:=⟨_,_,(List.dropLast_concat_getLast h).symm⟩;refine⟨mZ k cert a++(List.replicate k 10++fj cert t),?_⟩;unfold mZ;rw[O1];simp
theorem AZ{r:Rel}(a:Good r){k:Nat}(c:k<=3):(fg r.sch (mZ k r.sch.cert r.tups.reverse)=(r,0,0)/\tN (mZ k r.sch.cert r.tups.reverse)=true)/\(0<(mZ k r.sch.cert r.tups.reverse).length->fg r.sch ((mZ k r.sch.cert r.tups.reverse).take ((mZ k r.sch.cert r.tups.reverse).length-1))=(r,0,0)/\tN ((mZ k r.sch.cert r.tups.reverse).take ((mZ k r.sch.cert r.tups.reverse).length-1))=true):=by
 refine⟨AV a c,fun b=>AW a c (Ik (Il fun e=>?_))⟩;rw[e]at b;simp[mZ]at b
theorem Gp{r:Rel}(a:Good r){k:Nat}(d:k<=3)(j:Nat):(mZ k r.sch.cert (r.tups.drop j).reverse).length<=2400:=by
 have h:=rm (s:=r.sch) (k:=k) (r.tups.drop j).reverse fun t b=>rn a t (M2 (List.mem_reverse.1 b))
 have c:=a.len;rw[PD,MS]at h;refine L6 h (L6 (NU (show r.tups.length-j<=3 by omega) (show k+796<=799 by omega)) (by decide))
theorem Gq(l:List Int)(e:Nat)(V:l.length<=9223372036854775807)(G:e<256):Ct 5 [.sl (l.map gi),.sc (.int .u8 ((e:Nat):Int))] (bT true):=by
 obtain⟨K,F⟩:∃z:Nat,z=0:=⟨_,rfl⟩;obtain⟨c,p⟩:∃z:Nat,z=0:=⟨_,rfl⟩;refine Ct.of (n:=77) Tryz.func5 Z Z Z Z Z fun w0 G0=>?_
 refine ab<|aj 1 Z<|ab<|ae<|aa 1 Z<|jP (fun M=>∃r:Rel,Good r/\M=r.tree) Z Z Z (kk Z (Gm l V) Z Z) ?_;rintro _ ⟨r,o,rfl⟩;have R:=o.len;refine aa 2 Z<|ag<|ab<|ae<|g7 (k:=0) (e:=5) (sz:=1) (rs':=[some ⟨5,1,bg [],false⟩]) (.inr Z) Z Z Z Z Z<|ag<|ab<|ab<|ae<|aa 2 Z<|af (t:=nI r.tups.length) Z Z Z (ah (bd Z aK Z) (by simp only[L8]))<|af (t:=iT (((r.tups.length:Nat):Int)-1)) Z Z Z (ah (ai Z Z Z Zy) (uX (by omega) (by omega)))<|aa 1 Z<|ag<|aE<|aW (fun C E=>∃(z:Int) (b:List UInt8),(-1<=z/\z<r.tups.length/\b=mZ (e%4) r.sch.cert (r.tups.drop (z+1).toNat).reverse)/\C=(z+1).toNat/\E=⟨77,[(1,.sc (.int .u8 ((e:Nat):Int))),(5,.box 0 0),(6,.own 0),(7,iT z)],[(30,(aT r))],[some ⟨5,1,bg b,false⟩]⟩) 1 1 ⟨((r.tups.length:Nat):Int)-1,[],⟨by omega,by omega,by rw[Mg (by omega)];rfl⟩,Z,Z⟩ ⟨Z,Z,Z,.cons Z Z (.cons Z Z (.cons Z Z (.cons Z Z .nil))),Z⟩ ?_;rintro C E ⟨z,b,⟨N,S,f⟩,rfl,rfl⟩;refine ab<|ab<|ae<|aa 1 Z<|af (t:=bT (decide (z≥0))) Z Z Z (ai Z Z Z Zy)<|ag<|aF Z (fun J=>?_) (fun J=>?_)
 ·obtain⟨j,rfl⟩:∃j:Nat,z=(j:Int):=⟨z.toNat,by omega⟩;obtain⟨t,m⟩:∃t,r.tups[j]? =some t:=⟨_,L4 (by omega)⟩;have T:=(tC (rn o t (L9 m))).1;have x:=Gp o (k:=e%4) (by omega) (j+1);have H:((j:Int)+1).toNat=j+1:=by omega
  rw[H]at f;rw[<-f]at x;refine ax<|ab<|aE<|ab<|iw (sl':=[(1,.sc (.int .u8 ((e:Nat):Int))),(5,.box 0 0),(6,.own 0),(7,nI j),(20,bT (decide (((j:Nat):Int)≥0)))]) ⟨Z,⟨Z,⟨Z,⟨Z,⟨Z,trivial⟩⟩⟩⟩⟩<|fz (fu:=1) [some 23,some 24,some 25,some 26,some 27,some 28,some 29,some 30,some 31,some 8,none] [9,10] [.box 0 0,.agg (dq r.sch),.box 0 3,.sl (r.tups.map Tp.tree),nI j,nI j,nI (j+1),.sl (((r.tups.take (j+1)).drop j).map Tp.tree),.agg [sT r.sch.name,bT r.sch.cert,.sl (r.sch.cols.map Col.tree),.sl (((r.tups.take (j+1)).drop j).map Tp.tree)],.any,.any] [⟨[9],[(1,.sc (.int .u8 ((e:Nat):Int))),(5,.box 0 0),(6,.own 0),(7,nI j),(20,bT (decide (((j:Nat):Int)≥0)))],[(30,(aT r)),(30,dS)],[some ⟨5,1,bg b,false⟩],[.box 0 0,.agg (dq r.sch),.box 0 3,.sl (r.tups.map Tp.tree),nI j,nI j,nI (j+1),.sl (((r.tups.take (j+1)).drop j).map Tp.tree),.agg [sT r.sch.name,bT r.sch.cert,.sl (r.sch.cols.map Col.tree),.sl (((r.tups.take (j+1)).drop j).map Tp.tree)],.box 1 0,.any]⟩] ⟨[10,9],[(1,.sc (.int .u8 ((e:Nat):Int))),(5,.box 0 0),(6,.own 0),(7,nI j),(20,bT (decide (((j:Nat):Int)≥0)))],[(30,(aT r)),(30,[sT r.sch.name,bT r.sch.cert,.sl (r.sch.cols.map Col.tree),.sl (((r.tups.take (j+1)).drop j).map Tp.tree)])],[some ⟨5,1,bg b,false⟩],[.box 0 0,.agg (dq r.sch),.box 0 3,.sl (r.tups.map Tp.tree),nI j,nI j,nI (j+1),.sl (((r.tups.take (j+1)).drop j).map Tp.tree),.agg [sT r.sch.name,bT r.sch.cert,.sl (r.sch.cols.map Col.tree),.sl (((r.tups.take (j+1)).drop j).map Tp.tree)],.box 1 0,.any]⟩ (by kernel_rfl) Z (by kernel_rfl) (by kernel_rfl) (by kernel_rfl) Z Z ?_ ?_
  ·refine .op [] (by kernel_rfl) ?_ ?_
   ·refine .ok (t:=.box 0 0) (by kernel_rfl) Z Z (az Z Z dZ Z)<|.ok (t:=.box 0 0) (by kernel_rfl) Z Z (az Z Z dZ Z)<|.no (by kernel_rfl)<|.nil
   refine .op [0] (by kernel_rfl) ?_ ?_
   ·refine .ok (t:=.agg (dq r.sch)) (by kernel_rfl) Z Z (aJ Z Z Z eR Z Z)<|.ok (t:=.agg (dq r.sch)) (by kernel_rfl) Z Z (aJ Z Z Z eR Z Z)<|.no (by kernel_rfl)<|.nil
   refine .op [] (by kernel_rfl) ?_ ?_
   ·refine .ok (t:=.box 0 3) (by kernel_rfl) Z Z (az Z Z aV Z)<|.ok (t:=.box 0 3) (by kernel_rfl) Z Z (az Z Z aV Z)<|.no (by kernel_rfl)<|.nil
   refine .op [2] (by kernel_rfl) ?_ ?_
   ·refine .ok (t:=.sl (r.tups.map Tp.tree)) (by kernel_rfl) Z Z (aD Z Z Z bp Z)<|.ok (t:=.sl (r.tups.map Tp.tree)) (by kernel_rfl) Z Z (aD Z Z Z bp Z)<|.no (by kernel_rfl)<|.nil
   refine .op [] (by kernel_rfl) ?_ ?_
   ·refine .ok (t:=nI j) (by kernel_rfl) Z Z (aw Z Z)<|.ok (t:=nI j) (by kernel_rfl) Z Z (aw Z Z)<|.no (by kernel_rfl)<|.nil
   refine .op [] (by kernel_rfl) ?_ ?_
   ·refine .ok (t:=nI j) (by kernel_rfl) Z Z (aw Z Z)<|.ok (t:=nI j) (by kernel_rfl) Z Z (aw Z Z)<|.no (by kernel_rfl)<|.nil
   refine .op [5] (by kernel_rfl) ?_ ?_
   ·refine .ok (t:=nI (j+1)) (by kernel_rfl) Z Z (ah (ai Z Z Z Zy) (bu (by omega)))<|.ok (t:=nI (j+1)) (by kernel_rfl) Z Z (ah (ai Z Z Z Zy) (bu (by omega)))<|.no (by kernel_rfl)<|.nil
   refine .op [3,4,6] (by kernel_rfl) ?_ ?_
   ·refine .ok (t:=.sl (((r.tups.take (j+1)).drop j).map Tp.tree)) (by kernel_rfl) Z Z (ah (iG (l:=j) (h:=j+1) Z aK Z ⟨_,Z⟩ ⟨_,Z⟩ (by first|omega|(simp only[L8];omega)) (by first|omega|(simp only[L8];omega)) (bQ _)) (by simp only[OB,OL]))<|.ok (t:=.sl (((r.tups.take (j+1)).drop j).map Tp.tree)) (by kernel_rfl) Z Z (ah (iG (l:=j) (h:=j+1) Z aK Z ⟨_,Z⟩ ⟨_,Z⟩ (by first|omega|(simp only[L8];omega)) (by first|omega|(simp only[L8];omega)) (bQ _)) (by simp only[OB,OL]))<|.no (by kernel_rfl)<|.nil
   refine .op [1,7] (by kernel_rfl) ?_ ?_
   ·refine .ok (t:=.agg [sT r.sch.name,bT r.sch.cert,.sl (r.sch.cols.map Col.tree),.sl (((r.tups.take (j+1)).drop j).map Tp.tree)]) (by kernel_rfl) Z Z (fG Z ik Z Z Z)<|.ok (t:=.agg [sT r.sch.name,bT r.sch.cert,.sl (r.sch.cols.map Col.tree),.sl (((r.tups.take (j+1)).drop j).map Tp.tree)]) (by kernel_rfl) Z Z (fG Z ik Z Z Z)<|.no (by kernel_rfl)<|.nil
   refine .op [] (by kernel_rfl) ?_ ?_
   ·refine .wr 1 id (.box 1 0) (by kernel_rfl) Z Z (iI Z Z Z im Z Z Z Z) Z Z Z Z (.k Z (.k Z (.k Z (.k Z (.k Z (.k Z (.k Z (.k Z (.k Z (.i Z (.k Z .nil)))))))))))<|.no (by kernel_rfl)<|.no (by kernel_rfl)<|.nil
   refine .op [8,9] (by kernel_rfl) ?_ ?_
   ·refine .no (by kernel_rfl)<|.wr 2 id .any (by kernel_rfl) Z Z (gJ Z Z Z Z Z Z Z Z lz Z Z Z) Z Z Z Z (.k Z (.k Z (.k Z (.k Z (.k Z (.k Z (.k Z (.k Z (.k Z (.k Z (.i Z .nil)))))))))))<|.no (by kernel_rfl)<|.nil
   exact .nil
  refine ab<|ab<|aj 1 Z<|aE<|aW (fun C E=>∃(q:Nat) (A:List UInt8),(q<=e%4/\A=b++List.replicate q 10)/\C=e%4-q/\E=⟨77,[(1,.sc (.int .u8 ((e:Nat):Int))),(5,.box 0 0),(6,.own 0),(7,nI j),(8,.box 1 0),(9,.sc (.int .u8 ((q:Nat):Int)))],[(30,(aT r)),(30,[sT r.sch.name,bT r.sch.cert,.sl (r.sch.cols.map Col.tree),.sl (((r.tups.take (j+1)).drop j).map Tp.tree)])],[some ⟨5,1,bg A,false⟩]⟩) 2 1 ⟨0,b,⟨Mx _,by simp⟩,Z,Z⟩ ⟨Z,Z,Z,.cons Z Z (.cons Z Z (.cons Z Z (.cons Z Z (.cons Z Z (.cons Z Z .nil))))),Z⟩ ?_;rintro C E ⟨q,A,⟨U,s⟩,rfl,rfl⟩;refine ab<|ab<|ae<|aa 2 Z<|af (t:=.sc (.int .u8 ((e%4:Nat):Int))) Z Z Z (ai Z Z Z (fun w=>DP e G w))<|af (t:=bT (decide (q<e%4))) Z Z Z (ah (ai Z Z Z Zy) (av (iu q (e%4))))<|ag<|aF Z (fun I=>?_) (fun I=>?_)
  ·have y:(List.replicate q (10:UInt8)).length=q:=Ok;have u:=congrArg List.length s;rw[Mc,y]at u;refine ax<|ab<|aE<|ae<|aa 1 rfl<|af (t:=.sl [.sc (.int .u8 10)]) rfl rfl rfl (a6 rfl df jm rfl (by decide) (by decide) rfl rfl rfl rfl rfl)<|cD (bs':=[(30,(aT r)),(30,[sT r.sch.name,bT r.sch.cert,.sl (r.sch.cols.map Col.tree),.sl (((r.tups.take (j+1)).drop j).map Tp.tree)])]) (rs':=[some ⟨5,1,bg (A++[10]),false⟩]) rfl rfl rfl rfl eS rfl rfl rfl rfl (by intro e G;simp only[Mi,Nr,or_false]at G;subst G;rfl) (AllC.lit rfl) (AllC.lit rfl) (by simp only[a7,Mb,Mo];omega) rfl rfl rfl (by simp only[fq];rfl)<|aa 1 rfl<|ag<|ae<|aa 1 rfl<|af (t:=.sc (.int .u8 ((q+1:Nat):Int))) rfl rfl rfl (ah (ai rfl rfl rfl Zy) (JJ (a:=q+1) (by omega)))<|aa 1 rfl<|ag<|⟨_,_,?_,⟨q+1,(A++[10]),?_,rfl,rfl⟩,⟨rfl,rfl,rfl,.cons rfl rfl (.cons rfl rfl (.cons rfl rfl (.cons rfl rfl (.cons rfl rfl (.cons rfl rfl .nil))))),rfl⟩⟩
   ·omega
   exact⟨by omega,by rw[s];exact Gn b q⟩
  obtain rfl:q=e%4:=by omega
  have y:(List.replicate (e%4) (10:UInt8)).length=e%4:=Ok;have u:=congrArg List.length s;rw[Mc,y]at u;refine aZ<|ae<|aa 2 Z<|af (t:=.sl (bg (fj r.sch.cert t++[10]))) Z Z Z (ar Z (by have h:=tq (Ii r j) (by rw[AY m];exact(tD o m).1.fit.1) (by rw[AY m];exact(tD o m).1.fit.2);rw[show j1 (Ii r j)=fj r.sch.cert t++[10] by rw[AY m];exact(tD o m).2]at h;exact h) Z Z)<|cD (bs':=[(30,(aT r)),(30,[sT r.sch.name,bT r.sch.cert,.sl (r.sch.cols.map Col.tree),.sl (((r.tups.take (j+1)).drop j).map Tp.tree)])]) (rs':=[some ⟨5,1,bg (A++(fj r.sch.cert t++[10])),false⟩]) Z Z Z Z eS Z Z Z Z (lU _) (AllC.map _ _ fun _=>rfl) (AllC.map _ _ fun _=>rfl) (by simp only[a7,Mc,Mb,Mo];omega) Z Z Z (by simp only[fq];rfl)<|aa 1 Z<|ag<|ae<|aa 1 Z<|af (t:=iT (((j:Nat):Int)-1)) Z Z Z (ah (ai Z Z Z Zy) (uX (by omega) (by omega)))<|aa 1 Z<|ag<|⟨_,_,?_,⟨((j:Nat):Int)-1,(A++(fj r.sch.cert t++[10])),?_,Z,Z⟩,⟨Z,Z,Z,.cons Z Z (.cons Z Z (.cons Z Z (.cons Z Z .nil))),Z⟩⟩
  ·omega
  refine⟨by omega,by omega,?_⟩;rw[show((j:Int)-1+1).toNat=j by omega,Ij m,<-f,s];simp
 have Q:z= -1:=by omega
 subst Q;have f:b=mZ (e%4) r.sch.cert r.tups.reverse:=f;obtain⟨v,D⟩:=AZ o (k:=e%4) (by omega);rw[<-f]at v D;have x:=Gp o (k:=e%4) (by omega) 0;rw[Nx,<-f]at x;refine fD 0 (bs':=[(30,(aT r))]) (rs':=[none]) Z Z Z Z<|aZ<|ab<|ab<|ae<|aa 1 Z<|af (t:=nI b.length) Z Z Z (ah (bd Z df Z) (by simp only[a7]))<|af (t:=bT (decide (0<b.length))) Z Z Z (ah (ai Z Z Z Zy) (av (tE b.length 0)))<|aa 1 Z<|aA (t:=.sc (.int .u8 ((e:Nat):Int))) ((decide (0<b.length))=true) Z Z Z au Z Z (fun g=>aw Z Z)<|aA (t:=.sc (.int .u8 ((e/4%2*4:Nat):Int))) ((decide (0<b.length))=true) Z Z Z au Z Z (fun g=>ai Z (if_pos g) Z (fun w=>DQ e G w))<|aA (t:=bT (decide (e/4%2*4=4))) ((decide (0<b.length))=true) Z Z Z au Z Z (fun g=>ah (ai Z (if_pos g) Z (fun _=>rfl)) (av (lY (e/4%2*4) 4)))<|af (t:=bT ((decide (0<b.length))&&(decide (e/4%2*4=4)))) Z Z Z (aL Z Z (fun d=>(if_pos d).trans (av (by rw[d];rfl))) (fun d=>(av (by rw[d];rfl))))<|ag<|aH Z (fun B=>?_) (fun B=>?_)
 ·have O:0<b.length:=by have P:=B;simp at P;omega
  have L:=D O;refine ae<|aa 2 Z<|af (t:=nI b.length) Z Z Z (ah (bd Z df Z) (by simp only[a7]))<|af (t:=nI (b.length-1)) Z Z Z (ah (ai Z Z Z Zy) (bu (by omega)))<|af (t:=.sl (bg (b.take (b.length-1)))) Z Z Z (ah (iG (l:=0) (h:=b.length-1) Z df Z Z ⟨_,Z⟩ (Mx _) (by rw[a7];omega) (lU _)) (by unfold bg;rw[Nx,OB]))<|aa 1 Z<|ag<|ab<|ae<|aa 3 Z<|af (t:=.tup [.agg (aT r),nI K,nI c]) Z Z Z (ar Z (by have h:=mX r.sch ((b.take (b.length-1))) L.2;rw[L.1]at h;rw[F,p];exact h) Z Z)<|aa 8 Z<|ag<|ab<|ci (fu:=12) [some 66,some 67,some 68,some 69,some 70,some 71,some 72,some 73,some 74,some 75,some 76,some 4] [nI c,bT (decide (c=0)),bT (decide (c=0)),if(decide (c=0))=true then(.agg (aT r):Tree)else .sc undef,if(decide (c=0))=true then(.agg (aT r):Tree)else .sc undef,if(decide (c=0))=true then(.agg (aT r):Tree)else .sc undef,if(decide (c=0))=true then(bT (dA r r):Tree)else .sc undef,bT ((decide (c=0))&&(dA r r)),bT ((decide (c=0))&&(dA r r)),if((decide (c=0))&&(dA r r))=true then(bT true:Tree)else .sc undef,bT (((decide (c=0))&&(dA r r))||false),bT (((decide (c=0))&&(dA r r))||false)] (by kernel_rfl) Z Z (by kernel_rfl) Z ?_ ?_
  ·refine Chain.op Z (aw Z Z)<|Chain.op Z (ah (ai Z Z Z Zy) (av (lY c 0)))<|Chain.op Z (aw Z Z)<|Chain.cnd (t:=.agg (aT r)) 2 true 68 ((decide (c=0))=true) Z (by kernel_rfl) au (fun g=>aJ Z Z Z bq Z Z)<|Chain.cnd (t:=.agg (aT r)) 2 true 68 ((decide (c=0))=true) Z (by kernel_rfl) au (fun g=>aJ Z Z Z bq Z Z)<|Chain.cnd (t:=.agg (aT r)) 2 true 68 ((decide (c=0))=true) Z (by kernel_rfl) au (fun g=>ar Z (u6 o) (eU (if_pos g) Z) Z)<|Chain.cnd (t:=bT (dA r r)) 2 true 68 ((decide (c=0))=true) Z (by kernel_rfl) au (fun g=>ar Z (Cg r r o.fit.1 o.fit.1) (eU (if_pos g) (eU (if_pos g) Z)) Z)<|Chain.op Z (aL Z Z (fun d=>(if_pos d).trans (av (by rw[d];rfl))) (fun d=>(av (by rw[d];rfl))))<|Chain.op Z (aw Z Z)<|Chain.cnd (t:=bT true) 8 true 74 (((decide (c=0))&&(dA r r))=true) Z (by kernel_rfl) au (fun g=>ar Z yL Z Z)<|Chain.op Z (aL Z Z (fun d=>(if_pos d).trans (av (by rw[d];rfl))) (fun d=>(av (by rw[d];rfl))))<|Chain.op Z (bW Z Z)<|Chain.nil
  refine aC<|⟨.inr Z,_,.cons Z .nil,av (by rw[p,(qt r r).2 Z];rfl),Z⟩
 refine ax<|ab<|ae<|aa 3 Z<|af (t:=.tup [.agg (aT r),nI K,nI c]) Z Z Z (ar Z (by have h:=mX r.sch b v.2;rw[v.1]at h;rw[F,p];exact h) Z Z)<|aa 8 Z<|ag<|ab<|ci (fu:=12) [some 66,some 67,some 68,some 69,some 70,some 71,some 72,some 73,some 74,some 75,some 76,some 4] [nI c,bT (decide (c=0)),bT (decide (c=0)),if(decide (c=0))=true then(.agg (aT r):Tree)else .sc undef,if(decide (c=0))=true then(.agg (aT r):Tree)else .sc undef,if(decide (c=0))=true then(.agg (aT r):Tree)else .sc undef,if(decide (c=0))=true then(bT (dA r r):Tree)else .sc undef,bT ((decide (c=0))&&(dA r r)),bT ((decide (c=0))&&(dA r r)),if((decide (c=0))&&(dA r r))=true then(bT true:Tree)else .sc undef,bT (((decide (c=0))&&(dA r r))||false),bT (((decide (c=0))&&(dA r r))||false)] (by kernel_rfl) Z Z (by kernel_rfl) Z ?_ ?_
 ·refine Chain.op Z (aw Z Z)<|Chain.op Z (ah (ai Z Z Z Zy) (av (lY c 0)))<|Chain.op Z (aw Z Z)<|Chain.cnd (t:=.agg (aT r)) 2 true 68 ((decide (c=0))=true) Z (by kernel_rfl) au (fun g=>aJ Z Z Z bq Z Z)<|Chain.cnd (t:=.agg (aT r)) 2 true 68 ((decide (c=0))=true) Z (by kernel_rfl) au (fun g=>aJ Z Z Z bq Z Z)<|Chain.cnd (t:=.agg (aT r)) 2 true 68 ((decide (c=0))=true) Z (by kernel_rfl) au (fun g=>ar Z (u6 o) (eU (if_pos g) Z) Z)<|Chain.cnd (t:=bT (dA r r)) 2 true 68 ((decide (c=0))=true) Z (by kernel_rfl) au (fun g=>ar Z (Cg r r o.fit.1 o.fit.1) (eU (if_pos g) (eU (if_pos g) Z)) Z)<|Chain.op Z (aL Z Z (fun d=>(if_pos d).trans (av (by rw[d];rfl))) (fun d=>(av (by rw[d];rfl))))<|Chain.op Z (aw Z Z)<|Chain.cnd (t:=bT true) 8 true 74 (((decide (c=0))&&(dA r r))=true) Z (by kernel_rfl) au (fun g=>ar Z yL Z Z)<|Chain.op Z (aL Z Z (fun d=>(if_pos d).trans (av (by rw[d];rfl))) (fun d=>(av (by rw[d];rfl))))<|Chain.op Z (bW Z Z)<|Chain.nil
 refine aC<|⟨.inr Z,_,.cons Z .nil,av (by rw[p,(qt r r).2 Z];rfl),Z⟩
theorem u7{W:World}{G:Nat->Prop}:∀l:List Int,PT W G (kQ l) (flat (l.map gi))
 |[]=>.nil
 |_::l=>.sc _ (u7 l)
theorem Gr{W:World}{A:Option Addr}{l:List Int}{c:Nat}(d:At W W.heap.size A (kQ l))(g:l.length<=c)(e:c<=9223372036854775807)(j:A=none->c=0):PT W (fun _=>False) [.slice A l.length c] [.sl (l.map gi)]:=by
 cases f:l with
 |nil=>exact .sl0 _ _ j e .nil
 |cons x m=>
  rw[<-f];obtain⟨b,o,rfl,i,a⟩:=d (by rw[f];simp[kQ]);exact .sl b o c _ (kQ l) _ i (fun h=>h) a (by simp) (by simpa using g) e (u7 l) .nil
theorem DR{W:World}{A:Option Addr}{l:List Int}{c:Nat}{x:Int}(a:At W W.heap.size A (kQ l))(d:l.length<=c)(b:c<=9223372036854775807)(j:A=none->c=0)(n:0<=x/\x<=255)(m:Env W):
  Calls Tryz.prog 5 #[.slice A l.length c,.int .u8 x] W (H9 W):=by
 obtain⟨e,rfl⟩:∃e:Nat,x=(e:Int):=⟨x.toNat,by omega⟩;have h:=(Gq l e (by omega) (by omega)).2 (fun _=>False) W [.slice A l.length c,.int .u8 e] m (fun g k=>k.elim) ((Gr a d b j).cons (.sc _ .nil));refine h.mono ?_;rintro en w' ⟨v,rfl,i,f⟩;cases i with
 |sc _ _=>exact⟨Z,f⟩
end Go.Proofs.YtfoejfohbkmmeaaGreatDoor
