import Derived.Test.YtmhcanmapkenbaaGreatDoorA25
set_option maxRecDepth 100000
set_option maxHeartbeats 4000000
set_option linter.defProp false
open Go.Proofs.Tryz
namespace Go.Proofs.YtmhcanmapkenbaaGreatDoor
open Go.RowKit
def Gm{s:PS}(h:(!s.bad&&decide (s.a<s.l.length))=true):s.l[s.a]? =some s.nxt:=(oG (by simpa using h)).2.2
def Gn{s:PS}{b:Bool}(h:((!s.bad&&decide (s.a<s.l.length))&&b)=true):s.l[s.a]? =some s.nxt:=Gm (Qh _ _▸h).1
def J9{s:PS}{b c:Bool}(h:(((!s.bad&&decide (s.a<s.l.length))&&b)&&c)=true):s.l[s.a]? =some s.nxt:=Gn (Qh _ _▸h).1
def LF{s:PS}(h:(!s.bad&&decide (s.a<s.l.length))=false):(s.bad||decide (s.l.length<=s.a))=true:=by
 cases b:s.bad with
 |true=>rfl
 |false=>
  rw[b]at h;simp at h⊢;exact h
def Na{s:PS}{x:ByteArray}(b:x≠b9):((((!s.bad&&decide (s.a<s.l.length))&&decide (s.nxt.k≠3))&&decide (s.nxt.k≠2))&&decide (s.nxt.x=x))=aI x s.nxt:=by
 cases h:(!s.bad&&decide (s.a<s.l.length))with
 |true=>rfl
 |false=>rw[JZ b (LF h)];rfl
def O2{s:PS}{k:Nat}(b:k≠0):((!s.bad&&decide (s.a<s.l.length))&&decide (s.nxt.k=k))=decide (s.nxt.k=k):=by
 cases h:(!s.bad&&decide (s.a<s.l.length))with
 |true=>rfl
 |false=>
  rw[oF (LF h)];exact(decide_eq_false λe=>b e.symm).symm
def P8{s:PS}{k:Nat}(b:k≠0)(h:((s.bad||decide (s.l.length<=s.a))||decide (s.nxt.k≠k))=true):bp k s=(b9,⟨s.l,s.a,true⟩):=by
 rw[Q5]at h;refine OW ?_;rcases h with h|h
 ·rw[oF h];exact λe=>b e.symm
 exact of_decide_eq_true h
def Qe{s:PS}{k:Nat}(h:((s.bad||decide (s.l.length<=s.a))||decide (s.nxt.k≠k))=false):bp k s=(s.nxt.x,⟨s.l,s.a+1,s.bad⟩)/\s.a<s.l.length/\s.l[s.a+1-1]? =some s.nxt:=by
 rw[QD]at h;obtain⟨_,b,c⟩:=oG h.1;exact⟨MZ (RF.1 (of_decide_eq_false h.2)),b,c⟩
def Cz{s:PS}(h:io (bp 1 s).1=true):bC s=((bp 1 s).1,⟨(bp 1 s).2.l,(bp 1 s).2.a,true⟩):=if_pos h
def CA{s:PS}(h:io (bp 1 s).1=false):bC s=bp 1 s:=if_neg (by rw[h];exact Qk)
def Gp{N k:Nat}{s:PS}(h:PK N s):(bp k s).1.size<=1073741824:=by
 unfold bp;split
 ·exact QF _
 exact h.nxt
def uH{s:PS}{v:V}(h:cM (bp 2 s).1=some v):kI s=(v.n,(bp 2 s).2):=by unfold kI;rw[h]
def uI{s:PS}(h:cM (bp 2 s).1=none):kI s=(0,⟨(bp 2 s).2.l,(bp 2 s).2.a,true⟩):=by unfold kI;rw[h];rfl
def uJ{s:PS}{v:V}(a:s.nxt.k=3)(h:cM (bp 3 s).1=some v):eD s=(v,(bp 3 s).2):=(if_pos (decide_eq_true a)).trans (by rw[h])
def uK{s:PS}(b:s.nxt.k=3)(h:cM (bp 3 s).1=none):eD s=(V.zero,⟨(bp 3 s).2.l,(bp 3 s).2.a,true⟩):=(if_pos (decide_eq_true b)).trans (by rw[h];rfl)
def ym{s:PS}(a:¬s.nxt.k=3):eD s=(⟨1,(kI s).1,b9⟩,(kI s).2):=if_neg (by simpa using a)
def tK{a b:Int}(h:a=b):(Tree.sc (.int .i64 a))=iT b:=by rw[h]
def yn{s:PS}(b:¬(bp 4 s).1=(⟨#[61]⟩:ByteArray))(c:¬(bp 4 s).1=(⟨#[33,61]⟩:ByteArray))(d:¬(bp 4 s).1=(⟨#[60]⟩:ByteArray))(e:¬(bp 4 s).1=(⟨#[60,61]⟩:ByteArray)):fG s=(0,⟨(bp 4 s).2.l,(bp 4 s).2.a,true⟩):=by
 unfold fG xS;rw[if_neg (show¬(bp 4 s).1=yE from b),if_neg (show¬(bp 4 s).1=yN from c),if_neg (show¬(bp 4 s).1=qm from d),if_neg (show¬(bp 4 s).1=B3 from e)];rfl
def LG{s:PS}(h:(bp 4 s).1=(⟨#[61]⟩:ByteArray)):fG s=(1,(bp 4 s).2):=by unfold fG;rw[h];rfl
def LH{s:PS}(h:(bp 4 s).1=(⟨#[33,61]⟩:ByteArray)):fG s=(2,(bp 4 s).2):=by unfold fG;rw[h];rfl
def LI{s:PS}(h:(bp 4 s).1=(⟨#[60]⟩:ByteArray)):fG s=(3,(bp 4 s).2):=by unfold fG;rw[h];rfl
def LJ{s:PS}(h:(bp 4 s).1=(⟨#[60,61]⟩:ByteArray)):fG s=(4,(bp 4 s).2):=by unfold fG;rw[h];rfl
def cY:gm prog 101 0=some 0:=U
def cZ:gm prog 101 1=some 1:=U
def fV:gm prog 101 2=some 2:=U
def hZ:gm prog 140 0=some 0:=U
def mS:gm prog 140 1=some 1:=U
def Ka:gm prog 34 1=some 1:=U
def Ob:eN prog 2=true:=U
def el:eN prog 96=true:=U
def Gq(s:PS)(x:ByteArray)(c:x≠b9)(hl:s.l.length<=1073741824)(d:s.a<=s.l.length):Ct 44 [.ref s.cells,sT x] (bT (aI x s.nxt)):=by
 refine Ct.of (n:=65) func44 Z Z Z Z Z λw0 G0=>?_
 refine N 1 Z<|Y<|cu (fu:=1) _ [.ref [.sl (s.l.map Tok.tree),nI s.a,bT s.bad],.ref [.sl (s.l.map Tok.tree),nI s.a,bT s.bad],.ref [bT s.bad],bT s.bad,bT (!s.bad),bT (!s.bad),if(!s.bad)=true then(.ref [.sl (s.l.map Tok.tree),nI s.a,bT s.bad]:Tree)else .sc undef,if(!s.bad)=true then(.ref [.sl (s.l.map Tok.tree),nI s.a,bT s.bad]:Tree)else .sc undef,if(!s.bad)=true then(.ref [nI s.a,bT s.bad]:Tree)else .sc undef,if(!s.bad)=true then(nI s.a:Tree)else .sc undef,if(!s.bad)=true then(.ref [.sl (s.l.map Tok.tree),nI s.a,bT s.bad]:Tree)else .sc undef,if(!s.bad)=true then(.ref [.sl (s.l.map Tok.tree),nI s.a,bT s.bad]:Tree)else .sc undef,if(!s.bad)=true then(.ref [.sl (s.l.map Tok.tree),nI s.a,bT s.bad]:Tree)else .sc undef,if(!s.bad)=true then(.sl (s.l.map Tok.tree):Tree)else .sc undef,if(!s.bad)=true then(nI s.l.length:Tree)else .sc undef,if(!s.bad)=true then(bT (decide (s.a<s.l.length)):Tree)else .sc undef,bT ((!s.bad)&&(decide (s.a<s.l.length))),bT ((!s.bad)&&(decide (s.a<s.l.length))),if((!s.bad)&&(decide (s.a<s.l.length)))=true then(.ref [.sl (s.l.map Tok.tree),nI s.a,bT s.bad]:Tree)else .sc undef,if((!s.bad)&&(decide (s.a<s.l.length)))=true then(.ref [.sl (s.l.map Tok.tree),nI s.a,bT s.bad]:Tree)else .sc undef,if((!s.bad)&&(decide (s.a<s.l.length)))=true then(.ref [.sl (s.l.map Tok.tree),nI s.a,bT s.bad]:Tree)else .sc undef,if((!s.bad)&&(decide (s.a<s.l.length)))=true then(.sl (s.l.map Tok.tree):Tree)else .sc undef,if((!s.bad)&&(decide (s.a<s.l.length)))=true then(.ref [.sl (s.l.map Tok.tree),nI s.a,bT s.bad]:Tree)else .sc undef,if((!s.bad)&&(decide (s.a<s.l.length)))=true then(.ref [.sl (s.l.map Tok.tree),nI s.a,bT s.bad]:Tree)else .sc undef,if((!s.bad)&&(decide (s.a<s.l.length)))=true then(.ref [nI s.a,bT s.bad]:Tree)else .sc undef,if((!s.bad)&&(decide (s.a<s.l.length)))=true then(nI s.a:Tree)else .sc undef,if((!s.bad)&&(decide (s.a<s.l.length)))=true then(.ref [nI s.nxt.k,sT s.nxt.x]:Tree)else .sc undef,if((!s.bad)&&(decide (s.a<s.l.length)))=true then(.ref [nI s.nxt.k,sT s.nxt.x]:Tree)else .sc undef,if((!s.bad)&&(decide (s.a<s.l.length)))=true then(nI s.nxt.k:Tree)else .sc undef,if((!s.bad)&&(decide (s.a<s.l.length)))=true then(bT (decide (s.nxt.k≠3)):Tree)else .sc undef,bT (((!s.bad)&&(decide (s.a<s.l.length)))&&(decide (s.nxt.k≠3))),bT (((!s.bad)&&(decide (s.a<s.l.length)))&&(decide (s.nxt.k≠3))),if(((!s.bad)&&(decide (s.a<s.l.length)))&&(decide (s.nxt.k≠3)))=true then(.ref [.sl (s.l.map Tok.tree),nI s.a,bT s.bad]:Tree)else .sc undef,if(((!s.bad)&&(decide (s.a<s.l.length)))&&(decide (s.nxt.k≠3)))=true then(.ref [.sl (s.l.map Tok.tree),nI s.a,bT s.bad]:Tree)else .sc undef,if(((!s.bad)&&(decide (s.a<s.l.length)))&&(decide (s.nxt.k≠3)))=true then(.ref [.sl (s.l.map Tok.tree),nI s.a,bT s.bad]:Tree)else .sc undef,if(((!s.bad)&&(decide (s.a<s.l.length)))&&(decide (s.nxt.k≠3)))=true then(.sl (s.l.map Tok.tree):Tree)else .sc undef,if(((!s.bad)&&(decide (s.a<s.l.length)))&&(decide (s.nxt.k≠3)))=true then(.ref [.sl (s.l.map Tok.tree),nI s.a,bT s.bad]:Tree)else .sc undef,if(((!s.bad)&&(decide (s.a<s.l.length)))&&(decide (s.nxt.k≠3)))=true then(.ref [.sl (s.l.map Tok.tree),nI s.a,bT s.bad]:Tree)else .sc undef,if(((!s.bad)&&(decide (s.a<s.l.length)))&&(decide (s.nxt.k≠3)))=true then(.ref [nI s.a,bT s.bad]:Tree)else .sc undef,if(((!s.bad)&&(decide (s.a<s.l.length)))&&(decide (s.nxt.k≠3)))=true then(nI s.a:Tree)else .sc undef,if(((!s.bad)&&(decide (s.a<s.l.length)))&&(decide (s.nxt.k≠3)))=true then(.ref [nI s.nxt.k,sT s.nxt.x]:Tree)else .sc undef,if(((!s.bad)&&(decide (s.a<s.l.length)))&&(decide (s.nxt.k≠3)))=true then(.ref [nI s.nxt.k,sT s.nxt.x]:Tree)else .sc undef,if(((!s.bad)&&(decide (s.a<s.l.length)))&&(decide (s.nxt.k≠3)))=true then(nI s.nxt.k:Tree)else .sc undef,if(((!s.bad)&&(decide (s.a<s.l.length)))&&(decide (s.nxt.k≠3)))=true then(bT (decide (s.nxt.k≠2)):Tree)else .sc undef,bT ((((!s.bad)&&(decide (s.a<s.l.length)))&&(decide (s.nxt.k≠3)))&&(decide (s.nxt.k≠2))),bT ((((!s.bad)&&(decide (s.a<s.l.length)))&&(decide (s.nxt.k≠3)))&&(decide (s.nxt.k≠2))),if((((!s.bad)&&(decide (s.a<s.l.length)))&&(decide (s.nxt.k≠3)))&&(decide (s.nxt.k≠2)))=true then(.ref [.sl (s.l.map Tok.tree),nI s.a,bT s.bad]:Tree)else .sc undef,if((((!s.bad)&&(decide (s.a<s.l.length)))&&(decide (s.nxt.k≠3)))&&(decide (s.nxt.k≠2)))=true then(.ref [.sl (s.l.map Tok.tree),nI s.a,bT s.bad]:Tree)else .sc undef,if((((!s.bad)&&(decide (s.a<s.l.length)))&&(decide (s.nxt.k≠3)))&&(decide (s.nxt.k≠2)))=true then(.ref [.sl (s.l.map Tok.tree),nI s.a,bT s.bad]:Tree)else .sc undef,if((((!s.bad)&&(decide (s.a<s.l.length)))&&(decide (s.nxt.k≠3)))&&(decide (s.nxt.k≠2)))=true then(.sl (s.l.map Tok.tree):Tree)else .sc undef,if((((!s.bad)&&(decide (s.a<s.l.length)))&&(decide (s.nxt.k≠3)))&&(decide (s.nxt.k≠2)))=true then(.ref [.sl (s.l.map Tok.tree),nI s.a,bT s.bad]:Tree)else .sc undef,if((((!s.bad)&&(decide (s.a<s.l.length)))&&(decide (s.nxt.k≠3)))&&(decide (s.nxt.k≠2)))=true then(.ref [.sl (s.l.map Tok.tree),nI s.a,bT s.bad]:Tree)else .sc undef,if((((!s.bad)&&(decide (s.a<s.l.length)))&&(decide (s.nxt.k≠3)))&&(decide (s.nxt.k≠2)))=true then(.ref [nI s.a,bT s.bad]:Tree)else .sc undef,if((((!s.bad)&&(decide (s.a<s.l.length)))&&(decide (s.nxt.k≠3)))&&(decide (s.nxt.k≠2)))=true then(nI s.a:Tree)else .sc undef,if((((!s.bad)&&(decide (s.a<s.l.length)))&&(decide (s.nxt.k≠3)))&&(decide (s.nxt.k≠2)))=true then(.ref [nI s.nxt.k,sT s.nxt.x]:Tree)else .sc undef,if((((!s.bad)&&(decide (s.a<s.l.length)))&&(decide (s.nxt.k≠3)))&&(decide (s.nxt.k≠2)))=true then(.ref [sT s.nxt.x]:Tree)else .sc undef,if((((!s.bad)&&(decide (s.a<s.l.length)))&&(decide (s.nxt.k≠3)))&&(decide (s.nxt.k≠2)))=true then(sT s.nxt.x:Tree)else .sc undef,if((((!s.bad)&&(decide (s.a<s.l.length)))&&(decide (s.nxt.k≠3)))&&(decide (s.nxt.k≠2)))=true then(sT x:Tree)else .sc undef,if((((!s.bad)&&(decide (s.a<s.l.length)))&&(decide (s.nxt.k≠3)))&&(decide (s.nxt.k≠2)))=true then(bT (decide (s.nxt.x=x)):Tree)else .sc undef,bT (((((!s.bad)&&(decide (s.a<s.l.length)))&&(decide (s.nxt.k≠3)))&&(decide (s.nxt.k≠2)))&&(decide (s.nxt.x=x))),bT (((((!s.bad)&&(decide (s.a<s.l.length)))&&(decide (s.nxt.k≠3)))&&(decide (s.nxt.k≠2)))&&(decide (s.nxt.x=x)))] U Z Z U Z ?_ ?_
 ·refine Chain.op Z (E Z Z)<|Chain.op Z (bG Z Z)<|Chain.op Z (be Z Z fV Z)<|Chain.op Z (aX Z Z eC Z)<|Chain.op Z (dl Z Z Zy)<|Chain.op Z (E Z Z)<|aq Z Z Z (λb=>E Z Z)<|aq Z Z Z (λb=>bG Z (if_pos b))<|aq Z Z Z (λb=>be Z (if_pos b) cZ Z)<|aq Z Z Z (λb=>aX Z (if_pos b) cv Z)<|aq Z Z Z (λb=>E Z Z)<|aq Z Z Z (λb=>bG Z (if_pos b))<|aq Z Z Z (λb=>be Z (if_pos b) cY Z)<|aq Z Z Z (λb=>aX Z (if_pos b) el Z)<|aq Z Z Z (λb=>av (iU Z cz (if_pos b)) (by simp only[Qr]))<|aq Z Z Z (λb=>av (aL Z (if_pos b) (if_pos b) (λ_=>rfl)) (D (iL s.a s.l.length)))<|Chain.op Z (bR Z Z Z Z)<|Chain.op Z (E Z Z)<|aq Z Z Z (λb=>E Z Z)<|aq Z Z Z (λb=>bG Z (if_pos b))<|aq Z Z Z (λb=>be Z (if_pos b) cY Z)<|aq Z Z Z (λb=>aX Z (if_pos b) el Z)<|aq Z Z Z (λb=>E Z Z)<|aq Z Z Z (λb=>bG Z (if_pos b))<|aq Z Z Z (λb=>be Z (if_pos b) cZ Z)<|aq Z Z Z (λb=>aX Z (if_pos b) cv Z)<|aq Z Z Z (λb=>aY (Tok.tree s.nxt) Z cz (if_pos b) (if_pos b) Z (bi (f:=Tok.tree) (by first|exact Gm b|exact Gn b|exact J9 b)) (gi _) Z)<|aq Z Z Z (λb=>be Z (if_pos b) hZ Z)<|aq Z Z Z (λb=>aX Z (if_pos b) cv Z)<|aq Z Z Z (λb=>av (aL Z (if_pos b) Z (λ_=>rfl)) (D (qj s.nxt.k 3)))<|Chain.op Z (bR Z Z Z Z)<|Chain.op Z (E Z Z)<|aq Z Z Z (λb=>E Z Z)<|aq Z Z Z (λb=>bG Z (if_pos b))<|aq Z Z Z (λb=>be Z (if_pos b) cY Z)<|aq Z Z Z (λb=>aX Z (if_pos b) el Z)<|aq Z Z Z (λb=>E Z Z)<|aq Z Z Z (λb=>bG Z (if_pos b))<|aq Z Z Z (λb=>be Z (if_pos b) cZ Z)<|aq Z Z Z (λb=>aX Z (if_pos b) cv Z)<|aq Z Z Z (λb=>aY (Tok.tree s.nxt) Z cz (if_pos b) (if_pos b) Z (bi (f:=Tok.tree) (by first|exact Gm b|exact Gn b|exact J9 b)) (gi _) Z)<|aq Z Z Z (λb=>be Z (if_pos b) hZ Z)<|aq Z Z Z (λb=>aX Z (if_pos b) cv Z)<|aq Z Z Z (λb=>av (aL Z (if_pos b) Z (λ_=>rfl)) (D (qj s.nxt.k 2)))<|Chain.op Z (bR Z Z Z Z)<|Chain.op Z (E Z Z)<|aq Z Z Z (λb=>E Z Z)<|aq Z Z Z (λb=>bG Z (if_pos b))<|aq Z Z Z (λb=>be Z (if_pos b) cY Z)<|aq Z Z Z (λb=>aX Z (if_pos b) el Z)<|aq Z Z Z (λb=>E Z Z)<|aq Z Z Z (λb=>bG Z (if_pos b))<|aq Z Z Z (λb=>be Z (if_pos b) cZ Z)<|aq Z Z Z (λb=>aX Z (if_pos b) cv Z)<|aq Z Z Z (λb=>aY (Tok.tree s.nxt) Z cz (if_pos b) (if_pos b) Z (bi (f:=Tok.tree) (by first|exact Gm b|exact Gn b|exact J9 b)) (gi _) Z)<|aq Z Z Z (λb=>be Z (if_pos b) mS Z)<|aq Z Z Z (λb=>aX Z (if_pos b) dL Z)<|aq Z Z Z (λb=>E Z Z)<|aq Z Z Z (λb=>av (aL Z (if_pos b) (if_pos b) (λ_=>rfl)) (D (aM _ _)))<|Chain.op Z (bR Z Z Z Z)<|Chain.op Z (b7 Z Z)<|Chain.nil
 exact aV ⟨Z,eI (Na c),Z⟩ Z
def wg(s:PS)(x:ByteArray)(c:x≠b9)(hl:s.l.length<=1073741824)(b:s.a<=s.l.length):CtV 44 101 s.cells [sT x] (bT (aI x s.nxt)):=.of_ct (Gq s x c hl b) Z
def Nb(s:PS)(k:Nat)(c:k≠0)(hl:s.l.length<=1073741824)(d:s.a<=s.l.length):Ct 238 [.ref s.cells,nI k] (bT (decide (s.nxt.k=k))):=by
 refine Ct.of (n:=37) func238 Z Z Z Z Z λw0 G0=>?_
 refine N 1 Z<|Y<|cu (fu:=1) _ [.ref [.sl (s.l.map Tok.tree),nI s.a,bT s.bad],.ref [.sl (s.l.map Tok.tree),nI s.a,bT s.bad],.ref [bT s.bad],bT s.bad,bT (!s.bad),bT (!s.bad),if(!s.bad)=true then(.ref [.sl (s.l.map Tok.tree),nI s.a,bT s.bad]:Tree)else .sc undef,if(!s.bad)=true then(.ref [.sl (s.l.map Tok.tree),nI s.a,bT s.bad]:Tree)else .sc undef,if(!s.bad)=true then(.ref [nI s.a,bT s.bad]:Tree)else .sc undef,if(!s.bad)=true then(nI s.a:Tree)else .sc undef,if(!s.bad)=true then(.ref [.sl (s.l.map Tok.tree),nI s.a,bT s.bad]:Tree)else .sc undef,if(!s.bad)=true then(.ref [.sl (s.l.map Tok.tree),nI s.a,bT s.bad]:Tree)else .sc undef,if(!s.bad)=true then(.ref [.sl (s.l.map Tok.tree),nI s.a,bT s.bad]:Tree)else .sc undef,if(!s.bad)=true then(.sl (s.l.map Tok.tree):Tree)else .sc undef,if(!s.bad)=true then(nI s.l.length:Tree)else .sc undef,if(!s.bad)=true then(bT (decide (s.a<s.l.length)):Tree)else .sc undef,bT ((!s.bad)&&(decide (s.a<s.l.length))),bT ((!s.bad)&&(decide (s.a<s.l.length))),if((!s.bad)&&(decide (s.a<s.l.length)))=true then(.ref [.sl (s.l.map Tok.tree),nI s.a,bT s.bad]:Tree)else .sc undef,if((!s.bad)&&(decide (s.a<s.l.length)))=true then(.ref [.sl (s.l.map Tok.tree),nI s.a,bT s.bad]:Tree)else .sc undef,if((!s.bad)&&(decide (s.a<s.l.length)))=true then(.ref [.sl (s.l.map Tok.tree),nI s.a,bT s.bad]:Tree)else .sc undef,if((!s.bad)&&(decide (s.a<s.l.length)))=true then(.sl (s.l.map Tok.tree):Tree)else .sc undef,if((!s.bad)&&(decide (s.a<s.l.length)))=true then(.ref [.sl (s.l.map Tok.tree),nI s.a,bT s.bad]:Tree)else .sc undef,if((!s.bad)&&(decide (s.a<s.l.length)))=true then(.ref [.sl (s.l.map Tok.tree),nI s.a,bT s.bad]:Tree)else .sc undef,if((!s.bad)&&(decide (s.a<s.l.length)))=true then(.ref [nI s.a,bT s.bad]:Tree)else .sc undef,if((!s.bad)&&(decide (s.a<s.l.length)))=true then(nI s.a:Tree)else .sc undef,if((!s.bad)&&(decide (s.a<s.l.length)))=true then(.ref [nI s.nxt.k,sT s.nxt.x]:Tree)else .sc undef,if((!s.bad)&&(decide (s.a<s.l.length)))=true then(.ref [nI s.nxt.k,sT s.nxt.x]:Tree)else .sc undef,if((!s.bad)&&(decide (s.a<s.l.length)))=true then(nI s.nxt.k:Tree)else .sc undef,if((!s.bad)&&(decide (s.a<s.l.length)))=true then(nI k:Tree)else .sc undef,if((!s.bad)&&(decide (s.a<s.l.length)))=true then(bT (decide (s.nxt.k=k)):Tree)else .sc undef,bT (((!s.bad)&&(decide (s.a<s.l.length)))&&(decide (s.nxt.k=k))),bT (((!s.bad)&&(decide (s.a<s.l.length)))&&(decide (s.nxt.k=k)))] U Z Z U Z ?_ ?_
 ·refine Chain.op Z (E Z Z)<|Chain.op Z (bG Z Z)<|Chain.op Z (be Z Z fV Z)<|Chain.op Z (aX Z Z eC Z)<|Chain.op Z (dl Z Z Zy)<|Chain.op Z (E Z Z)<|aq Z Z Z (λb=>E Z Z)<|aq Z Z Z (λb=>bG Z (if_pos b))<|aq Z Z Z (λb=>be Z (if_pos b) cZ Z)<|aq Z Z Z (λb=>aX Z (if_pos b) cv Z)<|aq Z Z Z (λb=>E Z Z)<|aq Z Z Z (λb=>bG Z (if_pos b))<|aq Z Z Z (λb=>be Z (if_pos b) cY Z)<|aq Z Z Z (λb=>aX Z (if_pos b) el Z)<|aq Z Z Z (λb=>av (iU Z cz (if_pos b)) (by simp only[Qr]))<|aq Z Z Z (λb=>av (aL Z (if_pos b) (if_pos b) (λ_=>rfl)) (D (iL s.a s.l.length)))<|Chain.op Z (bR Z Z Z Z)<|Chain.op Z (E Z Z)<|aq Z Z Z (λb=>E Z Z)<|aq Z Z Z (λb=>bG Z (if_pos b))<|aq Z Z Z (λb=>be Z (if_pos b) cY Z)<|aq Z Z Z (λb=>aX Z (if_pos b) el Z)<|aq Z Z Z (λb=>E Z Z)<|aq Z Z Z (λb=>bG Z (if_pos b))<|aq Z Z Z (λb=>be Z (if_pos b) cZ Z)<|aq Z Z Z (λb=>aX Z (if_pos b) cv Z)<|aq Z Z Z (λb=>aY (Tok.tree s.nxt) Z cz (if_pos b) (if_pos b) Z (bi (f:=Tok.tree) (by first|exact Gm b|exact Gn b|exact J9 b)) (gi _) Z)<|aq Z Z Z (λb=>be Z (if_pos b) hZ Z)<|aq Z Z Z (λb=>aX Z (if_pos b) cv Z)<|aq Z Z Z (λb=>E Z Z)<|aq Z Z Z (λb=>av (aL Z (if_pos b) (if_pos b) (λ_=>rfl)) (D (e9 s.nxt.k k)))<|Chain.op Z (bR Z Z Z Z)<|Chain.op Z (b7 Z Z)<|Chain.nil
 exact aV ⟨Z,eI (O2 c),Z⟩ Z
def LK(s:PS)(k:Nat)(c:k≠0)(hl:s.l.length<=1073741824)(b:s.a<=s.l.length):CtV 238 101 s.cells [nI k] (bT (decide (s.nxt.k=k))):=.of_ct (Nb s k c hl b) Z
def Gr(s:PS):Ct 48 [.ref s.cells] (bT s.fin):=by
 refine Ct.of (n:=20) func48 Z Z Z Z Z λw0 G0=>?_
 refine N 1 Z<|Y<|cu (fu:=18) _ [.ref [.sl (s.l.map Tok.tree),nI s.a,bT s.bad],.ref [.sl (s.l.map Tok.tree),nI s.a,bT s.bad],.ref [bT s.bad],bT s.bad,bT (!s.bad),bT (!s.bad),if(!s.bad)=true then(.ref [.sl (s.l.map Tok.tree),nI s.a,bT s.bad]:Tree)else .sc undef,if(!s.bad)=true then(.ref [.sl (s.l.map Tok.tree),nI s.a,bT s.bad]:Tree)else .sc undef,if(!s.bad)=true then(.ref [nI s.a,bT s.bad]:Tree)else .sc undef,if(!s.bad)=true then(nI s.a:Tree)else .sc undef,if(!s.bad)=true then(.ref [.sl (s.l.map Tok.tree),nI s.a,bT s.bad]:Tree)else .sc undef,if(!s.bad)=true then(.ref [.sl (s.l.map Tok.tree),nI s.a,bT s.bad]:Tree)else .sc undef,if(!s.bad)=true then(.ref [.sl (s.l.map Tok.tree),nI s.a,bT s.bad]:Tree)else .sc undef,if(!s.bad)=true then(.sl (s.l.map Tok.tree):Tree)else .sc undef,if(!s.bad)=true then(nI s.l.length:Tree)else .sc undef,if(!s.bad)=true then(bT (decide (s.a=s.l.length)):Tree)else .sc undef,bT ((!s.bad)&&(decide (s.a=s.l.length))),bT ((!s.bad)&&(decide (s.a=s.l.length)))] U Z Z U Z ?_ ?_
 ·refine Chain.op Z (E Z Z)<|Chain.op Z (bG Z Z)<|Chain.op Z (be Z Z fV Z)<|Chain.op Z (aX Z Z eC Z)<|Chain.op Z (dl Z Z Zy)<|Chain.op Z (E Z Z)<|aq Z Z Z (λb=>E Z Z)<|aq Z Z Z (λb=>bG Z (if_pos b))<|aq Z Z Z (λb=>be Z (if_pos b) cZ Z)<|aq Z Z Z (λb=>aX Z (if_pos b) cv Z)<|aq Z Z Z (λb=>E Z Z)<|aq Z Z Z (λb=>bG Z (if_pos b))<|aq Z Z Z (λb=>be Z (if_pos b) cY Z)<|aq Z Z Z (λb=>aX Z (if_pos b) el Z)<|aq Z Z Z (λb=>av (iU Z cz (if_pos b)) (by simp only[Qr]))<|aq Z Z Z (λb=>av (aL Z (if_pos b) (if_pos b) (λ_=>rfl)) (D (e9 s.a s.l.length)))<|Chain.op Z (bR Z Z Z Z)<|Chain.op Z (b7 Z Z)<|Chain.nil
 exact aV ⟨Z,Z,Z⟩ Z
def CB(s:PS):CtV 48 101 s.cells [] (bT s.fin):=.of_ct (Gr s) Z
def gE(N:Nat)(s:PS)(h:PK N s)(x:ByteArray)(e:x≠b9):CtM 89 101 [.sl (s.l.map Tok.tree),nI s.a,bT s.bad] [sT x] (aa (aI x) s).2.cells (.sc (.bool (aa (aI x) s).1)):=by
 have d:=h.hl;have c:=h.ina;refine CtM.of (n:=16) func89 Z Z Z Z Z λw0 G0 f=>?_
 refine ar 1 Z<|Y<|M<|C 2 (t:=bT (aI x s.nxt)) Z (dS Z Z Z (wg s x e h.hl h.ina) Z Z Z)<|C 0 (t:=bT (!(aI x s.nxt))) Z (dl Z Z Zy)<|K<|aF Z (λb=>?_) (λb=>?_)
 ·refine ar 1 Z<|aO<|⟨⟨.inr Z,_,.cons Z .nil,eI (by rw[so (by simpa using b)]),Z⟩,by rw[so (by simpa using b)];rfl,Z⟩
 refine X<|M<|C 1 (t:=.box 0 0) Z (a6 Z Z)<|bA 2 (s.a+1) Z Z Zy O0<|C 0 (t:=.box 0 0) Z (a6 Z Z)<|H 2 Z<|ar 1 Z<|aO<|⟨⟨.inr Z,_,.cons Z .nil,eI (by rw[oH (by simpa using b)]),Z⟩,by rw[oH (by simpa using b)];rfl,Z⟩
def oS(N:Nat)(s:PS)(h:PK N s)(x:ByteArray)(e:x≠b9):CtM 46 101 [.sl (s.l.map Tok.tree),nI s.a,bT s.bad] [sT x] (ak (aI x) s).2.cells (.tup []):=by
 have d:=h.hl;have c:=h.ina;refine CtM.of (n:=11) func46 Z Z Z Z Z λw0 G0 f=>?_
 refine M<|ay 2 Z<|aH (r:=bT ((aa (aI x) s).1)) (bs':=[(101,[.sl (((aa (aI x) s).2.l).map Tok.tree),nI ((aa (aI x) s).2.a),bT ((aa (aI x) s).2.bad)])]) Z Z Z Z Z Z (gE N s h x e) Z Z Z Z<|C 0 (t:=bT (!((aa (aI x) s).1))) Z (dl Z Z Zy)<|K<|aF Z (λb=>?_) (λb=>?_)
 ·refine am<|C 1 (t:=.box 0 0) Z (a6 Z Z)<|H 2 Z<|⟨⟨.inl Z,_,.nil,Z,Z⟩,Cf b,Z⟩
 refine X<|⟨⟨.inl Z,_,.nil,Z,Z⟩,xZ b,Z⟩
def mv(N:Nat)(s:PS)(h:PK N s)(k:Nat)(g:k≠0):CtM 142 101 [.sl (s.l.map Tok.tree),nI s.a,bT s.bad] [nI k] (bp k s).2.cells (.sc (.string (bp k s).1)):=by
 have j:=h.hl;have i:=h.ina;refine CtM.of (n:=58) func142 Z Z Z Z Z λw0 G0 o=>?_
 refine ar 1 Z<|Y<|Y<|cu (fu:=1) _ [.box 0 0,.box 0 0,.box 0 2,bT s.bad,bT s.bad,if s.bad=false then(.box 0 0:Tree)else .sc undef,if s.bad=false then(.box 0 0:Tree)else .sc undef,if s.bad=false then(.box 0 1:Tree)else .sc undef,if s.bad=false then(nI s.a:Tree)else .sc undef,if s.bad=false then(.box 0 0:Tree)else .sc undef,if s.bad=false then(.box 0 0:Tree)else .sc undef,if s.bad=false then(.box 0 0:Tree)else .sc undef,if s.bad=false then(.sl (s.l.map Tok.tree):Tree)else .sc undef,if s.bad=false then(nI s.l.length:Tree)else .sc undef,if s.bad=false then(bT (decide (s.l.length<=s.a)):Tree)else .sc undef,bT (s.bad||(decide (s.l.length<=s.a))),bT (s.bad||(decide (s.l.length<=s.a))),if(s.bad||(decide (s.l.length<=s.a)))=false then(.box 0 0:Tree)else .sc undef,if(s.bad||(decide (s.l.length<=s.a)))=false then(.box 0 0:Tree)else .sc undef,if(s.bad||(decide (s.l.length<=s.a)))=false then(.box 0 0:Tree)else .sc undef,if(s.bad||(decide (s.l.length<=s.a)))=false then(.sl (s.l.map Tok.tree):Tree)else .sc undef,if(s.bad||(decide (s.l.length<=s.a)))=false then(.box 0 0:Tree)else .sc undef,if(s.bad||(decide (s.l.length<=s.a)))=false then(.box 0 0:Tree)else .sc undef,if(s.bad||(decide (s.l.length<=s.a)))=false then(.box 0 1:Tree)else .sc undef,if(s.bad||(decide (s.l.length<=s.a)))=false then(nI s.a:Tree)else .sc undef,if(s.bad||(decide (s.l.length<=s.a)))=false then(.ref [nI s.nxt.k,sT s.nxt.x]:Tree)else .sc undef,if(s.bad||(decide (s.l.length<=s.a)))=false then(.ref [nI s.nxt.k,sT s.nxt.x]:Tree)else .sc undef,if(s.bad||(decide (s.l.length<=s.a)))=false then(nI s.nxt.k:Tree)else .sc undef,if(s.bad||(decide (s.l.length<=s.a)))=false then(nI k:Tree)else .sc undef,if(s.bad||(decide (s.l.length<=s.a)))=false then(bT (decide (s.nxt.k≠k)):Tree)else .sc undef,bT ((s.bad||(decide (s.l.length<=s.a)))||(decide (s.nxt.k≠k)))] U0 Z Z U0 Z ?_ ?_
 ·refine Chain.op Z (E Z Z)<|Chain.op Z (a6 Z Z)<|Chain.op Z (ao Z Z fV Z)<|Chain.op Z (aA Z Z Z eC Z)<|Chain.op Z (E Z Z)<|aq Z Z Z (λb=>E Z Z)<|aq Z Z Z (λb=>a6 Z (if_pos b))<|aq Z Z Z (λb=>ao Z (if_pos b) cZ Z)<|aq Z Z Z (λb=>aA Z (if_pos b) Z cv Z)<|aq Z Z Z (λb=>E Z Z)<|aq Z Z Z (λb=>a6 Z (if_pos b))<|aq Z Z Z (λb=>ao Z (if_pos b) cY Z)<|aq Z Z Z (λb=>aA Z (if_pos b) Z el Z)<|aq Z Z Z (λb=>av (iU Z cz (if_pos b)) (by simp only[Qr]))<|aq Z Z Z (λb=>av (aL Z (if_pos b) (if_pos b) (λ_=>rfl)) (D (Ls s.a s.l.length)))<|Chain.op Z (eo Z Z Z Z)<|Chain.op Z (E Z Z)<|aq Z Z Z (λb=>E Z Z)<|aq Z Z Z (λb=>a6 Z (if_pos b))<|aq Z Z Z (λb=>ao Z (if_pos b) cY Z)<|aq Z Z Z (λb=>aA Z (if_pos b) Z el Z)<|aq Z Z Z (λb=>E Z Z)<|aq Z Z Z (λb=>a6 Z (if_pos b))<|aq Z Z Z (λb=>ao Z (if_pos b) cZ Z)<|aq Z Z Z (λb=>aA Z (if_pos b) Z cv Z)<|aq Z Z Z (λb=>aY (Tok.tree s.nxt) Z cz (if_pos b) (if_pos b) Z (bi (f:=Tok.tree) (oG b).2.2) (gi _) Z)<|aq Z Z Z (λb=>be Z (if_pos b) hZ Z)<|aq Z Z Z (λb=>aX Z (if_pos b) cv Z)<|aq Z Z Z (λb=>E Z Z)<|aq Z Z Z (λb=>av (aL Z (if_pos b) (if_pos b) (λ_=>rfl)) (D (qj s.nxt.k k)))<|Chain.op Z (eo Z Z Z Z)<|Chain.nil
 refine aF Z (λc=>?_) (λc=>?_)
 ·refine M<|C 1 (t:=.box 0 0) Z (a6 Z Z)<|H 2 Z<|ar 1 Z<|aO<|⟨⟨.inr Z,_,.cons Z .nil,cT (by rw[P8 g c];rfl),Z⟩,je (P8 g c),Z⟩
 obtain⟨d,m,e⟩:=Qe c;refine X<|M<|C 1 (t:=.box 0 0) Z (a6 Z Z)<|bA 2 (s.a+1) Z Z Zy O0<|C 0 (t:=.box 0 0) Z (a6 Z Z)<|H 2 Z<|Y<|cu (fu:=13) _ [.box 0 0,.box 0 0,.box 0 0,.sl (s.l.map Tok.tree),.box 0 0,.box 0 0,.box 0 1,nI (s.a+1),nI ((s.a+1)-1),.ref [nI s.nxt.k,sT s.nxt.x],.ref [sT s.nxt.x],sT s.nxt.x,sT s.nxt.x] U0 Z Z U0 Z ?_ ?_
 ·refine Chain.op Z (E Z Z)<|Chain.op Z (a6 Z Z)<|Chain.op Z (ao Z Z cY Z)<|Chain.op Z (aA Z Z Z el Z)<|Chain.op Z (E Z Z)<|Chain.op Z (a6 Z Z)<|Chain.op Z (ao Z Z cZ Z)<|Chain.op Z (aA Z Z Z cv Z)<|Chain.op Z (av (aL Z Z Z Zy) (jy O0))<|Chain.op Z (aY (Tok.tree s.nxt) Z cz Z Z Z (bi (f:=Tok.tree) e) (gi _) Z)<|Chain.op Z (be Z Z mS Z)<|Chain.op Z (aX Z Z dL Z)<|Chain.op Z (b7 Z Z)<|Chain.nil
 refine aO<|⟨⟨.inr Z,_,.cons Z .nil,cT (by rw[d]),Z⟩,je d,Z⟩
def Gs(s:ByteArray):Ct 143 [sT s] (bT (io s)):=by
 refine Ct.of (n:=29) func143 Z Z Z Z Z λw0 G0=>?_
 refine N 1 Z<|Y<|N 1 Z<|aG<|Y<|jZ ⟨29,[(4,bT (io s))],[],[]⟩ 0 0 ?_ ?_
 ·refine M<|aB 0 (t:=bT (decide (s=(⟨#[114,101,108,97,116,105,111,110]⟩:ByteArray)))) Z Z Zy (D (aM _ _))<|H 1 Z<|an Z (λq=>?_) (λq=>?_)
  ·refine X<|⟨Z,Z,Z,.cons (eI (by rw[q];decide+kernel)) Z .nil,Z⟩
  refine M<|aB 0 (t:=bT (decide (s=(⟨#[99,101,114,116,97,105,110]⟩:ByteArray)))) Z Z Zy (D (aM _ _))<|H 1 Z<|an Z (λr=>?_) (λr=>?_)
  ·refine X<|⟨Z,Z,Z,.cons (eI (by rw[r];decide+kernel)) Z .nil,Z⟩
  refine M<|aB 0 (t:=bT (decide (s=(⟨#[116,117,112,108,101]⟩:ByteArray)))) Z Z Zy (D (aM _ _))<|H 1 Z<|an Z (λu=>?_) (λu=>?_)
  ·refine X<|⟨Z,Z,Z,.cons (eI (by rw[u];decide+kernel)) Z .nil,Z⟩
  refine M<|aB 0 (t:=bT (decide (s=(⟨#[107,101,121]⟩:ByteArray)))) Z Z Zy (D (aM _ _))<|H 1 Z<|an Z (λv=>?_) (λv=>?_)
  ·refine X<|⟨Z,Z,Z,.cons (eI (by rw[v];decide+kernel)) Z .nil,Z⟩
  refine M<|aB 0 (t:=bT (decide (s=(⟨#[114,117,108,101]⟩:ByteArray)))) Z Z Zy (D (aM _ _))<|H 1 Z<|an Z (λw=>?_) (λw=>?_)
  ·refine X<|⟨Z,Z,Z,.cons (eI (by rw[w];decide+kernel)) Z .nil,Z⟩
  refine M<|aB 0 (t:=bT (decide (s=(⟨#[105,109,112,108,105,101,115]⟩:ByteArray)))) Z Z Zy (D (aM _ _))<|H 1 Z<|an Z (λx=>?_) (λx=>?_)
  ·refine X<|⟨Z,Z,Z,.cons (eI (by rw[x];decide+kernel)) Z .nil,Z⟩
  refine M<|aB 0 (t:=bT (decide (s=(⟨#[111,114]⟩:ByteArray)))) Z Z Zy (D (aM _ _))<|H 1 Z<|an Z (λy=>?_) (λy=>?_)
  ·refine X<|⟨Z,Z,Z,.cons (eI (by rw[y];decide+kernel)) Z .nil,Z⟩
  refine M<|aB 0 (t:=bT (decide (s=(⟨#[99,111,117,110,116]⟩:ByteArray)))) Z Z Zy (D (aM _ _))<|H 1 Z<|an Z (λz=>?_) (λz=>?_)
  ·refine X<|⟨Z,Z,Z,.cons (eI (by rw[z];decide+kernel)) Z .nil,Z⟩
  refine M<|aB 0 (t:=bT (decide (s=(⟨#[116,111]⟩:ByteArray)))) Z Z Zy (D (aM _ _))<|H 1 Z<|an Z (λA=>?_) (λA=>?_)
  ·refine X<|⟨Z,Z,Z,.cons (eI (by rw[A];decide+kernel)) Z .nil,Z⟩
  refine M<|aB 0 (t:=bT (decide (s=(⟨#[111,102]⟩:ByteArray)))) Z Z Zy (D (aM _ _))<|H 1 Z<|an Z (λa=>?_) (λa=>?_)
  ·refine X<|⟨Z,Z,Z,.cons (eI (by rw[a];decide+kernel)) Z .nil,Z⟩
  refine M<|aB 0 (t:=bT (decide (s=(⟨#[102,97,99,116,111,114]⟩:ByteArray)))) Z Z Zy (D (aM _ _))<|H 1 Z<|an Z (λb=>?_) (λb=>?_)
  ·refine X<|⟨Z,Z,Z,.cons (eI (by rw[b];decide+kernel)) Z .nil,Z⟩
  refine M<|aB 0 (t:=bT (decide (s=(⟨#[102,111,114]⟩:ByteArray)))) Z Z Zy (D (aM _ _))<|H 1 Z<|an Z (λc=>?_) (λc=>?_)
  ·refine X<|⟨Z,Z,Z,.cons (eI (by rw[c];decide+kernel)) Z .nil,Z⟩
  refine M<|aB 0 (t:=bT (decide (s=(⟨#[111,98,115,101,114,118,101]⟩:ByteArray)))) Z Z Zy (D (aM _ _))<|H 1 Z<|an Z (λd=>?_) (λd=>?_)
  ·refine X<|⟨Z,Z,Z,.cons (eI (by rw[d];decide+kernel)) Z .nil,Z⟩
  refine M<|aB 0 (t:=bT (decide (s=(⟨#[100,101,110,121]⟩:ByteArray)))) Z Z Zy (D (aM _ _))<|H 1 Z<|an Z (λe=>?_) (λe=>?_)
  ·refine X<|⟨Z,Z,Z,.cons (eI (by rw[e];decide+kernel)) Z .nil,Z⟩
  refine M<|aB 0 (t:=bT (decide (s=(⟨#[97,115,107]⟩:ByteArray)))) Z Z Zy (D (aM _ _))<|H 1 Z<|an Z (λf=>?_) (λf=>?_)
  ·refine X<|⟨Z,Z,Z,.cons (eI (by rw[f];decide+kernel)) Z .nil,Z⟩
  refine M<|aB 0 (t:=bT (decide (s=(⟨#[112,114,111,98,97,98,105,108,105,116,121]⟩:ByteArray)))) Z Z Zy (D (aM _ _))<|H 1 Z<|an Z (λg=>?_) (λg=>?_)
  ·refine X<|⟨Z,Z,Z,.cons (eI (by rw[g];decide+kernel)) Z .nil,Z⟩
  refine M<|aB 0 (t:=bT (decide (s=(⟨#[115,117,109]⟩:ByteArray)))) Z Z Zy (D (aM _ _))<|H 1 Z<|an Z (λh=>?_) (λh=>?_)
  ·refine X<|⟨Z,Z,Z,.cons (eI (by rw[h];decide+kernel)) Z .nil,Z⟩
  refine M<|aB 0 (t:=bT (decide (s=(⟨#[116,104,114,101,115,104,111,108,100]⟩:ByteArray)))) Z Z Zy (D (aM _ _))<|H 1 Z<|an Z (λi=>?_) (λi=>?_)
  ·refine X<|⟨Z,Z,Z,.cons (eI (by rw[i];decide+kernel)) Z .nil,Z⟩
  refine M<|aB 0 (t:=bT (decide (s=(⟨#[116,111,112]⟩:ByteArray)))) Z Z Zy (D (aM _ _))<|H 1 Z<|an Z (λj=>?_) (λj=>?_)
  ·refine X<|⟨Z,Z,Z,.cons (eI (by rw[j];decide+kernel)) Z .nil,Z⟩
  refine M<|aB 0 (t:=bT (decide (s=(⟨#[116,114,117,101]⟩:ByteArray)))) Z Z Zy (D (aM _ _))<|H 1 Z<|an Z (λk=>?_) (λk=>?_)
  ·refine X<|⟨Z,Z,Z,.cons (eI (by rw[k];decide+kernel)) Z .nil,Z⟩
  refine M<|aB 0 (t:=bT (decide (s=(⟨#[102,97,108,115,101]⟩:ByteArray)))) Z Z Zy (D (aM _ _))<|H 1 Z<|an Z (λl=>?_) (λl=>?_)
  ·refine X<|⟨Z,Z,Z,.cons (eI (by rw[l];decide+kernel)) Z .nil,Z⟩
  refine M<|aB 0 (t:=bT (decide (s=(⟨#[110,111,116]⟩:ByteArray)))) Z Z Zy (D (aM _ _))<|H 1 Z<|an Z (λm=>?_) (λm=>?_)
  ·refine X<|⟨Z,Z,Z,.cons (eI (by rw[m];decide+kernel)) Z .nil,Z⟩
  refine M<|aB 0 (t:=bT (decide (s=(⟨#[105,110,116]⟩:ByteArray)))) Z Z Zy (D (aM _ _))<|H 1 Z<|an Z (λo=>?_) (λo=>?_)
  ·refine X<|⟨Z,Z,Z,.cons (eI (by rw[o];decide+kernel)) Z .nil,Z⟩
  refine am<|aB 0 (t:=bT (decide (s=(⟨#[115,116,114,105,110,103]⟩:ByteArray)))) Z Z Zy (D (aM _ _))<|H 1 Z<|⟨Z,Z,Z,.cons (eI (by unfold io FJ;simp only[List.any_cons,List.any_nil,TI,Tg,decide_eq_false q,decide_eq_false r,decide_eq_false u,decide_eq_false v,decide_eq_false w,decide_eq_false x,decide_eq_false y,decide_eq_false z,decide_eq_false A,decide_eq_false a,decide_eq_false b,decide_eq_false c,decide_eq_false d,decide_eq_false e,decide_eq_false f,decide_eq_false g,decide_eq_false h,decide_eq_false i,decide_eq_false j,decide_eq_false k,decide_eq_false l,decide_eq_false m,decide_eq_false o])) Z .nil,Z⟩
 refine aF Z (λp=>?_) (λp=>?_)
 ·have B:=p;refine N 1 Z<|aV ⟨Z,eI B.symm,Z⟩ Z
 have B:=p;refine X<|N 1 Z<|aV ⟨Z,eI B.symm,Z⟩ Z
def qC(N:Nat)(s:PS)(h:PK N s):CtM 90 101 [.sl (s.l.map Tok.tree),nI s.a,bT s.bad] [] (bC s).2.cells (.sc (.string (bC s).1)):=by
 have d:=h.hl;have c:=h.ina;refine CtM.of (n:=12) func90 Z Z Z Z Z λw0 G0 e=>?_
 refine ar 1 Z<|M<|ay 1 Z<|aH (r:=sT ((bp 1 s).1)) (bs':=[(101,[.sl (((bp 1 s).2.l).map Tok.tree),nI ((bp 1 s).2.a),bT ((bp 1 s).2.bad)])]) Z Z Z Z Z Z (mv N s h 1 I0) Z Z Z Z<|H 1 Z<|Y<|M<|C 1 Z (aJ Z (Gs _) Z Z)<|K<|aF Z (λb=>?_) (λb=>?_)
 ·refine am<|C 1 (t:=.box 0 0) Z (a6 Z Z)<|H 2 Z<|ar 2 Z<|aO<|⟨⟨.inr Z,_,.cons Z .nil,cT (by rw[Cz b]),Z⟩,je (Cz b),Z⟩
 refine X<|ar 2 Z<|aO<|⟨⟨.inr Z,_,.cons Z .nil,cT (by rw[CA b]),Z⟩,by rw[CA b];rfl,Z⟩
def Nc(N:Nat)(s:PS)(h:PK N s):CtM 276 101 [.sl (s.l.map Tok.tree),nI s.a,bT s.bad] [] (kI s).2.cells (.sc (.int .i64 (kI s).1)):=by
 have e:=h.hl;have d:=h.ina;refine CtM.of (n:=18) func276 Z Z Z Z Z λw0 G0 f=>?_
 refine ar 1 Z<|Y ?_;rcases c:cM (bp 2 s).1 with _|v
 ·refine am<|ay 1 Z<|aH (r:=sT ((bp 2 s).1)) (bs':=[(101,[.sl (((bp 2 s).2.l).map Tok.tree),nI ((bp 2 s).2.a),bT ((bp 2 s).2.bad)])]) Z Z Z Z Z Z (mv N s h 2 I0) Z Z Z Z<|C 0 Z (aJ Z (ow _ (Qu (Gp h) I0) c) Z Z)<|H 6 Z<|Y<|M<|C 1 (t:=bT true) Z (dl Z Z Zy)<|K<|aF (b:=true) Z (λ_=>?_) (λh=>by cases h);refine am<|C 1 (t:=.box 0 0) Z (a6 Z Z)<|H 2 Z<|ar 3 Z<|aO<|⟨⟨.inr Z,_,.cons Z .nil,tK (by rw[uI c];rfl),Z⟩,je (uI c),Z⟩
 refine am<|ay 1 Z<|aH (r:=sT ((bp 2 s).1)) (bs':=[(101,[.sl (((bp 2 s).2.l).map Tok.tree),nI ((bp 2 s).2.a),bT ((bp 2 s).2.bad)])]) Z Z Z Z Z Z (mv N s h 2 I0) Z Z Z Z<|C 0 Z (aJ Z (ov _ v c) Z Z)<|H 6 Z<|Y<|M<|C 1 (t:=bT false) Z (dl Z Z Zy)<|K<|aF (b:=false) Z (λh=>by cases h) (λ_=>?_);refine X<|ar 3 Z<|aO<|⟨⟨.inr Z,_,.cons Z .nil,tK (by rw[uH c]),Z⟩,by rw[uH c];rfl,Z⟩
def Gt(N:Nat)(s:PS)(h:PK N s):CtM 239 101 [.sl (s.l.map Tok.tree),nI s.a,bT s.bad] [] (eD s).2.cells ((eD s).1.tree):=by
 have g:=h.hl;have f:=h.ina;refine CtM.of (n:=22) func239 Z Z Z Z Z λw0 G0 i=>?_
 refine ar 1 Z<|Y<|M<|C 1 (t:=bT (decide (s.nxt.k=3))) Z (dS Z Z Z (LK s 3 I0 h.hl h.ina) Z Z Z)<|K<|an Z (λe=>?_) (λe=>?_)
 ·have c:=e;refine Y ?_;rcases d:cM (bp 3 s).1 with _|v
  ·refine am<|ay 1 Z<|aH (r:=sT ((bp 3 s).1)) (bs':=[(101,[.sl (((bp 3 s).2.l).map Tok.tree),nI ((bp 3 s).2.a),bT ((bp 3 s).2.bad)]),(34,[iT 0,iT 0,sT (⟨#[]⟩)])]) Z Z Z Z Z Z (mv N s h 3 I0) Z Z Z Z<|C 0 Z (aJ Z (ow _ (Qu (Gp h) I0) d) Z Z)<|H 6 Z<|Y<|M<|C 1 (t:=bT true) Z (dl Z Z Zy)<|K<|aF (b:=true) Z (λ_=>?_) (λh=>by cases h);refine am<|C 1 (t:=.box 0 0) Z (a6 Z Z)<|H 2 Z<|ar 2 Z<|aO<|⟨⟨.inr Z,_,.cons (eZ Z Z gT Z) .nil,P6 (by rw[uK c d]),Z⟩,je (uK c d),Z⟩
  refine am<|ay 1 Z<|aH (r:=sT ((bp 3 s).1)) (bs':=[(101,[.sl (((bp 3 s).2.l).map Tok.tree),nI ((bp 3 s).2.a),bT ((bp 3 s).2.bad)]),(34,[iT 0,iT 0,sT (⟨#[]⟩)])]) Z Z Z Z Z Z (mv N s h 3 I0) Z Z Z Z<|C 0 Z (aJ Z (ov _ v d) Z Z)<|H 6 Z<|Y<|M<|C 1 (t:=bT false) Z (dl Z Z Zy)<|K<|aF (b:=false) Z (λh=>by cases h) (λ_=>?_);refine X<|ar 2 Z<|aO<|⟨⟨.inr Z,_,.cons (eZ Z Z gT Z) .nil,P6 (by rw[uJ c d]),Z⟩,by rw[uJ c d];rfl,Z⟩
 have c:=e;refine X<|M<|ay 1 Z<|aH (r:=iT ((kI s).1)) (bs':=[(101,[.sl (((kI s).2.l).map Tok.tree),nI ((kI s).2.a),bT ((kI s).2.bad)]),(34,[iT 0,iT 0,sT (⟨#[]⟩)])]) Z Z Z Z Z Z (Nc N s h) Z Z Z Z<|C 0 Z (aJ Z (Jz _) Z Z)<|H 1 Z<|aO<|⟨⟨.inr Z,_,.cons (eZ Z Z gT Z) .nil,(by rw[ym c];rfl),Z⟩,by rw[ym c];rfl,Z⟩
def qD(N:Nat)(s:PS)(h:PK N s):CtM 191 101 [.sl (s.l.map Tok.tree),nI s.a,bT s.bad] [] (ax s).2.cells ((ax s).1.tree):=by
 have e:=h.hl;have d:=h.ina;refine CtM.of (n:=11) func191 Z Z Z Z Z λw0 G0 f=>?_
 refine ar 1 Z<|Y<|M<|C 1 (t:=bT (decide (s.nxt.k=1))) Z (dS Z Z Z (LK s 1 I0 h.hl h.ina) Z Z Z)<|K<|an Z (λc=>?_) (λc=>?_)
 ·have b:decide (s.nxt.k=1)=true:=decide_eq_true c;refine M<|ay 1 Z<|aH (r:=sT ((bC s).1)) (bs':=[(101,[.sl (((bC s).2.l).map Tok.tree),nI ((bC s).2.a),bT ((bC s).2.bad)]),(146,[sT (⟨#[]⟩),iT 0,iT 0,sT (⟨#[]⟩)])]) Z Z Z Z Z Z (qC N s h) Z Z Z Z<|H 2 Z<|aO<|⟨⟨.inr Z,_,.cons (eZ Z Z bJ Z) .nil,(by unfold ax;rw[if_pos b];rfl),Z⟩,by unfold ax;rw[if_pos b];rfl,Z⟩
 have b:¬decide (s.nxt.k=1)=true:=by rw[decide_eq_false c];exact Qk
 refine X<|M<|ay 1 Z<|aH (r:=.agg [iT ((eD s).1.t),iT ((eD s).1.n),sT ((eD s).1.s)]) (bs':=[(101,[.sl (((eD s).2.l).map Tok.tree),nI ((eD s).2.a),bT ((eD s).2.bad)]),(146,[sT (⟨#[]⟩),iT 0,iT 0,sT (⟨#[]⟩)])]) Z Z Z Z Z Z (Gt N s h) Z Z Z Z<|H 2 Z<|aO<|⟨⟨.inr Z,_,.cons (eZ Z Z bJ Z) .nil,(by unfold ax;rw[if_neg b];rfl),Z⟩,by unfold ax;rw[if_neg b];rfl,Z⟩
def O3(N:Nat)(s:PS)(h:PK N s):CtM 192 101 [.sl (s.l.map Tok.tree),nI s.a,bT s.bad] [] (fG s).2.cells (nI ((fG s).1)):=by
 have g:=h.hl;have f:=h.ina;refine CtM.of (n:=16) func192 Z Z Z Z Z λw0 G0 i=>?_
 refine ar 1 Z<|Y<|M<|ay 1 Z<|aH (r:=sT ((bp 4 s).1)) (bs':=[(101,[.sl (((bp 4 s).2.l).map Tok.tree),nI ((bp 4 s).2.a),bT ((bp 4 s).2.bad)])]) Z Z Z Z Z Z (mv N s h 4 I0) Z Z Z Z<|K<|aG<|M<|aB 0 (t:=bT (decide ((bp 4 s).1=(⟨#[61]⟩:ByteArray)))) Z Z Zy (D (aM _ _))<|H 1 Z<|an Z (λb=>?_) (λb=>?_)
 ·refine ar 1 Z<|aO<|⟨⟨.inr Z,_,.cons Z .nil,jc (a:=1) (by rw[LG b]),Z⟩,dF (LG b),Z⟩
 refine M<|aB 0 (t:=bT (decide ((bp 4 s).1=(⟨#[33,61]⟩:ByteArray)))) Z Z Zy (D (aM _ _))<|H 1 Z<|an Z (λc=>?_) (λc=>?_)
 ·refine ar 1 Z<|aO<|⟨⟨.inr Z,_,.cons Z .nil,jc (a:=2) (by rw[LH c]),Z⟩,dF (LH c),Z⟩
 refine M<|aB 0 (t:=bT (decide ((bp 4 s).1=(⟨#[60]⟩:ByteArray)))) Z Z Zy (D (aM _ _))<|H 1 Z<|an Z (λd=>?_) (λd=>?_)
 ·refine ar 1 Z<|aO<|⟨⟨.inr Z,_,.cons Z .nil,jc (a:=3) (by rw[LI d]),Z⟩,dF (LI d),Z⟩
 refine M<|aB 0 (t:=bT (decide ((bp 4 s).1=(⟨#[60,61]⟩:ByteArray)))) Z Z Zy (D (aM _ _))<|H 1 Z<|an Z (λe=>?_) (λe=>?_)
 ·refine ar 1 Z<|aO<|⟨⟨.inr Z,_,.cons Z .nil,jc (a:=4) (by rw[LJ e]),Z⟩,dF (LJ e),Z⟩
 refine X<|M<|C 1 (t:=.box 0 0) Z (a6 Z Z)<|H 2 Z<|ar 1 Z<|aO<|⟨⟨.inr Z,_,.cons Z .nil,jc (a:=0) (by rw[yn b c d e]),Z⟩,je (yn b c d e),Z⟩
