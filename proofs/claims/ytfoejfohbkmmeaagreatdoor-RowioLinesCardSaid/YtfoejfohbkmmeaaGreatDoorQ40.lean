import Derived.Test.YtfoejfohbkmmeaaGreatDoorQ39
import Derived.Test.YtfoejfohbkmmeaaGreatDoorQ10
import Derived.Test.YtfoejfohbkmmeaaGreatDoorQ07
import Derived.Test.YtfoejfohbkmmeaaGreatDoorQ00
import Derived.Test.YtfoejfohbkmmeaaGreatDoorQ35
set_option maxRecDepth 100000
set_option maxHeartbeats 4000000
namespace Go.Proofs.YtfoejfohbkmmeaaGreatDoor
open Go.RowKit
open Lib renaming hid→J
def gi(x:Int):Tree:=.sc (.int .i64 x)
theorem nS(l:List Int):Sized 1 (l.map gi):=Sized.map _ l fun _=>rfl
theorem DJ(l:List Rel):Sized 4 (l.map Rel.tree):=Sized.map _ l fun _=>rfl
theorem pU(l:List Sch):Sized 3 (l.map Sch.tree):=Sized.map _ l fun _=>rfl
def tr:List Int:=[1,1,2,1,1,0,3,1]
def qN:List Int:=[2,3,3,4,1,1,5,7]
def gW:List Rat:=[cF false 1 2,cF false 1 3,cF false 2 3,cF false 1 4,cF false 1 1,cF false 0 1,cF false 3 5,cF false 1 7]
def bM(n:Nat):Rat:=cF ((decide (tr.getD (n%8) 0<0)) !=(decide (qN.getD (n%8) 0<0))) (tr.getD (n%8) 0).natAbs (qN.getD (n%8) 0).natAbs
theorem JD(n:Nat):n%8=0\/n%8=1\/n%8=2\/n%8=3\/n%8=4\/n%8=5\/n%8=6\/n%8=7:=by omega
theorem uU(n:Nat):bM n∈gW:=by
 unfold bM gW;rcases JD n with h|h|h|h|h|h|h|h<;>rw[h]<;>simp[tr,qN]
theorem wx(n:Nat):tr[n%8]? =some (tr.getD (n%8) 0)/\ -9223372036854775808<=tr.getD (n%8) 0/\tr.getD (n%8) 0<=9223372036854775807:=by
 rcases JD n with h|h|h|h|h|h|h|h<;>rw[h]<;>simp[tr]
theorem rj(n:Nat):qN[n%8]? =some (qN.getD (n%8) 0)/\ -9223372036854775808<=qN.getD (n%8) 0/\qN.getD (n%8) 0<=9223372036854775807/\qN.getD (n%8) 0≠0:=by
 rcases JD n with h|h|h|h|h|h|h|h<;>rw[h]<;>simp[qN]
def JE:Col:=⟨⟨#[97]⟩,1,false⟩
def KK:Col:=⟨⟨#[98]⟩,1,false⟩
def kO:List Sch:=[⟨⟨#[82]⟩,false,[JE,KK]⟩,⟨⟨#[83]⟩,false,[JE]⟩,⟨⟨#[75]⟩,false,[⟨⟨#[107]⟩,1,true⟩,⟨⟨#[118]⟩,1,false⟩]⟩,⟨⟨#[67]⟩,true,[JE,KK]⟩]
def gT:Sch:=⟨⟨#[78]⟩,false,[⟨⟨#[110,97,109,101]⟩,2,true⟩,⟨⟨#[110]⟩,1,false⟩]⟩
def bj:List ByteArray:=[⟨#[]⟩,⟨#[97]⟩,⟨#[105,116,39,115]⟩,⟨#[120,44,121,58,122]⟩,⟨#[32]⟩]
theorem kP(n:Nat):bj[n%5]? =some (bj.getD (n%5) ⟨#[]⟩)/\(bj.getD (n%5) ⟨#[]⟩).size<=5:=by
 have h:n%5=0\/n%5=1\/n%5=2\/n%5=3\/n%5=4:=by omega
 rcases h with h|h|h|h|h<;>rw[h]<;>exact⟨rfl,by decide⟩
structure Good (r:Rel):Prop where
 valid:bm r=0
 prob:∀t∈r.tups,t.prob∈gW
 str:FW r
 rng:∀t∈r.tups,∀v∈t.vals,v.rng
 len:r.tups.length<=3
 sch:r.sch∈kO\/r.sch=gT
theorem pV{q:Rat}(h:q∈gW):Fit 1 q/\0<=q/\q<=1/\(qM q.num.natAbs).size<=1/\(qM q.den).size<=1:=by
 unfold gW at h;simp only[Mi,N0,or_false]at h;rcases h with rfl|rfl|rfl|rfl|rfl|rfl|rfl|rfl<;>exact⟨⟨by decide+kernel,by decide+kernel⟩,by decide+kernel,by decide+kernel,by decide+kernel,by decide+kernel⟩
theorem lF{t:Tp}(h:t.prob∈gW):FitT t:=⟨(pV h).1.mono (by decide),(oS (a:=1) (b:=1) ⟨by decide,by decide⟩ (pV h).1).mono (by decide)⟩
theorem DK:(1:Rat)∈gW:=by
 have:(1:Rat)=cF false 1 1:=by decide+kernel
 rw[this];simp[gW]
theorem pW{s:Sch}(h:s∈kO\/s=gT):s.cols.length<=2/\fF s=true:=by
 unfold kO gT at h;simp only[Mi,N0,or_false]at h;rcases h with(rfl|rfl|rfl|rfl)|rfl<;>exact⟨by decide,by decide+kernel⟩
theorem Good.fit{r:Rel}(h:Good r):FitR r/\∀t∈r.tups,TxT t:=by
 have b:=qB h.valid;refine⟨⟨by have:=(pW h.sch).1;omega,by have:=h.len;omega,fun t a=>⟨lF (h.prob t a),by have:=b t a;omega⟩⟩,fun t a=>?_⟩;have c:=pV (h.prob t a);exact⟨h.rng t a,by omega,by omega⟩
def GoodK(s:Sch)(k:Nat)(r:Rel):Prop:=Good r/\r.sch=s/\r.tups.length<=k
theorem tu{s:Sch}(h:s∈kO\/s=gT):GoodK s 0 ⟨s,[]⟩:=by
 refine⟨{valid:=?_,prob:=fun t a=>(by cases a),str:=fun t a=>(by cases a),rng:=fun t a=>(by cases a),len:=Mx _,sch:=h},Z,Mx _⟩;unfold bm;rw[if_neg (by rw[(pW h).2];simp)];have:aP ⟨s,[]⟩=[]:=by unfold aP;split<;>rfl
 simp[this,bF,nC,kG]
theorem yF{s:Sch}{k:Nat}{r:Rel}{t:Tp}(h:GoodK s k r)(n:k<3)(a:bK r t=0)(i:t.prob∈gW)(l:AB t)(e:∀v∈t.vals,v.rng):GoodK s (k+1) (bD r t):=by
 obtain⟨c,j,m⟩:=h;have f:∀x∈(bD r t).tups,x∈r.tups\/x=t:=fun x b=>by
  unfold bD at b;simp only[My,Ml]at b;rcases b with(h|h)|h
  ·exact .inl (MC h)
  ·exact .inr h
  exact .inl (M2 h)
 have g:bm (bD r t)=0:=by
  unfold bK at a;split at a
  ·next h=>exact absurd a h
  split at a
  ·next h=>exact absurd a h
  split at a
  ·cases a
  exact a
 have d:(bD r t).tups.length<=k+1:=by
  unfold bD;simp only[Mc,Mf,MS,NL];omega
 refine⟨⟨g,fun x b=>?_,fun x b=>?_,fun x b=>?_,by omega,c.sch⟩,j,d⟩<;>rcases f x b with h|rfl
 ·exact c.prob x h
 ·exact i
 ·exact c.str x h
 ·exact l
 ·exact c.rng x h
 exact e
theorem GoodK.more{s:Sch}{k:Nat}{r:Rel}(h:GoodK s k r):GoodK s (k+1) r:=⟨h.1,h.2.1,by have:=h.2.2;omega⟩
theorem wy{r:Rel}{t:Tp}(h:bK r t=0):lL r t=.tup [(bD r t).tree,iT 0]:=by unfold lL;rw[if_pos h,h]
theorem tv{r:Rel}{t:Tp}(h:bK r t≠0):lL r t=.tup [qZ,iT (bK r t)]:=by unfold lL;rw[if_neg h]
theorem ph(n:Int):Ct 38 [iT n] (V.tree ⟨1,n,⟨#[]⟩⟩):=⟨⟨_,Tryz.func38,Z,Z⟩,fun G w vs _ _ b=>by
 obtain⟨u,rfl,c⟩:=cR b;cases c;refine(Aj n w).mono ?_;rintro e w' ⟨rfl,a⟩;exact⟨_,Z,.agg [.int .i64 1,.int .i64 n,.string ⟨#[]⟩] _ (.sc _ (.sc _ (.sc _ .nil))) .nil,a⟩⟩
theorem rk(s:ByteArray):Ct 37 [sT s] (V.tree ⟨2,0,s⟩):=⟨⟨_,Tryz.func37,Z,Z⟩,fun G w vs _ _ b=>by
 obtain⟨u,rfl,c⟩:=cR b;cases c;refine(Ak s w).mono ?_;rintro e w' ⟨rfl,a⟩;exact⟨_,Z,.agg [.int .i64 2,.int .i64 0,.string s] _ (.sc _ (.sc _ (.sc _ .nil))) .nil,a⟩⟩
theorem j2:gE Tryz.prog 128=some (2,1):=by kernel_rfl
theorem jG:gE Tryz.prog 52=some (26,3):=by kernel_rfl
theorem JW:iU Tryz.prog 2=true:=by kernel_rfl
theorem JF:(Tryz.prog.info? 26).map (·.size)=some 3:=by kernel_rfl
theorem JG:tJ Tryz.prog 26=some ([(0,1),(1,1),(2,1)],[.string (⟨#[]⟩),.bool false,.slice none 0 0]):=by kernel_rfl
theorem JH:tJ Tryz.prog 58=some ([(0,1),(1,1),(2,1)],[.string (⟨#[]⟩),.int .i64 0,.bool false]):=by kernel_rfl
theorem uV:gc Tryz.prog 2=some [.int .i64 0]:=by kernel_rfl
theorem AR:gc Tryz.prog 26=some [.string (⟨#[]⟩),.bool false,.slice none 0 0]:=by kernel_rfl
theorem Cn(l:List Int)(i:Nat)(g:l.length<=9223372036854775807)(h:i<65536):CtE 35 [.sl (l.map gi),nI i] (fun d=>∃n:Nat,n<4294967296/\d=nI n):=by
 refine CtE.of (n:=23) Tryz.func35 Z Z Z Z Z fun w0 G0=>?_
 refine ab<|aj 1 Z<|ab<|ab<|ae<|aa 1 Z<|af (t:=nI l.length) Z Z Z (ah (bd Z cz Z) (by simp only[L8]))<|af (t:=bT (decide (l.length=0))) Z Z Z (ah (ai Z Z Z Zy) (av (lY l.length 0)))<|ag<|aF Z (fun c=>?_) (fun c=>?_)
 ·refine ab<|ae<|aa 1 Z<|af (t:=nI ((((i:Nat):Int)%65536).toNat)) Z Z Z (ai Z Z Z (fun w=>tY ((i:Nat):Int) w))<|aa 1 Z<|ag<|aC<|⟨_,⟨_,by first|omega|(have:=Qw x (show(0:Int)<65536 by decide);omega),Z⟩,.inr Z,_,.cons Z .nil,Z,Z⟩
 have b:0<l.length:=by omega
 obtain⟨x,a⟩:∃x,l[i%l.length]? =some x:=⟨_,L4 (Ni _ b)⟩;have e:i/l.length<=i:=NY _ _;refine ax<|ab<|ci (fu:=14) [some 10,some 11,some 12,some 13,some 14,some 15,some 16,some 17,some 18,some 19,some 20,some 21,some 22,some 4] [.sl (l.map gi),nI i,.sl (l.map gi),nI l.length,nI (i%l.length),.ref [iT x],iT x,nI ((x%65536).toNat),nI i,.sl (l.map gi),nI l.length,nI (i/l.length),nI (((x%65536).toNat)+(i/l.length)),nI (((x%65536).toNat)+(i/l.length))] (by kernel_rfl) Z Z (by kernel_rfl) Z ?_ ?_
 ·refine Chain.op Z (aw Z Z)<|Chain.op Z (aw Z Z)<|Chain.op Z (aw Z Z)<|Chain.op Z (ah (bd Z cz Z) (by simp only[L8]))<|Chain.op Z (ai Z Z Z (fun w=>mF i l.length (by omega) w))<|Chain.op Z (aQ (gi x) Z cz Z Z Z (bf (f:=gi) a) (nS _) Z)<|Chain.op Z (bE Z Z fe Z)<|Chain.op Z (ai Z Z Z (fun w=>tY x w))<|Chain.op Z (aw Z Z)<|Chain.op Z (aw Z Z)<|Chain.op Z (ah (bd Z cz Z) (by simp only[L8]))<|Chain.op Z (ai Z Z Z (fun w=>Bs i l.length (by omega) (by omega) w))<|Chain.op Z (ah (ai Z Z Z Zy) (bu (by omega)))<|Chain.op Z (bW Z Z)<|Chain.nil
 refine aC<|⟨_,⟨_,by first|omega|(have:=Qw x (show(0:Int)<65536 by decide);omega),Z⟩,.inr Z,_,.cons Z .nil,Z,Z⟩
theorem pi(n:Nat):Ct 39 [nI n] (dp (bM n)):=by
 refine Ct.of (n:=24) Tryz.func39 Z Z Z Z Z fun w0 G0=>?_
 refine ab<|aj 1 Z<|ab<|ae<|af (t:=.sl (tr.map gi)) Z Z Z (ah (a6 Z j2 uV Z (by decide) (by decide) Z Z Z Z Z) (rfl))<|aa 1 Z<|af (t:=nI (n%8)) Z Z Z (ai Z Z Z (fun w=>wV n w))<|af (t:=.ref [iT (tr.getD (n%8) 0)]) Z Z Z (aQ (gi (tr.getD (n%8) 0)) Z j2 Z Z Z (bf (f:=gi) (wx n).1) (nS _) Z)<|aa 2 Z<|ag<|ab<|ae<|af (t:=.sl (qN.map gi)) Z Z Z (ah (a6 Z j2 uV Z (by decide) (by decide) Z Z Z Z Z) (rfl))<|aa 1 Z<|af (t:=nI (n%8)) Z Z Z (ai Z Z Z (fun w=>wV n w))<|af (t:=.ref [iT (qN.getD (n%8) 0)]) Z Z Z (aQ (gi (qN.getD (n%8) 0)) Z j2 Z Z Z (bf (f:=gi) (rj n).1) (nS _) Z)<|aa 2 Z<|ag<|ab<|ae<|aa 2 Z<|af Z Z Z (ar Z (H3 _ _ (wx n).2.1 (wx n).2.2 (rj n).2.1 (rj n).2.2.1 (rj n).2.2.2) Z Z)<|aa 6 Z<|ag<|ab<|aj 2 Z<|aC<|⟨.inr Z,_,.cons ⟨_,_,_,_,Z,Z,.inl ⟨_,aN,Z,Z⟩⟩ .nil,Z,Z⟩
theorem AS:Ct 24 [] (.sl (kO.map Sch.tree)):=by
 refine Ct.of (n:=21) Tryz.func24 Z Z Z Z Z fun w0 G0=>?_
 refine ab<|ae<|af (t:=.sl []) Z Z Z (cW (.inr Z) dI)<|ag<|ab<|aj 6 Z<|ab<|ae<|aa 2 Z<|af (t:=.sl [.agg [sT (⟨#[97]⟩),iT 1,bT false],.agg [sT (⟨#[98]⟩),iT 1,bT false]]) Z Z Z (a6 Z bi jy Z (by decide) (by decide) Z Z Z Z Z)<|aa 2 Z<|af (t:=.sl [.agg [sT (⟨#[97]⟩),iT 1,bT false]]) Z Z Z (a6 Z bi jy Z (by decide) (by decide) Z Z Z Z Z)<|aa 3 Z<|af (t:=.sl [.agg [sT (⟨#[107]⟩),iT 1,bT true],.agg [sT (⟨#[118]⟩),iT 1,bT false]]) Z Z Z (a6 Z bi jy Z (by decide) (by decide) Z Z Z Z Z)<|aa 3 Z<|af (t:=.sl [.agg [sT (⟨#[97]⟩),iT 1,bT false],.agg [sT (⟨#[98]⟩),iT 1,bT false]]) Z Z Z (a6 Z bi jy Z (by decide) (by decide) Z Z Z Z Z)<|aa 1 Z<|af (t:=.sl [.agg [sT (⟨#[82]⟩),bT false,.sl [.agg [sT (⟨#[97]⟩),iT 1,bT false],.agg [sT (⟨#[98]⟩),iT 1,bT false]]],.agg [sT (⟨#[83]⟩),bT false,.sl [.agg [sT (⟨#[97]⟩),iT 1,bT false]]],.agg [sT (⟨#[75]⟩),bT false,.sl [.agg [sT (⟨#[107]⟩),iT 1,bT true],.agg [sT (⟨#[118]⟩),iT 1,bT false]]],.agg [sT (⟨#[67]⟩),bT true,.sl [.agg [sT (⟨#[97]⟩),iT 1,bT false],.agg [sT (⟨#[98]⟩),iT 1,bT false]]]]) Z Z Z (a6 Z jG AR Z (by decide) (by decide) Z Z Z Z Z)<|aa 1 Z<|ag<|aC<|⟨.inr Z,_,.cons Z .nil,Z,Z⟩
theorem tw:Ct 25 [] (gT.tree):=by
 refine Ct.of (n:=5) Tryz.func25 Z Z Z Z Z fun w0 G0=>?_
 refine ab<|aj 1 Z<|ab<|ae<|aa 2 Z<|af (t:=.sl [.agg [sT (⟨#[110,97,109,101]⟩),iT 2,bT true],.agg [sT (⟨#[110]⟩),iT 1,bT false]]) Z Z Z (a6 Z bi jy Z (by decide) (by decide) Z Z Z Z Z)<|aa 2 Z<|ag<|aC<|⟨.inr Z,_,.cons ⟨_,_,_,_,Z,Z,.inl ⟨_,eR,Z,Z⟩⟩ .nil,Z,Z⟩
def bs(l:List UInt8):ByteArray:=⟨l.toArray⟩
theorem eX(l:List UInt8):(bs l).data.toList=l:=by simp[bs]
theorem Gh(s:ByteArray):bs s.data.toList=s:=iY s
theorem Iz{s t:ByteArray}(h:s.data.toList=t.data.toList):s=t:=by rw[<-Gh s,<-Gh t,h]
theorem rl(l:List UInt8):(bs l).size=l.length:=by rw[bN,eX]
theorem wz(a b:List UInt8):(bs (a++b)).extract 0 a.length=bs a:=Iz (by rw[kM,eX,eX];simp)
theorem mY(a b:List UInt8):(bs (a++b)).extract a.length (bs (a++b)).size=bs b:=Iz (by rw[kM,eX,eX,rl,Me (L5 _)];simp)
theorem tx{c:UInt8}:∀{l:List UInt8},c∉l->Lib.index l [c]= -1
 |[],_=>by simp[Lib.index]
 |b::l,h=>by
  have a:b≠c:=fun e=>h (by rw[e];simp)
  have d:=tx (c:=c) (l:=l) fun f=>h (MB _ f)
  have g:([c]:List UInt8).isPrefixOf (b::l)=false:=by simp[List.isPrefixOf,Ne.symm a]
  rw[Lib.index,g,d];simp
theorem yG{c:UInt8}{b:List UInt8}:∀{a:List UInt8},c∉a->Lib.index (a++c::b) [c]=(a.length:Int)
 |[],_=>by rw[M6,Lib.index];simp[List.isPrefixOf]
 |x::a,h=>by
  have d:x≠c:=fun e=>h (by rw[e];simp)
  have f:=yG (c:=c) (b:=b) (a:=a) fun g=>h (MB _ g)
  have i:([c]:List UInt8).isPrefixOf (x::(a++c::b))=false:=by simp[List.isPrefixOf,Ne.symm d]
  rw[Ng,Lib.index,i,f,if_neg (by simp),if_neg (by simp)];simp
theorem lG{a:List UInt8}(h:(10:UInt8)∉a):cL (bs a)=[bs a]:=by
 unfold cL;refine Lib.splitB_miss _ _ _ _ ?_;unfold Lib.indexB;rw[eX];exact tx h
theorem iN{a b:List UInt8}(h:(10:UInt8)∉a):cL (bs (a++10::b))=bs a::cL (bs b):=by
 have c:Lib.indexB (bs (a++10::b)) ⟨#[10]⟩=(a.length:Int):=by
  unfold Lib.indexB;rw[eX];exact yG h
 have d:(bs (a++10::b)).extract (a.length+(⟨#[10]⟩:ByteArray).size) (bs (a++10::b)).size=bs b:=by
  have:=mY (a++[10]) b;rw[MG,Mc]at this;exact this
 unfold cL;rw[Lib.countB_hit _ _ _ (by decide) c,d,NW 1,Lib.splitB_hit _ _ _ _ _ c,d,No,wz]
theorem wA:∀(k u:Nat),u<=k->∀c∈Lib.decDigits u,48<=c.toNat/\c.toNat<=57
 |0,u,h,c,a=>by
  rw[Lib.decDigits_one (by omega),Ml]at a;rw[a,fi _ (by omega)];omega
 |k+1,u,h,c,a=>by
  by_cases b:u<10
  ·rw[Lib.decDigits_one b,Ml]at a;rw[a,fi _ b];omega
  rw[Lib.decDigits,dif_neg b]at a;rcases My.1 a with a|a
  ·exact wA k (u/10) (by omega) c a
  rw[Ml]at a;rw[a,fi _ (by omega)];omega
def Gi(c:UInt8):Prop:=c.toNat=45\/(48<=c.toNat/\c.toNat<=57)
theorem yH(n:Int):∀c∈Lib.itoa n,Gi c:=fun c a=>by
 unfold Lib.itoa at a;split at a
 ·rcases Mi.1 a with rfl|a
  ·exact .inl Z
  exact .inr (wA _ _ (L5 _) c a)
 exact .inr (wA _ _ (L5 _) c a)
theorem pX{v:V}(a:v.ok=true):v.fmt=Lib.itoa v.n\/∃l:List UInt8,l.all pj=true/\v.fmt=39::(gG l++[39]):=by
 unfold V.ok at a;unfold V.fmt cB;rw[if_pos a];by_cases h:v.t=1
 ·rw[if_pos h];exact .inl Z
 rw[if_neg h];unfold be at a;rw[if_neg h]at a;simp only[Ma]at a;exact .inr ⟨_,a.2,by simp⟩
theorem Gj{P:UInt8->Prop}(b:P 39):∀{l:List UInt8},(∀c∈l,P c)->∀c∈gG l,P c
 |[],_,c,a=>by cases a
 |x::l,h,c,a=>by
  have d:=Gj b (l:=l) fun y e=>h y (MB _ e)
  rw[gG]at a;split at a
  ·rcases Mi.1 a with rfl|a
   ·exact b
   rcases Mi.1 a with rfl|a
   ·exact b
   exact d c a
  rcases Mi.1 a with rfl|a
  ·exact h c (Mr ..)
  exact d c a
theorem JI{v:V}(b:v.ok=true):∀c∈v.fmt,32<=c.toNat/\c.toNat<=126:=by
 rcases pX b with h|⟨l,d,h⟩
 ·rw[h];intro c a;have:=yH _ c a;unfold Gi at this;omega
 rw[h];intro c a;have e:=Gj (P:=fun c:UInt8=>32<=c.toNat/\c.toNat<=126) (by decide) (l:=l) fun c a=>of_decide_eq_true (Mh.1 d c a)
 simp only[Mi,My,N0,or_false]at a;rcases a with rfl|a|rfl
 ·decide
 ·exact e c a
 decide
theorem tz{a:List UInt8}(f:a.head?≠some 39):∀(l:List UInt8) (i:Nat),kN (gG l++39::a) i=i+(gG l).length+1
 |[],i=>by
  cases a with
  |nil=>rfl
  |cons d a=>
   have o:d≠39:=fun e=>f (by rw[e];rfl)
   have g:d.toNat≠39:=fun e=>o (O5.1 e)
   rw[gG,M6,kN,if_neg (by decide),if_pos g];rfl
 |c::l,i=>by
  by_cases b:c=39
  ·have k:=tz f l (i+2);rw[gG,if_pos b,Ng,Ng,kN,if_neg (by decide),if_neg (by decide),k];simp only[Mb];omega
  have k:=tz f l (i+1);have j:c.toNat≠39:=fun e=>b (O5.1 e)
  obtain⟨d,m,n⟩:∃d m,gG l++39::a=d::m:=by
   cases h:gG l with
   |nil=>exact⟨39,a,Z⟩
   |cons d m=>exact⟨d,m++39::a,Z⟩
  rw[gG,if_neg b,Ng,n,kN,if_pos j,<-n,k];simp only[Mb];omega
def Lm(rest:List UInt8):Prop:=rest=[]\/∃c r,rest=c::r/\(c=44\/c=58)
theorem Ig{c:UInt8}(h:Gi c):(c==44||c==58)=false/\c≠39:=by
 unfold Gi at h;refine⟨?_,fun e=>by subst e;revert h;decide⟩;rw[Mz,beq_eq_false_iff_ne,beq_eq_false_iff_ne];exact⟨fun e=>by subst e;revert h;decide,fun e=>by subst e;revert h;decide⟩
theorem uW{a:List UInt8}(e:Lm a):∀{l:List UInt8},(∀c∈l,Gi c)->lK (l++a)=if a=[]then-1 else(l.length:Int)
 |[],_=>by
  rw[M6];rcases e with rfl|⟨c,r,rfl,g⟩
  ·rfl
  rw[if_neg (by simp)];have b:(c==44||c==58)=true:=by rcases g with rfl|rfl<;>rfl
  unfold lK;rw[Pm,b,Nh,b];rfl
 |c::l,h=>by
  have d:=uW e (l:=l) fun x f=>h x (MB _ f)
  have b:=(Ig (h c (Mr ..))).1;unfold lK at d⊢;rw[Ng,Pm,b,Qm,Nh,b];simp only[Bool.not_false,if_true];split at d
  ·next h1=>
   rw[if_pos h1];split at d
   ·omega
   next h2=>rw[if_neg h2];simp only[Mb];omega
  next h1=>
  rw[if_neg h1];split at d
  ·next h2=>rw[if_pos h2]
  omega
theorem yI{v:V}(i:v.ok=true){a:List UInt8}(f:Lm a):jE (bs (v.fmt++a))=v.fmt.length:=by
 unfold jE nQ;rw[eX,rl];rcases pX i with h|⟨l,k,h⟩
 ·obtain⟨c,r,e,b⟩:=g8 v.n;have j:=yH v.n;rw[h];have d:Lib.hasPrefix (Lib.itoa v.n++a) [39]=false:=by
   rw[e];simp[Lib.hasPrefix,List.isPrefixOf,Ne.symm b]
  rw[d,if_neg (by simp),uW f j];rcases f with rfl|⟨c,r,rfl,b⟩
  ·simp
  simp
 rw[h];have d:Lib.hasPrefix (39::(gG l++[39])++a) [39]=true:=by simp[Lib.hasPrefix,List.isPrefixOf]
 have g:a.head?≠some 39:=by
  rcases f with rfl|⟨c,r,rfl,b⟩
  ·simp
  rcases b with rfl|rfl<;>simp
 rw[d,if_pos Z,Ng,Of,Nx,MG,Ps,tz g];simp only[Mb,Mc,Mo];omega
theorem tA{v:V}(b:v.ok=true)(a:v.rng):jD (bs v.fmt)=some v:=by
 have j:wt (bs v.fmt) v:=⟨b,a,eX _⟩;cases h:jD (bs v.fmt)with
 |none=>exact absurd j (qA h v)
 |some u=>
  obtain⟨i,c,g⟩:=qz h;rw[eX]at g;obtain⟨e,d,f⟩:=He i b c.1 c.2 a.1 a.2 g.symm;cases u;cases v;simp only at e d f;rw[e,d,f]
def SepE(rest:List UInt8):Prop:=rest=[]\/∃r,rest=58::r
theorem SepE.sep{a:List UInt8}(h:SepE a):Lm a:=by
 rcases h with h|⟨r,h⟩
 ·exact .inl h
 exact .inr ⟨58,r,h,.inr Z⟩
theorem KM{a:List UInt8}(h:SepE a):Lib.hasPrefix a [44]=false:=by
 rcases h with rfl|⟨r,rfl⟩<;>simp[Lib.hasPrefix,List.isPrefixOf]
def Gv(v:V):Prop:=v.ok=true/\v.rng
theorem pY{a:List UInt8}(f:SepE a):∀(vs:List V) (v:V) (n:Nat) (b:List V),vs.length<n->Gv v->(∀x∈vs,Gv x)->j0 n (bs (v.fmt++(b7 1 vs++a))) b=some (b++v::vs,bs a)
 |[],v,n+1,b,_,hv,_=>by
  rw[j0,b7,M6,yI hv.1 f.sep,wz,tA hv.1 hv.2,mY,eX,KM f];simp
 |u::vs,v,n+1,b,hn,hv,hvs=>by
  have d:∀(i:Nat),0<i->∀l,b7 i l=b7 1 l:=by
   intro i m l;induction l generalizing i with
   |nil=>rfl
   |cons x l c=>rw[b7,b7,if_pos m,if_pos (by omega),c (i+1) (by omega),c 2 (by omega)]
  have e:b7 1 (u::vs)++a=44::(u.fmt++(b7 1 vs++a)):=by
   rw[b7,if_pos (by omega),d 2 (by omega)];simp
  have c:=pY f vs u n (b++[v]) (by simpa using hn) (hvs u (Mr ..)) fun x h=>hvs x (MB _ h)
  have g:Lm (44::(u.fmt++(b7 1 vs++a))):=.inr ⟨44,_,Z,.inl Z⟩;have j:=mY [44] (u.fmt++(b7 1 vs++a));rw[j0,e,yI hv.1 g,wz,tA hv.1 hv.2,mY,eX];simp only;rw[if_pos (by simp[Lib.hasPrefix,List.isPrefixOf])];have k:(bs (44::(u.fmt++(b7 1 vs++a)))).extract 1 (bs (44::(u.fmt++(b7 1 vs++a)))).size=bs (u.fmt++(b7 1 vs++a)):=j;rw[k,c];simp
theorem mr{q:Rat}(h:q∈gW):gR (gF q)=(q,0)/\(gF q).data.toList.all (fun c=>decide (32<=c.toNat)&&decide (c.toNat<=126))=true/\(gF q).size<=8:=by
 unfold gW at h;simp only[Mi,N0,or_false]at h;rcases h with rfl|rfl|rfl|rfl|rfl|rfl|rfl|rfl<;>exact⟨by decide+kernel,by decide+kernel,by decide+kernel⟩
theorem Gk{s:Sch}{i:Nat}(h:kO[i]? =some s):s∈kO\/s=gT:=.inl (L9 h)
theorem Good.small{r:Rel}(h:Good r):FitR r:=h.fit.1
theorem AT:lM Tryz.prog 74=some (30,4,72):=by kernel_rfl
theorem tB:gE Tryz.prog 74=some (30,4):=by kernel_rfl
theorem wC(l:List Int)(T:l.length<=9223372036854775807):CtE 36 [.sl (l.map gi)] (fun J=>∃b:List Rel,b.length=4/\(∀r∈b,Good r)/\J=.sl (b.map Rel.tree)):=by
 refine CtE.of (n:=95) Tryz.func36 Z Z Z Z Z fun w0 G0=>?_
 refine ab<|ae<|af (t:=.sl []) Z Z Z (cW (.inr Z) dI)<|ag<|ab<|ae<|g7 (k:=0) (e:=30) (sz:=4) (rs':=[some ⟨30,4,[].map Rel.tree,false⟩]) (.inr Z) Z Z Z Z Z<|ag<|ab<|ae<|af Z Z Z (ar Z AS Z Z)<|aa 1 Z<|ag<|ab<|ab<|aj 1 Z<|aE<|aW (fun B C=>∃(i:Nat) (b:List Rel),(i<=4/\b.length=i/\∀r∈b,Good r)/\B=4-i/\C=⟨95,[(0,.sl (l.map gi)),(3,.own 0),(4,.sl (kO.map Sch.tree)),(5,nI i)],[],[some ⟨30,4,b.map Rel.tree,false⟩]⟩) 0 1 ⟨0,[],⟨by omega,Z,fun r W=>by cases W⟩,Z,Z⟩ ⟨Z,Z,Z,.cons Z Z (.cons Z Z (.cons Z Z (.cons Z Z .nil))),Z⟩ ?_;rintro B C ⟨i,b,⟨hi,P,M⟩,rfl,rfl⟩;have Y:kO.length=4:=rfl;refine ab<|ab<|ae<|aa 2 Z<|af (t:=nI kO.length) Z Z Z (ah (bd Z jG Z) (by simp only[L8]))<|af (t:=bT (decide (i<kO.length))) Z Z Z (ah (ai Z Z Z Zy) (av (iu i kO.length)))<|ag<|aF Z (fun A=>?_) (fun A=>?_)
 ·replace A:i<4:=A;obtain⟨s,p⟩:∃s,kO[i]? =some s:=⟨_,L4 A⟩;have O:=Gk p;have a0:=(pW O).1;refine ax<|ab<|aE<|ab<|ae<|aa 2 Z<|af (t:=.ref (dq s)) Z Z Z (aQ (Sch.tree s) Z jG Z Z Z (bf (f:=Sch.tree) p) (pU _) Z)<|aa 4 Z<|ag<|ab<|ab<|aj 1 Z<|aE<|aW (fun B C=>∃(k:Nat) (r:Rel),(k<=3/\GoodK s k r)/\B=3-k/\C=⟨95,[(0,.sl (l.map gi)),(3,.own 0),(4,.sl (kO.map Sch.tree)),(5,nI i),(6,.box 0 0),(7,nI k)],[(30,(aT r))],[some ⟨30,4,b.map Rel.tree,false⟩]⟩) 1 1 ⟨0,⟨s,[]⟩,⟨by omega,tu O⟩,Z,Z⟩ ⟨Z,Z,Z,.cons Z Z (.cons Z Z (.cons Z Z (.cons Z Z (.cons Z Z (.cons Z Z .nil))))),Z⟩ ?_;rintro B C ⟨k,r,⟨hk,G⟩,rfl,rfl⟩;refine ab<|ab<|ae<|aa 3 Z<|jP (fun J=>∃n:Nat,n<4294967296/\J=nI n) Z Z Z (kk Z (Cn l i T (by omega)) Z Z) ?_;rintro _ ⟨n,hn,rfl⟩;refine af (t:=nI (n%4)) Z Z Z (ai Z Z Z (fun w=>mF n 4 (by omega) w))<|af (t:=bT (decide (k<n%4))) Z Z Z (ah (ai Z Z Z Zy) (av (iu k (n%4))))<|aa 1 Z<|aA (t:=nI i) ((decide (k<n%4))=true) Z Z Z au Z Z (fun c=>aw Z Z)<|aA (t:=bT (decide (i=1))) ((decide (k<n%4))=true) Z Z Z au Z Z (fun c=>ah (ai Z (if_pos c) Z (fun _=>rfl)) (av (lY i 1)))<|aA (t:=bT (decide (i=1))) ((decide (k<n%4))=true) Z Z Z au Z Z (fun c=>aw Z (if_pos c))<|aA (t:=nI k) (((decide (k<n%4))=true)/\((decide (i=1))=true)) Z Z Z ee Z Z (fun c=>aw Z Z)<|aA (t:=bT (decide (k=2))) (((decide (k<n%4))=true)/\((decide (i=1))=true)) Z Z Z ee Z Z (fun c=>ah (ai Z (if_pos c) Z (fun _=>rfl)) (av (lY k 2)))<|aA (t:=bT ((decide (i=1))&&(decide (k=2)))) ((decide (k<n%4))=true) Z Z Z au Z Z (fun c=>aL Z (if_pos c) (fun u=>(if_pos ⟨c,u⟩).trans (av (by rw[u];rfl))) (fun u=>(av (by rw[u];rfl))))<|aA (t:=bT (!((decide (i=1))&&(decide (k=2))))) ((decide (k<n%4))=true) Z Z Z au Z Z (fun c=>ef Z (if_pos c) (fun _=>rfl))<|af (t:=bT ((decide (k<n%4))&&(!((decide (i=1))&&(decide (k=2)))))) Z Z Z (aL Z Z (fun u=>(if_pos u).trans (av (by rw[u];rfl))) (fun u=>(av (by rw[u];rfl))))<|ag<|aH Z (fun H=>?_) (fun H=>?_)
  ·have S:k<3:=by
    rw[Ma]at H;have:=of_decide_eq_true H.1;omega
   refine ax<|ab<|aE<|ab<|ae<|aa 2 Z<|af (t:=nI (3*i)) Z Z Z (ah (ai Z Z Z Zy) (bu (by omega)))<|af (t:=nI (4+(3*i))) Z Z Z (ah (ai Z Z Z Zy) (bu (by omega)))<|aa 1 Z<|af (t:=nI ((4+(3*i))+k)) Z Z Z (ah (ai Z Z Z Zy) (bu (by omega)))<|jP (fun J=>∃n:Nat,n<4294967296/\J=nI n) Z Z Z (kk Z (Cn l _ T (by omega)) Z Z) ?_;rintro _ ⟨m,X,rfl⟩;refine aa 1 Z<|ag<|ab ?_;obtain⟨q,R⟩:∃q,(if s.cert=true then(((1:Nat):Nat):Rat)else bM (m/2^4))=q:=⟨_,rfl⟩;have E:q∈gW:=by
    rw[<-R];split
    ·exact DK
    exact uU _
   refine ae<|aa 1 Z<|af (t:=nI (m/2^4)) Z Z Z (ai Z Z Z (fun w=>iW m 4 (by decide) w))<|af Z Z Z (ar Z (pi _) Z Z)<|af (t:=.agg [.sc (.slice none 0 0),bT (decide ((bM (m/2^4)).num<0)),aM ((bM (m/2^4)).num.natAbs),aM ((bM (m/2^4)).den)]) Z Z Z (pr Z gt Z Z Z)<|aa 2 Z<|ag<|ab<|rE ⟨95,[(0,.sl (l.map gi)),(3,.own 0),(4,.sl (kO.map Sch.tree)),(5,nI i),(6,.box 0 0),(7,nI k),(8,nI m),(9,.box 1 0)],[(30,(aT r)),(67,[.sc (.slice none 0 0),bT (decide (q.num<0)),aM q.num.natAbs,aM q.den])],[some ⟨30,4,b.map Rel.tree,false⟩]⟩ 2 1 ?_ ?_
   ·refine ab<|ae<|aa 2 Z<|af (t:=.ref (dq s)) Z Z Z (aQ (Sch.tree s) Z jG Z Z Z (bf (f:=Sch.tree) p) (pU _) Z)<|aa 2 Z<|ag<|aH Z (fun D=>?_) (fun D=>?_)
    ·refine ae<|af Z Z Z (ar Z (rf 1 (by decide)) Z Z)<|aa 2 Z<|ag<|⟨Z,by rw[<-R,show(if s.cert=true then(((1:Nat):Nat):Rat)else bM (m/2^4))=_ from(if_pos D)];rfl,Z,.cons Z Z (.cons Z Z (.cons Z Z (.cons Z Z (.cons Z Z (.cons Z Z (.cons Z Z (.cons Z Z .nil))))))),Z⟩
    refine ax<|⟨Z,by rw[<-R,show(if s.cert=true then(((1:Nat):Nat):Rat)else bM (m/2^4))=_ from(if_neg (by rw[D];exact MR))];rfl,Z,.cons Z Z (.cons Z Z (.cons Z Z (.cons Z Z (.cons Z Z (.cons Z Z (.cons Z Z (.cons Z Z .nil))))))),Z⟩
   refine ab<|ab<|aj 1 Z<|aE<|mD 1 0 77 3 (bs':=[(30,(aT r)),(67,[.own 1,bT (decide (q.num<0)),aM q.num.natAbs,aM q.den])]) (rs':=[some ⟨30,4,b.map Rel.tree,false⟩,some ⟨77,3,[].map V.tree,false⟩]) Z Z Z Z<|aW (fun B C=>∃(j:Nat) (a:List V) (z:Nat),(j<=s.cols.length/\a.length=j/\z<4294967296/\∀v∈a,v.s.size<=9223372036854775807/\v.rng)/\B=s.cols.length-j/\C=⟨95,[(0,.sl (l.map gi)),(3,.own 0),(4,.sl (kO.map Sch.tree)),(5,nI i),(6,.box 0 0),(7,nI k),(8,nI z),(9,.box 1 0),(10,nI j)],[(30,(aT r)),(67,[.own 1,bT (decide (q.num<0)),aM q.num.natAbs,aM q.den])],[some ⟨30,4,b.map Rel.tree,false⟩,some ⟨77,3,a.map V.tree,false⟩]⟩) 2 2 ⟨0,[],m,⟨by omega,Z,X,fun v g=>by cases g⟩,Z,Z⟩ ⟨Z,Z,Z,.cons Z Z (.cons Z Z (.cons Z Z (.cons Z Z (.cons Z Z (.cons Z Z (.cons Z Z (.cons Z Z (.cons Z Z .nil)))))))),Z⟩ ?_;rintro B C ⟨j,a,z,⟨hj,K,hz,d⟩,rfl,rfl⟩;refine ab<|ab<|ae<|aa 3 Z<|af (t:=.ref (dq s)) Z Z Z (aQ (Sch.tree s) Z jG Z Z Z (bf (f:=Sch.tree) p) (pU _) Z)<|aa 2 Z<|af (t:=nI s.cols.length) Z Z Z (ah (bd Z bi Z) (by simp only[L8]))<|af (t:=bT (decide (j<s.cols.length))) Z Z Z (ah (ai Z Z Z Zy) (av (iu j s.cols.length)))<|ag<|aF Z (fun Q=>?_) (fun Q=>?_)
   ·refine ax<|ab<|aE<|ab<|iw (sl':=[(0,.sl (l.map gi)),(3,.own 0),(4,.sl (kO.map Sch.tree)),(5,nI i),(6,.box 0 0),(7,nI k),(8,nI z),(9,.box 1 0),(10,nI j),(67,bT (decide (j<s.cols.length)))]) ⟨Z,⟨Z,⟨Z,⟨Z,⟨Z,⟨Z,⟨Z,⟨Z,⟨Z,⟨Z,trivial⟩⟩⟩⟩⟩⟩⟩⟩⟩⟩<|fz (fu:=4) [some 70,some 71,some 72,some 73,some 74,some 75,some 76,some 77,some 78,none] [7,9] [.box 1 0,.own 1,nI z,nI (z%3),nI (1+(z%3)),.agg [iT 1,nI (1+z%3),sT (⟨#[]⟩)],.sl [.agg [iT 1,nI (1+z%3),sT (⟨#[]⟩)]],.own 1,.box 1 0,.any] [⟨[7],[(0,.sl (l.map gi)),(3,.own 0),(4,.sl (kO.map Sch.tree)),(5,nI i),(6,.box 0 0),(7,nI k),(8,nI z),(9,.box 1 0),(10,nI j),(67,bT (decide (j<s.cols.length)))],[(30,(aT r)),(67,[.any,bT (decide (q.num<0)),aM q.num.natAbs,aM q.den])],[some ⟨30,4,b.map Rel.tree,false⟩,some ⟨77,3,(a++[(⟨1,((1+z%3:Nat):Int),⟨#[]⟩⟩:V)]).map V.tree,false⟩],[.box 1 0,.any,nI z,nI (z%3),nI (1+(z%3)),.agg [iT 1,nI (1+z%3),sT (⟨#[]⟩)],.sl [.agg [iT 1,nI (1+z%3),sT (⟨#[]⟩)]],.own 1,.box 1 0,.any]⟩] ⟨[9,7],[(0,.sl (l.map gi)),(3,.own 0),(4,.sl (kO.map Sch.tree)),(5,nI i),(6,.box 0 0),(7,nI k),(8,nI z),(9,.box 1 0),(10,nI j),(67,bT (decide (j<s.cols.length)))],[(30,(aT r)),(67,[.own 1,bT (decide (q.num<0)),aM q.num.natAbs,aM q.den])],[some ⟨30,4,b.map Rel.tree,false⟩,some ⟨77,3,(a++[(⟨1,((1+z%3:Nat):Int),⟨#[]⟩⟩:V)]).map V.tree,false⟩],[.box 1 0,.any,nI z,nI (z%3),nI (1+(z%3)),.agg [iT 1,nI (1+z%3),sT (⟨#[]⟩)],.sl [.agg [iT 1,nI (1+z%3),sT (⟨#[]⟩)]],.own 1,.box 1 0,.any]⟩ (by kernel_rfl) Z (by kernel_rfl) (by kernel_rfl) (by kernel_rfl) Z Z ?_ ?_
    ·refine .op [] (by kernel_rfl) ?_ ?_
     ·refine .ok (t:=.box 1 0) (by kernel_rfl) Z Z (az Z Z b6 Z)<|.no (by kernel_rfl)<|.no (by kernel_rfl)<|.nil
     refine .op [0] (by kernel_rfl) ?_ ?_
     ·refine .ok (t:=.own 1) (by kernel_rfl) Z Z (aD Z Z Z cC Z)<|.no (by kernel_rfl)<|.no (by kernel_rfl)<|.nil
     refine .op [] (by kernel_rfl) ?_ ?_
     ·refine .ok (t:=nI z) (by kernel_rfl) Z Z (aw Z Z)<|.no (by kernel_rfl)<|.no (by kernel_rfl)<|.nil
     refine .op [2] (by kernel_rfl) ?_ ?_
     ·refine .ok (t:=nI (z%3)) (by kernel_rfl) Z Z (ai Z Z Z (fun w=>mF z 3 (by omega) w))<|.no (by kernel_rfl)<|.no (by kernel_rfl)<|.nil
     refine .op [3] (by kernel_rfl) ?_ ?_
     ·refine .ok (t:=nI (1+(z%3))) (by kernel_rfl) Z Z (ah (ai Z Z Z Zy) (bu (by omega)))<|.no (by kernel_rfl)<|.no (by kernel_rfl)<|.nil
     refine .op [4] (by kernel_rfl) ?_ ?_
     ·refine .ok (t:=.agg [iT 1,nI (1+z%3),sT (⟨#[]⟩)]) (by kernel_rfl) Z Z (ar Z (ph _) Z Z)<|.no (by kernel_rfl)<|.no (by kernel_rfl)<|.nil
     refine .op [5] (by kernel_rfl) ?_ ?_
     ·refine .ok (t:=.sl [.agg [iT 1,nI (1+z%3),sT (⟨#[]⟩)]]) (by kernel_rfl) Z Z (a6 Z bz fM Z (by decide) (by decide) Z Z Z Z Z)<|.no (by kernel_rfl)<|.no (by kernel_rfl)<|.nil
     refine .op [1,6] (by kernel_rfl) ?_ ?_
     ·refine .wr 1 (lI 1) (.own 1) (by kernel_rfl) rfl rfl (kj rfl rfl rfl ib rfl rfl rfl rfl (by intro e o;simp only[Mi,Nr,or_false]at o;subst o;rfl) (AllC.lit rfl) (AllC.lit rfl) (by simp only[L8,Mb,Mo];omega) rfl rfl (by rw[Nk];rfl)) rfl rfl rfl rfl (.k rfl (.k rfl (.k rfl (.k rfl (.k rfl (.k rfl (.k rfl (.i rfl (.k rfl (.k rfl .nil))))))))))<|.no (by kernel_rfl)<|.no (by kernel_rfl)<|.nil
     refine .op [] (by kernel_rfl) ?_ ?_
     ·refine .no (by kernel_rfl)<|.ok (t:=.box 1 0) (by kernel_rfl) Z Z (az Z Z b6 Z)<|.no (by kernel_rfl)<|.nil
     refine .op [7,8] (by kernel_rfl) ?_ ?_
     ·refine .no (by kernel_rfl)<|.wr 2 id .any (by kernel_rfl) Z Z (gJ Z Z Z Z Z Z Z Z AL Z Z Z) Z Z Z Z (.k Z (.k Z (.k Z (.k Z (.k Z (.k Z (.k Z (.k Z (.k Z (.i Z .nil))))))))))<|.no (by kernel_rfl)<|.nil
     exact .nil
    refine ae<|aa 1 Z<|af (t:=nI (z/3)) Z Z Z (ai Z Z Z (fun w=>Bs z 3 (by omega) (by omega) w))<|aa 1 Z<|ag<|ae<|aa 1 Z<|af (t:=nI (j+1)) Z Z Z (ah (ai Z Z Z Zy) (bu (by omega)))<|aa 1 Z<|ag<|⟨_,_,?_,⟨j+1,a++[(⟨1,((1+z%3:Nat):Int),⟨#[]⟩⟩:V)],z/3,?_,Z,Z⟩,⟨Z,Z,Z,.cons Z Z (.cons Z Z (.cons Z Z (.cons Z Z (.cons Z Z (.cons Z Z (.cons Z Z (.cons Z Z (.cons Z Z .nil)))))))),Z⟩⟩
    ·omega
    refine⟨by omega,by simp[K],by omega,fun v g=>?_⟩;rcases My.1 g with h|h
    ·exact d v h
    rw[Ml.1 h];exact⟨by show 0<=_;omega,by show-9223372036854775808<=((1+z%3:Nat):Int);omega,by show((1+z%3:Nat):Int)<=9223372036854775807;omega⟩
   refine aZ<|ab ?_;by_cases o:bK r (⟨a,q⟩:Tp)=0
   ·refine fD 1 (bs':=[(30,(aT r)),(67,[.sl (a.map V.tree),bT (decide (q.num<0)),aM q.num.natAbs,aM q.den])]) (rs':=[some ⟨30,4,b.map Rel.tree,false⟩,none]) Z Z Z Z ?_;have F:a.length<=65536:=by omega
    have y:AB ⟨a,q⟩:=fun v g=>(d v g).1
    have I:∀v∈(⟨a,q⟩:Tp).vals,v.rng:=fun v g=>(d v g).2
    refine ae<|aa 2 Z<|af (t:=.tup [.agg [sT ((bD r (⟨a,q⟩:Tp)).sch.name),bT ((bD r (⟨a,q⟩:Tp)).sch.cert),.sl (((bD r (⟨a,q⟩:Tp)).sch.cols).map Col.tree),.sl (((bD r (⟨a,q⟩:Tp)).tups).map Tp.tree)],iT 0]) Z Z Z (ar Z (by have h:=iq r ⟨a,q⟩ (G.1.fit).1 G.1.str (lF E) y F;rw[wy o]at h;exact h) Z Z)<|aa 6 Z<|ag<|ab<|ae<|aa 1 Z<|af (t:=bT (decide (0=0))) Z Z Z (ah (ai Z Z Z Zy) (av (lY 0 0)))<|ag<|aF Z (fun L=>?_) (fun L=>?_)
    ·refine aj 2 Z<|ae<|aa 1 Z<|af (t:=nI (k+1)) Z Z Z (ah (ai Z Z Z Zy) (bu (by omega)))<|aa 1 Z<|ag<|⟨_,_,?_,⟨k+1,(bD r (⟨a,q⟩:Tp)),?_,Z,Z⟩,⟨Z,Z,Z,.cons Z Z (.cons Z Z (.cons Z Z (.cons Z Z (.cons Z Z (.cons Z Z .nil))))),Z⟩⟩
     ·omega
     exact⟨by omega,yF G S o E y I⟩
    exact absurd Z L
   refine fD 1 (bs':=[(30,(aT r)),(67,[.sl (a.map V.tree),bT (decide (q.num<0)),aM q.num.natAbs,aM q.den])]) (rs':=[some ⟨30,4,b.map Rel.tree,false⟩,none]) Z Z Z Z ?_;have F:a.length<=65536:=by omega
   have y:AB ⟨a,q⟩:=fun v g=>(d v g).1
   have I:∀v∈(⟨a,q⟩:Tp).vals,v.rng:=fun v g=>(d v g).2
   refine ae<|aa 2 Z<|af (t:=.tup [.agg dS,iT (bK r (⟨a,q⟩:Tp))]) Z Z Z (ar Z (by have h:=iq r ⟨a,q⟩ (G.1.fit).1 G.1.str (lF E) y F;rw[tv o]at h;exact h) Z Z)<|aa 6 Z<|ag<|ab<|ae<|aa 1 Z<|af (t:=bT ((bK r (⟨a,q⟩:Tp))==0)) Z Z Z (ai Z Z Z Zy)<|ag<|aH Z (fun N=>?_) (fun N=>?_)
   ·exact absurd (by simpa using N) o
   refine ax<|ae<|aa 1 Z<|af (t:=nI (k+1)) Z Z Z (ah (ai Z Z Z Zy) (bu (by omega)))<|aa 1 Z<|ag<|⟨_,_,?_,⟨k+1,r,?_,Z,Z⟩,⟨Z,Z,Z,.cons Z Z (.cons Z Z (.cons Z Z (.cons Z Z (.cons Z Z (.cons Z Z .nil))))),Z⟩⟩
   ·omega
   exact⟨by omega,G.more⟩
  refine aZ<|ae<|aa 2 rfl<|af (t:=.sl [.agg (aT r)]) rfl rfl rfl (a6 rfl tB im rfl (by decide) (by decide) rfl rfl rfl rfl rfl)<|cD (bs':=[(30,(aT r))]) (rs':=[some ⟨30,4,(b++[r]).map Rel.tree,false⟩]) rfl rfl rfl rfl AT rfl rfl rfl rfl (by intro e o;simp only[Mi,Nr,or_false]at o;subst o;rfl) (AllC.lit rfl) (AllC.lit rfl) (by simp only[L8,Mb,Mo];omega) rfl rfl rfl (by rw[Nk];rfl)<|aa 1 rfl<|ag<|ae<|aa 1 rfl<|af (t:=nI (i+1)) rfl rfl rfl (ah (ai rfl rfl rfl Zy) (bu (by omega)))<|aa 1 rfl<|ag<|⟨_,_,?_,⟨i+1,b++[r],?_,rfl,rfl⟩,⟨rfl,rfl,rfl,.cons rfl rfl (.cons rfl rfl (.cons rfl rfl (.cons rfl rfl .nil))),rfl⟩⟩
  ·omega
  refine⟨by omega,by simp[P],fun x U=>?_⟩;rcases My.1 U with h|h
  ·exact M x h
  rw[Ml.1 h];exact G.1
 refine aZ<|ab<|fD 0 (bs':=[]) (rs':=[none]) Z Z Z Z<|aj 2 Z<|aC<|⟨_,⟨b,by omega,M,Z⟩,.inr Z,_,.cons Z .nil,Z,Z⟩
end Go.Proofs.YtfoejfohbkmmeaaGreatDoor
