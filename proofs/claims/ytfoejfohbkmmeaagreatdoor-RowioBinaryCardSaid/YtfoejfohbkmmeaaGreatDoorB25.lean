import Derived.Test.YtfoejfohbkmmeaaGreatDoorB19
import Derived.Test.YtfoejfohbkmmeaaGreatDoorB24
import Derived.Test.YtfoejfohbkmmeaaGreatDoorB11
import Derived.Test.YtfoejfohbkmmeaaGreatDoorB20
import Derived.Test.YtfoejfohbkmmeaaGreatDoorB00
import Derived.Test.YtfoejfohbkmmeaaGreatDoorB06
import Derived.Test.YtfoejfohbkmmeaaGreatDoorB08
set_option maxRecDepth 100000
set_option maxHeartbeats 4000000
namespace Go.Proofs.YtfoejfohbkmmeaaGreatDoor
open Go.RowKit
theorem zN(n:Nat)(h:(az n).length<=1073741823):Ct 168 [aG n] (aG n):=fp ⟨_,Tryz.func168,Z,Z⟩ (fun _ _ _ d h=>fQ d h) fun G w vs _ _ f=>by
 obtain⟨u,rfl,i⟩:=dZ f;obtain⟨A,c,rfl,b⟩:=d9 i;refine(ep A c (az n) w b h).mono ?_;rintro e w' ⟨v,rfl,a,g⟩;rw[aS]at a;exact⟨v,Z,a.isD,g⟩
theorem Kq(x y:Nat)(e:(az x).length<=1073741823)(i:(az y).length<=1073741823):Ct 101 [aG x,aG y] (iT (fz x y)):=Ct.sc ⟨_,Tryz.func101,Z,Z⟩ fun G w vs _ _ b=>by
 obtain⟨u,v,rfl,f,h⟩:=dO b;obtain⟨A,c,rfl,a⟩:=d9 f;obtain⟨B,d,rfl,g⟩:=d9 h;have:=sg A B c d (az x) (az y) w a g e i;rw[aS,aS]at this;exact this
theorem DW(x y:Nat)(f:(az x).length<=1073741823)(a:y<=x):Ct 217 [aG x,aG y] (.tup [aG (x-y),bT true]):=⟨⟨_,Tryz.func217,Z,Z⟩,fun G w vs _ i j=>by
 obtain⟨u,v,rfl,k,m⟩:=dO j;obtain⟨A,c,rfl,g⟩:=d9 k;obtain⟨B,d,rfl,l⟩:=d9 m;have n:(az y).length<=1073741823:=Oq (bi a) f;have:=xJ A B c d (az x) (az y) w g l f n (by rw[aS,aS];exact a);rw[aS,aS]at this;refine this.mono ?_;rintro e w' ⟨v,rfl,h,b⟩;exact⟨_,Z,.tup [v,.bool true] _ ((fQ (OkG.later i b) h.isD).cons (.sc _ .nil)) .nil,b⟩⟩
theorem H5(n:Nat)(g:n<18446744073709551616):Ct 102 [.sc (.int .u64 (n:Nat))] (aG n):=fp ⟨_,Tryz.func102,Z,Z⟩ (fun _ _ _ b h=>fQ b h) fun G w vs _ _ d=>by
 obtain⟨u,rfl,f⟩:=dZ d;cases f;refine(qQ n w g).mono ?_;rintro e w' ⟨v,rfl,a,c⟩;exact⟨v,Z,a.isD,c⟩
theorem zO(n:Int)(g: -9223372036854775808<=n)(f:n<=9223372036854775807):Ct 162 [iT n] (aG n.natAbs):=fp ⟨_,Tryz.func162,Z,Z⟩ (fun _ _ _ b h=>fQ b h) fun G w vs _ _ d=>by
 obtain⟨u,rfl,i⟩:=dZ d;cases i;refine(GW n w g f).mono ?_;rintro e w' ⟨v,rfl,a,c⟩;exact⟨v,Z,a.isD,c⟩
theorem rI(ng:Bool)(N D:Nat)(a:0<D):iH (ng&&decide (N≠0)) (N/Nat.gcd N D) (D/Nat.gcd N D)=dA (eh ng N D):=by
 unfold dA;rcases Pg N with h|h
 ·subst h;rw[nh,Rx,Nat.div_self a];simp
 obtain⟨c,b,d⟩:=qU ng h a;rw[c,b,d];simp[show N≠0 by omega]
theorem zP{ng:Bool}{N D:Nat}{w:World}{G:Nat->Prop}(c:OkG G w)(f:0<D){e:Ending}{w':World}(h:tx (ng&&decide (N≠0)) (N/Nat.gcd N D) (D/Nat.gcd N D) w e w'):∃v,e=.returned v/\PT w' G [v] [dA (eh ng N D)]/\Below w.heap.size w w':=by
 obtain⟨b,i,rfl,d,g,a⟩:=h;refine⟨_,Z,?_,a⟩;rw[<-rI ng N D f];exact L3 (OkG.later c a) ⟨b,i,Z,d.isD,g.isD⟩
theorem lp(ng:Bool)(N D:Nat)(o:(az N).length<=1048576)(m:(az D).length<=1048576)(b:0<D):Ct 110 [bT ng,aG N,aG D] (dA (eh ng N D)):=⟨⟨_,Tryz.func110,Z,Z⟩,fun G w vs _ g i=>by
 obtain⟨a,u,v,rfl,k,j,n⟩:=pA i;cases k;obtain⟨A,c,rfl,f⟩:=d9 j;obtain⟨B,d,rfl,l⟩:=d9 n;exact(zh ng A B c d N D w f l o m b).mono fun e w' h=>zP g b h⟩
theorem wk(ng:Bool)(N D:Nat)(o:(az N).length<=1048576)(m:(az D).length<=1048576)(b:0<D):Ct 48 [iH ng N D] (dA (eh ng N D)):=⟨⟨_,Tryz.func48,Z,Z⟩,fun G w vs _ g i=>by
 obtain⟨a,rfl,k⟩:=dZ i;obtain⟨p,q,rfl,j,n⟩:=L2 k;obtain⟨A,c,rfl,f⟩:=j;obtain⟨B,d,rfl,l⟩:=n;exact(xM ng A B c d N D w f l o m b).mono fun e w' h=>zP g b h⟩
theorem fe(q:Rat)(h:Fit 1048576 q):Ct 48 [dA q] (dA q):=by
 have:=wk (decide (q.num<0)) q.num.natAbs q.den h.num h.den q.den_pos;rwa[fU]at this
theorem mu(l m:List V)(a:l.length<=65536)(g:m.length<=65536):Ct 93 [.sl (l.map V.tree),.sl (m.map V.tree)] (iT (bg l m)):=Ct.sc ⟨_,Tryz.func93,Z,Z⟩ fun G w vs _ _ e=>by
 obtain⟨u,x,rfl,f,h⟩:=dO e;obtain⟨A,c,rfl,i,_⟩:=pB f;obtain⟨B,d,rfl,b,_⟩:=pB h;exact u5 A B c d l m w i b a g
theorem wl(v:V)(a:v.s.size<=9223372036854775807):Ct 98 [v.tree] (bT v.ok):=Ct.sc ⟨_,Tryz.func98,Z,Z⟩ fun G w vs _ _ b=>by
 obtain⟨u,rfl,h⟩:=dZ b;rw[B1 h];exact xE v.t v.n v.s w a
end Go.Proofs.YtfoejfohbkmmeaaGreatDoor

namespace Go.Proofs.YtfoejfohbkmmeaaGreatDoor
open Go.RowKit
open Lib renaming hid→J
def MC:Tree:=.agg [.sl [],.sc (.bool false),.sl [],.sl []]
def rc(ts:List Tp)(i:Nat):List Tree:=(ts.take i).map Tp.tree++List.replicate (ts.length-i) MC
theorem H7{ts:List Tp}{i:Nat}{t:Tp}(h:ts[i]? =some t):(rc ts i).set i t.tree=rc ts (i+1):=by
 obtain⟨a,rfl⟩:=Ok.1 h;unfold rc;have e:((ts.take i).map Tp.tree).length=i:=by simp;omega
 rw[P5 (h:=by omega),e,Pb,show ts.length-i=(ts.length-(i+1))+1 by omega,Q2,Qe,OM a,PE,O0];rfl
theorem zQ(ts:List Tp){i:Nat}(h:i<=ts.length):(rc ts i).length=ts.length:=by unfold rc;simp;omega
theorem H8(ts:List Tp){i:Nat}(h:ts.length<=i):rc ts i=ts.map Tp.tree:=by
 unfold rc;rw[Oy h,show ts.length-i=0 by omega];simp
theorem bm:rT Tryz.prog 30=some 4:=by kernel_rfl
theorem ia:jP Tryz.prog 28=some (67,4,80):=by kernel_rfl
theorem Cg:(Tryz.prog.info? 24).map (·.size)=some 1:=by kernel_rfl
theorem mv:(Tryz.prog.info? 30).map (·.size)=some 4:=by kernel_rfl
theorem mw:sM Tryz.prog 30=some ([(0,3),(3,1)],[.string (⟨#[]⟩),.bool false,.slice none 0 0,.slice none 0 0]):=by kernel_rfl
theorem gG:sM Tryz.prog 67=some ([(0,1),(1,3)],[.slice none 0 0,.bool false,.slice none 0 0,.slice none 0 0]):=by kernel_rfl
theorem iS:gJ Tryz.prog 30=some [.string (⟨#[]⟩),.bool false,.slice none 0 0,.slice none 0 0]:=by kernel_rfl
theorem wm(t:Tp)(h:FitT t)(a:t.vals.length<=65536):Ct 85 [t.tree] (t.tree):=by
 refine Ct.of (n:=10) Tryz.func85 Z Z Z Z Z fun w0 G0=>?_
 refine ab<|aj 2 Z<|ab<|dS (ops:=[_,_,_,_,_,_,_]) (fu:=8) (bs':=[(67,(bY t)),(67,(bY t))]) [some 3,some 4,some 5,some 6,some 7,some 8,some 9] [.box 0 0,.sl (t.vals.map V.tree),.sl (t.vals.map V.tree),.box 0 1,.agg (aZ t.prob),.agg (aZ t.prob),.agg (bY t)] (by kernel_rfl) Z Z Z Z Z (by kernel_rfl) (by kernel_rfl) Z Z Z Z Z Z Z Z tL Z Z Z ?_ ?_
 ·refine Chain.op Z (aq Z Z bW Z)<|Chain.op Z (ay Z Z Z cJ Z)<|Chain.op Z (ak Z (EQ _ a) Z Z)<|Chain.op Z (aq Z Z d5 Z)<|Chain.op Z (aR Z Z Z aI Z Z)<|Chain.op Z (ak Z (pH _ h.p) Z Z)<|Chain.op Z (gi Z gG Z Z Z)<|Chain.nil
 refine ax<|⟨.inr Z,_,.cons ⟨_,_,_,_,Z,Z,.inl ⟨_,eT,Z,Z⟩⟩ .nil,Z,Z⟩
theorem H9(r:Rel)(h:FitR r):Ct 83 [r.tree] (.agg [sT r.sch.name,bT r.sch.cert,.sl (r.sch.cols.map Col.tree),.tl (r.tups.map Tp.tree)]):=by
 refine Ct.of (n:=35) Tryz.func83 Z Z Z Z Z fun w0 G0=>?_
 refine ab<|aj 2 Z<|ab<|eH (sl':=[(0,.agg (a7 r)),(1,.box 0 0),(2,.box 1 0)]) ⟨Z,⟨Z,⟨Z,trivial⟩⟩⟩<|di (fu:=3) [some 6,some 7,some 8,some 9,some 10,some 11,some 12,some 3,none] [5,7,8] [.box 0 0,.agg (fm r.sch),.box 0 3,.sl (r.tups.map Tp.tree),nI r.tups.length,.own 0,.agg [sT r.sch.name,bT r.sch.cert,.sl (r.sch.cols.map Col.tree),.own 0],.any,.any] [⟨[5],[(0,.agg (a7 r)),(1,.box 0 0),(2,.box 1 0)],[(30,(a7 r)),(30,dB)],[some ⟨67,4,List.replicate r.tups.length MC,true⟩],[.box 0 0,.agg (fm r.sch),.box 0 3,.sl (r.tups.map Tp.tree),nI r.tups.length,.own 0,.agg [sT r.sch.name,bT r.sch.cert,.sl (r.sch.cols.map Col.tree),.own 0],.any,.any]⟩,⟨[7],[(0,.agg (a7 r)),(1,.box 0 0),(2,.box 1 0)],[(30,(a7 r)),(30,dB),(30,dB)],[],[.box 0 0,.agg (fm r.sch),.box 0 3,.sl (r.tups.map Tp.tree),nI r.tups.length,.own 0,.agg [sT r.sch.name,bT r.sch.cert,.sl (r.sch.cols.map Col.tree),.own 0],.box 2 0,.any]⟩,⟨[7,5],[(0,.agg (a7 r)),(1,.box 0 0),(2,.box 1 0)],[(30,(a7 r)),(30,dB),(30,dB)],[some ⟨67,4,List.replicate r.tups.length MC,true⟩],[.box 0 0,.agg (fm r.sch),.box 0 3,.sl (r.tups.map Tp.tree),nI r.tups.length,.own 0,.agg [sT r.sch.name,bT r.sch.cert,.sl (r.sch.cols.map Col.tree),.own 0],.box 2 0,.any]⟩] ⟨[8,7,5],[(0,.agg (a7 r)),(1,.box 0 0),(2,.box 1 0)],[(30,(a7 r)),(30,dB),(30,[sT r.sch.name,bT r.sch.cert,.sl (r.sch.cols.map Col.tree),.own 0])],[some ⟨67,4,List.replicate r.tups.length MC,true⟩],[.box 0 0,.agg (fm r.sch),.box 0 3,.sl (r.tups.map Tp.tree),nI r.tups.length,.own 0,.agg [sT r.sch.name,bT r.sch.cert,.sl (r.sch.cols.map Col.tree),.own 0],.box 2 0,.any]⟩ (by kernel_rfl) Z (by kernel_rfl) (by kernel_rfl) (by kernel_rfl) Z Z ?_ ?_
 ·refine .opp [] (.okk Z (aq Z Z dl Z)<|.okk Z (aq Z Z dl Z)<|.okk Z (aq Z Z dl Z)<|.okk Z (aq Z Z dl Z)<|.fin)<|.opp [0] (.okk Z (aR Z Z Z gA Z Z)<|.okk Z (aR Z Z Z gA Z Z)<|.okk Z (aR Z Z Z gA Z Z)<|.okk Z (aR Z Z Z gA Z Z)<|.fin)<|.opp [] (.okk Z (aq Z Z a6 Z)<|.no (by kernel_rfl)<|.okk Z (aq Z Z a6 Z)<|.fin)<|.opp [2] (.okk Z (ay Z Z Z bz Z)<|.no (by kernel_rfl)<|.okk Z (ay Z Z Z bz Z)<|.fin)<|.opp [3] (.okk Z (ah (aW Z aM Z) (by simp only[Ol]))<|.no (by kernel_rfl)<|.okk Z (ah (aW Z aM Z) (by simp only[Ol]))<|.fin)<|.opp [4] (.wr 1 id (.own 0) (by kernel_rfl) Z Z (Dq (m:=r.tups.length) (zt:=MC) Z Z Z ia gB Z Z (rfl) (rfl) Z (by have:=h.tups;omega) Z Z Z) Z Z Z Z (.k Z (.k Z (.k Z (.k Z (.k Z (.i Z (.k Z (.k Z (.k Z .nil)))))))))<|.no (by kernel_rfl)<|.wr 3 id (.own 0) (by kernel_rfl) Z Z (Dq (m:=r.tups.length) (zt:=MC) Z Z Z ia gB Z Z (rfl) (rfl) Z (by have:=h.tups;omega) Z Z Z) Z Z Z Z (.k Z (.k Z (.k Z (.k Z (.k Z (.i Z (.k Z (.k Z (.k Z .nil)))))))))<|.fin)<|.opp [1,5] (.no (by kernel_rfl)<|.okk Z (gi Z mw Z Z Z)<|.no (by kernel_rfl)<|.okk Z (gi Z mw Z Z Z)<|.fin)<|.opp [] (.wr 2 id (.box 2 0) (by kernel_rfl) Z Z (jR Z Z Z iS Z Z Z Z) Z Z Z Z (.k Z (.k Z (.k Z (.k Z (.k Z (.k Z (.k Z (.i Z (.k Z .nil)))))))))<|.wr 3 id (.box 2 0) (by kernel_rfl) Z Z (jR Z Z Z iS Z Z Z Z) Z Z Z Z (.k Z (.k Z (.k Z (.k Z (.k Z (.k Z (.k Z (.i Z (.k Z .nil)))))))))<|.fin)<|.opp [6,7] (.nos 3<|.wr 4 id .any (by kernel_rfl) Z Z (gm Z Z Z Z Z Z Z Z mv Z Z Z) Z Z Z Z (.k Z (.k Z (.k Z (.k Z (.k Z (.k Z (.k Z (.k Z (.i Z .nil)))))))))<|.fin)<|.nil
 refine ab<|ae<|aa 3 Z<|ag Z Z Z (ak Z (v7 _ h.cols) Z Z)<|aa 3 Z<|af<|ab<|ab<|ae<|aa 2 Z<|ag (t:=nI r.tups.length) Z Z Z (ah (aW Z aM Z) (by simp only[Ol]))<|aa 1 Z<|af<|aA<|aO (fun e g=>∃(i:Nat),(i<=r.tups.length)/\e=r.tups.length-i/\g=⟨35,[(2,.box 1 0),(3,.box 2 0),(20,.sl (r.tups.map Tp.tree)),(21,nI r.tups.length),(22,nI i)],[(30,(a7 r)),(30,dB),(30,[sT r.sch.name,bT r.sch.cert,.sl (r.sch.cols.map Col.tree),.own 0])],[some ⟨67,4,rc r.tups i,true⟩]⟩) 3 1 ⟨0,OA _,Z,Z⟩ .rf ?_;rintro e g ⟨i,l,rfl,rfl⟩;have o:=h.tups;have p:(rc r.tups i).length=r.tups.length:=zQ _ l;refine ab<|ae<|ag (t:=bT (decide (i<r.tups.length))) Z Z Z (ah (ai Z Z Z Zy) (au (gK i r.tups.length)))<|af<|ab<|aD Z (fun d=>?_) (fun d=>?_)
 ·refine ar<|ab<|aA<|ab ?_;obtain⟨t,a⟩:∃t,r.tups[i]? =some t:=⟨_,Og (by omega)⟩;have c:=h.tup t (Om a);refine ae<|aa 1 Z<|ag (t:=.ref (bY t)) Z Z Z (aK (Tp.tree t) Z aM Z Z Z (aX (f:=Tp.tree) a) (bS _) Z)<|aa 4 Z<|af<|eH (sl':=[(2,.box 1 0),(3,.box 2 0),(20,.sl (r.tups.map Tp.tree)),(21,nI r.tups.length),(22,nI i),(23,bT (decide (i<r.tups.length))),(5,.box 3 0),(4,nI i)]) ⟨Z,⟨Z,⟨Z,⟨Z,⟨Z,⟨Z,⟨Z,⟨Z,trivial⟩⟩⟩⟩⟩⟩⟩⟩<|di (fu:=1) [some 27,some 28,some 29,some 30,some 31,some 32,none] [6] [.box 2 3,.own 0,nI i,.agg (bY t),.agg (bY t),.elp 0 (i*4),.any] [] ⟨[6],[(2,.box 1 0),(3,.box 2 0),(20,.sl (r.tups.map Tp.tree)),(21,nI r.tups.length),(22,nI i),(23,bT (decide (i<r.tups.length))),(5,.box 3 0),(4,nI i)],[(30,(a7 r)),(30,dB),(30,[sT r.sch.name,bT r.sch.cert,.sl (r.sch.cols.map Col.tree),.own 0]),(67,(bY t))],[some ⟨67,4,rc r.tups (i+1),true⟩],[.box 2 3,.own 0,nI i,.agg (bY t),.agg (bY t),.elp 0 (i*4),.any]⟩ (by kernel_rfl) Z (by kernel_rfl) (by kernel_rfl) (by kernel_rfl) Z Z ?_ ?_
  ·refine .opp [] (.okk Z (aq Z Z a6 Z)<|.fin)<|.opp [0] (.okk Z (ay Z Z Z bz Z)<|.fin)<|.opp [] (.okk Z (av Z Z)<|.fin)<|.opp [] (.okk Z (aR Z Z Z eT Z Z)<|.fin)<|.opp [3] (.okk Z (ak Z (wm t c.1 c.2) Z Z)<|.fin)<|.opp [1,2] (.okk Z (fk (j:=i) Z aM Z Z Z Z Z (by show i<(rc r.tups i).length;omega) Z)<|.fin)<|.opp [4,5] (.wr 1 id .any (by kernel_rfl) Z Z (m6 (j:=i) Z Z Z Z Z (by show i<(rc r.tups i).length;rw[zQ _ (by omega)];omega) Z Z Z Z Z tL Z (congrArg (fun b=>[some (⟨67,4,b,true⟩:Row)]) (H7 a))) Z Z Z Z (.k Z (.k Z (.k Z (.k Z (.k Z (.k Z (.i Z .nil)))))))<|.fin)<|.nil
  refine ae<|ag (t:=nI (i+1)) Z Z Z (ah (ai Z Z Z Zy) (bp (by omega)))<|aa 1 Z<|af<|⟨_,_,?_,⟨i+1,?_,Z,Z⟩,.rf⟩
  ·omega
  omega
 refine aQ<|ab<|Gy 0 (bs':=[(30,(a7 r)),(30,dB),(30,[sT r.sch.name,bT r.sch.cert,.sl (r.sch.cols.map Col.tree),.tl (rc r.tups i)])]) (rs':=[none]) Z Z Z Z Z<|aj 2 Z<|ax<|⟨.inr Z,_,.cons ⟨_,_,_,_,Z,Z,.inl ⟨_,bm,Z,Z⟩⟩ .nil,(congrArg (fun b=>Tree.agg [sT r.sch.name,bT r.sch.cert,.sl (r.sch.cols.map Col.tree),.tl b]) (H8 _ (by omega))),Z⟩
theorem wn{vs:List V}{ts:List Tp}{i:Nat}{t:Tp}(h:ts[i]? =some t)(c:bg t.vals vs<0)(a:(ts.drop i).takeWhile (fun t=>decide (bg t.vals vs<0))=(ts.takeWhile fun t=>decide (bg t.vals vs<0)).drop i):(ts.drop (i+1)).takeWhile (fun t=>decide (bg t.vals vs<0))=(ts.takeWhile fun t=>decide (bg t.vals vs<0)).drop (i+1):=by
 obtain⟨b,rfl⟩:=Ok.1 h;rw[Ow b,PH,decide_eq_true c]at a;have:=congrArg List.tail a;simpa[List.tail_drop]using this
def mP:Tp:=⟨[],0⟩
theorem lq{α:Type}{l:List α}{i:Nat}{d:α}(h:i<l.length):l[i]? =some ((l[i]?).getD d):=by rw[Og h];rfl
theorem DX{r:Rel}(a:FitR r)(i:Nat):((r.tups[i]?).getD mP).vals.length<=65536:=by
 cases h:r.tups[i]? with
 |none=>simp[mP]
 |some t=>exact(a.tup t (Om h)).2
theorem zR{vs:List V}{ts:List Tp}{i:Nat}(b:(ts.drop i).takeWhile (fun t=>decide (bg t.vals vs<0))=(ts.takeWhile fun t=>decide (bg t.vals vs<0)).drop i)(d:i<=xV vs ts)(c:(decide (i<ts.length)&&decide (bg ((ts[i]?).getD mP).vals vs<0))=false):i=xV vs ts:=by
 have e:(ts.drop i).takeWhile (fun t=>decide (bg t.vals vs<0))=[]:=by
  by_cases a:i<ts.length
  ·rw[Ow a,PH];rw[decide_eq_true a,QA,Og a,OW]at c;rw[c];rfl
  rw[Ov (by omega)];rfl
 rw[e]at b;have:=congrArg List.length b;rw[OP]at this;unfold xV at d⊢;simp only[Ou]at this;omega
theorem DY{vs:List V}{ts:List Tp}{i:Nat}{t:Tp}(h:ts[i]? =some t)(c:bg t.vals vs<0)(a:(ts.drop i).takeWhile (fun t=>decide (bg t.vals vs<0))=(ts.takeWhile fun t=>decide (bg t.vals vs<0)).drop i):i+1<=xV vs ts:=by
 obtain⟨b,rfl⟩:=Ok.1 h;rw[Ow b,PH,decide_eq_true c]at a;have:=congrArg List.length a;rw[OP]at this;unfold xV;simp only[if_true,Oi]at this;omega
theorem nn{r:Rel}(h:bD r=0):bU r.sch none r.tups=0:=by
 unfold bD at h;split at h
 ·cases h
 split at h
 ·cases h
 split at h
 ·next h1=>exact absurd h h1
 next h1=>exact PV.1 h1
theorem iU(r:Rel)(t:Tp):(tO r t).plain=true:=by unfold tO;split<;>rfl
theorem mx:(Tryz.prog.info? 28).map (·.size)=some 1:=by kernel_rfl
theorem jh(r:Rel)(T:FitR r):Ct 21 [r.tree] (iT (bD r)):=by
 refine Ct.of (n:=76) Tryz.func21 Z Z Z Z Z fun w0 G0=>?_
 refine ab<|aj 2 Z<|ab<|ab<|ae<|aa 2 Z<|ag Z Z Z (ak Z (j2 r.sch) Z Z)<|ag (t:=bT (!(gt r.sch))) Z Z Z (dw Z Z Zy)<|af<|aH Z (fun z=>?_) (fun z=>?_)
 ·refine ab<|aj 1 Z<|ax<|⟨.inr Z,_,.cons Z .nil,ez (by unfold bD;rw[if_pos (by simpa using z)]),Z⟩
 have d:gt r.sch=true:=by simpa using z
 refine ar<|ab<|ab<|ae<|aa 2 Z<|ag (t:=nI r.tups.length) Z Z Z (ah (aW Z aM Z) (by simp only[Ol]))<|ag (t:=bT (decide (64<r.tups.length))) Z Z Z (ah (ai Z Z Z Zy) (au (qH r.tups.length 64)))<|af<|aD Z (fun c=>?_) (fun c=>?_)
 ·refine ab<|aj 1 Z<|ax<|⟨.inr Z,_,.cons Z .nil,ez (by unfold bD;rw[if_neg (by rw[d];simp),if_pos c]),Z⟩
 refine ar<|ab<|ab<|ae<|aa 2 Z<|ag (t:=nI r.tups.length) Z Z Z (ah (aW Z aM Z) (by simp only[Ol]))<|aa 1 Z<|af<|aA<|aO (fun w y=>∃(i:Nat),(i<=r.tups.length/\bU r.sch (hO r.tups i) (r.tups.drop i)=bU r.sch none r.tups)/\w=r.tups.length-i/\y=⟨76,[(1,.box 0 0),(20,.sl (r.tups.map Tp.tree)),(21,nI r.tups.length),(22,nI i)],[(30,(a7 r))],[]⟩) 1 0 ⟨0,⟨by omega,Z⟩,Z,Z⟩ .rf ?_;rintro w y ⟨i,⟨W,a⟩,rfl,rfl⟩;refine ab<|ae<|ag (t:=bT (decide (i<r.tups.length))) Z Z Z (ah (ai Z Z Z Zy) (au (gK i r.tups.length)))<|af<|ab<|aD Z (fun S=>?_) (fun S=>?_)
 ·obtain⟨t,l⟩:∃t,r.tups[i]? =some t:=⟨_,Og S⟩;have N:=T.tup t (Om l);refine ar<|ab<|aA<|ab<|ae<|aa 1 Z<|ag (t:=.ref (bY t)) Z Z Z (aK (Tp.tree t) Z aM Z Z Z (aX (f:=Tp.tree) l) (bS _) Z)<|aa 4 Z<|af<|ab<|ab<|ae<|aa 3 Z<|ag Z Z Z (ak Z (zx r.sch t N.1) Z Z)<|aa 1 Z<|af<|ab<|ae<|aa 1 Z<|ag (t:=bT ((bV r.sch t) !=0)) Z Z Z (ai Z Z Z Zy)<|af<|aH Z (fun H=>?_) (fun H=>?_)
  ·have Q:bV r.sch t≠0:=by simpa using H
   refine ab<|aj 2 Z<|ax<|⟨.inr Z,_,.cons Z .nil,ez (by unfold bD;rw[if_neg (by rw[d];simp),if_neg c,<-a,rB l Q,if_pos Q]),Z⟩
  have M:bV r.sch t=0:=by simpa using H
  refine ar<|ab<|ab<|ae<|aa 1 Z<|ag (t:=bT (decide (i=0))) Z Z Z (ah (ai Z Z Z Zy) (au (iF i 0)))<|af<|aD Z (fun F=>?_) (fun F=>?_)
  ·rw[pM l M F]at a;refine aQ<|ae<|ag (t:=nI (i+1)) Z Z Z (ah (ai Z Z Z Zy) (bp (by omega)))<|aa 1 Z<|af<|⟨_,_,?_,⟨i+1,?_,Z,Z⟩,.rf⟩
   ·omega
   exact⟨by omega,a⟩
  obtain⟨p,B⟩:∃p,r.tups[i-1]? =some p:=⟨_,Og (by omega)⟩;have U:=T.tup p (Om B);rw[rC l M F B]at a;refine ar<|ab<|ck (fu:=10) [some 36,some 37,some 38,some 39,some 40,some 41,some 42,some 43,some 44,some 45] [.box 0 3,.sl (r.tups.map Tp.tree),nI i,nI (i-1),.ref (bY p),.ref (bY p),.sl (p.vals.map V.tree),.box 1 0,.sl (t.vals.map V.tree),iT (bg p.vals t.vals)] (by kernel_rfl) Z Z (by kernel_rfl) Z ?_ ?_
  ·refine Chain.op Z (aq Z Z a6 Z)<|Chain.op Z (ay Z Z Z bz Z)<|Chain.op Z (av Z Z)<|Chain.op Z (ah (ai Z Z Z Zy) (bp (by omega)))<|Chain.op Z (aK (Tp.tree p) Z aM Z Z Z (aX (f:=Tp.tree) B) (bS _) Z)<|Chain.op Z (bu Z Z bW Z)<|Chain.op Z (be Z Z cJ Z)<|Chain.op Z (aq Z Z bW Z)<|Chain.op Z (ay Z Z Z cJ Z)<|Chain.op Z (ak Z (jF _ _ U.2 N.2) Z Z)<|Chain.nil
  refine aA<|ab<|ae<|ag (t:=bT ((bg p.vals t.vals)==0)) Z Z Z (ai Z Z Z Zy)<|aa 1 Z<|af<|aH Z (fun C=>?_) (fun C=>?_)
  ·refine ab<|aj 1 Z<|ax<|⟨.inr Z,_,.cons Z .nil,ez (by unfold bD;rw[if_neg (by rw[d];simp),if_neg c,<-a,if_pos (eq_of_beq C)];rfl),Z⟩
  have u:¬bg p.vals t.vals=0:=by simpa using C
  refine ab<|ae<|ag (t:=bT ((bg p.vals t.vals)==1)) Z Z Z (ai Z Z Z Zy)<|aa 1 Z<|af<|aH Z (fun E=>?_) (fun E=>?_)
  ·refine ab<|aj 1 Z<|ax<|⟨.inr Z,_,.cons Z .nil,ez (by unfold bD;rw[if_neg (by rw[d];simp),if_neg c,show bU r.sch none r.tups=1 from by rw[<-a,if_neg u,if_pos (eq_of_beq E)]];rfl),Z⟩
  have K:¬bg p.vals t.vals=1:=by simpa using E
  rw[if_neg u,if_neg K]at a;refine ar<|ae<|ag (t:=nI (i+1)) Z Z Z (ah (ai Z Z Z Zy) (bp (by omega)))<|aa 1 Z<|af<|⟨_,_,?_,⟨i+1,?_,Z,Z⟩,.rf⟩
  ·omega
  exact⟨by omega,a⟩
 have e:bU r.sch none r.tups=0:=by rw[<-a,Ov (by omega)];cases hO r.tups i<;>rfl
 refine aQ<|ab<|ae<|aa 1 Z<|ag Z Z Z (ak Z (EX r T (zD e)) Z Z)<|aa 1 Z<|af<|ab<|ab<|ae<|aa 1 Z<|ag (t:=nI ((bf r).length)) Z Z Z (ah (aW Z cA Z) (by simp only[Ol]))<|aa 1 Z<|af<|aA<|aO (fun w y=>∃(j:Nat),(j<=(bf r).length/\∀(m:Nat) (b:List Nat),(bf r)[m]? =some b->m<j->¬16<b.length)/\w=(bf r).length-j/\y=⟨76,[(1,.box 0 0),(6,.sl ((bf r).map jo)),(53,.sl ((bf r).map jo)),(54,nI ((bf r).length)),(55,nI j)],[(30,(a7 r))],[]⟩) 1 0 ⟨0,⟨by omega,fun m b _ h=>by omega⟩,Z,Z⟩ .rf ?_;rintro w y ⟨j,⟨hj,v⟩,rfl,rfl⟩;have X:=tQ r;refine ab<|ae<|ag (t:=bT (decide (j<(bf r).length))) Z Z Z (ah (ai Z Z Z Zy) (au (gK j ((bf r).length))))<|af<|ab<|aD Z (fun L=>?_) (fun L=>?_)
 ·obtain⟨b,G⟩:∃b,(bf r)[j]? =some b:=⟨_,Og L⟩;refine ar<|ab<|aA<|ab<|ae<|ag (t:=.ref [.sl (b.map fV)]) Z Z Z (aK (jo b) Z cA Z Z Z (aX (f:=jo) G) (ml _) Z)<|aa 2 Z<|af<|ab<|ae<|aa 1 Z<|ag (t:=nI b.length) Z Z Z (ah (aW Z cL Z) (by simp only[Ol]))<|ag (t:=bT (decide (16<b.length))) Z Z Z (ah (ai Z Z Z Zy) (au (qH b.length 16)))<|af<|aD Z (fun A=>?_) (fun A=>?_)
  ·refine ab<|aj 1 Z<|ax<|⟨.inr Z,_,.cons Z .nil,ez (by unfold bD;rw[if_neg (by rw[d];simp),if_neg c,if_neg (by rw[e];simp),if_pos (vV G A)]),Z⟩
  refine ar<|ae<|ag (t:=nI (j+1)) Z Z Z (ah (ai Z Z Z Zy) (bp (by omega)))<|aa 1 Z<|af<|⟨_,_,?_,⟨j+1,?_,Z,Z⟩,.rf⟩
  ·omega
  refine⟨by omega,fun m b D h=>?_⟩;rcases OS m j with O|O
  ·exact v m b D O
  obtain rfl:m=j:=by omega
  rw[G]at D;cases D;exact A
 have g:rY (bf r)=false:=oE fun k b I=>v k b I (by have:=(Ok.1 I).1;omega)
 refine aQ<|ab<|ab<|ae<|aa 1 Z<|ag (t:=nI ((bf r).length)) Z Z Z (ah (aW Z cA Z) (by simp only[Ol]))<|aa 1 Z<|af<|aA<|aO (fun w y=>∃(k:Nat),(k<=(bf r).length/\∀(m:Nat) (b:List Nat),(bf r)[m]? =some b->m<k->¬cF (1-eJ r.tups b)<0)/\w=(bf r).length-k/\y=⟨76,[(1,.box 0 0),(6,.sl ((bf r).map jo)),(63,.sl ((bf r).map jo)),(64,nI ((bf r).length)),(65,nI k)],[(30,(a7 r))],[]⟩) 1 0 ⟨0,⟨by omega,fun m b _ h=>by omega⟩,Z,Z⟩ .rf ?_;rintro w y ⟨k,⟨I,R⟩,rfl,rfl⟩;refine ab<|ae<|ag (t:=bT (decide (k<(bf r).length))) Z Z Z (ah (ai Z Z Z Zy) (au (gK k ((bf r).length))))<|af<|ab<|aD Z (fun x=>?_) (fun x=>?_)
 ·obtain⟨b,s⟩:∃b,(bf r)[k]? =some b:=⟨_,Og x⟩;have o:=vX r b (Om s);have J:b.length<=16:=by have:=Qj.1 g b (Om s);simpa using this
  have P:=nL e o.2 J;refine ar<|ab<|aA<|ab<|ae<|ag (t:=.ref [.sl (b.map fV)]) Z Z Z (aK (jo b) Z cA Z Z Z (aX (f:=jo) s) (ml _) Z)<|aa 2 Z<|af<|ab<|ae<|aa 2 Z<|ag Z Z Z (ak Z (Ho r b o.2 (by omega) (fun t Y=>(T.tup t Y).1.p) (fun j hj=>(nL e (fun i W=>o.2 i (OV W)) (by rw[Ox];omega)).1)) Z Z)<|ag Z Z Z (ak Z (tJ _ P.1) Z Z)<|ag Z Z Z (ak Z (lk _ P.2) Z Z)<|ag (t:=bT (decide ((cF (1-eJ r.tups b))<0))) Z Z Z (ai Z Z Z Zy)<|af<|aD Z (fun q=>?_) (fun q=>?_)
  ·refine ab<|aj 1 Z<|ax<|⟨.inr Z,_,.cons Z .nil,ez (by unfold bD;rw[if_neg (by rw[d];simp),if_neg c,if_neg (by rw[e];simp),if_neg (by rw[g];simp),if_pos (tN s q)]),Z⟩
  refine ar<|ae<|ag (t:=nI (k+1)) Z Z Z (ah (ai Z Z Z Zy) (bp (by omega)))<|aa 1 Z<|af<|⟨_,_,?_,⟨k+1,?_,Z,Z⟩,.rf⟩
  ·omega
  refine⟨by omega,fun m b D h=>?_⟩;rcases OS m k with O|O
  ·exact R m b D O
  obtain rfl:m=k:=by omega
  rw[s]at D;cases D;exact q
 refine aQ<|ab<|aj 1 Z<|ax<|⟨.inr Z,_,.cons Z .nil,ez (by unfold bD;rw[if_neg (by rw[d];simp),if_neg c,if_neg (by rw[e];simp),if_neg (by rw[g];simp),if_neg (by rw[ni fun k b I=>R k b I (by have:=(Ok.1 I).1;omega)];simp)]),Z⟩
theorem wt(r:Rel)(t:Tp)(k:FitR r)(q:FitT t)(l:t.vals.length<=65536):Ct 30 [r.tree,t.tree] (tO r t):=by
 refine Ct.of (n:=89) Tryz.func30 Z Z Z Z Z fun w0 G0=>?_
 refine ab<|aj 4 Z<|ab<|ab<|ae<|aa 1 Z<|ag Z Z Z (ak Z (jh r k) Z Z)<|aa 1 Z<|af<|ab<|ae<|aa 1 Z<|ag (t:=bT ((bD r) !=0)) Z Z Z (ai Z Z Z Zy)<|af<|aH Z (fun m=>?_) (fun m=>?_)
 ·have z:bD r≠0:=by simpa using m
  refine ab<|aj 4 Z<|ax<|⟨.inr Z,_,.cons ⟨_,_,_,_,Z,Z,.inl ⟨_,bm,Z,Z⟩⟩ (.cons Z .nil),by unfold tO;rw[show dH r t=bD r from by unfold dH;rw[if_pos z]];rw[if_neg z];rfl,iU r t⟩
 have y:bD r=0:=by simpa using m
 have B:=nn y;refine ar<|ab<|ab<|ae<|aa 3 Z<|ag Z Z Z (ak Z (zx r.sch t q) Z Z)<|aa 1 Z<|af<|ab<|ae<|aa 1 Z<|ag (t:=bT ((bV r.sch t) !=0)) Z Z Z (ai Z Z Z Zy)<|af<|aH Z (fun s=>?_) (fun s=>?_)
 ·have A:bV r.sch t≠0:=by simpa using s
  refine ab<|aj 4 Z<|ax<|⟨.inr Z,_,.cons ⟨_,_,_,_,Z,Z,.inl ⟨_,bm,Z,Z⟩⟩ (.cons Z .nil),by unfold tO;rw[show dH r t=bV r.sch t from by unfold dH;rw[if_neg (by rw[y];simp),if_pos A]];rw[if_neg A];rfl,iU r t⟩
 have h:bV r.sch t=0:=by simpa using s
 refine ar<|ab<|ab<|ae<|aa 3 Z<|ag Z Z Z (ak Z (Ki r t.vals l k.tups (fun t I=>(k.tup t I).2)) Z Z)<|aa 5 Z<|af<|ab<|aj 1 Z<|aH Z (fun v=>?_) (fun v=>?_)
 ·refine ab<|aj 3 Z<|ax<|⟨.inr Z,_,.cons ⟨_,_,_,_,Z,Z,.inl ⟨_,bm,Z,Z⟩⟩ (.cons Z .nil),by unfold tO;rw[show dH r t=8 from by unfold dH;rw[if_neg (by rw[y];simp),if_neg (by rw[h];simp),if_pos v]];rfl,iU r t⟩
 have o:=v;refine ar<|ab<|ae<|aa 3 Z<|ag Z Z Z (ak Z (B6 r t.vals k.cols k.tups) Z Z)<|aa 1 Z<|af<|ab<|ab<|ae<|aa 2 Z<|ag (t:=nI r.tups.length) Z Z Z (ah (aW Z aM Z) (by simp only[Ol]))<|ag (t:=bT (decide (64<=r.tups.length))) Z Z Z (ah (ai Z Z Z Zy) (au (Gg r.tups.length 64)))<|aa 1 Z<|aw (t:=.sl ((gw r t.vals).map fV)) Z Z Z Z (fun a=>av Z Z)<|aw (t:=nI ((gw r t.vals).length)) Z Z Z Z (fun a=>ah (aW Z cL (if_pos a)) (by simp only[Ol]))<|aw (t:=bT (decide (16<=(gw r t.vals).length))) Z Z Z Z (fun a=>ah (ai Z (if_pos a) Z (fun _=>rfl)) (au (Gg ((gw r t.vals).length) 16)))<|ag (t:=bT ((decide (64<=r.tups.length))||(decide (16<=(gw r t.vals).length)))) Z Z Z (aL Z Z (fun g=>(au (by rw[g];rfl))) (fun g=>(if_pos g).trans (au (by rw[g];rfl))))<|af<|aH Z (fun w=>?_) (fun w=>?_)
 ·refine ab<|aj 3 Z<|ax<|⟨.inr Z,_,.cons ⟨_,_,_,_,Z,Z,.inl ⟨_,bm,Z,Z⟩⟩ (.cons Z .nil),by unfold tO;rw[show dH r t=4 from by unfold dH;rw[if_neg (by rw[y];simp),if_neg (by rw[h];simp),if_neg (by rw[o];simp),if_pos (by simpa using w)]];rfl,iU r t⟩
 have F:¬(64<=r.tups.length\/16<=(gw r t.vals).length):=by simpa using w
 have b:=Mc r t.vals;have E:=nL B b.2 (by omega);refine ar<|ab<|ab<|ck (fu:=8) [some 50,some 51,some 52,some 53,some 54,some 55,some 56,some 57] [.box 1 1,.agg (aZ t.prob),.agg (a7 r),.sl ((gw r t.vals).map fV),.agg [bT (decide ((eJ r.tups (gw r t.vals)).num<0)),aG ((eJ r.tups (gw r t.vals)).num.natAbs),aG ((eJ r.tups (gw r t.vals)).den)],.agg [bT (decide ((1-eJ r.tups (gw r t.vals)).num<0)),aG ((1-eJ r.tups (gw r t.vals)).num.natAbs),aG ((1-eJ r.tups (gw r t.vals)).den)],iT (qY t.prob (1-eJ r.tups (gw r t.vals))),bT (decide ((qY t.prob (1-eJ r.tups (gw r t.vals)))>0))] (by kernel_rfl) Z Z (by kernel_rfl) Z ?_ ?_
 ·refine Chain.op Z (aq Z Z d5 Z)<|Chain.op Z (aR Z Z Z aI Z Z)<|Chain.op Z (aR Z Z Z bm Z Z)<|Chain.op Z (av Z Z)<|Chain.op Z (ak Z (Ho r _ b.2 (by omega) (fun t I=>(k.tup t I).1.p) (fun j M=>(nL B (fun i H=>b.2 i (OV H)) (by rw[Ox];omega)).1)) Z Z)<|Chain.op Z (ak Z (tJ _ E.1) Z Z)<|Chain.op Z (ak Z (Kk _ _ q.p E.2) Z Z)<|Chain.op Z (ai Z Z Z Zy)<|Chain.nil
 refine aD Z (fun u=>?_) (fun u=>?_)
 ·refine ab<|aj 3 Z<|ax<|⟨.inr Z,_,.cons ⟨_,_,_,_,Z,Z,.inl ⟨_,bm,Z,Z⟩⟩ (.cons Z .nil),by unfold tO;rw[show dH r t=19 from by unfold dH;rw[if_neg (by rw[y];simp),if_neg (by rw[h];simp),if_neg (by rw[o];simp),if_neg F,if_pos u]];rfl,iU r t⟩
 refine ar<|ab<|aj 1 Z<|ab<|aA<|aO (fun K L=>∃(i:Nat),(i<=r.tups.length/\(r.tups.drop i).takeWhile (fun x=>decide (bg x.vals t.vals<0))=(r.tups.takeWhile fun x=>decide (bg x.vals t.vals<0)).drop i/\i<=xV t.vals r.tups)/\K=r.tups.length-i/\L=⟨89,[(2,.box 0 0),(3,.box 1 0),(4,.box 2 0),(11,nI i)],[(30,(a7 r)),(67,(bY t)),(30,dB)],[]⟩) 3 0 ⟨0,⟨by omega,Z,by omega⟩,Z,Z⟩ .rf ?_;rintro K L ⟨i,⟨H,e,J⟩,rfl,rfl⟩;refine ab<|ab<|ck (fu:=17) [some 59,some 60,some 61,some 62,some 63,some 64,some 65,some 66,some 67,some 68,some 69,some 70,some 71,some 72,some 73,some 74,some 75] [nI i,.box 0 3,.sl (r.tups.map Tp.tree),nI r.tups.length,bT (decide (i<r.tups.length)),bT (decide (i<r.tups.length)),if(decide (i<r.tups.length))=true then(.box 0 3:Tree)else .sc undef,if(decide (i<r.tups.length))=true then(.sl (r.tups.map Tp.tree):Tree)else .sc undef,if(decide (i<r.tups.length))=true then(nI i:Tree)else .sc undef,if(decide (i<r.tups.length))=true then(.ref [.sl ((((r.tups[i]?).getD mP).vals).map V.tree),bT (decide (((r.tups[i]?).getD mP).prob.num<0)),aG (((r.tups[i]?).getD mP).prob.num.natAbs),aG (((r.tups[i]?).getD mP).prob.den)]:Tree)else .sc undef,if(decide (i<r.tups.length))=true then(.ref [.sl ((((r.tups[i]?).getD mP).vals).map V.tree),bT (decide (((r.tups[i]?).getD mP).prob.num<0)),aG (((r.tups[i]?).getD mP).prob.num.natAbs),aG (((r.tups[i]?).getD mP).prob.den)]:Tree)else .sc undef,if(decide (i<r.tups.length))=true then(.sl ((((r.tups[i]?).getD mP).vals).map V.tree):Tree)else .sc undef,if(decide (i<r.tups.length))=true then(.box 1 0:Tree)else .sc undef,if(decide (i<r.tups.length))=true then(.sl (t.vals.map V.tree):Tree)else .sc undef,if(decide (i<r.tups.length))=true then(iT (bg ((r.tups[i]?).getD mP).vals t.vals):Tree)else .sc undef,if(decide (i<r.tups.length))=true then(bT (decide ((bg ((r.tups[i]?).getD mP).vals t.vals)<0)):Tree)else .sc undef,bT ((decide (i<r.tups.length))&&(decide ((bg ((r.tups[i]?).getD mP).vals t.vals)<0)))] (by kernel_rfl) Z Z (by kernel_rfl) Z ?_ ?_
 ·refine Chain.op Z (av Z Z)<|Chain.op Z (aq Z Z a6 Z)<|Chain.op Z (ay Z Z Z bz Z)<|Chain.op Z (ah (aW Z aM Z) (by simp only[Ol]))<|Chain.op Z (ah (ai Z Z Z Zy) (au (gK i r.tups.length)))<|Chain.op Z (av Z Z)<|aU Z Z Z (fun a=>aq Z Z a6 Z)<|aU Z Z Z (fun a=>ay Z (if_pos a) Z bz Z)<|aU Z Z Z (fun a=>av Z Z)<|aU Z Z Z (fun a=>aK (Tp.tree ((r.tups[i]?).getD mP)) Z aM (if_pos a) (if_pos a) Z (aX (f:=Tp.tree) (lq (of_decide_eq_true a))) (bS _) Z)<|aU Z Z Z (fun a=>bu Z (if_pos a) bW Z)<|aU Z Z Z (fun a=>be Z (if_pos a) cJ Z)<|aU Z Z Z (fun a=>aq Z Z bW Z)<|aU Z Z Z (fun a=>ay Z (if_pos a) Z cJ Z)<|aU Z Z Z (fun a=>ak Z (jF _ _ (DX k i) l) (eo (if_pos a) (eo (if_pos a) Z)) Z)<|aU Z Z Z (fun a=>ai Z (if_pos a) Z (fun _=>rfl))<|Chain.op Z (aL Z Z (fun g=>(if_pos g).trans (au (by rw[g];rfl))) (fun g=>(au (by rw[g];rfl))))<|Chain.nil
 refine aH Z (fun c=>?_) (fun c=>?_)
 ·rw[Oo]at c;have G:=of_decide_eq_true c.1;have D:=of_decide_eq_true c.2;refine ar<|aA<|ae<|aa 1 Z<|ag (t:=nI (i+1)) Z Z Z (ah (ai Z Z Z Zy) (bp (by omega)))<|aa 1 Z<|af<|⟨_,_,?_,⟨i+1,?_,Z,Z⟩,.rf⟩
  ·omega
  exact⟨by omega,wn (lq (d:=mP) G) D e,DY (lq (d:=mP) G) D e⟩
 have C:=zR e J c;refine aQ<|ab<|ae<|aa 1 Z<|ag Z Z Z (ak Z (H9 r k) Z Z)<|aa 2 Z<|af<|ab<|dS (ops:=[_,_,_,_,_,_,_,_]) (fu:=9) (bs':=[(30,(a7 r)),(67,(bY t)),(30,dB),(30,[sT r.sch.name,bT r.sch.cert,.sl (r.sch.cols.map Col.tree),.sl ((r.tups.take i++[t]++r.tups.drop i).map Tp.tree)])]) [some 80,some 81,some 82,some 83,some 84,some 85,some 86,some 87] [.box 3 3,(.tl (r.tups.map Tp.tree)),nI i,.agg (bY t),.agg (bY t),.sl [.agg (bY t)],.sl ((r.tups.take i++[t]++r.tups.drop i).map Tp.tree),.box 3 3] (by kernel_rfl) Z Z Z Z Z (by kernel_rfl) (by kernel_rfl) Z Z Z Z Z Z Z Z mx Z Z Z ?_ ?_
 ·refine Chain.op Z (aq Z Z a6 Z)<|Chain.op Z (ay Z Z Z bz Z)<|Chain.op Z (av Z Z)<|Chain.op Z (aR Z Z Z eT Z Z)<|Chain.op Z (ak Z (wm t q l) Z Z)<|Chain.op Z (aN Z aM gB Z (by decide) (by decide) Z Z Z Z Z)<|Chain.op Z (ak Z (B9 r.tups t i H (by omega)) Z Z)<|Chain.op Z (aq Z Z a6 Z)<|Chain.nil
 refine ab<|aj 3 Z<|ax<|⟨.inr Z,_,.cons ⟨_,_,_,_,Z,Z,.inl ⟨_,bm,Z,Z⟩⟩ (.cons Z .nil),by unfold tO;rw[show dH r t=0 from by unfold dH;rw[if_neg (by rw[y];simp),if_neg (by rw[h];simp),if_neg (by rw[o];simp),if_neg F,if_neg u],if_pos Z];unfold cZ;rw[<-C];rfl,iU r t⟩
theorem EY(r:Rel)(t:Tp)(c:FitR r)(a:FitT t)(b:t.vals.length<=65536)(h:dH r t=0):Ct 30 [r.tree,t.tree] (.tup [(cZ r t).tree,iT 0]):=by
 have:=wt r t c a b;unfold tO at this;rwa[if_pos h,h]at this
theorem Ch(r:Rel)(t:Tp)(c:FitR r)(a:FitT t)(b:t.vals.length<=65536)(h:dH r t≠0):Ct 30 [r.tree,t.tree] (.tup [sn,iT (dH r t)]):=by
 have:=wt r t c a b;unfold tO at this;rwa[if_neg h]at this
theorem Ci(n:Nat)(c:n<=18446744073709551615):Ct 212 [.sc (.int .u64 (n:Nat))] (nI (Lib.bitLen n)):=Ct.sc ⟨_,Tryz.func212,Z,Z⟩ fun G w vs _ _ b=>by
 obtain⟨u,rfl,a⟩:=dZ b;cases a;refine(Tryz.bits_Len (n:Int) w (by omega) (by omega)).mono fun e w' h=>?_
 rw[QI]at h;exact⟨h.1,by rw[h.2];exact Below.refl _ _⟩
theorem pV:∀(f n:Nat),n<2^f->n<2^Lib.bitLenAux f n
 |0,n,h=>by
  have:n=0:=by simpa using h
  subst this;decide
 |f+1,n,h=>by
  unfold Lib.bitLenAux;split
  ·omega
  have:=pV f (n/2) (by rw[OO]at h;omega);rw[P0,OO];omega
theorem jA:∀(f n:Nat),Lib.bitLenAux f n<=f
 |0,n=>Oh _
 |f+1,n=>by
  unfold Lib.bitLenAux;split
  ·omega
  have:=jA f (n/2);omega
theorem zS{x y:Operand}(a j:Nat)(b:j<=64)(w:World):(do eqGuard .shr 3 x y (.int .i64 (a:Nat)) (.int .i64 ((j:Nat):Int));binOp .shr 3 (.int .i64 (a:Nat)) (.int .i64 ((j:Nat):Int)):Sem Value).run Tryz.prog w=.ok (.int .i64 ((a/2^j:Nat):Int)) w:=by
 simp[eqGuard,binOp,Op.shift,IntKind.bits];try omega
theorem Ia(n:Int):bits .and .i64 n 1=n%2:=by
 have a:(BitVec.ofInt 64 1).toNat=2^1-1:=by decide
 have key:(BitVec.ofInt 64 n&&& BitVec.ofInt 64 1).toNat=(n%((2^64:Nat):Int)).toNat%2^1:=by
  rw[BitVec.toNat_and,BitVec.toNat_ofInt,a,Qm]
 show IntKind.i64.wrap ((BitVec.ofInt 64 n&&& BitVec.ofInt 64 1).toNat:Nat)=n%2
 rw[key,Pj];omega
theorem zT{x y:Operand}(a:Nat)(w:World):(do eqGuard .and 3 x y (.int .i64 (a:Nat)) (.int .i64 1);binOp .and 3 (.int .i64 (a:Nat)) (.int .i64 1):Sem Value).run Tryz.prog w=.ok (.int .i64 ((a%2:Nat):Int)) w:=by
 have key:bits .and .i64 (a:Int) 1=((a%2:Nat):Int):=by rw[Ia];omega
 go_simp
theorem Ib{a:Int}(h: -9223372036854775808<=a)(b:a<=9223372036854775807):(Tree.sc (.int .i64 (IntKind.i64.wrap a)))=iT a:=by
 rw[Pj];congr 2;omega
theorem EZ:bP 10=4:=by decide+kernel
theorem xX{k m:Nat}(h:k<=m):(az (10^k)).length<=m+1:=bk (PP (Oq (OQ (by decide) h) (RQ (show 10<=4294967296 by decide) m)) (Qt (by decide) (Rm m)))
theorem Ic{n m:Nat}(h:n<=4*m)(a:m≠0):(az (10^n)).length<=m:=by
 refine bk (PP (OQ (by decide) h) ?_);rw[QG];exact Nat.pow_lt_pow_left (by decide) a
theorem pW{k n:Nat}(h:k<=n)(a:n<=4000):(az (10^k)).length<=1048576:=Oq (xX (m:=4000) (by omega)) (by decide)
theorem E1{n:Nat}(a:n<=4000):(az (10^n)).length<=262144:=Oq (xX (m:=4000) (by omega)) (by decide)
theorem Kr{k n:Nat}(h:k<=n)(a:n<=4000):(az (10^k*10^k)).length<=1048576:=by
 rw[<-PN];exact Oq (xX (m:=8000) (by omega)) (by decide)
theorem pX{a:Nat}(h:a<18446744073709551616):(Tree.sc (.int .u64 (IntKind.u64.wrap (a:Nat))))=.sc (.int .u64 ((a:Nat):Int)):=by
 rw[IntKind.wrap_u64];congr 2;omega
theorem Ks{n:Nat}(h:n<=4000):Ct 149 [.sc (.int .u64 1)] (aG (10^(n/2^Lib.bitLen n))):=by
 have a:=iy 1 (by decide);rw[show n/2^Lib.bitLen n=0 from Qg (pV 64 n (by omega))];exact a
theorem Mg{n i j:Nat}(a:j=i+1)(b:¬n/2^i%2=1):10^(n/2^j)*10^(n/2^j)=10^(n/2^i):=by
 subst a;rw[<-PN,OO,<-PR];congr 1;omega
theorem Kt{n i j:Nat}(a:j=i+1)(b:n/2^i%2=1):10^(n/2^j)*10^(n/2^j)*10=10^(n/2^i):=by
 subst a;rw[<-PN,<-OO,OO 2,<-PR];congr 1;omega
theorem E2{n:Nat}(b:n<=4000):bP (10^n)<=65536:=by
 have a:=Ic (m:=1000) (n:=n) (by omega) (by decide);unfold bP;split
 ·omega
 have:Lib.bitLen ((az (10^n)).getD ((az (10^n)).length-1) 0)<=64:=jA 64 _;omega
theorem Ku(n:Nat)(h:n<=4000):Ct 150 [aG 10,iT (n:Nat)] (.tup [aG (10^n),iT 0]):=by
 refine Ct.of (n:=59) Tryz.func150 Z Z Z Z Z fun w0 G0=>?_
 refine ab<|ae<|ag (t:=.sl []) Z Z Z (bI (.inr Z) bQ)<|aa 1 Z<|af<|ab<|ab<|ae<|aa 1 Z<|ag (t:=bT (decide (n<0))) Z Z Z (ah (ai Z Z Z Zy) (au (gK n 0)))<|af<|aD Z (fun g=>?_) (fun g=>?_)
 ·exact absurd g (by first|decide|omega|simp)
 refine ar<|ab<|ae<|aa 1 Z<|ag (t:=nI 4) Z Z Z (ak Z (by have h:=jG 10 (by decide);rw[EZ]at h;exact h) Z Z)<|aa 1 Z<|af<|ab<|ab<|ae<|aa 1 Z<|ag (t:=bT (decide (n=0))) Z Z Z (ah (ai Z Z Z Zy) (au (iF n 0)))<|aa 1 Z<|aw (t:=nI 4) Z Z Z Z (fun b=>av Z Z)<|aw (t:=bT (decide (4=1))) Z Z Z Z (fun b=>ah (ai Z (if_pos b) Z (fun _=>rfl)) (au (iF 4 1)))<|ag (t:=bT ((decide (n=0))||(decide (4=1)))) Z Z Z (aL Z Z (fun a=>(au (by rw[a];rfl))) (fun a=>(if_pos a).trans (au (by rw[a];rfl))))<|af<|aH Z (fun e=>?_) (fun e=>?_)
 ·obtain rfl:n=0:=by simpa using e
  refine ab<|ae<|ag Z Z Z (ak Z (iy 1 (by decide)) Z Z)<|aa 2 Z<|af<|ax<|⟨.inr Z,_,.cons Z (.cons Z .nil),Z,Z⟩
 have z:n≠0:=by simpa using e
 refine ar<|ab<|ab<|ae<|aa 1 Z<|ag (t:=bT (decide (4=0))) Z Z Z (ah (ai Z Z Z Zy) (au (iF 4 0)))<|af<|aD Z (fun q=>?_) (fun q=>?_)
 ·exact absurd q (by first|decide|omega|simp)
 refine ar<|ab<|ab<|ae<|aa 1 Z<|ag (t:=bT (decide (65536<=n))) Z Z Z (ah (ai Z Z Z Zy) (au (Gg n 65536)))<|aa 1 Z<|aw (t:=nI 4) Z Z Z Z (fun b=>av Z Z)<|aw (t:=bT (decide (65536<4))) Z Z Z Z (fun b=>ah (ai Z (if_pos b) Z (fun _=>rfl)) (au (qH 4 65536)))<|ag (t:=bT ((decide (65536<=n))||(decide (65536<4)))) Z Z Z (aL Z Z (fun a=>(au (by rw[a];rfl))) (fun a=>(if_pos a).trans (au (by rw[a];rfl))))<|aa 1 Z<|aw (t:=nI n) Z Z Z Z (fun b=>av Z Z)<|aw (t:=nI 4) Z Z Z Z (fun b=>av Z Z)<|aw (t:=nI (4-1)) Z Z Z Z (fun b=>ah (ai Z (if_pos b) Z (fun _=>rfl)) (bp (by omega)))<|aw (t:=nI (n*(4-1))) Z Z Z Z (fun b=>ah (ai Z (if_pos b) (if_pos b) (fun _=>rfl)) (bp (by omega)))<|aw (t:=bT (decide (65536<=n*(4-1)))) Z Z Z Z (fun b=>ah (ai Z (if_pos b) Z (fun _=>rfl)) (au (Gg (n*(4-1)) 65536)))<|ag (t:=bT (((decide (65536<=n))||(decide (65536<4)))||(decide (65536<=n*(4-1))))) Z Z Z (aL Z Z (fun a=>(au (by rw[a];rfl))) (fun a=>(if_pos a).trans (au (by rw[a];rfl))))<|af<|aH Z (fun r=>?_) (fun r=>?_)
 ·exact absurd r (by simp;omega)
 refine ar<|ab<|ae<|ag Z Z Z (ak Z (Ks h) Z Z)<|aa 1 Z<|af<|ab<|ab<|ae<|aa 1 Z<|ag (t:=.sc (.int .u64 ((n:Nat):Int))) Z Z Z (ah (bM Z dQ mp Z) (pX (by omega)))<|ag Z Z Z (ak Z (Ci n (by omega)) Z Z)<|ag (t:=iT (((Lib.bitLen n:Nat):Int)-1)) Z Z Z (ah (ai Z Z Z Zy) (Ib (by omega) (by have:=jA 64 n;unfold Lib.bitLen;omega)))<|aa 1 Z<|af<|aA<|aO (fun v x=>∃(j:Nat),(j<=64/\n<2^64)/\v=j+1/\x=⟨59,[(0,aG 10),(1,nI n),(7,aG (10^(n/2^j))),(8,iT (((j:Nat):Int)-1))],[],[]⟩) 0 0 ⟨(Lib.bitLen n),⟨jA 64 n,by omega⟩,Z,Z⟩ .rf ?_;rintro v x ⟨j,⟨A,d⟩,rfl,rfl⟩;refine ab<|ab<|ae<|aa 1 Z<|ag (t:=bT (decide ((((j:Nat):Int)-1)≥0))) Z Z Z (ai Z Z Z Zy)<|af<|aD Z (fun u=>?_) (fun u=>?_)
 ·obtain⟨i,o⟩:∃i,j=i+1:=⟨j-1,by omega⟩;have c:n/2^j<=n:=Ql _ _;have y:n/2^i<=n:=Ql _ _;refine ar<|ab<|aA<|ab ?_;by_cases s:n/2^i%2=1
  ·refine ae<|aa 2 Z<|ag Z Z Z (ak Z (kE _ _ (pW c h) (pW c h)) Z Z)<|aa 1 Z<|af<|ab<|ae<|aa 1 Z<|ag (t:=nI i) Z Z Z (ah (av Z Z) ((ez (by omega))))<|ag (t:=nI (n/2^i)) Z Z Z (ai Z Z Z (fun w=>zS n i (by omega) w))<|ag (t:=nI (n/2^i%2)) Z Z Z (ai Z Z Z (fun w=>zT (n/2^i) w))<|ag (t:=bT (decide (n/2^i%2=1))) Z Z Z (ah (ai Z Z Z Zy) (au (iF (n/2^i%2) 1)))<|af<|aD Z (fun m=>?_) (fun m=>?_)
   ·refine ae<|aa 2 Z<|ag (t:=aG (10^(n/2^i))) Z Z Z (ak Z (by have k:=kE _ 10 (Kr c h) (by decide);rw[Kt o s]at k;exact k) Z Z)<|aa 1 Z<|af<|ae<|ag (t:=nI i) Z Z Z (ah (av Z Z) ((ez (by omega))))<|ag (t:=iT (((i:Nat):Int)-1)) Z Z Z (ah (ai Z Z Z Zy) (Ib (by omega) (by omega)))<|aa 1 Z<|af<|⟨_,_,?_,⟨i,?_,Z,Z⟩,.rf⟩
    ·omega
    exact⟨by omega,d⟩
   exact absurd s m
  refine ae<|aa 2 Z<|ag (t:=aG (10^(n/2^i))) Z Z Z (ak Z (by have k:=kE _ _ (pW c h) (pW c h);rw[Mg o s]at k;exact k) Z Z)<|aa 1 Z<|af<|ab<|ae<|aa 1 Z<|ag (t:=nI i) Z Z Z (ah (av Z Z) ((ez (by omega))))<|ag (t:=nI (n/2^i)) Z Z Z (ai Z Z Z (fun w=>zS n i (by omega) w))<|ag (t:=nI (n/2^i%2)) Z Z Z (ai Z Z Z (fun w=>zT (n/2^i) w))<|ag (t:=bT (decide (n/2^i%2=1))) Z Z Z (ah (ai Z Z Z Zy) (au (iF (n/2^i%2) 1)))<|af<|aD Z (fun p=>?_) (fun p=>?_)
  ·exact absurd p s
  refine ar<|ae<|ag (t:=nI i) Z Z Z (ah (av Z Z) ((ez (by omega))))<|ag (t:=iT (((i:Nat):Int)-1)) Z Z Z (ah (ai Z Z Z Zy) (Ib (by omega) (by omega)))<|aa 1 Z<|af<|⟨_,_,?_,⟨i,?_,Z,Z⟩,.rf⟩
  ·omega
  exact⟨by omega,d⟩
 have f:n/2^j=n:=by
  obtain rfl:j=0:=by omega
  simp
 refine aQ<|ab<|ab<|ae<|aa 1 Z<|ag Z Z Z (ak Z (jG _ (by rw[f];exact E1 h)) Z Z)<|ag (t:=bT (decide (65536<(bP (10^(n/2^j)))))) Z Z Z (ah (ai Z Z Z Zy) (au (qH ((bP (10^(n/2^j)))) 65536)))<|af<|aD Z (fun l=>?_) (fun l=>?_)
 ·exact absurd (E2 h) (by rw[f]at l;omega)
 refine ar<|ab<|aj 3 Z<|ax<|⟨.inr Z,_,.cons Z (.cons Z .nil),by rw[f];rfl,Z⟩
end Go.Proofs.YtfoejfohbkmmeaaGreatDoor
