import Derived.Test.YtfoejfohbkmmeaaGreatDoorB30
import Derived.Test.YtfoejfohbkmmeaaGreatDoorB00
import Derived.Test.YtfoejfohbkmmeaaGreatDoorB06
import Derived.Test.YtfoejfohbkmmeaaGreatDoorB23
set_option maxRecDepth 100000
set_option maxHeartbeats 4000000
namespace Go.Proofs.YtfoejfohbkmmeaaGreatDoor
open Go.RowKit
open Lib renaming hid→J
def Cr(t:Tp):Prop:=∀v∈t.vals,v.s.size<=9223372036854775807
def IA(r:Rel):Prop:=∀t∈r.tups,Cr t
theorem uk{ts:List Tp}(h:∀t∈ts,0<=t.prob):∀(l:List Nat) (q:Rat),0<=q->0<=l.foldl (fun q i=>q+iw ts i) q
 |[],q,hq=>hq
 |i::l,q,hq=>by
  rw[Qk];refine uk h l _ ?_;have:0<=iw ts i:=by
   unfold iw;cases a:ts[i]? with
   |none=>simp
   |some t=>exact h t (Om a)
  grind
theorem Ae{r:Rel}(h:bU r.sch none r.tups=0)(b:List Nat):(!ve (eJ r.tups b))=decide (cF (1-eJ r.tups b)<0):=by
 have c:0<=eJ r.tups b:=uk (fun t a=>(kN (ij (gD h t a)).2.1).1) b 0 (by decide);unfold ve;rw[decide_eq_true (by rw[<-Int.not_lt,j3,Rat.not_lt];exact c),QA,<-decide_not];exact decide_eq_decide.2 (by omega)
def cB(r:Rel)(t:Tp):Int:=
 if bD r≠0 then bD r else if bV r.sch t≠0 then bV r.sch t else if(mN t.vals r.tups 0).isSome then 8 else bD (cZ r t)
def mR(r:Rel)(t:Tp):Tree:=.tup [if cB r t=0 then(cZ r t).tree else sn,.sc (.int .i64 (cB r t))]
theorem oL{r:Rel}(h:bD r=0):r.tups.length<=64:=by
 unfold bD at h;split at h
 ·cases h
 split at h
 ·cases h
 omega
theorem ji(r:Rel)(t:Tp):(mR r t).plain=true:=by unfold mR;split<;>rfl
theorem Af{r:Rel}{t:Tp}(d:FitR r)(c:FitT t)(b:t.vals.length<=65536)(i:r.tups.length<=64):FitR (cZ r t)/\(IA r->Cr t->IA (cZ r t)):=by
 have e:∀x∈(cZ r t).tups,x∈r.tups\/x=t:=fun x a=>by
  unfold cZ at a;simp only[OZ,OG]at a;rcases a with(h|h)|h
  ·exact .inl (OV h)
  ·exact .inr h
  exact .inl (Pq h)
 refine⟨⟨d.cols,?_,fun x a=>?_⟩,fun f g x a=>?_⟩
 ·unfold cZ;simp only[Oj,Ox,OP,PO];omega
 ·rcases e x a with h|rfl
  ·exact d.tup x h
  exact⟨c,b⟩
 rcases e x a with h|rfl
 ·exact f x h
 exact g
theorem mA(r:Rel)(S:FitR r)(T:IA r):Ct 40 [r.tree] (iT (bD r)):=by
 refine Ct.of (n:=85) Tryz.func40 Z Z Z Z Z fun w0 G0=>?_
 refine ab<|aj 2 Z<|ab<|ab<|ae<|aa 2 Z<|ag Z Z Z (ak Z (ug r.sch) Z Z)<|ag (t:=bT (!(gt r.sch))) Z Z Z (dw Z Z Zy)<|af<|aH Z (fun z=>?_) (fun z=>?_)
 ·refine ab<|aj 1 Z<|ax<|⟨.inr Z,_,.cons Z .nil,ez (by unfold bD;rw[if_pos (by simpa using z)]),Z⟩
 have g:gt r.sch=true:=by simpa using z
 refine ar<|ab<|ab<|ae<|aa 2 Z<|ag (t:=nI r.tups.length) Z Z Z (ah (aW Z aM Z) (by simp only[Ol]))<|ag (t:=bT (decide (64<r.tups.length))) Z Z Z (ah (ai Z Z Z Zy) (au (qH r.tups.length 64)))<|af<|aD Z (fun e=>?_) (fun e=>?_)
 ·refine ab<|aj 1 Z<|ax<|⟨.inr Z,_,.cons Z .nil,ez (by unfold bD;rw[if_neg (by rw[g];simp),if_pos e]),Z⟩
 refine ar<|ab<|ab<|aj 1 Z<|aA<|aO (fun w y=>∃(i:Nat),(i<=r.tups.length/\bU r.sch (hO r.tups i) (r.tups.drop i)=bU r.sch none r.tups)/\w=r.tups.length-i/\y=⟨85,[(1,.box 0 0),(3,nI i)],[(30,(a7 r))],[]⟩) 1 0 ⟨0,⟨by omega,Z⟩,Z,Z⟩ .rf ?_;rintro w y ⟨i,⟨Y,a⟩,rfl,rfl⟩;refine ab<|ab<|ae<|aa 3 Z<|ag (t:=nI r.tups.length) Z Z Z (ah (aW Z aM Z) (by simp only[Ol]))<|ag (t:=bT (decide (i<r.tups.length))) Z Z Z (ah (ai Z Z Z Zy) (au (gK i r.tups.length)))<|af<|aD Z (fun R=>?_) (fun R=>?_)
 ·obtain⟨t,l⟩:∃t,r.tups[i]? =some t:=⟨_,Og R⟩;have N:=S.tup t (Om l);refine ar<|ab<|aA<|ab<|ab<|ck (fu:=9) [some 24,some 25,some 26,some 27,some 28,some 29,some 30,some 31,some 4] [.box 0 0,.agg (fm r.sch),.box 0 3,.sl (r.tups.map Tp.tree),nI i,.ref (bY t),.agg (bY t),iT (bV r.sch t),iT (bV r.sch t)] (by kernel_rfl) Z Z (by kernel_rfl) Z ?_ ?_
  ·refine Chain.op Z (aq Z Z dl Z)<|Chain.op Z (aR Z Z Z gA Z Z)<|Chain.op Z (aq Z Z a6 Z)<|Chain.op Z (ay Z Z Z bz Z)<|Chain.op Z (av Z Z)<|Chain.op Z (aK (Tp.tree t) Z aM Z Z Z (aX (f:=Tp.tree) l) (bS _) Z)<|Chain.op Z (cT Z Z eT Z Z)<|Chain.op Z (ak Z (wx r.sch t N.1.p (T t (Om l))) Z Z)<|Chain.op Z (bE Z Z)<|Chain.nil
  refine ab<|ae<|aa 1 Z<|ag (t:=bT ((bV r.sch t) !=0)) Z Z Z (ai Z Z Z Zy)<|af<|aH Z (fun G=>?_) (fun G=>?_)
  ·have P:bV r.sch t≠0:=by simpa using G
   refine ab<|aj 2 Z<|ax<|⟨.inr Z,_,.cons Z .nil,ez (by unfold bD;rw[if_neg (by rw[g];simp),if_neg e,<-a,rB l P,if_pos P]),Z⟩
  have M:bV r.sch t=0:=by simpa using G
  refine ar<|ab<|ab<|ae<|aa 1 Z<|ag (t:=bT (decide (i=0))) Z Z Z (ah (ai Z Z Z Zy) (au (iF i 0)))<|af<|aD Z (fun E=>?_) (fun E=>?_)
  ·rw[pM l M E]at a;refine aQ<|ae<|aa 1 Z<|ag (t:=nI (i+1)) Z Z Z (ah (ai Z Z Z Zy) (bp (by omega)))<|aa 1 Z<|af<|⟨_,_,?_,⟨i+1,?_,Z,Z⟩,.rf⟩
   ·omega
   exact⟨by omega,a⟩
  obtain⟨p,B⟩:∃p,r.tups[i-1]? =some p:=⟨_,Og (by omega)⟩;have X:=S.tup p (Om B);rw[rC l M E B]at a;refine ar<|ab<|ck (fu:=15) [some 37,some 38,some 39,some 40,some 41,some 42,some 43,some 44,some 45,some 46,some 47,some 48,some 49,some 50,some 5] [.box 0 3,.sl (r.tups.map Tp.tree),nI i,nI (i-1),.ref (bY p),.ref (bY p),.sl (p.vals.map V.tree),.box 0 3,.sl (r.tups.map Tp.tree),nI i,.ref (bY t),.ref (bY t),.sl (t.vals.map V.tree),iT (bg p.vals t.vals),iT (bg p.vals t.vals)] (by kernel_rfl) Z Z (by kernel_rfl) Z ?_ ?_
  ·refine Chain.op Z (aq Z Z a6 Z)<|Chain.op Z (ay Z Z Z bz Z)<|Chain.op Z (av Z Z)<|Chain.op Z (ah (ai Z Z Z Zy) (bp (by omega)))<|Chain.op Z (aK (Tp.tree p) Z aM Z Z Z (aX (f:=Tp.tree) B) (bS _) Z)<|Chain.op Z (bu Z Z bW Z)<|Chain.op Z (be Z Z cJ Z)<|Chain.op Z (aq Z Z a6 Z)<|Chain.op Z (ay Z Z Z bz Z)<|Chain.op Z (av Z Z)<|Chain.op Z (aK (Tp.tree t) Z aM Z Z Z (aX (f:=Tp.tree) l) (bS _) Z)<|Chain.op Z (bu Z Z bW Z)<|Chain.op Z (be Z Z cJ Z)<|Chain.op Z (ak Z (mu _ _ X.2 N.2) Z Z)<|Chain.op Z (bE Z Z)<|Chain.nil
  refine aA<|ab<|ae<|aa 1 Z<|ag (t:=bT ((bg p.vals t.vals)==0)) Z Z Z (ai Z Z Z Zy)<|aa 1 Z<|af<|aH Z (fun C=>?_) (fun C=>?_)
  ·refine ab<|aj 1 Z<|ax<|⟨.inr Z,_,.cons Z .nil,ez (by unfold bD;rw[if_neg (by rw[g];simp),if_neg e,<-a,if_pos (eq_of_beq C)];rfl),Z⟩
  have u:¬bg p.vals t.vals=0:=by simpa using C
  have a0:=oG p.vals t.vals;refine ab<|ae<|aa 1 Z<|ag (t:=bT (decide ((bg p.vals t.vals)>0))) Z Z Z (ai Z Z Z Zy)<|aa 1 Z<|af<|aD Z (fun W=>?_) (fun W=>?_)
  ·have I:bg p.vals t.vals=1:=by omega
   refine ab<|aj 1 Z<|ax<|⟨.inr Z,_,.cons Z .nil,ez (by unfold bD;rw[if_neg (by rw[g];simp),if_neg e,show bU r.sch none r.tups=1 from by rw[<-a,if_neg u,if_pos I]];rfl),Z⟩
  have K:¬bg p.vals t.vals=1:=by omega
  rw[if_neg u,if_neg K]at a;refine ar<|ae<|aa 1 Z<|ag (t:=nI (i+1)) Z Z Z (ah (ai Z Z Z Zy) (bp (by omega)))<|aa 1 Z<|af<|⟨_,_,?_,⟨i+1,?_,Z,Z⟩,.rf⟩
  ·omega
  exact⟨by omega,a⟩
 have c:bU r.sch none r.tups=0:=by rw[<-a,Ov (by omega)];cases hO r.tups i<;>rfl
 refine aQ<|ab<|ae<|aa 1 Z<|ag Z Z Z (ak Z (Cq r S (zD c)) Z Z)<|aa 1 Z<|af<|ab<|ab<|aj 1 Z<|aA<|aO (fun w y=>∃(j:Nat),(j<=(bf r).length/\∀(m:Nat) (b:List Nat),(bf r)[m]? =some b->m<j->¬16<b.length)/\w=(bf r).length-j/\y=⟨85,[(1,.box 0 0),(6,.sl ((bf r).map jo)),(7,nI j)],[(30,(a7 r))],[]⟩) 1 0 ⟨0,⟨by omega,fun m b _ h=>by omega⟩,Z,Z⟩ .rf ?_;rintro w y ⟨j,⟨hj,v⟩,rfl,rfl⟩;have a1:=tQ r;refine ab<|ab<|ae<|aa 2 Z<|ag (t:=nI ((bf r).length)) Z Z Z (ah (aW Z cA Z) (by simp only[Ol]))<|ag (t:=bT (decide (j<(bf r).length))) Z Z Z (ah (ai Z Z Z Zy) (au (gK j ((bf r).length))))<|af<|aD Z (fun L=>?_) (fun L=>?_)
 ·obtain⟨b,F⟩:∃b,(bf r)[j]? =some b:=⟨_,Og L⟩;refine ar<|ab<|aA<|ab<|ae<|aa 2 Z<|ag (t:=.ref [.sl (b.map fV)]) Z Z Z (aK (jo b) Z cA Z Z Z (aX (f:=jo) F) (ml _) Z)<|aa 1 Z<|ag (t:=nI b.length) Z Z Z (ah (aW Z cL Z) (by simp only[Ol]))<|ag (t:=bT (decide (16<b.length))) Z Z Z (ah (ai Z Z Z Zy) (au (qH b.length 16)))<|af<|aD Z (fun A=>?_) (fun A=>?_)
  ·refine ab<|aj 1 Z<|ax<|⟨.inr Z,_,.cons Z .nil,ez (by unfold bD;rw[if_neg (by rw[g];simp),if_neg e,if_neg (by rw[c];simp),if_pos (vV F A)]),Z⟩
  refine ar<|ae<|aa 1 Z<|ag (t:=nI (j+1)) Z Z Z (ah (ai Z Z Z Zy) (bp (by omega)))<|aa 1 Z<|af<|⟨_,_,?_,⟨j+1,?_,Z,Z⟩,.rf⟩
  ·omega
  refine⟨by omega,fun m b D h=>?_⟩;rcases OS m j with O|O
  ·exact v m b D O
  obtain rfl:m=j:=by omega
  rw[F]at D;cases D;exact A
 have o:rY (bf r)=false:=oE fun k b H=>v k b H (by have:=(Ok.1 H).1;omega)
 refine aQ<|ab<|ab<|aj 1 Z<|aA<|aO (fun w y=>∃(k:Nat),(k<=(bf r).length/\∀(m:Nat) (b:List Nat),(bf r)[m]? =some b->m<k->¬cF (1-eJ r.tups b)<0)/\w=(bf r).length-k/\y=⟨85,[(1,.box 0 0),(6,.sl ((bf r).map jo)),(8,nI k)],[(30,(a7 r))],[]⟩) 1 0 ⟨0,⟨by omega,fun m b _ h=>by omega⟩,Z,Z⟩ .rf ?_;rintro w y ⟨k,⟨H,Q⟩,rfl,rfl⟩;refine ab<|ab<|ae<|aa 2 Z<|ag (t:=nI ((bf r).length)) Z Z Z (ah (aW Z cA Z) (by simp only[Ol]))<|ag (t:=bT (decide (k<(bf r).length))) Z Z Z (ah (ai Z Z Z Zy) (au (gK k ((bf r).length))))<|af<|aD Z (fun x=>?_) (fun x=>?_)
 ·obtain⟨b,s⟩:∃b,(bf r)[k]? =some b:=⟨_,Og x⟩;have q:=vX r b (Om s);have J:b.length<=16:=by have:=Qj.1 o b (Om s);simpa using this
  have U:=nL c q.2 J;refine ar<|ab<|aA<|ab<|ck (fu:=8) [some 77,some 78,some 79,some 80,some 81,some 82,some 83,some 84] [.agg (a7 r),.sl ((bf r).map jo),nI k,.ref [.sl (b.map fV)],.sl (b.map fV),.agg [bT (decide ((eJ r.tups b).num<0)),aG ((eJ r.tups b).num.natAbs),aG ((eJ r.tups b).den)],bT (ve (eJ r.tups b)),bT (!(ve (eJ r.tups b)))] (by kernel_rfl) Z Z (by kernel_rfl) Z ?_ ?_
  ·refine Chain.op Z (aR Z Z Z bm Z Z)<|Chain.op Z (av Z Z)<|Chain.op Z (av Z Z)<|Chain.op Z (aK (jo b) Z cA Z Z Z (aX (f:=jo) s) (ml _) Z)<|Chain.op Z (be Z Z mr Z)<|Chain.op Z (ak Z (KC r b q.2 (by omega) (fun t ht=>(S.tup t ht).1.p) (fun j hj=>(nL c (fun i Y=>q.2 i (OV Y)) (by rw[Ox];omega)).1)) Z Z)<|Chain.op Z (ak Z (D3 _ U.1) Z Z)<|Chain.op Z (dw Z Z Zy)<|Chain.nil
  refine aH Z (fun d=>?_) (fun d=>?_)
  ·refine ab<|aj 1 Z<|ax<|⟨.inr Z,_,.cons Z .nil,ez (by unfold bD;rw[if_neg (by rw[g];simp),if_neg e,if_neg (by rw[c];simp),if_neg (by rw[o];simp),if_pos (tN s (by rw[Ae c]at d;simpa using d))]),Z⟩
  refine ar<|ae<|aa 1 Z<|ag (t:=nI (k+1)) Z Z Z (ah (ai Z Z Z Zy) (bp (by omega)))<|aa 1 Z<|af<|⟨_,_,?_,⟨k+1,?_,Z,Z⟩,.rf⟩
  ·omega
  refine⟨by omega,fun m b D h=>?_⟩;rcases OS m k with O|O
  ·exact Q m b D O
  obtain rfl:m=k:=by omega
  rw[s]at D;cases D;rw[Ae c]at d;simpa using d
 refine aQ<|ab<|aj 1 Z<|ax<|⟨.inr Z,_,.cons Z .nil,ez (by unfold bD;rw[if_neg (by rw[g];simp),if_neg e,if_neg (by rw[c];simp),if_neg (by rw[o];simp),if_neg (by rw[ni fun k b H=>Q k b H (by have:=(Ok.1 H).1;omega)];simp)]),Z⟩
theorem iV(r:Rel)(t:Tp)(E:FitR r)(B:IA r)(G:FitT t)(m:Cr t)(q:t.vals.length<=65536):Ct 34 [r.tree,t.tree] (mR r t):=by
 refine Ct.of (n:=82) Tryz.func34 Z Z Z Z Z fun w0 G0=>?_
 refine ab<|aj 4 Z<|ab<|ab<|ae<|aa 1 Z<|ag Z Z Z (ak Z (mA r E B) Z Z)<|aa 1 Z<|af<|ab<|ae<|aa 1 Z<|ag (t:=bT ((bD r) !=0)) Z Z Z (ai Z Z Z Zy)<|af<|aH Z (fun s=>?_) (fun s=>?_)
 ·have A:bD r≠0:=by simpa using s
  refine ab<|aj 4 Z<|ax<|⟨.inr Z,_,.cons ⟨_,_,_,_,Z,Z,.inl ⟨_,bm,Z,Z⟩⟩ (.cons Z .nil),by unfold mR;rw[show cB r t=bD r from by unfold cB;rw[if_pos A]];rw[if_neg A];rfl,ji r t⟩
 have z:bD r=0:=by simpa using s
 have T:=nn z;have H:=oL z;refine ar<|ab<|ab<|ae<|aa 3 Z<|ag Z Z Z (ak Z (wx r.sch t G.p m) Z Z)<|aa 1 Z<|af<|ab<|ae<|aa 1 Z<|ag (t:=bT ((bV r.sch t) !=0)) Z Z Z (ai Z Z Z Zy)<|af<|aH Z (fun u=>?_) (fun u=>?_)
 ·have C:bV r.sch t≠0:=by simpa using u
  refine ab<|aj 4 Z<|ax<|⟨.inr Z,_,.cons ⟨_,_,_,_,Z,Z,.inl ⟨_,bm,Z,Z⟩⟩ (.cons Z .nil),by unfold mR;rw[show cB r t=bV r.sch t from by unfold cB;rw[if_neg (by rw[z];simp),if_pos C]];rw[if_neg C];rfl,ji r t⟩
 have w:bV r.sch t=0:=by simpa using u
 refine ar<|ab<|ab<|ae<|aa 3 Z<|ag Z Z Z (ak Z (Iw r t.vals q E.tups (fun t S=>(E.tup t S).2)) Z Z)<|aa 5 Z<|af<|ab<|aj 1 Z<|aH Z (fun y=>?_) (fun y=>?_)
 ·refine ab<|aj 3 Z<|ax<|⟨.inr Z,_,.cons ⟨_,_,_,_,Z,Z,.inl ⟨_,bm,Z,Z⟩⟩ (.cons Z .nil),by unfold mR;rw[show cB r t=8 from by unfold cB;rw[if_neg (by rw[z];simp),if_neg (by rw[w];simp),if_pos y]];rfl,ji r t⟩
 have D:=y;refine ar<|ab<|aj 1 Z<|ab<|aA<|aO (fun O Q=>∃(i:Nat),(i<=r.tups.length/\(r.tups.drop i).takeWhile (fun x=>decide (bg x.vals t.vals<0))=(r.tups.takeWhile fun x=>decide (bg x.vals t.vals<0)).drop i/\i<=xV t.vals r.tups)/\O=r.tups.length-i/\Q=⟨82,[(2,.box 0 0),(3,.box 1 0),(4,.box 2 0),(10,nI i)],[(30,(a7 r)),(67,(bY t)),(30,dB)],[]⟩) 3 0 ⟨0,⟨by omega,Z,by omega⟩,Z,Z⟩ .rf ?_;rintro O Q ⟨i,⟨U,c,M⟩,rfl,rfl⟩;refine ab<|ab<|ck (fu:=17) [some 36,some 37,some 38,some 39,some 40,some 41,some 42,some 43,some 44,some 45,some 46,some 47,some 48,some 49,some 50,some 51,some 52] [nI i,.box 0 3,.sl (r.tups.map Tp.tree),nI r.tups.length,bT (decide (i<r.tups.length)),bT (decide (i<r.tups.length)),if(decide (i<r.tups.length))=true then(.box 0 3:Tree)else .sc undef,if(decide (i<r.tups.length))=true then(.sl (r.tups.map Tp.tree):Tree)else .sc undef,if(decide (i<r.tups.length))=true then(nI i:Tree)else .sc undef,if(decide (i<r.tups.length))=true then(.ref [.sl ((((r.tups[i]?).getD mP).vals).map V.tree),bT (decide (((r.tups[i]?).getD mP).prob.num<0)),aG (((r.tups[i]?).getD mP).prob.num.natAbs),aG (((r.tups[i]?).getD mP).prob.den)]:Tree)else .sc undef,if(decide (i<r.tups.length))=true then(.ref [.sl ((((r.tups[i]?).getD mP).vals).map V.tree),bT (decide (((r.tups[i]?).getD mP).prob.num<0)),aG (((r.tups[i]?).getD mP).prob.num.natAbs),aG (((r.tups[i]?).getD mP).prob.den)]:Tree)else .sc undef,if(decide (i<r.tups.length))=true then(.sl ((((r.tups[i]?).getD mP).vals).map V.tree):Tree)else .sc undef,if(decide (i<r.tups.length))=true then(.box 1 0:Tree)else .sc undef,if(decide (i<r.tups.length))=true then(.sl (t.vals.map V.tree):Tree)else .sc undef,if(decide (i<r.tups.length))=true then(iT (bg ((r.tups[i]?).getD mP).vals t.vals):Tree)else .sc undef,if(decide (i<r.tups.length))=true then(bT (decide ((bg ((r.tups[i]?).getD mP).vals t.vals)<0)):Tree)else .sc undef,bT ((decide (i<r.tups.length))&&(decide ((bg ((r.tups[i]?).getD mP).vals t.vals)<0)))] (by kernel_rfl) Z Z (by kernel_rfl) Z ?_ ?_
 ·refine Chain.op Z (av Z Z)<|Chain.op Z (aq Z Z a6 Z)<|Chain.op Z (ay Z Z Z bz Z)<|Chain.op Z (ah (aW Z aM Z) (by simp only[Ol]))<|Chain.op Z (ah (ai Z Z Z Zy) (au (gK i r.tups.length)))<|Chain.op Z (av Z Z)<|aU Z Z Z (fun a=>aq Z Z a6 Z)<|aU Z Z Z (fun a=>ay Z (if_pos a) Z bz Z)<|aU Z Z Z (fun a=>av Z Z)<|aU Z Z Z (fun a=>aK (Tp.tree ((r.tups[i]?).getD mP)) Z aM (if_pos a) (if_pos a) Z (aX (f:=Tp.tree) (lq (of_decide_eq_true a))) (bS _) Z)<|aU Z Z Z (fun a=>bu Z (if_pos a) bW Z)<|aU Z Z Z (fun a=>be Z (if_pos a) cJ Z)<|aU Z Z Z (fun a=>aq Z Z bW Z)<|aU Z Z Z (fun a=>ay Z (if_pos a) Z cJ Z)<|aU Z Z Z (fun a=>ak Z (mu _ _ (DX E i) q) (eo (if_pos a) (eo (if_pos a) Z)) Z)<|aU Z Z Z (fun a=>ai Z (if_pos a) Z (fun _=>rfl))<|Chain.op Z (aL Z Z (fun K=>(if_pos K).trans (au (by rw[K];rfl))) (fun K=>(au (by rw[K];rfl))))<|Chain.nil
 refine aH Z (fun g=>?_) (fun g=>?_)
 ·rw[Oo]at g;have I:=of_decide_eq_true g.1;have F:=of_decide_eq_true g.2;refine ar<|aA<|ae<|aa 1 Z<|ag (t:=nI (i+1)) Z Z Z (ah (ai Z Z Z Zy) (bp (by omega)))<|aa 1 Z<|af<|⟨_,_,?_,⟨i+1,?_,Z,Z⟩,.rf⟩
  ·omega
  exact⟨by omega,wn (lq (d:=mP) I) F c,DY (lq (d:=mP) I) F c⟩
 have b:=zR c M g;have j:=Af E G q H;unfold cZ at j;rw[<-b]at j;have o:=j.1;have L:=j.2 B m;refine aQ<|ab<|ae<|aa 2 Z<|ag (t:=.agg [sT r.sch.name,bT r.sch.cert,.sl (r.sch.cols.map Col.tree),.sc (.slice none 0 0)]) Z Z Z (qJ Z mw Z Z Z)<|aa 2 Z<|af<|ab<|jE 3 3 67 4 (bs':=[(30,(a7 r)),(67,(bY t)),(30,dB),(30,[sT r.sch.name,bT r.sch.cert,.sl (r.sch.cols.map Col.tree),.own 0])]) (rs':=[some ⟨67,4,[],false⟩]) Z Z Z Z<|eH (sl':=[(2,.box 0 0),(3,.box 1 0),(4,.box 2 0),(10,nI i),(52,bT ((decide (i<r.tups.length))&&(decide ((bg ((r.tups[i]?).getD mP).vals t.vals)<0)))),(11,.box 3 0)]) ⟨Z,⟨Z,⟨Z,⟨Z,⟨Z,⟨Z,trivial⟩⟩⟩⟩⟩⟩<|di (fu:=5) [some 58,some 59,some 60,some 61,some 62,some 63,some 64,some 65,some 66,some 67,some 68,some 69,some 70,some 71,some 72,some 73,none] [6,9,14,16] [.box 3 3,.own 0,.box 0 3,.sl (r.tups.map Tp.tree),nI i,.sl ((r.tups.take i).map Tp.tree),.own 0,.agg (bY t),.sl [.agg (bY t)],.own 0,.box 0 3,.sl (r.tups.map Tp.tree),nI i,.sl ((r.tups.drop i).map Tp.tree),.own 0,.box 3 3,.any] [⟨[6],[(2,.box 0 0),(3,.box 1 0),(4,.box 2 0),(10,nI i),(52,bT ((decide (i<r.tups.length))&&(decide ((bg ((r.tups[i]?).getD mP).vals t.vals)<0)))),(11,.box 3 0)],[(30,(a7 r)),(67,(bY t)),(30,dB),(30,[sT r.sch.name,bT r.sch.cert,.sl (r.sch.cols.map Col.tree),.any])],[some ⟨67,4,(r.tups.take i).map Tp.tree,false⟩],[.box 3 3,.any,.box 0 3,.sl (r.tups.map Tp.tree),nI i,.sl ((r.tups.take i).map Tp.tree),.own 0,.agg (bY t),.sl [.agg (bY t)],.own 0,.box 0 3,.sl (r.tups.map Tp.tree),nI i,.sl ((r.tups.drop i).map Tp.tree),.own 0,.box 3 3,.any]⟩,⟨[9,6],[(2,.box 0 0),(3,.box 1 0),(4,.box 2 0),(10,nI i),(52,bT ((decide (i<r.tups.length))&&(decide ((bg ((r.tups[i]?).getD mP).vals t.vals)<0)))),(11,.box 3 0)],[(30,(a7 r)),(67,(bY t)),(30,dB),(30,[sT r.sch.name,bT r.sch.cert,.sl (r.sch.cols.map Col.tree),.any])],[some ⟨67,4,(r.tups.take i++[t]).map Tp.tree,false⟩],[.box 3 3,.any,.box 0 3,.sl (r.tups.map Tp.tree),nI i,.sl ((r.tups.take i).map Tp.tree),.any,.agg (bY t),.sl [.agg (bY t)],.own 0,.box 0 3,.sl (r.tups.map Tp.tree),nI i,.sl ((r.tups.drop i).map Tp.tree),.own 0,.box 3 3,.any]⟩,⟨[14,9,6],[(2,.box 0 0),(3,.box 1 0),(4,.box 2 0),(10,nI i),(52,bT ((decide (i<r.tups.length))&&(decide ((bg ((r.tups[i]?).getD mP).vals t.vals)<0)))),(11,.box 3 0)],[(30,(a7 r)),(67,(bY t)),(30,dB),(30,[sT r.sch.name,bT r.sch.cert,.sl (r.sch.cols.map Col.tree),.any])],[some ⟨67,4,(r.tups.take i++[t]++r.tups.drop i).map Tp.tree,false⟩],[.box 3 3,.any,.box 0 3,.sl (r.tups.map Tp.tree),nI i,.sl ((r.tups.take i).map Tp.tree),.any,.agg (bY t),.sl [.agg (bY t)],.any,.box 0 3,.sl (r.tups.map Tp.tree),nI i,.sl ((r.tups.drop i).map Tp.tree),.own 0,.box 3 3,.any]⟩] ⟨[16,14,9,6],[(2,.box 0 0),(3,.box 1 0),(4,.box 2 0),(10,nI i),(52,bT ((decide (i<r.tups.length))&&(decide ((bg ((r.tups[i]?).getD mP).vals t.vals)<0)))),(11,.box 3 0)],[(30,(a7 r)),(67,(bY t)),(30,dB),(30,[sT r.sch.name,bT r.sch.cert,.sl (r.sch.cols.map Col.tree),.own 0])],[some ⟨67,4,(r.tups.take i++[t]++r.tups.drop i).map Tp.tree,false⟩],[.box 3 3,.any,.box 0 3,.sl (r.tups.map Tp.tree),nI i,.sl ((r.tups.take i).map Tp.tree),.any,.agg (bY t),.sl [.agg (bY t)],.any,.box 0 3,.sl (r.tups.map Tp.tree),nI i,.sl ((r.tups.drop i).map Tp.tree),.own 0,.box 3 3,.any]⟩ (by kernel_rfl) Z (by kernel_rfl) (by kernel_rfl) (by kernel_rfl) Z Z ?_ ?_
 ·refine .opp [] (.okk rfl (aq rfl rfl a6 rfl)<|.fin)<|.opp [0] (.okk rfl (ay rfl rfl rfl bz rfl)<|.fin)<|.opp [] (.okk rfl (aq rfl rfl a6 rfl)<|.fin)<|.opp [2] (.okk rfl (ay rfl rfl rfl bz rfl)<|.fin)<|.opp [] (.okk rfl (av rfl rfl)<|.fin)<|.opp [3,4] (.okk rfl (ah (gh (l:=0) (h:=i) rfl aM rfl rfl ⟨_,rfl⟩ (by first|omega|(simp only[Ol];omega)) (by first|omega|(simp only[Ol];omega)) (bS _)) (by simp only[Q4,PQ]))<|.fin)<|.opp [1,5] (.wr 1 (fi 0) (.own 0) (by kernel_rfl) rfl rfl (c7 rfl rfl rfl ia rfl rfl rfl rfl (bS _) (AllC.map _ _ fun _=>rfl) (AllC.map _ _ fun _=>rfl) (by simp only[Ol,Ox,Ou];omega) rfl rfl rfl) rfl rfl rfl rfl (.k rfl (.k rfl (.k rfl (.k rfl (.k rfl (.k rfl (.i rfl (.k rfl (.k rfl (.d (by kernel_rfl) (.k rfl (.k rfl (.k rfl (.k rfl (.d (by kernel_rfl) (.k rfl (.k rfl .nil)))))))))))))))))<|.fin)<|.opp [] (.okk rfl (aR rfl rfl rfl eT rfl rfl)<|.okk rfl (aR rfl rfl rfl eT rfl rfl)<|.fin)<|.opp [7] (.okk rfl (aN rfl aM gB rfl (by decide) (by decide) rfl rfl rfl rfl rfl)<|.okk rfl (aN rfl aM gB rfl (by decide) (by decide) rfl rfl rfl rfl rfl)<|.fin)<|.opp [6,8] (.no (by kernel_rfl)<|.wr 2 (fi 0) (.own 0) (by kernel_rfl) rfl rfl (c7 rfl rfl rfl ia rfl rfl rfl rfl (by intro e P;simp only[OC,O8,or_false]at P;subst P;rfl) (AllC.lit rfl) (AllC.lit rfl) (by simp only[Ol,Ox,Oi,Ou];omega) rfl rfl (by rw[PE];rfl)) rfl rfl rfl rfl (.k rfl (.k rfl (.k rfl (.k rfl (.k rfl (.k rfl (.k rfl (.k rfl (.k rfl (.i rfl (.k rfl (.k rfl (.k rfl (.k rfl (.d (by kernel_rfl) (.k rfl (.k rfl .nil)))))))))))))))))<|.fin)<|.opp [] (.okk rfl (aq rfl rfl a6 rfl)<|.okk rfl (aq rfl rfl a6 rfl)<|.okk rfl (aq rfl rfl a6 rfl)<|.fin)<|.opp [10] (.okk rfl (ay rfl rfl rfl bz rfl)<|.okk rfl (ay rfl rfl rfl bz rfl)<|.okk rfl (ay rfl rfl rfl bz rfl)<|.fin)<|.opp [] (.okk rfl (av rfl rfl)<|.okk rfl (av rfl rfl)<|.okk rfl (av rfl rfl)<|.fin)<|.opp [11,12] (.okk rfl (ah (gh (l:=i) (h:=(r.tups.map Tp.tree).length) rfl aM rfl ⟨_,rfl⟩ rfl (by first|omega|(simp only[Ol];omega)) (by first|omega|(simp only[Ol];omega)) (bS _)) (by simp only[QS,Pl]))<|.okk rfl (ah (gh (l:=i) (h:=(r.tups.map Tp.tree).length) rfl aM rfl ⟨_,rfl⟩ rfl (by first|omega|(simp only[Ol];omega)) (by first|omega|(simp only[Ol];omega)) (bS _)) (by simp only[QS,Pl]))<|.okk rfl (ah (gh (l:=i) (h:=(r.tups.map Tp.tree).length) rfl aM rfl ⟨_,rfl⟩ rfl (by first|omega|(simp only[Ol];omega)) (by first|omega|(simp only[Ol];omega)) (bS _)) (by simp only[QS,Pl]))<|.fin)<|.opp [9,13] (.nos 2<|.wr 3 (fi 0) (.own 0) (by kernel_rfl) rfl rfl (c7 rfl rfl rfl ia rfl rfl rfl rfl (bS _) (AllC.map _ _ fun _=>rfl) (AllC.map _ _ fun _=>rfl) (by simp only[Ol,Oj,Ox,OP,Oi,Ou];omega) rfl rfl (by rw[PE (l₁:=r.tups.take i++[t])];rfl)) rfl rfl rfl rfl (.k rfl (.k rfl (.k rfl (.k rfl (.k rfl (.k rfl (.k rfl (.k rfl (.k rfl (.k rfl (.k rfl (.k rfl (.k rfl (.k rfl (.i rfl (.k rfl (.k rfl .nil)))))))))))))))))<|.fin)<|.opp [] (.nos 3<|.okk rfl (aq rfl rfl a6 rfl)<|.fin)<|.opp [14,15] (.nos 3<|.wr 4 id .any (by kernel_rfl) rfl rfl (gm rfl rfl rfl rfl rfl rfl rfl rfl mx rfl rfl rfl) rfl rfl rfl rfl (.k rfl (.k rfl (.k rfl (.k rfl (.k rfl (.k rfl (.k rfl (.k rfl (.k rfl (.k rfl (.k rfl (.k rfl (.k rfl (.k rfl (.k rfl (.k rfl (.i rfl .nil)))))))))))))))))<|.fin)<|.nil
 refine ab<|ab<|dI 0 (bs':=[(30,(a7 r)),(67,(bY t)),(30,dB),(30,[sT r.sch.name,bT r.sch.cert,.sl (r.sch.cols.map Col.tree),.sl ((r.tups.take i++[t]++r.tups.drop i).map Tp.tree)])]) (rs':=[none]) Z Z Z Z<|ae<|aa 1 Z<|ag Z Z Z (ak Z (mA ⟨r.sch,r.tups.take i++[t]++r.tups.drop i⟩ o L) Z Z)<|aa 1 Z<|af<|ab<|ae<|aa 1 Z<|ag (t:=bT ((bD ⟨r.sch,r.tups.take i++[t]++r.tups.drop i⟩) !=0)) Z Z Z (ai Z Z Z Zy)<|af<|aH Z (fun v=>?_) (fun v=>?_)
 ·have J:bD ⟨r.sch,r.tups.take i++[t]++r.tups.drop i⟩≠0:=by simpa using v
  refine ab<|aj 4 Z<|ax<|⟨.inr Z,_,.cons ⟨_,_,_,_,Z,Z,.inl ⟨_,bm,Z,Z⟩⟩ (.cons Z .nil),by unfold mR;rw[show cB r t=bD ⟨r.sch,r.tups.take i++[t]++r.tups.drop i⟩from by unfold cB;rw[if_neg (by rw[z];simp),if_neg (by rw[w];simp),if_neg (by rw[D];simp)];unfold cZ;rw[<-b],if_neg J];rfl,ji r t⟩
 have N:bD ⟨r.sch,r.tups.take i++[t]++r.tups.drop i⟩=0:=by simpa using v
 refine ar<|ab<|ae<|aa 1 Z<|ag Z Z Z (ak Z (rJ ⟨r.sch,r.tups.take i++[t]++r.tups.drop i⟩ o.tups (fun x R=>fe _ (((o.tup x R).1.p).mono (by decide)))) Z Z)<|aa 2 Z<|af<|ax<|⟨.inr Z,_,.cons ⟨_,_,_,_,Z,Z,.inl ⟨_,bm,Z,Z⟩⟩ (.cons Z .nil),by unfold mR;rw[show cB r t=0 from by unfold cB;rw[if_neg (by rw[z];simp),if_neg (by rw[w];simp),if_neg (by rw[D];simp)];unfold cZ;rw[<-b];exact N,if_pos Z];unfold cZ;rw[<-b];rfl,ji r t⟩
theorem Fi{r:Rel}(h:bU r.sch none r.tups=0)(i:Nat):iw r.tups i<=1:=by
 unfold iw;cases a:r.tups[i]? with
 |none=>simp;decide
 |some t=>
  have:=(kN (ij (gD h t (Om a))).2.1).2;show t.prob<=1
  grind
theorem vf{r:Rel}(h:bU r.sch none r.tups=0)(d:∀t∈r.tups,aJ r.sch t.vals=[]):rY (bf r)=false/\og r.tups (bf r)=false:=by
 have a:∀b∈bf r,∃i,b=[i]:=fun b a=>by
  unfold bf at a;split at a
  ·cases a
  rw[mO r.tups ([],[]) 0 d]at a;simp only[Py,PX]at a;obtain⟨i,_,rfl⟩:=a;exact⟨i,Z⟩
 refine⟨oE fun j b c=>?_,ni fun j b c=>?_⟩
 ·obtain⟨i,rfl⟩:=a b (Om c);simp
 obtain⟨i,rfl⟩:=a b (Om c);rw[j3];have:=Fi h i;simp only[eJ,Qk,List.foldl_nil]
 grind
theorem Ag{r:Rel}(l:r.sch.cert=false)(j:∀t∈r.tups,aJ r.sch t.vals≠ []):(rY (bf r)=false↔∀t∈r.tups,zH r.sch (aJ r.sch t.vals) r.tups<=16)/\(og r.tups (bf r)=false↔∀t∈r.tups,zI r.sch (aJ r.sch t.vals) r.tups<=1):=by
 obtain⟨g,i,c,a⟩:=xW l j;rw[i];unfold rY og;rw[Qj,Qj];constructor
 ·constructor
  ·intro h t d;have:=h _ (PX.2 ⟨_,c t d,Z⟩);rw[kP]at this;simpa using this
  intro h b f;obtain⟨k,e,rfl⟩:=PX.1 f;obtain⟨t,d,rfl⟩:=a k e;rw[kP];simpa using h t d
 constructor
 ·intro h t d;have:=h _ (PX.2 ⟨_,c t d,Z⟩);rw[tW,decide_eq_true_eq,j3]at this
  grind
 intro h b f;obtain⟨k,e,rfl⟩:=PX.1 f;obtain⟨t,d,rfl⟩:=a k e;have:=h t d;rw[tW,decide_eq_true_eq,j3]
 grind
theorem wz{s:Sch}{t:Tp}(h:bV s t=0):aJ s t.vals=[]↔eD s.cols=false:=by
 have a:=(ij h).1;unfold aJ;rw[if_pos a,oK a]
theorem rL{cert:Bool}(e:cert=true):∀{l a:List Col},gP cert a l=false->eD l=false
 |[],_,_=>rfl
 |c::l,a,h=>by
  rw[gP,OH,OH]at h;have b:=h.1.1;unfold me at b;rw[OH]at b;have f:=rL e h.2;have d:=b.2;rw[e,QA]at d;unfold eD at f⊢;rw[RD,d,f];rfl
theorem Cu{s:Sch}(h:gt s=true)(a:s.cert=true):eD s.cols=false:=by
 unfold gt at h;rw[Pu,OH]at h;rw[a]at h;exact rL Z h.2
def IB(r:Rel):Prop:=eD r.sch.cols=false\/∀t∈r.tups,zH r.sch (aJ r.sch t.vals) r.tups<=16/\zI r.sch (aJ r.sch t.vals) r.tups<=1
theorem KE{r:Rel}(f:gt r.sch=true)(h:bU r.sch none r.tups=0):(rY (bf r)=false/\og r.tups (bf r)=false)↔IB r:=by
 have c:=gD h;cases b:eD r.sch.cols
 ·have:=vf h fun t a=>(wz (c t a)).2 b
  exact⟨fun _=>.inl b,fun _=>this⟩
 have d:r.sch.cert=false:=by
  cases d:r.sch.cert
  ·rfl
  rw[Cu f d]at b;cases b
 have:=Ag d fun t a e=>by rw[wz (c t a),b]at e;cases e
 rw[this.1,this.2];unfold IB;rw[b];simp only[Bool.true_eq_false,false_or];exact⟨fun h t a=>⟨h.1 t a,h.2 t a⟩,fun h=>⟨fun t a=>(h t a).1,fun t a=>(h t a).2⟩⟩
theorem p6{s:Sch}:∀(ts:List Tp) (p:List V),bU s (some p) ts=0↔(∀t∈ts,bV s t=0/\bg p t.vals<0)/\ts.Pairwise fun a b=>bg a.vals b.vals<0
 |[],p=>by simp[bU]
 |t::ts,p=>by
  have l:=p6 (s:=s) ts t.vals;rw[bU];by_cases g:bV s t=0
  ·rw[if_neg (c:=bV s t≠0) (by omega)];have n:=oG p t.vals;by_cases k:bg p t.vals=0
   ·rw[if_pos k];constructor
    ·intro h;cases h
    intro h;have:=(h.1 t (OR ..)).2;omega
   rw[if_neg k];by_cases j:bg p t.vals=1
   ·rw[if_pos j];constructor
    ·intro h;cases h
    intro h;have:=(h.1 t (OR ..)).2;omega
   have f:bg p t.vals<0:=by omega
   rw[if_neg j,l,Ra];constructor
   ·rintro⟨e,i⟩;refine⟨fun x d=>?_,fun x d=>(e x d).2,i⟩;rcases OC.1 d with rfl|d
    ·exact⟨g,f⟩
    exact⟨(e x d).1,kO f (e x d).2⟩
   rintro⟨e,i,m⟩;exact⟨fun x d=>⟨(e x (OX _ d)).1,i x d⟩,m⟩
  rw[if_pos g];constructor
  ·intro h;exact absurd h g
  intro h;exact absurd (h.1 t (OR ..)).1 g
theorem rM{s:Sch}(ts:List Tp):bU s none ts=0↔(∀t∈ts,bV s t=0)/\ts.Pairwise fun a b=>bg a.vals b.vals<0:=by
 cases ts with
 |nil=>simp[bU]
 |cons t ts=>
  rw[bU,Ra];by_cases f:bV s t=0
  ·rw[if_neg (c:=bV s t≠0) (by omega),p6];constructor
   ·rintro⟨e,g⟩;refine⟨fun x d=>?_,fun x d=>(e x d).2,g⟩;rcases OC.1 d with rfl|d
    ·exact f
    exact(e x d).1
   rintro⟨e,g,i⟩;exact⟨fun x d=>⟨e x (OX _ d),g x d⟩,i⟩
  rw[if_pos f];constructor
  ·intro h;exact absurd h f
  intro h;exact absurd (h.1 t (OR ..)) f
theorem mB{r:Rel}:bD r=0↔gt r.sch=true/\r.tups.length<=64/\bU r.sch none r.tups=0/\IB r:=by
 unfold bD;by_cases b:gt r.sch=true
 ·rw[if_neg (by rw[b];simp)];by_cases e:64<r.tups.length
  ·rw[if_pos e];constructor
   ·intro h;cases h
   intro h;omega
  rw[if_neg e];by_cases a:bU r.sch none r.tups=0
  ·rw[if_neg (c:=bU r.sch none r.tups≠0) (by omega)];have d:=KE b a;cases f:rY (bf r)
   ·cases g:og r.tups (bf r)
    ·simp only[QB,if_false,true_iff];exact⟨b,by omega,a,d.1 ⟨f,g⟩⟩
    simp only[QB,if_false,if_true];constructor
    ·intro h;cases h
    rintro⟨_,_,_,h⟩;have:=(d.2 h).2;rw[g]at this;cases this
   simp only[if_true];constructor
   ·intro h;cases h
   rintro⟨_,_,_,h⟩;have:=(d.2 h).1;rw[f]at this;cases this
  rw[if_pos a];exact⟨fun h=>absurd h a,fun h=>absurd h.2.2.1 a⟩
 rw[if_pos (by simpa using b)];constructor
 ·intro h;cases h
 intro h;exact absurd h.1 b
end Go.Proofs.YtfoejfohbkmmeaaGreatDoor
