import Derived.Test.YtfoejfohbkmmeaaGreatDoorB41
import Derived.Test.YtfoejfohbkmmeaaGreatDoorB00
import Derived.Test.YtfoejfohbkmmeaaGreatDoorB06
set_option maxRecDepth 100000
set_option maxHeartbeats 4000000
namespace Go.Proofs.YtfoejfohbkmmeaaGreatDoor
open Go.RowKit
open Lib renaming hid→J
theorem Ec(W:World)(G:Nat->Prop):∀l:List V,PT W G (dV l) (flat (l.map V.tree))
 |[]=>.nil
 |v::l=>by
  rw[Pt,eN];exact .sc _ (.sc _ (.sc _ (Ec W G l)))
def NK:Option (List V)->Tree
 |some l=>.tup [.sl (l.map V.tree),.sc (.int .i64 0)]
 |none=>.tup [.sl [],.sc (.int .i64 2)]
theorem Ed(l:List UInt8)(i:l.length<=1073741824):Ct 118 [.sl (am l)] (NK (jW l)):=⟨⟨_,Tryz.func118,Z,Z⟩,fun G w vs _ k o=>by
 obtain⟨u,rfl,p⟩:=dZ o;obtain⟨A,c,rfl,f,_,b,a⟩:=Lb p;refine(Jh A c l w f b a i).mono ?_;rintro e w' ⟨n,m,g⟩;cases h:jW l with
 |none=>exact⟨_,m h,.tup [.slice none 0 0,.int .i64 2] _ ((bQ _ _).cons (.sc _ .nil)) .nil,g⟩
 |some L=>
  obtain⟨v,rfl,j⟩:=n L h;have d:(L.map V.tree).length=L.length:=Ol ..;exact⟨_,Z,.tup [v,.int .i64 0] _ ((tR k (by rw[d];exact j) (Ec w' G L)).cons (.sc _ .nil)) .nil,g⟩⟩
theorem Jl{a:Int}{m:Nat}(h:a=m)(b:m<18446744073709551616):(Tree.sc (.int .u64 (IntKind.u64.wrap a)))=.sc (.int .u64 ((m:Nat):Int)):=by
 subst h;rw[IntKind.wrap_u64];congr 2;omega
theorem app1{α:Type}(f:α->Tree)(l:List α)(a:α):l.map f++[f a]=(l++[a]).map f:=by simp
theorem MF:(Tryz.prog.info? 4).map (·.size)=some 1:=by kernel_rfl
theorem MG:(Tryz.prog.info? 9).map (·.size)=some 1:=by kernel_rfl
theorem C3(b:List UInt8)(hb:b.length<=65536):Ct 62 [.sl (am b)] (Ji b):=by
 obtain⟨a,Q⟩:∃x,cz 24 ⟨b,0⟩=x:=⟨_,rfl⟩;obtain⟨c,hc⟩:∃x,c8 1 a.2=x:=⟨_,rfl⟩;obtain⟨n,P⟩:∃x,c8 6 c.2=x:=⟨_,rfl⟩;have g1:=iX 24 ⟨b,0⟩;have g2:=eR 1 a.2;have g3:=eR 6 c.2;have g4:=iW 6 c.2;rw[Q]at g1;rw[hc]at g2;rw[P]at g3 g4;dsimp only at g1;refine Ct.of (n:=80) Tryz.func62 Z Z Z Z Z fun w0 G0=>?_
 refine ab<|aj 2 Z<|ab<|ae<|aa 1 Z<|Bq (k:=1) (bs':=[(30,dB),(184,[.sl (am ((Rdr.mk b 0).rest)),nI ((Rdr.mk b 0).err)])]) Z Z Z Z (Mv b (by omega)) Z Z Z Z<|aa 1 Z<|af<|ab<|ae<|pg (cs:=[sT (⟨#[]⟩),bT false,.sc (.slice none 0 0),.sc (.slice none 0 0)]) (b:=2) (bs':=[(30,dB),(184,[.sl (am ((Rdr.mk b 0).rest)),nI ((Rdr.mk b 0).err)]),(30,[sT (⟨#[]⟩),bT false,.sc (.slice none 0 0),.sc (.slice none 0 0)])]) Z Z Z Z iS Z Z Z Z<|af<|ab<|ae<|aa 1 Z<|cW (r:=.sl (am a.1)) (bs':=[(30,dB),(184,[.sl (am a.2.rest),nI (a.2.err)]),(30,[sT (⟨#[]⟩),bT false,.sc (.slice none 0 0),.sc (.slice none 0 0)])]) Z Z Z Z Z Z (Q▸qp ⟨b,0⟩ 24 (by dsimp only;omega) (by decide)) Z Z Z Z<|ag (t:=sT (bs a.1)) Z Z Z (gM Z Z)<|aa 3 Z<|af<|ab<|ae<|aa 1 Z<|cW (r:=.sc (.int .u64 ((c.1:Nat):Int))) (bs':=[(30,dB),(184,[.sl (am c.2.rest),nI (c.2.err)]),(30,[sT (bs a.1),bT false,.sc (.slice none 0 0),.sc (.slice none 0 0)])]) Z Z Z Z Z Z (hc▸rm a.2 1 (by omega)) Z Z Z Z<|ag (t:=bT (decide (c.1=1))) Z Z Z (ah (ai Z Z Z Zy) (au (iF (c.1) 1)))<|aa 3 Z<|af<|ab<|ab<|ae<|aa 1 Z<|cW (r:=.sc (.int .u64 ((n.1:Nat):Int))) (bs':=[(30,dB),(184,[.sl (am n.2.rest),nI (n.2.err)]),(30,[sT (bs a.1),bT (decide (c.1=1)),.sc (.slice none 0 0),.sc (.slice none 0 0)])]) Z Z Z Z Z Z (P▸rm c.2 6 (by omega)) Z Z Z Z<|aa 1 Z<|af<|aA<|jE 2 2 58 3 (bs':=[(30,dB),(184,[.sl (am n.2.rest),nI (n.2.err)]),(30,[sT (bs a.1),bT (decide (c.1=1)),.own 0,.sc (.slice none 0 0)])]) (rs':=[some ⟨58,3,[].map Col.tree,false⟩]) Z Z Z Z<|aO (fun I K=>∃(i:Nat) (d:List Col) (s:Rdr),(i<=n.1/\d.length=i/\s.rest.length<=b.length/\kI (n.1-i) d s=kI n.1 [] n.2)/\I=n.1-i/\K=⟨80,[(0,.sl (am b)),(2,.box 0 0),(4,.box 1 0),(5,.box 2 0),(23,.sc (.int .u64 ((n.1:Nat):Int))),(24,.sc (.int .u64 ((i:Nat):Int)))],[(30,dB),(184,[.sl (am s.rest),nI s.err]),(30,[sT (bs a.1),bT (decide (c.1=1)),.own 0,.sc (.slice none 0 0)])],[some ⟨58,3,d.map Col.tree,false⟩]⟩) 3 1 ⟨0,[],n.2,⟨OA _,Z,by omega,Z⟩,Z,Z⟩ .rf ?_;rintro I K ⟨i,d,s,⟨hi,R,a2,w⟩,rfl,rfl⟩;refine ab<|ae<|ag (t:=bT (decide (i<n.1))) Z Z Z (ah (ai Z Z Z Zy) (au (gK i (n.1))))<|af<|ab<|aD Z (fun y=>?_) (fun y=>?_)
 ·obtain⟨z,Y⟩:∃z,n.1-i=z+1:=⟨n.1-i-1,by omega⟩;obtain⟨p,D⟩:∃x,cz 24 s=x:=⟨_,rfl⟩;obtain⟨q,E⟩:∃x,c8 2 p.2=x:=⟨_,rfl⟩;obtain⟨g,y⟩:∃x,c8 1 q.2=x:=⟨_,rfl⟩;have H:ym s=((⟨bs p.1,((q.1:Nat):Int),decide (g.1=1)⟩:Col),g.2):=by unfold ym;rw[D,E,y];rfl
  have l1:=iX 24 s;have l2:=eR 2 p.2;have l3:=eR 1 q.2;have l4:=iW 2 p.2;rw[D]at l1;rw[E]at l2 l4;rw[y]at l3;rw[Y,kI,H]at w;refine ar<|ab<|aA<|ab<|ae<|aa 1 Z<|cW (r:=.sl (am p.1)) (bs':=[(30,dB),(184,[.sl (am p.2.rest),nI (p.2.err)]),(30,[sT (bs a.1),bT (decide (c.1=1)),.own 0,.sc (.slice none 0 0)])]) Z Z Z Z Z Z (D▸qp s 24 (by omega) (by decide)) Z Z Z Z<|ag (t:=sT (bs p.1)) Z Z Z (gM Z Z)<|aa 1 Z<|af<|ab<|ae<|aa 1 Z<|cW (r:=.sc (.int .u64 ((q.1:Nat):Int))) (bs':=[(30,dB),(184,[.sl (am q.2.rest),nI (q.2.err)]),(30,[sT (bs a.1),bT (decide (c.1=1)),.own 0,.sc (.slice none 0 0)])]) Z Z Z Z Z Z (E▸rm p.2 2 (by omega)) Z Z Z Z<|ag (t:=nI (q.1)) Z Z Z (ah (bM Z cj dQ Z) (Df Z (by omega)))<|aa 1 Z<|af<|eH (sl':=[(0,.sl (am b)),(2,.box 0 0),(4,.box 1 0),(5,.box 2 0),(23,.sc (.int .u64 ((n.1:Nat):Int))),(24,.sc (.int .u64 ((i:Nat):Int))),(25,bT (decide (i<n.1))),(6,sT (bs p.1)),(7,nI (q.1))]) ⟨Z,⟨Z,⟨Z,⟨Z,⟨Z,⟨Z,⟨Z,⟨Z,⟨Z,trivial⟩⟩⟩⟩⟩⟩⟩⟩⟩<|di (fu:=3) [some 32,some 33,some 34,some 35,some 36,some 37,some 38,some 39,some 40,some 41,some 42,some 43,some 44,none] [6,10,13] [.box 2 0,.box 2 2,.own 0,sT (bs p.1),nI (q.1),.box 1 0,.sc (.int .u64 ((g.1:Nat):Int)),bT (decide (g.1=1)),.agg [sT (bs p.1),nI (q.1),bT (decide (g.1=1))],.sl [.agg [sT (bs p.1),nI (q.1),bT (decide (g.1=1))]],.own 0,.box 2 0,.box 2 2,.any] [⟨[6],[(0,.sl (am b)),(2,.box 0 0),(4,.box 1 0),(5,.box 2 0),(23,.sc (.int .u64 ((n.1:Nat):Int))),(24,.sc (.int .u64 ((i:Nat):Int))),(25,bT (decide (i<n.1))),(6,sT (bs p.1)),(7,nI (q.1))],[(30,dB),(184,[.sl (am g.2.rest),nI (g.2.err)]),(30,[sT (bs a.1),bT (decide (c.1=1)),.own 0,.sc (.slice none 0 0)])],[some ⟨58,3,d.map Col.tree,false⟩],[.box 2 0,.box 2 2,.own 0,sT (bs p.1),nI (q.1),.box 1 0,.sc (.int .u64 ((g.1:Nat):Int)),bT (decide (g.1=1)),.agg [sT (bs p.1),nI (q.1),bT (decide (g.1=1))],.sl [.agg [sT (bs p.1),nI (q.1),bT (decide (g.1=1))]],.own 0,.box 2 0,.box 2 2,.any]⟩,⟨[10,6],[(0,.sl (am b)),(2,.box 0 0),(4,.box 1 0),(5,.box 2 0),(23,.sc (.int .u64 ((n.1:Nat):Int))),(24,.sc (.int .u64 ((i:Nat):Int))),(25,bT (decide (i<n.1))),(6,sT (bs p.1)),(7,nI (q.1))],[(30,dB),(184,[.sl (am g.2.rest),nI (g.2.err)]),(30,[sT (bs a.1),bT (decide (c.1=1)),.any,.sc (.slice none 0 0)])],[some ⟨58,3,(d++[(⟨bs p.1,((q.1:Nat):Int),decide (g.1=1)⟩:Col)]).map Col.tree,false⟩],[.box 2 0,.box 2 2,.any,sT (bs p.1),nI (q.1),.box 1 0,.sc (.int .u64 ((g.1:Nat):Int)),bT (decide (g.1=1)),.agg [sT (bs p.1),nI (q.1),bT (decide (g.1=1))],.sl [.agg [sT (bs p.1),nI (q.1),bT (decide (g.1=1))]],.own 0,.box 2 0,.box 2 2,.any]⟩] ⟨[13,10,6],[(0,.sl (am b)),(2,.box 0 0),(4,.box 1 0),(5,.box 2 0),(23,.sc (.int .u64 ((n.1:Nat):Int))),(24,.sc (.int .u64 ((i:Nat):Int))),(25,bT (decide (i<n.1))),(6,sT (bs p.1)),(7,nI (q.1))],[(30,dB),(184,[.sl (am g.2.rest),nI (g.2.err)]),(30,[sT (bs a.1),bT (decide (c.1=1)),.own 0,.sc (.slice none 0 0)])],[some ⟨58,3,(d++[(⟨bs p.1,((q.1:Nat):Int),decide (g.1=1)⟩:Col)]).map Col.tree,false⟩],[.box 2 0,.box 2 2,.any,sT (bs p.1),nI (q.1),.box 1 0,.sc (.int .u64 ((g.1:Nat):Int)),bT (decide (g.1=1)),.agg [sT (bs p.1),nI (q.1),bT (decide (g.1=1))],.sl [.agg [sT (bs p.1),nI (q.1),bT (decide (g.1=1))]],.own 0,.box 2 0,.box 2 2,.any]⟩ (by kernel_rfl) Z (by kernel_rfl) (by kernel_rfl) (by kernel_rfl) Z Z ?_ ?_
  ·refine .opp [] (.okk rfl (aq rfl rfl dl rfl)<|.okk rfl (aq rfl rfl dl rfl)<|.fin)<|.opp [0] (.okk rfl (aq rfl rfl cY rfl)<|.okk rfl (aq rfl rfl cY rfl)<|.fin)<|.opp [1] (.okk rfl (ay rfl rfl rfl ek rfl)<|.okk rfl (ay rfl rfl rfl ek rfl)<|.fin)<|.opp [] (.okk rfl (av rfl rfl)<|.okk rfl (av rfl rfl)<|.fin)<|.opp [] (.okk rfl (av rfl rfl)<|.okk rfl (av rfl rfl)<|.fin)<|.opp [] (.okk rfl (av rfl rfl)<|.fin)<|.opp [5] (.wr 1 id (.sc (.int .u64 ((g.1:Nat):Int))) (by kernel_rfl) rfl rfl (yF (vs:=[.int .u64 1]) rfl rfl rfl rfl rfl (y▸rm q.2 1 (by omega)) rfl rfl) rfl rfl rfl rfl (.k rfl (.k rfl (.k rfl (.k rfl (.k rfl (.k rfl (.i rfl (.k rfl (.k rfl (.k rfl (.k rfl (.k rfl (.k rfl (.k rfl .nil))))))))))))))<|.fin)<|.opp [6] (.no (by kernel_rfl)<|.okk rfl (ah (ai rfl rfl rfl Zy) (au (iF (g.1) 1)))<|.fin)<|.opp [3,4,7] (.no (by kernel_rfl)<|.okk rfl (gi rfl CC rfl rfl rfl)<|.fin)<|.opp [8] (.no (by kernel_rfl)<|.okk rfl (aN rfl bh iO rfl (by decide) (by decide) rfl rfl rfl rfl rfl)<|.fin)<|.opp [2,9] (.no (by kernel_rfl)<|.wr 2 (fi 0) (.own 0) (by kernel_rfl) rfl rfl (c7 rfl rfl rfl oF rfl rfl rfl rfl (by intro e J;simp only[OC,O8,or_false]at J;subst J;rfl) (AllC.lit rfl) (AllC.lit rfl) (by simp only[Ol,Oi,Ou];omega) rfl rfl (by rw[<-app1];rfl)) rfl rfl rfl rfl (.k rfl (.k rfl (.k rfl (.k rfl (.k rfl (.k rfl (.k rfl (.k rfl (.k rfl (.k rfl (.i rfl (.k rfl (.k rfl (.k rfl .nil))))))))))))))<|.fin)<|.opp [] (.nos 2<|.okk rfl (aq rfl rfl dl rfl)<|.fin)<|.opp [11] (.nos 2<|.okk rfl (aq rfl rfl cY rfl)<|.fin)<|.opp [10,12] (.nos 2<|.wr 3 id .any (by kernel_rfl) rfl rfl (gm rfl rfl rfl rfl rfl rfl rfl rfl Cg rfl rfl rfl) rfl rfl rfl rfl (.k rfl (.k rfl (.k rfl (.k rfl (.k rfl (.k rfl (.k rfl (.k rfl (.k rfl (.k rfl (.k rfl (.k rfl (.k rfl (.i rfl .nil))))))))))))))<|.fin)<|.nil
  refine ae<|ag (t:=.sc (.int .u64 ((i+1:Nat):Int))) Z Z Z (ah (ai Z Z Z Zy) (Jl (by omega) (by omega)))<|aa 1 Z<|af<|⟨_,_,?_,⟨i+1,d++[(⟨bs p.1,((q.1:Nat):Int),decide (g.1=1)⟩:Col)],g.2,?_,Z,Z⟩,.rf⟩
  ·omega
  exact⟨by omega,by rw[Oj,R];rfl,by omega,by rw[show n.1-(i+1)=z by omega];exact w⟩
 have a0:i=n.1:=by omega
 rw[a0,Pb,kI]at w;obtain⟨m,W⟩:∃x,c8 64 s=x:=⟨_,rfl⟩;have l5:=eR 64 s;have l6:=iW 64 s;rw[W]at l5 l6;have G:FQ b=(⟨bs a.1,decide (c.1=1),d⟩,m.1,m.2):=by simp only[FQ,Q,hc,P,<-w,W];rfl
 have A:wW b=gQ b.length m.1 [] m.2:=by unfold wW;rw[G]
 refine aQ<|ab<|ab<|ae<|aa 1 Z<|cW (r:=.sc (.int .u64 ((m.1:Nat):Int))) (bs':=[(30,dB),(184,[.sl (am m.2.rest),nI (m.2.err)]),(30,[sT (bs a.1),bT (decide (c.1=1)),.own 0,.sc (.slice none 0 0)])]) Z Z Z Z Z Z (W▸rm s 64 (by omega)) Z Z Z Z<|aa 1 Z<|af<|aA<|jE 2 3 67 4 (bs':=[(30,dB),(184,[.sl (am m.2.rest),nI (m.2.err)]),(30,[sT (bs a.1),bT (decide (c.1=1)),.own 0,.own 1])]) (rs':=[some ⟨58,3,d.map Col.tree,false⟩,some ⟨67,4,([]:List Ot).map Ot.tree,false⟩]) Z Z Z Z<|aO (fun I K=>∃(j:Nat) (v:List Ot) (u:Rdr),(j<=m.1/\v.length=j/\u.rest.length<=b.length/\gQ b.length (m.1-j) v u=gQ b.length m.1 [] m.2)/\I=m.1-j/\K=⟨80,[(0,.sl (am b)),(2,.box 0 0),(4,.box 1 0),(5,.box 2 0),(47,.sc (.int .u64 ((m.1:Nat):Int))),(48,.sc (.int .u64 ((j:Nat):Int)))],[(30,dB),(184,[.sl (am u.rest),nI u.err]),(30,[sT (bs a.1),bT (decide (c.1=1)),.own 0,.own 1])],[some ⟨58,3,d.map Col.tree,false⟩,some ⟨67,4,(v).map Ot.tree,false⟩]⟩) 3 2 ⟨0,[],m.2,⟨OA _,Z,by omega,Z⟩,Z,Z⟩ .rf ?_;rintro I K ⟨j,v,u,⟨hj,U,a3,o⟩,rfl,rfl⟩;refine ab<|ae<|ag (t:=bT (decide (j<m.1))) Z Z Z (ah (ai Z Z Z Zy) (au (gK j (m.1))))<|af<|ab<|aD Z (fun X=>?_) (fun X=>?_)
 ·obtain⟨z,Y⟩:∃z,m.1-j=z+1:=⟨m.1-j-1,by omega⟩;obtain⟨k,N⟩:∃x,cz b.length u=x:=⟨_,rfl⟩;obtain⟨f,S⟩:∃x,fX k.2=x:=⟨_,rfl⟩;have l7:=iX b.length u;have l8:=Fx k.2;have l9:=kG b.length u;rw[N]at l7 l9;rw[S]at l8;rw[Y,gQ,N]at o;refine ar<|ab<|aA<|ab ?_;rcases B:jW k.1 with _|l
  ·rw[B]at o;have O:jl b=(⟨⟨#[]⟩,false,[]⟩,[],false):=by unfold jl;rw[A,<-o]
   refine ae<|aa 2 Z<|ag (t:=nI b.length) Z Z Z (ah (aW Z aP Z) (by simp only[Ol,aC]))<|cW (r:=.sl (am k.1)) (bs':=[(30,dB),(184,[.sl (am k.2.rest),nI (k.2.err)]),(30,[sT (bs a.1),bT (decide (c.1=1)),.own 0,.own 1])]) Z Z Z Z Z Z (N▸qp u b.length (by omega) (by omega)) Z Z Z Z<|ag (t:=.tup [.sl [],nI 2]) Z Z Z (ak Z (by have h:=Ed k.1 (by omega);rw[B]at h;exact h) Z Z)<|aa 5 Z<|af<|ab<|ab<|ae<|aa 1 Z<|ag (t:=bT (decide (2≠0))) Z Z Z (ah (ai Z Z Z Zy) (au (qC 2 0)))<|af<|aD Z (fun L=>?_) (fun L=>?_)
   ·refine ab<|aj 3 Z<|ax<|⟨.inr Z,_,.cons ⟨_,_,_,_,Z,Z,.inl ⟨_,bm,Z,Z⟩⟩ (.cons Z .nil),by unfold Ji;rw[O];rfl,Z⟩
   exact absurd (by decide) L
  rw[B]at o;dsimp only at o;rw[S]at o;refine ae<|aa 2 Z<|ag (t:=nI b.length) Z Z Z (ah (aW Z aP Z) (by simp only[Ol,aC]))<|cW (r:=.sl (am k.1)) (bs':=[(30,dB),(184,[.sl (am k.2.rest),nI (k.2.err)]),(30,[sT (bs a.1),bT (decide (c.1=1)),.own 0,.own 1])]) Z Z Z Z Z Z (N▸qp u b.length (by omega) (by omega)) Z Z Z Z<|ag (t:=.tup [.sl (l.map V.tree),nI 0]) Z Z Z (ak Z (by have h:=Ed k.1 (by omega);rw[B]at h;exact h) Z Z)<|aa 5 Z<|af<|ab<|ab<|ae<|aa 1 Z<|ag (t:=bT (decide (0≠0))) Z Z Z (ah (ai Z Z Z Zy) (au (qC 0 0)))<|af<|aD Z (fun M=>?_) (fun M=>?_)
  ·exact absurd Z M
  refine ar<|eH (sl':=[(0,.sl (am b)),(2,.box 0 0),(4,.box 1 0),(5,.box 2 0),(47,.sc (.int .u64 ((m.1:Nat):Int))),(48,.sc (.int .u64 ((j:Nat):Int))),(49,bT (decide (j<m.1))),(8,.sl (l.map V.tree)),(9,nI 0),(59,bT (decide (0≠0)))]) ⟨Z,⟨Z,⟨Z,⟨Z,⟨Z,⟨Z,⟨Z,⟨Z,⟨Z,⟨Z,trivial⟩⟩⟩⟩⟩⟩⟩⟩⟩⟩<|di (fu:=3) [some 61,some 62,some 63,some 64,some 65,some 66,some 67,some 68,some 69,none] [4,7,9] [.box 2 3,.own 1,.sl (l.map V.tree),.box 1 0,.agg [bT (oP f.1),aG (oQ f.1),aG (oR f.1)],.agg [.sl (l.map V.tree),bT (oP f.1),aG (oQ f.1),aG (oR f.1)],.sl [.agg [.sl (l.map V.tree),bT (oP f.1),aG (oQ f.1),aG (oR f.1)]],.own 1,.box 2 3,.any] [⟨[4],[(0,.sl (am b)),(2,.box 0 0),(4,.box 1 0),(5,.box 2 0),(47,.sc (.int .u64 ((m.1:Nat):Int))),(48,.sc (.int .u64 ((j:Nat):Int))),(49,bT (decide (j<m.1))),(8,.sl (l.map V.tree)),(9,nI 0),(59,bT (decide (0≠0)))],[(30,dB),(184,[.sl (am f.2.rest),nI (f.2.err)]),(30,[sT (bs a.1),bT (decide (c.1=1)),.own 0,.own 1])],[some ⟨58,3,d.map Col.tree,false⟩,some ⟨67,4,(v).map Ot.tree,false⟩],[.box 2 3,.own 1,.sl (l.map V.tree),.box 1 0,.agg [bT (oP f.1),aG (oQ f.1),aG (oR f.1)],.agg [.sl (l.map V.tree),bT (oP f.1),aG (oQ f.1),aG (oR f.1)],.sl [.agg [.sl (l.map V.tree),bT (oP f.1),aG (oQ f.1),aG (oR f.1)]],.own 1,.box 2 3,.any]⟩,⟨[7,4],[(0,.sl (am b)),(2,.box 0 0),(4,.box 1 0),(5,.box 2 0),(47,.sc (.int .u64 ((m.1:Nat):Int))),(48,.sc (.int .u64 ((j:Nat):Int))),(49,bT (decide (j<m.1))),(8,.sl (l.map V.tree)),(9,nI 0),(59,bT (decide (0≠0)))],[(30,dB),(184,[.sl (am f.2.rest),nI (f.2.err)]),(30,[sT (bs a.1),bT (decide (c.1=1)),.own 0,.any])],[some ⟨58,3,d.map Col.tree,false⟩,some ⟨67,4,(v++[(⟨l,f.1⟩:Ot)]).map Ot.tree,false⟩],[.box 2 3,.any,.sl (l.map V.tree),.box 1 0,.agg [bT (oP f.1),aG (oQ f.1),aG (oR f.1)],.agg [.sl (l.map V.tree),bT (oP f.1),aG (oQ f.1),aG (oR f.1)],.sl [.agg [.sl (l.map V.tree),bT (oP f.1),aG (oQ f.1),aG (oR f.1)]],.own 1,.box 2 3,.any]⟩] ⟨[9,7,4],[(0,.sl (am b)),(2,.box 0 0),(4,.box 1 0),(5,.box 2 0),(47,.sc (.int .u64 ((m.1:Nat):Int))),(48,.sc (.int .u64 ((j:Nat):Int))),(49,bT (decide (j<m.1))),(8,.sl (l.map V.tree)),(9,nI 0),(59,bT (decide (0≠0)))],[(30,dB),(184,[.sl (am f.2.rest),nI (f.2.err)]),(30,[sT (bs a.1),bT (decide (c.1=1)),.own 0,.own 1])],[some ⟨58,3,d.map Col.tree,false⟩,some ⟨67,4,(v++[(⟨l,f.1⟩:Ot)]).map Ot.tree,false⟩],[.box 2 3,.any,.sl (l.map V.tree),.box 1 0,.agg [bT (oP f.1),aG (oQ f.1),aG (oR f.1)],.agg [.sl (l.map V.tree),bT (oP f.1),aG (oQ f.1),aG (oR f.1)],.sl [.agg [.sl (l.map V.tree),bT (oP f.1),aG (oQ f.1),aG (oR f.1)]],.own 1,.box 2 3,.any]⟩ (by kernel_rfl) Z (by kernel_rfl) (by kernel_rfl) (by kernel_rfl) Z Z ?_ ?_
  ·refine .opp [] (.okk rfl (aq rfl rfl a6 rfl)<|.okk rfl (aq rfl rfl a6 rfl)<|.fin)<|.opp [0] (.okk rfl (ay rfl rfl rfl bz rfl)<|.okk rfl (ay rfl rfl rfl bz rfl)<|.fin)<|.opp [] (.okk rfl (av rfl rfl)<|.okk rfl (av rfl rfl)<|.fin)<|.opp [] (.okk rfl (av rfl rfl)<|.fin)<|.opp [3] (.wr 1 id (.agg [bT (oP f.1),aG (oQ f.1),aG (oR f.1)]) (by kernel_rfl) rfl rfl (yF (vs:=[]) rfl rfl rfl rfl rfl (S▸My k.2 (by omega)) rfl rfl) rfl rfl rfl rfl (.k rfl (.k rfl (.k rfl (.k rfl (.i rfl (.k rfl (.k rfl (.k rfl (.k rfl (.k rfl .nil))))))))))<|.fin)<|.opp [2,4] (.no (by kernel_rfl)<|.okk rfl (gi rfl gG rfl rfl rfl)<|.fin)<|.opp [5] (.no (by kernel_rfl)<|.okk rfl (aN rfl aM gB rfl (by decide) (by decide) rfl rfl rfl rfl rfl)<|.fin)<|.opp [1,6] (.no (by kernel_rfl)<|.wr 2 (fi 1) (.own 1) (by kernel_rfl) rfl rfl (c7 rfl rfl rfl ia rfl rfl rfl rfl (by intro e J;simp only[OC,O8,or_false]at J;subst J;rfl) (AllC.lit rfl) (AllC.lit rfl) (by simp only[Ol,Oi,Ou];omega) rfl rfl (by rw[<-app1];rfl)) rfl rfl rfl rfl (.k rfl (.k rfl (.k rfl (.k rfl (.k rfl (.k rfl (.k rfl (.i rfl (.k rfl (.k rfl .nil))))))))))<|.fin)<|.opp [] (.nos 2<|.okk rfl (aq rfl rfl a6 rfl)<|.fin)<|.opp [7,8] (.nos 2<|.wr 3 id .any (by kernel_rfl) rfl rfl (gm rfl rfl rfl rfl rfl rfl rfl rfl mx rfl rfl rfl) rfl rfl rfl rfl (.k rfl (.k rfl (.k rfl (.k rfl (.k rfl (.k rfl (.k rfl (.k rfl (.k rfl (.i rfl .nil))))))))))<|.fin)<|.nil
  refine ae<|ag (t:=.sc (.int .u64 ((j+1:Nat):Int))) Z Z Z (ah (ai Z Z Z Zy) (Jl (by omega) (by omega)))<|aa 1 Z<|af<|⟨_,_,?_,⟨j+1,v++[(⟨l,f.1⟩:Ot)],f.2,?_,Z,Z⟩,.rf⟩
  ·omega
  exact⟨by omega,by rw[Oj,U];rfl,by omega,by rw[show m.1-(j+1)=z by omega];exact o⟩
 have T:j=m.1:=by omega
 rw[T,Pb,gQ]at o;have O:jl b=(⟨bs a.1,decide (c.1=1),d⟩,v,decide (u.err=0)&&decide (u.rest.length=0)):=by unfold jl;rw[A,<-o,G]
 refine dI 0 (bs':=[(30,dB),(184,[.sl (am u.rest),nI u.err]),(30,[sT (bs a.1),bT (decide (c.1=1)),.sl (d.map Col.tree),.own 1])]) (rs':=[none,some ⟨67,4,(v).map Ot.tree,false⟩]) Z Z Z Z<|dI 1 (bs':=[(30,dB),(184,[.sl (am u.rest),nI u.err]),(30,[sT (bs a.1),bT (decide (c.1=1)),.sl (d.map Col.tree),.sl ((v).map Ot.tree)])]) (rs':=[none,none]) Z Z Z Z<|aQ<|ab<|eH (sl':=[(0,.sl (am b)),(2,.box 0 0),(4,.box 1 0),(5,.box 2 0),(47,.sc (.int .u64 ((m.1:Nat):Int))),(48,.sc (.int .u64 ((j:Nat):Int))),(49,bT (decide (j<m.1)))]) ⟨Z,⟨Z,⟨Z,⟨Z,⟨Z,⟨Z,⟨Z,trivial⟩⟩⟩⟩⟩⟩⟩<|di (fu:=4) [some 71,some 72,some 73,some 74,some 75,some 76,some 77,some 78,some 79,none,some 3] [9] [.agg [sT (bs a.1),bT (decide (c.1=1)),.sl (d.map Col.tree),.sl ((v).map Ot.tree)],.box 1 0,nI u.err,bT (decide (u.err=0)),bT (decide (u.err=0)),if(decide (u.err=0))=true then(.box 1 0:Tree)else .sc undef,if(decide (u.err=0))=true then(nI u.rest.length:Tree)else .sc undef,if(decide (u.err=0))=true then(bT (decide (u.rest.length=0)):Tree)else .sc undef,bT ((decide (u.err=0))&&(decide (u.rest.length=0))),.any,bT ((decide (u.err=0))&&(decide (u.rest.length=0)))] [] ⟨[9],[(0,.sl (am b)),(2,.box 0 0),(4,.box 1 0),(5,.box 2 0),(47,.sc (.int .u64 ((m.1:Nat):Int))),(48,.sc (.int .u64 ((j:Nat):Int))),(49,bT (decide (j<m.1)))],[(30,[sT (bs a.1),bT (decide (c.1=1)),.sl (d.map Col.tree),.sl ((v).map Ot.tree)]),(184,[.sl (am u.rest),nI u.err]),(30,[sT (bs a.1),bT (decide (c.1=1)),.sl (d.map Col.tree),.sl ((v).map Ot.tree)])],[none,none],[.agg [sT (bs a.1),bT (decide (c.1=1)),.sl (d.map Col.tree),.sl ((v).map Ot.tree)],.box 1 0,nI u.err,bT (decide (u.err=0)),bT (decide (u.err=0)),if(decide (u.err=0))=true then(.box 1 0:Tree)else .sc undef,if(decide (u.err=0))=true then(nI u.rest.length:Tree)else .sc undef,if(decide (u.err=0))=true then(bT (decide (u.rest.length=0)):Tree)else .sc undef,bT ((decide (u.err=0))&&(decide (u.rest.length=0))),.any,bT ((decide (u.err=0))&&(decide (u.rest.length=0)))]⟩ (by kernel_rfl) Z (by kernel_rfl) (by kernel_rfl) (by kernel_rfl) Z Z ?_ ?_
 ·refine .opp [] (.okk Z (aR Z Z Z bm Z Z)<|.fin)<|.opp [] (.okk Z (av Z Z)<|.fin)<|.opp [1] (.okk Z (yG Z Z Z (NF u) Z Z Z)<|.fin)<|.opp [2] (.okk Z (ah (ai Z Z Z Zy) (au (iF u.err 0)))<|.fin)<|.opp [3] (.okk Z (av Z Z)<|.fin)<|.opp [4] (.cnd (t:=.box 1 0) 4 true 75 76 ((decide (u.err=0))=true) (by kernel_rfl) Z Z Z Z (by kernel_rfl) (by kernel_rfl) qG Z Z Z (fun F=>av Z Z)<|.fin)<|.opp [4,5] (.cnd (t:=nI u.rest.length) 4 true 75 77 ((decide (u.err=0))=true) (by kernel_rfl) Z Z Z Z (by kernel_rfl) (by kernel_rfl) qG Z Z Z (fun F=>yG Z (if_pos F) Z (NG u) Z Z Z)<|.fin)<|.opp [4,6] (.cnd (t:=bT (decide (u.rest.length=0))) 4 true 75 78 ((decide (u.err=0))=true) (by kernel_rfl) Z Z Z Z (by kernel_rfl) (by kernel_rfl) qG Z Z Z (fun F=>ah (ai Z (if_pos F) Z (fun _=>rfl)) (au (iF u.rest.length 0)))<|.cnd (t:=bT (decide (u.rest.length=0))) 4 true 75 78 ((decide (u.err=0))=true) (by kernel_rfl) Z Z Z Z (by kernel_rfl) (by kernel_rfl) qG Z Z Z (fun F=>ah (ai Z (if_pos F) Z (fun _=>rfl)) (au (iF u.rest.length 0)))<|.nil)<|.opp [4,7] (.okk Z (aL Z Z (fun C=>(if_pos C).trans (au (by rw[C];rfl))) (fun C=>(au (by rw[C];rfl))))<|.okk Z (aL Z Z (fun C=>(if_pos C).trans (au (by rw[C];rfl))) (fun C=>(au (by rw[C];rfl))))<|.nil)<|.opp [0] (.wr 1 id .any (by kernel_rfl) Z Z (gm Z Z Z Z Z Z Z Z mv Z Z Z) Z Z Z Z (.k Z (.k Z (.k Z (.k Z (.k Z (.k Z (.k Z (.k Z (.k Z (.i Z (.k Z .nil)))))))))))<|.fin)<|.opp [8] (.no (by kernel_rfl)<|.okk Z (bE Z Z)<|.nil)<|.nil
 refine ax<|⟨.inr Z,_,.cons ⟨_,_,_,_,Z,Z,.inl ⟨_,bm,Z,Z⟩⟩ (.cons Z .nil),by unfold Ji;rw[O];rfl,Z⟩
def qB(b:List UInt8):Rel×Nat:=
 if b.length<4 then(Rel.zero,3)
 else if om (g5 (b.take (b.length-4)))≠b.drop (b.length-4)then(Rel.zero,5)
 else match oo (b.take (b.length-4))with
  |none=>(Rel.zero,2)
  |some r=>if bD r=0/\eY r=b then(r,0)else(Rel.zero,2)
def MB(b:List UInt8):Tree:=.tup [(qB b).1.tree,.sc (.int .i64 (((qB b).2:Nat):Int))]
theorem mL{b:List UInt8}{r:Rel}{e:Nat}(h:qB b=(r,e)){t:Tree}(a:t=r.tree): .tup [t,nI e]=MB b:=by unfold MB;rw[h,a]
theorem K5{t:Tree}{r:Rel}{a:Nat}(d:t=r.tree)(c:Enc r)(b:a=0):Ct 18 [t] (.tup [.sl (am (eY r)),nI a]):=by
 subst d b;exact(uF c).ct
theorem K6{t:Tree}{r:Rel}(a:t=r.tree)(b:FitR r)(c:bD r≠0):Ct 18 [t] (.tup [.sl [],iT (bD r)]):=by
 subst a;exact wP r b c
theorem FU(b:List UInt8)(B:b.length<=65536):Ct 20 [.sl (am b)] (MB b):=by
 obtain⟨w,q⟩:∃z:Nat,z=0:=⟨_,rfl⟩;refine Ct.of (n:=51) Tryz.func20 Z Z Z Z Z fun w0 G0=>?_
 refine ab<|aj 2 Z<|ab<|ab<|ae<|aa 1 Z<|ag (t:=nI b.length) Z Z Z (ah (aW Z aP Z) (by simp only[Ol,aC]))<|ag (t:=bT (decide (b.length<4))) Z Z Z (ah (ai Z Z Z Zy) (au (gK b.length 4)))<|af<|aD Z (fun f=>?_) (fun f=>?_)
 ·have d:qB b=(Rel.zero,3):=by unfold qB;rw[if_pos f]
  refine ab<|aj 3 Z<|ax<|⟨.inr Z,_,.cons ⟨_,_,_,_,Z,Z,.inl ⟨_,bm,Z,Z⟩⟩ (.cons Z .nil),mL d Z,Z⟩
 obtain⟨C,a⟩:∃C,b.length-4=C:=⟨_,rfl⟩;have y:b.length=C+4:=by omega
 have o:qB b=if om (g5 (b.take C))≠b.drop C then(Rel.zero,5)else match oo (b.take C)with
  |none=>(Rel.zero,2)
  |some r=>if bD r=0/\eY r=b then(r,0)else(Rel.zero,2):=by unfold qB;rw[if_neg f,a]
 refine ar<|ab<|ae<|aa 2 Z<|ag (t:=nI (C+4)) Z Z Z (ah (aW Z aP Z) (by simp only[aC,y]))<|ag (t:=nI C) Z Z Z (ah (ai Z Z Z Zy) (bp (by omega)))<|ag (t:=.sl (am (b.take C))) Z Z Z (ah (gh (l:=0) (h:=C) Z aP Z Z ⟨_,Z⟩ (OA _) (by rw[aC];omega) (aV _)) (wR _ _))<|aa 1 Z<|af<|ab<|ab<|ck (fu:=9) [some 18,some 19,some 20,some 21,some 22,some 23,some 24,some 25,some 26] [.sl (am (b.take C)),.sl (am (om (g5 (b.take C)))),.sl (am b),.sl (am b),nI (C+4),nI C,.sl (am (b.drop C)),bT (decide (om (g5 (b.take C))=b.drop C)),bT (!(decide (om (g5 (b.take C))=b.drop C)))] (by kernel_rfl) Z Z (by kernel_rfl) Z ?_ ?_
 ·refine Chain.op Z (av Z Z)<|Chain.op Z (ak Z (Mp _ (by rw[Ox];omega)) Z Z)<|Chain.op Z (av Z Z)<|Chain.op Z (av Z Z)<|Chain.op Z (ah (aW Z aP Z) (by simp only[aC,y]))<|Chain.op Z (ah (ai Z Z Z Zy) (bp (by omega)))<|Chain.op Z (ah (gh (l:=C) (h:=(am b).length) Z aP Z ⟨_,Z⟩ Z (by rw[aC];omega) (Oh _) (aV _)) (uJ _ _))<|Chain.op Z (ak Z (rk _ _) Z Z)<|Chain.op Z (dw Z Z Zy)<|Chain.nil
 refine aH Z (fun i=>?_) (fun i=>?_)
 ·have c:om (g5 (b.take C))≠b.drop C:=by simpa using i
  have d:qB b=(Rel.zero,5):=by rw[o,if_pos c]
  refine ab<|aj 3 Z<|ax<|⟨.inr Z,_,.cons ⟨_,_,_,_,Z,Z,.inl ⟨_,bm,Z,Z⟩⟩ (.cons Z .nil),mL d Z,Z⟩
 have c:om (g5 (b.take C))=b.drop C:=by simpa using i
 refine ar<|ab<|ae<|aa 1 Z<|ag Z Z Z (ak Z (C3 (b.take C) (by rw[Ox];omega)) Z Z)<|aa 6 Z<|af<|ab<|ab<|ae<|aa 1 Z<|ag (t:=bT (!((jl (b.take C)).2.2))) Z Z Z (dw Z Z Zy)<|af<|aH Z (fun k=>?_) (fun k=>?_)
 ·have d:qB b=(Rel.zero,2):=by
   have x:(jl (b.take C)).2.2=false:=by simpa using k
   have A:oo (b.take C)=none:=by unfold oo;rw[x];rfl
   rw[o,if_neg (fun h=>h c),A]
  refine ab<|aj 3 Z<|ax<|⟨.inr Z,_,.cons ⟨_,_,_,_,Z,Z,.inl ⟨_,bm,Z,Z⟩⟩ (.cons Z .nil),mL d Z,Z⟩
 obtain⟨r,u⟩:∃r,oo (b.take C)=some r:=by
  have x:(jl (b.take C)).2.2=true:=by simpa using k
  exact⟨_,by unfold oo;rw[if_pos x]⟩
 obtain⟨s,v,g⟩:=FR (by rw[Ox];omega) u;refine ar<|ab ?_;by_cases p:bD r=0
 ·refine ae<|aa 1 Z<|ag Z Z Z (ak Z (K5 g ⟨p,⟨s,trivial⟩,v⟩ q) Z Z)<|aa 5 Z<|af<|ab<|ab<|ae<|aa 1 Z<|ag (t:=bT (decide (w≠0))) Z Z Z (ah (ai Z Z Z Zy) (au (qC w 0)))<|aa 1 Z<|aw (t:=.sl (am (eY r))) Z Z Z Z (fun a=>av Z Z)<|aw (t:=.sl (am b)) Z Z Z Z (fun a=>av Z Z)<|aw (t:=bT (decide (eY r=b))) Z Z Z Z (fun a=>ak Z (rk _ _) (eo (if_pos a) (eo (if_pos a) Z)) Z)<|aw (t:=bT (!(decide (eY r=b)))) Z Z Z Z (fun a=>dw Z (if_pos a) (fun _=>rfl))<|ag (t:=bT ((decide (w≠0))||(!(decide (eY r=b))))) Z Z Z (aL Z Z (fun e=>(au (by rw[e];rfl))) (fun e=>(if_pos e).trans (au (by rw[e];rfl))))<|af<|aH Z (fun m=>?_) (fun m=>?_)
  ·have d:qB b=(Rel.zero,2):=by rw[o,if_neg (fun h=>h c),u];exact if_neg fun h=>by simp[h.2,q]at m
   refine ab<|aj 3 Z<|ax<|⟨.inr Z,_,.cons ⟨_,_,_,_,Z,Z,.inl ⟨_,bm,Z,Z⟩⟩ (.cons Z .nil),mL d Z,Z⟩
  have d:qB b=(r,0):=by
   rw[o,if_neg (fun h=>h c),u];refine if_pos ⟨p,?_⟩;by_cases h:eY r=b
   ·exact h
   simp[h]at m
  refine ar<|ab<|aj 3 Z<|ax<|⟨.inr Z,_,.cons ⟨_,_,_,_,Z,Z,.inl ⟨_,bm,Z,Z⟩⟩ (.cons Z .nil),mL d g,Z⟩
 refine ae<|aa 1 Z<|ag Z Z Z (ak Z (K6 g s p) Z Z)<|aa 5 Z<|af<|ab<|ab<|ae<|aa 1 Z<|ag (t:=bT ((bD r) !=0)) Z Z Z (ai Z Z Z Zy)<|aa 1 Z<|aw (t:=.sl (am ([]:List UInt8))) Z Z Z Z (fun a=>av Z Z)<|aw (t:=.sl (am b)) Z Z Z Z (fun a=>av Z Z)<|aw (t:=bT (decide (([]:List UInt8)=b))) Z Z Z Z (fun a=>ak Z (rk _ _) (eo (if_pos a) (eo (if_pos a) Z)) Z)<|aw (t:=bT (!(decide (([]:List UInt8)=b)))) Z Z Z Z (fun a=>dw Z (if_pos a) (fun _=>rfl))<|ag (t:=bT (((bD r) !=0)||(!(decide (([]:List UInt8)=b))))) Z Z Z (aL Z Z (fun e=>(au (by rw[e];rfl))) (fun e=>(if_pos e).trans (au (by rw[e];rfl))))<|af<|aH Z (fun j=>?_) (fun j=>?_)
 ·have d:qB b=(Rel.zero,2):=by rw[o,if_neg (fun h=>h c),u];exact if_neg fun h=>p h.1
  refine ab<|aj 3 Z<|ax<|⟨.inr Z,_,.cons ⟨_,_,_,_,Z,Z,.inl ⟨_,bm,Z,Z⟩⟩ (.cons Z .nil),mL d Z,Z⟩
 exact absurd (by simp at j;exact j.1) p
theorem uS(s:ByteArray):(⟨s.data.toList.toArray⟩:ByteArray)=s:=by
 cases s;simp
theorem Jm{c:Col}(t:List UInt8)(j:c.name.size<=24)(h:0<=c.ty)(d:c.ty<=2):ym ⟨lD c++t,0⟩=(c,⟨t,0⟩):=by
 have i:=jk c.name;have e:lD c++t=df c.name.data.toList++(c6 c.ty.toNat++(c6 (if c.key then 1 else 0)++t)):=by unfold lD fM;simp
 have g:=mJ (a:=c.name.data.toList) (m:=24) (c6 c.ty.toNat++(c6 (if c.key then 1 else 0)++t)) (by omega) (by omega);have f:=jK (n:=c.ty.toNat) (m:=2) (c6 (if c.key then 1 else 0)++t) (by omega) (by omega);have b:=jK (n:=if c.key then 1 else 0) (m:=1) t (by split<;>decide) (by split<;>decide);unfold ym;rw[e,g];dsimp only;rw[f];dsimp only;rw[b];dsimp only;rw[uS];obtain⟨k,ty,key⟩:=c;dsimp only at h d⊢;congr 1;congr 1
 ·omega
 cases key<;>rfl
theorem xa:∀(l a:List Col) (t:List UInt8),(∀c∈l,c.name.size<=24/\0<=c.ty/\c.ty<=2)->kI l.length a ⟨l.flatMap lD++t,0⟩=(a++l,⟨t,0⟩)
 |[],a,t,_=>by simp[kI]
 |c::l,a,t,h=>by
  obtain⟨d,f,e⟩:=h c (OR ..);rw[Oi,kI,PZ,O0,Jm _ d f e];dsimp only;rw[xa l _ t fun x b=>h x (OX _ b)];simp
structure EncT (m:Nat) (t:Tp):Prop where
 ok:t.vals.all V.ok=true
 rng:∀v∈t.vals,v.rng
 len:(d7 t.vals).length<=m
 num:(mI t.prob.num.natAbs).length<=8192
 den:(mI t.prob.den).length<=8192
theorem xb{m:Nat}(f:m<=1073741824):∀(l:List Tp) (b:List Ot) (t:List UInt8),(∀x∈l,EncT m x)->gQ m l.length b ⟨l.flatMap ka++t,0⟩=some (b++l.map (fun x=>⟨x.vals,some x.prob⟩),⟨t,0⟩)
 |[],b,t,_=>by simp[gQ]
 |x::l,b,t,h=>by
  have c:=h x (OR ..);have g:=mJ (a:=d7 x.vals) (m:=m) (n3 x.prob++(l.flatMap ka++t)) (by have:=c.len;omega) c.len;have d:=FG x.prob (l.flatMap ka++t) c.num c.den;have e:(x::l).flatMap ka++t=df (d7 x.vals)++(n3 x.prob++(l.flatMap ka++t)):=by
   rw[PZ];unfold ka;simp
  rw[Oi,gQ,e,g];dsimp only;rw[yS x.vals c.ok c.rng];dsimp only;rw[d];dsimp only;rw[xb f l _ t fun y i=>h y (OX _ i)];simp
theorem C4{cert:Bool}{q:Rat}(h:iA cert q=true):(mI q.num.natAbs).length<=8192/\(mI q.den).length<=8192:=by
 unfold iA at h;rw[Oo,Pu,OH,OH]at h;have m:bP q.den<=65536:=of_decide_eq_true h.2;have e:¬cF q<0:=of_decide_eq_false h.1.1.1;have d:¬cF (1-q)<0:=of_decide_eq_false h.1.1.2;rw[j3]at e d;have b:0<=q:=Rat.not_lt.1 e;have c:q<=1:=by
  have:=Rat.not_lt.1 d;exact(Rat.le_iff_sub_nonneg _ _).2 this
 have a:q.num.natAbs<=q.den:=by
  have i:=(Rat.le_iff _ _).1 c;have k:0<=q.num:=Rat.num_nonneg.2 b;simp at i;omega
 have f:bP q.num.natAbs<=bP q.den:=by
  by_cases h:q.num.natAbs=0
  ·rw[h];exact OA _
  obtain⟨j,_,l⟩:=uN h;obtain⟨_,g,_⟩:=uN q.den_nz;have:=PP j (PP a g);have:=(Sc (by decide)).1 this;omega
 rw[uC,uC];omega
theorem A5{r:Rel}(d:Enc r):∀x∈r.tups,EncT (iD r).length x:=fun x c=>by
 have h:=ij (((rM _).1 (mB.1 d.valid).2.2.1).1 x c);obtain⟨f,k,j⟩:=yi d c;obtain⟨g,i⟩:=C4 h.2.1;refine⟨f,d.rng x c,?_,g,i⟩;obtain⟨a,b,e⟩:=List.append_of_mem c;unfold iD;rw[e,RP,PZ];unfold ka df;simp only[Oj];omega
theorem Ee{r:Rel}(b:Enc r):FQ (iD r)=(r.sch,r.tups.length,⟨r.tups.flatMap ka,0⟩):=by
 obtain⟨⟨q,p⟩,⟨s,d⟩,f⟩:=yh b;have l:=jk r.sch.name;have k:=b.len;have e:iD r=df r.sch.name.data.toList++(c6 (if r.sch.cert then 1 else 0)++(c6 r.sch.cols.length++(r.sch.cols.flatMap lD++(c6 r.tups.length++r.tups.flatMap ka)))):=by
  unfold iD qm fM;simp
 have j:=mJ (a:=r.sch.name.data.toList) (m:=24) (c6 (if r.sch.cert then 1 else 0)++(c6 r.sch.cols.length++(r.sch.cols.flatMap lD++(c6 r.tups.length++r.tups.flatMap ka)))) (by omega) (by omega);have h:=jK (n:=if r.sch.cert then 1 else 0) (m:=1) (c6 r.sch.cols.length++(r.sch.cols.flatMap lD++(c6 r.tups.length++r.tups.flatMap ka))) (by split<;>decide) (by split<;>decide);have c:=jK (n:=r.sch.cols.length) (m:=6) (r.sch.cols.flatMap lD++(c6 r.tups.length++r.tups.flatMap ka)) (by omega) d;have i:=xa r.sch.cols [] (c6 r.tups.length++r.tups.flatMap ka) f;have g:=jK (n:=r.tups.length) (m:=64) (r.tups.flatMap ka) (by omega) k;unfold FQ;simp only[e,j,h,c,i,g,Py];rw[uS];obtain⟨⟨o,ct,cs⟩,ts⟩:=r;dsimp only;cases ct<;>rfl
theorem FV{r:Rel}(a:Enc r)(b:(iD r).length<=1073741824):oo (iD r)=some r:=by
 have d:wW (iD r)=some (r.tups.map (fun x=>⟨x.vals,some x.prob⟩),⟨[],0⟩):=by
  unfold wW;rw[Ee a];dsimp only;have:=xb b r.tups [] [] (A5 a);rw[O5,Py]at this;exact this
 unfold oo jl;rw[d,Ee a];dsimp only;have c:(r.tups.map (fun x=>(⟨x.vals,some x.prob⟩:Ot))).map Ot.tp=r.tups:=by
  rw[List.map_map];have:(Ot.tp∘fun(x:Tp)=>(⟨x.vals,some x.prob⟩:Ot))=id:=by
   funext x;rfl
  rw[this,List.map_id]
 rw[c];exact if_pos Z
theorem Ef{r:Rel}(d:Good r):(eY r).length<=65536:=by
 obtain⟨⟨J,H⟩,⟨B,I⟩,o⟩:=AJ d;have u:=jk r.sch.name;have w:=d.len;have a:∀n,n<18446744073709551616->(c6 n).length<=10:=fun n h=>dM h
 have m:∀l:List Tp,(∀x∈l,EncT (iD r).length x/\(d7 x.vals).length<=396)->(l.flatMap ka).length<=l.length*17000:=by
  intro l;induction l with
  |nil=>intro _;exact Oh _
  |cons x l ih=>
   intro h;obtain⟨b,s⟩:=h x (OR ..);have j:=ih fun y e=>h y (OX _ e)
   have f:=a (d7 x.vals).length (by omega);have i:=a (mI x.prob.num.natAbs).length (by have:=b.num;omega);have g:=a (mI x.prob.den).length (by have:=b.den;omega);have k:=b.num;have C:=b.den;rw[PZ,Oj,Oi];have:(ka x).length<=17000:=by
    unfold ka n3 kT df;simp only[Oj,Oi];omega
   omega
 have p:∀l:List Col,(∀c∈l,c.name.size<=24/\0<=c.ty/\c.ty<=2)->(l.flatMap lD).length<=l.length*100:=by
  intro l;induction l with
  |nil=>intro _;exact Oh _
  |cons c l ih=>
   intro h;obtain⟨D,v,A⟩:=h c (OR ..);have j:=ih fun y e=>h y (OX _ e)
   have E:=jk c.name;have f:=a c.name.data.toList.length (by omega);have i:=a c.ty.toNat (by omega);have g:=jJ c.key;rw[PZ,Oj,Oi];have:(lD c).length<=100:=by
    unfold lD df;simp only[Oj];omega
   omega
 have z:=m r.tups fun x b=>⟨A5 d.enc x b,(AL d b).2.2⟩
 have F:=p r.sch.cols o;have f:=a r.sch.name.data.toList.length (by omega);have i:=a r.sch.cols.length (by omega);have g:=a r.tups.length (by omega);have k:=jJ r.sch.cert;have t:(om (g5 (iD r))).length=4:=rfl;have G:(eY r).length=(iD r).length+4:=by unfold eY;rw[Oj,t]
 have q:(iD r).length<=60000:=by
  unfold iD qm df;simp only[Oj];omega
 omega
theorem FW{r:Rel}(b:Enc r)(c:(iD r).length<=1073741824):qB (eY r)=(r,0):=by
 have d:(om (g5 (iD r))).length=4:=rfl;have a:(eY r).length=(iD r).length+4:=by unfold eY;rw[Oj,d]
 have e:(eY r).take ((eY r).length-4)=iD r:=by rw[a,QP];unfold eY;simp
 have f:(eY r).drop ((eY r).length-4)=om (g5 (iD r)):=by rw[a,QP];unfold eY;simp
 unfold qB;rw[if_neg (by omega),e,f,if_neg (fun h=>h Z),FV b c];exact if_pos ⟨b.valid,Z⟩
end Go.Proofs.YtfoejfohbkmmeaaGreatDoor
