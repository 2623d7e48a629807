import Derived.Test.YtfoejfohbkmmeaaGreatDoorP21
import Derived.Test.YtfoejfohbkmmeaaGreatDoorP09
import Derived.Test.YtfoejfohbkmmeaaGreatDoorP00
import Derived.Test.YtfoejfohbkmmeaaGreatDoorP06
import Derived.Test.YtfoejfohbkmmeaaGreatDoorP15
import Derived.Lib.AppendZerosOnto
import Derived.ArgAppend
import Derived.Laws.NewBlocks
import Derived.Shelf.Spec.SlicesInsert
set_option maxRecDepth 100000
set_option maxHeartbeats 4000000
namespace Go.Proofs.YtfoejfohbkmmeaaGreatDoor
open Go.RowKit
open Lib renaming hid→J
theorem Jf{es:List Tree}(h:es=[]):(Tree.sl [])=.sl es:=by rw[h]
theorem sQ:kM Tryz.prog 24=some (58,3,32):=by kernel_rfl
theorem uN(l:List Col)(e:l.length<=65536):Ct 27 [.sl (l.map Col.tree)] (.sl (l.map Col.tree)):=by
 refine Ct.of (n:=8) Tryz.func27 Z Z Z Z Z fun w0 G0=>?_
 refine ab<|ae<|af (t:=.sl []) Z Z Z (cz (.inr Z) dk)<|ag<|ab<|ab<|ae<|aa 1 Z<|ki (fun d=>∃c:Bool,(c=true->(l.map Col.tree)=[])/\d=bT c) Z Z Z (uu Z bg Z) ?_;rintro _ ⟨nb,b,rfl⟩;refine ag<|aF Z (fun a=>?_) (fun a=>?_)
 ·refine ab<|ae<|af (t:=.sl []) Z Z Z (cz (.inr Z) dk)<|ag<|aw<|⟨.inr Z,_,.cons Z .nil,Jf (b a),Z⟩
 refine am<|ab<|ae<|oT (k:=0) (rs':=[some ⟨58,3,[].map Col.tree,true⟩]) Z Z Z Z sQ Z Z<|aa 1 Z<|cg (bs':=[]) (rs':=[some ⟨58,3,l.map Col.tree,false⟩]) Z Z Z Z sQ Z Z Z Z (eC _) (AllC.map _ _ fun _=>rfl) (AllC.map _ _ fun _=>rfl) (by simp only[L5,Mg];omega) Z Z Z Z<|aa 1 Z<|ag<|ek 0 (bs':=[]) (rs':=[none]) Z Z Z Z<|aw<|⟨.inr Z,_,.cons Z .nil,Z,Z⟩
theorem DB(l:List V)(e:l.length<=65536):Ct 155 [.sl (l.map V.tree)] (.sl (l.map V.tree)):=by
 refine Ct.of (n:=8) Tryz.func155 Z Z Z Z Z fun w0 G0=>?_
 refine ab<|ae<|af (t:=.sl []) Z Z Z (cz (.inr Z) dk)<|ag<|ab<|ab<|ae<|aa 1 Z<|ki (fun d=>∃c:Bool,(c=true->(l.map V.tree)=[])/\d=bT c) Z Z Z (uu Z bq Z) ?_;rintro _ ⟨nb,b,rfl⟩;refine ag<|aF Z (fun a=>?_) (fun a=>?_)
 ·refine ab<|ae<|af (t:=.sl []) Z Z Z (cz (.inr Z) dk)<|ag<|aw<|⟨.inr Z,_,.cons Z .nil,Jf (b a),Z⟩
 refine am<|ab<|ae<|oT (k:=0) (rs':=[some ⟨77,3,[].map V.tree,true⟩]) Z Z Z Z gR Z Z<|aa 1 Z<|cg (bs':=[]) (rs':=[some ⟨77,3,l.map V.tree,false⟩]) Z Z Z Z gR Z Z Z Z (ie _) (AllC.map _ _ fun _=>rfl) (AllC.map _ _ fun _=>rfl) (by simp only[L5,Mg];omega) Z Z Z Z<|aa 1 Z<|ag<|ek 0 (bs':=[]) (rs':=[none]) Z Z Z Z<|aw<|⟨.inr Z,_,.cons Z .nil,Z,Z⟩
theorem jk{w:World}{base g n a sz i:Nat}{e:TypeId}{xs:List Value}(h:w.ownsRow base e sz (.slice (some ⟨g,0,none⟩) n a) n xs)(u:Value):(w.setCell ⟨g,i,none⟩ u).ownsRow base e sz (.slice (some ⟨g,0,none⟩) n a) n (xs.set i u):=by
 obtain⟨p,j⟩:=h;rcases j with⟨c,_⟩|⟨s,d,cur,c,m,l,o,f,k,r⟩
 ·cases c
 injection c with b _ q
 injection b with b
 injection b with b
 subst b q;refine⟨by rw[MJ];exact p,.inr ⟨g,a,cur.setIfInBounds i u,Z,m,?_,o,f,by simpa using k,?_⟩⟩
 ·simp[World.setCell,NJ,l]
 rw[<-r,Nr,Pn]
def qn:List Value->Nat->List Value->List Value
 |xs,_,[]=>xs
 |xs,o,v::r=>qn (xs.set o v) (o+1) r
theorem cB{base g n a sz:Nat}{e:TypeId}:∀(vs:List Value) (o:Nat) (w:World) (xs:List Value),w.ownsRow base e sz (.slice (some ⟨g,0,none⟩) n a) n xs->(w.setCells g o vs).ownsRow base e sz (.slice (some ⟨g,0,none⟩) n a) n (qn xs o vs)
 |[],_,_,_,h=>h
 |v::r,o,w,xs,h=>cB r (o+1) _ _ (jk h v)
theorem j3:∀(vs a b c:List Value),b.length=vs.length->qn (a++b++c) a.length vs=a++vs++c
 |[],a,b,c,h=>by
  obtain rfl:b=[]:=Mr h;rfl
 |v::r,a,[],c,h=>by cases h
 |v::r,a,x::b,c,h=>by
  have e:(a++x::b++c).set a.length v=(a++[v])++b++c:=by
   rw[Mv,NK _ _ (L4 _),M2];simp
  have d:=j3 r (a++[v]) b c (by simpa using h);rw[qn,e,show a.length+1=(a++[v]).length by simp,d];simp
theorem dJ{P:Program}(w:World)(n sT ty c:TypeId)(b o e h k:Nat)(a:Addr)(d g:Nat)(cs:List Value)
  (r:P.underlying n=some (.slice c)) (p:(P.info? c).map (·.size)=some k) (t:Nat.min d e*k=cs.length)
  (f:∀j v,cs[j]? =some v->w.cell? (a.add j)=some v) (s:∀j,j<cs.length->(w.cell? ⟨b,o+j,none⟩).isSome=true) (q:∀j,j<cs.length->w.frozen? ⟨b,o+j,none⟩=false) (x:∀v∈cs,v.oneCell'=true):
  (Builtin.copy_ #[n,sT] ty #[.slice (some ⟨b,o,none⟩) e h,.slice (some a) d g]).run P w=.ok (goInt (Nat.min d e)) (w.setCells b o cs):=by
 have u:=run_loadCells_list (P:=P) w a cs f;have m:=run_storeCells_cells (P:=P) b o cs 0 w (by simpa using s) (by simpa using q) x;cases l:P.info? c with
 |none=>simp[l]at p
 |some i=>
  have y:i.size=k:=by simpa[l]using p
  simp[Builtin.copy_,run_underlying r,Builtin.lenOf,Builtin.firstCells,sizeOf,typeInfo,l,y,t,u,m]
theorem Co:(Tryz.prog.info? 67).map (fun i=>(i.zero,i.size,i.bytes))=some (some (.agg #[.slice none 0 0,.bool false,.slice none 0 0,.slice none 0 0]),4,80):=by kernel_rfl
theorem ja(k:Nat):(Builtin.zeroCells (Value.agg #[.slice none 0 0,.bool false,.slice none 0 0,.slice none 0 0]).cells k).size=k*4:=by
 simp[Builtin.zeroCells,Value.cells]
theorem AI(k:Nat):(Builtin.zeroCells (Value.agg #[.slice none 0 0,.bool false,.slice none 0 0,.slice none 0 0]).cells k).toList.length=k*4:=by rw[MY,ja]
theorem DC(w:World)(b off n i:Nat)(a:List Value)(z:i<n)(y:n<=65536)(d:a.length=i*4)(q:∀j u,a[j]? =some u->w.cell? ⟨b,off+j,none⟩=some u):
  ∃c p r,(∀ty,(Builtin.append_ #[28,3] ty #[.slice (some ⟨b,off,none⟩) i n,.int .i64 ((n+1-i:Nat):Int)]).run Tryz.prog w=.ok (.slice (some ⟨w.heap.size,0,none⟩) (n+1) c) p)/\p.ownsRow w.heap.size 67 4 (.slice (some ⟨w.heap.size,0,none⟩) (n+1) c) (n+1) (a++r)/\r.length=(n+1-i)*4/\Below w.heap.size w p/\n+1<=c/\c<=9223372036854775807:=by
 obtain⟨t,m,l,o,h⟩:=info_parts Co;have k:(Builtin.firstCells t.size i (.slice (some ⟨b,off,none⟩) i n)).run Tryz.prog w.drew=.ok a.toArray w.drew:=by
  rw[o];exact run_firstCells_some w.drew 4 i ⟨b,off,none⟩ i n a d (fun j v x=>by rw[Addr.add_lit];exact q j v x)
 have f:=grownCap_ge w (i+(n+1-i)) n 67;have g:=grownCap_le_maxLen w (i+(n+1-i)) n 67 (by unfold maxLen;omega);have s:=fun ty=>Lib.run_append_grow_zeros w 28 3 ty 67 t _ .i64 .i64 Tryz.underlying28 Tryz.underlying3 m l (some ⟨b,off,none⟩) i n a k (n+1-i) (by omega) (by omega) (by omega) (by omega) (by rw[h];omega) (by rw[h];exact growslice_fits (by omega) (by omega))
 rw[show i+(n+1-i)=n+1 by omega]at s f g;refine⟨_,_,(Builtin.zeroCells (Value.agg #[.slice none 0 0,.bool false,.slice none 0 0,.slice none 0 0]).cells (n+1-i)).toList,s,⟨?_,.inr ⟨_,_,_,Z,L4 _,heap_alloc_new _ _,f,g,?_,?_⟩⟩,?_,((Below.refl _ _).drew).alloc (L4 _) _,f,by unfold maxLen at g;omega⟩
 ·rw[Mb,d,MY,ja];omega
 ·rw[N9,N9,ja,ja,Ov,d];omega
 ·have e:(a++(Builtin.zeroCells (Value.agg #[.slice none 0 0,.bool false,.slice none 0 0,.slice none 0 0]).cells (n+1-i)).toList).length=(n+1)*4:=by rw[Mb,AI,d];omega
  rw[MZ,MZ,OO (NX e.symm)];exact Me (NX e)
 rw[MY,ja]
theorem DD(a us b d:List Value){n:Nat}(i:Nat)(k:us.length=4)(g:d.length=(n-i)*4)(j:b.length=(n+1-i)*4)(c:a.length=i*4)(l:i<n):qn (qn (a++b) (i*4) us) ((i+1)*4) d=a++us++d:=by
 have e:a++b=a++b.take 4++b.drop 4:=by rw[Mv,M4]
 rw[e,<-c,j3 us a (b.take 4) (b.drop 4) (by rw[Mf];omega)];have f:(i+1)*4=(a++us).length:=by rw[Mb];omega
 have h:=j3 d (a++us) (b.drop 4) [] (by rw[MQ];omega);rw[Mq,Mq]at h;rw[f,h]
theorem yl{w w':World}(h:w.grownBy w' none):Below w.heap.size w w':=(Below.refl _ _).grown h (L4 _) (fun k e=>by cases e)
theorem eJ{w:World}:∀(vs:List Value) (o:Nat) {W:World},Below w.heap.size w W->Below w.heap.size w (W.setCells w.heap.size o vs)
 |[],_,_,h=>h
 |v::r,o,_,h=>eJ r (o+1) (h.setCell (p:=⟨w.heap.size,o,none⟩) (L4 _) v)
theorem dz{w:World}{base g n b sz:Nat}{e:TypeId}{xs:List Value}(h:w.ownsRow base e sz (.slice (some ⟨g,0,none⟩) n b) n xs)(i:Nat):w.frozen? ⟨g,i,none⟩=false:=by
 rcases h.2 with⟨c,_⟩|⟨k,d,cur,c,j,f,_⟩
 ·cases c
 injection c with a
 injection a with a
 injection a with a
 subst a;simp[World.frozen?,f]
theorem fX{w:World}{base g n a sz:Nat}{e:TypeId}{xs:List Value}(h:w.ownsRow base e sz (.slice (some ⟨g,0,none⟩) n a) n xs){j:Nat}(c:j<n*sz):(w.cell? ⟨g,j,none⟩).isSome=true:=by
 have b:=h.1;have:=World.ownsRow.cells h (g:=g) Z j xs[j] (L3 (by omega));rw[show(⟨g,0,none⟩:Addr).add j=⟨g,j,none⟩from by unfold Addr.add;split<;>simp_all]at this;rw[this];rfl
theorem FN(b off n i q c L:Nat)(cs us:List Value)(w:World)(hi:i<n)(Y:n<=65536)(y:cs.length=n*4)(D:us.length=4)
  (o:∀j v,cs[j]? =some v->w.cell? ⟨b,off+j,none⟩=some v) (B:∀j v,us[j]? =some v->w.cell? ⟨q,c+j,none⟩=some v) (I:∀v∈cs,v.oneCell'=true) (M:∀v∈us,v.oneCell'=true):
  Calls Tryz.prog 84 #[.slice (some ⟨b,off,none⟩) n n,.int .i64 i,.slice (some ⟨q,c,none⟩) 1 L] w fun e w'=>
   ∃f,e=.returned (.slice (some ⟨w.heap.size,0,none⟩) (n+1) f)/\w'.ownsRow w.heap.size 67 4 (.slice (some ⟨w.heap.size,0,none⟩) (n+1) f) (n+1) (cs.take (i*4)++us++cs.drop (i*4))/\Below w.heap.size w w':=by
 have K:b<w.heap.size:=World.block_lt_of_cell? _ _ (o 0 _ (L3 (by omega)));have G:q<w.heap.size:=World.block_lt_of_cell? _ _ (B 0 _ (L3 (by omega)));obtain⟨f,s,U,t,d,N,E,R,a4⟩:=DC w b off n i (cs.take (i*4)) hi Y (by rw[Mf];omega) (fun j u g=>by
  rw[MU]at g;split at g
  ·exact o j u g
  cases g)
 rw[show((n+1-i:Nat):Int)=(n:Int)+1-(i:Int) by omega]at t;have a2:IntKind.i64.wrap ((i:Int)+1)=(i:Int)+1:=by rw[Np];omega
 have a3:(0:Int)<=(i:Int)+1:=by omega
 have V:((i:Int)+1).toNat=i+1:=by omega
 have T:(i:Int)<=(n:Int):=by omega
 have a0:¬((i:Int)=(n:Int)):=by omega
 have a1:(n:Int)<(n:Int)+1:=by omega
 have k:(cs.drop (i*4)).length=(n-i)*4:=by rw[MQ,y,Nat.sub_mul]
 have F:(Tryz.prog.info? 67).map (·.size)=some 4:=by kernel_rfl
 have h:∀ty l,(Builtin.copy_ #[28,28] ty #[.slice (some ⟨w.heap.size,i*4,none⟩) (n+1-i) l,.slice (some ⟨q,c,none⟩) 1 L]).run Tryz.prog s=.ok (goInt (Nat.min 1 (n+1-i))) (s.setCells w.heap.size (i*4) us):=fun ty l=>
  dJ s _ _ ty 67 w.heap.size (i*4) (n+1-i) l 4 ⟨q,c,none⟩ 1 L us Tryz.underlying28 F (by rw[D,show Nat.min 1 (n+1-i)=1 from Ns (by omega)])
   (fun j v g=>by rw[Addr.add_lit];exact(E.cell (p:=⟨q,c+j,none⟩) G).trans (B j v g))
   (fun j g=>fX d (by omega)) (fun j g=>dz d _) M
 have a:=cB us (i*4) s _ d;have m:Below w.heap.size w (s.setCells w.heap.size (i*4) us):=eJ us _ E;obtain⟨r,A⟩:∃r,s.setCells w.heap.size (i*4) us=r:=⟨_,rfl⟩;rw[A]at a m;simp only[A]at h;have z:Nat.min (n-i) (n-i)=n-i:=Qt _;have P:Tryz.prog.follows .mixedOrders=true:=by kernel_rfl
 have H:¬(f=i+1):=by omega
 have J:¬(n=i):=by omega
 have C:∀(W:World),(∀x,W.cell? x=r.cell? x)->(∀x,W.frozen? x=r.frozen? x)->∀ty l sc,(Builtin.copy_ #[28,28] ty #[.slice (some ⟨w.heap.size,(i+1)*4,none⟩) (n-i) l,.slice (some ⟨b,off+i*4,none⟩) (n-i) sc]).run Tryz.prog W=.ok (goInt (Nat.min (n-i) (n-i))) (W.setCells w.heap.size ((i+1)*4) (cs.drop (i*4))):=fun W Q S ty l sc=>
  dJ W _ _ ty 67 w.heap.size ((i+1)*4) (n-i) l 4 ⟨b,off+i*4,none⟩ (n-i) sc (cs.drop (i*4)) Tryz.underlying28 F (by rw[z,k])
   (fun j v g=>by
    rw[Addr.add_lit,Q,N5];exact(m.cell (p:=⟨b,off+(i*4+j),none⟩) K).trans (o _ v (by rwa[Nh]at g)))
   (fun j g=>by rw[Q];exact fX a (by omega)) (fun j g=>by rw[S];exact dz a _) (fun v X=>I v (Nd X))
 go_enter Tryz.func84,Tryz.ntmps84
 go_wp2_with (first
  |(at_builtin;refine Lib.wpList_append_run _ Z _ _ _ _ Z _ _ Z Z _ _ (t _) ?_)
  |(at_builtin;refine wpList_copy_runI _ Z _ _ 28 28 Z _ _ Z Z (h _ _) ?_))
 go_region_law_o (refine step_copy_runI Z _ _ 28 28 Z (.slice (some ⟨w.heap.size,(i+1)*4,none⟩) (n-i) (f-(i+1))) (.slice (some ⟨b,off+i*4,none⟩) (n-i) (n-i)) (by simp[Act.eval,Act.put,H]) (by simp[Act.eval,Act.put,J]) (C r.drew (fun _=>rfl) (fun _=>rfl) 3 (f-(i+1)) (n-i)) ?_)
 go_wp2
 go_ret
 refine⟨f,Z,?_,eJ _ _ m.drew⟩;have O:=cB (cs.drop (i*4)) ((i+1)*4) r.drew (qn (cs.take (i*4)++U) (i*4) us) a;rw[DD _ _ _ _ i D k N (by rw[Mf,y];omega) (by omega)]at O;exact O
theorem FO(k:Option Addr)(n t c F:Nat)(cs us:List Value)(w:World)(T:n<=65536)(z:cs.length=n*4)(E:us.length=4)(i:k=none->n=0/\n=0)
  (r:∀b,k=some b->∀j v,cs[j]? =some v->w.cell? (b.add j)=some v) (q:∀b,k=some b->n=0\/∃g off,b=⟨g,off,none⟩) (D:∀j v,us[j]? =some v->w.cell? ⟨t,c+j,none⟩=some v) (G:∀v∈us,v.oneCell'=true):
  Calls Tryz.prog 84 #[.slice k n n,.int .i64 n,.slice (some ⟨t,c,none⟩) 1 F] w fun e w'=>
   ∃v',e=.returned v'/\w'.ownsRow w.heap.size 67 4 v' (n+1) (cs++us)/\Below w.heap.size w w':=by
 obtain⟨O,u,C,B,y⟩:=info_parts Co;have l:∀(ops:Array Oper) (rest:List Oper) (o:Oper) (a:Act) (Q:Exit->Act->World->Prop) (M:o.guard=none) (s x:Operand) (m:o.op=Op.call {callee:=Callee.builtin Builtin.append,args:=#[s,x],argTypes:=#[28,28]}) (N:a.eval s=.slice k n n) (H:a.eval x=.slice (some ⟨t,c,none⟩) 1 F)
   (L:∀v' w',w'.ownsRow w.heap.size 67 4 v' (n+1) (cs++us)->Below w.heap.size w w'->wpList Tryz.prog ops Q rest (a.put o.dst v') w'),wpList Tryz.prog ops Q (o::rest) a w:=fun _ _ _ _ _ M s x m N H L=>
  wpList_append_grows w M s x 28 m 67 O _ 4 80 Tryz.underlying28 u C B y Z (by decide) k n n cs N i z r ⟨t,c,none⟩ 1 F us H (by rw[E]) (fun j v P=>by rw[Addr.add_lit];exact D j v P) G (by omega) (by unfold maxLen;omega) (by omega) (fun v' w' R S=>L v' w' R (yl S))
 have p:k=none\/(n=0/\∃b,k=some b)\/∃g off,k=some ⟨g,off,none⟩:=by
  cases k with
  |none=>exact .inl Z
  |some b=>
   rcases q b rfl with h|⟨g,off,rfl⟩
   ·exact .inr (.inl ⟨h,b,Z⟩)
   exact .inr (.inr ⟨g,off,Z⟩)
 have A:=J l;clear l r i q;rcases p with rfl|⟨rfl,b,rfl⟩|⟨g,off,rfl⟩
 ·go_enter Tryz.func84,Tryz.ntmps84
  go_wp2_with (at_builtin;refine A.out _ _ _ _ _ rfl _ _ rfl rfl rfl ?_;intro I K f d)
  go_ret
  exact⟨_,Z,f,d⟩
 ·go_enter Tryz.func84,Tryz.ntmps84
  go_wp2_with (at_builtin;refine A.out _ _ _ _ _ rfl _ _ rfl rfl rfl ?_;intro I K f d)
  go_ret
  exact⟨_,Z,f,d⟩
 go_enter Tryz.func84,Tryz.ntmps84
 go_wp2_with (at_builtin;refine A.out _ _ _ _ _ rfl _ _ rfl rfl rfl ?_;intro I K f d)
 go_ret
 exact⟨_,Z,f,d⟩
theorem J4{W W':World}{G:Nat->Prop}{e:TypeId}{sz:Nat}{v:Value}{xs:List Value}{es:List Tree}(f:OkG G W)(d:W'.ownsRow W.heap.size e sz v es.length xs)(l:PT W' G xs (flat es)):PT W' G [v] [.sl es]:=by
 rcases d.2 with⟨rfl,c⟩|⟨g,b,cur,rfl,n,k,c,a,m,o⟩
 ·have:es=[]:=Mr c;rw[this];exact dk _ _
 refine .sl g 0 b _ xs es (MD.1 k).1 (fun h=>?_) (fun j u i=>?_) Z c (by unfold maxLen at a;omega) l .nil
 ·have:=(f g h).1;omega
 have:=World.ownsRow.cells d (g:=g) Z j u i;rw[show(⟨g,0,none⟩:Addr).add j=⟨g,0+j,none⟩from Addr.add_lit ..]at this;exact this
theorem lP{W:World}{G:Nat->Prop}{us:List Value}{ts:List Tree}(h:PT W G us ts)(a:ts.all Tree.one=true):∀u∈us,u.oneCell'=true:=FT.ones (E:=⟨W,G,fun _=>none,fun _=>none⟩) (FT.of h) a
theorem AJ(l:List Tp)(t:Tp)(i:Nat)(hi:i<=l.length)(M:l.length<=65536):Ct 84 [.tl (l.map Tp.tree),iT (i:Nat),.sl ([t].map Tp.tree)] (.sl ((l.take i++[t]++l.drop i).map Tp.tree)):=⟨⟨_,Tryz.func84,Z,Z⟩,fun G w vs _ X Q=>by
 obtain⟨v,x,y,rfl,S,U,h3⟩:=o7 Q;cases U;have F:Sized 4 (l.map Tp.tree):=bS _;have H:Sized 4 ([t].map Tp.tree):=bS _;obtain⟨B,O,rfl,_,_,_,P⟩:=h3.slice;obtain⟨N,c,us,rfl,W,_,s,h⟩:=P (by simp);have z:us.length=4:=by rw[h.length,H.flat];rfl
 have q:∀u∈us,u.oneCell'=true:=lP h (AllC.map Tp.tree [t] (fun _=>rfl)).all;cases S with
 |tl A n _ hn hs _=>
  rw[L5]at hn;subst hn;obtain⟨A',c',R,_,_,T,D⟩:=hs.slice;injection R with E e2 e3
  subst E;rw[L5]at D;obtain⟨cs,m,k,C⟩:∃cs:List Value,cs.length=l.length*4/\PT w G cs (flat (l.map Tp.tree))/\∀b,A=some b->∀j u,cs[j]? =some u->w.cell? (b.add j)=some u:=by
   rcases M1 l.length with f|f
   ·obtain rfl:l=[]:=Mr f;exact⟨[],Z,.nil,fun b _ j u J=>by simp at J⟩
   obtain⟨b,off,xs,rfl,_,_,V,L⟩:=D f;refine⟨xs,by rw[L.length,F.flat,L5],L,fun b' K j u J=>?_⟩;rw[<-MW K,Addr.add_lit];exact V j u J
  have d:∀{e:Ending} {w':World} (v':Value),e=.returned v'->w'.ownsRow w.heap.size 67 4 v' (l.length+1) (cs.take (i*4)++us++cs.drop (i*4))->Below w.heap.size w w'->∃v,e=.returned v/\PT w' G [v] [.sl ((l.take i++[t]++l.drop i).map Tp.tree)]/\Below w.heap.size w w':=fun{e w'} v' r p a=>by
   refine⟨v',r,J4 (sz:=4) (e:=67) (xs:=cs.take (i*4)++us++cs.drop (i*4)) X ?_ ?_,a⟩
   ·rw[show((l.take i++[t]++l.drop i).map Tp.tree).length=l.length+1 by simp;omega];exact p
   rw[MX,MX,O1,Po,iY,iY,mP F,kJ F];exact((((k.take _).later a).append (h.later a)).append ((k.drop _).later a))
  rcases MA i l.length with I|a0
  ·obtain⟨b,off,xs,rfl,_,_,_,_⟩:=D (by omega);refine(FN b off l.length i N c O cs us w I M m z (fun j v o=>by rw[<-Addr.add_lit];exact C _ Z j v o) (fun j v o=>s j v o) (lP k (AllC.map Tp.tree l (fun _=>rfl)).all) q).mono ?_;rintro e w' ⟨Y,r,p,a⟩;exact d _ r p a
  obtain rfl:i=l.length:=by omega
  refine(FO A l.length N c O cs us w M m z (fun e=>by have:=T e;exact⟨by omega,by omega⟩) C (fun b a=>?_) (fun j v o=>s j v o) q).mono ?_
  ·rcases M1 l.length with f|f
   ·exact .inl f
   obtain⟨g,off,xs,E,_⟩:=D f;rw[a]at E;exact .inr ⟨g,off,MW E⟩
  rintro e w' ⟨v',r,p,a⟩;refine d v' r ?_ a;rw[Me (by omega),Md (by omega),Mq];exact p⟩
end Go.Proofs.YtfoejfohbkmmeaaGreatDoor
