import Derived.Test.YtmhcanmapkenbaaGreatDoorA31
set_option maxRecDepth 100000
set_option maxHeartbeats 4000000
set_option linter.defProp false
open Go.Proofs.Tryz
namespace Go.Proofs.YtmhcanmapkenbaaGreatDoor
open Go.RowKit
open Lib renaming hid→J
variable{G:Nat->Prop}
def kV:ic prog 22=some (3,1):=U
def uP{W:World}:∀l:List UInt8,PT W G (f7 l) (flat (fD l))
 |[]=>.nil
 |c::l=>.sc _ (uP l)
def wz(k:IntKind)(j:Nat)(h:j<=k.bits)(i:∀n:Int,0<=n->n<2^j->k.wrap n=n)(a b:Nat)(e:a<2^j)(f:b<2^j):bits .xor k a b=((a^^^b:Nat):Int):=by
 have g:2^j<=2^k.bits:=Sk I h;have c:a%2^k.bits=a:=RC (QE e g);have d:b%2^k.bits=b:=RC (QE f g);simp only[bits,BitVec.ofInt_natCast,BitVec.toNat_xor,BitVec.toNat_ofNat,c,d];exact i _ (Int.natCast_nonneg _) (by exact_mod_cast Nat.xor_lt_two_pow e f)
def G8{x y:Operand}(a b:Nat)(c:a<256)(d:b<256)(w:World):(do eqGuard .xor 5 x y (.int .u8 (a:Nat)) (.int .u8 (b:Nat));binOp .xor 5 (.int .u8 (a:Nat)) (.int .u8 (b:Nat)):Sem Value).run prog w=.ok (.int .u8 ((a^^^b:Nat):Int)) w:=by
 have key:=wz .u8 8 I (λn e f=>by rw[IntKind.wrap_u8];omega) a b c d;go_simp
def FzOut(n:Nat)(fz:Nat×Nat):Prop:=fz.2=0\/n<=fz.1
def FzOut.free{w:World}{g:Nat}{cur:Array Value}{e:TypeId}{fz:Nat×Nat}{i:Nat}(h:FzOut cur.size fz)(a:w.heap[g]? =some (.cells cur e fz))(c:i<cur.size):w.frozen? ⟨g,i,none⟩=false:=by
 obtain⟨d,b⟩:=fz;simp only[World.frozen?,a,RV,decide_eq_false_iff_not];rcases h with h|h
 ·right;simp only at h;omega
 left;simp only at h;omega
def RowZ(W:World)(B:Nat)(v:Value)(l:List UInt8):Prop:=∃(g cap:Nat) (cur:Array Value) (fz:Nat×Nat),v=.slice (some ⟨g,0,none⟩) l.length cap/\B<=g/\W.heap[g]? =some (.cells cur 5 fz)/\FzOut cur.size fz/\l.length<=cap/\cap<=maxLen/\cur.size=cap/\cur.toList.take l.length=f7 l/\cur.toList.all cj=true
def RowZ.less{W:World}{B a:Nat}{v:Value}{l:List UInt8}(h:RowZ W B v l)(e:a<=B):RowZ W a v l:=by
 obtain⟨g,cap,cur,fz,b,c,d⟩:=h;exact⟨g,cap,cur,fz,b,Qu e c,d⟩
def RowZ.later{W W':World}{B:Nat}{v:Value}{l:List UInt8}(h:RowZ W B v l)(e:Below W.heap.size W W'):RowZ W' B v l:=by
 obtain⟨g,cap,cur,fz,b,c,a,d⟩:=h;exact⟨g,cap,cur,fz,b,c,(e.block g (QK.1 a).1).trans a,d⟩
def RowZ.cells{W:World}{B:Nat}{v:Value}{l:List UInt8}(h:RowZ W B v l):∃g cap,v=.slice (some ⟨g,0,none⟩) l.length cap/\B<=g/\g<W.heap.size/\l.length<=cap/\cap<=maxLen/\NoDigB W g/\∀(j:Nat) u,(f7 l)[j]? =some u->W.cell? ⟨g,0+j,none⟩=some u:=by
 obtain⟨g,cap,cur,fz,c,d,b,m,e,f,n,i,k⟩:=h;refine⟨g,cap,c,d,(QK.1 b).1,e,f,fe b k,λj u a=>?_⟩;rw[QT,cell_of_row W g j cur _ fz b];rw[<-i,QQ]at a;split at a
 ·simpa using a
 cases a
def RowZ.pt{W:World}{B:Nat}{v:Value}{l:List UInt8}(h:RowZ W B v l)(e:∀g,v.ownBlock=some g->¬G g):PT W G [v] [.sl (fD l)]:=by
 obtain⟨g,cap,rfl,f,a,b,c,i,d⟩:=h.cells;exact .sl g 0 cap _ (f7 l) (fD l) a (e g Z) d (by rw[ku]) (by rw[ku];exact b) (by unfold maxLen at c;omega) (uP _) .nil
def Ew(w:World)(s:ByteArray)(d:s.size<=9223372036854775807):RowZ (Lib.bytesWorld w 5 s) w.heap.size (.slice (some ⟨w.heap.size,0,none⟩) s.size (grownCap w s.size 0 5)) s.data.toList:=by
 have a:=grownCap_ge w s.size 0 5;have b:=grownCap_le_maxLen w s.size 0 5 (by unfold maxLen;omega);have hl:s.data.toList.length=s.size:=F
 refine⟨w.heap.size,grownCap w s.size 0 5,_,_,by rw[hl],Qi _,Lib.bytesWorld_at_new w _ s,.inr (Qi _),by rw[hl];exact a,b,?_,?_,?_⟩
 ·unfold Lib.bytesCells;rw[SQ,Array.size_map,Array.size_replicate];have:s.data.size=s.size:=rfl;omega
 ·unfold Lib.bytesCells f7;rw[QW,R7,List.take_left' (by rw[Qr])]
 unfold Lib.bytesCells;rw[QW,R7,Se,List.all_map,Array.toList_replicate];rw[Qh];exact⟨Qt.2 λ_ _=>rfl,Qt.2 λx c=>by rw[(Tf.1 c).2];rfl⟩
inductive UnbN (S:St):List (Nat×Tree)->Prop
 |nil:UnbN S []
 |keep {i:Nat} {t:Tree} {l:List (Nat×Tree)} (h:S.get i=t) (hw:within 0 0 t=true) (r:UnbN S l):UnbN S ((i,t)::l)
 |box {i k off:Nat} {ty:TypeId} {cs:List Tree} {l:List (Nat×Tree)} (h:S.get i=.box k off) (hb:S.bs[k]? =some (ty,cs)) (hp:cs.all Tree.plain0=true) (r:UnbN S l):UnbN S ((i,.ref (cs.drop off))::l)
def UnbN.box0{S:St}{i k:Nat}{ty:TypeId}{cs:List Tree}{l:List (Nat×Tree)}(h:S.get i=.box k 0)(a:S.bs[k]? =some (ty,cs))(b:cs.all Tree.plain0=true)(r:UnbN S l):UnbN S ((i,.ref cs)::l):=.box h a b r
def UnbN.slots{S:St}{E E':En}{T:Nat->Value}(a:∀i,FT E [T i] [S.get i])(b:∀v t,FT E [v] [t]->within 0 0 t=true->FT E' [v] [t])(c:∀v k off ty cs,S.bs[k]? =some (ty,cs)->cs.all Tree.plain0=true->FT E [v] [.box k off]->FT E' [v] [.ref (cs.drop off)]){l:List (Nat×Tree)}(h:UnbN S l):∀i,FT E' [T i] [look l i]:=by
 induction h with
 |nil=>exact λi=>.any _ .nil
 | @keep j t l e hw _ ih=>
  intro i;rw[cK];split
  ·next e2=>subst e2;exact b _ _ (e▸a j) hw
  exact ih i
 | @box j k off ty cs l e hb hp _ ih=>
  intro i;rw[cK];split
  ·next e2=>subst e2;exact c _ k off ty cs hb hp (e▸a j)
  exact ih i
section
variable {w1 w w':World} {G1 G2:Nat->Prop} {n:Nat} {sl:List (Nat×Tree)} {a:Act}
def Sim.unboxN{S:St}{l:List (Nat×Tree)}(h:Sim w1 (pln G1) S a w)(hl:UnbN S l):Sim w (pln G1) ⟨S.n,l,[],[]⟩ a w/\Below w1.heap.size w1 w/\Env w1/\z6 G1 w1/\Env w:=by
 obtain⟨bx,rv,c,G,p,x⟩:=h;have r:z6 G1 w:=λg i=>c.ok g (.inl i)
 refine⟨⟨[],[],un c.env r,G,p,?_⟩,c.below.below,c.env0.env0,λg i=>⟨(c.g0 g i).1,(c.g0 g i).2.1⟩,c.env⟩;have f:∀b,b<w.heap.size->¬GG (pln G1) bx rv S.rs b->w.heap[b]? =w.heap[b]? /\¬GG (pln G1) [] [] [] b:=λb _ d=>⟨Z,λh=>d (.inl (((lB (w:=w)).2 b).1 h))⟩
 refine UnbN.slots (E':=en w (pln G1) [] [] []) x (λv t y I=>FT.within (E:=en w (pln G1) bx rv S.rs) (E':=en w (pln G1) [] [] []) (m:=0) (k:=0) (Qi _) f (λb g d=>absurd d (RZ b)) (λj v F=>absurd F (RZ j)) y I) (λv k off ty cs d H y=>?_) hl;obtain⟨g,us,o,rfl,e,D,_⟩:=mX c d y;have q:g∈bX bx rv S.rs:=aN.2 (.inl (Qo o));have s:PT w G1 us cs:=(D.plain0s H).sub λb d A=>d (.inl A)
 refine FT.gg (.ref g off (us.drop off) _ e.lt (λC=>?_) (λj u B=>?_) (s.drop off) .nil)
 ·have A:=(c.g0 g C).1;rcases c.ge g q with z|z
  ·omega
  exact z
 rw[e.cell];rw[Q9]at B;simpa using B
end
section
variable {Q:Exit->World->(Nat->Prop)->St->Prop} {w1:World} {G1:Nat->Prop} {ops:Array Oper} {rest:List Oper} {o:Oper} {n d:Nat} {sl:List (Nat×Tree)}
def sY{p:Nat}{s:ByteArray}(L:o.op=.convert 9 49 (.tmp p))(I:o.guard=none)(hd:o.dst=some d)(J:Nat.blt d n=true)(N:look sl p=sT s)(z:s.size<=9223372036854775807)
  (k:∀v A,RowZ A w1.heap.size v s.data.toList->Below w1.heap.size w1 A->BOps ops rest Q A (λb=>G1 b\/v.ownBlock=some b) ⟨n,(d,.sc v)::sl,[],[]⟩):BOps ops (o::rest) Q w1 G1 ⟨n,sl,[],[]⟩:=by
 have t:d<n:=by simpa[Q7]using J
 refine rU I λa w j=>?_
 obtain⟨F,q,f,K,H,_⟩:=j.facts;have D:=j.lit N;have M:=Lib.run_convert_string_bytes (P:=prog) w 9 49 5 s underlying9 underlying49 underlying5;have C:=Ew w s z;have c:=Joins.below_bytesWorld _ w 5 s (Qi _);have m:eX (λs=>a.tmps.getD s undef) (.tmp p)=.string s:=D;refine OpRuns.of_ok (v:=.slice (some ⟨w.heap.size,0,none⟩) s.size (grownCap w s.size 0 5)) (W':=Lib.bytesWorld w 5 s) (by simp only[execOp,L];rw[m];simp[M]) ?_;obtain⟨g,cap,e,G,x,_,_,y,_⟩:=C.cells;have r:z6 (λb=>G1 b\/(Value.slice (some ⟨w.heap.size,0,none⟩) s.size (grownCap w s.size 0 5)).ownBlock=some b) (Lib.bytesWorld w 5 s):=λb f=>by
  rcases f with f|f
  ·obtain⟨B,E⟩:=q b f;exact⟨QE B c.size,λi u O=>E i u (by rw[<-World.cell?_of_block (c.block b B)];exact O)⟩
  injection e with l _ _
  injection l with l
  injection l with l
  simp only[Value.ownBlock,Qy]at f;subst f;rw[l];exact⟨x,y⟩
 refine⟨Lib.bytesWorld w 5 s,_,_,?_,k _ _ (C.less f.size) (f.trans (c.mono f.size))⟩;rw[hd];refine FF (j.turn (F.below c (Qi _)) r c.size λb f q=>⟨c.block b f,λh=>?_⟩) t (.of (.sc _ .nil));rcases h with h|h
 ·exact q h
 simp only[Value.ownBlock,Qy]at h;omega
end
def Ex{w W:World}(h:z6 G w)(c:Below w.heap.size w W)(e:w.heap.size<=W.heap.size):z6 G W:=λg d=>by
 obtain⟨a,b⟩:=h g d;exact⟨QE a e,λi u f=>b i u (by rw[<-World.cell?_of_block (c.block g a)];exact f)⟩
def Ey{x y:Operand}(a b:Nat)(c:0<b)(w:World):(do eqGuard .rem 32 x y (.int .u64 (a:Nat)) (.int .u64 (b:Nat));binOp .rem 32 (.int .u64 (a:Nat)) (.int .u64 (b:Nat)):Sem Value).run prog w=.ok (.int .u64 ((a%b:Nat):Int)) w:=by
 go_simp;rw[if_neg O,Th O]
def Kv{Q:Exit->World->(Nat->Prop)->St->Prop}{w1:World}{G1:Nat->Prop}{S:St}{x y:Code}(J:World->(Nat->Prop)->St->Prop)(h:BWP x (FC J Q) w1 G1 S)(k:∀b G2 c,J b G2 c->BWP y Q b G2 c):BWP (.seq x y) Q w1 G1 S:=
 gZ λa w g=>wp_mono (h a w g) λe i w' ⟨b,G2,S',d,f⟩=>⟨b,G2,S',by
  cases e with
  |normal=>exact k _ _ _ d
  |_=>exact d,f⟩
def LooksL(sl:List (Nat×Tree)):List (Nat×Tree)->Prop
 |[]=>True
 |(i,t)::l=>look sl i=t/\LooksL sl l
def LooksL.slots{w1:World}{G1 G0:Nat->Prop}{n:Nat}{sl:List (Nat×Tree)}{a:Act}{w:World}(d:Sim w1 (pln G1) ⟨n,sl,[],[]⟩ a w)(c:∀b,¬G1 b->¬G0 b):∀{l:List (Nat×Tree)},LooksL sl l->(l.all λp=>p.2.plain)=true->SlotL (en w (pln G0) [] [] []) (λi=>a.tmps.getD i undef) l
 |[],_,_=>trivial
 |(i,t)::l,h,hp=>by
  rw[Rc,Qh]at hp;exact⟨FT.gg ((d.slot h.1 hp.1).sub c),LooksL.slots d c h.2 hp.2⟩
section
variable {Q:Exit->World->(Nat->Prop)->St->Prop} {w1:World} {G1:Nat->Prop} {ops:Array Oper} {rest:List Oper} {o:Oper} {n d:Nat} {sl:List (Nat×Tree)}
def qa{ty:TypeId}{p q g j cap c B m:Nat}{l:List UInt8}(ho:o.op=.store ty (.tmp p) (.tmp q))(hg:o.guard=none)(hd:o.dst=none)(hp:look sl p=.sc (.pointer (some ⟨g,j,none⟩)))(hq:look sl q=.sc (.int .u8 (c:Nat)))(hi:(prog.info? ty).map (·.size)=some 1)
  (hz:RowZ w1 B (.slice (some ⟨g,0,none⟩) m cap) l) (hj:j<l.length) (hc:c<256) (hG:G1 g) {J:World} (M:Env J) (z:J.heap.size<=B) (L:Below J.heap.size J w1)
  (k:∀w2,RowZ w2 B (.slice (some ⟨g,0,none⟩) m cap) (l.set j (UInt8.ofNat c))->Below B w1 w2->BOps ops rest Q w2 G1 ⟨n,sl,[],[]⟩):BOps ops (o::rest) Q w1 G1 ⟨n,sl,[],[]⟩:=by
 refine rU hg λa w d=>?_
 obtain⟨hE,P,R,a9,a5,_⟩:=d.facts;obtain⟨g',a1,cur,fz,e,S,f,D,W,U,V,Y,X⟩:=hz.later R;injection e with y e2 K
 injection y with y
 injection y with y
 subst y;have E:j<cur.size:=O
 have v:w.cell? ⟨g,j,none⟩=some cur[j]:=by simp[World.cell?,f,E]
 have I:=xL (w:=w) (o:=o) (T:=λs=>a.tmps.getD s undef) ho (d.lit hp) (d.lit hq) hi Z v (D.free f E);have H:=setCell_eq_setRow w g j cur _ fz (.int .u8 (c:Nat)) f;rw[H]at I;have hh:=setRow_heap w g cur (cur.setIfInBounds j (.int .u8 (c:Nat))) _ fz f;have a4:=(QK.1 f).1;have C:Below B w (w.setRow g (cur.setIfInBounds j (.int .u8 (c:Nat)))):=⟨Z,Z,Z,F,λk hk=>setRow_other w g k _ O⟩;have t:(cur.setIfInBounds j (.int .u8 (c:Nat))).toList.all cj=true:=by
  rw[Rk,Qt];intro x hx;rcases Tq hx with h|h
  ·exact Qt.1 X x h
  rw[h];rfl
 have a0:RowZ (w.setRow g (cur.setIfInBounds j (.int .u8 (c:Nat)))) B (.slice (some ⟨g,0,none⟩) m cap) (l.set j (UInt8.ofNat c)):=by
  refine⟨g,cap,_,fz,by rw[Rr,e2],S,hh,by rw[Array.size_setIfInBounds];exact D,by rw[Rr,K];exact W,by rw[K];exact U,by rw[Array.size_setIfInBounds,K];exact V,?_,t⟩;rw[Rk,Rr,SW,Y];unfold f7;rw[List.map_set];show _=List.set _ _ (Value.int .u8 (((UInt8.ofNat c).toNat:Nat):Int))
  rw[SJ,RC (show c<2^8 by omega)]
 obtain⟨g2,_,e4,a2,a3,_,_,_,_⟩:=hz.cells;have hB:B<=w1.heap.size:=O
 have N:z6 G1 (w.setRow g (cur.setIfInBounds j (.int .u8 (c:Nat)))):=λb A=>by
  obtain⟨h3,h4⟩:=P b A;refine⟨by simpa using h3,λi u hu=>?_⟩;by_cases r:b=g
  ·subst r;exact fe hh t i u hu
  exact h4 i u (by rw[<-World.cell?_of_block (setRow_other w g b _ r)];exact hu)
 refine OpRuns.of_skip I ⟨_,G1,_,?_,k _ a0 ((R.mono hB).trans C)⟩;rw[hd];refine d.turn (M.below ((L.trans (R.mono (Qu z hB))).trans (C.mono z)) (Qi _)) N F λb A G=>⟨setRow_other w g b _ (λe=>G (e▸hG)),G⟩
end
def Sim.hide1{d w:World}{f:Nat->Prop}{n:Nat}{sl:List (Nat×Tree)}{ty:TypeId}{cs:List Tree}{a:Act}(h:Sim d (pln f) ⟨n,sl,[(ty,cs)],[]⟩ a w):∃b us,d.heap.size<=b/\IsBlk w b ty us.toArray/\FT (en w (pln f) [b] [] []) us cs/\us.all cj=true/\Below d.heap.size d w/\Env d/\z6 f d/\Env w/\z6 (λx=>f x\/x=b) w/\a.tmps.size=n/\a.defers=[]/\∀i,FT (en w (pln f) [b] [] []) [a.tmps.getD i undef] [look sl i]:=by
 obtain⟨bx,rv,c,v,l,o⟩:=h;obtain rfl:rv=[]:=QI c.nr;obtain⟨b,rfl⟩:∃b,bx=[b]:=by
  have j:bx.length=1:=c.nb
  match bx,j with
  |[b],_=>exact⟨b,Z⟩
 obtain⟨p,k,us,j,s,t,u⟩:=c.box 0 b Z;have j:(ty,cs)=(p,k):=QS j;injection j with q r
 subst q r;have m:d.heap.size<=b:=(c.ge b (aN.2 (.inl (QP.2 Z)))).elim id λh=>h.elim
 refine⟨b,us,m,s,t,u,c.below.below,c.env0.env0,λg e=>⟨(c.g0 g e).1,(c.g0 g e).2.1⟩,c.env,λg e=>?_,v,l,o⟩;rcases e with e|rfl
 ·exact c.ok g (.inl e)
 exact c.ok g (.inr (aN.2 (.inl (QP.2 Z))))
def Sim.back1{B w0 w:World}{r G0:Nat->Prop}{n:Nat}{sl l:List (Nat×Tree)}{a:Act}{b:Nat}{ty:TypeId}{cs:List Tree}{us:List Value}(h:Sim B (pln r) ⟨n,sl,[],[]⟩ a w)(s:Env w0)(p:z6 G0 w0)(t:Below w0.heap.size w0 w)(e:IsBlk w b ty us.toArray)(m:w0.heap.size<=b)(y:FT (en w (pln G0) [b] [] []) us cs)(o:us.all cj=true)(hl:SlotL (en w (pln G0) [b] [] []) (λi=>a.tmps.getD i undef) l):Sim w0 (pln G0) ⟨n,l,[(ty,cs)],[]⟩ a w:=by
 obtain⟨_,_,_,z,f,_⟩:=h.facts;refine⟨[b],[],⟨.of t,.pln s,λg q=>⟨(p g q).1,(p g q).2,id⟩,Z,Z,λi g d=>?_,λk v R c=>by simp at c,⟨F,λk v R b c=>by simp at c,λj k u v X R b _ c=>by simp at c⟩,λx A=>?_,λi d=>absurd d (RZ i)⟩,z,f,λi=>hl.look i⟩
 ·cases i with
  |zero=>
   obtain rfl:b=g:=QS d;exact⟨ty,cs,us,Z,e,y,o⟩
  |succ i=>simp at d
 have:x=b:=by simpa[bX]using A
 subst this;exact .inl m
def G9{E E':En}{v:Value}{x:Value}(h:FT E [v] [.sc x]):FT E' [v] [.sc x]:=by rw[h.isSc];exact .pure (.sc _ .nil) .nil
def L0{E:En}{v x:Value}(h:v=x):FT E [v] [.sc x]:=by rw[h];exact .pure (.sc _ .nil) .nil
def NB{E E':En}{v:Value}{b:Nat}(h:FT E [v] [.box 0 0])(a:E.bx 0=some b):FT E' [v] [.sc (.pointer (some ⟨b,0,none⟩))]:=by
 have:v=.pointer (some ⟨b,0,none⟩):=by
  cases h with
  |pure h _=>cases h
  |box _ _ g hg _=>
   rw[a]at hg;rw[QS hg]
 rw[this];exact .pure (.sc _ .nil) .nil
def qb{E:En}{T:Nat->Value}{sl:List (Nat×Tree)}(a:∀i,FT E [T i] [look sl i]):∀{l:List (Nat×Tree)},LooksL sl l->SlotL E T l
 |[],_=>trivial
 |(i,t)::l,h=>⟨h.1▸a i,qb a h.2⟩
def Ha{c:Code}{Q:Exit->World->(Nat->Prop)->St->Prop}{f:World}{e:Nat->Prop}{n:Nat}{sl l:List (Nat×Tree)}(g:LooksL sl l)(h:BWP c Q f e ⟨n,l,[],[]⟩):BWP c Q f e ⟨n,sl,[],[]⟩:=λa w k=>by
 obtain⟨bx,rv,i,j,b,d⟩:=k;exact h a w ⟨bx,rv,i,j,b,(qb d g).look⟩
def RowZ.cell{W:World}{B g m cap j:Nat}{X:List UInt8}{q:UInt8}(h:RowZ W B (.slice (some ⟨g,0,none⟩) m cap) X)(f:X[j]? =some q):g<W.heap.size/\W.cell? ⟨g,j,none⟩=some (.int .u8 ((q.toNat:Nat):Int)):=by
 obtain⟨i,b,e,k,c,l,n,o,d⟩:=h.cells;injection e with a _ _
 injection a with a
 injection a with a
 subst a;have:=d j (.int .u8 ((q.toNat:Nat):Int)) (by unfold f7;rw[QL,f];rfl);rw[QT]at this;exact⟨c,this⟩
def Pk{m:Nat}(h:m<256):(Tree.sc (.int .u8 (IntKind.u8.wrap ((m:Nat):Int))))=.sc (.int .u8 ((m:Nat):Int)):=by
 have:IntKind.u8.wrap ((m:Nat):Int)=(m:Nat):=by rw[IntKind.wrap_u8];omega
 rw[this]
def tY(n:Nat)(c:UInt8):UInt8:=if c.toNat=64 then UInt8.ofNat (49+n%3)else c
def yM(s:ByteArray)(n:Nat):ByteArray:=⟨(s.data.toList.map (tY n)).toArray⟩
noncomputable def L1 (s:ByteArray) (n:Nat):Cq:=(aC (yM s n)).1.2.headD ⟨[],[]⟩
def yO{n i:Nat}{L X:List UInt8}{q:UInt8}(d:X=(L.take i).map (tY n)++L.drop i)(h:X[i]? =some q)(e:i<L.length):L[i]? =some q/\X.set i (tY n q)=(L.take (i+1)).map (tY n)++L.drop (i+1):=by
 have a:((L.take i).map (tY n)).length=i:=by rw[Qr,QN];omega
 have b:L[i]? =some L[i]:=Qj e;have c:L.drop i=L[i]::L.drop (i+1):=Q3 e;have f:X[i]? =some L[i]:=by rw[d,c,Qx O,a,RI];rfl
 have g:q=L[i]:=QS (h.symm.trans f);subst g;refine⟨b,?_⟩;rw[d,c,Sd _ _ O,a,RI,Ss,List.take_add_one,b,Qz,Q0];rfl
def Hb{n i:Nat}{L X:List UInt8}{q:UInt8}(f:X=(L.take i).map (tY n)++L.drop i)(a:X[i]? =some q)(g:i<L.length)(h:¬q.toNat=64):X=(L.take (i+1)).map (tY n)++L.drop (i+1):=by
 have c:=(yO f a g).2;rw[<-c];have e:tY n q=q:=if_neg h;rw[e];obtain⟨d,b⟩:=Qm.1 a;subst b;exact(List.set_getElem_self d).symm
def Pl(c:Cq):Prop:=GQ c/\∀x,dG c=some x->x.size<=288
def Kw:Pl ⟨[],[]⟩:=⟨GQ.nil,λx a=>by
 have:dG ⟨[],[]⟩=some ⟨#[116,114,117,101]⟩:=rfl;rw[this]at a;injection a with a
 subst a;show 4<=_
 omega⟩
def NC{b:List UInt8}{l:List ByteArray}{x:ByteArray}(h:x∈l):x.size<=(jn b 0 l).length:=pB h
def Ez{s:ByteArray}(u:s.size<=31){c:Cq}(h:(aC s).1.2[0]? =some c):Pl c:=by
 obtain⟨a,k⟩:=nE s;have g:=Qo h;refine⟨a.q c g,λx o=>?_⟩;obtain⟨t,j,_⟩:=AT a.q;have m:x∈(aC s).1.2.filterMap dG:=Sa.2 ⟨c,g,o⟩;have p:=NC (b:=[32,111,114,32]) m;have r:(jn [32,111,114,32] 0 ((aC s).1.2.filterMap dG)).length<=t.size:=by
  have i:¬(aC s).1.2.length=0:=λe=>by rw[Rz.1 e]at g;cases g
  have f:((aC s).1.2.all λd=>(dG d).isSome)=true:=Qt.2 λc n=>by
   obtain⟨x,a,_⟩:=lc (a.q c n);rw[a];rfl
  have:=(AI i f Z).symm.trans j;rw[<-QS this];exact Nat.le_of_eq Rg.symm
 by_cases l:0<(aC s).1.1.length
 ·have:=k _ (we j l);rw[Qq]at this;omega
 have:=k _ (sF j l);omega
def ND{s t:ByteArray}{n:Nat}(h:t=yM s n)(a:(aC t).1.2.length=0):⟨[],[]⟩=L1 s n:=by
 unfold L1;rw[<-h,Rz.1 a];rfl
def NE{s t:ByteArray}{n:Nat}(h:t=yM s n){c:Cq}(a:(aC t).1.2[0]? =some c):c.tree=(L1 s n).tree:=by
 unfold L1;rw[<-h];cases hl:(aC t).1.2 with
 |nil=>rw[hl]at a;cases a
 |cons d l=>
  rw[hl]at a;rw[QS a.symm];rfl
def Pm{s:ByteArray}{n:Nat}(a:s.size<=31):Pl (L1 s n):=by
 unfold L1;cases h:(aC (yM s n)).1.2 with
 |nil=>exact Kw
 |cons c l=>
  refine Ez (s:=yM s n) ?_ (by rw[h];rfl);have:(yM s n).size=s.size:=by
   unfold yM;rw[dT,dT];simp
  omega
def Kx(s:ByteArray)(n:Nat)(o:s.size<=100)(d1:n<4294967296):Ct 32 [sT s,nI n] ((L1 s n).tree):=by
 refine Ct.of (n:=44) func32 Z Z Z Z Z λw0 G0=>?_
 refine ar 1 Z<|BZ<|lA (λaU O A=>?_);obtain⟨r,c4,a0,y,c0,a4,F,a9,Q,P,b0,a3,z,d⟩:=A.hide1;refine⟨O,λx=>G0 x\/x=r,⟨44,[(0,sT s),(1,nI n),(4,.sc (.pointer (some ⟨r,0,none⟩)))],[],[]⟩,Sim.mk P b0 a3 z (SlotL.look (l:=[(0,sT s),(1,nI n),(4,.sc (.pointer (some ⟨r,0,none⟩)))]) ⟨G9 (d 0),G9 (d 1),NB (d 4) Z,trivial⟩),?_⟩;clear A a3 z d;have a2:=y.lt;refine gZ<|eh<|cf (t:=sT s) Z Z Z (E Z Z)<|sY Z Z Z Z Z (Qu o I0) (λv w2 k S=>?_);obtain⟨g,cap,rfl,d0,L,b3,b5,a5,W⟩:=k.cells;obtain⟨N,hN⟩:∃N,s.data.toList.length=N:=⟨_,Z⟩;have c9:N<=100:=by rw[<-hN,<-dT];exact o
 rw[hN];rw[hN]at k;clear b3 b5 a5 L W;refine cf (t:=.sc (.slice (some ⟨g,0,none⟩) N cap)) Z Z Z (b7 Z Z)<|fO ?_;show BWP _ _ _ _ _
 refine gZ<|gZ<|eh<|cf (t:=iT 0) Z Z Z (b7 Z Z)<|fO ?_;show BWP _ _ _ _ _
 refine um<|FE (λm_ w3 G3 S3=>∃(i:Nat) (X:List UInt8) (p:List (Nat×Tree)),i<=N/\X.length=N/\X=(s.data.toList.take i).map (tY n)++s.data.toList.drop i/\m_=N-i/\RowZ w3 O.heap.size (.slice (some ⟨g,0,none⟩) N cap) X/\Below O.heap.size O w3/\G3=(λb=>(G0 b\/b=r)\/(Value.slice (some ⟨g,0,none⟩) N cap).ownBlock=some b)/\S3=⟨44,p,[],[]⟩/\LooksL p [(0,sT s),(1,nI n),(4,.sc (.pointer (some ⟨r,0,none⟩))),(5,.sc (.slice (some ⟨g,0,none⟩) N cap)),(6,nI i)]) N ⟨0,_,_,QF _,hN,Z,Z,k,S,Z,Z,Z,Z,Z,Z,Z,trivial⟩ ?_;clear k S w2;rintro m_ w3 G3 S3 ⟨i,X,p,hi,hX,B,rfl,k,e,rfl,rfl,hL⟩;refine Ha hL ?_;clear hL p;refine gZ<|gZ<|eh<|cf (t:=nI i) Z Z Z (E Z Z)<|cf (t:=.sc (.slice (some ⟨g,0,none⟩) N cap)) Z Z Z (E Z Z)<|cf (t:=nI N) Z Z Z (rV Z f9 Z)<|cf (t:=bT (decide (i<N))) Z Z Z (av (aL Z Z Z Zy) (D (iL i N)))<|fO ?_;show BWP _ _ _ _ _
 refine rT (b:=decide (i<N)) Z (λhc=>?_) (λhc=>?_)
 ·have a1:=of_decide_eq_true hc;refine rS ?_;show BWP _ _ _ _ _
  obtain⟨q,hq⟩:∃q,X[i]? =some q:=⟨_,Qj O0⟩;obtain⟨L,J⟩:=k.cell hq;refine gZ<|um<|gZ<|eh<|cf (t:=.sc (.slice (some ⟨g,0,none⟩) N cap)) Z Z Z (E Z Z)<|cf (t:=nI i) Z Z Z (E Z Z)<|cf (t:=.sc (.pointer (some ⟨g,i,none⟩))) Z Z Z (oq (j:=i) Z f9 Z Z Z a1 F0)<|rW (u:=.int .u8 ((q.toNat:Nat):Int)) Z Z Z Z Z uo L J<|cf (t:=bT (decide (q.toNat=64))) Z Z Z (av (aL Z Z Z Zy) (D (e9 q.toNat 64)))<|fO ?_;show BWP _ _ _ _ _
  refine rT (b:=decide (q.toNat=64)) Z (λI=>?_) (λI=>?_)
  ·refine eh<|cf (t:=.sc (.slice (some ⟨g,0,none⟩) N cap)) Z Z Z (E Z Z)<|cf (t:=nI i) Z Z Z (E Z Z)<|cf (t:=nI n) Z Z Z (E Z Z)<|cf (t:=nI (n%3)) Z Z Z (aL Z Z Z (λw=>n5 n 3 O0 w))<|cf (t:=nI (49+(n%3))) Z Z Z (av (aL Z Z Z Zy) (jy O0))<|cf (t:=.sc (.int .u8 ((49+n%3:Nat):Int))) Z Z Z (av (qq Z mg D3 Z) (Pk O0))<|cf (t:=.sc (.pointer (some ⟨g,i,none⟩))) Z Z Z (oq (j:=i) Z f9 Z Z Z a1 F0)<|qa (c:=49+n%3) Z Z Z Z Z uq k O0 O0 (.inr Z) P (Qi _) e (λw4 c3 b2=>?_);refine fO ?_;show BWP _ _ _ _ _
   refine eh<|cf (t:=nI i) Z Z Z (E Z Z)<|cf (t:=nI (i+1)) Z Z Z (av (aL Z Z Z Zy) (jy O0))<|cf (t:=nI (i+1)) Z Z Z (b7 Z Z)<|fO<|⟨_,O0,i+1,X.set i (UInt8.ofNat (49+n%3)),_,O0,by rw[Rr];exact hX,(by have h:=(yO B hq O0).2;rw[show tY n q=_ from if_pos (of_decide_eq_true I)]at h;exact h),Z,c3,e.trans b2,Z,Z,Z,Z,Z,Z,Z,trivial⟩
  refine rS ?_;show BWP _ _ _ _ _
  refine eh<|cf (t:=nI i) Z Z Z (E Z Z)<|cf (t:=nI (i+1)) Z Z Z (av (aL Z Z Z Zy) (jy O0))<|cf (t:=nI (i+1)) Z Z Z (b7 Z Z)<|fO<|⟨_,O0,i+1,X,_,O0,hX,(Hb B hq O0 (of_decide_eq_false I)),Z,k,e,Z,Z,Z,Z,Z,Z,Z,trivial⟩
 refine FD ?_;show BWP _ _ _ _ _
 obtain⟨g_,c_,e_,c5,_⟩:=k.cells;refine lA (λa w o=>⟨w0,G0,⟨44,[(0,sT s),(1,nI n),(4,.box 0 0),(5,.sl (fD X))],[(82,[.sl [],.sl []])],[]⟩,?_,?_⟩)
 ·obtain⟨_,_,T,_⟩:=o.facts;have m:Below O.heap.size O w:=e.trans (T.mono e.size);refine o.back1 (us:=c4) a9 Q (F.trans (m.mono F.size)) (y.below m a2) a0 (c0.mono m.size (λb hb hG=>⟨m.block b hb,hG⟩) (λ_ _ h=>h) (λ_ _ h=>h)) a4 ⟨L0 (o.lit Z),L0 (o.lit Z),?_,?_,trivial⟩
  ·show FT _ [a.tmps.getD 4 undef] _
   rw[o.lit (i:=4) (v:=.pointer (some ⟨r,0,none⟩)) Z];exact .box 0 0 r Z .nil
  show FT _ [a.tmps.getD 5 undef] _
  rw[o.lit (i:=5) (v:=.slice (some ⟨g,0,none⟩) N cap) Z];refine .pure ((k.later T).pt λx hx hG=>?_) .nil;have c2:g=x:=by simpa[Value.ownBlock]using hx
  subst c2;rcases hG with h|h
  ·have h1:=(Q _ h).1;have h2:=F.size;omega
  have:g=r:=by simpa[bX]using h
  omega
 refine BWP.of<|Y ?_;have R:(⟨X.toArray⟩:ByteArray)=yM s n:=by rw[B,QU (by have:=of_decide_eq_false hc;omega),Q1 (by have:=of_decide_eq_false hc;omega),Rn];rfl
 have b1:(⟨X.toArray⟩:ByteArray).size=N:=by rw[<-hX];exact Rg
 refine am<|C 1 (t:=sT (⟨X.toArray⟩:ByteArray)) Z (pm Z Z)<|C 0 Z (aJ Z ((by have h:=kQ (⟨X.toArray⟩:ByteArray) (by rw[b1];omega);rw[mw]at h;exact h)) Z Z)<|H 6 Z<|Y<|M<|C 2 Z (bg Z bQ Z)<|aB 0 Z Z Zy (D (e9 (((aC (⟨X.toArray⟩:ByteArray)).1.2).length) 0))<|K<|an Z (λG=>?_) (λG=>?_)
 ·have V:=G;refine Y ?_;have c1:=V;refine bO 2 Z<|aO<|⟨Z,Z,.inr Z,_,.cons (eZ Z Z ei Z) .nil,(F3 (ND R c1)),Z⟩
 have V:=G;refine ag<|Y ?_;obtain⟨c,U⟩:∃c,(aC (⟨X.toArray⟩:ByteArray)).1.2[0]? =some c:=⟨_,Qj O0⟩;refine am<|C 2 (t:=.ref [.sl (c.al.map Atm.tree),.sl (c.cl.map Cpr.tree)]) Z (aY (Cq.tree c) Z bQ Z Z Z (bi (f:=Cq.tree) U) (fh _) Z)<|H 2 Z<|aO<|⟨Z,Z,.inr Z,_,.cons (eZ Z Z ei Z) .nil,(NE R U),Z⟩
def nQ(l:List Int)(i:Nat):Nat:=if l.length=0 then(((i:Nat):Int)%65536).toNat else(l.getD (i%l.length) 0%65536).toNat+i/l.length
def wA(l:List Int)(i:Nat)(a:i<65536):nQ l i<4294967296:=by
 unfold nQ;have h:=Su i l.length;split<;>omega
def NF:ByteArray:=⟨#[120]⟩
def PV:ByteArray:=⟨#[121]⟩
def wB(m:Nat):List ByteArray:=if m=1 then [NF]else if m=2 then [NF]else if m=3 then [PV,NF]else []
def tZ(m:Nat):Nat:=if m=3 then 9 else 24
def NG(m:Nat):9<=tZ m/\tZ m<=24:=by unfold tZ;split<;>omega
def sZ:li.length=24:=rfl
def yP{j:Nat}(h:j<24):li[j]? =some (li.getD j b9):=by
 rw[Qp,Qj (show j<li.length by rw[sZ];exact h)];rfl
def CR(j:Nat):(li.getD j b9).size<=31:=by
 by_cases h:j<24
 ·have:=Qt.1 (show(li.all λp=>decide (p.size<=31))=true by decide+kernel) _ (Qo (yP h));exact of_decide_eq_true this
 rw[Qp,Rl (by rw[sZ];omega)];exact QF _
noncomputable def A9 (l:List Int) (m i:Nat):Cq:=L1 (li.getD (nQ l (2+i)%tZ m) b9) (nQ l (4+i))
noncomputable def lj (l:List Int):List ByteArray×List Cq:=(wB (nQ l 0%4),(List.range (nQ l 1%2+1)).map (A9 l (nQ l 0%4)))
def Ky{l:List Int}{m i:Nat}{ds:List Cq}(h:ds=(List.range i).map (A9 l m)):ds++[A9 l m i]=(List.range (i+1)).map (A9 l m):=by rw[List.range_succ,Qz,h];rfl
def Hc(l:List Int)(m i:Nat):Pl (A9 l m i):=Pm (CR _)
def NH:GN NF:=⟨uM I,by decide+kernel⟩
def PW:GN PV:=⟨uM I,by decide+kernel⟩
def NJ(m:Nat):∀n∈wB m,GN n:=by
 unfold wB;intro n a;split at a
 ·rw[QP.1 a];exact NH
 split at a
 ·rw[QP.1 a];exact NH
 split at a
 ·simp only[Qw,SX,or_false]at a;rcases a with rfl|rfl
  ·exact PW
  exact NH
 cases a
def CS(l:List Int):GQy (lj l):=⟨NJ _,λc a=>by
 obtain⟨i,_,rfl⟩:=RH.1 a;exact(Hc l _ i).1⟩
def Pn(l:List Int){x:ByteArray}(g:fA (lj l)=some x):x.size<=700:=by
 have b:=CS l;obtain⟨t,a,_⟩:=AT b.q;have u:t.size<=600:=by
  have s:=Nr b.q a;have n:(lj l).2.length<=2:=by
   show((List.range _).map _).length<=2
   rw[Qr,List.length_range];omega
  have o:∀k:List Cq,(∀c∈k,Pl c)->μU k<=292*k.length:=by
   intro k;induction k with
   |nil=>exact λ_=>Qi _
   |cons c k m=>
    intro h;have m:=m λd hd=>h d (QA _ hd)
    obtain⟨y,j,_⟩:=lc (h c (Qs ..)).1;have p:=(h c (Qs ..)).2 y j;have e:μU (c::k)=((dG c).getD b9).size+4+μU k:=rfl;rw[e,j,Qn];show y.size+4+_<=_
    omega
  have p:=o (lj l).2 λc r=>by
   obtain⟨i,_,rfl⟩:=RH.1 (show c∈(List.range (nQ l 1%2+1)).map (A9 l (nQ l 0%4))from r);exact Hc l _ i
  have v:292*(lj l).2.length<=292*2:=SF _ n;omega
 have w:(bF (lj l).1).size<=10:=by
  show(bF (wB (nQ l 0%4))).size<=10
  unfold wB;split
  ·decide
  split
  ·decide
  split
  ·decide
  decide
 by_cases f:0<(lj l).1.length
 ·have:=QS ((we a f).symm.trans g);rw[<-this,Qq,Qq];show _+2+_<=_
  omega
 have:=QS ((sF a f).symm.trans g);rw[<-this];omega
def Po{l:List Int}{m i:Nat}{ds:List Cq}(b:nQ l 0%4=m)(h:ds=(List.range i).map (A9 l m))(a:i=nQ l 1%2+1):Tree.agg [.sl ((wB m).map aE),.sl (ds.map Cq.tree)]=oM (lj l):=by
 subst h a b;rfl
def wC(l:List Int)(i:Nat)(hl:l.length<=9223372036854775807)(h:i<65536):Ct 30 [.sl (l.map mD),nI i] (nI (nQ l i)):=by
 refine Ct.of (n:=23) func30 Z Z Z Z Z λw0 G0=>?_
 refine N 1 Z<|Y<|M<|C 1 Z (bg Z kV Z)<|aB 0 Z Z Zy (D (e9 l.length 0))<|K<|an Z (λa=>?_) (λa=>?_)
 ·refine M<|C 1 (t:=nI ((((i:Nat):Int)%65536).toNat)) Z (aL Z Z Z (λw=>ui ((i:Nat):Int) w))<|H 1 Z<|aV ⟨Z,jc (if_pos a).symm,Z⟩ Z
 have c:0<l.length:=O0
 obtain⟨x,b⟩:∃x,l[i%l.length]? =some x:=⟨_,Qj (R9 _ c)⟩;have g:i/l.length<=i:=Su _ _;have e:l.getD (i%l.length) 0=x:=by rw[Qp,b];rfl
 have d:=a;refine X<|Y<|cu (fu:=14) _ [.sl (l.map mD),nI i,.sl (l.map mD),nI l.length,nI (i%l.length),.ref [iT x],iT x,nI ((x%65536).toNat),nI i,.sl (l.map mD),nI l.length,nI (i/l.length),nI (((x%65536).toNat)+(i/l.length)),nI (((x%65536).toNat)+(i/l.length))] U0 Z Z U0 Z ?_ ?_
 ·refine Chain.op Z (E Z Z)<|Chain.op Z (E Z Z)<|Chain.op Z (E Z Z)<|Chain.op Z (av (iU Z kV Z) (by simp only[Qr]))<|Chain.op Z (aL Z Z Z (λw=>n5 i l.length O0 w))<|Chain.op Z (aY (mD x) Z kV Z Z Z (bi (f:=mD) b) (z8 _) Z)<|Chain.op Z (aX Z Z cv Z)<|Chain.op Z (aL Z Z Z (λw=>ui x w))<|Chain.op Z (E Z Z)<|Chain.op Z (E Z Z)<|Chain.op Z (av (iU Z kV Z) (by simp only[Qr]))<|Chain.op Z (aL Z Z Z (λw=>Jf i l.length O0 O0 w))<|Chain.op Z (av (aL Z Z Z Zy) (jy O0))<|Chain.op Z (b7 Z Z)<|Chain.nil
 exact aV ⟨Z,jc (by unfold nQ;rw[if_neg d,e]),Z⟩ Z
def Hd(l:List Int)(hl:l.length<=9223372036854775807):Ct 12 [.sl (l.map mD)] (oM (lj l)):=by
 obtain⟨m,x⟩:∃m,nQ l 0%4=m:=⟨_,Z⟩;obtain⟨k,G⟩:∃k,nQ l 1%2=k:=⟨_,Z⟩;have z:=wA l 0 O0;have A:=wA l 1 O0;obtain⟨I,J⟩:=NG m;refine Ct.of (n:=52) func12 Z Z Z Z Z λw0 G0=>?_
 refine N 1 Z<|M<|C 0 (t:=.agg [.sc (.slice none 0 0),.sc (.slice none 0 0)]) Z (ph Z AG Z Z Z)<|ay 2 Z<|vS 1 0 (bs':=[(43,[.sl [],.sl []]),(43,[.sl [],.sc (.slice none 0 0)])]) Z Z Z<|K<|Y<|iM 1 1 82 2 (bs':=[(43,[.sl [],.sl []]),(43,[.sl [],.own 0])]) (rs':=[some ⟨82,2,([]:List Cq).map Cq.tree,false⟩]) Z Z Z Z<|am<|C 1 Z (aJ Z (wC l 0 hl O0) Z Z)<|C 0 (t:=nI m) Z (av (aL Z Z Z (λw=>n5 (nQ l 0) 4 O0 w)) (jc x))<|H 1 Z<|M<|C 0 Z (aJ Z M5 Z Z)<|H 1 Z<|M<|C 1 (t:=nI 24) Z (av (av (iU Z bc Z) (by simp only[Qr])) (jc sZ))<|H 1 Z<|Y<|jZ ⟨52,[(6,nI (tZ m)),(0,.sl (l.map mD)),(2,.box 0 0),(3,.box 1 0),(5,.sl (li.map aE))],[(43,[.sl [],.sl []]),(43,[.sl ((wB m).map aE),.own 0])],[some ⟨82,2,([]:List Cq).map Cq.tree,false⟩]⟩ 2 1 ?_ ?_
 ·refine N 1 Z<|aG<|Y<|M<|aB 0 Z Z Zy (D (e9 m 1))<|H 1 Z<|an Z (λd=>?_) (λd=>?_)
  ·have a:=d;refine X<|an Z (λo=>?_) (λo=>?_)
   ·refine am<|C 0 (t:=.sl [sT (⟨#[120]⟩)]) Z (aQ Z bc cw Z I0 I0 Z Z Z Z Z)<|H 2 Z<|⟨Z,(by rw[show wB m=[NF]from(by unfold wB;rw[if_pos a])];rfl),Z,.cons (jc (by unfold tZ;rw[if_neg O0])) Z (.cons Z Z (.cons Z Z (.cons Z Z (.cons Z Z .nil)))),Z⟩
   exact absurd a o
  have a:=d;refine am<|aB 0 Z Z Zy (D (e9 m 2))<|H 1 Z<|an Z (λg=>?_) (λg=>?_)
  ·have c:=g;refine am<|C 0 (t:=.sl [sT (⟨#[120]⟩)]) Z (aQ Z bc cw Z I0 I0 Z Z Z Z Z)<|H 2 Z<|⟨Z,(by rw[show wB m=[NF]from(by unfold wB;rw[if_neg a];rw[if_pos c])];rfl),Z,.cons (jc (by unfold tZ;rw[if_neg O0])) Z (.cons Z Z (.cons Z Z (.cons Z Z (.cons Z Z .nil)))),Z⟩
  have c:=g;refine M<|aB 0 Z Z Zy (D (e9 m 3))<|H 1 Z<|an Z (λh=>?_) (λh=>?_)
  ·have b:=h;refine am<|C 0 (t:=.sl [sT (⟨#[121]⟩),sT (⟨#[120]⟩)]) Z (aQ Z bc cw Z I0 I0 Z Z Z Z Z)<|H 3 Z<|⟨Z,(by rw[show wB m=[PV,NF]from(by unfold wB;rw[if_neg a];rw[if_neg c];rw[if_pos b])];rfl),Z,.cons (jc (by unfold tZ;rw[if_pos b])) Z (.cons Z Z (.cons Z Z (.cons Z Z (.cons Z Z .nil)))),Z⟩
  have b:=h;refine X<|⟨Z,(by rw[show wB m=[]from(by unfold wB;rw[if_neg a];rw[if_neg c];rw[if_neg b])];rfl),Z,.cons (jc (by unfold tZ;rw[if_neg b])) Z (.cons Z Z (.cons Z Z (.cons Z Z (.cons Z Z .nil)))),Z⟩
 refine Y<|N 1 Z<|aG<|bn (λy u=>∃(i:Nat) (ds:List Cq),(i<=k+1/\ds.length=i/\ds=(List.range i).map (A9 l m))/\y=k+1-i/\u=⟨52,[(0,.sl (l.map mD)),(2,.box 0 0),(3,.box 1 0),(5,.sl (li.map aE)),(6,nI (tZ m)),(7,nI i)],[(43,[.sl [],.sl []]),(43,[.sl ((wB m).map aE),.own 0])],[some ⟨82,2,ds.map Cq.tree,false⟩]⟩) 2 1 ⟨0,[],⟨QF _,Z,Z⟩,Z,Z⟩ .rf ?_;rintro y u ⟨i,ds,⟨L,F,p⟩,rfl,rfl⟩;refine Y<|M<|C 2 Z (aJ Z (wC l 1 hl O0) Z Z)<|C 0 (t:=nI k) Z (av (aL Z Z Z (λw=>n5 (nQ l 1) 2 O0 w)) (jc G))<|aB 0 Z Z Zy (D (Me i k))<|K<|an Z (λj=>?_) (λj=>?_)
 ·have r:=j;have s:li[(nQ l (2+i))%(tZ m)]? =some (li.getD ((nQ l (2+i))%(tZ m)) b9):=yP (by have:=R9 (nQ l (2+i)) (show 0<tZ m by omega);omega);have B:=wA l (2+i) O0;have q:=wA l (4+i) O0;refine X<|Y<|aG<|ft (sl':=[(0,.sl (l.map mD)),(2,.box 0 0),(3,.box 1 0),(5,.sl (li.map aE)),(6,nI (tZ m)),(7,nI i),(29,bT (decide (i<=k)))]) ⟨Z,⟨Z,⟨Z,⟨Z,⟨Z,⟨Z,⟨Z,trivial⟩⟩⟩⟩⟩⟩⟩<|gd (fu:=5) [some 32,some 33,some 34,some 35,some 36,some 37,some 38,some 39,some 40,some 41,some 42,some 43,some 44,some 45,some 46,some 47,some 48,some 49,some 50,none] [17,19] [.box 1 1,.own 0,.sl (li.map aE),.sl (l.map mD),nI i,nI (2+i),nI (nQ l (2+i)),nI (tZ m),nI ((nQ l (2+i))%(tZ m)),.ref [sT (li.getD ((nQ l (2+i))%(tZ m)) b9)],sT (li.getD ((nQ l (2+i))%(tZ m)) b9),.sl (l.map mD),nI i,nI (4+i),nI (nQ l (4+i)),.agg [.sl (((A9 l m i).al).map Atm.tree),.sl (((A9 l m i).cl).map Cpr.tree)],.sl [.agg [.sl (((A9 l m i).al).map Atm.tree),.sl (((A9 l m i).cl).map Cpr.tree)]],.own 0,.box 1 1,.any] [([17],[(43,[.sl [],.sl []]),(43,[.sl ((wB m).map aE),.any])],[some ⟨82,2,(ds++[(A9 l m i)]).map Cq.tree,false⟩],[(1,.any)])] [19,17] [(43,[.sl [],.sl []]),(43,[.sl ((wB m).map aE),.own 0])] [some ⟨82,2,(ds++[(A9 l m i)]).map Cq.tree,false⟩] [(1,.any)] U0 Z U0 U0 U0 Z Z ?_ ?_
  ·refine .opp [] (.okk Z (ao Z Z dB Z)<|.fin)<|.opp [0] (.okk Z (aA Z Z Z eR Z)<|.fin)<|.opp [] (.okk Z (E Z Z)<|.fin)<|.opp [] (.okk Z (E Z Z)<|.fin)<|.opp [] (.okk Z (E Z Z)<|.fin)<|.opp [4] (.okk Z (av (aL Z Z Z Zy) (jy O0))<|.fin)<|.opp [3,5] (.okk Z (aJ Z (wC l (2+i) hl O0) Z Z)<|.fin)<|.opp [] (.okk Z (E Z Z)<|.fin)<|.opp [6,7] (.okk Z (aL Z Z Z (λw=>n5 (nQ l (2+i)) (tZ m) O0 w))<|.fin)<|.opp [2,8] (.okk Z (aY (aE (li.getD ((nQ l (2+i))%(tZ m)) b9)) Z bc Z Z Z (bi (f:=aE) s) (gQ _) Z)<|.fin)<|.opp [9] (.okk Z (aX Z Z dL Z)<|.fin)<|.opp [] (.okk Z (E Z Z)<|.fin)<|.opp [] (.okk Z (E Z Z)<|.fin)<|.opp [12] (.okk Z (av (aL Z Z Z Zy) (jy O0))<|.fin)<|.opp [11,13] (.okk Z (aJ Z (wC l (4+i) hl O0) Z Z)<|.fin)<|.opp [10,14] (.okk Z (aJ Z (Kx (li.getD ((nQ l (2+i))%(tZ m)) b9) (nQ l (4+i)) (Qu (CR _) I0) q) Z Z)<|.fin)<|.opp [15] (.okk Z (aQ Z bQ gU Z I0 I0 Z Z Z Z Z)<|.fin)<|.opp [1,16] (.wr 1 (gJ 0) (.own 0) U0 Z Z (d5 Z Z Z nw Z Z Z Z (by intro e v;simp only[Qw,QH,or_false]at v;subst v;rfl) (AllC.lit Z) (AllC.lit Z) (by simp only[Qr,Qn,QC];omega) Z Z (by rw[Qz];rfl)) Z Z Z Z (.ks 17 Z (.i Z (.k Z (.k Z .nil))))<|.fin)<|.opp [] (.no U0<|.okk Z (ao Z Z dB Z)<|.fin)<|.opp [17,18] (.no U0<|.wr 2 id .any U0 Z Z (gt Z Z Z Z Z Z Z Z AF Z Z Z) Z Z Z Z (.ks 19 Z (.i Z .nil))<|.fin)<|.nil
  refine am<|bA 1 (i+1) Z Z Zy O0<|H 1 Z<|⟨_,_,?_,⟨i+1,(ds++[(A9 l m i)]),?_,Z,Z⟩,.rf⟩
  ·omega
  exact⟨O0,by simp;omega,Ky p⟩
 have r:=j;refine bh<|Y<|cQ 0 (bs':=[(43,[.sl [],.sl []]),(43,[.sl ((wB m).map aE),.sl (ds.map Cq.tree)])]) (rs':=[none]) Z Z Z Z<|bO 2 Z<|aV ⟨(eZ Z Z bu Z),(Po x p O0),Z⟩ Z
def PzJ(n p:Nat)(w0:World)(G0:Nat->Prop)(B:Nat)(v:Value)(N:Nat)(L:List (Nat×Tree))(w2:World)(G2:Nat->Prop)(S2:St):Prop:=∃(X:List UInt8) (sl:List (Nat×Tree)),X.length=N/\RowZ w2 B v X/\Below w0.heap.size w0 w2/\G2=(λb=>G0 b\/v.ownBlock=some b)/\S2=⟨n,sl,[],[]⟩/\look sl p=.sc v/\LooksL sl L
def PzJ.back{n p:Nat}{w0:World}{G0:Nat->Prop}{B:Nat}{v:Value}{N:Nat}{L:List (Nat×Tree)}{c:Code}{Q:Exit->World->(Nat->Prop)->St->Prop}(s:Env w0)(m:z6 G0 w0)(D:w0.heap.size<=B)(A:(L.all λp=>p.2.plain)=true)(h:∀X:List UInt8,X.length=N->BWP c Q w0 G0 ⟨n,(p,.sl (fD X))::L,[],[]⟩){q:World}{k:Nat->Prop}{l:St}(t:PzJ n p w0 G0 B v N L q k l):BWP c Q q k l:=by
 obtain⟨X,sl,x,o,f,rfl,rfl,hl,u⟩:=t;refine lA λa w i=>⟨w0,G0,⟨n,(p,.sl (fD X))::L,[],[]⟩,?_,h X x⟩
 obtain⟨_,_,d,_⟩:=i.facts;refine i.back s m (aZ f d f.size) ⟨?_,LooksL.slots i (λb f h=>f (.inl h)) u A⟩;show FT _ [a.tmps.getD p undef] _
 rw[i.lit hl];refine FT.gg ((o.later d).pt λg z j=>?_);obtain⟨r,C,rfl,y,_⟩:=o.cells;have e:r=g:=by simpa[Value.ownBlock]using z
 have:=(m g j).1;omega
