import Derived.Test.YtfoejfohbkmmeaaGreatDoorQ09
import Derived.Test.YtfoejfohbkmmeaaGreatDoorQ00
import Derived.Test.YtfoejfohbkmmeaaGreatDoorQ04
import Derived.Test.YtfoejfohbkmmeaaGreatDoorQ07
import Derived.Laws.BitsLemmas
namespace Go.Proofs.YtfoejfohbkmmeaaGreatDoor
open Go.RowKit
open Lib renaming hid→J
theorem Ep{w:World}{base a:Nat}{e:TypeId}{size n:Nat}{v:Value}{xs:List Value}(h:w.ownsRow base e size v n xs)(d:a<=base):w.ownsRow a e size v n xs:=by
 obtain⟨c,f⟩:=h;refine⟨c,f.imp (fun h=>h) ?_⟩;rintro⟨g,b,cur,j,i,k⟩;exact⟨g,b,cur,j,L6 d i,k⟩
theorem wT{α:Type}(l:List α)(b:0<l.length):∀(m i:Nat),(List.replicate m l).flatten[i]? =if i<m*l.length then l[i%l.length]? else none
 |0,i=>by simp
 |m+1,i=>by
  rw[N6,Qx,M3,Og];rcases MI i l.length with h|h
  ·rw[ME h,if_pos (by omega),NZ h]
  rw[Mw h,wT l b m (i-l.length),<-Nat.mod_eq_sub_mod h];by_cases a:i-l.length<m*l.length
  ·rw[if_pos a,if_pos (by omega)]
  rw[if_neg a,if_neg (by omega)]
theorem tX(z:Array Value)(a:0<z.size)(m:Nat):(madeCells z (m*z.size)).toList=(List.replicate m z.toList).flatten:=by
 apply PN;intro i;rw[wT z.toList (by simpa using a) m i];simp only[M7];by_cases h:i<m*z.size
 ·rw[if_pos h];have b:i%z.size<z.size:=Ni _ a;simp[madeCells,h,b]
 rw[if_neg h];simp[madeCells];omega
theorem Er(W:World)(G:Nat->Prop){a:List Value}{zt:Tree}(h:zt.cells=a.map dg):∀m,PT W G (List.replicate m a).flatten (flat (List.replicate m zt))
 |0=>.nil
 |m+1=>by
  rw[N6,N6,Qx,ei,h];exact(nY W G a).append (Er W G h m)
section
variable {w0:World} {G0:Nat->Prop} {S:St} {o:Oper}
theorem m8{bx:List Nat}{rv:List Value}{rs:List (Option Row)}{v:Value}{R:Row}(a:rv.length=rs.length)(b:Nat):b∈cq bx (rv++[v]) (rs++[some R])↔b∈cq bx rv rs\/v.ownBlock=some b:=by
 rw[aX,aX];constructor
 ·rintro(h|⟨j,u,X,c,d,e⟩)
  ·exact .inl (.inl h)
  rcases cS a j u X c d with⟨_,rfl,_⟩|⟨_,k,i⟩
  ·exact .inr e
  exact .inl (.inr ⟨j,u,X,k,i,e⟩)
 rintro((h|⟨j,u,X,c,d,e⟩)|h)
 ·exact .inl h
 ·have g:=(L7.1 c).1;have f:=(L7.1 d).1;exact .inr ⟨j,u,X,by rw[ME g];exact c,by rw[ME f];exact d,e⟩
 exact .inr ⟨rs.length,v,R,by rw[Mw (by omega),a,M4];rfl,by rw[Mw (L5 _),M4];rfl,h⟩
theorem Mem.addRow{w w':World}{bs:List (TypeId×List Tree)}{rs:List (Option Row)}{bx:List Nat}{rv:List Value}{v:Value}{R:Row}{xs:List Value}(h:Mem w0 G0 bs rs bx rv w)(m:Below w.heap.size w w')(N:w'.ownsRow w.heap.size R.e R.sz v R.es.length xs)(O:PT w' (fun b=>GG G0 bx rv rs b\/v.ownBlock=some b) xs (flat R.es))(B:Sized R.sz R.es/\(R.tt=true->np v))(Z:∀g,v.ownBlock=some g->NoDigB w' g):
  Mem w0 G0 bs (rs++[some R]) bx (rv++[v]) w'/\(∀us ts,FT (en w G0 bx rv rs) us ts->FT (en w' G0 bx (rv++[v]) (rs++[some R])) us ts):=by
 have a:=h.nr;have K:∀b,GG G0 bx (rv++[v]) (rs++[some R]) b↔(GG G0 bx rv rs b\/v.ownBlock=some b):=fun b=>by
  unfold GG;rw[m8 a,or_assoc]
 have c:∀b,v.ownBlock=some b->w.heap.size<=b:=fun b e=>(N.lt b e).1
 have f:∀b,b<w.heap.size->¬GG G0 bx rv rs b->w'.heap[b]? =w.heap[b]? /\¬GG G0 bx (rv++[v]) (rs++[some R]) b:=fun b A V=>⟨m.block b A,fun z=>by
  rcases(K b).1 z with d|d
  ·exact V d
  have:=c b d;omega⟩
 have C:∀j u,fh rv rs j=some u->fh (rv++[v]) (rs++[some R]) j=some u:=fun j u h=>by
  unfold fh at h⊢;cases y:rs[j]? with
  |none=>simp[y]at h
  |some r=>
   have W:=(L7.1 y).1;rw[ME W,ME (by omega)];exact h
 have q:∀us ts,FT (en w G0 bx rv rs) us ts->FT (en w' G0 bx (rv++[v]) (rs++[some R])) us ts:=fun us ts S=>S.mono (E':=en w' G0 bx (rv++[v]) (rs++[some R])) m.size f (fun _ _ h=>h) C
 have s:=h.below.size;refine⟨⟨ak h.below m s,h.env0,h.g0,h.nb,by simp[a],fun i g G=>?_,fun j u X d k=>?_,⟨h.nodup.bb,fun j u X b d k n L=>?_,fun i j u t X Y b x d k n l o p=>?_⟩,fun b F=>?_⟩,q⟩
 ·obtain⟨ty,cs,us,d,k,n,l⟩:=h.box i g G;exact⟨ty,cs,us,d,k.below m k.lt,q _ _ n,l⟩
 ·rcases cS a j u X d k with⟨_,rfl,rfl⟩|⟨_,l,o⟩
  ·exact⟨xs,Ep N s,by rw[show GG G0 bx (rv++[u]) (rs++[some X])=(fun b=>GG G0 bx rv rs b\/u.ownBlock=some b)from funext fun b=>propext (K b)];exact O,B,Z⟩
  obtain⟨T,p,P,U,Q⟩:=h.row j u X l o;exact⟨T,dz p m,P.mono m.size f,U,fun g z=>(Q g z).of (m.block g (p.lt g z).2)⟩
 ·rcases cS a j u X d k with⟨_,rfl,_⟩|⟨_,l,o⟩
  ·have I:=c b n;have J:=(h.ok b (.inr (aX.2 (.inl L)))).1;omega
  exact h.nodup.br j u X b l o n L
 ·rcases cS a i u X d k with⟨G,rfl,_⟩|⟨_,H,M⟩
  ·rcases cS a j t Y n l with⟨y,_,_⟩|⟨_,D,E⟩
   ·exact x (G.trans y.symm)
   have I:=c b o;have J:=(h.ok b (.inr (aX.2 (.inr ⟨j,t,Y,D,E,p⟩)))).1;omega
  rcases cS a j t Y n l with⟨_,rfl,_⟩|⟨_,D,E⟩
  ·have I:=c b p;have J:=(h.ok b (.inr (aX.2 (.inr ⟨i,u,X,H,M,o⟩)))).1;omega
  exact h.nodup.rr i j u t X Y b x H M D E o p
 rcases(m8 a b).1 F with d|d
 ·exact h.ge b d
 have:=c b d;omega
theorem vA{a:Act}{w':World}{bx:List Nat}{rv:List Value}{v:Value}{R:Row}{d:Nat}{S:St}(b:a.tmps.size=S.n)(e:a.defers=[])(h:cT S.n o.dst=true)(f:rv.length=S.rs.length)(j:Mem w0 G0 S.bs (S.rs++[some R]) bx (rv++[v]) w')(k:∃A n c,v=.slice A n c)(g:∀i,FT (en w' G0 bx (rv++[v]) (S.rs++[some R])) [a.tmps.getD i undef] [S.get i])(l:S.rs.length=d):
  Sim w0 G0 ({S with rs:=S.rs++[some R]}.put o.dst (.own d)) (a.put o.dst v) w':=by
 subst l;refine⟨bx,rv++[v],by rw[dC,ch];exact j,by rw[dB,eo];exact b,by rw[cH,e],fun i=>?_⟩;rw[ch];rw[ga a o.dst v S.n b h,dk];split
 ·obtain⟨A,n,c,rfl⟩:=k;refine .own _ n c A ?_ .nil;show fh (rv++[_]) (S.rs++[some R]) S.rs.length=_
  unfold fh;rw[Mw (L5 _),M4,Mw (by omega),f,M4];rfl
 exact g i
theorem Br{t e:TypeId}{x y:Operand}{m sz b:Nat}{V:List Value}{Y kc:IntKind}{il ic:Int}{zt:Tree}(U:o.op=.makeSlice t x y)(hd:cT S.n o.dst=true)(ht:lM Tryz.prog t=some (e,sz,b))(L:gc Tryz.prog e=some V)(B:S.ev x=.sc (.int Y il))(hy:S.ev y=.sc (.int kc ic))(Q:il=m)(F:ic=m)(q:zt.cells=V.map dg)(hm:m<=1073741824)(M:Nat.ble b 100000=true):n5 w0 G0 o S ({S with rs:=S.rs++[some (⟨e,sz,List.replicate m zt,true⟩:Row)]}.put o.dst (.own S.rs.length)):=by
 rintro a w ⟨bx,rv,r,K,O,h⟩;have e1:=(bI (op:=o.op) (T:=fun s=>a.tmps.getD s undef) (S:=S) (fun s _=>h s) B (by rw[U];simp[Op.operands])).isSc;have e2:=(bI (op:=o.op) (T:=fun s=>a.tmps.getD s undef) (S:=S) (fun s _=>h s) hy (by rw[U];simp[Op.operands])).isSc;generalize (fun s=>a.tmps.getD s undef)=T at e1 e2⊢;obtain⟨D,⟨i,z,hi,k,G,I,H,E⟩,X⟩:=qQ ht;have J:V=z.cells.toList:=by
  unfold gc at L;simp only[Ot,Na]at L;obtain⟨i',p,z',f,rfl⟩:=L;rw[hi]at p;cases p;rw[k]at f;cases f;rfl
 subst Q F J H;have C:b<=100000:=by simpa using M
 have a0:m*b<=1073741824*100000:=NU hm C;have hr:=run_make (P:=Tryz.prog) w t e i z D hi k Y kc m m (by omega) (Int.le_refl _) (by
  rw[I];have:(b:Int)*(m:Int)=((m*b:Nat):Int):=by rw[Pw,Int.mul_comm]
  rw[this];omega) (by omega)
 rw[Oq,G]at hr;have d:=World.ownsRow_lit (base:=w.heap.size) (e:=e) (size:=z.cells.size) w (madeCells z.cells (m*z.cells.size)) m (L5 _) (by simp only[maxLen];omega) (size_madeCells _ _);rw[tX z.cells (by omega) m]at d;have hb:Below w.heap.size w (w.alloc (.cells (madeCells z.cells (m*z.cells.size)) e)):=(Below.refl _ _).alloc (L5 _) _;have W:∀g,(Value.slice (some ⟨w.heap.size,0,none⟩) m m).ownBlock=some g->NoDigB (w.alloc (.cells (madeCells z.cells (m*z.cells.size)) e)) g:=fun g N=>by
  injection N with N
  subst N;refine cI (heap_alloc_new w _) ?_;rw[tX z.cells (by omega) m];refine Mh.2 fun u D=>?_
  obtain⟨l,hl,j⟩:=List.mem_flatten.1 D;rw[(ON.1 hl).2]at j;exact Mh.1 E u j
 obtain⟨m1,m2⟩:=r.addRow (R:=⟨e,z.cells.size,List.replicate m zt,true⟩) (v:=.slice (some ⟨w.heap.size,0,none⟩) m m) hb (by rw[Ok];exact d) (Er _ _ q m) ⟨fun x B=>by
  rw[(ON.1 B).2,q,L8,M7],fun _ A n c e=>by cases e;rfl⟩ W
 refine aq (v:=.slice (some ⟨w.heap.size,0,none⟩) m m) (W':=w.alloc (.cells (madeCells z.cells (m*z.cells.size)) e)) ?_ (vA K O hd r.nr m1 ⟨_,_,_,Z⟩ (fun i=>m2 [_] [_] (h i)) Z);simp[execOp,U,e1,e2,hr]
end
def l4(k:Nat)(es:List Tree):Tree->Tree
 | .own j=>if j=k then .tl es else .own j
 | .elp j off=>if j=k then .any else .elp j off
 | .agg _| .tup _=>.any
 |t=>t
def CA(k:Nat)(es:List Tree):Tree->Tree
 | .agg cs=>.agg (cs.map (l4 k es))
 |t=>l4 k es t
section
variable {w0 w:World} {G0:Nat->Prop} {bs:List (TypeId×List Tree)} {rs:List (Option Row)} {bx:List Nat} {rv:List Value} {k:Nat} {R:Row} {v:Value}
theorem Eu(b:Mem w0 G0 bs rs bx rv w)(a:rs[k]? =some (some R))(e:R.tt=true)(h:fh rv rs k=some v):PT w (GG G0 bx rv (rs.set k none)) [v] [.tl R.es]:=by
 have d:=Bo b a h;have f:rv[k]? =some v:=by simpa[fh,a]using h
 obtain⟨xs,g,_,i,_⟩:=b.row k v R f a;obtain⟨A,c,rfl⟩:=cc g;have:=i.2 e A _ c Z;subst this;exact .tl A _ R.es Z d .nil
theorem wU(a:Mem w0 G0 bs rs bx rv w)(d:rs[k]? =some (some R))(f:R.tt=true){u:Value}{t:Tree}(h:FT (en w G0 bx rv rs) [u] [t]):FT (en w G0 bx rv (rs.set k none)) [u] [l4 k R.es t]:=by
 cases h with
 |pure h _=>
  cases t<;>first
   |exact .pure (h.mono (L5 _) l3) .nil
   |(simp only[l4];exact .any _ .nil)
   |(cases h)
 |any=>exact .any _ .nil
 |box b off g h _=>exact .box b off g h .nil
 |own j n c A hv _=>
  simp only[l4];split
  ·next e=>subst e;exact .pure (Eu a d f hv) .nil
  next e=>exact .own j n c A (vw j _ e hv) .nil
 |elp j off g n c hv _=>
  simp only[l4];split
  ·exact .any _ .nil
  next e=>exact .elp j off g n c (vw j _ e hv) .nil
 |agg=>exact .any _ .nil
 |tup=>exact .any _ .nil
theorem py(a:Mem w0 G0 bs rs bx rv w)(b:rs[k]? =some (some R))(c:R.tt=true):∀{us:List Value} {ts:List Tree},FT (en w G0 bx rv rs) us ts->FT (en w G0 bx rv (rs.set k none)) us (ts.map (l4 k R.es))
 |[],[],_=>.nil
 |[],_::_,h=>by cases h
 |_::_,[],h=>by cases h
 |u::us,t::ts,h=>FT.cons (wU a b c h.head) (py a b c h.tail)
theorem GM(b:Mem w0 G0 bs rs bx rv w)(c:rs[k]? =some (some R))(a:R.tt=true){u:Value}{t:Tree}(h:FT (en w G0 bx rv rs) [u] [t]):FT (en w G0 bx rv (rs.set k none)) [u] [CA k R.es t]:=by
 cases t with
 |agg cs=>
  obtain⟨xs,rfl,d⟩:=h.isAgg;exact .agg xs _ (py b c a d) .nil
 |_=>exact wU b c a h
end
section
variable {w0:World} {G0:Nat->Prop} {ops:Array Oper} {rest:List Oper} {Q:Exit->St->Prop} {o:Oper} {n:Nat} {sl:List (Nat×Tree)} {bs:List (TypeId×List Tree)} {rs:List (Option Row)} {S:St}
theorem Sim.relU{a:Act}{w:World}{k:Nat}{R:Row}(h:Sim w0 G0 ⟨n,sl,bs,rs⟩ a w)(s:rs[k]? =some (some R))(r:R.tt=true):Sim w0 G0 ⟨n,sl.map fun p=>(p.1,CA k R.es p.2),bs.map fun p=>(p.1,p.2.map (l4 k R.es)),rs.set k none⟩ a w:=by
 obtain⟨bx,rv,c,y,m,o⟩:=h;refine⟨bx,rv,⟨c.below,c.env0,c.g0,by simp[c.nb],by simp[c.nr],fun i g A=>?_,fun j u X d e=>?_,⟨c.nodup.bb,fun j u X b d e=>c.nodup.br j u X b d (iv j X e).2,fun i j u v X Y b q d e f l=>c.nodup.rr i j u v X Y b q d (iv i X e).2 f (iv j Y l).2⟩,fun b t=>c.ge b (nt t)⟩,y,m,fun i=>?_⟩
 ·obtain⟨ty,cs,us,d,e,f,l⟩:=c.box i g A;exact⟨ty,cs.map (l4 k R.es),us,by rw[MQ,d];rfl,e,py c s r f,l⟩
 ·obtain⟨xs,f,l,z,x⟩:=c.row j u X d (iv j X e).2;exact⟨xs,f,l.mono (L5 _) l3,z,x⟩
 show FT _ _ [look (sl.map fun p=>(p.1,CA k R.es p.2)) i]
 rw[jp (CA k R.es) Z];exact GM c s r (o i)
theorem Ev{c:Code}(k:Nat){R:Row}{sl':List (Nat×Tree)}{bs':List (TypeId×List Tree)}{rs':List (Option Row)}(g:rs[k]? =some (some R))(f:R.tt=true)(d:sl.map (fun p=>(p.1,CA k R.es p.2))=sl')(b:bs.map (fun p=>(p.1,p.2.map (l4 k R.es)))=bs')(e:rs.set k none=rs')(h:AWP w0 G0 c Q ⟨n,sl',bs',rs'⟩):AWP w0 G0 c Q ⟨n,sl,bs,rs⟩:=by
 subst d b e;exact fun a w i=>h a w (i.relU g f)
end
def rL(m:Nat):Tree->Tree
 | .box b off=>if b=m then .box (m+1) off else if b=m+1 then .box m off else .box b off
 | .agg _| .tup _=>.any
 |t=>t
def IU(m:Nat):Tree->Tree
 | .agg cs=>.agg (cs.map (rL m))
 |t=>rL m t
section
variable {w0 w:World} {G0:Nat->Prop} {bs:List (TypeId×List Tree)} {rs:List (Option Row)} {bx:List Nat} {rv:List Value} {g1 g2:Nat}
theorem IV{α:Type}{l:List α}{x y z:α}{i m:Nat}(d:l.length=m)(h:(l++[x,y])[i]? =some z):(i=m/\z=x)\/(i=m+1/\z=y)\/(i<m/\l[i]? =some z):=by
 subst d;rcases MI i l.length with a|a
 ·rw[ME a]at h;exact .inr (.inr ⟨a,h⟩)
 rw[Mw a]at h;have c:=(L7.1 h).1;simp only[Mb,Mo]at c;have:i-l.length=0\/i-l.length=1:=by omega
 rcases this with b|b<;>rw[b]at h<;>simp at h
 ·exact .inl ⟨by omega,h.symm⟩
 exact .inr (.inl ⟨by omega,h.symm⟩)
theorem Ew{α:Type}{l:List α}{x y z:α}{i m:Nat}(b:l.length=m)(h:(l++[x,y])[i]? =some z):(l++[y,x])[if i=m then m+1 else if i=m+1 then m else i]? =some z:=by
 rcases IV b h with⟨rfl,rfl⟩|⟨rfl,rfl⟩|⟨c,a⟩
 ·rw[if_pos Z,Mw (by omega),show i+1-l.length=1 by omega];rfl
 ·rw[if_neg (by omega),if_pos Z,Mw (by omega),show m-l.length=0 by omega];rfl
 rw[if_neg (by omega),if_neg (by omega),ME (by omega)];exact a
theorem pz(b:Nat):b∈cq (bx++[g2,g1]) rv rs↔b∈cq (bx++[g1,g2]) rv rs:=by
 rw[aX,aX];refine or_congr ?_ OU;simp only[My,Mi,N0,or_false];constructor<;>(rintro(h|h|h)<;>simp[h])
theorem Ex{m:Nat}(i:bx.length=m){u:Value}{t:Tree}(h:FT (en w G0 (bx++[g1,g2]) rv rs) [u] [t]):FT (en w G0 (bx++[g2,g1]) rv rs) [u] [rL m t]:=by
 have k:GG G0 (bx++[g2,g1]) rv rs=GG G0 (bx++[g1,g2]) rv rs:=funext fun b=>propext (or_congr OU (pz b))
 cases h with
 |pure h _=>
  have f:PT (en w G0 (bx++[g2,g1]) rv rs).W (en w G0 (bx++[g2,g1]) rv rs).G [u] [t]:=by
   show PT w (GG G0 (bx++[g2,g1]) rv rs) [u] [t]
   rw[k];exact h
  cases t<;>first
   |exact .pure f .nil
   |(simp only[rL];exact .any _ .nil)
   |(cases h)
 |any=>exact .any _ .nil
 |box b off g h _=>
  have h:(bx++[g1,g2])[b]? =some g:=h;have a:=Ew i h;simp only[rL];by_cases d:b=m
  ·rw[if_pos d]at a⊢;exact .box _ off g a .nil
  by_cases e:b=m+1
  ·rw[if_neg d,if_pos e]at a⊢;exact .box _ off g a .nil
  rw[if_neg d,if_neg e]at a⊢;exact .box _ off g a .nil
 |own j n c A hv _=>exact .own j n c A hv .nil
 |elp j off g n c hv _=>exact .elp j off g n c hv .nil
 |agg=>exact .any _ .nil
 |tup=>exact .any _ .nil
theorem vB{m:Nat}(a:bx.length=m):∀{us:List Value} {ts:List Tree},FT (en w G0 (bx++[g1,g2]) rv rs) us ts->FT (en w G0 (bx++[g2,g1]) rv rs) us (ts.map (rL m))
 |[],[],_=>.nil
 |[],_::_,h=>by cases h
 |_::_,[],h=>by cases h
 |u::us,t::ts,h=>FT.cons (Ex a h.head) (vB a h.tail)
theorem J9{m:Nat}(a:bx.length=m){u:Value}{t:Tree}(h:FT (en w G0 (bx++[g1,g2]) rv rs) [u] [t]):FT (en w G0 (bx++[g2,g1]) rv rs) [u] [IU m t]:=by
 cases t with
 |agg cs=>
  obtain⟨xs,rfl,b⟩:=h.isAgg;exact .agg xs _ (vB a b) .nil
 |_=>exact Ex a h
theorem IW{S S':St}{a:Act}{m:Nat}{p:List (TypeId×List Tree)}{x y:TypeId×List Tree}(h:Sim w0 G0 S a w)(C:p.length=m)(J:S.bs=p++[x,y])(M:S'.n=S.n)(r:S'.bs=(p++[y,x]).map fun q=>(q.1,q.2.map (rL m)))(j:S'.rs=S.rs)(L:∀s,S'.get s=IU m (S.get s)):Sim w0 G0 S' a w:=by
 obtain⟨bx,rv,c,D,I,B⟩:=h;have N:bx.length=m+2:=by rw[c.nb,J];simp[C]
 obtain⟨l,g1,g2,rfl,z⟩:∃l g1 g2,bx=l++[g1,g2]/\l.length=m:=by
  refine⟨bx.take m,bx[m],bx[m+1],?_,by simp;omega⟩;conv=>lhs;rw[<-M8 m bx]
  congr 1;rw[Md (by omega),Md (by omega),Mg (by omega)]
 refine⟨l++[g2,g1],rv,⟨c.below,c.env0,c.g0,by rw[r];simp[z,C],by rw[j];exact c.nr,fun i g O=>?_,fun k v R F t=>?_,⟨?_,fun k v R b F t d f=>?_,by rw[j];exact c.nodup.rr⟩,fun b d=>?_⟩,by rw[M];exact D,I,fun i=>?_⟩
 ·obtain⟨ty,cs,us,A,G,E,H⟩:=c.box _ g (Ew z O);rw[J]at A;have K:=Ew C A;have e:(if(if i=m then m+1 else if i=m+1 then m else i)=m then m+1 else if(if i=m then m+1 else if i=m+1 then m else i)=m+1 then m else(if i=m then m+1 else if i=m+1 then m else i))=i:=by
   by_cases o:i=m
   ·rw[if_pos o,if_neg (by omega),if_pos Z,o]
   by_cases u:i=m+1
   ·rw[if_neg o,if_pos u,if_pos Z,u]
   rw[if_neg o,if_neg u,if_neg o,if_neg u]
  rw[e]at K;refine⟨ty,cs.map (rL m),us,by rw[r,MQ,K];rfl,G,?_,H⟩;rw[j];exact vB z E
 ·rw[j]at t;obtain⟨xs,A,G,E,H⟩:=c.row k v R F t;refine⟨xs,A,?_,E,H⟩;rw[j,show GG G0 (l++[g2,g1]) rv S.rs=GG G0 (l++[g1,g2]) rv S.rs from funext fun b=>propext (or_congr OU (pz b))];exact G
 ·have:=c.nodup.bb;refine this.perm<|List.Perm.append_left l (List.Perm.swap g2 g1 [])
 ·rw[j]at t;refine c.nodup.br k v R b F t d ?_;simp only[My,Mi,N0,or_false]at f⊢;rcases f with h|h|h
  ·exact .inl h
  ·exact .inr (.inr h)
  exact .inr (.inl h)
 ·rw[j]at d;exact c.ge b ((pz b).1 d)
 rw[j,L];exact J9 z (B i)
end
theorem zb{o:Oper}{n d b:Nat}{sl:List (Nat×Tree)}{p bs':List (TypeId×List Tree)}{y:TypeId×List Tree}{rs:List (Option Row)}{ty:TypeId}{e:List Value}{cs:List Tree}(m:o.op=.alloc ty)(g:o.dst=some d)(x:Nat.blt d n=true)(z:gc Tryz.prog ty=some e)(r:e.all bL=true)(k:e.map dg=cs)(l:p.length=b)(c:((p++[(ty,cs),y]).map fun q=>(q.1,q.2.map (rL b)))=bs'):wS o ⟨n,sl,p++[y],rs⟩ (IU b) (.box b 0) bs' rs:=by
 subst k l c;intro w0 G0 S j f i t;dsimp only at j f i;have c:S.bs++[(ty,e.map dg)]=p++[y,(ty,e.map dg)]:=by rw[f];simp
 refine⟨⟨S.n,(d,.box p.length 0)::S.sl.map (fun q=>(q.1,IU p.length q.2)),(p++[(ty,e.map dg),y]).map fun q=>(q.1,q.2.map (rL p.length)),S.rs⟩,?_,Z,Z,i,fun s=>?_⟩
 ·intro a w u;refine OpRuns.mono (rD (S:=S) m (by rw[g,j];simpa[cT,Nn]using x) z r a w u) fun v W h=>?_
  refine IW h Z (by rw[dC];exact c) (by rw[eo]) Z (by rw[ch]) fun s=>?_
  rw[dk,g];show look ((d,Tree.box p.length 0)::_) s=_
  rw[cV,jp _ Z];simp only[MN];split
  ·have:S.bs.length=p.length+1:=by rw[f];simp
   show _=IU _ (Tree.box S.bs.length 0)
   rw[this];simp[IU,rL]
  rfl
 show look ((d,Tree.box p.length 0)::_) s=_
 rw[cV,jp _ Z,g];simp only[MN];rfl
section
variable {w0:World} {G0:Nat->Prop} {S:St} {o:Oper}
theorem p9{W:World}{G:Nat->Prop}:∀{l:List UInt8} {xs:List Value},PT W G xs (bg l)->xs=bH l
 |[],xs,h=>by cases h;rfl
 |_::l,xs,h=>by
  cases h with
  |sc v h=>rw[p9 (l:=l) h];rfl
theorem CB{W:World}{G:Nat->Prop}{v:Value}{l:List UInt8}(h:PT W G [v] [.sl (bg l)]):∃A c,v=.slice A l.length c/\At W W.heap.size A (bH l):=by
 obtain⟨A,c,d,i,k,m,e⟩:=PT.slice h;rw[a7]at d i e;refine⟨A,c,d,fun j=>?_⟩;obtain⟨b,off,xs,rfl,g,_,f,a⟩:=e (by rwa[eO]at j);rw[kW]at a;rw[<-p9 a];exact⟨b,off,Z,g,f⟩
theorem pA{x:Operand}{l:List UInt8}(a:o.op=.convert 22 9 x)(d:S.ev x=.sl (bg l)):OpOK o S (.sc (.string ⟨l.toArray⟩)):=by
 intro w0 G0 bx rv w T h e;obtain⟨A,c,f,g⟩:=CB (bI e d (by rw[a];simp[Op.operands])).isSl;refine aq (v:=.string ⟨l.toArray⟩) (W':=w) ?_ ⟨.pure (.sc _ .nil) .nil,Below.refl _ _⟩;have b:=qO c g;simp only[en]at b;simp[execOp,a,f,b]
theorem ze{x y:Operand}{t u e:TypeId}{k:Nat}{R:Row}{s:ByteArray}(K:o.op=.call {callee:=.builtin .append,args:=#[x,y],argTypes:=#[t,u]})(hd:cT S.n o.dst=true)(Z:lM Tryz.prog t=some (R.e,R.sz,1))(U:(Tryz.prog.info? R.e).bind (·.zero)=some (.int .u8 0))(hu:Tryz.prog.underlying u=some .string)(Y:S.ev x=.own k)(M:S.rs[k]? =some (some R))(hy:S.ev y=sT s)(J:R.sz=1)(h3:R.es.length+s.size<=1073741824):
  n5 w0 G0 o S ({S.kill k with rs:=S.rs.set k (some (⟨R.e,R.sz,R.es++bg s.data.toList,false⟩:Row))}.put o.dst (.own k)):=by
 rintro a w ⟨bx,rv,G,E,I,d⟩;have Q:=bI (op:=o.op) (T:=fun s=>a.tmps.getD s undef) (S:=S) (fun s _=>d s) Y (by rw[K];simp[Op.operands,Call.operands]);have V:=(bI (op:=o.op) (T:=fun s=>a.tmps.getD s undef) (S:=S) (fun s _=>d s) hy (by rw[K];simp[Op.operands,Call.operands])).isSc;generalize (fun s=>a.tmps.getD s undef)=T at Q V⊢;obtain⟨W,xs,b,C,B,N⟩:=jn G M Q;obtain⟨L,⟨i,z,X,r,p,H,a1,a0⟩,O⟩:=qQ Z;have D:z=.int .u8 0:=by
  rw[X,Nc,r]at U;exact Nt U
 subst D;rw[J]at b p;obtain⟨v',w',hr,F,f,q,m⟩:=Ea (P:=Tryz.prog) w w0.heap.size t u o.type R.e i L hu X r p H (cA T x) R.es.length xs b s (by omega) G.below.size N;refine aq (v:=v') (W':=w') ?_ (wJ (R':=⟨R.e,R.sz,R.es++bg s.data.toList,false⟩) (xs:=xs++bH s.data.toList) G E I d hd W M f q (by
  show w'.ownsRow _ _ R.sz _ (R.es++bg s.data.toList).length _
  rw[Mc,a7,J,show s.data.toList.length=s.size by simp];exact F) ?_ ⟨B.1.append (by rw[J];exact lU _),fun h=>by cases h⟩ m)
 ·simp only[execOp,K,resolve,invoke,builtin,Sem.run_bind,Sem.run_pure,Result.andThen_ok,Nf,MX,ND,V,hr]
 have j:=n8 (G0:=G0) (bx:=bx) (w:=w) (w':=w') (v':=v') (R':=⟨R.e,R.sz,R.es++bg s.data.toList,false⟩) W M f (fun g A=>by
  rcases q with h|h
  ·exact .inl (h▸A)
  rw[h]at A;injection A with A;exact .inr (by omega))
 rw[iF,kW];refine(C.mono f.size j).append ?_;have:∀l:List UInt8,PT w' (GG G0 bx (rv.set k v') (S.rs.set k (some ⟨R.e,R.sz,R.es++bg s.data.toList,false⟩))) (bH l) (bg l):=fun l=>by
  induction l with
  |nil=>exact .nil
  |cons c l ih=>exact .sc _ ih
 exact this _
theorem j6{ops:Array Oper}{a:List Oper}{Q:Exit->St->Prop}{n d k:Nat}{sl sl':List (Nat×Tree)}{bs bs':List (TypeId×List Tree)}{rs rs':List (Option Row)}{x y:Operand}{t u:TypeId}{R:Row}{s:ByteArray}(l:o.op=.call {callee:=.builtin .append,args:=#[x,y],argTypes:=#[t,u]})(w:o.guard=none)(g:o.dst=some d)(q:Nat.blt d n=true)(j:lM Tryz.prog t=some (R.e,R.sz,1))(A:(Tryz.prog.info? R.e).bind (·.zero)=some (.int .u8 0))(m:Tryz.prog.underlying u=some .string)(h:St.ev ⟨n,sl,bs,rs⟩ x=.own k)(r:rs[k]? =some (some R))(v:St.ev ⟨n,sl,bs,rs⟩ y=sT s)(i:R.sz=1)(z:R.es.length+s.size<=1073741824)(c:sl.map (fun p=>(p.1,lI k p.2))=sl')(b:bs.map (fun p=>(p.1,p.2.map (gZ k)))=bs')(f:rs.set k (some ⟨R.e,R.sz,R.es++bg s.data.toList,false⟩)=rs')
  (K:AOps w0 G0 ops a Q ⟨n,(d,.own k)::sl',bs',rs'⟩):AOps w0 G0 ops (o::a) Q ⟨n,sl,bs,rs⟩:=by
 subst c b f;refine eD w (ze (S:=⟨n,sl,bs,rs⟩) (e:=t) l (by rw[g];simpa[cT,Nn]using q) j A m h r v i z) ?_;rw[g];exact K
theorem CC{ty:TypeId}{h:List Value}(k:o.op=.alloc ty)(p:cT S.n o.dst=true)(c:gc Tryz.prog ty=some h)(m:h.all bL=true):n5 w0 G0 o S ({S with bs:=S.bs++[(ty,h.map Tree.sc)]}.put o.dst (.box S.bs.length 0)):=by
 rintro a w ⟨bx,rv,j,b,d,e⟩;unfold gc at c;simp only[Ot,Na]at c;obtain⟨i,l,z,c,rfl⟩:=c;have f:=j.addBox (ty:=ty) (us:=z.cells.toList) (cs:=z.cells.toList.map Tree.sc) (.of (Ei _ _ _)) m;refine aq (v:=.pointer (some ⟨w.heap.size,0,none⟩)) (W':=w.alloc (.cells z.cells ty)) ?_ ⟨bx++[w.heap.size],rv,?_,by rw[dB,eo,b],by rw[cH,d],?_⟩
 ·have g:(zeroValue ty).run Tryz.prog w=.ok z w:=by simp[zeroValue,typeInfo,l,c]
  simp[execOp,k,Instr.alloc,newVar,newRow,newObj,Sem.run,g]
 ·rw[dC,ch];simpa using f
 rw[ch];intro i;rw[ga a o.dst _ S.n b p,dk];split
 ·exact .box _ _ _ (by show(bx++[w.heap.size])[S.bs.length]? =_;rw[<-j.nb];simp) .nil
 exact kg _ (e i)
theorem vC{ops:Array Oper}{a:List Oper}{Q:Exit->St->Prop}{n d b:Nat}{sl:List (Nat×Tree)}{bs bs':List (TypeId×List Tree)}{rs:List (Option Row)}{ty:TypeId}{e:List Value}{cs:List Tree}(i:o.op=.alloc ty)(l:o.guard=none)(f:o.dst=some d)(m:Nat.blt d n=true)(p:gc Tryz.prog ty=some e)(j:e.all bL=true)(g:e.map Tree.sc=cs)(h:bs.length=b)(c:bs++[(ty,cs)]=bs')
  (k:AOps w0 G0 ops a Q ⟨n,(d,.box b 0)::sl,bs',rs⟩):AOps w0 G0 ops (o::a) Q ⟨n,sl,bs,rs⟩:=by
 subst g h c;refine eD l (CC (S:=⟨n,sl,bs,rs⟩) i (by rw[f];simpa[cT,Nn]using m) p j) ?_;rw[f];exact k
end
def CtE(f:FuncId)(args:List Tree)(P:Tree->Prop):Prop:=(∃fn,Tryz.prog.funcs[f]? =some fn/\(fn.name== "runtime.NumGoroutine")=false/\fn.body.isNone=false)/\∀(G:Nat->Prop) (w:World) (vs:List Value),Env w->(∀g,G g->g<w.heap.size/\NoDigB w g)->PT w G vs args->
 Calls Tryz.prog f vs.toArray w fun e w'=>∃v r,P r/\e=.returned v/\PT w' G [v] [r]/\Below w.heap.size w w'
def Lv(o:Oper)(S:St)(P:Tree->Prop):Prop:=∀(w0:World) (G0:Nat->Prop) (bx:List Nat) (rv:List Value) (w:World) (T:Nat->Value),Mem w0 G0 S.bs S.rs bx rv w->
 (∀s,(dN o.op).contains s=true->FT (en w G0 bx rv S.rs) [T s] [S.get s])->OpRuns Tryz.prog o T w fun v w'=>∃t,P t/\FT (en w' G0 bx rv S.rs) [v] [t]/\Below w.heap.size w w'
section
variable {w0:World} {G0:Nat->Prop} {ops:Array Oper} {rest:List Oper} {Q:Exit->St->Prop} {o:Oper} {n:Nat} {sl:List (Nat×Tree)} {bs:List (TypeId×List Tree)} {rs:List (Option Row)} {S:St}
theorem kk{f:FuncId}{xs:Array Operand}{a:Array TypeId}{ts:List Tree}{P:Tree->Prop}(j:o.op=.call {callee:=.value (.func f),args:=xs,argTypes:=a})(b:CtE f ts P)(m:xs.toList.map S.ev=ts)(p:ts.all Tree.plain=true):Lv o S P:=by
 intro w0 G0 bx rv w T h n;have d:=n3 (S:=S) n xs.toList (fun x k=>by rw[j];simp only[Op.operands,Call.operands];simp;exact .inr (by simpa using k));rw[m]at d;obtain⟨⟨i,z,y,g⟩,b⟩:=b;have c:=b (GG G0 bx rv S.rs) w _ h.env h.ok (d.plains p);refine bJ (f:=f) (args:=(xs.toList.map (cA T)).toArray) ?_ (c.mono ?_)
 ·have q:¬i.name= "runtime.NumGoroutine" :=by simpa using y
  have s:¬i.body=none:=fun e=>by rw[e]at g;cases g
  have A:(xs.toList.map (cA T)).toArray=xs.map (cA T):=OW (by simp);rw[A];simp[execOp,j,resolve,cA,Deferred.ofValue,invoke,callFunc,z,q,s]
 rintro e w' ⟨v,r,t,rfl,u,l⟩;exact⟨v,Z,r,t,.pure u .nil,l⟩
theorem jP{d:Nat}(P:Tree->Prop)(u:o.guard=none)(m:o.dst=some d)(y:Nat.blt d n=true)(h:Lv o ⟨n,sl,bs,rs⟩ P)(k:∀t,P t->AOps w0 G0 ops rest Q ⟨n,(d,t)::sl,bs,rs⟩):AOps w0 G0 ops (o::rest) Q ⟨n,sl,bs,rs⟩:=by
 rintro a w ⟨bx,rv,j,c,e,b⟩;have p:=h w0 G0 bx rv w (fun s=>a.tmps.getD s undef) j fun s _=>b s
 have f:cT n o.dst=true:=by rw[m];simpa[cT,Nn]using y
 refine ec (by simp[Region.wanted,u]) fun K q=>?_
 refine Oper.wp_mono ?_ (p.wp (Q:=yW w0 G0 Q));rintro z w' ⟨v,rfl,t,x,r,g⟩;refine q _ _ (k t x _ _ ⟨bx,rv,j.later g,by rw[dB];exact c,by rw[cH,e],?_⟩);have:=gY (S:=⟨n,sl,bs,rs⟩) (o:=o) (t:=t) (rs:=rs) (w':=w') c f (fun _ _ h=>h.later g) b r;intro i;have l:=this i;rw[m]at l⊢;exact l
theorem CtE.of{f:FuncId}{d:Func}{c:Code}{args:List Tree}{P:Tree->Prop}{n:Nat}{p:List ResultVar}(J:Tryz.prog.funcs[f]? =some d)(q:d.body=some c)(z:(d.name== "runtime.NumGoroutine")=false)(Y:d.ntmps=n)(L:Nat.ble args.length n=true)(O:d.results.toList=p)
  (h:∀w0 G0,AWP w0 G0 c (fun e S=>∃r,P r/\J3 p r e S) ⟨n,j5 0 args,[],[]⟩):CtE f args P:=by
 refine⟨⟨d,J,z,by rw[q];rfl⟩,fun G w vs N U I=>?_⟩;have H:=I.length;have L:args.length<=n:=by simpa using L
 refine calls_of_wp J q (wp_mono (h w G _ w ⟨[],[],⟨Below.refl _ _,N,U,Z,Z,fun i g E=>by simp at E,fun k v R o=>by simp at o,⟨Pb,fun k v R b o=>by simp at o,fun j k u v X R b _ o=>by simp at o⟩,fun b q=>by simp[cq]at q⟩,?_,Z,fun i=>?_⟩) ?_)
 ·simp;omega
 ·show FT _ _ [look (j5 0 args) i]
  rw[mB,if_pos (Mx _),O8];cases M:args[i]? with
  |none=>exact .any _ .nil
  |some t=>
   obtain⟨u,F,D⟩:=I.get i t M;have E:=(L7.1 F).1;have Q:(vs.toArray++Array.replicate (d.ntmps-vs.toArray.size) undef).getD i undef=u:=by
    rw[MV,Oz (by simpa using E),NV,F];rfl
   rw[Q];refine .pure (D.mono (L5 _) fun b _ l=>⟨Z,fun h=>?_⟩) .nil;rcases h with h|h
   ·exact l h
   simp[cq]at h
 rintro e a w' ⟨S',⟨r,T,W,ts,B,rfl,C⟩,bx,rv,K,_,A,y⟩;obtain⟨us,m,s⟩:=jK K y (O▸B);have key:a.defers=[]/\∃v,(results d a.tmps).run Tryz.prog w'=.ok v w'/\(fun e w'=>∃v r,P r/\e=Ending.returned v/\PT w' G [v] [r]/\Below w.heap.size w w') (.returned v) w':=by
  refine⟨A,if h:us.toArray.size=1 then us.toArray[0]else .tuple us.toArray,?_,_,mA ts,T,Z,?_,K.below⟩
  ·unfold results;rw[Sem.run_bind,Ol,Sem.run_map];exact congrArg (fun x:Result (List Value)=>(x.andThen fun a w'=>Result.ok a.toArray w').andThen fun a w'=>Sem.run Tryz.prog (pure (if h:a.size=1 then a[0]else Value.tuple a)) w') m
  have V:FT (en w' G bx rv S'.rs) [if h:us.toArray.size=1 then us.toArray[0]else .tuple us.toArray] [mA ts]:=by
   match us,ts,s with
   |[],[],_=>exact .tup [] [] .nil .nil
   |[u],[t],h=>exact h
   |u::u'::us,t::t'::ts,h=>
    rw[dif_neg (by simp)];exact .tup _ _ h .nil
  exact(V.plain C).mono (L5 _) fun b _ l=>⟨Z,fun h=>l (.inl h)⟩
 rcases W with rfl|rfl
 ·exact key
 exact key
end
theorem mF{x y:Operand}(a b:Nat)(c:0<b)(w:World):(do eqGuard .rem 3 x y (.int .i64 (a:Nat)) (.int .i64 (b:Nat));binOp .rem 3 (.int .i64 (a:Nat)) (.int .i64 (b:Nat)):Sem Value).run Tryz.prog w=.ok (.int .i64 ((a%b:Nat):Int)) w:=by
 go_simp;rw[if_neg (by omega),OA (by omega)]
theorem Bs{x y:Operand}(a b:Nat)(d:0<b)(c:a<9223372036854775808)(w:World):(do eqGuard .quo 3 x y (.int .i64 (a:Nat)) (.int .i64 (b:Nat));binOp .quo 3 (.int .i64 (a:Nat)) (.int .i64 (b:Nat)):Sem Value).run Tryz.prog w=.ok (.int .i64 ((a/b:Nat):Int)) w:=by
 have key:IntKind.i64.wrap ((a:Int)/(b:Int))=((a/b:Nat):Int):=by
  have e:a/b<=a:=NY a b;rw[show((a:Int)/(b:Int))=((a/b:Nat):Int) by simp,Ns];generalize a/b=q at*;omega
 clear c;go_simp;omega
theorem CD(n:Int):bits .and .i64 n 65535=n%65536:=by
 have a:(BitVec.ofInt 64 65535).toNat=2^16-1:=by decide
 have key:(BitVec.ofInt 64 n&&& BitVec.ofInt 64 65535).toNat=(n%((2^64:Nat):Int)).toNat%2^16:=by
  rw[BitVec.toNat_and,BitVec.toNat_ofInt,a,On]
 show IntKind.i64.wrap ((BitVec.ofInt 64 n&&& BitVec.ofInt 64 65535).toNat:Nat)=n%65536
 rw[key,Ns];omega
theorem Ey(n:Int):bits .and .i64 n 7=n%8:=by
 have a:(BitVec.ofInt 64 7).toNat=2^3-1:=by decide
 have key:(BitVec.ofInt 64 n&&& BitVec.ofInt 64 7).toNat=(n%((2^64:Nat):Int)).toNat%2^3:=by
  rw[BitVec.toNat_and,BitVec.toNat_ofInt,a,On]
 show IntKind.i64.wrap ((BitVec.ofInt 64 n&&& BitVec.ofInt 64 7).toNat:Nat)=n%8
 rw[key,Ns];omega
theorem tY{x y:Operand}(a:Int)(w:World):(do eqGuard .and 3 x y (.int .i64 a) (.int .i64 65535);binOp .and 3 (.int .i64 a) (.int .i64 65535):Sem Value).run Tryz.prog w=.ok (.int .i64 (((a%65536).toNat:Nat):Int)) w:=by
 have key:bits .and .i64 a 65535=(((a%65536).toNat:Nat):Int):=by rw[CD];omega
 go_simp
theorem wV{x y:Operand}(a:Nat)(w:World):(do eqGuard .and 3 x y (.int .i64 (a:Nat)) (.int .i64 7);binOp .and 3 (.int .i64 (a:Nat)) (.int .i64 7):Sem Value).run Tryz.prog w=.ok (.int .i64 ((a%8:Nat):Int)) w:=by
 have key:bits .and .i64 (a:Int) 7=((a%8:Nat):Int):=by rw[Ey];omega
 go_simp
theorem iW{x y:Operand}(a k:Nat)(b:k<64)(w:World):(do eqGuard .shr 3 x y (.int .i64 (a:Nat)) (.int .u64 (k:Nat));binOp .shr 3 (.int .i64 (a:Nat)) (.int .u64 (k:Nat)):Sem Value).run Tryz.prog w=.ok (.int .i64 ((a/2^k:Nat):Int)) w:=by
 simp[eqGuard,binOp]
theorem Bt{o:Oper}{n d k:Nat}{sl:List (Nat×Tree)}{bs:List (TypeId×List Tree)}{rs rs':List (Option Row)}{t e:TypeId}{x y:Operand}{m sz a:Nat}{z:List Value}{C H:IntKind}{w v:Int}{zt:Tree}(p:o.op=.makeSlice t x y)(J:o.dst=some d)(G:Nat.blt d n=true)(B:lM Tryz.prog t=some (e,sz,a))(D:gc Tryz.prog e=some z)(A:St.ev ⟨n,sl,bs,rs⟩ x=.sc (.int C w))(I:St.ev ⟨n,sl,bs,rs⟩ y=.sc (.int H v))(l:w=m)(g:v=m)(i:zt.cells=z.map dg)(F:m<=1073741824)(j:Nat.ble a 100000=true)(E:rs.length=k)(f:rs++[some ⟨e,sz,List.replicate m zt,true⟩]=rs'):wS o ⟨n,sl,bs,rs⟩ id (.own k) bs rs':=by
 subst E f;intro w0 G0 S r u q b;dsimp only at r u q;have c:=og b (by rw[p];simp[Op.operands]) A (by simp);have h:=og b (by rw[p];simp[Op.operands]) I (by simp);refine⟨_,Br (S:=S) p (by rw[J,r];simpa[cT,Nn]using G) B D c h l g i F j,by rw[eo],by rw[dC,u],by rw[ch];dsimp only;rw[q],fun s=>?_⟩;rw[dk,q];rfl
theorem l6{o:Oper}{n:Nat}{sl:List (Nat×Tree)}{bs:List (TypeId×List Tree)}{rs rs':List (Option Row)}{ty:TypeId}{x y:Operand}{k off j:Nat}{R:Row}{t:Tree}(h:o.op=.store ty x y)(a:o.dst=none)(p:St.ev ⟨n,sl,bs,rs⟩ x=.elp k off)(C:rs[k]? =some (some R))(c:off=j*R.sz)(w:j<R.es.length)(q:St.ev ⟨n,sl,bs,rs⟩ y=t)(m:t.oneA=true)(z:t.cells.all Tree.one=true)(v:t.cells.all Tree.noDig=true)(r:t.cells.all Tree.plain0=true)(A:(Tryz.prog.info? ty).map (·.size)=some R.sz)(B:t.cells.length=R.sz)(f:rs.set k (some ⟨R.e,R.sz,R.es.set j t,R.tt⟩)=rs'):wS o ⟨n,sl,bs,rs⟩ id .any bs rs':=by
 subst f;intro w0 G0 S u l i b;dsimp only at u l i;have d:=og b (by rw[h];simp[Op.operands]) p (by simp);have g:=og b (by rw[h];simp[Op.operands]) q (by rintro rfl;simp[Tree.oneA,Tree.one]at m);refine⟨_,oi (S:=S) h a d (by rw[i];exact C) c w g m z v r A B,Z,l,by dsimp only;rw[i],fun s=>?_⟩;rw[a,if_neg (by simp)];rfl
end Go.Proofs.YtfoejfohbkmmeaaGreatDoor
