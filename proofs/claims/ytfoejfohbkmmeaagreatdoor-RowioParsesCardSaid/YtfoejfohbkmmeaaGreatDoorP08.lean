import Derived.Test.YtfoejfohbkmmeaaGreatDoorP07
import Derived.Test.YtfoejfohbkmmeaaGreatDoorP00
import Derived.Test.YtfoejfohbkmmeaaGreatDoorP03
import Derived.Test.YtfoejfohbkmmeaaGreatDoorP06
namespace Go.Proofs.YtfoejfohbkmmeaaGreatDoor
open Go.RowKit
open Lib renaming hid→J
section
variable {w0:World} {G0:Bse} {S:St} {o:Oper}
theorem E2{n:Nat}{es:List Tree}(a:Sized n es){j:Nat}(b:j<es.length){t:Tree}(c:t.cells.length=n):flat (es.set j t)=(flat es).take (j*n)++t.cells++(flat es).drop (j*n+n):=by
 rw[Pl,if_pos b,iY,eN,mP a,kJ a,show(j+1)*n=j*n+n by rw[M5];omega,Mv]
theorem Sized.set{n:Nat}{es:List Tree}(c:Sized n es)(j:Nat){t:Tree}(b:t.cells.length=n):Sized n (es.set j t):=fun x a=>by
 rcases Ok a with h|rfl
 ·exact c x h
 exact b
theorem BQ{w:World}{bs:List (TypeId×List Tree)}{rs:List (Option Row)}{bx:List Nat}{rv:List Value}{k off:Nat}{R:Row}{v:Value}(f:Mem w0 G0 bs rs bx rv w)(b:rs[k]? =some (some R))(h:FT (en w G0 bx rv rs) [v] [.elp k off]):
  ∃g n c xs,v=.pointer (some ⟨g,off,none⟩)/\rv[k]? =some (.slice (some ⟨g,0,none⟩) n c)/\w.ownsRow 0 R.e R.sz (.slice (some ⟨g,0,none⟩) n c) R.es.length xs/\PT w (GG G0 bx rv rs) xs (flat R.es)/\(Sized R.sz R.es/\(R.tt=true->nR (.slice (some ⟨g,0,none⟩) n c)))/\NoDigB w g:=by
 obtain⟨g,n,c,a,rfl⟩:=h.isElp;have a:fl rv rs k=some _:=a;simp only[fl,b,M9,id]at a;obtain⟨xs,i,l,d,j⟩:=f.row k _ R a b;exact⟨g,n,c,xs,Z,a,i,l,d,j g Z⟩
theorem ia{x l:Operand}{t e:TypeId}{n k r:Nat}{R:Row}{m:IntKind}{i:Int}{j:Nat}(f:o.op=.indexAddr t x l)(F:gN Tryz.prog t=some (e,n))(u:S.ev x=.own k)(q:S.rs[k]? =some (some R))(I:R.sz=n)(D:S.ev l=.sc (.int m i))(A:i=j)(G:j<R.es.length)(d:j*n=r):OpOK o S (.elp k r):=by
 subst d A;intro w0 G0 bx rv w T C p;have B:=(bL p D (by rw[f];simp[Op.operands])).isSc;have s:=bL p u (by rw[f];simp[Op.operands]);obtain⟨y,xs,a,E,H,z⟩:=lx C q s;rcases a.2 with⟨_,J⟩|⟨g,cp,cur,h,_⟩
 ·omega
 have d:=lw (P:=Tryz.prog) (w:=w) (b:=g) (o:=0) (n:=R.es.length) (c:=cp) (k:=m) (i:=(j:Int)) F (by omega) (by omega);rw[Ou]at d;refine aC (v:=.pointer (some ⟨g,j*n,none⟩)) (W':=w) ?_ ⟨.elp k (j*n) g R.es.length cp ?_ .nil,Below.refl _ _⟩
 ·simp only[MT]at d;simp[execOp,f,B,h,d]
 show fl rv S.rs k=_
 simp only[fl,q,M9,id];rw[y,h]
theorem ur{w:World}{base g n c:Nat}{e:TypeId}{sz m:Nat}{xs:List Value}(h:w.ownsRow base e sz (.slice (some ⟨g,0,none⟩) n c) m xs):∃cur:List Value,IsBlk w g e cur.toArray/\cur.length=c*sz/\n=m/\n<=c/\cur.take (m*sz)=xs/\base<=g/\c<=maxLen/\∀(j:Nat) u,xs[j]? =some u->w.cell? ⟨g,j,none⟩=some u:=by
 rcases h.2 with⟨f,_⟩|⟨v,t,cur,f,q,p,r,k,o,i⟩
 ·cases f
 injection f with b l s
 injection b with b
 injection b with b
 subst b l s;have a:IsBlk w g e cur.toList.toArray:=by simpa[IsBlk]using p
 refine⟨cur.toList,a,by simpa using o,Z,r,i,q,k,fun j u d=>?_⟩;rw[a.cell j];rw[<-i,MU]at d;split at d
 ·simpa using d
 cases d
theorem oS{x:Operand}{t:TypeId}{k off j fo:Nat}{R:Row}{c d:Tree}(l:o.op=.load t x)(s:S.ev x=.elp k off)(C:S.rs[k]? =some (some R))(F:jo Tryz.prog t=true)(E:R.es[j]? =some c)(e:off=j*R.sz+fo)(f:fo<R.sz)(q:c.cells[fo]? =some d):OpOK o S d:=by
 intro w0 G0 bx rv w T z B;obtain⟨g,n,cp,xs,y,I,H,p,A,_⟩:=BQ z C (bL B s (by rw[l];simp[Op.operands]));obtain⟨_,_,_,_,_,_,_,_,a⟩:=ur H;obtain⟨h,i⟩:=L6.1 E;have m:=BE A.1 j h fo f;rw[i,q,<-e]at m;obtain⟨u,G,r⟩:=p.get off d m;have D:=jq (P:=Tryz.prog) (w:=w) (b:=g) (o:=off) (u:=u) F (a off u G);refine aC (v:=u) (W':=w) ?_ ⟨.pure r .nil,Below.refl _ _⟩;simp[execOp,l,y,D]
theorem Mem.setRowE{w w':World}{bs:List (TypeId×List Tree)}{rs:List (Option Row)}{bx:List Nat}{rv:List Value}{k:Nat}{v:Value}{R R':Row}(h:Mem w0 G0 bs rs bx rv w){xs:List Value}(m:rv[k]? =some v)(o:rs[k]? =some (some R))(q:w.grownBy w' v.ownBlock)(U:w'.ownsRow 0 R'.e R'.sz v R'.es.length xs)(Q:PT w' (GG G0 bx rv rs) xs (flat R'.es))(K:Sized R'.sz R'.es/\(R'.tt=true->nR v))(N:∀g,v.ownBlock=some g->NoDigB w' g):
  Mem w0 G0 bs (rs.set k (some R')) bx rv w'/\(∀us ts,FT (en w G0 bx rv rs) us ts->FT (en w' G0 bx rv (rs.set k (some R'))) us ts):=by
 have F:=(L6.1 m).1;have p:=(L6.1 o).1;have a0:rv.set k v=rv:=by rw[<-(L6.1 m).2];exact List.set_getElem_self F
 have y:∀b,b∈cR bx rv (rs.set k (some R'))↔b∈cR bx rv rs:=fun b=>by
  rw[aY,aY];refine or_congr OT ⟨?_,?_⟩
  ·rintro⟨j,u,X,a,c,l⟩;by_cases d:j=k
   ·subst d;rw[m]at a;cases a;exact⟨j,v,R,m,o,l⟩
   rw[Nm (fun e=>d e.symm)]at c;exact⟨j,u,X,a,c,l⟩
  rintro⟨j,u,X,a,c,l⟩;by_cases d:j=k
  ·subst d;rw[m]at a;cases a;exact⟨j,v,R',m,by rw[Nw p],l⟩
  exact⟨j,u,X,a,by rw[Nm (fun e=>d e.symm)];exact c,l⟩
 have B:∀b,GG G0 bx rv (rs.set k (some R')) b↔GG G0 bx rv rs b:=fun b=>or_congr OT (y b)
 have n:∀b,b<w.heap.size->¬GG G0 bx rv rs b->w'.heap[b]? =w.heap[b]? /\¬GG G0 bx rv (rs.set k (some R')) b:=fun b J M=>⟨q.block b J fun e=>M (.inr (aY.2 (.inr ⟨k,v,R,m,o,e.symm⟩))),fun h=>M ((B b).1 h)⟩
 have A:∀j u,fl rv rs j=some u->fl rv (rs.set k (some R')) j=some u:=fun j u d=>by
  unfold fl at d⊢;by_cases r:j=k
  ·subst r;rw[o]at d;rw[Nw p];exact d
  rw[Nm (fun e=>r e.symm)];exact d
 have s:∀us ts,FT (en w G0 bx rv rs) us ts->FT (en w' G0 bx rv (rs.set k (some R'))) us ts:=fun us ts O=>O.mono (E':=en w' G0 bx rv (rs.set k (some R'))) q.size n (fun _ _ h=>h) A
 have E:GG G0 bx rv (rs.set k (some R'))=GG G0 bx rv rs:=funext fun b=>propext (B b)
 refine⟨⟨h.below.grown q (fun b e=>h.ge b (aY.2 (.inr ⟨k,v,R,m,o,e⟩))),h.env0,h.g0,h.nb,by simp[h.nr],fun i g z=>?_,fun j u X a c=>?_,⟨h.nodup.bb,fun j u X b a c l=>?_,fun i j u t X Y b L a c l D W C=>?_⟩,fun b J=>h.ge b ((y b).1 J),h.pin⟩,s⟩
 ·obtain⟨ty,cs,us,a,c,l,D⟩:=h.box i g z;exact⟨ty,cs,us,a,(q.block g c.lt fun e=>h.nodup.br k v R g m o e.symm (L7 z)).trans c,s _ _ l,D⟩
 ·by_cases d:j=k
  ·subst d;rw[m]at a;cases a;rw[Nw p]at c;cases c;exact⟨xs,U,by rw[E];exact Q,K,N⟩
  rw[Nm (fun e=>d e.symm)]at c;obtain⟨ys,C,T,V,P⟩:=h.row j u X a c;have x:∀b,u.ownBlock=some b->v.ownBlock≠some b:=fun b H I=>h.nodup.rr j k u v X R b d a c m o H I
  refine⟨ys,C.kept q ?_,T.mono q.size n,V,fun g G=>(P g G).of (q.block g (C.lt g G).2 fun e=>x g G e.symm)⟩;cases hu:u.ownBlock with
  |none=>exact .inl Zz
  |some b=>exact .inr fun e=>x b hu e.symm
 ·by_cases d:j=k
  ·subst d;exact h.nodup.br j u R b a o l
  rw[Nm (fun e=>d e.symm)]at c;exact h.nodup.br j u X b a c l
 have f:∀i X,(rs.set k (some R'))[i]? =some (some X)->∃Z,rs[i]? =some (some Z):=fun i X h=>by
  by_cases z:i=k
  ·subst z;exact⟨R,o⟩
  rw[Nm (fun e=>z e.symm)]at h;exact⟨X,h⟩
 obtain⟨S,H⟩:=f i X c;obtain⟨Y',I⟩:=f j Y D;exact h.nodup.rr i j u t S Y' b L a H l I W C
theorem we{ty:TypeId}{x y:Operand}{k off j:Nat}{R:Row}{t:Tree}(Y:o.op=.store ty x y)(D:o.dst=none)(hx:S.ev x=.elp k off)(hR:S.rs[k]? =some (some R))(m:off=j*R.sz)(hj:j<R.es.length)(ht:S.ev y=t)(h1:t.oneA=true)(h2:t.cells.all Tree.one=true)(hn:t.cells.all Tree.noDig=true)(hp:t.cells.all Tree.plain0=true)(hs:(Tryz.prog.info? ty).map (·.size)=some R.sz)(X:t.cells.length=R.sz):rk w0 G0 o S {S with rs:=S.rs.set k (some ⟨R.e,R.sz,R.es.set j t,R.tt⟩)}:=by
 rintro a w ⟨bx,rv,hm,a5,a1,B⟩;have V:=bL (op:=o.op) (T:=fun s=>a.tmps.getD s undef) (S:=S) (fun s _=>B s) ht (by rw[Y];simp[Op.operands]);have L:=bL (op:=o.op) (T:=fun s=>a.tmps.getD s undef) (S:=S) (fun s _=>B s) hx (by rw[Y];simp[Op.operands]);generalize (fun s=>a.tmps.getD s undef)=T at V L⊢;obtain⟨g,n,cp,xs,e1,M,q,G,C,W⟩:=BQ hm hR L;obtain⟨cur,f,A,O,a2,a0,u,a4,_⟩:=ur q;have H:=oI V h1;have N:=H.plain0s hp;obtain⟨c,F⟩:∃c,dU T y=c:=⟨_,rfl⟩;rw[F]at V H N;have b:c.cells.toList.length=R.sz:=by rw[H.length,X]
 have a3:(j+1)*R.sz<=R.es.length*R.sz:=ML _ hj;rw[M5,Ol]at a3;have a9:R.es.length*R.sz<=cp*R.sz:=ML _ (by omega);have p:=nD (P:=Tryz.prog) (w:=w) (g:=g) (off:=off) (ty:=ty) (t:=R.e) (cur:=cur) (v:=c) f (by rw[hs,show c.cells.size=R.sz from b]) (by rw[A,m];simp only[MY]at b;omega) (H.ones h2);have J:c.cells.size=R.sz:=b;rw[J]at p;have h:=oL w g (cur.take off++c.cells.toList++cur.drop (off+R.sz)).toArray;have b0:g<w.heap.size:=f.lt;have r:IsBlk (w.setRow g (cur.take off++c.cells.toList++cur.drop (off+R.sz)).toArray) g R.e (cur.take off++c.cells.toList++cur.drop (off+R.sz)).toArray:=by
  have:=f;simp only[IsBlk,World.setRow]at this⊢;simp[NJ,this]
 have d:g∈cR bx rv S.rs:=aY.2 (.inr ⟨k,_,R,M,hR,Z⟩);have I:(cur.take off++c.cells.toList++cur.drop (off+R.sz)).take (R.es.length*R.sz)=xs.take off++c.cells.toList++xs.drop (off+R.sz):=by
  subst a0;have e1:(cur.take off).length=off:=by rw[Mf,A];omega
  have e2:R.es.length*R.sz=off+R.sz+(R.es.length*R.sz-(off+R.sz)):=by omega
  rw[List.take_take,Ns (by omega),List.drop_take,Mv,e2,OW,e1,Me (l:=cur.take off) (by omega),OW,b,Me (l:=c.cells.toList) (by omega),Mv];rw[show off+R.sz+(R.es.length*R.sz-(off+R.sz))-off-R.sz=off+R.sz+(R.es.length*R.sz-(off+R.sz))-(off+R.sz) by omega]
 have K:NoDigB (w.setRow g (cur.take off++c.cells.toList++cur.drop (off+R.sz)).toArray) g:=cH r (by
  have E:=mR (show w.heap[g]? =some (.cells cur.toArray R.e (0,0))from f) W;exact mn E (H.noDigs hn))
 obtain⟨U,Q⟩:=hm.setRowE (R':=⟨R.e,R.sz,R.es.set j t,R.tt⟩) (w':=w.setRow g (cur.take off++c.cells.toList++cur.drop (off+R.sz)).toArray) (xs:=xs.take off++c.cells.toList++xs.drop (off+R.sz)) M hR h
  (by
   refine⟨?_,.inr ⟨g,cp,_,?_,u,r,?_,a4,?_,?_⟩⟩
   ·have:=q.1;simp only[Mb,Mf,MQ,MJ,b,this];omega
   ·rw[MJ,<-O]
   ·rw[MJ,<-O];exact a2
   ·simp only[Ov,Mb,Mf,MQ,b,A];omega
   rw[MJ];exact I)
  (by
   show PT _ _ _ (flat (R.es.set j t))
   rw[E2 C.1 hj X,<-m];exact(((oK d h G).take off).append (oK d h N)).append ((oK d h G).drop (off+R.sz)))
  ⟨C.1.set j X,C.2⟩ (fun g' z=>by injection z with z;subst z;exact K)
 refine fQ (W':=w.setRow g (cur.take off++c.cells.toList++cur.drop (off+R.sz)).toArray) (by simp only[execOp,Y,e1,F,Sem.run_bind,p,Result.andThen_ok];rfl) ⟨bx,rv,U,by rw[dY];exact a5,by rw[dg,a1],fun i=>?_⟩;rw[D];exact Q _ _ (B i)
end
theorem E3{w:World}{base a:Nat}{e:TypeId}{size n:Nat}{v:Value}{xs:List Value}(h:w.ownsRow base e size v n xs)(j:a<=base):w.ownsRow a e size v n xs:=by
 obtain⟨k,d⟩:=h;refine⟨k,d.imp (fun h=>h) ?_⟩;rintro⟨g,b,cur,f,i,c⟩;exact⟨g,b,cur,f,Ma j i,c⟩
theorem xC{α:Type}(l:List α)(b:0<l.length):∀(m i:Nat),(List.replicate m l).flatten[i]? =if i<m*l.length then l[i%l.length]? else none
 |0,i=>by simp
 |m+1,i=>by
  rw[OG,Qw,M5,Ol];rcases MA i l.length with h|h
  ·rw[My h,if_pos (by omega),ND h]
  rw[Mz h,xC l b m (i-l.length),<-Nat.mod_eq_sub_mod h];by_cases a:i-l.length<m*l.length
  ·rw[if_pos a,if_pos (by omega)]
  rw[if_neg a,if_neg (by omega)]
theorem ut(z:Array Value)(a:0<z.size)(m:Nat):(madeCells z (m*z.size)).toList=(List.replicate m z.toList).flatten:=by
 apply PL;intro i;rw[xC z.toList (by simpa using a) m i];simp only[MY];by_cases h:i<m*z.size
 ·rw[if_pos h];have b:i%z.size<z.size:=Ni _ a;simp[madeCells,h,b]
 rw[if_neg h];simp[madeCells];omega
theorem E4(W:World)(G:Nat->Prop){a:List Value}{zt:Tree}(h:zt.cells=a.map dl):∀m,PT W G (List.replicate m a).flatten (flat (List.replicate m zt))
 |0=>.nil
 |m+1=>by
  rw[OG,OG,Qw,eN,h];exact(mQ W G a).append (E4 W G h m)
section
variable {w0:World} {G0:Bse} {S:St} {o:Oper}
theorem nF{bx:List Nat}{rv:List Value}{rs:List (Option Row)}{v:Value}{R:Row}(a:rv.length=rs.length)(b:Nat):b∈cR bx (rv++[v]) (rs++[some R])↔b∈cR bx rv rs\/v.ownBlock=some b:=by
 rw[aY,aY];constructor
 ·rintro(h|⟨j,u,X,e,c,d⟩)
  ·exact .inl (.inl h)
  rcases dh a j u X e c with⟨_,rfl,_⟩|⟨_,f,g⟩
  ·exact .inr d
  exact .inl (.inr ⟨j,u,X,f,g,d⟩)
 rintro((h|⟨j,u,X,e,c,d⟩)|h)
 ·exact .inl h
 ·have k:=(L6.1 e).1;have i:=(L6.1 c).1;exact .inr ⟨j,u,X,by rw[My k];exact e,by rw[My i];exact c,d⟩
 exact .inr ⟨rs.length,v,R,by rw[Mz (by omega),a,M2];rfl,by rw[Mz (L4 _),M2];rfl,h⟩
theorem Mem.addRow{w w':World}{bs:List (TypeId×List Tree)}{rs:List (Option Row)}{bx:List Nat}{rv:List Value}{v:Value}{R:Row}{xs:List Value}(h:Mem w0 G0 bs rs bx rv w)(n:Below w.heap.size w w')(H:w'.ownsRow w.heap.size R.e R.sz v R.es.length xs)(Q:PT w' (fun b=>GG G0 bx rv rs b\/v.ownBlock=some b) xs (flat R.es))(E:Sized R.sz R.es/\(R.tt=true->nR v))(N:∀g,v.ownBlock=some g->NoDigB w' g):
  Mem w0 G0 bs (rs++[some R]) bx (rv++[v]) w'/\(∀us ts,FT (en w G0 bx rv rs) us ts->FT (en w' G0 bx (rv++[v]) (rs++[some R])) us ts):=by
 have a:=h.nr;have J:∀b,GG G0 bx (rv++[v]) (rs++[some R]) b↔(GG G0 bx rv rs b\/v.ownBlock=some b):=fun b=>by
  unfold GG;rw[nF a,or_assoc]
 have c:∀b,v.ownBlock=some b->w.heap.size<=b:=fun b e=>(H.lt b e).1
 have f:∀b,b<w.heap.size->¬GG G0 bx rv rs b->w'.heap[b]? =w.heap[b]? /\¬GG G0 bx (rv++[v]) (rs++[some R]) b:=fun b C Z=>⟨n.block b C,fun y=>by
  rcases(J b).1 y with d|d
  ·exact Z d
  have:=c b d;omega⟩
 have D:∀j u,fl rv rs j=some u->fl (rv++[v]) (rs++[some R]) j=some u:=fun j u h=>by
  unfold fl at h⊢;cases x:rs[j]? with
  |none=>simp[x]at h
  |some r=>
   have S:=(L6.1 x).1;rw[My S,My (by omega)];exact h
 have q:∀us ts,FT (en w G0 bx rv rs) us ts->FT (en w' G0 bx (rv++[v]) (rs++[some R])) us ts:=fun us ts O=>O.mono (E':=en w' G0 bx (rv++[v]) (rs++[some R])) n.size f (fun _ _ h=>h) D
 have W:=h.below.size;refine⟨⟨h.below.then n,h.env0,h.g0,h.nb,by simp[a],fun i g B=>?_,fun j u X d l=>?_,⟨h.nodup.bb,fun j u X b d l o I=>?_,fun i j u t X Y b s d l o k m p=>?_⟩,fun b F=>?_,h.pin⟩,q⟩
 ·obtain⟨ty,cs,us,d,l,o,k⟩:=h.box i g B;exact⟨ty,cs,us,d,l.below n l.lt,q _ _ o,k⟩
 ·rcases dh a j u X d l with⟨_,rfl,rfl⟩|⟨_,k,m⟩
  ·exact⟨xs,E3 H (Mp _),by rw[show GG G0 bx (rv++[u]) (rs++[some X])=(fun b=>GG G0 bx rv rs b\/u.ownBlock=some b)from funext fun b=>propext (J b)];exact Q,E,N⟩
  obtain⟨V,p,T,U,P⟩:=h.row j u X k m;exact⟨V,eA p n,T.mono n.size f,U,fun g y=>(P g y).of (n.block g (p.lt g y).2)⟩
 ·rcases dh a j u X d l with⟨_,rfl,_⟩|⟨_,k,m⟩
  ·have K:=c b o;have L:=(h.ok b (.inr (aY.2 (.inl I)))).1;omega
  exact h.nodup.br j u X b k m o I
 ·rcases dh a i u X d l with⟨B,rfl,_⟩|⟨_,G,M⟩
  ·rcases dh a j t Y o k with⟨x,_,_⟩|⟨_,A,z⟩
   ·exact s (B.trans x.symm)
   have K:=c b m;have L:=(h.ok b (.inr (aY.2 (.inr ⟨j,t,Y,A,z,p⟩)))).1;omega
  rcases dh a j t Y o k with⟨_,rfl,_⟩|⟨_,A,z⟩
  ·have K:=c b p;have L:=(h.ok b (.inr (aY.2 (.inr ⟨i,u,X,G,M,m⟩)))).1;omega
  exact h.nodup.rr i j u t X Y b s G M A z m p
 rcases(nF a b).1 F with d|d
 ·exact h.ge b d
 have:=c b d;exact .inl (by omega)
theorem BR{a:Act}{w':World}{bx:List Nat}{rv:List Value}{v:Value}{R:Row}{d:Nat}{S:St}(b:a.tmps.size=S.n)(e:a.defers=[])(h:dM S.n o.dst=true)(f:rv.length=S.rs.length)(j:Mem w0 G0 S.bs (S.rs++[some R]) bx (rv++[v]) w')(l:∃A n c,v=.slice A n c)(g:∀i,FT (en w' G0 bx (rv++[v]) (S.rs++[some R])) [a.tmps.getD i undef] [S.get i])(k:S.rs.length=d):
  Sim w0 G0 ({S with rs:=S.rs++[some R]}.put o.dst (.own d)) (a.put o.dst v) w':=by
 subst k;refine⟨bx,rv++[v],by rw[eB,c6];exact j,by rw[dY,fd];exact b,by rw[dg,e],fun i=>?_⟩;rw[c6];rw[gD a o.dst v S.n b h,dV];split
 ·obtain⟨A,n,c,rfl⟩:=l;refine .own _ n c A ?_ .nil;show fl (rv++[_]) (S.rs++[some R]) S.rs.length=_
  unfold fl;rw[Mz (L4 _),M2,Mz (by omega),f,M2];rfl
 exact g i
theorem Ht{t e:TypeId}{x y:Operand}{m sz b:Nat}{B:List Value}{kl kc:IntKind}{X ic:Int}{zt:Tree}(G:o.op=.makeSlice t x y)(hd:dM S.n o.dst=true)(ht:kM Tryz.prog t=some (e,sz,b))(C:gz Tryz.prog e=some B)(D:S.ev x=.sc (.int kl X))(hy:S.ev y=.sc (.int kc ic))(J:X=m)(N:ic=m)(k:zt.cells=B.map dl)(hm:m<=1073741824)(H:Nat.ble b 100000=true):rk w0 G0 o S ({S with rs:=S.rs++[some (⟨e,sz,List.replicate m zt,true⟩:Row)]}.put o.dst (.own S.rs.length)):=by
 rintro a w ⟨bx,rv,j,W,I,h⟩;have e1:=(bL (op:=o.op) (T:=fun s=>a.tmps.getD s undef) (S:=S) (fun s _=>h s) D (by rw[G];simp[Op.operands])).isSc;have e2:=(bL (op:=o.op) (T:=fun s=>a.tmps.getD s undef) (S:=S) (fun s _=>h s) hy (by rw[G];simp[Op.operands])).isSc;generalize (fun s=>a.tmps.getD s undef)=T at e1 e2⊢;obtain⟨V,⟨i,z,hi,q,U,M,K,L⟩,a0⟩:=oN ht;have O:B=z.cells.toList:=by
  unfold gz at C;simp only[Ow,Nb]at C;obtain⟨i',p,z',f,rfl⟩:=C;rw[hi]at p;cases p;rw[q]at f;cases f;rfl
 subst J N O K;have E:b<=100000:=by simpa using H
 have Y:m*b<=1073741824*100000:=NY hm E;have hr:=run_make (P:=Tryz.prog) w t e i z V hi q kl kc m m (by omega) (Int.le_refl _) (by
  rw[M];have:(b:Int)*(m:Int)=((m*b:Nat):Int):=by rw[O4,Int.mul_comm]
  rw[this];omega) (by omega)
 rw[Ou,U]at hr;have d:=World.ownsRow_lit (base:=w.heap.size) (e:=e) (size:=z.cells.size) w (madeCells z.cells (m*z.cells.size)) m (L4 _) (by simp only[maxLen];omega) (size_madeCells _ _);rw[ut z.cells (by omega) m]at d;have hb:Below w.heap.size w (w.alloc (.cells (madeCells z.cells (m*z.cells.size)) e)):=(Below.refl _ _).alloc (L4 _) _;have F:∀g,(Value.slice (some ⟨w.heap.size,0,none⟩) m m).ownBlock=some g->NoDigB (w.alloc (.cells (madeCells z.cells (m*z.cells.size)) e)) g:=fun g Q=>by
  injection Q with Q
  subst Q;refine cH (heap_alloc_new w _) ?_;rw[ut z.cells (by omega) m];refine Mh.2 fun u V=>?_
  obtain⟨l,hl,r⟩:=List.mem_flatten.1 V;rw[(OA.1 hl).2]at r;exact Mh.1 L u r
 obtain⟨m1,m2⟩:=j.addRow (R:=⟨e,z.cells.size,List.replicate m zt,true⟩) (v:=.slice (some ⟨w.heap.size,0,none⟩) m m) hb (by rw[OU];exact d) (E4 _ _ k m) ⟨fun x D=>by
  rw[(OA.1 D).2,k,L5,MY],fun _ A n c e=>by cases e;rfl⟩ F
 refine aC (v:=.slice (some ⟨w.heap.size,0,none⟩) m m) (W':=w.alloc (.cells (madeCells z.cells (m*z.cells.size)) e)) ?_ (BR W I hd j.nr m1 ⟨_,_,_,Z⟩ (fun i=>m2 [_] [_] (h i)) Z);simp[execOp,G,e1,e2,hr]
end
def nG(k:Nat)(es:List Tree):Tree->Tree
 | .own j=>if j=k then .tl es else .own j
 | .elp j off=>if j=k then .any else .elp j off
 | .agg _| .tup _=>.any
 |t=>t
def E5(k:Nat)(es:List Tree):Tree->Tree
 | .agg cs=>.agg (cs.map (nG k es))
 |t=>nG k es t
section
variable {w0 w:World} {G0:Bse} {bs:List (TypeId×List Tree)} {rs:List (Option Row)} {bx:List Nat} {rv:List Value} {k:Nat} {R:Row} {v:Value}
theorem E6(b:Mem w0 G0 bs rs bx rv w)(a:rs[k]? =some (some R))(g:R.tt=true)(h:fl rv rs k=some v):PT w (GG G0 bx rv (rs.set k none)) [v] [.tl R.es]:=by
 have i:=BO b a h;have e:rv[k]? =some v:=by simpa[fl,a]using h
 obtain⟨xs,d,_,f,_⟩:=b.row k v R e a;obtain⟨A,c,rfl⟩:=cF d;have:=f.2 g A _ c Z;subst this;exact .tl A _ R.es Z i .nil
theorem xD(d:Mem w0 G0 bs rs bx rv w)(a:rs[k]? =some (some R))(f:R.tt=true){u:Value}{t:Tree}(h:FT (en w G0 bx rv rs) [u] [t]):FT (en w G0 bx rv (rs.set k none)) [u] [nG k R.es t]:=by
 cases h with
 |pure h _=>
  cases t<;>first
   |exact .pure (h.mono (L4 _) mq) .nil
   |(simp only[nG];exact .any _ .nil)
   |(cases h)
 |any=>exact .any _ .nil
 |box b off g h _=>exact .box b off g h .nil
 |own j n c A hv _=>
  simp only[nG];split
  ·next e=>subst e;exact .pure (E6 d a f hv) .nil
  next e=>exact .own j n c A (v8 j _ e hv) .nil
 |elp j off g n c hv _=>
  simp only[nG];split
  ·exact .any _ .nil
  next e=>exact .elp j off g n c (v8 j _ e hv) .nil
 |agg=>exact .any _ .nil
 |tup=>exact .any _ .nil
theorem p5(b:Mem w0 G0 bs rs bx rv w)(a:rs[k]? =some (some R))(c:R.tt=true):∀{us:List Value} {ts:List Tree},FT (en w G0 bx rv rs) us ts->FT (en w G0 bx rv (rs.set k none)) us (ts.map (nG k R.es))
 |[],[],_=>.nil
 |[],_::_,h=>by cases h
 |_::_,[],h=>by cases h
 |u::us,t::ts,h=>FT.cons (xD b a c h.head) (p5 b a c h.tail)
theorem Hu(b:Mem w0 G0 bs rs bx rv w)(a:rs[k]? =some (some R))(c:R.tt=true){u:Value}{t:Tree}(h:FT (en w G0 bx rv rs) [u] [t]):FT (en w G0 bx rv (rs.set k none)) [u] [E5 k R.es t]:=by
 cases t with
 |agg cs=>
  obtain⟨xs,rfl,d⟩:=h.isAgg;exact .agg xs _ (p5 b a c d) .nil
 |_=>exact xD b a c h
end
section
variable {w0:World} {G0:Bse} {ops:Array Oper} {rest:List Oper} {Q:Exit->St->Prop} {o:Oper} {n:Nat} {sl:List (Nat×Tree)} {bs:List (TypeId×List Tree)} {rs:List (Option Row)} {S:St}
theorem Sim.relU{a:Act}{w:World}{k:Nat}{R:Row}(h:Sim w0 G0 ⟨n,sl,bs,rs⟩ a w)(r:rs[k]? =some (some R))(s:R.tt=true):Sim w0 G0 ⟨n,sl.map fun p=>(p.1,E5 k R.es p.2),bs.map fun p=>(p.1,p.2.map (nG k R.es)),rs.set k none⟩ a w:=by
 obtain⟨bx,rv,c,z,m,o⟩:=h;refine⟨bx,rv,⟨c.below,c.env0,c.g0,by simp[c.nb],by simp[c.nr],fun i g A=>?_,fun j u X e d=>?_,⟨c.nodup.bb,fun j u X b e d=>c.nodup.br j u X b e (iQ j X d).2,fun i j u v X Y b q e d l f=>c.nodup.rr i j u v X Y b q e (iQ i X d).2 l (iQ j Y f).2⟩,fun b y=>c.ge b (nV y),c.pin⟩,z,m,fun i=>?_⟩
 ·obtain⟨ty,cs,us,e,d,l,f⟩:=c.box i g A;exact⟨ty,cs.map (nG k R.es),us,by rw[MN,e];rfl,d,p5 c r s l,f⟩
 ·obtain⟨xs,l,f,t,x⟩:=c.row j u X e (iQ j X d).2;exact⟨xs,l,f.mono (L4 _) mq,t,x⟩
 show FT _ _ [look (sl.map fun p=>(p.1,E5 k R.es p.2)) i]
 rw[jL (E5 k R.es) Z];exact Hu c r s (o i)
theorem E7{c:Code}(k:Nat){R:Row}{sl':List (Nat×Tree)}{bs':List (TypeId×List Tree)}{rs':List (Option Row)}(g:rs[k]? =some (some R))(i:R.tt=true)(d:sl.map (fun p=>(p.1,E5 k R.es p.2))=sl')(b:bs.map (fun p=>(p.1,p.2.map (nG k R.es)))=bs')(e:rs.set k none=rs')(h:AWP w0 G0 c Q ⟨n,sl',bs',rs'⟩):AWP w0 G0 c Q ⟨n,sl,bs,rs⟩:=by
 subst d b e;exact fun a w f=>h a w (f.relU g i)
end
def r5(m:Nat):Tree->Tree
 | .box b off=>if b=m then .box (m+1) off else if b=m+1 then .box m off else .box b off
 | .agg _| .tup _=>.any
 |t=>t
def JA(m:Nat):Tree->Tree
 | .agg cs=>.agg (cs.map (r5 m))
 |t=>r5 m t
section
variable {w0 w:World} {G0:Bse} {bs:List (TypeId×List Tree)} {rs:List (Option Row)} {bx:List Nat} {rv:List Value} {g1 g2:Nat}
theorem JB{α:Type}{l:List α}{x y z:α}{i m:Nat}(c:l.length=m)(h:(l++[x,y])[i]? =some z):(i=m/\z=x)\/(i=m+1/\z=y)\/(i<m/\l[i]? =some z):=by
 subst c;rcases MA i l.length with a|a
 ·rw[My a]at h;exact .inr (.inr ⟨a,h⟩)
 rw[Mz a]at h;have d:=(L6.1 h).1;simp only[L9,Mg]at d;have:i-l.length=0\/i-l.length=1:=by omega
 rcases this with b|b<;>rw[b]at h<;>simp at h
 ·exact .inl ⟨by omega,h.symm⟩
 exact .inr (.inl ⟨by omega,h.symm⟩)
theorem E8{α:Type}{l:List α}{x y z:α}{i m:Nat}(a:l.length=m)(h:(l++[x,y])[i]? =some z):(l++[y,x])[if i=m then m+1 else if i=m+1 then m else i]? =some z:=by
 rcases JB a h with⟨rfl,rfl⟩|⟨rfl,rfl⟩|⟨c,b⟩
 ·rw[if_pos Z,Mz (by omega),show i+1-l.length=1 by omega];rfl
 ·rw[if_neg (by omega),if_pos Z,Mz (by omega),show m-l.length=0 by omega];rfl
 rw[if_neg (by omega),if_neg (by omega),My (by omega)];exact b
theorem p6(b:Nat):b∈cR (bx++[g2,g1]) rv rs↔b∈cR (bx++[g1,g2]) rv rs:=by
 rw[aY,aY];refine or_congr ?_ OT;simp only[Mw,Mi,NU,or_false];constructor<;>(rintro(h|h|h)<;>simp[h])
theorem E9{m:Nat}(k:bx.length=m){u:Value}{t:Tree}(h:FT (en w G0 (bx++[g1,g2]) rv rs) [u] [t]):FT (en w G0 (bx++[g2,g1]) rv rs) [u] [r5 m t]:=by
 have f:GG G0 (bx++[g2,g1]) rv rs=GG G0 (bx++[g1,g2]) rv rs:=funext fun b=>propext (or_congr OT (p6 b))
 cases h with
 |pure h _=>
  have i:PT (en w G0 (bx++[g2,g1]) rv rs).W (en w G0 (bx++[g2,g1]) rv rs).G [u] [t]:=by
   show PT w (GG G0 (bx++[g2,g1]) rv rs) [u] [t]
   rw[f];exact h
  cases t<;>first
   |exact .pure i .nil
   |(simp only[r5];exact .any _ .nil)
   |(cases h)
 |any=>exact .any _ .nil
 |box b off g h _=>
  have h:(bx++[g1,g2])[b]? =some g:=h;have a:=E8 k h;simp only[r5];by_cases d:b=m
  ·rw[if_pos d]at a⊢;exact .box _ off g a .nil
  by_cases e:b=m+1
  ·rw[if_neg d,if_pos e]at a⊢;exact .box _ off g a .nil
  rw[if_neg d,if_neg e]at a⊢;exact .box _ off g a .nil
 |own j n c A hv _=>exact .own j n c A hv .nil
 |elp j off g n c hv _=>exact .elp j off g n c hv .nil
 |agg=>exact .any _ .nil
 |tup=>exact .any _ .nil
theorem wg{m:Nat}(a:bx.length=m):∀{us:List Value} {ts:List Tree},FT (en w G0 (bx++[g1,g2]) rv rs) us ts->FT (en w G0 (bx++[g2,g1]) rv rs) us (ts.map (r5 m))
 |[],[],_=>.nil
 |[],_::_,h=>by cases h
 |_::_,[],h=>by cases h
 |u::us,t::ts,h=>FT.cons (E9 a h.head) (wg a h.tail)
theorem KH{m:Nat}(a:bx.length=m){u:Value}{t:Tree}(h:FT (en w G0 (bx++[g1,g2]) rv rs) [u] [t]):FT (en w G0 (bx++[g2,g1]) rv rs) [u] [JA m t]:=by
 cases t with
 |agg cs=>
  obtain⟨xs,rfl,b⟩:=h.isAgg;exact .agg xs _ (wg a b) .nil
 |_=>exact E9 a h
theorem JC{S S':St}{a:Act}{m:Nat}{p:List (TypeId×List Tree)}{x y:TypeId×List Tree}(h:Sim w0 G0 S a w)(C:p.length=m)(L:S.bs=p++[x,y])(P:S'.n=S.n)(u:S'.bs=(p++[y,x]).map fun q=>(q.1,q.2.map (r5 m)))(j:S'.rs=S.rs)(O:∀s,S'.get s=JA m (S.get s))(N:G0.pn<=m):Sim w0 G0 S' a w:=by
 obtain⟨bx,rv,c,I,E,H⟩:=h;have M:bx.length=m+2:=by rw[c.nb,L];simp[C]
 obtain⟨l,g1,g2,rfl,z⟩:∃l g1 g2,bx=l++[g1,g2]/\l.length=m:=by
  refine⟨bx.take m,bx[m],bx[m+1],?_,by simp;omega⟩;conv=>lhs;rw[<-M4 m bx]
  congr 1;rw[Mc (by omega),Mc (by omega),Md (by omega)]
 refine⟨l++[g2,g1],rv,⟨c.below,c.env0,c.g0,by rw[u];simp[z,C],by rw[j];exact c.nr,fun i g G=>?_,fun k v R D r=>?_,⟨?_,fun k v R b D r d f=>?_,by rw[j];exact c.nodup.rr⟩,fun b d=>?_,fun i G=>by have o:=c.pin i G;rw[My (by omega)]at o⊢;exact o⟩,by rw[P];exact I,E,fun i=>?_⟩
 ·obtain⟨ty,cs,us,o,F,J,B⟩:=c.box _ g (E8 z G);rw[L]at o;have K:=E8 C o;have e:(if(if i=m then m+1 else if i=m+1 then m else i)=m then m+1 else if(if i=m then m+1 else if i=m+1 then m else i)=m+1 then m else(if i=m then m+1 else if i=m+1 then m else i))=i:=by
   by_cases t:i=m
   ·rw[if_pos t,if_neg (by omega),if_pos Z,t]
   by_cases A:i=m+1
   ·rw[if_neg t,if_pos A,if_pos Z,A]
   rw[if_neg t,if_neg A,if_neg t,if_neg A]
  rw[e]at K;refine⟨ty,cs.map (r5 m),us,by rw[u,MN,K];rfl,F,?_,B⟩;rw[j];exact wg z J
 ·rw[j]at r;obtain⟨xs,o,F,J,B⟩:=c.row k v R D r;refine⟨xs,o,?_,J,B⟩;rw[j,show GG G0 (l++[g2,g1]) rv S.rs=GG G0 (l++[g1,g2]) rv S.rs from funext fun b=>propext (or_congr OT (p6 b))];exact F
 ·have:=c.nodup.bb;refine this.perm<|List.Perm.append_left l (List.Perm.swap g2 g1 [])
 ·rw[j]at r;refine c.nodup.br k v R b D r d ?_;simp only[Mw,Mi,NU,or_false]at f⊢;rcases f with h|h|h
  ·exact .inl h
  ·exact .inr (.inr h)
  exact .inr (.inl h)
 ·rw[j]at d;exact c.ge b ((p6 b).1 d)
 rw[j,O];exact KH z (H i)
end
theorem zR{j:Nat}{o:Oper}{n d b:Nat}{sl:List (Nat×Tree)}{p bs':List (TypeId×List Tree)}{y:TypeId×List Tree}{rs:List (Option Row)}{ty:TypeId}{e:List Value}{cs:List Tree}(B:o.op=.alloc ty)(g:o.dst=some d)(z:Nat.blt d n=true)(r:gz Tryz.prog ty=some e)(t:e.all bQ=true)(A:e.map dl=cs)(x:p.length=b)(c:((p++[(ty,cs),y]).map fun q=>(q.1,q.2.map (r5 b)))=bs')(f:j<=b:=by first|exact Mp _|exact Nat.le_of_ble_eq_true Z):zQ j o ⟨n,sl,p++[y],rs⟩ (JA b) (.box b 0) bs' rs:=by
 subst A x c;intro w0 G0 S m l i k C;dsimp only at l i k;have c:S.bs++[(ty,e.map dl)]=p++[y,(ty,e.map dl)]:=by rw[i];simp
 refine⟨⟨S.n,(d,.box p.length 0)::S.sl.map (fun q=>(q.1,JA p.length q.2)),(p++[(ty,e.map dl),y]).map fun q=>(q.1,q.2.map (r5 p.length)),S.rs⟩,?_,Z,Z,k,fun s=>?_⟩
 ·intro a w u;refine OpRuns.mono (rU (S:=S) B (by rw[g,l];simpa[dM,Nv]using z) r t a w u) fun v W h=>?_
  refine JC h Z (by rw[eB];exact c) (by rw[fd]) Z (by rw[c6]) (fun s=>?_) (by rw[m];exact f);rw[dV,g];show look ((d,Tree.box p.length 0)::_) s=_
  rw[cZ,jL _ Z];simp only[MK];split
  ·have:S.bs.length=p.length+1:=by rw[i];simp
   show _=JA _ (Tree.box S.bs.length 0)
   rw[this];simp[JA,r5]
  rfl
 show look ((d,Tree.box p.length 0)::_) s=_
 rw[cZ,jL _ Z,g];simp only[MK];rfl
section
variable {w0:World} {G0:Bse} {S:St} {o:Oper}
theorem qJ{W:World}{G:Nat->Prop}:∀{l:List UInt8} {xs:List Value},PT W G xs (bm l)->xs=bE l
 |[],xs,h=>by cases h;rfl
 |_::l,xs,h=>by
  cases h with
  |sc v h=>rw[qJ (l:=l) h];rfl
theorem C9{W:World}{G:Nat->Prop}{v:Value}{l:List UInt8}(h:PT W G [v] [.sl (bm l)]):∃A c,v=.slice A l.length c/\At W W.heap.size A (bE l):=by
 obtain⟨A,c,e,g,m,k,a⟩:=PT.slice h;rw[a6]at e g a;refine⟨A,c,e,fun f=>?_⟩;obtain⟨b,off,xs,rfl,i,_,j,d⟩:=a (by rwa[fI]at f);rw[nT]at d;rw[<-qJ d];exact⟨b,off,Z,i,j⟩
theorem mY{x:Operand}{l:List UInt8}(a:o.op=.convert 22 9 x)(f:S.ev x=.sl (bm l)):OpOK o S (.sc (.string ⟨l.toArray⟩)):=by
 intro w0 G0 bx rv w T h d;obtain⟨A,c,g,e⟩:=C9 (bL d f (by rw[a];simp[Op.operands])).isSl;refine aC (v:=.string ⟨l.toArray⟩) (W':=w) ?_ ⟨.pure (.sc _ .nil) .nil,Below.refl _ _⟩;have b:=BH c e;simp only[en]at b;simp[execOp,a,g,b]
theorem zS{x y:Operand}{t u e:TypeId}{k:Nat}{R:Row}{s:ByteArray}(D:o.op=.call {callee:=.builtin .append,args:=#[x,y],argTypes:=#[t,u]})(Y:dM S.n o.dst=true)(ht:kM Tryz.prog t=some (R.e,R.sz,1))(Q:(Tryz.prog.info? R.e).bind (·.zero)=some (.int .u8 0))(hu:Tryz.prog.underlying u=some .string)(Z:S.ev x=.own k)(K:S.rs[k]? =some (some R))(hy:S.ev y=sT s)(C:R.sz=1)(h3:R.es.length+s.size<=1073741824):
  rk w0 G0 o S ({S.kill k with rs:=S.rs.set k (some (⟨R.e,R.sz,R.es++bm s.data.toList,false⟩:Row))}.put o.dst (.own k)):=by
 rintro a w ⟨bx,rv,V,L,F,f⟩;have N:=bL (op:=o.op) (T:=fun s=>a.tmps.getD s undef) (S:=S) (fun s _=>f s) Z (by rw[D];simp[Op.operands,Call.operands]);have O:=(bL (op:=o.op) (T:=fun s=>a.tmps.getD s undef) (S:=S) (fun s _=>f s) hy (by rw[D];simp[Op.operands,Call.operands])).isSc;generalize (fun s=>a.tmps.getD s undef)=T at N O⊢;obtain⟨U,xs,b,J,M,B⟩:=lx V K N;obtain⟨G,⟨i,z,W,p,q,E,a0,a1⟩,X⟩:=oN ht;have I:z=.int .u8 0:=by
  rw[W,M9,p]at Q;exact MW Q
 subst I;rw[C]at b q;obtain⟨v',w',hr,H,j,m,r⟩:=EK (P:=Tryz.prog) w 0 t u o.type R.e i G hu W p q E (dU T x) R.es.length xs b s (by omega) (Mp _) B;refine aC (v:=v') (W':=w') ?_ (xv (R':=⟨R.e,R.sz,R.es++bm s.data.toList,false⟩) (xs:=xs++bE s.data.toList) V L F f Y U K j m (by
  show w'.ownsRow _ _ R.sz _ (R.es++bm s.data.toList).length _
  rw[Mb,a6,C,show s.data.toList.length=s.size by simp];exact H) ?_ ⟨M.1.append (by rw[C];exact qE _),fun h=>by cases h⟩ r)
 ·simp only[execOp,D,resolve,invoke,builtin,Sem.run_bind,Sem.run_pure,Result.andThen_ok,NP,M3,NV,O,hr]
 have d:=oM (G0:=G0) (bx:=bx) (w:=w) (w':=w') (v':=v') (R':=⟨R.e,R.sz,R.es++bm s.data.toList,false⟩) U K j (fun g A=>by
  rcases m with h|h
  ·exact .inl (h▸A)
  rw[h]at A;injection A with A;exact .inr (by omega))
 rw[iY,nT];refine(J.mono j.size d).append ?_;have:∀l:List UInt8,PT w' (GG G0 bx (rv.set k v') (S.rs.set k (some ⟨R.e,R.sz,R.es++bm s.data.toList,false⟩))) (bE l) (bm l):=fun l=>by
  induction l with
  |nil=>exact .nil
  |cons c l ih=>exact .sc _ ih
 exact this _
theorem kx{ops:Array Oper}{rest:List Oper}{Q:Exit->St->Prop}{n d k:Nat}{sl sl':List (Nat×Tree)}{bs bs':List (TypeId×List Tree)}{rs rs':List (Option Row)}{x y:Operand}{t u:TypeId}{R:Row}{s:ByteArray}(z:o.op=.call {callee:=.builtin .append,args:=#[x,y],argTypes:=#[t,u]})(l:o.guard=none)(f:o.dst=some d)(h:Nat.blt d n=true)(w:kM Tryz.prog t=some (R.e,R.sz,1))(i:(Tryz.prog.info? R.e).bind (·.zero)=some (.int .u8 0))(j:Tryz.prog.underlying u=some .string)(q:St.ev ⟨n,sl,bs,rs⟩ x=.own k)(r:rs[k]? =some (some R))(m:St.ev ⟨n,sl,bs,rs⟩ y=sT s)(g:R.sz=1)(v:R.es.length+s.size<=1073741824)(b:sl.map (fun p=>(p.1,mb k p.2))=sl')(a:bs.map (fun p=>(p.1,p.2.map (iC k)))=bs')(c:rs.set k (some ⟨R.e,R.sz,R.es++bm s.data.toList,false⟩)=rs')
  (K:AOps w0 G0 ops rest Q ⟨n,(d,.own k)::sl',bs',rs'⟩):AOps w0 G0 ops (o::rest) Q ⟨n,sl,bs,rs⟩:=by
 subst b a c;refine gj l (zS (S:=⟨n,sl,bs,rs⟩) (e:=t) z (by rw[f];simpa[dM,Nv]using h) w i j q r m g v) ?_;rw[f];exact K
theorem Da{ty:TypeId}{e:List Value}(m:o.op=.alloc ty)(k:dM S.n o.dst=true)(b:gz Tryz.prog ty=some e)(l:e.all bQ=true):rk w0 G0 o S ({S with bs:=S.bs++[(ty,e.map Tree.sc)]}.put o.dst (.box S.bs.length 0)):=by
 rintro a w ⟨bx,rv,j,c,d,h⟩;unfold gz at b;simp only[Ow,Nb]at b;obtain⟨i,p,z,b,rfl⟩:=b;have f:=j.addBox (ty:=ty) (us:=z.cells.toList) (cs:=z.cells.toList.map Tree.sc) (.of (EV _ _ _)) l;refine aC (v:=.pointer (some ⟨w.heap.size,0,none⟩)) (W':=w.alloc (.cells z.cells ty)) ?_ ⟨bx++[w.heap.size],rv,?_,by rw[dY,fd,c],by rw[dg,d],?_⟩
 ·have g:(zeroValue ty).run Tryz.prog w=.ok z w:=by simp[zeroValue,typeInfo,p,b]
  simp[execOp,m,Instr.alloc,newVar,newRow,newObj,Sem.run,g]
 ·rw[eB,c6];simpa using f
 rw[c6];intro i;rw[gD a o.dst _ S.n c k,dV];split
 ·exact .box _ _ _ (by show(bx++[w.heap.size])[S.bs.length]? =_;rw[<-j.nb];simp) .nil
 exact kL _ (h i)
theorem wh{ops:Array Oper}{rest:List Oper}{Q:Exit->St->Prop}{n d b:Nat}{sl:List (Nat×Tree)}{bs bs':List (TypeId×List Tree)}{rs:List (Option Row)}{ty:TypeId}{c:List Value}{cs:List Tree}(m:o.op=.alloc ty)(h:o.guard=none)(e:o.dst=some d)(j:Nat.blt d n=true)(g:gz Tryz.prog ty=some c)(f:c.all bQ=true)(l:c.map Tree.sc=cs)(i:bs.length=b)(a:bs++[(ty,cs)]=bs')
  (k:AOps w0 G0 ops rest Q ⟨n,(d,.box b 0)::sl,bs',rs⟩):AOps w0 G0 ops (o::rest) Q ⟨n,sl,bs,rs⟩:=by
 subst l i a;refine gj h (Da (S:=⟨n,sl,bs,rs⟩) m (by rw[e];simpa[dM,Nv]using j) g f) ?_;rw[e];exact k
end
end Go.Proofs.YtfoejfohbkmmeaaGreatDoor
