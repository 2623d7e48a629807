import Derived.Test.YtfoejfohbkmmeaaGreatDoorU09
import Derived.Test.YtfoejfohbkmmeaaGreatDoorU00
namespace Go.Proofs.YtfoejfohbkmmeaaGreatDoor
open Go.RowKit
open Lib renaming hid→J
section
variable {w0:World} {G0:Nat->Prop} {S:St} {o:Oper}
theorem Eo{n:Nat}{es:List Tree}(a:Sized n es){j:Nat}(b:j<es.length){t:Tree}(_:t.cells.length=n):flat (es.set j t)=(flat es).take (j*n)++t.cells++(flat es).drop (j*n+n):=by
 rw[Pj,if_pos b,iF,ei,mw a,jh a,show(j+1)*n=j*n+n by rw[M3];omega,MG]
theorem Sized.set{n:Nat}{es:List Tree}(b:Sized n es)(j:Nat){t:Tree}(c:t.cells.length=n):Sized n (es.set j t):=fun x a=>by
 rcases OH a with h|rfl
 ·exact b x h
 exact c
theorem Bq{w:World}{bs:List (TypeId×List Tree)}{rs:List (Option Row)}{bx:List Nat}{rv:List Value}{k off:Nat}{R:Row}{v:Value}(i:Mem w0 G0 bs rs bx rv w)(b:rs[k]? =some (some R))(h:FT (en w G0 bx rv rs) [v] [.elp k off]):
  ∃g n c xs,v=.pointer (some ⟨g,off,none⟩)/\rv[k]? =some (.slice (some ⟨g,0,none⟩) n c)/\w.ownsRow w0.heap.size R.e R.sz (.slice (some ⟨g,0,none⟩) n c) R.es.length xs/\PT w (GG G0 bx rv rs) xs (flat R.es)/\(Sized R.sz R.es/\(R.tt=true->np (.slice (some ⟨g,0,none⟩) n c)))/\NoDigB w g:=by
 obtain⟨g,n,c,a,rfl⟩:=h.isElp;have a:fh rv rs k=some _:=a;simp only[fh,b,Nc,id]at a;obtain⟨xs,l,f,j,d⟩:=i.row k _ R a b;exact⟨g,n,c,xs,Z,a,l,f,j,d g Z⟩
theorem gK{x p:Operand}{t e:TypeId}{n k r:Nat}{R:Row}{h:IntKind}{i:Int}{j:Nat}(f:o.op=.indexAddr t x p)(D:gE Tryz.prog t=some (e,n))(u:S.ev x=.own k)(l:S.rs[k]? =some (some R))(J:R.sz=n)(C:S.ev p=.sc (.int h i))(A:i=j)(B:j<R.es.length)(d:j*n=r):OpOK o S (.elp k r):=by
 subst d A;intro w0 G0 bx rv w T H q;have z:=(bI q C (by rw[f];simp[Op.operands])).isSc;have E:=bI q u (by rw[f];simp[Op.operands]);obtain⟨G,xs,a,I,y,F⟩:=jn H l E;rcases a.2 with⟨_,K⟩|⟨g,m,cur,s,_⟩
 ·omega
 have d:=kV (P:=Tryz.prog) (w:=w) (b:=g) (o:=0) (n:=R.es.length) (c:=m) (k:=h) (i:=(j:Int)) D (by omega) (by omega);rw[Oq]at d;refine aq (v:=.pointer (some ⟨g,j*n,none⟩)) (W':=w) ?_ ⟨.elp k (j*n) g R.es.length m ?_ .nil,Below.refl _ _⟩
 ·simp only[M0]at d;simp[execOp,f,z,s,d]
 show fh rv S.rs k=_
 simp only[fh,l,Nc,id];rw[G,s]
theorem tW{w:World}{base g n c:Nat}{e:TypeId}{sz m:Nat}{xs:List Value}(h:w.ownsRow base e sz (.slice (some ⟨g,0,none⟩) n c) m xs):∃cur:List Value,IsBlk w g e cur.toArray/\cur.length=c*sz/\n=m/\n<=c/\cur.take (m*sz)=xs/\base<=g/\c<=maxLen/\∀(j:Nat) u,xs[j]? =some u->w.cell? ⟨g,j,none⟩=some u:=by
 rcases h.2 with⟨f,_⟩|⟨v,t,cur,f,k,p,l,q,r,i⟩
 ·cases f
 injection f with b s o
 injection b with b
 injection b with b
 subst b s o;have a:IsBlk w g e cur.toList.toArray:=by simpa[IsBlk]using p
 refine⟨cur.toList,a,by simpa using r,Z,l,i,k,q,fun j u d=>?_⟩;rw[a.cell j];rw[<-i,MZ]at d;split at d
 ·simpa using d
 cases d
theorem oh{x:Operand}{t:TypeId}{k off j fo:Nat}{R:Row}{c d:Tree}(m:o.op=.load t x)(r:S.ev x=.elp k off)(y:S.rs[k]? =some (some R))(B:iU Tryz.prog t=true)(C:R.es[j]? =some c)(e:off=j*R.sz+fo)(h:fo<R.sz)(D:c.cells[fo]? =some d):OpOK o S d:=by
 intro w0 G0 bx rv w T G E;obtain⟨g,n,I,xs,z,J,q,H,p,_⟩:=Bq G y (bI E r (by rw[m];simp[Op.operands]));obtain⟨_,_,_,_,_,_,_,_,a⟩:=tW q;obtain⟨f,i⟩:=L7.1 C;have l:=Bc p.1 j f fo h;rw[i,D,<-e]at l;obtain⟨u,s,F⟩:=H.get off d l;have A:=iV (P:=Tryz.prog) (w:=w) (b:=g) (o:=off) (u:=u) B (a off u s);refine aq (v:=u) (W':=w) ?_ ⟨.pure F .nil,Below.refl _ _⟩;simp[execOp,m,z,A]
theorem Mem.setRowE{w w':World}{bs:List (TypeId×List Tree)}{rs:List (Option Row)}{bx:List Nat}{rv:List Value}{k:Nat}{v:Value}{R R':Row}(h:Mem w0 G0 bs rs bx rv w){xs:List Value}(n:rv[k]? =some v)(o:rs[k]? =some (some R))(q:w.grownBy w' v.ownBlock)(ho:w'.ownsRow w0.heap.size R'.e R'.sz v R'.es.length xs)(O:PT w' (GG G0 bx rv rs) xs (flat R'.es))(J:Sized R'.sz R'.es/\(R'.tt=true->np v))(S:∀g,v.ownBlock=some g->NoDigB w' g):
  Mem w0 G0 bs (rs.set k (some R')) bx rv w'/\(∀us ts,FT (en w G0 bx rv rs) us ts->FT (en w' G0 bx rv (rs.set k (some R'))) us ts):=by
 have K:=(L7.1 n).1;have p:=(L7.1 o).1;have U:rv.set k v=rv:=by rw[<-(L7.1 n).2];exact List.set_getElem_self K
 have x:∀b,b∈cq bx rv (rs.set k (some R'))↔b∈cq bx rv rs:=fun b=>by
  rw[aX,aX];refine or_congr OU ⟨?_,?_⟩
  ·rintro⟨j,u,X,a,c,l⟩;by_cases d:j=k
   ·subst d;rw[n]at a;cases a;exact⟨j,v,R,n,o,l⟩
   rw[Nm (fun e=>d e.symm)]at c;exact⟨j,u,X,a,c,l⟩
  rintro⟨j,u,X,a,c,l⟩;by_cases d:j=k
  ·subst d;rw[n]at a;cases a;exact⟨j,v,R',n,by rw[NA p],l⟩
  exact⟨j,u,X,a,by rw[Nm (fun e=>d e.symm)];exact c,l⟩
 have r:∀b,GG G0 bx rv (rs.set k (some R')) b↔GG G0 bx rv rs b:=fun b=>or_congr OU (x b)
 have m:∀b,b<w.heap.size->¬GG G0 bx rv rs b->w'.heap[b]? =w.heap[b]? /\¬GG G0 bx rv (rs.set k (some R')) b:=fun b L M=>⟨q.block b L fun e=>M (.inr (aX.2 (.inr ⟨k,v,R,n,o,e.symm⟩))),fun h=>M ((r b).1 h)⟩
 have A:∀j u,fh rv rs j=some u->fh rv (rs.set k (some R')) j=some u:=fun j u d=>by
  unfold fh at d⊢;by_cases y:j=k
  ·subst y;rw[o]at d;rw[NA p];exact d
  rw[Nm (fun e=>y e.symm)];exact d
 have z:∀us ts,FT (en w G0 bx rv rs) us ts->FT (en w' G0 bx rv (rs.set k (some R'))) us ts:=fun us ts hf=>hf.mono (E':=en w' G0 bx rv (rs.set k (some R'))) q.size m (fun _ _ h=>h) A
 have G:GG G0 bx rv (rs.set k (some R'))=GG G0 bx rv rs:=funext fun b=>propext (r b)
 refine⟨⟨h.below.grown q h.below.size (fun b e=>h.ge b (aX.2 (.inr ⟨k,v,R,n,o,e⟩))),h.env0,h.g0,h.nb,by simp[h.nr],fun i g s=>?_,fun j u X a c=>?_,⟨h.nodup.bb,fun j u X b a c l=>?_,fun i j u t X Y b D a c l H N C=>?_⟩,fun b L=>h.ge b ((x b).1 L)⟩,z⟩
 ·obtain⟨ty,cs,us,a,c,l,H⟩:=h.box i g s;exact⟨ty,cs,us,a,(q.block g c.lt fun e=>h.nodup.br k v R g n o e.symm (L9 s)).trans c,z _ _ l,H⟩
 ·by_cases d:j=k
  ·subst d;rw[n]at a;cases a;rw[NA p]at c;cases c;exact⟨xs,ho,by rw[G];exact O,J,S⟩
  rw[Nm (fun e=>d e.symm)]at c;obtain⟨T,C,h7,Q,W⟩:=h.row j u X a c;have B:∀b,u.ownBlock=some b->v.ownBlock≠some b:=fun b I E=>h.nodup.rr j k u v X R b d a c n o I E
  refine⟨T,C.kept q ?_,h7.mono q.size m,Q,fun g F=>(W g F).of (q.block g (C.lt g F).2 fun e=>B g F e.symm)⟩;cases P:u.ownBlock with
  |none=>exact .inl Zz
  |some b=>exact .inr fun e=>B b P e.symm
 ·by_cases d:j=k
  ·subst d;exact h.nodup.br j u R b a o l
  rw[Nm (fun e=>d e.symm)]at c;exact h.nodup.br j u X b a c l
 have f:∀i X,(rs.set k (some R'))[i]? =some (some X)->∃Z,rs[i]? =some (some Z):=fun i X h=>by
  by_cases s:i=k
  ·subst s;exact⟨R,o⟩
  rw[Nm (fun e=>s e.symm)]at h;exact⟨X,h⟩
 obtain⟨X',I⟩:=f i X c;obtain⟨V,E⟩:=f j Y H;exact h.nodup.rr i j u t X' V b D a I l E N C
theorem oi{ty:TypeId}{x y:Operand}{k off j:Nat}{R:Row}{t:Tree}(ho:o.op=.store ty x y)(I:o.dst=none)(hx:S.ev x=.elp k off)(V:S.rs[k]? =some (some R))(q:off=j*R.sz)(hj:j<R.es.length)(ht:S.ev y=t)(h1:t.oneA=true)(h2:t.cells.all Tree.one=true)(hn:t.cells.all Tree.noDig=true)(hp:t.cells.all Tree.plain0=true)(hs:(Tryz.prog.info? ty).map (·.size)=some R.sz)(W:t.cells.length=R.sz):n5 w0 G0 o S {S with rs:=S.rs.set k (some ⟨R.e,R.sz,R.es.set j t,R.tt⟩)}:=by
 rintro a w ⟨bx,rv,hm,a3,X,u⟩;have hv:=bI (op:=o.op) (T:=fun s=>a.tmps.getD s undef) (S:=S) (fun s _=>u s) ht (by rw[ho];simp[Op.operands]);have F:=bI (op:=o.op) (T:=fun s=>a.tmps.getD s undef) (S:=S) (fun s _=>u s) hx (by rw[ho];simp[Op.operands]);generalize (fun s=>a.tmps.getD s undef)=T at hv F⊢;obtain⟨g,n,cp,xs,e1,K,m,N,z,a4⟩:=Bq hm V F;obtain⟨cur,h,A,M,Q,a2,B,a0,_⟩:=tW m;have G:=nX hv h1;have L:=G.plain0s hp;obtain⟨c,E⟩:∃c,cA T y=c:=⟨_,rfl⟩;rw[E]at hv G L;have b:c.cells.toList.length=R.sz:=by rw[G.length,W]
 have U:(j+1)*R.sz<=R.es.length*R.sz:=MJ _ hj;rw[M3,Og]at U;have a5:R.es.length*R.sz<=cp*R.sz:=MJ _ (by omega);have p:=m7 (P:=Tryz.prog) (w:=w) (g:=g) (off:=off) (ty:=ty) (t:=R.e) (cur:=cur) (v:=c) h (by rw[hs,show c.cells.size=R.sz from b]) (by rw[A,q];simp only[M7]at b;omega) (G.ones h2);have O:c.cells.size=R.sz:=b;rw[O]at p;have f:=n6 w g (cur.take off++c.cells.toList++cur.drop (off+R.sz)).toArray;have a9:g<w.heap.size:=h.lt;have r:IsBlk (w.setRow g (cur.take off++c.cells.toList++cur.drop (off+R.sz)).toArray) g R.e (cur.take off++c.cells.toList++cur.drop (off+R.sz)).toArray:=by
  have:=h;simp only[IsBlk,World.setRow]at this⊢;simp[NJ,this]
 have d:g∈cq bx rv S.rs:=aX.2 (.inr ⟨k,_,R,K,V,Z⟩);have J:(cur.take off++c.cells.toList++cur.drop (off+R.sz)).take (R.es.length*R.sz)=xs.take off++c.cells.toList++xs.drop (off+R.sz):=by
  subst a2;have e1:(cur.take off).length=off:=by rw[Mf,A];omega
  have e2:R.es.length*R.sz=off+R.sz+(R.es.length*R.sz-(off+R.sz)):=by omega
  rw[Qc,Nl (by omega),List.drop_take,MG,e2,OX,e1,Me (l:=cur.take off) (by omega),OX,b,Me (l:=c.cells.toList) (by omega),MG];rw[show off+R.sz+(R.es.length*R.sz-(off+R.sz))-off-R.sz=off+R.sz+(R.es.length*R.sz-(off+R.sz))-(off+R.sz) by omega]
 have H:NoDigB (w.setRow g (cur.take off++c.cells.toList++cur.drop (off+R.sz)).toArray) g:=cI r (by
  have D:=my (show w.heap[g]? =some (.cells cur.toArray R.e (0,0))from h) a4;exact n7 D (G.noDigs hn))
 obtain⟨Y,a1⟩:=hm.setRowE (R':=⟨R.e,R.sz,R.es.set j t,R.tt⟩) (w':=w.setRow g (cur.take off++c.cells.toList++cur.drop (off+R.sz)).toArray) (xs:=xs.take off++c.cells.toList++xs.drop (off+R.sz)) K V f
  (by
   refine⟨?_,.inr ⟨g,cp,_,?_,B,r,?_,a0,?_,?_⟩⟩
   ·have:=m.1;simp only[Mc,Mf,MS,MU,b,this];omega
   ·rw[MU,<-M]
   ·rw[MU,<-M];exact Q
   ·simp only[OR,Mc,Mf,MS,b,A];omega
   rw[MU];exact J)
  (by
   show PT _ _ _ (flat (R.es.set j t))
   rw[Eo z.1 hj W,<-q];exact(((n4 d f N).take off).append (n4 d f L)).append ((n4 d f N).drop (off+R.sz)))
  ⟨z.1.set j W,z.2⟩ (fun g' C=>by injection C with C;subst C;exact H)
 refine eY (W':=w.setRow g (cur.take off++c.cells.toList++cur.drop (off+R.sz)).toArray) (by simp only[execOp,ho,e1,E,Sem.run_bind,p,Result.andThen_ok];rfl) ⟨bx,rv,Y,by rw[dB];exact a3,by rw[cH,X],fun i=>?_⟩;rw[I];exact a1 _ _ (u i)
end
theorem Ep{w:World}{base a:Nat}{e:TypeId}{size n:Nat}{v:Value}{xs:List Value}(h:w.ownsRow base e size v n xs)(f:a<=base):w.ownsRow a e size v n xs:=by
 obtain⟨j,k⟩:=h;refine⟨j,k.imp (fun h=>h) ?_⟩;rintro⟨g,b,cur,i,d,c⟩;exact⟨g,b,cur,i,L6 f d,c⟩
theorem wT{α:Type}(l:List α)(b:0<l.length):∀(m i:Nat),(List.replicate m l).flatten[i]? =if i<m*l.length then l[i%l.length]? else none
 |0,i=>by simp
 |m+1,i=>by
  rw[N6,Qx,M3,Og];rcases MI i l.length with h|h
  ·rw[ME h,if_pos (by omega),NZ h]
  rw[Mw h,wT l b m (i-l.length),<-Nat.mod_eq_sub_mod h];by_cases a:i-l.length<m*l.length
  ·rw[if_pos a,if_pos (by omega)]
  rw[if_neg a,if_neg (by omega)]
theorem tX(z:Array Value)(a:0<z.size)(m:Nat):(madeCells z (m*z.size)).toList=(List.replicate m z.toList).flatten:=by
 apply PN;intro i;rw[wT z.toList (by simpa using a) m i];simp only[M7];by_cases h:i<m*z.size
 ·rw[if_pos h];have b:i%z.size<z.size:=Ni _ a;simp[madeCells,h,b]
 rw[if_neg h];simp[madeCells];omega
theorem Er(W:World)(G:Nat->Prop){a:List Value}{zt:Tree}(h:zt.cells=a.map dg):∀m,PT W G (List.replicate m a).flatten (flat (List.replicate m zt))
 |0=>.nil
 |m+1=>by
  rw[N6,N6,Qx,ei,h];exact(nY W G a).append (Er W G h m)
section
variable {w0:World} {G0:Nat->Prop} {S:St} {o:Oper}
theorem m8{bx:List Nat}{rv:List Value}{rs:List (Option Row)}{v:Value}{R:Row}(a:rv.length=rs.length)(b:Nat):b∈cq bx (rv++[v]) (rs++[some R])↔b∈cq bx rv rs\/v.ownBlock=some b:=by
 rw[aX,aX];constructor
 ·rintro(h|⟨j,u,X,d,e,c⟩)
  ·exact .inl (.inl h)
  rcases cS a j u X d e with⟨_,rfl,_⟩|⟨_,i,f⟩
  ·exact .inr c
  exact .inl (.inr ⟨j,u,X,i,f,c⟩)
 rintro((h|⟨j,u,X,d,e,c⟩)|h)
 ·exact .inl h
 ·have g:=(L7.1 d).1;have k:=(L7.1 e).1;exact .inr ⟨j,u,X,by rw[ME g];exact d,by rw[ME k];exact e,c⟩
 exact .inr ⟨rs.length,v,R,by rw[Mw (by omega),a,M4];rfl,by rw[Mw (L5 _),M4];rfl,h⟩
theorem Mem.addRow{w w':World}{bs:List (TypeId×List Tree)}{rs:List (Option Row)}{bx:List Nat}{rv:List Value}{v:Value}{R:Row}{xs:List Value}(h:Mem w0 G0 bs rs bx rv w)(o:Below w.heap.size w w')(L:w'.ownsRow w.heap.size R.e R.sz v R.es.length xs)(P:PT w' (fun b=>GG G0 bx rv rs b\/v.ownBlock=some b) xs (flat R.es))(F:Sized R.sz R.es/\(R.tt=true->np v))(T:∀g,v.ownBlock=some g->NoDigB w' g):
  Mem w0 G0 bs (rs++[some R]) bx (rv++[v]) w'/\(∀us ts,FT (en w G0 bx rv rs) us ts->FT (en w' G0 bx (rv++[v]) (rs++[some R])) us ts):=by
 have a:=h.nr;have H:∀b,GG G0 bx (rv++[v]) (rs++[some R]) b↔(GG G0 bx rv rs b\/v.ownBlock=some b):=fun b=>by
  unfold GG;rw[m8 a,or_assoc]
 have c:∀b,v.ownBlock=some b->w.heap.size<=b:=fun b e=>(L.lt b e).1
 have f:∀b,b<w.heap.size->¬GG G0 bx rv rs b->w'.heap[b]? =w.heap[b]? /\¬GG G0 bx (rv++[v]) (rs++[some R]) b:=fun b A O=>⟨o.block b A,fun z=>by
  rcases(H b).1 z with d|d
  ·exact O d
  have:=c b d;omega⟩
 have C:∀j u,fh rv rs j=some u->fh (rv++[v]) (rs++[some R]) j=some u:=fun j u h=>by
  unfold fh at h⊢;cases y:rs[j]? with
  |none=>simp[y]at h
  |some r=>
   have S:=(L7.1 y).1;rw[ME S,ME (by omega)];exact h
 have x:∀us ts,FT (en w G0 bx rv rs) us ts->FT (en w' G0 bx (rv++[v]) (rs++[some R])) us ts:=fun us ts W=>W.mono (E':=en w' G0 bx (rv++[v]) (rs++[some R])) o.size f (fun _ _ h=>h) C
 have s:=h.below.size;refine⟨⟨ak h.below o s,h.env0,h.g0,h.nb,by simp[a],fun i g B=>?_,fun j u X d l=>?_,⟨h.nodup.bb,fun j u X b d l n M=>?_,fun i j u t X Y b q d l n k m p=>?_⟩,fun b D=>?_⟩,x⟩
 ·obtain⟨ty,cs,us,d,l,n,k⟩:=h.box i g B;exact⟨ty,cs,us,d,l.below o l.lt,x _ _ n,k⟩
 ·rcases cS a j u X d l with⟨_,rfl,rfl⟩|⟨_,k,m⟩
  ·exact⟨xs,Ep L s,by rw[show GG G0 bx (rv++[u]) (rs++[some X])=(fun b=>GG G0 bx rv rs b\/u.ownBlock=some b)from funext fun b=>propext (H b)];exact P,F,T⟩
  obtain⟨U,p,Z,Q,V⟩:=h.row j u X k m;exact⟨U,dz p o,Z.mono o.size f,Q,fun g z=>(V g z).of (o.block g (p.lt g z).2)⟩
 ·rcases cS a j u X d l with⟨_,rfl,_⟩|⟨_,k,m⟩
  ·have K:=c b n;have I:=(h.ok b (.inr (aX.2 (.inl M)))).1;omega
  exact h.nodup.br j u X b k m n M
 ·rcases cS a i u X d l with⟨B,rfl,_⟩|⟨_,J,N⟩
  ·rcases cS a j t Y n k with⟨y,_,_⟩|⟨_,G,E⟩
   ·exact q (B.trans y.symm)
   have K:=c b m;have I:=(h.ok b (.inr (aX.2 (.inr ⟨j,t,Y,G,E,p⟩)))).1;omega
  rcases cS a j t Y n k with⟨_,rfl,_⟩|⟨_,G,E⟩
  ·have K:=c b p;have I:=(h.ok b (.inr (aX.2 (.inr ⟨i,u,X,J,N,m⟩)))).1;omega
  exact h.nodup.rr i j u t X Y b q J N G E m p
 rcases(m8 a b).1 D with d|d
 ·exact h.ge b d
 have:=c b d;omega
theorem vA{a:Act}{w':World}{bx:List Nat}{rv:List Value}{v:Value}{R:Row}{d:Nat}{S:St}(b:a.tmps.size=S.n)(e:a.defers=[])(l:cT S.n o.dst=true)(g:rv.length=S.rs.length)(k:Mem w0 G0 S.bs (S.rs++[some R]) bx (rv++[v]) w')(j:∃A n c,v=.slice A n c)(f:∀i,FT (en w' G0 bx (rv++[v]) (S.rs++[some R])) [a.tmps.getD i undef] [S.get i])(h:S.rs.length=d):
  Sim w0 G0 ({S with rs:=S.rs++[some R]}.put o.dst (.own d)) (a.put o.dst v) w':=by
 subst h;refine⟨bx,rv++[v],by rw[dC,ch];exact k,by rw[dB,eo];exact b,by rw[cH,e],fun i=>?_⟩;rw[ch];rw[ga a o.dst v S.n b l,dk];split
 ·obtain⟨A,n,c,rfl⟩:=j;refine .own _ n c A ?_ .nil;show fh (rv++[_]) (S.rs++[some R]) S.rs.length=_
  unfold fh;rw[Mw (L5 _),M4,Mw (by omega),g,M4];rfl
 exact f i
def CtO(f:FuncId)(args:List Tree)(e sz:Nat)(es:List Tree):Prop:=(∃fn,Tryz.prog.funcs[f]? =some fn/\(fn.name== "runtime.NumGoroutine")=false/\fn.body.isNone=false)/\∀(G:Nat->Prop) (w:World) (vs:List Value),Env w->(∀g,G g->g<w.heap.size/\NoDigB w g)->PT w G vs args->
 Calls Tryz.prog f vs.toArray w fun x w'=>∃v xs,x=.returned v/\w'.ownsRow w.heap.size e sz v es.length xs/\PT w' (fun b=>G b\/v.ownBlock=some b) xs (flat es)/\Sized sz es/\(∀g,v.ownBlock=some g->NoDigB w' g)/\Below w.heap.size w w'
theorem Es{f:FuncId}{xs:Array Operand}{k:Array TypeId}{ts es:List Tree}{e sz:Nat}(t:o.op=.call {callee:=.value (.func f),args:=xs,argTypes:=k})(H:cT S.n o.dst=true)(l:CtO f ts e sz es)(G:xs.toList.map S.ev=ts)(M:ts.all Tree.plain=true):n5 w0 G0 o S ({S with rs:=S.rs++[some (⟨e,sz,es,false⟩:Row)]}.put o.dst (.own S.rs.length)):=by
 rintro a w ⟨bx,rv,d,m,j,b⟩;have r:=n3 (E:=en w G0 bx rv S.rs) (T:=fun s=>a.tmps.getD s undef) (op:=o.op) (S:=S) (fun s _=>b s) xs.toList (fun x z=>by rw[t];simp only[Op.operands,Call.operands];simp;exact .inr (by simpa using z));rw[G]at r;obtain⟨⟨u,C,N,p⟩,l⟩:=l;have g:=l (GG G0 bx rv S.rs) w _ d.env d.ok (r.plains M);refine bJ (f:=f) (args:=(xs.toList.map (cA fun s=>a.tmps.getD s undef)).toArray) ?_ (g.mono ?_)
 ·have L:¬u.name= "runtime.NumGoroutine" :=by simpa using N
  have D:¬u.body=none:=fun e=>by rw[e]at p;cases p
  have O:(xs.toList.map (cA fun s=>a.tmps.getD s undef)).toArray=xs.map (cA fun s=>a.tmps.getD s undef):=OW (by simp);rw[O];simp[execOp,t,resolve,cA,Deferred.ofValue,invoke,callFunc,C,L,D]
 rintro x w' ⟨v,Q,rfl,q,F,J,B,I⟩;obtain⟨y,K⟩:=d.addRow (R:=⟨e,sz,es,false⟩) I q F ⟨J,fun h=>by cases h⟩ B;obtain⟨A,c,P⟩:=cc q;exact⟨v,Z,vA m j H d.nr y ⟨A,_,c,P⟩ (fun i=>K [_] [_] (b i)) Z⟩
theorem Br{t e:TypeId}{x y:Operand}{m sz b:Nat}{M:List Value}{kl kc:IntKind}{X ic:Int}{zt:Tree}(U:o.op=.makeSlice t x y)(hd:cT S.n o.dst=true)(ht:lM Tryz.prog t=some (e,sz,b))(B:gc Tryz.prog e=some M)(D:S.ev x=.sc (.int kl X))(hy:S.ev y=.sc (.int kc ic))(O:X=m)(C:ic=m)(r:zt.cells=M.map dg)(hm:m<=1073741824)(Q:Nat.ble b 100000=true):n5 w0 G0 o S ({S with rs:=S.rs++[some (⟨e,sz,List.replicate m zt,true⟩:Row)]}.put o.dst (.own S.rs.length)):=by
 rintro a w ⟨bx,rv,p,N,G,h⟩;have e1:=(bI (op:=o.op) (T:=fun s=>a.tmps.getD s undef) (S:=S) (fun s _=>h s) D (by rw[U];simp[Op.operands])).isSc;have e2:=(bI (op:=o.op) (T:=fun s=>a.tmps.getD s undef) (S:=S) (fun s _=>h s) hy (by rw[U];simp[Op.operands])).isSc;generalize (fun s=>a.tmps.getD s undef)=T at e1 e2⊢;obtain⟨E,⟨i,z,hi,j,H,L,W,I⟩,a0⟩:=qQ ht;have F:M=z.cells.toList:=by
  unfold gc at B;simp only[Ot,Na]at B;obtain⟨i',q,z',f,rfl⟩:=B;rw[hi]at q;cases q;rw[j]at f;cases f;rfl
 subst O C F W;have K:b<=100000:=by simpa using Q
 have a1:m*b<=1073741824*100000:=NU hm K;have Y:=run_make (P:=Tryz.prog) w t e i z E hi j kl kc m m (by omega) (Int.le_refl _) (by
  rw[L];have:(b:Int)*(m:Int)=((m*b:Nat):Int):=by rw[Pw,Int.mul_comm]
  rw[this];omega) (by omega)
 rw[Oq,H]at Y;have d:=World.ownsRow_lit (base:=w.heap.size) (e:=e) (size:=z.cells.size) w (madeCells z.cells (m*z.cells.size)) m (L5 _) (by simp only[maxLen];omega) (size_madeCells _ _);rw[tX z.cells (by omega) m]at d;have hb:Below w.heap.size w (w.alloc (.cells (madeCells z.cells (m*z.cells.size)) e)):=(Below.refl _ _).alloc (L5 _) _;have V:∀g,(Value.slice (some ⟨w.heap.size,0,none⟩) m m).ownBlock=some g->NoDigB (w.alloc (.cells (madeCells z.cells (m*z.cells.size)) e)) g:=fun g J=>by
  injection J with J
  subst J;refine cI (heap_alloc_new w _) ?_;rw[tX z.cells (by omega) m];refine Mh.2 fun u E=>?_
  obtain⟨l,hl,k⟩:=List.mem_flatten.1 E;rw[(ON.1 hl).2]at k;exact Mh.1 I u k
 obtain⟨m1,m2⟩:=p.addRow (R:=⟨e,z.cells.size,List.replicate m zt,true⟩) (v:=.slice (some ⟨w.heap.size,0,none⟩) m m) hb (by rw[Ok];exact d) (Er _ _ r m) ⟨fun x D=>by
  rw[(ON.1 D).2,r,L8,M7],fun _ A n c e=>by cases e;rfl⟩ V
 refine aq (v:=.slice (some ⟨w.heap.size,0,none⟩) m m) (W':=w.alloc (.cells (madeCells z.cells (m*z.cells.size)) e)) ?_ (vA N G hd p.nr m1 ⟨_,_,_,Z⟩ (fun i=>m2 [_] [_] (h i)) Z);simp[execOp,U,e1,e2,Y]
theorem IR{ops:Array Oper}{a:List Oper}{Q:Exit->St->Prop}{n d k:Nat}{sl:List (Nat×Tree)}{bs:List (TypeId×List Tree)}{rs rs':List (Option Row)}{t e:TypeId}{x y:Operand}{m sz b:Nat}{q:List Value}{w z:IntKind}{j p:Int}{zt:Tree}(D:o.op=.makeSlice t x y)(B:o.guard=none)(l:o.dst=some d)(s:Nat.blt d n=true)(A:lM Tryz.prog t=some (e,sz,b))(r:gc Tryz.prog e=some q)(u:St.ev ⟨n,sl,bs,rs⟩ x=.sc (.int w j))(v:St.ev ⟨n,sl,bs,rs⟩ y=.sc (.int z p))(h:j=m)(c:p=m)(i:zt.cells=q.map dg)(E:m<=1073741824)(g:Nat.ble b 100000=true)(C:rs.length=k)(f:rs++[some ⟨e,sz,List.replicate m zt,true⟩]=rs')(K:AOps w0 G0 ops a Q ⟨n,(d,.own k)::sl,bs,rs'⟩):AOps w0 G0 ops (o::a) Q ⟨n,sl,bs,rs⟩:=by
 subst C f;refine eD B (Br (S:=⟨n,sl,bs,rs⟩) D (by rw[l];simpa[cT,Nn]using s) A r u v h c i E g) ?_;rw[l];exact K
theorem IS{ops:Array Oper}{a:List Oper}{Q:Exit->St->Prop}{n d k:Nat}{sl:List (Nat×Tree)}{bs:List (TypeId×List Tree)}{rs rs':List (Option Row)}{f:FuncId}{xs:Array Operand}{b:Array TypeId}{ts es:List Tree}{e sz:Nat}(j:o.op=.call {callee:=.value (.func f),args:=xs,argTypes:=b})(q:o.guard=none)(g:o.dst=some d)(h:Nat.blt d n=true)(m:CtO f ts e sz es)(l:xs.toList.map (St.ev ⟨n,sl,bs,rs⟩)=ts)(p:ts.all Tree.plain=true)(i:rs.length=k)(c:rs++[some ⟨e,sz,es,false⟩]=rs')(K:AOps w0 G0 ops a Q ⟨n,(d,.own k)::sl,bs,rs'⟩):AOps w0 G0 ops (o::a) Q ⟨n,sl,bs,rs⟩:=by
 subst i c;refine eD q (Es (S:=⟨n,sl,bs,rs⟩) j (by rw[g];simpa[cT,Nn]using h) m l p) ?_;rw[g];exact K
theorem Et{ops:Array Oper}{a:List Oper}{Q:Exit->St->Prop}{n:Nat}{sl:List (Nat×Tree)}{bs:List (TypeId×List Tree)}{rs rs':List (Option Row)}{ty:TypeId}{x y:Operand}{k off j:Nat}{R:Row}{t:Tree}(h:o.op=.store ty x y)(p:o.guard=none)(c:o.dst=none)(l:St.ev ⟨n,sl,bs,rs⟩ x=.elp k off)(q:rs[k]? =some (some R))(b:off=j*R.sz)(s:j<R.es.length)(i:St.ev ⟨n,sl,bs,rs⟩ y=t)(r:t.oneA=true)(v:t.cells.all Tree.one=true)(g:t.cells.all Tree.noDig=true)(m:t.cells.all Tree.plain0=true)(u:(Tryz.prog.info? ty).map (·.size)=some R.sz)(f:t.cells.length=R.sz)(d:rs.set k (some ⟨R.e,R.sz,R.es.set j t,R.tt⟩)=rs')(K:AOps w0 G0 ops a Q ⟨n,sl,bs,rs'⟩):AOps w0 G0 ops (o::a) Q ⟨n,sl,bs,rs⟩:=by
 subst d;exact eD p (oi (S:=⟨n,sl,bs,rs⟩) h c l q b s i r v g m u f) K
def J8(s:Nat)(e sz:Nat)(es:List Tree)(x:Exit)(S:St):Prop:=(x=.normal\/x=.ret)/\∃k tt,S.get s=.own k/\S.rs[k]? =some (some ⟨e,sz,es,tt⟩)
theorem CtO.of{f:FuncId}{d:Func}{c:Code}{args es:List Tree}{e sz n s:Nat}(N:Tryz.prog.funcs[f]? =some d)(r:d.body=some c)(C:(d.name== "runtime.NumGoroutine")=false)(W:d.ntmps=n)(J:Nat.ble args.length n=true)(Q:d.results.toList=[.tmp s])
  (h:∀w0 G0,AWP w0 G0 c (J8 s e sz es) ⟨n,j5 0 args,[],[]⟩):CtO f args e sz es:=by
 refine⟨⟨d,N,C,by rw[r];rfl⟩,fun G w vs O P L=>?_⟩;have M:=L.length;have J:args.length<=n:=by simpa using J
 refine calls_of_wp N r (wp_mono (h w G _ w ⟨[],[],⟨Below.refl _ _,O,P,Z,Z,fun i g A=>by simp at A,fun k v R m=>by simp at m,⟨Pb,fun k v R b m=>by simp at m,fun j k u v X R b _ m=>by simp at m⟩,fun b r=>by simp[cq]at r⟩,?_,Z,fun i=>?_⟩) ?_)
 ·simp;omega
 ·show FT _ _ [look (j5 0 args) i]
  rw[mB,if_pos (Mx _),O8];cases S:args[i]? with
  |none=>exact .any _ .nil
  |some t=>
   obtain⟨u,I,D⟩:=L.get i t S;have A:=(L7.1 I).1;have T:(vs.toArray++Array.replicate (d.ntmps-vs.toArray.size) undef).getD i undef=u:=by
    rw[MV,Oz (by simpa using A),NV,I];rfl
   rw[T];refine .pure (D.mono (L5 _) fun b _ l=>⟨Z,fun h=>?_⟩) .nil;rcases h with h|h
   ·exact l h
   simp[cq]at h
 rintro x a w' ⟨S',⟨U,k,Y,V,K⟩,bx,rv,F,_,B,y⟩;obtain⟨us,p,q⟩:=jK F y (Q▸(.cons V .nil:ResL S' [.tmp s] [.own k]));obtain⟨u,rfl⟩:∃u,us=[u]:=by
  match us,q with
  |[u],_=>exact⟨u,Z⟩
  |[],h=>cases h
  |u::u'::us,h=>have:=h.length;simp at this
 obtain⟨m,xs,o,H,z,E⟩:=jn F K q;have key:a.defers=[]/\∃v,(results d a.tmps).run Tryz.prog w'=.ok v w'/\(fun x w'=>∃v xs,x=Ending.returned v/\w'.ownsRow w.heap.size e sz v es.length xs/\PT w' (fun b=>G b\/v.ownBlock=some b) xs (flat es)/\Sized sz es/\(∀g,v.ownBlock=some g->NoDigB w' g)/\Below w.heap.size w w') (.returned v) w':=by
  refine⟨B,u,?_,_,xs,Z,o,?_,z.1,E,F.below⟩
  ·unfold results;rw[Sem.run_bind,Ol,Sem.run_map];exact congrArg (fun x:Result (List Value)=>(x.andThen fun a w'=>Result.ok a.toArray w').andThen fun a w'=>Sem.run Tryz.prog (pure (if h:a.size=1 then a[0]else Value.tuple a)) w') p
  refine H.mono (L5 _) fun b _ l=>⟨Z,fun h=>l ?_⟩
  rcases h with h|h
  ·exact .inl h
  exact .inr (aX.2 (.inr ⟨k,_,_,m,K,h⟩))
 rcases U with rfl|rfl
 ·exact key
 exact key
end
def l4(k:Nat)(es:List Tree):Tree->Tree
 | .own j=>if j=k then .tl es else .own j
 | .elp j off=>if j=k then .any else .elp j off
 | .agg _| .tup _=>.any
 |t=>t
def CA(k:Nat)(es:List Tree):Tree->Tree
 | .agg cs=>.agg (cs.map (l4 k es))
 |t=>l4 k es t
section
variable {w0 w:World} {G0:Nat->Prop} {bs:List (TypeId×List Tree)} {rs:List (Option Row)} {bx:List Nat} {rv:List Value} {k:Nat} {R:Row} {v:Value}
theorem Eu(b:Mem w0 G0 bs rs bx rv w)(a:rs[k]? =some (some R))(f:R.tt=true)(h:fh rv rs k=some v):PT w (GG G0 bx rv (rs.set k none)) [v] [.tl R.es]:=by
 have g:=Bo b a h;have e:rv[k]? =some v:=by simpa[fh,a]using h
 obtain⟨xs,i,_,d,_⟩:=b.row k v R e a;obtain⟨A,c,rfl⟩:=cc i;have:=d.2 f A _ c Z;subst this;exact .tl A _ R.es Z g .nil
theorem wU(a:Mem w0 G0 bs rs bx rv w)(d:rs[k]? =some (some R))(f:R.tt=true){u:Value}{t:Tree}(h:FT (en w G0 bx rv rs) [u] [t]):FT (en w G0 bx rv (rs.set k none)) [u] [l4 k R.es t]:=by
 cases h with
 |pure h _=>
  cases t<;>first
   |exact .pure (h.mono (L5 _) l3) .nil
   |(simp only[l4];exact .any _ .nil)
   |(cases h)
 |any=>exact .any _ .nil
 |box b off g h _=>exact .box b off g h .nil
 |own j n c A hv _=>
  simp only[l4];split
  ·next e=>subst e;exact .pure (Eu a d f hv) .nil
  next e=>exact .own j n c A (vw j _ e hv) .nil
 |elp j off g n c hv _=>
  simp only[l4];split
  ·exact .any _ .nil
  next e=>exact .elp j off g n c (vw j _ e hv) .nil
 |agg=>exact .any _ .nil
 |tup=>exact .any _ .nil
theorem py(a:Mem w0 G0 bs rs bx rv w)(b:rs[k]? =some (some R))(c:R.tt=true):∀{us:List Value} {ts:List Tree},FT (en w G0 bx rv rs) us ts->FT (en w G0 bx rv (rs.set k none)) us (ts.map (l4 k R.es))
 |[],[],_=>.nil
 |[],_::_,h=>by cases h
 |_::_,[],h=>by cases h
 |u::us,t::ts,h=>FT.cons (wU a b c h.head) (py a b c h.tail)
theorem GM(a:Mem w0 G0 bs rs bx rv w)(b:rs[k]? =some (some R))(c:R.tt=true){u:Value}{t:Tree}(h:FT (en w G0 bx rv rs) [u] [t]):FT (en w G0 bx rv (rs.set k none)) [u] [CA k R.es t]:=by
 cases t with
 |agg cs=>
  obtain⟨xs,rfl,d⟩:=h.isAgg;exact .agg xs _ (py a b c d) .nil
 |_=>exact wU a b c h
end
section
variable {w0:World} {G0:Nat->Prop} {ops:Array Oper} {rest:List Oper} {Q:Exit->St->Prop} {o:Oper} {n:Nat} {sl:List (Nat×Tree)} {bs:List (TypeId×List Tree)} {rs:List (Option Row)} {S:St}
theorem Sim.relU{a:Act}{w:World}{k:Nat}{R:Row}(h:Sim w0 G0 ⟨n,sl,bs,rs⟩ a w)(s:rs[k]? =some (some R))(r:R.tt=true):Sim w0 G0 ⟨n,sl.map fun p=>(p.1,CA k R.es p.2),bs.map fun p=>(p.1,p.2.map (l4 k R.es)),rs.set k none⟩ a w:=by
 obtain⟨bx,rv,c,A,q,m⟩:=h;refine⟨bx,rv,⟨c.below,c.env0,c.g0,by simp[c.nb],by simp[c.nr],fun i g y=>?_,fun j u X d e=>?_,⟨c.nodup.bb,fun j u X b d e=>c.nodup.br j u X b d (iv j X e).2,fun i j u v X Y b o d e f l=>c.nodup.rr i j u v X Y b o d (iv i X e).2 f (iv j Y l).2⟩,fun b z=>c.ge b (nt z)⟩,A,q,fun i=>?_⟩
 ·obtain⟨ty,cs,us,d,e,f,l⟩:=c.box i g y;exact⟨ty,cs.map (l4 k R.es),us,by rw[MQ,d];rfl,e,py c s r f,l⟩
 ·obtain⟨xs,f,l,x,t⟩:=c.row j u X d (iv j X e).2;exact⟨xs,f,l.mono (L5 _) l3,x,t⟩
 show FT _ _ [look (sl.map fun p=>(p.1,CA k R.es p.2)) i]
 rw[jp (CA k R.es) Z];exact GM c s r (m i)
theorem Ev{c:Code}(k:Nat){R:Row}{sl':List (Nat×Tree)}{bs':List (TypeId×List Tree)}{rs':List (Option Row)}(g:rs[k]? =some (some R))(f:R.tt=true)(d:sl.map (fun p=>(p.1,CA k R.es p.2))=sl')(b:bs.map (fun p=>(p.1,p.2.map (l4 k R.es)))=bs')(e:rs.set k none=rs')(h:AWP w0 G0 c Q ⟨n,sl',bs',rs'⟩):AWP w0 G0 c Q ⟨n,sl,bs,rs⟩:=by
 subst d b e;exact fun a w i=>h a w (i.relU g f)
end
def rL(m:Nat):Tree->Tree
 | .box b off=>if b=m then .box (m+1) off else if b=m+1 then .box m off else .box b off
 | .agg _| .tup _=>.any
 |t=>t
def IU(m:Nat):Tree->Tree
 | .agg cs=>.agg (cs.map (rL m))
 |t=>rL m t
section
variable {w0 w:World} {G0:Nat->Prop} {bs:List (TypeId×List Tree)} {rs:List (Option Row)} {bx:List Nat} {rv:List Value} {g1 g2:Nat}
theorem IV{α:Type}{l:List α}{x y z:α}{i m:Nat}(c:l.length=m)(h:(l++[x,y])[i]? =some z):(i=m/\z=x)\/(i=m+1/\z=y)\/(i<m/\l[i]? =some z):=by
 subst c;rcases MI i l.length with a|a
 ·rw[ME a]at h;exact .inr (.inr ⟨a,h⟩)
 rw[Mw a]at h;have d:=(L7.1 h).1;simp only[Mb,Mo]at d;have:i-l.length=0\/i-l.length=1:=by omega
 rcases this with b|b<;>rw[b]at h<;>simp at h
 ·exact .inl ⟨by omega,h.symm⟩
 exact .inr (.inl ⟨by omega,h.symm⟩)
theorem Ew{α:Type}{l:List α}{x y z:α}{i m:Nat}(a:l.length=m)(h:(l++[x,y])[i]? =some z):(l++[y,x])[if i=m then m+1 else if i=m+1 then m else i]? =some z:=by
 rcases IV a h with⟨rfl,rfl⟩|⟨rfl,rfl⟩|⟨c,b⟩
 ·rw[if_pos Z,Mw (by omega),show i+1-l.length=1 by omega];rfl
 ·rw[if_neg (by omega),if_pos Z,Mw (by omega),show m-l.length=0 by omega];rfl
 rw[if_neg (by omega),if_neg (by omega),ME (by omega)];exact b
theorem pz(b:Nat):b∈cq (bx++[g2,g1]) rv rs↔b∈cq (bx++[g1,g2]) rv rs:=by
 rw[aX,aX];refine or_congr ?_ OU;simp only[My,Mi,N0,or_false];constructor<;>(rintro(h|h|h)<;>simp[h])
theorem Ex{m:Nat}(f:bx.length=m){u:Value}{t:Tree}(h:FT (en w G0 (bx++[g1,g2]) rv rs) [u] [t]):FT (en w G0 (bx++[g2,g1]) rv rs) [u] [rL m t]:=by
 have k:GG G0 (bx++[g2,g1]) rv rs=GG G0 (bx++[g1,g2]) rv rs:=funext fun b=>propext (or_congr OU (pz b))
 cases h with
 |pure h _=>
  have i:PT (en w G0 (bx++[g2,g1]) rv rs).W (en w G0 (bx++[g2,g1]) rv rs).G [u] [t]:=by
   show PT w (GG G0 (bx++[g2,g1]) rv rs) [u] [t]
   rw[k];exact h
  cases t<;>first
   |exact .pure i .nil
   |(simp only[rL];exact .any _ .nil)
   |(cases h)
 |any=>exact .any _ .nil
 |box b off g h _=>
  have h:(bx++[g1,g2])[b]? =some g:=h;have a:=Ew f h;simp only[rL];by_cases d:b=m
  ·rw[if_pos d]at a⊢;exact .box _ off g a .nil
  by_cases e:b=m+1
  ·rw[if_neg d,if_pos e]at a⊢;exact .box _ off g a .nil
  rw[if_neg d,if_neg e]at a⊢;exact .box _ off g a .nil
 |own j n c A hv _=>exact .own j n c A hv .nil
 |elp j off g n c hv _=>exact .elp j off g n c hv .nil
 |agg=>exact .any _ .nil
 |tup=>exact .any _ .nil
theorem vB{m:Nat}(a:bx.length=m):∀{us:List Value} {ts:List Tree},FT (en w G0 (bx++[g1,g2]) rv rs) us ts->FT (en w G0 (bx++[g2,g1]) rv rs) us (ts.map (rL m))
 |[],[],_=>.nil
 |[],_::_,h=>by cases h
 |_::_,[],h=>by cases h
 |u::us,t::ts,h=>FT.cons (Ex a h.head) (vB a h.tail)
theorem J9{m:Nat}(a:bx.length=m){u:Value}{t:Tree}(h:FT (en w G0 (bx++[g1,g2]) rv rs) [u] [t]):FT (en w G0 (bx++[g2,g1]) rv rs) [u] [IU m t]:=by
 cases t with
 |agg cs=>
  obtain⟨xs,rfl,b⟩:=h.isAgg;exact .agg xs _ (vB a b) .nil
 |_=>exact Ex a h
theorem IW{S S':St}{a:Act}{m:Nat}{p:List (TypeId×List Tree)}{x y:TypeId×List Tree}(h:Sim w0 G0 S a w)(E:p.length=m)(K:S.bs=p++[x,y])(L:S'.n=S.n)(r:S'.bs=(p++[y,x]).map fun q=>(q.1,q.2.map (rL m)))(f:S'.rs=S.rs)(M:∀s,S'.get s=IU m (S.get s)):Sim w0 G0 S' a w:=by
 obtain⟨bx,rv,c,F,D,B⟩:=h;have O:bx.length=m+2:=by rw[c.nb,K];simp[E]
 obtain⟨l,g1,g2,rfl,z⟩:∃l g1 g2,bx=l++[g1,g2]/\l.length=m:=by
  refine⟨bx.take m,bx[m],bx[m+1],?_,by simp;omega⟩;conv=>lhs;rw[<-M8 m bx]
  congr 1;rw[Md (by omega),Md (by omega),Mg (by omega)]
 refine⟨l++[g2,g1],rv,⟨c.below,c.env0,c.g0,by rw[r];simp[z,E],by rw[f];exact c.nr,fun i g N=>?_,fun k v R H o=>?_,⟨?_,fun k v R b H o d j=>?_,by rw[f];exact c.nodup.rr⟩,fun b d=>?_⟩,by rw[L];exact F,D,fun i=>?_⟩
 ·obtain⟨ty,cs,us,u,G,C,I⟩:=c.box _ g (Ew z N);rw[K]at u;have J:=Ew E u;have e:(if(if i=m then m+1 else if i=m+1 then m else i)=m then m+1 else if(if i=m then m+1 else if i=m+1 then m else i)=m+1 then m else(if i=m then m+1 else if i=m+1 then m else i))=i:=by
   by_cases t:i=m
   ·rw[if_pos t,if_neg (by omega),if_pos Z,t]
   by_cases A:i=m+1
   ·rw[if_neg t,if_pos A,if_pos Z,A]
   rw[if_neg t,if_neg A,if_neg t,if_neg A]
  rw[e]at J;refine⟨ty,cs.map (rL m),us,by rw[r,MQ,J];rfl,G,?_,I⟩;rw[f];exact vB z C
 ·rw[f]at o;obtain⟨xs,u,G,C,I⟩:=c.row k v R H o;refine⟨xs,u,?_,C,I⟩;rw[f,show GG G0 (l++[g2,g1]) rv S.rs=GG G0 (l++[g1,g2]) rv S.rs from funext fun b=>propext (or_congr OU (pz b))];exact G
 ·have:=c.nodup.bb;refine this.perm<|List.Perm.append_left l (List.Perm.swap g2 g1 [])
 ·rw[f]at o;refine c.nodup.br k v R b H o d ?_;simp only[My,Mi,N0,or_false]at j⊢;rcases j with h|h|h
  ·exact .inl h
  ·exact .inr (.inr h)
  exact .inr (.inl h)
 ·rw[f]at d;exact c.ge b ((pz b).1 d)
 rw[f,M];exact J9 z (B i)
end
theorem zb{o:Oper}{n d b:Nat}{sl:List (Nat×Tree)}{p bs':List (TypeId×List Tree)}{y:TypeId×List Tree}{rs:List (Option Row)}{ty:TypeId}{e:List Value}{cs:List Tree}(r:o.op=.alloc ty)(g:o.dst=some d)(m:Nat.blt d n=true)(l:gc Tryz.prog ty=some e)(z:e.all bL=true)(t:e.map dg=cs)(k:p.length=b)(c:((p++[(ty,cs),y]).map fun q=>(q.1,q.2.map (rL b)))=bs'):wS o ⟨n,sl,p++[y],rs⟩ (IU b) (.box b 0) bs' rs:=by
 subst t k c;intro w0 G0 S j f i u;dsimp only at j f i;have c:S.bs++[(ty,e.map dg)]=p++[y,(ty,e.map dg)]:=by rw[f];simp
 refine⟨⟨S.n,(d,.box p.length 0)::S.sl.map (fun q=>(q.1,IU p.length q.2)),(p++[(ty,e.map dg),y]).map fun q=>(q.1,q.2.map (rL p.length)),S.rs⟩,?_,Z,Z,i,fun s=>?_⟩
 ·intro a w x;refine OpRuns.mono (rD (S:=S) r (by rw[g,j];simpa[cT,Nn]using m) l z a w x) fun v W h=>?_
  refine IW h Z (by rw[dC];exact c) (by rw[eo]) Z (by rw[ch]) fun s=>?_
  rw[dk,g];show look ((d,Tree.box p.length 0)::_) s=_
  rw[cV,jp _ Z];simp only[MN];split
  ·have:S.bs.length=p.length+1:=by rw[f];simp
   show _=IU _ (Tree.box S.bs.length 0)
   rw[this];simp[IU,rL]
  rfl
 show look ((d,Tree.box p.length 0)::_) s=_
 rw[cV,jp _ Z,g];simp only[MN];rfl
end Go.Proofs.YtfoejfohbkmmeaaGreatDoor
