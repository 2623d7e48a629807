import Derived.Test.YtmhcanmapkenbaaGreatDoorA40
import Derived.Test.YtmhcanmapkenbaaGreatDoorA09
set_option linter.defProp false
open Go.Proofs.Tryz
namespace Go.Proofs.YtmhcanmapkenbaaGreatDoor
open Go.RowKit
open Lib renaming hid→J
noncomputable def P4 (o o':fC):fC:=λf args A=>Option.rec (o' f args A) (λr=>some r) (o f args A)
def N2{P:Program}{base:Nat}{o d:fC}(h:gb P base o)(e:gb P base d):gb P base (P4 o d):=by
 intro f args A v c a;unfold P4 at a;cases b:o f args A with
 |none=>rw[b]at a;exact e f args A v c a
 |some r=>
  rw[b]at a;cases a;exact h f args A v c b
noncomputable def Iz (g:Nat) (e:Ent) (A:AH):Rs:=match A.get g,A.fget g with
 |some ⟨[.int .i64 m],f,true,0⟩,some [k]=>cond (Nat.beq f g) (cond (Nat.beq k g) (some (e.v,e.L'.mk' g m)) none) none
 |_,_=>none
noncomputable def IA (g:Nat) (es:List Ent):fC:=List.rec (λ_ _ _=>none) (λe _ ih f args A=>cond (Nat.beq e.f f) (cond (cond (xf (L5 40) args e.args) (e.L.chk g A) false) (Iz g e A) (ih f args A)) (ih f args A)) es
def Df{P:Program}{base g:Nat}:∀{es:List Ent},(∀e∈es,e.Ok P base g)->gb P base (IA g es)
 |[],_=>λf args A v b a=>by cases a
 |e::es,h=>by
  intro f args A v b a;have l:=Df (P:=P) (base:=base) (g:=g) (es:=es) λe a=>h e (QA _ a)
  have a:cond (Nat.beq e.f f) (cond (cond (xf (L5 40) args e.args) (e.L.chk g A) false) (Iz g e A) (IA g es f args A)) (IA g es f args A)=some (v,b):=a;cases i:Nat.beq e.f f with
  |false=>rw[i]at a;exact l f args A v b a
  |true=>
   rw[i]at a;have u:=Ql i;have a:cond (cond (xf (L5 40) args e.args) (e.L.chk g A) false) (Iz g e A) (IA g es f args A)=some (v,b):=a;cases j:cond (xf (L5 40) args e.args) (e.L.chk g A) false with
   |false=>rw[j]at a;exact l f args A v b a
   |true=>
    rw[j]at a;obtain⟨n,o⟩:=cE j;have t:=o8 (xg 40) _ _ n;have a:Iz g e A=some (v,b):=a;unfold Iz at a;split at a
    ·next m f' k h1 h2=>
     obtain⟨c,a⟩:=aW a;obtain⟨d,a⟩:=aW a;cases a;have c:=Ql c;have d:=Ql d;subst c d u t;obtain⟨p,q⟩:=h e (Qs ..);exact⟨p,λE w vs s r x=>q m E w vs (Lit.rel s o h1 h2) r x⟩
    cases a
noncomputable def Bu (nx:Nat):Lit:=⟨[],[],nx,0⟩
def EN{P:Program}{g nx:Nat}{m:Int}{w:World}(A:g<P.globals.size)(I:P.globals.size<=nx)(p:nx<=16384)(u:w.cell? ⟨g,0,none⟩=some (.int .i64 m)):∃E,RelA P E ((Bu nx).mk' g m) w.heap.size w/\Gl P E/\(∀b,E.bl b=none)/\∀n,E.ml n=none:=by
 have d:g<16384:=O
 have H:g<w.heap.size:=World.block_lt_of_cell? _ _ u;have a:∀n r,((Bu nx).mk' g m).get n=some r->n=g/\r=jp g m:=λn r c=>by
  have p:=my c;rw[iR p]at c;have c:(Tri.set fc (zr []) g (some (jp g m))).get fc n=some r:=c;rw[di _ fc _ _ _ d p]at c;split at c
  ·next e=>cases c;exact⟨e,Z⟩
  rw[show zr ([]:List (Nat×ARow))=.lf from rfl,dz]at c;cases c
 have j:∀f l,((Bu nx).mk' g m).fget f=some l->f=g/\l=[g]:=λf l hl=>by
  have p:=s6 hl;rw[gW p]at hl;have hl:(Tri.set fc (zr []) g (some [g])).get fc f=some l:=hl;rw[di _ fc _ _ _ d p]at hl;split at hl
  ·next e=>cases hl;exact⟨e,Z⟩
  rw[show zr ([]:List (Nat×List Nat))=.lf from rfl,dz]at hl;cases hl
 refine⟨⟨λn=>if n<P.globals.size then some (n,0)else none,λ_=>none,λ_=>none,λ_=>none⟩,⟨λn r c=>?_,λb s F=>(by cases F),λn B r q b o K y z _ _=>?_,λn r c=>?_,λf n l hl r B q b o K y z _ D C=>?_,λf l hl=>?_,λn h=>?_,p,λn cs u=>?_,λn m b h=>(by cases h),λn _=>rfl,λn b h=>(by cases h),Qi _,λb t h=>(by cases h),λn r t c J=>?_⟩,λg A=>if_pos A,λ_=>rfl,λ_=>rfl⟩
 ·obtain⟨rfl,rfl⟩:=a n r c;refine⟨n,0,if_pos A,O,.inl ⟨Z,O⟩,λi v x=>?_⟩
  match i,x with
  |0,x=>cases x;exact⟨_,u,.sc _ Z .nil⟩
  |i+1,x=>cases x
 ·obtain⟨rfl,rfl⟩:=a n r y;obtain⟨rfl,rfl⟩:=a B q z;exact .inl Z
 ·obtain⟨rfl,rfl⟩:=a n r c;have e:((Bu nx).mk' n m).fget n=some [n]:=by
   rw[gW d];show(Tri.set fc (zr []) n (some [n])).get fc n=_
   rw[di _ fc _ _ _ d d,if_pos Z]
  exact⟨by show n<nx;omega,by show n<nx;omega,[n],e,QP.2 Z⟩
 ·obtain⟨rfl,rfl⟩:=a n r y;obtain⟨rfl,rfl⟩:=a B q z;rw[D]at C;cases C;exact Qi _
 ·obtain⟨rfl,rfl⟩:=j f l hl;refine⟨by show f<nx;omega,λk G=>?_⟩;rw[QP.1 G];exact⟨by show f<nx;omega,λr c=>by rw[(a f r c).2];rfl⟩
 ·have h:nx<=n:=h;exact if_neg O
 ·have:((Bu nx).mk' g m).mget n=none:=by
   unfold AH.mget;cases Nat.blt n 16384 with
   |false=>rfl
   |true=>show Tri.get fc (.lf:Tri (List (Value×Value))) n=none;exact dz _ _
  rw[this]at u;cases u
 obtain⟨rfl,rfl⟩:=a n r c;cases J
def EO{P:Program}{g nx:Nat}{e:Ent}{w:World}{m:Int}(h:e.Ok P w.heap.size g)(r:e.L=Bu nx)(s:e.args=[])(c:s0 e.v=true)(y:g<P.globals.size)(d:P.globals.size<=nx)(A:nx<=16384)(z:w.cell? ⟨g,0,none⟩=some (.int .i64 m)):Calls P e.f #[] w λx w'=>x=.returned e.v/\Below w.heap.size w w':=by
 obtain⟨E,k,l,o,p⟩:=EN (P:=P) (nx:=nx) y d A z;refine(h.2 m E w [] (by rw[r];exact k) l (by rw[s];exact .nil)).mono ?_;rintro x w' ⟨u,rfl,E',B,q,a⟩;have e:u=e.v:=q.clean 1 (by
  cases i:e.v with
  |agg cs=>rw[i]at c;cases c
  |_=>rw[i]at c;exact c)
 rw[e];exact⟨Z,a.os,a.tape,a.output,a.size,λb t=>a.block b t (o b) λn j=>by rw[p n]at j;cases j⟩
def RelA.belo{P:Program}{E:EE}{A:AH}{base:Nat}{w w':World}(h:RelA P E A base w)(a:Below w.heap.size w w'):RelA P E A base w':=h.later a.size a.block
def Fr.later(E:EE){w w':World}(a:Below w.heap.size w w'):Fr E E w w':=⟨.refl E,a.os,a.tape,a.output,a.size,λb h _ _=>a.block b h,λ_ _=>rfl,λ_ _ h=>.inl h⟩
end Go.Proofs.YtmhcanmapkenbaaGreatDoor
namespace Go.Proofs.YtmhcanmapkenbaaGreatDoor
open Go.Shelf
def Pu:Lays.n240 prog lays165_ren:={lays165 with}
def Qa:Builder.X72 prog lays165_ren where
 sizeBuilder:=U
 liesBuilder:=U
end Go.Proofs.YtmhcanmapkenbaaGreatDoor
namespace Go.Proofs.YtmhcanmapkenbaaGreatDoor
open Go.RowKit Go.Shelf
open Lib renaming hid→J
noncomputable abbrev PP:=prog
noncomputable def N3 (args:List Value) (A:AH):Rs:=match args with
 |[.pointer (some ⟨n,0,some t⟩)]=>cond (Nat.beq t 59) (cP (A.get n) λr=>match r.cs with
  | .pointer none::_=>cP (kf A n 0 [.pointer (some ⟨n,0,none⟩)]) λA'=>some (.tuple #[],A')
  | .pointer (some ⟨k,0,none⟩)::_=>cond (Nat.beq k n) (some (.tuple #[],A)) none
  |_=>none) none
 |_=>none
def Pv:(PP.info? 59).map (·.size)=some 2:=U
def VL.typed{P:Program}{E:EE}{us:List Value}{n t:Nat}(h:VL P E us [.pointer (some ⟨n,0,some t⟩)]):∃b,us=[.pointer (some ⟨b,0,none⟩)]/\E.lo n=some (b,0)/\E.tb b=some t/\∃i,P.info? t=some i/\E.bl b=some i.size:=by
 cases h with
 |sc v h _=>cases h
 |tpt n b t h ht hb hs=>cases hs;exact⟨b,Z,h,ht,hb⟩
def K1{base:Nat}{args:List Value}{A I:AH}{v:Value}(a:N3 args A=some (v,I)){E:EE}{w:World}{vs:List Value}(j:RelA PP E A base w)(U:VL PP E vs args):Calls PP 58 vs.toArray w λx w'=>∃u,x=.returned u/\Aft PP E I base w v u w':=by
 unfold N3 at a;split at a
 ·next n t=>
  obtain⟨z,a⟩:=aW a;have z:=Ql z;subst z;obtain⟨r,D,a⟩:=aS a;obtain⟨b,rfl,d,F,i,T,B⟩:=U.typed;obtain⟨b',o',J,_,g3,K⟩:=j.row n r D;rw[d]at J;cases J;obtain⟨_,c,e,fz,G,H,V⟩:=j.blk b _ B;obtain⟨c',Q,N⟩:=j.typ b _ F;rw[G]at N;cases N;have M:i.size=2:=by have:=Pv;rw[T]at this;simpa using this
  split at a
  ·next l hcs=>
   obtain⟨A2,f,a⟩:=aS a;cases a;have y:=f;unfold kf at y;obtain⟨r',q,y⟩:=aS y;rw[D]at q;cases q;obtain⟨m,_⟩:=mA y;obtain⟨u,g,h⟩:=K 0 (.pointer none) (by rw[hcs];rfl);have h:u=.pointer none:=by cases h;rfl
   subst h;have p:=V ⟨n,r,0,D,m,d⟩;rw[<-H]at p;have o:=p.free (i:=0) G (by rw[H,M];decide);have C:VL PP E [.pointer (some ⟨b,0,none⟩)] [.pointer (some ⟨n,0,none⟩)]:=VL.ptr n 0 b 0 d .nil;obtain⟨W,O,X,Y⟩:=lN (P:=PP) j d C f;have s:=run_store PP w ⟨b,0,none⟩ (.pointer (some ⟨b,0,none⟩)) .plain Z;refine(Any.Builder_copyCheck_fresh Pu Qa b w g (by simp[World.shape?,G,H,M];rfl) o).mono ?_;rintro x w' ⟨rfl,rfl⟩;have S:W=w.setCell ⟨b,0,none⟩ (.pointer (some ⟨b,0,none⟩)):=by
    have R:(⟨b,0,none⟩:Addr).add 0=⟨b,0,none⟩:=eG b 0 0;have g:w.cell? ⟨b,0,none⟩=some (.pointer none):=g;simp only[storeCells,RQ,Sem.run_bind,R,s,g,o]at O;simpa using O.symm
   rw[<-S];exact⟨_,Z,E,X,.tup [] [] .nil .nil,Y⟩
  ·next k l hcs=>
   obtain⟨f,a⟩:=aW a;cases a;have f:=Ql f;subst f;obtain⟨u,g,h⟩:=K 0 _ (by rw[hcs];rfl);obtain⟨b2,o2,L,rfl⟩:=h.pointer;rw[d]at L;cases L;refine(Any.Builder_copyCheck_used Pu Qa b w g).mono ?_;rintro x w' ⟨rfl,rfl⟩;exact⟨_,Z,E,j,.tup [] [] .nil .nil,.refl _ _⟩
  cases a
 cases a
def zk:List UInt8->List UInt8
 |[]=>[]
 |[c]=>[c]
 |c::d::l=>if c=39/\d=39 then 39::zk l else c::zk (d::l)
def tG:∀s:List UInt8,qu [39,39] [39] s=zk s
 |[]=>qv F
 |[c]=>by
  rw[n6 F (by simp[List.isPrefixOf]),qv F];rfl
 |c::d::l=>by
  by_cases h:c=39/\d=39
  ·obtain⟨rfl,rfl⟩:=h;rw[vC F F];simp[zk,tG l]
  have a:([39,39]:List UInt8).isPrefixOf (c::d::l)=false:=by
   simp only[List.isPrefixOf,Bool.and_true,RV,beq_eq_false_iff_ne];rcases Classical.not_and_iff_not_or_not.1 h with h|h
   ·exact .inl (Ne.symm h)
   exact .inr (Ne.symm h)
  rw[n6 F a,tG (d::l)];simp[zk,h]
noncomputable def K2 (n:Nat):List UInt8->List UInt8:=Nat.rec (λ_=>[]) (λ_ ih l=>match l with
 |[]=>[]
 |[c]=>[c]
 |c::d::l=>cond (Nat.beq c.toNat 39&&Nat.beq d.toNat 39) (39::ih l) (c::ih (d::l))) n
def Oe{c:UInt8}:Nat.beq c.toNat 39=true↔c=39:=⟨λh=>Sf.1 (Ql h),λh=>by rw[h];rfl⟩
def xi:∀(n:Nat) (l:List UInt8),l.length<=n->K2 n l=zk l
 |0,[],_=>rfl
 |0,_::_,h=>by simp at h
 |_+1,[],_=>rfl
 |_+1,[_],_=>rfl
 |n+1,c::d::l,h=>by
  simp only[Qn]at h;show cond (Nat.beq c.toNat 39&&Nat.beq d.toNat 39) (39::K2 n l) (c::K2 n (d::l))=_
  rw[xi n l O,xi n (d::l) (by simp;omega)];by_cases a:c=39/\d=39
  ·rw[Oe.2 a.1,Oe.2 a.2];simp[zk,a]
  have:(Nat.beq c.toNat 39&&Nat.beq d.toNat 39)=false:=by
   cases b:Nat.beq c.toNat 39&&Nat.beq d.toNat 39 with
   |false=>rfl
   |true=>
    simp only[Qh]at b;exact absurd ⟨Oe.1 b.1,Oe.1 b.2⟩ a
  rw[this];simp[zk,a]
noncomputable def K3 (l:List UInt8):List UInt8:=List.rec [] (λc _ ih=>cond (Nat.beq c.toNat 39) (39::39::ih) (c::ih)) l
def Dg:∀l:List UInt8,K3 l=gG l
 |[]=>rfl
 |c::l=>by
  show cond (Nat.beq c.toNat 39) (39::39::K3 l) (c::K3 l)=_
  rw[Dg l];by_cases a:c=39
  ·rw[Oe.2 a];simp[gG,a]
  have:Nat.beq c.toNat 39=false:=by
   cases b:Nat.beq c.toNat 39 with
   |false=>rfl
   |true=>exact absurd (Oe.1 b) a
  rw[this];simp[gG,a]
noncomputable def P5 (s o n:List UInt8):Option (List UInt8):=cond (HK o [39]&&HK n [39,39]) (some (K3 s)) (cond (HK o [39,39]&&HK n [39]) (some (K2 (gF s) s)) none)
def N4{s o n l:List UInt8}(h:P5 s o n=some l):Lib.replaceAll s o n=l/\o≠ []/\n.length<=2:=by
 unfold P5 at h;simp only[lQ]at h;cases a:(o== [39]&&n== [39,39])with
 |true=>
  rw[a]at h;cases h;simp only[Qh,beq_iff_eq]at a;obtain⟨rfl,rfl⟩:=a;rw[eB _ I,qw,Dg];exact⟨Z,F,F⟩
 |false=>
  rw[a]at h;obtain⟨c,d⟩:=aW (b:=o== [39,39]&&n== [39]) h;cases d;simp only[Qh,beq_iff_eq]at c;obtain⟨rfl,rfl⟩:=c;rw[eB _ I,tG,c8,xi _ _ (Qi _)];exact⟨Z,F,F⟩
noncomputable def N5 (args:List Value) (A:AH):Rs:=match args with
 |[.string s,.string o,.string n]=>match A.get 0 with
  |some ⟨[.int .i64 _],_,_,_⟩=>cond (Nat.ble (gF s.data.toList) 1000000) (cP (P5 s.data.toList o.data.toList n.data.toList) λl=>fF l λl=>some (.string ⟨⟨l⟩⟩,A)) none
  |_=>none
 |_=>none
def IB(s:ByteArray):s.size=s.data.toList.length:=RE.symm
def IC:0<PP.globals.size:=by
 have h:Nat.blt 0 PP.globals.size=true:=U
 exact cU h
def K4{base:Nat}{args:List Value}{A f:AH}{v:Value}(a:N5 args A=some (v,f)){E:EE}{w:World}{vs:List Value}(h:RelA PP E A base w)(y:Gl PP E)(D:VL PP E vs args):Calls PP 61 vs.toArray w λx w'=>∃u,x=.returned u/\Aft PP E f base w v u w':=by
 unfold N5 at a;split at a
 ·next s o n=>
  split at a
  ·next m _ _ _ hg=>
   obtain⟨d,a⟩:=aW a;obtain⟨l,t,a⟩:=aS a;rw[dd]at a;cases a;obtain⟨k,p,F⟩:=N4 t;obtain⟨b,G,g,_,_,q⟩:=h.row _ _ hg;rw[y _ IC]at g;cases g;obtain⟨u,r,c⟩:=q 0 _ Z;have c:=c.int;subst c;have e:=D.cleans Z;subst e;have d:s.data.toList.length<=1000000:=by rw[c8]at d;exact Nat.le_of_ble_eq_true d
   have j:1<=o.size:=by
    rw[IB];cases hd:o.data.toList with
    |nil=>exact absurd hd p
    |cons _ _=>simp
   have z:=Lib.countB_le o j s.size s (Qi _);have C:=IB s;have B:=IB n;refine(Tryz.strings_ReplaceAll s o n m w O r j (by
    have:Lib.countB s o*n.size<=s.size*2:=Tz z O;omega)).mono ?_
   rintro x w' ⟨rfl,i⟩;exact⟨_,Z,E,h.belo i,by rw[k];exact .sc _ Z .nil,.later E i⟩
  cases a
 cases a
noncomputable def ID (v:Value) (o:Option (List ByteArray)):Option (List ByteArray):=match v with| .string s=>cP o λl=>some (s::l)|_=>none
noncomputable def IE (l:List Value):Option (List ByteArray):=List.rec (some []) (λv _ ih=>ID v ih) l
def zl:∀{l:List Value} {xs:List ByteArray},IE l=some xs->l=xs.map .string
 |[],xs,h=>by cases h;rfl
 |v::l,xs,h=>by
  have h:ID v (IE l)=some xs:=h;unfold ID at h;split at h
  ·obtain⟨b,a,h⟩:=aS h;cases h;rw[zl a];rfl
  cases h
noncomputable def IF (sep:List UInt8) (l:List ByteArray):List UInt8:=List.rec [] (λx l ih=>List.rec x.data.toList (λ_ _ _=>o0 x.data.toList (o0 sep ih)) l) l
def tH(sep:List UInt8):∀l:List ByteArray,IF sep l=Lib.join (l.map (·.data.toList)) sep
 |[]=>rfl
 |[x]=>by rw[QM,Rq,Lib.join_one];rfl
 |x::y::l=>by
  show o0 x.data.toList (o0 sep (IF sep (y::l)))=_
  rw[tH sep (y::l),jH,jH,QM,QM,QM,Lib.join_cons,Lib.join_cons];simp[Lib.joinTail]
noncomputable def N6 (args:List Value) (A:AH):Rs:=match args with
 |[.slice (some ⟨n,c,none⟩) len _,.string sep]=>cP (A.get n) λr=>cond (Nat.ble (c+len) (gF r.cs)) (cP (IE (ld len (lM c r.cs))) λxs=>fF (IF sep.data.toList xs) λl=>cond (Nat.ble (gF l) 1000000&&Nat.ble len 1000000) (some (.string ⟨⟨l⟩⟩,A)) none) none
 |[.slice none 0 0,.string _]=>some (.string ⟨#[]⟩,A)
 |_=>none
def K5{base:Nat}{args:List Value}{A m:AH}{v:Value}(a:N6 args A=some (v,m)){E:EE}{w:World}{vs:List Value}(k:RelA PP E A base w)(i:VL PP E vs args):Calls PP 74 vs.toArray w λx w'=>∃u,x=.returned u/\Aft PP E m base w v u w':=by
 unfold N6 at a;simp only[fp,fl,c8,dd]at a;split at a
 ·next n c len e sep=>
  obtain⟨r,B,a⟩:=aS a;obtain⟨t,a⟩:=aW a;obtain⟨xs,G,a⟩:=aS a;obtain⟨H,a⟩:=aW a;cases a;simp only[Qh,Rh]at H t;have y:=zl G;have g:xs.length=len:=by
   have:=congrArg List.length y;rw[QN,QZ,Qr]at this;omega
  match vs,i with
  |u::vs,i=>
  obtain⟨b,o,q,cap,h,rfl,hl,_,d⟩:=i.head.slice;have f:=i.tail.cleans Z;subst f;obtain⟨K,N,p,F,_,_⟩:=k.row n r B;rw[h]at p;cases p;obtain⟨us,M,J,D⟩:=k.reads B h c len t;rw[y]at D;have l:us=xs.map .string:=D.cleans (by rw[List.all_map,Qt];intro x _;rfl);have I:∀(j:Nat) x,xs[j]? =some x->w.cell? ⟨b,q+j,none⟩=some (.string x):=λj x C=>by
   have L:j<xs.length:=(Qm.1 C).1;rw[(d O).1];exact J j _ (by rw[l,QL,C];rfl)
  have:=Tryz.strings_Join b q cap xs sep w I F O O (by rw[<-tH];omega);rw[g]at this;refine this.mono ?_;rintro x w' ⟨rfl,z⟩;exact⟨_,Z,E,k.belo z,by rw[tH];exact .sc _ Z .nil,.later E z⟩
 ·next s=>
  cases a;have f:=i.cleans Z;subst f;refine(Tryz.strings_Join_none none 0 s w).mono ?_;rintro x w' ⟨rfl,rfl⟩;exact⟨_,Z,E,k,.sc _ Z .nil,.refl _ _⟩
 cases a
noncomputable def N7:fC:=λf args A=>cond (Nat.beq f 58) (N3 args A) (cond (Nat.beq f 61) (N5 args A) (cond (Nat.beq f 74) (N6 args A) none))
def K6(base:Nat):gb PP base N7:=by
 intro f args A v i a;unfold N7 at a;cases b:Nat.beq f 58 with
 |true=>
  rw[b]at a;have b:=Ql b;subst b;exact⟨⟨_,func58,Z,Z⟩,λE w vs e _ g=>K1 a e g⟩
 |false=>
 rw[b]at a;cases c:Nat.beq f 61 with
 |true=>
  rw[c]at a;have c:=Ql c;subst c;exact⟨⟨_,func61,Z,Z⟩,λE w vs e h g=>K4 a e h g⟩
 |false=>
 rw[c]at a;cases d:Nat.beq f 74 with
 |true=>
  rw[d]at a;have d:=Ql d;subst d;exact⟨⟨_,func74,Z,Z⟩,λE w vs e _ g=>K5 a e g⟩
 |false=>
  rw[d]at a;cases a
def IG:wZ PP:=by
 have h:(PP.funcs.all λa=> !(a.name== "runtime.NumGoroutine"))=true:=U
 intro f a b;have:=Array.all_eq_true'.1 h a (S1 b);simpa using this
def K7:PP.follows .mixedOrders=true:=U
noncomputable def jJ (es:List Ent):fC:=C6 PP (KT PP (P4 (IA 0 es) N7) (Bn PP) 300)
def eH{base:Nat}{es:List Ent}(h:∀e∈es,e.Ok PP base 0):gb PP base (jJ es):=tz IG (zj IG (N2 (Df h) (K6 base)) (KY K7) 300)
