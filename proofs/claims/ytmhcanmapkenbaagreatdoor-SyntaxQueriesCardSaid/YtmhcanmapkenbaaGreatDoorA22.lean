import Derived.Test.YtmhcanmapkenbaaGreatDoorA21
set_option maxRecDepth 100000
set_option maxHeartbeats 4000000
set_option linter.defProp false
open Go.Proofs.Tryz
namespace Go.Proofs.YtmhcanmapkenbaaGreatDoor
open Go.RowKit
def MP(N:Nat):Kp (iw N):=Kp.bind (fb (c:=aT yL) Z) λ_=>Kp.bind (ch (c:=aT yR) Z) λb=>uA b (Kp.pure ([]:List ByteArray)) (Kp.bind (py N) λl=>Kp.bind (fb (c:=aT yR) Z) λ_=>Kp.pure l)
def oM(q:List ByteArray×List Cq):Tree:=.agg [.sl (q.1.map aE),.sl (q.2.map Cq.tree)]
noncomputable def lh (N:Nat) (s:PS):(List ByteArray×List Cq)×PS:=
 if aT yL s.nxt=true then(if(iw N s).1.length=0 then(((iw N s).1,(co N (ak (aT yD) (iw N s).2).2.fail).1),(co N (ak (aT yD) (iw N s).2).2.fail).2)else(((iw N s).1,(co N (ak (aT yD) (iw N s).2).2).1),(co N (ak (aT yD) (iw N s).2).2).2))else(([],(co N s).1),(co N s).2)
noncomputable def aC (s:ByteArray):(List ByteArray×List Cq)×Int:=
 if 16384<s.size then(([],[]),4)else if 0<=Lib.indexByte s.data.toList 10 then(([],[]),2)else match dO (s.size+1) s.data.toList with
 |none=>(([],[]),2)
 |some l=>if(lh l.length (PS.mk l 0 false)).2.fin=true then((lh l.length (PS.mk l 0 false)).1,0)else(([],[]),2)
def F5(p:(List ByteArray×List Cq)×Int):Tree:=.tup [oM p.1,.sc (.int .i64 p.2)]
def uC{q:List ByteArray×List Cq}{c:Int}{p:(List ByteArray×List Cq)×Int}(h:p=(q,c)):(Tree.tup [.agg [.sl (q.1.map aE),.sl (q.2.map Cq.tree)],iT c])=F5 p:=by rw[h];rfl
def lJ{c:Int}{p:(List ByteArray×List Cq)×Int}(h:p=(([],[]),c)):(Tree.tup [.agg [.sl [],.sl []],iT c])=F5 p:=uC h
def JV{s:ByteArray}(h:16384<s.size):aC s=(([],[]),4):=if_pos h
def OP{s:ByteArray}(h:¬16384<s.size)(a:Lib.indexByte s.data.toList 10≥0):aC s=(([],[]),2):=(if_neg h).trans (if_pos a)
def Cu{s:ByteArray}(h:¬16384<s.size)(a:¬Lib.indexByte s.data.toList 10≥0):aC s=match dO (s.size+1) s.data.toList with
 |none=>(([],[]),2)
 |some l=>if(lh l.length (PS.mk l 0 false)).2.fin=true then((lh l.length (PS.mk l 0 false)).1,0)else(([],[]),2):=(if_neg h).trans (if_neg a)
def OQ{s:ByteArray}(h:¬16384<s.size)(a:¬Lib.indexByte s.data.toList 10≥0)(b:dO (s.size+1) s.data.toList=none):aC s=(([],[]),2):=by rw[Cu h a,b]
def F6{s:ByteArray}{l:List Tok}{q:List ByteArray×List Cq}{t:PS}(h:¬16384<s.size)(a:¬Lib.indexByte s.data.toList 10≥0)(b:dO (s.size+1) s.data.toList=some l)(c:lh l.length (PS.mk l 0 false)=(q,t))(d:(!t.fin)=false):aC s=(q,0):=by
 rw[Cu h a,b];show(if(lh l.length (PS.mk l 0 false)).2.fin=true then _ else _)=_
 rw[c];exact if_pos (by simpa using d)
def AE{s:ByteArray}{l:List Tok}{q:List ByteArray×List Cq}{t:PS}(h:¬16384<s.size)(a:¬Lib.indexByte s.data.toList 10≥0)(b:dO (s.size+1) s.data.toList=some l)(c:lh l.length (PS.mk l 0 false)=(q,t))(d:(!t.fin)=true):aC s=(([],[]),2):=by
 rw[Cu h a,b];show(if(lh l.length (PS.mk l 0 false)).2.fin=true then _ else _)=_
 rw[c];exact if_neg (by simpa using d)
def OR{N:Nat}{s:PS}(h:IT 4 yL s.nxt=true)(a:(iw N s).1.length=0):lh N s=(((iw N s).1,(co N (ak (aT yD) (iw N s).2).2.fail).1),(co N (ak (aT yD) (iw N s).2).2.fail).2):=(if_pos h).trans (if_pos a)
def OS{N:Nat}{s:PS}(h:IT 4 yL s.nxt=true)(a:¬(iw N s).1.length=0):lh N s=(((iw N s).1,(co N (ak (aT yD) (iw N s).2).2).1),(co N (ak (aT yD) (iw N s).2).2).2):=(if_pos h).trans (if_neg a)
def OT{N:Nat}{s:PS}(h:IT 4 yL s.nxt=false):lh N s=(([],(co N s).1),(co N s).2):=if_neg (by rw[show aT yL s.nxt=false from h];exact Qk)
def F7{o:Option (List Tok)}(h:o=none):pT o=.tup [.sl [],bT false]:=by rw[h];rfl
def F8{o:Option (List Tok)}{l:List Tok}(h:o=some l):pT o=.tup [.sl (l.map Tok.tree),bT true]:=by rw[h];rfl
def OU{s:ByteArray}{l:List Tok}(h:¬16384<s.size)(a:dO (s.size+1) s.data.toList=some l):PK l.length (PS.mk l 0 false):=by
 obtain⟨d,b⟩:=AD _ _ _ a;have e:s.data.toList.length=s.size:=rfl;exact⟨Qi _,O,QF _,λt c=>by have:=b t c;omega⟩
def bu:nT prog 43=some 2:=U
def JW:gm prog 43 0=some 0:=U
def dB:gm prog 43 1=some 1:=U
def MQ:eN prog 40=true:=U
def MR:(prog.info? 40).map (·.size)=some 1:=U
def AF:(prog.info? 41).map (·.size)=some 1:=U
def MS:(prog.info? 43).map (·.size)=some 2:=U
def MT:(prog.info? 92).map (·.size)=some 3:=U
def AG:mY prog 43=some ([(0,1),(1,1)],[.slice none 0 0,.slice none 0 0]):=U
def MU:mY prog 92=some ([(0,1),(1,1),(2,1)],[.slice none 0 0,.int .i64 0,.bool false]):=U
def MV:gn prog 43=some [.slice none 0 0,.slice none 0 0]:=U
def MW:gn prog 92=some [.slice none 0 0,.int .i64 0,.bool false]:=U
def ka(s:ByteArray)(y:s.size<=1073741824):Ct 14 [sT s] (F5 (aC s)):=by
 refine Ct.of (n:=41) func14 Z Z Z Z Z λw0 G0=>?_
 refine N 2 Z<|Y<|M<|C 1 (t:=nI s.size) Z (dJ Z aR Z)<|aB 0 Z Z Zy (D (DF s.size 16384))<|K<|an Z (λd=>?_) (λd=>?_)
 ·refine N 3 Z<|aO<|⟨.inr Z,_,.cons (eZ Z Z bu Z) (.cons Z .nil),lJ (JV d),Z⟩
 have z:=d;refine X<|Y<|M<|C 1 Z (aJ Z (JU s 10) Z Z)<|C 0 (t:=bT (decide ((Lib.indexByte s.data.toList 10)≥0))) Z (aL Z Z Z Zy)<|K<|an Z (λf=>?_) (λf=>?_)
 ·refine N 3 Z<|aO<|⟨.inr Z,_,.cons (eZ Z Z bu Z) (.cons Z .nil),lJ (OP d f),Z⟩
 refine X<|Y ?_;rcases e:dO (s.size+1) s.data.toList with _|l
 ·refine am<|C 1 Z (aJ Z (F7 e▸Cd s O0) Z Z)<|H 5 Z<|Y<|M<|C 1 (t:=bT true) Z (dl Z Z Zy)<|K<|aF (b:=true) Z (λ_=>?_) (λh=>by cases h);refine N 3 Z<|aO<|⟨.inr Z,_,.cons (eZ Z Z bu Z) (.cons Z .nil),lJ (OQ d f e),Z⟩
 refine am<|C 1 Z (aJ Z (F8 e▸Cd s O0) Z Z)<|H 5 Z<|Y<|M<|C 1 (t:=bT false) Z (dl Z Z Zy)<|K<|aF (b:=false) Z (λh=>by cases h) (λ_=>?_);refine X<|N 4 Z<|Y ?_;have i:=OU d e;have v:=i.kp (MP l.length);have j:=v.kp (fb (c:=aT yD) Z);refine bO 1 Z<|Y<|M<|C 0 (t:=bT (IT 4 yL (PS.mk l 0 false).nxt)) Z (dS Z Z Z (x5 (PS.mk l 0 false) 4 yL i.hl i.ina) Z Z Z)<|K<|aF Z (λm=>?_) (λm=>?_)
 ·have k:=m;refine M<|aH (r:=.sl (((iw l.length (PS.mk l 0 false)).1).map aE)) (bs':=[(43,[.sl [],.sl []]),(92,[.sl (((iw l.length (PS.mk l 0 false)).2.l).map Tok.tree),nI ((iw l.length (PS.mk l 0 false)).2.a),bT ((iw l.length (PS.mk l 0 false)).2.bad)]),(43,[.sl [],.sl []])]) Z Z Z Z Z Z (ML l.length (PS.mk l 0 false) i) Z Z Z Z<|H 2 Z<|M<|aH (r:=.tup []) (bs':=[(43,[.sl [],.sl []]),(92,[.sl (((ak (aT yD) (iw l.length (PS.mk l 0 false)).2).2.l).map Tok.tree),nI ((ak (aT yD) (iw l.length (PS.mk l 0 false)).2).2.a),bT ((ak (aT yD) (iw l.length (PS.mk l 0 false)).2).2.bad)]),(43,[.sl (((iw l.length (PS.mk l 0 false)).1).map aE),.sl []])]) Z Z Z Z Z Z (lF (iw l.length (PS.mk l 0 false)).2 yD v.hl v.ina) Z Z Z Z<|K<|M<|C 2 Z (bg Z bc Z)<|aB 0 Z Z Zy (D (e9 (((iw l.length (PS.mk l 0 false)).1).length) 0))<|K<|an Z (λo=>?_) (λo=>?_)
  ·have x:=o;have w:PK l.length (PS.fail (ak (aT yD) (iw l.length (PS.mk l 0 false)).2).2):=⟨j.len,j.big,j.ina,j.sz⟩;refine bO 2 Z<|M<|aH (r:=.sl (((co l.length (PS.fail (ak (aT yD) (iw l.length (PS.mk l 0 false)).2).2)).1).map Cq.tree)) (bs':=[(43,[.sl [],.sl []]),(92,[.sl (((co l.length (PS.fail (ak (aT yD) (iw l.length (PS.mk l 0 false)).2).2)).2.l).map Tok.tree),nI ((co l.length (PS.fail (ak (aT yD) (iw l.length (PS.mk l 0 false)).2).2)).2.a),bT ((co l.length (PS.fail (ak (aT yD) (iw l.length (PS.mk l 0 false)).2).2)).2.bad)]),(43,[.sl (((iw l.length (PS.mk l 0 false)).1).map aE),.sl []])]) Z Z Z Z Z Z (vY l.length (PS.fail (ak (aT yD) (iw l.length (PS.mk l 0 false)).2).2) w) Z Z Z Z<|H 2 Z<|Y<|M<|C 0 (t:=bT ((co l.length (PS.fail (ak (aT yD) (iw l.length (PS.mk l 0 false)).2).2)).2.fin)) Z (dS Z Z Z (F4 (co l.length (PS.fail (ak (aT yD) (iw l.length (PS.mk l 0 false)).2).2)).2) Z Z Z)<|C 0 (t:=bT (!((co l.length (PS.fail (ak (aT yD) (iw l.length (PS.mk l 0 false)).2).2)).2.fin))) Z (dl Z Z Zy)<|K<|aF Z (λp=>?_) (λp=>?_)
   ·have g:=p;refine N 3 Z<|aO<|⟨.inr Z,_,.cons (eZ Z Z bu Z) (.cons Z .nil),lJ (AE d f e (OR k x) g),Z⟩
   have g:=p;refine X<|N 3 Z<|aO<|⟨.inr Z,_,.cons (eZ Z Z bu Z) (.cons Z .nil),uC (F6 d f e (OR k x) g),Z⟩
  have x:=o;have w:PK l.length (ak (aT yD) (iw l.length (PS.mk l 0 false)).2).2:=j;refine X<|M<|aH (r:=.sl (((co l.length (ak (aT yD) (iw l.length (PS.mk l 0 false)).2).2).1).map Cq.tree)) (bs':=[(43,[.sl [],.sl []]),(92,[.sl (((co l.length (ak (aT yD) (iw l.length (PS.mk l 0 false)).2).2).2.l).map Tok.tree),nI ((co l.length (ak (aT yD) (iw l.length (PS.mk l 0 false)).2).2).2.a),bT ((co l.length (ak (aT yD) (iw l.length (PS.mk l 0 false)).2).2).2.bad)]),(43,[.sl (((iw l.length (PS.mk l 0 false)).1).map aE),.sl []])]) Z Z Z Z Z Z (vY l.length (ak (aT yD) (iw l.length (PS.mk l 0 false)).2).2 w) Z Z Z Z<|H 2 Z<|Y<|M<|C 0 (t:=bT ((co l.length (ak (aT yD) (iw l.length (PS.mk l 0 false)).2).2).2.fin)) Z (dS Z Z Z (F4 (co l.length (ak (aT yD) (iw l.length (PS.mk l 0 false)).2).2).2) Z Z Z)<|C 0 (t:=bT (!((co l.length (ak (aT yD) (iw l.length (PS.mk l 0 false)).2).2).2.fin))) Z (dl Z Z Zy)<|K<|aF Z (λq=>?_) (λq=>?_)
  ·have g:=q;refine N 3 Z<|aO<|⟨.inr Z,_,.cons (eZ Z Z bu Z) (.cons Z .nil),lJ (AE d f e (OS k x) g),Z⟩
  have g:=q;refine X<|N 3 Z<|aO<|⟨.inr Z,_,.cons (eZ Z Z bu Z) (.cons Z .nil),uC (F6 d f e (OS k x) g),Z⟩
 have k:=m;refine X<|M<|aH (r:=.sl (((co l.length (PS.mk l 0 false)).1).map Cq.tree)) (bs':=[(43,[.sl [],.sl []]),(92,[.sl (((co l.length (PS.mk l 0 false)).2.l).map Tok.tree),nI ((co l.length (PS.mk l 0 false)).2.a),bT ((co l.length (PS.mk l 0 false)).2.bad)]),(43,[.sl [],.sl []])]) Z Z Z Z Z Z (vY l.length (PS.mk l 0 false) i) Z Z Z Z<|H 2 Z<|Y<|M<|C 0 (t:=bT ((co l.length (PS.mk l 0 false)).2.fin)) Z (dS Z Z Z (F4 (co l.length (PS.mk l 0 false)).2) Z Z Z)<|C 0 (t:=bT (!((co l.length (PS.mk l 0 false)).2.fin))) Z (dl Z Z Zy)<|K<|aF Z (λu=>?_) (λu=>?_)
 ·have g:=u;refine N 3 Z<|aO<|⟨.inr Z,_,.cons (eZ Z Z bu Z) (.cons Z .nil),lJ (AE d f e (OT k) g),Z⟩
 have g:=u;refine X<|N 3 Z<|aO<|⟨.inr Z,_,.cons (eZ Z Z bu Z) (.cons Z .nil),uC (F6 d f e (OT k) g),Z⟩
def oO{k:Nat}(a:k≠0):Kp (bp k):=λs b=>by
 unfold bp;split
 ·exact kJ b
 next h=>exact jR (Lx (k:=k) (Classical.byContradiction λe=>h e) a)
def gC:Kp bC:=λs b=>by
 have h:=oO (k:=1) I s b;unfold bC;split
 ·exact kJ h.1 |> λa=>⟨a.1,a.2.trans h.2⟩
 exact h
def JX:Kp kI:=λs a=>by
 have h:=oO (k:=2) I s a;unfold kI;split
 ·exact h
 exact⟨h.1,h.2⟩
def Eh:Kp eD:=λs a=>by
 have h:=oO (k:=3) I s a;unfold eD;split
 ·split
  ·exact h
  exact⟨h.1,h.2⟩
 exact JX s a
def fU:Kp ax:=oJ (λs=>decide (s.nxt.k=1)) (Kp.bind gC λv=>Kp.pure (⟨v,V.zero⟩:Trm)) (Kp.bind Eh λv=>Kp.pure (⟨b9,v⟩:Trm))
def mu(N:Nat):Kp (bE N):=Kp.bind (fb Z) λ_=>Kp.bind (ch Z) λb=>uA b (Kp.pure []) (Kp.bind fU λt=>Kp.bind (kK Z (λl=>Kp.bind fU λv=>Kp.pure (l++[v])) N [t]) λm=>Kp.bind (fb Z) λ_=>Kp.pure m)
def F9:Kp fG:=λs a=>by
 have h:=oO (k:=4) I s a;unfold fG;split
 ·exact h
 exact⟨h.1,h.2⟩
def oP(N:Nat)(c:Cq):Kp (gh N c):=Kp.bind (ch (c:=aI au) Z) λn=>uA n (Kp.bind gC λa=>Kp.bind (mu N) λt=>Kp.pure (Cq.mk (c.al++[Atm.mk a true t]) c.cl)) (Kp.bind fU λx=>oJ (λs=>decide (x.v≠b9)&&aI yL s.nxt) (Kp.bind (mu N) λt=>Kp.pure (Cq.mk (c.al++[Atm.mk x.v false t]) c.cl)) (Kp.bind F9 λo=>Kp.bind fU λy=>Kp.pure (Cq.mk c.al (c.cl++[Cpr.mk o x y]))))
def vZ(N:Nat):Kp (k9 N):=Kp.bind (ch Z) λb=>uA b (Kp.pure (⟨[],[]⟩:Cq)) (oJ (λs=>s.bad) (Kp.pure (⟨[],[]⟩:Cq)) (Kp.bind (oP N ⟨[],[]⟩) λx=>kK Z (oP N) N x))
def Ei(N:Nat):Kp (r9 N):=Kp.bind gC λt=>kK Z (λl=>Kp.bind gC λv=>Kp.pure (l++[v])) N [t]
def ir(k:Nat):Up (bp k):=λs=>by
 unfold bp;split
 ·exact Qi _
 exact RX _
def sx:Up bC:=λs=>by
 unfold bC;split
 ·exact ir 1 s
 exact ir 1 s
def JY:Up kI:=λs=>by
 unfold kI;split
 ·exact ir 2 s
 exact ir 2 s
def Ej:Up eD:=λs=>by
 unfold eD;split
 ·split
  ·exact ir 3 s
  exact ir 3 s
 exact JY s
def lK:Up ax:=oK (λs=>decide (s.nxt.k=1)) (Up.bind sx λv=>Up.pure (⟨v,V.zero⟩:Trm)) (Up.bind Ej λv=>Up.pure (⟨b9,v⟩:Trm))
def uD(N:Nat):Up (bE N):=Up.bind (qB (aI yL)) λ_=>Up.bind (pz (aI yR)) λb=>yb b (Up.pure []) (Up.bind lK λt=>Up.bind (oL (aI yC) (λl=>Up.bind lK λv=>Up.pure (l++[v])) N [t]) λl=>Up.bind (qB (aI yR)) λ_=>Up.pure l)
def MX:Up fG:=λs=>by
 unfold fG;split
 ·exact ir 4 s
 exact ir 4 s
def sy(N:Nat)(c:Cq):Up (gh N c):=Up.bind (pz (aI au)) λn=>yb n (Up.bind sx λa=>Up.bind (uD N) λt=>Up.pure (Cq.mk (c.al++[Atm.mk a true t]) c.cl)) (Up.bind lK λx=>oK (λs=>decide (x.v≠b9)&&aI yL s.nxt) (Up.bind (uD N) λt=>Up.pure (Cq.mk (c.al++[Atm.mk x.v false t]) c.cl)) (Up.bind MX λo=>Up.bind lK λy=>Up.pure (Cq.mk c.al (c.cl++[Cpr.mk o x y]))))
def MY(N:Nat):Up (k9 N):=Up.bind (pz (aI bW)) λb=>yb b (Up.pure (⟨[],[]⟩:Cq)) (oK (λs=>s.bad) (Up.pure (⟨[],[]⟩:Cq)) (Up.bind (sy N ⟨[],[]⟩) λx=>oL (aI yC) (sy N) N x))
def OV{x:ByteArray}(a:x≠b9):aI x dN=false:=by
 have:decide (dN.x=x)=false:=decide_eq_false λe=>a e.symm
 unfold aI;rw[this,R8]
def JZ{s:PS}{x:ByteArray}(b:x≠b9)(h:(s.bad||decide (s.l.length<=s.a))=true):aI x s.nxt=false:=by rw[oF h,OV b]
def OW{k:Nat}{s:PS}(h:s.nxt.k≠k):bp k s=(b9,s.fail):=if_pos h
def MZ{k:Nat}{s:PS}(h:s.nxt.k=k):bp k s=(s.nxt.x,s.adv):=if_neg λe=>e h
def nP(N:Nat)(s:PS):List ByteArray×PS:=((r9 N (ak (aI yL) s).2).1,(ak (aI yR) (r9 N (ak (aI yL) s).2).2).2)
def M0(N:Nat):Kp (nP N):=Kp.bind (fb (c:=aI yL) Z) λ_=>Kp.bind (Ei N) λl=>Kp.bind (fb (c:=aI yR) Z) λ_=>Kp.pure l
noncomputable def pA (N:Nat) (s:PS):(List ByteArray×List Cq)×PS:=
 if aI yL s.nxt=true then(((nP N s).1,(dt N (ak (aI yD) (nP N s).2).2).1),(dt N (ak (aI yD) (nP N s).2).2).2)else(([],(dt N s).1),(dt N s).2)
noncomputable def fY (s:ByteArray):(List ByteArray×List Cq)×Int:=
 if 16384<s.size then(([],[]),4)else if 0<=Lib.indexByte s.data.toList 10 then(([],[]),2)else match dO (s.size+1) s.data.toList with
 |none=>(([],[]),2)
 |some l=>if(pA l.length (PS.mk l 0 false)).2.fin=true then((pA l.length (PS.mk l 0 false)).1,0)else(([],[]),2)
def uE{E:Nat}{o:Oper}{n d:Nat}{sl:List (Nat×Tree)}{bs bs':List (TypeId×List Tree)}{rs:List (Option Row)}{f:FuncId}{x:Operand}{p:List Operand}{g:Array TypeId}{b:Nat}{ty:TypeId}{cs a ts:List Tree}{r:Tree}(j:o.op=.call {callee:=.value (.func f),args:=(x::p).toArray,argTypes:=g})(hd:o.dst=some d)(C:Nat.blt d n=true)(D:St.ev ⟨n,sl,bs,rs⟩ x=.box b 0)(A:bs[b]? =some (ty,cs))(B:CtM f ty cs ts a r)(w:p.map (St.ev ⟨n,sl,bs,rs⟩)=ts)(k:cs.all Tree.plain=true)(v:ts.all Tree.plain=true)(i:bs.set b (ty,a)=bs'):zH E o ⟨n,sl,bs,rs⟩ id r bs' rs:=by
 subst i;intro w0 G0 S G q h t c;dsimp only at q h t;have m:=rx c (by rw[j];simp[Op.operands,Call.operands]) D F;have l:p.map (St.ev S)=ts:=by
  rw[<-w];refine SE λy z=>rx c (by rw[j];simp[Op.operands,Call.operands,z]) Z λe=>?_
  have u:=Qt.1 v (St.ev ⟨n,sl,bs,rs⟩ y) (by rw[<-w];exact List.mem_map_of_mem z);rw[e]at u;cases u
 refine⟨_,sg (S:=S) j (by rw[hd,q];simpa[df,Q7]using C) m (by rw[h];exact A) B l k v,by rw[dQ],by rw[dc];dsimp only;rw[h],by rw[b6];exact t,λs=>?_⟩;rw[cF];rfl
def sA{w0:World}{G0:Bse}{o:Oper}{ops:Array Oper}{a:List Oper}{Q:Exit->St->Prop}{n d j s:Nat}{sl:List (Nat×Tree)}{bs:List (TypeId×List Tree)}{rs:List (Option Row)}{b:Bool}(e:o.guard=some (j,b))(f:(ops[j]?).bind (·.dst)=some s)(i:Nat.blt s n=true)(c:look sl s=bT (!b))(hd:o.dst=some d)(g:Nat.blt d n=true)(k:AOps w0 G0 ops a Q ⟨n,(d,.sc undef)::sl,bs,rs⟩):AOps w0 G0 ops (o::a) Q ⟨n,sl,bs,rs⟩:=by
 refine(vm (t:=.sc undef) False e f i ⟨.bool (!b),c,⟨False.elim,λh=>by cases b<;>cases h⟩⟩ hd g (λh=>h.elim) ?_);rw[if_neg (λh=>h)];exact k
def jn(b:List UInt8):Nat->List ByteArray->List UInt8
 |_,[]=>[]
 |j,x::l=>(if 0<j then b else [])++(x.data.toList++jn b (j+1) l)
def Cv(b:List UInt8):∀(l:List ByteArray) (j:Nat),jn b (j+1) l=Lib.joinTail b (l.map λx=>x.data.toList)
 |[],_=>rfl
 |x::l,j=>by
  rw[jn,Cv b l (j+1),if_pos (Sw _),<-Q0];rfl
def Cw(b:List UInt8)(l:List ByteArray):Lib.join (l.map λx=>x.data.toList) b=jn b 0 l:=by
 cases l with
 |nil=>rfl
 |cons x l=>rw[QM,Lib.join_cons,jn,Cv];rfl
def Ga{W:World}{G:Nat->Prop}:∀{us:List Value} {l:List ByteArray},PT W G us (l.map aE)->us=l.map Value.string
 |us,[],h=>by cases h;rfl
 |us,x::l,h=>by
  cases h with
  |sc v h=>rw[Ga h];rfl
def yg:∀l:List ByteArray,flat (l.map aE)=l.map aE
 |[]=>rfl
 |x::l=>congrArg _ (yg l)
def sB(b:ByteArray)(l:List ByteArray)(hl:l.length<=1000000)(B:(jn b.data.toList 0 l).length<=1073741824):Ct 74 [.sl (l.map aE),sT b] (.sc (.string ⟨(jn b.data.toList 0 l).toArray⟩)):=Ct.sc ⟨_,func74,Z,Z⟩ λG w vs _ _ t=>by
 obtain⟨u,v,rfl,o,p⟩:=oi t;cases p;obtain⟨A,c,d,m,y,z,i⟩:=PT.slice o;rw[Qr]at d m i;rcases RW l.length with a|a
 ·rw[d,a];have e:=Rz.1 a;subst e;exact(Tryz.strings_Join_none A c b w).mono λ_ _ ⟨h,n⟩=>⟨h,by subst n;exact Below.refl _ _⟩
 obtain⟨g,off,xs,rfl,q,_,r,k⟩:=i a;rw[yg]at k;have f:=Ga k;subst f;rw[d];have key:=Tryz.strings_Join g off c l b w (λj x s=>r j _ (by rw[QL,s];rfl)) q O O (by rw[Cw];omega);rw[Cw]at key;exact key
noncomputable def aD (t:Trm):ByteArray:=if t.v=b9 then⟨t.c.fmt.toArray⟩else t.v
def bF(l:List ByteArray):ByteArray:=(⟨#[40]⟩:ByteArray)++(⟨(jn [44,32] 0 l).toArray⟩:ByteArray)++(⟨#[41]⟩:ByteArray)
noncomputable def dw (a:Atm):ByteArray:=if a.ng=true then(⟨#[110,111,116,32]⟩:ByteArray)++(a.r++bF (a.ts.map aD))else a.r++bF (a.ts.map aD)
def kM(n:Nat):Option ByteArray:=if n=1 then some ⟨#[32,61,32]⟩else if n=2 then some ⟨#[32,33,61,32]⟩else if n=3 then some ⟨#[32,60,32]⟩else if n=4 then some ⟨#[32,60,61,32]⟩else none
noncomputable def eF (c:Cpr):Option ByteArray:=(kM c.op).map λo=>aD c.l++o++aD c.r
noncomputable def kb (c:Cq):List ByteArray:=c.al.map dw++c.cl.filterMap eF
noncomputable def dG (c:Cq):Option ByteArray:=if(c.cl.all λk=>(eF k).isSome)=true then some (if(kb c).length=0 then⟨#[116,114,117,101]⟩else⟨(jn [44,32] 0 (kb c)).toArray⟩)else none
def M1:Option ByteArray->Tree
 |some x=>.tup [.sc (.string x),.sc (.bool true)]
 |none=>.tup [.sc (.string b9),.sc (.bool false)]
structure CqB (c:Cq):Prop where
 na:c.al.length<=500000
 nc:c.cl.length<=500000
 nt:∀a∈c.al,a.ts.length<=1000000
 rng:∀a∈c.al,∀t∈a.ts,t.c.rng
 rng2:∀k∈c.cl,k.l.c.rng/\k.r.c.rng
 sz:(jn [44,32] 0 (kb c)).length<=1073741824
def pB{b:List UInt8}{x:ByteArray}:∀{l:List ByteArray} {j:Nat},x∈l->x.size<=(jn b j l).length
 |y::l,j,h=>by
  have e:y.data.toList.length=y.size:=rfl;rw[jn,QJ,QJ];rcases Qw.1 h with rfl|h
  ·omega
  have:=pB (b:=b) (j:=j+1) h;omega
def kN(l:List ByteArray):(bF l).size=(jn [44,32] 0 l).length+2:=by
 unfold bF;rw[Qq,Qq];have h:(⟨(jn [44,32] 0 l).toArray⟩:ByteArray).size=(jn [44,32] 0 l).length:=Rg;rw[h];show 1+_+1=_
 omega
def v7{a:Atm}{N:Nat}(h:(dw a).size<=N):a.r.size+(bF (a.ts.map aD)).size<=N/\(a.ng=true->4+(a.r.size+(bF (a.ts.map aD)).size)<=N):=by
 unfold dw at h;split at h
 ·rw[Qq,Qq]at h;have h:4+(a.r.size+(bF (a.ts.map aD)).size)<=N:=h;exact⟨O,λ_=>h⟩
 next hn=>rw[Qq]at h;exact⟨h,λe=>absurd e hn⟩
def CqB.atom{c:Cq}(h:CqB c){a:Atm}(b:a∈c.al):(dw a).size<=1073741824:=Qu (pB (Sh _ (List.mem_map_of_mem b))) h.sz
def CqB.cpr{c:Cq}(h:CqB c){k:Cpr}(a:k∈c.cl){x:ByteArray}(b:eF k=some x):x.size<=1073741824:=Qu (pB (Sc _ (Sa.2 ⟨k,a,b⟩))) h.sz
def ny{k:Cpr}{o:ByteArray}(h:kM k.op=some o):eF k=some (aD k.l++o++aD k.r):=by unfold eF;rw[h];rfl
def sC{a b o:ByteArray}{N:Nat}(h:(a++o++b).size<=N):a.size+o.size+b.size<=N:=by rwa[Qq,Qq]at h
def iP{α:Type}{l:List α}{i:Nat}{x:α}(h:l[i]? =some x):l.take (i+1)=l.take i++[x]:=by rw[List.take_add_one,h];rfl
def oQ{l:List Atm}{i:Nat}{a:Atm}(h:l[i]? =some a){b:List ByteArray}{x:ByteArray}(c:b=(l.take i).map dw)(d:dw a=x):b++[x]=(l.take (i+1)).map dw:=by rw[iP h,Qz,c,<-d];rfl
def Cx{l:List Trm}{i:Nat}{t:Trm}(h:l[i]? =some t){a:List ByteArray}(b:a=(l.take i).map aD):a++[aD t]=(l.take (i+1)).map aD:=by rw[iP h,Qz,b];rfl
def jh{α:Type}{p:α->Bool}{l:List α}{i:Nat}{x:α}(h:l[i]? =some x)(a:((l.take i).all p)=true)(b:p x=true):((l.take (i+1)).all p)=true:=by rw[iP h,Se,a];simp[b]
def oR{c:Cq}{i:Nat}{k:Cpr}(h:c.cl[i]? =some k){a:List ByteArray}{x:ByteArray}(b:a=c.al.map dw++(c.cl.take i).filterMap eF)(d:eF k=some x):a++[x]=c.al.map dw++(c.cl.take (i+1)).filterMap eF:=by
 rw[iP h,List.filterMap_append,b,Q0];simp[d]
def J0{c:Cq}{i:Nat}{k:Cpr}(h:c.cl[i]? =some k)(b:kM k.op=none):dG c=none:=if_neg λa=>by
 have:=Qt.1 a k (Qo h);unfold eF at this;rw[b]at this;cases this
def Gb{c:Cq}{a:List ByteArray}(b:(c.cl.all λk=>(eF k).isSome)=true)(d:a=kb c)(h:a.length=0):dG c=some ⟨#[116,114,117,101]⟩:=(if_pos b).trans (by rw[<-d,if_pos h])
def Cy{c:Cq}{a:List ByteArray}(b:(c.cl.all λk=>(eF k).isSome)=true)(d:a=kb c)(h:¬a.length=0):dG c=some ⟨(jn [44,32] 0 a).toArray⟩:=(if_pos b).trans (by rw[<-d,if_neg h])
def Py{o:Option ByteArray}{x:ByteArray}(h:o=some x):(Tree.tup [sT x,bT true])=M1 o:=by rw[h];rfl
def P7{o:Option ByteArray}(h:o=none):(Tree.tup [sT b9,bT false])=M1 o:=by rw[h];rfl
