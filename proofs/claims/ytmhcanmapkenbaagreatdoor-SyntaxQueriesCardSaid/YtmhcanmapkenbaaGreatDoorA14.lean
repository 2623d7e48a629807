import Derived.Test.YtmhcanmapkenbaaGreatDoorA13
import Derived.Deep.RegionWith
import Derived.Deep.DrawnRows
import Derived.Laws.IdiomCopy
set_option maxRecDepth 100000
set_option maxHeartbeats 1000000
set_option linter.defProp false
open Go.Proofs.Tryz
namespace Go.Proofs.YtmhcanmapkenbaaGreatDoor
open Go.RowKit
open Lib renaming hid→J
variable{G:Nat->Prop}
def zW(n:Int)(w:World):
  Calls prog 6 #[.int .i64 n] w λe w'=>e=.returned (.agg #[.int .i64 1,.int .i64 n,.string ⟨#[]⟩])/\Below w.heap.size w w':=by
 go_enter func6,ntmps6
 go_wp2
 exact bodyPost_ret (v:=.agg #[.int .i64 1,.int .i64 n,.string ⟨#[]⟩]) (by simp[results,results6,go_sem]) Z ⟨Z,(Below.refl _ _).alloc (Qi _) _⟩
def vJ(n:Int)(s:ByteArray)(w:World):
  Calls prog 104 #[.agg #[.int .i64 1,.int .i64 n,.string s]] w λe w'=>e=.returned (.bool (bz 1 n s))/\Below w.heap.size w w':=by
 go_enter func104,ntmps104
 go_wp2
 go_ret
 exact⟨by simp[bz,Lib.toList_data],(Below.refl _ _).alloc (Qi _) _⟩
def rQ(t n:Int)(s:ByteArray)(w:World)(a:t≠1)(b:t≠2):
  Calls prog 104 #[.agg #[.int .i64 t,.int .i64 n,.string s]] w λe w'=>e=.returned (.bool (bz t n s))/\Below w.heap.size w w':=by
 have c:=J (show bz t n s=false by simp[bz,a,b]);have d:(t==1)=false:=by simpa using a
 have f:(t==2)=false:=by simpa using b
 clear a b
 go_enter func104,ntmps104
 go_wp2
 go_ret
 exact⟨by rw[c.out];rfl,(Below.refl _ _).alloc (Qi _) _⟩
def vK(n:Int)(s:ByteArray)(w:World)(q:s.size<=9223372036854775807):
  Calls prog 104 #[.agg #[.int .i64 2,.int .i64 n,.string s]] w λe w'=>e=.returned (.bool (bz 2 n s))/\Below w.heap.size w w':=by
 have d:=J (show bz 2 n s=(decide (n=0)&&decide (s.size<=64)&&s.data.toList.all nO) by simp[bz])
 go_enter func104,ntmps104
 go_wp2
 go_loop [3] (λi=>∃k:Nat,k<=s.size/\(s.data.toList.take k).all nO=true/\i=.int .i64 k) (λi=>s.size-(intOf i).toNat)
 case atStart=>exact⟨0,QF _,F,Z⟩
 case round=>
  obtain⟨k,p,b,rfl⟩:=hrel;have j:=J b;clear b;by_cases h:k<s.size
  ·have g:=J (mL s k h);by_cases l:32<=s[k].toNat
   ·by_cases m:s[k].toNat<=126
    ·have a:=J (show nO s[k]=true by simp[nO,l,m])
     go_wp2
     go_round
     case rel=>exact⟨k+1,O,by rw[g.out,j.out,a.out];rfl,by go_num⟩
     case measure=>simp[intOf];omega
    have a:=J (show s.data.toList.all nO=false from jz (k+1) (by rw[g.out];simp[nO,m]))
    go_wp2
    go_ret
    exact⟨by rw[d.out,a.out,R8];rfl,(Below.refl _ _).alloc (Qi _) _⟩
   have a:=J (show s.data.toList.all nO=false from jz (k+1) (by rw[g.out];simp[nO,l]))
   go_wp2
   go_ret
   exact⟨by rw[d.out,a.out,R8];rfl,(Below.refl _ _).alloc (Qi _) _⟩
  have a:=J (show s.data.toList.all nO=true by have:=j.out;rwa[QU (by simp;omega)]at this);by_cases f:n=0
  ·subst f;have c:=J (show decide ((s.size:Int)<=64)=bz 2 0 s by rw[d.out,a.out];simp;omega)
   go_wp2
   go_ret
   exact⟨by rw[<-c.out];rfl,(Below.refl _ _).alloc (Qi _) _⟩
  have c:=J (show bz 2 n s=false by rw[d.out,a.out];simp[f]);have o:(n==0)=false:=by simpa using f
  clear f
  go_wp2
  go_ret
  exact⟨by rw[c.out];rfl,(Below.refl _ _).alloc (Qi _) _⟩
def vL(t n:Int)(s:ByteArray)(w:World)(c:s.size<=9223372036854775807):
  Calls prog 104 #[.agg #[.int .i64 t,.int .i64 n,.string s]] w λe w'=>e=.returned (.bool (bz t n s))/\Below w.heap.size w w':=by
 by_cases a:t=1
 ·subst a;exact vJ n s w
 by_cases b:t=2
 ·subst b;exact vK n s w c
 exact rQ t n s w a b
def xJ:∀a b:List UInt8,Op.bytesLess a b=decide (Lib.compareBytes a b<0)
 |[],[]=>by simp[Op.bytesLess,Lib.compareBytes]
 |[],_::_=>by simp[Op.bytesLess,Lib.compareBytes]
 |_::_,[]=>by simp[Op.bytesLess,Lib.compareBytes]
 |x::a,y::b=>by
  have f:=xJ a b;simp only[Op.bytesLess,Lib.compareBytes,S4];by_cases c:x.toNat<y.toNat
  ·simp[c]
  by_cases d:y.toNat<x.toNat
  ·have:¬x=y:=λe=>by subst e;omega
   simp[c,d,this]
  have:x=y:=Sf.1 O;simp[this,f]
def om{a b:ByteArray}{o:Int}(h:Lib.compareBytes a.data.toList b.data.toList=o):Op.bytesLess a.toList b.toList=decide (o<0):=by
 rw[Lib.toList_data,Lib.toList_data,xJ,h]
def BX{a b:ByteArray}{o:Int}(h:Lib.compareBytes a.data.toList b.data.toList=o):(a.toList==b.toList)=decide (o=0):=by
 rw[Lib.toList_data,Lib.toList_data,R4];simp only[beq_iff_eq,decide_eq_true_eq];rw[<-fX,h]
def rR(ta c:Int)(a:ByteArray)(f nb:Int)(b:ByteArray)(w:World):
  Calls prog 193 #[.agg #[.int .i64 ta,.int .i64 c,.string a],.agg #[.int .i64 f,.int .i64 nb,.string b]] w λe w'=>e=.returned (.int .i64 (m7 ta c a f nb b))/\Below w.heap.size w w':=by
 rcases kA ta f with⟨e,h⟩|⟨e,h⟩|⟨e,h⟩
 ·have d:=J (show m7 ta c a f nb b= -1 by rw[m7,e,l9 I]);have l:(ta==f)=false:=by simp;omega
  have m:(ta !=f)=true:=by simp;omega
  clear e
  go_enter func193,ntmps193
  go_wp2
  go_ret
  exact⟨by rw[d.out];rfl,((Below.refl _ _).alloc (Qi _) _).alloc F _⟩
 ·subst h;rcases kA c nb with⟨g,h⟩|⟨g,h⟩|⟨g,h⟩
  ·have d:=J (show m7 ta c a ta nb b= -1 by rw[m7,e,g,kB I]);have l:(c==nb)=false:=by simp;omega
   have m:(c !=nb)=true:=by simp;omega
   clear e g
   go_enter func193,ntmps193
   go_wp2
   go_ret
   exact⟨by rw[d.out];rfl,((Below.refl _ _).alloc (Qi _) _).alloc F _⟩
  ·subst h;obtain⟨o,k⟩:∃o,Lib.compareBytes a.data.toList b.data.toList=o:=⟨_,Z⟩;have d:=J (show m7 ta c a ta c b=o by rw[m7,e,g,uj,k]);have n:=iZ a.data.toList b.data.toList;rw[k]at n;have i:=om k;have j:=BX k;clear e g k;rcases n with rfl|rfl|rfl
   ·replace i:Op.bytesLess a.toList b.toList=true:=i.trans I;replace j:(a.toList==b.toList)=false:=j.trans I
    go_enter func193,ntmps193
    go_wp2
    go_ret
    exact⟨by rw[d.out];rfl,((Below.refl _ _).alloc (Qi _) _).alloc F _⟩
   ·replace i:Op.bytesLess a.toList b.toList=false:=i.trans I;replace j:(a.toList==b.toList)=true:=j.trans I
    go_enter func193,ntmps193
    go_wp2
    go_ret
    exact⟨by rw[d.out];rfl,((Below.refl _ _).alloc (Qi _) _).alloc F _⟩
   replace i:Op.bytesLess a.toList b.toList=false:=i.trans I;replace j:(a.toList==b.toList)=false:=j.trans I
   go_enter func193,ntmps193
   go_wp2
   go_ret
   exact⟨by rw[d.out];rfl,((Below.refl _ _).alloc (Qi _) _).alloc F _⟩
  have d:=J (show m7 ta c a ta nb b=1 by rw[m7,e,g,kB I]);have l:(c==nb)=false:=by simp;omega
  have m:(c !=nb)=true:=by simp;omega
  clear e g
  go_enter func193,ntmps193
  go_wp2
  go_ret
  exact⟨by rw[d.out];rfl,((Below.refl _ _).alloc (Qi _) _).alloc F _⟩
 have d:=J (show m7 ta c a f nb b=1 by rw[m7,e,l9 I]);have l:(ta==f)=false:=by simp;omega
 have m:(ta !=f)=true:=by simp;omega
 clear e
 go_enter func193,ntmps193
 go_wp2
 go_ret
 exact⟨by rw[d.out];rfl,((Below.refl _ _).alloc (Qi _) _).alloc F _⟩
attribute [local go_sem ↓] Go.wp_at_zero Go.wp_at_succ
structure KS (w:World) (g:Nat) (W:World):Prop where
 blk:IsBlk W g 34 #[.int .i64 2,.int .i64 0,.string ⟨#[105,116,39,115]⟩]
 env:Env W
 below:Below w.heap.size w W
def lz{t n:Int}{s:ByteArray}{b:Bool}(h:bz t n s=b)(w:World)(a:s.size<=9223372036854775807):
  Calls prog 104 #[.agg #[.int .i64 t,.int .i64 n,.string s]] w λe w'=>e=.returned (.bool b)/\Below w.heap.size w w':=by subst h;exact vL t n s w a
def Jv(w:World)(e:Ending)(w':World):Prop:=e=.returned (.bool true)/\Below w.heap.size w w'
def D1(n:Int):D0 (decide (n<0)) n.natAbs=Lib.itoa n:=by
 unfold D0 Lib.itoa;by_cases h:n<0
 ·simp[h]
 have:n.natAbs=n.toNat:=O
 simp[h,this]
def D2(n:Int)(e: -9223372036854775808<=n)(f:n<=9223372036854775807):(Lib.decDigits n.natAbs).length<=1073741824:=by
 have key:∀(k u:Nat),u<10^k->0<k->(Lib.decDigits u).length<=k:=by
  intro k;induction k with
  |zero=>intro u _ h;exact absurd h O
  |succ k ih=>
   intro u a _;rw[Lib.decDigits];split
   ·simp
   rename_i h;have d:0<k:=by
    rcases RW k with rfl|c
    ·simp at a;omega
    exact c
   have:=ih (u/10) (by rw[S5 I];rw[Rw]at a;exact a) d;simp;omega
 have b:(10^20:Nat)=100000000000000000000:=I
 have:=key 20 n.natAbs (by rw[b];omega) I;omega
def zX(t n:Int)(s:ByteArray)(w:World)(h:bz t n s=false)(o:s.size<=9223372036854775807):
  Calls prog 65 #[.agg #[.int .i64 t,.int .i64 n,.string s]] w (md (cH t n s) w):=by
 have k:=J (show cH t n s=[] by simp[cH,h]);obtain⟨W,i,a,d,g⟩:=qT w 34 #[.int .i64 t,.int .i64 n,.string s];have m:=J i;have j:=J a;have f:=a.size;have l:=J (lz h W o);clear i a d g h
 go_enter func65,ntmps65
 go_wp2_with fail
 rw[m.out];refine l.out.mono ?_;rintro e p ⟨rfl,b⟩;have c:=J (aZ j.out b f);clear b
 go_wp2
 go_ret
 exact⟨by rw[k.out];rfl,c.out⟩
def zY(n:Int)(s:ByteArray)(w:World)(h:bz 1 n s=true)(u: -9223372036854775808<=n)(v:n<=9223372036854775807)(P:s.size<=9223372036854775807):
  Calls prog 65 #[.agg #[.int .i64 1,.int .i64 n,.string s]] w (md (cH 1 n s) w):=by
 have F:=J (show cH 1 n s=Lib.itoa n by simp[cH,h]);obtain⟨W,A,c,g,y⟩:=qT w 34 #[.int .i64 1,.int .i64 n,.string s];have H:=J A;have E:=J c;have o:=c.size;have z:=J g;have G:=J (lz h W P);clear A c g y h
 go_enter func65,ntmps65
 go_wp2_with fail
 rw[H.out];refine G.out.mono ?_;rintro e Q ⟨rfl,a⟩;have p:=J (aZ E.out a o);have m:w.heap.size<=Q.heap.size:=Qu o a.size;obtain⟨L,M,N,_,_,_⟩:=(z.out.below a z.out.lt).three;clear a
 go_wp2_with fail
 refine(DZ n _ u v).mono ?_;rintro e B ⟨S,R,rfl,l,k,b⟩;obtain⟨D,K,en,j⟩:=l.is (dA _);obtain⟨C,I,O,i⟩:=k.is (dA _);subst en O;have q:=J (aZ p.out b m);have x:w.heap.size<=B.heap.size:=Qu m b.size;have d:=xI (decide (n<0)) D C K I n.natAbs B j i (by have:=BW n u v;omega) (λh=>by simp at h;omega) (D2 n u v);rw[D1]at d;have t:=J d;clear l k b j i d L M N
 go_wp2_with fail
 refine t.out.mono ?_;rintro e T ⟨rfl,f⟩;have r:=J (aZ q.out f x);clear f
 go_wp2
 go_ret
 exact⟨by rw[F.out];rfl,r.out⟩
def vM(s:ByteArray)(k:Nat)(h:k<s.size):s.extract k (k+1)=⟨[s[k]].toArray⟩:=by
 rw[<-kz (s.extract k (k+1)),Lib.extract_data];congr 2;have hl:k<s.data.toList.length:=by simpa using h
 rw[Q3 hl,show k+1-k=1 by omega];rfl
def FB(l:List UInt8)(c:UInt8):gG (l++[c])=gG l++(if c=39 then [39,39]else [c]):=by
 induction l with
 |nil=>by_cases h:c=39<;>simp[gG,h]
 |cons a l ih=>by_cases h:a=39<;>simp[gG,h,ih]
def zZ(n:Int)(s:ByteArray)(w:World)(h:bz 2 n s=true):
  Calls prog 65 #[.agg #[.int .i64 2,.int .i64 n,.string s]] w (md (cH 2 n s) w):=by
 have y:=J (show cH 2 n s=[39]++gG s.data.toList++[39] by simp[cH,h]);have t:s.size<=64:=by simp[bz]at h;omega
 obtain⟨W,r,f,j,p⟩:=qT w 34 #[.int .i64 2,.int .i64 n,.string s];have B:=J r;have u:=J f;have o:=f.size;have q:=J j;have A:=J (lz h W O);clear r f j p h
 go_enter func65,ntmps65
 go_wp2_with fail
 rw[B.out];refine A.out.mono ?_;rintro e I ⟨rfl,d⟩;have m:=J (aZ u.out d o);obtain⟨D,E,F,_,_,_⟩:=(q.out.below d q.out.lt).three;clear d
 go_wp2
 go_loop [3,4] (λv i=>∃k:Nat,k<=s.size/\i=.int .i64 k/\v=.string ⟨(39::gG (s.data.toList.take k)).toArray⟩) (λ_ i=>s.size-(intOf i).toNat)
 case atStart=>exact⟨0,O,Z,by simp[gG]⟩
 case round=>
  obtain⟨k,H,rfl,rfl⟩:=hrel;have C:(gG (s.data.toList.take k)).length<=200:=by
   have:=gX (s.data.toList.take k);rw[QN]at this;omega
  by_cases g:k<s.size
  ·have l:=J (show gG (s.data.toList.take (k+1))=gG (s.data.toList.take k)++(if s[k]=39 then [39,39]else [s[k]]) by
    rw[Ro (by simpa using g),FB];rfl)
   by_cases c:s[k].toNat=39
   ·have a:s[k]=39:=Sf.1 c;have b:=J (vM s k g);have x:=J a;rw[if_pos a]at l;clear a
    go_wp2
    go_round
    case rel=>
     refine⟨k+1,O,by go_num,?_⟩;rw[l.out,b.out,x.out,iY (39::gG (s.data.toList.take k)) [39],iY (39::gG (s.data.toList.take k)++[39]) [39]];simp
    case measure=>simp[intOf];omega
   have a:s[k]≠39:=λe=>c (by rw[e];rfl)
   have b:=J (vM s k g);have G:((s[k].toNat:Int)==39)=false:=by rw[beq_eq_false_iff_ne];omega
   rw[if_neg a]at l;clear a c
   go_wp2
   go_round
   case rel=>
    refine⟨k+1,O,by go_num,?_⟩;rw[l.out,b.out,iY];simp
   case measure=>simp[intOf];omega
  have z:=J (show s.data.toList.take k=s.data.toList from QU (by simp;omega))
  go_wp2
  go_ret
  refine⟨?_,m.out⟩;rw[y.out];show Ending.returned (.string (⟨(39::gG (s.data.toList.take k)).toArray⟩++⟨[39].toArray⟩))=_
  rw[z.out,iY (39::gG s.data.toList) [39]];rfl
def i7(t n:Int)(s:ByteArray)(w:World)(e: -9223372036854775808<=n)(f:n<=9223372036854775807)(c:s.size<=9223372036854775807):
  Calls prog 65 #[.agg #[.int .i64 t,.int .i64 n,.string s]] w (md (cH t n s) w):=by
 cases b:bz t n s
 ·exact zX t n s w b c
 by_cases d:t=1
 ·subst d;exact zY n s w b e f c
 have a:t=2:=by
  by_cases a:t=2
  ·exact a
  simp[bz,d,a]at b
 subst a;exact zZ n s w b
def PJ(f:FuncId):Value:=eX (λ_=>undef) (.func f)
section
variable {S:St} {o:Oper}
def oo{f:FuncId}{s:Nat}{xs:Array Operand}{b:Array TypeId}{ts:List Tree}{r:Tree}(g:o.op=.call {callee:=.value (.tmp s),args:=xs,argTypes:=b})(A:S.ev (.tmp s)=.sc (PJ f))(c:Ct f ts r)(B:xs.toList.map S.ev=ts)(z:ts.all Tree.plain=true):OpOK o S r:=by
 intro w0 G0 bx rv w T m k;have l:=lY (S:=S) k xs.toList (λx C=>by rw[g];simp only[Op.operands,Call.operands];simp;exact .inr (by simpa using C));rw[B]at l;have h:=(bY k A (by rw[g];simp[Op.operands,Call.operands])).isSc;have a:T s=PJ f:=h;unfold PJ eX at a;obtain⟨⟨i,t,u,j⟩,c⟩:=c;have d:=c (GG G0 bx rv S.rs) w _ m.env m.ok (l.plains z);refine OpRuns.of_call (f:=f) (args:=(xs.toList.map (eX T)).toArray) ?_ (d.mono ?_)
 ·have n:¬i.name= "runtime.NumGoroutine" :=by simpa using u
  have p:¬i.body=none:=λe=>by rw[e]at j;cases j
  have q:(xs.toList.map (eX T)).toArray=xs.map (eX T):=Rb F;rw[q];simp[execOp,g,resolve,a,eX,Deferred.ofValue,invoke,callFunc,t,n,p]
 rintro e w' ⟨v,rfl,h,y⟩;exact⟨v,Z,.pure h .nil,y⟩
end
def BY(Q:Exit->World->(Nat->Prop)->St->Prop)(e:Exit)(a:Act)(w:World):Prop:=∃w1 G1 S,Q e w1 G1 S/\Sim w1 (pln G1) S a w
def BWP(c:Code)(Q:Exit->World->(Nat->Prop)->St->Prop)(w1:World)(G1:Nat->Prop)(S:St):Prop:=∀a w,Sim w1 (pln G1) S a w->c.wp prog (BY Q) a w
def FC(K:World->(Nat->Prop)->St->Prop)(Q:Exit->World->(Nat->Prop)->St->Prop):Exit->World->(Nat->Prop)->St->Prop
 | .normal,w,G,S=>K w G S
 |e,w,G,S=>Q e w G S
def xK(id:Nat)(Q:Exit->World->(Nat->Prop)->St->Prop):Exit->World->(Nat->Prop)->St->Prop
 | .exit id',w,G,S=>if id'=id then Q .normal w G S else Q (.exit id') w G S
 |e,w,G,S=>Q e w G S
section
variable {w1:World} {G1:Nat->Prop} {Q:Exit->World->(Nat->Prop)->St->Prop} {S:St}
def BWP.of{c:Code}(h:AWP w1 (pln G1) c (λe S=>Q e w1 G1 S) S):BWP c Q w1 G1 S:=λa w f=>wp_mono (h a w f) λ_ _ _ ⟨S',b,d⟩=>⟨w1,G1,S',b,d⟩
def gZ{x y:Code}(h:BWP x (FC (BWP y Q) Q) w1 G1 S):BWP (.seq x y) Q w1 G1 S:=λa w f=>wp_seq (wp_mono (h a w f) λe d w' ⟨g,G2,S',b,c⟩=>by
 cases e with
 |normal=>exact b d w' c
 |_=>exact⟨g,G2,S',b,c⟩)
def rS(h:Q .normal w1 G1 S):BWP .skip Q w1 G1 S:=λ_ _ a=>wp_skip ⟨w1,G1,S,h,a⟩
def FD{id:Nat}(h:Q (.exit id) w1 G1 S):BWP (.exit id) Q w1 G1 S:=λ_ _ a=>wp_exit ⟨w1,G1,S,h,a⟩
def rT{c:Operand}{x y:Code}{b:Bool}(i:S.ev c=bT b)(m:b=true->BWP x Q w1 G1 S)(l:b=false->BWP y Q w1 G1 S):BWP (.cond c x y) Q w1 G1 S:=λa w d=>by
 have k:a.eval c=.bool b:=by
  obtain⟨bx,rv,n,o,j,e⟩:=d;rw[ve];have:FT (en w (pln G1) bx rv S.rs) [eX (λs=>a.tmps.getD s undef) c] [S.ev c]:=by
   cases c with
   |tmp s=>exact e s
   |const v=>exact .pure (.sc v .nil) .nil
   |global g=>exact .pure (.sc _ .nil) .nil
   |func f=>exact .pure (.sc _ .nil) .nil
  rw[i]at this;exact this.isSc
 exact wp_cond_split k (λh=>m h a w d) (λh=>l h a w d)
def um{id:Nat}{c:Code}(h:BWP c (xK id Q) w1 G1 S):BWP (.block id c) Q w1 G1 S:=λa w g=>wp_block (wp_mono (h a w g) λe i w' ⟨f,G2,S',b,d⟩=>by
 cases e with
 |exit id'=>
  simp only[xK]at b;simp only[Exit.inBlock];split at b
  ·rw[if_pos (by assumption)];exact⟨f,G2,S',b,d⟩
  rw[if_neg (by assumption)];exact⟨f,G2,S',b,d⟩
 |_=>exact⟨f,G2,S',b,d⟩)
def lA{c:Code}(h:∀a w,Sim w1 (pln G1) S a w->∃d G2 b,Sim d (pln G2) b a w/\BWP c Q d G2 b):BWP c Q w1 G1 S:=λa w g=>by
 obtain⟨d,G2,b,e,f⟩:=h a w g;exact f a w e
open Classical in
def FE{c:Code}(I:Nat->World->(Nat->Prop)->St->Prop)(n0:Nat)(h0:I n0 w1 G1 S)(round:∀n w1 G1 S,I n w1 G1 S->BWP c (FC (λw' G' S'=>∃m,m<n/\I m w' G' S') Q) w1 G1 S):BWP (.loop c) Q w1 G1 S:=λa w hs=>by
 let p:Act->World->Nat->Prop:=λa w n=>∃w1 G1 S,I n w1 G1 S/\Sim w1 (pln G1) S a w
 let μ:Act->World->Nat:=λa w=>if h:∃n,p a w n then Classical.choose (ff (p a w) _ (Classical.choose_spec h))else 0
 have hμ:∀a w n,p a w n->p a w (μ a w)/\μ a w<=n:=λa w n hn=>by
  have hex:∃n,p a w n:=⟨n,hn⟩
  have hsp:=Classical.choose_spec (ff (p a w) _ (Classical.choose_spec hex))
  have e:μ a w=Classical.choose (ff (p a w) _ (Classical.choose_spec hex)):=by simp only[μ];rw[dif_pos hex]
  rw[e]
  refine⟨hsp.1,?_⟩
  rcases Rm n (Classical.choose (ff (p a w) _ (Classical.choose_spec hex)))with hlt|hge
  ·exact absurd hn (hsp.2 n hlt)
  ·exact hge
 refine wp_loop (λa w=>∃n,p a w n) μ ⟨n0,w1,G1,S,h0,hs⟩ ?_
 rintro a w ⟨n,hn⟩
 obtain⟨⟨w2,G2,S',hI,hS⟩,_⟩:=hμ a w n hn
 refine wp_mono (round _ w2 G2 S' hI a w hS) ?_
 rintro e a' w' ⟨w3,G3,S'',h1,h2⟩
 cases e with
 |normal=>
  obtain⟨m,hm,hI'⟩:=h1
  have hp:p a' w' m:=⟨w3,G3,S'',hI',h2⟩
  exact⟨⟨m,hp⟩,RA (hμ a' w' m hp).2 hm⟩
 |_=>exact⟨w3,G3,S'',h1,h2⟩
def BOps(ops:Array Oper)(rest:List Oper)(Q:Exit->World->(Nat->Prop)->St->Prop)(w1:World)(G1:Nat->Prop)(S:St):Prop:=∀a w,Sim w1 (pln G1) S a w->wpList prog ops (BY Q) rest a w
variable {ops:Array Oper} {rest:List Oper} {o:Oper}
def eh{id:Nat}{ops:List Oper}(h:BOps ops.toArray ops Q w1 G1 S):BWP (.region id ops.toArray false) Q w1 G1 S:=λa w b=>wp_region_list (by simpa using h a w b)
def fO(h:Q .normal w1 G1 S):BOps ops [] Q w1 G1 S:=λ_ _ a=>⟨w1,G1,S,h,a⟩
def Jw(j:o.guard=none)(hd:df S.n o.dst=true){t:Tree}(h:OpOK o S t)(k:BOps ops rest Q w1 G1 (S.put o.dst t)):BOps ops (o::rest) Q w1 G1 S:=by
 rintro a w ⟨bx,rv,e,f,c,b⟩;refine fK (by simp[Region.wanted,j]) λK i=>?_
 have g:=(h w1 (pln G1) bx rv w (λs=>a.tmps.getD s undef) e λs _=>b s).wp (Q:=BY Q);refine Oper.wp_mono ?_ g;rintro m w' ⟨v,rfl,l,d⟩;refine i _ _ (k _ _ ⟨bx,rv,?_,by rw[d9,dQ,f],by rw[c6,c],?_⟩)
 ·rw[dc,b6];exact e.later d
 rw[b6];exact lV f hd (λ_ _ h=>h.later d) b l
def cf{n d:Nat}{sl:List (Nat×Tree)}{bs:List (TypeId×List Tree)}{rs:List (Option Row)}{t:Tree}(a:o.guard=none)(hd:o.dst=some d)(b:Nat.blt d n=true)(h:OpOK o ⟨n,sl,bs,rs⟩ t)(k:BOps ops rest Q w1 G1 ⟨n,(d,t)::sl,bs,rs⟩):BOps ops (o::rest) Q w1 G1 ⟨n,sl,bs,rs⟩:=by
 refine Jw a ?_ h ?_
 ·rw[hd];simpa[df,Q7]using b
 rw[hd];exact k
def rU(g:o.guard=none)(h:∀a w,Sim w1 (pln G1) S a w->OpRuns prog o (λs=>a.tmps.getD s undef) w (λv w'=>∃c G2 b,Sim c (pln G2) b (a.put o.dst v) w'/\BOps ops rest Q c G2 b)):BOps ops (o::rest) Q w1 G1 S:=by
 intro a w i;refine fK (by simp[Region.wanted,g]) λK f=>?_
 refine Oper.wp_mono ?_ ((h a w i).wp (Q:=BY Q));rintro j w' ⟨v,rfl,c,G2,b,d,e⟩;exact f _ _ (e _ _ d)
end
def lB{w:World}:(en w (pln G) [] [] []).W=w/\∀b,(en w (pln G) [] [] []).G b↔G b:=⟨Z,λb=>by simp[en,GG,bX,pln]⟩
def PT.sub{w:World}{G':Nat->Prop}{us:List Value}{ts:List Tree}(h:PT w G us ts)(a:∀b,¬G b->¬G' b):PT w G' us ts:=h.mono (Qi _) λb _ c=>⟨Z,a b c⟩
def FT.gg{w:World}{v:Value}{t:Tree}(h:PT w G [v] [t]):FT (en w (pln G) [] [] []) [v] [t]:=.of (h.sub λb c a=>c ((lB.2 b).1 a))
def PT.gg{w:World}{us:List Value}{ts:List Tree}(h:PT w (GG (pln G) [] [] []) us ts):PT w G us ts:=h.sub λb c a=>c (((lB (w:=w)).2 b).2 a)
def z6(G:Nat->Prop)(w:World):Prop:=∀g,G g->g<w.heap.size/\NoDigB w g
def un{w:World}(a:Env w)(b:z6 G w):Mem w (pln G) [] [] [] [] w:=
 BC a b
section
variable {w1 w w':World} {G1 G2:Nat->Prop} {n:Nat} {sl:List (Nat×Tree)} {a:Act}
def Sim.facts(h:Sim w1 (pln G1) ⟨n,sl,[],[]⟩ a w):Env w/\z6 G1 w/\Below w1.heap.size w1 w/\a.tmps.size=n/\a.defers=[]/\∀i,FT (en w (pln G1) [] [] []) [a.tmps.getD i undef] [look sl i]:=by
 obtain⟨bx,rv,b,f,c,d⟩:=h;obtain rfl:bx=[]:=QI b.nb;obtain rfl:rv=[]:=QI b.nr;exact⟨b.env,λg e=>b.ok g (.inl e),b.below.below,f,c,d⟩
def Sim.slot(h:Sim w1 (pln G1) ⟨n,sl,[],[]⟩ a w){i:Nat}{t:Tree}(d:look sl i=t)(c:t.plain=true):PT w G1 [a.tmps.getD i undef] [t]:=by
 have b:=h.facts.2.2.2.2.2 i;rw[d]at b;exact(b.plain c).gg
def Sim.lit(h:Sim w1 (pln G1) ⟨n,sl,[],[]⟩ a w){i:Nat}{v:Value}(c:look sl i=.sc v):a.tmps.getD i undef=v:=by
 have b:=h.facts.2.2.2.2.2 i;rw[c]at b;exact b.isSc
def Sim.mk(b:Env w)(c:z6 G2 w)(d:a.tmps.size=n)(hd:a.defers=[])(e:∀i,FT (en w (pln G2) [] [] []) [a.tmps.getD i undef] [look sl i]):Sim w (pln G2) ⟨n,sl,[],[]⟩ a w:=⟨[],[],un b c,d,hd,e⟩
def Sim.turn(h:Sim w1 (pln G1) ⟨n,sl,[],[]⟩ a w)(g:Env w')(c:z6 G2 w')(d:w.heap.size<=w'.heap.size)(k:∀b,b<w.heap.size->¬G1 b->w'.heap[b]? =w.heap[b]? /\¬G2 b):Sim w' (pln G2) ⟨n,sl,[],[]⟩ a w':=by
 obtain⟨_,_,_,l,hd,m⟩:=h.facts;refine Sim.mk g c l hd λi=>(m i).mono d (λb j c=>?_) (λ_ _ h=>h) (λ_ _ h=>h)
 obtain⟨e,f⟩:=k b j λh=>c ((lB.2 b).2 h)
 exact⟨e,λh=>f ((lB.2 b).1 h)⟩
def SlotL(E:En)(T:Nat->Value):List (Nat×Tree)->Prop
 |[]=>True
 |(i,t)::l=>FT E [T i] [t]/\SlotL E T l
def SlotL.look{E:En}{T:Nat->Value}:∀{l:List (Nat×Tree)},SlotL E T l->∀i,FT E [T i] [Go.Proofs.YtmhcanmapkenbaaGreatDoor.look l i]
 |[],_,i=>.any _ .nil
 |(j,t)::l,h,i=>by
  rw[cK];split
  ·next e=>subst e;exact h.1
  exact SlotL.look h.2 i
def Sim.back{w0:World}{G0:Nat->Prop}{l:List (Nat×Tree)}(h:Sim w1 (pln G1) ⟨n,sl,[],[]⟩ a w)(p:Env w0)(m:z6 G0 w0)(d:Below w0.heap.size w0 w)(hl:SlotL (en w (pln G0) [] [] []) (λi=>a.tmps.getD i undef) l):Sim w0 (pln G0) ⟨n,l,[],[]⟩ a w:=by
 obtain⟨_,_,_,q,e,_⟩:=h.facts;exact⟨[],[],⟨.of d,.pln p,λg o=>⟨(m g o).1,(m g o).2,id⟩,Z,Z,λi g f=>by simp at f,λk v R c=>by simp at c,⟨List.nodup_nil,λk v R b c=>by simp at c,λj k u v X R b _ c=>by simp at c⟩,λb d=>by simp[bX]at d,λi f=>absurd f (RZ i)⟩,q,e,λi=>hl.look i⟩
def FF(h:Sim w' (pln G2) ⟨n,sl,[],[]⟩ a w'){d:Nat}{v:Value}{t:Tree}(hd:d<n)(j:FT (en w' (pln G2) [] [] []) [v] [t]):Sim w' (pln G2) ⟨n,(d,t)::sl,[],[]⟩ (a.put (some d) v) w':=by
 obtain⟨e,f,_,c,b,g⟩:=h.facts;refine Sim.mk e f (by rw[d9];exact c) (by rw[c6];exact b) λi=>?_
 rw[fL a (some d) v n c (by simpa[df]using hd)];simp only[Qy,cK];split
 ·exact j
 exact g i
end
def rV{S:St}{o:Oper}{x:Operand}{t e:TypeId}{m n c:Nat}{A:Option Addr}(a:o.op=.call {callee:=.builtin .len,args:=#[x],argTypes:=#[t]})(f:ic prog t=some (e,m))(h:S.ev x=.sc (.slice A n c)):OpOK o S (iT (n:Nat)):=by
 intro w0 G0 bx rv w T i d;have b:=(bY d h (by rw[a];simp[Op.operands,Call.operands])).isSc;obtain⟨g,_⟩:=jt f;refine OpRuns.of_ok (v:=.int .i64 (n:Nat)) (W':=w) ?_ ⟨.pure (.sc _ .nil) .nil,Below.refl _ _⟩;simp[execOp,a,resolve,invoke,builtin,Builtin.len_,b,run_underlying g,goInt]
def oq{S:St}{o:Oper}{x g:Operand}{t e:TypeId}{m n c b off j r:Nat}{k:IntKind}{i:Int}(a:o.op=.indexAddr t x g)(u:ic prog t=some (e,m))(y:S.ev x=.sc (.slice (some ⟨b,off,none⟩) n c))(p:S.ev g=.sc (.int k i))(q:i=(j:Nat))(s:j<n)(d:off+j*m=r):OpOK o S (.sc (.pointer (some ⟨b,r,none⟩))):=by
 subst d q;intro w0 G0 bx rv w T z f;have h:=(bY f y (by rw[a];simp[Op.operands])).isSc;have l:=(bY f p (by rw[a];simp[Op.operands])).isSc;have d:=nU (P:=prog) (w:=w) (b:=b) (o:=off) (n:=n) (c:=c) (k:=k) (i:=((j:Nat):Int)) u O O;refine OpRuns.of_ok (v:=.pointer (some ⟨b,off+j*m,none⟩)) (W':=w) ?_ ⟨.pure (.sc _ .nil) .nil,Below.refl _ _⟩;simp[execOp,a,h,l,d]
def BZ{w0:World}{G0:Nat->Prop}{Q:Exit->St->Prop}{S:St}{c:Code}(h:BWP c (λe w1 G1 S=>w1=w0/\G1=G0/\Q e S) w0 G0 S):AWP w0 (pln G0) c Q S:=λa w i=>wp_mono (h a w i) λ_ _ _ ⟨_,_,S',⟨b,d,f⟩,g⟩=>⟨S',f,b▸d▸g⟩
def z7{w:World}{o:Oper}{T:Nat->Value}{t:TypeId}{s b off:Nat}{u:Value}(c:o.op=.load t (.tmp s))(d:T s=.pointer (some ⟨b,off,none⟩))(e:eN prog t=true)(a:w.cell? ⟨b,off,none⟩=some u):(execOp (eX T) o).run prog w=.ok (.value u) w:=by
 have:=kq (P:=prog) e a;simp[execOp,c,eX,d,this]
section
variable {w1:World} {G1:Nat->Prop} {Q:Exit->World->(Nat->Prop)->St->Prop} {ops:Array Oper} {rest:List Oper} {o:Oper} {n d:Nat} {sl:List (Nat×Tree)}
def Sim.put1{a:Act}{w:World}{v:Value}{t:Tree}(h:Sim w1 (pln G1) ⟨n,sl,[],[]⟩ a w)(hd:d<n)(g:FT (en w (pln G1) [] [] []) [v] [t]):Sim w1 (pln G1) ⟨n,(d,t)::sl,[],[]⟩ (a.put (some d) v) w:=by
 obtain⟨bx,rv,c,f,b,e⟩:=h;obtain rfl:bx=[]:=QI c.nb;obtain rfl:rv=[]:=QI c.nr;refine⟨[],[],c,by rw[d9];exact f,by rw[c6];exact b,λi=>?_⟩;rw[fL a (some d) v n f (by simpa[df]using hd)];show FT _ _ [look ((d,t)::sl) i]
 simp only[Qy,cK];split
 ·exact g
 exact e i
def rW{t:TypeId}{s b off:Nat}{u:Value}(l:o.op=.load t (.tmp s))(i:o.guard=none)(hd:o.dst=some d)(j:Nat.blt d n=true)(m:look sl s=.sc (.pointer (some ⟨b,off,none⟩)))(p:eN prog t=true)(g:b<w1.heap.size)(h:w1.cell? ⟨b,off,none⟩=some u)(k:BOps ops rest Q w1 G1 ⟨n,(d,.sc u)::sl,[],[]⟩):BOps ops (o::rest) Q w1 G1 ⟨n,sl,[],[]⟩:=by
 refine rU i λa w c=>?_
 obtain⟨_,_,e,_⟩:=c.facts;have q:=c.lit m;have f:w.cell? ⟨b,off,none⟩=some u:=by rw[<-h];exact World.cell?_of_block (e.block b g)
 refine OpRuns.of_ok (v:=u) (W':=w) ?_ ⟨_,_,_,?_,k⟩
 ·exact z7 (T:=λs=>a.tmps.getD s undef) l q p f
 rw[hd];exact c.put1 (by simpa[Q7]using j) (.pure (.sc _ .nil) .nil)
def xL{w:World}{o:Oper}{T:Nat->Value}{ty:TypeId}{p q b off:Nat}{v y:Value}(l:o.op=.store ty (.tmp p) (.tmp q))(m:T p=.pointer (some ⟨b,off,none⟩))(n:T q=v)(g:(prog.info? ty).map (·.size)=some 1)(f:v.oneCell'=true)(h:w.cell? ⟨b,off,none⟩=some y)(k:w.frozen? ⟨b,off,none⟩=false):(execOp (eX T) o).run prog w=.ok .skip (w.setCell ⟨b,off,none⟩ v):=by
 have c:=run_storeCells_cells (P:=prog) b off [v] 0 w (λj d=>by
  have:j=0:=by simpa using d
  subst this;show(w.cell? ⟨b,off,none⟩).isSome=true
  rw[h];rfl) (λj d=>by
  have:j=0:=by simpa using d
  subst this;exact k) (λx s=>by rw[QP.1 s];exact f)
 have e:v.cells=#[v]:=lX f;cases a:prog.info? ty with
 |none=>simp[a]at g
 |some i=>
  have r:i.size=1:=by simpa[a]using g
  simp[execOp,l,eX,m,n,Instr.storeAt,Instr.sureAddr,storeVar,sizeOf,typeInfo,a,r,e]at c⊢;simp[c,World.setCells]
end
def mg:prog.underlying 3=some (.int .i64):=U
def f9:ic prog 49=some (5,1):=U
def uo:eN prog 5=true:=U
def uq:(prog.info? 5).map (·.size)=some 1:=U
def D3:prog.underlying 5=some (.int .u8):=U
def cT{a b:ByteArray}(h:a=b):(Tree.sc (.string a))=sT b:=by rw[h]
def OB(n:Nat):ByteArray:=⟨(Lib.decDigits n).toArray⟩
def xM(k:Nat):∀(u:Nat),u<10^k->0<k->(Lib.decDigits u).length<=k:=by
 induction k with
 |zero=>intro u _ h;exact absurd h O
 |succ k ih=>
  intro u a _;rw[Lib.decDigits];split
  ·simp
  rename_i h;have c:0<k:=by
   rcases RW k with rfl|b
   ·simp at a;omega
   exact b
  have:=ih (u/10) (by rw[S5 I];rw[Rw]at a;exact a) c;simp;omega
def FG(n:Int)(b: -9223372036854775808<=n)(c:n<=9223372036854775807):(Lib.itoa n).length<=21:=by
 have a:(10^20:Nat)=100000000000000000000:=I
 unfold Lib.itoa;split
 ·have:=xM 20 n.natAbs (by rw[a];omega) I;simp;omega
 have:=xM 20 n.toNat (by rw[a];omega) I;omega
def Jx{t n:Int}{b:ByteArray}(a:bz t n b=true)(f: -9223372036854775808<=n)(g:n<=9223372036854775807):1<=(cH t n b).length/\(cH t n b).length<=130:=by
 by_cases d:t=1
 ·subst d;rw[show cH 1 n b=Lib.itoa n by simp[cH,a]];obtain⟨c,r,e,j⟩:=pp n;have:=FG n f g;rw[e]at this⊢;simp at this⊢;omega
 obtain⟨rfl,rfl,i,_⟩:=kE d a;rw[show cH 2 0 b=[39]++gG b.data.toList++[39] by simp[cH,a]];have:=gX b.data.toList;have h:b.data.toList.length=b.size:=F
 simp only[QJ,Qn,QC];omega
def V.fmt(v:V):List UInt8:=cH v.t v.n v.s
def V.rng(v:V):Prop:= -9223372036854775808<=v.n/\v.n<=9223372036854775807
def Jy(v:V)(h:v.rng):Ct 23 [v.tree] (.sc (.string ⟨v.fmt.toArray⟩)):=Ct.sc ⟨_,func23,Z,Z⟩ λG w vs b _ c=>by
 obtain⟨u,rfl,a⟩:=ik c;rw[vI a];exact i6 v.t v.n v.s w h.1 h.2 b
def aE(s:ByteArray):Tree:=.sc (.string s)
def gQ(l:List ByteArray):Sized 1 (l.map aE):=Sized.map _ l λ_=>rfl
def mD(x:Int):Tree:=.sc (.int .i64 x)
def z8(l:List Int):Sized 1 (l.map mD):=Sized.map _ l λ_=>rfl
def Jz(n:Int):Ct 6 [iT n] (V.tree ⟨1,n,⟨#[]⟩⟩):=⟨⟨_,func6,Z,Z⟩,λG w vs _ _ c=>by
 obtain⟨u,rfl,a⟩:=ik c;cases a;refine(zW n w).mono ?_;rintro e w' ⟨rfl,b⟩;exact⟨_,Z,.agg [.int .i64 1,.int .i64 n,.string ⟨#[]⟩] _ (.sc _ (.sc _ (.sc _ .nil))) .nil,b⟩⟩
def FH(v:V)(h:v.rng)(c:v.s.size<=9223372036854775807):Ct 65 [v.tree] (.sc (.string ⟨v.fmt.toArray⟩)):=Ct.sc ⟨_,func65,Z,Z⟩ λG w vs _ _ b=>by
 obtain⟨u,rfl,a⟩:=ik b;rw[vI a];exact i7 v.t v.n v.s w h.1 h.2 c
