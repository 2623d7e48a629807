import Derived.Test.YtfoejfohbkmmeaaGreatDoorB42
import Derived.Test.YtfoejfohbkmmeaaGreatDoorB00
import Derived.Test.YtfoejfohbkmmeaaGreatDoorB06
import Derived.Test.YtfoejfohbkmmeaaGreatDoorB35
import Derived.Test.YtfoejfohbkmmeaaGreatDoorB01
import Derived.Test.YtfoejfohbkmmeaaGreatDoorB11
set_option maxRecDepth 100000
set_option maxHeartbeats 4000000
namespace Go.Proofs.YtfoejfohbkmmeaaGreatDoor
open Go.RowKit
def C5(r:Rel):Rel:=⟨⟨r.sch.name,r.sch.cert,[]⟩,r.tups⟩
theorem yn(r:Rel):bD (C5 r)=1:=by
 unfold bD;rw[if_pos];unfold gt kz C5;simp
theorem A6{r:Rel}(h:FitR r):FitR (C5 r):=⟨OA _,h.tups,h.tup⟩
theorem FX{r:Rel}(h:FitR r){a:Nat}(e:a=1):Ct 18 [(C5 r).tree] (.tup [.sl [],nI a]):=by
 subst e;have:=wP (C5 r) (A6 h) (by rw[yn];decide);rw[yn]at this;exact this
theorem FY{r:Rel}(h:FitR r){a:Nat}(e:a=1):Ct 21 [(C5 r).tree] (nI a):=by
 subst e;have:=jh (C5 r) (A6 h);rw[yn]at this;exact this
theorem K7{r:Rel}(d:Good r){a:Nat}{b:List UInt8}(e:a=0)(c:eY r=b):Ct 18 [r.tree] (.tup [.sl (am b),nI a]):=by
 subst e c;exact(Fv d).ct
theorem Jn{r:Rel}(d:Good r){a:Nat}{b:List UInt8}(e:a=0)(c:eY r=b):Ct 19 [r.tree] (.tup [.sl (am b),nI a]):=by
 subst e c;exact CS d
theorem K8{r:Rel}(a:Good r):(iD r).length<=1073741824:=by
 have c:=Ef a;have b:(om (g5 (iD r))).length=4:=rfl;have:(eY r).length=(iD r).length+4:=by unfold eY;rw[Oj,b]
 omega
theorem K9{r:Rel}(a:Good r){b:Nat}{c:List UInt8}(e:b=0)(d:eY r=c):Ct 20 [.sl (am c)] (.tup [r.tree,nI b]):=by
 subst e d;have h:=FU (eY r) (Ef a);rw[<-mL (FW a.enc (K8 a)) Z]at h;exact h
theorem FZ(l:List Int)(s:l.length<=9223372036854775807):Ct 6 [.sl (l.map gW)] (bT true):=by
 obtain⟨a,j⟩:∃z:Nat,z=0:=⟨_,rfl⟩;obtain⟨b,k⟩:∃z:Nat,z=0:=⟨_,rfl⟩;obtain⟨f,o⟩:∃z:Nat,z=0:=⟨_,rfl⟩;obtain⟨e,h⟩:∃z:Nat,z=1:=⟨_,rfl⟩;obtain⟨q0,m⟩:∃q:Bool,q=true:=⟨_,rfl⟩;refine Ct.of (n:=74) Tryz.func6 Z Z Z Z Z fun w0 G0=>?_
 refine ab<|aj 1 Z<|ab<|ae<|aa 1 Z<|kp (fun t=>∃r:Rel,Good r/\t=r.tree) Z Z Z (kY Z (IR l s) Z Z) ?_;rintro _ ⟨r,g,rfl⟩;obtain⟨p,i⟩:∃x,eY r=x:=⟨_,rfl⟩;refine aa 2 Z<|af<|ab<|ae<|aa 1 Z<|ag Z Z Z (ak Z (K7 g j i) Z Z)<|aa 5 Z<|af<|ab<|ae<|aa 1 Z<|ag Z Z Z (ak Z (Jn g k i) Z Z)<|aa 5 Z<|af<|ab<|ae<|aa 1 Z<|ag Z Z Z (ak Z (K9 g o i) Z Z)<|aa 6 Z<|af<|ab<|aj 3 Z<|ab<|ae<|aa 3 Z<|ph 2 2 (bs':=[(30,(a7 r)),(30,(a7 r)),(30,[sT r.sch.name,bT r.sch.cert,.sl [],.sl (r.tups.map Tp.tree)])]) Z Z Z<|af<|ab<|ae<|aa 1 Z<|ag Z Z Z (ak Z (FX g.fit.1 h) Z Z)<|aa 5 Z<|af<|ab<|ck (fu:=1) [some 38,some 39,some 40,some 41,some 42,some 43,some 44,some 45,some 46,some 47,some 48,some 49,some 50,some 51,some 52,some 53,some 54,some 55,some 56,some 57,some 58,some 59,some 60,some 61,some 62,some 63,some 64,some 65,some 66,some 67,some 68,some 69,some 70,some 71,some 72,some 73,some 2] [nI a,bT (decide (a=0)),bT (decide (a=0)),if(decide (a=0))=true then(nI b:Tree)else .sc undef,if(decide (a=0))=true then(bT (decide (b=0)):Tree)else .sc undef,bT ((decide (a=0))&&(decide (b=0))),bT ((decide (a=0))&&(decide (b=0))),if((decide (a=0))&&(decide (b=0)))=true then(.sl (am p):Tree)else .sc undef,if((decide (a=0))&&(decide (b=0)))=true then(sT (bs p):Tree)else .sc undef,if((decide (a=0))&&(decide (b=0)))=true then(.sl (am p):Tree)else .sc undef,if((decide (a=0))&&(decide (b=0)))=true then(sT (bs p):Tree)else .sc undef,if((decide (a=0))&&(decide (b=0)))=true then(bT q0:Tree)else .sc undef,bT (((decide (a=0))&&(decide (b=0)))&&q0),bT (((decide (a=0))&&(decide (b=0)))&&q0),if(((decide (a=0))&&(decide (b=0)))&&q0)=true then(nI f:Tree)else .sc undef,if(((decide (a=0))&&(decide (b=0)))&&q0)=true then(bT (decide (f=0)):Tree)else .sc undef,bT ((((decide (a=0))&&(decide (b=0)))&&q0)&&(decide (f=0))),bT ((((decide (a=0))&&(decide (b=0)))&&q0)&&(decide (f=0))),if((((decide (a=0))&&(decide (b=0)))&&q0)&&(decide (f=0)))=true then(.agg (a7 r):Tree)else .sc undef,if((((decide (a=0))&&(decide (b=0)))&&q0)&&(decide (f=0)))=true then(.agg (a7 r):Tree)else .sc undef,if((((decide (a=0))&&(decide (b=0)))&&q0)&&(decide (f=0)))=true then(.agg (a7 r):Tree)else .sc undef,if((((decide (a=0))&&(decide (b=0)))&&q0)&&(decide (f=0)))=true then(bT (ec r r):Tree)else .sc undef,bT (((((decide (a=0))&&(decide (b=0)))&&q0)&&(decide (f=0)))&&(ec r r)),bT (((((decide (a=0))&&(decide (b=0)))&&q0)&&(decide (f=0)))&&(ec r r)),if(((((decide (a=0))&&(decide (b=0)))&&q0)&&(decide (f=0)))&&(ec r r))=true then(nI e:Tree)else .sc undef,if(((((decide (a=0))&&(decide (b=0)))&&q0)&&(decide (f=0)))&&(ec r r))=true then(.agg [sT r.sch.name,bT r.sch.cert,.sl [],.sl (r.tups.map Tp.tree)]:Tree)else .sc undef,if(((((decide (a=0))&&(decide (b=0)))&&q0)&&(decide (f=0)))&&(ec r r))=true then(nI e:Tree)else .sc undef,if(((((decide (a=0))&&(decide (b=0)))&&q0)&&(decide (f=0)))&&(ec r r))=true then(bT (decide (e=e)):Tree)else .sc undef,bT ((((((decide (a=0))&&(decide (b=0)))&&q0)&&(decide (f=0)))&&(ec r r))&&(decide (e=e))),bT ((((((decide (a=0))&&(decide (b=0)))&&q0)&&(decide (f=0)))&&(ec r r))&&(decide (e=e))),if((((((decide (a=0))&&(decide (b=0)))&&q0)&&(decide (f=0)))&&(ec r r))&&(decide (e=e)))=true then(nI e:Tree)else .sc undef,if((((((decide (a=0))&&(decide (b=0)))&&q0)&&(decide (f=0)))&&(ec r r))&&(decide (e=e)))=true then(bT (decide (e=1)):Tree)else .sc undef,bT (((((((decide (a=0))&&(decide (b=0)))&&q0)&&(decide (f=0)))&&(ec r r))&&(decide (e=e)))&&(decide (e=1))),bT (((((((decide (a=0))&&(decide (b=0)))&&q0)&&(decide (f=0)))&&(ec r r))&&(decide (e=e)))&&(decide (e=1))),if(((((((decide (a=0))&&(decide (b=0)))&&q0)&&(decide (f=0)))&&(ec r r))&&(decide (e=e)))&&(decide (e=1)))=true then(bT true:Tree)else .sc undef,bT ((((((((decide (a=0))&&(decide (b=0)))&&q0)&&(decide (f=0)))&&(ec r r))&&(decide (e=e)))&&(decide (e=1)))||false),bT ((((((((decide (a=0))&&(decide (b=0)))&&q0)&&(decide (f=0)))&&(ec r r))&&(decide (e=e)))&&(decide (e=1)))||false)] (by kernel_rfl) Z Z (by kernel_rfl) Z ?_ ?_
 ·refine Chain.op Z (av Z Z)<|Chain.op Z (ah (ai Z Z Z Zy) (au (iF a 0)))<|Chain.op Z (av Z Z)<|aU Z Z Z (fun d=>av Z Z)<|aU Z Z Z (fun d=>ah (ai Z (if_pos d) Z (fun _=>rfl)) (au (iF b 0)))<|Chain.op Z (aL Z Z (fun c=>(if_pos c).trans (au (by rw[c];rfl))) (fun c=>(au (by rw[c];rfl))))<|Chain.op Z (av Z Z)<|aU Z Z Z (fun d=>av Z Z)<|aU Z Z Z (fun d=>gM Z (if_pos d))<|aU Z Z Z (fun d=>av Z Z)<|aU Z Z Z (fun d=>gM Z (if_pos d))<|aU Z Z Z (fun d=>ah (ai Z (if_pos d) (if_pos d) (fun _=>rfl)) (au (by rw[m];exact beq_self_eq_true _)))<|Chain.op Z (aL Z Z (fun c=>(if_pos c).trans (au (by rw[c];rfl))) (fun c=>(au (by rw[c];rfl))))<|Chain.op Z (av Z Z)<|aU Z Z Z (fun d=>av Z Z)<|aU Z Z Z (fun d=>ah (ai Z (if_pos d) Z (fun _=>rfl)) (au (iF f 0)))<|Chain.op Z (aL Z Z (fun c=>(if_pos c).trans (au (by rw[c];rfl))) (fun c=>(au (by rw[c];rfl))))<|Chain.op Z (av Z Z)<|aU Z Z Z (fun d=>aR Z Z Z bm Z Z)<|aU Z Z Z (fun d=>aR Z Z Z bm Z Z)<|aU Z Z Z (fun d=>ak Z (Fp g) (eo (if_pos d) Z) Z)<|aU Z Z Z (fun d=>ak Z (KD r r g.fit.1 g.fit.1) (eo (if_pos d) (eo (if_pos d) Z)) Z)<|Chain.op Z (aL Z Z (fun c=>(if_pos c).trans (au (by rw[c];rfl))) (fun c=>(au (by rw[c];rfl))))<|Chain.op Z (av Z Z)<|aU Z Z Z (fun d=>av Z Z)<|aU Z Z Z (fun d=>aR Z Z Z bm Z Z)<|aU Z Z Z (fun d=>ak Z (FY g.fit.1 h) (eo (if_pos d) Z) Z)<|aU Z Z Z (fun d=>ah (ai Z (if_pos d) (if_pos d) (fun _=>rfl)) (au (iF e e)))<|Chain.op Z (aL Z Z (fun c=>(if_pos c).trans (au (by rw[c];rfl))) (fun c=>(au (by rw[c];rfl))))<|Chain.op Z (av Z Z)<|aU Z Z Z (fun d=>av Z Z)<|aU Z Z Z (fun d=>ah (ai Z (if_pos d) Z (fun _=>rfl)) (au (iF e 1)))<|Chain.op Z (aL Z Z (fun c=>(if_pos c).trans (au (by rw[c];rfl))) (fun c=>(au (by rw[c];rfl))))<|Chain.op Z (av Z Z)<|aU Z Z Z (fun d=>ak Z IS Z Z)<|Chain.op Z (aL Z Z (fun c=>(if_pos c).trans (au (by rw[c];rfl))) (fun c=>(au (by rw[c];rfl))))<|Chain.op Z (bE Z Z)<|Chain.nil
 refine ax<|⟨.inr Z,_,.cons Z .nil,au (by rw[m,j,k,o,h,(Ac r r).2 Z];rfl),Z⟩
theorem xc{W:World}{G:Nat->Prop}:∀l:List Int,PT W G (lH l) (flat (l.map gW))
 |[]=>.nil
 |_::l=>.sc _ (xc l)
theorem Jo{W:World}{A:Option Addr}{l:List Int}{c:Nat}(d:At W W.heap.size A (lH l))(g:l.length<=c)(f:c<=9223372036854775807)(j:A=none->c=0):PT W (fun _=>False) [.slice A l.length c] [.sl (l.map gW)]:=by
 cases e:l with
 |nil=>exact .sl0 _ _ j f .nil
 |cons x m=>
  rw[<-e];obtain⟨b,o,rfl,i,a⟩:=d (by rw[e];simp[lH]);exact .sl b o c _ (lH l) _ i (fun h=>h) a (by simp) (by simpa using g) f (xc l) .nil
theorem C6{W:World}{A:Option Addr}{l:List Int}{c:Nat}(a:At W W.heap.size A (lH l))(b:l.length<=c)(f:c<=9223372036854775807)(k:A=none->c=0)(j:Env W):
  Calls Tryz.prog 6 #[.slice A l.length c] W (JU W):=by
 have h:=(FZ l (by omega)).2 (fun _=>False) W [.slice A l.length c] j (fun g d=>d.elim) (Jo a b f k);refine h.mono ?_;rintro en w' ⟨v,rfl,i,e⟩;cases i with
 |sc _ _=>exact⟨Z,e⟩
end Go.Proofs.YtfoejfohbkmmeaaGreatDoor
