import Derived.Test.YtfoejfohbkmmeaaGreatDoorB09
import Derived.Test.YtfoejfohbkmmeaaGreatDoorB01
import Derived.Test.YtfoejfohbkmmeaaGreatDoorB00
set_option maxRecDepth 100000
set_option maxHeartbeats 1000000
namespace Go.Proofs.YtfoejfohbkmmeaaGreatDoor
open Go.RowKit
open Lib renaming hid→J
def gT(a b:V):Int:=iN a.t a.n a.s b.t b.n b.s
def bg:List V->List V->Int
 |[],[]=>0
 |[],_::_=> -1
 |_::_,[]=>1
 |a::l,b::m=>if gT a b=0 then bg l m else gT a b
theorem vA(l m:List V)(k:Nat)(a:k<l.length)(b:k<m.length):bg (l.drop k) (m.drop k)=if gT l[k] m[k]=0 then bg (l.drop (k+1)) (m.drop (k+1))else gT l[k] m[k]:=by
 rw[Ow a,Ow b,bg]
theorem rU(A B:Option Addr)(c d:Nat)(l m:List V)(w:World)(h:At w w.heap.size A (dV l))(O:At w w.heap.size B (dV m))(hl:l.length<=65536)(_hm:m.length<=65536):
  Calls Tryz.prog 123 #[.slice A l.length c,.slice B m.length d,.func (.func 124) #[] #[]] w fun e w'=>e=.returned (.int .i64 (bg l m))/\Below w.heap.size w w':=by
 have HA:=J h;have S:=J O;clear h O
 go_enter Tryz.func123,Tryz.ntmps123
 go_wp2
 go_loopw [13] (fun i wr=>∃k:Nat,k<=l.length/\k<=m.length/\i=.int .i64 k/\bg l m=bg (l.drop k) (m.drop k)/\Below w.heap.size w wr) (fun i _=>l.length-(intOf i).toNat)
 case atStart=>exact⟨0,OA _,OA _,Z,Z,Below.refl _ _⟩
 case round=>
  obtain⟨k,hk,T,rfl,v,j⟩:=hrel;have D:=J v;have a:=J j;have I:=J (HA.out.below j);have L:=J (S.out.below j);clear v j;by_cases u:k<l.length
  ·obtain⟨b1,o1,rfl,a0,R,P,Q⟩:=I.out.val u;by_cases p:k<m.length
   ·obtain⟨M,G,rfl,U,H,K,E⟩:=L.out.val p;have g:=a.out.size;have y:∀o:Obj,(wr.alloc o).cell? ⟨M,G+k*3,none⟩=some (.int .i64 m[k].t):=fun o=>(World.cell?_alloc_lt wr o _ (by simp;omega)).trans H
    have C:∀o:Obj,(wr.alloc o).cell? ⟨M,G+k*3+1,none⟩=some (.int .i64 m[k].n):=fun o=>(World.cell?_alloc_lt wr o _ (by simp;omega)).trans K
    have z:∀o:Obj,(wr.alloc o).cell? ⟨M,G+k*3+2,none⟩=some (.string m[k].s):=fun o=>(World.cell?_alloc_lt wr o _ (by simp;omega)).trans E
    have f:=J (vA l m k u p);obtain⟨x,F⟩:∃x,gT l[k] m[k]=x:=⟨_,rfl⟩;have f:Hid (bg (l.drop k) (m.drop k)=if x=0 then bg (l.drop (k+1)) (m.drop (k+1))else x):=by rw[<-F];exact f
    have N:Hid (∀W:World,Calls Tryz.prog 124 #[.agg #[.int .i64 l[k].t,.int .i64 l[k].n,.string l[k].s],.agg #[.int .i64 m[k].t,.int .i64 m[k].n,.string m[k].s]] W fun e w'=>e=.returned (.int .i64 x)/\Below W.heap.size W w'):=fun W=>by
     have:=yH l[k].t l[k].n l[k].s m[k].t m[k].n m[k].s W;rwa[show iN l[k].t l[k].n l[k].s m[k].t m[k].n m[k].s=x from F]at this
    clear F;by_cases q:x=0
    ·subst q
     go_wp2_with fail
     clear H K E y C z R P Q;refine(N.out _).mono ?_;rintro e X ⟨rfl,b⟩;have r:=J b;clear b
     go_wp2
     go_roundw
     case rel=>
      refine⟨k+1,by omega,by omega,by go_num,by rw[D.out,f.out];simp,?_⟩;exact(((a.out.alloc g _).alloc (by simp;omega) _).trans (r.out.mono (by simp;omega)))
     case measure=>simp[intOf];omega
    have Y:(x !=0)=true:=by simpa using q
    have a1:(x==0)=false:=by simpa using q
    go_wp2_with fail
    clear H K E y C z R P Q;refine(N.out _).mono ?_;rintro e X ⟨rfl,b⟩;have r:=J b;clear b
    go_wp2
    go_ret
    exact⟨by rw[D.out,f.out,if_neg q];rfl,(((a.out.alloc g _).alloc (by simp;omega) _).trans (r.out.mono (by simp;omega)))⟩
   have f:=J (show bg (l.drop k) (m.drop k)=1 by
    rw[Ow u,Ov (l:=m) (by omega)];rfl)
   have g:=a.out.size
   go_wp2
   go_ret
   exact⟨by rw[D.out,f.out];rfl,a.out.alloc g _⟩
  by_cases p:k<m.length
  ·have f:=J (show bg (l.drop k) (m.drop k)= -1 by
    rw[Ow p,Ov (l:=l) (by omega)];rfl)
   go_wp2
   go_ret
   exact⟨by rw[D.out,f.out];rfl,a.out⟩
  have f:=J (show bg (l.drop k) (m.drop k)=0 by
   rw[Ov (l:=l) (by omega),Ov (l:=m) (by omega)];rfl)
  go_wp2
  go_ret
  exact⟨by rw[D.out,f.out];rfl,a.out⟩
theorem Bv(A B:Option Addr)(c d:Nat)(l m:List V)(w:World)(h:At w w.heap.size A (dV l))(a:At w w.heap.size B (dV m))(b:l.length<=65536)(i:m.length<=65536):
  Calls Tryz.prog 64 #[.slice A l.length c,.slice B m.length d] w fun e w'=>e=.returned (.int .i64 (bg l m))/\Below w.heap.size w w':=by
 have g:=J (rU A B c d l m w h a b i);clear h a
 go_enter Tryz.func64,Tryz.ntmps64
 go_wp2_with fail
 refine g.out.mono ?_;rintro e w' ⟨rfl,f⟩
 go_wp2
 go_ret
 exact⟨Z,f⟩
def pj(c:UInt8):Bool:=decide (32<=c.toNat/\c.toNat<=126)
def bJ(t n:Int)(s:ByteArray):Bool:=
 if t=1 then s.data.toList.isEmpty else decide (t=2)&&decide (n=0)&&decide (s.size<=64)&&s.data.toList.all pj
theorem oc(s:ByteArray)(k:Nat)(h:k<s.size):(s.data.toList.take (k+1)).all pj=((s.data.toList.take k).all pj&&pj s[k]):=by
 rw[OM (by simpa using h),Qd];simp;rfl
theorem kr{l:List UInt8}(k:Nat)(h:(l.take k).all pj=false):l.all pj=false:=by
 rw[R2]at h⊢;obtain⟨x,a,b⟩:=h;exact⟨x,OV a,b⟩
theorem Eu(n:Int)(s:ByteArray)(w:World):
  Calls Tryz.prog 104 #[.agg #[.int .i64 1,.int .i64 n,.string s]] w fun e w'=>e=.returned (.bool (bJ 1 n s))/\Below w.heap.size w w':=by
 go_enter Tryz.func104,Tryz.ntmps104
 go_wp2
 go_ret
 exact⟨by simp[bJ,Lib.toList_data],(Below.refl _ _).alloc (Oh _) _⟩
theorem yK(t n:Int)(s:ByteArray)(w:World)(b:t≠1)(a:t≠2):
  Calls Tryz.prog 104 #[.agg #[.int .i64 t,.int .i64 n,.string s]] w fun e w'=>e=.returned (.bool (bJ t n s))/\Below w.heap.size w w':=by
 have c:=J (show bJ t n s=false by simp[bJ,b,a]);have d:(t==1)=false:=by simpa using b
 have f:(t !=2)=true:=by simpa using a
 have g:(t==2)=false:=by simpa using a
 clear b a
 go_enter Tryz.func104,Tryz.ntmps104
 go_wp2
 go_ret
 exact⟨by rw[c.out];rfl,(Below.refl _ _).alloc (Oh _) _⟩
theorem Ev(n:Int)(s:ByteArray)(w:World)(h:n≠0):
  Calls Tryz.prog 104 #[.agg #[.int .i64 2,.int .i64 n,.string s]] w fun e w'=>e=.returned (.bool (bJ 2 n s))/\Below w.heap.size w w':=by
 have a:=J (show bJ 2 n s=false by simp[bJ,h]);have b:(n==0)=false:=by simpa using h
 have c:(n !=0)=true:=by simpa using h
 clear h
 go_enter Tryz.func104,Tryz.ntmps104
 go_wp2
 go_ret
 exact⟨by rw[a.out];rfl,(Below.refl _ _).alloc (Oh _) _⟩
theorem Bw(s:ByteArray)(w:World)(h:64<s.size):
  Calls Tryz.prog 104 #[.agg #[.int .i64 2,.int .i64 0,.string s]] w fun e w'=>e=.returned (.bool (bJ 2 0 s))/\Below w.heap.size w w':=by
 have a:=J (show bJ 2 0 s=false by simp[bJ];omega)
 go_enter Tryz.func104,Tryz.ntmps104
 go_wp2
 go_ret
 exact⟨by rw[a.out];rfl,(Below.refl _ _).alloc (Oh _) _⟩
theorem Ew(s:ByteArray)(w:World)(h:s.size<=64):
  Calls Tryz.prog 104 #[.agg #[.int .i64 2,.int .i64 0,.string s]] w fun e w'=>e=.returned (.bool (bJ 2 0 s))/\Below w.heap.size w w':=by
 have c:=J (show bJ 2 0 s=s.data.toList.all pj by simp[bJ,h])
 go_enter Tryz.func104,Tryz.ntmps104
 go_wp2
 go_loop [3] (fun i=>∃k:Nat,k<=s.size/\(s.data.toList.take k).all pj=true/\i=.int .i64 k) (fun i=>s.size-(intOf i).toNat)
 case atStart=>exact⟨0,OA _,by simp,Z⟩
 case round=>
  obtain⟨k,m,a,rfl⟩:=hrel;have g:=J a;clear a;by_cases f:k<s.size
  ·have d:=J (oc s k f);by_cases j:32<=s[k].toNat
   ·by_cases l:s[k].toNat<=126
    ·have b:=J (show pj s[k]=true by simp[pj,j,l])
     go_wp2
     go_round
     case rel=>exact⟨k+1,by omega,by rw[d.out,g.out,b.out];rfl,by go_num⟩
     case measure=>simp[intOf];omega
    have b:=J (show s.data.toList.all pj=false from kr (k+1) (by rw[d.out];simp[pj,l]))
    go_wp2
    go_ret
    exact⟨by rw[c.out,b.out];rfl,(Below.refl _ _).alloc (Oh _) _⟩
   have b:=J (show s.data.toList.all pj=false from kr (k+1) (by rw[d.out];simp[pj,j]))
   go_wp2
   go_ret
   exact⟨by rw[c.out,b.out];rfl,(Below.refl _ _).alloc (Oh _) _⟩
  have b:=J (show s.data.toList.all pj=true by have:=g.out;rwa[Oy (by simp;omega)]at this)
  go_wp2
  go_ret
  exact⟨by rw[c.out,b.out];rfl,(Below.refl _ _).alloc (Oh _) _⟩
theorem fc(t n:Int)(s:ByteArray)(w:World):
  Calls Tryz.prog 104 #[.agg #[.int .i64 t,.int .i64 n,.string s]] w fun e w'=>e=.returned (.bool (bJ t n s))/\Below w.heap.size w w':=by
 by_cases c:t=1
 ·subst c;exact Eu n s w
 by_cases b:t=2
 ·subst b;by_cases d:n=0
  ·subst d;rcases OS 64 s.size with a|a
   ·exact Bw s w a
   exact Ew s w a
  exact Ev n s w d
 exact yK t n s w c b
def fL(t n:Int)(s:ByteArray):List UInt8:=
 if bJ t n s then(if t=1 then Lib.itoa n else [39]++lU s.data.toList++[39])else []
theorem Bx(t n:Int)(s:ByteArray)(w:World)(h:bJ t n s=false):
  Calls Tryz.prog 46 #[.agg #[.int .i64 t,.int .i64 n,.string s]] w fun e w'=>e=.returned (.string ⟨(fL t n s).toArray⟩)/\Below w.heap.size w w':=by
 have c:=J (show fL t n s=[] by simp[fL,h]);have a:∀w:World,Calls Tryz.prog 104 #[.agg #[.int .i64 t,.int .i64 n,.string s]] w fun e w'=>e=.returned (.bool false)/\Below w.heap.size w w':=fun w=>by
  have:=fc t n s w;rwa[h]at this
 have b:=J a;clear a h
 go_enter Tryz.func46,Tryz.ntmps46
 go_wp2_with (go_at_call 104;refine(b.out _).mono ?_;rintro e w' ⟨rfl,d⟩)
 go_ret
 exact⟨by rw[c.out];rfl,((Below.refl _ _).alloc (Oh _) _).trans (d.mono (by simp))⟩
theorem Bz(n:Int)(s:ByteArray)(w:World)(h:bJ 1 n s=true)(v: -9223372036854775808<=n)(u:n<=9223372036854775807)(i:Env w):
  Calls Tryz.prog 46 #[.agg #[.int .i64 1,.int .i64 n,.string s]] w fun e w'=>e=.returned (.string ⟨(fL 1 n s).toArray⟩)/\Below w.heap.size w w':=by
 have l:=J (show fL 1 n s=Lib.itoa n by simp[fL,h]);have g:∀w:World,Calls Tryz.prog 104 #[.agg #[.int .i64 1,.int .i64 n,.string s]] w fun e w'=>e=.returned (.bool true)/\Below w.heap.size w w':=fun w=>by
  have:=fc 1 n s w;rwa[h]at this
 have k:=J g;clear g h;have t:=J i;clear i;obtain⟨W,f,m,j,x,r,B⟩:=MH w 77 (.int .i64 1) (.int .i64 n) (.string s);have o:=J f;clear f;have c:=J j;clear j
 go_enter Tryz.func46,Tryz.ntmps46
 go_wp2_with fail
 rw[o.out];refine(k.out _).mono ?_;rintro e q ⟨rfl,b⟩;have z:=(b.cell (p:=⟨w.heap.size,0,none⟩) (by simp[c.out])).trans x;have A:=(b.cell (p:=⟨w.heap.size,1,none⟩) (by simp[c.out])).trans r;have a:Below w.heap.size w q:=m.trans (b.mono (by rw[c.out];omega))
 go_wp2_with fail
 refine(uU n _ v u (t.out.below a (Oh _))).mono ?_;rintro e y ⟨rfl,d⟩
 go_wp2
 go_ret
 exact⟨by rw[l.out];rfl,a.trans (d.mono a.size)⟩
theorem BA(n:Int)(s:ByteArray)(w:World)(h:bJ 2 n s=true)(j:Env w):
  Calls Tryz.prog 46 #[.agg #[.int .i64 2,.int .i64 n,.string s]] w fun e w'=>e=.returned (.string ⟨(fL 2 n s).toArray⟩)/\Below w.heap.size w w':=by
 have m:=J (show fL 2 n s=[39]++lU s.data.toList++[39] by simp[fL,h]);have C:s.size<=64:=by simp[bJ]at h;omega
 have i:∀w:World,Calls Tryz.prog 104 #[.agg #[.int .i64 2,.int .i64 n,.string s]] w fun e w'=>e=.returned (.bool true)/\Below w.heap.size w w':=fun w=>by
  have:=fc 2 n s w;rwa[h]at this
 have l:=J i;clear i h;have u:=J j;clear j;obtain⟨W,g,o,k,v,B,t⟩:=MH w 77 (.int .i64 2) (.int .i64 n) (.string s);have q:=J g;clear g;have c:=J k;clear k
 go_enter Tryz.func46,Tryz.ntmps46
 go_wp2_with fail
 rw[q.out];refine(l.out _).mono ?_;rintro e r ⟨rfl,b⟩;have A:=(b.cell (p:=⟨w.heap.size,0,none⟩) (by simp[c.out])).trans v;have x:=(b.cell (p:=⟨w.heap.size,2,none⟩) (by simp[c.out])).trans t;have a:Below w.heap.size w r:=o.trans (b.mono (by rw[c.out];omega))
 go_wp2_with fail
 refine(io s ⟨#[39]⟩ ⟨#[39,39]⟩ _ (by omega) (by decide) (by decide) (u.out.below a (Oh _))).mono ?_;rintro e y ⟨rfl,d⟩;have f:Lib.replaceAll s.data.toList [39] [39,39]=lU s.data.toList:=by rw[it _ (by decide),xA]
 simp only[f];clear f;have z:(lU s.data.toList).length<=128:=by have:=kK s.data.toList;simp at this;omega
 go_wp2
 go_ret
 refine⟨?_,a.trans (d.mono a.size)⟩;rw[m.out,<-GD,<-GD];rfl
theorem jU(t n:Int)(s:ByteArray)(w:World)(d: -9223372036854775808<=n)(c:n<=9223372036854775807)(b:Env w):
  Calls Tryz.prog 46 #[.agg #[.int .i64 t,.int .i64 n,.string s]] w fun e w'=>e=.returned (.string ⟨(fL t n s).toArray⟩)/\Below w.heap.size w w':=by
 cases h:bJ t n s
 ·exact Bx t n s w h
 by_cases a:t=1
 ·subst a;exact Bz n s w h d c b
 have:t=2:=by simp[bJ,a]at h;exact h.1.1.1
 subst this;exact BA n s w h b
theorem xB(l:List UInt8):Lib.hasPrefix (39::l) [39]=true:=by simp[Lib.hasPrefix]
theorem BB(l:List UInt8)(h:∀r,l≠39::r):Lib.hasPrefix l [39]=false:=by
 cases l with
 |nil=>rfl
 |cons c r=>
  simp only[Lib.hasPrefix];rw[List.isPrefixOf];have:c≠39:=fun e=>h r (by rw[e])
  simp[Ne.symm this]
theorem GH(l:List UInt8)(s:ByteArray)(h:s.data.toList≠l):(l==s.toList)=false:=by
 rw[Lib.toList_data,beq_eq_false_iff_ne];exact fun e=>h e.symm
theorem Dt(l:List UInt8)(s:ByteArray)(h:s.data.toList=l):(l==s.toList)=true:=by
 rw[Lib.toList_data,beq_iff_eq];exact h.symm
theorem yL(s:ByteArray)(w:World)(R:s.size<=4294967280)(u:Lib.hasPrefix s.data.toList [39]=false)(b:∀v,Lib.parseIntB 64 s.data.toList≠ .ok v)(t:Env w):
  Calls Tryz.prog 76 #[.string s] w fun e w'=>e=.returned (.tuple #[.agg #[.int .i64 0,.int .i64 0,.string ⟨#[]⟩],.int .i64 2])/\Below w.heap.size w w':=by
 have x:∀w:World,Calls Tryz.prog 77 #[.string s,.string ⟨#[39]⟩] w fun e w'=>e=.returned (.bool false)/\w=w':=fun w=>by
  have:=fv s ⟨#[39]⟩ w;rwa[show Lib.hasPrefix s.data.toList [39]=false from u]at this
 have O:=J x;clear x u;have k:=J b;clear b;have L:=J t;clear t;obtain⟨W,r,d,n⟩:=yo w 77 77 #[.int .i64 0,.int .i64 0,.string ⟨#[]⟩] #[.int .i64 0,.int .i64 0,.string ⟨#[]⟩];have E:=J r;have q:=J n;have i:=J n.2.2;have f:=J d;clear r n d
 go_enter Tryz.func76,Tryz.ntmps76
 go_wp2_with fail
 rw[E.out];refine(O.out _).mono ?_;rintro e F ⟨rfl,rfl⟩
 go_wp2_with fail
 refine(xd s _ (by omega) k.out (L.out.below f.out (Oh _))).mono ?_;rintro e F ⟨v,N,rfl,a⟩;have o:=J (f.out.trans (a.mono (by rw[i.out];omega)));have l:=J (q.out.2.1.below a (by rw[i.out];omega));have c:=J (q.out.1.below a (by rw[i.out];omega));clear a;obtain⟨P,I,K,B,G,M⟩:=l.out.three;obtain⟨j,m,g,A,D,z⟩:=c.out.three
 go_wp2
 clear P I K B G M j m g A D z;obtain⟨Q,C,h,p,H,y⟩:=eZ c.out (.int .i64 0) (.int .i64 0) (.string ⟨#[]⟩);rw[C];obtain⟨j,m,g,_,_,_⟩:=h.three;exact bodyPost_ret (v:=.tuple #[.agg #[.int .i64 0,.int .i64 0,.string ⟨#[]⟩],.int .i64 2]) (by simp[results,Tryz.results76,go_sem,j,m,g]) Z ⟨Z,o.out.trans p⟩
theorem s0(s:ByteArray)(w:World)(hs:s.size<=4294967280)(n:Int)(V:Lib.hasPrefix s.data.toList [39]=false)(m:Lib.parseIntB 64 s.data.toList=.ok n)(h0: -9223372036854775808<=n)(h1:n<=9223372036854775807)(h:s.data.toList=fL 1 n ⟨#[]⟩)(E:Env w):
  Calls Tryz.prog 76 #[.string s] w fun e w'=>e=.returned (.tuple #[.agg #[.int .i64 1,.int .i64 n,.string ⟨#[]⟩],.int .i64 0])/\Below w.heap.size w w':=by
 have X:∀w:World,Calls Tryz.prog 77 #[.string s,.string ⟨#[39]⟩] w fun e w'=>e=.returned (.bool false)/\w=w':=fun w=>by
  have:=fv s ⟨#[39]⟩ w;rwa[show Lib.hasPrefix s.data.toList [39]=false from V]at this
 have HP:=J X;clear X V;have K:=J m;clear m;have f:bJ 1 n ⟨#[]⟩=true:=by simp[bJ]
 have hV:∀w:World,Calls Tryz.prog 104 #[.agg #[.int .i64 1,.int .i64 n,.string ⟨#[]⟩]] w fun e w'=>e=.returned (.bool true)/\Below w.heap.size w w':=fun w=>by
  have:=fc 1 (n) ⟨#[]⟩ w;rwa[f]at this
 have HV:=J hV;clear hV;have hF:∀w:World,Env w->Calls Tryz.prog 46 #[.agg #[.int .i64 1,.int .i64 n,.string ⟨#[]⟩]] w fun e w'=>e=.returned (.string ⟨(fL 1 (n) ⟨#[]⟩).toArray⟩)/\Below w.heap.size w w':=fun w E=>jU 1 (n) ⟨#[]⟩ w h0 h1 E
 have HF:=J hF;clear hF;have a1:(fL 1 n ⟨#[]⟩==s.toList)=true:=Dt _ s h;clear f h;have HE:=J E;clear E;obtain⟨W,T,y,M⟩:=yo w 77 77 #[.int .i64 0,.int .i64 0,.string ⟨#[]⟩] #[.int .i64 0,.int .i64 0,.string ⟨#[]⟩];have HW:=J T;have S:=J M;have j:=J M.2.2;have O:=J y;clear T M y
 go_enter Tryz.func76,Tryz.ntmps76
 go_wp2_with fail
 rw[HW.out];refine(HP.out _).mono ?_;rintro e w1 ⟨rfl,rfl⟩
 go_wp2_with fail
 refine(rn s n _ (by omega) K.out).mono ?_;rintro e w1 ⟨rfl,a⟩
 go_wp2_with fail
 refine(oA _ _).mono ?_;rintro e w2 ⟨rfl,d⟩;have N:=J ((O.out.trans (a.mono (by rw[j.out];omega))).trans (d.mono (Oq (by rw[j.out];omega) a.size)));have U:=J (IsBlk.below (IsBlk.below S.out.2.1 a (by rw[j.out];omega)) d (Oz (by rw[j.out];omega) a.size));have HR:=J (IsBlk.below (IsBlk.below S.out.1 a (by rw[j.out];omega)) d (Oz (by rw[j.out];omega) a.size));clear a d;obtain⟨D,u,x,k,p,C⟩:=U.out.three
 go_wp2_with fail
 clear D u x k p C;obtain⟨w3,Y,z,A,R,o⟩:=eZ U.out (.int .i64 1) (.int .i64 n) (.string ⟨#[]⟩);rw[Y];have t:=J (show IsBlk w3 w.heap.size 77 #[.int .i64 0,.int .i64 0,.string ⟨#[]⟩]from(o w.heap.size (by omega)).trans HR.out);have q:=J (N.out.trans (A.mono (by omega)));have l:=J z;clear Y z A R o;refine(HV.out _).mono ?_;rintro e w4 ⟨rfl,c⟩;have i:=J (q.out.trans (c.mono q.out.size));have g:=J (l.out.below c l.out.lt);have B:=J (t.out.below c t.out.lt);clear c;obtain⟨D,u,x,k,p,C⟩:=g.out.three
 go_wp2_with fail
 clear D u x k p C;refine(HF.out _ (HE.out.below i.out (Oh _))).mono ?_;rintro e w5 ⟨rfl,b⟩;have F:=J (i.out.trans (b.mono i.out.size));have Q:=J (g.out.below b g.out.lt);have r:=J (B.out.below b B.out.lt);clear b;obtain⟨D,u,x,k,p,C⟩:=Q.out.three;obtain⟨I,L,G,g0,g1,g2⟩:=r.out.three
 go_wp2
 clear D u x k p C I L G g0 g1 g2;obtain⟨w6,h6,H,P,a2,a0⟩:=eZ r.out (.int .i64 1) (.int .i64 n) (.string ⟨#[]⟩);rw[h6];obtain⟨I,L,G,_,_,_⟩:=H.three;exact bodyPost_ret (v:=.tuple #[.agg #[.int .i64 1,.int .i64 n,.string ⟨#[]⟩],.int .i64 0]) (by simp[results,Tryz.results76,go_sem,I,L,G]) Z ⟨Z,F.out.trans P⟩
theorem rV(s:ByteArray)(w:World)(hs:s.size<=4294967280)(n:Int)(V:Lib.hasPrefix s.data.toList [39]=false)(m:Lib.parseIntB 64 s.data.toList=.ok n)(h0: -9223372036854775808<=n)(h1:n<=9223372036854775807)(h:s.data.toList≠fL 1 n ⟨#[]⟩)(E:Env w):
  Calls Tryz.prog 76 #[.string s] w fun e w'=>e=.returned (.tuple #[.agg #[.int .i64 0,.int .i64 0,.string ⟨#[]⟩],.int .i64 2])/\Below w.heap.size w w':=by
 have X:∀w:World,Calls Tryz.prog 77 #[.string s,.string ⟨#[39]⟩] w fun e w'=>e=.returned (.bool false)/\w=w':=fun w=>by
  have:=fv s ⟨#[39]⟩ w;rwa[show Lib.hasPrefix s.data.toList [39]=false from V]at this
 have HP:=J X;clear X V;have K:=J m;clear m;have f:bJ 1 n ⟨#[]⟩=true:=by simp[bJ]
 have hV:∀w:World,Calls Tryz.prog 104 #[.agg #[.int .i64 1,.int .i64 n,.string ⟨#[]⟩]] w fun e w'=>e=.returned (.bool true)/\Below w.heap.size w w':=fun w=>by
  have:=fc 1 (n) ⟨#[]⟩ w;rwa[f]at this
 have HV:=J hV;clear hV;have hF:∀w:World,Env w->Calls Tryz.prog 46 #[.agg #[.int .i64 1,.int .i64 n,.string ⟨#[]⟩]] w fun e w'=>e=.returned (.string ⟨(fL 1 (n) ⟨#[]⟩).toArray⟩)/\Below w.heap.size w w':=fun w E=>jU 1 (n) ⟨#[]⟩ w h0 h1 E
 have HF:=J hF;clear hF;have a1:(fL 1 n ⟨#[]⟩==s.toList)=false:=GH _ s h;clear f h;have HE:=J E;clear E;obtain⟨W,T,y,M⟩:=yo w 77 77 #[.int .i64 0,.int .i64 0,.string ⟨#[]⟩] #[.int .i64 0,.int .i64 0,.string ⟨#[]⟩];have HW:=J T;have S:=J M;have j:=J M.2.2;have O:=J y;clear T M y
 go_enter Tryz.func76,Tryz.ntmps76
 go_wp2_with fail
 rw[HW.out];refine(HP.out _).mono ?_;rintro e w1 ⟨rfl,rfl⟩
 go_wp2_with fail
 refine(rn s n _ (by omega) K.out).mono ?_;rintro e w1 ⟨rfl,a⟩
 go_wp2_with fail
 refine(oA _ _).mono ?_;rintro e w2 ⟨rfl,d⟩;have N:=J ((O.out.trans (a.mono (by rw[j.out];omega))).trans (d.mono (Oq (by rw[j.out];omega) a.size)));have U:=J (IsBlk.below (IsBlk.below S.out.2.1 a (by rw[j.out];omega)) d (Oz (by rw[j.out];omega) a.size));have HR:=J (IsBlk.below (IsBlk.below S.out.1 a (by rw[j.out];omega)) d (Oz (by rw[j.out];omega) a.size));clear a d;obtain⟨D,u,x,k,p,C⟩:=U.out.three
 go_wp2_with fail
 clear D u x k p C;obtain⟨w3,Y,z,A,R,o⟩:=eZ U.out (.int .i64 1) (.int .i64 n) (.string ⟨#[]⟩);rw[Y];have t:=J (show IsBlk w3 w.heap.size 77 #[.int .i64 0,.int .i64 0,.string ⟨#[]⟩]from(o w.heap.size (by omega)).trans HR.out);have q:=J (N.out.trans (A.mono (by omega)));have l:=J z;clear Y z A R o;refine(HV.out _).mono ?_;rintro e w4 ⟨rfl,c⟩;have i:=J (q.out.trans (c.mono q.out.size));have g:=J (l.out.below c l.out.lt);have B:=J (t.out.below c t.out.lt);clear c;obtain⟨D,u,x,k,p,C⟩:=g.out.three
 go_wp2_with fail
 clear D u x k p C;refine(HF.out _ (HE.out.below i.out (Oh _))).mono ?_;rintro e w5 ⟨rfl,b⟩;have F:=J (i.out.trans (b.mono i.out.size));have Q:=J (g.out.below b g.out.lt);have r:=J (B.out.below b B.out.lt);clear b;obtain⟨D,u,x,k,p,C⟩:=Q.out.three;obtain⟨I,L,G,g0,g1,g2⟩:=r.out.three
 go_wp2
 clear D u x k p C I L G g0 g1 g2;obtain⟨w6,h6,H,P,a2,a0⟩:=eZ r.out (.int .i64 0) (.int .i64 0) (.string ⟨#[]⟩);rw[h6];obtain⟨I,L,G,_,_,_⟩:=H.three;exact bodyPost_ret (v:=.tuple #[.agg #[.int .i64 0,.int .i64 0,.string ⟨#[]⟩],.int .i64 2]) (by simp[results,Tryz.results76,go_sem,I,L,G]) Z ⟨Z,F.out.trans P⟩
theorem yM(s:ByteArray)(w:World)(O:s.size<=4294967280)(p:Lib.hasPrefix s.data.toList [39]=true)(L:s.size<2)(o:Env w):
  Calls Tryz.prog 76 #[.string s] w fun e w'=>e=.returned (.tuple #[.agg #[.int .i64 0,.int .i64 0,.string ⟨#[]⟩],.int .i64 2])/\Below w.heap.size w w':=by
 have q:∀w:World,Calls Tryz.prog 77 #[.string s,.string ⟨#[39]⟩] w fun e w'=>e=.returned (.bool true)/\w=w':=fun w=>by
  have:=fv s ⟨#[39]⟩ w;rwa[show Lib.hasPrefix s.data.toList [39]=true from p]at this
 have G:=J q;clear q p;have N:=J o;clear o;obtain⟨W,n,b,i⟩:=yo w 77 77 #[.int .i64 0,.int .i64 0,.string ⟨#[]⟩] #[.int .i64 0,.int .i64 0,.string ⟨#[]⟩];have A:=J n;have m:=J i;have K:=J i.2.2;have k:=J b;clear n i b
 go_enter Tryz.func76,Tryz.ntmps76
 go_wp2_with fail
 rw[A.out];refine(G.out _).mono ?_;rintro e M ⟨rfl,rfl⟩;have g:=J m.out.2.1;have a:=J m.out.1;have j:=J k.out;obtain⟨H,D,E,x,B,F⟩:=g.out.three;obtain⟨f,h,c,u,z,t⟩:=a.out.three
 go_wp2
 clear H D E x B F f h c u z t;obtain⟨I,y,d,l,C,r⟩:=eZ a.out (.int .i64 0) (.int .i64 0) (.string ⟨#[]⟩);rw[y];obtain⟨f,h,c,_,_,_⟩:=d.three;exact bodyPost_ret (v:=.tuple #[.agg #[.int .i64 0,.int .i64 0,.string ⟨#[]⟩],.int .i64 2]) (by simp[results,Tryz.results76,go_sem,f,h,c]) Z ⟨Z,j.out.trans l⟩
theorem s6(s:ByteArray)(w:World)(hs:s.size<=4294967280)(b:ByteArray)(l:b=⟨(sX [39,39] [39] (s.extract 1 (s.size-1)).data.toList).toArray⟩)(X:Lib.hasPrefix s.data.toList [39]=true)(h2:2<=s.size)(g:bJ 2 0 b=true)(h:s.data.toList=fL 2 0 b)(F:Env w):
  Calls Tryz.prog 76 #[.string s] w fun e w'=>e=.returned (.tuple #[.agg #[.int .i64 2,.int .i64 0,.string b],.int .i64 0])/\Below w.heap.size w w':=by
 have Y:∀w:World,Calls Tryz.prog 77 #[.string s,.string ⟨#[39]⟩] w fun e w'=>e=.returned (.bool true)/\w=w':=fun w=>by
  have:=fv s ⟨#[39]⟩ w;rwa[show Lib.hasPrefix s.data.toList [39]=true from X]at this
 have HP:=J Y;clear Y X;have K:=J l;clear l;have hV:∀w:World,Calls Tryz.prog 104 #[.agg #[.int .i64 2,.int .i64 0,.string b]] w fun e w'=>e=.returned (.bool true)/\Below w.heap.size w w':=fun w=>by
  have:=fc 2 (0) b w;rwa[g]at this
 have HV:=J hV;clear hV;have hF:∀w:World,Env w->Calls Tryz.prog 46 #[.agg #[.int .i64 2,.int .i64 0,.string b]] w fun e w'=>e=.returned (.string ⟨(fL 2 (0) b).toArray⟩)/\Below w.heap.size w w':=fun w F=>jU 2 (0) b w (by omega) (by omega) F
 have HF:=J hF;clear hF;have a1:(fL 2 0 b==s.toList)=true:=Dt _ s h;clear g h;have V:=J F;clear F;obtain⟨W,T,y,N⟩:=yo w 77 77 #[.int .i64 0,.int .i64 0,.string ⟨#[]⟩] #[.int .i64 0,.int .i64 0,.string ⟨#[]⟩];have HW:=J T;have S:=J N;have k:=J N.2.2;have D:=J y;clear T N y
 go_enter Tryz.func76,Tryz.ntmps76
 go_wp2_with fail
 rw[HW.out];refine(HP.out _).mono ?_;rintro e w1 ⟨rfl,rfl⟩
 go_wp2_with fail
 refine(io _ ⟨#[39,39]⟩ ⟨#[39]⟩ _ ?h1 (by decide) (by decide) (V.out.below D.out (Oh _))).mono ?_
 case h1=>simp;omega
 rintro e w1 ⟨rfl,a⟩;rw[show Lib.replaceAll (s.extract 1 (s.size-1)).data.toList [39,39] [39]=sX [39,39] [39] (s.extract 1 (s.size-1)).data.toList from it _ (by decide),<-K.out]
 go_wp2_with fail
 refine(i6 _ _).mono ?_;rintro e w2 ⟨rfl,f⟩;have O:=J ((D.out.trans (a.mono (by rw[k.out];omega))).trans (f.mono (Oq (by rw[k.out];omega) a.size)));have U:=J (IsBlk.below (IsBlk.below S.out.2.1 a (by rw[k.out];omega)) f (Oz (by rw[k.out];omega) a.size));have HR:=J (IsBlk.below (IsBlk.below S.out.1 a (by rw[k.out];omega)) f (Oz (by rw[k.out];omega) a.size));clear a f;obtain⟨E,u,x,m,p,C⟩:=U.out.three
 go_wp2_with fail
 clear E u x m p C;obtain⟨w3,h3,z,A,R,o⟩:=eZ U.out (.int .i64 2) (.int .i64 0) (.string b);rw[h3];have t:=J (show IsBlk w3 w.heap.size 77 #[.int .i64 0,.int .i64 0,.string ⟨#[]⟩]from(o w.heap.size (by omega)).trans HR.out);have q:=J (O.out.trans (A.mono (by omega)));have n:=J z;clear h3 z A R o;refine(HV.out _).mono ?_;rintro e w4 ⟨rfl,d⟩;have j:=J (q.out.trans (d.mono q.out.size));have i:=J (n.out.below d n.out.lt);have B:=J (t.out.below d t.out.lt);clear d;obtain⟨E,u,x,m,p,C⟩:=i.out.three
 go_wp2_with fail
 clear E u x m p C;refine(HF.out _ (V.out.below j.out (Oh _))).mono ?_;rintro e w5 ⟨rfl,c⟩;have G:=J (j.out.trans (c.mono j.out.size));have Q:=J (i.out.below c i.out.lt);have r:=J (B.out.below c B.out.lt);clear c;obtain⟨E,u,x,m,p,C⟩:=Q.out.three;obtain⟨L,M,H,g0,g1,g2⟩:=r.out.three
 go_wp2
 clear E u x m p C L M H g0 g1 g2;obtain⟨w6,h6,I,P,a2,a0⟩:=eZ r.out (.int .i64 2) (.int .i64 0) (.string b);rw[h6];obtain⟨L,M,H,_,_,_⟩:=I.three;exact bodyPost_ret (v:=.tuple #[.agg #[.int .i64 2,.int .i64 0,.string b],.int .i64 0]) (by simp[results,Tryz.results76,go_sem,L,M,H]) Z ⟨Z,G.out.trans P⟩
theorem rW(s:ByteArray)(w:World)(hs:s.size<=4294967280)(b:ByteArray)(l:b=⟨(sX [39,39] [39] (s.extract 1 (s.size-1)).data.toList).toArray⟩)(X:Lib.hasPrefix s.data.toList [39]=true)(h2:2<=s.size)(g:bJ 2 0 b=true)(h:s.data.toList≠fL 2 0 b)(F:Env w):
  Calls Tryz.prog 76 #[.string s] w fun e w'=>e=.returned (.tuple #[.agg #[.int .i64 0,.int .i64 0,.string ⟨#[]⟩],.int .i64 2])/\Below w.heap.size w w':=by
 have Y:∀w:World,Calls Tryz.prog 77 #[.string s,.string ⟨#[39]⟩] w fun e w'=>e=.returned (.bool true)/\w=w':=fun w=>by
  have:=fv s ⟨#[39]⟩ w;rwa[show Lib.hasPrefix s.data.toList [39]=true from X]at this
 have HP:=J Y;clear Y X;have K:=J l;clear l;have hV:∀w:World,Calls Tryz.prog 104 #[.agg #[.int .i64 2,.int .i64 0,.string b]] w fun e w'=>e=.returned (.bool true)/\Below w.heap.size w w':=fun w=>by
  have:=fc 2 (0) b w;rwa[g]at this
 have HV:=J hV;clear hV;have hF:∀w:World,Env w->Calls Tryz.prog 46 #[.agg #[.int .i64 2,.int .i64 0,.string b]] w fun e w'=>e=.returned (.string ⟨(fL 2 (0) b).toArray⟩)/\Below w.heap.size w w':=fun w F=>jU 2 (0) b w (by omega) (by omega) F
 have HF:=J hF;clear hF;have a1:(fL 2 0 b==s.toList)=false:=GH _ s h;clear g h;have V:=J F;clear F;obtain⟨W,T,y,N⟩:=yo w 77 77 #[.int .i64 0,.int .i64 0,.string ⟨#[]⟩] #[.int .i64 0,.int .i64 0,.string ⟨#[]⟩];have HW:=J T;have S:=J N;have k:=J N.2.2;have D:=J y;clear T N y
 go_enter Tryz.func76,Tryz.ntmps76
 go_wp2_with fail
 rw[HW.out];refine(HP.out _).mono ?_;rintro e w1 ⟨rfl,rfl⟩
 go_wp2_with fail
 refine(io _ ⟨#[39,39]⟩ ⟨#[39]⟩ _ ?h1 (by decide) (by decide) (V.out.below D.out (Oh _))).mono ?_
 case h1=>simp;omega
 rintro e w1 ⟨rfl,a⟩;rw[show Lib.replaceAll (s.extract 1 (s.size-1)).data.toList [39,39] [39]=sX [39,39] [39] (s.extract 1 (s.size-1)).data.toList from it _ (by decide),<-K.out]
 go_wp2_with fail
 refine(i6 _ _).mono ?_;rintro e w2 ⟨rfl,f⟩;have O:=J ((D.out.trans (a.mono (by rw[k.out];omega))).trans (f.mono (Oq (by rw[k.out];omega) a.size)));have U:=J (IsBlk.below (IsBlk.below S.out.2.1 a (by rw[k.out];omega)) f (Oz (by rw[k.out];omega) a.size));have HR:=J (IsBlk.below (IsBlk.below S.out.1 a (by rw[k.out];omega)) f (Oz (by rw[k.out];omega) a.size));clear a f;obtain⟨E,u,x,m,p,C⟩:=U.out.three
 go_wp2_with fail
 clear E u x m p C;obtain⟨w3,h3,z,A,R,o⟩:=eZ U.out (.int .i64 2) (.int .i64 0) (.string b);rw[h3];have t:=J (show IsBlk w3 w.heap.size 77 #[.int .i64 0,.int .i64 0,.string ⟨#[]⟩]from(o w.heap.size (by omega)).trans HR.out);have q:=J (O.out.trans (A.mono (by omega)));have n:=J z;clear h3 z A R o;refine(HV.out _).mono ?_;rintro e w4 ⟨rfl,d⟩;have j:=J (q.out.trans (d.mono q.out.size));have i:=J (n.out.below d n.out.lt);have B:=J (t.out.below d t.out.lt);clear d;obtain⟨E,u,x,m,p,C⟩:=i.out.three
 go_wp2_with fail
 clear E u x m p C;refine(HF.out _ (V.out.below j.out (Oh _))).mono ?_;rintro e w5 ⟨rfl,c⟩;have G:=J (j.out.trans (c.mono j.out.size));have Q:=J (i.out.below c i.out.lt);have r:=J (B.out.below c B.out.lt);clear c;obtain⟨E,u,x,m,p,C⟩:=Q.out.three;obtain⟨L,M,H,g0,g1,g2⟩:=r.out.three
 go_wp2
 clear E u x m p C L M H g0 g1 g2;obtain⟨w6,h6,I,P,a2,a0⟩:=eZ r.out (.int .i64 0) (.int .i64 0) (.string ⟨#[]⟩);rw[h6];obtain⟨L,M,H,_,_,_⟩:=I.three;exact bodyPost_ret (v:=.tuple #[.agg #[.int .i64 0,.int .i64 0,.string ⟨#[]⟩],.int .i64 2]) (by simp[results,Tryz.results76,go_sem,L,M,H]) Z ⟨Z,G.out.trans P⟩
theorem uZ(s:ByteArray)(w:World)(hs:s.size<=4294967280)(l:ByteArray)(g:l=⟨(sX [39,39] [39] (s.extract 1 (s.size-1)).data.toList).toArray⟩)(Q:Lib.hasPrefix s.data.toList [39]=true)(h2:2<=s.size)(d:bJ 2 0 l=false)(P:Env w):
  Calls Tryz.prog 76 #[.string s] w fun e w'=>e=.returned (.tuple #[.agg #[.int .i64 0,.int .i64 0,.string ⟨#[]⟩],.int .i64 2])/\Below w.heap.size w w':=by
 have R:∀w:World,Calls Tryz.prog 77 #[.string s,.string ⟨#[39]⟩] w fun e w'=>e=.returned (.bool true)/\w=w':=fun w=>by
  have:=fv s ⟨#[39]⟩ w;rwa[show Lib.hasPrefix s.data.toList [39]=true from Q]at this
 have HP:=J R;clear R Q;have x:=J g;clear g;have T:∀w:World,Calls Tryz.prog 104 #[.agg #[.int .i64 2,.int .i64 0,.string l]] w fun e w'=>e=.returned (.bool false)/\Below w.heap.size w w':=fun w=>by
  have:=fc 2 (0) l w;rwa[d]at this
 have HV:=J T;clear T;clear d;have HE:=J P;clear P;obtain⟨W,N,m,E⟩:=yo w 77 77 #[.int .i64 0,.int .i64 0,.string ⟨#[]⟩] #[.int .i64 0,.int .i64 0,.string ⟨#[]⟩];have HW:=J N;have M:=J E;have f:=J E.2.2;have q:=J m;clear N E m
 go_enter Tryz.func76,Tryz.ntmps76
 go_wp2_with fail
 rw[HW.out];refine(HP.out _).mono ?_;rintro e w1 ⟨rfl,rfl⟩
 go_wp2_with fail
 refine(io _ ⟨#[39,39]⟩ ⟨#[39]⟩ _ ?h1 (by decide) (by decide) (HE.out.below q.out (Oh _))).mono ?_
 case h1=>simp;omega
 rintro e w1 ⟨rfl,a⟩;rw[show Lib.replaceAll (s.extract 1 (s.size-1)).data.toList [39,39] [39]=sX [39,39] [39] (s.extract 1 (s.size-1)).data.toList from it _ (by decide),<-x.out]
 go_wp2_with fail
 refine(i6 _ _).mono ?_;rintro e w2 ⟨rfl,c⟩;have F:=J ((q.out.trans (a.mono (by rw[f.out];omega))).trans (c.mono (Oq (by rw[f.out];omega) a.size)));have O:=J (IsBlk.below (IsBlk.below M.out.2.1 a (by rw[f.out];omega)) c (Oz (by rw[f.out];omega) a.size));have U:=J (IsBlk.below (IsBlk.below M.out.1 a (by rw[f.out];omega)) c (Oz (by rw[f.out];omega) a.size));clear a c;obtain⟨K,C,D,t,z,G⟩:=O.out.three
 go_wp2_with fail
 clear K C D t z G;obtain⟨w3,S,n,o,I,i⟩:=eZ O.out (.int .i64 2) (.int .i64 0) (.string l);rw[S];have k:=J (show IsBlk w3 w.heap.size 77 #[.int .i64 0,.int .i64 0,.string ⟨#[]⟩]from(i w.heap.size (by omega)).trans U.out);have j:=J (F.out.trans (o.mono (by omega)));have h:=J n;clear S n o I i;refine(HV.out _).mono ?_;rintro e w4 ⟨rfl,b⟩;have L:=J (j.out.trans (b.mono j.out.size));have B:=J (h.out.below b h.out.lt);have p:=J (k.out.below b k.out.lt);clear b;obtain⟨K,C,D,t,z,G⟩:=B.out.three;obtain⟨y,A,r,Y,g1,X⟩:=p.out.three
 go_wp2
 clear K C D t z G y A r Y g1 X;obtain⟨w6,h6,u,H,a0,V⟩:=eZ p.out (.int .i64 0) (.int .i64 0) (.string ⟨#[]⟩);rw[h6];obtain⟨y,A,r,_,_,_⟩:=u.three;exact bodyPost_ret (v:=.tuple #[.agg #[.int .i64 0,.int .i64 0,.string ⟨#[]⟩],.int .i64 2]) (by simp[results,Tryz.results76,go_sem,y,A,r]) Z ⟨Z,L.out.trans H⟩
theorem yN(l:List UInt8)(n:Int)(h:Lib.parseIntB 64 l=.ok n): -9223372036854775808<=n/\n<=9223372036854775807:=by
 have a:(2^(64-1):Nat)=9223372036854775808:=by decide
 cases l with
 |nil=>simp[Lib.parseIntB]at h
 |cons c r=>
  simp only[Lib.parseIntB,a]at h;split at h
  ·cases h
  ·cases h
  split at h
  ·cases h
  split at h
  ·cases h
  injection h with h
  subst h;split<;>omega
theorem iu{n:Int}{a:ByteArray}(h:bJ 1 n a=true):a=⟨#[]⟩:=by
 apply RX;simp[bJ]at h;simpa using h
theorem gN{t n:Int}{a:ByteArray}(b:t≠1)(h:bJ t n a=true):t=2/\n=0/\a.size<=64/\a.data.toList.all pj=true:=by
 simp[bJ,b]at h;exact⟨h.1.1.1,h.1.1.2,h.1.2,by simpa using h.2⟩
theorem yO(s a:ByteArray)(h:s.data.toList=[39]++lU a.data.toList++[39]):(s.extract 1 (s.size-1)).data.toList=lU a.data.toList:=by
 have b:s.size=(lU a.data.toList).length+2:=by
  have:=congrArg List.length h;simp at this;omega
 rw[Lib.extract_data,h,b];simp
theorem GJ(t n:Int)(d s:ByteArray)(w:World)(j:s.size<=4294967280)(a:bJ t n d=true)(f:s.data.toList=fL t n d)(h: -9223372036854775808<=n)(g:n<=9223372036854775807)(k:Env w):
  Calls Tryz.prog 76 #[.string s] w fun e w'=>e=.returned (.tuple #[.agg #[.int .i64 t,.int .i64 n,.string d],.int .i64 0])/\Below w.heap.size w w':=by
 by_cases i:t=1
 ·subst i;obtain rfl:=iu a;have b:s.data.toList=Lib.itoa n:=by rw[f];simp[fL,a]
  refine s0 s w j n ?_ (by rw[b];exact oB n h g) h g f k;obtain⟨c,r,e,o⟩:=k6 n;exact BB _ fun q l=>o (by rw[b,e]at l;injection l)
 obtain⟨rfl,rfl,m,_⟩:=gN i a;have b:s.data.toList=[39]++lU d.data.toList++[39]:=by rw[f];simp[fL,a]
 have p:s.size=(lU d.data.toList).length+2:=by
  have:=congrArg List.length b;simp at this;omega
 refine s6 s w j d ?_ (by rw[b];exact xB _) (by omega) a f k;rw[yO s d b,kZ,lT]
theorem Ex(s:ByteArray)(w:World)(f:s.size<=4294967280)(h:∀(t n:Int) (a:ByteArray),bJ t n a=true-> -9223372036854775808<=n->n<=9223372036854775807->s.data.toList≠fL t n a)(g:Env w):
  Calls Tryz.prog 76 #[.string s] w fun e w'=>e=.returned (.tuple #[.agg #[.int .i64 0,.int .i64 0,.string ⟨#[]⟩],.int .i64 2])/\Below w.heap.size w w':=by
 cases c:Lib.hasPrefix s.data.toList [39]
 ·by_cases i:∃n,Lib.parseIntB 64 s.data.toList=.ok n
  ·obtain⟨n,i⟩:=i;obtain⟨l,k⟩:=yN _ _ i;exact rV s w f n c i l k (h 1 n ⟨#[]⟩ (by simp[bJ]) l k) g
  exact yL s w f c (fun v d=>i ⟨v,d⟩) g
 rcases OS s.size 2 with j|j
 ·exact yM s w f c j g
 obtain⟨a,b⟩:∃a:ByteArray,a=⟨(sX [39,39] [39] (s.extract 1 (s.size-1)).data.toList).toArray⟩:=⟨_,rfl⟩;cases d:bJ 2 0 a
 ·exact uZ s w f a b c j d g
 exact rW s w f a b c j d (h 2 0 a d (by omega) (by omega)) g
theorem JP{t n i f:Int}{j d:ByteArray}(g:bJ t n j=true)(a:bJ i f d=true)(q: -9223372036854775808<=n)(p:n<=9223372036854775807)(k: -9223372036854775808<=f)(m:f<=9223372036854775807)
  (h:fL t n j=fL i f d):t=i/\n=f/\j=d:=by
 by_cases o:t=1
 ·subst o;obtain rfl:=iu g;by_cases b:i=1
  ·subst b;obtain rfl:=iu a;exact⟨Z,GE q p k m (by simpa[fL,g,a]using h),Z⟩
  obtain⟨rfl,rfl,_,_⟩:=gN b a;obtain⟨c,r,e,l⟩:=k6 n;simp[fL,g,a,e]at h;exact absurd h.1 l
 obtain⟨rfl,rfl,_,_⟩:=gN o g;by_cases b:i=1
 ·subst b;obtain rfl:=iu a;obtain⟨c,r,e,l⟩:=k6 f;simp[fL,g,a,e]at h;exact absurd h.1.symm l
 obtain⟨rfl,rfl,_,_⟩:=gN b a;refine⟨Z,Z,?_⟩;have:lU j.data.toList=lU d.data.toList:=by simpa[fL,g,a]using h
 have:=JN this;rw[<-lT j,<-lT d,this]
end Go.Proofs.YtfoejfohbkmmeaaGreatDoor
