import Derived.Test.YtfoejfohbkmmeaaGreatDoorB40
import Derived.Test.YtfoejfohbkmmeaaGreatDoorB02
import Derived.Test.YtfoejfohbkmmeaaGreatDoorB00
set_option maxRecDepth 100000
set_option maxHeartbeats 4000000
namespace Go.Proofs.YtfoejfohbkmmeaaGreatDoor
open Go.RowKit
open Lib renaming hid→J
theorem Jf{l:List UInt8}(h:0<l.length)(a:l[0].toNat=1)(d:9<=l.length):jV l=some (⟨1,(d8 ((l.drop 1).take 8):Int)-9223372036854775808,⟨#[]⟩⟩,9):=by
 cases l with
 |nil=>simp at h
 |cons c l=>
  have b:c=1:=Qu.1 a;subst b;simp only[jV,if_true,Qx,PQ];rw[if_pos (by simp at d;omega)]
theorem AY{l:List UInt8}(h:0<l.length)(a:l[0].toNat=1)(d:¬9<=l.length):jV l=none:=by
 cases l with
 |nil=>simp at h
 |cons c l=>
  have b:c=1:=Qu.1 a;subst b;simp only[jV,if_true];rw[if_neg (by simp at d;omega)]
theorem Jg{l:List UInt8}(h:0<l.length)(a:l[0].toNat=2):jV l=if jd (l.drop 1)<(l.drop 1).length then some (⟨2,0,⟨((l.drop 1).take (jd (l.drop 1))).toArray⟩⟩,jd (l.drop 1)+2)else none:=by
 cases l with
 |nil=>simp at h
 |cons c l=>
  have b:c=2:=Qu.1 a;subst b;simp only[jV,Qx,PQ];rw[if_neg (by decide),if_pos trivial]
theorem CZ{l:List UInt8}(h:0<l.length)(b:l[0].toNat≠1)(a:l[0].toNat≠2):jV l=none:=by
 cases l with
 |nil=>simp at h
 |cons c l=>
  have d:c≠1:=fun e=>b (by subst e;rfl)
  have f:c≠2:=fun e=>a (by subst e;rfl)
  simp only[jV,if_neg d,if_neg f]
theorem wV{l:List UInt8}(h:0<l.length):l≠ []:=fun e=>by subst e;simp at h
def DecInv(w:World)(b0:List UInt8)(b l:Value)(wr:World):Prop:=
 ∃A c rem acc,b=.slice A rem.length c/\At wr w.heap.size A (bL rem)/\rem.length<=c/\c<=9223372036854775807/\OwnV wr w.heap.size l acc/\acc.length+rem.length<=b0.length/\jW b0=(jW rem).map (acc++ ·)/\Below w.heap.size w wr
theorem kH{w w':World}{g:List UInt8}{h:Value}{a:List UInt8}{b:List V}{e:Option Addr}{c k n l:Nat}{v:V}(j:jV a=some (v,k))(r:v.ok=true)(s:n=a.length-k)(f:l=c-k)(i:a.length<=c)(u:c<=9223372036854775807)
  (q:At w' w.heap.size e (bL (a.drop k))) (d:OwnV w' w.heap.size h (b++[v])) (p:b.length+a.length<=g.length) (m:jW g=(jW a).map (b++ ·)) (o:Below w.heap.size w w'):DecInv w g (.slice e n l) h w':=by
 have t:=m7 j;subst s f;refine⟨e,c-k,a.drop k,b++[v],by rw[OP],q,by rw[OP];omega,by omega,d,by rw[OP];simp;omega,?_,o⟩;rw[m,qN (wV (by omega)),j];dsimp only;rw[if_pos r];cases jW (a.drop k)<;>simp
theorem qA{c a:List UInt8}{b:List V}(e:0<a.length)(d:jW c=(jW a).map (b++ ·))(h:jV a=none\/∃v k,jV a=some (v,k)/\v.ok=false):jW c=none:=by
 rw[d,qN (wV e)];rcases h with h|⟨v,k,h,f⟩
 ·rw[h];rfl
 rw[h];dsimp only;rw[if_neg (by rw[f];decide)];rfl
def K3(b0:List UInt8)(w:World)(e:Ending)(w':World):Prop:=
 (∀l,jW b0=some l->∃v,e=.returned (.tuple #[v,.int .i64 0])/\OwnV w' w.heap.size v l)/\(jW b0=none->e=.returned (.tuple #[.slice none 0 0,.int .i64 2]))/\Below w.heap.size w w'
def lenOf:Value->Nat
 | .slice _ n _=>n
 |_=>0
theorem At.dropB{w:World}{B b off:Nat}{l:List UInt8}(h:At w B (some ⟨b,off,none⟩) (bL l))(k:Nat):At w B (some ⟨b,off+k,none⟩) (bL (l.drop k)):=by
 have:=h.subB k l.length;rwa[Oy (by simp)]at this
theorem Jh(A:Option Addr)(c:Nat)(b0:List UInt8)(w:World)(h:At w w.heap.size A (bL b0))(e1:b0.length<=c)(C:c<=9223372036854775807)(hl:b0.length<=1073741824):
  Calls Tryz.prog 118 #[.slice A b0.length c] w (K3 b0 w):=by
 have e3:=J h;clear h
 go_enter Tryz.func118,Tryz.ntmps118
 go_wp2
 go_loopw [0,4] (fun b l wr=>DecInv w b0 b l wr) (fun b _ _=>lenOf b)
 case atStart=>exact⟨A,c,b0,[],Z,e3.out,e1,C,OwnV.nil _ _,by simp,by cases jW b0<;>simp,Below.refl _ _⟩
 case round=>
  clear e3 e1 C c;obtain⟨A,c,f,X,rfl,c9,M,C,b3,a5,d4,c2⟩:=hrel;have a1:=J c9;have HO:=J b3;have HQ:=J d4;have HB:=J c2;have o:=c2.size;clear c9 b3 d4 c2;by_cases h0:0<f.length
  ·obtain⟨b,off,rfl,e9,N⟩:=a1.out.byte h0;have HC:=J N;have c0:=N 0 h0;rw[PI]at c0;clear N;obtain⟨x,hx⟩:∃x,f[0].toNat=x:=⟨_,rfl⟩;rw[hx]at c0;have HX:=J hx;clear hx;obtain⟨W,hW,b2,e0,e7⟩:=xe wr 77 #[.int .i64 0,.int .i64 0,.string ⟨#[]⟩];have HW:=J hW;have q:=J b2;have I:=J e0;have U:=b2.size;have a3:wr.heap.size<W.heap.size:=by omega
   have d0:=(b2.cell (p:=⟨b,off,none⟩) (by simp;omega)).trans c0;have e8:b<wr.heap.size:=by omega
   have a4:(wr.alloc (.cells #[.int .i64 0,.int .i64 0,.string ⟨#[]⟩] 77)).cell? ⟨b,off,none⟩=some (.int .u8 x):=by rw[HW.out];exact d0
   clear hW b2 e0 e7;by_cases h1:x=1
   ·subst h1;by_cases h9:9<=f.length
    ·have L:=J (Jf h0 HX.out h9);obtain⟨m,hm⟩:∃m,(d8 ((f.drop 1).take 8):Int)-9223372036854775808=m:=⟨_,rfl⟩;rw[hm]at L
     go_wp2_with fail
     rw[HW.out];refine(CY b off c f W h9 M C (by omega) (fun j hj=>(q.out.cell (p:=⟨b,off+j,none⟩) (by simp;omega)).trans (HC.out j hj))).mono ?_;rintro e w1 ⟨rfl,d⟩;rw[hm];have y:=J (I.out.below d I.out.lt);obtain⟨d1,d2,Y,f1,f2,f3⟩:=y.out.three;have G:=J (aF q.out d U);have K:=J ((HO.out.below q.out).below d);have c1:wr.heap.size<w1.heap.size:=Oz a3 d.size;obtain⟨w6,h6,u,B,Q,r⟩:=eZ y.out (.int .i64 1) (.int .i64 m) (.string ⟨#[]⟩);have H6:=J h6;have E:=J u;have F:=J B;have S:=J (fI K.out (r6 HO.out (Oh _)) r);have c3:w1.heap.size<=w6.heap.size:=by omega
     clear d h6 u B Q r d0 c0 a4
     go_wp2_with fail
     clear d1 d2 Y f1 f2 f3;rw[H6.out];refine(s9 (t:=1) (n:=m) (s:=⟨#[]⟩) (b:=true) Z _).mono ?_;rintro e w7 ⟨rfl,g⟩;have a9:=J (E.out.below g E.out.lt);have T:=J (OwnV.below S.out g);have V:w.heap.size<=w7.heap.size:=by have:=g.size;omega
     have v:=J ((G.out.mono o).trans ((F.out.trans (g.mono (by omega))).mono o));have P:=J (HB.out.trans v.out);clear g;obtain⟨d1,d2,Y,f1,f2,f3⟩:=a9.out.three;have a2:X.length<=1073741824:=by omega
     by_cases c5:c=9
     ·subst c5;have a0:f.length=9:=by have:=(m7 L.out).2;omega
      have b5:=J a0;clear a0
      go_wp2_with (at_builtin;refine r7 w.heap.size u4 X ⟨1,m,⟨#[]⟩⟩ (.tmp 34) (.tmp 36) rfl rfl rfl rfl T.out a2 V ?_;intro v8 w8 a i;have O:=J a;have D:=J i;clear d1 d2 Y f1 f2 f3 a i)
      go_roundw
      case rel=>
       refine kH L.out (by rfl) ?_ ?_ M C ?_ O.out a5 HQ.out (P.out.trans D.out.below)
       ·first|rfl|omega
       ·first|rfl|omega
       rw[Ov (Qb b5.out)];exact At.nil _ _ _
      case measure=>simp[lenOf];omega
     go_wp2_with (at_builtin;refine r7 w.heap.size u4 X ⟨1,m,⟨#[]⟩⟩ (.tmp 34) (.tmp 36) rfl rfl rfl rfl T.out a2 V ?_;intro v8 w8 a i;have O:=J a;have D:=J i;clear d1 d2 Y f1 f2 f3 a i)
     go_roundw
     case rel=>
      refine kH L.out (by rfl) ?_ ?_ M C ?_ O.out a5 HQ.out (P.out.trans D.out.below)
      ·first|rfl|omega
      ·first|rfl|omega
      exact(a1.out.below (v.out.trans D.out.below)).dropB 9
     case measure=>simp[lenOf];omega
    have L:=J (AY h0 HX.out h9)
    go_wp2_with fail
    rw[HW.out];refine(FP _ c f W (by omega)).mono ?_;rintro e w1 ⟨rfl,d⟩;have y:=J (I.out.below d I.out.lt);obtain⟨d1,d2,Y,f1,f2,f3⟩:=y.out.three;have G:=J (aF q.out d U);have K:=J ((HO.out.below q.out).below d);have c1:wr.heap.size<w1.heap.size:=Oz a3 d.size;obtain⟨w6,h6,u,B,Q,r⟩:=eZ y.out (.int .i64 0) (.int .i64 0) (.string ⟨#[]⟩);have H6:=J h6;have E:=J u;have F:=J B;have S:=J (fI K.out (r6 HO.out (Oh _)) r);have c3:w1.heap.size<=w6.heap.size:=by omega
    clear d h6 u B Q r d0 c0 a4
    go_wp2
    rw[H6.out]
    go_ret2
    have hF:=qA h0 HQ.out (.inl L.out);exact⟨fun l k=>by rw[hF]at k;(cases k),fun _=>rfl,(HB.out.trans (G.out.mono o)).trans (F.out.mono o)⟩
   by_cases h2:x=2
   ·subst h2;clear h1;have H:=J (Jg h0 HX.out);have e4:=xF (f.drop 1);have e2:(f.drop 1).length+1=f.length:=by simp;omega
    by_cases hz:jd (f.drop 1)<(f.drop 1).length
    ·rw[if_pos hz]at H;obtain⟨z,c4⟩:∃z,jd (f.drop 1)=z:=⟨_,rfl⟩;rw[c4]at H hz;obtain⟨st,b4⟩:∃st,(⟨((f.drop 1).take z).toArray⟩:ByteArray)=st:=⟨_,rfl⟩;rw[b4]at H;have L:=H;have f0:z+2<=f.length:=by omega
     have e5:=J c4;have e6:=J b4;have HZ:=J hz;clear e4 e2 c4 b4 hz H
     go_wp2_with fail
     rw[HW.out];refine(uQ b off c f W h0 M C (((a1.out.more o).below q.out).more U)).mono ?_;rintro e w1 ⟨he,d⟩;rw[e5.out,if_pos HZ.out,e6.out]at he;subst he;have y:=J (I.out.below d I.out.lt);obtain⟨d1,d2,Y,f1,f2,f3⟩:=y.out.three;have G:=J (aF q.out d U);have K:=J ((HO.out.below q.out).below d);have c1:wr.heap.size<w1.heap.size:=Oz a3 d.size;obtain⟨w6,h6,u,B,Q,r⟩:=eZ y.out (.int .i64 2) (.int .i64 0) (.string st);have H6:=J h6;have E:=J u;have F:=J B;have S:=J (fI K.out (r6 HO.out (Oh _)) r);have c3:w1.heap.size<=w6.heap.size:=by omega
     clear d h6 u B Q r d0 c0 a4;cases b1:bJ 2 0 st
     ·have R:=J b1;clear b1
      go_wp2_with fail
      clear d1 d2 Y f1 f2 f3;rw[H6.out];refine(s9 R.out _).mono ?_;rintro e w7 ⟨rfl,g⟩;have a9:=J (E.out.below g E.out.lt);have T:=J (OwnV.below S.out g);have V:w.heap.size<=w7.heap.size:=by have:=g.size;omega
      have v:=J ((G.out.mono o).trans ((F.out.trans (g.mono (by omega))).mono o));have P:=J (HB.out.trans v.out);clear g
      go_wp2
      go_ret2
      have hF:=qA h0 HQ.out (.inr ⟨_,_,L.out,R.out⟩);exact⟨fun l k=>by rw[hF]at k;(cases k),fun _=>rfl,P.out⟩
     have R:=J b1;clear b1
     go_wp2_with fail
     clear d1 d2 Y f1 f2 f3;rw[H6.out];refine(s9 R.out _).mono ?_;rintro e w7 ⟨rfl,g⟩;have a9:=J (E.out.below g E.out.lt);have T:=J (OwnV.below S.out g);have V:w.heap.size<=w7.heap.size:=by have:=g.size;omega
     have v:=J ((G.out.mono o).trans ((F.out.trans (g.mono (by omega))).mono o));have P:=J (HB.out.trans v.out);clear g;obtain⟨d1,d2,Y,f1,f2,f3⟩:=a9.out.three;have a2:X.length<=1073741824:=by omega
     by_cases c5:c=z+2
     ·subst c5;have a0:f.length=z+2:=by have:=(m7 L.out).2;omega
      have b5:=J a0;clear a0
      go_wp2_with (at_builtin;refine r7 w.heap.size u4 X ⟨2,0,st⟩ (.tmp 34) (.tmp 36) rfl rfl rfl rfl T.out a2 V ?_;intro v8 w8 a i;have O:=J a;have D:=J i;clear d1 d2 Y f1 f2 f3 a i)
      go_roundw
      case rel=>
       refine kH L.out R.out ?_ ?_ M C ?_ O.out a5 HQ.out (P.out.trans D.out.below)
       ·first|rfl|omega
       ·first|rfl|omega
       rw[Ov (Qb b5.out)];exact At.nil _ _ _
      case measure=>simp[lenOf];omega
     go_wp2_with (at_builtin;refine r7 w.heap.size u4 X ⟨2,0,st⟩ (.tmp 34) (.tmp 36) rfl rfl rfl rfl T.out a2 V ?_;intro v8 w8 a i;have O:=J a;have D:=J i;clear d1 d2 Y f1 f2 f3 a i)
     go_roundw
     case rel=>
      refine kH L.out R.out ?_ ?_ M C ?_ O.out a5 HQ.out (P.out.trans D.out.below)
      ·first|rfl|omega
      ·first|rfl|omega
      exact(a1.out.below (v.out.trans D.out.below)).dropB (z+2)
     case measure=>simp[lenOf];omega
    rw[if_neg hz]at H;have L:=H;have HZ:=J hz;clear e4 e2 hz H
    go_wp2_with fail
    rw[HW.out];refine(uQ b off c f W h0 M C (((a1.out.more o).below q.out).more U)).mono ?_;rintro e w1 ⟨he,d⟩;rw[if_neg HZ.out]at he;subst he;have y:=J (I.out.below d I.out.lt);obtain⟨d1,d2,Y,f1,f2,f3⟩:=y.out.three;have G:=J (aF q.out d U);have K:=J ((HO.out.below q.out).below d);have c1:wr.heap.size<w1.heap.size:=Oz a3 d.size;obtain⟨w6,h6,u,B,Q,r⟩:=eZ y.out (.int .i64 0) (.int .i64 0) (.string ⟨#[]⟩);have H6:=J h6;have E:=J u;have F:=J B;have S:=J (fI K.out (r6 HO.out (Oh _)) r);have c3:w1.heap.size<=w6.heap.size:=by omega
    clear d h6 u B Q r d0 c0 a4
    go_wp2
    rw[H6.out]
    go_ret2
    have hF:=qA h0 HQ.out (.inl L.out);exact⟨fun l k=>by rw[hF]at k;(cases k),fun _=>rfl,(HB.out.trans (G.out.mono o)).trans (F.out.mono o)⟩
   have L:=J (CZ h0 (by rw[HX.out];exact h1) (by rw[HX.out];exact h2));have g1:((x:Int)==1)=false:=by simpa using(show(x:Int)≠1 by omega)
   have g2:((x:Int)==2)=false:=by simpa using(show(x:Int)≠2 by omega)
   clear h1 h2
   go_wp2
   rw[HW.out]
   go_ret2
   have hF:=qA h0 HQ.out (.inl L.out);exact⟨fun l k=>by rw[hF]at k;(cases k),fun _=>rfl,HB.out.trans (q.out.mono o)⟩
  have HR:Hid (f=[]):=OB (by omega)
  go_wp2
  go_ret2
  refine⟨fun l k=>⟨_,Z,?_⟩,fun hn=>?_,HB.out⟩
  ·have:=HQ.out;rw[HR.out,te,k]at this;simp at this;rw[this];exact HO.out
  have:=HQ.out;rw[HR.out,te,hn]at this;simp at this
def ym(s:Rdr):Col×Rdr:=(⟨⟨(cz 24 s).1.toArray⟩,(((c8 2 (cz 24 s).2).1:Nat):Int),decide ((c8 1 (c8 2 (cz 24 s).2).2).1=1)⟩,(c8 1 (c8 2 (cz 24 s).2).2).2)
def kI:Nat->List Col->Rdr->List Col×Rdr
 |0,acc,s=>(acc,s)
 |k+1,acc,s=>kI k (acc++[(ym s).1]) (ym s).2
structure Ot where
 vals:List V
 o:Option Rat
def Ot.tree(t:Ot):Tree:=.agg [.sl (t.vals.map V.tree),.sc (.bool (oP t.o)),aG (oQ t.o),aG (oR t.o)]
def Ot.tp(t:Ot):Tp:=⟨t.vals,t.o.getD 0⟩
def gQ(m:Nat):Nat->List Ot->Rdr->Option (List Ot×Rdr)
 |0,acc,s=>some (acc,s)
 |k+1,acc,s=>match jW (cz m s).1 with
  |none=>none
  |some l=>gQ m k (acc++[⟨l,(fX (cz m s).2).1⟩]) (fX (cz m s).2).2
def FQ(b:List UInt8):Sch×Nat×Rdr:=
 let a:=cz 24 ⟨b,0⟩
 let c:=c8 1 a.2
 let n:=c8 6 c.2
 let C:=kI n.1 [] n.2
 let m:=c8 64 C.2
 (⟨⟨a.1.toArray⟩,decide (c.1=1),C.1⟩,m.1,m.2)
def wW(b:List UInt8):Option (List Ot×Rdr):=gQ b.length (FQ b).2.1 [] (FQ b).2.2
def jl(b:List UInt8):Sch×List Ot×Bool:=match wW b with
 |none=>(⟨⟨#[]⟩,false,[]⟩,[],false)
 |some p=>((FQ b).1,p.1,decide (p.2.err=0)&&decide (p.2.rest.length=0))
def MA(s:Sch)(l:List Ot):Tree:=.agg [.sc (.string s.name),.sc (.bool s.cert),.sl (s.cols.map Col.tree),.sl (l.map Ot.tree)]
def Ji(b:List UInt8):Tree:=.tup [MA (jl b).1 (jl b).2.1,.sc (.bool (jl b).2.2)]
def oo(b:List UInt8):Option Rel:=if(jl b).2.2=true then some ⟨(jl b).1,(jl b).2.1.map Ot.tp⟩else none
theorem Jj(s:Rdr):(ym s).2.rest.length<=s.rest.length:=Oq (eR _ _) (Oq (eR _ _) (iX _ _))
theorem wX:∀(k:Nat) (a:List Col) (s:Rdr),(kI k a s).1.length=a.length+k/\(kI k a s).2.rest.length<=s.rest.length
 |0,_,_=>⟨Z,Oh _⟩
 |k+1,a,s=>by
  have h:=wX k (a++[(ym s).1]) (ym s).2;have b:=Jj s;rw[kI];rw[Oj,PO]at h;omega
theorem K4(b:List UInt8):(FQ b).2.2.rest.length<=b.length/\(FQ b).1.cols.length<=6/\(FQ b).2.1<=64:=by
 have a:=iX 24 ⟨b,0⟩;have h:=eR 1 (cz 24 ⟨b,0⟩).2;have d:=eR 6 (c8 1 (cz 24 ⟨b,0⟩).2).2;have f:=iW 6 (c8 1 (cz 24 ⟨b,0⟩).2).2;have c:=wX (c8 6 (c8 1 (cz 24 ⟨b,0⟩).2).2).1 [] (c8 6 (c8 1 (cz 24 ⟨b,0⟩).2).2).2;have g:=eR 64 (kI (c8 6 (c8 1 (cz 24 ⟨b,0⟩).2).2).1 [] (c8 6 (c8 1 (cz 24 ⟨b,0⟩).2).2).2).2;have e:=iW 64 (kI (c8 6 (c8 1 (cz 24 ⟨b,0⟩).2).2).1 [] (c8 6 (c8 1 (cz 24 ⟨b,0⟩).2).2).2).2;unfold FQ;dsimp only at a⊢;rw[Ou]at c;omega
theorem wY(m:Nat):∀(k:Nat) (a:List Ot) (s:Rdr) (p:List Ot×Rdr),gQ m k a s=some p->p.1.length=a.length+k
 |0,_,_,p,h=>by
  simp only[gQ,OI]at h;subst h;rfl
 |k+1,a,s,p,h=>by
  rw[gQ]at h;cases b:jW (cz m s).1 with
  |none=>rw[b]at h;cases h
  |some l=>
   rw[b]at h;have:=wY m k _ _ p h;rw[Oj,PO]at this;omega
theorem C0(s:Rdr)(h:(fX s).1=none):(fX s).2.err≠0:=by
 unfold fX at h⊢;generalize eV (eV (eW 1 s).2).2=b at h⊢;generalize eV (eW 1 s).2=a at h⊢;generalize eW 1 s=p at h⊢;generalize ie _ _ _=cb at h⊢;split
 ·assumption
 split
 ·simp
 split
 ·assumption
 split
 ·next h1 h2 h3 h4=>rw[if_neg h1,if_neg h2,if_neg h3,if_pos h4]at h;cases h
 simp
theorem wZ(m:Nat):∀(k:Nat) (a:List Ot) (s:Rdr) (p:List Ot×Rdr),s.err≠0->gQ m k a s=some p->p.2.err≠0
 |0,_,_,p,hs,h=>by
  simp only[gQ,OI]at h;subst h;exact hs
 |k+1,a,s,p,hs,h=>by
  rw[gQ,CK hs,te]at h;dsimp only at h;rw[Fz hs]at h;exact wZ m k _ s p hs h
def Ob(t:Ot):Prop:=∃q,t.o=some q/\Fit 2048 q
theorem C1{t:Ot}(h:Ob t):t.tree=t.tp.tree:=by
 obtain⟨q,a,_⟩:=h;obtain⟨l,o⟩:=t;dsimp only at a;subst a;rfl
theorem Jk(s:Rdr){q:Rat}(h:(fX s).1=some q):Fit 2048 q:=by
 have f:=qv (eW 1 s).2;have g:=qv (eV (eW 1 s).2).2;unfold fX at h;generalize eV (eV (eW 1 s).2).2=b at h g;generalize eV (eW 1 s).2=a at h f;generalize eW 1 s=p at h;split at h
 ·cases h
 split at h
 ·cases h
 split at h
 ·cases h
 split at h
 ·next hc=>
  simp only[OI]at h;have d:=uO hc;rw[h]at d;unfold dA iH at d;simp only[Tree.agg.injEq,Q8,and_true]at d;have e:∀x y,aG x=aG y->(az x).length=(az y).length:=fun x y c=>by
   unfold aG at c;injection c with c
   have:=congrArg List.length c;simpa using this
  exact⟨by rw[<-e _ _ d.2.1];exact f,by rw[<-e _ _ d.2.2];exact g⟩
 cases h
theorem AZ(m:Nat):∀(k:Nat) (a:List Ot) (s:Rdr) (p:List Ot×Rdr),(∀t∈a,Ob t)->gQ m k a s=some p->p.2.err=0->∀t∈p.1,Ob t
 |0,_,_,p,ha,h,_=>by
  simp only[gQ,OI]at h;subst h;exact ha
 |k+1,a,s,p,ha,h,he=>by
  rw[gQ]at h;cases d:jW (cz m s).1 with
  |none=>rw[d]at h;cases h
  |some l=>
   rw[d]at h;dsimp only at h;cases c:(fX (cz m s).2).1 with
   |none=>exact absurd he (wZ m k _ _ p (C0 _ c) h)
   |some q=>
    refine AZ m k _ _ p (fun t b=>?_) h he;rcases OZ.1 b with b|b
    ·exact ha t b
    rw[OG]at b;subst b;exact⟨q,c,Jk _ c⟩
theorem w9:∀(n:Nat) (b:List UInt8) (l:List V),u6 n b=some l->l.length<=n/\∀v∈l,v.rng
 |0,b,l,h=>by
  simp only[u6,OI]at h;subst h;exact⟨by simp,fun v f=>by cases f⟩
 |n+1,[],l,h=>by
  simp only[u6,OI]at h;subst h;exact⟨by simp,fun v f=>by cases f⟩
 |n+1,c::b,l,h=>by
  rw[u6]at h;cases a:jV (c::b)with
  |none=>rw[a]at h;cases h
  |some p=>
   obtain⟨v,k⟩:=p;rw[a]at h;dsimp only at h;split at h
   ·rw[Ps]at h;obtain⟨g,j,rfl⟩:=h;obtain⟨o,m⟩:=w9 n _ g j;refine⟨by simp only[Oi];omega,fun x d=>?_⟩;rcases OC.1 d with rfl|d
    ·simp only[jV]at a;split at a
     ·split at a
      ·simp only[OI,Qy]at a;obtain⟨rfl,_⟩:=a;have e:=lV (b.take 8);have i:(b.take 8).length<=8:=by rw[Ox];omega
       have:d8 (b.take 8)<18446744073709551616:=Oz e (Oq (OQ (by decide) i) (by decide));unfold V.rng;dsimp only;omega
      cases a
     split at a
     ·split at a
      ·simp only[OI,Qy]at a;obtain⟨rfl,_⟩:=a;unfold V.rng;dsimp only;omega
      cases a
     cases a
    exact m x d
   cases h
theorem uR(m:Nat):∀(k:Nat) (a:List Ot) (s:Rdr) (p:List Ot×Rdr),(∀t∈a,t.vals.length<=m/\∀v∈t.vals,v.rng)->gQ m k a s=some p->∀t∈p.1,t.vals.length<=m/\∀v∈t.vals,v.rng
 |0,_,_,p,ha,h=>by
  simp only[gQ,OI]at h;subst h;exact ha
 |k+1,a,s,p,ha,h=>by
  rw[gQ]at h;cases c:jW (cz m s).1 with
  |none=>rw[c]at h;cases h
  |some l=>
   rw[c]at h;dsimp only at h;refine uR m k _ _ p (fun t b=>?_) h;rcases OZ.1 b with b|b
   ·exact ha t b
   rw[OG]at b;subst b;obtain⟨d,e⟩:=w9 _ _ _ c;exact⟨Oq d (kG m s),e⟩
theorem FR{b:List UInt8}{r:Rel}(o:b.length<=65536)(h:oo b=some r):FitR r/\(∀t∈r.tups,∀v∈t.vals,v.rng)/\MA (jl b).1 (jl b).2.1=r.tree:=by
 unfold oo at h;obtain⟨_,w,u⟩:=K4 b;split at h
 ·next c=>
  simp only[OI]at h;unfold jl at c h⊢;cases g:wW b with
  |none=>rw[g]at c;cases c
  |some p=>
   rw[g]at c h;dsimp only at c h⊢;rw[Oo]at c;have c:=And.intro (of_decide_eq_true c.1) (of_decide_eq_true c.2);have l:=AZ _ _ [] _ p (fun t d=>by cases d) g c.1;have n:=uR _ _ [] _ p (fun t d=>by cases d) g;have i:=wY _ _ [] _ p g;rw[Ou]at i;have e:∀t∈r.tups,∃x∈p.1,x.tp=t:=fun t d=>by rw[<-h]at d;exact PX.1 d
   refine⟨⟨by rw[<-h];dsimp only;omega,by rw[<-h];dsimp only;rw[Ol];omega,fun t d=>?_⟩,fun t d v k=>?_,?_⟩
   ·obtain⟨x,f,rfl⟩:=e t d;obtain⟨q,s,m⟩:=l x f;have j:x.tp.prob=q:=by unfold Ot.tp;rw[s];rfl
    refine⟨⟨by rw[j];exact m.mono (by decide),?_⟩,Oq (n x f).1 o⟩;rw[j];exact(nK (a:=1) (b:=2048) ⟨by decide,by decide⟩ m).mono (by decide)
   ·obtain⟨x,f,rfl⟩:=e t d;exact(n x f).2 v k
   unfold MA Rel.tree;rw[<-h];dsimp only;rw[List.map_map,show p.1.map Ot.tree=p.1.map (Tp.tree∘Ot.tp)from QK fun x f=>C1 (l x f)]
 cases h
end Go.Proofs.YtfoejfohbkmmeaaGreatDoor
