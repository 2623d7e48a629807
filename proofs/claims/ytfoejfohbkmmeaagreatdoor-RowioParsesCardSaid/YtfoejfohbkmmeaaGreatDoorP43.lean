import Derived.Test.YtfoejfohbkmmeaaGreatDoorP42
import Derived.Test.YtfoejfohbkmmeaaGreatDoorP00
set_option maxRecDepth 100000
namespace Go.Proofs.YtfoejfohbkmmeaaGreatDoor
open Go.ChangeShapes Go.WideShapes Go.ChangeAt Go.RowKit Go.Joins Go.Deep
open Lib renaming hid→J
theorem zB{H:Type}{enc:TypeId×Value->H}{W:World}{M base:Nat}{k:Nat->Bool}{m:Bool}{v:Value}{d:DataW H}{p:List MemPlace}
  (J:Value.okWide Tryz.prog W .any M 22 v) (h:DataW.Trod enc Tryz.prog W base k m 22 v d p):
  ∃(A:Option Addr) (l:List UInt8) (c:Nat),v=.slice A l.length c/\At W W.heap.size A (bE l)/\l.length<=c/\c<=9223372036854775807/\(A=none->c=0):=by
 obtain⟨O,len,t,rfl⟩:=okWide_slice Tryz.underlying22 J;obtain⟨C,G⟩:=h;rcases open_ints Tryz.underlying22 Tryz.underlying5 uk G with⟨g,_⟩|⟨a,x,D,i,g,_,K,r,I,_,f,s⟩
 ·simp[Value.cells]at g;obtain⟨rfl,rfl,rfl⟩:=g;exact⟨none,[],0,Z,At.nil _ _ _,by simp,by simp,fun _=>rfl⟩
 simp[Value.cells]at g;obtain⟨rfl,rfl,rfl⟩:=g;have N:len<=i.length:=by rw[I];split<;>omega
 have e:((i.take len).map fun n=>UInt8.ofNat n.toNat).length=len:=by simp;omega
 refine⟨some a,(i.take len).map fun n=>UInt8.ofNat n.toNat,t,by rw[e],fun F=>?_,by rw[e];exact K,uj r,fun e=>by cases e⟩;rw[fI,e]at F;have w:=f 0 (by omega);have B:a.spot=none:=by
  have:=World.cell?_spot w;simpa[Addr.add]using this
 refine⟨a.block,a.off,by cases a;simp_all,?_,fun j u z=>?_⟩
 ·have:=World.block_lt_of_cell? _ _ w;simpa[block_add]using this
 have L:j<len:=by
  have:=(L6.1 z).1;rwa[fI,e]at this
 have y:=f j (by omega);have E:a.add j=⟨a.block,a.off+j,none⟩:=by
  obtain⟨b,o,P⟩:=a;simp only at B;subst B;exact add_plain b o j
 rw[E]at y;rw[y,<-z];have q:j<i.length:=by omega
 have r:=s i[j] (M7 q);have Q:0<=i[j]/\i[j]<=255:=by simpa[Lit.wf,IntKind.min,IntKind.max,IntKind.signed,IntKind.bits]using r
 simp only[bE,MN,MU,L,if_true,L3 q,Nq,List.getD,MG];congr 2;have:(UInt8.ofNat i[j].toNat).toNat=i[j].toNat:=by simp[PF];omega
 rw[this];omega
theorem vH{W:World}{G:Nat->Prop}:∀l:List UInt8,PT W G (bE l) (flat (bm l))
 |[]=>.nil
 |_::l=>.sc _ (vH l)
theorem Ey{W:World}{A:Option Addr}{l:List UInt8}{c:Nat}(d:At W W.heap.size A (bE l))(j:l.length<=c)(f:c<=9223372036854775807)(i:A=none->c=0):PT W (fun _=>False) [.slice A l.length c] [.sl (bm l)]:=by
 cases e:l with
 |nil=>exact .sl0 _ _ i f .nil
 |cons x m=>
  rw[<-e];obtain⟨b,o,rfl,g,a⟩:=d (by rw[e];simp[bE]);exact .sl b o c _ (bE l) _ g (fun h=>h) a (by rw[a6]) (by rw[a6];exact j) f (vH l) .nil
theorem BC{W:World}{A f:Option Addr}{b:List UInt8}{l:List Int}{c d:Nat}{m j x:Int}(n:At W W.heap.size A (bE b))(u:b.length<=c)(t:c<=9223372036854775807)(p:A=none->c=0)(a:At W W.heap.size f (lq l))(i:l.length<=d)(o:d<=9223372036854775807)(k:f=none->d=0)(y:0<=x/\x<=255)(q:Env W):
  Calls Tryz.prog 3 #[.int .i64 m,.slice A b.length c,.slice f l.length d,.int .i64 j,.int .u8 x] W (IN W):=by
 obtain⟨e,rfl⟩:∃e:UInt8,x=((e.toNat:Nat):Int):=⟨UInt8.ofNat x.toNat,by simp;omega⟩;have h:=(Ex m j b l e (by omega)).2 (fun _=>False) W [.int .i64 m,.slice A b.length c,.slice f l.length d,.int .i64 j,.int .u8 ((e.toNat:Nat):Int)] q (fun g r=>r.elim) (PT.sc _ ((Ey n u t p).cons ((Ha a i o k).cons (.sc _ (.sc _ .nil)))));refine h.mono ?_;rintro en w' ⟨v,rfl,s,w⟩;cases s with
 |sc _ _=>exact⟨Z,w⟩
end Go.Proofs.YtfoejfohbkmmeaaGreatDoor
