import Derived.Test.YtfoejfohbkmmeaaGreatDoorQ30
import Derived.Test.YtfoejfohbkmmeaaGreatDoorQ07
import Derived.Test.YtfoejfohbkmmeaaGreatDoorQ00
import Derived.Test.YtfoejfohbkmmeaaGreatDoorQ08
import Derived.Test.YtfoejfohbkmmeaaGreatDoorQ28
import Derived.Test.YtfoejfohbkmmeaaGreatDoorQ10
import Derived.Test.YtfoejfohbkmmeaaGreatDoorQ16
set_option maxRecDepth 100000
set_option maxHeartbeats 4000000
namespace Go.Proofs.YtfoejfohbkmmeaaGreatDoor
open Go.RowKit
theorem kM(s:ByteArray)(l h:Nat):(s.extract l h).data.toList=(s.data.toList.take h).drop l:=by
 rw[ByteArray.data_extract,Array.toList_extract,List.extract_eq_take_drop,List.drop_take]
theorem bN(s:ByteArray):s.size=s.data.toList.length:=by simp
def ck(s:ByteArray)(i:Nat):UInt8:=(s.data.toList[i]?).getD 0
theorem eH{s:ByteArray}{i:Nat}(h:i<s.size):s.data.toList[i]? =some (ck s i):=by
 rw[bN]at h;unfold ck;rw[L4 h];rfl
def tO(l:List UInt8):Nat:=(l.takeWhile dK).length
theorem FH(l:List UInt8):tO l<=l.length:=(Ox _).length_le
theorem FI{s:ByteArray}{i:Nat}(a:(s.data.toList.drop i).takeWhile dK=(s.data.toList.takeWhile dK).drop i)(h:i<s.size)(c:dK (ck s i)=true):(s.data.toList.drop (i+1)).takeWhile dK=(s.data.toList.takeWhile dK).drop (i+1)/\i+1<=tO s.data.toList:=by
 have b:i<s.data.toList.length:=by rw[<-bN];exact h
 have e:s.data.toList[i]=ck s i:=by have:=eH h;rw[L4 b]at this;exact Nt this
 rw[Md b,Nh,e,c,if_pos Z]at a;constructor
 ·have:=congrArg List.tail a;simpa[List.tail_drop]using this
 have:=congrArg List.length a;rw[Mb,MS]at this;unfold tO;omega
theorem Hz{s:ByteArray}{i:Nat}(c:(s.data.toList.drop i).takeWhile dK=(s.data.toList.takeWhile dK).drop i)(f:i<=tO s.data.toList)(a:((decide (i<s.size)&&decide (48<=(ck s i).toNat))&&decide ((ck s i).toNat<=57))=false):i=tO s.data.toList:=by
 have d:(s.data.toList.drop i).takeWhile dK=[]:=by
  by_cases h:i<s.size
  ·have b:i<s.data.toList.length:=by rw[<-bN];exact h
   have e:s.data.toList[i]=ck s i:=by have:=eH h;rw[L4 b]at this;exact Nt this
   rw[Md b,Nh,e];rw[decide_eq_true h,OC]at a;rw[show dK (ck s i)=false from a];rfl
  rw[Mg (by rw[<-bN];omega)];rfl
 rw[d]at c;have:=congrArg List.length c;rw[MS]at this;unfold tO at f⊢;simp only[Mo]at this;omega
theorem LH{a b:Nat}(h:a=b):aM a=aM b:=by rw[h]
theorem Av{s t:ByteArray}(j:1<t.size)(g:(ck t 0).toNat=48)(d:t.size<=s.size)(f:eB t.data.toList=eB s.data.toList)(c:t.data.toList.all dK=true):1<=(t.extract 1 t.size).size/\(t.extract 1 t.size).size<=s.size/\eB (t.extract 1 t.size).data.toList=eB s.data.toList/\(t.extract 1 t.size).data.toList.all dK=true:=by
 have e:(t.extract 1 t.size).data.toList=t.data.toList.tail:=by
  rw[kM,bN,M9,List.drop_one]
 have k:(t.extract 1 t.size).size=t.size-1:=by simp[]
 have b:t.data.toList=ck t 0::t.data.toList.tail:=by
  have:=eH (s:=t) (i:=0) (by omega);cases h:t.data.toList with
  |nil=>rw[h]at this;cases this
  |cons a l=>rw[h]at this;simp at this;rw[List.tail_cons,<-this]
 refine⟨by omega,by omega,?_,?_⟩
 ·rw[e,<-f];conv=>rhs;rw[b]
  unfold eB;rw[NH,g]
 rw[e];rw[b,NP,Ma]at c;exact c.2
theorem FJ(s:ByteArray)(l:s.size<=1048576):Ct 147 [sT s] (nI (tO s.data.toList)):=by
 refine Ct.of (n:=23) Tryz.func147 Z Z Z Z Z fun w0 G0=>?_
 refine ab<|aj 1 Z<|ab<|aj 1 Z<|ab<|aE<|aW (fun k j=>∃(i:Nat),(i<=s.size/\(s.data.toList.drop i).takeWhile dK=(s.data.toList.takeWhile dK).drop i/\i<=tO s.data.toList)/\k=s.size-i/\j=⟨23,[(0,sT s),(3,nI i)],[],[]⟩) 0 0 ⟨0,⟨by omega,Z,by omega⟩,Z,Z⟩ ⟨Z,Z,Z,.cons Z Z (.cons Z Z .nil),Z⟩ ?_;rintro k j ⟨i,⟨m,d,h⟩,rfl,rfl⟩;refine ab<|ab<|ae<|aa 2 Z<|af (t:=nI s.size) Z Z Z (eK Z a8 Z)<|af (t:=bT (decide (i<s.size))) Z Z Z (ah (ai Z Z Z Zy) (av (iu i s.size)))<|aa 1 Z<|aA (t:=sT s) ((decide (i<s.size))=true) Z Z Z au Z Z (fun a=>aw Z Z)<|aA (t:=nI i) ((decide (i<s.size))=true) Z Z Z au Z Z (fun a=>aw Z Z)<|aA (t:=.sc (.int .u8 (((ck s i).toNat:Nat):Int))) ((decide (i<s.size))=true) Z Z Z au Z Z (fun a=>dE Z a8 (if_pos a) (if_pos a) Z (eH (of_decide_eq_true a)))<|aA (t:=bT (decide (48<=(ck s i).toNat))) ((decide (i<s.size))=true) Z Z Z au Z Z (fun a=>ah (ai Z Z (if_pos a) (fun _=>rfl)) (av (DT 48 ((ck s i).toNat))))<|af (t:=bT ((decide (i<s.size))&&(decide (48<=(ck s i).toNat)))) Z Z Z (aL Z Z (fun c=>(if_pos c).trans (av (by rw[c];rfl))) (fun c=>(av (by rw[c];rfl))))<|aa 1 Z<|aA (t:=sT s) (((decide (i<s.size))&&(decide (48<=(ck s i).toNat)))=true) Z Z Z au Z Z (fun a=>aw Z Z)<|aA (t:=nI i) (((decide (i<s.size))&&(decide (48<=(ck s i).toNat)))=true) Z Z Z au Z Z (fun a=>aw Z Z)<|aA (t:=.sc (.int .u8 (((ck s i).toNat:Nat):Int))) (((decide (i<s.size))&&(decide (48<=(ck s i).toNat)))=true) Z Z Z au Z Z (fun a=>dE Z a8 (if_pos a) (if_pos a) Z (eH (of_decide_eq_true (Bool.and_eq_true_iff.1 a).1)))<|aA (t:=bT (decide ((ck s i).toNat<=57))) (((decide (i<s.size))&&(decide (48<=(ck s i).toNat)))=true) Z Z Z au Z Z (fun a=>ah (ai Z (if_pos a) Z (fun _=>rfl)) (av (DT ((ck s i).toNat) 57)))<|af (t:=bT (((decide (i<s.size))&&(decide (48<=(ck s i).toNat)))&&(decide ((ck s i).toNat<=57)))) Z Z Z (aL Z Z (fun c=>(if_pos c).trans (av (by rw[c];rfl))) (fun c=>(av (by rw[c];rfl))))<|ag<|aH Z (fun b=>?_) (fun b=>?_)
 ·rw[Ma,Ma]at b;have g:=of_decide_eq_true b.1.1;have f:=FI d g (by unfold dK;rw[b.1.2,b.2];rfl);refine ax<|aE<|ae<|aa 1 Z<|af (t:=nI (i+1)) Z Z Z (ah (ai Z Z Z Zy) (bu (by omega)))<|aa 1 Z<|ag<|⟨_,_,?_,⟨i+1,?_,Z,Z⟩,⟨Z,Z,Z,.cons Z Z (.cons Z Z .nil),Z⟩⟩
  ·omega
  exact⟨by omega,f.1,f.2⟩
 have e:=Hz d h b;refine aZ<|ab<|aj 2 Z<|aC<|⟨.inr Z,_,.cons Z .nil,ep (by rw[<-e]),Z⟩
theorem mV(s:ByteArray)(q:1<=s.size)(u:s.size<=4000)(p:s.data.toList.all dK=true):Ct 148 [sT s] (aM (eB s.data.toList)):=by
 refine Ct.of (n:=21) Tryz.func148 Z Z Z Z Z fun w0 G0=>?_
 refine ab<|ae<|af (t:=.sl []) Z Z Z (cW (.inr Z) dI)<|ag<|ab<|aE<|aW (fun o m=>∃(t:ByteArray),(1<=t.size/\t.size<=s.size/\eB t.data.toList=eB s.data.toList/\t.data.toList.all dK=true)/\o=t.size/\m=⟨21,[(0,sT t)],[],[]⟩) 0 0 ⟨s,⟨by omega,L5 _,Z,p⟩,Z,Z⟩ ⟨Z,Z,Z,.cons Z Z .nil,Z⟩ ?_;rintro o m ⟨t,⟨r,g,b,c⟩,rfl,rfl⟩;refine ab<|ab<|ae<|aa 1 Z<|af (t:=nI t.size) Z Z Z (eK Z a8 Z)<|af (t:=bT (decide (1<t.size))) Z Z Z (ah (ai Z Z Z Zy) (av (tE t.size 1)))<|aa 1 Z<|aA (t:=sT t) ((decide (1<t.size))=true) Z Z Z au Z Z (fun e=>aw Z Z)<|aA (t:=.sc (.int .u8 (((ck t 0).toNat:Nat):Int))) ((decide (1<t.size))=true) Z Z Z au Z Z (fun e=>dE (j:=0) Z a8 (if_pos e) Z Z (eH (by have:=of_decide_eq_true e;omega)))<|aA (t:=bT (decide ((ck t 0).toNat=48))) ((decide (1<t.size))=true) Z Z Z au Z Z (fun e=>ah (ai Z (if_pos e) Z (fun _=>rfl)) (av (lY ((ck t 0).toNat) 48)))<|af (t:=bT ((decide (1<t.size))&&(decide ((ck t 0).toNat=48)))) Z Z Z (aL Z Z (fun f=>(if_pos f).trans (av (by rw[f];rfl))) (fun f=>(av (by rw[f];rfl))))<|ag<|aH Z (fun a=>?_) (fun a=>?_)
 ·rw[Ma]at a;have k:=of_decide_eq_true a.1;have i:=of_decide_eq_true a.2;refine ax<|aE<|ae<|aa 1 Z<|af (t:=sT (t.extract 1 t.size)) Z Z Z (fa (l:=1) (h:=t.size) Z a8 Z ⟨_,Z⟩ Z (by omega) (by omega))<|aa 1 Z<|ag<|⟨_,_,?_,⟨t.extract 1 t.size,?_,Z,Z⟩,⟨Z,Z,Z,.cons Z Z .nil,Z⟩⟩
  ·simp only[MO];omega
  exact Av k i g b c
 have d:¬(1<t.size/\(ck t 0).toNat=48):=fun h=>by rw[decide_eq_true h.1,decide_eq_true h.2]at a;cases a
 refine aZ<|ab<|ae<|aa 1 Z<|af Z Z Z (ar Z (Ds t (by omega) (by omega) c d) Z Z)<|aa 5 Z<|ag<|ab<|aj 2 Z<|aC<|⟨.inr Z,_,.cons Z .nil,LH b,Z⟩
theorem pS{α:Type}{l:List α}{i:Nat}{t:α}(h:l[i]? =some t):l.take (i+1)=l.take i++[t]:=by
 obtain⟨a,rfl⟩:=L7.1 h;exact Mq a
theorem qr(r:Rel)(m:r.tups.length<=65536)(c:∀t∈r.tups,Ct 48 [dp t.prob] (dp t.prob)):Ct 17 [r.tree] (r.tree):=by
 refine Ct.of (n:=35) Tryz.func17 Z Z Z Z Z fun w0 G0=>?_
 refine ab<|aj 2 Z<|ab<|ae<|aa 2 Z<|af (t:=.agg [sT r.sch.name,bT r.sch.cert,.sl (r.sch.cols.map Col.tree),.sc (.slice none 0 0)]) Z Z Z (pr Z ik Z Z Z)<|aa 2 Z<|ag<|ab<|ab<|mD 2 3 67 4 (bs':=[(30,(aT r)),(30,dS),(30,[sT r.sch.name,bT r.sch.cert,.sl (r.sch.cols.map Col.tree),.own 0])]) (rs':=[some ⟨67,4,[],false⟩]) Z Z Z Z<|aj 1 Z<|aE<|aW (fun g d=>∃(i:Nat),(i<=r.tups.length)/\g=r.tups.length-i/\d=⟨35,[(1,.box 0 0),(2,.box 1 0),(3,.box 2 0),(4,nI i)],[(30,(aT r)),(30,dS),(30,[sT r.sch.name,bT r.sch.cert,.sl (r.sch.cols.map Col.tree),.own 0])],[some ⟨67,4,(r.tups.take i).map Tp.tree,false⟩]⟩) 3 1 ⟨0,Mx _,Z,Z⟩ ⟨Z,Z,Z,.cons Z Z (.cons Z Z (.cons Z Z (.cons Z Z .nil))),Z⟩ ?_;rintro g d ⟨i,j,rfl,rfl⟩;refine ab<|ab<|ae<|aa 3 Z<|af (t:=nI r.tups.length) Z Z Z (ah (bd Z aK Z) (by simp only[L8]))<|af (t:=bT (decide (i<r.tups.length))) Z Z Z (ah (ai Z Z Z Zy) (av (iu i r.tups.length)))<|ag<|aF Z (fun b=>?_) (fun b=>?_)
 ·obtain⟨t,a⟩:∃t,r.tups[i]? =some t:=⟨_,L4 b⟩;refine ax<|ab<|aE<|iw (sl':=[(1,.box 0 0),(2,.box 1 0),(3,.box 2 0),(4,nI i),(12,bT (decide (i<r.tups.length)))]) ⟨Z,⟨Z,⟨Z,⟨Z,⟨Z,trivial⟩⟩⟩⟩⟩<|fz (fu:=7) [some 15,some 16,some 17,some 18,some 19,some 20,some 21,some 22,some 23,some 24,some 25,some 26,some 27,some 28,some 29,some 30,some 31,some 32,some 33,none] [17,19] [.box 2 3,.own 0,.box 0 3,.sl (r.tups.map Tp.tree),nI i,.ref (bS t),.ref (bS t),.sl (t.vals.map V.tree),.box 0 3,.sl (r.tups.map Tp.tree),nI i,.ref (bS t),.ref (aU t.prob),.agg (aU t.prob),.agg (aU t.prob),.agg (bS t),.sl [.agg (bS t)],.own 0,.box 2 3,.any] [⟨[17],[(1,.box 0 0),(2,.box 1 0),(3,.box 2 0),(4,nI i),(12,bT (decide (i<r.tups.length)))],[(30,(aT r)),(30,dS),(30,[sT r.sch.name,bT r.sch.cert,.sl (r.sch.cols.map Col.tree),.any])],[some ⟨67,4,(r.tups.take (i+1)).map Tp.tree,false⟩],[.box 2 3,.any,.box 0 3,.sl (r.tups.map Tp.tree),nI i,.ref (bS t),.ref (bS t),.sl (t.vals.map V.tree),.box 0 3,.sl (r.tups.map Tp.tree),nI i,.ref (bS t),.ref (aU t.prob),.agg (aU t.prob),.agg (aU t.prob),.agg (bS t),.sl [.agg (bS t)],.own 0,.box 2 3,.any]⟩] ⟨[19,17],[(1,.box 0 0),(2,.box 1 0),(3,.box 2 0),(4,nI i),(12,bT (decide (i<r.tups.length)))],[(30,(aT r)),(30,dS),(30,[sT r.sch.name,bT r.sch.cert,.sl (r.sch.cols.map Col.tree),.own 0])],[some ⟨67,4,(r.tups.take (i+1)).map Tp.tree,false⟩],[.box 2 3,.any,.box 0 3,.sl (r.tups.map Tp.tree),nI i,.ref (bS t),.ref (bS t),.sl (t.vals.map V.tree),.box 0 3,.sl (r.tups.map Tp.tree),nI i,.ref (bS t),.ref (aU t.prob),.agg (aU t.prob),.agg (aU t.prob),.agg (bS t),.sl [.agg (bS t)],.own 0,.box 2 3,.any]⟩ (by kernel_rfl) Z (by kernel_rfl) (by kernel_rfl) (by kernel_rfl) Z Z ?_ ?_
  ·refine .op [] (by kernel_rfl) ?_ ?_
   ·refine .ok (t:=.box 2 3) (by kernel_rfl) Z Z (az Z Z aV Z)<|.no (by kernel_rfl)<|.no (by kernel_rfl)<|.nil
   refine .op [0] (by kernel_rfl) ?_ ?_
   ·refine .ok (t:=.own 0) (by kernel_rfl) Z Z (aD Z Z Z bp Z)<|.no (by kernel_rfl)<|.no (by kernel_rfl)<|.nil
   refine .op [] (by kernel_rfl) ?_ ?_
   ·refine .ok (t:=.box 0 3) (by kernel_rfl) Z Z (az Z Z aV Z)<|.no (by kernel_rfl)<|.no (by kernel_rfl)<|.nil
   refine .op [2] (by kernel_rfl) ?_ ?_
   ·refine .ok (t:=.sl (r.tups.map Tp.tree)) (by kernel_rfl) Z Z (aD Z Z Z bp Z)<|.no (by kernel_rfl)<|.no (by kernel_rfl)<|.nil
   refine .op [] (by kernel_rfl) ?_ ?_
   ·refine .ok (t:=nI i) (by kernel_rfl) Z Z (aw Z Z)<|.no (by kernel_rfl)<|.no (by kernel_rfl)<|.nil
   refine .op [3,4] (by kernel_rfl) ?_ ?_
   ·refine .ok (t:=.ref (bS t)) (by kernel_rfl) Z Z (aQ (Tp.tree t) Z aK Z Z Z (bf (f:=Tp.tree) a) (bQ _) Z)<|.no (by kernel_rfl)<|.no (by kernel_rfl)<|.nil
   refine .op [5] (by kernel_rfl) ?_ ?_
   ·refine .ok (t:=.ref (bS t)) (by kernel_rfl) Z Z (bw Z Z b6 Z)<|.no (by kernel_rfl)<|.no (by kernel_rfl)<|.nil
   refine .op [6] (by kernel_rfl) ?_ ?_
   ·refine .ok (t:=.sl (t.vals.map V.tree)) (by kernel_rfl) Z Z (bE Z Z cC Z)<|.no (by kernel_rfl)<|.no (by kernel_rfl)<|.nil
   refine .op [] (by kernel_rfl) ?_ ?_
   ·refine .ok (t:=.box 0 3) (by kernel_rfl) Z Z (az Z Z aV Z)<|.no (by kernel_rfl)<|.no (by kernel_rfl)<|.nil
   refine .op [8] (by kernel_rfl) ?_ ?_
   ·refine .ok (t:=.sl (r.tups.map Tp.tree)) (by kernel_rfl) Z Z (aD Z Z Z bp Z)<|.no (by kernel_rfl)<|.no (by kernel_rfl)<|.nil
   refine .op [] (by kernel_rfl) ?_ ?_
   ·refine .ok (t:=nI i) (by kernel_rfl) Z Z (aw Z Z)<|.no (by kernel_rfl)<|.no (by kernel_rfl)<|.nil
   refine .op [9,10] (by kernel_rfl) ?_ ?_
   ·refine .ok (t:=.ref (bS t)) (by kernel_rfl) Z Z (aQ (Tp.tree t) Z aK Z Z Z (bf (f:=Tp.tree) a) (bQ _) Z)<|.no (by kernel_rfl)<|.no (by kernel_rfl)<|.nil
   refine .op [11] (by kernel_rfl) ?_ ?_
   ·refine .ok (t:=.ref (aU t.prob)) (by kernel_rfl) Z Z (bw Z Z dY Z)<|.no (by kernel_rfl)<|.no (by kernel_rfl)<|.nil
   refine .op [12] (by kernel_rfl) ?_ ?_
   ·refine .ok (t:=.agg (aU t.prob)) (by kernel_rfl) Z Z (cU Z Z aN Z Z)<|.no (by kernel_rfl)<|.no (by kernel_rfl)<|.nil
   refine .op [13] (by kernel_rfl) ?_ ?_
   ·refine .ok (t:=.agg (aU t.prob)) (by kernel_rfl) Z Z (ar Z (c t (L9 a)) Z Z)<|.no (by kernel_rfl)<|.no (by kernel_rfl)<|.nil
   refine .op [7,14] (by kernel_rfl) ?_ ?_
   ·refine .ok (t:=.agg (bS t)) (by kernel_rfl) Z Z (fG Z gt Z Z Z)<|.no (by kernel_rfl)<|.no (by kernel_rfl)<|.nil
   refine .op [15] (by kernel_rfl) ?_ ?_
   ·refine .ok (t:=.sl [.agg (bS t)]) (by kernel_rfl) Z Z (a6 Z aK go Z (by decide) (by decide) Z Z Z Z Z)<|.no (by kernel_rfl)<|.no (by kernel_rfl)<|.nil
   refine .op [1,16] (by kernel_rfl) ?_ ?_
   ·refine .wr 1 (lI 0) (.own 0) (by kernel_rfl) rfl rfl (kj rfl rfl rfl ij rfl rfl rfl rfl (by intro e h;simp only[Mi,Nr,or_false]at h;subst h;rfl) (AllC.lit rfl) (AllC.lit rfl) (by simp only[L8,Mf,Mb,Mo];omega) rfl rfl (by rw[pS a,Nk];rfl)) rfl rfl rfl rfl (.k rfl (.k rfl (.k rfl (.k rfl (.k rfl (.k rfl (.k rfl (.k rfl (.k rfl (.k rfl (.k rfl (.k rfl (.k rfl (.k rfl (.k rfl (.k rfl (.k rfl (.i rfl (.k rfl (.k rfl .nil))))))))))))))))))))<|.no (by kernel_rfl)<|.no (by kernel_rfl)<|.nil
   refine .op [] (by kernel_rfl) ?_ ?_
   ·refine .no (by kernel_rfl)<|.ok (t:=.box 2 3) (by kernel_rfl) Z Z (az Z Z aV Z)<|.no (by kernel_rfl)<|.nil
   refine .op [17,18] (by kernel_rfl) ?_ ?_
   ·refine .no (by kernel_rfl)<|.wr 2 id .any (by kernel_rfl) Z Z (gJ Z Z Z Z Z Z Z Z nJ Z Z Z) Z Z Z Z (.k Z (.k Z (.k Z (.k Z (.k Z (.k Z (.k Z (.k Z (.k Z (.k Z (.k Z (.k Z (.k Z (.k Z (.k Z (.k Z (.k Z (.k Z (.k Z (.i Z .nil))))))))))))))))))))<|.no (by kernel_rfl)<|.nil
   exact .nil
  refine ae<|aa 1 Z<|af (t:=nI (i+1)) Z Z Z (ah (ai Z Z Z Zy) (bu (by omega)))<|aa 1 Z<|ag<|⟨_,_,?_,⟨i+1,?_,Z,Z⟩,⟨Z,Z,Z,.cons Z Z (.cons Z Z (.cons Z Z (.cons Z Z .nil))),Z⟩⟩
  ·omega
  omega
 refine fD 0 (bs':=[(30,(aT r)),(30,dS),(30,[sT r.sch.name,bT r.sch.cert,.sl (r.sch.cols.map Col.tree),.sl ((r.tups.take i).map Tp.tree)])]) (rs':=[none]) Z Z Z Z<|aZ<|ab<|aj 2 Z<|aC<|⟨.inr Z,_,.cons ⟨_,_,_,_,Z,Z,.inl ⟨_,bq,Z,Z⟩⟩ .nil,congrArg (fun x:List Tp=>Tree.agg [sT r.sch.name,bT r.sch.cert,.sl (r.sch.cols.map Col.tree),.sl (x.map Tp.tree)]) (Me (l:=r.tups) (i:=i) (by omega)),Z⟩
theorem HH(M N:Nat)(n:(ay M).length<=1048576)(m:(ay N).length<=1048576):Ct 214 [aM M,aM N] (aM (M+N)):=dW ⟨_,Tryz.func214,Z,Z⟩ (fun _ _ _ k h=>ia k h) fun G w vs _ _ g=>by
 obtain⟨u,v,rfl,a,i⟩:=eL g;obtain⟨A,c,rfl,j⟩:=dX a;obtain⟨B,d,rfl,l⟩:=dX i;have:=zn A B c d (ay M) (ay N) w j l (by omega) (by omega);rw[aI,aI]at this;refine this.mono ?_;rintro e w' ⟨v,rfl,f,b⟩;exact⟨v,Z,f.isD,b⟩
theorem we(M N:Nat)(k:(ay M).length<=1048576)(a:(ay N).length<=1048576):Ct 158 [aM M,aM N] (aM (M*N)):=dW ⟨_,Tryz.func158,Z,Z⟩ (fun _ _ _ m h=>ia m h) fun G w vs _ _ i=>by
 obtain⟨u,v,rfl,b,j⟩:=eL i;obtain⟨A,c,rfl,l⟩:=dX b;obtain⟨B,d,rfl,n⟩:=dX j;have:=zx A B c d (ay M) (ay N) w l n k a;rw[aI,aI]at this;refine this.mono ?_;rintro e w' ⟨v,rfl,g,f⟩;exact⟨v,Z,g.isD,f⟩
theorem Cc(n:Nat):cF false n 1=(n:Rat):=by
 unfold cF;rw[if_neg (by simp),Rat.mkRat_one];rfl
theorem FK(p q:Rat):((decide (p.num<0)==decide (q.num<0)&&decide (p.num.natAbs=q.num.natAbs))&&decide (p.den=q.den))=decide (p=q):=by
 rw[O2];simp only[Ma,beq_iff_eq,decide_eq_true_eq,decide_eq_decide];constructor
 ·rintro⟨⟨c,b⟩,a⟩;exact Rat.ext (by omega) a
 rintro rfl;exact⟨⟨OU,rfl⟩,rfl⟩
theorem FL{x y:Operand}(t:Nat)(a:t<4294967296)(w:World):(do eqGuard .shr 50 x y (.int .u32 (t:Nat)) (.int .u64 1);binOp .shr 50 (.int .u32 (t:Nat)) (.int .u64 1):Sem Value).run Tryz.prog w=.ok (.int .u32 ((t/2:Nat):Int)) w:=by
 simp[eqGuard,binOp,Op.shift,IntKind.bits];exact PM _ (by decide)
theorem yd{d:Nat}(h:d<4294967296):Lib.bitLen d<=64:=by
 by_cases a:d=0
 ·subst a;decide
 have:=(Lib.bitLenAux_bounds 64 d (by omega) a).2.1;unfold Lib.bitLen;rcases MI 64 (Lib.bitLenAux 64 d)with b|b
 ·have c:2^64<=2^(Lib.bitLenAux 64 d-1):=MP (by decide) (by omega);omega
 exact b
theorem FM{n d k t:Nat}(b:n≠0)(c:(ay n)[(ay n).length-1]? =some d)(h:k+Lib.bitLen t=Lib.bitLen d)(a:t=0):32*((ay n).length-1)+k=c8 n:=by
 subst a;unfold c8;rw[if_neg b,Mm,c,MK,<-h,show Lib.bitLen 0=0 from rfl];omega
theorem H0(a b:Nat):decide (eu (a:Int) (b:Int)≥0)=decide (b<=a):=by
 rw[xL];by_cases h:a<b
 ·rw[if_pos h];simp;omega
 rw[if_neg h];split<;>simp<;>omega
theorem wg:j4 Tryz.prog 65 0=some 0:=by kernel_rfl
theorem sX:iU Tryz.prog 50=true:=by kernel_rfl
theorem H1(q:Rat)(h:Fit 1048576 q):Ct 249 [dp q] (dp (-q)):=by
 refine Ct.of (n:=11) Tryz.func249 Z Z Z Z Z fun w0 G0=>?_
 refine ab<|aj 2 Z<|ab<|ae<|aa 2 Z<|af (t:=bT (!(decide (q.num<0)))) Z Z Z (ef Z Z Zy)<|aa 4 Z<|af Z Z Z (ar Z (kK _ _ _ h.num h.den q.den_pos) Z Z)<|aa 1 Z<|ag<|aC<|⟨.inr Z,_,.cons ⟨_,_,_,_,Z,Z,.inl ⟨_,aN,Z,Z⟩⟩ .nil,xK (by rw[xH,fd]),Z⟩
theorem ye(p q:Rat)(b:Fit 262144 p)(a:Fit 262144 q):Ct 167 [dp p,dp q] (dp (p+q)):=by
 have j:(ay (p.num.natAbs*q.den)).length<=524288:=jl b.num a.den;have g:(ay (q.num.natAbs*p.den)).length<=524288:=jl a.num b.den;have d:(ay (p.den*q.den)).length<=524288:=jl b.den a.den;have e:0<(p.den*q.den):=Oi p.den_pos q.den_pos;refine Ct.of (n:=71) Tryz.func167 Z Z Z Z Z fun w0 G0=>?_
 refine ab<|aj 3 Z<|ab<|iw (sl':=[(0,.agg (aU p)),(1,.agg (aU q)),(2,.box 0 0),(3,.box 1 0),(4,.box 2 0)]) ⟨Z,⟨Z,⟨Z,⟨Z,⟨Z,trivial⟩⟩⟩⟩⟩<|fz (fu:=2) [some 14,some 15,some 16,some 17,some 5,some 6,none,none] [4,5,6,7] [.agg (aU p),.agg (aU p),.agg (aU q),.agg (aU q),.any,.any,.any,.any] [⟨[4],[(0,.agg (aU p)),(1,.agg (aU q)),(2,.box 0 0),(3,.box 1 0),(4,.box 2 0)],[(65,(aU p)),(65,(aU q)),(65,[bT false,.sl [],.sl []]),(65,[bT false,.sl [],.sl []])],[],[.agg (aU p),.agg (aU p),.agg (aU q),.agg (aU q),.box 3 0,.any,.any,.any]⟩,⟨[5],[(0,.agg (aU p)),(1,.agg (aU q)),(2,.box 0 0),(3,.box 1 0),(4,.box 2 0)],[(65,(aU p)),(65,(aU q)),(65,[bT false,.sl [],.sl []]),(65,[bT false,.sl [],.sl []])],[],[.agg (aU p),.agg (aU p),.agg (aU q),.agg (aU q),.any,.box 3 0,.any,.any]⟩,⟨[5,4],[(0,.agg (aU p)),(1,.agg (aU q)),(2,.box 0 0),(3,.box 1 0),(4,.box 2 0)],[(65,(aU p)),(65,(aU q)),(65,[bT false,.sl [],.sl []]),(65,[bT false,.sl [],.sl []]),(65,[bT false,.sl [],.sl []])],[],[.agg (aU p),.agg (aU p),.agg (aU q),.agg (aU q),.box 3 0,.box 4 0,.any,.any]⟩,⟨[6,5,4],[(0,.agg (aU p)),(1,.agg (aU q)),(2,.box 0 0),(3,.box 1 0),(4,.box 2 0)],[(65,(aU p)),(65,(aU q)),(65,[bT false,.sl [],.sl []]),(65,(aU p)),(65,[bT false,.sl [],.sl []])],[],[.agg (aU p),.agg (aU p),.agg (aU q),.agg (aU q),.box 3 0,.box 4 0,.any,.any]⟩] ⟨[7,6,5,4],[(0,.agg (aU p)),(1,.agg (aU q)),(2,.box 0 0),(3,.box 1 0),(4,.box 2 0)],[(65,(aU p)),(65,(aU q)),(65,[bT false,.sl [],.sl []]),(65,(aU p)),(65,(aU q))],[],[.agg (aU p),.agg (aU p),.agg (aU q),.agg (aU q),.box 3 0,.box 4 0,.any,.any]⟩ (by kernel_rfl) Z (by kernel_rfl) (by kernel_rfl) (by kernel_rfl) Z Z ?_ ?_
 ·refine .op [] (by kernel_rfl) ?_ ?_
  ·refine .ok (t:=.agg (aU p)) (by kernel_rfl) Z Z (aJ Z Z Z aN Z Z)<|.ok (t:=.agg (aU p)) (by kernel_rfl) Z Z (aJ Z Z Z aN Z Z)<|.ok (t:=.agg (aU p)) (by kernel_rfl) Z Z (aJ Z Z Z aN Z Z)<|.ok (t:=.agg (aU p)) (by kernel_rfl) Z Z (aJ Z Z Z aN Z Z)<|.no (by kernel_rfl)<|.no (by kernel_rfl)<|.nil
  refine .op [0] (by kernel_rfl) ?_ ?_
  ·refine .ok (t:=.agg (aU p)) (by kernel_rfl) Z Z (ar Z (ff p (b.mono (by decide))) Z Z)<|.ok (t:=.agg (aU p)) (by kernel_rfl) Z Z (ar Z (ff p (b.mono (by decide))) Z Z)<|.ok (t:=.agg (aU p)) (by kernel_rfl) Z Z (ar Z (ff p (b.mono (by decide))) Z Z)<|.ok (t:=.agg (aU p)) (by kernel_rfl) Z Z (ar Z (ff p (b.mono (by decide))) Z Z)<|.no (by kernel_rfl)<|.no (by kernel_rfl)<|.nil
  refine .op [] (by kernel_rfl) ?_ ?_
  ·refine .ok (t:=.agg (aU q)) (by kernel_rfl) Z Z (aJ Z Z Z aN Z Z)<|.ok (t:=.agg (aU q)) (by kernel_rfl) Z Z (aJ Z Z Z aN Z Z)<|.ok (t:=.agg (aU q)) (by kernel_rfl) Z Z (aJ Z Z Z aN Z Z)<|.ok (t:=.agg (aU q)) (by kernel_rfl) Z Z (aJ Z Z Z aN Z Z)<|.no (by kernel_rfl)<|.no (by kernel_rfl)<|.nil
  refine .op [2] (by kernel_rfl) ?_ ?_
  ·refine .ok (t:=.agg (aU q)) (by kernel_rfl) Z Z (ar Z (ff q (a.mono (by decide))) Z Z)<|.ok (t:=.agg (aU q)) (by kernel_rfl) Z Z (ar Z (ff q (a.mono (by decide))) Z Z)<|.ok (t:=.agg (aU q)) (by kernel_rfl) Z Z (ar Z (ff q (a.mono (by decide))) Z Z)<|.ok (t:=.agg (aU q)) (by kernel_rfl) Z Z (ar Z (ff q (a.mono (by decide))) Z Z)<|.no (by kernel_rfl)<|.no (by kernel_rfl)<|.nil
  refine .op [] (by kernel_rfl) ?_ ?_
  ·refine .wr 1 id (.box 3 0) (by kernel_rfl) Z Z (iI Z Z Z lk Z Z Z Z) Z Z Z Z (.k Z (.k Z (.k Z (.k Z (.i Z (.k Z (.k Z (.k Z .nil))))))))<|.no (by kernel_rfl)<|.wr 3 (IU 3) (.box 3 0) (by kernel_rfl) Z Z (zb (p:=[(65,(aU p)),(65,(aU q)),(65,[bT false,.sl [],.sl []])]) Z Z Z lk Z Z Z Z) Z Z Z Z (.k Z (.k Z (.k Z (.k Z (.i Z (.k Z (.k Z (.k Z .nil))))))))<|.no (by kernel_rfl)<|.no (by kernel_rfl)<|.no (by kernel_rfl)<|.nil
  refine .op [] (by kernel_rfl) ?_ ?_
  ·refine .wr 2 id (.box 3 0) (by kernel_rfl) Z Z (iI Z Z Z lk Z Z Z Z) Z Z Z Z (.k Z (.k Z (.k Z (.k Z (.k Z (.i Z (.k Z (.k Z .nil))))))))<|.wr 3 id (.box 4 0) (by kernel_rfl) Z Z (iI Z Z Z lk Z Z Z Z) Z Z Z Z (.k Z (.k Z (.k Z (.k Z (.k Z (.i Z (.k Z (.k Z .nil))))))))<|.no (by kernel_rfl)<|.no (by kernel_rfl)<|.no (by kernel_rfl)<|.no (by kernel_rfl)<|.nil
  refine .op [1,4] (by kernel_rfl) ?_ ?_
  ·refine .no (by kernel_rfl)<|.no (by kernel_rfl)<|.no (by kernel_rfl)<|.wr 4 id .any (by kernel_rfl) Z Z (gJ Z Z Z Z Z Z Z Z fm Z Z Z) Z Z Z Z (.k Z (.k Z (.k Z (.k Z (.k Z (.k Z (.i Z (.k Z .nil))))))))<|.no (by kernel_rfl)<|.no (by kernel_rfl)<|.nil
  refine .op [3,5] (by kernel_rfl) ?_ ?_
  ·refine .no (by kernel_rfl)<|.no (by kernel_rfl)<|.no (by kernel_rfl)<|.no (by kernel_rfl)<|.wr 5 id .any (by kernel_rfl) Z Z (gJ Z Z Z Z Z Z Z Z fm Z Z Z) Z Z Z Z (.k Z (.k Z (.k Z (.k Z (.k Z (.k Z (.k Z (.i Z .nil))))))))<|.no (by kernel_rfl)<|.nil
  exact .nil
 refine ab<|ci (fu:=12) [some 18,some 19,some 20,some 21,some 22,some 23,some 24,some 25,some 26,some 27,some 7,some 8] [.box 3 1,aM p.num.natAbs,.box 4 2,aM q.den,aM (p.num.natAbs*q.den),.box 4 1,aM q.num.natAbs,.box 3 2,aM p.den,aM (q.num.natAbs*p.den),aM (p.num.natAbs*q.den),aM (q.num.natAbs*p.den)] (by kernel_rfl) Z Z (by kernel_rfl) Z ?_ ?_
 ·refine Chain.op Z (az Z Z fX Z)<|Chain.op Z (aD Z Z Z dU Z)<|Chain.op Z (az Z Z fY Z)<|Chain.op Z (aD Z Z Z dU Z)<|Chain.op Z (ar Z (we _ _ (L6 b.num (by decide)) (L6 a.den (by decide))) Z Z)<|Chain.op Z (az Z Z fX Z)<|Chain.op Z (aD Z Z Z dU Z)<|Chain.op Z (az Z Z fY Z)<|Chain.op Z (aD Z Z Z dU Z)<|Chain.op Z (ar Z (we _ _ (L6 a.num (by decide)) (L6 b.den (by decide))) Z Z)<|Chain.op Z (bW Z Z)<|Chain.op Z (bW Z Z)<|Chain.nil
 refine ab<|ae<|aa 4 Z<|af Z Z Z (ar Z (we _ _ (L6 b.den (by decide)) (L6 a.den (by decide))) Z Z)<|aa 1 Z<|ag<|ab<|ab<|ae<|aa 4 Z<|af (t:=bT ((decide (p.num<0))==(decide (q.num<0)))) Z Z Z (ai Z Z Z Zy)<|ag<|aH Z (fun c=>?_) (fun c=>?_)
 ·refine ab<|dH (ops:=[_,_,_,_,_,_,_]) (fu:=8) (bs':=[(65,(aU p)),(65,(aU q)),(65,[bT (decide ((cF (decide (p.num<0)) ((p.num.natAbs*q.den)+(q.num.natAbs*p.den)) (p.den*q.den)).num<0)),aM ((cF (decide (p.num<0)) ((p.num.natAbs*q.den)+(q.num.natAbs*p.den)) (p.den*q.den)).num.natAbs),aM ((cF (decide (p.num<0)) ((p.num.natAbs*q.den)+(q.num.natAbs*p.den)) (p.den*q.den)).den)]),(65,(aU p)),(65,(aU q))]) [some 38,some 39,some 40,some 41,some 42,some 43,some 44] [.box 3 0,bT (decide (p.num<0)),aM (p.num.natAbs*q.den),aM (q.num.natAbs*p.den),aM ((p.num.natAbs*q.den)+(q.num.natAbs*p.den)),aM (p.den*q.den),.agg [bT (decide ((cF (decide (p.num<0)) ((p.num.natAbs*q.den)+(q.num.natAbs*p.den)) (p.den*q.den)).num<0)),aM ((cF (decide (p.num<0)) ((p.num.natAbs*q.den)+(q.num.natAbs*p.den)) (p.den*q.den)).num.natAbs),aM ((cF (decide (p.num<0)) ((p.num.natAbs*q.den)+(q.num.natAbs*p.den)) (p.den*q.den)).den)]] (by kernel_rfl) Z Z Z Z Z (by kernel_rfl) (by kernel_rfl) Z Z Z Z Z Z Z Z fm Z Z Z ?_ ?_
  ·refine Chain.op Z (az Z Z wg Z)<|Chain.op Z (aD Z Z Z fW Z)<|Chain.op Z (aw Z Z)<|Chain.op Z (aw Z Z)<|Chain.op Z (ar Z (HH _ _ (L6 j (by decide)) (L6 g (by decide))) Z Z)<|Chain.op Z (aw Z Z)<|Chain.op Z (ar Z (kK _ _ _ (L6 (uu j g) (by decide)) (L6 d (by decide)) e) Z Z)<|Chain.nil
  refine aC<|⟨.inr Z,_,.cons ⟨_,_,_,_,Z,Z,.inl ⟨_,aN,Z,Z⟩⟩ .nil,xK (xO (by simpa using c)),Z⟩
 refine ax<|ab<|ab<|ae<|aa 2 Z<|af Z Z Z (ar Z (Hs _ _ (L6 j (by decide)) (L6 g (by decide))) Z Z)<|af (t:=bT (decide ((q.num.natAbs*p.den)<=(p.num.natAbs*q.den)))) Z Z Z (ah (ai Z Z Z Zy) (av (H0 _ _)))<|ag<|aF Z (fun f=>?_) (fun f=>?_)
 ·have h:=f;refine ab<|ae<|aa 2 Z<|af Z Z Z (ar Z (B4 _ _ (L6 j (by decide)) h) Z Z)<|aa 5 Z<|ag<|ab<|ae<|aa 4 Z<|af Z Z Z (ar Z (kK _ _ _ (L6 (aS (OZ _ _)) (L6 j (by decide))) (L6 d (by decide)) e) Z Z)<|aa 1 Z<|ag<|aC<|⟨.inr Z,_,.cons ⟨_,_,_,_,Z,Z,.inl ⟨_,aN,Z,Z⟩⟩ .nil,xK (Fb (by simpa using c) h),Z⟩
 refine ax<|ab<|ae<|aa 2 Z<|af Z Z Z (ar Z (B4 _ _ (L6 g (by decide)) (by omega)) Z Z)<|aa 5 Z<|ag<|ab<|ae<|aa 4 Z<|af Z Z Z (ar Z (kK _ _ _ (L6 (aS (OZ _ _)) (L6 g (by decide))) (L6 d (by decide)) e) Z Z)<|aa 1 Z<|ag<|aC<|⟨.inr Z,_,.cons ⟨_,_,_,_,Z,Z,.inl ⟨_,aN,Z,Z⟩⟩ .nil,xK (Fc (by simpa using c) (by omega)),Z⟩
theorem yf(p q:Rat)(b:Fit 262144 p)(a:Fit 262144 q):Ct 216 [dp p,dp q] (dp (p-q)):=by
 refine Ct.of (n:=9) Tryz.func216 Z Z Z Z Z fun w0 G0=>?_
 refine ab<|aj 3 Z<|ab<|dH (ops:=[_,_,_,_]) (fu:=5) (bs':=[(65,(aU p)),(65,(aU q)),(65,[bT (decide ((p+ -q).num<0)),aM ((p+ -q).num.natAbs),aM ((p+ -q).den)])]) [some 5,some 6,some 7,some 8] [.agg (aU p),.agg (aU q),.agg [bT (decide ((-q).num<0)),aM ((-q).num.natAbs),aM ((-q).den)],.agg [bT (decide ((p+ -q).num<0)),aM ((p+ -q).num.natAbs),aM ((p+ -q).den)]] (by kernel_rfl) Z Z Z Z Z (by kernel_rfl) (by kernel_rfl) Z Z Z Z Z Z Z Z fm Z Z Z ?_ ?_
 ·refine Chain.op Z (aJ Z Z Z aN Z Z)<|Chain.op Z (aJ Z Z Z aN Z Z)<|Chain.op Z (ar Z (H1 q (a.mono (by decide))) Z Z)<|Chain.op Z (ar Z (ye _ _ b (BV a)) Z Z)<|Chain.nil
 refine aC<|⟨.inr Z,_,.cons ⟨_,_,_,_,Z,Z,.inl ⟨_,aN,Z,Z⟩⟩ .nil,xK (Rat.sub_eq_add_neg _ _).symm,Z⟩
theorem rf(n:Nat)(b:n<4611686018427387904):Ct 87 [nI n] (dp (n:Rat)):=by
 refine Ct.of (n:=18) Tryz.func87 Z Z Z Z Z fun w0 G0=>?_
 refine ab<|aj 1 Z<|ab<|ab<|ae<|aa 1 Z<|af (t:=bT (decide (n<0))) Z Z Z (ah (ai Z Z Z Zy) (av (iu n 0)))<|ag<|aF Z (fun a=>?_) (fun a=>?_)
 ·exact absurd a (by omega)
 refine ax<|ab<|ae<|aa 1 Z<|af (t:=.sc (.int .u64 ((n:Nat):Int))) Z Z Z (ah (k7 Z mR nB Z) (ep (by rw[IntKind.wrap_u64];omega)))<|af Z Z Z (ar Z (Ft n (by omega)) Z Z)<|af Z Z Z (ar Z (Ft 1 (by decide)) Z Z)<|af Z Z Z (ar Z (kK _ _ _ (L6 (jA (by omega)) (by decide)) (by decide) (by decide)) Z Z)<|aa 1 Z<|ag<|aC<|⟨.inr Z,_,.cons ⟨_,_,_,_,Z,Z,.inl ⟨_,aN,Z,Z⟩⟩ .nil,xK (Cc n),Z⟩
theorem sY(q:Rat)(h:Fit 1048576 q):Ct 165 [dp q] (iT (bP q)):=by
 refine Ct.of (n:=14) Tryz.func165 Z Z Z Z Z fun w0 G0=>?_
 refine ab<|aj 2 Z<|ab<|ae<|aa 1 Z<|af Z Z Z (ar Z (ff q h) Z Z)<|aa 2 Z<|ag<|ab<|aE<|ab<|ae<|aa 2 Z<|af (t:=nI ((ay q.num.natAbs).length)) Z Z Z (ah (bd Z dw Z) (by simp only[L8]))<|af (t:=bT (decide ((ay q.num.natAbs).length=0))) Z Z Z (ah (ai Z Z Z Zy) (av (lY ((ay q.num.natAbs).length) 0)))<|aa 1 Z<|ag<|aF Z (fun a=>?_) (fun a=>?_)
 ·refine ab<|aj 1 Z<|aC<|⟨.inr Z,_,.cons Z .nil,ep (by unfold bP;rw[show q.num=0 by rw[bR]at a;omega];rfl),Z⟩
 refine ab<|aj 3 Z<|aF Z (fun b=>?_) (fun b=>?_)
 ·refine ab<|aj 1 Z<|aC<|⟨.inr Z,_,.cons Z .nil,ep (by unfold bP;rw[NR b]),Z⟩
 refine ax<|ab<|aj 1 Z<|aC<|⟨.inr Z,_,.cons Z .nil,ep (by unfold bP;rw[N3 (by rw[bR]at a;omega)]),Z⟩
theorem Dt(q:Rat)(a:Fit 262144 q):Ct 166 [dp q] (dp (1-q)):=by
 refine Ct.of (n:=6) Tryz.func166 Z Z Z Z Z fun w0 G0=>?_
 refine ab<|aj 2 Z<|ab<|dH (ops:=[_,_,_]) (fu:=4) (bs':=[(65,(aU q)),(65,[bT (decide ((((1:Nat):Rat)-q).num<0)),aM ((((1:Nat):Rat)-q).num.natAbs),aM ((((1:Nat):Rat)-q).den)])]) [some 3,some 4,some 5] [.agg [bT (decide ((((1:Nat):Nat):Rat).num<0)),aM ((((1:Nat):Nat):Rat).num.natAbs),aM ((((1:Nat):Nat):Rat).den)],.agg (aU q),.agg [bT (decide ((((1:Nat):Rat)-q).num<0)),aM ((((1:Nat):Rat)-q).num.natAbs),aM ((((1:Nat):Rat)-q).den)]] (by kernel_rfl) Z Z Z Z Z (by kernel_rfl) (by kernel_rfl) Z Z Z Z Z Z Z Z fm Z Z Z ?_ ?_
 ·refine Chain.op Z (ar Z (rf 1 (by decide)) Z Z)<|Chain.op Z (aJ Z Z Z aN Z Z)<|Chain.op Z (ar Z (yf _ _ qY a) Z Z)<|Chain.nil
 refine aC<|⟨.inr Z,_,.cons ⟨_,_,_,_,Z,Z,.inl ⟨_,aN,Z,Z⟩⟩ .nil,Z,Z⟩
theorem FN(p q:Rat)(b:Fit 262144 p)(a:Fit 262144 q):Ct 215 [dp p,dp q] (iT (bP (p-q))):=by
 refine Ct.of (n:=9) Tryz.func215 Z Z Z Z Z fun w0 G0=>?_
 refine ab<|aj 3 Z<|ab<|ae<|aa 2 Z<|af Z Z Z (ar Z (yf _ _ b a) Z Z)<|af Z Z Z (ar Z (sY _ ((oS b a).mono (by decide))) Z Z)<|aa 1 Z<|ag<|aC<|⟨.inr Z,_,.cons Z .nil,Z,Z⟩
theorem yg(x y:Nat)(q:(ay x).length<=1048576)(p:(ay y).length<=1048576):Ct 103 [aM x,aM y] (bT (decide (x=y))):=by
 refine Ct.of (n:=26) Tryz.func103 Z Z Z Z Z fun w0 G0=>?_
 refine ab<|aj 1 Z<|ab<|ab<|ae<|aa 1 Z<|af (t:=nI ((ay x).length)) Z Z Z (ah (bd Z dw Z) (by simp only[L8]))<|aa 1 Z<|af (t:=nI ((ay y).length)) Z Z Z (ah (bd Z dw Z) (by simp only[L8]))<|af (t:=bT (decide ((ay x).length≠(ay y).length))) Z Z Z (ah (ai Z Z Z Zy) (av (wD ((ay x).length) ((ay y).length))))<|ag<|aF Z (fun h=>?_) (fun h=>?_)
 ·refine ab<|aj 1 Z<|aC<|⟨.inr Z,_,.cons Z .nil,av (decide_eq_false fun e=>h (by rw[e])).symm,Z⟩
 have o:(ay x).length=(ay y).length:=NE.1 h;refine ax<|ab<|ab<|aj 1 Z<|aE<|aW (fun m l=>∃(i:Nat),(i<=(ay x).length/\(ay x).take i=(ay y).take i)/\m=(ay x).length-i/\l=⟨26,[(0,.sl ((ay x).map o4)),(1,.sl ((ay y).map o4)),(5,nI i)],[],[]⟩) 0 0 ⟨0,⟨by omega,Z⟩,Z,Z⟩ ⟨Z,Z,Z,.cons Z Z (.cons Z Z (.cons Z Z .nil)),Z⟩ ?_;rintro m l ⟨i,⟨r,g⟩,rfl,rfl⟩;refine ab<|ab<|ae<|aa 2 Z<|af (t:=nI ((ay x).length)) Z Z Z (ah (bd Z dw Z) (by simp only[L8]))<|af (t:=bT (decide (i<(ay x).length))) Z Z Z (ah (ai Z Z Z Zy) (av (iu i ((ay x).length))))<|ag<|aF Z (fun j=>?_) (fun j=>?_)
 ·obtain⟨d,a⟩:∃d,(ay x)[i]? =some d:=⟨_,L4 j⟩;obtain⟨e,b⟩:∃e,(ay y)[i]? =some e:=⟨_,L4 (by omega)⟩;refine ax<|ab<|aE<|ab<|ci (fu:=9) [some 17,some 18,some 19,some 20,some 21,some 22,some 23,some 24,some 25] [.sl ((ay x).map o4),nI i,.ref [.sc (.int .u32 ((d:Nat):Int))],.sc (.int .u32 ((d:Nat):Int)),.sl ((ay y).map o4),nI i,.ref [.sc (.int .u32 ((e:Nat):Int))],.sc (.int .u32 ((e:Nat):Int)),bT (decide (d≠e))] (by kernel_rfl) Z Z (by kernel_rfl) Z ?_ ?_
  ·refine Chain.op Z (aw Z Z)<|Chain.op Z (aw Z Z)<|Chain.op Z (aQ (o4 d) Z dw Z Z Z (bf (f:=o4) a) (nK _) Z)<|Chain.op Z (bE Z Z sX Z)<|Chain.op Z (aw Z Z)<|Chain.op Z (aw Z Z)<|Chain.op Z (aQ (o4 e) Z dw Z Z Z (bf (f:=o4) b) (nK _) Z)<|Chain.op Z (bE Z Z sX Z)<|Chain.op Z (ah (ai Z Z Z Zy) (av (wD d e)))<|Chain.nil
  refine aF Z (fun c=>?_) (fun c=>?_)
  ·refine ab<|aj 1 Z<|aC<|⟨.inr Z,_,.cons Z .nil,av (decide_eq_false fun e=>c (by rw[e]at a;rw[a]at b;exact Nt b)).symm,Z⟩
  have k:d=e:=NE.1 c;refine ax<|ae<|aa 1 Z<|af (t:=nI (i+1)) Z Z Z (ah (ai Z Z Z Zy) (bu (by omega)))<|aa 1 Z<|ag<|⟨_,_,?_,⟨i+1,?_,Z,Z⟩,⟨Z,Z,Z,.cons Z Z (.cons Z Z (.cons Z Z .nil)),Z⟩⟩
  ·omega
  refine⟨by omega,?_⟩;rw[pS a,pS b,g,k]
 refine aZ<|ab<|aj 1 Z<|aC<|⟨.inr Z,_,.cons Z .nil,av (decide_eq_true (by rw[Me (by omega),Me (by omega)]at g;rw[<-aI x,g,aI])).symm,Z⟩
theorem Du(p q:Rat)(d:Fit 1048576 p)(c:Fit 1048576 q):Ct 45 [dp p,dp q] (bT (decide (p=q))):=by
 refine Ct.of (n:=24) Tryz.func45 Z Z Z Z Z fun w0 G0=>?_
 refine ab<|aj 3 Z<|ab<|ae<|aa 4 Z<|af (t:=bT ((decide (p.num<0))==(decide (q.num<0)))) Z Z Z (ai Z Z Z Zy)<|aa 1 Z<|aA (t:=.box 0 1) (((decide (p.num<0))==(decide (q.num<0)))=true) Z Z Z au Z Z (fun a=>az Z Z fX Z)<|aA (t:=aM p.num.natAbs) (((decide (p.num<0))==(decide (q.num<0)))=true) Z Z Z au Z Z (fun a=>aD Z (if_pos a) Z dU Z)<|aA (t:=.box 1 1) (((decide (p.num<0))==(decide (q.num<0)))=true) Z Z Z au Z Z (fun a=>az Z Z fX Z)<|aA (t:=aM q.num.natAbs) (((decide (p.num<0))==(decide (q.num<0)))=true) Z Z Z au Z Z (fun a=>aD Z (if_pos a) Z dU Z)<|aA (t:=bT (decide (p.num.natAbs=q.num.natAbs))) (((decide (p.num<0))==(decide (q.num<0)))=true) Z Z Z au Z Z (fun a=>ar Z (yg _ _ d.num c.num) (eU (if_pos a) (eU (if_pos a) Z)) Z)<|af (t:=bT (((decide (p.num<0))==(decide (q.num<0)))&&(decide (p.num.natAbs=q.num.natAbs)))) Z Z Z (aL Z Z (fun b=>(if_pos b).trans (av (by rw[b];rfl))) (fun b=>(av (by rw[b];rfl))))<|aa 1 Z<|aA (t:=.box 0 2) ((((decide (p.num<0))==(decide (q.num<0)))&&(decide (p.num.natAbs=q.num.natAbs)))=true) Z Z Z au Z Z (fun a=>az Z Z fY Z)<|aA (t:=aM p.den) ((((decide (p.num<0))==(decide (q.num<0)))&&(decide (p.num.natAbs=q.num.natAbs)))=true) Z Z Z au Z Z (fun a=>aD Z (if_pos a) Z dU Z)<|aA (t:=.box 1 2) ((((decide (p.num<0))==(decide (q.num<0)))&&(decide (p.num.natAbs=q.num.natAbs)))=true) Z Z Z au Z Z (fun a=>az Z Z fY Z)<|aA (t:=aM q.den) ((((decide (p.num<0))==(decide (q.num<0)))&&(decide (p.num.natAbs=q.num.natAbs)))=true) Z Z Z au Z Z (fun a=>aD Z (if_pos a) Z dU Z)<|aA (t:=bT (decide (p.den=q.den))) ((((decide (p.num<0))==(decide (q.num<0)))&&(decide (p.num.natAbs=q.num.natAbs)))=true) Z Z Z au Z Z (fun a=>ar Z (yg _ _ d.den c.den) (eU (if_pos a) (eU (if_pos a) Z)) Z)<|af (t:=bT ((((decide (p.num<0))==(decide (q.num<0)))&&(decide (p.num.natAbs=q.num.natAbs)))&&(decide (p.den=q.den)))) Z Z Z (aL Z Z (fun b=>(if_pos b).trans (av (by rw[b];rfl))) (fun b=>(av (by rw[b];rfl))))<|aa 1 Z<|ag<|aC<|⟨.inr Z,_,.cons Z .nil,av (FK p q),Z⟩
theorem H3(a b:Int)(e: -9223372036854775808<=a)(f:a<=9223372036854775807)(d: -9223372036854775808<=b)(g:b<=9223372036854775807)(h:b≠0):Ct 94 [iT a,iT b] (.tup [dp (cF ((decide (a<0)) !=(decide (b<0))) a.natAbs b.natAbs),iT 0]):=by
 refine Ct.of (n:=19) Tryz.func94 Z Z Z Z Z fun w0 G0=>?_
 refine ab<|aj 2 Z<|ab<|ab<|ae<|aa 1 Z<|af (t:=bT (b==0)) Z Z Z (ai Z Z Z Zy)<|ag<|aH Z (fun c=>?_) (fun c=>?_)
 ·exact absurd (by simpa using c) h
 refine ax<|ab<|ae<|aa 1 Z<|af (t:=bT (decide (a<0))) Z Z Z (ai Z Z Z Zy)<|aa 1 Z<|af (t:=bT (decide (b<0))) Z Z Z (ai Z Z Z Zy)<|af (t:=bT ((decide (a<0)) !=(decide (b<0)))) Z Z Z (ai Z Z Z Zy)<|aa 1 Z<|af Z Z Z (ar Z (x3 a e f) Z Z)<|aa 1 Z<|af Z Z Z (ar Z (x3 b d g) Z Z)<|af Z Z Z (ar Z (kK _ _ _ (L6 (jA (by omega)) (by decide)) (L6 (jA (by omega)) (by decide)) (by omega)) Z Z)<|aa 2 Z<|ag<|aC<|⟨.inr Z,_,.cons ⟨_,_,_,_,Z,Z,.inl ⟨_,aN,Z,Z⟩⟩ (.cons Z .nil),Z,Z⟩
theorem FO(n:Nat)(q:(ay n).length<=1048576):Ct 159 [aM n] (iT (c8 n)):=by
 refine Ct.of (n:=28) Tryz.func159 Z Z Z Z Z fun w0 G0=>?_
 refine ab<|aj 1 Z<|ab<|ae<|aa 1 Z<|af Z Z Z (ar Z (Fs n (by omega)) Z Z)<|aa 1 Z<|ag<|ab<|ab<|ae<|aa 1 Z<|af (t:=nI ((ay n).length)) Z Z Z (ah (bd Z dw Z) (by simp only[L8]))<|af (t:=bT (decide ((ay n).length=0))) Z Z Z (ah (ai Z Z Z Zy) (av (lY ((ay n).length) 0)))<|ag<|aF Z (fun c=>?_) (fun c=>?_)
 ·refine ab<|aj 1 Z<|aC<|⟨.inr Z,_,.cons Z .nil,ep (by rw[show c8 n=0 from sj.2 (bR.1 c)];rfl),Z⟩
 obtain⟨d,b⟩:∃d,(ay n)[(ay n).length-1]? =some d:=⟨_,L4 (by omega)⟩;have a:d<4294967296:=bY n d (L9 b);have i:n≠0:=fun e=>c (bR.2 e)
 refine ax<|ab<|ae<|aa 1 Z<|af (t:=nI ((ay n).length)) Z Z Z (ah (bd Z dw Z) (by simp only[L8]))<|af (t:=nI (((ay n).length)-1)) Z Z Z (ah (ai Z Z Z Zy) (bu (by omega)))<|af (t:=nI (32*(((ay n).length)-1))) Z Z Z (ah (ai Z Z Z Zy) (bu (by omega)))<|aa 1 Z<|ag<|ab<|ab<|ae<|aa 2 Z<|af (t:=nI ((ay n).length)) Z Z Z (ah (bd Z dw Z) (by simp only[L8]))<|af (t:=nI (((ay n).length)-1)) Z Z Z (ah (ai Z Z Z Zy) (bu (by omega)))<|af (t:=.ref [.sc (.int .u32 ((d:Nat):Int))]) Z Z Z (aQ (o4 d) Z dw Z Z Z (bf (f:=o4) b) (nK _) Z)<|aa 2 Z<|ag<|aE<|aW (fun l j=>∃(k:Nat) (t:Nat),(t<4294967296/\k<=64/\k+Lib.bitLen t=Lib.bitLen d)/\l=t+1/\j=⟨28,[(4,nI (32*((ay n).length-1)+k)),(5,.sc (.int .u32 ((t:Nat):Int)))],[],[]⟩) 0 0 ⟨0,d,⟨a,by omega,M0 _⟩,Z,Z⟩ ⟨Z,Z,Z,.cons Z Z (.cons Z Z .nil),Z⟩ ?_;rintro l j ⟨k,t,⟨o,r,g⟩,rfl,rfl⟩;refine ab<|ab<|ae<|aa 1 Z<|af (t:=bT (decide (0<t))) Z Z Z (ah (ai Z Z Z Zy) (av (tE t 0)))<|ag<|aF Z (fun h=>?_) (fun h=>?_)
 ·refine ax<|ab<|aE<|ae<|aa 1 Z<|af (t:=nI ((32*((ay n).length-1)+k)+1)) Z Z Z (ah (ai Z Z Z Zy) (bu (by omega)))<|aa 1 Z<|ag<|ae<|aa 1 Z<|af (t:=.sc (.int .u32 ((t/2:Nat):Int))) Z Z Z (ai Z Z Z (fun w=>FL t o w))<|aa 1 Z<|ag<|⟨_,_,?_,⟨k+1,t/2,?_,Z,Z⟩,⟨Z,Z,Z,.cons Z Z (.cons Z Z .nil),Z⟩⟩
  ·omega
  have p:=Lib.bitLen_half t (by omega) (by omega);have m:Lib.bitLen d<=64:=yd a;exact⟨by omega,by omega,by omega⟩
 refine aZ<|ab<|aj 2 Z<|aC<|⟨.inr Z,_,.cons Z .nil,ep (by rw[FM i b g (by omega)]),Z⟩
end Go.Proofs.YtfoejfohbkmmeaaGreatDoor
