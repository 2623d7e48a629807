import Derived.Test.YtfoejfohbkmmeaaGreatDoorU33
import Derived.Test.YtfoejfohbkmmeaaGreatDoorU08
import Derived.Test.YtfoejfohbkmmeaaGreatDoorU00
import Derived.Test.YtfoejfohbkmmeaaGreatDoorU09
import Derived.Test.YtfoejfohbkmmeaaGreatDoorU31
import Derived.Test.YtfoejfohbkmmeaaGreatDoorU10
import Derived.Test.YtfoejfohbkmmeaaGreatDoorU17
set_option maxRecDepth 100000
set_option maxHeartbeats 4000000
namespace Go.Proofs.YtfoejfohbkmmeaaGreatDoor
open Go.RowKit
theorem kM(s:ByteArray)(l h:Nat):(s.extract l h).data.toList=(s.data.toList.take h).drop l:=by
 rw[ByteArray.data_extract,Array.toList_extract,List.extract_eq_take_drop,List.drop_take]
theorem bN(s:ByteArray):s.size=s.data.toList.length:=by simp
def ck(s:ByteArray)(i:Nat):UInt8:=(s.data.toList[i]?).getD 0
theorem eH{s:ByteArray}{i:Nat}(h:i<s.size):s.data.toList[i]? =some (ck s i):=by
 rw[bN]at h;unfold ck;rw[L4 h];rfl
def tO(l:List UInt8):Nat:=(l.takeWhile dK).length
theorem FH(l:List UInt8):tO l<=l.length:=(Ox _).length_le
theorem FI{s:ByteArray}{i:Nat}(a:(s.data.toList.drop i).takeWhile dK=(s.data.toList.takeWhile dK).drop i)(h:i<s.size)(c:dK (ck s i)=true):(s.data.toList.drop (i+1)).takeWhile dK=(s.data.toList.takeWhile dK).drop (i+1)/\i+1<=tO s.data.toList:=by
 have b:i<s.data.toList.length:=by rw[<-bN];exact h
 have e:s.data.toList[i]=ck s i:=by have:=eH h;rw[L4 b]at this;exact Nt this
 rw[Md b,Nh,e,c,if_pos Z]at a;constructor
 ·have:=congrArg List.tail a;simpa[List.tail_drop]using this
 have:=congrArg List.length a;rw[Mb,MS]at this;unfold tO;omega
theorem Hz{s:ByteArray}{i:Nat}(b:(s.data.toList.drop i).takeWhile dK=(s.data.toList.takeWhile dK).drop i)(d:i<=tO s.data.toList)(c:((decide (i<s.size)&&decide (48<=(ck s i).toNat))&&decide ((ck s i).toNat<=57))=false):i=tO s.data.toList:=by
 have f:(s.data.toList.drop i).takeWhile dK=[]:=by
  by_cases h:i<s.size
  ·have a:i<s.data.toList.length:=by rw[<-bN];exact h
   have e:s.data.toList[i]=ck s i:=by have:=eH h;rw[L4 a]at this;exact Nt this
   rw[Md a,Nh,e];rw[decide_eq_true h,OC]at c;rw[show dK (ck s i)=false from c];rfl
  rw[Mg (by rw[<-bN];omega)];rfl
 rw[f]at b;have:=congrArg List.length b;rw[MS]at this;unfold tO at d⊢;simp only[Mo]at this;omega
theorem LH{a b:Nat}(h:a=b):aM a=aM b:=by rw[h]
theorem Av{s t:ByteArray}(j:1<t.size)(d:(ck t 0).toNat=48)(g:t.size<=s.size)(f:eB t.data.toList=eB s.data.toList)(c:t.data.toList.all dK=true):1<=(t.extract 1 t.size).size/\(t.extract 1 t.size).size<=s.size/\eB (t.extract 1 t.size).data.toList=eB s.data.toList/\(t.extract 1 t.size).data.toList.all dK=true:=by
 have e:(t.extract 1 t.size).data.toList=t.data.toList.tail:=by
  rw[kM,bN,M9,List.drop_one]
 have k:(t.extract 1 t.size).size=t.size-1:=by simp[]
 have b:t.data.toList=ck t 0::t.data.toList.tail:=by
  have:=eH (s:=t) (i:=0) (by omega);cases h:t.data.toList with
  |nil=>rw[h]at this;cases this
  |cons a l=>rw[h]at this;simp at this;rw[List.tail_cons,<-this]
 refine⟨by omega,by omega,?_,?_⟩
 ·rw[e,<-f];conv=>rhs;rw[b]
  unfold eB;rw[NH,d]
 rw[e];rw[b,NP,Ma]at c;exact c.2
theorem FJ(s:ByteArray)(m:s.size<=1048576):Ct 147 [sT s] (nI (tO s.data.toList)):=by
 refine Ct.of (n:=23) Tryz.func147 Z Z Z Z Z fun w0 G0=>?_
 refine ab<|aj 1 Z<|ab<|aj 1 Z<|ab<|aE<|aW (fun j k=>∃(i:Nat),(i<=s.size/\(s.data.toList.drop i).takeWhile dK=(s.data.toList.takeWhile dK).drop i/\i<=tO s.data.toList)/\j=s.size-i/\k=⟨23,[(0,sT s),(3,nI i)],[],[]⟩) 0 0 ⟨0,⟨by omega,Z,by omega⟩,Z,Z⟩ ⟨Z,Z,Z,.cons Z Z (.cons Z Z .nil),Z⟩ ?_;rintro j k ⟨i,⟨l,d,h⟩,rfl,rfl⟩;refine ab<|ab<|ae<|aa 2 Z<|af (t:=nI s.size) Z Z Z (eK Z a8 Z)<|af (t:=bT (decide (i<s.size))) Z Z Z (ah (ai Z Z Z Zy) (av (iu i s.size)))<|aa 1 Z<|aA (t:=sT s) ((decide (i<s.size))=true) Z Z Z au Z Z (fun a=>aw Z Z)<|aA (t:=nI i) ((decide (i<s.size))=true) Z Z Z au Z Z (fun a=>aw Z Z)<|aA (t:=.sc (.int .u8 (((ck s i).toNat:Nat):Int))) ((decide (i<s.size))=true) Z Z Z au Z Z (fun a=>dE Z a8 (if_pos a) (if_pos a) Z (eH (of_decide_eq_true a)))<|aA (t:=bT (decide (48<=(ck s i).toNat))) ((decide (i<s.size))=true) Z Z Z au Z Z (fun a=>ah (ai Z Z (if_pos a) (fun _=>rfl)) (av (DT 48 ((ck s i).toNat))))<|af (t:=bT ((decide (i<s.size))&&(decide (48<=(ck s i).toNat)))) Z Z Z (aL Z Z (fun c=>(if_pos c).trans (av (by rw[c];rfl))) (fun c=>(av (by rw[c];rfl))))<|aa 1 Z<|aA (t:=sT s) (((decide (i<s.size))&&(decide (48<=(ck s i).toNat)))=true) Z Z Z au Z Z (fun a=>aw Z Z)<|aA (t:=nI i) (((decide (i<s.size))&&(decide (48<=(ck s i).toNat)))=true) Z Z Z au Z Z (fun a=>aw Z Z)<|aA (t:=.sc (.int .u8 (((ck s i).toNat:Nat):Int))) (((decide (i<s.size))&&(decide (48<=(ck s i).toNat)))=true) Z Z Z au Z Z (fun a=>dE Z a8 (if_pos a) (if_pos a) Z (eH (of_decide_eq_true (Bool.and_eq_true_iff.1 a).1)))<|aA (t:=bT (decide ((ck s i).toNat<=57))) (((decide (i<s.size))&&(decide (48<=(ck s i).toNat)))=true) Z Z Z au Z Z (fun a=>ah (ai Z (if_pos a) Z (fun _=>rfl)) (av (DT ((ck s i).toNat) 57)))<|af (t:=bT (((decide (i<s.size))&&(decide (48<=(ck s i).toNat)))&&(decide ((ck s i).toNat<=57)))) Z Z Z (aL Z Z (fun c=>(if_pos c).trans (av (by rw[c];rfl))) (fun c=>(av (by rw[c];rfl))))<|ag<|aH Z (fun b=>?_) (fun b=>?_)
 ·rw[Ma,Ma]at b;have g:=of_decide_eq_true b.1.1;have e:=FI d g (by unfold dK;rw[b.1.2,b.2];rfl);refine ax<|aE<|ae<|aa 1 Z<|af (t:=nI (i+1)) Z Z Z (ah (ai Z Z Z Zy) (bu (by omega)))<|aa 1 Z<|ag<|⟨_,_,?_,⟨i+1,?_,Z,Z⟩,⟨Z,Z,Z,.cons Z Z (.cons Z Z .nil),Z⟩⟩
  ·omega
  exact⟨by omega,e.1,e.2⟩
 have f:=Hz d h b;refine aZ<|ab<|aj 2 Z<|aC<|⟨.inr Z,_,.cons Z .nil,ep (by rw[<-f]),Z⟩
theorem mV(s:ByteArray)(r:1<=s.size)(u:s.size<=4000)(p:s.data.toList.all dK=true):Ct 148 [sT s] (aM (eB s.data.toList)):=by
 refine Ct.of (n:=21) Tryz.func148 Z Z Z Z Z fun w0 G0=>?_
 refine ab<|ae<|af (t:=.sl []) Z Z Z (cW (.inr Z) dI)<|ag<|ab<|aE<|aW (fun m o=>∃(t:ByteArray),(1<=t.size/\t.size<=s.size/\eB t.data.toList=eB s.data.toList/\t.data.toList.all dK=true)/\m=t.size/\o=⟨21,[(0,sT t)],[],[]⟩) 0 0 ⟨s,⟨by omega,L5 _,Z,p⟩,Z,Z⟩ ⟨Z,Z,Z,.cons Z Z .nil,Z⟩ ?_;rintro m o ⟨t,⟨q,k,c,b⟩,rfl,rfl⟩;refine ab<|ab<|ae<|aa 1 Z<|af (t:=nI t.size) Z Z Z (eK Z a8 Z)<|af (t:=bT (decide (1<t.size))) Z Z Z (ah (ai Z Z Z Zy) (av (tE t.size 1)))<|aa 1 Z<|aA (t:=sT t) ((decide (1<t.size))=true) Z Z Z au Z Z (fun d=>aw Z Z)<|aA (t:=.sc (.int .u8 (((ck t 0).toNat:Nat):Int))) ((decide (1<t.size))=true) Z Z Z au Z Z (fun d=>dE (j:=0) Z a8 (if_pos d) Z Z (eH (by have:=of_decide_eq_true d;omega)))<|aA (t:=bT (decide ((ck t 0).toNat=48))) ((decide (1<t.size))=true) Z Z Z au Z Z (fun d=>ah (ai Z (if_pos d) Z (fun _=>rfl)) (av (lY ((ck t 0).toNat) 48)))<|af (t:=bT ((decide (1<t.size))&&(decide ((ck t 0).toNat=48)))) Z Z Z (aL Z Z (fun f=>(if_pos f).trans (av (by rw[f];rfl))) (fun f=>(av (by rw[f];rfl))))<|ag<|aH Z (fun a=>?_) (fun a=>?_)
 ·rw[Ma]at a;have g:=of_decide_eq_true a.1;have i:=of_decide_eq_true a.2;refine ax<|aE<|ae<|aa 1 Z<|af (t:=sT (t.extract 1 t.size)) Z Z Z (fa (l:=1) (h:=t.size) Z a8 Z ⟨_,Z⟩ Z (by omega) (by omega))<|aa 1 Z<|ag<|⟨_,_,?_,⟨t.extract 1 t.size,?_,Z,Z⟩,⟨Z,Z,Z,.cons Z Z .nil,Z⟩⟩
  ·simp only[MO];omega
  exact Av g i k c b
 have e:¬(1<t.size/\(ck t 0).toNat=48):=fun h=>by rw[decide_eq_true h.1,decide_eq_true h.2]at a;cases a
 refine aZ<|ab<|ae<|aa 1 Z<|af Z Z Z (ar Z (Ds t (by omega) (by omega) b e) Z Z)<|aa 5 Z<|ag<|ab<|aj 2 Z<|aC<|⟨.inr Z,_,.cons Z .nil,LH c,Z⟩
theorem pS{α:Type}{l:List α}{i:Nat}{t:α}(h:l[i]? =some t):l.take (i+1)=l.take i++[t]:=by
 obtain⟨a,rfl⟩:=L7.1 h;exact Mq a
theorem qr(r:Rel)(m:r.tups.length<=65536)(c:∀t∈r.tups,Ct 48 [dp t.prob] (dp t.prob)):Ct 17 [r.tree] (r.tree):=by
 refine Ct.of (n:=35) Tryz.func17 Z Z Z Z Z fun w0 G0=>?_
 refine ab<|aj 2 Z<|ab<|ae<|aa 2 Z<|af (t:=.agg [sT r.sch.name,bT r.sch.cert,.sl (r.sch.cols.map Col.tree),.sc (.slice none 0 0)]) Z Z Z (pr Z ik Z Z Z)<|aa 2 Z<|ag<|ab<|ab<|mD 2 3 67 4 (bs':=[(30,(aT r)),(30,dS),(30,[sT r.sch.name,bT r.sch.cert,.sl (r.sch.cols.map Col.tree),.own 0])]) (rs':=[some ⟨67,4,[],false⟩]) Z Z Z Z<|aj 1 Z<|aE<|aW (fun d h=>∃(i:Nat),(i<=r.tups.length)/\d=r.tups.length-i/\h=⟨35,[(1,.box 0 0),(2,.box 1 0),(3,.box 2 0),(4,nI i)],[(30,(aT r)),(30,dS),(30,[sT r.sch.name,bT r.sch.cert,.sl (r.sch.cols.map Col.tree),.own 0])],[some ⟨67,4,(r.tups.take i).map Tp.tree,false⟩]⟩) 3 1 ⟨0,Mx _,Z,Z⟩ ⟨Z,Z,Z,.cons Z Z (.cons Z Z (.cons Z Z (.cons Z Z .nil))),Z⟩ ?_;rintro d h ⟨i,j,rfl,rfl⟩;refine ab<|ab<|ae<|aa 3 Z<|af (t:=nI r.tups.length) Z Z Z (ah (bd Z aK Z) (by simp only[L8]))<|af (t:=bT (decide (i<r.tups.length))) Z Z Z (ah (ai Z Z Z Zy) (av (iu i r.tups.length)))<|ag<|aF Z (fun b=>?_) (fun b=>?_)
 ·obtain⟨t,a⟩:∃t,r.tups[i]? =some t:=⟨_,L4 b⟩;refine ax<|ab<|aE<|iw (sl':=[(1,.box 0 0),(2,.box 1 0),(3,.box 2 0),(4,nI i),(12,bT (decide (i<r.tups.length)))]) ⟨Z,⟨Z,⟨Z,⟨Z,⟨Z,trivial⟩⟩⟩⟩⟩<|fz (fu:=7) [some 15,some 16,some 17,some 18,some 19,some 20,some 21,some 22,some 23,some 24,some 25,some 26,some 27,some 28,some 29,some 30,some 31,some 32,some 33,none] [17,19] [.box 2 3,.own 0,.box 0 3,.sl (r.tups.map Tp.tree),nI i,.ref (bS t),.ref (bS t),.sl (t.vals.map V.tree),.box 0 3,.sl (r.tups.map Tp.tree),nI i,.ref (bS t),.ref (aU t.prob),.agg (aU t.prob),.agg (aU t.prob),.agg (bS t),.sl [.agg (bS t)],.own 0,.box 2 3,.any] [⟨[17],[(1,.box 0 0),(2,.box 1 0),(3,.box 2 0),(4,nI i),(12,bT (decide (i<r.tups.length)))],[(30,(aT r)),(30,dS),(30,[sT r.sch.name,bT r.sch.cert,.sl (r.sch.cols.map Col.tree),.any])],[some ⟨67,4,(r.tups.take (i+1)).map Tp.tree,false⟩],[.box 2 3,.any,.box 0 3,.sl (r.tups.map Tp.tree),nI i,.ref (bS t),.ref (bS t),.sl (t.vals.map V.tree),.box 0 3,.sl (r.tups.map Tp.tree),nI i,.ref (bS t),.ref (aU t.prob),.agg (aU t.prob),.agg (aU t.prob),.agg (bS t),.sl [.agg (bS t)],.own 0,.box 2 3,.any]⟩] ⟨[19,17],[(1,.box 0 0),(2,.box 1 0),(3,.box 2 0),(4,nI i),(12,bT (decide (i<r.tups.length)))],[(30,(aT r)),(30,dS),(30,[sT r.sch.name,bT r.sch.cert,.sl (r.sch.cols.map Col.tree),.own 0])],[some ⟨67,4,(r.tups.take (i+1)).map Tp.tree,false⟩],[.box 2 3,.any,.box 0 3,.sl (r.tups.map Tp.tree),nI i,.ref (bS t),.ref (bS t),.sl (t.vals.map V.tree),.box 0 3,.sl (r.tups.map Tp.tree),nI i,.ref (bS t),.ref (aU t.prob),.agg (aU t.prob),.agg (aU t.prob),.agg (bS t),.sl [.agg (bS t)],.own 0,.box 2 3,.any]⟩ (by kernel_rfl) Z (by kernel_rfl) (by kernel_rfl) (by kernel_rfl) Z Z ?_ ?_
  ·refine .op [] (by kernel_rfl) ?_ ?_
   ·refine .ok (t:=.box 2 3) (by kernel_rfl) Z Z (az Z Z aV Z)<|.no (by kernel_rfl)<|.no (by kernel_rfl)<|.nil
   refine .op [0] (by kernel_rfl) ?_ ?_
   ·refine .ok (t:=.own 0) (by kernel_rfl) Z Z (aD Z Z Z bp Z)<|.no (by kernel_rfl)<|.no (by kernel_rfl)<|.nil
   refine .op [] (by kernel_rfl) ?_ ?_
   ·refine .ok (t:=.box 0 3) (by kernel_rfl) Z Z (az Z Z aV Z)<|.no (by kernel_rfl)<|.no (by kernel_rfl)<|.nil
   refine .op [2] (by kernel_rfl) ?_ ?_
   ·refine .ok (t:=.sl (r.tups.map Tp.tree)) (by kernel_rfl) Z Z (aD Z Z Z bp Z)<|.no (by kernel_rfl)<|.no (by kernel_rfl)<|.nil
   refine .op [] (by kernel_rfl) ?_ ?_
   ·refine .ok (t:=nI i) (by kernel_rfl) Z Z (aw Z Z)<|.no (by kernel_rfl)<|.no (by kernel_rfl)<|.nil
   refine .op [3,4] (by kernel_rfl) ?_ ?_
   ·refine .ok (t:=.ref (bS t)) (by kernel_rfl) Z Z (aQ (Tp.tree t) Z aK Z Z Z (bf (f:=Tp.tree) a) (bQ _) Z)<|.no (by kernel_rfl)<|.no (by kernel_rfl)<|.nil
   refine .op [5] (by kernel_rfl) ?_ ?_
   ·refine .ok (t:=.ref (bS t)) (by kernel_rfl) Z Z (bw Z Z b6 Z)<|.no (by kernel_rfl)<|.no (by kernel_rfl)<|.nil
   refine .op [6] (by kernel_rfl) ?_ ?_
   ·refine .ok (t:=.sl (t.vals.map V.tree)) (by kernel_rfl) Z Z (bE Z Z cC Z)<|.no (by kernel_rfl)<|.no (by kernel_rfl)<|.nil
   refine .op [] (by kernel_rfl) ?_ ?_
   ·refine .ok (t:=.box 0 3) (by kernel_rfl) Z Z (az Z Z aV Z)<|.no (by kernel_rfl)<|.no (by kernel_rfl)<|.nil
   refine .op [8] (by kernel_rfl) ?_ ?_
   ·refine .ok (t:=.sl (r.tups.map Tp.tree)) (by kernel_rfl) Z Z (aD Z Z Z bp Z)<|.no (by kernel_rfl)<|.no (by kernel_rfl)<|.nil
   refine .op [] (by kernel_rfl) ?_ ?_
   ·refine .ok (t:=nI i) (by kernel_rfl) Z Z (aw Z Z)<|.no (by kernel_rfl)<|.no (by kernel_rfl)<|.nil
   refine .op [9,10] (by kernel_rfl) ?_ ?_
   ·refine .ok (t:=.ref (bS t)) (by kernel_rfl) Z Z (aQ (Tp.tree t) Z aK Z Z Z (bf (f:=Tp.tree) a) (bQ _) Z)<|.no (by kernel_rfl)<|.no (by kernel_rfl)<|.nil
   refine .op [11] (by kernel_rfl) ?_ ?_
   ·refine .ok (t:=.ref (aU t.prob)) (by kernel_rfl) Z Z (bw Z Z dY Z)<|.no (by kernel_rfl)<|.no (by kernel_rfl)<|.nil
   refine .op [12] (by kernel_rfl) ?_ ?_
   ·refine .ok (t:=.agg (aU t.prob)) (by kernel_rfl) Z Z (cU Z Z aN Z Z)<|.no (by kernel_rfl)<|.no (by kernel_rfl)<|.nil
   refine .op [13] (by kernel_rfl) ?_ ?_
   ·refine .ok (t:=.agg (aU t.prob)) (by kernel_rfl) Z Z (ar Z (c t (L9 a)) Z Z)<|.no (by kernel_rfl)<|.no (by kernel_rfl)<|.nil
   refine .op [7,14] (by kernel_rfl) ?_ ?_
   ·refine .ok (t:=.agg (bS t)) (by kernel_rfl) Z Z (fG Z gt Z Z Z)<|.no (by kernel_rfl)<|.no (by kernel_rfl)<|.nil
   refine .op [15] (by kernel_rfl) ?_ ?_
   ·refine .ok (t:=.sl [.agg (bS t)]) (by kernel_rfl) Z Z (a6 Z aK go Z (by decide) (by decide) Z Z Z Z Z)<|.no (by kernel_rfl)<|.no (by kernel_rfl)<|.nil
   refine .op [1,16] (by kernel_rfl) ?_ ?_
   ·refine .wr 1 (lI 0) (.own 0) (by kernel_rfl) rfl rfl (kj rfl rfl rfl ij rfl rfl rfl rfl (by intro e g;simp only[Mi,Nr,or_false]at g;subst g;rfl) (AllC.lit rfl) (AllC.lit rfl) (by simp only[L8,Mf,Mb,Mo];omega) rfl rfl (by rw[pS a,Nk];rfl)) rfl rfl rfl rfl (.k rfl (.k rfl (.k rfl (.k rfl (.k rfl (.k rfl (.k rfl (.k rfl (.k rfl (.k rfl (.k rfl (.k rfl (.k rfl (.k rfl (.k rfl (.k rfl (.k rfl (.i rfl (.k rfl (.k rfl .nil))))))))))))))))))))<|.no (by kernel_rfl)<|.no (by kernel_rfl)<|.nil
   refine .op [] (by kernel_rfl) ?_ ?_
   ·refine .no (by kernel_rfl)<|.ok (t:=.box 2 3) (by kernel_rfl) Z Z (az Z Z aV Z)<|.no (by kernel_rfl)<|.nil
   refine .op [17,18] (by kernel_rfl) ?_ ?_
   ·refine .no (by kernel_rfl)<|.wr 2 id .any (by kernel_rfl) Z Z (gJ Z Z Z Z Z Z Z Z nJ Z Z Z) Z Z Z Z (.k Z (.k Z (.k Z (.k Z (.k Z (.k Z (.k Z (.k Z (.k Z (.k Z (.k Z (.k Z (.k Z (.k Z (.k Z (.k Z (.k Z (.k Z (.k Z (.i Z .nil))))))))))))))))))))<|.no (by kernel_rfl)<|.nil
   exact .nil
  refine ae<|aa 1 Z<|af (t:=nI (i+1)) Z Z Z (ah (ai Z Z Z Zy) (bu (by omega)))<|aa 1 Z<|ag<|⟨_,_,?_,⟨i+1,?_,Z,Z⟩,⟨Z,Z,Z,.cons Z Z (.cons Z Z (.cons Z Z (.cons Z Z .nil))),Z⟩⟩
  ·omega
  omega
 refine fD 0 (bs':=[(30,(aT r)),(30,dS),(30,[sT r.sch.name,bT r.sch.cert,.sl (r.sch.cols.map Col.tree),.sl ((r.tups.take i).map Tp.tree)])]) (rs':=[none]) Z Z Z Z<|aZ<|ab<|aj 2 Z<|aC<|⟨.inr Z,_,.cons ⟨_,_,_,_,Z,Z,.inl ⟨_,bq,Z,Z⟩⟩ .nil,congrArg (fun x:List Tp=>Tree.agg [sT r.sch.name,bT r.sch.cert,.sl (r.sch.cols.map Col.tree),.sl (x.map Tp.tree)]) (Me (l:=r.tups) (i:=i) (by omega)),Z⟩
theorem HH(M N:Nat)(n:(ay M).length<=1048576)(m:(ay N).length<=1048576):Ct 214 [aM M,aM N] (aM (M+N)):=dW ⟨_,Tryz.func214,Z,Z⟩ (fun _ _ _ i h=>ia i h) fun G w vs _ _ g=>by
 obtain⟨u,v,rfl,j,l⟩:=eL g;obtain⟨A,c,rfl,a⟩:=dX j;obtain⟨B,d,rfl,k⟩:=dX l;have:=zn A B c d (ay M) (ay N) w a k (by omega) (by omega);rw[aI,aI]at this;refine this.mono ?_;rintro e w' ⟨v,rfl,f,b⟩;exact⟨v,Z,f.isD,b⟩
theorem we(M N:Nat)(l:(ay M).length<=1048576)(j:(ay N).length<=1048576):Ct 158 [aM M,aM N] (aM (M*N)):=dW ⟨_,Tryz.func158,Z,Z⟩ (fun _ _ _ i h=>ia i h) fun G w vs _ _ g=>by
 obtain⟨u,v,rfl,k,n⟩:=eL g;obtain⟨A,c,rfl,a⟩:=dX k;obtain⟨B,d,rfl,m⟩:=dX n;have:=zx A B c d (ay M) (ay N) w a m l j;rw[aI,aI]at this;refine this.mono ?_;rintro e w' ⟨v,rfl,f,b⟩;exact⟨v,Z,f.isD,b⟩
end Go.Proofs.YtfoejfohbkmmeaaGreatDoor
