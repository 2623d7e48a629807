import Derived.Test.YtfoejfohbkmmeaaGreatDoorK08
set_option linter.defProp false
open Go.Proofs.Tryz
namespace Go.Proofs.YtfoejfohbkmmeaaGreatDoor
open Go.RowKit
def VL(p:List (Nat×Tree))(ts:List Tree):List Tree:=p.foldl (λl q=>l.set q.1 q.2) ts
def VM(sl:List (Nat×Tree))(ts:List Tree)(c:List Nat×List (TypeId×List Tree)×List (Option Row)×List (Nat×Tree)):Cfg:=⟨c.1,sl,c.2.1,c.2.2.1,VL c.2.2.2 ts⟩
def Vr{w0:World}{G0:Bse}{Q:Exit->St->Prop}{id fu n:Nat}{ops:List Oper}{sl sl':List (Nat×Tree)}{bs:List (TypeId×List Tree)}{rs:List (Option Row)}(a:List (Option Nat))(d:List Nat)(ts:List Tree)(l:List (List Nat×List (TypeId×List Tree)×List (Option Row)×List (Nat×Tree)))(oN:List Nat)(bN:List (TypeId×List Tree))(rN:List (Option Row))(pN:List (Nat×Tree))(f:fY ops.toArray=true)(m:ops.map (·.dst)=a)(g:cD n a=true)(i:(d.all λj=>Nat.blt j ops.length)=true)(e:((⟨[],sl,bs,rs,ts⟩::l.map (VM sl ts)).all λc=> !(d.all λj=>c.on.contains j))=true)(b:a.length=(VL pN ts).length)(h:j3 sl a (VL pN ts)=sl')
  (o:StepsW G0.pn ops.toArray fu n a d ((⟨[],sl,bs,rs,ts⟩::l.map (VM sl ts))++[⟨oN,sl,bN,rN,VL pN ts⟩]) 0 ops) (k:Q .normal ⟨n,sl',bN,rN⟩):AWP w0 G0 (.region id ops.toArray true) Q ⟨n,sl,bs,rs⟩:=Ph a d ts _ ⟨oN,sl,bN,rN,VL pN ts⟩ f m g i e b h o k
