/- A part of the proof: abstract states and the rules for them. -/
import Derived.Test.YtdkeelhebopgkaaGreatDoorCoreB
import Derived.Attr
import Derived.Laws.StructEq
import Derived.ChangeKeysEq
import Derived.Below
import Derived.Laws.AppendOwn
import Derived.Lib.Join
import Derived.Lib.SplitLaws
import Derived.Lib.IndexAny
import Derived.Lib.IndexMore
import Derived.Deep.Draws
import Derived.RecoverIn
import Derived.Lib.Atoi
import Derived.Lib.AtoiErrMem
set_option linter.all false
open Option renaming bind_eq_some_iff → dM,map_eq_some_iff → dV,or_eq_some_iff → eK,map → eP
open Option.some renaming injEq → dN
open List renaming replicate → dO,getElem?_eq_getElem → dR,range → dU,getElem?_eq_some_iff → dW,take_left' → dX,drop_left' → dY,getElem?_set_self → eb,length_cons → eg,map_congr_left → ek,isEmpty_nil → ep,getElem?_of_mem → eu,mem_of_getElem? → ez,eq_nil_of_length_eq_zero → eA,mem_cons → eB,getElem?_cons_zero → eD,getElem?_cons_succ → eE,length_set → eF,nil_append → eG,take_zero → eI,take_append_drop → eJ,mem_map → eL,map_map → eM,range' → eO
open Prod.mk renaming injEq → dQ
open Bool renaming and_eq_true → dZ
open Nat renaming le_refl → ec,zero_le → eo,le_trans → eN
open Array renaming replicate → ed,toList_append → ew,toList_replicate → eH
open List.cons renaming injEq → ey
noncomputable section
namespace Go.Abs
variable {α α1:Type}{v x z:AV}{ops:Array Oper}{b:Bool}{y:Code}{E:Env}{u:FrameMode}{f:FuncId}{ds:List (FuncId×List AV)}{js:List (Int×Code)}{rows uY:List (List AV)}{args cs s ys:List AV}{b1 base p ρ:List Nat}{rs:List ResultVar}{tr:List Tr}{H H' Ys Ys':List kq}{a c d g i j k l l0 low n:Nat}{τ:Nat->Nat}{φ:Nat->Value}{β β' β1:Type}{o:Oper}{dst:Option Tmp}{P:Program}{R α' γ δ:Type}{h:Value}{T:Value->World->Array Value->(Ending->World->Prop)->Prop}{w:World}{σ σ':jZ}{M:kU R}{C:pX}{V:sO->List kq->Prop}{lk lk':wy}{F:β->α->Option (β'×α')}
section lists

def ql(f:β->Option α):List β->Option (List α)
 |[]=>some []
 |x::xs=>(f x).bind fun y=>(ql f xs).bind fun ys=>some (y::ys)
def asi(f:β->Option α):ql f []=some []:=rfl
def aqi(f:β->Option α)(x:β)(xs:List β):ql f (x::xs)=(f x).bind fun y=>(ql f xs).bind fun ys=>some (y::ys):=rfl
def ach(f:β->Option α): ∀a b:List β,ql f (a++b)=(ql f a).bind fun x=>(ql f b).bind fun y=>some (x++y)
 |[],b=>by simp_all [ql]
 |x::a,b=>by
  simp only[List.cons_append,ql,ach f a b];cases f x<;>simp;cases ql f a<;>simp;cases ql f b<;>simp
def ael{f:β->Option α}{g:α->β}(h: ∀x,f (g x)=some x): ∀xs:List α,ql f (xs.map g)=some xs
 |[]=>rfl
 |x::xs=>by simp [ql,h x,ael h xs]
def mp(f:α->β)(xs:List α):List β:=xs.map f
theorem rH(f:α->β)(xs:List α):mp f xs=xs.map f:=rfl
attribute [irreducible] mp
theorem LA(f:α->β)(xs:List α):(mp f xs).length=xs.length:=by rw[rH,List.length_map]
def avs(f:α->β)(xs:List α)(n:Nat):(mp f xs).take n=mp f (xs.take n):=by rw[rH,rH,List.map_take]
def avt(f:α->β)(xs:List α)(n:Nat):(mp f xs).drop n=mp f (xs.drop n):=by rw[rH,rH,List.map_drop]
def anl(f:α->β)(xs:List α):(mp f xs).isEmpty=xs.isEmpty:=by rw[rH];cases xs<;>rfl
def Fe{f:β->Option α}{g:α->β}(h: ∀x,f (g x)=some x)(xs:List α):ql f (mp g xs)=some xs:=by rw[rH];exact ael h xs
def aqj{f:α->β}{g:β->Option γ}{o:Option α}:(eP f o).bind g=o.bind fun x=>g (f x):=by cases o<;>rfl
def anm{f:α->Option β}{g:β->Option γ}{o:Option α}:(o.bind f).bind g=o.bind fun x=>(f x).bind g:=by cases o<;>rfl
def aqk{f:α->Option β}{x y:Option α}:(bif b then x else y).bind f=bif b then x.bind f else y.bind f:=by cases b<;>rfl
def ann{f:α->Option β}:(none:Option α).bind f=none:=rfl
def wo{f:α->Option β}{x:α}:(some x).bind f=f x:=rfl
def wq(xs:List α)(n:Int):Option α:=if 0<=n then xs[n.toNat]? else none
def avu{f:α->β}{xs:List α}{n:Int}:wq (mp f xs) n=eP f (wq xs n):=by
 rw[rH];unfold wq;split<;>simp
def aql{x:α}{xs:List α}:wq (x::xs) 0=some x:=rfl
def asj{x y:α}{xs:List α}:wq (x::y::xs) 1=some y:=rfl
def asl{x y z:α}{xs:List α}:wq (x::y::z::xs) 2=some z:=rfl
end lists
def Ca:List AV->List AV->Prop
 |[],ys=>ys=[]
 |x::xs,ys=> ∃y zs,ys=y::zs/\Sub x y/\Ca xs zs
theorem Ca.nil:Ca [] []:=rfl
theorem Ca.cons{x y:AV}{xs ys:List AV}(h:Sub x y)(hs:Ca xs ys):Ca (x::xs) (y::ys):=⟨y,ys,rfl,h,hs⟩
def Ca.ayy: ∀{xs ys:List AV},Ca xs ys->qv xs ys
 |[],_,rfl=>qv.nil
 |_::_,_,⟨_,_,rfl,h,hs⟩=>qv.cons h (Ca.ayy hs)
def Ca.avv: ∀{xs ys:List AV},Ca xs ys->abc xs ys
 |[],_,rfl=>abc.nil
 |_::_,_,⟨_,_,rfl,h,hs⟩=>abc.cons h (Ca.avv hs)
theorem Ca.length: ∀{xs ys:List AV},Ca xs ys->xs.length=ys.length
 |[],_,rfl=>rfl
 |_::_,_,⟨_,_,rfl,_,hs⟩=>by simp [Ca.length hs]
theorem pE.nil:pE H n [] []:=rfl
theorem pE.cons{H:List kq}{n:Nat}{x y:AV}{xs ys:List AV}(h:Co1 H n x y)(hs:pE H n xs ys):pE H n (x::xs) (y::ys):=⟨y,ys,rfl,h,hs⟩
theorem pE.append: ∀{xs ys us vs:List AV},pE H n xs ys->pE H n us vs->pE H n (xs++us) (ys++vs)
 |[],_,_,_,rfl,h=>h
 |_::_,_,_,_,⟨y,zs,rfl,h,hs⟩,h2=>⟨y,zs++_,rfl,h,pE.append hs h2⟩
def Co1.pN {y:AV}(h:Co1 [] n x y):Sub x y:=by
 rcases h with h|⟨l,m,sz,rows,_,hl,_⟩
 ·exact h.1
 ·simp at hl
def pE.pN: ∀{xs ys:List AV},pE [] n xs ys->Ca xs ys
 |[],_,rfl=>rfl
 |_::_,_,⟨y,zs,rfl,h,hs⟩=>⟨y,zs,rfl,h.pN,pE.pN hs⟩
def Co.pN {y:AV}(h:Co [] n x y):Sub x y:=by
 rcases h with h|⟨cs,ds,rfl,rfl,h⟩
 ·exact h.pN
 ·exact Sub.agg h.pN.ayy
def pE.asn: ∀{xs ys:List AV},pE H n xs ys->B9 H n xs ys
 |[],_,rfl=>rfl
 |_::_,_,⟨y,zs,rfl,h,hs⟩=>⟨y,zs,rfl,.inl h,pE.asn hs⟩
structure Row(α:Type) where
 enc:α->List AV
 dec:List AV->Option α
 sz:Nat
 ok: ∀r x,dec r=some x->Ca r (enc x)
 nb: ∀n x,vK n (enc x)
variable {r:Row α}
structure Ty(α:Type) where
 enc:α->AV
 dec:List kq->AV->Option α
 ok: ∀H n v x,dec H v=some x->Co H n v (enc x)
 nb: ∀n x,(enc x).nb n
section rows

def GK(sz k:Nat)(rows:List (List AV)):Bool:=sz==k||rows.isEmpty
def dL(r:Row α)(H:List kq):AV->Option (List α)
 | .mb _ sz rows=>bif GK sz r.sz rows then ql r.dec rows else none
 | .acc l n=>match H[l]? with
   |some (.acc true sz rows)=>bif (rows.length==n)&&GK sz r.sz rows then ql r.dec rows else none
   |_=>none
 |_=>none
def IW{r:Row α}: ∀{rows:List (List AV)}{xs:List α},ql r.dec rows=some xs->Q4 rows (mp r.enc xs)/\Fb rows (mp r.enc xs)
 |[],xs,h=>by
  simp only[ql,dN] at h;subst h;rw[rH];exact⟨Q4.nil,rfl⟩
 |c::rows,xs,h=>by
  simp only[ql,dM,dN] at h;obtain⟨y,hy,ys,hys,rfl⟩:=h;obtain⟨h1,h2⟩:=IW hys;have h3:=r.ok _ _ hy;rw[rH] at h1 h2 ⊢;exact⟨Q4.cons h3.avv h1,_,_,rfl,⟨h3.length,h3.ayy⟩,h2⟩
theorem xy{r:Row α}{n:Nat}: ∀xs:List α,MU n (mp r.enc xs)
 |[]=>by rw[rH];trivial
 |x::xs=>by have:=xy (r:=r) (n:=n) xs;rw[rH] at this ⊢;exact⟨r.nb n x,this⟩
def Rc{t:Bool}{sz:Nat}(h:GK sz k rows=true)(hs:Q4 rows uY):Sub (.mb t sz rows) (.mb false k uY):=by
 unfold GK at h;simp only[Bool.or_eq_true,jS,List.isEmpty_iff] at h;rcases h with rfl|rfl
 ·exact Sub.mb hs
 ·have:uY=[]:=eA hs.1.symm;subst this;exact Sub.empty _ _ _
theorem Pz{r:Row α}{xs:List α}(h:dL r H v=some xs):Co1 H n v (.mb false r.sz (mp r.enc xs)):=by
 unfold dL at h;split at h
 ·rename_i t sz rows;cases hs:GK sz r.sz rows with
  |false=>simp [hs] at h
  |true=>
   simp only[hs,jM] at h;exact .inl ⟨Rc hs (IW h).1,xy xs⟩
 ·rename_i l m;split at h
  ·rename_i sz rows hl;cases hs:GK sz r.sz rows with
   |false=>simp [hs] at h
   |true=>
    cases hm:(rows.length==m) with
    |false=>simp [hm] at h
    |true=>
     simp only[hs,hm,Bool.and_self,jM] at h;exact .inr ⟨l,m,sz,rows,rfl,hl,by simpa using hm,Rc hs (IW h).1,xy xs⟩
  ·cases h
 ·cases h
def nP(r:Row α):Ty (List α) where
 enc xs:= .mb false r.sz (mp r.enc xs)
 dec:=dL r
 ok _ _ _ _ h:= .inl (Pz h)
 nb _ xs:=xy xs
def avw{r:Row α}{xs:List α}:(nP r).enc xs= .mb false r.sz (mp r.enc xs):=rfl
def avx{r:Row α}:(nP r).dec H v=dL r H v:=rfl
end rows
def sb(s:List UInt8):ByteArray:=⟨s.toArray⟩
abbrev Str:=List UInt8
variable {xs:List (Str×Bool)}
def dI(k:IntKind):AV->Option Int
 | .int k' n=>if k'=k then some n else none
 |_=>none
def dB:AV->Option Bool
 | .bool b=>some b
 |_=>none
def dS:AV->Option Str
 | .str b=>some b.data.toList
 |_=>none
theorem DY{k:IntKind}{x:Int}(h:dI k v=some x):Co1 H n v (.int k x):=by
 unfold dI at h;split at h
 ·split at h
  ·cases h;rename_i e;subst e;exact Co1.sub (Sub.refl _) trivial
  ·cases h
 ·cases h
theorem aoZ{x:Bool}(h:dB v=some x):Co1 H n v (.bool x):=by
 unfold dB at h;split at h
 ·cases h;exact Co1.sub (Sub.refl _) trivial
 ·cases h
theorem aic(b:ByteArray):sb b.data.toList=b:=by
 cases b;rfl
theorem Z7{x:Str}(h:dS v=some x):Co1 H n v (.str (sb x)):=by
 unfold dS at h;split at h
 ·cases h;rw[aic];exact Co1.sub (Sub.refl _) trivial
 ·cases h
def Ve(s:Str):dS (.str (sb s))=some s:=rfl
def LR(k:IntKind)(n:Int):dI k (.int k n)=some n:=by simp [dI]
def GL(b:Bool):dB (.bool b)=some b:=rfl
def aso:dS (.str ByteArray.empty)=some []:=rfl
def aqm:dS (.str ⟨#[]⟩)=some []:=rfl
def nq(k:IntKind):Ty Int:=⟨.int k,fun _=>dI k,fun _ _ _ _ h=> .inl (DY h),fun _ _=>trivial⟩
def mX:Ty Bool:=⟨.bool,fun _=>dB,fun _ _ _ _ h=> .inl (aoZ h),fun _ _=>trivial⟩
def mI:Ty Str:=⟨fun s=> .str (sb s),fun _=>dS,fun _ _ _ _ h=> .inl (Z7 h),fun _ _=>trivial⟩
def avy{k:IntKind}{x:Int}:(nq k).enc x= .int k x:=rfl
def avz{k:IntKind}:(nq k).dec H v=dI k v:=rfl
def avA{x:Bool}:mX.enc x= .bool x:=rfl
def avB:mX.dec H v=dB v:=rfl
def avC{x:Str}:mI.enc x= .str (sb x):=rfl
def avD:mI.dec H v=dS v:=rfl
def dF(f:FuncId):AV->Option Unit
 | .func (.func g) [] []=>if g=f then some () else none
 |_=>none
def ayz(f:FuncId):dF f (.func (.func f) [] [])=some ():=by simp [dF]
def tyF(f:FuncId):Ty Unit where
 enc _:= .func (.func f) [] []
 dec _:=dF f
 ok H n v x h:=by
  unfold dF at h;split at h
  ·split at h
   ·rename_i e;subst e;exact Co.same ⟨trivial,trivial⟩
   ·cases h
  ·cases h
 nb _ _:=⟨trivial,trivial⟩
def avE{x:Unit}:(tyF f).enc x= .func (.func f) [] []:=rfl
def avF:(tyF f).dec H v=dF f v:=rfl
def Vf(n:Int):List AV:=[.int .i64 n]
def nB(s:Str):List AV:=[.str (sb s)]
def Z8(b:Bool):List AV:=[.bool b]
def aem(n:Int):List AV:=[.int .u8 n]
def dI1(k:IntKind):List AV->Option Int
 |[c]=>dI k c
 |_=>none
def dB1:List AV->Option Bool
 |[c]=>dB c
 |_=>none
def dS1:List AV->Option Str
 |[c]=>dS c
 |_=>none
def ayA:Row Int where
 enc:=Vf
 dec:=dI1 .i64
 sz:=1
 ok r x h:=by
  unfold dI1 at h;split at h
  ·exact Ca.cons (DY (H:=[]) (n:=0) h).pN Ca.nil
  ·cases h
 nb _ _:=⟨trivial,trivial⟩
def ayB:Row Int where
 enc:=aem
 dec:=dI1 .u8
 sz:=1
 ok r x h:=by
  unfold dI1 at h;split at h
  ·exact Ca.cons (DY (H:=[]) (n:=0) h).pN Ca.nil
  ·cases h
 nb _ _:=⟨trivial,trivial⟩
def ayC:Row Bool where
 enc:=Z8
 dec:=dB1
 sz:=1
 ok r x h:=by
  unfold dB1 at h;split at h
  ·exact Ca.cons (aoZ (H:=[]) (n:=0) h).pN Ca.nil
  ·cases h
 nb _ _:=⟨trivial,trivial⟩
def nO:Row Str where
 enc:=nB
 dec:=dS1
 sz:=1
 ok r x h:=by
  unfold dS1 at h;split at h
  ·exact Ca.cons (Z7 (H:=[]) (n:=0) h).pN Ca.nil
  ·cases h
 nb _ _:=⟨trivial,trivial⟩
def ayD:ayA.enc=Vf/\ayA.dec=dI1 .i64/\ayA.sz=1:=⟨rfl,rfl,rfl⟩
def ayE:ayB.enc=aem/\ayB.dec=dI1 .u8/\ayB.sz=1:=⟨rfl,rfl,rfl⟩
def ayF:ayC.enc=Z8/\ayC.dec=dB1/\ayC.sz=1:=⟨rfl,rfl,rfl⟩
def abo:nO.enc=nB/\nO.dec=dS1/\nO.sz=1:=⟨rfl,rfl,rfl⟩
def FP:(∀xs:List Int,ql (dI1 .i64) (mp Vf xs)=some xs)/\(∀xs:List Int,ql (dI1 .u8) (mp aem xs)=some xs)/\(∀xs:List Bool,ql dB1 (mp Z8 xs)=some xs)/\ ∀xs:List Str,ql dS1 (mp nB xs)=some xs:=
 ⟨Fe fun x=>by simp [dI1,Vf,dI],Fe fun x=>by simp [dI1,aem,dI],Fe fun x=>rfl,Fe fun x=>rfl⟩
structure UV(α:Type) where
 enc:α->List AV
 dec:List kq->List AV->Option α
 ok: ∀H n cs x,dec H cs=some x->pE H n cs (enc x)
 nb: ∀n x,vK n (enc x)
section kH

def dC(c:UV α)(H:List kq):AV->Option α
 | .agg cs=>c.dec H cs
 |_=>none
def lM(c:UV α):Ty α where
 enc x:= .agg (c.enc x)
 dec:=dC c
 ok H n v x h:=by
  unfold dC at h;split at h
  ·exact .inr ⟨_,_,rfl,rfl,c.ok H n _ _ h⟩
  ·cases h
 nb n x:=c.nb n x
def avG{c:UV α}{x:α}:(lM c).enc x= .agg (c.enc x):=rfl
def avH{c:UV α}:(lM c).dec H v=dC c H v:=rfl
end kH
def tyU:Ty Unit where
 enc _:= .FI []
 dec _
  | .FI []=>some ()
  |_=>none
 ok H n v x h:=by
  split at h
  ·exact Co.same trivial
  ·cases h
 nb _ _:=trivial
def avI{x:Unit}:tyU.enc x= .FI []:=rfl
def avJ:tyU.dec H (.FI [])=some ():=rfl
section ayG
variable {ε:Type}
def d2(a:Ty α)(b:Ty β):AV->Option (α×β)
 | .FI [x,y]=>(a.dec [] x).bind fun u=>(b.dec [] y).bind fun v=>some (u,v)
 |_=>none
def d3(a:Ty α)(b:Ty β)(c:Ty γ):AV->Option (α×β×γ)
 | .FI [x,y,z]=>(a.dec [] x).bind fun u=>(b.dec [] y).bind fun v=>(c.dec [] z).bind fun w=>some (u,v,w)
 |_=>none
def d4(a:Ty α)(b:Ty β)(c:Ty γ)(d:Ty δ):AV->Option (α×β×γ×δ)
 | .FI [x,y,z,p]=>(a.dec [] x).bind fun u=>(b.dec [] y).bind fun v=>(c.dec [] z).bind fun w=>(d.dec [] p).bind fun q=>some (u,v,w,q)
 |_=>none
def d5(a:Ty α)(b:Ty β)(c:Ty γ)(d:Ty δ)(e:Ty ε):AV->Option (α×β×γ×δ×ε)
 | .FI [x,y,z,p,s]=>(a.dec [] x).bind fun u=>(b.dec [] y).bind fun v=>(c.dec [] z).bind fun w=>(d.dec [] p).bind fun q=>(e.dec [] s).bind fun t=>some (u,v,w,q,t)
 |_=>none
def ty2(a:Ty α)(b:Ty β):Ty (α×β) where
 enc x:= .FI [a.enc x.1,b.enc x.2]
 dec _:=d2 a b
 ok H n v x h:=by
  unfold d2 at h;split at h
  ·simp only[dM,dN] at h;obtain⟨u,hu,w,hw,rfl⟩:=h;exact Co.sub (Sub.FI (qv.cons (a.ok [] 0 _ _ hu).pN (qv.cons (b.ok [] 0 _ _ hw).pN qv.nil))) ⟨a.nb n u,b.nb n w,trivial⟩
  ·cases h
 nb n x:=⟨a.nb n _,b.nb n _,trivial⟩
def ty3(a:Ty α)(b:Ty β)(c:Ty γ):Ty (α×β×γ) where
 enc x:= .FI [a.enc x.1,b.enc x.2.1,c.enc x.2.2]
 dec _:=d3 a b c
 ok H n v x h:=by
  unfold d3 at h;split at h
  ·simp only[dM,dN] at h;obtain⟨u,hu,w,hw,p,hp,rfl⟩:=h;exact Co.sub (Sub.FI (qv.cons (a.ok [] 0 _ _ hu).pN (qv.cons (b.ok [] 0 _ _ hw).pN (qv.cons (c.ok [] 0 _ _ hp).pN qv.nil)))) ⟨a.nb n u,b.nb n w,c.nb n p,trivial⟩
  ·cases h
 nb n x:=⟨a.nb n _,b.nb n _,c.nb n _,trivial⟩
def ty4(a:Ty α)(b:Ty β)(c:Ty γ)(d:Ty δ):Ty (α×β×γ×δ) where
 enc x:= .FI [a.enc x.1,b.enc x.2.1,c.enc x.2.2.1,d.enc x.2.2.2]
 dec _:=d4 a b c d
 ok H n v x h:=by
  unfold d4 at h;split at h
  ·simp only[dM,dN] at h;obtain⟨u,hu,w,hw,p,hp,q,hq,rfl⟩:=h;exact Co.sub (Sub.FI (qv.cons (a.ok [] 0 _ _ hu).pN (qv.cons (b.ok [] 0 _ _ hw).pN (qv.cons (c.ok [] 0 _ _ hp).pN (qv.cons (d.ok [] 0 _ _ hq).pN qv.nil))))) ⟨a.nb n u,b.nb n w,c.nb n p,d.nb n q,trivial⟩
  ·cases h
 nb n x:=⟨a.nb n _,b.nb n _,c.nb n _,d.nb n _,trivial⟩
def ty5(a:Ty α)(b:Ty β)(c:Ty γ)(d:Ty δ)(e:Ty ε):Ty (α×β×γ×δ×ε) where
 enc x:= .FI [a.enc x.1,b.enc x.2.1,c.enc x.2.2.1,d.enc x.2.2.2.1,e.enc x.2.2.2.2]
 dec _:=d5 a b c d e
 ok H n v x h:=by
  unfold d5 at h;split at h
  ·simp only[dM,dN] at h;obtain⟨u,hu,w,hw,p,hp,q,hq,s,hs,rfl⟩:=h;exact Co.sub (Sub.FI (qv.cons (a.ok [] 0 _ _ hu).pN (qv.cons (b.ok [] 0 _ _ hw).pN (qv.cons (c.ok [] 0 _ _ hp).pN (qv.cons (d.ok [] 0 _ _ hq).pN (qv.cons (e.ok [] 0 _ _ hs).pN qv.nil)))))) ⟨a.nb n u,b.nb n w,c.nb n p,d.nb n q,e.nb n s,trivial⟩
  ·cases h
 nb n x:=⟨a.nb n _,b.nb n _,c.nb n _,d.nb n _,e.nb n _,trivial⟩
def avK{a:Ty α}{b:Ty β}{x:α×β}:(ty2 a b).enc x= .FI [a.enc x.1,b.enc x.2]:=rfl
def avL{a:Ty α}{b:Ty β}:(ty2 a b).dec H v=d2 a b v:=rfl
def avM{a:Ty α}{b:Ty β}{c:Ty γ}{x:α×β×γ}:(ty3 a b c).enc x= .FI [a.enc x.1,b.enc x.2.1,c.enc x.2.2]:=rfl
def avN{a:Ty α}{b:Ty β}{c:Ty γ}:(ty3 a b c).dec H v=d3 a b c v:=rfl
def avO{a:Ty α}{b:Ty β}{c:Ty γ}{d:Ty δ}{x:α×β×γ×δ}:(ty4 a b c d).enc x= .FI [a.enc x.1,b.enc x.2.1,c.enc x.2.2.1,d.enc x.2.2.2]:=rfl
def avP{a:Ty α}{b:Ty β}{c:Ty γ}{d:Ty δ}:(ty4 a b c d).dec H v=d4 a b c d v:=rfl
def avQ{a:Ty α}{b:Ty β}{c:Ty γ}{d:Ty δ}{e:Ty ε}{x:α×β×γ×δ×ε}:(ty5 a b c d e).enc x= .FI [a.enc x.1,b.enc x.2.1,c.enc x.2.2.1,d.enc x.2.2.2.1,e.enc x.2.2.2.2]:=rfl
def avR{a:Ty α}{b:Ty β}{c:Ty γ}{d:Ty δ}{e:Ty ε}:(ty5 a b c d e).dec H v=d5 a b c d e v:=rfl
end ayG
def nH{ρ:Type}(P:Program)(rs:List ResultVar)(t:Ty ρ)(σ:jZ):Option ρ:=
 bif σ.df.isEmpty then(KJ P σ rs).bind fun x=>mA ((frz 0 σ.heap x).nb 0) (t.dec [] (frz 0 σ.heap x)) else none
def Z9{ρ:Type}{t:Ty ρ}{r:ρ}(h:nH P rs t σ=some r):σ.df=[]/\ap6 (fun v=>v=t.enc r) σ.heap (KJ P σ rs):=by
 unfold nH at h;cases hd:σ.df with
 |cons p q=>rw[hd] at h;cases h
 |nil=>
 rw[hd] at h;simp only[ep,jM] at h;refine⟨rfl,?_⟩;cases hx:KJ P σ rs with
 |none=>rw[hx] at h;cases h
 |some x=>
  rw[hx] at h;simp only[Option.bind_some] at h;rw[lV] at h;exact⟨h.1,_,(t.ok [] 0 _ _ h.2).pN,rfl⟩
abbrev Ent:=List AV->List kq->Option (AV×List kq)
abbrev aid:=List AV->Option AV
section entries
variable {ε ζ ρ:Type}
def aen(t:Ty ρ)(F:Option ρ):Ent
 |[],H=>F.bind fun r=>some (t.enc r,H)
 |_,_=>none
def ny(a:Ty α)(t:Ty ρ)(F:α->Option ρ):Ent
 |[x],H=>(a.dec H x).bind fun x=>(F x).bind fun r=>some (t.enc r,H)
 |_,_=>none
def uC(a:Ty α)(b:Ty β)(t:Ty ρ)(F:α->β->Option ρ):Ent
 |[x,y],H=>(a.dec H x).bind fun x=>(b.dec H y).bind fun y=>(F x y).bind fun r=>some (t.enc r,H)
 |_,_=>none
def Vg(a:Ty α)(b:Ty β)(c:Ty γ)(t:Ty ρ)(F:α->β->γ->Option ρ):Ent
 |[x,y,z],H=>(a.dec H x).bind fun x=>(b.dec H y).bind fun y=>(c.dec H z).bind fun z=>(F x y z).bind fun r=>some (t.enc r,H)
 |_,_=>none
def qa(e:Ent):aid:=fun args=>mA (vK 0 args) ((e args []).bind fun r=>some r.1)
def aci(P:Program)(f:FuncId)(e:Ent):Prop:= ∀args σ r H',e args σ.heap=some (r,H')->zD P f args σ (fun o Cs=>o= .ret r/\Cs=H')
def Oj(P:Program)(f:FuncId)(e:aid):Prop:= ∀args r,e args=some r->IR P f args (fun v=>v=r)
variable {a:Ty α} {b:Ty β} {c:Ty γ} {d:Ty δ} {e:Ty ε} {g:Ty ζ} {t:Ty ρ}
def aaa{F:Option ρ}(h: ∀r,F=some r->IR P f [] (fun v=>v=t.enc r)):aci P f (aen t F):=by
 intro args σ r H' he;unfold aen at he;split at he
 ·simp only[dM,dN,dQ] at he;obtain⟨r',hr,rfl,rfl⟩:=he;exact Z3 (n:=0) (h r' hr) B9.nil
 ·cases he
def lF{F:α->Option ρ}(h: ∀x r,F x=some r->IR P f [a.enc x] (fun v=>v=t.enc r)):aci P f (ny a t F):=by
 intro args σ r H' he;unfold ny at he;split at he
 ·simp only[dM,dN,dQ] at he;obtain⟨x,hx,r',hr,rfl,rfl⟩:=he;exact Z3 (n:=0) (h x r' hr) (B9.cons (a.ok _ 0 _ _ hx) B9.nil)
 ·cases he
def pJ{F:α->β->Option ρ}(h: ∀x y r,F x y=some r->IR P f [a.enc x,b.enc y] (fun v=>v=t.enc r)):aci P f (uC a b t F):=by
 intro args σ r H' he;unfold uC at he;split at he
 ·simp only[dM,dN,dQ] at he;obtain⟨x,hx,y,hy,r',hr,rfl,rfl⟩:=he;exact Z3 (n:=0) (h x y r' hr) (B9.cons (a.ok _ 0 _ _ hx) (B9.cons (b.ok _ 0 _ _ hy) B9.nil))
 ·cases he
def aab{F:α->β->γ->Option ρ}(h: ∀x y z r,F x y z=some r->IR P f [a.enc x,b.enc y,c.enc z] (fun v=>v=t.enc r)):aci P f (Vg a b c t F):=by
 intro args σ r H' he;unfold Vg at he;split at he
 ·simp only[dM,dN,dQ] at he;obtain⟨x,hx,y,hy,z,hz,r',hr,rfl,rfl⟩:=he;exact Z3 (n:=0) (h x y z r' hr) (B9.cons (a.ok _ 0 _ _ hx) (B9.cons (b.ok _ 0 _ _ hy) (B9.cons (c.ok _ 0 _ _ hz) B9.nil)))
 ·cases he
def asp{F:Option ρ}(h: ∀r,F=some r->IR P f [] (fun w=>w=t.enc r)):Oj P f (qa (aen t F)):=by
 intro args r he;unfold qa at he;rw[lV] at he;obtain⟨hnb,he⟩:=he;unfold aen at he;split at he
 ·simp only[dM,dN,Prod.exists,dQ] at he;obtain⟨_,_,⟨r',hr,rfl,rfl⟩,rfl⟩:=he;exact adt (h r' hr) (qv.nil) hnb
 ·cases he
def mr{F:α->Option ρ}(h: ∀x r,F x=some r->IR P f [a.enc x] (fun w=>w=t.enc r)):Oj P f (qa (ny a t F)):=by
 intro args r he;unfold qa at he;rw[lV] at he;obtain⟨hnb,he⟩:=he;unfold ny at he;split at he
 ·simp only[dM,dN,Prod.exists,dQ] at he;obtain⟨_,_,⟨x,hx,r',hr,rfl,rfl⟩,rfl⟩:=he;exact adt (h x r' hr) (qv.cons (a.ok _ 0 _ _ hx).pN qv.nil) hnb
 ·cases he
def vh{F:α->β->Option ρ}(h: ∀x y r,F x y=some r->IR P f [a.enc x,b.enc y] (fun w=>w=t.enc r)):Oj P f (qa (uC a b t F)):=by
 intro args r he;unfold qa at he;rw[lV] at he;obtain⟨hnb,he⟩:=he;unfold uC at he;split at he
 ·simp only[dM,dN,Prod.exists,dQ] at he;obtain⟨_,_,⟨x,hx,y,hy,r',hr,rfl,rfl⟩,rfl⟩:=he;exact adt (h x y r' hr) (qv.cons (a.ok _ 0 _ _ hx).pN (qv.cons (b.ok _ 0 _ _ hy).pN qv.nil)) hnb
 ·cases he
def LS{F:α->β->γ->Option ρ}(h: ∀x y z r,F x y z=some r->IR P f [a.enc x,b.enc y,c.enc z] (fun w=>w=t.enc r)):Oj P f (qa (Vg a b c t F)):=by
 intro args r he;unfold qa at he;rw[lV] at he;obtain⟨hnb,he⟩:=he;unfold Vg at he;split at he
 ·simp only[dM,dN,Prod.exists,dQ] at he;obtain⟨_,_,⟨x,hx,y,hy,z,hz,r',hr,rfl,rfl⟩,rfl⟩:=he;exact adt (h x y z r' hr) (qv.cons (a.ok _ 0 _ _ hx).pN (qv.cons (b.ok _ 0 _ _ hy).pN (qv.cons (c.ok _ 0 _ _ hz).pN qv.nil))) hnb
 ·cases he
end entries
def nR:List (Nat×Ent)->FuncId->List AV->List kq->Option (AV×List kq)
 |[],_,_,_=>none
 |(g,e)::t,f,args,H=>if f=g then e args H else nR t f args H
def JB:List (Nat×aid)->FuncId->List AV->Option AV
 |[],_,_=>none
 |(g,e)::t,f,args=>if f=g then e args else JB t f args
def kj: ∀f args (σ:jZ) r H',nR [] f args σ.heap=some (r,H')->zD P f args σ (fun o Cs=>o= .ret r/\Cs=H'):=by
 intro f args σ r H' h;cases h
def ke{e:Ent}{t:List (Nat×Ent)}(h1:aci P g e)(h2: ∀f args (σ:jZ) r H',nR t f args σ.heap=some (r,H')->zD P f args σ (fun o Cs=>o= .ret r/\Cs=H')):
 ∀f args (σ:jZ) r H',nR ((g,e)::t) f args σ.heap=some (r,H')->zD P f args σ (fun o Cs=>o= .ret r/\Cs=H'):=by
 intro f args σ r H' h;simp only[nR] at h;split at h
 ·rename_i hg;subst hg;exact h1 _ _ _ _ h
 ·exact h2 _ _ _ _ _ h
def ko: ∀f args r,JB [] f args=some r->IR P f args (fun v=>v=r):=by
 intro f args r h;cases h
def ng{e:aid}{t:List (Nat×aid)}(h1:Oj P g e)(h2: ∀f args r,JB t f args=some r->IR P f args (fun v=>v=r)):
 ∀f args r,JB ((g,e)::t) f args=some r->IR P f args (fun v=>v=r):=by
 intro f args r h;simp only[JB] at h;split at h
 ·rename_i hg;subst hg;exact h1 _ _ h
 ·exact h2 _ _ _ h
structure NZ where
 f:List kq->Nat->AV->Option AV
 ok: ∀H n v v',f H n v=some v'->Co H n v v'
variable {zs:List NZ}
structure ZO where
 f:List kq->Nat->kq->Option kq
 ok: ∀H n x y,f H n x=some y->LL H n x y
def zA:NZ:=⟨fun _ _ _=>some .any,fun _ _ _ _ h=>by cases h;exact Co.any⟩
def zK:NZ:=⟨fun _ n v=>mA (v.nb n) (some v),fun _ _ _ _ h=>by rw[lV] at h;obtain⟨h1,h2⟩:=h;cases h2;exact Co.same h1⟩
def zT(t:Ty α):NZ:=⟨fun H _ v=>(t.dec H v).bind fun x=>some (t.enc x),fun H n v v' h=>by
 simp only[dM,dN] at h;obtain⟨x,hx,rfl⟩:=h;exact t.ok H n v x hx⟩
def aie{sz:Nat}(hs:Q4 rows uY):Sub (.mb true sz rows) (.mb true sz uY):=by
 rintro E v ⟨base,cap,hv,h1,h2,h3,h4,h5⟩;refine⟨base,cap,by rw[<-hs.1];exact hv,by rw[<-hs.1];exact h1,fun _=>by rw[<-hs.1];exact h2 rfl,h3,fun a ha hne=>h4 a ha ?_,fun a ha=>hs.2 E sz _ _ (h5 a ha)⟩;rintro rfl;exact hne (eA hs.1.symm)
def dLt(r:Row α):AV->Option (List α)
 | .mb true sz rows=>bif sz==r.sz then ql r.dec rows else none
 |_=>none
def zL(r:Row α):NZ:=⟨fun _ _ v=>(dLt r v).bind fun x=>some (.mb true r.sz (mp r.enc x)),fun H n v v' h=>by
 simp only[dM,dN] at h;obtain⟨x,hx,rfl⟩:=h;unfold dLt at hx;split at hx
 ·rename_i sz rows;cases hz:(sz==r.sz) with
  |false=>rw[hz] at hx;cases hx
  |true=>
   rw[hz,jM] at hx;obtain rfl:=jS.1 hz;exact .inl (.inl ⟨aie (IW hx).1,xy x⟩)
 ·cases hx⟩
def aCI:(zL r).f H n v=(dLt r v).bind fun x=>some (.mb true r.sz (mp r.enc x)):=rfl
def aCJ:zA.f H n v=some .any:=rfl
def aCK:zK.f H n v=mA (v.nb n) (some v):=rfl
def aCL{t:Ty α}:(zT t).f H n v=(t.dec H v).bind fun x=>some (t.enc x):=rfl
def acL:List NZ->List kq->Nat->List AV->Option (List AV)
 |[],_,_,[]=>some []
 |z::zs,H,n,v::vs=>(z.f H n v).bind fun u=>(acL zs H n vs).bind fun us=>some (u::us)
 |_,_,_,_=>none
def adw: ∀{zs:List NZ}{H:List kq}{n:Nat}{vs us:List AV},acL zs H n vs=some us->B9 H n vs us
 |[],_,_,[],us,h=>by simp only[acL,dN] at h;subst h;rfl
 |z::zs,H,n,v::vs,us,h=>by
  simp only[acL,dM,dN] at h;obtain⟨u,hu,ws,hws,rfl⟩:=h;exact B9.cons (z.ok _ _ _ _ hu) (adw hws)
 |[],_,_,_::_,_,h=>by simp [acL] at h
 |_::_,_,_,[],_,h=>by simp [acL] at h
def oD:ZO:=⟨fun _ _ _=>some .dead,fun _ _ _ _ h=>by cases h;exact .inl rfl⟩
def oK:ZO:=⟨fun _ n x=>mA (qk n x) (some x),fun _ _ _ _ h=>by rw[lV] at h;obtain⟨h1,h2⟩:=h;cases h2;exact .inr (.inl ⟨rfl,h1⟩)⟩
def oCf(zs:List NZ)(H:List kq)(n:Nat):kq->Option kq
 | .cells cs=>(acL zs H n cs).bind fun ds=>some (.cells ds)
 |_=>none
def oC(zs:List NZ):ZO:=⟨oCf zs,fun H n x y h=>by
 unfold oCf at h;split at h
 ·simp only[dM,dN] at h;obtain⟨ds,hd,rfl⟩:=h;exact .inr (.inr (.inl ⟨_,_,rfl,rfl,adw hd⟩))
 ·cases h⟩
def oTf(c:UV α)(H:List kq):kq->Option kq
 | .cells cs=>(c.dec H cs).bind fun x=>some (.cells (c.enc x))
 |_=>none
def oT(c:UV α):ZO:=⟨fun H _=>oTf c H,fun H n x y h=>by
 unfold oTf at h;split at h
 ·simp only[dM,dN] at h;obtain⟨z,hz,rfl⟩:=h;exact .inr (.inr (.inl ⟨_,_,rfl,rfl,(c.ok H n _ _ hz).asn⟩))
 ·cases h⟩
def oAf(r:Row α):kq->Option kq
 | .acc rT sz rows=>(ql r.dec rows).bind fun xs=>some (.acc rT sz (mp r.enc xs))
 |_=>none
def oA(r:Row α):ZO:=⟨fun _ _=>oAf r,fun H n x y h=>by
 unfold oAf at h;split at h
 ·simp only[dM,dN] at h;obtain⟨xs,hx,rfl⟩:=h;exact .inr (.inr (.inr (.inl ⟨_,_,_,_,rfl,rfl,(IW hx).2,xy xs⟩)))
 ·cases h⟩
def aCM{x:kq}:oD.f H n x=some .dead:=rfl
def aCN{x:kq}:oK.f H n x=mA (qk n x) (some x):=rfl
def aCO:(oC zs).f H n (.cells cs)=(acL zs H n cs).bind fun ds=>some (.cells ds):=rfl
def aCP{c:UV α}:(oT c).f H n (.cells cs)=(c.dec H cs).bind fun x=>some (.cells (c.enc x)):=rfl
def aCQ{rT:Bool}{sz:Nat}:(oA r).f H n (.acc rT sz rows)=(ql r.dec rows).bind fun xs=>some (.acc rT sz (mp r.enc xs)):=rfl
def ano:List ZO->List kq->Nat->List kq->Option (List kq)
 |[],_,_,_=>some []
 |z::zs,H,n,v::vs=>(z.f H n v).bind fun u=>(ano zs H n vs).bind fun us=>some (u::us)
 |_::_,_,_,[]=>none
def ao0: ∀{zs:List ZO}{H:List kq}{n:Nat}{vs us:List kq},ano zs H n vs=some us->CoH H n vs us/\us.length=zs.length
 |[],_,_,vs,us,h=>by simp only[ano,dN] at h;subst h;exact⟨CoH.nil,rfl⟩
 |z::zs,H,n,v::vs,us,h=>by
  simp only[ano,dM,dN] at h;obtain⟨u,hu,ws,hws,rfl⟩:=h;obtain⟨h1,h2⟩:=ao0 hws;exact⟨⟨z.ok _ _ _ _ hu,h1⟩,by simp [h2]⟩
 |_::_,_,_,[],_,h=>by simp [ano] at h
def akm:amz n []=True:=eq_true U6
def avS(zs:List NZ)(zo:List ZO)(σ:jZ):Option jZ:=
 (acL zs σ.heap zo.length σ.slots).bind fun ss=>(ano zo σ.heap zo.length σ.heap).bind fun hs=>bif decide (σ.low<=zo.length) then mA (amz zo.length σ.df) (some ⟨ss,hs,σ.low,σ.df⟩) else none
def avT{zo:List ZO}(h:avS zs zo σ=some σ'):GF σ σ':=by
 unfold avS at h;simp only[dM] at h;obtain⟨ss,h1,hs,h2,h3⟩:=h;cases hl:decide (σ.low<=zo.length) with
 |false=>simp [hl] at h3
 |true=>
  simp only[hl,jM] at h3;rw[lV] at h3;obtain⟨Ug,h3⟩:=h3;simp only[dN] at h3;subst h3;obtain⟨h4,h5⟩:=ao0 h2;have hle:σ.low<=hs.length:=by rw[h5];exact jQ hl
  refine adX.imp ⟨⟨⟨rfl,hle⟩,rfl,by rw[h5];exact Ug⟩,?_,?_⟩
  ·show B9 σ.heap hs.length σ.slots ss;rw[h5];exact adw h1
  ·show CoH σ.heap hs.length σ.heap hs;rw[h5];exact h4
def CS(i sz:Nat)(rT:Bool)(σ:jZ):jZ:=
 match σ.slots[i]? with
 |some (.mb true _ [])=>{slots:=σ.slots.set i (.acc σ.heap.length 0),heap:=σ.heap++[.acc rT sz []],low:=σ.low,df:=σ.df}
 |_=>σ
def aeo {sz:Nat}{rT:Bool}:GF σ (CS i sz rT σ):=by
 unfold CS;split
 ·rename_i s h;exact arX h
 ·exact GF.refl σ
section asq
variable {a:Act}
def Rd {ds:List AV}{b o:Nat}:(kq.cells cs).yy h b o->(kq.cells ds).yy h b o:=by
 intro hm;cases h with
 |pointer p=>cases p<;>exact hm
 |_=>exact hm
theorem JC {ds:List AV}{b:Nat}:(kq.cells cs).block h b->(kq.cells ds).block h b:=by
 intro hm;cases h with
 |pointer p=>cases p<;>exact hm
 |_=>exact hm
def Xc {ds:List AV}(hl:H[l]? =some (.cells cs)){x:kq}(hx:(H.set l (.cells ds))[k]? =some x):(k=l/\x= .cells ds)\/(k≠l/\H[k]? =some x):=by
 grind
def anp {ds:List AV}(hl:σ.heap[l]? =some (.cells cs)):C.env φ (σ.heap.set l (.cells ds)) w=C.env φ σ.heap w:=by
 have hlt:l<σ.heap.length:=(dW.1 hl).1
 have YT: ∀b o,Eh φ (σ.heap.set l (.cells ds)) b o↔Eh φ σ.heap b o:=by
  intro b o;constructor
  ·rintro⟨k,x,hx,hm⟩;rcases Xc hl hx with⟨rfl,rfl⟩|⟨_,hx⟩
   ·exact⟨k,_,hl,Rd hm⟩
   ·exact⟨k,x,hx,hm⟩
  ·rintro⟨k,x,hx,hm⟩;by_cases e:k=l
   ·subst e;rw[hl] at hx;cases hx;exact⟨k,_,eb hlt,Rd hm⟩
   ·exact⟨k,x,by grind,hm⟩
 unfold pX.env;congr 1
 ·grind
 ·funext k;by_cases e:k=l
  ·subst e;rw[eb hlt,hl];rfl
  grind
 ·exact eF
def mo.asr(S:mo C φ σ a w){ds:List AV}(hl:σ.heap[l]? =some (.cells cs))(h: ∀b c t,φ l= .pointer (some ⟨b,0,none⟩)->w.heap[b]? =some (.cells c t (0,0))->kC (C.env φ σ.heap w) cs c.toList->kC (C.env φ σ.heap w) ds c.toList):
 mo C φ {σ with heap:=σ.heap.set l (.cells ds)} a w:=by
 have hlt:l<σ.heap.length:=(dW.1 hl).1;have ayH:C.env φ (σ.heap.set l (.cells ds)) w=C.env φ σ.heap w:=anp hl
 have A2:qT C φ (σ.heap.set l (.cells ds)) w σ.df a.defers:=S.defers.ajm (fun xs vs _ r=>by rw[ayH];exact r) (fun _ _ _=>rfl) (fun k x b hx hb=>by
  grind [JC])
 refine {slots:= ?_,defers:=A2,nN:= ?_,apart:= ?_,sE:= ?_,size:=S.size,old:=S.old,nj:=S.nj,B8:= ?_,u1:=S.u1,rest:=S.rest,low:=⟨S.low.1,by show σ.low<=(σ.heap.set l (.cells ds)).length;rw[eF];exact S.low.2⟩,names:= ?_}
 ·show kC (C.env φ (σ.heap.set l (.cells ds)) w) σ.slots a.tmps.toList;rw[ayH];exact S.slots
 ·intro k x hx;show nG (C.env φ (σ.heap.set l (.cells ds)) w) x (φ k);rw[ayH];rcases Xc hl hx with⟨rfl,rfl⟩|⟨_,hx⟩
  ·obtain⟨b,c,t,h1,h2,h3,h4⟩:=S.nN k _ hl;exact⟨b,c,t,h1,h2,h b c t h1 h2 h3,h4⟩
  ·exact S.nN k x hx
 ·intro k k' x x' b hx hx' hb hb';rcases Xc hl hx with⟨e1,rfl⟩|⟨_,h2⟩<;>rcases Xc hl hx' with⟨e2,rfl⟩|⟨_,h3⟩
  ·rw[e1,e2]
  ·rw[e1] at hb ⊢;exact S.apart _ _ _ _ b hl h3 (JC hb) hb'
  ·rw[e2] at hb' ⊢;exact S.apart _ _ _ _ b h2 hl hb (JC hb')
  ·exact S.apart _ _ _ _ b h2 h3 hb hb'
 ·intro k x b o hx hb;rcases Xc hl hx with⟨rfl,rfl⟩|⟨_,hx⟩
  ·exact S.sE _ _ b o hl (JC hb)
  ·exact S.sE _ _ b o hx hb
 ·intro k x b o hx hm hb;rcases Xc hl hx with⟨rfl,rfl⟩|⟨_,hx⟩
  ·exact S.B8 _ _ b o hl (Rd hm) hb
  ·exact S.B8 _ _ b o hx hm hb
 ·intro k hk;have:=S.names k hk;show(φ k=_/\(lT (σ.heap.set l (.cells ds))[k]? =_\/lT (σ.heap.set l (.cells ds))[k]? =none))\/((∃q,_/\ ∀k',lT (σ.heap.set l (.cells ds))[k]? =some k'->q<k')/\_)
  have e:lT (σ.heap.set l (.cells ds))[k]? =lT σ.heap[k]? :=by
   by_cases e:k=l
   ·subst e;rw[eb hlt,hl];rfl
   grind
  rw[e];exact this
theorem ag1 {off s sz:Nat}(hl:σ.heap[l]? =some (.cells cs))(hc:cs[off]? =some (.mb true s [])):
 GF σ {slots:=σ.slots,heap:=σ.heap.set l (.cells (cs.set off (.acc σ.heap.length 0)))++[.acc true sz []],low:=σ.low,df:=σ.df}:=by
 intro C φ a w S;have hlt:l<σ.heap.length:=(dW.1 hl).1;obtain⟨b,c,t,hφ,hh,rl,h1⟩:=S.nN l _ hl;obtain⟨v,hv,base,cap,rfl,_,hcap,_⟩:=rl.get hc;have hcap:cap=0:=hcap rfl;subst hcap
 have S':=S.Q2 (rT:=true) (sz:=sz) (rows:=[]) (w':=w) (h':= .slice base 0 0) (ec _) (fun _ _=>rfl) (fun _=>rfl) ⟨rfl,rfl⟩ (by
  intro b hb;cases base<;>simp [kq.block] at hb) (fun E' _ _=>⟨base,0,rfl,ec _,fun _=>rfl,by simp,fun b _ h0=>absurd rfl h0⟩)
 refine⟨(fun k=>if k=σ.heap.length then .slice base 0 0 else φ k),?_⟩;have QT:(σ.heap++[kq.acc true sz []])[l]? =some (.cells cs):=by grind
 have S2:=S'.asr (l:=l) (cs:=cs) (ds:=cs.set off (.acc σ.heap.length 0)) QT (by
  intro b2 c2 t2 h3 h4 r
  have e1:b2=b:=by
   grind
  subst e1;rw[show w.heap[b2]? =some (.cells c t (0,0)) from hh] at h4;simp only[dN,Obj.cells.injEq] at h4;obtain⟨rfl,_⟩:=h4
  have aAj:=kC.set (i:=off) (c:= .acc σ.heap.length 0) (v:= .slice base 0 0) r ⟨by simp [pX.env],⟨_,_,_,rfl⟩,fun k hk=>by
   grind [pX.env]⟩
  grind [List.set_getElem_self])
 grind
def ao1(l off sz:Nat)(σ:jZ):jZ:=
 match σ.heap[l]? with
 |some (.cells cs)=>match cs[off]? with
  |some (.mb true _ [])=>{slots:=σ.slots,heap:=σ.heap.set l (.cells (cs.set off (.acc σ.heap.length 0)))++[.acc true sz []],low:=σ.low,df:=σ.df}
  |_=>σ
 |_=>σ
def ass {off sz:Nat}:GF σ (ao1 l off sz σ):=by
 grind [ao1,ag1,GF.refl]
end asq
structure yd where
 gs:List (Nat×Nat×Bool)
 gc:List (Nat×Nat×Nat)
 zs:List NZ
 zo:List ZO
 sel:Option Nat
 aAu:Option (Nat×Nat)
def ast:Option AV->Bool
 |some (.mb _ _ _)=>true
 |_=>false
def ayI:Option Nat->jZ->Bool
 |none,_=>true
 |some i,σ=>ast σ.slots[i]?
def asu(k:Nat):Option AV->Bool
 |some (.map k')=>k'==k
 |_=>false
def ayJ:Option (Nat×Nat)->jZ->Bool
 |none,_=>true
 |some (i,k),σ=>asu k σ.slots[i]?
def aif:List (Nat×Nat×Bool)->jZ->jZ
 |[],σ=>σ
 |(i,sz,b)::r,σ=>aif r (CS i sz b σ)
def aig:List (Nat×Nat×Nat)->jZ->jZ
 |[],σ=>σ
 |(l,o,sz)::r,σ=>aig r (ao1 l o sz σ)
def ag2: ∀{g:List (Nat×Nat×Bool)}{σ:jZ},GF σ (aif g σ)
 |[],σ=>GF.refl σ
 |(_,_,_)::_,_=>aeo.trans ag2
def ag3: ∀{g:List (Nat×Nat×Nat)}{σ:jZ},GF σ (aig g σ)
 |[],σ=>GF.refl σ
 |(_,_,_)::_,_=>ass.trans ag3
def ayK(N:yd)(σ:jZ):Option jZ:=avS N.zs N.zo (aig N.gc (aif N.gs σ))
def avU{N:yd}(h:ayK N σ=some σ'):GF σ σ':=(ag2.trans ag3).trans (avT h)
def q9:List (List Nat×yd)->List Nat->jZ->Option jZ
 |[],_,σ=>some σ
 |(q,N)::t,p,σ=>if p=q then(bif ayI N.sel σ&&ayJ N.aAu σ then ayK N σ else q9 t p σ) else q9 t p σ
def qS: ∀(t:List (List Nat×yd))(p:List Nat)(σ σ':jZ),q9 t p σ=some σ'->GF σ σ'
 |[],_,σ,σ',h=>by grind [q9,GF.refl]
 |(q,N)::t,p,σ,σ',h=>by
  simp only[q9] at h;split at h
  ·cases hs:(ayI N.sel σ&&ayJ N.aAu σ) with
   |true=>rw[hs] at h;exact avU h
   |false=>rw[hs] at h;exact qS t p σ σ' h
  ·exact qS t p σ σ' h
def ixA(σ:jZ)(sz:Nat)(x i:AV):Option ux:=
 match x,i with
 | .mb _ KI rows,.int _ n=>if KI=sz then(wq rows n).bind fun r=>some {val:= .pp r} else none
 | .acc l m,.int _ n=>match σ.heap[l]? with
   |some (.acc true KI rows)=>if KI=sz/\rows.length=m then(wq rows n).bind fun r=>some {val:= .pp r,rd:=[l]} else none
   |some (.acc false KI rows)=>if KI=sz/\rows.length=m then(wq rows n).bind fun _=>some {val:= .own l n.toNat m 0 sz,rd:=[l]} else none
   |_=>none
 |_,_=>none
def avV(s:ByteArray)(n:Int):Option UInt8:=if 0<=n then s[n.toNat]? else none
def ixS(x i:AV):Option ux:=
 match x,i with
 | .str s,.int _ n=>(avV s n).bind fun b=>some {val:= .int .u8 b.toNat}
 |_,_=>none
def ldA(P:Program)(σ:jZ)(t:TypeId)(v:AV):Option ux:=
 match pd P t,v with
 |some (g,n),.ptr l off=>match σ.heap[l]? with
  |some (.cells cs)=>(l9 g n (cs.drop off)).bind fun v=>ldV σ.heap l v
  |_=>none
 |some (g,n),.pp cs=>(l9 g n cs).bind fun v=>some {val:=v}
 |some (g,n),.own l i m o sz=>match σ.heap[l]? with
  |some (.acc false KI rows)=>if KI=sz/\rows.length=m then rows[i]?.bind fun r=>(l9 g n (r.drop o)).bind fun v=>some {val:=v,rd:=[l]} else none
  |_=>none
 |some (false,_),.raw v=>adL v
 |_,_=>none
def stA(P:Program)(σ:jZ)(t:TypeId)(v:AV)(ys:Option (List AV)):Option ux:=
 match pd P t,v,ys with
 |some (_,n),.ptr l off,some ys=>match σ.heap[l]? with
  |some (.cells cs)=>if ys.length=n/\off+n<=cs.length then some {val:= .any,rd:=[l],up:=[(l,.cells (uP cs off ys))]} else none
  |_=>none
 |some (_,n),.own l i m o sz,some ys=>match σ.heap[l]? with
  |some (.acc false KI rows)=>if KI=sz/\rows.length=m then rows[i]?.bind fun r=>if ys.length=n/\o+n<=sz then some {val:= .any,rd:=[l],up:=[(l,.acc false sz (rows.set i (uP r o ys)))]} else none else none
  |_=>none
 |_,_,_=>none
def asv(n:Int)(f:Nat->Option ux):Nat->Nat->Option ux
 |0,_=>none
 |c+1,i=>bif n==(i:Int) then f i else asv n f c (i+1)
theorem ao2{n:Int}{f:Nat->Option ux}: ∀(c i:Nat),asv n f c i=if (i:Int)<=n/\n<(i:Int)+c then f n.toNat else none
 |0,i=>by rw[if_neg (by omega)];rfl
 |c+1,i=>by
  rw[asv,ao2 c (i+1)]
  grind
def ixP(len sz:Nat)(x i:AV):Option ux:=
 match x,i with
 | .ptr l off,.int _ n=>if len<=8 then asv n (fun i=>some {val:= .ptr l (off+i*sz)}) len 0 else if 0<=n/\n<len then some {val:= .ptr l (off+n.toNat*sz)} else none
 | .pp cs,.int _ n=>if 0<=n/\n<len then(adK sz n.toNat cs).bind fun ds=>some {val:= .pp ds} else none
 | .raw (.pointer (some ⟨b,o,none⟩)),.int _ n=>if 0<=n/\n<len then some {val:= .raw (.pointer (some ⟨b,o+n.toNat*sz,none⟩))} else none
 |_,_=>none
def QU (P:Program) (σ:jZ):Op->Option ux
 | .indexAddr t x i=>match nF P t with
   |some (_,sz,_)=>ixA σ sz (σ.ev x) (σ.ev i)
   |none=>match ajo P t with
    |some (len,sz)=>ixP len sz (σ.ev x) (σ.ev i)
    |none=>none
 | .index t x i=>if tB P t=true then ixS (σ.ev x) (σ.ev i) else none
 | .binOp op t x y ty=>match op with
   | .eql=>k7 P σ (.binOp .eql t x y ty)
   | .neq=>k7 P σ (.binOp .neq t x y ty)
   |op=>(agH op (σ.ev x) (σ.ev y)).bind fun v=>some {val:=v}
 | .load t x=>ldA P σ t (σ.ev x)
 | .store t x y=>stA P σ t (σ.ev x) (cellsOf (σ.ev y))
 |o=>k7 P σ o
def LC(H:List kq): ∀cs:List AV,vK 0 cs->vwL H cs=some (cs,[])
 |[],_=>rfl
 |c::cs,h=>by
  have ih:=LC H cs h.2;cases c with
  |acc l n=>exact absurd h.1 (Nat.not_lt_zero _)
  |_=>simp only[vwL,ih]
theorem sj(P:Program)(σ:jZ)(o:Op):k7 P σ o=QU P σ o:=by
 cases o with
 |indexAddr t x i=>
  simp only[QU];cases ht:nF P t with
  |none=>
   simp only[k7,ht]
   grind [ixP,ao2]
  |some q=>
   obtain⟨e,sz,b⟩:=q;simp only[k7,ht]
   grind [ixA,wq]
 |index t x i=>
  simp only[QU,k7];cases ht:tB P t
  ·grind
  ·cases hx:σ.ev x<;>cases hi:σ.ev i<;>simp only[ixS,jU]
   grind [avV]
 |binOp op t x y ty=>
  cases op with
  |eql=>rfl
  |neq=>rfl
  |_=>
   simp only[QU,k7];generalize agH _ (σ.ev x) (σ.ev y)=q;cases q<;>rfl
 |load t x=>
  simp only[QU,k7,ldA]
  grind
 |store t x y=>
  simp only[QU,k7,stA]
  grind
 |_=>rfl
section freeze
variable {a:Act}
def rp1(l:Nat)(cs:List AV):AV->AV
 | .ptr k off=>if k=l then .pp (cs.drop off) else .ptr k off
 |x=>x
def rpV(l:Nat)(cs:List AV):AV->AV
 | .ptr k off=>if k=l then .pp (cs.drop off) else .ptr k off
 | .func fn f c=> .func fn (f.map (rp1 l cs)) (c.map (rp1 l cs))
 |x=>x
def rpO(l:Nat)(cs:List AV):kq->kq
 | .cells ds=> .cells (ds.map (rpV l cs))
 |x=>x
def akn(l:Nat)(σ:jZ):Option jZ:=
 match σ.heap[l]? with
 |some (.cells cs)=>mA (vK 0 cs/\σ.low<=l) (some {slots:=σ.slots.map (rpV l cs),heap:=(σ.heap.map (rpO l cs)).set l .dead,low:=σ.low,df:=σ.df})
 |_=>none
def ako{x:kq}{b o:Nat}:(rpO l cs x).yy h b o->x.yy h b o:=by
 cases x with
 |cells ds=>exact Rd
 |_=>exact id
theorem PA{x:kq}{b:Nat}:(rpO l cs x).block h b->x.block h b:=by
 cases x with
 |cells ds=>exact JC
 |_=>exact id
theorem avW{x:kq}:lT (some (rpO l cs x))=lT (some x):=by
 cases x<;>rfl
def ayL{y:kq}(h:((H.map (rpO l cs)).set l .dead)[k]? =some y):(k=l/\y= .dead)\/(k≠l/\ ∃x,H[k]? =some x/\y=rpO l cs x):=by
 grind
theorem asw(h:akn l σ=some σ'):GF σ σ':=by
 unfold akn at h;split at h
 case h_2=>cases h
 rename_i cs hl;rw[lV] at h;obtain⟨⟨hnb,Ez⟩,h⟩:=h;cases h;intro C φ a w S;refine⟨φ,?_⟩;have hlt:l<σ.heap.length:=(dW.1 hl).1;obtain⟨b0,c0,t0,hφ,hh,rl,hone⟩:=S.nN l _ hl
 let H':List kq:=(σ.heap.map (rpO l cs)).set l .dead
 have hlen:H'.length=σ.heap.length:=by simp [H']
 have nr: ∀(k:Nat)(y:kq),H'[k]? =some y->(k=l/\y= .dead)\/(k≠l/\ ∃x,σ.heap[k]? =some x/\y=rpO l cs x):=fun k y hy=>ayL hy
 have Km: ∀b o,Eh φ H' b o->Eh φ σ.heap b o:=by
  rintro b o ⟨k,y,hy,hm⟩;rcases nr k y hy with⟨_,rfl⟩|⟨_,x,hx,rfl⟩
  ·simp [kq.yy] at hm
  ·exact⟨k,x,hx,ako hm⟩
 have ajt: ∀k:Nat,lT H'[k]? =lT σ.heap[k]? :=by
  intro k;by_cases e:k=l
  ·subst e;simp only[H'];rw[eb (by simpa using hlt),hl];rfl
  grind [avW]
 have le:(C.env φ σ.heap w).Le σ.heap.length (C.env φ H' w):=
  pX.A1 (by rw[hlen];exact ec _) (fun k _=>⟨rfl,ajt k⟩) (fun b o u hm hc=>⟨fun h=>hm (h.imp (Km b o) id),hc⟩)
 have hfree: ∀o,¬ (Eh φ H' b0 o\/C.A b0 o):=by
  rintro o (⟨k,y,hy,hm⟩|hA)
  ·rcases nr k y hy with⟨_,rfl⟩|⟨hne,x,hx,rfl⟩
   ·simp [kq.yy] at hm
   ·exact hne (S.apart k l x _ b0 hx hl (PA (kq.nC hm)) (by rw[hφ];rfl))
  ·exact S.sE l _ b0 o hl (by rw[hφ];rfl) hA
 have rl':kC (C.env φ H' w) cs c0.toList:=kC.mono le _ _ (rn (eo _) _ hnb) rl
 have hpp: ∀(off:Nat)(v:Value),n8 (C.env φ σ.heap w) (.ptr l off) v->n8 (C.env φ H' w) (.pp (cs.drop off)) v:=by
  rintro off v ⟨_,b,hb,rfl⟩
  have e:b0=b:=by
   have hb':φ l= .pointer (some ⟨b,0,none⟩):=hb;rw[hφ] at hb';simpa using hb'
  subst e;refine⟨b0,off,rfl,?_⟩;have hd:=rl'.drop off;have h1: ∀u∈c0.toList.drop off,u.oneCell'=true:=fun u hu=>hone u (List.mem_of_mem_drop hu)
  have hl2:=hd.length;exact Fa (E:=C.env φ H' w) (c:=c0) (t:=t0) (fr:=(0,0)) hh _ off (fun o _ _=>hfree o) (by grind) (by grind)
 have h1: ∀(x:AV)(v:Value),n8 (C.env φ σ.heap w) x v->n8 (C.env φ H' w) (rp1 l cs x) v:=by
  intro x v r;cases x with
  |ptr k off=>
   simp only[rp1];split
   ·grind
   ·exact n8.mono le _ _ (n8.nb _ _ r) r
  |_=>exact n8.mono le _ _ (n8.nb _ _ r) r
 have hL1: ∀(xs:List AV)(vs:List Value),kC (C.env φ σ.heap w) xs vs->kC (C.env φ H' w) (xs.map (rp1 l cs)) vs:=by
  intro xs;induction xs with
  |nil=>intro vs r;exact r
  |cons x xs ih=>rintro _ ⟨u,us,rfl,r1,r2⟩;exact⟨u,us,rfl,h1 x u r1,ih us r2⟩
 have hV: ∀(x:AV)(v:Value),n8 (C.env φ σ.heap w) x v->n8 (C.env φ H' w) (rpV l cs x) v:=by
  intro x v r;cases x with
  |ptr k off=>
   simp only[rpV];split
   ·grind
   ·exact n8.mono le _ _ (n8.nb _ _ r) r
  |func fn f c=>
   obtain⟨f',c',hv,r1,r2⟩:=r;exact⟨f',c',hv,hL1 _ _ r1,hL1 _ _ r2⟩
  |_=>exact n8.mono le _ _ (n8.nb _ _ r) r
 have hLV: ∀(xs:List AV)(vs:List Value),kC (C.env φ σ.heap w) xs vs->kC (C.env φ H' w) (xs.map (rpV l cs)) vs:=by
  intro xs;induction xs with
  |nil=>intro vs r;exact r
  |cons x xs ih=>rintro _ ⟨u,us,rfl,r1,r2⟩;exact⟨u,us,rfl,hV x u r1,ih us r2⟩
 have A2:qT C φ H' w σ.df a.defers:=S.defers.step le (fun _ _ _=>rfl) (fun k y b hy hb=>by
  grind [kq.block,PA])
 refine {slots:=hLV _ _ S.slots,defers:=A2,nN:= ?_,apart:= ?_,sE:= ?_,size:=S.size,old:=S.old,nj:=S.nj,B8:= ?_,u1:=S.u1,rest:=S.rest,low:=⟨S.low.1,by grind⟩,names:= ?_}
 ·intro k y hy;rcases nr k y hy with⟨_,rfl⟩|⟨_,x,hx,rfl⟩
  ·exact trivial
  ·have r:=S.nN k x hx;cases x with
   |cells ds=>
    obtain⟨b,c,t,h1,h2,h3,h4⟩:=r;exact⟨b,c,t,h1,h2,hLV _ _ h3,h4⟩
   |_=>exact nG.mono r le (fun _ _=>rfl)
 ·intro k k' y y' b hy hy' hb hb';rcases nr k y hy with⟨_,rfl⟩|⟨_,x,hx,rfl⟩
  ·simp [kq.block] at hb
  ·rcases nr k' y' hy' with⟨_,rfl⟩|⟨_,x',hx',rfl⟩
   ·simp [kq.block] at hb'
   ·exact S.apart k k' x x' b hx hx' (PA hb) (PA hb')
 ·intro k y b o hy hb;rcases nr k y hy with⟨_,rfl⟩|⟨_,x,hx,rfl⟩
  ·simp [kq.block] at hb
  ·exact S.sE k x b o hx (PA hb)
 ·intro k y b o hy hm hb;rcases nr k y hy with⟨_,rfl⟩|⟨_,x,hx,rfl⟩
  ·simp [kq.yy] at hm
  ·exact S.B8 k x b o hx (ako hm) hb
 ·intro k hk;have:=S.names k hk
  grind
def akp{sz:Nat}{b o:Nat}:(kq.acc true sz rows).yy h b o->(kq.acc false sz rows).yy h b o:=by
 intro hm;cases h with
 |slice base n cap=>
  cases base with
  |none=>exact hm
  |some a=>exact⟨hm.1,fun h=>by cases h⟩
 |_=>exact hm
def mo.rT{a:Act}{sz:Nat}(hl:σ.heap[l]? =some (.acc false sz rows))(S:mo C φ σ a w):mo C φ {σ with heap:=σ.heap.set l (.acc true sz rows)} a w:=by
 have hlt:l<σ.heap.length:=(dW.1 hl).1
 let H':List kq:=σ.heap.set l (.acc true sz rows)
 have hlen:H'.length=σ.heap.length:=by simp [H']
 have nr: ∀(k:Nat)(y:kq),H'[k]? =some y->(k=l/\y= .acc true sz rows)\/σ.heap[k]? =some y:=by
  grind
 have Km: ∀b o,Eh φ H' b o->Eh φ σ.heap b o:=by
  rintro b o ⟨k,y,hy,hm⟩;rcases nr k y hy with⟨rfl,rfl⟩|hx
  ·exact⟨k,_,hl,akp hm⟩
  ·exact⟨k,y,hx,hm⟩
 have ajt: ∀k:Nat,lT H'[k]? =lT σ.heap[k]? :=by
  intro k;by_cases e:k=l
  ·subst e;simp only[H'];rw[eb hlt,hl];rfl
  grind
 have le:(C.env φ σ.heap w).Le σ.heap.length (C.env φ H' w):=
  pX.A1 (by rw[hlen];exact ec _) (fun k _=>⟨rfl,ajt k⟩) (fun b o u hm hc=>⟨fun h=>hm (h.imp (Km b o) id),hc⟩)
 have IM: ∀{h:Value}{b:Nat},(kq.acc true sz rows).block h b->(kq.acc false sz rows).block h b:=by
  intro h b hb;cases h with
  |slice base n cap=>cases base<;>exact hb
  |_=>exact hb
 have asx: ∀(k:Nat)(y:kq)(b:Nat),H'[k]? =some y->y.block (φ k) b-> ∃x,σ.heap[k]? =some x/\x.block (φ k) b:=by
  grind
 have A2:qT C φ H' w σ.df a.defers:=S.defers.step le (fun _ _ _=>rfl) (fun k y b hy hb=>by
  grind)
 refine {slots:=kC.mono le _ _ (kC.nb _ _ S.slots) S.slots,defers:=A2,nN:= ?_,apart:= ?_,sE:= ?_,size:=S.size,old:=S.old,nj:=S.nj,B8:= ?_,u1:=S.u1,rest:=S.rest,low:=⟨S.low.1,by show σ.low<=H'.length;rw[hlen];exact S.low.2⟩,names:= ?_}
 ·intro k y hy;rcases nr k y hy with⟨rfl,rfl⟩|hx
  ·have r:nG (C.env φ H' w) (.acc false sz rows) (φ k):=nG.mono (S.nN k _ hl) le (fun _ _=>rfl);exact r
  ·exact nG.mono (S.nN k y hx) le (fun _ _=>rfl)
 ·intro k k' y y' b hy hy' hb hb';obtain⟨x,hx,Vh⟩:=asx k y b hy hb;obtain⟨x',hx',hb2⟩:=asx k' y' b hy' hb';exact S.apart k k' x x' b hx hx' Vh hb2
 ·intro k y b o hy hb;obtain⟨x,hx,Vh⟩:=asx k y b hy hb;exact S.sE k x b o hx Vh
 ·intro k y b o hy hm hb;rcases nr k y hy with⟨rfl,rfl⟩|hx
  ·exact S.B8 k _ b o hl (akp hm) hb
  ·exact S.B8 k y b o hx hm hb
 ·intro k hk;have:=S.names k hk
  grind
theorem avX {sz:Nat}(hl:σ.heap[l]? =some (.acc false sz rows)):GF σ {σ with heap:=σ.heap.set l (.acc true sz rows)}:=fun _ φ _ _ S=>⟨φ,mo.rT hl S⟩
def afQ(σ:jZ)(l:Nat):Option kq->jZ
 |some (.acc false sz rows)=>{σ with heap:=σ.heap.set l (.acc true sz rows)}
 |_=>σ
theorem ao3:GF σ (afQ σ l σ.heap[l]?):=by
 unfold afQ
 grind [avX,GF.refl]
def acM(σ:jZ):Option AV->jZ
 |some (.acc l _)=>afQ σ l σ.heap[l]?
 |_=>σ
def avY{x:Option AV}:GF σ (acM σ x):=by
 unfold acM
 grind [ao3,GF.refl]
theorem asy{x:Option AV}:(acM σ x).low=σ.low:=by
 unfold acM afQ;split
 ·split<;>rfl
 ·rfl
theorem avZ{x:Option AV}:(acM σ x).df=σ.df:=by
 unfold acM afQ;split
 ·split<;>rfl
 ·rfl
def ayM:(∀l n,acM σ (some (.acc l n))=afQ σ l σ.heap[l]?):=fun _ _=>rfl
def ayN:(∀sz rows,afQ σ l (some (.acc false sz rows))={σ with heap:=σ.heap.set l (.acc true sz rows)})/\(∀sz rows,afQ σ l (some (.acc true sz rows))=σ):=⟨fun _ _=>rfl,fun _ _=>rfl⟩
end freeze
def fzX(l:Nat)(σ:jZ):Option kq->Option jZ
 |some (.acc _ _ _)=>some (afQ σ l σ.heap[l]?)
 |_=>akn l σ
def ayO{x:Option kq}(h:fzX l σ x=some σ'):GF σ σ':=by
 unfold fzX at h
 grind [ao3,asw]
def ag4:List Nat->jZ->Option jZ
 |[],σ=>some σ
 |l::ls,σ=>(fzX l σ σ.heap[l]?).bind (ag4 ls)
def aAv:(∀i s r,fzX l σ (some (.acc i s r))=some (afQ σ l σ.heap[l]?))/\(∀cs,fzX l σ (some (.cells cs))=akn l σ):=⟨fun _ _ _=>rfl,fun _=>rfl⟩
def akq: ∀{ls:List Nat}{σ σ':jZ},ag4 ls σ=some σ'->GF σ σ'
 |[],σ,σ',h=>by grind [ag4,GF.refl]
 |l::ls,σ,σ',h=>by
  simp only[ag4,dM] at h;obtain⟨σ1,h1,h2⟩:=h;exact(ayO h1).trans (akq h2)
def Y3:List (List Nat×List Nat)->List Nat->jZ->Option jZ
 |[],_,σ=>some σ
 |(q,ls)::t,p,σ=>if p=q then ag4 ls σ else Y3 t p σ
def rq: ∀(t:List (List Nat×List Nat))(p:List Nat)(σ σ':jZ),Y3 t p σ=some σ'->GF σ σ'
 |[],_,σ,σ',h=>by grind [Y3,GF.refl]
 |(q,ls)::t,p,σ,σ',h=>by
  simp only[Y3] at h;split at h
  ·exact akq h
  ·exact rq t p σ σ' h
section aCR
def cI(k:IntKind):UV Int where
 enc n:=[.int k n]
 dec _ cs:=dI1 k cs
 ok H n cs x h:=by
  unfold dI1 at h
  grind [pE.cons,DY,pE.nil]
 nb _ _:=⟨trivial,trivial⟩
def cB:UV Bool where
 enc b:=[.bool b]
 dec _ cs:=dB1 cs
 ok H n cs x h:=by
  unfold dB1 at h
  grind [pE.cons,aoZ,pE.nil]
 nb _ _:=⟨trivial,trivial⟩
def cS:UV Str where
 enc s:=[.str (sb s)]
 dec _ cs:=dS1 cs
 ok H n cs x h:=by
  unfold dS1 at h
  grind [pE.cons,Z7,pE.nil]
 nb _ _:=⟨trivial,trivial⟩

def dL1(r:Row α)(H:List kq):List AV->Option (List α)
 |[c]=>dL r H c
 |_=>none
def cL(r:Row α):UV (List α) where
 enc xs:=[.mb false r.sz (mp r.enc xs)]
 dec:=dL1 r
 ok H n cs x h:=by
  unfold dL1 at h
  grind [pE.cons,Pz,pE.nil]
 nb n xs:=⟨xy xs,trivial⟩
def dF1(f:FuncId):List AV->Option Unit
 |[c]=>dF f c
 |_=>none
def cF (f:FuncId):UV Unit where
 enc _:=[.func (.func f) [] []]
 dec _ cs:=dF1 f cs
 ok H n cs x h:=by
  unfold dF1 at h;split at h
  ·unfold dF at h;split at h
   ·split at h
    ·rename_i e;subst e;exact pE.cons (Co1.sub (Sub.refl _) ⟨trivial,trivial⟩) pE.nil
    ·cases h
   ·cases h
  ·cases h
 nb _ _:=⟨⟨trivial,trivial⟩,trivial⟩
def aCS{k:IntKind}:(∀n,(cI k).enc n=[.int k n])/\ ∀H cs,(cI k).dec H cs=dI1 k cs:=⟨fun _=>rfl,fun _ _=>rfl⟩
def aCT:(∀n,cB.enc n=[.bool n])/\ ∀H cs,cB.dec H cs=dB1 cs:=⟨fun _=>rfl,fun _ _=>rfl⟩
def aCU:(∀n,cS.enc n=[.str (sb n)])/\ ∀H cs,cS.dec H cs=dS1 cs:=⟨fun _=>rfl,fun _ _=>rfl⟩
def aCV{r:Row α}:(∀n,(cL r).enc n=[.mb false r.sz (mp r.enc n)])/\ ∀H cs,(cL r).dec H cs=dL1 r H cs:=⟨fun _=>rfl,fun _ _=>rfl⟩
def aCW:(∀n,(cF f).enc n=[.func (.func f) [] []])/\ ∀H cs,(cF f).dec H cs=dF1 f cs:=⟨fun _=>rfl,fun _ _=>rfl⟩
def dP(c:UV α):AV->Option α
 | .pp cs=>c.dec [] cs
 |_=>none
def aAw{c:UV α}{x:α}(h:dP c v=some x):Sub v (.pp (c.enc x)):=by
 unfold dP at h;split at h
 ·exact Sub.pp (c.ok [] 0 _ _ h).pN.avv
 ·cases h
def zI(c:UV α):Ty α where
 enc x:= .pp (c.enc x)
 dec _:=dP c
 ok H n v x h:=Co.sub (aAw h) (c.nb n x)
 nb n x:=c.nb n x
def av0{c:UV α}{x:α}:(zI c).enc x= .pp (c.enc x):=rfl
def av1{c:UV α}:(zI c).dec H v=dP c v:=rfl
def dK1(f:FuncId)(a:Ty α):AV->Option α
 | .func (.func g) [] [x]=>if g=f then a.dec [] x else none
 |_=>none
def dK2(f:FuncId)(a:Ty α)(b:Ty β):AV->Option (α×β)
 | .func (.func g) [] [x,y]=>if g=f then(a.dec [] x).bind fun u=>(b.dec [] y).bind fun v=>some (u,v) else none
 |_=>none
def dK3(f:FuncId)(a:Ty α)(b:Ty β)(c:Ty γ):AV->Option (α×β×γ)
 | .func (.func g) [] [x,y,z]=>if g=f then(a.dec [] x).bind fun u=>(b.dec [] y).bind fun v=>(c.dec [] z).bind fun w=>some (u,v,w) else none
 |_=>none
def akr(f:FuncId)(a:Ty α):Ty α where
 enc x:= .func (.func f) [] [a.enc x]
 dec _:=dK1 f a
 ok H n v x h:=by
  unfold dK1 at h;split at h
  ·split at h
   ·rename_i e;subst e;exact Co.sub (Sub.func qv.nil (qv.cons (a.ok [] 0 _ _ h).pN qv.nil)) ⟨trivial,a.nb n x,trivial⟩
   ·cases h
  ·cases h
 nb n x:=⟨trivial,a.nb n x,trivial⟩
def aAx(f:FuncId)(a:Ty α)(b:Ty β):Ty (α×β) where
 enc x:= .func (.func f) [] [a.enc x.1,b.enc x.2]
 dec _:=dK2 f a b
 ok H n v x h:=by
  unfold dK2 at h;split at h
  ·split at h
   ·rename_i e;subst e;simp only[dM,dN] at h;obtain⟨u,hu,w,hw,rfl⟩:=h;exact Co.sub (Sub.func qv.nil (qv.cons (a.ok [] 0 _ _ hu).pN (qv.cons (b.ok [] 0 _ _ hw).pN qv.nil))) ⟨trivial,a.nb n u,b.nb n w,trivial⟩
   ·cases h
  ·cases h
 nb n x:=⟨trivial,a.nb n _,b.nb n _,trivial⟩
def aAy(f:FuncId)(a:Ty α)(b:Ty β)(c:Ty γ):Ty (α×β×γ) where
 enc x:= .func (.func f) [] [a.enc x.1,b.enc x.2.1,c.enc x.2.2]
 dec _:=dK3 f a b c
 ok H n v x h:=by
  unfold dK3 at h;split at h
  ·split at h
   ·rename_i e;subst e;simp only[dM,dN] at h;obtain⟨u,hu,w,hw,p,hp,rfl⟩:=h;exact Co.sub (Sub.func qv.nil (qv.cons (a.ok [] 0 _ _ hu).pN (qv.cons (b.ok [] 0 _ _ hw).pN (qv.cons (c.ok [] 0 _ _ hp).pN qv.nil)))) ⟨trivial,a.nb n u,b.nb n w,c.nb n p,trivial⟩
   ·cases h
  ·cases h
 nb n x:=⟨trivial,a.nb n _,b.nb n _,c.nb n _,trivial⟩
def ayP{a:Ty α}:(∀x,(akr f a).enc x= .func (.func f) [] [a.enc x])/\ ∀H v,(akr f a).dec H v=dK1 f a v:=⟨fun _=>rfl,fun _ _=>rfl⟩
def ayQ{a:Ty α}{b:Ty β}:(∀x,(aAx f a b).enc x= .func (.func f) [] [a.enc x.1,b.enc x.2])/\ ∀H v,(aAx f a b).dec H v=dK2 f a b v:=⟨fun _=>rfl,fun _ _=>rfl⟩
def ayR{a:Ty α}{b:Ty β}{c:Ty γ}:(∀x,(aAy f a b c).enc x= .func (.func f) [] [a.enc x.1,b.enc x.2.1,c.enc x.2.2])/\ ∀H v,(aAy f a b c).dec H v=dK3 f a b c v:=⟨fun _=>rfl,fun _ _=>rfl⟩
end aCR
section nN

structure OTy(α:Type) where
 enc:α->kq
 dec:List kq->kq->Option α
 ok: ∀H n x y,dec H x=some y->LL H n x (enc y)
 pe: ∀τ y,(enc y).pe τ=enc y
 nb: ∀n y,qk n (enc y)
def daT(rT:Bool)(r:Row α):kq->Option (List α)
 | .acc aCX sz rows=>if aCX=rT/\sz=r.sz then ql r.dec rows else none
 |_=>none
def oaT(rT:Bool)(r:Row α):OTy (List α) where
 enc xs:= .acc rT r.sz (mp r.enc xs)
 dec _:=daT rT r
 ok H n x y h:=by
  unfold daT at h;split at h
  ·split at h
   ·rename_i hc;obtain⟨rfl,rfl⟩:=hc;exact .inr (.inr (.inr (.inl ⟨_,_,_,_,rfl,rfl,(IW h).2,xy y⟩)))
   ·cases h
  ·cases h
 pe τ y:=by grind [kq.pe,uQ,xy]
 nb n y:=xy y
def dcT(c:UV α)(H:List kq):kq->Option α
 | .cells cs=>c.dec H cs
 |_=>none
def za(c:UV α):OTy α where
 enc x:= .cells (c.enc x)
 dec:=dcT c
 ok H n x y h:=by
  unfold dcT at h;split at h
  ·exact .inr (.inr (.inl ⟨_,_,rfl,rfl,(c.ok H n _ _ h).asn⟩))
  ·cases h
 pe τ y:=by simp only[kq.pe];rw[rR τ _ (c.nb 0 y)]
 nb n y:=c.nb n y
def aAz{rT:Bool}{r:Row α}:(∀x,(oaT rT r).enc x= .acc rT r.sz (mp r.enc x))/\ ∀H x,(oaT rT r).dec H x=daT rT r x:=⟨fun _=>rfl,fun _ _=>rfl⟩
def aAA{c:UV α}:(∀x,(za c).enc x= .cells (c.enc x))/\ ∀H x,(za c).dec H x=dcT c H x:=⟨fun _=>rfl,fun _ _=>rfl⟩
structure SJ(β:Type) where
 enc:β->List kq
 dec:List kq->List kq->Option β
 ok: ∀H n xs b,dec H xs=some b->CoH H n xs (enc b)/\(enc b).length=xs.length
 pe: ∀τ b,∀y∈enc b,y.pe τ=y
 nb: ∀n b,∀y∈enc b,qk n y
def uD:SJ Unit where
 enc _:=[]
 dec _
  |[]=>some ()
  |_=>none
 ok H n xs b h:=by
  grind [CoH.nil]
 pe _ _:=by simp
 nb _ _:=by simp
def av2(o:OTy γ)(s:SJ β)(H:List kq):List kq->Option (γ×β)
 |x::xs=>(o.dec H x).bind fun y=>(s.dec H xs).bind fun b=>some (y,b)
 |[]=>none
def vO(o:OTy γ)(s:SJ β):SJ (γ×β) where
 enc b:=o.enc b.1::s.enc b.2
 dec:=av2 o s
 ok H n xs b h:=by
  unfold av2 at h;split at h
  ·simp only[dM,dN] at h;obtain⟨y,hy,b,hb,rfl⟩:=h;obtain⟨h1,h2⟩:=s.ok H n _ _ hb;exact⟨⟨o.ok H n _ _ hy,h1⟩,by simp [h2]⟩
  ·cases h
 pe τ b y hy:=by
  simp only[eB] at hy;rcases hy with rfl|hy
  ·exact o.pe τ _
  ·exact s.pe τ _ y hy
 nb n b y hy:=by
  simp only[eB] at hy;rcases hy with rfl|hy
  ·exact o.nb n _
  ·exact s.nb n _ y hy
def aAB:(∀b,uD.enc b=[])/\ ∀H,uD.dec H []=some ():=⟨fun _=>rfl,fun _=>rfl⟩
def aAC{o:OTy γ}{s:SJ β}:(∀b,(vO o s).enc b=o.enc b.1::s.enc b.2)/\ ∀H xs,(vO o s).dec H xs=av2 o s H xs:=⟨fun _=>rfl,fun _ _=>rfl⟩
structure ED(β α:Type) where
 enc:β->α->List AV
 dec:β->List kq->List AV->Option α
 need:Nat
 ok: ∀b H n xs a,need<=n->dec b H xs=some a->B9 H n xs (enc b a)
def JD:ED β Unit where
 enc _ _:=[]
 dec _ _
  |[]=>some ()
  |_=>none
 need:=0
 ok b H n xs a _ h:=by
  grind [B9.nil]
def av3(t:Ty γ)(s:ED β α)(b:β)(H:List kq):List AV->Option (γ×α)
 |x::xs=>(t.dec H x).bind fun y=>(s.dec b H xs).bind fun a=>some (y,a)
 |[]=>none
def Nv(t:Ty γ)(s:ED β α):ED β (γ×α) where
 enc b a:=t.enc a.1::s.enc b a.2
 dec:=av3 t s
 need:=s.need
 ok b H n xs a hn h:=by
  unfold av3 at h;split at h
  ·simp only[dM,dN] at h;obtain⟨y,hy,a,ha,rfl⟩:=h;exact B9.cons (t.ok H n _ _ hy) (s.ok b H n _ _ hn ha)
  ·cases h
def av4(k:Nat)(len:β->Nat)(s:ED β α)(b:β)(H:List kq):List AV->Option α
 | .acc l m::xs=>if l=k/\m=len b then s.dec b H xs else none
 |_=>none
def rsA(k:Nat)(len:β->Nat)(s:ED β α):ED β α where
 enc b a:= .acc k (len b)::s.enc b a
 dec:=av4 k len s
 need:=max (k+1) s.need
 ok b H n xs a hn h:=by
  unfold av4 at h;split at h
  ·split at h
   ·rename_i hc;obtain⟨rfl,rfl⟩:=hc;exact B9.cons (Co.same (show _<n by omega)) (s.ok b H n _ _ (by omega) h)
   ·cases h
  ·cases h
def aAD:(∀(b:β) a,JD.enc b a=[])/\(∀(b:β) H,JD.dec b H []=some ())/\(JD:ED β Unit).need=0:=⟨fun _ _=>rfl,fun _ _=>rfl,rfl⟩
def aAE{t:Ty γ}{s:ED β α}:(∀b a,(Nv t s).enc b a=t.enc a.1::s.enc b a.2)/\(∀b H xs,(Nv t s).dec b H xs=av3 t s b H xs)/\(Nv t s).need=s.need:=⟨fun _ _=>rfl,fun _ _ _=>rfl,rfl⟩
def aAF{len:β->Nat}{s:ED β α}:(∀b a,(rsA k len s).enc b a= .acc k (len b)::s.enc b a)/\(∀b H xs,(rsA k len s).dec b H xs=av4 k len s b H xs)/\(rsA k len s).need=max (k+1) s.need:=⟨fun _ _=>rfl,fun _ _ _=>rfl,rfl⟩
end nN
def uE:List AV->AV
 |[y]=>y
 |ys=> .FI ys
theorem CoH.take: ∀{xs ys:List kq}(k:Nat),CoH H n (xs.take k) ys->CoH H n xs ys
 |_,[],_,_=>CoH.nil
 |[],_::_,k,h=>by cases k<;>exact h.elim
 |x::xs,y::ys,0,h=>h.elim
 |x::xs,y::ys,k+1,h=>⟨h.1,CoH.take k h.2⟩
section aCY

def Y4(σ σ':jZ):Prop:= ∀(C:pX)(φ:Nat->Value)(tmps:Array Value)(w:World),mo C φ σ {tmps,defers:=[]} w-> ∃φ',mo C φ' σ' {tmps,defers:=[]} w
theorem GF.e(h:GF σ σ'):Y4 σ σ':=fun C φ tmps w S=>h C φ _ w S
theorem Y4.trans {σ'':jZ}(h:Y4 σ σ')(h':Y4 σ' σ''):Y4 σ σ'':=fun C φ tmps w S=>
 let ⟨φ',S'⟩:=h C φ tmps w S
 h' C φ' tmps w S'
def JE {xs:List AV}(hx:yz P σ' rs=some xs)(Ei:Y4 ⟨xs,σ'.heap,σ'.low,[]⟩ ⟨ys,H',σ'.low,[]⟩):abk P rs (fun o Cs=>o= .ret (uE ys)/\Cs=H') none σ':=by
 have key: ∃x,KJ P σ' rs=some x/\ ∃r Cs,YY σ' x r Cs/\((sO.ret r)= .ret (uE ys)/\Cs=H'):=by
  have exp: ∀(x:AV),(∀C φ a w,mo C φ σ' a w-> ∀v,n8 (C.env φ σ'.heap w) x v-> ∃vs:List Value,kC (C.env φ σ'.heap w) xs vs/\ ∀E,kC E ys vs->n8 E (uE ys) v)->YY σ' x (uE ys) H':=by
   intro x Pm C φ a w S v hv;obtain⟨vs,hvs,U5⟩:=Pm C φ a w S v hv;have S0:mo C φ ⟨xs,σ'.heap,σ'.low,[]⟩ {tmps:=vs.toArray,defers:=[]} w:={S with slots:=by simpa using hvs,defers:=qT.nil};obtain⟨φ',S1⟩:=Ei C φ vs.toArray w S0;exact⟨φ',{S1 with slots:=rfl,defers:=qT.nil},U5 _ (by simpa using S1.slots)⟩
  unfold KJ;rw[hx]
  match xs,hx,exp with
  |[x],hx,exp=>
   refine⟨x,rfl,_,_,exp x ?_,rfl,rfl⟩;intro C φ a w S v hv;refine⟨[v],⟨v,[],rfl,hv,rfl⟩,fun E hr=> ?_⟩;have:=hr.length
   match ys,this,hr with
   |[y],_,⟨u,us,he,h1,h2⟩=>
    simp only[ey] at he;obtain⟨rfl,_⟩:=he;exact h1
  |[],hx,exp=>
   refine⟨.FI [],rfl,_,_,exp _ ?_,rfl,rfl⟩;rintro C φ a w S v ⟨vs,rfl,hvs⟩;refine⟨vs.toList,hvs,fun E hr=> ?_⟩;have h1:=hr.length;have h2:=hvs.length
   match ys,hr,h1 with
   |[],hr,_=>exact⟨vs,rfl,hr⟩
   |[_],hr,h1=>rw[h1] at h2;simp at h2
   |_::_::_,hr,h1=>rw[h1] at h2;simp at h2
  |x::x'::xs,hx,exp=>
   refine⟨.FI (x::x'::xs),rfl,_,_,exp _ ?_,rfl,rfl⟩;rintro C φ a w S v ⟨vs,rfl,hvs⟩;refine⟨vs.toList,hvs,fun E hr=> ?_⟩;have h1:=hr.length;have h2:=hvs.length
   match ys,hr,h1 with
   |[],hr,h1=>rw[h1] at h2;simp at h2
   |[_],hr,h1=>rw[h1] at h2;simp at h2
   |_::_::_,hr,_=>exact⟨vs,rfl,hr⟩
 exact key
def aks {y:AV}(Ei:Y4 ⟨[x],σ'.heap,σ'.low,[]⟩ ⟨[y],H',σ'.low,[]⟩):abk P rs (fun o Cs=>o= .panic y/\Cs=H') (some x) σ':=by
 refine⟨y,H',?_,rfl,rfl⟩;intro C φ a w S v hv;have S0:mo C φ ⟨[x],σ'.heap,σ'.low,[]⟩ {tmps:=[v].toArray,defers:=[]} w:={S with slots:=⟨v,[],rfl,hv,rfl⟩,defers:=qT.nil};obtain⟨φ',S1⟩:=Ei C φ _ w S0;obtain⟨u,us,he,h1,_⟩:=S1.slots;simp only[ey] at he;obtain⟨rfl,_⟩:=he;exact⟨φ',{S1 with slots:=rfl,defers:=qT.nil},h1⟩
def aac{fn:Func}{r:R}(G:Good M)(hf:M.P.funcs[f]? =some fn)(hb:fn.body=some M.body)(hne:(fn.name != "runtime.NumGoroutine")=true)
 (hnb:vK H.length args) (Ft: ∀x∈H,qk H.length x) (hn:fn.ntmps=n) (Ia:fn.results=rs.toArray)
 (hout: ∀σ,M.out σ=some r->Z6 M.P (abk M.P rs V) σ.df none σ) (aAG: ∀x σ,M.oz x σ=some r->Z6 M.P (abk M.P rs V) σ.df (some x) σ)
 (h:run M [.at []] {slots:=args++dO (n-args.length) .any,heap:=H,low:=H.length}=some r):FnG M.P f args H V:=by
 refine ajW hf hb hne hnb Ft hn Ia ?_;exact Ra G h (fun σ' hs=>⟨hout σ' hs,hout σ' hs⟩) aAG
def Ct{fn:Func}{r:R}(G:Good M)(hf:M.P.funcs[f]? =some fn)(hb:fn.body=some M.body)(hne:(fn.name != "runtime.NumGoroutine")=true)
 (hnb:vK H.length args) (Ft: ∀x∈H,qk H.length x) (hn:fn.ntmps=n) (Ia:fn.results=rs.toArray)
 (hout: ∀σ,M.out σ=some r->σ.df=[]/\ ∃xs,yz M.P σ rs=some xs/\Y4 ⟨xs,σ.heap,σ.low,[]⟩ ⟨ys,H',σ.low,[]⟩)
 (h:run M [.at []] {slots:=args++dO (n-args.length) .any,heap:=H,low:=H.length}=some r) (hP: ∀x σ',M.oz x σ'=none:=by intros;rfl):FnG M.P f args H (fun o Cs=>o= .ret (uE ys)/\Cs=H'):=by
 refine aac G hf hb hne hnb Ft hn Ia (fun σ' hs=> ?_) (fun x σ' hx=>by rw[hP x σ'] at hx;cases hx) h;obtain⟨hd,xs,hx,Ei⟩:=hout σ' hs;rw[hd];exact JE hx Ei
end aCY
section aih

def aih(P:Program)(rs:List ResultVar)(os:SJ β)(s:ED β α)(low:Nat)(σ:jZ):Option (β×α):=
 (yz P σ rs).bind fun xs=>(os.dec σ.heap (σ.heap.take low)).bind fun b=>(s.dec b σ.heap xs).bind fun a=>bif (σ.low==low)&&decide (s.need<=low)&&decide (low<=σ.heap.length)&&σ.df.isEmpty then some (b,a) else none
def adx{os:SJ β}{s:ED β α}{r:β×α}(h:aih P rs os s low σ=some r):
 σ.df=[]/\ ∃xs,yz P σ rs=some xs/\Y4 ⟨xs,σ.heap,σ.low,[]⟩ ⟨s.enc r.1 r.2,os.enc r.1,σ.low,[]⟩:=by
 unfold aih at h;simp only[dM] at h;obtain⟨xs,hx,b,hb,a,ha,h⟩:=h;cases hc:((σ.low==low)&&decide (s.need<=low)&&decide (low<=σ.heap.length)&&σ.df.isEmpty) with
 |false=>simp [hc] at h
 |true=>
  simp only[hc,jM,dN] at h;subst h;simp only[dZ,jS,jR] at hc;obtain⟨⟨⟨h1,h2⟩,h3⟩,h4⟩:=hc;refine⟨by simpa using h4,xs,hx,GF.e (adX.imp (σ:=⟨xs,σ.heap,σ.low,[]⟩) (σ':=⟨s.enc b a,os.enc b,σ.low,[]⟩) ⟨⟨⟨rfl,?_⟩,rfl,U6⟩,?_,?_⟩)⟩
  ·obtain⟨_,h5⟩:=os.ok σ.heap 0 _ _ hb
   grind
  ·show B9 σ.heap (os.enc b).length xs (s.enc b a);obtain⟨_,h5⟩:=os.ok σ.heap 0 _ _ hb;exact s.ok b σ.heap _ xs a (by rw[h5,List.length_take];omega) ha
  ·show CoH σ.heap (os.enc b).length σ.heap (os.enc b);exact CoH.take low (os.ok σ.heap _ _ _ hb).1
end aih
section asz
theorem aep: ∀(ls:List Nat)(G:List kq)(ys:List kq)(l:Nat)(z:kq),l ∉ ls->(qw G ls ys).set l z=qw (G.set l z) ls ys
 |[],_,_,_,_,_=>by simp [qw]
 |_::_,_,[],_,_,_=>by simp [qw]
 |k::ls,G,y::ys,l,z,h=>by
  simp only[eB,not_or] at h;rw[qw,qw,aep ls _ ys l z h.2,List.set_comm _ _ (fun e=>h.1 e.symm)]
theorem Ol: ∀(ls:List Nat)(G:List kq)(ys ys':List kq),ls.Nodup->ls.length<=ys'.length->qw (qw G ls ys) ls ys'=qw G ls ys'
 |[],_,_,_,_,_=>by simp [qw]
 |_::_,_,_,[],_,h=>by simp at h
 |l::ls,G,[],y'::ys',hnd,h=>by simp [qw]
 |l::ls,G,y::ys,y'::ys',hnd,h=>by
  rw[List.nodup_cons] at hnd;simp only[eg,Nat.add_le_add_iff_right] at h;simp only[qw];rw[aep ls _ ys l y' hnd.1,List.set_set,Ol ls _ ys ys' hnd.2 h]
def Rf{H:List kq}{n:Nat}: ∀{xs ys:List kq},(∀(k:Nat)(y:kq),ys[k]? =some y-> ∃x,xs[k]? =some x/\LL H n x y)->CoH H n xs ys
 |_,[],_=>CoH.nil
 |[],y::ys,h=>by obtain⟨x,hx,_⟩:=h 0 y (by simp);simp at hx
 |x::xs,y::ys,h=>by
  obtain⟨x',hx,hc⟩:=h 0 y (by simp);simp at hx;subst hx;exact⟨hc,Rf fun k z hz=>by have:=h (k+1) z (by simpa using hz);simpa using this⟩
theorem B9.append: ∀{xs ys us vs:List AV},B9 H n xs ys->B9 H n us vs->B9 H n (xs++us) (ys++vs)
 |[],_,_,_,rfl,h=>h
 |_::_,_,_,_,⟨y,zs,rfl,h,hs⟩,h2=>⟨y,zs++_,rfl,h,B9.append hs h2⟩
def asz {LP:List AV}{r:AV}(hG:FnG P f args Ys (fun o H'=>o= .ret r/\H'=Ys'))(hnd:ρ.Nodup)(hlen:ρ.length=Ys.length)(aAH:ρ.length<=Ys'.length)
 (Kq: ∀(i k:Nat),ρ[i]? =some k-> ∃x y,σ.heap[k]? =some x/\Ys[i]? =some y/\LL σ.heap σ.heap.length x y) (hargs:B9 σ.heap σ.heap.length LP (qQ (nv ρ σ.heap.length) args))
 (ayn: ∀y∈Ys++Ys',∀τ,y.pe τ=y):zD P f LP σ (fun o H'=>o= .ret (r.pe (nv ρ σ.heap.length))/\H'=qw σ.heap ρ Ys'++Ys'.drop ρ.length):=by
 refine⟨hG.1,fun C φ a w hP S vs hr=> ?_⟩
 let H1:=qw σ.heap ρ Ys
 have hl1:H1.length=σ.heap.length:=u4 _ _ _;have S0:mo C φ ⟨σ.slots++LP,σ.heap,σ.low,σ.df⟩ {tmps:=a.tmps++vs,defers:=a.defers} w:={S with slots:=by simpa using S.slots.append hr,defers:=S.defers}
 have hat: ∀(i k:Nat),ρ[i]? =some k-> ∃x y,σ.heap[k]? =some x/\Ys[i]? =some y/\LL σ.heap σ.heap.length x y/\H1[k]? =some y:=by
  grind [Pw]
 have hw:adX ⟨σ.slots++LP,σ.heap,σ.low,σ.df⟩ ⟨σ.slots++qQ (nv ρ σ.heap.length) args,H1,σ.low,σ.df⟩:=by
  refine⟨⟨⟨rfl,by show σ.low<=H1.length;rw[hl1];exact S.low.2⟩,rfl,by show amz H1.length σ.df;rw[hl1];exact Js.nb S.defers.2.2⟩,?_,?_⟩
  ·show B9 σ.heap H1.length _ _;rw[hl1];exact B9.append (B9.same (kC.nb _ _ S.slots)) hargs
  ·show CoH σ.heap H1.length σ.heap H1;rw[hl1];refine Rf fun k y hy=> ?_
   by_cases hk:k∈ρ
   ·grind [eu]
   ·have hy2:σ.heap[k]? =some y:=by grind [DJ]
    exact⟨y,hy2,.inr (.inl ⟨rfl,Pu (S.nN k y hy2)⟩)⟩
 obtain⟨φ',S1⟩:=hw.imp C φ _ w S0;have ZH:=S1.slots;simp only[ew] at ZH;have hsz:a.tmps.toList.length=σ.slots.length:=S.slots.length;have h1:=ZH.take σ.slots.length;have h2:=ZH.drop σ.slots.length;rw[dX rfl,dX hsz] at h1;rw[dY rfl,dY hsz] at h2;have S2:mo C φ' {σ with heap:=H1} a w:={S1 with slots:=h1,defers:=S1.defers}
 have uZ:zD P f (qQ (nv ρ H1.length) args) {σ with heap:=H1} (fun o H'=>o= .ret (r.pe (nv ρ H1.length))/\H'=qw σ.heap ρ Ys'++Ys'.drop ρ.length):=by
  refine ah3 (σ:={σ with heap:=H1}) hG ρ hlen hnd (qv.refl _) ?_ ?_
  ·grind
  ·rintro o H' ⟨rfl,rfl⟩;refine⟨rfl,?_⟩
   have hid: ∀τ,H'.map (kq.pe τ)=H':=by
    intro τ;have:H'.map (kq.pe τ)=H'.map id:=ek fun y hy=>ayn y (List.mem_append.2 (.inr hy)) τ
    rw[this,List.map_id]
   grind [List.map_drop,uB,Ol]
 rw[hl1] at uZ;exact uZ.2 C φ' a w hP S2 vs h2
end asz
section args

structure GM(β α:Type) where
 enc:β->α->List AV
 dec:List Nat->β->List kq->List AV->Option α
 ok: ∀ρ b H xs a,dec ρ b H xs=some a->B9 H H.length xs (qQ (nv ρ H.length) (enc b a))
def Ln:GM β Unit where
 enc _ _:=[]
 dec _ _ _
  |[]=>some ()
  |_=>none
 ok ρ b H xs a h:=by
  split at h
  ·exact B9.nil
  ·cases h
def av5(t:Ty γ)(s:GM β α)(ρ:List Nat)(b:β)(H:List kq):List AV->Option (γ×α)
 |x::xs=>(t.dec H x).bind fun y=>(s.dec ρ b H xs).bind fun a=>some (y,a)
 |[]=>none
def asT(t:Ty γ)(s:GM β α):GM β (γ×α) where
 enc b a:=t.enc a.1::s.enc b a.2
 dec:=av5 t s
 ok ρ b H xs a h:=by
  unfold av5 at h;split at h
  ·simp only[dM,dN] at h;obtain⟨y,hy,a,ha,rfl⟩:=h;refine B9.cons ?_ (s.ok ρ b H _ _ ha);rw[IU _ _ (t.nb 0 y)];exact t.ok H _ _ _ hy
  ·cases h
def av6(k:Nat)(s:GM β α)(ρ:List Nat)(b:β)(H:List kq):List AV->Option α
 | .ptr l off::xs=>if off=0/\ρ[k]? =some l/\l<H.length then s.dec ρ b H xs else none
 |_=>none
theorem ag5(h:ρ[k]? =some l):nv ρ n k=l:=by
 grind [nv]
def Om(k:Nat)(s:GM β α):GM β α where
 enc b a:= .ptr k 0::s.enc b a
 dec:=av6 k s
 ok ρ b H xs a h:=by
  unfold av6 at h;split at h
  ·split at h
   ·rename_i hc;obtain⟨rfl,hc,hl⟩:=hc;refine B9.cons ?_ (s.ok ρ b H _ _ h);show Co H H.length _ (.ptr (nv ρ H.length k) 0);rw[ag5 hc];exact Co.same hl
   ·cases h
  ·cases h
def av7(k:Nat)(len:β->Nat)(s:GM β α)(ρ:List Nat)(b:β)(H:List kq):List AV->Option α
 | .acc l m::xs=>if m=len b/\ρ[k]? =some l/\l<H.length then s.dec ρ b H xs else none
 |_=>none
def asA(k:Nat)(len:β->Nat)(s:GM β α):GM β α where
 enc b a:= .acc k (len b)::s.enc b a
 dec:=av7 k len s
 ok ρ b H xs a h:=by
  unfold av7 at h;split at h
  ·split at h
   ·rename_i hc;obtain⟨rfl,hc,hl⟩:=hc;refine B9.cons ?_ (s.ok ρ b H _ _ h);show Co H H.length _ (.acc (nv ρ H.length k) _);rw[ag5 hc];exact Co.same hl
   ·cases h
  ·cases h
def aAI:(∀(b:β) a,Ln.enc b a=[])/\(∀ρ (b:β) H,Ln.dec ρ b H []=some ()):=⟨fun _ _=>rfl,fun _ _ _=>rfl⟩
def aAJ{t:Ty γ}{s:GM β α}:(∀b a,(asT t s).enc b a=t.enc a.1::s.enc b a.2)/\(∀ρ b H xs,(asT t s).dec ρ b H xs=av5 t s ρ b H xs):=⟨fun _ _=>rfl,fun _ _ _ _=>rfl⟩
def aAK{s:GM β α}:(∀b a,(Om k s).enc b a= .ptr k 0::s.enc b a)/\(∀ρ b H xs,(Om k s).dec ρ b H xs=av6 k s ρ b H xs):=⟨fun _ _=>rfl,fun _ _ _ _=>rfl⟩
def aAL{len:β->Nat}{s:GM β α}:(∀b a,(asA k len s).enc b a= .acc k (len b)::s.enc b a)/\(∀ρ b H xs,(asA k len s).dec ρ b H xs=av7 k len s ρ b H xs):=⟨fun _ _=>rfl,fun _ _ _ _=>rfl⟩
end args
def nameOf:AV->Option Nat
 | .ptr l _=>some l
 | .acc l _=>some l
 |_=>none
def nameAt(args:List AV)(i:Nat):Option Nat:=(args[i]?).bind nameOf
def nodupB:List Nat->Bool
 |[]=>true
 |x::xs=> !xs.contains x&&nodupB xs
theorem LD: ∀{xs:List Nat},nodupB xs=true->xs.Nodup
 |[],_=>List.nodup_nil
 |x::xs,h=>by
  simp only[nodupB,dZ,Bool.not_eq_true',List.contains_eq_mem,decide_eq_false_iff_not] at h;exact List.nodup_cons.2 ⟨h.1,LD h.2⟩
def acj(H:List kq)(k:Nat):Option kq:=H[k]?
section Aj

def Aj(pos:List Nat)(os:SJ β)(as:GM β α)(os':SJ β')(rs:ED β' α')(F:β->α->Option (β'×α')):Ent:=fun args H=>
 (ql (nameAt args) pos).bind fun ρ=>bif nodupB ρ then(ql (acj H) ρ).bind fun xs=>(os.dec H xs).bind fun b=>(as.dec ρ b H args).bind fun a=>(F b a).bind fun r=>
   bif decide (ρ.length<=(os'.enc r.1).length) then some ((uE (rs.enc r.1 r.2)).pe (nv ρ H.length),qw H ρ (os'.enc r.1)++(os'.enc r.1).drop ρ.length) else none else none
def PC{H:List kq}: ∀{ρ:List Nat}{xs:List kq},ql (acj H) ρ=some xs->ρ.length=xs.length/\ ∀(i k:Nat),ρ[i]? =some k-> ∃x,xs[i]? =some x/\H[k]? =some x
 |[],xs,h=>by grind [ql]
 |k::ρ,xs,h=>by
  simp only[ql,dM,dN] at h;obtain⟨x,hx,ys,hys,rfl⟩:=h;obtain⟨h1,h2⟩:=PC hys;refine⟨by simp [h1],fun i q hi=> ?_⟩;cases i with
  |zero=>simp at hi;subst hi;exact⟨x,by simp,hx⟩
  |succ i=>grind
def pq{pos:List Nat}{os:SJ β}{as:GM β α}{os':SJ β'}{rs:ED β' α'}{F:β->α->Option (β'×α')}
 (h: ∀b a r,F b a=some r->FnG P f (as.enc b a) (os.enc b) (fun o H'=>o= .ret (uE (rs.enc r.1 r.2))/\H'=os'.enc r.1)):aci P f (Aj pos os as os' rs F):=by
 intro args σ r H' he;unfold Aj at he;simp only[dM] at he;obtain⟨ρ,_,he⟩:=he;cases hnd:nodupB ρ with
 |false=>simp [hnd] at he
 |true=>
  simp only[hnd,jM,dM] at he;obtain⟨xs,hxs,b,hb,a,ha,q,hq,he⟩:=he;cases hl:decide (ρ.length<=(os'.enc q.1).length) with
  |false=>simp [hl] at he
  |true=>
   simp only[hl,jM,dN,dQ] at he;obtain⟨rfl,rfl⟩:=he;obtain⟨h1,h2⟩:=PC hxs;obtain⟨h3,h4⟩:=os.ok σ.heap σ.heap.length _ _ hb;refine asz (h b a q hq) (LD hnd) (by rw[h1,h4]) (jQ hl) ?_ (as.ok ρ b σ.heap _ _ ha) ?_
   ·intro i k hi;obtain⟨x,hx,hx'⟩:=h2 i k hi;have hlt:i<(os.enc b).length:=by grind
    obtain⟨x2,Pm,hc⟩:=h3.get (dR hlt)
    grind
   ·intro y hy τ;rcases List.mem_append.1 hy with hy|hy
    ·exact os.pe τ _ y hy
    ·exact os'.pe τ _ y hy
end Aj
abbrev aCZ:=List AV->List kq->Option ux
section ayS

def ayS(as:GM Unit α)(os':SJ β')(rs:ED β' α')(F:α->Option (β'×α')):aCZ:=fun args H=>
 mA (vK 0 args) ((as.dec [] () [] args).bind fun a=>(F a).bind fun r=>bif (os'.enc r.1).isEmpty then none else some {val:=(uE (rs.enc r.1 r.2)).pe (nv [] H.length),nw:=os'.enc r.1})
def mg:List Nat->FuncId->Bool
 |[],_=>false
 |g::t,f=>f==g||mg t f
def vi: ∀(f:FuncId)(args:List AV)(σ:jZ)(e:ux),(fun _ _ _=>none:FuncId->List AV->List kq->Option ux) f args σ.heap=some e->Jw P f args σ e:=by
 intro f args σ e h;cases h
end ayS
section av8
variable {a:Act}
def Vi{xs:List AV}{y:kq}(hl:H[l]? =some y)(Ez:low<=l)(hnb: ∀z∈H.take low,qk low z)(hy:qk low y)(hr:vK (low+1) (qQ (Q8 low l) xs)):
 Y4 ⟨xs,H,low,[]⟩ ⟨qQ (Q8 low l) xs,H.take low++[y],low,[]⟩:=by
 intro C φ tmps w S;obtain⟨φ',S',rF⟩:=amK (σ:=⟨xs,H,low,[]⟩) (x:= .FI xs) hl Ez hnb hy hr C φ _ w S (.tuple tmps) ⟨tmps,rfl,S.slots⟩;obtain⟨vs,hv,rl⟩:=rF;simp only[Value.tuple.injEq] at hv;subst hv;exact⟨φ',{S' with slots:=rl,defers:=qT.nil}⟩

def aqn(P:Program)(rs:List ResultVar)(j:Nat)(r:Row γ)(s:ED (List γ×Unit) α)(σ:jZ):Option ((List γ×Unit)×α):=
 bif σ.df.isEmpty then(yz P σ rs).bind fun xs=>asB (acM (CS j r.sz true ⟨xs,σ.heap,0,[]⟩) (CS j r.sz true ⟨xs,σ.heap,0,[]⟩).slots[j]?) j r s σ.low else none
where
 asB (τ:jZ) (j:Nat) (r:Row γ) (s:ED (List γ×Unit) α) (low:Nat):Option ((List γ×Unit)×α):=
  match τ.slots[j]? with
  |some (.acc l _)=>match τ.heap[l]? with
   |some y=>mA (low=0/\qk 0 y/\vK 1 (qQ (Q8 0 l) τ.slots)) (((vO (oaT true r) uD).dec [y] [y]).bind fun b=>(s.dec b [y] (qQ (Q8 0 l) τ.slots)).bind fun a=>bif decide (s.need<=1) then some (b,a) else none)
   |none=>none
  |_=>none
def aii{r:Row γ}{s:ED (List γ×Unit) α}{q:(List γ×Unit)×α}(h:aqn P rs j r s σ=some q):
 σ.df=[]/\ ∃xs,yz P σ rs=some xs/\Y4 ⟨xs,σ.heap,σ.low,[]⟩ ⟨s.enc q.1 q.2,(vO (oaT true r) uD).enc q.1,σ.low,[]⟩:=by
 unfold aqn at h;cases hd0:σ.df with
 |cons p q=>rw[hd0] at h;cases h
 |nil=>
 rw[hd0] at h;simp only[ep,jM] at h;simp only[dM] at h;obtain⟨xs,hx,h⟩:=h;refine⟨rfl,xs,hx,?_⟩;unfold aqn.asB at h;split at h
 case h_2=>cases h
 rename_i l m hs;split at h
 case h_2=>cases h
 rename_i y hl;rw[lV] at h;obtain⟨⟨Ez,h1,h2⟩,h⟩:=h;simp only[dM] at h;obtain⟨b,hb,a,ha,h⟩:=h;cases hd:decide (s.need<=1) with
 |false=>simp [hd] at h
 |true=>
  simp only[hd,jM,dN] at h;subst h;rw[Ez];have i1:GF ⟨xs,σ.heap,0,[]⟩ (acM (CS j r.sz true ⟨xs,σ.heap,0,[]⟩) (CS j r.sz true ⟨xs,σ.heap,0,[]⟩).slots[j]?):=aeo.trans avY;have aAM:(acM (CS j r.sz true ⟨xs,σ.heap,0,[]⟩) (CS j r.sz true ⟨xs,σ.heap,0,[]⟩).slots[j]?).low=0:=by grind [asy,CS]
  have aC0:(acM (CS j r.sz true ⟨xs,σ.heap,0,[]⟩) (CS j r.sz true ⟨xs,σ.heap,0,[]⟩).slots[j]?).df=[]:=by grind [avZ,CS]
  generalize hτ:acM (CS j r.sz true ⟨xs,σ.heap,0,[]⟩) (CS j r.sz true ⟨xs,σ.heap,0,[]⟩).slots[j]? =τ at*;have i2:Y4 ⟨τ.slots,τ.heap,0,[]⟩ ⟨qQ (Q8 0 l) τ.slots,τ.heap.take 0++[y],0,[]⟩:=Vi hl (eo _) (by simp) h1 h2;have e:τ=⟨τ.slots,τ.heap,0,[]⟩:=by cases τ;grind
  rw[e] at i1;refine(i1.e.trans i2).trans ?_;simp only[eI,eG];obtain⟨h5,h6⟩:=(vO (oaT true r) uD).ok [y] 1 _ _ hb;refine GF.e (adX.imp (σ:=⟨qQ (Q8 0 l) τ.slots,[y],0,[]⟩) (σ':=⟨s.enc b a,(vO (oaT true r) uD).enc b,0,[]⟩) ⟨⟨⟨rfl,eo _⟩,rfl,U6⟩,?_,?_⟩)
  ·show B9 [y] ((vO (oaT true r) uD).enc b).length _ _;rw[h6];exact s.ok b [y] 1 _ a (jQ hd) ha
  grind
end av8
def aij(e e':Ent):Ent:=fun args H=>(e args H).or (e' args H)
section
variable {k:List Kt}
def anq{rest:List Oper}{x}:uv M ops dst rest k σ (.move x)=qU M ops dst rest k σ (QU M.P σ (.move x)):=by rw[<-sj];rfl
def aik{rest:List Oper}{x}:uv M ops dst rest k σ (.assign x)=qU M ops dst rest k σ (QU M.P σ (.assign x)):=by rw[<-sj];rfl
def anr{rest:List Oper}{c}{a}{b}:uv M ops dst rest k σ (.pick c a b)=qU M ops dst rest k σ (QU M.P σ (.pick c a b)):=by rw[<-sj];rfl
def akt{rest:List Oper}{t}:uv M ops dst rest k σ (.alloc t)=qU M ops dst rest k σ (QU M.P σ (.alloc t)):=by rw[<-sj];rfl
def aqo{rest:List Oper}{t}{v}:uv M ops dst rest k σ (.box t v)=qU M ops dst rest k σ (QU M.P σ (.box t v)):=by rw[<-sj];rfl
def aku{rest:List Oper}{t}{ps}:uv M ops dst rest k σ (.build t ps)=qU M ops dst rest k σ (QU M.P σ (.build t ps)):=by rw[<-sj];rfl
def abp{rest:List Oper}{t}{n}{ps}:uv M ops dst rest k σ (.buildSlice t n ps)=qU M ops dst rest k σ (QU M.P σ (.buildSlice t n ps)):=by rw[<-sj];rfl
def ail{rest:List Oper}{m}{a}{b}{c}:uv M ops dst rest k σ (.insert m a b c)=qU M ops dst rest k σ (QU M.P σ (.insert m a b c)):=by rw[<-sj];rfl
def ant{rest:List Oper}{t}{a}:uv M ops dst rest k σ (.load t a)=qU M ops dst rest k σ (QU M.P σ (.load t a)):=by rw[<-sj];rfl
def akv{rest:List Oper}{t}{a}{v}:uv M ops dst rest k σ (.store t a v)=qU M ops dst rest k σ (QU M.P σ (.store t a v)):=by rw[<-sj];rfl
def aeq{rest:List Oper}{x}:uv M ops dst rest k σ (.nilCheck x)=qU M ops dst rest k σ (QU M.P σ (.nilCheck x)):=by rw[<-sj];rfl
def akw{rest:List Oper}{o}{t}{x}{y}{u}:uv M ops dst rest k σ (.binOp o t x y u)=qU M ops dst rest k σ (QU M.P σ (.binOp o t x y u)):=by rw[<-sj];rfl
def anu{rest:List Oper}{o}{t}{x}:uv M ops dst rest k σ (.unOp o t x)=qU M ops dst rest k σ (QU M.P σ (.unOp o t x)):=by rw[<-sj];rfl
def afR{rest:List Oper}{s}{d}{x}:uv M ops dst rest k σ (.convert s d x)=qU M ops dst rest k σ (QU M.P σ (.convert s d x)):=by rw[<-sj];rfl
def Xs{rest:List Oper}{t}{x}:uv M ops dst rest k σ (.makeInterface t x)=qU M ops dst rest k σ (QU M.P σ (.makeInterface t x)):=by rw[<-sj];rfl
def aer{rest:List Oper}{f}{a}{b}:uv M ops dst rest k σ (.makeFunc f a b)=qU M ops dst rest k σ (QU M.P σ (.makeFunc f a b)):=by rw[<-sj];rfl
def afS{rest:List Oper}{t}{r}:uv M ops dst rest k σ (.makeMap t r)=qU M ops dst rest k σ (QU M.P σ (.makeMap t r)):=by rw[<-sj];rfl
def acN{rest:List Oper}{t}{l}{c}:uv M ops dst rest k σ (.makeSlice t l c)=qU M ops dst rest k σ (QU M.P σ (.makeSlice t l c)):=by rw[<-sj];rfl
def akx{rest:List Oper}{t}{x}{l}{h}{m}:uv M ops dst rest k σ (.slice t x l h m)=qU M ops dst rest k σ (QU M.P σ (.slice t x l h m)):=by rw[<-sj];rfl
def acO{rest:List Oper}{t}{x}{f}:uv M ops dst rest k σ (.fieldAddr t x f)=qU M ops dst rest k σ (QU M.P σ (.fieldAddr t x f)):=by rw[<-sj];rfl
def aky{rest:List Oper}{t}{x}{f}:uv M ops dst rest k σ (.field t x f)=qU M ops dst rest k σ (QU M.P σ (.field t x f)):=by rw[<-sj];rfl
def acP{rest:List Oper}{t}{x}{i}:uv M ops dst rest k σ (.indexAddr t x i)=qU M ops dst rest k σ (QU M.P σ (.indexAddr t x i)):=by rw[<-sj];rfl
def akz{rest:List Oper}{t}{x}{i}:uv M ops dst rest k σ (.index t x i)=qU M ops dst rest k σ (QU M.P σ (.index t x i)):=by rw[<-sj];rfl
def aim{rest:List Oper}{t}{x}{i}{b}:uv M ops dst rest k σ (.lookup t x i b)=qU M ops dst rest k σ (QU M.P σ (.lookup t x i b)):=by rw[<-sj];rfl
def acQ{rest:List Oper}{t}{m}{kk}{v}:uv M ops dst rest k σ (.mapUpdate t m kk v)=qU M ops dst rest k σ (QU M.P σ (.mapUpdate t m kk v)):=by rw[<-sj];rfl
def akA{rest:List Oper}{t}{x}:uv M ops dst rest k σ (.range t x)=qU M ops dst rest k σ (QU M.P σ (.range t x)):=by rw[<-sj];rfl
def anv{rest:List Oper}{i}{b}:uv M ops dst rest k σ (.next i b)=qU M ops dst rest k σ (QU M.P σ (.next i b)):=by rw[<-sj];rfl
def abq{rest:List Oper}{x}{t}{u}{b}:uv M ops dst rest k σ (.typeAssert x t u b)=qU M ops dst rest k σ (QU M.P σ (.typeAssert x t u b)):=by rw[<-sj];rfl
def afT{rest:List Oper}{t}{i}:uv M ops dst rest k σ (.extract t i)=qU M ops dst rest k σ (QU M.P σ (.extract t i)):=by rw[<-sj];rfl
def anw{rest:List Oper}{c}:uv M ops dst rest k σ (.call c)=qU M ops dst rest k σ (QU M.P σ (.call c)):=by rw[<-sj];rfl
def akB{rest:List Oper}{c:Call}:uv M ops dst rest k σ (.defer c)=aoW M ops dst rest k σ (DH σ (.defer c)):=rfl
def akC{rest:List Oper}{x:Operand}:uv M ops dst rest k σ (.panic x)=aoX M k σ (Pq σ (.panic x)):=rfl
def aes{a:α}{x:Option R}:mA (a=a) x=x:=by simp [mA]
def anx{rest:List Oper}:Y2 M p o rest j tr k σ none=xw M p o.dst rest j tr k σ (QU M.P σ o.op):=by rw[<-sj];rfl
end
section
variable {k:List Kt}
def anz{rest:List Oper}{x y:Option ux}:qU M ops dst rest k σ (bif b then x else y)=bif b then qU M ops dst rest k σ x else qU M ops dst rest k σ y:=by cases b<;>rfl
def anA{rest:List Oper}{x y:Option (AV×List kq)}:LQ M ops dst rest k σ (bif b then x else y)=bif b then LQ M ops dst rest k σ x else LQ M ops dst rest k σ y:=by cases b<;>rfl
def akD{rest:List Oper}{x y:Option ux}:xw M p dst rest j tr k σ (bif b then x else y)=bif b then xw M p dst rest j tr k σ x else xw M p dst rest j tr k σ y:=by cases b<;>rfl
end
def asC:undef= .tuple #[]:=rfl
def aqp:(¬ True)=False:=by simp
def anB(n:Nat):(0<=(n:Int))=True:=by simp
def akE:((0:Int)<=0)=True:=by simp
def aqq{x y:α}:(bif !b then x else y)=bif b then y else x:=by cases b<;>rfl
def aqr{x:α}:(bif b then x else x)=x:=by cases b<;>rfl
def ayT:(b==true)=b:=by cases b<;>rfl
def ayU:(b==false)= !b:=by cases b<;>rfl
def aqs{p:Prop}[Decidable p]{a b:Option α}{f:α->Option β}:(if p then a else b).bind f=bif decide p then a.bind f else b.bind f:=by
 by_cases h:p<;>simp [h]
def ayV(f:α->β)(xs:List α)(i:Nat):(mp f xs)[i]? =eP f xs[i]? :=by rw[rH,List.getElem?_map]
def ayW(f:α->β)(xs:List α)(i:Nat)(x:α):(mp f xs).set i (f x)=mp f (xs.set i x):=by rw[rH,rH,List.map_set]
def anC {b:Nat}{x:Option R}:mA (room a b) x=bif decide (a*b<=17592186044416) then x else none:=by
 unfold room;exact agX
def aqt{a b:Int}{x:Option R}:mA (a<b) x=bif decide (a<b) then x else none:=agX
theorem Nw(s:Str):(sb s).size=s.length:=by simp [sb,ByteArray.size]
def asD(s:Str)(i:Nat):(sb s)[i]? =s[i]? :=by
 by_cases h:i<s.length
 ·have h':i<(sb s).size:=by rw[Nw];exact h
  rw[dR h,getElem?_pos (sb s) i h'];rfl
 grind [Nw]
def ayX(s:Str)(n:Int):avV (sb s) n=wq s n:=by
 simp only[avV,asD];rfl
theorem PD(s:Str):(sb s).toList=s:=by
 rw[ByteArray.toList_eq];rfl
def anD(s:Str)(a b:Nat):(sb s).extract a b=sb ((s.take b).drop a):=by
 apply ByteArray.ext
 grind [sb,ByteArray.data_extract,List.drop_take]
def aqu(s t:Str):sb s++sb t=sb (s++t):=by
 apply ByteArray.ext;simp [sb]
def asE:ByteArray.empty=sb []:=rfl
def aqv:(⟨#[]⟩:ByteArray)=sb []:=rfl
def ayY(l:List UInt8):(⟨l.toArray⟩:ByteArray)=sb l:=rfl
attribute [go_sem] avn avo ajX ah7 behind amO amP aj3 ah9 ayt amU aia amV aqa amW aj5 amX amY aj7 aj8 aqb aj6 amS aj0 aj1 aj2 amQ ap8 amR asg ajY aAt ayv ayw abl amM stP Px aes avq ayx avr ash amZ aka am0 am6 am7 am8 anq aik anr akt aqo aku abp ail ant akv aeq akw anu afR Xs aer afS acN akx acO aky acP akz aim acQ akA anv abq afT anw akB akC aqd aqe am1 am2 am3 am4 am5 ah8 DH Pq jZ.dfr akm anh ani akd ake LO aqg yieldOf am9 ana anb aqf anc aeg ane akb aib akc anx akf akg akh ank aki akj akk anz anA akD sub child ad5 tG amI Xb anC aqt
attribute [go_sem low] amT aqc ang
attribute [go_sem] asi aqi ach aqj anm aqk ann wo avu LA avs avt ayV ayW aqs anl aql asj asl GK dL avw avx Ve LR GL aso aqm avy avz avA avB avC avD ayz avE avF dI1 dB1 dS1 ayD ayE ayF abo FP dC avG avH avI avJ d2 d3 d4 d5 avK avL avM avN avO avP avQ avR nH aen ny uC Vg qa nR JB aCJ aCK aCL aCI dLt acL aCM aCN aCO aCP aCQ ano avS CS ao1 aif aig ayK q9 ayI ast ayJ asu ixA ixS ldA ldV vwL stA QU aqq aqr ayT ayU Nw ayX asD PD aqu anD asE aqv ayY adL ixP asv au2 aoG W7 ayM ayN aAv ayS mg akn ag4 Y3 rp1 rpV rpO aCS aCT aCU aCV aCW dL1 dF1 dP av0 av1 dK1 dK2 dK3 ayP ayQ ayR daT dcT aAz aAA aAB aAC av2 aAD aAE av3 aAF av4 uE aih aAI aAJ av5 aAK av6 aAL av7 nameOf nameAt nodupB acj Aj aij Option.or_none Option.none_or aqn aqn.asB qw nv AV.pe qQ DI Q8 pm mq k7 jZ.ev jZ.put lU AV.scalar QW QX rowsOf agH YU agJ aa6 eqB eq1 bound W5 ZJ QY Po agK IN KJ yz ad4 frz afL asC List.all_cons List.all_nil Bool.and_true Bool.true_and Bool.and_false Bool.false_and jU if_false List.getD_cons_zero List.getD_cons_succ eg List.length_nil dO List.cons_append eG List.set_cons_zero List.set_cons_succ reduceCtorEq and_true true_and List.append_nil Nat.zero_add eD eE List.getElem?_nil Option.bind_some List.drop_zero List.drop_succ_cons List.drop_nil List.take_succ_cons eI List.take_nil ne_eq aqp Option.isSome_some Option.isSome_none Option.isNone_some Option.isNone_none List.map_cons List.map_nil List.getElem?_toArray Bool.not_true Bool.not_false jM jN Int.toNat_natCast anB akE true_or or_true and_self false_or or_false List.length_map List.set_nil decide_true decide_false Bool.not_not and_false false_and List.length_append eF List.length_replicate beq_self_eq_true anf rj amN ux.idle IV Ag FL List.contains_cons List.contains_nil ep List.isEmpty_cons Bool.or_false Bool.false_or Bool.or_true Bool.true_or ec Bool.false_eq_true Int.cast_ofNat_Int Int.toNat_zero Int.toNat_one List.flatten_cons List.flatten_nil ey Option.map_some Option.map_none
def aet{n:Nat}: ∀{a b:List (List AV)},MU n (a++b)=(MU n a/\MU n b)
 |[],_=>by simp [MU]
 |x::a,b=>by simp [MU,aet (a:=a),and_assoc]
def akF{c:AV}:l9 false n (c::cs)=some c:=rfl
def akG{c:AV}:l9 true n (c::cs)=if n<=(c::cs).length then some (.agg ((c::cs).take n)) else none:=rfl
def akH{c:AV}:cellsOf (.agg (c::cs))=if (c::cs).all AV.scalar then some (c::cs) else none:=rfl
def akI:(∀b,cellsOf (.bool b)=some [.bool b])/\(∀k n,cellsOf (.int k n)=some [.int k n])/\(∀s,cellsOf (.str s)=some [.str s])/\(∀t sz r,cellsOf (.mb t sz r)=some [.mb t sz r])/\
 (∀l n,cellsOf (.acc l n)=some [.acc l n])/\(∀a b c d e,cellsOf (.own a b c d e)=some [.own a b c d e])/\(∀a b,cellsOf (.ptr a b)=some [.ptr a b])/\(∀a,cellsOf (.map a)=some [.map a])/\
 (∀cs,cellsOf (.pp cs)=some [.pp cs])/\(∀fn f c,cellsOf (.func fn f c)=some [.func fn f c])/\(∀t x,cellsOf (.iface t x)=some [.iface t x])/\cellsOf (.raw .nilFunc)=some [.raw .nilFunc]/\cellsOf (.raw .nilIface)=some [.raw .nilIface]/\
 (∀a,cellsOf (.raw (.pointer a))=some [.raw (.pointer a)])/\(∀a,cellsOf (.raw (.map a))=some [.raw (.map a)]):=
 ⟨fun _=>rfl,fun _ _=>rfl,fun _=>rfl,fun _ _ _=>rfl,fun _ _=>rfl,fun _ _ _ _ _=>rfl,fun _ _=>rfl,fun _=>rfl,fun _=>rfl,fun _ _ _=>rfl,fun _ _=>rfl,rfl,rfl,fun _=>rfl,fun _=>rfl⟩
def anE{c:AV}{o:Nat}{xs:List AV}:uP (c::cs) o xs=(c::cs).take o++xs++(c::cs).drop (o+xs.length):=rfl
def anF {xs:List AV}(h:xs.length=cs.length):uP cs 0 xs=xs:=by
 grind [uP]
attribute [go_sem] akF akG akH akI anF
attribute [go_sem low] anE
attribute [go_sem] AV.nb vK MU qk aet or_true
def aeu(P:Program):Nat->List Field->List AV->List AV->Prop
 |_,[],[],[]=>True
 |o,f::fs,c::cs,d::ds=>(f.name≠ "_" /\f.offset=o/\P.plainKey f.type=true/\(match c,d with
  | .int k _,.int k' _=>k=k'/\ ∃q,P.underlying f.type=some (.int q)
  | .bool _,.bool _=>P.underlying f.type=some .bool
  | .str _,.str _=>P.underlying f.type=some .string
  |_,_=>False))/\aeu P (o+1) fs cs ds
 |_,_,_,_=>False
def Yc{P:Program}{E:Env}{vs us:Array Value}{w:World}{d:Nat}: ∀(fs:List Field)(o:Nat)(cs ds:List AV),aeu P o fs cs ds->kC E cs (vs.toList.drop o)->kC E ds (us.toList.drop o)->
 (Op.eqFields (d+1) vs us fs).run P w= .ok (eqB cs ds) w
 |[],_,[],[],_,_,_=>by simp [Op.eqFields,eqB]
 |[],_,_::_,_,h,_,_=>h.elim
 |[],_,[],_::_,h,_,_=>h.elim
 |_::_,_,[],_,h,_,_=>h.elim
 |_::_,_,_::_,[],h,_,_=>h.elim
 |f::fs,o,c::cs,e::ds,⟨⟨h1,h2,h3,h4⟩,h5⟩,r1,r2=>by
  obtain⟨u,us',e1,r1,r1'⟩:=r1;obtain⟨v,vs',e2,r2,r2'⟩:=r2
  have g1:vs[f.offset]? =some u:=by
   have:=congrArg (fun l:List Value=>l[0]?) e1;rw[h2];simpa using this
  have g2:us[f.offset]? =some v:=by
   have:=congrArg (fun l:List Value=>l[0]?) e2;rw[h2];simpa using this
  have t1:vs.toList.drop (o+1)=us':=by
   have:=congrArg List.tail e1;simpa using this
  have t2:us.toList.drop (o+1)=vs':=by
   have:=congrArg List.tail e2;simpa using this
  have ih:=Yc (d:=d) (w:=w) fs (o+1) cs ds h5 (by rw[t1];exact r1') (by rw[t2];exact r2')
  have hone:(Op.equalIn (d+1) f.type u v).run P w= .ok (eq1 c e) w:=by
   cases c<;>cases e<;>try exact h4.elim
   ·cases r1;cases r2;exact run_equalIn_bool _ d f.type _ _ h4
   ·obtain⟨rfl,q,hq⟩:=h4;cases r1;cases r2;exact run_equalIn_int _ d f.type _ q _ _ hq
   ·cases r1;cases r2;exact run_equalIn_string _ d f.type _ _ h4
  simp only[Op.eqFields,h1,ne_eq,not_false_eq_true,jU,Sem.run_bind,run_part_plain w h3 g1,run_part_plain w h3 g2,hone,Result.andThen_ok,eqB];cases eq1 c e
  ·simp
  ·simpa using ih
def anG{t:TypeId}{ds:List AV}(ht:P.underlying t=some (.struct (P.fieldsOf t)))(hp:P.stoodInHeld t=false)(hg:P.eqGuardType P.depth t=false)
 (hf:aeu P 0 (P.fieldsOf t).toList cs ds):agI P t cs ds:=by
 intro E vs us w x y h1 h2
 have hq:(Op.equal t (.agg vs) (.agg us)).run P w= .ok (eqB cs ds) w:=by
  show(Op.equalIn (9999+1) t _ _).run P w=_;rw[run_equalIn_struct w 9999 t vs us ht hp];exact Yc (d:=9998) _ 0 cs ds hf (by simpa using h1) (by simpa using h2)
 simp_all [eqGuard,binOp]
mutual
theorem Xd{τ τ':Nat->Nat}{n:Nat}(h: ∀l,l<n->τ l=τ' l): ∀x:AV,x.nb n->x.pe τ=x.pe τ'
 | .agg cs,k| .FI cs,k| .pp cs,k=>by simp only[AV.pe];rw[A5 h cs k]
 | .mb _ _ rows,k=>by simp only[AV.pe];rw[Y5 h rows k]
 | .acc l _,k| .own l _ _ _ _,k| .ptr l _,k| .map l,k=>by simp only[AV.pe];rw[h l k]
 | .func _ f c,k=>by simp only[AV.pe];rw[A5 h f k.1,A5 h c k.2]
 | .iface _ x,k=>by simp only[AV.pe];rw[Xd h x k]
 | .any,_| .bool _,_| .int _ _,_| .str _,_| .raw _,_=>rfl
theorem A5{τ τ':Nat->Nat}{n:Nat}(h: ∀l,l<n->τ l=τ' l): ∀xs:List AV,vK n xs->qQ τ xs=qQ τ' xs
 |[],_=>rfl
 |x::xs,k=>by simp only[qQ];rw[Xd h x k.1,A5 h xs k.2]
theorem Y5{τ τ':Nat->Nat}{n:Nat}(h: ∀l,l<n->τ l=τ' l): ∀xs:List (List AV),MU n xs->DI τ xs=DI τ' xs
 |[],_=>rfl
 |x::xs,k=>by simp only[DI];rw[A5 h x k.1,Y5 h xs k.2]
end
mutual
def asF{τ:Nat->Nat}{n m:Nat}(h: ∀l,l<n->τ l<m): ∀x:AV,x.nb n->(x.pe τ).nb m
 | .agg cs,k| .FI cs,k| .pp cs,k=>Rh h cs k
 | .mb _ _ rows,k=>ao4 h rows k
 | .acc l _,k| .own l _ _ _ _,k| .ptr l _,k| .map l,k=>h l k
 | .func _ f c,k=>⟨Rh h f k.1,Rh h c k.2⟩
 | .iface _ x,k=>asF h x k
 | .any,_| .bool _,_| .int _ _,_| .str _,_| .raw _,_=>trivial
def Rh{τ:Nat->Nat}{n m:Nat}(h: ∀l,l<n->τ l<m): ∀xs:List AV,vK n xs->vK m (qQ τ xs)
 |[],_=>trivial
 |x::xs,k=>⟨asF h x k.1,Rh h xs k.2⟩
def ao4{τ:Nat->Nat}{n m:Nat}(h: ∀l,l<n->τ l<m): ∀xs:List (List AV),MU n xs->MU m (DI τ xs)
 |[],_=>trivial
 |x::xs,k=>⟨Rh h x k.1,ao4 h xs k.2⟩
end
theorem aad {τ':Nat->Nat}(h: ∀l,l<n->τ l=τ' l)(x:kq)(k:qk n x):x.pe τ=x.pe τ':=by
 cases x with
 |cells cs=>simp only[kq.pe];rw[A5 h cs k]
 |acc rT sz rows=>simp only[kq.pe];rw[Y5 h rows k]
 |map es=>
  simp only[kq.pe];congr 1;refine ek fun p hp=> ?_
  rw[Xd h _ (k p hp).1,Xd h _ (k p hp).2]
 |loop lk slots st rQ=>simp only[kq.pe];rw[A5 h slots k]
 |iter s p=>rfl
 |dead=>rfl
def Co1.Ri {y:AV}(h:Co1 [] n x y):Sub x y:=by
 rcases h with h|⟨l,m,sz,rows,_,h,_⟩
 ·exact h.1
 ·simp at h
def pE.Ri: ∀{xs ys:List AV},pE [] n xs ys->qv xs ys
 |[],_,rfl=>qv.nil
 |_::_,_,⟨_,_,rfl,h,hs⟩=>qv.cons h.Ri hs.Ri
def Co.Ri {y:AV}(h:Co [] n x y):Sub x y:=by
 rcases h with h|⟨cs,ds,rfl,rfl,h⟩
 ·exact h.Ri
 ·rintro E v ⟨vs,rfl,hv⟩;exact⟨vs,rfl,h.Ri E _ hv⟩
def qv.func{f:Fn}{xs:List AV}(h:qv xs ys):Sub (.func f [] xs) (.func f [] ys):=by
 rintro E v ⟨a,b,rfl,h1,h2⟩;exact⟨a,b,rfl,h1,h E _ h2⟩
abbrev BN:=Nat->Nat
variable {L:BN}
def atN(ρ:List Nat)(k:Nat):Nat:=ρ.getD k 0
def Cov(ρ:List Nat)(need n:Nat):Prop:= ∀k,k<need-> ∃l,ρ[k]? =some l/\l<n
def Cov.mono {b:Nat}(h:Cov ρ b n)(k:a<=b):Cov ρ a n:=fun i hi=>h i (by omega)
def Cov.lt(h:Cov ρ a n): ∀l,l<a->atN ρ l<n:=by
 intro l hl;obtain⟨k,hk,hn⟩:=h l hl
 grind [atN]
theorem Y6(h:ρ[k]? =some l):atN ρ k=l:=by unfold atN;rw[List.getD,h];rfl
section aAN

structure VL(γ:Type) where
 enc:BN->γ->List AV
 dec:List Nat->BN->List AV->Option γ
 need:Nat
 nb: ∀L g,vK need (enc L g)
 ok: ∀ρ L vs g,dec ρ L vs=some g->qv vs (qQ (atN ρ) (enc L g))
def anH:List AV->Option Unit
 |[]=>some ()
 |_=>none
def vlN:VL Unit where
 enc _ _:=[]
 dec _ _:=anH
 need:=0
 nb _ _:=trivial
 ok ρ L vs g h:=by
  unfold anH at h;split at h
  ·exact qv.nil
  ·cases h
def av9(t:Ty γ)(s:VL δ)(ρ:List Nat)(L:BN):List AV->Option (γ×δ)
 |x::xs=>(t.dec [] x).bind fun y=>(s.dec ρ L xs).bind fun a=>some (y,a)
 |[]=>none
def vlT(t:Ty γ)(s:VL δ):VL (γ×δ) where
 enc L g:=t.enc g.1::s.enc L g.2
 dec:=av9 t s
 need:=s.need
 nb L g:=⟨t.nb _ _,s.nb L g.2⟩
 ok ρ L vs g h:=by
  unfold av9 at h;split at h
  ·simp only[dM,dN] at h;obtain⟨y,hy,a,ha,rfl⟩:=h;refine qv.cons ?_ (s.ok ρ L _ _ ha);rw[IU _ _ (t.nb 0 y)];exact(t.ok [] 0 _ _ hy).Ri
  ·cases h
def awa(k:Nat)(s:VL δ)(ρ:List Nat)(L:BN):List AV->Option δ
 | .ptr l off::xs=>bif decide (off=0/\ρ[k]? =some l) then s.dec ρ L xs else none
 |_=>none
def vlP (k:Nat) (s:VL δ):VL δ where
 enc L g:= .ptr k 0::s.enc L g
 dec:=awa k s
 need:=max (k+1) s.need
 nb L g:=⟨show k<_ by omega,rn (by omega) _ (s.nb L g)⟩
 ok ρ L vs g h:=by
  unfold awa at h;split at h
  ·rename_i l off xs;cases hc:decide (off=0/\ρ[k]? =some l) with
   |false=>simp [hc] at h
   |true=>
    simp only[hc,jM] at h;obtain⟨rfl,hc'⟩:=jQ hc;refine qv.cons ?_ (s.ok ρ L _ _ h)
    grind [AV.pe,Y6,Sub.refl]
  ·cases h
def awb(k:Nat)(s:VL δ)(ρ:List Nat)(L:BN):List AV->Option δ
 | .map l::xs=>bif decide (ρ[k]? =some l) then s.dec ρ L xs else none
 |_=>none
def vlM (k:Nat) (s:VL δ):VL δ where
 enc L g:= .map k::s.enc L g
 dec:=awb k s
 need:=max (k+1) s.need
 nb L g:=⟨show k<_ by omega,rn (by omega) _ (s.nb L g)⟩
 ok ρ L vs g h:=by
  unfold awb at h;split at h
  ·rename_i l xs;cases hc:decide (ρ[k]? =some l) with
   |false=>simp [hc] at h
   |true=>
    simp only[hc,jM] at h;have hc:=jQ hc;refine qv.cons ?_ (s.ok ρ L _ _ h)
    grind [AV.pe,Y6,Sub.refl]
  ·cases h
def awc(f:FuncId)(c:VL γ)(s:VL δ)(ρ:List Nat)(L:BN):List AV->Option (γ×δ)
 | .func (.func f') [] cs::xs=>bif decide (f'=f) then(c.dec ρ L cs).bind fun y=>(s.dec ρ L xs).bind fun a=>some (y,a) else none
 |_=>none
def vlF (f:FuncId) (c:VL γ) (s:VL δ):VL (γ×δ) where
 enc L g:= .func (.func f) [] (c.enc L g.1)::s.enc L g.2
 dec:=awc f c s
 need:=max c.need s.need
 nb L g:=⟨⟨trivial,rn (by omega) _ (c.nb L g.1)⟩,rn (by omega) _ (s.nb L g.2)⟩
 ok ρ L vs g h:=by
  unfold awc at h;split at h
  ·rename_i f' cs xs;cases hc:decide (f'=f) with
   |false=>simp [hc] at h
   |true=>
    simp only[hc,jM,dM,dN] at h;obtain⟨y,hy,a,ha,rfl⟩:=h;obtain rfl:=jQ hc;refine qv.cons ?_ (s.ok ρ L _ _ ha);simp only[AV.pe,qQ];exact(c.ok ρ L _ _ hy).func
  ·cases h
def aAO:(∀L g,vlN.enc L g=[])/\ ∀ρ L xs,vlN.dec ρ L xs=anH xs:=⟨fun _ _=>rfl,fun _ _ _=>rfl⟩
def aAP{t:Ty γ}{s:VL δ}:(∀L g,(vlT t s).enc L g=t.enc g.1::s.enc L g.2)/\ ∀ρ L xs,(vlT t s).dec ρ L xs=av9 t s ρ L xs:=⟨fun _ _=>rfl,fun _ _ _=>rfl⟩
def aAQ{s:VL δ}:(∀L g,(vlP k s).enc L g= .ptr k 0::s.enc L g)/\ ∀ρ L xs,(vlP k s).dec ρ L xs=awa k s ρ L xs:=⟨fun _ _=>rfl,fun _ _ _=>rfl⟩
def aAR{s:VL δ}:(∀L g,(vlM k s).enc L g= .map k::s.enc L g)/\ ∀ρ L xs,(vlM k s).dec ρ L xs=awb k s ρ L xs:=⟨fun _ _=>rfl,fun _ _ _=>rfl⟩
def aAS{c:VL γ}{s:VL δ}:(∀L g,(vlF f c s).enc L g= .func (.func f) [] (c.enc L g.1)::s.enc L g.2)/\ ∀ρ L xs,(vlF f c s).dec ρ L xs=awc f c s ρ L xs:=⟨fun _ _=>rfl,fun _ _ _=>rfl⟩
structure AL(γ:Type) where
 enc:BN->γ->List AV
 dec:List Nat->BN->List kq->List AV->Option γ
 need:Nat
 nb: ∀L g,vK need (enc L g)
 ok: ∀ρ L H n vs g,Cov ρ need n->dec ρ L H vs=some g->B9 H n vs (qQ (atN ρ) (enc L g))
def kP:AL Unit where
 enc _ _:=[]
 dec _ _ _:=anH
 need:=0
 nb _ _:=trivial
 ok ρ L H n vs g _ h:=by
  unfold anH at h;split at h
  ·exact B9.nil
  ·cases h
def awd(t:Ty γ)(s:AL δ)(ρ:List Nat)(L:BN)(H:List kq):List AV->Option (γ×δ)
 |x::xs=>(t.dec H x).bind fun y=>(s.dec ρ L H xs).bind fun a=>some (y,a)
 |[]=>none
def mh(t:Ty γ)(s:AL δ):AL (γ×δ) where
 enc L g:=t.enc g.1::s.enc L g.2
 dec:=awd t s
 need:=s.need
 nb L g:=⟨t.nb _ _,s.nb L g.2⟩
 ok ρ L H n vs g hc h:=by
  unfold awd at h;split at h
  ·simp only[dM,dN] at h;obtain⟨y,hy,a,ha,rfl⟩:=h;refine B9.cons ?_ (s.ok ρ L H n _ _ hc ha);rw[IU _ _ (t.nb 0 y)];exact t.ok H n _ _ hy
  ·cases h
def awe(c:UV γ)(k:Nat)(s:AL δ)(ρ:List Nat)(L:BN)(H:List kq)(xs:List AV):Option (γ×δ):=
 (c.dec H (xs.take k)).bind fun y=>(s.dec ρ L H (xs.drop k)).bind fun a=>some (y,a)
def pE.append': ∀{xs ys us vs:List AV},pE H n xs ys->B9 H n us vs->B9 H n (xs++us) (ys++vs)
 |[],_,_,_,rfl,h=>h
 |_::_,_,_,_,⟨y,zs,rfl,h,hs⟩,h2=>⟨y,zs++_,rfl,.inl h,pE.append' hs h2⟩
def alC(c:UV γ)(k:Nat)(s:AL δ):AL (γ×δ) where
 enc L g:=c.enc g.1++s.enc L g.2
 dec:=awe c k s
 need:=s.need
 nb L g:=IT (c.nb _ _) (s.nb L g.2)
 ok ρ L H n vs g hc h:=by
  unfold awe at h;simp only[dM,dN] at h;obtain⟨y,hy,a,ha,rfl⟩:=h;rw[U7,rR _ _ (c.nb 0 y),<-eJ k vs];exact pE.append' (c.ok H n _ _ hy) (s.ok ρ L H n _ _ hc ha)
def awf(k:Nat)(s:AL δ)(ρ:List Nat)(L:BN)(H:List kq):List AV->Option δ
 | .ptr l off::xs=>bif decide (off=0/\ρ[k]? =some l) then s.dec ρ L H xs else none
 |_=>none
def lS (k:Nat) (s:AL δ):AL δ where
 enc L g:= .ptr k 0::s.enc L g
 dec:=awf k s
 need:=max (k+1) s.need
 nb L g:=⟨show k<_ by omega,rn (by omega) _ (s.nb L g)⟩
 ok ρ L H n vs g hv h:=by
  unfold awf at h;split at h
  ·rename_i l off xs;cases hc:decide (off=0/\ρ[k]? =some l) with
   |false=>simp [hc] at h
   |true=>
    simp only[hc,jM] at h;obtain⟨rfl,hc'⟩:=jQ hc;refine B9.cons ?_ (s.ok ρ L H n _ _ (hv.mono (by omega)) h);have hl:=hv.lt k (by omega);simp only[AV.pe];rw[Y6 hc'] at hl ⊢;exact Co.same hl
  ·cases h
def awg(k:Nat)(s:AL δ)(ρ:List Nat)(L:BN)(H:List kq):List AV->Option δ
 | .map l::xs=>bif decide (ρ[k]? =some l) then s.dec ρ L H xs else none
 |_=>none
def ZE (k:Nat) (s:AL δ):AL δ where
 enc L g:= .map k::s.enc L g
 dec:=awg k s
 need:=max (k+1) s.need
 nb L g:=⟨show k<_ by omega,rn (by omega) _ (s.nb L g)⟩
 ok ρ L H n vs g hv h:=by
  unfold awg at h;split at h
  ·rename_i l xs;cases hc:decide (ρ[k]? =some l) with
   |false=>simp [hc] at h
   |true=>
    simp only[hc,jM] at h;have hc':=jQ hc;refine B9.cons ?_ (s.ok ρ L H n _ _ (hv.mono (by omega)) h);have hl:=hv.lt k (by omega);simp only[AV.pe];rw[Y6 hc'] at hl ⊢;exact Co.same hl
  ·cases h
def awh(k:Nat)(s:AL δ)(ρ:List Nat)(L:BN)(H:List kq):List AV->Option δ
 | .acc l m::xs=>bif decide (m=L k/\ρ[k]? =some l) then s.dec ρ L H xs else none
 |_=>none
def alA (k:Nat) (s:AL δ):AL δ where
 enc L g:= .acc k (L k)::s.enc L g
 dec:=awh k s
 need:=max (k+1) s.need
 nb L g:=⟨show k<_ by omega,rn (by omega) _ (s.nb L g)⟩
 ok ρ L H n vs g hv h:=by
  unfold awh at h;split at h
  ·rename_i l m xs;cases hc:decide (m=L k/\ρ[k]? =some l) with
   |false=>simp [hc] at h
   |true=>
    simp only[hc,jM] at h;obtain⟨rfl,hc'⟩:=jQ hc;refine B9.cons ?_ (s.ok ρ L H n _ _ (hv.mono (by omega)) h);have hl:=hv.lt k (by omega);simp only[AV.pe];rw[Y6 hc'] at hl ⊢;exact Co.same hl
  ·cases h
def awi(f:FuncId)(c:VL γ)(s:AL δ)(ρ:List Nat)(L:BN)(H:List kq):List AV->Option (γ×δ)
 | .func (.func f') [] cs::xs=>bif decide (f'=f) then(c.dec ρ L cs).bind fun y=>(s.dec ρ L H xs).bind fun a=>some (y,a) else none
 |_=>none
def alF (f:FuncId) (c:VL γ) (s:AL δ):AL (γ×δ) where
 enc L g:= .func (.func f) [] (c.enc L g.1)::s.enc L g.2
 dec:=awi f c s
 need:=max c.need s.need
 nb L g:=⟨⟨trivial,rn (by omega) _ (c.nb L g.1)⟩,rn (by omega) _ (s.nb L g.2)⟩
 ok ρ L H n vs g hv h:=by
  unfold awi at h;split at h
  ·rename_i f' cs xs;cases hc:decide (f'=f) with
   |false=>simp [hc] at h
   |true=>
    simp only[hc,jM,dM,dN] at h;obtain⟨y,hy,a,ha,rfl⟩:=h;obtain rfl:=jQ hc;refine B9.cons ?_ (s.ok ρ L H n _ _ (hv.mono (by omega)) ha);simp only[AV.pe,qQ];exact Co.sub (c.ok ρ L _ _ hy).func ⟨trivial,Rh (hv.mono (a:=c.need) (by omega)).lt _ (c.nb L y)⟩
  ·cases h
def awj(s:AL δ)(ρ:List Nat)(L:BN)(H:List kq):List AV->Option δ
 |_::xs=>s.dec ρ L H xs
 |_=>none
def alZ(s:AL δ):AL δ where
 enc L g:= .any::s.enc L g
 dec:=awj s
 need:=s.need
 nb L g:=⟨trivial,s.nb L g⟩
 ok ρ L H n vs g hv h:=by
  unfold awj at h;split at h
  ·exact B9.cons Co.any (s.ok ρ L H n _ _ hv h)
  ·cases h
def aae:Nat->AL δ->AL δ
 |0,s=>s
 |n+1,s=>alZ (aae n s)
def aAT:(∀L g,kP.enc L g=[])/\(∀ρ L H xs,kP.dec ρ L H xs=anH xs)/\kP.need=0:=⟨fun _ _=>rfl,fun _ _ _ _=>rfl,rfl⟩
def aAU{t:Ty γ}{s:AL δ}:(∀L g,(mh t s).enc L g=t.enc g.1::s.enc L g.2)/\(∀ρ L H xs,(mh t s).dec ρ L H xs=awd t s ρ L H xs)/\(mh t s).need=s.need:=⟨fun _ _=>rfl,fun _ _ _ _=>rfl,rfl⟩
def aAV{c:UV γ}{s:AL δ}:(∀L g,(alC c k s).enc L g=c.enc g.1++s.enc L g.2)/\(∀ρ L H xs,(alC c k s).dec ρ L H xs=awe c k s ρ L H xs)/\(alC c k s).need=s.need:=⟨fun _ _=>rfl,fun _ _ _ _=>rfl,rfl⟩
def aAW{s:AL δ}:(∀L g,(lS k s).enc L g= .ptr k 0::s.enc L g)/\(∀ρ L H xs,(lS k s).dec ρ L H xs=awf k s ρ L H xs)/\(lS k s).need=max (k+1) s.need:=⟨fun _ _=>rfl,fun _ _ _ _=>rfl,rfl⟩
def aAX{s:AL δ}:(∀L g,(ZE k s).enc L g= .map k::s.enc L g)/\(∀ρ L H xs,(ZE k s).dec ρ L H xs=awg k s ρ L H xs)/\(ZE k s).need=max (k+1) s.need:=⟨fun _ _=>rfl,fun _ _ _ _=>rfl,rfl⟩
def aAY{s:AL δ}:(∀L g,(alA k s).enc L g= .acc k (L k)::s.enc L g)/\(∀ρ L H xs,(alA k s).dec ρ L H xs=awh k s ρ L H xs)/\(alA k s).need=max (k+1) s.need:=⟨fun _ _=>rfl,fun _ _ _ _=>rfl,rfl⟩
def aAZ{c:VL γ}{s:AL δ}:(∀L g,(alF f c s).enc L g= .func (.func f) [] (c.enc L g.1)::s.enc L g.2)/\(∀ρ L H xs,(alF f c s).dec ρ L H xs=awi f c s ρ L H xs)/\(alF f c s).need=max c.need s.need:=⟨fun _ _=>rfl,fun _ _ _ _=>rfl,rfl⟩
def aA0{s:AL δ}:(∀L g,(alZ s).enc L g= .any::s.enc L g)/\(∀ρ L H xs,(alZ s).dec ρ L H xs=awj s ρ L H xs)/\(alZ s).need=s.need:=⟨fun _ _=>rfl,fun _ _ _ _=>rfl,rfl⟩
end aAN
def B6 {m:Nat}(h:n<=m)(x:kq)(k:qk n x):qk m x:=by
 cases x with
 |cells cs=>exact rn h _ k
 |acc rT sz rows=>exact ahO h _ k
 |map es=>exact fun p hp=>⟨AV.ab4 h _ (k p hp).1,AV.ab4 h _ (k p hp).2⟩
 |loop lk slots st rQ=>exact rn h _ k
 |iter s p=>trivial
 |dead=>trivial
def anI(hlen:ρ.length=Ys.length)(hnd:ρ.Nodup)(hid: ∀k,k<low->ρ[k]? =some k)
 (hl:low<=Ys.length) (hnb:vK Ys.length ys) (Ft: ∀y∈Ys,qk Ys.length y)
 (Kq: ∀(i k:Nat)(y:kq),ρ[i]? =some k->Ys[i]? =some y->H[k]? =some (y.pe (atN ρ))):
 GF ⟨qQ (atN ρ) ys,H,low,[]⟩ ⟨ys,Ys,low,[]⟩:=by
 intro C φ a w S
 let φ':Nat->Value:=fun k=>φ (atN ρ k)
 have hρ: ∀k,k<Ys.length->ρ[k]? =some (atN ρ k):=by
  grind [Y6]
 have nr: ∀(k:Nat)(y:kq),Ys[k]? =some y->k<Ys.length/\H[atN ρ k]? =some (y.pe (atN ρ)):=by
  grind
 have aDD: ∀k,k<low->atN ρ k=k:=fun k hk=>Y6 (hid k hk)
 have hinj: ∀k k',k<Ys.length->k'<Ys.length->atN ρ k=atN ρ k'->k=k':=by
  intro k k' hk hk' he;have h1:=hρ k hk;have h2:=hρ k' hk';rw[<-he] at h2;have e1:=Z4 ρ k _ hnd h1
  grind [Z4]
 have Km: ∀b o,Eh φ' Ys b o->Eh φ H b o:=by
  rintro b o ⟨k,z,hz,hm⟩;exact⟨_,_,(nr k z hz).2,Pt.2 hm⟩
 have un:ajI Ys.length (atN ρ) (C.env φ H w) (C.env φ' Ys w):=by
  refine⟨ec _,fun k hk=>⟨rfl,?_⟩,fun b o u hm hc=>⟨fun h=>hm (h.imp (Km b o) id),hc⟩⟩;show lT Ys[k]? =lT H[atN ρ k]?
  grind [CM]
 have A2:qT C φ' Ys w [] a.defers:=S.defers.ajm (fun xs vs ⟨f,hf⟩ _=>(by cases hf)) (fun _ _ _=>rfl) (fun k z b hz hb=> .inl ⟨_,_,(nr k z hz).2,Ah.2 hb⟩);refine⟨φ',{slots:=kC.AT un _ _ hnb S.slots,defers:=A2,nN:= ?_,apart:= ?_,sE:= ?_,size:=S.size,old:=S.old,nj:=S.nj,B8:= ?_,u1:=S.u1,rest:=S.rest,low:=⟨S.low.1,hl⟩,names:= ?_}⟩
 ·intro k z hz;exact nG.AT un (Ft z (ez hz)) (fun _ _=>rfl) (S.nN _ _ (nr k z hz).2)
 ·intro k k' z z' b hz hz' hb hb';refine hinj k k' (nr k z hz).1 (nr k' z' hz').1 (S.apart _ _ _ _ b (nr k z hz).2 (nr k' z' hz').2 (Ah.2 hb) (Ah.2 hb'))
 ·intro k z b o hz hb;exact S.sE _ _ b o (nr k z hz).2 (Ah.2 hb)
 ·intro k z b o hz hm hb;exact S.B8 _ _ b o (nr k z hz).2 (Pt.2 hm) hb
 ·intro k hk;have hk':k<low:=by have:=S.low.1;simp only at this;omega
  have hn:=S.names k hk
  grind [CM]
section nN

structure OG(γ:Type) where
 enc:BN->γ->kq
 dec:List Nat->BN->List kq->kq->Option γ
 len:γ->Nat
 need:Nat
 nb: ∀L g,qk need (enc L g)
 ok: ∀ρ L H n x g,Cov ρ need n->dec ρ L H x=some g->LL H n x ((enc L g).pe (atN ρ))
 aev: ∀ρ L H x g,dec ρ L H x=some g->len g=(lT (some x)).getD 0
def ack{α β:Type}{f:α->Option β}: ∀{xs:List α}{ys:List β},ql f xs=some ys->ys.length=xs.length
 |[],ys,h=>by grind [ql]
 |x::xs,ys,h=>by
  simp only[ql,dM,dN] at h;obtain⟨y,hy,zs,hz,rfl⟩:=h;simp [ack hz]
def ogA(rT:Bool)(r:Row α):OG (List α) where
 enc _ xs:= .acc rT r.sz (mp r.enc xs)
 dec _ _ _:=daT rT r
 len xs:=xs.length
 need:=0
 nb L g:=xy g
 ok ρ L H n x g _ h:=by
  have:=(oaT rT r).ok H n x g h
  grind [oaT]
 aev ρ L H x g h:=by
  unfold daT at h;split at h
  ·split at h
   ·exact ack h
   ·cases h
  ·cases h
def asG(c:AL γ)(ρ:List Nat)(L:BN)(H:List kq):kq->Option γ
 | .cells cs=>c.dec ρ L H cs
 |_=>none
def QV(c:AL γ):OG γ where
 enc L g:= .cells (c.enc L g)
 dec:=asG c
 len _:=0
 need:=c.need
 nb L g:=c.nb L g
 ok ρ L H n x g hv h:=by
  unfold asG at h;split at h
  ·exact .inr (.inr (.inl ⟨_,_,rfl,rfl,c.ok ρ L H n _ _ hv h⟩))
  ·cases h
 aev ρ L H x g h:=by
  unfold asG at h;split at h
  ·rfl
  ·cases h
def aA1{rT:Bool}{r:Row α}:(∀L g,(ogA rT r).enc L g= .acc rT r.sz (mp r.enc g))/\(∀ρ L H x,(ogA rT r).dec ρ L H x=daT rT r x)/\(∀g,(ogA rT r).len g=g.length)/\(ogA rT r).need=0:=⟨fun _ _=>rfl,fun _ _ _ _=>rfl,fun _=>rfl,rfl⟩
def aA2{c:AL γ}:(∀L g,(QV c).enc L g= .cells (c.enc L g))/\(∀ρ L H x,(QV c).dec ρ L H x=asG c ρ L H x)/\(∀g,(QV c).len g=0)/\(QV c).need=c.need:=⟨fun _ _=>rfl,fun _ _ _ _=>rfl,fun _=>rfl,rfl⟩
structure OL(β:Type) where
 enc:BN->β->List kq
 dec:List Nat->BN->List kq->List kq->Option β
 lens:β->BN
 size:Nat
 need:Nat
 sz: ∀L b,(enc L b).length=size
 nb: ∀L b,∀y∈enc L b,qk need y
 ok: ∀ρ L H n xs b,Cov ρ need n->dec ρ L H xs=some b->xs.length=size/\ ∀(i:Nat)(y:kq),(enc L b)[i]? =some y-> ∃x,xs[i]? =some x/\LL H n x (y.pe (atN ρ))
 GK: ∀ρ L H xs b,dec ρ L H xs=some b->xs.length=size
 abr: ∀ρ L H xs b,dec ρ L H xs=some b-> ∀k,lens b k=(lT xs[k]?).getD 0
def aqw:List kq->Option Unit
 |[]=>some ()
 |_=>none
def Fv:OL Unit where
 enc _ _:=[]
 dec _ _ _:=aqw
 lens _ _:=0
 size:=0
 need:=0
 sz _ _:=rfl
 nb _ _:=by simp
 ok ρ L H n xs b _ h:=by
  grind [aqw]
 GK ρ L H xs b h:=by
  grind [aqw]
 abr ρ L H xs b h k:=by
  unfold aqw at h;split at h
  ·rfl
  ·cases h
def aqx(o:OG γ)(s:OL β)(ρ:List Nat)(L:BN)(H:List kq):List kq->Option (γ×β)
 |x::xs=>(o.dec ρ L H x).bind fun y=>(s.dec ρ L H xs).bind fun b=>some (y,b)
 |[]=>none
def acR(a:Nat)(f:BN):BN
 |0=>a
 |k+1=>f k
def CH(o:OG γ)(s:OL β):OL (γ×β) where
 enc L b:=o.enc L b.1::s.enc L b.2
 dec:=aqx o s
 lens b:=acR (o.len b.1) (s.lens b.2)
 size:=s.size+1
 need:=max o.need s.need
 sz L b:=by rw[eg,s.sz]
 nb L b y hy:=by
  simp only[eB] at hy;rcases hy with rfl|hy
  ·exact B6 (by omega) _ (o.nb L _)
  ·exact B6 (by omega) _ (s.nb L _ y hy)
 ok ρ L H n xs b hv h:=by
  unfold aqx at h;split at h
  ·rename_i x xs;simp only[dM,dN] at h;obtain⟨y,hy,b,hb,rfl⟩:=h;obtain⟨h1,h2⟩:=s.ok ρ L H n _ _ (hv.mono (by omega)) hb;refine⟨by rw[eg,h1],fun i z hz=> ?_⟩;cases i with
   |zero=>simp at hz;subst hz;exact⟨x,by simp,o.ok ρ L H n _ _ (hv.mono (by omega)) hy⟩
   |succ i=>grind
  ·cases h
 GK ρ L H xs b h:=by
  unfold aqx at h;split at h
  ·simp only[dM,dN] at h;obtain⟨y,hy,b,hb,rfl⟩:=h;rw[eg,s.GK _ _ _ _ _ hb]
  ·cases h
 abr ρ L H xs b h k:=by
  unfold aqx at h;split at h
  ·simp only[dM,dN] at h;obtain⟨y,hy,b,hb,rfl⟩:=h;cases k with
   |zero=>simp only[acR,eD];exact o.aev ρ L H _ _ hy
   |succ k=>simp only[acR,eE];exact s.abr ρ L H _ _ hb k
  ·cases h
def aA3:(∀L b,Fv.enc L b=[])/\(∀ρ L H xs,Fv.dec ρ L H xs=aqw xs)/\(∀b k,Fv.lens b k=0)/\Fv.size=0/\Fv.need=0:=⟨fun _ _=>rfl,fun _ _ _ _=>rfl,fun _ _=>rfl,rfl,rfl⟩
def aA4{o:OG γ}{s:OL β}:(∀L b,(CH o s).enc L b=o.enc L b.1::s.enc L b.2)/\(∀ρ L H xs,(CH o s).dec ρ L H xs=aqx o s ρ L H xs)/\(∀b,(CH o s).lens b=acR (o.len b.1) (s.lens b.2))/\(CH o s).size=s.size+1/\(CH o s).need=max o.need s.need:=⟨fun _ _=>rfl,fun _ _ _ _=>rfl,fun _=>rfl,rfl,rfl⟩
end nN
inductive Loc where
 |arg (i:Nat) (cs:List Nat)
 |obj (k c:Nat) (cs:List Nat)
variable {p1:List Loc}
def asH:AV->Option Nat
 | .ptr l _=>some l
 | .acc l _=>some l
 | .map l=>some l
 |_=>none
def down:List Nat->AV->Option AV
 |[],v=>some v
 |i::is,.func _ [] cap=>match cap[i]? with
  |some u=>down is u
  |none=>none
 |i::is,.func _ (x::fs) cap=>match (x::(fs++cap))[i]? with
  |some u=>down is u
  |none=>none
 |_::_,_=>none
def cellAt(c:Nat):Option kq->Option AV
 |some (.cells xs)=>xs[c]?
 |some (.loop _ xs _ _)=>xs[c]?
 |_=>none
def aA5(args:List AV)(H:List kq)(ρ:List Nat):Loc->Option Nat
 | .arg i cs=>(args[i]?).bind fun v=>(down cs v).bind asH
 | .obj k c cs=>(ρ[k]?).bind fun l=>(cellAt c H[l]?).bind fun v=>(down cs v).bind asH
def afU(args:List AV)(H:List kq):List Loc->List Nat->Option (List Nat)
 |[],ρ=>some ρ
 |p::ps,ρ=>(aA5 args H ρ p).bind fun l=>afU args H ps (ρ++[l])
def aew{args:List AV}{H:List kq}: ∀{ps:List Loc}{ρ ρ':List Nat},afU args H ps ρ=some ρ'-> ∃ls,ρ'=ρ++ls
 |[],ρ,ρ',h=>by simp_all [afU]
 |p::ps,ρ,ρ',h=>by
  simp only[afU,dM] at h;obtain⟨l,_,h⟩:=h;obtain⟨ls,hl⟩:=aew h
  grind
def aaf(xs:List kq)(k:Nat):Nat:=(lT xs[k]?).getD 0
def asI(hT:Va T){LP:List AV}{O:sO}(hG:FnT P T args Ys (fun o H'=>o=O/\H'=Ys'))(hnd:ρ.Nodup)(hlen:ρ.length=Ys.length)(aAH:ρ.length<=Ys'.length)
 (hz: ∀φ:Nat->Value,T (φ (nv ρ σ.heap.length 0))=T (φ l0))
 (Kq: ∀(i k:Nat),ρ[i]? =some k-> ∃x y,σ.heap[k]? =some x/\Ys[i]? =some y/\LL σ.heap σ.heap.length x (y.pe (nv ρ σ.heap.length))) (hargs:B9 σ.heap σ.heap.length LP (qQ (nv ρ σ.heap.length) args)):
 Nt P T l0 LP σ (fun o H'=>o=O.pe (nv ρ σ.heap.length)/\H'=uB ρ σ.heap Ys'):=by
 intro C φ a w hP S vs hr
 let H1:=qw σ.heap ρ (Ys.map (kq.pe (nv ρ σ.heap.length)))
 have hl1:H1.length=σ.heap.length:=u4 _ _ _;have S0:mo C φ ⟨σ.slots++LP,σ.heap,σ.low,σ.df⟩ {tmps:=a.tmps++vs,defers:=a.defers} w:={S with slots:=by simpa using S.slots.append hr,defers:=S.defers}
 have hat: ∀(i k:Nat),ρ[i]? =some k-> ∃x y,σ.heap[k]? =some x/\Ys[i]? =some y/\LL σ.heap σ.heap.length x (y.pe (nv ρ σ.heap.length))/\H1[k]? =some (y.pe (nv ρ σ.heap.length)):=by
  grind [Pw]
 have hw:adX ⟨σ.slots++LP,σ.heap,σ.low,σ.df⟩ ⟨σ.slots++qQ (nv ρ σ.heap.length) args,H1,σ.low,σ.df⟩:=by
  refine⟨⟨⟨rfl,by show σ.low<=H1.length;rw[hl1];exact S.low.2⟩,rfl,by show amz H1.length σ.df;rw[hl1];exact Js.nb S.defers.2.2⟩,?_,?_⟩
  ·show B9 σ.heap H1.length _ _;rw[hl1];exact B9.append (B9.same (kC.nb _ _ S.slots)) hargs
  ·show CoH σ.heap H1.length σ.heap H1;rw[hl1];refine Rf fun k y hy=> ?_
   by_cases hk:k∈ρ
   ·grind [eu]
   ·have hy2:σ.heap[k]? =some y:=by grind [DJ]
    exact⟨y,hy2,.inr (.inl ⟨rfl,Pu (S.nN k y hy2)⟩)⟩
 have S1:=hw.sim S0;have ZH:=S1.slots;simp only[ew] at ZH;have hsz:a.tmps.toList.length=σ.slots.length:=S.slots.length;have h1:=ZH.take σ.slots.length;have h2:=ZH.drop σ.slots.length;rw[dX rfl,dX hsz] at h1;rw[dY rfl,dY hsz] at h2;have S2:mo C φ {σ with heap:=H1} a w:={S1 with slots:=h1,defers:=S1.defers}
 have uZ:Nt P T l0 (qQ (nv ρ H1.length) args) {σ with heap:=H1} (fun o H'=>o=O.pe (nv ρ H1.length)/\H'=uB ρ σ.heap Ys'):=by
  refine Z5 (σ:={σ with heap:=H1}) hT hG ρ hlen hnd (by simp_all) (qv.refl _) ?_ ?_
  all_goals grind [uB,Ol]
 rw[hl1] at uZ;exact uZ C φ a w hP S2 vs h2
section aag

def aex(base:List Nat)(pos:List Loc)(os:OL β)(as:AL α)(os':OL β')(rs:AL α')(F:β->α->Option (β'×α')):Ent:=fun args H=>
 (afU args H pos base).bind fun ρ=>bif nodupB ρ&&(decide (os.need<=ρ.length)&&(decide (as.need<=ρ.length)&&decide (ρ.length<=os'.size))) then
   (ql (acj H) ρ).bind fun xs=>(os.dec ρ (aaf xs) H xs).bind fun b=>(as.dec ρ (aaf xs) H args).bind fun a=>(F b a).bind fun r=>
     some ((uE (rs.enc (os'.lens r.1) r.2)).pe (nv ρ H.length),uB ρ H (os'.enc (os'.lens r.1) r.1)) else none
def aag(pos:List Loc)(os:OL β)(as:AL α)(os':OL β')(rs:AL α')(F:β->α->Option (β'×α')):Ent:=aex [] pos os as os' rs F
def asJ(pos:List Loc)(os:OL β)(as:AL α)(os':OL β')(rs:AL α')(F:β->α->Option (β'×α'))(l:Nat):Ent:=fun args H=>
 match H[l]? with
 |some (.loop k _ _ _)=>mA (args.length=k.ps.size) (aex [l] pos os as os' rs F args H)
 |_=>none
def akJ(hT:Va T){pos:List Loc}{os:OL β}{as:AL α}{os':OL β'}{rs:AL α'}{F:β->α->Option (β'×α')}
 (hz: ∀(ls:List Nat)(n:Nat)(φ:Nat->Value),T (φ (nv (base++ls) n 0))=T (φ l0)) {r:AV} (he:aex base pos os as os' rs F args σ.heap=some (r,H')):
 ∃b a q,F b a=some q/\(FnT P T (as.enc (os.lens b) a) (os.enc (os.lens b) b) (fun o H'=>o= .ret (uE (rs.enc (os'.lens q.1) q.2))/\H'=os'.enc (os'.lens q.1) q.1)->Nt P T l0 args σ (fun o Cs=>o= .ret r/\Cs=H')):=by
 unfold aex at he;simp only[dM] at he;obtain⟨ρ,hρ,he⟩:=he;cases hc:(nodupB ρ&&(decide (os.need<=ρ.length)&&(decide (as.need<=ρ.length)&&decide (ρ.length<=os'.size)))) with
 |false=>simp [hc] at he
 |true=>
  simp only[hc,jM,dM,dN,dQ] at he;obtain⟨xs,hxs,b,hb,a,ha,q,hq,rfl,rfl⟩:=he;refine⟨b,a,q,hq,fun hfn=> ?_⟩;simp only[dZ,jR] at hc;obtain⟨hnd,n1,n2,n3⟩:=hc;obtain⟨h1,h2⟩:=PC hxs
  have akK: ∀m,m<=ρ.length->Cov ρ m σ.heap.length:=by
   intro m hm k hk;have hk':k<ρ.length:=by omega
   obtain⟨x,hx,hx'⟩:=h2 k _ (dR hk')
   grind
  have hL:os.lens b=aaf xs:=funext fun k=>os.abr ρ _ _ _ _ hb k
  obtain⟨h3,h4⟩:=os.ok ρ _ σ.heap σ.heap.length _ _ (akK _ n1) hb;have U5: ∀l,l<ρ.length->atN ρ l=nv ρ σ.heap.length l:=fun l hl=>by unfold nv atN;rw[if_pos hl]
  rw[<-hL] at ha h4;obtain⟨ls,hls⟩:=aew hρ;refine asI hT hfn (LD hnd) (by rw[h1,h3,os.sz]) (by rw[os'.sz];exact n3) (fun φ=>by rw[hls];exact hz ls _ φ) ?_ ?_
  ·intro i k hi;obtain⟨x,hx,hx'⟩:=h2 i k hi;have hlt:i<(os.enc (os.lens b) b).length:=by rw[os.sz,<-h3,<-h1];grind
   have hy:=dR hlt;obtain⟨x2,Pm,hcc⟩:=h4 i _ hy;rw[hx] at Pm;cases Pm;refine⟨x,_,hx',hy,?_⟩;rw[<-aad (n:=os.need) (fun l hl=>U5 l (by omega)) _ (os.nb _ _ _ (ez hy))];exact hcc
  ·rw[<-A5 (n:=as.need) (fun l hl=>U5 l (by omega)) _ (as.nb _ _)];exact as.ok ρ _ σ.heap _ _ _ (akK _ n2) ha
def Cu{pos:List Loc}{os:OL β}{as:AL α}{os':OL β'}{rs:AL α'}{F:β->α->Option (β'×α')}
 (h: ∀b a r,F b a=some r->FnG P f (as.enc (os.lens b) a) (os.enc (os.lens b) b) (fun o H'=>o= .ret (uE (rs.enc (os'.lens r.1) r.2))/\H'=os'.enc (os'.lens r.1) r.1)):aci P f (aag pos os as os' rs F):=by
 intro args σ r H' he;obtain⟨b,a,q,hq,uZ⟩:=akJ (P:=P) (T:=fun _ w vs R=>Calls P f vs w R) (l0:=0) YX (fun _ _ _=>rfl) he;exact⟨(h b a q hq).1,uZ (h b a q hq).2⟩
def ao5{pos:List Loc}{os:OL β}{as:AL α}{os':OL β'}{rs:AL α'}{F:β->α->Option (β'×α')}
 (h: ∀b a r,F b a=some r->FnT P (U2 P) (as.enc (os.lens b) a) (os.enc (os.lens b) b) (fun o H'=>o= .ret (uE (rs.enc (os'.lens r.1) r.2))/\H'=os'.enc (os'.lens r.1) r.1)) {r:AV} (he:asJ pos os as os' rs F l args σ.heap=some (r,H')):IQ P l args σ (fun o Cs=>o= .ret r/\Cs=H'):=by
 unfold asJ at he;split at he
 ·rename_i k slots st rQ hk;rw[lV] at he;obtain⟨hlen,he⟩:=he;obtain⟨b,a,q,hq,uZ⟩:=akJ (P:=P) (T:=U2 P) (l0:=l) ajU (fun ls n φ=>by simp [nv]) he;exact⟨⟨k,slots,st,rQ,hk,hlen⟩,uZ (h b a q hq)⟩
 ·cases he
def akL:List (Nat×(Nat->Ent))->Nat->Ent
 |[],_,_,_=>none
 |(l',e)::t,l,args,H=>bif l==l' then e l args H else akL t l args H
def acl: ∀(l:Nat)(args:List AV)(σ:jZ)(r:AV)(H':List kq),akL [] l args σ.heap=some (r,H')->IQ P l args σ (fun o Cs=>o= .ret r/\Cs=H'):=by
 intro l args σ r H' h;cases h
def aah{l':Nat}{e:Nat->Ent}{t:List (Nat×(Nat->Ent))}(h1: ∀(l:Nat)(args:List AV)(σ:jZ)(r:AV)(H':List kq),e l args σ.heap=some (r,H')->IQ P l args σ (fun o Cs=>o= .ret r/\Cs=H'))
 (h2: ∀(l:Nat)(args:List AV)(σ:jZ)(r:AV)(H':List kq),akL t l args σ.heap=some (r,H')->IQ P l args σ (fun o Cs=>o= .ret r/\Cs=H')):
 ∀(l:Nat)(args:List AV)(σ:jZ)(r:AV)(H':List kq),akL ((l',e)::t) l args σ.heap=some (r,H')->IQ P l args σ (fun o Cs=>o= .ret r/\Cs=H'):=by
 grind [akL]
end aag
section Q8

def anJ(xs:List AV)(pos:List Loc)(base:List Nat)(low:Nat)(os:OL β)(s:AL α)(σ:jZ):Option (β×α):=
 (afU xs σ.heap pos base).bind fun ρ=>bif nodupB ρ&&((σ.low==low)&&(σ.df.isEmpty&&(decide (low<=os.size)&&(decide (os.need<=os.size)&&decide (s.need<=os.size))))) then
   (ql (acj σ.heap) ρ).bind fun ys=>(os.dec ρ (aaf ys) σ.heap ys).bind fun b=>(s.dec ρ (aaf ys) σ.heap xs).bind fun a=>some (b,a) else none
def CT(P:Program)(rs:List ResultVar)(pos:List Loc)(base:List Nat)(low:Nat)(os:OL β)(s:AL α)(σ:jZ):Option (β×α):=
 (yz P σ rs).bind fun xs=>anJ xs pos base low os s σ
def aai{xs:List AV}{pos:List Loc}{os:OL β}{s:AL α}{r:β×α}(hbase:base=dU low)(h:anJ xs pos base low os s σ=some r):
 σ.df=[]/\GF ⟨xs,σ.heap,σ.low,[]⟩ ⟨s.enc (os.lens r.1) r.2,os.enc (os.lens r.1) r.1,σ.low,[]⟩:=by
 unfold anJ at h;simp only[dM] at h;obtain⟨ρ,hρ,h⟩:=h;cases hc:(nodupB ρ&&((σ.low==low)&&(σ.df.isEmpty&&(decide (low<=os.size)&&(decide (os.need<=os.size)&&decide (s.need<=os.size)))))) with
 |false=>simp [hc] at h
 |true=>
  simp only[hc,jM,dM,dN] at h;obtain⟨ys,hys,b,hb,a,ha,rfl⟩:=h;simp only[dZ,jR,jS] at hc;obtain⟨hnd,h1,Ug,n1,n2,n3⟩:=hc;refine⟨by simpa using Ug,?_⟩;obtain⟨ls,hls⟩:=aew hρ;obtain⟨g1,g2⟩:=PC hys;have hL:os.lens b=aaf ys:=funext fun k=>os.abr ρ _ _ _ _ hb k
  rw[<-hL] at hb ha
  have hsize:ρ.length=os.size:=by
   have:ys.length=os.size:=os.GK _ _ _ _ _ hb;rw[g1,this]
  intro C φ a' w S
  have akK: ∀m,m<=ρ.length->Cov ρ m σ.heap.length:=by
   intro m hm k hk;have hk':k<ρ.length:=by omega
   obtain⟨x,hx,hx'⟩:=g2 k _ (dR hk')
   grind
  let Ys:=os.enc (os.lens b) b
  have hYl:Ys.length=os.size:=os.sz _ _
  let H1:=qw σ.heap ρ (Ys.map (kq.pe (atN ρ)))
  have hl1:H1.length=σ.heap.length:=u4 _ _ _;obtain⟨_,h4⟩:=os.ok ρ _ σ.heap σ.heap.length _ _ (akK _ (by omega)) hb
  have hat: ∀(i k:Nat)(y:kq),ρ[i]? =some k->Ys[i]? =some y-> ∃x,σ.heap[k]? =some x/\LL σ.heap σ.heap.length x (y.pe (atN ρ))/\H1[k]? =some (y.pe (atN ρ)):=by
   grind [Pw,LD]
  have hw:adX ⟨xs,σ.heap,σ.low,[]⟩ ⟨qQ (atN ρ) (s.enc (os.lens b) a),H1,σ.low,[]⟩:=by
   refine⟨⟨⟨rfl,by show σ.low<=H1.length;rw[hl1];exact S.low.2⟩,rfl,U6⟩,?_,?_⟩
   ·show B9 σ.heap H1.length _ _;rw[hl1];exact s.ok ρ _ σ.heap _ _ _ (akK _ (by omega)) ha
   ·show CoH σ.heap H1.length σ.heap H1;rw[hl1];refine Rf fun k y hy=> ?_
    by_cases hk:k∈ρ
    ·obtain⟨i,hi⟩:=eu hk;have hlt:i<Ys.length:=by grind
     obtain⟨x,hx,hc,hy'⟩:=hat i k _ hi (dR hlt)
     grind
    ·have hy2:σ.heap[k]? =some y:=by grind [DJ]
     exact⟨y,hy2,.inr (.inl ⟨rfl,Pu (S.nN k y hy2)⟩)⟩
  obtain⟨φ',S1⟩:=hw.imp C φ _ w S;refine anI (ρ:=ρ) (Ys:=Ys) (by rw[hsize,hYl]) (LD hnd) ?_ (by rw[hYl];omega) (rn (by omega) _ (s.nb _ _)) (fun y hy=>B6 (by omega) _ (os.nb _ _ y hy)) ?_ C φ' a' w S1
  all_goals grind
def Ny{pos:List Loc}{os:OL β}{s:AL α}{r:β×α}(hbase:base=dU low)(h:CT P rs pos base low os s σ=some r):
 σ.df=[]/\ ∃xs,yz P σ rs=some xs/\Y4 ⟨xs,σ.heap,σ.low,[]⟩ ⟨s.enc (os.lens r.1) r.2,os.enc (os.lens r.1) r.1,σ.low,[]⟩:=by
 unfold CT at h;simp only[dM] at h;obtain⟨xs,hx,h⟩:=h;exact⟨(aai hbase h).1,xs,hx,(aai hbase h).2.e⟩
end Q8
def anK {b:Nat}:decide (max a b<=c)=(decide (a<=c)&&decide (b<=c)):=by
 grind
def asK{xs:List kq}:aaf xs k=(lT xs[k]?).getD 0:=rfl
def asL:(∀i s r,lT (some (.acc i s r))=some r.length)/\(∀c,lT (some (.cells c))=none)/\(∀e,lT (some (.map e))=none)/\lT (some .dead)=none/\lT none=none:=⟨fun _ _ _=>rfl,fun _=>rfl,fun _=>rfl,rfl,rfl⟩
def ayZ{f:BN}:acR a f 0=a/\ ∀k,acR a f (k+1)=f k:=⟨rfl,fun _=>rfl⟩
def ay0{f:BN}:acR a f 1=f 0:=rfl
def ay1{f:BN}:acR a f 2=f 1:=rfl
def ay2{f:BN}:acR a f 3=f 2:=rfl
def ay3{f:BN}:acR a f 4=f 3:=rfl
def ay5{f:BN}:acR a f 5=f 4:=rfl
def ay6{f:BN}:acR a f 6=f 5:=rfl
def aA6:vlN.need=0:=rfl
def aA7{t:Ty α}{s:VL β}:(vlT t s).need=s.need:=rfl
def aA8{s:VL β}:(vlP k s).need=max (k+1) s.need:=rfl
def aA9{s:VL β}:(vlM k s).need=max (k+1) s.need:=rfl
def aBa{c:VL α}{s:VL β}:(vlF f c s).need=max c.need s.need:=rfl
attribute [go_sem] aA6 aA7 aA8 aA9 aBa aAO aAP aAQ aAR aAS aAT aAU aAV aAW aAX aAY aAZ aA0 aae aA1 aA2 aA3 aA4 anH av9 awa awb awc awd awe awf awg awh awi awj asG aqw aqx aag CT afU aA5 asH down cellAt asK asL Option.getD_some Option.getD_none ayZ ay0 ay1 ay2 ay3 ay5 ay6 anK dN
def stJ(lk:wy)(j:Int):LoopState:=stP (pG lk.js j)
def asM:stJ lk 0= .ready:=rfl
section ogL

def asO(lk:wy)(c:AL γ)(ρ:List Nat)(L:BN)(H:List kq):kq->Option (γ×Int)
 | .loop lk' slots st j=>mA (lk'=lk/\st=stJ lk j) ((c.dec ρ L H slots).bind fun g=>some (g,j))
 |_=>none
def ogL(lk:wy)(c:AL γ):OG (γ×Int) where
 enc L g:= .loop lk (c.enc L g.1) (stJ lk g.2) g.2
 dec:=asO lk c
 len _:=0
 need:=c.need
 nb L g:=c.nb L g.1
 ok ρ L H n x g hv h:=by
  unfold asO at h;split at h
  ·simp only[lV,dM,dN] at h;obtain⟨⟨rfl,rfl⟩,y,hy,rfl⟩:=h;exact .inr (.inr (.inr (.inr ⟨_,_,_,_,_,rfl,rfl,c.ok ρ L H n _ _ hv hy⟩)))
  ·cases h
 aev ρ L H x g h:=by
  unfold asO at h;split at h
  ·rfl
  ·cases h
def akM(lk:wy)(c:AL γ)(ρ:List Nat)(L:BN)(H:List kq):kq->Option γ
 | .loop lk' slots st j=>bif j==0 then mA (lk'=lk/\st=stJ lk j) (c.dec ρ L H slots) else none
 |_=>none
def aqy (lk:wy) (c:AL γ):OG γ where
 enc L g:= .loop lk (c.enc L g) .ready 0
 dec:=akM lk c
 len _:=0
 need:=c.need
 nb L g:=c.nb L g
 ok ρ L H n x g hv h:=by
  unfold akM at h;split at h
  ·rename_i lk' slots st j;cases hj:j==0 with
   |false=>rw[hj] at h;cases h
   |true=>
    rw[hj,jM] at h;have hj':j=0:=by simpa using hj
    subst hj';simp only[lV] at h;obtain⟨⟨rfl,rfl⟩,hy⟩:=h;exact .inr (.inr (.inr (.inr ⟨_,_,_,_,_,rfl,rfl,c.ok ρ L H n _ _ hv hy⟩)))
  ·cases h
 aev ρ L H x g h:=by
  unfold akM at h;split at h
  ·rfl
  ·cases h
def ay7{c:AL γ}{st:LoopState}{j:Int}:asO lk c ρ L H (.loop lk' s st j)=mA (lk'=lk/\st=stJ lk j) ((c.dec ρ L H s).bind fun g=>some (g,j)):=rfl
def awl{c:AL γ}{st:LoopState}{j:Int}:akM lk c ρ L H (.loop lk' s st j)=bif j==0 then mA (lk'=lk/\st=stJ lk j) (c.dec ρ L H s) else none:=rfl
def aBb{c:AL γ}:(∀L g,(ogL lk c).enc L g= .loop lk (c.enc L g.1) (stJ lk g.2) g.2)/\(∀ρ L H x,(ogL lk c).dec ρ L H x=asO lk c ρ L H x)/\(∀g,(ogL lk c).len g=0)/\(ogL lk c).need=c.need:=⟨fun _ _=>rfl,fun _ _ _ _=>rfl,fun _=>rfl,rfl⟩
def ay8{c:AL γ}:(∀L g,(aqy lk c).enc L g= .loop lk (c.enc L g) .ready 0)/\(∀ρ L H x,(aqy lk c).dec ρ L H x=akM lk c ρ L H x)/\(∀g,(aqy lk c).len g=0)/\(aqy lk c).need=c.need:=⟨fun _ _=>rfl,fun _ _ _ _=>rfl,fun _=>rfl,rfl⟩
end ogL
def On:List (Int×Code)->mM->Int
 |(k,.ret)::_,.ret=>k
 |(k,.exit n)::t,.exit m=>bif n==m then k else On t (.exit m)
 |_::t,e=>On t e
 |[],_=>0
section aaj

def asQ(js:List (Int×Code))(pos:List Loc)(base:List Nat)(low:Nat)(os:OL β)(e:mM)(σ:jZ):Option kq->Option (β×(Bool×Unit))
 |some (.loop lk sl .busy 0)=>mA (aec e=some (pG lk.js (On js e))) (anJ [.bool (pG lk.js (On js e)).isNone] pos base low os (mh mX kP) {σ with heap:=σ.heap.set 0 (.loop lk sl (stJ lk (On js e)) (On js e))})
 |_=>none
def aaj(js:List (Int×Code))(pos:List Loc)(base:List Nat)(low:Nat)(os:OL β)(e:mM)(σ:jZ):Option (β×(Bool×Unit)):=asQ js pos base low os e σ σ.heap[0]?
def awm{pos:List Loc}{os:OL β}{e:mM}{sl:List AV}:asQ js pos base low os e σ (some (.loop lk sl .busy 0))=
 mA (aec e=some (pG lk.js (On js e))) (anJ [.bool (pG lk.js (On js e)).isNone] pos base low os (mh mX kP) {σ with heap:=σ.heap.set 0 (.loop lk sl (stJ lk (On js e)) (On js e))}):=rfl
def afV {r:AV}(h:GF ⟨[x],σ.heap,σ.low,[]⟩ ⟨[r],H',σ.low,[]⟩):YY σ x r H':=by
 intro C φ a w S v hv;obtain⟨φ',S'⟩:=h C φ {tmps:= #[v],defers:=[]} w {S with slots:=⟨v,[],rfl,hv,rfl⟩,defers:=qT.nil};obtain⟨v',_,e,hr,_⟩:=S'.slots;simp only[ey] at e;obtain⟨rfl,_⟩:=e;exact⟨φ',{S' with slots:=rfl,defers:=qT.nil},hr⟩
def akN{pos:List Loc}{os:OL β}{e:mM}{r:β×(Bool×Unit)}(hbase:base=dU low)(h:aaj js pos base low os e σ=some r):
 aoU (fun o H'=>o= .ret (uE ((mh mX kP).enc (os.lens r.1) r.2))/\H'=os.enc (os.lens r.1) r.1) e σ:=by
 unfold aaj asQ at h;split at h
 ·rename_i lk sl hk;simp only[lV] at h;obtain⟨hj,h⟩:=h;have:=aai hbase h;exact⟨_,lk,sl,hj,hk,_,_,afV (σ:={σ with heap:=σ.heap.set 0 (.loop lk sl (stJ lk (On js e)) (On js e))}) this.2,rfl,rfl⟩
 ·cases h
end aaj
section aBc
variable {k:List Kt}
def asR{j:Int}:aee M k σ H' (some (.loop lk s (stJ lk j) j))=aed M k {σ with heap:=H'.set σ.heap.length .dead} (pG lk.js j):=by
 rw[ajZ];exact aes
end aBc
def asS{st:LoopState}{j:Int}:(kq.loop lk s st j).pe τ= .loop lk (qQ τ s) st j:=rfl
def asU{st:LoopState}{j:Int}:lT (some (.loop lk s st j))=none:=rfl
def asV:(∀xs,cellAt c (some (.cells xs))=xs[c]?)/\(∀lk xs st j,cellAt c (some (.loop lk xs st j))=xs[c]?):=⟨fun _=>rfl,fun _ _ _ _=>rfl⟩
def awn:aec .normal=some none/\aec .ret=some (some .ret)/\ ∀id,aec (.exit id)=some (some (.exit id)):=⟨rfl,rfl,fun _=>rfl⟩
def ay9:(∀k t,On ((k,.ret)::t) .ret=k)/\(∀k n t,On ((k,.exit n)::t) .ret=On t .ret)/\(∀k t m,On ((k,.ret)::t) (.exit m)=On t (.exit m))/\(∀k n t m,On ((k,.exit n)::t) (.exit m)=bif n==m then k else On t (.exit m))/\
 (∀js,On js .normal=0)/\(∀e,On [] e=0):=
 ⟨fun _ _=>rfl,fun _ _ _=>rfl,fun _ _ _=>rfl,fun _ _ _ _=>rfl,fun js=>by induction js with|nil=>rfl|cons x t ih=>obtain⟨k,c⟩:=x;cases c<;>exact ih,fun _=>rfl⟩
def axY(pos:List Loc)(os:OL β)(as:AL α)(os':OL β')(rs:AL α')(F:β->α->Option (β'×α'))(l:Nat)(args:List AV)(H:List kq):Option kq->Option (AV×List kq)
 |some (.loop k _ _ _)=>mA (args.length=k.ps.size) (aex [l] pos os as os' rs F args H)
 |_=>none
def aza{pos:List Loc}{os:OL β}{as:AL α}{os':OL β'}{rs:AL α'}:
 asJ pos os as os' rs F l args H=axY pos os as os' rs F l args H H[l]? :=rfl
def awo{pos:List Loc}{os:OL β}{as:AL α}{os':OL β'}{rs:AL α'}{k:wy}{st:LoopState}{j:Int}:
 axY pos os as os' rs F l args H (some (.loop k s st j))=mA (args.length=k.ps.size) (aex [l] pos os as os' rs F args H):=rfl
def aey:Code->Code
 | .rangeFunc _ _ a _=>a
 |_=> .skip
def anL:Code->Code
 | .rangeFunc _ _ _ b=>b
 |_=> .skip
attribute [go_sem] aey anL
def azb:List (List Nat×List (Int×Code))->List Nat->List (Int×Code)
 |[],_=>[]
 |(p',js)::t,p=>if p=p' then js else azb t p
def awq:(LoopState.ready=stJ lk 0)=True:=by simp [asM]
def oLf(zs:List NZ)(H:List kq)(n:Nat):kq->Option kq
 | .loop lk s st j=>mA (st=stJ lk j) ((acL zs H n s).bind fun ds=>some (.loop lk ds (stJ lk j) j))
 |_=>none
def oL(zs:List NZ):ZO:=⟨oLf zs,fun H n x y h=>by
 unfold oLf at h;split at h
 ·simp only[lV,dM,dN] at h;obtain⟨rfl,ds,hd,rfl⟩:=h;exact .inr (.inr (.inr (.inr ⟨_,_,_,_,_,rfl,rfl,adw hd⟩)))
 ·cases h⟩
def aC1{st:LoopState}{j:Int}:(oL zs).f H n (.loop lk s st j)=mA (st=stJ lk j) ((acL zs H n s).bind fun ds=>some (.loop lk ds (stJ lk j) j)):=rfl
attribute [go_sem] awq aC1 aBb ay8 ay7 awl aaj awm anJ aex asR asS asU asV awn ay9 aza awo akL
def DG(p:Str×Bool):AV×AV:=(.str (sb p.1),.bool p.2)
def mW{α:Type}(s:Str):List (Str×α)->Option α
 |[]=>none
 |(k,v)::es=>bif s==k then some v else mW s es
def yA{α:Type}(s:Str)(v:α):List (Str×α)->List (Str×α)
 |[]=>[(s,v)]
 |(k,u)::es=>bif s==k then(k,v)::es else(k,u)::yA s v es
theorem ain(a b:Str):(sb a==sb b)=(a==b):=by
 grind [MapKept.bytes_beq,PD]
def aez: ∀xs:List (Str×Bool),Ko (xs.map DG)=true
 |[]=>rfl
 |_::xs=>aez xs
theorem ag6(xs:List (Str×Bool)):Ko (mp DG xs)=true:=by rw[rH];exact aez xs
theorem acm(s:Str): ∀xs:List (Str×Bool),wL (sb s) (xs.map DG)=(mW s xs).map AV.bool
 |[]=>rfl
 |(k,v)::xs=>by
  show(bif sb s==sb k then some (AV.bool v) else wL (sb s) (xs.map DG))=_;rw[ain,acm s xs]
  grind [mW]
theorem anM(s:Str)(xs:List (Str×Bool)):wL (sb s) (mp DG xs)=(mW s xs).map AV.bool:=by rw[rH];exact acm s xs
theorem aeA(s:Str)(v:Bool): ∀xs:List (Str×Bool),IO (sb s) (.bool v) (xs.map DG)=(yA s v xs).map DG
 |[]=>rfl
 |(k,u)::xs=>by
  show(bif sb s==sb k then(AV.str (sb k),AV.bool v)::xs.map DG else(AV.str (sb k),AV.bool u)::IO (sb s) (.bool v) (xs.map DG))=_;rw[ain,aeA s v xs];simp only[yA];cases s==k<;>rfl
theorem aqz(s:Str)(v:Bool)(xs:List (Str×Bool)):IO (sb s) (.bool v) (mp DG xs)=mp DG (yA s v xs):=by grind [rH,aeA]
def akO(o:Option Bool)(z:Bool):(o.map AV.bool).getD (.bool z)= .bool (o.getD z):=by cases o<;>rfl
def anN:kq.map []= .map (mp DG []):=by rw[rH];rfl
def anO{s:Str}:W6 z l (sb s) (some (.map (mp DG xs)))=some {val:=((mW s xs).map AV.bool).getD z,rd:=[l]}:=by
 grind [W6,ag6,anM]
def akP{s:Str}{v:Bool}:Ad l (sb s) (.bool v) (some (.map (mp DG xs)))=some {val:= .any,rd:=[l],up:=[(l,.map (mp DG (yA s v xs)))]}:=by
 grind [Ad,ag6,aqz]
def aak(n:Nat)(xs:List (Str×Bool)):qk n (.map (mp DG xs))=True:=by
 refine eq_true fun p hp=> ?_
 rw[rH,eL] at hp;obtain⟨q,_,rfl⟩:=hp;exact⟨trivial,trivial⟩
def aqA(ρ:Nat->Nat)(xs:List (Str×Bool)):(mp DG xs).map (fun p=>(AV.pe ρ p.1,AV.pe ρ p.2))=mp DG xs:=by
 rw[rH,eM];exact ek fun _ _=>rfl
def aqB(n:Nat)(xs:List (Str×Bool)):(∀p:AV×AV,p∈mp DG xs->AV.nb n p.1/\AV.nb n p.2)=True:=aak n xs
attribute [go_sem high] aqA aqB
def ddB:AV×AV->Option (Str×Bool)
 |(.str s,.bool b)=>some (s.toList,b)
 |_=>none
theorem azc{p:AV×AV}{q:Str×Bool}(h:ddB p=some q):p=DG q:=by
 unfold ddB at h;split at h
 ·rename_i s b;simp only[dN] at h;subst h;simp only[DG,dQ,AV.str.injEq,and_true];obtain⟨⟨l⟩⟩:=s;rw[ByteArray.toList_eq];rfl
 ·cases h
theorem ag7: ∀{es:List (AV×AV)}{xs:List (Str×Bool)},ql ddB es=some xs->es=xs.map DG
 |[],xs,h=>by grind [ql]
 |p::es,xs,h=>by
  simp only[ql,dM,dN] at h;obtain⟨q,hq,ys,hys,rfl⟩:=h;rw[azc hq,ag7 hys];rfl
theorem asW{es:List (AV×AV)}(h:ql ddB es=some xs):es=mp DG xs:=by rw[rH];exact ag7 h
theorem ao6(τ:Nat->Nat)(xs:List (Str×Bool)):(kq.map (mp DG xs)).pe τ= .map (mp DG xs):=by
 rw[rH];show kq.map ((xs.map DG).map _)=_;congr 1;rw[eM];exact ek fun p _=>by obtain⟨s,b⟩:=p;rfl
def daM:kq->Option (List (Str×Bool))
 | .map es=>ql ddB es
 |_=>none
def azd:daM (.map (mp DG xs))=some xs:=by
 show ql ddB (mp DG xs)=some xs;exact Fe (fun x=>by obtain⟨s,b⟩:=x;show some ((sb s).toList,b)=_;rw[PD]) xs
theorem asX{x:kq}(h:daM x=some xs):x= .map (mp DG xs):=by
 unfold daM at h
 grind [asW]
def ogM:OG (List (Str×Bool)) where
 enc _ xs:= .map (mp DG xs)
 dec _ _ _:=daM
 len _:=0
 need:=0
 nb L g:=of_eq_true (aak 0 g)
 ok ρ L H n x g _ h:=by
  rw[asX h];rw[ao6];exact .inr (.inl ⟨rfl,of_eq_true (aak n g)⟩)
 aev ρ L H x g h:=by
  rw[asX h];rfl
def aBd:(∀L g,ogM.enc L g= .map (mp DG g))/\(∀ρ L H x,ogM.dec ρ L H x=daM x)/\(∀g,ogM.len g=0)/\ogM.need=0:=⟨fun _ _=>rfl,fun _ _ _ _=>rfl,fun _=>rfl,rfl⟩
attribute [go_sem] anO akP akO anN azd aBd ao6
attribute [go_sem high] aak
def Tup(α:Type):Nat->Type
 |0=>Unit
 |n+1=>α×Tup α n
section FI

def aeB(c:α->List AV):(n:Nat)->Tup α n->List AV
 |0,_=>[]
 |n+1,x=>c x.1++aeB c n x.2
def abt(d:List AV->Option α)(sz:Nat):(n:Nat)->List AV->Option (Tup α n)
 |0,cs=>if cs.isEmpty=true then some () else none
 |n+1,cs=>(d (cs.take sz)).bind fun x=>(abt d sz n (cs.drop sz)).bind fun t=>some (x,t)
def axZ{c:α->List AV}(h: ∀n x,vK n (c x))(k:Nat): ∀(n:Nat)(v:Tup α n),vK k (aeB c n v)
 |0,_=>trivial
 |n+1,v=>IT (h k v.1) (axZ h k n v.2)
def ax0{c:UV α}{H:List kq}{m sz:Nat}: ∀{n:Nat}{cs:List AV}{v:Tup α n},abt (c.dec H) sz n cs=some v->pE H m cs (aeB c.enc n v)
 |0,cs,v,h=>by
  simp only[abt] at h;split at h
  ·rename_i he;rw[List.isEmpty_iff] at he;subst he;exact pE.nil
  ·cases h
 |n+1,cs,v,h=>by
  simp only[abt,dM] at h;obtain⟨x,hx,t,ht,he⟩:=h;obtain rfl:(x,t)=v:=Option.some.inj he;have:=pE.append (c.ok H m _ _ hx) (ax0 (c:=c) (m:=m) ht);rw[eJ] at this;exact this
def cA(c:UV α)(sz n:Nat):UV (Tup α n) where
 enc v:=aeB c.enc n v
 dec H cs:=abt (c.dec H) sz n cs
 ok H m cs v h:=ax0 h
 nb k v:=axZ c.nb k n v
def aC2{c:UV α}{sz:Nat}:(∀v,(cA c sz n).enc v=aeB c.enc n v)/\ ∀H cs,(cA c sz n).dec H cs=abt (c.dec H) sz n cs:=⟨fun _=>rfl,fun _ _=>rfl⟩
end FI
attribute [go_sem] aC2
def Vj(xs:List Str):List AV:=[.mb false 1 (mp nB xs)]
def anP:List AV->Option (List Str)
 |[c]=>dL nO [] c
 |_=>none
def aqC(n:Nat)(xs:List Str):MU n (mp nB xs):=xy (r:=nO) xs
def akQ:Row (List Str) where
 enc:=Vj
 dec:=anP
 sz:=1
 ok r x h:=by
  unfold anP at h;split at h
  ·exact Ca.cons (Co1.pN (n:=0) (Pz h)) Ca.nil
  ·cases h
 nb n x:=⟨aqC n x,trivial⟩
def awr:akQ.enc=Vj/\akQ.dec=anP/\akQ.sz=1:=⟨rfl,rfl,rfl⟩
def aqD(x:List Str):anP (Vj x)=some x:=by
 simp only[anP,Vj,dL,GK,abo,beq_self_eq_true,Bool.true_or,jM,FP]
def aws(xs:List (List Str)):ql anP (mp Vj xs)=some xs:=Fe aqD xs
attribute [go_sem] Vj anP awr aws
section aC3
variable {a:Act}
def vwN(H:List kq):List AV->Option (List AV)
 |[]=>some []
 | .agg cs::r=>(vwL H cs).bind fun p=>(vwN H r).bind fun q=>some (.agg p.1::q)
 |c::r=>(vwL H [c]).bind fun p=>(vwN H r).bind fun q=>some (p.1++q)
def aze(l:Nat):AV->AV
 | .int k n=> .int k n
 | .bool b=> .bool b
 | .str s=> .str s
 | .mb _ _ _=> .acc l 0
 |_=> .any
def azf(l:Nat):AV->AV
 | .agg cs=> .agg (cs.map (aze l))
 |x=>aze l x
def num(l:Nat):AV->AV
 | .FI cs=> .FI (cs.map (azf l))
 |x=>azf l x
section
variable {E':Env}
end
end aC3
def asY{x:Option R}:mA False x=none:=by simp [mA]
theorem ao7{n:Nat}{r:List AV}: ∀{rows:List (List AV)}{i:Nat},MU n rows->MU n (rows.set i r)=(rows.length<=i\/vK n r)
 |[],_,_=>eq_true trivial|>.trans (eq_true (.inl (eo _))).symm
 |_::_,0,h=>by
  grind [MU]
 |_::rows,i+1,h=>by
  show(vK n _/\MU n (rows.set i r))=_;rw[ao7 (rows:=rows) (i:=i) h.2];exact propext ⟨fun q=>q.2.imp Nat.succ_le_succ id,fun q=>⟨h.1,q.imp Nat.le_of_succ_le_succ id⟩⟩
def anQ {S:Type}{p:Prop}{x:Option R}{f:R->Option S}:(mA p x).bind f=mA p (x.bind f):=by
 unfold mA;split<;>rfl
def asZ{xs:List α}{r:α}{n:Int}{f:α->Option β}:(wq (xs.set n.toNat r) n).bind f=bif decide (0<=n)&&decide (n.toNat<xs.length) then f r else none:=by
 grind [wq]
def awt{xs:List α}{r:α}{f:α->Option β}:((xs.set i r)[i]?).bind f=bif decide (i<xs.length) then f r else none:=by
 grind
def anR{e e':Ent}(h:Oj P f (qa e))(h':Oj P f (qa e')):Oj P f (qa (aij e e')):=by
 intro args r he;unfold qa at he;obtain⟨hn,he⟩:=lV.1 he;rw[dM] at he;obtain⟨q,hq,he⟩:=he;unfold aij at hq;rw[eK] at hq;rcases hq with hq|⟨_,hq⟩
 ·exact h args r (lV.2 ⟨hn,by rw[hq];exact he⟩)
 ·exact h' args r (lV.2 ⟨hn,by rw[hq];exact he⟩)
def akR(n:Nat)(xs:List Str)(i:Nat)(r:List AV):MU n ((mp nB xs).set i r)=(xs.length<=i\/vK n r):=by
 rw[ao7 (rows:=mp nB xs) (xy (r:=nO) xs),LA]
def as0(n:Int):Str:=(Utf8.encode n).data.toList
def aqE(n:Int):Utf8.encode n=sb (as0 n):=(aic _).symm
def aio{x y:Option α}{g:α->β}:(x.bind fun r=>some (g r)).or (y.bind fun r=>some (g r))=(x.or y).bind fun r=>some (g r):=by cases x<;>rfl
def awu(r:Row α):AV->Option (List α)
 | .mb true sz rows=>bif GK sz r.sz rows then ql r.dec rows else none
 |_=>none
def afW {sz:Nat}(h:GK sz k rows=true)(hs:Q4 rows uY):Sub (.mb true sz rows) (.mb true k uY):=by
 intro E v r;obtain⟨base,cap,h1,h2,_,h4,h5,h6⟩:=Rc (t:=true) h hs E v r;obtain⟨base',cap',h1',_,h3',_⟩:=r;have e:=h1.symm.trans h1';simp only[Value.slice.injEq] at e;obtain⟨rfl,_,rfl⟩:=e;exact⟨base,cap,h1,h2,fun _=>by rw[h3' rfl,hs.1],h4,h5,h6⟩
def aqF (r:Row α):Ty (List α) where
 enc xs:= .mb true r.sz (mp r.enc xs)
 dec _:=awu r
 ok H n v xs h:=by
  unfold awu at h;split at h
  ·rename_i sz rows;cases hs:GK sz r.sz rows with
   |false=>rw[hs] at h;cases h
   |true=>
    rw[hs,jM] at h;exact Co.sub (afW hs (IW h).1) (xy xs)
  ·cases h
 nb _ xs:=xy xs
def azg:(∀xs,(aqF r).enc xs= .mb true r.sz (mp r.enc xs))/\ ∀H v,(aqF r).dec H v=awu r v:=⟨fun _=>rfl,fun _ _=>rfl⟩
def anS{k:List Kt}:CQ M p k σ (.goto l)=none:=rfl
attribute [go_sem] vwN num aze azf ayd au1 agL anQ or_true asZ awt anS akR aqE aio azg awu Bool.not_true Bool.not_false asY and_false false_and and_true true_and
theorem Rj(s:Str):(sb s).data.toList=s:=by simp [sb]
def ao8 {y:AV}{vs:Array Value}{u v:Value}(h:kC E [x,y] vs.toList)(hx: ∀w,n8 E x w->w=u)(hy: ∀w,n8 E y w->w=v):vs= #[u,v]:=by
 obtain⟨v0,us,hvs,r0,v1,us1,hus,r1,amH⟩:=h;have aDE:us1=[]:=amH
 grind
def ax1(c:Int):UInt8:=c.toNat.toUInt8
def afX(he:enters P f=true)
 (h: ∀(s:ByteArray)(c:Int)(w:World),Calls P f #[.string s,.int .u8 c] w fun e w'=>e= .returned (.int .i64 (Lib.indexByte s.data.toList c.toNat.toUInt8))/\w'=w)
 (s:Str) (c:Int):IR P f [mI.enc s,(nq .u8).enc c] (fun v=>v=(nq .i64).enc (Lib.indexByte s (ax1 c))):=by
 refine⟨he,⟨mI.nb 0 _,(nq .u8).nb 0 _,trivial⟩,fun C φ w hP hw hN0 hM vs hr=> ?_⟩;obtain rfl:=ao8 hr (u:= .string (sb s)) (v:= .int .u8 c) (fun _ h=>h) (fun _ h=>h);have:=h (sb s) c w;rw[Rj] at this;refine this.mono ?_;rintro e w' ⟨rfl,rfl⟩;exact⟨_,_,φ,rfl,rfl,rfl,ec _,fun _ _=>rfl,fun _ _=>rfl,rfl,rfl⟩
def aip(he:enters P f=true)(hk:auZ g 0)(hkv: ∀v,au0 g 0 v-> ∃m,v= .int .i64 m)
 (h: ∀(s sub:ByteArray)(m:Int)(w:World),s.size<4294967281->w.cell? ⟨g,0,none⟩=some (.int .i64 m)->Calls P f #[.string s,.string sub] w fun e w'=>e= .returned (.bool (Lib.contains s.data.toList sub.data.toList))/\w'=w)
 (s sub:Str) (hs:s.length<4294967281):IR P f [mI.enc s,mI.enc sub] (fun v=>v=mX.enc (Lib.contains s sub)):=by
 refine⟨he,⟨mI.nb 0 _,mI.nb 0 _,trivial⟩,fun C φ w hP hw hN0 hM vs hr=> ?_⟩;obtain rfl:=ao8 hr (u:= .string (sb s)) (v:= .string (sb sub)) (fun _ h=>h) (fun _ h=>h);obtain⟨v,hv,as1,_⟩:=C.hk g 0 hk;obtain⟨m,rfl⟩:=hkv v as1;rw[hw] at hv;have:=h (sb s) (sb sub) m w (by rw[Nw];exact hs) hv;rw[Rj,Rj] at this;refine this.mono ?_;rintro e w' ⟨rfl,rfl⟩;exact⟨_,_,φ,rfl,rfl,rfl,ec _,fun _ _=>rfl,fun _ _=>rfl,rfl,rfl⟩
def awv(he:enters P f=true)(hk:auZ g 0)(hkv: ∀v,au0 g 0 v-> ∃m,v= .int .i64 m)
 (h: ∀(s sep:ByteArray)(m:Int)(w:World),s.size<4294967281->w.cell? ⟨g,0,none⟩=some (.int .i64 m)->
   Calls P f #[.string s,.string sep] w fun e w'=>e= .returned (.tuple #[.string ⟨(Lib.cut s.data.toList sep.data.toList).1.toArray⟩,.string ⟨(Lib.cut s.data.toList sep.data.toList).2.1.toArray⟩,.bool (Lib.cut s.data.toList sep.data.toList).2.2])/\ ∃n,w'=w.drewN n)
 (s sep:Str) (hs:s.length<4294967281):IR P f [mI.enc s,mI.enc sep] (fun v=>v=(ty3 mI mI mX).enc (Lib.cut s sep)):=by
 refine⟨he,⟨mI.nb 0 _,mI.nb 0 _,trivial⟩,fun C φ w hP hw hN0 hM vs hr=> ?_⟩;obtain rfl:=ao8 hr (u:= .string (sb s)) (v:= .string (sb sep)) (fun _ h=>h) (fun _ h=>h);obtain⟨v,hv,as1,_⟩:=C.hk g 0 hk;obtain⟨m,rfl⟩:=hkv v as1;rw[hw] at hv;have:=h (sb s) (sb sep) m w (by rw[Nw];exact hs) hv;rw[Rj,Rj] at this;refine this.mono ?_;rintro e w' ⟨rfl,n,rfl⟩;exact⟨_,_,φ,rfl,rfl,⟨_,rfl,_,_,rfl,rfl,_,_,rfl,rfl,_,_,rfl,rfl,rfl⟩,ec _,fun _ _=>rfl,fun _ _=>rfl,rfl,rfl⟩
def aiq{t:TypeId}(he:enters P f=true)
 (h: ∀(s chars:ByteArray)(w:World),2<=chars.size->8<s.size->s.size<4294967281->chars.size<4294967281->(∀(j:Nat) b,chars.data.toList[j]? =some b->b.toNat<128)->
   Calls P f #[.string s,.string chars] w fun e w'=>e= .returned (.int .i64 (Lib.indexAny s.data.toList chars.data.toList))/\ ∃c d,w'=(w.alloc (.cells c t)).alloc (.cells d t))
 (s chars:Str) (h2:2<=chars.length) (h8:8<s.length) (hs:s.length<4294967281) (hc:chars.length<4294967281) (ha: ∀b∈chars,b.toNat<128):
 IR P f [mI.enc s,mI.enc chars] (fun v=>v=(nq .i64).enc (Lib.indexAny s chars)):=by
 refine⟨he,⟨mI.nb 0 _,mI.nb 0 _,trivial⟩,fun C φ w hP hw hN0 hM vs hr=> ?_⟩;obtain rfl:=ao8 hr (u:= .string (sb s)) (v:= .string (sb chars)) (fun _ h=>h) (fun _ h=>h);have hz: ∀x:Str,(sb x).size=x.length:=Nw;have:=h (sb s) (sb chars) w (by rw[hz];exact h2) (by rw[hz];exact h8) (by rw[hz];exact hs) (by rw[hz];exact hc) (fun j b hb=>ha b (by grind [Rj]));rw[Rj,Rj] at this;refine this.mono ?_;rintro e w' ⟨rfl,c,d,rfl⟩;have azh: ∀(w:World)(o:Obj),w.alloc o=World.more w o:=fun _ _=>rfl
 simp only[azh];have ho: ∀(c:Array Value) c' t' lo hi,Obj.cells c t= .cells c' t' (lo,hi)->lo=0/\hi=0:=by grind
 refine⟨_,_,φ,rfl,rfl,rfl,by simp only[Lz];omega,fun b hb=> ?_,fun x hx=> ?_,rfl,rfl⟩
 ·grind [xo]
 ·rw[uu _ _ (ho d),uu _ _ (ho c)]
section marks
variable {F:Fence}
def abu(Ug:σ.df=[]): ∀(ds:List Deferred)(w:World)(fr:Frame)(cs:List Frame),fr.mode= .returning->fr.defers=ds->F.fn fr.fn->F.room (cs.length+1+n)->mo C φ σ {tmps:=fr.tmps,defers:=ds} w->
 ∃w',StepsIn (Machine.fenced C.P F) C.P (lone fr cs w) (lone {fr with defers:=[]} cs w')/\mo C φ σ {tmps:=fr.tmps,defers:=[]} w'
 |[],w,fr,cs,hm,hd,hb,hr,S=>⟨w,by rw[show({fr with defers:=[]}:Frame)=fr by rw[<-hd]];exact StepsIn.refl _,S⟩
 |d::ds,w,fr,cs,hm,hd,hb,hr,S=>by
  have hmk:ZI d=true:=by
   have:=S.defers.2.2;rw[Ug] at this;have amH:(d::ds).filter (fun d=> !ZI d)=[]:=this
   grind
  obtain⟨D,hD,_⟩:=S.defers.2.1 d (List.mem_cons_self) hmk;subst hD;obtain⟨h1,S'⟩:=S.Z2;have hrun:fr.mode≠ .run:=by rw[hm];simp
  have hstep:=step_collected (P:=C.P) (cs:=cs) hrun hd rfl (run_takeDeferred h1);have i1:(lone fr cs w).fenced C.P F:=fenced_out hb hr hrun hd (fun g hg=>by simp [Target.leads] at hg);obtain⟨w',hs,S2⟩:=abu Ug ds (w.putObj D (.deferred none)) {fr with defers:=[]++ds} cs hm rfl hb hr S';exact⟨w',.head i1 hstep hs,S2⟩
end marks
def LU(C:pX)(fn:Func)(c₀:Frame)(cs:List Frame)(R:Ending->FrameMode->World->Prop):Exit->Act->List Frame->World->Prop
 | .normal,a,cs',w| .ret,a,cs',w=> ∃u',cs'={c₀ with mode:=u'}::cs/\ ∃φ σ,mo C φ σ a w/\σ.df=[]/\
     ∀w',mo C φ σ {tmps:=a.tmps,defers:=[]} w'-> ∃v,(results fn a.tmps).run C.P w'= .ok v w'/\R (.returned v) u' w'
 |_,_,_,_=>False
def Nz{F:Fence}{fn:Func}{c:Code}{args:Array Value}{R:Ending->FrameMode->World->Prop}
 (hf:C.P.funcs[f]? =some fn) (hb:fn.body=some c) (hF:F.fn f)
 (h: ∀(c₀:Frame)(cs:List Frame),c₀.mode=u->c.wpSIn F n C.P (LU C fn c₀ cs R) {tmps:=args++ed (fn.ntmps-args.size) undef,defers:=[]} (c₀::cs) w):
 CallsDIn F n C.P f args u w R:=by
 refine⟨hF,fun c₀ cs hu hroom=> ?_⟩
 let b:Frame:={(default:Frame) with fn:=f,kind:= .deferred,roundOf:=none}
 have azi:Frame.enter C.P f args .deferred=b.atR {tmps:=args++ed (fn.ntmps-args.size) undef,defers:=[]} [.code c]:=by
  grind [Frame.enter,Frame.atR]
 obtain⟨e,a',cs',w',hl,hq,afN⟩:=h c₀ cs hu b [] rfl rfl hF hroom;rw[<-azi] at afN;cases e with
 |normal=>
  obtain⟨u',rfl,φ,σ,S,Ug,hw⟩:=hq;obtain⟨w2,hs,S2⟩:=abu (F:=F) (n:=n) Ug a'.defers w' {b.atR a' [] with mode:= .returning} ({c₀ with mode:=u'}::cs) rfl rfl hF hroom S;obtain⟨v,hr,hR⟩:=hw w2 S2;exact⟨.returned v,u',w2,_,hR,StepsIn.trans (StepsIn.trans afN (.one (fenced_calm (fr:=b.atR a' []) hF hroom rfl) (stepR_end rfl))) hs,rfl,rfl,rfl,rfl,fn,hf,hr⟩
 |ret=>
  obtain⟨u',rfl,φ,σ,S,Ug,hw⟩:=hq;obtain⟨todo,hs0⟩:=afN.1 rfl;obtain⟨w2,hs,S2⟩:=abu (F:=F) (n:=n) Ug a'.defers w' {b.atR a' todo with mode:= .returning} ({c₀ with mode:=u'}::cs) rfl rfl hF hroom S;obtain⟨v,hr,hR⟩:=hw w2 S2;exact⟨.returned v,u',w2,_,hR,StepsIn.trans hs0 hs,rfl,rfl,rfl,rfl,fn,hf,hr⟩
 |panic chain=>exact hq.elim
 |exit id=>exact hq.elim
 |goto l=>exact hq.elim
 |outgrown=>exact hq.elim
def Rk(P:Program)(ops:Array Oper):List Oper->(jZ->Prop)->jZ->Prop
 |[],K,σ=>K σ
 |o::rest,K,σ=>pm ops o σ=some true/\ ∃e,k7 P σ o.op=some e/\e.pre/\Rk P ops rest K (σ.app o.dst e)
def Oo{C:pX}{ops:Array Oper}{K:jZ->Prop}{cs:List Frame}{Q:Exit->Act->List Frame->World->Prop}
 (hQ: ∀φ σ a w,mo C φ σ a w->K σ->Q .normal a cs w): ∀(rest:List Oper)(k:Nat),ops.toList.drop k=rest-> ∀(φ:Nat->Value)(σ:jZ)(a:Act)(w:World),
 Rk C.P ops rest K σ->mo C φ σ a w->wpOpsSIn Fence.wide 0 C.P ops Q (eO k rest.length) a cs w
 |[],k,_,φ,σ,a,w,h,S=>hQ φ σ a w S h
 |o::rest,k,hk,φ,σ,a,w,h,S=>by
  have ho:ops[k]? =some o:=by
   have:=congrArg (fun l:List Oper=>l[0]?) hk;simpa using this
  have rE:ops.toList.drop (k+1)=rest:=by
   grind [List.tail_drop]
  obtain⟨hw,e,he,hp,hr⟩:=h;simp only[eg,List.range'_succ,wpOpsSIn,ho];refine⟨fun _ _=>trivial,?_⟩;rw[xg S hw,if_pos rfl];obtain⟨m,v,w',φ',hrun,hn,S'⟩:=Np S he hp;rw[hrun];rcases hn with rfl|⟨rfl,rfl⟩
  ·exact Oo hQ rest (k+1) rE φ' _ _ w' hr S'
  ·exact Oo hQ rest (k+1) rE φ' _ _ w' hr S'
def acn(o:Oper):Bool:=match o.op with
 | .call {callee:= .builtin .recover,args,..}=>args.isEmpty&&o.guard.isNone
 |_=>false
def akS(P:Program)(rs:List ResultVar)(V:sO->List kq->Prop):mM->jZ->Prop
 | .normal,σ=>σ.df=[]/\abk P rs V none σ
 | .ret,σ=>σ.df=[]/\abk P rs V none σ
 |_,_=>False
def Yd{fn:Func}{id:Nat}{rest:List Oper}{u':FrameMode}{v:Value}{vs0:Array Value}
 (hf:C.P.funcs[f]? =some fn) (hb:fn.body=some (.seq (.region id ops false) y)) (acS:ops.toList=o::rest) (Uf:acn o=true)
 (aBe: ∀(c₀:Frame)(cs:List Frame),c₀.mode=u->recoverD (c₀::cs)=some (v,{c₀ with mode:=u'}::cs)\/(recoverD (c₀::cs)=none/\v= .nilIface/\u'=u)) (hn:fn.ntmps=n) (Ia:fn.results=rs.toArray) (hN0:C.N0=H.length) (HS:avk C φ H w) (hra:kC (C.env φ H w) args vs0.toList) (hrx:n8 (C.env φ H w) x v)
 (h:Rk C.P ops rest (fun σ1=> ∃σ2,GF σ1 σ2/\awp C.P y (akS C.P rs V) σ2) (jZ.put {slots:=args++dO (n-args.length) .any,heap:=H,low:=H.length} o.dst x)):
 CallsDIn Fence.wide 0 C.P f vs0 u w (fun e u2 w'=> ∃r,e= .returned r/\u2=u'/\ ∃o φ' H',V o H'/\mo C φ' {slots:=[],heap:=H',low:=H.length} {tmps:= #[],defers:=[]} w'/\o.No (C.env φ' H' w') (.returned r)):=by
 have hsz:vs0.size=args.length:=by have:=hra.length;simpa using this
 have S:mo C φ {slots:=args++dO (n-args.length) .any,heap:=H,low:=H.length} {tmps:=vs0++ed (fn.ntmps-vs0.size) undef,defers:=[]} w:=by
  refine {HS with slots:= ?_,defers:=qT.nil};simp only[ew,eH];refine hra.append ?_;rw[hsz,hn];have:=kC.B4 (E:=C.env φ H w) (dO (n-args.length) undef);simpa using this
 have Ez: ∀{φ':Nat->Value}{σ':jZ}{a'':Act}{w'':World},mo C φ' σ' a'' w''->σ'.low=H.length:=fun S'=>by rw[<-S'.low.1];exact hN0
 refine Nz hf hb trivial ?_;intro c₀ cs hu;refine wpSIn_seq (wpSIn_region ?_)
 have hsize:dU ops.size=0::eO 1 rest.length:=by
  grind [Array.length_toList,List.range_eq_range',List.range'_succ]
 have ho:ops[0]? =some o:=by
  have:ops.toList[0]? =some o:=by rw[acS];rfl
  simpa using this
 rw[hsize];simp only[wpOpsSIn,ho];refine⟨fun _ _=>trivial,?_⟩
 have hrun:(execOp (Act.eval {tmps:=vs0++ed (fn.ntmps-vs0.size) undef,defers:=[]}) o).run C.P w= .ok .recover w/\o.guard=none:=by
  unfold acn at Uf;split at Uf
  all_goals simp_all [execOp,resolve,invoke,builtin]
 have hw:Region.wanted o (yielded ops (vs0++ed (fn.ntmps-vs0.size) undef))=true:=by
  unfold Region.wanted;rw[hrun.2]
 rw[hw,if_pos rfl,hrun.1];have S1:=S.put o.dst hrx
 have key:wpOpsSIn Fence.wide 0 C.P ops (Exit.thenS (y.wpSIn Fence.wide 0 C.P (LU C fn c₀ cs (fun e u2 w'=> ∃r,e= .returned r/\u2=u'/\ ∃o φ' H',V o H'/\mo C φ' {slots:=[],heap:=H',low:=H.length} {tmps:= #[],defers:=[]} w'/\o.No (C.env φ' H' w') (.returned r))))
  (LU C fn c₀ cs (fun e u2 w'=> ∃r,e= .returned r/\u2=u'/\ ∃o φ' H',V o H'/\mo C φ' {slots:=[],heap:=H',low:=H.length} {tmps:= #[],defers:=[]} w'/\o.No (C.env φ' H' w') (.returned r)))) (eO 1 rest.length)
  (Act.put {tmps:=vs0++ed (fn.ntmps-vs0.size) undef,defers:=[]} o.dst v) ({c₀ with mode:=u'}::cs) w:=by
  refine Oo (K:=fun σ1=> ∃σ2,GF σ1 σ2/\awp C.P y (akS C.P rs V) σ2) ?_ rest 1 (by rw[acS];rfl) φ _ _ w h S1;rintro φ1 σ1 a1 w1 S1 ⟨σ2,Ei,hy⟩;obtain⟨φ2,S2⟩:=Ei C φ1 a1 w1 S1;refine wpSIn_of_wpIn rfl (wpIn_mono (vN (ro:=none) y _ φ2 σ2 a1 w1 (.inl rfl) hy S2) ?_);intro e a' w' hq
  have fin: ∀φ' σ',mo C φ' σ' a' w'->σ'.df=[]/\abk C.P rs V none σ'->LU C fn c₀ cs (fun e u2 w'=> ∃r,e= .returned r/\u2=u'/\ ∃o φ' H',V o H'/\mo C φ' {slots:=[],heap:=H',low:=H.length} {tmps:= #[],defers:=[]} w'/\o.No (C.env φ' H' w') (.returned r)) .normal a' ({c₀ with mode:=u'}::cs) w':=by
   rintro φ' σ' S' ⟨Ug,xr,hx,r,H',hex,hV'⟩;refine⟨_,rfl,φ',σ',S',Ug,fun w'' S''=> ?_⟩;obtain⟨vv,hv,rv⟩:=Jy (fn:=fn) S'' (by rw[Ia];exact hx);obtain⟨φ3,S3,hr3⟩:=hex C φ' _ w'' S'' vv rv;rw[Ez S''] at S3;exact⟨vv,hv,vv,rfl,rfl,.ret r,φ3,H',hV',S3,hr3⟩
  cases e with
  |normal=>obtain⟨φ',σ',S',hq⟩:=hq;exact fin φ' σ' S' hq
  |ret=>obtain⟨φ',σ',S',hq⟩:=hq;exact fin φ' σ' S' hq
  |exit id=>obtain⟨_,_,_,hq⟩:=hq;exact hq.elim
  |goto l=>obtain⟨_,_,_,hq⟩:=hq;exact hq.elim
  |panic chain=>obtain⟨_,_,_,_,_,hq,_⟩:=hq;exact hq.elim
  |outgrown=>exact hq.elim
 rcases aBe c₀ cs hu with hm|⟨hm,hv,hu'⟩
 ·simp only[hm];exact key
 ·simp only[hm];subst hv hu';rw[show({c₀ with mode:=u'}:Frame)=c₀ by rw[<-hu]] at key;exact key
def acT{fn:Func}{id:Nat}{rest:List Oper}(hf:P.funcs[f]? =some fn)(hb:fn.body=some (.seq (.region id ops false) y))(acS:ops.toList=o::rest)(Uf:acn o=true)
 (hnb:vK H.length (args++[x])) (Ft: ∀x∈H,qk H.length x) (hn:fn.ntmps=n) (Ia:fn.results=rs.toArray)
 (h:Rk P ops rest (fun σ1=> ∃σ2,GF σ1 σ2/\awp P y (akS P rs V) σ2) (jZ.put {slots:=args++dO (n-args.length) .any,heap:=H,low:=H.length} o.dst x)):FnT P (afP P f) (args++[x]) H V:=by
 refine⟨hnb,Ft,fun C φ w hP h0 hN0 hφ0 hM HS vs hr vs0 v hvs=> ?_⟩;subst hP;subst hvs
 have hr':kC (C.env φ H w) args vs0.toList/\n8 (C.env φ H w) x v:=by
  rw[Array.toList_push] at hr
  have hl:vs0.toList.length=args.length:=by
   have:=hr.length;simp at this;simpa using this
  have h1:=hr.take args.length;have h2:=hr.drop args.length;rw[dX rfl,dX hl] at h1;rw[dY rfl,dY hl] at h2;obtain⟨u,us,he,r1,_⟩:=h2
  grind
 refine u5 (Yd (u':= .panicking [{v,recovered:=true}]) hf hb acS Uf (fun c₀ cs hu=> .inl (by simp only[recoverD,hu])) hn Ia hN0 HS hr'.1 hr'.2 h) ?_;rintro e u' w' ⟨r,rfl,rfl,rE⟩;exact⟨r,rfl,.inl ⟨rfl,rE⟩⟩
def acU{fn:Func}{id:Nat}{rest:List Oper}(hf:P.funcs[f]? =some fn)(hb:fn.body=some (.seq (.region id ops false) y))(acS:ops.toList=o::rest)(Uf:acn o=true)
 (hnb:vK H.length args) (Ft: ∀x∈H,qk H.length x) (hn:fn.ntmps=n) (Ia:fn.results=rs.toArray)
 (h:Rk P ops rest (fun σ1=> ∃σ2,GF σ1 σ2/\awp P y (akS P rs V) σ2) (jZ.put {slots:=args++dO (n-args.length) .any,heap:=H,low:=H.length} o.dst (.raw .nilIface))):FnT P (afO P f) args H V:=by
 refine⟨hnb,Ft,fun C φ w hP h0 hN0 hφ0 hM HS vs hr=> ?_⟩;subst hP;refine u5 (Yd (u':= .returning) (x:= .raw .nilIface) (v:= .nilIface) hf hb acS Uf (fun c₀ cs hu=> .inr ⟨by simp only[recoverD,hu],rfl,rfl⟩) hn Ia hN0 HS hr rfl h) ?_;rintro e u' w' ⟨r,rfl,rfl,rE⟩;exact⟨r,rfl,rfl,rE⟩
section run

def aco{ops:Array Oper}{K:jZ->Prop}: ∀(rest:List Oper)(σ:jZ)(e:mM)(σ':jZ),rest.all (fun o=>aei o.op&&(match o.op with| .call _=>false| .defer _=>false|_=>o.guard.isNone))=true->tA M ops rest σ=some (e,σ')->K σ'->Rk M.P ops rest K σ
 |[],σ,e,σ',_,h,hK=>by simp only[tA,dN,dQ] at h;obtain⟨_,rfl⟩:=h;exact hK
 |o::rest,σ,e,σ',hc,h,hK=>by
  rw[List.all_cons,dZ,dZ] at hc;obtain⟨⟨h1,h2⟩,h3⟩:=hc
  have hg:o.guard=none:=by
   split at h2
   all_goals simp_all
  have hw:pm ops o σ=some true:=by unfold pm;rw[hg]
  have hgs:tG ops o true σ=σ:=ah2 hw;simp only[tA,hw,jM,hgs,Vd h1,akl h1] at h
  have hy:yieldOf σ o.op=none:=by
   unfold yieldOf
   grind
  have hd:DH σ o.op=none:=by
   unfold DH
   grind
  simp only[hy,hd] at h;cases he:k7 M.P σ o.op with
  |none=>simp only[he] at h;cases h
  |some e'=>
   simp only[he] at h;rw[lV] at h;exact⟨hw,e',he,h.1,aco rest _ e σ' h3 h.2 hK⟩
def Xe(rest:List Oper):Bool:=rest.all fun o=>aei o.op&&(match o.op with| .call _=>false| .defer _=>false|_=>o.guard.isNone)
def ao9{id:Nat}{rest:List Oper}{Q:mM->jZ->Prop}{r:R}(G:Good M)(hbody:M.body= .seq (.region id ops false) y)(akT:Xe rest=true)
 (hout: ∀σ,M.out σ=some r->Q .normal σ/\Q .ret σ) (h:run M [.ops ops rest,.cut [1],.at [1]] σ=some r) (hP: ∀x σ',M.oz x σ'=none:=by intros;rfl):Rk M.P ops rest (fun σ1=> ∃σ2,GF σ1 σ2/\awp M.P y Q σ2) σ:=by
 have h':fin M [.ops ops rest,.cut [1],.at [1]] .normal σ=some r:=h;rw[pg (by simp)] at h';simp only[xu] at h';cases hx:tA M ops rest σ with
 |none=>simp only[hx] at h';cases h'
 |some q=>
  obtain⟨e,σ1⟩:=q
  have aBf:e= .normal:=Rb rest σ e σ1 (by
   grind [Xe]) hx
  subst aBf;simp only[hx] at h';refine aco rest σ _ σ1 akT hx ?_;rw[pg (by simp)] at h';simp only[xu] at h';cases ayu:M.cut [1] σ1 with
  |none=>grind
  |some σ2=>
   simp only[ayu,Option.map_some] at h';refine⟨σ2,G.cut _ _ _ ayu,?_⟩;have h1:sub [1] M.body=y:=by rw[hbody];rfl
   rw[pg (by simp)] at h';simp only[xu,h1] at h';cases Pm:exec M y [1] σ2 with
   |none=>simp only[Pm] at h';cases h'
   |some q=>
    obtain⟨e2,σ3⟩:=q;simp only[Pm] at h';refine xq G _ [1] _ _ e2 σ3 Pm ?_;cases e2 with
    |normal=>exact(hout σ3 h').1
    |ret=>exact(hout σ3 h').2
    |panic x=>simp only[fin,hP] at h';cases h'
    |_=>simp only[fin] at h';cases h'
end run
inductive PR(α β:Type) where
 |ok (x:α)
 |pn (y:β)
def CJ(q:PR α β)(f:α->γ)(g:β->γ):γ:=match q with
 | .ok x=>f x
 | .pn y=>g y
def anT{x:α}{f:α->γ}{g:β->γ}:CJ (.ok x) f g=f x:=rfl
def azj{y:β}{f:α->γ}{g:β->γ}:CJ (.pn y) f g=g y:=rfl
abbrev acV:=List AV->List kq->Option (sO×List kq)
section acp
variable {ρ:Type}
def acp(pos:List Loc)(os:OL β)(as:AL α)(sz:Nat)(en:ρ->sO×List kq)(F:β->α->Option ρ):acV:=fun args H=>
 (afU args H pos []).bind fun ρ=>bif nodupB ρ&&(decide (os.need<=ρ.length)&&(decide (as.need<=ρ.length)&&decide (ρ.length<=sz))) then
   (ql (acj H) ρ).bind fun xs=>(os.dec ρ (aaf xs) H xs).bind fun b=>(as.dec ρ (aaf xs) H args).bind fun a=>(F b a).bind fun q=>
     some ((en q).1.pe (nv ρ H.length),uB ρ H (en q).2) else none
def akU(hT:Va T)(hz: ∀(φ φ':Nat->Value)(k k':Nat),T (φ k)=T (φ' k')){pos:List Loc}{os:OL β}{as:AL α}{sz:Nat}{en:ρ->sO×List kq}{F:β->α->Option ρ}(hsz: ∀q,sz<=(en q).2.length) {o:sO} (he:acp pos os as sz en F args σ.heap=some (o,H')):
 ∃b a q,F b a=some q/\(FnT P T (as.enc (os.lens b) a) (os.enc (os.lens b) b) (fun o H'=>o=(en q).1/\H'=(en q).2)->Nt P T 0 args σ (fun o' Cs=>o'=o/\Cs=H')):=by
 unfold acp at he;simp only[dM] at he;obtain⟨ρ,hρ,he⟩:=he;cases hc:(nodupB ρ&&(decide (os.need<=ρ.length)&&(decide (as.need<=ρ.length)&&decide (ρ.length<=sz)))) with
 |false=>simp [hc] at he
 |true=>
  simp only[hc,jM,dM,dN,dQ] at he;obtain⟨xs,hxs,b,hb,a,ha,q,hq,rfl,rfl⟩:=he;refine⟨b,a,q,hq,fun hfn=> ?_⟩;simp only[dZ,jR] at hc;obtain⟨hnd,n1,n2,n3⟩:=hc;obtain⟨h1,h2⟩:=PC hxs
  have akK: ∀m,m<=ρ.length->Cov ρ m σ.heap.length:=by
   intro m hm k hk;have hk':k<ρ.length:=by omega
   obtain⟨x,hx,hx'⟩:=h2 k _ (dR hk')
   grind
  have hL:os.lens b=aaf xs:=funext fun k=>os.abr ρ _ _ _ _ hb k
  obtain⟨h3,h4⟩:=os.ok ρ _ σ.heap σ.heap.length _ _ (akK _ n1) hb;have U5: ∀l,l<ρ.length->atN ρ l=nv ρ σ.heap.length l:=fun l hl=>by unfold nv atN;rw[if_pos hl]
  rw[<-hL] at ha h4;refine asI hT hfn (LD hnd) (by rw[h1,h3,os.sz]) (eN n3 (hsz q)) (fun φ=>hz _ _ _ _) ?_ ?_
  ·intro i k hi;obtain⟨x,hx,hx'⟩:=h2 i k hi;have hlt:i<(os.enc (os.lens b) b).length:=by rw[os.sz,<-h3,<-h1];grind
   have hy:=dR hlt;obtain⟨x2,Pm,hcc⟩:=h4 i _ hy;rw[hx] at Pm;cases Pm;refine⟨x,_,hx',hy,?_⟩;rw[<-aad (n:=os.need) (fun l hl=>U5 l (by omega)) _ (os.nb _ _ _ (ez hy))];exact hcc
  ·rw[<-A5 (n:=as.need) (fun l hl=>U5 l (by omega)) _ (as.nb _ _)];exact as.ok ρ _ σ.heap _ _ _ (akK _ n2) ha
end acp
section uF
variable {α2 β2:Type}
def pkO(pk:Bool)(x:AV):sO:=match pk with
 |true=> .panic x
 |false=> .ret x
def aBg:pkO true x= .panic x/\pkO false x= .ret x:=⟨rfl,rfl⟩
def aww{pk:Bool}:(pkO pk x).pe τ=pkO pk (x.pe τ):=by cases pk<;>rfl
def enP(pk:Bool)(sD:OL β1)(yB:AL α1)(zJ:OL β2)(FQ:AL α2)(q:PR (β1×α1) (β2×α2)):sO×List kq:=
 CJ q (fun r=>(.ret (uE (yB.enc (sD.lens r.1) r.2)),sD.enc (sD.lens r.1) r.1)) (fun r=>(pkO pk (uE (FQ.enc (zJ.lens r.1) r.2)),zJ.enc (zJ.lens r.1) r.1))
def azk{pk:Bool}{sD:OL β1}{yB:AL α1}{zJ:OL β2}{FQ:AL α2}(q:PR (β1×α1) (β2×α2)):min sD.size zJ.size<=(enP pk sD yB zJ FQ q).2.length:=by
 cases q with
 |ok r=>simp only[enP,CJ,sD.sz];exact Nat.min_le_left _ _
 |pn r=>simp only[enP,CJ,zJ.sz];exact Nat.min_le_right _ _
def uF(pk:Bool)(pos:List Loc)(os:OL β)(as:AL α)(sD:OL β1)(yB:AL α1)(zJ:OL β2)(FQ:AL α2)(F:β->α->Option (PR (β1×α1) (β2×α2))):acV:=fun args H=>
 (afU args H pos []).bind fun ρ=>bif nodupB ρ&&(decide (os.need<=ρ.length)&&(decide (as.need<=ρ.length)&&(decide (ρ.length<=sD.size)&&decide (ρ.length<=zJ.size)))) then
   (ql (acj H) ρ).bind fun xs=>(os.dec ρ (aaf xs) H xs).bind fun b=>(as.dec ρ (aaf xs) H args).bind fun a=>(F b a).bind fun q=>
     CJ q (fun r=>some (.ret ((uE (yB.enc (sD.lens r.1) r.2)).pe (nv ρ H.length)),uB ρ H (sD.enc (sD.lens r.1) r.1)))
      (fun r=>some (pkO pk ((uE (FQ.enc (zJ.lens r.1) r.2)).pe (nv ρ H.length)),uB ρ H (zJ.enc (zJ.lens r.1) r.1))) else none
theorem as2{pk:Bool}{pos:List Loc}{os:OL β}{as:AL α}{sD:OL β1}{yB:AL α1}{zJ:OL β2}{FQ:AL α2}{F:β->α->Option (PR (β1×α1) (β2×α2))}:
 uF pk pos os as sD yB zJ FQ F args H=acp pos os as (min sD.size zJ.size) (enP pk sD yB zJ FQ) F args H:=by
 unfold uF acp;congr 1;funext ρ
 have:decide (ρ.length<=min sD.size zJ.size)=(decide (ρ.length<=sD.size)&&decide (ρ.length<=zJ.size)):=by
  grind
 rw[this];congr 1;congr 1;funext xs;congr 1;funext b;congr 1;funext a;congr 1;funext q;cases q with
 |ok r=>rfl
 |pn r=>simp only[CJ,enP,aww]
def as3(P:Program)(f:FuncId)(e:acV):Prop:= ∀args σ o H',e args σ.heap=some (o,H')->zD P f args σ (fun o' Cs=>o'=o/\Cs=H')
def FnP(P:Program)(f:FuncId)(args:List AV)(H:List kq)(x:sO×List kq):Prop:=FnG P f args H (fun o H'=>o=x.1/\H'=x.2)
def kL{pk:Bool}{pos:List Loc}{os:OL β}{as:AL α}{sD:OL β1}{yB:AL α1}{zJ:OL β2}{FQ:AL α2}{F:β->α->Option (PR (β1×α1) (β2×α2))}
 (h: ∀b a r,F b a=some r->FnP P f (as.enc (os.lens b) a) (os.enc (os.lens b) b) (enP pk sD yB zJ FQ r)):as3 P f (uF pk pos os as sD yB zJ FQ F):=by
 intro args σ o H' he;rw[as2] at he;obtain⟨b,a,q,hq,uZ⟩:=akU (P:=P) (T:=fun _ w vs R=>Calls P f vs w R) YX (fun _ _ _ _=>rfl) azk he;exact⟨(h b a q hq).1,uZ (h b a q hq).2⟩
def aal: ∀(ρ:List Nat)(xs H:List kq),lU H (ρ.zip xs)=qw H ρ xs
 |[],_,_=>by simp [lU,qw]
 |_::_,[],_=>by simp [lU,qw]
 |l::ρ,x::xs,H=>by
  simp only[List.zip_cons_cons,lU,qw];exact aal ρ xs _
def FR(pos:List Loc)(os:OL β)(as:AL α)(sD:OL β1)(yB:AL α1)(zJ:OL β2)(FQ:AL α2)(F:β->α->Option (PR (β1×α1) (β2×α2))):List AV->List kq->Option CO:=fun args H=>
 (afU args H pos []).bind fun ρ=>bif nodupB ρ&&(decide (os.need<=ρ.length)&&(decide (as.need<=ρ.length)&&(decide (ρ.length<=sD.size)&&decide (ρ.length<=zJ.size)))) then
   (ql (acj H) ρ).bind fun xs=>(os.dec ρ (aaf xs) H xs).bind fun b=>(as.dec ρ (aaf xs) H args).bind fun a=>(F b a).bind fun q=>
     CJ q (fun r=>some (.ret {val:=(uE (yB.enc (sD.lens r.1) r.2)).pe (nv ρ H.length),rd:=ρ,up:=ρ.zip ((sD.enc (sD.lens r.1) r.1).map (kq.pe (nv ρ H.length))),nw:=((sD.enc (sD.lens r.1) r.1).drop ρ.length).map (kq.pe (nv ρ H.length)),whole:=true}))
      (fun r=>some (.pan ((uE (FQ.enc (zJ.lens r.1) r.2)).pe (nv ρ H.length)) (uB ρ H (zJ.enc (zJ.lens r.1) r.1)))) else none
def air(P:Program)(f:FuncId)(e:List AV->List kq->Option CO):Prop:= ∀args (σ:jZ),(∀ef,e args σ.heap=some (.ret ef)->Jw P f args σ ef)/\ ∀x H',e args σ.heap=some (.pan x H')->ad2 P f args σ.heap x H'
def xz{pos:List Loc}{os:OL β}{as:AL α}{sD:OL β1}{yB:AL α1}{zJ:OL β2}{FQ:AL α2}{F:β->α->Option (PR (β1×α1) (β2×α2))}
 (h: ∀b a r,F b a=some r->FnP P f (as.enc (os.lens b) a) (os.enc (os.lens b) b) (enP true sD yB zJ FQ r)):air P f (FR pos os as sD yB zJ FQ F):=by
 have hP:=kL (pos:=pos) h;intro args σ
 have key: ∀c,FR pos os as sD yB zJ FQ F args σ.heap=some c-> ∃ρ,(∀l∈ρ,l<σ.heap.length)/\((∃ef,c= .ret ef/\(ef.rd=ρ/\ef.whole=true/\ ∀l∈ef.up.map (·.1),l∈ρ)/\uF true pos os as sD yB zJ FQ F args σ.heap=some (.ret ef.val,lU σ.heap ef.up++ef.nw))\/ ∃x H',c= .pan x H'/\uF true pos os as sD yB zJ FQ F args σ.heap=some (.panic x,H')):=by
  intro c he;unfold FR at he;simp only[dM] at he;obtain⟨ρ,hρ,he⟩:=he;cases hc:(nodupB ρ&&(decide (os.need<=ρ.length)&&(decide (as.need<=ρ.length)&&(decide (ρ.length<=sD.size)&&decide (ρ.length<=zJ.size))))) with
  |false=>simp [hc] at he
  |true=>
   simp only[hc,jM,dM] at he;obtain⟨xs,hxs,b,hb,a,ha,q,hq,he⟩:=he;refine⟨ρ,fun l hl=> ?_,?_⟩
   ·obtain⟨i,hi⟩:=eu hl;obtain⟨x,_,hx'⟩:=(PC hxs).2 i l hi
    grind
   ·have hbase:uF true pos os as sD yB zJ FQ F args σ.heap=CJ q (fun r=>some (.ret ((uE (yB.enc (sD.lens r.1) r.2)).pe (nv ρ σ.heap.length)),uB ρ σ.heap (sD.enc (sD.lens r.1) r.1)))
     (fun r=>some (.panic ((uE (FQ.enc (zJ.lens r.1) r.2)).pe (nv ρ σ.heap.length)),uB ρ σ.heap (zJ.enc (zJ.lens r.1) r.1))):=by
     simp_all [uF,pkO]
    cases q with
    |ok r=>
     simp only[CJ,dN] at he;subst he;left;refine⟨_,rfl,⟨rfl,rfl,fun l hl=> ?_⟩,?_⟩
     ·simp only[eL] at hl;obtain⟨p,hp,rfl⟩:=hl;exact(List.of_mem_zip hp).1
     ·rw[hbase];simp only[CJ,aal];rfl
    |pn r=>
     grind [CJ]
 refine⟨fun ef he=> ?_,fun x H' he=> ?_⟩
 ·obtain⟨ρ,hlt,⟨ef',hc,⟨h1,h2,h3⟩,hx⟩|⟨_,_,hc,_⟩⟩:=key _ he
  ·simp only[CO.ret.injEq] at hc;subst hc;refine⟨⟨by rw[h1];exact hlt,by rw[h1];exact h3⟩,fun σ' _ _ hw=> ?_⟩;have hh:=hw h2;have:=hP args σ' (.ret ef.val) (lU σ.heap ef.up++ef.nw) (by rw[hh];exact hx);rw[hh];exact this
  ·cases hc
 ·obtain⟨ρ,hlt,⟨ef',hc,_⟩|⟨x',H2,hc,hx⟩⟩:=key _ he
  ·cases hc
  ·simp only[CO.pan.injEq] at hc;obtain⟨rfl,rfl⟩:=hc;intro σ' hh;exact hP args σ' (.panic x) H' (by rw[hh];exact hx)
end uF
def yj:List (Nat×acV)->FuncId->acV
 |[],_,_,_=>none
 |(g,e)::t,f,args,H=>if f=g then e args H else yj t f args H
def lr: ∀f args (σ:jZ) o H',yj [] f args σ.heap=some (o,H')->zD P f args σ (fun o' Cs=>o'=o/\Cs=H'):=by
 intro f args σ r H' h;cases h
def kx{e:acV}{t:List (Nat×acV)}(h1:as3 P g e)(h2: ∀f args (σ:jZ) o H',yj t f args σ.heap=some (o,H')->zD P f args σ (fun o' Cs=>o'=o/\Cs=H')):
 ∀f args (σ:jZ) o H',yj ((g,e)::t) f args σ.heap=some (o,H')->zD P f args σ (fun o' Cs=>o'=o/\Cs=H'):=by
 intro f args σ r H' h;simp only[yj] at h;split at h
 ·rename_i hg;subst hg;exact h1 _ _ _ _ h
 ·exact h2 _ _ _ _ _ h
def MW:List (Nat×(List AV->List kq->Option CO))->FuncId->List AV->List kq->Option CO
 |[],_,_,_=>none
 |(g,e)::t,f,args,H=>if f=g then e args H else MW t f args H
def sQ: ∀f args (σ:jZ),(∀e,MW [] f args σ.heap=some (.ret e)->Jw P f args σ e)/\ ∀x H',MW [] f args σ.heap=some (.pan x H')->ad2 P f args σ.heap x H':=by
 intro f args σ;exact⟨fun e h=>(by cases h),fun x H' h=>(by cases h)⟩
def mP{e:List AV->List kq->Option CO}{t:List (Nat×(List AV->List kq->Option CO))}(h1:air P g e)(h2: ∀f args (σ:jZ),(∀e,MW t f args σ.heap=some (.ret e)->Jw P f args σ e)/\ ∀x H',MW t f args σ.heap=some (.pan x H')->ad2 P f args σ.heap x H'):
 ∀f args (σ:jZ),(∀ef,MW ((g,e)::t) f args σ.heap=some (.ret ef)->Jw P f args σ ef)/\ ∀x H',MW ((g,e)::t) f args σ.heap=some (.pan x H')->ad2 P f args σ.heap x H':=by
 intro f args σ;simp only[MW];by_cases hg:f=g
 ·subst hg;simp only[jU];exact h1 args σ
 grind
abbrev MX:=FuncId->List AV->List kq->Option (sO×List kq)
variable {cr:MX}
section unw

def Uh(cr cp:MX)(en:Option AV->jZ->Option R):List (FuncId×List AV)->Option AV->jZ->Option R
 |[],m,σ=>en m σ
 |(f,args)::ds,none,σ=>(cr f args σ.heap).bind fun q=>match q with
  |(.ret _,H')=>Uh cr cp en ds none {σ with heap:=H',df:=ds}
  |(.panic _,_)=>none
 |(f,args)::ds,some x,σ=>(cp f (args++[x]) σ.heap).bind fun q=>match q with
  |(.ret _,H')=>Uh cr cp en ds none {σ with heap:=H',df:=ds}
  |(.panic x',H')=>Uh cr cp en ds (some x') {σ with heap:=H',df:=ds}
theorem akV {cp:MX}{en:Option AV->jZ->Option R}{m:Option AV}:Uh cr cp en [] m σ=en m σ:=by cases m<;>rfl
def aBh(cr cp:MX)(en:Option AV->jZ->Option R)(ds:List (FuncId×List AV))(σ:jZ):sO×List kq->Option R
 |(.ret _,H')=>Uh cr cp en ds none {σ with heap:=H',df:=ds}
 |(.panic x',H')=>Uh cr cp en ds (some x') {σ with heap:=H',df:=ds}
def aBi(cr cp:MX)(en:Option AV->jZ->Option R)(ds:List (FuncId×List AV))(σ:jZ):sO×List kq->Option R
 |(.ret _,H')=>Uh cr cp en ds none {σ with heap:=H',df:=ds}
 |(.panic x',H')=>none
def as4 {cp:MX}{en:Option AV->jZ->Option R}:Uh cr cp en ((f,args)::ds) none σ=(cr f args σ.heap).bind (aBi cr cp en ds σ):=by
 simp only[Uh];congr 1
def as5 {cp:MX}{en:Option AV->jZ->Option R}:Uh cr cp en ((f,args)::ds) (some x) σ=(cp f (args++[x]) σ.heap).bind (aBh cr cp en ds σ):=by
 simp only[Uh];congr 1
def QOK(P:Program)(T:FuncId->Value->World->Array Value->(Ending->World->Prop)->Prop)(c:MX):Prop:= ∀f args (σ:jZ) o H',c f args σ.heap=some (o,H')->enters P f=true/\Nt P (T f) 0 args σ (fun o' Cs=>o'=o/\Cs=H')
def Nt.mono(hT:Va T){K K':sO->List kq->Prop}(h:Nt P T l args σ K)(hk: ∀o H,K o H->K' o H):Nt P T l args σ K':=by
 intro C φ a w hP S vs hr;refine hT.mono _ _ _ _ _ ?_ (h C φ a w hP S vs hr)
 grind
def Rl{P:Program}{cr cp:MX}{en:Option AV->jZ->Option R}{fin:Option AV->jZ->Prop}{r:R}(hr:QOK P (afO P) cr)(hp:QOK P (afP P) cp)(he: ∀m σ,σ.df=[]->en m σ=some r->fin m σ):
 ∀(ds:List (FuncId×List AV))(m:Option AV)(σ:jZ),σ.df=ds->Uh cr cp en ds m σ=some r->Z6 P fin ds m σ
 |[],m,σ,hd,h=>by rw[akV] at h;exact he m σ hd h
 |(f,args)::ds,none,σ,hd,h=>by
  simp only[Uh,dM] at h;obtain⟨⟨o,H'⟩,hc,h⟩:=h;obtain⟨h1,h2⟩:=hr f args {σ with df:=ds} o H' hc;refine⟨h1,h2.mono abi ?_⟩;rintro o' Cs ⟨rfl,rfl⟩;cases o' with
  |ret x=>exact Rl hr hp he ds none _ rfl h
  |panic x=>cases h
 |(f,args)::ds,some x,σ,hd,h=>by
  simp only[Uh,dM] at h;obtain⟨⟨o,H'⟩,hc,h⟩:=h;obtain⟨h1,h2⟩:=hp f (args++[x]) {σ with df:=ds} o H' hc;refine⟨h1,h2.mono abj ?_⟩;rintro o' Cs ⟨rfl,rfl⟩;cases o' with
  |ret x=>exact Rl hr hp he ds none _ rfl h
  |panic x=>exact Rl hr hp he ds (some x) _ rfl h
def LV:List (Nat×acV)->MX
 |[],_,_,_=>none
 |(g,e)::t,f,args,H=>if f=g then e args H else LV t f args H
def JF{T:FuncId->Value->World->Array Value->(Ending->World->Prop)->Prop}:QOK P T (LV []):=by
 intro f args σ o H' h;cases h
def GN{T:FuncId->Value->World->Array Value->(Ending->World->Prop)->Prop}{e:acV}{t:List (Nat×acV)}(h1: ∀args (σ:jZ) o H',e args σ.heap=some (o,H')->enters P g=true/\Nt P (T g) 0 args σ (fun o' Cs=>o'=o/\Cs=H'))(h2:QOK P T (LV t)):QOK P T (LV ((g,e)::t)):=by
 intro f args σ o H' h;simp only[LV] at h;split at h
 ·grind
 ·exact h2 _ _ _ _ _ h
def enR(sD:OL β1)(yB:AL α1)(r:β1×α1):sO×List kq:=(.ret (uE (yB.enc (sD.lens r.1) r.2)),sD.enc (sD.lens r.1) r.1)
def Ic(pos:List Loc)(os:OL β)(as:AL α)(sD:OL β1)(yB:AL α1)(F:β->α->Option (β1×α1)):acV:=acp pos os as sD.size (enR sD yB) F
def PE(hT:Va T)(hz: ∀(φ φ':Nat->Value)(k k':Nat),T (φ k)=T (φ' k'))(hen:enters P f=true){pos:List Loc}{os:OL β}{as:AL α}{sD:OL β1}{yB:AL α1}{F:β->α->Option (β1×α1)}
 (h: ∀b a r,F b a=some r->FnT P T (as.enc (os.lens b) a) (os.enc (os.lens b) b) (fun o H'=>o=(enR sD yB r).1/\H'=(enR sD yB r).2)): ∀args (σ:jZ) o H',Ic pos os as sD yB F args σ.heap=some (o,H')->enters P f=true/\Nt P T 0 args σ (fun o' Cs=>o'=o/\Cs=H'):=by
 intro args σ o H' he;obtain⟨b,a,q,hq,uZ⟩:=akU (P:=P) (T:=T) hT hz (fun q=>by simp only[enR,sD.sz];exact ec _) he;exact⟨hen,uZ (h b a q hq)⟩
end unw
section steps
variable {k:List Kt} {q:PR α β}
def aqG{rest:List Oper}{f:α->Option (sO×List kq)}{g:β->Option (sO×List kq)}:Nu M ops dst rest k σ (CJ q f g)=CJ q (fun x=>Nu M ops dst rest k σ (f x)) (fun y=>Nu M ops dst rest k σ (g y)):=by cases q<;>rfl
def anU{rest:List Oper}{f:α->Option CO}{g:β->Option CO}:Kr M p dst rest j tr k σ (CJ q f g)=CJ q (fun x=>Kr M p dst rest j tr k σ (f x)) (fun y=>Kr M p dst rest j tr k σ (g y)):=by cases q<;>rfl
end steps
attribute [go_sem] aBg anT azj aqG anU uF FR Ic acp enR yj MW LV akV as4 as5 aBh aBi List.zip_cons_cons List.zip_nil_left sO.pe
section ends
variable {α2 β2:Type}
def py(P:Program)(rs:List ResultVar)(pos:List Loc)(base:List Nat)(low:Nat)(os:OL β1)(s:AL α1)(σ:jZ):Option (PR (β1×α1) (β2×α2)):=(CT P rs pos base low os s σ).map .ok
def pz(pos:List Loc)(base:List Nat)(low:Nat)(os:OL β2)(s:AL α2)(x:AV)(σ:jZ):Option (PR (β1×α1) (β2×α2)):=(anJ [x] pos base low os s σ).map .pn
attribute [go_sem] py pz
theorem ag8{y:AV}:uE [y]=y:=rfl
def awx{fn:Func}{r:PR (β1×α1) (β2×α2)}{M:kU (PR (β1×α1) (β2×α2))}{sD:OL β1}{yB:AL α1}{zJ:OL β2}{FQ:AL α2}{p2:List Loc}{b2:List Nat}(G:Good M)(hf:M.P.funcs[f]? =some fn)(hb:fn.body=some M.body)(hne:(fn.name != "runtime.NumGoroutine")=true)
 (hnb:vK H.length args) (Ft: ∀x∈H,qk H.length x) (hn:fn.ntmps=n) (Ia:fn.results=rs.toArray) (Vh:b1=dU low) (hb2:b2=dU low) (hone: ∀b a,∃y,FQ.enc (zJ.lens b) a=[y])
 (ho:M.out=py M.P rs p1 b1 low sD yB) (hq:M.oz=pz p2 b2 low zJ FQ)
 (h:run M [.at []] {slots:=args++dO (n-args.length) .any,heap:=H,low:=H.length}=some r):FnP M.P f args H (enP true sD yB zJ FQ r):=by
 refine aac G hf hb hne hnb Ft hn Ia (fun σ hs=> ?_) (fun x σ hs=> ?_) h
 ·rw[ho] at hs;unfold py at hs;rw[dV] at hs;obtain⟨q,hq,rfl⟩:=hs;obtain⟨hd,xs,hx,Ei⟩:=Ny Vh hq;rw[hd];exact JE hx Ei
 ·rw[hq] at hs;unfold pz at hs;rw[dV] at hs;obtain⟨q,hq,rfl⟩:=hs;obtain⟨hd,Ei⟩:=aai hb2 hq;rw[hd];obtain⟨y,hy⟩:=hone q.1 q.2;rw[hy] at Ei;have:=aks (P:=M.P) (rs:=rs) Ei.e;simp only[enP,CJ,hy,ag8,pkO];exact this
def aam(P:Program)(rs:List ResultVar)(p1:List Loc)(base:List Nat)(low:Nat)(sD:OL β1)(s1:AL α1)(p2:List Loc)(zJ:OL β2)(s2:AL α2)(σ:jZ):Option (PR (β1×α1) (β2×α2)):=
 ((CT P rs p1 base low sD s1 σ).map .ok).or ((CT P rs p2 base low zJ s2 σ).map .pn)
attribute [go_sem] aam
def awy{fn:Func}{r:PR (β1×α1) (β2×α2)}{M:kU (PR (β1×α1) (β2×α2))}{sD:OL β1}{yB:AL α1}{zJ:OL β2}{FQ:AL α2}{p2:List Loc}(G:Good M)(hf:M.P.funcs[f]? =some fn)(hb:fn.body=some M.body)(hne:(fn.name != "runtime.NumGoroutine")=true)
 (hnb:vK H.length args) (Ft: ∀x∈H,qk H.length x) (hn:fn.ntmps=n) (Ia:fn.results=rs.toArray) (Vh:b1=dU low) (ho:M.out=aam M.P rs p1 b1 low sD yB p2 zJ FQ)
 (h:run M [.at []] {slots:=args++dO (n-args.length) .any,heap:=H,low:=H.length}=some r) (hP: ∀x σ',M.oz x σ'=none:=by intros;rfl):FnP M.P f args H (enP false sD yB zJ FQ r):=by
 refine aac G hf hb hne hnb Ft hn Ia (fun σ hs=> ?_) (fun x σ hs=>by rw[hP x σ] at hs;cases hs) h;rw[ho] at hs;unfold aam at hs;rw[eK] at hs;rcases hs with hs|⟨_,hs⟩
 ·rw[dV] at hs;obtain⟨q,hq,rfl⟩:=hs;obtain⟨hd,xs,hx,Ei⟩:=Ny Vh hq;rw[hd];exact JE hx Ei
 ·rw[dV] at hs;obtain⟨q,hq,rfl⟩:=hs;obtain⟨hd,xs,hx,Ei⟩:=Ny Vh hq;rw[hd];exact JE hx Ei
def enC{ρ:Type}(P:Program)(rs:List ResultVar)(t:Ty ρ):Option AV->jZ->Option ρ
 |none,σ=>nH P rs t σ
 |some _,_=>none
def aBj{ρ:Type}{t:Ty ρ}:enC P rs t none σ=nH P rs t σ/\ ∀x,enC P rs t (some x) σ=none:=⟨rfl,fun _=>rfl⟩
def awz{ρ:Type}(cr cp:MX)(P:Program)(rs:List ResultVar)(t:Ty ρ)(σ:jZ):Option ρ:=Uh cr cp (enC P rs t) σ.df none σ
def apa{ρ:Type}(cr cp:MX)(P:Program)(rs:List ResultVar)(t:Ty ρ)(x:AV)(σ:jZ):Option ρ:=Uh cr cp (enC P rs t) σ.df (some x) σ
attribute [go_sem] aBj awz apa
def akW{ρ:Type}{M:kU ρ}{fn:Func}{r:ρ}{t:Ty ρ}{cp:MX}(G:Good M)(hcr:QOK M.P (afO M.P) cr)(hcp:QOK M.P (afP M.P) cp)(hf:M.P.funcs[f]? =some fn)(hb:fn.body=some M.body)(hne:(fn.name != "runtime.NumGoroutine")=true)(hnb:vK 0 args)
 (hn:fn.ntmps=n) (Ia:fn.results=rs.toArray) (ho:M.out=awz cr cp M.P rs t) (hq:M.oz=apa cr cp M.P rs t)
 (h:run M [.at []] {slots:=args++dO (n-args.length) .any,heap:=[]}=some r):IR M.P f args (fun v=>v=t.enc r):=by
 have hend: ∀m σ,σ.df=[]->enC M.P rs t m σ=some r->ap7 M.P rs (fun v=>v=t.enc r) m σ:=by
  intro m σ _ he;cases m with
  |none=>exact(Z9 he).2
  |some x=>cases he
 refine ah5 hf hb hne hnb ?_;rw[Ia,hn];refine Ra G h (fun σ hs=> ?_) (fun x σ hs=> ?_)
 ·rw[ho] at hs;have:=Rl hcr hcp hend σ.df none σ rfl hs;exact⟨this,this⟩
 ·rw[hq] at hs;exact Rl hcr hcp hend σ.df (some x) σ rfl hs
theorem akX{M:kU (β1×α1)}{fn:Func}{id:Nat}{rest:List Oper}{r:β1×α1}{sD:OL β1}{yB:AL α1}(G:Good M)
 (hf:M.P.funcs[f]? =some fn) (hb:fn.body=some M.body) (hbody:M.body= .seq (.region id ops false) y) (acS:ops.toList=o::rest) (Uf:acn o=true) (akT:Xe rest=true)
 (hnb:vK H.length (args++[x])) (Ft: ∀x∈H,qk H.length x) (hn:fn.ntmps=n) (Ia:fn.results=rs.toArray) (Vh:b1=dU low) (ho:M.out=CT M.P rs p1 b1 low sD yB)
 (h:run M [.ops ops rest,.cut [1],.at [1]] (jZ.put {slots:=args++dO (n-args.length) .any,heap:=H,low:=H.length} o.dst x)=some r) (hP: ∀x σ',M.oz x σ'=none:=by intros;rfl):
 FnT M.P (afP M.P f) (args++[x]) H (fun o H'=>o=(enR sD yB r).1/\H'=(enR sD yB r).2):=by
 refine acT hf (by rw[hb,hbody]) acS Uf hnb Ft hn Ia (ao9 G hbody akT (fun σ hs=> ?_) h hP);rw[ho] at hs;obtain⟨hd,xs,hx,Ei⟩:=Ny Vh hs;have:=JE hx Ei;exact⟨⟨hd,this⟩,hd,this⟩
theorem akY{M:kU (β1×α1)}{fn:Func}{id:Nat}{rest:List Oper}{r:β1×α1}{sD:OL β1}{yB:AL α1}(G:Good M)
 (hf:M.P.funcs[f]? =some fn) (hb:fn.body=some M.body) (hbody:M.body= .seq (.region id ops false) y) (acS:ops.toList=o::rest) (Uf:acn o=true) (akT:Xe rest=true)
 (hnb:vK H.length args) (Ft: ∀x∈H,qk H.length x) (hn:fn.ntmps=n) (Ia:fn.results=rs.toArray) (Vh:b1=dU low) (ho:M.out=CT M.P rs p1 b1 low sD yB)
 (h:run M [.ops ops rest,.cut [1],.at [1]] (jZ.put {slots:=args++dO (n-args.length) .any,heap:=H,low:=H.length} o.dst (.raw .nilIface))=some r) (hP: ∀x σ',M.oz x σ'=none:=by intros;rfl):
 FnT M.P (afO M.P f) args H (fun o H'=>o=(enR sD yB r).1/\H'=(enR sD yB r).2):=by
 refine acU hf (by rw[hb,hbody]) acS Uf hnb Ft hn Ia (ao9 G hbody akT (fun σ hs=> ?_) h hP);rw[ho] at hs;obtain⟨hd,xs,hx,Ei⟩:=Ny Vh hs;have:=JE hx Ei;exact⟨⟨hd,this⟩,hd,this⟩
end ends
def dIf(t:TypeId)(a:Ty α):AV->Option α
 | .iface t' v=>if t'=t then a.dec [] v else none
 |_=>none
def aqH{t:TypeId}{y:AV}(h:Sub x y):Sub (.iface t x) (.iface t y):=by
 rintro E v ⟨u,hu,r⟩;exact⟨u,hu,h _ _ r⟩
def Oq(t:TypeId)(a:Ty α):Ty α where
 enc x:= .iface t (a.enc x)
 dec _:=dIf t a
 ok H n v x h:=by
  unfold dIf at h;split at h
  ·split at h
   ·rename_i ht;subst ht;exact Co.sub (aqH (a.ok [] n _ _ h).pN) (a.nb n x)
   ·cases h
  ·cases h
 nb n x:=a.nb n x
def azl{t:TypeId}{a:Ty α}:(∀x,(Oq t a).enc x= .iface t (a.enc x))/\(∀H v,(Oq t a).dec H v=dIf t a v)/\ ∀v,dIf t a (.iface t v)=a.dec [] v:=⟨fun _=>rfl,fun _ _=>rfl,fun _=>by simp [dIf]⟩
def dE0:AV->Option Unit
 | .agg []=>some ()
 |_=>none
def Vk:Ty Unit where
 enc _:= .agg []
 dec _:=dE0
 ok H n v x h:=by
  unfold dE0 at h;split at h
  ·exact Co.same trivial
  ·cases h
 nb n x:=trivial
def azm:(∀x,Vk.enc x= .agg [])/\(∀H v,Vk.dec H v=dE0 v)/\dE0 (.agg [])=some ():=⟨fun _=>rfl,fun _ _=>rfl,rfl⟩
attribute [go_sem] azl azm
def KK(t:Ty α)(p:Str×α):AV×AV:=(.str (sb p.1),t.enc p.2)
section
variable {t:Ty α}
theorem Vl: ∀xs:List (Str×α),Ko (xs.map (KK t))=true
 |[]=>rfl
 |_::xs=>Vl xs
theorem aan(s:Str): ∀xs:List (Str×α),wL (sb s) (xs.map (KK t))=(mW s xs).map t.enc
 |[]=>rfl
 |(k,v)::xs=>by
  show(bif sb s==sb k then some (t.enc v) else wL (sb s) (xs.map (KK t)))=_;rw[ain,aan s xs]
  grind [mW]
theorem acq(s:Str)(v:α): ∀xs:List (Str×α),IO (sb s) (t.enc v) (xs.map (KK t))=(yA s v xs).map (KK t)
 |[]=>rfl
 |(k,u)::xs=>by
  show(bif sb s==sb k then(AV.str (sb k),t.enc v)::xs.map (KK t) else(AV.str (sb k),t.enc u)::IO (sb s) (t.enc v) (xs.map (KK t)))=_;rw[ain,acq s v xs];simp only[yA];cases s==k<;>rfl
def oel(o:Option α)(a:γ)(f:α->γ):γ:=match o with
 |none=>a
 |some x=>f x
def as6{a:γ}{f:α->γ}:oel none a f=a:=rfl
def as7{x:α}{a:γ}{f:α->γ}:oel (some x) a f=f x:=rfl
def as8{s:Str}{xs:List (Str×α)}:aa7 z l (sb s) (some (.map (mp (KK t) xs)))=oel (mW s xs) (some {val:= .FI [z,.bool false],rd:=[l]}) (fun x=>some {val:= .FI [t.enc x,.bool true],rd:=[l]}):=by
 rw[rH];simp only[aa7,Vl,jU,aan];cases mW s xs<;>rfl
def awA{s:Str}{v:α}{xs:List (Str×α)}:Ad l (sb s) (t.enc v) (some (.map (mp (KK t) xs)))=some {val:= .any,rd:=[l],up:=[(l,.map (mp (KK t) (yA s v xs)))]}:=by
 grind [rH,Ad,Vl,acq]
def ady(n:Nat)(xs:List (Str×α)):qk n (.map (mp (KK t) xs))=True:=by
 refine eq_true fun p hp=> ?_
 rw[rH,eL] at hp;obtain⟨q,_,rfl⟩:=hp;exact⟨trivial,t.nb n q.2⟩
def akZ(ρ:Nat->Nat)(xs:List (Str×α)):(mp (KK t) xs).map (fun p=>(AV.pe ρ p.1,AV.pe ρ p.2))=mp (KK t) xs:=by
 rw[rH,eM];refine ek fun q _=> ?_
 show(AV.pe ρ (.str (sb q.1)),AV.pe ρ (t.enc q.2))=(.str (sb q.1),t.enc q.2);rw[IU ρ _ (t.nb 0 q.2)];rfl
theorem ak0(τ:Nat->Nat)(xs:List (Str×α)):(kq.map (mp (KK t) xs)).pe τ= .map (mp (KK t) xs):=by
 show kq.map ((mp (KK t) xs).map _)=_;congr 1;exact akZ τ xs
def Y7(t:Ty α)(x:kq):Option (List (Str×α)):= @dite _ (∃xs,x= .map (mp (KK t) xs)) (Classical.propDecidable _) (fun h=>some h.choose) (fun _=>none)
theorem ais{x:kq}{xs:List (Str×α)}(h:Y7 t x=some xs):x= .map (mp (KK t) xs):=by
 unfold Y7 at h;split at h
 all_goals grind
end
section inj
variable {t:Ty α} (hinj:∀x y,t.enc x=t.enc y->x=y)
include hinj
theorem apb: ∀xs ys:List (Str×α),xs.map (KK t)=ys.map (KK t)->xs=ys
 |[],[],_=>rfl
 |[],_::_,h=>by simp at h
 |_::_,[],h=>by simp at h
 |(s,x)::xs,(s',y)::ys,h=>by
  simp only[List.map_cons,ey] at h;obtain⟨h1,h2⟩:=h;simp only[KK,dQ,AV.str.injEq] at h1
  have e1:s=s':=by
   grind [PD]
  rw[e1,hinj _ _ h1.2,apb xs ys h2]
theorem apc(xs:List (Str×α)):Y7 t (.map (mp (KK t) xs))=some xs:=by
 have hh: ∃ys,(kq.map (mp (KK t) xs))= .map (mp (KK t) ys):=⟨xs,rfl⟩
 grind [Y7,rH,apb]
theorem aqI:Y7 t (.map (mp DG []))=some []:=by
 have:=apc hinj [];rw[rH] at this ⊢;exact this
def as9:(∀xs,Y7 t (.map (mp (KK t) xs))=some xs)/\Y7 t (.map [])=some []/\Y7 t (.map (mp DG []))=some []:=by
 grind [apc,aqI,rH]
end inj
section og

def afY(t:Ty α):OG (List (Str×α)) where
 enc _ xs:= .map (mp (KK t) xs)
 dec _ _ _:=Y7 t
 len _:=0
 need:=0
 nb L g:=of_eq_true (ady 0 g)
 ok ρ L H n x g _ h:=by
  rw[ais h];rw[ak0];exact .inr (.inl ⟨rfl,of_eq_true (ady n g)⟩)
 aev ρ L H x g h:=by
  rw[ais h];rfl
def azn{t:Ty α}:(∀L g,(afY t).enc L g= .map (mp (KK t) g))/\(∀ρ L H x,(afY t).dec ρ L H x=Y7 t x)/\(∀g,(afY t).len g=0)/\(afY t).need=0:=⟨fun _ _=>rfl,fun _ _ _ _=>rfl,fun _=>rfl,rfl⟩
def oM(t:Ty α):ZO:=⟨fun _ _ x=>(Y7 t x).bind fun xs=>some (.map (mp (KK t) xs)),fun H n x y h=>by
 simp only[dM,dN] at h;obtain⟨xs,hx,rfl⟩:=h;rw[ais hx];exact .inr (.inl ⟨rfl,of_eq_true (ady n xs)⟩)⟩
def aC4{t:Ty α}{x:kq}:(oM t).f H n x=(Y7 t x).bind fun xs=>some (.map (mp (KK t) xs)):=rfl
end og
def ata{pos:List Loc}{os:OL β}{as:AL α}{sD:OL β1}{yB:AL α1}{F:β->α->Option (β1×α1)}
 (h: ∀b a r,F b a=some r->FnG P f (as.enc (os.lens b) a) (os.enc (os.lens b) b) (fun o H'=>o= .ret (uE (yB.enc (sD.lens r.1) r.2))/\H'=sD.enc (sD.lens r.1) r.1)):
 air P f (FR pos os as sD yB sD yB (fun b a=>(F b a).map fun r=>(PR.ok r:PR (β1×α1) (β1×α1)))):=by
 refine xz (fun b a r hr=> ?_);rw[dV] at hr;obtain⟨r',hr,rfl⟩:=hr;exact h b a r' hr
def awB(v:AV)(s:AL δ)(ρ:List Nat)(L:BN)(H:List kq):List AV->Option δ
 |x::xs=>mA (x=v) (s.dec ρ L H xs)
 |_=>none
def alK(v:AV)(hv:v.nb 0)(s:AL δ):AL δ where
 enc L g:=v::s.enc L g
 dec:=awB v s
 need:=s.need
 nb L g:=⟨AV.ab4 (eo _) v hv,s.nb L g⟩
 ok ρ L H n vs g hc h:=by
  unfold awB at h;split at h
  ·rw[lV] at h;obtain⟨rfl,h⟩:=h;refine B9.cons ?_ (s.ok ρ L H n _ _ hc h);rw[IU _ _ hv];exact Co.same (AV.ab4 (eo _) _ hv)
  ·cases h
def aBk{hv:v.nb 0}{s:AL δ}:(∀L g,(alK v hv s).enc L g=v::s.enc L g)/\(∀ρ L H xs,(alK v hv s).dec ρ L H xs=awB v s ρ L H xs)/\(alK v hv s).need=s.need:=⟨fun _ _=>rfl,fun _ _ _ _=>rfl,rfl⟩
attribute [go_sem] aBk awB
section steps
variable {k:List Kt} {o:Option α}
def aqJ{rest:List Oper}{a:Option ux}{f:α->Option ux}:qU M ops dst rest k σ (oel o a f)=oel o (qU M ops dst rest k σ a) (fun x=>qU M ops dst rest k σ (f x)):=by cases o<;>rfl
def anV{rest:List Oper}{a:Option ux}{f:α->Option ux}:xw M p dst rest j tr k σ (oel o a f)=oel o (xw M p dst rest j tr k σ a) (fun x=>xw M p dst rest j tr k σ (f x)):=by cases o<;>rfl
end steps
attribute [go_sem] aC4 as6 as7 as8 azn ak0 aqJ anV ahQ
attribute [go_sem high] ady akZ
def awC(d:Nat):Code->Bool
 | .seq (.region _ ops false) _=>match ops.toList with
   |o::rest=>acn o&&(o.dst==some d)&&Xe rest
   |[]=>false
 |_=>false
def ag9{c:Code}(h:awC d c=true): ∃id ops y o rest,c= .seq (.region id ops false) y/\ops.toList=o::rest/\acn o=true/\o.dst=some d/\Xe rest=true:=by
 unfold awC at h
 grind
section azo

def aao{M:kU (β1×α1)}{fn:Func}{r:β1×α1}{sD:OL β1}{yB:AL α1}(G:Good M)
 (hf:M.P.funcs[f]? =some fn) (hb:fn.body=some M.body) (Uf:awC d M.body=true)
 (hnb:vK H.length (args++[x])) (Ft: ∀x∈H,qk H.length x) (hn:fn.ntmps=n) (Ia:fn.results=rs.toArray) (Vh:b1=dU low) (ho:M.out=CT M.P rs p1 b1 low sD yB)
 (h:run M [.ops (rj M [0]) ((rj M [0]).toList.drop 1),.cut [1],.at [1]] (jZ.put {slots:=args++dO (n-args.length) .any,heap:=H,low:=H.length} (some d) x)=some r) (hP: ∀x σ',M.oz x σ'=none:=by intros;rfl):
 FnT M.P (afP M.P f) (args++[x]) H (fun o H'=>o=(enR sD yB r).1/\H'=(enR sD yB r).2):=by
 obtain⟨id,ops,y,o,rest,hbody,acS,h1,h2,h3⟩:=ag9 Uf;have e:rj M [0]=ops:=by unfold rj;rw[hbody];rfl
 grind [akX]
def aap{M:kU (β1×α1)}{fn:Func}{r:β1×α1}{sD:OL β1}{yB:AL α1}(G:Good M)
 (hf:M.P.funcs[f]? =some fn) (hb:fn.body=some M.body) (Uf:awC d M.body=true)
 (hnb:vK H.length args) (Ft: ∀x∈H,qk H.length x) (hn:fn.ntmps=n) (Ia:fn.results=rs.toArray) (Vh:b1=dU low) (ho:M.out=CT M.P rs p1 b1 low sD yB)
 (h:run M [.ops (rj M [0]) ((rj M [0]).toList.drop 1),.cut [1],.at [1]] (jZ.put {slots:=args++dO (n-args.length) .any,heap:=H,low:=H.length} (some d) (.raw .nilIface))=some r) (hP: ∀x σ',M.oz x σ'=none:=by intros;rfl):
 FnT M.P (afO M.P f) args H (fun o H'=>o=(enR sD yB r).1/\H'=(enR sD yB r).2):=by
 obtain⟨id,ops,y,o,rest,hbody,acS,h1,h2,h3⟩:=ag9 Uf;have e:rj M [0]=ops:=by unfold rj;rw[hbody];rfl
 grind [akY]
end azo
section
variable {a:Act}

def anW(P:Program)(rs:List ResultVar)(j:Nat)(r:Row γ)(s:ED (List γ×Unit) α)(σ:jZ):Option ((List γ×Unit)×α):=
 bif σ.df.isEmpty then(yz P σ rs).bind fun xs=>atb (CS j r.sz false ⟨xs,σ.heap,0,[]⟩) j r s σ.low else none
where
 atb (τ:jZ) (j:Nat) (r:Row γ) (s:ED (List γ×Unit) α) (low:Nat):Option ((List γ×Unit)×α):=
  match τ.slots[j]? with
  |some (.acc l _)=>match τ.heap[l]? with
   |some y=>mA (low=0/\qk 0 y/\vK 1 (qQ (Q8 0 l) τ.slots)) (((vO (oaT false r) uD).dec [y] [y]).bind fun b=>(s.dec b [y] (qQ (Q8 0 l) τ.slots)).bind fun a=>bif decide (s.need<=1) then some (b,a) else none)
   |none=>none
  |_=>none
def Xf{r:Row γ}{s:ED (List γ×Unit) α}{q:(List γ×Unit)×α}(h:anW P rs j r s σ=some q):
 σ.df=[]/\ ∃xs,yz P σ rs=some xs/\Y4 ⟨xs,σ.heap,σ.low,[]⟩ ⟨s.enc q.1 q.2,(vO (oaT false r) uD).enc q.1,σ.low,[]⟩:=by
 unfold anW at h;cases hd0:σ.df with
 |cons p q=>rw[hd0] at h;cases h
 |nil=>
 rw[hd0] at h;simp only[ep,jM] at h;simp only[dM] at h;obtain⟨xs,hx,h⟩:=h;refine⟨rfl,xs,hx,?_⟩;unfold anW.atb at h;split at h
 case h_2=>cases h
 rename_i l m hs;split at h
 case h_2=>cases h
 rename_i y hl;rw[lV] at h;obtain⟨⟨Ez,h1,h2⟩,h⟩:=h;simp only[dM] at h;obtain⟨b,hb,a,ha,h⟩:=h;cases hd:decide (s.need<=1) with
 |false=>simp [hd] at h
 |true=>
  simp only[hd,jM,dN] at h;subst h;rw[Ez];have i1:GF ⟨xs,σ.heap,0,[]⟩ (CS j r.sz false ⟨xs,σ.heap,0,[]⟩):=aeo;have aAM:(CS j r.sz false ⟨xs,σ.heap,0,[]⟩).low=0:=by unfold CS;split<;>rfl
  have aC0:(CS j r.sz false ⟨xs,σ.heap,0,[]⟩).df=[]:=by unfold CS;split<;>rfl
  generalize hτ:CS j r.sz false ⟨xs,σ.heap,0,[]⟩=τ at*;have i2:Y4 ⟨τ.slots,τ.heap,0,[]⟩ ⟨qQ (Q8 0 l) τ.slots,τ.heap.take 0++[y],0,[]⟩:=Vi hl (eo _) (by simp) h1 h2;have e:τ=⟨τ.slots,τ.heap,0,[]⟩:=by cases τ;grind
  rw[e] at i1;refine(i1.e.trans i2).trans ?_;simp only[eI,eG];obtain⟨h5,h6⟩:=(vO (oaT false r) uD).ok [y] 1 _ _ hb;refine GF.e (adX.imp (σ:=⟨qQ (Q8 0 l) τ.slots,[y],0,[]⟩) (σ':=⟨s.enc b a,(vO (oaT false r) uD).enc b,0,[]⟩) ⟨⟨⟨rfl,eo _⟩,rfl,U6⟩,?_,?_⟩)
  ·show B9 [y] ((vO (oaT false r) uD).enc b).length _ _;rw[h6];exact s.ok b [y] 1 _ a (jQ hd) ha
  grind
end
section open_
variable {k:List Kt}
def anX{rest:List Oper}{rd:List Nat}{up:List (Nat×kq)}{nw:List kq}{pr:Prop}:
 xw M p dst rest j tr k σ (some {val:=x,rd,up,nw,pre:=pr,whole:=true})=mA pr (mA (Q9 M p tr j {val:=x,rd,up,nw,pre:=pr,whole:=true}) (run M (.MV p rest (j+1) (IV tr j σ.heap.length {val:=x,rd,up,nw,pre:=pr,whole:=true})::k) {σ.put dst x with heap:=lU σ.heap up++nw})):=by
 rw[<-Xb];rfl
def atc(M:kU R)(p:List Nat)(c:Nat)(o:Oper)(rest:List Oper)(j:Nat)(σ:jZ):Option ux->Prop
 |some e=>(e.pre/\e.up=[]/\e.nw=[])/\Vc M p c rest (j+1) (σ.put o.dst e.val)
 |none=>False
def ak1(M:kU R)(p:List Nat)(c:Nat)(o:Oper)(rest:List Oper)(j:Nat)(σ:jZ):Option (FuncId×List AV)->Prop
 |some _=>False
 |none=>atc M p c o rest j σ (QU M.P σ o.op)
def apd(M:kU R)(p:List Nat)(c:Nat)(o:Oper)(rest:List Oper)(j:Nat)(σ:jZ):Option Bool->Prop
 |none=>False
 |some false=>Vc M p c rest (j+1) (σ.put o.dst (.raw undef))
 |some true=>ak1 M p c o rest j σ (mq σ o.op)
def anY{rest:List Oper}{e:ux}:atc M p c o rest j σ (some e)=((e.pre/\e.up=[]/\e.nw=[])/\Vc M p c rest (j+1) (σ.put o.dst e.val)):=rfl
def anZ{rest:List Oper}:ak1 M p c o rest j σ none=atc M p c o rest j σ (QU M.P σ o.op):=rfl
def an0{rest:List Oper}:apd M p c o rest j σ (some true)=ak1 M p c o rest j σ (mq σ o.op):=rfl
def ak2{rest:List Oper}:apd M p c o rest j σ (some false)=Vc M p c rest (j+1) (σ.put o.dst (.raw undef)):=rfl
def an1{rest:List Oper}(h:Ib M p c j=false):Vc M p c (o::rest) j σ=apd M p c o rest j σ (pm (rj M p) o σ):=by
 unfold Ib at h;show Pv M.P (rj M p) c (o::rest) j σ=_;simp only[Pv,h];cases hw:pm (rj M p) o σ with
 |none=>rfl
 |some b=>
  cases b with
  |false=>rfl
  |true=>
   simp only[apd];cases hc:mq σ o.op with
   |some q=>simp [ak1]
   |none=>
    simp only[true_and,ak1,<-sj];cases k7 M.P σ o.op with
    |none=>rfl
    |some e=>rfl
end open_
attribute [go_sem] anX anY anZ an0 ak2 an1 anj anW anW.atb
section

def ak3{r:Row α}{vs:List Value}(h:kC E ((nP r).enc []::ys) vs): ∃base c,kC E (.raw (.slice base 0 c)::ys) vs:=by
 obtain⟨u,us,e,⟨base,cap,hu,_⟩,h2⟩:=h;have hl:(mp r.enc ([]:List α)).length=0:=LA _ _;rw[hl] at hu;exact⟨base,cap,u,us,e,hu,h2⟩
def atd{r:Row α}{V:AV->Prop}(h: ∀base c,IR P f (.raw (.slice base 0 c)::ys) V):IR P f ((nP r).enc []::ys) V:=by
 obtain⟨h1,h2,h3⟩:=h none 0;refine⟨h1,⟨(nP r).nb 0 _,h2.2⟩,fun C φ w a b c d vs hv=> ?_⟩;obtain⟨base,cap,hr⟩:=ak3 hv;exact(h base cap).2.2 C φ w a b c d vs hr
def aeC{r:Row α}(h: ∀base c,FnG P f (.raw (.slice base 0 c)::ys) [] V):FnG P f ((nP r).enc []::ys) [] V:=by
 obtain⟨h1,h2,h2',h3⟩:=h none 0;refine⟨h1,⟨(nP r).nb 0 _,h2.2⟩,h2',fun C φ w a b c d e e2 vs hv=> ?_⟩;obtain⟨base,cap,hr⟩:=ak3 hv;exact(h base cap).2.2.2 C φ w a b c d e e2 vs hr
def cellsOf_nil:cellsOf (.agg [])=some []:=rfl
def an2:uP [] 0 []=[]:=rfl
def aBl:(∀l o v,(AV.ptr l o=AV.raw v)=False)/\(∀l o v,(AV.raw v=AV.ptr l o)=False)/\((AV.bool true=AV.bool false)=False)/\((AV.bool false=AV.bool true)=False):=by simp
def ape:(AV.bool b).nb 0:=trivial
def aBm{v:Value}:(AV.raw v).nb 0:=trivial
end
attribute [go_sem] ep cellsOf_nil an2 aBl
def oI(P:Program)(f:Func)(n:Nat)(out:jZ->Option R)(cl:FuncId->List AV->List kq->Option (AV×List kq):=nR [])(cd:FuncId->List AV->Option AV:=JB [])
 (rG:List Nat->jZ->Option jZ:=q9 []) (cut:List Nat->jZ->Option jZ:=Y3 []) (uR:FuncId->Bool:=mg []) (cp:FuncId->List AV->List kq->Option (sO×List kq):=fun _ _ _=>none)
 (oz:AV->jZ->Option R:=fun _ _=>none) (vf:FuncId->Bool:=fun _=>false) (co:FuncId->List AV->List kq->Option CO:=fun _ _ _=>none) (vJ:FuncId->Bool:=fun _=>false)
 (ce:FuncId->List AV->List kq->Option ux:=fun _ _ _=>none) (js:List Nat->List (Int×Code):=fun _=>[]) (cy:Nat->List AV->List kq->Option (AV×List kq):=fun _ _ _=>none):kU R:=
 {P:=P,body:=f.body.getD .skip,cl:=cl,cd:=cd,rG:=rG,cut:=cut,n:=n,out:=out,uR:=uR,cp:=cp,oz:=oz,vf:=vf,co:=co,vJ:=vJ,ce:=ce,js:=js,cy:=cy}
section
variable {f:Func} {out:jZ->Option R} {cl:FuncId->List AV->List kq->Option (AV×List kq)} {cd:FuncId->List AV->Option AV} {rG:List Nat->jZ->Option jZ} {cut:List Nat->jZ->Option jZ} {uR:FuncId->Bool} {cp:FuncId->List AV->List kq->Option (sO×List kq)}
 {oz:AV->jZ->Option R} {vf:FuncId->Bool} {co:FuncId->List AV->List kq->Option CO} {vJ:FuncId->Bool} {ce:FuncId->List AV->List kq->Option ux} {js:List Nat->List (Int×Code)} {cy:Nat->List AV->List kq->Option (AV×List kq)}
def aBn:(oI P f n out cl cd rG cut uR cp oz vf co vJ ce js cy).P=P/\(oI P f n out cl cd rG cut uR cp oz vf co vJ ce js cy).body=f.body.getD .skip/\(oI P f n out cl cd rG cut uR cp oz vf co vJ ce js cy).n=n/\
 (oI P f n out cl cd rG cut uR cp oz vf co vJ ce js cy).out=out/\(oI P f n out cl cd rG cut uR cp oz vf co vJ ce js cy).cl=cl/\(oI P f n out cl cd rG cut uR cp oz vf co vJ ce js cy).cd=cd/\
 (oI P f n out cl cd rG cut uR cp oz vf co vJ ce js cy).rG=rG/\(oI P f n out cl cd rG cut uR cp oz vf co vJ ce js cy).cut=cut/\(oI P f n out cl cd rG cut uR cp oz vf co vJ ce js cy).uR=uR/\
 (oI P f n out cl cd rG cut uR cp oz vf co vJ ce js cy).cp=cp/\(oI P f n out cl cd rG cut uR cp oz vf co vJ ce js cy).oz=oz/\(oI P f n out cl cd rG cut uR cp oz vf co vJ ce js cy).vf=vf/\
 (oI P f n out cl cd rG cut uR cp oz vf co vJ ce js cy).co=co/\(oI P f n out cl cd rG cut uR cp oz vf co vJ ce js cy).vJ=vJ/\(oI P f n out cl cd rG cut uR cp oz vf co vJ ce js cy).ce=ce/\
 (oI P f n out cl cd rG cut uR cp oz vf co vJ ce js cy).js=js/\(oI P f n out cl cd rG cut uR cp oz vf co vJ ce js cy).cy=cy:=⟨rfl,rfl,rfl,rfl,rfl,rfl,rfl,rfl,rfl,rfl,rfl,rfl,rfl,rfl,rfl,rfl,rfl⟩
end
@[reducible] def ini(args:List AV)(n:Nat)(H:List kq:=[]):jZ:={slots:=args++dO (n-args.length) .any,heap:=H,low:=H.length}
class Fu(α:Type) where z:α
instance {α:Type}:Fu (Option α):=⟨none⟩
instance {α β:Type}[Fu β]:Fu (α->β):=⟨fun _=>Fu.z⟩
def fu[Fu α](F:Nat->α):Nat->α
 |0=>Fu.z
 |n+1=>F n
def kG[Fu α]{F:Nat->α}:fu F (n+1)=F n:=rfl
def yC{α:Type}[Fu α](F:α->α):Nat->α
 |0=>Fu.z
 |m+1=>F (yC F m)
def lpM{α:Type}[Fu α](F:Nat->α->α):Nat->α
 |0=>Fu.z
 |m+1=>F m (lpM F m)
def an3{α:Type}[Fu α]{F:α->α}{G:Nat->α->Prop}(h0:G 0 Fu.z)(hs: ∀m X,G m X->G (m+1) (F X)): ∀m,G m (yC F m)
 |0=>h0
 |m+1=>hs m _ (an3 h0 hs m)
def ate{α:Type}[Fu α]{F:Nat->α->α}{G:Nat->α->Prop}(h0:G 0 Fu.z)(hs: ∀m X,G m X->G (m+1) (F m X)): ∀m,G m (lpM F m)
 |0=>h0
 |m+1=>hs m _ (ate h0 hs m)
@[reducible] def mY(l:List AV):List AV:= .any:: .any:: .any:: .any::l
@[reducible] def mQ(l:List AV):List AV:= .any:: .any:: .any:: .any:: .any:: .any:: .any:: .any:: .any:: .any:: .any:: .any:: .any:: .any:: .any:: .any::l
@[reducible] def wu(l:List AV):List AV:=mQ (mQ (mQ (mQ l)))
@[reducible] def mN(l:List NZ):List NZ:=zA::zA::zA::zA::l
@[reducible] def mL(l:List NZ):List NZ:=mN (mN (mN (mN l)))
@[reducible] def wv(l:List NZ):List NZ:=mL (mL (mL (mL l)))
def gd{f:Func}{out:jZ->Option R}{cl:FuncId->List AV->List kq->Option (AV×List kq)}{cd:FuncId->List AV->Option AV}{nl:List (List Nat×yd)}{cu:List (List Nat×List Nat)}{uR:FuncId->Bool}{cp:FuncId->List AV->List kq->Option (sO×List kq)}
 {oz:AV->jZ->Option R} {vf:FuncId->Bool} {co:FuncId->List AV->List kq->Option CO} {vJ:FuncId->Bool} {ce:FuncId->List AV->List kq->Option ux} {js:List Nat->List (Int×Code)} {cy:Nat->List AV->List kq->Option (AV×List kq)}
 (a: ∀f args σ r H',cl f args (jZ.heap σ)=some (r,H')->zD P f args σ (fun o Cs=>o= .ret r/\Cs=H')) (d: ∀f args r,cd f args=some r->IR P f args (fun v=>v=r))
 (y: ∀l args σ r H',cy l args (jZ.heap σ)=some (r,H')->IQ P l args σ (fun o Cs=>o= .ret r/\Cs=H'):=by exact vg) (e: ∀f args σ e,ce f args (jZ.heap σ)=some e->Jw P f args σ e:=by exact vi)
 (p: ∀f args σ o H',cp f args (jZ.heap σ)=some (o,H')->zD P f args σ (fun o' Cs=>o'=o/\Cs=H'):=by exact wM)
 (c: ∀f args σ,(∀e,co f args (jZ.heap σ)=some (.ret e)->Jw P f args σ e)/\ ∀x H',co f args σ.heap=some (.pan x H')->ad2 P f args σ.heap x H':=by exact wm):
 Good (oI P f n out cl cd (q9 nl) (Y3 cu) uR cp oz vf co vJ ce js cy):=⟨a,d,qS _,rq _,y,e,p,c⟩
section
variable {β2 α2:Type}
abbrev SG(P:Program)(g:FuncId)(as:AL γ)(os:OL β)(b:β)(a:γ)(sD:OL β1)(s:AL α)(r:β1×α):Prop:=
 FnG P g (as.enc (os.lens b) a) (os.enc (os.lens b) b) (fun o H'=>o= .ret (uE (s.enc (sD.lens r.1) r.2))/\H'=sD.enc (sD.lens r.1) r.1)
abbrev SP(P:Program)(g:FuncId)(as:AL γ)(os:OL β)(b:β)(a:γ)(pk:Bool)(sD:OL β1)(s1:AL α1)(zJ:OL β2)(s2:AL α2)(r:PR (β1×α1) (β2×α2)):Prop:=
 FnP P g (as.enc (os.lens b) a) (os.enc (os.lens b) b) (enP pk sD s1 zJ s2 r)
@[reducible] def ait(as:AL γ)(os:OL β)(b:β)(a:γ)(k:Nat):jZ:=ini (as.enc (os.lens b) a) k (os.enc (os.lens b) b)
def nbA{as:AL γ}{os:OL β}{b:β}{a:γ}(h:decide (as.need<=os.size)=true):vK (os.enc (os.lens b) b).length (as.enc (os.lens b) a):=
 rn (eN (jQ h) (Nat.le_of_eq (os.sz _ _).symm)) _ (as.nb _ _)
def nbO{os:OL β}{b:β}(h:decide (os.need<=os.size)=true): ∀x∈os.enc (os.lens b) b,qk (os.enc (os.lens b) b).length x:=
 fun x hx=>B6 (eN (jQ h) (Nat.le_of_eq (os.sz _ _).symm)) _ (os.nb _ _ x hx)
variable {fn:Func} {m:Nat} {cl:FuncId->List AV->List kq->Option (AV×List kq)} {cd:FuncId->List AV->Option AV} {rG:List Nat->jZ->Option jZ} {cut:List Nat->jZ->Option jZ} {uR:FuncId->Bool} {cp:FuncId->List AV->List kq->Option (sO×List kq)}
 {vf:FuncId->Bool} {co:FuncId->List AV->List kq->Option CO} {vJ:FuncId->Bool} {ce:FuncId->List AV->List kq->Option ux} {js:List Nat->List (Int×Code)} {cy:Nat->List AV->List kq->Option (AV×List kq)} {k:Nat} {g:FuncId} {rs:List ResultVar} {p1 p2:List Loc} {b1 b2:List Nat} {low:Nat}
 {R:Type} {t:Ty R} {args:List AV} {as:AL γ} {os:OL β} {b:β} {a:γ} {os0:OL β1} {s:AL α} {sD:OL β1} {yB:AL α1} {zJ:OL β2} {FQ:AL α2}
def okC{r:R}(h:run (oI P fn m (nH P rs t) cl cd rG cut uR cp (fun _ _=>none) vf co vJ ce js cy) [.at []] (ini args k)=some r)(G:Good (oI P fn m (nH P rs t) cl cd rG cut uR cp (fun _ _=>none) vf co vJ ce js cy))(hf:P.funcs[g]? =some fn)(hnb:vK 0 args)(hn:fn.ntmps=k)(Ia:fn.results=rs.toArray)(hb:fn.body=some (fn.body.getD .skip):=by exact rfl)(hne:(fn.name != "runtime.NumGoroutine")=true:=by exact rfl):IR P g args (fun v=>v=t.enc r):=
 adv G hf hb hne hnb hn Ia (fun σ hs=>Z9 hs) h
def okG{r:β1×α}(h:run (oI P fn m (CT P rs p1 b1 low os0 s) cl cd rG cut uR cp (fun _ _=>none) vf co vJ ce js cy) [.at []] (ait as os b a k)=some r)(G:Good (oI P fn m (CT P rs p1 b1 low os0 s) cl cd rG cut uR cp (fun _ _=>none) vf co vJ ce js cy))(hf:P.funcs[g]? =some fn)(hn:fn.ntmps=k)(Ia:fn.results=rs.toArray)(h1:decide (as.need<=os.size)=true:=by kernel_rfl)(h2:decide (os.need<=os.size)=true:=by kernel_rfl)(Vh:b1=dU low:=by exact rfl)(hb:fn.body=some (fn.body.getD .skip):=by exact rfl)(hne:(fn.name != "runtime.NumGoroutine")=true:=by exact rfl):SG P g as os b a os0 s r:=
 Ct G hf hb hne (nbA h1) (nbO h2) hn Ia (fun σ hs=>Ny Vh hs) h
def okP{r:PR (β1×α1) (β2×α2)}(h:run (oI P fn m (py P rs p1 b1 low sD yB) cl cd rG cut uR cp (pz p2 b2 low zJ FQ) vf co vJ ce js cy) [.at []] (ait as os b a k)=some r)(G:Good (oI P fn m (py P rs p1 b1 low sD yB) cl cd rG cut uR cp (pz p2 b2 low zJ FQ) vf co vJ ce js cy))(hf:P.funcs[g]? =some fn)(hn:fn.ntmps=k)(Ia:fn.results=rs.toArray)(h1:decide (as.need<=os.size)=true:=by kernel_rfl)(h2:decide (os.need<=os.size)=true:=by kernel_rfl)(hone: ∀b a,∃y,FQ.enc (zJ.lens b) a=[y]:=by exact fun b a=>⟨_,rfl⟩)(Vh:b1=dU low:=by exact rfl)(hb2:b2=dU low:=by exact rfl)(hb:fn.body=some (fn.body.getD .skip):=by exact rfl)(hne:(fn.name != "runtime.NumGoroutine")=true:=by exact rfl):SP P g as os b a true sD yB zJ FQ r:=
 awx G hf hb hne (nbA h1) (nbO h2) hn Ia Vh hb2 hone rfl rfl h
def okS{r:PR (β1×α1) (β2×α2)}(h:run (oI P fn m (aam P rs p1 b1 low sD yB p2 zJ FQ) cl cd rG cut uR cp (fun _ _=>none) vf co vJ ce js cy) [.at []] (ait as os b a k)=some r)(G:Good (oI P fn m (aam P rs p1 b1 low sD yB p2 zJ FQ) cl cd rG cut uR cp (fun _ _=>none) vf co vJ ce js cy))(hf:P.funcs[g]? =some fn)(hn:fn.ntmps=k)(Ia:fn.results=rs.toArray)(h1:decide (as.need<=os.size)=true:=by kernel_rfl)(h2:decide (os.need<=os.size)=true:=by kernel_rfl)(Vh:b1=dU low:=by exact rfl)(hb:fn.body=some (fn.body.getD .skip):=by exact rfl)(hne:(fn.name != "runtime.NumGoroutine")=true:=by exact rfl):SP P g as os b a false sD yB zJ FQ r:=
 awy G hf hb hne (nbA h1) (nbO h2) hn Ia Vh rfl h
end
attribute [go_sem] aBn ait ini mY mQ wu mN mL wv
section
variable {δ':Type}
def aBo(rT:Bool)(row:Row α)(s:AL δ)(rs:AL δ')(F:(List α×Unit)->δ->Option ((List α×Unit)×δ')):List AV->List kq->Option CO:=fun args H=>match args with
 | .acc l n::cs=>match H[l]? with
   |some x=>(daT rT row x).bind fun rows=>mA (n=rows.length) (mA (x= .acc rT row.sz (mp row.enc rows)) ((s.dec [] ((CH (ogA rT row) Fv).lens (rows,())) H cs).bind fun a=>mA (cs=s.enc ((CH (ogA rT row) Fv).lens (rows,())) a) ((F (rows,()) a).bind fun r=>
     mA (r.1=(rows,())) (some (.ret {val:=uE (rs.enc ((CH (ogA rT row) Fv).lens (rows,())) r.2),rd:=[l]})))))
   |none=>none
 |_=>none
def awD{rT:Bool}{row:Row α}{s:AL δ}{rs:AL δ'}{F:(List α×Unit)->δ->Option ((List α×Unit)×δ')}:aBo rT row s rs F (.acc l n::cs) H=match H[l]? with
 |some x=>(daT rT row x).bind fun rows=>mA (n=rows.length) (mA (x= .acc rT row.sz (mp row.enc rows)) ((s.dec [] ((CH (ogA rT row) Fv).lens (rows,())) H cs).bind fun a=>mA (cs=s.enc ((CH (ogA rT row) Fv).lens (rows,())) a) ((F (rows,()) a).bind fun r=>
   mA (r.1=(rows,())) (some (.ret {val:=uE (rs.enc ((CH (ogA rT row) Fv).lens (rows,())) r.2),rd:=[l]})))))
 |none=>none:=rfl
def awE{rT:Bool}{row:Row α}{s:AL δ}{rs:AL δ'}{F:(List α×Unit)->δ->Option ((List α×Unit)×δ')}{t:Nat}:aBo rT row s rs F (.mb b t rows::cs) H=none:=rfl
end
def ak4{k:List Kt}{rest:List Oper}{c:Prop}{x:Option (AV×List kq)}:LQ M ops dst rest k σ (mA c x)=mA c (LQ M ops dst rest k σ x):=by
 grind [mA,aeg]
attribute [go_sem] ak4 awD awE
def aqK(P:Program)(u:FrameMode)(f:FuncId):Value->World->Array Value->(Ending->World->Prop)->Prop:=fun _ w vs R=>
 CallsDIn Fence.wide 0 P f vs u w fun e u' w'=> ∃r,e= .returned r/\u'=u/\R (.returned r) w'
def aha:Va (aqK P u f):=⟨fun _ _ _ _ _ hr h=>u5 h fun _ _ _ ⟨r,h1,h2,h3⟩=>⟨r,h1,h2,hr _ _ h3⟩⟩
def awF{fn:Func}{c:Code}(hf:P.funcs[f]? =some fn)(hb:fn.body=some c)
 (hnb:vK H.length args) (Ft: ∀x∈H,qk H.length x) (hn:fn.ntmps=n) (Ia:fn.results=rs.toArray)
 (h:awp P c (akS P rs V) {slots:=args++dO (n-args.length) .any,heap:=H,low:=H.length}):FnT P (aqK P u f) args H V:=by
 refine⟨hnb,Ft,fun C φ w hP h0 hN0 hφ0 hM HS vs hr=> ?_⟩;subst hP;have hsz:vs.size=args.length:=by have:=hr.length;simpa using this
 have S:mo C φ {slots:=args++dO (n-args.length) .any,heap:=H,low:=H.length} {tmps:=vs++ed (fn.ntmps-vs.size) undef,defers:=[]} w:=by
  refine {HS with slots:= ?_,defers:=qT.nil};simp only[ew,eH];refine hr.append ?_;rw[hsz,hn];have:=kC.B4 (E:=C.env φ H w) (dO (n-args.length) undef);simpa using this
 have Ez: ∀{φ':Nat->Value}{σ':jZ}{a'':Act}{w'':World},mo C φ' σ' a'' w''->σ'.low=H.length:=fun S'=>by rw[<-S'.low.1];exact hN0
 refine Nz hf hb trivial ?_;intro c₀ cs hu;refine wpSIn_of_wpIn rfl (wpIn_mono (vN (ro:=none) c _ φ _ _ w (.inl rfl) h S) ?_);intro e a' w' hq
 have fin: ∀φ' σ',mo C φ' σ' a' w'->σ'.df=[]/\abk C.P rs V none σ'->LU C fn c₀ cs (fun e u2 w'=> ∃r,e= .returned r/\u2=u/\ ∃o φ' H',V o H'/\mo C φ' {slots:=[],heap:=H',low:=H.length} {tmps:= #[],defers:=[]} w'/\o.No (C.env φ' H' w') (.returned r)) .normal a' (c₀::cs) w':=by
  rintro φ' σ' S' ⟨Ug,xr,hx,r,H',hex,hV'⟩;refine⟨u,by rw[<-hu],φ',σ',S',Ug,fun w'' S''=> ?_⟩;obtain⟨vv,hv,rv⟩:=Jy (fn:=fn) S'' (by rw[Ia];exact hx);obtain⟨φ3,S3,hr3⟩:=hex C φ' _ w'' S'' vv rv;rw[Ez S''] at S3;exact⟨vv,hv,vv,rfl,rfl,.ret r,φ3,H',hV',S3,hr3⟩
 cases e with
 |normal=>obtain⟨φ',σ',S',hq⟩:=hq;exact fin φ' σ' S' hq
 |ret=>obtain⟨φ',σ',S',hq⟩:=hq;exact fin φ' σ' S' hq
 |exit id=>obtain⟨_,_,_,hq⟩:=hq;exact hq.elim
 |goto l=>obtain⟨_,_,_,hq⟩:=hq;exact hq.elim
 |panic chain=>obtain⟨_,_,_,_,_,hq,_⟩:=hq;exact hq.elim
 |outgrown=>exact hq.elim
section

def ak5{M:kU (β1×α1)}{fn:Func}{r:β1×α1}{sD:OL β1}{yB:AL α1}(G:Good M)
 (hf:M.P.funcs[f]? =some fn) (hb:fn.body=some M.body) (hnb:vK H.length args) (Ft: ∀x∈H,qk H.length x) (hn:fn.ntmps=n) (Ia:fn.results=rs.toArray) (Vh:b1=dU low) (ho:M.out=CT M.P rs p1 b1 low sD yB)
 (h:run M [.at []] {slots:=args++dO (n-args.length) .any,heap:=H,low:=H.length}=some r) (hP: ∀x σ',M.oz x σ'=none:=by intros;rfl):
 FnT M.P (aqK M.P u f) args H (fun o H'=>o=(enR sD yB r).1/\H'=(enR sD yB r).2):=by
 refine awF hf hb hnb Ft hn Ia (Ra G h (fun σ hs=> ?_) (fun x σ hs=>by rw[hP x σ] at hs;cases hs));rw[ho] at hs;obtain⟨hd,xs,hx,Ei⟩:=Ny Vh hs;have:=JE (P:=M.P) hx Ei;exact⟨⟨hd,this⟩,hd,this⟩
end
def spl{γ:Type}:List AV->(List AV->AV->Option γ)->Option γ
 |[],_=>none
 |[x],k=>k [] x
 |a::b::l,k=>spl (b::l) fun l x=>k (a::l) x
def awG{k:List AV->AV->Option γ}:spl [x] k=k [] x:=rfl
def atf{a b:AV}{l:List AV}{k:List AV->AV->Option γ}:spl (a::b::l) k=spl (b::l) fun l x=>k (a::l) x:=rfl
def ak6{γ:Type}: ∀{l:List AV}{k:List AV->AV->Option γ}{r:γ},spl l k=some r-> ∃as x,l=as++[x]/\k as x=some r
 |[x],k,r,h=>⟨[],x,rfl,h⟩
 |a::b::l,k,r,h=>by
  obtain⟨as,x,h1,h2⟩:=ak6 (l:=b::l) h
  grind
def awH(c:MX):MX:=fun f args H=>spl args fun as x=>(c f as H).bind fun q=>some (.panic x,q.2)
def atg(P:Program)(c:MX):Prop:= ∀u,QOK P (aqK P u) c
def ath{c:MX}(h:atg P c):QOK P (afO P) c:=by
 intro f args σ o H' he;obtain⟨h1,h2⟩:=h .returning f args σ o H' he;refine⟨h1,fun C φ a w hP S vs hr=> ?_⟩;refine u5 (h2 C φ a w hP S vs hr) ?_;rintro e u' w' ⟨r,rfl,rfl,h3⟩;exact⟨r,rfl,rfl,h3⟩
def ati{c:MX}(h:atg P c):QOK P (afP P) (awH c):=by
 intro f args σ o H' he;obtain⟨as,x,rfl,hk⟩:=ak6 he;simp only[dM,dN,dQ] at hk;obtain⟨q,hq,rfl,rfl⟩:=hk;refine⟨(h .returning f as σ q.1 q.2 hq).1,fun C φ a w hP S vs hr vs0 v hvs=> ?_⟩;subst hvs
 have hr':kC (C.env φ σ.heap w) as vs0.toList/\n8 (C.env φ σ.heap w) x v:=by
  rw[Array.toList_push] at hr
  have hl:vs0.toList.length=as.length:=by
   have:=hr.length;simp at this;simpa using this
  have h1:=hr.take as.length;have h2:=hr.drop as.length;rw[dX rfl,dX hl] at h1;rw[dY rfl,dY hl] at h2;obtain⟨u,us,he,r1,_⟩:=h2
  grind
 have hc:=(h (.panicking [{v,recovered:=false}]) f as {σ with slots:=σ.slots++[x]} q.1 q.2 hq).2;cases a with
 |mk tmps ds=>
 refine u5 (hc C φ _ w hP (S.ah4 hr'.2) vs0 hr'.1) ?_;rintro e u' w' ⟨r,rfl,rfl,o,φ',H',⟨rfl,rfl⟩,S2,rF⟩;have S3:mo C φ' {({σ with heap:=q.2}:jZ) with slots:=({σ with heap:=q.2}:jZ).slots++[x]} {tmps:=tmps.push v,defers:=ds} w':=S2;obtain⟨S4,h4⟩:=S3.amL S.len;exact⟨r,rfl,.inr ⟨v,rfl,.panic x,φ',q.2,⟨rfl,rfl⟩,S4,v,rfl,h4⟩⟩
section ends
variable {α2 β2:Type}
def enX(f:jZ->Option R)(g:AV->jZ->Option R):Option AV->jZ->Option R
 |none,σ=>f σ
 |some x,σ=>g x σ
def aBp{f:jZ->Option R}{g:AV->jZ->Option R}:enX f g none σ=f σ/\ ∀x,enX f g (some x) σ=g x σ:=⟨rfl,fun _=>rfl⟩
def aeD(c:MX)(f:jZ->Option R)(g:AV->jZ->Option R)(σ:jZ):Option R:=Uh c (awH c) (enX f g) σ.df none σ
def aeE(c:MX)(f:jZ->Option R)(g:AV->jZ->Option R)(x:AV)(σ:jZ):Option R:=Uh c (awH c) (enX f g) σ.df (some x) σ
def azp{c:MX}:awH c f args H=spl args fun as x=>(c f as H).bind fun q=>some (.panic x,q.2):=rfl
attribute [go_sem] aBp aeD aeE azp awG atf
variable {fn:Func} {m:Nat} {cl:FuncId->List AV->List kq->Option (AV×List kq)} {cd:FuncId->List AV->Option AV} {rG:List Nat->jZ->Option jZ} {cut:List Nat->jZ->Option jZ} {uR:FuncId->Bool} {cp:FuncId->List AV->List kq->Option (sO×List kq)}
 {vf:FuncId->Bool} {co:FuncId->List AV->List kq->Option CO} {vJ:FuncId->Bool} {ce:FuncId->List AV->List kq->Option ux} {js:List Nat->List (Int×Code)} {cy:Nat->List AV->List kq->Option (AV×List kq)} {k:Nat} {g:FuncId} {rs:List ResultVar} {p1 p2:List Loc} {b1 b2:List Nat} {low:Nat}
 {as:AL γ} {os:OL β} {b:β} {a:γ} {os0:OL β1} {s:AL α} {sD:OL β1} {yB:AL α1} {zJ:OL β2} {FQ:AL α2} {c:MX}
def aC5{r:PR (β1×α1) (β2×α2)}(hc:atg P c)(h:run (oI P fn m (aeD c (py P rs p1 b1 low sD yB) (pz p2 b2 low zJ FQ)) cl cd rG cut uR cp (aeE c (py P rs p1 b1 low sD yB) (pz p2 b2 low zJ FQ)) vf co vJ ce js cy) [.at []] (ait as os b a k)=some r)
 (G:Good (oI P fn m (aeD c (py P rs p1 b1 low sD yB) (pz p2 b2 low zJ FQ)) cl cd rG cut uR cp (aeE c (py P rs p1 b1 low sD yB) (pz p2 b2 low zJ FQ)) vf co vJ ce js cy)) (hf:P.funcs[g]? =some fn) (hn:fn.ntmps=k) (Ia:fn.results=rs.toArray)
 (h1:decide (as.need<=os.size)=true:=by kernel_rfl) (h2:decide (os.need<=os.size)=true:=by kernel_rfl) (hone: ∀b a,∃y,FQ.enc (zJ.lens b) a=[y]:=by exact fun b a=>⟨_,rfl⟩) (Vh:b1=dU low:=by exact rfl) (hb2:b2=dU low:=by exact rfl) (hb:fn.body=some (fn.body.getD .skip):=by exact rfl) (hne:(fn.name != "runtime.NumGoroutine")=true:=by exact rfl):SP P g as os b a true sD yB zJ FQ r:=by
 have he: ∀m' σ,σ.df=[]->enX (py P rs p1 b1 low sD yB) (pz (β1:=β1) (α1:=α1) p2 b2 low zJ FQ) m' σ=some r->abk P rs (fun o H'=>o=(enP true sD yB zJ FQ r).1/\H'=(enP true sD yB zJ FQ r).2) m' σ:=by
  intro m' σ _ hs;cases m' with
  |none=>
   simp only[enX,py,dV] at hs;obtain⟨q,hq,rfl⟩:=hs;obtain⟨hd,xs,hx,Ei⟩:=Ny Vh hq;exact JE hx Ei
  |some x=>
   simp only[enX,pz,dV] at hs;obtain⟨q,hq,rfl⟩:=hs;obtain⟨hd,Ei⟩:=aai hb2 hq;obtain⟨y,hy⟩:=hone q.1 q.2;rw[hy] at Ei;have:=aks (P:=P) (rs:=rs) Ei.e
   grind [enP,CJ,ag8,pkO]
 exact aac G hf hb hne (nbA h1) (nbO h2) hn Ia (fun σ hs=>Rl (ath hc) (ati hc) he σ.df none σ rfl hs) (fun x σ hs=>Rl (ath hc) (ati hc) he σ.df (some x) σ rfl hs) h
abbrev SD(P:Program)(g:FuncId)(as:AL γ)(os:OL β)(b:β)(a:γ)(sD:OL β1)(s:AL α1)(r:β1×α1):Prop:=
 ∀u,FnT P (aqK P u g) (as.enc (os.lens b) a) (os.enc (os.lens b) b) (fun o H'=>o=(enR sD s r).1/\H'=(enR sD s r).2)
def okD{r:β1×α}(h:run (oI P fn m (CT P rs p1 b1 low os0 s) cl cd rG cut uR cp (fun _ _=>none) vf co vJ ce js cy) [.at []] (ait as os b a k)=some r)(G:Good (oI P fn m (CT P rs p1 b1 low os0 s) cl cd rG cut uR cp (fun _ _=>none) vf co vJ ce js cy))(hf:P.funcs[g]? =some fn)(hn:fn.ntmps=k)(Ia:fn.results=rs.toArray)(h1:decide (as.need<=os.size)=true:=by kernel_rfl)(h2:decide (os.need<=os.size)=true:=by kernel_rfl)(Vh:b1=dU low:=by exact rfl)(hb:fn.body=some (fn.body.getD .skip):=by exact rfl):SD P g as os b a os0 s r:=
 fun u=>ak5 G hf hb (nbA h1) (nbO h2) hn Ia Vh rfl h
def ak7{e:acV}(h: ∀u,∀args (σ:jZ) o H',e args σ.heap=some (o,H')->enters P g=true/\Nt P (aqK P u g) 0 args σ (fun o' Cs=>o'=o/\Cs=H')):atg P (LV [(g,e)]):=fun u=>GN (h u) JF
end ends
def dNI:AV->Option Unit
 | .raw .nilIface=>some ()
 |_=>none
def atj:Ty Unit where
 enc _:= .raw .nilIface
 dec _:=dNI
 ok H n v x h:=by
  unfold dNI at h;split at h
  ·exact Co.same trivial
  ·cases h
 nb n x:=trivial
def azq:(∀x,atj.enc x= .raw .nilIface)/\(∀H v,atj.dec H v=dNI v)/\dNI (.raw .nilIface)=some ():=⟨fun _=>rfl,fun _ _=>rfl,rfl⟩
attribute [go_sem] azq
def atl{T:TypeId}(he:enters P f=true)
 (h: ∀(s:ByteArray)(n:Int)(w:World),s.size<=18->Lib.atoi s.data.toList=some n->Calls P f #[.string s] w fun e w'=>e= .returned (.tuple #[.int .i64 n,.nilIface])/\ ∃t,w'=Lib.bytesWorld w T t)
 (s:Str) (n:Int) (hl:s.length<=18) (hn:Lib.atoi s=some n):IR P f [mI.enc s] (fun v=>v=(ty2 (nq .i64) atj).enc (n,())):=by
 refine⟨he,⟨mI.nb 0 _,trivial⟩,fun C φ w hP hw hN0 hM vs hr=> ?_⟩
 obtain rfl:vs= #[.string (sb s)]:=by
  obtain⟨v0,us,hvs,r0,amH⟩:=hr;have hus:us=[]:=amH;have e0:v0= .string (sb s):=r0;subst hus e0;cases vs;simp_all
 refine(h (sb s) n w (by rw[Nw];exact hl) (by rw[Rj];exact hn)).mono ?_;rintro e w' ⟨rfl,t,rfl⟩;have hb:=Lib.bytesWorld_below w T t;exact⟨_,_,φ,rfl,rfl,⟨_,rfl,_,_,rfl,rfl,_,_,rfl,rfl,rfl⟩,hb.size,hb.block,fun x hx=>hb.frozen hx,hb.output,hb.os⟩
end Go.Abs
end
