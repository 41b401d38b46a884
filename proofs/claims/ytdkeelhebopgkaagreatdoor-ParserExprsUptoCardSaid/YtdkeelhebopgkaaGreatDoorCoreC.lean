/- A part of the proof: abstract states and the rules for them. -/
import Derived.Test.YtdkeelhebopgkaaGreatDoorCoreB
import Derived.Attr
import Derived.Laws.StructEq
import Derived.ChangeKeysEq
import Derived.Below
import Derived.Laws.AppendOwn
import Derived.Lib.Join
import Derived.Lib.SplitLaws
import Derived.Lib.IndexAny
import Derived.Lib.IndexMore
import Derived.Deep.Draws
import Derived.RecoverIn
import Derived.Lib.Atoi
import Derived.Lib.AtoiErrMem
set_option linter.all false
open Go renaming Oper→aMJ,Code→aMK,FuncId→aML,Value→aMM,Program→aMN,World→aMO,IntKind→aMP,TypeId→aMQ,LoopState→aMR
open Option renaming bind_eq_some_iff→dM,map_eq_some_iff→dV,or_eq_some_iff→eI,map→eN
open Option.some renaming injEq→dN
open List renaming replicate→dO,getElem?_eq_getElem→dR,range→dU,take_left'→dX,drop_left'→dY,length_cons→ec,map_congr_left→ed,isEmpty_nil→ek,getElem?_of_mem→eo,mem_of_getElem?→ew,eq_nil_of_length_eq_zero→ey,mem_cons→ez,getElem?_eq_some_iff→eA,getElem?_cons_zero→eB,getElem?_cons_succ→eD,nil_append→eE,take_zero→eG,take_append_drop→eH,mem_map→eJ,map_map→eK,range'→eM
open Prod.mk renaming injEq→dQ
open Nat renaming le_refl→dW,zero_le→eg,le_trans→eL
open Bool renaming and_eq_true→dZ
open Array renaming replicate→eb,toList_append→ep,toList_replicate→eF
open List.cons renaming injEq→eu
noncomputable section
namespace Go.Abs
variable {W W1:Type}{v x z:AV}{ky:Array aMJ}{b:Bool}{y:aMK}{E:D4}{u:FrameMode}{f:aML}{ds:List (aML×List AV)}{js:List (Int×aMK)}{BD rows:List (List AV)}{args cs s ys:List AV}{b1 base p Y:List Nat}{rs:List ResultVar}{tr:List Tr}{H H' Ys Ys':List kp}{a c d g i j k l l0 low n:Nat}{τ:Nat->Nat}{U:Nat->aMM}{O O' O1:Type}{o:aMJ}{dst:Option Tmp}{P:aMN}{R W' γ δ:Type}{h:aMM}{T:aMM->aMO->Array aMM->(Ending->aMO->Prop)->Prop}{w:aMO}{J J':jX}{M:kR R}{C:tg}{V:uP->List kp->Prop}{lk lk':yo}{F:O->W->Option (O'×W')}
section lists

def so(f:O->Option W):List O->Option (List W)
 |[]=>some []
 |x::xs=>(f x).bind fun y=>(so f xs).bind fun ys=>some (y::ys)
def aBc(f:O->Option W):so f []=some []:=rfl
def aza(f:O->Option W)(x:O)(xs:List O):so f (x::xs)=(f x).bind fun y=>(so f xs).bind fun ys=>some (y::ys):=rfl
def ajX(f:O->Option W):∀a b:List O,so f (a++b)=(so f a).bind fun x=>(so f b).bind fun y=>some (x++y)
 |[],b=>by simp_all [so]
 |x::a,b=>by
  simp only[List.cons_append,so,ajX f a b];cases f x<;>simp;cases so f a<;>simp;cases so f b<;>simp
def ams{f:O->Option W}{g:W->O}(h:∀x,f (g x)=some x):∀xs:List W,so f (xs.map g)=some xs
 |[]=>rfl
 |x::xs=>by simp [so,h x,ams h xs]
def mp(f:W->O)(xs:List W):List O:=xs.map f
theorem tQ(f:W->O)(xs:List W):mp f xs=xs.map f:=rfl
attribute [irreducible] mp
theorem Qo(f:W->O)(xs:List W):(mp f xs).length=xs.length:=by rw[tQ,List.length_map]
def aDJ(f:W->O)(xs:List W)(n:Nat):(mp f xs).take n=mp f (xs.take n):=by rw[tQ,tQ,List.map_take]
def aDK(f:W->O)(xs:List W)(n:Nat):(mp f xs).drop n=mp f (xs.drop n):=by rw[tQ,tQ,List.map_drop]
def awg(f:W->O)(xs:List W):(mp f xs).isEmpty=xs.isEmpty:=by rw[tQ];cases xs<;>rfl
def Iw{f:O->Option W}{g:W->O}(h:∀x,f (g x)=some x)(xs:List W):so f (mp g xs)=some xs:=by rw[tQ];exact ams h xs
def azb{f:W->O}{g:O->Option γ}{o:Option W}:(eN f o).bind g=o.bind fun x=>g (f x):=by cases o<;>rfl
def awh{f:W->Option O}{g:O->Option γ}{o:Option W}:(o.bind f).bind g=o.bind fun x=>(f x).bind g:=by cases o<;>rfl
def azc{f:W->Option O}{x y:Option W}:(bif b then x else y).bind f=bif b then x.bind f else y.bind f:=by cases b<;>rfl
def awi{f:W->Option O}:(none:Option W).bind f=none:=rfl
def vJ{f:W->Option O}{x:W}:(some x).bind f=f x:=rfl
def sQ(xs:List W)(n:Int):Option W:=if 0<=n then xs[n.toNat]? else none
def aDL{f:W->O}{xs:List W}{n:Int}:sQ (mp f xs) n=eN f (sQ xs n):=by
 rw[tQ];unfold sQ;split<;>simp
def azd{x:W}{xs:List W}:sQ (x::xs) 0=some x:=rfl
def aBd{x y:W}{xs:List W}:sQ (x::y::xs) 1=some y:=rfl
def aBe{x y z:W}{xs:List W}:sQ (x::y::z::xs) 2=some z:=rfl
end lists
def Ew:List AV->List AV->Prop
 |[],ys=>ys=[]
 |x::xs,ys=>∃y zs,ys=y::zs/\Ma x y/\Ew xs zs
theorem Ew.nil:Ew [] []:=rfl
theorem Ew.cons {y:AV}{xs:List AV}(h:Ma x y)(hs:Ew xs ys):Ew (x::xs) (y::ys):=⟨y,ys,rfl,h,hs⟩
def Ew.aGG:∀{xs ys:List AV},Ew xs ys->qX xs ys
 |[],_,rfl=>qX.nil
 |_::_,_,⟨_,_,rfl,h,hs⟩=>qX.cons h (Ew.aGG hs)
def Ew.aDM:∀{xs ys:List AV},Ew xs ys->aiS xs ys
 |[],_,rfl=>aiS.nil
 |_::_,_,⟨_,_,rfl,h,hs⟩=>aiS.cons h (Ew.aDM hs)
theorem Ew.length:∀{xs ys:List AV},Ew xs ys->xs.length=ys.length
 |[],_,rfl=>rfl
 |_::_,_,⟨_,_,rfl,_,hs⟩=>by simp [Ew.length hs]
theorem o9.nil:o9 H n [] []:=rfl
theorem o9.cons {y:AV}{xs:List AV}(h:Co1 H n x y)(hs:o9 H n xs ys):o9 H n (x::xs) (y::ys):=⟨y,ys,rfl,h,hs⟩
theorem o9.append:∀{xs ys us vs:List AV},o9 H n xs ys->o9 H n us vs->o9 H n (xs++us) (ys++vs)
 |[],_,_,_,rfl,h=>h
 |_::_,_,_,_,⟨y,zs,rfl,h,hs⟩,h2=>⟨y,zs++_,rfl,h,o9.append hs h2⟩
def Co1.qc {y:AV}(h:Co1 [] n x y):Ma x y:=by
 rcases h with h|⟨l,m,sz,rows,_,hl,_⟩
 ·exact h.1
 ·simp at hl
def o9.qc:∀{xs ys:List AV},o9 [] n xs ys->Ew xs ys
 |[],_,rfl=>rfl
 |_::_,_,⟨y,zs,rfl,h,hs⟩=>⟨y,zs,rfl,h.qc,o9.qc hs⟩
def Co.qc {y:AV}(h:Co [] n x y):Ma x y:=by
 rcases h with h|⟨cs,ds,rfl,rfl,h⟩
 ·exact h.qc
 ·exact Ma.agg h.qc.aGG
def o9.aBf:∀{xs ys:List AV},o9 H n xs ys->Bf H n xs ys
 |[],_,rfl=>rfl
 |_::_,_,⟨y,zs,rfl,h,hs⟩=>⟨y,zs,rfl,.inl h,o9.aBf hs⟩
structure Row(W:Type) where
 enc:W->List AV
 mL:List AV->Option W
 sz:Nat
 ok:∀r x,mL r=some x->Ew r (enc x)
 nb:∀n x,xB n (enc x)
variable {r:Row W}
structure Ty(W:Type) where
 enc:W->AV
 mL:List kp->AV->Option W
 ok:∀H n v x,mL H v=some x->Co H n v (enc x)
 nb:∀n x,(enc x).nb n
section rows

def IQ(sz k:Nat)(rows:List (List AV)):Bool:=sz==k||rows.isEmpty
def dL(r:Row W)(H:List kp):AV->Option (List W)
 |.lS _ sz rows=>bif IQ sz r.sz rows then so r.mL rows else none
 | .mE l n=>match H[l]? with
   |some (.mE true sz rows)=>bif (rows.length==n)&&IQ sz r.sz rows then so r.mL rows else none
   |_=>none
 |_=>none
def Nc{r:Row W}:∀{rows:List (List AV)}{xs:List W},so r.mL rows=some xs->XR rows (mp r.enc xs)/\Iu rows (mp r.enc xs)
 |[],xs,h=>by
  simp only[so,dN]at h;subst h;rw[tQ];exact⟨XR.nil,rfl⟩
 |c::rows,xs,h=>by
  simp only[so,dM,dN]at h;obtain⟨y,hy,ys,hys,rfl⟩:=h;obtain⟨h1,h2⟩:=Nc hys;have h3:=r.ok _ _ hy;rw[tQ]at h1 h2 ⊢;exact⟨XR.cons h3.aDM h1,_,_,rfl,⟨h3.length,h3.aGG⟩,h2⟩
theorem zz{r:Row W}{n:Nat}:∀xs:List W,Qv n (mp r.enc xs)
 |[]=>by rw[tQ];trivial
 |x::xs=>by have:=zz (r:=r) (n:=n) xs;rw[tQ]at this ⊢;exact⟨r.nb n x,this⟩
def XZ{t:Bool}{sz:Nat}(h:IQ sz k rows=true)(hs:XR rows BD):Ma (.lS t sz rows) (.lS false k BD):=by
 unfold IQ at h;simp only[Bool.or_eq_true,beq_iff_eq,List.isEmpty_iff]at h;rcases h with rfl|rfl
 ·exact Ma.lS hs
 ·have:BD=[]:=ey hs.1.symm;subst this;exact Ma.empty _ _ _
theorem Me{r:Row W}{xs:List W}(h:dL r H v=some xs):Co1 H n v (.lS false r.sz (mp r.enc xs)):=by
 unfold dL at h;split at h
 ·rename_i t sz rows;cases hs:IQ sz r.sz rows with
  |false=>simp [hs]at h
  |true=>
   simp only[hs,jK]at h;exact .inl ⟨XZ hs (Nc h).1,zz xs⟩
 ·rename_i l m;split at h
  ·rename_i sz rows hl;cases hs:IQ sz r.sz rows with
   |false=>simp [hs]at h
   |true=>
    cases hm:(rows.length==m)with
    |false=>simp [hm]at h
    |true=>
     simp only[hs,hm,Bool.and_self,jK]at h;exact .inr ⟨l,m,sz,rows,rfl,hl,by simpa using hm,XZ hs (Nc h).1,zz xs⟩
  ·cases h
 ·cases h
def mZ(r:Row W):Ty (List W) where
 enc xs:=.lS false r.sz (mp r.enc xs)
 mL:=dL r
 ok _ _ _ _ h:=.inl (Me h)
 nb _ xs:=zz xs
def aDN{r:Row W}{xs:List W}:(mZ r).enc xs=.lS false r.sz (mp r.enc xs):=rfl
def aDO{r:Row W}:(mZ r).mL H v=dL r H v:=rfl
end rows
def sb(s:List UInt8):ByteArray:=⟨s.toArray⟩
abbrev Str:=List UInt8
variable {xs:List (Str×Bool)}
def dI(k:aMP):AV->Option Int
 |.int k' n=>if k'=k then some n else none
 |_=>none
def dB:AV->Option Bool
 |.bool b=>some b
 |_=>none
def dS:AV->Option Str
 |.str b=>some b.data.toList
 |_=>none
theorem BF{k:aMP}{x:Int}(h:dI k v=some x):Co1 H n v (.int k x):=by
 unfold dI at h;split at h
 ·split at h
  ·cases h;rename_i e;subst e;exact Co1.sub (Ma.refl _) trivial
  ·cases h
 ·cases h
theorem as9{x:Bool}(h:dB v=some x):Co1 H n v (.bool x):=by
 unfold dB at h;split at h
 ·cases h;exact Co1.sub (Ma.refl _) trivial
 ·cases h
theorem aqA(b:ByteArray):sb b.data.toList=b:=by
 cases b;rfl
theorem ahr{x:Str}(h:dS v=some x):Co1 H n v (.str (sb x)):=by
 unfold dS at h;split at h
 ·cases h;rw[aqA];exact Co1.sub (Ma.refl _) trivial
 ·cases h
def V5(s:Str):dS (.str (sb s))=some s:=rfl
def Nd(k:aMP)(n:Int):dI k (.int k n)=some n:=by simp [dI]
def Gw(b:Bool):dB (.bool b)=some b:=rfl
def aBg:dS (.str ByteArray.empty)=some []:=rfl
def aze:dS (.str ⟨#[]⟩)=some []:=rfl
def lR(k:aMP):Ty Int:=⟨.int k,fun _=>dI k,fun _ _ _ _ h=>.inl (BF h),fun _ _=>trivial⟩
def nk:Ty Bool:=⟨.bool,fun _=>dB,fun _ _ _ _ h=>.inl (as9 h),fun _ _=>trivial⟩
def mb:Ty Str:=⟨fun s=>.str (sb s),fun _=>dS,fun _ _ _ _ h=>.inl (ahr h),fun _ _=>trivial⟩
def aDP{k:aMP}{x:Int}:(lR k).enc x=.int k x:=rfl
def aDQ{k:aMP}:(lR k).mL H v=dI k v:=rfl
def aDR{x:Bool}:nk.enc x=.bool x:=rfl
def aDS:nk.mL H v=dB v:=rfl
def aDT{x:Str}:mb.enc x=.str (sb x):=rfl
def aDU:mb.mL H v=dS v:=rfl
def dF(f:aML):AV->Option Unit
 |.func (.func g) [] []=>if g=f then some ()else none
 |_=>none
def aGH(f:aML):dF f (.func (.func f) [] [])=some ():=by simp [dF]
def tyF(f:aML):Ty Unit where
 enc _:=.func (.func f) [] []
 mL _:=dF f
 ok H n v x h:=by
  unfold dF at h;split at h
  ·split at h
   ·rename_i e;subst e;exact Co.P8 ⟨trivial,trivial⟩
   ·cases h
  ·cases h
 nb _ _:=⟨trivial,trivial⟩
def aDV{x:Unit}:(tyF f).enc x=.func (.func f) [] []:=rfl
def aDW:(tyF f).mL H v=dF f v:=rfl
def abz(n:Int):List AV:=[.int .i64 n]
def nh(s:Str):List AV:=[.str (sb s)]
def ahs(b:Bool):List AV:=[.bool b]
def amt(n:Int):List AV:=[.int .u8 n]
def dI1(k:aMP):List AV->Option Int
 |[c]=>dI k c
 |_=>none
def dB1:List AV->Option Bool
 |[c]=>dB c
 |_=>none
def dS1:List AV->Option Str
 |[c]=>dS c
 |_=>none
def aGI:Row Int where
 enc:=abz
 mL:=dI1 .i64
 sz:=1
 ok r x h:=by
  unfold dI1 at h;split at h
  ·exact Ew.cons (BF (H:=[]) (n:=0) h).qc Ew.nil
  ·cases h
 nb _ _:=⟨trivial,trivial⟩
def aGJ:Row Int where
 enc:=amt
 mL:=dI1 .u8
 sz:=1
 ok r x h:=by
  unfold dI1 at h;split at h
  ·exact Ew.cons (BF (H:=[]) (n:=0) h).qc Ew.nil
  ·cases h
 nb _ _:=⟨trivial,trivial⟩
def aGK:Row Bool where
 enc:=ahs
 mL:=dB1
 sz:=1
 ok r x h:=by
  unfold dB1 at h;split at h
  ·exact Ew.cons (as9 (H:=[]) (n:=0) h).qc Ew.nil
  ·cases h
 nb _ _:=⟨trivial,trivial⟩
def mq:Row Str where
 enc:=nh
 mL:=dS1
 sz:=1
 ok r x h:=by
  unfold dS1 at h;split at h
  ·exact Ew.cons (ahr (H:=[]) (n:=0) h).qc Ew.nil
  ·cases h
 nb _ _:=⟨trivial,trivial⟩
def aGL:aGI.enc=abz/\aGI.mL=dI1 .i64/\aGI.sz=1:=⟨rfl,rfl,rfl⟩
def aGM:aGJ.enc=amt/\aGJ.mL=dI1 .u8/\aGJ.sz=1:=⟨rfl,rfl,rfl⟩
def aGN:aGK.enc=ahs/\aGK.mL=dB1/\aGK.sz=1:=⟨rfl,rfl,rfl⟩
def aga:mq.enc=nh/\mq.mL=dS1/\mq.sz=1:=⟨rfl,rfl,rfl⟩
def Ft:(∀xs:List Int,so (dI1 .i64) (mp abz xs)=some xs)/\(∀xs:List Int,so (dI1 .u8) (mp amt xs)=some xs)/\(∀xs:List Bool,so dB1 (mp ahs xs)=some xs)/\∀xs:List Str,so dS1 (mp nh xs)=some xs:=
 ⟨Iw fun x=>by simp [dI1,abz,dI],Iw fun x=>by simp [dI1,amt,dI],Iw fun x=>rfl,Iw fun x=>rfl⟩
structure ZJ(W:Type) where
 enc:W->List AV
 mL:List kp->List AV->Option W
 ok:∀H n cs x,mL H cs=some x->o9 H n cs (enc x)
 nb:∀n x,xB n (enc x)
section ku

def dC(c:ZJ W)(H:List kp):AV->Option W
 |.agg cs=>c.mL H cs
 |_=>none
def lJ(c:ZJ W):Ty W where
 enc x:=.agg (c.enc x)
 mL:=dC c
 ok H n v x h:=by
  unfold dC at h;split at h
  ·exact .inr ⟨_,_,rfl,rfl,c.ok H n _ _ h⟩
  ·cases h
 nb n x:=c.nb n x
def aDX{c:ZJ W}{x:W}:(lJ c).enc x=.agg (c.enc x):=rfl
def aDY{c:ZJ W}:(lJ c).mL H v=dC c H v:=rfl
end ku
def tyU:Ty Unit where
 enc _:=.Je []
 mL _
  |.Je []=>some ()
  |_=>none
 ok H n v x h:=by
  split at h
  ·exact Co.P8 trivial
  ·cases h
 nb _ _:=trivial
def aDZ{x:Unit}:tyU.enc x=.Je []:=rfl
def aD0:tyU.mL H (.Je [])=some ():=rfl
section aGO
variable {ε:Type}
def d2(a:Ty W)(b:Ty O):AV->Option (W×O)
 |.Je [x,y]=>(a.mL [] x).bind fun u=>(b.mL [] y).bind fun v=>some (u,v)
 |_=>none
def d3(a:Ty W)(b:Ty O)(c:Ty γ):AV->Option (W×O×γ)
 |.Je [x,y,z]=>(a.mL [] x).bind fun u=>(b.mL [] y).bind fun v=>(c.mL [] z).bind fun w=>some (u,v,w)
 |_=>none
def d4(a:Ty W)(b:Ty O)(c:Ty γ)(d:Ty δ):AV->Option (W×O×γ×δ)
 |.Je [x,y,z,p]=>(a.mL [] x).bind fun u=>(b.mL [] y).bind fun v=>(c.mL [] z).bind fun w=>(d.mL [] p).bind fun q=>some (u,v,w,q)
 |_=>none
def d5(a:Ty W)(b:Ty O)(c:Ty γ)(d:Ty δ)(e:Ty ε):AV->Option (W×O×γ×δ×ε)
 |.Je [x,y,z,p,s]=>(a.mL [] x).bind fun u=>(b.mL [] y).bind fun v=>(c.mL [] z).bind fun w=>(d.mL [] p).bind fun q=>(e.mL [] s).bind fun t=>some (u,v,w,q,t)
 |_=>none
def ty2(a:Ty W)(b:Ty O):Ty (W×O) where
 enc x:=.Je [a.enc x.1,b.enc x.2]
 mL _:=d2 a b
 ok H n v x h:=by
  unfold d2 at h;split at h
  ·simp only[dM,dN]at h;obtain⟨u,hu,w,hw,rfl⟩:=h;exact Co.sub (Ma.Je (qX.cons (a.ok [] 0 _ _ hu).qc (qX.cons (b.ok [] 0 _ _ hw).qc qX.nil))) ⟨a.nb n u,b.nb n w,trivial⟩
  ·cases h
 nb n x:=⟨a.nb n _,b.nb n _,trivial⟩
def ty3(a:Ty W)(b:Ty O)(c:Ty γ):Ty (W×O×γ) where
 enc x:=.Je [a.enc x.1,b.enc x.2.1,c.enc x.2.2]
 mL _:=d3 a b c
 ok H n v x h:=by
  unfold d3 at h;split at h
  ·simp only[dM,dN]at h;obtain⟨u,hu,w,hw,p,hp,rfl⟩:=h;exact Co.sub (Ma.Je (qX.cons (a.ok [] 0 _ _ hu).qc (qX.cons (b.ok [] 0 _ _ hw).qc (qX.cons (c.ok [] 0 _ _ hp).qc qX.nil)))) ⟨a.nb n u,b.nb n w,c.nb n p,trivial⟩
  ·cases h
 nb n x:=⟨a.nb n _,b.nb n _,c.nb n _,trivial⟩
def ty4(a:Ty W)(b:Ty O)(c:Ty γ)(d:Ty δ):Ty (W×O×γ×δ) where
 enc x:=.Je [a.enc x.1,b.enc x.2.1,c.enc x.2.2.1,d.enc x.2.2.2]
 mL _:=d4 a b c d
 ok H n v x h:=by
  unfold d4 at h;split at h
  ·simp only[dM,dN]at h;obtain⟨u,hu,w,hw,p,hp,q,hq,rfl⟩:=h;exact Co.sub (Ma.Je (qX.cons (a.ok [] 0 _ _ hu).qc (qX.cons (b.ok [] 0 _ _ hw).qc (qX.cons (c.ok [] 0 _ _ hp).qc (qX.cons (d.ok [] 0 _ _ hq).qc qX.nil))))) ⟨a.nb n u,b.nb n w,c.nb n p,d.nb n q,trivial⟩
  ·cases h
 nb n x:=⟨a.nb n _,b.nb n _,c.nb n _,d.nb n _,trivial⟩
def ty5(a:Ty W)(b:Ty O)(c:Ty γ)(d:Ty δ)(e:Ty ε):Ty (W×O×γ×δ×ε) where
 enc x:=.Je [a.enc x.1,b.enc x.2.1,c.enc x.2.2.1,d.enc x.2.2.2.1,e.enc x.2.2.2.2]
 mL _:=d5 a b c d e
 ok H n v x h:=by
  unfold d5 at h;split at h
  ·simp only[dM,dN]at h;obtain⟨u,hu,w,hw,p,hp,q,hq,s,hs,rfl⟩:=h;exact Co.sub (Ma.Je (qX.cons (a.ok [] 0 _ _ hu).qc (qX.cons (b.ok [] 0 _ _ hw).qc (qX.cons (c.ok [] 0 _ _ hp).qc (qX.cons (d.ok [] 0 _ _ hq).qc (qX.cons (e.ok [] 0 _ _ hs).qc qX.nil)))))) ⟨a.nb n u,b.nb n w,c.nb n p,d.nb n q,e.nb n s,trivial⟩
  ·cases h
 nb n x:=⟨a.nb n _,b.nb n _,c.nb n _,d.nb n _,e.nb n _,trivial⟩
def aD1{a:Ty W}{b:Ty O}{x:W×O}:(ty2 a b).enc x=.Je [a.enc x.1,b.enc x.2]:=rfl
def aD2{a:Ty W}{b:Ty O}:(ty2 a b).mL H v=d2 a b v:=rfl
def aD3{a:Ty W}{b:Ty O}{c:Ty γ}{x:W×O×γ}:(ty3 a b c).enc x=.Je [a.enc x.1,b.enc x.2.1,c.enc x.2.2]:=rfl
def aD4{a:Ty W}{b:Ty O}{c:Ty γ}:(ty3 a b c).mL H v=d3 a b c v:=rfl
def aD5{a:Ty W}{b:Ty O}{c:Ty γ}{d:Ty δ}{x:W×O×γ×δ}:(ty4 a b c d).enc x=.Je [a.enc x.1,b.enc x.2.1,c.enc x.2.2.1,d.enc x.2.2.2]:=rfl
def aD6{a:Ty W}{b:Ty O}{c:Ty γ}{d:Ty δ}:(ty4 a b c d).mL H v=d4 a b c d v:=rfl
def aD7{a:Ty W}{b:Ty O}{c:Ty γ}{d:Ty δ}{e:Ty ε}{x:W×O×γ×δ×ε}:(ty5 a b c d e).enc x=.Je [a.enc x.1,b.enc x.2.1,c.enc x.2.2.1,d.enc x.2.2.2.1,e.enc x.2.2.2.2]:=rfl
def aD8{a:Ty W}{b:Ty O}{c:Ty γ}{d:Ty δ}{e:Ty ε}:(ty5 a b c d e).mL H v=d5 a b c d e v:=rfl
end aGO
def nT{Y:Type}(P:aMN)(rs:List ResultVar)(t:Ty Y)(J:jX):Option Y:=
 bif J.df.isEmpty then(Pq P J rs).bind fun x=>nJ ((frz 0 J.heap x).nb 0) (t.mL [] (frz 0 J.heap x))else none
def aht{Y:Type}{t:Ty Y}{r:Y}(h:nT P rs t J=some r):J.df=[]/\ayX (fun v=>v=t.enc r) J.heap (Pq P J rs):=by
 unfold nT at h;cases hd:J.df with
 |cons p q=>rw[hd]at h;cases h
 |nil=>
 rw[hd]at h;simp only[ek,jK]at h;refine⟨rfl,?_⟩;cases hx:Pq P J rs with
 |none=>rw[hx]at h;cases h
 |some x=>
  rw[hx]at h;simp only[Option.bind_some]at h;rw[mO]at h;exact⟨h.1,_,(t.ok [] 0 _ _ h.2).qc,rfl⟩
abbrev Ent:=List AV->List kp->Option (AV×List kp)
abbrev aqB:=List AV->Option AV
section entries
variable {ε ζ Y:Type}
def ata(t:Ty Y)(F:Option Y):Ent
 |[],H=>F.bind fun r=>some (t.enc r,H)
 |_,_=>none
def mD(a:Ty W)(t:Ty Y)(F:W->Option Y):Ent
 |[x],H=>(a.mL H x).bind fun x=>(F x).bind fun r=>some (t.enc r,H)
 |_,_=>none
def rL(a:Ty W)(b:Ty O)(t:Ty Y)(F:W->O->Option Y):Ent
 |[x,y],H=>(a.mL H x).bind fun x=>(b.mL H y).bind fun y=>(F x y).bind fun r=>some (t.enc r,H)
 |_,_=>none
def X1(a:Ty W)(b:Ty O)(c:Ty γ)(t:Ty Y)(F:W->O->γ->Option Y):Ent
 |[x,y,z],H=>(a.mL H x).bind fun x=>(b.mL H y).bind fun y=>(c.mL H z).bind fun z=>(F x y z).bind fun r=>some (t.enc r,H)
 |_,_=>none
def aD9(a:Ty W)(b:Ty O)(c:Ty γ)(d:Ty δ)(t:Ty Y)(F:W->O->γ->δ->Option Y):Ent
 |[x,y,z,u],H=>(a.mL H x).bind fun x=>(b.mL H y).bind fun y=>(c.mL H z).bind fun z=>(d.mL H u).bind fun u=>(F x y z u).bind fun r=>some (t.enc r,H)
 |_,_=>none
def atb(a:Ty W)(b:Ty O)(c:Ty γ)(d:Ty δ)(e:Ty ε)(f:Ty ζ)(t:Ty Y)(F:W->O->γ->δ->ε->ζ->Option Y):Ent
 |[x,y,z,u,v,w],H=>(a.mL H x).bind fun x=>(b.mL H y).bind fun y=>(c.mL H z).bind fun z=>(d.mL H u).bind fun u=>(e.mL H v).bind fun v=>(f.mL H w).bind fun w=>(F x y z u v w).bind fun r=>some (t.enc r,H)
 |_,_=>none
def nG(e:Ent):aqB:=fun args=>nJ (xB 0 args) ((e args []).bind fun r=>some r.1)
def afa(P:aMN)(f:aML)(e:Ent):Prop:=∀args J r H',e args J.heap=some (r,H')->BE P f args J (fun o EX=>o=.ret r/\EX=H')
def UE(P:aMN)(f:aML)(e:aqB):Prop:=∀args r,e args=some r->Ku P f args (fun v=>v=r)
variable {a:Ty W} {b:Ty O} {c:Ty γ} {d:Ty δ} {e:Ty ε} {g:Ty ζ} {t:Ty Y}
def ahu{F:Option Y}(h:∀r,F=some r->Ku P f [] (fun v=>v=t.enc r)):afa P f (ata t F):=by
 intro args J r H' he;unfold ata at he;split at he
 ·simp only[dM,dN,dQ]at he;obtain⟨r',hr,rfl,rfl⟩:=he;exact V2 (n:=0) (h r' hr) Bf.nil
 ·cases he
def lU{F:W->Option Y}(h:∀x r,F x=some r->Ku P f [a.enc x] (fun v=>v=t.enc r)):afa P f (mD a t F):=by
 intro args J r H' he;unfold mD at he;split at he
 ·simp only[dM,dN,dQ]at he;obtain⟨x,hx,r',hr,rfl,rfl⟩:=he;exact V2 (n:=0) (h x r' hr) (Bf.cons (a.ok _ 0 _ _ hx) Bf.nil)
 ·cases he
def pg{F:W->O->Option Y}(h:∀x y r,F x y=some r->Ku P f [a.enc x,b.enc y] (fun v=>v=t.enc r)):afa P f (rL a b t F):=by
 intro args J r H' he;unfold rL at he;split at he
 ·simp only[dM,dN,dQ]at he;obtain⟨x,hx,y,hy,r',hr,rfl,rfl⟩:=he;exact V2 (n:=0) (h x y r' hr) (Bf.cons (a.ok _ 0 _ _ hx) (Bf.cons (b.ok _ 0 _ _ hy) Bf.nil))
 ·cases he
def adN{F:W->O->γ->Option Y}(h:∀x y z r,F x y z=some r->Ku P f [a.enc x,b.enc y,c.enc z] (fun v=>v=t.enc r)):afa P f (X1 a b c t F):=by
 intro args J r H' he;unfold X1 at he;split at he
 ·simp only[dM,dN,dQ]at he;obtain⟨x,hx,y,hy,z,hz,r',hr,rfl,rfl⟩:=he;exact V2 (n:=0) (h x y z r' hr) (Bf.cons (a.ok _ 0 _ _ hx) (Bf.cons (b.ok _ 0 _ _ hy) (Bf.cons (c.ok _ 0 _ _ hz) Bf.nil)))
 ·cases he
def aEa{F:W->O->γ->δ->Option Y}(h:∀x y z u r,F x y z u=some r->Ku P f [a.enc x,b.enc y,c.enc z,d.enc u] (fun v=>v=t.enc r)):afa P f (aD9 a b c d t F):=by
 intro args J r H' he;unfold aD9 at he;split at he
 ·simp only[dM,dN,dQ]at he;obtain⟨x,hx,y,hy,z,hz,u,hu,r',hr,rfl,rfl⟩:=he;exact V2 (n:=0) (h x y z u r' hr) (Bf.cons (a.ok _ 0 _ _ hx) (Bf.cons (b.ok _ 0 _ _ hy) (Bf.cons (c.ok _ 0 _ _ hz) (Bf.cons (d.ok _ 0 _ _ hu) Bf.nil))))
 ·cases he
def ax3{F:W->O->γ->δ->ε->ζ->Option Y}(h:∀x y z u v w r,F x y z u v w=some r->Ku P f [a.enc x,b.enc y,c.enc z,d.enc u,e.enc v,g.enc w] (fun w=>w=t.enc r)):afa P f (atb a b c d e g t F):=by
 intro args J r H' he;unfold atb at he;split at he
 ·simp only[dM,dN,dQ]at he;obtain⟨x,hx,y,hy,z,hz,u,hu,v,hv,w,hw,r',hr,rfl,rfl⟩:=he;exact V2 (n:=0) (h x y z u v w r' hr) (Bf.cons (a.ok _ 0 _ _ hx) (Bf.cons (b.ok _ 0 _ _ hy) (Bf.cons (c.ok _ 0 _ _ hz) (Bf.cons (d.ok _ 0 _ _ hu) (Bf.cons (e.ok _ 0 _ _ hv) (Bf.cons (g.ok _ 0 _ _ hw) Bf.nil))))))
 ·cases he
def lu{F:W->Option Y}(h:∀x r,F x=some r->Ku P f [a.enc x] (fun w=>w=t.enc r)):UE P f (nG (mD a t F)):=by
 intro args r he;unfold nG at he;rw[mO]at he;obtain⟨Nb,he⟩:=he;unfold mD at he;split at he
 ·simp only[dM,dN,Prod.exists,dQ]at he;obtain⟨_,_,⟨x,hx,r',hr,rfl,rfl⟩,rfl⟩:=he;exact alj (h x r' hr) (qX.cons (a.ok _ 0 _ _ hx).qc qX.nil) Nb
 ·cases he
def pm{F:W->O->Option Y}(h:∀x y r,F x y=some r->Ku P f [a.enc x,b.enc y] (fun w=>w=t.enc r)):UE P f (nG (rL a b t F)):=by
 intro args r he;unfold nG at he;rw[mO]at he;obtain⟨Nb,he⟩:=he;unfold rL at he;split at he
 ·simp only[dM,dN,Prod.exists,dQ]at he;obtain⟨_,_,⟨x,hx,y,hy,r',hr,rfl,rfl⟩,rfl⟩:=he;exact alj (h x y r' hr) (qX.cons (a.ok _ 0 _ _ hx).qc (qX.cons (b.ok _ 0 _ _ hy).qc qX.nil)) Nb
 ·cases he
def N4{F:W->O->γ->Option Y}(h:∀x y z r,F x y z=some r->Ku P f [a.enc x,b.enc y,c.enc z] (fun w=>w=t.enc r)):UE P f (nG (X1 a b c t F)):=by
 intro args r he;unfold nG at he;rw[mO]at he;obtain⟨Nb,he⟩:=he;unfold X1 at he;split at he
 ·simp only[dM,dN,Prod.exists,dQ]at he;obtain⟨_,_,⟨x,hx,y,hy,z,hz,r',hr,rfl,rfl⟩,rfl⟩:=he;exact alj (h x y z r' hr) (qX.cons (a.ok _ 0 _ _ hx).qc (qX.cons (b.ok _ 0 _ _ hy).qc (qX.cons (c.ok _ 0 _ _ hz).qc qX.nil))) Nb
 ·cases he
def aBh{F:W->O->γ->δ->ε->ζ->Option Y}(h:∀x y z u v w r,F x y z u v w=some r->Ku P f [a.enc x,b.enc y,c.enc z,d.enc u,e.enc v,g.enc w] (fun w=>w=t.enc r)):UE P f (nG (atb a b c d e g t F)):=by
 intro args r he;unfold nG at he;rw[mO]at he;obtain⟨Nb,he⟩:=he;unfold atb at he;split at he
 ·simp only[dM,dN,Prod.exists,dQ]at he;obtain⟨_,_,⟨x,hx,y,hy,z,hz,u,hu,v,hv,w,hw,r',hr,rfl,rfl⟩,rfl⟩:=he;exact alj (h x y z u v w r' hr) (qX.cons (a.ok _ 0 _ _ hx).qc (qX.cons (b.ok _ 0 _ _ hy).qc (qX.cons (c.ok _ 0 _ _ hz).qc (qX.cons (d.ok _ 0 _ _ hu).qc (qX.cons (e.ok _ 0 _ _ hv).qc (qX.cons (g.ok _ 0 _ _ hw).qc qX.nil)))))) Nb
 ·cases he
end entries
def ni:List (Nat×Ent)->aML->List AV->List kp->Option (AV×List kp)
 |[],_,_,_=>none
 |(g,e)::t,f,args,H=>if f=g then e args H else ni t f args H
def N5:List (Nat×aqB)->aML->List AV->Option AV
 |[],_,_=>none
 |(g,e)::t,f,args=>if f=g then e args else N5 t f args
def j9:∀f args (J:jX) r H',ni [] f args J.heap=some (r,H')->BE P f args J (fun o EX=>o=.ret r/\EX=H'):=by
 intro f args J r H' h;cases h
def jW{e:Ent}{t:List (Nat×Ent)}(h1:afa P g e)(h2:∀f args (J:jX) r H',ni t f args J.heap=some (r,H')->BE P f args J (fun o EX=>o=.ret r/\EX=H')):
 ∀f args (J:jX) r H',ni ((g,e)::t) f args J.heap=some (r,H')->BE P f args J (fun o EX=>o=.ret r/\EX=H'):=by
 intro f args J r H' h;simp only[ni]at h;split at h
 ·rename_i hg;subst hg;exact h1 _ _ _ _ h
 ·exact h2 _ _ _ _ _ h
def ke:∀f args r,N5 [] f args=some r->Ku P f args (fun v=>v=r):=by
 intro f args r h;cases h
def oJ{e:aqB}{t:List (Nat×aqB)}(h1:UE P g e)(h2:∀f args r,N5 t f args=some r->Ku P f args (fun v=>v=r)):
 ∀f args r,N5 ((g,e)::t) f args=some r->Ku P f args (fun v=>v=r):=by
 intro f args r h;simp only[N5]at h;split at h
 ·rename_i hg;subst hg;exact h1 _ _ h
 ·exact h2 _ _ _ h
structure NZ where
 f:List kp->Nat->AV->Option AV
 ok:∀H n v v',f H n v=some v'->Co H n v v'
variable {zs:List NZ}
structure ZO where
 f:List kp->Nat->kp->Option kp
 ok:∀H n x y,f H n x=some y->Qz H n x y
def zA:NZ:=⟨fun _ _ _=>some .any,fun _ _ _ _ h=>by cases h;exact Co.any⟩
def zK:NZ:=⟨fun _ n v=>nJ (v.nb n) (some v),fun _ _ _ _ h=>by rw[mO]at h;obtain⟨h1,h2⟩:=h;cases h2;exact Co.P8 h1⟩
def zT(t:Ty W):NZ:=⟨fun H _ v=>(t.mL H v).bind fun x=>some (t.enc x),fun H n v v' h=>by
 simp only[dM,dN]at h;obtain⟨x,hx,rfl⟩:=h;exact t.ok H n v x hx⟩
def aqC{sz:Nat}(hs:XR rows BD):Ma (.lS true sz rows) (.lS true sz BD):=by
 rintro E v ⟨base,cap,hv,h1,h2,h3,h4,h5⟩;refine⟨base,cap,by rw[<-hs.1];exact hv,by rw[<-hs.1];exact h1,fun _=>by rw[<-hs.1];exact h2 rfl,h3,fun a ha wN=>h4 a ha ?_,fun a ha=>hs.2 E sz _ _ (h5 a ha)⟩;rintro rfl;exact wN (ey hs.1.symm)
def dLt(r:Row W):AV->Option (List W)
 |.lS true sz rows=>bif sz==r.sz then so r.mL rows else none
 |_=>none
def zL(r:Row W):NZ:=⟨fun _ _ v=>(dLt r v).bind fun x=>some (.lS true r.sz (mp r.enc x)),fun H n v v' h=>by
 simp only[dM,dN]at h;obtain⟨x,hx,rfl⟩:=h;unfold dLt at hx;split at hx
 ·rename_i sz rows;cases hz:(sz==r.sz)with
  |false=>rw[hz]at hx;cases hx
  |true=>
   rw[hz,jK]at hx;obtain rfl:=beq_iff_eq.1 hz;exact .inl (.inl ⟨aqC (Nc hx).1,zz x⟩)
 ·cases hx⟩
def aKH:(zL r).f H n v=(dLt r v).bind fun x=>some (.lS true r.sz (mp r.enc x)):=rfl
def aKI:zA.f H n v=some .any:=rfl
def aKJ:zK.f H n v=nJ (v.nb n) (some v):=rfl
def aKK{t:Ty W}:(zT t).f H n v=(t.mL H v).bind fun x=>some (t.enc x):=rfl
def aku:List NZ->List kp->Nat->List AV->Option (List AV)
 |[],_,_,[]=>some []
 |z::zs,H,n,v::vs=>(z.f H n v).bind fun u=>(aku zs H n vs).bind fun us=>some (u::us)
 |_,_,_,_=>none
def alp:∀{zs:List NZ}{H:List kp}{n:Nat}{vs us:List AV},aku zs H n vs=some us->Bf H n vs us
 |[],_,_,[],us,h=>by simp only[aku,dN]at h;subst h;rfl
 |z::zs,H,n,v::vs,us,h=>by
  simp only[aku,dM,dN]at h;obtain⟨u,hu,ws,hws,rfl⟩:=h;exact Bf.cons (z.ok _ _ _ _ hu) (alp hws)
 |[],_,_,_::_,_,h=>by simp [aku]at h
 |_::_,_,_,[],_,h=>by simp [aku]at h
def oD:ZO:=⟨fun _ _ _=>some .sU,fun _ _ _ _ h=>by cases h;exact .inl rfl⟩
def oK:ZO:=⟨fun _ n x=>nJ (sj n x) (some x),fun _ _ _ _ h=>by rw[mO]at h;obtain⟨h1,h2⟩:=h;cases h2;exact .inr (.inl ⟨rfl,h1⟩)⟩
def oCf(zs:List NZ)(H:List kp)(n:Nat):kp->Option kp
 |.cells cs=>(aku zs H n cs).bind fun ds=>some (.cells ds)
 |_=>none
def oC(zs:List NZ):ZO:=⟨oCf zs,fun H n x y h=>by
 unfold oCf at h;split at h
 ·simp only[dM,dN]at h;obtain⟨ds,hd,rfl⟩:=h;exact .inr (.inr (.inl ⟨_,_,rfl,rfl,alp hd⟩))
 ·cases h⟩
def oTf(c:ZJ W)(H:List kp):kp->Option kp
 |.cells cs=>(c.mL H cs).bind fun x=>some (.cells (c.enc x))
 |_=>none
def oT(c:ZJ W):ZO:=⟨fun H _=>oTf c H,fun H n x y h=>by
 unfold oTf at h;split at h
 ·simp only[dM,dN]at h;obtain⟨z,hz,rfl⟩:=h;exact .inr (.inr (.inl ⟨_,_,rfl,rfl,(c.ok H n _ _ hz).aBf⟩))
 ·cases h⟩
def oAf(r:Row W):kp->Option kp
 |.mE vA sz rows=>(so r.mL rows).bind fun xs=>some (.mE vA sz (mp r.enc xs))
 |_=>none
def oA(r:Row W):ZO:=⟨fun _ _=>oAf r,fun H n x y h=>by
 unfold oAf at h;split at h
 ·simp only[dM,dN]at h;obtain⟨xs,hx,rfl⟩:=h;exact .inr (.inr (.inr (.inl ⟨_,_,_,_,rfl,rfl,(Nc hx).2,zz xs⟩)))
 ·cases h⟩
def aKL{x:kp}:oD.f H n x=some .sU:=rfl
def aKM{x:kp}:oK.f H n x=nJ (sj n x) (some x):=rfl
def aKN:(oC zs).f H n (.cells cs)=(aku zs H n cs).bind fun ds=>some (.cells ds):=rfl
def aKO{c:ZJ W}:(oT c).f H n (.cells cs)=(c.mL H cs).bind fun x=>some (.cells (c.enc x)):=rfl
def aKP{vA:Bool}{sz:Nat}:(oA r).f H n (.mE vA sz rows)=(so r.mL rows).bind fun xs=>some (.mE vA sz (mp r.enc xs)):=rfl
def awj:List ZO->List kp->Nat->List kp->Option (List kp)
 |[],_,_,_=>some []
 |z::zs,H,n,v::vs=>(z.f H n v).bind fun u=>(awj zs H n vs).bind fun us=>some (u::us)
 |_::_,_,_,[]=>none
def ax4:∀{zs:List ZO}{H:List kp}{n:Nat}{vs us:List kp},awj zs H n vs=some us->CoH H n vs us/\us.length=zs.length
 |[],_,_,vs,us,h=>by simp only[awj,dN]at h;subst h;exact⟨CoH.nil,rfl⟩
 |z::zs,H,n,v::vs,us,h=>by
  simp only[awj,dM,dN]at h;obtain⟨u,hu,ws,hws,rfl⟩:=h;obtain⟨h1,h2⟩:=ax4 hws;exact⟨⟨z.ok _ _ _ _ hu,h1⟩,by simp [h2]⟩
 |_::_,_,_,[],_,h=>by simp [awj]at h
def atc:avw n []=True:=eq_true abt
def aEb(zs:List NZ)(zo:List ZO)(J:jX):Option jX:=
 (aku zs J.heap zo.length J.kr).bind fun ss=>(awj zo J.heap zo.length J.heap).bind fun hs=>bif decide (J.low<=zo.length)then nJ (avw zo.length J.df) (some ⟨ss,hs,J.low,J.df⟩)else none
def aEc{zo:List ZO}(h:aEb zs zo J=some J'):Kr J J':=by
 unfold aEb at h;simp only[dM]at h;obtain⟨ss,h1,hs,h2,h3⟩:=h;cases hl:decide (J.low<=zo.length)with
 |false=>simp [hl]at h3
 |true=>
  simp only[hl,jK]at h3;rw[mO]at h3;obtain⟨hdf,h3⟩:=h3;simp only[dN]at h3;subst h3;obtain⟨h4,h5⟩:=ax4 h2;have hle:J.low<=hs.length:=by rw[h5];exact jO hl
  refine al1.imp ⟨⟨⟨rfl,hle⟩,rfl,by rw[h5];exact hdf⟩,?_,?_⟩
  ·show Bf J.heap hs.length J.kr ss;rw[h5];exact alp h1
  ·show CoH J.heap hs.length J.heap hs;rw[h5];exact h4
def Fv(i sz:Nat)(vA:Bool)(J:jX):jX:=
 match J.kr[i]? with
 |some (.lS true _ [])=>{kr:=J.kr.set i (.mE J.heap.length 0),heap:=J.heap++[.mE vA sz []],low:=J.low,df:=J.df}
 |_=>J
def amu {sz:Nat}{vA:Bool}:Kr J (Fv i sz vA J):=by
 unfold Fv;split
 ·rename_i s h;exact aAQ h
 ·exact Kr.refl J
section aBi
variable {a:Act}
def amv {ds:List AV}{b o:Nat}:(kp.cells cs).Ff h b o->(kp.cells ds).Ff h b o:=by
 intro hm;cases h with
 |pointer p=>cases p<;>exact hm
 |_=>exact hm
def ajY {ds:List AV}{b:Nat}:(kp.cells cs).block h b->(kp.cells ds).block h b:=by
 intro hm;cases h with
 |pointer p=>cases p<;>exact hm
 |_=>exact hm
def nr.aBj(S:nr C U J a w){ds:List AV}(hl:J.heap[l]? =some (.cells cs))(h:∀b c t,U l=.pointer (some ⟨b,0,none⟩)->w.heap[b]? =some (.cells c t (0,0))->kQ (C.env U J.heap w) cs c.toList->kQ (C.env U J.heap w) ds c.toList):
 nr C U {J with heap:=J.heap.set l (.cells ds)} a w:=by
 refine S.avn hl rfl (dW _) (fun _ _ _=>rfl) (fun _ _=>rfl) (fun _=>rfl) ⟨rfl,rfl⟩ (fun b hb=>ajY hb) (fun b o hm=>amv hm) (fun E' le hw=>?_);obtain⟨b,c,t,h1,h2,h3,h4⟩:=S.sF l _ hl;have r:=h b c t h1 h2 h3;exact⟨b,c,t,h1,by rw[hw];exact h2,kQ.mono le _ _ (kQ.nb _ _ r) r,h4⟩
theorem ape {off s sz:Nat}(hl:J.heap[l]? =some (.cells cs))(hc:cs[off]? =some (.lS true s [])):
 Kr J {kr:=J.kr,heap:=J.heap.set l (.cells (cs.set off (.mE J.heap.length 0)))++[.mE true sz []],low:=J.low,df:=J.df}:=by
 intro C U a w S;have me:l<J.heap.length:=(eA.1 hl).1;obtain⟨b,c,t,hφ,hh,rl,h1⟩:=S.sF l _ hl;obtain⟨v,hv,base,cap,rfl,_,G9,_⟩:=rl.get hc;have G9:cap=0:=G9 rfl;subst G9
 have S':=S.XO (vA:=true) (sz:=sz) (rows:=[]) (w':=w) (h':=.slice base 0 0) (dW _) (fun _ _=>rfl) (fun _=>rfl) ⟨rfl,rfl⟩ (by
  intro b hb;cases base<;>simp [kp.block]at hb) (fun E' _ _=>⟨base,0,rfl,dW _,fun _=>rfl,by simp,fun b _ h0=>absurd rfl h0⟩)
 refine⟨(fun k=>if k=J.heap.length then .slice base 0 0 else U k),?_⟩;have hl':(J.heap++[kp.mE true sz []])[l]? =some (.cells cs):=by grind
 have S2:=S'.aBj (l:=l) (cs:=cs) (ds:=cs.set off (.mE J.heap.length 0)) hl' (by
  intro b2 c2 t2 h3 h4 r
  have e1:b2=b:=by
   grind
  subst e1;rw[show w.heap[b2]? =some (.cells c t (0,0))from hh]at h4;simp only[dN,Obj.cells.injEq]at h4;obtain⟨rfl,_⟩:=h4
  have aDw:=kQ.set (i:=off) (c:=.mE J.heap.length 0) (v:=.slice base 0 0) r ⟨by simp [tg.env],⟨_,_,_,rfl⟩,fun k hk=>by
   grind [tg.env]⟩
  grind [List.set_getElem_self])
 grind
def ax5(l off sz:Nat)(J:jX):jX:=
 match J.heap[l]? with
 |some (.cells cs)=>match cs[off]? with
  |some (.lS true _ [])=>{kr:=J.kr,heap:=J.heap.set l (.cells (cs.set off (.mE J.heap.length 0)))++[.mE true sz []],low:=J.low,df:=J.df}
  |_=>J
 |_=>J
def aBk {off sz:Nat}:Kr J (ax5 l off sz J):=by
 grind [ax5,ape,Kr.refl]
end aBi
structure wH where
 gs:List (Nat×Nat×Bool)
 gc:List (Nat×Nat×Nat)
 zs:List NZ
 zo:List ZO
 sel:Option Nat
 aIA:Option (Nat×Nat)
def aBl:Option AV->Bool
 |some (.lS _ _ _)=>true
 |_=>false
def aGP:Option Nat->jX->Bool
 |none,_=>true
 |some i,J=>aBl J.kr[i]?
def aBm(k:Nat):Option AV->Bool
 |some (.map k')=>k'==k
 |_=>false
def aGQ:Option (Nat×Nat)->jX->Bool
 |none,_=>true
 |some (i,k),J=>aBm k J.kr[i]?
def aqD:List (Nat×Nat×Bool)->jX->jX
 |[],J=>J
 |(i,sz,b)::r,J=>aqD r (Fv i sz b J)
def aqE:List (Nat×Nat×Nat)->jX->jX
 |[],J=>J
 |(l,o,sz)::r,J=>aqE r (ax5 l o sz J)
def apf:∀{g:List (Nat×Nat×Bool)}{J:jX},Kr J (aqD g J)
 |[],J=>Kr.refl J
 |(_,_,_)::_,_=>amu.trans apf
def apg:∀{g:List (Nat×Nat×Nat)}{J:jX},Kr J (aqE g J)
 |[],J=>Kr.refl J
 |(_,_,_)::_,_=>aBk.trans apg
def aGR(N:wH)(J:jX):Option jX:=aEb N.zs N.zo (aqE N.gc (aqD N.gs J))
def aEd{N:wH}(h:aGR N J=some J'):Kr J J':=(apf.trans apg).trans (aEc h)
def qF:List (List Nat×wH)->List Nat->jX->Option jX
 |[],_,J=>some J
 |(q,N)::t,p,J=>if p=q then(bif aGP N.sel J&&aGQ N.aIA J then aGR N J else qF t p J)else qF t p J
def mU:∀(t:List (List Nat×wH))(p:List Nat)(J J':jX),qF t p J=some J'->Kr J J'
 |[],_,J,J',h=>by grind [qF,Kr.refl]
 |(q,N)::t,p,J,J',h=>by
  simp only[qF]at h;split at h
  ·cases hs:(aGP N.sel J&&aGQ N.aIA J)with
   |true=>rw[hs]at h;exact aEd h
   |false=>rw[hs]at h;exact mU t p J J' h
  ·exact mU t p J J' h
def ixA(J:jX)(sz:Nat)(x i:AV):Option wO:=
 match x,i with
 |.lS _ Po rows,.int _ n=>if Po=sz then(sQ rows n).bind fun r=>some {val:=.pp r} else none
 | .mE l m,.int _ n=>match J.heap[l]? with
   |some (.mE true Po rows)=>if Po=sz/\rows.length=m then(sQ rows n).bind fun r=>some {val:=.pp r,rd:=[l]} else none
   |some (.mE false Po rows)=>if Po=sz/\rows.length=m then(sQ rows n).bind fun _=>some {val:=.own l n.toNat m 0 sz,rd:=[l]} else none
   |_=>none
 |_,_=>none
def aEe(s:ByteArray)(n:Int):Option UInt8:=if 0<=n then s[n.toNat]? else none
def ixS(x i:AV):Option wO:=
 match x,i with
 |.str s,.int _ n=>(aEe s n).bind fun b=>some {val:=.int .u8 b.toNat}
 |_,_=>none
def ldA(P:aMN)(J:jX)(t:aMQ)(v:AV):Option wO:=
 match qB P t,v with
 |some (g,n),.ptr l off=>match J.heap[l]? with
  |some (.cells cs)=>(l8 g n (cs.drop off)).bind fun v=>ldV J.heap l v
  |_=>none
 |some (g,n),.pp cs=>(l8 g n cs).bind fun v=>some {val:=v}
 |some (g,n),.own l i m o sz=>match J.heap[l]? with
  |some (.mE false Po rows)=>if Po=sz/\rows.length=m then rows[i]?.bind fun r=>(l8 g n (r.drop o)).bind fun v=>some {val:=v,rd:=[l]} else none
  |_=>none
 |some (false,_),.uE v=>alJ v
 |_,_=>none
def stA(P:aMN)(J:jX)(t:aMQ)(v:AV)(ys:Option (List AV)):Option wO:=
 match qB P t,v,ys with
 |some (_,n),.ptr l off,some ys=>match J.heap[l]? with
  |some (.cells cs)=>if ys.length=n/\off+n<=cs.length then some {val:=.any,rd:=[l],up:=[(l,.cells (uL cs off ys))]} else none
  |_=>none
 |some (_,n),.own l i m o sz,some ys=>match J.heap[l]? with
  |some (.mE false Po rows)=>if Po=sz/\rows.length=m then rows[i]?.bind fun r=>if ys.length=n/\o+n<=sz then some {val:=.any,rd:=[l],up:=[(l,.mE false sz (rows.set i (uL r o ys)))]} else none else none
  |_=>none
 |_,_,_=>none
def aBn(n:Int)(f:Nat->Option wO):Nat->Nat->Option wO
 |0,_=>none
 |c+1,i=>bif n==(i:Int)then f i else aBn n f c (i+1)
theorem ax6{n:Int}{f:Nat->Option wO}:∀(c i:Nat),aBn n f c i=if (i:Int)<=n/\n<(i:Int)+c then f n.toNat else none
 |0,i=>by rw[if_neg (by omega)];rfl
 |c+1,i=>by
  rw[aBn,ax6 c (i+1)]
  grind
def ixP(len sz:Nat)(x i:AV):Option wO:=
 match x,i with
 |.ptr l off,.int _ n=>if len<=8 then aBn n (fun i=>some {val:=.ptr l (off+i*sz)}) len 0 else if 0<=n/\n<len then some {val:=.ptr l (off+n.toNat*sz)} else none
 |.pp cs,.int _ n=>if 0<=n/\n<len then(alI sz n.toNat cs).bind fun ds=>some {val:=.pp ds} else none
 |.uE (.pointer (some ⟨b,o,none⟩)),.int _ n=>if 0<=n/\n<len then some {val:=.uE (.pointer (some ⟨b,o+n.toNat*sz,none⟩))} else none
 |_,_=>none
def XE (P:aMN) (J:jX):Op->Option wO
 | .indexAddr t x i=>match oQ P t with
   |some (_,sz,_)=>ixA J sz (J.ev x) (J.ev i)
   |none=>match ar5 P t with
    |some (len,sz)=>ixP len sz (J.ev x) (J.ev i)
    |none=>none
 |.index t x i=>if vz P t=true then ixS (J.ev x) (J.ev i)else none
 | .binOp op t x y ty=>match op with
   |.eql=>lC P J (.binOp .eql t x y ty)
   |.neq=>lC P J (.binOp .neq t x y ty)
   |op=>(aoT op (J.ev x) (J.ev y)).bind fun v=>some {val:=v}
 |.load t x=>ldA P J t (J.ev x)
 |.store t x y=>stA P J t (J.ev x) (cellsOf (J.ev y))
 |o=>lC P J o
def Qp(H:List kp):∀cs:List AV,xB 0 cs->vwL H cs=some (cs,[])
 |[],_=>rfl
 |c::cs,h=>by
  have ih:=Qp H cs h.2;cases c with
  |mE l n=>exact absurd h.1 (Nat.not_lt_zero _)
  |_=>simp only[vwL,ih]
theorem uj(P:aMN)(J:jX)(o:Op):lC P J o=XE P J o:=by
 cases o with
 |indexAddr t x i=>
  simp only[XE];cases ht:oQ P t with
  |none=>
   simp only[lC,ht]
   grind [ixP,ax6]
  |some q=>
   obtain⟨e,sz,b⟩:=q;simp only[lC,ht]
   grind [ixA,sQ]
 |index t x i=>
  simp only[XE,lC];cases ht:vz P t
  ·grind
  ·cases hx:J.ev x<;>cases hi:J.ev i<;>simp only[ixS,jQ]
   grind [aEe]
 |binOp op t x y ty=>
  cases op with
  |eql=>rfl
  |neq=>rfl
  |_=>
   simp only[XE,lC];generalize aoT _ (J.ev x) (J.ev y)=q;cases q<;>rfl
 |load t x=>
  simp only[XE,lC,ldA]
  grind
 |store t x y=>
  simp only[XE,lC,stA]
  grind
 |_=>rfl
section freeze
variable {a:Act}
def rp1(l:Nat)(cs:List AV):AV->AV
 |.ptr k off=>if k=l then .pp (cs.drop off)else .ptr k off
 |x=>x
def rpV(l:Nat)(cs:List AV):AV->AV
 |.ptr k off=>if k=l then .pp (cs.drop off)else .ptr k off
 |.func fn f c=>.func fn (f.map (rp1 l cs)) (c.map (rp1 l cs))
 |x=>x
def rpO(l:Nat)(cs:List AV):kp->kp
 |.cells ds=>.cells (ds.map (rpV l cs))
 |x=>x
def atd(l:Nat)(J:jX):Option jX:=
 match J.heap[l]? with
 |some (.cells cs)=>nJ (xB 0 cs/\J.low<=l) (some {kr:=J.kr.map (rpV l cs),heap:=(J.heap.map (rpO l cs)).set l .sU,low:=J.low,df:=J.df})
 |_=>none
def ate{x:kp}{b o:Nat}:(rpO l cs x).Ff h b o->x.Ff h b o:=by
 cases x with
 |cells ds=>exact amv
 |_=>exact id
theorem V6{x:kp}{b:Nat}:(rpO l cs x).block h b->x.block h b:=by
 cases x with
 |cells ds=>exact ajY
 |_=>exact id
theorem aEf{x:kp}:nO (some (rpO l cs x))=nO (some x):=by
 cases x<;>rfl
def aGS{y:kp}(h:((H.map (rpO l cs)).set l .sU)[k]? =some y):(k=l/\y=.sU)\/(k≠l/\∃x,H[k]? =some x/\y=rpO l cs x):=by
 grind
theorem aBo(h:atd l J=some J'):Kr J J':=by
 unfold atd at h;split at h
 case h_2=>cases h
 rename_i cs hl;rw[mO]at h;obtain⟨⟨Nb,HC⟩,h⟩:=h;cases h;intro C U a w S;refine⟨U,?_⟩;have me:l<J.heap.length:=(eA.1 hl).1;obtain⟨b0,c0,t0,hφ,hh,rl,zu⟩:=S.sF l _ hl
 let H':List kp:=(J.heap.map (rpO l cs)).set l .sU
 have hlen:H'.length=J.heap.length:=by simp [H']
 have Df:∀(k:Nat)(y:kp),H'[k]? =some y->(k=l/\y=.sU)\/(k≠l/\∃x,J.heap[k]? =some x/\y=rpO l cs x):=fun k y hy=>aGS hy
 have alH:∀b o,Sx U H' b o->Sx U J.heap b o:=by
  rintro b o ⟨k,y,hy,hm⟩;rcases Df k y hy with⟨_,rfl⟩|⟨_,x,hx,rfl⟩
  ·simp [kp.Ff]at hm
  ·exact⟨k,x,hx,ate hm⟩
 have aIB:∀k:Nat,nO H'[k]? =nO J.heap[k]? :=by
  intro k;by_cases e:k=l
  ·subst e;simp only[H'];rw[List.getElem?_set_self (by simpa using me),hl];rfl
  grind [aEf]
 have le:(C.env U J.heap w).Le J.heap.length (C.env U H' w):=
  tg.XH (by rw[hlen];exact dW _) (fun k _=>⟨rfl,aIB k⟩) (fun b o u hm hc=>⟨fun h=>hm (h.imp (alH b o) id),hc⟩)
 have aIC:∀o,¬ (Sx U H' b0 o\/C.A b0 o):=by
  rintro o (⟨k,y,hy,hm⟩|hA)
  ·rcases Df k y hy with⟨_,rfl⟩|⟨wN,x,hx,rfl⟩
   ·simp [kp.Ff]at hm
   ·exact wN (S.apart k l x _ b0 hx hl (V6 (kp.sw hm)) (by rw[hφ];rfl))
  ·exact S.Fj l _ b0 o hl (by rw[hφ];rfl) hA
 have rl':kQ (C.env U H' w) cs c0.toList:=kQ.mono le _ _ (tB (eg _) _ Nb) rl
 have hpp:∀(off:Nat)(v:aMM),pO (C.env U J.heap w) (.ptr l off) v->pO (C.env U H' w) (.pp (cs.drop off)) v:=by
  rintro off v ⟨_,b,hb,rfl⟩
  have e:b0=b:=by
   have Gs:U l=.pointer (some ⟨b,0,none⟩):=hb;rw[hφ]at Gs;simpa using Gs
  subst e;refine⟨b0,off,rfl,?_⟩;have hd:=rl'.drop off;have h1:∀u∈c0.toList.drop off,u.oneCell'=true:=fun u hu=>zu u (List.mem_of_mem_drop hu)
  have hl2:=hd.length;exact It (E:=C.env U H' w) (c:=c0) (t:=t0) (fr:=(0,0)) hh _ off (fun o _ _=>aIC o) (by grind) (by grind)
 have h1:∀(x:AV)(v:aMM),pO (C.env U J.heap w) x v->pO (C.env U H' w) (rp1 l cs x) v:=by
  intro x v r;cases x with
  |ptr k off=>
   simp only[rp1];split
   ·grind
   ·exact pO.mono le _ _ (pO.nb _ _ r) r
  |_=>exact pO.mono le _ _ (pO.nb _ _ r) r
 have hL1:∀(xs:List AV)(vs:List aMM),kQ (C.env U J.heap w) xs vs->kQ (C.env U H' w) (xs.map (rp1 l cs)) vs:=by
  intro xs;induction xs with
  |nil=>intro vs r;exact r
  |cons x xs ih=>rintro _ ⟨u,us,rfl,r1,r2⟩;exact⟨u,us,rfl,h1 x u r1,ih us r2⟩
 have hV:∀(x:AV)(v:aMM),pO (C.env U J.heap w) x v->pO (C.env U H' w) (rpV l cs x) v:=by
  intro x v r;cases x with
  |ptr k off=>
   simp only[rpV];split
   ·grind
   ·exact pO.mono le _ _ (pO.nb _ _ r) r
  |func fn f c=>
   obtain⟨f',c',hv,r1,r2⟩:=r;exact⟨f',c',hv,hL1 _ _ r1,hL1 _ _ r2⟩
  |_=>exact pO.mono le _ _ (pO.nb _ _ r) r
 have hLV:∀(xs:List AV)(vs:List aMM),kQ (C.env U J.heap w) xs vs->kQ (C.env U H' w) (xs.map (rpV l cs)) vs:=by
  intro xs;induction xs with
  |nil=>intro vs r;exact r
  |cons x xs ih=>rintro _ ⟨u,us,rfl,r1,r2⟩;exact⟨u,us,rfl,hV x u r1,ih us r2⟩
 have abg:xj C U H' w J.df a.defers:=S.defers.step le (fun _ _ _=>rfl) (fun k y b hy hb=>by
  grind [kp.block,V6])
 refine {kr:=hLV _ _ S.kr,defers:=abg,sF:=?_,apart:=?_,Fj:=?_,size:=S.size,R3:=S.R3,tC:=S.tC,XG:=?_,Hz:=S.Hz,rest:=S.rest,low:=⟨S.low.1,by grind⟩,oe:=?_}
 ·intro k y hy;rcases Df k y hy with⟨_,rfl⟩|⟨_,x,hx,rfl⟩
  ·exact trivial
  ·have r:=S.sF k x hx;cases x with
   |cells ds=>
    obtain⟨b,c,t,h1,h2,h3,h4⟩:=r;exact⟨b,c,t,h1,h2,hLV _ _ h3,h4⟩
   |_=>exact rz.mono r le (fun _ _=>rfl)
 ·intro k k' y y' b hy hy' hb Gs;rcases Df k y hy with⟨_,rfl⟩|⟨_,x,hx,rfl⟩
  ·simp [kp.block]at hb
  ·rcases Df k' y' hy' with⟨_,rfl⟩|⟨_,x',VO,rfl⟩
   ·simp [kp.block]at Gs
   ·exact S.apart k k' x x' b hx VO (V6 hb) (V6 Gs)
 ·intro k y b o hy hb;rcases Df k y hy with⟨_,rfl⟩|⟨_,x,hx,rfl⟩
  ·simp [kp.block]at hb
  ·exact S.Fj k x b o hx (V6 hb)
 ·intro k y b o hy hm hb;rcases Df k y hy with⟨_,rfl⟩|⟨_,x,hx,rfl⟩
  ·simp [kp.Ff]at hm
  ·exact S.XG k x b o hx (ate hm) hb
 ·intro k hk;have:=S.oe k hk
  grind
def aBp{sz:Nat}{b o:Nat}:(kp.mE true sz rows).Ff h b o->(kp.mE false sz rows).Ff h b o:=by
 intro hm;cases h with
 |slice base n cap=>
  cases base with
  |none=>exact hm
  |some a=>exact⟨hm.1,fun h=>by cases h⟩
 |_=>exact hm
def nr.vA{a:Act}{sz:Nat}(hl:J.heap[l]? =some (.mE false sz rows))(S:nr C U J a w):nr C U {J with heap:=J.heap.set l (.mE true sz rows)} a w:=by
 refine S.avn hl rfl (dW _) (fun _ _ _=>rfl) (fun _ _=>rfl) (fun _=>rfl) ⟨rfl,rfl⟩ (fun b hb=>?_) (fun b o hm=>aBp hm) (fun E' le hw=>?_)
 ·revert hb;cases U l with
  |slice base n cap=>cases base<;>exact id
  |_=>exact id
 ·have r:rz E' (.mE false sz rows) (U l):=rz.mono (S.sF l _ hl) le (fun _ _=>by rw[hw];rfl);exact r
theorem aEg {sz:Nat}(hl:J.heap[l]? =some (.mE false sz rows)):Kr J {J with heap:=J.heap.set l (.mE true sz rows)}:=fun _ U _ _ S=>⟨U,nr.vA hl S⟩
def an1(J:jX)(l:Nat):Option kp->jX
 |some (.mE false sz rows)=>{J with heap:=J.heap.set l (.mE true sz rows)}
 |_=>J
theorem ax7:Kr J (an1 J l J.heap[l]?):=by
 unfold an1
 grind [aEg,Kr.refl]
def akv(J:jX):Option AV->jX
 |some (.mE l _)=>an1 J l J.heap[l]?
 |_=>J
def aEh{x:Option AV}:Kr J (akv J x):=by
 unfold akv
 grind [ax7,Kr.refl]
theorem aBq{x:Option AV}:(akv J x).low=J.low:=by
 unfold akv an1;split
 ·split<;>rfl
 ·rfl
theorem aEi{x:Option AV}:(akv J x).df=J.df:=by
 unfold akv an1;split
 ·split<;>rfl
 ·rfl
def aGT:(∀l n,akv J (some (.mE l n))=an1 J l J.heap[l]?):=fun _ _=>rfl
def aGU:(∀sz rows,an1 J l (some (.mE false sz rows))={J with heap:=J.heap.set l (.mE true sz rows)})/\(∀sz rows,an1 J l (some (.mE true sz rows))=J):=⟨fun _ _=>rfl,fun _ _=>rfl⟩
end freeze
def fzX(l:Nat)(J:jX):Option kp->Option jX
 |some (.mE _ _ _)=>some (an1 J l J.heap[l]?)
 |_=>atd l J
def aGV{x:Option kp}(h:fzX l J x=some J'):Kr J J':=by
 unfold fzX at h
 grind [ax7,aBo]
def aph:List Nat->jX->Option jX
 |[],J=>some J
 |l::ls,J=>(fzX l J J.heap[l]?).bind (aph ls)
def aID:(∀i s r,fzX l J (some (.mE i s r))=some (an1 J l J.heap[l]?))/\(∀cs,fzX l J (some (.cells cs))=atd l J):=⟨fun _ _ _=>rfl,fun _=>rfl⟩
def atf:∀{ls:List Nat}{J J':jX},aph ls J=some J'->Kr J J'
 |[],J,J',h=>by grind [aph,Kr.refl]
 |l::ls,J,J',h=>by
  simp only[aph,dM]at h;obtain⟨J1,h1,h2⟩:=h;exact(aGV h1).trans (atf h2)
def agb:List (List Nat×List Nat)->List Nat->jX->Option jX
 |[],_,J=>some J
 |(q,ls)::t,p,J=>if p=q then aph ls J else agb t p J
def nn:∀(t:List (List Nat×List Nat))(p:List Nat)(J J':jX),agb t p J=some J'->Kr J J'
 |[],_,J,J',h=>by grind [agb,Kr.refl]
 |(q,ls)::t,p,J,J',h=>by
  simp only[agb]at h;split at h
  ·exact atf h
  ·exact nn t p J J' h
section aKQ
def cI(k:aMP):ZJ Int where
 enc n:=[.int k n]
 mL _ cs:=dI1 k cs
 ok H n cs x h:=by
  unfold dI1 at h
  grind [o9.cons,BF,o9.nil]
 nb _ _:=⟨trivial,trivial⟩
def cB:ZJ Bool where
 enc b:=[.bool b]
 mL _ cs:=dB1 cs
 ok H n cs x h:=by
  unfold dB1 at h
  grind [o9.cons,as9,o9.nil]
 nb _ _:=⟨trivial,trivial⟩
def cS:ZJ Str where
 enc s:=[.str (sb s)]
 mL _ cs:=dS1 cs
 ok H n cs x h:=by
  unfold dS1 at h
  grind [o9.cons,ahr,o9.nil]
 nb _ _:=⟨trivial,trivial⟩

def dL1(r:Row W)(H:List kp):List AV->Option (List W)
 |[c]=>dL r H c
 |_=>none
def cL(r:Row W):ZJ (List W) where
 enc xs:=[.lS false r.sz (mp r.enc xs)]
 mL:=dL1 r
 ok H n cs x h:=by
  unfold dL1 at h
  grind [o9.cons,Me,o9.nil]
 nb n xs:=⟨zz xs,trivial⟩
def dF1(f:aML):List AV->Option Unit
 |[c]=>dF f c
 |_=>none
def cF (f:aML):ZJ Unit where
 enc _:=[.func (.func f) [] []]
 mL _ cs:=dF1 f cs
 ok H n cs x h:=by
  unfold dF1 at h;split at h
  ·unfold dF at h;split at h
   ·split at h
    ·rename_i e;subst e;exact o9.cons (Co1.sub (Ma.refl _) ⟨trivial,trivial⟩) o9.nil
    ·cases h
   ·cases h
  ·cases h
 nb _ _:=⟨⟨trivial,trivial⟩,trivial⟩
def aKR{k:aMP}:(∀n,(cI k).enc n=[.int k n])/\∀H cs,(cI k).mL H cs=dI1 k cs:=⟨fun _=>rfl,fun _ _=>rfl⟩
def aKS:(∀n,cB.enc n=[.bool n])/\∀H cs,cB.mL H cs=dB1 cs:=⟨fun _=>rfl,fun _ _=>rfl⟩
def aKT:(∀n,cS.enc n=[.str (sb n)])/\∀H cs,cS.mL H cs=dS1 cs:=⟨fun _=>rfl,fun _ _=>rfl⟩
def aKU{r:Row W}:(∀n,(cL r).enc n=[.lS false r.sz (mp r.enc n)])/\∀H cs,(cL r).mL H cs=dL1 r H cs:=⟨fun _=>rfl,fun _ _=>rfl⟩
def aKV:(∀n,(cF f).enc n=[.func (.func f) [] []])/\∀H cs,(cF f).mL H cs=dF1 f cs:=⟨fun _=>rfl,fun _ _=>rfl⟩
def dP(c:ZJ W):AV->Option W
 |.pp cs=>c.mL [] cs
 |_=>none
def aIE{c:ZJ W}{x:W}(h:dP c v=some x):Ma v (.pp (c.enc x)):=by
 unfold dP at h;split at h
 ·exact Ma.pp (c.ok [] 0 _ _ h).qc.aDM
 ·cases h
def rI(c:ZJ W):Ty W where
 enc x:=.pp (c.enc x)
 mL _:=dP c
 ok H n v x h:=Co.sub (aIE h) (c.nb n x)
 nb n x:=c.nb n x
def aEj{c:ZJ W}{x:W}:(rI c).enc x=.pp (c.enc x):=rfl
def aEk{c:ZJ W}:(rI c).mL H v=dP c v:=rfl
def dK1(f:aML)(a:Ty W):AV->Option W
 |.func (.func g) [] [x]=>if g=f then a.mL [] x else none
 |_=>none
def dK2(f:aML)(a:Ty W)(b:Ty O):AV->Option (W×O)
 |.func (.func g) [] [x,y]=>if g=f then(a.mL [] x).bind fun u=>(b.mL [] y).bind fun v=>some (u,v)else none
 |_=>none
def dK3(f:aML)(a:Ty W)(b:Ty O)(c:Ty γ):AV->Option (W×O×γ)
 |.func (.func g) [] [x,y,z]=>if g=f then(a.mL [] x).bind fun u=>(b.mL [] y).bind fun v=>(c.mL [] z).bind fun w=>some (u,v,w)else none
 |_=>none
def atg(f:aML)(a:Ty W):Ty W where
 enc x:=.func (.func f) [] [a.enc x]
 mL _:=dK1 f a
 ok H n v x h:=by
  unfold dK1 at h;split at h
  ·split at h
   ·rename_i e;subst e;exact Co.sub (Ma.func qX.nil (qX.cons (a.ok [] 0 _ _ h).qc qX.nil)) ⟨trivial,a.nb n x,trivial⟩
   ·cases h
  ·cases h
 nb n x:=⟨trivial,a.nb n x,trivial⟩
def aIF(f:aML)(a:Ty W)(b:Ty O):Ty (W×O) where
 enc x:=.func (.func f) [] [a.enc x.1,b.enc x.2]
 mL _:=dK2 f a b
 ok H n v x h:=by
  unfold dK2 at h;split at h
  ·split at h
   ·rename_i e;subst e;simp only[dM,dN]at h;obtain⟨u,hu,w,hw,rfl⟩:=h;exact Co.sub (Ma.func qX.nil (qX.cons (a.ok [] 0 _ _ hu).qc (qX.cons (b.ok [] 0 _ _ hw).qc qX.nil))) ⟨trivial,a.nb n u,b.nb n w,trivial⟩
   ·cases h
  ·cases h
 nb n x:=⟨trivial,a.nb n _,b.nb n _,trivial⟩
def aIG(f:aML)(a:Ty W)(b:Ty O)(c:Ty γ):Ty (W×O×γ) where
 enc x:=.func (.func f) [] [a.enc x.1,b.enc x.2.1,c.enc x.2.2]
 mL _:=dK3 f a b c
 ok H n v x h:=by
  unfold dK3 at h;split at h
  ·split at h
   ·rename_i e;subst e;simp only[dM,dN]at h;obtain⟨u,hu,w,hw,p,hp,rfl⟩:=h;exact Co.sub (Ma.func qX.nil (qX.cons (a.ok [] 0 _ _ hu).qc (qX.cons (b.ok [] 0 _ _ hw).qc (qX.cons (c.ok [] 0 _ _ hp).qc qX.nil)))) ⟨trivial,a.nb n u,b.nb n w,c.nb n p,trivial⟩
   ·cases h
  ·cases h
 nb n x:=⟨trivial,a.nb n _,b.nb n _,c.nb n _,trivial⟩
def aGW{a:Ty W}:(∀x,(atg f a).enc x=.func (.func f) [] [a.enc x])/\∀H v,(atg f a).mL H v=dK1 f a v:=⟨fun _=>rfl,fun _ _=>rfl⟩
def aGX{a:Ty W}{b:Ty O}:(∀x,(aIF f a b).enc x=.func (.func f) [] [a.enc x.1,b.enc x.2])/\∀H v,(aIF f a b).mL H v=dK2 f a b v:=⟨fun _=>rfl,fun _ _=>rfl⟩
def aGY{a:Ty W}{b:Ty O}{c:Ty γ}:(∀x,(aIG f a b c).enc x=.func (.func f) [] [a.enc x.1,b.enc x.2.1,c.enc x.2.2])/\∀H v,(aIG f a b c).mL H v=dK3 f a b c v:=⟨fun _=>rfl,fun _ _=>rfl⟩
end aKQ
section sF

structure OTy(W:Type) where
 enc:W->kp
 mL:List kp->kp->Option W
 ok:∀H n x y,mL H x=some y->Qz H n x (enc y)
 qC:∀τ y,(enc y).qC τ=enc y
 nb:∀n y,sj n (enc y)
def daT(vA:Bool)(r:Row W):kp->Option (List W)
 |.mE aKW sz rows=>if aKW=vA/\sz=r.sz then so r.mL rows else none
 |_=>none
def oaT(vA:Bool)(r:Row W):OTy (List W) where
 enc xs:=.mE vA r.sz (mp r.enc xs)
 mL _:=daT vA r
 ok H n x y h:=by
  unfold daT at h;split at h
  ·split at h
   ·rename_i hc;obtain⟨rfl,rfl⟩:=hc;exact .inr (.inr (.inr (.inl ⟨_,_,_,_,rfl,rfl,(Nc h).2,zz y⟩)))
   ·cases h
  ·cases h
 qC τ y:=by grind [kp.qC,uM,zz]
 nb n y:=zz y
def dcT(c:ZJ W)(H:List kp):kp->Option W
 |.cells cs=>c.mL H cs
 |_=>none
def lA(c:ZJ W):OTy W where
 enc x:=.cells (c.enc x)
 mL:=dcT c
 ok H n x y h:=by
  unfold dcT at h;split at h
  ·exact .inr (.inr (.inl ⟨_,_,rfl,rfl,(c.ok H n _ _ h).aBf⟩))
  ·cases h
 qC τ y:=by simp only[kp.qC];rw[sG τ _ (c.nb 0 y)]
 nb n y:=c.nb n y
def aIH{vA:Bool}{r:Row W}:(∀x,(oaT vA r).enc x=.mE vA r.sz (mp r.enc x))/\∀H x,(oaT vA r).mL H x=daT vA r x:=⟨fun _=>rfl,fun _ _=>rfl⟩
def aII{c:ZJ W}:(∀x,(lA c).enc x=.cells (c.enc x))/\∀H x,(lA c).mL H x=dcT c H x:=⟨fun _=>rfl,fun _ _=>rfl⟩
structure ZK(O:Type) where
 enc:O->List kp
 mL:List kp->List kp->Option O
 ok:∀H n xs b,mL H xs=some b->CoH H n xs (enc b)/\(enc b).length=xs.length
 qC:∀τ b,∀y∈enc b,y.qC τ=y
 nb:∀n b,∀y∈enc b,sj n y
def li:ZK Unit where
 enc _:=[]
 mL _
  |[]=>some ()
  |_=>none
 ok H n xs b h:=by
  grind [CoH.nil]
 qC _ _:=by simp
 nb _ _:=by simp
def aEl(o:OTy γ)(s:ZK O)(H:List kp):List kp->Option (γ×O)
 |x::xs=>(o.mL H x).bind fun y=>(s.mL H xs).bind fun b=>some (y,b)
 |[]=>none
def lm(o:OTy γ)(s:ZK O):ZK (γ×O) where
 enc b:=o.enc b.1::s.enc b.2
 mL:=aEl o s
 ok H n xs b h:=by
  unfold aEl at h;split at h
  ·simp only[dM,dN]at h;obtain⟨y,hy,b,hb,rfl⟩:=h;obtain⟨h1,h2⟩:=s.ok H n _ _ hb;exact⟨⟨o.ok H n _ _ hy,h1⟩,by simp [h2]⟩
  ·cases h
 qC τ b y hy:=by
  simp only[ez]at hy;rcases hy with rfl|hy
  ·exact o.qC τ _
  ·exact s.qC τ _ y hy
 nb n b y hy:=by
  simp only[ez]at hy;rcases hy with rfl|hy
  ·exact o.nb n _
  ·exact s.nb n _ y hy
def aIJ:(∀b,li.enc b=[])/\∀H,li.mL H []=some ():=⟨fun _=>rfl,fun _=>rfl⟩
def aIK{o:OTy γ}{s:ZK O}:(∀b,(lm o s).enc b=o.enc b.1::s.enc b.2)/\∀H xs,(lm o s).mL H xs=aEl o s H xs:=⟨fun _=>rfl,fun _ _=>rfl⟩
structure HG(O W:Type) where
 enc:O->W->List AV
 mL:O->List kp->List AV->Option W
 lZ:Nat
 ok:∀b H n xs a,lZ<=n->mL b H xs=some a->Bf H n xs (enc b a)
def pd:HG O Unit where
 enc _ _:=[]
 mL _ _
  |[]=>some ()
  |_=>none
 lZ:=0
 ok b H n xs a _ h:=by
  grind [Bf.nil]
def aEm(t:Ty γ)(s:HG O W)(b:O)(H:List kp):List AV->Option (γ×W)
 |x::xs=>(t.mL H x).bind fun y=>(s.mL b H xs).bind fun a=>some (y,a)
 |[]=>none
def sr(t:Ty γ)(s:HG O W):HG O (γ×W) where
 enc b a:=t.enc a.1::s.enc b a.2
 mL:=aEm t s
 lZ:=s.lZ
 ok b H n xs a hn h:=by
  unfold aEm at h;split at h
  ·simp only[dM,dN]at h;obtain⟨y,hy,a,ha,rfl⟩:=h;exact Bf.cons (t.ok H n _ _ hy) (s.ok b H n _ _ hn ha)
  ·cases h
def aEn(k:Nat)(len:O->Nat)(s:HG O W)(b:O)(H:List kp):List AV->Option W
 |.mE l m::xs=>if l=k/\m=len b then s.mL b H xs else none
 |_=>none
def rsA(k:Nat)(len:O->Nat)(s:HG O W):HG O W where
 enc b a:=.mE k (len b)::s.enc b a
 mL:=aEn k len s
 lZ:=max (k+1) s.lZ
 ok b H n xs a hn h:=by
  unfold aEn at h;split at h
  ·split at h
   ·rename_i hc;obtain⟨rfl,rfl⟩:=hc;exact Bf.cons (Co.P8 (show _<n by omega)) (s.ok b H n _ _ (by omega) h)
   ·cases h
  ·cases h
def aIL:(∀(b:O) a,pd.enc b a=[])/\(∀(b:O) H,pd.mL b H []=some ())/\(pd:HG O Unit).lZ=0:=⟨fun _ _=>rfl,fun _ _=>rfl,rfl⟩
def aIM{t:Ty γ}{s:HG O W}:(∀b a,(sr t s).enc b a=t.enc a.1::s.enc b a.2)/\(∀b H xs,(sr t s).mL b H xs=aEm t s b H xs)/\(sr t s).lZ=s.lZ:=⟨fun _ _=>rfl,fun _ _ _=>rfl,rfl⟩
def aIN{len:O->Nat}{s:HG O W}:(∀b a,(rsA k len s).enc b a=.mE k (len b)::s.enc b a)/\(∀b H xs,(rsA k len s).mL b H xs=aEn k len s b H xs)/\(rsA k len s).lZ=max (k+1) s.lZ:=⟨fun _ _=>rfl,fun _ _ _=>rfl,rfl⟩
end sF
def n6:List AV->AV
 |[y]=>y
 |ys=>.Je ys
theorem CoH.take:∀{xs ys:List kp}(k:Nat),CoH H n (xs.take k) ys->CoH H n xs ys
 |_,[],_,_=>CoH.nil
 |[],_::_,k,h=>by cases k<;>exact h.elim
 |x::xs,y::ys,0,h=>h.elim
 |x::xs,y::ys,k+1,h=>⟨h.1,CoH.take k h.2⟩
section aKX

def agc(J J':jX):Prop:=∀(C:tg)(U:Nat->aMM)(tmps:Array aMM)(w:aMO),nr C U J {tmps,defers:=[]} w->∃U',nr C U' J' {tmps,defers:=[]} w
theorem Kr.e(h:Kr J J'):agc J J':=fun C U tmps w S=>h C U _ w S
theorem agc.trans {σ'':jX}(h:agc J J')(h':agc J' σ''):agc J σ'':=fun C U tmps w S=>
 let ⟨U',S'⟩:=h C U tmps w S
 h' C U' tmps w S'
def N6 {xs:List AV}(hx:AE P J' rs=some xs)(He:agc ⟨xs,J'.heap,J'.low,[]⟩ ⟨ys,H',J'.low,[]⟩):ai0 P rs (fun o EX=>o= .ret (n6 ys)/\EX=H') none J':=by
 have key:∃x,Pq P J' rs=some x/\∃r EX,af5 J' x r EX/\((uP.ret r)=.ret (n6 ys)/\EX=H'):=by
  have exp:∀(x:AV),(∀C U a w,nr C U J' a w->∀v,pO (C.env U J'.heap w) x v->∃vs:List aMM,kQ (C.env U J'.heap w) xs vs/\∀E,kQ E ys vs->pO E (n6 ys) v)->af5 J' x (n6 ys) H':=by
   intro x hx2 C U a w S v hv;obtain⟨vs,hvs,abr⟩:=hx2 C U a w S v hv;have S0:nr C U ⟨xs,J'.heap,J'.low,[]⟩ {tmps:=vs.toArray,defers:=[]} w:={S with kr:=by simpa using hvs,defers:=xj.nil};obtain⟨U',S1⟩:=He C U vs.toArray w S0;exact⟨U',{S1 with kr:=rfl,defers:=xj.nil},abr _ (by simpa using S1.kr)⟩
  unfold Pq;rw[hx]
  match xs,hx,exp with
  |[x],hx,exp=>
   refine⟨x,rfl,_,_,exp x ?_,rfl,rfl⟩;intro C U a w S v hv;refine⟨[v],⟨v,[],rfl,hv,rfl⟩,fun E hr=>?_⟩;have:=hr.length
   match ys,this,hr with
   |[y],_,⟨u,us,he,h1,h2⟩=>
    simp only[eu]at he;obtain⟨rfl,_⟩:=he;exact h1
  |[],hx,exp=>
   refine⟨.Je [],rfl,_,_,exp _ ?_,rfl,rfl⟩;rintro C U a w S v ⟨vs,rfl,hvs⟩;refine⟨vs.toList,hvs,fun E hr=>?_⟩;have h1:=hr.length;have h2:=hvs.length
   match ys,hr,h1 with
   |[],hr,_=>exact⟨vs,rfl,hr⟩
   |[_],hr,h1=>rw[h1]at h2;simp at h2
   |_::_::_,hr,h1=>rw[h1]at h2;simp at h2
  |x::x'::xs,hx,exp=>
   refine⟨.Je (x::x'::xs),rfl,_,_,exp _ ?_,rfl,rfl⟩;rintro C U a w S v ⟨vs,rfl,hvs⟩;refine⟨vs.toList,hvs,fun E hr=>?_⟩;have h1:=hr.length;have h2:=hvs.length
   match ys,hr,h1 with
   |[],hr,h1=>rw[h1]at h2;simp at h2
   |[_],hr,h1=>rw[h1]at h2;simp at h2
   |_::_::_,hr,_=>exact⟨vs,rfl,hr⟩
 exact key
def ath {y:AV}(He:agc ⟨[x],J'.heap,J'.low,[]⟩ ⟨[y],H',J'.low,[]⟩):ai0 P rs (fun o EX=>o=.panic y/\EX=H') (some x) J':=by
 refine⟨y,H',?_,rfl,rfl⟩;intro C U a w S v hv;have S0:nr C U ⟨[x],J'.heap,J'.low,[]⟩ {tmps:=[v].toArray,defers:=[]} w:={S with kr:=⟨v,[],rfl,hv,rfl⟩,defers:=xj.nil};obtain⟨U',S1⟩:=He C U _ w S0;obtain⟨u,us,he,h1,_⟩:=S1.kr;simp only[eu]at he;obtain⟨rfl,_⟩:=he;exact⟨U',{S1 with kr:=rfl,defers:=xj.nil},h1⟩
def ahv{fn:Func}{r:R}(G:Fh M)(hf:M.P.funcs[f]? =some fn)(hb:fn.body=some M.body)(wN:(fn.name != "runtime.NumGoroutine")=true)
 (Nb:xB H.length args) (IP:∀x∈H,sj H.length x) (hn:fn.ntmps=n) (Kg:fn.results=rs.toArray)
 (ai4:∀J,M.out J=some r->ahp M.P (ai0 M.P rs V) J.df none J) (aIO:∀x J,M.pT x J=some r->ahp M.P (ai0 M.P rs V) J.df (some x) J)
 (h:run M [.at []] {kr:=args++dO (n-args.length) .any,heap:=H,low:=H.length}=some r):Kk M.P f args H V:=by
 refine asG hf hb wN Nb IP hn Kg ?_;exact XX G h (fun J' hs=>⟨ai4 J' hs,ai4 J' hs⟩) aIO
def pq{fn:Func}{r:R}(G:Fh M)(hf:M.P.funcs[f]? =some fn)(hb:fn.body=some M.body)(wN:(fn.name != "runtime.NumGoroutine")=true)
 (Nb:xB H.length args) (IP:∀x∈H,sj H.length x) (hn:fn.ntmps=n) (Kg:fn.results=rs.toArray)
 (ai4:∀J,M.out J=some r->J.df=[]/\∃xs,AE M.P J rs=some xs/\agc ⟨xs,J.heap,J.low,[]⟩ ⟨ys,H',J.low,[]⟩)
 (h:run M [.at []] {kr:=args++dO (n-args.length) .any,heap:=H,low:=H.length}=some r) (hP:∀x J',M.pT x J'=none:=by intros;rfl):Kk M.P f args H (fun o EX=>o=.ret (n6 ys)/\EX=H'):=by
 refine ahv G hf hb wN Nb IP hn Kg (fun J' hs=>?_) (fun x J' hx=>by rw[hP x J']at hx;cases hx) h;obtain⟨hd,xs,hx,He⟩:=ai4 J' hs;rw[hd];exact N6 hx He
end aKX
section Fi

def Fi(P:aMN)(rs:List ResultVar)(os:ZK O)(s:HG O W)(low:Nat)(J:jX):Option (O×W):=
 (AE P J rs).bind fun xs=>(os.mL J.heap (J.heap.take low)).bind fun b=>(s.mL b J.heap xs).bind fun a=>bif (J.low==low)&&decide (s.lZ<=low)&&decide (low<=J.heap.length)&&J.df.isEmpty then some (b,a)else none
def rS{os:ZK O}{s:HG O W}{r:O×W}(h:Fi P rs os s low J=some r):
 J.df=[]/\∃xs,AE P J rs=some xs/\agc ⟨xs,J.heap,J.low,[]⟩ ⟨s.enc r.1 r.2,os.enc r.1,J.low,[]⟩:=by
 unfold Fi at h;simp only[dM]at h;obtain⟨xs,hx,b,hb,a,ha,h⟩:=h;cases hc:((J.low==low)&&decide (s.lZ<=low)&&decide (low<=J.heap.length)&&J.df.isEmpty)with
 |false=>simp [hc]at h
 |true=>
  simp only[hc,jK,dN]at h;subst h;simp only[dZ,beq_iff_eq,jP]at hc;obtain⟨⟨⟨h1,h2⟩,h3⟩,h4⟩:=hc;refine⟨by simpa using h4,xs,hx,Kr.e (al1.imp (J:=⟨xs,J.heap,J.low,[]⟩) (J':=⟨s.enc b a,os.enc b,J.low,[]⟩) ⟨⟨⟨rfl,?_⟩,rfl,abt⟩,?_,?_⟩)⟩
  ·obtain⟨_,h5⟩:=os.ok J.heap 0 _ _ hb
   grind
  ·show Bf J.heap (os.enc b).length xs (s.enc b a);obtain⟨_,h5⟩:=os.ok J.heap 0 _ _ hb;exact s.ok b J.heap _ xs a (by rw[h5,List.length_take];omega) ha
  ·show CoH J.heap (os.enc b).length J.heap (os.enc b);exact CoH.take low (os.ok J.heap _ _ _ hb).1
end Fi
section aBr
theorem amw:∀(ls:List Nat)(G:List kp)(ys:List kp)(l:Nat)(z:kp),l ∉ ls->(sH G ls ys).set l z=sH (G.set l z) ls ys
 |[],_,_,_,_,_=>by simp [sH]
 |_::_,_,[],_,_,_=>by simp [sH]
 |k::ls,G,y::ys,l,z,h=>by
  simp only[ez,not_or]at h;rw[sH,sH,amw ls _ ys l z h.2,List.set_comm _ _ (fun e=>h.1 e.symm)]
theorem UF:∀(ls:List Nat)(G:List kp)(ys ys':List kp),ls.Nodup->ls.length<=ys'.length->sH (sH G ls ys) ls ys'=sH G ls ys'
 |[],_,_,_,_,_=>by simp [sH]
 |_::_,_,_,[],_,h=>by simp at h
 |l::ls,G,[],y'::ys',hnd,h=>by simp [sH]
 |l::ls,G,y::ys,y'::ys',hnd,h=>by
  rw[List.nodup_cons]at hnd;simp only[ec,Nat.add_le_add_iff_right]at h;simp only[sH];rw[amw ls _ ys l y' hnd.1,List.set_set,UF ls _ ys ys' hnd.2 h]
def X4{H:List kp}{n:Nat}:∀{xs ys:List kp},(∀(k:Nat)(y:kp),ys[k]? =some y->∃x,xs[k]? =some x/\Qz H n x y)->CoH H n xs ys
 |_,[],_=>CoH.nil
 |[],y::ys,h=>by obtain⟨x,hx,_⟩:=h 0 y (by simp);simp at hx
 |x::xs,y::ys,h=>by
  obtain⟨x',hx,hc⟩:=h 0 y (by simp);simp at hx;subst hx;exact⟨hc,X4 fun k z hz=>by have:=h (k+1) z (by simpa using hz);simpa using this⟩
theorem Bf.append:∀{xs ys us vs:List AV},Bf H n xs ys->Bf H n us vs->Bf H n (xs++us) (ys++vs)
 |[],_,_,_,rfl,h=>h
 |_::_,_,_,_,⟨y,zs,rfl,h,hs⟩,h2=>⟨y,zs++_,rfl,h,Bf.append hs h2⟩
def aBr {QD:List AV}{r:AV}(hG:Kk P f args Ys (fun o H'=>o= .ret r/\H'=Ys'))(hnd:Y.Nodup)(hlen:Y.length=Ys.length)(aIP:Y.length<=Ys'.length)
 (IM:∀(i k:Nat),Y[i]? =some k->∃x y,J.heap[k]? =some x/\Ys[i]? =some y/\Qz J.heap J.heap.length x y) (SF:Bf J.heap J.heap.length QD (sO (oG Y J.heap.length) args))
 (aGv:∀y∈Ys++Ys',∀τ,y.qC τ=y):BE P f QD J (fun o H'=>o=.ret (r.qC (oG Y J.heap.length))/\H'=sH J.heap Y Ys'++Ys'.drop Y.length):=by
 refine⟨hG.1,fun C U a w hP S vs hr=>?_⟩
 let H1:=sH J.heap Y Ys
 have hl1:H1.length=J.heap.length:=xm _ _ _;have S0:nr C U ⟨J.kr++QD,J.heap,J.low,J.df⟩ {tmps:=a.tmps++vs,defers:=a.defers} w:={S with kr:=by simpa using S.kr.append hr,defers:=S.defers}
 have hat:∀(i k:Nat),Y[i]? =some k->∃x y,J.heap[k]? =some x/\Ys[i]? =some y/\Qz J.heap J.heap.length x y/\H1[k]? =some y:=by
  grind [V3]
 have hw:al1 ⟨J.kr++QD,J.heap,J.low,J.df⟩ ⟨J.kr++sO (oG Y J.heap.length) args,H1,J.low,J.df⟩:=by
  refine⟨⟨⟨rfl,by show J.low<=H1.length;rw[hl1];exact S.low.2⟩,rfl,by show avw H1.length J.df;rw[hl1];exact NT.nb S.defers.2.2⟩,?_,?_⟩
  ·show Bf J.heap H1.length _ _;rw[hl1];exact Bf.append (Bf.P8 (kQ.nb _ _ S.kr)) SF
  ·show CoH J.heap H1.length J.heap H1;rw[hl1];refine X4 fun k y hy=>?_
   by_cases hk:k∈Y
   ·grind [eo]
   ·have hy2:J.heap[k]? =some y:=by grind [Gv]
    exact⟨y,hy2,.inr (.inl ⟨rfl,V0 (S.sF k y hy2)⟩)⟩
 obtain⟨U',S1⟩:=hw.imp C U _ w S0;have hsl:=S1.kr;simp only[ep]at hsl;have hsz:a.tmps.toList.length=J.kr.length:=S.kr.length;have h1:=hsl.take J.kr.length;have h2:=hsl.drop J.kr.length;rw[dX rfl,dX hsz]at h1;rw[dY rfl,dY hsz]at h2;have S2:nr C U' {J with heap:=H1} a w:={S1 with kr:=h1,defers:=S1.defers}
 have xk:BE P f (sO (oG Y H1.length) args) {J with heap:=H1} (fun o H'=>o=.ret (r.qC (oG Y H1.length))/\H'=sH J.heap Y Ys'++Ys'.drop Y.length):=by
  refine aqr (J:={J with heap:=H1}) hG Y hlen hnd (qX.refl _) ?_ ?_
  ·grind
  ·rintro o H' ⟨rfl,rfl⟩;refine⟨rfl,?_⟩
   have hid:∀τ,H'.map (kp.qC τ)=H':=by
    intro τ;have:H'.map (kp.qC τ)=H'.map id:=ed fun y hy=>aGv y (List.mem_append.2 (.inr hy)) τ
    rw[this,List.map_id]
   grind [List.map_drop,wP,UF]
 rw[hl1]at xk;exact xk.2 C U' a w hP S2 vs h2
end aBr
section args

structure Ky(O W:Type) where
 enc:O->W->List AV
 mL:List Nat->O->List kp->List AV->Option W
 ok:∀Y b H xs a,mL Y b H xs=some a->Bf H H.length xs (sO (oG Y H.length) (enc b a))
def pG:Ky O Unit where
 enc _ _:=[]
 mL _ _ _
  |[]=>some ()
  |_=>none
 ok Y b H xs a h:=by
  split at h
  ·exact Bf.nil
  ·cases h
def aEo(t:Ty γ)(s:Ky O W)(Y:List Nat)(b:O)(H:List kp):List AV->Option (γ×W)
 |x::xs=>(t.mL H x).bind fun y=>(s.mL Y b H xs).bind fun a=>some (y,a)
 |[]=>none
def Ao(t:Ty γ)(s:Ky O W):Ky O (γ×W) where
 enc b a:=t.enc a.1::s.enc b a.2
 mL:=aEo t s
 ok Y b H xs a h:=by
  unfold aEo at h;split at h
  ·simp only[dM,dN]at h;obtain⟨y,hy,a,ha,rfl⟩:=h;refine Bf.cons ?_ (s.ok Y b H _ _ ha);rw[M9 _ _ (t.nb 0 y)];exact t.ok H _ _ _ hy
  ·cases h
def aEp(k:Nat)(s:Ky O W)(Y:List Nat)(b:O)(H:List kp):List AV->Option W
 |.ptr l off::xs=>if off=0/\Y[k]? =some l/\l<H.length then s.mL Y b H xs else none
 |_=>none
theorem api(h:Y[k]? =some l):oG Y n k=l:=by
 grind [oG]
def pS(k:Nat)(s:Ky O W):Ky O W where
 enc b a:=.ptr k 0::s.enc b a
 mL:=aEp k s
 ok Y b H xs a h:=by
  unfold aEp at h;split at h
  ·split at h
   ·rename_i hc;obtain⟨rfl,hc,hl⟩:=hc;refine Bf.cons ?_ (s.ok Y b H _ _ h);show Co H H.length _ (.ptr (oG Y H.length k) 0);rw[api hc];exact Co.P8 hl
   ·cases h
  ·cases h
def aEq(k:Nat)(len:O->Nat)(s:Ky O W)(Y:List Nat)(b:O)(H:List kp):List AV->Option W
 |.mE l m::xs=>if m=len b/\Y[k]? =some l/\l<H.length then s.mL Y b H xs else none
 |_=>none
def asA(k:Nat)(len:O->Nat)(s:Ky O W):Ky O W where
 enc b a:=.mE k (len b)::s.enc b a
 mL:=aEq k len s
 ok Y b H xs a h:=by
  unfold aEq at h;split at h
  ·split at h
   ·rename_i hc;obtain⟨rfl,hc,hl⟩:=hc;refine Bf.cons ?_ (s.ok Y b H _ _ h);show Co H H.length _ (.mE (oG Y H.length k) _);rw[api hc];exact Co.P8 hl
   ·cases h
  ·cases h
def aIQ:(∀(b:O) a,pG.enc b a=[])/\(∀Y (b:O) H,pG.mL Y b H []=some ()):=⟨fun _ _=>rfl,fun _ _ _=>rfl⟩
def aIR{t:Ty γ}{s:Ky O W}:(∀b a,(Ao t s).enc b a=t.enc a.1::s.enc b a.2)/\(∀Y b H xs,(Ao t s).mL Y b H xs=aEo t s Y b H xs):=⟨fun _ _=>rfl,fun _ _ _ _=>rfl⟩
def aIS{s:Ky O W}:(∀b a,(pS k s).enc b a=.ptr k 0::s.enc b a)/\(∀Y b H xs,(pS k s).mL Y b H xs=aEp k s Y b H xs):=⟨fun _ _=>rfl,fun _ _ _ _=>rfl⟩
def aIT{len:O->Nat}{s:Ky O W}:(∀b a,(asA k len s).enc b a=.mE k (len b)::s.enc b a)/\(∀Y b H xs,(asA k len s).mL Y b H xs=aEq k len s Y b H xs):=⟨fun _ _=>rfl,fun _ _ _ _=>rfl⟩
end args
def aBs:AV->Option Nat
 |.ptr l _=>some l
 |.mE l _=>some l
 |_=>none
def nameAt(args:List AV)(i:Nat):Option Nat:=(args[i]?).bind aBs
def IR:List Nat->Bool
 |[]=>true
 |x::xs=> !xs.contains x&&IR xs
theorem Qq:∀{xs:List Nat},IR xs=true->xs.Nodup
 |[],_=>List.nodup_nil
 |x::xs,h=>by
  simp only[IR,dZ,Bool.not_eq_true',List.contains_eq_mem,decide_eq_false_iff_not]at h;exact List.nodup_cons.2 ⟨h.1,Qq h.2⟩
def ajZ(H:List kp)(k:Nat):Option kp:=H[k]?
section nu

def nu(pos:List Nat)(os:ZK O)(as:Ky O W)(R5:ZK O')(rs:HG O' W')(F:O->W->Option (O'×W')):Ent:=fun args H=>
 (so (nameAt args) pos).bind fun Y=>bif IR Y then(so (ajZ H) Y).bind fun xs=>(os.mL H xs).bind fun b=>(as.mL Y b H args).bind fun a=>(F b a).bind fun r=>
   bif decide (Y.length<=(R5.enc r.1).length)then some ((n6 (rs.enc r.1 r.2)).qC (oG Y H.length),sH H Y (R5.enc r.1)++(R5.enc r.1).drop Y.length)else none else none
def V7{H:List kp}:∀{Y:List Nat}{xs:List kp},so (ajZ H) Y=some xs->Y.length=xs.length/\∀(i k:Nat),Y[i]? =some k->∃x,xs[i]? =some x/\H[k]? =some x
 |[],xs,h=>by grind [so]
 |k::Y,xs,h=>by
  simp only[so,dM,dN]at h;obtain⟨x,hx,ys,hys,rfl⟩:=h;obtain⟨h1,h2⟩:=V7 hys;refine⟨by simp [h1],fun i q hi=>?_⟩;cases i with
  |zero=>simp at hi;subst hi;exact⟨x,by simp,hx⟩
  |succ i=>grind
def kK{pos:List Nat}{os:ZK O}{as:Ky O W}{R5:ZK O'}{rs:HG O' W'}{F:O->W->Option (O'×W')}
 (h:∀b a r,F b a=some r->Kk P f (as.enc b a) (os.enc b) (fun o H'=>o=.ret (n6 (rs.enc r.1 r.2))/\H'=R5.enc r.1)):afa P f (nu pos os as R5 rs F):=by
 intro args J r H' he;unfold nu at he;simp only[dM]at he;obtain⟨Y,_,he⟩:=he;cases hnd:IR Y with
 |false=>simp [hnd]at he
 |true=>
  simp only[hnd,jK,dM]at he;obtain⟨xs,hxs,b,hb,a,ha,q,hq,he⟩:=he;cases hl:decide (Y.length<=(R5.enc q.1).length)with
  |false=>simp [hl]at he
  |true=>
   simp only[hl,jK,dN,dQ]at he;obtain⟨rfl,rfl⟩:=he;obtain⟨h1,h2⟩:=V7 hxs;obtain⟨h3,h4⟩:=os.ok J.heap J.heap.length _ _ hb;refine aBr (h b a q hq) (Qq hnd) (by rw[h1,h4]) (jO hl) ?_ (as.ok Y b J.heap _ _ ha) ?_
   ·intro i k hi;obtain⟨x,hx,VO⟩:=h2 i k hi;have me:i<(os.enc b).length:=by grind
    obtain⟨x2,hx2,hc⟩:=h3.get (dR me)
    grind
   ·intro y hy τ;rcases List.mem_append.1 hy with hy|hy
    ·exact os.qC τ _ y hy
    ·exact R5.qC τ _ y hy
end nu
abbrev aKY:=List AV->List kp->Option wO
section aGZ

def aGZ(as:Ky Unit W)(R5:ZK O')(rs:HG O' W')(F:W->Option (O'×W')):aKY:=fun args H=>
 nJ (xB 0 args) ((as.mL [] () [] args).bind fun a=>(F a).bind fun r=>bif (R5.enc r.1).isEmpty then none else some {val:=(n6 (rs.enc r.1 r.2)).qC (oG [] H.length),nw:=R5.enc r.1})
def mc:List Nat->aML->Bool
 |[],_=>false
 |g::t,f=>f==g||mc t f
def oS:∀(f:aML)(args:List AV)(J:jX)(e:wO),(fun _ _ _=>none:aML->List AV->List kp->Option wO) f args J.heap=some e->NY P f args J e:=by
 intro f args J e h;cases h
end aGZ
section aEr
variable {a:Act}
def abA{xs:List AV}{y:kp}(hl:H[l]? =some y)(HC:low<=l)(Nb:∀z∈H.take low,sj low z)(hy:sj low y)(hr:xB (low+1) (sO (XV low l) xs)):
 agc ⟨xs,H,low,[]⟩ ⟨sO (XV low l) xs,H.take low++[y],low,[]⟩:=by
 intro C U tmps w S;obtain⟨U',S',tP⟩:=avG (J:=⟨xs,H,low,[]⟩) (x:=.Je xs) hl HC Nb hy hr C U _ w S (.tuple tmps) ⟨tmps,rfl,S.kr⟩;obtain⟨vs,hv,rl⟩:=tP;simp only[Value.tuple.injEq]at hv;subst hv;exact⟨U',{S' with kr:=rl,defers:=xj.nil}⟩

def azf(P:aMN)(rs:List ResultVar)(j:Nat)(r:Row γ)(s:HG (List γ×Unit) W)(J:jX):Option ((List γ×Unit)×W):=
 bif J.df.isEmpty then(AE P J rs).bind fun xs=>aBt (akv (Fv j r.sz true ⟨xs,J.heap,0,[]⟩) (Fv j r.sz true ⟨xs,J.heap,0,[]⟩).kr[j]?) j r s J.low else none
where
 aBt (τ:jX) (j:Nat) (r:Row γ) (s:HG (List γ×Unit) W) (low:Nat):Option ((List γ×Unit)×W):=
  match τ.kr[j]? with
  |some (.mE l _)=>match τ.heap[l]? with
   |some y=>nJ (low=0/\sj 0 y/\xB 1 (sO (XV 0 l) τ.kr)) (((lm (oaT true r) li).mL [y] [y]).bind fun b=>(s.mL b [y] (sO (XV 0 l) τ.kr)).bind fun a=>bif decide (s.lZ<=1)then some (b,a)else none)
   |none=>none
  |_=>none
def aqF{r:Row γ}{s:HG (List γ×Unit) W}{q:(List γ×Unit)×W}(h:azf P rs j r s J=some q):
 J.df=[]/\∃xs,AE P J rs=some xs/\agc ⟨xs,J.heap,J.low,[]⟩ ⟨s.enc q.1 q.2,(lm (oaT true r) li).enc q.1,J.low,[]⟩:=by
 unfold azf at h;cases hd0:J.df with
 |cons p q=>rw[hd0]at h;cases h
 |nil=>
 rw[hd0]at h;simp only[ek,jK]at h;simp only[dM]at h;obtain⟨xs,hx,h⟩:=h;refine⟨rfl,xs,hx,?_⟩;unfold azf.aBt at h;split at h
 case h_2=>cases h
 rename_i l m hs;split at h
 case h_2=>cases h
 rename_i y hl;rw[mO]at h;obtain⟨⟨HC,h1,h2⟩,h⟩:=h;simp only[dM]at h;obtain⟨b,hb,a,ha,h⟩:=h;cases hd:decide (s.lZ<=1)with
 |false=>simp [hd]at h
 |true=>
  simp only[hd,jK,dN]at h;subst h;rw[HC];have i1:Kr ⟨xs,J.heap,0,[]⟩ (akv (Fv j r.sz true ⟨xs,J.heap,0,[]⟩) (Fv j r.sz true ⟨xs,J.heap,0,[]⟩).kr[j]?):=amu.trans aEh;have aIU:(akv (Fv j r.sz true ⟨xs,J.heap,0,[]⟩) (Fv j r.sz true ⟨xs,J.heap,0,[]⟩).kr[j]?).low=0:=by grind [aBq,Fv]
  have aKZ:(akv (Fv j r.sz true ⟨xs,J.heap,0,[]⟩) (Fv j r.sz true ⟨xs,J.heap,0,[]⟩).kr[j]?).df=[]:=by grind [aEi,Fv]
  generalize hτ:akv (Fv j r.sz true ⟨xs,J.heap,0,[]⟩) (Fv j r.sz true ⟨xs,J.heap,0,[]⟩).kr[j]? =τ at*;have i2:agc ⟨τ.kr,τ.heap,0,[]⟩ ⟨sO (XV 0 l) τ.kr,τ.heap.take 0++[y],0,[]⟩:=abA hl (eg _) (by simp) h1 h2;have e:τ=⟨τ.kr,τ.heap,0,[]⟩:=by cases τ;grind
  rw[e]at i1;refine(i1.e.trans i2).trans ?_;simp only[eG,eE];obtain⟨h5,h6⟩:=(lm (oaT true r) li).ok [y] 1 _ _ hb;refine Kr.e (al1.imp (J:=⟨sO (XV 0 l) τ.kr,[y],0,[]⟩) (J':=⟨s.enc b a,(lm (oaT true r) li).enc b,0,[]⟩) ⟨⟨⟨rfl,eg _⟩,rfl,abt⟩,?_,?_⟩)
  ·show Bf [y] ((lm (oaT true r) li).enc b).length _ _;rw[h6];exact s.ok b [y] 1 _ a (jO hd) ha
  grind
end aEr
def aqG(e e':Ent):Ent:=fun args H=>(e args H).or (e' args H)
section
variable {k:List Kt}
def awk{rest:List aMJ}{x}:wG M ky dst rest k J (.move x)=th M ky dst rest k J (XE M.P J (.move x)):=by rw[<-uj];rfl
def aqH{rest:List aMJ}{x}:wG M ky dst rest k J (.assign x)=th M ky dst rest k J (XE M.P J (.assign x)):=by rw[<-uj];rfl
def awl{rest:List aMJ}{c}{a}{b}:wG M ky dst rest k J (.pick c a b)=th M ky dst rest k J (XE M.P J (.pick c a b)):=by rw[<-uj];rfl
def ati{rest:List aMJ}{t}:wG M ky dst rest k J (.alloc t)=th M ky dst rest k J (XE M.P J (.alloc t)):=by rw[<-uj];rfl
def azg{rest:List aMJ}{t}{v}:wG M ky dst rest k J (.box t v)=th M ky dst rest k J (XE M.P J (.box t v)):=by rw[<-uj];rfl
def atj{rest:List aMJ}{t}{ps}:wG M ky dst rest k J (.build t ps)=th M ky dst rest k J (XE M.P J (.build t ps)):=by rw[<-uj];rfl
def ai5{rest:List aMJ}{t}{n}{ps}:wG M ky dst rest k J (.buildSlice t n ps)=th M ky dst rest k J (XE M.P J (.buildSlice t n ps)):=by rw[<-uj];rfl
def aqI{rest:List aMJ}{m}{a}{b}{c}:wG M ky dst rest k J (.insert m a b c)=th M ky dst rest k J (XE M.P J (.insert m a b c)):=by rw[<-uj];rfl
def awm{rest:List aMJ}{t}{a}:wG M ky dst rest k J (.load t a)=th M ky dst rest k J (XE M.P J (.load t a)):=by rw[<-uj];rfl
def atk{rest:List aMJ}{t}{a}{v}:wG M ky dst rest k J (.store t a v)=th M ky dst rest k J (XE M.P J (.store t a v)):=by rw[<-uj];rfl
def amx{rest:List aMJ}{x}:wG M ky dst rest k J (.nilCheck x)=th M ky dst rest k J (XE M.P J (.nilCheck x)):=by rw[<-uj];rfl
def atl{rest:List aMJ}{o}{t}{x}{y}{u}:wG M ky dst rest k J (.binOp o t x y u)=th M ky dst rest k J (XE M.P J (.binOp o t x y u)):=by rw[<-uj];rfl
def awn{rest:List aMJ}{o}{t}{x}:wG M ky dst rest k J (.unOp o t x)=th M ky dst rest k J (XE M.P J (.unOp o t x)):=by rw[<-uj];rfl
def an2{rest:List aMJ}{s}{d}{x}:wG M ky dst rest k J (.convert s d x)=th M ky dst rest k J (XE M.P J (.convert s d x)):=by rw[<-uj];rfl
def aec{rest:List aMJ}{t}{x}:wG M ky dst rest k J (.makeInterface t x)=th M ky dst rest k J (XE M.P J (.makeInterface t x)):=by rw[<-uj];rfl
def amy{rest:List aMJ}{f}{a}{b}:wG M ky dst rest k J (.makeFunc f a b)=th M ky dst rest k J (XE M.P J (.makeFunc f a b)):=by rw[<-uj];rfl
def an3{rest:List aMJ}{t}{r}:wG M ky dst rest k J (.makeMap t r)=th M ky dst rest k J (XE M.P J (.makeMap t r)):=by rw[<-uj];rfl
def akw{rest:List aMJ}{t}{l}{c}:wG M ky dst rest k J (.makeSlice t l c)=th M ky dst rest k J (XE M.P J (.makeSlice t l c)):=by rw[<-uj];rfl
def atm{rest:List aMJ}{t}{x}{l}{h}{m}:wG M ky dst rest k J (.slice t x l h m)=th M ky dst rest k J (XE M.P J (.slice t x l h m)):=by rw[<-uj];rfl
def akx{rest:List aMJ}{t}{x}{f}:wG M ky dst rest k J (.fieldAddr t x f)=th M ky dst rest k J (XE M.P J (.fieldAddr t x f)):=by rw[<-uj];rfl
def atn{rest:List aMJ}{t}{x}{f}:wG M ky dst rest k J (.field t x f)=th M ky dst rest k J (XE M.P J (.field t x f)):=by rw[<-uj];rfl
def aky{rest:List aMJ}{t}{x}{i}:wG M ky dst rest k J (.indexAddr t x i)=th M ky dst rest k J (XE M.P J (.indexAddr t x i)):=by rw[<-uj];rfl
def ato{rest:List aMJ}{t}{x}{i}:wG M ky dst rest k J (.index t x i)=th M ky dst rest k J (XE M.P J (.index t x i)):=by rw[<-uj];rfl
def aqJ{rest:List aMJ}{t}{x}{i}{b}:wG M ky dst rest k J (.lookup t x i b)=th M ky dst rest k J (XE M.P J (.lookup t x i b)):=by rw[<-uj];rfl
def akz{rest:List aMJ}{t}{m}{kk}{v}:wG M ky dst rest k J (.mapUpdate t m kk v)=th M ky dst rest k J (XE M.P J (.mapUpdate t m kk v)):=by rw[<-uj];rfl
def atp{rest:List aMJ}{t}{x}:wG M ky dst rest k J (.range t x)=th M ky dst rest k J (XE M.P J (.range t x)):=by rw[<-uj];rfl
def awo{rest:List aMJ}{i}{b}:wG M ky dst rest k J (.next i b)=th M ky dst rest k J (XE M.P J (.next i b)):=by rw[<-uj];rfl
def ai6{rest:List aMJ}{x}{t}{u}{b}:wG M ky dst rest k J (.typeAssert x t u b)=th M ky dst rest k J (XE M.P J (.typeAssert x t u b)):=by rw[<-uj];rfl
def an4{rest:List aMJ}{t}{i}:wG M ky dst rest k J (.extract t i)=th M ky dst rest k J (XE M.P J (.extract t i)):=by rw[<-uj];rfl
def awq{rest:List aMJ}{c}:wG M ky dst rest k J (.call c)=th M ky dst rest k J (XE M.P J (.call c)):=by rw[<-uj];rfl
def atq{rest:List aMJ}{c:Call}:wG M ky dst rest k J (.defer c)=ax0 M ky dst rest k J (Gu J (.defer c)):=rfl
def atr{rest:List aMJ}{x:Operand}:wG M ky dst rest k J (.panic x)=ax1 M k J (VV J (.panic x)):=rfl
def amz{a:W}{x:Option R}:nJ (a=a) x=x:=by simp [nJ]
def awr{rest:List aMJ}:af9 M p o rest j tr k J none=Ch M p o.dst rest j tr k J (XE M.P J o.op):=by rw[<-uj];rfl
end
section
variable {k:List Kt}
def aws{rest:List aMJ}{x y:Option wO}:th M ky dst rest k J (bif b then x else y)=bif b then th M ky dst rest k J x else th M ky dst rest k J y:=by cases b<;>rfl
def awt{rest:List aMJ}{x y:Option (AV×List kp)}:QF M ky dst rest k J (bif b then x else y)=bif b then QF M ky dst rest k J x else QF M ky dst rest k J y:=by cases b<;>rfl
end
def aBu:undef=.tuple #[]:=rfl
def azh:(¬ True)=False:=by simp
def awu(n:Nat):(0<=(n:Int))=True:=by simp
def att:((0:Int)<=0)=True:=by simp
def azi{x y:W}:(bif !b then x else y)=bif b then y else x:=by cases b<;>rfl
def azj{x:W}:(bif b then x else x)=x:=by cases b<;>rfl
def aG0:(b==true)=b:=by cases b<;>rfl
def aG1:(b==false)= !b:=by cases b<;>rfl
def azk{p:Prop}[Decidable p]{a b:Option W}{f:W->Option O}:(if p then a else b).bind f=bif decide p then a.bind f else b.bind f:=by
 by_cases h:p<;>simp [h]
def aG2(f:W->O)(xs:List W)(i:Nat):(mp f xs)[i]? =eN f xs[i]? :=by rw[tQ,List.getElem?_map]
def aG3(f:W->O)(xs:List W)(i:Nat)(x:W):(mp f xs).set i (f x)=mp f (xs.set i x):=by rw[tQ,tQ,List.map_set]
def awv {b:Nat}{x:Option R}:nJ (room a b) x=bif decide (a*b<=17592186044416)then x else none:=by
 unfold room;exact apa
def azl{a b:Int}{x:Option R}:nJ (a<b) x=bif decide (a<b)then x else none:=apa
theorem SK(s:Str):(sb s).size=s.length:=by simp [sb,ByteArray.size]
def aBv(s:Str)(i:Nat):(sb s)[i]? =s[i]? :=by
 by_cases h:i<s.length
 ·have h':i<(sb s).size:=by rw[SK];exact h
  rw[dR h,getElem?_pos (sb s) i h'];rfl
 grind [SK]
def aG4(s:Str)(n:Int):aEe (sb s) n=sQ s n:=by
 simp only[aEe,aBv];rfl
theorem V8(s:Str):(sb s).toList=s:=by
 rw[ByteArray.toList_eq];rfl
def aww(s:Str)(a b:Nat):(sb s).extract a b=sb ((s.take b).drop a):=by
 apply ByteArray.ext
 grind [sb,ByteArray.data_extract,List.drop_take]
def aBw:ByteArray.empty=sb []:=rfl
def azm:(⟨#[]⟩:ByteArray)=sb []:=rfl
def aG5(l:List UInt8):(⟨l.toArray⟩:ByteArray)=sb l:=rfl
attribute [go_sem] aDF aDG asH aqv vI avK avL asO aqx aGB avQ aqy avR ay1 avS asR avT avU asU asV ay2 asS avO asK asL asM avM ayZ avN aBa asI aIz aGD aGE ai1 avI stP V4 amz alm aGF aDI aBb avV asX avW av2 av3 av4 awk aqH awl ati azg atj ai5 aqI awm atk amx atl awn an2 aec amy an3 akw atm akx atn aky ato aqJ akz atp awo ai6 an4 awq atq atr ay5 ay6 avX avY avZ av0 av1 aqw Gu VV jX.dfr atc awc awd as0 as1 QB ay8 Gt av5 av6 av7 ay7 av8 amm av9 asY aqz asZ awr as2 as3 as4 awf as5 as6 as7 aws awt sub ahq amb vB avE adM awv azl
attribute [go_sem low] avP ay3 awb
attribute [go_sem] aBc aza ajX azb awh azc awi vJ aDL Qo aDJ aDK aG2 aG3 azk awg azd aBd aBe IQ dL aDN aDO V5 Nd Gw aBg aze aDP aDQ aDR aDS aDT aDU aGH aDV aDW dI1 dB1 dS1 aGL aGM aGN aga Ft dC aDX aDY aDZ aD0 d2 d3 d4 d5 aD1 aD2 aD3 aD4 aD5 aD6 aD7 aD8 nT ata mD rL X1 aD9 atb nG ni N5 aKI aKJ aKK aKH dLt aku aKL aKM aKN aKO aKP awj aEb Fv ax5 aqD aqE aGR qF aGP aBl aGQ aBm ixA ixS ldA ldV vwL stA XE azi azj aG0 aG1 SK aG4 aBv V8 aww aBw azm aG5 alJ ixP aBn aDi axG adI aGT aGU aID aGZ mc atd aph agb rp1 rpV rpO aKR aKS aKT aKU aKV dL1 dF1 dP aEj aEk dK1 dK2 dK3 aGW aGX aGY daT dcT aIH aII aIJ aIK aEl aIL aIM aEm aIN aEn n6 Fi aIQ aIR aEo aIS aEp aIT aEq aBs nameAt IR ajZ nu aqG Option.or_none Option.none_or azf azf.aBt sH oG AV.qC sO Fg XV qE nF lC jX.ev jX.put mN AV.pL XF XI XJ aoT af1 aoV aiL eqB eq1 BC adG ag1 XK VS aoW M2 Pq AE al9 frz al2 aBu List.all_cons List.all_nil Bool.and_true Bool.true_and Bool.and_false Bool.false_and jQ if_false List.getD_cons_zero List.getD_cons_succ ec List.length_nil dO List.cons_append eE List.set_cons_zero List.set_cons_succ reduceCtorEq and_true true_and List.append_nil Nat.zero_add eB eD List.getElem?_nil Option.bind_some List.drop_zero List.drop_succ_cons List.drop_nil List.take_succ_cons eG List.take_nil ne_eq azh Option.isSome_some Option.isSome_none Option.isNone_some Option.isNone_none List.map_cons List.map_nil List.getElem?_toArray Bool.not_true Bool.not_false jK jL Int.toNat_natCast awu att true_or or_true and_self false_or or_false List.length_map List.set_nil decide_true decide_false Bool.not_not and_false false_and List.length_append List.length_set List.length_replicate beq_self_eq_true awa tA avJ wO.idle Na Ce Ji List.contains_cons List.contains_nil ek List.isEmpty_cons Bool.or_false Bool.false_or Bool.or_true Bool.true_or dW Bool.false_eq_true Int.cast_ofNat_Int Int.toNat_zero Int.toNat_one List.flatten_cons List.flatten_nil eu Option.map_some Option.map_none
def amA{n:Nat}:∀{a b:List (List AV)},Qv n (a++b)=(Qv n a/\Qv n b)
 |[],_=>by simp [Qv]
 |x::a,b=>by simp [Qv,amA (a:=a),and_assoc]
def atu{c:AV}:l8 false n (c::cs)=some c:=rfl
def atv{c:AV}:l8 true n (c::cs)=if n<=(c::cs).length then some (.agg ((c::cs).take n))else none:=rfl
def atw{c:AV}:cellsOf (.agg (c::cs))=if (c::cs).all AV.pL then some (c::cs)else none:=rfl
def atx:(∀b,cellsOf (.bool b)=some [.bool b])/\(∀k n,cellsOf (.int k n)=some [.int k n])/\(∀s,cellsOf (.str s)=some [.str s])/\(∀t sz r,cellsOf (.lS t sz r)=some [.lS t sz r])/\
 (∀l n,cellsOf (.mE l n)=some [.mE l n])/\(∀a b c d e,cellsOf (.own a b c d e)=some [.own a b c d e])/\(∀a b,cellsOf (.ptr a b)=some [.ptr a b])/\(∀a,cellsOf (.map a)=some [.map a])/\
 (∀cs,cellsOf (.pp cs)=some [.pp cs])/\(∀fn f c,cellsOf (.func fn f c)=some [.func fn f c])/\(∀t x,cellsOf (.iface t x)=some [.iface t x])/\cellsOf (.uE .nilFunc)=some [.uE .nilFunc]/\cellsOf (.uE .nilIface)=some [.uE .nilIface]/\
 (∀a,cellsOf (.uE (.pointer a))=some [.uE (.pointer a)])/\(∀a,cellsOf (.uE (.map a))=some [.uE (.map a)]):=
 ⟨fun _=>rfl,fun _ _=>rfl,fun _=>rfl,fun _ _ _=>rfl,fun _ _=>rfl,fun _ _ _ _ _=>rfl,fun _ _=>rfl,fun _=>rfl,fun _=>rfl,fun _ _ _=>rfl,fun _ _=>rfl,rfl,rfl,fun _=>rfl,fun _=>rfl⟩
def awx{c:AV}{o:Nat}{xs:List AV}:uL (c::cs) o xs=(c::cs).take o++xs++(c::cs).drop (o+xs.length):=rfl
def awy {xs:List AV}(h:xs.length=cs.length):uL cs 0 xs=xs:=by
 grind [uL]
attribute [go_sem] atu atv atw atx awy
attribute [go_sem low] awx
attribute [go_sem] AV.nb xB Qv sj amA or_true
def amB(P:aMN):Nat->List Field->List AV->List AV->Prop
 |_,[],[],[]=>True
 |o,f::fs,c::cs,d::ds=>(f.name≠ "_" /\f.offset=o/\P.plainKey f.type=true/\(match c,d with
  |.int k _,.int k' _=>k=k'/\∃q,P.underlying f.type=some (.int q)
  |.bool _,.bool _=>P.underlying f.type=some .bool
  |.str _,.str _=>P.underlying f.type=some .string
  |_,_=>False))/\amB P (o+1) fs cs ds
 |_,_,_,_=>False
def afb{P:aMN}{E:D4}{vs us:Array aMM}{w:aMO}{d:Nat}:∀(fs:List Field)(o:Nat)(cs ds:List AV),amB P o fs cs ds->kQ E cs (vs.toList.drop o)->kQ E ds (us.toList.drop o)->
 (Op.eqFields (d+1) vs us fs).run P w=.ok (eqB cs ds) w
 |[],_,[],[],_,_,_=>by simp [Op.eqFields,eqB]
 |[],_,_::_,_,h,_,_=>h.elim
 |[],_,[],_::_,h,_,_=>h.elim
 |_::_,_,[],_,h,_,_=>h.elim
 |_::_,_,_::_,[],h,_,_=>h.elim
 |f::fs,o,c::cs,e::ds,⟨⟨h1,h2,h3,h4⟩,h5⟩,r1,r2=>by
  obtain⟨u,us',e1,r1,r1'⟩:=r1;obtain⟨v,vs',e2,r2,r2'⟩:=r2
  have g1:vs[f.offset]? =some u:=by
   have:=congrArg (fun l:List aMM=>l[0]?) e1;rw[h2];simpa using this
  have g2:us[f.offset]? =some v:=by
   have:=congrArg (fun l:List aMM=>l[0]?) e2;rw[h2];simpa using this
  have t1:vs.toList.drop (o+1)=us':=by
   have:=congrArg List.tail e1;simpa using this
  have t2:us.toList.drop (o+1)=vs':=by
   have:=congrArg List.tail e2;simpa using this
  have ih:=afb (d:=d) (w:=w) fs (o+1) cs ds h5 (by rw[t1];exact r1') (by rw[t2];exact r2')
  have zu:(Op.equalIn (d+1) f.type u v).run P w=.ok (eq1 c e) w:=by
   cases c<;>cases e<;>try exact h4.elim
   ·cases r1;cases r2;exact run_equalIn_bool _ d f.type _ _ h4
   ·obtain⟨rfl,q,hq⟩:=h4;cases r1;cases r2;exact run_equalIn_int _ d f.type _ q _ _ hq
   ·cases r1;cases r2;exact run_equalIn_string _ d f.type _ _ h4
  simp only[Op.eqFields,h1,ne_eq,not_false_eq_true,jQ,Sem.run_bind,run_part_plain w h3 g1,run_part_plain w h3 g2,zu,Result.andThen_ok,eqB];cases eq1 c e
  ·simp
  ·simpa using ih
def awz{t:aMQ}{ds:List AV}(ht:P.underlying t=some (.struct (P.fieldsOf t)))(hp:P.stoodInHeld t=false)(hg:P.eqGuardType P.depth t=false)
 (hf:amB P 0 (P.fieldsOf t).toList cs ds):aoU P t cs ds:=by
 intro E vs us w x y h1 h2
 have hq:(Op.equal t (.agg vs) (.agg us)).run P w=.ok (eqB cs ds) w:=by
  show(Op.equalIn (9999+1) t _ _).run P w=_;rw[run_equalIn_struct w 9999 t vs us ht hp];exact afb (d:=9998) _ 0 cs ds hf (by simpa using h1) (by simpa using h2)
 simp_all [eqGuard,binOp]
mutual
theorem adO{τ τ':Nat->Nat}{n:Nat}(h:∀l,l<n->τ l=τ' l):∀x:AV,x.nb n->x.qC τ=x.qC τ'
 |.agg cs,k|.Je cs,k|.pp cs,k=>by simp only[AV.qC];rw[Di h cs k]
 |.lS _ _ rows,k=>by simp only[AV.qC];rw[agd h rows k]
 |.mE l _,k|.own l _ _ _ _,k|.ptr l _,k|.map l,k=>by simp only[AV.qC];rw[h l k]
 |.func _ f c,k=>by simp only[AV.qC];rw[Di h f k.1,Di h c k.2]
 |.iface _ x,k=>by simp only[AV.qC];rw[adO h x k]
 |.any,_|.bool _,_|.int _ _,_|.str _,_|.uE _,_=>rfl
theorem Di{τ τ':Nat->Nat}{n:Nat}(h:∀l,l<n->τ l=τ' l):∀xs:List AV,xB n xs->sO τ xs=sO τ' xs
 |[],_=>rfl
 |x::xs,k=>by simp only[sO];rw[adO h x k.1,Di h xs k.2]
theorem agd{τ τ':Nat->Nat}{n:Nat}(h:∀l,l<n->τ l=τ' l):∀xs:List (List AV),Qv n xs->Fg τ xs=Fg τ' xs
 |[],_=>rfl
 |x::xs,k=>by simp only[Fg];rw[Di h x k.1,agd h xs k.2]
end
mutual
def aBx{τ:Nat->Nat}{n m:Nat}(h:∀l,l<n->τ l<m):∀x:AV,x.nb n->(x.qC τ).nb m
 |.agg cs,k|.Je cs,k|.pp cs,k=>X5 h cs k
 |.lS _ _ rows,k=>ax8 h rows k
 |.mE l _,k|.own l _ _ _ _,k|.ptr l _,k|.map l,k=>h l k
 |.func _ f c,k=>⟨X5 h f k.1,X5 h c k.2⟩
 |.iface _ x,k=>aBx h x k
 |.any,_|.bool _,_|.int _ _,_|.str _,_|.uE _,_=>trivial
def X5{τ:Nat->Nat}{n m:Nat}(h:∀l,l<n->τ l<m):∀xs:List AV,xB n xs->xB m (sO τ xs)
 |[],_=>trivial
 |x::xs,k=>⟨aBx h x k.1,X5 h xs k.2⟩
def ax8{τ:Nat->Nat}{n m:Nat}(h:∀l,l<n->τ l<m):∀xs:List (List AV),Qv n xs->Qv m (Fg τ xs)
 |[],_=>trivial
 |x::xs,k=>⟨X5 h x k.1,ax8 h xs k.2⟩
end
theorem ahw {τ':Nat->Nat}(h:∀l,l<n->τ l=τ' l)(x:kp)(k:sj n x):x.qC τ=x.qC τ':=by
 cases x with
 |cells cs=>simp only[kp.qC];rw[Di h cs k]
 |mE vA sz rows=>simp only[kp.qC];rw[agd h rows k]
 |map es=>
  simp only[kp.qC];congr 1;refine ed fun p hp=>?_
  rw[adO h _ (k p hp).1,adO h _ (k p hp).2]
 |loop lk kr st uK=>simp only[kp.qC];rw[Di h kr k]
 |iter s p=>rfl
 |sU=>rfl
def Co1.X6 {y:AV}(h:Co1 [] n x y):Ma x y:=by
 rcases h with h|⟨l,m,sz,rows,_,h,_⟩
 ·exact h.1
 ·simp at h
def o9.X6:∀{xs ys:List AV},o9 [] n xs ys->qX xs ys
 |[],_,rfl=>qX.nil
 |_::_,_,⟨_,_,rfl,h,hs⟩=>qX.cons h.X6 hs.X6
def Co.X6 {y:AV}(h:Co [] n x y):Ma x y:=by
 rcases h with h|⟨cs,ds,rfl,rfl,h⟩
 ·exact h.X6
 ·rintro E v ⟨vs,rfl,hv⟩;exact⟨vs,rfl,h.X6 E _ hv⟩
def qX.func{f:Fn}{xs:List AV}(h:qX xs ys):Ma (.func f [] xs) (.func f [] ys):=by
 rintro E v ⟨a,b,rfl,h1,h2⟩;exact⟨a,b,rfl,h1,h E _ h2⟩
abbrev D8:=Nat->Nat
variable {L:D8}
def atN(Y:List Nat)(k:Nat):Nat:=Y.getD k 0
def Cov(Y:List Nat)(lZ n:Nat):Prop:=∀k,k<lZ->∃l,Y[k]? =some l/\l<n
def Cov.mono {b:Nat}(h:Cov Y b n)(k:a<=b):Cov Y a n:=fun i hi=>h i (by omega)
def Cov.lt(h:Cov Y a n):∀l,l<a->atN Y l<n:=by
 intro l hl;obtain⟨k,hk,hn⟩:=h l hl
 grind [atN]
theorem age(h:Y[k]? =some l):atN Y k=l:=by unfold atN;rw[List.getD,h];rfl
section aIV

structure VL(γ:Type) where
 enc:D8->γ->List AV
 mL:List Nat->D8->List AV->Option γ
 lZ:Nat
 nb:∀L g,xB lZ (enc L g)
 ok:∀Y L vs g,mL Y L vs=some g->qX vs (sO (atN Y) (enc L g))
def awA:List AV->Option Unit
 |[]=>some ()
 |_=>none
def vlN:VL Unit where
 enc _ _:=[]
 mL _ _:=awA
 lZ:=0
 nb _ _:=trivial
 ok Y L vs g h:=by
  unfold awA at h;split at h
  ·exact qX.nil
  ·cases h
def aEs(t:Ty γ)(s:VL δ)(Y:List Nat)(L:D8):List AV->Option (γ×δ)
 |x::xs=>(t.mL [] x).bind fun y=>(s.mL Y L xs).bind fun a=>some (y,a)
 |[]=>none
def vlT(t:Ty γ)(s:VL δ):VL (γ×δ) where
 enc L g:=t.enc g.1::s.enc L g.2
 mL:=aEs t s
 lZ:=s.lZ
 nb L g:=⟨t.nb _ _,s.nb L g.2⟩
 ok Y L vs g h:=by
  unfold aEs at h;split at h
  ·simp only[dM,dN]at h;obtain⟨y,hy,a,ha,rfl⟩:=h;refine qX.cons ?_ (s.ok Y L _ _ ha);rw[M9 _ _ (t.nb 0 y)];exact(t.ok [] 0 _ _ hy).X6
  ·cases h
def aEt(k:Nat)(s:VL δ)(Y:List Nat)(L:D8):List AV->Option δ
 |.ptr l off::xs=>bif decide (off=0/\Y[k]? =some l)then s.mL Y L xs else none
 |_=>none
def vlP (k:Nat) (s:VL δ):VL δ where
 enc L g:=.ptr k 0::s.enc L g
 mL:=aEt k s
 lZ:=max (k+1) s.lZ
 nb L g:=⟨show k<_ by omega,tB (by omega) _ (s.nb L g)⟩
 ok Y L vs g h:=by
  unfold aEt at h;split at h
  ·rename_i l off xs;cases hc:decide (off=0/\Y[k]? =some l)with
   |false=>simp [hc]at h
   |true=>
    simp only[hc,jK]at h;obtain⟨rfl,hc'⟩:=jO hc;refine qX.cons ?_ (s.ok Y L _ _ h)
    grind [AV.qC,age,Ma.refl]
  ·cases h
def aEu(k:Nat)(s:VL δ)(Y:List Nat)(L:D8):List AV->Option δ
 |.map l::xs=>bif decide (Y[k]? =some l)then s.mL Y L xs else none
 |_=>none
def vlM (k:Nat) (s:VL δ):VL δ where
 enc L g:=.map k::s.enc L g
 mL:=aEu k s
 lZ:=max (k+1) s.lZ
 nb L g:=⟨show k<_ by omega,tB (by omega) _ (s.nb L g)⟩
 ok Y L vs g h:=by
  unfold aEu at h;split at h
  ·rename_i l xs;cases hc:decide (Y[k]? =some l)with
   |false=>simp [hc]at h
   |true=>
    simp only[hc,jK]at h;have hc:=jO hc;refine qX.cons ?_ (s.ok Y L _ _ h)
    grind [AV.qC,age,Ma.refl]
  ·cases h
def aEv(f:aML)(c:VL γ)(s:VL δ)(Y:List Nat)(L:D8):List AV->Option (γ×δ)
 |.func (.func f') [] cs::xs=>bif decide (f'=f)then(c.mL Y L cs).bind fun y=>(s.mL Y L xs).bind fun a=>some (y,a)else none
 |_=>none
def vlF (f:aML) (c:VL γ) (s:VL δ):VL (γ×δ) where
 enc L g:=.func (.func f) [] (c.enc L g.1)::s.enc L g.2
 mL:=aEv f c s
 lZ:=max c.lZ s.lZ
 nb L g:=⟨⟨trivial,tB (by omega) _ (c.nb L g.1)⟩,tB (by omega) _ (s.nb L g.2)⟩
 ok Y L vs g h:=by
  unfold aEv at h;split at h
  ·rename_i f' cs xs;cases hc:decide (f'=f)with
   |false=>simp [hc]at h
   |true=>
    simp only[hc,jK,dM,dN]at h;obtain⟨y,hy,a,ha,rfl⟩:=h;obtain rfl:=jO hc;refine qX.cons ?_ (s.ok Y L _ _ ha);simp only[AV.qC,sO];exact(c.ok Y L _ _ hy).func
  ·cases h
def aIW:(∀L g,vlN.enc L g=[])/\∀Y L xs,vlN.mL Y L xs=awA xs:=⟨fun _ _=>rfl,fun _ _ _=>rfl⟩
def aIX{t:Ty γ}{s:VL δ}:(∀L g,(vlT t s).enc L g=t.enc g.1::s.enc L g.2)/\∀Y L xs,(vlT t s).mL Y L xs=aEs t s Y L xs:=⟨fun _ _=>rfl,fun _ _ _=>rfl⟩
def aIY{s:VL δ}:(∀L g,(vlP k s).enc L g=.ptr k 0::s.enc L g)/\∀Y L xs,(vlP k s).mL Y L xs=aEt k s Y L xs:=⟨fun _ _=>rfl,fun _ _ _=>rfl⟩
def aIZ{s:VL δ}:(∀L g,(vlM k s).enc L g=.map k::s.enc L g)/\∀Y L xs,(vlM k s).mL Y L xs=aEu k s Y L xs:=⟨fun _ _=>rfl,fun _ _ _=>rfl⟩
def aI0{c:VL γ}{s:VL δ}:(∀L g,(vlF f c s).enc L g=.func (.func f) [] (c.enc L g.1)::s.enc L g.2)/\∀Y L xs,(vlF f c s).mL Y L xs=aEv f c s Y L xs:=⟨fun _ _=>rfl,fun _ _ _=>rfl⟩
structure AL(γ:Type) where
 enc:D8->γ->List AV
 mL:List Nat->D8->List kp->List AV->Option γ
 lZ:Nat
 nb:∀L g,xB lZ (enc L g)
 ok:∀Y L H n vs g,Cov Y lZ n->mL Y L H vs=some g->Bf H n vs (sO (atN Y) (enc L g))
def k7:AL Unit where
 enc _ _:=[]
 mL _ _ _:=awA
 lZ:=0
 nb _ _:=trivial
 ok Y L H n vs g _ h:=by
  unfold awA at h;split at h
  ·exact Bf.nil
  ·cases h
def aEw(t:Ty γ)(s:AL δ)(Y:List Nat)(L:D8)(H:List kp):List AV->Option (γ×δ)
 |x::xs=>(t.mL H x).bind fun y=>(s.mL Y L H xs).bind fun a=>some (y,a)
 |[]=>none
def mH(t:Ty γ)(s:AL δ):AL (γ×δ) where
 enc L g:=t.enc g.1::s.enc L g.2
 mL:=aEw t s
 lZ:=s.lZ
 nb L g:=⟨t.nb _ _,s.nb L g.2⟩
 ok Y L H n vs g hc h:=by
  unfold aEw at h;split at h
  ·simp only[dM,dN]at h;obtain⟨y,hy,a,ha,rfl⟩:=h;refine Bf.cons ?_ (s.ok Y L H n _ _ hc ha);rw[M9 _ _ (t.nb 0 y)];exact t.ok H n _ _ hy
  ·cases h
def aEx(c:ZJ γ)(k:Nat)(s:AL δ)(Y:List Nat)(L:D8)(H:List kp)(xs:List AV):Option (γ×δ):=
 (c.mL H (xs.take k)).bind fun y=>(s.mL Y L H (xs.drop k)).bind fun a=>some (y,a)
def o9.ax9:∀{xs ys us vs:List AV},o9 H n xs ys->Bf H n us vs->Bf H n (xs++us) (ys++vs)
 |[],_,_,_,rfl,h=>h
 |_::_,_,_,_,⟨y,zs,rfl,h,hs⟩,h2=>⟨y,zs++_,rfl,.inl h,o9.ax9 hs h2⟩
def alC(c:ZJ γ)(k:Nat)(s:AL δ):AL (γ×δ) where
 enc L g:=c.enc g.1++s.enc L g.2
 mL:=aEx c k s
 lZ:=s.lZ
 nb L g:=M7 (c.nb _ _) (s.nb L g.2)
 ok Y L H n vs g hc h:=by
  unfold aEx at h;simp only[dM,dN]at h;obtain⟨y,hy,a,ha,rfl⟩:=h;rw[abu,sG _ _ (c.nb 0 y),<-eH k vs];exact o9.ax9 (c.ok H n _ _ hy) (s.ok Y L H n _ _ hc ha)
def aEy(k:Nat)(s:AL δ)(Y:List Nat)(L:D8)(H:List kp):List AV->Option δ
 |.ptr l off::xs=>bif decide (off=0/\Y[k]? =some l)then s.mL Y L H xs else none
 |_=>none
def my (k:Nat) (s:AL δ):AL δ where
 enc L g:=.ptr k 0::s.enc L g
 mL:=aEy k s
 lZ:=max (k+1) s.lZ
 nb L g:=⟨show k<_ by omega,tB (by omega) _ (s.nb L g)⟩
 ok Y L H n vs g hv h:=by
  unfold aEy at h;split at h
  ·rename_i l off xs;cases hc:decide (off=0/\Y[k]? =some l)with
   |false=>simp [hc]at h
   |true=>
    simp only[hc,jK]at h;obtain⟨rfl,hc'⟩:=jO hc;refine Bf.cons ?_ (s.ok Y L H n _ _ (hv.mono (by omega)) h);have hl:=hv.lt k (by omega);simp only[AV.qC];rw[age hc']at hl ⊢;exact Co.P8 hl
  ·cases h
def aEz(k:Nat)(s:AL δ)(Y:List Nat)(L:D8)(H:List kp):List AV->Option δ
 |.map l::xs=>bif decide (Y[k]? =some l)then s.mL Y L H xs else none
 |_=>none
def alM (k:Nat) (s:AL δ):AL δ where
 enc L g:=.map k::s.enc L g
 mL:=aEz k s
 lZ:=max (k+1) s.lZ
 nb L g:=⟨show k<_ by omega,tB (by omega) _ (s.nb L g)⟩
 ok Y L H n vs g hv h:=by
  unfold aEz at h;split at h
  ·rename_i l xs;cases hc:decide (Y[k]? =some l)with
   |false=>simp [hc]at h
   |true=>
    simp only[hc,jK]at h;have hc':=jO hc;refine Bf.cons ?_ (s.ok Y L H n _ _ (hv.mono (by omega)) h);have hl:=hv.lt k (by omega);simp only[AV.qC];rw[age hc']at hl ⊢;exact Co.P8 hl
  ·cases h
def aEA(k:Nat)(s:AL δ)(Y:List Nat)(L:D8)(H:List kp):List AV->Option δ
 |.mE l m::xs=>bif decide (m=L k/\Y[k]? =some l)then s.mL Y L H xs else none
 |_=>none
def alA (k:Nat) (s:AL δ):AL δ where
 enc L g:=.mE k (L k)::s.enc L g
 mL:=aEA k s
 lZ:=max (k+1) s.lZ
 nb L g:=⟨show k<_ by omega,tB (by omega) _ (s.nb L g)⟩
 ok Y L H n vs g hv h:=by
  unfold aEA at h;split at h
  ·rename_i l m xs;cases hc:decide (m=L k/\Y[k]? =some l)with
   |false=>simp [hc]at h
   |true=>
    simp only[hc,jK]at h;obtain⟨rfl,hc'⟩:=jO hc;refine Bf.cons ?_ (s.ok Y L H n _ _ (hv.mono (by omega)) h);have hl:=hv.lt k (by omega);simp only[AV.qC];rw[age hc']at hl ⊢;exact Co.P8 hl
  ·cases h
def aEB(f:aML)(c:VL γ)(s:AL δ)(Y:List Nat)(L:D8)(H:List kp):List AV->Option (γ×δ)
 |.func (.func f') [] cs::xs=>bif decide (f'=f)then(c.mL Y L cs).bind fun y=>(s.mL Y L H xs).bind fun a=>some (y,a)else none
 |_=>none
def alF (f:aML) (c:VL γ) (s:AL δ):AL (γ×δ) where
 enc L g:=.func (.func f) [] (c.enc L g.1)::s.enc L g.2
 mL:=aEB f c s
 lZ:=max c.lZ s.lZ
 nb L g:=⟨⟨trivial,tB (by omega) _ (c.nb L g.1)⟩,tB (by omega) _ (s.nb L g.2)⟩
 ok Y L H n vs g hv h:=by
  unfold aEB at h;split at h
  ·rename_i f' cs xs;cases hc:decide (f'=f)with
   |false=>simp [hc]at h
   |true=>
    simp only[hc,jK,dM,dN]at h;obtain⟨y,hy,a,ha,rfl⟩:=h;obtain rfl:=jO hc;refine Bf.cons ?_ (s.ok Y L H n _ _ (hv.mono (by omega)) ha);simp only[AV.qC,sO];exact Co.sub (c.ok Y L _ _ hy).func ⟨trivial,X5 (hv.mono (a:=c.lZ) (by omega)).lt _ (c.nb L y)⟩
  ·cases h
def aEC(s:AL δ)(Y:List Nat)(L:D8)(H:List kp):List AV->Option δ
 |_::xs=>s.mL Y L H xs
 |_=>none
def alZ(s:AL δ):AL δ where
 enc L g:=.any::s.enc L g
 mL:=aEC s
 lZ:=s.lZ
 nb L g:=⟨trivial,s.nb L g⟩
 ok Y L H n vs g hv h:=by
  unfold aEC at h;split at h
  ·exact Bf.cons Co.any (s.ok Y L H n _ _ hv h)
  ·cases h
def ahx:Nat->AL δ->AL δ
 |0,s=>s
 |n+1,s=>alZ (ahx n s)
def aI1:(∀L g,k7.enc L g=[])/\(∀Y L H xs,k7.mL Y L H xs=awA xs)/\k7.lZ=0:=⟨fun _ _=>rfl,fun _ _ _ _=>rfl,rfl⟩
def aI2{t:Ty γ}{s:AL δ}:(∀L g,(mH t s).enc L g=t.enc g.1::s.enc L g.2)/\(∀Y L H xs,(mH t s).mL Y L H xs=aEw t s Y L H xs)/\(mH t s).lZ=s.lZ:=⟨fun _ _=>rfl,fun _ _ _ _=>rfl,rfl⟩
def aI3{c:ZJ γ}{s:AL δ}:(∀L g,(alC c k s).enc L g=c.enc g.1++s.enc L g.2)/\(∀Y L H xs,(alC c k s).mL Y L H xs=aEx c k s Y L H xs)/\(alC c k s).lZ=s.lZ:=⟨fun _ _=>rfl,fun _ _ _ _=>rfl,rfl⟩
def aI4{s:AL δ}:(∀L g,(my k s).enc L g=.ptr k 0::s.enc L g)/\(∀Y L H xs,(my k s).mL Y L H xs=aEy k s Y L H xs)/\(my k s).lZ=max (k+1) s.lZ:=⟨fun _ _=>rfl,fun _ _ _ _=>rfl,rfl⟩
def aI5{s:AL δ}:(∀L g,(alM k s).enc L g=.map k::s.enc L g)/\(∀Y L H xs,(alM k s).mL Y L H xs=aEz k s Y L H xs)/\(alM k s).lZ=max (k+1) s.lZ:=⟨fun _ _=>rfl,fun _ _ _ _=>rfl,rfl⟩
def aI6{s:AL δ}:(∀L g,(alA k s).enc L g=.mE k (L k)::s.enc L g)/\(∀Y L H xs,(alA k s).mL Y L H xs=aEA k s Y L H xs)/\(alA k s).lZ=max (k+1) s.lZ:=⟨fun _ _=>rfl,fun _ _ _ _=>rfl,rfl⟩
def aI7{c:VL γ}{s:AL δ}:(∀L g,(alF f c s).enc L g=.func (.func f) [] (c.enc L g.1)::s.enc L g.2)/\(∀Y L H xs,(alF f c s).mL Y L H xs=aEB f c s Y L H xs)/\(alF f c s).lZ=max c.lZ s.lZ:=⟨fun _ _=>rfl,fun _ _ _ _=>rfl,rfl⟩
def aI8{s:AL δ}:(∀L g,(alZ s).enc L g=.any::s.enc L g)/\(∀Y L H xs,(alZ s).mL Y L H xs=aEC s Y L H xs)/\(alZ s).lZ=s.lZ:=⟨fun _ _=>rfl,fun _ _ _ _=>rfl,rfl⟩
end aIV
def Es {m:Nat}(h:n<=m)(x:kp)(k:sj n x):sj m x:=by
 cases x with
 |cells cs=>exact tB h _ k
 |mE vA sz rows=>exact aqa h _ k
 |map es=>exact fun p hp=>⟨AV.ajO h _ (k p hp).1,AV.ajO h _ (k p hp).2⟩
 |loop lk kr st uK=>exact tB h _ k
 |iter s p=>trivial
 |sU=>trivial
def awB(hlen:Y.length=Ys.length)(hnd:Y.Nodup)(hid:∀k,k<low->Y[k]? =some k)
 (hl:low<=Ys.length) (Nb:xB Ys.length ys) (IP:∀y∈Ys,sj Ys.length y)
 (IM:∀(i k:Nat)(y:kp),Y[i]? =some k->Ys[i]? =some y->H[k]? =some (y.qC (atN Y))):
 Kr ⟨sO (atN Y) ys,H,low,[]⟩ ⟨ys,Ys,low,[]⟩:=by
 intro C U a w S
 let U':Nat->aMM:=fun k=>U (atN Y k)
 have hρ:∀k,k<Ys.length->Y[k]? =some (atN Y k):=by
  grind [age]
 have Df:∀(k:Nat)(y:kp),Ys[k]? =some y->k<Ys.length/\H[atN Y k]? =some (y.qC (atN Y)):=by
  grind
 have aLC:∀k,k<low->atN Y k=k:=fun k hk=>age (hid k hk)
 have hinj:∀k k',k<Ys.length->k'<Ys.length->atN Y k=atN Y k'->k=k':=by
  intro k k' hk OZ he;have h1:=hρ k hk;have h2:=hρ k' OZ;rw[<-he]at h2;have e1:=ahn Y k _ hnd h1
  grind [ahn]
 have alH:∀b o,Sx U' Ys b o->Sx U H b o:=by
  rintro b o ⟨k,z,hz,hm⟩;exact⟨_,_,(Df k z hz).2,VZ.2 hm⟩
 have un:asp Ys.length (atN Y) (C.env U H w) (C.env U' Ys w):=by
  refine⟨dW _,fun k hk=>⟨rfl,?_⟩,fun b o u hm hc=>⟨fun h=>hm (h.imp (alH b o) id),hc⟩⟩;show nO Ys[k]? =nO H[atN Y k]?
  grind [Fm]
 have abg:xj C U' Ys w [] a.defers:=S.defers.axI (fun xs vs ⟨f,hf⟩ _=>(by cases hf)) (fun _ _ _=>rfl) (fun k z b hz hb=>.inl ⟨_,_,(Df k z hz).2,Cf.2 hb⟩);refine⟨U',{kr:=kQ.C6 un _ _ Nb S.kr,defers:=abg,sF:=?_,apart:=?_,Fj:=?_,size:=S.size,R3:=S.R3,tC:=S.tC,XG:=?_,Hz:=S.Hz,rest:=S.rest,low:=⟨S.low.1,hl⟩,oe:=?_}⟩
 ·intro k z hz;exact rz.C6 un (IP z (ew hz)) (fun _ _=>rfl) (S.sF _ _ (Df k z hz).2)
 ·intro k k' z z' b hz hz' hb Gs;refine hinj k k' (Df k z hz).1 (Df k' z' hz').1 (S.apart _ _ _ _ b (Df k z hz).2 (Df k' z' hz').2 (Cf.2 hb) (Cf.2 Gs))
 ·intro k z b o hz hb;exact S.Fj _ _ b o (Df k z hz).2 (Cf.2 hb)
 ·intro k z b o hz hm hb;exact S.XG _ _ b o (Df k z hz).2 (VZ.2 hm) hb
 ·intro k hk;have OZ:k<low:=by have:=S.low.1;simp only at this;omega
  have hn:=S.oe k hk
  grind [Fm]
section sF

structure OG(γ:Type) where
 enc:D8->γ->kp
 mL:List Nat->D8->List kp->kp->Option γ
 len:γ->Nat
 lZ:Nat
 nb:∀L g,sj lZ (enc L g)
 ok:∀Y L H n x g,Cov Y lZ n->mL Y L H x=some g->Qz H n x ((enc L g).qC (atN Y))
 amC:∀Y L H x g,mL Y L H x=some g->len g=(nO (some x)).getD 0
def aj0{W O:Type}{f:W->Option O}:∀{xs:List W}{ys:List O},so f xs=some ys->ys.length=xs.length
 |[],ys,h=>by grind [so]
 |x::xs,ys,h=>by
  simp only[so,dM,dN]at h;obtain⟨y,hy,zs,hz,rfl⟩:=h;simp [aj0 hz]
def ogA(vA:Bool)(r:Row W):OG (List W) where
 enc _ xs:=.mE vA r.sz (mp r.enc xs)
 mL _ _ _:=daT vA r
 len xs:=xs.length
 lZ:=0
 nb L g:=zz g
 ok Y L H n x g _ h:=by
  have:=(oaT vA r).ok H n x g h
  grind [oaT]
 amC Y L H x g h:=by
  unfold daT at h;split at h
  ·split at h
   ·exact aj0 h
   ·cases h
  ·cases h
def aBy(c:AL γ)(Y:List Nat)(L:D8)(H:List kp):kp->Option γ
 |.cells cs=>c.mL Y L H cs
 |_=>none
def VP(c:AL γ):OG γ where
 enc L g:=.cells (c.enc L g)
 mL:=aBy c
 len _:=0
 lZ:=c.lZ
 nb L g:=c.nb L g
 ok Y L H n x g hv h:=by
  unfold aBy at h;split at h
  ·exact .inr (.inr (.inl ⟨_,_,rfl,rfl,c.ok Y L H n _ _ hv h⟩))
  ·cases h
 amC Y L H x g h:=by
  unfold aBy at h;split at h
  ·rfl
  ·cases h
def aI9{vA:Bool}{r:Row W}:(∀L g,(ogA vA r).enc L g=.mE vA r.sz (mp r.enc g))/\(∀Y L H x,(ogA vA r).mL Y L H x=daT vA r x)/\(∀g,(ogA vA r).len g=g.length)/\(ogA vA r).lZ=0:=⟨fun _ _=>rfl,fun _ _ _ _=>rfl,fun _=>rfl,rfl⟩
def aJa{c:AL γ}:(∀L g,(VP c).enc L g=.cells (c.enc L g))/\(∀Y L H x,(VP c).mL Y L H x=aBy c Y L H x)/\(∀g,(VP c).len g=0)/\(VP c).lZ=c.lZ:=⟨fun _ _=>rfl,fun _ _ _ _=>rfl,fun _=>rfl,rfl⟩
structure OL(O:Type) where
 enc:D8->O->List kp
 mL:List Nat->D8->List kp->List kp->Option O
 mX:O->D8
 size:Nat
 lZ:Nat
 sz:∀L b,(enc L b).length=size
 nb:∀L b,∀y∈enc L b,sj lZ y
 ok:∀Y L H n xs b,Cov Y lZ n->mL Y L H xs=some b->xs.length=size/\∀(i:Nat)(y:kp),(enc L b)[i]? =some y->∃x,xs[i]? =some x/\Qz H n x (y.qC (atN Y))
 IQ:∀Y L H xs b,mL Y L H xs=some b->xs.length=size
 ai7:∀Y L H xs b,mL Y L H xs=some b->∀k,mX b k=(nO xs[k]?).getD 0
def azn:List kp->Option Unit
 |[]=>some ()
 |_=>none
def Fw:OL Unit where
 enc _ _:=[]
 mL _ _ _:=azn
 mX _ _:=0
 size:=0
 lZ:=0
 sz _ _:=rfl
 nb _ _:=by simp
 ok Y L H n xs b _ h:=by
  grind [azn]
 IQ Y L H xs b h:=by
  grind [azn]
 ai7 Y L H xs b h k:=by
  unfold azn at h;split at h
  ·rfl
  ·cases h
def azo(o:OG γ)(s:OL O)(Y:List Nat)(L:D8)(H:List kp):List kp->Option (γ×O)
 |x::xs=>(o.mL Y L H x).bind fun y=>(s.mL Y L H xs).bind fun b=>some (y,b)
 |[]=>none
def akA(a:Nat)(f:D8):D8
 |0=>a
 |k+1=>f k
def EY(o:OG γ)(s:OL O):OL (γ×O) where
 enc L b:=o.enc L b.1::s.enc L b.2
 mL:=azo o s
 mX b:=akA (o.len b.1) (s.mX b.2)
 size:=s.size+1
 lZ:=max o.lZ s.lZ
 sz L b:=by rw[ec,s.sz]
 nb L b y hy:=by
  simp only[ez]at hy;rcases hy with rfl|hy
  ·exact Es (by omega) _ (o.nb L _)
  ·exact Es (by omega) _ (s.nb L _ y hy)
 ok Y L H n xs b hv h:=by
  unfold azo at h;split at h
  ·rename_i x xs;simp only[dM,dN]at h;obtain⟨y,hy,b,hb,rfl⟩:=h;obtain⟨h1,h2⟩:=s.ok Y L H n _ _ (hv.mono (by omega)) hb;refine⟨by rw[ec,h1],fun i z hz=>?_⟩;cases i with
   |zero=>simp at hz;subst hz;exact⟨x,by simp,o.ok Y L H n _ _ (hv.mono (by omega)) hy⟩
   |succ i=>grind
  ·cases h
 IQ Y L H xs b h:=by
  unfold azo at h;split at h
  ·simp only[dM,dN]at h;obtain⟨y,hy,b,hb,rfl⟩:=h;rw[ec,s.IQ _ _ _ _ _ hb]
  ·cases h
 ai7 Y L H xs b h k:=by
  unfold azo at h;split at h
  ·simp only[dM,dN]at h;obtain⟨y,hy,b,hb,rfl⟩:=h;cases k with
   |zero=>simp only[akA,eB];exact o.amC Y L H _ _ hy
   |succ k=>simp only[akA,eD];exact s.ai7 Y L H _ _ hb k
  ·cases h
def aJb:(∀L b,Fw.enc L b=[])/\(∀Y L H xs,Fw.mL Y L H xs=azn xs)/\(∀b k,Fw.mX b k=0)/\Fw.size=0/\Fw.lZ=0:=⟨fun _ _=>rfl,fun _ _ _ _=>rfl,fun _ _=>rfl,rfl,rfl⟩
def aJc{o:OG γ}{s:OL O}:(∀L b,(EY o s).enc L b=o.enc L b.1::s.enc L b.2)/\(∀Y L H xs,(EY o s).mL Y L H xs=azo o s Y L H xs)/\(∀b,(EY o s).mX b=akA (o.len b.1) (s.mX b.2))/\(EY o s).size=s.size+1/\(EY o s).lZ=max o.lZ s.lZ:=⟨fun _ _=>rfl,fun _ _ _ _=>rfl,fun _=>rfl,rfl,rfl⟩
end sF
inductive R6 where
 |arg (i:Nat) (cs:List Nat)
 |Ci (k c:Nat) (cs:List Nat)
variable {p1:List R6}
def aBz:AV->Option Nat
 |.ptr l _=>some l
 |.mE l _=>some l
 |.map l=>some l
 |_=>none
def down:List Nat->AV->Option AV
 |[],v=>some v
 |i::is,.func _ [] cap=>match cap[i]? with
  |some u=>down is u
  |none=>none
 |i::is,.func _ (x::fs) cap=>match (x::(fs++cap))[i]? with
  |some u=>down is u
  |none=>none
 |_::_,_=>none
def aqK(c:Nat):Option kp->Option AV
 |some (.cells xs)=>xs[c]?
 |some (.loop _ xs _ _)=>xs[c]?
 |_=>none
def aJd(args:List AV)(H:List kp)(Y:List Nat):R6->Option Nat
 |.arg i cs=>(args[i]?).bind fun v=>(down cs v).bind aBz
 |.Ci k c cs=>(Y[k]?).bind fun l=>(aqK c H[l]?).bind fun v=>(down cs v).bind aBz
def an5(args:List AV)(H:List kp):List R6->List Nat->Option (List Nat)
 |[],Y=>some Y
 |p::ps,Y=>(aJd args H Y p).bind fun l=>an5 args H ps (Y++[l])
def amD{args:List AV}{H:List kp}:∀{ps:List R6}{Y Y':List Nat},an5 args H ps Y=some Y'->∃ls,Y'=Y++ls
 |[],Y,Y',h=>by simp_all [an5]
 |p::ps,Y,Y',h=>by
  simp only[an5,dM]at h;obtain⟨l,_,h⟩:=h;obtain⟨ls,hl⟩:=amD h
  grind
def ahy(xs:List kp)(k:Nat):Nat:=(nO xs[k]?).getD 0
def aBA(hT:abw T){QD:List AV}{aMi:uP}(hG:FnT P T args Ys (fun o H'=>o=aMi/\H'=Ys'))(hnd:Y.Nodup)(hlen:Y.length=Ys.length)(aIP:Y.length<=Ys'.length)
 (hz:∀U:Nat->aMM,T (U (oG Y J.heap.length 0))=T (U l0))
 (IM:∀(i k:Nat),Y[i]? =some k->∃x y,J.heap[k]? =some x/\Ys[i]? =some y/\Qz J.heap J.heap.length x (y.qC (oG Y J.heap.length))) (SF:Bf J.heap J.heap.length QD (sO (oG Y J.heap.length) args)):
 SI P T l0 QD J (fun o H'=>o=aMi.qC (oG Y J.heap.length)/\H'=wP Y J.heap Ys'):=by
 intro C U a w hP S vs hr
 let H1:=sH J.heap Y (Ys.map (kp.qC (oG Y J.heap.length)))
 have hl1:H1.length=J.heap.length:=xm _ _ _;have S0:nr C U ⟨J.kr++QD,J.heap,J.low,J.df⟩ {tmps:=a.tmps++vs,defers:=a.defers} w:={S with kr:=by simpa using S.kr.append hr,defers:=S.defers}
 have hat:∀(i k:Nat),Y[i]? =some k->∃x y,J.heap[k]? =some x/\Ys[i]? =some y/\Qz J.heap J.heap.length x (y.qC (oG Y J.heap.length))/\H1[k]? =some (y.qC (oG Y J.heap.length)):=by
  grind [V3]
 have hw:al1 ⟨J.kr++QD,J.heap,J.low,J.df⟩ ⟨J.kr++sO (oG Y J.heap.length) args,H1,J.low,J.df⟩:=by
  refine⟨⟨⟨rfl,by show J.low<=H1.length;rw[hl1];exact S.low.2⟩,rfl,by show avw H1.length J.df;rw[hl1];exact NT.nb S.defers.2.2⟩,?_,?_⟩
  ·show Bf J.heap H1.length _ _;rw[hl1];exact Bf.append (Bf.P8 (kQ.nb _ _ S.kr)) SF
  ·show CoH J.heap H1.length J.heap H1;rw[hl1];refine X4 fun k y hy=>?_
   by_cases hk:k∈Y
   ·grind [eo]
   ·have hy2:J.heap[k]? =some y:=by grind [Gv]
    exact⟨y,hy2,.inr (.inl ⟨rfl,V0 (S.sF k y hy2)⟩)⟩
 have S1:=hw.sim S0;have hsl:=S1.kr;simp only[ep]at hsl;have hsz:a.tmps.toList.length=J.kr.length:=S.kr.length;have h1:=hsl.take J.kr.length;have h2:=hsl.drop J.kr.length;rw[dX rfl,dX hsz]at h1;rw[dY rfl,dY hsz]at h2;have S2:nr C U {J with heap:=H1} a w:={S1 with kr:=h1,defers:=S1.defers}
 have xk:SI P T l0 (sO (oG Y H1.length) args) {J with heap:=H1} (fun o H'=>o=aMi.qC (oG Y H1.length)/\H'=wP Y J.heap Ys'):=by
  refine aho (J:={J with heap:=H1}) hT hG Y hlen hnd (by simp_all) (qX.refl _) ?_ ?_
  all_goals grind [wP,UF]
 rw[hl1]at xk;exact xk C U a w hP S2 vs h2
section aaj

def amE(base:List Nat)(pos:List R6)(os:OL O)(as:AL W)(R5:OL O')(rs:AL W')(F:O->W->Option (O'×W')):Ent:=fun args H=>
 (an5 args H pos base).bind fun Y=>bif IR Y&&(decide (os.lZ<=Y.length)&&(decide (as.lZ<=Y.length)&&decide (Y.length<=R5.size)))then
   (so (ajZ H) Y).bind fun xs=>(os.mL Y (ahy xs) H xs).bind fun b=>(as.mL Y (ahy xs) H args).bind fun a=>(F b a).bind fun r=>
     some ((n6 (rs.enc (R5.mX r.1) r.2)).qC (oG Y H.length),wP Y H (R5.enc (R5.mX r.1) r.1))else none
def aaj(pos:List R6)(os:OL O)(as:AL W)(R5:OL O')(rs:AL W')(F:O->W->Option (O'×W')):Ent:=amE [] pos os as R5 rs F
def aBB(pos:List R6)(os:OL O)(as:AL W)(R5:OL O')(rs:AL W')(F:O->W->Option (O'×W'))(l:Nat):Ent:=fun args H=>
 match H[l]? with
 |some (.loop k _ _ _)=>nJ (args.length=k.ps.size) (amE [l] pos os as R5 rs F args H)
 |_=>none
def aty(hT:abw T){pos:List R6}{os:OL O}{as:AL W}{R5:OL O'}{rs:AL W'}{F:O->W->Option (O'×W')}
 (hz:∀(ls:List Nat)(n:Nat)(U:Nat->aMM),T (U (oG (base++ls) n 0))=T (U l0)) {r:AV} (he:amE base pos os as R5 rs F args J.heap=some (r,H')):
 ∃b a q,F b a=some q/\(FnT P T (as.enc (os.mX b) a) (os.enc (os.mX b) b) (fun o H'=>o=.ret (n6 (rs.enc (R5.mX q.1) q.2))/\H'=R5.enc (R5.mX q.1) q.1)->SI P T l0 args J (fun o EX=>o=.ret r/\EX=H')):=by
 unfold amE at he;simp only[dM]at he;obtain⟨Y,hρ,he⟩:=he;cases hc:(IR Y&&(decide (os.lZ<=Y.length)&&(decide (as.lZ<=Y.length)&&decide (Y.length<=R5.size))))with
 |false=>simp [hc]at he
 |true=>
  simp only[hc,jK,dM,dN,dQ]at he;obtain⟨xs,hxs,b,hb,a,ha,q,hq,rfl,rfl⟩:=he;refine⟨b,a,q,hq,fun hfn=>?_⟩;simp only[dZ,jP]at hc;obtain⟨hnd,n1,n2,n3⟩:=hc;obtain⟨h1,h2⟩:=V7 hxs
  have atz:∀m,m<=Y.length->Cov Y m J.heap.length:=by
   intro m hm k hk;have OZ:k<Y.length:=by omega
   obtain⟨x,hx,VO⟩:=h2 k _ (dR OZ)
   grind
  have hL:os.mX b=ahy xs:=funext fun k=>os.ai7 Y _ _ _ _ hb k
  obtain⟨h3,h4⟩:=os.ok Y _ J.heap J.heap.length _ _ (atz _ n1) hb;have abr:∀l,l<Y.length->atN Y l=oG Y J.heap.length l:=fun l hl=>by unfold oG atN;rw[if_pos hl]
  rw[<-hL]at ha h4;obtain⟨ls,hls⟩:=amD hρ;refine aBA hT hfn (Qq hnd) (by rw[h1,h3,os.sz]) (by rw[R5.sz];exact n3) (fun U=>by rw[hls];exact hz ls _ U) ?_ ?_
  ·intro i k hi;obtain⟨x,hx,VO⟩:=h2 i k hi;have me:i<(os.enc (os.mX b) b).length:=by rw[os.sz,<-h3,<-h1];grind
   have hy:=dR me;obtain⟨x2,hx2,hcc⟩:=h4 i _ hy;rw[hx]at hx2;cases hx2;refine⟨x,_,VO,hy,?_⟩;rw[<-ahw (n:=os.lZ) (fun l hl=>abr l (by omega)) _ (os.nb _ _ _ (ew hy))];exact hcc
  ·rw[<-Di (n:=as.lZ) (fun l hl=>abr l (by omega)) _ (as.nb _ _)];exact as.ok Y _ J.heap _ _ _ (atz _ n2) ha
def tY{pos:List R6}{os:OL O}{as:AL W}{R5:OL O'}{rs:AL W'}{F:O->W->Option (O'×W')}
 (h:∀b a r,F b a=some r->Kk P f (as.enc (os.mX b) a) (os.enc (os.mX b) b) (fun o H'=>o=.ret (n6 (rs.enc (R5.mX r.1) r.2))/\H'=R5.enc (R5.mX r.1) r.1)):afa P f (aaj pos os as R5 rs F):=by
 intro args J r H' he;obtain⟨b,a,q,hq,xk⟩:=aty (P:=P) (T:=fun _ w vs R=>Calls P f vs w R) (l0:=0) af4 (fun _ _ _=>rfl) he;exact⟨(h b a q hq).1,xk (h b a q hq).2⟩
def aya{pos:List R6}{os:OL O}{as:AL W}{R5:OL O'}{rs:AL W'}{F:O->W->Option (O'×W')}
 (h:∀b a r,F b a=some r->FnT P (abo P) (as.enc (os.mX b) a) (os.enc (os.mX b) b) (fun o H'=>o=.ret (n6 (rs.enc (R5.mX r.1) r.2))/\H'=R5.enc (R5.mX r.1) r.1)) {r:AV} (he:aBB pos os as R5 rs F l args J.heap=some (r,H')):M5 P l args J (fun o EX=>o=.ret r/\EX=H'):=by
 unfold aBB at he;split at he
 ·rename_i k kr st uK hk;rw[mO]at he;obtain⟨hlen,he⟩:=he;obtain⟨b,a,q,hq,xk⟩:=aty (P:=P) (T:=abo P) (l0:=l) asE (fun ls n U=>by simp [oG]) he;exact⟨⟨k,kr,st,uK,hk,hlen⟩,xk (h b a q hq)⟩
 ·cases he
def atA:List (Nat×(Nat->Ent))->Nat->Ent
 |[],_,_,_=>none
 |(l',e)::t,l,args,H=>bif l==l' then e l args H else atA t l args H
def aj1:∀(l:Nat)(args:List AV)(J:jX)(r:AV)(H':List kp),atA [] l args J.heap=some (r,H')->M5 P l args J (fun o EX=>o=.ret r/\EX=H'):=by
 intro l args J r H' h;cases h
def ahz{l':Nat}{e:Nat->Ent}{t:List (Nat×(Nat->Ent))}(h1:∀(l:Nat)(args:List AV)(J:jX)(r:AV)(H':List kp),e l args J.heap=some (r,H')->M5 P l args J (fun o EX=>o=.ret r/\EX=H'))
 (h2:∀(l:Nat)(args:List AV)(J:jX)(r:AV)(H':List kp),atA t l args J.heap=some (r,H')->M5 P l args J (fun o EX=>o=.ret r/\EX=H')):
 ∀(l:Nat)(args:List AV)(J:jX)(r:AV)(H':List kp),atA ((l',e)::t) l args J.heap=some (r,H')->M5 P l args J (fun o EX=>o=.ret r/\EX=H'):=by
 grind [atA]
end aaj
section XV

def awC(xs:List AV)(pos:List R6)(base:List Nat)(low:Nat)(os:OL O)(s:AL W)(J:jX):Option (O×W):=
 (an5 xs J.heap pos base).bind fun Y=>bif IR Y&&((J.low==low)&&(J.df.isEmpty&&(decide (low<=os.size)&&(decide (os.lZ<=os.size)&&decide (s.lZ<=os.size)))))then
   (so (ajZ J.heap) Y).bind fun ys=>(os.mL Y (ahy ys) J.heap ys).bind fun b=>(s.mL Y (ahy ys) J.heap xs).bind fun a=>some (b,a)else none
def Dj(P:aMN)(rs:List ResultVar)(pos:List R6)(base:List Nat)(low:Nat)(os:OL O)(s:AL W)(J:jX):Option (O×W):=
 (AE P J rs).bind fun xs=>awC xs pos base low os s J
def ahA{xs:List AV}{pos:List R6}{os:OL O}{s:AL W}{r:O×W}(abj:base=dU low)(h:awC xs pos base low os s J=some r):
 J.df=[]/\Kr ⟨xs,J.heap,J.low,[]⟩ ⟨s.enc (os.mX r.1) r.2,os.enc (os.mX r.1) r.1,J.low,[]⟩:=by
 unfold awC at h;simp only[dM]at h;obtain⟨Y,hρ,h⟩:=h;cases hc:(IR Y&&((J.low==low)&&(J.df.isEmpty&&(decide (low<=os.size)&&(decide (os.lZ<=os.size)&&decide (s.lZ<=os.size))))))with
 |false=>simp [hc]at h
 |true=>
  simp only[hc,jK,dM,dN]at h;obtain⟨ys,hys,b,hb,a,ha,rfl⟩:=h;simp only[dZ,jP,beq_iff_eq]at hc;obtain⟨hnd,h1,hdf,n1,n2,n3⟩:=hc;refine⟨by simpa using hdf,?_⟩;obtain⟨ls,hls⟩:=amD hρ;obtain⟨g1,g2⟩:=V7 hys;have hL:os.mX b=ahy ys:=funext fun k=>os.ai7 Y _ _ _ _ hb k
  rw[<-hL]at hb ha
  have Sz:Y.length=os.size:=by
   have:ys.length=os.size:=os.IQ _ _ _ _ _ hb;rw[g1,this]
  intro C U a' w S
  have atz:∀m,m<=Y.length->Cov Y m J.heap.length:=by
   intro m hm k hk;have OZ:k<Y.length:=by omega
   obtain⟨x,hx,VO⟩:=g2 k _ (dR OZ)
   grind
  let Ys:=os.enc (os.mX b) b
  have hYl:Ys.length=os.size:=os.sz _ _
  let H1:=sH J.heap Y (Ys.map (kp.qC (atN Y)))
  have hl1:H1.length=J.heap.length:=xm _ _ _;obtain⟨_,h4⟩:=os.ok Y _ J.heap J.heap.length _ _ (atz _ (by omega)) hb
  have hat:∀(i k:Nat)(y:kp),Y[i]? =some k->Ys[i]? =some y->∃x,J.heap[k]? =some x/\Qz J.heap J.heap.length x (y.qC (atN Y))/\H1[k]? =some (y.qC (atN Y)):=by
   grind [V3,Qq]
  have hw:al1 ⟨xs,J.heap,J.low,[]⟩ ⟨sO (atN Y) (s.enc (os.mX b) a),H1,J.low,[]⟩:=by
   refine⟨⟨⟨rfl,by show J.low<=H1.length;rw[hl1];exact S.low.2⟩,rfl,abt⟩,?_,?_⟩
   ·show Bf J.heap H1.length _ _;rw[hl1];exact s.ok Y _ J.heap _ _ _ (atz _ (by omega)) ha
   ·show CoH J.heap H1.length J.heap H1;rw[hl1];refine X4 fun k y hy=>?_
    by_cases hk:k∈Y
    ·obtain⟨i,hi⟩:=eo hk;have me:i<Ys.length:=by grind
     obtain⟨x,hx,hc,hy'⟩:=hat i k _ hi (dR me)
     grind
    ·have hy2:J.heap[k]? =some y:=by grind [Gv]
     exact⟨y,hy2,.inr (.inl ⟨rfl,V0 (S.sF k y hy2)⟩)⟩
  obtain⟨U',S1⟩:=hw.imp C U _ w S;refine awB (Y:=Y) (Ys:=Ys) (by rw[Sz,hYl]) (Qq hnd) ?_ (by rw[hYl];omega) (tB (by omega) _ (s.nb _ _)) (fun y hy=>Es (by omega) _ (os.nb _ _ y hy)) ?_ C U' a' w S1
  all_goals grind
def SL{pos:List R6}{os:OL O}{s:AL W}{r:O×W}(abj:base=dU low)(h:Dj P rs pos base low os s J=some r):
 J.df=[]/\∃xs,AE P J rs=some xs/\agc ⟨xs,J.heap,J.low,[]⟩ ⟨s.enc (os.mX r.1) r.2,os.enc (os.mX r.1) r.1,J.low,[]⟩:=by
 unfold Dj at h;simp only[dM]at h;obtain⟨xs,hx,h⟩:=h;exact⟨(ahA abj h).1,xs,hx,(ahA abj h).2.e⟩
end XV
def awD {b:Nat}:decide (max a b<=c)=(decide (a<=c)&&decide (b<=c)):=by
 grind
def aBC{xs:List kp}:ahy xs k=(nO xs[k]?).getD 0:=rfl
def aBD:(∀i s r,nO (some (.mE i s r))=some r.length)/\(∀c,nO (some (.cells c))=none)/\(∀e,nO (some (.map e))=none)/\nO (some .sU)=none/\nO none=none:=⟨fun _ _ _=>rfl,fun _=>rfl,fun _=>rfl,rfl,rfl⟩
def aG6{f:D8}:akA a f 0=a/\∀k,akA a f (k+1)=f k:=⟨rfl,fun _=>rfl⟩
def aG7{f:D8}:akA a f 1=f 0:=rfl
def aG8{f:D8}:akA a f 2=f 1:=rfl
def aG9{f:D8}:akA a f 3=f 2:=rfl
def aHa{f:D8}:akA a f 4=f 3:=rfl
def aHb{f:D8}:akA a f 5=f 4:=rfl
def aHc{f:D8}:akA a f 6=f 5:=rfl
def aJe:vlN.lZ=0:=rfl
def aJf{t:Ty W}{s:VL O}:(vlT t s).lZ=s.lZ:=rfl
def aJg{s:VL O}:(vlP k s).lZ=max (k+1) s.lZ:=rfl
def aJh{s:VL O}:(vlM k s).lZ=max (k+1) s.lZ:=rfl
def aJi{c:VL W}{s:VL O}:(vlF f c s).lZ=max c.lZ s.lZ:=rfl
attribute [go_sem] aJe aJf aJg aJh aJi aIW aIX aIY aIZ aI0 aI1 aI2 aI3 aI4 aI5 aI6 aI7 aI8 ahx aI9 aJa aJb aJc awA aEs aEt aEu aEv aEw aEx aEy aEz aEA aEB aEC aBy azn azo aaj Dj an5 aJd aBz down aqK aBC aBD Option.getD_some Option.getD_none aG6 aG7 aG8 aG9 aHa aHb aHc awD dN
def stJ(lk:yo)(j:Int):aMR:=stP (qW lk.js j)
def aBE:stJ lk 0=.ready:=rfl
section ogL

def aBF(lk:yo)(c:AL γ)(Y:List Nat)(L:D8)(H:List kp):kp->Option (γ×Int)
 |.loop lk' kr st j=>nJ (lk'=lk/\st=stJ lk j) ((c.mL Y L H kr).bind fun g=>some (g,j))
 |_=>none
def ogL(lk:yo)(c:AL γ):OG (γ×Int) where
 enc L g:=.loop lk (c.enc L g.1) (stJ lk g.2) g.2
 mL:=aBF lk c
 len _:=0
 lZ:=c.lZ
 nb L g:=c.nb L g.1
 ok Y L H n x g hv h:=by
  unfold aBF at h;split at h
  ·simp only[mO,dM,dN]at h;obtain⟨⟨rfl,rfl⟩,y,hy,rfl⟩:=h;exact .inr (.inr (.inr (.inr ⟨_,_,_,_,_,rfl,rfl,c.ok Y L H n _ _ hv hy⟩)))
  ·cases h
 amC Y L H x g h:=by
  unfold aBF at h;split at h
  ·rfl
  ·cases h
def atB(lk:yo)(c:AL γ)(Y:List Nat)(L:D8)(H:List kp):kp->Option γ
 |.loop lk' kr st j=>bif j==0 then nJ (lk'=lk/\st=stJ lk j) (c.mL Y L H kr)else none
 |_=>none
def azp (lk:yo) (c:AL γ):OG γ where
 enc L g:=.loop lk (c.enc L g) .ready 0
 mL:=atB lk c
 len _:=0
 lZ:=c.lZ
 nb L g:=c.nb L g
 ok Y L H n x g hv h:=by
  unfold atB at h;split at h
  ·rename_i lk' kr st j;cases hj:j==0 with
   |false=>rw[hj]at h;cases h
   |true=>
    rw[hj,jK]at h;have hj':j=0:=by simpa using hj
    subst hj';simp only[mO]at h;obtain⟨⟨rfl,rfl⟩,hy⟩:=h;exact .inr (.inr (.inr (.inr ⟨_,_,_,_,_,rfl,rfl,c.ok Y L H n _ _ hv hy⟩)))
  ·cases h
 amC Y L H x g h:=by
  unfold atB at h;split at h
  ·rfl
  ·cases h
def aHd{c:AL γ}{st:aMR}{j:Int}:aBF lk c Y L H (.loop lk' s st j)=nJ (lk'=lk/\st=stJ lk j) ((c.mL Y L H s).bind fun g=>some (g,j)):=rfl
def aED{c:AL γ}{st:aMR}{j:Int}:atB lk c Y L H (.loop lk' s st j)=bif j==0 then nJ (lk'=lk/\st=stJ lk j) (c.mL Y L H s)else none:=rfl
def aJj{c:AL γ}:(∀L g,(ogL lk c).enc L g=.loop lk (c.enc L g.1) (stJ lk g.2) g.2)/\(∀Y L H x,(ogL lk c).mL Y L H x=aBF lk c Y L H x)/\(∀g,(ogL lk c).len g=0)/\(ogL lk c).lZ=c.lZ:=⟨fun _ _=>rfl,fun _ _ _ _=>rfl,fun _=>rfl,rfl⟩
def aHe{c:AL γ}:(∀L g,(azp lk c).enc L g=.loop lk (c.enc L g) .ready 0)/\(∀Y L H x,(azp lk c).mL Y L H x=atB lk c Y L H x)/\(∀g,(azp lk c).len g=0)/\(azp lk c).lZ=c.lZ:=⟨fun _ _=>rfl,fun _ _ _ _=>rfl,fun _=>rfl,rfl⟩
end ogL
def UG:List (Int×aMK)->nW->Int
 |(k,.ret)::_,.ret=>k
 |(k,.exit n)::t,.exit m=>bif n==m then k else UG t (.exit m)
 |_::t,e=>UG t e
 |[],_=>0
section ahB

def aBG(js:List (Int×aMK))(pos:List R6)(base:List Nat)(low:Nat)(os:OL O)(e:nW)(J:jX):Option kp->Option (O×(Bool×Unit))
 |some (.loop lk sl .busy 0)=>nJ (ami e=some (qW lk.js (UG js e))) (awC [.bool (qW lk.js (UG js e)).isNone] pos base low os (mH nk k7) {J with heap:=J.heap.set 0 (.loop lk sl (stJ lk (UG js e)) (UG js e))})
 |_=>none
def ahB(js:List (Int×aMK))(pos:List R6)(base:List Nat)(low:Nat)(os:OL O)(e:nW)(J:jX):Option (O×(Bool×Unit)):=aBG js pos base low os e J J.heap[0]?
def aEE{pos:List R6}{os:OL O}{e:nW}{sl:List AV}:aBG js pos base low os e J (some (.loop lk sl .busy 0))=
 nJ (ami e=some (qW lk.js (UG js e))) (awC [.bool (qW lk.js (UG js e)).isNone] pos base low os (mH nk k7) {J with heap:=J.heap.set 0 (.loop lk sl (stJ lk (UG js e)) (UG js e))}):=rfl
def an6 {r:AV}(h:Kr ⟨[x],J.heap,J.low,[]⟩ ⟨[r],H',J.low,[]⟩):af5 J x r H':=by
 intro C U a w S v hv;obtain⟨U',S'⟩:=h C U {tmps:= #[v],defers:=[]} w {S with kr:=⟨v,[],rfl,hv,rfl⟩,defers:=xj.nil};obtain⟨v',_,e,hr,_⟩:=S'.kr;simp only[eu]at e;obtain⟨rfl,_⟩:=e;exact⟨U',{S' with kr:=rfl,defers:=xj.nil},hr⟩
def atC{pos:List R6}{os:OL O}{e:nW}{r:O×(Bool×Unit)}(abj:base=dU low)(h:ahB js pos base low os e J=some r):
 axY (fun o H'=>o=.ret (n6 ((mH nk k7).enc (os.mX r.1) r.2))/\H'=os.enc (os.mX r.1) r.1) e J:=by
 unfold ahB aBG at h;split at h
 ·rename_i lk sl hk;simp only[mO]at h;obtain⟨hj,h⟩:=h;have:=ahA abj h;exact⟨_,lk,sl,hj,hk,_,_,an6 (J:={J with heap:=J.heap.set 0 (.loop lk sl (stJ lk (UG js e)) (UG js e))}) this.2,rfl,rfl⟩
 ·cases h
end ahB
section aJk
variable {k:List Kt}
def aBH{j:Int}:amk M k J H' (some (.loop lk s (stJ lk j) j))=amj M k {J with heap:=H'.set J.heap.length .sU} (qW lk.js j):=by
 rw[asJ];exact amz
end aJk
def aBI{st:aMR}{j:Int}:(kp.loop lk s st j).qC τ=.loop lk (sO τ s) st j:=rfl
def aBJ{st:aMR}{j:Int}:nO (some (.loop lk s st j))=none:=rfl
def aBK:(∀xs,aqK c (some (.cells xs))=xs[c]?)/\(∀lk xs st j,aqK c (some (.loop lk xs st j))=xs[c]?):=⟨fun _=>rfl,fun _ _ _ _=>rfl⟩
def aEF:ami .normal=some none/\ami .ret=some (some .ret)/\∀id,ami (.exit id)=some (some (.exit id)):=⟨rfl,rfl,fun _=>rfl⟩
def aHf:(∀k t,UG ((k,.ret)::t) .ret=k)/\(∀k n t,UG ((k,.exit n)::t) .ret=UG t .ret)/\(∀k t m,UG ((k,.ret)::t) (.exit m)=UG t (.exit m))/\(∀k n t m,UG ((k,.exit n)::t) (.exit m)=bif n==m then k else UG t (.exit m))/\
 (∀js,UG js .normal=0)/\(∀e,UG [] e=0):=
 ⟨fun _ _=>rfl,fun _ _ _=>rfl,fun _ _ _=>rfl,fun _ _ _ _=>rfl,fun js=>by induction js with|nil=>rfl|cons x t ih=>obtain⟨k,c⟩:=x;cases c<;>exact ih,fun _=>rfl⟩
def aF7(pos:List R6)(os:OL O)(as:AL W)(R5:OL O')(rs:AL W')(F:O->W->Option (O'×W'))(l:Nat)(args:List AV)(H:List kp):Option kp->Option (AV×List kp)
 |some (.loop k _ _ _)=>nJ (args.length=k.ps.size) (amE [l] pos os as R5 rs F args H)
 |_=>none
def aHg{pos:List R6}{os:OL O}{as:AL W}{R5:OL O'}{rs:AL W'}:
 aBB pos os as R5 rs F l args H=aF7 pos os as R5 rs F l args H H[l]? :=rfl
def aEG{pos:List R6}{os:OL O}{as:AL W}{R5:OL O'}{rs:AL W'}{k:yo}{st:aMR}{j:Int}:
 aF7 pos os as R5 rs F l args H (some (.loop k s st j))=nJ (args.length=k.ps.size) (amE [l] pos os as R5 rs F args H):=rfl
def amF:aMK->aMK
 |.rangeFunc _ _ a _=>a
 |_=>.skip
def awE:aMK->aMK
 |.rangeFunc _ _ _ b=>b
 |_=>.skip
attribute [go_sem] amF awE
def aHh:List (List Nat×List (Int×aMK))->List Nat->List (Int×aMK)
 |[],_=>[]
 |(p',js)::t,p=>if p=p' then js else aHh t p
def aEH:(LoopState.ready=stJ lk 0)=True:=by simp [aBE]
def oLf(zs:List NZ)(H:List kp)(n:Nat):kp->Option kp
 |.loop lk s st j=>nJ (st=stJ lk j) ((aku zs H n s).bind fun ds=>some (.loop lk ds (stJ lk j) j))
 |_=>none
def oL(zs:List NZ):ZO:=⟨oLf zs,fun H n x y h=>by
 unfold oLf at h;split at h
 ·simp only[mO,dM,dN]at h;obtain⟨rfl,ds,hd,rfl⟩:=h;exact .inr (.inr (.inr (.inr ⟨_,_,_,_,_,rfl,rfl,alp hd⟩)))
 ·cases h⟩
def aK0{st:aMR}{j:Int}:(oL zs).f H n (.loop lk s st j)=nJ (st=stJ lk j) ((aku zs H n s).bind fun ds=>some (.loop lk ds (stJ lk j) j)):=rfl
attribute [go_sem] aEH aK0 aJj aHe aHd aED ahB aEE awC amE aBH aBI aBJ aBK aEF aHf aHg aEG atA
def Gr(p:Str×Bool):AV×AV:=(.str (sb p.1),.bool p.2)
def oa{W:Type}(s:Str):List (Str×W)->Option W
 |[]=>none
 |(k,v)::es=>bif s==k then some v else oa s es
def AF{W:Type}(s:Str)(v:W):List (Str×W)->List (Str×W)
 |[]=>[(s,v)]
 |(k,u)::es=>bif s==k then(k,v)::es else(k,u)::AF s v es
theorem aqL(a b:Str):(sb a==sb b)=(a==b):=by
 grind [MapKept.bytes_beq,V8]
def amG:∀xs:List (Str×Bool),aMj (xs.map Gr)=true
 |[]=>rfl
 |_::xs=>amG xs
theorem apj(xs:List (Str×Bool)):aMj (mp Gr xs)=true:=by rw[tQ];exact amG xs
theorem aj2(s:Str):∀xs:List (Str×Bool),yK (sb s) (xs.map Gr)=(oa s xs).map AV.bool
 |[]=>rfl
 |(k,v)::xs=>by
  show(bif sb s==sb k then some (AV.bool v)else yK (sb s) (xs.map Gr))=_;rw[aqL,aj2 s xs]
  grind [oa]
theorem awF(s:Str)(xs:List (Str×Bool)):yK (sb s) (mp Gr xs)=(oa s xs).map AV.bool:=by rw[tQ];exact aj2 s xs
theorem amH(s:Str)(v:Bool):∀xs:List (Str×Bool),M3 (sb s) (.bool v) (xs.map Gr)=(AF s v xs).map Gr
 |[]=>rfl
 |(k,u)::xs=>by
  show(bif sb s==sb k then(AV.str (sb k),AV.bool v)::xs.map Gr else(AV.str (sb k),AV.bool u)::M3 (sb s) (.bool v) (xs.map Gr))=_;rw[aqL,amH s v xs];simp only[AF];cases s==k<;>rfl
theorem azq(s:Str)(v:Bool)(xs:List (Str×Bool)):M3 (sb s) (.bool v) (mp Gr xs)=mp Gr (AF s v xs):=by grind [tQ,amH]
def atD(o:Option Bool)(z:Bool):(o.map AV.bool).getD (.bool z)=.bool (o.getD z):=by cases o<;>rfl
def awG:kp.map []=.map (mp Gr []):=by rw[tQ];rfl
def awH{s:Str}:adH z l (sb s) (some (.map (mp Gr xs)))=some {val:=((oa s xs).map AV.bool).getD z,rd:=[l]}:=by
 grind [adH,apj,awF]
def atE{s:Str}{v:Bool}:Ca l (sb s) (.bool v) (some (.map (mp Gr xs)))=some {val:=.any,rd:=[l],up:=[(l,.map (mp Gr (AF s v xs)))]}:=by
 grind [Ca,apj,azq]
def ahC(n:Nat)(xs:List (Str×Bool)):sj n (.map (mp Gr xs))=True:=by
 refine eq_true fun p hp=>?_
 rw[tQ,eJ]at hp;obtain⟨q,_,rfl⟩:=hp;exact⟨trivial,trivial⟩
def azr(Y:Nat->Nat)(xs:List (Str×Bool)):(mp Gr xs).map (fun p=>(AV.qC Y p.1,AV.qC Y p.2))=mp Gr xs:=by
 rw[tQ,eK];exact ed fun _ _=>rfl
def azs(n:Nat)(xs:List (Str×Bool)):(∀p:AV×AV,p∈mp Gr xs->AV.nb n p.1/\AV.nb n p.2)=True:=ahC n xs
attribute [go_sem high] azr azs
def ddB:AV×AV->Option (Str×Bool)
 |(.str s,.bool b)=>some (s.toList,b)
 |_=>none
theorem aHi{p:AV×AV}{q:Str×Bool}(h:ddB p=some q):p=Gr q:=by
 unfold ddB at h;split at h
 ·rename_i s b;simp only[dN]at h;subst h;simp only[Gr,dQ,AV.str.injEq,and_true];obtain⟨⟨l⟩⟩:=s;rw[ByteArray.toList_eq];rfl
 ·cases h
theorem apk:∀{es:List (AV×AV)}{xs:List (Str×Bool)},so ddB es=some xs->es=xs.map Gr
 |[],xs,h=>by grind [so]
 |p::es,xs,h=>by
  simp only[so,dM,dN]at h;obtain⟨q,hq,ys,hys,rfl⟩:=h;rw[aHi hq,apk hys];rfl
theorem aBL{es:List (AV×AV)}(h:so ddB es=some xs):es=mp Gr xs:=by rw[tQ];exact apk h
theorem ayb(τ:Nat->Nat)(xs:List (Str×Bool)):(kp.map (mp Gr xs)).qC τ=.map (mp Gr xs):=by
 rw[tQ];show kp.map ((xs.map Gr).map _)=_;congr 1;rw[eK];exact ed fun p _=>by obtain⟨s,b⟩:=p;rfl
def daM:kp->Option (List (Str×Bool))
 |.map es=>so ddB es
 |_=>none
def aHj:daM (.map (mp Gr xs))=some xs:=by
 show so ddB (mp Gr xs)=some xs;exact Iw (fun x=>by obtain⟨s,b⟩:=x;show some ((sb s).toList,b)=_;rw[V8]) xs
theorem aBM{x:kp}(h:daM x=some xs):x=.map (mp Gr xs):=by
 unfold daM at h
 grind [aBL]
def ogM:OG (List (Str×Bool)) where
 enc _ xs:=.map (mp Gr xs)
 mL _ _ _:=daM
 len _:=0
 lZ:=0
 nb L g:=of_eq_true (ahC 0 g)
 ok Y L H n x g _ h:=by
  rw[aBM h];rw[ayb];exact .inr (.inl ⟨rfl,of_eq_true (ahC n g)⟩)
 amC Y L H x g h:=by
  rw[aBM h];rfl
def aJl:(∀L g,ogM.enc L g=.map (mp Gr g))/\(∀Y L H x,ogM.mL Y L H x=daM x)/\(∀g,ogM.len g=0)/\ogM.lZ=0:=⟨fun _ _=>rfl,fun _ _ _ _=>rfl,fun _=>rfl,rfl⟩
attribute [go_sem] awH atE atD awG aHj aJl ayb
attribute [go_sem high] ahC
def Tup(W:Type):Nat->Type
 |0=>Unit
 |n+1=>W×Tup W n
section Je

def amI(c:W->List AV):(n:Nat)->Tup W n->List AV
 |0,_=>[]
 |n+1,x=>c x.1++amI c n x.2
def ai8(d:List AV->Option W)(sz:Nat):(n:Nat)->List AV->Option (Tup W n)
 |0,cs=>if cs.isEmpty=true then some ()else none
 |n+1,cs=>(d (cs.take sz)).bind fun x=>(ai8 d sz n (cs.drop sz)).bind fun t=>some (x,t)
def aF8{c:W->List AV}(h:∀n x,xB n (c x))(k:Nat):∀(n:Nat)(v:Tup W n),xB k (amI c n v)
 |0,_=>trivial
 |n+1,v=>M7 (h k v.1) (aF8 h k n v.2)
def aF9{c:ZJ W}{H:List kp}{m sz:Nat}:∀{n:Nat}{cs:List AV}{v:Tup W n},ai8 (c.mL H) sz n cs=some v->o9 H m cs (amI c.enc n v)
 |0,cs,v,h=>by
  simp only[ai8]at h;split at h
  ·rename_i he;rw[List.isEmpty_iff]at he;subst he;exact o9.nil
  ·cases h
 |n+1,cs,v,h=>by
  simp only[ai8,dM]at h;obtain⟨x,hx,t,ht,he⟩:=h;obtain rfl:(x,t)=v:=Option.some.inj he;have:=o9.append (c.ok H m _ _ hx) (aF9 (c:=c) (m:=m) ht);rw[eH]at this;exact this
def cA(c:ZJ W)(sz n:Nat):ZJ (Tup W n) where
 enc v:=amI c.enc n v
 mL H cs:=ai8 (c.mL H) sz n cs
 ok H m cs v h:=aF9 h
 nb k v:=aF8 c.nb k n v
def aK1{c:ZJ W}{sz:Nat}:(∀v,(cA c sz n).enc v=amI c.enc n v)/\∀H cs,(cA c sz n).mL H cs=ai8 (c.mL H) sz n cs:=⟨fun _=>rfl,fun _ _=>rfl⟩
end Je
attribute [go_sem] aK1
def abB(xs:List Str):List AV:=[.lS false 1 (mp nh xs)]
def awI:List AV->Option (List Str)
 |[c]=>dL mq [] c
 |_=>none
def azt(n:Nat)(xs:List Str):Qv n (mp nh xs):=zz (r:=mq) xs
def atF:Row (List Str) where
 enc:=abB
 mL:=awI
 sz:=1
 ok r x h:=by
  unfold awI at h;split at h
  ·exact Ew.cons (Co1.qc (n:=0) (Me h)) Ew.nil
  ·cases h
 nb n x:=⟨azt n x,trivial⟩
def aEI:atF.enc=abB/\atF.mL=awI/\atF.sz=1:=⟨rfl,rfl,rfl⟩
def azu(x:List Str):awI (abB x)=some x:=by
 simp only[awI,abB,dL,IQ,aga,beq_self_eq_true,Bool.true_or,jK,Ft]
def aEJ(xs:List (List Str)):so awI (mp abB xs)=some xs:=Iw azu xs
attribute [go_sem] abB awI aEI aEJ
section aK2
variable {a:Act}
def vwN(H:List kp):List AV->Option (List AV)
 |[]=>some []
 |.agg cs::r=>(vwL H cs).bind fun p=>(vwN H r).bind fun q=>some (.agg p.1::q)
 |c::r=>(vwL H [c]).bind fun p=>(vwN H r).bind fun q=>some (p.1++q)
def aHk(l:Nat):AV->AV
 |.int k n=>.int k n
 |.bool b=>.bool b
 |.str s=>.str s
 |.lS _ _ _=>.mE l 0
 |_=>.any
def aHl(l:Nat):AV->AV
 |.agg cs=>.agg (cs.map (aHk l))
 |x=>aHk l x
def num(l:Nat):AV->AV
 |.Je cs=>.Je (cs.map (aHl l))
 |x=>aHl l x
section
variable {E':D4}
end
end aK2
def aBN{x:Option R}:nJ False x=none:=by simp [nJ]
theorem ayc{n:Nat}{r:List AV}:∀{rows:List (List AV)}{i:Nat},Qv n rows->Qv n (rows.set i r)=(rows.length<=i\/xB n r)
 |[],_,_=>eq_true trivial|>.trans (eq_true (.inl (eg _))).symm
 |_::_,0,h=>by
  grind [Qv]
 |_::rows,i+1,h=>by
  show(xB n _/\Qv n (rows.set i r))=_;rw[ayc (rows:=rows) (i:=i) h.2];exact propext ⟨fun q=>q.2.imp Nat.succ_le_succ id,fun q=>⟨h.1,q.imp Nat.le_of_succ_le_succ id⟩⟩
def awJ {S:Type}{p:Prop}{x:Option R}{f:R->Option S}:(nJ p x).bind f=nJ p (x.bind f):=by
 unfold nJ;split<;>rfl
def aBO{xs:List W}{r:W}{n:Int}{f:W->Option O}:(sQ (xs.set n.toNat r) n).bind f=bif decide (0<=n)&&decide (n.toNat<xs.length)then f r else none:=by
 grind [sQ]
def aEK{xs:List W}{r:W}{f:W->Option O}:((xs.set i r)[i]?).bind f=bif decide (i<xs.length)then f r else none:=by
 grind
def awK{e e':Ent}(h:UE P f (nG e))(h':UE P f (nG e')):UE P f (nG (aqG e e')):=by
 intro args r he;unfold nG at he;obtain⟨hn,he⟩:=mO.1 he;rw[dM]at he;obtain⟨q,hq,he⟩:=he;unfold aqG at hq;rw[eI]at hq;rcases hq with hq|⟨_,hq⟩
 ·exact h args r (mO.2 ⟨hn,by rw[hq];exact he⟩)
 ·exact h' args r (mO.2 ⟨hn,by rw[hq];exact he⟩)
def atG(n:Nat)(xs:List Str)(i:Nat)(r:List AV):Qv n ((mp nh xs).set i r)=(xs.length<=i\/xB n r):=by
 rw[ayc (rows:=mp nh xs) (zz (r:=mq) xs),Qo]
def aBP(n:Int):Str:=(Utf8.encode n).data.toList
def azv(n:Int):Utf8.encode n=sb (aBP n):=(aqA _).symm
def aqM{x y:Option W}{g:W->O}:(x.bind fun r=>some (g r)).or (y.bind fun r=>some (g r))=(x.or y).bind fun r=>some (g r):=by cases x<;>rfl
def aEL(r:Row W):AV->Option (List W)
 |.lS true sz rows=>bif IQ sz r.sz rows then so r.mL rows else none
 |_=>none
def an7 {sz:Nat}(h:IQ sz k rows=true)(hs:XR rows BD):Ma (.lS true sz rows) (.lS true k BD):=by
 intro E v r;obtain⟨base,cap,h1,h2,_,h4,h5,h6⟩:=XZ (t:=true) h hs E v r;obtain⟨aIm,aKu,h1',_,h3',_⟩:=r;have e:=h1.symm.trans h1';simp only[Value.slice.injEq]at e;obtain⟨rfl,_,rfl⟩:=e;exact⟨base,cap,h1,h2,fun _=>by rw[h3' rfl,hs.1],h4,h5,h6⟩
def awL (r:Row W):Ty (List W) where
 enc xs:=.lS true r.sz (mp r.enc xs)
 mL _:=aEL r
 ok H n v xs h:=by
  unfold aEL at h;split at h
  ·rename_i sz rows;cases hs:IQ sz r.sz rows with
   |false=>rw[hs]at h;cases h
   |true=>
    rw[hs,jK]at h;exact Co.sub (an7 hs (Nc h).1) (zz xs)
  ·cases h
 nb _ xs:=zz xs
def aHm:(∀xs,(awL r).enc xs=.lS true r.sz (mp r.enc xs))/\∀H v,(awL r).mL H v=aEL r v:=⟨fun _=>rfl,fun _ _=>rfl⟩
def awM{k:List Kt}:Fs M p k J (.goto l)=none:=rfl
attribute [go_sem] vwN num aHk aHl aGl aDh aoX awJ or_true aBO aEK awM atG azv aqM aHm aEL Bool.not_true Bool.not_false aBN and_false false_and and_true true_and
theorem X7(s:Str):(sb s).data.toList=s:=by simp [sb]
def ayd {y:AV}{vs:Array aMM}{u v:aMM}(h:kQ E [x,y] vs.toList)(hx:∀w,pO E x w->w=u)(hy:∀w,pO E y w->w=v):vs= #[u,v]:=by
 obtain⟨v0,us,hvs,r0,v1,us1,hus,r1,aqm⟩:=h;have aLD:us1=[]:=aqm
 grind
def aGa(c:Int):UInt8:=c.toNat.toUInt8
def an8(he:enters P f=true)
 (h:∀(s:ByteArray)(c:Int)(w:aMO),Calls P f #[.string s,.int .u8 c] w fun e w'=>e=.returned (.int .i64 (Lib.indexByte s.data.toList c.toNat.toUInt8))/\w'=w)
 (s:Str) (c:Int):Ku P f [mb.enc s,(lR .u8).enc c] (fun v=>v=(lR .i64).enc (Lib.indexByte s (aGa c))):=by
 refine⟨he,⟨mb.nb 0 _,(lR .u8).nb 0 _,trivial⟩,fun C U w hP hw hN0 hM vs hr=>?_⟩;obtain rfl:=ayd hr (u:=.string (sb s)) (v:=.int .u8 c) (fun _ h=>h) (fun _ h=>h);have:=h (sb s) c w;rw[X7]at this;refine this.mono ?_;rintro e w' ⟨rfl,rfl⟩;exact⟨_,_,U,rfl,rfl,rfl,dW _,fun _ _=>rfl,fun _ _=>rfl,rfl,rfl⟩
def aqN(he:enters P f=true)(hk:aDf g 0)(hkv:∀v,aDg g 0 v->∃m,v=.int .i64 m)
 (h:∀(s sub:ByteArray)(m:Int)(w:aMO),s.size<4294967281->w.cell? ⟨g,0,none⟩=some (.int .i64 m)->Calls P f #[.string s,.string sub] w fun e w'=>e=.returned (.bool (Lib.contains s.data.toList sub.data.toList))/\w'=w)
 (s sub:Str) (hs:s.length<4294967281):Ku P f [mb.enc s,mb.enc sub] (fun v=>v=nk.enc (Lib.contains s sub)):=by
 refine⟨he,⟨mb.nb 0 _,mb.nb 0 _,trivial⟩,fun C U w hP hw hN0 hM vs hr=>?_⟩;obtain rfl:=ayd hr (u:=.string (sb s)) (v:=.string (sb sub)) (fun _ h=>h) (fun _ h=>h);obtain⟨v,hv,aBQ,_⟩:=C.hk g 0 hk;obtain⟨m,rfl⟩:=hkv v aBQ;rw[hw]at hv;have:=h (sb s) (sb sub) m w (by rw[SK];exact hs) hv;rw[X7,X7]at this;refine this.mono ?_;rintro e w' ⟨rfl,rfl⟩;exact⟨_,_,U,rfl,rfl,rfl,dW _,fun _ _=>rfl,fun _ _=>rfl,rfl,rfl⟩
def aEM(he:enters P f=true)(hk:aDf g 0)(hkv:∀v,aDg g 0 v->∃m,v=.int .i64 m)
 (h:∀(s sep:ByteArray)(m:Int)(w:aMO),s.size<4294967281->w.cell? ⟨g,0,none⟩=some (.int .i64 m)->
   Calls P f #[.string s,.string sep] w fun e w'=>e=.returned (.tuple #[.string ⟨(Lib.cut s.data.toList sep.data.toList).1.toArray⟩,.string ⟨(Lib.cut s.data.toList sep.data.toList).2.1.toArray⟩,.bool (Lib.cut s.data.toList sep.data.toList).2.2])/\∃n,w'=w.drewN n)
 (s sep:Str) (hs:s.length<4294967281):Ku P f [mb.enc s,mb.enc sep] (fun v=>v=(ty3 mb mb nk).enc (Lib.cut s sep)):=by
 refine⟨he,⟨mb.nb 0 _,mb.nb 0 _,trivial⟩,fun C U w hP hw hN0 hM vs hr=>?_⟩;obtain rfl:=ayd hr (u:=.string (sb s)) (v:=.string (sb sep)) (fun _ h=>h) (fun _ h=>h);obtain⟨v,hv,aBQ,_⟩:=C.hk g 0 hk;obtain⟨m,rfl⟩:=hkv v aBQ;rw[hw]at hv;have:=h (sb s) (sb sep) m w (by rw[SK];exact hs) hv;rw[X7,X7]at this;refine this.mono ?_;rintro e w' ⟨rfl,n,rfl⟩;exact⟨_,_,U,rfl,rfl,⟨_,rfl,_,_,rfl,rfl,_,_,rfl,rfl,_,_,rfl,rfl,rfl⟩,dW _,fun _ _=>rfl,fun _ _=>rfl,rfl,rfl⟩
def aqO{t:aMQ}(he:enters P f=true)
 (h:∀(s chars:ByteArray)(w:aMO),2<=chars.size->8<s.size->s.size<4294967281->chars.size<4294967281->(∀(j:Nat) b,chars.data.toList[j]? =some b->b.toNat<128)->
   Calls P f #[.string s,.string chars] w fun e w'=>e=.returned (.int .i64 (Lib.indexAny s.data.toList chars.data.toList))/\∃c d,w'=(w.alloc (.cells c t)).alloc (.cells d t))
 (s chars:Str) (h2:2<=chars.length) (h8:8<s.length) (hs:s.length<4294967281) (hc:chars.length<4294967281) (ha:∀b∈chars,b.toNat<128):
 Ku P f [mb.enc s,mb.enc chars] (fun v=>v=(lR .i64).enc (Lib.indexAny s chars)):=by
 refine⟨he,⟨mb.nb 0 _,mb.nb 0 _,trivial⟩,fun C U w hP hw hN0 hM vs hr=>?_⟩;obtain rfl:=ayd hr (u:=.string (sb s)) (v:=.string (sb chars)) (fun _ h=>h) (fun _ h=>h);have hz:∀x:Str,(sb x).size=x.length:=SK;have:=h (sb s) (sb chars) w (by rw[hz];exact h2) (by rw[hz];exact h8) (by rw[hz];exact hs) (by rw[hz];exact hc) (fun j b hb=>ha b (by grind [X7]));rw[X7,X7]at this;refine this.mono ?_;rintro e w' ⟨rfl,c,d,rfl⟩;have aHn:∀(w:aMO)(o:Obj),w.alloc o=World.more w o:=fun _ _=>rfl
 simp only[aHn];have ho:∀(c:Array aMM) c' t' lo hi,Obj.cells c t=.cells c' t' (lo,hi)->lo=0/\hi=0:=by grind
 refine⟨_,_,U,rfl,rfl,rfl,by simp only[adF];omega,fun b hb=>?_,fun x hx=>?_,rfl,rfl⟩
 ·grind [B8]
 ·rw[wE _ _ (ho d),wE _ _ (ho c)]
section axV
variable {F:Fence}
def ai9(hdf:J.df=[]):∀(ds:List Deferred)(w:aMO)(fr:Frame)(cs:List Frame),fr.mode=.returning->fr.defers=ds->F.fn fr.fn->F.room (cs.length+1+n)->nr C U J {tmps:=fr.tmps,defers:=ds} w->
 ∃w',StepsIn (Machine.fenced C.P F) C.P (lone fr cs w) (lone {fr with defers:=[]} cs w')/\nr C U J {tmps:=fr.tmps,defers:=[]} w'
 |[],w,fr,cs,hm,hd,hb,hr,S=>⟨w,by rw[show({fr with defers:=[]}:Frame)=fr by rw[<-hd]];exact StepsIn.refl _,S⟩
 |d::ds,w,fr,cs,hm,hd,hb,hr,S=>by
  have hmk:agY d=true:=by
   have:=S.defers.2.2;rw[hdf]at this;have aqm:(d::ds).filter (fun d=> !agY d)=[]:=this
   grind
  obtain⟨D,hD,_⟩:=S.defers.2.1 d (List.mem_cons_self) hmk;subst hD;obtain⟨h1,S'⟩:=S.ahm;have ub:fr.mode≠ .run:=by rw[hm];simp
  have aJm:=step_collected (P:=C.P) (cs:=cs) ub hd rfl (run_takeDeferred h1);have i1:(lone fr cs w).fenced C.P F:=fenced_out hb hr ub hd (fun g hg=>by simp [Target.leads]at hg);obtain⟨w',hs,S2⟩:=ai9 hdf ds (w.putObj D (.deferred none)) {fr with defers:=[]++ds} cs hm rfl hb hr S';exact⟨w',.head i1 aJm hs,S2⟩
end axV
def QG(C:tg)(fn:Func)(c₀:Frame)(cs:List Frame)(R:Ending->FrameMode->aMO->Prop):Exit->Act->List Frame->aMO->Prop
 |.normal,a,cs',w|.ret,a,cs',w=>∃u',cs'={c₀ with mode:=u'}::cs/\∃U J,nr C U J a w/\J.df=[]/\
     ∀w',nr C U J {tmps:=a.tmps,defers:=[]} w'->∃v,(results fn a.tmps).run C.P w'=.ok v w'/\R (.returned v) u' w'
 |_,_,_,_=>False
def SM{F:Fence}{fn:Func}{c:aMK}{args:Array aMM}{R:Ending->FrameMode->aMO->Prop}
 (hf:C.P.funcs[f]? =some fn) (hb:fn.body=some c) (hF:F.fn f)
 (h:∀(c₀:Frame)(cs:List Frame),c₀.mode=u->c.wpSIn F n C.P (QG C fn c₀ cs R) {tmps:=args++eb (fn.ntmps-args.size) undef,defers:=[]} (c₀::cs) w):
 CallsDIn F n C.P f args u w R:=by
 refine⟨hF,fun c₀ cs hu Kp=>?_⟩
 let b:Frame:={(default:Frame)with fn:=f,kind:=.deferred,roundOf:=none}
 have aHo:Frame.enter C.P f args .deferred=b.atR {tmps:=args++eb (fn.ntmps-args.size) undef,defers:=[]} [.code c]:=by
  grind [Frame.enter,Frame.atR]
 obtain⟨e,a',cs',w',hl,hq,anY⟩:=h c₀ cs hu b [] rfl rfl hF Kp;rw[<-aHo]at anY;cases e with
 |normal=>
  obtain⟨u',rfl,U,J,S,hdf,hw⟩:=hq;obtain⟨w2,hs,S2⟩:=ai9 (F:=F) (n:=n) hdf a'.defers w' {b.atR a' []with mode:=.returning} ({c₀ with mode:=u'}::cs) rfl rfl hF Kp S;obtain⟨v,hr,hR⟩:=hw w2 S2;exact⟨.returned v,u',w2,_,hR,StepsIn.trans (StepsIn.trans anY (.one (fenced_calm (fr:=b.atR a' []) hF Kp rfl) (stepR_end rfl))) hs,rfl,rfl,rfl,rfl,fn,hf,hr⟩
 |ret=>
  obtain⟨u',rfl,U,J,S,hdf,hw⟩:=hq;obtain⟨todo,hs0⟩:=anY.1 rfl;obtain⟨w2,hs,S2⟩:=ai9 (F:=F) (n:=n) hdf a'.defers w' {b.atR a' todo with mode:=.returning} ({c₀ with mode:=u'}::cs) rfl rfl hF Kp S;obtain⟨v,hr,hR⟩:=hw w2 S2;exact⟨.returned v,u',w2,_,hR,StepsIn.trans hs0 hs,rfl,rfl,rfl,rfl,fn,hf,hr⟩
 |panic chain=>exact hq.elim
 |exit id=>exact hq.elim
 |goto l=>exact hq.elim
 |outgrown=>exact hq.elim
def X8(P:aMN)(ky:Array aMJ):List aMJ->(jX->Prop)->jX->Prop
 |[],K,J=>K J
 |o::rest,K,J=>qE ky o J=some true/\∃e,lC P J o.op=some e/\e.pre/\X8 P ky rest K (J.app o.dst e)
def UH{C:tg}{ky:Array aMJ}{K:jX->Prop}{cs:List Frame}{Q:Exit->Act->List Frame->aMO->Prop}
 (hQ:∀U J a w,nr C U J a w->K J->Q .normal a cs w):∀(rest:List aMJ)(k:Nat),ky.toList.drop k=rest->∀(U:Nat->aMM)(J:jX)(a:Act)(w:aMO),
 X8 C.P ky rest K J->nr C U J a w->wpOpsSIn Fence.wide 0 C.P ky Q (eM k rest.length) a cs w
 |[],k,_,U,J,a,w,h,S=>hQ U J a w S h
 |o::rest,k,hk,U,J,a,w,h,S=>by
  have ho:ky[k]? =some o:=by
   have:=congrArg (fun l:List aMJ=>l[0]?) hk;simpa using this
  have qz:ky.toList.drop (k+1)=rest:=by
   grind [List.tail_drop]
  obtain⟨hw,e,he,hp,hr⟩:=h;simp only[ec,List.range'_succ,wpOpsSIn,ho];refine⟨fun _ _=>trivial,?_⟩;rw[zj S hw,if_pos rfl];obtain⟨m,v,w',U',ub,hn,S'⟩:=SB S he hp;rw[ub];rcases hn with rfl|⟨rfl,rfl⟩
  ·exact UH hQ rest (k+1) qz U' _ _ w' hr S'
  ·exact UH hQ rest (k+1) qz U' _ _ w' hr S'
def aj3(o:aMJ):Bool:=match o.op with
 |.call {callee:=.builtin .recover,args,..}=>args.isEmpty&&o.guard.isNone
 |_=>false
def atH(P:aMN)(rs:List ResultVar)(V:uP->List kp->Prop):nW->jX->Prop
 |.normal,J=>J.df=[]/\ai0 P rs V none J
 |.ret,J=>J.df=[]/\ai0 P rs V none J
 |_,_=>False
def afc{fn:Func}{id:Nat}{rest:List aMJ}{u':FrameMode}{v:aMM}{vs0:Array aMM}
 (hf:C.P.funcs[f]? =some fn) (hb:fn.body=some (.seq (.region id ky false) y)) (akB:ky.toList=o::rest) (aah:aj3 o=true)
 (aJn:∀(c₀:Frame)(cs:List Frame),c₀.mode=u->recoverD (c₀::cs)=some (v,{c₀ with mode:=u'}::cs)\/(recoverD (c₀::cs)=none/\v=.nilIface/\u'=u)) (hn:fn.ntmps=n) (Kg:fn.results=rs.toArray) (hN0:C.N0=H.length) (HS:aDC C U H w) (hra:kQ (C.env U H w) args vs0.toList) (hrx:pO (C.env U H w) x v)
 (h:X8 C.P ky rest (fun J1=>∃J2,Kr J1 J2/\awp C.P y (atH C.P rs V) J2) (jX.put {kr:=args++dO (n-args.length) .any,heap:=H,low:=H.length} o.dst x)):
 CallsDIn Fence.wide 0 C.P f vs0 u w (fun e u2 w'=>∃r,e=.returned r/\u2=u'/\∃o U' H',V o H'/\nr C U' {kr:=[],heap:=H',low:=H.length} {tmps:= #[],defers:=[]} w'/\o.rep (C.env U' H' w') (.returned r)):=by
 have hsz:vs0.size=args.length:=by have:=hra.length;simpa using this
 have S:nr C U {kr:=args++dO (n-args.length) .any,heap:=H,low:=H.length} {tmps:=vs0++eb (fn.ntmps-vs0.size) undef,defers:=[]} w:=by
  refine {HS with kr:=?_,defers:=xj.nil};simp only[ep,eF];refine hra.append ?_;rw[hsz,hn];have:=kQ.Er (E:=C.env U H w) (dO (n-args.length) undef);simpa using this
 have HC:∀{U':Nat->aMM}{J':jX}{a'':Act}{w'':aMO},nr C U' J' a'' w''->J'.low=H.length:=fun S'=>by rw[<-S'.low.1];exact hN0
 refine SM hf hb trivial ?_;intro c₀ cs hu;refine wpSIn_seq (wpSIn_region ?_)
 have Sz:dU ky.size=0::eM 1 rest.length:=by
  grind [Array.length_toList,List.range_eq_range',List.range'_succ]
 have ho:ky[0]? =some o:=by
  have:ky.toList[0]? =some o:=by rw[akB];rfl
  simpa using this
 rw[Sz];simp only[wpOpsSIn,ho];refine⟨fun _ _=>trivial,?_⟩
 have ub:(execOp (Act.eval {tmps:=vs0++eb (fn.ntmps-vs0.size) undef,defers:=[]}) o).run C.P w=.ok .recover w/\o.guard=none:=by
  unfold aj3 at aah;split at aah
  all_goals simp_all [execOp,resolve,invoke,builtin]
 have hw:Region.wanted o (yielded ky (vs0++eb (fn.ntmps-vs0.size) undef))=true:=by
  unfold Region.wanted;rw[ub.2]
 rw[hw,if_pos rfl,ub.1];have S1:=S.put o.dst hrx
 have key:wpOpsSIn Fence.wide 0 C.P ky (Exit.thenS (y.wpSIn Fence.wide 0 C.P (QG C fn c₀ cs (fun e u2 w'=>∃r,e=.returned r/\u2=u'/\∃o U' H',V o H'/\nr C U' {kr:=[],heap:=H',low:=H.length} {tmps:= #[],defers:=[]} w'/\o.rep (C.env U' H' w') (.returned r))))
  (QG C fn c₀ cs (fun e u2 w'=>∃r,e=.returned r/\u2=u'/\∃o U' H',V o H'/\nr C U' {kr:=[],heap:=H',low:=H.length} {tmps:= #[],defers:=[]} w'/\o.rep (C.env U' H' w') (.returned r)))) (eM 1 rest.length)
  (Act.put {tmps:=vs0++eb (fn.ntmps-vs0.size) undef,defers:=[]} o.dst v) ({c₀ with mode:=u'}::cs) w:=by
  refine UH (K:=fun J1=>∃J2,Kr J1 J2/\awp C.P y (atH C.P rs V) J2) ?_ rest 1 (by rw[akB];rfl) U _ _ w h S1;rintro U1 J1 a1 w1 S1 ⟨J2,He,hy⟩;obtain⟨U2,S2⟩:=He C U1 a1 w1 S1;refine wpSIn_of_wpIn rfl (wpIn_mono (xR (ro:=none) y _ U2 J2 a1 w1 (.inl rfl) hy S2) ?_);intro e a' w' hq
  have uA:∀U' J',nr C U' J' a' w'->J'.df=[]/\ai0 C.P rs V none J'->QG C fn c₀ cs (fun e u2 w'=>∃r,e=.returned r/\u2=u'/\∃o U' H',V o H'/\nr C U' {kr:=[],heap:=H',low:=H.length} {tmps:= #[],defers:=[]} w'/\o.rep (C.env U' H' w') (.returned r)) .normal a' ({c₀ with mode:=u'}::cs) w':=by
   rintro U' J' S' ⟨hdf,xr,hx,r,H',hex,hV'⟩;refine⟨_,rfl,U',J',S',hdf,fun w'' S''=>?_⟩;obtain⟨vv,hv,rv⟩:=N2 (fn:=fn) S'' (by rw[Kg];exact hx);obtain⟨U3,S3,hr3⟩:=hex C U' _ w'' S'' vv rv;rw[HC S'']at S3;exact⟨vv,hv,vv,rfl,rfl,.ret r,U3,H',hV',S3,hr3⟩
  cases e with
  |normal=>obtain⟨U',J',S',hq⟩:=hq;exact uA U' J' S' hq
  |ret=>obtain⟨U',J',S',hq⟩:=hq;exact uA U' J' S' hq
  |exit id=>obtain⟨_,_,_,hq⟩:=hq;exact hq.elim
  |goto l=>obtain⟨_,_,_,hq⟩:=hq;exact hq.elim
  |panic chain=>obtain⟨_,_,_,_,_,hq,_⟩:=hq;exact hq.elim
  |outgrown=>exact hq.elim
 rcases aJn c₀ cs hu with hm|⟨hm,hv,hu'⟩
 ·simp only[hm];exact key
 ·simp only[hm];subst hv hu';rw[show({c₀ with mode:=u'}:Frame)=c₀ by rw[<-hu]]at key;exact key
def akC{fn:Func}{id:Nat}{rest:List aMJ}(hf:P.funcs[f]? =some fn)(hb:fn.body=some (.seq (.region id ky false) y))(akB:ky.toList=o::rest)(aah:aj3 o=true)
 (Nb:xB H.length (args++[x])) (IP:∀x∈H,sj H.length x) (hn:fn.ntmps=n) (Kg:fn.results=rs.toArray)
 (h:X8 P ky rest (fun J1=>∃J2,Kr J1 J2/\awp P y (atH P rs V) J2) (jX.put {kr:=args++dO (n-args.length) .any,heap:=H,low:=H.length} o.dst x)):FnT P (an0 P f) (args++[x]) H V:=by
 refine⟨Nb,IP,fun C U w hP h0 hN0 hφ0 hM HS vs hr vs0 v hvs=>?_⟩;subst hP;subst hvs
 have hr':kQ (C.env U H w) args vs0.toList/\pO (C.env U H w) x v:=by
  rw[Array.toList_push]at hr
  have hl:vs0.toList.length=args.length:=by
   have:=hr.length;simp at this;simpa using this
  have h1:=hr.take args.length;have h2:=hr.drop args.length;rw[dX rfl,dX hl]at h1;rw[dY rfl,dY hl]at h2;obtain⟨u,us,he,r1,_⟩:=h2
  grind
 refine xn (afc (u':=.panicking [{v,recovered:=true}]) hf hb akB aah (fun c₀ cs hu=>.inl (by simp only[recoverD,hu])) hn Kg hN0 HS hr'.1 hr'.2 h) ?_;rintro e u' w' ⟨r,rfl,rfl,qz⟩;exact⟨r,rfl,.inl ⟨rfl,qz⟩⟩
def akD{fn:Func}{id:Nat}{rest:List aMJ}(hf:P.funcs[f]? =some fn)(hb:fn.body=some (.seq (.region id ky false) y))(akB:ky.toList=o::rest)(aah:aj3 o=true)
 (Nb:xB H.length args) (IP:∀x∈H,sj H.length x) (hn:fn.ntmps=n) (Kg:fn.results=rs.toArray)
 (h:X8 P ky rest (fun J1=>∃J2,Kr J1 J2/\awp P y (atH P rs V) J2) (jX.put {kr:=args++dO (n-args.length) .any,heap:=H,low:=H.length} o.dst (.uE .nilIface))):FnT P (anZ P f) args H V:=by
 refine⟨Nb,IP,fun C U w hP h0 hN0 hφ0 hM HS vs hr=>?_⟩;subst hP;refine xn (afc (u':=.returning) (x:=.uE .nilIface) (v:=.nilIface) hf hb akB aah (fun c₀ cs hu=>.inr ⟨by simp only[recoverD,hu],rfl,rfl⟩) hn Kg hN0 HS hr rfl h) ?_;rintro e u' w' ⟨r,rfl,rfl,qz⟩;exact⟨r,rfl,rfl,qz⟩
section run

def aj4{ky:Array aMJ}{K:jX->Prop}:∀(rest:List aMJ)(J:jX)(e:nW)(J':jX),rest.all (fun o=>amo o.op&&(match o.op with|.call _=>false|.defer _=>false|_=>o.guard.isNone))=true->vq M ky rest J=some (e,J')->K J'->X8 M.P ky rest K J
 |[],J,e,J',_,h,hK=>by simp only[vq,dN,dQ]at h;obtain⟨_,rfl⟩:=h;exact hK
 |o::rest,J,e,J',hc,h,hK=>by
  rw[List.all_cons,dZ,dZ]at hc;obtain⟨⟨h1,h2⟩,h3⟩:=hc
  have hg:o.guard=none:=by
   split at h2
   all_goals simp_all
  have hw:qE ky o J=some true:=by unfold qE;rw[hg]
  have hgs:vB ky o true J=J:=aqq hw;simp only[vq,hw,jK,hgs,aby h1,as8 h1]at h
  have hy:Gt J o.op=none:=by
   unfold Gt
   grind
  have hd:Gu J o.op=none:=by
   unfold Gu
   grind
  simp only[hy,hd]at h;cases he:lC M.P J o.op with
  |none=>simp only[he]at h;cases h
  |some e'=>
   simp only[he]at h;rw[mO]at h;exact⟨hw,e',he,h.1,aj4 rest _ e J' h3 h.2 hK⟩
def adP(rest:List aMJ):Bool:=rest.all fun o=>amo o.op&&(match o.op with|.call _=>false|.defer _=>false|_=>o.guard.isNone)
def aye{id:Nat}{rest:List aMJ}{Q:nW->jX->Prop}{r:R}(G:Fh M)(Md:M.body= .seq (.region id ky false) y)(atI:adP rest=true)
 (ai4:∀J,M.out J=some r->Q .normal J/\Q .ret J) (h:run M [.ky ky rest,.cut [1],.at [1]] J=some r) (hP:∀x J',M.pT x J'=none:=by intros;rfl):X8 M.P ky rest (fun J1=>∃J2,Kr J1 J2/\awp M.P y Q J2) J:=by
 have h':uA M [.ky ky rest,.cut [1],.at [1]] .normal J=some r:=h;rw[qD (by simp)]at h';simp only[zy]at h';cases hx:vq M ky rest J with
 |none=>simp only[hx]at h';cases h'
 |some q=>
  obtain⟨e,J1⟩:=q
  have aJo:e=.normal:=XY rest J e J1 (by
   grind [adP]) hx
  subst aJo;simp only[hx]at h';refine aj4 rest J _ J1 atI hx ?_;rw[qD (by simp)]at h';simp only[zy]at h';cases aGC:M.cut [1] J1 with
  |none=>grind
  |some J2=>
   simp only[aGC,Option.map_some]at h';refine⟨J2,G.cut _ _ _ aGC,?_⟩;have h1:sub [1] M.body=y:=by rw[Md];rfl
   rw[qD (by simp)]at h';simp only[zy,h1]at h';cases hx2:exec M y [1] J2 with
   |none=>simp only[hx2]at h';cases h'
   |some q=>
    obtain⟨e2,J3⟩:=q;simp only[hx2]at h';refine zx G _ [1] _ _ e2 J3 hx2 ?_;cases e2 with
    |normal=>exact(ai4 J3 h').1
    |ret=>exact(ai4 J3 h').2
    |panic x=>simp only[uA,hP]at h';cases h'
    |_=>simp only[uA]at h';cases h'
end run
inductive PR(W O:Type) where
 |ok (x:W)
 |pn (y:O)
def EZ(q:PR W O)(f:W->γ)(g:O->γ):γ:=match q with
 |.ok x=>f x
 |.pn y=>g y
def awN{x:W}{f:W->γ}{g:O->γ}:EZ (.ok x) f g=f x:=rfl
def aHp{y:O}{f:W->γ}{g:O->γ}:EZ (.pn y) f g=g y:=rfl
abbrev akE:=List AV->List kp->Option (uP×List kp)
section aj5
variable {Y:Type}
def aj5(pos:List R6)(os:OL O)(as:AL W)(sz:Nat)(en:Y->uP×List kp)(F:O->W->Option Y):akE:=fun args H=>
 (an5 args H pos []).bind fun Y=>bif IR Y&&(decide (os.lZ<=Y.length)&&(decide (as.lZ<=Y.length)&&decide (Y.length<=sz)))then
   (so (ajZ H) Y).bind fun xs=>(os.mL Y (ahy xs) H xs).bind fun b=>(as.mL Y (ahy xs) H args).bind fun a=>(F b a).bind fun q=>
     some ((en q).1.qC (oG Y H.length),wP Y H (en q).2)else none
def atJ(hT:abw T)(hz:∀(U U':Nat->aMM)(k k':Nat),T (U k)=T (U' k')){pos:List R6}{os:OL O}{as:AL W}{sz:Nat}{en:Y->uP×List kp}{F:O->W->Option Y}(hsz:∀q,sz<=(en q).2.length) {o:uP} (he:aj5 pos os as sz en F args J.heap=some (o,H')):
 ∃b a q,F b a=some q/\(FnT P T (as.enc (os.mX b) a) (os.enc (os.mX b) b) (fun o H'=>o=(en q).1/\H'=(en q).2)->SI P T 0 args J (fun o' EX=>o'=o/\EX=H')):=by
 unfold aj5 at he;simp only[dM]at he;obtain⟨Y,hρ,he⟩:=he;cases hc:(IR Y&&(decide (os.lZ<=Y.length)&&(decide (as.lZ<=Y.length)&&decide (Y.length<=sz))))with
 |false=>simp [hc]at he
 |true=>
  simp only[hc,jK,dM,dN,dQ]at he;obtain⟨xs,hxs,b,hb,a,ha,q,hq,rfl,rfl⟩:=he;refine⟨b,a,q,hq,fun hfn=>?_⟩;simp only[dZ,jP]at hc;obtain⟨hnd,n1,n2,n3⟩:=hc;obtain⟨h1,h2⟩:=V7 hxs
  have atz:∀m,m<=Y.length->Cov Y m J.heap.length:=by
   intro m hm k hk;have OZ:k<Y.length:=by omega
   obtain⟨x,hx,VO⟩:=h2 k _ (dR OZ)
   grind
  have hL:os.mX b=ahy xs:=funext fun k=>os.ai7 Y _ _ _ _ hb k
  obtain⟨h3,h4⟩:=os.ok Y _ J.heap J.heap.length _ _ (atz _ n1) hb;have abr:∀l,l<Y.length->atN Y l=oG Y J.heap.length l:=fun l hl=>by unfold oG atN;rw[if_pos hl]
  rw[<-hL]at ha h4;refine aBA hT hfn (Qq hnd) (by rw[h1,h3,os.sz]) (eL n3 (hsz q)) (fun U=>hz _ _ _ _) ?_ ?_
  ·intro i k hi;obtain⟨x,hx,VO⟩:=h2 i k hi;have me:i<(os.enc (os.mX b) b).length:=by rw[os.sz,<-h3,<-h1];grind
   have hy:=dR me;obtain⟨x2,hx2,hcc⟩:=h4 i _ hy;rw[hx]at hx2;cases hx2;refine⟨x,_,VO,hy,?_⟩;rw[<-ahw (n:=os.lZ) (fun l hl=>abr l (by omega)) _ (os.nb _ _ _ (ew hy))];exact hcc
  ·rw[<-Di (n:=as.lZ) (fun l hl=>abr l (by omega)) _ (as.nb _ _)];exact as.ok Y _ J.heap _ _ _ (atz _ n2) ha
end aj5
section wI
variable {W2 O2:Type}
def pkO(pk:Bool)(x:AV):uP:=match pk with
 |true=>.panic x
 |false=>.ret x
def aJp:pkO true x=.panic x/\pkO false x=.ret x:=⟨rfl,rfl⟩
def aEN{pk:Bool}:(pkO pk x).qC τ=pkO pk (x.qC τ):=by cases pk<;>rfl
def enP(pk:Bool)(uB:OL O1)(AG:AL W1)(BK:OL O2)(Jn:AL W2)(q:PR (O1×W1) (O2×W2)):uP×List kp:=
 EZ q (fun r=>(.ret (n6 (AG.enc (uB.mX r.1) r.2)),uB.enc (uB.mX r.1) r.1)) (fun r=>(pkO pk (n6 (Jn.enc (BK.mX r.1) r.2)),BK.enc (BK.mX r.1) r.1))
def aHq{pk:Bool}{uB:OL O1}{AG:AL W1}{BK:OL O2}{Jn:AL W2}(q:PR (O1×W1) (O2×W2)):min uB.size BK.size<=(enP pk uB AG BK Jn q).2.length:=by
 cases q with
 |ok r=>simp only[enP,EZ,uB.sz];exact Nat.min_le_left _ _
 |pn r=>simp only[enP,EZ,BK.sz];exact Nat.min_le_right _ _
def wI(pk:Bool)(pos:List R6)(os:OL O)(as:AL W)(uB:OL O1)(AG:AL W1)(BK:OL O2)(Jn:AL W2)(F:O->W->Option (PR (O1×W1) (O2×W2))):akE:=fun args H=>
 (an5 args H pos []).bind fun Y=>bif IR Y&&(decide (os.lZ<=Y.length)&&(decide (as.lZ<=Y.length)&&(decide (Y.length<=uB.size)&&decide (Y.length<=BK.size)))) then
   (so (ajZ H) Y).bind fun xs=>(os.mL Y (ahy xs) H xs).bind fun b=>(as.mL Y (ahy xs) H args).bind fun a=>(F b a).bind fun q=>
     EZ q (fun r=>some (.ret ((n6 (AG.enc (uB.mX r.1) r.2)).qC (oG Y H.length)),wP Y H (uB.enc (uB.mX r.1) r.1)))
      (fun r=>some (pkO pk ((n6 (Jn.enc (BK.mX r.1) r.2)).qC (oG Y H.length)),wP Y H (BK.enc (BK.mX r.1) r.1)))else none
theorem aBR{pk:Bool}{pos:List R6}{os:OL O}{as:AL W}{uB:OL O1}{AG:AL W1}{BK:OL O2}{Jn:AL W2}{F:O->W->Option (PR (O1×W1) (O2×W2))}:
 wI pk pos os as uB AG BK Jn F args H=aj5 pos os as (min uB.size BK.size) (enP pk uB AG BK Jn) F args H:=by
 unfold wI aj5;congr 1;funext Y
 have:decide (Y.length<=min uB.size BK.size)=(decide (Y.length<=uB.size)&&decide (Y.length<=BK.size)):=by
  grind
 rw[this];congr 1;congr 1;funext xs;congr 1;funext b;congr 1;funext a;congr 1;funext q;cases q with
 |ok r=>rfl
 |pn r=>simp only[EZ,enP,aEN]
def aBS(P:aMN)(f:aML)(e:akE):Prop:=∀args J o H',e args J.heap=some (o,H')->BE P f args J (fun o' EX=>o'=o/\EX=H')
def FnP(P:aMN)(f:aML)(args:List AV)(H:List kp)(x:uP×List kp):Prop:=Kk P f args H (fun o H'=>o=x.1/\H'=x.2)
def kS{pk:Bool}{pos:List R6}{os:OL O}{as:AL W}{uB:OL O1}{AG:AL W1}{BK:OL O2}{Jn:AL W2}{F:O->W->Option (PR (O1×W1) (O2×W2))}
 (h:∀b a r,F b a=some r->FnP P f (as.enc (os.mX b) a) (os.enc (os.mX b) b) (enP pk uB AG BK Jn r)):aBS P f (wI pk pos os as uB AG BK Jn F):=by
 intro args J o H' he;rw[aBR]at he;obtain⟨b,a,q,hq,xk⟩:=atJ (P:=P) (T:=fun _ w vs R=>Calls P f vs w R) af4 (fun _ _ _ _=>rfl) aHq he;exact⟨(h b a q hq).1,xk (h b a q hq).2⟩
def ahD:∀(Y:List Nat)(xs H:List kp),mN H (Y.zip xs)=sH H Y xs
 |[],_,_=>by simp [mN,sH]
 |_::_,[],_=>by simp [mN,sH]
 |l::Y,x::xs,H=>by
  simp only[List.zip_cons_cons,mN,sH];exact ahD Y xs _
def E0(pos:List R6)(os:OL O)(as:AL W)(uB:OL O1)(AG:AL W1)(BK:OL O2)(Jn:AL W2)(F:O->W->Option (PR (O1×W1) (O2×W2))):List AV->List kp->Option CO:=fun args H=>
 (an5 args H pos []).bind fun Y=>bif IR Y&&(decide (os.lZ<=Y.length)&&(decide (as.lZ<=Y.length)&&(decide (Y.length<=uB.size)&&decide (Y.length<=BK.size)))) then
   (so (ajZ H) Y).bind fun xs=>(os.mL Y (ahy xs) H xs).bind fun b=>(as.mL Y (ahy xs) H args).bind fun a=>(F b a).bind fun q=>
     EZ q (fun r=>some (.ret {val:=(n6 (AG.enc (uB.mX r.1) r.2)).qC (oG Y H.length),rd:=Y,up:=Y.zip ((uB.enc (uB.mX r.1) r.1).map (kp.qC (oG Y H.length))),nw:=((uB.enc (uB.mX r.1) r.1).drop Y.length).map (kp.qC (oG Y H.length)),whole:=true}))
      (fun r=>some (.pan ((n6 (Jn.enc (BK.mX r.1) r.2)).qC (oG Y H.length)) (wP Y H (BK.enc (BK.mX r.1) r.1))))else none
def aqP(P:aMN)(f:aML)(e:List AV->List kp->Option CO):Prop:=∀args (J:jX),(∀ef,e args J.heap=some (.ret ef)->NY P f args J ef)/\∀x H',e args J.heap=some (.pan x H')->al7 P f args J.heap x H'
def zB{pos:List R6}{os:OL O}{as:AL W}{uB:OL O1}{AG:AL W1}{BK:OL O2}{Jn:AL W2}{F:O->W->Option (PR (O1×W1) (O2×W2))}
 (h:∀b a r,F b a=some r->FnP P f (as.enc (os.mX b) a) (os.enc (os.mX b) b) (enP true uB AG BK Jn r)):aqP P f (E0 pos os as uB AG BK Jn F):=by
 have hP:=kS (pos:=pos) h;intro args J
 have key:∀c,E0 pos os as uB AG BK Jn F args J.heap=some c->∃Y,(∀l∈Y,l<J.heap.length)/\((∃ef,c=.ret ef/\(ef.rd=Y/\ef.whole=true/\∀l∈ef.up.map (·.1),l∈Y)/\wI true pos os as uB AG BK Jn F args J.heap=some (.ret ef.val,mN J.heap ef.up++ef.nw))\/∃x H',c=.pan x H'/\wI true pos os as uB AG BK Jn F args J.heap=some (.panic x,H')):=by
  intro c he;unfold E0 at he;simp only[dM]at he;obtain⟨Y,hρ,he⟩:=he;cases hc:(IR Y&&(decide (os.lZ<=Y.length)&&(decide (as.lZ<=Y.length)&&(decide (Y.length<=uB.size)&&decide (Y.length<=BK.size)))))with
  |false=>simp [hc]at he
  |true=>
   simp only[hc,jK,dM]at he;obtain⟨xs,hxs,b,hb,a,ha,q,hq,he⟩:=he;refine⟨Y,fun l hl=>?_,?_⟩
   ·obtain⟨i,hi⟩:=eo hl;obtain⟨x,_,VO⟩:=(V7 hxs).2 i l hi
    grind
   ·have abj:wI true pos os as uB AG BK Jn F args J.heap=EZ q (fun r=>some (.ret ((n6 (AG.enc (uB.mX r.1) r.2)).qC (oG Y J.heap.length)),wP Y J.heap (uB.enc (uB.mX r.1) r.1)))
     (fun r=>some (.panic ((n6 (Jn.enc (BK.mX r.1) r.2)).qC (oG Y J.heap.length)),wP Y J.heap (BK.enc (BK.mX r.1) r.1))):=by
     simp_all [wI,pkO]
    cases q with
    |ok r=>
     simp only[EZ,dN]at he;subst he;left;refine⟨_,rfl,⟨rfl,rfl,fun l hl=>?_⟩,?_⟩
     ·simp only[eJ]at hl;obtain⟨p,hp,rfl⟩:=hl;exact(List.of_mem_zip hp).1
     ·rw[abj];simp only[EZ,ahD];rfl
    |pn r=>
     grind [EZ]
 refine⟨fun ef he=>?_,fun x H' he=>?_⟩
 ·obtain⟨Y,me,⟨ef',hc,⟨h1,h2,h3⟩,hx⟩|⟨_,_,hc,_⟩⟩:=key _ he
  ·simp only[CO.ret.injEq]at hc;subst hc;refine⟨⟨by rw[h1];exact me,by rw[h1];exact h3⟩,fun J' _ _ hw=>?_⟩;have hh:=hw h2;have:=hP args J' (.ret ef.val) (mN J.heap ef.up++ef.nw) (by rw[hh];exact hx);rw[hh];exact this
  ·cases hc
 ·obtain⟨Y,me,⟨ef',hc,_⟩|⟨x',H2,hc,hx⟩⟩:=key _ he
  ·cases hc
  ·simp only[CO.pan.injEq]at hc;obtain⟨rfl,rfl⟩:=hc;intro J' hh;exact hP args J' (.panic x) H' (by rw[hh];exact hx)
end wI
def Aj:List (Nat×akE)->aML->akE
 |[],_,_,_=>none
 |(g,e)::t,f,args,H=>if f=g then e args H else Aj t f args H
def lT:∀f args (J:jX) o H',Aj [] f args J.heap=some (o,H')->BE P f args J (fun o' EX=>o'=o/\EX=H'):=by
 intro f args J r H' h;cases h
def kz{e:akE}{t:List (Nat×akE)}(h1:aBS P g e)(h2:∀f args (J:jX) o H',Aj t f args J.heap=some (o,H')->BE P f args J (fun o' EX=>o'=o/\EX=H')):
 ∀f args (J:jX) o H',Aj ((g,e)::t) f args J.heap=some (o,H')->BE P f args J (fun o' EX=>o'=o/\EX=H'):=by
 intro f args J r H' h;simp only[Aj]at h;split at h
 ·rename_i hg;subst hg;exact h1 _ _ _ _ h
 ·exact h2 _ _ _ _ _ h
def Mc:List (Nat×(List AV->List kp->Option CO))->aML->List AV->List kp->Option CO
 |[],_,_,_=>none
 |(g,e)::t,f,args,H=>if f=g then e args H else Mc t f args H
def qL:∀f args (J:jX),(∀e,Mc [] f args J.heap=some (.ret e)->NY P f args J e)/\∀x H',Mc [] f args J.heap=some (.pan x H')->al7 P f args J.heap x H':=by
 intro f args J;exact⟨fun e h=>(by cases h),fun x H' h=>(by cases h)⟩
def mw{e:List AV->List kp->Option CO}{t:List (Nat×(List AV->List kp->Option CO))}(h1:aqP P g e)(h2:∀f args (J:jX),(∀e,Mc t f args J.heap=some (.ret e)->NY P f args J e)/\∀x H',Mc t f args J.heap=some (.pan x H')->al7 P f args J.heap x H'):
 ∀f args (J:jX),(∀ef,Mc ((g,e)::t) f args J.heap=some (.ret ef)->NY P f args J ef)/\∀x H',Mc ((g,e)::t) f args J.heap=some (.pan x H')->al7 P f args J.heap x H':=by
 intro f args J;simp only[Mc];by_cases hg:f=g
 ·subst hg;simp only[jQ];exact h1 args J
 grind
abbrev R7:=aML->List AV->List kp->Option (uP×List kp)
variable {cr:R7}
section unw

def aak(cr cp:R7)(en:Option AV->jX->Option R):List (aML×List AV)->Option AV->jX->Option R
 |[],m,J=>en m J
 |(f,args)::ds,none,J=>(cr f args J.heap).bind fun q=>match q with
  |(.ret _,H')=>aak cr cp en ds none {J with heap:=H',df:=ds}
  |(.panic _,_)=>none
 |(f,args)::ds,some x,J=>(cp f (args++[x]) J.heap).bind fun q=>match q with
  |(.ret _,H')=>aak cr cp en ds none {J with heap:=H',df:=ds}
  |(.panic x',H')=>aak cr cp en ds (some x') {J with heap:=H',df:=ds}
theorem atK {cp:R7}{en:Option AV->jX->Option R}{m:Option AV}:aak cr cp en [] m J=en m J:=by cases m<;>rfl
def aJq(cr cp:R7)(en:Option AV->jX->Option R)(ds:List (aML×List AV))(J:jX):uP×List kp->Option R
 |(.ret _,H')=>aak cr cp en ds none {J with heap:=H',df:=ds}
 |(.panic x',H')=>aak cr cp en ds (some x') {J with heap:=H',df:=ds}
def aJr(cr cp:R7)(en:Option AV->jX->Option R)(ds:List (aML×List AV))(J:jX):uP×List kp->Option R
 |(.ret _,H')=>aak cr cp en ds none {J with heap:=H',df:=ds}
 |(.panic x',H')=>none
def aBT {cp:R7}{en:Option AV->jX->Option R}:aak cr cp en ((f,args)::ds) none J=(cr f args J.heap).bind (aJr cr cp en ds J):=by
 simp only[aak];congr 1
def aBU {cp:R7}{en:Option AV->jX->Option R}:aak cr cp en ((f,args)::ds) (some x) J=(cp f (args++[x]) J.heap).bind (aJq cr cp en ds J):=by
 simp only[aak];congr 1
def QOK(P:aMN)(T:aML->aMM->aMO->Array aMM->(Ending->aMO->Prop)->Prop)(c:R7):Prop:=∀f args (J:jX) o H',c f args J.heap=some (o,H')->enters P f=true/\SI P (T f) 0 args J (fun o' EX=>o'=o/\EX=H')
def SI.mono(hT:abw T){K K':uP->List kp->Prop}(h:SI P T l args J K)(hk:∀o H,K o H->K' o H):SI P T l args J K':=by
 intro C U a w hP S vs hr;refine hT.mono _ _ _ _ _ ?_ (h C U a w hP S vs hr)
 grind
def X9{P:aMN}{cr cp:R7}{en:Option AV->jX->Option R}{uA:Option AV->jX->Prop}{r:R}(hr:QOK P (anZ P) cr)(hp:QOK P (an0 P) cp)(he:∀m J,J.df=[]->en m J=some r->uA m J):
 ∀(ds:List (aML×List AV))(m:Option AV)(J:jX),J.df=ds->aak cr cp en ds m J=some r->ahp P uA ds m J
 |[],m,J,hd,h=>by rw[atK]at h;exact he m J hd h
 |(f,args)::ds,none,J,hd,h=>by
  simp only[aak,dM]at h;obtain⟨⟨o,H'⟩,hc,h⟩:=h;obtain⟨h1,h2⟩:=hr f args {J with df:=ds} o H' hc;refine⟨h1,h2.mono aiY ?_⟩;rintro o' EX ⟨rfl,rfl⟩;cases o' with
  |ret x=>exact X9 hr hp he ds none _ rfl h
  |panic x=>cases h
 |(f,args)::ds,some x,J,hd,h=>by
  simp only[aak,dM]at h;obtain⟨⟨o,H'⟩,hc,h⟩:=h;obtain⟨h1,h2⟩:=hp f (args++[x]) {J with df:=ds} o H' hc;refine⟨h1,h2.mono aiZ ?_⟩;rintro o' EX ⟨rfl,rfl⟩;cases o' with
  |ret x=>exact X9 hr hp he ds none _ rfl h
  |panic x=>exact X9 hr hp he ds (some x) _ rfl h
def QH:List (Nat×akE)->R7
 |[],_,_,_=>none
 |(g,e)::t,f,args,H=>if f=g then e args H else QH t f args H
def N7{T:aML->aMM->aMO->Array aMM->(Ending->aMO->Prop)->Prop}:QOK P T (QH []):=by
 intro f args J o H' h;cases h
def Kz{T:aML->aMM->aMO->Array aMM->(Ending->aMO->Prop)->Prop}{e:akE}{t:List (Nat×akE)}(h1:∀args (J:jX) o H',e args J.heap=some (o,H')->enters P g=true/\SI P (T g) 0 args J (fun o' EX=>o'=o/\EX=H'))(h2:QOK P T (QH t)):QOK P T (QH ((g,e)::t)):=by
 intro f args J o H' h;simp only[QH]at h;split at h
 ·grind
 ·exact h2 _ _ _ _ _ h
def enR(uB:OL O1)(AG:AL W1)(r:O1×W1):uP×List kp:=(.ret (n6 (AG.enc (uB.mX r.1) r.2)),uB.enc (uB.mX r.1) r.1)
def Mf(pos:List R6)(os:OL O)(as:AL W)(uB:OL O1)(AG:AL W1)(F:O->W->Option (O1×W1)):akE:=aj5 pos os as uB.size (enR uB AG) F
def V9(hT:abw T)(hz:∀(U U':Nat->aMM)(k k':Nat),T (U k)=T (U' k'))(hen:enters P f=true){pos:List R6}{os:OL O}{as:AL W}{uB:OL O1}{AG:AL W1}{F:O->W->Option (O1×W1)}
 (h:∀b a r,F b a=some r->FnT P T (as.enc (os.mX b) a) (os.enc (os.mX b) b) (fun o H'=>o=(enR uB AG r).1/\H'=(enR uB AG r).2)):∀args (J:jX) o H',Mf pos os as uB AG F args J.heap=some (o,H')->enters P f=true/\SI P T 0 args J (fun o' EX=>o'=o/\EX=H'):=by
 intro args J o H' he;obtain⟨b,a,q,hq,xk⟩:=atJ (P:=P) (T:=T) hT hz (fun q=>by simp only[enR,uB.sz];exact dW _) he;exact⟨hen,xk (h b a q hq)⟩
end unw
section steps
variable {k:List Kt} {q:PR W O}
def azw{rest:List aMJ}{f:W->Option (uP×List kp)}{g:O->Option (uP×List kp)}:SJ M ky dst rest k J (EZ q f g)=EZ q (fun x=>SJ M ky dst rest k J (f x)) (fun y=>SJ M ky dst rest k J (g y)):=by cases q<;>rfl
def awO{rest:List aMJ}{f:W->Option CO}{g:O->Option CO}:aMm M p dst rest j tr k J (EZ q f g)=EZ q (fun x=>aMm M p dst rest j tr k J (f x)) (fun y=>aMm M p dst rest j tr k J (g y)):=by cases q<;>rfl
end steps
attribute [go_sem] aJp awN aHp azw awO wI E0 Mf aj5 enR Aj Mc QH atK aBT aBU aJq aJr List.zip_cons_cons List.zip_nil_left uP.qC
section ends
variable {W2 O2:Type}
def qI(P:aMN)(rs:List ResultVar)(pos:List R6)(base:List Nat)(low:Nat)(os:OL O1)(s:AL W1)(J:jX):Option (PR (O1×W1) (O2×W2)):=(Dj P rs pos base low os s J).map .ok
def qJ(pos:List R6)(base:List Nat)(low:Nat)(os:OL O2)(s:AL W2)(x:AV)(J:jX):Option (PR (O1×W1) (O2×W2)):=(awC [x] pos base low os s J).map .pn
attribute [go_sem] qI qJ
theorem apl{y:AV}:n6 [y]=y:=rfl
def aEO{fn:Func}{r:PR (O1×W1) (O2×W2)}{M:kR (PR (O1×W1) (O2×W2))}{uB:OL O1}{AG:AL W1}{BK:OL O2}{Jn:AL W2}{p2:List R6}{b2:List Nat}(G:Fh M)(hf:M.P.funcs[f]? =some fn)(hb:fn.body=some M.body)(wN:(fn.name != "runtime.NumGoroutine")=true)
 (Nb:xB H.length args) (IP:∀x∈H,sj H.length x) (hn:fn.ntmps=n) (Kg:fn.results=rs.toArray) (hb1:b1=dU low) (hb2:b2=dU low) (zu:∀b a,∃y,Jn.enc (BK.mX b) a=[y])
 (ho:M.out=qI M.P rs p1 b1 low uB AG) (hq:M.pT=qJ p2 b2 low BK Jn)
 (h:run M [.at []] {kr:=args++dO (n-args.length) .any,heap:=H,low:=H.length}=some r):FnP M.P f args H (enP true uB AG BK Jn r):=by
 refine ahv G hf hb wN Nb IP hn Kg (fun J hs=>?_) (fun x J hs=>?_) h
 ·rw[ho]at hs;unfold qI at hs;rw[dV]at hs;obtain⟨q,hq,rfl⟩:=hs;obtain⟨hd,xs,hx,He⟩:=SL hb1 hq;rw[hd];exact N6 hx He
 ·rw[hq]at hs;unfold qJ at hs;rw[dV]at hs;obtain⟨q,hq,rfl⟩:=hs;obtain⟨hd,He⟩:=ahA hb2 hq;rw[hd];obtain⟨y,hy⟩:=zu q.1 q.2;rw[hy]at He;have:=ath (P:=M.P) (rs:=rs) He.e;simp only[enP,EZ,hy,apl,pkO];exact this
def afd(P:aMN)(rs:List ResultVar)(p1:List R6)(base:List Nat)(low:Nat)(uB:OL O1)(s1:AL W1)(p2:List R6)(BK:OL O2)(s2:AL W2)(J:jX):Option (PR (O1×W1) (O2×W2)):=
 ((Dj P rs p1 base low uB s1 J).map .ok).or ((Dj P rs p2 base low BK s2 J).map .pn)
attribute [go_sem] afd
def aEP{fn:Func}{r:PR (O1×W1) (O2×W2)}{M:kR (PR (O1×W1) (O2×W2))}{uB:OL O1}{AG:AL W1}{BK:OL O2}{Jn:AL W2}{p2:List R6}(G:Fh M)(hf:M.P.funcs[f]? =some fn)(hb:fn.body=some M.body)(wN:(fn.name != "runtime.NumGoroutine")=true)
 (Nb:xB H.length args) (IP:∀x∈H,sj H.length x) (hn:fn.ntmps=n) (Kg:fn.results=rs.toArray) (hb1:b1=dU low) (ho:M.out=afd M.P rs p1 b1 low uB AG p2 BK Jn)
 (h:run M [.at []] {kr:=args++dO (n-args.length) .any,heap:=H,low:=H.length}=some r) (hP:∀x J',M.pT x J'=none:=by intros;rfl):FnP M.P f args H (enP false uB AG BK Jn r):=by
 refine ahv G hf hb wN Nb IP hn Kg (fun J hs=>?_) (fun x J hs=>by rw[hP x J]at hs;cases hs) h;rw[ho]at hs;unfold afd at hs;rw[eI]at hs;rcases hs with hs|⟨_,hs⟩
 ·rw[dV]at hs;obtain⟨q,hq,rfl⟩:=hs;obtain⟨hd,xs,hx,He⟩:=SL hb1 hq;rw[hd];exact N6 hx He
 ·rw[dV]at hs;obtain⟨q,hq,rfl⟩:=hs;obtain⟨hd,xs,hx,He⟩:=SL hb1 hq;rw[hd];exact N6 hx He
def enC{Y:Type}(P:aMN)(rs:List ResultVar)(t:Ty Y):Option AV->jX->Option Y
 |none,J=>nT P rs t J
 |some _,_=>none
def aJs{Y:Type}{t:Ty Y}:enC P rs t none J=nT P rs t J/\∀x,enC P rs t (some x) J=none:=⟨rfl,fun _=>rfl⟩
def aEQ{Y:Type}(cr cp:R7)(P:aMN)(rs:List ResultVar)(t:Ty Y)(J:jX):Option Y:=aak cr cp (enC P rs t) J.df none J
def ayf{Y:Type}(cr cp:R7)(P:aMN)(rs:List ResultVar)(t:Ty Y)(x:AV)(J:jX):Option Y:=aak cr cp (enC P rs t) J.df (some x) J
attribute [go_sem] aJs aEQ ayf
def atL{Y:Type}{M:kR Y}{fn:Func}{r:Y}{t:Ty Y}{cp:R7}(G:Fh M)(hcr:QOK M.P (anZ M.P) cr)(hcp:QOK M.P (an0 M.P) cp)(hf:M.P.funcs[f]? =some fn)(hb:fn.body=some M.body)(wN:(fn.name != "runtime.NumGoroutine")=true)(Nb:xB 0 args)
 (hn:fn.ntmps=n) (Kg:fn.results=rs.toArray) (ho:M.out=aEQ cr cp M.P rs t) (hq:M.pT=ayf cr cp M.P rs t)
 (h:run M [.at []] {kr:=args++dO (n-args.length) .any,heap:=[]}=some r):Ku M.P f args (fun v=>v=t.enc r):=by
 have UC:∀m J,J.df=[]->enC M.P rs t m J=some r->ayY M.P rs (fun v=>v=t.enc r) m J:=by
  intro m J _ he;cases m with
  |none=>exact(aht he).2
  |some x=>cases he
 refine aqt hf hb wN Nb ?_;rw[Kg,hn];refine XX G h (fun J hs=>?_) (fun x J hs=>?_)
 ·rw[ho]at hs;have:=X9 hcr hcp UC J.df none J rfl hs;exact⟨this,this⟩
 ·rw[hq]at hs;exact X9 hcr hcp UC J.df (some x) J rfl hs
theorem atM{M:kR (O1×W1)}{fn:Func}{id:Nat}{rest:List aMJ}{r:O1×W1}{uB:OL O1}{AG:AL W1}(G:Fh M)
 (hf:M.P.funcs[f]? =some fn) (hb:fn.body=some M.body) (Md:M.body=.seq (.region id ky false) y) (akB:ky.toList=o::rest) (aah:aj3 o=true) (atI:adP rest=true)
 (Nb:xB H.length (args++[x])) (IP:∀x∈H,sj H.length x) (hn:fn.ntmps=n) (Kg:fn.results=rs.toArray) (hb1:b1=dU low) (ho:M.out=Dj M.P rs p1 b1 low uB AG)
 (h:run M [.ky ky rest,.cut [1],.at [1]] (jX.put {kr:=args++dO (n-args.length) .any,heap:=H,low:=H.length} o.dst x)=some r) (hP:∀x J',M.pT x J'=none:=by intros;rfl):
 FnT M.P (an0 M.P f) (args++[x]) H (fun o H'=>o=(enR uB AG r).1/\H'=(enR uB AG r).2):=by
 refine akC hf (by rw[hb,Md]) akB aah Nb IP hn Kg (aye G Md atI (fun J hs=>?_) h hP);rw[ho]at hs;obtain⟨hd,xs,hx,He⟩:=SL hb1 hs;have:=N6 hx He;exact⟨⟨hd,this⟩,hd,this⟩
theorem atO{M:kR (O1×W1)}{fn:Func}{id:Nat}{rest:List aMJ}{r:O1×W1}{uB:OL O1}{AG:AL W1}(G:Fh M)
 (hf:M.P.funcs[f]? =some fn) (hb:fn.body=some M.body) (Md:M.body=.seq (.region id ky false) y) (akB:ky.toList=o::rest) (aah:aj3 o=true) (atI:adP rest=true)
 (Nb:xB H.length args) (IP:∀x∈H,sj H.length x) (hn:fn.ntmps=n) (Kg:fn.results=rs.toArray) (hb1:b1=dU low) (ho:M.out=Dj M.P rs p1 b1 low uB AG)
 (h:run M [.ky ky rest,.cut [1],.at [1]] (jX.put {kr:=args++dO (n-args.length) .any,heap:=H,low:=H.length} o.dst (.uE .nilIface))=some r) (hP:∀x J',M.pT x J'=none:=by intros;rfl):
 FnT M.P (anZ M.P f) args H (fun o H'=>o=(enR uB AG r).1/\H'=(enR uB AG r).2):=by
 refine akD hf (by rw[hb,Md]) akB aah Nb IP hn Kg (aye G Md atI (fun J hs=>?_) h hP);rw[ho]at hs;obtain⟨hd,xs,hx,He⟩:=SL hb1 hs;have:=N6 hx He;exact⟨⟨hd,this⟩,hd,this⟩
end ends
def dIf(t:aMQ)(a:Ty W):AV->Option W
 |.iface t' v=>if t'=t then a.mL [] v else none
 |_=>none
def azx{t:aMQ}{y:AV}(h:Ma x y):Ma (.iface t x) (.iface t y):=by
 rintro E v ⟨u,hu,r⟩;exact⟨u,hu,h _ _ r⟩
def UI(t:aMQ)(a:Ty W):Ty W where
 enc x:=.iface t (a.enc x)
 mL _:=dIf t a
 ok H n v x h:=by
  unfold dIf at h;split at h
  ·split at h
   ·rename_i ht;subst ht;exact Co.sub (azx (a.ok [] n _ _ h).qc) (a.nb n x)
   ·cases h
  ·cases h
 nb n x:=a.nb n x
def aHr{t:aMQ}{a:Ty W}:(∀x,(UI t a).enc x=.iface t (a.enc x))/\(∀H v,(UI t a).mL H v=dIf t a v)/\∀v,dIf t a (.iface t v)=a.mL [] v:=⟨fun _=>rfl,fun _ _=>rfl,fun _=>by simp [dIf]⟩
def dE0:AV->Option Unit
 |.agg []=>some ()
 |_=>none
def abC:Ty Unit where
 enc _:=.agg []
 mL _:=dE0
 ok H n v x h:=by
  unfold dE0 at h;split at h
  ·exact Co.P8 trivial
  ·cases h
 nb n x:=trivial
def aHs:(∀x,abC.enc x=.agg [])/\(∀H v,abC.mL H v=dE0 v)/\dE0 (.agg [])=some ():=⟨fun _=>rfl,fun _ _=>rfl,rfl⟩
attribute [go_sem] aHr aHs
def Pr(t:Ty W)(p:Str×W):AV×AV:=(.str (sb p.1),t.enc p.2)
section
variable {t:Ty W}
theorem abD:∀xs:List (Str×W),aMj (xs.map (Pr t))=true
 |[]=>rfl
 |_::xs=>abD xs
theorem ahE(s:Str):∀xs:List (Str×W),yK (sb s) (xs.map (Pr t))=(oa s xs).map t.enc
 |[]=>rfl
 |(k,v)::xs=>by
  show(bif sb s==sb k then some (t.enc v)else yK (sb s) (xs.map (Pr t)))=_;rw[aqL,ahE s xs]
  grind [oa]
theorem aj6(s:Str)(v:W):∀xs:List (Str×W),M3 (sb s) (t.enc v) (xs.map (Pr t))=(AF s v xs).map (Pr t)
 |[]=>rfl
 |(k,u)::xs=>by
  show(bif sb s==sb k then(AV.str (sb k),t.enc v)::xs.map (Pr t)else(AV.str (sb k),t.enc u)::M3 (sb s) (t.enc v) (xs.map (Pr t)))=_;rw[aqL,aj6 s v xs];simp only[AF];cases s==k<;>rfl
def oel(o:Option W)(a:γ)(f:W->γ):γ:=match o with
 |none=>a
 |some x=>f x
def aBV{a:γ}{f:W->γ}:oel none a f=a:=rfl
def aBW{x:W}{a:γ}{f:W->γ}:oel (some x) a f=f x:=rfl
def aBX{s:Str}{xs:List (Str×W)}:aiM z l (sb s) (some (.map (mp (Pr t) xs)))=oel (oa s xs) (some {val:=.Je [z,.bool false],rd:=[l]}) (fun x=>some {val:=.Je [t.enc x,.bool true],rd:=[l]}):=by
 rw[tQ];simp only[aiM,abD,jQ,ahE];cases oa s xs<;>rfl
def aER{s:Str}{v:W}{xs:List (Str×W)}:Ca l (sb s) (t.enc v) (some (.map (mp (Pr t) xs)))=some {val:=.any,rd:=[l],up:=[(l,.map (mp (Pr t) (AF s v xs)))]}:=by
 grind [tQ,Ca,abD,aj6]
def alq(n:Nat)(xs:List (Str×W)):sj n (.map (mp (Pr t) xs))=True:=by
 refine eq_true fun p hp=>?_
 rw[tQ,eJ]at hp;obtain⟨q,_,rfl⟩:=hp;exact⟨trivial,t.nb n q.2⟩
def atP(Y:Nat->Nat)(xs:List (Str×W)):(mp (Pr t) xs).map (fun p=>(AV.qC Y p.1,AV.qC Y p.2))=mp (Pr t) xs:=by
 rw[tQ,eK];refine ed fun q _=>?_
 show(AV.qC Y (.str (sb q.1)),AV.qC Y (t.enc q.2))=(.str (sb q.1),t.enc q.2);rw[M9 Y _ (t.nb 0 q.2)];rfl
theorem atQ(τ:Nat->Nat)(xs:List (Str×W)):(kp.map (mp (Pr t) xs)).qC τ=.map (mp (Pr t) xs):=by
 show kp.map ((mp (Pr t) xs).map _)=_;congr 1;exact atP τ xs
def agf(t:Ty W)(x:kp):Option (List (Str×W)):= @dite _ (∃xs,x=.map (mp (Pr t) xs)) (Classical.propDecidable _) (fun h=>some h.choose) (fun _=>none)
theorem aqQ{x:kp}{xs:List (Str×W)}(h:agf t x=some xs):x=.map (mp (Pr t) xs):=by
 unfold agf at h;split at h
 all_goals grind
end
section inj
variable {t:Ty W} (hinj:∀x y,t.enc x=t.enc y->x=y)
include hinj
theorem ayg:∀xs ys:List (Str×W),xs.map (Pr t)=ys.map (Pr t)->xs=ys
 |[],[],_=>rfl
 |[],_::_,h=>by simp at h
 |_::_,[],h=>by simp at h
 |(s,x)::xs,(s',y)::ys,h=>by
  simp only[List.map_cons,eu]at h;obtain⟨h1,h2⟩:=h;simp only[Pr,dQ,AV.str.injEq]at h1
  have e1:s=s':=by
   grind [V8]
  rw[e1,hinj _ _ h1.2,ayg xs ys h2]
theorem ayh(xs:List (Str×W)):agf t (.map (mp (Pr t) xs))=some xs:=by
 have hh:∃ys,(kp.map (mp (Pr t) xs))=.map (mp (Pr t) ys):=⟨xs,rfl⟩
 grind [agf,tQ,ayg]
theorem azy:agf t (.map (mp Gr []))=some []:=by
 have:=ayh hinj [];rw[tQ]at this ⊢;exact this
def aBY:(∀xs,agf t (.map (mp (Pr t) xs))=some xs)/\agf t (.map [])=some []/\agf t (.map (mp Gr []))=some []:=by
 grind [ayh,azy,tQ]
end inj
section og

def an9(t:Ty W):OG (List (Str×W)) where
 enc _ xs:=.map (mp (Pr t) xs)
 mL _ _ _:=agf t
 len _:=0
 lZ:=0
 nb L g:=of_eq_true (alq 0 g)
 ok Y L H n x g _ h:=by
  rw[aqQ h];rw[atQ];exact .inr (.inl ⟨rfl,of_eq_true (alq n g)⟩)
 amC Y L H x g h:=by
  rw[aqQ h];rfl
def aHt{t:Ty W}:(∀L g,(an9 t).enc L g=.map (mp (Pr t) g))/\(∀Y L H x,(an9 t).mL Y L H x=agf t x)/\(∀g,(an9 t).len g=0)/\(an9 t).lZ=0:=⟨fun _ _=>rfl,fun _ _ _ _=>rfl,fun _=>rfl,rfl⟩
def oM(t:Ty W):ZO:=⟨fun _ _ x=>(agf t x).bind fun xs=>some (.map (mp (Pr t) xs)),fun H n x y h=>by
 simp only[dM,dN]at h;obtain⟨xs,hx,rfl⟩:=h;rw[aqQ hx];exact .inr (.inl ⟨rfl,of_eq_true (alq n xs)⟩)⟩
def aK3{t:Ty W}{x:kp}:(oM t).f H n x=(agf t x).bind fun xs=>some (.map (mp (Pr t) xs)):=rfl
end og
def abE{pos:List R6}{os:OL O}{as:AL W}{uB:OL O1}{AG:AL W1}{F:O->W->Option (O1×W1)}
 (h:∀b a r,F b a=some r->Kk P f (as.enc (os.mX b) a) (os.enc (os.mX b) b) (fun o H'=>o=.ret (n6 (AG.enc (uB.mX r.1) r.2))/\H'=uB.enc (uB.mX r.1) r.1)):
 aqP P f (E0 pos os as uB AG uB AG (fun b a=>(F b a).map fun r=>(PR.ok r:PR (O1×W1) (O1×W1)))):=by
 refine zB (fun b a r hr=>?_);rw[dV]at hr;obtain⟨r',hr,rfl⟩:=hr;exact h b a r' hr
def aES(v:AV)(s:AL δ)(Y:List Nat)(L:D8)(H:List kp):List AV->Option δ
 |x::xs=>nJ (x=v) (s.mL Y L H xs)
 |_=>none
def alK(v:AV)(hv:v.nb 0)(s:AL δ):AL δ where
 enc L g:=v::s.enc L g
 mL:=aES v s
 lZ:=s.lZ
 nb L g:=⟨AV.ajO (eg _) v hv,s.nb L g⟩
 ok Y L H n vs g hc h:=by
  unfold aES at h;split at h
  ·rw[mO]at h;obtain⟨rfl,h⟩:=h;refine Bf.cons ?_ (s.ok Y L H n _ _ hc h);rw[M9 _ _ hv];exact Co.P8 (AV.ajO (eg _) _ hv)
  ·cases h
def aJt{hv:v.nb 0}{s:AL δ}:(∀L g,(alK v hv s).enc L g=v::s.enc L g)/\(∀Y L H xs,(alK v hv s).mL Y L H xs=aES v s Y L H xs)/\(alK v hv s).lZ=s.lZ:=⟨fun _ _=>rfl,fun _ _ _ _=>rfl,rfl⟩
attribute [go_sem] aJt aES
section steps
variable {k:List Kt} {o:Option W}
def azz{rest:List aMJ}{a:Option wO}{f:W->Option wO}:th M ky dst rest k J (oel o a f)=oel o (th M ky dst rest k J a) (fun x=>th M ky dst rest k J (f x)):=by cases o<;>rfl
def awP{rest:List aMJ}{a:Option wO}{f:W->Option wO}:Ch M p dst rest j tr k J (oel o a f)=oel o (Ch M p dst rest j tr k J a) (fun x=>Ch M p dst rest j tr k J (f x)):=by cases o<;>rfl
end steps
attribute [go_sem] aK3 aBV aBW aBX aHt atQ azz awP aqc
attribute [go_sem high] alq atP
def aET(d:Nat):aMK->Bool
 | .seq (.region _ ky false) _=>match ky.toList with
   |o::rest=>aj3 o&&(o.dst==some d)&&adP rest
   |[]=>false
 |_=>false
def apm{c:aMK}(h:aET d c=true):∃id ky y o rest,c=.seq (.region id ky false) y/\ky.toList=o::rest/\aj3 o=true/\o.dst=some d/\adP rest=true:=by
 unfold aET at h
 grind
section aHu

def ahF{M:kR (O1×W1)}{fn:Func}{r:O1×W1}{uB:OL O1}{AG:AL W1}(G:Fh M)
 (hf:M.P.funcs[f]? =some fn) (hb:fn.body=some M.body) (aah:aET d M.body=true)
 (Nb:xB H.length (args++[x])) (IP:∀x∈H,sj H.length x) (hn:fn.ntmps=n) (Kg:fn.results=rs.toArray) (hb1:b1=dU low) (ho:M.out=Dj M.P rs p1 b1 low uB AG)
 (h:run M [.ky (tA M [0]) ((tA M [0]).toList.drop 1),.cut [1],.at [1]] (jX.put {kr:=args++dO (n-args.length) .any,heap:=H,low:=H.length} (some d) x)=some r) (hP:∀x J',M.pT x J'=none:=by intros;rfl):
 FnT M.P (an0 M.P f) (args++[x]) H (fun o H'=>o=(enR uB AG r).1/\H'=(enR uB AG r).2):=by
 obtain⟨id,ky,y,o,rest,Md,akB,h1,h2,h3⟩:=apm aah;have e:tA M [0]=ky:=by unfold tA;rw[Md];rfl
 grind [atM]
def ahG{M:kR (O1×W1)}{fn:Func}{r:O1×W1}{uB:OL O1}{AG:AL W1}(G:Fh M)
 (hf:M.P.funcs[f]? =some fn) (hb:fn.body=some M.body) (aah:aET d M.body=true)
 (Nb:xB H.length args) (IP:∀x∈H,sj H.length x) (hn:fn.ntmps=n) (Kg:fn.results=rs.toArray) (hb1:b1=dU low) (ho:M.out=Dj M.P rs p1 b1 low uB AG)
 (h:run M [.ky (tA M [0]) ((tA M [0]).toList.drop 1),.cut [1],.at [1]] (jX.put {kr:=args++dO (n-args.length) .any,heap:=H,low:=H.length} (some d) (.uE .nilIface))=some r) (hP:∀x J',M.pT x J'=none:=by intros;rfl):
 FnT M.P (anZ M.P f) args H (fun o H'=>o=(enR uB AG r).1/\H'=(enR uB AG r).2):=by
 obtain⟨id,ky,y,o,rest,Md,akB,h1,h2,h3⟩:=apm aah;have e:tA M [0]=ky:=by unfold tA;rw[Md];rfl
 grind [atO]
end aHu
section
variable {a:Act}

def awQ(P:aMN)(rs:List ResultVar)(j:Nat)(r:Row γ)(s:HG (List γ×Unit) W)(J:jX):Option ((List γ×Unit)×W):=
 bif J.df.isEmpty then(AE P J rs).bind fun xs=>aBZ (Fv j r.sz false ⟨xs,J.heap,0,[]⟩) j r s J.low else none
where
 aBZ (τ:jX) (j:Nat) (r:Row γ) (s:HG (List γ×Unit) W) (low:Nat):Option ((List γ×Unit)×W):=
  match τ.kr[j]? with
  |some (.mE l _)=>match τ.heap[l]? with
   |some y=>nJ (low=0/\sj 0 y/\xB 1 (sO (XV 0 l) τ.kr)) (((lm (oaT false r) li).mL [y] [y]).bind fun b=>(s.mL b [y] (sO (XV 0 l) τ.kr)).bind fun a=>bif decide (s.lZ<=1)then some (b,a)else none)
   |none=>none
  |_=>none
def adQ{r:Row γ}{s:HG (List γ×Unit) W}{q:(List γ×Unit)×W}(h:awQ P rs j r s J=some q):
 J.df=[]/\∃xs,AE P J rs=some xs/\agc ⟨xs,J.heap,J.low,[]⟩ ⟨s.enc q.1 q.2,(lm (oaT false r) li).enc q.1,J.low,[]⟩:=by
 unfold awQ at h;cases hd0:J.df with
 |cons p q=>rw[hd0]at h;cases h
 |nil=>
 rw[hd0]at h;simp only[ek,jK]at h;simp only[dM]at h;obtain⟨xs,hx,h⟩:=h;refine⟨rfl,xs,hx,?_⟩;unfold awQ.aBZ at h;split at h
 case h_2=>cases h
 rename_i l m hs;split at h
 case h_2=>cases h
 rename_i y hl;rw[mO]at h;obtain⟨⟨HC,h1,h2⟩,h⟩:=h;simp only[dM]at h;obtain⟨b,hb,a,ha,h⟩:=h;cases hd:decide (s.lZ<=1)with
 |false=>simp [hd]at h
 |true=>
  simp only[hd,jK,dN]at h;subst h;rw[HC];have i1:Kr ⟨xs,J.heap,0,[]⟩ (Fv j r.sz false ⟨xs,J.heap,0,[]⟩):=amu;have aIU:(Fv j r.sz false ⟨xs,J.heap,0,[]⟩).low=0:=by unfold Fv;split<;>rfl
  have aKZ:(Fv j r.sz false ⟨xs,J.heap,0,[]⟩).df=[]:=by unfold Fv;split<;>rfl
  generalize hτ:Fv j r.sz false ⟨xs,J.heap,0,[]⟩=τ at*;have i2:agc ⟨τ.kr,τ.heap,0,[]⟩ ⟨sO (XV 0 l) τ.kr,τ.heap.take 0++[y],0,[]⟩:=abA hl (eg _) (by simp) h1 h2;have e:τ=⟨τ.kr,τ.heap,0,[]⟩:=by cases τ;grind
  rw[e]at i1;refine(i1.e.trans i2).trans ?_;simp only[eG,eE];obtain⟨h5,h6⟩:=(lm (oaT false r) li).ok [y] 1 _ _ hb;refine Kr.e (al1.imp (J:=⟨sO (XV 0 l) τ.kr,[y],0,[]⟩) (J':=⟨s.enc b a,(lm (oaT false r) li).enc b,0,[]⟩) ⟨⟨⟨rfl,eg _⟩,rfl,abt⟩,?_,?_⟩)
  ·show Bf [y] ((lm (oaT false r) li).enc b).length _ _;rw[h6];exact s.ok b [y] 1 _ a (jO hd) ha
  grind
end
section open_
variable {k:List Kt}
def awR{rest:List aMJ}{rd:List Nat}{up:List (Nat×kp)}{nw:List kp}{pr:Prop}:
 Ch M p dst rest j tr k J (some {val:=x,rd,up,nw,pre:=pr,whole:=true})=nJ pr (nJ (XW M p tr j {val:=x,rd,up,nw,pre:=pr,whole:=true}) (run M (.R4 p rest (j+1) (Na tr j J.heap.length {val:=x,rd,up,nw,pre:=pr,whole:=true})::k) {J.put dst x with heap:=mN J.heap up++nw})):=by
 rw[<-adM];rfl
def aB0(M:kR R)(p:List Nat)(c:Nat)(o:aMJ)(rest:List aMJ)(j:Nat)(J:jX):Option wO->Prop
 |some e=>(e.pre/\e.up=[]/\e.nw=[])/\abx M p c rest (j+1) (J.put o.dst e.val)
 |none=>False
def atS(M:kR R)(p:List Nat)(c:Nat)(o:aMJ)(rest:List aMJ)(j:Nat)(J:jX):Option (aML×List AV)->Prop
 |some _=>False
 |none=>aB0 M p c o rest j J (XE M.P J o.op)
def ayi(M:kR R)(p:List Nat)(c:Nat)(o:aMJ)(rest:List aMJ)(j:Nat)(J:jX):Option Bool->Prop
 |none=>False
 |some false=>abx M p c rest (j+1) (J.put o.dst (.uE undef))
 |some true=>atS M p c o rest j J (nF J o.op)
def awS{rest:List aMJ}{e:wO}:aB0 M p c o rest j J (some e)=((e.pre/\e.up=[]/\e.nw=[])/\abx M p c rest (j+1) (J.put o.dst e.val)):=rfl
def awT{rest:List aMJ}:atS M p c o rest j J none=aB0 M p c o rest j J (XE M.P J o.op):=rfl
def awU{rest:List aMJ}:ayi M p c o rest j J (some true)=atS M p c o rest j J (nF J o.op):=rfl
def atT{rest:List aMJ}:ayi M p c o rest j J (some false)=abx M p c rest (j+1) (J.put o.dst (.uE undef)):=rfl
def awV{rest:List aMJ}(h:Mb M p c j=false):abx M p c (o::rest) j J=ayi M p c o rest j J (qE (tA M p) o J):=by
 unfold Mb at h;show V1 M.P (tA M p) c (o::rest) j J=_;simp only[V1,h];cases hw:qE (tA M p) o J with
 |none=>rfl
 |some b=>
  cases b with
  |false=>rfl
  |true=>
   simp only[ayi];cases hc:nF J o.op with
   |some q=>simp [atS]
   |none=>
    simp only[true_and,atS,<-uj];cases lC M.P J o.op with
    |none=>rfl
    |some e=>rfl
end open_
attribute [go_sem] awR awS awT awU atT awV awe awQ awQ.aBZ
section

def atU{r:Row W}{vs:List aMM}(h:kQ E ((mZ r).enc []::ys) vs):∃base c,kQ E (.uE (.slice base 0 c)::ys) vs:=by
 obtain⟨u,us,e,⟨base,cap,hu,_⟩,h2⟩:=h;have hl:(mp r.enc ([]:List W)).length=0:=Qo _ _;rw[hl]at hu;exact⟨base,cap,u,us,e,hu,h2⟩
def aB1{r:Row W}{V:AV->Prop}(h:∀base c,Ku P f (.uE (.slice base 0 c)::ys) V):Ku P f ((mZ r).enc []::ys) V:=by
 obtain⟨h1,h2,h3⟩:=h none 0;refine⟨h1,⟨(mZ r).nb 0 _,h2.2⟩,fun C U w a b c d vs hv=>?_⟩;obtain⟨base,cap,hr⟩:=atU hv;exact(h base cap).2.2 C U w a b c d vs hr
def amJ{r:Row W}(h:∀base c,Kk P f (.uE (.slice base 0 c)::ys) [] V):Kk P f ((mZ r).enc []::ys) [] V:=by
 obtain⟨h1,h2,h2',h3⟩:=h none 0;refine⟨h1,⟨(mZ r).nb 0 _,h2.2⟩,h2',fun C U w a b c d e e2 vs hv=>?_⟩;obtain⟨base,cap,hr⟩:=atU hv;exact(h base cap).2.2.2 C U w a b c d e e2 vs hr
def atV:cellsOf (.agg [])=some []:=rfl
def awW:uL [] 0 []=[]:=rfl
def aJu:(∀l o v,(AV.ptr l o=AV.uE v)=False)/\(∀l o v,(AV.uE v=AV.ptr l o)=False)/\((AV.bool true=AV.bool false)=False)/\((AV.bool false=AV.bool true)=False):=by simp
def ayj:(AV.bool b).nb 0:=trivial
def aGb{v:aMM}:(AV.uE v).nb 0:=trivial
end
attribute [go_sem] ek atV awW aJu
def nX(P:aMN)(f:Func)(n:Nat)(out:jX->Option R)(cl:aML->List AV->List kp->Option (AV×List kp):=ni [])(cd:aML->List AV->Option AV:=N5 [])
 (rK:List Nat->jX->Option jX:=qF []) (cut:List Nat->jX->Option jX:=agb []) (wF:aML->Bool:=mc []) (cp:aML->List AV->List kp->Option (uP×List kp):=fun _ _ _=>none)
 (pT:AV->jX->Option R:=fun _ _=>none) (uO:aML->Bool:=fun _=>false) (co:aML->List AV->List kp->Option CO:=fun _ _ _=>none) (uR:aML->Bool:=fun _=>false)
 (ce:aML->List AV->List kp->Option wO:=fun _ _ _=>none) (js:List Nat->List (Int×aMK):=fun _=>[]) (cy:Nat->List AV->List kp->Option (AV×List kp):=fun _ _ _=>none):kR R:=
 {P:=P,body:=f.body.getD .skip,cl:=cl,cd:=cd,rK:=rK,cut:=cut,n:=n,out:=out,wF:=wF,cp:=cp,pT:=pT,uO:=uO,co:=co,uR:=uR,ce:=ce,js:=js,cy:=cy}
section
variable {f:Func} {out:jX->Option R} {cl:aML->List AV->List kp->Option (AV×List kp)} {cd:aML->List AV->Option AV} {rK:List Nat->jX->Option jX} {cut:List Nat->jX->Option jX} {wF:aML->Bool} {cp:aML->List AV->List kp->Option (uP×List kp)}
 {pT:AV->jX->Option R} {uO:aML->Bool} {co:aML->List AV->List kp->Option CO} {uR:aML->Bool} {ce:aML->List AV->List kp->Option wO} {js:List Nat->List (Int×aMK)} {cy:Nat->List AV->List kp->Option (AV×List kp)}
def aJv:(nX P f n out cl cd rK cut wF cp pT uO co uR ce js cy).P=P/\(nX P f n out cl cd rK cut wF cp pT uO co uR ce js cy).body=f.body.getD .skip/\(nX P f n out cl cd rK cut wF cp pT uO co uR ce js cy).n=n/\
 (nX P f n out cl cd rK cut wF cp pT uO co uR ce js cy).out=out/\(nX P f n out cl cd rK cut wF cp pT uO co uR ce js cy).cl=cl/\(nX P f n out cl cd rK cut wF cp pT uO co uR ce js cy).cd=cd/\
 (nX P f n out cl cd rK cut wF cp pT uO co uR ce js cy).rK=rK/\(nX P f n out cl cd rK cut wF cp pT uO co uR ce js cy).cut=cut/\(nX P f n out cl cd rK cut wF cp pT uO co uR ce js cy).wF=wF/\
 (nX P f n out cl cd rK cut wF cp pT uO co uR ce js cy).cp=cp/\(nX P f n out cl cd rK cut wF cp pT uO co uR ce js cy).pT=pT/\(nX P f n out cl cd rK cut wF cp pT uO co uR ce js cy).uO=uO/\
 (nX P f n out cl cd rK cut wF cp pT uO co uR ce js cy).co=co/\(nX P f n out cl cd rK cut wF cp pT uO co uR ce js cy).uR=uR/\(nX P f n out cl cd rK cut wF cp pT uO co uR ce js cy).ce=ce/\
 (nX P f n out cl cd rK cut wF cp pT uO co uR ce js cy).js=js/\(nX P f n out cl cd rK cut wF cp pT uO co uR ce js cy).cy=cy:=⟨rfl,rfl,rfl,rfl,rfl,rfl,rfl,rfl,rfl,rfl,rfl,rfl,rfl,rfl,rfl,rfl,rfl⟩
end
@[reducible] def UJ(args:List AV)(n:Nat)(H:List kp:=[]):jX:={kr:=args++dO (n-args.length) .any,heap:=H,low:=H.length}
class Fu(W:Type) where z:W
instance {W:Type}:Fu (Option W):=⟨none⟩
instance {W O:Type}[Fu O]:Fu (W->O):=⟨fun _=>Fu.z⟩
def fu[Fu W](F:Nat->W):Nat->W
 |0=>Fu.z
 |n+1=>F n
def kD[Fu W]{F:Nat->W}:fu F (n+1)=F n:=rfl
def xb{W:Type}[Fu W](F:W->W):Nat->W
 |0=>Fu.z
 |m+1=>F (xb F m)
def lpM{W:Type}[Fu W](F:Nat->W->W):Nat->W
 |0=>Fu.z
 |m+1=>F m (lpM F m)
def awX{W:Type}[Fu W]{F:W->W}{G:Nat->W->Prop}(h0:G 0 Fu.z)(hs:∀m X,G m X->G (m+1) (F X)):∀m,G m (xb F m)
 |0=>h0
 |m+1=>hs m _ (awX h0 hs m)
def awY{W:Type}[Fu W]{F:Nat->W->W}{G:Nat->W->Prop}(h0:G 0 Fu.z)(hs:∀m X,G m X->G (m+1) (F m X)):∀m,G m (lpM F m)
 |0=>h0
 |m+1=>hs m _ (awY h0 hs m)
@[reducible] def nv(l:List AV):List AV:=.any::.any::.any::.any::l
@[reducible] def mM(l:List AV):List AV:=.any::.any::.any::.any::.any::.any::.any::.any::.any::.any::.any::.any::.any::.any::.any::.any::l
@[reducible] def vC(l:List AV):List AV:=mM (mM (mM (mM l)))
@[reducible] def nf(l:List NZ):List NZ:=zA::zA::zA::zA::l
@[reducible] def mG(l:List NZ):List NZ:=nf (nf (nf (nf l)))
@[reducible] def vD(l:List NZ):List NZ:=mG (mG (mG (mG l)))
def gd{f:Func}{out:jX->Option R}{cl:aML->List AV->List kp->Option (AV×List kp)}{cd:aML->List AV->Option AV}{nl:List (List Nat×wH)}{cu:List (List Nat×List Nat)}{wF:aML->Bool}{cp:aML->List AV->List kp->Option (uP×List kp)}
 {pT:AV->jX->Option R} {uO:aML->Bool} {co:aML->List AV->List kp->Option CO} {uR:aML->Bool} {ce:aML->List AV->List kp->Option wO} {js:List Nat->List (Int×aMK)} {cy:Nat->List AV->List kp->Option (AV×List kp)}
 (a:∀f args J r H',cl f args (jX.heap J)=some (r,H')->BE P f args J (fun o EX=>o=.ret r/\EX=H')) (d:∀f args r,cd f args=some r->Ku P f args (fun v=>v=r))
 (y:∀l args J r H',cy l args (jX.heap J)=some (r,H')->M5 P l args J (fun o EX=>o=.ret r/\EX=H'):=by exact oR) (e:∀f args J e,ce f args (jX.heap J)=some e->NY P f args J e:=by exact oS)
 (p:∀f args J o H',cp f args (jX.heap J)=some (o,H')->BE P f args J (fun o' EX=>o'=o/\EX=H'):=by exact pM)
 (c:∀f args J,(∀e,co f args (jX.heap J)=some (.ret e)->NY P f args J e)/\∀x H',co f args J.heap=some (.pan x H')->al7 P f args J.heap x H':=by exact qe):
 Fh (nX P f n out cl cd (qF nl) (agb cu) wF cp pT uO co uR ce js cy):=⟨a,d,mU _,nn _,y,e,p,c⟩
section
variable {O2 W2:Type}
abbrev SG(P:aMN)(g:aML)(as:AL γ)(os:OL O)(b:O)(a:γ)(uB:OL O1)(s:AL W)(r:O1×W):Prop:=
 Kk P g (as.enc (os.mX b) a) (os.enc (os.mX b) b) (fun o H'=>o=.ret (n6 (s.enc (uB.mX r.1) r.2))/\H'=uB.enc (uB.mX r.1) r.1)
abbrev SP(P:aMN)(g:aML)(as:AL γ)(os:OL O)(b:O)(a:γ)(pk:Bool)(uB:OL O1)(s1:AL W1)(BK:OL O2)(s2:AL W2)(r:PR (O1×W1) (O2×W2)):Prop:=
 FnP P g (as.enc (os.mX b) a) (os.enc (os.mX b) b) (enP pk uB s1 BK s2 r)
@[reducible] def aqR(as:AL γ)(os:OL O)(b:O)(a:γ)(k:Nat):jX:=UJ (as.enc (os.mX b) a) k (os.enc (os.mX b) b)
def nbA{as:AL γ}{os:OL O}{b:O}{a:γ}(h:decide (as.lZ<=os.size)=true):xB (os.enc (os.mX b) b).length (as.enc (os.mX b) a):=
 tB (eL (jO h) (Nat.le_of_eq (os.sz _ _).symm)) _ (as.nb _ _)
def nbO{os:OL O}{b:O}(h:decide (os.lZ<=os.size)=true):∀x∈os.enc (os.mX b) b,sj (os.enc (os.mX b) b).length x:=
 fun x hx=>Es (eL (jO h) (Nat.le_of_eq (os.sz _ _).symm)) _ (os.nb _ _ x hx)
variable {fn:Func} {m:Nat} {cl:aML->List AV->List kp->Option (AV×List kp)} {cd:aML->List AV->Option AV} {rK:List Nat->jX->Option jX} {cut:List Nat->jX->Option jX} {wF:aML->Bool} {cp:aML->List AV->List kp->Option (uP×List kp)}
 {uO:aML->Bool} {co:aML->List AV->List kp->Option CO} {uR:aML->Bool} {ce:aML->List AV->List kp->Option wO} {js:List Nat->List (Int×aMK)} {cy:Nat->List AV->List kp->Option (AV×List kp)} {k:Nat} {g:aML} {rs:List ResultVar} {p1 p2:List R6} {b1 b2:List Nat} {low:Nat}
 {R:Type} {t:Ty R} {args:List AV} {as:AL γ} {os:OL O} {b:O} {a:γ} {os0:OL O1} {s:AL W} {uB:OL O1} {AG:AL W1} {BK:OL O2} {Jn:AL W2}
def okC{r:R}(h:run (nX P fn m (nT P rs t) cl cd rK cut wF cp (fun _ _=>none) uO co uR ce js cy) [.at []] (UJ args k)=some r)(G:Fh (nX P fn m (nT P rs t) cl cd rK cut wF cp (fun _ _=>none) uO co uR ce js cy))(hf:P.funcs[g]? =some fn)(Nb:xB 0 args)(hn:fn.ntmps=k)(Kg:fn.results=rs.toArray)(hb:fn.body=some (fn.body.getD .skip):=by exact rfl)(wN:(fn.name != "runtime.NumGoroutine")=true:=by exact rfl):Ku P g args (fun v=>v=t.enc r):=
 aln G hf hb wN Nb hn Kg (fun J hs=>aht hs) h
def okG{r:O1×W}(h:run (nX P fn m (Dj P rs p1 b1 low os0 s) cl cd rK cut wF cp (fun _ _=>none) uO co uR ce js cy) [.at []] (aqR as os b a k)=some r)(G:Fh (nX P fn m (Dj P rs p1 b1 low os0 s) cl cd rK cut wF cp (fun _ _=>none) uO co uR ce js cy))(hf:P.funcs[g]? =some fn)(hn:fn.ntmps=k)(Kg:fn.results=rs.toArray)(h1:decide (as.lZ<=os.size)=true:=by kernel_rfl)(h2:decide (os.lZ<=os.size)=true:=by kernel_rfl)(hb1:b1=dU low:=by exact rfl)(hb:fn.body=some (fn.body.getD .skip):=by exact rfl)(wN:(fn.name != "runtime.NumGoroutine")=true:=by exact rfl):SG P g as os b a os0 s r:=
 pq G hf hb wN (nbA h1) (nbO h2) hn Kg (fun J hs=>SL hb1 hs) h
def okP{r:PR (O1×W1) (O2×W2)}(h:run (nX P fn m (qI P rs p1 b1 low uB AG) cl cd rK cut wF cp (qJ p2 b2 low BK Jn) uO co uR ce js cy) [.at []] (aqR as os b a k)=some r)(G:Fh (nX P fn m (qI P rs p1 b1 low uB AG) cl cd rK cut wF cp (qJ p2 b2 low BK Jn) uO co uR ce js cy))(hf:P.funcs[g]? =some fn)(hn:fn.ntmps=k)(Kg:fn.results=rs.toArray)(h1:decide (as.lZ<=os.size)=true:=by kernel_rfl)(h2:decide (os.lZ<=os.size)=true:=by kernel_rfl)(zu: ∀b a,∃y,Jn.enc (BK.mX b) a=[y]:=by exact fun b a=>⟨_,rfl⟩)(hb1:b1=dU low:=by exact rfl)(hb2:b2=dU low:=by exact rfl)(hb:fn.body=some (fn.body.getD .skip):=by exact rfl)(wN:(fn.name != "runtime.NumGoroutine")=true:=by exact rfl):SP P g as os b a true uB AG BK Jn r:=
 aEO G hf hb wN (nbA h1) (nbO h2) hn Kg hb1 hb2 zu rfl rfl h
def okS{r:PR (O1×W1) (O2×W2)}(h:run (nX P fn m (afd P rs p1 b1 low uB AG p2 BK Jn) cl cd rK cut wF cp (fun _ _=>none) uO co uR ce js cy) [.at []] (aqR as os b a k)=some r)(G:Fh (nX P fn m (afd P rs p1 b1 low uB AG p2 BK Jn) cl cd rK cut wF cp (fun _ _=>none) uO co uR ce js cy))(hf:P.funcs[g]? =some fn)(hn:fn.ntmps=k)(Kg:fn.results=rs.toArray)(h1:decide (as.lZ<=os.size)=true:=by kernel_rfl)(h2:decide (os.lZ<=os.size)=true:=by kernel_rfl)(hb1:b1=dU low:=by exact rfl)(hb:fn.body=some (fn.body.getD .skip):=by exact rfl)(wN:(fn.name != "runtime.NumGoroutine")=true:=by exact rfl):SP P g as os b a false uB AG BK Jn r:=
 aEP G hf hb wN (nbA h1) (nbO h2) hn Kg hb1 rfl h
end
attribute [go_sem] aJv aqR UJ nv mM vC nf mG vD
section
variable {δ':Type}
def aJw(vA:Bool)(row:Row W)(s:AL δ)(rs:AL δ')(F:(List W×Unit)->δ->Option ((List W×Unit)×δ')):List AV->List kp->Option CO:=fun args H=>match args with
 | .mE l n::cs=>match H[l]? with
   |some x=>(daT vA row x).bind fun rows=>nJ (n=rows.length) (nJ (x=.mE vA row.sz (mp row.enc rows)) ((s.mL [] ((EY (ogA vA row) Fw).mX (rows,())) H cs).bind fun a=>nJ (cs=s.enc ((EY (ogA vA row) Fw).mX (rows,())) a) ((F (rows,()) a).bind fun r=>
     nJ (r.1=(rows,())) (some (.ret {val:=n6 (rs.enc ((EY (ogA vA row) Fw).mX (rows,())) r.2),rd:=[l]})))))
   |none=>none
 |_=>none
def aEU{vA:Bool}{row:Row W}{s:AL δ}{rs:AL δ'}{F:(List W×Unit)->δ->Option ((List W×Unit)×δ')}:aJw vA row s rs F (.mE l n::cs) H=match H[l]? with
 |some x=>(daT vA row x).bind fun rows=>nJ (n=rows.length) (nJ (x=.mE vA row.sz (mp row.enc rows)) ((s.mL [] ((EY (ogA vA row) Fw).mX (rows,())) H cs).bind fun a=>nJ (cs=s.enc ((EY (ogA vA row) Fw).mX (rows,())) a) ((F (rows,()) a).bind fun r=>
   nJ (r.1=(rows,())) (some (.ret {val:=n6 (rs.enc ((EY (ogA vA row) Fw).mX (rows,())) r.2),rd:=[l]})))))
 |none=>none:=rfl
def aEV{vA:Bool}{row:Row W}{s:AL δ}{rs:AL δ'}{F:(List W×Unit)->δ->Option ((List W×Unit)×δ')}{t:Nat}:aJw vA row s rs F (.lS b t rows::cs) H=none:=rfl
end
def atW{k:List Kt}{rest:List aMJ}{c:Prop}{x:Option (AV×List kp)}:QF M ky dst rest k J (nJ c x)=nJ c (QF M ky dst rest k J x):=by
 grind [nJ,amm]
attribute [go_sem] atW aEU aEV
def azA(P:aMN)(u:FrameMode)(f:aML):aMM->aMO->Array aMM->(Ending->aMO->Prop)->Prop:=fun _ w vs R=>
 CallsDIn Fence.wide 0 P f vs u w fun e u' w'=>∃r,e=.returned r/\u'=u/\R (.returned r) w'
def apn:abw (azA P u f):=⟨fun _ _ _ _ _ hr h=>xn h fun _ _ _ ⟨r,h1,h2,h3⟩=>⟨r,h1,h2,hr _ _ h3⟩⟩
def aEW{fn:Func}{c:aMK}(hf:P.funcs[f]? =some fn)(hb:fn.body=some c)
 (Nb:xB H.length args) (IP:∀x∈H,sj H.length x) (hn:fn.ntmps=n) (Kg:fn.results=rs.toArray)
 (h:awp P c (atH P rs V) {kr:=args++dO (n-args.length) .any,heap:=H,low:=H.length}):FnT P (azA P u f) args H V:=by
 refine⟨Nb,IP,fun C U w hP h0 hN0 hφ0 hM HS vs hr=>?_⟩;subst hP;have hsz:vs.size=args.length:=by have:=hr.length;simpa using this
 have S:nr C U {kr:=args++dO (n-args.length) .any,heap:=H,low:=H.length} {tmps:=vs++eb (fn.ntmps-vs.size) undef,defers:=[]} w:=by
  refine {HS with kr:=?_,defers:=xj.nil};simp only[ep,eF];refine hr.append ?_;rw[hsz,hn];have:=kQ.Er (E:=C.env U H w) (dO (n-args.length) undef);simpa using this
 have HC:∀{U':Nat->aMM}{J':jX}{a'':Act}{w'':aMO},nr C U' J' a'' w''->J'.low=H.length:=fun S'=>by rw[<-S'.low.1];exact hN0
 refine SM hf hb trivial ?_;intro c₀ cs hu;refine wpSIn_of_wpIn rfl (wpIn_mono (xR (ro:=none) c _ U _ _ w (.inl rfl) h S) ?_);intro e a' w' hq
 have uA:∀U' J',nr C U' J' a' w'->J'.df=[]/\ai0 C.P rs V none J'->QG C fn c₀ cs (fun e u2 w'=>∃r,e=.returned r/\u2=u/\∃o U' H',V o H'/\nr C U' {kr:=[],heap:=H',low:=H.length} {tmps:= #[],defers:=[]} w'/\o.rep (C.env U' H' w') (.returned r)) .normal a' (c₀::cs) w':=by
  rintro U' J' S' ⟨hdf,xr,hx,r,H',hex,hV'⟩;refine⟨u,by rw[<-hu],U',J',S',hdf,fun w'' S''=>?_⟩;obtain⟨vv,hv,rv⟩:=N2 (fn:=fn) S'' (by rw[Kg];exact hx);obtain⟨U3,S3,hr3⟩:=hex C U' _ w'' S'' vv rv;rw[HC S'']at S3;exact⟨vv,hv,vv,rfl,rfl,.ret r,U3,H',hV',S3,hr3⟩
 cases e with
 |normal=>obtain⟨U',J',S',hq⟩:=hq;exact uA U' J' S' hq
 |ret=>obtain⟨U',J',S',hq⟩:=hq;exact uA U' J' S' hq
 |exit id=>obtain⟨_,_,_,hq⟩:=hq;exact hq.elim
 |goto l=>obtain⟨_,_,_,hq⟩:=hq;exact hq.elim
 |panic chain=>obtain⟨_,_,_,_,_,hq,_⟩:=hq;exact hq.elim
 |outgrown=>exact hq.elim
section

def atX{M:kR (O1×W1)}{fn:Func}{r:O1×W1}{uB:OL O1}{AG:AL W1}(G:Fh M)
 (hf:M.P.funcs[f]? =some fn) (hb:fn.body=some M.body) (Nb:xB H.length args) (IP:∀x∈H,sj H.length x) (hn:fn.ntmps=n) (Kg:fn.results=rs.toArray) (hb1:b1=dU low) (ho:M.out=Dj M.P rs p1 b1 low uB AG)
 (h:run M [.at []] {kr:=args++dO (n-args.length) .any,heap:=H,low:=H.length}=some r) (hP:∀x J',M.pT x J'=none:=by intros;rfl):
 FnT M.P (azA M.P u f) args H (fun o H'=>o=(enR uB AG r).1/\H'=(enR uB AG r).2):=by
 refine aEW hf hb Nb IP hn Kg (XX G h (fun J hs=>?_) (fun x J hs=>by rw[hP x J]at hs;cases hs));rw[ho]at hs;obtain⟨hd,xs,hx,He⟩:=SL hb1 hs;have:=N6 (P:=M.P) hx He;exact⟨⟨hd,this⟩,hd,this⟩
end
def spl{γ:Type}:List AV->(List AV->AV->Option γ)->Option γ
 |[],_=>none
 |[x],k=>k [] x
 |a::b::l,k=>spl (b::l) fun l x=>k (a::l) x
def aEX{k:List AV->AV->Option γ}:spl [x] k=k [] x:=rfl
def aB2{a b:AV}{l:List AV}{k:List AV->AV->Option γ}:spl (a::b::l) k=spl (b::l) fun l x=>k (a::l) x:=rfl
def atY{γ:Type}:∀{l:List AV}{k:List AV->AV->Option γ}{r:γ},spl l k=some r->∃as x,l=as++[x]/\k as x=some r
 |[x],k,r,h=>⟨[],x,rfl,h⟩
 |a::b::l,k,r,h=>by
  obtain⟨as,x,h1,h2⟩:=atY (l:=b::l) h
  grind
def aEY(c:R7):R7:=fun f args H=>spl args fun as x=>(c f as H).bind fun q=>some (.panic x,q.2)
def aB3(P:aMN)(c:R7):Prop:=∀u,QOK P (azA P u) c
def aB4{c:R7}(h:aB3 P c):QOK P (anZ P) c:=by
 intro f args J o H' he;obtain⟨h1,h2⟩:=h .returning f args J o H' he;refine⟨h1,fun C U a w hP S vs hr=>?_⟩;refine xn (h2 C U a w hP S vs hr) ?_;rintro e u' w' ⟨r,rfl,rfl,h3⟩;exact⟨r,rfl,rfl,h3⟩
def aB5{c:R7}(h:aB3 P c):QOK P (an0 P) (aEY c):=by
 intro f args J o H' he;obtain⟨as,x,rfl,hk⟩:=atY he;simp only[dM,dN,dQ]at hk;obtain⟨q,hq,rfl,rfl⟩:=hk;refine⟨(h .returning f as J q.1 q.2 hq).1,fun C U a w hP S vs hr vs0 v hvs=>?_⟩;subst hvs
 have hr':kQ (C.env U J.heap w) as vs0.toList/\pO (C.env U J.heap w) x v:=by
  rw[Array.toList_push]at hr
  have hl:vs0.toList.length=as.length:=by
   have:=hr.length;simp at this;simpa using this
  have h1:=hr.take as.length;have h2:=hr.drop as.length;rw[dX rfl,dX hl]at h1;rw[dY rfl,dY hl]at h2;obtain⟨u,us,he,r1,_⟩:=h2
  grind
 have hc:=(h (.panicking [{v,recovered:=false}]) f as {J with kr:=J.kr++[x]} q.1 q.2 hq).2;cases a with
 |mk tmps ds=>
 refine xn (hc C U _ w hP (S.aqs hr'.2) vs0 hr'.1) ?_;rintro e u' w' ⟨r,rfl,rfl,o,U',H',⟨rfl,rfl⟩,S2,tP⟩;have S3:nr C U' {({J with heap:=q.2}:jX)with kr:=({J with heap:=q.2}:jX).kr++[x]} {tmps:=tmps.push v,defers:=ds} w':=S2;obtain⟨S4,h4⟩:=S3.avH S.len;exact⟨r,rfl,.inr ⟨v,rfl,.panic x,U',q.2,⟨rfl,rfl⟩,S4,v,rfl,h4⟩⟩
section ends
variable {W2 O2:Type}
def enX(f:jX->Option R)(g:AV->jX->Option R):Option AV->jX->Option R
 |none,J=>f J
 |some x,J=>g x J
def aJx{f:jX->Option R}{g:AV->jX->Option R}:enX f g none J=f J/\∀x,enX f g (some x) J=g x J:=⟨rfl,fun _=>rfl⟩
def amK(c:R7)(f:jX->Option R)(g:AV->jX->Option R)(J:jX):Option R:=aak c (aEY c) (enX f g) J.df none J
def amL(c:R7)(f:jX->Option R)(g:AV->jX->Option R)(x:AV)(J:jX):Option R:=aak c (aEY c) (enX f g) J.df (some x) J
def aHv{c:R7}:aEY c f args H=spl args fun as x=>(c f as H).bind fun q=>some (.panic x,q.2):=rfl
attribute [go_sem] aJx amK amL aHv aEX aB2
variable {fn:Func} {m:Nat} {cl:aML->List AV->List kp->Option (AV×List kp)} {cd:aML->List AV->Option AV} {rK:List Nat->jX->Option jX} {cut:List Nat->jX->Option jX} {wF:aML->Bool} {cp:aML->List AV->List kp->Option (uP×List kp)}
 {uO:aML->Bool} {co:aML->List AV->List kp->Option CO} {uR:aML->Bool} {ce:aML->List AV->List kp->Option wO} {js:List Nat->List (Int×aMK)} {cy:Nat->List AV->List kp->Option (AV×List kp)} {k:Nat} {g:aML} {rs:List ResultVar} {p1 p2:List R6} {b1 b2:List Nat} {low:Nat}
 {as:AL γ} {os:OL O} {b:O} {a:γ} {os0:OL O1} {s:AL W} {uB:OL O1} {AG:AL W1} {BK:OL O2} {Jn:AL W2} {c:R7}
def aK4{r:PR (O1×W1) (O2×W2)}(hc:aB3 P c)(h:run (nX P fn m (amK c (qI P rs p1 b1 low uB AG) (qJ p2 b2 low BK Jn)) cl cd rK cut wF cp (amL c (qI P rs p1 b1 low uB AG) (qJ p2 b2 low BK Jn)) uO co uR ce js cy) [.at []] (aqR as os b a k)=some r)
 (G:Fh (nX P fn m (amK c (qI P rs p1 b1 low uB AG) (qJ p2 b2 low BK Jn)) cl cd rK cut wF cp (amL c (qI P rs p1 b1 low uB AG) (qJ p2 b2 low BK Jn)) uO co uR ce js cy)) (hf:P.funcs[g]? =some fn) (hn:fn.ntmps=k) (Kg:fn.results=rs.toArray)
 (h1:decide (as.lZ<=os.size)=true:=by kernel_rfl) (h2:decide (os.lZ<=os.size)=true:=by kernel_rfl) (zu: ∀b a,∃y,Jn.enc (BK.mX b) a=[y]:=by exact fun b a=>⟨_,rfl⟩) (hb1:b1=dU low:=by exact rfl) (hb2:b2=dU low:=by exact rfl) (hb:fn.body=some (fn.body.getD .skip):=by exact rfl) (wN:(fn.name != "runtime.NumGoroutine")=true:=by exact rfl):SP P g as os b a true uB AG BK Jn r:=by
 have he:∀m' J,J.df=[]->enX (qI P rs p1 b1 low uB AG) (qJ (O1:=O1) (W1:=W1) p2 b2 low BK Jn) m' J=some r->ai0 P rs (fun o H'=>o=(enP true uB AG BK Jn r).1/\H'=(enP true uB AG BK Jn r).2) m' J:=by
  intro m' J _ hs;cases m' with
  |none=>
   simp only[enX,qI,dV]at hs;obtain⟨q,hq,rfl⟩:=hs;obtain⟨hd,xs,hx,He⟩:=SL hb1 hq;exact N6 hx He
  |some x=>
   simp only[enX,qJ,dV]at hs;obtain⟨q,hq,rfl⟩:=hs;obtain⟨hd,He⟩:=ahA hb2 hq;obtain⟨y,hy⟩:=zu q.1 q.2;rw[hy]at He;have:=ath (P:=P) (rs:=rs) He.e
   grind [enP,EZ,apl,pkO]
 exact ahv G hf hb wN (nbA h1) (nbO h2) hn Kg (fun J hs=>X9 (aB4 hc) (aB5 hc) he J.df none J rfl hs) (fun x J hs=>X9 (aB4 hc) (aB5 hc) he J.df (some x) J rfl hs) h
abbrev SD(P:aMN)(g:aML)(as:AL γ)(os:OL O)(b:O)(a:γ)(uB:OL O1)(s:AL W1)(r:O1×W1):Prop:=
 ∀u,FnT P (azA P u g) (as.enc (os.mX b) a) (os.enc (os.mX b) b) (fun o H'=>o=(enR uB s r).1/\H'=(enR uB s r).2)
def okD{r:O1×W}(h:run (nX P fn m (Dj P rs p1 b1 low os0 s) cl cd rK cut wF cp (fun _ _=>none) uO co uR ce js cy) [.at []] (aqR as os b a k)=some r)(G:Fh (nX P fn m (Dj P rs p1 b1 low os0 s) cl cd rK cut wF cp (fun _ _=>none) uO co uR ce js cy))(hf:P.funcs[g]? =some fn)(hn:fn.ntmps=k)(Kg:fn.results=rs.toArray)(h1:decide (as.lZ<=os.size)=true:=by kernel_rfl)(h2:decide (os.lZ<=os.size)=true:=by kernel_rfl)(hb1:b1=dU low:=by exact rfl)(hb:fn.body=some (fn.body.getD .skip):=by exact rfl):SD P g as os b a os0 s r:=
 fun u=>atX G hf hb (nbA h1) (nbO h2) hn Kg hb1 rfl h
def atZ{e:akE}(h:∀u,∀args (J:jX) o H',e args J.heap=some (o,H')->enters P g=true/\SI P (azA P u g) 0 args J (fun o' EX=>o'=o/\EX=H')):aB3 P (QH [(g,e)]):=fun u=>Kz (h u) N7
end ends
def dNI:AV->Option Unit
 |.uE .nilIface=>some ()
 |_=>none
def aB6:Ty Unit where
 enc _:=.uE .nilIface
 mL _:=dNI
 ok H n v x h:=by
  unfold dNI at h;split at h
  ·exact Co.P8 trivial
  ·cases h
 nb n x:=trivial
def aHw:(∀x,aB6.enc x=.uE .nilIface)/\(∀H v,aB6.mL H v=dNI v)/\dNI (.uE .nilIface)=some ():=⟨fun _=>rfl,fun _ _=>rfl,rfl⟩
attribute [go_sem] aHw
def aB7{T:aMQ}(he:enters P f=true)
 (h:∀(s:ByteArray)(n:Int)(w:aMO),s.size<=18->Lib.atoi s.data.toList=some n->Calls P f #[.string s] w fun e w'=>e=.returned (.tuple #[.int .i64 n,.nilIface])/\∃t,w'=Lib.bytesWorld w T t)
 (s:Str) (n:Int) (hl:s.length<=18) (hn:Lib.atoi s=some n):Ku P f [mb.enc s] (fun v=>v=(ty2 (lR .i64) aB6).enc (n,())):=by
 refine⟨he,⟨mb.nb 0 _,trivial⟩,fun C U w hP hw hN0 hM vs hr=>?_⟩
 obtain rfl:vs= #[.string (sb s)]:=by
  obtain⟨v0,us,hvs,r0,aqm⟩:=hr;have hus:us=[]:=aqm;have e0:v0=.string (sb s):=r0;subst hus e0;cases vs;simp_all
 refine(h (sb s) n w (by rw[SK];exact hl) (by rw[X7];exact hn)).mono ?_;rintro e w' ⟨rfl,t,rfl⟩;have hb:=Lib.bytesWorld_below w T t;exact⟨_,_,U,rfl,rfl,⟨_,rfl,_,_,rfl,rfl,_,_,rfl,rfl,rfl⟩,hb.size,hb.block,fun x hx=>hb.frozen hx,hb.output,hb.os⟩
end Go.Abs
end
