/- A part of the proof: abstract states and the rules for them. -/
import Derived.Test.YtdkeelhebopgkaaGreatDoorCoreB
import Derived.Attr
import Derived.Laws.StructEq
import Derived.ChangeKeysEq
import Derived.Below
import Derived.Laws.AppendOwn
import Derived.Lib.Join
import Derived.Lib.SplitLaws
import Derived.Lib.IndexAny
import Derived.Lib.IndexMore
import Derived.Deep.Draws
import Derived.RecoverIn
import Derived.Lib.Atoi
import Derived.Lib.AtoiErrMem
set_option linter.all false
open Option renaming bind_eq_some_iff → dK,map_eq_some_iff → dU,or_eq_some_iff → eK,map → eP
open Option.some renaming injEq → dM
open List renaming replicate → dN,getElem?_eq_getElem → dQ,range → dR,getElem?_eq_some_iff → dV,take_left' → dW,drop_left' → dX,getElem?_set_self → dZ,length_cons → ed,map_congr_left → eg,isEmpty_nil → ep,getElem?_of_mem → eu,mem_of_getElem? → ez,eq_nil_of_length_eq_zero → eA,mem_cons → eB,getElem?_cons_zero → eD,getElem?_cons_succ → eE,length_set → eF,nil_append → eG,take_zero → eI,take_append_drop → eJ,mem_map → eL,map_map → eM,range' → eO
open Prod.mk renaming injEq → dO
open Bool renaming and_eq_true → dY
open Nat renaming le_refl → eb,zero_le → eo,le_trans → eN
open Array renaming replicate → ec,toList_append → ew,toList_replicate → eH
open List.cons renaming injEq → ey
noncomputable section
namespace Go.Abs
variable {α α1:Type}{v x z:AV}{ops:Array Oper}{b:Bool}{y:Code}{E:Env}{u:FrameMode}{f:FuncId}{ds:List (FuncId×List AV)}{js:List (Int×Code)}{rows tV:List (List AV)}{args cs s ys:List AV}{b1 base p ρ:List Nat}{rs:List ResultVar}{tr:List Tr}{H H' Ys Ys':List jS}{a c d g i j k l l0 low n:Nat}{τ:Nat->Nat}{φ:Nat->Value}{β β' β1:Type}{o:Oper}{dst:Option Tmp}{P:Program}{R α' γ δ:Type}{h:Value}{T:Value->World->Array Value->(Ending->World->Prop)->Prop}{w:World}{σ σ':jI}{M:kD R}{C:o9}{V:sv->List jS->Prop}{lk lk':u5}{F:β->α->Option (β'×α')}
section lists

def pN(f:β->Option α):List β->Option (List α)
 |[]=>some []
 |x::xs=>(f x).bind fun y=>(pN f xs).bind fun ys=>some (y::ys)
def aqn(f:β->Option α):pN f []=some []:=rfl
def aon(f:β->Option α)(x:β)(xs:List β):pN f (x::xs)=(f x).bind fun y=>(pN f xs).bind fun ys=>some (y::ys):=rfl
def aaB(f:β->Option α): ∀a b:List β,pN f (a++b)=(pN f a).bind fun x=>(pN f b).bind fun y=>some (x++y)
 |[],b=>by simp_all [pN]
 |x::a,b=>by
  simp only[List.cons_append,pN,aaB f a b];cases f x<;>simp;cases pN f a<;>simp;cases pN f b<;>simp
def acM{f:β->Option α}{g:α->β}(h: ∀x,f (g x)=some x): ∀xs:List α,pN f (xs.map g)=some xs
 |[]=>rfl
 |x::xs=>by simp [pN,h x,acM h xs]
def mp(f:α->β)(xs:List α):List β:=xs.map f
theorem qF(f:α->β)(xs:List α):mp f xs=xs.map f:=rfl
attribute [irreducible] mp
theorem Kx(f:α->β)(xs:List α):(mp f xs).length=xs.length:=by rw[qF,List.length_map]
def asW(f:α->β)(xs:List α)(n:Nat):(mp f xs).take n=mp f (xs.take n):=by rw[qF,qF,List.map_take]
def asX(f:α->β)(xs:List α)(n:Nat):(mp f xs).drop n=mp f (xs.drop n):=by rw[qF,qF,List.map_drop]
def alu(f:α->β)(xs:List α):(mp f xs).isEmpty=xs.isEmpty:=by rw[qF];cases xs<;>rfl
def Ep{f:β->Option α}{g:α->β}(h: ∀x,f (g x)=some x)(xs:List α):pN f (mp g xs)=some xs:=by rw[qF];exact acM h xs
def aoo{f:α->β}{g:β->Option γ}{o:Option α}:(eP f o).bind g=o.bind fun x=>g (f x):=by cases o<;>rfl
def alv{f:α->Option β}{g:β->Option γ}{o:Option α}:(o.bind f).bind g=o.bind fun x=>(f x).bind g:=by cases o<;>rfl
def aop{f:α->Option β}{x y:Option α}:(bif b then x else y).bind f=bif b then x.bind f else y.bind f:=by cases b<;>rfl
def alw{f:α->Option β}:(none:Option α).bind f=none:=rfl
def u3{f:α->Option β}{x:α}:(some x).bind f=f x:=rfl
def tu(xs:List α)(n:Int):Option α:=if 0<=n then xs[n.toNat]? else none
def asY{f:α->β}{xs:List α}{n:Int}:tu (mp f xs) n=eP f (tu xs n):=by
 rw[qF];unfold tu;split<;>simp
def aoq{x:α}{xs:List α}:tu (x::xs) 0=some x:=rfl
def aqo{x y:α}{xs:List α}:tu (x::y::xs) 1=some y:=rfl
def aqp{x y z:α}{xs:List α}:tu (x::y::z::xs) 2=some z:=rfl
end lists
def Bj:List AV->List AV->Prop
 |[],ys=>ys=[]
 |x::xs,ys=> ∃y zs,ys=y::zs/\Sub x y/\Bj xs zs
theorem Bj.nil:Bj [] []:=rfl
theorem Bj.cons {y:AV}{xs:List AV}(h:Sub x y)(hs:Bj xs ys):Bj (x::xs) (y::ys):=⟨y,ys,rfl,h,hs⟩
def Bj.av8: ∀{xs ys:List AV},Bj xs ys->qi xs ys
 |[],_,rfl=>qi.nil
 |_::_,_,⟨_,_,rfl,h,hs⟩=>qi.cons h (Bj.av8 hs)
def Bj.asZ: ∀{xs ys:List AV},Bj xs ys->Zz xs ys
 |[],_,rfl=>Zz.nil
 |_::_,_,⟨_,_,rfl,h,hs⟩=>Zz.cons h (Bj.asZ hs)
theorem Bj.length: ∀{xs ys:List AV},Bj xs ys->xs.length=ys.length
 |[],_,rfl=>rfl
 |_::_,_,⟨_,_,rfl,_,hs⟩=>by simp [Bj.length hs]
theorem oe.nil:oe H n [] []:=rfl
theorem oe.cons {y:AV}{xs:List AV}(h:Co1 H n x y)(hs:oe H n xs ys):oe H n (x::xs) (y::ys):=⟨y,ys,rfl,h,hs⟩
theorem oe.append: ∀{xs ys us vs:List AV},oe H n xs ys->oe H n us vs->oe H n (xs++us) (ys++vs)
 |[],_,_,_,rfl,h=>h
 |_::_,_,_,_,⟨y,zs,rfl,h,hs⟩,h2=>⟨y,zs++_,rfl,h,oe.append hs h2⟩
def Co1.oW {y:AV}(h:Co1 [] n x y):Sub x y:=by
 rcases h with h|⟨l,m,sz,rows,_,hl,_⟩
 ·exact h.1
 ·simp at hl
def oe.oW: ∀{xs ys:List AV},oe [] n xs ys->Bj xs ys
 |[],_,rfl=>rfl
 |_::_,_,⟨y,zs,rfl,h,hs⟩=>⟨y,zs,rfl,h.oW,oe.oW hs⟩
def Co.oW {y:AV}(h:Co [] n x y):Sub x y:=by
 rcases h with h|⟨cs,ds,rfl,rfl,h⟩
 ·exact h.oW
 ·exact Sub.agg h.oW.av8
def oe.aqq: ∀{xs ys:List AV},oe H n xs ys->BB H n xs ys
 |[],_,rfl=>rfl
 |_::_,_,⟨y,zs,rfl,h,hs⟩=>⟨y,zs,rfl,.inl h,oe.aqq hs⟩
structure Row(α:Type) where
 enc:α->List AV
 dec:List AV->Option α
 sz:Nat
 ok: ∀r x,dec r=some x->Bj r (enc x)
 nb: ∀n x,uB n (enc x)
variable {r:Row α}
structure Ty(α:Type) where
 enc:α->AV
 dec:List jS->AV->Option α
 ok: ∀H n v x,dec H v=some x->Co H n v (enc x)
 nb: ∀n x,(enc x).nb n
section rows

def FJ(sz k:Nat)(rows:List (List AV)):Bool:=sz==k||rows.isEmpty
def dL(r:Row α)(H:List jS):AV->Option (List α)
 | .lI _ sz rows=>bif FJ sz r.sz rows then pN r.dec rows else none
 | .acc l n=>match H[l]? with
   |some (.acc true sz rows)=>bif (rows.length==n)&&FJ sz r.sz rows then pN r.dec rows else none
   |_=>none
 |_=>none
def HF{r:Row α}: ∀{rows:List (List AV)}{xs:List α},pN r.dec rows=some xs->PM rows (mp r.enc xs)/\En rows (mp r.enc xs)
 |[],xs,h=>by
  simp only[pN,dM] at h;subst h;rw[qF];exact⟨PM.nil,rfl⟩
 |c::rows,xs,h=>by
  simp only[pN,dK,dM] at h;obtain⟨y,hy,ys,hys,rfl⟩:=h;obtain⟨h1,h2⟩:=HF hys;have h3:=r.ok _ _ hy;rw[qF] at h1 h2 ⊢;exact⟨PM.cons h3.asZ h1,_,_,rfl,⟨h3.length,h3.av8⟩,h2⟩
theorem vZ{r:Row α}{n:Nat}: ∀xs:List α,LK n (mp r.enc xs)
 |[]=>by rw[qF];trivial
 |x::xs=>by have:=vZ (r:=r) (n:=n) xs;rw[qF] at this ⊢;exact⟨r.nb n x,this⟩
def PV{t:Bool}{sz:Nat}(h:FJ sz k rows=true)(hs:PM rows tV):Sub (.lI t sz rows) (.lI false k tV):=by
 unfold FJ at h;simp only[Bool.or_eq_true,jB,List.isEmpty_iff] at h;rcases h with rfl|rfl
 ·exact Sub.lI hs
 ·have:tV=[]:=eA hs.1.symm;subst this;exact Sub.empty _ _ _
theorem Of{r:Row α}{xs:List α}(h:dL r H v=some xs):Co1 H n v (.lI false r.sz (mp r.enc xs)):=by
 unfold dL at h;split at h
 ·rename_i t sz rows;cases hs:FJ sz r.sz rows with
  |false=>simp [hs] at h
  |true=>
   simp only[hs,ju] at h;exact .inl ⟨PV hs (HF h).1,vZ xs⟩
 ·rename_i l m;split at h
  ·rename_i sz rows hl;cases hs:FJ sz r.sz rows with
   |false=>simp [hs] at h
   |true=>
    cases hm:(rows.length==m) with
    |false=>simp [hm] at h
    |true=>
     simp only[hs,hm,Bool.and_self,ju] at h;exact .inr ⟨l,m,sz,rows,rfl,hl,by simpa using hm,PV hs (HF h).1,vZ xs⟩
  ·cases h
 ·cases h
def l5(r:Row α):Ty (List α) where
 enc xs:= .lI false r.sz (mp r.enc xs)
 dec:=dL r
 ok _ _ _ _ h:= .inl (Of h)
 nb _ xs:=vZ xs
def as0{r:Row α}{xs:List α}:(l5 r).enc xs= .lI false r.sz (mp r.enc xs):=rfl
def as1{r:Row α}:(l5 r).dec H v=dL r H v:=rfl
end rows
def sb(s:List UInt8):ByteArray:=⟨s.toArray⟩
abbrev Str:=List UInt8
variable {xs:List (Str×Bool)}
def dI(k:IntKind):AV->Option Int
 | .int k' n=>if k'=k then some n else none
 |_=>none
def dB:AV->Option Bool
 | .bool b=>some b
 |_=>none
def dS:AV->Option Str
 | .str b=>some b.data.toList
 |_=>none
theorem C6{k:IntKind}{x:Int}(h:dI k v=some x):Co1 H n v (.int k x):=by
 unfold dI at h;split at h
 ·split at h
  ·cases h;rename_i e;subst e;exact Co1.sub (Sub.refl _) trivial
  ·cases h
 ·cases h
theorem ana{x:Bool}(h:dB v=some x):Co1 H n v (.bool x):=by
 unfold dB at h;split at h
 ·cases h;exact Co1.sub (Sub.refl _) trivial
 ·cases h
theorem agp(b:ByteArray):sb b.data.toList=b:=by
 cases b;rfl
theorem Yi{x:Str}(h:dS v=some x):Co1 H n v (.str (sb x)):=by
 unfold dS at h;split at h
 ·cases h;rw[agp];exact Co1.sub (Sub.refl _) trivial
 ·cases h
def SZ(s:Str):dS (.str (sb s))=some s:=rfl
def KN(k:IntKind)(n:Int):dI k (.int k n)=some n:=by simp [dI]
def FK(b:Bool):dB (.bool b)=some b:=rfl
def aqr:dS (.str ByteArray.empty)=some []:=rfl
def aor:dS (.str ⟨#[]⟩)=some []:=rfl
def lO(k:IntKind):Ty Int:=⟨.int k,fun _=>dI k,fun _ _ _ _ h=> .inl (C6 h),fun _ _=>trivial⟩
def my:Ty Bool:=⟨.bool,fun _=>dB,fun _ _ _ _ h=> .inl (ana h),fun _ _=>trivial⟩
def lP:Ty Str:=⟨fun s=> .str (sb s),fun _=>dS,fun _ _ _ _ h=> .inl (Yi h),fun _ _=>trivial⟩
def as2{k:IntKind}{x:Int}:(lO k).enc x= .int k x:=rfl
def as3{k:IntKind}:(lO k).dec H v=dI k v:=rfl
def as4{x:Bool}:my.enc x= .bool x:=rfl
def as5:my.dec H v=dB v:=rfl
def as6{x:Str}:lP.enc x= .str (sb x):=rfl
def as7:lP.dec H v=dS v:=rfl
def dF(f:FuncId):AV->Option Unit
 | .func (.func g) [] []=>if g=f then some () else none
 |_=>none
def av9(f:FuncId):dF f (.func (.func f) [] [])=some ():=by simp [dF]
def tyF(f:FuncId):Ty Unit where
 enc _:= .func (.func f) [] []
 dec _:=dF f
 ok H n v x h:=by
  unfold dF at h;split at h
  ·split at h
   ·rename_i e;subst e;exact Co.same ⟨trivial,trivial⟩
   ·cases h
  ·cases h
 nb _ _:=⟨trivial,trivial⟩
def as8{x:Unit}:(tyF f).enc x= .func (.func f) [] []:=rfl
def as9:(tyF f).dec H v=dF f v:=rfl
def S6(n:Int):List AV:=[.int .i64 n]
def mA(s:Str):List AV:=[.str (sb s)]
def Yj(b:Bool):List AV:=[.bool b]
def acN(n:Int):List AV:=[.int .u8 n]
def dI1(k:IntKind):List AV->Option Int
 |[c]=>dI k c
 |_=>none
def dB1:List AV->Option Bool
 |[c]=>dB c
 |_=>none
def dS1:List AV->Option Str
 |[c]=>dS c
 |_=>none
def awa:Row Int where
 enc:=S6
 dec:=dI1 .i64
 sz:=1
 ok r x h:=by
  unfold dI1 at h;split at h
  ·exact Bj.cons (C6 (H:=[]) (n:=0) h).oW Bj.nil
  ·cases h
 nb _ _:=⟨trivial,trivial⟩
def awb:Row Int where
 enc:=acN
 dec:=dI1 .u8
 sz:=1
 ok r x h:=by
  unfold dI1 at h;split at h
  ·exact Bj.cons (C6 (H:=[]) (n:=0) h).oW Bj.nil
  ·cases h
 nb _ _:=⟨trivial,trivial⟩
def awc:Row Bool where
 enc:=Yj
 dec:=dB1
 sz:=1
 ok r x h:=by
  unfold dB1 at h;split at h
  ·exact Bj.cons (ana (H:=[]) (n:=0) h).oW Bj.nil
  ·cases h
 nb _ _:=⟨trivial,trivial⟩
def l6:Row Str where
 enc:=mA
 dec:=dS1
 sz:=1
 ok r x h:=by
  unfold dS1 at h;split at h
  ·exact Bj.cons (Yi (H:=[]) (n:=0) h).oW Bj.nil
  ·cases h
 nb _ _:=⟨trivial,trivial⟩
def awd:awa.enc=S6/\awa.dec=dI1 .i64/\awa.sz=1:=⟨rfl,rfl,rfl⟩
def awe:awb.enc=acN/\awb.dec=dI1 .u8/\awb.sz=1:=⟨rfl,rfl,rfl⟩
def awf:awc.enc=Yj/\awc.dec=dB1/\awc.sz=1:=⟨rfl,rfl,rfl⟩
def ZN:l6.enc=mA/\l6.dec=dS1/\l6.sz=1:=⟨rfl,rfl,rfl⟩
def EX:(∀xs:List Int,pN (dI1 .i64) (mp S6 xs)=some xs)/\(∀xs:List Int,pN (dI1 .u8) (mp acN xs)=some xs)/\(∀xs:List Bool,pN dB1 (mp Yj xs)=some xs)/\ ∀xs:List Str,pN dS1 (mp mA xs)=some xs:=
 ⟨Ep fun x=>by simp [dI1,S6,dI],Ep fun x=>by simp [dI1,acN,dI],Ep fun x=>rfl,Ep fun x=>rfl⟩
structure SE(α:Type) where
 enc:α->List AV
 dec:List jS->List AV->Option α
 ok: ∀H n cs x,dec H cs=some x->oe H n cs (enc x)
 nb: ∀n x,uB n (enc x)
section ky

def dC(c:SE α)(H:List jS):AV->Option α
 | .agg cs=>c.dec H cs
 |_=>none
def lF(c:SE α):Ty α where
 enc x:= .agg (c.enc x)
 dec:=dC c
 ok H n v x h:=by
  unfold dC at h;split at h
  ·exact .inr ⟨_,_,rfl,rfl,c.ok H n _ _ h⟩
  ·cases h
 nb n x:=c.nb n x
def ata{c:SE α}{x:α}:(lF c).enc x= .agg (c.enc x):=rfl
def atb{c:SE α}:(lF c).dec H v=dC c H v:=rfl
end ky
def tyU:Ty Unit where
 enc _:= .EQ []
 dec _
  | .EQ []=>some ()
  |_=>none
 ok H n v x h:=by
  split at h
  ·exact Co.same trivial
  ·cases h
 nb _ _:=trivial
def atc{x:Unit}:tyU.enc x= .EQ []:=rfl
def atd:tyU.dec H (.EQ [])=some ():=rfl
section awg
variable {ε:Type}
def d2(a:Ty α)(b:Ty β):AV->Option (α×β)
 | .EQ [x,y]=>(a.dec [] x).bind fun u=>(b.dec [] y).bind fun v=>some (u,v)
 |_=>none
def d3(a:Ty α)(b:Ty β)(c:Ty γ):AV->Option (α×β×γ)
 | .EQ [x,y,z]=>(a.dec [] x).bind fun u=>(b.dec [] y).bind fun v=>(c.dec [] z).bind fun w=>some (u,v,w)
 |_=>none
def d4(a:Ty α)(b:Ty β)(c:Ty γ)(d:Ty δ):AV->Option (α×β×γ×δ)
 | .EQ [x,y,z,p]=>(a.dec [] x).bind fun u=>(b.dec [] y).bind fun v=>(c.dec [] z).bind fun w=>(d.dec [] p).bind fun q=>some (u,v,w,q)
 |_=>none
def d5(a:Ty α)(b:Ty β)(c:Ty γ)(d:Ty δ)(e:Ty ε):AV->Option (α×β×γ×δ×ε)
 | .EQ [x,y,z,p,s]=>(a.dec [] x).bind fun u=>(b.dec [] y).bind fun v=>(c.dec [] z).bind fun w=>(d.dec [] p).bind fun q=>(e.dec [] s).bind fun t=>some (u,v,w,q,t)
 |_=>none
def ty2(a:Ty α)(b:Ty β):Ty (α×β) where
 enc x:= .EQ [a.enc x.1,b.enc x.2]
 dec _:=d2 a b
 ok H n v x h:=by
  unfold d2 at h;split at h
  ·simp only[dK,dM] at h;obtain⟨u,hu,w,hw,rfl⟩:=h;exact Co.sub (Sub.EQ (qi.cons (a.ok [] 0 _ _ hu).oW (qi.cons (b.ok [] 0 _ _ hw).oW qi.nil))) ⟨a.nb n u,b.nb n w,trivial⟩
  ·cases h
 nb n x:=⟨a.nb n _,b.nb n _,trivial⟩
def Yk(a:Ty α)(b:Ty β)(c:Ty γ):Ty (α×β×γ) where
 enc x:= .EQ [a.enc x.1,b.enc x.2.1,c.enc x.2.2]
 dec _:=d3 a b c
 ok H n v x h:=by
  unfold d3 at h;split at h
  ·simp only[dK,dM] at h;obtain⟨u,hu,w,hw,p,hp,rfl⟩:=h;exact Co.sub (Sub.EQ (qi.cons (a.ok [] 0 _ _ hu).oW (qi.cons (b.ok [] 0 _ _ hw).oW (qi.cons (c.ok [] 0 _ _ hp).oW qi.nil)))) ⟨a.nb n u,b.nb n w,c.nb n p,trivial⟩
  ·cases h
 nb n x:=⟨a.nb n _,b.nb n _,c.nb n _,trivial⟩
def ty4(a:Ty α)(b:Ty β)(c:Ty γ)(d:Ty δ):Ty (α×β×γ×δ) where
 enc x:= .EQ [a.enc x.1,b.enc x.2.1,c.enc x.2.2.1,d.enc x.2.2.2]
 dec _:=d4 a b c d
 ok H n v x h:=by
  unfold d4 at h;split at h
  ·simp only[dK,dM] at h;obtain⟨u,hu,w,hw,p,hp,q,hq,rfl⟩:=h;exact Co.sub (Sub.EQ (qi.cons (a.ok [] 0 _ _ hu).oW (qi.cons (b.ok [] 0 _ _ hw).oW (qi.cons (c.ok [] 0 _ _ hp).oW (qi.cons (d.ok [] 0 _ _ hq).oW qi.nil))))) ⟨a.nb n u,b.nb n w,c.nb n p,d.nb n q,trivial⟩
  ·cases h
 nb n x:=⟨a.nb n _,b.nb n _,c.nb n _,d.nb n _,trivial⟩
def ty5(a:Ty α)(b:Ty β)(c:Ty γ)(d:Ty δ)(e:Ty ε):Ty (α×β×γ×δ×ε) where
 enc x:= .EQ [a.enc x.1,b.enc x.2.1,c.enc x.2.2.1,d.enc x.2.2.2.1,e.enc x.2.2.2.2]
 dec _:=d5 a b c d e
 ok H n v x h:=by
  unfold d5 at h;split at h
  ·simp only[dK,dM] at h;obtain⟨u,hu,w,hw,p,hp,q,hq,s,hs,rfl⟩:=h;exact Co.sub (Sub.EQ (qi.cons (a.ok [] 0 _ _ hu).oW (qi.cons (b.ok [] 0 _ _ hw).oW (qi.cons (c.ok [] 0 _ _ hp).oW (qi.cons (d.ok [] 0 _ _ hq).oW (qi.cons (e.ok [] 0 _ _ hs).oW qi.nil)))))) ⟨a.nb n u,b.nb n w,c.nb n p,d.nb n q,e.nb n s,trivial⟩
  ·cases h
 nb n x:=⟨a.nb n _,b.nb n _,c.nb n _,d.nb n _,e.nb n _,trivial⟩
def ate{a:Ty α}{b:Ty β}{x:α×β}:(ty2 a b).enc x= .EQ [a.enc x.1,b.enc x.2]:=rfl
def atf{a:Ty α}{b:Ty β}:(ty2 a b).dec H v=d2 a b v:=rfl
def atg{a:Ty α}{b:Ty β}{c:Ty γ}{x:α×β×γ}:(Yk a b c).enc x= .EQ [a.enc x.1,b.enc x.2.1,c.enc x.2.2]:=rfl
def ath{a:Ty α}{b:Ty β}{c:Ty γ}:(Yk a b c).dec H v=d3 a b c v:=rfl
def ati{a:Ty α}{b:Ty β}{c:Ty γ}{d:Ty δ}{x:α×β×γ×δ}:(ty4 a b c d).enc x= .EQ [a.enc x.1,b.enc x.2.1,c.enc x.2.2.1,d.enc x.2.2.2]:=rfl
def atj{a:Ty α}{b:Ty β}{c:Ty γ}{d:Ty δ}:(ty4 a b c d).dec H v=d4 a b c d v:=rfl
def atk{a:Ty α}{b:Ty β}{c:Ty γ}{d:Ty δ}{e:Ty ε}{x:α×β×γ×δ×ε}:(ty5 a b c d e).enc x= .EQ [a.enc x.1,b.enc x.2.1,c.enc x.2.2.1,d.enc x.2.2.2.1,e.enc x.2.2.2.2]:=rfl
def atl{a:Ty α}{b:Ty β}{c:Ty γ}{d:Ty δ}{e:Ty ε}:(ty5 a b c d e).dec H v=d5 a b c d e v:=rfl
end awg
def nE{ρ:Type}(P:Program)(rs:List ResultVar)(t:Ty ρ)(σ:jI):Option ρ:=
 bif σ.df.isEmpty then(JQ P σ rs).bind fun x=>lU ((frz 0 σ.heap x).nb 0) (t.dec [] (frz 0 σ.heap x)) else none
def Yl{ρ:Type}{t:Ty ρ}{r:ρ}(h:nE P rs t σ=some r):σ.df=[]/\aob (fun v=>v=t.enc r) σ.heap (JQ P σ rs):=by
 unfold nE at h;cases hd:σ.df with
 |cons p q=>rw[hd] at h;cases h
 |nil=>
 rw[hd] at h;simp only[ep,ju] at h;refine⟨rfl,?_⟩;cases hx:JQ P σ rs with
 |none=>rw[hx] at h;cases h
 |some x=>
  rw[hx] at h;simp only[Option.bind_some] at h;rw[lv] at h;exact⟨h.1,_,(t.ok [] 0 _ _ h.2).oW,rfl⟩
abbrev Ent:=List AV->List jS->Option (AV×List jS)
abbrev agq:=List AV->Option AV
section entries
variable {ε ζ ρ:Type}
def Ym(t:Ty ρ)(F:Option ρ):Ent
 |[],H=>F.bind fun r=>some (t.enc r,H)
 |_,_=>none
def mW(a:Ty α)(t:Ty ρ)(F:α->Option ρ):Ent
 |[x],H=>(a.dec H x).bind fun x=>(F x).bind fun r=>some (t.enc r,H)
 |_,_=>none
def rI(a:Ty α)(b:Ty β)(t:Ty ρ)(F:α->β->Option ρ):Ent
 |[x,y],H=>(a.dec H x).bind fun x=>(b.dec H y).bind fun y=>(F x y).bind fun r=>some (t.enc r,H)
 |_,_=>none
def S7(a:Ty α)(b:Ty β)(c:Ty γ)(t:Ty ρ)(F:α->β->γ->Option ρ):Ent
 |[x,y,z],H=>(a.dec H x).bind fun x=>(b.dec H y).bind fun y=>(c.dec H z).bind fun z=>(F x y z).bind fun r=>some (t.enc r,H)
 |_,_=>none
def pU(e:Ent):agq:=fun args=>lU (uB 0 args) ((e args []).bind fun r=>some r.1)
def aaC(P:Program)(f:FuncId)(e:Ent):Prop:= ∀args σ r H',e args σ.heap=some (r,H')->ya P f args σ (fun o BC=>o= .ret r/\BC=H')
def MX(P:Program)(f:FuncId)(e:agq):Prop:= ∀args r,e args=some r->GP P f args (fun v=>v=r)
variable {a:Ty α} {b:Ty β} {c:Ty γ} {d:Ty δ} {e:Ty ε} {g:Ty ζ} {t:Ty ρ}
def Mk{F:Option ρ}(h: ∀r,F=some r->GP P f [] (fun v=>v=t.enc r)):aaC P f (Ym t F):=by
 intro args σ r H' he;unfold Ym at he;split at he
 ·simp only[dK,dM,dO] at he;obtain⟨r',hr,rfl,rfl⟩:=he;exact Ye (n:=0) (h r' hr) BB.nil
 ·cases he
def lg{F:α->Option ρ}(h: ∀x r,F x=some r->GP P f [a.enc x] (fun v=>v=t.enc r)):aaC P f (mW a t F):=by
 intro args σ r H' he;unfold mW at he;split at he
 ·simp only[dK,dM,dO] at he;obtain⟨x,hx,r',hr,rfl,rfl⟩:=he;exact Ye (n:=0) (h x r' hr) (BB.cons (a.ok _ 0 _ _ hx) BB.nil)
 ·cases he
def nA{F:α->β->Option ρ}(h: ∀x y r,F x y=some r->GP P f [a.enc x,b.enc y] (fun v=>v=t.enc r)):aaC P f (rI a b t F):=by
 intro args σ r H' he;unfold rI at he;split at he
 ·simp only[dK,dM,dO] at he;obtain⟨x,hx,y,hy,r',hr,rfl,rfl⟩:=he;exact Ye (n:=0) (h x y r' hr) (BB.cons (a.ok _ 0 _ _ hx) (BB.cons (b.ok _ 0 _ _ hy) BB.nil))
 ·cases he
def Vz{F:α->β->γ->Option ρ}(h: ∀x y z r,F x y z=some r->GP P f [a.enc x,b.enc y,c.enc z] (fun v=>v=t.enc r)):aaC P f (S7 a b c t F):=by
 intro args σ r H' he;unfold S7 at he;split at he
 ·simp only[dK,dM,dO] at he;obtain⟨x,hx,y,hy,z,hz,r',hr,rfl,rfl⟩:=he;exact Ye (n:=0) (h x y z r' hr) (BB.cons (a.ok _ 0 _ _ hx) (BB.cons (b.ok _ 0 _ _ hy) (BB.cons (c.ok _ 0 _ _ hz) BB.nil)))
 ·cases he
def aqs{F:Option ρ}(h: ∀r,F=some r->GP P f [] (fun w=>w=t.enc r)):MX P f (pU (Ym t F)):=by
 intro args r he;unfold pU at he;rw[lv] at he;obtain⟨hnb,he⟩:=he;unfold Ym at he;split at he
 ·simp only[dK,dM,Prod.exists,dO] at he;obtain⟨_,_,⟨r',hr,rfl,rfl⟩,rfl⟩:=he;exact abQ (h r' hr) (qi.nil) hnb
 ·cases he
def mh{F:α->Option ρ}(h: ∀x r,F x=some r->GP P f [a.enc x] (fun w=>w=t.enc r)):MX P f (pU (mW a t F)):=by
 intro args r he;unfold pU at he;rw[lv] at he;obtain⟨hnb,he⟩:=he;unfold mW at he;split at he
 ·simp only[dK,dM,Prod.exists,dO] at he;obtain⟨_,_,⟨x,hx,r',hr,rfl,rfl⟩,rfl⟩:=he;exact abQ (h x r' hr) (qi.cons (a.ok _ 0 _ _ hx).oW qi.nil) hnb
 ·cases he
def ui{F:α->β->Option ρ}(h: ∀x y r,F x y=some r->GP P f [a.enc x,b.enc y] (fun w=>w=t.enc r)):MX P f (pU (rI a b t F)):=by
 intro args r he;unfold pU at he;rw[lv] at he;obtain⟨hnb,he⟩:=he;unfold rI at he;split at he
 ·simp only[dK,dM,Prod.exists,dO] at he;obtain⟨_,_,⟨x,hx,y,hy,r',hr,rfl,rfl⟩,rfl⟩:=he;exact abQ (h x y r' hr) (qi.cons (a.ok _ 0 _ _ hx).oW (qi.cons (b.ok _ 0 _ _ hy).oW qi.nil)) hnb
 ·cases he
def Og{F:α->β->γ->Option ρ}(h: ∀x y z r,F x y z=some r->GP P f [a.enc x,b.enc y,c.enc z] (fun w=>w=t.enc r)):MX P f (pU (S7 a b c t F)):=by
 intro args r he;unfold pU at he;rw[lv] at he;obtain⟨hnb,he⟩:=he;unfold S7 at he;split at he
 ·simp only[dK,dM,Prod.exists,dO] at he;obtain⟨_,_,⟨x,hx,y,hy,z,hz,r',hr,rfl,rfl⟩,rfl⟩:=he;exact abQ (h x y z r' hr) (qi.cons (a.ok _ 0 _ _ hx).oW (qi.cons (b.ok _ 0 _ _ hy).oW (qi.cons (c.ok _ 0 _ _ hz).oW qi.nil))) hnb
 ·cases he
end entries
def nk:List (Nat×Ent)->FuncId->List AV->List jS->Option (AV×List jS)
 |[],_,_,_=>none
 |(g,e)::t,f,args,H=>if f=g then e args H else nk t f args H
def KO:List (Nat×agq)->FuncId->List AV->Option AV
 |[],_,_=>none
 |(g,e)::t,f,args=>if f=g then e args else KO t f args
def jQ: ∀f args (σ:jI) r H',nk [] f args σ.heap=some (r,H')->ya P f args σ (fun o BC=>o= .ret r/\BC=H'):=by
 intro f args σ r H' h;cases h
def jL{e:Ent}{t:List (Nat×Ent)}(h1:aaC P g e)(h2: ∀f args (σ:jI) r H',nk t f args σ.heap=some (r,H')->ya P f args σ (fun o BC=>o= .ret r/\BC=H')):
 ∀f args (σ:jI) r H',nk ((g,e)::t) f args σ.heap=some (r,H')->ya P f args σ (fun o BC=>o= .ret r/\BC=H'):=by
 intro f args σ r H' h;simp only[nk] at h;split at h
 ·rename_i hg;subst hg;exact h1 _ _ _ _ h
 ·exact h2 _ _ _ _ _ h
def jR: ∀f args r,KO [] f args=some r->GP P f args (fun v=>v=r):=by
 intro f args r h;cases h
def nP{e:agq}{t:List (Nat×agq)}(h1:MX P g e)(h2: ∀f args r,KO t f args=some r->GP P f args (fun v=>v=r)):
 ∀f args r,KO ((g,e)::t) f args=some r->GP P f args (fun v=>v=r):=by
 intro f args r h;simp only[KO] at h;split at h
 ·rename_i hg;subst hg;exact h1 _ _ h
 ·exact h2 _ _ _ h
structure NZ where
 f:List jS->Nat->AV->Option AV
 ok: ∀H n v v',f H n v=some v'->Co H n v v'
variable {zs:List NZ}
structure ZO where
 f:List jS->Nat->jS->Option jS
 ok: ∀H n x y,f H n x=some y->KH H n x y
def zA:NZ:=⟨fun _ _ _=>some .any,fun _ _ _ _ h=>by cases h;exact Co.any⟩
def zK:NZ:=⟨fun _ n v=>lU (v.nb n) (some v),fun _ _ _ _ h=>by rw[lv] at h;obtain⟨h1,h2⟩:=h;cases h2;exact Co.same h1⟩
def zT(t:Ty α):NZ:=⟨fun H _ v=>(t.dec H v).bind fun x=>some (t.enc x),fun H n v v' h=>by
 simp only[dK,dM] at h;obtain⟨x,hx,rfl⟩:=h;exact t.ok H n v x hx⟩
def agr{sz:Nat}(hs:PM rows tV):Sub (.lI true sz rows) (.lI true sz tV):=by
 rintro E v ⟨base,cap,hv,h1,h2,h3,h4,h5⟩;refine⟨base,cap,by rw[<-hs.1];exact hv,by rw[<-hs.1];exact h1,fun _=>by rw[<-hs.1];exact h2 rfl,h3,fun a ha hne=>h4 a ha ?_,fun a ha=>hs.2 E sz _ _ (h5 a ha)⟩;rintro rfl;exact hne (eA hs.1.symm)
def dLt(r:Row α):AV->Option (List α)
 | .lI true sz rows=>bif sz==r.sz then pN r.dec rows else none
 |_=>none
def zL(r:Row α):NZ:=⟨fun _ _ v=>(dLt r v).bind fun x=>some (.lI true r.sz (mp r.enc x)),fun H n v v' h=>by
 simp only[dK,dM] at h;obtain⟨x,hx,rfl⟩:=h;unfold dLt at hx;split at hx
 ·rename_i sz rows;cases hz:(sz==r.sz) with
  |false=>rw[hz] at hx;cases hx
  |true=>
   rw[hz,ju] at hx;obtain rfl:=jB.1 hz;exact .inl (.inl ⟨agr (HF hx).1,vZ x⟩)
 ·cases hx⟩
def azU:(zL r).f H n v=(dLt r v).bind fun x=>some (.lI true r.sz (mp r.enc x)):=rfl
def azV:zA.f H n v=some .any:=rfl
def azW:zK.f H n v=lU (v.nb n) (some v):=rfl
def azX{t:Ty α}:(zT t).f H n v=(t.dec H v).bind fun x=>some (t.enc x):=rfl
def aa3:List NZ->List jS->Nat->List AV->Option (List AV)
 |[],_,_,[]=>some []
 |z::zs,H,n,v::vs=>(z.f H n v).bind fun u=>(aa3 zs H n vs).bind fun us=>some (u::us)
 |_,_,_,_=>none
def abT: ∀{zs:List NZ}{H:List jS}{n:Nat}{vs us:List AV},aa3 zs H n vs=some us->BB H n vs us
 |[],_,_,[],us,h=>by simp only[aa3,dM] at h;subst h;rfl
 |z::zs,H,n,v::vs,us,h=>by
  simp only[aa3,dK,dM] at h;obtain⟨u,hu,ws,hws,rfl⟩:=h;exact BB.cons (z.ok _ _ _ _ hu) (abT hws)
 |[],_,_,_::_,_,h=>by simp [aa3] at h
 |_::_,_,_,[],_,h=>by simp [aa3] at h
def oD:ZO:=⟨fun _ _ _=>some .dead,fun _ _ _ _ h=>by cases h;exact .inl rfl⟩
def oK:ZO:=⟨fun _ n x=>lU (pM n x) (some x),fun _ _ _ _ h=>by rw[lv] at h;obtain⟨h1,h2⟩:=h;cases h2;exact .inr (.inl ⟨rfl,h1⟩)⟩
def oCf(zs:List NZ)(H:List jS)(n:Nat):jS->Option jS
 | .cells cs=>(aa3 zs H n cs).bind fun ds=>some (.cells ds)
 |_=>none
def oC(zs:List NZ):ZO:=⟨oCf zs,fun H n x y h=>by
 unfold oCf at h;split at h
 ·simp only[dK,dM] at h;obtain⟨ds,hd,rfl⟩:=h;exact .inr (.inr (.inl ⟨_,_,rfl,rfl,abT hd⟩))
 ·cases h⟩
def oTf(c:SE α)(H:List jS):jS->Option jS
 | .cells cs=>(c.dec H cs).bind fun x=>some (.cells (c.enc x))
 |_=>none
def oT(c:SE α):ZO:=⟨fun H _=>oTf c H,fun H n x y h=>by
 unfold oTf at h;split at h
 ·simp only[dK,dM] at h;obtain⟨z,hz,rfl⟩:=h;exact .inr (.inr (.inl ⟨_,_,rfl,rfl,(c.ok H n _ _ hz).aqq⟩))
 ·cases h⟩
def oAf(r:Row α):jS->Option jS
 | .acc qT sz rows=>(pN r.dec rows).bind fun xs=>some (.acc qT sz (mp r.enc xs))
 |_=>none
def oA(r:Row α):ZO:=⟨fun _ _=>oAf r,fun H n x y h=>by
 unfold oAf at h;split at h
 ·simp only[dK,dM] at h;obtain⟨xs,hx,rfl⟩:=h;exact .inr (.inr (.inr (.inl ⟨_,_,_,_,rfl,rfl,(HF hx).2,vZ xs⟩)))
 ·cases h⟩
def azY{x:jS}:oD.f H n x=some .dead:=rfl
def azZ{x:jS}:oK.f H n x=lU (pM n x) (some x):=rfl
def az0:(oC zs).f H n (.cells cs)=(aa3 zs H n cs).bind fun ds=>some (.cells ds):=rfl
def az1{c:SE α}:(oT c).f H n (.cells cs)=(c.dec H cs).bind fun x=>some (.cells (c.enc x)):=rfl
def az2{qT:Bool}{sz:Nat}:(oA r).f H n (.acc qT sz rows)=(pN r.dec rows).bind fun xs=>some (.acc qT sz (mp r.enc xs)):=rfl
def alx:List ZO->List jS->Nat->List jS->Option (List jS)
 |[],_,_,_=>some []
 |z::zs,H,n,v::vs=>(z.f H n v).bind fun u=>(alx zs H n vs).bind fun us=>some (u::us)
 |_::_,_,_,[]=>none
def anb: ∀{zs:List ZO}{H:List jS}{n:Nat}{vs us:List jS},alx zs H n vs=some us->CoH H n vs us/\us.length=zs.length
 |[],_,_,vs,us,h=>by simp only[alx,dM] at h;subst h;exact⟨CoH.nil,rfl⟩
 |z::zs,H,n,v::vs,us,h=>by
  simp only[alx,dK,dM] at h;obtain⟨u,hu,ws,hws,rfl⟩:=h;obtain⟨h1,h2⟩:=anb hws;exact⟨⟨z.ok _ _ _ _ hu,h1⟩,by simp [h2]⟩
 |_::_,_,_,[],_,h=>by simp [alx] at h
def aiE:akH n []=True:=eq_true SR
def atm(zs:List NZ)(zo:List ZO)(σ:jI):Option jI:=
 (aa3 zs σ.heap zo.length σ.slots).bind fun ss=>(alx zo σ.heap zo.length σ.heap).bind fun hs=>bif decide (σ.low<=zo.length) then lU (akH zo.length σ.df) (some ⟨ss,hs,σ.low,σ.df⟩) else none
def atn{zo:List ZO}(h:atm zs zo σ=some σ'):FE σ σ':=by
 unfold atm at h;simp only[dK] at h;obtain⟨ss,h1,hs,h2,h3⟩:=h;cases hl:decide (σ.low<=zo.length) with
 |false=>simp [hl] at h3
 |true=>
  simp only[hl,ju] at h3;rw[lv] at h3;obtain⟨RZ,h3⟩:=h3;simp only[dM] at h3;subst h3;obtain⟨h4,h5⟩:=anb h2;have hle:σ.low<=hs.length:=by rw[h5];exact jy hl
  refine acm.imp ⟨⟨⟨rfl,hle⟩,rfl,by rw[h5];exact RZ⟩,?_,?_⟩
  ·show BB σ.heap hs.length σ.slots ss;rw[h5];exact abT h1
  ·show CoH σ.heap hs.length σ.heap hs;rw[h5];exact h4
def BY(i sz:Nat)(qT:Bool)(σ:jI):jI:=
 match σ.slots[i]? with
 |some (.lI true _ [])=>{slots:=σ.slots.set i (.acc σ.heap.length 0),heap:=σ.heap++[.acc qT sz []],low:=σ.low,df:=σ.df}
 |_=>σ
def acO {sz:Nat}{qT:Bool}:FE σ (BY i sz qT σ):=by
 unfold BY;split
 ·rename_i s h;exact ap1 h
 ·exact FE.refl σ
section aqt
variable {a:Act}
def PW {ds:List AV}{b o:Nat}:(jS.cells cs).w5 h b o->(jS.cells ds).w5 h b o:=by
 intro hm;cases h with
 |pointer p=>cases p<;>exact hm
 |_=>exact hm
theorem IG {ds:List AV}{b:Nat}:(jS.cells cs).block h b->(jS.cells ds).block h b:=by
 intro hm;cases h with
 |pointer p=>cases p<;>exact hm
 |_=>exact hm
def VA {ds:List AV}(hl:H[l]? =some (.cells cs)){x:jS}(hx:(H.set l (.cells ds))[k]? =some x):(k=l/\x= .cells ds)\/(k≠l/\H[k]? =some x):=by
 grind
def aly {ds:List AV}(hl:σ.heap[l]? =some (.cells cs)):C.env φ (σ.heap.set l (.cells ds)) w=C.env φ σ.heap w:=by
 have hlt:l<σ.heap.length:=(dV.1 hl).1
 have Xf: ∀b o,Dq φ (σ.heap.set l (.cells ds)) b o↔Dq φ σ.heap b o:=by
  intro b o;constructor
  ·rintro⟨k,x,hx,hm⟩;rcases VA hl hx with⟨rfl,rfl⟩|⟨_,hx⟩
   ·exact⟨k,_,hl,PW hm⟩
   ·exact⟨k,x,hx,hm⟩
  ·rintro⟨k,x,hx,hm⟩;by_cases e:k=l
   ·subst e;rw[hl] at hx;cases hx;exact⟨k,_,dZ hlt,PW hm⟩
   ·exact⟨k,x,by grind,hm⟩
 unfold o9.env;congr 1
 ·grind
 ·funext k;by_cases e:k=l
  ·subst e;rw[dZ hlt,hl];rfl
  grind
 ·exact eF
def lQ.aqu(S:lQ C φ σ a w){ds:List AV}(hl:σ.heap[l]? =some (.cells cs))(h: ∀b c t,φ l= .pointer (some ⟨b,0,none⟩)->w.heap[b]? =some (.cells c t (0,0))->kf (C.env φ σ.heap w) cs c.toList->kf (C.env φ σ.heap w) ds c.toList):
 lQ C φ {σ with heap:=σ.heap.set l (.cells ds)} a w:=by
 have hlt:l<σ.heap.length:=(dV.1 hl).1;have awh:C.env φ (σ.heap.set l (.cells ds)) w=C.env φ σ.heap w:=aly hl
 have Aa:qh C φ (σ.heap.set l (.cells ds)) w σ.df a.defers:=S.defers.ahE (fun xs vs _ r=>by rw[awh];exact r) (fun _ _ _=>rfl) (fun k x b hx hb=>by
  grind [IG])
 refine {slots:= ?_,defers:=Aa,mV:= ?_,apart:= ?_,rz:= ?_,size:=S.size,old:=S.old,mF:=S.mF,Bi:= ?_,tX:=S.tX,rest:=S.rest,low:=⟨S.low.1,by show σ.low<=(σ.heap.set l (.cells ds)).length;rw[eF];exact S.low.2⟩,names:= ?_}
 ·show kf (C.env φ (σ.heap.set l (.cells ds)) w) σ.slots a.tmps.toList;rw[awh];exact S.slots
 ·intro k x hx;show mN (C.env φ (σ.heap.set l (.cells ds)) w) x (φ k);rw[awh];rcases VA hl hx with⟨rfl,rfl⟩|⟨_,hx⟩
  ·obtain⟨b,c,t,h1,h2,h3,h4⟩:=S.mV k _ hl;exact⟨b,c,t,h1,h2,h b c t h1 h2 h3,h4⟩
  ·exact S.mV k x hx
 ·intro k k' x x' b hx hx' hb hb';rcases VA hl hx with⟨e1,rfl⟩|⟨_,h2⟩<;>rcases VA hl hx' with⟨e2,rfl⟩|⟨_,h3⟩
  ·rw[e1,e2]
  ·rw[e1] at hb ⊢;exact S.apart _ _ _ _ b hl h3 (IG hb) hb'
  ·rw[e2] at hb' ⊢;exact S.apart _ _ _ _ b h2 hl hb (IG hb')
  ·exact S.apart _ _ _ _ b h2 h3 hb hb'
 ·intro k x b o hx hb;rcases VA hl hx with⟨rfl,rfl⟩|⟨_,hx⟩
  ·exact S.rz _ _ b o hl (IG hb)
  ·exact S.rz _ _ b o hx hb
 ·intro k x b o hx hm hb;rcases VA hl hx with⟨rfl,rfl⟩|⟨_,hx⟩
  ·exact S.Bi _ _ b o hl (PW hm) hb
  ·exact S.Bi _ _ b o hx hm hb
 ·intro k hk;have:=S.names k hk;show(φ k=_/\(lr (σ.heap.set l (.cells ds))[k]? =_\/lr (σ.heap.set l (.cells ds))[k]? =none))\/((∃q,_/\ ∀k',lr (σ.heap.set l (.cells ds))[k]? =some k'->q<k')/\_)
  have e:lr (σ.heap.set l (.cells ds))[k]? =lr σ.heap[k]? :=by
   by_cases e:k=l
   ·subst e;rw[dZ hlt,hl];rfl
   grind
  rw[e];exact this
theorem afj {off s sz:Nat}(hl:σ.heap[l]? =some (.cells cs))(hc:cs[off]? =some (.lI true s [])):
 FE σ {slots:=σ.slots,heap:=σ.heap.set l (.cells (cs.set off (.acc σ.heap.length 0)))++[.acc true sz []],low:=σ.low,df:=σ.df}:=by
 intro C φ a w S;have hlt:l<σ.heap.length:=(dV.1 hl).1;obtain⟨b,c,t,hφ,hh,rl,h1⟩:=S.mV l _ hl;obtain⟨v,hv,base,cap,rfl,_,hcap,_⟩:=rl.get hc;have hcap:cap=0:=hcap rfl;subst hcap
 have S':=S.PK (qT:=true) (sz:=sz) (rows:=[]) (w':=w) (h':= .slice base 0 0) (eb _) (fun _ _=>rfl) (fun _=>rfl) ⟨rfl,rfl⟩ (by
  intro b hb;cases base<;>simp [jS.block] at hb) (fun E' _ _=>⟨base,0,rfl,eb _,fun _=>rfl,by simp,fun b _ h0=>absurd rfl h0⟩)
 refine⟨(fun k=>if k=σ.heap.length then .slice base 0 0 else φ k),?_⟩;have Kc:(σ.heap++[jS.acc true sz []])[l]? =some (.cells cs):=by grind
 have S2:=S'.aqu (l:=l) (cs:=cs) (ds:=cs.set off (.acc σ.heap.length 0)) Kc (by
  intro b2 c2 t2 h3 h4 r
  have e1:b2=b:=by
   grind
  subst e1;rw[show w.heap[b2]? =some (.cells c t (0,0)) from hh] at h4;simp only[dM,Obj.cells.injEq] at h4;obtain⟨rfl,_⟩:=h4
  have axN:=kf.set (i:=off) (c:= .acc σ.heap.length 0) (v:= .slice base 0 0) r ⟨by simp [o9.env],⟨_,_,_,rfl⟩,fun k hk=>by
   grind [o9.env]⟩
  grind [List.set_getElem_self])
 grind
def anc(l off sz:Nat)(σ:jI):jI:=
 match σ.heap[l]? with
 |some (.cells cs)=>match cs[off]? with
  |some (.lI true _ [])=>{slots:=σ.slots,heap:=σ.heap.set l (.cells (cs.set off (.acc σ.heap.length 0)))++[.acc true sz []],low:=σ.low,df:=σ.df}
  |_=>σ
 |_=>σ
def aqv {off sz:Nat}:FE σ (anc l off sz σ):=by
 grind [anc,afj,FE.refl]
end aqt
structure wX where
 gs:List (Nat×Nat×Bool)
 gc:List (Nat×Nat×Nat)
 zs:List NZ
 zo:List ZO
 sel:Option Nat
 axY:Option (Nat×Nat)
def aqw:Option AV->Bool
 |some (.lI _ _ _)=>true
 |_=>false
def awi:Option Nat->jI->Bool
 |none,_=>true
 |some i,σ=>aqw σ.slots[i]?
def aqx(k:Nat):Option AV->Bool
 |some (.map k')=>k'==k
 |_=>false
def awj:Option (Nat×Nat)->jI->Bool
 |none,_=>true
 |some (i,k),σ=>aqx k σ.slots[i]?
def ags:List (Nat×Nat×Bool)->jI->jI
 |[],σ=>σ
 |(i,sz,b)::r,σ=>ags r (BY i sz b σ)
def agt:List (Nat×Nat×Nat)->jI->jI
 |[],σ=>σ
 |(l,o,sz)::r,σ=>agt r (anc l o sz σ)
def afk: ∀{g:List (Nat×Nat×Bool)}{σ:jI},FE σ (ags g σ)
 |[],σ=>FE.refl σ
 |(_,_,_)::_,_=>acO.trans afk
def afl: ∀{g:List (Nat×Nat×Nat)}{σ:jI},FE σ (agt g σ)
 |[],σ=>FE.refl σ
 |(_,_,_)::_,_=>aqv.trans afl
def awk(N:wX)(σ:jI):Option jI:=atm N.zs N.zo (agt N.gc (ags N.gs σ))
def ato{N:wX}(h:awk N σ=some σ'):FE σ σ':=(afk.trans afl).trans (atn h)
def qk:List (List Nat×wX)->List Nat->jI->Option jI
 |[],_,σ=>some σ
 |(q,N)::t,p,σ=>if p=q then(bif awi N.sel σ&&awj N.axY σ then awk N σ else qk t p σ) else qk t p σ
def qg: ∀(t:List (List Nat×wX))(p:List Nat)(σ σ':jI),qk t p σ=some σ'->FE σ σ'
 |[],_,σ,σ',h=>by grind [qk,FE.refl]
 |(q,N)::t,p,σ,σ',h=>by
  simp only[qk] at h;split at h
  ·cases hs:(awi N.sel σ&&awj N.axY σ) with
   |true=>rw[hs] at h;exact ato h
   |false=>rw[hs] at h;exact qg t p σ σ' h
  ·exact qg t p σ σ' h
def ixA(σ:jI)(sz:Nat)(x i:AV):Option tL:=
 match x,i with
 | .lI _ JP rows,.int _ n=>if JP=sz then(tu rows n).bind fun r=>some {val:= .pp r} else none
 | .acc l m,.int _ n=>match σ.heap[l]? with
   |some (.acc true JP rows)=>if JP=sz/\rows.length=m then(tu rows n).bind fun r=>some {val:= .pp r,rd:=[l]} else none
   |some (.acc false JP rows)=>if JP=sz/\rows.length=m then(tu rows n).bind fun _=>some {val:= .own l n.toNat m 0 sz,rd:=[l]} else none
   |_=>none
 |_,_=>none
def atp(s:ByteArray)(n:Int):Option UInt8:=if 0<=n then s[n.toNat]? else none
def ixS(x i:AV):Option tL:=
 match x,i with
 | .str s,.int _ n=>(atp s n).bind fun b=>some {val:= .int .u8 b.toNat}
 |_,_=>none
def ldA(P:Program)(σ:jI)(t:TypeId)(v:AV):Option tL:=
 match oF P t,v with
 |some (g,n),.ptr l off=>match σ.heap[l]? with
  |some (.cells cs)=>(lG g n (cs.drop off)).bind fun v=>ldV σ.heap l v
  |_=>none
 |some (g,n),.pp cs=>(lG g n cs).bind fun v=>some {val:=v}
 |some (g,n),.own l i m o sz=>match σ.heap[l]? with
  |some (.acc false JP rows)=>if JP=sz/\rows.length=m then rows[i]?.bind fun r=>(lG g n (r.drop o)).bind fun v=>some {val:=v,rd:=[l]} else none
  |_=>none
 |some (false,_),.raw v=>ab7 v
 |_,_=>none
def stA(P:Program)(σ:jI)(t:TypeId)(v:AV)(ys:Option (List AV)):Option tL:=
 match oF P t,v,ys with
 |some (_,n),.ptr l off,some ys=>match σ.heap[l]? with
  |some (.cells cs)=>if ys.length=n/\off+n<=cs.length then some {val:= .any,rd:=[l],up:=[(l,.cells (tM cs off ys))]} else none
  |_=>none
 |some (_,n),.own l i m o sz,some ys=>match σ.heap[l]? with
  |some (.acc false JP rows)=>if JP=sz/\rows.length=m then rows[i]?.bind fun r=>if ys.length=n/\o+n<=sz then some {val:= .any,rd:=[l],up:=[(l,.acc false sz (rows.set i (tM r o ys)))]} else none else none
  |_=>none
 |_,_,_=>none
def aqy(n:Int)(f:Nat->Option tL):Nat->Nat->Option tL
 |0,_=>none
 |c+1,i=>bif n==(i:Int) then f i else aqy n f c (i+1)
theorem ane{n:Int}{f:Nat->Option tL}: ∀(c i:Nat),aqy n f c i=if (i:Int)<=n/\n<(i:Int)+c then f n.toNat else none
 |0,i=>by rw[if_neg (by omega)];rfl
 |c+1,i=>by
  rw[aqy,ane c (i+1)]
  grind
def ixP(len sz:Nat)(x i:AV):Option tL:=
 match x,i with
 | .ptr l off,.int _ n=>if len<=8 then aqy n (fun i=>some {val:= .ptr l (off+i*sz)}) len 0 else if 0<=n/\n<len then some {val:= .ptr l (off+n.toNat*sz)} else none
 | .pp cs,.int _ n=>if 0<=n/\n<len then(ab6 sz n.toNat cs).bind fun ds=>some {val:= .pp ds} else none
 | .raw (.pointer (some ⟨b,o,none⟩)),.int _ n=>if 0<=n/\n<len then some {val:= .raw (.pointer (some ⟨b,o+n.toNat*sz,none⟩))} else none
 |_,_=>none
def PB (P:Program) (σ:jI):Op->Option tL
 | .indexAddr t x i=>match nu P t with
   |some (_,sz,_)=>ixA σ sz (σ.ev x) (σ.ev i)
   |none=>match ahG P t with
    |some (len,sz)=>ixP len sz (σ.ev x) (σ.ev i)
    |none=>none
 | .index t x i=>if tj P t=true then ixS (σ.ev x) (σ.ev i) else none
 | .binOp op t x y ty=>match op with
   | .eql=>kI P σ (.binOp .eql t x y ty)
   | .neq=>kI P σ (.binOp .neq t x y ty)
   |op=>(aeZ op (σ.ev x) (σ.ev y)).bind fun v=>some {val:=v}
 | .load t x=>ldA P σ t (σ.ev x)
 | .store t x y=>stA P σ t (σ.ev x) (cellsOf (σ.ev y))
 |o=>kI P σ o
def Ky(H:List jS): ∀cs:List AV,uB 0 cs->vwL H cs=some (cs,[])
 |[],_=>rfl
 |c::cs,h=>by
  have ih:=Ky H cs h.2;cases c with
  |acc l n=>exact absurd h.1 (Nat.not_lt_zero _)
  |_=>simp only[vwL,ih]
theorem q6(P:Program)(σ:jI)(o:Op):kI P σ o=PB P σ o:=by
 cases o with
 |indexAddr t x i=>
  simp only[PB];cases ht:nu P t with
  |none=>
   simp only[kI,ht]
   grind [ixP,ane]
  |some q=>
   obtain⟨e,sz,b⟩:=q;simp only[kI,ht]
   grind [ixA,tu]
 |index t x i=>
  simp only[PB,kI];cases ht:tj P t
  ·grind
  ·cases hx:σ.ev x<;>cases hi:σ.ev i<;>simp only[ixS,jD]
   grind [atp]
 |binOp op t x y ty=>
  cases op with
  |eql=>rfl
  |neq=>rfl
  |_=>
   simp only[PB,kI];generalize aeZ _ (σ.ev x) (σ.ev y)=q;cases q<;>rfl
 |load t x=>
  simp only[PB,kI,ldA]
  grind
 |store t x y=>
  simp only[PB,kI,stA]
  grind
 |_=>rfl
section freeze
variable {a:Act}
def rp1(l:Nat)(cs:List AV):AV->AV
 | .ptr k off=>if k=l then .pp (cs.drop off) else .ptr k off
 |x=>x
def rpV(l:Nat)(cs:List AV):AV->AV
 | .ptr k off=>if k=l then .pp (cs.drop off) else .ptr k off
 | .func fn f c=> .func fn (f.map (rp1 l cs)) (c.map (rp1 l cs))
 |x=>x
def rpO(l:Nat)(cs:List AV):jS->jS
 | .cells ds=> .cells (ds.map (rpV l cs))
 |x=>x
def aiF(l:Nat)(σ:jI):Option jI:=
 match σ.heap[l]? with
 |some (.cells cs)=>lU (uB 0 cs/\σ.low<=l) (some {slots:=σ.slots.map (rpV l cs),heap:=(σ.heap.map (rpO l cs)).set l .dead,low:=σ.low,df:=σ.df})
 |_=>none
def aiG{x:jS}{b o:Nat}:(rpO l cs x).w5 h b o->x.w5 h b o:=by
 cases x with
 |cells ds=>exact PW
 |_=>exact id
theorem Oh{x:jS}{b:Nat}:(rpO l cs x).block h b->x.block h b:=by
 cases x with
 |cells ds=>exact IG
 |_=>exact id
theorem atq{x:jS}:lr (some (rpO l cs x))=lr (some x):=by
 cases x<;>rfl
def awl{y:jS}(h:((H.map (rpO l cs)).set l .dead)[k]? =some y):(k=l/\y= .dead)\/(k≠l/\ ∃x,H[k]? =some x/\y=rpO l cs x):=by
 grind
theorem aqz(h:aiF l σ=some σ'):FE σ σ':=by
 unfold aiF at h;split at h
 case h_2=>cases h
 rename_i cs hl;rw[lv] at h;obtain⟨⟨hnb,DL⟩,h⟩:=h;cases h;intro C φ a w S;refine⟨φ,?_⟩;have hlt:l<σ.heap.length:=(dV.1 hl).1;obtain⟨b0,c0,t0,hφ,hh,rl,hone⟩:=S.mV l _ hl
 let H':List jS:=(σ.heap.map (rpO l cs)).set l .dead
 have hlen:H'.length=σ.heap.length:=by simp [H']
 have mH: ∀(k:Nat)(y:jS),H'[k]? =some y->(k=l/\y= .dead)\/(k≠l/\ ∃x,σ.heap[k]? =some x/\y=rpO l cs x):=fun k y hy=>awl hy
 have Jr: ∀b o,Dq φ H' b o->Dq φ σ.heap b o:=by
  rintro b o ⟨k,y,hy,hm⟩;rcases mH k y hy with⟨_,rfl⟩|⟨_,x,hx,rfl⟩
  ·simp [jS.w5] at hm
  ·exact⟨k,x,hx,aiG hm⟩
 have ahL: ∀k:Nat,lr H'[k]? =lr σ.heap[k]? :=by
  intro k;by_cases e:k=l
  ·subst e;simp only[H'];rw[dZ (by simpa using hlt),hl];rfl
  grind [atq]
 have le:(C.env φ σ.heap w).Le σ.heap.length (C.env φ H' w):=
  o9.z8 (by rw[hlen];exact eb _) (fun k _=>⟨rfl,ahL k⟩) (fun b o u hm hc=>⟨fun h=>hm (h.imp (Jr b o) id),hc⟩)
 have hfree: ∀o,¬ (Dq φ H' b0 o\/C.A b0 o):=by
  rintro o (⟨k,y,hy,hm⟩|hA)
  ·rcases mH k y hy with⟨_,rfl⟩|⟨hne,x,hx,rfl⟩
   ·simp [jS.w5] at hm
   ·exact hne (S.apart k l x _ b0 hx hl (Oh (jS.mK hm)) (by rw[hφ];rfl))
  ·exact S.rz l _ b0 o hl (by rw[hφ];rfl) hA
 have rl':kf (C.env φ H' w) cs c0.toList:=kf.mono le _ _ (sn (eo _) _ hnb) rl
 have hpp: ∀(off:Nat)(v:Value),nr (C.env φ σ.heap w) (.ptr l off) v->nr (C.env φ H' w) (.pp (cs.drop off)) v:=by
  rintro off v ⟨_,b,hb,rfl⟩
  have e:b0=b:=by
   have hb':φ l= .pointer (some ⟨b,0,none⟩):=hb;rw[hφ] at hb';simpa using hb'
  subst e;refine⟨b0,off,rfl,?_⟩;have hd:=rl'.drop off;have h1: ∀u∈c0.toList.drop off,u.oneCell'=true:=fun u hu=>hone u (List.mem_of_mem_drop hu)
  have hl2:=hd.length;exact Em (E:=C.env φ H' w) (c:=c0) (t:=t0) (fr:=(0,0)) hh _ off (fun o _ _=>hfree o) (by grind) (by grind)
 have h1: ∀(x:AV)(v:Value),nr (C.env φ σ.heap w) x v->nr (C.env φ H' w) (rp1 l cs x) v:=by
  intro x v r;cases x with
  |ptr k off=>
   simp only[rp1];split
   ·grind
   ·exact nr.mono le _ _ (nr.nb _ _ r) r
  |_=>exact nr.mono le _ _ (nr.nb _ _ r) r
 have hL1: ∀(xs:List AV)(vs:List Value),kf (C.env φ σ.heap w) xs vs->kf (C.env φ H' w) (xs.map (rp1 l cs)) vs:=by
  intro xs;induction xs with
  |nil=>intro vs r;exact r
  |cons x xs ih=>rintro _ ⟨u,us,rfl,r1,r2⟩;exact⟨u,us,rfl,h1 x u r1,ih us r2⟩
 have hV: ∀(x:AV)(v:Value),nr (C.env φ σ.heap w) x v->nr (C.env φ H' w) (rpV l cs x) v:=by
  intro x v r;cases x with
  |ptr k off=>
   simp only[rpV];split
   ·grind
   ·exact nr.mono le _ _ (nr.nb _ _ r) r
  |func fn f c=>
   obtain⟨f',c',hv,r1,r2⟩:=r;exact⟨f',c',hv,hL1 _ _ r1,hL1 _ _ r2⟩
  |_=>exact nr.mono le _ _ (nr.nb _ _ r) r
 have hLV: ∀(xs:List AV)(vs:List Value),kf (C.env φ σ.heap w) xs vs->kf (C.env φ H' w) (xs.map (rpV l cs)) vs:=by
  intro xs;induction xs with
  |nil=>intro vs r;exact r
  |cons x xs ih=>rintro _ ⟨u,us,rfl,r1,r2⟩;exact⟨u,us,rfl,hV x u r1,ih us r2⟩
 have Aa:qh C φ H' w σ.df a.defers:=S.defers.step le (fun _ _ _=>rfl) (fun k y b hy hb=>by
  grind [jS.block,Oh])
 refine {slots:=hLV _ _ S.slots,defers:=Aa,mV:= ?_,apart:= ?_,rz:= ?_,size:=S.size,old:=S.old,mF:=S.mF,Bi:= ?_,tX:=S.tX,rest:=S.rest,low:=⟨S.low.1,by grind⟩,names:= ?_}
 ·intro k y hy;rcases mH k y hy with⟨_,rfl⟩|⟨_,x,hx,rfl⟩
  ·exact trivial
  ·have r:=S.mV k x hx;cases x with
   |cells ds=>
    obtain⟨b,c,t,h1,h2,h3,h4⟩:=r;exact⟨b,c,t,h1,h2,hLV _ _ h3,h4⟩
   |_=>exact mN.mono r le (fun _ _=>rfl)
 ·intro k k' y y' b hy hy' hb hb';rcases mH k y hy with⟨_,rfl⟩|⟨_,x,hx,rfl⟩
  ·simp [jS.block] at hb
  ·rcases mH k' y' hy' with⟨_,rfl⟩|⟨_,x',hx',rfl⟩
   ·simp [jS.block] at hb'
   ·exact S.apart k k' x x' b hx hx' (Oh hb) (Oh hb')
 ·intro k y b o hy hb;rcases mH k y hy with⟨_,rfl⟩|⟨_,x,hx,rfl⟩
  ·simp [jS.block] at hb
  ·exact S.rz k x b o hx (Oh hb)
 ·intro k y b o hy hm hb;rcases mH k y hy with⟨_,rfl⟩|⟨_,x,hx,rfl⟩
  ·simp [jS.w5] at hm
  ·exact S.Bi k x b o hx (aiG hm) hb
 ·intro k hk;have:=S.names k hk
  grind
def aiH{sz:Nat}{b o:Nat}:(jS.acc true sz rows).w5 h b o->(jS.acc false sz rows).w5 h b o:=by
 intro hm;cases h with
 |slice base n cap=>
  cases base with
  |none=>exact hm
  |some a=>exact⟨hm.1,fun h=>by cases h⟩
 |_=>exact hm
def lQ.qT{a:Act}{sz:Nat}(hl:σ.heap[l]? =some (.acc false sz rows))(S:lQ C φ σ a w):lQ C φ {σ with heap:=σ.heap.set l (.acc true sz rows)} a w:=by
 have hlt:l<σ.heap.length:=(dV.1 hl).1
 let H':List jS:=σ.heap.set l (.acc true sz rows)
 have hlen:H'.length=σ.heap.length:=by simp [H']
 have mH: ∀(k:Nat)(y:jS),H'[k]? =some y->(k=l/\y= .acc true sz rows)\/σ.heap[k]? =some y:=by
  grind
 have Jr: ∀b o,Dq φ H' b o->Dq φ σ.heap b o:=by
  rintro b o ⟨k,y,hy,hm⟩;rcases mH k y hy with⟨rfl,rfl⟩|hx
  ·exact⟨k,_,hl,aiH hm⟩
  ·exact⟨k,y,hx,hm⟩
 have ahL: ∀k:Nat,lr H'[k]? =lr σ.heap[k]? :=by
  intro k;by_cases e:k=l
  ·subst e;simp only[H'];rw[dZ hlt,hl];rfl
  grind
 have le:(C.env φ σ.heap w).Le σ.heap.length (C.env φ H' w):=
  o9.z8 (by rw[hlen];exact eb _) (fun k _=>⟨rfl,ahL k⟩) (fun b o u hm hc=>⟨fun h=>hm (h.imp (Jr b o) id),hc⟩)
 have Hw: ∀{h:Value}{b:Nat},(jS.acc true sz rows).block h b->(jS.acc false sz rows).block h b:=by
  intro h b hb;cases h with
  |slice base n cap=>cases base<;>exact hb
  |_=>exact hb
 have aqA: ∀(k:Nat)(y:jS)(b:Nat),H'[k]? =some y->y.block (φ k) b-> ∃x,σ.heap[k]? =some x/\x.block (φ k) b:=by
  grind
 have Aa:qh C φ H' w σ.df a.defers:=S.defers.step le (fun _ _ _=>rfl) (fun k y b hy hb=>by
  grind)
 refine {slots:=kf.mono le _ _ (kf.nb _ _ S.slots) S.slots,defers:=Aa,mV:= ?_,apart:= ?_,rz:= ?_,size:=S.size,old:=S.old,mF:=S.mF,Bi:= ?_,tX:=S.tX,rest:=S.rest,low:=⟨S.low.1,by show σ.low<=H'.length;rw[hlen];exact S.low.2⟩,names:= ?_}
 ·intro k y hy;rcases mH k y hy with⟨rfl,rfl⟩|hx
  ·have r:mN (C.env φ H' w) (.acc false sz rows) (φ k):=mN.mono (S.mV k _ hl) le (fun _ _=>rfl);exact r
  ·exact mN.mono (S.mV k y hx) le (fun _ _=>rfl)
 ·intro k k' y y' b hy hy' hb hb';obtain⟨x,hx,XO⟩:=aqA k y b hy hb;obtain⟨x',hx',hb2⟩:=aqA k' y' b hy' hb';exact S.apart k k' x x' b hx hx' XO hb2
 ·intro k y b o hy hb;obtain⟨x,hx,XO⟩:=aqA k y b hy hb;exact S.rz k x b o hx XO
 ·intro k y b o hy hm hb;rcases mH k y hy with⟨rfl,rfl⟩|hx
  ·exact S.Bi k _ b o hl (aiH hm) hb
  ·exact S.Bi k y b o hx hm hb
 ·intro k hk;have:=S.names k hk
  grind
theorem atr {sz:Nat}(hl:σ.heap[l]? =some (.acc false sz rows)):FE σ {σ with heap:=σ.heap.set l (.acc true sz rows)}:=fun _ φ _ _ S=>⟨φ,lQ.qT hl S⟩
def ad8(σ:jI)(l:Nat):Option jS->jI
 |some (.acc false sz rows)=>{σ with heap:=σ.heap.set l (.acc true sz rows)}
 |_=>σ
theorem anf:FE σ (ad8 σ l σ.heap[l]?):=by
 unfold ad8
 grind [atr,FE.refl]
def aa4(σ:jI):Option AV->jI
 |some (.acc l _)=>ad8 σ l σ.heap[l]?
 |_=>σ
def att{x:Option AV}:FE σ (aa4 σ x):=by
 unfold aa4
 grind [anf,FE.refl]
theorem aqB{x:Option AV}:(aa4 σ x).low=σ.low:=by
 unfold aa4 ad8;split
 ·split<;>rfl
 ·rfl
theorem atu{x:Option AV}:(aa4 σ x).df=σ.df:=by
 unfold aa4 ad8;split
 ·split<;>rfl
 ·rfl
def awm:(∀l n,aa4 σ (some (.acc l n))=ad8 σ l σ.heap[l]?):=fun _ _=>rfl
def awn:(∀sz rows,ad8 σ l (some (.acc false sz rows))={σ with heap:=σ.heap.set l (.acc true sz rows)})/\(∀sz rows,ad8 σ l (some (.acc true sz rows))=σ):=⟨fun _ _=>rfl,fun _ _=>rfl⟩
end freeze
def fzX(l:Nat)(σ:jI):Option jS->Option jI
 |some (.acc _ _ _)=>some (ad8 σ l σ.heap[l]?)
 |_=>aiF l σ
def awo{x:Option jS}(h:fzX l σ x=some σ'):FE σ σ':=by
 unfold fzX at h
 grind [anf,aqz]
def afm:List Nat->jI->Option jI
 |[],σ=>some σ
 |l::ls,σ=>(fzX l σ σ.heap[l]?).bind (afm ls)
def axZ:(∀i s r,fzX l σ (some (.acc i s r))=some (ad8 σ l σ.heap[l]?))/\(∀cs,fzX l σ (some (.cells cs))=aiF l σ):=⟨fun _ _ _=>rfl,fun _=>rfl⟩
def aiI: ∀{ls:List Nat}{σ σ':jI},afm ls σ=some σ'->FE σ σ'
 |[],σ,σ',h=>by grind [afm,FE.refl]
 |l::ls,σ,σ',h=>by
  simp only[afm,dK] at h;obtain⟨σ1,h1,h2⟩:=h;exact(awo h1).trans (aiI h2)
def Xq:List (List Nat×List Nat)->List Nat->jI->Option jI
 |[],_,σ=>some σ
 |(q,ls)::t,p,σ=>if p=q then afm ls σ else Xq t p σ
def qy: ∀(t:List (List Nat×List Nat))(p:List Nat)(σ σ':jI),Xq t p σ=some σ'->FE σ σ'
 |[],_,σ,σ',h=>by grind [Xq,FE.refl]
 |(q,ls)::t,p,σ,σ',h=>by
  simp only[Xq] at h;split at h
  ·exact aiI h
  ·exact qy t p σ σ' h
section az3
def cI(k:IntKind):SE Int where
 enc n:=[.int k n]
 dec _ cs:=dI1 k cs
 ok H n cs x h:=by
  unfold dI1 at h
  grind [oe.cons,C6,oe.nil]
 nb _ _:=⟨trivial,trivial⟩
def cB:SE Bool where
 enc b:=[.bool b]
 dec _ cs:=dB1 cs
 ok H n cs x h:=by
  unfold dB1 at h
  grind [oe.cons,ana,oe.nil]
 nb _ _:=⟨trivial,trivial⟩
def cS:SE Str where
 enc s:=[.str (sb s)]
 dec _ cs:=dS1 cs
 ok H n cs x h:=by
  unfold dS1 at h
  grind [oe.cons,Yi,oe.nil]
 nb _ _:=⟨trivial,trivial⟩

def dL1(r:Row α)(H:List jS):List AV->Option (List α)
 |[c]=>dL r H c
 |_=>none
def cL(r:Row α):SE (List α) where
 enc xs:=[.lI false r.sz (mp r.enc xs)]
 dec:=dL1 r
 ok H n cs x h:=by
  unfold dL1 at h
  grind [oe.cons,Of,oe.nil]
 nb n xs:=⟨vZ xs,trivial⟩
def dF1(f:FuncId):List AV->Option Unit
 |[c]=>dF f c
 |_=>none
def cF (f:FuncId):SE Unit where
 enc _:=[.func (.func f) [] []]
 dec _ cs:=dF1 f cs
 ok H n cs x h:=by
  unfold dF1 at h;split at h
  ·unfold dF at h;split at h
   ·split at h
    ·rename_i e;subst e;exact oe.cons (Co1.sub (Sub.refl _) ⟨trivial,trivial⟩) oe.nil
    ·cases h
   ·cases h
  ·cases h
 nb _ _:=⟨⟨trivial,trivial⟩,trivial⟩
def az4{k:IntKind}:(∀n,(cI k).enc n=[.int k n])/\ ∀H cs,(cI k).dec H cs=dI1 k cs:=⟨fun _=>rfl,fun _ _=>rfl⟩
def az5:(∀n,cB.enc n=[.bool n])/\ ∀H cs,cB.dec H cs=dB1 cs:=⟨fun _=>rfl,fun _ _=>rfl⟩
def az6:(∀n,cS.enc n=[.str (sb n)])/\ ∀H cs,cS.dec H cs=dS1 cs:=⟨fun _=>rfl,fun _ _=>rfl⟩
def az7{r:Row α}:(∀n,(cL r).enc n=[.lI false r.sz (mp r.enc n)])/\ ∀H cs,(cL r).dec H cs=dL1 r H cs:=⟨fun _=>rfl,fun _ _=>rfl⟩
def az8:(∀n,(cF f).enc n=[.func (.func f) [] []])/\ ∀H cs,(cF f).dec H cs=dF1 f cs:=⟨fun _=>rfl,fun _ _=>rfl⟩
def dP(c:SE α):AV->Option α
 | .pp cs=>c.dec [] cs
 |_=>none
def ax0{c:SE α}{x:α}(h:dP c v=some x):Sub v (.pp (c.enc x)):=by
 unfold dP at h;split at h
 ·exact Sub.pp (c.ok [] 0 _ _ h).oW.asZ
 ·cases h
def yg(c:SE α):Ty α where
 enc x:= .pp (c.enc x)
 dec _:=dP c
 ok H n v x h:=Co.sub (ax0 h) (c.nb n x)
 nb n x:=c.nb n x
def atv{c:SE α}{x:α}:(yg c).enc x= .pp (c.enc x):=rfl
def atw{c:SE α}:(yg c).dec H v=dP c v:=rfl
def dK1(f:FuncId)(a:Ty α):AV->Option α
 | .func (.func g) [] [x]=>if g=f then a.dec [] x else none
 |_=>none
def dK2(f:FuncId)(a:Ty α)(b:Ty β):AV->Option (α×β)
 | .func (.func g) [] [x,y]=>if g=f then(a.dec [] x).bind fun u=>(b.dec [] y).bind fun v=>some (u,v) else none
 |_=>none
def dK3(f:FuncId)(a:Ty α)(b:Ty β)(c:Ty γ):AV->Option (α×β×γ)
 | .func (.func g) [] [x,y,z]=>if g=f then(a.dec [] x).bind fun u=>(b.dec [] y).bind fun v=>(c.dec [] z).bind fun w=>some (u,v,w) else none
 |_=>none
def aiJ(f:FuncId)(a:Ty α):Ty α where
 enc x:= .func (.func f) [] [a.enc x]
 dec _:=dK1 f a
 ok H n v x h:=by
  unfold dK1 at h;split at h
  ·split at h
   ·rename_i e;subst e;exact Co.sub (Sub.func qi.nil (qi.cons (a.ok [] 0 _ _ h).oW qi.nil)) ⟨trivial,a.nb n x,trivial⟩
   ·cases h
  ·cases h
 nb n x:=⟨trivial,a.nb n x,trivial⟩
def ax1(f:FuncId)(a:Ty α)(b:Ty β):Ty (α×β) where
 enc x:= .func (.func f) [] [a.enc x.1,b.enc x.2]
 dec _:=dK2 f a b
 ok H n v x h:=by
  unfold dK2 at h;split at h
  ·split at h
   ·rename_i e;subst e;simp only[dK,dM] at h;obtain⟨u,hu,w,hw,rfl⟩:=h;exact Co.sub (Sub.func qi.nil (qi.cons (a.ok [] 0 _ _ hu).oW (qi.cons (b.ok [] 0 _ _ hw).oW qi.nil))) ⟨trivial,a.nb n u,b.nb n w,trivial⟩
   ·cases h
  ·cases h
 nb n x:=⟨trivial,a.nb n _,b.nb n _,trivial⟩
def ax2(f:FuncId)(a:Ty α)(b:Ty β)(c:Ty γ):Ty (α×β×γ) where
 enc x:= .func (.func f) [] [a.enc x.1,b.enc x.2.1,c.enc x.2.2]
 dec _:=dK3 f a b c
 ok H n v x h:=by
  unfold dK3 at h;split at h
  ·split at h
   ·rename_i e;subst e;simp only[dK,dM] at h;obtain⟨u,hu,w,hw,p,hp,rfl⟩:=h;exact Co.sub (Sub.func qi.nil (qi.cons (a.ok [] 0 _ _ hu).oW (qi.cons (b.ok [] 0 _ _ hw).oW (qi.cons (c.ok [] 0 _ _ hp).oW qi.nil)))) ⟨trivial,a.nb n u,b.nb n w,c.nb n p,trivial⟩
   ·cases h
  ·cases h
 nb n x:=⟨trivial,a.nb n _,b.nb n _,c.nb n _,trivial⟩
def awq{a:Ty α}:(∀x,(aiJ f a).enc x= .func (.func f) [] [a.enc x])/\ ∀H v,(aiJ f a).dec H v=dK1 f a v:=⟨fun _=>rfl,fun _ _=>rfl⟩
def awr{a:Ty α}{b:Ty β}:(∀x,(ax1 f a b).enc x= .func (.func f) [] [a.enc x.1,b.enc x.2])/\ ∀H v,(ax1 f a b).dec H v=dK2 f a b v:=⟨fun _=>rfl,fun _ _=>rfl⟩
def aws{a:Ty α}{b:Ty β}{c:Ty γ}:(∀x,(ax2 f a b c).enc x= .func (.func f) [] [a.enc x.1,b.enc x.2.1,c.enc x.2.2])/\ ∀H v,(ax2 f a b c).dec H v=dK3 f a b c v:=⟨fun _=>rfl,fun _ _=>rfl⟩
end az3
section mV

structure OTy(α:Type) where
 enc:α->jS
 dec:List jS->jS->Option α
 ok: ∀H n x y,dec H x=some y->KH H n x (enc y)
 n9: ∀τ y,(enc y).n9 τ=enc y
 nb: ∀n y,pM n (enc y)
def daT(qT:Bool)(r:Row α):jS->Option (List α)
 | .acc az9 sz rows=>if az9=qT/\sz=r.sz then pN r.dec rows else none
 |_=>none
def oaT(qT:Bool)(r:Row α):OTy (List α) where
 enc xs:= .acc qT r.sz (mp r.enc xs)
 dec _:=daT qT r
 ok H n x y h:=by
  unfold daT at h;split at h
  ·split at h
   ·rename_i hc;obtain⟨rfl,rfl⟩:=hc;exact .inr (.inr (.inr (.inl ⟨_,_,_,_,rfl,rfl,(HF h).2,vZ y⟩)))
   ·cases h
  ·cases h
 n9 τ y:=by grind [jS.n9,tN,vZ]
 nb n y:=vZ y
def dcT(c:SE α)(H:List jS):jS->Option α
 | .cells cs=>c.dec H cs
 |_=>none
def xG(c:SE α):OTy α where
 enc x:= .cells (c.enc x)
 dec:=dcT c
 ok H n x y h:=by
  unfold dcT at h;split at h
  ·exact .inr (.inr (.inl ⟨_,_,rfl,rfl,(c.ok H n _ _ h).aqq⟩))
  ·cases h
 n9 τ y:=by simp only[jS.n9];rw[qQ τ _ (c.nb 0 y)]
 nb n y:=c.nb n y
def ax3{qT:Bool}{r:Row α}:(∀x,(oaT qT r).enc x= .acc qT r.sz (mp r.enc x))/\ ∀H x,(oaT qT r).dec H x=daT qT r x:=⟨fun _=>rfl,fun _ _=>rfl⟩
def ax4{c:SE α}:(∀x,(xG c).enc x= .cells (c.enc x))/\ ∀H x,(xG c).dec H x=dcT c H x:=⟨fun _=>rfl,fun _ _=>rfl⟩
structure Rj(β:Type) where
 enc:β->List jS
 dec:List jS->List jS->Option β
 ok: ∀H n xs b,dec H xs=some b->CoH H n xs (enc b)/\(enc b).length=xs.length
 n9: ∀τ b,∀y∈enc b,y.n9 τ=y
 nb: ∀n b,∀y∈enc b,pM n y
def tz:Rj Unit where
 enc _:=[]
 dec _
  |[]=>some ()
  |_=>none
 ok H n xs b h:=by
  grind [CoH.nil]
 n9 _ _:=by simp
 nb _ _:=by simp
def atx(o:OTy γ)(s:Rj β)(H:List jS):List jS->Option (γ×β)
 |x::xs=>(o.dec H x).bind fun y=>(s.dec H xs).bind fun b=>some (y,b)
 |[]=>none
def uF(o:OTy γ)(s:Rj β):Rj (γ×β) where
 enc b:=o.enc b.1::s.enc b.2
 dec:=atx o s
 ok H n xs b h:=by
  unfold atx at h;split at h
  ·simp only[dK,dM] at h;obtain⟨y,hy,b,hb,rfl⟩:=h;obtain⟨h1,h2⟩:=s.ok H n _ _ hb;exact⟨⟨o.ok H n _ _ hy,h1⟩,by simp [h2]⟩
  ·cases h
 n9 τ b y hy:=by
  simp only[eB] at hy;rcases hy with rfl|hy
  ·exact o.n9 τ _
  ·exact s.n9 τ _ y hy
 nb n b y hy:=by
  simp only[eB] at hy;rcases hy with rfl|hy
  ·exact o.nb n _
  ·exact s.nb n _ y hy
def ax5:(∀b,tz.enc b=[])/\ ∀H,tz.dec H []=some ():=⟨fun _=>rfl,fun _=>rfl⟩
def ax6{o:OTy γ}{s:Rj β}:(∀b,(uF o s).enc b=o.enc b.1::s.enc b.2)/\ ∀H xs,(uF o s).dec H xs=atx o s H xs:=⟨fun _=>rfl,fun _ _=>rfl⟩
structure DP(β α:Type) where
 enc:β->α->List AV
 dec:β->List jS->List AV->Option α
 need:Nat
 ok: ∀b H n xs a,need<=n->dec b H xs=some a->BB H n xs (enc b a)
def II:DP β Unit where
 enc _ _:=[]
 dec _ _
  |[]=>some ()
  |_=>none
 need:=0
 ok b H n xs a _ h:=by
  grind [BB.nil]
def aty(t:Ty γ)(s:DP β α)(b:β)(H:List jS):List AV->Option (γ×α)
 |x::xs=>(t.dec H x).bind fun y=>(s.dec b H xs).bind fun a=>some (y,a)
 |[]=>none
def Ml(t:Ty γ)(s:DP β α):DP β (γ×α) where
 enc b a:=t.enc a.1::s.enc b a.2
 dec:=aty t s
 need:=s.need
 ok b H n xs a hn h:=by
  unfold aty at h;split at h
  ·simp only[dK,dM] at h;obtain⟨y,hy,a,ha,rfl⟩:=h;exact BB.cons (t.ok H n _ _ hy) (s.ok b H n _ _ hn ha)
  ·cases h
def atz(k:Nat)(len:β->Nat)(s:DP β α)(b:β)(H:List jS):List AV->Option α
 | .acc l m::xs=>if l=k/\m=len b then s.dec b H xs else none
 |_=>none
def rsA(k:Nat)(len:β->Nat)(s:DP β α):DP β α where
 enc b a:= .acc k (len b)::s.enc b a
 dec:=atz k len s
 need:=max (k+1) s.need
 ok b H n xs a hn h:=by
  unfold atz at h;split at h
  ·split at h
   ·rename_i hc;obtain⟨rfl,rfl⟩:=hc;exact BB.cons (Co.same (show _<n by omega)) (s.ok b H n _ _ (by omega) h)
   ·cases h
  ·cases h
def ax7:(∀(b:β) a,II.enc b a=[])/\(∀(b:β) H,II.dec b H []=some ())/\(II:DP β Unit).need=0:=⟨fun _ _=>rfl,fun _ _=>rfl,rfl⟩
def ax8{t:Ty γ}{s:DP β α}:(∀b a,(Ml t s).enc b a=t.enc a.1::s.enc b a.2)/\(∀b H xs,(Ml t s).dec b H xs=aty t s b H xs)/\(Ml t s).need=s.need:=⟨fun _ _=>rfl,fun _ _ _=>rfl,rfl⟩
def ax9{len:β->Nat}{s:DP β α}:(∀b a,(rsA k len s).enc b a= .acc k (len b)::s.enc b a)/\(∀b H xs,(rsA k len s).dec b H xs=atz k len s b H xs)/\(rsA k len s).need=max (k+1) s.need:=⟨fun _ _=>rfl,fun _ _ _=>rfl,rfl⟩
end mV
def tA:List AV->AV
 |[y]=>y
 |ys=> .EQ ys
theorem CoH.take: ∀{xs ys:List jS}(k:Nat),CoH H n (xs.take k) ys->CoH H n xs ys
 |_,[],_,_=>CoH.nil
 |[],_::_,k,h=>by cases k<;>exact h.elim
 |x::xs,y::ys,0,h=>h.elim
 |x::xs,y::ys,k+1,h=>⟨h.1,CoH.take k h.2⟩
section aAa

def Xr(σ σ':jI):Prop:= ∀(C:o9)(φ:Nat->Value)(tmps:Array Value)(w:World),lQ C φ σ {tmps,defers:=[]} w-> ∃φ',lQ C φ' σ' {tmps,defers:=[]} w
theorem FE.e(h:FE σ σ'):Xr σ σ':=fun C φ tmps w S=>h C φ _ w S
theorem Xr.trans {σ'':jI}(h:Xr σ σ')(h':Xr σ' σ''):Xr σ σ'':=fun C φ tmps w S=>
 let ⟨φ',S'⟩:=h C φ tmps w S
 h' C φ' tmps w S'
def IJ {xs:List AV}(hx:w6 P σ' rs=some xs)(Dr:Xr ⟨xs,σ'.heap,σ'.low,[]⟩ ⟨ys,H',σ'.low,[]⟩):ZJ P rs (fun o BC=>o= .ret (tA ys)/\BC=H') none σ':=by
 have key: ∃x,JQ P σ' rs=some x/\ ∃r BC,Xl σ' x r BC/\((sv.ret r)= .ret (tA ys)/\BC=H'):=by
  have exp: ∀(x:AV),(∀C φ a w,lQ C φ σ' a w-> ∀v,nr (C.env φ σ'.heap w) x v-> ∃vs:List Value,kf (C.env φ σ'.heap w) xs vs/\ ∀E,kf E ys vs->nr E (tA ys) v)->Xl σ' x (tA ys) H':=by
   intro x LM C φ a w S v hv;obtain⟨vs,hvs,SQ⟩:=LM C φ a w S v hv;have S0:lQ C φ ⟨xs,σ'.heap,σ'.low,[]⟩ {tmps:=vs.toArray,defers:=[]} w:={S with slots:=by simpa using hvs,defers:=qh.nil};obtain⟨φ',S1⟩:=Dr C φ vs.toArray w S0;exact⟨φ',{S1 with slots:=rfl,defers:=qh.nil},SQ _ (by simpa using S1.slots)⟩
  unfold JQ;rw[hx]
  match xs,hx,exp with
  |[x],hx,exp=>
   refine⟨x,rfl,_,_,exp x ?_,rfl,rfl⟩;intro C φ a w S v hv;refine⟨[v],⟨v,[],rfl,hv,rfl⟩,fun E hr=> ?_⟩;have:=hr.length
   match ys,this,hr with
   |[y],_,⟨u,us,he,h1,h2⟩=>
    simp only[ey] at he;obtain⟨rfl,_⟩:=he;exact h1
  |[],hx,exp=>
   refine⟨.EQ [],rfl,_,_,exp _ ?_,rfl,rfl⟩;rintro C φ a w S v ⟨vs,rfl,hvs⟩;refine⟨vs.toList,hvs,fun E hr=> ?_⟩;have h1:=hr.length;have h2:=hvs.length
   match ys,hr,h1 with
   |[],hr,_=>exact⟨vs,rfl,hr⟩
   |[_],hr,h1=>rw[h1] at h2;simp at h2
   |_::_::_,hr,h1=>rw[h1] at h2;simp at h2
  |x::x'::xs,hx,exp=>
   refine⟨.EQ (x::x'::xs),rfl,_,_,exp _ ?_,rfl,rfl⟩;rintro C φ a w S v ⟨vs,rfl,hvs⟩;refine⟨vs.toList,hvs,fun E hr=> ?_⟩;have h1:=hr.length;have h2:=hvs.length
   match ys,hr,h1 with
   |[],hr,h1=>rw[h1] at h2;simp at h2
   |[_],hr,h1=>rw[h1] at h2;simp at h2
   |_::_::_,hr,_=>exact⟨vs,rfl,hr⟩
 exact key
def aiK {y:AV}(Dr:Xr ⟨[x],σ'.heap,σ'.low,[]⟩ ⟨[y],H',σ'.low,[]⟩):ZJ P rs (fun o BC=>o= .panic y/\BC=H') (some x) σ':=by
 refine⟨y,H',?_,rfl,rfl⟩;intro C φ a w S v hv;have S0:lQ C φ ⟨[x],σ'.heap,σ'.low,[]⟩ {tmps:=[v].toArray,defers:=[]} w:={S with slots:=⟨v,[],rfl,hv,rfl⟩,defers:=qh.nil};obtain⟨φ',S1⟩:=Dr C φ _ w S0;obtain⟨u,us,he,h1,_⟩:=S1.slots;simp only[ey] at he;obtain⟨rfl,_⟩:=he;exact⟨φ',{S1 with slots:=rfl,defers:=qh.nil},h1⟩
def Yn{fn:Func}{r:R}(G:Good M)(hf:M.P.funcs[f]? =some fn)(hb:fn.body=some M.body)(hne:(fn.name != "runtime.NumGoroutine")=true)
 (hnb:uB H.length args) (EB: ∀x∈H,pM H.length x) (hn:fn.ntmps=n) (Oc:fn.results=rs.toArray)
 (hout: ∀σ,M.out σ=some r->Yh M.P (ZJ M.P rs V) σ.df none σ) (aya: ∀x σ,M.nB x σ=some r->Yh M.P (ZJ M.P rs V) σ.df (some x) σ)
 (h:run M [.at []] {slots:=args++dN (n-args.length) .any,heap:=H,low:=H.length}=some r):FnG M.P f args H V:=by
 refine aie hf hb hne hnb EB hn Oc ?_;exact PT G h (fun σ' hs=>⟨hout σ' hs,hout σ' hs⟩) aya
def BD{fn:Func}{r:R}(G:Good M)(hf:M.P.funcs[f]? =some fn)(hb:fn.body=some M.body)(hne:(fn.name != "runtime.NumGoroutine")=true)
 (hnb:uB H.length args) (EB: ∀x∈H,pM H.length x) (hn:fn.ntmps=n) (Oc:fn.results=rs.toArray)
 (hout: ∀σ,M.out σ=some r->σ.df=[]/\ ∃xs,w6 M.P σ rs=some xs/\Xr ⟨xs,σ.heap,σ.low,[]⟩ ⟨ys,H',σ.low,[]⟩)
 (h:run M [.at []] {slots:=args++dN (n-args.length) .any,heap:=H,low:=H.length}=some r) (hP: ∀x σ',M.nB x σ'=none:=by intros;rfl):FnG M.P f args H (fun o BC=>o= .ret (tA ys)/\BC=H'):=by
 refine Yn G hf hb hne hnb EB hn Oc (fun σ' hs=> ?_) (fun x σ' hx=>by rw[hP x σ'] at hx;cases hx) h;obtain⟨hd,xs,hx,Dr⟩:=hout σ' hs;rw[hd];exact IJ hx Dr
end aAa
section agu

def agu(P:Program)(rs:List ResultVar)(os:Rj β)(s:DP β α)(low:Nat)(σ:jI):Option (β×α):=
 (w6 P σ rs).bind fun xs=>(os.dec σ.heap (σ.heap.take low)).bind fun b=>(s.dec b σ.heap xs).bind fun a=>bif (σ.low==low)&&decide (s.need<=low)&&decide (low<=σ.heap.length)&&σ.df.isEmpty then some (b,a) else none
def abU{os:Rj β}{s:DP β α}{r:β×α}(h:agu P rs os s low σ=some r):
 σ.df=[]/\ ∃xs,w6 P σ rs=some xs/\Xr ⟨xs,σ.heap,σ.low,[]⟩ ⟨s.enc r.1 r.2,os.enc r.1,σ.low,[]⟩:=by
 unfold agu at h;simp only[dK] at h;obtain⟨xs,hx,b,hb,a,ha,h⟩:=h;cases hc:((σ.low==low)&&decide (s.need<=low)&&decide (low<=σ.heap.length)&&σ.df.isEmpty) with
 |false=>simp [hc] at h
 |true=>
  simp only[hc,ju,dM] at h;subst h;simp only[dY,jB,jA] at hc;obtain⟨⟨⟨h1,h2⟩,h3⟩,h4⟩:=hc;refine⟨by simpa using h4,xs,hx,FE.e (acm.imp (σ:=⟨xs,σ.heap,σ.low,[]⟩) (σ':=⟨s.enc b a,os.enc b,σ.low,[]⟩) ⟨⟨⟨rfl,?_⟩,rfl,SR⟩,?_,?_⟩)⟩
  ·obtain⟨_,h5⟩:=os.ok σ.heap 0 _ _ hb
   grind
  ·show BB σ.heap (os.enc b).length xs (s.enc b a);obtain⟨_,h5⟩:=os.ok σ.heap 0 _ _ hb;exact s.ok b σ.heap _ xs a (by rw[h5,List.length_take];omega) ha
  ·show CoH σ.heap (os.enc b).length σ.heap (os.enc b);exact CoH.take low (os.ok σ.heap _ _ _ hb).1
end agu
section aqC
theorem acP: ∀(ls:List Nat)(G:List jS)(ys:List jS)(l:Nat)(z:jS),l ∉ ls->(pT G ls ys).set l z=pT (G.set l z) ls ys
 |[],_,_,_,_,_=>by simp [pT]
 |_::_,_,[],_,_,_=>by simp [pT]
 |k::ls,G,y::ys,l,z,h=>by
  simp only[eB,not_or] at h;rw[pT,pT,acP ls _ ys l z h.2,List.set_comm _ _ (fun e=>h.1 e.symm)]
theorem MY: ∀(ls:List Nat)(G:List jS)(ys ys':List jS),ls.Nodup->ls.length<=ys'.length->pT (pT G ls ys) ls ys'=pT G ls ys'
 |[],_,_,_,_,_=>by simp [pT]
 |_::_,_,_,[],_,h=>by simp at h
 |l::ls,G,[],y'::ys',hnd,h=>by simp [pT]
 |l::ls,G,y::ys,y'::ys',hnd,h=>by
  rw[List.nodup_cons] at hnd;simp only[ed,Nat.add_le_add_iff_right] at h;simp only[pT];rw[acP ls _ ys l y' hnd.1,List.set_set,MY ls _ ys ys' hnd.2 h]
def PX{H:List jS}{n:Nat}: ∀{xs ys:List jS},(∀(k:Nat)(y:jS),ys[k]? =some y-> ∃x,xs[k]? =some x/\KH H n x y)->CoH H n xs ys
 |_,[],_=>CoH.nil
 |[],y::ys,h=>by obtain⟨x,hx,_⟩:=h 0 y (by simp);simp at hx
 |x::xs,y::ys,h=>by
  obtain⟨x',hx,hc⟩:=h 0 y (by simp);simp at hx;subst hx;exact⟨hc,PX fun k z hz=>by have:=h (k+1) z (by simpa using hz);simpa using this⟩
theorem BB.append: ∀{xs ys us vs:List AV},BB H n xs ys->BB H n us vs->BB H n (xs++us) (ys++vs)
 |[],_,_,_,rfl,h=>h
 |_::_,_,_,_,⟨y,zs,rfl,h,hs⟩,h2=>⟨y,zs++_,rfl,h,BB.append hs h2⟩
def aqC {KL:List AV}{r:AV}(hG:FnG P f args Ys (fun o H'=>o= .ret r/\H'=Ys'))(hnd:ρ.Nodup)(hlen:ρ.length=Ys.length)(ayb:ρ.length<=Ys'.length)
 (Ju: ∀(i k:Nat),ρ[i]? =some k-> ∃x y,σ.heap[k]? =some x/\Ys[i]? =some y/\KH σ.heap σ.heap.length x y) (hargs:BB σ.heap σ.heap.length KL (qu (mJ ρ σ.heap.length) args))
 (avX: ∀y∈Ys++Ys',∀τ,y.n9 τ=y):ya P f KL σ (fun o H'=>o= .ret (r.n9 (mJ ρ σ.heap.length))/\H'=pT σ.heap ρ Ys'++Ys'.drop ρ.length):=by
 refine⟨hG.1,fun C φ a w hP S vs hr=> ?_⟩
 let H1:=pT σ.heap ρ Ys
 have hl1:H1.length=σ.heap.length:=tZ _ _ _;have S0:lQ C φ ⟨σ.slots++KL,σ.heap,σ.low,σ.df⟩ {tmps:=a.tmps++vs,defers:=a.defers} w:={S with slots:=by simpa using S.slots.append hr,defers:=S.defers}
 have hat: ∀(i k:Nat),ρ[i]? =some k-> ∃x y,σ.heap[k]? =some x/\Ys[i]? =some y/\KH σ.heap σ.heap.length x y/\H1[k]? =some y:=by
  grind [Ob]
 have hw:acm ⟨σ.slots++KL,σ.heap,σ.low,σ.df⟩ ⟨σ.slots++qu (mJ ρ σ.heap.length) args,H1,σ.low,σ.df⟩:=by
  refine⟨⟨⟨rfl,by show σ.low<=H1.length;rw[hl1];exact S.low.2⟩,rfl,by show akH H1.length σ.df;rw[hl1];exact Iy.nb S.defers.2.2⟩,?_,?_⟩
  ·show BB σ.heap H1.length _ _;rw[hl1];exact BB.append (BB.same (kf.nb _ _ S.slots)) hargs
  ·show CoH σ.heap H1.length σ.heap H1;rw[hl1];refine PX fun k y hy=> ?_
   by_cases hk:k∈ρ
   ·grind [eu]
   ·have hy2:σ.heap[k]? =some y:=by grind [CQ]
    exact⟨y,hy2,.inr (.inl ⟨rfl,N9 (S.mV k y hy2)⟩)⟩
 obtain⟨φ',S1⟩:=hw.imp C φ _ w S0;have XQ:=S1.slots;simp only[ew] at XQ;have hsz:a.tmps.toList.length=σ.slots.length:=S.slots.length;have h1:=XQ.take σ.slots.length;have h2:=XQ.drop σ.slots.length;rw[dW rfl,dW hsz] at h1;rw[dX rfl,dX hsz] at h2;have S2:lQ C φ' {σ with heap:=H1} a w:={S1 with slots:=h1,defers:=S1.defers}
 have tW:ya P f (qu (mJ ρ H1.length) args) {σ with heap:=H1} (fun o H'=>o= .ret (r.n9 (mJ ρ H1.length))/\H'=pT σ.heap ρ Ys'++Ys'.drop ρ.length):=by
  refine agf (σ:={σ with heap:=H1}) hG ρ hlen hnd (qi.refl _) ?_ ?_
  ·grind
  ·rintro o H' ⟨rfl,rfl⟩;refine⟨rfl,?_⟩
   have hid: ∀τ,H'.map (jS.n9 τ)=H':=by
    intro τ;have:H'.map (jS.n9 τ)=H'.map id:=eg fun y hy=>avX y (List.mem_append.2 (.inr hy)) τ
    rw[this,List.map_id]
   grind [List.map_drop,tv,MY]
 rw[hl1] at tW;exact tW.2 C φ' a w hP S2 vs h2
end aqC
section args

structure FL(β α:Type) where
 enc:β->α->List AV
 dec:List Nat->β->List jS->List AV->Option α
 ok: ∀ρ b H xs a,dec ρ b H xs=some a->BB H H.length xs (qu (mJ ρ H.length) (enc b a))
def Kd:FL β Unit where
 enc _ _:=[]
 dec _ _ _
  |[]=>some ()
  |_=>none
 ok ρ b H xs a h:=by
  split at h
  ·exact BB.nil
  ·cases h
def atA(t:Ty γ)(s:FL β α)(ρ:List Nat)(b:β)(H:List jS):List AV->Option (γ×α)
 |x::xs=>(t.dec H x).bind fun y=>(s.dec ρ b H xs).bind fun a=>some (y,a)
 |[]=>none
def asT(t:Ty γ)(s:FL β α):FL β (γ×α) where
 enc b a:=t.enc a.1::s.enc b a.2
 dec:=atA t s
 ok ρ b H xs a h:=by
  unfold atA at h;split at h
  ·simp only[dK,dM] at h;obtain⟨y,hy,a,ha,rfl⟩:=h;refine BB.cons ?_ (s.ok ρ b H _ _ ha);rw[HD _ _ (t.nb 0 y)];exact t.ok H _ _ _ hy
  ·cases h
def atB(k:Nat)(s:FL β α)(ρ:List Nat)(b:β)(H:List jS):List AV->Option α
 | .ptr l off::xs=>if off=0/\ρ[k]? =some l/\l<H.length then s.dec ρ b H xs else none
 |_=>none
theorem afn(h:ρ[k]? =some l):mJ ρ n k=l:=by
 grind [mJ]
def MZ(k:Nat)(s:FL β α):FL β α where
 enc b a:= .ptr k 0::s.enc b a
 dec:=atB k s
 ok ρ b H xs a h:=by
  unfold atB at h;split at h
  ·split at h
   ·rename_i hc;obtain⟨rfl,hc,hl⟩:=hc;refine BB.cons ?_ (s.ok ρ b H _ _ h);show Co H H.length _ (.ptr (mJ ρ H.length k) 0);rw[afn hc];exact Co.same hl
   ·cases h
  ·cases h
def atC(k:Nat)(len:β->Nat)(s:FL β α)(ρ:List Nat)(b:β)(H:List jS):List AV->Option α
 | .acc l m::xs=>if m=len b/\ρ[k]? =some l/\l<H.length then s.dec ρ b H xs else none
 |_=>none
def asA(k:Nat)(len:β->Nat)(s:FL β α):FL β α where
 enc b a:= .acc k (len b)::s.enc b a
 dec:=atC k len s
 ok ρ b H xs a h:=by
  unfold atC at h;split at h
  ·split at h
   ·rename_i hc;obtain⟨rfl,hc,hl⟩:=hc;refine BB.cons ?_ (s.ok ρ b H _ _ h);show Co H H.length _ (.acc (mJ ρ H.length k) _);rw[afn hc];exact Co.same hl
   ·cases h
  ·cases h
def ayc:(∀(b:β) a,Kd.enc b a=[])/\(∀ρ (b:β) H,Kd.dec ρ b H []=some ()):=⟨fun _ _=>rfl,fun _ _ _=>rfl⟩
def ayd{t:Ty γ}{s:FL β α}:(∀b a,(asT t s).enc b a=t.enc a.1::s.enc b a.2)/\(∀ρ b H xs,(asT t s).dec ρ b H xs=atA t s ρ b H xs):=⟨fun _ _=>rfl,fun _ _ _ _=>rfl⟩
def aye{s:FL β α}:(∀b a,(MZ k s).enc b a= .ptr k 0::s.enc b a)/\(∀ρ b H xs,(MZ k s).dec ρ b H xs=atB k s ρ b H xs):=⟨fun _ _=>rfl,fun _ _ _ _=>rfl⟩
def ayf{len:β->Nat}{s:FL β α}:(∀b a,(asA k len s).enc b a= .acc k (len b)::s.enc b a)/\(∀ρ b H xs,(asA k len s).dec ρ b H xs=atC k len s ρ b H xs):=⟨fun _ _=>rfl,fun _ _ _ _=>rfl⟩
end args
def nameOf:AV->Option Nat
 | .ptr l _=>some l
 | .acc l _=>some l
 |_=>none
def nameAt(args:List AV)(i:Nat):Option Nat:=(args[i]?).bind nameOf
def nodupB:List Nat->Bool
 |[]=>true
 |x::xs=> !xs.contains x&&nodupB xs
theorem Kz: ∀{xs:List Nat},nodupB xs=true->xs.Nodup
 |[],_=>List.nodup_nil
 |x::xs,h=>by
  simp only[nodupB,dY,Bool.not_eq_true',List.contains_eq_mem,decide_eq_false_iff_not] at h;exact List.nodup_cons.2 ⟨h.1,Kz h.2⟩
def aaD(H:List jS)(k:Nat):Option jS:=H[k]?
section yM

def yM(pos:List Nat)(os:Rj β)(as:FL β α)(os':Rj β')(rs:DP β' α')(F:β->α->Option (β'×α')):Ent:=fun args H=>
 (pN (nameAt args) pos).bind fun ρ=>bif nodupB ρ then(pN (aaD H) ρ).bind fun xs=>(os.dec H xs).bind fun b=>(as.dec ρ b H args).bind fun a=>(F b a).bind fun r=>
   bif decide (ρ.length<=(os'.enc r.1).length) then some ((tA (rs.enc r.1 r.2)).n9 (mJ ρ H.length),pT H ρ (os'.enc r.1)++(os'.enc r.1).drop ρ.length) else none else none
def Oi{H:List jS}: ∀{ρ:List Nat}{xs:List jS},pN (aaD H) ρ=some xs->ρ.length=xs.length/\ ∀(i k:Nat),ρ[i]? =some k-> ∃x,xs[i]? =some x/\H[k]? =some x
 |[],xs,h=>by grind [pN]
 |k::ρ,xs,h=>by
  simp only[pN,dK,dM] at h;obtain⟨x,hx,ys,hys,rfl⟩:=h;obtain⟨h1,h2⟩:=Oi hys;refine⟨by simp [h1],fun i q hi=> ?_⟩;cases i with
  |zero=>simp at hi;subst hi;exact⟨x,by simp,hx⟩
  |succ i=>grind
def n7{pos:List Nat}{os:Rj β}{as:FL β α}{os':Rj β'}{rs:DP β' α'}{F:β->α->Option (β'×α')}
 (h: ∀b a r,F b a=some r->FnG P f (as.enc b a) (os.enc b) (fun o H'=>o= .ret (tA (rs.enc r.1 r.2))/\H'=os'.enc r.1)):aaC P f (yM pos os as os' rs F):=by
 intro args σ r H' he;unfold yM at he;simp only[dK] at he;obtain⟨ρ,_,he⟩:=he;cases hnd:nodupB ρ with
 |false=>simp [hnd] at he
 |true=>
  simp only[hnd,ju,dK] at he;obtain⟨xs,hxs,b,hb,a,ha,q,hq,he⟩:=he;cases hl:decide (ρ.length<=(os'.enc q.1).length) with
  |false=>simp [hl] at he
  |true=>
   simp only[hl,ju,dM,dO] at he;obtain⟨rfl,rfl⟩:=he;obtain⟨h1,h2⟩:=Oi hxs;obtain⟨h3,h4⟩:=os.ok σ.heap σ.heap.length _ _ hb;refine aqC (h b a q hq) (Kz hnd) (by rw[h1,h4]) (jy hl) ?_ (as.ok ρ b σ.heap _ _ ha) ?_
   ·intro i k hi;obtain⟨x,hx,hx'⟩:=h2 i k hi;have hlt:i<(os.enc b).length:=by grind
    obtain⟨x2,LM,hc⟩:=h3.get (dQ hlt)
    grind
   ·intro y hy τ;rcases List.mem_append.1 hy with hy|hy
    ·exact os.n9 τ _ y hy
    ·exact os'.n9 τ _ y hy
end yM
abbrev aAb:=List AV->List jS->Option tL
section awt

def awt(as:FL Unit α)(os':Rj β')(rs:DP β' α')(F:α->Option (β'×α')):aAb:=fun args H=>
 lU (uB 0 args) ((as.dec [] () [] args).bind fun a=>(F a).bind fun r=>bif (os'.enc r.1).isEmpty then none else some {val:=(tA (rs.enc r.1 r.2)).n9 (mJ [] H.length),nw:=os'.enc r.1})
def lV:List Nat->FuncId->Bool
 |[],_=>false
 |g::t,f=>f==g||lV t f
def uj: ∀(f:FuncId)(args:List AV)(σ:jI)(e:tL),(fun _ _ _=>none:FuncId->List AV->List jS->Option tL) f args σ.heap=some e->IC P f args σ e:=by
 intro f args σ e h;cases h
end awt
section atD
variable {a:Act}
def S8{xs:List AV}{y:jS}(hl:H[l]? =some y)(DL:low<=l)(hnb: ∀z∈H.take low,pM low z)(hy:pM low y)(hr:uB (low+1) (qu (PQ low l) xs)):
 Xr ⟨xs,H,low,[]⟩ ⟨qu (PQ low l) xs,H.take low++[y],low,[]⟩:=by
 intro C φ tmps w S;obtain⟨φ',S',qE⟩:=akR (σ:=⟨xs,H,low,[]⟩) (x:= .EQ xs) hl DL hnb hy hr C φ _ w S (.tuple tmps) ⟨tmps,rfl,S.slots⟩;obtain⟨vs,hv,rl⟩:=qE;simp only[Value.tuple.injEq] at hv;subst hv;exact⟨φ',{S' with slots:=rl,defers:=qh.nil}⟩

def aos(P:Program)(rs:List ResultVar)(j:Nat)(r:Row γ)(s:DP (List γ×Unit) α)(σ:jI):Option ((List γ×Unit)×α):=
 bif σ.df.isEmpty then(w6 P σ rs).bind fun xs=>aqD (aa4 (BY j r.sz true ⟨xs,σ.heap,0,[]⟩) (BY j r.sz true ⟨xs,σ.heap,0,[]⟩).slots[j]?) j r s σ.low else none
where
 aqD (τ:jI) (j:Nat) (r:Row γ) (s:DP (List γ×Unit) α) (low:Nat):Option ((List γ×Unit)×α):=
  match τ.slots[j]? with
  |some (.acc l _)=>match τ.heap[l]? with
   |some y=>lU (low=0/\pM 0 y/\uB 1 (qu (PQ 0 l) τ.slots)) (((uF (oaT true r) tz).dec [y] [y]).bind fun b=>(s.dec b [y] (qu (PQ 0 l) τ.slots)).bind fun a=>bif decide (s.need<=1) then some (b,a) else none)
   |none=>none
  |_=>none
def agv{r:Row γ}{s:DP (List γ×Unit) α}{q:(List γ×Unit)×α}(h:aos P rs j r s σ=some q):
 σ.df=[]/\ ∃xs,w6 P σ rs=some xs/\Xr ⟨xs,σ.heap,σ.low,[]⟩ ⟨s.enc q.1 q.2,(uF (oaT true r) tz).enc q.1,σ.low,[]⟩:=by
 unfold aos at h;cases hd0:σ.df with
 |cons p q=>rw[hd0] at h;cases h
 |nil=>
 rw[hd0] at h;simp only[ep,ju] at h;simp only[dK] at h;obtain⟨xs,hx,h⟩:=h;refine⟨rfl,xs,hx,?_⟩;unfold aos.aqD at h;split at h
 case h_2=>cases h
 rename_i l m hs;split at h
 case h_2=>cases h
 rename_i y hl;rw[lv] at h;obtain⟨⟨DL,h1,h2⟩,h⟩:=h;simp only[dK] at h;obtain⟨b,hb,a,ha,h⟩:=h;cases hd:decide (s.need<=1) with
 |false=>simp [hd] at h
 |true=>
  simp only[hd,ju,dM] at h;subst h;rw[DL];have i1:FE ⟨xs,σ.heap,0,[]⟩ (aa4 (BY j r.sz true ⟨xs,σ.heap,0,[]⟩) (BY j r.sz true ⟨xs,σ.heap,0,[]⟩).slots[j]?):=acO.trans att;have ayg:(aa4 (BY j r.sz true ⟨xs,σ.heap,0,[]⟩) (BY j r.sz true ⟨xs,σ.heap,0,[]⟩).slots[j]?).low=0:=by grind [aqB,BY]
  have aAc:(aa4 (BY j r.sz true ⟨xs,σ.heap,0,[]⟩) (BY j r.sz true ⟨xs,σ.heap,0,[]⟩).slots[j]?).df=[]:=by grind [atu,BY]
  generalize hτ:aa4 (BY j r.sz true ⟨xs,σ.heap,0,[]⟩) (BY j r.sz true ⟨xs,σ.heap,0,[]⟩).slots[j]? =τ at*;have i2:Xr ⟨τ.slots,τ.heap,0,[]⟩ ⟨qu (PQ 0 l) τ.slots,τ.heap.take 0++[y],0,[]⟩:=S8 hl (eo _) (by simp) h1 h2;have e:τ=⟨τ.slots,τ.heap,0,[]⟩:=by cases τ;grind
  rw[e] at i1;refine(i1.e.trans i2).trans ?_;simp only[eI,eG];obtain⟨h5,h6⟩:=(uF (oaT true r) tz).ok [y] 1 _ _ hb;refine FE.e (acm.imp (σ:=⟨qu (PQ 0 l) τ.slots,[y],0,[]⟩) (σ':=⟨s.enc b a,(uF (oaT true r) tz).enc b,0,[]⟩) ⟨⟨⟨rfl,eo _⟩,rfl,SR⟩,?_,?_⟩)
  ·show BB [y] ((uF (oaT true r) tz).enc b).length _ _;rw[h6];exact s.ok b [y] 1 _ a (jy hd) ha
  grind
end atD
def agw(e e':Ent):Ent:=fun args H=>(e args H).or (e' args H)
section
variable {k:List Kt}
def alz{rest:List Oper}{x}:th M ops dst rest k σ (.move x)=qj M ops dst rest k σ (PB M.P σ (.move x)):=by rw[<-q6];rfl
def agx{rest:List Oper}{x}:th M ops dst rest k σ (.assign x)=qj M ops dst rest k σ (PB M.P σ (.assign x)):=by rw[<-q6];rfl
def alB{rest:List Oper}{c}{a}{b}:th M ops dst rest k σ (.pick c a b)=qj M ops dst rest k σ (PB M.P σ (.pick c a b)):=by rw[<-q6];rfl
def aiL{rest:List Oper}{t}:th M ops dst rest k σ (.alloc t)=qj M ops dst rest k σ (PB M.P σ (.alloc t)):=by rw[<-q6];rfl
def aot{rest:List Oper}{t}{v}:th M ops dst rest k σ (.box t v)=qj M ops dst rest k σ (PB M.P σ (.box t v)):=by rw[<-q6];rfl
def aiM{rest:List Oper}{t}{ps}:th M ops dst rest k σ (.build t ps)=qj M ops dst rest k σ (PB M.P σ (.build t ps)):=by rw[<-q6];rfl
def ZP{rest:List Oper}{t}{n}{ps}:th M ops dst rest k σ (.buildSlice t n ps)=qj M ops dst rest k σ (PB M.P σ (.buildSlice t n ps)):=by rw[<-q6];rfl
def agy{rest:List Oper}{m}{a}{b}{c}:th M ops dst rest k σ (.insert m a b c)=qj M ops dst rest k σ (PB M.P σ (.insert m a b c)):=by rw[<-q6];rfl
def alD{rest:List Oper}{t}{a}:th M ops dst rest k σ (.load t a)=qj M ops dst rest k σ (PB M.P σ (.load t a)):=by rw[<-q6];rfl
def aiN{rest:List Oper}{t}{a}{v}:th M ops dst rest k σ (.store t a v)=qj M ops dst rest k σ (PB M.P σ (.store t a v)):=by rw[<-q6];rfl
def acQ{rest:List Oper}{x}:th M ops dst rest k σ (.nilCheck x)=qj M ops dst rest k σ (PB M.P σ (.nilCheck x)):=by rw[<-q6];rfl
def aiO{rest:List Oper}{o}{t}{x}{y}{u}:th M ops dst rest k σ (.binOp o t x y u)=qj M ops dst rest k σ (PB M.P σ (.binOp o t x y u)):=by rw[<-q6];rfl
def alE{rest:List Oper}{o}{t}{x}:th M ops dst rest k σ (.unOp o t x)=qj M ops dst rest k σ (PB M.P σ (.unOp o t x)):=by rw[<-q6];rfl
def ad9{rest:List Oper}{s}{d}{x}:th M ops dst rest k σ (.convert s d x)=qj M ops dst rest k σ (PB M.P σ (.convert s d x)):=by rw[<-q6];rfl
def V0{rest:List Oper}{t}{x}:th M ops dst rest k σ (.makeInterface t x)=qj M ops dst rest k σ (PB M.P σ (.makeInterface t x)):=by rw[<-q6];rfl
def acR{rest:List Oper}{f}{a}{b}:th M ops dst rest k σ (.makeFunc f a b)=qj M ops dst rest k σ (PB M.P σ (.makeFunc f a b)):=by rw[<-q6];rfl
def aea{rest:List Oper}{t}{r}:th M ops dst rest k σ (.makeMap t r)=qj M ops dst rest k σ (PB M.P σ (.makeMap t r)):=by rw[<-q6];rfl
def aa5{rest:List Oper}{t}{l}{c}:th M ops dst rest k σ (.makeSlice t l c)=qj M ops dst rest k σ (PB M.P σ (.makeSlice t l c)):=by rw[<-q6];rfl
def aiP{rest:List Oper}{t}{x}{l}{h}{m}:th M ops dst rest k σ (.slice t x l h m)=qj M ops dst rest k σ (PB M.P σ (.slice t x l h m)):=by rw[<-q6];rfl
def aa6{rest:List Oper}{t}{x}{f}:th M ops dst rest k σ (.fieldAddr t x f)=qj M ops dst rest k σ (PB M.P σ (.fieldAddr t x f)):=by rw[<-q6];rfl
def aiQ{rest:List Oper}{t}{x}{f}:th M ops dst rest k σ (.field t x f)=qj M ops dst rest k σ (PB M.P σ (.field t x f)):=by rw[<-q6];rfl
def aa7{rest:List Oper}{t}{x}{i}:th M ops dst rest k σ (.indexAddr t x i)=qj M ops dst rest k σ (PB M.P σ (.indexAddr t x i)):=by rw[<-q6];rfl
def aiR{rest:List Oper}{t}{x}{i}:th M ops dst rest k σ (.index t x i)=qj M ops dst rest k σ (PB M.P σ (.index t x i)):=by rw[<-q6];rfl
def agz{rest:List Oper}{t}{x}{i}{b}:th M ops dst rest k σ (.lookup t x i b)=qj M ops dst rest k σ (PB M.P σ (.lookup t x i b)):=by rw[<-q6];rfl
def aa8{rest:List Oper}{t}{m}{kk}{v}:th M ops dst rest k σ (.mapUpdate t m kk v)=qj M ops dst rest k σ (PB M.P σ (.mapUpdate t m kk v)):=by rw[<-q6];rfl
def aiS{rest:List Oper}{t}{x}:th M ops dst rest k σ (.range t x)=qj M ops dst rest k σ (PB M.P σ (.range t x)):=by rw[<-q6];rfl
def alG{rest:List Oper}{i}{b}:th M ops dst rest k σ (.next i b)=qj M ops dst rest k σ (PB M.P σ (.next i b)):=by rw[<-q6];rfl
def ZQ{rest:List Oper}{x}{t}{u}{b}:th M ops dst rest k σ (.typeAssert x t u b)=qj M ops dst rest k σ (PB M.P σ (.typeAssert x t u b)):=by rw[<-q6];rfl
def aeb{rest:List Oper}{t}{i}:th M ops dst rest k σ (.extract t i)=qj M ops dst rest k σ (PB M.P σ (.extract t i)):=by rw[<-q6];rfl
def alH{rest:List Oper}{c}:th M ops dst rest k σ (.call c)=qj M ops dst rest k σ (PB M.P σ (.call c)):=by rw[<-q6];rfl
def aiT{rest:List Oper}{c:Call}:th M ops dst rest k σ (.defer c)=am7 M ops dst rest k σ (CN σ (.defer c)):=rfl
def aiU{rest:List Oper}{x:Operand}:th M ops dst rest k σ (.panic x)=am8 M k σ (N5 σ (.panic x)):=rfl
def acS{a:α}{x:Option R}:lU (a=a) x=x:=by simp [lU]
def alI{rest:List Oper}:Xp M p o rest j tr k σ none=vY M p o.dst rest j tr k σ (PB M.P σ o.op):=by rw[<-q6];rfl
end
section
variable {k:List Kt}
def alJ{rest:List Oper}{x y:Option tL}:qj M ops dst rest k σ (bif b then x else y)=bif b then qj M ops dst rest k σ x else qj M ops dst rest k σ y:=by cases b<;>rfl
def alL{rest:List Oper}{x y:Option (AV×List jS)}:KM M ops dst rest k σ (bif b then x else y)=bif b then KM M ops dst rest k σ x else KM M ops dst rest k σ y:=by cases b<;>rfl
def aiV{rest:List Oper}{x y:Option tL}:vY M p dst rest j tr k σ (bif b then x else y)=bif b then vY M p dst rest j tr k σ x else vY M p dst rest j tr k σ y:=by cases b<;>rfl
end
def aqE:undef= .tuple #[]:=rfl
def aou:(¬ True)=False:=by simp
def alO(n:Nat):(0<=(n:Int))=True:=by simp
def aiW:((0:Int)<=0)=True:=by simp
def aov{x y:α}:(bif !b then x else y)=bif b then y else x:=by cases b<;>rfl
def aow{x:α}:(bif b then x else x)=x:=by cases b<;>rfl
def awu:(b==true)=b:=by cases b<;>rfl
def awv:(b==false)= !b:=by cases b<;>rfl
def aox{p:Prop}[Decidable p]{a b:Option α}{f:α->Option β}:(if p then a else b).bind f=bif decide p then a.bind f else b.bind f:=by
 by_cases h:p<;>simp [h]
def aww(f:α->β)(xs:List α)(i:Nat):(mp f xs)[i]? =eP f xs[i]? :=by rw[qF,List.getElem?_map]
def awx(f:α->β)(xs:List α)(i:Nat)(x:α):(mp f xs).set i (f x)=mp f (xs.set i x):=by rw[qF,qF,List.map_set]
def alQ {b:Nat}{x:Option R}:lU (room a b) x=bif decide (a*b<=17592186044416) then x else none:=by
 unfold room;exact aff
def aoy{a b:Int}{x:Option R}:lU (a<b) x=bif decide (a<b) then x else none:=aff
theorem Mm(s:Str):(sb s).size=s.length:=by simp [sb,ByteArray.size]
def aqF(s:Str)(i:Nat):(sb s)[i]? =s[i]? :=by
 by_cases h:i<s.length
 ·have h':i<(sb s).size:=by rw[Mm];exact h
  rw[dQ h,getElem?_pos (sb s) i h'];rfl
 grind [Mm]
def awy(s:Str)(n:Int):atp (sb s) n=tu s n:=by
 simp only[atp,aqF];rfl
theorem Oj(s:Str):(sb s).toList=s:=by
 rw[ByteArray.toList_eq];rfl
def alR(s:Str)(a b:Nat):(sb s).extract a b=sb ((s.take b).drop a):=by
 apply ByteArray.ext
 grind [sb,ByteArray.data_extract,List.drop_take]
def aoz(s t:Str):sb s++sb t=sb (s++t):=by
 apply ByteArray.ext;simp [sb]
def aqG:ByteArray.empty=sb []:=rfl
def aoA:(⟨#[]⟩:ByteArray)=sb []:=rfl
def awz(l:List UInt8):(⟨l.toArray⟩:ByteArray)=sb l:=rfl
attribute [go_sem] asQ asR aif agk behind akV akW ail agm av3 ak1 agn ak2 aof ak3 ain ak4 ak5 aip aiq aog aio akZ aii aij aik akX aod akY aql aig axX av5 av6 ZK akT stP Od acS asU av7 asV aqm ak6 ais ak7 ald ale alf alz agx alB aiL aot aiM ZP agy alD aiN acQ aiO alE ad9 V0 acR aea aa5 aiP aa6 aiQ aa7 aiR agz aa8 aiS alG ZQ aeb alH aiT aiU aoi aoj ak8 ak9 ala alb alc agl CN N5 jI.dfr aiE alp alq aiv aiw KK aol yieldOf alg alh ali aok alj acH alk ait ago aiu alI aix aiy aiz als aiA aiB aiC alJ alL aiV sub child acv sw akP Vy alQ aoy
attribute [go_sem low] ak0 aoh aln
attribute [go_sem] aqn aon aaB aoo alv aop alw u3 asY Kx asW asX aww awx aox alu aoq aqo aqp FJ dL as0 as1 SZ KN FK aqr aor as2 as3 as4 as5 as6 as7 av9 as8 as9 dI1 dB1 dS1 awd awe awf ZN EX dC ata atb atc atd d2 d3 d4 d5 ate atf atg ath ati atj atk atl nE Ym mW rI S7 pU nk KO azV azW azX azU dLt aa3 azY azZ az0 az1 az2 alx atm BY anc ags agt awk qk awi aqw awj aqx ixA ixS ldA ldV vwL stA PB aov aow awu awv Mm awy aqF Oj aoz alR aqG aoA awz ab7 ixP aqy ass amR Vt awm awn axZ awt lV aiF afm Xq rp1 rpV rpO az4 az5 az6 az7 az8 dL1 dF1 dP atv atw dK1 dK2 dK3 awq awr aws daT dcT ax3 ax4 ax5 ax6 atx ax7 ax8 aty ax9 atz tA agu ayc ayd atA aye atB ayf atC nameOf nameAt nodupB aaD yM agw Option.or_none Option.none_or aos aos.aqD pT mJ AV.n9 qu CP PQ n6 lR kI jI.ev jI.put lu AV.scalar PD PE rowsOf aeZ Xg ae1 Zt eqB eq1 bound Vr XS PF N3 ae2 Hx JQ w6 acu frz ad3 aqE List.all_cons List.all_nil Bool.and_true Bool.true_and Bool.and_false Bool.false_and jD if_false List.getD_cons_zero List.getD_cons_succ ed List.length_nil dN List.cons_append eG List.set_cons_zero List.set_cons_succ reduceCtorEq and_true true_and List.append_nil Nat.zero_add eD eE List.getElem?_nil Option.bind_some List.drop_zero List.drop_succ_cons List.drop_nil List.take_succ_cons eI List.take_nil ne_eq aou Option.isSome_some Option.isSome_none Option.isNone_some Option.isNone_none List.map_cons List.map_nil List.getElem?_toArray Bool.not_true Bool.not_false ju jv Int.toNat_natCast alO aiW true_or or_true and_self false_or or_false List.length_map List.set_nil decide_true decide_false Bool.not_not and_false false_and List.length_append eF List.length_replicate beq_self_eq_true alm qv akU tL.idle HE yJ ET List.contains_cons List.contains_nil ep List.isEmpty_cons Bool.or_false Bool.false_or Bool.or_true Bool.true_or eb Bool.false_eq_true Int.cast_ofNat_Int Int.toNat_zero Int.toNat_one List.flatten_cons List.flatten_nil ey Option.map_some Option.map_none
def acT{n:Nat}: ∀{a b:List (List AV)},LK n (a++b)=(LK n a/\LK n b)
 |[],_=>by simp [LK]
 |x::a,b=>by simp [LK,acT (a:=a),and_assoc]
def aiX{c:AV}:lG false n (c::cs)=some c:=rfl
def aiY{c:AV}:lG true n (c::cs)=if n<=(c::cs).length then some (.agg ((c::cs).take n)) else none:=rfl
def aiZ{c:AV}:cellsOf (.agg (c::cs))=if (c::cs).all AV.scalar then some (c::cs) else none:=rfl
def ai0:(∀b,cellsOf (.bool b)=some [.bool b])/\(∀k n,cellsOf (.int k n)=some [.int k n])/\(∀s,cellsOf (.str s)=some [.str s])/\(∀t sz r,cellsOf (.lI t sz r)=some [.lI t sz r])/\
 (∀l n,cellsOf (.acc l n)=some [.acc l n])/\(∀a b c d e,cellsOf (.own a b c d e)=some [.own a b c d e])/\(∀a b,cellsOf (.ptr a b)=some [.ptr a b])/\(∀a,cellsOf (.map a)=some [.map a])/\
 (∀cs,cellsOf (.pp cs)=some [.pp cs])/\(∀fn f c,cellsOf (.func fn f c)=some [.func fn f c])/\(∀t x,cellsOf (.iface t x)=some [.iface t x])/\cellsOf (.raw .nilFunc)=some [.raw .nilFunc]/\cellsOf (.raw .nilIface)=some [.raw .nilIface]/\
 (∀a,cellsOf (.raw (.pointer a))=some [.raw (.pointer a)])/\(∀a,cellsOf (.raw (.map a))=some [.raw (.map a)]):=
 ⟨fun _=>rfl,fun _ _=>rfl,fun _=>rfl,fun _ _ _=>rfl,fun _ _=>rfl,fun _ _ _ _ _=>rfl,fun _ _=>rfl,fun _=>rfl,fun _=>rfl,fun _ _ _=>rfl,fun _ _=>rfl,rfl,rfl,fun _=>rfl,fun _=>rfl⟩
def alS{c:AV}{o:Nat}{xs:List AV}:tM (c::cs) o xs=(c::cs).take o++xs++(c::cs).drop (o+xs.length):=rfl
def alU {xs:List AV}(h:xs.length=cs.length):tM cs 0 xs=xs:=by
 grind [tM]
attribute [go_sem] aiX aiY aiZ ai0 alU
attribute [go_sem low] alS
attribute [go_sem] AV.nb uB LK pM acT or_true
def acU(P:Program):Nat->List Field->List AV->List AV->Prop
 |_,[],[],[]=>True
 |o,f::fs,c::cs,d::ds=>(f.name≠ "_" /\f.offset=o/\P.plainKey f.type=true/\(match c,d with
  | .int k _,.int k' _=>k=k'/\ ∃q,P.underlying f.type=some (.int q)
  | .bool _,.bool _=>P.underlying f.type=some .bool
  | .str _,.str _=>P.underlying f.type=some .string
  |_,_=>False))/\acU P (o+1) fs cs ds
 |_,_,_,_=>False
def WF{P:Program}{E:Env}{vs us:Array Value}{w:World}{d:Nat}: ∀(fs:List Field)(o:Nat)(cs ds:List AV),acU P o fs cs ds->kf E cs (vs.toList.drop o)->kf E ds (us.toList.drop o)->
 (Op.eqFields (d+1) vs us fs).run P w= .ok (eqB cs ds) w
 |[],_,[],[],_,_,_=>by simp [Op.eqFields,eqB]
 |[],_,_::_,_,h,_,_=>h.elim
 |[],_,[],_::_,h,_,_=>h.elim
 |_::_,_,[],_,h,_,_=>h.elim
 |_::_,_,_::_,[],h,_,_=>h.elim
 |f::fs,o,c::cs,e::ds,⟨⟨h1,h2,h3,h4⟩,h5⟩,r1,r2=>by
  obtain⟨u,us',e1,r1,r1'⟩:=r1;obtain⟨v,vs',e2,r2,r2'⟩:=r2
  have g1:vs[f.offset]? =some u:=by
   have:=congrArg (fun l:List Value=>l[0]?) e1;rw[h2];simpa using this
  have g2:us[f.offset]? =some v:=by
   have:=congrArg (fun l:List Value=>l[0]?) e2;rw[h2];simpa using this
  have t1:vs.toList.drop (o+1)=us':=by
   have:=congrArg List.tail e1;simpa using this
  have t2:us.toList.drop (o+1)=vs':=by
   have:=congrArg List.tail e2;simpa using this
  have ih:=WF (d:=d) (w:=w) fs (o+1) cs ds h5 (by rw[t1];exact r1') (by rw[t2];exact r2')
  have hone:(Op.equalIn (d+1) f.type u v).run P w= .ok (eq1 c e) w:=by
   cases c<;>cases e<;>try exact h4.elim
   ·cases r1;cases r2;exact run_equalIn_bool _ d f.type _ _ h4
   ·obtain⟨rfl,q,hq⟩:=h4;cases r1;cases r2;exact run_equalIn_int _ d f.type _ q _ _ hq
   ·cases r1;cases r2;exact run_equalIn_string _ d f.type _ _ h4
  simp only[Op.eqFields,h1,ne_eq,not_false_eq_true,jD,Sem.run_bind,run_part_plain w h3 g1,run_part_plain w h3 g2,hone,Result.andThen_ok,eqB];cases eq1 c e
  ·simp
  ·simpa using ih
def alV{t:TypeId}{ds:List AV}(ht:P.underlying t=some (.struct (P.fieldsOf t)))(hp:P.stoodInHeld t=false)(hg:P.eqGuardType P.depth t=false)
 (hf:acU P 0 (P.fieldsOf t).toList cs ds):ae0 P t cs ds:=by
 intro E vs us w x y h1 h2
 have hq:(Op.equal t (.agg vs) (.agg us)).run P w= .ok (eqB cs ds) w:=by
  show(Op.equalIn (9999+1) t _ _).run P w=_;rw[run_equalIn_struct w 9999 t vs us ht hp];exact WF (d:=9998) _ 0 cs ds hf (by simpa using h1) (by simpa using h2)
 simp_all [eqGuard,binOp]
mutual
theorem VB{τ τ':Nat->Nat}{n:Nat}(h: ∀l,l<n->τ l=τ' l): ∀x:AV,x.nb n->x.n9 τ=x.n9 τ'
 | .agg cs,k| .EQ cs,k| .pp cs,k=>by simp only[AV.n9];rw[Ae h cs k]
 | .lI _ _ rows,k=>by simp only[AV.n9];rw[Xs h rows k]
 | .acc l _,k| .own l _ _ _ _,k| .ptr l _,k| .map l,k=>by simp only[AV.n9];rw[h l k]
 | .func _ f c,k=>by simp only[AV.n9];rw[Ae h f k.1,Ae h c k.2]
 | .iface _ x,k=>by simp only[AV.n9];rw[VB h x k]
 | .any,_| .bool _,_| .int _ _,_| .str _,_| .raw _,_=>rfl
theorem Ae{τ τ':Nat->Nat}{n:Nat}(h: ∀l,l<n->τ l=τ' l): ∀xs:List AV,uB n xs->qu τ xs=qu τ' xs
 |[],_=>rfl
 |x::xs,k=>by simp only[qu];rw[VB h x k.1,Ae h xs k.2]
theorem Xs{τ τ':Nat->Nat}{n:Nat}(h: ∀l,l<n->τ l=τ' l): ∀xs:List (List AV),LK n xs->CP τ xs=CP τ' xs
 |[],_=>rfl
 |x::xs,k=>by simp only[CP];rw[Ae h x k.1,Xs h xs k.2]
end
mutual
def aqH{τ:Nat->Nat}{n m:Nat}(h: ∀l,l<n->τ l<m): ∀x:AV,x.nb n->(x.n9 τ).nb m
 | .agg cs,k| .EQ cs,k| .pp cs,k=>VC h cs k
 | .lI _ _ rows,k=>ang h rows k
 | .acc l _,k| .own l _ _ _ _,k| .ptr l _,k| .map l,k=>h l k
 | .func _ f c,k=>⟨VC h f k.1,VC h c k.2⟩
 | .iface _ x,k=>aqH h x k
 | .any,_| .bool _,_| .int _ _,_| .str _,_| .raw _,_=>trivial
def VC{τ:Nat->Nat}{n m:Nat}(h: ∀l,l<n->τ l<m): ∀xs:List AV,uB n xs->uB m (qu τ xs)
 |[],_=>trivial
 |x::xs,k=>⟨aqH h x k.1,VC h xs k.2⟩
def ang{τ:Nat->Nat}{n m:Nat}(h: ∀l,l<n->τ l<m): ∀xs:List (List AV),LK n xs->LK m (CP τ xs)
 |[],_=>trivial
 |x::xs,k=>⟨VC h x k.1,ang h xs k.2⟩
end
theorem Yo {τ':Nat->Nat}(h: ∀l,l<n->τ l=τ' l)(x:jS)(k:pM n x):x.n9 τ=x.n9 τ':=by
 cases x with
 |cells cs=>simp only[jS.n9];rw[Ae h cs k]
 |acc qT sz rows=>simp only[jS.n9];rw[Xs h rows k]
 |map es=>
  simp only[jS.n9];congr 1;refine eg fun p hp=> ?_
  rw[VB h _ (k p hp).1,VB h _ (k p hp).2]
 |loop lk slots st qP=>simp only[jS.n9];rw[Ae h slots k]
 |iter s p=>rfl
 |dead=>rfl
def Co1.PY {y:AV}(h:Co1 [] n x y):Sub x y:=by
 rcases h with h|⟨l,m,sz,rows,_,h,_⟩
 ·exact h.1
 ·simp at h
def oe.PY: ∀{xs ys:List AV},oe [] n xs ys->qi xs ys
 |[],_,rfl=>qi.nil
 |_::_,_,⟨_,_,rfl,h,hs⟩=>qi.cons h.PY hs.PY
def Co.PY {y:AV}(h:Co [] n x y):Sub x y:=by
 rcases h with h|⟨cs,ds,rfl,rfl,h⟩
 ·exact h.PY
 ·rintro E v ⟨vs,rfl,hv⟩;exact⟨vs,rfl,h.PY E _ hv⟩
def qi.func{f:Fn}{xs:List AV}(h:qi xs ys):Sub (.func f [] xs) (.func f [] ys):=by
 rintro E v ⟨a,b,rfl,h1,h2⟩;exact⟨a,b,rfl,h1,h E _ h2⟩
abbrev BO:=Nat->Nat
variable {L:BO}
def ZR(ρ:List Nat)(k:Nat):Nat:=ρ.getD k 0
def Cov(ρ:List Nat)(need n:Nat):Prop:= ∀k,k<need-> ∃l,ρ[k]? =some l/\l<n
def Cov.mono {b:Nat}(h:Cov ρ b n)(k:a<=b):Cov ρ a n:=fun i hi=>h i (by omega)
def Cov.lt(h:Cov ρ a n): ∀l,l<a->ZR ρ l<n:=by
 intro l hl;obtain⟨k,hk,hn⟩:=h l hl
 grind [ZR]
theorem Xt(h:ρ[k]? =some l):ZR ρ k=l:=by unfold ZR;rw[List.getD,h];rfl
section ayh

structure VL(γ:Type) where
 enc:BO->γ->List AV
 dec:List Nat->BO->List AV->Option γ
 need:Nat
 nb: ∀L g,uB need (enc L g)
 ok: ∀ρ L vs g,dec ρ L vs=some g->qi vs (qu (ZR ρ) (enc L g))
def alW:List AV->Option Unit
 |[]=>some ()
 |_=>none
def vlN:VL Unit where
 enc _ _:=[]
 dec _ _:=alW
 need:=0
 nb _ _:=trivial
 ok ρ L vs g h:=by
  unfold alW at h;split at h
  ·exact qi.nil
  ·cases h
def atG(t:Ty γ)(s:VL δ)(ρ:List Nat)(L:BO):List AV->Option (γ×δ)
 |x::xs=>(t.dec [] x).bind fun y=>(s.dec ρ L xs).bind fun a=>some (y,a)
 |[]=>none
def vlT(t:Ty γ)(s:VL δ):VL (γ×δ) where
 enc L g:=t.enc g.1::s.enc L g.2
 dec:=atG t s
 need:=s.need
 nb L g:=⟨t.nb _ _,s.nb L g.2⟩
 ok ρ L vs g h:=by
  unfold atG at h;split at h
  ·simp only[dK,dM] at h;obtain⟨y,hy,a,ha,rfl⟩:=h;refine qi.cons ?_ (s.ok ρ L _ _ ha);rw[HD _ _ (t.nb 0 y)];exact(t.ok [] 0 _ _ hy).PY
  ·cases h
def atH(k:Nat)(s:VL δ)(ρ:List Nat)(L:BO):List AV->Option δ
 | .ptr l off::xs=>bif decide (off=0/\ρ[k]? =some l) then s.dec ρ L xs else none
 |_=>none
def vlP (k:Nat) (s:VL δ):VL δ where
 enc L g:= .ptr k 0::s.enc L g
 dec:=atH k s
 need:=max (k+1) s.need
 nb L g:=⟨show k<_ by omega,sn (by omega) _ (s.nb L g)⟩
 ok ρ L vs g h:=by
  unfold atH at h;split at h
  ·rename_i l off xs;cases hc:decide (off=0/\ρ[k]? =some l) with
   |false=>simp [hc] at h
   |true=>
    simp only[hc,ju] at h;obtain⟨rfl,hc'⟩:=jy hc;refine qi.cons ?_ (s.ok ρ L _ _ h)
    grind [AV.n9,Xt,Sub.refl]
  ·cases h
def atI(k:Nat)(s:VL δ)(ρ:List Nat)(L:BO):List AV->Option δ
 | .map l::xs=>bif decide (ρ[k]? =some l) then s.dec ρ L xs else none
 |_=>none
def vlM (k:Nat) (s:VL δ):VL δ where
 enc L g:= .map k::s.enc L g
 dec:=atI k s
 need:=max (k+1) s.need
 nb L g:=⟨show k<_ by omega,sn (by omega) _ (s.nb L g)⟩
 ok ρ L vs g h:=by
  unfold atI at h;split at h
  ·rename_i l xs;cases hc:decide (ρ[k]? =some l) with
   |false=>simp [hc] at h
   |true=>
    simp only[hc,ju] at h;have hc:=jy hc;refine qi.cons ?_ (s.ok ρ L _ _ h)
    grind [AV.n9,Xt,Sub.refl]
  ·cases h
def atJ(f:FuncId)(c:VL γ)(s:VL δ)(ρ:List Nat)(L:BO):List AV->Option (γ×δ)
 | .func (.func f') [] cs::xs=>bif decide (f'=f) then(c.dec ρ L cs).bind fun y=>(s.dec ρ L xs).bind fun a=>some (y,a) else none
 |_=>none
def vlF (f:FuncId) (c:VL γ) (s:VL δ):VL (γ×δ) where
 enc L g:= .func (.func f) [] (c.enc L g.1)::s.enc L g.2
 dec:=atJ f c s
 need:=max c.need s.need
 nb L g:=⟨⟨trivial,sn (by omega) _ (c.nb L g.1)⟩,sn (by omega) _ (s.nb L g.2)⟩
 ok ρ L vs g h:=by
  unfold atJ at h;split at h
  ·rename_i f' cs xs;cases hc:decide (f'=f) with
   |false=>simp [hc] at h
   |true=>
    simp only[hc,ju,dK,dM] at h;obtain⟨y,hy,a,ha,rfl⟩:=h;obtain rfl:=jy hc;refine qi.cons ?_ (s.ok ρ L _ _ ha);simp only[AV.n9,qu];exact(c.ok ρ L _ _ hy).func
  ·cases h
def ayi:(∀L g,vlN.enc L g=[])/\ ∀ρ L xs,vlN.dec ρ L xs=alW xs:=⟨fun _ _=>rfl,fun _ _ _=>rfl⟩
def ayj{t:Ty γ}{s:VL δ}:(∀L g,(vlT t s).enc L g=t.enc g.1::s.enc L g.2)/\ ∀ρ L xs,(vlT t s).dec ρ L xs=atG t s ρ L xs:=⟨fun _ _=>rfl,fun _ _ _=>rfl⟩
def ayk{s:VL δ}:(∀L g,(vlP k s).enc L g= .ptr k 0::s.enc L g)/\ ∀ρ L xs,(vlP k s).dec ρ L xs=atH k s ρ L xs:=⟨fun _ _=>rfl,fun _ _ _=>rfl⟩
def ayl{s:VL δ}:(∀L g,(vlM k s).enc L g= .map k::s.enc L g)/\ ∀ρ L xs,(vlM k s).dec ρ L xs=atI k s ρ L xs:=⟨fun _ _=>rfl,fun _ _ _=>rfl⟩
def aym{c:VL γ}{s:VL δ}:(∀L g,(vlF f c s).enc L g= .func (.func f) [] (c.enc L g.1)::s.enc L g.2)/\ ∀ρ L xs,(vlF f c s).dec ρ L xs=atJ f c s ρ L xs:=⟨fun _ _=>rfl,fun _ _ _=>rfl⟩
structure AL(γ:Type) where
 enc:BO->γ->List AV
 dec:List Nat->BO->List jS->List AV->Option γ
 need:Nat
 nb: ∀L g,uB need (enc L g)
 ok: ∀ρ L H n vs g,Cov ρ need n->dec ρ L H vs=some g->BB H n vs (qu (ZR ρ) (enc L g))
def kr:AL Unit where
 enc _ _:=[]
 dec _ _ _:=alW
 need:=0
 nb _ _:=trivial
 ok ρ L H n vs g _ h:=by
  unfold alW at h;split at h
  ·exact BB.nil
  ·cases h
def atK(t:Ty γ)(s:AL δ)(ρ:List Nat)(L:BO)(H:List jS):List AV->Option (γ×δ)
 |x::xs=>(t.dec H x).bind fun y=>(s.dec ρ L H xs).bind fun a=>some (y,a)
 |[]=>none
def kP(t:Ty γ)(s:AL δ):AL (γ×δ) where
 enc L g:=t.enc g.1::s.enc L g.2
 dec:=atK t s
 need:=s.need
 nb L g:=⟨t.nb _ _,s.nb L g.2⟩
 ok ρ L H n vs g hc h:=by
  unfold atK at h;split at h
  ·simp only[dK,dM] at h;obtain⟨y,hy,a,ha,rfl⟩:=h;refine BB.cons ?_ (s.ok ρ L H n _ _ hc ha);rw[HD _ _ (t.nb 0 y)];exact t.ok H n _ _ hy
  ·cases h
def atL(c:SE γ)(k:Nat)(s:AL δ)(ρ:List Nat)(L:BO)(H:List jS)(xs:List AV):Option (γ×δ):=
 (c.dec H (xs.take k)).bind fun y=>(s.dec ρ L H (xs.drop k)).bind fun a=>some (y,a)
def oe.append': ∀{xs ys us vs:List AV},oe H n xs ys->BB H n us vs->BB H n (xs++us) (ys++vs)
 |[],_,_,_,rfl,h=>h
 |_::_,_,_,_,⟨y,zs,rfl,h,hs⟩,h2=>⟨y,zs++_,rfl,.inl h,oe.append' hs h2⟩
def alC(c:SE γ)(k:Nat)(s:AL δ):AL (γ×δ) where
 enc L g:=c.enc g.1++s.enc L g.2
 dec:=atL c k s
 need:=s.need
 nb L g:=HC (c.nb _ _) (s.nb L g.2)
 ok ρ L H n vs g hc h:=by
  unfold atL at h;simp only[dK,dM] at h;obtain⟨y,hy,a,ha,rfl⟩:=h;rw[SS,qQ _ _ (c.nb 0 y),<-eJ k vs];exact oe.append' (c.ok H n _ _ hy) (s.ok ρ L H n _ _ hc ha)
def atM(k:Nat)(s:AL δ)(ρ:List Nat)(L:BO)(H:List jS):List AV->Option δ
 | .ptr l off::xs=>bif decide (off=0/\ρ[k]? =some l) then s.dec ρ L H xs else none
 |_=>none
def lm (k:Nat) (s:AL δ):AL δ where
 enc L g:= .ptr k 0::s.enc L g
 dec:=atM k s
 need:=max (k+1) s.need
 nb L g:=⟨show k<_ by omega,sn (by omega) _ (s.nb L g)⟩
 ok ρ L H n vs g hv h:=by
  unfold atM at h;split at h
  ·rename_i l off xs;cases hc:decide (off=0/\ρ[k]? =some l) with
   |false=>simp [hc] at h
   |true=>
    simp only[hc,ju] at h;obtain⟨rfl,hc'⟩:=jy hc;refine BB.cons ?_ (s.ok ρ L H n _ _ (hv.mono (by omega)) h);have hl:=hv.lt k (by omega);simp only[AV.n9];rw[Xt hc'] at hl ⊢;exact Co.same hl
  ·cases h
def atO(k:Nat)(s:AL δ)(ρ:List Nat)(L:BO)(H:List jS):List AV->Option δ
 | .map l::xs=>bif decide (ρ[k]? =some l) then s.dec ρ L H xs else none
 |_=>none
def XP (k:Nat) (s:AL δ):AL δ where
 enc L g:= .map k::s.enc L g
 dec:=atO k s
 need:=max (k+1) s.need
 nb L g:=⟨show k<_ by omega,sn (by omega) _ (s.nb L g)⟩
 ok ρ L H n vs g hv h:=by
  unfold atO at h;split at h
  ·rename_i l xs;cases hc:decide (ρ[k]? =some l) with
   |false=>simp [hc] at h
   |true=>
    simp only[hc,ju] at h;have hc':=jy hc;refine BB.cons ?_ (s.ok ρ L H n _ _ (hv.mono (by omega)) h);have hl:=hv.lt k (by omega);simp only[AV.n9];rw[Xt hc'] at hl ⊢;exact Co.same hl
  ·cases h
def atP(k:Nat)(s:AL δ)(ρ:List Nat)(L:BO)(H:List jS):List AV->Option δ
 | .acc l m::xs=>bif decide (m=L k/\ρ[k]? =some l) then s.dec ρ L H xs else none
 |_=>none
def alA (k:Nat) (s:AL δ):AL δ where
 enc L g:= .acc k (L k)::s.enc L g
 dec:=atP k s
 need:=max (k+1) s.need
 nb L g:=⟨show k<_ by omega,sn (by omega) _ (s.nb L g)⟩
 ok ρ L H n vs g hv h:=by
  unfold atP at h;split at h
  ·rename_i l m xs;cases hc:decide (m=L k/\ρ[k]? =some l) with
   |false=>simp [hc] at h
   |true=>
    simp only[hc,ju] at h;obtain⟨rfl,hc'⟩:=jy hc;refine BB.cons ?_ (s.ok ρ L H n _ _ (hv.mono (by omega)) h);have hl:=hv.lt k (by omega);simp only[AV.n9];rw[Xt hc'] at hl ⊢;exact Co.same hl
  ·cases h
def atQ(f:FuncId)(c:VL γ)(s:AL δ)(ρ:List Nat)(L:BO)(H:List jS):List AV->Option (γ×δ)
 | .func (.func f') [] cs::xs=>bif decide (f'=f) then(c.dec ρ L cs).bind fun y=>(s.dec ρ L H xs).bind fun a=>some (y,a) else none
 |_=>none
def alF (f:FuncId) (c:VL γ) (s:AL δ):AL (γ×δ) where
 enc L g:= .func (.func f) [] (c.enc L g.1)::s.enc L g.2
 dec:=atQ f c s
 need:=max c.need s.need
 nb L g:=⟨⟨trivial,sn (by omega) _ (c.nb L g.1)⟩,sn (by omega) _ (s.nb L g.2)⟩
 ok ρ L H n vs g hv h:=by
  unfold atQ at h;split at h
  ·rename_i f' cs xs;cases hc:decide (f'=f) with
   |false=>simp [hc] at h
   |true=>
    simp only[hc,ju,dK,dM] at h;obtain⟨y,hy,a,ha,rfl⟩:=h;obtain rfl:=jy hc;refine BB.cons ?_ (s.ok ρ L H n _ _ (hv.mono (by omega)) ha);simp only[AV.n9,qu];exact Co.sub (c.ok ρ L _ _ hy).func ⟨trivial,VC (hv.mono (a:=c.need) (by omega)).lt _ (c.nb L y)⟩
  ·cases h
def atS(s:AL δ)(ρ:List Nat)(L:BO)(H:List jS):List AV->Option δ
 |_::xs=>s.dec ρ L H xs
 |_=>none
def alZ(s:AL δ):AL δ where
 enc L g:= .any::s.enc L g
 dec:=atS s
 need:=s.need
 nb L g:=⟨trivial,s.nb L g⟩
 ok ρ L H n vs g hv h:=by
  unfold atS at h;split at h
  ·exact BB.cons Co.any (s.ok ρ L H n _ _ hv h)
  ·cases h
def Yp:Nat->AL δ->AL δ
 |0,s=>s
 |n+1,s=>alZ (Yp n s)
def ayn:(∀L g,kr.enc L g=[])/\(∀ρ L H xs,kr.dec ρ L H xs=alW xs)/\kr.need=0:=⟨fun _ _=>rfl,fun _ _ _ _=>rfl,rfl⟩
def ayo{t:Ty γ}{s:AL δ}:(∀L g,(kP t s).enc L g=t.enc g.1::s.enc L g.2)/\(∀ρ L H xs,(kP t s).dec ρ L H xs=atK t s ρ L H xs)/\(kP t s).need=s.need:=⟨fun _ _=>rfl,fun _ _ _ _=>rfl,rfl⟩
def ayp{c:SE γ}{s:AL δ}:(∀L g,(alC c k s).enc L g=c.enc g.1++s.enc L g.2)/\(∀ρ L H xs,(alC c k s).dec ρ L H xs=atL c k s ρ L H xs)/\(alC c k s).need=s.need:=⟨fun _ _=>rfl,fun _ _ _ _=>rfl,rfl⟩
def ayq{s:AL δ}:(∀L g,(lm k s).enc L g= .ptr k 0::s.enc L g)/\(∀ρ L H xs,(lm k s).dec ρ L H xs=atM k s ρ L H xs)/\(lm k s).need=max (k+1) s.need:=⟨fun _ _=>rfl,fun _ _ _ _=>rfl,rfl⟩
def ayr{s:AL δ}:(∀L g,(XP k s).enc L g= .map k::s.enc L g)/\(∀ρ L H xs,(XP k s).dec ρ L H xs=atO k s ρ L H xs)/\(XP k s).need=max (k+1) s.need:=⟨fun _ _=>rfl,fun _ _ _ _=>rfl,rfl⟩
def ays{s:AL δ}:(∀L g,(alA k s).enc L g= .acc k (L k)::s.enc L g)/\(∀ρ L H xs,(alA k s).dec ρ L H xs=atP k s ρ L H xs)/\(alA k s).need=max (k+1) s.need:=⟨fun _ _=>rfl,fun _ _ _ _=>rfl,rfl⟩
def ayt{c:VL γ}{s:AL δ}:(∀L g,(alF f c s).enc L g= .func (.func f) [] (c.enc L g.1)::s.enc L g.2)/\(∀ρ L H xs,(alF f c s).dec ρ L H xs=atQ f c s ρ L H xs)/\(alF f c s).need=max c.need s.need:=⟨fun _ _=>rfl,fun _ _ _ _=>rfl,rfl⟩
def ayu{s:AL δ}:(∀L g,(alZ s).enc L g= .any::s.enc L g)/\(∀ρ L H xs,(alZ s).dec ρ L H xs=atS s ρ L H xs)/\(alZ s).need=s.need:=⟨fun _ _=>rfl,fun _ _ _ _=>rfl,rfl⟩
end ayh
def Bg {m:Nat}(h:n<=m)(x:jS)(k:pM n x):pM m x:=by
 cases x with
 |cells cs=>exact sn h _ k
 |acc qT sz rows=>exact af0 h _ k
 |map es=>exact fun p hp=>⟨AV.aar h _ (k p hp).1,AV.aar h _ (k p hp).2⟩
 |loop lk slots st qP=>exact sn h _ k
 |iter s p=>trivial
 |dead=>trivial
def alX(hlen:ρ.length=Ys.length)(hnd:ρ.Nodup)(hid: ∀k,k<low->ρ[k]? =some k)
 (hl:low<=Ys.length) (hnb:uB Ys.length ys) (EB: ∀y∈Ys,pM Ys.length y)
 (Ju: ∀(i k:Nat)(y:jS),ρ[i]? =some k->Ys[i]? =some y->H[k]? =some (y.n9 (ZR ρ))):
 FE ⟨qu (ZR ρ) ys,H,low,[]⟩ ⟨ys,Ys,low,[]⟩:=by
 intro C φ a w S
 let φ':Nat->Value:=fun k=>φ (ZR ρ k)
 have hρ: ∀k,k<Ys.length->ρ[k]? =some (ZR ρ k):=by
  grind [Xt]
 have mH: ∀(k:Nat)(y:jS),Ys[k]? =some y->k<Ys.length/\H[ZR ρ k]? =some (y.n9 (ZR ρ)):=by
  grind
 have aAO: ∀k,k<low->ZR ρ k=k:=fun k hk=>Xt (hid k hk)
 have hinj: ∀k k',k<Ys.length->k'<Ys.length->ZR ρ k=ZR ρ k'->k=k':=by
  intro k k' hk hk' he;have h1:=hρ k hk;have h2:=hρ k' hk';rw[<-he] at h2;have e1:=Yf ρ k _ hnd h1
  grind [Yf]
 have Jr: ∀b o,Dq φ' Ys b o->Dq φ H b o:=by
  rintro b o ⟨k,z,hz,hm⟩;exact⟨_,_,(mH k z hz).2,N8.2 hm⟩
 have un:ah0 Ys.length (ZR ρ) (C.env φ H w) (C.env φ' Ys w):=by
  refine⟨eb _,fun k hk=>⟨rfl,?_⟩,fun b o u hm hc=>⟨fun h=>hm (h.imp (Jr b o) id),hc⟩⟩;show lr Ys[k]? =lr H[ZR ρ k]?
  grind [BU]
 have Aa:qh C φ' Ys w [] a.defers:=S.defers.ahE (fun xs vs ⟨f,hf⟩ _=>(by cases hf)) (fun _ _ _=>rfl) (fun k z b hz hb=> .inl ⟨_,_,(mH k z hz).2,yK.2 hb⟩);refine⟨φ',{slots:=kf.zU un _ _ hnb S.slots,defers:=Aa,mV:= ?_,apart:= ?_,rz:= ?_,size:=S.size,old:=S.old,mF:=S.mF,Bi:= ?_,tX:=S.tX,rest:=S.rest,low:=⟨S.low.1,hl⟩,names:= ?_}⟩
 ·intro k z hz;exact mN.zU un (EB z (ez hz)) (fun _ _=>rfl) (S.mV _ _ (mH k z hz).2)
 ·intro k k' z z' b hz hz' hb hb';refine hinj k k' (mH k z hz).1 (mH k' z' hz').1 (S.apart _ _ _ _ b (mH k z hz).2 (mH k' z' hz').2 (yK.2 hb) (yK.2 hb'))
 ·intro k z b o hz hb;exact S.rz _ _ b o (mH k z hz).2 (yK.2 hb)
 ·intro k z b o hz hm hb;exact S.Bi _ _ b o (mH k z hz).2 (N8.2 hm) hb
 ·intro k hk;have hk':k<low:=by have:=S.low.1;simp only at this;omega
  have hn:=S.names k hk
  grind [BU]
section mV

structure OG(γ:Type) where
 enc:BO->γ->jS
 dec:List Nat->BO->List jS->jS->Option γ
 len:γ->Nat
 need:Nat
 nb: ∀L g,pM need (enc L g)
 ok: ∀ρ L H n x g,Cov ρ need n->dec ρ L H x=some g->KH H n x ((enc L g).n9 (ZR ρ))
 acV: ∀ρ L H x g,dec ρ L H x=some g->len g=(lr (some x)).getD 0
def aaE{α β:Type}{f:α->Option β}: ∀{xs:List α}{ys:List β},pN f xs=some ys->ys.length=xs.length
 |[],ys,h=>by grind [pN]
 |x::xs,ys,h=>by
  simp only[pN,dK,dM] at h;obtain⟨y,hy,zs,hz,rfl⟩:=h;simp [aaE hz]
def ogA(qT:Bool)(r:Row α):OG (List α) where
 enc _ xs:= .acc qT r.sz (mp r.enc xs)
 dec _ _ _:=daT qT r
 len xs:=xs.length
 need:=0
 nb L g:=vZ g
 ok ρ L H n x g _ h:=by
  have:=(oaT qT r).ok H n x g h
  grind [oaT]
 acV ρ L H x g h:=by
  unfold daT at h;split at h
  ·split at h
   ·exact aaE h
   ·cases h
  ·cases h
def aqI(c:AL γ)(ρ:List Nat)(L:BO)(H:List jS):jS->Option γ
 | .cells cs=>c.dec ρ L H cs
 |_=>none
def PC(c:AL γ):OG γ where
 enc L g:= .cells (c.enc L g)
 dec:=aqI c
 len _:=0
 need:=c.need
 nb L g:=c.nb L g
 ok ρ L H n x g hv h:=by
  unfold aqI at h;split at h
  ·exact .inr (.inr (.inl ⟨_,_,rfl,rfl,c.ok ρ L H n _ _ hv h⟩))
  ·cases h
 acV ρ L H x g h:=by
  unfold aqI at h;split at h
  ·rfl
  ·cases h
def ayv{qT:Bool}{r:Row α}:(∀L g,(ogA qT r).enc L g= .acc qT r.sz (mp r.enc g))/\(∀ρ L H x,(ogA qT r).dec ρ L H x=daT qT r x)/\(∀g,(ogA qT r).len g=g.length)/\(ogA qT r).need=0:=⟨fun _ _=>rfl,fun _ _ _ _=>rfl,fun _=>rfl,rfl⟩
def ayw{c:AL γ}:(∀L g,(PC c).enc L g= .cells (c.enc L g))/\(∀ρ L H x,(PC c).dec ρ L H x=aqI c ρ L H x)/\(∀g,(PC c).len g=0)/\(PC c).need=c.need:=⟨fun _ _=>rfl,fun _ _ _ _=>rfl,fun _=>rfl,rfl⟩
structure OL(β:Type) where
 enc:BO->β->List jS
 dec:List Nat->BO->List jS->List jS->Option β
 lens:β->BO
 size:Nat
 need:Nat
 sz: ∀L b,(enc L b).length=size
 nb: ∀L b,∀y∈enc L b,pM need y
 ok: ∀ρ L H n xs b,Cov ρ need n->dec ρ L H xs=some b->xs.length=size/\ ∀(i:Nat)(y:jS),(enc L b)[i]? =some y-> ∃x,xs[i]? =some x/\KH H n x (y.n9 (ZR ρ))
 FJ: ∀ρ L H xs b,dec ρ L H xs=some b->xs.length=size
 ZS: ∀ρ L H xs b,dec ρ L H xs=some b-> ∀k,lens b k=(lr xs[k]?).getD 0
def aoB:List jS->Option Unit
 |[]=>some ()
 |_=>none
def EC:OL Unit where
 enc _ _:=[]
 dec _ _ _:=aoB
 lens _ _:=0
 size:=0
 need:=0
 sz _ _:=rfl
 nb _ _:=by simp
 ok ρ L H n xs b _ h:=by
  grind [aoB]
 FJ ρ L H xs b h:=by
  grind [aoB]
 ZS ρ L H xs b h k:=by
  unfold aoB at h;split at h
  ·rfl
  ·cases h
def aoC(o:OG γ)(s:OL β)(ρ:List Nat)(L:BO)(H:List jS):List jS->Option (γ×β)
 |x::xs=>(o.dec ρ L H x).bind fun y=>(s.dec ρ L H xs).bind fun b=>some (y,b)
 |[]=>none
def aa9(a:Nat)(f:BO):BO
 |0=>a
 |k+1=>f k
def BP(o:OG γ)(s:OL β):OL (γ×β) where
 enc L b:=o.enc L b.1::s.enc L b.2
 dec:=aoC o s
 lens b:=aa9 (o.len b.1) (s.lens b.2)
 size:=s.size+1
 need:=max o.need s.need
 sz L b:=by rw[ed,s.sz]
 nb L b y hy:=by
  simp only[eB] at hy;rcases hy with rfl|hy
  ·exact Bg (by omega) _ (o.nb L _)
  ·exact Bg (by omega) _ (s.nb L _ y hy)
 ok ρ L H n xs b hv h:=by
  unfold aoC at h;split at h
  ·rename_i x xs;simp only[dK,dM] at h;obtain⟨y,hy,b,hb,rfl⟩:=h;obtain⟨h1,h2⟩:=s.ok ρ L H n _ _ (hv.mono (by omega)) hb;refine⟨by rw[ed,h1],fun i z hz=> ?_⟩;cases i with
   |zero=>simp at hz;subst hz;exact⟨x,by simp,o.ok ρ L H n _ _ (hv.mono (by omega)) hy⟩
   |succ i=>grind
  ·cases h
 FJ ρ L H xs b h:=by
  unfold aoC at h;split at h
  ·simp only[dK,dM] at h;obtain⟨y,hy,b,hb,rfl⟩:=h;rw[ed,s.FJ _ _ _ _ _ hb]
  ·cases h
 ZS ρ L H xs b h k:=by
  unfold aoC at h;split at h
  ·simp only[dK,dM] at h;obtain⟨y,hy,b,hb,rfl⟩:=h;cases k with
   |zero=>simp only[aa9,eD];exact o.acV ρ L H _ _ hy
   |succ k=>simp only[aa9,eE];exact s.ZS ρ L H _ _ hb k
  ·cases h
def ayx:(∀L b,EC.enc L b=[])/\(∀ρ L H xs,EC.dec ρ L H xs=aoB xs)/\(∀b k,EC.lens b k=0)/\EC.size=0/\EC.need=0:=⟨fun _ _=>rfl,fun _ _ _ _=>rfl,fun _ _=>rfl,rfl,rfl⟩
def ayy{o:OG γ}{s:OL β}:(∀L b,(BP o s).enc L b=o.enc L b.1::s.enc L b.2)/\(∀ρ L H xs,(BP o s).dec ρ L H xs=aoC o s ρ L H xs)/\(∀b,(BP o s).lens b=aa9 (o.len b.1) (s.lens b.2))/\(BP o s).size=s.size+1/\(BP o s).need=max o.need s.need:=⟨fun _ _=>rfl,fun _ _ _ _=>rfl,fun _=>rfl,rfl,rfl⟩
end mV
inductive Loc where
 |arg (i:Nat) (cs:List Nat)
 |obj (k c:Nat) (cs:List Nat)
variable {p1:List Loc}
def aqJ:AV->Option Nat
 | .ptr l _=>some l
 | .acc l _=>some l
 | .map l=>some l
 |_=>none
def down:List Nat->AV->Option AV
 |[],v=>some v
 |i::is,.func _ _ cap=>match cap[i]? with
  |some u=>down is u
  |none=>none
 |_::_,_=>none
def cellAt(c:Nat):Option jS->Option AV
 |some (.cells xs)=>xs[c]?
 |some (.loop _ xs _ _)=>xs[c]?
 |_=>none
def ayz(args:List AV)(H:List jS)(ρ:List Nat):Loc->Option Nat
 | .arg i cs=>(args[i]?).bind fun v=>(down cs v).bind aqJ
 | .obj k c cs=>(ρ[k]?).bind fun l=>(cellAt c H[l]?).bind fun v=>(down cs v).bind aqJ
def aec(args:List AV)(H:List jS):List Loc->List Nat->Option (List Nat)
 |[],ρ=>some ρ
 |p::ps,ρ=>(ayz args H ρ p).bind fun l=>aec args H ps (ρ++[l])
def acW{args:List AV}{H:List jS}: ∀{ps:List Loc}{ρ ρ':List Nat},aec args H ps ρ=some ρ'-> ∃ls,ρ'=ρ++ls
 |[],ρ,ρ',h=>by simp_all [aec]
 |p::ps,ρ,ρ',h=>by
  simp only[aec,dK] at h;obtain⟨l,_,h⟩:=h;obtain⟨ls,hl⟩:=acW h
  grind
def Yq(xs:List jS)(k:Nat):Nat:=(lr xs[k]?).getD 0
def aqK(hT:SW T){KL:List AV}{O:sv}(hG:FnT P T args Ys (fun o H'=>o=O/\H'=Ys'))(hnd:ρ.Nodup)(hlen:ρ.length=Ys.length)(ayb:ρ.length<=Ys'.length)
 (hz: ∀φ:Nat->Value,T (φ (mJ ρ σ.heap.length 0))=T (φ l0))
 (Ju: ∀(i k:Nat),ρ[i]? =some k-> ∃x y,σ.heap[k]? =some x/\Ys[i]? =some y/\KH σ.heap σ.heap.length x (y.n9 (mJ ρ σ.heap.length))) (hargs:BB σ.heap σ.heap.length KL (qu (mJ ρ σ.heap.length) args)):
 Mi P T l0 KL σ (fun o H'=>o=O.n9 (mJ ρ σ.heap.length)/\H'=tv ρ σ.heap Ys'):=by
 intro C φ a w hP S vs hr
 let H1:=pT σ.heap ρ (Ys.map (jS.n9 (mJ ρ σ.heap.length)))
 have hl1:H1.length=σ.heap.length:=tZ _ _ _;have S0:lQ C φ ⟨σ.slots++KL,σ.heap,σ.low,σ.df⟩ {tmps:=a.tmps++vs,defers:=a.defers} w:={S with slots:=by simpa using S.slots.append hr,defers:=S.defers}
 have hat: ∀(i k:Nat),ρ[i]? =some k-> ∃x y,σ.heap[k]? =some x/\Ys[i]? =some y/\KH σ.heap σ.heap.length x (y.n9 (mJ ρ σ.heap.length))/\H1[k]? =some (y.n9 (mJ ρ σ.heap.length)):=by
  grind [Ob]
 have hw:acm ⟨σ.slots++KL,σ.heap,σ.low,σ.df⟩ ⟨σ.slots++qu (mJ ρ σ.heap.length) args,H1,σ.low,σ.df⟩:=by
  refine⟨⟨⟨rfl,by show σ.low<=H1.length;rw[hl1];exact S.low.2⟩,rfl,by show akH H1.length σ.df;rw[hl1];exact Iy.nb S.defers.2.2⟩,?_,?_⟩
  ·show BB σ.heap H1.length _ _;rw[hl1];exact BB.append (BB.same (kf.nb _ _ S.slots)) hargs
  ·show CoH σ.heap H1.length σ.heap H1;rw[hl1];refine PX fun k y hy=> ?_
   by_cases hk:k∈ρ
   ·grind [eu]
   ·have hy2:σ.heap[k]? =some y:=by grind [CQ]
    exact⟨y,hy2,.inr (.inl ⟨rfl,N9 (S.mV k y hy2)⟩)⟩
 have S1:=hw.sim S0;have XQ:=S1.slots;simp only[ew] at XQ;have hsz:a.tmps.toList.length=σ.slots.length:=S.slots.length;have h1:=XQ.take σ.slots.length;have h2:=XQ.drop σ.slots.length;rw[dW rfl,dW hsz] at h1;rw[dX rfl,dX hsz] at h2;have S2:lQ C φ {σ with heap:=H1} a w:={S1 with slots:=h1,defers:=S1.defers}
 have tW:Mi P T l0 (qu (mJ ρ H1.length) args) {σ with heap:=H1} (fun o H'=>o=O.n9 (mJ ρ H1.length)/\H'=tv ρ σ.heap Ys'):=by
  refine Yg (σ:={σ with heap:=H1}) hT hG ρ hlen hnd (by simp_all) (qi.refl _) ?_ ?_
  all_goals grind [tv,MY]
 rw[hl1] at tW;exact tW C φ a w hP S2 vs h2
section Yr

def acX(base:List Nat)(pos:List Loc)(os:OL β)(as:AL α)(os':OL β')(rs:AL α')(F:β->α->Option (β'×α')):Ent:=fun args H=>
 (aec args H pos base).bind fun ρ=>bif nodupB ρ&&(decide (os.need<=ρ.length)&&(decide (as.need<=ρ.length)&&decide (ρ.length<=os'.size))) then
   (pN (aaD H) ρ).bind fun xs=>(os.dec ρ (Yq xs) H xs).bind fun b=>(as.dec ρ (Yq xs) H args).bind fun a=>(F b a).bind fun r=>
     some ((tA (rs.enc (os'.lens r.1) r.2)).n9 (mJ ρ H.length),tv ρ H (os'.enc (os'.lens r.1) r.1)) else none
def Yr(pos:List Loc)(os:OL β)(as:AL α)(os':OL β')(rs:AL α')(F:β->α->Option (β'×α')):Ent:=acX [] pos os as os' rs F
def aqL(pos:List Loc)(os:OL β)(as:AL α)(os':OL β')(rs:AL α')(F:β->α->Option (β'×α'))(l:Nat):Ent:=fun args H=>
 match H[l]? with
 |some (.loop k _ _ _)=>lU (args.length=k.ps.size) (acX [l] pos os as os' rs F args H)
 |_=>none
def ai1(hT:SW T){pos:List Loc}{os:OL β}{as:AL α}{os':OL β'}{rs:AL α'}{F:β->α->Option (β'×α')}
 (hz: ∀(ls:List Nat)(n:Nat)(φ:Nat->Value),T (φ (mJ (base++ls) n 0))=T (φ l0)) {r:AV} (he:acX base pos os as os' rs F args σ.heap=some (r,H')):
 ∃b a q,F b a=some q/\(FnT P T (as.enc (os.lens b) a) (os.enc (os.lens b) b) (fun o H'=>o= .ret (tA (rs.enc (os'.lens q.1) q.2))/\H'=os'.enc (os'.lens q.1) q.1)->Mi P T l0 args σ (fun o BC=>o= .ret r/\BC=H')):=by
 unfold acX at he;simp only[dK] at he;obtain⟨ρ,hρ,he⟩:=he;cases hc:(nodupB ρ&&(decide (os.need<=ρ.length)&&(decide (as.need<=ρ.length)&&decide (ρ.length<=os'.size)))) with
 |false=>simp [hc] at he
 |true=>
  simp only[hc,ju,dK,dM,dO] at he;obtain⟨xs,hxs,b,hb,a,ha,q,hq,rfl,rfl⟩:=he;refine⟨b,a,q,hq,fun hfn=> ?_⟩;simp only[dY,jA] at hc;obtain⟨hnd,n1,n2,n3⟩:=hc;obtain⟨h1,h2⟩:=Oi hxs
  have ai2: ∀m,m<=ρ.length->Cov ρ m σ.heap.length:=by
   intro m hm k hk;have hk':k<ρ.length:=by omega
   obtain⟨x,hx,hx'⟩:=h2 k _ (dQ hk')
   grind
  have hL:os.lens b=Yq xs:=funext fun k=>os.ZS ρ _ _ _ _ hb k
  obtain⟨h3,h4⟩:=os.ok ρ _ σ.heap σ.heap.length _ _ (ai2 _ n1) hb;have SQ: ∀l,l<ρ.length->ZR ρ l=mJ ρ σ.heap.length l:=fun l hl=>by unfold mJ ZR;rw[if_pos hl]
  rw[<-hL] at ha h4;obtain⟨ls,hls⟩:=acW hρ;refine aqK hT hfn (Kz hnd) (by rw[h1,h3,os.sz]) (by rw[os'.sz];exact n3) (fun φ=>by rw[hls];exact hz ls _ φ) ?_ ?_
  ·intro i k hi;obtain⟨x,hx,hx'⟩:=h2 i k hi;have hlt:i<(os.enc (os.lens b) b).length:=by rw[os.sz,<-h3,<-h1];grind
   have hy:=dQ hlt;obtain⟨x2,LM,hcc⟩:=h4 i _ hy;rw[hx] at LM;cases LM;refine⟨x,_,hx',hy,?_⟩;rw[<-Yo (n:=os.need) (fun l hl=>SQ l (by omega)) _ (os.nb _ _ _ (ez hy))];exact hcc
  ·rw[<-Ae (n:=as.need) (fun l hl=>SQ l (by omega)) _ (as.nb _ _)];exact as.ok ρ _ σ.heap _ _ _ (ai2 _ n2) ha
def BE{pos:List Loc}{os:OL β}{as:AL α}{os':OL β'}{rs:AL α'}{F:β->α->Option (β'×α')}
 (h: ∀b a r,F b a=some r->FnG P f (as.enc (os.lens b) a) (os.enc (os.lens b) b) (fun o H'=>o= .ret (tA (rs.enc (os'.lens r.1) r.2))/\H'=os'.enc (os'.lens r.1) r.1)):aaC P f (Yr pos os as os' rs F):=by
 intro args σ r H' he;obtain⟨b,a,q,hq,tW⟩:=ai1 (P:=P) (T:=fun _ w vs R=>Calls P f vs w R) (l0:=0) Xk (fun _ _ _=>rfl) he;exact⟨(h b a q hq).1,tW (h b a q hq).2⟩
def anh{pos:List Loc}{os:OL β}{as:AL α}{os':OL β'}{rs:AL α'}{F:β->α->Option (β'×α')}
 (h: ∀b a r,F b a=some r->FnT P (SM P) (as.enc (os.lens b) a) (os.enc (os.lens b) b) (fun o H'=>o= .ret (tA (rs.enc (os'.lens r.1) r.2))/\H'=os'.enc (os'.lens r.1) r.1)) {r:AV} (he:aqL pos os as os' rs F l args σ.heap=some (r,H')):HA P l args σ (fun o BC=>o= .ret r/\BC=H'):=by
 unfold aqL at he;split at he
 ·rename_i k slots st qP hk;rw[lv] at he;obtain⟨hlen,he⟩:=he;obtain⟨b,a,q,hq,tW⟩:=ai1 (P:=P) (T:=SM P) (l0:=l) aic (fun ls n φ=>by simp [mJ]) he;exact⟨⟨k,slots,st,qP,hk,hlen⟩,tW (h b a q hq)⟩
 ·cases he
def ai3:List (Nat×(Nat->Ent))->Nat->Ent
 |[],_,_,_=>none
 |(l',e)::t,l,args,H=>bif l==l' then e l args H else ai3 t l args H
def aaF: ∀(l:Nat)(args:List AV)(σ:jI)(r:AV)(H':List jS),ai3 [] l args σ.heap=some (r,H')->HA P l args σ (fun o BC=>o= .ret r/\BC=H'):=by
 intro l args σ r H' h;cases h
def Yt{l':Nat}{e:Nat->Ent}{t:List (Nat×(Nat->Ent))}(h1: ∀(l:Nat)(args:List AV)(σ:jI)(r:AV)(H':List jS),e l args σ.heap=some (r,H')->HA P l args σ (fun o BC=>o= .ret r/\BC=H'))
 (h2: ∀(l:Nat)(args:List AV)(σ:jI)(r:AV)(H':List jS),ai3 t l args σ.heap=some (r,H')->HA P l args σ (fun o BC=>o= .ret r/\BC=H')):
 ∀(l:Nat)(args:List AV)(σ:jI)(r:AV)(H':List jS),ai3 ((l',e)::t) l args σ.heap=some (r,H')->HA P l args σ (fun o BC=>o= .ret r/\BC=H'):=by
 grind [ai3]
end Yr
section PQ

def alY(xs:List AV)(pos:List Loc)(base:List Nat)(low:Nat)(os:OL β)(s:AL α)(σ:jI):Option (β×α):=
 (aec xs σ.heap pos base).bind fun ρ=>bif nodupB ρ&&((σ.low==low)&&(σ.df.isEmpty&&(decide (low<=os.size)&&(decide (os.need<=os.size)&&decide (s.need<=os.size))))) then
   (pN (aaD σ.heap) ρ).bind fun ys=>(os.dec ρ (Yq ys) σ.heap ys).bind fun b=>(s.dec ρ (Yq ys) σ.heap xs).bind fun a=>some (b,a) else none
def Ds(P:Program)(rs:List ResultVar)(pos:List Loc)(base:List Nat)(low:Nat)(os:OL β)(s:AL α)(σ:jI):Option (β×α):=
 (w6 P σ rs).bind fun xs=>alY xs pos base low os s σ
def Yu{xs:List AV}{pos:List Loc}{os:OL β}{s:AL α}{r:β×α}(hbase:base=dR low)(h:alY xs pos base low os s σ=some r):
 σ.df=[]/\FE ⟨xs,σ.heap,σ.low,[]⟩ ⟨s.enc (os.lens r.1) r.2,os.enc (os.lens r.1) r.1,σ.low,[]⟩:=by
 unfold alY at h;simp only[dK] at h;obtain⟨ρ,hρ,h⟩:=h;cases hc:(nodupB ρ&&((σ.low==low)&&(σ.df.isEmpty&&(decide (low<=os.size)&&(decide (os.need<=os.size)&&decide (s.need<=os.size)))))) with
 |false=>simp [hc] at h
 |true=>
  simp only[hc,ju,dK,dM] at h;obtain⟨ys,hys,b,hb,a,ha,rfl⟩:=h;simp only[dY,jA,jB] at hc;obtain⟨hnd,h1,RZ,n1,n2,n3⟩:=hc;refine⟨by simpa using RZ,?_⟩;obtain⟨ls,hls⟩:=acW hρ;obtain⟨g1,g2⟩:=Oi hys;have hL:os.lens b=Yq ys:=funext fun k=>os.ZS ρ _ _ _ _ hb k
  rw[<-hL] at hb ha
  have hsize:ρ.length=os.size:=by
   have:ys.length=os.size:=os.FJ _ _ _ _ _ hb;rw[g1,this]
  intro C φ a' w S
  have ai2: ∀m,m<=ρ.length->Cov ρ m σ.heap.length:=by
   intro m hm k hk;have hk':k<ρ.length:=by omega
   obtain⟨x,hx,hx'⟩:=g2 k _ (dQ hk')
   grind
  let Ys:=os.enc (os.lens b) b
  have hYl:Ys.length=os.size:=os.sz _ _
  let H1:=pT σ.heap ρ (Ys.map (jS.n9 (ZR ρ)))
  have hl1:H1.length=σ.heap.length:=tZ _ _ _;obtain⟨_,h4⟩:=os.ok ρ _ σ.heap σ.heap.length _ _ (ai2 _ (by omega)) hb
  have hat: ∀(i k:Nat)(y:jS),ρ[i]? =some k->Ys[i]? =some y-> ∃x,σ.heap[k]? =some x/\KH σ.heap σ.heap.length x (y.n9 (ZR ρ))/\H1[k]? =some (y.n9 (ZR ρ)):=by
   grind [Ob,Kz]
  have hw:acm ⟨xs,σ.heap,σ.low,[]⟩ ⟨qu (ZR ρ) (s.enc (os.lens b) a),H1,σ.low,[]⟩:=by
   refine⟨⟨⟨rfl,by show σ.low<=H1.length;rw[hl1];exact S.low.2⟩,rfl,SR⟩,?_,?_⟩
   ·show BB σ.heap H1.length _ _;rw[hl1];exact s.ok ρ _ σ.heap _ _ _ (ai2 _ (by omega)) ha
   ·show CoH σ.heap H1.length σ.heap H1;rw[hl1];refine PX fun k y hy=> ?_
    by_cases hk:k∈ρ
    ·obtain⟨i,hi⟩:=eu hk;have hlt:i<Ys.length:=by grind
     obtain⟨x,hx,hc,hy'⟩:=hat i k _ hi (dQ hlt)
     grind
    ·have hy2:σ.heap[k]? =some y:=by grind [CQ]
     exact⟨y,hy2,.inr (.inl ⟨rfl,N9 (S.mV k y hy2)⟩)⟩
  obtain⟨φ',S1⟩:=hw.imp C φ _ w S;refine alX (ρ:=ρ) (Ys:=Ys) (by rw[hsize,hYl]) (Kz hnd) ?_ (by rw[hYl];omega) (sn (by omega) _ (s.nb _ _)) (fun y hy=>Bg (by omega) _ (os.nb _ _ y hy)) ?_ C φ' a' w S1
  all_goals grind
def Mn{pos:List Loc}{os:OL β}{s:AL α}{r:β×α}(hbase:base=dR low)(h:Ds P rs pos base low os s σ=some r):
 σ.df=[]/\ ∃xs,w6 P σ rs=some xs/\Xr ⟨xs,σ.heap,σ.low,[]⟩ ⟨s.enc (os.lens r.1) r.2,os.enc (os.lens r.1) r.1,σ.low,[]⟩:=by
 unfold Ds at h;simp only[dK] at h;obtain⟨xs,hx,h⟩:=h;exact⟨(Yu hbase h).1,xs,hx,(Yu hbase h).2.e⟩
end PQ
def al0 {b:Nat}:decide (max a b<=c)=(decide (a<=c)&&decide (b<=c)):=by
 grind
def aqM{xs:List jS}:Yq xs k=(lr xs[k]?).getD 0:=rfl
def aqN:(∀i s r,lr (some (.acc i s r))=some r.length)/\(∀c,lr (some (.cells c))=none)/\(∀e,lr (some (.map e))=none)/\lr (some .dead)=none/\lr none=none:=⟨fun _ _ _=>rfl,fun _=>rfl,fun _=>rfl,rfl,rfl⟩
def awA{f:BO}:aa9 a f 0=a/\ ∀k,aa9 a f (k+1)=f k:=⟨rfl,fun _=>rfl⟩
def awB{f:BO}:aa9 a f 1=f 0:=rfl
def awC{f:BO}:aa9 a f 2=f 1:=rfl
def awD{f:BO}:aa9 a f 3=f 2:=rfl
def awE{f:BO}:aa9 a f 4=f 3:=rfl
def awF{f:BO}:aa9 a f 5=f 4:=rfl
def awG{f:BO}:aa9 a f 6=f 5:=rfl
def ayA:vlN.need=0:=rfl
def ayB{t:Ty α}{s:VL β}:(vlT t s).need=s.need:=rfl
def ayC{s:VL β}:(vlP k s).need=max (k+1) s.need:=rfl
def ayD{s:VL β}:(vlM k s).need=max (k+1) s.need:=rfl
def ayE{c:VL α}{s:VL β}:(vlF f c s).need=max c.need s.need:=rfl
attribute [go_sem] ayA ayB ayC ayD ayE ayi ayj ayk ayl aym ayn ayo ayp ayq ayr ays ayt ayu Yp ayv ayw ayx ayy alW atG atH atI atJ atK atL atM atO atP atQ atS aqI aoB aoC Yr Ds aec ayz aqJ down cellAt aqM aqN Option.getD_some Option.getD_none awA awB awC awD awE awF awG al0 dM
def stJ(lk:u5)(j:Int):LoopState:=stP (om lk.js j)
def aqO:stJ lk 0= .ready:=rfl
section ogL

def aqP(lk:u5)(c:AL γ)(ρ:List Nat)(L:BO)(H:List jS):jS->Option (γ×Int)
 | .loop lk' slots st j=>lU (lk'=lk/\st=stJ lk j) ((c.dec ρ L H slots).bind fun g=>some (g,j))
 |_=>none
def ogL(lk:u5)(c:AL γ):OG (γ×Int) where
 enc L g:= .loop lk (c.enc L g.1) (stJ lk g.2) g.2
 dec:=aqP lk c
 len _:=0
 need:=c.need
 nb L g:=c.nb L g.1
 ok ρ L H n x g hv h:=by
  unfold aqP at h;split at h
  ·simp only[lv,dK,dM] at h;obtain⟨⟨rfl,rfl⟩,y,hy,rfl⟩:=h;exact .inr (.inr (.inr (.inr ⟨_,_,_,_,_,rfl,rfl,c.ok ρ L H n _ _ hv hy⟩)))
  ·cases h
 acV ρ L H x g h:=by
  unfold aqP at h;split at h
  ·rfl
  ·cases h
def ai4(lk:u5)(c:AL γ)(ρ:List Nat)(L:BO)(H:List jS):jS->Option γ
 | .loop lk' slots st j=>bif j==0 then lU (lk'=lk/\st=stJ lk j) (c.dec ρ L H slots) else none
 |_=>none
def aoD (lk:u5) (c:AL γ):OG γ where
 enc L g:= .loop lk (c.enc L g) .ready 0
 dec:=ai4 lk c
 len _:=0
 need:=c.need
 nb L g:=c.nb L g
 ok ρ L H n x g hv h:=by
  unfold ai4 at h;split at h
  ·rename_i lk' slots st j;cases hj:j==0 with
   |false=>rw[hj] at h;cases h
   |true=>
    rw[hj,ju] at h;have hj':j=0:=by simpa using hj
    subst hj';simp only[lv] at h;obtain⟨⟨rfl,rfl⟩,hy⟩:=h;exact .inr (.inr (.inr (.inr ⟨_,_,_,_,_,rfl,rfl,c.ok ρ L H n _ _ hv hy⟩)))
  ·cases h
 acV ρ L H x g h:=by
  unfold ai4 at h;split at h
  ·rfl
  ·cases h
def awH{c:AL γ}{st:LoopState}{j:Int}:aqP lk c ρ L H (.loop lk' s st j)=lU (lk'=lk/\st=stJ lk j) ((c.dec ρ L H s).bind fun g=>some (g,j)):=rfl
def atT{c:AL γ}{st:LoopState}{j:Int}:ai4 lk c ρ L H (.loop lk' s st j)=bif j==0 then lU (lk'=lk/\st=stJ lk j) (c.dec ρ L H s) else none:=rfl
def ayF{c:AL γ}:(∀L g,(ogL lk c).enc L g= .loop lk (c.enc L g.1) (stJ lk g.2) g.2)/\(∀ρ L H x,(ogL lk c).dec ρ L H x=aqP lk c ρ L H x)/\(∀g,(ogL lk c).len g=0)/\(ogL lk c).need=c.need:=⟨fun _ _=>rfl,fun _ _ _ _=>rfl,fun _=>rfl,rfl⟩
def awI{c:AL γ}:(∀L g,(aoD lk c).enc L g= .loop lk (c.enc L g) .ready 0)/\(∀ρ L H x,(aoD lk c).dec ρ L H x=ai4 lk c ρ L H x)/\(∀g,(aoD lk c).len g=0)/\(aoD lk c).need=c.need:=⟨fun _ _=>rfl,fun _ _ _ _=>rfl,fun _=>rfl,rfl⟩
end ogL
def M1:List (Int×Code)->mc->Int
 |(k,.ret)::_,.ret=>k
 |(k,.exit n)::t,.exit m=>bif n==m then k else M1 t (.exit m)
 |_::t,e=>M1 t e
 |[],_=>0
section Yv

def aqQ(js:List (Int×Code))(pos:List Loc)(base:List Nat)(low:Nat)(os:OL β)(e:mc)(σ:jI):Option jS->Option (β×(Bool×Unit))
 |some (.loop lk sl .busy 0)=>lU (acD e=some (om lk.js (M1 js e))) (alY [.bool (om lk.js (M1 js e)).isNone] pos base low os (kP my kr) {σ with heap:=σ.heap.set 0 (.loop lk sl (stJ lk (M1 js e)) (M1 js e))})
 |_=>none
def Yv(js:List (Int×Code))(pos:List Loc)(base:List Nat)(low:Nat)(os:OL β)(e:mc)(σ:jI):Option (β×(Bool×Unit)):=aqQ js pos base low os e σ σ.heap[0]?
def atU{pos:List Loc}{os:OL β}{e:mc}{sl:List AV}:aqQ js pos base low os e σ (some (.loop lk sl .busy 0))=
 lU (acD e=some (om lk.js (M1 js e))) (alY [.bool (om lk.js (M1 js e)).isNone] pos base low os (kP my kr) {σ with heap:=σ.heap.set 0 (.loop lk sl (stJ lk (M1 js e)) (M1 js e))}):=rfl
def aed {r:AV}(h:FE ⟨[x],σ.heap,σ.low,[]⟩ ⟨[r],H',σ.low,[]⟩):Xl σ x r H':=by
 intro C φ a w S v hv;obtain⟨φ',S'⟩:=h C φ {tmps:= #[v],defers:=[]} w {S with slots:=⟨v,[],rfl,hv,rfl⟩,defers:=qh.nil};obtain⟨v',_,e,hr,_⟩:=S'.slots;simp only[ey] at e;obtain⟨rfl,_⟩:=e;exact⟨φ',{S' with slots:=rfl,defers:=qh.nil},hr⟩
def ai5{pos:List Loc}{os:OL β}{e:mc}{r:β×(Bool×Unit)}(hbase:base=dR low)(h:Yv js pos base low os e σ=some r):
 am5 (fun o H'=>o= .ret (tA ((kP my kr).enc (os.lens r.1) r.2))/\H'=os.enc (os.lens r.1) r.1) e σ:=by
 unfold Yv aqQ at h;split at h
 ·rename_i lk sl hk;simp only[lv] at h;obtain⟨hj,h⟩:=h;have:=Yu hbase h;exact⟨_,lk,sl,hj,hk,_,_,aed (σ:={σ with heap:=σ.heap.set 0 (.loop lk sl (stJ lk (M1 js e)) (M1 js e))}) this.2,rfl,rfl⟩
 ·cases h
end Yv
section ayG
variable {k:List Kt}
def aqR{j:Int}:acF M k σ H' (some (.loop lk s (stJ lk j) j))=acE M k {σ with heap:=H'.set σ.heap.length .dead} (om lk.js j):=by
 rw[aih];exact acS
end ayG
def aqS{st:LoopState}{j:Int}:(jS.loop lk s st j).n9 τ= .loop lk (qu τ s) st j:=rfl
def aqT{st:LoopState}{j:Int}:lr (some (.loop lk s st j))=none:=rfl
def aqU:(∀xs,cellAt c (some (.cells xs))=xs[c]?)/\(∀lk xs st j,cellAt c (some (.loop lk xs st j))=xs[c]?):=⟨fun _=>rfl,fun _ _ _ _=>rfl⟩
def atV:acD .normal=some none/\acD .ret=some (some .ret)/\ ∀id,acD (.exit id)=some (some (.exit id)):=⟨rfl,rfl,fun _=>rfl⟩
def awJ:(∀k t,M1 ((k,.ret)::t) .ret=k)/\(∀k n t,M1 ((k,.exit n)::t) .ret=M1 t .ret)/\(∀k t m,M1 ((k,.ret)::t) (.exit m)=M1 t (.exit m))/\(∀k n t m,M1 ((k,.exit n)::t) (.exit m)=bif n==m then k else M1 t (.exit m))/\
 (∀js,M1 js .normal=0)/\(∀e,M1 [] e=0):=
 ⟨fun _ _=>rfl,fun _ _ _=>rfl,fun _ _ _=>rfl,fun _ _ _ _=>rfl,fun js=>by induction js with|nil=>rfl|cons x t ih=>obtain⟨k,c⟩:=x;cases c<;>exact ih,fun _=>rfl⟩
def avA(pos:List Loc)(os:OL β)(as:AL α)(os':OL β')(rs:AL α')(F:β->α->Option (β'×α'))(l:Nat)(args:List AV)(H:List jS):Option jS->Option (AV×List jS)
 |some (.loop k _ _ _)=>lU (args.length=k.ps.size) (acX [l] pos os as os' rs F args H)
 |_=>none
def awK{pos:List Loc}{os:OL β}{as:AL α}{os':OL β'}{rs:AL α'}:
 aqL pos os as os' rs F l args H=avA pos os as os' rs F l args H H[l]? :=rfl
def atW{pos:List Loc}{os:OL β}{as:AL α}{os':OL β'}{rs:AL α'}{k:u5}{st:LoopState}{j:Int}:
 avA pos os as os' rs F l args H (some (.loop k s st j))=lU (args.length=k.ps.size) (acX [l] pos os as os' rs F args H):=rfl
def acY:Code->Code
 | .rangeFunc _ _ a _=>a
 |_=> .skip
def al1:Code->Code
 | .rangeFunc _ _ _ b=>b
 |_=> .skip
attribute [go_sem] acY al1
def awL:List (List Nat×List (Int×Code))->List Nat->List (Int×Code)
 |[],_=>[]
 |(p',js)::t,p=>if p=p' then js else awL t p
def atX:(LoopState.ready=stJ lk 0)=True:=by simp [aqO]
def oLf(zs:List NZ)(H:List jS)(n:Nat):jS->Option jS
 | .loop lk s st j=>lU (st=stJ lk j) ((aa3 zs H n s).bind fun ds=>some (.loop lk ds (stJ lk j) j))
 |_=>none
def oL(zs:List NZ):ZO:=⟨oLf zs,fun H n x y h=>by
 unfold oLf at h;split at h
 ·simp only[lv,dK,dM] at h;obtain⟨rfl,ds,hd,rfl⟩:=h;exact .inr (.inr (.inr (.inr ⟨_,_,_,_,_,rfl,rfl,abT hd⟩)))
 ·cases h⟩
def aAd{st:LoopState}{j:Int}:(oL zs).f H n (.loop lk s st j)=lU (st=stJ lk j) ((aa3 zs H n s).bind fun ds=>some (.loop lk ds (stJ lk j) j)):=rfl
attribute [go_sem] atX aAd ayF awI awH atT Yv atU alY acX aqR aqS aqT aqU atV awJ awK atW ai3
def CM(p:Str×Bool):AV×AV:=(.str (sb p.1),.bool p.2)
def mz{α:Type}(s:Str):List (Str×α)->Option α
 |[]=>none
 |(k,v)::es=>bif s==k then some v else mz s es
def w7{α:Type}(s:Str)(v:α):List (Str×α)->List (Str×α)
 |[]=>[(s,v)]
 |(k,u)::es=>bif s==k then(k,v)::es else(k,u)::w7 s v es
theorem agA(a b:Str):(sb a==sb b)=(a==b):=by
 grind [MapKept.bytes_beq,Oj]
def acZ: ∀xs:List (Str×Bool),Js (xs.map CM)=true
 |[]=>rfl
 |_::xs=>acZ xs
theorem afo(xs:List (Str×Bool)):Js (mp CM xs)=true:=by rw[qF];exact acZ xs
theorem aaG(s:Str): ∀xs:List (Str×Bool),vm (sb s) (xs.map CM)=(mz s xs).map AV.bool
 |[]=>rfl
 |(k,v)::xs=>by
  show(bif sb s==sb k then some (AV.bool v) else vm (sb s) (xs.map CM))=_;rw[agA,aaG s xs]
  grind [mz]
theorem al2(s:Str)(xs:List (Str×Bool)):vm (sb s) (mp CM xs)=(mz s xs).map AV.bool:=by rw[qF];exact aaG s xs
theorem ac0(s:Str)(v:Bool): ∀xs:List (Str×Bool),Hy (sb s) (.bool v) (xs.map CM)=(w7 s v xs).map CM
 |[]=>rfl
 |(k,u)::xs=>by
  show(bif sb s==sb k then(AV.str (sb k),AV.bool v)::xs.map CM else(AV.str (sb k),AV.bool u)::Hy (sb s) (.bool v) (xs.map CM))=_;rw[agA,ac0 s v xs];simp only[w7];cases s==k<;>rfl
theorem aoE(s:Str)(v:Bool)(xs:List (Str×Bool)):Hy (sb s) (.bool v) (mp CM xs)=mp CM (w7 s v xs):=by grind [qF,ac0]
def ai6(o:Option Bool)(z:Bool):(o.map AV.bool).getD (.bool z)= .bool (o.getD z):=by cases o<;>rfl
def al3:jS.map []= .map (mp CM []):=by rw[qF];rfl
def al4{s:Str}:Vs z l (sb s) (some (.map (mp CM xs)))=some {val:=((mz s xs).map AV.bool).getD z,rd:=[l]}:=by
 grind [Vs,afo,al2]
def ai7{s:Str}{v:Bool}:yG l (sb s) (.bool v) (some (.map (mp CM xs)))=some {val:= .any,rd:=[l],up:=[(l,.map (mp CM (w7 s v xs)))]}:=by
 grind [yG,afo,aoE]
def Yw(n:Nat)(xs:List (Str×Bool)):pM n (.map (mp CM xs))=True:=by
 refine eq_true fun p hp=> ?_
 rw[qF,eL] at hp;obtain⟨q,_,rfl⟩:=hp;exact⟨trivial,trivial⟩
def aoF(ρ:Nat->Nat)(xs:List (Str×Bool)):(mp CM xs).map (fun p=>(AV.n9 ρ p.1,AV.n9 ρ p.2))=mp CM xs:=by
 rw[qF,eM];exact eg fun _ _=>rfl
def aoG(n:Nat)(xs:List (Str×Bool)):(∀p:AV×AV,p∈mp CM xs->AV.nb n p.1/\AV.nb n p.2)=True:=Yw n xs
attribute [go_sem high] aoF aoG
def ddB:AV×AV->Option (Str×Bool)
 |(.str s,.bool b)=>some (s.toList,b)
 |_=>none
theorem awM{p:AV×AV}{q:Str×Bool}(h:ddB p=some q):p=CM q:=by
 unfold ddB at h;split at h
 ·rename_i s b;simp only[dM] at h;subst h;simp only[CM,dO,AV.str.injEq,and_true];obtain⟨⟨l⟩⟩:=s;rw[ByteArray.toList_eq];rfl
 ·cases h
theorem afp: ∀{es:List (AV×AV)}{xs:List (Str×Bool)},pN ddB es=some xs->es=xs.map CM
 |[],xs,h=>by grind [pN]
 |p::es,xs,h=>by
  simp only[pN,dK,dM] at h;obtain⟨q,hq,ys,hys,rfl⟩:=h;rw[awM hq,afp hys];rfl
theorem aqV{es:List (AV×AV)}(h:pN ddB es=some xs):es=mp CM xs:=by rw[qF];exact afp h
theorem ani(τ:Nat->Nat)(xs:List (Str×Bool)):(jS.map (mp CM xs)).n9 τ= .map (mp CM xs):=by
 rw[qF];show jS.map ((xs.map CM).map _)=_;congr 1;rw[eM];exact eg fun p _=>by obtain⟨s,b⟩:=p;rfl
def daM:jS->Option (List (Str×Bool))
 | .map es=>pN ddB es
 |_=>none
def awN:daM (.map (mp CM xs))=some xs:=by
 show pN ddB (mp CM xs)=some xs;exact Ep (fun x=>by obtain⟨s,b⟩:=x;show some ((sb s).toList,b)=_;rw[Oj]) xs
theorem aqW{x:jS}(h:daM x=some xs):x= .map (mp CM xs):=by
 unfold daM at h
 grind [aqV]
def ogM:OG (List (Str×Bool)) where
 enc _ xs:= .map (mp CM xs)
 dec _ _ _:=daM
 len _:=0
 need:=0
 nb L g:=of_eq_true (Yw 0 g)
 ok ρ L H n x g _ h:=by
  rw[aqW h];rw[ani];exact .inr (.inl ⟨rfl,of_eq_true (Yw n g)⟩)
 acV ρ L H x g h:=by
  rw[aqW h];rfl
def ayH:(∀L g,ogM.enc L g= .map (mp CM g))/\(∀ρ L H x,ogM.dec ρ L H x=daM x)/\(∀g,ogM.len g=0)/\ogM.need=0:=⟨fun _ _=>rfl,fun _ _ _ _=>rfl,fun _=>rfl,rfl⟩
attribute [go_sem] al4 ai7 ai6 al3 awN ayH ani
attribute [go_sem high] Yw
def Tup(α:Type):Nat->Type
 |0=>Unit
 |n+1=>α×Tup α n
section EQ

def ac1(c:α->List AV):(n:Nat)->Tup α n->List AV
 |0,_=>[]
 |n+1,x=>c x.1++ac1 c n x.2
def ZT(d:List AV->Option α)(sz:Nat):(n:Nat)->List AV->Option (Tup α n)
 |0,cs=>if cs.isEmpty=true then some () else none
 |n+1,cs=>(d (cs.take sz)).bind fun x=>(ZT d sz n (cs.drop sz)).bind fun t=>some (x,t)
def avB{c:α->List AV}(h: ∀n x,uB n (c x))(k:Nat): ∀(n:Nat)(v:Tup α n),uB k (ac1 c n v)
 |0,_=>trivial
 |n+1,v=>HC (h k v.1) (avB h k n v.2)
def avC{c:SE α}{H:List jS}{m sz:Nat}: ∀{n:Nat}{cs:List AV}{v:Tup α n},ZT (c.dec H) sz n cs=some v->oe H m cs (ac1 c.enc n v)
 |0,cs,v,h=>by
  simp only[ZT] at h;split at h
  ·rename_i he;rw[List.isEmpty_iff] at he;subst he;exact oe.nil
  ·cases h
 |n+1,cs,v,h=>by
  simp only[ZT,dK] at h;obtain⟨x,hx,t,ht,he⟩:=h;obtain rfl:(x,t)=v:=Option.some.inj he;have:=oe.append (c.ok H m _ _ hx) (avC (c:=c) (m:=m) ht);rw[eJ] at this;exact this
def cA(c:SE α)(sz n:Nat):SE (Tup α n) where
 enc v:=ac1 c.enc n v
 dec H cs:=ZT (c.dec H) sz n cs
 ok H m cs v h:=avC h
 nb k v:=avB c.nb k n v
def aAe{c:SE α}{sz:Nat}:(∀v,(cA c sz n).enc v=ac1 c.enc n v)/\ ∀H cs,(cA c sz n).dec H cs=ZT (c.dec H) sz n cs:=⟨fun _=>rfl,fun _ _=>rfl⟩
end EQ
attribute [go_sem] aAe
def S9(xs:List Str):List AV:=[.lI false 1 (mp mA xs)]
def al5:List AV->Option (List Str)
 |[c]=>dL l6 [] c
 |_=>none
def aoH(n:Nat)(xs:List Str):LK n (mp mA xs):=vZ (r:=l6) xs
def ai8:Row (List Str) where
 enc:=S9
 dec:=al5
 sz:=1
 ok r x h:=by
  unfold al5 at h;split at h
  ·exact Bj.cons (Co1.oW (n:=0) (Of h)) Bj.nil
  ·cases h
 nb n x:=⟨aoH n x,trivial⟩
def atY:ai8.enc=S9/\ai8.dec=al5/\ai8.sz=1:=⟨rfl,rfl,rfl⟩
def aoI(x:List Str):al5 (S9 x)=some x:=by
 simp only[al5,S9,dL,FJ,ZN,beq_self_eq_true,Bool.true_or,ju,EX]
def atZ(xs:List (List Str)):pN al5 (mp S9 xs)=some xs:=Ep aoI xs
attribute [go_sem] S9 al5 atY atZ
section aAf
variable {a:Act}
def vwN(H:List jS):List AV->Option (List AV)
 |[]=>some []
 | .agg cs::r=>(vwL H cs).bind fun p=>(vwN H r).bind fun q=>some (.agg p.1::q)
 |c::r=>(vwL H [c]).bind fun p=>(vwN H r).bind fun q=>some (p.1++q)
def awO(l:Nat):AV->AV
 | .int k n=> .int k n
 | .bool b=> .bool b
 | .str s=> .str s
 | .lI _ _ _=> .acc l 0
 |_=> .any
def awP(l:Nat):AV->AV
 | .agg cs=> .agg (cs.map (awO l))
 |x=>awO l x
def num(l:Nat):AV->AV
 | .EQ cs=> .EQ (cs.map (awP l))
 |x=>awP l x
section
variable {E':Env}
end
end aAf
def aqX{x:Option R}:lU False x=none:=by simp [lU]
theorem anj{n:Nat}{r:List AV}: ∀{rows:List (List AV)}{i:Nat},LK n rows->LK n (rows.set i r)=(rows.length<=i\/uB n r)
 |[],_,_=>eq_true trivial|>.trans (eq_true (.inl (eo _))).symm
 |_::_,0,h=>by
  grind [LK]
 |_::rows,i+1,h=>by
  show(uB n _/\LK n (rows.set i r))=_;rw[anj (rows:=rows) (i:=i) h.2];exact propext ⟨fun q=>q.2.imp Nat.succ_le_succ id,fun q=>⟨h.1,q.imp Nat.le_of_succ_le_succ id⟩⟩
def al6 {S:Type}{p:Prop}{x:Option R}{f:R->Option S}:(lU p x).bind f=lU p (x.bind f):=by
 unfold lU;split<;>rfl
def aqY{xs:List α}{r:α}{n:Int}{f:α->Option β}:(tu (xs.set n.toNat r) n).bind f=bif decide (0<=n)&&decide (n.toNat<xs.length) then f r else none:=by
 grind [tu]
def at0{xs:List α}{r:α}{f:α->Option β}:((xs.set i r)[i]?).bind f=bif decide (i<xs.length) then f r else none:=by
 grind
def al7{e e':Ent}(h:MX P f (pU e))(h':MX P f (pU e')):MX P f (pU (agw e e')):=by
 intro args r he;unfold pU at he;obtain⟨hn,he⟩:=lv.1 he;rw[dK] at he;obtain⟨q,hq,he⟩:=he;unfold agw at hq;rw[eK] at hq;rcases hq with hq|⟨_,hq⟩
 ·exact h args r (lv.2 ⟨hn,by rw[hq];exact he⟩)
 ·exact h' args r (lv.2 ⟨hn,by rw[hq];exact he⟩)
def ai9(n:Nat)(xs:List Str)(i:Nat)(r:List AV):LK n ((mp mA xs).set i r)=(xs.length<=i\/uB n r):=by
 rw[anj (rows:=mp mA xs) (vZ (r:=l6) xs),Kx]
def aqZ(n:Int):Str:=(Utf8.encode n).data.toList
def aoJ(n:Int):Utf8.encode n=sb (aqZ n):=(agp _).symm
def agB{x y:Option α}{g:α->β}:(x.bind fun r=>some (g r)).or (y.bind fun r=>some (g r))=(x.or y).bind fun r=>some (g r):=by cases x<;>rfl
def at1(r:Row α):AV->Option (List α)
 | .lI true sz rows=>bif FJ sz r.sz rows then pN r.dec rows else none
 |_=>none
def aee {sz:Nat}(h:FJ sz k rows=true)(hs:PM rows tV):Sub (.lI true sz rows) (.lI true k tV):=by
 intro E v r;obtain⟨base,cap,h1,h2,_,h4,h5,h6⟩:=PV (t:=true) h hs E v r;obtain⟨base',cap',h1',_,h3',_⟩:=r;have e:=h1.symm.trans h1';simp only[Value.slice.injEq] at e;obtain⟨rfl,_,rfl⟩:=e;exact⟨base,cap,h1,h2,fun _=>by rw[h3' rfl,hs.1],h4,h5,h6⟩
def al8 (r:Row α):Ty (List α) where
 enc xs:= .lI true r.sz (mp r.enc xs)
 dec _:=at1 r
 ok H n v xs h:=by
  unfold at1 at h;split at h
  ·rename_i sz rows;cases hs:FJ sz r.sz rows with
   |false=>rw[hs] at h;cases h
   |true=>
    rw[hs,ju] at h;exact Co.sub (aee hs (HF h).1) (vZ xs)
  ·cases h
 nb _ xs:=vZ xs
def awQ:(∀xs,(al8 r).enc xs= .lI true r.sz (mp r.enc xs))/\ ∀H v,(al8 r).dec H v=at1 r v:=⟨fun _=>rfl,fun _ _=>rfl⟩
def al9{k:List Kt}:BX M p k σ (.goto l)=none:=rfl
attribute [go_sem] vwN num awO awP avN asr ae3 al6 or_true aqY at0 al9 ai9 aoJ agB awQ at1 Bool.not_true Bool.not_false aqX and_false false_and and_true true_and
theorem PZ(s:Str):(sb s).data.toList=s:=by simp [sb]
def ank {y:AV}{vs:Array Value}{u v:Value}(h:kf E [x,y] vs.toList)(hx: ∀w,nr E x w->w=u)(hy: ∀w,nr E y w->w=v):vs= #[u,v]:=by
 obtain⟨v0,us,hvs,r0,v1,us1,hus,r1,ZG⟩:=h;have aAP:us1=[]:=ZG
 grind
def avD(c:Int):UInt8:=c.toNat.toUInt8
def aef(he:enters P f=true)
 (h: ∀(s:ByteArray)(c:Int)(w:World),Calls P f #[.string s,.int .u8 c] w fun e w'=>e= .returned (.int .i64 (Lib.indexByte s.data.toList c.toNat.toUInt8))/\w'=w)
 (s:Str) (c:Int):GP P f [lP.enc s,(lO .u8).enc c] (fun v=>v=(lO .i64).enc (Lib.indexByte s (avD c))):=by
 refine⟨he,⟨lP.nb 0 _,(lO .u8).nb 0 _,trivial⟩,fun C φ w hP hw hN0 hM vs hr=> ?_⟩;obtain rfl:=ank hr (u:= .string (sb s)) (v:= .int .u8 c) (fun _ h=>h) (fun _ h=>h);have:=h (sb s) c w;rw[PZ] at this;refine this.mono ?_;rintro e w' ⟨rfl,rfl⟩;exact⟨_,_,φ,rfl,rfl,rfl,eb _,fun _ _=>rfl,fun _ _=>rfl,rfl,rfl⟩
def agC(he:enters P f=true)(hk:asp g 0)(hkv: ∀v,asq g 0 v-> ∃m,v= .int .i64 m)
 (h: ∀(s sub:ByteArray)(m:Int)(w:World),s.size<4294967281->w.cell? ⟨g,0,none⟩=some (.int .i64 m)->Calls P f #[.string s,.string sub] w fun e w'=>e= .returned (.bool (Lib.contains s.data.toList sub.data.toList))/\w'=w)
 (s sub:Str) (hs:s.length<4294967281):GP P f [lP.enc s,lP.enc sub] (fun v=>v=my.enc (Lib.contains s sub)):=by
 refine⟨he,⟨lP.nb 0 _,lP.nb 0 _,trivial⟩,fun C φ w hP hw hN0 hM vs hr=> ?_⟩;obtain rfl:=ank hr (u:= .string (sb s)) (v:= .string (sb sub)) (fun _ h=>h) (fun _ h=>h);obtain⟨v,hv,aq0,_⟩:=C.hk g 0 hk;obtain⟨m,rfl⟩:=hkv v aq0;rw[hw] at hv;have:=h (sb s) (sb sub) m w (by rw[Mm];exact hs) hv;rw[PZ,PZ] at this;refine this.mono ?_;rintro e w' ⟨rfl,rfl⟩;exact⟨_,_,φ,rfl,rfl,rfl,eb _,fun _ _=>rfl,fun _ _=>rfl,rfl,rfl⟩
def at3(he:enters P f=true)(hk:asp g 0)(hkv: ∀v,asq g 0 v-> ∃m,v= .int .i64 m)
 (h: ∀(s sep:ByteArray)(m:Int)(w:World),s.size<4294967281->w.cell? ⟨g,0,none⟩=some (.int .i64 m)->
   Calls P f #[.string s,.string sep] w fun e w'=>e= .returned (.tuple #[.string ⟨(Lib.cut s.data.toList sep.data.toList).1.toArray⟩,.string ⟨(Lib.cut s.data.toList sep.data.toList).2.1.toArray⟩,.bool (Lib.cut s.data.toList sep.data.toList).2.2])/\ ∃n,w'=w.drewN n)
 (s sep:Str) (hs:s.length<4294967281):GP P f [lP.enc s,lP.enc sep] (fun v=>v=(Yk lP lP my).enc (Lib.cut s sep)):=by
 refine⟨he,⟨lP.nb 0 _,lP.nb 0 _,trivial⟩,fun C φ w hP hw hN0 hM vs hr=> ?_⟩;obtain rfl:=ank hr (u:= .string (sb s)) (v:= .string (sb sep)) (fun _ h=>h) (fun _ h=>h);obtain⟨v,hv,aq0,_⟩:=C.hk g 0 hk;obtain⟨m,rfl⟩:=hkv v aq0;rw[hw] at hv;have:=h (sb s) (sb sep) m w (by rw[Mm];exact hs) hv;rw[PZ,PZ] at this;refine this.mono ?_;rintro e w' ⟨rfl,n,rfl⟩;exact⟨_,_,φ,rfl,rfl,⟨_,rfl,_,_,rfl,rfl,_,_,rfl,rfl,_,_,rfl,rfl,rfl⟩,eb _,fun _ _=>rfl,fun _ _=>rfl,rfl,rfl⟩
def agD{t:TypeId}(he:enters P f=true)
 (h: ∀(s chars:ByteArray)(w:World),2<=chars.size->8<s.size->s.size<4294967281->chars.size<4294967281->(∀(j:Nat) b,chars.data.toList[j]? =some b->b.toNat<128)->
   Calls P f #[.string s,.string chars] w fun e w'=>e= .returned (.int .i64 (Lib.indexAny s.data.toList chars.data.toList))/\ ∃c d,w'=(w.alloc (.cells c t)).alloc (.cells d t))
 (s chars:Str) (h2:2<=chars.length) (h8:8<s.length) (hs:s.length<4294967281) (hc:chars.length<4294967281) (ha: ∀b∈chars,b.toNat<128):
 GP P f [lP.enc s,lP.enc chars] (fun v=>v=(lO .i64).enc (Lib.indexAny s chars)):=by
 refine⟨he,⟨lP.nb 0 _,lP.nb 0 _,trivial⟩,fun C φ w hP hw hN0 hM vs hr=> ?_⟩;obtain rfl:=ank hr (u:= .string (sb s)) (v:= .string (sb chars)) (fun _ h=>h) (fun _ h=>h);have hz: ∀x:Str,(sb x).size=x.length:=Mm;have:=h (sb s) (sb chars) w (by rw[hz];exact h2) (by rw[hz];exact h8) (by rw[hz];exact hs) (by rw[hz];exact hc) (fun j b hb=>ha b (by grind [PZ]));rw[PZ,PZ] at this;refine this.mono ?_;rintro e w' ⟨rfl,c,d,rfl⟩;have awR: ∀(w:World)(o:Obj),w.alloc o=World.more w o:=fun _ _=>rfl
 simp only[awR];have ho: ∀(c:Array Value) c' t' lo hi,Obj.cells c t= .cells c' t' (lo,hi)->lo=0/\hi=0:=by grind
 refine⟨_,_,φ,rfl,rfl,rfl,by simp only[Kw];omega,fun b hb=> ?_,fun x hx=> ?_,rfl,rfl⟩
 ·grind [vT]
 ·rw[tg _ _ (ho d),tg _ _ (ho c)]
section marks
variable {F:Fence}
def ZU(RZ:σ.df=[]): ∀(ds:List Deferred)(w:World)(fr:Frame)(cs:List Frame),fr.mode= .returning->fr.defers=ds->F.fn fr.fn->F.room (cs.length+1+n)->lQ C φ σ {tmps:=fr.tmps,defers:=ds} w->
 ∃w',StepsIn (Machine.fenced C.P F) C.P (lone fr cs w) (lone {fr with defers:=[]} cs w')/\lQ C φ σ {tmps:=fr.tmps,defers:=[]} w'
 |[],w,fr,cs,hm,hd,hb,hr,S=>⟨w,by rw[show({fr with defers:=[]}:Frame)=fr by rw[<-hd]];exact StepsIn.refl _,S⟩
 |d::ds,w,fr,cs,hm,hd,hb,hr,S=>by
  have hmk:XR d=true:=by
   have:=S.defers.2.2;rw[RZ] at this;have ZG:(d::ds).filter (fun d=> !XR d)=[]:=this
   grind
  obtain⟨D,hD,_⟩:=S.defers.2.1 d (List.mem_cons_self) hmk;subst hD;obtain⟨h1,S'⟩:=S.Yd;have hrun:fr.mode≠ .run:=by rw[hm];simp
  have hstep:=step_collected (P:=C.P) (cs:=cs) hrun hd rfl (run_takeDeferred h1);have i1:(lone fr cs w).fenced C.P F:=fenced_out hb hr hrun hd (fun g hg=>by simp [Target.leads] at hg);obtain⟨w',hs,S2⟩:=ZU RZ ds (w.putObj D (.deferred none)) {fr with defers:=[]++ds} cs hm rfl hb hr S';exact⟨w',.head i1 hstep hs,S2⟩
end marks
def KP(C:o9)(fn:Func)(c₀:Frame)(cs:List Frame)(R:Ending->FrameMode->World->Prop):Exit->Act->List Frame->World->Prop
 | .normal,a,cs',w| .ret,a,cs',w=> ∃u',cs'={c₀ with mode:=u'}::cs/\ ∃φ σ,lQ C φ σ a w/\σ.df=[]/\
     ∀w',lQ C φ σ {tmps:=a.tmps,defers:=[]} w'-> ∃v,(results fn a.tmps).run C.P w'= .ok v w'/\R (.returned v) u' w'
 |_,_,_,_=>False
def Mo{F:Fence}{fn:Func}{c:Code}{args:Array Value}{R:Ending->FrameMode->World->Prop}
 (hf:C.P.funcs[f]? =some fn) (hb:fn.body=some c) (hF:F.fn f)
 (h: ∀(c₀:Frame)(cs:List Frame),c₀.mode=u->c.wpSIn F n C.P (KP C fn c₀ cs R) {tmps:=args++ec (fn.ntmps-args.size) undef,defers:=[]} (c₀::cs) w):
 CallsDIn F n C.P f args u w R:=by
 refine⟨hF,fun c₀ cs hu hroom=> ?_⟩
 let b:Frame:={(default:Frame) with fn:=f,kind:= .deferred,roundOf:=none}
 have awS:Frame.enter C.P f args .deferred=b.atR {tmps:=args++ec (fn.ntmps-args.size) undef,defers:=[]} [.code c]:=by
  grind [Frame.enter,Frame.atR]
 obtain⟨e,a',cs',w',hl,hq,ad5⟩:=h c₀ cs hu b [] rfl rfl hF hroom;rw[<-awS] at ad5;cases e with
 |normal=>
  obtain⟨u',rfl,φ,σ,S,RZ,hw⟩:=hq;obtain⟨w2,hs,S2⟩:=ZU (F:=F) (n:=n) RZ a'.defers w' {b.atR a' [] with mode:= .returning} ({c₀ with mode:=u'}::cs) rfl rfl hF hroom S;obtain⟨v,hr,hR⟩:=hw w2 S2;exact⟨.returned v,u',w2,_,hR,StepsIn.trans (StepsIn.trans ad5 (.one (fenced_calm (fr:=b.atR a' []) hF hroom rfl) (stepR_end rfl))) hs,rfl,rfl,rfl,rfl,fn,hf,hr⟩
 |ret=>
  obtain⟨u',rfl,φ,σ,S,RZ,hw⟩:=hq;obtain⟨todo,hs0⟩:=ad5.1 rfl;obtain⟨w2,hs,S2⟩:=ZU (F:=F) (n:=n) RZ a'.defers w' {b.atR a' todo with mode:= .returning} ({c₀ with mode:=u'}::cs) rfl rfl hF hroom S;obtain⟨v,hr,hR⟩:=hw w2 S2;exact⟨.returned v,u',w2,_,hR,StepsIn.trans hs0 hs,rfl,rfl,rfl,rfl,fn,hf,hr⟩
 |panic chain=>exact hq.elim
 |exit id=>exact hq.elim
 |goto l=>exact hq.elim
 |outgrown=>exact hq.elim
def P0(P:Program)(ops:Array Oper):List Oper->(jI->Prop)->jI->Prop
 |[],K,σ=>K σ
 |o::rest,K,σ=>n6 ops o σ=some true/\ ∃e,kI P σ o.op=some e/\e.pre/\P0 P ops rest K (σ.app o.dst e)
def M2{C:o9}{ops:Array Oper}{K:jI->Prop}{cs:List Frame}{Q:Exit->Act->List Frame->World->Prop}
 (hQ: ∀φ σ a w,lQ C φ σ a w->K σ->Q .normal a cs w): ∀(rest:List Oper)(k:Nat),ops.toList.drop k=rest-> ∀(φ:Nat->Value)(σ:jI)(a:Act)(w:World),
 P0 C.P ops rest K σ->lQ C φ σ a w->wpOpsSIn Fence.wide 0 C.P ops Q (eO k rest.length) a cs w
 |[],k,_,φ,σ,a,w,h,S=>hQ φ σ a w S h
 |o::rest,k,hk,φ,σ,a,w,h,S=>by
  have ho:ops[k]? =some o:=by
   have:=congrArg (fun l:List Oper=>l[0]?) hk;simpa using this
  have qD:ops.toList.drop (k+1)=rest:=by
   grind [List.tail_drop]
  obtain⟨hw,e,he,hp,hr⟩:=h;simp only[ed,List.range'_succ,wpOpsSIn,ho];refine⟨fun _ _=>trivial,?_⟩;rw[vO S hw,if_pos rfl];obtain⟨m,v,w',φ',hrun,hn,S'⟩:=Me S he hp;rw[hrun];rcases hn with rfl|⟨rfl,rfl⟩
  ·exact M2 hQ rest (k+1) qD φ' _ _ w' hr S'
  ·exact M2 hQ rest (k+1) qD φ' _ _ w' hr S'
def aaH(o:Oper):Bool:=match o.op with
 | .call {callee:= .builtin .recover,args,..}=>args.isEmpty&&o.guard.isNone
 |_=>false
def aja(P:Program)(rs:List ResultVar)(V:sv->List jS->Prop):mc->jI->Prop
 | .normal,σ=>σ.df=[]/\ZJ P rs V none σ
 | .ret,σ=>σ.df=[]/\ZJ P rs V none σ
 |_,_=>False
def WG{fn:Func}{id:Nat}{rest:List Oper}{u':FrameMode}{v:Value}{vs0:Array Value}
 (hf:C.P.funcs[f]? =some fn) (hb:fn.body=some (.seq (.region id ops false) y)) (aba:ops.toList=o::rest) (RY:aaH o=true)
 (ayI: ∀(c₀:Frame)(cs:List Frame),c₀.mode=u->recoverD (c₀::cs)=some (v,{c₀ with mode:=u'}::cs)\/(recoverD (c₀::cs)=none/\v= .nilIface/\u'=u)) (hn:fn.ntmps=n) (Oc:fn.results=rs.toArray) (hN0:C.N0=H.length) (HS:asL C φ H w) (hra:kf (C.env φ H w) args vs0.toList) (hrx:nr (C.env φ H w) x v)
 (h:P0 C.P ops rest (fun σ1=> ∃σ2,FE σ1 σ2/\awp C.P y (aja C.P rs V) σ2) (jI.put {slots:=args++dN (n-args.length) .any,heap:=H,low:=H.length} o.dst x)):
 CallsDIn Fence.wide 0 C.P f vs0 u w (fun e u2 w'=> ∃r,e= .returned r/\u2=u'/\ ∃o φ' H',V o H'/\lQ C φ' {slots:=[],heap:=H',low:=H.length} {tmps:= #[],defers:=[]} w'/\o.Vv (C.env φ' H' w') (.returned r)):=by
 have hsz:vs0.size=args.length:=by have:=hra.length;simpa using this
 have S:lQ C φ {slots:=args++dN (n-args.length) .any,heap:=H,low:=H.length} {tmps:=vs0++ec (fn.ntmps-vs0.size) undef,defers:=[]} w:=by
  refine {HS with slots:= ?_,defers:=qh.nil};simp only[ew,eH];refine hra.append ?_;rw[hsz,hn];have:=kf.Be (E:=C.env φ H w) (dN (n-args.length) undef);simpa using this
 have DL: ∀{φ':Nat->Value}{σ':jI}{a'':Act}{w'':World},lQ C φ' σ' a'' w''->σ'.low=H.length:=fun S'=>by rw[<-S'.low.1];exact hN0
 refine Mo hf hb trivial ?_;intro c₀ cs hu;refine wpSIn_seq (wpSIn_region ?_)
 have hsize:dR ops.size=0::eO 1 rest.length:=by
  grind [Array.length_toList,List.range_eq_range',List.range'_succ]
 have ho:ops[0]? =some o:=by
  have:ops.toList[0]? =some o:=by rw[aba];rfl
  simpa using this
 rw[hsize];simp only[wpOpsSIn,ho];refine⟨fun _ _=>trivial,?_⟩
 have hrun:(execOp (Act.eval {tmps:=vs0++ec (fn.ntmps-vs0.size) undef,defers:=[]}) o).run C.P w= .ok .recover w/\o.guard=none:=by
  unfold aaH at RY;split at RY
  all_goals simp_all [execOp,resolve,invoke,builtin]
 have hw:Region.wanted o (yielded ops (vs0++ec (fn.ntmps-vs0.size) undef))=true:=by
  unfold Region.wanted;rw[hrun.2]
 rw[hw,if_pos rfl,hrun.1];have S1:=S.put o.dst hrx
 have key:wpOpsSIn Fence.wide 0 C.P ops (Exit.thenS (y.wpSIn Fence.wide 0 C.P (KP C fn c₀ cs (fun e u2 w'=> ∃r,e= .returned r/\u2=u'/\ ∃o φ' H',V o H'/\lQ C φ' {slots:=[],heap:=H',low:=H.length} {tmps:= #[],defers:=[]} w'/\o.Vv (C.env φ' H' w') (.returned r))))
  (KP C fn c₀ cs (fun e u2 w'=> ∃r,e= .returned r/\u2=u'/\ ∃o φ' H',V o H'/\lQ C φ' {slots:=[],heap:=H',low:=H.length} {tmps:= #[],defers:=[]} w'/\o.Vv (C.env φ' H' w') (.returned r)))) (eO 1 rest.length)
  (Act.put {tmps:=vs0++ec (fn.ntmps-vs0.size) undef,defers:=[]} o.dst v) ({c₀ with mode:=u'}::cs) w:=by
  refine M2 (K:=fun σ1=> ∃σ2,FE σ1 σ2/\awp C.P y (aja C.P rs V) σ2) ?_ rest 1 (by rw[aba];rfl) φ _ _ w h S1;rintro φ1 σ1 a1 w1 S1 ⟨σ2,Dr,hy⟩;obtain⟨φ2,S2⟩:=Dr C φ1 a1 w1 S1;refine wpSIn_of_wpIn rfl (wpIn_mono (uE (ro:=none) y _ φ2 σ2 a1 w1 (.inl rfl) hy S2) ?_);intro e a' w' hq
  have fin: ∀φ' σ',lQ C φ' σ' a' w'->σ'.df=[]/\ZJ C.P rs V none σ'->KP C fn c₀ cs (fun e u2 w'=> ∃r,e= .returned r/\u2=u'/\ ∃o φ' H',V o H'/\lQ C φ' {slots:=[],heap:=H',low:=H.length} {tmps:= #[],defers:=[]} w'/\o.Vv (C.env φ' H' w') (.returned r)) .normal a' ({c₀ with mode:=u'}::cs) w':=by
   rintro φ' σ' S' ⟨RZ,xr,hx,r,H',hex,hV'⟩;refine⟨_,rfl,φ',σ',S',RZ,fun w'' S''=> ?_⟩;obtain⟨vv,hv,rv⟩:=IE (fn:=fn) S'' (by rw[Oc];exact hx);obtain⟨φ3,S3,hr3⟩:=hex C φ' _ w'' S'' vv rv;rw[DL S''] at S3;exact⟨vv,hv,vv,rfl,rfl,.ret r,φ3,H',hV',S3,hr3⟩
  cases e with
  |normal=>obtain⟨φ',σ',S',hq⟩:=hq;exact fin φ' σ' S' hq
  |ret=>obtain⟨φ',σ',S',hq⟩:=hq;exact fin φ' σ' S' hq
  |exit id=>obtain⟨_,_,_,hq⟩:=hq;exact hq.elim
  |goto l=>obtain⟨_,_,_,hq⟩:=hq;exact hq.elim
  |panic chain=>obtain⟨_,_,_,_,_,hq,_⟩:=hq;exact hq.elim
  |outgrown=>exact hq.elim
 rcases ayI c₀ cs hu with hm|⟨hm,hv,hu'⟩
 ·simp only[hm];exact key
 ·simp only[hm];subst hv hu';rw[show({c₀ with mode:=u'}:Frame)=c₀ by rw[<-hu]] at key;exact key
def abb{fn:Func}{id:Nat}{rest:List Oper}(hf:P.funcs[f]? =some fn)(hb:fn.body=some (.seq (.region id ops false) y))(aba:ops.toList=o::rest)(RY:aaH o=true)
 (hnb:uB H.length (args++[x])) (EB: ∀x∈H,pM H.length x) (hn:fn.ntmps=n) (Oc:fn.results=rs.toArray)
 (h:P0 P ops rest (fun σ1=> ∃σ2,FE σ1 σ2/\awp P y (aja P rs V) σ2) (jI.put {slots:=args++dN (n-args.length) .any,heap:=H,low:=H.length} o.dst x)):FnT P (ad7 P f) (args++[x]) H V:=by
 refine⟨hnb,EB,fun C φ w hP h0 hN0 hφ0 hM HS vs hr vs0 v hvs=> ?_⟩;subst hP;subst hvs
 have hr':kf (C.env φ H w) args vs0.toList/\nr (C.env φ H w) x v:=by
  rw[Array.toList_push] at hr
  have hl:vs0.toList.length=args.length:=by
   have:=hr.length;simp at this;simpa using this
  have h1:=hr.take args.length;have h2:=hr.drop args.length;rw[dW rfl,dW hl] at h1;rw[dX rfl,dX hl] at h2;obtain⟨u,us,he,r1,_⟩:=h2
  grind
 refine ua (WG (u':= .panicking [{v,recovered:=true}]) hf hb aba RY (fun c₀ cs hu=> .inl (by simp only[recoverD,hu])) hn Oc hN0 HS hr'.1 hr'.2 h) ?_;rintro e u' w' ⟨r,rfl,rfl,qD⟩;exact⟨r,rfl,.inl ⟨rfl,qD⟩⟩
def abc{fn:Func}{id:Nat}{rest:List Oper}(hf:P.funcs[f]? =some fn)(hb:fn.body=some (.seq (.region id ops false) y))(aba:ops.toList=o::rest)(RY:aaH o=true)
 (hnb:uB H.length args) (EB: ∀x∈H,pM H.length x) (hn:fn.ntmps=n) (Oc:fn.results=rs.toArray)
 (h:P0 P ops rest (fun σ1=> ∃σ2,FE σ1 σ2/\awp P y (aja P rs V) σ2) (jI.put {slots:=args++dN (n-args.length) .any,heap:=H,low:=H.length} o.dst (.raw .nilIface))):FnT P (ad6 P f) args H V:=by
 refine⟨hnb,EB,fun C φ w hP h0 hN0 hφ0 hM HS vs hr=> ?_⟩;subst hP;refine ua (WG (u':= .returning) (x:= .raw .nilIface) (v:= .nilIface) hf hb aba RY (fun c₀ cs hu=> .inr ⟨by simp only[recoverD,hu],rfl,rfl⟩) hn Oc hN0 HS hr rfl h) ?_;rintro e u' w' ⟨r,rfl,rfl,qD⟩;exact⟨r,rfl,rfl,qD⟩
section run

def aaI{ops:Array Oper}{K:jI->Prop}: ∀(rest:List Oper)(σ:jI)(e:mc)(σ':jI),rest.all (fun o=>acJ o.op&&(match o.op with| .call _=>false| .defer _=>false|_=>o.guard.isNone))=true->sj M ops rest σ=some (e,σ')->K σ'->P0 M.P ops rest K σ
 |[],σ,e,σ',_,h,hK=>by simp only[sj,dM,dO] at h;obtain⟨_,rfl⟩:=h;exact hK
 |o::rest,σ,e,σ',hc,h,hK=>by
  rw[List.all_cons,dY,dY] at hc;obtain⟨⟨h1,h2⟩,h3⟩:=hc
  have hg:o.guard=none:=by
   split at h2
   all_goals simp_all
  have hw:n6 ops o σ=some true:=by unfold n6;rw[hg]
  have hgs:sw ops o true σ=σ:=age hw;simp only[sj,hw,ju,hgs,SY h1,aiD h1] at h
  have hy:yieldOf σ o.op=none:=by
   unfold yieldOf
   grind
  have hd:CN σ o.op=none:=by
   unfold CN
   grind
  simp only[hy,hd] at h;cases he:kI M.P σ o.op with
  |none=>simp only[he] at h;cases h
  |some e'=>
   simp only[he] at h;rw[lv] at h;exact⟨hw,e',he,h.1,aaI rest _ e σ' h3 h.2 hK⟩
def VD(rest:List Oper):Bool:=rest.all fun o=>acJ o.op&&(match o.op with| .call _=>false| .defer _=>false|_=>o.guard.isNone)
def anl{id:Nat}{rest:List Oper}{Q:mc->jI->Prop}{r:R}(G:Good M)(hbody:M.body= .seq (.region id ops false) y)(ajb:VD rest=true)
 (hout: ∀σ,M.out σ=some r->Q .normal σ/\Q .ret σ) (h:run M [.ops ops rest,.cut [1],.at [1]] σ=some r) (hP: ∀x σ',M.nB x σ'=none:=by intros;rfl):P0 M.P ops rest (fun σ1=> ∃σ2,FE σ1 σ2/\awp M.P y Q σ2) σ:=by
 have h':fin M [.ops ops rest,.cut [1],.at [1]] .normal σ=some r:=h;rw[n5 (by simp)] at h';simp only[vX] at h';cases hx:sj M ops rest σ with
 |none=>simp only[hx] at h';cases h'
 |some q=>
  obtain⟨e,σ1⟩:=q
  have ayJ:e= .normal:=PU rest σ e σ1 (by
   grind [VD]) hx
  subst ayJ;simp only[hx] at h';refine aaI rest σ _ σ1 ajb hx ?_;rw[n5 (by simp)] at h';simp only[vX] at h';cases av4:M.cut [1] σ1 with
  |none=>grind
  |some σ2=>
   simp only[av4,Option.map_some] at h';refine⟨σ2,G.cut _ _ _ av4,?_⟩;have h1:sub [1] M.body=y:=by rw[hbody];rfl
   rw[n5 (by simp)] at h';simp only[vX,h1] at h';cases LM:exec M y [1] σ2 with
   |none=>simp only[LM] at h';cases h'
   |some q=>
    obtain⟨e2,σ3⟩:=q;simp only[LM] at h';refine vW G _ [1] _ _ e2 σ3 LM ?_;cases e2 with
    |normal=>exact(hout σ3 h').1
    |ret=>exact(hout σ3 h').2
    |panic x=>simp only[fin,hP] at h';cases h'
    |_=>simp only[fin] at h';cases h'
end run
inductive PR(α β:Type) where
 |ok (x:α)
 |pn (y:β)
def BQ(q:PR α β)(f:α->γ)(g:β->γ):γ:=match q with
 | .ok x=>f x
 | .pn y=>g y
def ama{x:α}{f:α->γ}{g:β->γ}:BQ (.ok x) f g=f x:=rfl
def awT{y:β}{f:α->γ}{g:β->γ}:BQ (.pn y) f g=g y:=rfl
abbrev abd:=List AV->List jS->Option (sv×List jS)
section aaJ
variable {ρ:Type}
def aaJ(pos:List Loc)(os:OL β)(as:AL α)(sz:Nat)(en:ρ->sv×List jS)(F:β->α->Option ρ):abd:=fun args H=>
 (aec args H pos []).bind fun ρ=>bif nodupB ρ&&(decide (os.need<=ρ.length)&&(decide (as.need<=ρ.length)&&decide (ρ.length<=sz))) then
   (pN (aaD H) ρ).bind fun xs=>(os.dec ρ (Yq xs) H xs).bind fun b=>(as.dec ρ (Yq xs) H args).bind fun a=>(F b a).bind fun q=>
     some ((en q).1.n9 (mJ ρ H.length),tv ρ H (en q).2) else none
def ajc(hT:SW T)(hz: ∀(φ φ':Nat->Value)(k k':Nat),T (φ k)=T (φ' k')){pos:List Loc}{os:OL β}{as:AL α}{sz:Nat}{en:ρ->sv×List jS}{F:β->α->Option ρ}(hsz: ∀q,sz<=(en q).2.length) {o:sv} (he:aaJ pos os as sz en F args σ.heap=some (o,H')):
 ∃b a q,F b a=some q/\(FnT P T (as.enc (os.lens b) a) (os.enc (os.lens b) b) (fun o H'=>o=(en q).1/\H'=(en q).2)->Mi P T 0 args σ (fun o' BC=>o'=o/\BC=H')):=by
 unfold aaJ at he;simp only[dK] at he;obtain⟨ρ,hρ,he⟩:=he;cases hc:(nodupB ρ&&(decide (os.need<=ρ.length)&&(decide (as.need<=ρ.length)&&decide (ρ.length<=sz)))) with
 |false=>simp [hc] at he
 |true=>
  simp only[hc,ju,dK,dM,dO] at he;obtain⟨xs,hxs,b,hb,a,ha,q,hq,rfl,rfl⟩:=he;refine⟨b,a,q,hq,fun hfn=> ?_⟩;simp only[dY,jA] at hc;obtain⟨hnd,n1,n2,n3⟩:=hc;obtain⟨h1,h2⟩:=Oi hxs
  have ai2: ∀m,m<=ρ.length->Cov ρ m σ.heap.length:=by
   intro m hm k hk;have hk':k<ρ.length:=by omega
   obtain⟨x,hx,hx'⟩:=h2 k _ (dQ hk')
   grind
  have hL:os.lens b=Yq xs:=funext fun k=>os.ZS ρ _ _ _ _ hb k
  obtain⟨h3,h4⟩:=os.ok ρ _ σ.heap σ.heap.length _ _ (ai2 _ n1) hb;have SQ: ∀l,l<ρ.length->ZR ρ l=mJ ρ σ.heap.length l:=fun l hl=>by unfold mJ ZR;rw[if_pos hl]
  rw[<-hL] at ha h4;refine aqK hT hfn (Kz hnd) (by rw[h1,h3,os.sz]) (eN n3 (hsz q)) (fun φ=>hz _ _ _ _) ?_ ?_
  ·intro i k hi;obtain⟨x,hx,hx'⟩:=h2 i k hi;have hlt:i<(os.enc (os.lens b) b).length:=by rw[os.sz,<-h3,<-h1];grind
   have hy:=dQ hlt;obtain⟨x2,LM,hcc⟩:=h4 i _ hy;rw[hx] at LM;cases LM;refine⟨x,_,hx',hy,?_⟩;rw[<-Yo (n:=os.need) (fun l hl=>SQ l (by omega)) _ (os.nb _ _ _ (ez hy))];exact hcc
  ·rw[<-Ae (n:=as.need) (fun l hl=>SQ l (by omega)) _ (as.nb _ _)];exact as.ok ρ _ σ.heap _ _ _ (ai2 _ n2) ha
end aaJ
section tB
variable {α2 β2:Type}
def pkO(pk:Bool)(x:AV):sv:=match pk with
 |true=> .panic x
 |false=> .ret x
def ayK:pkO true x= .panic x/\pkO false x= .ret x:=⟨rfl,rfl⟩
def at4{pk:Bool}:(pkO pk x).n9 τ=pkO pk (x.n9 τ):=by cases pk<;>rfl
def enP(pk:Bool)(sA:OL β1)(Bk:AL α1)(BZ:OL β2)(LL:AL α2)(q:PR (β1×α1) (β2×α2)):sv×List jS:=
 BQ q (fun r=>(.ret (tA (Bk.enc (sA.lens r.1) r.2)),sA.enc (sA.lens r.1) r.1)) (fun r=>(pkO pk (tA (LL.enc (BZ.lens r.1) r.2)),BZ.enc (BZ.lens r.1) r.1))
def awU{pk:Bool}{sA:OL β1}{Bk:AL α1}{BZ:OL β2}{LL:AL α2}(q:PR (β1×α1) (β2×α2)):min sA.size BZ.size<=(enP pk sA Bk BZ LL q).2.length:=by
 cases q with
 |ok r=>simp only[enP,BQ,sA.sz];exact Nat.min_le_left _ _
 |pn r=>simp only[enP,BQ,BZ.sz];exact Nat.min_le_right _ _
def tB(pk:Bool)(pos:List Loc)(os:OL β)(as:AL α)(sA:OL β1)(Bk:AL α1)(BZ:OL β2)(LL:AL α2)(F:β->α->Option (PR (β1×α1) (β2×α2))):abd:=fun args H=>
 (aec args H pos []).bind fun ρ=>bif nodupB ρ&&(decide (os.need<=ρ.length)&&(decide (as.need<=ρ.length)&&(decide (ρ.length<=sA.size)&&decide (ρ.length<=BZ.size)))) then
   (pN (aaD H) ρ).bind fun xs=>(os.dec ρ (Yq xs) H xs).bind fun b=>(as.dec ρ (Yq xs) H args).bind fun a=>(F b a).bind fun q=>
     BQ q (fun r=>some (.ret ((tA (Bk.enc (sA.lens r.1) r.2)).n9 (mJ ρ H.length)),tv ρ H (sA.enc (sA.lens r.1) r.1)))
      (fun r=>some (pkO pk ((tA (LL.enc (BZ.lens r.1) r.2)).n9 (mJ ρ H.length)),tv ρ H (BZ.enc (BZ.lens r.1) r.1))) else none
theorem aq1{pk:Bool}{pos:List Loc}{os:OL β}{as:AL α}{sA:OL β1}{Bk:AL α1}{BZ:OL β2}{LL:AL α2}{F:β->α->Option (PR (β1×α1) (β2×α2))}:
 tB pk pos os as sA Bk BZ LL F args H=aaJ pos os as (min sA.size BZ.size) (enP pk sA Bk BZ LL) F args H:=by
 unfold tB aaJ;congr 1;funext ρ
 have:decide (ρ.length<=min sA.size BZ.size)=(decide (ρ.length<=sA.size)&&decide (ρ.length<=BZ.size)):=by
  grind
 rw[this];congr 1;congr 1;funext xs;congr 1;funext b;congr 1;funext a;congr 1;funext q;cases q with
 |ok r=>rfl
 |pn r=>simp only[BQ,enP,at4]
def aq2(P:Program)(f:FuncId)(e:abd):Prop:= ∀args σ o H',e args σ.heap=some (o,H')->ya P f args σ (fun o' BC=>o'=o/\BC=H')
def FnP(P:Program)(f:FuncId)(args:List AV)(H:List jS)(x:sv×List jS):Prop:=FnG P f args H (fun o H'=>o=x.1/\H'=x.2)
def kw{pk:Bool}{pos:List Loc}{os:OL β}{as:AL α}{sA:OL β1}{Bk:AL α1}{BZ:OL β2}{LL:AL α2}{F:β->α->Option (PR (β1×α1) (β2×α2))}
 (h: ∀b a r,F b a=some r->FnP P f (as.enc (os.lens b) a) (os.enc (os.lens b) b) (enP pk sA Bk BZ LL r)):aq2 P f (tB pk pos os as sA Bk BZ LL F):=by
 intro args σ o H' he;rw[aq1] at he;obtain⟨b,a,q,hq,tW⟩:=ajc (P:=P) (T:=fun _ w vs R=>Calls P f vs w R) Xk (fun _ _ _ _=>rfl) awU he;exact⟨(h b a q hq).1,tW (h b a q hq).2⟩
def Yx: ∀(ρ:List Nat)(xs H:List jS),lu H (ρ.zip xs)=pT H ρ xs
 |[],_,_=>by simp [lu,pT]
 |_::_,[],_=>by simp [lu,pT]
 |l::ρ,x::xs,H=>by
  simp only[List.zip_cons_cons,lu,pT];exact Yx ρ xs _
def EY(pos:List Loc)(os:OL β)(as:AL α)(sA:OL β1)(Bk:AL α1)(BZ:OL β2)(LL:AL α2)(F:β->α->Option (PR (β1×α1) (β2×α2))):List AV->List jS->Option CO:=fun args H=>
 (aec args H pos []).bind fun ρ=>bif nodupB ρ&&(decide (os.need<=ρ.length)&&(decide (as.need<=ρ.length)&&(decide (ρ.length<=sA.size)&&decide (ρ.length<=BZ.size)))) then
   (pN (aaD H) ρ).bind fun xs=>(os.dec ρ (Yq xs) H xs).bind fun b=>(as.dec ρ (Yq xs) H args).bind fun a=>(F b a).bind fun q=>
     BQ q (fun r=>some (.ret {val:=(tA (Bk.enc (sA.lens r.1) r.2)).n9 (mJ ρ H.length),rd:=ρ,up:=ρ.zip ((sA.enc (sA.lens r.1) r.1).map (jS.n9 (mJ ρ H.length))),nw:=((sA.enc (sA.lens r.1) r.1).drop ρ.length).map (jS.n9 (mJ ρ H.length)),whole:=true}))
      (fun r=>some (.pan ((tA (LL.enc (BZ.lens r.1) r.2)).n9 (mJ ρ H.length)) (tv ρ H (BZ.enc (BZ.lens r.1) r.1)))) else none
def agE(P:Program)(f:FuncId)(e:List AV->List jS->Option CO):Prop:= ∀args (σ:jI),(∀ef,e args σ.heap=some (.ret ef)->IC P f args σ ef)/\ ∀x H',e args σ.heap=some (.pan x H')->acr P f args σ.heap x H'
def we{pos:List Loc}{os:OL β}{as:AL α}{sA:OL β1}{Bk:AL α1}{BZ:OL β2}{LL:AL α2}{F:β->α->Option (PR (β1×α1) (β2×α2))}
 (h: ∀b a r,F b a=some r->FnP P f (as.enc (os.lens b) a) (os.enc (os.lens b) b) (enP true sA Bk BZ LL r)):agE P f (EY pos os as sA Bk BZ LL F):=by
 have hP:=kw (pos:=pos) h;intro args σ
 have key: ∀c,EY pos os as sA Bk BZ LL F args σ.heap=some c-> ∃ρ,(∀l∈ρ,l<σ.heap.length)/\((∃ef,c= .ret ef/\(ef.rd=ρ/\ef.whole=true/\ ∀l∈ef.up.map (·.1),l∈ρ)/\tB true pos os as sA Bk BZ LL F args σ.heap=some (.ret ef.val,lu σ.heap ef.up++ef.nw))\/ ∃x H',c= .pan x H'/\tB true pos os as sA Bk BZ LL F args σ.heap=some (.panic x,H')):=by
  intro c he;unfold EY at he;simp only[dK] at he;obtain⟨ρ,hρ,he⟩:=he;cases hc:(nodupB ρ&&(decide (os.need<=ρ.length)&&(decide (as.need<=ρ.length)&&(decide (ρ.length<=sA.size)&&decide (ρ.length<=BZ.size))))) with
  |false=>simp [hc] at he
  |true=>
   simp only[hc,ju,dK] at he;obtain⟨xs,hxs,b,hb,a,ha,q,hq,he⟩:=he;refine⟨ρ,fun l hl=> ?_,?_⟩
   ·obtain⟨i,hi⟩:=eu hl;obtain⟨x,_,hx'⟩:=(Oi hxs).2 i l hi
    grind
   ·have hbase:tB true pos os as sA Bk BZ LL F args σ.heap=BQ q (fun r=>some (.ret ((tA (Bk.enc (sA.lens r.1) r.2)).n9 (mJ ρ σ.heap.length)),tv ρ σ.heap (sA.enc (sA.lens r.1) r.1)))
     (fun r=>some (.panic ((tA (LL.enc (BZ.lens r.1) r.2)).n9 (mJ ρ σ.heap.length)),tv ρ σ.heap (BZ.enc (BZ.lens r.1) r.1))):=by
     simp_all [tB,pkO]
    cases q with
    |ok r=>
     simp only[BQ,dM] at he;subst he;left;refine⟨_,rfl,⟨rfl,rfl,fun l hl=> ?_⟩,?_⟩
     ·simp only[eL] at hl;obtain⟨p,hp,rfl⟩:=hl;exact(List.of_mem_zip hp).1
     ·rw[hbase];simp only[BQ,Yx];rfl
    |pn r=>
     grind [BQ]
 refine⟨fun ef he=> ?_,fun x H' he=> ?_⟩
 ·obtain⟨ρ,hlt,⟨ef',hc,⟨h1,h2,h3⟩,hx⟩|⟨_,_,hc,_⟩⟩:=key _ he
  ·simp only[CO.ret.injEq] at hc;subst hc;refine⟨⟨by rw[h1];exact hlt,by rw[h1];exact h3⟩,fun σ' _ _ hw=> ?_⟩;have hh:=hw h2;have:=hP args σ' (.ret ef.val) (lu σ.heap ef.up++ef.nw) (by rw[hh];exact hx);rw[hh];exact this
  ·cases hc
 ·obtain⟨ρ,hlt,⟨ef',hc,_⟩|⟨x',H2,hc,hx⟩⟩:=key _ he
  ·cases hc
  ·simp only[CO.pan.injEq] at hc;obtain⟨rfl,rfl⟩:=hc;intro σ' hh;exact hP args σ' (.panic x) H' (by rw[hh];exact hx)
end tB
def wP:List (Nat×abd)->FuncId->abd
 |[],_,_,_=>none
 |(g,e)::t,f,args,H=>if f=g then e args H else wP t f args H
def kR: ∀f args (σ:jI) o H',wP [] f args σ.heap=some (o,H')->ya P f args σ (fun o' BC=>o'=o/\BC=H'):=by
 intro f args σ r H' h;cases h
def jX{e:abd}{t:List (Nat×abd)}(h1:aq2 P g e)(h2: ∀f args (σ:jI) o H',wP t f args σ.heap=some (o,H')->ya P f args σ (fun o' BC=>o'=o/\BC=H')):
 ∀f args (σ:jI) o H',wP ((g,e)::t) f args σ.heap=some (o,H')->ya P f args σ (fun o' BC=>o'=o/\BC=H'):=by
 intro f args σ r H' h;simp only[wP] at h;split at h
 ·rename_i hg;subst hg;exact h1 _ _ _ _ h
 ·exact h2 _ _ _ _ _ h
def LO:List (Nat×(List AV->List jS->Option CO))->FuncId->List AV->List jS->Option CO
 |[],_,_,_=>none
 |(g,e)::t,f,args,H=>if f=g then e args H else LO t f args H
def rJ: ∀f args (σ:jI),(∀e,LO [] f args σ.heap=some (.ret e)->IC P f args σ e)/\ ∀x H',LO [] f args σ.heap=some (.pan x H')->acr P f args σ.heap x H':=by
 intro f args σ;exact⟨fun e h=>(by cases h),fun x H' h=>(by cases h)⟩
def mi{e:List AV->List jS->Option CO}{t:List (Nat×(List AV->List jS->Option CO))}(h1:agE P g e)(h2: ∀f args (σ:jI),(∀e,LO t f args σ.heap=some (.ret e)->IC P f args σ e)/\ ∀x H',LO t f args σ.heap=some (.pan x H')->acr P f args σ.heap x H'):
 ∀f args (σ:jI),(∀ef,LO ((g,e)::t) f args σ.heap=some (.ret ef)->IC P f args σ ef)/\ ∀x H',LO ((g,e)::t) f args σ.heap=some (.pan x H')->acr P f args σ.heap x H':=by
 intro f args σ;simp only[LO];by_cases hg:f=g
 ·subst hg;simp only[jD];exact h1 args σ
 grind
abbrev M3:=FuncId->List AV->List jS->Option (sv×List jS)
variable {cr:M3}
section unw

def R0(cr cp:M3)(en:Option AV->jI->Option R):List (FuncId×List AV)->Option AV->jI->Option R
 |[],m,σ=>en m σ
 |(f,args)::ds,none,σ=>(cr f args σ.heap).bind fun q=>match q with
  |(.ret _,H')=>R0 cr cp en ds none {σ with heap:=H',df:=ds}
  |(.panic _,_)=>none
 |(f,args)::ds,some x,σ=>(cp f (args++[x]) σ.heap).bind fun q=>match q with
  |(.ret _,H')=>R0 cr cp en ds none {σ with heap:=H',df:=ds}
  |(.panic x',H')=>R0 cr cp en ds (some x') {σ with heap:=H',df:=ds}
theorem ajd {cp:M3}{en:Option AV->jI->Option R}{m:Option AV}:R0 cr cp en [] m σ=en m σ:=by cases m<;>rfl
def ayL(cr cp:M3)(en:Option AV->jI->Option R)(ds:List (FuncId×List AV))(σ:jI):sv×List jS->Option R
 |(.ret _,H')=>R0 cr cp en ds none {σ with heap:=H',df:=ds}
 |(.panic x',H')=>R0 cr cp en ds (some x') {σ with heap:=H',df:=ds}
def ayM(cr cp:M3)(en:Option AV->jI->Option R)(ds:List (FuncId×List AV))(σ:jI):sv×List jS->Option R
 |(.ret _,H')=>R0 cr cp en ds none {σ with heap:=H',df:=ds}
 |(.panic x',H')=>none
def aq3 {cp:M3}{en:Option AV->jI->Option R}:R0 cr cp en ((f,args)::ds) none σ=(cr f args σ.heap).bind (ayM cr cp en ds σ):=by
 simp only[R0];congr 1
def aq4 {cp:M3}{en:Option AV->jI->Option R}:R0 cr cp en ((f,args)::ds) (some x) σ=(cp f (args++[x]) σ.heap).bind (ayL cr cp en ds σ):=by
 simp only[R0];congr 1
def QOK(P:Program)(T:FuncId->Value->World->Array Value->(Ending->World->Prop)->Prop)(c:M3):Prop:= ∀f args (σ:jI) o H',c f args σ.heap=some (o,H')->enters P f=true/\Mi P (T f) 0 args σ (fun o' BC=>o'=o/\BC=H')
def Mi.mono(hT:SW T){K K':sv->List jS->Prop}(h:Mi P T l args σ K)(hk: ∀o H,K o H->K' o H):Mi P T l args σ K':=by
 intro C φ a w hP S vs hr;refine hT.mono _ _ _ _ _ ?_ (h C φ a w hP S vs hr)
 grind
def P1{P:Program}{cr cp:M3}{en:Option AV->jI->Option R}{fin:Option AV->jI->Prop}{r:R}(hr:QOK P (ad6 P) cr)(hp:QOK P (ad7 P) cp)(he: ∀m σ,σ.df=[]->en m σ=some r->fin m σ):
 ∀(ds:List (FuncId×List AV))(m:Option AV)(σ:jI),σ.df=ds->R0 cr cp en ds m σ=some r->Yh P fin ds m σ
 |[],m,σ,hd,h=>by rw[ajd] at h;exact he m σ hd h
 |(f,args)::ds,none,σ,hd,h=>by
  simp only[R0,dK] at h;obtain⟨⟨o,H'⟩,hc,h⟩:=h;obtain⟨h1,h2⟩:=hr f args {σ with df:=ds} o H' hc;refine⟨h1,h2.mono ZH ?_⟩;rintro o' BC ⟨rfl,rfl⟩;cases o' with
  |ret x=>exact P1 hr hp he ds none _ rfl h
  |panic x=>cases h
 |(f,args)::ds,some x,σ,hd,h=>by
  simp only[R0,dK] at h;obtain⟨⟨o,H'⟩,hc,h⟩:=h;obtain⟨h1,h2⟩:=hp f (args++[x]) {σ with df:=ds} o H' hc;refine⟨h1,h2.mono ZI ?_⟩;rintro o' BC ⟨rfl,rfl⟩;cases o' with
  |ret x=>exact P1 hr hp he ds none _ rfl h
  |panic x=>exact P1 hr hp he ds (some x) _ rfl h
def KQ:List (Nat×abd)->M3
 |[],_,_,_=>none
 |(g,e)::t,f,args,H=>if f=g then e args H else KQ t f args H
def IK{T:FuncId->Value->World->Array Value->(Ending->World->Prop)->Prop}:QOK P T (KQ []):=by
 intro f args σ o H' h;cases h
def FM{T:FuncId->Value->World->Array Value->(Ending->World->Prop)->Prop}{e:abd}{t:List (Nat×abd)}(h1: ∀args (σ:jI) o H',e args σ.heap=some (o,H')->enters P g=true/\Mi P (T g) 0 args σ (fun o' BC=>o'=o/\BC=H'))(h2:QOK P T (KQ t)):QOK P T (KQ ((g,e)::t)):=by
 intro f args σ o H' h;simp only[KQ] at h;split at h
 ·grind
 ·exact h2 _ _ _ _ _ h
def enR(sA:OL β1)(Bk:AL α1)(r:β1×α1):sv×List jS:=(.ret (tA (Bk.enc (sA.lens r.1) r.2)),sA.enc (sA.lens r.1) r.1)
def GU(pos:List Loc)(os:OL β)(as:AL α)(sA:OL β1)(Bk:AL α1)(F:β->α->Option (β1×α1)):abd:=aaJ pos os as sA.size (enR sA Bk) F
def Ol(hT:SW T)(hz: ∀(φ φ':Nat->Value)(k k':Nat),T (φ k)=T (φ' k'))(hen:enters P f=true){pos:List Loc}{os:OL β}{as:AL α}{sA:OL β1}{Bk:AL α1}{F:β->α->Option (β1×α1)}
 (h: ∀b a r,F b a=some r->FnT P T (as.enc (os.lens b) a) (os.enc (os.lens b) b) (fun o H'=>o=(enR sA Bk r).1/\H'=(enR sA Bk r).2)): ∀args (σ:jI) o H',GU pos os as sA Bk F args σ.heap=some (o,H')->enters P f=true/\Mi P T 0 args σ (fun o' BC=>o'=o/\BC=H'):=by
 intro args σ o H' he;obtain⟨b,a,q,hq,tW⟩:=ajc (P:=P) (T:=T) hT hz (fun q=>by simp only[enR,sA.sz];exact eb _) he;exact⟨hen,tW (h b a q hq)⟩
end unw
section steps
variable {k:List Kt} {q:PR α β}
def aoK{rest:List Oper}{f:α->Option (sv×List jS)}{g:β->Option (sv×List jS)}:Mj M ops dst rest k σ (BQ q f g)=BQ q (fun x=>Mj M ops dst rest k σ (f x)) (fun y=>Mj M ops dst rest k σ (g y)):=by cases q<;>rfl
def amb{rest:List Oper}{f:α->Option CO}{g:β->Option CO}:Jv M p dst rest j tr k σ (BQ q f g)=BQ q (fun x=>Jv M p dst rest j tr k σ (f x)) (fun y=>Jv M p dst rest j tr k σ (g y)):=by cases q<;>rfl
end steps
attribute [go_sem] ayK ama awT aoK amb tB EY GU aaJ enR wP LO KQ ajd aq3 aq4 ayL ayM List.zip_cons_cons List.zip_nil_left sv.n9
section ends
variable {α2 β2:Type}
def pd(P:Program)(rs:List ResultVar)(pos:List Loc)(base:List Nat)(low:Nat)(os:OL β1)(s:AL α1)(σ:jI):Option (PR (β1×α1) (β2×α2)):=(Ds P rs pos base low os s σ).map .ok
def pe(pos:List Loc)(base:List Nat)(low:Nat)(os:OL β2)(s:AL α2)(x:AV)(σ:jI):Option (PR (β1×α1) (β2×α2)):=(alY [x] pos base low os s σ).map .pn
attribute [go_sem] pd pe
theorem afq{y:AV}:tA [y]=y:=rfl
def at5{fn:Func}{r:PR (β1×α1) (β2×α2)}{M:kD (PR (β1×α1) (β2×α2))}{sA:OL β1}{Bk:AL α1}{BZ:OL β2}{LL:AL α2}{p2:List Loc}{b2:List Nat}(G:Good M)(hf:M.P.funcs[f]? =some fn)(hb:fn.body=some M.body)(hne:(fn.name != "runtime.NumGoroutine")=true)
 (hnb:uB H.length args) (EB: ∀x∈H,pM H.length x) (hn:fn.ntmps=n) (Oc:fn.results=rs.toArray) (XO:b1=dR low) (hb2:b2=dR low) (hone: ∀b a,∃y,LL.enc (BZ.lens b) a=[y])
 (ho:M.out=pd M.P rs p1 b1 low sA Bk) (hq:M.nB=pe p2 b2 low BZ LL)
 (h:run M [.at []] {slots:=args++dN (n-args.length) .any,heap:=H,low:=H.length}=some r):FnP M.P f args H (enP true sA Bk BZ LL r):=by
 refine Yn G hf hb hne hnb EB hn Oc (fun σ hs=> ?_) (fun x σ hs=> ?_) h
 ·rw[ho] at hs;unfold pd at hs;rw[dU] at hs;obtain⟨q,hq,rfl⟩:=hs;obtain⟨hd,xs,hx,Dr⟩:=Mn XO hq;rw[hd];exact IJ hx Dr
 ·rw[hq] at hs;unfold pe at hs;rw[dU] at hs;obtain⟨q,hq,rfl⟩:=hs;obtain⟨hd,Dr⟩:=Yu hb2 hq;rw[hd];obtain⟨y,hy⟩:=hone q.1 q.2;rw[hy] at Dr;have:=aiK (P:=M.P) (rs:=rs) Dr.e;simp only[enP,BQ,hy,afq,pkO];exact this
def ac2(P:Program)(rs:List ResultVar)(p1:List Loc)(base:List Nat)(low:Nat)(sA:OL β1)(s1:AL α1)(p2:List Loc)(BZ:OL β2)(s2:AL α2)(σ:jI):Option (PR (β1×α1) (β2×α2)):=
 ((Ds P rs p1 base low sA s1 σ).map .ok).or ((Ds P rs p2 base low BZ s2 σ).map .pn)
attribute [go_sem] ac2
def at6{fn:Func}{r:PR (β1×α1) (β2×α2)}{M:kD (PR (β1×α1) (β2×α2))}{sA:OL β1}{Bk:AL α1}{BZ:OL β2}{LL:AL α2}{p2:List Loc}(G:Good M)(hf:M.P.funcs[f]? =some fn)(hb:fn.body=some M.body)(hne:(fn.name != "runtime.NumGoroutine")=true)
 (hnb:uB H.length args) (EB: ∀x∈H,pM H.length x) (hn:fn.ntmps=n) (Oc:fn.results=rs.toArray) (XO:b1=dR low) (ho:M.out=ac2 M.P rs p1 b1 low sA Bk p2 BZ LL)
 (h:run M [.at []] {slots:=args++dN (n-args.length) .any,heap:=H,low:=H.length}=some r) (hP: ∀x σ',M.nB x σ'=none:=by intros;rfl):FnP M.P f args H (enP false sA Bk BZ LL r):=by
 refine Yn G hf hb hne hnb EB hn Oc (fun σ hs=> ?_) (fun x σ hs=>by rw[hP x σ] at hs;cases hs) h;rw[ho] at hs;unfold ac2 at hs;rw[eK] at hs;rcases hs with hs|⟨_,hs⟩
 ·rw[dU] at hs;obtain⟨q,hq,rfl⟩:=hs;obtain⟨hd,xs,hx,Dr⟩:=Mn XO hq;rw[hd];exact IJ hx Dr
 ·rw[dU] at hs;obtain⟨q,hq,rfl⟩:=hs;obtain⟨hd,xs,hx,Dr⟩:=Mn XO hq;rw[hd];exact IJ hx Dr
def enC{ρ:Type}(P:Program)(rs:List ResultVar)(t:Ty ρ):Option AV->jI->Option ρ
 |none,σ=>nE P rs t σ
 |some _,_=>none
def ayN{ρ:Type}{t:Ty ρ}:enC P rs t none σ=nE P rs t σ/\ ∀x,enC P rs t (some x) σ=none:=⟨rfl,fun _=>rfl⟩
def at7{ρ:Type}(cr cp:M3)(P:Program)(rs:List ResultVar)(t:Ty ρ)(σ:jI):Option ρ:=R0 cr cp (enC P rs t) σ.df none σ
def anm{ρ:Type}(cr cp:M3)(P:Program)(rs:List ResultVar)(t:Ty ρ)(x:AV)(σ:jI):Option ρ:=R0 cr cp (enC P rs t) σ.df (some x) σ
attribute [go_sem] ayN at7 anm
def aje{ρ:Type}{M:kD ρ}{fn:Func}{r:ρ}{t:Ty ρ}{cp:M3}(G:Good M)(hcr:QOK M.P (ad6 M.P) cr)(hcp:QOK M.P (ad7 M.P) cp)(hf:M.P.funcs[f]? =some fn)(hb:fn.body=some M.body)(hne:(fn.name != "runtime.NumGoroutine")=true)(hnb:uB 0 args)
 (hn:fn.ntmps=n) (Oc:fn.results=rs.toArray) (ho:M.out=at7 cr cp M.P rs t) (hq:M.nB=anm cr cp M.P rs t)
 (h:run M [.at []] {slots:=args++dN (n-args.length) .any,heap:=[]}=some r):GP M.P f args (fun v=>v=t.enc r):=by
 have hend: ∀m σ,σ.df=[]->enC M.P rs t m σ=some r->aoc M.P rs (fun v=>v=t.enc r) m σ:=by
  intro m σ _ he;cases m with
  |none=>exact(Yl he).2
  |some x=>cases he
 refine agi hf hb hne hnb ?_;rw[Oc,hn];refine PT G h (fun σ hs=> ?_) (fun x σ hs=> ?_)
 ·rw[ho] at hs;have:=P1 hcr hcp hend σ.df none σ rfl hs;exact⟨this,this⟩
 ·rw[hq] at hs;exact P1 hcr hcp hend σ.df (some x) σ rfl hs
theorem ajf{M:kD (β1×α1)}{fn:Func}{id:Nat}{rest:List Oper}{r:β1×α1}{sA:OL β1}{Bk:AL α1}(G:Good M)
 (hf:M.P.funcs[f]? =some fn) (hb:fn.body=some M.body) (hbody:M.body= .seq (.region id ops false) y) (aba:ops.toList=o::rest) (RY:aaH o=true) (ajb:VD rest=true)
 (hnb:uB H.length (args++[x])) (EB: ∀x∈H,pM H.length x) (hn:fn.ntmps=n) (Oc:fn.results=rs.toArray) (XO:b1=dR low) (ho:M.out=Ds M.P rs p1 b1 low sA Bk)
 (h:run M [.ops ops rest,.cut [1],.at [1]] (jI.put {slots:=args++dN (n-args.length) .any,heap:=H,low:=H.length} o.dst x)=some r) (hP: ∀x σ',M.nB x σ'=none:=by intros;rfl):
 FnT M.P (ad7 M.P f) (args++[x]) H (fun o H'=>o=(enR sA Bk r).1/\H'=(enR sA Bk r).2):=by
 refine abb hf (by rw[hb,hbody]) aba RY hnb EB hn Oc (anl G hbody ajb (fun σ hs=> ?_) h hP);rw[ho] at hs;obtain⟨hd,xs,hx,Dr⟩:=Mn XO hs;have:=IJ hx Dr;exact⟨⟨hd,this⟩,hd,this⟩
theorem ajg{M:kD (β1×α1)}{fn:Func}{id:Nat}{rest:List Oper}{r:β1×α1}{sA:OL β1}{Bk:AL α1}(G:Good M)
 (hf:M.P.funcs[f]? =some fn) (hb:fn.body=some M.body) (hbody:M.body= .seq (.region id ops false) y) (aba:ops.toList=o::rest) (RY:aaH o=true) (ajb:VD rest=true)
 (hnb:uB H.length args) (EB: ∀x∈H,pM H.length x) (hn:fn.ntmps=n) (Oc:fn.results=rs.toArray) (XO:b1=dR low) (ho:M.out=Ds M.P rs p1 b1 low sA Bk)
 (h:run M [.ops ops rest,.cut [1],.at [1]] (jI.put {slots:=args++dN (n-args.length) .any,heap:=H,low:=H.length} o.dst (.raw .nilIface))=some r) (hP: ∀x σ',M.nB x σ'=none:=by intros;rfl):
 FnT M.P (ad6 M.P f) args H (fun o H'=>o=(enR sA Bk r).1/\H'=(enR sA Bk r).2):=by
 refine abc hf (by rw[hb,hbody]) aba RY hnb EB hn Oc (anl G hbody ajb (fun σ hs=> ?_) h hP);rw[ho] at hs;obtain⟨hd,xs,hx,Dr⟩:=Mn XO hs;have:=IJ hx Dr;exact⟨⟨hd,this⟩,hd,this⟩
end ends
def dIf(t:TypeId)(a:Ty α):AV->Option α
 | .iface t' v=>if t'=t then a.dec [] v else none
 |_=>none
def aoL{t:TypeId}{y:AV}(h:Sub x y):Sub (.iface t x) (.iface t y):=by
 rintro E v ⟨u,hu,r⟩;exact⟨u,hu,h _ _ r⟩
def M4(t:TypeId)(a:Ty α):Ty α where
 enc x:= .iface t (a.enc x)
 dec _:=dIf t a
 ok H n v x h:=by
  unfold dIf at h;split at h
  ·split at h
   ·rename_i ht;subst ht;exact Co.sub (aoL (a.ok [] n _ _ h).oW) (a.nb n x)
   ·cases h
  ·cases h
 nb n x:=a.nb n x
def awV{t:TypeId}{a:Ty α}:(∀x,(M4 t a).enc x= .iface t (a.enc x))/\(∀H v,(M4 t a).dec H v=dIf t a v)/\ ∀v,dIf t a (.iface t v)=a.dec [] v:=⟨fun _=>rfl,fun _ _=>rfl,fun _=>by simp [dIf]⟩
def dE0:AV->Option Unit
 | .agg []=>some ()
 |_=>none
def TT:Ty Unit where
 enc _:= .agg []
 dec _:=dE0
 ok H n v x h:=by
  unfold dE0 at h;split at h
  ·exact Co.same trivial
  ·cases h
 nb n x:=trivial
def awW:(∀x,TT.enc x= .agg [])/\(∀H v,TT.dec H v=dE0 v)/\dE0 (.agg [])=some ():=⟨fun _=>rfl,fun _ _=>rfl,rfl⟩
attribute [go_sem] awV awW
def JR(t:Ty α)(p:Str×α):AV×AV:=(.str (sb p.1),t.enc p.2)
section
variable {t:Ty α}
theorem TU: ∀xs:List (Str×α),Js (xs.map (JR t))=true
 |[]=>rfl
 |_::xs=>TU xs
theorem Yy(s:Str): ∀xs:List (Str×α),vm (sb s) (xs.map (JR t))=(mz s xs).map t.enc
 |[]=>rfl
 |(k,v)::xs=>by
  show(bif sb s==sb k then some (t.enc v) else vm (sb s) (xs.map (JR t)))=_;rw[agA,Yy s xs]
  grind [mz]
theorem aaK(s:Str)(v:α): ∀xs:List (Str×α),Hy (sb s) (t.enc v) (xs.map (JR t))=(w7 s v xs).map (JR t)
 |[]=>rfl
 |(k,u)::xs=>by
  show(bif sb s==sb k then(AV.str (sb k),t.enc v)::xs.map (JR t) else(AV.str (sb k),t.enc u)::Hy (sb s) (t.enc v) (xs.map (JR t)))=_;rw[agA,aaK s v xs];simp only[w7];cases s==k<;>rfl
def oel(o:Option α)(a:γ)(f:α->γ):γ:=match o with
 |none=>a
 |some x=>f x
def aq5{a:γ}{f:α->γ}:oel none a f=a:=rfl
def aq6{x:α}{a:γ}{f:α->γ}:oel (some x) a f=f x:=rfl
def aq7{s:Str}{xs:List (Str×α)}:Zu z l (sb s) (some (.map (mp (JR t) xs)))=oel (mz s xs) (some {val:= .EQ [z,.bool false],rd:=[l]}) (fun x=>some {val:= .EQ [t.enc x,.bool true],rd:=[l]}):=by
 rw[qF];simp only[Zu,TU,jD,Yy];cases mz s xs<;>rfl
def aua{s:Str}{v:α}{xs:List (Str×α)}:yG l (sb s) (t.enc v) (some (.map (mp (JR t) xs)))=some {val:= .any,rd:=[l],up:=[(l,.map (mp (JR t) (w7 s v xs)))]}:=by
 grind [qF,yG,TU,aaK]
def abV(n:Nat)(xs:List (Str×α)):pM n (.map (mp (JR t) xs))=True:=by
 refine eq_true fun p hp=> ?_
 rw[qF,eL] at hp;obtain⟨q,_,rfl⟩:=hp;exact⟨trivial,t.nb n q.2⟩
def ajh(ρ:Nat->Nat)(xs:List (Str×α)):(mp (JR t) xs).map (fun p=>(AV.n9 ρ p.1,AV.n9 ρ p.2))=mp (JR t) xs:=by
 rw[qF,eM];refine eg fun q _=> ?_
 show(AV.n9 ρ (.str (sb q.1)),AV.n9 ρ (t.enc q.2))=(.str (sb q.1),t.enc q.2);rw[HD ρ _ (t.nb 0 q.2)];rfl
theorem aji(τ:Nat->Nat)(xs:List (Str×α)):(jS.map (mp (JR t) xs)).n9 τ= .map (mp (JR t) xs):=by
 show jS.map ((mp (JR t) xs).map _)=_;congr 1;exact ajh τ xs
def Xu(t:Ty α)(x:jS):Option (List (Str×α)):= @dite _ (∃xs,x= .map (mp (JR t) xs)) (Classical.propDecidable _) (fun h=>some h.choose) (fun _=>none)
theorem agF{x:jS}{xs:List (Str×α)}(h:Xu t x=some xs):x= .map (mp (JR t) xs):=by
 unfold Xu at h;split at h
 all_goals grind
end
section inj
variable {t:Ty α} (hinj:∀x y,t.enc x=t.enc y->x=y)
include hinj
theorem ann: ∀xs ys:List (Str×α),xs.map (JR t)=ys.map (JR t)->xs=ys
 |[],[],_=>rfl
 |[],_::_,h=>by simp at h
 |_::_,[],h=>by simp at h
 |(s,x)::xs,(s',y)::ys,h=>by
  simp only[List.map_cons,ey] at h;obtain⟨h1,h2⟩:=h;simp only[JR,dO,AV.str.injEq] at h1
  have e1:s=s':=by
   grind [Oj]
  rw[e1,hinj _ _ h1.2,ann xs ys h2]
theorem ano(xs:List (Str×α)):Xu t (.map (mp (JR t) xs))=some xs:=by
 have hh: ∃ys,(jS.map (mp (JR t) xs))= .map (mp (JR t) ys):=⟨xs,rfl⟩
 grind [Xu,qF,ann]
theorem aoM:Xu t (.map (mp CM []))=some []:=by
 have:=ano hinj [];rw[qF] at this ⊢;exact this
def aq8:(∀xs,Xu t (.map (mp (JR t) xs))=some xs)/\Xu t (.map [])=some []/\Xu t (.map (mp CM []))=some []:=by
 grind [ano,aoM,qF]
end inj
section og

def aeg(t:Ty α):OG (List (Str×α)) where
 enc _ xs:= .map (mp (JR t) xs)
 dec _ _ _:=Xu t
 len _:=0
 need:=0
 nb L g:=of_eq_true (abV 0 g)
 ok ρ L H n x g _ h:=by
  rw[agF h];rw[aji];exact .inr (.inl ⟨rfl,of_eq_true (abV n g)⟩)
 acV ρ L H x g h:=by
  rw[agF h];rfl
def awX{t:Ty α}:(∀L g,(aeg t).enc L g= .map (mp (JR t) g))/\(∀ρ L H x,(aeg t).dec ρ L H x=Xu t x)/\(∀g,(aeg t).len g=0)/\(aeg t).need=0:=⟨fun _ _=>rfl,fun _ _ _ _=>rfl,fun _=>rfl,rfl⟩
def oM(t:Ty α):ZO:=⟨fun _ _ x=>(Xu t x).bind fun xs=>some (.map (mp (JR t) xs)),fun H n x y h=>by
 simp only[dK,dM] at h;obtain⟨xs,hx,rfl⟩:=h;rw[agF hx];exact .inr (.inl ⟨rfl,of_eq_true (abV n xs)⟩)⟩
def aAg{t:Ty α}{x:jS}:(oM t).f H n x=(Xu t x).bind fun xs=>some (.map (mp (JR t) xs)):=rfl
end og
def aq9{pos:List Loc}{os:OL β}{as:AL α}{sA:OL β1}{Bk:AL α1}{F:β->α->Option (β1×α1)}
 (h: ∀b a r,F b a=some r->FnG P f (as.enc (os.lens b) a) (os.enc (os.lens b) b) (fun o H'=>o= .ret (tA (Bk.enc (sA.lens r.1) r.2))/\H'=sA.enc (sA.lens r.1) r.1)):
 agE P f (EY pos os as sA Bk sA Bk (fun b a=>(F b a).map fun r=>(PR.ok r:PR (β1×α1) (β1×α1)))):=by
 refine we (fun b a r hr=> ?_);rw[dU] at hr;obtain⟨r',hr,rfl⟩:=hr;exact h b a r' hr
def aub(v:AV)(s:AL δ)(ρ:List Nat)(L:BO)(H:List jS):List AV->Option δ
 |x::xs=>lU (x=v) (s.dec ρ L H xs)
 |_=>none
def alK(v:AV)(hv:v.nb 0)(s:AL δ):AL δ where
 enc L g:=v::s.enc L g
 dec:=aub v s
 need:=s.need
 nb L g:=⟨AV.aar (eo _) v hv,s.nb L g⟩
 ok ρ L H n vs g hc h:=by
  unfold aub at h;split at h
  ·rw[lv] at h;obtain⟨rfl,h⟩:=h;refine BB.cons ?_ (s.ok ρ L H n _ _ hc h);rw[HD _ _ hv];exact Co.same (AV.aar (eo _) _ hv)
  ·cases h
def ayO{hv:v.nb 0}{s:AL δ}:(∀L g,(alK v hv s).enc L g=v::s.enc L g)/\(∀ρ L H xs,(alK v hv s).dec ρ L H xs=aub v s ρ L H xs)/\(alK v hv s).need=s.need:=⟨fun _ _=>rfl,fun _ _ _ _=>rfl,rfl⟩
attribute [go_sem] ayO aub
section steps
variable {k:List Kt} {o:Option α}
def aoN{rest:List Oper}{a:Option tL}{f:α->Option tL}:qj M ops dst rest k σ (oel o a f)=oel o (qj M ops dst rest k σ a) (fun x=>qj M ops dst rest k σ (f x)):=by cases o<;>rfl
def amc{rest:List Oper}{a:Option tL}{f:α->Option tL}:vY M p dst rest j tr k σ (oel o a f)=oel o (vY M p dst rest j tr k σ a) (fun x=>vY M p dst rest j tr k σ (f x)):=by cases o<;>rfl
end steps
attribute [go_sem] aAg aq5 aq6 aq7 awX aji aoN amc af2
attribute [go_sem high] abV ajh
def auc(d:Nat):Code->Bool
 | .seq (.region _ ops false) _=>match ops.toList with
   |o::rest=>aaH o&&(o.dst==some d)&&VD rest
   |[]=>false
 |_=>false
def afr{c:Code}(h:auc d c=true): ∃id ops y o rest,c= .seq (.region id ops false) y/\ops.toList=o::rest/\aaH o=true/\o.dst=some d/\VD rest=true:=by
 unfold auc at h
 grind
section awY

def Yz{M:kD (β1×α1)}{fn:Func}{r:β1×α1}{sA:OL β1}{Bk:AL α1}(G:Good M)
 (hf:M.P.funcs[f]? =some fn) (hb:fn.body=some M.body) (RY:auc d M.body=true)
 (hnb:uB H.length (args++[x])) (EB: ∀x∈H,pM H.length x) (hn:fn.ntmps=n) (Oc:fn.results=rs.toArray) (XO:b1=dR low) (ho:M.out=Ds M.P rs p1 b1 low sA Bk)
 (h:run M [.ops (qv M [0]) ((qv M [0]).toList.drop 1),.cut [1],.at [1]] (jI.put {slots:=args++dN (n-args.length) .any,heap:=H,low:=H.length} (some d) x)=some r) (hP: ∀x σ',M.nB x σ'=none:=by intros;rfl):
 FnT M.P (ad7 M.P f) (args++[x]) H (fun o H'=>o=(enR sA Bk r).1/\H'=(enR sA Bk r).2):=by
 obtain⟨id,ops,y,o,rest,hbody,aba,h1,h2,h3⟩:=afr RY;have e:qv M [0]=ops:=by unfold qv;rw[hbody];rfl
 grind [ajf]
def YA{M:kD (β1×α1)}{fn:Func}{r:β1×α1}{sA:OL β1}{Bk:AL α1}(G:Good M)
 (hf:M.P.funcs[f]? =some fn) (hb:fn.body=some M.body) (RY:auc d M.body=true)
 (hnb:uB H.length args) (EB: ∀x∈H,pM H.length x) (hn:fn.ntmps=n) (Oc:fn.results=rs.toArray) (XO:b1=dR low) (ho:M.out=Ds M.P rs p1 b1 low sA Bk)
 (h:run M [.ops (qv M [0]) ((qv M [0]).toList.drop 1),.cut [1],.at [1]] (jI.put {slots:=args++dN (n-args.length) .any,heap:=H,low:=H.length} (some d) (.raw .nilIface))=some r) (hP: ∀x σ',M.nB x σ'=none:=by intros;rfl):
 FnT M.P (ad6 M.P f) args H (fun o H'=>o=(enR sA Bk r).1/\H'=(enR sA Bk r).2):=by
 obtain⟨id,ops,y,o,rest,hbody,aba,h1,h2,h3⟩:=afr RY;have e:qv M [0]=ops:=by unfold qv;rw[hbody];rfl
 grind [ajg]
end awY
section
variable {a:Act}

def amd(P:Program)(rs:List ResultVar)(j:Nat)(r:Row γ)(s:DP (List γ×Unit) α)(σ:jI):Option ((List γ×Unit)×α):=
 bif σ.df.isEmpty then(w6 P σ rs).bind fun xs=>ara (BY j r.sz false ⟨xs,σ.heap,0,[]⟩) j r s σ.low else none
where
 ara (τ:jI) (j:Nat) (r:Row γ) (s:DP (List γ×Unit) α) (low:Nat):Option ((List γ×Unit)×α):=
  match τ.slots[j]? with
  |some (.acc l _)=>match τ.heap[l]? with
   |some y=>lU (low=0/\pM 0 y/\uB 1 (qu (PQ 0 l) τ.slots)) (((uF (oaT false r) tz).dec [y] [y]).bind fun b=>(s.dec b [y] (qu (PQ 0 l) τ.slots)).bind fun a=>bif decide (s.need<=1) then some (b,a) else none)
   |none=>none
  |_=>none
def VE{r:Row γ}{s:DP (List γ×Unit) α}{q:(List γ×Unit)×α}(h:amd P rs j r s σ=some q):
 σ.df=[]/\ ∃xs,w6 P σ rs=some xs/\Xr ⟨xs,σ.heap,σ.low,[]⟩ ⟨s.enc q.1 q.2,(uF (oaT false r) tz).enc q.1,σ.low,[]⟩:=by
 unfold amd at h;cases hd0:σ.df with
 |cons p q=>rw[hd0] at h;cases h
 |nil=>
 rw[hd0] at h;simp only[ep,ju] at h;simp only[dK] at h;obtain⟨xs,hx,h⟩:=h;refine⟨rfl,xs,hx,?_⟩;unfold amd.ara at h;split at h
 case h_2=>cases h
 rename_i l m hs;split at h
 case h_2=>cases h
 rename_i y hl;rw[lv] at h;obtain⟨⟨DL,h1,h2⟩,h⟩:=h;simp only[dK] at h;obtain⟨b,hb,a,ha,h⟩:=h;cases hd:decide (s.need<=1) with
 |false=>simp [hd] at h
 |true=>
  simp only[hd,ju,dM] at h;subst h;rw[DL];have i1:FE ⟨xs,σ.heap,0,[]⟩ (BY j r.sz false ⟨xs,σ.heap,0,[]⟩):=acO;have ayg:(BY j r.sz false ⟨xs,σ.heap,0,[]⟩).low=0:=by unfold BY;split<;>rfl
  have aAc:(BY j r.sz false ⟨xs,σ.heap,0,[]⟩).df=[]:=by unfold BY;split<;>rfl
  generalize hτ:BY j r.sz false ⟨xs,σ.heap,0,[]⟩=τ at*;have i2:Xr ⟨τ.slots,τ.heap,0,[]⟩ ⟨qu (PQ 0 l) τ.slots,τ.heap.take 0++[y],0,[]⟩:=S8 hl (eo _) (by simp) h1 h2;have e:τ=⟨τ.slots,τ.heap,0,[]⟩:=by cases τ;grind
  rw[e] at i1;refine(i1.e.trans i2).trans ?_;simp only[eI,eG];obtain⟨h5,h6⟩:=(uF (oaT false r) tz).ok [y] 1 _ _ hb;refine FE.e (acm.imp (σ:=⟨qu (PQ 0 l) τ.slots,[y],0,[]⟩) (σ':=⟨s.enc b a,(uF (oaT false r) tz).enc b,0,[]⟩) ⟨⟨⟨rfl,eo _⟩,rfl,SR⟩,?_,?_⟩)
  ·show BB [y] ((uF (oaT false r) tz).enc b).length _ _;rw[h6];exact s.ok b [y] 1 _ a (jy hd) ha
  grind
end
section open_
variable {k:List Kt}
def ame{rest:List Oper}{rd:List Nat}{up:List (Nat×jS)}{nw:List jS}{pr:Prop}:
 vY M p dst rest j tr k σ (some {val:=x,rd,up,nw,pre:=pr,whole:=true})=lU pr (lU (PS M p tr j {val:=x,rd,up,nw,pre:=pr,whole:=true}) (run M (.LN p rest (j+1) (HE tr j σ.heap.length {val:=x,rd,up,nw,pre:=pr,whole:=true})::k) {σ.put dst x with heap:=lu σ.heap up++nw})):=by
 rw[<-Vy];rfl
def arb(M:kD R)(p:List Nat)(c:Nat)(o:Oper)(rest:List Oper)(j:Nat)(σ:jI):Option tL->Prop
 |some e=>(e.pre/\e.up=[]/\e.nw=[])/\SX M p c rest (j+1) (σ.put o.dst e.val)
 |none=>False
def ajj(M:kD R)(p:List Nat)(c:Nat)(o:Oper)(rest:List Oper)(j:Nat)(σ:jI):Option (FuncId×List AV)->Prop
 |some _=>False
 |none=>arb M p c o rest j σ (PB M.P σ o.op)
def anp(M:kD R)(p:List Nat)(c:Nat)(o:Oper)(rest:List Oper)(j:Nat)(σ:jI):Option Bool->Prop
 |none=>False
 |some false=>SX M p c rest (j+1) (σ.put o.dst (.raw undef))
 |some true=>ajj M p c o rest j σ (lR σ o.op)
def amf{rest:List Oper}{e:tL}:arb M p c o rest j σ (some e)=((e.pre/\e.up=[]/\e.nw=[])/\SX M p c rest (j+1) (σ.put o.dst e.val)):=rfl
def amg{rest:List Oper}:ajj M p c o rest j σ none=arb M p c o rest j σ (PB M.P σ o.op):=rfl
def amh{rest:List Oper}:anp M p c o rest j σ (some true)=ajj M p c o rest j σ (lR σ o.op):=rfl
def ajk{rest:List Oper}:anp M p c o rest j σ (some false)=SX M p c rest (j+1) (σ.put o.dst (.raw undef)):=rfl
def ami{rest:List Oper}(h:GR M p c j=false):SX M p c (o::rest) j σ=anp M p c o rest j σ (n6 (qv M p) o σ):=by
 unfold GR at h;show Oa M.P (qv M p) c (o::rest) j σ=_;simp only[Oa,h];cases hw:n6 (qv M p) o σ with
 |none=>rfl
 |some b=>
  cases b with
  |false=>rfl
  |true=>
   simp only[anp];cases hc:lR σ o.op with
   |some q=>simp [ajj]
   |none=>
    simp only[true_and,ajj,<-q6];cases kI M.P σ o.op with
    |none=>rfl
    |some e=>rfl
end open_
attribute [go_sem] ame amf amg amh ajk ami alr amd amd.ara
section

def ajl{r:Row α}{vs:List Value}(h:kf E ((l5 r).enc []::ys) vs): ∃base c,kf E (.raw (.slice base 0 c)::ys) vs:=by
 obtain⟨u,us,e,⟨base,cap,hu,_⟩,h2⟩:=h;have hl:(mp r.enc ([]:List α)).length=0:=Kx _ _;rw[hl] at hu;exact⟨base,cap,u,us,e,hu,h2⟩
def arc{r:Row α}{V:AV->Prop}(h: ∀base c,GP P f (.raw (.slice base 0 c)::ys) V):GP P f ((l5 r).enc []::ys) V:=by
 obtain⟨h1,h2,h3⟩:=h none 0;refine⟨h1,⟨(l5 r).nb 0 _,h2.2⟩,fun C φ w a b c d vs hv=> ?_⟩;obtain⟨base,cap,hr⟩:=ajl hv;exact(h base cap).2.2 C φ w a b c d vs hr
def ac3{r:Row α}(h: ∀base c,FnG P f (.raw (.slice base 0 c)::ys) [] V):FnG P f ((l5 r).enc []::ys) [] V:=by
 obtain⟨h1,h2,h2',h3⟩:=h none 0;refine⟨h1,⟨(l5 r).nb 0 _,h2.2⟩,h2',fun C φ w a b c d e e2 vs hv=> ?_⟩;obtain⟨base,cap,hr⟩:=ajl hv;exact(h base cap).2.2.2 C φ w a b c d e e2 vs hr
def cellsOf_nil:cellsOf (.agg [])=some []:=rfl
def amj:tM [] 0 []=[]:=rfl
def ayP:(∀l o v,(AV.ptr l o=AV.raw v)=False)/\(∀l o v,(AV.raw v=AV.ptr l o)=False)/\((AV.bool true=AV.bool false)=False)/\((AV.bool false=AV.bool true)=False):=by simp
def anq:(AV.bool b).nb 0:=trivial
def ayQ{v:Value}:(AV.raw v).nb 0:=trivial
end
attribute [go_sem] ep cellsOf_nil amj ayP
def ol(P:Program)(f:Func)(n:Nat)(out:jI->Option R)(cl:FuncId->List AV->List jS->Option (AV×List jS):=nk [])(cd:FuncId->List AV->Option AV:=KO [])
 (sx:List Nat->jI->Option jI:=qk []) (cut:List Nat->jI->Option jI:=Xq []) (wL:FuncId->Bool:=lV []) (cp:FuncId->List AV->List jS->Option (sv×List jS):=fun _ _ _=>none)
 (nB:AV->jI->Option R:=fun _ _=>none) (yb:FuncId->Bool:=fun _=>false) (co:FuncId->List AV->List jS->Option CO:=fun _ _ _=>none) (yd:FuncId->Bool:=fun _=>false)
 (ce:FuncId->List AV->List jS->Option tL:=fun _ _ _=>none) (js:List Nat->List (Int×Code):=fun _=>[]) (cy:Nat->List AV->List jS->Option (AV×List jS):=fun _ _ _=>none):kD R:=
 {P:=P,body:=f.body.getD .skip,cl:=cl,cd:=cd,sx:=sx,cut:=cut,n:=n,out:=out,wL:=wL,cp:=cp,nB:=nB,yb:=yb,co:=co,yd:=yd,ce:=ce,js:=js,cy:=cy}
section
variable {f:Func} {out:jI->Option R} {cl:FuncId->List AV->List jS->Option (AV×List jS)} {cd:FuncId->List AV->Option AV} {sx:List Nat->jI->Option jI} {cut:List Nat->jI->Option jI} {wL:FuncId->Bool} {cp:FuncId->List AV->List jS->Option (sv×List jS)}
 {nB:AV->jI->Option R} {yb:FuncId->Bool} {co:FuncId->List AV->List jS->Option CO} {yd:FuncId->Bool} {ce:FuncId->List AV->List jS->Option tL} {js:List Nat->List (Int×Code)} {cy:Nat->List AV->List jS->Option (AV×List jS)}
def ayR:(ol P f n out cl cd sx cut wL cp nB yb co yd ce js cy).P=P/\(ol P f n out cl cd sx cut wL cp nB yb co yd ce js cy).body=f.body.getD .skip/\(ol P f n out cl cd sx cut wL cp nB yb co yd ce js cy).n=n/\
 (ol P f n out cl cd sx cut wL cp nB yb co yd ce js cy).out=out/\(ol P f n out cl cd sx cut wL cp nB yb co yd ce js cy).cl=cl/\(ol P f n out cl cd sx cut wL cp nB yb co yd ce js cy).cd=cd/\
 (ol P f n out cl cd sx cut wL cp nB yb co yd ce js cy).sx=sx/\(ol P f n out cl cd sx cut wL cp nB yb co yd ce js cy).cut=cut/\(ol P f n out cl cd sx cut wL cp nB yb co yd ce js cy).wL=wL/\
 (ol P f n out cl cd sx cut wL cp nB yb co yd ce js cy).cp=cp/\(ol P f n out cl cd sx cut wL cp nB yb co yd ce js cy).nB=nB/\(ol P f n out cl cd sx cut wL cp nB yb co yd ce js cy).yb=yb/\
 (ol P f n out cl cd sx cut wL cp nB yb co yd ce js cy).co=co/\(ol P f n out cl cd sx cut wL cp nB yb co yd ce js cy).yd=yd/\(ol P f n out cl cd sx cut wL cp nB yb co yd ce js cy).ce=ce/\
 (ol P f n out cl cd sx cut wL cp nB yb co yd ce js cy).js=js/\(ol P f n out cl cd sx cut wL cp nB yb co yd ce js cy).cy=cy:=⟨rfl,rfl,rfl,rfl,rfl,rfl,rfl,rfl,rfl,rfl,rfl,rfl,rfl,rfl,rfl,rfl,rfl⟩
end
@[reducible] def xI(args:List AV)(n:Nat)(H:List jS:=[]):jI:={slots:=args++dN (n-args.length) .any,heap:=H,low:=H.length}
class Fu(α:Type) where z:α
instance {α:Type}:Fu (Option α):=⟨none⟩
instance {α β:Type}[Fu β]:Fu (α->β):=⟨fun _=>Fu.z⟩
def fu[Fu α](F:Nat->α):Nat->α
 |0=>Fu.z
 |n+1=>F n
def kq[Fu α]{F:Nat->α}:fu F (n+1)=F n:=rfl
def w8{α:Type}[Fu α](F:α->α):Nat->α
 |0=>Fu.z
 |m+1=>F (w8 F m)
def lpM{α:Type}[Fu α](F:Nat->α->α):Nat->α
 |0=>Fu.z
 |m+1=>F m (lpM F m)
def sE{α:Type}[Fu α]{F:α->α}{G:Nat->α->Prop}(h0:G 0 Fu.z)(hs: ∀m X,G m X->G (m+1) (F X)): ∀m,G m (w8 F m)
 |0=>h0
 |m+1=>hs m _ (sE h0 hs m)
def ard{α:Type}[Fu α]{F:Nat->α->α}{G:Nat->α->Prop}(h0:G 0 Fu.z)(hs: ∀m X,G m X->G (m+1) (F m X)): ∀m,G m (lpM F m)
 |0=>h0
 |m+1=>hs m _ (ard h0 hs m)
@[reducible] def mq(l:List AV):List AV:= .any:: .any:: .any:: .any::l
@[reducible] def mo(l:List AV):List AV:= .any:: .any:: .any:: .any:: .any:: .any:: .any:: .any:: .any:: .any:: .any:: .any:: .any:: .any:: .any:: .any::l
@[reducible] def Bl(l:List AV):List AV:=mo (mo (mo (mo l)))
@[reducible] def l7(l:List NZ):List NZ:=zA::zA::zA::zA::l
@[reducible] def me(l:List NZ):List NZ:=l7 (l7 (l7 (l7 l)))
@[reducible] def Bm(l:List NZ):List NZ:=me (me (me (me l)))
def gd{f:Func}{out:jI->Option R}{cl:FuncId->List AV->List jS->Option (AV×List jS)}{cd:FuncId->List AV->Option AV}{nl:List (List Nat×wX)}{cu:List (List Nat×List Nat)}{wL:FuncId->Bool}{cp:FuncId->List AV->List jS->Option (sv×List jS)}
 {nB:AV->jI->Option R} {yb:FuncId->Bool} {co:FuncId->List AV->List jS->Option CO} {yd:FuncId->Bool} {ce:FuncId->List AV->List jS->Option tL} {js:List Nat->List (Int×Code)} {cy:Nat->List AV->List jS->Option (AV×List jS)}
 (a: ∀f args σ r H',cl f args (jI.heap σ)=some (r,H')->ya P f args σ (fun o BC=>o= .ret r/\BC=H')) (d: ∀f args r,cd f args=some r->GP P f args (fun v=>v=r))
 (y: ∀l args σ r H',cy l args (jI.heap σ)=some (r,H')->HA P l args σ (fun o BC=>o= .ret r/\BC=H'):=by exact uh) (e: ∀f args σ e,ce f args (jI.heap σ)=some e->IC P f args σ e:=by exact uj)
 (p: ∀f args σ o H',cp f args (jI.heap σ)=some (o,H')->ya P f args σ (fun o' BC=>o'=o/\BC=H'):=by exact vn)
 (c: ∀f args σ,(∀e,co f args (jI.heap σ)=some (.ret e)->IC P f args σ e)/\ ∀x H',co f args σ.heap=some (.pan x H')->acr P f args σ.heap x H':=by exact u1):
 Good (ol P f n out cl cd (qk nl) (Xq cu) wL cp nB yb co yd ce js cy):=⟨a,d,qg _,qy _,y,e,p,c⟩
section
variable {β2 α2:Type}
abbrev SG(P:Program)(g:FuncId)(as:AL γ)(os:OL β)(b:β)(a:γ)(sA:OL β1)(s:AL α)(r:β1×α):Prop:=
 FnG P g (as.enc (os.lens b) a) (os.enc (os.lens b) b) (fun o H'=>o= .ret (tA (s.enc (sA.lens r.1) r.2))/\H'=sA.enc (sA.lens r.1) r.1)
abbrev SP(P:Program)(g:FuncId)(as:AL γ)(os:OL β)(b:β)(a:γ)(pk:Bool)(sA:OL β1)(s1:AL α1)(BZ:OL β2)(s2:AL α2)(r:PR (β1×α1) (β2×α2)):Prop:=
 FnP P g (as.enc (os.lens b) a) (os.enc (os.lens b) b) (enP pk sA s1 BZ s2 r)
@[reducible] def rB(as:AL γ)(os:OL β)(b:β)(a:γ)(k:Nat):jI:=xI (as.enc (os.lens b) a) k (os.enc (os.lens b) b)
def nbA{as:AL γ}{os:OL β}{b:β}{a:γ}(h:decide (as.need<=os.size)=true):uB (os.enc (os.lens b) b).length (as.enc (os.lens b) a):=
 sn (eN (jy h) (Nat.le_of_eq (os.sz _ _).symm)) _ (as.nb _ _)
def nbO{os:OL β}{b:β}(h:decide (os.need<=os.size)=true): ∀x∈os.enc (os.lens b) b,pM (os.enc (os.lens b) b).length x:=
 fun x hx=>Bg (eN (jy h) (Nat.le_of_eq (os.sz _ _).symm)) _ (os.nb _ _ x hx)
variable {fn:Func} {m:Nat} {cl:FuncId->List AV->List jS->Option (AV×List jS)} {cd:FuncId->List AV->Option AV} {sx:List Nat->jI->Option jI} {cut:List Nat->jI->Option jI} {wL:FuncId->Bool} {cp:FuncId->List AV->List jS->Option (sv×List jS)}
 {yb:FuncId->Bool} {co:FuncId->List AV->List jS->Option CO} {yd:FuncId->Bool} {ce:FuncId->List AV->List jS->Option tL} {js:List Nat->List (Int×Code)} {cy:Nat->List AV->List jS->Option (AV×List jS)} {k:Nat} {g:FuncId} {rs:List ResultVar} {p1 p2:List Loc} {b1 b2:List Nat} {low:Nat}
 {R:Type} {t:Ty R} {args:List AV} {as:AL γ} {os:OL β} {b:β} {a:γ} {os0:OL β1} {s:AL α} {sA:OL β1} {Bk:AL α1} {BZ:OL β2} {LL:AL α2}
def AQ{r:R}(h:run (ol P fn m (nE P rs t) cl cd sx cut wL cp (fun _ _=>none) yb co yd ce js cy) [.at []] (xI args k)=some r)(G:Good (ol P fn m (nE P rs t) cl cd sx cut wL cp (fun _ _=>none) yb co yd ce js cy))(hf:P.funcs[g]? =some fn)(hnb:uB 0 args)(hn:fn.ntmps=k)(Oc:fn.results=rs.toArray)(hb:fn.body=some (fn.body.getD .skip):=by exact rfl)(hne:(fn.name != "runtime.NumGoroutine")=true:=by exact rfl):GP P g args (fun v=>v=t.enc r):=
 abS G hf hb hne hnb hn Oc (fun σ hs=>Yl hs) h
def okG{r:β1×α}(h:run (ol P fn m (Ds P rs p1 b1 low os0 s) cl cd sx cut wL cp (fun _ _=>none) yb co yd ce js cy) [.at []] (rB as os b a k)=some r)(G:Good (ol P fn m (Ds P rs p1 b1 low os0 s) cl cd sx cut wL cp (fun _ _=>none) yb co yd ce js cy))(hf:P.funcs[g]? =some fn)(hn:fn.ntmps=k)(Oc:fn.results=rs.toArray)(h1:decide (as.need<=os.size)=true:=by kernel_rfl)(h2:decide (os.need<=os.size)=true:=by kernel_rfl)(XO:b1=dR low:=by exact rfl)(hb:fn.body=some (fn.body.getD .skip):=by exact rfl)(hne:(fn.name != "runtime.NumGoroutine")=true:=by exact rfl):SG P g as os b a os0 s r:=
 BD G hf hb hne (nbA h1) (nbO h2) hn Oc (fun σ hs=>Mn XO hs) h
def P2{r:PR (β1×α1) (β2×α2)}(h:run (ol P fn m (pd P rs p1 b1 low sA Bk) cl cd sx cut wL cp (pe p2 b2 low BZ LL) yb co yd ce js cy) [.at []] (rB as os b a k)=some r)(G:Good (ol P fn m (pd P rs p1 b1 low sA Bk) cl cd sx cut wL cp (pe p2 b2 low BZ LL) yb co yd ce js cy))(hf:P.funcs[g]? =some fn)(hn:fn.ntmps=k)(Oc:fn.results=rs.toArray)(h1:decide (as.need<=os.size)=true:=by kernel_rfl)(h2:decide (os.need<=os.size)=true:=by kernel_rfl)(hone: ∀b a,∃y,LL.enc (BZ.lens b) a=[y]:=by exact fun b a=>⟨_,rfl⟩)(XO:b1=dR low:=by exact rfl)(hb2:b2=dR low:=by exact rfl)(hb:fn.body=some (fn.body.getD .skip):=by exact rfl)(hne:(fn.name != "runtime.NumGoroutine")=true:=by exact rfl):SP P g as os b a true sA Bk BZ LL r:=
 at5 G hf hb hne (nbA h1) (nbO h2) hn Oc XO hb2 hone rfl rfl h
def okS{r:PR (β1×α1) (β2×α2)}(h:run (ol P fn m (ac2 P rs p1 b1 low sA Bk p2 BZ LL) cl cd sx cut wL cp (fun _ _=>none) yb co yd ce js cy) [.at []] (rB as os b a k)=some r)(G:Good (ol P fn m (ac2 P rs p1 b1 low sA Bk p2 BZ LL) cl cd sx cut wL cp (fun _ _=>none) yb co yd ce js cy))(hf:P.funcs[g]? =some fn)(hn:fn.ntmps=k)(Oc:fn.results=rs.toArray)(h1:decide (as.need<=os.size)=true:=by kernel_rfl)(h2:decide (os.need<=os.size)=true:=by kernel_rfl)(XO:b1=dR low:=by exact rfl)(hb:fn.body=some (fn.body.getD .skip):=by exact rfl)(hne:(fn.name != "runtime.NumGoroutine")=true:=by exact rfl):SP P g as os b a false sA Bk BZ LL r:=
 at6 G hf hb hne (nbA h1) (nbO h2) hn Oc XO rfl h
end
attribute [go_sem] ayR rB xI mq mo Bl l7 me Bm
section
variable {δ':Type}
def ayS(qT:Bool)(row:Row α)(s:AL δ)(rs:AL δ')(F:(List α×Unit)->δ->Option ((List α×Unit)×δ')):List AV->List jS->Option CO:=fun args H=>match args with
 | .acc l n::cs=>match H[l]? with
   |some x=>(daT qT row x).bind fun rows=>lU (n=rows.length) (lU (x= .acc qT row.sz (mp row.enc rows)) ((s.dec [] ((BP (ogA qT row) EC).lens (rows,())) H cs).bind fun a=>lU (cs=s.enc ((BP (ogA qT row) EC).lens (rows,())) a) ((F (rows,()) a).bind fun r=>
     lU (r.1=(rows,())) (some (.ret {val:=tA (rs.enc ((BP (ogA qT row) EC).lens (rows,())) r.2),rd:=[l]})))))
   |none=>none
 |_=>none
def aud{qT:Bool}{row:Row α}{s:AL δ}{rs:AL δ'}{F:(List α×Unit)->δ->Option ((List α×Unit)×δ')}:ayS qT row s rs F (.acc l n::cs) H=match H[l]? with
 |some x=>(daT qT row x).bind fun rows=>lU (n=rows.length) (lU (x= .acc qT row.sz (mp row.enc rows)) ((s.dec [] ((BP (ogA qT row) EC).lens (rows,())) H cs).bind fun a=>lU (cs=s.enc ((BP (ogA qT row) EC).lens (rows,())) a) ((F (rows,()) a).bind fun r=>
   lU (r.1=(rows,())) (some (.ret {val:=tA (rs.enc ((BP (ogA qT row) EC).lens (rows,())) r.2),rd:=[l]})))))
 |none=>none:=rfl
def aue{qT:Bool}{row:Row α}{s:AL δ}{rs:AL δ'}{F:(List α×Unit)->δ->Option ((List α×Unit)×δ')}{t:Nat}:ayS qT row s rs F (.lI b t rows::cs) H=none:=rfl
end
def ajm{k:List Kt}{rest:List Oper}{c:Prop}{x:Option (AV×List jS)}:KM M ops dst rest k σ (lU c x)=lU c (KM M ops dst rest k σ x):=by
 grind [lU,acH]
attribute [go_sem] ajm aud aue
def aoO(P:Program)(u:FrameMode)(f:FuncId):Value->World->Array Value->(Ending->World->Prop)->Prop:=fun _ w vs R=>
 CallsDIn Fence.wide 0 P f vs u w fun e u' w'=> ∃r,e= .returned r/\u'=u/\R (.returned r) w'
def afs:SW (aoO P u f):=⟨fun _ _ _ _ _ hr h=>ua h fun _ _ _ ⟨r,h1,h2,h3⟩=>⟨r,h1,h2,hr _ _ h3⟩⟩
def auf{fn:Func}{c:Code}(hf:P.funcs[f]? =some fn)(hb:fn.body=some c)
 (hnb:uB H.length args) (EB: ∀x∈H,pM H.length x) (hn:fn.ntmps=n) (Oc:fn.results=rs.toArray)
 (h:awp P c (aja P rs V) {slots:=args++dN (n-args.length) .any,heap:=H,low:=H.length}):FnT P (aoO P u f) args H V:=by
 refine⟨hnb,EB,fun C φ w hP h0 hN0 hφ0 hM HS vs hr=> ?_⟩;subst hP;have hsz:vs.size=args.length:=by have:=hr.length;simpa using this
 have S:lQ C φ {slots:=args++dN (n-args.length) .any,heap:=H,low:=H.length} {tmps:=vs++ec (fn.ntmps-vs.size) undef,defers:=[]} w:=by
  refine {HS with slots:= ?_,defers:=qh.nil};simp only[ew,eH];refine hr.append ?_;rw[hsz,hn];have:=kf.Be (E:=C.env φ H w) (dN (n-args.length) undef);simpa using this
 have DL: ∀{φ':Nat->Value}{σ':jI}{a'':Act}{w'':World},lQ C φ' σ' a'' w''->σ'.low=H.length:=fun S'=>by rw[<-S'.low.1];exact hN0
 refine Mo hf hb trivial ?_;intro c₀ cs hu;refine wpSIn_of_wpIn rfl (wpIn_mono (uE (ro:=none) c _ φ _ _ w (.inl rfl) h S) ?_);intro e a' w' hq
 have fin: ∀φ' σ',lQ C φ' σ' a' w'->σ'.df=[]/\ZJ C.P rs V none σ'->KP C fn c₀ cs (fun e u2 w'=> ∃r,e= .returned r/\u2=u/\ ∃o φ' H',V o H'/\lQ C φ' {slots:=[],heap:=H',low:=H.length} {tmps:= #[],defers:=[]} w'/\o.Vv (C.env φ' H' w') (.returned r)) .normal a' (c₀::cs) w':=by
  rintro φ' σ' S' ⟨RZ,xr,hx,r,H',hex,hV'⟩;refine⟨u,by rw[<-hu],φ',σ',S',RZ,fun w'' S''=> ?_⟩;obtain⟨vv,hv,rv⟩:=IE (fn:=fn) S'' (by rw[Oc];exact hx);obtain⟨φ3,S3,hr3⟩:=hex C φ' _ w'' S'' vv rv;rw[DL S''] at S3;exact⟨vv,hv,vv,rfl,rfl,.ret r,φ3,H',hV',S3,hr3⟩
 cases e with
 |normal=>obtain⟨φ',σ',S',hq⟩:=hq;exact fin φ' σ' S' hq
 |ret=>obtain⟨φ',σ',S',hq⟩:=hq;exact fin φ' σ' S' hq
 |exit id=>obtain⟨_,_,_,hq⟩:=hq;exact hq.elim
 |goto l=>obtain⟨_,_,_,hq⟩:=hq;exact hq.elim
 |panic chain=>obtain⟨_,_,_,_,_,hq,_⟩:=hq;exact hq.elim
 |outgrown=>exact hq.elim
section

def ajn{M:kD (β1×α1)}{fn:Func}{r:β1×α1}{sA:OL β1}{Bk:AL α1}(G:Good M)
 (hf:M.P.funcs[f]? =some fn) (hb:fn.body=some M.body) (hnb:uB H.length args) (EB: ∀x∈H,pM H.length x) (hn:fn.ntmps=n) (Oc:fn.results=rs.toArray) (XO:b1=dR low) (ho:M.out=Ds M.P rs p1 b1 low sA Bk)
 (h:run M [.at []] {slots:=args++dN (n-args.length) .any,heap:=H,low:=H.length}=some r) (hP: ∀x σ',M.nB x σ'=none:=by intros;rfl):
 FnT M.P (aoO M.P u f) args H (fun o H'=>o=(enR sA Bk r).1/\H'=(enR sA Bk r).2):=by
 refine auf hf hb hnb EB hn Oc (PT G h (fun σ hs=> ?_) (fun x σ hs=>by rw[hP x σ] at hs;cases hs));rw[ho] at hs;obtain⟨hd,xs,hx,Dr⟩:=Mn XO hs;have:=IJ (P:=M.P) hx Dr;exact⟨⟨hd,this⟩,hd,this⟩
end
def spl{γ:Type}:List AV->(List AV->AV->Option γ)->Option γ
 |[],_=>none
 |[x],k=>k [] x
 |a::b::l,k=>spl (b::l) fun l x=>k (a::l) x
def aug{k:List AV->AV->Option γ}:spl [x] k=k [] x:=rfl
def are{a b:AV}{l:List AV}{k:List AV->AV->Option γ}:spl (a::b::l) k=spl (b::l) fun l x=>k (a::l) x:=rfl
def ajo{γ:Type}: ∀{l:List AV}{k:List AV->AV->Option γ}{r:γ},spl l k=some r-> ∃as x,l=as++[x]/\k as x=some r
 |[x],k,r,h=>⟨[],x,rfl,h⟩
 |a::b::l,k,r,h=>by
  obtain⟨as,x,h1,h2⟩:=ajo (l:=b::l) h
  grind
def auh(c:M3):M3:=fun f args H=>spl args fun as x=>(c f as H).bind fun q=>some (.panic x,q.2)
def aui(P:Program)(c:M3):Prop:= ∀u,QOK P (aoO P u) c
def arf{c:M3}(h:aui P c):QOK P (ad6 P) c:=by
 intro f args σ o H' he;obtain⟨h1,h2⟩:=h .returning f args σ o H' he;refine⟨h1,fun C φ a w hP S vs hr=> ?_⟩;refine ua (h2 C φ a w hP S vs hr) ?_;rintro e u' w' ⟨r,rfl,rfl,h3⟩;exact⟨r,rfl,rfl,h3⟩
def arh{c:M3}(h:aui P c):QOK P (ad7 P) (auh c):=by
 intro f args σ o H' he;obtain⟨as,x,rfl,hk⟩:=ajo he;simp only[dK,dM,dO] at hk;obtain⟨q,hq,rfl,rfl⟩:=hk;refine⟨(h .returning f as σ q.1 q.2 hq).1,fun C φ a w hP S vs hr vs0 v hvs=> ?_⟩;subst hvs
 have hr':kf (C.env φ σ.heap w) as vs0.toList/\nr (C.env φ σ.heap w) x v:=by
  rw[Array.toList_push] at hr
  have hl:vs0.toList.length=as.length:=by
   have:=hr.length;simp at this;simpa using this
  have h1:=hr.take as.length;have h2:=hr.drop as.length;rw[dW rfl,dW hl] at h1;rw[dX rfl,dX hl] at h2;obtain⟨u,us,he,r1,_⟩:=h2
  grind
 have hc:=(h (.panicking [{v,recovered:=false}]) f as {σ with slots:=σ.slots++[x]} q.1 q.2 hq).2;cases a with
 |mk tmps ds=>
 refine ua (hc C φ _ w hP (S.agh hr'.2) vs0 hr'.1) ?_;rintro e u' w' ⟨r,rfl,rfl,o,φ',H',⟨rfl,rfl⟩,S2,qE⟩;have S3:lQ C φ' {({σ with heap:=q.2}:jI) with slots:=({σ with heap:=q.2}:jI).slots++[x]} {tmps:=tmps.push v,defers:=ds} w':=S2;obtain⟨S4,h4⟩:=S3.akS S.len;exact⟨r,rfl,.inr ⟨v,rfl,.panic x,φ',q.2,⟨rfl,rfl⟩,S4,v,rfl,h4⟩⟩
section ends
variable {α2 β2:Type}
def enX(f:jI->Option R)(g:AV->jI->Option R):Option AV->jI->Option R
 |none,σ=>f σ
 |some x,σ=>g x σ
def ayT{f:jI->Option R}{g:AV->jI->Option R}:enX f g none σ=f σ/\ ∀x,enX f g (some x) σ=g x σ:=⟨rfl,fun _=>rfl⟩
def ajp(c:M3)(f:jI->Option R)(g:AV->jI->Option R)(σ:jI):Option R:=R0 c (auh c) (enX f g) σ.df none σ
def ajq(c:M3)(f:jI->Option R)(g:AV->jI->Option R)(x:AV)(σ:jI):Option R:=R0 c (auh c) (enX f g) σ.df (some x) σ
def awZ{c:M3}:auh c f args H=spl args fun as x=>(c f as H).bind fun q=>some (.panic x,q.2):=rfl
attribute [go_sem] ayT ajp ajq awZ aug are
variable {fn:Func} {m:Nat} {cl:FuncId->List AV->List jS->Option (AV×List jS)} {cd:FuncId->List AV->Option AV} {sx:List Nat->jI->Option jI} {cut:List Nat->jI->Option jI} {wL:FuncId->Bool} {cp:FuncId->List AV->List jS->Option (sv×List jS)}
 {yb:FuncId->Bool} {co:FuncId->List AV->List jS->Option CO} {yd:FuncId->Bool} {ce:FuncId->List AV->List jS->Option tL} {js:List Nat->List (Int×Code)} {cy:Nat->List AV->List jS->Option (AV×List jS)} {k:Nat} {g:FuncId} {rs:List ResultVar} {p1 p2:List Loc} {b1 b2:List Nat} {low:Nat}
 {as:AL γ} {os:OL β} {b:β} {a:γ} {os0:OL β1} {s:AL α} {sA:OL β1} {Bk:AL α1} {BZ:OL β2} {LL:AL α2} {c:M3}
def ayU{r:PR (β1×α1) (β2×α2)}(hc:aui P c)(h:run (ol P fn m (ajp c (pd P rs p1 b1 low sA Bk) (pe p2 b2 low BZ LL)) cl cd sx cut wL cp (ajq c (pd P rs p1 b1 low sA Bk) (pe p2 b2 low BZ LL)) yb co yd ce js cy) [.at []] (rB as os b a k)=some r)
 (G:Good (ol P fn m (ajp c (pd P rs p1 b1 low sA Bk) (pe p2 b2 low BZ LL)) cl cd sx cut wL cp (ajq c (pd P rs p1 b1 low sA Bk) (pe p2 b2 low BZ LL)) yb co yd ce js cy)) (hf:P.funcs[g]? =some fn) (hn:fn.ntmps=k) (Oc:fn.results=rs.toArray)
 (h1:decide (as.need<=os.size)=true:=by kernel_rfl) (h2:decide (os.need<=os.size)=true:=by kernel_rfl) (hone: ∀b a,∃y,LL.enc (BZ.lens b) a=[y]:=by exact fun b a=>⟨_,rfl⟩) (XO:b1=dR low:=by exact rfl) (hb2:b2=dR low:=by exact rfl) (hb:fn.body=some (fn.body.getD .skip):=by exact rfl) (hne:(fn.name != "runtime.NumGoroutine")=true:=by exact rfl):SP P g as os b a true sA Bk BZ LL r:=by
 have he: ∀m' σ,σ.df=[]->enX (pd P rs p1 b1 low sA Bk) (pe (β1:=β1) (α1:=α1) p2 b2 low BZ LL) m' σ=some r->ZJ P rs (fun o H'=>o=(enP true sA Bk BZ LL r).1/\H'=(enP true sA Bk BZ LL r).2) m' σ:=by
  intro m' σ _ hs;cases m' with
  |none=>
   simp only[enX,pd,dU] at hs;obtain⟨q,hq,rfl⟩:=hs;obtain⟨hd,xs,hx,Dr⟩:=Mn XO hq;exact IJ hx Dr
  |some x=>
   simp only[enX,pe,dU] at hs;obtain⟨q,hq,rfl⟩:=hs;obtain⟨hd,Dr⟩:=Yu hb2 hq;obtain⟨y,hy⟩:=hone q.1 q.2;rw[hy] at Dr;have:=aiK (P:=P) (rs:=rs) Dr.e
   grind [enP,BQ,afq,pkO]
 exact Yn G hf hb hne (nbA h1) (nbO h2) hn Oc (fun σ hs=>P1 (arf hc) (arh hc) he σ.df none σ rfl hs) (fun x σ hs=>P1 (arf hc) (arh hc) he σ.df (some x) σ rfl hs) h
abbrev SD(P:Program)(g:FuncId)(as:AL γ)(os:OL β)(b:β)(a:γ)(sA:OL β1)(s:AL α1)(r:β1×α1):Prop:=
 ∀u,FnT P (aoO P u g) (as.enc (os.lens b) a) (os.enc (os.lens b) b) (fun o H'=>o=(enR sA s r).1/\H'=(enR sA s r).2)
def okD{r:β1×α}(h:run (ol P fn m (Ds P rs p1 b1 low os0 s) cl cd sx cut wL cp (fun _ _=>none) yb co yd ce js cy) [.at []] (rB as os b a k)=some r)(G:Good (ol P fn m (Ds P rs p1 b1 low os0 s) cl cd sx cut wL cp (fun _ _=>none) yb co yd ce js cy))(hf:P.funcs[g]? =some fn)(hn:fn.ntmps=k)(Oc:fn.results=rs.toArray)(h1:decide (as.need<=os.size)=true:=by kernel_rfl)(h2:decide (os.need<=os.size)=true:=by kernel_rfl)(XO:b1=dR low:=by exact rfl)(hb:fn.body=some (fn.body.getD .skip):=by exact rfl):SD P g as os b a os0 s r:=
 fun u=>ajn G hf hb (nbA h1) (nbO h2) hn Oc XO rfl h
def ajr{e:abd}(h: ∀u,∀args (σ:jI) o H',e args σ.heap=some (o,H')->enters P g=true/\Mi P (aoO P u g) 0 args σ (fun o' BC=>o'=o/\BC=H')):aui P (KQ [(g,e)]):=fun u=>FM (h u) IK
end ends
def dNI:AV->Option Unit
 | .raw .nilIface=>some ()
 |_=>none
def ari:Ty Unit where
 enc _:= .raw .nilIface
 dec _:=dNI
 ok H n v x h:=by
  unfold dNI at h;split at h
  ·exact Co.same trivial
  ·cases h
 nb n x:=trivial
def aw0:(∀x,ari.enc x= .raw .nilIface)/\(∀H v,ari.dec H v=dNI v)/\dNI (.raw .nilIface)=some ():=⟨fun _=>rfl,fun _ _=>rfl,rfl⟩
attribute [go_sem] aw0
def arj{T:TypeId}(he:enters P f=true)
 (h: ∀(s:ByteArray)(n:Int)(w:World),s.size<=18->Lib.atoi s.data.toList=some n->Calls P f #[.string s] w fun e w'=>e= .returned (.tuple #[.int .i64 n,.nilIface])/\ ∃t,w'=Lib.bytesWorld w T t)
 (s:Str) (n:Int) (hl:s.length<=18) (hn:Lib.atoi s=some n):GP P f [lP.enc s] (fun v=>v=(ty2 (lO .i64) ari).enc (n,())):=by
 refine⟨he,⟨lP.nb 0 _,trivial⟩,fun C φ w hP hw hN0 hM vs hr=> ?_⟩
 obtain rfl:vs= #[.string (sb s)]:=by
  obtain⟨v0,us,hvs,r0,ZG⟩:=hr;have hus:us=[]:=ZG;have e0:v0= .string (sb s):=r0;subst hus e0;cases vs;simp_all
 refine(h (sb s) n w (by rw[Mm];exact hl) (by rw[PZ];exact hn)).mono ?_;rintro e w' ⟨rfl,t,rfl⟩;have hb:=Lib.bytesWorld_below w T t;exact⟨_,_,φ,rfl,rfl,⟨_,rfl,_,_,rfl,rfl,_,_,rfl,rfl,rfl⟩,hb.size,hb.block,fun x hx=>hb.frozen hx,hb.output,hb.os⟩
end Go.Abs
end
