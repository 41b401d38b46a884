/- A part of the proof: abstract states and the rules for them. -/
import Derived.Test.YtpdbjkgnmjnebaaGreatDoorCoreC
import Derived.Lib.Atoi
import Derived.Lib.AtoiErrMem
import Derived.Lib.UnsafeStr
import Derived.Lib.Builder
import Derived.Shelf.Strings.Builder1
import Derived.Lib.ItoaNum
import Derived.Lib.AppendIntMem
import Derived.Lib.LaidTab
set_option linter.all false
open Go renaming FuncId→aTK,Program→aTL,Value→aTM,World→aTN
open Option renaming bind_eq_some_iff→eS,map_eq_some_iff→eU
open Option.some renaming injEq→eT
open List renaming range→eV,replicate→eW,getElem?_eq_some_iff→eX,getElem?_eq_getElem→fa,set_getElem_self→fb,mem_cons→fc
open Go.Lib renaming run_unsafeString_none→eY,run_unsafeSliceData_row→eZ,strCells→fe
noncomputable section
namespace Go.Abs
variable {W:Type}{aTo:AL W}{W1:Type}{Bv:AL W1}{x:AV}{R:Type}{q6:AV->jT->Option R}{kH:Array Oper}{b pk:Bool}{s:ByteArray}{y:Code}{u:FrameMode}{f:aTK}{tI tX wD:aTK->Bool}{cl:aTK->List AV->List j6->Option (AV×List j6)}{cp:aTK->List AV->List j6->Option (vB×List j6)}{co:aTK->List AV->List j6->Option CO}{ce:aTK->List AV->List j6->Option wq}{cd:aTK->List AV->Option AV}{ds:List (aTK×List AV)}{cu:List (List Nat×List Nat)}{nl:List (List Nat×sN)}{args cs ys:List AV}{γ:Type}{k:List AV->AV->Option γ}{K:List Kt}{G:List Kt->W->Prop}{b1 p:List Nat}{js:List Nat->List (Int×Code)}{rest:List Oper}{rs:List ResultVar}{tr:List Tr}{p1 pos:List YJ}{H:List j6}{c d g j l low n:Nat}{cy:Nat->List AV->List j6->Option (AV×List j6)}{τ:Nat->Nat}{O:Type}{os:OL O}{O1:Type}{vf:OL O1}{o:Oper}{dst:Option Tmp}{a:Option wq}{P:aTL}{δ Y:Type}{v:aTM}{T:aTM->aTN->Array aTM->(Ending->aTN->Prop)->Prop}{J:jT}{out:jT->Option R}{M:kL R}{V:vB->List j6->Prop}{F:O->W->Option (O1×W1)}
inductive PR(W O:Type) where
 |ok (x:W)
 |pn (y:O)
def prc(q:PR W O)(f:W->γ)(g:O->γ):γ:=match q with
 |.ok x=>f x
 |.pn y=>g y
def aOQ{x:W}{f:W->γ}{g:O->γ}:prc (.ok x) f g=f x:=rfl
def aOR{y:O}{f:W->γ}{g:O->γ}:prc (.pn y) f g=g y:=rfl
abbrev atj:=List AV->List j6->Option (vB×List j6)
section asH

def asH(pos:List YJ)(os:OL O)(aTo:AL W)(sz:Nat)(en:Y->vB×List j6)(F:O->W->Option Y):atj:=fun args H=>
 (axq args H pos []).bind fun Y=>bif Lp Y&&(decide (os.mm<=Y.length)&&(decide (aTo.mm<=Y.length)&&decide (Y.length<=sz)))then
   (qR (asz H) Y).bind fun xs=>(os.mK Y (apt xs) H xs).bind fun b=>(aTo.mK Y (apt xs) H args).bind fun a=>(F b a).bind fun q=>
     some ((en q).1.qo (pg Y H.length),xD Y H (en q).2)else none
def aDf(hT:aiI T)(hz:∀(U U':Nat->aTM)(k k':Nat),T (U k)=T (U' k')){os:OL O}{aTo:AL W}{sz:Nat}{en:Y->vB×List j6}{F:O->W->Option Y}(hsz:∀q,sz<=(en q).2.length) {o:vB} {H':List j6} (he:asH pos os aTo sz en F args J.heap=some (o,H')):
 ∃b a q,F b a=some q/\(FnT P T (aTo.enc (os.mo b) a) (os.enc (os.mo b) b) (fun o H'=>o=(en q).1/\H'=(en q).2)->Zj P T 0 args J (fun o' GB=>o'=o/\GB=H')):=by
 unfold asH at he;simp only[eS]at he;obtain⟨Y,hρ,he⟩:=he;cases hc:(Lp Y&&(decide (os.mm<=Y.length)&&(decide (aTo.mm<=Y.length)&&decide (Y.length<=sz))))with
 |false=>simp [hc]at he
 |true=>
  simp only[hc,jF,eS,eT,Prod.mk.injEq]at he;obtain⟨xs,hxs,b,hb,a,ha,q,hq,rfl,rfl⟩:=he;refine⟨b,a,q,hq,fun hfn=>?_⟩;simp only[Bool.and_eq_true,jL]at hc;obtain⟨hnd,n1,n2,n3⟩:=hc;obtain⟨h1,h2⟩:=acs hxs
  have aC7:∀m,m<=Y.length->Cov Y m J.heap.length:=by
   intro m hm k hk;have YG:k<Y.length:=by omega
   obtain⟨x,hx,Ea⟩:=h2 k _ (fa YG)
   grind
  have hL:os.mo b=apt xs:=funext fun k=>os.arx Y _ _ _ _ hb k
  obtain⟨h3,h4⟩:=os.ok Y _ J.heap J.heap.length _ _ (aC7 _ n1) hb;have aiD:∀l,l<Y.length->atN Y l=pg Y J.heap.length l:=fun l hl=>by unfold pg atN;rw[if_pos hl]
  rw[<-hL]at ha h4;refine aJ2 hT hfn (Wv hnd) (by rw[h1,h3,os.sz]) (Nat.le_trans n3 (hsz q)) (fun U=>hz _ _ _ _) ?_ ?_
  ·intro i k hi;obtain⟨x,hx,Ea⟩:=h2 i k hi;have rQ:i<(os.enc (os.mo b) b).length:=by rw[os.sz,<-h3,<-h1];grind
   have hy:=fa rQ;obtain⟨x2,VV,hcc⟩:=h4 i _ hy;rw[hx]at VV;cases VV;refine⟨x,_,Ea,hy,?_⟩;rw[<-aps (n:=os.mm) (fun l hl=>aiD l (by omega)) _ (os.nb _ _ _ (List.mem_of_getElem? hy))];exact hcc
  ·rw[<-Ep (n:=aTo.mm) (fun l hl=>aiD l (by omega)) _ (aTo.nb _ _)];exact aTo.ok Y _ J.heap _ _ _ (aC7 _ n2) ha
end asH
section xE
variable {W2 O2:Type}
def pkO(pk:Bool)(x:AV):vB:=match pk with
 |true=>.panic x
 |false=>.ret x
def aQK:pkO true x=.panic x/\pkO false x=.ret x:=⟨rfl,rfl⟩
def aMN:(pkO pk x).qo τ=pkO pk (x.qo τ):=by cases pk<;>rfl
def enP(pk:Bool)(vf:OL O1)(Bv:AL W1)(Cw:OL O2)(LR:AL W2)(q:PR (O1×W1) (O2×W2)):vB×List j6:=
 prc q (fun r=>(.ret (sE (Bv.enc (vf.mo r.1) r.2)),vf.enc (vf.mo r.1) r.1)) (fun r=>(pkO pk (sE (LR.enc (Cw.mo r.1) r.2)),Cw.enc (Cw.mo r.1) r.1))
def aOS{vf:OL O1}{Bv:AL W1}{Cw:OL O2}{LR:AL W2}(q:PR (O1×W1) (O2×W2)):min vf.size Cw.size<=(enP pk vf Bv Cw LR q).2.length:=by
 cases q with
 |ok r=>simp only[enP,prc,vf.sz];exact Nat.min_le_left _ _
 |pn r=>simp only[enP,prc,Cw.sz];exact Nat.min_le_right _ _
def xE(pk:Bool)(pos:List YJ)(os:OL O)(aTo:AL W)(vf:OL O1)(Bv:AL W1)(Cw:OL O2)(LR:AL W2)(F:O->W->Option (PR (O1×W1) (O2×W2))):atj:=fun args H=>
 (axq args H pos []).bind fun Y=>bif Lp Y&&(decide (os.mm<=Y.length)&&(decide (aTo.mm<=Y.length)&&(decide (Y.length<=vf.size)&&decide (Y.length<=Cw.size)))) then
   (qR (asz H) Y).bind fun xs=>(os.mK Y (apt xs) H xs).bind fun b=>(aTo.mK Y (apt xs) H args).bind fun a=>(F b a).bind fun q=>
     prc q (fun r=>some (.ret ((sE (Bv.enc (vf.mo r.1) r.2)).qo (pg Y H.length)),xD Y H (vf.enc (vf.mo r.1) r.1)))
      (fun r=>some (pkO pk ((sE (LR.enc (Cw.mo r.1) r.2)).qo (pg Y H.length)),xD Y H (Cw.enc (Cw.mo r.1) r.1)))else none
theorem aKk{os:OL O}{aTo:AL W}{vf:OL O1}{Bv:AL W1}{Cw:OL O2}{LR:AL W2}{F:O->W->Option (PR (O1×W1) (O2×W2))}:
 xE pk pos os aTo vf Bv Cw LR F args H=asH pos os aTo (min vf.size Cw.size) (enP pk vf Bv Cw LR) F args H:=by
 unfold xE asH;congr 1;funext Y
 have:decide (Y.length<=min vf.size Cw.size)=(decide (Y.length<=vf.size)&&decide (Y.length<=Cw.size)):=by
  grind
 rw[this];congr 1;congr 1;funext xs;congr 1;funext b;congr 1;funext a;congr 1;funext q;cases q with
 |ok r=>rfl
 |pn r=>simp only[prc,enP,aMN]
def aKl(P:aTL)(f:aTK)(e:atj):Prop:=∀args J o H',e args J.heap=some (o,H')->Bt P f args J (fun o' GB=>o'=o/\GB=H')
def FnP(P:aTL)(f:aTK)(args:List AV)(H:List j6)(x:vB×List j6):Prop:=FnG P f args H (fun o H'=>o=x.1/\H'=x.2)
def lc{os:OL O}{aTo:AL W}{vf:OL O1}{Bv:AL W1}{Cw:OL O2}{LR:AL W2}{F:O->W->Option (PR (O1×W1) (O2×W2))}
 (h:∀b a r,F b a=some r->FnP P f (aTo.enc (os.mo b) a) (os.enc (os.mo b) b) (enP pk vf Bv Cw LR r)):aKl P f (xE pk pos os aTo vf Bv Cw LR F):=by
 intro args J o H' he;rw[aKk]at he;obtain⟨b,a,q,hq,xR⟩:=aDf (P:=P) (T:=fun _ w vs R=>Calls P f vs w R) anP (fun _ _ _ _=>rfl) aOS he;exact⟨(h b a q hq).1,xR (h b a q hq).2⟩
def apx:∀(Y:List Nat)(xs H:List j6),nu H (Y.zip xs)=sD H Y xs
 |[],_,_=>by simp [nu,sD]
 |_::_,[],_=>by simp [nu,sD]
 |l::Y,x::xs,H=>by
  simp only[List.zip_cons_cons,nu,sD];exact apx Y xs _
def Jl(pos:List YJ)(os:OL O)(aTo:AL W)(vf:OL O1)(Bv:AL W1)(Cw:OL O2)(LR:AL W2)(F:O->W->Option (PR (O1×W1) (O2×W2))):List AV->List j6->Option CO:=fun args H=>
 (axq args H pos []).bind fun Y=>bif Lp Y&&(decide (os.mm<=Y.length)&&(decide (aTo.mm<=Y.length)&&(decide (Y.length<=vf.size)&&decide (Y.length<=Cw.size)))) then
   (qR (asz H) Y).bind fun xs=>(os.mK Y (apt xs) H xs).bind fun b=>(aTo.mK Y (apt xs) H args).bind fun a=>(F b a).bind fun q=>
     prc q (fun r=>some (.ret {val:=(sE (Bv.enc (vf.mo r.1) r.2)).qo (pg Y H.length),rd:=Y,up:=Y.zip ((vf.enc (vf.mo r.1) r.1).map (j6.qo (pg Y H.length))),nw:=((vf.enc (vf.mo r.1) r.1).drop Y.length).map (j6.qo (pg Y H.length)),whole:=true}))
      (fun r=>some (.pan ((sE (LR.enc (Cw.mo r.1) r.2)).qo (pg Y H.length)) (xD Y H (Cw.enc (Cw.mo r.1) r.1))))else none
def aAh(P:aTL)(f:aTK)(e:List AV->List j6->Option CO):Prop:=∀args (J:jT),(∀ef,e args J.heap=some (.ret ef)->Jj P f args J ef)/\∀x H',e args J.heap=some (.pan x H')->au1 P f args J.heap x H'
def AB{os:OL O}{aTo:AL W}{vf:OL O1}{Bv:AL W1}{Cw:OL O2}{LR:AL W2}{F:O->W->Option (PR (O1×W1) (O2×W2))}
 (h:∀b a r,F b a=some r->FnP P f (aTo.enc (os.mo b) a) (os.enc (os.mo b) b) (enP true vf Bv Cw LR r)):aAh P f (Jl pos os aTo vf Bv Cw LR F):=by
 have hP:=lc (pos:=pos) h;intro args J
 have key:∀c,Jl pos os aTo vf Bv Cw LR F args J.heap=some c->∃Y,(∀l∈Y,l<J.heap.length)/\((∃ef,c=.ret ef/\(ef.rd=Y/\ef.whole=true/\∀l∈ef.up.map (·.1),l∈Y)/\xE true pos os aTo vf Bv Cw LR F args J.heap=some (.ret ef.val,nu J.heap ef.up++ef.nw))\/∃x H',c=.pan x H'/\xE true pos os aTo vf Bv Cw LR F args J.heap=some (.panic x,H')):=by
  intro c he;unfold Jl at he;simp only[eS]at he;obtain⟨Y,hρ,he⟩:=he;cases hc:(Lp Y&&(decide (os.mm<=Y.length)&&(decide (aTo.mm<=Y.length)&&(decide (Y.length<=vf.size)&&decide (Y.length<=Cw.size)))))with
  |false=>simp [hc]at he
  |true=>
   simp only[hc,jF,eS]at he;obtain⟨xs,hxs,b,hb,a,ha,q,hq,he⟩:=he;refine⟨Y,fun l hl=>?_,?_⟩
   ·obtain⟨i,hi⟩:=List.getElem?_of_mem hl;obtain⟨x,_,Ea⟩:=(acs hxs).2 i l hi
    grind
   ·have aoV:xE true pos os aTo vf Bv Cw LR F args J.heap=prc q (fun r=>some (.ret ((sE (Bv.enc (vf.mo r.1) r.2)).qo (pg Y J.heap.length)),xD Y J.heap (vf.enc (vf.mo r.1) r.1)))
     (fun r=>some (.panic ((sE (LR.enc (Cw.mo r.1) r.2)).qo (pg Y J.heap.length)),xD Y J.heap (Cw.enc (Cw.mo r.1) r.1))):=by
     simp_all [xE,pkO]
    cases q with
    |ok r=>
     simp only[prc,eT]at he;subst he;left;refine⟨_,rfl,⟨rfl,rfl,fun l hl=>?_⟩,?_⟩
     ·simp only[List.mem_map]at hl;obtain⟨p,hp,rfl⟩:=hl;exact(List.of_mem_zip hp).1
     ·rw[aoV];simp only[prc,apx];rfl
    |pn r=>
     grind [prc]
 refine⟨fun ef he=>?_,fun x H' he=>?_⟩
 ·obtain⟨Y,rQ,⟨ef',hc,⟨h1,h2,h3⟩,hx⟩|⟨_,_,hc,_⟩⟩:=key _ he
  ·simp only[CO.ret.injEq]at hc;subst hc;refine⟨⟨by rw[h1];exact rQ,by rw[h1];exact h3⟩,fun J' _ _ hw=>?_⟩;have hh:=hw h2;have:=hP args J' (.ret ef.val) (nu J.heap ef.up++ef.nw) (by rw[hh];exact hx);rw[hh];exact this
  ·cases hc
 ·obtain⟨Y,rQ,⟨ef',hc,_⟩|⟨x',H2,hc,hx⟩⟩:=key _ he
  ·cases hc
  ·simp only[CO.pan.injEq]at hc;obtain⟨rfl,rfl⟩:=hc;intro J' hh;exact hP args J' (.panic x) H' (by rw[hh];exact hx)
end xE
def AC:List (Nat×atj)->aTK->atj
 |[],_,_,_=>none
 |(g,e)::t,f,args,H=>if f=g then e args H else AC t f args H
def l7:∀f args (J:jT) o H',AC [] f args J.heap=some (o,H')->Bt P f args J (fun o' GB=>o'=o/\GB=H'):=by
 intro f args J r H' h;cases h
def kz{e:atj}{t:List (Nat×atj)}(h1:aKl P g e)(h2:∀f args (J:jT) o H',AC t f args J.heap=some (o,H')->Bt P f args J (fun o' GB=>o'=o/\GB=H')):
 ∀f args (J:jT) o H',AC ((g,e)::t) f args J.heap=some (o,H')->Bt P f args J (fun o' GB=>o'=o/\GB=H'):=by
 intro f args J r H' h;simp only[AC]at h;split at h
 ·rename_i hg;subst hg;exact h1 _ _ _ _ h
 ·exact h2 _ _ _ _ _ h
def VZ:List (Nat×(List AV->List j6->Option CO))->aTK->List AV->List j6->Option CO
 |[],_,_,_=>none
 |(g,e)::t,f,args,H=>if f=g then e args H else VZ t f args H
def tK:∀f args (J:jT),(∀e,VZ [] f args J.heap=some (.ret e)->Jj P f args J e)/\∀x H',VZ [] f args J.heap=some (.pan x H')->au1 P f args J.heap x H':=by
 intro f args J;exact⟨fun e h=>(by cases h),fun x H' h=>(by cases h)⟩
def nS{e:List AV->List j6->Option CO}{t:List (Nat×(List AV->List j6->Option CO))}(h1:aAh P g e)(h2:∀f args (J:jT),(∀e,VZ t f args J.heap=some (.ret e)->Jj P f args J e)/\∀x H',VZ t f args J.heap=some (.pan x H')->au1 P f args J.heap x H'):
 ∀f args (J:jT),(∀ef,VZ ((g,e)::t) f args J.heap=some (.ret ef)->Jj P f args J ef)/\∀x H',VZ ((g,e)::t) f args J.heap=some (.pan x H')->au1 P f args J.heap x H':=by
 intro f args J;simp only[VZ];by_cases hg:f=g
 ·subst hg;simp only[jN];exact h1 args J
 grind
abbrev YK:=aTK->List AV->List j6->Option (vB×List j6)
variable {cr:YK}
section unw

def ahK(cr cp:YK)(en:Option AV->jT->Option R):List (aTK×List AV)->Option AV->jT->Option R
 |[],m,J=>en m J
 |(f,args)::ds,none,J=>(cr f args J.heap).bind fun q=>match q with
  |(.ret _,H')=>ahK cr cp en ds none {J with heap:=H',df:=ds}
  |(.panic _,_)=>none
 |(f,args)::ds,some x,J=>(cp f (args++[x]) J.heap).bind fun q=>match q with
  |(.ret _,H')=>ahK cr cp en ds none {J with heap:=H',df:=ds}
  |(.panic x',H')=>ahK cr cp en ds (some x') {J with heap:=H',df:=ds}
theorem aDg {cp:YK}{en:Option AV->jT->Option R}{m:Option AV}:ahK cr cp en [] m J=en m J:=by cases m<;>rfl
def aQL(cr cp:YK)(en:Option AV->jT->Option R)(ds:List (aTK×List AV))(J:jT):vB×List j6->Option R
 |(.ret _,H')=>ahK cr cp en ds none {J with heap:=H',df:=ds}
 |(.panic x',H')=>ahK cr cp en ds (some x') {J with heap:=H',df:=ds}
def aQM(cr cp:YK)(en:Option AV->jT->Option R)(ds:List (aTK×List AV))(J:jT):vB×List j6->Option R
 |(.ret _,H')=>ahK cr cp en ds none {J with heap:=H',df:=ds}
 |(.panic x',H')=>none
def aKm {cp:YK}{en:Option AV->jT->Option R}:ahK cr cp en ((f,args)::ds) none J=(cr f args J.heap).bind (aQM cr cp en ds J):=by
 simp only[ahK];congr 1
def aKn {cp:YK}{en:Option AV->jT->Option R}:ahK cr cp en ((f,args)::ds) (some x) J=(cp f (args++[x]) J.heap).bind (aQL cr cp en ds J):=by
 simp only[ahK];congr 1
def QOK(P:aTL)(T:aTK->aTM->aTN->Array aTM->(Ending->aTN->Prop)->Prop)(c:YK):Prop:=∀f args (J:jT) o H',c f args J.heap=some (o,H')->enters P f=true/\Zj P (T f) 0 args J (fun o' GB=>o'=o/\GB=H')
def Zj.mono(hT:aiI T){K K':vB->List j6->Prop}(h:Zj P T l args J K)(hk:∀o H,K o H->K' o H):Zj P T l args J K':=by
 intro C U a w hP S vs hr;refine hT.mono _ _ _ _ _ ?_ (h C U a w hP S vs hr)
 grind
def ae8{P:aTL}{cr cp:YK}{en:Option AV->jT->Option R}{zx:Option AV->jT->Prop}{r:R}(hr:QOK P (axk P) cr)(hp:QOK P (axl P) cp)(he:∀m J,J.df=[]->en m J=some r->zx m J):
 ∀(ds:List (aTK×List AV))(m:Option AV)(J:jT),J.df=ds->ahK cr cp en ds m J=some r->apg P zx ds m J
 |[],m,J,hd,h=>by rw[aDg]at h;exact he m J hd h
 |(f,args)::ds,none,J,hd,h=>by
  simp only[ahK,eS]at h;obtain⟨⟨o,H'⟩,hc,h⟩:=h;obtain⟨h1,h2⟩:=hr f args {J with df:=ds} o H' hc;refine⟨h1,h2.mono arm ?_⟩;rintro o' GB ⟨rfl,rfl⟩;cases o' with
  |ret x=>exact ae8 hr hp he ds none _ rfl h
  |panic x=>cases h
 |(f,args)::ds,some x,J,hd,h=>by
  simp only[ahK,eS]at h;obtain⟨⟨o,H'⟩,hc,h⟩:=h;obtain⟨h1,h2⟩:=hp f (args++[x]) {J with df:=ds} o H' hc;refine⟨h1,h2.mono arn ?_⟩;rintro o' GB ⟨rfl,rfl⟩;cases o' with
  |ret x=>exact ae8 hr hp he ds none _ rfl h
  |panic x=>exact ae8 hr hp he ds (some x) _ rfl h
def WQ:List (Nat×atj)->YK
 |[],_,_,_=>none
 |(g,e)::t,f,args,H=>if f=g then e args H else WQ t f args H
def Ry{T:aTK->aTM->aTN->Array aTM->(Ending->aTN->Prop)->Prop}:QOK P T (WQ []):=by
 intro f args J o H' h;cases h
def MY{T:aTK->aTM->aTN->Array aTM->(Ending->aTN->Prop)->Prop}{e:atj}{t:List (Nat×atj)}(h1:∀args (J:jT) o H',e args J.heap=some (o,H')->enters P g=true/\Zj P (T g) 0 args J (fun o' GB=>o'=o/\GB=H'))(h2:QOK P T (WQ t)):QOK P T (WQ ((g,e)::t)):=by
 intro f args J o H' h;simp only[WQ]at h;split at h
 ·grind
 ·exact h2 _ _ _ _ _ h
def enR(vf:OL O1)(Bv:AL W1)(r:O1×W1):vB×List j6:=(.ret (sE (Bv.enc (vf.mo r.1) r.2)),vf.enc (vf.mo r.1) r.1)
def Ps(pos:List YJ)(os:OL O)(aTo:AL W)(vf:OL O1)(Bv:AL W1)(F:O->W->Option (O1×W1)):atj:=asH pos os aTo vf.size (enR vf Bv) F
def acw(hT:aiI T)(hz:∀(U U':Nat->aTM)(k k':Nat),T (U k)=T (U' k'))(hen:enters P f=true)
 (h:∀b a r,F b a=some r->FnT P T (aTo.enc (os.mo b) a) (os.enc (os.mo b) b) (fun o H'=>o=(enR vf Bv r).1/\H'=(enR vf Bv r).2)):∀args (J:jT) o H',Ps pos os aTo vf Bv F args J.heap=some (o,H')->enters P f=true/\Zj P T 0 args J (fun o' GB=>o'=o/\GB=H'):=by
 intro args J o H' he;obtain⟨b,a,q,hq,xR⟩:=aDf (P:=P) (T:=T) hT hz (fun q=>by simp only[enR,vf.sz];exact Nat.le_refl _) he;exact⟨hen,xR (h b a q hq)⟩
end unw
section steps
variable {k:List Kt} {q:PR W O}
def aIj{f:W->Option (vB×List j6)}{g:O->Option (vB×List j6)}:Zk M kH dst rest k J (prc q f g)=prc q (fun x=>Zk M kH dst rest k J (f x)) (fun y=>Zk M kH dst rest k J (g y)):=by cases q<;>rfl
def aFS{f:W->Option CO}{g:O->Option CO}:Ug M p dst rest j tr k J (prc q f g)=prc q (fun x=>Ug M p dst rest j tr k J (f x)) (fun y=>Ug M p dst rest j tr k J (g y)):=by cases q<;>rfl
end steps
attribute [go_sem] aQK aOQ aOR aIj aFS xE Jl Ps asH enR AC VZ WQ aDg aKm aKn aQL aQM List.zip_cons_cons List.zip_nil_left vB.qo
section ends
variable {W2 O2:Type}
def qM(P:aTL)(rs:List ResultVar)(pos:List YJ)(base:List Nat)(low:Nat)(os:OL O1)(s:AL W1)(J:jT):Option (PR (O1×W1) (O2×W2)):=(xg P rs pos base low os s J).map .ok
def qN(pos:List YJ)(base:List Nat)(low:Nat)(os:OL O2)(s:AL W2)(x:AV)(J:jT):Option (PR (O1×W1) (O2×W2)):=(aFI [x] pos base low os s J).map .pn
attribute [go_sem] qM qN
theorem ay1{y:AV}:sE [y]=y:=rfl
def aMO{fn:Func}{r:PR (O1×W1) (O2×W2)}{M:kL (PR (O1×W1) (O2×W2))}{vf:OL O1}{Bv:AL W1}{Cw:OL O2}{LR:AL W2}{p2:List YJ}{b2:List Nat}(G:FY M)(hf:M.P.funcs[f]? =some fn)(hb:fn.body=some M.body)(sB:(fn.name != "runtime.NumGoroutine")=true)
 (G8:ua H.length args) (JG:∀x∈H,rX H.length x) (hn:fn.ntmps=n) (Lo:fn.results=rs.toArray) (hb1:b1=eV low) (hb2:b2=eV low) (zz:∀b a,∃y,LR.enc (Cw.mo b) a=[y])
 (ho:M.out=qM M.P rs p1 b1 low vf Bv) (hq:M.q6=qN p2 b2 low Cw LR)
 (h:run M [.at []] {kf:=args++eW (n-args.length) .any,heap:=H,low:=H.length}=some r):FnP M.P f args H (enP true vf Bv Cw LR r):=by
 refine apq G hf hb sB G8 JG hn Lo (fun J hs=>?_) (fun x J hs=>?_) h
 ·rw[ho]at hs;unfold qM at hs;rw[eU]at hs;obtain⟨q,hq,rfl⟩:=hs;obtain⟨hd,xs,hx,JF⟩:=Zm hb1 hq;rw[hd];exact Rw hx JF
 ·rw[hq]at hs;unfold qN at hs;rw[eU]at hs;obtain⟨q,hq,rfl⟩:=hs;obtain⟨hd,JF⟩:=apv hb2 hq;rw[hd];obtain⟨y,hy⟩:=zz q.1 q.2;rw[hy]at JF;have:=aCM (P:=M.P) (rs:=rs) JF.e;simp only[enP,prc,hy,ay1,pkO];exact this
def apy(P:aTL)(rs:List ResultVar)(p1:List YJ)(base:List Nat)(low:Nat)(vf:OL O1)(s1:AL W1)(p2:List YJ)(Cw:OL O2)(s2:AL W2)(J:jT):Option (PR (O1×W1) (O2×W2)):=
 ((xg P rs p1 base low vf s1 J).map .ok).or ((xg P rs p2 base low Cw s2 J).map .pn)
attribute [go_sem] apy
def aMP{fn:Func}{r:PR (O1×W1) (O2×W2)}{M:kL (PR (O1×W1) (O2×W2))}{vf:OL O1}{Bv:AL W1}{Cw:OL O2}{LR:AL W2}{p2:List YJ}(G:FY M)(hf:M.P.funcs[f]? =some fn)(hb:fn.body=some M.body)(sB:(fn.name != "runtime.NumGoroutine")=true)
 (G8:ua H.length args) (JG:∀x∈H,rX H.length x) (hn:fn.ntmps=n) (Lo:fn.results=rs.toArray) (hb1:b1=eV low) (ho:M.out=apy M.P rs p1 b1 low vf Bv p2 Cw LR)
 (h:run M [.at []] {kf:=args++eW (n-args.length) .any,heap:=H,low:=H.length}=some r) (hP:∀x J',M.q6 x J'=none:=by intros;rfl):FnP M.P f args H (enP false vf Bv Cw LR r):=by
 refine apq G hf hb sB G8 JG hn Lo (fun J hs=>?_) (fun x J hs=>by rw[hP x J]at hs;cases hs) h;rw[ho]at hs;unfold apy at hs;rw[Option.or_eq_some_iff]at hs;rcases hs with hs|⟨_,hs⟩
 ·rw[eU]at hs;obtain⟨q,hq,rfl⟩:=hs;obtain⟨hd,xs,hx,JF⟩:=Zm hb1 hq;rw[hd];exact Rw hx JF
 ·rw[eU]at hs;obtain⟨q,hq,rfl⟩:=hs;obtain⟨hd,xs,hx,JF⟩:=Zm hb1 hq;rw[hd];exact Rw hx JF
def enC(P:aTL)(rs:List ResultVar)(t:Ty Y):Option AV->jT->Option Y
 |none,J=>lR P rs t J
 |some _,_=>none
def aQN{t:Ty Y}:enC P rs t none J=lR P rs t J/\∀x,enC P rs t (some x) J=none:=⟨rfl,fun _=>rfl⟩
def aMQ(cr cp:YK)(P:aTL)(rs:List ResultVar)(t:Ty Y)(J:jT):Option Y:=ahK cr cp (enC P rs t) J.df none J
def aG2(cr cp:YK)(P:aTL)(rs:List ResultVar)(t:Ty Y)(x:AV)(J:jT):Option Y:=ahK cr cp (enC P rs t) J.df (some x) J
attribute [go_sem] aQN aMQ aG2
def aDh{M:kL Y}{fn:Func}{r:Y}{t:Ty Y}{cp:YK}(G:FY M)(hcr:QOK M.P (axk M.P) cr)(hcp:QOK M.P (axl M.P) cp)(hf:M.P.funcs[f]? =some fn)(hb:fn.body=some M.body)(sB:(fn.name != "runtime.NumGoroutine")=true)(G8:ua 0 args)
 (hn:fn.ntmps=n) (Lo:fn.results=rs.toArray) (ho:M.out=aMQ cr cp M.P rs t) (hq:M.q6=aG2 cr cp M.P rs t)
 (h:run M [.at []] {kf:=args++eW (n-args.length) .any,heap:=[]}=some r):JE M.P f args (fun v=>v=t.enc r):=by
 have aaD:∀m J,J.df=[]->enC M.P rs t m J=some r->aHI M.P rs (fun v=>v=t.enc r) m J:=by
  intro m J _ he;cases m with
  |none=>exact(aly he).2
  |some x=>cases he
 refine azV hf hb sB G8 ?_;rw[Lo,hn];refine aeY G h (fun J hs=>?_) (fun x J hs=>?_)
 ·rw[ho]at hs;have:=ae8 hcr hcp aaD J.df none J rfl hs;exact⟨this,this⟩
 ·rw[hq]at hs;exact ae8 hcr hcp aaD J.df (some x) J rfl hs
theorem aDi{M:kL (O1×W1)}{fn:Func}{id:Nat}{r:O1×W1}{vf:OL O1}{Bv:AL W1}(G:FY M)
 (hf:M.P.funcs[f]? =some fn) (hb:fn.body=some M.body) (Pr:M.body=.seq (.region id kH false) y) (atg:kH.toList=o::rest) (ahJ:asF o=true) (aDe:alE rest=true)
 (G8:ua H.length (args++[x])) (JG:∀x∈H,rX H.length x) (hn:fn.ntmps=n) (Lo:fn.results=rs.toArray) (hb1:b1=eV low) (ho:M.out=xg M.P rs p1 b1 low vf Bv)
 (h:run M [.kH kH rest,.cut [1],.at [1]] (jT.put {kf:=args++eW (n-args.length) .any,heap:=H,low:=H.length} o.dst x)=some r) (hP:∀x J',M.q6 x J'=none:=by intros;rfl):
 FnT M.P (axl M.P f) (args++[x]) H (fun o H'=>o=(enR vf Bv r).1/\H'=(enR vf Bv r).2):=by
 refine ath hf (by rw[hb,Pr]) atg ahJ G8 JG hn Lo (aG1 G Pr aDe (fun J hs=>?_) h hP);rw[ho]at hs;obtain⟨hd,xs,hx,JF⟩:=Zm hb1 hs;have:=Rw hx JF;exact⟨⟨hd,this⟩,hd,this⟩
theorem aDj{M:kL (O1×W1)}{fn:Func}{id:Nat}{r:O1×W1}{vf:OL O1}{Bv:AL W1}(G:FY M)
 (hf:M.P.funcs[f]? =some fn) (hb:fn.body=some M.body) (Pr:M.body=.seq (.region id kH false) y) (atg:kH.toList=o::rest) (ahJ:asF o=true) (aDe:alE rest=true)
 (G8:ua H.length args) (JG:∀x∈H,rX H.length x) (hn:fn.ntmps=n) (Lo:fn.results=rs.toArray) (hb1:b1=eV low) (ho:M.out=xg M.P rs p1 b1 low vf Bv)
 (h:run M [.kH kH rest,.cut [1],.at [1]] (jT.put {kf:=args++eW (n-args.length) .any,heap:=H,low:=H.length} o.dst (.sX .nilIface))=some r) (hP:∀x J',M.q6 x J'=none:=by intros;rfl):
 FnT M.P (axk M.P f) args H (fun o H'=>o=(enR vf Bv r).1/\H'=(enR vf Bv r).2):=by
 refine ati hf (by rw[hb,Pr]) atg ahJ G8 JG hn Lo (aG1 G Pr aDe (fun J hs=>?_) h hP);rw[ho]at hs;obtain⟨hd,xs,hx,JF⟩:=Zm hb1 hs;have:=Rw hx JF;exact⟨⟨hd,this⟩,hd,this⟩
end ends
def dIf(t:TypeId)(a:Ty W):AV->Option W
 |.iface t' v=>if t'=t then a.mK [] v else none
 |_=>none
def aIk{t:TypeId}{y:AV}(h:Pg x y):Pg (.iface t x) (.iface t y):=by
 rintro E v ⟨u,hu,r⟩;exact⟨u,hu,h _ _ r⟩
def aaJ(t:TypeId)(a:Ty W):Ty W where
 enc x:=.iface t (a.enc x)
 mK _:=dIf t a
 ok H n v x h:=by
  unfold dIf at h;split at h
  ·split at h
   ·rename_i ht;subst ht;exact Co.sub (aIk (a.ok [] n _ _ h).nI) (a.nb n x)
   ·cases h
  ·cases h
 nb n x:=a.nb n x
def aOT{t:TypeId}{a:Ty W}:(∀x,(aaJ t a).enc x=.iface t (a.enc x))/\(∀H v,(aaJ t a).mK H v=dIf t a v)/\∀v,dIf t a (.iface t v)=a.mK [] v:=⟨fun _=>rfl,fun _ _=>rfl,fun _=>by simp [dIf]⟩
def dE0:AV->Option Unit
 |.agg []=>some ()
 |_=>none
def aiP:Ty Unit where
 enc _:=.agg []
 mK _:=dE0
 ok H n v x h:=by
  unfold dE0 at h;split at h
  ·exact Co.same trivial
  ·cases h
 nb n x:=trivial
def aOU:(∀x,aiP.enc x=.agg [])/\(∀H v,aiP.mK H v=dE0 v)/\dE0 (.agg [])=some ():=⟨fun _=>rfl,fun _ _=>rfl,rfl⟩
attribute [go_sem] aOT aOU
def Qy(t:Ty W)(p:kp×W):AV×AV:=(.str (sb p.1),t.enc p.2)
section
variable {t:Ty W}
theorem aiQ:∀xs:List (kp×W),Ub (xs.map (Qy t))=true
 |[]=>rfl
 |_::xs=>aiQ xs
theorem apz(s:kp):∀xs:List (kp×W),zy (sb s) (xs.map (Qy t))=(FZ s xs).map t.enc
 |[]=>rfl
 |(k,v)::xs=>by
  show(bif sb s==sb k then some (t.enc v)else zy (sb s) (xs.map (Qy t)))=_;rw[aAc,apz s xs]
  grind [FZ]
theorem asI(s:kp)(v:W):∀xs:List (kp×W),Qp (sb s) (t.enc v) (xs.map (Qy t))=(agE s v xs).map (Qy t)
 |[]=>rfl
 |(k,u)::xs=>by
  show(bif sb s==sb k then(AV.str (sb k),t.enc v)::xs.map (Qy t)else(AV.str (sb k),t.enc u)::Qp (sb s) (t.enc v) (xs.map (Qy t)))=_;rw[aAc,asI s v xs];simp only[agE];cases s==k<;>rfl
def oel(o:Option W)(a:γ)(f:W->γ):γ:=match o with
 |none=>a
 |some x=>f x
def aKo{a:γ}{f:W->γ}:oel none a f=a:=rfl
def aKp{x:W}{a:γ}{f:W->γ}:oel (some x) a f=f x:=rfl
def aKq{z:AV}{s:kp}{xs:List (kp×W)}:aq5 z l (sb s) (some (.map (mp (Qy t) xs)))=oel (FZ s xs) (some {val:=.asN [z,.bool false],rd:=[l]}) (fun x=>some {val:=.asN [t.enc x,.bool true],rd:=[l]}):=by
 rw[qj];simp only[aq5,aiQ,jN,apz];cases FZ s xs<;>rfl
def aMR{s:kp}{v:W}{xs:List (kp×W)}:CS l (sb s) (t.enc v) (some (.map (mp (Qy t) xs)))=some {val:=.any,rd:=[l],up:=[(l,.map (mp (Qy t) (agE s v xs)))]}:=by
 grind [qj,CS,aiQ,asI]
def auz(n:Nat)(xs:List (kp×W)):rX n (.map (mp (Qy t) xs))=True:=by
 refine eq_true fun p hp=>?_
 rw[qj,List.mem_map]at hp;obtain⟨q,_,rfl⟩:=hp;exact⟨trivial,t.nb n q.2⟩
def aDk(Y:Nat->Nat)(xs:List (kp×W)):(mp (Qy t) xs).map (fun p=>(AV.qo Y p.1,AV.qo Y p.2))=mp (Qy t) xs:=by
 rw[qj,List.map_map];refine List.map_congr_left fun q _=>?_
 show(AV.qo Y (.str (sb q.1)),AV.qo Y (t.enc q.2))=(.str (sb q.1),t.enc q.2);rw[Qs Y _ (t.nb 0 q.2)];rfl
theorem aDl(τ:Nat->Nat)(xs:List (kp×W)):(j6.map (mp (Qy t) xs)).qo τ=.map (mp (Qy t) xs):=by
 show j6.map ((mp (Qy t) xs).map _)=_;congr 1;exact aDk τ xs
def anZ(t:Ty W)(x:j6):Option (List (kp×W)):= @dite _ (∃xs,x=.map (mp (Qy t) xs)) (Classical.propDecidable _) (fun h=>some h.choose) (fun _=>none)
theorem aAi{x:j6}{xs:List (kp×W)}(h:anZ t x=some xs):x=.map (mp (Qy t) xs):=by
 unfold anZ at h;split at h
 all_goals grind
end
section inj
variable {t:Ty W} (hinj:∀x y,t.enc x=t.enc y->x=y)
include hinj
theorem aG3:∀xs ys:List (kp×W),xs.map (Qy t)=ys.map (Qy t)->xs=ys
 |[],[],_=>rfl
 |[],_::_,h=>by simp at h
 |_::_,[],h=>by simp at h
 |(s,x)::xs,(s',y)::ys,h=>by
  simp only[List.map_cons,List.cons.injEq]at h;obtain⟨h1,h2⟩:=h;simp only[Qy,Prod.mk.injEq,AV.str.injEq]at h1
  have e1:s=s':=by
   grind [Ww]
  rw[e1,hinj _ _ h1.2,aG3 xs ys h2]
theorem aG4(xs:List (kp×W)):anZ t (.map (mp (Qy t) xs))=some xs:=by
 have hh:∃ys,(j6.map (mp (Qy t) xs))=.map (mp (Qy t) ys):=⟨xs,rfl⟩
 grind [anZ,qj,aG3]
theorem aIl:anZ t (.map (mp Hq []))=some []:=by
 have:=aG4 hinj [];rw[qj]at this ⊢;exact this
def aKr:(∀xs,anZ t (.map (mp (Qy t) xs))=some xs)/\anZ t (.map [])=some []/\anZ t (.map (mp Hq []))=some []:=by
 grind [aG4,aIl,qj]
end inj
section og

def atk(t:Ty W):OG (List (kp×W)) where
 enc _ xs:=.map (mp (Qy t) xs)
 mK _ _ _:=anZ t
 len _:=0
 mm:=0
 nb L g:=of_eq_true (auz 0 g)
 ok Y L H n x g _ h:=by
  rw[aAi h];rw[aDl];exact .inr (.inl ⟨rfl,of_eq_true (auz n g)⟩)
 asB Y L H x g h:=by
  rw[aAi h];rfl
def aOV{t:Ty W}:(∀L g,(atk t).enc L g=.map (mp (Qy t) g))/\(∀Y L H x,(atk t).mK Y L H x=anZ t x)/\(∀g,(atk t).len g=0)/\(atk t).mm=0:=⟨fun _ _=>rfl,fun _ _ _ _=>rfl,fun _=>rfl,rfl⟩
def oM(t:Ty W):ZO:=⟨fun _ _ x=>(anZ t x).bind fun xs=>some (.map (mp (Qy t) xs)),fun H n x y h=>by
 simp only[eS,eT]at h;obtain⟨xs,hx,rfl⟩:=h;rw[aAi hx];exact .inr (.inl ⟨rfl,of_eq_true (auz n xs)⟩)⟩
def aR6{t:Ty W}{x:j6}:(oM t).f H n x=(anZ t x).bind fun xs=>some (.map (mp (Qy t) xs)):=rfl
end og
def avE
 (h:∀b a r,F b a=some r->FnG P f (aTo.enc (os.mo b) a) (os.enc (os.mo b) b) (fun o H'=>o=.ret (sE (Bv.enc (vf.mo r.1) r.2))/\H'=vf.enc (vf.mo r.1) r.1)):
 aAh P f (Jl pos os aTo vf Bv vf Bv (fun b a=>(F b a).map fun r=>(PR.ok r:PR (O1×W1) (O1×W1)))):=by
 refine AB (fun b a r hr=>?_);rw[eU]at hr;obtain⟨r',hr,rfl⟩:=hr;exact h b a r' hr
def aMS(v:AV)(s:AL δ)(Y:List Nat)(L:Er)(H:List j6):List AV->Option δ
 |x::xs=>nY (x=v) (s.mK Y L H xs)
 |_=>none
def alK(v:AV)(hv:v.nb 0)(s:AL δ):AL δ where
 enc L g:=v::s.enc L g
 mK:=aMS v s
 mm:=s.mm
 nb L g:=⟨AV.asj (Nat.zero_le _) v hv,s.nb L g⟩
 ok Y L H n vs g hc h:=by
  unfold aMS at h;split at h
  ·rw[ng]at h;obtain⟨rfl,h⟩:=h;refine At.cons ?_ (s.ok Y L H n _ _ hc h);rw[Qs _ _ hv];exact Co.same (AV.asj (Nat.zero_le _) _ hv)
  ·cases h
def aQO{v:AV}{hv:v.nb 0}{s:AL δ}:(∀L g,(alK v hv s).enc L g=v::s.enc L g)/\(∀Y L H xs,(alK v hv s).mK Y L H xs=aMS v s Y L H xs)/\(alK v hv s).mm=s.mm:=⟨fun _ _=>rfl,fun _ _ _ _=>rfl,rfl⟩
attribute [go_sem] aQO aMS
section steps
variable {k:List Kt} {o:Option W}
def aIm{f:W->Option wq}:tJ M kH dst rest k J (oel o a f)=oel o (tJ M kH dst rest k J a) (fun x=>tJ M kH dst rest k J (f x)):=by cases o<;>rfl
def aFT{f:W->Option wq}:Ay M p dst rest j tr k J (oel o a f)=oel o (Ay M p dst rest j tr k J a) (fun x=>Ay M p dst rest j tr k J (f x)):=by cases o<;>rfl
end steps
attribute [go_sem] aR6 aKo aKp aKq aOV aDl aIm aFT azC
attribute [go_sem high] auz aDk
def aMT(d:Nat):Code->Bool
 | .seq (.region _ kH false) _=>match kH.toList with
   |o::rest=>asF o&&(o.dst==some d)&&alE rest
   |[]=>false
 |_=>false
def ay2{c:Code}(h:aMT d c=true):∃id kH y o rest,c=.seq (.region id kH false) y/\kH.toList=o::rest/\asF o=true/\o.dst=some d/\alE rest=true:=by
 unfold aMT at h
 grind
section aOW

def apA{M:kL (O1×W1)}{fn:Func}{r:O1×W1}{vf:OL O1}{Bv:AL W1}(G:FY M)
 (hf:M.P.funcs[f]? =some fn) (hb:fn.body=some M.body) (ahJ:aMT d M.body=true)
 (G8:ua H.length (args++[x])) (JG:∀x∈H,rX H.length x) (hn:fn.ntmps=n) (Lo:fn.results=rs.toArray) (hb1:b1=eV low) (ho:M.out=xg M.P rs p1 b1 low vf Bv)
 (h:run M [.kH (uc M [0]) ((uc M [0]).toList.drop 1),.cut [1],.at [1]] (jT.put {kf:=args++eW (n-args.length) .any,heap:=H,low:=H.length} (some d) x)=some r) (hP:∀x J',M.q6 x J'=none:=by intros;rfl):
 FnT M.P (axl M.P f) (args++[x]) H (fun o H'=>o=(enR vf Bv r).1/\H'=(enR vf Bv r).2):=by
 obtain⟨id,kH,y,o,rest,Pr,atg,h1,h2,h3⟩:=ay2 ahJ;have e:uc M [0]=kH:=by unfold uc;rw[Pr];rfl
 grind [aDi]
def apB{M:kL (O1×W1)}{fn:Func}{r:O1×W1}{vf:OL O1}{Bv:AL W1}(G:FY M)
 (hf:M.P.funcs[f]? =some fn) (hb:fn.body=some M.body) (ahJ:aMT d M.body=true)
 (G8:ua H.length args) (JG:∀x∈H,rX H.length x) (hn:fn.ntmps=n) (Lo:fn.results=rs.toArray) (hb1:b1=eV low) (ho:M.out=xg M.P rs p1 b1 low vf Bv)
 (h:run M [.kH (uc M [0]) ((uc M [0]).toList.drop 1),.cut [1],.at [1]] (jT.put {kf:=args++eW (n-args.length) .any,heap:=H,low:=H.length} (some d) (.sX .nilIface))=some r) (hP:∀x J',M.q6 x J'=none:=by intros;rfl):
 FnT M.P (axk M.P f) args H (fun o H'=>o=(enR vf Bv r).1/\H'=(enR vf Bv r).2):=by
 obtain⟨id,kH,y,o,rest,Pr,atg,h1,h2,h3⟩:=ay2 ahJ;have e:uc M [0]=kH:=by unfold uc;rw[Pr];rfl
 grind [aDj]
end aOW
section
variable {C:qC} {U:Nat->aTM} {a:Act} {w:aTN}

def aFU(P:aTL)(rs:List ResultVar)(j:Nat)(r:Row γ)(s:Jk (List γ×Unit) W)(J:jT):Option ((List γ×Unit)×W):=
 bif J.df.isEmpty then(Bu P J rs).bind fun xs=>aKs (Hl j r.sz false ⟨xs,J.heap,0,[]⟩) j r s J.low else none
where
 aKs (τ:jT) (j:Nat) (r:Row γ) (s:Jk (List γ×Unit) W) (low:Nat):Option ((List γ×Unit)×W):=
  match τ.kf[j]? with
  |some (.lV l _)=>match τ.heap[l]? with
   |some y=>nY (low=0/\rX 0 y/\ua 1 (sO (aeW 0 l) τ.kf)) (((tY (Uh false r) rW).mK [y] [y]).bind fun b=>(s.mK b [y] (sO (aeW 0 l) τ.kf)).bind fun a=>bif decide (s.mm<=1)then some (b,a)else none)
   |none=>none
  |_=>none
def alG{r:Row γ}{s:Jk (List γ×Unit) W}{q:(List γ×Unit)×W}(h:aFU P rs j r s J=some q):
 J.df=[]/\∃xs,Bu P J rs=some xs/\anW ⟨xs,J.heap,J.low,[]⟩ ⟨s.enc q.1 q.2,(tY (Uh false r) rW).enc q.1,J.low,[]⟩:=by
 unfold aFU at h;cases hd0:J.df with
 |cons p q=>rw[hd0]at h;cases h
 |nil=>
 rw[hd0]at h;simp only[List.isEmpty_nil,jF]at h;simp only[eS]at h;obtain⟨xs,hx,h⟩:=h;refine⟨rfl,xs,hx,?_⟩;unfold aFU.aKs at h;split at h
 case h_2=>cases h
 rename_i l m hs;split at h
 case h_2=>cases h
 rename_i y hl;rw[ng]at h;obtain⟨⟨aSF,h1,h2⟩,h⟩:=h;simp only[eS]at h;obtain⟨b,hb,a,ha,h⟩:=h;cases hd:decide (s.mm<=1)with
 |false=>simp [hd]at h
 |true=>
  simp only[hd,jF,eT]at h;subst h;rw[aSF];have i1:LI ⟨xs,J.heap,0,[]⟩ (Hl j r.sz false ⟨xs,J.heap,0,[]⟩):=avn;have aQd:(Hl j r.sz false ⟨xs,J.heap,0,[]⟩).low=0:=by unfold Hl;split<;>rfl
  have aR1:(Hl j r.sz false ⟨xs,J.heap,0,[]⟩).df=[]:=by unfold Hl;split<;>rfl
  generalize hτ:Hl j r.sz false ⟨xs,J.heap,0,[]⟩=τ at*;have i2:anW ⟨τ.kf,τ.heap,0,[]⟩ ⟨sO (aeW 0 l) τ.kf,τ.heap.take 0++[y],0,[]⟩:=aiL hl (Nat.zero_le _) (by simp) h1 h2;have e:τ=⟨τ.kf,τ.heap,0,[]⟩:=by cases τ;grind
  rw[e]at i1;refine(i1.e.trans i2).trans ?_;simp only[List.take_zero,List.nil_append];obtain⟨h5,h6⟩:=(tY (Uh false r) rW).ok [y] 1 _ _ hb;refine LI.e (auW.imp (J:=⟨sO (aeW 0 l) τ.kf,[y],0,[]⟩) (J':=⟨s.enc b a,(tY (Uh false r) rW).enc b,0,[]⟩) ⟨⟨⟨rfl,Nat.zero_le _⟩,rfl,aiE⟩,?_,?_⟩)
  ·show At [y] ((tY (Uh false r) rW).enc b).length _ _;rw[h6];exact s.ok b [y] 1 _ a (jJ hd) ha
  grind
end
section open_
variable {k:List Kt}
def aFV{rd:List Nat}{up:List (Nat×j6)}{nw:List j6}{pr:Prop}:
 Ay M p dst rest j tr k J (some {val:=x,rd,up,nw,pre:=pr,whole:=true})=nY pr (nY (aeX M p tr j {val:=x,rd,up,nw,pre:=pr,whole:=true}) (run M (.YI p rest (j+1) (Qt tr j J.heap.length {val:=x,rd,up,nw,pre:=pr,whole:=true})::k) {J.put dst x with heap:=nu J.heap up++nw})):=by
 rw[<-alx];rfl
def aKt(M:kL R)(p:List Nat)(c:Nat)(o:Oper)(rest:List Oper)(j:Nat)(J:jT):Option wq->Prop
 |some e=>(e.pre/\e.up=[]/\e.nw=[])/\aiJ M p c rest (j+1) (J.put o.dst e.val)
 |none=>False
def aDm(M:kL R)(p:List Nat)(c:Nat)(o:Oper)(rest:List Oper)(j:Nat)(J:jT):Option (aTK×List AV)->Prop
 |some _=>False
 |none=>aKt M p c o rest j J (opX M.P J o.op)
def aG5(M:kL R)(p:List Nat)(c:Nat)(o:Oper)(rest:List Oper)(j:Nat)(J:jT):Option Bool->Prop
 |none=>False
 |some false=>aiJ M p c rest (j+1) (J.put o.dst (.sX undef))
 |some true=>aDm M p c o rest j J (nV J o.op)
def aFW{e:wq}:aKt M p c o rest j J (some e)=((e.pre/\e.up=[]/\e.nw=[])/\aiJ M p c rest (j+1) (J.put o.dst e.val)):=rfl
def aFX:aDm M p c o rest j J none=aKt M p c o rest j J (opX M.P J o.op):=rfl
def aFY:aG5 M p c o rest j J (some true)=aDm M p c o rest j J (nV J o.op):=rfl
def aDn:aG5 M p c o rest j J (some false)=aiJ M p c rest (j+1) (J.put o.dst (.sX undef)):=rfl
def aFZ(h:Pj M p c j=false):aiJ M p c (o::rest) j J=aG5 M p c o rest j J (qG (uc M p) o J):=by
 unfold Pj at h;show aco M.P (uc M p) c (o::rest) j J=_;simp only[aco,h];cases hw:qG (uc M p) o J with
 |none=>rfl
 |some b=>
  cases b with
  |false=>rfl
  |true=>
   simp only[aG5];cases hc:nV J o.op with
   |some q=>simp [aDm]
   |none=>
    simp only[true_and,aDm,<-uW];cases lK M.P J o.op with
    |none=>rfl
    |some e=>rfl
end open_
attribute [go_sem] aFV aFW aFX aFY aDn aFZ aFj aFU aFU.aKs
section

def aDo{E:D4}{r:Row W}{vs:List aTM}(h:kQ E ((lz r).enc []::ys) vs):∃base c,kQ E (.sX (.slice base 0 c)::ys) vs:=by
 obtain⟨u,us,e,⟨base,cap,hu,_⟩,h2⟩:=h;have hl:(mp r.enc ([]:List W)).length=0:=Qu _ _;rw[hl]at hu;exact⟨base,cap,u,us,e,hu,h2⟩
def aKu{r:Row W}{V:AV->Prop}(h:∀base c,JE P f (.sX (.slice base 0 c)::ys) V):JE P f ((lz r).enc []::ys) V:=by
 obtain⟨h1,h2,h3⟩:=h none 0;refine⟨h1,⟨(lz r).nb 0 _,h2.2⟩,fun C U w a b c d vs hv=>?_⟩;obtain⟨base,cap,hr⟩:=aDo hv;exact(h base cap).2.2 C U w a b c d vs hr
def aiR{r:Row W}(h:∀base c,FnG P f (.sX (.slice base 0 c)::ys) [] V):FnG P f ((lz r).enc []::ys) [] V:=by
 obtain⟨h1,h2,h2',h3⟩:=h none 0;refine⟨h1,⟨(lz r).nb 0 _,h2.2⟩,h2',fun C U w a b c d e e2 vs hv=>?_⟩;obtain⟨base,cap,hr⟩:=aDo hv;exact(h base cap).2.2.2 C U w a b c d e e2 vs hr
def aDp:cellsOf (.agg [])=some []:=rfl
def aF0:vA [] 0 []=[]:=rfl
def aQP:(∀l o v,(AV.ptr l o=AV.sX v)=False)/\(∀l o v,(AV.sX v=AV.ptr l o)=False)/\((AV.bool true=AV.bool false)=False)/\((AV.bool false=AV.bool true)=False):=by simp
def aG6:(AV.bool b).nb 0:=trivial
def aNH:(AV.sX v).nb 0:=trivial
end
attribute [go_sem] List.isEmpty_nil aDp aF0 aQP
def mU(P:aTL)(f:Func)(n:Nat)(out:jT->Option R)(cl:aTK->List AV->List j6->Option (AV×List j6):=lY [])(cd:aTK->List AV->Option AV:=yA [])
 (p4:List Nat->jT->Option jT:=nR []) (cut:List Nat->jT->Option jT:=MJ []) (wD:aTK->Bool:=lS []) (cp:aTK->List AV->List j6->Option (vB×List j6):=fun _ _ _=>none)
 (q6:AV->jT->Option R:=fun _ _=>none) (tI:aTK->Bool:=fun _=>false) (co:aTK->List AV->List j6->Option CO:=fun _ _ _=>none) (tX:aTK->Bool:=fun _=>false)
 (ce:aTK->List AV->List j6->Option wq:=fun _ _ _=>none) (js:List Nat->List (Int×Code):=fun _=>[]) (cy:Nat->List AV->List j6->Option (AV×List j6):=fun _ _ _=>none):kL R:=
 {P:=P,body:=f.body.getD .skip,cl:=cl,cd:=cd,p4:=p4,cut:=cut,n:=n,out:=out,wD:=wD,cp:=cp,q6:=q6,tI:=tI,co:=co,tX:=tX,ce:=ce,js:=js,cy:=cy}
section
variable {f:Func} {p4:List Nat->jT->Option jT} {cut:List Nat->jT->Option jT}
 {q6:AV->jT->Option R} {tI:aTK->Bool} {co:aTK->List AV->List j6->Option CO} {tX:aTK->Bool} {ce:aTK->List AV->List j6->Option wq} {js:List Nat->List (Int×Code)} {cy:Nat->List AV->List j6->Option (AV×List j6)}
def aQQ:(mU P f n out cl cd p4 cut wD cp q6 tI co tX ce js cy).P=P/\(mU P f n out cl cd p4 cut wD cp q6 tI co tX ce js cy).body=f.body.getD .skip/\(mU P f n out cl cd p4 cut wD cp q6 tI co tX ce js cy).n=n/\
 (mU P f n out cl cd p4 cut wD cp q6 tI co tX ce js cy).out=out/\(mU P f n out cl cd p4 cut wD cp q6 tI co tX ce js cy).cl=cl/\(mU P f n out cl cd p4 cut wD cp q6 tI co tX ce js cy).cd=cd/\
 (mU P f n out cl cd p4 cut wD cp q6 tI co tX ce js cy).p4=p4/\(mU P f n out cl cd p4 cut wD cp q6 tI co tX ce js cy).cut=cut/\(mU P f n out cl cd p4 cut wD cp q6 tI co tX ce js cy).wD=wD/\
 (mU P f n out cl cd p4 cut wD cp q6 tI co tX ce js cy).cp=cp/\(mU P f n out cl cd p4 cut wD cp q6 tI co tX ce js cy).q6=q6/\(mU P f n out cl cd p4 cut wD cp q6 tI co tX ce js cy).tI=tI/\
 (mU P f n out cl cd p4 cut wD cp q6 tI co tX ce js cy).co=co/\(mU P f n out cl cd p4 cut wD cp q6 tI co tX ce js cy).tX=tX/\(mU P f n out cl cd p4 cut wD cp q6 tI co tX ce js cy).ce=ce/\
 (mU P f n out cl cd p4 cut wD cp q6 tI co tX ce js cy).js=js/\(mU P f n out cl cd p4 cut wD cp q6 tI co tX ce js cy).cy=cy:=⟨rfl,rfl,rfl,rfl,rfl,rfl,rfl,rfl,rfl,rfl,rfl,rfl,rfl,rfl,rfl,rfl,rfl⟩
end
@[reducible] def ini(args:List AV)(n:Nat)(H:List j6:=[]):jT:={kf:=args++eW (n-args.length) .any,heap:=H,low:=H.length}
class Fu(W:Type) where z:W
instance {W:Type}:Fu (Option W):=⟨none⟩
instance {W O:Type}[Fu O]:Fu (W->O):=⟨fun _=>Fu.z⟩
def fu[Fu W](F:Nat->W):Nat->W
 |0=>Fu.z
 |n+1=>F n
def kB[Fu W]{F:Nat->W}:fu F (n+1)=F n:=rfl
def sR{W:Type}[Fu W](F:W->W):Nat->W
 |0=>Fu.z
 |m+1=>F (sR F m)
def lpM{W:Type}[Fu W](F:Nat->W->W):Nat->W
 |0=>Fu.z
 |m+1=>F m (lpM F m)
def aF1{W:Type}[Fu W]{F:W->W}{G:Nat->W->Prop}(h0:G 0 Fu.z)(hs:∀m X,G m X->G (m+1) (F X)):∀m,G m (sR F m)
 |0=>h0
 |m+1=>hs m _ (aF1 h0 hs m)
def aKv{W:Type}[Fu W]{F:Nat->W->W}{G:Nat->W->Prop}(h0:G 0 Fu.z)(hs:∀m X,G m X->G (m+1) (F m X)):∀m,G m (lpM F m)
 |0=>h0
 |m+1=>hs m _ (aKv h0 hs m)
@[reducible] def mc(l:List AV):List AV:=.any::.any::.any::.any::l
@[reducible] def lM(l:List AV):List AV:=.any::.any::.any::.any::.any::.any::.any::.any::.any::.any::.any::.any::.any::.any::.any::.any::l
@[reducible] def uw(l:List AV):List AV:=lM (lM (lM (lM l)))
@[reducible] def l8(l:List NZ):List NZ:=zA::zA::zA::zA::l
@[reducible] def lH(l:List NZ):List NZ:=l8 (l8 (l8 (l8 l)))
@[reducible] def ux(l:List NZ):List NZ:=lH (lH (lH (lH l)))
def gd{f:Func}
 (a:∀f args J r H',cl f args (jT.heap J)=some (r,H')->Bt P f args J (fun o GB=>o=.ret r/\GB=H')) (d:∀f args r,cd f args=some r->JE P f args (fun v=>v=r))
 (y:∀l args J r H',cy l args (jT.heap J)=some (r,H')->Qq P l args J (fun o GB=>o=.ret r/\GB=H'):=by exact q7) (e:∀f args J e,ce f args (jT.heap J)=some e->Jj P f args J e:=by exact q8)
 (p:∀f args J o H',cp f args (jT.heap J)=some (o,H')->Bt P f args J (fun o' GB=>o'=o/\GB=H'):=by exact rR)
 (c:∀f args J,(∀e,co f args (jT.heap J)=some (.ret e)->Jj P f args J e)/\∀x H',co f args J.heap=some (.pan x H')->au1 P f args J.heap x H':=by exact rH):
 FY (mU P f n out cl cd (nR nl) (MJ cu) wD cp q6 tI co tX ce js cy):=⟨a,d,oX _,pJ _,y,e,p,c⟩
section
variable {O2 W2:Type}
abbrev SG(P:aTL)(g:aTK)(aTo:AL γ)(os:OL O)(b:O)(a:γ)(vf:OL O1)(s:AL W)(r:O1×W):Prop:=
 FnG P g (aTo.enc (os.mo b) a) (os.enc (os.mo b) b) (fun o H'=>o=.ret (sE (s.enc (vf.mo r.1) r.2))/\H'=vf.enc (vf.mo r.1) r.1)
abbrev SP(P:aTL)(g:aTK)(aTo:AL γ)(os:OL O)(b:O)(a:γ)(pk:Bool)(vf:OL O1)(s1:AL W1)(Cw:OL O2)(s2:AL W2)(r:PR (O1×W1) (O2×W2)):Prop:=
 FnP P g (aTo.enc (os.mo b) a) (os.enc (os.mo b) b) (enP pk vf s1 Cw s2 r)
@[reducible] def aAj(aTo:AL γ)(os:OL O)(b:O)(a:γ)(k:Nat):jT:=ini (aTo.enc (os.mo b) a) k (os.enc (os.mo b) b)
def nbA{aTo:AL γ}{os:OL O}{b:O}{a:γ}(h:decide (aTo.mm<=os.size)=true):ua (os.enc (os.mo b) b).length (aTo.enc (os.mo b) a):=
 so (Nat.le_trans (jJ h) (Nat.le_of_eq (os.sz _ _).symm)) _ (aTo.nb _ _)
def nbO{os:OL O}{b:O}(h:decide (os.mm<=os.size)=true):∀x∈os.enc (os.mo b) b,rX (os.enc (os.mo b) b).length x:=
 fun x hx=>Ak (Nat.le_trans (jJ h) (Nat.le_of_eq (os.sz _ _).symm)) _ (os.nb _ _ x hx)
variable {fn:Func} {m:Nat} {p4:List Nat->jT->Option jT} {cut:List Nat->jT->Option jT}
 {tI:aTK->Bool} {co:aTK->List AV->List j6->Option CO} {tX:aTK->Bool} {ce:aTK->List AV->List j6->Option wq} {js:List Nat->List (Int×Code)} {cy:Nat->List AV->List j6->Option (AV×List j6)} {k:Nat} {g:aTK} {rs:List ResultVar} {p1 p2:List YJ} {b1 b2:List Nat} {low:Nat}
 {R:Type} {t:Ty R} {args:List AV} {aTo:AL γ} {os:OL O} {b:O} {a:γ} {os0:OL O1} {s:AL W} {vf:OL O1} {Bv:AL W1} {Cw:OL O2} {LR:AL W2}
def okC{r:R}(h:run (mU P fn m (lR P rs t) cl cd p4 cut wD cp (fun _ _=>none) tI co tX ce js cy) [.at []] (ini args k)=some r)(G:FY (mU P fn m (lR P rs t) cl cd p4 cut wD cp (fun _ _=>none) tI co tX ce js cy))(hf:P.funcs[g]? =some fn)(G8:ua 0 args)(hn:fn.ntmps=k)(Lo:fn.results=rs.toArray)(hb:fn.body=some (fn.body.getD .skip):=by exact rfl)(sB:(fn.name != "runtime.NumGoroutine")=true:=by exact rfl):JE P g args (fun v=>v=t.enc r):=
 apj G hf hb sB G8 hn Lo (fun J hs=>aly hs) h
def okG{r:O1×W}(h:run (mU P fn m (xg P rs p1 b1 low os0 s) cl cd p4 cut wD cp (fun _ _=>none) tI co tX ce js cy) [.at []] (aAj aTo os b a k)=some r)(G:FY (mU P fn m (xg P rs p1 b1 low os0 s) cl cd p4 cut wD cp (fun _ _=>none) tI co tX ce js cy))(hf:P.funcs[g]? =some fn)(hn:fn.ntmps=k)(Lo:fn.results=rs.toArray)(h1:decide (aTo.mm<=os.size)=true:=by kernel_rfl)(h2:decide (os.mm<=os.size)=true:=by kernel_rfl)(hb1:b1=eV low:=by exact rfl)(hb:fn.body=some (fn.body.getD .skip):=by exact rfl)(sB:(fn.name != "runtime.NumGoroutine")=true:=by exact rfl):SG P g aTo os b a os0 s r:=
 vh G hf hb sB (nbA h1) (nbO h2) hn Lo (fun J hs=>Zm hb1 hs) h
def okP{r:PR (O1×W1) (O2×W2)}(h:run (mU P fn m (qM P rs p1 b1 low vf Bv) cl cd p4 cut wD cp (qN p2 b2 low Cw LR) tI co tX ce js cy) [.at []] (aAj aTo os b a k)=some r)(G:FY (mU P fn m (qM P rs p1 b1 low vf Bv) cl cd p4 cut wD cp (qN p2 b2 low Cw LR) tI co tX ce js cy))(hf:P.funcs[g]? =some fn)(hn:fn.ntmps=k)(Lo:fn.results=rs.toArray)(h1:decide (aTo.mm<=os.size)=true:=by kernel_rfl)(h2:decide (os.mm<=os.size)=true:=by kernel_rfl)(zz: ∀b a,∃y,LR.enc (Cw.mo b) a=[y]:=by exact fun b a=>⟨_,rfl⟩)(hb1:b1=eV low:=by exact rfl)(hb2:b2=eV low:=by exact rfl)(hb:fn.body=some (fn.body.getD .skip):=by exact rfl)(sB:(fn.name != "runtime.NumGoroutine")=true:=by exact rfl):SP P g aTo os b a true vf Bv Cw LR r:=
 aMO G hf hb sB (nbA h1) (nbO h2) hn Lo hb1 hb2 zz rfl rfl h
def okS{r:PR (O1×W1) (O2×W2)}(h:run (mU P fn m (apy P rs p1 b1 low vf Bv p2 Cw LR) cl cd p4 cut wD cp (fun _ _=>none) tI co tX ce js cy) [.at []] (aAj aTo os b a k)=some r)(G:FY (mU P fn m (apy P rs p1 b1 low vf Bv p2 Cw LR) cl cd p4 cut wD cp (fun _ _=>none) tI co tX ce js cy))(hf:P.funcs[g]? =some fn)(hn:fn.ntmps=k)(Lo:fn.results=rs.toArray)(h1:decide (aTo.mm<=os.size)=true:=by kernel_rfl)(h2:decide (os.mm<=os.size)=true:=by kernel_rfl)(hb1:b1=eV low:=by exact rfl)(hb:fn.body=some (fn.body.getD .skip):=by exact rfl)(sB:(fn.name != "runtime.NumGoroutine")=true:=by exact rfl):SP P g aTo os b a false vf Bv Cw LR r:=
 aMP G hf hb sB (nbA h1) (nbO h2) hn Lo hb1 rfl h
end
attribute [go_sem] aQQ aAj ini mc lM uw l8 lH ux
section
variable {δ':Type}
def aQR(tZ:Bool)(row:Row W)(s:AL δ)(rs:AL δ')(F:(List W×Unit)->δ->Option ((List W×Unit)×δ')):List AV->List j6->Option CO:=fun args H=>match args with
 | .lV l n::cs=>match H[l]? with
   |some x=>(daT tZ row x).bind fun rows=>nY (n=rows.length) (nY (x=.lV tZ row.sz (mp row.enc rows)) ((s.mK [] ((tg (ogA tZ row) Bi).mo (rows,())) H cs).bind fun a=>nY (cs=s.enc ((tg (ogA tZ row) Bi).mo (rows,())) a) ((F (rows,()) a).bind fun r=>
     nY (r.1=(rows,())) (some (.ret {val:=sE (rs.enc ((tg (ogA tZ row) Bi).mo (rows,())) r.2),rd:=[l]})))))
   |none=>none
 |_=>none
def aMU{tZ:Bool}{row:Row W}{s:AL δ}{rs:AL δ'}{F:(List W×Unit)->δ->Option ((List W×Unit)×δ')}:aQR tZ row s rs F (.lV l n::cs) H=match H[l]? with
 |some x=>(daT tZ row x).bind fun rows=>nY (n=rows.length) (nY (x=.lV tZ row.sz (mp row.enc rows)) ((s.mK [] ((tg (ogA tZ row) Bi).mo (rows,())) H cs).bind fun a=>nY (cs=s.enc ((tg (ogA tZ row) Bi).mo (rows,())) a) ((F (rows,()) a).bind fun r=>
   nY (r.1=(rows,())) (some (.ret {val:=sE (rs.enc ((tg (ogA tZ row) Bi).mo (rows,())) r.2),rd:=[l]})))))
 |none=>none:=rfl
def aMV{tZ:Bool}{row:Row W}{s:AL δ}{rs:AL δ'}{F:(List W×Unit)->δ->Option ((List W×Unit)×δ')}{t:Nat}{rows:List (List AV)}:aQR tZ row s rs F (.kJ b t rows::cs) H=none:=rfl
end
def aDq{k:List Kt}{c:Prop}{x:Option (AV×List j6)}:WJ M kH dst rest k J (nY c x)=nY c (WJ M kH dst rest k J x):=by
 grind [nY,avf]
attribute [go_sem] aDq aMU aMV
def aIn(P:aTL)(u:FrameMode)(f:aTK):aTM->aTN->Array aTM->(Ending->aTN->Prop)->Prop:=fun _ w vs R=>
 CallsDIn Fence.wide 0 P f vs u w fun e u' w'=>∃r,e=.returned r/\u'=u/\R (.returned r) w'
def ay3:aiI (aIn P u f):=⟨fun _ _ _ _ _ hr h=>xX h fun _ _ _ ⟨r,h1,h2,h3⟩=>⟨r,h1,h2,hr _ _ h3⟩⟩
def aMW{fn:Func}{c:Code}(hf:P.funcs[f]? =some fn)(hb:fn.body=some c)
 (G8:ua H.length args) (JG:∀x∈H,rX H.length x) (hn:fn.ntmps=n) (Lo:fn.results=rs.toArray)
 (h:awp P c (aDd P rs V) {kf:=args++eW (n-args.length) .any,heap:=H,low:=H.length}):FnT P (aIn P u f) args H V:=by
 refine⟨G8,JG,fun C U w hP h0 hN0 hφ0 hM HS vs hr=>?_⟩;subst hP;have hsz:vs.size=args.length:=by have:=hr.length;simpa using this
 have S:nK C U {kf:=args++eW (n-args.length) .any,heap:=H,low:=H.length} {tmps:=vs++Array.replicate (fn.ntmps-vs.size) undef,defers:=[]} w:=by
  refine {HS with kf:=?_,defers:=tf.nil};simp only[Array.toList_append,Array.toList_replicate];refine hr.append ?_;rw[hsz,hn];have:=kQ.FP (E:=C.env U H w) (eW (n-args.length) undef);simpa using this
 have aSF:∀{U':Nat->aTM}{J':jT}{a'':Act}{w'':aTN},nK C U' J' a'' w''->J'.low=H.length:=fun S'=>by rw[<-S'.low.1];exact hN0
 refine Zn hf hb trivial ?_;intro c₀ cs hu;refine wpSIn_of_wpIn rfl (wpIn_mono (yD (ro:=none) c _ U _ _ w (.inl rfl) h S) ?_);intro e a' w' hq
 have zx:∀U' J',nK C U' J' a' w'->J'.df=[]/\aro C.P rs V none J'->WP C fn c₀ cs (fun e u2 w'=>∃r,e=.returned r/\u2=u/\∃o U' H',V o H'/\nK C U' {kf:=[],heap:=H',low:=H.length} {tmps:= #[],defers:=[]} w'/\o.rep (C.env U' H' w') (.returned r)) .normal a' (c₀::cs) w':=by
  rintro U' J' S' ⟨hdf,xr,hx,r,H',hex,hV'⟩;refine⟨u,by rw[<-hu],U',J',S',hdf,fun w'' S''=>?_⟩;obtain⟨vv,hv,rv⟩:=Rr (fn:=fn) S'' (by rw[Lo];exact hx);obtain⟨U3,S3,hr3⟩:=hex C U' _ w'' S'' vv rv;rw[aSF S'']at S3;exact⟨vv,hv,vv,rfl,rfl,.ret r,U3,H',hV',S3,hr3⟩
 cases e with
 |normal=>obtain⟨U',J',S',hq⟩:=hq;exact zx U' J' S' hq
 |ret=>obtain⟨U',J',S',hq⟩:=hq;exact zx U' J' S' hq
 |exit id=>obtain⟨_,_,_,hq⟩:=hq;exact hq.elim
 |goto l=>obtain⟨_,_,_,hq⟩:=hq;exact hq.elim
 |panic chain=>obtain⟨_,_,_,_,_,hq,_⟩:=hq;exact hq.elim
 |outgrown=>exact hq.elim
section

def aDr{M:kL (O1×W1)}{fn:Func}{r:O1×W1}{vf:OL O1}{Bv:AL W1}(G:FY M)
 (hf:M.P.funcs[f]? =some fn) (hb:fn.body=some M.body) (G8:ua H.length args) (JG:∀x∈H,rX H.length x) (hn:fn.ntmps=n) (Lo:fn.results=rs.toArray) (hb1:b1=eV low) (ho:M.out=xg M.P rs p1 b1 low vf Bv)
 (h:run M [.at []] {kf:=args++eW (n-args.length) .any,heap:=H,low:=H.length}=some r) (hP:∀x J',M.q6 x J'=none:=by intros;rfl):
 FnT M.P (aIn M.P u f) args H (fun o H'=>o=(enR vf Bv r).1/\H'=(enR vf Bv r).2):=by
 refine aMW hf hb G8 JG hn Lo (aeY G h (fun J hs=>?_) (fun x J hs=>by rw[hP x J]at hs;cases hs));rw[ho]at hs;obtain⟨hd,xs,hx,JF⟩:=Zm hb1 hs;have:=Rw (P:=M.P) hx JF;exact⟨⟨hd,this⟩,hd,this⟩
end
def spl{γ:Type}:List AV->(List AV->AV->Option γ)->Option γ
 |[],_=>none
 |[x],k=>k [] x
 |a::b::l,k=>spl (b::l) fun l x=>k (a::l) x
def aMX:spl [x] k=k [] x:=rfl
def aKw{a b:AV}{l:List AV}:spl (a::b::l) k=spl (b::l) fun l x=>k (a::l) x:=rfl
def aDs{γ:Type}:∀{l:List AV}{k:List AV->AV->Option γ}{r:γ},spl l k=some r->∃aTo x,l=aTo++[x]/\k aTo x=some r
 |[x],k,r,h=>⟨[],x,rfl,h⟩
 |a::b::l,k,r,h=>by
  obtain⟨aTo,x,h1,h2⟩:=aDs (l:=b::l) h
  grind
def aMY(c:YK):YK:=fun f args H=>spl args fun aTo x=>(c f aTo H).bind fun q=>some (.panic x,q.2)
def aKx(P:aTL)(c:YK):Prop:=∀u,QOK P (aIn P u) c
def aKy{c:YK}(h:aKx P c):QOK P (axk P) c:=by
 intro f args J o H' he;obtain⟨h1,h2⟩:=h .returning f args J o H' he;refine⟨h1,fun C U a w hP S vs hr=>?_⟩;refine xX (h2 C U a w hP S vs hr) ?_;rintro e u' w' ⟨r,rfl,rfl,h3⟩;exact⟨r,rfl,rfl,h3⟩
def aKz{c:YK}(h:aKx P c):QOK P (axl P) (aMY c):=by
 intro f args J o H' he;obtain⟨aTo,x,rfl,hk⟩:=aDs he;simp only[eS,eT,Prod.mk.injEq]at hk;obtain⟨q,hq,rfl,rfl⟩:=hk;refine⟨(h .returning f aTo J q.1 q.2 hq).1,fun C U a w hP S vs hr vs0 v hvs=>?_⟩;subst hvs
 have hr':kQ (C.env U J.heap w) aTo vs0.toList/\pz (C.env U J.heap w) x v:=by
  rw[Array.toList_push]at hr
  have hl:vs0.toList.length=aTo.length:=by
   have:=hr.length;simp at this;simpa using this
  have h1:=hr.take aTo.length;have h2:=hr.drop aTo.length;rw[List.take_left' rfl,List.take_left' hl]at h1;rw[List.drop_left' rfl,List.drop_left' hl]at h2;obtain⟨u,us,he,r1,_⟩:=h2
  grind
 have hc:=(h (.panicking [{v,recovered:=false}]) f aTo {J with kf:=J.kf++[x]} q.1 q.2 hq).2;cases a with
 |mk tmps ds=>
 refine xX (hc C U _ w hP (S.azU hr'.2) vs0 hr'.1) ?_;rintro e u' w' ⟨r,rfl,rfl,o,U',H',⟨rfl,rfl⟩,S2,uu⟩;have S3:nK C U' {({J with heap:=q.2}:jT)with kf:=({J with heap:=q.2}:jT).kf++[x]} {tmps:=tmps.push v,defers:=ds} w':=S2;obtain⟨S4,h4⟩:=S3.aEK S.len;exact⟨r,rfl,.inr ⟨v,rfl,.panic x,U',q.2,⟨rfl,rfl⟩,S4,v,rfl,h4⟩⟩
section ends
variable {W2 O2:Type}
def enX(f:jT->Option R)(g:AV->jT->Option R):Option AV->jT->Option R
 |none,J=>f J
 |some x,J=>g x J
def aQS{f:jT->Option R}{g:AV->jT->Option R}:enX f g none J=f J/\∀x,enX f g (some x) J=g x J:=⟨rfl,fun _=>rfl⟩
def avF(c:YK)(f:jT->Option R)(g:AV->jT->Option R)(J:jT):Option R:=ahK c (aMY c) (enX f g) J.df none J
def avG(c:YK)(f:jT->Option R)(g:AV->jT->Option R)(x:AV)(J:jT):Option R:=ahK c (aMY c) (enX f g) J.df (some x) J
def aOX{c:YK}:aMY c f args H=spl args fun aTo x=>(c f aTo H).bind fun q=>some (.panic x,q.2):=rfl
attribute [go_sem] aQS avF avG aOX aMX aKw
variable {fn:Func} {m:Nat} {p4:List Nat->jT->Option jT} {cut:List Nat->jT->Option jT}
 {tI:aTK->Bool} {co:aTK->List AV->List j6->Option CO} {tX:aTK->Bool} {ce:aTK->List AV->List j6->Option wq} {js:List Nat->List (Int×Code)} {cy:Nat->List AV->List j6->Option (AV×List j6)} {k:Nat} {g:aTK} {rs:List ResultVar} {p1 p2:List YJ} {b1 b2:List Nat} {low:Nat}
 {aTo:AL γ} {os:OL O} {b:O} {a:γ} {os0:OL O1} {s:AL W} {vf:OL O1} {Bv:AL W1} {Cw:OL O2} {LR:AL W2} {c:YK}
def aR7{r:PR (O1×W1) (O2×W2)}(hc:aKx P c)(h:run (mU P fn m (avF c (qM P rs p1 b1 low vf Bv) (qN p2 b2 low Cw LR)) cl cd p4 cut wD cp (avG c (qM P rs p1 b1 low vf Bv) (qN p2 b2 low Cw LR)) tI co tX ce js cy) [.at []] (aAj aTo os b a k)=some r)
 (G:FY (mU P fn m (avF c (qM P rs p1 b1 low vf Bv) (qN p2 b2 low Cw LR)) cl cd p4 cut wD cp (avG c (qM P rs p1 b1 low vf Bv) (qN p2 b2 low Cw LR)) tI co tX ce js cy)) (hf:P.funcs[g]? =some fn) (hn:fn.ntmps=k) (Lo:fn.results=rs.toArray)
 (h1:decide (aTo.mm<=os.size)=true:=by kernel_rfl) (h2:decide (os.mm<=os.size)=true:=by kernel_rfl) (zz: ∀b a,∃y,LR.enc (Cw.mo b) a=[y]:=by exact fun b a=>⟨_,rfl⟩) (hb1:b1=eV low:=by exact rfl) (hb2:b2=eV low:=by exact rfl) (hb:fn.body=some (fn.body.getD .skip):=by exact rfl) (sB:(fn.name != "runtime.NumGoroutine")=true:=by exact rfl):SP P g aTo os b a true vf Bv Cw LR r:=by
 have he:∀m' J,J.df=[]->enX (qM P rs p1 b1 low vf Bv) (qN (O1:=O1) (W1:=W1) p2 b2 low Cw LR) m' J=some r->aro P rs (fun o H'=>o=(enP true vf Bv Cw LR r).1/\H'=(enP true vf Bv Cw LR r).2) m' J:=by
  intro m' J _ hs;cases m' with
  |none=>
   simp only[enX,qM,eU]at hs;obtain⟨q,hq,rfl⟩:=hs;obtain⟨hd,xs,hx,JF⟩:=Zm hb1 hq;exact Rw hx JF
  |some x=>
   simp only[enX,qN,eU]at hs;obtain⟨q,hq,rfl⟩:=hs;obtain⟨hd,JF⟩:=apv hb2 hq;obtain⟨y,hy⟩:=zz q.1 q.2;rw[hy]at JF;have:=aCM (P:=P) (rs:=rs) JF.e
   grind [enP,prc,ay1,pkO]
 exact apq G hf hb sB (nbA h1) (nbO h2) hn Lo (fun J hs=>ae8 (aKy hc) (aKz hc) he J.df none J rfl hs) (fun x J hs=>ae8 (aKy hc) (aKz hc) he J.df (some x) J rfl hs) h
abbrev SD(P:aTL)(g:aTK)(aTo:AL γ)(os:OL O)(b:O)(a:γ)(vf:OL O1)(s:AL W1)(r:O1×W1):Prop:=
 ∀u,FnT P (aIn P u g) (aTo.enc (os.mo b) a) (os.enc (os.mo b) b) (fun o H'=>o=(enR vf s r).1/\H'=(enR vf s r).2)
def okD{r:O1×W}(h:run (mU P fn m (xg P rs p1 b1 low os0 s) cl cd p4 cut wD cp (fun _ _=>none) tI co tX ce js cy) [.at []] (aAj aTo os b a k)=some r)(G:FY (mU P fn m (xg P rs p1 b1 low os0 s) cl cd p4 cut wD cp (fun _ _=>none) tI co tX ce js cy))(hf:P.funcs[g]? =some fn)(hn:fn.ntmps=k)(Lo:fn.results=rs.toArray)(h1:decide (aTo.mm<=os.size)=true:=by kernel_rfl)(h2:decide (os.mm<=os.size)=true:=by kernel_rfl)(hb1:b1=eV low:=by exact rfl)(hb:fn.body=some (fn.body.getD .skip):=by exact rfl):SD P g aTo os b a os0 s r:=
 fun u=>aDr G hf hb (nbA h1) (nbO h2) hn Lo hb1 rfl h
def aDt{e:atj}(h:∀u,∀args (J:jT) o H',e args J.heap=some (o,H')->enters P g=true/\Zj P (aIn P u g) 0 args J (fun o' GB=>o'=o/\GB=H')):aKx P (WQ [(g,e)]):=fun u=>MY (h u) Ry
end ends
def dNI:AV->Option Unit
 |.sX .nilIface=>some ()
 |_=>none
def aKA:Ty Unit where
 enc _:=.sX .nilIface
 mK _:=dNI
 ok H n v x h:=by
  unfold dNI at h;split at h
  ·exact Co.same trivial
  ·cases h
 nb n x:=trivial
def aOY:(∀x,aKA.enc x=.sX .nilIface)/\(∀H v,aKA.mK H v=dNI v)/\dNI (.sX .nilIface)=some ():=⟨fun _=>rfl,fun _ _=>rfl,rfl⟩
attribute [go_sem] aOY
def aKB{T:TypeId}(he:enters P f=true)
 (h:∀(s:ByteArray)(n:Int)(w:aTN),s.size<=18->Lib.atoi s.data.toList=some n->Calls P f #[.string s] w fun e w'=>e=.returned (.tuple #[.int .i64 n,.nilIface])/\∃t,w'=Lib.bytesWorld w T t)
 (s:kp) (n:Int) (hl:s.length<=18) (hn:Lib.atoi s=some n):JE P f [lW.enc s] (fun v=>v=(LQ (li .i64) aKA).enc (n,())):=by
 refine⟨he,⟨lW.nb 0 _,trivial⟩,fun C U w hP hw hN0 hM vs hr=>?_⟩
 obtain rfl:vs= #[.string (sb s)]:=by
  obtain⟨v0,us,hvs,r0,anO⟩:=hr;have hus:us=[]:=anO;have e0:v0=.string (sb s):=r0;subst hus e0;cases vs;simp_all
 refine(h (sb s) n w (by rw[VW];exact hl) (by rw[ae6];exact hn)).mono ?_;rintro e w' ⟨rfl,t,rfl⟩;have hb:=Lib.bytesWorld_below w T t;exact⟨_,_,U,rfl,rfl,⟨_,rfl,_,_,rfl,rfl,_,_,rfl,rfl,rfl⟩,hb.size,hb.block,fun x hx=>hb.frozen hx,hb.output,hb.os⟩
section
variable {C:qC} {U:Nat->aTM} {a:Act} {w:aTN}
def nK.calm(S:nK C U J a w):qC:=
 {P:=C.P,w0:=w,M0:=fun _ _=>False,A:=fun _ _=>False,hA:=fun _ _ h=>h.elim,hk:=⟨fun b o h=>let ⟨v,h1,h2,_⟩:=S.know.cell b o h;⟨v,h1,h2,fun f=>f⟩,fun b h=>⟨fun _ f=>f,(S.know.row b h).2⟩⟩}
def nK.aG7(S:nK C U J a w):(C.env U J.heap w).Le 0 (S.calm.env U [] w):=by
 refine⟨Nat.zero_le _,fun l hl=>absurd hl (Nat.not_lt_zero _),fun b o u hm hc=>⟨?_,hc⟩,CQ _⟩;simp only[qC.env,nK.calm];rintro(⟨l,x,hx,_⟩|h)
 ·simp at hx
 ·exact h
def aG8:Option j6->Option AV
 |some (.cells cs)=>some (.pp cs)
 |_=>none
def Kd(H:List j6):AV->Option AV
 |.ptr l o=>bif o==0 then aG8 H[l]? else none
 |x=>some x
def aMZ:(∀l,Kd H (.ptr l 0)=aG8 H[l]?)/\(∀k n,Kd H (.int k n)=some (.int k n))/\(∀b,Kd H (.bool b)=some (.bool b))/\(∀s,Kd H (.str s)=some (.str s))/\(∀t z r,Kd H (.kJ t z r)=some (.kJ t z r))/\(∀c,Kd H (.agg c)=some (.agg c))/\(∀c,Kd H (.pp c)=some (.pp c))/\(∀c,Kd H (.sX c)=some (.sX c))/\∀f x y,Kd H (.func f x y)=some (.func f x y):=
 ⟨fun _=>rfl,fun _ _=>rfl,fun _=>rfl,fun _=>rfl,fun _ _ _=>rfl,fun _=>rfl,fun _=>rfl,fun _=>rfl,fun _ _ _=>rfl⟩
def aM0:aG8 (some (.cells cs))=some (.pp cs):=rfl
def aDu(S:nK C U J a w){y:AV}(h:Kd J.heap x=some y)(hn:y.nb 0)(r:pz (C.env U J.heap w) x v):pz (S.calm.env U [] w) y v:=by
 cases x with
 |ptr l o=>
  simp only[Kd]at h;cases ho:o==0 with
  |false=>rw[ho]at h;cases h
  |true=>
   rw[ho,jF]at h;have ho:=jM.1 ho;subst ho;cases hl:J.heap[l]? with
   |none=>rw[hl]at h;cases h
   |some z=>
    rw[hl]at h;cases z with
    |cells cs=>
     cases h;obtain⟨_,b,hb,rfl⟩:=r;obtain⟨b',c,t,sC,hc,rl,h1⟩:=S.oB l _ hl;have hb:U l=_:=hb;rw[hb]at sC;simp only[Value.pointer.injEq,eT,Addr.mk.injEq,and_true]at sC;subst sC
     have e:(c.toList.drop 0).take cs.length=c.toList:=by
      rw[List.drop_zero,List.take_of_length_le];have:=rl.length;omega
     refine⟨b,0,rfl,KZ (E:=S.calm.env U [] w) (c:=c) (t:=t) (fr:=(0,0)) hc cs 0 (fun o _ _=>?_) ?_ ?_⟩
     ·simp only[qC.env,nK.calm];rintro(⟨l,x,hx,_⟩|h)
      all_goals grind
     ·rw[e];exact kQ.mono S.aG7 _ _ hn rl
     ·rw[e];exact h1
    |_=>cases h
 |_=>cases h;exact pz.mono S.aG7 _ _ hn r
def asJ(S:nK C U J a w):∀{xs ys:List AV}{vs:List aTM},qR (Kd J.heap) xs=some ys->ua 0 ys->kQ (C.env U J.heap w) xs vs->kQ (S.calm.env U [] w) ys vs
 |[],ys,vs,h,_,r=>by simp only[qR,eT]at h;subst h;exact r
 |x::xs,ys,vs,h,hn,⟨u,us,hv,r1,r2⟩=>by
  simp only[qR,eS,eT]at h;obtain⟨y,hy,zs,hz,rfl⟩:=h;exact⟨u,us,hv,aDu S hy hn.1 r1,asJ S hz hn.2 r2⟩
def sc1:AV->AV
 |.int k n=>.int k n
 |.bool b=>.bool b
 |.str s=>.str s
 |_=>.any
def sc2:AV->AV
 |.agg cs=>.agg (cs.map sc1)
 |x=>sc1 x
def aIo:AV->AV
 |.asN cs=>.asN (cs.map sc2)
 |x=>sc2 x
section
variable {E E':D4}
def aG9(h:pz E x v):pz E' (sc1 x) v:=by
 cases x with
 |int=>exact h
 |bool=>exact h
 |str=>exact h
 |_=>exact trivial
def aDv:∀{xs:List AV}{vs:List aTM},kQ E xs vs->kQ E' (xs.map sc1) vs
 |[],_,h=>h
 |_::_,_,⟨u,us,hv,r1,r2⟩=>⟨u,us,hv,aG9 r1,aDv r2⟩
def aHa(h:pz E x v):pz E' (sc2 x) v:=by
 cases x with
 |agg cs=>obtain⟨vs,hv,hr⟩:=h;exact⟨vs,hv,aDv hr⟩
 |_=>exact aG9 h
def aDw:∀{xs:List AV}{vs:List aTM},kQ E xs vs->kQ E' (xs.map sc2) vs
 |[],_,h=>h
 |_::_,_,⟨u,us,hv,r1,r2⟩=>⟨u,us,hv,aHa r1,aDw r2⟩
def aKC(h:pz E x v):pz E' (aIo x) v:=by
 cases x with
 |asN cs=>obtain⟨vs,hv,hr⟩:=h;exact⟨vs,hv,aDw hr⟩
 |_=>exact aHa h
end
def D5(e:az3):Ent:=fun args H=>(qR (Kd H) args).bind fun aTo=>(e aTo).bind fun r=>some (aIo r,H)
def qp{e:az3}(h:WL P f e):aSM P f (D5 e):=by
 intro args J r H' he;unfold D5 at he;simp only[eS,eT,Prod.mk.injEq]at he;obtain⟨aTo,hv,q,hq,rfl,rfl⟩:=he;obtain⟨hen,G8,hc⟩:=h aTo q hq;refine⟨hen,fun C U a w hP S vs hr=>?_⟩;refine(hc S.calm U w hP rfl rfl (fun _ _ h=>h) vs (asJ S hv G8 hr)).mono ?_;rintro e' w' ⟨r,v,U',rfl,rfl,rep,hs,hh,hf,ho⟩;exact⟨.ret (aIo r),U,J.heap,⟨rfl,rfl⟩,S.aGC hs hh hf ho,aKC rep⟩
def apC:AV->List Nat
 |.ptr l _=>[l]
 |_=>[]
def WR:List AV->List Nat
 |[]=>[]
 |x::xs=>apC x++WR xs
def aOZ:(∀l o,apC (.ptr l o)=[l])/\(∀k n,apC (.int k n)=[])/\(∀b,apC (.bool b)=[])/\(∀s,apC (.str s)=[])/\(∀t z r,apC (.kJ t z r)=[])/\(∀c,apC (.agg c)=[])/\(∀c,apC (.pp c)=[])/\(∀c,apC (.sX c)=[])/\(∀f x y,apC (.func f x y)=[])/\WR []=[]/\∀x xs,WR (x::xs)=apC x++WR xs:=
 ⟨fun _ _=>rfl,fun _ _=>rfl,fun _=>rfl,fun _=>rfl,fun _ _ _=>rfl,fun _=>rfl,fun _=>rfl,fun _=>rfl,fun _ _ _=>rfl,rfl,fun _ _=>rfl⟩
def aHb{H:List j6}: ∀{xs ys:List AV},qR (Kd H) xs=some ys-> ∀l∈WR xs,l<H.length
 |[],_,_,l,hl=>by simp [WR]at hl
 |x::xs,ys,h,l,hl=>by
  simp only[qR,eS,eT]at h;obtain⟨y,hy,zs,hz,rfl⟩:=h;simp only[WR,List.mem_append]at hl;rcases hl with hl|hl
  ·cases x with
   |ptr k o=>
    grind [apC,Kd,aG8]
   |_=>simp [apC]at hl
  ·exact aHb hz l hl
theorem avH{H H':List j6}:∀{xs:List AV},(∀l∈WR xs,H'[l]? =H[l]?)->qR (Kd H') xs=qR (Kd H) xs
 |[],_=>rfl
 |x::xs,h=>by
  have h1:Kd H' x=Kd H x:=by
   cases x with
   |ptr l o=>grind [Kd,WR,apC]
   |_=>rfl
  simp only[qR,h1];rw[avH fun l hl=>h l (by simp [WR,hl])]
def agF(e:az3):List AV->List j6->Option CO:=fun args H=>(qR (Kd H) args).bind fun aTo=>(e aTo).bind fun r=>some (.ret {val:=aIo r,rd:=WR args})
def Rz{e:az3}(h:WL P f e):aAh P f (agF e):=by
 intro args J;refine⟨fun ef he=>?_,fun x H' he=>?_⟩
 ·simp only[agF,eS,eT,CO.ret.injEq]at he;obtain⟨aTo,hv,r,hr,rfl⟩:=he;refine⟨⟨aHb hv,by simp⟩,fun J' h1 _ _=>?_⟩
  have:=qp h args J' (aIo r) J'.heap (by
   grind [D5,avH])
  grind [nu]
 grind [agF,eS]
end
attribute [go_sem] D5 agF aM0 aMZ aOZ aIo sc2 sc1
section aJL
variable {C:qC} {U:Nat->aTM} {a:Act} {w:aTN}
def aF2 {off s sz:Nat}(hl:J.heap[l]? =some (.cells cs))(hc:cs[off]? =some (.kJ true s [])):
 LI J {kf:=J.kf,heap:=J.heap.set l (.cells (cs.set off (.lV J.heap.length 0)))++[.lV false sz []],low:=J.low,df:=J.df}:=by
 intro C U a w S;have rQ:l<J.heap.length:=(eX.1 hl).1;obtain⟨b,c,t,hφ,hh,rl,h1⟩:=S.oB l _ hl;obtain⟨v,hv,base,cap,rfl,_,Cm,_⟩:=rl.get hc;have Cm:cap=0:=Cm rfl;subst Cm
 have S':=S.aeR (tZ:=false) (sz:=sz) (rows:=[]) (w':=w) (h':=.slice base 0 0) (Nat.le_refl _) (fun _ _=>rfl) (fun _=>rfl) ⟨rfl,rfl⟩ (by
  intro b hb;cases base<;>simp [j6.block]at hb) (fun E' _ _=>⟨base,0,rfl,Nat.le_refl _,fun _=>rfl,by simp,fun b _ h0=>absurd rfl h0⟩)
 refine⟨(fun k=>if k=J.heap.length then .slice base 0 0 else U k),?_⟩;have hl':(J.heap++[j6.lV false sz []])[l]? =some (.cells cs):=by grind
 have S2:=S'.aJM (l:=l) (cs:=cs) (ds:=cs.set off (.lV J.heap.length 0)) hl' (by
  intro b2 c2 t2 h3 h4 r
  have e1:b2=b:=by
   grind
  subst e1;rw[show w.heap[b2]? =some (.cells c t (0,0))from hh]at h4;simp only[eT,Obj.cells.injEq]at h4;obtain⟨rfl,_⟩:=h4
  have aEA:=kQ.set (i:=off) (c:=.lV J.heap.length 0) (v:=.slice base 0 0) r ⟨by simp [qC.env],⟨_,_,_,rfl⟩,fun k hk=>by
   grind [qC.env]⟩
  grind [fb])
 grind
def aAk(l off sz:Nat)(b:Bool)(J:jT):jT:=
 match J.heap[l]? with
 |some (.cells cs)=>match cs[off]? with
  |some (.kJ true _ [])=>{kf:=J.kf,heap:=J.heap.set l (.cells (cs.set off (.lV J.heap.length 0)))++[.lV b sz []],low:=J.low,df:=J.df}
  |_=>J
 |_=>J
def aIp {off sz:Nat}:LI J (aAk l off sz b J):=by
 unfold aAk;split
 ·rename_i cs hl;split
  ·rename_i s hc;cases b with
   |false=>exact aF2 hl hc
   |true=>exact ayU hl hc
  ·exact LI.refl J
 ·exact LI.refl J
end aJL
def aKD:List (List Nat×Nat×Nat×Nat×Bool)->List Nat->jT->jT
 |[],_,J=>J
 |(q,l,o,z,b)::t,p,J=>if p=q then aAk l o z b J else aKD t p J
def aHc:∀{t:List (List Nat×Nat×Nat×Nat×Bool)}{p:List Nat}{J:jT},LI J (aKD t p J)
 |[],_,_=>LI.refl _
 |(q,l,o,z,b)::t,p,J=>by
  unfold aKD;split
  ·exact aIp
  ·exact aHc
def asK(fs:List (List Nat×List Nat))(gs:List (List Nat×Nat×Nat×Nat×Bool))(p:List Nat)(J:jT):Option jT:=(MJ fs p J).map (aKD gs p)
def aKE(fs:List (List Nat×List Nat))(gs:List (List Nat×Nat×Nat×Nat×Bool)):∀p J J',asK fs gs p J=some J'->LI J J':=by
 intro p J J' h;simp only[asK,eU]at h;obtain⟨J1,h1,rfl⟩:=h;exact(pJ _ _ _ _ h1).trans aHc
def gdM{f:Func}{gm:List (List Nat×Nat×Nat×Nat×Bool)}
 (a:∀f args J r H',cl f args (jT.heap J)=some (r,H')->Bt P f args J (fun o GB=>o=.ret r/\GB=H')) (d:∀f args r,cd f args=some r->JE P f args (fun v=>v=r))
 (y:∀l args J r H',cy l args (jT.heap J)=some (r,H')->Qq P l args J (fun o GB=>o=.ret r/\GB=H'):=by exact q7) (e:∀f args J e,ce f args (jT.heap J)=some e->Jj P f args J e:=by exact q8)
 (p:∀f args J o H',cp f args (jT.heap J)=some (o,H')->Bt P f args J (fun o' GB=>o'=o/\GB=H'):=by exact rR)
 (c:∀f args J,(∀e,co f args (jT.heap J)=some (.ret e)->Jj P f args J e)/\∀x H',co f args J.heap=some (.pan x H')->au1 P f args J.heap x H':=by exact rH):
 FY (mU P f n out cl cd (nR nl) (asK cu gm) wD cp q6 tI co tX ce js cy):=⟨a,d,oX _,aKE _ _,y,e,p,c⟩
attribute [go_sem] aKD asK aAk
section

abbrev an0(M:kL R)(p q:List Nat):Prop:=qY M p=true/\qY M q=true
abbrev aKF(M:kL R)(p q r:List Nat):Prop:=qY M p=true/\qY M q=true/\qY M r=true
abbrev aF3(M:kL R)(p q r s:List Nat):Prop:=qY M p=true/\qY M q=true/\qY M r=true/\qY M s=true
abbrev axu(M:kL R)(p:List Nat)(a b c d:Nat):Prop:=MV M p a b=true/\MV M p c d=true
abbrev avI(M:kL R)(p:List Nat)(a b c d e f:Nat):Prop:=MV M p a b=true/\MV M p c d=true/\MV M p e f=true
abbrev vL(M:kL R)(p:List Nat)(a b c d e f g h:Nat):Prop:=MV M p a b=true/\MV M p c d=true/\MV M p e f=true/\MV M p g h=true
end
def mB {p:O->Prop} (x:Subtype p:=by
    apply _root_.Subtype.mk
    repeat intro
    simp (config:={maxSteps:=100000000}) only[go_sem,_root_.Nat.reduceAdd,_root_.Nat.reduceSub,_root_.Nat.reduceLeDiff,_root_.Nat.reduceEqDiff,_root_.Nat.reduceBEq,_root_.Nat.reduceMul,_root_.Nat.reduceLT,_root_.Int.reduceLE,_root_.Int.reduceLT,_root_.Int.reduceToNat,_root_.Int.reduceBEq,_root_.Int.reduceEq,_root_.Option.getD_some,mixed, *];exact rfl):Subtype p:=x
def mB2 {p:O->Prop} (x:Subtype p:=by
    apply _root_.Subtype.mk
    repeat intro
    simp (config:={maxSteps:=100000000})-implicitDefEqProofs only[go_sem,_root_.Nat.reduceAdd,_root_.Nat.reduceSub,_root_.Nat.reduceLeDiff,_root_.Nat.reduceEqDiff,_root_.Nat.reduceBEq,_root_.Nat.reduceMul,_root_.Nat.reduceLT,_root_.Int.reduceLE,_root_.Int.reduceLT,_root_.Int.reduceToNat,_root_.Int.reduceBEq,_root_.Int.reduceEq,_root_.Option.getD_some,mixed, *];exact rfl):Subtype p:=x
section
variable {O2 W2:Type}
abbrev OKC(P:aTL)(g:aTK)(aTo:AL W)(t:Ty R)(F:Nat->W->Option R):Prop:=∀n a r,F n a=some r->JE P g (aTo.enc (fun _=>0) a) (fun v=>v=t.enc r)
variable {g:aTK} {T0 T1 T2 T3 T4 T5:Type} {t:Ty R}
def c0{F:Nat->Unit->Option R}(h:OKC P g kM t F)(n:Nat):∀r,F n ()=some r->JE P g [] (fun v=>v=t.enc r):=fun r=>h n () r
def c1{e0:Ty T0}{F:Nat->T0×Unit->Option R}(h:OKC P g (l1 e0 kM) t F)(n:Nat):∀x r,F n (x,())=some r->JE P g [e0.enc x] (fun v=>v=t.enc r):=fun x r=>h n (x,()) r
def c2{e0:Ty T0}{e1:Ty T1}{F:Nat->T0×T1×Unit->Option R}(h:OKC P g (l1 e0 (l1 e1 kM)) t F)(n:Nat):∀x y r,F n (x,y,())=some r->JE P g [e0.enc x,e1.enc y] (fun v=>v=t.enc r):=fun x y r=>h n (x,y,()) r
def c3{e0:Ty T0}{e1:Ty T1}{e2:Ty T2}{F:Nat->T0×T1×T2×Unit->Option R}(h:OKC P g (l1 e0 (l1 e1 (l1 e2 kM))) t F)(n:Nat):∀x y z r,F n (x,y,z,())=some r->JE P g [e0.enc x,e1.enc y,e2.enc z] (fun v=>v=t.enc r):=fun x y z r=>h n (x,y,z,()) r
def c4{e0:Ty T0}{e1:Ty T1}{e2:Ty T2}{e3:Ty T3}{F:Nat->T0×T1×T2×T3×Unit->Option R}(h:OKC P g (l1 e0 (l1 e1 (l1 e2 (l1 e3 kM)))) t F)(n:Nat):∀x y z u r,F n (x,y,z,u,())=some r->JE P g [e0.enc x,e1.enc y,e2.enc z,e3.enc u] (fun v=>v=t.enc r):=fun x y z u r=>h n (x,y,z,u,()) r
def c5{e0:Ty T0}{e1:Ty T1}{e2:Ty T2}{e3:Ty T3}{e4:Ty T4}{F:Nat->T0×T1×T2×T3×T4×Unit->Option R}(h:OKC P g (l1 e0 (l1 e1 (l1 e2 (l1 e3 (l1 e4 kM))))) t F)(n:Nat):∀x y z u v r,F n (x,y,z,u,v,())=some r->JE P g [e0.enc x,e1.enc y,e2.enc z,e3.enc u,e4.enc v] (fun w=>w=t.enc r):=fun x y z u v r=>h n (x,y,z,u,v,()) r
def c6{e0:Ty T0}{e1:Ty T1}{e2:Ty T2}{e3:Ty T3}{e4:Ty T4}{e5:Ty T5}{F:Nat->T0×T1×T2×T3×T4×T5×Unit->Option R}(h:OKC P g (l1 e0 (l1 e1 (l1 e2 (l1 e3 (l1 e4 (l1 e5 kM)))))) t F)(n:Nat):∀x y z u v w r,F n (x,y,z,u,v,w,())=some r->JE P g [e0.enc x,e1.enc y,e2.enc z,e3.enc u,e4.enc v,e5.enc w] (fun q=>q=t.enc r):=fun x y z u v w r=>h n (x,y,z,u,v,w,()) r
end
abbrev LB(G:List Kt->W->Prop)(p:List Nat)(K:List Kt):Type:={B:W->W //∀m X,G (.lq m p::K) X->G (.at (0::p)::.lp m p::K) (B X)}
abbrev LB2(G0:List Kt->O->Prop)(p0:List Nat)(K0:List Kt)(G:List Kt->W->Prop)(p:List Nat)(K:Nat->List Kt):Type:={B:O->W->W //∀n aSQ m X,G0 (.lq n p0::K0) aSQ->G (.lq m p::K n) X->G (.at (0::p)::.lp m p::K n) (B aSQ X)}
def ud[Fu W](b:LB G p K)(L:Nat->W)(m:Nat)(hL:L=sR b.1:=by rfl)
 (h0:G (.lq 0 p::K) Fu.z:=by repeat intro
                             exact LO) (hs:∀m Z,G (.at (0::p)::.lp m p::K) Z->G (.lq (m+1) p::K) Z:=by
   intro m Z h
   repeat intro
   first
    |exact Ec.trans (h ..)
    |(refine Ec.trans ?_;apply h<;>assumption)):G (.lq m p::K) (L m):=hL ▸ aF1 (G:=fun m Z=>G (.lq m p::K) Z) h0 (fun m X h=>hs m _ (b.2 m X h)) m
def aDx[Fu W]{G0:List Kt->O->Prop}{p0:List Nat}{K0:List Kt}{K:Nat->List Kt}(b:LB2 G0 p0 K0 G p K){aSQ:O}(h:G0 (.lq n p0::K0) aSQ)(L:Nat->W)(m:Nat)(hL:L=sR (b.1 aSQ):=by rfl)
 (h0:G (.lq 0 p::K n) Fu.z:=by repeat intro
                               exact LO) (hs:∀m Z,G (.at (0::p)::.lp m p::K n) Z->G (.lq (m+1) p::K n) Z:=by
   intro m Z h
   repeat intro
   first
    |exact Ec.trans (h ..)
    |(refine Ec.trans ?_;apply h<;>assumption)):G (.lq m p::K n) (L m):=hL ▸ aF1 (G:=fun m Z=>G (.lq m p::K n) Z) h0 (fun m X h'=>hs m _ (b.2 n aSQ m X h h')) m
section
variable {T0 T1 T2 T3 T4 T5:Type}
abbrev SC0(M:kL R)(N:Nat):Type:={B:Option R // run M [.at []] (ini [] N)=B}
abbrev aIq(P:aTL)(g:aTK)(t:Ty R)(F:Option R):Prop:=∀r,F=some r->JE P g [] (fun v=>v=t.enc r)
abbrev IT(M:kL R)(t0:Ty T0)(N:Nat):Type:={B:T0->Option R //∀a,run M [.at []] (ini [t0.enc a] N)=B a}
abbrev tL(P:aTL)(g:aTK)(t0:Ty T0)(t:Ty R)(F:T0->Option R):Prop:=∀a r,F a=some r->JE P g [t0.enc a] (fun v=>v=t.enc r)
abbrev IO(M:kL R)(t0:Ty T0)(t1:Ty T1)(N:Nat):Type:={B:T0->T1->Option R //∀a b,run M [.at []] (ini [t0.enc a,t1.enc b] N)=B a b}
abbrev th(P:aTL)(g:aTK)(t0:Ty T0)(t1:Ty T1)(t:Ty R)(F:T0->T1->Option R):Prop:=∀a b r,F a b=some r->JE P g [t0.enc a,t1.enc b] (fun v=>v=t.enc r)
abbrev SC3(M:kL R)(t0:Ty T0)(t1:Ty T1)(t2:Ty T2)(N:Nat):Type:={B:T0->T1->T2->Option R //∀a b c,run M [.at []] (ini [t0.enc a,t1.enc b,t2.enc c] N)=B a b c}
abbrev apD(P:aTL)(g:aTK)(t0:Ty T0)(t1:Ty T1)(t2:Ty T2)(t:Ty R)(F:T0->T1->T2->Option R):Prop:=∀a b c r,F a b c=some r->JE P g [t0.enc a,t1.enc b,t2.enc c] (fun v=>v=t.enc r)
abbrev SC4(M:kL R)(t0:Ty T0)(t1:Ty T1)(t2:Ty T2)(t3:Ty T3)(N:Nat):Type:={B:T0->T1->T2->T3->Option R //∀a b c d,run M [.at []] (ini [t0.enc a,t1.enc b,t2.enc c,t3.enc d] N)=B a b c d}
abbrev aDy(P:aTL)(g:aTK)(t0:Ty T0)(t1:Ty T1)(t2:Ty T2)(t3:Ty T3)(t:Ty R)(F:T0->T1->T2->T3->Option R):Prop:=∀a b c d r,F a b c d=some r->JE P g [t0.enc a,t1.enc b,t2.enc c,t3.enc d] (fun v=>v=t.enc r)
abbrev SC5(M:kL R)(t0:Ty T0)(t1:Ty T1)(t2:Ty T2)(t3:Ty T3)(t4:Ty T4)(N:Nat):Type:={B:T0->T1->T2->T3->T4->Option R //∀a b c d e,run M [.at []] (ini [t0.enc a,t1.enc b,t2.enc c,t3.enc d,t4.enc e] N)=B a b c d e}
abbrev aM1(P:aTL)(g:aTK)(t0:Ty T0)(t1:Ty T1)(t2:Ty T2)(t3:Ty T3)(t4:Ty T4)(t:Ty R)(F:T0->T1->T2->T3->T4->Option R):Prop:=∀a b c d e r,F a b c d e=some r->JE P g [t0.enc a,t1.enc b,t2.enc c,t3.enc d,t4.enc e] (fun v=>v=t.enc r)
abbrev SC6(M:kL R)(t0:Ty T0)(t1:Ty T1)(t2:Ty T2)(t3:Ty T3)(t4:Ty T4)(t5:Ty T5)(N:Nat):Type:={B:T0->T1->T2->T3->T4->T5->Option R //∀a b c d e f,run M [.at []] (ini [t0.enc a,t1.enc b,t2.enc c,t3.enc d,t4.enc e,t5.enc f] N)=B a b c d e f}
abbrev aQT(P:aTL)(g:aTK)(t0:Ty T0)(t1:Ty T1)(t2:Ty T2)(t3:Ty T3)(t4:Ty T4)(t5:Ty T5)(t:Ty R)(F:T0->T1->T2->T3->T4->T5->Option R):Prop:=∀a b c d e f r,F a b c d e f=some r->JE P g [t0.enc a,t1.enc b,t2.enc c,t3.enc d,t4.enc e,t5.enc f] (fun v=>v=t.enc r)
variable {fn:Func} {m:Nat} {p4:List Nat->jT->Option jT} {cut:List Nat->jT->Option jT}
 {tI:aTK->Bool} {co:aTK->List AV->List j6->Option CO} {tX:aTK->Bool} {ce:aTK->List AV->List j6->Option wq} {js:List Nat->List (Int×Code)} {cy:Nat->List AV->List j6->Option (AV×List j6)} {k:Nat} {g:aTK} {rs:List ResultVar} {p1 p2:List YJ} {b1 b2:List Nat} {low:Nat} {t:Ty R} {t0:Ty T0} {t1:Ty T1} {t2:Ty T2} {t3:Ty T3} {t4:Ty T4} {t5:Ty T5}
def aO0(w:SC0 (mU P fn m (lR P rs t) cl cd p4 cut wD cp (fun _ _=>none) tI co tX ce js cy) k)(G:FY (mU P fn m (lR P rs t) cl cd p4 cut wD cp (fun _ _=>none) tI co tX ce js cy))(hf:P.funcs[g]? =some fn)(hn:fn.ntmps=k)(Lo:fn.results=rs.toArray)(hb:fn.body=some (fn.body.getD .skip):=by exact rfl)(sB:(fn.name != "runtime.NumGoroutine")=true:=by exact rfl):aIq P g t w.1:=
 fun r h=>okC (w.2.trans h) G hf trivial hn Lo hb sB
def aO1{F:Nat->Option R}(h:∀n,aIq P g t (F (n+1)))(h0:F 0=none:=by intros;rfl):∀n,aIq P g t (F n)
 |0=>fun r h=>by rw[h0]at h;cases h
 |n+1=>h n
def uy(w:IT (mU P fn m (lR P rs t) cl cd p4 cut wD cp (fun _ _=>none) tI co tX ce js cy) t0 k)(G:FY (mU P fn m (lR P rs t) cl cd p4 cut wD cp (fun _ _=>none) tI co tX ce js cy))(hf:P.funcs[g]? =some fn)(hn:fn.ntmps=k)(Lo:fn.results=rs.toArray)(hb:fn.body=some (fn.body.getD .skip):=by exact rfl)(sB:(fn.name != "runtime.NumGoroutine")=true:=by exact rfl):tL P g t0 t w.1:=
 fun a r h=>okC ((w.2 a).trans h) G hf ⟨t0.nb 0 _,trivial⟩ hn Lo hb sB
def vD{F:Nat->T0->Option R}(h:∀n,tL P g t0 t (F (n+1)))(h0:∀a,F 0 a=none:=by intros;rfl):∀n,tL P g t0 t (F n)
 |0=>fun a r h=>by rw[h0]at h;cases h
 |n+1=>h n
def ug(w:IO (mU P fn m (lR P rs t) cl cd p4 cut wD cp (fun _ _=>none) tI co tX ce js cy) t0 t1 k)(G:FY (mU P fn m (lR P rs t) cl cd p4 cut wD cp (fun _ _=>none) tI co tX ce js cy))(hf:P.funcs[g]? =some fn)(hn:fn.ntmps=k)(Lo:fn.results=rs.toArray)(hb:fn.body=some (fn.body.getD .skip):=by exact rfl)(sB:(fn.name != "runtime.NumGoroutine")=true:=by exact rfl):th P g t0 t1 t w.1:=
 fun a b r h=>okC ((w.2 a b).trans h) G hf ⟨t0.nb 0 _,t1.nb 0 _,trivial⟩ hn Lo hb sB
def vM{F:Nat->T0->T1->Option R}(h:∀n,th P g t0 t1 t (F (n+1)))(h0:∀a b,F 0 a b=none:=by intros;rfl):∀n,th P g t0 t1 t (F n)
 |0=>fun a b r h=>by rw[h0]at h;cases h
 |n+1=>h n
def avJ(w:SC3 (mU P fn m (lR P rs t) cl cd p4 cut wD cp (fun _ _=>none) tI co tX ce js cy) t0 t1 t2 k)(G:FY (mU P fn m (lR P rs t) cl cd p4 cut wD cp (fun _ _=>none) tI co tX ce js cy))(hf:P.funcs[g]? =some fn)(hn:fn.ntmps=k)(Lo:fn.results=rs.toArray)(hb:fn.body=some (fn.body.getD .skip):=by exact rfl)(sB:(fn.name != "runtime.NumGoroutine")=true:=by exact rfl):apD P g t0 t1 t2 t w.1:=
 fun a b c r h=>okC ((w.2 a b c).trans h) G hf ⟨t0.nb 0 _,t1.nb 0 _,t2.nb 0 _,trivial⟩ hn Lo hb sB
def aF4{F:Nat->T0->T1->T2->Option R}(h:∀n,apD P g t0 t1 t2 t (F (n+1)))(h0:∀a b c,F 0 a b c=none:=by intros;rfl):∀n,apD P g t0 t1 t2 t (F n)
 |0=>fun a b c r h=>by rw[h0]at h;cases h
 |n+1=>h n
def aKG(w:SC4 (mU P fn m (lR P rs t) cl cd p4 cut wD cp (fun _ _=>none) tI co tX ce js cy) t0 t1 t2 t3 k)(G:FY (mU P fn m (lR P rs t) cl cd p4 cut wD cp (fun _ _=>none) tI co tX ce js cy))(hf:P.funcs[g]? =some fn)(hn:fn.ntmps=k)(Lo:fn.results=rs.toArray)(hb:fn.body=some (fn.body.getD .skip):=by exact rfl)(sB:(fn.name != "runtime.NumGoroutine")=true:=by exact rfl):aDy P g t0 t1 t2 t3 t w.1:=
 fun a b c d r h=>okC ((w.2 a b c d).trans h) G hf ⟨t0.nb 0 _,t1.nb 0 _,t2.nb 0 _,t3.nb 0 _,trivial⟩ hn Lo hb sB
def aM2{F:Nat->T0->T1->T2->T3->Option R}(h:∀n,aDy P g t0 t1 t2 t3 t (F (n+1)))(h0:∀a b c d,F 0 a b c d=none:=by intros;rfl):∀n,aDy P g t0 t1 t2 t3 t (F n)
 |0=>fun a b c d r h=>by rw[h0]at h;cases h
 |n+1=>h n
def aR8(w:SC5 (mU P fn m (lR P rs t) cl cd p4 cut wD cp (fun _ _=>none) tI co tX ce js cy) t0 t1 t2 t3 t4 k)(G:FY (mU P fn m (lR P rs t) cl cd p4 cut wD cp (fun _ _=>none) tI co tX ce js cy))(hf:P.funcs[g]? =some fn)(hn:fn.ntmps=k)(Lo:fn.results=rs.toArray)(hb:fn.body=some (fn.body.getD .skip):=by exact rfl)(sB:(fn.name != "runtime.NumGoroutine")=true:=by exact rfl):aM1 P g t0 t1 t2 t3 t4 t w.1:=
 fun a b c d e r h=>okC ((w.2 a b c d e).trans h) G hf ⟨t0.nb 0 _,t1.nb 0 _,t2.nb 0 _,t3.nb 0 _,t4.nb 0 _,trivial⟩ hn Lo hb sB
def aR9{F:Nat->T0->T1->T2->T3->T4->Option R}(h:∀n,aM1 P g t0 t1 t2 t3 t4 t (F (n+1)))(h0:∀a b c d e,F 0 a b c d e=none:=by intros;rfl):∀n,aM1 P g t0 t1 t2 t3 t4 t (F n)
 |0=>fun a b c d e r h=>by rw[h0]at h;cases h
 |n+1=>h n
def aSa(w:SC6 (mU P fn m (lR P rs t) cl cd p4 cut wD cp (fun _ _=>none) tI co tX ce js cy) t0 t1 t2 t3 t4 t5 k)(G:FY (mU P fn m (lR P rs t) cl cd p4 cut wD cp (fun _ _=>none) tI co tX ce js cy))(hf:P.funcs[g]? =some fn)(hn:fn.ntmps=k)(Lo:fn.results=rs.toArray)(hb:fn.body=some (fn.body.getD .skip):=by exact rfl)(sB:(fn.name != "runtime.NumGoroutine")=true:=by exact rfl):aQT P g t0 t1 t2 t3 t4 t5 t w.1:=
 fun a b c d e f r h=>okC ((w.2 a b c d e f).trans h) G hf ⟨t0.nb 0 _,t1.nb 0 _,t2.nb 0 _,t3.nb 0 _,t4.nb 0 _,t5.nb 0 _,trivial⟩ hn Lo hb sB
end
section
variable {O2 W2 Φ:Type}
abbrev SX(M:kL R)(aTo:AL γ)(os:OL O)(N:Nat)(u:Φ->O->γ->Option R):Type:={B:Φ //∀b a,run M [.at []] (aAj aTo os b a N)=u B b a}
abbrev zD(P:aTL)(g:aTK)(aTo:AL γ)(os:OL O)(vf:OL O1)(s:AL W)(F:O->γ->Option (O1×W)):Prop:=∀b a r,F b a=some r->SG P g aTo os b a vf s r
abbrev tG(P:aTL)(g:aTK)(aTo:AL γ)(os:OL O)(pk:Bool)(vf:OL O1)(s1:AL W1)(Cw:OL O2)(s2:AL W2)(F:O->γ->Option (PR (O1×W1) (O2×W2))):Prop:=∀b a r,F b a=some r->SP P g aTo os b a pk vf s1 Cw s2 r
variable {fn:Func} {m:Nat} {p4:List Nat->jT->Option jT} {cut:List Nat->jT->Option jT}
 {tI:aTK->Bool} {co:aTK->List AV->List j6->Option CO} {tX:aTK->Bool} {ce:aTK->List AV->List j6->Option wq} {js:List Nat->List (Int×Code)} {cy:Nat->List AV->List j6->Option (AV×List j6)} {k:Nat} {g:aTK} {rs:List ResultVar} {p1 p2:List YJ} {b1 b2:List Nat} {low:Nat}
 {aTo:AL γ} {os:OL O} {os0:OL O1} {s:AL W} {vf:OL O1} {Bv:AL W1} {Cw:OL O2} {LR:AL W2} {c:YK}
def G6{u:Φ->O->γ->Option (O1×W)}(e:SX (mU P fn m (xg P rs p1 b1 low os0 s) cl cd p4 cut wD cp (fun _ _=>none) tI co tX ce js cy) aTo os k u)(G:FY (mU P fn m (xg P rs p1 b1 low os0 s) cl cd p4 cut wD cp (fun _ _=>none) tI co tX ce js cy))(hf:P.funcs[g]? =some fn)(hn:fn.ntmps=k)(Lo:fn.results=rs.toArray)(h1:decide (aTo.mm<=os.size)=true:=by kernel_rfl)(h2:decide (os.mm<=os.size)=true:=by kernel_rfl)(hb1:b1=eV low:=by exact rfl)(hb:fn.body=some (fn.body.getD .skip):=by exact rfl)(sB:(fn.name != "runtime.NumGoroutine")=true:=by exact rfl):zD P g aTo os os0 s (u e.1):=fun b a r h=>okG ((e.2 b a).trans h) G hf hn Lo h1 h2 hb1 hb sB
def Et{u:Φ->O->γ->Option (PR (O1×W1) (O2×W2))}(e:SX (mU P fn m (qM P rs p1 b1 low vf Bv) cl cd p4 cut wD cp (qN p2 b2 low Cw LR) tI co tX ce js cy) aTo os k u)(G:FY (mU P fn m (qM P rs p1 b1 low vf Bv) cl cd p4 cut wD cp (qN p2 b2 low Cw LR) tI co tX ce js cy))(hf:P.funcs[g]? =some fn)(hn:fn.ntmps=k)(Lo:fn.results=rs.toArray)(h1:decide (aTo.mm<=os.size)=true:=by kernel_rfl)(h2:decide (os.mm<=os.size)=true:=by kernel_rfl)(zz: ∀b a,∃y,LR.enc (Cw.mo b) a=[y]:=by exact fun b a=>⟨_,rfl⟩)(hb1:b1=eV low:=by exact rfl)(hb2:b2=eV low:=by exact rfl)(hb:fn.body=some (fn.body.getD .skip):=by exact rfl)(sB:(fn.name != "runtime.NumGoroutine")=true:=by exact rfl):tG P g aTo os true vf Bv Cw LR (u e.1):=fun b a r h=>okP ((e.2 b a).trans h) G hf hn Lo h1 h2 zz hb1 hb2 hb sB
def aQU{u:Φ->O->γ->Option (PR (O1×W1) (O2×W2))}(e:SX (mU P fn m (apy P rs p1 b1 low vf Bv p2 Cw LR) cl cd p4 cut wD cp (fun _ _=>none) tI co tX ce js cy) aTo os k u)(G:FY (mU P fn m (apy P rs p1 b1 low vf Bv p2 Cw LR) cl cd p4 cut wD cp (fun _ _=>none) tI co tX ce js cy))(hf:P.funcs[g]? =some fn)(hn:fn.ntmps=k)(Lo:fn.results=rs.toArray)(h1:decide (aTo.mm<=os.size)=true:=by kernel_rfl)(h2:decide (os.mm<=os.size)=true:=by kernel_rfl)(hb1:b1=eV low:=by exact rfl)(hb:fn.body=some (fn.body.getD .skip):=by exact rfl)(sB:(fn.name != "runtime.NumGoroutine")=true:=by exact rfl):tG P g aTo os false vf Bv Cw LR (u e.1):=fun b a r h=>okS ((e.2 b a).trans h) G hf hn Lo h1 h2 hb1 hb sB
def aNI{u:Φ->O->γ->Option (PR (O1×W1) (O2×W2))}(hc:aKx P c)(e:SX (mU P fn m (avF c (qM P rs p1 b1 low vf Bv) (qN p2 b2 low Cw LR)) cl cd p4 cut wD cp (avG c (qM P rs p1 b1 low vf Bv) (qN p2 b2 low Cw LR)) tI co tX ce js cy) aTo os k u)(G:FY (mU P fn m (avF c (qM P rs p1 b1 low vf Bv) (qN p2 b2 low Cw LR)) cl cd p4 cut wD cp (avG c (qM P rs p1 b1 low vf Bv) (qN p2 b2 low Cw LR)) tI co tX ce js cy))(hf:P.funcs[g]? =some fn)(hn:fn.ntmps=k)(Lo:fn.results=rs.toArray)(h1:decide (aTo.mm<=os.size)=true:=by kernel_rfl)(h2:decide (os.mm<=os.size)=true:=by kernel_rfl)(zz: ∀b a,∃y,LR.enc (Cw.mo b) a=[y]:=by exact fun b a=>⟨_,rfl⟩)(hb1:b1=eV low:=by exact rfl)(hb2:b2=eV low:=by exact rfl)(hb:fn.body=some (fn.body.getD .skip):=by exact rfl)(sB:(fn.name != "runtime.NumGoroutine")=true:=by exact rfl):tG P g aTo os true vf Bv Cw LR (u e.1):=fun b a r h=>aR7 hc ((e.2 b a).trans h) G hf hn Lo h1 h2 zz hb1 hb2 hb sB
def WS{u:Φ->O->γ->Option (O1×W)}{F:Nat->Φ}(h:∀n,zD P g aTo os vf s (u (F (n+1))))(h0:∀b a,u (F 0) b a=none:=by intros;rfl):∀n,zD P g aTo os vf s (u (F n))
 |0=>fun b a r h=>by rw[h0]at h;cases h
 |n+1=>h n
def ae9{u:Φ->O->γ->Option (PR (O1×W1) (O2×W2))}{F:Nat->Φ}(h:∀n,tG P g aTo os pk vf Bv Cw LR (u (F (n+1))))(h0:∀b a,u (F 0) b a=none:=by intros;rfl):∀n,tG P g aTo os pk vf Bv Cw LR (u (F n))
 |0=>fun b a r h=>by rw[h0]at h;cases h
 |n+1=>h n
end
def mC {p:O->Prop} (x:Subtype p:=by
    apply _root_.Subtype.mk
    repeat (first|refine _root_.Prod.forall.2 ?_|intro)
    simp (config:={maxSteps:=100000000}) only[go_sem,_root_.Nat.reduceAdd,_root_.Nat.reduceSub,_root_.Nat.reduceLeDiff,_root_.Nat.reduceEqDiff,_root_.Nat.reduceBEq,_root_.Nat.reduceMul,_root_.Nat.reduceLT,_root_.Int.reduceLE,_root_.Int.reduceLT,_root_.Int.reduceToNat,_root_.Int.reduceBEq,_root_.Int.reduceEq,_root_.Option.getD_some,mixed, *];exact rfl):Subtype p:=x
def mC2 {p:O->Prop} (x:Subtype p:=by
    apply _root_.Subtype.mk
    repeat (first|refine _root_.Prod.forall.2 ?_|intro)
    simp (config:={maxSteps:=100000000})-implicitDefEqProofs only[go_sem,_root_.Nat.reduceAdd,_root_.Nat.reduceSub,_root_.Nat.reduceLeDiff,_root_.Nat.reduceEqDiff,_root_.Nat.reduceBEq,_root_.Nat.reduceMul,_root_.Nat.reduceLT,_root_.Int.reduceLE,_root_.Int.reduceLT,_root_.Int.reduceToNat,_root_.Int.reduceBEq,_root_.Int.reduceEq,_root_.Option.getD_some,mixed, *];exact rfl):Subtype p:=x
def qn.bnd{f:Fn}{xs:List AV}(h:qn xs ys):Pg (.func f xs []) (.func f ys []):=by
 rintro E v ⟨a,b,rfl,h1,h2⟩;exact⟨a,b,rfl,h E _ h1,h2⟩
section

def aM3(f:aTK)(c:VL γ)(s:VL δ)(Y:List Nat)(L:Er):List AV->Option (γ×δ)
 |.func (.func f') cs []::xs=>bif decide (f'=f)then(c.mK Y L cs).bind fun y=>(s.mK Y L xs).bind fun a=>some (y,a)else none
 |_=>none
def vlB (f:aTK) (c:VL γ) (s:VL δ):VL (γ×δ) where
 enc L g:=.func (.func f) (c.enc L g.1) []::s.enc L g.2
 mK:=aM3 f c s
 mm:=max c.mm s.mm
 nb L g:=⟨⟨so (by omega) _ (c.nb L g.1),trivial⟩,so (by omega) _ (s.nb L g.2)⟩
 ok Y L vs g h:=by
  unfold aM3 at h;split at h
  ·rename_i f' cs xs;cases hc:decide (f'=f)with
   |false=>simp [hc]at h
   |true=>
    simp only[hc,jF,eS,eT]at h;obtain⟨y,hy,a,ha,rfl⟩:=h;obtain rfl:=jJ hc;refine qn.cons ?_ (s.ok Y L _ _ ha);simp only[AV.qo,sO];exact(qn.bnd (c.ok Y L _ _ hy))
  ·cases h
def aM4(f:aTK)(c:VL γ)(s:AL δ)(Y:List Nat)(L:Er)(H:List j6):List AV->Option (γ×δ)
 |.func (.func f') cs []::xs=>bif decide (f'=f)then(c.mK Y L cs).bind fun y=>(s.mK Y L H xs).bind fun a=>some (y,a)else none
 |_=>none
def alB (f:aTK) (c:VL γ) (s:AL δ):AL (γ×δ) where
 enc L g:=.func (.func f) (c.enc L g.1) []::s.enc L g.2
 mK:=aM4 f c s
 mm:=max c.mm s.mm
 nb L g:=⟨⟨so (by omega) _ (c.nb L g.1),trivial⟩,so (by omega) _ (s.nb L g.2)⟩
 ok Y L H n vs g hv h:=by
  unfold aM4 at h;split at h
  ·rename_i f' cs xs;cases hc:decide (f'=f)with
   |false=>simp [hc]at h
   |true=>
    simp only[hc,jF,eS,eT]at h;obtain⟨y,hy,a,ha,rfl⟩:=h;obtain rfl:=jJ hc;refine At.cons ?_ (s.ok Y L H n _ _ (hv.mono (by omega)) ha);simp only[AV.qo,sO];exact Co.sub (qn.bnd (c.ok Y L _ _ hy)) ⟨ae4 (hv.mono (a:=c.mm) (by omega)).lt _ (c.nb L y),trivial⟩
  ·cases h
def aQV{c:VL γ}{s:VL δ}:(∀L g,(vlB f c s).enc L g=.func (.func f) (c.enc L g.1) []::s.enc L g.2)/\∀Y L xs,(vlB f c s).mK Y L xs=aM3 f c s Y L xs:=⟨fun _ _=>rfl,fun _ _ _=>rfl⟩
def aQW{c:VL γ}{s:AL δ}:(∀L g,(alB f c s).enc L g=.func (.func f) (c.enc L g.1) []::s.enc L g.2)/\(∀Y L H xs,(alB f c s).mK Y L H xs=aM4 f c s Y L H xs)/\(alB f c s).mm=max c.mm s.mm:=⟨fun _ _=>rfl,fun _ _ _ _=>rfl,rfl⟩
def aQX{c:VL γ}{s:VL δ}:(vlB f c s).mm=max c.mm s.mm:=rfl
def aM5(f:aTK)(a:Ty W):AV->Option W
 |.func (.func g) [x] []=>if g=f then a.mK [] x else none
 |_=>none
def avK(f:aTK)(a:Ty W):Ty W where
 enc x:=.func (.func f) [a.enc x] []
 mK _:=aM5 f a
 ok H n v x h:=by
  unfold aM5 at h;split at h
  ·split at h
   ·rename_i e;subst e;exact Co.sub (Pg.func (qn.cons (a.ok [] 0 _ _ h).nI qn.nil) qn.nil) ⟨⟨a.nb n x,trivial⟩,trivial⟩
   ·cases h
  ·cases h
 nb n x:=⟨⟨a.nb n x,trivial⟩,trivial⟩
def aO2{a:Ty W}:(∀x,(avK f a).enc x=.func (.func f) [a.enc x] [])/\∀H v,(avK f a).mK H v=aM5 f a v:=⟨fun _=>rfl,fun _ _=>rfl⟩
attribute [go_sem] aQV aQW aQX aM3 aM4 aM5 aO2
end
def aSb(M:kL R)(K:List Kt)(s:Nat)(J:jT):Option AV->Option R
 |some (.bool b)=>bif b then run M K {J with kf:=J.kf.set s (.bool true)} else run M K {J with kf:=J.kf.set s (.bool false)}
 |_=>run M K J
def aO3{s:Nat}:aSb M K s J (some (.bool b))=bif b then run M K {J with kf:=J.kf.set s (.bool true)} else run M K {J with kf:=J.kf.set s (.bool false)}:=rfl
attribute [go_sem] aO3
def dbY:j6->Option kp
 |.alT s=>dS (.str s)
 |_=>none
theorem aF5{x:j6}{s:kp}(h:dbY x=some s):x=.alT (sb s):=by
 unfold dbY at h;split at h
 ·rename_i u;have h2:s=u.data.toList:=by simp only[dS,eT]at h;exact h.symm
  subst h2;rfl
 ·cases h
def ogB:OG kp where
 enc _ s:=.alT (sb s)
 mK _ _ _:=dbY
 len s:=s.length
 mm:=0
 nb _ _:=trivial
 ok Y L H n x g _ h:=by rw[aF5 h];exact .inr (.inl ⟨rfl,trivial⟩)
 asB Y L H x g h:=by
  rw[aF5 h];show g.length=(sb g).size;rw[VW]
def aQY:(∀L g,ogB.enc L g=.alT (sb g))/\(∀Y L H x,ogB.mK Y L H x=dbY x)/\(∀g,ogB.len g=g.length)/\ogB.mm=0:=⟨fun _ _=>rfl,fun _ _ _ _=>rfl,fun _=>rfl,rfl⟩
def oY:ZO:=⟨fun _ _ x=>(dbY x).bind fun s=>some (.alT (sb s)),fun H n x y h=>by
 simp only[eS,eT]at h;obtain⟨s,hs,rfl⟩:=h;rw[aF5 hs];exact .inr (.inl ⟨rfl,trivial⟩)⟩
def aSc{x:j6}:oY.f H n x=(dbY x).bind fun s=>some (.alT (sb s)):=rfl
def aQZ:dbY (.alT s)=dS (.str s):=rfl
def aKH:mT (some (.alT s))=some s.size:=rfl
def aKI:(j6.alT s).qo τ=.alT s:=rfl
def aKJ:ByteArray.empty=sb []:=rfl
section

def aM6(t k:Nat)(s:AL δ)(Y:List Nat)(L:Er)(H:List j6):List AV->Option δ
 |.sn t' l::xs=>bif decide (t'=t/\Y[k]? =some l)then s.mK Y L H xs else none
 |_=>none
def alS (t k:Nat) (s:AL δ):AL δ where
 enc L g:=.sn t k::s.enc L g
 mK:=aM6 t k s
 mm:=max (k+1) s.mm
 nb L g:=⟨show k<_ by omega,so (by omega) _ (s.nb L g)⟩
 ok Y L H n vs g hv h:=by
  unfold aM6 at h;split at h
  ·rename_i t' l xs;cases hc:decide (t'=t/\Y[k]? =some l)with
   |false=>simp [hc]at h
   |true=>
    simp only[hc,jF]at h;obtain⟨rfl,hc'⟩:=jJ hc;refine At.cons ?_ (s.ok Y L H n _ _ (hv.mono (by omega)) h);have hl:=hv.lt k (by omega);simp only[AV.qo];rw[aiM hc']at hl ⊢;exact Co.same hl
  ·cases h
def aQ0{t k:Nat}{s:AL δ}:(∀L g,(alS t k s).enc L g=.sn t k::s.enc L g)/\(∀Y L H xs,(alS t k s).mK Y L H xs=aM6 t k s Y L H xs)/\(alS t k s).mm=max (k+1) s.mm:=⟨fun _ _=>rfl,fun _ _ _ _=>rfl,rfl⟩
end
attribute [go_sem] aQY aSc aQZ aKH aKI aKJ aM6 aQ0
section
open Go.Proofs Go.Shelf Go.RowKit
variable {Y:Ren}
set_option maxHeartbeats 1000000 in
set_option maxRecDepth 100000 in
def aAl(L:Lays.n240 P Y){T:Nat}(hs:(P.info? (Y.t 72)).map (·.size)=some 2)(hl:liesAt P P.depth T (n / P.cellsOf T) 0 (Y.t 72) 1=true)(hn:0<n)
 (b:Nat) (w:aTN) (h0:w.cell? ⟨b,0,none⟩=some (.pointer none)) (hsh:w.shape? b=some (T,n)) (hfz:w.frozen? ⟨b,0,none⟩=false):
 Calls P (Y.f 240) #[.pointer (some ⟨b,0,none⟩)] w fun e w'=>e=.returned (.tuple #[])/\w'=w.setCell ⟨b,0,none⟩ (.pointer (some ⟨b,0,none⟩)):=by
 obtain⟨j,hj,hjs⟩:=eU.1 hs;have mixed:=L.mixed;have t72:=L.t72;have a72:=L.a72;have z72:=L.z72;have v72:=L.v72;have u72:=run_underlying L.t72;have t70:=L.t70;have a70:=L.a70;have z70:=L.z70;have v70:=L.v70;have u70:=run_underlying L.t70;have t9:=L.t9;have a9:=L.a9;have z9:=L.z9;have v9:=L.v9;have u9:=run_underlying L.t9;have t4:=L.t4;have a4:=L.a4;have z4:=L.z4;have v4:=L.v4;have u4:=run_underlying L.t4;have t164:=L.t164;have a164:=L.a164;have z164:=L.z164;have v164:=L.v164;have aSd:=run_underlying L.t164
 go_enter L.f240,Body.n240_ntmps Y
 go_wp2
 rw[Lib.run_to_unsafe w ⟨b,0,none⟩ L.t70 L.t164 hj (by rw[hjs];decide) hsh hn];simp only[Result.andThen];rw[Oper.upon_value]
 go_wp2
 rw[run_callFunc_extern L.f276 (jO) (jO) (jO) (e:=Extern.AbiNoEscape.same) (jO)];rw[Lib.run_noEscape];simp only[Result.andThen];rw[Oper.upon_value]
 go_wp2
 rw[Lib.run_from_unsafe w ⟨b,0,none⟩ L.t164 L.t70 hj hsh hl];simp only[Result.andThen];rw[Oper.upon_value]
 go_wp2
 go_end0
 exact⟨rfl,rfl⟩
def aAm(L:Lays.n240 P Y)(hs:(P.info? (Y.t 72)).map (·.size)=some 2)(b:Nat)(w:aTN)(h0:w.cell? ⟨b,0,none⟩=some (.pointer (some ⟨b,0,none⟩))):
 Calls P (Y.f 240) #[.pointer (some ⟨b,0,none⟩)] w fun e w'=>e=.returned (.tuple #[])/\w'=w:=by
 obtain⟨j,hj,_⟩:=eU.1 hs;have mixed:=L.mixed;have t72:=L.t72;have a72:=L.a72;have z72:=L.z72;have v72:=L.v72;have u72:=run_underlying L.t72;have t70:=L.t70;have a70:=L.a70;have z70:=L.z70;have v70:=L.v70;have u70:=run_underlying L.t70;have t9:=L.t9;have a9:=L.a9;have z9:=L.z9;have v9:=L.v9;have u9:=run_underlying L.t9;have t4:=L.t4;have a4:=L.a4;have z4:=L.z4;have v4:=L.v4;have u4:=run_underlying L.t4;have t164:=L.t164;have a164:=L.a164;have z164:=L.z164;have v164:=L.v164;have aSd:=run_underlying L.t164
 go_enter L.f240,Body.n240_ntmps Y
 go_wp2
 rw[Lib.run_neq_ptr_same w _ L.t70 hj]
 go_wp2
 go_end0
 exact⟨rfl,rfl⟩
end
section
open Go.Proofs Go.Shelf Go.RowKit
variable {Y:Ren}
set_option maxHeartbeats 2000000 in
def aIr(L:Lays.n169 P Y)(X:Builder.Extra P Y)(b n cap:Nat)(base q:Option Addr)(s:ByteArray)(w w1 w2:aTN)(c1:w.drew.cell? ⟨b,1,none⟩=some (.slice base n cap))(c2:w1.cell? ⟨b,1,none⟩=some (.slice base n cap))
 (hSD:(Builtin.unsafeSliceData_ #[(Y.t 37)] (Y.t 127) #[.slice base n cap]).run P w.drew=.ok (.pointer q) w1)
 (hUS:(Builtin.unsafeString_ #[(Y.t 127),(Y.t 3)] (Y.t 9) #[.pointer q,.int .i64 n]).run P w1=.ok (.string s) w2):
 Calls P (Y.f 169) #[.pointer (some ⟨b,0,none⟩)] w fun e w'=>e=.returned (.string s)/\w'=w2:=by
 have mixed:=L.mixed;have t72:=L.t72;have a72:=L.a72;have z72:=L.z72;have v72:=L.v72;have u72:=run_underlying L.t72;have t70:=L.t70;have a70:=L.a70;have z70:=L.z70;have v70:=L.v70;have u70:=run_underlying L.t70;have t37:=L.t37;have a37:=L.a37;have z37:=L.z37;have v37:=L.v37;have u37:=run_underlying L.t37;have t127:=L.t127;have a127:=L.a127;have z127:=L.z127;have v127:=L.v127;have aSD:=run_underlying L.t127;have t3:=L.t3;have a3:=L.a3;have z3:=L.z3;have v3:=L.v3;have u3:=run_underlying L.t3;have t9:=L.t9;have a9:=L.a9;have z9:=L.z9;have v9:=L.v9;have u9:=run_underlying L.t9;have t5:=X.t5;have a5:=X.a5;have z5:=X.z5;have v5:=X.v5;have u5:=run_underlying X.t5
 go_enter L.f169,Body.n169_ntmps Y
 go_wp2
 go_region_o
 all_goals (go_wp2;go_ret;exact⟨rfl,rfl⟩)
end
def axv{T:Nat}(he:enters P f=true)
 (hu:∀b w,w.cell? ⟨b,0,none⟩=some (.pointer (some ⟨b,0,none⟩))->Calls P f #[.pointer (some ⟨b,0,none⟩)] w fun e w'=>e=.returned (.tuple #[])/\w'=w)
 (hi:∀b w,w.cell? ⟨b,0,none⟩=some (.pointer none)->w.shape? b=some (T,n)->w.frozen? ⟨b,0,none⟩=false->
   Calls P f #[.pointer (some ⟨b,0,none⟩)] w fun e w'=>e=.returned (.tuple #[])/\w'=w.setCell ⟨b,0,none⟩ (.pointer (some ⟨b,0,none⟩)))
 (cs:List AV) (H:List j6) (hn:cs.length+1=n) (G8:ua (H.length+1) cs) (JG:∀x∈H,rX (H.length+1) x):
 FnG P f [.ptr 0 0] (.cells (.sn T 0::cs)::H) (fun o H'=>o=.ret (.asN [])/\H'=.cells (.sn T 0::cs)::H):=by
 refine⟨he,⟨Nat.succ_pos _,trivial⟩,?_,fun C U w hP hw hN0 hφ hM HS vs hr=>?_⟩
 ·intro x hx;rcases fc.1 hx with rfl|hx
  ·exact⟨Nat.succ_pos _,G8⟩
  ·exact JG x hx
 obtain⟨v0,us,hvs,⟨_,b,hb,hv0⟩,anO⟩:=hr;have hus:us=[]:=anO;subst hus hv0;obtain rfl:vs= #[.pointer (some ⟨b,0,none⟩)]:=by cases vs;simp_all
 obtain⟨b2,c,t,hb2,hh,rl,zz⟩:=HS.oB 0 _ rfl;have hbw:U 0=.pointer (some ⟨b,0,none⟩):=hb;obtain rfl:b=b2:=by have hb2:U 0=_:=hb2;rw[hbw]at hb2;simpa using hb2
 obtain⟨u0,vs2,hc0,⟨_,b3,hb3,hu0,c3,fz3,hh3⟩,rr⟩:=rl;have aQ1:U 0=.pointer (some ⟨b3,0,none⟩):=hb3;obtain rfl:b=b3:=by rw[hbw]at aQ1;simpa using aQ1
 have hhw:w.heap[b]? =some (.cells c t (0,0)):=hh;have aM7:w.heap[b]? =some (.cells c3 T fz3):=hh3;obtain⟨rfl,rfl⟩:c=c3/\t=T:=by rw[hhw]at aM7;simp at aM7;exact⟨aM7.1,aM7.2.1⟩
 have hcz:c.size=n:=by
  have h1:c.toList.length=_:=congrArg List.length hc0;rw[List.length_cons,rr.length]at h1;simp at h1;omega
 have ub:w.cell? ⟨b,0,none⟩=some u0:=by
  have:c[0]? =some u0:=by rw[<-Array.getElem?_toList,hc0];rfl
  simp [World.cell?,hhw,this]
 rcases hu0 with rfl|rfl
 ·refine(hi b w ub (by simp [World.shape?,hhw,hcz]) (by simp [World.frozen?,hhw])).mono ?_;rintro e w' ⟨rfl,rfl⟩
  have aEA:(c.setIfInBounds 0 (.pointer (some ⟨b,0,none⟩))).toList=Value.pointer (some ⟨b,0,none⟩)::vs2:=by
   rw[Array.toList_setIfInBounds,hc0];rfl
  have S2:=nK.write HS (l:=0) (b:=b) (cs':=.sn t 0::cs) (c':=c.setIfInBounds 0 (.pointer (some ⟨b,0,none⟩))) rfl hbw hhw (by
   rw[aEA];exact⟨_,_,rfl,⟨Nat.succ_pos _,b,hbw,.inr rfl,c,(0,0),hhw⟩,rr⟩) (by
   rw[aEA];intro u hu;rcases fc.1 hu with rfl|hu
   ·rfl
   ·exact zz u (by rw[hc0];exact List.mem_cons_of_mem _ hu))
  rw[setCell_eq_setRow w b 0 c t (0,0) _ hhw];exact⟨_,U,_,⟨rfl,rfl⟩,S2,⟨#[],rfl,rfl⟩⟩
 ·refine(hu b w ub).mono ?_;rintro e w' ⟨rfl,rfl⟩;exact⟨_,U,_,⟨rfl,rfl⟩,HS,⟨#[],rfl,rfl⟩⟩
section
variable {C:qC} {U:Nat->aTM} {a:Act} {w:aTN}
def aIs(w:aTN){c:Array aTM}{t:TypeId}{fz:Nat×Nat}(hn:n≠0)(hg:w.heap[g]? =some (.cells c t fz))(hf:fz.2<=n):
 (w.freeze ⟨g,0,none⟩ n).heap.size=w.heap.size/\(∀b,b≠g->(w.freeze ⟨g,0,none⟩ n).heap[b]? =w.heap[b]?)/\∃fz',(w.freeze ⟨g,0,none⟩ n).heap[g]? =some (.cells c t fz')/\fz'.2<=n:=by
 obtain⟨lo,hi⟩:=fz;unfold World.freeze;rw[if_neg hn];refine⟨by simp,fun b hb=>?_,?_⟩
 ·simp only[Array.getElem?_modify];rw[if_neg (fun e=>hb e.symm)]
 ·simp only[Array.getElem?_modify,jN,hg,Option.map_some];refine⟨_,rfl,?_⟩;simp only at hf;split
  ·show 0+n<=n;omega
  ·show max hi (0+n)<=n;omega
def nK.aM8(S:nK C U J a w){cap:Nat}(hl:J.heap[l]? =some (.alT s))(hφ:U l=.slice (some ⟨g,0,none⟩) s.size cap)(sB:s.size≠0):nK C U J a (w.freeze ⟨g,0,none⟩ s.size):=by
 have aiA:w.ownsRowF 0 MM 1 (U l) s.size (fe s):=S.oB l _ hl;rw[hφ]at aiA;obtain⟨hxl,aiA⟩:=aiA;rcases aiA with⟨h,_⟩|⟨g',aPF,cur,fz,hv,hb,hg,hfz,r1,r2,r3,r4⟩
 ·cases h
 ·have hv:=hv;injection hv with e1 e2 e3
  have e1:g=g':=by injection e1 with e1;injection e1
  subst e1 e3;obtain⟨k1,k2,fz',k3,k4⟩:=aIs w sB hg (by omega)
  have hos:(w.freeze ⟨g,0,none⟩ s.size).os=w.os/\(w.freeze ⟨g,0,none⟩ s.size).tape=w.tape/\(w.freeze ⟨g,0,none⟩ s.size).output=w.output:=by
   unfold World.freeze;rw[if_neg sB];exact⟨rfl,rfl,rfl⟩
  have S2:=S.aGz (s':=s) (w':=w.freeze ⟨g,0,none⟩ s.size) (h':=U l) hl (.inr ⟨rfl,rfl⟩) (by
   rw[hφ];exact⟨hxl,.inr ⟨g,cap,cur,fz',rfl,hb,k3,by omega,r1,r2,r3,r4⟩⟩)
   ⟨hos.1,hos.2.1,hos.2.2,by rw[k1];exact Nat.le_refl _,fun k hk sB=>k2 k (fun e=>sB (by rw[hφ,e];rfl))⟩ (fun k hk=>.inl hk) (fun b c t fz2 hc=>by
     by_cases e:b=g
     ·subst e;rw[hg]at hc;cases hc;exact⟨_,_,k3⟩
     ·exact⟨_,_,by rw[k2 b e];exact hc⟩)
  have e1:(fun k=>if k=l then U l else U k)=U:=by
   funext k;by_cases e:k=l
   ·rw[if_pos e,e]
   ·rw[if_neg e]
  have e2:J.heap.set l (.alT s)=J.heap:=by
   have rQ:=(eX.1 hl).1;have:=(eX.1 hl).2;rw[<-this,fb]
  rw[e1,e2]at S2;exact S2
end
def aF6{t37 t127 t3 t9:TypeId}(he:enters P f=true)(hp:P.underlying t127=some (.pointer MM))(hc1:P.cellsOf MM=1)
 (hS:∀(b n cap:Nat)(base q:Option Addr)(s:ByteArray)(w w1 w2:aTN),w.drew.cell? ⟨b,1,none⟩=some (.slice base n cap)->w1.cell? ⟨b,1,none⟩=some (.slice base n cap)->
   (Builtin.unsafeSliceData_ #[t37] t127 #[.slice base n cap]).run P w.drew=.ok (.pointer q) w1->(Builtin.unsafeString_ #[t127,t3] t9 #[.pointer q,.int .i64 n]).run P w1=.ok (.string s) w2->
   Calls P f #[.pointer (some ⟨b,0,none⟩)] w fun e w'=>e=.returned (.string s)/\w'=w2)
 (x0:AV) (cs:List AV) (s:ByteArray) (k:Nat) (hk:s.size=k) (G8:x0.nb 2/\ua 2 cs):
 FnG P f [.ptr 0 0] [.cells (x0::.lV 1 k::cs),.alT s] (fun o H'=>o=.ret (.str s)/\H'=[.cells (x0::.lV 1 k::cs),.alT s]):=by
 subst hk;refine⟨he,⟨Nat.succ_pos _,trivial⟩,?_,fun C U w hP hw hN0 hφ hM HS vs hr=>?_⟩
 ·intro x hx;simp only[fc,List.not_mem_nil,or_false]at hx;rcases hx with rfl|rfl
  ·exact⟨G8.1,(by decide:1<2),G8.2⟩
  ·trivial
 obtain⟨v0,us,hvs,⟨_,b,hb,hv0⟩,anO⟩:=hr;have hus:us=[]:=anO;subst hus hv0;obtain rfl:vs= #[.pointer (some ⟨b,0,none⟩)]:=by cases vs;simp_all
 obtain⟨b2,c,t,hb2,hh,rl,zz⟩:=HS.oB 0 _ rfl;have hbw:U 0=.pointer (some ⟨b,0,none⟩):=hb;obtain rfl:b=b2:=by have hb2:U 0=_:=hb2;rw[hbw]at hb2;simpa using hb2
 obtain⟨u0,vs2,hc0,_,u1,vs3,hc2,r1,_⟩:=rl;have hhw:w.heap[b]? =some (.cells c t (0,0)):=hh;have hu1:u1=U 1:=azF (J:={kf:=[],heap:=[.cells (x0::.lV 1 s.size::cs),.alT s],low:=2}) HS (l:=1) (s:=s) rfl rfl r1;subst hu1;have rQ:b<w.heap.size:=(Array.getElem?_eq_some_iff.1 hhw).1
 have ub:w.cell? ⟨b,1,none⟩=some (U 1):=by
  have:c[1]? =some (U 1):=by rw[<-Array.getElem?_toList,hc0,hc2];rfl
  simp [World.cell?,hhw,this]
 have aiA:w.ownsRowF 0 MM 1 (U 1) s.size (fe s):=HS.oB 1 _ rfl;have HD:nK C U {kf:=[],heap:=[.cells (x0::.lV 1 s.size::cs),.alT s],low:=2} {tmps:= #[],defers:=[]} w.drew:=HS.drew _
 have done:∀(w':aTN),nK C U {kf:=[],heap:=[.cells (x0::.lV 1 s.size::cs),.alT s],low:=2} {tmps:= #[],defers:=[]} w'->
  ∃o U' H',(o=vB.ret (.str s)/\H'=[j6.cells (x0::.lV 1 s.size::cs),.alT s])/\nK C U' {kf:=[],heap:=H',low:=([j6.cells (x0::.lV 1 s.size::cs),.alT s]:List j6).length} {tmps:= #[],defers:=[]} w'/\o.rep (C.env U' H' w') (.returned (.string s)):=
  fun w' S'=>⟨_,U,_,⟨rfl,rfl⟩,S',rfl⟩
 have aO4:s.size=0->s=ByteArray.empty:=fun h=>by
  apply ByteArray.ext;exact Array.eq_empty_of_size_eq_zero h
 rcases aiA.2 with⟨hv,h0⟩|⟨g,cap,cur,fz,hv,hbg,hg,hfz,hnc,hcm,hcs,ayJ⟩
 ·rw[hv]at ub;refine(hS b 0 0 none none s w w.drew w.drew ub ub rfl (by rw[aO4 h0];exact eY _ _ _ _ _)).mono ?_;rintro e w' ⟨rfl,rfl⟩;exact done _ HD
 ·rw[hv] at ub;by_cases h0:s.size=0
  ·by_cases Cm:cap=0
   ·subst Cm;have hSD:=Lib.run_unsafeSliceData_zero (P:=P) w.drew #[t37] t127 MM hp ⟨g,0,none⟩ s.size (MM,cur.size) (by have hg':w.drew.heap[g]? =some (.cells cur MM fz):=hg;simp [World.shape?,hg']);refine(hS b s.size 0 (some ⟨g,0,none⟩) _ s w _ _ ub ?_ hSD (by rw[h0,aO4 h0];exact eY _ _ _ _ _)).mono ?_
    ·have e1:(w.drew.alloc (.view ⟨g,0,none⟩ MM)).heap[b]? =w.heap[b]? :=zg w.drew (.view ⟨g,0,none⟩ MM) rQ;rw[<-ub];simp only[World.cell?,e1]
    ·rintro e w' ⟨rfl,rfl⟩;exact done _ (HD.more _ (by intro c t lo hi h;cases h))
   ·refine(hS b s.size cap (some ⟨g,0,none⟩) _ s w w.drew _ ub ub (eZ _ _ _ _ _ _ Cm) (by rw[h0,aO4 h0];exact eY _ _ _ _ _)).mono ?_;rintro e w' ⟨rfl,rfl⟩;exact done _ HD
  ·have hl:s.data.toList.length=s.size:=by rw[Array.length_toList];rfl
   have hUS:(Builtin.unsafeString_ #[t127,t3] t9 #[.pointer (some ⟨g,0,none⟩),.int .i64 s.size]).run P w.drew=.ok (.string s) (w.drew.freeze ⟨g,0,none⟩ s.size):=by
    have:=Lib.run_unsafeString_row (P:=P) w.drew t127 t3 t9 MM hp hc1 g cur.size (by have hg':w.drew.heap[g]? =some (.cells cur MM fz):=hg;simp [World.shape?,hg']) s.data.toList (by intro e;rw[e]at hl;exact h0 hl.symm) (by omega) (by unfold maxLen at hcm;omega) (by
     intro j x hx;exact aiA.cells (g:=g) (by rw[hv];rfl) j (.int .u8 x.toNat) (by simp [fe,hx]))
    rw[hl]at this;exact this
   refine(hS b s.size cap (some ⟨g,0,none⟩) _ s w w.drew _ ub ub (eZ _ _ _ _ _ _ (by omega)) hUS).mono ?_;rintro e w' ⟨rfl,rfl⟩;exact done _ (HD.aM8 (l:=1) (s:=s) rfl hv h0)
def aKK{b:Nat}{nm:String}(he:enters P f=true)(hb:aPp b)(hg:P.globalNamed nm=some b)(hv:aIU=(Lib.pow10Tab.map fun z=>Value.int .u64 z).toArray)
 (h:∀(n:Int)(w:aTN),-9223372036854775808<=n->n<=9223372036854775807->Lib.TabIs P w nm .u64 Lib.pow10Tab->Calls P f #[.int .i64 n] w fun e w'=>e=.returned (.string ⟨(Lib.itoa n).toArray⟩)/\∃k os,w'=Sort.grow (w.drewN k) os)
 (n:Int) (h0:0<=n) (h1:n<=9223372036854775807):JE P f [(li .i64).enc n] (fun v=>v=lW.enc (Lib.itoa n)):=by
 refine⟨he,⟨(li .i64).nb 0 _,trivial⟩,fun C U w hP hw hN0 hM vs hr=>?_⟩
 obtain rfl:vs= #[.int .i64 n]:=by
  obtain⟨v0,us,hvs,r0,anO⟩:=hr;have hus:us=[]:=anO;have e0:v0=.int .i64 n:=r0;subst hus e0;cases vs;simp_all
 obtain⟨_,t,fz,aM9⟩:=C.hk.row b hb;rw[hw]at aM9
 have aO5:Lib.TabIs P w nm .u64 Lib.pow10Tab:=by
  unfold Lib.TabIs World.var?;rw[hg,Option.bind_some,aM9,<-hv]
 refine(h n w (by omega) h1 aO5).mono ?_;rintro e w' ⟨rfl,k,os,rfl⟩;have hB:=Lib.below_grow w.heap.size w (Nat.le_refl _) k os;exact⟨_,_,U,rfl,rfl,rfl,hB.size,hB.block,fun x hx=>hB.frozen hx,hB.output,hB.os⟩
end Go.Abs
end
