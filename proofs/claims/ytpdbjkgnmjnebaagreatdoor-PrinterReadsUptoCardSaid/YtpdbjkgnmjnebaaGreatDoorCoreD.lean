/- A part of the proof: abstract states and the rules for them. -/
import Derived.Test.YtpdbjkgnmjnebaaGreatDoorCoreC
import Derived.Lib.Atoi
import Derived.Lib.AtoiErrMem
import Derived.Lib.UnsafeStr
import Derived.Lib.Builder
import Derived.Shelf.Strings.Builder1
import Derived.Lib.ItoaNum
import Derived.Lib.AppendIntMem
import Derived.Lib.LaidTab
set_option linter.all false
open Go renaming FuncId→aRO,Program→aRP,Value→aRQ,World→aRR
open Option renaming bind_eq_some_iff→eY,map_eq_some_iff→fa
open Option.some renaming injEq→eZ
open List renaming range→fb,replicate→fc,getElem?_eq_some_iff→fe,getElem?_eq_getElem→fi,set_getElem_self→fj,mem_cons→fk
open Go.Lib renaming run_unsafeString_none→ff,run_unsafeSliceData_row→fg,strCells→fm
noncomputable section
namespace Go.Abs
variable {W:Type}{aRs:AL W}{W1:Type}{BE:AL W1}{x:AV}{R:Type}{rk:AV->jS->Option R}{kE:Array Oper}{b pk:Bool}{s:ByteArray}{y:Code}{u:FrameMode}{f:aRO}{uC uz wx:aRO->Bool}{cl:aRO->List AV->List j5->Option (AV×List j5)}{cp:aRO->List AV->List j5->Option (vu×List j5)}{co:aRO->List AV->List j5->Option CO}{ce:aRO->List AV->List j5->Option vF}{cd:aRO->List AV->Option AV}{ds:List (aRO×List AV)}{cu:List (List Nat×List Nat)}{nl:List (List Nat×ua)}{args cs ys:List AV}{γ:Type}{k:List AV->AV->Option γ}{K:List Kt}{G:List Kt->W->Prop}{b1 p:List Nat}{js:List Nat->List (Int×Code)}{rest:List Oper}{rs:List ResultVar}{tr:List Tr}{p1 pos:List XC}{H:List j5}{c d g j l low n:Nat}{cy:Nat->List AV->List j5->Option (AV×List j5)}{τ:Nat->Nat}{O:Type}{os:OL O}{O1:Type}{vb:OL O1}{o:Oper}{dst:Option Tmp}{a:Option vF}{P:aRP}{δ Y:Type}{v:aRQ}{T:aRQ->aRR->Array aRQ->(Ending->aRR->Prop)->Prop}{J:jS}{out:jS->Option R}{M:kK R}{V:vu->List j5->Prop}{F:O->W->Option (O1×W1)}
inductive PR(W O:Type) where
 |ok (x:W)
 |pn (y:O)
def prc(q:PR W O)(f:W->γ)(g:O->γ):γ:=match q with
 |.ok x=>f x
 |.pn y=>g y
def aMM{x:W}{f:W->γ}{g:O->γ}:prc (.ok x) f g=f x:=rfl
def aMN{y:O}{f:W->γ}{g:O->γ}:prc (.pn y) f g=g y:=rfl
abbrev aqN:=List AV->List j5->Option (vu×List j5)
section aqd

def aqd(pos:List XC)(os:OL O)(aRs:AL W)(sz:Nat)(en:Y->vu×List j5)(F:O->W->Option Y):aqN:=fun args H=>
 (auU args H pos []).bind fun Y=>bif KP Y&&(decide (os.me<=Y.length)&&(decide (aRs.me<=Y.length)&&decide (Y.length<=sz)))then
   (qQ (ap5 H) Y).bind fun xs=>(os.mH Y (anb xs) H xs).bind fun b=>(aRs.mH Y (anb xs) H args).bind fun a=>(F b a).bind fun q=>
     some ((en q).1.qo (pe Y H.length),xq Y H (en q).2)else none
def aAN(hT:agV T)(hz:∀(U U':Nat->aRQ)(k k':Nat),T (U k)=T (U' k')){os:OL O}{aRs:AL W}{sz:Nat}{en:Y->vu×List j5}{F:O->W->Option Y}(hsz:∀q,sz<=(en q).2.length) {o:vu} {H':List j5} (he:aqd pos os aRs sz en F args J.heap=some (o,H')):
 ∃b a q,F b a=some q/\(FnT P T (aRs.enc (os.mg b) a) (os.enc (os.mg b) b) (fun o H'=>o=(en q).1/\H'=(en q).2)->Yg P T 0 args J (fun o' F7=>o'=o/\F7=H')):=by
 unfold aqd at he;simp only[eY]at he;obtain⟨Y,hρ,he⟩:=he;cases hc:(KP Y&&(decide (os.me<=Y.length)&&(decide (aRs.me<=Y.length)&&decide (Y.length<=sz))))with
 |false=>simp [hc]at he
 |true=>
  simp only[hc,jE,eY,eZ,Prod.mk.injEq]at he;obtain⟨xs,hxs,b,hb,a,ha,q,hq,rfl,rfl⟩:=he;refine⟨b,a,q,hq,fun hfn=>?_⟩;simp only[Bool.and_eq_true,jK]at hc;obtain⟨hnd,n1,n2,n3⟩:=hc;obtain⟨h1,h2⟩:=abf hxs
  have aAF:∀m,m<=Y.length->Cov Y m J.heap.length:=by
   intro m hm k hk;have PL:k<Y.length:=by omega
   obtain⟨x,hx,BA⟩:=h2 k _ (fi PL)
   grind
  have hL:os.mg b=anb xs:=funext fun k=>os.ao7 Y _ _ _ _ hb k
  obtain⟨h3,h4⟩:=os.ok Y _ J.heap J.heap.length _ _ (aAF _ n1) hb;have agQ:∀l,l<Y.length->atN Y l=pe Y J.heap.length l:=fun l hl=>by unfold pe atN;rw[if_pos hl]
  rw[<-hL]at ha h4;refine aHR hT hfn (Vz hnd) (by rw[h1,h3,os.sz]) (Nat.le_trans n3 (hsz q)) (fun U=>hz _ _ _ _) ?_ ?_
  ·intro i k hi;obtain⟨x,hx,BA⟩:=h2 i k hi;have sJ:i<(os.enc (os.mg b) b).length:=by rw[os.sz,<-h3,<-h1];grind
   have hy:=fi sJ;obtain⟨x2,aQK,hcc⟩:=h4 i _ hy;rw[hx]at aQK;cases aQK;refine⟨x,_,BA,hy,?_⟩;rw[<-ana (n:=os.me) (fun l hl=>agQ l (by omega)) _ (os.nb _ _ _ (List.mem_of_getElem? hy))];exact hcc
  ·rw[<-Ef (n:=aRs.me) (fun l hl=>agQ l (by omega)) _ (aRs.nb _ _)];exact aRs.ok Y _ J.heap _ _ _ (aAF _ n2) ha
end aqd
section xu
variable {W2 O2:Type}
def pkO(pk:Bool)(x:AV):vu:=match pk with
 |true=>.panic x
 |false=>.ret x
def aOI:pkO true x=.panic x/\pkO false x=.ret x:=⟨rfl,rfl⟩
def aKB:(pkO pk x).qo τ=pkO pk (x.qo τ):=by cases pk<;>rfl
def enP(pk:Bool)(vb:OL O1)(BE:AL W1)(Cx:OL O2)(Lj:AL W2)(q:PR (O1×W1) (O2×W2)):vu×List j5:=
 prc q (fun r=>(.ret (sZ (BE.enc (vb.mg r.1) r.2)),vb.enc (vb.mg r.1) r.1)) (fun r=>(pkO pk (sZ (Lj.enc (Cx.mg r.1) r.2)),Cx.enc (Cx.mg r.1) r.1))
def aMO{vb:OL O1}{BE:AL W1}{Cx:OL O2}{Lj:AL W2}(q:PR (O1×W1) (O2×W2)):min vb.size Cx.size<=(enP pk vb BE Cx Lj q).2.length:=by
 cases q with
 |ok r=>simp only[enP,prc,vb.sz];exact Nat.min_le_left _ _
 |pn r=>simp only[enP,prc,Cx.sz];exact Nat.min_le_right _ _
def xu(pk:Bool)(pos:List XC)(os:OL O)(aRs:AL W)(vb:OL O1)(BE:AL W1)(Cx:OL O2)(Lj:AL W2)(F:O->W->Option (PR (O1×W1) (O2×W2))):aqN:=fun args H=>
 (auU args H pos []).bind fun Y=>bif KP Y&&(decide (os.me<=Y.length)&&(decide (aRs.me<=Y.length)&&(decide (Y.length<=vb.size)&&decide (Y.length<=Cx.size)))) then
   (qQ (ap5 H) Y).bind fun xs=>(os.mH Y (anb xs) H xs).bind fun b=>(aRs.mH Y (anb xs) H args).bind fun a=>(F b a).bind fun q=>
     prc q (fun r=>some (.ret ((sZ (BE.enc (vb.mg r.1) r.2)).qo (pe Y H.length)),xq Y H (vb.enc (vb.mg r.1) r.1)))
      (fun r=>some (pkO pk ((sZ (Lj.enc (Cx.mg r.1) r.2)).qo (pe Y H.length)),xq Y H (Cx.enc (Cx.mg r.1) r.1)))else none
theorem aH9{os:OL O}{aRs:AL W}{vb:OL O1}{BE:AL W1}{Cx:OL O2}{Lj:AL W2}{F:O->W->Option (PR (O1×W1) (O2×W2))}:
 xu pk pos os aRs vb BE Cx Lj F args H=aqd pos os aRs (min vb.size Cx.size) (enP pk vb BE Cx Lj) F args H:=by
 unfold xu aqd;congr 1;funext Y
 have:decide (Y.length<=min vb.size Cx.size)=(decide (Y.length<=vb.size)&&decide (Y.length<=Cx.size)):=by
  grind
 rw[this];congr 1;congr 1;funext xs;congr 1;funext b;congr 1;funext a;congr 1;funext q;cases q with
 |ok r=>rfl
 |pn r=>simp only[prc,enP,aKB]
def aIa(P:aRP)(f:aRO)(e:aqN):Prop:=∀args J o H',e args J.heap=some (o,H')->BB P f args J (fun o' F7=>o'=o/\F7=H')
def FnP(P:aRP)(f:aRO)(args:List AV)(H:List j5)(x:vu×List j5):Prop:=FnG P f args H (fun o H'=>o=x.1/\H'=x.2)
def k7{os:OL O}{aRs:AL W}{vb:OL O1}{BE:AL W1}{Cx:OL O2}{Lj:AL W2}{F:O->W->Option (PR (O1×W1) (O2×W2))}
 (h:∀b a r,F b a=some r->FnP P f (aRs.enc (os.mg b) a) (os.enc (os.mg b) b) (enP pk vb BE Cx Lj r)):aIa P f (xu pk pos os aRs vb BE Cx Lj F):=by
 intro args J o H' he;rw[aH9]at he;obtain⟨b,a,q,hq,xK⟩:=aAN (P:=P) (T:=fun _ w vs R=>Calls P f vs w R) alv (fun _ _ _ _=>rfl) aMO he;exact⟨(h b a q hq).1,xK (h b a q hq).2⟩
def ang:∀(Y:List Nat)(xs H:List j5),ni H (Y.zip xs)=sL H Y xs
 |[],_,_=>by simp [ni,sL]
 |_::_,[],_=>by simp [ni,sL]
 |l::Y,x::xs,H=>by
  simp only[List.zip_cons_cons,ni,sL];exact ang Y xs _
def IK(pos:List XC)(os:OL O)(aRs:AL W)(vb:OL O1)(BE:AL W1)(Cx:OL O2)(Lj:AL W2)(F:O->W->Option (PR (O1×W1) (O2×W2))):List AV->List j5->Option CO:=fun args H=>
 (auU args H pos []).bind fun Y=>bif KP Y&&(decide (os.me<=Y.length)&&(decide (aRs.me<=Y.length)&&(decide (Y.length<=vb.size)&&decide (Y.length<=Cx.size)))) then
   (qQ (ap5 H) Y).bind fun xs=>(os.mH Y (anb xs) H xs).bind fun b=>(aRs.mH Y (anb xs) H args).bind fun a=>(F b a).bind fun q=>
     prc q (fun r=>some (.ret {val:=(sZ (BE.enc (vb.mg r.1) r.2)).qo (pe Y H.length),rd:=Y,up:=Y.zip ((vb.enc (vb.mg r.1) r.1).map (j5.qo (pe Y H.length))),nw:=((vb.enc (vb.mg r.1) r.1).drop Y.length).map (j5.qo (pe Y H.length)),whole:=true}))
      (fun r=>some (.pan ((sZ (Lj.enc (Cx.mg r.1) r.2)).qo (pe Y H.length)) (xq Y H (Cx.enc (Cx.mg r.1) r.1))))else none
def axR(P:aRP)(f:aRO)(e:List AV->List j5->Option CO):Prop:=∀args (J:jS),(∀ef,e args J.heap=some (.ret ef)->IF P f args J ef)/\∀x H',e args J.heap=some (.pan x H')->asj P f args J.heap x H'
def Ay{os:OL O}{aRs:AL W}{vb:OL O1}{BE:AL W1}{Cx:OL O2}{Lj:AL W2}{F:O->W->Option (PR (O1×W1) (O2×W2))}
 (h:∀b a r,F b a=some r->FnP P f (aRs.enc (os.mg b) a) (os.enc (os.mg b) b) (enP true vb BE Cx Lj r)):axR P f (IK pos os aRs vb BE Cx Lj F):=by
 have hP:=k7 (pos:=pos) h;intro args J
 have key:∀c,IK pos os aRs vb BE Cx Lj F args J.heap=some c->∃Y,(∀l∈Y,l<J.heap.length)/\((∃ef,c=.ret ef/\(ef.rd=Y/\ef.whole=true/\∀l∈ef.up.map (·.1),l∈Y)/\xu true pos os aRs vb BE Cx Lj F args J.heap=some (.ret ef.val,ni J.heap ef.up++ef.nw))\/∃x H',c=.pan x H'/\xu true pos os aRs vb BE Cx Lj F args J.heap=some (.panic x,H')):=by
  intro c he;unfold IK at he;simp only[eY]at he;obtain⟨Y,hρ,he⟩:=he;cases hc:(KP Y&&(decide (os.me<=Y.length)&&(decide (aRs.me<=Y.length)&&(decide (Y.length<=vb.size)&&decide (Y.length<=Cx.size)))))with
  |false=>simp [hc]at he
  |true=>
   simp only[hc,jE,eY]at he;obtain⟨xs,hxs,b,hb,a,ha,q,hq,he⟩:=he;refine⟨Y,fun l hl=>?_,?_⟩
   ·obtain⟨i,hi⟩:=List.getElem?_of_mem hl;obtain⟨x,_,BA⟩:=(abf hxs).2 i l hi
    grind
   ·have amF:xu true pos os aRs vb BE Cx Lj F args J.heap=prc q (fun r=>some (.ret ((sZ (BE.enc (vb.mg r.1) r.2)).qo (pe Y J.heap.length)),xq Y J.heap (vb.enc (vb.mg r.1) r.1)))
     (fun r=>some (.panic ((sZ (Lj.enc (Cx.mg r.1) r.2)).qo (pe Y J.heap.length)),xq Y J.heap (Cx.enc (Cx.mg r.1) r.1))):=by
     simp_all [xu,pkO]
    cases q with
    |ok r=>
     simp only[prc,eZ]at he;subst he;left;refine⟨_,rfl,⟨rfl,rfl,fun l hl=>?_⟩,?_⟩
     ·simp only[List.mem_map]at hl;obtain⟨p,hp,rfl⟩:=hl;exact(List.of_mem_zip hp).1
     ·rw[amF];simp only[prc,ang];rfl
    |pn r=>
     grind [prc]
 refine⟨fun ef he=>?_,fun x H' he=>?_⟩
 ·obtain⟨Y,sJ,⟨ef',hc,⟨h1,h2,h3⟩,hx⟩|⟨_,_,hc,_⟩⟩:=key _ he
  ·simp only[CO.ret.injEq]at hc;subst hc;refine⟨⟨by rw[h1];exact sJ,by rw[h1];exact h3⟩,fun J' _ _ hw=>?_⟩;have hh:=hw h2;have:=hP args J' (.ret ef.val) (ni J.heap ef.up++ef.nw) (by rw[hh];exact hx);rw[hh];exact this
  ·cases hc
 ·obtain⟨Y,sJ,⟨ef',hc,_⟩|⟨x',H2,hc,hx⟩⟩:=key _ he
  ·cases hc
  ·simp only[CO.pan.injEq]at hc;obtain⟨rfl,rfl⟩:=hc;intro J' hh;exact hP args J' (.panic x) H' (by rw[hh];exact hx)
end xu
def Az:List (Nat×aqN)->aRO->aqN
 |[],_,_,_=>none
 |(g,e)::t,f,args,H=>if f=g then e args H else Az t f args H
def lZ:∀f args (J:jS) o H',Az [] f args J.heap=some (o,H')->BB P f args J (fun o' F7=>o'=o/\F7=H'):=by
 intro f args J r H' h;cases h
def kB{e:aqN}{t:List (Nat×aqN)}(h1:aIa P g e)(h2:∀f args (J:jS) o H',Az t f args J.heap=some (o,H')->BB P f args J (fun o' F7=>o'=o/\F7=H')):
 ∀f args (J:jS) o H',Az ((g,e)::t) f args J.heap=some (o,H')->BB P f args J (fun o' F7=>o'=o/\F7=H'):=by
 intro f args J r H' h;simp only[Az]at h;split at h
 ·rename_i hg;subst hg;exact h1 _ _ _ _ h
 ·exact h2 _ _ _ _ _ h
def aQQ:List (Nat×(List AV->List j5->Option CO))->aRO->List AV->List j5->Option CO
 |[],_,_,_=>none
 |(g,e)::t,f,args,H=>if f=g then e args H else aQQ t f args H
def tP:∀f args (J:jS),(∀e,aQQ [] f args J.heap=some (.ret e)->IF P f args J e)/\∀x H',aQQ [] f args J.heap=some (.pan x H')->asj P f args J.heap x H':=by
 intro f args J;exact⟨fun e h=>(by cases h),fun x H' h=>(by cases h)⟩
def nQ{e:List AV->List j5->Option CO}{t:List (Nat×(List AV->List j5->Option CO))}(h1:axR P g e)(h2:∀f args (J:jS),(∀e,aQQ t f args J.heap=some (.ret e)->IF P f args J e)/\∀x H',aQQ t f args J.heap=some (.pan x H')->asj P f args J.heap x H'):
 ∀f args (J:jS),(∀ef,aQQ ((g,e)::t) f args J.heap=some (.ret ef)->IF P f args J ef)/\∀x H',aQQ ((g,e)::t) f args J.heap=some (.pan x H')->asj P f args J.heap x H':=by
 intro f args J;simp only[aQQ];by_cases hg:f=g
 ·subst hg;simp only[jM];exact h1 args J
 grind
abbrev XD:=aRO->List AV->List j5->Option (vu×List j5)
variable {cr:XD}
section unw

def afU(cr cp:XD)(en:Option AV->jS->Option R):List (aRO×List AV)->Option AV->jS->Option R
 |[],m,J=>en m J
 |(f,args)::ds,none,J=>(cr f args J.heap).bind fun q=>match q with
  |(.ret _,H')=>afU cr cp en ds none {J with heap:=H',df:=ds}
  |(.panic _,_)=>none
 |(f,args)::ds,some x,J=>(cp f (args++[x]) J.heap).bind fun q=>match q with
  |(.ret _,H')=>afU cr cp en ds none {J with heap:=H',df:=ds}
  |(.panic x',H')=>afU cr cp en ds (some x') {J with heap:=H',df:=ds}
theorem aAO {cp:XD}{en:Option AV->jS->Option R}{m:Option AV}:afU cr cp en [] m J=en m J:=by cases m<;>rfl
def aOJ(cr cp:XD)(en:Option AV->jS->Option R)(ds:List (aRO×List AV))(J:jS):vu×List j5->Option R
 |(.ret _,H')=>afU cr cp en ds none {J with heap:=H',df:=ds}
 |(.panic x',H')=>afU cr cp en ds (some x') {J with heap:=H',df:=ds}
def aOK(cr cp:XD)(en:Option AV->jS->Option R)(ds:List (aRO×List AV))(J:jS):vu×List j5->Option R
 |(.ret _,H')=>afU cr cp en ds none {J with heap:=H',df:=ds}
 |(.panic x',H')=>none
def aIb {cp:XD}{en:Option AV->jS->Option R}:afU cr cp en ((f,args)::ds) none J=(cr f args J.heap).bind (aOK cr cp en ds J):=by
 simp only[afU];congr 1
def aIc {cp:XD}{en:Option AV->jS->Option R}:afU cr cp en ((f,args)::ds) (some x) J=(cp f (args++[x]) J.heap).bind (aOJ cr cp en ds J):=by
 simp only[afU];congr 1
def QOK(P:aRP)(T:aRO->aRQ->aRR->Array aRQ->(Ending->aRR->Prop)->Prop)(c:XD):Prop:=∀f args (J:jS) o H',c f args J.heap=some (o,H')->xE P f=true/\Yg P (T f) 0 args J (fun o' F7=>o'=o/\F7=H')
def Yg.mono(hT:agV T){K K':vu->List j5->Prop}(h:Yg P T l args J K)(hk:∀o H,K o H->K' o H):Yg P T l args J K':=by
 intro C U a w hP S vs hr;refine hT.mono _ _ _ _ _ ?_ (h C U a w hP S vs hr)
 grind
def adw{P:aRP}{cr cp:XD}{en:Option AV->jS->Option R}{y9:Option AV->jS->Prop}{r:R}(hr:QOK P (auO P) cr)(hp:QOK P (auP P) cp)(he:∀m J,J.df=[]->en m J=some r->y9 m J):
 ∀(ds:List (aRO×List AV))(m:Option AV)(J:jS),J.df=ds->afU cr cp en ds m J=some r->am0 P y9 ds m J
 |[],m,J,hd,h=>by rw[aAO]at h;exact he m J hd h
 |(f,args)::ds,none,J,hd,h=>by
  simp only[afU,eY]at h;obtain⟨⟨o,H'⟩,hc,h⟩:=h;obtain⟨h1,h2⟩:=hr f args {J with df:=ds} o H' hc;refine⟨h1,h2.mono aoW ?_⟩;rintro o' F7 ⟨rfl,rfl⟩;cases o' with
  |ret x=>exact adw hr hp he ds none _ rfl h
  |panic x=>cases h
 |(f,args)::ds,some x,J,hd,h=>by
  simp only[afU,eY]at h;obtain⟨⟨o,H'⟩,hc,h⟩:=h;obtain⟨h1,h2⟩:=hp f (args++[x]) {J with df:=ds} o H' hc;refine⟨h1,h2.mono aoX ?_⟩;rintro o' F7 ⟨rfl,rfl⟩;cases o' with
  |ret x=>exact adw hr hp he ds none _ rfl h
  |panic x=>exact adw hr hp he ds (some x) _ rfl h
def VV:List (Nat×aqN)->XD
 |[],_,_,_=>none
 |(g,e)::t,f,args,H=>if f=g then e args H else VV t f args H
def QY{T:aRO->aRQ->aRR->Array aRQ->(Ending->aRR->Prop)->Prop}:QOK P T (VV []):=by
 intro f args J o H' h;cases h
def Mv{T:aRO->aRQ->aRR->Array aRQ->(Ending->aRR->Prop)->Prop}{e:aqN}{t:List (Nat×aqN)}(h1:∀args (J:jS) o H',e args J.heap=some (o,H')->xE P g=true/\Yg P (T g) 0 args J (fun o' F7=>o'=o/\F7=H'))(h2:QOK P T (VV t)):QOK P T (VV ((g,e)::t)):=by
 intro f args J o H' h;simp only[VV]at h;split at h
 ·grind
 ·exact h2 _ _ _ _ _ h
def enR(vb:OL O1)(BE:AL W1)(r:O1×W1):vu×List j5:=(.ret (sZ (BE.enc (vb.mg r.1) r.2)),vb.enc (vb.mg r.1) r.1)
def OO(pos:List XC)(os:OL O)(aRs:AL W)(vb:OL O1)(BE:AL W1)(F:O->W->Option (O1×W1)):aqN:=aqd pos os aRs vb.size (enR vb BE) F
def abj(hT:agV T)(hz:∀(U U':Nat->aRQ)(k k':Nat),T (U k)=T (U' k'))(hen:xE P f=true)
 (h:∀b a r,F b a=some r->FnT P T (aRs.enc (os.mg b) a) (os.enc (os.mg b) b) (fun o H'=>o=(enR vb BE r).1/\H'=(enR vb BE r).2)):∀args (J:jS) o H',OO pos os aRs vb BE F args J.heap=some (o,H')->xE P f=true/\Yg P T 0 args J (fun o' F7=>o'=o/\F7=H'):=by
 intro args J o H' he;obtain⟨b,a,q,hq,xK⟩:=aAN (P:=P) (T:=T) hT hz (fun q=>by simp only[enR,vb.sz];exact Nat.le_refl _) he;exact⟨hen,xK (h b a q hq)⟩
end unw
section steps
variable {k:List Kt} {q:PR W O}
def aF2{f:W->Option (vu×List j5)}{g:O->Option (vu×List j5)}:Yh M kE dst rest k J (prc q f g)=prc q (fun x=>Yh M kE dst rest k J (f x)) (fun y=>Yh M kE dst rest k J (g y)):=by cases q<;>rfl
def aDw{f:W->Option CO}{g:O->Option CO}:So M p dst rest j tr k J (prc q f g)=prc q (fun x=>So M p dst rest j tr k J (f x)) (fun y=>So M p dst rest j tr k J (g y)):=by cases q<;>rfl
end steps
attribute [go_sem] aOI aMM aMN aF2 aDw xu IK OO aqd enR Az aQQ VV aAO aIb aIc aOJ aOK List.zip_cons_cons List.zip_nil_left vu.qo
section ends
variable {W2 O2:Type}
def qL(P:aRP)(rs:List ResultVar)(pos:List XC)(base:List Nat)(low:Nat)(os:OL O1)(s:AL W1)(J:jS):Option (PR (O1×W1) (O2×W2)):=(w9 P rs pos base low os s J).map .ok
def qM(pos:List XC)(base:List Nat)(low:Nat)(os:OL O2)(s:AL W2)(x:AV)(J:jS):Option (PR (O1×W1) (O2×W2)):=(aDm [x] pos base low os s J).map .pn
attribute [go_sem] qL qM
theorem awv{y:AV}:sZ [y]=y:=rfl
def aKC{fn:Func}{r:PR (O1×W1) (O2×W2)}{M:kK (PR (O1×W1) (O2×W2))}{vb:OL O1}{BE:AL W1}{Cx:OL O2}{Lj:AL W2}{p2:List XC}{b2:List Nat}(G:Fw M)(hf:M.P.funcs[f]? =some fn)(hb:fn.body=some M.body)(sv:(fn.name != "runtime.NumGoroutine")=true)
 (GH:uc H.length args) (I7:∀x∈H,sk H.length x) (hn:fn.ntmps=n) (KO:fn.results=rs.toArray) (hb1:b1=fb low) (hb2:b2=fb low) (zr:∀b a,∃y,Lj.enc (Cx.mg b) a=[y])
 (ho:M.out=qL M.P rs p1 b1 low vb BE) (hq:M.rk=qM p2 b2 low Cx Lj)
 (h:run M [.at []] {j9:=args++fc (n-args.length) .any,heap:=H,low:=H.length}=some r):FnP M.P f args H (enP true vb BE Cx Lj r):=by
 refine am7 G hf hb sv GH I7 hn KO (fun J hs=>?_) (fun x J hs=>?_) h
 ·rw[ho]at hs;unfold qL at hs;rw[fa]at hs;obtain⟨q,hq,rfl⟩:=hs;obtain⟨hd,xs,hx,I6⟩:=Yj hb1 hq;rw[hd];exact QW hx I6
 ·rw[hq]at hs;unfold qM at hs;rw[fa]at hs;obtain⟨q,hq,rfl⟩:=hs;obtain⟨hd,I6⟩:=ane hb2 hq;rw[hd];obtain⟨y,hy⟩:=zr q.1 q.2;rw[hy]at I6;have:=aAj (P:=M.P) (rs:=rs) I6.e;simp only[enP,prc,hy,awv,pkO];exact this
def anh(P:aRP)(rs:List ResultVar)(p1:List XC)(base:List Nat)(low:Nat)(vb:OL O1)(s1:AL W1)(p2:List XC)(Cx:OL O2)(s2:AL W2)(J:jS):Option (PR (O1×W1) (O2×W2)):=
 ((w9 P rs p1 base low vb s1 J).map .ok).or ((w9 P rs p2 base low Cx s2 J).map .pn)
attribute [go_sem] anh
def aKD{fn:Func}{r:PR (O1×W1) (O2×W2)}{M:kK (PR (O1×W1) (O2×W2))}{vb:OL O1}{BE:AL W1}{Cx:OL O2}{Lj:AL W2}{p2:List XC}(G:Fw M)(hf:M.P.funcs[f]? =some fn)(hb:fn.body=some M.body)(sv:(fn.name != "runtime.NumGoroutine")=true)
 (GH:uc H.length args) (I7:∀x∈H,sk H.length x) (hn:fn.ntmps=n) (KO:fn.results=rs.toArray) (hb1:b1=fb low) (ho:M.out=anh M.P rs p1 b1 low vb BE p2 Cx Lj)
 (h:run M [.at []] {j9:=args++fc (n-args.length) .any,heap:=H,low:=H.length}=some r) (hP:∀x J',M.rk x J'=none:=by intros;rfl):FnP M.P f args H (enP false vb BE Cx Lj r):=by
 refine am7 G hf hb sv GH I7 hn KO (fun J hs=>?_) (fun x J hs=>by rw[hP x J]at hs;cases hs) h;rw[ho]at hs;unfold anh at hs;rw[Option.or_eq_some_iff]at hs;rcases hs with hs|⟨_,hs⟩
 ·rw[fa]at hs;obtain⟨q,hq,rfl⟩:=hs;obtain⟨hd,xs,hx,I6⟩:=Yj hb1 hq;rw[hd];exact QW hx I6
 ·rw[fa]at hs;obtain⟨q,hq,rfl⟩:=hs;obtain⟨hd,xs,hx,I6⟩:=Yj hb1 hq;rw[hd];exact QW hx I6
def enC(P:aRP)(rs:List ResultVar)(t:Ty Y):Option AV->jS->Option Y
 |none,J=>l1 P rs t J
 |some _,_=>none
def aOL{t:Ty Y}:enC P rs t none J=l1 P rs t J/\∀x,enC P rs t (some x) J=none:=⟨rfl,fun _=>rfl⟩
def aKE(cr cp:XD)(P:aRP)(rs:List ResultVar)(t:Ty Y)(J:jS):Option Y:=afU cr cp (enC P rs t) J.df none J
def aEM(cr cp:XD)(P:aRP)(rs:List ResultVar)(t:Ty Y)(x:AV)(J:jS):Option Y:=afU cr cp (enC P rs t) J.df (some x) J
attribute [go_sem] aOL aKE aEM
def aAP{M:kK Y}{fn:Func}{r:Y}{t:Ty Y}{cp:XD}(G:Fw M)(hcr:QOK M.P (auO M.P) cr)(hcp:QOK M.P (auP M.P) cp)(hf:M.P.funcs[f]? =some fn)(hb:fn.body=some M.body)(sv:(fn.name != "runtime.NumGoroutine")=true)(GH:uc 0 args)
 (hn:fn.ntmps=n) (KO:fn.results=rs.toArray) (ho:M.out=aKE cr cp M.P rs t) (hq:M.rk=aEM cr cp M.P rs t)
 (h:run M [.at []] {j9:=args++fc (n-args.length) .any,heap:=[]}=some r):I5 M.P f args (fun v=>v=t.enc r):=by
 have Zs:∀m J,J.df=[]->enC M.P rs t m J=some r->aFs M.P rs (fun v=>v=t.enc r) m J:=by
  intro m J _ he;cases m with
  |none=>exact(ajE he).2
  |some x=>cases he
 refine axx hf hb sv GH ?_;rw[KO,hn];refine adm G h (fun J hs=>?_) (fun x J hs=>?_)
 ·rw[ho]at hs;have:=adw hcr hcp Zs J.df none J rfl hs;exact⟨this,this⟩
 ·rw[hq]at hs;exact adw hcr hcp Zs J.df (some x) J rfl hs
theorem aAQ{M:kK (O1×W1)}{fn:Func}{id:Nat}{r:O1×W1}{vb:OL O1}{BE:AL W1}(G:Fw M)
 (hf:M.P.funcs[f]? =some fn) (hb:fn.body=some M.body) (ON:M.body=.seq (.region id kE false) y) (aqK:kE.toList=o::rest) (afT:aqb o=true) (aAM:ajH rest=true)
 (GH:uc H.length (args++[x])) (I7:∀x∈H,sk H.length x) (hn:fn.ntmps=n) (KO:fn.results=rs.toArray) (hb1:b1=fb low) (ho:M.out=w9 M.P rs p1 b1 low vb BE)
 (h:run M [.kE kE rest,.cut [1],.at [1]] (jS.put {j9:=args++fc (n-args.length) .any,heap:=H,low:=H.length} o.dst x)=some r) (hP:∀x J',M.rk x J'=none:=by intros;rfl):
 FnT M.P (auP M.P f) (args++[x]) H (fun o H'=>o=(enR vb BE r).1/\H'=(enR vb BE r).2):=by
 refine aqL hf (by rw[hb,ON]) aqK afT GH I7 hn KO (aEL G ON aAM (fun J hs=>?_) h hP);rw[ho]at hs;obtain⟨hd,xs,hx,I6⟩:=Yj hb1 hs;have:=QW hx I6;exact⟨⟨hd,this⟩,hd,this⟩
theorem aAR{M:kK (O1×W1)}{fn:Func}{id:Nat}{r:O1×W1}{vb:OL O1}{BE:AL W1}(G:Fw M)
 (hf:M.P.funcs[f]? =some fn) (hb:fn.body=some M.body) (ON:M.body=.seq (.region id kE false) y) (aqK:kE.toList=o::rest) (afT:aqb o=true) (aAM:ajH rest=true)
 (GH:uc H.length args) (I7:∀x∈H,sk H.length x) (hn:fn.ntmps=n) (KO:fn.results=rs.toArray) (hb1:b1=fb low) (ho:M.out=w9 M.P rs p1 b1 low vb BE)
 (h:run M [.kE kE rest,.cut [1],.at [1]] (jS.put {j9:=args++fc (n-args.length) .any,heap:=H,low:=H.length} o.dst (.sV .nilIface))=some r) (hP:∀x J',M.rk x J'=none:=by intros;rfl):
 FnT M.P (auO M.P f) args H (fun o H'=>o=(enR vb BE r).1/\H'=(enR vb BE r).2):=by
 refine aqM hf (by rw[hb,ON]) aqK afT GH I7 hn KO (aEL G ON aAM (fun J hs=>?_) h hP);rw[ho]at hs;obtain⟨hd,xs,hx,I6⟩:=Yj hb1 hs;have:=QW hx I6;exact⟨⟨hd,this⟩,hd,this⟩
end ends
def dIf(t:TypeId)(a:Ty W):AV->Option W
 |.iface t' v=>if t'=t then a.mH [] v else none
 |_=>none
def aF3{t:TypeId}{y:AV}(h:OB x y):OB (.iface t x) (.iface t y):=by
 rintro E v ⟨u,hu,r⟩;exact⟨u,hu,h _ _ r⟩
def ZA(t:TypeId)(a:Ty W):Ty W where
 enc x:=.iface t (a.enc x)
 mH _:=dIf t a
 ok H n v x h:=by
  unfold dIf at h;split at h
  ·split at h
   ·rename_i ht;subst ht;exact Co.sub (aF3 (a.ok [] n _ _ h).nG) (a.nb n x)
   ·cases h
  ·cases h
 nb n x:=a.nb n x
def aMP{t:TypeId}{a:Ty W}:(∀x,(ZA t a).enc x=.iface t (a.enc x))/\(∀H v,(ZA t a).mH H v=dIf t a v)/\∀v,dIf t a (.iface t v)=a.mH [] v:=⟨fun _=>rfl,fun _ _=>rfl,fun _=>by simp [dIf]⟩
def dE0:AV->Option Unit
 |.agg []=>some ()
 |_=>none
def ag2:Ty Unit where
 enc _:=.agg []
 mH _:=dE0
 ok H n v x h:=by
  unfold dE0 at h;split at h
  ·exact Co.same trivial
  ·cases h
 nb n x:=trivial
def aMQ:(∀x,ag2.enc x=.agg [])/\(∀H v,ag2.mH H v=dE0 v)/\dE0 (.agg [])=some ():=⟨fun _=>rfl,fun _ _=>rfl,rfl⟩
attribute [go_sem] aMP aMQ
def PX(t:Ty W)(p:kj×W):AV×AV:=(.str (sb p.1),t.enc p.2)
section
variable {t:Ty W}
theorem ag3:∀xs:List (kj×W),Sj (xs.map (PX t))=true
 |[]=>rfl
 |_::xs=>ag3 xs
theorem ani(s:kj):∀xs:List (kj×W),zn (sb s) (xs.map (PX t))=(Fx s xs).map t.enc
 |[]=>rfl
 |(k,v)::xs=>by
  show(bif sb s==sb k then some (t.enc v)else zn (sb s) (xs.map (PX t)))=_;rw[axM,ani s xs]
  grind [Fx]
theorem aqe(s:kj)(v:W):∀xs:List (kj×W),PO (sb s) (t.enc v) (xs.map (PX t))=(aeX s v xs).map (PX t)
 |[]=>rfl
 |(k,u)::xs=>by
  show(bif sb s==sb k then(AV.str (sb k),t.enc v)::xs.map (PX t)else(AV.str (sb k),t.enc u)::PO (sb s) (t.enc v) (xs.map (PX t)))=_;rw[axM,aqe s v xs];simp only[aeX];cases s==k<;>rfl
def oel(o:Option W)(a:γ)(f:W->γ):γ:=match o with
 |none=>a
 |some x=>f x
def aId{a:γ}{f:W->γ}:oel none a f=a:=rfl
def aIe{x:W}{a:γ}{f:W->γ}:oel (some x) a f=f x:=rfl
def aIf{z:AV}{s:kj}{xs:List (kj×W)}:aoG z l (sb s) (some (.map (mp (PX t) xs)))=oel (Fx s xs) (some {val:=.I3 [z,.bool false],rd:=[l]}) (fun x=>some {val:=.I3 [t.enc x,.bool true],rd:=[l]}):=by
 rw[p8];simp only[aoG,ag3,jM,ani];cases Fx s xs<;>rfl
def aKF{s:kj}{v:W}{xs:List (kj×W)}:CV l (sb s) (t.enc v) (some (.map (mp (PX t) xs)))=some {val:=.any,rd:=[l],up:=[(l,.map (mp (PX t) (aeX s v xs)))]}:=by
 grind [p8,CV,ag3,aqe]
def arR(n:Nat)(xs:List (kj×W)):sk n (.map (mp (PX t) xs))=True:=by
 refine eq_true fun p hp=>?_
 rw[p8,List.mem_map]at hp;obtain⟨q,_,rfl⟩:=hp;exact⟨trivial,t.nb n q.2⟩
def aAS(Y:Nat->Nat)(xs:List (kj×W)):(mp (PX t) xs).map (fun p=>(AV.qo Y p.1,AV.qo Y p.2))=mp (PX t) xs:=by
 rw[p8,List.map_map];refine List.map_congr_left fun q _=>?_
 show(AV.qo Y (.str (sb q.1)),AV.qo Y (t.enc q.2))=(.str (sb q.1),t.enc q.2);rw[PS Y _ (t.nb 0 q.2)];rfl
theorem aAT(τ:Nat->Nat)(xs:List (kj×W)):(j5.map (mp (PX t) xs)).qo τ=.map (mp (PX t) xs):=by
 show j5.map ((mp (PX t) xs).map _)=_;congr 1;exact aAS τ xs
def alJ(t:Ty W)(x:j5):Option (List (kj×W)):= @dite _ (∃xs,x=.map (mp (PX t) xs)) (Classical.propDecidable _) (fun h=>some h.choose) (fun _=>none)
theorem axS{x:j5}{xs:List (kj×W)}(h:alJ t x=some xs):x=.map (mp (PX t) xs):=by
 unfold alJ at h;split at h
 all_goals grind
end
section inj
variable {t:Ty W} (hinj:∀x y,t.enc x=t.enc y->x=y)
include hinj
theorem aEN:∀xs ys:List (kj×W),xs.map (PX t)=ys.map (PX t)->xs=ys
 |[],[],_=>rfl
 |[],_::_,h=>by simp at h
 |_::_,[],h=>by simp at h
 |(s,x)::xs,(s',y)::ys,h=>by
  simp only[List.map_cons,List.cons.injEq]at h;obtain⟨h1,h2⟩:=h;simp only[PX,Prod.mk.injEq,AV.str.injEq]at h1
  have e1:s=s':=by
   grind [abi]
  rw[e1,hinj _ _ h1.2,aEN xs ys h2]
theorem aEO(xs:List (kj×W)):alJ t (.map (mp (PX t) xs))=some xs:=by
 have hh:∃ys,(j5.map (mp (PX t) xs))=.map (mp (PX t) ys):=⟨xs,rfl⟩
 grind [alJ,p8,aEN]
theorem aF4:alJ t (.map (mp GI []))=some []:=by
 have:=aEO hinj [];rw[p8]at this ⊢;exact this
def aIg:(∀xs,alJ t (.map (mp (PX t) xs))=some xs)/\alJ t (.map [])=some []/\alJ t (.map (mp GI []))=some []:=by
 grind [aEO,aF4,p8]
end inj
section og

def aqO(t:Ty W):OG (List (kj×W)) where
 enc _ xs:=.map (mp (PX t) xs)
 mH _ _ _:=alJ t
 len _:=0
 me:=0
 nb L g:=of_eq_true (arR 0 g)
 ok Y L H n x g _ h:=by
  rw[axS h];rw[aAT];exact .inr (.inl ⟨rfl,of_eq_true (arR n g)⟩)
 ap7 Y L H x g h:=by
  rw[axS h];rfl
def aMR{t:Ty W}:(∀L g,(aqO t).enc L g=.map (mp (PX t) g))/\(∀Y L H x,(aqO t).mH Y L H x=alJ t x)/\(∀g,(aqO t).len g=0)/\(aqO t).me=0:=⟨fun _ _=>rfl,fun _ _ _ _=>rfl,fun _=>rfl,rfl⟩
def oM(t:Ty W):ZO:=⟨fun _ _ x=>(alJ t x).bind fun xs=>some (.map (mp (PX t) xs)),fun H n x y h=>by
 simp only[eY,eZ]at h;obtain⟨xs,hx,rfl⟩:=h;rw[axS hx];exact .inr (.inl ⟨rfl,of_eq_true (arR n xs)⟩)⟩
def aP4{t:Ty W}{x:j5}:(oM t).f H n x=(alJ t x).bind fun xs=>some (.map (mp (PX t) xs)):=rfl
end og
def as1
 (h:∀b a r,F b a=some r->FnG P f (aRs.enc (os.mg b) a) (os.enc (os.mg b) b) (fun o H'=>o=.ret (sZ (BE.enc (vb.mg r.1) r.2))/\H'=vb.enc (vb.mg r.1) r.1)):
 axR P f (IK pos os aRs vb BE vb BE (fun b a=>(F b a).map fun r=>(PR.ok r:PR (O1×W1) (O1×W1)))):=by
 refine Ay (fun b a r hr=>?_);rw[fa]at hr;obtain⟨r',hr,rfl⟩:=hr;exact h b a r' hr
def aKG(v:AV)(s:AL δ)(Y:List Nat)(L:Eg)(H:List j5):List AV->Option δ
 |x::xs=>nX (x=v) (s.mH Y L H xs)
 |_=>none
def alK(v:AV)(hv:v.nb 0)(s:AL δ):AL δ where
 enc L g:=v::s.enc L g
 mH:=aKG v s
 me:=s.me
 nb L g:=⟨AV.apP (Nat.zero_le _) v hv,s.nb L g⟩
 ok Y L H n vs g hc h:=by
  unfold aKG at h;split at h
  ·rw[mX]at h;obtain⟨rfl,h⟩:=h;refine Aq.cons ?_ (s.ok Y L H n _ _ hc h);rw[PS _ _ hv];exact Co.same (AV.apP (Nat.zero_le _) _ hv)
  ·cases h
def aOM{v:AV}{hv:v.nb 0}{s:AL δ}:(∀L g,(alK v hv s).enc L g=v::s.enc L g)/\(∀Y L H xs,(alK v hv s).mH Y L H xs=aKG v s Y L H xs)/\(alK v hv s).me=s.me:=⟨fun _ _=>rfl,fun _ _ _ _=>rfl,rfl⟩
attribute [go_sem] aOM aKG
section steps
variable {k:List Kt} {o:Option W}
def aF5{f:W->Option vF}:tO M kE dst rest k J (oel o a f)=oel o (tO M kE dst rest k J a) (fun x=>tO M kE dst rest k J (f x)):=by cases o<;>rfl
def aDx{f:W->Option vF}:Av M p dst rest j tr k J (oel o a f)=oel o (Av M p dst rest j tr k J a) (fun x=>Av M p dst rest j tr k J (f x)):=by cases o<;>rfl
end steps
attribute [go_sem] aP4 aId aIe aIf aMR aAT aF5 aDx axc
attribute [go_sem high] arR aAS
def aKH(d:Nat):Code->Bool
 | .seq (.region _ kE false) _=>match kE.toList with
   |o::rest=>aqb o&&(o.dst==some d)&&ajH rest
   |[]=>false
 |_=>false
def aww{c:Code}(h:aKH d c=true):∃id kE y o rest,c=.seq (.region id kE false) y/\kE.toList=o::rest/\aqb o=true/\o.dst=some d/\ajH rest=true:=by
 unfold aKH at h
 grind
section aMS

def anj{M:kK (O1×W1)}{fn:Func}{r:O1×W1}{vb:OL O1}{BE:AL W1}(G:Fw M)
 (hf:M.P.funcs[f]? =some fn) (hb:fn.body=some M.body) (afT:aKH d M.body=true)
 (GH:uc H.length (args++[x])) (I7:∀x∈H,sk H.length x) (hn:fn.ntmps=n) (KO:fn.results=rs.toArray) (hb1:b1=fb low) (ho:M.out=w9 M.P rs p1 b1 low vb BE)
 (h:run M [.kE (ue M [0]) ((ue M [0]).toList.drop 1),.cut [1],.at [1]] (jS.put {j9:=args++fc (n-args.length) .any,heap:=H,low:=H.length} (some d) x)=some r) (hP:∀x J',M.rk x J'=none:=by intros;rfl):
 FnT M.P (auP M.P f) (args++[x]) H (fun o H'=>o=(enR vb BE r).1/\H'=(enR vb BE r).2):=by
 obtain⟨id,kE,y,o,rest,ON,aqK,h1,h2,h3⟩:=aww afT;have e:ue M [0]=kE:=by unfold ue;rw[ON];rfl
 grind [aAQ]
def ank{M:kK (O1×W1)}{fn:Func}{r:O1×W1}{vb:OL O1}{BE:AL W1}(G:Fw M)
 (hf:M.P.funcs[f]? =some fn) (hb:fn.body=some M.body) (afT:aKH d M.body=true)
 (GH:uc H.length args) (I7:∀x∈H,sk H.length x) (hn:fn.ntmps=n) (KO:fn.results=rs.toArray) (hb1:b1=fb low) (ho:M.out=w9 M.P rs p1 b1 low vb BE)
 (h:run M [.kE (ue M [0]) ((ue M [0]).toList.drop 1),.cut [1],.at [1]] (jS.put {j9:=args++fc (n-args.length) .any,heap:=H,low:=H.length} (some d) (.sV .nilIface))=some r) (hP:∀x J',M.rk x J'=none:=by intros;rfl):
 FnT M.P (auO M.P f) args H (fun o H'=>o=(enR vb BE r).1/\H'=(enR vb BE r).2):=by
 obtain⟨id,kE,y,o,rest,ON,aqK,h1,h2,h3⟩:=aww afT;have e:ue M [0]=kE:=by unfold ue;rw[ON];rfl
 grind [aAR]
end aMS
section
variable {C:qC} {U:Nat->aRQ} {a:Act} {w:aRR}

def aDy(P:aRP)(rs:List ResultVar)(j:Nat)(r:Row γ)(s:IG (List γ×Unit) W)(J:jS):Option ((List γ×Unit)×W):=
 bif J.df.isEmpty then(BC P J rs).bind fun xs=>aIh (GQ j r.sz false ⟨xs,J.heap,0,[]⟩) j r s J.low else none
where
 aIh (τ:jS) (j:Nat) (r:Row γ) (s:IG (List γ×Unit) W) (low:Nat):Option ((List γ×Unit)×W):=
  match τ.j9[j]? with
  |some (.lR l _)=>match τ.heap[l]? with
   |some y=>nX (low=0/\sk 0 y/\uc 1 (s6 (adk 0 l) τ.j9)) (((uf (aQL false r) sM).mH [y] [y]).bind fun b=>(s.mH b [y] (s6 (adk 0 l) τ.j9)).bind fun a=>bif decide (s.me<=1)then some (b,a)else none)
   |none=>none
  |_=>none
def ajI{r:Row γ}{s:IG (List γ×Unit) W}{q:(List γ×Unit)×W}(h:aDy P rs j r s J=some q):
 J.df=[]/\∃xs,BC P J rs=some xs/\alG ⟨xs,J.heap,J.low,[]⟩ ⟨s.enc q.1 q.2,(uf (aQL false r) sM).enc q.1,J.low,[]⟩:=by
 unfold aDy at h;cases hd0:J.df with
 |cons p q=>rw[hd0]at h;cases h
 |nil=>
 rw[hd0]at h;simp only[List.isEmpty_nil,jE]at h;simp only[eY]at h;obtain⟨xs,hx,h⟩:=h;refine⟨rfl,xs,hx,?_⟩;unfold aDy.aIh at h;split at h
 case h_2=>cases h
 rename_i l m hs;split at h
 case h_2=>cases h
 rename_i y hl;rw[mX]at h;obtain⟨⟨JB,h1,h2⟩,h⟩:=h;simp only[eY]at h;obtain⟨b,hb,a,ha,h⟩:=h;cases hd:decide (s.me<=1)with
 |false=>simp [hd]at h
 |true=>
  simp only[hd,jE,eZ]at h;subst h;rw[JB];have i1:Lb ⟨xs,J.heap,0,[]⟩ (GQ j r.sz false ⟨xs,J.heap,0,[]⟩):=asI;have aOb:(GQ j r.sz false ⟨xs,J.heap,0,[]⟩).low=0:=by unfold GQ;split<;>rfl
  have aPZ:(GQ j r.sz false ⟨xs,J.heap,0,[]⟩).df=[]:=by unfold GQ;split<;>rfl
  generalize hτ:GQ j r.sz false ⟨xs,J.heap,0,[]⟩=τ at*;have i2:alG ⟨τ.j9,τ.heap,0,[]⟩ ⟨s6 (adk 0 l) τ.j9,τ.heap.take 0++[y],0,[]⟩:=agY hl (Nat.zero_le _) (by simp) h1 h2;have e:τ=⟨τ.j9,τ.heap,0,[]⟩:=by cases τ;grind
  rw[e]at i1;refine(i1.e.trans i2).trans ?_;simp only[List.take_zero,List.nil_append];obtain⟨h5,h6⟩:=(uf (aQL false r) sM).ok [y] 1 _ _ hb;refine Lb.e (ase.imp (J:=⟨s6 (adk 0 l) τ.j9,[y],0,[]⟩) (J':=⟨s.enc b a,(uf (aQL false r) sM).enc b,0,[]⟩) ⟨⟨⟨rfl,Nat.zero_le _⟩,rfl,agR⟩,?_,?_⟩)
  ·show Aq [y] ((uf (aQL false r) sM).enc b).length _ _;rw[h6];exact s.ok b [y] 1 _ a (jI hd) ha
  grind
end
section open_
variable {k:List Kt}
def aDz{rd:List Nat}{up:List (Nat×j5)}{nw:List j5}{pr:Prop}:
 Av M p dst rest j tr k J (some {val:=x,rd,up,nw,pre:=pr,whole:=true})=nX pr (nX (adl M p tr j {val:=x,rd,up,nw,pre:=pr,whole:=true}) (run M (.XB p rest (j+1) (PT tr j J.heap.length {val:=x,rd,up,nw,pre:=pr,whole:=true})::k) {J.put dst x with heap:=ni J.heap up++nw})):=by
 rw[<-ajD];rfl
def aIi(M:kK R)(p:List Nat)(c:Nat)(o:Oper)(rest:List Oper)(j:Nat)(J:jS):Option vF->Prop
 |some e=>(e.pre/\e.up=[]/\e.nw=[])/\agW M p c rest (j+1) (J.put o.dst e.val)
 |none=>False
def aAU(M:kK R)(p:List Nat)(c:Nat)(o:Oper)(rest:List Oper)(j:Nat)(J:jS):Option (aRO×List AV)->Prop
 |some _=>False
 |none=>aIi M p c o rest j J (opX M.P J o.op)
def aEP(M:kK R)(p:List Nat)(c:Nat)(o:Oper)(rest:List Oper)(j:Nat)(J:jS):Option Bool->Prop
 |none=>False
 |some false=>agW M p c rest (j+1) (J.put o.dst (.sV undef))
 |some true=>aAU M p c o rest j J (nT J o.op)
def aDA{e:vF}:aIi M p c o rest j J (some e)=((e.pre/\e.up=[]/\e.nw=[])/\agW M p c rest (j+1) (J.put o.dst e.val)):=rfl
def aDB:aAU M p c o rest j J none=aIi M p c o rest j J (opX M.P J o.op):=rfl
def aDC:aEP M p c o rest j J (some true)=aAU M p c o rest j J (nT J o.op):=rfl
def aAV:aEP M p c o rest j J (some false)=agW M p c rest (j+1) (J.put o.dst (.sV undef)):=rfl
def aDD(h:OD M p c j=false):agW M p c (o::rest) j J=aEP M p c o rest j J (qG (ue M p) o J):=by
 unfold OD at h;show aba M.P (ue M p) c (o::rest) j J=_;simp only[aba,h];cases hw:qG (ue M p) o J with
 |none=>rfl
 |some b=>
  cases b with
  |false=>rfl
  |true=>
   simp only[aEP];cases hc:nT J o.op with
   |some q=>simp [aAU]
   |none=>
    simp only[true_and,aAU,<-uT];cases lG M.P J o.op with
    |none=>rfl
    |some e=>rfl
end open_
attribute [go_sem] aDz aDA aDB aDC aAV aDD aCW aDy aDy.aIh
section

def aAW{E:CS}{r:Row W}{vs:List aRQ}(h:kP E ((lA r).enc []::ys) vs):∃base c,kP E (.sV (.slice base 0 c)::ys) vs:=by
 obtain⟨u,us,e,⟨base,cap,hu,_⟩,h2⟩:=h;have hl:(mp r.enc ([]:List W)).length=0:=PU _ _;rw[hl]at hu;exact⟨base,cap,u,us,e,hu,h2⟩
def aIj{r:Row W}{V:AV->Prop}(h:∀base c,I5 P f (.sV (.slice base 0 c)::ys) V):I5 P f ((lA r).enc []::ys) V:=by
 obtain⟨h1,h2,h3⟩:=h none 0;refine⟨h1,⟨(lA r).nb 0 _,h2.2⟩,fun C U w a b c d vs hv=>?_⟩;obtain⟨base,cap,hr⟩:=aAW hv;exact(h base cap).2.2 C U w a b c d vs hr
def ag4{r:Row W}(h:∀base c,FnG P f (.sV (.slice base 0 c)::ys) [] V):FnG P f ((lA r).enc []::ys) [] V:=by
 obtain⟨h1,h2,h2',h3⟩:=h none 0;refine⟨h1,⟨(lA r).nb 0 _,h2.2⟩,h2',fun C U w a b c d e e2 vs hv=>?_⟩;obtain⟨base,cap,hr⟩:=aAW hv;exact(h base cap).2.2.2 C U w a b c d e e2 vs hr
def aAX:cellsOf (.agg [])=some []:=rfl
def aDE:vq [] 0 []=[]:=rfl
def aON:(∀l o v,(AV.ptr l o=AV.sV v)=False)/\(∀l o v,(AV.sV v=AV.ptr l o)=False)/\((AV.bool true=AV.bool false)=False)/\((AV.bool false=AV.bool true)=False):=by simp
def aEQ:(AV.bool b).nb 0:=trivial
def aLC:(AV.sV v).nb 0:=trivial
end
attribute [go_sem] List.isEmpty_nil aAX aDE aON
def nh(P:aRP)(f:Func)(n:Nat)(out:jS->Option R)(cl:aRO->List AV->List j5->Option (AV×List j5):=l6 [])(cd:aRO->List AV->Option AV:=Bp [])
 (qj:List Nat->jS->Option jS:=oz []) (cut:List Nat->jS->Option jS:=Mh []) (wx:aRO->Bool:=l2 []) (cp:aRO->List AV->List j5->Option (vu×List j5):=fun _ _ _=>none)
 (rk:AV->jS->Option R:=fun _ _=>none) (uz:aRO->Bool:=fun _=>false) (co:aRO->List AV->List j5->Option CO:=fun _ _ _=>none) (uC:aRO->Bool:=fun _=>false)
 (ce:aRO->List AV->List j5->Option vF:=fun _ _ _=>none) (js:List Nat->List (Int×Code):=fun _=>[]) (cy:Nat->List AV->List j5->Option (AV×List j5):=fun _ _ _=>none):kK R:=
 {P:=P,body:=f.body.getD .skip,cl:=cl,cd:=cd,qj:=qj,cut:=cut,n:=n,out:=out,wx:=wx,cp:=cp,rk:=rk,uz:=uz,co:=co,uC:=uC,ce:=ce,js:=js,cy:=cy}
section
variable {f:Func} {qj:List Nat->jS->Option jS} {cut:List Nat->jS->Option jS}
 {rk:AV->jS->Option R} {uz:aRO->Bool} {co:aRO->List AV->List j5->Option CO} {uC:aRO->Bool} {ce:aRO->List AV->List j5->Option vF} {js:List Nat->List (Int×Code)} {cy:Nat->List AV->List j5->Option (AV×List j5)}
def aOO:(nh P f n out cl cd qj cut wx cp rk uz co uC ce js cy).P=P/\(nh P f n out cl cd qj cut wx cp rk uz co uC ce js cy).body=f.body.getD .skip/\(nh P f n out cl cd qj cut wx cp rk uz co uC ce js cy).n=n/\
 (nh P f n out cl cd qj cut wx cp rk uz co uC ce js cy).out=out/\(nh P f n out cl cd qj cut wx cp rk uz co uC ce js cy).cl=cl/\(nh P f n out cl cd qj cut wx cp rk uz co uC ce js cy).cd=cd/\
 (nh P f n out cl cd qj cut wx cp rk uz co uC ce js cy).qj=qj/\(nh P f n out cl cd qj cut wx cp rk uz co uC ce js cy).cut=cut/\(nh P f n out cl cd qj cut wx cp rk uz co uC ce js cy).wx=wx/\
 (nh P f n out cl cd qj cut wx cp rk uz co uC ce js cy).cp=cp/\(nh P f n out cl cd qj cut wx cp rk uz co uC ce js cy).rk=rk/\(nh P f n out cl cd qj cut wx cp rk uz co uC ce js cy).uz=uz/\
 (nh P f n out cl cd qj cut wx cp rk uz co uC ce js cy).co=co/\(nh P f n out cl cd qj cut wx cp rk uz co uC ce js cy).uC=uC/\(nh P f n out cl cd qj cut wx cp rk uz co uC ce js cy).ce=ce/\
 (nh P f n out cl cd qj cut wx cp rk uz co uC ce js cy).js=js/\(nh P f n out cl cd qj cut wx cp rk uz co uC ce js cy).cy=cy:=⟨rfl,rfl,rfl,rfl,rfl,rfl,rfl,rfl,rfl,rfl,rfl,rfl,rfl,rfl,rfl,rfl,rfl⟩
end
@[reducible] def ini(args:List AV)(n:Nat)(H:List j5:=[]):jS:={j9:=args++fc (n-args.length) .any,heap:=H,low:=H.length}
class Fu(W:Type) where z:W
instance {W:Type}:Fu (Option W):=⟨none⟩
instance {W O:Type}[Fu O]:Fu (W->O):=⟨fun _=>Fu.z⟩
def fu[Fu W](F:Nat->W):Nat->W
 |0=>Fu.z
 |n+1=>F n
def kL[Fu W]{F:Nat->W}:fu F (n+1)=F n:=rfl
def ui{W:Type}[Fu W](F:W->W):Nat->W
 |0=>Fu.z
 |m+1=>F (ui F m)
def lpM{W:Type}[Fu W](F:Nat->W->W):Nat->W
 |0=>Fu.z
 |m+1=>F m (lpM F m)
def aDF{W:Type}[Fu W]{F:W->W}{G:Nat->W->Prop}(h0:G 0 Fu.z)(hs:∀m X,G m X->G (m+1) (F X)):∀m,G m (ui F m)
 |0=>h0
 |m+1=>hs m _ (aDF h0 hs m)
def aIk{W:Type}[Fu W]{F:Nat->W->W}{G:Nat->W->Prop}(h0:G 0 Fu.z)(hs:∀m X,G m X->G (m+1) (F m X)):∀m,G m (lpM F m)
 |0=>h0
 |m+1=>hs m _ (aIk h0 hs m)
@[reducible] def mm(l:List AV):List AV:=.any::.any::.any::.any::l
@[reducible] def lK(l:List AV):List AV:=.any::.any::.any::.any::.any::.any::.any::.any::.any::.any::.any::.any::.any::.any::.any::.any::l
@[reducible] def wu(l:List AV):List AV:=lK (lK (lK (lK l)))
@[reducible] def l7(l:List NZ):List NZ:=zA::zA::zA::zA::l
@[reducible] def lH(l:List NZ):List NZ:=l7 (l7 (l7 (l7 l)))
@[reducible] def wv(l:List NZ):List NZ:=lH (lH (lH (lH l)))
def gd{f:Func}
 (a:∀f args J r H',cl f args (jS.heap J)=some (r,H')->BB P f args J (fun o F7=>o=.ret r/\F7=H')) (d:∀f args r,cd f args=some r->I5 P f args (fun v=>v=r))
 (y:∀l args J r H',cy l args (jS.heap J)=some (r,H')->PP P l args J (fun o F7=>o=.ret r/\F7=H'):=by exact rK) (e:∀f args J e,ce f args (jS.heap J)=some e->IF P f args J e:=by exact rL)
 (p:∀f args J o H',cp f args (jS.heap J)=some (o,H')->BB P f args J (fun o' F7=>o'=o/\F7=H'):=by exact sA)
 (c:∀f args J,(∀e,co f args (jS.heap J)=some (.ret e)->IF P f args J e)/\∀x H',co f args J.heap=some (.pan x H')->asj P f args J.heap x H':=by exact rX):
 Fw (nh P f n out cl cd (oz nl) (Mh cu) wx cp rk uz co uC ce js cy):=⟨a,d,pd _,pI _,y,e,p,c⟩
section
variable {O2 W2:Type}
abbrev SG(P:aRP)(g:aRO)(aRs:AL γ)(os:OL O)(b:O)(a:γ)(vb:OL O1)(s:AL W)(r:O1×W):Prop:=
 FnG P g (aRs.enc (os.mg b) a) (os.enc (os.mg b) b) (fun o H'=>o=.ret (sZ (s.enc (vb.mg r.1) r.2))/\H'=vb.enc (vb.mg r.1) r.1)
abbrev SP(P:aRP)(g:aRO)(aRs:AL γ)(os:OL O)(b:O)(a:γ)(pk:Bool)(vb:OL O1)(s1:AL W1)(Cx:OL O2)(s2:AL W2)(r:PR (O1×W1) (O2×W2)):Prop:=
 FnP P g (aRs.enc (os.mg b) a) (os.enc (os.mg b) b) (enP pk vb s1 Cx s2 r)
@[reducible] def axT(aRs:AL γ)(os:OL O)(b:O)(a:γ)(k:Nat):jS:=ini (aRs.enc (os.mg b) a) k (os.enc (os.mg b) b)
def nbA{aRs:AL γ}{os:OL O}{b:O}{a:γ}(h:decide (aRs.me<=os.size)=true):uc (os.enc (os.mg b) b).length (aRs.enc (os.mg b) a):=
 sy (Nat.le_trans (jI h) (Nat.le_of_eq (os.sz _ _).symm)) _ (aRs.nb _ _)
def nbO{os:OL O}{b:O}(h:decide (os.me<=os.size)=true):∀x∈os.enc (os.mg b) b,sk (os.enc (os.mg b) b).length x:=
 fun x hx=>Ai (Nat.le_trans (jI h) (Nat.le_of_eq (os.sz _ _).symm)) _ (os.nb _ _ x hx)
variable {fn:Func} {m:Nat} {qj:List Nat->jS->Option jS} {cut:List Nat->jS->Option jS}
 {uz:aRO->Bool} {co:aRO->List AV->List j5->Option CO} {uC:aRO->Bool} {ce:aRO->List AV->List j5->Option vF} {js:List Nat->List (Int×Code)} {cy:Nat->List AV->List j5->Option (AV×List j5)} {k:Nat} {g:aRO} {rs:List ResultVar} {p1 p2:List XC} {b1 b2:List Nat} {low:Nat}
 {R:Type} {t:Ty R} {args:List AV} {aRs:AL γ} {os:OL O} {b:O} {a:γ} {os0:OL O1} {s:AL W} {vb:OL O1} {BE:AL W1} {Cx:OL O2} {Lj:AL W2}
def okC{r:R}(h:run (nh P fn m (l1 P rs t) cl cd qj cut wx cp (fun _ _=>none) uz co uC ce js cy) [.at []] (ini args k)=some r)(G:Fw (nh P fn m (l1 P rs t) cl cd qj cut wx cp (fun _ _=>none) uz co uC ce js cy))(hf:P.funcs[g]? =some fn)(GH:uc 0 args)(hn:fn.ntmps=k)(KO:fn.results=rs.toArray)(hb:fn.body=some (fn.body.getD .skip):=by exact rfl)(sv:(fn.name != "runtime.NumGoroutine")=true:=by exact rfl):I5 P g args (fun v=>v=t.enc r):=
 am3 G hf hb sv GH hn KO (fun J hs=>ajE hs) h
def okG{r:O1×W}(h:run (nh P fn m (w9 P rs p1 b1 low os0 s) cl cd qj cut wx cp (fun _ _=>none) uz co uC ce js cy) [.at []] (axT aRs os b a k)=some r)(G:Fw (nh P fn m (w9 P rs p1 b1 low os0 s) cl cd qj cut wx cp (fun _ _=>none) uz co uC ce js cy))(hf:P.funcs[g]? =some fn)(hn:fn.ntmps=k)(KO:fn.results=rs.toArray)(h1:decide (aRs.me<=os.size)=true:=by kernel_rfl)(h2:decide (os.me<=os.size)=true:=by kernel_rfl)(hb1:b1=fb low:=by exact rfl)(hb:fn.body=some (fn.body.getD .skip):=by exact rfl)(sv:(fn.name != "runtime.NumGoroutine")=true:=by exact rfl):SG P g aRs os b a os0 s r:=
 vX G hf hb sv (nbA h1) (nbO h2) hn KO (fun J hs=>Yj hb1 hs) h
def okP{r:PR (O1×W1) (O2×W2)}(h:run (nh P fn m (qL P rs p1 b1 low vb BE) cl cd qj cut wx cp (qM p2 b2 low Cx Lj) uz co uC ce js cy) [.at []] (axT aRs os b a k)=some r)(G:Fw (nh P fn m (qL P rs p1 b1 low vb BE) cl cd qj cut wx cp (qM p2 b2 low Cx Lj) uz co uC ce js cy))(hf:P.funcs[g]? =some fn)(hn:fn.ntmps=k)(KO:fn.results=rs.toArray)(h1:decide (aRs.me<=os.size)=true:=by kernel_rfl)(h2:decide (os.me<=os.size)=true:=by kernel_rfl)(zr: ∀b a,∃y,Lj.enc (Cx.mg b) a=[y]:=by exact fun b a=>⟨_,rfl⟩)(hb1:b1=fb low:=by exact rfl)(hb2:b2=fb low:=by exact rfl)(hb:fn.body=some (fn.body.getD .skip):=by exact rfl)(sv:(fn.name != "runtime.NumGoroutine")=true:=by exact rfl):SP P g aRs os b a true vb BE Cx Lj r:=
 aKC G hf hb sv (nbA h1) (nbO h2) hn KO hb1 hb2 zr rfl rfl h
def okS{r:PR (O1×W1) (O2×W2)}(h:run (nh P fn m (anh P rs p1 b1 low vb BE p2 Cx Lj) cl cd qj cut wx cp (fun _ _=>none) uz co uC ce js cy) [.at []] (axT aRs os b a k)=some r)(G:Fw (nh P fn m (anh P rs p1 b1 low vb BE p2 Cx Lj) cl cd qj cut wx cp (fun _ _=>none) uz co uC ce js cy))(hf:P.funcs[g]? =some fn)(hn:fn.ntmps=k)(KO:fn.results=rs.toArray)(h1:decide (aRs.me<=os.size)=true:=by kernel_rfl)(h2:decide (os.me<=os.size)=true:=by kernel_rfl)(hb1:b1=fb low:=by exact rfl)(hb:fn.body=some (fn.body.getD .skip):=by exact rfl)(sv:(fn.name != "runtime.NumGoroutine")=true:=by exact rfl):SP P g aRs os b a false vb BE Cx Lj r:=
 aKD G hf hb sv (nbA h1) (nbO h2) hn KO hb1 rfl h
end
attribute [go_sem] aOO axT ini mm lK wu l7 lH wv
section
variable {δ':Type}
def aOP(ub:Bool)(row:Row W)(s:AL δ)(rs:AL δ')(F:(List W×Unit)->δ->Option ((List W×Unit)×δ')):List AV->List j5->Option CO:=fun args H=>match args with
 | .lR l n::cs=>match H[l]? with
   |some x=>(daT ub row x).bind fun rows=>nX (n=rows.length) (nX (x=.lR ub row.sz (mp row.enc rows)) ((s.mH [] ((tz (ogA ub row) Bn).mg (rows,())) H cs).bind fun a=>nX (cs=s.enc ((tz (ogA ub row) Bn).mg (rows,())) a) ((F (rows,()) a).bind fun r=>
     nX (r.1=(rows,())) (some (.ret {val:=sZ (rs.enc ((tz (ogA ub row) Bn).mg (rows,())) r.2),rd:=[l]})))))
   |none=>none
 |_=>none
def aKI{ub:Bool}{row:Row W}{s:AL δ}{rs:AL δ'}{F:(List W×Unit)->δ->Option ((List W×Unit)×δ')}:aOP ub row s rs F (.lR l n::cs) H=match H[l]? with
 |some x=>(daT ub row x).bind fun rows=>nX (n=rows.length) (nX (x=.lR ub row.sz (mp row.enc rows)) ((s.mH [] ((tz (ogA ub row) Bn).mg (rows,())) H cs).bind fun a=>nX (cs=s.enc ((tz (ogA ub row) Bn).mg (rows,())) a) ((F (rows,()) a).bind fun r=>
   nX (r.1=(rows,())) (some (.ret {val:=sZ (rs.enc ((tz (ogA ub row) Bn).mg (rows,())) r.2),rd:=[l]})))))
 |none=>none:=rfl
def aKJ{ub:Bool}{row:Row W}{s:AL δ}{rs:AL δ'}{F:(List W×Unit)->δ->Option ((List W×Unit)×δ')}{t:Nat}{rows:List (List AV)}:aOP ub row s rs F (.kF b t rows::cs) H=none:=rfl
end
def aAY{k:List Kt}{c:Prop}{x:Option (AV×List j5)}:VO M kE dst rest k J (nX c x)=nX c (VO M kE dst rest k J x):=by
 grind [nX,asz]
attribute [go_sem] aAY aKI aKJ
def aF6(P:aRP)(u:FrameMode)(f:aRO):aRQ->aRR->Array aRQ->(Ending->aRR->Prop)->Prop:=fun _ w vs R=>
 CallsDIn Fence.wide 0 P f vs u w fun e u' w'=>∃r,e=.returned r/\u'=u/\R (.returned r) w'
def awx:agV (aF6 P u f):=⟨fun _ _ _ _ _ hr h=>xQ h fun _ _ _ ⟨r,h1,h2,h3⟩=>⟨r,h1,h2,hr _ _ h3⟩⟩
def aKK{fn:Func}{c:Code}(hf:P.funcs[f]? =some fn)(hb:fn.body=some c)
 (GH:uc H.length args) (I7:∀x∈H,sk H.length x) (hn:fn.ntmps=n) (KO:fn.results=rs.toArray)
 (h:awp P c (aAL P rs V) {j9:=args++fc (n-args.length) .any,heap:=H,low:=H.length}):FnT P (aF6 P u f) args H V:=by
 refine⟨GH,I7,fun C U w hP h0 hN0 hφ0 hM HS vs hr=>?_⟩;subst hP;have hsz:vs.size=args.length:=by have:=hr.length;simpa using this
 have S:nF C U {j9:=args++fc (n-args.length) .any,heap:=H,low:=H.length} {tmps:=vs++Array.replicate (fn.ntmps-vs.size) undef,defers:=[]} w:=by
  refine {HS with j9:=?_,defers:=tv.nil};simp only[Array.toList_append,Array.toList_replicate];refine hr.append ?_;rw[hsz,hn];have:=kP.Fl (E:=C.env U H w) (fc (n-args.length) undef);simpa using this
 have JB:∀{U':Nat->aRQ}{J':jS}{a'':Act}{w'':aRR},nF C U' J' a'' w''->J'.low=H.length:=fun S'=>by rw[<-S'.low.1];exact hN0
 refine Yk hf hb trivial ?_;intro c₀ cs hu;refine wpSIn_of_wpIn rfl (wpIn_mono (yy (ro:=none) c _ U _ _ w (.inl rfl) h S) ?_);intro e a' w' hq
 have y9:∀U' J',nF C U' J' a' w'->J'.df=[]/\aoY C.P rs V none J'->VU C fn c₀ cs (fun e u2 w'=>∃r,e=.returned r/\u2=u/\∃o U' H',V o H'/\nF C U' {j9:=[],heap:=H',low:=H.length} {tmps:= #[],defers:=[]} w'/\o.rep (C.env U' H' w') (.returned r)) .normal a' (c₀::cs) w':=by
  rintro U' J' S' ⟨hdf,xr,hx,r,H',hex,hV'⟩;refine⟨u,by rw[<-hu],U',J',S',hdf,fun w'' S''=>?_⟩;obtain⟨vv,hv,rv⟩:=QR (fn:=fn) S'' (by rw[KO];exact hx);obtain⟨U3,S3,hr3⟩:=hex C U' _ w'' S'' vv rv;rw[JB S'']at S3;exact⟨vv,hv,vv,rfl,rfl,.ret r,U3,H',hV',S3,hr3⟩
 cases e with
 |normal=>obtain⟨U',J',S',hq⟩:=hq;exact y9 U' J' S' hq
 |ret=>obtain⟨U',J',S',hq⟩:=hq;exact y9 U' J' S' hq
 |exit id=>obtain⟨_,_,_,hq⟩:=hq;exact hq.elim
 |goto l=>obtain⟨_,_,_,hq⟩:=hq;exact hq.elim
 |panic chain=>obtain⟨_,_,_,_,_,hq,_⟩:=hq;exact hq.elim
 |outgrown=>exact hq.elim
section

def aAZ{M:kK (O1×W1)}{fn:Func}{r:O1×W1}{vb:OL O1}{BE:AL W1}(G:Fw M)
 (hf:M.P.funcs[f]? =some fn) (hb:fn.body=some M.body) (GH:uc H.length args) (I7:∀x∈H,sk H.length x) (hn:fn.ntmps=n) (KO:fn.results=rs.toArray) (hb1:b1=fb low) (ho:M.out=w9 M.P rs p1 b1 low vb BE)
 (h:run M [.at []] {j9:=args++fc (n-args.length) .any,heap:=H,low:=H.length}=some r) (hP:∀x J',M.rk x J'=none:=by intros;rfl):
 FnT M.P (aF6 M.P u f) args H (fun o H'=>o=(enR vb BE r).1/\H'=(enR vb BE r).2):=by
 refine aKK hf hb GH I7 hn KO (adm G h (fun J hs=>?_) (fun x J hs=>by rw[hP x J]at hs;cases hs));rw[ho]at hs;obtain⟨hd,xs,hx,I6⟩:=Yj hb1 hs;have:=QW (P:=M.P) hx I6;exact⟨⟨hd,this⟩,hd,this⟩
end
def spl{γ:Type}:List AV->(List AV->AV->Option γ)->Option γ
 |[],_=>none
 |[x],k=>k [] x
 |a::b::l,k=>spl (b::l) fun l x=>k (a::l) x
def aKL:spl [x] k=k [] x:=rfl
def aIl{a b:AV}{l:List AV}:spl (a::b::l) k=spl (b::l) fun l x=>k (a::l) x:=rfl
def aA0{γ:Type}:∀{l:List AV}{k:List AV->AV->Option γ}{r:γ},spl l k=some r->∃aRs x,l=aRs++[x]/\k aRs x=some r
 |[x],k,r,h=>⟨[],x,rfl,h⟩
 |a::b::l,k,r,h=>by
  obtain⟨aRs,x,h1,h2⟩:=aA0 (l:=b::l) h
  grind
def aKM(c:XD):XD:=fun f args H=>spl args fun aRs x=>(c f aRs H).bind fun q=>some (.panic x,q.2)
def aIm(P:aRP)(c:XD):Prop:=∀u,QOK P (aF6 P u) c
def aIn{c:XD}(h:aIm P c):QOK P (auO P) c:=by
 intro f args J o H' he;obtain⟨h1,h2⟩:=h .returning f args J o H' he;refine⟨h1,fun C U a w hP S vs hr=>?_⟩;refine xQ (h2 C U a w hP S vs hr) ?_;rintro e u' w' ⟨r,rfl,rfl,h3⟩;exact⟨r,rfl,rfl,h3⟩
def aIo{c:XD}(h:aIm P c):QOK P (auP P) (aKM c):=by
 intro f args J o H' he;obtain⟨aRs,x,rfl,hk⟩:=aA0 he;simp only[eY,eZ,Prod.mk.injEq]at hk;obtain⟨q,hq,rfl,rfl⟩:=hk;refine⟨(h .returning f aRs J q.1 q.2 hq).1,fun C U a w hP S vs hr vs0 v hvs=>?_⟩;subst hvs
 have hr':kP (C.env U J.heap w) aRs vs0.toList/\pm (C.env U J.heap w) x v:=by
  rw[Array.toList_push]at hr
  have hl:vs0.toList.length=aRs.length:=by
   have:=hr.length;simp at this;simpa using this
  have h1:=hr.take aRs.length;have h2:=hr.drop aRs.length;rw[List.take_left' rfl,List.take_left' hl]at h1;rw[List.drop_left' rfl,List.drop_left' hl]at h2;obtain⟨u,us,he,r1,_⟩:=h2
  grind
 have hc:=(h (.panicking [{v,recovered:=false}]) f aRs {J with j9:=J.j9++[x]} q.1 q.2 hq).2;cases a with
 |mk tmps ds=>
 refine xQ (hc C U _ w hP (S.axw hr'.2) vs0 hr'.1) ?_;rintro e u' w' ⟨r,rfl,rfl,o,U',H',⟨rfl,rfl⟩,S2,tD⟩;have S3:nF C U' {({J with heap:=q.2}:jS)with j9:=({J with heap:=q.2}:jS).j9++[x]} {tmps:=tmps.push v,defers:=ds} w':=S2;obtain⟨S4,h4⟩:=S3.aCn S.len;exact⟨r,rfl,.inr ⟨v,rfl,.panic x,U',q.2,⟨rfl,rfl⟩,S4,v,rfl,h4⟩⟩
section ends
variable {W2 O2:Type}
def enX(f:jS->Option R)(g:AV->jS->Option R):Option AV->jS->Option R
 |none,J=>f J
 |some x,J=>g x J
def aOQ{f:jS->Option R}{g:AV->jS->Option R}:enX f g none J=f J/\∀x,enX f g (some x) J=g x J:=⟨rfl,fun _=>rfl⟩
def as2(c:XD)(f:jS->Option R)(g:AV->jS->Option R)(J:jS):Option R:=afU c (aKM c) (enX f g) J.df none J
def as3(c:XD)(f:jS->Option R)(g:AV->jS->Option R)(x:AV)(J:jS):Option R:=afU c (aKM c) (enX f g) J.df (some x) J
def aMT{c:XD}:aKM c f args H=spl args fun aRs x=>(c f aRs H).bind fun q=>some (.panic x,q.2):=rfl
attribute [go_sem] aOQ as2 as3 aMT aKL aIl
variable {fn:Func} {m:Nat} {qj:List Nat->jS->Option jS} {cut:List Nat->jS->Option jS}
 {uz:aRO->Bool} {co:aRO->List AV->List j5->Option CO} {uC:aRO->Bool} {ce:aRO->List AV->List j5->Option vF} {js:List Nat->List (Int×Code)} {cy:Nat->List AV->List j5->Option (AV×List j5)} {k:Nat} {g:aRO} {rs:List ResultVar} {p1 p2:List XC} {b1 b2:List Nat} {low:Nat}
 {aRs:AL γ} {os:OL O} {b:O} {a:γ} {os0:OL O1} {s:AL W} {vb:OL O1} {BE:AL W1} {Cx:OL O2} {Lj:AL W2} {c:XD}
def aP5{r:PR (O1×W1) (O2×W2)}(hc:aIm P c)(h:run (nh P fn m (as2 c (qL P rs p1 b1 low vb BE) (qM p2 b2 low Cx Lj)) cl cd qj cut wx cp (as3 c (qL P rs p1 b1 low vb BE) (qM p2 b2 low Cx Lj)) uz co uC ce js cy) [.at []] (axT aRs os b a k)=some r)
 (G:Fw (nh P fn m (as2 c (qL P rs p1 b1 low vb BE) (qM p2 b2 low Cx Lj)) cl cd qj cut wx cp (as3 c (qL P rs p1 b1 low vb BE) (qM p2 b2 low Cx Lj)) uz co uC ce js cy)) (hf:P.funcs[g]? =some fn) (hn:fn.ntmps=k) (KO:fn.results=rs.toArray)
 (h1:decide (aRs.me<=os.size)=true:=by kernel_rfl) (h2:decide (os.me<=os.size)=true:=by kernel_rfl) (zr: ∀b a,∃y,Lj.enc (Cx.mg b) a=[y]:=by exact fun b a=>⟨_,rfl⟩) (hb1:b1=fb low:=by exact rfl) (hb2:b2=fb low:=by exact rfl) (hb:fn.body=some (fn.body.getD .skip):=by exact rfl) (sv:(fn.name != "runtime.NumGoroutine")=true:=by exact rfl):SP P g aRs os b a true vb BE Cx Lj r:=by
 have he:∀m' J,J.df=[]->enX (qL P rs p1 b1 low vb BE) (qM (O1:=O1) (W1:=W1) p2 b2 low Cx Lj) m' J=some r->aoY P rs (fun o H'=>o=(enP true vb BE Cx Lj r).1/\H'=(enP true vb BE Cx Lj r).2) m' J:=by
  intro m' J _ hs;cases m' with
  |none=>
   simp only[enX,qL,fa]at hs;obtain⟨q,hq,rfl⟩:=hs;obtain⟨hd,xs,hx,I6⟩:=Yj hb1 hq;exact QW hx I6
  |some x=>
   simp only[enX,qM,fa]at hs;obtain⟨q,hq,rfl⟩:=hs;obtain⟨hd,I6⟩:=ane hb2 hq;obtain⟨y,hy⟩:=zr q.1 q.2;rw[hy]at I6;have:=aAj (P:=P) (rs:=rs) I6.e
   grind [enP,prc,awv,pkO]
 exact am7 G hf hb sv (nbA h1) (nbO h2) hn KO (fun J hs=>adw (aIn hc) (aIo hc) he J.df none J rfl hs) (fun x J hs=>adw (aIn hc) (aIo hc) he J.df (some x) J rfl hs) h
abbrev SD(P:aRP)(g:aRO)(aRs:AL γ)(os:OL O)(b:O)(a:γ)(vb:OL O1)(s:AL W1)(r:O1×W1):Prop:=
 ∀u,FnT P (aF6 P u g) (aRs.enc (os.mg b) a) (os.enc (os.mg b) b) (fun o H'=>o=(enR vb s r).1/\H'=(enR vb s r).2)
def okD{r:O1×W}(h:run (nh P fn m (w9 P rs p1 b1 low os0 s) cl cd qj cut wx cp (fun _ _=>none) uz co uC ce js cy) [.at []] (axT aRs os b a k)=some r)(G:Fw (nh P fn m (w9 P rs p1 b1 low os0 s) cl cd qj cut wx cp (fun _ _=>none) uz co uC ce js cy))(hf:P.funcs[g]? =some fn)(hn:fn.ntmps=k)(KO:fn.results=rs.toArray)(h1:decide (aRs.me<=os.size)=true:=by kernel_rfl)(h2:decide (os.me<=os.size)=true:=by kernel_rfl)(hb1:b1=fb low:=by exact rfl)(hb:fn.body=some (fn.body.getD .skip):=by exact rfl):SD P g aRs os b a os0 s r:=
 fun u=>aAZ G hf hb (nbA h1) (nbO h2) hn KO hb1 rfl h
def aA1{e:aqN}(h:∀u,∀args (J:jS) o H',e args J.heap=some (o,H')->xE P g=true/\Yg P (aF6 P u g) 0 args J (fun o' F7=>o'=o/\F7=H')):aIm P (VV [(g,e)]):=fun u=>Mv (h u) QY
end ends
def dNI:AV->Option Unit
 |.sV .nilIface=>some ()
 |_=>none
def aIp:Ty Unit where
 enc _:=.sV .nilIface
 mH _:=dNI
 ok H n v x h:=by
  unfold dNI at h;split at h
  ·exact Co.same trivial
  ·cases h
 nb n x:=trivial
def aMU:(∀x,aIp.enc x=.sV .nilIface)/\(∀H v,aIp.mH H v=dNI v)/\dNI (.sV .nilIface)=some ():=⟨fun _=>rfl,fun _ _=>rfl,rfl⟩
attribute [go_sem] aMU
def aIq{T:TypeId}(he:xE P f=true)
 (h:∀(s:ByteArray)(n:Int)(w:aRR),s.size<=18->Lib.atoi s.data.toList=some n->Calls P f #[.string s] w fun e w'=>e=.returned (.tuple #[.int .i64 n,.nilIface])/\∃t,w'=Lib.bytesWorld w T t)
 (s:kj) (n:Int) (hl:s.length<=18) (hn:Lib.atoi s=some n):I5 P f [mo.enc s] (fun v=>v=(Qr (lr .i64) aIp).enc (n,())):=by
 refine⟨he,⟨mo.nb 0 _,trivial⟩,fun C U w hP hw hN0 hM vs hr=>?_⟩
 obtain rfl:vs= #[.string (sb s)]:=by
  obtain⟨v0,us,hvs,r0,alu⟩:=hr;have hus:us=[]:=alu;have e0:v0=.string (sb s):=r0;subst hus e0;cases vs;simp_all
 refine(h (sb s) n w (by rw[aQN];exact hl) (by rw[adu];exact hn)).mono ?_;rintro e w' ⟨rfl,t,rfl⟩;have hb:=Lib.bytesWorld_below w T t;exact⟨_,_,U,rfl,rfl,⟨_,rfl,_,_,rfl,rfl,_,_,rfl,rfl,rfl⟩,hb.size,hb.block,fun x hx=>hb.frozen hx,hb.output,hb.os⟩
section
variable {C:qC} {U:Nat->aRQ} {a:Act} {w:aRR}
def nF.calm(S:nF C U J a w):qC:=
 {P:=C.P,w0:=w,M0:=fun _ _=>False,A:=fun _ _=>False,hA:=fun _ _ h=>h.elim,hk:=⟨fun b o h=>let ⟨v,h1,h2,_⟩:=S.know.cell b o h;⟨v,h1,h2,fun f=>f⟩,fun b h=>⟨fun _ f=>f,(S.know.row b h).2⟩⟩}
def nF.aER(S:nF C U J a w):(C.env U J.heap w).Le 0 (S.calm.env U [] w):=by
 refine⟨Nat.zero_le _,fun l hl=>absurd hl (Nat.not_lt_zero _),fun b o u hm hc=>⟨?_,hc⟩,CT _⟩;simp only[qC.env,nF.calm];rintro(⟨l,x,hx,_⟩|h)
 ·simp at hx
 ·exact h
def aES:Option j5->Option AV
 |some (.cells cs)=>some (.pp cs)
 |_=>none
def JF(H:List j5):AV->Option AV
 |.ptr l o=>bif o==0 then aES H[l]? else none
 |x=>some x
def aKN:(∀l,JF H (.ptr l 0)=aES H[l]?)/\(∀k n,JF H (.int k n)=some (.int k n))/\(∀b,JF H (.bool b)=some (.bool b))/\(∀s,JF H (.str s)=some (.str s))/\(∀t z r,JF H (.kF t z r)=some (.kF t z r))/\(∀c,JF H (.agg c)=some (.agg c))/\(∀c,JF H (.pp c)=some (.pp c))/\(∀c,JF H (.sV c)=some (.sV c))/\∀f x y,JF H (.func f x y)=some (.func f x y):=
 ⟨fun _=>rfl,fun _ _=>rfl,fun _=>rfl,fun _=>rfl,fun _ _ _=>rfl,fun _=>rfl,fun _=>rfl,fun _=>rfl,fun _ _ _=>rfl⟩
def aKO:aES (some (.cells cs))=some (.pp cs):=rfl
def aA2(S:nF C U J a w){y:AV}(h:JF J.heap x=some y)(hn:y.nb 0)(r:pm (C.env U J.heap w) x v):pm (S.calm.env U [] w) y v:=by
 cases x with
 |ptr l o=>
  simp only[JF]at h;cases ho:o==0 with
  |false=>rw[ho]at h;cases h
  |true=>
   rw[ho,jE]at h;have ho:=jL.1 ho;subst ho;cases hl:J.heap[l]? with
   |none=>rw[hl]at h;cases h
   |some z=>
    rw[hl]at h;cases z with
    |cells cs=>
     cases h;obtain⟨_,b,hb,rfl⟩:=r;obtain⟨b',c,t,sK,hc,rl,h1⟩:=S.om l _ hl;have hb:U l=_:=hb;rw[hb]at sK;simp only[Value.pointer.injEq,eZ,Addr.mk.injEq,and_true]at sK;subst sK
     have e:(c.toList.drop 0).take cs.length=c.toList:=by
      rw[List.drop_zero,List.take_of_length_le];have:=rl.length;omega
     refine⟨b,0,rfl,Ku (E:=S.calm.env U [] w) (c:=c) (t:=t) (fr:=(0,0)) hc cs 0 (fun o _ _=>?_) ?_ ?_⟩
     ·simp only[qC.env,nF.calm];rintro(⟨l,x,hx,_⟩|h)
      all_goals grind
     ·rw[e];exact kP.mono S.aER _ _ hn rl
     ·rw[e];exact h1
    |_=>cases h
 |_=>cases h;exact pm.mono S.aER _ _ hn r
def aqf(S:nF C U J a w):∀{xs ys:List AV}{vs:List aRQ},qQ (JF J.heap) xs=some ys->uc 0 ys->kP (C.env U J.heap w) xs vs->kP (S.calm.env U [] w) ys vs
 |[],ys,vs,h,_,r=>by simp only[qQ,eZ]at h;subst h;exact r
 |x::xs,ys,vs,h,hn,⟨u,us,hv,r1,r2⟩=>by
  simp only[qQ,eY,eZ]at h;obtain⟨y,hy,zs,hz,rfl⟩:=h;exact⟨u,us,hv,aA2 S hy hn.1 r1,aqf S hz hn.2 r2⟩
def sc1:AV->AV
 |.int k n=>.int k n
 |.bool b=>.bool b
 |.str s=>.str s
 |_=>.any
def sc2:AV->AV
 |.agg cs=>.agg (cs.map sc1)
 |x=>sc1 x
def aF7:AV->AV
 |.I3 cs=>.I3 (cs.map sc2)
 |x=>sc2 x
section
variable {E E':CS}
def aET(h:pm E x v):pm E' (sc1 x) v:=by
 cases x with
 |int=>exact h
 |bool=>exact h
 |str=>exact h
 |_=>exact trivial
def aA3:∀{xs:List AV}{vs:List aRQ},kP E xs vs->kP E' (xs.map sc1) vs
 |[],_,h=>h
 |_::_,_,⟨u,us,hv,r1,r2⟩=>⟨u,us,hv,aET r1,aA3 r2⟩
def aEU(h:pm E x v):pm E' (sc2 x) v:=by
 cases x with
 |agg cs=>obtain⟨vs,hv,hr⟩:=h;exact⟨vs,hv,aA3 hr⟩
 |_=>exact aET h
def aA4:∀{xs:List AV}{vs:List aRQ},kP E xs vs->kP E' (xs.map sc2) vs
 |[],_,h=>h
 |_::_,_,⟨u,us,hv,r1,r2⟩=>⟨u,us,hv,aEU r1,aA4 r2⟩
def aIr(h:pm E x v):pm E' (aF7 x) v:=by
 cases x with
 |I3 cs=>obtain⟨vs,hv,hr⟩:=h;exact⟨vs,hv,aA4 hr⟩
 |_=>exact aEU h
end
def DX(e:axF):Ent:=fun args H=>(qQ (JF H) args).bind fun aRs=>(e aRs).bind fun r=>some (aF7 r,H)
def qp{e:axF}(h:VP P f e):Uj P f (DX e):=by
 intro args J r H' he;unfold DX at he;simp only[eY,eZ,Prod.mk.injEq]at he;obtain⟨aRs,hv,q,hq,rfl,rfl⟩:=he;obtain⟨hen,GH,hc⟩:=h aRs q hq;refine⟨hen,fun C U a w hP S vs hr=>?_⟩;refine(hc S.calm U w hP rfl rfl (fun _ _ h=>h) vs (aqf S hv GH hr)).mono ?_;rintro e' w' ⟨r,v,U',rfl,rfl,rep,hs,hh,hf,ho⟩;exact⟨.ret (aF7 r),U,J.heap,⟨rfl,rfl⟩,S.aEl hs hh hf ho,aIr rep⟩
def anl:AV->List Nat
 |.ptr l _=>[l]
 |_=>[]
def VW:List AV->List Nat
 |[]=>[]
 |x::xs=>anl x++VW xs
def aMV:(∀l o,anl (.ptr l o)=[l])/\(∀k n,anl (.int k n)=[])/\(∀b,anl (.bool b)=[])/\(∀s,anl (.str s)=[])/\(∀t z r,anl (.kF t z r)=[])/\(∀c,anl (.agg c)=[])/\(∀c,anl (.pp c)=[])/\(∀c,anl (.sV c)=[])/\(∀f x y,anl (.func f x y)=[])/\VW []=[]/\∀x xs,VW (x::xs)=anl x++VW xs:=
 ⟨fun _ _=>rfl,fun _ _=>rfl,fun _=>rfl,fun _=>rfl,fun _ _ _=>rfl,fun _=>rfl,fun _=>rfl,fun _=>rfl,fun _ _ _=>rfl,rfl,fun _ _=>rfl⟩
def aEV{H:List j5}: ∀{xs ys:List AV},qQ (JF H) xs=some ys-> ∀l∈VW xs,l<H.length
 |[],_,_,l,hl=>by simp [VW]at hl
 |x::xs,ys,h,l,hl=>by
  simp only[qQ,eY,eZ]at h;obtain⟨y,hy,zs,hz,rfl⟩:=h;simp only[VW,List.mem_append]at hl;rcases hl with hl|hl
  ·cases x with
   |ptr k o=>
    grind [anl,JF,aES]
   |_=>simp [anl]at hl
  ·exact aEV hz l hl
theorem as4{H H':List j5}:∀{xs:List AV},(∀l∈VW xs,H'[l]? =H[l]?)->qQ (JF H') xs=qQ (JF H) xs
 |[],_=>rfl
 |x::xs,h=>by
  have h1:JF H' x=JF H x:=by
   cases x with
   |ptr l o=>grind [JF,VW,anl]
   |_=>rfl
  simp only[qQ,h1];rw[as4 fun l hl=>h l (by simp [VW,hl])]
def aeY(e:axF):List AV->List j5->Option CO:=fun args H=>(qQ (JF H) args).bind fun aRs=>(e aRs).bind fun r=>some (.ret {val:=aF7 r,rd:=VW args})
def QZ{e:axF}(h:VP P f e):axR P f (aeY e):=by
 intro args J;refine⟨fun ef he=>?_,fun x H' he=>?_⟩
 ·simp only[aeY,eY,eZ,CO.ret.injEq]at he;obtain⟨aRs,hv,r,hr,rfl⟩:=he;refine⟨⟨aEV hv,by simp⟩,fun J' h1 _ _=>?_⟩
  have:=qp h args J' (aF7 r) J'.heap (by
   grind [DX,as4])
  grind [ni]
 grind [aeY,eY]
end
attribute [go_sem] DX aeY aKO aKN aMV aF7 sc2 sc1
section aHz
variable {C:qC} {U:Nat->aRQ} {a:Act} {w:aRR}
def aDG {off s sz:Nat}(hl:J.heap[l]? =some (.cells cs))(hc:cs[off]? =some (.kF true s [])):
 Lb J {j9:=J.j9,heap:=J.heap.set l (.cells (cs.set off (.lR J.heap.length 0)))++[.lR false sz []],low:=J.low,df:=J.df}:=by
 intro C U a w S;have sJ:l<J.heap.length:=(fe.1 hl).1;obtain⟨b,c,t,hφ,hh,rl,h1⟩:=S.om l _ hl;obtain⟨v,hv,base,cap,rfl,_,Cp,_⟩:=rl.get hc;have Cp:cap=0:=Cp rfl;subst Cp
 have S':=S.adf (ub:=false) (sz:=sz) (rows:=[]) (w':=w) (h':=.slice base 0 0) (Nat.le_refl _) (fun _ _=>rfl) (fun _=>rfl) ⟨rfl,rfl⟩ (by
  intro b hb;cases base<;>simp [j5.block]at hb) (fun E' _ _=>⟨base,0,rfl,Nat.le_refl _,fun _=>rfl,by simp,fun b _ h0=>absurd rfl h0⟩)
 refine⟨(fun k=>if k=J.heap.length then .slice base 0 0 else U k),?_⟩;have hl':(J.heap++[j5.lR false sz []])[l]? =some (.cells cs):=by grind
 have S2:=S'.aHA (l:=l) (cs:=cs) (ds:=cs.set off (.lR J.heap.length 0)) hl' (by
  intro b2 c2 t2 h3 h4 r
  have e1:b2=b:=by
   grind
  subst e1;rw[show w.heap[b2]? =some (.cells c t (0,0))from hh]at h4;simp only[eZ,Obj.cells.injEq]at h4;obtain⟨rfl,_⟩:=h4
  have aCd:=kP.set (i:=off) (c:=.lR J.heap.length 0) (v:=.slice base 0 0) r ⟨by simp [qC.env],⟨_,_,_,rfl⟩,fun k hk=>by
   grind [qC.env]⟩
  grind [fj])
 grind
def axU(l off sz:Nat)(b:Bool)(J:jS):jS:=
 match J.heap[l]? with
 |some (.cells cs)=>match cs[off]? with
  |some (.kF true _ [])=>{j9:=J.j9,heap:=J.heap.set l (.cells (cs.set off (.lR J.heap.length 0)))++[.lR b sz []],low:=J.low,df:=J.df}
  |_=>J
 |_=>J
def aF8 {off sz:Nat}:Lb J (axU l off sz b J):=by
 unfold axU;split
 ·rename_i cs hl;split
  ·rename_i s hc;cases b with
   |false=>exact aDG hl hc
   |true=>exact awn hl hc
  ·exact Lb.refl J
 ·exact Lb.refl J
end aHz
def aIs:List (List Nat×Nat×Nat×Nat×Bool)->List Nat->jS->jS
 |[],_,J=>J
 |(q,l,o,z,b)::t,p,J=>if p=q then axU l o z b J else aIs t p J
def aEW:∀{t:List (List Nat×Nat×Nat×Nat×Bool)}{p:List Nat}{J:jS},Lb J (aIs t p J)
 |[],_,_=>Lb.refl _
 |(q,l,o,z,b)::t,p,J=>by
  unfold aIs;split
  ·exact aF8
  ·exact aEW
def as5(fs:List (List Nat×List Nat))(gs:List (List Nat×Nat×Nat×Nat×Bool))(p:List Nat)(J:jS):Option jS:=(Mh fs p J).map (aIs gs p)
def aIt(fs:List (List Nat×List Nat))(gs:List (List Nat×Nat×Nat×Nat×Bool)):∀p J J',as5 fs gs p J=some J'->Lb J J':=by
 intro p J J' h;simp only[as5,fa]at h;obtain⟨J1,h1,rfl⟩:=h;exact(pI _ _ _ _ h1).trans aEW
def gdM{f:Func}{gm:List (List Nat×Nat×Nat×Nat×Bool)}
 (a:∀f args J r H',cl f args (jS.heap J)=some (r,H')->BB P f args J (fun o F7=>o=.ret r/\F7=H')) (d:∀f args r,cd f args=some r->I5 P f args (fun v=>v=r))
 (y:∀l args J r H',cy l args (jS.heap J)=some (r,H')->PP P l args J (fun o F7=>o=.ret r/\F7=H'):=by exact rK) (e:∀f args J e,ce f args (jS.heap J)=some e->IF P f args J e:=by exact rL)
 (p:∀f args J o H',cp f args (jS.heap J)=some (o,H')->BB P f args J (fun o' F7=>o'=o/\F7=H'):=by exact sA)
 (c:∀f args J,(∀e,co f args (jS.heap J)=some (.ret e)->IF P f args J e)/\∀x H',co f args J.heap=some (.pan x H')->asj P f args J.heap x H':=by exact rX):
 Fw (nh P f n out cl cd (oz nl) (as5 cu gm) wx cp rk uz co uC ce js cy):=⟨a,d,pd _,aIt _ _,y,e,p,c⟩
attribute [go_sem] aIs as5 axU
section

abbrev anm(M:kK R)(p q:List Nat):Prop:=so M p=true/\so M q=true
abbrev aIu(M:kK R)(p q r:List Nat):Prop:=so M p=true/\so M q=true/\so M r=true
abbrev aF9(M:kK R)(p q r s:List Nat):Prop:=so M p=true/\so M q=true/\so M r=true/\so M s=true
abbrev auY(M:kK R)(p:List Nat)(a b c d:Nat):Prop:=Mt M p a b=true/\Mt M p c d=true
abbrev aDH(M:kK R)(p:List Nat)(a b c d e f:Nat):Prop:=Mt M p a b=true/\Mt M p c d=true/\Mt M p e f=true
abbrev xR(M:kK R)(p:List Nat)(a b c d e f g h:Nat):Prop:=Mt M p a b=true/\Mt M p c d=true/\Mt M p e f=true/\Mt M p g h=true
end
def mB {p:O->Prop} (x:Subtype p:=by
    apply _root_.Subtype.mk
    repeat intro
    simp (config:={maxSteps:=100000000}) only[go_sem,_root_.Nat.reduceAdd,_root_.Nat.reduceSub,_root_.Nat.reduceLeDiff,_root_.Nat.reduceEqDiff,_root_.Nat.reduceBEq,_root_.Nat.reduceMul,_root_.Nat.reduceLT,_root_.Int.reduceLE,_root_.Int.reduceLT,_root_.Int.reduceToNat,_root_.Int.reduceBEq,_root_.Int.reduceEq,_root_.Option.getD_some,mixed, *];exact rfl):Subtype p:=x
def mB2 {p:O->Prop} (x:Subtype p:=by
    apply _root_.Subtype.mk
    repeat intro
    simp (config:={maxSteps:=100000000})-implicitDefEqProofs only[go_sem,_root_.Nat.reduceAdd,_root_.Nat.reduceSub,_root_.Nat.reduceLeDiff,_root_.Nat.reduceEqDiff,_root_.Nat.reduceBEq,_root_.Nat.reduceMul,_root_.Nat.reduceLT,_root_.Int.reduceLE,_root_.Int.reduceLT,_root_.Int.reduceToNat,_root_.Int.reduceBEq,_root_.Int.reduceEq,_root_.Option.getD_some,mixed, *];exact rfl):Subtype p:=x
section
variable {O2 W2:Type}
abbrev OKC(P:aRP)(g:aRO)(aRs:AL W)(t:Ty R)(F:Nat->W->Option R):Prop:=∀n a r,F n a=some r->I5 P g (aRs.enc (fun _=>0) a) (fun v=>v=t.enc r)
variable {g:aRO} {T0 T1 T2 T3 T4 T5:Type} {t:Ty R}
def c0{F:Nat->Unit->Option R}(h:OKC P g kJ t F)(n:Nat):∀r,F n ()=some r->I5 P g [] (fun v=>v=t.enc r):=fun r=>h n () r
def c1{e0:Ty T0}{F:Nat->T0×Unit->Option R}(h:OKC P g (lW e0 kJ) t F)(n:Nat):∀x r,F n (x,())=some r->I5 P g [e0.enc x] (fun v=>v=t.enc r):=fun x r=>h n (x,()) r
def c2{e0:Ty T0}{e1:Ty T1}{F:Nat->T0×T1×Unit->Option R}(h:OKC P g (lW e0 (lW e1 kJ)) t F)(n:Nat):∀x y r,F n (x,y,())=some r->I5 P g [e0.enc x,e1.enc y] (fun v=>v=t.enc r):=fun x y r=>h n (x,y,()) r
def c3{e0:Ty T0}{e1:Ty T1}{e2:Ty T2}{F:Nat->T0×T1×T2×Unit->Option R}(h:OKC P g (lW e0 (lW e1 (lW e2 kJ))) t F)(n:Nat):∀x y z r,F n (x,y,z,())=some r->I5 P g [e0.enc x,e1.enc y,e2.enc z] (fun v=>v=t.enc r):=fun x y z r=>h n (x,y,z,()) r
def c4{e0:Ty T0}{e1:Ty T1}{e2:Ty T2}{e3:Ty T3}{F:Nat->T0×T1×T2×T3×Unit->Option R}(h:OKC P g (lW e0 (lW e1 (lW e2 (lW e3 kJ)))) t F)(n:Nat):∀x y z u r,F n (x,y,z,u,())=some r->I5 P g [e0.enc x,e1.enc y,e2.enc z,e3.enc u] (fun v=>v=t.enc r):=fun x y z u r=>h n (x,y,z,u,()) r
def c5{e0:Ty T0}{e1:Ty T1}{e2:Ty T2}{e3:Ty T3}{e4:Ty T4}{F:Nat->T0×T1×T2×T3×T4×Unit->Option R}(h:OKC P g (lW e0 (lW e1 (lW e2 (lW e3 (lW e4 kJ))))) t F)(n:Nat):∀x y z u v r,F n (x,y,z,u,v,())=some r->I5 P g [e0.enc x,e1.enc y,e2.enc z,e3.enc u,e4.enc v] (fun w=>w=t.enc r):=fun x y z u v r=>h n (x,y,z,u,v,()) r
def c6{e0:Ty T0}{e1:Ty T1}{e2:Ty T2}{e3:Ty T3}{e4:Ty T4}{e5:Ty T5}{F:Nat->T0×T1×T2×T3×T4×T5×Unit->Option R}(h:OKC P g (lW e0 (lW e1 (lW e2 (lW e3 (lW e4 (lW e5 kJ)))))) t F)(n:Nat):∀x y z u v w r,F n (x,y,z,u,v,w,())=some r->I5 P g [e0.enc x,e1.enc y,e2.enc z,e3.enc u,e4.enc v,e5.enc w] (fun q=>q=t.enc r):=fun x y z u v w r=>h n (x,y,z,u,v,w,()) r
end
abbrev LB(G:List Kt->W->Prop)(p:List Nat)(K:List Kt):Type:={B:W->W //∀m X,G (.lq m p::K) X->G (.at (0::p)::.lp m p::K) (B X)}
abbrev LB2(G0:List Kt->O->Prop)(p0:List Nat)(K0:List Kt)(G:List Kt->W->Prop)(p:List Nat)(K:Nat->List Kt):Type:={B:O->W->W //∀n aQU m X,G0 (.lq n p0::K0) aQU->G (.lq m p::K n) X->G (.at (0::p)::.lp m p::K n) (B aQU X)}
def vi[Fu W](b:LB G p K)(L:Nat->W)(m:Nat)(hL:L=ui b.1:=by rfl)
 (h0:G (.lq 0 p::K) Fu.z:=by repeat intro
                             exact Li) (hs:∀m Z,G (.at (0::p)::.lp m p::K) Z->G (.lq (m+1) p::K) Z:=by
   intro m Z h
   repeat intro
   first
    |exact D3.trans (h ..)
    |(refine D3.trans ?_;apply h<;>assumption)):G (.lq m p::K) (L m):=hL ▸ aDF (G:=fun m Z=>G (.lq m p::K) Z) h0 (fun m X h=>hs m _ (b.2 m X h)) m
def aDI[Fu W]{G0:List Kt->O->Prop}{p0:List Nat}{K0:List Kt}{K:Nat->List Kt}(b:LB2 G0 p0 K0 G p K){aQU:O}(h:G0 (.lq n p0::K0) aQU)(L:Nat->W)(m:Nat)(hL:L=ui (b.1 aQU):=by rfl)
 (h0:G (.lq 0 p::K n) Fu.z:=by repeat intro
                               exact Li) (hs:∀m Z,G (.at (0::p)::.lp m p::K n) Z->G (.lq (m+1) p::K n) Z:=by
   intro m Z h
   repeat intro
   first
    |exact D3.trans (h ..)
    |(refine D3.trans ?_;apply h<;>assumption)):G (.lq m p::K n) (L m):=hL ▸ aDF (G:=fun m Z=>G (.lq m p::K n) Z) h0 (fun m X h'=>hs m _ (b.2 n aQU m X h h')) m
section
variable {T0 T1 T2 T3 T4 T5:Type}
abbrev SC0(M:kK R)(N:Nat):Type:={B:Option R // run M [.at []] (ini [] N)=B}
abbrev aGa(P:aRP)(g:aRO)(t:Ty R)(F:Option R):Prop:=∀r,F=some r->I5 P g [] (fun v=>v=t.enc r)
abbrev Jx(M:kK R)(t0:Ty T0)(N:Nat):Type:={B:T0->Option R //∀a,run M [.at []] (ini [t0.enc a] N)=B a}
abbrev uj(P:aRP)(g:aRO)(t0:Ty T0)(t:Ty R)(F:T0->Option R):Prop:=∀a r,F a=some r->I5 P g [t0.enc a] (fun v=>v=t.enc r)
abbrev Ll(M:kK R)(t0:Ty T0)(t1:Ty T1)(N:Nat):Type:={B:T0->T1->Option R //∀a b,run M [.at []] (ini [t0.enc a,t1.enc b] N)=B a b}
abbrev uu(P:aRP)(g:aRO)(t0:Ty T0)(t1:Ty T1)(t:Ty R)(F:T0->T1->Option R):Prop:=∀a b r,F a b=some r->I5 P g [t0.enc a,t1.enc b] (fun v=>v=t.enc r)
abbrev SC3(M:kK R)(t0:Ty T0)(t1:Ty T1)(t2:Ty T2)(N:Nat):Type:={B:T0->T1->T2->Option R //∀a b c,run M [.at []] (ini [t0.enc a,t1.enc b,t2.enc c] N)=B a b c}
abbrev auZ(P:aRP)(g:aRO)(t0:Ty T0)(t1:Ty T1)(t2:Ty T2)(t:Ty R)(F:T0->T1->T2->Option R):Prop:=∀a b c r,F a b c=some r->I5 P g [t0.enc a,t1.enc b,t2.enc c] (fun v=>v=t.enc r)
abbrev SC4(M:kK R)(t0:Ty T0)(t1:Ty T1)(t2:Ty T2)(t3:Ty T3)(N:Nat):Type:={B:T0->T1->T2->T3->Option R //∀a b c d,run M [.at []] (ini [t0.enc a,t1.enc b,t2.enc c,t3.enc d] N)=B a b c d}
abbrev aDJ(P:aRP)(g:aRO)(t0:Ty T0)(t1:Ty T1)(t2:Ty T2)(t3:Ty T3)(t:Ty R)(F:T0->T1->T2->T3->Option R):Prop:=∀a b c d r,F a b c d=some r->I5 P g [t0.enc a,t1.enc b,t2.enc c,t3.enc d] (fun v=>v=t.enc r)
abbrev SC5(M:kK R)(t0:Ty T0)(t1:Ty T1)(t2:Ty T2)(t3:Ty T3)(t4:Ty T4)(N:Nat):Type:={B:T0->T1->T2->T3->T4->Option R //∀a b c d e,run M [.at []] (ini [t0.enc a,t1.enc b,t2.enc c,t3.enc d,t4.enc e] N)=B a b c d e}
abbrev aKP(P:aRP)(g:aRO)(t0:Ty T0)(t1:Ty T1)(t2:Ty T2)(t3:Ty T3)(t4:Ty T4)(t:Ty R)(F:T0->T1->T2->T3->T4->Option R):Prop:=∀a b c d e r,F a b c d e=some r->I5 P g [t0.enc a,t1.enc b,t2.enc c,t3.enc d,t4.enc e] (fun v=>v=t.enc r)
abbrev SC6(M:kK R)(t0:Ty T0)(t1:Ty T1)(t2:Ty T2)(t3:Ty T3)(t4:Ty T4)(t5:Ty T5)(N:Nat):Type:={B:T0->T1->T2->T3->T4->T5->Option R //∀a b c d e f,run M [.at []] (ini [t0.enc a,t1.enc b,t2.enc c,t3.enc d,t4.enc e,t5.enc f] N)=B a b c d e f}
abbrev aOR(P:aRP)(g:aRO)(t0:Ty T0)(t1:Ty T1)(t2:Ty T2)(t3:Ty T3)(t4:Ty T4)(t5:Ty T5)(t:Ty R)(F:T0->T1->T2->T3->T4->T5->Option R):Prop:=∀a b c d e f r,F a b c d e f=some r->I5 P g [t0.enc a,t1.enc b,t2.enc c,t3.enc d,t4.enc e,t5.enc f] (fun v=>v=t.enc r)
variable {fn:Func} {m:Nat} {qj:List Nat->jS->Option jS} {cut:List Nat->jS->Option jS}
 {uz:aRO->Bool} {co:aRO->List AV->List j5->Option CO} {uC:aRO->Bool} {ce:aRO->List AV->List j5->Option vF} {js:List Nat->List (Int×Code)} {cy:Nat->List AV->List j5->Option (AV×List j5)} {k:Nat} {g:aRO} {rs:List ResultVar} {p1 p2:List XC} {b1 b2:List Nat} {low:Nat} {t:Ty R} {t0:Ty T0} {t1:Ty T1} {t2:Ty T2} {t3:Ty T3} {t4:Ty T4} {t5:Ty T5}
def aMW(w:SC0 (nh P fn m (l1 P rs t) cl cd qj cut wx cp (fun _ _=>none) uz co uC ce js cy) k)(G:Fw (nh P fn m (l1 P rs t) cl cd qj cut wx cp (fun _ _=>none) uz co uC ce js cy))(hf:P.funcs[g]? =some fn)(hn:fn.ntmps=k)(KO:fn.results=rs.toArray)(hb:fn.body=some (fn.body.getD .skip):=by exact rfl)(sv:(fn.name != "runtime.NumGoroutine")=true:=by exact rfl):aGa P g t w.1:=
 fun r h=>okC (w.2.trans h) G hf trivial hn KO hb sv
def aMX{F:Nat->Option R}(h:∀n,aGa P g t (F (n+1)))(h0:F 0=none:=by intros;rfl):∀n,aGa P g t (F n)
 |0=>fun r h=>by rw[h0]at h;cases h
 |n+1=>h n
def uU(w:Jx (nh P fn m (l1 P rs t) cl cd qj cut wx cp (fun _ _=>none) uz co uC ce js cy) t0 k)(G:Fw (nh P fn m (l1 P rs t) cl cd qj cut wx cp (fun _ _=>none) uz co uC ce js cy))(hf:P.funcs[g]? =some fn)(hn:fn.ntmps=k)(KO:fn.results=rs.toArray)(hb:fn.body=some (fn.body.getD .skip):=by exact rfl)(sv:(fn.name != "runtime.NumGoroutine")=true:=by exact rfl):uj P g t0 t w.1:=
 fun a r h=>okC ((w.2 a).trans h) G hf ⟨t0.nb 0 _,trivial⟩ hn KO hb sv
def ww{F:Nat->T0->Option R}(h:∀n,uj P g t0 t (F (n+1)))(h0:∀a,F 0 a=none:=by intros;rfl):∀n,uj P g t0 t (F n)
 |0=>fun a r h=>by rw[h0]at h;cases h
 |n+1=>h n
def we(w:Ll (nh P fn m (l1 P rs t) cl cd qj cut wx cp (fun _ _=>none) uz co uC ce js cy) t0 t1 k)(G:Fw (nh P fn m (l1 P rs t) cl cd qj cut wx cp (fun _ _=>none) uz co uC ce js cy))(hf:P.funcs[g]? =some fn)(hn:fn.ntmps=k)(KO:fn.results=rs.toArray)(hb:fn.body=some (fn.body.getD .skip):=by exact rfl)(sv:(fn.name != "runtime.NumGoroutine")=true:=by exact rfl):uu P g t0 t1 t w.1:=
 fun a b r h=>okC ((w.2 a b).trans h) G hf ⟨t0.nb 0 _,t1.nb 0 _,trivial⟩ hn KO hb sv
def yu{F:Nat->T0->T1->Option R}(h:∀n,uu P g t0 t1 t (F (n+1)))(h0:∀a b,F 0 a b=none:=by intros;rfl):∀n,uu P g t0 t1 t (F n)
 |0=>fun a b r h=>by rw[h0]at h;cases h
 |n+1=>h n
def aDK(w:SC3 (nh P fn m (l1 P rs t) cl cd qj cut wx cp (fun _ _=>none) uz co uC ce js cy) t0 t1 t2 k)(G:Fw (nh P fn m (l1 P rs t) cl cd qj cut wx cp (fun _ _=>none) uz co uC ce js cy))(hf:P.funcs[g]? =some fn)(hn:fn.ntmps=k)(KO:fn.results=rs.toArray)(hb:fn.body=some (fn.body.getD .skip):=by exact rfl)(sv:(fn.name != "runtime.NumGoroutine")=true:=by exact rfl):auZ P g t0 t1 t2 t w.1:=
 fun a b c r h=>okC ((w.2 a b c).trans h) G hf ⟨t0.nb 0 _,t1.nb 0 _,t2.nb 0 _,trivial⟩ hn KO hb sv
def aIv{F:Nat->T0->T1->T2->Option R}(h:∀n,auZ P g t0 t1 t2 t (F (n+1)))(h0:∀a b c,F 0 a b c=none:=by intros;rfl):∀n,auZ P g t0 t1 t2 t (F n)
 |0=>fun a b c r h=>by rw[h0]at h;cases h
 |n+1=>h n
def aKQ(w:SC4 (nh P fn m (l1 P rs t) cl cd qj cut wx cp (fun _ _=>none) uz co uC ce js cy) t0 t1 t2 t3 k)(G:Fw (nh P fn m (l1 P rs t) cl cd qj cut wx cp (fun _ _=>none) uz co uC ce js cy))(hf:P.funcs[g]? =some fn)(hn:fn.ntmps=k)(KO:fn.results=rs.toArray)(hb:fn.body=some (fn.body.getD .skip):=by exact rfl)(sv:(fn.name != "runtime.NumGoroutine")=true:=by exact rfl):aDJ P g t0 t1 t2 t3 t w.1:=
 fun a b c d r h=>okC ((w.2 a b c d).trans h) G hf ⟨t0.nb 0 _,t1.nb 0 _,t2.nb 0 _,t3.nb 0 _,trivial⟩ hn KO hb sv
def aMY{F:Nat->T0->T1->T2->T3->Option R}(h:∀n,aDJ P g t0 t1 t2 t3 t (F (n+1)))(h0:∀a b c d,F 0 a b c d=none:=by intros;rfl):∀n,aDJ P g t0 t1 t2 t3 t (F n)
 |0=>fun a b c d r h=>by rw[h0]at h;cases h
 |n+1=>h n
def aP6(w:SC5 (nh P fn m (l1 P rs t) cl cd qj cut wx cp (fun _ _=>none) uz co uC ce js cy) t0 t1 t2 t3 t4 k)(G:Fw (nh P fn m (l1 P rs t) cl cd qj cut wx cp (fun _ _=>none) uz co uC ce js cy))(hf:P.funcs[g]? =some fn)(hn:fn.ntmps=k)(KO:fn.results=rs.toArray)(hb:fn.body=some (fn.body.getD .skip):=by exact rfl)(sv:(fn.name != "runtime.NumGoroutine")=true:=by exact rfl):aKP P g t0 t1 t2 t3 t4 t w.1:=
 fun a b c d e r h=>okC ((w.2 a b c d e).trans h) G hf ⟨t0.nb 0 _,t1.nb 0 _,t2.nb 0 _,t3.nb 0 _,t4.nb 0 _,trivial⟩ hn KO hb sv
def aP7{F:Nat->T0->T1->T2->T3->T4->Option R}(h:∀n,aKP P g t0 t1 t2 t3 t4 t (F (n+1)))(h0:∀a b c d e,F 0 a b c d e=none:=by intros;rfl):∀n,aKP P g t0 t1 t2 t3 t4 t (F n)
 |0=>fun a b c d e r h=>by rw[h0]at h;cases h
 |n+1=>h n
def aP8(w:SC6 (nh P fn m (l1 P rs t) cl cd qj cut wx cp (fun _ _=>none) uz co uC ce js cy) t0 t1 t2 t3 t4 t5 k)(G:Fw (nh P fn m (l1 P rs t) cl cd qj cut wx cp (fun _ _=>none) uz co uC ce js cy))(hf:P.funcs[g]? =some fn)(hn:fn.ntmps=k)(KO:fn.results=rs.toArray)(hb:fn.body=some (fn.body.getD .skip):=by exact rfl)(sv:(fn.name != "runtime.NumGoroutine")=true:=by exact rfl):aOR P g t0 t1 t2 t3 t4 t5 t w.1:=
 fun a b c d e f r h=>okC ((w.2 a b c d e f).trans h) G hf ⟨t0.nb 0 _,t1.nb 0 _,t2.nb 0 _,t3.nb 0 _,t4.nb 0 _,t5.nb 0 _,trivial⟩ hn KO hb sv
end
section
variable {O2 W2 Φ:Type}
abbrev SX(M:kK R)(aRs:AL γ)(os:OL O)(N:Nat)(u:Φ->O->γ->Option R):Type:={B:Φ //∀b a,run M [.at []] (axT aRs os b a N)=u B b a}
abbrev zt(P:aRP)(g:aRO)(aRs:AL γ)(os:OL O)(vb:OL O1)(s:AL W)(F:O->γ->Option (O1×W)):Prop:=∀b a r,F b a=some r->SG P g aRs os b a vb s r
abbrev tN(P:aRP)(g:aRO)(aRs:AL γ)(os:OL O)(pk:Bool)(vb:OL O1)(s1:AL W1)(Cx:OL O2)(s2:AL W2)(F:O->γ->Option (PR (O1×W1) (O2×W2))):Prop:=∀b a r,F b a=some r->SP P g aRs os b a pk vb s1 Cx s2 r
variable {fn:Func} {m:Nat} {qj:List Nat->jS->Option jS} {cut:List Nat->jS->Option jS}
 {uz:aRO->Bool} {co:aRO->List AV->List j5->Option CO} {uC:aRO->Bool} {ce:aRO->List AV->List j5->Option vF} {js:List Nat->List (Int×Code)} {cy:Nat->List AV->List j5->Option (AV×List j5)} {k:Nat} {g:aRO} {rs:List ResultVar} {p1 p2:List XC} {b1 b2:List Nat} {low:Nat}
 {aRs:AL γ} {os:OL O} {os0:OL O1} {s:AL W} {vb:OL O1} {BE:AL W1} {Cx:OL O2} {Lj:AL W2} {c:XD}
def GC{u:Φ->O->γ->Option (O1×W)}(e:SX (nh P fn m (w9 P rs p1 b1 low os0 s) cl cd qj cut wx cp (fun _ _=>none) uz co uC ce js cy) aRs os k u)(G:Fw (nh P fn m (w9 P rs p1 b1 low os0 s) cl cd qj cut wx cp (fun _ _=>none) uz co uC ce js cy))(hf:P.funcs[g]? =some fn)(hn:fn.ntmps=k)(KO:fn.results=rs.toArray)(h1:decide (aRs.me<=os.size)=true:=by kernel_rfl)(h2:decide (os.me<=os.size)=true:=by kernel_rfl)(hb1:b1=fb low:=by exact rfl)(hb:fn.body=some (fn.body.getD .skip):=by exact rfl)(sv:(fn.name != "runtime.NumGoroutine")=true:=by exact rfl):zt P g aRs os os0 s (u e.1):=fun b a r h=>okG ((e.2 b a).trans h) G hf hn KO h1 h2 hb1 hb sv
def Ei{u:Φ->O->γ->Option (PR (O1×W1) (O2×W2))}(e:SX (nh P fn m (qL P rs p1 b1 low vb BE) cl cd qj cut wx cp (qM p2 b2 low Cx Lj) uz co uC ce js cy) aRs os k u)(G:Fw (nh P fn m (qL P rs p1 b1 low vb BE) cl cd qj cut wx cp (qM p2 b2 low Cx Lj) uz co uC ce js cy))(hf:P.funcs[g]? =some fn)(hn:fn.ntmps=k)(KO:fn.results=rs.toArray)(h1:decide (aRs.me<=os.size)=true:=by kernel_rfl)(h2:decide (os.me<=os.size)=true:=by kernel_rfl)(zr: ∀b a,∃y,Lj.enc (Cx.mg b) a=[y]:=by exact fun b a=>⟨_,rfl⟩)(hb1:b1=fb low:=by exact rfl)(hb2:b2=fb low:=by exact rfl)(hb:fn.body=some (fn.body.getD .skip):=by exact rfl)(sv:(fn.name != "runtime.NumGoroutine")=true:=by exact rfl):tN P g aRs os true vb BE Cx Lj (u e.1):=fun b a r h=>okP ((e.2 b a).trans h) G hf hn KO h1 h2 zr hb1 hb2 hb sv
def aOS{u:Φ->O->γ->Option (PR (O1×W1) (O2×W2))}(e:SX (nh P fn m (anh P rs p1 b1 low vb BE p2 Cx Lj) cl cd qj cut wx cp (fun _ _=>none) uz co uC ce js cy) aRs os k u)(G:Fw (nh P fn m (anh P rs p1 b1 low vb BE p2 Cx Lj) cl cd qj cut wx cp (fun _ _=>none) uz co uC ce js cy))(hf:P.funcs[g]? =some fn)(hn:fn.ntmps=k)(KO:fn.results=rs.toArray)(h1:decide (aRs.me<=os.size)=true:=by kernel_rfl)(h2:decide (os.me<=os.size)=true:=by kernel_rfl)(hb1:b1=fb low:=by exact rfl)(hb:fn.body=some (fn.body.getD .skip):=by exact rfl)(sv:(fn.name != "runtime.NumGoroutine")=true:=by exact rfl):tN P g aRs os false vb BE Cx Lj (u e.1):=fun b a r h=>okS ((e.2 b a).trans h) G hf hn KO h1 h2 hb1 hb sv
def aLD{u:Φ->O->γ->Option (PR (O1×W1) (O2×W2))}(hc:aIm P c)(e:SX (nh P fn m (as2 c (qL P rs p1 b1 low vb BE) (qM p2 b2 low Cx Lj)) cl cd qj cut wx cp (as3 c (qL P rs p1 b1 low vb BE) (qM p2 b2 low Cx Lj)) uz co uC ce js cy) aRs os k u)(G:Fw (nh P fn m (as2 c (qL P rs p1 b1 low vb BE) (qM p2 b2 low Cx Lj)) cl cd qj cut wx cp (as3 c (qL P rs p1 b1 low vb BE) (qM p2 b2 low Cx Lj)) uz co uC ce js cy))(hf:P.funcs[g]? =some fn)(hn:fn.ntmps=k)(KO:fn.results=rs.toArray)(h1:decide (aRs.me<=os.size)=true:=by kernel_rfl)(h2:decide (os.me<=os.size)=true:=by kernel_rfl)(zr: ∀b a,∃y,Lj.enc (Cx.mg b) a=[y]:=by exact fun b a=>⟨_,rfl⟩)(hb1:b1=fb low:=by exact rfl)(hb2:b2=fb low:=by exact rfl)(hb:fn.body=some (fn.body.getD .skip):=by exact rfl)(sv:(fn.name != "runtime.NumGoroutine")=true:=by exact rfl):tN P g aRs os true vb BE Cx Lj (u e.1):=fun b a r h=>aP5 hc ((e.2 b a).trans h) G hf hn KO h1 h2 zr hb1 hb2 hb sv
def VX{u:Φ->O->γ->Option (O1×W)}{F:Nat->Φ}(h:∀n,zt P g aRs os vb s (u (F (n+1))))(h0:∀b a,u (F 0) b a=none:=by intros;rfl):∀n,zt P g aRs os vb s (u (F n))
 |0=>fun b a r h=>by rw[h0]at h;cases h
 |n+1=>h n
def adx{u:Φ->O->γ->Option (PR (O1×W1) (O2×W2))}{F:Nat->Φ}(h:∀n,tN P g aRs os pk vb BE Cx Lj (u (F (n+1))))(h0:∀b a,u (F 0) b a=none:=by intros;rfl):∀n,tN P g aRs os pk vb BE Cx Lj (u (F n))
 |0=>fun b a r h=>by rw[h0]at h;cases h
 |n+1=>h n
end
def mC {p:O->Prop} (x:Subtype p:=by
    apply _root_.Subtype.mk
    repeat (first|refine _root_.Prod.forall.2 ?_|intro)
    simp (config:={maxSteps:=100000000}) only[go_sem,_root_.Nat.reduceAdd,_root_.Nat.reduceSub,_root_.Nat.reduceLeDiff,_root_.Nat.reduceEqDiff,_root_.Nat.reduceBEq,_root_.Nat.reduceMul,_root_.Nat.reduceLT,_root_.Int.reduceLE,_root_.Int.reduceLT,_root_.Int.reduceToNat,_root_.Int.reduceBEq,_root_.Int.reduceEq,_root_.Option.getD_some,mixed, *];exact rfl):Subtype p:=x
def mC2 {p:O->Prop} (x:Subtype p:=by
    apply _root_.Subtype.mk
    repeat (first|refine _root_.Prod.forall.2 ?_|intro)
    simp (config:={maxSteps:=100000000})-implicitDefEqProofs only[go_sem,_root_.Nat.reduceAdd,_root_.Nat.reduceSub,_root_.Nat.reduceLeDiff,_root_.Nat.reduceEqDiff,_root_.Nat.reduceBEq,_root_.Nat.reduceMul,_root_.Nat.reduceLT,_root_.Int.reduceLE,_root_.Int.reduceLT,_root_.Int.reduceToNat,_root_.Int.reduceBEq,_root_.Int.reduceEq,_root_.Option.getD_some,mixed, *];exact rfl):Subtype p:=x
def qn.bnd{f:Fn}{xs:List AV}(h:qn xs ys):OB (.func f xs []) (.func f ys []):=by
 rintro E v ⟨a,b,rfl,h1,h2⟩;exact⟨a,b,rfl,h E _ h1,h2⟩
section

def aKR(f:aRO)(c:VL γ)(s:VL δ)(Y:List Nat)(L:Eg):List AV->Option (γ×δ)
 |.func (.func f') cs []::xs=>bif decide (f'=f)then(c.mH Y L cs).bind fun y=>(s.mH Y L xs).bind fun a=>some (y,a)else none
 |_=>none
def vlB (f:aRO) (c:VL γ) (s:VL δ):VL (γ×δ) where
 enc L g:=.func (.func f) (c.enc L g.1) []::s.enc L g.2
 mH:=aKR f c s
 me:=max c.me s.me
 nb L g:=⟨⟨sy (by omega) _ (c.nb L g.1),trivial⟩,sy (by omega) _ (s.nb L g.2)⟩
 ok Y L vs g h:=by
  unfold aKR at h;split at h
  ·rename_i f' cs xs;cases hc:decide (f'=f)with
   |false=>simp [hc]at h
   |true=>
    simp only[hc,jE,eY,eZ]at h;obtain⟨y,hy,a,ha,rfl⟩:=h;obtain rfl:=jI hc;refine qn.cons ?_ (s.ok Y L _ _ ha);simp only[AV.qo,s6];exact(qn.bnd (c.ok Y L _ _ hy))
  ·cases h
def aKS(f:aRO)(c:VL γ)(s:AL δ)(Y:List Nat)(L:Eg)(H:List j5):List AV->Option (γ×δ)
 |.func (.func f') cs []::xs=>bif decide (f'=f)then(c.mH Y L cs).bind fun y=>(s.mH Y L H xs).bind fun a=>some (y,a)else none
 |_=>none
def alB (f:aRO) (c:VL γ) (s:AL δ):AL (γ×δ) where
 enc L g:=.func (.func f) (c.enc L g.1) []::s.enc L g.2
 mH:=aKS f c s
 me:=max c.me s.me
 nb L g:=⟨⟨sy (by omega) _ (c.nb L g.1),trivial⟩,sy (by omega) _ (s.nb L g.2)⟩
 ok Y L H n vs g hv h:=by
  unfold aKS at h;split at h
  ·rename_i f' cs xs;cases hc:decide (f'=f)with
   |false=>simp [hc]at h
   |true=>
    simp only[hc,jE,eY,eZ]at h;obtain⟨y,hy,a,ha,rfl⟩:=h;obtain rfl:=jI hc;refine Aq.cons ?_ (s.ok Y L H n _ _ (hv.mono (by omega)) ha);simp only[AV.qo,s6];exact Co.sub (qn.bnd (c.ok Y L _ _ hy)) ⟨ads (hv.mono (a:=c.me) (by omega)).lt _ (c.nb L y),trivial⟩
  ·cases h
def aOT{c:VL γ}{s:VL δ}:(∀L g,(vlB f c s).enc L g=.func (.func f) (c.enc L g.1) []::s.enc L g.2)/\∀Y L xs,(vlB f c s).mH Y L xs=aKR f c s Y L xs:=⟨fun _ _=>rfl,fun _ _ _=>rfl⟩
def aOU{c:VL γ}{s:AL δ}:(∀L g,(alB f c s).enc L g=.func (.func f) (c.enc L g.1) []::s.enc L g.2)/\(∀Y L H xs,(alB f c s).mH Y L H xs=aKS f c s Y L H xs)/\(alB f c s).me=max c.me s.me:=⟨fun _ _=>rfl,fun _ _ _ _=>rfl,rfl⟩
def aOV{c:VL γ}{s:VL δ}:(vlB f c s).me=max c.me s.me:=rfl
def aKT(f:aRO)(a:Ty W):AV->Option W
 |.func (.func g) [x] []=>if g=f then a.mH [] x else none
 |_=>none
def as6(f:aRO)(a:Ty W):Ty W where
 enc x:=.func (.func f) [a.enc x] []
 mH _:=aKT f a
 ok H n v x h:=by
  unfold aKT at h;split at h
  ·split at h
   ·rename_i e;subst e;exact Co.sub (OB.func (qn.cons (a.ok [] 0 _ _ h).nG qn.nil) qn.nil) ⟨⟨a.nb n x,trivial⟩,trivial⟩
   ·cases h
  ·cases h
 nb n x:=⟨⟨a.nb n x,trivial⟩,trivial⟩
def aMZ{a:Ty W}:(∀x,(as6 f a).enc x=.func (.func f) [a.enc x] [])/\∀H v,(as6 f a).mH H v=aKT f a v:=⟨fun _=>rfl,fun _ _=>rfl⟩
attribute [go_sem] aOT aOU aOV aKR aKS aKT aMZ
end
def aP9(M:kK R)(K:List Kt)(s:Nat)(J:jS):Option AV->Option R
 |some (.bool b)=>bif b then run M K {J with j9:=J.j9.set s (.bool true)} else run M K {J with j9:=J.j9.set s (.bool false)}
 |_=>run M K J
def aM0{s:Nat}:aP9 M K s J (some (.bool b))=bif b then run M K {J with j9:=J.j9.set s (.bool true)} else run M K {J with j9:=J.j9.set s (.bool false)}:=rfl
attribute [go_sem] aM0
def dbY:j5->Option kj
 |.Jw s=>dS (.str s)
 |_=>none
theorem aDL{x:j5}{s:kj}(h:dbY x=some s):x=.Jw (sb s):=by
 unfold dbY at h;split at h
 ·rename_i u;have h2:s=u.data.toList:=by simp only[dS,eZ]at h;exact h.symm
  subst h2;rfl
 ·cases h
def ogB:OG kj where
 enc _ s:=.Jw (sb s)
 mH _ _ _:=dbY
 len s:=s.length
 me:=0
 nb _ _:=trivial
 ok Y L H n x g _ h:=by rw[aDL h];exact .inr (.inl ⟨rfl,trivial⟩)
 ap7 Y L H x g h:=by
  rw[aDL h];show g.length=(sb g).size;rw[aQN]
def aOW:(∀L g,ogB.enc L g=.Jw (sb g))/\(∀Y L H x,ogB.mH Y L H x=dbY x)/\(∀g,ogB.len g=g.length)/\ogB.me=0:=⟨fun _ _=>rfl,fun _ _ _ _=>rfl,fun _=>rfl,rfl⟩
def oY:ZO:=⟨fun _ _ x=>(dbY x).bind fun s=>some (.Jw (sb s)),fun H n x y h=>by
 simp only[eY,eZ]at h;obtain⟨s,hs,rfl⟩:=h;rw[aDL hs];exact .inr (.inl ⟨rfl,trivial⟩)⟩
def aQa{x:j5}:oY.f H n x=(dbY x).bind fun s=>some (.Jw (sb s)):=rfl
def aOX:dbY (.Jw s)=dS (.str s):=rfl
def aIw:mR (some (.Jw s))=some s.size:=rfl
def aIx:(j5.Jw s).qo τ=.Jw s:=rfl
def aIy:ByteArray.empty=sb []:=rfl
section

def aKU(t k:Nat)(s:AL δ)(Y:List Nat)(L:Eg)(H:List j5):List AV->Option δ
 |.sn t' l::xs=>bif decide (t'=t/\Y[k]? =some l)then s.mH Y L H xs else none
 |_=>none
def alS (t k:Nat) (s:AL δ):AL δ where
 enc L g:=.sn t k::s.enc L g
 mH:=aKU t k s
 me:=max (k+1) s.me
 nb L g:=⟨show k<_ by omega,sy (by omega) _ (s.nb L g)⟩
 ok Y L H n vs g hv h:=by
  unfold aKU at h;split at h
  ·rename_i t' l xs;cases hc:decide (t'=t/\Y[k]? =some l)with
   |false=>simp [hc]at h
   |true=>
    simp only[hc,jE]at h;obtain⟨rfl,hc'⟩:=jI hc;refine Aq.cons ?_ (s.ok Y L H n _ _ (hv.mono (by omega)) h);have hl:=hv.lt k (by omega);simp only[AV.qo];rw[agZ hc']at hl ⊢;exact Co.same hl
  ·cases h
def aOY{t k:Nat}{s:AL δ}:(∀L g,(alS t k s).enc L g=.sn t k::s.enc L g)/\(∀Y L H xs,(alS t k s).mH Y L H xs=aKU t k s Y L H xs)/\(alS t k s).me=max (k+1) s.me:=⟨fun _ _=>rfl,fun _ _ _ _=>rfl,rfl⟩
end
attribute [go_sem] aOW aQa aOX aIw aIx aIy aKU aOY
section
open Go.Proofs Go.Shelf Go.RowKit
variable {Y:Ren}
set_option maxHeartbeats 1000000 in
set_option maxRecDepth 100000 in
def axV(L:Lays.n240 P Y){T:Nat}(hs:(P.info? (Y.t 72)).map (·.size)=some 2)(hl:liesAt P P.depth T (n / P.cellsOf T) 0 (Y.t 72) 1=true)(hn:0<n)
 (b:Nat) (w:aRR) (h0:w.cell? ⟨b,0,none⟩=some (.pointer none)) (hsh:w.shape? b=some (T,n)) (hfz:w.frozen? ⟨b,0,none⟩=false):
 Calls P (Y.f 240) #[.pointer (some ⟨b,0,none⟩)] w fun e w'=>e=.returned (.tuple #[])/\w'=w.setCell ⟨b,0,none⟩ (.pointer (some ⟨b,0,none⟩)):=by
 obtain⟨j,hj,hjs⟩:=fa.1 hs;have mixed:=L.mixed;have t72:=L.t72;have a72:=L.a72;have z72:=L.z72;have v72:=L.v72;have u72:=run_underlying L.t72;have t70:=L.t70;have a70:=L.a70;have z70:=L.z70;have v70:=L.v70;have u70:=run_underlying L.t70;have t9:=L.t9;have a9:=L.a9;have z9:=L.z9;have v9:=L.v9;have u9:=run_underlying L.t9;have t4:=L.t4;have a4:=L.a4;have z4:=L.z4;have v4:=L.v4;have u4:=run_underlying L.t4;have t164:=L.t164;have a164:=L.a164;have z164:=L.z164;have v164:=L.v164;have aQb:=run_underlying L.t164
 go_enter L.f240,Body.n240_ntmps Y
 go_wp2
 rw[Lib.run_to_unsafe w ⟨b,0,none⟩ L.t70 L.t164 hj (by rw[hjs];decide) hsh hn];simp only[Result.andThen];rw[Oper.upon_value]
 go_wp2
 rw[run_callFunc_extern L.f276 (jN) (jN) (jN) (e:=Extern.AbiNoEscape.same) (jN)];rw[Lib.run_noEscape];simp only[Result.andThen];rw[Oper.upon_value]
 go_wp2
 rw[Lib.run_from_unsafe w ⟨b,0,none⟩ L.t164 L.t70 hj hsh hl];simp only[Result.andThen];rw[Oper.upon_value]
 go_wp2
 go_end0
 exact⟨rfl,rfl⟩
def axW(L:Lays.n240 P Y)(hs:(P.info? (Y.t 72)).map (·.size)=some 2)(b:Nat)(w:aRR)(h0:w.cell? ⟨b,0,none⟩=some (.pointer (some ⟨b,0,none⟩))):
 Calls P (Y.f 240) #[.pointer (some ⟨b,0,none⟩)] w fun e w'=>e=.returned (.tuple #[])/\w'=w:=by
 obtain⟨j,hj,_⟩:=fa.1 hs;have mixed:=L.mixed;have t72:=L.t72;have a72:=L.a72;have z72:=L.z72;have v72:=L.v72;have u72:=run_underlying L.t72;have t70:=L.t70;have a70:=L.a70;have z70:=L.z70;have v70:=L.v70;have u70:=run_underlying L.t70;have t9:=L.t9;have a9:=L.a9;have z9:=L.z9;have v9:=L.v9;have u9:=run_underlying L.t9;have t4:=L.t4;have a4:=L.a4;have z4:=L.z4;have v4:=L.v4;have u4:=run_underlying L.t4;have t164:=L.t164;have a164:=L.a164;have z164:=L.z164;have v164:=L.v164;have aQb:=run_underlying L.t164
 go_enter L.f240,Body.n240_ntmps Y
 go_wp2
 rw[Lib.run_neq_ptr_same w _ L.t70 hj]
 go_wp2
 go_end0
 exact⟨rfl,rfl⟩
end
section
open Go.Proofs Go.Shelf Go.RowKit
variable {Y:Ren}
set_option maxHeartbeats 2000000 in
def aGb(L:Lays.n169 P Y)(X:Builder.Extra P Y)(b n cap:Nat)(base q:Option Addr)(s:ByteArray)(w w1 w2:aRR)(c1:w.drew.cell? ⟨b,1,none⟩=some (.slice base n cap))(c2:w1.cell? ⟨b,1,none⟩=some (.slice base n cap))
 (hSD:(Builtin.unsafeSliceData_ #[(Y.t 37)] (Y.t 127) #[.slice base n cap]).run P w.drew=.ok (.pointer q) w1)
 (hUS:(Builtin.unsafeString_ #[(Y.t 127),(Y.t 3)] (Y.t 9) #[.pointer q,.int .i64 n]).run P w1=.ok (.string s) w2):
 Calls P (Y.f 169) #[.pointer (some ⟨b,0,none⟩)] w fun e w'=>e=.returned (.string s)/\w'=w2:=by
 have mixed:=L.mixed;have t72:=L.t72;have a72:=L.a72;have z72:=L.z72;have v72:=L.v72;have u72:=run_underlying L.t72;have t70:=L.t70;have a70:=L.a70;have z70:=L.z70;have v70:=L.v70;have u70:=run_underlying L.t70;have t37:=L.t37;have a37:=L.a37;have z37:=L.z37;have v37:=L.v37;have u37:=run_underlying L.t37;have t127:=L.t127;have a127:=L.a127;have z127:=L.z127;have v127:=L.v127;have aQH:=run_underlying L.t127;have t3:=L.t3;have a3:=L.a3;have z3:=L.z3;have v3:=L.v3;have u3:=run_underlying L.t3;have t9:=L.t9;have a9:=L.a9;have z9:=L.z9;have v9:=L.v9;have u9:=run_underlying L.t9;have t5:=X.t5;have a5:=X.a5;have z5:=X.z5;have v5:=X.v5;have u5:=run_underlying X.t5
 go_enter L.f169,Body.n169_ntmps Y
 go_wp2
 go_region_o
 all_goals (go_wp2;go_ret;exact⟨rfl,rfl⟩)
end
def au0{T:Nat}(he:xE P f=true)
 (hu:∀b w,w.cell? ⟨b,0,none⟩=some (.pointer (some ⟨b,0,none⟩))->Calls P f #[.pointer (some ⟨b,0,none⟩)] w fun e w'=>e=.returned (.tuple #[])/\w'=w)
 (hi:∀b w,w.cell? ⟨b,0,none⟩=some (.pointer none)->w.shape? b=some (T,n)->w.frozen? ⟨b,0,none⟩=false->
   Calls P f #[.pointer (some ⟨b,0,none⟩)] w fun e w'=>e=.returned (.tuple #[])/\w'=w.setCell ⟨b,0,none⟩ (.pointer (some ⟨b,0,none⟩)))
 (cs:List AV) (H:List j5) (hn:cs.length+1=n) (GH:uc (H.length+1) cs) (I7:∀x∈H,sk (H.length+1) x):
 FnG P f [.ptr 0 0] (.cells (.sn T 0::cs)::H) (fun o H'=>o=.ret (.I3 [])/\H'=.cells (.sn T 0::cs)::H):=by
 refine⟨he,⟨Nat.succ_pos _,trivial⟩,?_,fun C U w hP hw hN0 hφ hM HS vs hr=>?_⟩
 ·intro x hx;rcases fk.1 hx with rfl|hx
  ·exact⟨Nat.succ_pos _,GH⟩
  ·exact I7 x hx
 obtain⟨v0,us,hvs,⟨_,b,hb,hv0⟩,alu⟩:=hr;have hus:us=[]:=alu;subst hus hv0;obtain rfl:vs= #[.pointer (some ⟨b,0,none⟩)]:=by cases vs;simp_all
 obtain⟨b2,c,t,hb2,hh,rl,zr⟩:=HS.om 0 _ rfl;have hbw:U 0=.pointer (some ⟨b,0,none⟩):=hb;obtain rfl:b=b2:=by have hb2:U 0=_:=hb2;rw[hbw]at hb2;simpa using hb2
 obtain⟨u0,vs2,hc0,⟨_,b3,hb3,hu0,c3,fz3,hh3⟩,rr⟩:=rl;have aOZ:U 0=.pointer (some ⟨b3,0,none⟩):=hb3;obtain rfl:b=b3:=by rw[hbw]at aOZ;simpa using aOZ
 have hhw:w.heap[b]? =some (.cells c t (0,0)):=hh;have aKV:w.heap[b]? =some (.cells c3 T fz3):=hh3;obtain⟨rfl,rfl⟩:c=c3/\t=T:=by rw[hhw]at aKV;simp at aKV;exact⟨aKV.1,aKV.2.1⟩
 have hcz:c.size=n:=by
  have h1:c.toList.length=_:=congrArg List.length hc0;rw[List.length_cons,rr.length]at h1;simp at h1;omega
 have ud:w.cell? ⟨b,0,none⟩=some u0:=by
  have:c[0]? =some u0:=by rw[<-Array.getElem?_toList,hc0];rfl
  simp [World.cell?,hhw,this]
 rcases hu0 with rfl|rfl
 ·refine(hi b w ud (by simp [World.shape?,hhw,hcz]) (by simp [World.frozen?,hhw])).mono ?_;rintro e w' ⟨rfl,rfl⟩
  have aCd:(c.setIfInBounds 0 (.pointer (some ⟨b,0,none⟩))).toList=Value.pointer (some ⟨b,0,none⟩)::vs2:=by
   rw[Array.toList_setIfInBounds,hc0];rfl
  have S2:=nF.write HS (l:=0) (b:=b) (cs':=.sn t 0::cs) (c':=c.setIfInBounds 0 (.pointer (some ⟨b,0,none⟩))) rfl hbw hhw (by
   rw[aCd];exact⟨_,_,rfl,⟨Nat.succ_pos _,b,hbw,.inr rfl,c,(0,0),hhw⟩,rr⟩) (by
   rw[aCd];intro u hu;rcases fk.1 hu with rfl|hu
   ·rfl
   ·exact zr u (by rw[hc0];exact List.mem_cons_of_mem _ hu))
  rw[setCell_eq_setRow w b 0 c t (0,0) _ hhw];exact⟨_,U,_,⟨rfl,rfl⟩,S2,⟨#[],rfl,rfl⟩⟩
 ·refine(hu b w ud).mono ?_;rintro e w' ⟨rfl,rfl⟩;exact⟨_,U,_,⟨rfl,rfl⟩,HS,⟨#[],rfl,rfl⟩⟩
section
variable {C:qC} {U:Nat->aRQ} {a:Act} {w:aRR}
def aGc(w:aRR){c:Array aRQ}{t:TypeId}{fz:Nat×Nat}(hn:n≠0)(hg:w.heap[g]? =some (.cells c t fz))(hf:fz.2<=n):
 (w.freeze ⟨g,0,none⟩ n).heap.size=w.heap.size/\(∀b,b≠g->(w.freeze ⟨g,0,none⟩ n).heap[b]? =w.heap[b]?)/\∃fz',(w.freeze ⟨g,0,none⟩ n).heap[g]? =some (.cells c t fz')/\fz'.2<=n:=by
 obtain⟨lo,hi⟩:=fz;unfold World.freeze;rw[if_neg hn];refine⟨by simp,fun b hb=>?_,?_⟩
 ·simp only[Array.getElem?_modify];rw[if_neg (fun e=>hb e.symm)]
 ·simp only[Array.getElem?_modify,jM,hg,Option.map_some];refine⟨_,rfl,?_⟩;simp only at hf;split
  ·show 0+n<=n;omega
  ·show max hi (0+n)<=n;omega
def nF.aKW(S:nF C U J a w){cap:Nat}(hl:J.heap[l]? =some (.Jw s))(hφ:U l=.slice (some ⟨g,0,none⟩) s.size cap)(sv:s.size≠0):nF C U J a (w.freeze ⟨g,0,none⟩ s.size):=by
 have agN:w.ownsRowF 0 Mk 1 (U l) s.size (fm s):=S.om l _ hl;rw[hφ]at agN;obtain⟨hxl,agN⟩:=agN;rcases agN with⟨h,_⟩|⟨g',aND,cur,fz,hv,hb,hg,hfz,r1,r2,r3,r4⟩
 ·cases h
 ·have hv:=hv;injection hv with e1 e2 e3
  have e1:g=g':=by injection e1 with e1;injection e1
  subst e1 e3;obtain⟨k1,k2,fz',k3,k4⟩:=aGc w sv hg (by omega)
  have hos:(w.freeze ⟨g,0,none⟩ s.size).os=w.os/\(w.freeze ⟨g,0,none⟩ s.size).tape=w.tape/\(w.freeze ⟨g,0,none⟩ s.size).output=w.output:=by
   unfold World.freeze;rw[if_neg sv];exact⟨rfl,rfl,rfl⟩
  have S2:=S.aEj (s':=s) (w':=w.freeze ⟨g,0,none⟩ s.size) (h':=U l) hl (.inr ⟨rfl,rfl⟩) (by
   rw[hφ];exact⟨hxl,.inr ⟨g,cap,cur,fz',rfl,hb,k3,by omega,r1,r2,r3,r4⟩⟩)
   ⟨hos.1,hos.2.1,hos.2.2,by rw[k1];exact Nat.le_refl _,fun k hk sv=>k2 k (fun e=>sv (by rw[hφ,e];rfl))⟩ (fun k hk=>.inl hk) (fun b c t fz2 hc=>by
     by_cases e:b=g
     ·subst e;rw[hg]at hc;cases hc;exact⟨_,_,k3⟩
     ·exact⟨_,_,by rw[k2 b e];exact hc⟩)
  have e1:(fun k=>if k=l then U l else U k)=U:=by
   funext k;by_cases e:k=l
   ·rw[if_pos e,e]
   ·rw[if_neg e]
  have e2:J.heap.set l (.Jw s)=J.heap:=by
   have sJ:=(fe.1 hl).1;have:=(fe.1 hl).2;rw[<-this,fj]
  rw[e1,e2]at S2;exact S2
end
def aDM{t37 t127 t3 t9:TypeId}(he:xE P f=true)(hp:P.underlying t127=some (.pointer Mk))(hc1:P.cellsOf Mk=1)
 (hS:∀(b n cap:Nat)(base q:Option Addr)(s:ByteArray)(w w1 w2:aRR),w.drew.cell? ⟨b,1,none⟩=some (.slice base n cap)->w1.cell? ⟨b,1,none⟩=some (.slice base n cap)->
   (Builtin.unsafeSliceData_ #[t37] t127 #[.slice base n cap]).run P w.drew=.ok (.pointer q) w1->(Builtin.unsafeString_ #[t127,t3] t9 #[.pointer q,.int .i64 n]).run P w1=.ok (.string s) w2->
   Calls P f #[.pointer (some ⟨b,0,none⟩)] w fun e w'=>e=.returned (.string s)/\w'=w2)
 (x0:AV) (cs:List AV) (s:ByteArray) (k:Nat) (hk:s.size=k) (GH:x0.nb 2/\uc 2 cs):
 FnG P f [.ptr 0 0] [.cells (x0::.lR 1 k::cs),.Jw s] (fun o H'=>o=.ret (.str s)/\H'=[.cells (x0::.lR 1 k::cs),.Jw s]):=by
 subst hk;refine⟨he,⟨Nat.succ_pos _,trivial⟩,?_,fun C U w hP hw hN0 hφ hM HS vs hr=>?_⟩
 ·intro x hx;simp only[fk,List.not_mem_nil,or_false]at hx;rcases hx with rfl|rfl
  ·exact⟨GH.1,(by decide:1<2),GH.2⟩
  ·trivial
 obtain⟨v0,us,hvs,⟨_,b,hb,hv0⟩,alu⟩:=hr;have hus:us=[]:=alu;subst hus hv0;obtain rfl:vs= #[.pointer (some ⟨b,0,none⟩)]:=by cases vs;simp_all
 obtain⟨b2,c,t,hb2,hh,rl,zr⟩:=HS.om 0 _ rfl;have hbw:U 0=.pointer (some ⟨b,0,none⟩):=hb;obtain rfl:b=b2:=by have hb2:U 0=_:=hb2;rw[hbw]at hb2;simpa using hb2
 obtain⟨u0,vs2,hc0,_,u1,vs3,hc2,r1,_⟩:=rl;have hhw:w.heap[b]? =some (.cells c t (0,0)):=hh;have hu1:u1=U 1:=axf (J:={j9:=[],heap:=[.cells (x0::.lR 1 s.size::cs),.Jw s],low:=2}) HS (l:=1) (s:=s) rfl rfl r1;subst hu1;have sJ:b<w.heap.size:=(Array.getElem?_eq_some_iff.1 hhw).1
 have ud:w.cell? ⟨b,1,none⟩=some (U 1):=by
  have:c[1]? =some (U 1):=by rw[<-Array.getElem?_toList,hc0,hc2];rfl
  simp [World.cell?,hhw,this]
 have agN:w.ownsRowF 0 Mk 1 (U 1) s.size (fm s):=HS.om 1 _ rfl;have HD:nF C U {j9:=[],heap:=[.cells (x0::.lR 1 s.size::cs),.Jw s],low:=2} {tmps:= #[],defers:=[]} w.drew:=HS.drew _
 have done:∀(w':aRR),nF C U {j9:=[],heap:=[.cells (x0::.lR 1 s.size::cs),.Jw s],low:=2} {tmps:= #[],defers:=[]} w'->
  ∃o U' H',(o=vu.ret (.str s)/\H'=[j5.cells (x0::.lR 1 s.size::cs),.Jw s])/\nF C U' {j9:=[],heap:=H',low:=([j5.cells (x0::.lR 1 s.size::cs),.Jw s]:List j5).length} {tmps:= #[],defers:=[]} w'/\o.rep (C.env U' H' w') (.returned (.string s)):=
  fun w' S'=>⟨_,U,_,⟨rfl,rfl⟩,S',rfl⟩
 have aM1:s.size=0->s=ByteArray.empty:=fun h=>by
  apply ByteArray.ext;exact Array.eq_empty_of_size_eq_zero h
 rcases agN.2 with⟨hv,h0⟩|⟨g,cap,cur,fz,hv,hbg,hg,hfz,hnc,hcm,hcs,awc⟩
 ·rw[hv]at ud;refine(hS b 0 0 none none s w w.drew w.drew ud ud rfl (by rw[aM1 h0];exact ff _ _ _ _ _)).mono ?_;rintro e w' ⟨rfl,rfl⟩;exact done _ HD
 ·rw[hv] at ud;by_cases h0:s.size=0
  ·by_cases Cp:cap=0
   ·subst Cp;have hSD:=Lib.run_unsafeSliceData_zero (P:=P) w.drew #[t37] t127 Mk hp ⟨g,0,none⟩ s.size (Mk,cur.size) (by have hg':w.drew.heap[g]? =some (.cells cur Mk fz):=hg;simp [World.shape?,hg']);refine(hS b s.size 0 (some ⟨g,0,none⟩) _ s w _ _ ud ?_ hSD (by rw[h0,aM1 h0];exact ff _ _ _ _ _)).mono ?_
    ·have e1:(w.drew.alloc (.view ⟨g,0,none⟩ Mk)).heap[b]? =w.heap[b]? :=yZ w.drew (.view ⟨g,0,none⟩ Mk) sJ;rw[<-ud];simp only[World.cell?,e1]
    ·rintro e w' ⟨rfl,rfl⟩;exact done _ (HD.more _ (by intro c t lo hi h;cases h))
   ·refine(hS b s.size cap (some ⟨g,0,none⟩) _ s w w.drew _ ud ud (fg _ _ _ _ _ _ Cp) (by rw[h0,aM1 h0];exact ff _ _ _ _ _)).mono ?_;rintro e w' ⟨rfl,rfl⟩;exact done _ HD
  ·have hl:s.data.toList.length=s.size:=by rw[Array.length_toList];rfl
   have hUS:(Builtin.unsafeString_ #[t127,t3] t9 #[.pointer (some ⟨g,0,none⟩),.int .i64 s.size]).run P w.drew=.ok (.string s) (w.drew.freeze ⟨g,0,none⟩ s.size):=by
    have:=Lib.run_unsafeString_row (P:=P) w.drew t127 t3 t9 Mk hp hc1 g cur.size (by have hg':w.drew.heap[g]? =some (.cells cur Mk fz):=hg;simp [World.shape?,hg']) s.data.toList (by intro e;rw[e]at hl;exact h0 hl.symm) (by omega) (by unfold maxLen at hcm;omega) (by
     intro j x hx;exact agN.cells (g:=g) (by rw[hv];rfl) j (.int .u8 x.toNat) (by simp [fm,hx]))
    rw[hl]at this;exact this
   refine(hS b s.size cap (some ⟨g,0,none⟩) _ s w w.drew _ ud ud (fg _ _ _ _ _ _ (by omega)) hUS).mono ?_;rintro e w' ⟨rfl,rfl⟩;exact done _ (HD.aKW (l:=1) (s:=s) rfl hv h0)
def au1:agG (mp GI [])=some []:=by rw[p8];rfl
attribute [go_sem] au1 Option.map_some
def aIz{b:Nat}{nm:String}(he:xE P f=true)(hb:aNn b)(hg:P.globalNamed nm=some b)(hv:aGI=(Lib.pow10Tab.map fun z=>Value.int .u64 z).toArray)
 (h:∀(n:Int)(w:aRR),-9223372036854775808<=n->n<=9223372036854775807->Lib.TabIs P w nm .u64 Lib.pow10Tab->Calls P f #[.int .i64 n] w fun e w'=>e=.returned (.string ⟨(Lib.itoa n).toArray⟩)/\∃k os,w'=Sort.grow (w.drewN k) os)
 (n:Int) (h0:0<=n) (h1:n<=9223372036854775807):I5 P f [(lr .i64).enc n] (fun v=>v=mo.enc (Lib.itoa n)):=by
 refine⟨he,⟨(lr .i64).nb 0 _,trivial⟩,fun C U w hP hw hN0 hM vs hr=>?_⟩
 obtain rfl:vs= #[.int .i64 n]:=by
  obtain⟨v0,us,hvs,r0,alu⟩:=hr;have hus:us=[]:=alu;have e0:v0=.int .i64 n:=r0;subst hus e0;cases vs;simp_all
 obtain⟨_,t,fz,aKX⟩:=C.hk.row b hb;rw[hw]at aKX
 have aM2:Lib.TabIs P w nm .u64 Lib.pow10Tab:=by
  unfold Lib.TabIs World.var?;rw[hg,Option.bind_some,aKX,<-hv]
 refine(h n w (by omega) h1 aM2).mono ?_;rintro e w' ⟨rfl,k,os,rfl⟩;have hB:=Lib.below_grow w.heap.size w (Nat.le_refl _) k os;exact⟨_,_,U,rfl,rfl,rfl,hB.size,hB.block,fun x hx=>hB.frozen hx,hB.output,hB.os⟩
end Go.Abs
end
