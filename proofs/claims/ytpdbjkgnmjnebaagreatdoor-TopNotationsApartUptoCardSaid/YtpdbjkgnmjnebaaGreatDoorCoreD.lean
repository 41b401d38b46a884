/- A part of the proof: abstract states and the rules for them. -/
import Derived.Test.YtpdbjkgnmjnebaaGreatDoorCoreC
import Derived.Lib.Atoi
import Derived.Lib.AtoiErrMem
import Derived.Lib.UnsafeStr
import Derived.Lib.Builder
import Derived.Shelf.Strings.Builder1
import Derived.Lib.ItoaNum
import Derived.Lib.AppendIntMem
import Derived.Lib.LaidTab
set_option linter.all false
open Go renaming Oper→aKg,FuncId→aKh,Program→aKi,Value→aKj,World→aKk
open Option renaming bind_eq_some_iff→eS,map_eq_some_iff→eU
open Option.some renaming injEq→eT
open List renaming range→eV,replicate→eW,getElem?_eq_some_iff→eX,getElem?_eq_getElem→e8,set_getElem_self→e9,mem_cons→fa
open Go.Lib renaming run_unsafeString_none→eY,run_unsafeSliceData_row→eZ,strCells→fb
noncomputable section
namespace Go.Abs
variable {W:Type}{aJU:AL W}{W1:Type}{Bj:AL W1}{x:AV}{j8:Array aKg}{b:Bool}{s:ByteArray}{y:Code}{u:FrameMode}{f:aKh}{xF xy:aKh->Bool}{cl:aKh->List AV->List jT->Option (AV×List jT)}{cp:aKh->List AV->List jT->Option (vf×List jT)}{co:aKh->List AV->List jT->Option CO}{ce:aKh->List AV->List jT->Option vW}{cd:aKh->List AV->Option AV}{ds:List (aKh×List AV)}{nl:List (List Nat×Af)}{cu:List (List Nat×List Nat)}{args cs ys:List AV}{γ:Type}{k:List AV->AV->Option γ}{K:List Kt}{G:List Kt->W->Prop}{b1 p:List Nat}{js:List Nat->List (Int×Code)}{p1:List RI}{rs:List ResultVar}{tr:List Tr}{H:List jT}{c d g j l low n:Nat}{cy:Nat->List AV->List jT->Option (AV×List jT)}{τ:Nat->Nat}{O:Type}{os:OL O}{O1:Type}{uW:OL O1}{o:aKg}{dst:Option Tmp}{a:Option vW}{P:aKi}{R δ Y:Type}{v:aKj}{T:aKj->aKk->Array aKj->(Ending->aKk->Prop)->Prop}{J:jJ}{out:jJ->Option R}{M:kG R}{V:vf->List jT->Prop}{F:O->W->Option (O1×W1)}
inductive PR(W O:Type) where
 |ok (x:W)
 |pn (y:O)
def F7(q:PR W O)(f:W->γ)(g:O->γ):γ:=match q with
 |.ok x=>f x
 |.pn y=>g y
def atI{x:W}{f:W->γ}{g:O->γ}:F7 (.ok x) f g=f x:=rfl
def aEz{y:O}{f:W->γ}{g:O->γ}:F7 (.pn y) f g=g y:=rfl
abbrev ah4:=List AV->List jT->Option (vf×List jT)
section ahy

def ahy(pos:List RI)(os:OL O)(aJU:AL W)(sz:Nat)(en:Y->vf×List jT)(F:O->W->Option Y):ah4:=fun args H=>
 (alj args H pos []).bind fun Y=>bif Jm Y&&(decide (os.lr<=Y.length)&&(decide (aJU.lr<=Y.length)&&decide (Y.length<=sz)))then
   (r6 (ahq H) Y).bind fun xs=>(os.mo Y (aff xs) H xs).bind fun b=>(aJU.mo Y (aff xs) H args).bind fun a=>(F b a).bind fun q=>
     some ((en q).1.qc (oP Y H.length),xc Y H (en q).2)else none
def aqE(hT:aaC T)(hz:∀(U U':Nat->aKj)(k k':Nat),T (U k)=T (U' k')){pos:List RI}{os:OL O}{aJU:AL W}{sz:Nat}{en:Y->vf×List jT}{F:O->W->Option Y}(hsz:∀q,sz<=(en q).2.length) {o:vf} {H':List jT} (he:ahy pos os aJU sz en F args J.heap=some (o,H')):
 ∃b a q,F b a=some q/\(FnT P T (aJU.enc (os.l9 b) a) (os.enc (os.l9 b) b) (fun o H'=>o=(en q).1/\H'=(en q).2)->Sh P T 0 args J (fun o' FJ=>o'=o/\FJ=H')):=by
 unfold ahy at he;simp only[eS]at he;obtain⟨Y,hρ,he⟩:=he;cases hc:(Jm Y&&(decide (os.lr<=Y.length)&&(decide (aJU.lr<=Y.length)&&decide (Y.length<=sz))))with
 |false=>simp [hc]at he
 |true=>
  simp only[hc,jy,eS,eT,Prod.mk.injEq]at he;obtain⟨xs,hxs,b,hb,a,ha,q,hq,rfl,rfl⟩:=he;refine⟨b,a,q,hq,fun hfn=>?_⟩;simp only[Bool.and_eq_true,jD]at hc;obtain⟨hnd,n1,n2,n3⟩:=hc;obtain⟨h1,h2⟩:=VJ hxs
  have aqu:∀m,m<=Y.length->Cov Y m J.heap.length:=by
   intro m hm k hk;have RB:k<Y.length:=by omega
   obtain⟨x,hx,Dt⟩:=h2 k _ (e8 RB)
   grind
  have hL:os.l9 b=aff xs:=funext fun k=>os.agw Y _ _ _ _ hb k
  obtain⟨h3,h4⟩:=os.ok Y _ J.heap J.heap.length _ _ (aqu _ n1) hb;have aax:∀l,l<Y.length->atN Y l=oP Y J.heap.length l:=fun l hl=>by unfold oP atN;rw[if_pos hl]
  rw[<-hL]at ha h4;refine ayA hT hfn (Qh hnd) (by rw[h1,h3,os.sz]) (Nat.le_trans n3 (hsz q)) (fun U=>hz _ _ _ _) ?_ ?_
  ·intro i k hi;obtain⟨x,hx,Dt⟩:=h2 i k hi;have mR:i<(os.enc (os.l9 b) b).length:=by rw[os.sz,<-h3,<-h1];grind
   have hy:=e8 mR;obtain⟨x2,RC,hcc⟩:=h4 i _ hy;rw[hx]at RC;cases RC;refine⟨x,_,Dt,hy,?_⟩;rw[<-afd (n:=os.lr) (fun l hl=>aax l (by omega)) _ (os.nb _ _ _ (List.mem_of_getElem? hy))];exact hcc
  ·rw[<-DR (n:=aJU.lr) (fun l hl=>aax l (by omega)) _ (aJU.nb _ _)];exact aJU.ok Y _ J.heap _ _ _ (aqu _ n2) ha
end ahy
section xd
variable {W2 O2:Type}
def pkO(pk:Bool)(x:AV):vf:=match pk with
 |true=>.panic x
 |false=>.ret x
def aGK:pkO true x=.panic x/\pkO false x=.ret x:=⟨rfl,rfl⟩
def aBM{pk:Bool}:(pkO pk x).qc τ=pkO pk (x.qc τ):=by cases pk<;>rfl
def enP(pk:Bool)(uW:OL O1)(Bj:AL W1)(Ci:OL O2)(JH:AL W2)(q:PR (O1×W1) (O2×W2)):vf×List jT:=
 F7 q (fun r=>(.ret (uv (Bj.enc (uW.l9 r.1) r.2)),uW.enc (uW.l9 r.1) r.1)) (fun r=>(pkO pk (uv (JH.enc (Ci.l9 r.1) r.2)),Ci.enc (Ci.l9 r.1) r.1))
def aEA{pk:Bool}{uW:OL O1}{Bj:AL W1}{Ci:OL O2}{JH:AL W2}(q:PR (O1×W1) (O2×W2)):min uW.size Ci.size<=(enP pk uW Bj Ci JH q).2.length:=by
 cases q with
 |ok r=>simp only[enP,F7,uW.sz];exact Nat.min_le_left _ _
 |pn r=>simp only[enP,F7,Ci.sz];exact Nat.min_le_right _ _
def xd(pk:Bool)(pos:List RI)(os:OL O)(aJU:AL W)(uW:OL O1)(Bj:AL W1)(Ci:OL O2)(JH:AL W2)(F:O->W->Option (PR (O1×W1) (O2×W2))):ah4:=fun args H=>
 (alj args H pos []).bind fun Y=>bif Jm Y&&(decide (os.lr<=Y.length)&&(decide (aJU.lr<=Y.length)&&(decide (Y.length<=uW.size)&&decide (Y.length<=Ci.size)))) then
   (r6 (ahq H) Y).bind fun xs=>(os.mo Y (aff xs) H xs).bind fun b=>(aJU.mo Y (aff xs) H args).bind fun a=>(F b a).bind fun q=>
     F7 q (fun r=>some (.ret ((uv (Bj.enc (uW.l9 r.1) r.2)).qc (oP Y H.length)),xc Y H (uW.enc (uW.l9 r.1) r.1)))
      (fun r=>some (pkO pk ((uv (JH.enc (Ci.l9 r.1) r.2)).qc (oP Y H.length)),xc Y H (Ci.enc (Ci.l9 r.1) r.1)))else none
theorem ayS{pk:Bool}{pos:List RI}{os:OL O}{aJU:AL W}{uW:OL O1}{Bj:AL W1}{Ci:OL O2}{JH:AL W2}{F:O->W->Option (PR (O1×W1) (O2×W2))}:
 xd pk pos os aJU uW Bj Ci JH F args H=ahy pos os aJU (min uW.size Ci.size) (enP pk uW Bj Ci JH) F args H:=by
 unfold xd ahy;congr 1;funext Y
 have:decide (Y.length<=min uW.size Ci.size)=(decide (Y.length<=uW.size)&&decide (Y.length<=Ci.size)):=by
  grind
 rw[this];congr 1;congr 1;funext xs;congr 1;funext b;congr 1;funext a;congr 1;funext q;cases q with
 |ok r=>rfl
 |pn r=>simp only[F7,enP,aBM]
def ayT(P:aKi)(f:aKh)(e:ah4):Prop:=∀args J o H',e args J.heap=some (o,H')->Bf P f args J (fun o' FJ=>o'=o/\FJ=H')
def FnP(P:aKi)(f:aKh)(args:List AV)(H:List jT)(x:vf×List jT):Prop:=FnG P f args H (fun o H'=>o=x.1/\H'=x.2)
def kB{pk:Bool}{pos:List RI}{os:OL O}{aJU:AL W}{uW:OL O1}{Bj:AL W1}{Ci:OL O2}{JH:AL W2}{F:O->W->Option (PR (O1×W1) (O2×W2))}
 (h:∀b a r,F b a=some r->FnP P f (aJU.enc (os.l9 b) a) (os.enc (os.l9 b) b) (enP pk uW Bj Ci JH r)):ayT P f (xd pk pos os aJU uW Bj Ci JH F):=by
 intro args J o H' he;rw[ayS]at he;obtain⟨b,a,q,hq,xE⟩:=aqE (P:=P) (T:=fun _ w vs R=>Calls P f vs w R) ad9 (fun _ _ _ _=>rfl) aEA he;exact⟨(h b a q hq).1,xE (h b a q hq).2⟩
def afk:∀(Y:List Nat)(xs H:List jT),mh H (Y.zip xs)=si H Y xs
 |[],_,_=>by simp [mh,si]
 |_::_,[],_=>by simp [mh,si]
 |l::Y,x::xs,H=>by
  simp only[List.zip_cons_cons,mh,si];exact afk Y xs _
def HB(pos:List RI)(os:OL O)(aJU:AL W)(uW:OL O1)(Bj:AL W1)(Ci:OL O2)(JH:AL W2)(F:O->W->Option (PR (O1×W1) (O2×W2))):List AV->List jT->Option CO:=fun args H=>
 (alj args H pos []).bind fun Y=>bif Jm Y&&(decide (os.lr<=Y.length)&&(decide (aJU.lr<=Y.length)&&(decide (Y.length<=uW.size)&&decide (Y.length<=Ci.size)))) then
   (r6 (ahq H) Y).bind fun xs=>(os.mo Y (aff xs) H xs).bind fun b=>(aJU.mo Y (aff xs) H args).bind fun a=>(F b a).bind fun q=>
     F7 q (fun r=>some (.ret {val:=(uv (Bj.enc (uW.l9 r.1) r.2)).qc (oP Y H.length),rd:=Y,up:=Y.zip ((uW.enc (uW.l9 r.1) r.1).map (jT.qc (oP Y H.length))),nw:=((uW.enc (uW.l9 r.1) r.1).drop Y.length).map (jT.qc (oP Y H.length)),whole:=true}))
      (fun r=>some (.pan ((uv (JH.enc (Ci.l9 r.1) r.2)).qc (oP Y H.length)) (xc Y H (Ci.enc (Ci.l9 r.1) r.1))))else none
def an9(P:aKi)(f:aKh)(e:List AV->List jT->Option CO):Prop:=∀args (J:jJ),(∀ef,e args J.heap=some (.ret ef)->Hz P f args J ef)/\∀x H',e args J.heap=some (.pan x H')->aji P f args J.heap x H'
def An{pos:List RI}{os:OL O}{aJU:AL W}{uW:OL O1}{Bj:AL W1}{Ci:OL O2}{JH:AL W2}{F:O->W->Option (PR (O1×W1) (O2×W2))}
 (h:∀b a r,F b a=some r->FnP P f (aJU.enc (os.l9 b) a) (os.enc (os.l9 b) b) (enP true uW Bj Ci JH r)):an9 P f (HB pos os aJU uW Bj Ci JH F):=by
 have hP:=kB (pos:=pos) h;intro args J
 have key:∀c,HB pos os aJU uW Bj Ci JH F args J.heap=some c->∃Y,(∀l∈Y,l<J.heap.length)/\((∃ef,c=.ret ef/\(ef.rd=Y/\ef.whole=true/\∀l∈ef.up.map (·.1),l∈Y)/\xd true pos os aJU uW Bj Ci JH F args J.heap=some (.ret ef.val,mh J.heap ef.up++ef.nw))\/∃x H',c=.pan x H'/\xd true pos os aJU uW Bj Ci JH F args J.heap=some (.panic x,H')):=by
  intro c he;unfold HB at he;simp only[eS]at he;obtain⟨Y,hρ,he⟩:=he;cases hc:(Jm Y&&(decide (os.lr<=Y.length)&&(decide (aJU.lr<=Y.length)&&(decide (Y.length<=uW.size)&&decide (Y.length<=Ci.size)))))with
  |false=>simp [hc]at he
  |true=>
   simp only[hc,jy,eS]at he;obtain⟨xs,hxs,b,hb,a,ha,q,hq,he⟩:=he;refine⟨Y,fun l hl=>?_,?_⟩
   ·obtain⟨i,hi⟩:=List.getElem?_of_mem hl;obtain⟨x,_,Dt⟩:=(VJ hxs).2 i l hi
    grind
   ·have aao:xd true pos os aJU uW Bj Ci JH F args J.heap=F7 q (fun r=>some (.ret ((uv (Bj.enc (uW.l9 r.1) r.2)).qc (oP Y J.heap.length)),xc Y J.heap (uW.enc (uW.l9 r.1) r.1)))
     (fun r=>some (.panic ((uv (JH.enc (Ci.l9 r.1) r.2)).qc (oP Y J.heap.length)),xc Y J.heap (Ci.enc (Ci.l9 r.1) r.1))):=by
     simp_all [xd,pkO]
    cases q with
    |ok r=>
     simp only[F7,eT]at he;subst he;left;refine⟨_,rfl,⟨rfl,rfl,fun l hl=>?_⟩,?_⟩
     ·simp only[List.mem_map]at hl;obtain⟨p,hp,rfl⟩:=hl;exact(List.of_mem_zip hp).1
     ·rw[aao];simp only[F7,afk];rfl
    |pn r=>
     grind [F7]
 refine⟨fun ef he=>?_,fun x H' he=>?_⟩
 ·obtain⟨Y,mR,⟨ef',hc,⟨h1,h2,h3⟩,hx⟩|⟨_,_,hc,_⟩⟩:=key _ he
  ·simp only[CO.ret.injEq]at hc;subst hc;refine⟨⟨by rw[h1];exact mR,by rw[h1];exact h3⟩,fun J' _ _ hw=>?_⟩;have hh:=hw h2;have:=hP args J' (.ret ef.val) (mh J.heap ef.up++ef.nw) (by rw[hh];exact hx);rw[hh];exact this
  ·cases hc
 ·obtain⟨Y,mR,⟨ef',hc,_⟩|⟨x',H2,hc,hx⟩⟩:=key _ he
  ·cases hc
  ·simp only[CO.pan.injEq]at hc;obtain⟨rfl,rfl⟩:=hc;intro J' hh;exact hP args J' (.panic x) H' (by rw[hh];exact hx)
end xd
def Ao:List (Nat×ah4)->aKh->ah4
 |[],_,_,_=>none
 |(g,e)::t,f,args,H=>if f=g then e args H else Ao t f args H
def lc:∀f args (J:jJ) o H',Ao [] f args J.heap=some (o,H')->Bf P f args J (fun o' FJ=>o'=o/\FJ=H'):=by
 intro f args J r H' h;cases h
def j7{e:ah4}{t:List (Nat×ah4)}(h1:ayT P g e)(h2:∀f args (J:jJ) o H',Ao t f args J.heap=some (o,H')->Bf P f args J (fun o' FJ=>o'=o/\FJ=H')):
 ∀f args (J:jJ) o H',Ao ((g,e)::t) f args J.heap=some (o,H')->Bf P f args J (fun o' FJ=>o'=o/\FJ=H'):=by
 intro f args J r H' h;simp only[Ao]at h;split at h
 ·rename_i hg;subst hg;exact h1 _ _ _ _ h
 ·exact h2 _ _ _ _ _ h
def PY:List (Nat×(List AV->List jT->Option CO))->aKh->List AV->List jT->Option CO
 |[],_,_,_=>none
 |(g,e)::t,f,args,H=>if f=g then e args H else PY t f args H
def tz:∀f args (J:jJ),(∀e,PY [] f args J.heap=some (.ret e)->Hz P f args J e)/\∀x H',PY [] f args J.heap=some (.pan x H')->aji P f args J.heap x H':=by
 intro f args J;exact⟨fun e h=>(by cases h),fun x H' h=>(by cases h)⟩
def ng{e:List AV->List jT->Option CO}{t:List (Nat×(List AV->List jT->Option CO))}(h1:an9 P g e)(h2:∀f args (J:jJ),(∀e,PY t f args J.heap=some (.ret e)->Hz P f args J e)/\∀x H',PY t f args J.heap=some (.pan x H')->aji P f args J.heap x H'):
 ∀f args (J:jJ),(∀ef,PY ((g,e)::t) f args J.heap=some (.ret ef)->Hz P f args J ef)/\∀x H',PY ((g,e)::t) f args J.heap=some (.pan x H')->aji P f args J.heap x H':=by
 intro f args J;simp only[PY];by_cases hg:f=g
 ·subst hg;simp only[jE];exact h1 args J
 grind
abbrev RJ:=aKh->List AV->List jT->Option (vf×List jT)
variable {cr:RJ}
section unw

def ZJ(cr cp:RJ)(en:Option AV->jJ->Option R):List (aKh×List AV)->Option AV->jJ->Option R
 |[],m,J=>en m J
 |(f,args)::ds,none,J=>(cr f args J.heap).bind fun q=>match q with
  |(.ret _,H')=>ZJ cr cp en ds none {J with heap:=H',df:=ds}
  |(.panic _,_)=>none
 |(f,args)::ds,some x,J=>(cp f (args++[x]) J.heap).bind fun q=>match q with
  |(.ret _,H')=>ZJ cr cp en ds none {J with heap:=H',df:=ds}
  |(.panic x',H')=>ZJ cr cp en ds (some x') {J with heap:=H',df:=ds}
theorem aqF {cp:RJ}{en:Option AV->jJ->Option R}{m:Option AV}:ZJ cr cp en [] m J=en m J:=by cases m<;>rfl
def aGL(cr cp:RJ)(en:Option AV->jJ->Option R)(ds:List (aKh×List AV))(J:jJ):vf×List jT->Option R
 |(.ret _,H')=>ZJ cr cp en ds none {J with heap:=H',df:=ds}
 |(.panic x',H')=>ZJ cr cp en ds (some x') {J with heap:=H',df:=ds}
def aGM(cr cp:RJ)(en:Option AV->jJ->Option R)(ds:List (aKh×List AV))(J:jJ):vf×List jT->Option R
 |(.ret _,H')=>ZJ cr cp en ds none {J with heap:=H',df:=ds}
 |(.panic x',H')=>none
def ayU {cp:RJ}{en:Option AV->jJ->Option R}:ZJ cr cp en ((f,args)::ds) none J=(cr f args J.heap).bind (aGM cr cp en ds J):=by
 simp only[ZJ];congr 1
def ayV {cp:RJ}{en:Option AV->jJ->Option R}:ZJ cr cp en ((f,args)::ds) (some x) J=(cp f (args++[x]) J.heap).bind (aGL cr cp en ds J):=by
 simp only[ZJ];congr 1
def QOK(P:aKi)(T:aKh->aKj->aKk->Array aKj->(Ending->aKk->Prop)->Prop)(c:RJ):Prop:=∀f args (J:jJ) o H',c f args J.heap=some (o,H')->enters P f=true/\Sh P (T f) 0 args J (fun o' FJ=>o'=o/\FJ=H')
def Sh.mono(hT:aaC T){K K':vf->List jT->Prop}(h:Sh P T l args J K)(hk:∀o H,K o H->K' o H):Sh P T l args J K':=by
 intro C U a w hP S vs hr;refine hT.mono _ _ _ _ _ ?_ (h C U a w hP S vs hr)
 grind
def XJ{P:aKi}{cr cp:RJ}{en:Option AV->jJ->Option R}{xw:Option AV->jJ->Prop}{r:R}(hr:QOK P (ald P) cr)(hp:QOK P (ale P) cp)(he:∀m J,J.df=[]->en m J=some r->xw m J):
 ∀(ds:List (aKh×List AV))(m:Option AV)(J:jJ),J.df=ds->ZJ cr cp en ds m J=some r->ae7 P xw ds m J
 |[],m,J,hd,h=>by rw[aqF]at h;exact he m J hd h
 |(f,args)::ds,none,J,hd,h=>by
  simp only[ZJ,eS]at h;obtain⟨⟨o,H'⟩,hc,h⟩:=h;obtain⟨h1,h2⟩:=hr f args {J with df:=ds} o H' hc;refine⟨h1,h2.mono agn ?_⟩;rintro o' FJ ⟨rfl,rfl⟩;cases o' with
  |ret x=>exact XJ hr hp he ds none _ rfl h
  |panic x=>cases h
 |(f,args)::ds,some x,J,hd,h=>by
  simp only[ZJ,eS]at h;obtain⟨⟨o,H'⟩,hc,h⟩:=h;obtain⟨h1,h2⟩:=hp f (args++[x]) {J with df:=ds} o H' hc;refine⟨h1,h2.mono ago ?_⟩;rintro o' FJ ⟨rfl,rfl⟩;cases o' with
  |ret x=>exact XJ hr hp he ds none _ rfl h
  |panic x=>exact XJ hr hp he ds (some x) _ rfl h
def Qy:List (Nat×ah4)->RJ
 |[],_,_,_=>none
 |(g,e)::t,f,args,H=>if f=g then e args H else Qy t f args H
def N3{T:aKh->aKj->aKk->Array aKj->(Ending->aKk->Prop)->Prop}:QOK P T (Qy []):=by
 intro f args J o H' h;cases h
def KJ{T:aKh->aKj->aKk->Array aKj->(Ending->aKk->Prop)->Prop}{e:ah4}{t:List (Nat×ah4)}(h1:∀args (J:jJ) o H',e args J.heap=some (o,H')->enters P g=true/\Sh P (T g) 0 args J (fun o' FJ=>o'=o/\FJ=H'))(h2:QOK P T (Qy t)):QOK P T (Qy ((g,e)::t)):=by
 intro f args J o H' h;simp only[Qy]at h;split at h
 ·grind
 ·exact h2 _ _ _ _ _ h
def enR(uW:OL O1)(Bj:AL W1)(r:O1×W1):vf×List jT:=(.ret (uv (Bj.enc (uW.l9 r.1) r.2)),uW.enc (uW.l9 r.1) r.1)
def Mc(pos:List RI)(os:OL O)(aJU:AL W)(uW:OL O1)(Bj:AL W1)(F:O->W->Option (O1×W1)):ah4:=ahy pos os aJU uW.size (enR uW Bj) F
def VM(hT:aaC T)(hz:∀(U U':Nat->aKj)(k k':Nat),T (U k)=T (U' k'))(hen:enters P f=true){pos:List RI}
 (h:∀b a r,F b a=some r->FnT P T (aJU.enc (os.l9 b) a) (os.enc (os.l9 b) b) (fun o H'=>o=(enR uW Bj r).1/\H'=(enR uW Bj r).2)):∀args (J:jJ) o H',Mc pos os aJU uW Bj F args J.heap=some (o,H')->enters P f=true/\Sh P T 0 args J (fun o' FJ=>o'=o/\FJ=H'):=by
 intro args J o H' he;obtain⟨b,a,q,hq,xE⟩:=aqE (P:=P) (T:=T) hT hz (fun q=>by simp only[enR,uW.sz];exact Nat.le_refl _) he;exact⟨hen,xE (h b a q hq)⟩
end unw
section steps
variable {k:List Kt} {q:PR W O}
def aww{rest:List aKg}{f:W->Option (vf×List jT)}{g:O->Option (vf×List jT)}:Si M j8 dst rest k J (F7 q f g)=F7 q (fun x=>Si M j8 dst rest k J (f x)) (fun y=>Si M j8 dst rest k J (g y)):=by cases q<;>rfl
def atJ{rest:List aKg}{f:W->Option CO}{g:O->Option CO}:OZ M p dst rest j tr k J (F7 q f g)=F7 q (fun x=>OZ M p dst rest j tr k J (f x)) (fun y=>OZ M p dst rest j tr k J (g y)):=by cases q<;>rfl
end steps
attribute [go_sem] aGK atI aEz aww atJ xd HB Mc ahy enR Ao PY Qy aqF ayU ayV aGL aGM List.zip_cons_cons List.zip_nil_left vf.qc
section ends
variable {W2 O2:Type}
def qE(P:aKi)(rs:List ResultVar)(pos:List RI)(base:List Nat)(low:Nat)(os:OL O1)(s:AL W1)(J:jJ):Option (PR (O1×W1) (O2×W2)):=(xT P rs pos base low os s J).map .ok
def qF(pos:List RI)(base:List Nat)(low:Nat)(os:OL O2)(s:AL W2)(x:AV)(J:jJ):Option (PR (O1×W1) (O2×W2)):=(atx [x] pos base low os s J).map .pn
attribute [go_sem] qE qF
theorem amO{y:AV}:uv [y]=y:=rfl
def aBN{fn:Func}{r:PR (O1×W1) (O2×W2)}{M:kG (PR (O1×W1) (O2×W2))}{uW:OL O1}{Bj:AL W1}{Ci:OL O2}{JH:AL W2}{p2:List RI}{b2:List Nat}(G:Hh M)(hf:M.P.funcs[f]? =some fn)(hb:fn.body=some M.body)(sA:(fn.name != "runtime.NumGoroutine")=true)
 (G9:w5 H.length args) (H7:∀x∈H,rJ H.length x) (hn:fn.ntmps=n) (L1:fn.results=rs.toArray) (hb1:b1=eV low) (hb2:b2=eV low) (zf:∀b a,∃y,JH.enc (Ci.l9 b) a=[y])
 (ho:M.out=qE M.P rs p1 b1 low uW Bj) (hq:M.pP=qF p2 b2 low Ci JH)
 (h:run M [.at []] {jV:=args++eW (n-args.length) .any,heap:=H,low:=H.length}=some r):FnP M.P f args H (enP true uW Bj Ci JH r):=by
 refine afc G hf hb sA G9 H7 hn L1 (fun J hs=>?_) (fun x J hs=>?_) h
 ·rw[ho]at hs;unfold qE at hs;rw[eU]at hs;obtain⟨q,hq,rfl⟩:=hs;obtain⟨hd,xs,hx,H6⟩:=Sj hb1 hq;rw[hd];exact N2 hx H6
 ·rw[hq]at hs;unfold qF at hs;rw[eU]at hs;obtain⟨q,hq,rfl⟩:=hs;obtain⟨hd,H6⟩:=afh hb2 hq;rw[hd];obtain⟨y,hy⟩:=zf q.1 q.2;rw[hy]at H6;have:=aqa (P:=M.P) (rs:=rs) H6.e;simp only[enP,F7,hy,amO,pkO];exact this
def afl(P:aKi)(rs:List ResultVar)(p1:List RI)(base:List Nat)(low:Nat)(uW:OL O1)(s1:AL W1)(p2:List RI)(Ci:OL O2)(s2:AL W2)(J:jJ):Option (PR (O1×W1) (O2×W2)):=
 ((xT P rs p1 base low uW s1 J).map .ok).or ((xT P rs p2 base low Ci s2 J).map .pn)
attribute [go_sem] afl
def aBO{fn:Func}{r:PR (O1×W1) (O2×W2)}{M:kG (PR (O1×W1) (O2×W2))}{uW:OL O1}{Bj:AL W1}{Ci:OL O2}{JH:AL W2}{p2:List RI}(G:Hh M)(hf:M.P.funcs[f]? =some fn)(hb:fn.body=some M.body)(sA:(fn.name != "runtime.NumGoroutine")=true)
 (G9:w5 H.length args) (H7:∀x∈H,rJ H.length x) (hn:fn.ntmps=n) (L1:fn.results=rs.toArray) (hb1:b1=eV low) (ho:M.out=afl M.P rs p1 b1 low uW Bj p2 Ci JH)
 (h:run M [.at []] {jV:=args++eW (n-args.length) .any,heap:=H,low:=H.length}=some r) (hP:∀x J',M.pP x J'=none:=by intros;rfl):FnP M.P f args H (enP false uW Bj Ci JH r):=by
 refine afc G hf hb sA G9 H7 hn L1 (fun J hs=>?_) (fun x J hs=>by rw[hP x J]at hs;cases hs) h;rw[ho]at hs;unfold afl at hs;rw[Option.or_eq_some_iff]at hs;rcases hs with hs|⟨_,hs⟩
 ·rw[eU]at hs;obtain⟨q,hq,rfl⟩:=hs;obtain⟨hd,xs,hx,H6⟩:=Sj hb1 hq;rw[hd];exact N2 hx H6
 ·rw[eU]at hs;obtain⟨q,hq,rfl⟩:=hs;obtain⟨hd,xs,hx,H6⟩:=Sj hb1 hq;rw[hd];exact N2 hx H6
def enC(P:aKi)(rs:List ResultVar)(t:Ty Y):Option AV->jJ->Option Y
 |none,J=>oB P rs t J
 |some _,_=>none
def aGN{t:Ty Y}:enC P rs t none J=oB P rs t J/\∀x,enC P rs t (some x) J=none:=⟨rfl,fun _=>rfl⟩
def aBP(cr cp:RJ)(P:aKi)(rs:List ResultVar)(t:Ty Y)(J:jJ):Option Y:=ZJ cr cp (enC P rs t) J.df none J
def au5(cr cp:RJ)(P:aKi)(rs:List ResultVar)(t:Ty Y)(x:AV)(J:jJ):Option Y:=ZJ cr cp (enC P rs t) J.df (some x) J
attribute [go_sem] aGN aBP au5
def aqG{M:kG Y}{fn:Func}{r:Y}{t:Ty Y}{cp:RJ}(G:Hh M)(hcr:QOK M.P (ald M.P) cr)(hcp:QOK M.P (ale M.P) cp)(hf:M.P.funcs[f]? =some fn)(hb:fn.body=some M.body)(sA:(fn.name != "runtime.NumGoroutine")=true)(G9:w5 0 args)
 (hn:fn.ntmps=n) (L1:fn.results=rs.toArray) (ho:M.out=aBP cr cp M.P rs t) (hq:M.pP=au5 cr cp M.P rs t)
 (h:run M [.at []] {jV:=args++eW (n-args.length) .any,heap:=[]}=some r):KD M.P f args (fun v=>v=t.enc r):=by
 have Um:∀m J,J.df=[]->enC M.P rs t m J=some r->avT M.P rs (fun v=>v=t.enc r) m J:=by
  intro m J _ he;cases m with
  |none=>exact(afa he).2
  |some x=>cases he
 refine anN hf hb sA G9 ?_;rw[L1,hn];refine XA G h (fun J hs=>?_) (fun x J hs=>?_)
 ·rw[ho]at hs;have:=XJ hcr hcp Um J.df none J rfl hs;exact⟨this,this⟩
 ·rw[hq]at hs;exact XJ hcr hcp Um J.df (some x) J rfl hs
theorem aqH{M:kG (O1×W1)}{fn:Func}{id:Nat}{rest:List aKg}{r:O1×W1}{uW:OL O1}{Bj:AL W1}(G:Hh M)
 (hf:M.P.funcs[f]? =some fn) (hb:fn.body=some M.body) (Ma:M.body=.seq (.region id j8 false) y) (ah1:j8.toList=o::rest) (ZH:ahw o=true) (aqD:acs rest=true)
 (G9:w5 H.length (args++[x])) (H7:∀x∈H,rJ H.length x) (hn:fn.ntmps=n) (L1:fn.results=rs.toArray) (hb1:b1=eV low) (ho:M.out=xT M.P rs p1 b1 low uW Bj)
 (h:run M [.j8 j8 rest,.cut [1],.at [1]] (jJ.put {jV:=args++eW (n-args.length) .any,heap:=H,low:=H.length} o.dst x)=some r) (hP:∀x J',M.pP x J'=none:=by intros;rfl):
 FnT M.P (ale M.P f) (args++[x]) H (fun o H'=>o=(enR uW Bj r).1/\H'=(enR uW Bj r).2):=by
 refine ah2 hf (by rw[hb,Ma]) ah1 ZH G9 H7 hn L1 (au4 G Ma aqD (fun J hs=>?_) h hP);rw[ho]at hs;obtain⟨hd,xs,hx,H6⟩:=Sj hb1 hs;have:=N2 hx H6;exact⟨⟨hd,this⟩,hd,this⟩
theorem aqI{M:kG (O1×W1)}{fn:Func}{id:Nat}{rest:List aKg}{r:O1×W1}{uW:OL O1}{Bj:AL W1}(G:Hh M)
 (hf:M.P.funcs[f]? =some fn) (hb:fn.body=some M.body) (Ma:M.body=.seq (.region id j8 false) y) (ah1:j8.toList=o::rest) (ZH:ahw o=true) (aqD:acs rest=true)
 (G9:w5 H.length args) (H7:∀x∈H,rJ H.length x) (hn:fn.ntmps=n) (L1:fn.results=rs.toArray) (hb1:b1=eV low) (ho:M.out=xT M.P rs p1 b1 low uW Bj)
 (h:run M [.j8 j8 rest,.cut [1],.at [1]] (jJ.put {jV:=args++eW (n-args.length) .any,heap:=H,low:=H.length} o.dst (.sO .nilIface))=some r) (hP:∀x J',M.pP x J'=none:=by intros;rfl):
 FnT M.P (ald M.P f) args H (fun o H'=>o=(enR uW Bj r).1/\H'=(enR uW Bj r).2):=by
 refine ah3 hf (by rw[hb,Ma]) ah1 ZH G9 H7 hn L1 (au4 G Ma aqD (fun J hs=>?_) h hP);rw[ho]at hs;obtain⟨hd,xs,hx,H6⟩:=Sj hb1 hs;have:=N2 hx H6;exact⟨⟨hd,this⟩,hd,this⟩
end ends
def dIf(t:TypeId)(a:Ty W):AV->Option W
 |.iface t' v=>if t'=t then a.mo [] v else none
 |_=>none
def awx{t:TypeId}{y:AV}(h:LY x y):LY (.iface t x) (.iface t y):=by
 rintro E v ⟨u,hu,r⟩;exact⟨u,hu,h _ _ r⟩
def Ut(t:TypeId)(a:Ty W):Ty W where
 enc x:=.iface t (a.enc x)
 mo _:=dIf t a
 ok H n v x h:=by
  unfold dIf at h;split at h
  ·split at h
   ·rename_i ht;subst ht;exact Co.sub (awx (a.ok [] n _ _ h).oW) (a.nb n x)
   ·cases h
  ·cases h
 nb n x:=a.nb n x
def aEB{t:TypeId}{a:Ty W}:(∀x,(Ut t a).enc x=.iface t (a.enc x))/\(∀H v,(Ut t a).mo H v=dIf t a v)/\∀v,dIf t a (.iface t v)=a.mo [] v:=⟨fun _=>rfl,fun _ _=>rfl,fun _=>by simp [dIf]⟩
def dE0:AV->Option Unit
 |.agg []=>some ()
 |_=>none
def aaL:Ty Unit where
 enc _:=.agg []
 mo _:=dE0
 ok H n v x h:=by
  unfold dE0 at h;split at h
  ·exact Co.same trivial
  ·cases h
 nb n x:=trivial
def aEC:(∀x,aaL.enc x=.agg [])/\(∀H v,aaL.mo H v=dE0 v)/\dE0 (.agg [])=some ():=⟨fun _=>rfl,fun _ _=>rfl,rfl⟩
attribute [go_sem] aEB aEC
def M7(t:Ty W)(p:Str×W):AV×AV:=(.str (sb p.1),t.enc p.2)
section
variable {t:Ty W}
theorem aaM:∀xs:List (Str×W),OU (xs.map (M7 t))=true
 |[]=>rfl
 |_::xs=>aaM xs
theorem afm(s:Str):∀xs:List (Str×W),ze (sb s) (xs.map (M7 t))=(oF s xs).map t.enc
 |[]=>rfl
 |(k,v)::xs=>by
  show(bif sb s==sb k then some (t.enc v)else ze (sb s) (xs.map (M7 t)))=_;rw[an4,afm s xs]
  grind [oF]
theorem ahz(s:Str)(v:W):∀xs:List (Str×W),MW (sb s) (t.enc v) (xs.map (M7 t))=(Bi s v xs).map (M7 t)
 |[]=>rfl
 |(k,u)::xs=>by
  show(bif sb s==sb k then(AV.str (sb k),t.enc v)::xs.map (M7 t)else(AV.str (sb k),t.enc u)::MW (sb s) (t.enc v) (xs.map (M7 t)))=_;rw[an4,ahz s v xs];simp only[Bi];cases s==k<;>rfl
def oel(o:Option W)(a:γ)(f:W->γ):γ:=match o with
 |none=>a
 |some x=>f x
def ayW{a:γ}{f:W->γ}:oel none a f=a:=rfl
def ayX{x:W}{a:γ}{f:W->γ}:oel (some x) a f=f x:=rfl
def ayY{z:AV}{s:Str}{xs:List (Str×W)}:af6 z l (sb s) (some (.map (mp (M7 t) xs)))=oel (oF s xs) (some {val:=.Ip [z,.bool false],rd:=[l]}) (fun x=>some {val:=.Ip [t.enc x,.bool true],rd:=[l]}):=by
 rw[qD];simp only[af6,aaM,jE,afm];cases oF s xs<;>rfl
def aBQ{s:Str}{v:W}{xs:List (Str×W)}:CH l (sb s) (t.enc v) (some (.map (mp (M7 t) xs)))=some {val:=.any,rd:=[l],up:=[(l,.map (mp (M7 t) (Bi s v xs)))]}:=by
 grind [qD,CH,aaM,ahz]
def aiM(n:Nat)(xs:List (Str×W)):rJ n (.map (mp (M7 t) xs))=True:=by
 refine eq_true fun p hp=>?_
 rw[qD,List.mem_map]at hp;obtain⟨q,_,rfl⟩:=hp;exact⟨trivial,t.nb n q.2⟩
def aqJ(Y:Nat->Nat)(xs:List (Str×W)):(mp (M7 t) xs).map (fun p=>(AV.qc Y p.1,AV.qc Y p.2))=mp (M7 t) xs:=by
 rw[qD,List.map_map];refine List.map_congr_left fun q _=>?_
 show(AV.qc Y (.str (sb q.1)),AV.qc Y (t.enc q.2))=(.str (sb q.1),t.enc q.2);rw[M1 Y _ (t.nb 0 q.2)];rfl
theorem aqK(τ:Nat->Nat)(xs:List (Str×W)):(jT.map (mp (M7 t) xs)).qc τ=.map (mp (M7 t) xs):=by
 show jT.map ((mp (M7 t) xs).map _)=_;congr 1;exact aqJ τ xs
def aei(t:Ty W)(x:jT):Option (List (Str×W)):= @dite _ (∃xs,x=.map (mp (M7 t) xs)) (Classical.propDecidable _) (fun h=>some h.choose) (fun _=>none)
theorem aoa{x:jT}{xs:List (Str×W)}(h:aei t x=some xs):x=.map (mp (M7 t) xs):=by
 unfold aei at h;split at h
 all_goals grind
end
section inj
variable {t:Ty W} (hinj:∀x y,t.enc x=t.enc y->x=y)
include hinj
theorem au6:∀xs ys:List (Str×W),xs.map (M7 t)=ys.map (M7 t)->xs=ys
 |[],[],_=>rfl
 |[],_::_,h=>by simp at h
 |_::_,[],h=>by simp at h
 |(s,x)::xs,(s',y)::ys,h=>by
  simp only[List.map_cons,List.cons.injEq]at h;obtain⟨h1,h2⟩:=h;simp only[M7,Prod.mk.injEq,AV.str.injEq]at h1
  have e1:s=s':=by
   grind [VK]
  rw[e1,hinj _ _ h1.2,au6 xs ys h2]
theorem au7(xs:List (Str×W)):aei t (.map (mp (M7 t) xs))=some xs:=by
 have hh:∃ys,(jT.map (mp (M7 t) xs))=.map (mp (M7 t) ys):=⟨xs,rfl⟩
 grind [aei,qD,au6]
theorem awy:aei t (.map (mp He []))=some []:=by
 have:=au7 hinj [];rw[qD]at this ⊢;exact this
def ayZ:(∀xs,aei t (.map (mp (M7 t) xs))=some xs)/\aei t (.map [])=some []/\aei t (.map (mp He []))=some []:=by
 grind [au7,awy,qD]
end inj
section og

def ah5(t:Ty W):OG (List (Str×W)) where
 enc _ xs:=.map (mp (M7 t) xs)
 mo _ _ _:=aei t
 len _:=0
 lr:=0
 nb L g:=of_eq_true (aiM 0 g)
 ok Y L H n x g _ h:=by
  rw[aoa h];rw[aqK];exact .inr (.inl ⟨rfl,of_eq_true (aiM n g)⟩)
 ahr Y L H x g h:=by
  rw[aoa h];rfl
def aED{t:Ty W}:(∀L g,(ah5 t).enc L g=.map (mp (M7 t) g))/\(∀Y L H x,(ah5 t).mo Y L H x=aei t x)/\(∀g,(ah5 t).len g=0)/\(ah5 t).lr=0:=⟨fun _ _=>rfl,fun _ _ _ _=>rfl,fun _=>rfl,rfl⟩
def oM(t:Ty W):ZO:=⟨fun _ _ x=>(aei t x).bind fun xs=>some (.map (mp (M7 t) xs)),fun H n x y h=>by
 simp only[eS,eT]at h;obtain⟨xs,hx,rfl⟩:=h;rw[aoa hx];exact .inr (.inl ⟨rfl,of_eq_true (aiM n xs)⟩)⟩
def aIq{t:Ty W}{x:jT}:(oM t).f H n x=(aei t x).bind fun xs=>some (.map (mp (M7 t) xs)):=rfl
end og
def ajV{pos:List RI}
 (h:∀b a r,F b a=some r->FnG P f (aJU.enc (os.l9 b) a) (os.enc (os.l9 b) b) (fun o H'=>o=.ret (uv (Bj.enc (uW.l9 r.1) r.2))/\H'=uW.enc (uW.l9 r.1) r.1)):
 an9 P f (HB pos os aJU uW Bj uW Bj (fun b a=>(F b a).map fun r=>(PR.ok r:PR (O1×W1) (O1×W1)))):=by
 refine An (fun b a r hr=>?_);rw[eU]at hr;obtain⟨r',hr,rfl⟩:=hr;exact h b a r' hr
def aBR(v:AV)(s:AL δ)(Y:List Nat)(L:DS)(H:List jT):List AV->Option δ
 |x::xs=>ny (x=v) (s.mo Y L H xs)
 |_=>none
def alK(v:AV)(hv:v.nb 0)(s:AL δ):AL δ where
 enc L g:=v::s.enc L g
 mo:=aBR v s
 lr:=s.lr
 nb L g:=⟨AV.ahd (Nat.zero_le _) v hv,s.nb L g⟩
 ok Y L H n vs g hc h:=by
  unfold aBR at h;split at h
  ·rw[mg]at h;obtain⟨rfl,h⟩:=h;refine EG.cons ?_ (s.ok Y L H n _ _ hc h);rw[M1 _ _ hv];exact Co.same (AV.ahd (Nat.zero_le _) _ hv)
  ·cases h
def aGO{v:AV}{hv:v.nb 0}{s:AL δ}:(∀L g,(alK v hv s).enc L g=v::s.enc L g)/\(∀Y L H xs,(alK v hv s).mo Y L H xs=aBR v s Y L H xs)/\(alK v hv s).lr=s.lr:=⟨fun _ _=>rfl,fun _ _ _ _=>rfl,rfl⟩
attribute [go_sem] aGO aBR
section steps
variable {k:List Kt} {o:Option W}
def awz{rest:List aKg}{f:W->Option vW}:tw M j8 dst rest k J (oel o a f)=oel o (tw M j8 dst rest k J a) (fun x=>tw M j8 dst rest k J (f x)):=by cases o<;>rfl
def atK{rest:List aKg}{f:W->Option vW}:Ak M p dst rest j tr k J (oel o a f)=oel o (Ak M p dst rest j tr k J a) (fun x=>Ak M p dst rest j tr k J (f x)):=by cases o<;>rfl
end steps
attribute [go_sem] aIq ayW ayX ayY aED aqK awz atK anu
attribute [go_sem high] aiM aqJ
def aBS(d:Nat):Code->Bool
 | .seq (.region _ j8 false) _=>match j8.toList with
   |o::rest=>ahw o&&(o.dst==some d)&&acs rest
   |[]=>false
 |_=>false
def amP{c:Code}(h:aBS d c=true):∃id j8 y o rest,c=.seq (.region id j8 false) y/\j8.toList=o::rest/\ahw o=true/\o.dst=some d/\acs rest=true:=by
 unfold aBS at h
 grind
section aEE

def afn{M:kG (O1×W1)}{fn:Func}{r:O1×W1}{uW:OL O1}{Bj:AL W1}(G:Hh M)
 (hf:M.P.funcs[f]? =some fn) (hb:fn.body=some M.body) (ZH:aBS d M.body=true)
 (G9:w5 H.length (args++[x])) (H7:∀x∈H,rJ H.length x) (hn:fn.ntmps=n) (L1:fn.results=rs.toArray) (hb1:b1=eV low) (ho:M.out=xT M.P rs p1 b1 low uW Bj)
 (h:run M [.j8 (tP M [0]) ((tP M [0]).toList.drop 1),.cut [1],.at [1]] (jJ.put {jV:=args++eW (n-args.length) .any,heap:=H,low:=H.length} (some d) x)=some r) (hP:∀x J',M.pP x J'=none:=by intros;rfl):
 FnT M.P (ale M.P f) (args++[x]) H (fun o H'=>o=(enR uW Bj r).1/\H'=(enR uW Bj r).2):=by
 obtain⟨id,j8,y,o,rest,Ma,ah1,h1,h2,h3⟩:=amP ZH;have e:tP M [0]=j8:=by unfold tP;rw[Ma];rfl
 grind [aqH]
def afo{M:kG (O1×W1)}{fn:Func}{r:O1×W1}{uW:OL O1}{Bj:AL W1}(G:Hh M)
 (hf:M.P.funcs[f]? =some fn) (hb:fn.body=some M.body) (ZH:aBS d M.body=true)
 (G9:w5 H.length args) (H7:∀x∈H,rJ H.length x) (hn:fn.ntmps=n) (L1:fn.results=rs.toArray) (hb1:b1=eV low) (ho:M.out=xT M.P rs p1 b1 low uW Bj)
 (h:run M [.j8 (tP M [0]) ((tP M [0]).toList.drop 1),.cut [1],.at [1]] (jJ.put {jV:=args++eW (n-args.length) .any,heap:=H,low:=H.length} (some d) (.sO .nilIface))=some r) (hP:∀x J',M.pP x J'=none:=by intros;rfl):
 FnT M.P (ald M.P f) args H (fun o H'=>o=(enR uW Bj r).1/\H'=(enR uW Bj r).2):=by
 obtain⟨id,j8,y,o,rest,Ma,ah1,h1,h2,h3⟩:=amP ZH;have e:tP M [0]=j8:=by unfold tP;rw[Ma];rfl
 grind [aqI]
end aEE
section
variable {C:qu} {U:Nat->aKj} {a:Act} {w:aKk}

def atL(P:aKi)(rs:List ResultVar)(j:Nat)(r:Row γ)(s:HA (List γ×Unit) W)(J:jJ):Option ((List γ×Unit)×W):=
 bif J.df.isEmpty then(Bg P J rs).bind fun xs=>ay0 (Gi j r.sz false ⟨xs,J.heap,0,[]⟩) j r s J.low else none
where
 ay0 (τ:jJ) (j:Nat) (r:Row γ) (s:HA (List γ×Unit) W) (low:Nat):Option ((List γ×Unit)×W):=
  match τ.jV[j]? with
  |some (.lN l _)=>match τ.heap[l]? with
   |some y=>ny (low=0/\rJ 0 y/\w5 1 (sZ (Xy 0 l) τ.jV)) (((wh (oaT false r) uA).mo [y] [y]).bind fun b=>(s.mo b [y] (sZ (Xy 0 l) τ.jV)).bind fun a=>bif decide (s.lr<=1)then some (b,a)else none)
   |none=>none
  |_=>none
def acu{r:Row γ}{s:HA (List γ×Unit) W}{q:(List γ×Unit)×W}(h:atL P rs j r s J=some q):
 J.df=[]/\∃xs,Bg P J rs=some xs/\aef ⟨xs,J.heap,J.low,[]⟩ ⟨s.enc q.1 q.2,(wh (oaT false r) uA).enc q.1,J.low,[]⟩:=by
 unfold atL at h;cases hd0:J.df with
 |cons p q=>rw[hd0]at h;cases h
 |nil=>
 rw[hd0]at h;simp only[List.isEmpty_nil,jy]at h;simp only[eS]at h;obtain⟨xs,hx,h⟩:=h;refine⟨rfl,xs,hx,?_⟩;unfold atL.ay0 at h;split at h
 case h_2=>cases h
 rename_i l m hs;split at h
 case h_2=>cases h
 rename_i y hl;rw[mg]at h;obtain⟨⟨It,h1,h2⟩,h⟩:=h;simp only[eS]at h;obtain⟨b,hb,a,ha,h⟩:=h;cases hd:decide (s.lr<=1)with
 |false=>simp [hd]at h
 |true=>
  simp only[hd,jy,eT]at h;subst h;rw[It];have i1:KB ⟨xs,J.heap,0,[]⟩ (Gi j r.sz false ⟨xs,J.heap,0,[]⟩):=ajF;have aGe:(Gi j r.sz false ⟨xs,J.heap,0,[]⟩).low=0:=by unfold Gi;split<;>rfl
  have aIm:(Gi j r.sz false ⟨xs,J.heap,0,[]⟩).df=[]:=by unfold Gi;split<;>rfl
  generalize hτ:Gi j r.sz false ⟨xs,J.heap,0,[]⟩=τ at*;have i2:aef ⟨τ.jV,τ.heap,0,[]⟩ ⟨sZ (Xy 0 l) τ.jV,τ.heap.take 0++[y],0,[]⟩:=aaI hl (Nat.zero_le _) (by simp) h1 h2;have e:τ=⟨τ.jV,τ.heap,0,[]⟩:=by cases τ;grind
  rw[e]at i1;refine(i1.e.trans i2).trans ?_;simp only[List.take_zero,List.nil_append];obtain⟨h5,h6⟩:=(wh (oaT false r) uA).ok [y] 1 _ _ hb;refine KB.e (ajd.imp (J:=⟨sZ (Xy 0 l) τ.jV,[y],0,[]⟩) (J':=⟨s.enc b a,(wh (oaT false r) uA).enc b,0,[]⟩) ⟨⟨⟨rfl,Nat.zero_le _⟩,rfl,aay⟩,?_,?_⟩)
  ·show EG [y] ((wh (oaT false r) uA).enc b).length _ _;rw[h6];exact s.ok b [y] 1 _ a (jC hd) ha
  grind
end
section open_
variable {k:List Kt}
def atM{rest:List aKg}{rd:List Nat}{up:List (Nat×jT)}{nw:List jT}{pr:Prop}:
 Ak M p dst rest j tr k J (some {val:=x,rd,up,nw,pre:=pr,whole:=true})=ny pr (ny (Xz M p tr j {val:=x,rd,up,nw,pre:=pr,whole:=true}) (run M (.RG p rest (j+1) (M2 tr j J.heap.length {val:=x,rd,up,nw,pre:=pr,whole:=true})::k) {J.put dst x with heap:=mh J.heap up++nw})):=by
 rw[<-acm];rfl
def ay1(M:kG R)(p:List Nat)(c:Nat)(o:aKg)(rest:List aKg)(j:Nat)(J:jJ):Option vW->Prop
 |some e=>(e.pre/\e.up=[]/\e.nw=[])/\aaD M p c rest (j+1) (J.put o.dst e.val)
 |none=>False
def aqL(M:kG R)(p:List Nat)(c:Nat)(o:aKg)(rest:List aKg)(j:Nat)(J:jJ):Option (aKh×List AV)->Prop
 |some _=>False
 |none=>ay1 M p c o rest j J (Xh M.P J o.op)
def au8(M:kG R)(p:List Nat)(c:Nat)(o:aKg)(rest:List aKg)(j:Nat)(J:jJ):Option Bool->Prop
 |none=>False
 |some false=>aaD M p c rest (j+1) (J.put o.dst (.sO undef))
 |some true=>aqL M p c o rest j J (nk J o.op)
def atO{rest:List aKg}{e:vW}:ay1 M p c o rest j J (some e)=((e.pre/\e.up=[]/\e.nw=[])/\aaD M p c rest (j+1) (J.put o.dst e.val)):=rfl
def atP{rest:List aKg}:aqL M p c o rest j J none=ay1 M p c o rest j J (Xh M.P J o.op):=rfl
def atQ{rest:List aKg}:au8 M p c o rest j J (some true)=aqL M p c o rest j J (nk J o.op):=rfl
def aqM{rest:List aKg}:au8 M p c o rest j J (some false)=aaD M p c rest (j+1) (J.put o.dst (.sO undef)):=rfl
def atS{rest:List aKg}(h:L2 M p c j=false):aaD M p c (o::rest) j J=au8 M p c o rest j J (qx (tP M p) o J):=by
 unfold L2 at h;show VB M.P (tP M p) c (o::rest) j J=_;simp only[VB,h];cases hw:qx (tP M p) o J with
 |none=>rfl
 |some b=>
  cases b with
  |false=>rfl
  |true=>
   simp only[au8];cases hc:nk J o.op with
   |some q=>simp [aqL]
   |none=>
    simp only[true_and,aqL,<-uL];cases kQ M.P J o.op with
    |none=>rfl
    |some e=>rfl
end open_
attribute [go_sem] atM atO atP atQ aqM atS as6 atL atL.ay0
section

def aqN{E:Dw}{r:Row W}{vs:List aKj}(h:ko E ((l8 r).enc []::ys) vs):∃base c,ko E (.sO (.slice base 0 c)::ys) vs:=by
 obtain⟨u,us,e,⟨base,cap,hu,_⟩,h2⟩:=h;have hl:(mp r.enc ([]:List W)).length=0:=M3 _ _;rw[hl]at hu;exact⟨base,cap,u,us,e,hu,h2⟩
def ay2{r:Row W}{V:AV->Prop}(h:∀base c,KD P f (.sO (.slice base 0 c)::ys) V):KD P f ((l8 r).enc []::ys) V:=by
 obtain⟨h1,h2,h3⟩:=h none 0;refine⟨h1,⟨(l8 r).nb 0 _,h2.2⟩,fun C U w a b c d vs hv=>?_⟩;obtain⟨base,cap,hr⟩:=aqN hv;exact(h base cap).2.2 C U w a b c d vs hr
def afp{r:Row W}(h:∀base c,FnG P f (.sO (.slice base 0 c)::ys) [] V):FnG P f ((l8 r).enc []::ys) [] V:=by
 obtain⟨h1,h2,h2',h3⟩:=h none 0;refine⟨h1,⟨(l8 r).nb 0 _,h2.2⟩,h2',fun C U w a b c d e e2 vs hv=>?_⟩;obtain⟨base,cap,hr⟩:=aqN hv;exact(h base cap).2.2.2 C U w a b c d e e2 vs hr
def aqO:cellsOf (.agg [])=some []:=rfl
def atT:wm [] 0 []=[]:=rfl
def aGP:(∀l o v,(AV.ptr l o=AV.sO v)=False)/\(∀l o v,(AV.sO v=AV.ptr l o)=False)/\((AV.bool true=AV.bool false)=False)/\((AV.bool false=AV.bool true)=False):=by simp
def au9:(AV.bool b).nb 0:=trivial
def aDi:(AV.sO v).nb 0:=trivial
end
attribute [go_sem] List.isEmpty_nil aqO atT aGP
def oN(P:aKi)(f:Func)(n:Nat)(out:jJ->Option R)(cl:aKh->List AV->List jT->Option (AV×List jT):=nE [])(cd:aKh->List AV->Option AV:=M5 [])
 (tv:List Nat->jJ->Option jJ:=sj []) (cut:List Nat->jJ->Option jJ:=aaH []) (xb:aKh->Bool:=mE []) (cp:aKh->List AV->List jT->Option (vf×List jT):=fun _ _ _=>none)
 (pP:AV->jJ->Option R:=fun _ _=>none) (xy:aKh->Bool:=fun _=>false) (co:aKh->List AV->List jT->Option CO:=fun _ _ _=>none) (xF:aKh->Bool:=fun _=>false)
 (ce:aKh->List AV->List jT->Option vW:=fun _ _ _=>none) (js:List Nat->List (Int×Code):=fun _=>[]) (cy:Nat->List AV->List jT->Option (AV×List jT):=fun _ _ _=>none):kG R:=
 {P:=P,body:=f.body.getD .skip,cl:=cl,cd:=cd,tv:=tv,cut:=cut,n:=n,out:=out,xb:=xb,cp:=cp,pP:=pP,xy:=xy,co:=co,xF:=xF,ce:=ce,js:=js,cy:=cy}
section
variable {f:Func} {tv:List Nat->jJ->Option jJ} {cut:List Nat->jJ->Option jJ} {xb:aKh->Bool}
 {pP:AV->jJ->Option R} {xy:aKh->Bool} {co:aKh->List AV->List jT->Option CO} {xF:aKh->Bool} {ce:aKh->List AV->List jT->Option vW} {js:List Nat->List (Int×Code)} {cy:Nat->List AV->List jT->Option (AV×List jT)}
def aGQ:(oN P f n out cl cd tv cut xb cp pP xy co xF ce js cy).P=P/\(oN P f n out cl cd tv cut xb cp pP xy co xF ce js cy).body=f.body.getD .skip/\(oN P f n out cl cd tv cut xb cp pP xy co xF ce js cy).n=n/\
 (oN P f n out cl cd tv cut xb cp pP xy co xF ce js cy).out=out/\(oN P f n out cl cd tv cut xb cp pP xy co xF ce js cy).cl=cl/\(oN P f n out cl cd tv cut xb cp pP xy co xF ce js cy).cd=cd/\
 (oN P f n out cl cd tv cut xb cp pP xy co xF ce js cy).tv=tv/\(oN P f n out cl cd tv cut xb cp pP xy co xF ce js cy).cut=cut/\(oN P f n out cl cd tv cut xb cp pP xy co xF ce js cy).xb=xb/\
 (oN P f n out cl cd tv cut xb cp pP xy co xF ce js cy).cp=cp/\(oN P f n out cl cd tv cut xb cp pP xy co xF ce js cy).pP=pP/\(oN P f n out cl cd tv cut xb cp pP xy co xF ce js cy).xy=xy/\
 (oN P f n out cl cd tv cut xb cp pP xy co xF ce js cy).co=co/\(oN P f n out cl cd tv cut xb cp pP xy co xF ce js cy).xF=xF/\(oN P f n out cl cd tv cut xb cp pP xy co xF ce js cy).ce=ce/\
 (oN P f n out cl cd tv cut xb cp pP xy co xF ce js cy).js=js/\(oN P f n out cl cd tv cut xb cp pP xy co xF ce js cy).cy=cy:=⟨rfl,rfl,rfl,rfl,rfl,rfl,rfl,rfl,rfl,rfl,rfl,rfl,rfl,rfl,rfl,rfl,rfl⟩
end
@[reducible] def ini(args:List AV)(n:Nat)(H:List jT:=[]):jJ:={jV:=args++eW (n-args.length) .any,heap:=H,low:=H.length}
class Fu(W:Type) where z:W
instance {W:Type}:Fu (Option W):=⟨none⟩
instance {W O:Type}[Fu O]:Fu (W->O):=⟨fun _=>Fu.z⟩
def fu[Fu W](F:Nat->W):Nat->W
 |0=>Fu.z
 |n+1=>F n
def kA[Fu W]{F:Nat->W}:fu F (n+1)=F n:=rfl
def AU{W:Type}[Fu W](F:W->W):Nat->W
 |0=>Fu.z
 |m+1=>F (AU F m)
def lpM{W:Type}[Fu W](F:Nat->W->W):Nat->W
 |0=>Fu.z
 |m+1=>F m (lpM F m)
def atU{W:Type}[Fu W]{F:W->W}{G:Nat->W->Prop}(h0:G 0 Fu.z)(hs:∀m X,G m X->G (m+1) (F X)):∀m,G m (AU F m)
 |0=>h0
 |m+1=>hs m _ (atU h0 hs m)
def ay3{W:Type}[Fu W]{F:Nat->W->W}{G:Nat->W->Prop}(h0:G 0 Fu.z)(hs:∀m X,G m X->G (m+1) (F m X)):∀m,G m (lpM F m)
 |0=>h0
 |m+1=>hs m _ (ay3 h0 hs m)
@[reducible] def nN(l:List AV):List AV:=.any::.any::.any::.any::l
@[reducible] def nu(l:List AV):List AV:=.any::.any::.any::.any::.any::.any::.any::.any::.any::.any::.any::.any::.any::.any::.any::.any::l
@[reducible] def DT(l:List AV):List AV:=nu (nu (nu (nu l)))
@[reducible] def nj(l:List NZ):List NZ:=zA::zA::zA::zA::l
@[reducible] def nh(l:List NZ):List NZ:=nj (nj (nj (nj l)))
@[reducible] def DU(l:List NZ):List NZ:=nh (nh (nh (nh l)))
def gd{f:Func}{xb:aKh->Bool}
 {pP:AV->jJ->Option R}
 (a:∀f args J r H',cl f args (jJ.heap J)=some (r,H')->Bf P f args J (fun o FJ=>o=.ret r/\FJ=H')) (d:∀f args r,cd f args=some r->KD P f args (fun v=>v=r))
 (y:∀l args J r H',cy l args (jJ.heap J)=some (r,H')->MY P l args J (fun o FJ=>o=.ret r/\FJ=H'):=by exact uK) (e:∀f args J e,ce f args (jJ.heap J)=some e->Hz P f args J e:=by exact uM)
 (p:∀f args J o H',cp f args (jJ.heap J)=some (o,H')->Bf P f args J (fun o' FJ=>o'=o/\FJ=H'):=by exact vU)
 (c:∀f args J,(∀e,co f args (jJ.heap J)=some (.ret e)->Hz P f args J e)/\∀x H',co f args J.heap=some (.pan x H')->aji P f args J.heap x H':=by exact vg):
 Hh (oN P f n out cl cd (sj nl) (aaH cu) xb cp pP xy co xF ce js cy):=⟨a,d,qI _,rz _,y,e,p,c⟩
section
variable {O2 W2:Type}
abbrev SG(P:aKi)(g:aKh)(aJU:AL γ)(os:OL O)(b:O)(a:γ)(uW:OL O1)(s:AL W)(r:O1×W):Prop:=
 FnG P g (aJU.enc (os.l9 b) a) (os.enc (os.l9 b) b) (fun o H'=>o=.ret (uv (s.enc (uW.l9 r.1) r.2))/\H'=uW.enc (uW.l9 r.1) r.1)
abbrev SP(P:aKi)(g:aKh)(aJU:AL γ)(os:OL O)(b:O)(a:γ)(pk:Bool)(uW:OL O1)(s1:AL W1)(Ci:OL O2)(s2:AL W2)(r:PR (O1×W1) (O2×W2)):Prop:=
 FnP P g (aJU.enc (os.l9 b) a) (os.enc (os.l9 b) b) (enP pk uW s1 Ci s2 r)
@[reducible] def aob(aJU:AL γ)(os:OL O)(b:O)(a:γ)(k:Nat):jJ:=ini (aJU.enc (os.l9 b) a) k (os.enc (os.l9 b) b)
def nbA{aJU:AL γ}{os:OL O}{b:O}{a:γ}(h:decide (aJU.lr<=os.size)=true):w5 (os.enc (os.l9 b) b).length (aJU.enc (os.l9 b) a):=
 sY (Nat.le_trans (jC h) (Nat.le_of_eq (os.sz _ _).symm)) _ (aJU.nb _ _)
def nbO{os:OL O}{b:O}(h:decide (os.lr<=os.size)=true):∀x∈os.enc (os.l9 b) b,rJ (os.enc (os.l9 b) b).length x:=
 fun x hx=>Ff (Nat.le_trans (jC h) (Nat.le_of_eq (os.sz _ _).symm)) _ (os.nb _ _ x hx)
variable {fn:Func} {m:Nat} {tv:List Nat->jJ->Option jJ} {cut:List Nat->jJ->Option jJ} {xb:aKh->Bool}
 {xy:aKh->Bool} {co:aKh->List AV->List jT->Option CO} {xF:aKh->Bool} {ce:aKh->List AV->List jT->Option vW} {js:List Nat->List (Int×Code)} {cy:Nat->List AV->List jT->Option (AV×List jT)} {k:Nat} {g:aKh} {rs:List ResultVar} {p1 p2:List RI} {b1 b2:List Nat} {low:Nat}
 {R:Type} {t:Ty R} {args:List AV} {aJU:AL γ} {os:OL O} {b:O} {a:γ} {os0:OL O1} {s:AL W} {uW:OL O1} {Bj:AL W1} {Ci:OL O2} {JH:AL W2}
def okC{r:R}(h:run (oN P fn m (oB P rs t) cl cd tv cut xb cp (fun _ _=>none) xy co xF ce js cy) [.at []] (ini args k)=some r)(G:Hh (oN P fn m (oB P rs t) cl cd tv cut xb cp (fun _ _=>none) xy co xF ce js cy))(hf:P.funcs[g]? =some fn)(G9:w5 0 args)(hn:fn.ntmps=k)(L1:fn.results=rs.toArray)(hb:fn.body=some (fn.body.getD .skip):=by exact rfl)(sA:(fn.name != "runtime.NumGoroutine")=true:=by exact rfl):KD P g args (fun v=>v=t.enc r):=
 aiJ G hf hb sA G9 hn L1 (fun J hs=>afa hs) h
def okG{r:O1×W}(h:run (oN P fn m (xT P rs p1 b1 low os0 s) cl cd tv cut xb cp (fun _ _=>none) xy co xF ce js cy) [.at []] (aob aJU os b a k)=some r)(G:Hh (oN P fn m (xT P rs p1 b1 low os0 s) cl cd tv cut xb cp (fun _ _=>none) xy co xF ce js cy))(hf:P.funcs[g]? =some fn)(hn:fn.ntmps=k)(L1:fn.results=rs.toArray)(h1:decide (aJU.lr<=os.size)=true:=by kernel_rfl)(h2:decide (os.lr<=os.size)=true:=by kernel_rfl)(hb1:b1=eV low:=by exact rfl)(hb:fn.body=some (fn.body.getD .skip):=by exact rfl)(sA:(fn.name != "runtime.NumGoroutine")=true:=by exact rfl):SG P g aJU os b a os0 s r:=
 zg G hf hb sA (nbA h1) (nbO h2) hn L1 (fun J hs=>Sj hb1 hs) h
def okP{r:PR (O1×W1) (O2×W2)}(h:run (oN P fn m (qE P rs p1 b1 low uW Bj) cl cd tv cut xb cp (qF p2 b2 low Ci JH) xy co xF ce js cy) [.at []] (aob aJU os b a k)=some r)(G:Hh (oN P fn m (qE P rs p1 b1 low uW Bj) cl cd tv cut xb cp (qF p2 b2 low Ci JH) xy co xF ce js cy))(hf:P.funcs[g]? =some fn)(hn:fn.ntmps=k)(L1:fn.results=rs.toArray)(h1:decide (aJU.lr<=os.size)=true:=by kernel_rfl)(h2:decide (os.lr<=os.size)=true:=by kernel_rfl)(zf: ∀b a,∃y,JH.enc (Ci.l9 b) a=[y]:=by exact fun b a=>⟨_,rfl⟩)(hb1:b1=eV low:=by exact rfl)(hb2:b2=eV low:=by exact rfl)(hb:fn.body=some (fn.body.getD .skip):=by exact rfl)(sA:(fn.name != "runtime.NumGoroutine")=true:=by exact rfl):SP P g aJU os b a true uW Bj Ci JH r:=
 aBN G hf hb sA (nbA h1) (nbO h2) hn L1 hb1 hb2 zf rfl rfl h
def okS{r:PR (O1×W1) (O2×W2)}(h:run (oN P fn m (afl P rs p1 b1 low uW Bj p2 Ci JH) cl cd tv cut xb cp (fun _ _=>none) xy co xF ce js cy) [.at []] (aob aJU os b a k)=some r)(G:Hh (oN P fn m (afl P rs p1 b1 low uW Bj p2 Ci JH) cl cd tv cut xb cp (fun _ _=>none) xy co xF ce js cy))(hf:P.funcs[g]? =some fn)(hn:fn.ntmps=k)(L1:fn.results=rs.toArray)(h1:decide (aJU.lr<=os.size)=true:=by kernel_rfl)(h2:decide (os.lr<=os.size)=true:=by kernel_rfl)(hb1:b1=eV low:=by exact rfl)(hb:fn.body=some (fn.body.getD .skip):=by exact rfl)(sA:(fn.name != "runtime.NumGoroutine")=true:=by exact rfl):SP P g aJU os b a false uW Bj Ci JH r:=
 aBO G hf hb sA (nbA h1) (nbO h2) hn L1 hb1 rfl h
end
attribute [go_sem] aGQ aob ini nN nu DT nj nh DU
section
variable {δ':Type}
def aGR(tN:Bool)(row:Row W)(s:AL δ)(rs:AL δ')(F:(List W×Unit)->δ->Option ((List W×Unit)×δ')):List AV->List jT->Option CO:=fun args H=>match args with
 | .lN l n::cs=>match H[l]? with
   |some x=>(daT tN row x).bind fun rows=>ny (n=rows.length) (ny (x=.lN tN row.sz (mp row.enc rows)) ((s.mo [] ((zh (ogA tN row) Du).l9 (rows,())) H cs).bind fun a=>ny (cs=s.enc ((zh (ogA tN row) Du).l9 (rows,())) a) ((F (rows,()) a).bind fun r=>
     ny (r.1=(rows,())) (some (.ret {val:=uv (rs.enc ((zh (ogA tN row) Du).l9 (rows,())) r.2),rd:=[l]})))))
   |none=>none
 |_=>none
def aBT{tN:Bool}{row:Row W}{s:AL δ}{rs:AL δ'}{F:(List W×Unit)->δ->Option ((List W×Unit)×δ')}:aGR tN row s rs F (.lN l n::cs) H=match H[l]? with
 |some x=>(daT tN row x).bind fun rows=>ny (n=rows.length) (ny (x=.lN tN row.sz (mp row.enc rows)) ((s.mo [] ((zh (ogA tN row) Du).l9 (rows,())) H cs).bind fun a=>ny (cs=s.enc ((zh (ogA tN row) Du).l9 (rows,())) a) ((F (rows,()) a).bind fun r=>
   ny (r.1=(rows,())) (some (.ret {val:=uv (rs.enc ((zh (ogA tN row) Du).l9 (rows,())) r.2),rd:=[l]})))))
 |none=>none:=rfl
def aBU{tN:Bool}{row:Row W}{s:AL δ}{rs:AL δ'}{F:(List W×Unit)->δ->Option ((List W×Unit)×δ')}{t:Nat}{rows:List (List AV)}:aGR tN row s rs F (.kW b t rows::cs) H=none:=rfl
end
def aqP{k:List Kt}{rest:List aKg}{c:Prop}{x:Option (AV×List jT)}:Qt M j8 dst rest k J (ny c x)=ny c (Qt M j8 dst rest k J x):=by
 grind [ny,ajx]
attribute [go_sem] aqP aBT aBU
def awA(P:aKi)(u:FrameMode)(f:aKh):aKj->aKk->Array aKj->(Ending->aKk->Prop)->Prop:=fun _ w vs R=>
 CallsDIn Fence.wide 0 P f vs u w fun e u' w'=>∃r,e=.returned r/\u'=u/\R (.returned r) w'
def amQ:aaC (awA P u f):=⟨fun _ _ _ _ _ hr h=>xL h fun _ _ _ ⟨r,h1,h2,h3⟩=>⟨r,h1,h2,hr _ _ h3⟩⟩
def aBV{fn:Func}{c:Code}(hf:P.funcs[f]? =some fn)(hb:fn.body=some c)
 (G9:w5 H.length args) (H7:∀x∈H,rJ H.length x) (hn:fn.ntmps=n) (L1:fn.results=rs.toArray)
 (h:awp P c (aqC P rs V) {jV:=args++eW (n-args.length) .any,heap:=H,low:=H.length}):FnT P (awA P u f) args H V:=by
 refine⟨G9,H7,fun C U w hP h0 hN0 hφ0 hM HS vs hr=>?_⟩;subst hP;have hsz:vs.size=args.length:=by have:=hr.length;simpa using this
 have S:mM C U {jV:=args++eW (n-args.length) .any,heap:=H,low:=H.length} {tmps:=vs++Array.replicate (fn.ntmps-vs.size) undef,defers:=[]} w:=by
  refine {HS with jV:=?_,defers:=sQ.nil};simp only[Array.toList_append,Array.toList_replicate];refine hr.append ?_;rw[hsz,hn];have:=ko.Fc (E:=C.env U H w) (eW (n-args.length) undef);simpa using this
 have It:∀{U':Nat->aKj}{J':jJ}{a'':Act}{w'':aKk},mM C U' J' a'' w''->J'.low=H.length:=fun S'=>by rw[<-S'.low.1];exact hN0
 refine Sk hf hb trivial ?_;intro c₀ cs hu;refine wpSIn_of_wpIn rfl (wpIn_mono (ye (ro:=none) c _ U _ _ w (.inl rfl) h S) ?_);intro e a' w' hq
 have xw:∀U' J',mM C U' J' a' w'->J'.df=[]/\agp C.P rs V none J'->Qx C fn c₀ cs (fun e u2 w'=>∃r,e=.returned r/\u2=u/\∃o U' H',V o H'/\mM C U' {jV:=[],heap:=H',low:=H.length} {tmps:= #[],defers:=[]} w'/\o.rep (C.env U' H' w') (.returned r)) .normal a' (c₀::cs) w':=by
  rintro U' J' S' ⟨ZI,xr,hx,r,H',hex,hV'⟩;refine⟨u,by rw[<-hu],U',J',S',ZI,fun w'' S''=>?_⟩;obtain⟨vv,hv,rv⟩:=NX (fn:=fn) S'' (by rw[L1];exact hx);obtain⟨U3,S3,hr3⟩:=hex C U' _ w'' S'' vv rv;rw[It S'']at S3;exact⟨vv,hv,vv,rfl,rfl,.ret r,U3,H',hV',S3,hr3⟩
 cases e with
 |normal=>obtain⟨U',J',S',hq⟩:=hq;exact xw U' J' S' hq
 |ret=>obtain⟨U',J',S',hq⟩:=hq;exact xw U' J' S' hq
 |exit id=>obtain⟨_,_,_,hq⟩:=hq;exact hq.elim
 |goto l=>obtain⟨_,_,_,hq⟩:=hq;exact hq.elim
 |panic chain=>obtain⟨_,_,_,_,_,hq,_⟩:=hq;exact hq.elim
 |outgrown=>exact hq.elim
section

def aqQ{M:kG (O1×W1)}{fn:Func}{r:O1×W1}{uW:OL O1}{Bj:AL W1}(G:Hh M)
 (hf:M.P.funcs[f]? =some fn) (hb:fn.body=some M.body) (G9:w5 H.length args) (H7:∀x∈H,rJ H.length x) (hn:fn.ntmps=n) (L1:fn.results=rs.toArray) (hb1:b1=eV low) (ho:M.out=xT M.P rs p1 b1 low uW Bj)
 (h:run M [.at []] {jV:=args++eW (n-args.length) .any,heap:=H,low:=H.length}=some r) (hP:∀x J',M.pP x J'=none:=by intros;rfl):
 FnT M.P (awA M.P u f) args H (fun o H'=>o=(enR uW Bj r).1/\H'=(enR uW Bj r).2):=by
 refine aBV hf hb G9 H7 hn L1 (XA G h (fun J hs=>?_) (fun x J hs=>by rw[hP x J]at hs;cases hs));rw[ho]at hs;obtain⟨hd,xs,hx,H6⟩:=Sj hb1 hs;have:=N2 (P:=M.P) hx H6;exact⟨⟨hd,this⟩,hd,this⟩
end
def spl{γ:Type}:List AV->(List AV->AV->Option γ)->Option γ
 |[],_=>none
 |[x],k=>k [] x
 |a::b::l,k=>spl (b::l) fun l x=>k (a::l) x
def aBW:spl [x] k=k [] x:=rfl
def ay5{a b:AV}{l:List AV}:spl (a::b::l) k=spl (b::l) fun l x=>k (a::l) x:=rfl
def aqR{γ:Type}:∀{l:List AV}{k:List AV->AV->Option γ}{r:γ},spl l k=some r->∃aJU x,l=aJU++[x]/\k aJU x=some r
 |[x],k,r,h=>⟨[],x,rfl,h⟩
 |a::b::l,k,r,h=>by
  obtain⟨aJU,x,h1,h2⟩:=aqR (l:=b::l) h
  grind
def aBX(c:RJ):RJ:=fun f args H=>spl args fun aJU x=>(c f aJU H).bind fun q=>some (.panic x,q.2)
def ay6(P:aKi)(c:RJ):Prop:=∀u,QOK P (awA P u) c
def ay7{c:RJ}(h:ay6 P c):QOK P (ald P) c:=by
 intro f args J o H' he;obtain⟨h1,h2⟩:=h .returning f args J o H' he;refine⟨h1,fun C U a w hP S vs hr=>?_⟩;refine xL (h2 C U a w hP S vs hr) ?_;rintro e u' w' ⟨r,rfl,rfl,h3⟩;exact⟨r,rfl,rfl,h3⟩
def ay8{c:RJ}(h:ay6 P c):QOK P (ale P) (aBX c):=by
 intro f args J o H' he;obtain⟨aJU,x,rfl,hk⟩:=aqR he;simp only[eS,eT,Prod.mk.injEq]at hk;obtain⟨q,hq,rfl,rfl⟩:=hk;refine⟨(h .returning f aJU J q.1 q.2 hq).1,fun C U a w hP S vs hr vs0 v hvs=>?_⟩;subst hvs
 have hr':ko (C.env U J.heap w) aJU vs0.toList/\pg (C.env U J.heap w) x v:=by
  rw[Array.toList_push]at hr
  have hl:vs0.toList.length=aJU.length:=by
   have:=hr.length;simp at this;simpa using this
  have h1:=hr.take aJU.length;have h2:=hr.drop aJU.length;rw[List.take_left' rfl,List.take_left' hl]at h1;rw[List.drop_left' rfl,List.drop_left' hl]at h2;obtain⟨u,us,he,r1,_⟩:=h2
  grind
 have hc:=(h (.panicking [{v,recovered:=false}]) f aJU {J with jV:=J.jV++[x]} q.1 q.2 hq).2;cases a with
 |mk tmps ds=>
 refine xL (hc C U _ w hP (S.anM hr'.2) vs0 hr'.1) ?_;rintro e u' w' ⟨r,rfl,rfl,o,U',H',⟨rfl,rfl⟩,S2,ui⟩;have S3:mM C U' {({J with heap:=q.2}:jJ)with jV:=({J with heap:=q.2}:jJ).jV++[x]} {tmps:=tmps.push v,defers:=ds} w':=S2;obtain⟨S4,h4⟩:=S3.asv S.len;exact⟨r,rfl,.inr ⟨v,rfl,.panic x,U',q.2,⟨rfl,rfl⟩,S4,v,rfl,h4⟩⟩
section ends
variable {W2 O2:Type}
def enX(f:jJ->Option R)(g:AV->jJ->Option R):Option AV->jJ->Option R
 |none,J=>f J
 |some x,J=>g x J
def aGS{f:jJ->Option R}{g:AV->jJ->Option R}:enX f g none J=f J/\∀x,enX f g (some x) J=g x J:=⟨rfl,fun _=>rfl⟩
def ajW(c:RJ)(f:jJ->Option R)(g:AV->jJ->Option R)(J:jJ):Option R:=ZJ c (aBX c) (enX f g) J.df none J
def ajX(c:RJ)(f:jJ->Option R)(g:AV->jJ->Option R)(x:AV)(J:jJ):Option R:=ZJ c (aBX c) (enX f g) J.df (some x) J
def aEF{c:RJ}:aBX c f args H=spl args fun aJU x=>(c f aJU H).bind fun q=>some (.panic x,q.2):=rfl
attribute [go_sem] aGS ajW ajX aEF aBW ay5
variable {fn:Func} {m:Nat} {tv:List Nat->jJ->Option jJ} {cut:List Nat->jJ->Option jJ} {xb:aKh->Bool}
 {xy:aKh->Bool} {co:aKh->List AV->List jT->Option CO} {xF:aKh->Bool} {ce:aKh->List AV->List jT->Option vW} {js:List Nat->List (Int×Code)} {cy:Nat->List AV->List jT->Option (AV×List jT)} {k:Nat} {g:aKh} {rs:List ResultVar} {p1 p2:List RI} {b1 b2:List Nat} {low:Nat}
 {aJU:AL γ} {os:OL O} {b:O} {a:γ} {os0:OL O1} {s:AL W} {uW:OL O1} {Bj:AL W1} {Ci:OL O2} {JH:AL W2} {c:RJ}
def aIr{r:PR (O1×W1) (O2×W2)}(hc:ay6 P c)(h:run (oN P fn m (ajW c (qE P rs p1 b1 low uW Bj) (qF p2 b2 low Ci JH)) cl cd tv cut xb cp (ajX c (qE P rs p1 b1 low uW Bj) (qF p2 b2 low Ci JH)) xy co xF ce js cy) [.at []] (aob aJU os b a k)=some r)
 (G:Hh (oN P fn m (ajW c (qE P rs p1 b1 low uW Bj) (qF p2 b2 low Ci JH)) cl cd tv cut xb cp (ajX c (qE P rs p1 b1 low uW Bj) (qF p2 b2 low Ci JH)) xy co xF ce js cy)) (hf:P.funcs[g]? =some fn) (hn:fn.ntmps=k) (L1:fn.results=rs.toArray)
 (h1:decide (aJU.lr<=os.size)=true:=by kernel_rfl) (h2:decide (os.lr<=os.size)=true:=by kernel_rfl) (zf: ∀b a,∃y,JH.enc (Ci.l9 b) a=[y]:=by exact fun b a=>⟨_,rfl⟩) (hb1:b1=eV low:=by exact rfl) (hb2:b2=eV low:=by exact rfl) (hb:fn.body=some (fn.body.getD .skip):=by exact rfl) (sA:(fn.name != "runtime.NumGoroutine")=true:=by exact rfl):SP P g aJU os b a true uW Bj Ci JH r:=by
 have he:∀m' J,J.df=[]->enX (qE P rs p1 b1 low uW Bj) (qF (O1:=O1) (W1:=W1) p2 b2 low Ci JH) m' J=some r->agp P rs (fun o H'=>o=(enP true uW Bj Ci JH r).1/\H'=(enP true uW Bj Ci JH r).2) m' J:=by
  intro m' J _ hs;cases m' with
  |none=>
   simp only[enX,qE,eU]at hs;obtain⟨q,hq,rfl⟩:=hs;obtain⟨hd,xs,hx,H6⟩:=Sj hb1 hq;exact N2 hx H6
  |some x=>
   simp only[enX,qF,eU]at hs;obtain⟨q,hq,rfl⟩:=hs;obtain⟨hd,H6⟩:=afh hb2 hq;obtain⟨y,hy⟩:=zf q.1 q.2;rw[hy]at H6;have:=aqa (P:=P) (rs:=rs) H6.e
   grind [enP,F7,amO,pkO]
 exact afc G hf hb sA (nbA h1) (nbO h2) hn L1 (fun J hs=>XJ (ay7 hc) (ay8 hc) he J.df none J rfl hs) (fun x J hs=>XJ (ay7 hc) (ay8 hc) he J.df (some x) J rfl hs) h
abbrev SD(P:aKi)(g:aKh)(aJU:AL γ)(os:OL O)(b:O)(a:γ)(uW:OL O1)(s:AL W1)(r:O1×W1):Prop:=
 ∀u,FnT P (awA P u g) (aJU.enc (os.l9 b) a) (os.enc (os.l9 b) b) (fun o H'=>o=(enR uW s r).1/\H'=(enR uW s r).2)
def okD{r:O1×W}(h:run (oN P fn m (xT P rs p1 b1 low os0 s) cl cd tv cut xb cp (fun _ _=>none) xy co xF ce js cy) [.at []] (aob aJU os b a k)=some r)(G:Hh (oN P fn m (xT P rs p1 b1 low os0 s) cl cd tv cut xb cp (fun _ _=>none) xy co xF ce js cy))(hf:P.funcs[g]? =some fn)(hn:fn.ntmps=k)(L1:fn.results=rs.toArray)(h1:decide (aJU.lr<=os.size)=true:=by kernel_rfl)(h2:decide (os.lr<=os.size)=true:=by kernel_rfl)(hb1:b1=eV low:=by exact rfl)(hb:fn.body=some (fn.body.getD .skip):=by exact rfl):SD P g aJU os b a os0 s r:=
 fun u=>aqQ G hf hb (nbA h1) (nbO h2) hn L1 hb1 rfl h
def aqS{e:ah4}(h:∀u,∀args (J:jJ) o H',e args J.heap=some (o,H')->enters P g=true/\Sh P (awA P u g) 0 args J (fun o' FJ=>o'=o/\FJ=H')):ay6 P (Qy [(g,e)]):=fun u=>KJ (h u) N3
end ends
def dNI:AV->Option Unit
 |.sO .nilIface=>some ()
 |_=>none
def ay9:Ty Unit where
 enc _:=.sO .nilIface
 mo _:=dNI
 ok H n v x h:=by
  unfold dNI at h;split at h
  ·exact Co.same trivial
  ·cases h
 nb n x:=trivial
def aEG:(∀x,ay9.enc x=.sO .nilIface)/\(∀H v,ay9.mo H v=dNI v)/\dNI (.sO .nilIface)=some ():=⟨fun _=>rfl,fun _ _=>rfl,rfl⟩
attribute [go_sem] aEG
def aza{T:TypeId}(he:enters P f=true)
 (h:∀(s:ByteArray)(n:Int)(w:aKk),s.size<=18->Lib.atoi s.data.toList=some n->Calls P f #[.string s] w fun e w'=>e=.returned (.tuple #[.int .i64 n,.nilIface])/\∃t,w'=Lib.bytesWorld w T t)
 (s:Str) (n:Int) (hl:s.length<=18) (hn:Lib.atoi s=some n):KD P f [mq.enc s] (fun v=>v=(ty2 (mP .i64) ay9).enc (n,())):=by
 refine⟨he,⟨mq.nb 0 _,trivial⟩,fun C U w hP hw hN0 hM vs hr=>?_⟩
 obtain rfl:vs= #[.string (sb s)]:=by
  obtain⟨v0,us,hvs,r0,ad8⟩:=hr;have hus:us=[]:=ad8;have e0:v0=.string (sb s):=r0;subst hus e0;cases vs;simp_all
 refine(h (sb s) n w (by rw[NI];exact hl) (by rw[XH];exact hn)).mono ?_;rintro e w' ⟨rfl,t,rfl⟩;have hb:=Lib.bytesWorld_below w T t;exact⟨_,_,U,rfl,rfl,⟨_,rfl,_,_,rfl,rfl,_,_,rfl,rfl,rfl⟩,hb.size,hb.block,fun x hx=>hb.frozen hx,hb.output,hb.os⟩
section
variable {C:qu} {U:Nat->aKj} {a:Act} {w:aKk}
def mM.calm(S:mM C U J a w):qu:=
 {P:=C.P,w0:=w,M0:=fun _ _=>False,A:=fun _ _=>False,hA:=fun _ _ h=>h.elim,hk:=⟨fun b o h=>let ⟨v,h1,h2,_⟩:=S.know.cell b o h;⟨v,h1,h2,fun f=>f⟩,fun b h=>⟨fun _ f=>f,(S.know.row b h).2⟩⟩}
def mM.ava(S:mM C U J a w):(C.env U J.heap w).Le 0 (S.calm.env U [] w):=by
 refine⟨Nat.zero_le _,fun l hl=>absurd hl (Nat.not_lt_zero _),fun b o u hm hc=>⟨?_,hc⟩,CF _⟩;simp only[qu.env,mM.calm];rintro(⟨l,x,hx,_⟩|h)
 ·simp at hx
 ·exact h
def avb:Option jT->Option AV
 |some (.cells cs)=>some (.pp cs)
 |_=>none
def Iy(H:List jT):AV->Option AV
 |.ptr l o=>bif o==0 then avb H[l]? else none
 |x=>some x
def aBY:(∀l,Iy H (.ptr l 0)=avb H[l]?)/\(∀k n,Iy H (.int k n)=some (.int k n))/\(∀b,Iy H (.bool b)=some (.bool b))/\(∀s,Iy H (.str s)=some (.str s))/\(∀t z r,Iy H (.kW t z r)=some (.kW t z r))/\(∀c,Iy H (.agg c)=some (.agg c))/\(∀c,Iy H (.pp c)=some (.pp c))/\(∀c,Iy H (.sO c)=some (.sO c))/\∀f x y,Iy H (.func f x y)=some (.func f x y):=
 ⟨fun _=>rfl,fun _ _=>rfl,fun _=>rfl,fun _=>rfl,fun _ _ _=>rfl,fun _=>rfl,fun _=>rfl,fun _=>rfl,fun _ _ _=>rfl⟩
def aBZ:avb (some (.cells cs))=some (.pp cs):=rfl
def aqT(S:mM C U J a w){y:AV}(h:Iy J.heap x=some y)(hn:y.nb 0)(r:pg (C.env U J.heap w) x v):pg (S.calm.env U [] w) y v:=by
 cases x with
 |ptr l o=>
  simp only[Iy]at h;cases ho:o==0 with
  |false=>rw[ho]at h;cases h
  |true=>
   rw[ho,jy]at h;have ho:=beq_iff_eq.1 ho;subst ho;cases hl:J.heap[l]? with
   |none=>rw[hl]at h;cases h
   |some z=>
    rw[hl]at h;cases z with
    |cells cs=>
     cases h;obtain⟨_,b,hb,rfl⟩:=r;obtain⟨b',c,t,qR,hc,rl,h1⟩:=S.nX l _ hl;have hb:U l=_:=hb;rw[hb]at qR;simp only[Value.pointer.injEq,eT,Addr.mk.injEq,and_true]at qR;subst qR
     have e:(c.toList.drop 0).take cs.length=c.toList:=by
      rw[List.drop_zero,List.take_of_length_le];have:=rl.length;omega
     refine⟨b,0,rfl,I8 (E:=S.calm.env U [] w) (c:=c) (t:=t) (fr:=(0,0)) hc cs 0 (fun o _ _=>?_) ?_ ?_⟩
     ·simp only[qu.env,mM.calm];rintro(⟨l,x,hx,_⟩|h)
      all_goals grind
     ·rw[e];exact ko.mono S.ava _ _ hn rl
     ·rw[e];exact h1
    |_=>cases h
 |_=>cases h;exact pg.mono S.ava _ _ hn r
def ahA(S:mM C U J a w):∀{xs ys:List AV}{vs:List aKj},r6 (Iy J.heap) xs=some ys->w5 0 ys->ko (C.env U J.heap w) xs vs->ko (S.calm.env U [] w) ys vs
 |[],ys,vs,h,_,r=>by simp only[r6,eT]at h;subst h;exact r
 |x::xs,ys,vs,h,hn,⟨u,us,hv,r1,r2⟩=>by
  simp only[r6,eS,eT]at h;obtain⟨y,hy,zs,hz,rfl⟩:=h;exact⟨u,us,hv,aqT S hy hn.1 r1,ahA S hz hn.2 r2⟩
def sc1:AV->AV
 |.int k n=>.int k n
 |.bool b=>.bool b
 |.str s=>.str s
 |_=>.any
def sc2:AV->AV
 |.agg cs=>.agg (cs.map sc1)
 |x=>sc1 x
def awB:AV->AV
 |.Ip cs=>.Ip (cs.map sc2)
 |x=>sc2 x
section
variable {E E':Dw}
def avc(h:pg E x v):pg E' (sc1 x) v:=by
 cases x with
 |int=>exact h
 |bool=>exact h
 |str=>exact h
 |_=>exact trivial
def aqU:∀{xs:List AV}{vs:List aKj},ko E xs vs->ko E' (xs.map sc1) vs
 |[],_,h=>h
 |_::_,_,⟨u,us,hv,r1,r2⟩=>⟨u,us,hv,avc r1,aqU r2⟩
def avd(h:pg E x v):pg E' (sc2 x) v:=by
 cases x with
 |agg cs=>obtain⟨vs,hv,hr⟩:=h;exact⟨vs,hv,aqU hr⟩
 |_=>exact avc h
def aqV:∀{xs:List AV}{vs:List aKj},ko E xs vs->ko E' (xs.map sc2) vs
 |[],_,h=>h
 |_::_,_,⟨u,us,hv,r1,r2⟩=>⟨u,us,hv,avd r1,aqV r2⟩
def azb(h:pg E x v):pg E' (awB x) v:=by
 cases x with
 |Ip cs=>obtain⟨vs,hv,hr⟩:=h;exact⟨vs,hv,aqV hr⟩
 |_=>exact avd h
end
def Dx(e:anV):Ent:=fun args H=>(r6 (Iy H) args).bind fun aJU=>(e aJU).bind fun r=>some (awB r,H)
def qd{e:anV}(h:Uo P f e):VG P f (Dx e):=by
 intro args J r H' he;unfold Dx at he;simp only[eS,eT,Prod.mk.injEq]at he;obtain⟨aJU,hv,q,hq,rfl,rfl⟩:=he;obtain⟨hen,G9,hc⟩:=h aJU q hq;refine⟨hen,fun C U a w hP S vs hr=>?_⟩;refine(hc S.calm U w hP rfl rfl (fun _ _ h=>h) vs (ahA S hv G9 hr)).mono ?_;rintro e' w' ⟨r,v,U',rfl,rfl,rep,hs,hh,hf,ho⟩;exact⟨.ret (awB r),U,J.heap,⟨rfl,rfl⟩,S.auF hs hh hf ho,azb rep⟩
def afq:AV->List Nat
 |.ptr l _=>[l]
 |_=>[]
def Qz:List AV->List Nat
 |[]=>[]
 |x::xs=>afq x++Qz xs
def aEH:(∀l o,afq (.ptr l o)=[l])/\(∀k n,afq (.int k n)=[])/\(∀b,afq (.bool b)=[])/\(∀s,afq (.str s)=[])/\(∀t z r,afq (.kW t z r)=[])/\(∀c,afq (.agg c)=[])/\(∀c,afq (.pp c)=[])/\(∀c,afq (.sO c)=[])/\(∀f x y,afq (.func f x y)=[])/\Qz []=[]/\∀x xs,Qz (x::xs)=afq x++Qz xs:=
 ⟨fun _ _=>rfl,fun _ _=>rfl,fun _=>rfl,fun _=>rfl,fun _ _ _=>rfl,fun _=>rfl,fun _=>rfl,fun _=>rfl,fun _ _ _=>rfl,rfl,fun _ _=>rfl⟩
def ave{H:List jT}: ∀{xs ys:List AV},r6 (Iy H) xs=some ys-> ∀l∈Qz xs,l<H.length
 |[],_,_,l,hl=>by simp [Qz]at hl
 |x::xs,ys,h,l,hl=>by
  simp only[r6,eS,eT]at h;obtain⟨y,hy,zs,hz,rfl⟩:=h;simp only[Qz,List.mem_append]at hl;rcases hl with hl|hl
  ·cases x with
   |ptr k o=>
    grind [afq,Iy,avb]
   |_=>simp [afq]at hl
  ·exact ave hz l hl
theorem ajY{H H':List jT}:∀{xs:List AV},(∀l∈Qz xs,H'[l]? =H[l]?)->r6 (Iy H') xs=r6 (Iy H) xs
 |[],_=>rfl
 |x::xs,h=>by
  have h1:Iy H' x=Iy H x:=by
   cases x with
   |ptr l o=>grind [Iy,Qz,afq]
   |_=>rfl
  simp only[r6,h1];rw[ajY fun l hl=>h l (by simp [Qz,hl])]
def aJo(e:anV):List AV->List jT->Option CO:=fun args H=>(r6 (Iy H) args).bind fun aJU=>(e aJU).bind fun r=>some (.ret {val:=awB r,rd:=Qz args})
def N4{e:anV}(h:Uo P f e):an9 P f (aJo e):=by
 intro args J;refine⟨fun ef he=>?_,fun x H' he=>?_⟩
 ·simp only[aJo,eS,eT,CO.ret.injEq]at he;obtain⟨aJU,hv,r,hr,rfl⟩:=he;refine⟨⟨ave hv,by simp⟩,fun J' h1 _ _=>?_⟩
  have:=qd h args J' (awB r) J'.heap (by
   grind [Dx,ajY])
  grind [mh]
 grind [aJo,eS]
end
attribute [go_sem] Dx aJo aBZ aBY aEH awB sc2 sc1
section ayj
variable {C:qu} {U:Nat->aKj} {a:Act} {w:aKk}
def atV {off s sz:Nat}(hl:J.heap[l]? =some (.cells cs))(hc:cs[off]? =some (.kW true s [])):
 KB J {jV:=J.jV,heap:=J.heap.set l (.cells (cs.set off (.lN J.heap.length 0)))++[.lN false sz []],low:=J.low,df:=J.df}:=by
 intro C U a w S;have mR:l<J.heap.length:=(eX.1 hl).1;obtain⟨b,c,t,hφ,hh,rl,h1⟩:=S.nX l _ hl;obtain⟨v,hv,base,cap,rfl,_,CK,_⟩:=rl.get hc;have CK:cap=0:=CK rfl;subst CK
 have S':=S.Xs (tN:=false) (sz:=sz) (rows:=[]) (w':=w) (h':=.slice base 0 0) (Nat.le_refl _) (fun _ _=>rfl) (fun _=>rfl) ⟨rfl,rfl⟩ (by
  intro b hb;cases base<;>simp [jT.block]at hb) (fun E' _ _=>⟨base,0,rfl,Nat.le_refl _,fun _=>rfl,by simp,fun b _ h0=>absurd rfl h0⟩)
 refine⟨(fun k=>if k=J.heap.length then .slice base 0 0 else U k),?_⟩;have Xf:(J.heap++[jT.lN false sz []])[l]? =some (.cells cs):=by grind
 have S2:=S'.ayk (l:=l) (cs:=cs) (ds:=cs.set off (.lN J.heap.length 0)) Xf (by
  intro b2 c2 t2 h3 h4 r
  have e1:b2=b:=by
   grind
  subst e1;rw[show w.heap[b2]? =some (.cells c t (0,0))from hh]at h4;simp only[eT,Obj.cells.injEq]at h4;obtain⟨rfl,_⟩:=h4
  have asj:=ko.set (i:=off) (c:=.lN J.heap.length 0) (v:=.slice base 0 0) r ⟨by simp [qu.env],⟨_,_,_,rfl⟩,fun k hk=>by
   grind [qu.env]⟩
  grind [e9])
 grind
def aoc(l off sz:Nat)(b:Bool)(J:jJ):jJ:=
 match J.heap[l]? with
 |some (.cells cs)=>match cs[off]? with
  |some (.kW true _ [])=>{jV:=J.jV,heap:=J.heap.set l (.cells (cs.set off (.lN J.heap.length 0)))++[.lN b sz []],low:=J.low,df:=J.df}
  |_=>J
 |_=>J
def awC {off sz:Nat}:KB J (aoc l off sz b J):=by
 unfold aoc;split
 ·rename_i cs hl;split
  ·rename_i s hc;cases b with
   |false=>exact atV hl hc
   |true=>exact amG hl hc
  ·exact KB.refl J
 ·exact KB.refl J
end ayj
def azc:List (List Nat×Nat×Nat×Nat×Bool)->List Nat->jJ->jJ
 |[],_,J=>J
 |(q,l,o,z,b)::t,p,J=>if p=q then aoc l o z b J else azc t p J
def avf:∀{t:List (List Nat×Nat×Nat×Nat×Bool)}{p:List Nat}{J:jJ},KB J (azc t p J)
 |[],_,_=>KB.refl _
 |(q,l,o,z,b)::t,p,J=>by
  unfold azc;split
  ·exact awC
  ·exact avf
def amR(fs:List (List Nat×List Nat))(gs:List (List Nat×Nat×Nat×Nat×Bool))(p:List Nat)(J:jJ):Option jJ:=(aaH fs p J).map (azc gs p)
def azd(fs:List (List Nat×List Nat))(gs:List (List Nat×Nat×Nat×Nat×Bool)):∀p J J',amR fs gs p J=some J'->KB J J':=by
 intro p J J' h;simp only[amR,eU]at h;obtain⟨J1,h1,rfl⟩:=h;exact(rz _ _ _ _ h1).trans avf
def gdM{f:Func}{gm:List (List Nat×Nat×Nat×Nat×Bool)}{xb:aKh->Bool}
 {pP:AV->jJ->Option R}
 (a:∀f args J r H',cl f args (jJ.heap J)=some (r,H')->Bf P f args J (fun o FJ=>o=.ret r/\FJ=H')) (d:∀f args r,cd f args=some r->KD P f args (fun v=>v=r))
 (y:∀l args J r H',cy l args (jJ.heap J)=some (r,H')->MY P l args J (fun o FJ=>o=.ret r/\FJ=H'):=by exact uK) (e:∀f args J e,ce f args (jJ.heap J)=some e->Hz P f args J e:=by exact uM)
 (p:∀f args J o H',cp f args (jJ.heap J)=some (o,H')->Bf P f args J (fun o' FJ=>o'=o/\FJ=H'):=by exact vU)
 (c:∀f args J,(∀e,co f args (jJ.heap J)=some (.ret e)->Hz P f args J e)/\∀x H',co f args J.heap=some (.pan x H')->aji P f args J.heap x H':=by exact vg):
 Hh (oN P f n out cl cd (sj nl) (amR cu gm) xb cp pP xy co xF ce js cy):=⟨a,d,qI _,azd _ _,y,e,p,c⟩
attribute [go_sem] azc amR aoc
section

abbrev agz(M:kG R)(p q:List Nat):Prop:=wV M p=true/\wV M q=true
abbrev aB0(M:kG R)(p q r:List Nat):Prop:=wV M p=true/\wV M q=true/\wV M r=true
abbrev aB1(M:kG R)(p q r s:List Nat):Prop:=wV M p=true/\wV M q=true/\wV M r=true/\wV M s=true
abbrev aqW(M:kG R)(p:List Nat)(a b c d:Nat):Prop:=RH M p a b=true/\RH M p c d=true
abbrev awD(M:kG R)(p:List Nat)(a b c d e f:Nat):Prop:=RH M p a b=true/\RH M p c d=true/\RH M p e f=true
abbrev Fj(M:kG R)(p:List Nat)(a b c d e f g h:Nat):Prop:=RH M p a b=true/\RH M p c d=true/\RH M p e f=true/\RH M p g h=true
end
def mB {p:O->Prop} (x:Subtype p:=by
    apply _root_.Subtype.mk
    repeat intro
    simp (config:={maxSteps:=100000000}) only[go_sem,_root_.Nat.reduceAdd,_root_.Nat.reduceSub,_root_.Nat.reduceLeDiff,_root_.Nat.reduceEqDiff,_root_.Nat.reduceBEq,_root_.Nat.reduceMul,_root_.Nat.reduceLT,_root_.Int.reduceLE,_root_.Int.reduceLT,_root_.Int.reduceToNat,_root_.Int.reduceBEq,_root_.Int.reduceEq,_root_.Option.getD_some,mixed, *];exact rfl):Subtype p:=x
def EH {p:O->Prop} (x:Subtype p:=by
    apply _root_.Subtype.mk
    repeat intro
    simp (config:={maxSteps:=100000000})-implicitDefEqProofs only[go_sem,_root_.Nat.reduceAdd,_root_.Nat.reduceSub,_root_.Nat.reduceLeDiff,_root_.Nat.reduceEqDiff,_root_.Nat.reduceBEq,_root_.Nat.reduceMul,_root_.Nat.reduceLT,_root_.Int.reduceLE,_root_.Int.reduceLT,_root_.Int.reduceToNat,_root_.Int.reduceBEq,_root_.Int.reduceEq,_root_.Option.getD_some,mixed, *];exact rfl):Subtype p:=x
section
variable {O2 W2:Type}
abbrev OKC(P:aKi)(g:aKh)(aJU:AL W)(t:Ty R)(F:Nat->W->Option R):Prop:=∀n a r,F n a=some r->KD P g (aJU.enc (fun _=>0) a) (fun v=>v=t.enc r)
variable {g:aKh} {T0 T1 T2 T3 T4 T5:Type} {t:Ty R}
def c0{F:Nat->Unit->Option R}(h:OKC P g kr t F)(n:Nat):∀r,F n ()=some r->KD P g [] (fun v=>v=t.enc r):=fun r=>h n () r
def c1{e0:Ty T0}{F:Nat->T0×Unit->Option R}(h:OKC P g (lw e0 kr) t F)(n:Nat):∀x r,F n (x,())=some r->KD P g [e0.enc x] (fun v=>v=t.enc r):=fun x r=>h n (x,()) r
def c2{e0:Ty T0}{e1:Ty T1}{F:Nat->T0×T1×Unit->Option R}(h:OKC P g (lw e0 (lw e1 kr)) t F)(n:Nat):∀x y r,F n (x,y,())=some r->KD P g [e0.enc x,e1.enc y] (fun v=>v=t.enc r):=fun x y r=>h n (x,y,()) r
def c3{e0:Ty T0}{e1:Ty T1}{e2:Ty T2}{F:Nat->T0×T1×T2×Unit->Option R}(h:OKC P g (lw e0 (lw e1 (lw e2 kr))) t F)(n:Nat):∀x y z r,F n (x,y,z,())=some r->KD P g [e0.enc x,e1.enc y,e2.enc z] (fun v=>v=t.enc r):=fun x y z r=>h n (x,y,z,()) r
def c4{e0:Ty T0}{e1:Ty T1}{e2:Ty T2}{e3:Ty T3}{F:Nat->T0×T1×T2×T3×Unit->Option R}(h:OKC P g (lw e0 (lw e1 (lw e2 (lw e3 kr)))) t F)(n:Nat):∀x y z u r,F n (x,y,z,u,())=some r->KD P g [e0.enc x,e1.enc y,e2.enc z,e3.enc u] (fun v=>v=t.enc r):=fun x y z u r=>h n (x,y,z,u,()) r
def c5{e0:Ty T0}{e1:Ty T1}{e2:Ty T2}{e3:Ty T3}{e4:Ty T4}{F:Nat->T0×T1×T2×T3×T4×Unit->Option R}(h:OKC P g (lw e0 (lw e1 (lw e2 (lw e3 (lw e4 kr))))) t F)(n:Nat):∀x y z u v r,F n (x,y,z,u,v,())=some r->KD P g [e0.enc x,e1.enc y,e2.enc z,e3.enc u,e4.enc v] (fun w=>w=t.enc r):=fun x y z u v r=>h n (x,y,z,u,v,()) r
def c6{e0:Ty T0}{e1:Ty T1}{e2:Ty T2}{e3:Ty T3}{e4:Ty T4}{e5:Ty T5}{F:Nat->T0×T1×T2×T3×T4×T5×Unit->Option R}(h:OKC P g (lw e0 (lw e1 (lw e2 (lw e3 (lw e4 (lw e5 kr)))))) t F)(n:Nat):∀x y z u v w r,F n (x,y,z,u,v,w,())=some r->KD P g [e0.enc x,e1.enc y,e2.enc z,e3.enc u,e4.enc v,e5.enc w] (fun q=>q=t.enc r):=fun x y z u v w r=>h n (x,y,z,u,v,w,()) r
end
abbrev LB(G:List Kt->W->Prop)(p:List Nat)(K:List Kt):Type:={B:W->W //∀m X,G (.lq m p::K) X->G (.at (0::p)::.lp m p::K) (B X)}
abbrev LB2(G0:List Kt->O->Prop)(p0:List Nat)(K0:List Kt)(G:List Kt->W->Prop)(p:List Nat)(K:Nat->List Kt):Type:={B:O->W->W //∀n aJm m X,G0 (.lq n p0::K0) aJm->G (.lq m p::K n) X->G (.at (0::p)::.lp m p::K n) (B aJm X)}
def Dv[Fu W](b:LB G p K)(L:Nat->W)(m:Nat)(hL:L=AU b.1:=by rfl)
 (h0:G (.lq 0 p::K) Fu.z:=by repeat intro
                             exact NY) (hs:∀m Z,G (.at (0::p)::.lp m p::K) Z->G (.lq (m+1) p::K) Z:=by
   intro m Z h
   repeat intro
   first
    |exact Gh.trans (h ..)
    |(refine Gh.trans ?_;apply h<;>assumption)):G (.lq m p::K) (L m):=hL ▸ atU (G:=fun m Z=>G (.lq m p::K) Z) h0 (fun m X h=>hs m _ (b.2 m X h)) m
def atW[Fu W]{G0:List Kt->O->Prop}{p0:List Nat}{K0:List Kt}{K:Nat->List Kt}(b:LB2 G0 p0 K0 G p K){aJm:O}(h:G0 (.lq n p0::K0) aJm)(L:Nat->W)(m:Nat)(hL:L=AU (b.1 aJm):=by rfl)
 (h0:G (.lq 0 p::K n) Fu.z:=by repeat intro
                               exact NY) (hs:∀m Z,G (.at (0::p)::.lp m p::K n) Z->G (.lq (m+1) p::K n) Z:=by
   intro m Z h
   repeat intro
   first
    |exact Gh.trans (h ..)
    |(refine Gh.trans ?_;apply h<;>assumption)):G (.lq m p::K n) (L m):=hL ▸ atU (G:=fun m Z=>G (.lq m p::K n) Z) h0 (fun m X h'=>hs m _ (b.2 n aJm m X h h')) m
section
variable {T0 T1 T2 T3 T4 T5:Type}
abbrev SC0(M:kG R)(N:Nat):Type:={B:Option R // run M [.at []] (ini [] N)=B}
abbrev atX(P:aKi)(g:aKh)(t:Ty R)(F:Option R):Prop:=∀r,F=some r->KD P g [] (fun v=>v=t.enc r)
abbrev RM(M:kG R)(t0:Ty T0)(N:Nat):Type:={B:T0->Option R //∀a,run M [.at []] (ini [t0.enc a] N)=B a}
abbrev Ap(P:aKi)(g:aKh)(t0:Ty T0)(t:Ty R)(F:T0->Option R):Prop:=∀a r,F a=some r->KD P g [t0.enc a] (fun v=>v=t.enc r)
abbrev SC2(M:kG R)(t0:Ty T0)(t1:Ty T1)(N:Nat):Type:={B:T0->T1->Option R //∀a b,run M [.at []] (ini [t0.enc a,t1.enc b] N)=B a b}
abbrev Fk(P:aKi)(g:aKh)(t0:Ty T0)(t1:Ty T1)(t:Ty R)(F:T0->T1->Option R):Prop:=∀a b r,F a b=some r->KD P g [t0.enc a,t1.enc b] (fun v=>v=t.enc r)
abbrev SC3(M:kG R)(t0:Ty T0)(t1:Ty T1)(t2:Ty T2)(N:Nat):Type:={B:T0->T1->T2->Option R //∀a b c,run M [.at []] (ini [t0.enc a,t1.enc b,t2.enc c] N)=B a b c}
abbrev atY(P:aKi)(g:aKh)(t0:Ty T0)(t1:Ty T1)(t2:Ty T2)(t:Ty R)(F:T0->T1->T2->Option R):Prop:=∀a b c r,F a b c=some r->KD P g [t0.enc a,t1.enc b,t2.enc c] (fun v=>v=t.enc r)
variable {fn:Func} {m:Nat} {tv:List Nat->jJ->Option jJ} {cut:List Nat->jJ->Option jJ} {xb:aKh->Bool}
 {xy:aKh->Bool} {co:aKh->List AV->List jT->Option CO} {xF:aKh->Bool} {ce:aKh->List AV->List jT->Option vW} {js:List Nat->List (Int×Code)} {cy:Nat->List AV->List jT->Option (AV×List jT)} {k:Nat} {g:aKh} {rs:List ResultVar} {p1 p2:List RI} {b1 b2:List Nat} {low:Nat} {t:Ty R} {t0:Ty T0} {t1:Ty T1} {t2:Ty T2} {t3:Ty T3} {t4:Ty T4} {t5:Ty T5}
def aB2(w:SC0 (oN P fn m (oB P rs t) cl cd tv cut xb cp (fun _ _=>none) xy co xF ce js cy) k)(G:Hh (oN P fn m (oB P rs t) cl cd tv cut xb cp (fun _ _=>none) xy co xF ce js cy))(hf:P.funcs[g]? =some fn)(hn:fn.ntmps=k)(L1:fn.results=rs.toArray)(hb:fn.body=some (fn.body.getD .skip):=by exact rfl)(sA:(fn.name != "runtime.NumGoroutine")=true:=by exact rfl):atX P g t w.1:=
 fun r h=>okC (w.2.trans h) G hf trivial hn L1 hb sA
def aB3{F:Nat->Option R}(h:∀n,atX P g t (F (n+1)))(h0:F 0=none:=by intros;rfl):∀n,atX P g t (F n)
 |0=>fun r h=>by rw[h0]at h;cases h
 |n+1=>h n
def Bk(w:RM (oN P fn m (oB P rs t) cl cd tv cut xb cp (fun _ _=>none) xy co xF ce js cy) t0 k)(G:Hh (oN P fn m (oB P rs t) cl cd tv cut xb cp (fun _ _=>none) xy co xF ce js cy))(hf:P.funcs[g]? =some fn)(hn:fn.ntmps=k)(L1:fn.results=rs.toArray)(hb:fn.body=some (fn.body.getD .skip):=by exact rfl)(sA:(fn.name != "runtime.NumGoroutine")=true:=by exact rfl):Ap P g t0 t w.1:=
 fun a r h=>okC ((w.2 a).trans h) G hf ⟨t0.nb 0 _,trivial⟩ hn L1 hb sA
def BO{F:Nat->T0->Option R}(h:∀n,Ap P g t0 t (F (n+1)))(h0:∀a,F 0 a=none:=by intros;rfl):∀n,Ap P g t0 t (F n)
 |0=>fun a r h=>by rw[h0]at h;cases h
 |n+1=>h n
def Iz(w:SC2 (oN P fn m (oB P rs t) cl cd tv cut xb cp (fun _ _=>none) xy co xF ce js cy) t0 t1 k)(G:Hh (oN P fn m (oB P rs t) cl cd tv cut xb cp (fun _ _=>none) xy co xF ce js cy))(hf:P.funcs[g]? =some fn)(hn:fn.ntmps=k)(L1:fn.results=rs.toArray)(hb:fn.body=some (fn.body.getD .skip):=by exact rfl)(sA:(fn.name != "runtime.NumGoroutine")=true:=by exact rfl):Fk P g t0 t1 t w.1:=
 fun a b r h=>okC ((w.2 a b).trans h) G hf ⟨t0.nb 0 _,t1.nb 0 _,trivial⟩ hn L1 hb sA
def Ks{F:Nat->T0->T1->Option R}(h:∀n,Fk P g t0 t1 t (F (n+1)))(h0:∀a b,F 0 a b=none:=by intros;rfl):∀n,Fk P g t0 t1 t (F n)
 |0=>fun a b r h=>by rw[h0]at h;cases h
 |n+1=>h n
def aB4(w:SC3 (oN P fn m (oB P rs t) cl cd tv cut xb cp (fun _ _=>none) xy co xF ce js cy) t0 t1 t2 k)(G:Hh (oN P fn m (oB P rs t) cl cd tv cut xb cp (fun _ _=>none) xy co xF ce js cy))(hf:P.funcs[g]? =some fn)(hn:fn.ntmps=k)(L1:fn.results=rs.toArray)(hb:fn.body=some (fn.body.getD .skip):=by exact rfl)(sA:(fn.name != "runtime.NumGoroutine")=true:=by exact rfl):atY P g t0 t1 t2 t w.1:=
 fun a b c r h=>okC ((w.2 a b c).trans h) G hf ⟨t0.nb 0 _,t1.nb 0 _,t2.nb 0 _,trivial⟩ hn L1 hb sA
def aEI{F:Nat->T0->T1->T2->Option R}(h:∀n,atY P g t0 t1 t2 t (F (n+1)))(h0:∀a b c,F 0 a b c=none:=by intros;rfl):∀n,atY P g t0 t1 t2 t (F n)
 |0=>fun a b c r h=>by rw[h0]at h;cases h
 |n+1=>h n
end
section
variable {O2 W2 Φ:Type}
abbrev SX(M:kG R)(aJU:AL γ)(os:OL O)(N:Nat)(u:Φ->O->γ->Option R):Type:={B:Φ //∀b a,run M [.at []] (aob aJU os b a N)=u B b a}
abbrev Bl(P:aKi)(g:aKh)(aJU:AL γ)(os:OL O)(uW:OL O1)(s:AL W)(F:O->γ->Option (O1×W)):Prop:=∀b a r,F b a=some r->SG P g aJU os b a uW s r
abbrev tu(P:aKi)(g:aKh)(aJU:AL γ)(os:OL O)(pk:Bool)(uW:OL O1)(s1:AL W1)(Ci:OL O2)(s2:AL W2)(F:O->γ->Option (PR (O1×W1) (O2×W2))):Prop:=∀b a r,F b a=some r->SP P g aJU os b a pk uW s1 Ci s2 r
variable {fn:Func} {m:Nat} {tv:List Nat->jJ->Option jJ} {cut:List Nat->jJ->Option jJ} {xb:aKh->Bool}
 {xy:aKh->Bool} {co:aKh->List AV->List jT->Option CO} {xF:aKh->Bool} {ce:aKh->List AV->List jT->Option vW} {js:List Nat->List (Int×Code)} {cy:Nat->List AV->List jT->Option (AV×List jT)} {k:Nat} {g:aKh} {rs:List ResultVar} {p1 p2:List RI} {b1 b2:List Nat} {low:Nat}
 {aJU:AL γ} {os:OL O} {os0:OL O1} {s:AL W} {uW:OL O1} {Bj:AL W1} {Ci:OL O2} {JH:AL W2} {c:RJ}
def Jn{u:Φ->O->γ->Option (O1×W)}(e:SX (oN P fn m (xT P rs p1 b1 low os0 s) cl cd tv cut xb cp (fun _ _=>none) xy co xF ce js cy) aJU os k u)(G:Hh (oN P fn m (xT P rs p1 b1 low os0 s) cl cd tv cut xb cp (fun _ _=>none) xy co xF ce js cy))(hf:P.funcs[g]? =some fn)(hn:fn.ntmps=k)(L1:fn.results=rs.toArray)(h1:decide (aJU.lr<=os.size)=true:=by kernel_rfl)(h2:decide (os.lr<=os.size)=true:=by kernel_rfl)(hb1:b1=eV low:=by exact rfl)(hb:fn.body=some (fn.body.getD .skip):=by exact rfl)(sA:(fn.name != "runtime.NumGoroutine")=true:=by exact rfl):Bl P g aJU os os0 s (u e.1):=fun b a r h=>okG ((e.2 b a).trans h) G hf hn L1 h1 h2 hb1 hb sA
def DV{u:Φ->O->γ->Option (PR (O1×W1) (O2×W2))}(e:SX (oN P fn m (qE P rs p1 b1 low uW Bj) cl cd tv cut xb cp (qF p2 b2 low Ci JH) xy co xF ce js cy) aJU os k u)(G:Hh (oN P fn m (qE P rs p1 b1 low uW Bj) cl cd tv cut xb cp (qF p2 b2 low Ci JH) xy co xF ce js cy))(hf:P.funcs[g]? =some fn)(hn:fn.ntmps=k)(L1:fn.results=rs.toArray)(h1:decide (aJU.lr<=os.size)=true:=by kernel_rfl)(h2:decide (os.lr<=os.size)=true:=by kernel_rfl)(zf: ∀b a,∃y,JH.enc (Ci.l9 b) a=[y]:=by exact fun b a=>⟨_,rfl⟩)(hb1:b1=eV low:=by exact rfl)(hb2:b2=eV low:=by exact rfl)(hb:fn.body=some (fn.body.getD .skip):=by exact rfl)(sA:(fn.name != "runtime.NumGoroutine")=true:=by exact rfl):tu P g aJU os true uW Bj Ci JH (u e.1):=fun b a r h=>okP ((e.2 b a).trans h) G hf hn L1 h1 h2 zf hb1 hb2 hb sA
def aGT{u:Φ->O->γ->Option (PR (O1×W1) (O2×W2))}(e:SX (oN P fn m (afl P rs p1 b1 low uW Bj p2 Ci JH) cl cd tv cut xb cp (fun _ _=>none) xy co xF ce js cy) aJU os k u)(G:Hh (oN P fn m (afl P rs p1 b1 low uW Bj p2 Ci JH) cl cd tv cut xb cp (fun _ _=>none) xy co xF ce js cy))(hf:P.funcs[g]? =some fn)(hn:fn.ntmps=k)(L1:fn.results=rs.toArray)(h1:decide (aJU.lr<=os.size)=true:=by kernel_rfl)(h2:decide (os.lr<=os.size)=true:=by kernel_rfl)(hb1:b1=eV low:=by exact rfl)(hb:fn.body=some (fn.body.getD .skip):=by exact rfl)(sA:(fn.name != "runtime.NumGoroutine")=true:=by exact rfl):tu P g aJU os false uW Bj Ci JH (u e.1):=fun b a r h=>okS ((e.2 b a).trans h) G hf hn L1 h1 h2 hb1 hb sA
def aDj{u:Φ->O->γ->Option (PR (O1×W1) (O2×W2))}(hc:ay6 P c)(e:SX (oN P fn m (ajW c (qE P rs p1 b1 low uW Bj) (qF p2 b2 low Ci JH)) cl cd tv cut xb cp (ajX c (qE P rs p1 b1 low uW Bj) (qF p2 b2 low Ci JH)) xy co xF ce js cy) aJU os k u)(G:Hh (oN P fn m (ajW c (qE P rs p1 b1 low uW Bj) (qF p2 b2 low Ci JH)) cl cd tv cut xb cp (ajX c (qE P rs p1 b1 low uW Bj) (qF p2 b2 low Ci JH)) xy co xF ce js cy))(hf:P.funcs[g]? =some fn)(hn:fn.ntmps=k)(L1:fn.results=rs.toArray)(h1:decide (aJU.lr<=os.size)=true:=by kernel_rfl)(h2:decide (os.lr<=os.size)=true:=by kernel_rfl)(zf: ∀b a,∃y,JH.enc (Ci.l9 b) a=[y]:=by exact fun b a=>⟨_,rfl⟩)(hb1:b1=eV low:=by exact rfl)(hb2:b2=eV low:=by exact rfl)(hb:fn.body=some (fn.body.getD .skip):=by exact rfl)(sA:(fn.name != "runtime.NumGoroutine")=true:=by exact rfl):tu P g aJU os true uW Bj Ci JH (u e.1):=fun b a r h=>aIr hc ((e.2 b a).trans h) G hf hn L1 h1 h2 zf hb1 hb2 hb sA
def VN{u:Φ->O->γ->Option (O1×W)}{F:Nat->Φ}(h:∀n,Bl P g aJU os uW s (u (F (n+1))))(h0:∀b a,u (F 0) b a=none:=by intros;rfl):∀n,Bl P g aJU os uW s (u (F n))
 |0=>fun b a r h=>by rw[h0]at h;cases h
 |n+1=>h n
def XK{u:Φ->O->γ->Option (PR (O1×W1) (O2×W2))}{pk:Bool}{F:Nat->Φ}(h:∀n,tu P g aJU os pk uW Bj Ci JH (u (F (n+1))))(h0:∀b a,u (F 0) b a=none:=by intros;rfl):∀n,tu P g aJU os pk uW Bj Ci JH (u (F n))
 |0=>fun b a r h=>by rw[h0]at h;cases h
 |n+1=>h n
end
def mC {p:O->Prop} (x:Subtype p:=by
    apply _root_.Subtype.mk
    repeat (first|refine _root_.Prod.forall.2 ?_|intro)
    simp (config:={maxSteps:=100000000}) only[go_sem,_root_.Nat.reduceAdd,_root_.Nat.reduceSub,_root_.Nat.reduceLeDiff,_root_.Nat.reduceEqDiff,_root_.Nat.reduceBEq,_root_.Nat.reduceMul,_root_.Nat.reduceLT,_root_.Int.reduceLE,_root_.Int.reduceLT,_root_.Int.reduceToNat,_root_.Int.reduceBEq,_root_.Int.reduceEq,_root_.Option.getD_some,mixed, *];exact rfl):Subtype p:=x
def AZ {p:O->Prop} (x:Subtype p:=by
    apply _root_.Subtype.mk
    repeat (first|refine _root_.Prod.forall.2 ?_|intro)
    simp (config:={maxSteps:=100000000})-implicitDefEqProofs only[go_sem,_root_.Nat.reduceAdd,_root_.Nat.reduceSub,_root_.Nat.reduceLeDiff,_root_.Nat.reduceEqDiff,_root_.Nat.reduceBEq,_root_.Nat.reduceMul,_root_.Nat.reduceLT,_root_.Int.reduceLE,_root_.Int.reduceLT,_root_.Int.reduceToNat,_root_.Int.reduceBEq,_root_.Int.reduceEq,_root_.Option.getD_some,mixed, *];exact rfl):Subtype p:=x
def q8.bnd{f:Fn}{xs:List AV}(h:q8 xs ys):LY (.func f xs []) (.func f ys []):=by
 rintro E v ⟨a,b,rfl,h1,h2⟩;exact⟨a,b,rfl,h E _ h1,h2⟩
section

def aB5(f:aKh)(c:VL γ)(s:VL δ)(Y:List Nat)(L:DS):List AV->Option (γ×δ)
 |.func (.func f') cs []::xs=>bif decide (f'=f)then(c.mo Y L cs).bind fun y=>(s.mo Y L xs).bind fun a=>some (y,a)else none
 |_=>none
def vlB (f:aKh) (c:VL γ) (s:VL δ):VL (γ×δ) where
 enc L g:=.func (.func f) (c.enc L g.1) []::s.enc L g.2
 mo:=aB5 f c s
 lr:=max c.lr s.lr
 nb L g:=⟨⟨sY (by omega) _ (c.nb L g.1),trivial⟩,sY (by omega) _ (s.nb L g.2)⟩
 ok Y L vs g h:=by
  unfold aB5 at h;split at h
  ·rename_i f' cs xs;cases hc:decide (f'=f)with
   |false=>simp [hc]at h
   |true=>
    simp only[hc,jy,eS,eT]at h;obtain⟨y,hy,a,ha,rfl⟩:=h;obtain rfl:=jC hc;refine q8.cons ?_ (s.ok Y L _ _ ha);simp only[AV.qc,sZ];exact(q8.bnd (c.ok Y L _ _ hy))
  ·cases h
def aB6(f:aKh)(c:VL γ)(s:AL δ)(Y:List Nat)(L:DS)(H:List jT):List AV->Option (γ×δ)
 |.func (.func f') cs []::xs=>bif decide (f'=f)then(c.mo Y L cs).bind fun y=>(s.mo Y L H xs).bind fun a=>some (y,a)else none
 |_=>none
def alB (f:aKh) (c:VL γ) (s:AL δ):AL (γ×δ) where
 enc L g:=.func (.func f) (c.enc L g.1) []::s.enc L g.2
 mo:=aB6 f c s
 lr:=max c.lr s.lr
 nb L g:=⟨⟨sY (by omega) _ (c.nb L g.1),trivial⟩,sY (by omega) _ (s.nb L g.2)⟩
 ok Y L H n vs g hv h:=by
  unfold aB6 at h;split at h
  ·rename_i f' cs xs;cases hc:decide (f'=f)with
   |false=>simp [hc]at h
   |true=>
    simp only[hc,jy,eS,eT]at h;obtain⟨y,hy,a,ha,rfl⟩:=h;obtain rfl:=jC hc;refine EG.cons ?_ (s.ok Y L H n _ _ (hv.mono (by omega)) ha);simp only[AV.qc,sZ];exact Co.sub (q8.bnd (c.ok Y L _ _ hy)) ⟨XF (hv.mono (a:=c.lr) (by omega)).lt _ (c.nb L y),trivial⟩
  ·cases h
def aGU{c:VL γ}{s:VL δ}:(∀L g,(vlB f c s).enc L g=.func (.func f) (c.enc L g.1) []::s.enc L g.2)/\∀Y L xs,(vlB f c s).mo Y L xs=aB5 f c s Y L xs:=⟨fun _ _=>rfl,fun _ _ _=>rfl⟩
def aGV{c:VL γ}{s:AL δ}:(∀L g,(alB f c s).enc L g=.func (.func f) (c.enc L g.1) []::s.enc L g.2)/\(∀Y L H xs,(alB f c s).mo Y L H xs=aB6 f c s Y L H xs)/\(alB f c s).lr=max c.lr s.lr:=⟨fun _ _=>rfl,fun _ _ _ _=>rfl,rfl⟩
def aGW{c:VL γ}{s:VL δ}:(vlB f c s).lr=max c.lr s.lr:=rfl
def aB7(f:aKh)(a:Ty W):AV->Option W
 |.func (.func g) [x] []=>if g=f then a.mo [] x else none
 |_=>none
def ajZ(f:aKh)(a:Ty W):Ty W where
 enc x:=.func (.func f) [a.enc x] []
 mo _:=aB7 f a
 ok H n v x h:=by
  unfold aB7 at h;split at h
  ·split at h
   ·rename_i e;subst e;exact Co.sub (LY.func (q8.cons (a.ok [] 0 _ _ h).oW q8.nil) q8.nil) ⟨⟨a.nb n x,trivial⟩,trivial⟩
   ·cases h
  ·cases h
 nb n x:=⟨⟨a.nb n x,trivial⟩,trivial⟩
def aEJ{a:Ty W}:(∀x,(ajZ f a).enc x=.func (.func f) [a.enc x] [])/\∀H v,(ajZ f a).mo H v=aB7 f a v:=⟨fun _=>rfl,fun _ _=>rfl⟩
attribute [go_sem] aGU aGV aGW aB5 aB6 aB7 aEJ
end
def aIs(M:kG R)(K:List Kt)(s:Nat)(J:jJ):Option AV->Option R
 |some (.bool b)=>bif b then run M K {J with jV:=J.jV.set s (.bool true)} else run M K {J with jV:=J.jV.set s (.bool false)}
 |_=>run M K J
def aEK{s:Nat}:aIs M K s J (some (.bool b))=bif b then run M K {J with jV:=J.jV.set s (.bool true)} else run M K {J with jV:=J.jV.set s (.bool false)}:=rfl
attribute [go_sem] aEK
def dbY:jT->Option Str
 |.Io s=>dS (.str s)
 |_=>none
theorem atZ{x:jT}{s:Str}(h:dbY x=some s):x=.Io (sb s):=by
 unfold dbY at h;split at h
 ·rename_i u;have h2:s=u.data.toList:=by simp only[dS,eT]at h;exact h.symm
  subst h2;rfl
 ·cases h
def ogB:OG Str where
 enc _ s:=.Io (sb s)
 mo _ _ _:=dbY
 len s:=s.length
 lr:=0
 nb _ _:=trivial
 ok Y L H n x g _ h:=by rw[atZ h];exact .inr (.inl ⟨rfl,trivial⟩)
 ahr Y L H x g h:=by
  rw[atZ h];show g.length=(sb g).size;rw[NI]
def aGX:(∀L g,ogB.enc L g=.Io (sb g))/\(∀Y L H x,ogB.mo Y L H x=dbY x)/\(∀g,ogB.len g=g.length)/\ogB.lr=0:=⟨fun _ _=>rfl,fun _ _ _ _=>rfl,fun _=>rfl,rfl⟩
def oY:ZO:=⟨fun _ _ x=>(dbY x).bind fun s=>some (.Io (sb s)),fun H n x y h=>by
 simp only[eS,eT]at h;obtain⟨s,hs,rfl⟩:=h;rw[atZ hs];exact .inr (.inl ⟨rfl,trivial⟩)⟩
def aIt{x:jT}:oY.f H n x=(dbY x).bind fun s=>some (.Io (sb s)):=rfl
def aGY:dbY (.Io s)=dS (.str s):=rfl
def aze:lZ (some (.Io s))=some s.size:=rfl
def azf:(jT.Io s).qc τ=.Io s:=rfl
def azg:ByteArray.empty=sb []:=rfl
section

def aB8(t k:Nat)(s:AL δ)(Y:List Nat)(L:DS)(H:List jT):List AV->Option δ
 |.sn t' l::xs=>bif decide (t'=t/\Y[k]? =some l)then s.mo Y L H xs else none
 |_=>none
def alS (t k:Nat) (s:AL δ):AL δ where
 enc L g:=.sn t k::s.enc L g
 mo:=aB8 t k s
 lr:=max (k+1) s.lr
 nb L g:=⟨show k<_ by omega,sY (by omega) _ (s.nb L g)⟩
 ok Y L H n vs g hv h:=by
  unfold aB8 at h;split at h
  ·rename_i t' l xs;cases hc:decide (t'=t/\Y[k]? =some l)with
   |false=>simp [hc]at h
   |true=>
    simp only[hc,jy]at h;obtain⟨rfl,hc'⟩:=jC hc;refine EG.cons ?_ (s.ok Y L H n _ _ (hv.mono (by omega)) h);have hl:=hv.lt k (by omega);simp only[AV.qc];rw[aaJ hc']at hl ⊢;exact Co.same hl
  ·cases h
def aGZ{t k:Nat}{s:AL δ}:(∀L g,(alS t k s).enc L g=.sn t k::s.enc L g)/\(∀Y L H xs,(alS t k s).mo Y L H xs=aB8 t k s Y L H xs)/\(alS t k s).lr=max (k+1) s.lr:=⟨fun _ _=>rfl,fun _ _ _ _=>rfl,rfl⟩
end
attribute [go_sem] aGX aIt aGY aze azf azg aB8 aGZ
section
open Go.Proofs Go.Shelf Go.RowKit
variable {Y:Ren}
set_option maxHeartbeats 1000000 in
set_option maxRecDepth 100000 in
def aod(L:Lays.n240 P Y){T:Nat}(hs:(P.info? (Y.t 72)).map (·.size)=some 2)(hl:liesAt P P.depth T (n / P.cellsOf T) 0 (Y.t 72) 1=true)(hn:0<n)
 (b:Nat) (w:aKk) (h0:w.cell? ⟨b,0,none⟩=some (.pointer none)) (hsh:w.shape? b=some (T,n)) (hfz:w.frozen? ⟨b,0,none⟩=false):
 Calls P (Y.f 240) #[.pointer (some ⟨b,0,none⟩)] w fun e w'=>e=.returned (.tuple #[])/\w'=w.setCell ⟨b,0,none⟩ (.pointer (some ⟨b,0,none⟩)):=by
 obtain⟨j,hj,hjs⟩:=eU.1 hs;have mixed:=L.mixed;have t72:=L.t72;have a72:=L.a72;have z72:=L.z72;have v72:=L.v72;have u72:=run_underlying L.t72;have t70:=L.t70;have a70:=L.a70;have z70:=L.z70;have v70:=L.v70;have u70:=run_underlying L.t70;have t9:=L.t9;have a9:=L.a9;have z9:=L.z9;have v9:=L.v9;have u9:=run_underlying L.t9;have t4:=L.t4;have a4:=L.a4;have z4:=L.z4;have v4:=L.v4;have u4:=run_underlying L.t4;have t164:=L.t164;have a164:=L.a164;have z164:=L.z164;have v164:=L.v164;have aIu:=run_underlying L.t164
 go_enter L.f240,Body.n240_ntmps Y
 go_wp2
 rw[Lib.run_to_unsafe w ⟨b,0,none⟩ L.t70 L.t164 hj (by rw[hjs];decide) hsh hn];simp only[Result.andThen];rw[Oper.upon_value]
 go_wp2
 rw[run_callFunc_extern L.f276 (jF) (jF) (jF) (e:=Extern.AbiNoEscape.same) (jF)];rw[Lib.run_noEscape];simp only[Result.andThen];rw[Oper.upon_value]
 go_wp2
 rw[Lib.run_from_unsafe w ⟨b,0,none⟩ L.t164 L.t70 hj hsh hl];simp only[Result.andThen];rw[Oper.upon_value]
 go_wp2
 go_end0
 exact⟨rfl,rfl⟩
def aoe(L:Lays.n240 P Y)(hs:(P.info? (Y.t 72)).map (·.size)=some 2)(b:Nat)(w:aKk)(h0:w.cell? ⟨b,0,none⟩=some (.pointer (some ⟨b,0,none⟩))):
 Calls P (Y.f 240) #[.pointer (some ⟨b,0,none⟩)] w fun e w'=>e=.returned (.tuple #[])/\w'=w:=by
 obtain⟨j,hj,_⟩:=eU.1 hs;have mixed:=L.mixed;have t72:=L.t72;have a72:=L.a72;have z72:=L.z72;have v72:=L.v72;have u72:=run_underlying L.t72;have t70:=L.t70;have a70:=L.a70;have z70:=L.z70;have v70:=L.v70;have u70:=run_underlying L.t70;have t9:=L.t9;have a9:=L.a9;have z9:=L.z9;have v9:=L.v9;have u9:=run_underlying L.t9;have t4:=L.t4;have a4:=L.a4;have z4:=L.z4;have v4:=L.v4;have u4:=run_underlying L.t4;have t164:=L.t164;have a164:=L.a164;have z164:=L.z164;have v164:=L.v164;have aIu:=run_underlying L.t164
 go_enter L.f240,Body.n240_ntmps Y
 go_wp2
 rw[Lib.run_neq_ptr_same w _ L.t70 hj]
 go_wp2
 go_end0
 exact⟨rfl,rfl⟩
end
section
open Go.Proofs Go.Shelf Go.RowKit
variable {Y:Ren}
set_option maxHeartbeats 2000000 in
def awE(L:Lays.n169 P Y)(X:Builder.Extra P Y)(b n cap:Nat)(base q:Option Addr)(s:ByteArray)(w w1 w2:aKk)(c1:w.drew.cell? ⟨b,1,none⟩=some (.slice base n cap))(c2:w1.cell? ⟨b,1,none⟩=some (.slice base n cap))
 (hSD:(Builtin.unsafeSliceData_ #[(Y.t 37)] (Y.t 127) #[.slice base n cap]).run P w.drew=.ok (.pointer q) w1)
 (hUS:(Builtin.unsafeString_ #[(Y.t 127),(Y.t 3)] (Y.t 9) #[.pointer q,.int .i64 n]).run P w1=.ok (.string s) w2):
 Calls P (Y.f 169) #[.pointer (some ⟨b,0,none⟩)] w fun e w'=>e=.returned (.string s)/\w'=w2:=by
 have mixed:=L.mixed;have t72:=L.t72;have a72:=L.a72;have z72:=L.z72;have v72:=L.v72;have u72:=run_underlying L.t72;have t70:=L.t70;have a70:=L.a70;have z70:=L.z70;have v70:=L.v70;have u70:=run_underlying L.t70;have t37:=L.t37;have a37:=L.a37;have z37:=L.z37;have v37:=L.v37;have u37:=run_underlying L.t37;have t127:=L.t127;have a127:=L.a127;have z127:=L.z127;have v127:=L.v127;have aI5:=run_underlying L.t127;have t3:=L.t3;have a3:=L.a3;have z3:=L.z3;have v3:=L.v3;have u3:=run_underlying L.t3;have t9:=L.t9;have a9:=L.a9;have z9:=L.z9;have v9:=L.v9;have u9:=run_underlying L.t9;have t5:=X.t5;have a5:=X.a5;have z5:=X.z5;have v5:=X.v5;have u5:=run_underlying X.t5
 go_enter L.f169,Body.n169_ntmps Y
 go_wp2
 go_region_o
 all_goals (go_wp2;go_ret;exact⟨rfl,rfl⟩)
end
def alp{T:Nat}(he:enters P f=true)
 (hu:∀b w,w.cell? ⟨b,0,none⟩=some (.pointer (some ⟨b,0,none⟩))->Calls P f #[.pointer (some ⟨b,0,none⟩)] w fun e w'=>e=.returned (.tuple #[])/\w'=w)
 (hi:∀b w,w.cell? ⟨b,0,none⟩=some (.pointer none)->w.shape? b=some (T,n)->w.frozen? ⟨b,0,none⟩=false->
   Calls P f #[.pointer (some ⟨b,0,none⟩)] w fun e w'=>e=.returned (.tuple #[])/\w'=w.setCell ⟨b,0,none⟩ (.pointer (some ⟨b,0,none⟩)))
 (cs:List AV) (H:List jT) (hn:cs.length+1=n) (G9:w5 (H.length+1) cs) (H7:∀x∈H,rJ (H.length+1) x):
 FnG P f [.ptr 0 0] (.cells (.sn T 0::cs)::H) (fun o H'=>o=.ret (.Ip [])/\H'=.cells (.sn T 0::cs)::H):=by
 refine⟨he,⟨Nat.succ_pos _,trivial⟩,?_,fun C U w hP hw hN0 hφ hM HS vs hr=>?_⟩
 ·intro x hx;rcases fa.1 hx with rfl|hx
  ·exact⟨Nat.succ_pos _,G9⟩
  ·exact H7 x hx
 obtain⟨v0,us,hvs,⟨_,b,hb,hv0⟩,ad8⟩:=hr;have hus:us=[]:=ad8;subst hus hv0;obtain rfl:vs= #[.pointer (some ⟨b,0,none⟩)]:=by cases vs;simp_all
 obtain⟨b2,c,t,hb2,hh,rl,zf⟩:=HS.nX 0 _ rfl;have hbw:U 0=.pointer (some ⟨b,0,none⟩):=hb;obtain rfl:b=b2:=by have hb2:U 0=_:=hb2;rw[hbw]at hb2;simpa using hb2
 obtain⟨u0,vs2,hc0,⟨_,b3,hb3,hu0,c3,fz3,hh3⟩,rr⟩:=rl;have aG0:U 0=.pointer (some ⟨b3,0,none⟩):=hb3;obtain rfl:b=b3:=by rw[hbw]at aG0;simpa using aG0
 have hhw:w.heap[b]? =some (.cells c t (0,0)):=hh;have aB9:w.heap[b]? =some (.cells c3 T fz3):=hh3;obtain⟨rfl,rfl⟩:c=c3/\t=T:=by rw[hhw]at aB9;simp at aB9;exact⟨aB9.1,aB9.2.1⟩
 have hcz:c.size=n:=by
  have h1:c.toList.length=_:=congrArg List.length hc0;rw[List.length_cons,rr.length]at h1;simp at h1;omega
 have tO:w.cell? ⟨b,0,none⟩=some u0:=by
  have:c[0]? =some u0:=by rw[<-Array.getElem?_toList,hc0];rfl
  simp [World.cell?,hhw,this]
 rcases hu0 with rfl|rfl
 ·refine(hi b w tO (by simp [World.shape?,hhw,hcz]) (by simp [World.frozen?,hhw])).mono ?_;rintro e w' ⟨rfl,rfl⟩
  have asj:(c.setIfInBounds 0 (.pointer (some ⟨b,0,none⟩))).toList=Value.pointer (some ⟨b,0,none⟩)::vs2:=by
   rw[Array.toList_setIfInBounds,hc0];rfl
  have S2:=mM.write HS (l:=0) (b:=b) (cs':=.sn t 0::cs) (c':=c.setIfInBounds 0 (.pointer (some ⟨b,0,none⟩))) rfl hbw hhw (by
   rw[asj];exact⟨_,_,rfl,⟨Nat.succ_pos _,b,hbw,.inr rfl,c,(0,0),hhw⟩,rr⟩) (by
   rw[asj];intro u hu;rcases fa.1 hu with rfl|hu
   ·rfl
   ·exact zf u (by rw[hc0];exact List.mem_cons_of_mem _ hu))
  rw[setCell_eq_setRow w b 0 c t (0,0) _ hhw];exact⟨_,U,_,⟨rfl,rfl⟩,S2,⟨#[],rfl,rfl⟩⟩
 ·refine(hu b w tO).mono ?_;rintro e w' ⟨rfl,rfl⟩;exact⟨_,U,_,⟨rfl,rfl⟩,HS,⟨#[],rfl,rfl⟩⟩
section
variable {C:qu} {U:Nat->aKj} {a:Act} {w:aKk}
def awF(w:aKk){c:Array aKj}{t:TypeId}{fz:Nat×Nat}(hn:n≠0)(hg:w.heap[g]? =some (.cells c t fz))(hf:fz.2<=n):
 (w.freeze ⟨g,0,none⟩ n).heap.size=w.heap.size/\(∀b,b≠g->(w.freeze ⟨g,0,none⟩ n).heap[b]? =w.heap[b]?)/\∃fz',(w.freeze ⟨g,0,none⟩ n).heap[g]? =some (.cells c t fz')/\fz'.2<=n:=by
 obtain⟨lo,hi⟩:=fz;unfold World.freeze;rw[if_neg hn];refine⟨by simp,fun b hb=>?_,?_⟩
 ·simp only[Array.getElem?_modify];rw[if_neg (fun e=>hb e.symm)]
 ·simp only[Array.getElem?_modify,jE,hg,Option.map_some];refine⟨_,rfl,?_⟩;simp only at hf;split
  ·show 0+n<=n;omega
  ·show max hi (0+n)<=n;omega
def mM.aCa(S:mM C U J a w){cap:Nat}(hl:J.heap[l]? =some (.Io s))(hφ:U l=.slice (some ⟨g,0,none⟩) s.size cap)(sA:s.size≠0):mM C U J a (w.freeze ⟨g,0,none⟩ s.size):=by
 have aat:w.ownsRowF 0 Kw 1 (U l) s.size (fb s):=S.nX l _ hl;rw[hφ]at aat;obtain⟨hxl,aat⟩:=aat;rcases aat with⟨h,_⟩|⟨g',aFG,cur,fz,hv,hb,hg,hfz,r1,r2,r3,r4⟩
 ·cases h
 ·have hv:=hv;injection hv with e1 e2 e3
  have e1:g=g':=by injection e1 with e1;injection e1
  subst e1 e3;obtain⟨k1,k2,fz',k3,k4⟩:=awF w sA hg (by omega)
  have hos:(w.freeze ⟨g,0,none⟩ s.size).os=w.os/\(w.freeze ⟨g,0,none⟩ s.size).tape=w.tape/\(w.freeze ⟨g,0,none⟩ s.size).output=w.output:=by
   unfold World.freeze;rw[if_neg sA];exact⟨rfl,rfl,rfl⟩
  have S2:=S.auC (s':=s) (w':=w.freeze ⟨g,0,none⟩ s.size) (h':=U l) hl (.inr ⟨rfl,rfl⟩) (by
   rw[hφ];exact⟨hxl,.inr ⟨g,cap,cur,fz',rfl,hb,k3,by omega,r1,r2,r3,r4⟩⟩)
   ⟨hos.1,hos.2.1,hos.2.2,by rw[k1];exact Nat.le_refl _,fun k hk sA=>k2 k (fun e=>sA (by rw[hφ,e];rfl))⟩ (fun k hk=>.inl hk) (fun b c t fz2 hc=>by
     by_cases e:b=g
     ·subst e;rw[hg]at hc;cases hc;exact⟨_,_,k3⟩
     ·exact⟨_,_,by rw[k2 b e];exact hc⟩)
  have e1:(fun k=>if k=l then U l else U k)=U:=by
   funext k;by_cases e:k=l
   ·rw[if_pos e,e]
   ·rw[if_neg e]
  have e2:J.heap.set l (.Io s)=J.heap:=by
   have mR:=(eX.1 hl).1;have:=(eX.1 hl).2;rw[<-this,e9]
  rw[e1,e2]at S2;exact S2
end
def at0{t37 t127 t3 t9:TypeId}(he:enters P f=true)(hp:P.underlying t127=some (.pointer Kw))(hc1:P.cellsOf Kw=1)
 (hS:∀(b n cap:Nat)(base q:Option Addr)(s:ByteArray)(w w1 w2:aKk),w.drew.cell? ⟨b,1,none⟩=some (.slice base n cap)->w1.cell? ⟨b,1,none⟩=some (.slice base n cap)->
   (Builtin.unsafeSliceData_ #[t37] t127 #[.slice base n cap]).run P w.drew=.ok (.pointer q) w1->(Builtin.unsafeString_ #[t127,t3] t9 #[.pointer q,.int .i64 n]).run P w1=.ok (.string s) w2->
   Calls P f #[.pointer (some ⟨b,0,none⟩)] w fun e w'=>e=.returned (.string s)/\w'=w2)
 (x0:AV) (cs:List AV) (s:ByteArray) (k:Nat) (hk:s.size=k) (G9:x0.nb 2/\w5 2 cs):
 FnG P f [.ptr 0 0] [.cells (x0::.lN 1 k::cs),.Io s] (fun o H'=>o=.ret (.str s)/\H'=[.cells (x0::.lN 1 k::cs),.Io s]):=by
 subst hk;refine⟨he,⟨Nat.succ_pos _,trivial⟩,?_,fun C U w hP hw hN0 hφ hM HS vs hr=>?_⟩
 ·intro x hx;simp only[fa,List.not_mem_nil,or_false]at hx;rcases hx with rfl|rfl
  ·exact⟨G9.1,(by decide:1<2),G9.2⟩
  ·trivial
 obtain⟨v0,us,hvs,⟨_,b,hb,hv0⟩,ad8⟩:=hr;have hus:us=[]:=ad8;subst hus hv0;obtain rfl:vs= #[.pointer (some ⟨b,0,none⟩)]:=by cases vs;simp_all
 obtain⟨b2,c,t,hb2,hh,rl,zf⟩:=HS.nX 0 _ rfl;have hbw:U 0=.pointer (some ⟨b,0,none⟩):=hb;obtain rfl:b=b2:=by have hb2:U 0=_:=hb2;rw[hbw]at hb2;simpa using hb2
 obtain⟨u0,vs2,hc0,_,u1,vs3,hc2,r1,_⟩:=rl;have hhw:w.heap[b]? =some (.cells c t (0,0)):=hh;have hu1:u1=U 1:=anx (J:={jV:=[],heap:=[.cells (x0::.lN 1 s.size::cs),.Io s],low:=2}) HS (l:=1) (s:=s) rfl rfl r1;subst hu1;have mR:b<w.heap.size:=(Array.getElem?_eq_some_iff.1 hhw).1
 have tO:w.cell? ⟨b,1,none⟩=some (U 1):=by
  have:c[1]? =some (U 1):=by rw[<-Array.getElem?_toList,hc0,hc2];rfl
  simp [World.cell?,hhw,this]
 have aat:w.ownsRowF 0 Kw 1 (U 1) s.size (fb s):=HS.nX 1 _ rfl;have HD:mM C U {jV:=[],heap:=[.cells (x0::.lN 1 s.size::cs),.Io s],low:=2} {tmps:= #[],defers:=[]} w.drew:=HS.drew _
 have done:∀(w':aKk),mM C U {jV:=[],heap:=[.cells (x0::.lN 1 s.size::cs),.Io s],low:=2} {tmps:= #[],defers:=[]} w'->
  ∃o U' H',(o=vf.ret (.str s)/\H'=[jT.cells (x0::.lN 1 s.size::cs),.Io s])/\mM C U' {jV:=[],heap:=H',low:=([jT.cells (x0::.lN 1 s.size::cs),.Io s]:List jT).length} {tmps:= #[],defers:=[]} w'/\o.rep (C.env U' H' w') (.returned (.string s)):=
  fun w' S'=>⟨_,U,_,⟨rfl,rfl⟩,S',rfl⟩
 have aEL:s.size=0->s=ByteArray.empty:=fun h=>by
  apply ByteArray.ext;exact Array.eq_empty_of_size_eq_zero h
 rcases aat.2 with⟨hv,h0⟩|⟨g,cap,cur,fz,hv,hbg,hg,hfz,hnc,hcm,hcs,amu⟩
 ·rw[hv]at tO;refine(hS b 0 0 none none s w w.drew w.drew tO tO rfl (by rw[aEL h0];exact eY _ _ _ _ _)).mono ?_;rintro e w' ⟨rfl,rfl⟩;exact done _ HD
 ·rw[hv] at tO;by_cases h0:s.size=0
  ·by_cases CK:cap=0
   ·subst CK;have hSD:=Lib.run_unsafeSliceData_zero (P:=P) w.drew #[t37] t127 Kw hp ⟨g,0,none⟩ s.size (Kw,cur.size) (by have hg':w.drew.heap[g]? =some (.cells cur Kw fz):=hg;simp [World.shape?,hg']);refine(hS b s.size 0 (some ⟨g,0,none⟩) _ s w _ _ tO ?_ hSD (by rw[h0,aEL h0];exact eY _ _ _ _ _)).mono ?_
    ·have e1:(w.drew.alloc (.view ⟨g,0,none⟩ Kw)).heap[b]? =w.heap[b]? :=yO w.drew (.view ⟨g,0,none⟩ Kw) mR;rw[<-tO];simp only[World.cell?,e1]
    ·rintro e w' ⟨rfl,rfl⟩;exact done _ (HD.more _ (by intro c t lo hi h;cases h))
   ·refine(hS b s.size cap (some ⟨g,0,none⟩) _ s w w.drew _ tO tO (eZ _ _ _ _ _ _ CK) (by rw[h0,aEL h0];exact eY _ _ _ _ _)).mono ?_;rintro e w' ⟨rfl,rfl⟩;exact done _ HD
  ·have hl:s.data.toList.length=s.size:=by rw[Array.length_toList];rfl
   have hUS:(Builtin.unsafeString_ #[t127,t3] t9 #[.pointer (some ⟨g,0,none⟩),.int .i64 s.size]).run P w.drew=.ok (.string s) (w.drew.freeze ⟨g,0,none⟩ s.size):=by
    have:=Lib.run_unsafeString_row (P:=P) w.drew t127 t3 t9 Kw hp hc1 g cur.size (by have hg':w.drew.heap[g]? =some (.cells cur Kw fz):=hg;simp [World.shape?,hg']) s.data.toList (by intro e;rw[e]at hl;exact h0 hl.symm) (by omega) (by unfold maxLen at hcm;omega) (by
     intro j x hx;exact aat.cells (g:=g) (by rw[hv];rfl) j (.int .u8 x.toNat) (by simp [fb,hx]))
    rw[hl]at this;exact this
   refine(hS b s.size cap (some ⟨g,0,none⟩) _ s w w.drew _ tO tO (eZ _ _ _ _ _ _ (by omega)) hUS).mono ?_;rintro e w' ⟨rfl,rfl⟩;exact done _ (HD.aCa (l:=1) (s:=s) rfl hv h0)
def azh{b:Nat}{nm:String}(he:enters P f=true)(hb:aFq b)(hg:P.globalNamed nm=some b)(hv:axu=(Lib.pow10Tab.map fun z=>Value.int .u64 z).toArray)
 (h:∀(n:Int)(w:aKk),-9223372036854775808<=n->n<=9223372036854775807->Lib.TabIs P w nm .u64 Lib.pow10Tab->Calls P f #[.int .i64 n] w fun e w'=>e=.returned (.string ⟨(Lib.itoa n).toArray⟩)/\∃k os,w'=Sort.grow (w.drewN k) os)
 (n:Int) (h0:0<=n) (h1:n<=9223372036854775807):KD P f [(mP .i64).enc n] (fun v=>v=mq.enc (Lib.itoa n)):=by
 refine⟨he,⟨(mP .i64).nb 0 _,trivial⟩,fun C U w hP hw hN0 hM vs hr=>?_⟩
 obtain rfl:vs= #[.int .i64 n]:=by
  obtain⟨v0,us,hvs,r0,ad8⟩:=hr;have hus:us=[]:=ad8;have e0:v0=.int .i64 n:=r0;subst hus e0;cases vs;simp_all
 obtain⟨_,t,fz,aCb⟩:=C.hk.row b hb;rw[hw]at aCb
 have aEM:Lib.TabIs P w nm .u64 Lib.pow10Tab:=by
  unfold Lib.TabIs World.var?;rw[hg,Option.bind_some,aCb,<-hv]
 refine(h n w (by omega) h1 aEM).mono ?_;rintro e w' ⟨rfl,k,os,rfl⟩;have hB:=Lib.below_grow w.heap.size w (Nat.le_refl _) k os;exact⟨_,_,U,rfl,rfl,rfl,hB.size,hB.block,fun x hx=>hB.frozen hx,hB.output,hB.os⟩
end Go.Abs
end
