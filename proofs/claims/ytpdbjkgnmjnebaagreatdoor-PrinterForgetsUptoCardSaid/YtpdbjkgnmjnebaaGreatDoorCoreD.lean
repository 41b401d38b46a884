/- A part of the proof: abstract states and the rules for them. -/
import Derived.Test.YtpdbjkgnmjnebaaGreatDoorCoreC
import Derived.Lib.Atoi
import Derived.Lib.AtoiErrMem
import Derived.Lib.UnsafeStr
import Derived.Lib.Builder
import Derived.Shelf.Strings.Builder1
import Derived.Lib.ItoaNum
import Derived.Lib.AppendIntMem
import Derived.Lib.LaidTab
set_option linter.all false
open Go renaming Oper→aPM,FuncId→aPN,Program→aPO,Value→aPP,World→aPQ
open Option renaming bind_eq_some_iff→fg,map_eq_some_iff→fj
open Option.some renaming injEq→fi
open List renaming range→fk,replicate→fm,getElem?_eq_some_iff→fo,getElem?_eq_getElem→fw,set_getElem_self→fx,mem_cons→fy
open Go.Lib renaming run_unsafeString_none→fp,run_unsafeSliceData_row→fq,strCells→fA
noncomputable section
namespace Go.Abs
variable {W:Type}{aPp:AL W}{W1:Type}{EU:AL W1}{x:AV}{lR:Array aPM}{b:Bool}{s:ByteArray}{y:Code}{u:FrameMode}{f:aPN}{AI AK:aPN->Bool}{cl:aPN->List AV->List lw->Option (AV×List lw)}{cp:aPN->List AV->List lw->Option (yJ×List lw)}{co:aPN->List AV->List lw->Option CO}{ce:aPN->List AV->List lw->Option yO}{cd:aPN->List AV->Option AV}{ds:List (aPN×List AV)}{nl:List (List Nat×Ce)}{cu:List (List Nat×List Nat)}{args cs ys:List AV}{γ:Type}{k:List AV->AV->Option γ}{K:List Kt}{G:List Kt->W->Prop}{b1 p:List Nat}{js:List Nat->List (Int×Code)}{rs:List ResultVar}{tr:List Tr}{p1:List YA}{H:List lw}{c d g j l low n:Nat}{cy:Nat->List AV->List lw->Option (AV×List lw)}{τ:Nat->Nat}{O:Type}{os:OL O}{O1:Type}{yn:OL O1}{o:aPM}{dst:Option Tmp}{a:Option yO}{P:aPO}{R δ Y:Type}{v:aPP}{T:aPP->aPQ->Array aPP->(Ending->aPQ->Prop)->Prop}{J:k9}{out:k9->Option R}{M:mg R}{F:O->W->Option (O1×W1)}
inductive PR(W O:Type) where
 |ok (x:W)
 |pn (y:O)
def prc(q:PR W O)(f:W->γ)(g:O->γ):γ:=match q with
 |.ok x=>f x
 |.pn y=>g y
def aJS{x:W}{f:W->γ}{g:O->γ}:prc (.ok x) f g=f x:=rfl
def aJT{y:O}{f:W->γ}{g:O->γ}:prc (.pn y) f g=g y:=rfl
abbrev anZ:=List AV->List lw->Option (yJ×List lw)
section anp

def anp(pos:List YA)(os:OL O)(aPp:AL W)(sz:Nat)(en:Y->yJ×List lw)(F:O->W->Option Y):anZ:=fun args H=>
 (arb args H pos []).bind fun Y=>bif NI Y&&(decide (os.nR<=Y.length)&&(decide (aPp.nR<=Y.length)&&decide (Y.length<=sz)))then
   (tU (ani H) Y).bind fun xs=>(os.oP Y (akZ xs) H xs).bind fun b=>(aPp.oP Y (akZ xs) H args).bind fun a=>(F b a).bind fun q=>
     some ((en q).1.s8 (rA Y H.length),A6 Y H (en q).2)else none
def awr(hT:agA T)(hz:∀(U U':Nat->aPP)(k k':Nat),T (U k)=T (U' k')){pos:List YA}{os:OL O}{aPp:AL W}{sz:Nat}{en:Y->yJ×List lw}{F:O->W->Option Y}(hsz:∀q,sz<=(en q).2.length) {o:yJ} {H':List lw} (he:anp pos os aPp sz en F args J.heap=some (o,H')):
 ∃b a q,F b a=some q/\(FnT P T (aPp.enc (os.nS b) a) (os.enc (os.nS b) b) (fun o H'=>o=(en q).1/\H'=(en q).2)->Zb P T 0 args J (fun o' Kl=>o'=o/\Kl=H')):=by
 unfold anp at he;simp only[fg]at he;obtain⟨Y,hρ,he⟩:=he;cases hc:(NI Y&&(decide (os.nR<=Y.length)&&(decide (aPp.nR<=Y.length)&&decide (Y.length<=sz))))with
 |false=>simp [hc]at he
 |true=>
  simp only[hc,kP,fg,fi,Prod.mk.injEq]at he;obtain⟨xs,hxs,b,hb,a,ha,q,hq,rfl,rfl⟩:=he;refine⟨b,a,q,hq,fun hfn=>?_⟩;simp only[Bool.and_eq_true,kU]at hc;obtain⟨hnd,n1,n2,n3⟩:=hc;obtain⟨h1,h2⟩:=abD hxs
  have awi:∀m,m<=Y.length->Cov Y m J.heap.length:=by
   intro m hm k hk;have RV:k<Y.length:=by omega
   obtain⟨x,hx,EC⟩:=h2 k _ (fw RV)
   grind
  have hL:os.nS b=akZ xs:=funext fun k=>os.amv Y _ _ _ _ hb k
  obtain⟨h3,h4⟩:=os.ok Y _ J.heap J.heap.length _ _ (awi _ n1) hb;have agu:∀l,l<Y.length->atN Y l=rA Y J.heap.length l:=fun l hl=>by unfold rA atN;rw[if_pos hl]
  rw[<-hL]at ha h4;refine aDT hT hfn (aPb hnd) (by rw[h1,h3,os.sz]) (Nat.le_trans n3 (hsz q)) (fun U=>hz _ _ _ _) ?_ ?_
  ·intro i k hi;obtain⟨x,hx,EC⟩:=h2 i k hi;have q9:i<(os.enc (os.nS b) b).length:=by rw[os.sz,<-h3,<-h1];grind
   have hy:=fw q9;obtain⟨x2,WH,hcc⟩:=h4 i _ hy;rw[hx]at WH;cases WH;refine⟨x,_,EC,hy,?_⟩;rw[<-akY (n:=os.nR) (fun l hl=>agu l (by omega)) _ (os.nb _ _ _ (List.mem_of_getElem? hy))];exact hcc
  ·rw[<-Ik (n:=aPp.nR) (fun l hl=>agu l (by omega)) _ (aPp.nb _ _)];exact aPp.ok Y _ J.heap _ _ _ (awi _ n2) ha
end anp
section A7
variable {W2 O2:Type}
def pkO(pk:Bool)(x:AV):yJ:=match pk with
 |true=>.panic x
 |false=>.ret x
def aL3:pkO true x=.panic x/\pkO false x=.ret x:=⟨rfl,rfl⟩
def aHd{pk:Bool}:(pkO pk x).s8 τ=pkO pk (x.s8 τ):=by cases pk<;>rfl
def enP(pk:Bool)(yn:OL O1)(EU:AL W1)(Gg:OL O2)(Ob:AL W2)(q:PR (O1×W1) (O2×W2)):yJ×List lw:=
 prc q (fun r=>(.ret (vJ (EU.enc (yn.nS r.1) r.2)),yn.enc (yn.nS r.1) r.1)) (fun r=>(pkO pk (vJ (Ob.enc (Gg.nS r.1) r.2)),Gg.enc (Gg.nS r.1) r.1))
def aJU{pk:Bool}{yn:OL O1}{EU:AL W1}{Gg:OL O2}{Ob:AL W2}(q:PR (O1×W1) (O2×W2)):min yn.size Gg.size<=(enP pk yn EU Gg Ob q).2.length:=by
 cases q with
 |ok r=>simp only[enP,prc,yn.sz];exact Nat.min_le_left _ _
 |pn r=>simp only[enP,prc,Gg.sz];exact Nat.min_le_right _ _
def A7(pk:Bool)(pos:List YA)(os:OL O)(aPp:AL W)(yn:OL O1)(EU:AL W1)(Gg:OL O2)(Ob:AL W2)(F:O->W->Option (PR (O1×W1) (O2×W2))):anZ:=fun args H=>
 (arb args H pos []).bind fun Y=>bif NI Y&&(decide (os.nR<=Y.length)&&(decide (aPp.nR<=Y.length)&&(decide (Y.length<=yn.size)&&decide (Y.length<=Gg.size)))) then
   (tU (ani H) Y).bind fun xs=>(os.oP Y (akZ xs) H xs).bind fun b=>(aPp.oP Y (akZ xs) H args).bind fun a=>(F b a).bind fun q=>
     prc q (fun r=>some (.ret ((vJ (EU.enc (yn.nS r.1) r.2)).s8 (rA Y H.length)),A6 Y H (yn.enc (yn.nS r.1) r.1)))
      (fun r=>some (pkO pk ((vJ (Ob.enc (Gg.nS r.1) r.2)).s8 (rA Y H.length)),A6 Y H (Gg.enc (Gg.nS r.1) r.1)))else none
theorem aEc{pk:Bool}{pos:List YA}{os:OL O}{aPp:AL W}{yn:OL O1}{EU:AL W1}{Gg:OL O2}{Ob:AL W2}{F:O->W->Option (PR (O1×W1) (O2×W2))}:
 A7 pk pos os aPp yn EU Gg Ob F args H=anp pos os aPp (min yn.size Gg.size) (enP pk yn EU Gg Ob) F args H:=by
 unfold A7 anp;congr 1;funext Y
 have:decide (Y.length<=min yn.size Gg.size)=(decide (Y.length<=yn.size)&&decide (Y.length<=Gg.size)):=by
  grind
 rw[this];congr 1;congr 1;funext xs;congr 1;funext b;congr 1;funext a;congr 1;funext q;cases q with
 |ok r=>rfl
 |pn r=>simp only[prc,enP,aHd]
def aEd(P:aPO)(f:aPN)(e:anZ):Prop:=∀args J o H',e args J.heap=some (o,H')->ER P f args J (fun o' Kl=>o'=o/\Kl=H')
def FnP(P:aPO)(f:aPN)(args:List AV)(H:List lw)(x:yJ×List lw):Prop:=FnG P f args H (fun o H'=>o=x.1/\H'=x.2)
def mo{pk:Bool}{pos:List YA}{os:OL O}{aPp:AL W}{yn:OL O1}{EU:AL W1}{Gg:OL O2}{Ob:AL W2}{F:O->W->Option (PR (O1×W1) (O2×W2))}
 (h:∀b a r,F b a=some r->FnP P f (aPp.enc (os.nS b) a) (os.enc (os.nS b) b) (enP pk yn EU Gg Ob r)):aEd P f (A7 pk pos os aPp yn EU Gg Ob F):=by
 intro args J o H' he;rw[aEc]at he;obtain⟨b,a,q,hq,BB⟩:=awr (P:=P) (T:=fun _ w vs R=>Calls P f vs w R) ajK (fun _ _ _ _=>rfl) aJU he;exact⟨(h b a q hq).1,BB (h b a q hq).2⟩
def ak3:∀(Y:List Nat)(xs H:List lw),pI H (Y.zip xs)=vf H Y xs
 |[],_,_=>by simp [pI,vf]
 |_::_,[],_=>by simp [pI,vf]
 |l::Y,x::xs,H=>by
  simp only[List.zip_cons_cons,pI,vf];exact ak3 Y xs _
def K3(pos:List YA)(os:OL O)(aPp:AL W)(yn:OL O1)(EU:AL W1)(Gg:OL O2)(Ob:AL W2)(F:O->W->Option (PR (O1×W1) (O2×W2))):List AV->List lw->Option CO:=fun args H=>
 (arb args H pos []).bind fun Y=>bif NI Y&&(decide (os.nR<=Y.length)&&(decide (aPp.nR<=Y.length)&&(decide (Y.length<=yn.size)&&decide (Y.length<=Gg.size)))) then
   (tU (ani H) Y).bind fun xs=>(os.oP Y (akZ xs) H xs).bind fun b=>(aPp.oP Y (akZ xs) H args).bind fun a=>(F b a).bind fun q=>
     prc q (fun r=>some (.ret {val:=(vJ (EU.enc (yn.nS r.1) r.2)).s8 (rA Y H.length),rd:=Y,up:=Y.zip ((yn.enc (yn.nS r.1) r.1).map (lw.s8 (rA Y H.length))),nw:=((yn.enc (yn.nS r.1) r.1).drop Y.length).map (lw.s8 (rA Y H.length)),whole:=true}))
      (fun r=>some (.pan ((vJ (Ob.enc (Gg.nS r.1) r.2)).s8 (rA Y H.length)) (A6 Y H (Gg.enc (Gg.nS r.1) r.1))))else none
def atM(P:aPO)(f:aPN)(e:List AV->List lw->Option CO):Prop:=∀args (J:k9),(∀ef,e args J.heap=some (.ret ef)->L9 P f args J ef)/\∀x H',e args J.heap=some (.pan x H')->apn P f args J.heap x H'
def DQ{pos:List YA}{os:OL O}{aPp:AL W}{yn:OL O1}{EU:AL W1}{Gg:OL O2}{Ob:AL W2}{F:O->W->Option (PR (O1×W1) (O2×W2))}
 (h:∀b a r,F b a=some r->FnP P f (aPp.enc (os.nS b) a) (os.enc (os.nS b) b) (enP true yn EU Gg Ob r)):atM P f (K3 pos os aPp yn EU Gg Ob F):=by
 have hP:=mo (pos:=pos) h;intro args J
 have key:∀c,K3 pos os aPp yn EU Gg Ob F args J.heap=some c->∃Y,(∀l∈Y,l<J.heap.length)/\((∃ef,c=.ret ef/\(ef.rd=Y/\ef.whole=true/\∀l∈ef.up.map (·.1),l∈Y)/\A7 true pos os aPp yn EU Gg Ob F args J.heap=some (.ret ef.val,pI J.heap ef.up++ef.nw))\/∃x H',c=.pan x H'/\A7 true pos os aPp yn EU Gg Ob F args J.heap=some (.panic x,H')):=by
  intro c he;unfold K3 at he;simp only[fg]at he;obtain⟨Y,hρ,he⟩:=he;cases hc:(NI Y&&(decide (os.nR<=Y.length)&&(decide (aPp.nR<=Y.length)&&(decide (Y.length<=yn.size)&&decide (Y.length<=Gg.size)))))with
  |false=>simp [hc]at he
  |true=>
   simp only[hc,kP,fg]at he;obtain⟨xs,hxs,b,hb,a,ha,q,hq,he⟩:=he;refine⟨Y,fun l hl=>?_,?_⟩
   ·obtain⟨i,hi⟩:=List.getElem?_of_mem hl;obtain⟨x,_,EC⟩:=(abD hxs).2 i l hi
    grind
   ·have agl:A7 true pos os aPp yn EU Gg Ob F args J.heap=prc q (fun r=>some (.ret ((vJ (EU.enc (yn.nS r.1) r.2)).s8 (rA Y J.heap.length)),A6 Y J.heap (yn.enc (yn.nS r.1) r.1)))
     (fun r=>some (.panic ((vJ (Ob.enc (Gg.nS r.1) r.2)).s8 (rA Y J.heap.length)),A6 Y J.heap (Gg.enc (Gg.nS r.1) r.1))):=by
     simp_all [A7,pkO]
    cases q with
    |ok r=>
     simp only[prc,fi]at he;subst he;left;refine⟨_,rfl,⟨rfl,rfl,fun l hl=>?_⟩,?_⟩
     ·simp only[List.mem_map]at hl;obtain⟨p,hp,rfl⟩:=hl;exact(List.of_mem_zip hp).1
     ·rw[agl];simp only[prc,ak3];rfl
    |pn r=>
     grind [prc]
 refine⟨fun ef he=>?_,fun x H' he=>?_⟩
 ·obtain⟨Y,q9,⟨ef',hc,⟨h1,h2,h3⟩,hx⟩|⟨_,_,hc,_⟩⟩:=key _ he
  ·simp only[CO.ret.injEq]at hc;subst hc;refine⟨⟨by rw[h1];exact q9,by rw[h1];exact h3⟩,fun J' _ _ hw=>?_⟩;have hh:=hw h2;have:=hP args J' (.ret ef.val) (pI J.heap ef.up++ef.nw) (by rw[hh];exact hx);rw[hh];exact this
  ·cases hc
 ·obtain⟨Y,q9,⟨ef',hc,_⟩|⟨x',H2,hc,hx⟩⟩:=key _ he
  ·cases hc
  ·simp only[CO.pan.injEq]at hc;obtain⟨rfl,rfl⟩:=hc;intro J' hh;exact hP args J' (.panic x) H' (by rw[hh];exact hx)
end A7
def DR:List (Nat×anZ)->aPN->anZ
 |[],_,_,_=>none
 |(g,e)::t,f,args,H=>if f=g then e args H else DR t f args H
def nE:∀f args (J:k9) o H',DR [] f args J.heap=some (o,H')->ER P f args J (fun o' Kl=>o'=o/\Kl=H'):=by
 intro f args J r H' h;cases h
def lQ{e:anZ}{t:List (Nat×anZ)}(h1:aEd P g e)(h2:∀f args (J:k9) o H',DR t f args J.heap=some (o,H')->ER P f args J (fun o' Kl=>o'=o/\Kl=H')):
 ∀f args (J:k9) o H',DR ((g,e)::t) f args J.heap=some (o,H')->ER P f args J (fun o' Kl=>o'=o/\Kl=H'):=by
 intro f args J r H' h;simp only[DR]at h;split at h
 ·rename_i hg;subst hg;exact h1 _ _ _ _ h
 ·exact h2 _ _ _ _ _ h
def Vc:List (Nat×(List AV->List lw->Option CO))->aPN->List AV->List lw->Option CO
 |[],_,_,_=>none
 |(g,e)::t,f,args,H=>if f=g then e args H else Vc t f args H
def vK:∀f args (J:k9),(∀e,Vc [] f args J.heap=some (.ret e)->L9 P f args J e)/\∀x H',Vc [] f args J.heap=some (.pan x H')->apn P f args J.heap x H':=by
 intro f args J;exact⟨fun e h=>(by cases h),fun x H' h=>(by cases h)⟩
def qc{e:List AV->List lw->Option CO}{t:List (Nat×(List AV->List lw->Option CO))}(h1:atM P g e)(h2:∀f args (J:k9),(∀e,Vc t f args J.heap=some (.ret e)->L9 P f args J e)/\∀x H',Vc t f args J.heap=some (.pan x H')->apn P f args J.heap x H'):
 ∀f args (J:k9),(∀ef,Vc ((g,e)::t) f args J.heap=some (.ret ef)->L9 P f args J ef)/\∀x H',Vc ((g,e)::t) f args J.heap=some (.pan x H')->apn P f args J.heap x H':=by
 intro f args J;simp only[Vc];by_cases hg:f=g
 ·subst hg;simp only[kW];exact h1 args J
 grind
abbrev YB:=aPN->List AV->List lw->Option (yJ×List lw)
variable {cr:YB}
section unw

def afu(cr cp:YB)(en:Option AV->k9->Option R):List (aPN×List AV)->Option AV->k9->Option R
 |[],m,J=>en m J
 |(f,args)::ds,none,J=>(cr f args J.heap).bind fun q=>match q with
  |(.ret _,H')=>afu cr cp en ds none {J with heap:=H',df:=ds}
  |(.panic _,_)=>none
 |(f,args)::ds,some x,J=>(cp f (args++[x]) J.heap).bind fun q=>match q with
  |(.ret _,H')=>afu cr cp en ds none {J with heap:=H',df:=ds}
  |(.panic x',H')=>afu cr cp en ds (some x') {J with heap:=H',df:=ds}
theorem aws {cp:YB}{en:Option AV->k9->Option R}{m:Option AV}:afu cr cp en [] m J=en m J:=by cases m<;>rfl
def aL4(cr cp:YB)(en:Option AV->k9->Option R)(ds:List (aPN×List AV))(J:k9):yJ×List lw->Option R
 |(.ret _,H')=>afu cr cp en ds none {J with heap:=H',df:=ds}
 |(.panic x',H')=>afu cr cp en ds (some x') {J with heap:=H',df:=ds}
def aL5(cr cp:YB)(en:Option AV->k9->Option R)(ds:List (aPN×List AV))(J:k9):yJ×List lw->Option R
 |(.ret _,H')=>afu cr cp en ds none {J with heap:=H',df:=ds}
 |(.panic x',H')=>none
def aEe {cp:YB}{en:Option AV->k9->Option R}:afu cr cp en ((f,args)::ds) none J=(cr f args J.heap).bind (aL5 cr cp en ds J):=by
 simp only[afu];congr 1
def aEf {cp:YB}{en:Option AV->k9->Option R}:afu cr cp en ((f,args)::ds) (some x) J=(cp f (args++[x]) J.heap).bind (aL4 cr cp en ds J):=by
 simp only[afu];congr 1
def QOK(P:aPO)(T:aPN->aPP->aPQ->Array aPP->(Ending->aPQ->Prop)->Prop)(c:YB):Prop:=∀f args (J:k9) o H',c f args J.heap=some (o,H')->Bs P f=true/\Zb P (T f) 0 args J (fun o' Kl=>o'=o/\Kl=H')
def Zb.mono(hT:agA T){K K':yJ->List lw->Prop}(h:Zb P T l args J K)(hk:∀o H,K o H->K' o H):Zb P T l args J K':=by
 intro C U a w hP S vs hr;refine hT.mono _ _ _ _ _ ?_ (h C U a w hP S vs hr)
 grind
def adD{P:aPO}{cr cp:YB}{en:Option AV->k9->Option R}{CF:Option AV->k9->Prop}{r:R}(hr:QOK P (aq5 P) cr)(hp:QOK P (aq6 P) cp)(he:∀m J,J.df=[]->en m J=some r->CF m J):
 ∀(ds:List (aPN×List AV))(m:Option AV)(J:k9),J.df=ds->afu cr cp en ds m J=some r->akO P CF ds m J
 |[],m,J,hd,h=>by rw[aws]at h;exact he m J hd h
 |(f,args)::ds,none,J,hd,h=>by
  simp only[afu,fg]at h;obtain⟨⟨o,H'⟩,hc,h⟩:=h;obtain⟨h1,h2⟩:=hr f args {J with df:=ds} o H' hc;refine⟨h1,h2.mono amk ?_⟩;rintro o' Kl ⟨rfl,rfl⟩;cases o' with
  |ret x=>exact adD hr hp he ds none _ rfl h
  |panic x=>cases h
 |(f,args)::ds,some x,J,hd,h=>by
  simp only[afu,fg]at h;obtain⟨⟨o,H'⟩,hc,h⟩:=h;obtain⟨h1,h2⟩:=hp f (args++[x]) {J with df:=ds} o H' hc;refine⟨h1,h2.mono aml ?_⟩;rintro o' Kl ⟨rfl,rfl⟩;cases o' with
  |ret x=>exact adD hr hp he ds none _ rfl h
  |panic x=>exact adD hr hp he ds (some x) _ rfl h
def Xm:List (Nat×anZ)->YB
 |[],_,_,_=>none
 |(g,e)::t,f,args,H=>if f=g then e args H else Xm t f args H
def Ua{T:aPN->aPP->aPQ->Array aPP->(Ending->aPQ->Prop)->Prop}:QOK P T (Xm []):=by
 intro f args J o H' h;cases h
def Pq{T:aPN->aPP->aPQ->Array aPP->(Ending->aPQ->Prop)->Prop}{e:anZ}{t:List (Nat×anZ)}(h1:∀args (J:k9) o H',e args J.heap=some (o,H')->Bs P g=true/\Zb P (T g) 0 args J (fun o' Kl=>o'=o/\Kl=H'))(h2:QOK P T (Xm t)):QOK P T (Xm ((g,e)::t)):=by
 intro f args J o H' h;simp only[Xm]at h;split at h
 ·grind
 ·exact h2 _ _ _ _ _ h
def enR(yn:OL O1)(EU:AL W1)(r:O1×W1):yJ×List lw:=(.ret (vJ (EU.enc (yn.nS r.1) r.2)),yn.enc (yn.nS r.1) r.1)
def Q7(pos:List YA)(os:OL O)(aPp:AL W)(yn:OL O1)(EU:AL W1)(F:O->W->Option (O1×W1)):anZ:=anp pos os aPp yn.size (enR yn EU) F
def abE(hT:agA T)(hz:∀(U U':Nat->aPP)(k k':Nat),T (U k)=T (U' k'))(hen:Bs P f=true){pos:List YA}
 (h:∀b a r,F b a=some r->FnT P T (aPp.enc (os.nS b) a) (os.enc (os.nS b) b) (fun o H'=>o=(enR yn EU r).1/\H'=(enR yn EU r).2)):∀args (J:k9) o H',Q7 pos os aPp yn EU F args J.heap=some (o,H')->Bs P f=true/\Zb P T 0 args J (fun o' Kl=>o'=o/\Kl=H'):=by
 intro args J o H' he;obtain⟨b,a,q,hq,BB⟩:=awr (P:=P) (T:=T) hT hz (fun q=>by simp only[enR,yn.sz];exact Nat.le_refl _) he;exact⟨hen,BB (h b a q hq)⟩
end unw
section steps
variable {k:List Kt} {q:PR W O}
def aBU{rest:List aPM}{f:W->Option (yJ×List lw)}{g:O->Option (yJ×List lw)}:Zc M lR dst rest k J (prc q f g)=prc q (fun x=>Zc M lR dst rest k J (f x)) (fun y=>Zc M lR dst rest k J (g y)):=by cases q<;>rfl
def azj{rest:List aPM}{f:W->Option CO}{g:O->Option CO}:Vb M p dst rest j tr k J (prc q f g)=prc q (fun x=>Vb M p dst rest j tr k J (f x)) (fun y=>Vb M p dst rest j tr k J (g y)):=by cases q<;>rfl
end steps
attribute [go_sem] aL3 aJS aJT aBU azj A7 K3 Q7 anp enR DR Vc Xm aws aEe aEf aL4 aL5 List.zip_cons_cons List.zip_nil_left yJ.s8
section ends
variable {W2 O2:Type}
def tO(P:aPO)(rs:List ResultVar)(pos:List YA)(base:List Nat)(low:Nat)(os:OL O1)(s:AL W1)(J:k9):Option (PR (O1×W1) (O2×W2)):=(yK P rs pos base low os s J).map .ok
def tP(pos:List YA)(base:List Nat)(low:Nat)(os:OL O2)(s:AL W2)(x:AV)(J:k9):Option (PR (O1×W1) (O2×W2)):=(ay9 [x] pos base low os s J).map .pn
attribute [go_sem] tO tP
theorem asn{y:AV}:vJ [y]=y:=rfl
def aHe{fn:Func}{r:PR (O1×W1) (O2×W2)}{M:mg (PR (O1×W1) (O2×W2))}{yn:OL O1}{EU:AL W1}{Gg:OL O2}{Ob:AL W2}{p2:List YA}{b2:List Nat}(G:KX M)(hf:M.P.funcs[f]? =some fn)(hb:fn.body=some M.body)(uP:(fn.name != "runtime.NumGoroutine")=true)
 (LY:yg H.length args) (Mw:∀x∈H,uJ H.length x) (hn:fn.ntmps=n) (Po:fn.results=rs.toArray) (hb1:b1=fk low) (hb2:b2=fk low) (DI:∀b a,∃y,Ob.enc (Gg.nS b) a=[y])
 (ho:M.out=tO M.P rs p1 b1 low yn EU) (hq:M.ua=tP p2 b2 low Gg Ob)
 (h:run M [.at []] {lE:=args++fm (n-args.length) .any,heap:=H,low:=H.length}=some r):FnP M.P f args H (enP true yn EU Gg Ob r):=by
 refine akW G hf hb uP LY Mw hn Po (fun J hs=>?_) (fun x J hs=>?_) h
 ·rw[ho]at hs;unfold tO at hs;rw[fj]at hs;obtain⟨q,hq,rfl⟩:=hs;obtain⟨hd,xs,hx,Mv⟩:=Zf hb1 hq;rw[hd];exact S8 hx Mv
 ·rw[hq]at hs;unfold tP at hs;rw[fj]at hs;obtain⟨q,hq,rfl⟩:=hs;obtain⟨hd,Mv⟩:=ak1 hb2 hq;rw[hd];obtain⟨y,hy⟩:=DI q.1 q.2;rw[hy]at Mv;have:=avW (P:=M.P) (rs:=rs) Mv.e;simp only[enP,prc,hy,asn,pkO];exact this
def ak4(P:aPO)(rs:List ResultVar)(p1:List YA)(base:List Nat)(low:Nat)(yn:OL O1)(s1:AL W1)(p2:List YA)(Gg:OL O2)(s2:AL W2)(J:k9):Option (PR (O1×W1) (O2×W2)):=
 ((yK P rs p1 base low yn s1 J).map .ok).or ((yK P rs p2 base low Gg s2 J).map .pn)
attribute [go_sem] ak4
def aHf{fn:Func}{r:PR (O1×W1) (O2×W2)}{M:mg (PR (O1×W1) (O2×W2))}{yn:OL O1}{EU:AL W1}{Gg:OL O2}{Ob:AL W2}{p2:List YA}(G:KX M)(hf:M.P.funcs[f]? =some fn)(hb:fn.body=some M.body)(uP:(fn.name != "runtime.NumGoroutine")=true)
 (LY:yg H.length args) (Mw:∀x∈H,uJ H.length x) (hn:fn.ntmps=n) (Po:fn.results=rs.toArray) (hb1:b1=fk low) (ho:M.out=ak4 M.P rs p1 b1 low yn EU p2 Gg Ob)
 (h:run M [.at []] {lE:=args++fm (n-args.length) .any,heap:=H,low:=H.length}=some r) (hP:∀x J',M.ua x J'=none:=by intros;rfl):FnP M.P f args H (enP false yn EU Gg Ob r):=by
 refine akW G hf hb uP LY Mw hn Po (fun J hs=>?_) (fun x J hs=>by rw[hP x J]at hs;cases hs) h;rw[ho]at hs;unfold ak4 at hs;rw[Option.or_eq_some_iff]at hs;rcases hs with hs|⟨_,hs⟩
 ·rw[fj]at hs;obtain⟨q,hq,rfl⟩:=hs;obtain⟨hd,xs,hx,Mv⟩:=Zf hb1 hq;rw[hd];exact S8 hx Mv
 ·rw[fj]at hs;obtain⟨q,hq,rfl⟩:=hs;obtain⟨hd,xs,hx,Mv⟩:=Zf hb1 hq;rw[hd];exact S8 hx Mv
def enC(P:aPO)(rs:List ResultVar)(t:Ty Y):Option AV->k9->Option Y
 |none,J=>pR P rs t J
 |some _,_=>none
def aL6{t:Ty Y}:enC P rs t none J=pR P rs t J/\∀x,enC P rs t (some x) J=none:=⟨rfl,fun _=>rfl⟩
def aHg(cr cp:YB)(P:aPO)(rs:List ResultVar)(t:Ty Y)(J:k9):Option Y:=afu cr cp (enC P rs t) J.df none J
def aAn(cr cp:YB)(P:aPO)(rs:List ResultVar)(t:Ty Y)(x:AV)(J:k9):Option Y:=afu cr cp (enC P rs t) J.df (some x) J
attribute [go_sem] aL6 aHg aAn
def awt{M:mg Y}{fn:Func}{r:Y}{t:Ty Y}{cp:YB}(G:KX M)(hcr:QOK M.P (aq5 M.P) cr)(hcp:QOK M.P (aq6 M.P) cp)(hf:M.P.funcs[f]? =some fn)(hb:fn.body=some M.body)(uP:(fn.name != "runtime.NumGoroutine")=true)(LY:yg 0 args)
 (hn:fn.ntmps=n) (Po:fn.results=rs.toArray) (ho:M.out=aHg cr cp M.P rs t) (hq:M.ua=aAn cr cp M.P rs t)
 (h:run M [.at []] {lE:=args++fm (n-args.length) .any,heap:=[]}=some r):N6 M.P f args (fun v=>v=t.enc r):=by
 have Z9:∀m J,J.df=[]->enC M.P rs t m J=some r->aBi M.P rs (fun v=>v=t.enc r) m J:=by
  intro m J _ he;cases m with
  |none=>exact(aic he).2
  |some x=>cases he
 refine atq hf hb uP LY ?_;rw[Po,hn];refine ads G h (fun J hs=>?_) (fun x J hs=>?_)
 ·rw[ho]at hs;have:=adD hcr hcp Z9 J.df none J rfl hs;exact⟨this,this⟩
 ·rw[hq]at hs;exact adD hcr hcp Z9 J.df (some x) J rfl hs
theorem awu{M:mg (O1×W1)}{fn:Func}{id:Nat}{rest:List aPM}{r:O1×W1}{yn:OL O1}{EU:AL W1}(G:KX M)
 (hf:M.P.funcs[f]? =some fn) (hb:fn.body=some M.body) (Q5:M.body=.seq (.region id lR false) y) (anW:lR.toList=o::rest) (aft:ann o=true) (awq:aig rest=true)
 (LY:yg H.length (args++[x])) (Mw:∀x∈H,uJ H.length x) (hn:fn.ntmps=n) (Po:fn.results=rs.toArray) (hb1:b1=fk low) (ho:M.out=yK M.P rs p1 b1 low yn EU)
 (h:run M [.lR lR rest,.cut [1],.at [1]] (k9.put {lE:=args++fm (n-args.length) .any,heap:=H,low:=H.length} o.dst x)=some r) (hP:∀x J',M.ua x J'=none:=by intros;rfl):
 FnT M.P (aq6 M.P f) (args++[x]) H (fun o H'=>o=(enR yn EU r).1/\H'=(enR yn EU r).2):=by
 refine anX hf (by rw[hb,Q5]) anW aft LY Mw hn Po (aAm G Q5 awq (fun J hs=>?_) h hP);rw[ho]at hs;obtain⟨hd,xs,hx,Mv⟩:=Zf hb1 hs;have:=S8 hx Mv;exact⟨⟨hd,this⟩,hd,this⟩
theorem awv{M:mg (O1×W1)}{fn:Func}{id:Nat}{rest:List aPM}{r:O1×W1}{yn:OL O1}{EU:AL W1}(G:KX M)
 (hf:M.P.funcs[f]? =some fn) (hb:fn.body=some M.body) (Q5:M.body=.seq (.region id lR false) y) (anW:lR.toList=o::rest) (aft:ann o=true) (awq:aig rest=true)
 (LY:yg H.length args) (Mw:∀x∈H,uJ H.length x) (hn:fn.ntmps=n) (Po:fn.results=rs.toArray) (hb1:b1=fk low) (ho:M.out=yK M.P rs p1 b1 low yn EU)
 (h:run M [.lR lR rest,.cut [1],.at [1]] (k9.put {lE:=args++fm (n-args.length) .any,heap:=H,low:=H.length} o.dst (.uS .nilIface))=some r) (hP:∀x J',M.ua x J'=none:=by intros;rfl):
 FnT M.P (aq5 M.P f) args H (fun o H'=>o=(enR yn EU r).1/\H'=(enR yn EU r).2):=by
 refine anY hf (by rw[hb,Q5]) anW aft LY Mw hn Po (aAm G Q5 awq (fun J hs=>?_) h hP);rw[ho]at hs;obtain⟨hd,xs,hx,Mv⟩:=Zf hb1 hs;have:=S8 hx Mv;exact⟨⟨hd,this⟩,hd,this⟩
end ends
def dIf(t:TypeId)(a:Ty W):AV->Option W
 |.iface t' v=>if t'=t then a.oP [] v else none
 |_=>none
def aBV{t:TypeId}{y:AV}(h:Pc x y):Pc (.iface t x) (.iface t y):=by
 rintro E v ⟨u,hu,r⟩;exact⟨u,hu,h _ _ r⟩
def aag(t:TypeId)(a:Ty W):Ty W where
 enc x:=.iface t (a.enc x)
 oP _:=dIf t a
 ok H n v x h:=by
  unfold dIf at h;split at h
  ·split at h
   ·rename_i ht;subst ht;exact Co.sub (aBV (a.ok [] n _ _ h).qk) (a.nb n x)
   ·cases h
  ·cases h
 nb n x:=a.nb n x
def aJV{t:TypeId}{a:Ty W}:(∀x,(aag t a).enc x=.iface t (a.enc x))/\(∀H v,(aag t a).oP H v=dIf t a v)/\∀v,dIf t a (.iface t v)=a.oP [] v:=⟨fun _=>rfl,fun _ _=>rfl,fun _=>by simp [dIf]⟩
def dE0:AV->Option Unit
 |.agg []=>some ()
 |_=>none
def agH:Ty Unit where
 enc _:=.agg []
 oP _:=dE0
 ok H n v x h:=by
  unfold dE0 at h;split at h
  ·exact Co.same trivial
  ·cases h
 nb n x:=trivial
def aJW:(∀x,agH.enc x=.agg [])/\(∀H v,agH.oP H v=dE0 v)/\dE0 (.agg [])=some ():=⟨fun _=>rfl,fun _ _=>rfl,rfl⟩
attribute [go_sem] aJV aJW
def R9(t:Ty W)(p:lH×W):AV×AV:=(.str (sb p.1),t.enc p.2)
section
variable {t:Ty W}
theorem agI:∀xs:List (lH×W),aON (xs.map (R9 t))=true
 |[]=>rfl
 |_::xs=>agI xs
theorem ak5(s:lH):∀xs:List (lH×W),C3 (sb s) (xs.map (R9 t))=(qw s xs).map t.enc
 |[]=>rfl
 |(k,v)::xs=>by
  show(bif sb s==sb k then some (t.enc v)else C3 (sb s) (xs.map (R9 t)))=_;rw[atH,ak5 s xs]
  grind [qw]
theorem anq(s:lH)(v:W):∀xs:List (lH×W),RX (sb s) (t.enc v) (xs.map (R9 t))=(ET s v xs).map (R9 t)
 |[]=>rfl
 |(k,u)::xs=>by
  show(bif sb s==sb k then(AV.str (sb k),t.enc v)::xs.map (R9 t)else(AV.str (sb k),t.enc u)::RX (sb s) (t.enc v) (xs.map (R9 t)))=_;rw[atH,anq s v xs];simp only[ET];cases s==k<;>rfl
def oel(o:Option W)(a:γ)(f:W->γ):γ:=match o with
 |none=>a
 |some x=>f x
def aEg{a:γ}{f:W->γ}:oel none a f=a:=rfl
def aEh{x:W}{a:γ}{f:W->γ}:oel (some x) a f=f x:=rfl
def aEi{z:AV}{s:lH}{xs:List (lH×W)}:al3 z l (sb s) (some (.map (mp (R9 t) xs)))=oel (qw s xs) (some {val:=.Mt [z,.bool false],rd:=[l]}) (fun x=>some {val:=.Mt [t.enc x,.bool true],rd:=[l]}):=by
 rw[sZ];simp only[al3,agI,kW,ak5];cases qw s xs<;>rfl
def aHh{s:lH}{v:W}{xs:List (lH×W)}:GG l (sb s) (t.enc v) (some (.map (mp (R9 t) xs)))=some {val:=.any,rd:=[l],up:=[(l,.map (mp (R9 t) (ET s v xs)))]}:=by
 grind [sZ,GG,agI,anq]
def aoR(n:Nat)(xs:List (lH×W)):uJ n (.map (mp (R9 t) xs))=True:=by
 refine eq_true fun p hp=>?_
 rw[sZ,List.mem_map]at hp;obtain⟨q,_,rfl⟩:=hp;exact⟨trivial,t.nb n q.2⟩
def aww(Y:Nat->Nat)(xs:List (lH×W)):(mp (R9 t) xs).map (fun p=>(AV.s8 Y p.1,AV.s8 Y p.2))=mp (R9 t) xs:=by
 rw[sZ,List.map_map];refine List.map_congr_left fun q _=>?_
 show(AV.s8 Y (.str (sb q.1)),AV.s8 Y (t.enc q.2))=(.str (sb q.1),t.enc q.2);rw[R1 Y _ (t.nb 0 q.2)];rfl
theorem awx(τ:Nat->Nat)(xs:List (lH×W)):(lw.map (mp (R9 t) xs)).s8 τ=.map (mp (R9 t) xs):=by
 show lw.map ((mp (R9 t) xs).map _)=_;congr 1;exact aww τ xs
def ajU(t:Ty W)(x:lw):Option (List (lH×W)):= @dite _ (∃xs,x=.map (mp (R9 t) xs)) (Classical.propDecidable _) (fun h=>some h.choose) (fun _=>none)
theorem atO{x:lw}{xs:List (lH×W)}(h:ajU t x=some xs):x=.map (mp (R9 t) xs):=by
 unfold ajU at h;split at h
 all_goals grind
end
section inj
variable {t:Ty W} (hinj:∀x y,t.enc x=t.enc y->x=y)
include hinj
theorem aAo:∀xs ys:List (lH×W),xs.map (R9 t)=ys.map (R9 t)->xs=ys
 |[],[],_=>rfl
 |[],_::_,h=>by simp at h
 |_::_,[],h=>by simp at h
 |(s,x)::xs,(s',y)::ys,h=>by
  simp only[List.map_cons,List.cons.injEq]at h;obtain⟨h1,h2⟩:=h;simp only[R9,Prod.mk.injEq,AV.str.injEq]at h1
  have e1:s=s':=by
   grind [aie]
  rw[e1,hinj _ _ h1.2,aAo xs ys h2]
theorem aAp(xs:List (lH×W)):ajU t (.map (mp (R9 t) xs))=some xs:=by
 have hh:∃ys,(lw.map (mp (R9 t) xs))=.map (mp (R9 t) ys):=⟨xs,rfl⟩
 grind [ajU,sZ,aAo]
theorem aBW:ajU t (.map (mp K2 []))=some []:=by
 have:=aAp hinj [];rw[sZ]at this ⊢;exact this
def aEj:(∀xs,ajU t (.map (mp (R9 t) xs))=some xs)/\ajU t (.map [])=some []/\ajU t (.map (mp K2 []))=some []:=by
 grind [aAp,aBW,sZ]
end inj
section og

def an0(t:Ty W):OG (List (lH×W)) where
 enc _ xs:=.map (mp (R9 t) xs)
 oP _ _ _:=ajU t
 len _:=0
 nR:=0
 nb L g:=of_eq_true (aoR 0 g)
 ok Y L H n x g _ h:=by
  rw[atO h];rw[awx];exact .inr (.inl ⟨rfl,of_eq_true (aoR n g)⟩)
 anj Y L H x g h:=by
  rw[atO h];rfl
def aJX{t:Ty W}:(∀L g,(an0 t).enc L g=.map (mp (R9 t) g))/\(∀Y L H x,(an0 t).oP Y L H x=ajU t x)/\(∀g,(an0 t).len g=0)/\(an0 t).nR=0:=⟨fun _ _=>rfl,fun _ _ _ _=>rfl,fun _=>rfl,rfl⟩
def oM(t:Ty W):ZO:=⟨fun _ _ x=>(ajU t x).bind fun xs=>some (.map (mp (R9 t) xs)),fun H n x y h=>by
 simp only[fg,fi]at h;obtain⟨xs,hx,rfl⟩:=h;rw[atO hx];exact .inr (.inl ⟨rfl,of_eq_true (aoR n xs)⟩)⟩
def aNQ{t:Ty W}{x:lw}:(oM t).f H n x=(ajU t x).bind fun xs=>some (.map (mp (R9 t) xs)):=rfl
end og
def ak6{pos:List YA}
 (h:∀b a r,F b a=some r->FnG P f (aPp.enc (os.nS b) a) (os.enc (os.nS b) b) (fun o H'=>o=.ret (vJ (EU.enc (yn.nS r.1) r.2))/\H'=yn.enc (yn.nS r.1) r.1)):
 atM P f (K3 pos os aPp yn EU yn EU (fun b a=>(F b a).map fun r=>(PR.ok r:PR (O1×W1) (O1×W1)))):=by
 refine DQ (fun b a r hr=>?_);rw[fj]at hr;obtain⟨r',hr,rfl⟩:=hr;exact h b a r' hr
def aHi(v:AV)(s:AL δ)(Y:List Nat)(L:Il)(H:List lw):List AV->Option δ
 |x::xs=>qq (x=v) (s.oP Y L H xs)
 |_=>none
def alK(v:AV)(hv:v.nb 0)(s:AL δ):AL δ where
 enc L g:=v::s.enc L g
 oP:=aHi v s
 nR:=s.nR
 nb L g:=⟨AV.am4 (Nat.zero_le _) v hv,s.nb L g⟩
 ok Y L H n vs g hc h:=by
  unfold aHi at h;split at h
  ·rw[pH]at h;obtain⟨rfl,h⟩:=h;refine GM.cons ?_ (s.ok Y L H n _ _ hc h);rw[R1 _ _ hv];exact Co.same (AV.am4 (Nat.zero_le _) _ hv)
  ·cases h
def aL7{v:AV}{hv:v.nb 0}{s:AL δ}:(∀L g,(alK v hv s).enc L g=v::s.enc L g)/\(∀Y L H xs,(alK v hv s).oP Y L H xs=aHi v s Y L H xs)/\(alK v hv s).nR=s.nR:=⟨fun _ _=>rfl,fun _ _ _ _=>rfl,rfl⟩
attribute [go_sem] aL7 aHi
section steps
variable {k:List Kt} {o:Option W}
def aBX{rest:List aPM}{f:W->Option yO}:wJ M lR dst rest k J (oel o a f)=oel o (wJ M lR dst rest k J a) (fun x=>wJ M lR dst rest k J (f x)):=by cases o<;>rfl
def azk{rest:List aPM}{f:W->Option yO}:DM M p dst rest j tr k J (oel o a f)=oel o (DM M p dst rest j tr k J a) (fun x=>DM M p dst rest j tr k J (f x)):=by cases o<;>rfl
end steps
attribute [go_sem] aNQ aEg aEh aEi aJX awx aBX azk as6
attribute [go_sem high] aoR aww
def aHj(d:Nat):Code->Bool
 | .seq (.region _ lR false) _=>match lR.toList with
   |o::rest=>ann o&&(o.dst==some d)&&aig rest
   |[]=>false
 |_=>false
def aso{c:Code}(h:aHj d c=true):∃id lR y o rest,c=.seq (.region id lR false) y/\lR.toList=o::rest/\ann o=true/\o.dst=some d/\aig rest=true:=by
 unfold aHj at h
 grind
section aJY

def ak7{M:mg (O1×W1)}{fn:Func}{r:O1×W1}{yn:OL O1}{EU:AL W1}(G:KX M)
 (hf:M.P.funcs[f]? =some fn) (hb:fn.body=some M.body) (aft:aHj d M.body=true)
 (LY:yg H.length (args++[x])) (Mw:∀x∈H,uJ H.length x) (hn:fn.ntmps=n) (Po:fn.results=rs.toArray) (hb1:b1=fk low) (ho:M.out=yK M.P rs p1 b1 low yn EU)
 (h:run M [.lR (wV M [0]) ((wV M [0]).toList.drop 1),.cut [1],.at [1]] (k9.put {lE:=args++fm (n-args.length) .any,heap:=H,low:=H.length} (some d) x)=some r) (hP:∀x J',M.ua x J'=none:=by intros;rfl):
 FnT M.P (aq6 M.P f) (args++[x]) H (fun o H'=>o=(enR yn EU r).1/\H'=(enR yn EU r).2):=by
 obtain⟨id,lR,y,o,rest,Q5,anW,h1,h2,h3⟩:=aso aft;have e:wV M [0]=lR:=by unfold wV;rw[Q5];rfl
 grind [awu]
def ak8{M:mg (O1×W1)}{fn:Func}{r:O1×W1}{yn:OL O1}{EU:AL W1}(G:KX M)
 (hf:M.P.funcs[f]? =some fn) (hb:fn.body=some M.body) (aft:aHj d M.body=true)
 (LY:yg H.length args) (Mw:∀x∈H,uJ H.length x) (hn:fn.ntmps=n) (Po:fn.results=rs.toArray) (hb1:b1=fk low) (ho:M.out=yK M.P rs p1 b1 low yn EU)
 (h:run M [.lR (wV M [0]) ((wV M [0]).toList.drop 1),.cut [1],.at [1]] (k9.put {lE:=args++fm (n-args.length) .any,heap:=H,low:=H.length} (some d) (.uS .nilIface))=some r) (hP:∀x J',M.ua x J'=none:=by intros;rfl):
 FnT M.P (aq5 M.P f) args H (fun o H'=>o=(enR yn EU r).1/\H'=(enR yn EU r).2):=by
 obtain⟨id,lR,y,o,rest,Q5,anW,h1,h2,h3⟩:=aso aft;have e:wV M [0]=lR:=by unfold wV;rw[Q5];rfl
 grind [awv]
end aJY
section
variable {C:tC} {U:Nat->aPP} {a:Act} {w:aPQ}

def azl(P:aPO)(rs:List ResultVar)(j:Nat)(r:Row γ)(s:Ma (List γ×Unit) W)(J:k9):Option ((List γ×Unit)×W):=
 bif J.df.isEmpty then(ES P J rs).bind fun xs=>aEk (K1 j r.sz false ⟨xs,J.heap,0,[]⟩) j r s J.low else none
where
 aEk (τ:k9) (j:Nat) (r:Row γ) (s:Ma (List γ×Unit) W) (low:Nat):Option ((List γ×Unit)×W):=
  match τ.lE[j]? with
  |some (.nW l _)=>match τ.heap[l]? with
   |some y=>qq (low=0/\uJ 0 y/\yg 1 (vC (adq 0 l) τ.lE)) (((xo (oaT false r) vI).oP [y] [y]).bind fun b=>(s.oP b [y] (vC (adq 0 l) τ.lE)).bind fun a=>bif decide (s.nR<=1)then some (b,a)else none)
   |none=>none
  |_=>none
def aih{r:Row γ}{s:Ma (List γ×Unit) W}{q:(List γ×Unit)×W}(h:azl P rs j r s J=some q):
 J.df=[]/\∃xs,ES P J rs=some xs/\ajR ⟨xs,J.heap,J.low,[]⟩ ⟨s.enc q.1 q.2,(xo (oaT false r) vI).enc q.1,J.low,[]⟩:=by
 unfold azl at h;cases hd0:J.df with
 |cons p q=>rw[hd0]at h;cases h
 |nil=>
 rw[hd0]at h;simp only[List.isEmpty_nil,kP]at h;simp only[fg]at h;obtain⟨xs,hx,h⟩:=h;refine⟨rfl,xs,hx,?_⟩;unfold azl.aEk at h;split at h
 case h_2=>cases h
 rename_i l m hs;split at h
 case h_2=>cases h
 rename_i y hl;rw[pH]at h;obtain⟨⟨MN,h1,h2⟩,h⟩:=h;simp only[fg]at h;obtain⟨b,hb,a,ha,h⟩:=h;cases hd:decide (s.nR<=1)with
 |false=>simp [hd]at h
 |true=>
  simp only[hd,kP,fi]at h;subst h;rw[MN];have i1:N4 ⟨xs,J.heap,0,[]⟩ (K1 j r.sz false ⟨xs,J.heap,0,[]⟩):=apI;have aLx:(K1 j r.sz false ⟨xs,J.heap,0,[]⟩).low=0:=by unfold K1;split<;>rfl
  have aNM:(K1 j r.sz false ⟨xs,J.heap,0,[]⟩).df=[]:=by unfold K1;split<;>rfl
  generalize hτ:K1 j r.sz false ⟨xs,J.heap,0,[]⟩=τ at*;have i2:ajR ⟨τ.lE,τ.heap,0,[]⟩ ⟨vC (adq 0 l) τ.lE,τ.heap.take 0++[y],0,[]⟩:=agD hl (Nat.zero_le _) (by simp) h1 h2;have e:τ=⟨τ.lE,τ.heap,0,[]⟩:=by cases τ;grind
  rw[e]at i1;refine(i1.e.trans i2).trans ?_;simp only[List.take_zero,List.nil_append];obtain⟨h5,h6⟩:=(xo (oaT false r) vI).ok [y] 1 _ _ hb;refine N4.e (aph.imp (J:=⟨vC (adq 0 l) τ.lE,[y],0,[]⟩) (J':=⟨s.enc b a,(xo (oaT false r) vI).enc b,0,[]⟩) ⟨⟨⟨rfl,Nat.zero_le _⟩,rfl,agv⟩,?_,?_⟩)
  ·show GM [y] ((xo (oaT false r) vI).enc b).length _ _;rw[h6];exact s.ok b [y] 1 _ a (kT hd) ha
  grind
end
section open_
variable {k:List Kt}
def azm{rest:List aPM}{rd:List Nat}{up:List (Nat×lw)}{nw:List lw}{pr:Prop}:
 DM M p dst rest j tr k J (some {val:=x,rd,up,nw,pre:=pr,whole:=true})=qq pr (qq (adr M p tr j {val:=x,rd,up,nw,pre:=pr,whole:=true}) (run M (.Yz p rest (j+1) (R2 tr j J.heap.length {val:=x,rd,up,nw,pre:=pr,whole:=true})::k) {J.put dst x with heap:=pI J.heap up++nw})):=by
 rw[<-aib];rfl
def aEl(M:mg R)(p:List Nat)(c:Nat)(o:aPM)(rest:List aPM)(j:Nat)(J:k9):Option yO->Prop
 |some e=>(e.pre/\e.up=[]/\e.nw=[])/\agB M p c rest (j+1) (J.put o.dst e.val)
 |none=>False
def awy(M:mg R)(p:List Nat)(c:Nat)(o:aPM)(rest:List aPM)(j:Nat)(J:k9):Option (aPN×List AV)->Prop
 |some _=>False
 |none=>aEl M p c o rest j J (opX M.P J o.op)
def aAq(M:mg R)(p:List Nat)(c:Nat)(o:aPM)(rest:List aPM)(j:Nat)(J:k9):Option Bool->Prop
 |none=>False
 |some false=>agB M p c rest (j+1) (J.put o.dst (.uS undef))
 |some true=>awy M p c o rest j J (pZ J o.op)
def azn{rest:List aPM}{e:yO}:aEl M p c o rest j J (some e)=((e.pre/\e.up=[]/\e.nw=[])/\agB M p c rest (j+1) (J.put o.dst e.val)):=rfl
def azo{rest:List aPM}:awy M p c o rest j J none=aEl M p c o rest j J (opX M.P J o.op):=rfl
def azp{rest:List aPM}:aAq M p c o rest j J (some true)=awy M p c o rest j J (pZ J o.op):=rfl
def awz{rest:List aPM}:aAq M p c o rest j J (some false)=agB M p c rest (j+1) (J.put o.dst (.uS undef)):=rfl
def azq{rest:List aPM}(h:QU M p c j=false):agB M p c (o::rest) j J=aAq M p c o rest j J (tH (wV M p) o J):=by
 unfold QU at h;show aby M.P (wV M p) c (o::rest) j J=_;simp only[aby,h];cases hw:tH (wV M p) o J with
 |none=>rfl
 |some b=>
  cases b with
  |false=>rfl
  |true=>
   simp only[aAq];cases hc:pZ J o.op with
   |some q=>simp [awy]
   |none=>
    simp only[true_and,awy,<-xU];cases nf M.P J o.op with
    |none=>rfl
    |some e=>rfl
end open_
attribute [go_sem] azm azn azo azp awz azq ayJ azl azl.aEk
section

def awA{E:HI}{r:Row W}{vs:List aPP}(h:l9 E ((nA r).enc []::ys) vs):∃base c,l9 E (.uS (.slice base 0 c)::ys) vs:=by
 obtain⟨u,us,e,⟨base,cap,hu,_⟩,h2⟩:=h;have hl:(mp r.enc ([]:List W)).length=0:=R4 _ _;rw[hl]at hu;exact⟨base,cap,u,us,e,hu,h2⟩
def aEm{r:Row W}{V:AV->Prop}(h:∀base c,N6 P f (.uS (.slice base 0 c)::ys) V):N6 P f ((nA r).enc []::ys) V:=by
 obtain⟨h1,h2,h3⟩:=h none 0;refine⟨h1,⟨(nA r).nb 0 _,h2.2⟩,fun C U w a b c d vs hv=>?_⟩;obtain⟨base,cap,hr⟩:=awA hv;exact(h base cap).2.2 C U w a b c d vs hr
def agJ{r:Row W}{V:yJ->List lw->Prop}(h:∀base c,FnG P f (.uS (.slice base 0 c)::ys) [] V):FnG P f ((nA r).enc []::ys) [] V:=by
 obtain⟨h1,h2,h2',h3⟩:=h none 0;refine⟨h1,⟨(nA r).nb 0 _,h2.2⟩,h2',fun C U w a b c d e e2 vs hv=>?_⟩;obtain⟨base,cap,hr⟩:=awA hv;exact(h base cap).2.2.2 C U w a b c d e e2 vs hr
def awB:cellsOf (.agg [])=some []:=rfl
def azr:z1 [] 0 []=[]:=rfl
def aL8:(∀l o v,(AV.ptr l o=AV.uS v)=False)/\(∀l o v,(AV.uS v=AV.ptr l o)=False)/\((AV.bool true=AV.bool false)=False)/\((AV.bool false=AV.bool true)=False):=by simp
def aAr:(AV.bool b).nb 0:=trivial
def aIC:(AV.uS v).nb 0:=trivial
end
attribute [go_sem] List.isEmpty_nil awB azr aL8
def qj(P:aPO)(f:Func)(n:Nat)(out:k9->Option R)(cl:aPN->List AV->List lw->Option (AV×List lw):=oN [])(cd:aPN->List AV->Option AV:=KO [])
 (vc:List Nat->k9->Option k9:=tK []) (cut:List Nat->k9->Option k9:=aPo []) (zV:aPN->Bool:=oR []) (cp:aPN->List AV->List lw->Option (yJ×List lw):=fun _ _ _=>none)
 (ua:AV->k9->Option R:=fun _ _=>none) (AI:aPN->Bool:=fun _=>false) (co:aPN->List AV->List lw->Option CO:=fun _ _ _=>none) (AK:aPN->Bool:=fun _=>false)
 (ce:aPN->List AV->List lw->Option yO:=fun _ _ _=>none) (js:List Nat->List (Int×Code):=fun _=>[]) (cy:Nat->List AV->List lw->Option (AV×List lw):=fun _ _ _=>none):mg R:=
 {P:=P,body:=f.body.getD .skip,cl:=cl,cd:=cd,vc:=vc,cut:=cut,n:=n,out:=out,zV:=zV,cp:=cp,ua:=ua,AI:=AI,co:=co,AK:=AK,ce:=ce,js:=js,cy:=cy}
section
variable {f:Func} {vc:List Nat->k9->Option k9} {cut:List Nat->k9->Option k9} {zV:aPN->Bool}
 {ua:AV->k9->Option R} {AI:aPN->Bool} {co:aPN->List AV->List lw->Option CO} {AK:aPN->Bool} {ce:aPN->List AV->List lw->Option yO} {js:List Nat->List (Int×Code)} {cy:Nat->List AV->List lw->Option (AV×List lw)}
def aL9:(qj P f n out cl cd vc cut zV cp ua AI co AK ce js cy).P=P/\(qj P f n out cl cd vc cut zV cp ua AI co AK ce js cy).body=f.body.getD .skip/\(qj P f n out cl cd vc cut zV cp ua AI co AK ce js cy).n=n/\
 (qj P f n out cl cd vc cut zV cp ua AI co AK ce js cy).out=out/\(qj P f n out cl cd vc cut zV cp ua AI co AK ce js cy).cl=cl/\(qj P f n out cl cd vc cut zV cp ua AI co AK ce js cy).cd=cd/\
 (qj P f n out cl cd vc cut zV cp ua AI co AK ce js cy).vc=vc/\(qj P f n out cl cd vc cut zV cp ua AI co AK ce js cy).cut=cut/\(qj P f n out cl cd vc cut zV cp ua AI co AK ce js cy).zV=zV/\
 (qj P f n out cl cd vc cut zV cp ua AI co AK ce js cy).cp=cp/\(qj P f n out cl cd vc cut zV cp ua AI co AK ce js cy).ua=ua/\(qj P f n out cl cd vc cut zV cp ua AI co AK ce js cy).AI=AI/\
 (qj P f n out cl cd vc cut zV cp ua AI co AK ce js cy).co=co/\(qj P f n out cl cd vc cut zV cp ua AI co AK ce js cy).AK=AK/\(qj P f n out cl cd vc cut zV cp ua AI co AK ce js cy).ce=ce/\
 (qj P f n out cl cd vc cut zV cp ua AI co AK ce js cy).js=js/\(qj P f n out cl cd vc cut zV cp ua AI co AK ce js cy).cy=cy:=⟨rfl,rfl,rfl,rfl,rfl,rfl,rfl,rfl,rfl,rfl,rfl,rfl,rfl,rfl,rfl,rfl,rfl⟩
end
@[reducible] def ini(args:List AV)(n:Nat)(H:List lw:=[]):k9:={lE:=args++fm (n-args.length) .any,heap:=H,low:=H.length}
class Fu(W:Type) where z:W
instance {W:Type}:Fu (Option W):=⟨none⟩
instance {W O:Type}[Fu O]:Fu (W->O):=⟨fun _=>Fu.z⟩
def fu[Fu W](F:Nat->W):Nat->W
 |0=>Fu.z
 |n+1=>F n
def l6[Fu W]{F:Nat->W}:fu F (n+1)=F n:=rfl
def C4{W:Type}[Fu W](F:W->W):Nat->W
 |0=>Fu.z
 |m+1=>F (C4 F m)
def lpM{W:Type}[Fu W](F:Nat->W->W):Nat->W
 |0=>Fu.z
 |m+1=>F m (lpM F m)
def azs{W:Type}[Fu W]{F:W->W}{G:Nat->W->Prop}(h0:G 0 Fu.z)(hs:∀m X,G m X->G (m+1) (F X)):∀m,G m (C4 F m)
 |0=>h0
 |m+1=>hs m _ (azs h0 hs m)
def aEn{W:Type}[Fu W]{F:Nat->W->W}{G:Nat->W->Prop}(h0:G 0 Fu.z)(hs:∀m X,G m X->G (m+1) (F m X)):∀m,G m (lpM F m)
 |0=>h0
 |m+1=>hs m _ (aEn h0 hs m)
@[reducible] def pM(l:List AV):List AV:=.any::.any::.any::.any::l
@[reducible] def pg(l:List AV):List AV:=.any::.any::.any::.any::.any::.any::.any::.any::.any::.any::.any::.any::.any::.any::.any::.any::l
@[reducible] def Io(l:List AV):List AV:=pg (pg (pg (pg l)))
@[reducible] def py(l:List NZ):List NZ:=zA::zA::zA::zA::l
@[reducible] def oZ(l:List NZ):List NZ:=py (py (py (py l)))
@[reducible] def Ip(l:List NZ):List NZ:=oZ (oZ (oZ (oZ l)))
def gd{f:Func}{zV:aPN->Bool}
 {ua:AV->k9->Option R}
 (a:∀f args J r H',cl f args (k9.heap J)=some (r,H')->ER P f args J (fun o Kl=>o=.ret r/\Kl=H')) (d:∀f args r,cd f args=some r->N6 P f args (fun v=>v=r))
 (y:∀l args J r H',cy l args (k9.heap J)=some (r,H')->RY P l args J (fun o Kl=>o=.ret r/\Kl=H'):=by exact uh) (e:∀f args J e,ce f args (k9.heap J)=some e->L9 P f args J e:=by exact ui)
 (p:∀f args J o H',cp f args (k9.heap J)=some (o,H')->ER P f args J (fun o' Kl=>o'=o/\Kl=H'):=by exact uG)
 (c:∀f args J,(∀e,co f args (k9.heap J)=some (.ret e)->L9 P f args J e)/\∀x H',co f args J.heap=some (.pan x H')->apn P f args J.heap x H':=by exact uw):
 KX (qj P f n out cl cd (tK nl) (aPo cu) zV cp ua AI co AK ce js cy):=⟨a,d,qW _,rX _,y,e,p,c⟩
section
variable {O2 W2:Type}
abbrev SG(P:aPO)(g:aPN)(aPp:AL γ)(os:OL O)(b:O)(a:γ)(yn:OL O1)(s:AL W)(r:O1×W):Prop:=
 FnG P g (aPp.enc (os.nS b) a) (os.enc (os.nS b) b) (fun o H'=>o=.ret (vJ (s.enc (yn.nS r.1) r.2))/\H'=yn.enc (yn.nS r.1) r.1)
abbrev SP(P:aPO)(g:aPN)(aPp:AL γ)(os:OL O)(b:O)(a:γ)(pk:Bool)(yn:OL O1)(s1:AL W1)(Gg:OL O2)(s2:AL W2)(r:PR (O1×W1) (O2×W2)):Prop:=
 FnP P g (aPp.enc (os.nS b) a) (os.enc (os.nS b) b) (enP pk yn s1 Gg s2 r)
@[reducible] def atP(aPp:AL γ)(os:OL O)(b:O)(a:γ)(k:Nat):k9:=ini (aPp.enc (os.nS b) a) k (os.enc (os.nS b) b)
def nbA{aPp:AL γ}{os:OL O}{b:O}{a:γ}(h:decide (aPp.nR<=os.size)=true):yg (os.enc (os.nS b) b).length (aPp.enc (os.nS b) a):=
 uT (Nat.le_trans (kT h) (Nat.le_of_eq (os.sz _ _).symm)) _ (aPp.nb _ _)
def nbO{os:OL O}{b:O}(h:decide (os.nR<=os.size)=true):∀x∈os.enc (os.nS b) b,uJ (os.enc (os.nS b) b).length x:=
 fun x hx=>DD (Nat.le_trans (kT h) (Nat.le_of_eq (os.sz _ _).symm)) _ (os.nb _ _ x hx)
variable {fn:Func} {m:Nat} {vc:List Nat->k9->Option k9} {cut:List Nat->k9->Option k9} {zV:aPN->Bool}
 {AI:aPN->Bool} {co:aPN->List AV->List lw->Option CO} {AK:aPN->Bool} {ce:aPN->List AV->List lw->Option yO} {js:List Nat->List (Int×Code)} {cy:Nat->List AV->List lw->Option (AV×List lw)} {k:Nat} {g:aPN} {rs:List ResultVar} {p1 p2:List YA} {b1 b2:List Nat} {low:Nat}
 {R:Type} {t:Ty R} {args:List AV} {aPp:AL γ} {os:OL O} {b:O} {a:γ} {os0:OL O1} {s:AL W} {yn:OL O1} {EU:AL W1} {Gg:OL O2} {Ob:AL W2}
def okC{r:R}(h:run (qj P fn m (pR P rs t) cl cd vc cut zV cp (fun _ _=>none) AI co AK ce js cy) [.at []] (ini args k)=some r)(G:KX (qj P fn m (pR P rs t) cl cd vc cut zV cp (fun _ _=>none) AI co AK ce js cy))(hf:P.funcs[g]? =some fn)(LY:yg 0 args)(hn:fn.ntmps=k)(Po:fn.results=rs.toArray)(hb:fn.body=some (fn.body.getD .skip):=by exact rfl)(uP:(fn.name != "runtime.NumGoroutine")=true:=by exact rfl):N6 P g args (fun v=>v=t.enc r):=
 akR G hf hb uP LY hn Po (fun J hs=>aic hs) h
def okG{r:O1×W}(h:run (qj P fn m (yK P rs p1 b1 low os0 s) cl cd vc cut zV cp (fun _ _=>none) AI co AK ce js cy) [.at []] (atP aPp os b a k)=some r)(G:KX (qj P fn m (yK P rs p1 b1 low os0 s) cl cd vc cut zV cp (fun _ _=>none) AI co AK ce js cy))(hf:P.funcs[g]? =some fn)(hn:fn.ntmps=k)(Po:fn.results=rs.toArray)(h1:decide (aPp.nR<=os.size)=true:=by kernel_rfl)(h2:decide (os.nR<=os.size)=true:=by kernel_rfl)(hb1:b1=fk low:=by exact rfl)(hb:fn.body=some (fn.body.getD .skip):=by exact rfl)(uP:(fn.name != "runtime.NumGoroutine")=true:=by exact rfl):SG P g aPp os b a os0 s r:=
 zy G hf hb uP (nbA h1) (nbO h2) hn Po (fun J hs=>Zf hb1 hs) h
def okP{r:PR (O1×W1) (O2×W2)}(h:run (qj P fn m (tO P rs p1 b1 low yn EU) cl cd vc cut zV cp (tP p2 b2 low Gg Ob) AI co AK ce js cy) [.at []] (atP aPp os b a k)=some r)(G:KX (qj P fn m (tO P rs p1 b1 low yn EU) cl cd vc cut zV cp (tP p2 b2 low Gg Ob) AI co AK ce js cy))(hf:P.funcs[g]? =some fn)(hn:fn.ntmps=k)(Po:fn.results=rs.toArray)(h1:decide (aPp.nR<=os.size)=true:=by kernel_rfl)(h2:decide (os.nR<=os.size)=true:=by kernel_rfl)(DI: ∀b a,∃y,Ob.enc (Gg.nS b) a=[y]:=by exact fun b a=>⟨_,rfl⟩)(hb1:b1=fk low:=by exact rfl)(hb2:b2=fk low:=by exact rfl)(hb:fn.body=some (fn.body.getD .skip):=by exact rfl)(uP:(fn.name != "runtime.NumGoroutine")=true:=by exact rfl):SP P g aPp os b a true yn EU Gg Ob r:=
 aHe G hf hb uP (nbA h1) (nbO h2) hn Po hb1 hb2 DI rfl rfl h
def okS{r:PR (O1×W1) (O2×W2)}(h:run (qj P fn m (ak4 P rs p1 b1 low yn EU p2 Gg Ob) cl cd vc cut zV cp (fun _ _=>none) AI co AK ce js cy) [.at []] (atP aPp os b a k)=some r)(G:KX (qj P fn m (ak4 P rs p1 b1 low yn EU p2 Gg Ob) cl cd vc cut zV cp (fun _ _=>none) AI co AK ce js cy))(hf:P.funcs[g]? =some fn)(hn:fn.ntmps=k)(Po:fn.results=rs.toArray)(h1:decide (aPp.nR<=os.size)=true:=by kernel_rfl)(h2:decide (os.nR<=os.size)=true:=by kernel_rfl)(hb1:b1=fk low:=by exact rfl)(hb:fn.body=some (fn.body.getD .skip):=by exact rfl)(uP:(fn.name != "runtime.NumGoroutine")=true:=by exact rfl):SP P g aPp os b a false yn EU Gg Ob r:=
 aHf G hf hb uP (nbA h1) (nbO h2) hn Po hb1 rfl h
end
attribute [go_sem] aL9 atP ini pM pg Io py oZ Ip
section
variable {δ':Type}
def aMa(wT:Bool)(row:Row W)(s:AL δ)(rs:AL δ')(F:(List W×Unit)->δ->Option ((List W×Unit)×δ')):List AV->List lw->Option CO:=fun args H=>match args with
 | .nW l n::cs=>match H[l]? with
   |some x=>(daT wT row x).bind fun rows=>qq (n=rows.length) (qq (x=.nW wT row.sz (mp row.enc rows)) ((s.oP [] ((vV (ogA wT row) Ex).nS (rows,())) H cs).bind fun a=>qq (cs=s.enc ((vV (ogA wT row) Ex).nS (rows,())) a) ((F (rows,()) a).bind fun r=>
     qq (r.1=(rows,())) (some (.ret {val:=vJ (rs.enc ((vV (ogA wT row) Ex).nS (rows,())) r.2),rd:=[l]})))))
   |none=>none
 |_=>none
def aHk{wT:Bool}{row:Row W}{s:AL δ}{rs:AL δ'}{F:(List W×Unit)->δ->Option ((List W×Unit)×δ')}:aMa wT row s rs F (.nW l n::cs) H=match H[l]? with
 |some x=>(daT wT row x).bind fun rows=>qq (n=rows.length) (qq (x=.nW wT row.sz (mp row.enc rows)) ((s.oP [] ((vV (ogA wT row) Ex).nS (rows,())) H cs).bind fun a=>qq (cs=s.enc ((vV (ogA wT row) Ex).nS (rows,())) a) ((F (rows,()) a).bind fun r=>
   qq (r.1=(rows,())) (some (.ret {val:=vJ (rs.enc ((vV (ogA wT row) Ex).nS (rows,())) r.2),rd:=[l]})))))
 |none=>none:=rfl
def aHl{wT:Bool}{row:Row W}{s:AL δ}{rs:AL δ'}{F:(List W×Unit)->δ->Option ((List W×Unit)×δ')}{t:Nat}{rows:List (List AV)}:aMa wT row s rs F (.mj b t rows::cs) H=none:=rfl
end
def awC{k:List Kt}{rest:List aPM}{c:Prop}{x:Option (AV×List lw)}:Q6 M lR dst rest k J (qq c x)=qq c (Q6 M lR dst rest k J x):=by
 grind [qq,apB]
attribute [go_sem] awC aHk aHl
def aBY(P:aPO)(u:FrameMode)(f:aPN):aPP->aPQ->Array aPP->(Ending->aPQ->Prop)->Prop:=fun _ w vs R=>
 CallsDIn Fence.wide 0 P f vs u w fun e u' w'=>∃r,e=.returned r/\u'=u/\R (.returned r) w'
def asp:agA (aBY P u f):=⟨fun _ _ _ _ _ hr h=>BG h fun _ _ _ ⟨r,h1,h2,h3⟩=>⟨r,h1,h2,hr _ _ h3⟩⟩
def aHm{fn:Func}{c:Code}{V:yJ->List lw->Prop}(hf:P.funcs[f]? =some fn)(hb:fn.body=some c)
 (LY:yg H.length args) (Mw:∀x∈H,uJ H.length x) (hn:fn.ntmps=n) (Po:fn.results=rs.toArray)
 (h:awp P c (awo P rs V) {lE:=args++fm (n-args.length) .any,heap:=H,low:=H.length}):FnT P (aBY P u f) args H V:=by
 refine⟨LY,Mw,fun C U w hP h0 hN0 hφ0 hM HS vs hr=>?_⟩;subst hP;have hsz:vs.size=args.length:=by have:=hr.length;simpa using this
 have S:pW C U {lE:=args++fm (n-args.length) .any,heap:=H,low:=H.length} {tmps:=vs++Array.replicate (fn.ntmps-vs.size) undef,defers:=[]} w:=by
  refine {HS with lE:=?_,defers:=vW.nil};simp only[Array.toList_append,Array.toList_replicate];refine hr.append ?_;rw[hsz,hn];have:=l9.JR (E:=C.env U H w) (fm (n-args.length) undef);simpa using this
 have MN:∀{U':Nat->aPP}{J':k9}{a'':Act}{w'':aPQ},pW C U' J' a'' w''->J'.low=H.length:=fun S'=>by rw[<-S'.low.1];exact hN0
 refine Zh hf hb trivial ?_;intro c₀ cs hu;refine wpSIn_of_wpIn rfl (wpIn_mono (Ch (ro:=none) c _ U _ _ w (.inl rfl) h S) ?_);intro e a' w' hq
 have CF:∀U' J',pW C U' J' a' w'->J'.df=[]/\amm C.P rs V none J'->Xl C fn c₀ cs (fun e u2 w'=>∃r,e=.returned r/\u2=u/\∃o U' H',V o H'/\pW C U' {lE:=[],heap:=H',low:=H.length} {tmps:= #[],defers:=[]} w'/\o.rep (C.env U' H' w') (.returned r)) .normal a' (c₀::cs) w':=by
  rintro U' J' S' ⟨hdf,xr,hx,r,H',hex,hV'⟩;refine⟨u,by rw[<-hu],U',J',S',hdf,fun w'' S''=>?_⟩;obtain⟨vv,hv,rv⟩:=SY (fn:=fn) S'' (by rw[Po];exact hx);obtain⟨U3,S3,hr3⟩:=hex C U' _ w'' S'' vv rv;rw[MN S'']at S3;exact⟨vv,hv,vv,rfl,rfl,.ret r,U3,H',hV',S3,hr3⟩
 cases e with
 |normal=>obtain⟨U',J',S',hq⟩:=hq;exact CF U' J' S' hq
 |ret=>obtain⟨U',J',S',hq⟩:=hq;exact CF U' J' S' hq
 |exit id=>obtain⟨_,_,_,hq⟩:=hq;exact hq.elim
 |goto l=>obtain⟨_,_,_,hq⟩:=hq;exact hq.elim
 |panic chain=>obtain⟨_,_,_,_,_,hq,_⟩:=hq;exact hq.elim
 |outgrown=>exact hq.elim
section

def awD{M:mg (O1×W1)}{fn:Func}{r:O1×W1}{yn:OL O1}{EU:AL W1}(G:KX M)
 (hf:M.P.funcs[f]? =some fn) (hb:fn.body=some M.body) (LY:yg H.length args) (Mw:∀x∈H,uJ H.length x) (hn:fn.ntmps=n) (Po:fn.results=rs.toArray) (hb1:b1=fk low) (ho:M.out=yK M.P rs p1 b1 low yn EU)
 (h:run M [.at []] {lE:=args++fm (n-args.length) .any,heap:=H,low:=H.length}=some r) (hP:∀x J',M.ua x J'=none:=by intros;rfl):
 FnT M.P (aBY M.P u f) args H (fun o H'=>o=(enR yn EU r).1/\H'=(enR yn EU r).2):=by
 refine aHm hf hb LY Mw hn Po (ads G h (fun J hs=>?_) (fun x J hs=>by rw[hP x J]at hs;cases hs));rw[ho]at hs;obtain⟨hd,xs,hx,Mv⟩:=Zf hb1 hs;have:=S8 (P:=M.P) hx Mv;exact⟨⟨hd,this⟩,hd,this⟩
end
def spl{γ:Type}:List AV->(List AV->AV->Option γ)->Option γ
 |[],_=>none
 |[x],k=>k [] x
 |a::b::l,k=>spl (b::l) fun l x=>k (a::l) x
def aHn:spl [x] k=k [] x:=rfl
def aEo{a b:AV}{l:List AV}:spl (a::b::l) k=spl (b::l) fun l x=>k (a::l) x:=rfl
def awE{γ:Type}:∀{l:List AV}{k:List AV->AV->Option γ}{r:γ},spl l k=some r->∃aPp x,l=aPp++[x]/\k aPp x=some r
 |[x],k,r,h=>⟨[],x,rfl,h⟩
 |a::b::l,k,r,h=>by
  obtain⟨aPp,x,h1,h2⟩:=awE (l:=b::l) h
  grind
def aHo(c:YB):YB:=fun f args H=>spl args fun aPp x=>(c f aPp H).bind fun q=>some (.panic x,q.2)
def aEp(P:aPO)(c:YB):Prop:=∀u,QOK P (aBY P u) c
def aEq{c:YB}(h:aEp P c):QOK P (aq5 P) c:=by
 intro f args J o H' he;obtain⟨h1,h2⟩:=h .returning f args J o H' he;refine⟨h1,fun C U a w hP S vs hr=>?_⟩;refine BG (h2 C U a w hP S vs hr) ?_;rintro e u' w' ⟨r,rfl,rfl,h3⟩;exact⟨r,rfl,rfl,h3⟩
def aEr{c:YB}(h:aEp P c):QOK P (aq6 P) (aHo c):=by
 intro f args J o H' he;obtain⟨aPp,x,rfl,hk⟩:=awE he;simp only[fg,fi,Prod.mk.injEq]at hk;obtain⟨q,hq,rfl,rfl⟩:=hk;refine⟨(h .returning f aPp J q.1 q.2 hq).1,fun C U a w hP S vs hr vs0 v hvs=>?_⟩;subst hvs
 have hr':l9 (C.env U J.heap w) aPp vs0.toList/\rD (C.env U J.heap w) x v:=by
  rw[Array.toList_push]at hr
  have hl:vs0.toList.length=aPp.length:=by
   have:=hr.length;simp at this;simpa using this
  have h1:=hr.take aPp.length;have h2:=hr.drop aPp.length;rw[List.take_left' rfl,List.take_left' hl]at h1;rw[List.drop_left' rfl,List.drop_left' hl]at h2;obtain⟨u,us,he,r1,_⟩:=h2
  grind
 have hc:=(h (.panicking [{v,recovered:=false}]) f aPp {J with lE:=J.lE++[x]} q.1 q.2 hq).2;cases a with
 |mk tmps ds=>
 refine BG (hc C U _ w hP (S.atp hr'.2) vs0 hr'.1) ?_;rintro e u' w' ⟨r,rfl,rfl,o,U',H',⟨rfl,rfl⟩,S2,wm⟩;have S3:pW C U' {({J with heap:=q.2}:k9)with lE:=({J with heap:=q.2}:k9).lE++[x]} {tmps:=tmps.push v,defers:=ds} w':=S2;obtain⟨S4,h4⟩:=S3.aya S.len;exact⟨r,rfl,.inr ⟨v,rfl,.panic x,U',q.2,⟨rfl,rfl⟩,S4,v,rfl,h4⟩⟩
section ends
variable {W2 O2:Type}
def enX(f:k9->Option R)(g:AV->k9->Option R):Option AV->k9->Option R
 |none,J=>f J
 |some x,J=>g x J
def aMb{f:k9->Option R}{g:AV->k9->Option R}:enX f g none J=f J/\∀x,enX f g (some x) J=g x J:=⟨rfl,fun _=>rfl⟩
def apY(c:YB)(f:k9->Option R)(g:AV->k9->Option R)(J:k9):Option R:=afu c (aHo c) (enX f g) J.df none J
def apZ(c:YB)(f:k9->Option R)(g:AV->k9->Option R)(x:AV)(J:k9):Option R:=afu c (aHo c) (enX f g) J.df (some x) J
def aJZ{c:YB}:aHo c f args H=spl args fun aPp x=>(c f aPp H).bind fun q=>some (.panic x,q.2):=rfl
attribute [go_sem] aMb apY apZ aJZ aHn aEo
variable {fn:Func} {m:Nat} {vc:List Nat->k9->Option k9} {cut:List Nat->k9->Option k9} {zV:aPN->Bool}
 {AI:aPN->Bool} {co:aPN->List AV->List lw->Option CO} {AK:aPN->Bool} {ce:aPN->List AV->List lw->Option yO} {js:List Nat->List (Int×Code)} {cy:Nat->List AV->List lw->Option (AV×List lw)} {k:Nat} {g:aPN} {rs:List ResultVar} {p1 p2:List YA} {b1 b2:List Nat} {low:Nat}
 {aPp:AL γ} {os:OL O} {b:O} {a:γ} {os0:OL O1} {s:AL W} {yn:OL O1} {EU:AL W1} {Gg:OL O2} {Ob:AL W2} {c:YB}
def aNR{r:PR (O1×W1) (O2×W2)}(hc:aEp P c)(h:run (qj P fn m (apY c (tO P rs p1 b1 low yn EU) (tP p2 b2 low Gg Ob)) cl cd vc cut zV cp (apZ c (tO P rs p1 b1 low yn EU) (tP p2 b2 low Gg Ob)) AI co AK ce js cy) [.at []] (atP aPp os b a k)=some r)
 (G:KX (qj P fn m (apY c (tO P rs p1 b1 low yn EU) (tP p2 b2 low Gg Ob)) cl cd vc cut zV cp (apZ c (tO P rs p1 b1 low yn EU) (tP p2 b2 low Gg Ob)) AI co AK ce js cy)) (hf:P.funcs[g]? =some fn) (hn:fn.ntmps=k) (Po:fn.results=rs.toArray)
 (h1:decide (aPp.nR<=os.size)=true:=by kernel_rfl) (h2:decide (os.nR<=os.size)=true:=by kernel_rfl) (DI: ∀b a,∃y,Ob.enc (Gg.nS b) a=[y]:=by exact fun b a=>⟨_,rfl⟩) (hb1:b1=fk low:=by exact rfl) (hb2:b2=fk low:=by exact rfl) (hb:fn.body=some (fn.body.getD .skip):=by exact rfl) (uP:(fn.name != "runtime.NumGoroutine")=true:=by exact rfl):SP P g aPp os b a true yn EU Gg Ob r:=by
 have he:∀m' J,J.df=[]->enX (tO P rs p1 b1 low yn EU) (tP (O1:=O1) (W1:=W1) p2 b2 low Gg Ob) m' J=some r->amm P rs (fun o H'=>o=(enP true yn EU Gg Ob r).1/\H'=(enP true yn EU Gg Ob r).2) m' J:=by
  intro m' J _ hs;cases m' with
  |none=>
   simp only[enX,tO,fj]at hs;obtain⟨q,hq,rfl⟩:=hs;obtain⟨hd,xs,hx,Mv⟩:=Zf hb1 hq;exact S8 hx Mv
  |some x=>
   simp only[enX,tP,fj]at hs;obtain⟨q,hq,rfl⟩:=hs;obtain⟨hd,Mv⟩:=ak1 hb2 hq;obtain⟨y,hy⟩:=DI q.1 q.2;rw[hy]at Mv;have:=avW (P:=P) (rs:=rs) Mv.e
   grind [enP,prc,asn,pkO]
 exact akW G hf hb uP (nbA h1) (nbO h2) hn Po (fun J hs=>adD (aEq hc) (aEr hc) he J.df none J rfl hs) (fun x J hs=>adD (aEq hc) (aEr hc) he J.df (some x) J rfl hs) h
abbrev SD(P:aPO)(g:aPN)(aPp:AL γ)(os:OL O)(b:O)(a:γ)(yn:OL O1)(s:AL W1)(r:O1×W1):Prop:=
 ∀u,FnT P (aBY P u g) (aPp.enc (os.nS b) a) (os.enc (os.nS b) b) (fun o H'=>o=(enR yn s r).1/\H'=(enR yn s r).2)
def okD{r:O1×W}(h:run (qj P fn m (yK P rs p1 b1 low os0 s) cl cd vc cut zV cp (fun _ _=>none) AI co AK ce js cy) [.at []] (atP aPp os b a k)=some r)(G:KX (qj P fn m (yK P rs p1 b1 low os0 s) cl cd vc cut zV cp (fun _ _=>none) AI co AK ce js cy))(hf:P.funcs[g]? =some fn)(hn:fn.ntmps=k)(Po:fn.results=rs.toArray)(h1:decide (aPp.nR<=os.size)=true:=by kernel_rfl)(h2:decide (os.nR<=os.size)=true:=by kernel_rfl)(hb1:b1=fk low:=by exact rfl)(hb:fn.body=some (fn.body.getD .skip):=by exact rfl):SD P g aPp os b a os0 s r:=
 fun u=>awD G hf hb (nbA h1) (nbO h2) hn Po hb1 rfl h
def awF{e:anZ}(h:∀u,∀args (J:k9) o H',e args J.heap=some (o,H')->Bs P g=true/\Zb P (aBY P u g) 0 args J (fun o' Kl=>o'=o/\Kl=H')):aEp P (Xm [(g,e)]):=fun u=>Pq (h u) Ua
end ends
def dNI:AV->Option Unit
 |.uS .nilIface=>some ()
 |_=>none
def aEs:Ty Unit where
 enc _:=.uS .nilIface
 oP _:=dNI
 ok H n v x h:=by
  unfold dNI at h;split at h
  ·exact Co.same trivial
  ·cases h
 nb n x:=trivial
def aJ0:(∀x,aEs.enc x=.uS .nilIface)/\(∀H v,aEs.oP H v=dNI v)/\dNI (.uS .nilIface)=some ():=⟨fun _=>rfl,fun _ _=>rfl,rfl⟩
attribute [go_sem] aJ0
def aEt{T:TypeId}(he:Bs P f=true)
 (h:∀(s:ByteArray)(n:Int)(w:aPQ),s.size<=18->Lib.atoi s.data.toList=some n->Calls P f #[.string s] w fun e w'=>e=.returned (.tuple #[.int .i64 n,.nilIface])/\∃t,w'=Lib.bytesWorld w T t)
 (s:lH) (n:Int) (hl:s.length<=18) (hn:Lib.atoi s=some n):N6 P f [oa.enc s] (fun v=>v=(ty2 (oe .i64) aEs).enc (n,())):=by
 refine⟨he,⟨oa.nb 0 _,trivial⟩,fun C U w hP hw hN0 hM vs hr=>?_⟩
 obtain rfl:vs= #[.string (sb s)]:=by
  obtain⟨v0,us,hvs,r0,ajJ⟩:=hr;have hus:us=[]:=ajJ;have e0:v0=.string (sb s):=r0;subst hus e0;cases vs;simp_all
 refine(h (sb s) n w (by rw[SH];exact hl) (by rw[adB];exact hn)).mono ?_;rintro e w' ⟨rfl,t,rfl⟩;have hb:=Lib.bytesWorld_below w T t;exact⟨_,_,U,rfl,rfl,⟨_,rfl,_,_,rfl,rfl,_,_,rfl,rfl,rfl⟩,hb.size,hb.block,fun x hx=>hb.frozen hx,hb.output,hb.os⟩
section
variable {C:tC} {U:Nat->aPP} {a:Act} {w:aPQ}
def pW.calm(S:pW C U J a w):tC:=
 {P:=C.P,w0:=w,M0:=fun _ _=>False,A:=fun _ _=>False,hA:=fun _ _ h=>h.elim,hk:=⟨fun b o h=>let ⟨v,h1,h2,_⟩:=S.know.cell b o h;⟨v,h1,h2,fun f=>f⟩,fun b h=>⟨fun _ f=>f,(S.know.row b h).2⟩⟩}
def pW.aAs(S:pW C U J a w):(C.env U J.heap w).Le 0 (S.calm.env U [] w):=by
 refine⟨Nat.zero_le _,fun l hl=>absurd hl (Nat.not_lt_zero _),fun b o u hm hc=>⟨?_,hc⟩,GD _⟩;simp only[tC.env,pW.calm];rintro(⟨l,x,hx,_⟩|h)
 ·simp at hx
 ·exact h
def aAt:Option lw->Option AV
 |some (.cells cs)=>some (.pp cs)
 |_=>none
def MR(H:List lw):AV->Option AV
 |.ptr l o=>bif o==0 then aAt H[l]? else none
 |x=>some x
def aHp:(∀l,MR H (.ptr l 0)=aAt H[l]?)/\(∀k n,MR H (.int k n)=some (.int k n))/\(∀b,MR H (.bool b)=some (.bool b))/\(∀s,MR H (.str s)=some (.str s))/\(∀t z r,MR H (.mj t z r)=some (.mj t z r))/\(∀c,MR H (.agg c)=some (.agg c))/\(∀c,MR H (.pp c)=some (.pp c))/\(∀c,MR H (.uS c)=some (.uS c))/\∀f x y,MR H (.func f x y)=some (.func f x y):=
 ⟨fun _=>rfl,fun _ _=>rfl,fun _=>rfl,fun _=>rfl,fun _ _ _=>rfl,fun _=>rfl,fun _=>rfl,fun _=>rfl,fun _ _ _=>rfl⟩
def aHq:aAt (some (.cells cs))=some (.pp cs):=rfl
def awG(S:pW C U J a w){y:AV}(h:MR J.heap x=some y)(hn:y.nb 0)(r:rD (C.env U J.heap w) x v):rD (S.calm.env U [] w) y v:=by
 cases x with
 |ptr l o=>
  simp only[MR]at h;cases ho:o==0 with
  |false=>rw[ho]at h;cases h
  |true=>
   rw[ho,kP]at h;have ho:=beq_iff_eq.1 ho;subst ho;cases hl:J.heap[l]? with
   |none=>rw[hl]at h;cases h
   |some z=>
    rw[hl]at h;cases z with
    |cells cs=>
     cases h;obtain⟨_,b,hb,rfl⟩:=r;obtain⟨b',c,t,uD,hc,rl,h1⟩:=S.qJ l _ hl;have hb:U l=_:=hb;rw[hb]at uD;simp only[Value.pointer.injEq,fi,Addr.mk.injEq,and_true]at uD;subst uD
     have e:(c.toList.drop 0).take cs.length=c.toList:=by
      rw[List.drop_zero,List.take_of_length_le];have:=rl.length;omega
     refine⟨b,0,rfl,Nw (E:=S.calm.env U [] w) (c:=c) (t:=t) (fr:=(0,0)) hc cs 0 (fun o _ _=>?_) ?_ ?_⟩
     ·simp only[tC.env,pW.calm];rintro(⟨l,x,hx,_⟩|h)
      all_goals grind
     ·rw[e];exact l9.mono S.aAs _ _ hn rl
     ·rw[e];exact h1
    |_=>cases h
 |_=>cases h;exact rD.mono S.aAs _ _ hn r
def anr(S:pW C U J a w):∀{xs ys:List AV}{vs:List aPP},tU (MR J.heap) xs=some ys->yg 0 ys->l9 (C.env U J.heap w) xs vs->l9 (S.calm.env U [] w) ys vs
 |[],ys,vs,h,_,r=>by simp only[tU,fi]at h;subst h;exact r
 |x::xs,ys,vs,h,hn,⟨u,us,hv,r1,r2⟩=>by
  simp only[tU,fg,fi]at h;obtain⟨y,hy,zs,hz,rfl⟩:=h;exact⟨u,us,hv,awG S hy hn.1 r1,anr S hz hn.2 r2⟩
def sc1:AV->AV
 |.int k n=>.int k n
 |.bool b=>.bool b
 |.str s=>.str s
 |_=>.any
def sc2:AV->AV
 |.agg cs=>.agg (cs.map sc1)
 |x=>sc1 x
def aBZ:AV->AV
 |.Mt cs=>.Mt (cs.map sc2)
 |x=>sc2 x
section
variable {E E':HI}
def aAu(h:rD E x v):rD E' (sc1 x) v:=by
 cases x with
 |int=>exact h
 |bool=>exact h
 |str=>exact h
 |_=>exact trivial
def awH:∀{xs:List AV}{vs:List aPP},l9 E xs vs->l9 E' (xs.map sc1) vs
 |[],_,h=>h
 |_::_,_,⟨u,us,hv,r1,r2⟩=>⟨u,us,hv,aAu r1,awH r2⟩
def aAv(h:rD E x v):rD E' (sc2 x) v:=by
 cases x with
 |agg cs=>obtain⟨vs,hv,hr⟩:=h;exact⟨vs,hv,awH hr⟩
 |_=>exact aAu h
def awI:∀{xs:List AV}{vs:List aPP},l9 E xs vs->l9 E' (xs.map sc2) vs
 |[],_,h=>h
 |_::_,_,⟨u,us,hv,r1,r2⟩=>⟨u,us,hv,aAv r1,awI r2⟩
def aEu(h:rD E x v):rD E' (aBZ x) v:=by
 cases x with
 |Mt cs=>obtain⟨vs,hv,hr⟩:=h;exact⟨vs,hv,awI hr⟩
 |_=>exact aAv h
end
def HJ(e:atz):Ent:=fun args H=>(tU (MR H) args).bind fun aPp=>(e aPp).bind fun r=>some (aBZ r,H)
def s9{e:atz}(h:aab P f e):Zd P f (HJ e):=by
 intro args J r H' he;unfold HJ at he;simp only[fg,fi,Prod.mk.injEq]at he;obtain⟨aPp,hv,q,hq,rfl,rfl⟩:=he;obtain⟨hen,LY,hc⟩:=h aPp q hq;refine⟨hen,fun C U a w hP S vs hr=>?_⟩;refine(hc S.calm U w hP rfl rfl (fun _ _ h=>h) vs (anr S hv LY hr)).mono ?_;rintro e' w' ⟨r,v,U',rfl,rfl,rep,hs,hh,hf,ho⟩;exact⟨.ret (aBZ r),U,J.heap,⟨rfl,rfl⟩,S.azY hs hh hf ho,aEu rep⟩
def ak9:AV->List Nat
 |.ptr l _=>[l]
 |_=>[]
def Xn:List AV->List Nat
 |[]=>[]
 |x::xs=>ak9 x++Xn xs
def aJ1:(∀l o,ak9 (.ptr l o)=[l])/\(∀k n,ak9 (.int k n)=[])/\(∀b,ak9 (.bool b)=[])/\(∀s,ak9 (.str s)=[])/\(∀t z r,ak9 (.mj t z r)=[])/\(∀c,ak9 (.agg c)=[])/\(∀c,ak9 (.pp c)=[])/\(∀c,ak9 (.uS c)=[])/\(∀f x y,ak9 (.func f x y)=[])/\Xn []=[]/\∀x xs,Xn (x::xs)=ak9 x++Xn xs:=
 ⟨fun _ _=>rfl,fun _ _=>rfl,fun _=>rfl,fun _=>rfl,fun _ _ _=>rfl,fun _=>rfl,fun _=>rfl,fun _=>rfl,fun _ _ _=>rfl,rfl,fun _ _=>rfl⟩
def aAw{H:List lw}: ∀{xs ys:List AV},tU (MR H) xs=some ys-> ∀l∈Xn xs,l<H.length
 |[],_,_,l,hl=>by simp [Xn]at hl
 |x::xs,ys,h,l,hl=>by
  simp only[tU,fg,fi]at h;obtain⟨y,hy,zs,hz,rfl⟩:=h;simp only[Xn,List.mem_append]at hl;rcases hl with hl|hl
  ·cases x with
   |ptr k o=>
    grind [ak9,MR,aAt]
   |_=>simp [ak9]at hl
  ·exact aAw hz l hl
theorem ap0{H H':List lw}:∀{xs:List AV},(∀l∈Xn xs,H'[l]? =H[l]?)->tU (MR H') xs=tU (MR H) xs
 |[],_=>rfl
 |x::xs,h=>by
  have h1:MR H' x=MR H x:=by
   cases x with
   |ptr l o=>grind [MR,Xn,ak9]
   |_=>rfl
  simp only[tU,h1];rw[ap0 fun l hl=>h l (by simp [Xn,hl])]
def aeV(e:atz):List AV->List lw->Option CO:=fun args H=>(tU (MR H) args).bind fun aPp=>(e aPp).bind fun r=>some (.ret {val:=aBZ r,rd:=Xn args})
def Ub{e:atz}(h:aab P f e):atM P f (aeV e):=by
 intro args J;refine⟨fun ef he=>?_,fun x H' he=>?_⟩
 ·simp only[aeV,fg,fi,CO.ret.injEq]at he;obtain⟨aPp,hv,r,hr,rfl⟩:=he;refine⟨⟨aAw hv,by simp⟩,fun J' h1 _ _=>?_⟩
  have:=s9 h args J' (aBZ r) J'.heap (by
   grind [HJ,ap0])
  grind [pI]
 grind [aeV,fg]
end
attribute [go_sem] HJ aeV aHq aHp aJ1 aBZ sc2 sc1
section aDB
variable {C:tC} {U:Nat->aPP} {a:Act} {w:aPQ}
def azt {off s sz:Nat}(hl:J.heap[l]? =some (.cells cs))(hc:cs[off]? =some (.mj true s [])):
 N4 J {lE:=J.lE,heap:=J.heap.set l (.cells (cs.set off (.nW J.heap.length 0)))++[.nW false sz []],low:=J.low,df:=J.df}:=by
 intro C U a w S;have q9:l<J.heap.length:=(fo.1 hl).1;obtain⟨b,c,t,hφ,hh,rl,h1⟩:=S.qJ l _ hl;obtain⟨v,hv,base,cap,rfl,_,GI,_⟩:=rl.get hc;have GI:cap=0:=GI rfl;subst GI
 have S':=S.adl (wT:=false) (sz:=sz) (rows:=[]) (w':=w) (h':=.slice base 0 0) (Nat.le_refl _) (fun _ _=>rfl) (fun _=>rfl) ⟨rfl,rfl⟩ (by
  intro b hb;cases base<;>simp [lw.block]at hb) (fun E' _ _=>⟨base,0,rfl,Nat.le_refl _,fun _=>rfl,by simp,fun b _ h0=>absurd rfl h0⟩)
 refine⟨(fun k=>if k=J.heap.length then .slice base 0 0 else U k),?_⟩;have hl':(J.heap++[lw.nW false sz []])[l]? =some (.cells cs):=by grind
 have S2:=S'.aDC (l:=l) (cs:=cs) (ds:=cs.set off (.nW J.heap.length 0)) hl' (by
  intro b2 c2 t2 h3 h4 r
  have e1:b2=b:=by
   grind
  subst e1;rw[show w.heap[b2]? =some (.cells c t (0,0))from hh]at h4;simp only[fi,Obj.cells.injEq]at h4;obtain⟨rfl,_⟩:=h4
  have ax0:=l9.set (i:=off) (c:=.nW J.heap.length 0) (v:=.slice base 0 0) r ⟨by simp [tC.env],⟨_,_,_,rfl⟩,fun k hk=>by
   grind [tC.env]⟩
  grind [fx])
 grind
def atQ(l off sz:Nat)(b:Bool)(J:k9):k9:=
 match J.heap[l]? with
 |some (.cells cs)=>match cs[off]? with
  |some (.mj true _ [])=>{lE:=J.lE,heap:=J.heap.set l (.cells (cs.set off (.nW J.heap.length 0)))++[.nW b sz []],low:=J.low,df:=J.df}
  |_=>J
 |_=>J
def aB0 {off sz:Nat}:N4 J (atQ l off sz b J):=by
 unfold atQ;split
 ·rename_i cs hl;split
  ·rename_i s hc;cases b with
   |false=>exact azt hl hc
   |true=>exact ase hl hc
  ·exact N4.refl J
 ·exact N4.refl J
end aDB
def aEv:List (List Nat×Nat×Nat×Nat×Bool)->List Nat->k9->k9
 |[],_,J=>J
 |(q,l,o,z,b)::t,p,J=>if p=q then atQ l o z b J else aEv t p J
def aAx:∀{t:List (List Nat×Nat×Nat×Nat×Bool)}{p:List Nat}{J:k9},N4 J (aEv t p J)
 |[],_,_=>N4.refl _
 |(q,l,o,z,b)::t,p,J=>by
  unfold aEv;split
  ·exact aB0
  ·exact aAx
def ap1(fs:List (List Nat×List Nat))(gs:List (List Nat×Nat×Nat×Nat×Bool))(p:List Nat)(J:k9):Option k9:=(aPo fs p J).map (aEv gs p)
def aEw(fs:List (List Nat×List Nat))(gs:List (List Nat×Nat×Nat×Nat×Bool)):∀p J J',ap1 fs gs p J=some J'->N4 J J':=by
 intro p J J' h;simp only[ap1,fj]at h;obtain⟨J1,h1,rfl⟩:=h;exact(rX _ _ _ _ h1).trans aAx
def gdM{f:Func}{gm:List (List Nat×Nat×Nat×Nat×Bool)}{zV:aPN->Bool}
 {ua:AV->k9->Option R}
 (a:∀f args J r H',cl f args (k9.heap J)=some (r,H')->ER P f args J (fun o Kl=>o=.ret r/\Kl=H')) (d:∀f args r,cd f args=some r->N6 P f args (fun v=>v=r))
 (y:∀l args J r H',cy l args (k9.heap J)=some (r,H')->RY P l args J (fun o Kl=>o=.ret r/\Kl=H'):=by exact uh) (e:∀f args J e,ce f args (k9.heap J)=some e->L9 P f args J e:=by exact ui)
 (p:∀f args J o H',cp f args (k9.heap J)=some (o,H')->ER P f args J (fun o' Kl=>o'=o/\Kl=H'):=by exact uG)
 (c:∀f args J,(∀e,co f args (k9.heap J)=some (.ret e)->L9 P f args J e)/\∀x H',co f args J.heap=some (.pan x H')->apn P f args J.heap x H':=by exact uw):
 KX (qj P f n out cl cd (tK nl) (ap1 cu gm) zV cp ua AI co AK ce js cy):=⟨a,d,qW _,aEw _ _,y,e,p,c⟩
attribute [go_sem] aEv ap1 atQ
section

abbrev an1(M:mg R)(p q:List Nat):Prop:=yB M p=true/\yB M q=true
abbrev aHr(M:mg R)(p q r:List Nat):Prop:=yB M p=true/\yB M q=true/\yB M r=true
abbrev aEx(M:mg R)(p q r s:List Nat):Prop:=yB M p=true/\yB M q=true/\yB M r=true/\yB M s=true
abbrev atS(M:mg R)(p:List Nat)(a b c d:Nat):Prop:=R3 M p a b=true/\R3 M p c d=true
abbrev aB1(M:mg R)(p:List Nat)(a b c d e f:Nat):Prop:=R3 M p a b=true/\R3 M p c d=true/\R3 M p e f=true
abbrev DE(M:mg R)(p:List Nat)(a b c d e f g h:Nat):Prop:=R3 M p a b=true/\R3 M p c d=true/\R3 M p e f=true/\R3 M p g h=true
end
def mB {p:O->Prop} (x:Subtype p:=by
    apply _root_.Subtype.mk
    repeat intro
    simp (config:={maxSteps:=100000000}) only[go_sem,_root_.Nat.reduceAdd,_root_.Nat.reduceSub,_root_.Nat.reduceLeDiff,_root_.Nat.reduceEqDiff,_root_.Nat.reduceBEq,_root_.Nat.reduceMul,_root_.Nat.reduceLT,_root_.Int.reduceLE,_root_.Int.reduceLT,_root_.Int.reduceToNat,_root_.Int.reduceBEq,_root_.Int.reduceEq,_root_.Option.getD_some,mixed, *];exact rfl):Subtype p:=x
def JT {p:O->Prop} (x:Subtype p:=by
    apply _root_.Subtype.mk
    repeat intro
    simp (config:={maxSteps:=100000000})-implicitDefEqProofs only[go_sem,_root_.Nat.reduceAdd,_root_.Nat.reduceSub,_root_.Nat.reduceLeDiff,_root_.Nat.reduceEqDiff,_root_.Nat.reduceBEq,_root_.Nat.reduceMul,_root_.Nat.reduceLT,_root_.Int.reduceLE,_root_.Int.reduceLT,_root_.Int.reduceToNat,_root_.Int.reduceBEq,_root_.Int.reduceEq,_root_.Option.getD_some,mixed, *];exact rfl):Subtype p:=x
section
variable {O2 W2:Type}
abbrev OKC(P:aPO)(g:aPN)(aPp:AL W)(t:Ty R)(F:Nat->W->Option R):Prop:=∀n a r,F n a=some r->N6 P g (aPp.enc (fun _=>0) a) (fun v=>v=t.enc r)
variable {g:aPN} {T0 T1 T2 T3 T4 T5:Type} {t:Ty R}
def c0{F:Nat->Unit->Option R}(h:OKC P g lX t F)(n:Nat):∀r,F n ()=some r->N6 P g [] (fun v=>v=t.enc r):=fun r=>h n () r
def c1{e0:Ty T0}{F:Nat->T0×Unit->Option R}(h:OKC P g (nu e0 lX) t F)(n:Nat):∀x r,F n (x,())=some r->N6 P g [e0.enc x] (fun v=>v=t.enc r):=fun x r=>h n (x,()) r
def c2{e0:Ty T0}{e1:Ty T1}{F:Nat->T0×T1×Unit->Option R}(h:OKC P g (nu e0 (nu e1 lX)) t F)(n:Nat):∀x y r,F n (x,y,())=some r->N6 P g [e0.enc x,e1.enc y] (fun v=>v=t.enc r):=fun x y r=>h n (x,y,()) r
def c3{e0:Ty T0}{e1:Ty T1}{e2:Ty T2}{F:Nat->T0×T1×T2×Unit->Option R}(h:OKC P g (nu e0 (nu e1 (nu e2 lX))) t F)(n:Nat):∀x y z r,F n (x,y,z,())=some r->N6 P g [e0.enc x,e1.enc y,e2.enc z] (fun v=>v=t.enc r):=fun x y z r=>h n (x,y,z,()) r
def c4{e0:Ty T0}{e1:Ty T1}{e2:Ty T2}{e3:Ty T3}{F:Nat->T0×T1×T2×T3×Unit->Option R}(h:OKC P g (nu e0 (nu e1 (nu e2 (nu e3 lX)))) t F)(n:Nat):∀x y z u r,F n (x,y,z,u,())=some r->N6 P g [e0.enc x,e1.enc y,e2.enc z,e3.enc u] (fun v=>v=t.enc r):=fun x y z u r=>h n (x,y,z,u,()) r
def c5{e0:Ty T0}{e1:Ty T1}{e2:Ty T2}{e3:Ty T3}{e4:Ty T4}{F:Nat->T0×T1×T2×T3×T4×Unit->Option R}(h:OKC P g (nu e0 (nu e1 (nu e2 (nu e3 (nu e4 lX))))) t F)(n:Nat):∀x y z u v r,F n (x,y,z,u,v,())=some r->N6 P g [e0.enc x,e1.enc y,e2.enc z,e3.enc u,e4.enc v] (fun w=>w=t.enc r):=fun x y z u v r=>h n (x,y,z,u,v,()) r
def c6{e0:Ty T0}{e1:Ty T1}{e2:Ty T2}{e3:Ty T3}{e4:Ty T4}{e5:Ty T5}{F:Nat->T0×T1×T2×T3×T4×T5×Unit->Option R}(h:OKC P g (nu e0 (nu e1 (nu e2 (nu e3 (nu e4 (nu e5 lX)))))) t F)(n:Nat):∀x y z u v w r,F n (x,y,z,u,v,w,())=some r->N6 P g [e0.enc x,e1.enc y,e2.enc z,e3.enc u,e4.enc v,e5.enc w] (fun q=>q=t.enc r):=fun x y z u v w r=>h n (x,y,z,u,v,w,()) r
end
abbrev LB(G:List Kt->W->Prop)(p:List Nat)(K:List Kt):Type:={B:W->W //∀m X,G (.lq m p::K) X->G (.at (0::p)::.lp m p::K) (B X)}
abbrev LB2(G0:List Kt->O->Prop)(p0:List Nat)(K0:List Kt)(G:List Kt->W->Prop)(p:List Nat)(K:Nat->List Kt):Type:={B:O->W->W //∀n aOR m X,G0 (.lq n p0::K0) aOR->G (.lq m p::K n) X->G (.at (0::p)::.lp m p::K n) (B aOR X)}
def EV[Fu W](b:LB G p K)(L:Nat->W)(m:Nat)(hL:L=C4 b.1:=by rfl)
 (h0:G (.lq 0 p::K) Fu.z:=by repeat intro
                             exact SZ) (hs:∀m Z,G (.at (0::p)::.lp m p::K) Z->G (.lq (m+1) p::K) Z:=by
   intro m Z h
   repeat intro
   first
    |exact KZ.trans (h ..)
    |(refine KZ.trans ?_;apply h<;>assumption)):G (.lq m p::K) (L m):=hL ▸ azs (G:=fun m Z=>G (.lq m p::K) Z) h0 (fun m X h=>hs m _ (b.2 m X h)) m
def aB2[Fu W]{G0:List Kt->O->Prop}{p0:List Nat}{K0:List Kt}{K:Nat->List Kt}(b:LB2 G0 p0 K0 G p K){aOR:O}(h:G0 (.lq n p0::K0) aOR)(L:Nat->W)(m:Nat)(hL:L=C4 (b.1 aOR):=by rfl)
 (h0:G (.lq 0 p::K n) Fu.z:=by repeat intro
                               exact SZ) (hs:∀m Z,G (.at (0::p)::.lp m p::K n) Z->G (.lq (m+1) p::K n) Z:=by
   intro m Z h
   repeat intro
   first
    |exact KZ.trans (h ..)
    |(refine KZ.trans ?_;apply h<;>assumption)):G (.lq m p::K n) (L m):=hL ▸ azs (G:=fun m Z=>G (.lq m p::K n) Z) h0 (fun m X h'=>hs m _ (b.2 n aOR m X h h')) m
section
variable {T0 T1 T2 T3 T4 T5:Type}
abbrev SC0(M:mg R)(N:Nat):Type:={B:Option R // run M [.at []] (ini [] N)=B}
abbrev aB3(P:aPO)(g:aPN)(t:Ty R)(F:Option R):Prop:=∀r,F=some r->N6 P g [] (fun v=>v=t.enc r)
abbrev SC1(M:mg R)(t0:Ty T0)(N:Nat):Type:={B:T0->Option R //∀a,run M [.at []] (ini [t0.enc a] N)=B a}
abbrev EE(P:aPO)(g:aPN)(t0:Ty T0)(t:Ty R)(F:T0->Option R):Prop:=∀a r,F a=some r->N6 P g [t0.enc a] (fun v=>v=t.enc r)
abbrev Vd(M:mg R)(t0:Ty T0)(t1:Ty T1)(N:Nat):Type:={B:T0->T1->Option R //∀a b,run M [.at []] (ini [t0.enc a,t1.enc b] N)=B a b}
abbrev AW(P:aPO)(g:aPN)(t0:Ty T0)(t1:Ty T1)(t:Ty R)(F:T0->T1->Option R):Prop:=∀a b r,F a b=some r->N6 P g [t0.enc a,t1.enc b] (fun v=>v=t.enc r)
abbrev SC3(M:mg R)(t0:Ty T0)(t1:Ty T1)(t2:Ty T2)(N:Nat):Type:={B:T0->T1->T2->Option R //∀a b c,run M [.at []] (ini [t0.enc a,t1.enc b,t2.enc c] N)=B a b c}
abbrev awJ(P:aPO)(g:aPN)(t0:Ty T0)(t1:Ty T1)(t2:Ty T2)(t:Ty R)(F:T0->T1->T2->Option R):Prop:=∀a b c r,F a b c=some r->N6 P g [t0.enc a,t1.enc b,t2.enc c] (fun v=>v=t.enc r)
abbrev SC4(M:mg R)(t0:Ty T0)(t1:Ty T1)(t2:Ty T2)(t3:Ty T3)(N:Nat):Type:={B:T0->T1->T2->T3->Option R //∀a b c d,run M [.at []] (ini [t0.enc a,t1.enc b,t2.enc c,t3.enc d] N)=B a b c d}
abbrev aEy(P:aPO)(g:aPN)(t0:Ty T0)(t1:Ty T1)(t2:Ty T2)(t3:Ty T3)(t:Ty R)(F:T0->T1->T2->T3->Option R):Prop:=∀a b c d r,F a b c d=some r->N6 P g [t0.enc a,t1.enc b,t2.enc c,t3.enc d] (fun v=>v=t.enc r)
variable {fn:Func} {m:Nat} {vc:List Nat->k9->Option k9} {cut:List Nat->k9->Option k9} {zV:aPN->Bool}
 {AI:aPN->Bool} {co:aPN->List AV->List lw->Option CO} {AK:aPN->Bool} {ce:aPN->List AV->List lw->Option yO} {js:List Nat->List (Int×Code)} {cy:Nat->List AV->List lw->Option (AV×List lw)} {k:Nat} {g:aPN} {rs:List ResultVar} {p1 p2:List YA} {b1 b2:List Nat} {low:Nat} {t:Ty R} {t0:Ty T0} {t1:Ty T1} {t2:Ty T2} {t3:Ty T3} {t4:Ty T4} {t5:Ty T5}
def aJ2(w:SC0 (qj P fn m (pR P rs t) cl cd vc cut zV cp (fun _ _=>none) AI co AK ce js cy) k)(G:KX (qj P fn m (pR P rs t) cl cd vc cut zV cp (fun _ _=>none) AI co AK ce js cy))(hf:P.funcs[g]? =some fn)(hn:fn.ntmps=k)(Po:fn.results=rs.toArray)(hb:fn.body=some (fn.body.getD .skip):=by exact rfl)(uP:(fn.name != "runtime.NumGoroutine")=true:=by exact rfl):aB3 P g t w.1:=
 fun r h=>okC (w.2.trans h) G hf trivial hn Po hb uP
def aJ3{F:Nat->Option R}(h:∀n,aB3 P g t (F (n+1)))(h0:F 0=none:=by intros;rfl):∀n,aB3 P g t (F n)
 |0=>fun r h=>by rw[h0]at h;cases h
 |n+1=>h n
def F4(w:SC1 (qj P fn m (pR P rs t) cl cd vc cut zV cp (fun _ _=>none) AI co AK ce js cy) t0 k)(G:KX (qj P fn m (pR P rs t) cl cd vc cut zV cp (fun _ _=>none) AI co AK ce js cy))(hf:P.funcs[g]? =some fn)(hn:fn.ntmps=k)(Po:fn.results=rs.toArray)(hb:fn.body=some (fn.body.getD .skip):=by exact rfl)(uP:(fn.name != "runtime.NumGoroutine")=true:=by exact rfl):EE P g t0 t w.1:=
 fun a r h=>okC ((w.2 a).trans h) G hf ⟨t0.nb 0 _,trivial⟩ hn Po hb uP
def GQ{F:Nat->T0->Option R}(h:∀n,EE P g t0 t (F (n+1)))(h0:∀a,F 0 a=none:=by intros;rfl):∀n,EE P g t0 t (F n)
 |0=>fun a r h=>by rw[h0]at h;cases h
 |n+1=>h n
def CN(w:Vd (qj P fn m (pR P rs t) cl cd vc cut zV cp (fun _ _=>none) AI co AK ce js cy) t0 t1 k)(G:KX (qj P fn m (pR P rs t) cl cd vc cut zV cp (fun _ _=>none) AI co AK ce js cy))(hf:P.funcs[g]? =some fn)(hn:fn.ntmps=k)(Po:fn.results=rs.toArray)(hb:fn.body=some (fn.body.getD .skip):=by exact rfl)(uP:(fn.name != "runtime.NumGoroutine")=true:=by exact rfl):AW P g t0 t1 t w.1:=
 fun a b r h=>okC ((w.2 a b).trans h) G hf ⟨t0.nb 0 _,t1.nb 0 _,trivial⟩ hn Po hb uP
def EW{F:Nat->T0->T1->Option R}(h:∀n,AW P g t0 t1 t (F (n+1)))(h0:∀a b,F 0 a b=none:=by intros;rfl):∀n,AW P g t0 t1 t (F n)
 |0=>fun a b r h=>by rw[h0]at h;cases h
 |n+1=>h n
def aEz(w:SC3 (qj P fn m (pR P rs t) cl cd vc cut zV cp (fun _ _=>none) AI co AK ce js cy) t0 t1 t2 k)(G:KX (qj P fn m (pR P rs t) cl cd vc cut zV cp (fun _ _=>none) AI co AK ce js cy))(hf:P.funcs[g]? =some fn)(hn:fn.ntmps=k)(Po:fn.results=rs.toArray)(hb:fn.body=some (fn.body.getD .skip):=by exact rfl)(uP:(fn.name != "runtime.NumGoroutine")=true:=by exact rfl):awJ P g t0 t1 t2 t w.1:=
 fun a b c r h=>okC ((w.2 a b c).trans h) G hf ⟨t0.nb 0 _,t1.nb 0 _,t2.nb 0 _,trivial⟩ hn Po hb uP
def aHs{F:Nat->T0->T1->T2->Option R}(h:∀n,awJ P g t0 t1 t2 t (F (n+1)))(h0:∀a b c,F 0 a b c=none:=by intros;rfl):∀n,awJ P g t0 t1 t2 t (F n)
 |0=>fun a b c r h=>by rw[h0]at h;cases h
 |n+1=>h n
def aMc(w:SC4 (qj P fn m (pR P rs t) cl cd vc cut zV cp (fun _ _=>none) AI co AK ce js cy) t0 t1 t2 t3 k)(G:KX (qj P fn m (pR P rs t) cl cd vc cut zV cp (fun _ _=>none) AI co AK ce js cy))(hf:P.funcs[g]? =some fn)(hn:fn.ntmps=k)(Po:fn.results=rs.toArray)(hb:fn.body=some (fn.body.getD .skip):=by exact rfl)(uP:(fn.name != "runtime.NumGoroutine")=true:=by exact rfl):aEy P g t0 t1 t2 t3 t w.1:=
 fun a b c d r h=>okC ((w.2 a b c d).trans h) G hf ⟨t0.nb 0 _,t1.nb 0 _,t2.nb 0 _,t3.nb 0 _,trivial⟩ hn Po hb uP
def aMd{F:Nat->T0->T1->T2->T3->Option R}(h:∀n,aEy P g t0 t1 t2 t3 t (F (n+1)))(h0:∀a b c d,F 0 a b c d=none:=by intros;rfl):∀n,aEy P g t0 t1 t2 t3 t (F n)
 |0=>fun a b c d r h=>by rw[h0]at h;cases h
 |n+1=>h n
end
section
variable {O2 W2 Φ:Type}
abbrev SX(M:mg R)(aPp:AL γ)(os:OL O)(N:Nat)(u:Φ->O->γ->Option R):Type:={B:Φ //∀b a,run M [.at []] (atP aPp os b a N)=u B b a}
abbrev AX(P:aPO)(g:aPN)(aPp:AL γ)(os:OL O)(yn:OL O1)(s:AL W)(F:O->γ->Option (O1×W)):Prop:=∀b a r,F b a=some r->SG P g aPp os b a yn s r
abbrev wE(P:aPO)(g:aPN)(aPp:AL γ)(os:OL O)(pk:Bool)(yn:OL O1)(s1:AL W1)(Gg:OL O2)(s2:AL W2)(F:O->γ->Option (PR (O1×W1) (O2×W2))):Prop:=∀b a r,F b a=some r->SP P g aPp os b a pk yn s1 Gg s2 r
variable {fn:Func} {m:Nat} {vc:List Nat->k9->Option k9} {cut:List Nat->k9->Option k9} {zV:aPN->Bool}
 {AI:aPN->Bool} {co:aPN->List AV->List lw->Option CO} {AK:aPN->Bool} {ce:aPN->List AV->List lw->Option yO} {js:List Nat->List (Int×Code)} {cy:Nat->List AV->List lw->Option (AV×List lw)} {k:Nat} {g:aPN} {rs:List ResultVar} {p1 p2:List YA} {b1 b2:List Nat} {low:Nat}
 {aPp:AL γ} {os:OL O} {os0:OL O1} {s:AL W} {yn:OL O1} {EU:AL W1} {Gg:OL O2} {Ob:AL W2} {c:YB}
def GR{u:Φ->O->γ->Option (O1×W)}(e:SX (qj P fn m (yK P rs p1 b1 low os0 s) cl cd vc cut zV cp (fun _ _=>none) AI co AK ce js cy) aPp os k u)(G:KX (qj P fn m (yK P rs p1 b1 low os0 s) cl cd vc cut zV cp (fun _ _=>none) AI co AK ce js cy))(hf:P.funcs[g]? =some fn)(hn:fn.ntmps=k)(Po:fn.results=rs.toArray)(h1:decide (aPp.nR<=os.size)=true:=by kernel_rfl)(h2:decide (os.nR<=os.size)=true:=by kernel_rfl)(hb1:b1=fk low:=by exact rfl)(hb:fn.body=some (fn.body.getD .skip):=by exact rfl)(uP:(fn.name != "runtime.NumGoroutine")=true:=by exact rfl):AX P g aPp os os0 s (u e.1):=fun b a r h=>okG ((e.2 b a).trans h) G hf hn Po h1 h2 hb1 hb uP
def Iq{u:Φ->O->γ->Option (PR (O1×W1) (O2×W2))}(e:SX (qj P fn m (tO P rs p1 b1 low yn EU) cl cd vc cut zV cp (tP p2 b2 low Gg Ob) AI co AK ce js cy) aPp os k u)(G:KX (qj P fn m (tO P rs p1 b1 low yn EU) cl cd vc cut zV cp (tP p2 b2 low Gg Ob) AI co AK ce js cy))(hf:P.funcs[g]? =some fn)(hn:fn.ntmps=k)(Po:fn.results=rs.toArray)(h1:decide (aPp.nR<=os.size)=true:=by kernel_rfl)(h2:decide (os.nR<=os.size)=true:=by kernel_rfl)(DI: ∀b a,∃y,Ob.enc (Gg.nS b) a=[y]:=by exact fun b a=>⟨_,rfl⟩)(hb1:b1=fk low:=by exact rfl)(hb2:b2=fk low:=by exact rfl)(hb:fn.body=some (fn.body.getD .skip):=by exact rfl)(uP:(fn.name != "runtime.NumGoroutine")=true:=by exact rfl):wE P g aPp os true yn EU Gg Ob (u e.1):=fun b a r h=>okP ((e.2 b a).trans h) G hf hn Po h1 h2 DI hb1 hb2 hb uP
def aMe{u:Φ->O->γ->Option (PR (O1×W1) (O2×W2))}(e:SX (qj P fn m (ak4 P rs p1 b1 low yn EU p2 Gg Ob) cl cd vc cut zV cp (fun _ _=>none) AI co AK ce js cy) aPp os k u)(G:KX (qj P fn m (ak4 P rs p1 b1 low yn EU p2 Gg Ob) cl cd vc cut zV cp (fun _ _=>none) AI co AK ce js cy))(hf:P.funcs[g]? =some fn)(hn:fn.ntmps=k)(Po:fn.results=rs.toArray)(h1:decide (aPp.nR<=os.size)=true:=by kernel_rfl)(h2:decide (os.nR<=os.size)=true:=by kernel_rfl)(hb1:b1=fk low:=by exact rfl)(hb:fn.body=some (fn.body.getD .skip):=by exact rfl)(uP:(fn.name != "runtime.NumGoroutine")=true:=by exact rfl):wE P g aPp os false yn EU Gg Ob (u e.1):=fun b a r h=>okS ((e.2 b a).trans h) G hf hn Po h1 h2 hb1 hb uP
def aID{u:Φ->O->γ->Option (PR (O1×W1) (O2×W2))}(hc:aEp P c)(e:SX (qj P fn m (apY c (tO P rs p1 b1 low yn EU) (tP p2 b2 low Gg Ob)) cl cd vc cut zV cp (apZ c (tO P rs p1 b1 low yn EU) (tP p2 b2 low Gg Ob)) AI co AK ce js cy) aPp os k u)(G:KX (qj P fn m (apY c (tO P rs p1 b1 low yn EU) (tP p2 b2 low Gg Ob)) cl cd vc cut zV cp (apZ c (tO P rs p1 b1 low yn EU) (tP p2 b2 low Gg Ob)) AI co AK ce js cy))(hf:P.funcs[g]? =some fn)(hn:fn.ntmps=k)(Po:fn.results=rs.toArray)(h1:decide (aPp.nR<=os.size)=true:=by kernel_rfl)(h2:decide (os.nR<=os.size)=true:=by kernel_rfl)(DI: ∀b a,∃y,Ob.enc (Gg.nS b) a=[y]:=by exact fun b a=>⟨_,rfl⟩)(hb1:b1=fk low:=by exact rfl)(hb2:b2=fk low:=by exact rfl)(hb:fn.body=some (fn.body.getD .skip):=by exact rfl)(uP:(fn.name != "runtime.NumGoroutine")=true:=by exact rfl):wE P g aPp os true yn EU Gg Ob (u e.1):=fun b a r h=>aNR hc ((e.2 b a).trans h) G hf hn Po h1 h2 DI hb1 hb2 hb uP
def Ve{u:Φ->O->γ->Option (O1×W)}{F:Nat->Φ}(h:∀n,AX P g aPp os yn s (u (F (n+1))))(h0:∀b a,u (F 0) b a=none:=by intros;rfl):∀n,AX P g aPp os yn s (u (F n))
 |0=>fun b a r h=>by rw[h0]at h;cases h
 |n+1=>h n
def adE{u:Φ->O->γ->Option (PR (O1×W1) (O2×W2))}{pk:Bool}{F:Nat->Φ}(h:∀n,wE P g aPp os pk yn EU Gg Ob (u (F (n+1))))(h0:∀b a,u (F 0) b a=none:=by intros;rfl):∀n,wE P g aPp os pk yn EU Gg Ob (u (F n))
 |0=>fun b a r h=>by rw[h0]at h;cases h
 |n+1=>h n
end
def mC {p:O->Prop} (x:Subtype p:=by
    apply _root_.Subtype.mk
    repeat (first|refine _root_.Prod.forall.2 ?_|intro)
    simp (config:={maxSteps:=100000000}) only[go_sem,_root_.Nat.reduceAdd,_root_.Nat.reduceSub,_root_.Nat.reduceLeDiff,_root_.Nat.reduceEqDiff,_root_.Nat.reduceBEq,_root_.Nat.reduceMul,_root_.Nat.reduceLT,_root_.Int.reduceLE,_root_.Int.reduceLT,_root_.Int.reduceToNat,_root_.Int.reduceBEq,_root_.Int.reduceEq,_root_.Option.getD_some,mixed, *];exact rfl):Subtype p:=x
def Ea {p:O->Prop} (x:Subtype p:=by
    apply _root_.Subtype.mk
    repeat (first|refine _root_.Prod.forall.2 ?_|intro)
    simp (config:={maxSteps:=100000000})-implicitDefEqProofs only[go_sem,_root_.Nat.reduceAdd,_root_.Nat.reduceSub,_root_.Nat.reduceLeDiff,_root_.Nat.reduceEqDiff,_root_.Nat.reduceBEq,_root_.Nat.reduceMul,_root_.Nat.reduceLT,_root_.Int.reduceLE,_root_.Int.reduceLT,_root_.Int.reduceToNat,_root_.Int.reduceBEq,_root_.Int.reduceEq,_root_.Option.getD_some,mixed, *];exact rfl):Subtype p:=x
def tQ.bnd{f:Fn}{xs:List AV}(h:tQ xs ys):Pc (.func f xs []) (.func f ys []):=by
 rintro E v ⟨a,b,rfl,h1,h2⟩;exact⟨a,b,rfl,h E _ h1,h2⟩
section

def aHt(f:aPN)(c:VL γ)(s:VL δ)(Y:List Nat)(L:Il):List AV->Option (γ×δ)
 |.func (.func f') cs []::xs=>bif decide (f'=f)then(c.oP Y L cs).bind fun y=>(s.oP Y L xs).bind fun a=>some (y,a)else none
 |_=>none
def vlB (f:aPN) (c:VL γ) (s:VL δ):VL (γ×δ) where
 enc L g:=.func (.func f) (c.enc L g.1) []::s.enc L g.2
 oP:=aHt f c s
 nR:=max c.nR s.nR
 nb L g:=⟨⟨uT (by omega) _ (c.nb L g.1),trivial⟩,uT (by omega) _ (s.nb L g.2)⟩
 ok Y L vs g h:=by
  unfold aHt at h;split at h
  ·rename_i f' cs xs;cases hc:decide (f'=f)with
   |false=>simp [hc]at h
   |true=>
    simp only[hc,kP,fg,fi]at h;obtain⟨y,hy,a,ha,rfl⟩:=h;obtain rfl:=kT hc;refine tQ.cons ?_ (s.ok Y L _ _ ha);simp only[AV.s8,vC];exact(tQ.bnd (c.ok Y L _ _ hy))
  ·cases h
def aHu(f:aPN)(c:VL γ)(s:AL δ)(Y:List Nat)(L:Il)(H:List lw):List AV->Option (γ×δ)
 |.func (.func f') cs []::xs=>bif decide (f'=f)then(c.oP Y L cs).bind fun y=>(s.oP Y L H xs).bind fun a=>some (y,a)else none
 |_=>none
def alB (f:aPN) (c:VL γ) (s:AL δ):AL (γ×δ) where
 enc L g:=.func (.func f) (c.enc L g.1) []::s.enc L g.2
 oP:=aHu f c s
 nR:=max c.nR s.nR
 nb L g:=⟨⟨uT (by omega) _ (c.nb L g.1),trivial⟩,uT (by omega) _ (s.nb L g.2)⟩
 ok Y L H n vs g hv h:=by
  unfold aHu at h;split at h
  ·rename_i f' cs xs;cases hc:decide (f'=f)with
   |false=>simp [hc]at h
   |true=>
    simp only[hc,kP,fg,fi]at h;obtain⟨y,hy,a,ha,rfl⟩:=h;obtain rfl:=kT hc;refine GM.cons ?_ (s.ok Y L H n _ _ (hv.mono (by omega)) ha);simp only[AV.s8,vC];exact Co.sub (tQ.bnd (c.ok Y L _ _ hy)) ⟨adz (hv.mono (a:=c.nR) (by omega)).lt _ (c.nb L y),trivial⟩
  ·cases h
def aMf{c:VL γ}{s:VL δ}:(∀L g,(vlB f c s).enc L g=.func (.func f) (c.enc L g.1) []::s.enc L g.2)/\∀Y L xs,(vlB f c s).oP Y L xs=aHt f c s Y L xs:=⟨fun _ _=>rfl,fun _ _ _=>rfl⟩
def aMg{c:VL γ}{s:AL δ}:(∀L g,(alB f c s).enc L g=.func (.func f) (c.enc L g.1) []::s.enc L g.2)/\(∀Y L H xs,(alB f c s).oP Y L H xs=aHu f c s Y L H xs)/\(alB f c s).nR=max c.nR s.nR:=⟨fun _ _=>rfl,fun _ _ _ _=>rfl,rfl⟩
def aMh{c:VL γ}{s:VL δ}:(vlB f c s).nR=max c.nR s.nR:=rfl
def aHv(f:aPN)(a:Ty W):AV->Option W
 |.func (.func g) [x] []=>if g=f then a.oP [] x else none
 |_=>none
def ala(f:aPN)(a:Ty W):Ty W where
 enc x:=.func (.func f) [a.enc x] []
 oP _:=aHv f a
 ok H n v x h:=by
  unfold aHv at h;split at h
  ·split at h
   ·rename_i e;subst e;exact Co.sub (Pc.func (tQ.cons (a.ok [] 0 _ _ h).qk tQ.nil) tQ.nil) ⟨⟨a.nb n x,trivial⟩,trivial⟩
   ·cases h
  ·cases h
 nb n x:=⟨⟨a.nb n x,trivial⟩,trivial⟩
def aJ4{a:Ty W}:(∀x,(ala f a).enc x=.func (.func f) [a.enc x] [])/\∀H v,(ala f a).oP H v=aHv f a v:=⟨fun _=>rfl,fun _ _=>rfl⟩
attribute [go_sem] aMf aMg aMh aHt aHu aHv aJ4
end
def aNS(M:mg R)(K:List Kt)(s:Nat)(J:k9):Option AV->Option R
 |some (.bool b)=>bif b then run M K {J with lE:=J.lE.set s (.bool true)} else run M K {J with lE:=J.lE.set s (.bool false)}
 |_=>run M K J
def aJ5{s:Nat}:aNS M K s J (some (.bool b))=bif b then run M K {J with lE:=J.lE.set s (.bool true)} else run M K {J with lE:=J.lE.set s (.bool false)}:=rfl
attribute [go_sem] aJ5
def dbY:lw->Option lH
 |.L8 s=>dS (.str s)
 |_=>none
theorem azu{x:lw}{s:lH}(h:dbY x=some s):x=.L8 (sb s):=by
 unfold dbY at h;split at h
 ·rename_i u;have h2:s=u.data.toList:=by simp only[dS,fi]at h;exact h.symm
  subst h2;rfl
 ·cases h
def ogB:OG lH where
 enc _ s:=.L8 (sb s)
 oP _ _ _:=dbY
 len s:=s.length
 nR:=0
 nb _ _:=trivial
 ok Y L H n x g _ h:=by rw[azu h];exact .inr (.inl ⟨rfl,trivial⟩)
 anj Y L H x g h:=by
  rw[azu h];show g.length=(sb g).size;rw[SH]
def aMi:(∀L g,ogB.enc L g=.L8 (sb g))/\(∀Y L H x,ogB.oP Y L H x=dbY x)/\(∀g,ogB.len g=g.length)/\ogB.nR=0:=⟨fun _ _=>rfl,fun _ _ _ _=>rfl,fun _=>rfl,rfl⟩
def oY:ZO:=⟨fun _ _ x=>(dbY x).bind fun s=>some (.L8 (sb s)),fun H n x y h=>by
 simp only[fg,fi]at h;obtain⟨s,hs,rfl⟩:=h;rw[azu hs];exact .inr (.inl ⟨rfl,trivial⟩)⟩
def aNT{x:lw}:oY.f H n x=(dbY x).bind fun s=>some (.L8 (sb s)):=rfl
def aMj:dbY (.L8 s)=dS (.str s):=rfl
def aEA:oO (some (.L8 s))=some s.size:=rfl
def aEB:(lw.L8 s).s8 τ=.L8 s:=rfl
def aEC:ByteArray.empty=sb []:=rfl
section

def aHw(t k:Nat)(s:AL δ)(Y:List Nat)(L:Il)(H:List lw):List AV->Option δ
 |.sn t' l::xs=>bif decide (t'=t/\Y[k]? =some l)then s.oP Y L H xs else none
 |_=>none
def alS (t k:Nat) (s:AL δ):AL δ where
 enc L g:=.sn t k::s.enc L g
 oP:=aHw t k s
 nR:=max (k+1) s.nR
 nb L g:=⟨show k<_ by omega,uT (by omega) _ (s.nb L g)⟩
 ok Y L H n vs g hv h:=by
  unfold aHw at h;split at h
  ·rename_i t' l xs;cases hc:decide (t'=t/\Y[k]? =some l)with
   |false=>simp [hc]at h
   |true=>
    simp only[hc,kP]at h;obtain⟨rfl,hc'⟩:=kT hc;refine GM.cons ?_ (s.ok Y L H n _ _ (hv.mono (by omega)) h);have hl:=hv.lt k (by omega);simp only[AV.s8];rw[agE hc']at hl ⊢;exact Co.same hl
  ·cases h
def aMk{t k:Nat}{s:AL δ}:(∀L g,(alS t k s).enc L g=.sn t k::s.enc L g)/\(∀Y L H xs,(alS t k s).oP Y L H xs=aHw t k s Y L H xs)/\(alS t k s).nR=max (k+1) s.nR:=⟨fun _ _=>rfl,fun _ _ _ _=>rfl,rfl⟩
end
attribute [go_sem] aMi aNT aMj aEA aEB aEC aHw aMk
section
open Go.Proofs Go.Shelf Go.RowKit
variable {Y:Ren}
set_option maxHeartbeats 1000000 in
set_option maxRecDepth 100000 in
def atT(L:Lays.n240 P Y){T:Nat}(hs:(P.info? (Y.t 72)).map (·.size)=some 2)(hl:liesAt P P.depth T (n / P.cellsOf T) 0 (Y.t 72) 1=true)(hn:0<n)
 (b:Nat) (w:aPQ) (h0:w.cell? ⟨b,0,none⟩=some (.pointer none)) (hsh:w.shape? b=some (T,n)) (hfz:w.frozen? ⟨b,0,none⟩=false):
 Calls P (Y.f 240) #[.pointer (some ⟨b,0,none⟩)] w fun e w'=>e=.returned (.tuple #[])/\w'=w.setCell ⟨b,0,none⟩ (.pointer (some ⟨b,0,none⟩)):=by
 obtain⟨j,hj,hjs⟩:=fj.1 hs;have mixed:=L.mixed;have t72:=L.t72;have a72:=L.a72;have z72:=L.z72;have v72:=L.v72;have u72:=run_underlying L.t72;have t70:=L.t70;have a70:=L.a70;have z70:=L.z70;have v70:=L.v70;have u70:=run_underlying L.t70;have t9:=L.t9;have a9:=L.a9;have z9:=L.z9;have v9:=L.v9;have u9:=run_underlying L.t9;have t4:=L.t4;have a4:=L.a4;have z4:=L.z4;have v4:=L.v4;have u4:=run_underlying L.t4;have t164:=L.t164;have a164:=L.a164;have z164:=L.z164;have v164:=L.v164;have aNU:=run_underlying L.t164
 go_enter L.f240,Body.n240_ntmps Y
 go_wp2
 rw[Lib.run_to_unsafe w ⟨b,0,none⟩ L.t70 L.t164 hj (by rw[hjs];decide) hsh hn];simp only[Result.andThen];rw[Oper.upon_value]
 go_wp2
 rw[run_callFunc_extern L.f276 (kX) (kX) (kX) (e:=Extern.AbiNoEscape.same) (kX)];rw[Lib.run_noEscape];simp only[Result.andThen];rw[Oper.upon_value]
 go_wp2
 rw[Lib.run_from_unsafe w ⟨b,0,none⟩ L.t164 L.t70 hj hsh hl];simp only[Result.andThen];rw[Oper.upon_value]
 go_wp2
 go_end0
 exact⟨rfl,rfl⟩
def atU(L:Lays.n240 P Y)(hs:(P.info? (Y.t 72)).map (·.size)=some 2)(b:Nat)(w:aPQ)(h0:w.cell? ⟨b,0,none⟩=some (.pointer (some ⟨b,0,none⟩))):
 Calls P (Y.f 240) #[.pointer (some ⟨b,0,none⟩)] w fun e w'=>e=.returned (.tuple #[])/\w'=w:=by
 obtain⟨j,hj,_⟩:=fj.1 hs;have mixed:=L.mixed;have t72:=L.t72;have a72:=L.a72;have z72:=L.z72;have v72:=L.v72;have u72:=run_underlying L.t72;have t70:=L.t70;have a70:=L.a70;have z70:=L.z70;have v70:=L.v70;have u70:=run_underlying L.t70;have t9:=L.t9;have a9:=L.a9;have z9:=L.z9;have v9:=L.v9;have u9:=run_underlying L.t9;have t4:=L.t4;have a4:=L.a4;have z4:=L.z4;have v4:=L.v4;have u4:=run_underlying L.t4;have t164:=L.t164;have a164:=L.a164;have z164:=L.z164;have v164:=L.v164;have aNU:=run_underlying L.t164
 go_enter L.f240,Body.n240_ntmps Y
 go_wp2
 rw[Lib.run_neq_ptr_same w _ L.t70 hj]
 go_wp2
 go_end0
 exact⟨rfl,rfl⟩
end
section
open Go.Proofs Go.Shelf Go.RowKit
variable {Y:Ren}
set_option maxHeartbeats 2000000 in
def aB4(L:Lays.n169 P Y)(X:Builder.Extra P Y)(b n cap:Nat)(base q:Option Addr)(s:ByteArray)(w w1 w2:aPQ)(c1:w.drew.cell? ⟨b,1,none⟩=some (.slice base n cap))(c2:w1.cell? ⟨b,1,none⟩=some (.slice base n cap))
 (hSD:(Builtin.unsafeSliceData_ #[(Y.t 37)] (Y.t 127) #[.slice base n cap]).run P w.drew=.ok (.pointer q) w1)
 (hUS:(Builtin.unsafeString_ #[(Y.t 127),(Y.t 3)] (Y.t 9) #[.pointer q,.int .i64 n]).run P w1=.ok (.string s) w2):
 Calls P (Y.f 169) #[.pointer (some ⟨b,0,none⟩)] w fun e w'=>e=.returned (.string s)/\w'=w2:=by
 have mixed:=L.mixed;have t72:=L.t72;have a72:=L.a72;have z72:=L.z72;have v72:=L.v72;have u72:=run_underlying L.t72;have t70:=L.t70;have a70:=L.a70;have z70:=L.z70;have v70:=L.v70;have u70:=run_underlying L.t70;have t37:=L.t37;have a37:=L.a37;have z37:=L.z37;have v37:=L.v37;have u37:=run_underlying L.t37;have t127:=L.t127;have a127:=L.a127;have z127:=L.z127;have v127:=L.v127;have aOB:=run_underlying L.t127;have t3:=L.t3;have a3:=L.a3;have z3:=L.z3;have v3:=L.v3;have u3:=run_underlying L.t3;have t9:=L.t9;have a9:=L.a9;have z9:=L.z9;have v9:=L.v9;have u9:=run_underlying L.t9;have t5:=X.t5;have a5:=X.a5;have z5:=X.z5;have v5:=X.v5;have u5:=run_underlying X.t5
 go_enter L.f169,Body.n169_ntmps Y
 go_wp2
 go_region_o
 all_goals (go_wp2;go_ret;exact⟨rfl,rfl⟩)
end
def arf{T:Nat}(he:Bs P f=true)
 (hu:∀b w,w.cell? ⟨b,0,none⟩=some (.pointer (some ⟨b,0,none⟩))->Calls P f #[.pointer (some ⟨b,0,none⟩)] w fun e w'=>e=.returned (.tuple #[])/\w'=w)
 (hi:∀b w,w.cell? ⟨b,0,none⟩=some (.pointer none)->w.shape? b=some (T,n)->w.frozen? ⟨b,0,none⟩=false->
   Calls P f #[.pointer (some ⟨b,0,none⟩)] w fun e w'=>e=.returned (.tuple #[])/\w'=w.setCell ⟨b,0,none⟩ (.pointer (some ⟨b,0,none⟩)))
 (cs:List AV) (H:List lw) (hn:cs.length+1=n) (LY:yg (H.length+1) cs) (Mw:∀x∈H,uJ (H.length+1) x):
 FnG P f [.ptr 0 0] (.cells (.sn T 0::cs)::H) (fun o H'=>o=.ret (.Mt [])/\H'=.cells (.sn T 0::cs)::H):=by
 refine⟨he,⟨Nat.succ_pos _,trivial⟩,?_,fun C U w hP hw hN0 hφ hM HS vs hr=>?_⟩
 ·intro x hx;rcases fy.1 hx with rfl|hx
  ·exact⟨Nat.succ_pos _,LY⟩
  ·exact Mw x hx
 obtain⟨v0,us,hvs,⟨_,b,hb,hv0⟩,ajJ⟩:=hr;have hus:us=[]:=ajJ;subst hus hv0;obtain rfl:vs= #[.pointer (some ⟨b,0,none⟩)]:=by cases vs;simp_all
 obtain⟨b2,c,t,hb2,hh,rl,DI⟩:=HS.qJ 0 _ rfl;have hbw:U 0=.pointer (some ⟨b,0,none⟩):=hb;obtain rfl:b=b2:=by have hb2:U 0=_:=hb2;rw[hbw]at hb2;simpa using hb2
 obtain⟨u0,vs2,hc0,⟨_,b3,hb3,hu0,c3,fz3,hh3⟩,rr⟩:=rl;have aMl:U 0=.pointer (some ⟨b3,0,none⟩):=hb3;obtain rfl:b=b3:=by rw[hbw]at aMl;simpa using aMl
 have hhw:w.heap[b]? =some (.cells c t (0,0)):=hh;have aHx:w.heap[b]? =some (.cells c3 T fz3):=hh3;obtain⟨rfl,rfl⟩:c=c3/\t=T:=by rw[hhw]at aHx;simp at aHx;exact⟨aHx.1,aHx.2.1⟩
 have hcz:c.size=n:=by
  have h1:c.toList.length=_:=congrArg List.length hc0;rw[List.length_cons,rr.length]at h1;simp at h1;omega
 have wU:w.cell? ⟨b,0,none⟩=some u0:=by
  have:c[0]? =some u0:=by rw[<-Array.getElem?_toList,hc0];rfl
  simp [World.cell?,hhw,this]
 rcases hu0 with rfl|rfl
 ·refine(hi b w wU (by simp [World.shape?,hhw,hcz]) (by simp [World.frozen?,hhw])).mono ?_;rintro e w' ⟨rfl,rfl⟩
  have ax0:(c.setIfInBounds 0 (.pointer (some ⟨b,0,none⟩))).toList=Value.pointer (some ⟨b,0,none⟩)::vs2:=by
   rw[Array.toList_setIfInBounds,hc0];rfl
  have S2:=pW.write HS (l:=0) (b:=b) (cs':=.sn t 0::cs) (c':=c.setIfInBounds 0 (.pointer (some ⟨b,0,none⟩))) rfl hbw hhw (by
   rw[ax0];exact⟨_,_,rfl,⟨Nat.succ_pos _,b,hbw,.inr rfl,c,(0,0),hhw⟩,rr⟩) (by
   rw[ax0];intro u hu;rcases fy.1 hu with rfl|hu
   ·rfl
   ·exact DI u (by rw[hc0];exact List.mem_cons_of_mem _ hu))
  rw[setCell_eq_setRow w b 0 c t (0,0) _ hhw];exact⟨_,U,_,⟨rfl,rfl⟩,S2,⟨#[],rfl,rfl⟩⟩
 ·refine(hu b w wU).mono ?_;rintro e w' ⟨rfl,rfl⟩;exact⟨_,U,_,⟨rfl,rfl⟩,HS,⟨#[],rfl,rfl⟩⟩
section
variable {C:tC} {U:Nat->aPP} {a:Act} {w:aPQ}
def aB5(w:aPQ){c:Array aPP}{t:TypeId}{fz:Nat×Nat}(hn:n≠0)(hg:w.heap[g]? =some (.cells c t fz))(hf:fz.2<=n):
 (w.freeze ⟨g,0,none⟩ n).heap.size=w.heap.size/\(∀b,b≠g->(w.freeze ⟨g,0,none⟩ n).heap[b]? =w.heap[b]?)/\∃fz',(w.freeze ⟨g,0,none⟩ n).heap[g]? =some (.cells c t fz')/\fz'.2<=n:=by
 obtain⟨lo,hi⟩:=fz;unfold World.freeze;rw[if_neg hn];refine⟨by simp,fun b hb=>?_,?_⟩
 ·simp only[Array.getElem?_modify];rw[if_neg (fun e=>hb e.symm)]
 ·simp only[Array.getElem?_modify,kW,hg,Option.map_some];refine⟨_,rfl,?_⟩;simp only at hf;split
  ·show 0+n<=n;omega
  ·show max hi (0+n)<=n;omega
def pW.aHy(S:pW C U J a w){cap:Nat}(hl:J.heap[l]? =some (.L8 s))(hφ:U l=.slice (some ⟨g,0,none⟩) s.size cap)(uP:s.size≠0):pW C U J a (w.freeze ⟨g,0,none⟩ s.size):=by
 have agr:w.ownsRowF 0 Pd 1 (U l) s.size (fA s):=S.qJ l _ hl;rw[hφ]at agr;obtain⟨hxl,agr⟩:=agr;rcases agr with⟨h,_⟩|⟨g',aKZ,cur,fz,hv,hb,hg,hfz,r1,r2,r3,r4⟩
 ·cases h
 ·have hv:=hv;injection hv with e1 e2 e3
  have e1:g=g':=by injection e1 with e1;injection e1
  subst e1 e3;obtain⟨k1,k2,fz',k3,k4⟩:=aB5 w uP hg (by omega)
  have hos:(w.freeze ⟨g,0,none⟩ s.size).os=w.os/\(w.freeze ⟨g,0,none⟩ s.size).tape=w.tape/\(w.freeze ⟨g,0,none⟩ s.size).output=w.output:=by
   unfold World.freeze;rw[if_neg uP];exact⟨rfl,rfl,rfl⟩
  have S2:=S.azW (s':=s) (w':=w.freeze ⟨g,0,none⟩ s.size) (h':=U l) hl (.inr ⟨rfl,rfl⟩) (by
   rw[hφ];exact⟨hxl,.inr ⟨g,cap,cur,fz',rfl,hb,k3,by omega,r1,r2,r3,r4⟩⟩)
   ⟨hos.1,hos.2.1,hos.2.2,by rw[k1];exact Nat.le_refl _,fun k hk uP=>k2 k (fun e=>uP (by rw[hφ,e];rfl))⟩ (fun k hk=>.inl hk) (fun b c t fz2 hc=>by
     by_cases e:b=g
     ·subst e;rw[hg]at hc;cases hc;exact⟨_,_,k3⟩
     ·exact⟨_,_,by rw[k2 b e];exact hc⟩)
  have e1:(fun k=>if k=l then U l else U k)=U:=by
   funext k;by_cases e:k=l
   ·rw[if_pos e,e]
   ·rw[if_neg e]
  have e2:J.heap.set l (.L8 s)=J.heap:=by
   have q9:=(fo.1 hl).1;have:=(fo.1 hl).2;rw[<-this,fx]
  rw[e1,e2]at S2;exact S2
end
def azv{t37 t127 t3 t9:TypeId}(he:Bs P f=true)(hp:P.underlying t127=some (.pointer Pd))(hc1:P.cellsOf Pd=1)
 (hS:∀(b n cap:Nat)(base q:Option Addr)(s:ByteArray)(w w1 w2:aPQ),w.drew.cell? ⟨b,1,none⟩=some (.slice base n cap)->w1.cell? ⟨b,1,none⟩=some (.slice base n cap)->
   (Builtin.unsafeSliceData_ #[t37] t127 #[.slice base n cap]).run P w.drew=.ok (.pointer q) w1->(Builtin.unsafeString_ #[t127,t3] t9 #[.pointer q,.int .i64 n]).run P w1=.ok (.string s) w2->
   Calls P f #[.pointer (some ⟨b,0,none⟩)] w fun e w'=>e=.returned (.string s)/\w'=w2)
 (x0:AV) (cs:List AV) (s:ByteArray) (k:Nat) (hk:s.size=k) (LY:x0.nb 2/\yg 2 cs):
 FnG P f [.ptr 0 0] [.cells (x0::.nW 1 k::cs),.L8 s] (fun o H'=>o=.ret (.str s)/\H'=[.cells (x0::.nW 1 k::cs),.L8 s]):=by
 subst hk;refine⟨he,⟨Nat.succ_pos _,trivial⟩,?_,fun C U w hP hw hN0 hφ hM HS vs hr=>?_⟩
 ·intro x hx;simp only[fy,List.not_mem_nil,or_false]at hx;rcases hx with rfl|rfl
  ·exact⟨LY.1,(by decide:1<2),LY.2⟩
  ·trivial
 obtain⟨v0,us,hvs,⟨_,b,hb,hv0⟩,ajJ⟩:=hr;have hus:us=[]:=ajJ;subst hus hv0;obtain rfl:vs= #[.pointer (some ⟨b,0,none⟩)]:=by cases vs;simp_all
 obtain⟨b2,c,t,hb2,hh,rl,DI⟩:=HS.qJ 0 _ rfl;have hbw:U 0=.pointer (some ⟨b,0,none⟩):=hb;obtain rfl:b=b2:=by have hb2:U 0=_:=hb2;rw[hbw]at hb2;simpa using hb2
 obtain⟨u0,vs2,hc0,_,u1,vs3,hc2,r1,_⟩:=rl;have hhw:w.heap[b]? =some (.cells c t (0,0)):=hh;have hu1:u1=U 1:=as9 (J:={lE:=[],heap:=[.cells (x0::.nW 1 s.size::cs),.L8 s],low:=2}) HS (l:=1) (s:=s) rfl rfl r1;subst hu1;have q9:b<w.heap.size:=(Array.getElem?_eq_some_iff.1 hhw).1
 have wU:w.cell? ⟨b,1,none⟩=some (U 1):=by
  have:c[1]? =some (U 1):=by rw[<-Array.getElem?_toList,hc0,hc2];rfl
  simp [World.cell?,hhw,this]
 have agr:w.ownsRowF 0 Pd 1 (U 1) s.size (fA s):=HS.qJ 1 _ rfl;have HD:pW C U {lE:=[],heap:=[.cells (x0::.nW 1 s.size::cs),.L8 s],low:=2} {tmps:= #[],defers:=[]} w.drew:=HS.drew _
 have done:∀(w':aPQ),pW C U {lE:=[],heap:=[.cells (x0::.nW 1 s.size::cs),.L8 s],low:=2} {tmps:= #[],defers:=[]} w'->
  ∃o U' H',(o=yJ.ret (.str s)/\H'=[lw.cells (x0::.nW 1 s.size::cs),.L8 s])/\pW C U' {lE:=[],heap:=H',low:=([lw.cells (x0::.nW 1 s.size::cs),.L8 s]:List lw).length} {tmps:= #[],defers:=[]} w'/\o.rep (C.env U' H' w') (.returned (.string s)):=
  fun w' S'=>⟨_,U,_,⟨rfl,rfl⟩,S',rfl⟩
 have aJ6:s.size=0->s=ByteArray.empty:=fun h=>by
  apply ByteArray.ext;exact Array.eq_empty_of_size_eq_zero h
 rcases agr.2 with⟨hv,h0⟩|⟨g,cap,cur,fz,hv,hbg,hg,hfz,hnc,hcm,hcs,ar3⟩
 ·rw[hv]at wU;refine(hS b 0 0 none none s w w.drew w.drew wU wU rfl (by rw[aJ6 h0];exact fp _ _ _ _ _)).mono ?_;rintro e w' ⟨rfl,rfl⟩;exact done _ HD
 ·rw[hv] at wU;by_cases h0:s.size=0
  ·by_cases GI:cap=0
   ·subst GI;have hSD:=Lib.run_unsafeSliceData_zero (P:=P) w.drew #[t37] t127 Pd hp ⟨g,0,none⟩ s.size (Pd,cur.size) (by have hg':w.drew.heap[g]? =some (.cells cur Pd fz):=hg;simp [World.shape?,hg']);refine(hS b s.size 0 (some ⟨g,0,none⟩) _ s w _ _ wU ?_ hSD (by rw[h0,aJ6 h0];exact fp _ _ _ _ _)).mono ?_
    ·have e1:(w.drew.alloc (.view ⟨g,0,none⟩ Pd)).heap[b]? =w.heap[b]? :=CL w.drew (.view ⟨g,0,none⟩ Pd) q9;rw[<-wU];simp only[World.cell?,e1]
    ·rintro e w' ⟨rfl,rfl⟩;exact done _ (HD.more _ (by intro c t lo hi h;cases h))
   ·refine(hS b s.size cap (some ⟨g,0,none⟩) _ s w w.drew _ wU wU (fq _ _ _ _ _ _ GI) (by rw[h0,aJ6 h0];exact fp _ _ _ _ _)).mono ?_;rintro e w' ⟨rfl,rfl⟩;exact done _ HD
  ·have hl:s.data.toList.length=s.size:=by rw[Array.length_toList];rfl
   have hUS:(Builtin.unsafeString_ #[t127,t3] t9 #[.pointer (some ⟨g,0,none⟩),.int .i64 s.size]).run P w.drew=.ok (.string s) (w.drew.freeze ⟨g,0,none⟩ s.size):=by
    have:=Lib.run_unsafeString_row (P:=P) w.drew t127 t3 t9 Pd hp hc1 g cur.size (by have hg':w.drew.heap[g]? =some (.cells cur Pd fz):=hg;simp [World.shape?,hg']) s.data.toList (by intro e;rw[e]at hl;exact h0 hl.symm) (by omega) (by unfold maxLen at hcm;omega) (by
     intro j x hx;exact agr.cells (g:=g) (by rw[hv];rfl) j (.int .u8 x.toNat) (by simp [fA,hx]))
    rw[hl]at this;exact this
   refine(hS b s.size cap (some ⟨g,0,none⟩) _ s w w.drew _ wU wU (fq _ _ _ _ _ _ (by omega)) hUS).mono ?_;rintro e w' ⟨rfl,rfl⟩;exact done _ (HD.aHy (l:=1) (s:=s) rfl hv h0)
attribute [go_sem] Option.map_some
def aED{b:Nat}{nm:String}(he:Bs P f=true)(hb:aKJ b)(hg:P.globalNamed nm=some b)(hv:aCK=(Lib.pow10Tab.map fun z=>Value.int .u64 z).toArray)
 (h:∀(n:Int)(w:aPQ),-9223372036854775808<=n->n<=9223372036854775807->Lib.TabIs P w nm .u64 Lib.pow10Tab->Calls P f #[.int .i64 n] w fun e w'=>e=.returned (.string ⟨(Lib.itoa n).toArray⟩)/\∃k os,w'=Sort.grow (w.drewN k) os)
 (n:Int) (h0:0<=n) (h1:n<=9223372036854775807):N6 P f [(oe .i64).enc n] (fun v=>v=oa.enc (Lib.itoa n)):=by
 refine⟨he,⟨(oe .i64).nb 0 _,trivial⟩,fun C U w hP hw hN0 hM vs hr=>?_⟩
 obtain rfl:vs= #[.int .i64 n]:=by
  obtain⟨v0,us,hvs,r0,ajJ⟩:=hr;have hus:us=[]:=ajJ;have e0:v0=.int .i64 n:=r0;subst hus e0;cases vs;simp_all
 obtain⟨_,t,fz,aHz⟩:=C.hk.row b hb;rw[hw]at aHz
 have aJ7:Lib.TabIs P w nm .u64 Lib.pow10Tab:=by
  unfold Lib.TabIs World.var?;rw[hg,Option.bind_some,aHz,<-hv]
 refine(h n w (by omega) h1 aJ7).mono ?_;rintro e w' ⟨rfl,k,os,rfl⟩;have hB:=Lib.below_grow w.heap.size w (Nat.le_refl _) k os;exact⟨_,_,U,rfl,rfl,rfl,hB.size,hB.block,fun x hx=>hB.frozen hx,hB.output,hB.os⟩
abbrev adF:=Option (Nat×List lH)
def adG:adF->AV
 |none=>.uS .nilFunc
 |some (g,v)=>.func (.func g) [.mj false 1 (mp mS v)] []
def atV(H:List lw):AV->Option adF
 |.uS .nilFunc=>some none
 |.func (.func g) [x] []=>(dL mJ [] x).bind fun v=>some (some (g,v))
 |_=>none
def atW(n:Nat)(x:adF):(adG x).nb n:=by
 cases x with
 |none=>trivial
 |some y=>exact⟨⟨(nA mJ).nb n y.2,trivial⟩,trivial⟩
def ant(x:adF):(adG x).nT=true:=by
 cases x<;>rfl
def awK(H:List lw)(x:adF):atV H (adG x)=some x:=by
 cases x with
 |none=>rfl
 |some y=>simp only[adG,atV,dL,DN,adv,Dz,beq_self_eq_true,Bool.true_or,kP,Option.bind_some]
def aAy{v:AV}{x:adF}(h:atV H v=some x):Co1 H n v (adG x):=by
 unfold atV at h;split at h
 ·cases h;exact Co1.sub (Pc.refl _) trivial
 ·simp only[fg,fi]at h;obtain⟨v,hv,rfl⟩:=h;exact Co1.sub (Pc.func (tQ.cons (Cj (n:=0) hv).qk tQ.nil) tQ.nil) ⟨⟨(nA mJ).nb n v,trivial⟩,trivial⟩
 ·cases h
def aIE:Ty adF:=⟨adG,atV,fun _ _ _ _ h=>.inl (aAy h),atW⟩
def aHA:aIE.enc=adG/\aIE.oP=atV:=⟨rfl,rfl⟩
def aMm(x:adF)(a:Option R)(f:Nat×List lH->Option R):Option R:=
 match x with
 |none=>a
 |some y=>f y
def aB6{x:adF}{f:Nat×List lH->Option R}:aMm x none f=x.bind f:=by
 cases x<;>rfl
section
variable {k:List Kt}
def aB7{rest:List aPM}{x:adF}{F:Nat×List lH->aPN×List AV}:
 ai2 M lR o rest k J (x.bind fun y=>some (F y))=aMm x (ai2 M lR o rest k J none) (fun y=>ai2 M lR o rest k J (some (F y))):=by
 cases x<;>rfl
end
attribute [go_sem high] ant awK atW aB7
attribute [go_sem] atV aHA aB6
def awL:Value.nilFunc.oneCell'=true:=rfl
attribute [go_sem high] awL
end Go.Abs
end
