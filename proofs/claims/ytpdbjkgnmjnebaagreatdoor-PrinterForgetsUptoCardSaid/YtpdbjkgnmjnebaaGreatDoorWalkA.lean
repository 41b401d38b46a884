/- A part of the proof: what the functions compute. -/
import Derived.Test.YtpdbjkgnmjnebaaGreatDoorDataA
import Derived.Test.YtpdbjkgnmjnebaaGreatDoorExtA
set_option linter.all false
open Go.Proofs.Tryz renaming prog→fS
open Nat renaming reduceLeDiff→fT,reduceEqDiff→fU,reduceAdd→fX,reduceSub→fY,reduceBEq→fZ,reduceMul→ga,reduceLT→gh,le_trans→gp,le_of_eq→gq
open Int renaming reduceToNat→fV,reduceBEq→gb,reduceLE→gi,reduceLT→gj,reduceEq→gk
open Option renaming getD_some→fW
open List renaming replicate→gf
open Subtype renaming mk→gr
open Go.Code renaming seq→gu
open Go.Abs.AV renaming any→qA
noncomputable section
open Go.Proofs.Tryz
namespace Go.Abs
variable {m m2:Nat}
variable (n:Nat)
open Go.Proofs
attribute [go_sem] f96 f121 f123 f167 f105 f142 f224 f196 f241 f199 f103 f109 f173 f219 f261 f264 f55 f56 f75 f78 f193 f240 f140 f37 f38 f186 f187 f127 f315 f234 f302 f303 f277 f41 f42 f280 f200 f83 f94 f247 f249 f248 f205 f206 f152 f346 f251 f284 f213 f181 f183 f184 f51 f52 f53 f28 f39 f180 f104 f79 f171 f141 f274 f166 f225 f220 f77 f194 f195 f131 f297 f285 f276 f244 f84 f88 f85
set_option maxRecDepth 100000
set_option maxHeartbeats 4000000
@[reducible] def alc:mg Bool:=qj fS f96 n (pR fS [.tmp 2] p8)
def Pu:SC1 (alc n) oa 6:=mB
def Vg:=fu fun n=>(Pu n).1
def ajV:∀n:Nat,EE fS 96 oa p8 (Vg n):=GQ fun n=>F4 (Pu n) (gd li lj) func96 ntmps96 results96
@[reducible] def an3:mg Bool:=qj fS f121 n (pR fS [.tmp 2] p8)
def Vh:SC1 (an3 n) oa 6:=mB
def aah:=fu fun n=>(Vh n).1
def amy:∀n:Nat,EE fS 121 oa p8 (aah n):=GQ fun n=>F4 (Vh n) (gd li lj) func121 ntmps121 results121
@[reducible] def an4:mg Bool:=qj fS f123 n (pR fS [.tmp 2] p8)
def Vi:SC1 (an4 n) (nh lz.lU) 7:=mB
def aai:=fu fun n=>(Vi n).1
def amz:∀n:Nat,EE fS 123 (nh lz.lU) p8 (aai n):=GQ fun n=>F4 (Vi n) (gd li lj) func123 ntmps123 results123
def Pv:Ce:=⟨[],[],(zK::zA::zK::zK::oZ (py (py []))),[oA lO.row],none,none⟩
@[reducible] def ul:mg (TM×Unit):=qj fS f167 n (ams fS [] (xo (oaT false lO.row) vI) KQ 1) (vc:=tK [([0,1],Pv)]) (AI:=oR []) (AK:=oR [])
def afv:yB (ul n) [0,0,1,0,0,1]=true:=kX
def afw:DE (ul n) [0,0,1,0,0,1] 6 13 7 13 10 13 11 13/\DE (ul n) [0,0,1,0,0,1] 12 13 13 14 6 15 7 15/\DE (ul n) [0,0,1,0,0,1] 10 15 11 15 12 15 13 15/\R3 (ul n) [0,0,1,0,0,1] 14 15=true:=⟨⟨kX,kX,kX,kX⟩,⟨kX,kX,kX,kX⟩,⟨kX,kX,kX,kX⟩,kX⟩
attribute [go_sem] afv afw Pv
@[go_sem]abbrev Pw(v0 v1:Int)(r0:List lO)(c0:Nat):k9:=⟨(.nW 0 c0::qA::.int .i64 v0::.int .i64 v1::pg (pM (pM []))),[.nW false 5 (mp lO.cells r0)],1,[]⟩
abbrev Px:=Int->Int->(List lO)->Option (TM×Unit)
abbrev adJ(K:List Kt)(Z:Px):Prop:=∀v0 v1 r0 c0,c0=r0.length->run (ul n) K (Pw v0 v1 r0 c0)=Z v0 v1 r0
def Is:LB (adJ n) [0,1] [.wF 0]:=mB
def It:Nat->Px:=C4 ((Is n).1)
def ari{n:Nat}:It n (m+1)=(Is n).1 (It n m):=rfl
@[go_sem]def YD(m:Nat):=EV (Is n) (It n) m
def Q8:{B:(List lO)->Option (TM×Unit) //∀(a0:(List lO)),run (ul n) [.at []] (ini ((asA 0 (fun(b:TM)=>b.1.length) MJ).enc (a0,()) ()) 28 ((xo (oaT false lO.row) vI).enc (a0,())))=B a0}:=mB
def V3:=fu fun n=>(Q8 n).1
def adK:∀(n:Nat)(a0:(List lO))(r:(TM×Unit)),V3 n a0=some r->FnG fS 167 ((asA 0 (fun(b:TM)=>b.1.length) MJ).enc (a0,()) ()) ((xo (oaT false lO.row) vI).enc (a0,())) (fun o H'=>o=.ret (vJ (KQ.enc r.1 r.2))/\H'=(xo (oaT false lO.row) vI).enc r.1)
 |0,_,_,h=>by cases h
 |n+1,a0,r,h=>by
  exact zy (M:=ul n) ⟨li,lj,qW _,rX _,uh,ui,uG,uw⟩ func167 rfl rfl (by simp only[go_sem,fX,fY,fT,fU,fZ,ga,gh,gi,gj,fV,gb,gk]) ((xo (oaT false lO.row) vI).nb _ _) ntmps167 results167 (fun J hs=>Ze hs) (((Q8 n).2 a0).trans h)
@[reducible] def an5:mg Int:=qj fS f105 n (pR fS [.tmp 2] (oe .i64))
def aeW:SC1 (an5 n) (oe .i64) 6:=mB
def ai5:=fu fun n=>(aeW n).1
def amA:∀n:Nat,EE fS 105 (oe .i64) (oe .i64) (ai5 n):=GQ fun n=>F4 (aeW n) (gd li lj) func105 ntmps105 results105
@[go_sem]def Iu:Ce:=⟨[],[],(zT (nA mJ)::zK::py (zA::zK::zK::py (py (zA::zA::[])))),[],none,none⟩
@[reducible] def Q9:mg Int:=qj fS f142 n (pR fS [.tmp 4] (oe .i64)) (vc:=tK [([0,1,0,1],Iu)])
@[go_sem]abbrev Iv(v0:List lH)(v1:lH)(v2 v3:Int):k9:=⟨(.mj false 1 (mp mS v0)::.str (sb v1)::pM (qA::.int .i64 v2::.int .i64 v3::pM (pM (qA::qA::[])))),[],0,[]⟩
abbrev C6:=(List lH)->lH->Int->Int->Option Int
abbrev adL(K:List Kt)(Z:C6):Prop:=∀v0 v1 v2 v3,run (Q9 n) K (Iv v0 v1 v2 v3)=Z v0 v1 v2 v3
def z8:LB (adL n) [0,1,0,1] [.wF 0,.cut [1,1],.at [1,1]]:=mB
def C7:Nat->C6:=C4 ((z8 n).1)
def MV{n:Nat}:C7 n (m+1)=(z8 n).1 (C7 n m):=rfl
@[go_sem]def YE(m:Nat):=EV (z8 n) (C7 n) m
def JY:Vd (Q9 n) (nA mJ) oa 19:=mB
def Gi:=fu fun n=>(JY n).1
def adM:∀n:Nat,AW fS 142 (nA mJ) oa (oe .i64) (Gi n):=EW fun n=>CN (JY n) (gd li lj) func142 ntmps142 results142
open Go.Proofs
@[reducible] def Oe:mg Int:=qj fS f224 n (pR fS [.tmp 4] (oe .i64)) (vc:=tK [([0,1,0,1],Iu)])
abbrev aaj(K:List Kt)(Z:C6):Prop:=∀v0 v1 v2 v3,run (Oe n) K (Iv v0 v1 v2 v3)=Z v0 v1 v2 v3
def xV:LB (aaj n) [0,1,0,1] [.wF 0,.cut [1,1],.at [1,1]]:=mB
def xW:Nat->C6:=C4 ((xV n).1)
def K5{n:Nat}:xW n (m+1)=(xV n).1 (xW n m):=rfl
@[go_sem]def WO(m:Nat):=EV (xV n) (xW n) m
def GY:Vd (Oe n) (nA mJ) oa 19:=mB
def JZ:=fu fun n=>(GY n).1
def aak:∀n:Nat,AW fS 224 (nA mJ) oa (oe .i64) (JZ n):=EW fun n=>CN (GY n) (gd li lj) func224 ntmps224 results224
@[reducible] def arj:mg Bool:=qj fS f196 n (pR fS [.tmp 2] p8)
def aal:SC1 (arj n) (oe .u8) 21:=mB
def Zj:=fu fun n=>(aal n).1
def ap6:∀n:Nat,EE fS 196 (oe .u8) p8 (Zj n):=GQ fun n=>F4 (aal n) (gd li lj) func196 ntmps196 results196
@[reducible] def air:mg lH:=qj fS f241 n (pR fS [.tmp 2] (ajQ 274 (xM cS))) (cut:=aPo [([1,1],[0])])
def V4:SC1 (air n) oa 4:=mB
def Zk:=fu fun n=>(V4 n).1
def agM:∀n:Nat,EE fS 241 oa (ajQ 274 (xM cS)) (Zk n):=GQ fun n=>F4 (V4 n) (gd li lj) func241 ntmps241 results241
def qu:Bz:=(ayk [] (sub [0,1,0,1,1] ((f199.body).getD .skip)))
@[go_sem]def C8:qu.ps.size=1/\∀j:Int,sG qu.js j=none:=⟨kX,fun j=>(by show sG [] j=none;unfold sG auL;cases (j==0)<;>rfl)⟩
@[go_sem]def mE:=(vV (apT qu (alZ (nC 1 (F3 7 lX)))) (vV (EB (WM 2 lX)) (vV ogM Ex)))
@[go_sem]def oo:=(vV (ogL qu (alZ (nC 1 (F3 7 lX)))) (vV (EB (WM 2 lX)) (vV ogM Ex)))
def nX:mg (TD×(Bool×Unit)) where
 body:=.seq (V2 (sub [0,1,0,1,1] ((f199.body).getD .skip))) (aiq (sub [0,1,0,1,1] ((f199.body).getD .skip)))
 P:=fS
 cl:=oN []
 cd:=KO []
 vc:=tK []
 cut:=aPo []
 n:=n
 out:=(fun _=>none)
 pR:=Xk [] [] [0,1,2] 3 oo
 zV:=oR []
def Ud:(nX n).P=fS/\(nX n).cl=oN []/\(nX n).cd=KO []/\(nX n).vc=tK []/\(nX n).cut=aPo []/\(nX n).n=n/\(nX n).out=(fun _=>none)/\(nX n).pR=Xk [] [] [0,1,2] 3 oo/\(nX n).zV=oR []:=⟨rfl,rfl,rfl,rfl,rfl,rfl,rfl,rfl,rfl⟩
def Ue:(nX n).body=.seq (V2 (sub [0,1,0,1,1] ((f199.body).getD .skip))) (aiq (sub [0,1,0,1,1] ((f199.body).getD .skip))):=rfl
def Uf:gu (V2 (sub [0,1,0,1,1] ((f199.body).getD .skip))) (aiq (sub [0,1,0,1,1] ((f199.body).getD .skip)))=gu qu.assign qu.body:=kX
attribute [go_sem] Ud Ue C8
def HY:{B:lH->Ta->Option (TD×(Bool×Unit)) //∀(a0:lH)(o0:Ta),run (nX n) [.at [0],.rb,.at [1],.rd] {lE:=VY ((alZ (nC 1 (F3 7 lX))).enc (mE.nS ((),(),o0,())) ()) [5] ((nu oa lX).enc (mE.nS ((),(),o0,())) (a0,())),heap:=(mE.enc (mE.nS ((),(),o0,())) ((),(),o0,())),low:=(mE.enc (mE.nS ((),(),o0,())) ((),(),o0,())).length}=B a0 o0}:=mB
def Ko:=fu fun n=>(HY n).1
def Sb:∀(n:Nat)(a0:lH)(o0:Ta)(r:(TD×(Bool×Unit))),Ko n a0 o0=some r->FnT fS (Xc fS) ((nu oa lX).enc (mE.nS ((),(),o0,())) (a0,())) (mE.enc (mE.nS ((),(),o0,())) ((),(),o0,())) (fun o H'=>o=.ret (vJ ((nu p8 lX).enc (oo.nS r.1) r.2))/\H'=oo.enc (oo.nS r.1) r.1)
 |0,_,_,_,h=>by cases h
 |n+1,a0,o0,r,h=>by
  exact akQ (M:=nX n) (lk:=qu) (lE:=((alZ (nC 1 (F3 7 lX))).enc (mE.nS ((),(),o0,())) ())) ⟨li,lj,qW _,rX _,uh,ui,uG,uw⟩ Uf (kX) ⟨kX,kX⟩ rfl (uT (gp (kT (kX)) (gq (mE.sz _ _).symm)) _ ((nu oa lX).nb _ _)) (fun x hx=>DD (gp (kT (kX)) (gq (mE.sz _ _).symm)) _ (mE.nb _ _ x hx)) (fun e J hs=>agF (js:=[]) (pos:=[]) (base:=[0,1,2]) (low:=3) (os:=oo) (e:=e) (J:=J) (r:=r) (by rfl) hs) (((HY n).2 a0 o0).trans h)
@[reducible] def atZ:mg lO:=qj fS f103 n (pR fS [.tmp 2] (ajQ 164 (xM lO.lU))) (cut:=aPo [([1,1],[0])])
def ald:SC1 (atZ n) (nh lO.lU) 4:=mB
def ajW:=fu fun n=>(ald n).1
def ai6:∀n:Nat,EE fS 103 (nh lO.lU) (ajQ 164 (xM lO.lU)) (ajW n):=GQ fun n=>F4 (ald n) (gd li lj) func103 ntmps103 results103
@[reducible] def awU:mg (Ey lM 13):=qj fS f165 n (pR fS [.cell 0 237] (nh (cA lM.lU 5 13)))
def anv:SC0 (awU n) 15:=by
 apply gr;simp (config:={maxSteps:=100000000}) only[go_sem,fX,fY,fT,fU,fZ,ga,gh,gi,gj,fV,gb,gk,f165,fW,mixed,aae];exact rfl
def amB:=fu fun n=>(anv n).1
def ale:∀n:Nat,aB3 fS 165 (nh (cA lM.lU 5 13)) (amB n):=aJ3 fun n=>aJ2 (anv n) (gd li lj) func165 ntmps165 results165
open Go.Proofs
def qh:Bz:=(ayk [(1,.ret)] (sub [0,1,0,1,1] ((f109.body).getD .skip)))
@[go_sem]def BH:qh.ps.size=2/\∀j:Int,sG qh.js j=bif j==0 then none else some .ret:=⟨kX,fun j=>rfl⟩
def qD:=(nu (oe .i64) (nu (nh lO.lU) lX))
def mP:=(vV (apT qh (F3 3 (nC 1 (nC 2 (F3 25 lX))))) (vV (EB (V1 (cI .i64) 1 lX)) (vV (EB (V1 cB 1 lX)) Ex)))
def pz:=(vV (ogL qh (F3 3 (nC 1 (nC 2 (F3 25 lX))))) (vV (EB (V1 (cI .i64) 1 lX)) (vV (EB (V1 cB 1 lX)) Ex)))
attribute [go_sem] qD mP pz
def oS:mg (Tg×(Bool×Unit)) where
 body:=.seq (V2 (sub [0,1,0,1,1] ((f109.body).getD .skip))) (aiq (sub [0,1,0,1,1] ((f109.body).getD .skip)))
 P:=fS
 cl:=oN []
 cd:=KO []
 vc:=tK []
 cut:=aPo []
 n:=n
 out:=(fun _=>none)
 pR:=Xk [(1,.ret)] [] [0,1,2] 3 pz
 zV:=oR []
def Xq:(oS n).P=fS/\(oS n).cl=oN []/\(oS n).cd=KO []/\(oS n).vc=tK []/\(oS n).cut=aPo []/\(oS n).n=n/\(oS n).out=(fun _=>none)/\(oS n).pR=Xk [(1,.ret)] [] [0,1,2] 3 pz/\(oS n).zV=oR []:=⟨rfl,rfl,rfl,rfl,rfl,rfl,rfl,rfl,rfl⟩
def Xr:(oS n).body=.seq (V2 (sub [0,1,0,1,1] ((f109.body).getD .skip))) (aiq (sub [0,1,0,1,1] ((f109.body).getD .skip))):=rfl
def Xs:gu (V2 (sub [0,1,0,1,1] ((f109.body).getD .skip))) (aiq (sub [0,1,0,1,1] ((f109.body).getD .skip)))=gu qh.assign qh.body:=kX
attribute [go_sem] Xq Xr BH
def K6:{B:Int->lO->Int->Bool->Option (Tg×(Bool×Unit)) //∀(a0:Int)(a1:lO)(o0:Int)(o1:Bool),run (oS n) [.at [0],.rb,.at [1],.rd] {lE:=VY ((F3 3 (nC 1 (nC 2 (F3 25 lX)))).enc (mP.nS ((),(o0,()),(o1,()),())) ()) [11,12] (qD.enc (mP.nS ((),(o0,()),(o1,()),())) (a0,a1,())),heap:=(mP.enc (mP.nS ((),(o0,()),(o1,()),())) ((),(o0,()),(o1,()),())),low:=(mP.enc (mP.nS ((),(o0,()),(o1,()),())) ((),(o0,()),(o1,()),())).length}=B a0 a1 o0 o1}:=mB
def MW:=fu fun n=>(K6 n).1
def WP:∀(n:Nat)(a0:Int)(a1:lO)(o0:Int)(o1:Bool)(r:(Tg×(Bool×Unit))),MW n a0 a1 o0 o1=some r->FnT fS (Xc fS) (qD.enc (mP.nS ((),(o0,()),(o1,()),())) (a0,a1,())) (mP.enc (mP.nS ((),(o0,()),(o1,()),())) ((),(o0,()),(o1,()),())) (fun o H'=>o=.ret (vJ ((nu p8 lX).enc (pz.nS r.1) r.2))/\H'=pz.enc (pz.nS r.1) r.1)
 |0,_,_,_,_,_,h=>by cases h
 |n+1,a0,a1,o0,o1,r,h=>by
  exact akQ (M:=oS n) (lk:=qh) (lE:=((F3 3 (nC 1 (nC 2 (F3 25 lX)))).enc (mP.nS ((),(o0,()),(o1,()),())) ())) ⟨li,lj,qW _,rX _,uh,ui,uG,uw⟩ Xs (kX) ⟨kX,kX⟩ rfl (uT (gp (kT (kX)) (gq (mP.sz _ _).symm)) _ (qD.nb _ _)) (fun x hx=>DD (gp (kT (kX)) (gq (mP.sz _ _).symm)) _ (mP.nb _ _ x hx)) (fun e J hs=>agF (js:=[(1,.ret)]) (pos:=[]) (base:=[0,1,2]) (low:=3) (os:=pz) (e:=e) (J:=J) (r:=r) (by rfl) hs) (((K6 n).2 a0 a1 o0 o1).trans h)
@[reducible] def abF:mg Bool:=qj fS f173 n (pR fS [.tmp 2] p8)
def Of:SC1 (abF n) (nh l5.lU) 6:=mB
def Ra:=fu fun n=>(Of n).1
def aam:∀n:Nat,EE fS 173 (nh l5.lU) p8 (Ra n):=GQ fun n=>F4 (Of n) (gd li lj) func173 ntmps173 results173
@[reducible] def alf:mg mm:=qj fS f219 n (pR fS [.tmp 2] (ajQ 259 (xM mm.lU))) (cut:=aPo [([1,1],[0])])
def Zl:SC1 (alf n) (nh mm.lU) 4:=mB
def aeX:=fu fun n=>(Zl n).1
def ajX:∀n:Nat,EE fS 219 (nh mm.lU) (ajQ 259 (xM mm.lU)) (aeX n):=GQ fun n=>F4 (Zl n) (gd li lj) func219 ntmps219 results219
@[reducible] def ww:mg (Tm×Unit):=qj fS f261 n (avZ fS [.tmp 2] 0 mJ (rsA 0 (fun(b:Tm)=>b.1.length) KQ))
def GZ:{B:lH->List lH->Option (Tm×Unit) //∀x xs,run (ww n) [.at []] {lE:=[(nA mJ).enc (x::xs)]++gf 7 qA,heap:=[],low:=0}=B x xs}:=by
 apply gr;intro x xs;simp (config:={maxSteps:=100000000}) only[go_sem,fX,fY,fT,fU,fZ,ga,gh,gi,gj,fV,gb,gk,f261,fW,mixed];exact rfl
def aan(c:Nat):run (ww n) [.at []] {lE:=[.uS (.slice none 0 c)]++gf 7 qA,heap:=[],low:=0}=some (([],()),()):=by simp (config:={maxSteps:=100000000}) only[go_sem,fX,fY,fT,fU,fZ,ga,gh,gi,gj,fV,gb,gk,f261,fW,mixed]
def aao(a:Addr)(c:Nat):run (ww n) [.at []] {lE:=[.uS (.slice (some a) 0 c)]++gf 7 qA,heap:=[],low:=0}=some (([],()),()):=by simp (config:={maxSteps:=100000000}) only[go_sem,fX,fY,fT,fU,fZ,ga,gh,gi,gj,fV,gb,gk,f261,fW,mixed]
def A9:Nat->(List lH)->Option (Tm×Unit)
 |0,_=>none
 |_+1,[]=>some (([],()),())
 |n+1,x::xs=>(GZ n).1 x xs
def aap:∀(n:Nat)(a0:(List lH))(r:(Tm×Unit)),A9 n a0=some r->FnG fS 261 (((asT (nA mJ) MJ):Mb Unit _).enc () (a0,())) (vI.enc ()) (fun o H'=>o=.ret (vJ ((rsA 0 (fun(b:Tm)=>b.1.length) KQ).enc r.1 r.2))/\H'=(xo (oaT true mJ) vI).enc r.1)
 |0,_,_,h=>by cases h
 |n+1,[],r,h=>by
  cases h
  exact agJ fun base c=>by
   cases base with
   |none=>exact zy (M:=ww n) ⟨li,lj,qW _,rX _,uh,ui,uG,uw⟩ func261 rfl rfl ⟨trivial,trivial⟩ (fun _ h=>by cases h) ntmps261 results261 (fun J hs=>WL hs) (aan n c)
   |some a=>exact zy (M:=ww n) ⟨li,lj,qW _,rX _,uh,ui,uG,uw⟩ func261 rfl rfl ⟨trivial,trivial⟩ (fun _ h=>by cases h) ntmps261 results261 (fun J hs=>WL hs) (aao n a c)
 |n+1,x::xs,r,h=>by
  exact zy (M:=ww n) ⟨li,lj,qW _,rX _,uh,ui,uG,uw⟩ func261 rfl rfl ⟨(nA mJ).nb 0 _,trivial⟩ (vI.nb _ _) ntmps261 results261 (fun J hs=>WL hs) (((GZ n).2 x xs).trans h)
@[go_sem]def Xt:Ce:=⟨[],[],(zA::zK::zA::zK::oZ (py (zA::zA::zA::zT (nA qY.row)::zK::zK::oZ (py (py (py (zA::zA::zA::[]))))))),[oT nB.lU,oA mJ],none,none⟩
@[go_sem]def Xu:Ce:=⟨[(3,1,true)],[],(zA::zA::zA::zK::oZ (oZ (py (py (py (zT (nA wW.row)::zK::zK::py (py (zA::zA::[])))))))),[oD,oA mJ],none,none⟩
@[reducible] def Py:mg (List lH):=qj fS f264 n (pR fS [.tmp 2] (nA mJ)) (vc:=tK [([0,1,0,1,0,1,1,1,0,1,0,1,1],Xt),([0,1,0,1,1,1,1,1,0,1,0,1,1],Xu)])
abbrev Xv(v0:List qY)(v1 v2:Int)(o0:nB)(r1:List lH)(c1:Nat):k9:=⟨(qA::.ptr 0 0::qA::.nW 1 c1::pg (pM (qA::qA::qA::.mj false 6 (mp qY.cells v0)::.int .i64 v1::.int .i64 v2::pg (pM (pM (pM (qA::qA::qA::[]))))))),[.cells (nB.cells o0),.nW true 1 (mp mS r1)],0,[]⟩
abbrev Xw:List Kt:=[.wF 1,.cut [1,1,0,1,1,1,0,1,0,1,1],.at [1,1,0,1,1,1,0,1,0,1,1],.wF 0,.cut [1,1,1],.at [1,1,1]]
abbrev Xx:=(List qY)->Int->Int->nB->(List lH)->Option (List lH)
abbrev ajY(K:List Kt)(Z:Xx):Prop:=∀v0 v1 v2 o0 r1 c1,c1=r1.length->run (Py n) K (Xv v0 v1 v2 o0 r1 c1)=Z v0 v1 v2 o0 r1
abbrev Xy(v0:List wW)(v1 v2:Int)(r1:List lH)(c1:Nat):k9:=⟨(qA::qA::qA::.nW 1 c1::pg (pg (pM (pM (pM (.mj false 15 (mp wW.cells v0)::.int .i64 v1::.int .i64 v2::pM (pM (qA::qA::[])))))))),[.zU,.nW true 1 (mp mS r1)],0,[]⟩
abbrev Xz:=(List wW)->Int->Int->(List lH)->Option (List lH)
abbrev ajZ(K:List Kt)(Z:Xz):Prop:=∀v0 v1 v2 r1 c1,c1=r1.length->run (Py n) K (Xy v0 v1 v2 r1 c1)=Z v0 v1 v2 r1
attribute [go_sem] Xv Xw Xy
def NJ:LB (ajY n) [0,1,0,1,0,1,1,1,0,1,0,1,1] Xw:=mB
def NK:Nat->Xx:=C4 ((NJ n).1)
def awV{n:Nat}:NK n (m+1)=(NJ n).1 (NK n m):=rfl
@[go_sem]def afx(m:Nat):=EV (NJ n) (NK n) m
def NL:LB (ajZ n) [0,1,0,1,1,1,1,1,0,1,0,1,1] [.wF 3,.wF 0,.cut [1,1,1],.at [1,1,1]]:=mB
def NM:Nat->Xz:=C4 ((NL n).1)
def awW{n:Nat}:NM n (m+1)=(NL n).1 (NM n m):=rfl
@[go_sem]def afy(m:Nat):=EV (NL n) (NM n) m
def Zm:SC1 (Py n) (nh nB.lU) 61:=mB
def aeY:=fu fun n=>(Zm n).1
def aj0:∀n:Nat,EE fS 264 (nh nB.lU) (nA mJ) (aeY n):=GQ fun n=>F4 (Zm n) (gd li lj) func264 ntmps264 results264
@[go_sem]def V5:Ce:=⟨[],[],(zA::zA::zA::zK::zK::py (zA::zA::zT (nA k7.row)::zK::zK::py (zT (nA mJ)::zK::zK::oZ []))),[oK,oA mJ],none,none⟩
@[go_sem]def V6:Ce:=⟨[(4,1,true)],[],(zA::zA::zA::zK::zK::py (zA::zA::zT (nA k7.row)::zK::zK::oZ (py (zA::zA::zA::[])))),[oK,oA mJ],none,none⟩
@[reducible] def NN:mg (List lH):=qj fS f55 n (pR fS [.tmp 2] (nA mJ)) (vc:=tK [([0,1,1,0,0,1,1,0,0,1,0,1,1,1],V5),([0,1,0,1,1,1],V6)])
abbrev V7(v0:List k7)(v1 v2:Int)(v3:List lH)(v4 v5:Int)(r0:List (lH×Bool))(r1:List lH)(c1:Nat):k9:=⟨(qA::qA::qA::.map 0::.nW 1 c1::pM (qA::qA::.mj false 4 (mp k7.cells v0)::.int .i64 v1::.int .i64 v2::pM (.mj false 1 (mp mS v3)::.int .i64 v4::.int .i64 v5::pg []))),[.map (mp K2 r0),.nW true 1 (mp mS r1)],0,[]⟩
abbrev V8(m2:Nat):List Kt:=[.wF 2,.wF 1,.cut [1,1,1,0,0,1,0,1,1,1],.at [1,1,1,0,0,1,0,1,1,1],.lp m2 [0,1,0,1,1,1],.wF 0,.cut [1,1,1,1],.at [1,1,1,1]]
abbrev V9:=(List k7)->Int->Int->(List lH)->Int->Int->Ta->(List lH)->Option (List lH)
abbrev ais(K:List Kt)(Z:V9):Prop:=∀v0 v1 v2 v3 v4 v5 r0 r1 c1,c1=r1.length->run (NN n) K (V7 v0 v1 v2 v3 v4 v5 r0 r1 c1)=Z v0 v1 v2 v3 v4 v5 r0 r1
abbrev Wa(v0:List k7)(v1 v2:Int)(r0:List (lH×Bool))(r1:List lH)(c1:Nat):k9:=⟨(qA::qA::qA::.map 0::.nW 1 c1::pM (qA::qA::.mj false 4 (mp k7.cells v0)::.int .i64 v1::.int .i64 v2::pg (pM (qA::qA::qA::[])))),[.map (mp K2 r0),.nW true 1 (mp mS r1)],0,[]⟩
abbrev Gj:=(List k7)->Int->Int->Ta->(List lH)->Option (List lH)
abbrev Mx(K:List Kt)(Z:Gj):Prop:=∀v0 v1 v2 r0 r1 c1,c1=r1.length->run (NN n) K (Wa v0 v1 v2 r0 r1 c1)=Z v0 v1 v2 r0 r1
attribute [go_sem] V7 V8 Wa
def CP:LB2 (Mx n) [0,1,0,1,1,1] [.wF 0,.cut [1,1,1,1],.at [1,1,1,1]] (ais n) [0,1,1,0,0,1,1,0,0,1,0,1,1,1] V8:=mB
def Gk(X2:Gj):Nat->V9:=C4 ((CP n).1 X2)
def Rb{n:Nat}(X2:Gj):Gk n X2 (m+1)=(CP n).1 X2 (Gk n X2 m):=rfl
def adN{X2}(h2:Mx n (.lq m2 [0,1,0,1,1,1]::[.wF 0,.cut [1,1,1,1],.at [1,1,1,1]]) X2)(m:Nat):=aB2 (CP n) h2 (Gk n X2) m
def CQ:LB (Mx n) [0,1,0,1,1,1] [.wF 0,.cut [1,1,1,1],.at [1,1,1,1]]:=by
 apply gr;intro m X0 ih v0 v1 v2 r0 r1 c1 ec1;subst ec1;simp (config:={maxSteps:=100000000}) only[go_sem,fX,fY,fT,fU,fZ,ga,gh,gi,gj,fV,gb,gk,f55,fW,mixed,adN n ih,ih];exact rfl
def Gl:Nat->Gj:=C4 ((CQ n).1)
def Rc{n:Nat}:Gl n (m+1)=(CQ n).1 (Gl n m):=rfl
@[go_sem]def adO(m:Nat):=EV (CQ n) (Gl n) m
def NO:SC1 (NN n) (nA k7.row) 37:=mB
def Bu:=fu fun n=>(NO n).1
def My:∀n:Nat,EE fS 55 (nA k7.row) (nA mJ) (Bu n):=GQ fun n=>F4 (NO n) (gd li lj) func55 ntmps55 results55
open Go.Proofs
def pS:Bz:=(ayk [] (sub [0,1,0,1,1,1] ((f56.body).getD .skip)))
@[go_sem]def Aa:pS.ps.size=2/\∀j:Int,sG pS.js j=none:=⟨kX,fun j=>(by show sG [] j=none;unfold sG auL;cases (j==0)<;>rfl)⟩
@[go_sem]def mH:=(vV (apT pS (F3 3 (nC 1 (nC 2 (F3 26 lX))))) (vV (EB (WM 3 lX)) (vV (EB (alA 4 lX)) (vV ogM (vV (ogA true mJ) Ex)))))
@[go_sem]def oz:=(vV (ogL pS (F3 3 (nC 1 (nC 2 (F3 26 lX))))) (vV (EB (WM 3 lX)) (vV (EB (alA 4 lX)) (vV ogM (vV (ogA true mJ) Ex)))))
def ol:mg (Tf×(Bool×Unit)) where
 body:=.seq (V2 (sub [0,1,0,1,1,1] ((f56.body).getD .skip))) (aiq (sub [0,1,0,1,1,1] ((f56.body).getD .skip)))
 P:=fS
 cl:=oN []
 cd:=KO []
 vc:=tK []
 cut:=aPo []
 n:=n
 out:=(fun _=>none)
 pR:=Xk [] [] [0,1,2,3,4] 5 oz
 zV:=oR []
def Vj:(ol n).P=fS/\(ol n).cl=oN []/\(ol n).cd=KO []/\(ol n).vc=tK []/\(ol n).cut=aPo []/\(ol n).n=n/\(ol n).out=(fun _=>none)/\(ol n).pR=Xk [] [] [0,1,2,3,4] 5 oz/\(ol n).zV=oR []:=⟨rfl,rfl,rfl,rfl,rfl,rfl,rfl,rfl,rfl⟩
def Vk:(ol n).body=.seq (V2 (sub [0,1,0,1,1,1] ((f56.body).getD .skip))) (aiq (sub [0,1,0,1,1,1] ((f56.body).getD .skip))):=rfl
def Vl:gu (V2 (sub [0,1,0,1,1,1] ((f56.body).getD .skip))) (aiq (sub [0,1,0,1,1,1] ((f56.body).getD .skip)))=gu pS.assign pS.body:=kX
attribute [go_sem] Vj Vk Aa
def Jn:{B:Int->lO->Ta->(List lH)->Option (Tf×(Bool×Unit)) //∀(a0:Int)(a1:lO)(o0:Ta)(o1:(List lH)),run (ol n) [.at [0],.rb,.at [1],.rd] {lE:=VY ((F3 3 (nC 1 (nC 2 (F3 26 lX)))).enc (mH.nS ((),(),(),o0,o1,())) ()) [10,11] (qD.enc (mH.nS ((),(),(),o0,o1,())) (a0,a1,())),heap:=(mH.enc (mH.nS ((),(),(),o0,o1,())) ((),(),(),o0,o1,())),low:=(mH.enc (mH.nS ((),(),(),o0,o1,())) ((),(),(),o0,o1,())).length}=B a0 a1 o0 o1}:=mB
def K7:=fu fun n=>(Jn n).1
def Ug:∀(n:Nat)(a0:Int)(a1:lO)(o0:Ta)(o1:(List lH))(r:(Tf×(Bool×Unit))),K7 n a0 a1 o0 o1=some r->FnT fS (Xc fS) (qD.enc (mH.nS ((),(),(),o0,o1,())) (a0,a1,())) (mH.enc (mH.nS ((),(),(),o0,o1,())) ((),(),(),o0,o1,())) (fun o H'=>o=.ret (vJ ((nu p8 lX).enc (oz.nS r.1) r.2))/\H'=oz.enc (oz.nS r.1) r.1)
 |0,_,_,_,_,_,h=>by cases h
 |n+1,a0,a1,o0,o1,r,h=>by
  exact akQ (M:=ol n) (lk:=pS) (lE:=((F3 3 (nC 1 (nC 2 (F3 26 lX)))).enc (mH.nS ((),(),(),o0,o1,())) ())) ⟨li,lj,qW _,rX _,uh,ui,uG,uw⟩ Vl (kX) ⟨kX,kX⟩ rfl (uT (gp (kT (kX)) (gq (mH.sz _ _).symm)) _ (qD.nb _ _)) (fun x hx=>DD (gp (kT (kX)) (gq (mH.sz _ _).symm)) _ (mH.nb _ _ x hx)) (fun e J hs=>agF (js:=[]) (pos:=[]) (base:=[0,1,2,3,4]) (low:=5) (os:=oz) (e:=e) (J:=J) (r:=r) (by rfl) hs) (((Jn n).2 a0 a1 o0 o1).trans h)
@[go_sem]def nq:=(vV (EB (WM 1 (WM 2 (WM 3 (nu (oe .i64) lX))))) (vV (an0 (nh k7.lU)) (vV (an0 (nh k7.lU)) (vV ogM Ex))))
@[go_sem]abbrev Gm(F:Option (T7×Unit))(b:Unit)(a:Unit):=F
@[go_sem]def Wb(F:Option (T7×Unit)):=Im [] Ex lX nq (nC 0 lX) (Gm F)
@[reducible] def ait:mg (T7×Unit):=qj fS f75 n (yK fS [.tmp 0] [.arg 0 [],.yj 0 0 [],.yj 0 1 [],.yj 0 2 []] [] 0 nq (nC 0 lX))
def Mz:SX (ait n) lX Ex 6 Gm:=mC
def Kp:=fu fun n=>(Mz n).1
def agN:∀n:Nat,AX fS 75 lX Ex nq (nC 0 lX) (Gm (Kp n)):=Ve fun n=>GR (Mz n) (gd li lj) func75 ntmps75 results75
@[reducible] def an6:mg Bool:=qj fS f78 n (pR fS [.tmp 2] p8)
def Vm:SC1 (an6 n) (nh k7.lU) 8:=mB
def DA:=fu fun n=>(Vm n).1
def G1:∀n:Nat,EE fS 78 (nh k7.lU) p8 (DA n):=GQ fun n=>F4 (Vm n) (gd li lj) func78 ntmps78 results78
@[reducible] def ark:mg Int:=qj fS f193 n (pR fS [.tmp 2] (oe .i64))
def aaq:SC1 (ark n) (oe .u8) 28:=mB
def HZ:=fu fun n=>(aaq n).1
def K8:∀n:Nat,EE fS 193 (oe .u8) (oe .i64) (HZ n):=GQ fun n=>F4 (aaq n) (gd li lj) func193 ntmps193 results193
def Pz:Ce:=⟨[],[],(zK::py (py (zK::zK::zA::zK::Ip (oZ (py (py (py (zA::[])))))))),[oA mJ],none,none⟩
def Zn:Ce:=⟨[],[],(zK::py (py (zK::zK::zK::zK::Ip (oZ (py (py (py (zA::[])))))))),[oA mJ],none,none⟩
def Zo:Ce:=⟨[],[],(zK::zA::zA::zK::zK::zK::zK::Ip (oZ (oZ (zA::zA::zA::[])))),[],none,none⟩
@[reducible] def L2:mg (List lH):=qj fS f240 n (pR fS [.tmp 2] (nA mJ)) (vc:=tK [([0,0,1,1,1,1,0,1,0,0,0,1,1,1,1,1,1,1,1,1,1,1,1],Pz),([0,0,1,1,1,1,1,1,1,1,1,1,1,1],Zn),([0,0,1,1,1,1,1,1,1,1,1,1],Pz),([0,1,0,1,1,1,1],Zo)])
attribute [go_sem] Pz Zn Zo
abbrev Zp(v0:lH)(v1 v2:Int)(r0:List lH)(c0:Nat):k9:=⟨(.str (sb v0)::pM (pM (.nW 0 c0::.int .i64 v1::qA::.int .i64 v2::Io (pg (pM (pM (pM (qA::[])))))))),[.nW false 1 (mp mS r0)],0,[]⟩
abbrev Zq(m2:Nat):List Kt:=[.wF 6,.cut [1,1,1,1,1,0,1,0,0,0,1,1,1,1,1,1,1,1,1,1,1,1],.at [1,1,1,1,1,0,1,0,0,0,1,1,1,1,1,1,1,1,1,1,1,1],.wF 5,.lp m2 [0,0,1,1,1,1,1,1,1,1,1,1,1,1],.wF 4,.cut [1,1,1,1,1,1,1,1,1,1,1,1,1],.at [1,1,1,1,1,1,1,1,1,1,1,1,1]]
abbrev PA:=lH->Int->Int->(List lH)->Option (List lH)
abbrev Zr(K:List Kt)(Z:PA):Prop:=∀v0 v1 v2 r0 c0,c0=r0.length->run (L2 n) K (Zp v0 v1 v2 r0 c0)=Z v0 v1 v2 r0
abbrev Zs(v0:lH)(v1 v2 v3:Int)(r0:List lH)(c0:Nat):k9:=⟨(.str (sb v0)::pM (pM (.nW 0 c0::.int .i64 v1::.int .i64 v2::.int .i64 v3::Io (pg (pM (pM (pM (qA::[])))))))),[.nW false 1 (mp mS r0)],0,[]⟩
abbrev Kq:List Kt:=[.wF 4,.cut [1,1,1,1,1,1,1,1,1,1,1,1,1],.at [1,1,1,1,1,1,1,1,1,1,1,1,1]]
abbrev Kr:=lH->Int->Int->Int->(List lH)->Option (List lH)
abbrev PB(K:List Kt)(Z:Kr):Prop:=∀v0 v1 v2 v3 r0 c0,c0=r0.length->run (L2 n) K (Zs v0 v1 v2 v3 r0 c0)=Z v0 v1 v2 v3 r0
abbrev Zt:List Kt:=[.wF 2,.cut [1,1,1,1,1,1,1,1,1,1,1],.at [1,1,1,1,1,1,1,1,1,1,1]]
abbrev Zu(v0:lH)(v1 v2 v3 v4:Int):k9:=⟨(.str (sb v0)::qA::qA::.int .i64 v1::.int .i64 v2::.int .u8 v3::.int .i64 v4::Io (pg (pg (qA::qA::qA::[])))),[],0,[]⟩
abbrev Zv:=lH->Int->Int->Int->Int->Option (List lH)
abbrev alg(K:List Kt)(Z:Zv):Prop:=∀v0 v1 v2 v3 v4,run (L2 n) K (Zu v0 v1 v2 v3 v4)=Z v0 v1 v2 v3 v4
attribute [go_sem] Zp Zq Zs Kq Zt Zu
def PC:LB2 (PB n) [0,0,1,1,1,1,1,1,1,1,1,1,1,1] Kq (Zr n) [0,0,1,1,1,1,0,1,0,0,0,1,1,1,1,1,1,1,1,1,1,1,1] Zq:=mB
def PD(X2:Kr):Nat->PA:=C4 ((PC n).1 X2)
def axG{n:Nat}(X2:Kr):PD n X2 (m+1)=(PC n).1 X2 (PD n X2 m):=rfl
def agO{X2}(h2:PB n (.lq m2 [0,0,1,1,1,1,1,1,1,1,1,1,1,1]::Kq) X2)(m:Nat):=aB2 (PC n) h2 (PD n X2) m
def PF:LB (PB n) [0,0,1,1,1,1,1,1,1,1,1,1,1,1] Kq:=by
 apply gr;intro m X0 ih v0 v1 v2 v3 r0 c0 ec0;subst ec0;simp (config:={maxSteps:=100000000}) only[go_sem,fX,fY,fT,fU,fZ,ga,gh,gi,gj,fV,gb,gk,f240,fW,mixed,agO n ih,ih];exact rfl
def PH:Nat->Kr:=C4 ((PF n).1)
def axH{n:Nat}:PH n (m+1)=(PF n).1 (PH n m):=rfl
@[go_sem]def agP(m:Nat):=EV (PF n) (PH n) m
def PI:LB (Zr n) [0,0,1,1,1,1,1,1,1,1,1,1] Zt:=mB
def PJ:Nat->PA:=C4 ((PI n).1)
def axI{n:Nat}:PJ n (m+1)=(PI n).1 (PJ n m):=rfl
@[go_sem]def agQ(m:Nat):=EV (PI n) (PJ n) m
def PK:LB (alg n) [0,1,0,1,1,1,1] [.wF 0,.cut [1,1,1,1,1],.at [1,1,1,1,1]]:=mB
def PL:Nat->Zv:=C4 ((PK n).1)
def axJ{n:Nat}:PL n (m+1)=(PK n).1 (PL n m):=rfl
@[go_sem]def agR(m:Nat):=EV (PK n) (PL n) m
def abG:SC1 (L2 n) oa 106:=mB
def agS:=fu fun n=>(abG n).1
def alh:∀n:Nat,EE fS 240 oa (nA mJ) (agS n):=GQ fun n=>F4 (abG n) (gd li lj) func240 ntmps240 results240
@[reducible] def amC:mg Bool:=qj fS f140 n (pR fS [.tmp 2] p8)
def Sc:SC1 (amC n) (nh k7.lU) 12:=mB
def BW:=fu fun n=>(Sc n).1
def EY:∀n:Nat,EE fS 140 (nh k7.lU) p8 (BW n):=GQ fun n=>F4 (Sc n) (gd li lj) func140 ntmps140 results140
open Go.Proofs
@[reducible] def uQ:mg (Tm×Unit):=qj fS f37 n (avZ fS [.tmp 2] 0 mJ (rsA 0 (fun(b:Tm)=>b.1.length) KQ))
def Mc:{B:lH->List lH->Option (Tm×Unit) //∀x xs,run (uQ n) [.at []] {lE:=[(nA mJ).enc (x::xs)]++gf 7 qA,heap:=[],low:=0}=B x xs}:=by
 apply gr;intro x xs;simp (config:={maxSteps:=100000000}) only[go_sem,fX,fY,fT,fU,fZ,ga,gh,gi,gj,fV,gb,gk,f37,fW,mixed];exact rfl
def XA(c:Nat):run (uQ n) [.at []] {lE:=[.uS (.slice none 0 c)]++gf 7 qA,heap:=[],low:=0}=some (([],()),()):=by simp (config:={maxSteps:=100000000}) only[go_sem,fX,fY,fT,fU,fZ,ga,gh,gi,gj,fV,gb,gk,f37,fW,mixed]
def XB(a:Addr)(c:Nat):run (uQ n) [.at []] {lE:=[.uS (.slice (some a) 0 c)]++gf 7 qA,heap:=[],low:=0}=some (([],()),()):=by simp (config:={maxSteps:=100000000}) only[go_sem,fX,fY,fT,fU,fZ,ga,gh,gi,gj,fV,gb,gk,f37,fW,mixed]
def G2:Nat->(List lH)->Option (Tm×Unit)
 |0,_=>none
 |_+1,[]=>some (([],()),())
 |n+1,x::xs=>(Mc n).1 x xs
def K9:∀(n:Nat)(a0:(List lH))(r:(Tm×Unit)),G2 n a0=some r->FnG fS 37 (((asT (nA mJ) MJ):Mb Unit _).enc () (a0,())) (vI.enc ()) (fun o H'=>o=.ret (vJ ((rsA 0 (fun(b:Tm)=>b.1.length) KQ).enc r.1 r.2))/\H'=(xo (oaT true mJ) vI).enc r.1)
 |0,_,_,h=>by cases h
 |n+1,[],r,h=>by
  cases h
  exact agJ fun base c=>by
   cases base with
   |none=>exact zy (M:=uQ n) ⟨li,lj,qW _,rX _,uh,ui,uG,uw⟩ func37 rfl rfl ⟨trivial,trivial⟩ (fun _ h=>by cases h) ntmps37 results37 (fun J hs=>WL hs) (XA n c)
   |some a=>exact zy (M:=uQ n) ⟨li,lj,qW _,rX _,uh,ui,uG,uw⟩ func37 rfl rfl ⟨trivial,trivial⟩ (fun _ h=>by cases h) ntmps37 results37 (fun J hs=>WL hs) (XB n a c)
 |n+1,x::xs,r,h=>by
  exact zy (M:=uQ n) ⟨li,lj,qW _,rX _,uh,ui,uG,uw⟩ func37 rfl rfl ⟨(nA mJ).nb 0 _,trivial⟩ (vI.nb _ _) ntmps37 results37 (fun J hs=>WL hs) (((Mc n).2 x xs).trans h)
@[reducible] def uR:mg (TH×Unit):=qj fS f38 n (avZ fS [.tmp 2] 0 k7.row (rsA 0 (fun(b:TH)=>b.1.length) KQ))
def Md:{B:k7->List k7->Option (TH×Unit) //∀x xs,run (uR n) [.at []] {lE:=[(nA k7.row).enc (x::xs)]++gf 7 qA,heap:=[],low:=0}=B x xs}:=by
 apply gr;intro x xs;simp (config:={maxSteps:=100000000}) only[go_sem,fX,fY,fT,fU,fZ,ga,gh,gi,gj,fV,gb,gk,f38,fW,mixed];exact rfl
def XC(c:Nat):run (uR n) [.at []] {lE:=[.uS (.slice none 0 c)]++gf 7 qA,heap:=[],low:=0}=some (([],()),()):=by simp (config:={maxSteps:=100000000}) only[go_sem,fX,fY,fT,fU,fZ,ga,gh,gi,gj,fV,gb,gk,f38,fW,mixed]
def XD(a:Addr)(c:Nat):run (uR n) [.at []] {lE:=[.uS (.slice (some a) 0 c)]++gf 7 qA,heap:=[],low:=0}=some (([],()),()):=by simp (config:={maxSteps:=100000000}) only[go_sem,fX,fY,fT,fU,fZ,ga,gh,gi,gj,fV,gb,gk,f38,fW,mixed]
def G3:Nat->(List k7)->Option (TH×Unit)
 |0,_=>none
 |_+1,[]=>some (([],()),())
 |n+1,x::xs=>(Md n).1 x xs
def XE:∀(n:Nat)(a0:(List k7))(r:(TH×Unit)),G3 n a0=some r->FnG fS 38 (((asT (nA k7.row) MJ):Mb Unit _).enc () (a0,())) (vI.enc ()) (fun o H'=>o=.ret (vJ ((rsA 0 (fun(b:TH)=>b.1.length) KQ).enc r.1 r.2))/\H'=(xo (oaT true k7.row) vI).enc r.1)
 |0,_,_,h=>by cases h
 |n+1,[],r,h=>by
  cases h
  exact agJ fun base c=>by
   cases base with
   |none=>exact zy (M:=uR n) ⟨li,lj,qW _,rX _,uh,ui,uG,uw⟩ func38 rfl rfl ⟨trivial,trivial⟩ (fun _ h=>by cases h) ntmps38 results38 (fun J hs=>WL hs) (XC n c)
   |some a=>exact zy (M:=uR n) ⟨li,lj,qW _,rX _,uh,ui,uG,uw⟩ func38 rfl rfl ⟨trivial,trivial⟩ (fun _ h=>by cases h) ntmps38 results38 (fun J hs=>WL hs) (XD n a c)
 |n+1,x::xs,r,h=>by
  exact zy (M:=uR n) ⟨li,lj,qW _,rX _,uh,ui,uG,uw⟩ func38 rfl rfl ⟨(nA k7.row).nb 0 _,trivial⟩ (vI.nb _ _) ntmps38 results38 (fun J hs=>WL hs) (((Md n).2 x xs).trans h)
@[go_sem]def lh:=(vV (EB (alS 141 0 (alA 1 (nu (nA k7.row) (nu p8 lX))))) (vV ogB Ex))
@[go_sem]abbrev Eb(F:(List k7)->Bool->lH->Option TZ)(b:T8)(a:Unit):=F b.1.1 b.1.2.1 b.2.1
@[go_sem]def Rd(F:(List k7)->Bool->lH->Option TZ):=Im [.arg 0 [],.yj 0 1 []] lh (nC 0 lX) lh (nu (oe .i64) lX) (Eb F)
@[reducible] def afz:mg TZ:=qj fS f186 n (yK fS [.tmp 2] [] [0,1] 2 lh (nu (oe .i64) lX))
def alM:SX (afz n) (nC 0 lX) lh 8 Eb:=mC
def Gn:=fu fun n=>(alM n).1
def adP:∀n:Nat,AX fS 186 (nC 0 lX) lh lh (nu (oe .i64) lX) (Eb (Gn n)):=Ve fun n=>GR (alM n) (gd li lj) func186 ntmps186 results186
@[go_sem]def w9:=(nu (oe .i64) (alK (.uS .nilIface) aIC lX))
@[go_sem]abbrev xI(F:lH->(List k7)->Bool->lH->Option TZ)(b:T8)(a:(lH×Unit)):=F a.1 b.1.1 b.1.2.1 b.2.1
@[go_sem]def H6(F:lH->(List k7)->Bool->lH->Option TZ):=Im [.arg 0 [],.yj 0 1 []] lh (nC 0 (nu oa lX)) lh w9 (xI F)
@[reducible] def Uh:mg TZ:=qj fS f187 n (yK fS [.tmp 4,.tmp 5] [] [0,1] 2 lh w9) (cl:=oN [(231,Kn (EF n))])
def BX:SX (Uh n) (nC 0 (nu oa lX)) lh 19 xI:=mC
def zz:=fu fun n=>(BX n).1
def Sd:∀n:Nat,AX fS 187 (nC 0 (nu oa lX)) lh lh w9 (xI (zz n)):=Ve fun n=>GR (BX n) (gd (k8 (nJ (fun b a r h=>(Vf n) b.1.1 b.1.2.1 b.2.1 r h)) li) lj) func187 ntmps187 results187
@[reducible] def an7:mg Bool:=qj fS f127 n (pR fS [.tmp 2] p8)
def Vn:SC1 (an7 n) (oe .i64) 17:=mB
def FG:=fu fun n=>(Vn n).1
def Se:∀n:Nat,EE fS 127 (oe .i64) p8 (FG n):=GQ fun n=>F4 (Vn n) (gd li lj) func127 ntmps127 results127
def MX:Ce:=⟨[],[],(zK::zA::zK::zK::oZ (py (py []))),[oA Syntax.row],none,none⟩
@[reducible] def tu:mg (Tt×Unit):=qj fS f315 n (ams fS [] (xo (oaT false Syntax.row) vI) KQ 1) (vc:=tK [([0,1],MX)]) (AI:=oR []) (AK:=oR [])
def abH:yB (tu n) [0,0,1,0,0,1]=true:=kX
def abI:DE (tu n) [0,0,1,0,0,1] 6 13 7 13 10 13 11 13/\DE (tu n) [0,0,1,0,0,1] 12 13 13 14 6 15 7 15/\DE (tu n) [0,0,1,0,0,1] 10 15 11 15 12 15 13 15/\R3 (tu n) [0,0,1,0,0,1] 14 15=true:=⟨⟨kX,kX,kX,kX⟩,⟨kX,kX,kX,kX⟩,⟨kX,kX,kX,kX⟩,kX⟩
attribute [go_sem] abH abI MX
@[go_sem]abbrev MY(v0 v1:Int)(r0:List Syntax)(c0:Nat):k9:=⟨(.nW 0 c0::qA::.int .i64 v0::.int .i64 v1::pg (pM (pM []))),[.nW false 8 (mp Syntax.cells r0)],1,[]⟩
abbrev MZ:=Int->Int->(List Syntax)->Option (Tt×Unit)
abbrev aar(K:List Kt)(Z:MZ):Prop:=∀v0 v1 r0 c0,c0=r0.length->run (tu n) K (MY v0 v1 r0 c0)=Z v0 v1 r0
def BI:LB (aar n) [0,1] [.wF 0]:=mB
def BJ:Nat->MZ:=C4 ((BI n).1)
def XF{n:Nat}:BJ n (m+1)=(BI n).1 (BJ n m):=rfl
@[go_sem]def WS(m:Nat):=EV (BI n) (BJ n) m
def G4:{B:(List Syntax)->Option (Tt×Unit) //∀(a0:(List Syntax)),run (tu n) [.at []] (ini ((asA 0 (fun(b:Tt)=>b.1.length) MJ).enc (a0,()) ()) 28 ((xo (oaT false Syntax.row) vI).enc (a0,())))=B a0}:=mB
def Ec:=fu fun n=>(G4 n).1
def aas:∀(n:Nat)(a0:(List Syntax))(r:(Tt×Unit)),Ec n a0=some r->FnG fS 315 ((asA 0 (fun(b:Tt)=>b.1.length) MJ).enc (a0,()) ()) ((xo (oaT false Syntax.row) vI).enc (a0,())) (fun o H'=>o=.ret (vJ (KQ.enc r.1 r.2))/\H'=(xo (oaT false Syntax.row) vI).enc r.1)
 |0,_,_,h=>by cases h
 |n+1,a0,r,h=>by
  exact zy (M:=tu n) ⟨li,lj,qW _,rX _,uh,ui,uG,uw⟩ func315 rfl rfl (by simp only[go_sem,fX,fY,fT,fU,fZ,ga,gh,gi,gj,fV,gb,gk]) ((xo (oaT false Syntax.row) vI).nb _ _) ntmps315 results315 (fun J hs=>Ze hs) (((G4 n).2 a0).trans h)
open Go.Proofs
def abJ:Ce:=⟨[(3,1,true)],[],(zA::zA::zA::zK::py (zA::zT (nA lz.row)::zK::zK::oZ (oZ (py (py (zA::zA::zA::[])))))),[oD,oA mJ],none,none⟩
@[reducible] def NB:mg lH:=qj fS f234 n (pR fS [.tmp 2] oa) (cl:=oN [(170,rB (oe .i64) oa (strconv_Itoa n)),(260,q6 (nA mJ) oa oa (strings_Join n))]) (cd:=KO [(170,tV (rB (oe .i64) oa (strconv_Itoa n)))]) (vc:=tK [([0,1,0,1,1,1],abJ)]) (AI:=oR []) (AK:=oR [])
def an8:yB (NB n) [1,1,1,1,0,1,0,0,1,1,0,0,1,0,1,1,1]=true:=kX
def an9:atS (NB n) [1,1,1,1,0,1,0,0,1,1,0,0,1,0,1,1,1] 2 9 5 9:=⟨kX,kX⟩
attribute [go_sem] an8 an9 abJ
@[go_sem]abbrev abK(v0:List lz)(v1 v2:Int)(r1:List lH)(c1:Nat):k9:=⟨(qA::qA::qA::.nW 1 c1::pM (qA::.mj false 2 (mp lz.cells v0)::.int .i64 v1::.int .i64 v2::pg (pg (pM (pM (qA::qA::qA::[])))))),[.zU,.nW true 1 (mp mS r1)],0,[]⟩
abbrev abL:=(List lz)->Int->Int->(List lH)->Option lH
abbrev amD(K:List Kt)(Z:abL):Prop:=∀v0 v1 v2 r1 c1,c1=r1.length->run (NB n) K (abK v0 v1 v2 r1 c1)=Z v0 v1 v2 r1
def G5:LB (amD n) [0,1,0,1,1,1] [.wF 0,.cut [1,1,1,1],.at [1,1,1,1]]:=mB
def DF:Nat->abL:=C4 ((G5 n).1)
def XG{n:Nat}:DF n (m+1)=(G5 n).1 (DF n m):=rfl
@[go_sem]def aiu(m:Nat):=EV (G5 n) (DF n) m
def Vo:SC1 (NB n) (nh ld.lU) 55:=mB
def M1:=fu fun n=>(Vo n).1
def abM:∀n:Nat,EE fS 234 (nh ld.lU) oa (M1 n):=GQ fun n=>F4 (Vo n) (gd (k8 (oX (Nz n)) (k8 (ni (NA n)) li)) (ot (p4 (Nz n)) lj)) func234 ntmps234 results234
@[reducible] def aiv:mg Int:=qj fS f302 n (pR fS [.tmp 4] (oe .i64)) (cl:=oN [(143,q6 oa (oe .u8) (oe .i64) (GX n))])
def Wc:Vd (aiv n) oa (oe .u8) 8:=mB
def strings_IndexByte:=fu fun n=>(Wc n).1
def Ui:∀n:Nat,AW fS 302 oa (oe .u8) (oe .i64) (strings_IndexByte n):=EW fun n=>CN (Wc n) (gd (k8 (ni (Pa n)) li) lj) func302 ntmps302 results302
@[reducible] def aat:mg Bool:=qj fS f303 n (pR fS [.tmp 2] p8)
def BK:SC1 (aat n) (oe .i32) 17:=mB
def xa:=fu fun n=>(BK n).1
def YF:∀n:Nat,EE fS 303 (oe .i32) p8 (xa n):=GQ fun n=>F4 (BK n) (gd li lj) func303 ntmps303 results303
@[reducible] def WT:mg Bool:=qj fS f277 n (pR fS [.tmp 2] p8)
def zC:SC1 (WT n) (oe .i64) 5:=mB
def strings_shouldUseASCIISet:=fu fun n=>(zC n).1
def Vp:∀n:Nat,EE fS 277 (oe .i64) p8 (strings_shouldUseASCIISet n):=GQ fun n=>F4 (zC n) (gd li lj) func277 ntmps277 results277
@[go_sem]def lS:=(vV (EB (V1 Syntax.lU 8 lX)) (vV (EB (V1 (cI .i64) 1 lX)) (vV (EB (V1 (cI .i64) 1 lX)) Ex)))
@[reducible] def Iw:mg (Tk×Unit):=qj fS f41 n (yK fS [] [] [0,1,2] 3 lS lX)
def NP:{B:Syntax->Int->Int->Option (Tk×Unit) //∀(o0:Syntax)(o1:Int)(o2:Int),run (Iw n) [.lR (wV (Iw n) [0]) ((wV (Iw n) [0]).toList.drop 1),.cut [1],.at [1]] (k9.put {lE:=((nC 0 (nC 1 (nC 2 lX))).enc (lS.nS ((o0,()),(o1,()),(o2,()),())) ())++gf (15-((nC 0 (nC 1 (nC 2 lX))).enc (lS.nS ((o0,()),(o1,()),(o2,()),())) ()).length) qA,heap:=(lS.enc (lS.nS ((o0,()),(o1,()),(o2,()),())) ((o0,()),(o1,()),(o2,()),())),low:=(lS.enc (lS.nS ((o0,()),(o1,()),(o2,()),())) ((o0,()),(o1,()),(o2,()),())).length} (some 5) (.uS .nilIface))=B o0 o1 o2}:=mB
def G6:=fu fun n=>(NP n).1
def aiw:∀(n:Nat)(o0:Syntax)(o1:Int)(o2:Int)(r:(Tk×Unit)),G6 n o0 o1 o2=some r->FnT fS (aq5 fS 41) ((nC 0 (nC 1 (nC 2 lX))).enc (lS.nS ((o0,()),(o1,()),(o2,()),())) ()) (lS.enc (lS.nS ((o0,()),(o1,()),(o2,()),())) ((o0,()),(o1,()),(o2,()),())) (fun o H'=>o=(enR lS lX r).1/\H'=(enR lS lX r).2)
 |0,_,_,_,_,h=>by cases h
 |n+1,o0,o1,o2,r,h=>by
  exact ak8 (M:=Iw n) (p1:=[]) (b1:=[0,1,2]) (args:=((nC 0 (nC 1 (nC 2 lX))).enc (lS.nS ((o0,()),(o1,()),(o2,()),())) ())) ⟨li,lj,qW _,rX _,uh,ui,uG,uw⟩ func41 rfl (kX) (uT (gp (kT (kX)) (gq (lS.sz _ _).symm)) _ ((nC 0 (nC 1 (nC 2 lX))).nb (lS.nS ((o0,()),(o1,()),(o2,()),())) ())) (fun x hx=>DD (gp (kT (kX)) (gq (lS.sz _ _).symm)) _ (lS.nb _ _ x hx)) ntmps41 results41 (low:=3) (by rfl) rfl (((NP n).2 o0 o1 o2).trans h)
@[go_sem]def lr:=(nu (aag 85 (nh lF.lU)) lX)
@[go_sem]abbrev NC(F:lF->Option (Unit×T9))(b:Unit)(a:T9):=F a.1
@[go_sem]def aeZ(F:lF->Option (Unit×T9)):=Im [] Ex lr Ex (nu (nh lF.lU) lX) (NC F)
@[reducible] def aoa:mg (Unit×T9):=qj fS f42 n (yK fS [.cell 2 85] [] [] 0 Ex (nu (nh lF.lU) lX))
def Vq:SX (aoa n) lr Ex 14 NC:=mC
def aau:=fu fun n=>(Vq n).1
def amE:∀n:Nat,AX fS 42 lr Ex Ex (nu (nh lF.lU) lX) (NC (aau n)):=Ve fun n=>GR (Vq n) (gd li lj) func42 ntmps42 results42
open Go.Proofs
@[reducible] def PM:mg Bool:=qj fS f280 n (pR fS [.tmp 4] p8)
def Ab:Vd (PM n) oa oa 18:=mB
def Bv:=fu fun n=>(Ab n).1
def Pb:∀n:Nat,AW fS 280 oa oa p8 (Bv n):=EW fun n=>CN (Ab n) (gd li lj) func280 ntmps280 results280
@[go_sem]def Og:Ce:=⟨[],[],(zK::py (zK::oZ (oZ (py (py (py (zA::[]))))))),[oC [zK,zK,zK,zK,zK],oK,oK,oK],none,none⟩
@[go_sem]def mw:=(vV (EB (nu oa (nu (oe .i64) (WM 1 (WM 2 (WM 3 lX)))))) (vV ogM (vV ogM (vV ogM Ex))))
@[go_sem]def q7:=(nu (oe .i64) (nu (oe .i64) (nu (oe .i64) lX)))
@[go_sem]abbrev rE(F:lH->Int->Ta->Ta->Ta->Option TG)(b:To)(a:Unit):=F b.1.1 b.1.2.1 b.2.1 b.2.2.1 b.2.2.2.1
@[go_sem]def Ac(F:lH->Int->Ta->Ta->Ta->Option TG):=Im [.arg 0 [],.yj 0 2 [],.yj 0 3 [],.yj 0 4 []] mw (nC 0 lX) mw q7 (rE F)
@[reducible] def Ix:mg TG:=qj fS f200 n (yK fS [.tmp 2,.tmp 3,.tmp 4] [] [0,1,2,3] 4 mw q7) (vc:=tK [([0,1,0,1],Og)]) (AI:=oR []) (AK:=oR [])
@[go_sem]def adQ:aEx (Ix n) [0,0,0,1,0,0,1,0,1] [0,0,1] [0,0,1,0,0,1,0,0,1,0,1] [0,1,1]:=⟨kX,kX,kX,kX⟩
@[go_sem]abbrev Oh(v0:Int)(v1:lH)(v2:Int)(r1 r2 r3:List (lH×Bool)):k9:=⟨(.ptr 0 0::pM (.int .i64 v0::pg (pg (pM (pM (pM (qA::[]))))))),[.cells [.str (sb v1),.int .i64 v2,.map 1,.map 2,.map 3],.map (mp K2 r1),.map (mp K2 r2),.map (mp K2 r3)],4,[]⟩
abbrev rZ:=Int->lH->Int->Ta->Ta->Ta->Option TG
abbrev abN(K:List Kt)(Z:rZ):Prop:=∀v0 v1 v2 r1 r2 r3,run (Ix n) K (Oh v0 v1 v2 r1 r2 r3)=Z v0 v1 v2 r1 r2 r3
def yR:LB (abN n) [0,1,0,1] [.wF 0,.cut [1,1],.at [1,1]]:=mB
def Cl:Nat->rZ:=C4 ((yR n).1)
def Me{n:Nat}:Cl n (m+1)=(yR n).1 (Cl n m):=rfl
@[go_sem]def XH(m:Nat):=EV (yR n) (Cl n) m
def Iy:SX (Ix n) (nC 0 lX) mw 51 rE:=mC
def EZ:=fu fun n=>(Iy n).1
def abO:∀n:Nat,AX fS 200 (nC 0 lX) mw mw q7 (rE (EZ n)):=Ve fun n=>GR (Iy n) (gd li lj) func200 ntmps200 results200
@[go_sem]def mY:=(vV (EB (nC 1 lX)) (vV (EB (V1 kZ.lU 6 lX)) Ex))
@[reducible] def YG:mg TV:=qj fS f83 n (yK fS [] [] [0,1] 2 mY lX)
def EG:{B:kZ->Option TV //∀(o0:kZ),run (YG n) [.at []] (atP (nC 0 lX) mY ((),(o0,()),()) () 8)=B o0}:=mB
def ux:=fu fun n=>(EG n).1
def XI:∀(n:Nat)(o0:kZ)(r:TV),ux n o0=some r->SD fS 83 (nC 0 lX) mY ((),(o0,()),()) () mY lX r
 |0,_,_,h=>by cases h
 |n+1,o0,r,h=>by
  exact okD (((EG n).2 o0).trans h) (gd li lj) func83 ntmps83 results83
@[reducible] def alN:mg mG:=qj fS f94 n (pR fS [.cell 2 170] (nh mG.lU)) (AI:=oR []) (AK:=oR [])
@[go_sem]def afA:yB (alN n) [0,1]=true:=kX
@[go_sem]def afB:DE (alN n) [0,1] 3 10 7 10 8 10 9 10:=⟨kX,kX,kX,kX⟩
def alP:SC1 (alN n) (xM kZ.lU) 13:=mB
def oh:=fu fun n=>(alP n).1
def oH:∀n:Nat,EE fS 94 (xM kZ.lU) (nh mG.lU) (oh n):=GQ fun n=>F4 (alP n) (gd li lj) func94 ntmps94 results94
@[reducible] def tR:mg T1a:=qj fS f247 n (azl fS [.tmp 2] 0 ld.row (rsA 0 (fun(b:(Tj×Unit))=>b.1.length) KQ))
def CG:{B:ld->List ld->Option T1a //∀x xs,run (tR n) [.at []] {lE:=[(nA ld.row).enc (x::xs)]++gf 7 qA,heap:=[],low:=0}=B x xs}:=by
 apply gr;intro x xs;simp (config:={maxSteps:=100000000}) only[go_sem,fX,fY,fT,fU,fZ,ga,gh,gi,gj,fV,gb,gk,f247,fW,mixed];exact rfl
def Uj(c:Nat):run (tR n) [.at []] {lE:=[.uS (.slice none 0 c)]++gf 7 qA,heap:=[],low:=0}=some (([],()),()):=by simp (config:={maxSteps:=100000000}) only[go_sem,fX,fY,fT,fU,fZ,ga,gh,gi,gj,fV,gb,gk,f247,fW,mixed]
def Uk(a:Addr)(c:Nat):run (tR n) [.at []] {lE:=[.uS (.slice (some a) 0 c)]++gf 7 qA,heap:=[],low:=0}=some (([],()),()):=by simp (config:={maxSteps:=100000000}) only[go_sem,fX,fY,fT,fU,fZ,ga,gh,gi,gj,fV,gb,gk,f247,fW,mixed]
def Ad:Nat->Tj->Option T1a
 |0,_=>none
 |_+1,[]=>some (([],()),())
 |n+1,x::xs=>(CG n).1 x xs
def Ul:∀(n:Nat)(a0:Tj)(r:T1a),Ad n a0=some r->FnG fS 247 (((asT (nA ld.row) MJ):Mb Unit _).enc () (a0,())) (vI.enc ()) (fun o H'=>o=.ret (vJ ((rsA 0 (fun(b:(Tj×Unit))=>b.1.length) KQ).enc r.1 r.2))/\H'=(xo (oaT false ld.row) vI).enc r.1)
 |0,_,_,h=>by cases h
 |n+1,[],r,h=>by
  cases h
  exact agJ fun base c=>by
   cases base with
   |none=>exact zy (M:=tR n) ⟨li,lj,qW _,rX _,uh,ui,uG,uw⟩ func247 rfl rfl ⟨trivial,trivial⟩ (fun _ h=>by cases h) ntmps247 results247 (fun J hs=>aih hs) (Uj n c)
   |some a=>exact zy (M:=tR n) ⟨li,lj,qW _,rX _,uh,ui,uG,uw⟩ func247 rfl rfl ⟨trivial,trivial⟩ (fun _ h=>by cases h) ntmps247 results247 (fun J hs=>aih hs) (Uk n a c)
 |n+1,x::xs,r,h=>by
  exact zy (M:=tR n) ⟨li,lj,qW _,rX _,uh,ui,uG,uw⟩ func247 rfl rfl ⟨(nA ld.row).nb 0 _,trivial⟩ (vI.nb _ _) ntmps247 results247 (fun J hs=>aih hs) (((CG n).2 x xs).trans h)
@[reducible] def wx:mg (Tt×Unit):=qj fS f249 n (azl fS [.tmp 2] 0 Syntax.row (rsA 0 (fun(b:Tt)=>b.1.length) KQ))
def G7:{B:Syntax->List Syntax->Option (Tt×Unit) //∀x xs,run (wx n) [.at []] {lE:=[(nA Syntax.row).enc (x::xs)]++gf 7 qA,heap:=[],low:=0}=B x xs}:=by
 apply gr;intro x xs;simp (config:={maxSteps:=100000000}) only[go_sem,fX,fY,fT,fU,fZ,ga,gh,gi,gj,fV,gb,gk,f249,fW,mixed];exact rfl
def aav(c:Nat):run (wx n) [.at []] {lE:=[.uS (.slice none 0 c)]++gf 7 qA,heap:=[],low:=0}=some (([],()),()):=by simp (config:={maxSteps:=100000000}) only[go_sem,fX,fY,fT,fU,fZ,ga,gh,gi,gj,fV,gb,gk,f249,fW,mixed]
def aaw(a:Addr)(c:Nat):run (wx n) [.at []] {lE:=[.uS (.slice (some a) 0 c)]++gf 7 qA,heap:=[],low:=0}=some (([],()),()):=by simp (config:={maxSteps:=100000000}) only[go_sem,fX,fY,fT,fU,fZ,ga,gh,gi,gj,fV,gb,gk,f249,fW,mixed]
def Ed:Nat->(List Syntax)->Option (Tt×Unit)
 |0,_=>none
 |_+1,[]=>some (([],()),())
 |n+1,x::xs=>(G7 n).1 x xs
def aax:∀(n:Nat)(a0:(List Syntax))(r:(Tt×Unit)),Ed n a0=some r->FnG fS 249 (((asT (nA Syntax.row) MJ):Mb Unit _).enc () (a0,())) (vI.enc ()) (fun o H'=>o=.ret (vJ ((rsA 0 (fun(b:Tt)=>b.1.length) KQ).enc r.1 r.2))/\H'=(xo (oaT false Syntax.row) vI).enc r.1)
 |0,_,_,h=>by cases h
 |n+1,[],r,h=>by
  cases h
  exact agJ fun base c=>by
   cases base with
   |none=>exact zy (M:=wx n) ⟨li,lj,qW _,rX _,uh,ui,uG,uw⟩ func249 rfl rfl ⟨trivial,trivial⟩ (fun _ h=>by cases h) ntmps249 results249 (fun J hs=>aih hs) (aav n c)
   |some a=>exact zy (M:=wx n) ⟨li,lj,qW _,rX _,uh,ui,uG,uw⟩ func249 rfl rfl ⟨trivial,trivial⟩ (fun _ h=>by cases h) ntmps249 results249 (fun J hs=>aih hs) (aaw n a c)
 |n+1,x::xs,r,h=>by
  exact zy (M:=wx n) ⟨li,lj,qW _,rX _,uh,ui,uG,uw⟩ func249 rfl rfl ⟨(nA Syntax.row).nb 0 _,trivial⟩ (vI.nb _ _) ntmps249 results249 (fun J hs=>aih hs) (((G7 n).2 x xs).trans h)
open Go.Proofs
@[reducible] def vD:mg (List lz):=qj fS f248 n (pR fS [.tmp 2] (nA lz.row))
def FH:{B:lz->List lz->Option (List lz) //∀x xs,run (vD n) [.at []] {lE:=[(nA lz.row).enc (x::xs)]++gf 7 qA,heap:=[]}=B x xs}:=by
 apply gr;intro x xs;simp (config:={maxSteps:=100000000}) only[go_sem,fX,fY,fT,fU,fZ,ga,gh,gi,gj,fV,gb,gk,f248,fW,mixed];exact rfl
def YH(c:Nat):run (vD n) [.at []] {lE:=[.uS (.slice none 0 c)]++gf 7 qA,heap:=[]}=some []:=by simp (config:={maxSteps:=100000000}) only[go_sem,fX,fY,fT,fU,fZ,ga,gh,gi,gj,fV,gb,gk,f248,fW,mixed]
def YI(a:Addr)(c:Nat):run (vD n) [.at []] {lE:=[.uS (.slice (some a) 0 c)]++gf 7 qA,heap:=[]}=some []:=by simp (config:={maxSteps:=100000000}) only[go_sem,fX,fY,fT,fU,fZ,ga,gh,gi,gj,fV,gb,gk,f248,fW,mixed]
def C9:Nat->(List lz)->Option (List lz)
 |0,_=>none
 |_+1,[]=>some []
 |n+1,x::xs=>(FH n).1 x xs
def YJ:∀(n:Nat)(a0:(List lz))(r:(List lz)),C9 n a0=some r->N6 fS 248 [(nA lz.row).enc a0] (fun v=>v=(nA lz.row).enc r)
 |0,_,_,h=>by cases h
 |n+1,[],r,h=>by
  cases h
  exact aEm fun base c=>by
   cases base with
   |none=>exact akR (M:=vD n) ⟨li,lj,qW _,rX _,uh,ui,uG,uw⟩ func248 rfl rfl ⟨trivial,trivial⟩ ntmps248 results248 (fun J hs=>aic (P:=fS) (rs:=[.tmp 2]) (t:=(nA lz.row)) (J:=J) hs) (YH n c)
   |some a=>exact akR (M:=vD n) ⟨li,lj,qW _,rX _,uh,ui,uG,uw⟩ func248 rfl rfl ⟨trivial,trivial⟩ ntmps248 results248 (fun J hs=>aic (P:=fS) (rs:=[.tmp 2]) (t:=(nA lz.row)) (J:=J) hs) (YI n a c)
 |n+1,x::xs,r,h=>by
  exact akR (M:=vD n) ⟨li,lj,qW _,rX _,uh,ui,uG,uw⟩ func248 rfl rfl ⟨(nA lz.row).nb 0 _,trivial⟩ ntmps248 results248 (fun J hs=>aic (P:=fS) (rs:=[.tmp 2]) (t:=(nA lz.row)) (J:=J) hs) (((FH n).2 x xs).trans h)
@[reducible] def Gp:mg Int:=qj fS f205 n (pR fS [.tmp 2] (oe .i64)) (AI:=oR []) (AK:=oR [])
@[go_sem]def aix:an1 (Gp n) [0,1,1] [0,1,1,1]:=⟨kX,kX⟩
@[go_sem]def aiy:DE (Gp n) [0,1,1] 3 12 7 12 9 12 10 12/\R3 (Gp n) [0,1,1] 11 12=true:=⟨⟨kX,kX,kX,kX⟩,kX⟩
def MA:SC1 (Gp n) (xM kZ.lU) 35:=mB
def uE:=fu fun n=>(MA n).1
def wK:∀n:Nat,EE fS 205 (xM kZ.lU) (oe .i64) (uE n):=GQ fun n=>F4 (MA n) (gd li lj) func205 ntmps205 results205
@[reducible] def abP:mg TF:=qj fS f206 n (pR fS [.tmp 2] (ajQ 246 (xM (cL lD.row)))) (cut:=aPo [([1,1],[0])])
def G8:SC1 (abP n) (nA lD.row) 4:=mB
def alT:=fu fun n=>(G8 n).1
def aay:∀n:Nat,EE fS 206 (nA lD.row) (ajQ 246 (xM (cL lD.row))) (alT n):=GQ fun n=>F4 (G8 n) (gd li lj) func206 ntmps206 results206
def sQ:Bz:=(ayk [] (sub [0,1,0,1] ((f152.body).getD .skip)))
def Iz:sQ.ps.size=2/\∀j:Int,sG sQ.js j=none:=⟨kX,fun j=>(by show sG [] j=none;unfold sG auL;cases (j==0)<;>rfl)⟩
def xu:=(nu (oe .i64) (nu (nh lD.lU) lX))
def mV:=(vV (apT sQ (F3 3 (nC 1 (alZ (nC 2 (F3 23 lX)))))) (vV (EB (V1 Syntax.lU 8 lX)) (vV (EB (V1 Syntax.lU 8 lX)) Ex)))
def p5:=(vV (ogL sQ (F3 3 (nC 1 (alZ (nC 2 (F3 23 lX)))))) (vV (EB (V1 Syntax.lU 8 lX)) (vV (EB (V1 Syntax.lU 8 lX)) Ex)))
attribute [go_sem] xu mV p5
def pT:mg (Tw×(Bool×Unit)) where
 body:=.seq (V2 (sub [0,1,0,1] ((f152.body).getD .skip))) (aiq (sub [0,1,0,1] ((f152.body).getD .skip)))
 P:=fS
 cl:=oN []
 cd:=KO []
 vc:=tK []
 cut:=aPo []
 n:=n
 out:=(fun _=>none)
 pR:=Xk [] [] [0,1,2] 3 p5
 zV:=oR []
def aaz:(pT n).P=fS/\(pT n).cl=oN []/\(pT n).cd=KO []/\(pT n).vc=tK []/\(pT n).cut=aPo []/\(pT n).n=n/\(pT n).out=(fun _=>none)/\(pT n).pR=Xk [] [] [0,1,2] 3 p5/\(pT n).zV=oR []:=⟨rfl,rfl,rfl,rfl,rfl,rfl,rfl,rfl,rfl⟩
def aaA:(pT n).body=.seq (V2 (sub [0,1,0,1] ((f152.body).getD .skip))) (aiq (sub [0,1,0,1] ((f152.body).getD .skip))):=rfl
def aaB:gu (V2 (sub [0,1,0,1] ((f152.body).getD .skip))) (aiq (sub [0,1,0,1] ((f152.body).getD .skip)))=gu sQ.assign sQ.body:=kX
attribute [go_sem] aaz aaA Iz
def FI:{B:Int->lD->Syntax->Syntax->Option (Tw×(Bool×Unit)) //∀(a0:Int)(a1:lD)(o0:Syntax)(o1:Syntax),run (pT n) [.at [0],.rb,.at [1],.rd] {lE:=VY ((F3 3 (nC 1 (alZ (nC 2 (F3 23 lX))))).enc (mV.nS ((),(o0,()),(o1,()),())) ()) [11,12] (xu.enc (mV.nS ((),(o0,()),(o1,()),())) (a0,a1,())),heap:=(mV.enc (mV.nS ((),(o0,()),(o1,()),())) ((),(o0,()),(o1,()),())),low:=(mV.enc (mV.nS ((),(o0,()),(o1,()),())) ((),(o0,()),(o1,()),())).length}=B a0 a1 o0 o1}:=mB
def IA:=fu fun n=>(FI n).1
def YK:∀(n:Nat)(a0:Int)(a1:lD)(o0:Syntax)(o1:Syntax)(r:(Tw×(Bool×Unit))),IA n a0 a1 o0 o1=some r->FnT fS (Xc fS) (xu.enc (mV.nS ((),(o0,()),(o1,()),())) (a0,a1,())) (mV.enc (mV.nS ((),(o0,()),(o1,()),())) ((),(o0,()),(o1,()),())) (fun o H'=>o=.ret (vJ ((nu p8 lX).enc (p5.nS r.1) r.2))/\H'=p5.enc (p5.nS r.1) r.1)
 |0,_,_,_,_,_,h=>by cases h
 |n+1,a0,a1,o0,o1,r,h=>by
  exact akQ (M:=pT n) (lk:=sQ) (lE:=((F3 3 (nC 1 (alZ (nC 2 (F3 23 lX))))).enc (mV.nS ((),(o0,()),(o1,()),())) ())) ⟨li,lj,qW _,rX _,uh,ui,uG,uw⟩ aaB (kX) ⟨kX,kX⟩ rfl (uT (gp (kT (kX)) (gq (mV.sz _ _).symm)) _ (xu.nb _ _)) (fun x hx=>DD (gp (kT (kX)) (gq (mV.sz _ _).symm)) _ (mV.nb _ _ x hx)) (fun e J hs=>agF (js:=[]) (pos:=[]) (base:=[0,1,2]) (low:=3) (os:=p5) (e:=e) (J:=J) (r:=r) (by rfl) hs) (((FI n).2 a0 a1 o0 o1).trans h)
@[reducible] def WU:mg TV:=qj fS f346 n (yK fS [] [] [0,1] 2 mY lX)
def Da:{B:kZ->Option TV //∀(o0:kZ),run (WU n) [.at []] (atP (nC 0 lX) mY ((),(o0,()),()) () 8)=B o0}:=mB
def xw:=fu fun n=>(Da n).1
def Vr:∀(n:Nat)(o0:kZ)(r:TV),xw n o0=some r->SD fS 346 (nC 0 lX) mY ((),(o0,()),()) () mY lX r
 |0,_,_,h=>by cases h
 |n+1,o0,r,h=>by
  exact okD (((Da n).2 o0).trans h) (gd li lj) func346 ntmps346 results346
@[go_sem]def lN:=(vV (EB (nC 4 lX)) (vV (EB (V1 Syntax.lU 8 lX)) (vV (EB (V1 (cI .i64) 1 lX)) (vV (EB (V1 (cI .i64) 1 lX)) (vV (EB (nC 5 (nu (nA Syntax.row) (nu (oe .i64) lX)))) (vV (EB (WM 6 (WM 7 (WM 8 (nu (oe .i64) lX))))) (vV (an0 (nh k7.lU)) (vV (an0 (nh k7.lU)) (vV ogM Ex)))))))))
@[reducible] def um:mg (Ti×Unit):=qj fS f251 n (yK fS [] [] [0,1,2,3,4,5,6,7,8] 9 lN lX)
def asN:{B:Syntax->Int->Int->(List Syntax)->Int->Int->Tb->Tb->Ta->Option (Ti×Unit) //∀(o0:Syntax)(o1:Int)(o2:Int)(o3:(List Syntax))(o4:Int)(o5:Int)(o6:Tb)(o7:Tb)(o8:Ta),run (um n) [.lR (wV (um n) [0]) ((wV (um n) [0]).toList.drop 1),.cut [1],.at [1]] (k9.put {lE:=((nC 0 (nC 1 (nC 2 (nC 3 lX)))).enc (lN.nS ((),(o0,()),(o1,()),(o2,()),(o3,o4,()),(o5,()),o6,o7,o8,())) ())++gf (23-((nC 0 (nC 1 (nC 2 (nC 3 lX)))).enc (lN.nS ((),(o0,()),(o1,()),(o2,()),(o3,o4,()),(o5,()),o6,o7,o8,())) ()).length) qA,heap:=(lN.enc (lN.nS ((),(o0,()),(o1,()),(o2,()),(o3,o4,()),(o5,()),o6,o7,o8,())) ((),(o0,()),(o1,()),(o2,()),(o3,o4,()),(o5,()),o6,o7,o8,())),low:=(lN.enc (lN.nS ((),(o0,()),(o1,()),(o2,()),(o3,o4,()),(o5,()),o6,o7,o8,())) ((),(o0,()),(o1,()),(o2,()),(o3,o4,()),(o5,()),o6,o7,o8,())).length} (some 7) (.uS .nilIface))=B o0 o1 o2 o3 o4 o5 o6 o7 o8}:=mB
def CR:=fu fun n=>(asN n).1
def adR:∀(n:Nat)(o0:Syntax)(o1:Int)(o2:Int)(o3:(List Syntax))(o4:Int)(o5:Int)(o6:Tb)(o7:Tb)(o8:Ta)(r:(Ti×Unit)),CR n o0 o1 o2 o3 o4 o5 o6 o7 o8=some r->FnT fS (aq5 fS 251) ((nC 0 (nC 1 (nC 2 (nC 3 lX)))).enc (lN.nS ((),(o0,()),(o1,()),(o2,()),(o3,o4,()),(o5,()),o6,o7,o8,())) ()) (lN.enc (lN.nS ((),(o0,()),(o1,()),(o2,()),(o3,o4,()),(o5,()),o6,o7,o8,())) ((),(o0,()),(o1,()),(o2,()),(o3,o4,()),(o5,()),o6,o7,o8,())) (fun o H'=>o=(enR lN lX r).1/\H'=(enR lN lX r).2)
 |0,_,_,_,_,_,_,_,_,_,_,h=>by cases h
 |n+1,o0,o1,o2,o3,o4,o5,o6,o7,o8,r,h=>by
  exact ak8 (M:=um n) (p1:=[]) (b1:=[0,1,2,3,4,5,6,7,8]) (args:=((nC 0 (nC 1 (nC 2 (nC 3 lX)))).enc (lN.nS ((),(o0,()),(o1,()),(o2,()),(o3,o4,()),(o5,()),o6,o7,o8,())) ())) ⟨li,lj,qW _,rX _,uh,ui,uG,uw⟩ func251 rfl (kX) (uT (gp (kT (kX)) (gq (lN.sz _ _).symm)) _ ((nC 0 (nC 1 (nC 2 (nC 3 lX)))).nb (lN.nS ((),(o0,()),(o1,()),(o2,()),(o3,o4,()),(o5,()),o6,o7,o8,())) ())) (fun x hx=>DD (gp (kT (kX)) (gq (lN.sz _ _).symm)) _ (lN.nb _ _ x hx)) ntmps251 results251 (low:=9) (by rfl) rfl (((asN n).2 o0 o1 o2 o3 o4 o5 o6 o7 o8).trans h)
open Go.Proofs
@[go_sem]def xb:=(nC 0 (nC 1 (nC 2 (nC 3 (nu (aag 312 agH) lX)))))
def asP:{B:Unit->Syntax->Int->Int->(List Syntax)->Int->Int->Tb->Tb->Ta->Option (Ti×Unit) //∀(a0:Unit)(o0:Syntax)(o1:Int)(o2:Int)(o3:(List Syntax))(o4:Int)(o5:Int)(o6:Tb)(o7:Tb)(o8:Ta),run (um n) [.lR (wV (um n) [0]) ((wV (um n) [0]).toList.drop 1),.cut [1],.at [1]] (k9.put {lE:=((nC 0 (nC 1 (nC 2 (nC 3 lX)))).enc (lN.nS ((),(o0,()),(o1,()),(o2,()),(o3,o4,()),(o5,()),o6,o7,o8,())) ())++gf (23-((nC 0 (nC 1 (nC 2 (nC 3 lX)))).enc (lN.nS ((),(o0,()),(o1,()),(o2,()),(o3,o4,()),(o5,()),o6,o7,o8,())) ()).length) qA,heap:=(lN.enc (lN.nS ((),(o0,()),(o1,()),(o2,()),(o3,o4,()),(o5,()),o6,o7,o8,())) ((),(o0,()),(o1,()),(o2,()),(o3,o4,()),(o5,()),o6,o7,o8,())),low:=(lN.enc (lN.nS ((),(o0,()),(o1,()),(o2,()),(o3,o4,()),(o5,()),o6,o7,o8,())) ((),(o0,()),(o1,()),(o2,()),(o3,o4,()),(o5,()),o6,o7,o8,())).length} (some 7) ((aag 312 agH).enc a0))=B a0 o0 o1 o2 o3 o4 o5 o6 o7 o8}:=mB
def AD:=fu fun n=>(asP n).1
def adS:∀(n:Nat)(a0:Unit)(o0:Syntax)(o1:Int)(o2:Int)(o3:(List Syntax))(o4:Int)(o5:Int)(o6:Tb)(o7:Tb)(o8:Ta)(r:(Ti×Unit)),AD n a0 o0 o1 o2 o3 o4 o5 o6 o7 o8=some r->FnT fS (aq6 fS 251) (xb.enc (lN.nS ((),(o0,()),(o1,()),(o2,()),(o3,o4,()),(o5,()),o6,o7,o8,())) (a0,())) (lN.enc (lN.nS ((),(o0,()),(o1,()),(o2,()),(o3,o4,()),(o5,()),o6,o7,o8,())) ((),(o0,()),(o1,()),(o2,()),(o3,o4,()),(o5,()),o6,o7,o8,())) (fun o H'=>o=(enR lN lX r).1/\H'=(enR lN lX r).2)
 |0,_,_,_,_,_,_,_,_,_,_,_,h=>by cases h
 |n+1,a0,o0,o1,o2,o3,o4,o5,o6,o7,o8,r,h=>by
  exact ak7 (M:=um n) (p1:=[]) (b1:=[0,1,2,3,4,5,6,7,8]) (args:=((nC 0 (nC 1 (nC 2 (nC 3 lX)))).enc (lN.nS ((),(o0,()),(o1,()),(o2,()),(o3,o4,()),(o5,()),o6,o7,o8,())) ())) (x:=(aag 312 agH).enc a0) ⟨li,lj,qW _,rX _,uh,ui,uG,uw⟩ func251 rfl (kX) (uT (gp (kT (kX)) (gq (lN.sz _ _).symm)) _ (xb.nb (lN.nS ((),(o0,()),(o1,()),(o2,()),(o3,o4,()),(o5,()),o6,o7,o8,())) (a0,()))) (fun x hx=>DD (gp (kT (kX)) (gq (lN.sz _ _).symm)) _ (lN.nb _ _ x hx)) ntmps251 results251 (low:=9) (by rfl) rfl (((asP n).2 a0 o0 o1 o2 o3 o4 o5 o6 o7 o8).trans h)
@[go_sem]def lK:=(vV (EB (nC 1 (nu (nA Syntax.row) (nu (oe .i64) lX)))) (vV (EB (WM 2 (WM 3 (WM 4 (nu (oe .i64) lX))))) (vV (an0 (nh k7.lU)) (vV (an0 (nh k7.lU)) (vV ogM Ex)))))
@[go_sem]abbrev BL(F:(List Syntax)->Int->Int->Tb->Tb->Ta->Option T1b)(b:Tc)(a:Unit):=F b.1.1 b.1.2.1 b.2.1.1 b.2.2.1 b.2.2.2.1 b.2.2.2.2.1
@[go_sem]def FJ(F:(List Syntax)->Int->Int->Tb->Tb->Ta->Option T1b):=Im [.arg 0 [],.yj 0 0 [],.yj 1 0 [],.yj 1 1 [],.yj 1 2 []] lK (nC 0 lX) lK (nu oa (nu p8 lX)) (BL F)
@[reducible] def M2:mg T1b:=qj fS f284 n (yK fS [.tmp 2,.tmp 3] [] [0,1,2,3,4] 5 lK (nu oa (nu p8 lX))) (AI:=oR []) (AK:=oR [])
@[go_sem]def aaC:an1 (M2 n) [0,0,1] [0,1,1]:=⟨kX,kX⟩
def FK:SX (M2 n) (nC 0 lX) lK 39 BL:=mC
def Ae:=fu fun n=>(FK n).1
def Mf:∀n:Nat,AX fS 284 (nC 0 lX) lK lK (nu oa (nu p8 lX)) (BL (Ae n)):=Ve fun n=>GR (FK n) (gd li lj) func284 ntmps284 results284
@[reducible] def YL:mg Bool:=qj fS f213 n (pR fS [.tmp 4] p8)
def EH:Vd (YL n) (nh mG.lU) oa 14:=mB
def Cm:=fu fun n=>(EH n).1
def XJ:∀n:Nat,AW fS 213 (nh mG.lU) oa p8 (Cm n):=EW fun n=>CN (EH n) (gd li lj) func213 ntmps213 results213
@[reducible] def aob:mg Int:=qj fS f181 n (pR fS [.tmp 2] (oe .i64))
def Vs:SC1 (aob n) (oe .i64) 18:=mB
def SI:=fu fun n=>(Vs n).1
def amF:∀n:Nat,EE fS 181 (oe .i64) (oe .i64) (SI n):=GQ fun n=>F4 (Vs n) (gd li lj) func181 ntmps181 results181
@[reducible] def YM:mg (lC×Bool):=qj fS f183 n (pR fS [.cell 4 251,.tmp 5] (ty2 (nh lC.lU) p8))
def EI:Vd (YM n) (nA mJ) oa 55:=mB
def Cn:=fu fun n=>(EI n).1
def XK:∀n:Nat,AW fS 183 (nA mJ) oa (ty2 (nh lC.lU) p8) (Cn n):=EW fun n=>CN (EI n) (gd li lj) func183 ntmps183 results183
@[reducible] def afC:mg Bool:=qj fS f184 n (pR fS [.tmp 2] p8)
def ay4:SC1 (afC n) (nh Syntax.lU) 11:=mB
def CS:=fu fun n=>(ay4 n).1
def adT:∀n:Nat,EE fS 184 (nh Syntax.lU) p8 (CS n):=GQ fun n=>F4 (ay4 n) (gd li lj) func184 ntmps184 results184
open Go.Proofs
@[reducible] def aoc:mg lO:=qj fS f51 n (pR fS [.cell 2 49] (nh lO.lU))
def ae0:SC1 (aoc n) (oe .i64) 5:=mB
def ai7:=fu fun n=>(ae0 n).1
def amG:∀n:Nat,EE fS 51 (oe .i64) (nh lO.lU) (ai7 n):=GQ fun n=>F4 (ae0 n) (gd li lj) func51 ntmps51 results51
@[reducible] def aod:mg Syntax:=qj fS f52 n (pR fS [.cell 2 37] (nh Syntax.lU))
def ae1:SC1 (aod n) oa 5:=mB
def aaD:=fu fun n=>(ae1 n).1
def abQ:∀n:Nat,EE fS 52 oa (nh Syntax.lU) (aaD n):=GQ fun n=>F4 (ae1 n) (gd li lj) func52 ntmps52 results52
@[reducible] def aoe:mg Syntax:=qj fS f53 n (pR fS [.cell 4 37] (nh Syntax.lU))
def ae2:Vd (aoe n) (nh Syntax.lU) (nh Syntax.lU) 9:=mB
def aaE:=fu fun n=>(ae2 n).1
def abR:∀n:Nat,AW fS 53 (nh Syntax.lU) (nh Syntax.lU) (nh Syntax.lU) (aaE n):=EW fun n=>CN (ae2 n) (gd li lj) func53 ntmps53 results53
def ai8:Ce:=⟨[],[(2,5,8)],(zA::zK::zA::zA::zK::zK::py (py (zA::zA::zT (nA Syntax.row)::zK::zK::oZ (zA::[])))),[oD,oK,oC [zK,zK,zK,zT (nA mJ),zT (nA ld.row),zK,zK,zK],oA Syntax.row],none,none⟩
@[reducible] def PN(X:Syntax->Int->Option Syntax)(n:Nat):mg Syntax:=qj fS f28 n (pR fS [.cell 4 37] (nh Syntax.lU)) (cd:=KO [(28,tV (q6 (nh Syntax.lU) (oe .i64) (nh Syntax.lU) X))]) (vc:=tK [([0,1,0,1,1,1],ai8)]) (AI:=oR []) (AK:=oR [])
def at0(X:Syntax->Int->Option Syntax)(n:Nat):yB (PN X n) [1,0,0,1,1,0,0,1,0,1,1,1]=true:=kX
def at1(X:Syntax->Int->Option Syntax)(n:Nat):DE (PN X n) [1,0,0,1,1,0,0,1,0,1,1,1] 1 9 2 9 1 11 2 11/\R3 (PN X n) [1,0,0,1,1,0,0,1,0,1,1,1] 9 11=true:=⟨⟨kX,kX,kX,kX⟩,kX⟩
attribute [go_sem] at0 at1 ai8
@[go_sem]abbrev ai9(v0:Int)(v1:List Syntax)(v2 v3 v4:Int)(v5:lH)(v6:Int)(v7:List lH)(v8:List ld)(v9 v10:Int)(r3:List Syntax)(c3:Nat):k9:=⟨(qA::.int .i64 v0::qA::qA::.ptr 1 0::.ptr 2 0::pM (pM (qA::qA::.mj false 8 (mp Syntax.cells v1)::.int .i64 v2::.int .i64 v3::pg (qA::[])))),[.zU,.cells [.int .i64 0,.str (sb []),.int .i64 0,.mj true 0 [],.mj true 0 [],.mj true 0 [],.int .i64 0,.int .i64 0],.cells [.int .i64 v4,.str (sb v5),.int .i64 v6,.mj false 1 (mp mS v7),.mj false 2 (mp ld.cells v8),.nW 3 c3,.int .i64 v9,.int .i64 v10],.nW true 8 (mp Syntax.cells r3)],0,[]⟩
abbrev aja:=Int->(List Syntax)->Int->Int->Int->lH->Int->(List lH)->Tj->Int->Int->(List Syntax)->Option Syntax
abbrev arl(X:Syntax->Int->Option Syntax)(n:Nat)(K:List Kt)(Z:aja):Prop:=∀v0 v1 v2 v3 v4 v5 v6 v7 v8 v9 v10 r3 c3,c3=r3.length->run (PN X n) K (ai9 v0 v1 v2 v3 v4 v5 v6 v7 v8 v9 v10 r3 c3)=Z v0 v1 v2 v3 v4 v5 v6 v7 v8 v9 v10 r3
def M3(X:Syntax->Int->Option Syntax)(n:Nat):LB (arl X n) [0,1,0,1,1,1] [.wF 0,.cut [1,1,1,1],.at [1,1,1,1]]:=mB
def M4(X:Syntax->Int->Option Syntax)(n:Nat):Nat->aja:=C4 ((M3 X n).1)
def ae3(X:Syntax->Int->Option Syntax){n:Nat}:M4 X n (m+1)=(M3 X n).1 (M4 X n m):=rfl
@[go_sem]def amH(X:Syntax->Int->Option Syntax)(n:Nat)(m:Nat):=EV (M3 X n) (M4 X n) m
def adU(X:Syntax->Int->Option Syntax)(n:Nat):Vd (PN X n) (nh Syntax.lU) (oe .i64) 36:=mB
def La:Nat->Syntax->Int->Option Syntax
 |0,_,_=>none
 |n+1,a0,a1=>(adU (La n) n).1 a0 a1
def ajb:∀n:Nat,AW fS 28 (nh Syntax.lU) (oe .i64) (nh Syntax.lU) (La n)
 |0=>fun _ _ _ h=>(by cases h)
 |n+1=>by
  have arm:=ajb n;exact CN (adU (La n) n) (gd li (ot (vg (arm)) lj)) func28 ntmps28 results28
open Go.Proofs
@[go_sem]def Af:Ce:=⟨[],[],(zT (nA mJ)::zT (tyF 96)::py (zA::zK::zK::py (py (zA::zA::[])))),[],none,none⟩
@[reducible] def AN:mg Int:=qj fS f39 n (pR fS [.tmp 4] (oe .i64)) (cl:=oN [(96,rB oa p8 (Vg n))]) (vc:=tK [([0,1,0,1],Af)])
@[go_sem]abbrev Ag(v0:List lH)(v1 v2:Int):k9:=⟨(.mj false 1 (mp mS v0)::.func (.func 96) [] []::pM (qA::.int .i64 v1::.int .i64 v2::pM (pM (qA::qA::[])))),[],0,[]⟩
abbrev sL:=(List lH)->Int->Int->Option Int
abbrev IB(K:List Kt)(Z:sL):Prop:=∀v0 v1 v2,run (AN n) K (Ag v0 v1 v2)=Z v0 v1 v2
def qO:LB (IB n) [0,1,0,1] [.wF 0,.cut [1,1],.at [1,1]]:=mB
def qP:Nat->sL:=C4 ((qO n).1)
def yS{n:Nat}:qP n (m+1)=(qO n).1 (qP n m):=rfl
@[go_sem]def F5(m:Nat):=EV (qO n) (qP n) m
def vi:Vd (AN n) (nA mJ) (tyF 96) 19:=mB
def wo:=fu fun n=>(vi n).1
def IC:∀n:Nat,AW fS 39 (nA mJ) (tyF 96) (oe .i64) (wo n):=EW fun n=>CN (vi n) (gd (k8 (oX (ajV n)) li) lj) func39 ntmps39 results39
@[go_sem]def Ba:Ce:=⟨[],[],(zT (nA mJ)::zT (tyF 121)::py (zA::zK::zK::py (py (zA::zA::[])))),[],none,none⟩
@[reducible] def BC:mg Int:=qj fS f39 n (pR fS [.tmp 4] (oe .i64)) (cl:=oN [(121,rB oa p8 (aah n))]) (vc:=tK [([0,1,0,1],Ba)])
@[go_sem]abbrev Bb(v0:List lH)(v1 v2:Int):k9:=⟨(.mj false 1 (mp mS v0)::.func (.func 121) [] []::pM (qA::.int .i64 v1::.int .i64 v2::pM (pM (qA::qA::[])))),[],0,[]⟩
abbrev aOD(K:List Kt)(Z:sL):Prop:=∀v0 v1 v2,run (BC n) K (Bb v0 v1 v2)=Z v0 v1 v2
def rk:LB (aOD n) [0,1,0,1] [.wF 0,.cut [1,1],.at [1,1]]:=mB
def rn:Nat->sL:=C4 ((rk n).1)
def Ah{n:Nat}:rn n (m+1)=(rk n).1 (rn n m):=rfl
@[go_sem]def HK(m:Nat):=EV (rk n) (rn n) m
def wu:Vd (BC n) (nA mJ) (tyF 121) 19:=mB
def xc:=fu fun n=>(wu n).1
def aOE:∀n:Nat,AW fS 39 (nA mJ) (tyF 121) (oe .i64) (xc n):=EW fun n=>CN (wu n) (gd (k8 (oX (amy n)) li) lj) func39 ntmps39 results39
@[go_sem]def zJ:Ce:=⟨[],[],(zT (nA lz.row)::zT (tyF 123)::py (zA::zK::zK::py (py (zA::zA::[])))),[],none,none⟩
@[reducible] def Ai:mg Int:=qj fS f180 n (pR fS [.tmp 4] (oe .i64)) (cl:=oN [(123,rB (nh lz.lU) p8 (aai n))]) (vc:=tK [([0,1,0,1],zJ)])
@[go_sem]abbrev zM(v0:List lz)(v1 v2:Int):k9:=⟨(.mj false 2 (mp lz.cells v0)::.func (.func 123) [] []::pM (qA::.int .i64 v1::.int .i64 v2::pM (pM (qA::qA::[])))),[],0,[]⟩
abbrev zN:=(List lz)->Int->Int->Option Int
abbrev HL(K:List Kt)(Z:zN):Prop:=∀v0 v1 v2,run (Ai n) K (zM v0 v1 v2)=Z v0 v1 v2
def qG:LB (HL n) [0,1,0,1] [.wF 0,.cut [1,1],.at [1,1]]:=mB
def qH:Nat->zN:=C4 ((qG n).1)
def yC{n:Nat}:qH n (m+1)=(qG n).1 (qH n m):=rfl
@[go_sem]def FL(m:Nat):=EV (qG n) (qH n) m
def uW:Vd (Ai n) (nA lz.row) (tyF 123) 19:=mB
def vQ:=fu fun n=>(uW n).1
def HM:∀n:Nat,AW fS 180 (nA lz.row) (tyF 123) (oe .i64) (vQ n):=EW fun n=>CN (uW n) (gd (k8 (oX (amz n)) li) lj) func180 ntmps180 results180
@[go_sem]def XL:Ce:=⟨[(4,5,false)],[],(zA::zK::zK::zA::zK::oZ (py (py []))),[oT lO.lU,oK,oA lO.row],none,none⟩
@[reducible] def Zw:mg (lO×(List lO)):=qj fS f104 n (pR fS [.cell 2 49,.tmp 3] (ty2 (nh lO.lU) (nA lO.row))) (cl:=oN [(167,apL 0 false 5 (DP [0] (xo (oaT false lO.row) vI) (asA 0 (fun(b:TM)=>b.1.length) MJ) (xo (oaT false lO.row) vI) KQ (fun(b:TM) a=>(V3 n) b.1)))]) (vc:=tK [([0,0,1,1],XL)])
@[go_sem]abbrev XM(o0:lO)(r2:List lO)(c2:Nat):k9:=⟨(qA::.ptr 0 0::.ptr 1 0::qA::.nW 2 c2::pg (pM (pM []))),[.cells (lO.cells o0),.cells [.int .i64 0,.int .i64 0,.str (sb []),.mj true 0 [],.mj true 0 []],.nW false 5 (mp lO.cells r2)],0,[]⟩
abbrev XN:=lO->(List lO)->Option (lO×(List lO))
abbrev aj1(K:List Kt)(Z:XN):Prop:=∀o0 r2 c2,c2=r2.length->run (Zw n) K (XM o0 r2 c2)=Z o0 r2
def NQ:LB (aj1 n) [0,0,1,1] [.wF 0,.cut [1,1,1],.at [1,1,1]]:=mB
def NR:Nat->XN:=C4 ((NQ n).1)
def awX{n:Nat}:NR n (m+1)=(NQ n).1 (NR n m):=rfl
@[go_sem]def afD(m:Nat):=EV (NQ n) (NR n) m
def Zx:SC1 (Zw n) (nh lO.lU) 29:=mB
def ae4:=fu fun n=>(Zx n).1
def aj2:∀n:Nat,EE fS 104 (nh lO.lU) (ty2 (nh lO.lU) (nA lO.row)) (ae4 n):=GQ fun n=>F4 (Zx n) (gd (k8 (akX (rR (fun b a r h=>(adK n) b.1 r h))) li) lj) func104 ntmps104 results104
@[reducible] def aaF:mg Bool:=qj fS f79 n (pR fS [.tmp 4] p8) (cl:=oN [(142,q6 (nA mJ) oa (oe .i64) (Gi n))])
def FM:Vd (aaF n) (nA mJ) oa 9:=mB
def qQ:=fu fun n=>(FM n).1
def sw:∀n:Nat,AW fS 79 (nA mJ) oa p8 (qQ n):=EW fun n=>CN (FM n) (gd (k8 (ni (adM n)) li) lj) func79 ntmps79 results79
@[reducible] def XO:mg Bool:=qj fS f171 n (pR fS [.tmp 4] p8) (cl:=oN [(224,q6 (nA mJ) oa (oe .i64) (JZ n))])
def DS:Vd (XO n) (nA mJ) oa 9:=mB
def xX:=fu fun n=>(DS n).1
def Ks:∀n:Nat,AW fS 171 (nA mJ) oa p8 (xX n):=EW fun n=>CN (DS n) (gd (k8 (ni (aak n)) li) lj) func171 ntmps171 results171
open Go.Proofs
@[go_sem]def ali:Ce:=⟨[],[],(zK::zA::zA::zK::zA::zA::zA::zK::zK::oZ (py (py (py (zA::zA::[]))))),[],none,none⟩
@[reducible] def anw:mg Bool:=qj fS f141 n (pR fS [.tmp 2] p8) (cl:=oN [(196,rB (oe .u8) p8 (Zj n))]) (vc:=tK [([0,1,0,1,1],ali)])
@[go_sem]abbrev alj(v0:lH)(v1:Bool)(v2 v3:Int):k9:=⟨(.str (sb v0)::qA::qA::.bool v1::qA::qA::qA::.int .i64 v2::.int .i64 v3::pg (pM (pM (pM (qA::qA::[]))))),[],0,[]⟩
abbrev alk:=lH->Bool->Int->Int->Option Bool
abbrev at2(K:List Kt)(Z:alk):Prop:=∀v0 v1 v2 v3,run (anw n) K (alj v0 v1 v2 v3)=Z v0 v1 v2 v3
def PO:LB (at2 n) [0,1,0,1,1] [.wF 0,.cut [1,1,1],.at [1,1,1]]:=mB
def PP:Nat->alk:=C4 ((PO n).1)
def agT{n:Nat}:PP n (m+1)=(PO n).1 (PP n m):=rfl
@[go_sem]def aof(m:Nat):=EV (PO n) (PP n) m
def agU:SC1 (anw n) oa 39:=mB
def Sf:=fu fun n=>(agU n).1
def adV:∀n:Nat,EE fS 141 oa p8 (Sf n):=GQ fun n=>F4 (agU n) (gd (k8 (oX (ap6 n)) li) lj) func141 ntmps141 results141
@[go_sem]def PQ:Ce:=⟨[],[],(zK::zT (xM cS)::zA::zK::zK::oZ (oZ (oZ (zA::zA::zA::[])))),[oL [zA,zK,zA,zA,zA,zA,zA,zA,zA],oC [zK],oK],none,none⟩
@[go_sem]abbrev Ee(F:lH->Ta->Option (TD×Unit))(b:(Unit×(Unit×(Ta×Unit))))(a:(lH×Unit)):=F a.1 b.2.2.1
@[go_sem]def Re(F:lH->Ta->Option (TD×Unit)):=Im [.arg 0 [],.yj 0 1 [],.yj 1 0 []] mE (WM 0 (nu (xM cS) lX)) oo lX (Ee F)
@[reducible] def Rf:mg (TD×Unit):=qj fS f274 n (yK fS [] [] [0,1,2] 3 oo lX) (vc:=tK [([0,1,0,1],PQ)]) (cy:=apS [(0,awg [.yj 0 1 [],.yj 1 0 []] mE (nu oa lX) oo (nu p8 lX) (fun(b:(Unit×(Unit×(Ta×Unit))))(a:(lH×Unit))=>(Ko n) a.1 b.2.2.1))])
@[go_sem]abbrev PS(v0:lH)(v1 v2 j0:Int)(r2:List (lH×Bool)):k9:=⟨(.map 0::.pp [.str (sb v0)]::qA::.int .i64 v1::.int .i64 v2::pg (pg (pg (qA::qA::qA::[])))),[.loop qu [qA,.ptr 1 0,qA,qA,qA,qA,qA,qA,qA] (stJ qu j0) j0,.cells [.map 2],.map (mp K2 r2)],3,[]⟩
abbrev PT:=lH->Int->Int->Int->Ta->Option (TD×Unit)
abbrev adW(K:List Kt)(Z:PT):Prop:=∀v0 v1 v2 j0 r2,run (Rf n) K (PS v0 v1 v2 j0 r2)=Z v0 v1 v2 j0 r2
def ID:LB (adW n) [0,1,0,1] [.wF 0,.cut [1,1],.at [1,1]]:=mB
def IE:Nat->PT:=C4 ((ID n).1)
def arn{n:Nat}:IE n (m+1)=(ID n).1 (IE n m):=rfl
@[go_sem]def YN(m:Nat):=EV (ID n) (IE n) m
def Rg:SX (Rf n) (WM 0 (nu (xM cS) lX)) mE 56 Ee:=mC
def Wd:=fu fun n=>(Rg n).1
def adX:∀n:Nat,AX fS 274 (WM 0 (nu (xM cS) lX)) mE oo lX (Ee (Wd n)):=Ve fun n=>GR (Rg n) (gd li lj (y:=(Pp (fun _ _ _ _ _ h=>ak0 (fun b a r h=>(Sb n) a.1 b.2.2.1 r h) h) S9))) func274 ntmps274 results274
@[go_sem]def Um:Ce:=⟨[],[],(zA::zK::zA::zA::zK::zA::zA::zA::zK::oZ (py (zA::zA::zT (nA lO.row)::zK::zK::oZ []))),[oC [zK],oC [zK],oL [zA,zA,zA,zK,zK,zA,zA,zA,zA,zA,zA,zA,zA,zA,zA,zA,zA,zA,zA,zA,zA,zA,zA,zA,zA,zA,zA,zA,zA,zA],oC [zK],oC [zK]],none,none⟩
def wL:=(nu (nh lO.lU) (nu (oe .i64) (nC 0 (nu (xM (cA lM.lU 5 13)) (nC 1 lX)))))
def E0:=(vV (EB (WM 2 lX)) (vV (EB (alF 166 (vlP 0 (vlT (xM (cA lM.lU 5 13)) (vlP 1 vlN))) lX)) (vV (apT qh (F3 3 (nC 3 (nC 4 (F3 25 lX))))) (vV (EB (V1 (cI .i64) 1 lX)) (vV (EB (V1 cB 1 lX)) Ex)))))
def E3:=(vV (EB (WM 2 lX)) (vV (EB (alF 166 (vlP 0 (vlT (xM (cA lM.lU 5 13)) (vlP 1 vlN))) lX)) (vV (ogL qh (F3 3 (nC 3 (nC 4 (F3 25 lX))))) (vV (EB (V1 (cI .i64) 1 lX)) (vV (EB (V1 cB 1 lX)) Ex)))))
attribute [go_sem] wL E0 E3
@[go_sem]abbrev Gq(F:lO->Int->(Ey lM 13)->(Ey lM 13)->Int->Bool->Option ((Unit×((((Ey lM 13)×Unit)×Unit)×Tg))×(Bool×Unit)))(b:(Unit×((((Ey lM 13)×Unit)×Unit)×TT)))(a:(lO×(Int×((Ey lM 13)×Unit)))):=F a.1 a.2.1 a.2.2.1 b.2.1.1.1 b.2.2.2.1.1 b.2.2.2.2.1.1
@[go_sem]def MB(F:lO->Int->(Ey lM 13)->(Ey lM 13)->Int->Bool->Option ((Unit×((((Ey lM 13)×Unit)×Unit)×Tg))×(Bool×Unit))):=Im [.arg 2 [],.arg 4 [],.yj 0 0 [],.yj 2 3 [],.yj 2 4 []] E0 wL E3 (nu p8 lX) (Gq F)
@[reducible] def We(X:lO->Int->(Ey lM 13)->(Ey lM 13)->Int->Bool->Option ((Unit×((((Ey lM 13)×Unit)×Unit)×Tg))×(Bool×Unit)))(n:Nat):mg ((Unit×((((Ey lM 13)×Unit)×Unit)×Tg))×(Bool×Unit)):=qj fS f166 n (yK fS [.tmp 7] [] [0,1,2,3,4] 5 E3 (nu p8 lX)) (cl:=oN [(166,MB X)]) (vc:=tK [([0,1,0,1,1,1,1],Um)]) (cy:=apS [(2,awg [.yj 0 3 [],.yj 0 4 []] mP qD pz (nu p8 lX) (fun(b:TT)(a:(Int×(lO×Unit)))=>(MW n) a.1 a.2.1 b.2.1.1 b.2.2.1.1))])
@[go_sem]abbrev Un(v0 v1:Int)(v2:List lO)(v3 v4:Int)(v5:Ey lM 13)(j2 v7:Int)(v8:Bool):k9:=⟨(qA::.int .i64 v0::qA::qA::.ptr 1 0::qA::qA::qA::.int .i64 v1::pg (pM (qA::qA::.mj false 5 (mp lO.cells v2)::.int .i64 v3::.int .i64 v4::pg []))),[.cells [.map 2],.cells [.func (.func 166) [] [.ptr 0 0,.pp (vO lM.cells 13 v5),.ptr 1 0]],.loop qh [qA,qA,qA,.ptr 3 0,.ptr 4 0,qA,qA,qA,qA,qA,qA,qA,qA,qA,qA,qA,qA,qA,qA,qA,qA,qA,qA,qA,qA,qA,qA,qA,qA,qA] (stJ qh j2) j2,.cells [.int .i64 v7],.cells [.bool v8]],5,[]⟩
abbrev Uo:=Int->Int->(List lO)->Int->Int->(Ey lM 13)->Int->Int->Bool->Option ((Unit×((((Ey lM 13)×Unit)×Unit)×Tg))×(Bool×Unit))
abbrev agV(X:lO->Int->(Ey lM 13)->(Ey lM 13)->Int->Bool->Option ((Unit×((((Ey lM 13)×Unit)×Unit)×Tg))×(Bool×Unit)))(n:Nat)(K:List Kt)(Z:Uo):Prop:=∀v0 v1 v2 v3 v4 v5 j2 v7 v8,run (We X n) K (Un v0 v1 v2 v3 v4 v5 j2 v7 v8)=Z v0 v1 v2 v3 v4 v5 j2 v7 v8
def Lb(X:lO->Int->(Ey lM 13)->(Ey lM 13)->Int->Bool->Option ((Unit×((((Ey lM 13)×Unit)×Unit)×Tg))×(Bool×Unit)))(n:Nat):LB (agV X n) [0,1,0,1,1,1,1] [.wF 0,.cut [1,1,1,1,1],.at [1,1,1,1,1]]:=mB
def Lc(X:lO->Int->(Ey lM 13)->(Ey lM 13)->Int->Bool->Option ((Unit×((((Ey lM 13)×Unit)×Unit)×Tg))×(Bool×Unit)))(n:Nat):Nat->Uo:=C4 ((Lb X n).1)
def at3(X:lO->Int->(Ey lM 13)->(Ey lM 13)->Int->Bool->Option ((Unit×((((Ey lM 13)×Unit)×Unit)×Tg))×(Bool×Unit))){n:Nat}:Lc X n (m+1)=(Lb X n).1 (Lc X n m):=rfl
@[go_sem]def abS(X:lO->Int->(Ey lM 13)->(Ey lM 13)->Int->Bool->Option ((Unit×((((Ey lM 13)×Unit)×Unit)×Tg))×(Bool×Unit)))(n:Nat)(m:Nat):=EV (Lb X n) (Lc X n) m
def Wf(X:lO->Int->(Ey lM 13)->(Ey lM 13)->Int->Bool->Option ((Unit×((((Ey lM 13)×Unit)×Unit)×Tg))×(Bool×Unit)))(n:Nat):SX (We X n) wL E0 50 Gq:=mC (by apply _root_.Subtype.mk;(repeat (first|with_reducible refine _root_.Prod.forall.2 ?_|intro));simp (config:={maxSteps:=100000000}) only[go_sem,_root_.Nat.reduceAdd,_root_.Nat.reduceSub,_root_.Nat.reduceLeDiff,_root_.Nat.reduceEqDiff,_root_.Nat.reduceBEq,_root_.Nat.reduceMul,_root_.Nat.reduceLT,_root_.Int.reduceLE,_root_.Int.reduceLT,_root_.Int.reduceToNat,_root_.Int.reduceBEq,_root_.Int.reduceEq,_root_.Option.getD_some,mixed, *];exact rfl)
def Ku:Nat->lO->Int->(Ey lM 13)->(Ey lM 13)->Int->Bool->Option ((Unit×((((Ey lM 13)×Unit)×Unit)×Tg))×(Bool×Unit))
 |0,_,_,_,_,_,_=>none
 |n+1,a0,a1,a2,o0,o1,o2=>(Wf (Ku n) n).1 a0 a1 a2 o0 o1 o2
def Up:∀n:Nat,AX fS 166 wL E0 E3 (nu p8 lX) (Gq (Ku n))
 |0=>fun _ _ _ h=>(by cases h)
 |n+1=>by
  have agW:=Up n;exact GR (Wf (Ku n) n) (gd (k8 (nJ (agW)) li) lj (y:=(Pp (fun _ _ _ _ _ h=>ak0 (fun b a r h=>(WP n) a.1 a.2.1 b.2.1.1 b.2.2.1.1 r h) h) S9))) func166 ntmps166 results166
@[go_sem]def wM:Ce:=⟨[],[],(zT (nA l5.row)::zT (tyF 173)::py (zA::zK::zK::py (py (zA::zA::[])))),[],none,none⟩
@[reducible] def wX:mg Int:=qj fS f225 n (pR fS [.tmp 4] (oe .i64)) (cl:=oN [(173,rB (nh l5.lU) p8 (Ra n))]) (vc:=tK [([0,1,0,1],wM)])
@[go_sem]abbrev wN(v0:List l5)(v1 v2:Int):k9:=⟨(.mj false 2 (mp l5.cells v0)::.func (.func 173) [] []::pM (qA::.int .i64 v1::.int .i64 v2::pM (pM (qA::qA::[])))),[],0,[]⟩
abbrev wO:=(List l5)->Int->Int->Option Int
abbrev DT(K:List Kt)(Z:wO):Prop:=∀v0 v1 v2,run (wX n) K (wN v0 v1 v2)=Z v0 v1 v2
def s4:LB (DT n) [0,1,0,1] [.wF 0,.cut [1,1],.at [1,1]]:=mB
def s5:Nat->wO:=C4 ((s4 n).1)
def WV{n:Nat}:s5 n (m+1)=(s4 n).1 (s5 n m):=rfl
@[go_sem]def CT(m:Nat):=EV (s4 n) (s5 n) m
def wY:Vd (wX n) (nA l5.row) (tyF 173) 19:=mB
def xJ:=fu fun n=>(wY n).1
def DU:∀n:Nat,AW fS 225 (nA l5.row) (tyF 173) (oe .i64) (xJ n):=EW fun n=>CN (wY n) (gd (k8 (oX (aam n)) li) lj) func225 ntmps225 results225
@[reducible] def aiz:mg lH:=qj fS f220 n (pR fS [.tmp 4] oa) (cl:=oN [(260,q6 (nA mJ) oa oa (strings_Join n)),(261,DP [] vI (asT (nA mJ) MJ) (xo (oaT true mJ) vI) (rsA 0 (fun(b:Tm)=>b.1.length) KQ) (fun(b:Unit) a=>(A9 n) a.1))])
def Wg:Vd (aiz n) (nA mJ) oa 11:=mB
def Kv:=fu fun n=>(Wg n).1
def Uq:∀n:Nat,AW fS 220 (nA mJ) oa oa (Kv n):=EW fun n=>CN (Wg n) (gd (k8 (ni (NA n)) (k8 (rR (fun b a r h=>(aap n) a.1 r h)) li)) lj) func220 ntmps220 results220
@[go_sem]def Zy:Ce:=⟨[],[],(zA::zK::zA::zA::zK::zA::zA::zA::zK::oZ (py (zA::zA::zT (nA lO.row)::zK::zK::oZ []))),[oC [zK],oC [zK],oL [zA,zA,zA,zK,zK,zA,zA,zA,zA,zA,zA,zA,zA,zA,zA,zA,zA,zA,zA,zA,zA,zA,zA,zA,zA,zA,zA,zA,zA,zA,zA],oC [zK],oC [zK],oK,oA mJ],none,none⟩
@[go_sem]def Kw:=(vV (EB (WM 2 lX)) (vV (EB (alF 166 (vlP 0 (vlT (xM (cA lM.lU 5 13)) (vlP 1 vlN))) lX)) (vV (apT pS (F3 3 (nC 3 (nC 4 (F3 26 lX))))) (vV (EB (WM 5 lX)) (vV (EB (alA 6 lX)) (vV ogM (vV (ogA true mJ) Ex)))))))
@[go_sem]def Ky:=(vV (EB (WM 2 lX)) (vV (EB (alF 166 (vlP 0 (vlT (xM (cA lM.lU 5 13)) (vlP 1 vlN))) lX)) (vV (ogL pS (F3 3 (nC 3 (nC 4 (F3 26 lX))))) (vV (EB (WM 5 lX)) (vV (EB (alA 6 lX)) (vV ogM (vV (ogA true mJ) Ex)))))))
@[go_sem]abbrev L3(F:lO->Int->(Ey lM 13)->(Ey lM 13)->Ta->(List lH)->Option ((Unit×((((Ey lM 13)×Unit)×Unit)×Tf))×(Bool×Unit)))(b:(Unit×((((Ey lM 13)×Unit)×Unit)×T15)))(a:(lO×(Int×((Ey lM 13)×Unit)))):=F a.1 a.2.1 a.2.2.1 b.2.1.1.1 b.2.2.2.2.2.1 b.2.2.2.2.2.2.1
@[go_sem]def Sg(F:lO->Int->(Ey lM 13)->(Ey lM 13)->Ta->(List lH)->Option ((Unit×((((Ey lM 13)×Unit)×Unit)×Tf))×(Bool×Unit))):=Im [.arg 2 [],.arg 4 [],.yj 0 0 [],.yj 2 3 [],.yj 2 4 [],.yj 3 0 [],.yj 4 0 []] Kw wL Ky (nu p8 lX) (L3 F)
@[reducible] def abT(X:lO->Int->(Ey lM 13)->(Ey lM 13)->Ta->(List lH)->Option ((Unit×((((Ey lM 13)×Unit)×Unit)×Tf))×(Bool×Unit)))(n:Nat):mg ((Unit×((((Ey lM 13)×Unit)×Unit)×Tf))×(Bool×Unit)):=qj fS f166 n (yK fS [.tmp 7] [] [0,1,2,3,4,5,6] 7 Ky (nu p8 lX)) (cl:=oN [(166,Sg X)]) (vc:=tK [([0,1,0,1,1,1,1],Zy)]) (cy:=apS [(2,awg [.yj 0 3 [],.yj 0 4 [],.yj 1 0 [],.yj 2 0 []] mH qD oz (nu p8 lX) (fun(b:T15)(a:(Int×(lO×Unit)))=>(K7 n) a.1 a.2.1 b.2.2.2.1 b.2.2.2.2.1))])
@[go_sem]abbrev Zz(v0 v1:Int)(v2:List lO)(v3 v4:Int)(v5:Ey lM 13)(j2:Int)(r5:List (lH×Bool))(r6:List lH)(c6:Nat):k9:=⟨(qA::.int .i64 v0::qA::qA::.ptr 1 0::qA::qA::qA::.int .i64 v1::pg (pM (qA::qA::.mj false 5 (mp lO.cells v2)::.int .i64 v3::.int .i64 v4::pg []))),[.cells [.map 2],.cells [.func (.func 166) [] [.ptr 0 0,.pp (vO lM.cells 13 v5),.ptr 1 0]],.loop pS [qA,qA,qA,.ptr 3 0,.ptr 4 0,qA,qA,qA,qA,qA,qA,qA,qA,qA,qA,qA,qA,qA,qA,qA,qA,qA,qA,qA,qA,qA,qA,qA,qA,qA,qA] (stJ pS j2) j2,.cells [.map 5],.cells [.nW 6 c6],.map (mp K2 r5),.nW true 1 (mp mS r6)],7,[]⟩
abbrev ZA:=Int->Int->(List lO)->Int->Int->(Ey lM 13)->Int->Ta->(List lH)->Option ((Unit×((((Ey lM 13)×Unit)×Unit)×Tf))×(Bool×Unit))
abbrev alm(X:lO->Int->(Ey lM 13)->(Ey lM 13)->Ta->(List lH)->Option ((Unit×((((Ey lM 13)×Unit)×Unit)×Tf))×(Bool×Unit)))(n:Nat)(K:List Kt)(Z:ZA):Prop:=∀v0 v1 v2 v3 v4 v5 j2 r5 r6 c6,c6=r6.length->run (abT X n) K (Zz v0 v1 v2 v3 v4 v5 j2 r5 r6 c6)=Z v0 v1 v2 v3 v4 v5 j2 r5 r6
def PU(X:lO->Int->(Ey lM 13)->(Ey lM 13)->Ta->(List lH)->Option ((Unit×((((Ey lM 13)×Unit)×Unit)×Tf))×(Bool×Unit)))(n:Nat):LB (alm X n) [0,1,0,1,1,1,1] [.wF 0,.cut [1,1,1,1,1],.at [1,1,1,1,1]]:=mB
def PV(X:lO->Int->(Ey lM 13)->(Ey lM 13)->Ta->(List lH)->Option ((Unit×((((Ey lM 13)×Unit)×Unit)×Tf))×(Bool×Unit)))(n:Nat):Nat->ZA:=C4 ((PU X n).1)
def axK(X:lO->Int->(Ey lM 13)->(Ey lM 13)->Ta->(List lH)->Option ((Unit×((((Ey lM 13)×Unit)×Unit)×Tf))×(Bool×Unit))){n:Nat}:PV X n (m+1)=(PU X n).1 (PV X n m):=rfl
@[go_sem]def agX(X:lO->Int->(Ey lM 13)->(Ey lM 13)->Ta->(List lH)->Option ((Unit×((((Ey lM 13)×Unit)×Unit)×Tf))×(Bool×Unit)))(n:Nat)(m:Nat):=EV (PU X n) (PV X n) m
def abU(X:lO->Int->(Ey lM 13)->(Ey lM 13)->Ta->(List lH)->Option ((Unit×((((Ey lM 13)×Unit)×Unit)×Tf))×(Bool×Unit)))(n:Nat):SX (abT X n) wL Kw 50 L3:=mC (by apply _root_.Subtype.mk;(repeat (first|with_reducible refine _root_.Prod.forall.2 ?_|intro));simp (config:={maxSteps:=100000000}) only[go_sem,_root_.Nat.reduceAdd,_root_.Nat.reduceSub,_root_.Nat.reduceLeDiff,_root_.Nat.reduceEqDiff,_root_.Nat.reduceBEq,_root_.Nat.reduceMul,_root_.Nat.reduceLT,_root_.Int.reduceLE,_root_.Int.reduceLT,_root_.Int.reduceToNat,_root_.Int.reduceBEq,_root_.Int.reduceEq,_root_.Option.getD_some,mixed, *];exact rfl)
def PW:Nat->lO->Int->(Ey lM 13)->(Ey lM 13)->Ta->(List lH)->Option ((Unit×((((Ey lM 13)×Unit)×Unit)×Tf))×(Bool×Unit))
 |0,_,_,_,_,_,_=>none
 |n+1,a0,a1,a2,o0,o1,o2=>(abU (PW n) n).1 a0 a1 a2 o0 o1 o2
def ZB:∀n:Nat,AX fS 166 wL Kw Ky (nu p8 lX) (L3 (PW n))
 |0=>fun _ _ _ h=>(by cases h)
 |n+1=>by
  have aln:=ZB n;exact GR (abU (PW n) n) (gd (k8 (nJ (aln)) li) lj (y:=(Pp (fun _ _ _ _ _ h=>ak0 (fun b a r h=>(Ug n) a.1 a.2.1 b.2.2.2.1 b.2.2.2.2.1 r h) h) S9))) func166 ntmps166 results166
open Go.Proofs
@[go_sem]abbrev Db(F:k7->Int->Tb->Tb->Ta->Option T11)(b:T7)(a:(k7×Unit)):=F a.1 b.1.1 b.2.1 b.2.2.1 b.2.2.2.1
@[go_sem]def PX(F:k7->Int->Tb->Tb->Ta->Option T11):=A7 false [.arg 0 [],.yj 0 0 [],.yj 0 1 [],.yj 0 2 []] nq (nC 0 (nu (nh k7.lU) lX)) nq (WM 2 (nu oa (nu (nA mJ) lX))) nq (WM 1 (nu oa (nu (nA mJ) lX))) (Db F)
@[reducible] def PY:mg T11:=qj fS f77 n (ak4 fS [.tmp 4,.tmp 5,.tmp 6] [] [0,1,2,3] 4 nq (WM 2 (nu oa (nu (nA mJ) lX))) [] nq (WM 1 (nu oa (nu (nA mJ) lX)))) (cl:=oN [(78,rB (nh k7.lU) p8 (DA n))]) (AI:=oR []) (AK:=oR [])
@[go_sem]def adY:an1 (PY n) [0,0,1,0,1] [0,1,1]:=⟨kX,kX⟩
def IF:SX (PY n) (nC 0 (nu (nh k7.lU) lX)) nq 31 Db:=mC
def Ld:=fu fun n=>(IF n).1
def abV:∀n:Nat,wE fS 77 (nC 0 (nu (nh k7.lU) lX)) nq false nq (WM 2 (nu oa (nu (nA mJ) lX))) nq (WM 1 (nu oa (nu (nA mJ) lX))) (Db (Ld n)):=adE fun n=>aMe (IF n) (gd (k8 (oX (G1 n)) li) lj) func77 ntmps77 results77
@[reducible] def ap7:mg Bool:=qj fS f194 n (pR fS [.tmp 2] p8) (cl:=oN [(193,rB (oe .u8) (oe .i64) (HZ n))])
def XP:SC1 (ap7 n) (oe .u8) 15:=mB
def Dc:=fu fun n=>(XP n).1
def Vt:∀n:Nat,EE fS 194 (oe .u8) p8 (Dc n):=GQ fun n=>F4 (XP n) (gd (k8 (oX (K8 n)) li) lj) func194 ntmps194 results194
@[reducible] def aro:mg (List lH):=qj fS f195 n (pR fS [.tmp 0] (nA mJ)) (cl:=oN [(240,rB oa (nA mJ) (agS n))])
def ajc:SC0 (aro n) 2:=mB
def Ur:=fu fun n=>(ajc n).1
def agY:∀n:Nat,aB3 fS 195 (nA mJ) (Ur n):=aJ3 fun n=>aJ2 (ajc n) (gd (k8 (oX (alh n)) li) lj) func195 ntmps195 results195
@[go_sem]def Rh:Ce:=⟨[],[],(zK::py (zA::zT (nA mJ)::zK::zK::oZ (py (py (zA::[]))))),[oC [zK,zK,zT (nA k7.row),zK],oY],none,none⟩
@[go_sem]abbrev E4(F:(List lH)->(List k7)->Bool->lH->Option (T8×Unit))(b:T8)(a:Tm):=F a.1 b.1.1 b.1.2.1 b.2.1
@[go_sem]def rK(F:(List lH)->(List k7)->Bool->lH->Option (T8×Unit)):=Im [.arg 0 [],.yj 0 1 []] lh (nC 0 (nu (nA mJ) lX)) lh lX (E4 F)
@[reducible] def Us:mg (T8×Unit):=qj fS f131 n (yK fS [] [] [0,1] 2 lh lX) (cl:=oN [(186,Rd (Gn n)),(187,H6 (zz n))]) (vc:=tK [([0,1],Rh)])
@[go_sem]abbrev Ri(v0:List lH)(v1 v2:Int)(v3:List k7)(v4:Bool)(r1:lH)(c1:Nat):k9:=⟨(.ptr 0 0::pM (qA::.mj false 1 (mp mS v0)::.int .i64 v1::.int .i64 v2::pg (pM (pM (qA::[]))))),[.cells [.sn 141 0,.nW 1 c1,.mj false 4 (mp k7.cells v3),.bool v4],.L8 (sb r1)],2,[]⟩
abbrev Rj:=(List lH)->Int->Int->(List k7)->Bool->lH->Option (T8×Unit)
abbrev afE(K:List Kt)(Z:Rj):Prop:=∀v0 v1 v2 v3 v4 r1 c1,c1=r1.length->run (Us n) K (Ri v0 v1 v2 v3 v4 r1 c1)=Z v0 v1 v2 v3 v4 r1
def Bc:LB (afE n) [0,1] [.wF 0]:=mB
def Bd:Nat->Rj:=C4 ((Bc n).1)
def Oi{n:Nat}:Bd n (m+1)=(Bc n).1 (Bd n m):=rfl
@[go_sem]def aaG(m:Nat):=EV (Bc n) (Bd n) m
def Lf:SX (Us n) (nC 0 (nu (nA mJ) lX)) lh 34 E4:=mC
def nU:=fu fun n=>(Lf n).1
def sk:∀n:Nat,AX fS 131 (nC 0 (nu (nA mJ) lX)) lh lh lX (E4 (nU n)):=Ve fun n=>GR (Lf n) (gd (k8 (nJ (adP n)) (k8 (nJ (Sd n)) li)) lj) func131 ntmps131 results131
def Kz:Ce:=⟨[],[],(py (zK::zA::zA::zK::zK::zA::zK::oZ (oZ (oZ (zA::zA::zA::zT (nA mJ)::zK::zK::oZ []))))),[oC [zK],oM (nh k7.lU),oD,oK,oA Syntax.row,oT k7.lU],none,none⟩
def KA:Ce:=⟨[(7,8,false)],[],(zK::zA::zA::zK::zK::zA::zA::zK::Ip (py (py (zA::[])))),[oC [zK],oM (nh k7.lU),oT Syntax.lU,oK,oA Syntax.row],none,none⟩
@[go_sem]def l4:=(vV (EB (WM 1 lX)) (vV (an0 (nh k7.lU)) Ex))
@[go_sem]def zD:=(nu (nh k7.lU) (nu (nA Syntax.row) (nu p8 lX)))
@[go_sem]abbrev Aj(F:Syntax->Tb->Option T10)(b:Tv)(a:(Syntax×Unit)):=F a.1 b.2.1
@[go_sem]def Ak(F:Syntax->Tb->Option T10):=Im [.arg 0 [],.yj 0 0 []] l4 (nC 0 (nu (nh Syntax.lU) lX)) l4 zD (Aj F)
@[reducible] def wP:mg T10:=qj fS f297 n (yK fS [.cell 4 25,.tmp 5,.tmp 6] [] [0,1] 2 l4 zD) (cl:=oN [(315,apL 0 false 8 (DP [0] (xo (oaT false Syntax.row) vI) (asA 0 (fun(b:Tt)=>b.1.length) MJ) (xo (oaT false Syntax.row) vI) KQ (fun(b:Tt) a=>(Ec n) b.1)))]) (vc:=tK [([0,1,0,1,1,1,1,1,1,1],Kz),([0,0,1,1],KA)]) (cut:=aPo [([1,1,1,1,1,1,1,1,1],[4])]) (AI:=oR []) (AK:=oR [])
def XQ:yB (wP n) [0,1,1,1,1]=true:=kX
def XR:DE (wP n) [0,1,1,1,1] 3 11 5 11 6 11 10 11:=⟨kX,kX,kX,kX⟩
attribute [go_sem] XQ XR Kz KA
abbrev KB(v0:Int)(v1:List lH)(v2 v3:Int)(r1:List (lH×k7))(r4:List Syntax)(o5:k7)(c4:Nat):k9:=⟨(pM (.ptr 3 0::qA::qA::.nW 4 c4::.ptr 5 0::qA::.int .i64 v0::pg (pg (pg (qA::qA::qA::.mj false 1 (mp mS v1)::.int .i64 v2::.int .i64 v3::pg []))))),[.cells [.map 1],.map (mp (R9 (nh k7.lU)) r1),.zU,.cells [.mj true 0 [],.int .i64 0,.int .i64 0,.str (sb [])],.nW false 8 (mp Syntax.cells r4),.cells (k7.cells o5)],2,[]⟩
abbrev KC:List Kt:=[.wF 2,.cut [1,1,1,1,1,1,1,1],.at [1,1,1,1,1,1,1,1]]
abbrev KD:=Int->(List lH)->Int->Int->Tb->(List Syntax)->k7->Option T10
abbrev WW(K:List Kt)(Z:KD):Prop:=∀v0 v1 v2 v3 r1 r4 o5 c4,c4=r4.length->run (wP n) K (KB v0 v1 v2 v3 r1 r4 o5 c4)=Z v0 v1 v2 v3 r1 r4 o5
abbrev KE(r1:List (lH×k7))(o2:Syntax)(r4:List Syntax)(c4:Nat):k9:=⟨(.ptr 0 0::qA::qA::.ptr 2 0::.ptr 3 0::qA::qA::.nW 4 c4::Io (pM (pM (qA::[])))),[.cells [.map 1],.map (mp (R9 (nh k7.lU)) r1),.cells (Syntax.cells o2),.cells [.mj true 0 [],.int .i64 0,.int .i64 0,.str (sb [])],.nW false 8 (mp Syntax.cells r4)],2,[]⟩
abbrev KF:=Tb->Syntax->(List Syntax)->Option T10
abbrev WX(K:List Kt)(Z:KF):Prop:=∀r1 o2 r4 c4,c4=r4.length->run (wP n) K (KE r1 o2 r4 c4)=Z r1 o2 r4
attribute [go_sem] KB KC KE
def vY:LB (WW n) [0,1,0,1,1,1,1,1,1,1] KC:=mB
def uf:Nat->KD:=C4 ((vY n).1)
def H7{n:Nat}:uf n (m+1)=(vY n).1 (uf n m):=rfl
@[go_sem]def Sh(m:Nat):=EV (vY n) (uf n) m
def zE:LB (WX n) [0,0,1,1] [.wF 0,.cut [1,1,1],.at [1,1,1]]:=mB
def vZ:Nat->KF:=C4 ((zE n).1)
def Ut{n:Nat}:vZ n (m+1)=(zE n).1 (vZ n m):=rfl
@[go_sem]def Si(m:Nat):=EV (zE n) (vZ n) m
def DV:SX (wP n) (nC 0 (nu (nh Syntax.lU) lX)) l4 81 Aj:=mC
def vE:=fu fun n=>(DV n).1
def Dd:∀n:Nat,AX fS 297 (nC 0 (nu (nh Syntax.lU) lX)) l4 l4 zD (Aj (vE n)):=Ve fun n=>GR (DV n) (gd (k8 (akX (rR (fun b a r h=>(aas n) b.1 r h))) li) lj) func297 ntmps297 results297
@[reducible] def aog:mg Int:=qj fS f285 n (pR fS [.tmp 4] (oe .i64)) (cl:=oN [(78,rB (nh k7.lU) p8 (DA n)),(140,rB (nh k7.lU) p8 (BW n))])
def Vu:Vd (aog n) (nh k7.lU) (oe .i64) 51:=mB
def FN:=fu fun n=>(Vu n).1
def L4:∀n:Nat,AW fS 285 (nh k7.lU) (oe .i64) (oe .i64) (FN n):=EW fun n=>CN (Vu n) (gd (k8 (oX (G1 n)) (k8 (oX (EY n)) li)) lj) func285 ntmps285 results285
open Go.Proofs
def Uu:Ce:=⟨[],[],(Ip (Ip (oZ (oZ (py (py (py (zA::zA::zA::zK::py (py (zA::zA::zA::[])))))))))),[oK],none,none⟩
def Uv:Ce:=⟨[],[],(zK::py (zA::zA::zK::zK::zK::zA::zA::zK::Ip (Ip (oZ (oZ (py (py (py (zA::zA::[]))))))))),[],none,none⟩
def Uw:Ce:=⟨[],[],(zK::py (zA::zA::zK::zK::zK::Ip (Ip (oZ (oZ (oZ (zA::[]))))))),[],none,none⟩
@[reducible] def CU:mg Int:=qj fS f276 n (pR fS [.tmp 4] (oe .i64)) (cl:=oN [(302,q6 oa (oe .u8) (oe .i64) (strings_IndexByte n)),(303,rB (oe .i32) p8 (xa n))]) (cd:=KO [(302,tV (q6 oa (oe .u8) (oe .i64) (strings_IndexByte n)))]) (vc:=tK [([0,1,0,0,1,1,1,0,1],Uu),([0,1,0,1,0,0,1,0,0,0,1,1,1,1,0,1,1,1,1,1,1,0,1],Uv),([0,0,1,1,1,1,0,1,1,1,1,1,1,0,1],Uw)]) (AI:=oR []) (AK:=oR [])
def aiA:aHr (CU n) [0,0,0,0,1,0,0,0,1,1,1,1,0,1,1,1,1,1,1,0,1] [0,0,0,1,0,0,1,0,1,0,0,1,0,0,0,1,1,1,1,0,1,1,1,1,1,1,0,1] [0,0,1,0,0,0,1,0,0,0,1,1,1,1,0,1,1,1,1,1,1,0,1]:=⟨kX,kX,kX⟩
attribute [go_sem] aiA Uu Uv Uw
abbrev Ux(iv0:lH)(ip0:Nat):k9:=⟨(Io (Io (pg (pg (pM (pM (pM (qA::qA::qA::.ptr 0 0::pM (pM (qA::qA::qA::[])))))))))),[.iter (sb iv0) ip0],0,[]⟩
abbrev Uy:List Kt:=[.wF 9,.cut [1,0,1,1,1,0,1],.at [1,0,1,1,1,0,1],.wF 0]
abbrev Uz:=lH->Nat->Option Int
abbrev agZ(K:List Kt)(Z:Uz):Prop:=∀iv0 ip0,run (CU n) K (Ux iv0 ip0)=Z iv0 ip0
abbrev UA(v0 v1:lH)(v2 v3 v4:Int):k9:=⟨(.str (sb v0)::pM (qA::qA::.str (sb v1)::.int .i64 v2::.int .i64 v3::qA::qA::.int .i64 v4::Io (Io (pg (pg (pM (pM (pM (qA::qA::[]))))))))),[],0,[]⟩
abbrev UB(m3:Nat):List Kt:=[.wF 3,.cut [1,1,0,0,1,0,0,0,1,1,1,1,0,1,1,1,1,1,1,0,1],.at [1,1,0,0,1,0,0,0,1,1,1,1,0,1,1,1,1,1,1,0,1],.wF 2,.lp m3 [0,0,1,1,1,1,0,1,1,1,1,1,1,0,1],.wF 1,.cut [1,1,1,1,1,0,1,1,1,1,1,1,0,1],.at [1,1,1,1,1,0,1,1,1,1,1,1,0,1],.wF 0]
abbrev UC:=lH->lH->Int->Int->Int->Option Int
abbrev ag0(K:List Kt)(Z:UC):Prop:=∀v0 v1 v2 v3 v4,run (CU n) K (UA v0 v1 v2 v3 v4)=Z v0 v1 v2 v3 v4
abbrev UD(v0 v1:lH)(v2 v3:Int):k9:=⟨(.str (sb v0)::pM (qA::qA::.str (sb v1)::.int .i64 v2::.int .i64 v3::Io (Io (pg (pg (pg (qA::[]))))))),[],0,[]⟩
abbrev E5:List Kt:=[.wF 1,.cut [1,1,1,1,1,0,1,1,1,1,1,1,0,1],.at [1,1,1,1,1,0,1,1,1,1,1,1,0,1],.wF 0]
abbrev E6:=lH->lH->Int->Int->Option Int
abbrev Lg(K:List Kt)(Z:E6):Prop:=∀v0 v1 v2 v3,run (CU n) K (UD v0 v1 v2 v3)=Z v0 v1 v2 v3
attribute [go_sem] Ux Uy UA UB UD E5
def Lh:LB (agZ n) [0,1,0,0,1,1,1,0,1] Uy:=mB
def Li:Nat->Uz:=C4 ((Lh n).1)
def at4{n:Nat}:Li n (m+1)=(Lh n).1 (Li n m):=rfl
@[go_sem]def Oj(m:Nat):=EV (Lh n) (Li n) m
def Lj:LB2 (Lg n) [0,0,1,1,1,1,0,1,1,1,1,1,1,0,1] E5 (ag0 n) [0,1,0,1,0,0,1,0,0,0,1,1,1,1,0,1,1,1,1,1,1,0,1] UB:=mB
def Ll(X3:E6):Nat->UC:=C4 ((Lj n).1 X3)
def at5{n:Nat}(X3:E6):Ll n X3 (m+1)=(Lj n).1 X3 (Ll n X3 m):=rfl
def abW{m3:Nat}{X3}(h3:Lg n (.lq m3 [0,0,1,1,1,1,0,1,1,1,1,1,1,0,1]::E5) X3)(m:Nat):=aB2 (Lj n) h3 (Ll n X3) m
def BY:LB (Lg n) [0,0,1,1,1,1,0,1,1,1,1,1,1,0,1] E5:=by
 apply gr;intro m X0 ih v0 v1 v2 v3;simp (config:={maxSteps:=100000000}) only[go_sem,fX,fY,fT,fU,fZ,ga,gh,gi,gj,fV,gb,gk,f276,fW,mixed,Oj n,abW n ih,ih];exact rfl
def BZ:Nat->E6:=C4 ((BY n).1)
def PZ{n:Nat}:BZ n (m+1)=(BY n).1 (BZ n m):=rfl
@[go_sem]def abX(m:Nat):=EV (BY n) (BZ n) m
def Gr:Vd (CU n) oa (oe .i32) 187:=mB
def nG:=fu fun n=>(Gr n).1
def UE:∀n:Nat,AW fS 276 oa (oe .i32) (oe .i64) (nG n):=EW fun n=>CN (Gr n) (gd (k8 (ni (Ui n)) (k8 (oX (YF n)) li)) (ot (vg (Ui n)) lj)) func276 ntmps276 results276
@[go_sem]def AE:=(nC 0 (nC 1 (nC 2 (nu (aag 85 (nh lF.lU)) lX))))
@[reducible] def yL:mg (Tk×Unit):=qj fS f41 n (yK fS [] [] [0,1,2] 3 lS lX) (cl:=oN [(42,aeZ (aau n))]) (AI:=oR []) (AK:=oR [])
@[go_sem]def aj3:yB (yL n) [1,0,1,1]=true:=kX
@[go_sem]def aj4:DE (yL n) [1,0,1,1] 2 6 5 6 2 7 4 7/\atS (yL n) [1,0,1,1] 5 7 6 7:=⟨⟨kX,kX,kX,kX⟩,kX,kX⟩
def NS:{B:lF->Syntax->Int->Int->Option (Tk×Unit) //∀(a0:lF)(o0:Syntax)(o1:Int)(o2:Int),run (yL n) [.lR (wV (yL n) [0]) ((wV (yL n) [0]).toList.drop 1),.cut [1],.at [1]] (k9.put {lE:=((nC 0 (nC 1 (nC 2 lX))).enc (lS.nS ((o0,()),(o1,()),(o2,()),())) ())++gf (15-((nC 0 (nC 1 (nC 2 lX))).enc (lS.nS ((o0,()),(o1,()),(o2,()),())) ()).length) qA,heap:=(lS.enc (lS.nS ((o0,()),(o1,()),(o2,()),())) ((o0,()),(o1,()),(o2,()),())),low:=(lS.enc (lS.nS ((o0,()),(o1,()),(o2,()),())) ((o0,()),(o1,()),(o2,()),())).length} (some 5) ((aag 85 (nh lF.lU)).enc a0))=B a0 o0 o1 o2}:=mB
def DG:=fu fun n=>(NS n).1
def aiB:∀(n:Nat)(a0:lF)(o0:Syntax)(o1:Int)(o2:Int)(r:(Tk×Unit)),DG n a0 o0 o1 o2=some r->FnT fS (aq6 fS 41) (AE.enc (lS.nS ((o0,()),(o1,()),(o2,()),())) (a0,())) (lS.enc (lS.nS ((o0,()),(o1,()),(o2,()),())) ((o0,()),(o1,()),(o2,()),())) (fun o H'=>o=(enR lS lX r).1/\H'=(enR lS lX r).2)
 |0,_,_,_,_,_,h=>by cases h
 |n+1,a0,o0,o1,o2,r,h=>by
  exact ak7 (M:=yL n) (p1:=[]) (b1:=[0,1,2]) (args:=((nC 0 (nC 1 (nC 2 lX))).enc (lS.nS ((o0,()),(o1,()),(o2,()),())) ())) (x:=(aag 85 (nh lF.lU)).enc a0) ⟨(k8 (nJ (amE n)) li),lj,qW _,rX _,uh,ui,uG,uw⟩ func41 rfl (kX) (uT (gp (kT (kX)) (gq (lS.sz _ _).symm)) _ (AE.nb (lS.nS ((o0,()),(o1,()),(o2,()),())) (a0,()))) (fun x hx=>DD (gp (kT (kX)) (gq (lS.sz _ _).symm)) _ (lS.nb _ _ x hx)) ntmps41 results41 (low:=3) (by rfl) rfl (((NS n).2 a0 o0 o1 o2).trans h)
@[reducible] def aiC:mg Bool:=qj fS f244 n (pR fS [.tmp 4] p8) (cl:=oN [(280,q6 oa oa p8 (Bv n))])
def MC:Vd (aiC n) oa oa 8:=mB
def KG:=fu fun n=>(MC n).1
def ag1:∀n:Nat,AW fS 244 oa oa p8 (KG n):=EW fun n=>CN (MC n) (gd (k8 (ni (Pb n)) li) lj) func244 ntmps244 results244
@[reducible] def UF:mg Int:=qj fS f84 n (pR fS [.tmp 2] (oe .i64)) (cd:=KO [(94,tV (rB (xM kZ.lU) (nh mG.lU) (oh n)))]) (AI:=oR []) (AK:=oR [])
@[go_sem]def ag2:yB (UF n) [0,1]=true:=kX
def Lm:SC1 (UF n) (xM kZ.lU) 11:=mB
def uc:=fu fun n=>(Lm n).1
def xN:∀n:Nat,EE fS 84 (xM kZ.lU) (oe .i64) (uc n):=GQ fun n=>F4 (Lm n) (gd li (ot (p4 (oH n)) lj)) func84 ntmps84 results84
@[reducible] def Ln:mg (Te×(lH×Unit)):=qj fS f88 n (ams fS [.tmp 2] (xo (CK kZ.lU) vI) (V0 oa KQ) 1) (cl:=oN [(94,HJ (tV (rB (xM kZ.lU) (nh mG.lU) (oh n))))]) (AI:=oR []) (AK:=oR [])
@[go_sem]def ag3:yB (Ln n) [0,0,1,1]=true:=kX
def Lo:{B:kZ->Option (Te×(lH×Unit)) //∀(a0:kZ),run (Ln n) [.at []] (ini ((WK 0 MJ).enc (a0,()) ()) 26 ((xo (CK kZ.lU) vI).enc (a0,())))=B a0}:=mB
def nV:=fu fun n=>(Lo n).1
def nZ:∀(n:Nat)(a0:kZ)(r:(Te×(lH×Unit))),nV n a0=some r->FnG fS 88 ((WK 0 MJ).enc (a0,()) ()) ((xo (CK kZ.lU) vI).enc (a0,())) (fun o H'=>o=.ret (vJ ((V0 oa KQ).enc r.1 r.2))/\H'=(xo (CK kZ.lU) vI).enc r.1)
 |0,_,_,h=>by cases h
 |n+1,a0,r,h=>by
  exact zy (M:=Ln n) ⟨(k8 (s9 (p4 (oH n))) li),lj,qW _,rX _,uh,ui,uG,uw⟩ func88 rfl rfl (by simp only[go_sem,fX,fY,fT,fU,fZ,ga,gh,gi,gj,fV,gb,gk]) ((xo (CK kZ.lU) vI).nb _ _) ntmps88 results88 (fun J hs=>Ze hs) (((Lo n).2 a0).trans h)
@[reducible] def aj5:mg Bool:=qj fS f85 n (pR fS [.tmp 6] p8) (cl:=oN [(94,rB (xM kZ.lU) (nh mG.lU) (oh n))])
def NT:SC3 (aj5 n) (xM kZ.lU) (oe .i64) oa 20:=mB
def xd:=fu fun n=>(NT n).1
def CV:∀n:Nat,awJ fS 85 (xM kZ.lU) (oe .i64) oa p8 (xd n):=aHs fun n=>aEz (NT n) (gd (k8 (oX (oH n)) li) lj) func85 ntmps85 results85
end Go.Abs
end
