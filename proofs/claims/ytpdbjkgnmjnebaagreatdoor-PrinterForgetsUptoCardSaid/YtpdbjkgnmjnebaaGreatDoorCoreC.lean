/- A part of the proof: abstract states and the rules for them. -/
import Derived.Test.YtpdbjkgnmjnebaaGreatDoorCoreB
import Derived.Attr
import Derived.Laws.StructEq
import Derived.ChangeKeysEq
import Derived.Below
import Derived.Laws.AppendOwn
import Derived.Lib.Join
import Derived.Lib.SplitLaws
import Derived.Lib.IndexAny
import Derived.Lib.IndexMore
import Derived.Deep.Draws
import Derived.RecoverIn
set_option linter.all false
open Go renaming Oper→aPE,Code→aPF,FuncId→aPG,Value→aPH,Program→aPI,World→aPJ,LoopState→aPK,IntKind→aPL
open Option renaming bind_eq_some_iff→ed,bind_some→eE,map_some→eT,map_eq_some_iff→eY,or_eq_some_iff→eZ,map→ff
open Option.some renaming injEq→eg
open Prod.mk renaming injEq→eo
open Bool renaming and_eq_true→ep
open List renaming getElem?_eq_getElem→eu,replicate→ew,getElem?_eq_some_iff→ey,take_left'→ez,drop_left'→eA,getElem?_set_self→eB,length_cons→eF,eq_nil_of_length_eq_zero→eH,map_congr_left→eJ,getElem?_cons_succ→eK,getElem?_of_mem→eN,all_cons→eO,mem_cons→eP,getElem?_map→eQ,isEmpty_nil→eR,getElem?_cons_zero→eS,length_map→eU,length_set→eV,nil_append→eX,take_append_drop→e8,mem_of_getElem?→e9,range→fa,map_cons→fb,map_map→fc,range'→fe
open Nat renaming le_refl→eD,zero_le→eL,not_lt_zero→eW
open Array renaming replicate→eG,toList_append→eI
open List.cons renaming injEq→eM
noncomputable section
namespace Go.Abs
variable {W:Type}{r v x:AV}{lR:Array aPE}{b:Bool}{lk lk':Bz}{y:aPF}{u:FrameMode}{f:aPG}{E:HI}{js:List (Int×aPF)}{BA rows:List (List AV)}{args cs ds s ys:List AV}{base p rd Y:List Nat}{rs:List ResultVar}{tr:List Tr}{H H' Ys Ys' nw:List lw}{a g i j k l l0 low m n off:Nat}{τ:Nat->Nat}{U:Nat->aPH}{O O':Type}{o:aPE}{c:Operand}{dst:Option Tmp}{P:aPI}{R W':Type}{h:aPH}{T:aPH->aPJ->Array aPH->(Ending->aPJ->Prop)->Prop}{J J':k9}{Q:qK->k9->Prop}{C:tC}{F:O->W->Option (O'×W')}
def akP:Nat->aPF->aPF
 |0,.seq x _=>x
 |1,.seq _ y=>y
 |0,.cond _ x _=>x
 |1,.cond _ _ y=>y
 |0,.block _ x=>x
 |0,.loop x=>x
 |0,.scope x=>x
 |_,_=>.skip
def sub:List Nat->aPF->aPF
 |[],c=>c
 |d::p,c=>akP d (sub p c)
inductive Kt where
 |at (p:List Nat)
 |cut (p:List Nat)
 |lR (lR:Array aPE) (rest:List aPE)
 |Yz (p:List Nat) (rest:List aPE) (j:Nat) (tr:List Tr)
 |wF (id:Nat)
 |lp (m:Nat) (p:List Nat)
 |lq (m:Nat) (p:List Nat)
 |rb
 |rd
def ayb(J:k9):Option lw->Option k9
 |some (.loop k s .ready 0)=>some {J with heap:=J.heap.set 0 (.loop k s .busy 0)}
 |_=>none
def amn(J:k9):Option k9:=ayb J J.heap[0]?
section

def ayc:aPF->Array aPE
 |.region _ lR _=>lR
 |_=> #[]
def wV(M:mg R)(p:List Nat):Array aPE:=ayc (sub p M.body)
def DL(M:mg R):Kt->k9->Option (qK×k9)
 |.at p,J=>exec M (sub p M.body) p J
 |.cut p,J=>(M.cut p J).map fun J'=>(.normal,J')
 |.lR lR rest,J=>zx M lR rest J
 |.Yz p rest j tr,J=>Pn M (wV M p) rest j tr J
 |.wF _,J=>some (.normal,J)
 |.lp m p,J=>(M.vc p J).bind (lqN (M.vc p) (exec M (sub (0::p) M.body) (0::p)) m)
 |.lq m p,J=>lqN (M.vc p) (exec M (sub (0::p) M.body) (0::p)) m J
 |.rb,J=>(amn J).map fun J'=>(.normal,J')
 |.rd,_=>none
def CF(M:mg R):List Kt->qK->k9->Option R
 |[],.normal,J=>M.out J
 |[],.ret,J=>M.out J
 |[],.panic x,J=>M.ua x J
 |[],_,_=>none
 |.rd::_,e,J=>M.pR e J
 |.wF id::k,.exit id',J=>if id'=id then CF M k .normal J else CF M k (.exit id') J
 |x::k,.normal,J=>match DL M x J with
  |some (e,J')=>CF M k e J'
  |none=>none
 |_::k,e,J=>CF M k e J
def run(M:mg R)(k:List Kt)(J:k9):Option R:=CF M k .normal J
variable {M:mg R} {k:List Kt}
def aF4:run M [] J=M.out J:=rfl
def aF5{id:Nat}:run M (.wF id::k) J=run M k J:=rfl
theorem tF{x:Kt}(h:∀id,x≠ .wF id)(h2:x≠ .rd:=by simp):CF M (x::k) .normal J=match DL M x J with
 |some (e,J')=>CF M k e J'
 |none=>none:=by
 cases x<;>first|rfl|exact absurd rfl (h _)|exact absurd rfl h2
def avr:run M (.lR lR []::k) J=run M k J:=rfl
def att:run M (.Yz p [] j tr::k) J=run M k J:=rfl
def z6(id:Nat):List Kt->Option (List Kt)
 |[]=>none
 |.wF id'::k=>if id=id' then some k else z6 id k
 |.rd::_=>none
 |_::k=>z6 id k
def aLc:Kt->Bool
 |.rd=>true
 |_=>false
def avs:List Kt->Bool
 |[]=>false
 |x::k=>aLc x||avs k
def MP{id:Nat}:∀{k k':List Kt},z6 id k=some k'->CF M k (.exit id) J=run M k' J
 |[],_,h=>by simp [z6]at h
 | .wF id'::k,k',h=>by
   simp only[z6]at h;split at h
   ·rename_i e;cases h;subst e;simp only[CF,kW];rfl
   ·rename_i e;simp only[CF,e,if_false];exact MP h
 |.at _::k,k',h=>MP (k:=k) (by simpa [z6] using h)
 |.cut _::k,k',h=>MP (k:=k) (by simpa [z6] using h)
 |.lR _ _::k,k',h=>MP (k:=k) (by simpa [z6] using h)
 |.Yz _ _ _ _::k,k',h=>MP (k:=k) (by simpa [z6] using h)
 |.lp _ _::k,k',h=>MP (k:=k) (by simpa [z6] using h)
 |.lq _ _::k,k',h=>MP (k:=k) (by simpa [z6] using h)
 |.rb::k,k',h=>MP (k:=k) (by simpa [z6] using h)
 |.rd::k,k',h=>by simp [z6]at h
def MQ{id:Nat}:∀{k:List Kt},z6 id k=none->CF M k (.exit id) J=bif avs k then M.pR (.exit id) J else none
 |[],_=>rfl
 | .wF id'::k,h=>by
   simp only[z6]at h;split at h
   ·cases h
   ·rename_i e;simp only[CF,e,if_false];exact MQ h
 |.rb::k,h=>MQ (k:=k) (by simpa [z6] using h)
 |.rd::k,h=>rfl
 |.at _::k,h=>MQ (k:=k) (by simpa [z6] using h)
 |.cut _::k,h=>MQ (k:=k) (by simpa [z6] using h)
 |.lR _ _::k,h=>MQ (k:=k) (by simpa [z6] using h)
 |.Yz _ _ _ _::k,h=>MQ (k:=k) (by simpa [z6] using h)
 |.lp _ _::k,h=>MQ (k:=k) (by simpa [z6] using h)
 |.lq _ _::k,h=>MQ (k:=k) (by simpa [z6] using h)
def SF:∀{k:List Kt},CF M k .ret J=bif avs k then M.pR .ret J else M.out J
 |[]=>rfl
 |.rb::k=>SF (k:=k)
 |.rd::k=>rfl
 |.wF _::k=>SF (k:=k)
 |.at _::k=>SF (k:=k)
 |.cut _::k=>SF (k:=k)
 |.lR _ _::k=>SF (k:=k)
 |.Yz _ _ _ _::k=>SF (k:=k)
 |.lp _ _::k=>SF (k:=k)
 |.lq _ _::k=>SF (k:=k)
def atu(M:mg R)(x:AV)(J:k9)(k:List Kt):Option R:=bif avs k then M.pR (.panic x) J else M.ua x J
theorem GO{x:AV}:∀{k:List Kt},CF M k (.panic x) J=atu M x J k
 |[]=>rfl
 |.rb::k=>GO (k:=k)
 |.rd::k=>rfl
 |.wF _::k=>GO (k:=k)
 |.at _::k=>GO (k:=k)
 |.cut _::k=>GO (k:=k)
 |.lR _ _::k=>GO (k:=k)
 |.Yz _ _ _ _::k=>GO (k:=k)
 |.lp _ _::k=>GO (k:=k)
 |.lq _ _::k=>GO (k:=k)
def asc(M:mg R)(J:k9)(id:Nat)(k:List Kt):Option (List Kt)->Option R
 |some k=>run M k J
 |none=>bif avs k then M.pR (.exit id) J else none
def ayd{id:Nat}{k k':List Kt}:asc M J id k (some k')=run M k' J:=rfl
def aye{id:Nat}{k:List Kt}:asc M J id k none=bif avs k then M.pR (.exit id) J else none:=rfl
def aDr(M:mg R)(J:k9)(k:List Kt):Option R:=bif avs k then M.pR .ret J else M.out J
def ai1(M:mg R)(k:List Kt)(J:k9):Option aPF->Option R
 |none=>run M k J
 |some .ret=>aDr M J k
 |some (.exit id)=>asc M J id k (z6 id k)
 |_=>none
def apA(M:mg R)(k:List Kt)(J:k9)(H':List lw):Option lw->Option R
 |some (.loop lk _ st xE)=>qq (st=stP (sG lk.js xE)) (ai1 M k {J with heap:=H'.set J.heap.length .zU} (sG lk.js xE))
 |_=>none
def ajN(M:mg R)(k:List Kt)(J:k9):Option (AV×List lw)->Option R
 |some (_,H')=>apA M k J H' H'[J.heap.length]?
 |none=>none
def az8(M:mg R)(lk:Bz)(k:List Kt)(J:k9):AV->Option R
 |.func (.func f) first cap=>ajN M k J (M.cl f (first++[.map J.heap.length]++cap) (J.heap++[.loop lk J.lE .ready 0]))
 |_=>none
def ayf:ai1 M k J none=run M k J:=rfl
def aBj:ai1 M k J (some .ret)=aDr M J k:=rfl
def ayg{id:Nat}:ai1 M k J (some (.exit id))=asc M J id k (z6 id k):=rfl
def ayh{x y:Option aPF}:ai1 M k J (bif b then x else y)=bif b then ai1 M k J x else ai1 M k J y:=by cases b<;>rfl
theorem avt{st:aPK}{xE:Int}:apA M k J H' (some (.loop lk s st xE))=qq (st=stP (sG lk.js xE)) (ai1 M k {J with heap:=H'.set J.heap.length .zU} (sG lk.js xE)):=rfl
def avu:ajN M k J (some (r,H'))=apA M k J H' H'[J.heap.length]? :=rfl
def avv:ajN M k J none=none:=rfl
def avw{o:Option W}{f:W->Option (AV×List lw)}:ajN M k J (o.bind f)=o.bind fun x=>ajN M k J (f x):=by cases o<;>rfl
def ayi{first cap:List AV}:az8 M lk k J (.func (.func f) first cap)=ajN M k J (M.cl f (first++[.map J.heap.length]++cap) (J.heap++[.loop lk J.lE .ready 0])):=rfl
def amo(M:mg R)(c:Operand)(p:List Nat)(k:List Kt)(J:k9):AV->Option R
 |.bool b=>bif b then run M (.at (0::p)::k) (apr c true J)else run M (.at (1::p)::k) (apr c false J)
 |_=>none
def avx:amo M c p k J (.bool true)=run M (.at (0::p)::k) (apr c true J):=rfl
def atv:amo M c p k J (.bool false)=run M (.at (1::p)::k) (apr c false J):=rfl
def ayj:amo M c p k J (.bool b)=bif b then run M (.at (0::p)::k) (apr c true J)else run M (.at (1::p)::k) (apr c false J):=rfl
def yB(M:mg R)(p:List Nat):Bool:=
 match sub p M.body with
 |.region _ lR _=>NG lR
 |_=>false
def ayk(js:List (Int×aPF)):aPF->Bz
 |.rangeFunc _ ps aPp body=>⟨ps,aPp,body,js⟩
 |_=>⟨#[],.skip,.skip,[]⟩
def lkM(M:mg R)(p:List Nat):Bz:=ayk (M.js p) (sub p M.body)
def KY(M:mg R)(p:List Nat)(k:List Kt)(J:k9):aPF->Option R
 |.skip=>run M k J
 |.region _ lR false=>run M (.lR lR lR.toList::k) J
 |.region _ lR true=>qq (M.P.follows .mixedOrders=true/\yB M p=true) (run M (.Yz p lR.toList 0 []::k) J)
 |.seq _ _=>run M (.at (0::p)::.cut (1::p)::.at (1::p)::k) J
 |.cond c _ _=>amo M c p k J (J.ev c)
 |.block id _=>run M (.at (0::p)::.wF id::k) J
 |.loop _=>run M (.lp M.n p::k) J
 |.exit id=>asc M J id k (z6 id k)
 |.scope _=>run M (.at (0::p)::k) J
 |.label _=>run M k J
 |.ret=>aDr M J k
 |.rangeFunc g _ _ _=>az8 M (lkM M p) k J (J.ev g)
 |_=>none
theorem aBk{id:Nat}{e:qK}:CF M (.wF id::k) e J=match (match e with
 |.exit id'=>if id'=id then(qK.normal,J)else(.exit id',J)
 |e=>(e,J))with
 |(e,J)=>CF M k e J:=by
 cases e with
 |exit id'=>
  simp only[CF];split<;>rfl
 |_=>rfl
theorem avy{x:Kt}{e:qK}(h:∀id,x≠ .wF id)(he:e≠ .normal)(h2:x≠ .rd:=by simp):CF M (x::k) e J=CF M k e J:=by
 cases x<;>cases e<;>first|rfl|exact absurd rfl (h _)|exact absurd rfl he|exact absurd rfl h2
def aI6:run M (.at p::k) J=KY M p k J (sub p M.body):=by
 show CF M (.at p::k) .normal J=_;rw[tF (by simp)];simp only[DL];cases hc:sub p M.body with
 |skip=>rfl
 |region id lR b=>
  cases b with
  |false=>
   simp only[exec,KY];show _=CF M (.lR lR lR.toList::k) .normal J
   grind [tF,DL]
  |true=>
   simp only[exec,KY];show _=qq _ (CF M (.Yz p lR.toList 0 []::k) .normal J)
   grind [tF,DL,yB,wV,ayc,qq]
 |seq x y=>
  simp only[exec,KY];show _=CF M (.at (0::p)::.cut (1::p)::.at (1::p)::k) .normal J;rw[tF (by simp)];have h0:sub (0::p) M.body=x:=by simp [sub,hc,akP]
  have h1:sub (1::p) M.body=y:=by simp [sub,hc,akP]
  simp only[DL,h0];cases hx:exec M x (0::p) J with
  |none=>rfl
  |some r=>
   obtain⟨e1,J1⟩:=r;cases e1 with
   |normal=>
    simp only;rw[tF (by simp)];simp only[DL];cases aI7:M.cut (1::p) J1 with
    |none=>rfl
    |some J2=>
     grind [tF,DL]
   |_=>
    simp_all [avy]
 |cond c x y=>
  simp only[exec,KY];have h0:sub (0::p) M.body=x:=by simp [sub,hc,akP]
  have h1:sub (1::p) M.body=y:=by simp [sub,hc,akP]
  cases hv:J.ev c with
  |bool b=>
   simp only[amo];cases b with
   |true=>
    simp only[kP];show _=CF M (.at (0::p)::k) .normal _
    grind [tF,DL]
   |false=>
    simp only[kQ];show _=CF M (.at (1::p)::k) .normal _
    grind [tF,DL]
  |_=>rfl
 |block id x=>
  simp only[exec,KY];have h0:sub (0::p) M.body=x:=by simp [sub,hc,akP]
  show _=CF M (.at (0::p)::.wF id::k) .normal J
  grind [tF,DL,aBk]
 |loop x=>
  simp only[exec,KY];have h0:sub (0::p) M.body=x:=by simp [sub,hc,akP]
  show _=CF M (.lp M.n p::k) .normal J
  grind [tF,DL]
 |exit id=>
  simp only[exec,KY];cases hb:z6 id k with
  |none=>exact MQ hb
  |some k'=>exact MP hb
 |scope x=>
  simp only[exec,KY];have h0:sub (0::p) M.body=x:=by simp [sub,hc,akP]
  show _=CF M (.at (0::p)::k) .normal J
  grind [tF,DL]
 |label l=>rfl
 |ret=>exact SF
 |goto l=>rfl
 |rangeFunc g ps aPp body=>
  have hlk:lkM M p=⟨ps,aPp,body,M.js p⟩:=by simp only[lkM,hc,ayk]
  simp only[exec,KY,hlk];cases hv:J.ev g with
  |func fn first cap=>
   cases fn with
   |func f=>
    simp only[aDl,az8];cases hcl:M.cl f (first++[.map J.heap.length]++cap) (J.heap++[.loop ⟨ps,aPp,body,M.js p⟩ J.lE .ready 0])with
    |none=>rfl
    |some q=>
     obtain⟨r,H'⟩:=q;simp only[ajN];cases hH:H'[J.heap.length]? with
     |none=>rfl
     |some x=>
      cases x with
      |loop lk s st xE=>
       simp only[aFZ,apA];by_cases hst:st=stP (sG lk.js xE)
       ·simp only[qq,if_pos hst];generalize sG lk.js xE=pc;cases pc with
        |none=>rfl
        |some c=>
         cases c with
         |ret=>exact SF
         |exit id=>
          simp only[avm,ai1];cases hb:z6 id k with
          |none=>exact MQ hb
          |some k'=>exact MP hb
         |_=>rfl
       ·simp only[qq,if_neg hst]
      |_=>rfl
   |_=>rfl
  |_=>rfl
 |refuse s=>rfl
def ayl:KY M p k J .skip=run M k J:=rfl
def atw{id:Nat}:KY M p k J (.region id lR false)=run M (.lR lR lR.toList::k) J:=rfl
def aym{id:Nat}:KY M p k J (.region id lR true)=qq (M.P.follows .mixedOrders=true) (qq (yB M p=true) (run M (.Yz p lR.toList 0 []::k) J)):=by
 rw[<-aib];rfl
def aBl {x:aPF}:KY M p k J (.seq x y)=run M (.at (0::p)::.cut (1::p)::.at (1::p)::k) J:=rfl
def ayn {x:aPF}:KY M p k J (.cond c x y)=amo M c p k J (J.ev c):=rfl
def avz{id:Nat}{x:aPF}:KY M p k J (.block id x)=run M (.at (0::p)::.wF id::k) J:=rfl
def ayo{x:aPF}:KY M p k J (.loop x)=run M (.lp M.n p::k) J:=rfl
def ayp{id:Nat}:KY M p k J (.exit id)=asc M J id k (z6 id k):=rfl
def avA{g:Operand}{ps:Array Tmp}{aPp body:aPF}:KY M p k J (.rangeFunc g ps aPp body)=az8 M (lkM M p) k J (J.ev g):=rfl
def avB{x:aPF}:KY M p k J (.scope x)=run M (.at (0::p)::k) J:=rfl
def avC:KY M p k J (.label l)=run M k J:=rfl
def aBm:KY M p k J .ret=aDr M J k:=rfl
def aI8:run M (.rb::k) J=(amn J).bind fun J'=>run M k J':=by
 show CF M (.rb::k) .normal J=_;rw[tF (by simp)];simp only[DL];cases amn J<;>rfl
def aI9:run M (.rd::k) J=M.pR .normal J:=rfl
def WJ:run M (.cut p::k) J=(M.cut p J).bind fun J'=>run M k J':=by
 show CF M (.cut p::k) .normal J=_;rw[tF (by simp)];simp only[DL];cases M.cut p J<;>rfl
def aJa:run M (.lp m p::k) J=(M.vc p J).bind fun J'=>run M (.lq m p::k) J':=by
 show CF M (.lp m p::k) .normal J=_;rw[tF (by simp)];simp only[DL];cases h:M.vc p J with
 |none=>rfl
 |some J'=>
  simp only[eE];show _=CF M (.lq m p::k) .normal J'
  grind [tF,DL]
def SZ:run M (.lq 0 p::k) J=none:=by
 show CF M (.lq 0 p::k) .normal J=_
 grind [tF,DL,lqN]
theorem KZ:run M (.lq (m+1) p::k) J=run M (.at (0::p)::.lp m p::k) J:=by
 show CF M (.lq (m+1) p::k) .normal J=CF M (.at (0::p)::.lp m p::k) .normal J;rw[tF (by simp),tF (by simp)];simp only[DL,lqN];cases hx:exec M (sub (0::p) M.body) (0::p) J with
 |none=>rfl
 |some r=>
  obtain⟨e1,J1⟩:=r;cases e1 with
  |normal=>
   grind [tF,DL]
  |_=>
   grind [avy]
def wJ(M:mg R)(lR:Array aPE)(dst:Option Tmp)(rest:List aPE)(k:List Kt)(J:k9):Option yO->Option R
 |some e=>qq e.pre (run M (.lR lR rest::k) (J.app dst e))
 |none=>none
def Q6(M:mg R)(lR:Array aPE)(dst:Option Tmp)(rest:List aPE)(k:List Kt)(J:k9):Option (AV×List lw)->Option R
 |some (r,H')=>run M (.lR lR rest::k) (k9.put {J with heap:=H'} dst r)
 |none=>none
def Zc(M:mg R)(lR:Array aPE)(dst:Option Tmp)(rest:List aPE)(k:List Kt)(J:k9):Option (yJ×List lw)->Option R
 |some (.ret r,H')=>run M (.lR lR rest::k) (k9.put {J with heap:=H'} dst r)
 |some (.panic x,H')=>atu M x {J with heap:=H'} k
 |none=>none
def az9(M:mg R)(lR:Array aPE)(dst:Option Tmp)(rest:List aPE)(k:List Kt)(J:k9):Option (aPG×List AV)->Option R
 |some p=>run M (.lR lR rest::k) (J.dfr p dst)
 |none=>none
def aAa(M:mg R)(k:List Kt)(J:k9):Option AV->Option R
 |some x=>atu M x J k
 |none=>none
def AM(M:mg R)(lR:Array aPE)(dst:Option Tmp)(rest:List aPE)(k:List Kt)(J:k9):Op->Option R
 |.defer c=>az9 M lR dst rest k J (LZ J (.defer c))
 |.panic x=>aAa M k J (abr J (.panic x))
 |o=>wJ M lR dst rest k J (nf M.P J o)
def asd(M:mg R)(lR:Array aPE)(o:aPE)(rest:List aPE)(k:List Kt)(J:k9):Option (Nat×List AV)->Option R
 |some (l,args)=>Q6 M lR o.dst rest k J (M.cy l args J.heap)
 |none=>AM M lR o.dst rest k J o.op
def ai2(M:mg R)(lR:Array aPE)(o:aPE)(rest:List aPE)(k:List Kt)(J:k9):Option (aPG×List AV)->Option R
 |some (f,args)=>bif M.zV f then Zc M lR o.dst rest k J (M.cp f args J.heap)else Q6 M lR o.dst rest k J (M.cl f args J.heap)
 |none=>asd M lR o rest k J (Gf J o.op)
def avD(M:mg R)(lR:Array aPE)(o:aPE)(rest:List aPE)(k:List Kt)(J:k9):Option Bool->Option R
 |none=>none
 |some b=>bif b then ai2 M lR o rest k (zW lR o true J) (pZ (zW lR o true J) o.op)else run M (.lR lR rest::k) ((zW lR o false J).put o.dst (.uS undef))
def aF6 {rest:List aPE}:run M (.lR lR (o::rest)::k) J=avD M lR o rest k J (tH lR o J):=by
 have hr:∀J,run M (.lR lR rest::k) J=match zx M lR rest J with|some (e,J')=>CF M k e J'|none=>none:=by
  intro J;show CF M (.lR lR rest::k) .normal J=_
  grind [tF,DL]
 have hl:run M (.lR lR (o::rest)::k) J=match zx M lR (o::rest) J with|some (e,J')=>CF M k e J'|none=>none:=by
  show CF M (.lR lR (o::rest)::k) .normal J=_
  grind [tF,DL]
 rw[hl];simp only[zx];cases hw:tH lR o J with
 |none=>rfl
 |some b=>
  simp only[avD];cases b with
  |false=>simp only[kQ,hr]
  |true=>
   simp only[kP];cases hc:pZ (zW lR o true J) o.op with
   |some q=>
    grind [ai2,Zc,GO,Q6]
   |none=>
    simp only[ai2];cases hy:Gf (zW lR o true J) o.op with
    |some q=>
     grind [asd,Q6]
    |none=>
     simp only[asd]
     have key:(∀c,o.op≠ .defer c)->(∀x,o.op≠ .panic x)->AM M lR o.dst rest k (zW lR o true J) o.op=wJ M lR o.dst rest k (zW lR o true J) (nf M.P (zW lR o true J) o.op):=by
      simp_all [AM]
     by_cases h1:∃c,o.op=.defer c
     ·obtain⟨c,hc'⟩:=h1;simp only[hc',nf,AM]
      grind [az9,abr]
     ·by_cases h2:∃x,o.op=.panic x
      ·obtain⟨x,hx⟩:=h2;simp only[hx,nf,AM,LZ]
       grind [aAa,GO]
      ·rw[key (fun c hc'=>h1 ⟨c,hc'⟩) (fun x hx=>h2 ⟨x,hx⟩)];cases he:nf M.P (zW lR o true J) o.op with
       |none=>
        simp_all [wJ,LZ,abr]
       |some e=>
        grind [wJ,qq]
def ayq{rest:List aPE}:avD M lR o rest k J (some true)=ai2 M lR o rest k (zW lR o true J) (pZ (zW lR o true J) o.op):=rfl
def avE{rest:List aPE}:avD M lR o rest k J (some false)=run M (.lR lR rest::k) ((zW lR o false J).put o.dst (.uS undef)):=rfl
def aBn{rest:List aPE}:avD M lR o rest k J (some b)=bif b then ai2 M lR o rest k (zW lR o true J) (pZ (zW lR o true J) o.op)else run M (.lR lR rest::k) ((zW lR o false J).put o.dst (.uS undef)):=rfl
def ayr{rest:List aPE}:ai2 M lR o rest k J (some (f,args))=bif M.zV f then Zc M lR o.dst rest k J (M.cp f args J.heap)else Q6 M lR o.dst rest k J (M.cl f args J.heap):=rfl
def aBo{rest:List aPE}:Zc M lR dst rest k J (some (.ret r,H'))=run M (.lR lR rest::k) (k9.put {J with heap:=H'} dst r):=rfl
def aBp{rest:List aPE}:Zc M lR dst rest k J (some (.panic x,H'))=atu M x {J with heap:=H'} k:=rfl
def ays{rest:List aPE}:Zc M lR dst rest k J none=none:=rfl
def ayt{rest:List aPE}{o:Option W}{f:W->Option (yJ×List lw)}:Zc M lR dst rest k J (o.bind f)=o.bind fun x=>Zc M lR dst rest k J (f x):=by
 cases o<;>rfl
def ayu{rest:List aPE}{x y:Option (yJ×List lw)}:Zc M lR dst rest k J (bif b then x else y)=bif b then Zc M lR dst rest k J x else Zc M lR dst rest k J y:=by cases b<;>rfl
def ayv{rest:List aPE}{p:aPG×List AV}:az9 M lR dst rest k J (some p)=run M (.lR lR rest::k) (J.dfr p dst):=rfl
def ayw:aAa M k J (some x)=atu M x J k:=rfl
def ayx{rest:List aPE}:ai2 M lR o rest k J none=asd M lR o rest k J (Gf J o.op):=rfl
def ayy{rest:List aPE}:asd M lR o rest k J (some (l,args))=Q6 M lR o.dst rest k J (M.cy l args J.heap):=rfl
def ayz{rest:List aPE}:asd M lR o rest k J none=AM M lR o.dst rest k J o.op:=rfl
def ayA{rest:List aPE}:wJ M lR dst rest k J none=none:=rfl
def ayB{rest:List aPE}{up:List (Nat×lw)}{p:Prop}:
 wJ M lR dst rest k J (some {val:=x,rd,up,nw,pre:=p})=qq p (run M (.lR lR rest::k) {J.put dst x with heap:=pI J.heap up++nw}):=rfl
def ayC{rest:List aPE}{o:Option W}{f:W->Option yO}:wJ M lR dst rest k J (o.bind f)=o.bind fun x=>wJ M lR dst rest k J (f x):=by
 cases o<;>rfl
def aBq{rest:List aPE}{p:Prop}[Decidable p]{a b:Option yO}:wJ M lR dst rest k J (if p then a else b)=bif decide p then wJ M lR dst rest k J a else wJ M lR dst rest k J b:=by
 by_cases h:p<;>simp [h]
def ayD{rest:List aPE}:Q6 M lR dst rest k J (some (r,H'))=run M (.lR lR rest::k) (k9.put {J with heap:=H'} dst r):=rfl
theorem apB{rest:List aPE}:Q6 M lR dst rest k J none=none:=rfl
def ayE{rest:List aPE}{o:Option W}{f:W->Option (AV×List lw)}:Q6 M lR dst rest k J (o.bind f)=o.bind fun x=>Q6 M lR dst rest k J (f x):=by
 cases o<;>rfl
def adr(M:mg R)(p:List Nat)(tr:List Tr)(j:Nat)(e:yO):Prop:=adp (wV M p) tr j e
def R3(M:mg R)(p:List Nat)(i j:Nat):Bool:=anN (wV M p) i j
def ayF{e:yO}:adr M p tr j e=(e.amh=true\/(tr.all fun t=>GL t e||R3 M p t.j j)=true):=rfl
def DM(M:mg R)(p:List Nat)(dst:Option Tmp)(rest:List aPE)(j:Nat)(tr:List Tr)(k:List Kt)(J:k9):Option yO->Option R
 |some e=>qq (e.pre/\adr M p tr j e) (run M (.Yz p rest (j+1) (R2 tr j J.heap.length e)::k) (J.app dst e))
 |none=>none
def ajO(M:mg R)(p:List Nat)(dst:Option Tmp)(rest:List aPE)(j:Nat)(tr:List Tr)(k:List Kt)(J:k9):Option AV->Option R
 |some r=>run M (.Yz p rest (j+1) tr::k) (J.put dst r)
 |none=>none
def agB(M:mg R)(p:List Nat)(c:Nat)(rest:List aPE)(j:Nat)(J:k9):Prop:=aby M.P (wV M p) c rest j J
def aaa(M:mg R)(p:List Nat)(c:Nat):Bool:=avf (wV M p) c
def Vb(M:mg R)(p:List Nat)(dst:Option Tmp)(rest:List aPE)(j:Nat)(tr:List Tr)(k:List Kt)(J:k9):Option CO->Option R
 |some (.ret e)=>DM M p dst rest j tr k J (some e)
 |some (.pan x H')=>qq (aaa M p j=true\/(Xh tr=true/\agB M p j rest (j+1) (J.put dst (.uS undef)))) (atu M x {J with lE:=ado (wV M p) J.lE,heap:=H'} k)
 |none=>none
def ajP(M:mg R)(p:List Nat)(o:aPE)(rest:List aPE)(j:Nat)(tr:List Tr)(k:List Kt)(J:k9):Option (aPG×List AV)->Option R
 |some (f,args)=>bif M.AI f then Vb M p o.dst rest j tr k J (M.co f args J.heap)else bif M.AK f then DM M p o.dst rest j tr k J (M.ce f args J.heap)else ajO M p o.dst rest j tr k J (M.cd f args)
 |none=>DM M p o.dst rest j tr k J (nf M.P J o.op)
def apC(M:mg R)(p:List Nat)(o:aPE)(rest:List aPE)(j:Nat)(tr:List Tr)(k:List Kt)(J:k9):Option Bool->Option R
 |none=>none
 |some b=>bif b then ajP M p o rest j tr k (zW (wV M p) o true J) (pZ (zW (wV M p) o true J) o.op)else run M (.Yz p rest (j+1) tr::k) ((zW (wV M p) o false J).put o.dst (.uS undef))
def aDs{rest:List aPE}:run M (.Yz p (o::rest) j tr::k) J=apC M p o rest j tr k J (tH (wV M p) o J):=by
 have hr:∀j tr J,run M (.Yz p rest j tr::k) J=match Pn M (wV M p) rest j tr J with|some (e,J')=>CF M k e J'|none=>none:=by
  intro j tr J;show CF M (.Yz p rest j tr::k) .normal J=_
  grind [tF,DL]
 have hl:run M (.Yz p (o::rest) j tr::k) J=match Pn M (wV M p) (o::rest) j tr J with|some (e,J')=>CF M k e J'|none=>none:=by
  show CF M (.Yz p (o::rest) j tr::k) .normal J=_
  grind [tF,DL]
 rw[hl];simp only[Pn];cases hw:tH (wV M p) o J with
 |none=>rfl
 |some b=>
  simp only[apC];cases b with
  |false=>simp only[kQ,hr]
  |true=>
   simp only[kP];cases hc:pZ (zW (wV M p) o true J) o.op with
   |some q=>
    obtain⟨f,args⟩:=q;simp only[ajP];cases hic:M.AI f with
    |true=>
     grind [Vb,DM,adr,qq,agB,aaa,GO]
    |false=>
    grind [DM,adr,qq,ajO]
   |none=>
    grind [ajP,DM,adr,qq]
def avF{rest:List aPE}:apC M p o rest j tr k J (some true)=ajP M p o rest j tr k (zW (wV M p) o true J) (pZ (zW (wV M p) o true J) o.op):=rfl
def atx{rest:List aPE}:apC M p o rest j tr k J (some false)=run M (.Yz p rest (j+1) tr::k) ((zW (wV M p) o false J).put o.dst (.uS undef)):=rfl
def ayG{rest:List aPE}:apC M p o rest j tr k J (some b)=bif b then ajP M p o rest j tr k (zW (wV M p) o true J) (pZ (zW (wV M p) o true J) o.op)else run M (.Yz p rest (j+1) tr::k) ((zW (wV M p) o false J).put o.dst (.uS undef)):=rfl
def avG{rest:List aPE}:ajP M p o rest j tr k J (some (f,args))=bif M.AI f then Vb M p o.dst rest j tr k J (M.co f args J.heap)else bif M.AK f then DM M p o.dst rest j tr k J (M.ce f args J.heap)else ajO M p o.dst rest j tr k J (M.cd f args):=rfl
def ayH{rest:List aPE}{e:yO}:Vb M p dst rest j tr k J (some (.ret e))=DM M p dst rest j tr k J (some e):=rfl
def ayI{rest:List aPE}:Vb M p dst rest j tr k J (some (.pan x H'))=bif aaa M p j then atu M x {J with lE:=ado (wV M p) J.lE,heap:=H'} k else qq (Xh tr=true) (qq (agB M p j rest (j+1) (J.put dst (.uS undef))) (atu M x {J with lE:=ado (wV M p) J.lE,heap:=H'} k)):=by
 grind [Vb,qq]
def avH{rest:List aPE}:Vb M p dst rest j tr k J none=none:=rfl
def avI{rest:List aPE}{o:Option W}{f:W->Option CO}:Vb M p dst rest j tr k J (o.bind f)=o.bind fun x=>Vb M p dst rest j tr k J (f x):=by
 cases o<;>rfl
def aBr {c:Nat}:agB M p c [] j J=True:=rfl
def QU(M:mg R)(p:List Nat)(c j:Nat):Bool:=sP (wV M p) c j
def ayJ {c:Nat}{rest:List aPE}(h:QU M p c j=true):agB M p c (o::rest) j J=agB M p c rest (j+1) (J.put o.dst (.uS undef)):=by
 unfold QU at h;show aby M.P (wV M p) c (o::rest) j J=aby M.P (wV M p) c rest (j+1) (J.put o.dst (.uS undef));simp only[aby,h]
def avJ{rest:List aPE}:DM M p dst rest j tr k J none=none:=rfl
def avK{rest:List aPE}{up:List (Nat×lw)}{pr:Prop}:
 DM M p dst rest j tr k J (some {val:=x,rd,up,nw,pre:=pr})=qq pr (qq (adr M p tr j {val:=x,rd,up,nw,pre:=pr}) (run M (.Yz p rest (j+1) (R2 tr j J.heap.length {val:=x,rd,up,nw,pre:=pr})::k) {J.put dst x with heap:=pI J.heap up++nw})):=by
 rw[<-aib];rfl
def avL{rest:List aPE}{o:Option W}{f:W->Option yO}:DM M p dst rest j tr k J (o.bind f)=o.bind fun x=>DM M p dst rest j tr k J (f x):=by
 cases o<;>rfl
def ayK{rest:List aPE}{pr:Prop}[Decidable pr]{a b:Option yO}:DM M p dst rest j tr k J (if pr then a else b)=bif decide pr then DM M p dst rest j tr k J a else DM M p dst rest j tr k J b:=by
 by_cases h:pr<;>simp [h]
def avM{rest:List aPE}:ajO M p dst rest j tr k J (some r)=run M (.Yz p rest (j+1) tr::k) (J.put dst r):=rfl
def avN{rest:List aPE}:ajO M p dst rest j tr k J none=none:=rfl
def avO{rest:List aPE}{o:Option W}{f:W->Option AV}:ajO M p dst rest j tr k J (o.bind f)=o.bind fun x=>ajO M p dst rest j tr k J (f x):=by
 cases o<;>rfl
def ads(G:KX M){r:R}(h:run M [.at []] J=some r)(hQ:∀J',M.out J'=some r->Q .normal J'/\Q .ret J')(hP:∀x J',M.ua x J'=some r->Q (.panic x) J'):awp M.P M.body Q J:=by
 have h':CF M [.at []] .normal J=some r:=h;rw[tF (by simp)]at h';simp only[DL,sub]at h';cases hx:exec M M.body [] J with
 |none=>simp only[hx]at h';cases h'
 |some q=>
  obtain⟨e,J'⟩:=q;simp only[hx]at h';refine DK G _ [] Q J e J' hx ?_;cases e with
  |normal=>exact(hQ J' h').1
  |ret=>exact(hQ J' h').2
  |panic x=>exact hP x J' h'
  |_=>simp only[CF]at h';cases h'
def aBs(G:KX M){r:R}(h:run M [.at []] J=some r)(hQ:∀J',M.out J'=some r->Q .normal J'/\Q .ret J')(hP:∀x J',M.ua x J'=none):awp M.P M.body Q J:=
 ads G h hQ fun x J' hx=>by rw[hP x J']at hx;cases hx
def apD:Op->Bool
 |.call {callee:=.value _,..}=>false
 |.panic _=>false
 |_=>true
def apE:aPF->Bool
 |.skip=>true
 |.region _ lR _=>lR.toList.all fun o=>apD o.op
 |.seq x y=>apE x&&apE y
 |_=>false
theorem agC{o:Op}(h:apD o=true):pZ J o=none:=by
 unfold pZ;split
 ·cases h
 ·rfl
theorem avP{o:Op}(h:apD o=true):abr J o=none:=by
 unfold abr;split
 ·cases h
 ·rfl
def adt{M:mg R}{lR:Array aPE}:∀(rest:List aPE)(J:k9)(e:qK)(J':k9),rest.all (fun o=>apD o.op)=true->zx M lR rest J=some (e,J')->e=.normal
 |[],J,e,J',_,h=>by grind [zx]
 |o::rest,J,e,J',hc,h=>by
  rw[eO,ep]at hc;have ih:=fun J=>adt (M:=M) (lR:=lR) rest J e J' hc.2
  simp only[zx]at h
  grind [agC,avP,pH]
def apF{M:mg R}{lR:Array aPE}:∀(rest:List aPE)(j:Nat)(tr:List Tr)(J:k9)(e:qK)(J':k9),rest.all (fun o=>apD o.op)=true->Pn M lR rest j tr J=some (e,J')->e=.normal
 |[],_,_,J,e,J',_,h=>by grind [Pn]
 |o::rest,j,tr,J,e,J',hc,h=>by
  rw[eO,ep]at hc;have ih:=fun tr J=>apF (M:=M) (lR:=lR) rest (j+1) tr J e J' hc.2
  grind [Pn,agC,pH]
def amq{M:mg R}: ∀(c:aPF)(p:List Nat)(J:k9)(e:qK)(J':k9),apE c=true->exec M c p J=some (e,J')->e= .normal
 |.skip,_,_,e,_,_,h=>by grind [exec]
 | .region _ lR false,_,_,e,_,hp,h=>by
   simp only[exec]at h;exact adt _ _ _ _ hp h
 | .region _ lR true,_,_,e,_,hp,h=>by
   simp only[exec]at h;rw[pH]at h;exact apF _ _ _ _ _ _ hp h.2
 | .seq x y,p,J,e,J',hp,h=>by
   simp only[apE,ep]at hp;simp only[exec]at h;cases hx:exec M x (0::p) J with
   |none=>simp only[hx]at h;cases h
   |some r=>
    obtain⟨e1,J1⟩:=r;have:=amq x _ _ _ _ hp.1 hx;subst this;simp only[hx]at h;cases hc:M.cut (1::p) J1 with
    |none=>grind
    |some J2=>
     simp only[hc,eE]at h;exact amq y _ _ _ _ hp.2 h
 |.cond _ _ _,_,_,_,_,hp,_=>by cases hp
 |.block _ _,_,_,_,_,hp,_=>by cases hp
 |.loop _,_,_,_,_,hp,_=>by cases hp
 |.exit _,_,_,_,_,hp,_=>by cases hp
 |.scope _,_,_,_,_,hp,_=>by cases hp
 |.label _,_,_,_,_,hp,_=>by cases hp
 |.ret,_,_,_,_,hp,_=>by cases hp
 |.goto _,_,_,_,_,hp,_=>by cases hp
 |.rangeFunc _ _ _ _,_,_,_,_,hp,_=>by cases hp
 |.refuse _,_,_,_,_,hp,_=>by cases hp
def akQ {lE:List AV}{V:yJ->List lw->Prop}{r:R}(G:KX M)(Q5:M.body= .seq lk.assign lk.body)(hp:apE lk.assign=true)(hn:Cg lk.assign=true/\Cg lk.body=true)
 (hH:H[0]? =some (.loop lk lE .ready 0)) (LY:yg H.length args) (Mw:∀x∈H,uJ H.length x) (anO:∀e J,M.pR e J=some r->az7 V e J)
 (h:run M [.at [0],.rb,.at [1],.rd] {lE:=VY lE lk.ps.toList args,heap:=H,low:=H.length}=some r):FnT M.P (Xc M.P) args H V:=by
 refine atr hH LY Mw hn ?_;have h0:sub [0] M.body=lk.assign:=by rw[Q5];rfl
 have h1:sub [1] M.body=lk.body:=by rw[Q5];rfl
 have h':CF M [.at [0],.rb,.at [1],.rd] .normal {lE:=VY lE lk.ps.toList args,heap:=H,low:=H.length}=some r:=h;rw[tF (by simp)]at h';simp only[DL,h0]at h';cases hx:exec M lk.assign [0] {lE:=VY lE lk.ps.toList args,heap:=H,low:=H.length} with
 |none=>simp only[hx]at h';cases h'
 |some q=>
  obtain⟨e,J'⟩:=q;have:=amq _ _ _ _ _ hp hx;subst this;simp only[hx]at h';refine DK G _ [0] _ _ .normal J' hx ?_;rw[tF (by simp)]at h';simp only[DL]at h';cases hb:amn J' with
  |none=>grind
  |some J2=>
   simp only[hb,eT]at h';unfold amn ayb at hb;split at hb
   ·rename_i k s hk;simp only[eg]at hb;subst hb;refine⟨k,s,hk,?_⟩;rw[tF (by simp)]at h';simp only[DL,h1]at h';cases WH:exec M lk.body [1] {J' with heap:=J'.heap.set 0 (.loop k s .busy 0)} with
    |none=>simp only[WH]at h';cases h'
    |some q=>
     obtain⟨e2,J3⟩:=q;simp only[WH]at h';refine DK G _ [1] _ _ e2 J3 WH ?_;exact anO e2 J3 (by cases e2<;>exact h')
   ·cases hb
def akR{fn:Func}{V:AV->Prop}{r:R}(G:KX M)(hf:M.P.funcs[f]? =some fn)(hb:fn.body=some M.body)(uP:(fn.name != "runtime.NumGoroutine")=true)(LY:yg 0 args)
 (hn:fn.ntmps=n) (Po:fn.results=rs.toArray) (anO:∀J,M.out J=some r->J.df=[]/\aBh V J.heap (VW M.P J rs))
 (h:run M [.at []] {lE:=args++ew (n-args.length) .any,heap:=[]}=some r) (hP:∀x J',M.ua x J'=none:=by intros;rfl):N6 M.P f args V:=by
 refine avk hf hb uP LY ?_;rw[Po,hn];refine aBs G h (fun J' hs=>?_) hP;have:=anO J' hs;exact⟨this,this⟩
end
section lists
variable {γ:Type}
def tU(f:O->Option W):List O->Option (List W)
 |[]=>some []
 |x::xs=>(f x).bind fun y=>(tU f xs).bind fun ys=>some (y::ys)
def aDt(f:O->Option W):tU f []=some []:=rfl
def aBt(f:O->Option W)(x:O)(xs:List O):tU f (x::xs)=(f x).bind fun y=>(tU f xs).bind fun ys=>some (y::ys):=rfl
def anh(f:O->Option W):∀a b:List O,tU f (a++b)=(tU f a).bind fun x=>(tU f b).bind fun y=>some (x++y)
 |[],b=>by simp_all [tU]
 |x::a,b=>by
  simp only[List.cons_append,tU,anh f a b];cases f x<;>simp;cases tU f a<;>simp;cases tU f b<;>simp
def apG{f:O->Option W}{g:W->O}(h:∀x,f (g x)=some x):∀xs:List W,tU f (xs.map g)=some xs
 |[]=>rfl
 |x::xs=>by simp [tU,h x,apG h xs]
def mp(f:W->O)(xs:List W):List O:=xs.map f
theorem sZ(f:W->O)(xs:List W):mp f xs=xs.map f:=rfl
attribute [irreducible] mp
theorem R4(f:W->O)(xs:List W):(mp f xs).length=xs.length:=by rw[sZ,eU]
def aF7(f:W->O)(xs:List W)(n:Nat):(mp f xs).take n=mp f (xs.take n):=by rw[sZ,sZ,List.map_take]
def aF8(f:W->O)(xs:List W)(n:Nat):(mp f xs).drop n=mp f (xs.drop n):=by rw[sZ,sZ,List.map_drop]
def ayL(f:W->O)(xs:List W):(mp f xs).isEmpty=xs.isEmpty:=by rw[sZ];cases xs<;>rfl
def Ci{f:O->Option W}{g:W->O}(h:∀x,f (g x)=some x)(xs:List W):tU f (mp g xs)=some xs:=by rw[sZ];exact apG h xs
def aBu{f:W->O}{g:O->Option γ}{o:Option W}:(ff f o).bind g=o.bind fun x=>g (f x):=by cases o<;>rfl
def ayM{f:W->Option O}{g:O->Option γ}{o:Option W}:(o.bind f).bind g=o.bind fun x=>(f x).bind g:=by cases o<;>rfl
def aBv{f:W->Option O}{x y:Option W}:(bif b then x else y).bind f=bif b then x.bind f else y.bind f:=by cases b<;>rfl
def ayN{f:W->Option O}:(none:Option W).bind f=none:=rfl
def qF{f:W->Option O}{x:W}:(some x).bind f=f x:=rfl
def AU(xs:List W)(n:Int):Option W:=if 0<=n then xs[n.toNat]? else none
def aF9{f:W->O}{xs:List W}{n:Int}:AU (mp f xs) n=ff f (AU xs n):=by
 rw[sZ];unfold AU;split<;>simp
def aBw{x:W}{xs:List W}:AU (x::xs) 0=some x:=rfl
def aDu{x y:W}{xs:List W}:AU (x::y::xs) 1=some y:=rfl
def aDv{x y z:W}{xs:List W}:AU (x::y::z::xs) 2=some z:=rfl
end lists
def yQ:List AV->List AV->Prop
 |[],ys=>ys=[]
 |x::xs,ys=>∃y zs,ys=y::zs/\Pc x y/\yQ xs zs
theorem yQ.nil:yQ [] []:=rfl
theorem yQ.cons {y:AV}{xs:List AV}(h:Pc x y)(hs:yQ xs ys):yQ (x::xs) (y::ys):=⟨y,ys,rfl,h,hs⟩
def yQ.aJb:∀{xs ys:List AV},yQ xs ys->tQ xs ys
 |[],_,rfl=>tQ.nil
 |_::_,_,⟨_,_,rfl,h,hs⟩=>tQ.cons h (yQ.aJb hs)
def yQ.aBx:∀{xs ys:List AV},yQ xs ys->amc xs ys
 |[],_,rfl=>amc.nil
 |_::_,_,⟨_,_,rfl,h,hs⟩=>amc.cons h (yQ.aBx hs)
theorem yQ.length:∀{xs ys:List AV},yQ xs ys->xs.length=ys.length
 |[],_,rfl=>rfl
 |_::_,_,⟨_,_,rfl,_,hs⟩=>by simp [yQ.length hs]
theorem yQ.append:∀{xs ys us vs:List AV},yQ xs ys->yQ us vs->yQ (xs++us) (ys++vs)
 |[],_,_,_,rfl,h=>h
 |_::_,_,_,_,⟨y,zs,rfl,h,hs⟩,h2=>⟨y,zs++_,rfl,h,yQ.append hs h2⟩
theorem nI.nil{H:List lw}{n:Nat}:nI H n [] []:=rfl
theorem nI.cons {y:AV}{xs:List AV}(h:Co1 H n x y)(hs:nI H n xs ys):nI H n (x::xs) (y::ys):=⟨y,ys,rfl,h,hs⟩
theorem nI.append:∀{xs ys us vs:List AV},nI H n xs ys->nI H n us vs->nI H n (xs++us) (ys++vs)
 |[],_,_,_,rfl,h=>h
 |_::_,_,_,_,⟨y,zs,rfl,h,hs⟩,h2=>⟨y,zs++_,rfl,h,nI.append hs h2⟩
def Co1.qk {y:AV}(h:Co1 [] n x y):Pc x y:=by
 rcases h with h|⟨l,m,sz,rows,_,hl,_⟩
 ·exact h.1
 ·simp at hl
def nI.qk:∀{xs ys:List AV},nI [] n xs ys->yQ xs ys
 |[],_,rfl=>rfl
 |_::_,_,⟨y,zs,rfl,h,hs⟩=>⟨y,zs,rfl,h.qk,nI.qk hs⟩
def Co.qk {y:AV}(h:Co [] n x y):Pc x y:=by
 rcases h with h|⟨cs,ds,rfl,rfl,h⟩
 ·exact h.qk
 ·exact Pc.agg h.qk.aJb
def nI.aDw:∀{xs ys:List AV},nI H n xs ys->GM H n xs ys
 |[],_,rfl=>rfl
 |_::_,_,⟨y,zs,rfl,h,hs⟩=>⟨y,zs,rfl,.inl h,nI.aDw hs⟩
structure Row(W:Type) where
 enc:W->List AV
 oP:List AV->Option W
 sz:Nat
 ok:∀r x,oP r=some x->yQ r (enc x)
 nb:∀n x,yg n (enc x)
structure Ty(W:Type) where
 enc:W->AV
 oP:List lw->AV->Option W
 ok:∀H n v x,oP H v=some x->Co H n v (enc x)
 nb:∀n x,(enc x).nb n
section rows

def DN(sz k:Nat)(rows:List (List AV)):Bool:=sz==k||rows.isEmpty
def dL(r:Row W)(H:List lw):AV->Option (List W)
 |.mj _ sz rows=>bif DN sz r.sz rows then tU r.oP rows else none
 | .nW l n=>match H[l]? with
   |some (.nW true sz rows)=>bif (rows.length==n)&&DN sz r.sz rows then tU r.oP rows else none
   |_=>none
 |_=>none
def R5{r:Row W}:∀{rows:List (List AV)}{xs:List W},tU r.oP rows=some xs->Va rows (mp r.enc xs)/\Nx rows (mp r.enc xs)
 |[],xs,h=>by
  simp only[tU,eg]at h;subst h;rw[sZ];exact⟨Va.nil,rfl⟩
 |c::rows,xs,h=>by
  simp only[tU,ed,eg]at h;obtain⟨y,hy,ys,hys,rfl⟩:=h;obtain⟨h1,h2⟩:=R5 hys;have h3:=r.ok _ _ hy;rw[sZ]at h1 h2 ⊢;exact⟨Va.cons h3.aBx h1,_,_,rfl,⟨h3.length,h3.aJb⟩,h2⟩
theorem DO{r:Row W}{n:Nat}:∀xs:List W,Pe n (mp r.enc xs)
 |[]=>by rw[sZ];trivial
 |x::xs=>by have:=DO (r:=r) (n:=n) xs;rw[sZ]at this ⊢;exact⟨r.nb n x,this⟩
def adu{t:Bool}{sz:Nat}(h:DN sz k rows=true)(hs:Va rows BA):Pc (.mj t sz rows) (.mj false k BA):=by
 unfold DN at h;simp only[Bool.or_eq_true,beq_iff_eq,List.isEmpty_iff]at h;rcases h with rfl|rfl
 ·exact Pc.mj hs
 ·have:BA=[]:=eH hs.1.symm;subst this;exact Pc.empty _ _ _
theorem Cj{r:Row W}{xs:List W}(h:dL r H v=some xs):Co1 H n v (.mj false r.sz (mp r.enc xs)):=by
 unfold dL at h;split at h
 ·rename_i t sz rows;cases hs:DN sz r.sz rows with
  |false=>simp [hs]at h
  |true=>
   simp only[hs,kP]at h;exact .inl ⟨adu hs (R5 h).1,DO xs⟩
 ·rename_i l m;split at h
  ·rename_i sz rows hl;cases hs:DN sz r.sz rows with
   |false=>simp [hs]at h
   |true=>
    cases hm:(rows.length==m)with
    |false=>simp [hm]at h
    |true=>
     simp only[hs,hm,Bool.and_self,kP]at h;exact .inr ⟨l,m,sz,rows,rfl,hl,by simpa using hm,adu hs (R5 h).1,DO xs⟩
  ·cases h
 ·cases h
def nA(r:Row W):Ty (List W) where
 enc xs:=.mj false r.sz (mp r.enc xs)
 oP:=dL r
 ok _ _ _ _ h:=.inl (Cj h)
 nb _ xs:=DO xs
def aGa{r:Row W}{xs:List W}:(nA r).enc xs=.mj false r.sz (mp r.enc xs):=rfl
def aGb{r:Row W}:(nA r).oP H v=dL r H v:=rfl
end rows
def sb(s:List UInt8):ByteArray:=⟨s.toArray⟩
abbrev lH:=List UInt8
variable {xs:List (lH×Bool)}
def dI(k:aPL):AV->Option Int
 |.int k' n=>if k'=k then some n else none
 |_=>none
def dB:AV->Option Bool
 |.bool b=>some b
 |_=>none
def dS:AV->Option lH
 |.str b=>some b.data.toList
 |_=>none
theorem xT{k:aPL}{x:Int}(h:dI k v=some x):Co1 H n v (.int k x):=by
 unfold dI at h;split at h
 ·split at h
  ·cases h;rename_i e;subst e;exact Co1.sub (Pc.refl _) trivial
  ·cases h
 ·cases h
theorem akS{x:Bool}(h:dB v=some x):Co1 H n v (.bool x):=by
 unfold dB at h;split at h
 ·cases h;exact Co1.sub (Pc.refl _) trivial
 ·cases h
theorem aty(b:ByteArray):sb b.data.toList=b:=by
 cases b;rfl
theorem S6{x:lH}(h:dS v=some x):Co1 H n v (.str (sb x)):=by
 unfold dS at h;split at h
 ·cases h;rw[aty];exact Co1.sub (Pc.refl _) trivial
 ·cases h
def GP(s:lH):dS (.str (sb s))=some s:=rfl
def Bt(k:aPL)(n:Int):dI k (.int k n)=some n:=by simp [dI]
def w8(b:Bool):dB (.bool b)=some b:=rfl
def aDx:dS (.str ByteArray.empty)=some []:=rfl
def aBy:dS (.str ⟨#[]⟩)=some []:=rfl
def oe(k:aPL):Ty Int:=⟨.int k,fun _=>dI k,fun _ _ _ _ h=>.inl (xT h),fun _ _=>trivial⟩
def p8:Ty Bool:=⟨.bool,fun _=>dB,fun _ _ _ _ h=>.inl (akS h),fun _ _=>trivial⟩
def oa:Ty lH:=⟨fun s=>.str (sb s),fun _=>dS,fun _ _ _ _ h=>.inl (S6 h),fun _ _=>trivial⟩
def aGc{k:aPL}{x:Int}:(oe k).enc x=.int k x:=rfl
def aGd{k:aPL}:(oe k).oP H v=dI k v:=rfl
def aGe{x:Bool}:p8.enc x=.bool x:=rfl
def aGf:p8.oP H v=dB v:=rfl
def aGg{x:lH}:oa.enc x=.str (sb x):=rfl
def aGh:oa.oP H v=dS v:=rfl
def dF(f:aPG):AV->Option Unit
 |.func (.func g) [] []=>if g=f then some ()else none
 |_=>none
def aJc(f:aPG):dF f (.func (.func f) [] [])=some ():=by simp [dF]
def tyF(f:aPG):Ty Unit where
 enc _:=.func (.func f) [] []
 oP _:=dF f
 ok H n v x h:=by
  unfold dF at h;split at h
  ·split at h
   ·rename_i e;subst e;exact Co.same ⟨trivial,trivial⟩
   ·cases h
  ·cases h
 nb _ _:=⟨trivial,trivial⟩
def aGi{x:Unit}:(tyF f).enc x=.func (.func f) [] []:=rfl
def aGj:(tyF f).oP H v=dF f v:=rfl
def Xi(n:Int):List AV:=[.int .i64 n]
def mS(s:lH):List AV:=[.str (sb s)]
def akT(b:Bool):List AV:=[.bool b]
def apH(n:Int):List AV:=[.int .u8 n]
def dI1(k:aPL):List AV->Option Int
 |[c]=>dI k c
 |_=>none
def dB1:List AV->Option Bool
 |[c]=>dB c
 |_=>none
def dS1:List AV->Option lH
 |[c]=>dS c
 |_=>none
def aDy:Row Int where
 enc:=Xi
 oP:=dI1 .i64
 sz:=1
 ok r x h:=by
  unfold dI1 at h;split at h
  ·exact yQ.cons (xT (H:=[]) (n:=0) h).qk yQ.nil
  ·cases h
 nb _ _:=⟨trivial,trivial⟩
def aJd:Row Int where
 enc:=apH
 oP:=dI1 .u8
 sz:=1
 ok r x h:=by
  unfold dI1 at h;split at h
  ·exact yQ.cons (xT (H:=[]) (n:=0) h).qk yQ.nil
  ·cases h
 nb _ _:=⟨trivial,trivial⟩
def aJe:Row Bool where
 enc:=akT
 oP:=dB1
 sz:=1
 ok r x h:=by
  unfold dB1 at h;split at h
  ·exact yQ.cons (akS (H:=[]) (n:=0) h).qk yQ.nil
  ·cases h
 nb _ _:=⟨trivial,trivial⟩
def mJ:Row lH where
 enc:=mS
 oP:=dS1
 sz:=1
 ok r x h:=by
  unfold dS1 at h;split at h
  ·exact yQ.cons (S6 (H:=[]) (n:=0) h).qk yQ.nil
  ·cases h
 nb _ _:=⟨trivial,trivial⟩
def aDz:aDy.enc=Xi/\aDy.oP=dI1 .i64/\aDy.sz=1:=⟨rfl,rfl,rfl⟩
def aJf:aJd.enc=apH/\aJd.oP=dI1 .u8/\aJd.sz=1:=⟨rfl,rfl,rfl⟩
def aJg:aJe.enc=akT/\aJe.oP=dB1/\aJe.sz=1:=⟨rfl,rfl,rfl⟩
def adv:mJ.enc=mS/\mJ.oP=dS1/\mJ.sz=1:=⟨rfl,rfl,rfl⟩
def Dz:(∀xs:List Int,tU (dI1 .i64) (mp Xi xs)=some xs)/\(∀xs:List Int,tU (dI1 .u8) (mp apH xs)=some xs)/\(∀xs:List Bool,tU dB1 (mp akT xs)=some xs)/\∀xs:List lH,tU dS1 (mp mS xs)=some xs:=
 ⟨Ci fun x=>by simp [dI1,Xi,dI],Ci fun x=>by simp [dI1,apH,dI],Ci fun x=>rfl,Ci fun x=>rfl⟩
structure VZ(W:Type) where
 enc:W->List AV
 oP:List lw->List AV->Option W
 ok:∀H n cs x,oP H cs=some x->nI H n cs (enc x)
 nb:∀n x,yg n (enc x)
section lU

def dC(c:VZ W)(H:List lw):AV->Option W
 |.agg cs=>c.oP H cs
 |_=>none
def nh(c:VZ W):Ty W where
 enc x:=.agg (c.enc x)
 oP:=dC c
 ok H n v x h:=by
  unfold dC at h;split at h
  ·exact .inr ⟨_,_,rfl,rfl,c.ok H n _ _ h⟩
  ·cases h
 nb n x:=c.nb n x
def aGk{c:VZ W}{x:W}:(nh c).enc x=.agg (c.enc x):=rfl
def aGl{c:VZ W}:(nh c).oP H v=dC c H v:=rfl
end lU
def tyU:Ty Unit where
 enc _:=.Mt []
 oP _
  |.Mt []=>some ()
  |_=>none
 ok H n v x h:=by
  split at h
  ·exact Co.same trivial
  ·cases h
 nb _ _:=trivial
def aGm{x:Unit}:tyU.enc x=.Mt []:=rfl
def aGn:tyU.oP H (.Mt [])=some ():=rfl
section aJh
variable {γ δ ε:Type}
def d2(a:Ty W)(b:Ty O):AV->Option (W×O)
 |.Mt [x,y]=>(a.oP [] x).bind fun u=>(b.oP [] y).bind fun v=>some (u,v)
 |_=>none
def d3(a:Ty W)(b:Ty O)(c:Ty γ):AV->Option (W×O×γ)
 |.Mt [x,y,z]=>(a.oP [] x).bind fun u=>(b.oP [] y).bind fun v=>(c.oP [] z).bind fun w=>some (u,v,w)
 |_=>none
def d4(a:Ty W)(b:Ty O)(c:Ty γ)(d:Ty δ):AV->Option (W×O×γ×δ)
 |.Mt [x,y,z,p]=>(a.oP [] x).bind fun u=>(b.oP [] y).bind fun v=>(c.oP [] z).bind fun w=>(d.oP [] p).bind fun q=>some (u,v,w,q)
 |_=>none
def d5(a:Ty W)(b:Ty O)(c:Ty γ)(d:Ty δ)(e:Ty ε):AV->Option (W×O×γ×δ×ε)
 |.Mt [x,y,z,p,s]=>(a.oP [] x).bind fun u=>(b.oP [] y).bind fun v=>(c.oP [] z).bind fun w=>(d.oP [] p).bind fun q=>(e.oP [] s).bind fun t=>some (u,v,w,q,t)
 |_=>none
def ty2(a:Ty W)(b:Ty O):Ty (W×O) where
 enc x:=.Mt [a.enc x.1,b.enc x.2]
 oP _:=d2 a b
 ok H n v x h:=by
  unfold d2 at h;split at h
  ·simp only[ed,eg]at h;obtain⟨u,hu,w,hw,rfl⟩:=h;exact Co.sub (Pc.Mt (tQ.cons (a.ok [] 0 _ _ hu).qk (tQ.cons (b.ok [] 0 _ _ hw).qk tQ.nil))) ⟨a.nb n u,b.nb n w,trivial⟩
  ·cases h
 nb n x:=⟨a.nb n _,b.nb n _,trivial⟩
def ty3(a:Ty W)(b:Ty O)(c:Ty γ):Ty (W×O×γ) where
 enc x:=.Mt [a.enc x.1,b.enc x.2.1,c.enc x.2.2]
 oP _:=d3 a b c
 ok H n v x h:=by
  unfold d3 at h;split at h
  ·simp only[ed,eg]at h;obtain⟨u,hu,w,hw,p,hp,rfl⟩:=h;exact Co.sub (Pc.Mt (tQ.cons (a.ok [] 0 _ _ hu).qk (tQ.cons (b.ok [] 0 _ _ hw).qk (tQ.cons (c.ok [] 0 _ _ hp).qk tQ.nil)))) ⟨a.nb n u,b.nb n w,c.nb n p,trivial⟩
  ·cases h
 nb n x:=⟨a.nb n _,b.nb n _,c.nb n _,trivial⟩
def ty4(a:Ty W)(b:Ty O)(c:Ty γ)(d:Ty δ):Ty (W×O×γ×δ) where
 enc x:=.Mt [a.enc x.1,b.enc x.2.1,c.enc x.2.2.1,d.enc x.2.2.2]
 oP _:=d4 a b c d
 ok H n v x h:=by
  unfold d4 at h;split at h
  ·simp only[ed,eg]at h;obtain⟨u,hu,w,hw,p,hp,q,hq,rfl⟩:=h;exact Co.sub (Pc.Mt (tQ.cons (a.ok [] 0 _ _ hu).qk (tQ.cons (b.ok [] 0 _ _ hw).qk (tQ.cons (c.ok [] 0 _ _ hp).qk (tQ.cons (d.ok [] 0 _ _ hq).qk tQ.nil))))) ⟨a.nb n u,b.nb n w,c.nb n p,d.nb n q,trivial⟩
  ·cases h
 nb n x:=⟨a.nb n _,b.nb n _,c.nb n _,d.nb n _,trivial⟩
def ty5(a:Ty W)(b:Ty O)(c:Ty γ)(d:Ty δ)(e:Ty ε):Ty (W×O×γ×δ×ε) where
 enc x:=.Mt [a.enc x.1,b.enc x.2.1,c.enc x.2.2.1,d.enc x.2.2.2.1,e.enc x.2.2.2.2]
 oP _:=d5 a b c d e
 ok H n v x h:=by
  unfold d5 at h;split at h
  ·simp only[ed,eg]at h;obtain⟨u,hu,w,hw,p,hp,q,hq,s,hs,rfl⟩:=h;exact Co.sub (Pc.Mt (tQ.cons (a.ok [] 0 _ _ hu).qk (tQ.cons (b.ok [] 0 _ _ hw).qk (tQ.cons (c.ok [] 0 _ _ hp).qk (tQ.cons (d.ok [] 0 _ _ hq).qk (tQ.cons (e.ok [] 0 _ _ hs).qk tQ.nil)))))) ⟨a.nb n u,b.nb n w,c.nb n p,d.nb n q,e.nb n s,trivial⟩
  ·cases h
 nb n x:=⟨a.nb n _,b.nb n _,c.nb n _,d.nb n _,e.nb n _,trivial⟩
def aGo{a:Ty W}{b:Ty O}{x:W×O}:(ty2 a b).enc x=.Mt [a.enc x.1,b.enc x.2]:=rfl
def aGp{a:Ty W}{b:Ty O}:(ty2 a b).oP H v=d2 a b v:=rfl
def aGq{a:Ty W}{b:Ty O}{c:Ty γ}{x:W×O×γ}:(ty3 a b c).enc x=.Mt [a.enc x.1,b.enc x.2.1,c.enc x.2.2]:=rfl
def aGr{a:Ty W}{b:Ty O}{c:Ty γ}:(ty3 a b c).oP H v=d3 a b c v:=rfl
def aGs{a:Ty W}{b:Ty O}{c:Ty γ}{d:Ty δ}{x:W×O×γ×δ}:(ty4 a b c d).enc x=.Mt [a.enc x.1,b.enc x.2.1,c.enc x.2.2.1,d.enc x.2.2.2]:=rfl
def aGt{a:Ty W}{b:Ty O}{c:Ty γ}{d:Ty δ}:(ty4 a b c d).oP H v=d4 a b c d v:=rfl
def aGu{a:Ty W}{b:Ty O}{c:Ty γ}{d:Ty δ}{e:Ty ε}{x:W×O×γ×δ×ε}:(ty5 a b c d e).enc x=.Mt [a.enc x.1,b.enc x.2.1,c.enc x.2.2.1,d.enc x.2.2.2.1,e.enc x.2.2.2.2]:=rfl
def aGv{a:Ty W}{b:Ty O}{c:Ty γ}{d:Ty δ}{e:Ty ε}:(ty5 a b c d e).oP H v=d5 a b c d e v:=rfl
end aJh
def pR{Y:Type}(P:aPI)(rs:List ResultVar)(t:Ty Y)(J:k9):Option Y:=
 bif J.df.isEmpty then(VW P J rs).bind fun x=>qq ((frz 0 J.heap x).nb 0) (t.oP [] (frz 0 J.heap x))else none
def aic{Y:Type}{t:Ty Y}{r:Y}(h:pR P rs t J=some r):J.df=[]/\aBh (fun v=>v=t.enc r) J.heap (VW P J rs):=by
 unfold pR at h;cases hd:J.df with
 |cons p q=>rw[hd]at h;cases h
 |nil=>
 rw[hd]at h;simp only[eR,kP]at h;refine⟨rfl,?_⟩;cases hx:VW P J rs with
 |none=>rw[hx]at h;cases h
 |some x=>
  rw[hx]at h;simp only[eE]at h;rw[pH]at h;exact⟨h.1,_,(t.ok [] 0 _ _ h.2).qk,rfl⟩
abbrev Ent:=List AV->List lw->Option (AV×List lw)
abbrev atz:=List AV->Option AV
section entries
variable {γ δ ε ζ Y:Type}
def avQ(t:Ty Y)(F:Option Y):Ent
 |[],H=>F.bind fun r=>some (t.enc r,H)
 |_,_=>none
def rB(a:Ty W)(t:Ty Y)(F:W->Option Y):Ent
 |[x],H=>(a.oP H x).bind fun x=>(F x).bind fun r=>some (t.enc r,H)
 |_,_=>none
def q6(a:Ty W)(b:Ty O)(t:Ty Y)(F:W->O->Option Y):Ent
 |[x,y],H=>(a.oP H x).bind fun x=>(b.oP H y).bind fun y=>(F x y).bind fun r=>some (t.enc r,H)
 |_,_=>none
def aio(a:Ty W)(b:Ty O)(c:Ty γ)(t:Ty Y)(F:W->O->γ->Option Y):Ent
 |[x,y,z],H=>(a.oP H x).bind fun x=>(b.oP H y).bind fun y=>(c.oP H z).bind fun z=>(F x y z).bind fun r=>some (t.enc r,H)
 |_,_=>none
def ayO(a:Ty W)(b:Ty O)(c:Ty γ)(d:Ty δ)(t:Ty Y)(F:W->O->γ->δ->Option Y):Ent
 |[x,y,z,u],H=>(a.oP H x).bind fun x=>(b.oP H y).bind fun y=>(c.oP H z).bind fun z=>(d.oP H u).bind fun u=>(F x y z u).bind fun r=>some (t.enc r,H)
 |_,_=>none
def tV(e:Ent):atz:=fun args=>qq (yg 0 args) ((e args []).bind fun r=>some r.1)
def Zd(P:aPI)(f:aPG)(e:Ent):Prop:=∀args J r H',e args J.heap=some (r,H')->ER P f args J (fun o Kl=>o=.ret r/\Kl=H')
def aab(P:aPI)(f:aPG)(e:atz):Prop:=∀args r,e args=some r->N6 P f args (fun v=>v=r)
variable {a:Ty W} {b:Ty O} {c:Ty γ} {d:Ty δ} {e:Ty ε} {g:Ty ζ} {t:Ty Y}
def akU{F:Option Y}(h:∀r,F=some r->N6 P f [] (fun v=>v=t.enc r)):Zd P f (avQ t F):=by
 intro args J r H' he;unfold avQ at he;split at he
 ·simp only[ed,eg,eo]at he;obtain⟨r',hr,rfl,rfl⟩:=he;exact agy (n:=0) (h r' hr) GM.nil
 ·cases he
def oX{F:W->Option Y}(h:∀x r,F x=some r->N6 P f [a.enc x] (fun v=>v=t.enc r)):Zd P f (rB a t F):=by
 intro args J r H' he;unfold rB at he;split at he
 ·simp only[ed,eg,eo]at he;obtain⟨x,hx,r',hr,rfl,rfl⟩:=he;exact agy (n:=0) (h x r' hr) (GM.cons (a.ok _ 0 _ _ hx) GM.nil)
 ·cases he
def ni{F:W->O->Option Y}(h:∀x y r,F x y=some r->N6 P f [a.enc x,b.enc y] (fun v=>v=t.enc r)):Zd P f (q6 a b t F):=by
 intro args J r H' he;unfold q6 at he;split at he
 ·simp only[ed,eg,eo]at he;obtain⟨x,hx,y,hy,r',hr,rfl,rfl⟩:=he;exact agy (n:=0) (h x y r' hr) (GM.cons (a.ok _ 0 _ _ hx) (GM.cons (b.ok _ 0 _ _ hy) GM.nil))
 ·cases he
def akV{F:W->O->γ->Option Y}(h:∀x y z r,F x y z=some r->N6 P f [a.enc x,b.enc y,c.enc z] (fun v=>v=t.enc r)):Zd P f (aio a b c t F):=by
 intro args J r H' he;unfold aio at he;split at he
 ·simp only[ed,eg,eo]at he;obtain⟨x,hx,y,hy,z,hz,r',hr,rfl,rfl⟩:=he;exact agy (n:=0) (h x y z r' hr) (GM.cons (a.ok _ 0 _ _ hx) (GM.cons (b.ok _ 0 _ _ hy) (GM.cons (c.ok _ 0 _ _ hz) GM.nil)))
 ·cases he
def aGw{F:W->O->γ->δ->Option Y}(h:∀x y z u r,F x y z u=some r->N6 P f [a.enc x,b.enc y,c.enc z,d.enc u] (fun v=>v=t.enc r)):Zd P f (ayO a b c d t F):=by
 intro args J r H' he;unfold ayO at he;split at he
 ·simp only[ed,eg,eo]at he;obtain⟨x,hx,y,hy,z,hz,u,hu,r',hr,rfl,rfl⟩:=he;exact agy (n:=0) (h x y z u r' hr) (GM.cons (a.ok _ 0 _ _ hx) (GM.cons (b.ok _ 0 _ _ hy) (GM.cons (c.ok _ 0 _ _ hz) (GM.cons (d.ok _ 0 _ _ hu) GM.nil))))
 ·cases he
def p4{F:W->Option Y}(h:∀x r,F x=some r->N6 P f [a.enc x] (fun w=>w=t.enc r)):aab P f (tV (rB a t F)):=by
 intro args r he;unfold tV at he;rw[pH]at he;obtain⟨LY,he⟩:=he;unfold rB at he;split at he
 ·simp only[ed,eg,Prod.exists,eo]at he;obtain⟨_,_,⟨x,hx,r',hr,rfl,rfl⟩,rfl⟩:=he;exact aoO (h x r' hr) (tQ.cons (a.ok _ 0 _ _ hx).qk tQ.nil) LY
 ·cases he
def vg{F:W->O->Option Y}(h:∀x y r,F x y=some r->N6 P f [a.enc x,b.enc y] (fun w=>w=t.enc r)):aab P f (tV (q6 a b t F)):=by
 intro args r he;unfold tV at he;rw[pH]at he;obtain⟨LY,he⟩:=he;unfold q6 at he;split at he
 ·simp only[ed,eg,Prod.exists,eo]at he;obtain⟨_,_,⟨x,hx,y,hy,r',hr,rfl,rfl⟩,rfl⟩:=he;exact aoO (h x y r' hr) (tQ.cons (a.ok _ 0 _ _ hx).qk (tQ.cons (b.ok _ 0 _ _ hy).qk tQ.nil)) LY
 ·cases he
def abA{F:W->O->γ->Option Y}(h:∀x y z r,F x y z=some r->N6 P f [a.enc x,b.enc y,c.enc z] (fun w=>w=t.enc r)):aab P f (tV (aio a b c t F)):=by
 intro args r he;unfold tV at he;rw[pH]at he;obtain⟨LY,he⟩:=he;unfold aio at he;split at he
 ·simp only[ed,eg,Prod.exists,eo]at he;obtain⟨_,_,⟨x,hx,y,hy,z,hz,r',hr,rfl,rfl⟩,rfl⟩:=he;exact aoO (h x y z r' hr) (tQ.cons (a.ok _ 0 _ _ hx).qk (tQ.cons (b.ok _ 0 _ _ hy).qk (tQ.cons (c.ok _ 0 _ _ hz).qk tQ.nil))) LY
 ·cases he
def aDA{F:W->O->γ->δ->Option Y}(h:∀x y z u r,F x y z u=some r->N6 P f [a.enc x,b.enc y,c.enc z,d.enc u] (fun w=>w=t.enc r)):aab P f (tV (ayO a b c d t F)):=by
 intro args r he;unfold tV at he;rw[pH]at he;obtain⟨LY,he⟩:=he;unfold ayO at he;split at he
 ·simp only[ed,eg,Prod.exists,eo]at he;obtain⟨_,_,⟨x,hx,y,hy,z,hz,u,hu,r',hr,rfl,rfl⟩,rfl⟩:=he;exact aoO (h x y z u r' hr) (tQ.cons (a.ok _ 0 _ _ hx).qk (tQ.cons (b.ok _ 0 _ _ hy).qk (tQ.cons (c.ok _ 0 _ _ hz).qk (tQ.cons (d.ok _ 0 _ _ hu).qk tQ.nil)))) LY
 ·cases he
end entries
def oN:List (Nat×Ent)->aPG->List AV->List lw->Option (AV×List lw)
 |[],_,_,_=>none
 |(g,e)::t,f,args,H=>if f=g then e args H else oN t f args H
def KO:List (Nat×atz)->aPG->List AV->Option AV
 |[],_,_=>none
 |(g,e)::t,f,args=>if f=g then e args else KO t f args
def li:∀f args (J:k9) r H',oN [] f args J.heap=some (r,H')->ER P f args J (fun o Kl=>o=.ret r/\Kl=H'):=by
 intro f args J r H' h;cases h
def k8{e:Ent}{t:List (Nat×Ent)}(h1:Zd P g e)(h2:∀f args (J:k9) r H',oN t f args J.heap=some (r,H')->ER P f args J (fun o Kl=>o=.ret r/\Kl=H')):
 ∀f args (J:k9) r H',oN ((g,e)::t) f args J.heap=some (r,H')->ER P f args J (fun o Kl=>o=.ret r/\Kl=H'):=by
 intro f args J r H' h;simp only[oN]at h;split at h
 ·rename_i hg;subst hg;exact h1 _ _ _ _ h
 ·exact h2 _ _ _ _ _ h
def lj:∀f args r,KO [] f args=some r->N6 P f args (fun v=>v=r):=by
 intro f args r h;cases h
def ot{e:atz}{t:List (Nat×atz)}(h1:aab P g e)(h2:∀f args r,KO t f args=some r->N6 P f args (fun v=>v=r)):
 ∀f args r,KO ((g,e)::t) f args=some r->N6 P f args (fun v=>v=r):=by
 intro f args r h;simp only[KO]at h;split at h
 ·rename_i hg;subst hg;exact h1 _ _ h
 ·exact h2 _ _ _ h
structure NZ where
 f:List lw->Nat->AV->Option AV
 ok:∀H n v v',f H n v=some v'->Co H n v v'
variable {zs:List NZ}
structure ZO where
 f:List lw->Nat->lw->Option lw
 ok:∀H n x y,f H n x=some y->Xf H n x y
def zA:NZ:=⟨fun _ _ _=>some .any,fun _ _ _ _ h=>by cases h;exact Co.any⟩
def zK:NZ:=⟨fun _ n v=>qq (v.nb n) (some v),fun _ _ _ _ h=>by rw[pH]at h;obtain⟨h1,h2⟩:=h;cases h2;exact Co.same h1⟩
def zT(t:Ty W):NZ:=⟨fun H _ v=>(t.oP H v).bind fun x=>some (t.enc x),fun H n v v' h=>by
 simp only[ed,eg]at h;obtain⟨x,hx,rfl⟩:=h;exact t.ok H n v x hx⟩
def atA{sz:Nat}(hs:Va rows BA):Pc (.mj true sz rows) (.mj true sz BA):=by
 rintro E v ⟨base,cap,hv,h1,h2,h3,h4,h5⟩;refine⟨base,cap,by rw[<-hs.1];exact hv,by rw[<-hs.1];exact h1,fun _=>by rw[<-hs.1];exact h2 rfl,h3,fun a ha uP=>h4 a ha ?_,fun a ha=>hs.2 E sz _ _ (h5 a ha)⟩;rintro rfl;exact uP (eH hs.1.symm)
def dLt(r:Row W):AV->Option (List W)
 |.mj true sz rows=>bif sz==r.sz then tU r.oP rows else none
 |_=>none
def zL(r:Row W):NZ:=⟨fun _ _ v=>(dLt r v).bind fun x=>some (.mj true r.sz (mp r.enc x)),fun H n v v' h=>by
 simp only[ed,eg]at h;obtain⟨x,hx,rfl⟩:=h;unfold dLt at hx;split at hx
 ·rename_i sz rows;cases hz:(sz==r.sz)with
  |false=>rw[hz]at hx;cases hx
  |true=>
   rw[hz,kP]at hx;obtain rfl:=beq_iff_eq.1 hz;exact .inl (.inl ⟨atA (R5 hx).1,DO x⟩)
 ·cases hx⟩
def aNv{r:Row W}:(zL r).f H n v=(dLt r v).bind fun x=>some (.mj true r.sz (mp r.enc x)):=rfl
def aNw:zA.f H n v=some .any:=rfl
def aNx:zK.f H n v=qq (v.nb n) (some v):=rfl
def aNy{t:Ty W}:(zT t).f H n v=(t.oP H v).bind fun x=>some (t.enc x):=rfl
def anP:List NZ->List lw->Nat->List AV->Option (List AV)
 |[],_,_,[]=>some []
 |z::zs,H,n,v::vs=>(z.f H n v).bind fun u=>(anP zs H n vs).bind fun us=>some (u::us)
 |_,_,_,_=>none
def aoQ:∀{zs:List NZ}{H:List lw}{n:Nat}{vs us:List AV},anP zs H n vs=some us->GM H n vs us
 |[],_,_,[],us,h=>by simp only[anP,eg]at h;subst h;rfl
 |z::zs,H,n,v::vs,us,h=>by
  simp only[anP,ed,eg]at h;obtain⟨u,hu,ws,hws,rfl⟩:=h;exact GM.cons (z.ok _ _ _ _ hu) (aoQ hws)
 |[],_,_,_::_,_,h=>by simp [anP]at h
 |_::_,_,_,[],_,h=>by simp [anP]at h
def oD:ZO:=⟨fun _ _ _=>some .zU,fun _ _ _ _ h=>by cases h;exact .inl rfl⟩
def oK:ZO:=⟨fun _ n x=>qq (uJ n x) (some x),fun _ _ _ _ h=>by rw[pH]at h;obtain⟨h1,h2⟩:=h;cases h2;exact .inr (.inl ⟨rfl,h1⟩)⟩
def oCf(zs:List NZ)(H:List lw)(n:Nat):lw->Option lw
 |.cells cs=>(anP zs H n cs).bind fun ds=>some (.cells ds)
 |_=>none
def oC(zs:List NZ):ZO:=⟨oCf zs,fun H n x y h=>by
 unfold oCf at h;split at h
 ·simp only[ed,eg]at h;obtain⟨ds,hd,rfl⟩:=h;exact .inr (.inr (.inl ⟨_,_,rfl,rfl,aoQ hd⟩))
 ·cases h⟩
def oTf(c:VZ W)(H:List lw):lw->Option lw
 |.cells cs=>(c.oP H cs).bind fun x=>some (.cells (c.enc x))
 |_=>none
def oT(c:VZ W):ZO:=⟨fun H _=>oTf c H,fun H n x y h=>by
 unfold oTf at h;split at h
 ·simp only[ed,eg]at h;obtain⟨z,hz,rfl⟩:=h;exact .inr (.inr (.inl ⟨_,_,rfl,rfl,(c.ok H n _ _ hz).aDw⟩))
 ·cases h⟩
def oAf(r:Row W):lw->Option lw
 |.nW wT sz rows=>(tU r.oP rows).bind fun xs=>some (.nW wT sz (mp r.enc xs))
 |_=>none
def oA(r:Row W):ZO:=⟨fun _ _=>oAf r,fun H n x y h=>by
 unfold oAf at h;split at h
 ·simp only[ed,eg]at h;obtain⟨xs,hx,rfl⟩:=h;exact .inr (.inr (.inr (.inl ⟨_,_,_,_,rfl,rfl,(R5 hx).2,DO xs⟩)))
 ·cases h⟩
def aNz{x:lw}:oD.f H n x=some .zU:=rfl
def aNA{x:lw}:oK.f H n x=qq (uJ n x) (some x):=rfl
def aNB:(oC zs).f H n (.cells cs)=(anP zs H n cs).bind fun ds=>some (.cells ds):=rfl
def aNC{c:VZ W}:(oT c).f H n (.cells cs)=(c.oP H cs).bind fun x=>some (.cells (c.enc x)):=rfl
def aND{r:Row W}{wT:Bool}{sz:Nat}:(oA r).f H n (.nW wT sz rows)=(tU r.oP rows).bind fun xs=>some (.nW wT sz (mp r.enc xs)):=rfl
def ayP:List ZO->List lw->Nat->List lw->Option (List lw)
 |[],_,_,_=>some []
 |z::zs,H,n,v::vs=>(z.f H n v).bind fun u=>(ayP zs H n vs).bind fun us=>some (u::us)
 |_::_,_,_,[]=>none
def aAb:∀{zs:List ZO}{H:List lw}{n:Nat}{vs us:List lw},ayP zs H n vs=some us->CoH H n vs us/\us.length=zs.length
 |[],_,_,vs,us,h=>by simp only[ayP,eg]at h;subst h;exact⟨CoH.nil,rfl⟩
 |z::zs,H,n,v::vs,us,h=>by
  simp only[ayP,ed,eg]at h;obtain⟨u,hu,ws,hws,rfl⟩:=h;obtain⟨h1,h2⟩:=aAb hws;exact⟨⟨z.ok _ _ _ _ hu,h1⟩,by simp [h2]⟩
 |_::_,_,_,[],_,h=>by simp [ayP]at h
def avR:axY n []=True:=eq_true agv
def aGx(zs:List NZ)(zo:List ZO)(J:k9):Option k9:=
 (anP zs J.heap zo.length J.lE).bind fun ss=>(ayP zo J.heap zo.length J.heap).bind fun hs=>bif decide (J.low<=zo.length)then qq (axY zo.length J.df) (some ⟨ss,hs,J.low,J.df⟩)else none
def aGy{zo:List ZO}(h:aGx zs zo J=some J'):N4 J J':=by
 unfold aGx at h;simp only[ed]at h;obtain⟨ss,h1,hs,h2,h3⟩:=h;cases hl:decide (J.low<=zo.length)with
 |false=>simp [hl]at h3
 |true=>
  simp only[hl,kP]at h3;rw[pH]at h3;obtain⟨hdf,h3⟩:=h3;simp only[eg]at h3;subst h3;obtain⟨h4,h5⟩:=aAb h2;have hle:J.low<=hs.length:=by rw[h5];exact kT hl
  refine aph.imp ⟨⟨⟨rfl,hle⟩,rfl,by rw[h5];exact hdf⟩,?_,?_⟩
  ·show GM J.heap hs.length J.lE ss;rw[h5];exact aoQ h1
  ·show CoH J.heap hs.length J.heap hs;rw[h5];exact h4
def K1(i sz:Nat)(wT:Bool)(J:k9):k9:=
 match J.lE[i]? with
 |some (.mj true _ [])=>{lE:=J.lE.set i (.nW J.heap.length 0),heap:=J.heap++[.nW wT sz []],low:=J.low,df:=J.df}
 |_=>J
def apI {sz:Nat}{wT:Bool}:N4 J (K1 i sz wT J):=by
 unfold K1;split
 ·rename_i s h;exact au9 h
 ·exact N4.refl J
section aDB
variable {a:Act} {w:aPJ}
def adw{b o:Nat}:(lw.cells cs).Ew h b o->(lw.cells ds).Ew h b o:=by
 intro hm;cases h with
 |pointer p=>cases p<;>exact hm
 |_=>exact hm
theorem S7{b:Nat}:(lw.cells cs).block h b->(lw.cells ds).block h b:=by
 intro hm;cases h with
 |pointer p=>cases p<;>exact hm
 |_=>exact hm
def aid(hl:H[l]? =some (.cells cs)){x:lw}(hx:(H.set l (.cells ds))[k]? =some x):(k=l/\x=.cells ds)\/(k≠l/\H[k]? =some x):=by
 grind
def ayQ(hl:J.heap[l]? =some (.cells cs)):C.env U (J.heap.set l (.cells ds)) w=C.env U J.heap w:=by
 have q9:l<J.heap.length:=(ey.1 hl).1
 have hmu:∀b o,KR U (J.heap.set l (.cells ds)) b o↔KR U J.heap b o:=by
  intro b o;constructor
  ·rintro⟨k,x,hx,hm⟩;rcases aid hl hx with⟨rfl,rfl⟩|⟨_,hx⟩
   ·exact⟨k,_,hl,adw hm⟩
   ·exact⟨k,x,hx,hm⟩
  ·rintro⟨k,x,hx,hm⟩;by_cases e:k=l
   ·subst e;rw[hl]at hx;cases hx;exact⟨k,_,eB q9,adw hm⟩
   ·exact⟨k,x,by grind,hm⟩
 unfold tC.env;congr 1
 ·grind
 ·funext k;by_cases e:k=l
  ·subst e;rw[eB q9,hl];rfl
  grind
 ·exact eV
def pW.aDC(S:pW C U J a w)(hl:J.heap[l]? =some (.cells cs))(h:∀b c t,U l=.pointer (some ⟨b,0,none⟩)->w.heap[b]? =some (.cells c t (0,0))->l9 (C.env U J.heap w) cs c.toList->l9 (C.env U J.heap w) ds c.toList):
 pW C U {J with heap:=J.heap.set l (.cells ds)} a w:=by
 have q9:l<J.heap.length:=(ey.1 hl).1;have aJi:C.env U (J.heap.set l (.cells ds)) w=C.env U J.heap w:=ayQ hl
 have FE:vW C U (J.heap.set l (.cells ds)) w J.df a.defers:=S.defers.auM (fun xs vs _ r=>by rw[aJi];exact r) (fun _ _ _=>rfl) (fun k x b hx hb=>by
  grind [S7])
 refine {lE:=?_,defers:=FE,qJ:=?_,apart:=?_,wZ:=?_,size:=S.size,old:=S.old,qE:=S.qE,F2:=?_,AH:=S.AH,rest:=S.rest,low:=⟨S.low.1,by show J.low<=(J.heap.set l (.cells ds)).length;rw[eV];exact S.low.2⟩,mZ:=?_}
 ·show l9 (C.env U (J.heap.set l (.cells ds)) w) J.lE a.tmps.toList;rw[aJi];exact S.lE
 ·intro k x hx;show qV (C.env U (J.heap.set l (.cells ds)) w) x (U k);rw[aJi];rcases aid hl hx with⟨rfl,rfl⟩|⟨_,hx⟩
  ·obtain⟨b,c,t,h1,h2,h3,h4⟩:=S.qJ k _ hl;exact⟨b,c,t,h1,h2,h b c t h1 h2 h3,h4⟩
  ·exact S.qJ k x hx
 ·intro k k' x x' b hx EC hb uD;rcases aid hl hx with⟨e1,rfl⟩|⟨_,h2⟩<;>rcases aid hl EC with⟨e2,rfl⟩|⟨_,h3⟩
  ·rw[e1,e2]
  ·rw[e1]at hb ⊢;exact S.apart _ _ _ _ b hl h3 (S7 hb) uD
  ·rw[e2]at uD ⊢;exact S.apart _ _ _ _ b h2 hl hb (S7 uD)
  ·exact S.apart _ _ _ _ b h2 h3 hb uD
 ·intro k x b o hx hb;rcases aid hl hx with⟨rfl,rfl⟩|⟨_,hx⟩
  ·exact S.wZ _ _ b o hl (S7 hb)
  ·exact S.wZ _ _ b o hx hb
 ·intro k x b o hx hm hb;rcases aid hl hx with⟨rfl,rfl⟩|⟨_,hx⟩
  ·exact S.F2 _ _ b o hl (adw hm) hb
  ·exact S.F2 _ _ b o hx hm hb
 ·intro k hk;have:=S.mZ k hk;show(U k=_/\(oO (J.heap.set l (.cells ds))[k]? =_\/oO (J.heap.set l (.cells ds))[k]? =none))\/((∃q,_/\∀k',oO (J.heap.set l (.cells ds))[k]? =some k'->q<k')/\_)
  have e:oO (J.heap.set l (.cells ds))[k]? =oO J.heap[k]? :=by
   by_cases e:k=l
   ·subst e;rw[eB q9,hl];rfl
   grind
  rw[e];exact this
theorem ase {s sz:Nat}(hl:J.heap[l]? =some (.cells cs))(hc:cs[off]? =some (.mj true s [])):
 N4 J {lE:=J.lE,heap:=J.heap.set l (.cells (cs.set off (.nW J.heap.length 0)))++[.nW true sz []],low:=J.low,df:=J.df}:=by
 intro C U a w S;have q9:l<J.heap.length:=(ey.1 hl).1;obtain⟨b,c,t,hφ,hh,rl,h1⟩:=S.qJ l _ hl;obtain⟨v,hv,base,cap,rfl,_,GI,_⟩:=rl.get hc;have GI:cap=0:=GI rfl;subst GI
 have S':=S.adl (wT:=true) (sz:=sz) (rows:=[]) (w':=w) (h':=.slice base 0 0) (eD _) (fun _ _=>rfl) (fun _=>rfl) ⟨rfl,rfl⟩ (by
  intro b hb;cases base<;>simp [lw.block]at hb) (fun E' _ _=>⟨base,0,rfl,eD _,fun _=>rfl,by simp,fun b _ h0=>absurd rfl h0⟩)
 refine⟨(fun k=>if k=J.heap.length then .slice base 0 0 else U k),?_⟩;have hl':(J.heap++[lw.nW true sz []])[l]? =some (.cells cs):=by grind
 have S2:=S'.aDC (l:=l) (cs:=cs) (ds:=cs.set off (.nW J.heap.length 0)) hl' (by
  intro b2 c2 t2 h3 h4 r
  have e1:b2=b:=by
   grind
  subst e1;rw[show w.heap[b2]? =some (.cells c t (0,0))from hh]at h4;simp only[eg,Obj.cells.injEq]at h4;obtain⟨rfl,_⟩:=h4
  have ax0:=l9.set (i:=off) (c:=.nW J.heap.length 0) (v:=.slice base 0 0) r ⟨by simp [tC.env],⟨_,_,_,rfl⟩,fun k hk=>by
   grind [tC.env]⟩
  grind [List.set_getElem_self])
 grind
def aAc(l off sz:Nat)(J:k9):k9:=
 match J.heap[l]? with
 |some (.cells cs)=>match cs[off]? with
  |some (.mj true _ [])=>{lE:=J.lE,heap:=J.heap.set l (.cells (cs.set off (.nW J.heap.length 0)))++[.nW true sz []],low:=J.low,df:=J.df}
  |_=>J
 |_=>J
def aDD {sz:Nat}:N4 J (aAc l off sz J):=by
 grind [aAc,ase,N4.refl]
end aDB
structure Ce where
 gs:List (Nat×Nat×Bool)
 gc:List (Nat×Nat×Nat)
 zs:List NZ
 zo:List ZO
 sel:Option Nat
 aLd:Option (Nat×Nat)
def aDE:Option AV->Bool
 |some (.mj _ _ _)=>true
 |_=>false
def aJj:Option Nat->k9->Bool
 |none,_=>true
 |some i,J=>aDE J.lE[i]?
def aDF(k:Nat):Option AV->Bool
 |some (.map k')=>k'==k
 |_=>false
def aJk:Option (Nat×Nat)->k9->Bool
 |none,_=>true
 |some (i,k),J=>aDF k J.lE[i]?
def atB:List (Nat×Nat×Bool)->k9->k9
 |[],J=>J
 |(i,sz,b)::r,J=>atB r (K1 i sz b J)
def apJ:List (Nat×Nat×Nat)->k9->k9
 |[],J=>J
 |(l,o,sz)::r,J=>apJ r (aAc l o sz J)
def asf:∀{g:List (Nat×Nat×Bool)}{J:k9},N4 J (atB g J)
 |[],J=>N4.refl J
 |(_,_,_)::_,_=>apI.trans asf
def amr:∀{g:List (Nat×Nat×Nat)}{J:k9},N4 J (apJ g J)
 |[],J=>N4.refl J
 |(_,_,_)::_,_=>aDD.trans amr
def aJl(N:Ce)(J:k9):Option k9:=aGx N.zs N.zo (apJ N.gc (atB N.gs J))
def aGz{N:Ce}(h:aJl N J=some J'):N4 J J':=(asf.trans amr).trans (aGy h)
def tK:List (List Nat×Ce)->List Nat->k9->Option k9
 |[],_,J=>some J
 |(q,N)::t,p,J=>if p=q then(bif aJj N.sel J&&aJk N.aLd J then aJl N J else tK t p J)else tK t p J
def qW:∀(t:List (List Nat×Ce))(p:List Nat)(J J':k9),tK t p J=some J'->N4 J J'
 |[],_,J,J',h=>by grind [tK,N4.refl]
 |(q,N)::t,p,J,J',h=>by
  simp only[tK]at h;split at h
  ·cases hs:(aJj N.sel J&&aJk N.aLd J)with
   |true=>rw[hs]at h;exact aGz h
   |false=>rw[hs]at h;exact qW t p J J' h
  ·exact qW t p J J' h
def ixA(J:k9)(sz:Nat)(x i:AV):Option yO:=
 match x,i with
 |.mj _ VU rows,.int _ n=>if VU=sz then(AU rows n).bind fun r=>some {val:=.pp r} else none
 | .nW l m,.int _ n=>match J.heap[l]? with
   |some (.nW true VU rows)=>if VU=sz/\rows.length=m then(AU rows n).bind fun r=>some {val:=.pp r,rd:=[l]} else none
   |some (.nW false VU rows)=>if VU=sz/\rows.length=m then(AU rows n).bind fun _=>some {val:=.own l n.toNat m 0 sz,rd:=[l]} else none
   |_=>none
 |_,_=>none
def aGA(s:ByteArray)(n:Int):Option UInt8:=if 0<=n then s[n.toNat]? else none
def ixS(x i:AV):Option yO:=
 match x,i with
 |.str s,.int _ n=>(aGA s n).bind fun b=>some {val:=.int .u8 b.toNat}
 |_,_=>none
def ldA(P:aPI)(J:k9)(t:TypeId)(v:AV):Option yO:=
 match o9 P t,v with
 |some (g,n),.ptr l off=>match J.heap[l]? with
  |some (.cells cs)=>(l3 g n (cs.drop off)).bind fun v=>ldV J.heap l v
  |_=>none
 |some (g,n),.pp cs=>(l3 g n cs).bind fun v=>some {val:=v}
 |some (g,n),.own l i m o sz=>match J.heap[l]? with
  |some (.nW false VU rows)=>if VU=sz/\rows.length=m then rows[i]?.bind fun r=>(l3 g n (r.drop o)).bind fun v=>some {val:=v,rd:=[l]} else none
  |_=>none
 |some (false,_),.uS v=>ao3 v
 |_,_=>none
def stA(P:aPI)(J:k9)(t:TypeId)(v:AV)(ys:Option (List AV)):Option yO:=
 match o9 P t,v,ys with
 |some (_,n),.ptr l off,some ys=>match J.heap[l]? with
  |some (.cells cs)=>if ys.length=n/\off+n<=cs.length then some {val:=.any,rd:=[l],up:=[(l,.cells (z1 cs off ys))]} else none
  |_=>none
 |some (_,n),.own l i m o sz,some ys=>match J.heap[l]? with
  |some (.nW false VU rows)=>if VU=sz/\rows.length=m then rows[i]?.bind fun r=>if ys.length=n/\o+n<=sz then some {val:=.any,rd:=[l],up:=[(l,.nW false sz (rows.set i (z1 r o ys)))]} else none else none
  |_=>none
 |_,_,_=>none
def aDG(n:Int)(f:Nat->Option yO):Nat->Nat->Option yO
 |0,_=>none
 |c+1,i=>bif n==(i:Int)then f i else aDG n f c (i+1)
theorem aAd{n:Int}{f:Nat->Option yO}:∀(c i:Nat),aDG n f c i=if (i:Int)<=n/\n<(i:Int)+c then f n.toNat else none
 |0,i=>by rw[if_neg (by omega)];rfl
 |c+1,i=>by
  rw[aDG,aAd c (i+1)]
  grind
def ixP(len sz:Nat)(x i:AV):Option yO:=
 match x,i with
 |.ptr l off,.int _ n=>if len<=8 then aDG n (fun i=>some {val:=.ptr l (off+i*sz)}) len 0 else if 0<=n/\n<len then some {val:=.ptr l (off+n.toNat*sz)} else none
 |.pp cs,.int _ n=>if 0<=n/\n<len then(Xb sz n.toNat cs).bind fun ds=>some {val:=.pp ds} else none
 |.uS (.pointer (some ⟨b,o,none⟩)),.int _ n=>if 0<=n/\n<len then some {val:=.uS (.pointer (some ⟨b,o+n.toNat*sz,none⟩))} else none
 |_,_=>none
def ixZ(P:aPI)(t:TypeId)(x i:AV):Option yO:=
 match am7 P t,x,i with
 |some len,.agg cs,.int _ n=>(aku cs).bind fun ms=>if 0<=n/\n<len then(AU ms n).bind fun m=>some {val:=.int .i64 m} else none
 |_,_,_=>none
def opX (P:aPI) (J:k9):Op->Option yO
 | .indexAddr t x i=>match nY P t with
   |some (_,sz,_)=>ixA J sz (J.ev x) (J.ev i)
   |none=>match aqU P t with
    |some (len,sz)=>ixP len sz (J.ev x) (J.ev i)
    |none=>none
 |.index t x i=>if rV P t=true then ixS (J.ev x) (J.ev i)else ixZ P t (J.ev x) (J.ev i)
 | .binOp op t x y ty=>match op with
   |.eql=>nf P J (.binOp .eql t x y ty)
   |.neq=>nf P J (.binOp .neq t x y ty)
   |op=>(akr op (J.ev x) (J.ev y)).bind fun v=>some {val:=v}
 |.load t x=>ldA P J t (J.ev x)
 |.store t x y=>stA P J t (J.ev x) (cellsOf (J.ev y))
 |o=>nf P J o
def L1(H:List lw):∀cs:List AV,yg 0 cs->vwL H cs=some (cs,[])
 |[],_=>rfl
 |c::cs,h=>by
  have ih:=L1 H cs h.2;cases c with
  |nW l n=>exact absurd h.1 (eW _)
  |_=>simp only[vwL,ih]
theorem xU(P:aPI)(J:k9)(o:Op):nf P J o=opX P J o:=by
 cases o with
 |indexAddr t x i=>
  simp only[opX];cases ht:nY P t with
  |none=>
   simp only[nf,ht]
   grind [ixP,aAd]
  |some q=>
   obtain⟨e,sz,b⟩:=q;simp only[nf,ht]
   grind [ixA,AU]
 |index t x i=>
  simp only[opX,nf];cases ht:rV P t
  ·simp only[Bool.false_eq_true,if_false];unfold ixZ;cases hx:J.ev x<;>cases hi:J.ev i<;>simp only[]
   all_goals (first|done|(cases h1:am7 P t<;>rfl)|skip)
   rename_i cs k n;cases h1:am7 P t with
   |none=>rfl
   |some len=>
    cases h2:aku cs with
    |none=>
     simp only[h2,Option.bind_none]
    |some ms=>
     simp only[h2,eE,AU];split
     ·rename_i hc;simp only[if_pos hc.1];cases ms[n.toNat]? <;>rfl
     ·rfl
  ·cases hx:J.ev x<;>cases hi:J.ev i<;>simp only[ixS,kW]
   grind [aGA]
 |binOp op t x y ty=>
  cases op with
  |eql=>rfl
  |neq=>rfl
  |_=>
   simp only[opX,nf];generalize akr _ (J.ev x) (J.ev y)=q;cases q<;>rfl
 |load t x=>
  simp only[opX,nf,ldA]
  grind
 |store t x y=>
  simp only[opX,nf,stA]
  grind
 |_=>rfl
section freeze
variable {a:Act} {w:aPJ}
def rp1(l:Nat)(cs:List AV):AV->AV
 |.ptr k off=>if k=l then .pp (cs.drop off)else .ptr k off
 |x=>x
def rpV(l:Nat)(cs:List AV):AV->AV
 |.ptr k off=>if k=l then .pp (cs.drop off)else .ptr k off
 |.func fn f c=>.func fn (f.map (rp1 l cs)) (c.map (rp1 l cs))
 |x=>x
def rpO(l:Nat)(cs:List AV):lw->lw
 |.cells ds=>.cells (ds.map (rpV l cs))
 |x=>x
def avS(l:Nat)(J:k9):Option k9:=
 match J.heap[l]? with
 |some (.cells cs)=>qq (yg 0 cs/\J.low<=l) (some {lE:=J.lE.map (rpV l cs),heap:=(J.heap.map (rpO l cs)).set l .zU,low:=J.low,df:=J.df})
 |_=>none
def avT{x:lw}{b o:Nat}:(rpO l cs x).Ew h b o->x.Ew h b o:=by
 cases x with
 |cells ds=>exact adw
 |_=>exact id
theorem abB{x:lw}{b:Nat}:(rpO l cs x).block h b->x.block h b:=by
 cases x with
 |cells ds=>exact S7
 |_=>exact id
theorem aGB{x:lw}:oO (some (rpO l cs x))=oO (some x):=by
 cases x<;>rfl
def aJm{y:lw}(h:((H.map (rpO l cs)).set l .zU)[k]? =some y):(k=l/\y=.zU)\/(k≠l/\∃x,H[k]? =some x/\y=rpO l cs x):=by
 grind
theorem aDH(h:avS l J=some J'):N4 J J':=by
 unfold avS at h;split at h
 case h_2=>cases h
 rename_i cs hl;rw[pH]at h;obtain⟨⟨LY,MN⟩,h⟩:=h;cases h;intro C U a w S;refine⟨U,?_⟩;have q9:l<J.heap.length:=(ey.1 hl).1;obtain⟨b0,c0,t0,hφ,hh,rl,DI⟩:=S.qJ l _ hl
 let H':List lw:=(J.heap.map (rpO l cs)).set l .zU
 have hlen:H'.length=J.heap.length:=by simp [H']
 have qe:∀(k:Nat)(y:lw),H'[k]? =some y->(k=l/\y=.zU)\/(k≠l/\∃x,J.heap[k]? =some x/\y=rpO l cs x):=fun k y hy=>aJm hy
 have QT:∀b o,KR U H' b o->KR U J.heap b o:=by
  rintro b o ⟨k,y,hy,hm⟩;rcases qe k y hy with⟨_,rfl⟩|⟨_,x,hx,rfl⟩
  ·simp [lw.Ew]at hm
  ·exact⟨k,x,hx,avT hm⟩
 have auT:∀k:Nat,oO H'[k]? =oO J.heap[k]? :=by
  intro k;by_cases e:k=l
  ·subst e;simp only[H'];rw[eB (by simpa using q9),hl];rfl
  grind [aGB]
 have le:(C.env U J.heap w).Le J.heap.length (C.env U H' w):=
  tC.GF (by rw[hlen];exact eD _) (fun k _=>⟨rfl,auT k⟩) (fun b o u hm hc=>⟨fun h=>hm (h.imp (QT b o) id),hc⟩)
 have aLe:∀o,¬ (KR U H' b0 o\/C.A b0 o):=by
  rintro o (⟨k,y,hy,hm⟩|hA)
  ·rcases qe k y hy with⟨_,rfl⟩|⟨uP,x,hx,rfl⟩
   ·simp [lw.Ew]at hm
   ·exact uP (S.apart k l x _ b0 hx hl (abB (lw.qL hm)) (by rw[hφ];rfl))
  ·exact S.wZ l _ b0 o hl (by rw[hφ];rfl) hA
 have rl':l9 (C.env U H' w) cs c0.toList:=l9.mono le _ _ (uT (eL _) _ LY) rl
 have hpp:∀(off:Nat)(v:aPH),rD (C.env U J.heap w) (.ptr l off) v->rD (C.env U H' w) (.pp (cs.drop off)) v:=by
  rintro off v ⟨_,b,hb,rfl⟩
  have e:b0=b:=by
   have uD:U l=.pointer (some ⟨b,0,none⟩):=hb;rw[hφ]at uD;simpa using uD
  subst e;refine⟨b0,off,rfl,?_⟩;have hd:=rl'.drop off;have h1:∀u∈c0.toList.drop off,u.oneCell'=true:=fun u hu=>DI u (List.mem_of_mem_drop hu)
  have hl2:=hd.length;exact Nw (E:=C.env U H' w) (c:=c0) (t:=t0) (fr:=(0,0)) hh _ off (fun o _ _=>aLe o) (by grind) (by grind)
 have h1:∀(x:AV)(v:aPH),rD (C.env U J.heap w) x v->rD (C.env U H' w) (rp1 l cs x) v:=by
  intro x v r;cases x with
  |ptr k off=>
   simp only[rp1];split
   ·grind
   ·exact rD.mono le _ _ (rD.nb _ _ r) r
  |_=>exact rD.mono le _ _ (rD.nb _ _ r) r
 have hL1:∀(xs:List AV)(vs:List aPH),l9 (C.env U J.heap w) xs vs->l9 (C.env U H' w) (xs.map (rp1 l cs)) vs:=by
  intro xs;induction xs with
  |nil=>intro vs r;exact r
  |cons x xs ih=>rintro _ ⟨u,us,rfl,r1,r2⟩;exact⟨u,us,rfl,h1 x u r1,ih us r2⟩
 have hV:∀(x:AV)(v:aPH),rD (C.env U J.heap w) x v->rD (C.env U H' w) (rpV l cs x) v:=by
  intro x v r;cases x with
  |ptr k off=>
   simp only[rpV];split
   ·grind
   ·exact rD.mono le _ _ (rD.nb _ _ r) r
  |func fn f c=>
   obtain⟨f',c',hv,r1,r2⟩:=r;exact⟨f',c',hv,hL1 _ _ r1,hL1 _ _ r2⟩
  |_=>exact rD.mono le _ _ (rD.nb _ _ r) r
 have hLV:∀(xs:List AV)(vs:List aPH),l9 (C.env U J.heap w) xs vs->l9 (C.env U H' w) (xs.map (rpV l cs)) vs:=by
  intro xs;induction xs with
  |nil=>intro vs r;exact r
  |cons x xs ih=>rintro _ ⟨u,us,rfl,r1,r2⟩;exact⟨u,us,rfl,hV x u r1,ih us r2⟩
 have FE:vW C U H' w J.df a.defers:=S.defers.step le (fun _ _ _=>rfl) (fun k y b hy hb=>by
  grind [lw.block,abB])
 refine {lE:=hLV _ _ S.lE,defers:=FE,qJ:=?_,apart:=?_,wZ:=?_,size:=S.size,old:=S.old,qE:=S.qE,F2:=?_,AH:=S.AH,rest:=S.rest,low:=⟨S.low.1,by grind⟩,mZ:=?_}
 ·intro k y hy;rcases qe k y hy with⟨_,rfl⟩|⟨_,x,hx,rfl⟩
  ·exact trivial
  ·have r:=S.qJ k x hx;cases x with
   |cells ds=>
    obtain⟨b,c,t,h1,h2,h3,h4⟩:=r;exact⟨b,c,t,h1,h2,hLV _ _ h3,h4⟩
   |_=>exact qV.mono r le (fun _ _=>rfl)
 ·intro k k' y y' b hy hy' hb uD;rcases qe k y hy with⟨_,rfl⟩|⟨_,x,hx,rfl⟩
  ·simp [lw.block]at hb
  ·rcases qe k' y' hy' with⟨_,rfl⟩|⟨_,x',EC,rfl⟩
   ·simp [lw.block]at uD
   ·exact S.apart k k' x x' b hx EC (abB hb) (abB uD)
 ·intro k y b o hy hb;rcases qe k y hy with⟨_,rfl⟩|⟨_,x,hx,rfl⟩
  ·simp [lw.block]at hb
  ·exact S.wZ k x b o hx (abB hb)
 ·intro k y b o hy hm hb;rcases qe k y hy with⟨_,rfl⟩|⟨_,x,hx,rfl⟩
  ·simp [lw.Ew]at hm
  ·exact S.F2 k x b o hx (avT hm) hb
 ·intro k hk;have:=S.mZ k hk
  grind
def avU{sz:Nat}{b o:Nat}:(lw.nW true sz rows).Ew h b o->(lw.nW false sz rows).Ew h b o:=by
 intro hm;cases h with
 |slice base n cap=>
  cases base with
  |none=>exact hm
  |some a=>exact⟨hm.1,fun h=>by cases h⟩
 |_=>exact hm
def pW.wT{a:Act}{w:aPJ}{sz:Nat}(hl:J.heap[l]? =some (.nW false sz rows))(S:pW C U J a w):pW C U {J with heap:=J.heap.set l (.nW true sz rows)} a w:=by
 have q9:l<J.heap.length:=(ey.1 hl).1
 let H':List lw:=J.heap.set l (.nW true sz rows)
 have hlen:H'.length=J.heap.length:=by simp [H']
 have qe:∀(k:Nat)(y:lw),H'[k]? =some y->(k=l/\y=.nW true sz rows)\/J.heap[k]? =some y:=by
  grind
 have QT:∀b o,KR U H' b o->KR U J.heap b o:=by
  rintro b o ⟨k,y,hy,hm⟩;rcases qe k y hy with⟨rfl,rfl⟩|hx
  ·exact⟨k,_,hl,avU hm⟩
  ·exact⟨k,y,hx,hm⟩
 have auT:∀k:Nat,oO H'[k]? =oO J.heap[k]? :=by
  intro k;by_cases e:k=l
  ·subst e;simp only[H'];rw[eB q9,hl];rfl
  grind
 have le:(C.env U J.heap w).Le J.heap.length (C.env U H' w):=
  tC.GF (by rw[hlen];exact eD _) (fun k _=>⟨rfl,auT k⟩) (fun b o u hm hc=>⟨fun h=>hm (h.imp (QT b o) id),hc⟩)
 have Mu:∀{h:aPH}{b:Nat},(lw.nW true sz rows).block h b->(lw.nW false sz rows).block h b:=by
  intro h b hb;cases h with
  |slice base n cap=>cases base<;>exact hb
  |_=>exact hb
 have aDI:∀(k:Nat)(y:lw)(b:Nat),H'[k]? =some y->y.block (U k) b->∃x,J.heap[k]? =some x/\x.block (U k) b:=by
  grind
 have FE:vW C U H' w J.df a.defers:=S.defers.step le (fun _ _ _=>rfl) (fun k y b hy hb=>by
  grind)
 refine {lE:=l9.mono le _ _ (l9.nb _ _ S.lE) S.lE,defers:=FE,qJ:=?_,apart:=?_,wZ:=?_,size:=S.size,old:=S.old,qE:=S.qE,F2:=?_,AH:=S.AH,rest:=S.rest,low:=⟨S.low.1,by show J.low<=H'.length;rw[hlen];exact S.low.2⟩,mZ:=?_}
 ·intro k y hy;rcases qe k y hy with⟨rfl,rfl⟩|hx
  ·have r:qV (C.env U H' w) (.nW false sz rows) (U k):=qV.mono (S.qJ k _ hl) le (fun _ _=>rfl);exact r
  ·exact qV.mono (S.qJ k y hx) le (fun _ _=>rfl)
 ·intro k k' y y' b hy hy' hb uD;obtain⟨x,hx,hb1⟩:=aDI k y b hy hb;obtain⟨x',EC,hb2⟩:=aDI k' y' b hy' uD;exact S.apart k k' x x' b hx EC hb1 hb2
 ·intro k y b o hy hb;obtain⟨x,hx,hb1⟩:=aDI k y b hy hb;exact S.wZ k x b o hx hb1
 ·intro k y b o hy hm hb;rcases qe k y hy with⟨rfl,rfl⟩|hx
  ·exact S.F2 k _ b o hl (avU hm) hb
  ·exact S.F2 k y b o hx hm hb
 ·intro k hk;have:=S.mZ k hk
  grind
theorem aGC {sz:Nat}(hl:J.heap[l]? =some (.nW false sz rows)):N4 J {J with heap:=J.heap.set l (.nW true sz rows)}:=fun _ U _ _ S=>⟨U,pW.wT hl S⟩
def aq7(J:k9)(l:Nat):Option lw->k9
 |some (.nW false sz rows)=>{J with heap:=J.heap.set l (.nW true sz rows)}
 |_=>J
theorem aAe:N4 J (aq7 J l J.heap[l]?):=by
 unfold aq7
 grind [aGC,N4.refl]
def anQ(J:k9):Option AV->k9
 |some (.nW l _)=>aq7 J l J.heap[l]?
 |_=>J
def aGD{x:Option AV}:N4 J (anQ J x):=by
 unfold anQ
 grind [aAe,N4.refl]
theorem aDJ{x:Option AV}:(anQ J x).low=J.low:=by
 unfold anQ aq7;split
 ·split<;>rfl
 ·rfl
theorem aGE{x:Option AV}:(anQ J x).df=J.df:=by
 unfold anQ aq7;split
 ·split<;>rfl
 ·rfl
def aJn:(∀l n,anQ J (some (.nW l n))=aq7 J l J.heap[l]?):=fun _ _=>rfl
def aJo:(∀sz rows,aq7 J l (some (.nW false sz rows))={J with heap:=J.heap.set l (.nW true sz rows)})/\(∀sz rows,aq7 J l (some (.nW true sz rows))=J):=⟨fun _ _=>rfl,fun _ _=>rfl⟩
end freeze
def fzX(l:Nat)(J:k9):Option lw->Option k9
 |some (.nW _ _ _)=>some (aq7 J l J.heap[l]?)
 |_=>avS l J
def aJp{x:Option lw}(h:fzX l J x=some J'):N4 J J':=by
 unfold fzX at h
 grind [aAe,aDH]
def asg:List Nat->k9->Option k9
 |[],J=>some J
 |l::ls,J=>(fzX l J J.heap[l]?).bind (asg ls)
def aLf:(∀i s r,fzX l J (some (.nW i s r))=some (aq7 J l J.heap[l]?))/\(∀cs,fzX l J (some (.cells cs))=avS l J):=⟨fun _ _ _=>rfl,fun _=>rfl⟩
def avV:∀{ls:List Nat}{J J':k9},asg ls J=some J'->N4 J J'
 |[],J,J',h=>by grind [asg,N4.refl]
 |l::ls,J,J',h=>by
  simp only[asg,ed]at h;obtain⟨J1,h1,h2⟩:=h;exact(aJp h1).trans (avV h2)
def aPo:List (List Nat×List Nat)->List Nat->k9->Option k9
 |[],_,J=>some J
 |(q,ls)::t,p,J=>if p=q then asg ls J else aPo t p J
def rX:∀(t:List (List Nat×List Nat))(p:List Nat)(J J':k9),aPo t p J=some J'->N4 J J'
 |[],_,J,J',h=>by grind [aPo,N4.refl]
 |(q,ls)::t,p,J,J',h=>by
  simp only[aPo]at h;split at h
  ·exact avV h
  ·exact rX t p J J' h
section aNE
def cI(k:aPL):VZ Int where
 enc n:=[.int k n]
 oP _ cs:=dI1 k cs
 ok H n cs x h:=by
  unfold dI1 at h
  grind [nI.cons,xT,nI.nil]
 nb _ _:=⟨trivial,trivial⟩
def cB:VZ Bool where
 enc b:=[.bool b]
 oP _ cs:=dB1 cs
 ok H n cs x h:=by
  unfold dB1 at h
  grind [nI.cons,akS,nI.nil]
 nb _ _:=⟨trivial,trivial⟩
def cS:VZ lH where
 enc s:=[.str (sb s)]
 oP _ cs:=dS1 cs
 ok H n cs x h:=by
  unfold dS1 at h
  grind [nI.cons,S6,nI.nil]
 nb _ _:=⟨trivial,trivial⟩
variable {γ:Type}
def dL1(r:Row W)(H:List lw):List AV->Option (List W)
 |[c]=>dL r H c
 |_=>none
def cL(r:Row W):VZ (List W) where
 enc xs:=[.mj false r.sz (mp r.enc xs)]
 oP:=dL1 r
 ok H n cs x h:=by
  unfold dL1 at h
  grind [nI.cons,Cj,nI.nil]
 nb n xs:=⟨DO xs,trivial⟩
def dF1(f:aPG):List AV->Option Unit
 |[c]=>dF f c
 |_=>none
def cF (f:aPG):VZ Unit where
 enc _:=[.func (.func f) [] []]
 oP _ cs:=dF1 f cs
 ok H n cs x h:=by
  unfold dF1 at h;split at h
  ·unfold dF at h;split at h
   ·split at h
    ·rename_i e;subst e;exact nI.cons (Co1.sub (Pc.refl _) ⟨trivial,trivial⟩) nI.nil
    ·cases h
   ·cases h
  ·cases h
 nb _ _:=⟨⟨trivial,trivial⟩,trivial⟩
def aNF{k:aPL}:(∀n,(cI k).enc n=[.int k n])/\∀H cs,(cI k).oP H cs=dI1 k cs:=⟨fun _=>rfl,fun _ _=>rfl⟩
def aNG:(∀n,cB.enc n=[.bool n])/\∀H cs,cB.oP H cs=dB1 cs:=⟨fun _=>rfl,fun _ _=>rfl⟩
def aNH:(∀n,cS.enc n=[.str (sb n)])/\∀H cs,cS.oP H cs=dS1 cs:=⟨fun _=>rfl,fun _ _=>rfl⟩
def aNI{r:Row W}:(∀n,(cL r).enc n=[.mj false r.sz (mp r.enc n)])/\∀H cs,(cL r).oP H cs=dL1 r H cs:=⟨fun _=>rfl,fun _ _=>rfl⟩
def aNJ:(∀n,(cF f).enc n=[.func (.func f) [] []])/\∀H cs,(cF f).oP H cs=dF1 f cs:=⟨fun _=>rfl,fun _ _=>rfl⟩
def dP(c:VZ W):AV->Option W
 |.pp cs=>c.oP [] cs
 |_=>none
def aLg{c:VZ W}{x:W}(h:dP c v=some x):Pc v (.pp (c.enc x)):=by
 unfold dP at h;split at h
 ·exact Pc.pp (c.ok [] 0 _ _ h).qk.aBx
 ·cases h
def xM(c:VZ W):Ty W where
 enc x:=.pp (c.enc x)
 oP _:=dP c
 ok H n v x h:=Co.sub (aLg h) (c.nb n x)
 nb n x:=c.nb n x
def aGF{c:VZ W}{x:W}:(xM c).enc x=.pp (c.enc x):=rfl
def aGG{c:VZ W}:(xM c).oP H v=dP c v:=rfl
def dK1(f:aPG)(a:Ty W):AV->Option W
 |.func (.func g) [] [x]=>if g=f then a.oP [] x else none
 |_=>none
def dK2(f:aPG)(a:Ty W)(b:Ty O):AV->Option (W×O)
 |.func (.func g) [] [x,y]=>if g=f then(a.oP [] x).bind fun u=>(b.oP [] y).bind fun v=>some (u,v)else none
 |_=>none
def dK3(f:aPG)(a:Ty W)(b:Ty O)(c:Ty γ):AV->Option (W×O×γ)
 |.func (.func g) [] [x,y,z]=>if g=f then(a.oP [] x).bind fun u=>(b.oP [] y).bind fun v=>(c.oP [] z).bind fun w=>some (u,v,w)else none
 |_=>none
def ajQ(f:aPG)(a:Ty W):Ty W where
 enc x:=.func (.func f) [] [a.enc x]
 oP _:=dK1 f a
 ok H n v x h:=by
  unfold dK1 at h;split at h
  ·split at h
   ·rename_i e;subst e;exact Co.sub (Pc.func tQ.nil (tQ.cons (a.ok [] 0 _ _ h).qk tQ.nil)) ⟨trivial,a.nb n x,trivial⟩
   ·cases h
  ·cases h
 nb n x:=⟨trivial,a.nb n x,trivial⟩
def aLh(f:aPG)(a:Ty W)(b:Ty O):Ty (W×O) where
 enc x:=.func (.func f) [] [a.enc x.1,b.enc x.2]
 oP _:=dK2 f a b
 ok H n v x h:=by
  unfold dK2 at h;split at h
  ·split at h
   ·rename_i e;subst e;simp only[ed,eg]at h;obtain⟨u,hu,w,hw,rfl⟩:=h;exact Co.sub (Pc.func tQ.nil (tQ.cons (a.ok [] 0 _ _ hu).qk (tQ.cons (b.ok [] 0 _ _ hw).qk tQ.nil))) ⟨trivial,a.nb n u,b.nb n w,trivial⟩
   ·cases h
  ·cases h
 nb n x:=⟨trivial,a.nb n _,b.nb n _,trivial⟩
def aLi(f:aPG)(a:Ty W)(b:Ty O)(c:Ty γ):Ty (W×O×γ) where
 enc x:=.func (.func f) [] [a.enc x.1,b.enc x.2.1,c.enc x.2.2]
 oP _:=dK3 f a b c
 ok H n v x h:=by
  unfold dK3 at h;split at h
  ·split at h
   ·rename_i e;subst e;simp only[ed,eg]at h;obtain⟨u,hu,w,hw,p,hp,rfl⟩:=h;exact Co.sub (Pc.func tQ.nil (tQ.cons (a.ok [] 0 _ _ hu).qk (tQ.cons (b.ok [] 0 _ _ hw).qk (tQ.cons (c.ok [] 0 _ _ hp).qk tQ.nil)))) ⟨trivial,a.nb n u,b.nb n w,c.nb n p,trivial⟩
   ·cases h
  ·cases h
 nb n x:=⟨trivial,a.nb n _,b.nb n _,c.nb n _,trivial⟩
def aJq{a:Ty W}:(∀x,(ajQ f a).enc x=.func (.func f) [] [a.enc x])/\∀H v,(ajQ f a).oP H v=dK1 f a v:=⟨fun _=>rfl,fun _ _=>rfl⟩
def aJr{a:Ty W}{b:Ty O}:(∀x,(aLh f a b).enc x=.func (.func f) [] [a.enc x.1,b.enc x.2])/\∀H v,(aLh f a b).oP H v=dK2 f a b v:=⟨fun _=>rfl,fun _ _=>rfl⟩
def aJs{a:Ty W}{b:Ty O}{c:Ty γ}:(∀x,(aLi f a b c).enc x=.func (.func f) [] [a.enc x.1,b.enc x.2.1,c.enc x.2.2])/\∀H v,(aLi f a b c).oP H v=dK3 f a b c v:=⟨fun _=>rfl,fun _ _=>rfl⟩
end aNE
section qJ
variable {γ:Type}
structure OTy(W:Type) where
 enc:W->lw
 oP:List lw->lw->Option W
 ok:∀H n x y,oP H x=some y->Xf H n x (enc y)
 s8:∀τ y,(enc y).s8 τ=enc y
 nb:∀n y,uJ n (enc y)
def daT(wT:Bool)(r:Row W):lw->Option (List W)
 |.nW aNK sz rows=>if aNK=wT/\sz=r.sz then tU r.oP rows else none
 |_=>none
def oaT(wT:Bool)(r:Row W):OTy (List W) where
 enc xs:=.nW wT r.sz (mp r.enc xs)
 oP _:=daT wT r
 ok H n x y h:=by
  unfold daT at h;split at h
  ·split at h
   ·rename_i hc;obtain⟨rfl,rfl⟩:=hc;exact .inr (.inr (.inr (.inl ⟨_,_,_,_,rfl,rfl,(R5 h).2,DO y⟩)))
   ·cases h
  ·cases h
 s8 τ y:=by grind [lw.s8,xG,DO]
 nb n y:=DO y
def dcT(c:VZ W)(H:List lw):lw->Option W
 |.cells cs=>c.oP H cs
 |_=>none
def CK(c:VZ W):OTy W where
 enc x:=.cells (c.enc x)
 oP:=dcT c
 ok H n x y h:=by
  unfold dcT at h;split at h
  ·exact .inr (.inr (.inl ⟨_,_,rfl,rfl,(c.ok H n _ _ h).aDw⟩))
  ·cases h
 s8 τ y:=by simp only[lw.s8];rw[tJ τ _ (c.nb 0 y)]
 nb n y:=c.nb n y
def aLj{wT:Bool}{r:Row W}:(∀x,(oaT wT r).enc x=.nW wT r.sz (mp r.enc x))/\∀H x,(oaT wT r).oP H x=daT wT r x:=⟨fun _=>rfl,fun _ _=>rfl⟩
def aLk{c:VZ W}:(∀x,(CK c).enc x=.cells (c.enc x))/\∀H x,(CK c).oP H x=dcT c H x:=⟨fun _=>rfl,fun _ _=>rfl⟩
structure abC(O:Type) where
 enc:O->List lw
 oP:List lw->List lw->Option O
 ok:∀H n xs b,oP H xs=some b->CoH H n xs (enc b)/\(enc b).length=xs.length
 s8:∀τ b,∀y∈enc b,y.s8 τ=y
 nb:∀n b,∀y∈enc b,uJ n y
def vI:abC Unit where
 enc _:=[]
 oP _
  |[]=>some ()
  |_=>none
 ok H n xs b h:=by
  grind [CoH.nil]
 s8 _ _:=by simp
 nb _ _:=by simp
def aGH(o:OTy γ)(s:abC O)(H:List lw):List lw->Option (γ×O)
 |x::xs=>(o.oP H x).bind fun y=>(s.oP H xs).bind fun b=>some (y,b)
 |[]=>none
def xo(o:OTy γ)(s:abC O):abC (γ×O) where
 enc b:=o.enc b.1::s.enc b.2
 oP:=aGH o s
 ok H n xs b h:=by
  unfold aGH at h;split at h
  ·simp only[ed,eg]at h;obtain⟨y,hy,b,hb,rfl⟩:=h;obtain⟨h1,h2⟩:=s.ok H n _ _ hb;exact⟨⟨o.ok H n _ _ hy,h1⟩,by simp [h2]⟩
  ·cases h
 s8 τ b y hy:=by
  simp only[eP]at hy;rcases hy with rfl|hy
  ·exact o.s8 τ _
  ·exact s.s8 τ _ y hy
 nb n b y hy:=by
  simp only[eP]at hy;rcases hy with rfl|hy
  ·exact o.nb n _
  ·exact s.nb n _ y hy
def aLl:(∀b,vI.enc b=[])/\∀H,vI.oP H []=some ():=⟨fun _=>rfl,fun _=>rfl⟩
def aLm{o:OTy γ}{s:abC O}:(∀b,(xo o s).enc b=o.enc b.1::s.enc b.2)/\∀H xs,(xo o s).oP H xs=aGH o s H xs:=⟨fun _=>rfl,fun _ _=>rfl⟩
structure Ma(O W:Type) where
 enc:O->W->List AV
 oP:O->List lw->List AV->Option W
 nR:Nat
 ok:∀b H n xs a,nR<=n->oP b H xs=some a->GM H n xs (enc b a)
def KQ:Ma O Unit where
 enc _ _:=[]
 oP _ _
  |[]=>some ()
  |_=>none
 nR:=0
 ok b H n xs a _ h:=by
  grind [GM.nil]
def aGI(t:Ty γ)(s:Ma O W)(b:O)(H:List lw):List AV->Option (γ×W)
 |x::xs=>(t.oP H x).bind fun y=>(s.oP b H xs).bind fun a=>some (y,a)
 |[]=>none
def V0(t:Ty γ)(s:Ma O W):Ma O (γ×W) where
 enc b a:=t.enc a.1::s.enc b a.2
 oP:=aGI t s
 nR:=s.nR
 ok b H n xs a hn h:=by
  unfold aGI at h;split at h
  ·simp only[ed,eg]at h;obtain⟨y,hy,a,ha,rfl⟩:=h;exact GM.cons (t.ok H n _ _ hy) (s.ok b H n _ _ hn ha)
  ·cases h
def aGJ(k:Nat)(len:O->Nat)(s:Ma O W)(b:O)(H:List lw):List AV->Option W
 |.nW l m::xs=>if l=k/\m=len b then s.oP b H xs else none
 |_=>none
def rsA(k:Nat)(len:O->Nat)(s:Ma O W):Ma O W where
 enc b a:=.nW k (len b)::s.enc b a
 oP:=aGJ k len s
 nR:=max (k+1) s.nR
 ok b H n xs a hn h:=by
  unfold aGJ at h;split at h
  ·split at h
   ·rename_i hc;obtain⟨rfl,rfl⟩:=hc;exact GM.cons (Co.same (show _<n by omega)) (s.ok b H n _ _ (by omega) h)
   ·cases h
  ·cases h
def aLn:(∀(b:O) a,KQ.enc b a=[])/\(∀(b:O) H,KQ.oP b H []=some ())/\(KQ:Ma O Unit).nR=0:=⟨fun _ _=>rfl,fun _ _=>rfl,rfl⟩
def aLo{t:Ty γ}{s:Ma O W}:(∀b a,(V0 t s).enc b a=t.enc a.1::s.enc b a.2)/\(∀b H xs,(V0 t s).oP b H xs=aGI t s b H xs)/\(V0 t s).nR=s.nR:=⟨fun _ _=>rfl,fun _ _ _=>rfl,rfl⟩
def aLp{len:O->Nat}{s:Ma O W}:(∀b a,(rsA k len s).enc b a=.nW k (len b)::s.enc b a)/\(∀b H xs,(rsA k len s).oP b H xs=aGJ k len s b H xs)/\(rsA k len s).nR=max (k+1) s.nR:=⟨fun _ _=>rfl,fun _ _ _=>rfl,rfl⟩
end qJ
def vJ:List AV->AV
 |[y]=>y
 |ys=>.Mt ys
theorem CoH.take:∀{xs ys:List lw}(k:Nat),CoH H n (xs.take k) ys->CoH H n xs ys
 |_,[],_,_=>CoH.nil
 |[],_::_,k,h=>by cases k<;>exact h.elim
 |x::xs,y::ys,0,h=>h.elim
 |x::xs,y::ys,k+1,h=>⟨h.1,CoH.take k h.2⟩
section aNL
variable {M:mg R}
def ajR(J J':k9):Prop:=∀(C:tC)(U:Nat->aPH)(tmps:Array aPH)(w:aPJ),pW C U J {tmps,defers:=[]} w->∃U',pW C U' J' {tmps,defers:=[]} w
theorem N4.e(h:N4 J J'):ajR J J':=fun C U tmps w S=>h C U _ w S
def ajR.trans {σ'':k9}(h:ajR J J')(h':ajR J' σ''):ajR J σ'':=fun C U tmps w S=>
 let ⟨U',S'⟩:=h C U tmps w S
 h' C U' tmps w S'
def S8 {xs:List AV}(hx:ES P J' rs=some xs)(Mv:ajR ⟨xs,J'.heap,J'.low,[]⟩ ⟨ys,H',J'.low,[]⟩):amm P rs (fun o Kl=>o= .ret (vJ ys)/\Kl=H') none J':=by
 have key:∃x,VW P J' rs=some x/\∃r Kl,ajL J' x r Kl/\((yJ.ret r)=.ret (vJ ys)/\Kl=H'):=by
  have exp:∀(x:AV),(∀C U a w,pW C U J' a w->∀v,rD (C.env U J'.heap w) x v->∃vs:List aPH,l9 (C.env U J'.heap w) xs vs/\∀E,l9 E ys vs->rD E (vJ ys) v)->ajL J' x (vJ ys) H':=by
   intro x WH C U a w S v hv;obtain⟨vs,hvs,agu⟩:=WH C U a w S v hv;have S0:pW C U ⟨xs,J'.heap,J'.low,[]⟩ {tmps:=vs.toArray,defers:=[]} w:={S with lE:=by simpa using hvs,defers:=vW.nil};obtain⟨U',S1⟩:=Mv C U vs.toArray w S0;exact⟨U',{S1 with lE:=rfl,defers:=vW.nil},agu _ (by simpa using S1.lE)⟩
  unfold VW;rw[hx]
  match xs,hx,exp with
  |[x],hx,exp=>
   refine⟨x,rfl,_,_,exp x ?_,rfl,rfl⟩;intro C U a w S v hv;refine⟨[v],⟨v,[],rfl,hv,rfl⟩,fun E hr=>?_⟩;have:=hr.length
   match ys,this,hr with
   |[y],_,⟨u,us,he,h1,h2⟩=>
    simp only[eM]at he;obtain⟨rfl,_⟩:=he;exact h1
  |[],hx,exp=>
   refine⟨.Mt [],rfl,_,_,exp _ ?_,rfl,rfl⟩;rintro C U a w S v ⟨vs,rfl,hvs⟩;refine⟨vs.toList,hvs,fun E hr=>?_⟩;have h1:=hr.length;have h2:=hvs.length
   match ys,hr,h1 with
   |[],hr,_=>exact⟨vs,rfl,hr⟩
   |[_],hr,h1=>rw[h1]at h2;simp at h2
   |_::_::_,hr,h1=>rw[h1]at h2;simp at h2
  |x::x'::xs,hx,exp=>
   refine⟨.Mt (x::x'::xs),rfl,_,_,exp _ ?_,rfl,rfl⟩;rintro C U a w S v ⟨vs,rfl,hvs⟩;refine⟨vs.toList,hvs,fun E hr=>?_⟩;have h1:=hr.length;have h2:=hvs.length
   match ys,hr,h1 with
   |[],hr,h1=>rw[h1]at h2;simp at h2
   |[_],hr,h1=>rw[h1]at h2;simp at h2
   |_::_::_,hr,_=>exact⟨vs,rfl,hr⟩
 exact key
def avW {y:AV}(Mv:ajR ⟨[x],J'.heap,J'.low,[]⟩ ⟨[y],H',J'.low,[]⟩):amm P rs (fun o Kl=>o=.panic y/\Kl=H') (some x) J':=by
 refine⟨y,H',?_,rfl,rfl⟩;intro C U a w S v hv;have S0:pW C U ⟨[x],J'.heap,J'.low,[]⟩ {tmps:=[v].toArray,defers:=[]} w:={S with lE:=⟨v,[],rfl,hv,rfl⟩,defers:=vW.nil};obtain⟨U',S1⟩:=Mv C U _ w S0;obtain⟨u,us,he,h1,_⟩:=S1.lE;simp only[eM]at he;obtain⟨rfl,_⟩:=he;exact⟨U',{S1 with lE:=rfl,defers:=vW.nil},h1⟩
def akW{fn:Func}{V:yJ->List lw->Prop}{r:R}(G:KX M)(hf:M.P.funcs[f]? =some fn)(hb:fn.body=some M.body)(uP:(fn.name != "runtime.NumGoroutine")=true)
 (LY:yg H.length args) (Mw:∀x∈H,uJ H.length x) (hn:fn.ntmps=n) (Po:fn.results=rs.toArray)
 (anO:∀J,M.out J=some r->akO M.P (amm M.P rs V) J.df none J) (aLq:∀x J,M.ua x J=some r->akO M.P (amm M.P rs V) J.df (some x) J)
 (h:run M [.at []] {lE:=args++ew (n-args.length) .any,heap:=H,low:=H.length}=some r):FnG M.P f args H V:=by
 refine avq hf hb uP LY Mw hn Po ?_;exact ads G h (fun J' hs=>⟨anO J' hs,anO J' hs⟩) aLq
def zy{fn:Func}{r:R}(G:KX M)(hf:M.P.funcs[f]? =some fn)(hb:fn.body=some M.body)(uP:(fn.name != "runtime.NumGoroutine")=true)
 (LY:yg H.length args) (Mw:∀x∈H,uJ H.length x) (hn:fn.ntmps=n) (Po:fn.results=rs.toArray)
 (anO:∀J,M.out J=some r->J.df=[]/\∃xs,ES M.P J rs=some xs/\ajR ⟨xs,J.heap,J.low,[]⟩ ⟨ys,H',J.low,[]⟩)
 (h:run M [.at []] {lE:=args++ew (n-args.length) .any,heap:=H,low:=H.length}=some r) (hP:∀x J',M.ua x J'=none:=by intros;rfl):FnG M.P f args H (fun o Kl=>o=.ret (vJ ys)/\Kl=H'):=by
 refine akW G hf hb uP LY Mw hn Po (fun J' hs=>?_) (fun x J' hx=>by rw[hP x J']at hx;cases hx) h;obtain⟨hd,xs,hx,Mv⟩:=anO J' hs;rw[hd];exact S8 hx Mv
end aNL
section ams
variable {γ:Type}
def ams(P:aPI)(rs:List ResultVar)(os:abC O)(s:Ma O W)(low:Nat)(J:k9):Option (O×W):=
 (ES P J rs).bind fun xs=>(os.oP J.heap (J.heap.take low)).bind fun b=>(s.oP b J.heap xs).bind fun a=>bif (J.low==low)&&decide (s.nR<=low)&&decide (low<=J.heap.length)&&J.df.isEmpty then some (b,a)else none
def Ze{os:abC O}{s:Ma O W}{r:O×W}(h:ams P rs os s low J=some r):
 J.df=[]/\∃xs,ES P J rs=some xs/\ajR ⟨xs,J.heap,J.low,[]⟩ ⟨s.enc r.1 r.2,os.enc r.1,J.low,[]⟩:=by
 unfold ams at h;simp only[ed]at h;obtain⟨xs,hx,b,hb,a,ha,h⟩:=h;cases hc:((J.low==low)&&decide (s.nR<=low)&&decide (low<=J.heap.length)&&J.df.isEmpty)with
 |false=>simp [hc]at h
 |true=>
  simp only[hc,kP,eg]at h;subst h;simp only[ep,beq_iff_eq,kU]at hc;obtain⟨⟨⟨h1,h2⟩,h3⟩,h4⟩:=hc;refine⟨by simpa using h4,xs,hx,N4.e (aph.imp (J:=⟨xs,J.heap,J.low,[]⟩) (J':=⟨s.enc b a,os.enc b,J.low,[]⟩) ⟨⟨⟨rfl,?_⟩,rfl,agv⟩,?_,?_⟩)⟩
  ·obtain⟨_,h5⟩:=os.ok J.heap 0 _ _ hb
   grind
  ·show GM J.heap (os.enc b).length xs (s.enc b a);obtain⟨_,h5⟩:=os.ok J.heap 0 _ _ hb;exact s.ok b J.heap _ xs a (by rw[h5,List.length_take];omega) ha
  ·show CoH J.heap (os.enc b).length J.heap (os.enc b);exact CoH.take low (os.ok J.heap _ _ _ hb).1
end ams
section aAf
theorem apK:∀(ls:List Nat)(G:List lw)(ys:List lw)(l:Nat)(z:lw),l ∉ ls->(vf G ls ys).set l z=vf (G.set l z) ls ys
 |[],_,_,_,_,_=>by simp [vf]
 |_::_,_,[],_,_,_=>by simp [vf]
 |k::ls,G,y::ys,l,z,h=>by
  simp only[eP,not_or]at h;rw[vf,vf,apK ls _ ys l z h.2,List.set_comm _ _ (fun e=>h.1 e.symm)]
theorem aac:∀(ls:List Nat)(G:List lw)(ys ys':List lw),ls.Nodup->ls.length<=ys'.length->vf (vf G ls ys) ls ys'=vf G ls ys'
 |[],_,_,_,_,_=>by simp [vf]
 |_::_,_,_,[],_,h=>by simp at h
 |l::ls,G,[],y'::ys',hnd,h=>by simp [vf]
 |l::ls,G,y::ys,y'::ys',hnd,h=>by
  rw[List.nodup_cons]at hnd;simp only[eF,Nat.add_le_add_iff_right]at h;simp only[vf];rw[apK ls _ ys l y' hnd.1,List.set_set,aac ls _ ys ys' hnd.2 h]
def adx{H:List lw}{n:Nat}:∀{xs ys:List lw},(∀(k:Nat)(y:lw),ys[k]? =some y->∃x,xs[k]? =some x/\Xf H n x y)->CoH H n xs ys
 |_,[],_=>CoH.nil
 |[],y::ys,h=>by obtain⟨x,hx,_⟩:=h 0 y (by simp);simp at hx
 |x::xs,y::ys,h=>by
  obtain⟨x',hx,hc⟩:=h 0 y (by simp);simp at hx;subst hx;exact⟨hc,adx fun k z hz=>by have:=h (k+1) z (by simpa using hz);simpa using this⟩
theorem GM.append:∀{xs ys us vs:List AV},GM H n xs ys->GM H n us vs->GM H n (xs++us) (ys++vs)
 |[],_,_,_,rfl,h=>h
 |_::_,_,_,_,⟨y,zs,rfl,h,hs⟩,h2=>⟨y,zs++_,rfl,h,GM.append hs h2⟩
def aAf {VX:List AV}(hG:FnG P f args Ys (fun o H'=>o= .ret r/\H'=Ys'))(hnd:Y.Nodup)(hlen:Y.length=Ys.length)(avX:Y.length<=Ys'.length)
 (aOQ:∀(i k:Nat),Y[i]? =some k->∃x y,J.heap[k]? =some x/\Ys[i]? =some y/\Xf J.heap J.heap.length x y) (aO1:GM J.heap J.heap.length VX (vC (rA Y J.heap.length) args))
 (aI0:∀y∈Ys++Ys',∀τ,y.s8 τ=y):ER P f VX J (fun o H'=>o=.ret (r.s8 (rA Y J.heap.length))/\H'=vf J.heap Y Ys'++Ys'.drop Y.length):=by
 refine⟨hG.1,fun C U a w hP S vs hr=>?_⟩
 let H1:=vf J.heap Y Ys
 have hl1:H1.length=J.heap.length:=BF _ _ _;have S0:pW C U ⟨J.lE++VX,J.heap,J.low,J.df⟩ {tmps:=a.tmps++vs,defers:=a.defers} w:={S with lE:=by simpa using S.lE.append hr,defers:=S.defers}
 have hat:∀(i k:Nat),Y[i]? =some k->∃x y,J.heap[k]? =some x/\Ys[i]? =some y/\Xf J.heap J.heap.length x y/\H1[k]? =some y:=by
  grind [abz]
 have hw:aph ⟨J.lE++VX,J.heap,J.low,J.df⟩ ⟨J.lE++vC (rA Y J.heap.length) args,H1,J.low,J.df⟩:=by
  refine⟨⟨⟨rfl,by show J.low<=H1.length;rw[hl1];exact S.low.2⟩,rfl,by show axY H1.length J.df;rw[hl1];exact SQ.nb S.defers.2.2⟩,?_,?_⟩
  ·show GM J.heap H1.length _ _;rw[hl1];exact GM.append (GM.same (l9.nb _ _ S.lE)) aO1
  ·show CoH J.heap H1.length J.heap H1;rw[hl1];refine adx fun k y hy=>?_
   by_cases hk:k∈Y
   ·grind [eN]
   ·have hy2:J.heap[k]? =some y:=by grind [L0]
    exact⟨y,hy2,.inr (.inl ⟨rfl,abx (S.qJ k y hy2)⟩)⟩
 obtain⟨U',S1⟩:=hw.imp C U _ w S0;have hsl:=S1.lE;simp only[eI]at hsl;have hsz:a.tmps.toList.length=J.lE.length:=S.lE.length;have h1:=hsl.take J.lE.length;have h2:=hsl.drop J.lE.length;rw[ez rfl,ez hsz]at h1;rw[eA rfl,eA hsz]at h2;have S2:pW C U' {J with heap:=H1} a w:={S1 with lE:=h1,defers:=S1.defers}
 have BB:ER P f (vC (rA Y H1.length) args) {J with heap:=H1} (fun o H'=>o=.ret (r.s8 (rA Y H1.length))/\H'=vf J.heap Y Ys'++Ys'.drop Y.length):=by
  refine ato (J:={J with heap:=H1}) hG Y hlen hnd (tQ.refl _) ?_ ?_
  ·grind
  ·rintro o H' ⟨rfl,rfl⟩;refine⟨rfl,?_⟩
   have hid:∀τ,H'.map (lw.s8 τ)=H':=by
    intro τ;have:H'.map (lw.s8 τ)=H'.map id:=eJ fun y hy=>aI0 y (List.mem_append.2 (.inr hy)) τ
    rw[this,List.map_id]
   grind [List.map_drop,A6,aac]
 rw[hl1]at BB;exact BB.2 C U' a w hP S2 vs h2
end aAf
section args
variable {γ:Type}
structure Mb(O W:Type) where
 enc:O->W->List AV
 oP:List Nat->O->List lw->List AV->Option W
 ok:∀Y b H xs a,oP Y b H xs=some a->GM H H.length xs (vC (rA Y H.length) (enc b a))
def MJ:Mb O Unit where
 enc _ _:=[]
 oP _ _ _
  |[]=>some ()
  |_=>none
 ok Y b H xs a h:=by
  split at h
  ·exact GM.nil
  ·cases h
def aGK(t:Ty γ)(s:Mb O W)(Y:List Nat)(b:O)(H:List lw):List AV->Option (γ×W)
 |x::xs=>(t.oP H x).bind fun y=>(s.oP Y b H xs).bind fun a=>some (y,a)
 |[]=>none
def asT(t:Ty γ)(s:Mb O W):Mb O (γ×W) where
 enc b a:=t.enc a.1::s.enc b a.2
 oP:=aGK t s
 ok Y b H xs a h:=by
  unfold aGK at h;split at h
  ·simp only[ed,eg]at h;obtain⟨y,hy,a,ha,rfl⟩:=h;refine GM.cons ?_ (s.ok Y b H _ _ ha);rw[R1 _ _ (t.nb 0 y)];exact t.ok H _ _ _ hy
  ·cases h
def aGL(k:Nat)(s:Mb O W)(Y:List Nat)(b:O)(H:List lw):List AV->Option W
 |.ptr l off::xs=>if off=0/\Y[k]? =some l/\l<H.length then s.oP Y b H xs else none
 |_=>none
theorem ash(h:Y[k]? =some l):rA Y n k=l:=by
 grind [rA]
def WK(k:Nat)(s:Mb O W):Mb O W where
 enc b a:=.ptr k 0::s.enc b a
 oP:=aGL k s
 ok Y b H xs a h:=by
  unfold aGL at h;split at h
  ·split at h
   ·rename_i hc;obtain⟨rfl,hc,hl⟩:=hc;refine GM.cons ?_ (s.ok Y b H _ _ h);show Co H H.length _ (.ptr (rA Y H.length k) 0);rw[ash hc];exact Co.same hl
   ·cases h
  ·cases h
def aGM(k:Nat)(len:O->Nat)(s:Mb O W)(Y:List Nat)(b:O)(H:List lw):List AV->Option W
 |.nW l m::xs=>if m=len b/\Y[k]? =some l/\l<H.length then s.oP Y b H xs else none
 |_=>none
def asA(k:Nat)(len:O->Nat)(s:Mb O W):Mb O W where
 enc b a:=.nW k (len b)::s.enc b a
 oP:=aGM k len s
 ok Y b H xs a h:=by
  unfold aGM at h;split at h
  ·split at h
   ·rename_i hc;obtain⟨rfl,hc,hl⟩:=hc;refine GM.cons ?_ (s.ok Y b H _ _ h);show Co H H.length _ (.nW (rA Y H.length k) _);rw[ash hc];exact Co.same hl
   ·cases h
  ·cases h
def aLr:(∀(b:O) a,MJ.enc b a=[])/\(∀Y (b:O) H,MJ.oP Y b H []=some ()):=⟨fun _ _=>rfl,fun _ _ _=>rfl⟩
def aLs{t:Ty γ}{s:Mb O W}:(∀b a,(asT t s).enc b a=t.enc a.1::s.enc b a.2)/\(∀Y b H xs,(asT t s).oP Y b H xs=aGK t s Y b H xs):=⟨fun _ _=>rfl,fun _ _ _ _=>rfl⟩
def aLt{s:Mb O W}:(∀b a,(WK k s).enc b a=.ptr k 0::s.enc b a)/\(∀Y b H xs,(WK k s).oP Y b H xs=aGL k s Y b H xs):=⟨fun _ _=>rfl,fun _ _ _ _=>rfl⟩
def aLu{len:O->Nat}{s:Mb O W}:(∀b a,(asA k len s).enc b a=.nW k (len b)::s.enc b a)/\(∀Y b H xs,(asA k len s).oP Y b H xs=aGM k len s Y b H xs):=⟨fun _ _=>rfl,fun _ _ _ _=>rfl⟩
end args
def aDK:AV->Option Nat
 |.ptr l _=>some l
 |.nW l _=>some l
 |_=>none
def aDL(args:List AV)(i:Nat):Option Nat:=(args[i]?).bind aDK
def NI:List Nat->Bool
 |[]=>true
 |x::xs=> !xs.contains x&&NI xs
theorem aPb:∀{xs:List Nat},NI xs=true->xs.Nodup
 |[],_=>List.nodup_nil
 |x::xs,h=>by
  simp only[NI,ep,Bool.not_eq_true',List.contains_eq_mem,decide_eq_false_iff_not]at h;exact List.nodup_cons.2 ⟨h.1,aPb h.2⟩
def ani(H:List lw)(k:Nat):Option lw:=H[k]?
section DP

def DP(pos:List Nat)(os:abC O)(aPp:Mb O W)(R6:abC O')(rs:Ma O' W')(F:O->W->Option (O'×W')):Ent:=fun args H=>
 (tU (aDL args) pos).bind fun Y=>bif NI Y then(tU (ani H) Y).bind fun xs=>(os.oP H xs).bind fun b=>(aPp.oP Y b H args).bind fun a=>(F b a).bind fun r=>
   bif decide (Y.length<=(R6.enc r.1).length)then some ((vJ (rs.enc r.1 r.2)).s8 (rA Y H.length),vf H Y (R6.enc r.1)++(R6.enc r.1).drop Y.length)else none else none
def abD{H:List lw}:∀{Y:List Nat}{xs:List lw},tU (ani H) Y=some xs->Y.length=xs.length/\∀(i k:Nat),Y[i]? =some k->∃x,xs[i]? =some x/\H[k]? =some x
 |[],xs,h=>by grind [tU]
 |k::Y,xs,h=>by
  simp only[tU,ed,eg]at h;obtain⟨x,hx,ys,hys,rfl⟩:=h;obtain⟨h1,h2⟩:=abD hys;refine⟨by simp [h1],fun i q hi=>?_⟩;cases i with
  |zero=>simp at hi;subst hi;exact⟨x,by simp,hx⟩
  |succ i=>grind
def rR{pos:List Nat}{os:abC O}{aPp:Mb O W}{R6:abC O'}{rs:Ma O' W'}{F:O->W->Option (O'×W')}
 (h:∀b a r,F b a=some r->FnG P f (aPp.enc b a) (os.enc b) (fun o H'=>o=.ret (vJ (rs.enc r.1 r.2))/\H'=R6.enc r.1)):Zd P f (DP pos os aPp R6 rs F):=by
 intro args J r H' he;unfold DP at he;simp only[ed]at he;obtain⟨Y,_,he⟩:=he;cases hnd:NI Y with
 |false=>simp [hnd]at he
 |true=>
  simp only[hnd,kP,ed]at he;obtain⟨xs,hxs,b,hb,a,ha,q,hq,he⟩:=he;cases hl:decide (Y.length<=(R6.enc q.1).length)with
  |false=>simp [hl]at he
  |true=>
   simp only[hl,kP,eg,eo]at he;obtain⟨rfl,rfl⟩:=he;obtain⟨h1,h2⟩:=abD hxs;obtain⟨h3,h4⟩:=os.ok J.heap J.heap.length _ _ hb;refine aAf (h b a q hq) (aPb hnd) (by rw[h1,h4]) (kT hl) ?_ (aPp.ok Y b J.heap _ _ ha) ?_
   ·intro i k hi;obtain⟨x,hx,EC⟩:=h2 i k hi;have q9:i<(os.enc b).length:=by grind
    obtain⟨x2,WH,hc⟩:=h3.get (eu q9)
    grind
   ·intro y hy τ;rcases List.mem_append.1 hy with hy|hy
    ·exact os.s8 τ _ y hy
    ·exact R6.s8 τ _ y hy
end DP
abbrev aGN:=List AV->List lw->Option yO
section aBz

def aLv.qk:∀{xs ys:List AV},GM [] n xs ys->tQ xs ys
 |[],_,rfl=>tQ.nil
 |_::_,_,⟨y,zs,rfl,h,hs⟩=>tQ.cons h.qk (aLv.qk hs)
def aBz(aPp:Mb Unit W)(R6:abC O')(rs:Ma O' W')(F:W->Option (O'×W')):aGN:=fun args H=>
 qq (yg 0 args) ((aPp.oP [] () [] args).bind fun a=>(F a).bind fun r=>bif (R6.enc r.1).isEmpty then none else some {val:=(vJ (rs.enc r.1 r.2)).s8 (rA [] H.length),nw:=R6.enc r.1})
def aGO{aPp:Mb Unit W}{R6:abC O'}{rs:Ma O' W'}{F:W->Option (O'×W')}(LY:∀a,yg 0 (aPp.enc () a))
 (h:∀a r,F a=some r->FnG P f (aPp.enc () a) [] (fun o H'=>o=.ret (vJ (rs.enc r.1 r.2))/\H'=R6.enc r.1)):
 ∀args J e,aBz aPp R6 rs F args J.heap=some e->L9 P f args J e:=by
 intro args J e he;unfold aBz at he;rw[pH]at he;obtain⟨hb,he⟩:=he;simp only[ed]at he;obtain⟨a,ha,r,hr,he⟩:=he;cases aLw:(R6.enc r.1).isEmpty with
 |true=>rw[aLw]at he;cases he
 |false=>
  rw[aLw,kQ,eg]at he;subst he;have uP:R6.enc r.1≠[]:=by grind
  refine⟨⟨by simp,by simp⟩,fun J' _ hlen _=>?_⟩;have hlen:=hlen uP
  have aim:tQ args (aPp.enc () a):=by
   have:=aLv.qk (aPp.ok [] () [] args a ha)
   grind [tJ]
  have hG:=h a r hr
  have hG':FnG P f args [] (fun o H'=>o=.ret (vJ (rs.enc r.1 r.2))/\H'=R6.enc r.1):=
   ⟨hG.1,hb,hG.2.2.1,fun C U w hP h0 hN hφ hM HS vs hr=>hG.2.2.2 C U w hP h0 hN hφ hM HS vs (aim _ _ hr)⟩
  have:=aAf (J:=J') (VX:=args) (Y:=[]) hG' List.nodup_nil rfl (eL _) (by simp) (by rw[tJ _ _ hb];exact GM.same (uT (eL _) _ hb)) (by
   intro y hy τ;simp only[eX]at hy;exact R6.s8 τ _ y hy)
  rw[hlen]at this;refine ER.mono this ?_;rintro o H ⟨rfl,rfl⟩;refine⟨rfl,?_⟩;show vf J'.heap [] (R6.enc r.1)++_=J'.heap++R6.enc r.1;cases R6.enc r.1<;>rfl
def ayR:List (Nat×aGN)->aPG->List AV->List lw->Option yO
 |[],_,_,_=>none
 |(g,e)::t,f,args,H=>if f=g then e args H else ayR t f args H
def oR:List Nat->aPG->Bool
 |[],_=>false
 |g::t,f=>f==g||oR t f
def ui:∀(f:aPG)(args:List AV)(J:k9)(e:yO),(fun _ _ _=>none:aPG->List AV->List lw->Option yO) f args J.heap=some e->L9 P f args J e:=by
 intro f args J e h;cases h
def avY:∀(f:aPG)(args:List AV)(J:k9)(e:yO),ayR [] f args J.heap=some e->L9 P f args J e:=by
 intro f args J e h;cases h
def atC{e:aGN}{t:List (Nat×aGN)}(h1:∀args J ef,e args J.heap=some ef->L9 P g args J ef)
 (h2:∀(f:aPG)(args:List AV)(J:k9)(ef:yO),ayR t f args J.heap=some ef->L9 P f args J ef):∀(f:aPG)(args:List AV)(J:k9)(ef:yO),ayR ((g,e)::t) f args J.heap=some ef->L9 P f args J ef:=by
 grind [ayR]
end aBz
section aGP
variable {a:Act} {w:aPJ}
def agD{xs:List AV}{y:lw}(hl:H[l]? =some y)(MN:low<=l)(LY:∀z∈H.take low,uJ low z)(hy:uJ low y)(hr:yg (low+1) (vC (adq low l) xs)):
 ajR ⟨xs,H,low,[]⟩ ⟨vC (adq low l) xs,H.take low++[y],low,[]⟩:=by
 intro C U tmps w S;obtain⟨U',S',wm⟩:=ax9 (J:=⟨xs,H,low,[]⟩) (x:=.Mt xs) hl MN LY hy hr C U _ w S (.tuple tmps) ⟨tmps,rfl,S.lE⟩;obtain⟨vs,hv,rl⟩:=wm;simp only[Value.tuple.injEq]at hv;subst hv;exact⟨U',{S' with lE:=rl,defers:=vW.nil}⟩
variable {γ:Type}
def avZ(P:aPI)(rs:List ResultVar)(j:Nat)(r:Row γ)(s:Ma (List γ×Unit) W)(J:k9):Option ((List γ×Unit)×W):=
 bif J.df.isEmpty then(ES P J rs).bind fun xs=>aDM (anQ (K1 j r.sz true ⟨xs,J.heap,0,[]⟩) (K1 j r.sz true ⟨xs,J.heap,0,[]⟩).lE[j]?) j r s J.low else none
where
 aDM (τ:k9) (j:Nat) (r:Row γ) (s:Ma (List γ×Unit) W) (low:Nat):Option ((List γ×Unit)×W):=
  match τ.lE[j]? with
  |some (.nW l _)=>match τ.heap[l]? with
   |some y=>qq (low=0/\uJ 0 y/\yg 1 (vC (adq 0 l) τ.lE)) (((xo (oaT true r) vI).oP [y] [y]).bind fun b=>(s.oP b [y] (vC (adq 0 l) τ.lE)).bind fun a=>bif decide (s.nR<=1)then some (b,a)else none)
   |none=>none
  |_=>none
def WL{r:Row γ}{s:Ma (List γ×Unit) W}{q:(List γ×Unit)×W}(h:avZ P rs j r s J=some q):
 J.df=[]/\∃xs,ES P J rs=some xs/\ajR ⟨xs,J.heap,J.low,[]⟩ ⟨s.enc q.1 q.2,(xo (oaT true r) vI).enc q.1,J.low,[]⟩:=by
 unfold avZ at h;cases hd0:J.df with
 |cons p q=>rw[hd0]at h;cases h
 |nil=>
 rw[hd0]at h;simp only[eR,kP]at h;simp only[ed]at h;obtain⟨xs,hx,h⟩:=h;refine⟨rfl,xs,hx,?_⟩;unfold avZ.aDM at h;split at h
 case h_2=>cases h
 rename_i l m hs;split at h
 case h_2=>cases h
 rename_i y hl;rw[pH]at h;obtain⟨⟨MN,h1,h2⟩,h⟩:=h;simp only[ed]at h;obtain⟨b,hb,a,ha,h⟩:=h;cases hd:decide (s.nR<=1)with
 |false=>simp [hd]at h
 |true=>
  simp only[hd,kP,eg]at h;subst h;rw[MN];have i1:N4 ⟨xs,J.heap,0,[]⟩ (anQ (K1 j r.sz true ⟨xs,J.heap,0,[]⟩) (K1 j r.sz true ⟨xs,J.heap,0,[]⟩).lE[j]?):=apI.trans aGD;have aLx:(anQ (K1 j r.sz true ⟨xs,J.heap,0,[]⟩) (K1 j r.sz true ⟨xs,J.heap,0,[]⟩).lE[j]?).low=0:=by grind [aDJ,K1]
  have aNM:(anQ (K1 j r.sz true ⟨xs,J.heap,0,[]⟩) (K1 j r.sz true ⟨xs,J.heap,0,[]⟩).lE[j]?).df=[]:=by grind [aGE,K1]
  generalize hτ:anQ (K1 j r.sz true ⟨xs,J.heap,0,[]⟩) (K1 j r.sz true ⟨xs,J.heap,0,[]⟩).lE[j]? =τ at*;have i2:ajR ⟨τ.lE,τ.heap,0,[]⟩ ⟨vC (adq 0 l) τ.lE,τ.heap.take 0++[y],0,[]⟩:=agD hl (eL _) (by simp) h1 h2;have e:τ=⟨τ.lE,τ.heap,0,[]⟩:=by cases τ;grind
  rw[e]at i1;refine(i1.e.trans i2).trans ?_;simp only[List.take_zero,eX];obtain⟨h5,h6⟩:=(xo (oaT true r) vI).ok [y] 1 _ _ hb;refine N4.e (aph.imp (J:=⟨vC (adq 0 l) τ.lE,[y],0,[]⟩) (J':=⟨s.enc b a,(xo (oaT true r) vI).enc b,0,[]⟩) ⟨⟨⟨rfl,eL _⟩,rfl,agv⟩,?_,?_⟩)
  ·show GM [y] ((xo (oaT true r) vI).enc b).length _ _;rw[h6];exact s.ok b [y] 1 _ a (kT hd) ha
  grind
end aGP
def apL(i:Nat)(wT:Bool)(sz:Nat)(e:Ent):Ent:=fun args H=>
 match args[i]? with
 |some (.mj true _ [])=>e (args.set i (.nW H.length 0)) (H++[.nW wT sz []])
 |_=>e args H
def akX{wT:Bool}{sz:Nat}{e:Ent}(h:Zd P f e):Zd P f (apL i wT sz e):=by
 intro args J r H' he;unfold apL at he;split at he
 ·rename_i s hi;have hc:=h (args.set i (.nW J.heap.length 0)) {J with heap:=J.heap++[.nW wT sz []]} r H' he;refine⟨hc.1,fun C U a w hP S vs hr=>?_⟩;have S0:pW C U ⟨J.lE++args,J.heap,J.low,J.df⟩ {tmps:=a.tmps++vs,defers:=a.defers} w:={S with lE:=by simpa using S.lE.append hr,defers:=S.defers}
  have qe:(J.lE++args)[J.lE.length+i]? =some (.mj true s []):=by
   grind
  obtain⟨U',S1⟩:=au9 (J:=⟨J.lE++args,J.heap,J.low,J.df⟩) (sz:=sz) (wT:=wT) qe C U _ w S0
  have ax0:(J.lE++args).set (J.lE.length+i) (.nW J.heap.length 0)=J.lE++args.set i (.nW J.heap.length 0):=by
   grind
  have hsl:=S1.lE;simp only[ax0,eI]at hsl;have hsz:a.tmps.toList.length=J.lE.length:=S.lE.length;have h1:=hsl.take J.lE.length;have h2:=hsl.drop J.lE.length;rw[ez rfl,ez hsz]at h1;rw[eA rfl,eA hsz]at h2;have S2:pW C U' {J with heap:=J.heap++[.nW wT sz []]} a w:={S1 with lE:=h1,defers:=S1.defers};exact hc.2 C U' a w hP S2 vs h2
 ·exact h args J r H' he
def R7(e e':Ent):Ent:=fun args H=>(e args H).or (e' args H)
def R8{e e':Ent}(h:Zd P f e)(h':Zd P f e'):Zd P f (R7 e e'):=by
 intro args J r H' he;unfold R7 at he;rw[eZ]at he;rcases he with he|⟨_,he⟩
 ·exact h args J r H' he
 ·exact h' args J r H' he
section
variable {M:mg R} {k:List Kt}
def ayS{rest:List aPE}{x}:AM M lR dst rest k J (.move x)=wJ M lR dst rest k J (opX M.P J (.move x)):=by rw[<-xU];rfl
def atD{rest:List aPE}{x}:AM M lR dst rest k J (.assign x)=wJ M lR dst rest k J (opX M.P J (.assign x)):=by rw[<-xU];rfl
def ayT{rest:List aPE}{c}{a}{b}:AM M lR dst rest k J (.pick c a b)=wJ M lR dst rest k J (opX M.P J (.pick c a b)):=by rw[<-xU];rfl
def av0{rest:List aPE}{t}:AM M lR dst rest k J (.alloc t)=wJ M lR dst rest k J (opX M.P J (.alloc t)):=by rw[<-xU];rfl
def aBA{rest:List aPE}{t}{v}:AM M lR dst rest k J (.box t v)=wJ M lR dst rest k J (opX M.P J (.box t v)):=by rw[<-xU];rfl
def av1{rest:List aPE}{t}{ps}:AM M lR dst rest k J (.build t ps)=wJ M lR dst rest k J (opX M.P J (.build t ps)):=by rw[<-xU];rfl
def amt{rest:List aPE}{t}{n}{ps}:AM M lR dst rest k J (.buildSlice t n ps)=wJ M lR dst rest k J (opX M.P J (.buildSlice t n ps)):=by rw[<-xU];rfl
def atE{rest:List aPE}{m}{a}{b}{c}:AM M lR dst rest k J (.insert m a b c)=wJ M lR dst rest k J (opX M.P J (.insert m a b c)):=by rw[<-xU];rfl
def ayU{rest:List aPE}{t}{a}:AM M lR dst rest k J (.load t a)=wJ M lR dst rest k J (opX M.P J (.load t a)):=by rw[<-xU];rfl
def av2{rest:List aPE}{t}{a}{v}:AM M lR dst rest k J (.store t a v)=wJ M lR dst rest k J (opX M.P J (.store t a v)):=by rw[<-xU];rfl
def apM{rest:List aPE}{x}:AM M lR dst rest k J (.nilCheck x)=wJ M lR dst rest k J (opX M.P J (.nilCheck x)):=by rw[<-xU];rfl
def av3{rest:List aPE}{o}{t}{x}{y}{u}:AM M lR dst rest k J (.binOp o t x y u)=wJ M lR dst rest k J (opX M.P J (.binOp o t x y u)):=by rw[<-xU];rfl
def ayV{rest:List aPE}{o}{t}{x}:AM M lR dst rest k J (.unOp o t x)=wJ M lR dst rest k J (opX M.P J (.unOp o t x)):=by rw[<-xU];rfl
def aq8{rest:List aPE}{s}{d}{x}:AM M lR dst rest k J (.convert s d x)=wJ M lR dst rest k J (opX M.P J (.convert s d x)):=by rw[<-xU];rfl
def aip{rest:List aPE}{t}{x}:AM M lR dst rest k J (.makeInterface t x)=wJ M lR dst rest k J (opX M.P J (.makeInterface t x)):=by rw[<-xU];rfl
def apN{rest:List aPE}{f}{a}{b}:AM M lR dst rest k J (.makeFunc f a b)=wJ M lR dst rest k J (opX M.P J (.makeFunc f a b)):=by rw[<-xU];rfl
def aq9{rest:List aPE}{t}{r}:AM M lR dst rest k J (.makeMap t r)=wJ M lR dst rest k J (opX M.P J (.makeMap t r)):=by rw[<-xU];rfl
def anR{rest:List aPE}{t}{l}{c}:AM M lR dst rest k J (.makeSlice t l c)=wJ M lR dst rest k J (opX M.P J (.makeSlice t l c)):=by rw[<-xU];rfl
def av4{rest:List aPE}{t}{x}{l}{h}{m}:AM M lR dst rest k J (.slice t x l h m)=wJ M lR dst rest k J (opX M.P J (.slice t x l h m)):=by rw[<-xU];rfl
def anS{rest:List aPE}{t}{x}{f}:AM M lR dst rest k J (.fieldAddr t x f)=wJ M lR dst rest k J (opX M.P J (.fieldAddr t x f)):=by rw[<-xU];rfl
def av5{rest:List aPE}{t}{x}{f}:AM M lR dst rest k J (.field t x f)=wJ M lR dst rest k J (opX M.P J (.field t x f)):=by rw[<-xU];rfl
def anT{rest:List aPE}{t}{x}{i}:AM M lR dst rest k J (.indexAddr t x i)=wJ M lR dst rest k J (opX M.P J (.indexAddr t x i)):=by rw[<-xU];rfl
def av6{rest:List aPE}{t}{x}{i}:AM M lR dst rest k J (.index t x i)=wJ M lR dst rest k J (opX M.P J (.index t x i)):=by rw[<-xU];rfl
def atF{rest:List aPE}{t}{x}{i}{b}:AM M lR dst rest k J (.lookup t x i b)=wJ M lR dst rest k J (opX M.P J (.lookup t x i b)):=by rw[<-xU];rfl
def anU{rest:List aPE}{t}{m}{kk}{v}:AM M lR dst rest k J (.mapUpdate t m kk v)=wJ M lR dst rest k J (opX M.P J (.mapUpdate t m kk v)):=by rw[<-xU];rfl
def av7{rest:List aPE}{t}{x}:AM M lR dst rest k J (.range t x)=wJ M lR dst rest k J (opX M.P J (.range t x)):=by rw[<-xU];rfl
def ayW{rest:List aPE}{i}{b}:AM M lR dst rest k J (.next i b)=wJ M lR dst rest k J (opX M.P J (.next i b)):=by rw[<-xU];rfl
def amu{rest:List aPE}{x}{t}{u}{b}:AM M lR dst rest k J (.typeAssert x t u b)=wJ M lR dst rest k J (opX M.P J (.typeAssert x t u b)):=by rw[<-xU];rfl
def ara{rest:List aPE}{t}{i}:AM M lR dst rest k J (.extract t i)=wJ M lR dst rest k J (opX M.P J (.extract t i)):=by rw[<-xU];rfl
def ayX{rest:List aPE}{c}:AM M lR dst rest k J (.call c)=wJ M lR dst rest k J (opX M.P J (.call c)):=by rw[<-xU];rfl
def av8{rest:List aPE}{c:Call}:AM M lR dst rest k J (.defer c)=az9 M lR dst rest k J (LZ J (.defer c)):=rfl
def av9{rest:List aPE}{x:Operand}:AM M lR dst rest k J (.panic x)=aAa M k J (abr J (.panic x)):=rfl
def apO{a:W}{x:Option R}:qq (a=a) x=x:=by simp [qq]
def ayY{rest:List aPE}:ajP M p o rest j tr k J none=DM M p o.dst rest j tr k J (opX M.P J o.op):=by rw[<-xU];rfl
end
section
variable {M:mg R} {k:List Kt}
def ayZ{rest:List aPE}{x y:Option yO}:wJ M lR dst rest k J (bif b then x else y)=bif b then wJ M lR dst rest k J x else wJ M lR dst rest k J y:=by cases b<;>rfl
def ay0{rest:List aPE}{x y:Option (AV×List lw)}:Q6 M lR dst rest k J (bif b then x else y)=bif b then Q6 M lR dst rest k J x else Q6 M lR dst rest k J y:=by cases b<;>rfl
def aBB{rest:List aPE}{p:Prop}[Decidable p]{x y:Option (AV×List lw)}:Q6 M lR dst rest k J (if p then x else y)=bif decide p then Q6 M lR dst rest k J x else Q6 M lR dst rest k J y:=by by_cases h:p<;>simp [h]
def awa{rest:List aPE}{x y:Option yO}:DM M p dst rest j tr k J (bif b then x else y)=bif b then DM M p dst rest j tr k J x else DM M p dst rest j tr k J y:=by cases b<;>rfl
end
def aDN:undef=.tuple #[]:=rfl
def aBC:(¬ True)=False:=by simp
def ay1(n:Nat):(0<=(n:Int))=True:=by simp
def awb:((0:Int)<=0)=True:=by simp
def aBD{x y:W}:(bif !b then x else y)=bif b then y else x:=by cases b<;>rfl
def aBE{x:W}:(bif b then x else x)=x:=by cases b<;>rfl
def aJt:(b==true)=b:=by cases b<;>rfl
def aJu:(b==false)= !b:=by cases b<;>rfl
def aBF{p:Prop}[Decidable p]{a b:Option W}{f:W->Option O}:(if p then a else b).bind f=bif decide p then a.bind f else b.bind f:=by
 by_cases h:p<;>simp [h]
def aJv(f:W->O)(xs:List W)(i:Nat):(mp f xs)[i]? =ff f xs[i]? :=by rw[sZ,eQ]
def aJw(f:W->O)(xs:List W)(i:Nat)(x:W):(mp f xs).set i (f x)=mp f (xs.set i x):=by rw[sZ,sZ,List.map_set]
def ay2 {b:Nat}{x:Option R}:qq (room a b) x=bif decide (a*b<=17592186044416)then x else none:=by
 unfold room;exact asa
def aBG{a b:Int}{x:Option R}:qq (a<b) x=bif decide (a<b)then x else none:=asa
theorem SH(s:lH):(sb s).size=s.length:=by simp [sb,ByteArray.size]
def aDO(s:lH)(i:Nat):(sb s)[i]? =s[i]? :=by
 by_cases h:i<s.length
 ·have h':i<(sb s).size:=by rw[SH];exact h
  rw[eu h,getElem?_pos (sb s) i h'];rfl
 grind [SH]
def aJx(s:lH)(n:Int):aGA (sb s) n=AU s n:=by
 simp only[aGA,aDO];rfl
theorem aie(s:lH):(sb s).toList=s:=by
 rw[ByteArray.toList_eq];rfl
def ay3(s:lH)(a b:Nat):(sb s).extract a b=sb ((s.take b).drop a):=by
 apply ByteArray.ext
 grind [sb,ByteArray.data_extract,List.drop_take]
def aBH(s t:lH):sb s++sb t=sb (s++t):=by
 apply ByteArray.ext;simp [sb]
def aDP:ByteArray.empty=sb []:=rfl
def aBI:(⟨#[]⟩:ByteArray)=sb []:=rfl
def aJy(l:List UInt8):(⟨l.toArray⟩:ByteArray)=sb l:=rfl
attribute [go_sem] aF4 aF5 avr att z6 ayd aye avx atv aI6 ayl atw aym aBl ayn avz ayo ayp avB avC aBm avA ayi avu avv avw ayf aBj ayg ayh aDr avs aLc aI8 aI9 amn ayb stP VY apO WJ aJa aF6 aDs ayq avE ayr ayx ayy ayz ayS atD ayT av0 aBA av1 amt atE ayU av2 apM av3 ayV aq8 aip apN aq9 anR av4 anS av5 anT av6 atF anU av7 ayW amu ara ayX av8 av9 aBo aBp ays ayt ayu ayv ayw atu LZ abr k9.dfr avR ayH ayI avH avI Xh aBr Gf ayA ayB ayC aBq ayD apB ayE avF atx avG ayY avJ avK avL ayK avM avN avO ayZ ay0 aBB awa sub akP apr zW ax7 aib ay2 aBG
attribute [go_sem low] ayj aBn ayG
attribute [go_sem] aDt aBt anh aBu ayM aBv ayN qF aF9 R4 aF7 aF8 aJv aJw aBF ayL aBw aDu aDv DN dL aGa aGb GP Bt w8 aDx aBy aGc aGd aGe aGf aGg aGh aJc aGi aGj dI1 dB1 dS1 aDz aJf aJg adv Dz dC aGk aGl aGm aGn d2 d3 d4 d5 aGo aGp aGq aGr aGs aGt aGu aGv pR avQ rB q6 aio ayO tV oN KO aNw aNx aNy aNv dLt anP aNz aNA aNB aNC aND ayP aGx K1 aAc atB apJ aJl tK aJj aDE aJk aDF ixA ixS ixZ aku akt adh ajG as5 aqV ldA ldV vwL stA opX aBD aBE aJt aJu SH aJx aDO aie aBH ay3 aDP aBI aJy Pg zB ako Pd ao3 ixP aDG aFH azS ah6 aJn aJo aLf aBz ayR oR avS asg aPo rp1 rpV rpO aNF aNG aNH aNI aNJ dL1 dF1 dP aGF aGG dK1 dK2 dK3 aJq aJr aJs daT dcT aLj aLk aLl aLm aGH aLn aLo aGI aLp aGJ vJ ams aLr aLs aGK aLt aGL aLu aGM aDK aDL NI ani DP apL R7 Option.or_none Option.none_or avZ avZ.aDM vf rA AV.s8 vC JX adq tH pZ nf k9.ev k9.put pI AV.nT Pf adb ade akr ajF arR adf eqB eq1 F0 ah3 aks adg aPd Xa ah4 arS RW VW ES apq frz api aDN eO List.all_nil Bool.and_true Bool.true_and Bool.and_false Bool.false_and kW if_false List.getD_cons_zero List.getD_cons_succ eF List.length_nil ew List.cons_append eX List.set_cons_zero List.set_cons_succ reduceCtorEq and_true true_and List.append_nil Nat.zero_add eS eK List.getElem?_nil eE List.drop_zero List.drop_succ_cons List.drop_nil List.take_succ_cons List.take_zero List.take_nil ne_eq aBC Option.isSome_some Option.isSome_none Option.isNone_some Option.isNone_none fb List.map_nil List.getElem?_toArray Bool.not_true Bool.not_false kP kQ Int.toNat_natCast ay1 awb true_or or_true and_self false_or or_false eU List.set_nil decide_true decide_false Bool.not_not and_false false_and List.length_append eV List.length_replicate beq_self_eq_true ayF wV ayc yO.amh R2 GL N7 List.contains_cons List.contains_nil eR List.isEmpty_cons Bool.or_false Bool.false_or Bool.or_true Bool.true_or eD Bool.false_eq_true Int.cast_ofNat_Int Int.toNat_zero Int.toNat_one List.flatten_cons List.flatten_nil eM eT Option.map_none
def apP{n:Nat}:∀{a b:List (List AV)},Pe n (a++b)=(Pe n a/\Pe n b)
 |[],_=>by simp [Pe]
 |x::a,b=>by simp [Pe,apP (a:=a),and_assoc]
def awc{c:AV}:l3 false n (c::cs)=some c:=rfl
def awd{c:AV}:l3 true n (c::cs)=if n<=(c::cs).length then some (.agg ((c::cs).take n))else none:=rfl
def awe{c:AV}:cellsOf (.agg (c::cs))=if (c::cs).all AV.nT then some (c::cs)else none:=rfl
def awf:(∀b,cellsOf (.bool b)=some [.bool b])/\(∀k n,cellsOf (.int k n)=some [.int k n])/\(∀s,cellsOf (.str s)=some [.str s])/\(∀t sz r,cellsOf (.mj t sz r)=some [.mj t sz r])/\
 (∀l n,cellsOf (.nW l n)=some [.nW l n])/\(∀a b c d e,cellsOf (.own a b c d e)=some [.own a b c d e])/\(∀a b,cellsOf (.ptr a b)=some [.ptr a b])/\(∀a,cellsOf (.map a)=some [.map a])/\
 (∀cs,cellsOf (.pp cs)=some [.pp cs])/\(∀fn f c,cellsOf (.func fn f c)=some [.func fn f c])/\(∀t x,cellsOf (.iface t x)=some [.iface t x])/\cellsOf (.uS .nilFunc)=some [.uS .nilFunc]/\cellsOf (.uS .nilIface)=some [.uS .nilIface]/\
 (∀a,cellsOf (.uS (.pointer a))=some [.uS (.pointer a)])/\(∀a,cellsOf (.uS (.map a))=some [.uS (.map a)]):=
 ⟨fun _=>rfl,fun _ _=>rfl,fun _=>rfl,fun _ _ _=>rfl,fun _ _=>rfl,fun _ _ _ _ _=>rfl,fun _ _=>rfl,fun _=>rfl,fun _=>rfl,fun _ _ _=>rfl,fun _ _=>rfl,rfl,rfl,fun _=>rfl,fun _=>rfl⟩
def ay5{c:AV}{o:Nat}{xs:List AV}:z1 (c::cs) o xs=(c::cs).take o++xs++(c::cs).drop (o+xs.length):=rfl
def ay6 {xs:List AV}(h:xs.length=cs.length):z1 cs 0 xs=xs:=by
 grind [z1]
attribute [go_sem] awc awd awe awf ay6
attribute [go_sem low] ay5
attribute [go_sem] AV.nb yg Pe uJ apP
def aLy{c:Prop}[Decidable c]{a:AV}:AV.nb n (if c then a else .any)=(¬ c\/AV.nb n a):=by
 by_cases h:c<;>simp [h,AV.nb]
attribute [go_sem high] aLy
attribute [go_sem] or_true
theorem aBJ:∀x:AV,x.nb 0->rp1 l cs x=x
 |.ptr _ _,h=>absurd h (eW _)
 |.any,_|.bool _,_|.int _ _,_|.str _,_|.uS _,_|.agg _,_|.Mt _,_|.mj _ _ _,_|.nW _ _,_|.own _ _ _ _ _,_|.map _,_|.pp _,_|.func _ _ _,_|.iface _ _,_|.sn _ _,_=>rfl
theorem ady{l:Nat}{cs:List AV}:∀xs:List AV,yg 0 xs->xs.map (rp1 l cs)=xs
 |[],_=>rfl
 |x::xs,h=>by rw[fb,aBJ x h.1,ady xs h.2]
theorem aBK:∀x:AV,x.nb 0->rpV l cs x=x
 |.ptr _ _,h=>absurd h (eW _)
 |.func _ f c,h=>by simp only[rpV];rw[ady f h.1,ady c h.2]
 |.any,_|.bool _,_|.int _ _,_|.str _,_|.uS _,_|.agg _,_|.Mt _,_|.mj _ _ _,_|.nW _ _,_|.own _ _ _ _ _,_|.map _,_|.pp _,_|.iface _ _,_|.sn _ _,_=>rfl
theorem Xj{l:Nat}{cs:List AV}:∀xs:List AV,yg 0 xs->xs.map (rpV l cs)=xs
 |[],_=>rfl
 |x::xs,h=>by rw[fb,aBK x h.1,Xj xs h.2]
mutual
theorem aif{τ τ':Nat->Nat}{n:Nat}(h:∀l,l<n->τ l=τ' l):∀x:AV,x.nb n->x.s8 τ=x.s8 τ'
 |.agg cs,k|.Mt cs,k|.pp cs,k=>by simp only[AV.s8];rw[Ik h cs k]
 |.mj _ _ rows,k=>by simp only[AV.s8];rw[ajS h rows k]
 |.nW l _,k|.own l _ _ _ _,k|.ptr l _,k|.map l,k|.sn _ l,k=>by simp only[AV.s8];rw[h l k]
 |.func _ f c,k=>by simp only[AV.s8];rw[Ik h f k.1,Ik h c k.2]
 |.iface _ x,k=>by simp only[AV.s8];rw[aif h x k]
 |.any,_|.bool _,_|.int _ _,_|.str _,_|.uS _,_=>rfl
theorem Ik{τ τ':Nat->Nat}{n:Nat}(h:∀l,l<n->τ l=τ' l):∀xs:List AV,yg n xs->vC τ xs=vC τ' xs
 |[],_=>rfl
 |x::xs,k=>by simp only[vC];rw[aif h x k.1,Ik h xs k.2]
theorem ajS{τ τ':Nat->Nat}{n:Nat}(h:∀l,l<n->τ l=τ' l):∀xs:List (List AV),Pe n xs->JX τ xs=JX τ' xs
 |[],_=>rfl
 |x::xs,k=>by simp only[JX];rw[Ik h x k.1,ajS h xs k.2]
end
mutual
def aDQ{τ:Nat->Nat}{n m:Nat}(h:∀l,l<n->τ l<m):∀x:AV,x.nb n->(x.s8 τ).nb m
 |.agg cs,k|.Mt cs,k|.pp cs,k=>adz h cs k
 |.mj _ _ rows,k=>aAg h rows k
 |.nW l _,k|.own l _ _ _ _,k|.ptr l _,k|.map l,k|.sn _ l,k=>h l k
 |.func _ f c,k=>⟨adz h f k.1,adz h c k.2⟩
 |.iface _ x,k=>aDQ h x k
 |.any,_|.bool _,_|.int _ _,_|.str _,_|.uS _,_=>trivial
def adz{τ:Nat->Nat}{n m:Nat}(h:∀l,l<n->τ l<m):∀xs:List AV,yg n xs->yg m (vC τ xs)
 |[],_=>trivial
 |x::xs,k=>⟨aDQ h x k.1,adz h xs k.2⟩
def aAg{τ:Nat->Nat}{n m:Nat}(h:∀l,l<n->τ l<m):∀xs:List (List AV),Pe n xs->Pe m (JX τ xs)
 |[],_=>trivial
 |x::xs,k=>⟨adz h x k.1,aAg h xs k.2⟩
end
theorem akY {τ':Nat->Nat}(h:∀l,l<n->τ l=τ' l)(x:lw)(k:uJ n x):x.s8 τ=x.s8 τ':=by
 cases x with
 |cells cs=>simp only[lw.s8];rw[Ik h cs k]
 |nW wT sz rows=>simp only[lw.s8];rw[ajS h rows k]
 |map es=>
  simp only[lw.s8];congr 1;refine eJ fun p hp=>?_
  rw[aif h _ (k p hp).1,aif h _ (k p hp).2]
 |loop lk lE st xE=>simp only[lw.s8];rw[Ik h lE k]
 |iter s p=>rfl
 |L8 s=>rfl
 |zU=>rfl
def Co1.adA {y:AV}(h:Co1 [] n x y):Pc x y:=by
 rcases h with h|⟨l,m,sz,rows,_,h,_⟩
 ·exact h.1
 ·simp at h
def nI.adA:∀{xs ys:List AV},nI [] n xs ys->tQ xs ys
 |[],_,rfl=>tQ.nil
 |_::_,_,⟨_,_,rfl,h,hs⟩=>tQ.cons h.adA hs.adA
def Co.adA {y:AV}(h:Co [] n x y):Pc x y:=by
 rcases h with h|⟨cs,ds,rfl,rfl,h⟩
 ·exact h.adA
 ·rintro E v ⟨vs,rfl,hv⟩;exact⟨vs,rfl,h.adA E _ hv⟩
def tQ.func{f:Fn}{xs:List AV}(h:tQ xs ys):Pc (.func f [] xs) (.func f [] ys):=by
 rintro E v ⟨a,b,rfl,h1,h2⟩;exact⟨a,b,rfl,h1,h E _ h2⟩
abbrev Il:=Nat->Nat
def atN(Y:List Nat)(k:Nat):Nat:=Y.getD k 0
def Cov(Y:List Nat)(nR n:Nat):Prop:=∀k,k<nR->∃l,Y[k]? =some l/\l<n
def Cov.mono {b:Nat}(h:Cov Y b n)(k:a<=b):Cov Y a n:=fun i hi=>h i (by omega)
def Cov.lt(h:Cov Y a n):∀l,l<a->atN Y l<n:=by
 intro l hl;obtain⟨k,hk,hn⟩:=h l hl
 grind [atN]
theorem agE(h:Y[k]? =some l):atN Y k=l:=by unfold atN;rw[List.getD,h];rfl
section aLz
variable {γ δ:Type}
structure VL(γ:Type) where
 enc:Il->γ->List AV
 oP:List Nat->Il->List AV->Option γ
 nR:Nat
 nb:∀L g,yg nR (enc L g)
 ok:∀Y L vs g,oP Y L vs=some g->tQ vs (vC (atN Y) (enc L g))
def ay7:List AV->Option Unit
 |[]=>some ()
 |_=>none
def vlN:VL Unit where
 enc _ _:=[]
 oP _ _:=ay7
 nR:=0
 nb _ _:=trivial
 ok Y L vs g h:=by
  unfold ay7 at h;split at h
  ·exact tQ.nil
  ·cases h
def aGQ(t:Ty γ)(s:VL δ)(Y:List Nat)(L:Il):List AV->Option (γ×δ)
 |x::xs=>(t.oP [] x).bind fun y=>(s.oP Y L xs).bind fun a=>some (y,a)
 |[]=>none
def vlT(t:Ty γ)(s:VL δ):VL (γ×δ) where
 enc L g:=t.enc g.1::s.enc L g.2
 oP:=aGQ t s
 nR:=s.nR
 nb L g:=⟨t.nb _ _,s.nb L g.2⟩
 ok Y L vs g h:=by
  unfold aGQ at h;split at h
  ·simp only[ed,eg]at h;obtain⟨y,hy,a,ha,rfl⟩:=h;refine tQ.cons ?_ (s.ok Y L _ _ ha);rw[R1 _ _ (t.nb 0 y)];exact(t.ok [] 0 _ _ hy).adA
  ·cases h
def aGR(k:Nat)(s:VL δ)(Y:List Nat)(L:Il):List AV->Option δ
 |.ptr l off::xs=>bif decide (off=0/\Y[k]? =some l)then s.oP Y L xs else none
 |_=>none
def vlP (k:Nat) (s:VL δ):VL δ where
 enc L g:=.ptr k 0::s.enc L g
 oP:=aGR k s
 nR:=max (k+1) s.nR
 nb L g:=⟨show k<_ by omega,uT (by omega) _ (s.nb L g)⟩
 ok Y L vs g h:=by
  unfold aGR at h;split at h
  ·rename_i l off xs;cases hc:decide (off=0/\Y[k]? =some l)with
   |false=>simp [hc]at h
   |true=>
    simp only[hc,kP]at h;obtain⟨rfl,hc'⟩:=kT hc;refine tQ.cons ?_ (s.ok Y L _ _ h)
    grind [AV.s8,agE,Pc.refl]
  ·cases h
def aGS(k:Nat)(s:VL δ)(Y:List Nat)(L:Il):List AV->Option δ
 |.map l::xs=>bif decide (Y[k]? =some l)then s.oP Y L xs else none
 |_=>none
def vlM (k:Nat) (s:VL δ):VL δ where
 enc L g:=.map k::s.enc L g
 oP:=aGS k s
 nR:=max (k+1) s.nR
 nb L g:=⟨show k<_ by omega,uT (by omega) _ (s.nb L g)⟩
 ok Y L vs g h:=by
  unfold aGS at h;split at h
  ·rename_i l xs;cases hc:decide (Y[k]? =some l)with
   |false=>simp [hc]at h
   |true=>
    simp only[hc,kP]at h;have hc:=kT hc;refine tQ.cons ?_ (s.ok Y L _ _ h)
    grind [AV.s8,agE,Pc.refl]
  ·cases h
def aGT(f:aPG)(c:VL γ)(s:VL δ)(Y:List Nat)(L:Il):List AV->Option (γ×δ)
 |.func (.func f') [] cs::xs=>bif decide (f'=f)then(c.oP Y L cs).bind fun y=>(s.oP Y L xs).bind fun a=>some (y,a)else none
 |_=>none
def vlF (f:aPG) (c:VL γ) (s:VL δ):VL (γ×δ) where
 enc L g:=.func (.func f) [] (c.enc L g.1)::s.enc L g.2
 oP:=aGT f c s
 nR:=max c.nR s.nR
 nb L g:=⟨⟨trivial,uT (by omega) _ (c.nb L g.1)⟩,uT (by omega) _ (s.nb L g.2)⟩
 ok Y L vs g h:=by
  unfold aGT at h;split at h
  ·rename_i f' cs xs;cases hc:decide (f'=f)with
   |false=>simp [hc]at h
   |true=>
    simp only[hc,kP,ed,eg]at h;obtain⟨y,hy,a,ha,rfl⟩:=h;obtain rfl:=kT hc;refine tQ.cons ?_ (s.ok Y L _ _ ha);simp only[AV.s8,vC];exact(c.ok Y L _ _ hy).func
  ·cases h
def aLA:(∀L g,vlN.enc L g=[])/\∀Y L xs,vlN.oP Y L xs=ay7 xs:=⟨fun _ _=>rfl,fun _ _ _=>rfl⟩
def aLB{t:Ty γ}{s:VL δ}:(∀L g,(vlT t s).enc L g=t.enc g.1::s.enc L g.2)/\∀Y L xs,(vlT t s).oP Y L xs=aGQ t s Y L xs:=⟨fun _ _=>rfl,fun _ _ _=>rfl⟩
def aLC{s:VL δ}:(∀L g,(vlP k s).enc L g=.ptr k 0::s.enc L g)/\∀Y L xs,(vlP k s).oP Y L xs=aGR k s Y L xs:=⟨fun _ _=>rfl,fun _ _ _=>rfl⟩
def aLD{s:VL δ}:(∀L g,(vlM k s).enc L g=.map k::s.enc L g)/\∀Y L xs,(vlM k s).oP Y L xs=aGS k s Y L xs:=⟨fun _ _=>rfl,fun _ _ _=>rfl⟩
def aLE{c:VL γ}{s:VL δ}:(∀L g,(vlF f c s).enc L g=.func (.func f) [] (c.enc L g.1)::s.enc L g.2)/\∀Y L xs,(vlF f c s).oP Y L xs=aGT f c s Y L xs:=⟨fun _ _=>rfl,fun _ _ _=>rfl⟩
structure AL(γ:Type) where
 enc:Il->γ->List AV
 oP:List Nat->Il->List lw->List AV->Option γ
 nR:Nat
 nb:∀L g,yg nR (enc L g)
 ok:∀Y L H n vs g,Cov Y nR n->oP Y L H vs=some g->GM H n vs (vC (atN Y) (enc L g))
def lX:AL Unit where
 enc _ _:=[]
 oP _ _ _:=ay7
 nR:=0
 nb _ _:=trivial
 ok Y L H n vs g _ h:=by
  unfold ay7 at h;split at h
  ·exact GM.nil
  ·cases h
def aGU(t:Ty γ)(s:AL δ)(Y:List Nat)(L:Il)(H:List lw):List AV->Option (γ×δ)
 |x::xs=>(t.oP H x).bind fun y=>(s.oP Y L H xs).bind fun a=>some (y,a)
 |[]=>none
def nu(t:Ty γ)(s:AL δ):AL (γ×δ) where
 enc L g:=t.enc g.1::s.enc L g.2
 oP:=aGU t s
 nR:=s.nR
 nb L g:=⟨t.nb _ _,s.nb L g.2⟩
 ok Y L H n vs g hc h:=by
  unfold aGU at h;split at h
  ·simp only[ed,eg]at h;obtain⟨y,hy,a,ha,rfl⟩:=h;refine GM.cons ?_ (s.ok Y L H n _ _ hc ha);rw[R1 _ _ (t.nb 0 y)];exact t.ok H n _ _ hy
  ·cases h
def aGV(c:VZ γ)(k:Nat)(s:AL δ)(Y:List Nat)(L:Il)(H:List lw)(xs:List AV):Option (γ×δ):=
 (c.oP H (xs.take k)).bind fun y=>(s.oP Y L H (xs.drop k)).bind fun a=>some (y,a)
def nI.aAh:∀{xs ys us vs:List AV},nI H n xs ys->GM H n us vs->GM H n (xs++us) (ys++vs)
 |[],_,_,_,rfl,h=>h
 |_::_,_,_,_,⟨y,zs,rfl,h,hs⟩,h2=>⟨y,zs++_,rfl,.inl h,nI.aAh hs h2⟩
def V1(c:VZ γ)(k:Nat)(s:AL δ):AL (γ×δ) where
 enc L g:=c.enc g.1++s.enc L g.2
 oP:=aGV c k s
 nR:=s.nR
 nb L g:=ub (c.nb _ _) (s.nb L g.2)
 ok Y L H n vs g hc h:=by
  unfold aGV at h;simp only[ed,eg]at h;obtain⟨y,hy,a,ha,rfl⟩:=h;rw[agw,tJ _ _ (c.nb 0 y),<-e8 k vs];exact nI.aAh (c.ok H n _ _ hy) (s.ok Y L H n _ _ hc ha)
def aGW(k:Nat)(s:AL δ)(Y:List Nat)(L:Il)(H:List lw):List AV->Option δ
 |.ptr l off::xs=>bif decide (off=0/\Y[k]? =some l)then s.oP Y L H xs else none
 |_=>none
def nC (k:Nat) (s:AL δ):AL δ where
 enc L g:=.ptr k 0::s.enc L g
 oP:=aGW k s
 nR:=max (k+1) s.nR
 nb L g:=⟨show k<_ by omega,uT (by omega) _ (s.nb L g)⟩
 ok Y L H n vs g hv h:=by
  unfold aGW at h;split at h
  ·rename_i l off xs;cases hc:decide (off=0/\Y[k]? =some l)with
   |false=>simp [hc]at h
   |true=>
    simp only[hc,kP]at h;obtain⟨rfl,hc'⟩:=kT hc;refine GM.cons ?_ (s.ok Y L H n _ _ (hv.mono (by omega)) h);have hl:=hv.lt k (by omega);simp only[AV.s8];rw[agE hc']at hl ⊢;exact Co.same hl
  ·cases h
def aGX(k:Nat)(s:AL δ)(Y:List Nat)(L:Il)(H:List lw):List AV->Option δ
 |.map l::xs=>bif decide (Y[k]? =some l)then s.oP Y L H xs else none
 |_=>none
def WM (k:Nat) (s:AL δ):AL δ where
 enc L g:=.map k::s.enc L g
 oP:=aGX k s
 nR:=max (k+1) s.nR
 nb L g:=⟨show k<_ by omega,uT (by omega) _ (s.nb L g)⟩
 ok Y L H n vs g hv h:=by
  unfold aGX at h;split at h
  ·rename_i l xs;cases hc:decide (Y[k]? =some l)with
   |false=>simp [hc]at h
   |true=>
    simp only[hc,kP]at h;have hc':=kT hc;refine GM.cons ?_ (s.ok Y L H n _ _ (hv.mono (by omega)) h);have hl:=hv.lt k (by omega);simp only[AV.s8];rw[agE hc']at hl ⊢;exact Co.same hl
  ·cases h
def aGY(k:Nat)(s:AL δ)(Y:List Nat)(L:Il)(H:List lw):List AV->Option δ
 |.nW l m::xs=>bif decide (m=L k/\Y[k]? =some l)then s.oP Y L H xs else none
 |_=>none
def alA (k:Nat) (s:AL δ):AL δ where
 enc L g:=.nW k (L k)::s.enc L g
 oP:=aGY k s
 nR:=max (k+1) s.nR
 nb L g:=⟨show k<_ by omega,uT (by omega) _ (s.nb L g)⟩
 ok Y L H n vs g hv h:=by
  unfold aGY at h;split at h
  ·rename_i l m xs;cases hc:decide (m=L k/\Y[k]? =some l)with
   |false=>simp [hc]at h
   |true=>
    simp only[hc,kP]at h;obtain⟨rfl,hc'⟩:=kT hc;refine GM.cons ?_ (s.ok Y L H n _ _ (hv.mono (by omega)) h);have hl:=hv.lt k (by omega);simp only[AV.s8];rw[agE hc']at hl ⊢;exact Co.same hl
  ·cases h
def aGZ(f:aPG)(c:VL γ)(s:AL δ)(Y:List Nat)(L:Il)(H:List lw):List AV->Option (γ×δ)
 |.func (.func f') [] cs::xs=>bif decide (f'=f)then(c.oP Y L cs).bind fun y=>(s.oP Y L H xs).bind fun a=>some (y,a)else none
 |_=>none
def alF (f:aPG) (c:VL γ) (s:AL δ):AL (γ×δ) where
 enc L g:=.func (.func f) [] (c.enc L g.1)::s.enc L g.2
 oP:=aGZ f c s
 nR:=max c.nR s.nR
 nb L g:=⟨⟨trivial,uT (by omega) _ (c.nb L g.1)⟩,uT (by omega) _ (s.nb L g.2)⟩
 ok Y L H n vs g hv h:=by
  unfold aGZ at h;split at h
  ·rename_i f' cs xs;cases hc:decide (f'=f)with
   |false=>simp [hc]at h
   |true=>
    simp only[hc,kP,ed,eg]at h;obtain⟨y,hy,a,ha,rfl⟩:=h;obtain rfl:=kT hc;refine GM.cons ?_ (s.ok Y L H n _ _ (hv.mono (by omega)) ha);simp only[AV.s8,vC];exact Co.sub (c.ok Y L _ _ hy).func ⟨trivial,adz (hv.mono (a:=c.nR) (by omega)).lt _ (c.nb L y)⟩
  ·cases h
def aG0(s:AL δ)(Y:List Nat)(L:Il)(H:List lw):List AV->Option δ
 |_::xs=>s.oP Y L H xs
 |_=>none
def alZ(s:AL δ):AL δ where
 enc L g:=.any::s.enc L g
 oP:=aG0 s
 nR:=s.nR
 nb L g:=⟨trivial,s.nb L g⟩
 ok Y L H n vs g hv h:=by
  unfold aG0 at h;split at h
  ·exact GM.cons Co.any (s.ok Y L H n _ _ hv h)
  ·cases h
def F3:Nat->AL δ->AL δ
 |0,s=>s
 |n+1,s=>alZ (F3 n s)
def aLF:(∀L g,lX.enc L g=[])/\(∀Y L H xs,lX.oP Y L H xs=ay7 xs)/\lX.nR=0:=⟨fun _ _=>rfl,fun _ _ _ _=>rfl,rfl⟩
def aLG{t:Ty γ}{s:AL δ}:(∀L g,(nu t s).enc L g=t.enc g.1::s.enc L g.2)/\(∀Y L H xs,(nu t s).oP Y L H xs=aGU t s Y L H xs)/\(nu t s).nR=s.nR:=⟨fun _ _=>rfl,fun _ _ _ _=>rfl,rfl⟩
def aLH{c:VZ γ}{s:AL δ}:(∀L g,(V1 c k s).enc L g=c.enc g.1++s.enc L g.2)/\(∀Y L H xs,(V1 c k s).oP Y L H xs=aGV c k s Y L H xs)/\(V1 c k s).nR=s.nR:=⟨fun _ _=>rfl,fun _ _ _ _=>rfl,rfl⟩
def aLI{s:AL δ}:(∀L g,(nC k s).enc L g=.ptr k 0::s.enc L g)/\(∀Y L H xs,(nC k s).oP Y L H xs=aGW k s Y L H xs)/\(nC k s).nR=max (k+1) s.nR:=⟨fun _ _=>rfl,fun _ _ _ _=>rfl,rfl⟩
def aLJ{s:AL δ}:(∀L g,(WM k s).enc L g=.map k::s.enc L g)/\(∀Y L H xs,(WM k s).oP Y L H xs=aGX k s Y L H xs)/\(WM k s).nR=max (k+1) s.nR:=⟨fun _ _=>rfl,fun _ _ _ _=>rfl,rfl⟩
def aLK{s:AL δ}:(∀L g,(alA k s).enc L g=.nW k (L k)::s.enc L g)/\(∀Y L H xs,(alA k s).oP Y L H xs=aGY k s Y L H xs)/\(alA k s).nR=max (k+1) s.nR:=⟨fun _ _=>rfl,fun _ _ _ _=>rfl,rfl⟩
def aLL{c:VL γ}{s:AL δ}:(∀L g,(alF f c s).enc L g=.func (.func f) [] (c.enc L g.1)::s.enc L g.2)/\(∀Y L H xs,(alF f c s).oP Y L H xs=aGZ f c s Y L H xs)/\(alF f c s).nR=max c.nR s.nR:=⟨fun _ _=>rfl,fun _ _ _ _=>rfl,rfl⟩
def aLM{s:AL δ}:(∀L g,(alZ s).enc L g=.any::s.enc L g)/\(∀Y L H xs,(alZ s).oP Y L H xs=aG0 s Y L H xs)/\(alZ s).nR=s.nR:=⟨fun _ _=>rfl,fun _ _ _ _=>rfl,rfl⟩
end aLz
def DD(h:n<=m)(x:lw)(k:uJ n x):uJ m x:=by
 cases x with
 |cells cs=>exact uT h _ k
 |nW wT sz rows=>exact as3 h _ k
 |map es=>exact fun p hp=>⟨AV.am4 h _ (k p hp).1,AV.am4 h _ (k p hp).2⟩
 |loop lk lE st xE=>exact uT h _ k
 |iter s p=>trivial
 |L8 s=>trivial
 |zU=>trivial
def ay8(hlen:Y.length=Ys.length)(hnd:Y.Nodup)(hid:∀k,k<low->Y[k]? =some k)
 (hl:low<=Ys.length) (LY:yg Ys.length ys) (Mw:∀y∈Ys,uJ Ys.length y)
 (aOQ:∀(i k:Nat)(y:lw),Y[i]? =some k->Ys[i]? =some y->H[k]? =some (y.s8 (atN Y))):
 N4 ⟨vC (atN Y) ys,H,low,[]⟩ ⟨ys,Ys,low,[]⟩:=by
 intro C U a w S
 let U':Nat->aPH:=fun k=>U (atN Y k)
 have hρ:∀k,k<Ys.length->Y[k]? =some (atN Y k):=by
  grind [agE]
 have qe:∀(k:Nat)(y:lw),Ys[k]? =some y->k<Ys.length/\H[atN Y k]? =some (y.s8 (atN Y)):=by
  grind
 have aOA:∀k,k<low->atN Y k=k:=fun k hk=>agE (hid k hk)
 have hinj:∀k k',k<Ys.length->k'<Ys.length->atN Y k=atN Y k'->k=k':=by
  intro k k' hk RV he;have h1:=hρ k hk;have h2:=hρ k' RV;rw[<-he]at h2;have e1:=akM Y k _ hnd h1
  grind [akM]
 have QT:∀b o,KR U' Ys b o->KR U H b o:=by
  rintro b o ⟨k,z,hz,hm⟩;exact⟨_,_,(qe k z hz).2,abw.2 hm⟩
 have un:avb Ys.length (atN Y) (C.env U H w) (C.env U' Ys w):=by
  refine⟨eD _,fun k hk=>⟨rfl,?_⟩,fun b o u hm hc=>⟨fun h=>hm (h.imp (QT b o) id),hc⟩,GD _⟩;show oO Ys[k]? =oO H[atN Y k]?
  grind [KU]
 have FE:vW C U' Ys w [] a.defers:=S.defers.auM (fun xs vs ⟨f,hf⟩ _=>(by cases hf)) (fun _ _ _=>rfl) (fun k z b hz hb=>.inl ⟨_,_,(qe k z hz).2,GN.2 hb⟩);refine⟨U',{lE:=l9.HW un _ _ LY S.lE,defers:=FE,qJ:=?_,apart:=?_,wZ:=?_,size:=S.size,old:=S.old,qE:=S.qE,F2:=?_,AH:=S.AH,rest:=S.rest,low:=⟨S.low.1,hl⟩,mZ:=?_}⟩
 ·intro k z hz;exact qV.HW un (Mw z (e9 hz)) (fun _ _=>rfl) (S.qJ _ _ (qe k z hz).2)
 ·intro k k' z z' b hz hz' hb uD;refine hinj k k' (qe k z hz).1 (qe k' z' hz').1 (S.apart _ _ _ _ b (qe k z hz).2 (qe k' z' hz').2 (GN.2 hb) (GN.2 uD))
 ·intro k z b o hz hb;exact S.wZ _ _ b o (qe k z hz).2 (GN.2 hb)
 ·intro k z b o hz hm hb;exact S.F2 _ _ b o (qe k z hz).2 (abw.2 hm) hb
 ·intro k hk;have RV:k<low:=by have:=S.low.1;simp only at this;omega
  have hn:=S.mZ k hk
  grind [KU]
section qJ
variable {γ δ:Type}
structure OG(γ:Type) where
 enc:Il->γ->lw
 oP:List Nat->Il->List lw->lw->Option γ
 len:γ->Nat
 nR:Nat
 nb:∀L g,uJ nR (enc L g)
 ok:∀Y L H n x g,Cov Y nR n->oP Y L H x=some g->Xf H n x ((enc L g).s8 (atN Y))
 anj:∀Y L H x g,oP Y L H x=some g->len g=(oO (some x)).getD 0
def ank{W O:Type}{f:W->Option O}:∀{xs:List W}{ys:List O},tU f xs=some ys->ys.length=xs.length
 |[],ys,h=>by grind [tU]
 |x::xs,ys,h=>by
  simp only[tU,ed,eg]at h;obtain⟨y,hy,zs,hz,rfl⟩:=h;simp [ank hz]
def ogA(wT:Bool)(r:Row W):OG (List W) where
 enc _ xs:=.nW wT r.sz (mp r.enc xs)
 oP _ _ _:=daT wT r
 len xs:=xs.length
 nR:=0
 nb L g:=DO g
 ok Y L H n x g _ h:=by
  have:=(oaT wT r).ok H n x g h
  grind [oaT]
 anj Y L H x g h:=by
  unfold daT at h;split at h
  ·split at h
   ·exact ank h
   ·cases h
  ·cases h
def aDR(c:AL γ)(Y:List Nat)(L:Il)(H:List lw):lw->Option γ
 |.cells cs=>c.oP Y L H cs
 |_=>none
def EB(c:AL γ):OG γ where
 enc L g:=.cells (c.enc L g)
 oP:=aDR c
 len _:=0
 nR:=c.nR
 nb L g:=c.nb L g
 ok Y L H n x g hv h:=by
  unfold aDR at h;split at h
  ·exact .inr (.inr (.inl ⟨_,_,rfl,rfl,c.ok Y L H n _ _ hv h⟩))
  ·cases h
 anj Y L H x g h:=by
  unfold aDR at h;split at h
  ·rfl
  ·cases h
def aLN{wT:Bool}{r:Row W}:(∀L g,(ogA wT r).enc L g=.nW wT r.sz (mp r.enc g))/\(∀Y L H x,(ogA wT r).oP Y L H x=daT wT r x)/\(∀g,(ogA wT r).len g=g.length)/\(ogA wT r).nR=0:=⟨fun _ _=>rfl,fun _ _ _ _=>rfl,fun _=>rfl,rfl⟩
def aLO{c:AL γ}:(∀L g,(EB c).enc L g=.cells (c.enc L g))/\(∀Y L H x,(EB c).oP Y L H x=aDR c Y L H x)/\(∀g,(EB c).len g=0)/\(EB c).nR=c.nR:=⟨fun _ _=>rfl,fun _ _ _ _=>rfl,fun _=>rfl,rfl⟩
structure OL(O:Type) where
 enc:Il->O->List lw
 oP:List Nat->Il->List lw->List lw->Option O
 nS:O->Il
 size:Nat
 nR:Nat
 sz:∀L b,(enc L b).length=size
 nb:∀L b,∀y∈enc L b,uJ nR y
 ok:∀Y L H n xs b,Cov Y nR n->oP Y L H xs=some b->xs.length=size/\∀(i:Nat)(y:lw),(enc L b)[i]? =some y->∃x,xs[i]? =some x/\Xf H n x (y.s8 (atN Y))
 DN:∀Y L H xs b,oP Y L H xs=some b->xs.length=size
 amv:∀Y L H xs b,oP Y L H xs=some b->∀k,nS b k=(oO xs[k]?).getD 0
def aBL:List lw->Option Unit
 |[]=>some ()
 |_=>none
def Ex:OL Unit where
 enc _ _:=[]
 oP _ _ _:=aBL
 nS _ _:=0
 size:=0
 nR:=0
 sz _ _:=rfl
 nb _ _:=by simp
 ok Y L H n xs b _ h:=by
  grind [aBL]
 DN Y L H xs b h:=by
  grind [aBL]
 amv Y L H xs b h k:=by
  unfold aBL at h;split at h
  ·rfl
  ·cases h
def aBM(o:OG γ)(s:OL O)(Y:List Nat)(L:Il)(H:List lw):List lw->Option (γ×O)
 |x::xs=>(o.oP Y L H x).bind fun y=>(s.oP Y L H xs).bind fun b=>some (y,b)
 |[]=>none
def anV(a:Nat)(f:Il):Il
 |0=>a
 |k+1=>f k
def vV(o:OG γ)(s:OL O):OL (γ×O) where
 enc L b:=o.enc L b.1::s.enc L b.2
 oP:=aBM o s
 nS b:=anV (o.len b.1) (s.nS b.2)
 size:=s.size+1
 nR:=max o.nR s.nR
 sz L b:=by rw[eF,s.sz]
 nb L b y hy:=by
  simp only[eP]at hy;rcases hy with rfl|hy
  ·exact DD (by omega) _ (o.nb L _)
  ·exact DD (by omega) _ (s.nb L _ y hy)
 ok Y L H n xs b hv h:=by
  unfold aBM at h;split at h
  ·rename_i x xs;simp only[ed,eg]at h;obtain⟨y,hy,b,hb,rfl⟩:=h;obtain⟨h1,h2⟩:=s.ok Y L H n _ _ (hv.mono (by omega)) hb;refine⟨by rw[eF,h1],fun i z hz=>?_⟩;cases i with
   |zero=>simp at hz;subst hz;exact⟨x,by simp,o.ok Y L H n _ _ (hv.mono (by omega)) hy⟩
   |succ i=>grind
  ·cases h
 DN Y L H xs b h:=by
  unfold aBM at h;split at h
  ·simp only[ed,eg]at h;obtain⟨y,hy,b,hb,rfl⟩:=h;rw[eF,s.DN _ _ _ _ _ hb]
  ·cases h
 amv Y L H xs b h k:=by
  unfold aBM at h;split at h
  ·simp only[ed,eg]at h;obtain⟨y,hy,b,hb,rfl⟩:=h;cases k with
   |zero=>simp only[anV,eS];exact o.anj Y L H _ _ hy
   |succ k=>simp only[anV,eK];exact s.amv Y L H _ _ hb k
  ·cases h
def aLP:(∀L b,Ex.enc L b=[])/\(∀Y L H xs,Ex.oP Y L H xs=aBL xs)/\(∀b k,Ex.nS b k=0)/\Ex.size=0/\Ex.nR=0:=⟨fun _ _=>rfl,fun _ _ _ _=>rfl,fun _ _=>rfl,rfl,rfl⟩
def aLQ{o:OG γ}{s:OL O}:(∀L b,(vV o s).enc L b=o.enc L b.1::s.enc L b.2)/\(∀Y L H xs,(vV o s).oP Y L H xs=aBM o s Y L H xs)/\(∀b,(vV o s).nS b=anV (o.len b.1) (s.nS b.2))/\(vV o s).size=s.size+1/\(vV o s).nR=max o.nR s.nR:=⟨fun _ _=>rfl,fun _ _ _ _=>rfl,fun _=>rfl,rfl,rfl⟩
end qJ
inductive YA where
 |arg (i:Nat) (cs:List Nat)
 |yj (k c:Nat) (cs:List Nat)
def aDS:AV->Option Nat
 |.ptr l _=>some l
 |.nW l _=>some l
 |.map l=>some l
 |_=>none
def down:List Nat->AV->Option AV
 |[],v=>some v
 |i::is,.func _ [] cap=>match cap[i]? with
  |some u=>down is u
  |none=>none
 |i::is,.func _ (x::fs) cap=>match (x::(fs++cap))[i]? with
  |some u=>down is u
  |none=>none
 |_::_,_=>none
def atG(c:Nat):Option lw->Option AV
 |some (.cells xs)=>xs[c]?
 |some (.loop _ xs _ _)=>xs[c]?
 |_=>none
def aLR(args:List AV)(H:List lw)(Y:List Nat):YA->Option Nat
 |.arg i cs=>(args[i]?).bind fun v=>(down cs v).bind aDS
 |.yj k c cs=>(Y[k]?).bind fun l=>(atG c H[l]?).bind fun v=>(down cs v).bind aDS
def arb(args:List AV)(H:List lw):List YA->List Nat->Option (List Nat)
 |[],Y=>some Y
 |p::ps,Y=>(aLR args H Y p).bind fun l=>arb args H ps (Y++[l])
def apQ{args:List AV}{H:List lw}:∀{ps:List YA}{Y Y':List Nat},arb args H ps Y=some Y'->∃ls,Y'=Y++ls
 |[],Y,Y',h=>by simp_all [arb]
 |p::ps,Y,Y',h=>by
  simp only[arb,ed]at h;obtain⟨l,_,h⟩:=h;obtain⟨ls,hl⟩:=apQ h
  grind
def akZ(xs:List lw)(k:Nat):Nat:=(oO xs[k]?).getD 0
def aDT(hT:agA T){VX:List AV}{aPe:yJ}(hG:FnT P T args Ys (fun o H'=>o=aPe/\H'=Ys'))(hnd:Y.Nodup)(hlen:Y.length=Ys.length)(avX:Y.length<=Ys'.length)
 (hz:∀U:Nat->aPH,T (U (rA Y J.heap.length 0))=T (U l0))
 (aOQ:∀(i k:Nat),Y[i]? =some k->∃x y,J.heap[k]? =some x/\Ys[i]? =some y/\Xf J.heap J.heap.length x (y.s8 (rA Y J.heap.length))) (aO1:GM J.heap J.heap.length VX (vC (rA Y J.heap.length) args)):
 Zb P T l0 VX J (fun o H'=>o=aPe.s8 (rA Y J.heap.length)/\H'=A6 Y J.heap Ys'):=by
 intro C U a w hP S vs hr
 let H1:=vf J.heap Y (Ys.map (lw.s8 (rA Y J.heap.length)))
 have hl1:H1.length=J.heap.length:=BF _ _ _;have S0:pW C U ⟨J.lE++VX,J.heap,J.low,J.df⟩ {tmps:=a.tmps++vs,defers:=a.defers} w:={S with lE:=by simpa using S.lE.append hr,defers:=S.defers}
 have hat:∀(i k:Nat),Y[i]? =some k->∃x y,J.heap[k]? =some x/\Ys[i]? =some y/\Xf J.heap J.heap.length x (y.s8 (rA Y J.heap.length))/\H1[k]? =some (y.s8 (rA Y J.heap.length)):=by
  grind [abz]
 have hw:aph ⟨J.lE++VX,J.heap,J.low,J.df⟩ ⟨J.lE++vC (rA Y J.heap.length) args,H1,J.low,J.df⟩:=by
  refine⟨⟨⟨rfl,by show J.low<=H1.length;rw[hl1];exact S.low.2⟩,rfl,by show axY H1.length J.df;rw[hl1];exact SQ.nb S.defers.2.2⟩,?_,?_⟩
  ·show GM J.heap H1.length _ _;rw[hl1];exact GM.append (GM.same (l9.nb _ _ S.lE)) aO1
  ·show CoH J.heap H1.length J.heap H1;rw[hl1];refine adx fun k y hy=>?_
   by_cases hk:k∈Y
   ·grind [eN]
   ·have hy2:J.heap[k]? =some y:=by grind [L0]
    exact⟨y,hy2,.inr (.inl ⟨rfl,abx (S.qJ k y hy2)⟩)⟩
 have S1:=hw.sim S0;have hsl:=S1.lE;simp only[eI]at hsl;have hsz:a.tmps.toList.length=J.lE.length:=S.lE.length;have h1:=hsl.take J.lE.length;have h2:=hsl.drop J.lE.length;rw[ez rfl,ez hsz]at h1;rw[eA rfl,eA hsz]at h2;have S2:pW C U {J with heap:=H1} a w:={S1 with lE:=h1,defers:=S1.defers}
 have BB:Zb P T l0 (vC (rA Y H1.length) args) {J with heap:=H1} (fun o H'=>o=aPe.s8 (rA Y H1.length)/\H'=A6 Y J.heap Ys'):=by
  refine akN (J:={J with heap:=H1}) hT hG Y hlen hnd (by simp_all) (tQ.refl _) ?_ ?_
  all_goals grind [A6,aac]
 rw[hl1]at BB;exact BB C U a w hP S2 vs h2
section Im

def apR(base:List Nat)(pos:List YA)(os:OL O)(aPp:AL W)(R6:OL O')(rs:AL W')(F:O->W->Option (O'×W')):Ent:=fun args H=>
 (arb args H pos base).bind fun Y=>bif NI Y&&(decide (os.nR<=Y.length)&&(decide (aPp.nR<=Y.length)&&decide (Y.length<=R6.size)))then
   (tU (ani H) Y).bind fun xs=>(os.oP Y (akZ xs) H xs).bind fun b=>(aPp.oP Y (akZ xs) H args).bind fun a=>(F b a).bind fun r=>
     some ((vJ (rs.enc (R6.nS r.1) r.2)).s8 (rA Y H.length),A6 Y H (R6.enc (R6.nS r.1) r.1))else none
def Im(pos:List YA)(os:OL O)(aPp:AL W)(R6:OL O')(rs:AL W')(F:O->W->Option (O'×W')):Ent:=apR [] pos os aPp R6 rs F
def awg(pos:List YA)(os:OL O)(aPp:AL W)(R6:OL O')(rs:AL W')(F:O->W->Option (O'×W'))(l:Nat):Ent:=fun args H=>
 match H[l]? with
 |some (.loop k _ _ _)=>qq (args.length=k.ps.size) (apR [l] pos os aPp R6 rs F args H)
 |_=>none
def awh(hT:agA T){pos:List YA}{os:OL O}{aPp:AL W}{R6:OL O'}{rs:AL W'}{F:O->W->Option (O'×W')}
 (hz:∀(ls:List Nat)(n:Nat)(U:Nat->aPH),T (U (rA (base++ls) n 0))=T (U l0)) (he:apR base pos os aPp R6 rs F args J.heap=some (r,H')):
 ∃b a q,F b a=some q/\(FnT P T (aPp.enc (os.nS b) a) (os.enc (os.nS b) b) (fun o H'=>o=.ret (vJ (rs.enc (R6.nS q.1) q.2))/\H'=R6.enc (R6.nS q.1) q.1)->Zb P T l0 args J (fun o Kl=>o=.ret r/\Kl=H')):=by
 unfold apR at he;simp only[ed]at he;obtain⟨Y,hρ,he⟩:=he;cases hc:(NI Y&&(decide (os.nR<=Y.length)&&(decide (aPp.nR<=Y.length)&&decide (Y.length<=R6.size))))with
 |false=>simp [hc]at he
 |true=>
  simp only[hc,kP,ed,eg,eo]at he;obtain⟨xs,hxs,b,hb,a,ha,q,hq,rfl,rfl⟩:=he;refine⟨b,a,q,hq,fun hfn=>?_⟩;simp only[ep,kU]at hc;obtain⟨hnd,n1,n2,n3⟩:=hc;obtain⟨h1,h2⟩:=abD hxs
  have awi:∀m,m<=Y.length->Cov Y m J.heap.length:=by
   intro m hm k hk;have RV:k<Y.length:=by omega
   obtain⟨x,hx,EC⟩:=h2 k _ (eu RV)
   grind
  have hL:os.nS b=akZ xs:=funext fun k=>os.amv Y _ _ _ _ hb k
  obtain⟨h3,h4⟩:=os.ok Y _ J.heap J.heap.length _ _ (awi _ n1) hb;have agu:∀l,l<Y.length->atN Y l=rA Y J.heap.length l:=fun l hl=>by unfold rA atN;rw[if_pos hl]
  rw[<-hL]at ha h4;obtain⟨ls,hls⟩:=apQ hρ;refine aDT hT hfn (aPb hnd) (by rw[h1,h3,os.sz]) (by rw[R6.sz];exact n3) (fun U=>by rw[hls];exact hz ls _ U) ?_ ?_
  ·intro i k hi;obtain⟨x,hx,EC⟩:=h2 i k hi;have q9:i<(os.enc (os.nS b) b).length:=by rw[os.sz,<-h3,<-h1];grind
   have hy:=eu q9;obtain⟨x2,WH,hcc⟩:=h4 i _ hy;rw[hx]at WH;cases WH;refine⟨x,_,EC,hy,?_⟩;rw[<-akY (n:=os.nR) (fun l hl=>agu l (by omega)) _ (os.nb _ _ _ (e9 hy))];exact hcc
  ·rw[<-Ik (n:=aPp.nR) (fun l hl=>agu l (by omega)) _ (aPp.nb _ _)];exact aPp.ok Y _ J.heap _ _ _ (awi _ n2) ha
def nJ{pos:List YA}{os:OL O}{aPp:AL W}{R6:OL O'}{rs:AL W'}{F:O->W->Option (O'×W')}
 (h:∀b a r,F b a=some r->FnG P f (aPp.enc (os.nS b) a) (os.enc (os.nS b) b) (fun o H'=>o=.ret (vJ (rs.enc (R6.nS r.1) r.2))/\H'=R6.enc (R6.nS r.1) r.1)):Zd P f (Im pos os aPp R6 rs F):=by
 intro args J r H' he;obtain⟨b,a,q,hq,BB⟩:=awh (P:=P) (T:=fun _ w vs R=>Calls P f vs w R) (l0:=0) ajK (fun _ _ _=>rfl) he;exact⟨(h b a q hq).1,BB (h b a q hq).2⟩
def ak0{pos:List YA}{os:OL O}{aPp:AL W}{R6:OL O'}{rs:AL W'}{F:O->W->Option (O'×W')}
 (h:∀b a r,F b a=some r->FnT P (Xc P) (aPp.enc (os.nS b) a) (os.enc (os.nS b) b) (fun o H'=>o=.ret (vJ (rs.enc (R6.nS r.1) r.2))/\H'=R6.enc (R6.nS r.1) r.1)) (he:awg pos os aPp R6 rs F l args J.heap=some (r,H')):RY P l args J (fun o Kl=>o=.ret r/\Kl=H'):=by
 unfold awg at he;split at he
 ·rename_i k lE st xE hk;rw[pH]at he;obtain⟨hlen,he⟩:=he;obtain⟨b,a,q,hq,BB⟩:=awh (P:=P) (T:=Xc P) (l0:=l) avo (fun ls n U=>by simp [rA]) he;exact⟨⟨k,lE,st,xE,hk,hlen⟩,BB (h b a q hq)⟩
 ·cases he
def apS:List (Nat×(Nat->Ent))->Nat->Ent
 |[],_,_,_=>none
 |(l',e)::t,l,args,H=>bif l==l' then e l args H else apS t l args H
def S9:∀(l:Nat)(args:List AV)(J:k9)(r:AV)(H':List lw),apS [] l args J.heap=some (r,H')->RY P l args J (fun o Kl=>o=.ret r/\Kl=H'):=by
 intro l args J r H' h;cases h
def Pp{l':Nat}{e:Nat->Ent}{t:List (Nat×(Nat->Ent))}(h1:∀(l:Nat)(args:List AV)(J:k9)(r:AV)(H':List lw),e l args J.heap=some (r,H')->RY P l args J (fun o Kl=>o=.ret r/\Kl=H'))
 (h2:∀(l:Nat)(args:List AV)(J:k9)(r:AV)(H':List lw),apS t l args J.heap=some (r,H')->RY P l args J (fun o Kl=>o=.ret r/\Kl=H')):
 ∀(l:Nat)(args:List AV)(J:k9)(r:AV)(H':List lw),apS ((l',e)::t) l args J.heap=some (r,H')->RY P l args J (fun o Kl=>o=.ret r/\Kl=H'):=by
 grind [apS]
end Im
section adq
variable {γ:Type}
def ay9(xs:List AV)(pos:List YA)(base:List Nat)(low:Nat)(os:OL O)(s:AL W)(J:k9):Option (O×W):=
 (arb xs J.heap pos base).bind fun Y=>bif NI Y&&((J.low==low)&&(J.df.isEmpty&&(decide (low<=os.size)&&(decide (os.nR<=os.size)&&decide (s.nR<=os.size)))))then
   (tU (ani J.heap) Y).bind fun ys=>(os.oP Y (akZ ys) J.heap ys).bind fun b=>(s.oP Y (akZ ys) J.heap xs).bind fun a=>some (b,a)else none
def yK(P:aPI)(rs:List ResultVar)(pos:List YA)(base:List Nat)(low:Nat)(os:OL O)(s:AL W)(J:k9):Option (O×W):=
 (ES P J rs).bind fun xs=>ay9 xs pos base low os s J
def ak1{xs:List AV}{pos:List YA}{os:OL O}{s:AL W}{r:O×W}(agl:base=fa low)(h:ay9 xs pos base low os s J=some r):
 J.df=[]/\N4 ⟨xs,J.heap,J.low,[]⟩ ⟨s.enc (os.nS r.1) r.2,os.enc (os.nS r.1) r.1,J.low,[]⟩:=by
 unfold ay9 at h;simp only[ed]at h;obtain⟨Y,hρ,h⟩:=h;cases hc:(NI Y&&((J.low==low)&&(J.df.isEmpty&&(decide (low<=os.size)&&(decide (os.nR<=os.size)&&decide (s.nR<=os.size))))))with
 |false=>simp [hc]at h
 |true=>
  simp only[hc,kP,ed,eg]at h;obtain⟨ys,hys,b,hb,a,ha,rfl⟩:=h;simp only[ep,kU,beq_iff_eq]at hc;obtain⟨hnd,h1,hdf,n1,n2,n3⟩:=hc;refine⟨by simpa using hdf,?_⟩;obtain⟨ls,hls⟩:=apQ hρ;obtain⟨g1,g2⟩:=abD hys;have hL:os.nS b=akZ ys:=funext fun k=>os.amv Y _ _ _ _ hb k
  rw[<-hL]at hb ha
  have abp:Y.length=os.size:=by
   have:ys.length=os.size:=os.DN _ _ _ _ _ hb;rw[g1,this]
  intro C U a' w S
  have awi:∀m,m<=Y.length->Cov Y m J.heap.length:=by
   intro m hm k hk;have RV:k<Y.length:=by omega
   obtain⟨x,hx,EC⟩:=g2 k _ (eu RV)
   grind
  let Ys:=os.enc (os.nS b) b
  have hYl:Ys.length=os.size:=os.sz _ _
  let H1:=vf J.heap Y (Ys.map (lw.s8 (atN Y)))
  have hl1:H1.length=J.heap.length:=BF _ _ _;obtain⟨_,h4⟩:=os.ok Y _ J.heap J.heap.length _ _ (awi _ (by omega)) hb
  have hat:∀(i k:Nat)(y:lw),Y[i]? =some k->Ys[i]? =some y->∃x,J.heap[k]? =some x/\Xf J.heap J.heap.length x (y.s8 (atN Y))/\H1[k]? =some (y.s8 (atN Y)):=by
   grind [abz,aPb]
  have hw:aph ⟨xs,J.heap,J.low,[]⟩ ⟨vC (atN Y) (s.enc (os.nS b) a),H1,J.low,[]⟩:=by
   refine⟨⟨⟨rfl,by show J.low<=H1.length;rw[hl1];exact S.low.2⟩,rfl,agv⟩,?_,?_⟩
   ·show GM J.heap H1.length _ _;rw[hl1];exact s.ok Y _ J.heap _ _ _ (awi _ (by omega)) ha
   ·show CoH J.heap H1.length J.heap H1;rw[hl1];refine adx fun k y hy=>?_
    by_cases hk:k∈Y
    ·obtain⟨i,hi⟩:=eN hk;have q9:i<Ys.length:=by grind
     obtain⟨x,hx,hc,hy'⟩:=hat i k _ hi (eu q9)
     grind
    ·have hy2:J.heap[k]? =some y:=by grind [L0]
     exact⟨y,hy2,.inr (.inl ⟨rfl,abx (S.qJ k y hy2)⟩)⟩
  obtain⟨U',S1⟩:=hw.imp C U _ w S;refine ay8 (Y:=Y) (Ys:=Ys) (by rw[abp,hYl]) (aPb hnd) ?_ (by rw[hYl];omega) (uT (by omega) _ (s.nb _ _)) (fun y hy=>DD (by omega) _ (os.nb _ _ y hy)) ?_ C U' a' w S1
  all_goals grind
def Zf{pos:List YA}{os:OL O}{s:AL W}{r:O×W}(agl:base=fa low)(h:yK P rs pos base low os s J=some r):
 J.df=[]/\∃xs,ES P J rs=some xs/\ajR ⟨xs,J.heap,J.low,[]⟩ ⟨s.enc (os.nS r.1) r.2,os.enc (os.nS r.1) r.1,J.low,[]⟩:=by
 unfold yK at h;simp only[ed]at h;obtain⟨xs,hx,h⟩:=h;exact⟨(ak1 agl h).1,xs,hx,(ak1 agl h).2.e⟩
end adq
def aza {b c:Nat}:decide (max a b<=c)=(decide (a<=c)&&decide (b<=c)):=by
 grind
def aDU{xs:List lw}:akZ xs k=(oO xs[k]?).getD 0:=rfl
def aDV:(∀i s r,oO (some (.nW i s r))=some r.length)/\(∀c,oO (some (.cells c))=none)/\(∀e,oO (some (.map e))=none)/\oO (some .zU)=none/\oO none=none:=⟨fun _ _ _=>rfl,fun _=>rfl,fun _=>rfl,rfl,rfl⟩
def aJz{f:Il}:anV a f 0=a/\∀k,anV a f (k+1)=f k:=⟨rfl,fun _=>rfl⟩
def aJA{f:Il}:anV a f 1=f 0:=rfl
def aJB{f:Il}:anV a f 2=f 1:=rfl
def aJC{f:Il}:anV a f 3=f 2:=rfl
def aJD{f:Il}:anV a f 4=f 3:=rfl
def aJE{f:Il}:anV a f 5=f 4:=rfl
def aJF{f:Il}:anV a f 6=f 5:=rfl
def aLS:vlN.nR=0:=rfl
def aLT{t:Ty W}{s:VL O}:(vlT t s).nR=s.nR:=rfl
def aLU{s:VL O}:(vlP k s).nR=max (k+1) s.nR:=rfl
def aLV{s:VL O}:(vlM k s).nR=max (k+1) s.nR:=rfl
def aLW{c:VL W}{s:VL O}:(vlF f c s).nR=max c.nR s.nR:=rfl
attribute [go_sem] aLS aLT aLU aLV aLW aLA aLB aLC aLD aLE aLF aLG aLH aLI aLJ aLK aLL aLM F3 aLN aLO aLP aLQ ay7 aGQ aGR aGS aGT aGU aGV aGW aGX aGY aGZ aG0 aDR aBL aBM Im yK arb aLR aDS down atG aDU aDV Option.getD_some Option.getD_none aJz aJA aJB aJC aJD aJE aJF aza eg
def stJ(lk:Bz)(j:Int):aPK:=stP (sG lk.js j)
def aDW:stJ lk 0=.ready:=rfl
section ogL
variable {γ:Type}
def aDX(lk:Bz)(c:AL γ)(Y:List Nat)(L:Il)(H:List lw):lw->Option (γ×Int)
 |.loop lk' lE st j=>qq (lk'=lk/\st=stJ lk j) ((c.oP Y L H lE).bind fun g=>some (g,j))
 |_=>none
def ogL(lk:Bz)(c:AL γ):OG (γ×Int) where
 enc L g:=.loop lk (c.enc L g.1) (stJ lk g.2) g.2
 oP:=aDX lk c
 len _:=0
 nR:=c.nR
 nb L g:=c.nb L g.1
 ok Y L H n x g hv h:=by
  unfold aDX at h;split at h
  ·simp only[pH,ed,eg]at h;obtain⟨⟨rfl,rfl⟩,y,hy,rfl⟩:=h;exact .inr (.inr (.inr (.inr ⟨_,_,_,_,_,rfl,rfl,c.ok Y L H n _ _ hv hy⟩)))
  ·cases h
 anj Y L H x g h:=by
  unfold aDX at h;split at h
  ·rfl
  ·cases h
def awj(lk:Bz)(c:AL γ)(Y:List Nat)(L:Il)(H:List lw):lw->Option γ
 |.loop lk' lE st j=>bif j==0 then qq (lk'=lk/\st=stJ lk j) (c.oP Y L H lE)else none
 |_=>none
def apT (lk:Bz) (c:AL γ):OG γ where
 enc L g:=.loop lk (c.enc L g) .ready 0
 oP:=awj lk c
 len _:=0
 nR:=c.nR
 nb L g:=c.nb L g
 ok Y L H n x g hv h:=by
  unfold awj at h;split at h
  ·rename_i lk' lE st j;cases hj:j==0 with
   |false=>rw[hj]at h;cases h
   |true=>
    rw[hj,kP]at h;have hj':j=0:=by simpa using hj
    subst hj';simp only[pH]at h;obtain⟨⟨rfl,rfl⟩,hy⟩:=h;exact .inr (.inr (.inr (.inr ⟨_,_,_,_,_,rfl,rfl,c.ok Y L H n _ _ hv hy⟩)))
  ·cases h
 anj Y L H x g h:=by
  unfold awj at h;split at h
  ·rfl
  ·cases h
def aJG{c:AL γ}{L:Il}{st:aPK}{j:Int}:aDX lk c Y L H (.loop lk' s st j)=qq (lk'=lk/\st=stJ lk j) ((c.oP Y L H s).bind fun g=>some (g,j)):=rfl
def aG1{c:AL γ}{L:Il}{st:aPK}{j:Int}:awj lk c Y L H (.loop lk' s st j)=bif j==0 then qq (lk'=lk/\st=stJ lk j) (c.oP Y L H s)else none:=rfl
def aLX{c:AL γ}:(∀L g,(ogL lk c).enc L g=.loop lk (c.enc L g.1) (stJ lk g.2) g.2)/\(∀Y L H x,(ogL lk c).oP Y L H x=aDX lk c Y L H x)/\(∀g,(ogL lk c).len g=0)/\(ogL lk c).nR=c.nR:=⟨fun _ _=>rfl,fun _ _ _ _=>rfl,fun _=>rfl,rfl⟩
def aJH{c:AL γ}:(∀L g,(apT lk c).enc L g=.loop lk (c.enc L g) .ready 0)/\(∀Y L H x,(apT lk c).oP Y L H x=awj lk c Y L H x)/\(∀g,(apT lk c).len g=0)/\(apT lk c).nR=c.nR:=⟨fun _ _=>rfl,fun _ _ _ _=>rfl,fun _=>rfl,rfl⟩
end ogL
def aad:List (Int×aPF)->qK->Int
 |(k,.ret)::_,.ret=>k
 |(k,.exit n)::t,.exit m=>bif n==m then k else aad t (.exit m)
 |_::t,e=>aad t e
 |[],_=>0
section Xk

def aDY(js:List (Int×aPF))(pos:List YA)(base:List Nat)(low:Nat)(os:OL O)(e:qK)(J:k9):Option lw->Option (O×(Bool×Unit))
 |some (.loop lk sl .busy 0)=>qq (apz e=some (sG lk.js (aad js e))) (ay9 [.bool (sG lk.js (aad js e)).isNone] pos base low os (nu p8 lX) {J with heap:=J.heap.set 0 (.loop lk sl (stJ lk (aad js e)) (aad js e))})
 |_=>none
def Xk(js:List (Int×aPF))(pos:List YA)(base:List Nat)(low:Nat)(os:OL O)(e:qK)(J:k9):Option (O×(Bool×Unit)):=aDY js pos base low os e J J.heap[0]?
def aG2{pos:List YA}{os:OL O}{e:qK}{sl:List AV}:aDY js pos base low os e J (some (.loop lk sl .busy 0))=
 qq (apz e=some (sG lk.js (aad js e))) (ay9 [.bool (sG lk.js (aad js e)).isNone] pos base low os (nu p8 lX) {J with heap:=J.heap.set 0 (.loop lk sl (stJ lk (aad js e)) (aad js e))}):=rfl
def arc(h:N4 ⟨[x],J.heap,J.low,[]⟩ ⟨[r],H',J.low,[]⟩):ajL J x r H':=by
 intro C U a w S v hv;obtain⟨U',S'⟩:=h C U {tmps:= #[v],defers:=[]} w {S with lE:=⟨v,[],rfl,hv,rfl⟩,defers:=vW.nil};obtain⟨v',_,e,hr,_⟩:=S'.lE;simp only[eM]at e;obtain⟨rfl,_⟩:=e;exact⟨U',{S' with lE:=rfl,defers:=vW.nil},hr⟩
def agF{pos:List YA}{os:OL O}{e:qK}{r:O×(Bool×Unit)}(agl:base=fa low)(h:Xk js pos base low os e J=some r):
 az7 (fun o H'=>o=.ret (vJ ((nu p8 lX).enc (os.nS r.1) r.2))/\H'=os.enc (os.nS r.1) r.1) e J:=by
 unfold Xk aDY at h;split at h
 ·rename_i lk sl hk;simp only[pH]at h;obtain⟨hj,h⟩:=h;have:=ak1 agl h;exact⟨_,lk,sl,hj,hk,_,_,arc (J:={J with heap:=J.heap.set 0 (.loop lk sl (stJ lk (aad js e)) (aad js e))}) this.2,rfl,rfl⟩
 ·cases h
end Xk
section ai3
variable {M:mg R} {k:List Kt}
def aDZ{j:Int}:apA M k J H' (some (.loop lk s (stJ lk j) j))=ai1 M k {J with heap:=H'.set J.heap.length .zU} (sG lk.js j):=by
 rw[avt];exact apO
end ai3
def aD0{st:aPK}{j:Int}:(lw.loop lk s st j).s8 τ=.loop lk (vC τ s) st j:=rfl
def aD1{st:aPK}{j:Int}:oO (some (.loop lk s st j))=none:=rfl
def aD2{c:Nat}:(∀xs,atG c (some (.cells xs))=xs[c]?)/\(∀lk xs st j,atG c (some (.loop lk xs st j))=xs[c]?):=⟨fun _=>rfl,fun _ _ _ _=>rfl⟩
def aG3:apz .normal=some none/\apz .ret=some (some .ret)/\∀id,apz (.exit id)=some (some (.exit id)):=⟨rfl,rfl,fun _=>rfl⟩
def aJI:(∀k t,aad ((k,.ret)::t) .ret=k)/\(∀k n t,aad ((k,.exit n)::t) .ret=aad t .ret)/\(∀k t m,aad ((k,.ret)::t) (.exit m)=aad t (.exit m))/\(∀k n t m,aad ((k,.exit n)::t) (.exit m)=bif n==m then k else aad t (.exit m))/\
 (∀js,aad js .normal=0)/\(∀e,aad [] e=0):=
 ⟨fun _ _=>rfl,fun _ _ _=>rfl,fun _ _ _=>rfl,fun _ _ _ _=>rfl,fun js=>by induction js with|nil=>rfl|cons x t ih=>obtain⟨k,c⟩:=x;cases c<;>exact ih,fun _=>rfl⟩
def aIz(pos:List YA)(os:OL O)(aPp:AL W)(R6:OL O')(rs:AL W')(F:O->W->Option (O'×W'))(l:Nat)(args:List AV)(H:List lw):Option lw->Option (AV×List lw)
 |some (.loop k _ _ _)=>qq (args.length=k.ps.size) (apR [l] pos os aPp R6 rs F args H)
 |_=>none
def aJJ{pos:List YA}{os:OL O}{aPp:AL W}{R6:OL O'}{rs:AL W'}:
 awg pos os aPp R6 rs F l args H=aIz pos os aPp R6 rs F l args H H[l]? :=rfl
def aG4{pos:List YA}{os:OL O}{aPp:AL W}{R6:OL O'}{rs:AL W'}{k:Bz}{st:aPK}{j:Int}:
 aIz pos os aPp R6 rs F l args H (some (.loop k s st j))=qq (args.length=k.ps.size) (apR [l] pos os aPp R6 rs F args H):=rfl
def V2:aPF->aPF
 |.rangeFunc _ _ a _=>a
 |_=>.skip
def aiq:aPF->aPF
 |.rangeFunc _ _ _ b=>b
 |_=>.skip
attribute [go_sem] V2 aiq
def aBN:List (List Nat×List (Int×aPF))->List Nat->List (Int×aPF)
 |[],_=>[]
 |(p',js)::t,p=>if p=p' then js else aBN t p
def aG5:(LoopState.ready=stJ lk 0)=True:=by simp [aDW]
def oLf(zs:List NZ)(H:List lw)(n:Nat):lw->Option lw
 |.loop lk s st j=>qq (st=stJ lk j) ((anP zs H n s).bind fun ds=>some (.loop lk ds (stJ lk j) j))
 |_=>none
def oL(zs:List NZ):ZO:=⟨oLf zs,fun H n x y h=>by
 unfold oLf at h;split at h
 ·simp only[pH,ed,eg]at h;obtain⟨rfl,ds,hd,rfl⟩:=h;exact .inr (.inr (.inr (.inr ⟨_,_,_,_,_,rfl,rfl,aoQ hd⟩)))
 ·cases h⟩
def aNN{st:aPK}{j:Int}:(oL zs).f H n (.loop lk s st j)=qq (st=stJ lk j) ((anP zs H n s).bind fun ds=>some (.loop lk ds (stJ lk j) j)):=rfl
attribute [go_sem] aG5 aNN aLX aJH aJG aG1 Xk aG2 ay9 apR aDZ aD0 aD1 aD2 aG3 aJI aJJ aG4 apS
def K2(p:lH×Bool):AV×AV:=(.str (sb p.1),.bool p.2)
def qw{W:Type}(s:lH):List (lH×W)->Option W
 |[]=>none
 |(k,v)::es=>bif s==k then some v else qw s es
def ET{W:Type}(s:lH)(v:W):List (lH×W)->List (lH×W)
 |[]=>[(s,v)]
 |(k,u)::es=>bif s==k then(k,v)::es else(k,u)::ET s v es
theorem atH(a b:lH):(sb a==sb b)=(a==b):=by
 grind [MapKept.bytes_beq,aie]
def apU:∀xs:List (lH×Bool),aON (xs.map K2)=true
 |[]=>rfl
 |_::xs=>apU xs
theorem asi(xs:List (lH×Bool)):aON (mp K2 xs)=true:=by rw[sZ];exact apU xs
theorem anl(s:lH):∀xs:List (lH×Bool),C3 (sb s) (xs.map K2)=(qw s xs).map AV.bool
 |[]=>rfl
 |(k,v)::xs=>by
  show(bif sb s==sb k then some (AV.bool v)else C3 (sb s) (xs.map K2))=_;rw[atH,anl s xs]
  grind [qw]
theorem azb(s:lH)(xs:List (lH×Bool)):C3 (sb s) (mp K2 xs)=(qw s xs).map AV.bool:=by rw[sZ];exact anl s xs
theorem apV(s:lH)(v:Bool):∀xs:List (lH×Bool),RX (sb s) (.bool v) (xs.map K2)=(ET s v xs).map K2
 |[]=>rfl
 |(k,u)::xs=>by
  show(bif sb s==sb k then(AV.str (sb k),AV.bool v)::xs.map K2 else(AV.str (sb k),AV.bool u)::RX (sb s) (.bool v) (xs.map K2))=_;rw[atH,apV s v xs];simp only[ET];cases s==k<;>rfl
theorem aBO(s:lH)(v:Bool)(xs:List (lH×Bool)):RX (sb s) (.bool v) (mp K2 xs)=mp K2 (ET s v xs):=by grind [sZ,apV]
def awk(o:Option Bool)(z:Bool):(o.map AV.bool).getD (.bool z)=.bool (o.getD z):=by cases o<;>rfl
def azc:lw.map []=.map (mp K2 []):=by rw[sZ];rfl
def azd{z:AV}{s:lH}:ah5 z l (sb s) (some (.map (mp K2 xs)))=some {val:=((qw s xs).map AV.bool).getD z,rd:=[l]}:=by
 grind [ah5,asi,azb]
def awl{s:lH}{v:Bool}:GG l (sb s) (.bool v) (some (.map (mp K2 xs)))=some {val:=.any,rd:=[l],up:=[(l,.map (mp K2 (ET s v xs)))]}:=by
 grind [GG,asi,aBO]
def ak2(n:Nat)(xs:List (lH×Bool)):uJ n (.map (mp K2 xs))=True:=by
 refine eq_true fun p hp=>?_
 rw[sZ,List.mem_map]at hp;obtain⟨q,_,rfl⟩:=hp;exact⟨trivial,trivial⟩
def aBP(Y:Nat->Nat)(xs:List (lH×Bool)):(mp K2 xs).map (fun p=>(AV.s8 Y p.1,AV.s8 Y p.2))=mp K2 xs:=by
 rw[sZ,fc];exact eJ fun _ _=>rfl
def aBQ(n:Nat)(xs:List (lH×Bool)):(∀p:AV×AV,p∈mp K2 xs->AV.nb n p.1/\AV.nb n p.2)=True:=ak2 n xs
attribute [go_sem high] aBP aBQ
def ddB:AV×AV->Option (lH×Bool)
 |(.str s,.bool b)=>some (s.toList,b)
 |_=>none
theorem aJK{p:AV×AV}{q:lH×Bool}(h:ddB p=some q):p=K2 q:=by
 unfold ddB at h;split at h
 ·rename_i s b;simp only[eg]at h;subst h;simp only[K2,eo,AV.str.injEq,and_true];obtain⟨⟨l⟩⟩:=s;rw[ByteArray.toList_eq];rfl
 ·cases h
theorem asj:∀{es:List (AV×AV)}{xs:List (lH×Bool)},tU ddB es=some xs->es=xs.map K2
 |[],xs,h=>by grind [tU]
 |p::es,xs,h=>by
  simp only[tU,ed,eg]at h;obtain⟨q,hq,ys,hys,rfl⟩:=h;rw[aJK hq,asj hys];rfl
theorem aD3{es:List (AV×AV)}(h:tU ddB es=some xs):es=mp K2 xs:=by rw[sZ];exact asj h
theorem aAi(τ:Nat->Nat)(xs:List (lH×Bool)):(lw.map (mp K2 xs)).s8 τ=.map (mp K2 xs):=by
 rw[sZ];show lw.map ((xs.map K2).map _)=_;congr 1;rw[fc];exact eJ fun p _=>by obtain⟨s,b⟩:=p;rfl
def daM:lw->Option (List (lH×Bool))
 |.map es=>tU ddB es
 |_=>none
def aJL:daM (.map (mp K2 xs))=some xs:=by
 show tU ddB (mp K2 xs)=some xs;exact Ci (fun x=>by obtain⟨s,b⟩:=x;show some ((sb s).toList,b)=_;rw[aie]) xs
theorem aD4{x:lw}(h:daM x=some xs):x=.map (mp K2 xs):=by
 unfold daM at h
 grind [aD3]
def ogM:OG (List (lH×Bool)) where
 enc _ xs:=.map (mp K2 xs)
 oP _ _ _:=daM
 len _:=0
 nR:=0
 nb L g:=of_eq_true (ak2 0 g)
 ok Y L H n x g _ h:=by
  rw[aD4 h];rw[aAi];exact .inr (.inl ⟨rfl,of_eq_true (ak2 n g)⟩)
 anj Y L H x g h:=by
  rw[aD4 h];rfl
def aLY:(∀L g,ogM.enc L g=.map (mp K2 g))/\(∀Y L H x,ogM.oP Y L H x=daM x)/\(∀g,ogM.len g=0)/\ogM.nR=0:=⟨fun _ _=>rfl,fun _ _ _ _=>rfl,fun _=>rfl,rfl⟩
def gAt:List (List Nat×List (Nat×Nat×Nat))->List Nat->k9->k9
 |[],_,J=>J
 |(q,g)::t,p,J=>if p=q then apJ g J else gAt t p J
def aD5:∀{t:List (List Nat×List (Nat×Nat×Nat))}{p:List Nat}{J:k9},N4 J (gAt t p J)
 |[],_,_=>N4.refl _
 |(q,g)::t,p,J=>by
  unfold gAt;split
  ·exact amr
  ·exact aD5
def aG6(fs:List (List Nat×List Nat))(gs:List (List Nat×List (Nat×Nat×Nat)))(p:List Nat)(J:k9):Option k9:=(aPo fs p J).map (gAt gs p)
def aG7(fs:List (List Nat×List Nat))(gs:List (List Nat×List (Nat×Nat×Nat))):∀p J J',aG6 fs gs p J=some J'->N4 J J':=by
 intro p J J' h;simp only[aG6,eY]at h;obtain⟨J1,h1,rfl⟩:=h;exact(rX _ _ _ _ h1).trans aD5
attribute [go_sem] gAt aG6 azd awl awk azc aJL aLY aAi
attribute [go_sem high] ak2
def Ey(W:Type):Nat->Type
 |0=>Unit
 |n+1=>W×Ey W n
section Mt

def Zg:(n:Nat)->Ey W n->List W
 |0,_=>[]
 |n+1,x=>x.1::Zg n x.2
def vO(c:W->List AV):(n:Nat)->Ey W n->List AV
 |0,_=>[]
 |n+1,x=>c x.1++vO c n x.2
def aae(d:List AV->Option W)(sz:Nat):(n:Nat)->List AV->Option (Ey W n)
 |0,cs=>if cs.isEmpty=true then some ()else none
 |n+1,cs=>(d (cs.take sz)).bind fun x=>(aae d sz n (cs.drop sz)).bind fun t=>some (x,t)
theorem apW{c:W->List AV}{sz:Nat}(h:∀x,(c x).length=sz):∀(n:Nat)(v:Ey W n),(vO c n v).length=n*sz
 |0,_=>by simp [vO]
 |n+1,v=>by rw[vO,List.length_append,h,apW h n v.2,Nat.succ_mul,Nat.add_comm]
def apX{c:W->List AV}{d:List AV->Option W}{sz:Nat}(h:∀x,(c x).length=sz)(hd:∀x,d (c x)=some x):∀(n:Nat)(v:Ey W n),aae d sz n (vO c n v)=some v
 |0,_=>rfl
 |n+1,v=>by
  have h1:(vO c (n+1) v).take sz=c v.1:=by grind [vO]
  have h2:(vO c (n+1) v).drop sz=vO c n v.2:=by grind [vO]
  simp only[aae,h1,h2,hd,apX h hd n v.2,eE];rfl
theorem ajT{c:W->List AV}{sz:Nat}(h:∀x,(c x).length=sz)(hz:0<sz):∀(n i:Nat)(v:Ey W n),Xb sz i (vO c n v)=((Zg n v)[i]?).map c
 |0,0,_=>by
  grind [Xb,vO,Zg]
 |0,i+1,v=>by
  have:=ajT h hz 0 i v
  grind [vO,Zg,Xb]
 |n+1,0,v=>by
  grind [Xb,Zg,vO]
 |n+1,i+1,v=>by
  simp only[Xb,vO,Zg,eK];rw[<-ajT h hz n i v.2,<-h v.1,List.drop_left]
def asl{c:W->List AV}(h:∀n x,yg n (c x))(k:Nat):∀(n:Nat)(v:Ey W n),yg k (vO c n v)
 |0,_=>trivial
 |n+1,v=>ub (h k v.1) (asl h k n v.2)
theorem aAj{c:W->List AV}(h:∀x,(c x).all AV.nT=true):∀(n:Nat)(v:Ey W n),(vO c n v).all AV.nT=true
 |0,_=>rfl
 |n+1,v=>by rw[vO,List.all_append,h,aAj h n v.2];rfl
def aD6{c:W->List AV}(h:∀x,(c x).all AV.nT=true)(n:Nat)(v:Ey W n):cellsOf (.agg (vO c n v))=some (vO c n v):=by
 grind [cellsOf,aAj]
def aIA{c:VZ W}{H:List lw}{m sz:Nat}:∀{n:Nat}{cs:List AV}{v:Ey W n},aae (c.oP H) sz n cs=some v->nI H m cs (vO c.enc n v)
 |0,cs,v,h=>by
  simp only[aae]at h;split at h
  ·rename_i he;rw[List.isEmpty_iff]at he;subst he;exact nI.nil
  ·cases h
 |n+1,cs,v,h=>by
  simp only[aae,ed]at h;obtain⟨x,hx,t,ht,he⟩:=h;obtain rfl:(x,t)=v:=Option.some.inj he;have:=nI.append (c.ok H m _ _ hx) (aIA (c:=c) (m:=m) ht);rw[e8]at this;exact this
def cA(c:VZ W)(sz n:Nat):VZ (Ey W n) where
 enc v:=vO c.enc n v
 oP H cs:=aae (c.oP H) sz n cs
 ok H m cs v h:=aIA h
 nb k v:=asl c.nb k n v
def aNO{c:VZ W}{sz:Nat}:(∀v,(cA c sz n).enc v=vO c.enc n v)/\∀H cs,(cA c sz n).oP H cs=aae (c.oP H) sz n cs:=⟨fun _=>rfl,fun _ _=>rfl⟩
end Mt
attribute [go_sem] aNO
def agG(xs:List lH):List AV:=[.mj false 1 (mp mS xs)]
def aze:List AV->Option (List lH)
 |[c]=>dL mJ [] c
 |_=>none
def aBR(n:Nat)(xs:List lH):Pe n (mp mS xs):=DO (r:=mJ) xs
def awm:Row (List lH) where
 enc:=agG
 oP:=aze
 sz:=1
 ok r x h:=by
  unfold aze at h;split at h
  ·exact yQ.cons (Co1.qk (n:=0) (Cj h)) yQ.nil
  ·cases h
 nb n x:=⟨aBR n x,trivial⟩
def aG8:awm.enc=agG/\awm.oP=aze/\awm.sz=1:=⟨rfl,rfl,rfl⟩
def aBS(x:List lH):aze (agG x)=some x:=by
 simp only[aze,agG,dL,DN,adv,beq_self_eq_true,Bool.true_or,kP,Dz]
def aG9(xs:List (List lH)):tU aze (mp agG xs)=some xs:=Ci aBS xs
attribute [go_sem] agG aze aG8 aG9
theorem atI(s:lH):(sb s).data.toList=s:=by simp [sb]
def azf {b:Nat}:∀{xs:List lH}{j:Nat}{x:lH},qI E 1 b off (mp mJ.enc xs)->xs[j]? =some x->E.w.cell? ⟨b,off+j,none⟩=some (.string (sb x)):=by
 intro xs j x h hj;have hg:(mp mJ.enc xs)[j]? =some (mJ.enc x):=by rw[sZ,eQ,hj];rfl
 obtain⟨_,hm⟩:=h.get hg;have hm':q5 E b (off+j*1) [.str (sb x)]:=hm;obtain⟨⟨_,u,hu,_,hr⟩,_⟩:=hm';have hr':u=.string (sb x):=hr;rw[Nat.mul_one]at hu;rw[hu,hr']
def aD7(he:Bs P f=true)
 (h0:∀(a:Option Addr)(c:Nat)(sep:ByteArray)(w:aPJ),Calls P f #[.slice a 0 c,.string sep] w fun e w'=>e=.returned (.string ⟨#[]⟩)/\w'=w)
 (h1:∀(bk o c:Nat)(xs:List ByteArray)(sep:ByteArray)(w:aPJ),(∀(j:Nat) x,xs[j]? =some x->w.cell? ⟨bk,o+j,none⟩=some (.string x))->bk<w.heap.size->xs.length<=140737488355328->xs.length<=c->(Lib.join (xs.map (·.data.toList)) sep.data.toList).length<=140737488355328->
   Calls P f #[.slice (some ⟨bk,o,none⟩) xs.length c,.string sep] w fun e w'=>e=.returned (.string ⟨(Lib.join (xs.map (·.data.toList)) sep.data.toList).toArray⟩)/\RowKit.Below w.heap.size w w')
 (xs:List lH) (sep:lH) (hlen:(Lib.join xs sep).length<=140737488355328) (hN:xs.length<=140737488355328):
 N6 P f [(nA mJ).enc xs,oa.enc sep] (fun v=>v=oa.enc (Lib.join xs sep)):=by
 refine⟨he,⟨(nA mJ).nb 0 _,oa.nb 0 _,trivial⟩,fun C U w hP hw hN0 hM vs hr=>?_⟩;obtain⟨v0,us,hvs,r0,v1,us1,hus,r1,ajJ⟩:=hr;obtain⟨base,cap,rfl,GI,_,hno,anm,Q3⟩:=r0;have hv1:v1=.string (sb sep):=r1;have aLZ:us1=[]:=ajJ;subst hv1 hus aLZ;have hl:(mp mJ.enc xs).length=xs.length:=R4 _ _;rw[hl]at hvs GI;obtain rfl:vs= #[.slice base xs.length cap,.string (sb sep)]:=by cases vs;simp_all
 have empty:xs=[]->Calls P f #[.slice base xs.length cap,.string (sb sep)] w fun e w'=>∃r v U',(r=oa.enc (Lib.join xs sep))/\e=.returned v/\rD (C.env U' [] w') r v/\w.heap.size<=w'.heap.size/\(∀b,b<w.heap.size->w'.heap[b]? =w.heap[b]?)/\
  (∀x,x.block<w.heap.size->w'.frozen? x=w.frozen? x)/\w'.output=w.output/\w'.os=w.os:=by
  rintro rfl;refine(h0 base cap (sb sep) w).mono ?_;rintro e w' ⟨rfl,rfl⟩;exact⟨_,_,U,rfl,rfl,rfl,eD _,fun _ _=>rfl,fun _ _=>rfl,rfl,rfl⟩
 cases base with
 |none=>
  refine empty ?_;have:=hno rfl;exact eH (by omega)
 |some a=>
  cases hx:xs with
  |nil=>rw[<-hx];exact empty hx
  |cons x0 xr=>
   rw[<-hx];have uP:mp mJ.enc xs≠[]:=by intro h;rw[h]at hl;rw[hx]at hl;simp at hl
   have hs:=anm a rfl uP;obtain⟨bk,o,sp⟩:=a;simp only at hs;subst hs;have hR:qI (C.env U [] w) 1 bk o (mp mJ.enc xs):=Q3 _ rfl
   have hc:∀(j:Nat)(x:ByteArray),(xs.map sb)[j]? =some x->w.cell? ⟨bk,o+j,none⟩=some (.string x):=by
    intro j x hj;rw[eQ,eY]at hj;obtain⟨y,hy,rfl⟩:=hj;exact azf hR hy
   have hb:bk<w.heap.size:=Kk (hc 0 (sb x0) (by rw[hx];rfl))
   have axO:(xs.map sb).map (·.data.toList)=xs:=by
    rw[fc];have:((fun b:ByteArray=>b.data.toList) ∘ sb)=id:=by funext s;exact atI s
    rw[this,List.map_id]
   have avX:(xs.map sb).length=xs.length:=eU _;have:=h1 bk o cap (xs.map sb) (sb sep) w hc hb (by rw[avX];exact hN) (by rw[avX];exact GI) (by rw[axO,atI];exact hlen);rw[axO,atI,avX]at this;refine this.mono ?_;rintro e w' ⟨rfl,hB⟩;exact⟨_,_,U,rfl,rfl,rfl,hB.size,hB.block,fun x hx=>hB.frozen hx,hB.output,hB.os⟩
section aNP
variable {a:Act} {w:aPJ}
def vwN(H:List lw):List AV->Option (List AV)
 |[]=>some []
 |.agg cs::r=>(vwL H cs).bind fun p=>(vwN H r).bind fun q=>some (.agg p.1::q)
 |c::r=>(vwL H [c]).bind fun p=>(vwN H r).bind fun q=>some (p.1++q)
def aJM(l:Nat):AV->AV
 |.int k n=>.int k n
 |.bool b=>.bool b
 |.str s=>.str s
 |.mj _ _ _=>.nW l 0
 |_=>.any
def aJN(l:Nat):AV->AV
 |.agg cs=>.agg (cs.map (aJM l))
 |x=>aJM l x
def num(l:Nat):AV->AV
 |.Mt cs=>.Mt (cs.map (aJN l))
 |x=>aJN l x
section
variable {E':HI}
end
end aNP
def aD8{x:Option R}:qq False x=none:=by simp [qq]
theorem aAk{n:Nat}{r:List AV}:∀{rows:List (List AV)}{i:Nat},Pe n rows->Pe n (rows.set i r)=(rows.length<=i\/yg n r)
 |[],_,_=>eq_true trivial|>.trans (eq_true (.inl (eL _))).symm
 |_::_,0,h=>by
  grind [Pe]
 |_::rows,i+1,h=>by
  show(yg n _/\Pe n (rows.set i r))=_;rw[aAk (rows:=rows) (i:=i) h.2];exact propext ⟨fun q=>q.2.imp Nat.succ_le_succ id,fun q=>⟨h.1,q.imp Nat.le_of_succ_le_succ id⟩⟩
def azg {S:Type}{p:Prop}{x:Option R}{f:R->Option S}:(qq p x).bind f=qq p (x.bind f):=by
 unfold qq;split<;>rfl
def aD9{xs:List W}{r:W}{n:Int}{f:W->Option O}:(AU (xs.set n.toNat r) n).bind f=bif decide (0<=n)&&decide (n.toNat<xs.length)then f r else none:=by
 grind [AU]
def aHa{xs:List W}{r:W}{f:W->Option O}:((xs.set i r)[i]?).bind f=bif decide (i<xs.length)then f r else none:=by
 grind
def azh{e e':Ent}(h:aab P f (tV e))(h':aab P f (tV e')):aab P f (tV (R7 e e')):=by
 intro args r he;unfold tV at he;obtain⟨hn,he⟩:=pH.1 he;rw[ed]at he;obtain⟨q,hq,he⟩:=he;unfold R7 at hq;rw[eZ]at hq;rcases hq with hq|⟨_,hq⟩
 ·exact h args r (pH.2 ⟨hn,by rw[hq];exact he⟩)
 ·exact h' args r (pH.2 ⟨hn,by rw[hq];exact he⟩)
def awn(n:Nat)(xs:List lH)(i:Nat)(r:List AV):Pe n ((mp mS xs).set i r)=(xs.length<=i\/yg n r):=by
 rw[aAk (rows:=mp mS xs) (DO (r:=mJ) xs),R4]
def aEa(n:Int):lH:=(Utf8.encode n).data.toList
def aBT(n:Int):Utf8.encode n=sb (aEa n):=(aty _).symm
def atJ{x y:Option W}{g:W->O}:(x.bind fun r=>some (g r)).or (y.bind fun r=>some (g r))=(x.or y).bind fun r=>some (g r):=by cases x<;>rfl
def aHb(r:Row W):AV->Option (List W)
 |.mj true sz rows=>bif DN sz r.sz rows then tU r.oP rows else none
 |_=>none
def ard {sz:Nat}(h:DN sz k rows=true)(hs:Va rows BA):Pc (.mj true sz rows) (.mj true k BA):=by
 intro E v r;obtain⟨base,cap,h1,h2,_,h4,h5,h6⟩:=adu (t:=true) h hs E v r;obtain⟨aKY,aKZ,h1',_,h3',_⟩:=r;have e:=h1.symm.trans h1';simp only[Value.slice.injEq]at e;obtain⟨rfl,_,rfl⟩:=e;exact⟨base,cap,h1,h2,fun _=>by rw[h3' rfl,hs.1],h4,h5,h6⟩
def aJO (r:Row W):Ty (List W) where
 enc xs:=.mj true r.sz (mp r.enc xs)
 oP _:=aHb r
 ok H n v xs h:=by
  unfold aHb at h;split at h
  ·rename_i sz rows;cases hs:DN sz r.sz rows with
   |false=>rw[hs]at h;cases h
   |true=>
    rw[hs,kP]at h;exact Co.sub (ard hs (R5 h).1) (DO xs)
  ·cases h
 nb _ xs:=DO xs
def aJP{r:Row W}:(∀xs,(aJO r).enc xs=.mj true r.sz (mp r.enc xs))/\∀H v,(aJO r).oP H v=aHb r v:=⟨fun _=>rfl,fun _ _=>rfl⟩
def azi{M:mg R}{k:List Kt}:KY M p k J (.goto l)=none:=rfl
attribute [go_sem] vwN num aJM aJN aIP aFG arT azg or_true aD9 aHa azi awn aBT atJ aJP aHb Bool.not_true Bool.not_false aD8 and_false false_and and_true true_and
theorem adB(s:lH):(sb s).data.toList=s:=by simp [sb]
def aAl {y:AV}{vs:Array aPH}{u v:aPH}(h:l9 E [x,y] vs.toList)(hx:∀w,rD E x w->w=u)(hy:∀w,rD E y w->w=v):vs= #[u,v]:=by
 obtain⟨v0,us,hvs,r0,v1,us1,hus,r1,ajJ⟩:=h;have aLZ:us1=[]:=ajJ
 grind
def aIB(c:Int):UInt8:=c.toNat.toUInt8
def are(he:Bs P f=true)
 (h:∀(s:ByteArray)(c:Int)(w:aPJ),Calls P f #[.string s,.int .u8 c] w fun e w'=>e=.returned (.int .i64 (Lib.indexByte s.data.toList c.toNat.toUInt8))/\w'=w)
 (s:lH) (c:Int):N6 P f [oa.enc s,(oe .u8).enc c] (fun v=>v=(oe .i64).enc (Lib.indexByte s (aIB c))):=by
 refine⟨he,⟨oa.nb 0 _,(oe .u8).nb 0 _,trivial⟩,fun C U w hP hw hN0 hM vs hr=>?_⟩;obtain rfl:=aAl hr (u:=.string (sb s)) (v:=.int .u8 c) (fun _ h=>h) (fun _ h=>h);have:=h (sb s) c w;rw[adB]at this;refine this.mono ?_;rintro e w' ⟨rfl,rfl⟩;exact⟨_,_,U,rfl,rfl,rfl,eD _,fun _ _=>rfl,fun _ _=>rfl,rfl,rfl⟩
def atK(he:Bs P f=true)(hk:aFE g 0)(hkv:∀v,aFF g 0 v->∃m,v=.int .i64 m)
 (h:∀(s sub:ByteArray)(m:Int)(w:aPJ),s.size<4294967281->w.cell? ⟨g,0,none⟩=some (.int .i64 m)->Calls P f #[.string s,.string sub] w fun e w'=>e=.returned (.bool (Lib.contains s.data.toList sub.data.toList))/\w'=w)
 (s sub:lH) (hs:s.length<4294967281):N6 P f [oa.enc s,oa.enc sub] (fun v=>v=p8.enc (Lib.contains s sub)):=by
 refine⟨he,⟨oa.nb 0 _,oa.nb 0 _,trivial⟩,fun C U w hP hw hN0 hM vs hr=>?_⟩;obtain rfl:=aAl hr (u:=.string (sb s)) (v:=.string (sb sub)) (fun _ h=>h) (fun _ h=>h);obtain⟨v,hv,aEb,_⟩:=C.hk.cell g 0 hk;obtain⟨m,rfl⟩:=hkv v aEb;rw[hw]at hv;have:=h (sb s) (sb sub) m w (by rw[SH];exact hs) hv;rw[adB,adB]at this;refine this.mono ?_;rintro e w' ⟨rfl,rfl⟩;exact⟨_,_,U,rfl,rfl,rfl,eD _,fun _ _=>rfl,fun _ _=>rfl,rfl,rfl⟩
def aHc(he:Bs P f=true)(hk:aFE g 0)(hkv:∀v,aFF g 0 v->∃m,v=.int .i64 m)
 (h:∀(s sep:ByteArray)(m:Int)(w:aPJ),s.size<4294967281->w.cell? ⟨g,0,none⟩=some (.int .i64 m)->
   Calls P f #[.string s,.string sep] w fun e w'=>e=.returned (.tuple #[.string ⟨(Lib.cut s.data.toList sep.data.toList).1.toArray⟩,.string ⟨(Lib.cut s.data.toList sep.data.toList).2.1.toArray⟩,.bool (Lib.cut s.data.toList sep.data.toList).2.2])/\∃n,w'=w.drewN n)
 (s sep:lH) (hs:s.length<4294967281):N6 P f [oa.enc s,oa.enc sep] (fun v=>v=(ty3 oa oa p8).enc (Lib.cut s sep)):=by
 refine⟨he,⟨oa.nb 0 _,oa.nb 0 _,trivial⟩,fun C U w hP hw hN0 hM vs hr=>?_⟩;obtain rfl:=aAl hr (u:=.string (sb s)) (v:=.string (sb sep)) (fun _ h=>h) (fun _ h=>h);obtain⟨v,hv,aEb,_⟩:=C.hk.cell g 0 hk;obtain⟨m,rfl⟩:=hkv v aEb;rw[hw]at hv;have:=h (sb s) (sb sep) m w (by rw[SH];exact hs) hv;rw[adB,adB]at this;refine this.mono ?_;rintro e w' ⟨rfl,n,rfl⟩;exact⟨_,_,U,rfl,rfl,⟨_,rfl,_,_,rfl,rfl,_,_,rfl,rfl,_,_,rfl,rfl,rfl⟩,eD _,fun _ _=>rfl,fun _ _=>rfl,rfl,rfl⟩
def atL{t:TypeId}(he:Bs P f=true)
 (h:∀(s chars:ByteArray)(w:aPJ),2<=chars.size->8<s.size->s.size<4294967281->chars.size<4294967281->(∀(j:Nat) b,chars.data.toList[j]? =some b->b.toNat<128)->
   Calls P f #[.string s,.string chars] w fun e w'=>e=.returned (.int .i64 (Lib.indexAny s.data.toList chars.data.toList))/\∃c d,w'=(w.alloc (.cells c t)).alloc (.cells d t))
 (s chars:lH) (h2:2<=chars.length) (h8:8<s.length) (hs:s.length<4294967281) (hc:chars.length<4294967281) (ha:∀b∈chars,b.toNat<128):
 N6 P f [oa.enc s,oa.enc chars] (fun v=>v=(oe .i64).enc (Lib.indexAny s chars)):=by
 refine⟨he,⟨oa.nb 0 _,oa.nb 0 _,trivial⟩,fun C U w hP hw hN0 hM vs hr=>?_⟩;obtain rfl:=aAl hr (u:=.string (sb s)) (v:=.string (sb chars)) (fun _ h=>h) (fun _ h=>h);have hz:∀x:lH,(sb x).size=x.length:=SH;have:=h (sb s) (sb chars) w (by rw[hz];exact h2) (by rw[hz];exact h8) (by rw[hz];exact hs) (by rw[hz];exact hc) (fun j b hb=>ha b (by grind [adB]));rw[adB,adB]at this;refine this.mono ?_;rintro e w' ⟨rfl,c,d,rfl⟩;have aJQ:∀(w:aPJ)(o:Obj),w.alloc o=World.more w o:=fun _ _=>rfl
 simp only[aJQ];have ho:∀(c:Array aPH) c' t' lo hi,Obj.cells c t=.cells c' t' (lo,hi)->lo=0/\hi=0:=by grind
 refine⟨_,_,U,rfl,rfl,rfl,by simp only[aPa];omega,fun b hb=>?_,fun x hx=>?_,rfl,rfl⟩
 ·grind [CL]
 ·rw[AJ _ _ (ho d),AJ _ _ (ho c)]
section az4
variable {F:Fence}
def amw(hdf:J.df=[]):∀(ds:List Deferred)(w:aPJ)(fr:Frame)(cs:List Frame),fr.mode=.returning->fr.defers=ds->F.fn fr.fn->F.room (cs.length+1+n)->pW C U J {tmps:=fr.tmps,defers:=ds} w->
 ∃w',StepsIn (Machine.fenced C.P F) C.P (lone fr cs w) (lone {fr with defers:=[]} cs w')/\pW C U J {tmps:=fr.tmps,defers:=[]} w'
 |[],w,fr,cs,hm,hd,hb,hr,S=>⟨w,by rw[show({fr with defers:=[]}:Frame)=fr by rw[<-hd]];exact StepsIn.refl _,S⟩
 |d::ds,w,fr,cs,hm,hd,hb,hr,S=>by
  have hmk:akq d=true:=by
   have:=S.defers.2.2;rw[hdf]at this;have ajJ:(d::ds).filter (fun d=> !akq d)=[]:=this
   grind
  obtain⟨D,hD,_⟩:=S.defers.2.1 d (List.mem_cons_self) hmk;subst hD;obtain⟨h1,S'⟩:=S.akL;have xF:fr.mode≠ .run:=by rw[hm];simp
  have aL0:=step_collected (P:=C.P) (cs:=cs) xF hd rfl (run_takeDeferred h1);have i1:(lone fr cs w).fenced C.P F:=fenced_out hb hr xF hd (fun g hg=>by simp [Target.leads]at hg);obtain⟨w',hs,S2⟩:=amw hdf ds (w.putObj D (.deferred none)) {fr with defers:=[]++ds} cs hm rfl hb hr S';exact⟨w',.head i1 aL0 hs,S2⟩
end az4
def Xl(C:tC)(fn:Func)(c₀:Frame)(cs:List Frame)(R:Ending->FrameMode->aPJ->Prop):Exit->Act->List Frame->aPJ->Prop
 |.normal,a,cs',w|.ret,a,cs',w=>∃u',cs'={c₀ with mode:=u'}::cs/\∃U J,pW C U J a w/\J.df=[]/\
     ∀w',pW C U J {tmps:=a.tmps,defers:=[]} w'->∃v,(results fn a.tmps).run C.P w'=.ok v w'/\R (.returned v) u' w'
 |_,_,_,_=>False
def Zh{F:Fence}{fn:Func}{c:aPF}{args:Array aPH}{w:aPJ}{R:Ending->FrameMode->aPJ->Prop}
 (hf:C.P.funcs[f]? =some fn) (hb:fn.body=some c) (hF:F.fn f)
 (h:∀(c₀:Frame)(cs:List Frame),c₀.mode=u->c.wpSIn F n C.P (Xl C fn c₀ cs R) {tmps:=args++eG (fn.ntmps-args.size) undef,defers:=[]} (c₀::cs) w):
 CallsDIn F n C.P f args u w R:=by
 refine⟨hF,fun c₀ cs hu SR=>?_⟩
 let b:Frame:={(default:Frame)with fn:=f,kind:=.deferred,roundOf:=none}
 have aJR:Frame.enter C.P f args .deferred=b.atR {tmps:=args++eG (fn.ntmps-args.size) undef,defers:=[]} [.code c]:=by
  grind [Frame.enter,Frame.atR]
 obtain⟨e,a',cs',w',hl,hq,aq4⟩:=h c₀ cs hu b [] rfl rfl hF SR;rw[<-aJR]at aq4;cases e with
 |normal=>
  obtain⟨u',rfl,U,J,S,hdf,hw⟩:=hq;obtain⟨w2,hs,S2⟩:=amw (F:=F) (n:=n) hdf a'.defers w' {b.atR a' []with mode:=.returning} ({c₀ with mode:=u'}::cs) rfl rfl hF SR S;obtain⟨v,hr,hR⟩:=hw w2 S2;exact⟨.returned v,u',w2,_,hR,StepsIn.trans (StepsIn.trans aq4 (.one (fenced_calm (fr:=b.atR a' []) hF SR rfl) (stepR_end rfl))) hs,rfl,rfl,rfl,rfl,fn,hf,hr⟩
 |ret=>
  obtain⟨u',rfl,U,J,S,hdf,hw⟩:=hq;obtain⟨todo,hs0⟩:=aq4.1 rfl;obtain⟨w2,hs,S2⟩:=amw (F:=F) (n:=n) hdf a'.defers w' {b.atR a' todo with mode:=.returning} ({c₀ with mode:=u'}::cs) rfl rfl hF SR S;obtain⟨v,hr,hR⟩:=hw w2 S2;exact⟨.returned v,u',w2,_,hR,StepsIn.trans hs0 hs,rfl,rfl,rfl,rfl,fn,hf,hr⟩
 |panic chain=>exact hq.elim
 |exit id=>exact hq.elim
 |goto l=>exact hq.elim
 |outgrown=>exact hq.elim
def adC(P:aPI)(lR:Array aPE):List aPE->(k9->Prop)->k9->Prop
 |[],K,J=>K J
 |o::rest,K,J=>tH lR o J=some true/\∃e,nf P J o.op=some e/\e.pre/\adC P lR rest K (J.app o.dst e)
def aaf{C:tC}{lR:Array aPE}{K:k9->Prop}{cs:List Frame}{Q:Exit->Act->List Frame->aPJ->Prop}
 (hQ:∀U J a w,pW C U J a w->K J->Q .normal a cs w):∀(rest:List aPE)(k:Nat),lR.toList.drop k=rest->∀(U:Nat->aPH)(J:k9)(a:Act)(w:aPJ),
 adC C.P lR rest K J->pW C U J a w->wpOpsSIn Fence.wide 0 C.P lR Q (fe k rest.length) a cs w
 |[],k,_,U,J,a,w,h,S=>hQ U J a w S h
 |o::rest,k,hk,U,J,a,w,h,S=>by
  have ho:lR[k]? =some o:=by
   have:=congrArg (fun l:List aPE=>l[0]?) hk;simpa using this
  have xn:lR.toList.drop (k+1)=rest:=by
   grind [List.tail_drop]
  obtain⟨hw,e,he,hp,hr⟩:=h;simp only[eF,List.range'_succ,wpOpsSIn,ho];refine⟨fun _ _=>trivial,?_⟩;rw[Dy S hw,if_pos rfl];obtain⟨m,v,w',U',xF,hn,S'⟩:=aOY S he hp;rw[xF];rcases hn with rfl|⟨rfl,rfl⟩
  ·exact aaf hQ rest (k+1) xn U' _ _ w' hr S'
  ·exact aaf hQ rest (k+1) xn U' _ _ w' hr S'
def ann(o:aPE):Bool:=match o.op with
 |.call {callee:=.builtin .recover,args,..}=>args.isEmpty&&o.guard.isNone
 |_=>false
def awo(P:aPI)(rs:List ResultVar)(V:yJ->List lw->Prop):qK->k9->Prop
 |.normal,J=>J.df=[]/\amm P rs V none J
 |.ret,J=>J.df=[]/\amm P rs V none J
 |_,_=>False
def ai4{w:aPJ}{fn:Func}{id:Nat}{rest:List aPE}{V:yJ->List lw->Prop}{u':FrameMode}{v:aPH}{vs0:Array aPH}
 (hf:C.P.funcs[f]? =some fn) (hb:fn.body=some (.seq (.region id lR false) y)) (anW:lR.toList=o::rest) (aft:ann o=true)
 (aL1:∀(c₀:Frame)(cs:List Frame),c₀.mode=u->recoverD (c₀::cs)=some (v,{c₀ with mode:=u'}::cs)\/(recoverD (c₀::cs)=none/\v=.nilIface/\u'=u)) (hn:fn.ntmps=n) (Po:fn.results=rs.toArray) (hN0:C.N0=H.length) (HS:aF1 C U H w) (hra:l9 (C.env U H w) args vs0.toList) (hrx:rD (C.env U H w) x v)
 (h:adC C.P lR rest (fun J1=>∃J2,N4 J1 J2/\awp C.P y (awo C.P rs V) J2) (k9.put {lE:=args++ew (n-args.length) .any,heap:=H,low:=H.length} o.dst x)):
 CallsDIn Fence.wide 0 C.P f vs0 u w (fun e u2 w'=>∃r,e=.returned r/\u2=u'/\∃o U' H',V o H'/\pW C U' {lE:=[],heap:=H',low:=H.length} {tmps:= #[],defers:=[]} w'/\o.rep (C.env U' H' w') (.returned r)):=by
 have hsz:vs0.size=args.length:=by have:=hra.length;simpa using this
 have S:pW C U {lE:=args++ew (n-args.length) .any,heap:=H,low:=H.length} {tmps:=vs0++eG (fn.ntmps-vs0.size) undef,defers:=[]} w:=by
  refine {HS with lE:=?_,defers:=vW.nil};simp only[eI,Array.toList_replicate];refine hra.append ?_;rw[hsz,hn];have:=l9.JR (E:=C.env U H w) (ew (n-args.length) undef);simpa using this
 have MN:∀{U':Nat->aPH}{J':k9}{a'':Act}{w'':aPJ},pW C U' J' a'' w''->J'.low=H.length:=fun S'=>by rw[<-S'.low.1];exact hN0
 refine Zh hf hb trivial ?_;intro c₀ cs hu;refine wpSIn_seq (wpSIn_region ?_)
 have abp:fa lR.size=0::fe 1 rest.length:=by
  grind [Array.length_toList,List.range_eq_range',List.range'_succ]
 have ho:lR[0]? =some o:=by
  have:lR.toList[0]? =some o:=by rw[anW];rfl
  simpa using this
 rw[abp];simp only[wpOpsSIn,ho];refine⟨fun _ _=>trivial,?_⟩
 have xF:(execOp (Act.eval {tmps:=vs0++eG (fn.ntmps-vs0.size) undef,defers:=[]}) o).run C.P w=.ok .recover w/\o.guard=none:=by
  unfold ann at aft;split at aft
  all_goals simp_all [execOp,resolve,invoke,builtin]
 have hw:Region.wanted o (yielded lR (vs0++eG (fn.ntmps-vs0.size) undef))=true:=by
  unfold Region.wanted;rw[xF.2]
 rw[hw,if_pos rfl,xF.1];have S1:=S.put o.dst hrx
 have key:wpOpsSIn Fence.wide 0 C.P lR (Exit.thenS (y.wpSIn Fence.wide 0 C.P (Xl C fn c₀ cs (fun e u2 w'=>∃r,e=.returned r/\u2=u'/\∃o U' H',V o H'/\pW C U' {lE:=[],heap:=H',low:=H.length} {tmps:= #[],defers:=[]} w'/\o.rep (C.env U' H' w') (.returned r))))
  (Xl C fn c₀ cs (fun e u2 w'=>∃r,e=.returned r/\u2=u'/\∃o U' H',V o H'/\pW C U' {lE:=[],heap:=H',low:=H.length} {tmps:= #[],defers:=[]} w'/\o.rep (C.env U' H' w') (.returned r)))) (fe 1 rest.length)
  (Act.put {tmps:=vs0++eG (fn.ntmps-vs0.size) undef,defers:=[]} o.dst v) ({c₀ with mode:=u'}::cs) w:=by
  refine aaf (K:=fun J1=>∃J2,N4 J1 J2/\awp C.P y (awo C.P rs V) J2) ?_ rest 1 (by rw[anW];rfl) U _ _ w h S1;rintro U1 J1 a1 w1 S1 ⟨J2,Mv,hy⟩;obtain⟨U2,S2⟩:=Mv C U1 a1 w1 S1;refine wpSIn_of_wpIn rfl (wpIn_mono (Ch (ro:=none) y _ U2 J2 a1 w1 (.inl rfl) hy S2) ?_);intro e a' w' hq
  have CF:∀U' J',pW C U' J' a' w'->J'.df=[]/\amm C.P rs V none J'->Xl C fn c₀ cs (fun e u2 w'=>∃r,e=.returned r/\u2=u'/\∃o U' H',V o H'/\pW C U' {lE:=[],heap:=H',low:=H.length} {tmps:= #[],defers:=[]} w'/\o.rep (C.env U' H' w') (.returned r)) .normal a' ({c₀ with mode:=u'}::cs) w':=by
   rintro U' J' S' ⟨hdf,xr,hx,r,H',hex,hV'⟩;refine⟨_,rfl,U',J',S',hdf,fun w'' S''=>?_⟩;obtain⟨vv,hv,rv⟩:=SY (fn:=fn) S'' (by rw[Po];exact hx);obtain⟨U3,S3,hr3⟩:=hex C U' _ w'' S'' vv rv;rw[MN S'']at S3;exact⟨vv,hv,vv,rfl,rfl,.ret r,U3,H',hV',S3,hr3⟩
  cases e with
  |normal=>obtain⟨U',J',S',hq⟩:=hq;exact CF U' J' S' hq
  |ret=>obtain⟨U',J',S',hq⟩:=hq;exact CF U' J' S' hq
  |exit id=>obtain⟨_,_,_,hq⟩:=hq;exact hq.elim
  |goto l=>obtain⟨_,_,_,hq⟩:=hq;exact hq.elim
  |panic chain=>obtain⟨_,_,_,_,_,hq,_⟩:=hq;exact hq.elim
  |outgrown=>exact hq.elim
 rcases aL1 c₀ cs hu with hm|⟨hm,hv,hu'⟩
 ·simp only[hm];exact key
 ·simp only[hm];subst hv hu';rw[show({c₀ with mode:=u'}:Frame)=c₀ by rw[<-hu]]at key;exact key
def anX{fn:Func}{id:Nat}{rest:List aPE}{V:yJ->List lw->Prop}(hf:P.funcs[f]? =some fn)(hb:fn.body=some (.seq (.region id lR false) y))(anW:lR.toList=o::rest)(aft:ann o=true)
 (LY:yg H.length (args++[x])) (Mw:∀x∈H,uJ H.length x) (hn:fn.ntmps=n) (Po:fn.results=rs.toArray)
 (h:adC P lR rest (fun J1=>∃J2,N4 J1 J2/\awp P y (awo P rs V) J2) (k9.put {lE:=args++ew (n-args.length) .any,heap:=H,low:=H.length} o.dst x)):FnT P (aq6 P f) (args++[x]) H V:=by
 refine⟨LY,Mw,fun C U w hP h0 hN0 hφ0 hM HS vs hr vs0 v hvs=>?_⟩;subst hP;subst hvs
 have hr':l9 (C.env U H w) args vs0.toList/\rD (C.env U H w) x v:=by
  rw[Array.toList_push]at hr
  have hl:vs0.toList.length=args.length:=by
   have:=hr.length;simp at this;simpa using this
  have h1:=hr.take args.length;have h2:=hr.drop args.length;rw[ez rfl,ez hl]at h1;rw[eA rfl,eA hl]at h2;obtain⟨u,us,he,r1,_⟩:=h2
  grind
 refine BG (ai4 (u':=.panicking [{v,recovered:=true}]) hf hb anW aft (fun c₀ cs hu=>.inl (by simp only[recoverD,hu])) hn Po hN0 HS hr'.1 hr'.2 h) ?_;rintro e u' w' ⟨r,rfl,rfl,xn⟩;exact⟨r,rfl,.inl ⟨rfl,xn⟩⟩
def anY{fn:Func}{id:Nat}{rest:List aPE}{V:yJ->List lw->Prop}(hf:P.funcs[f]? =some fn)(hb:fn.body=some (.seq (.region id lR false) y))(anW:lR.toList=o::rest)(aft:ann o=true)
 (LY:yg H.length args) (Mw:∀x∈H,uJ H.length x) (hn:fn.ntmps=n) (Po:fn.results=rs.toArray)
 (h:adC P lR rest (fun J1=>∃J2,N4 J1 J2/\awp P y (awo P rs V) J2) (k9.put {lE:=args++ew (n-args.length) .any,heap:=H,low:=H.length} o.dst (.uS .nilIface))):FnT P (aq5 P f) args H V:=by
 refine⟨LY,Mw,fun C U w hP h0 hN0 hφ0 hM HS vs hr=>?_⟩;subst hP;refine BG (ai4 (u':=.returning) (x:=.uS .nilIface) (v:=.nilIface) hf hb anW aft (fun c₀ cs hu=>.inr ⟨by simp only[recoverD,hu],rfl,rfl⟩) hn Po hN0 HS hr rfl h) ?_;rintro e u' w' ⟨r,rfl,rfl,xn⟩;exact⟨r,rfl,rfl,xn⟩
section run
variable {M:mg R}
def ano{lR:Array aPE}{K:k9->Prop}:∀(rest:List aPE)(J:k9)(e:qK)(J':k9),rest.all (fun o=>apD o.op&&(match o.op with|.call _=>false|.defer _=>false|_=>o.guard.isNone))=true->zx M lR rest J=some (e,J')->K J'->adC M.P lR rest K J
 |[],J,e,J',_,h,hK=>by simp only[zx,eg,eo]at h;obtain⟨_,rfl⟩:=h;exact hK
 |o::rest,J,e,J',hc,h,hK=>by
  rw[eO,ep,ep]at hc;obtain⟨⟨h1,h2⟩,h3⟩:=hc
  have hg:o.guard=none:=by
   split at h2
   all_goals simp_all
  have hw:tH lR o J=some true:=by unfold tH;rw[hg]
  have hgs:zW lR o true J=J:=atn hw;simp only[zx,hw,kP,hgs,agC h1,avP h1]at h
  have hy:Gf J o.op=none:=by
   unfold Gf
   grind
  have hd:LZ J o.op=none:=by
   unfold LZ
   grind
  simp only[hy,hd]at h;cases he:nf M.P J o.op with
  |none=>simp only[he]at h;cases h
  |some e'=>
   simp only[he]at h;rw[pH]at h;exact⟨hw,e',he,h.1,ano rest _ e J' h3 h.2 hK⟩
def aig(rest:List aPE):Bool:=rest.all fun o=>apD o.op&&(match o.op with|.call _=>false|.defer _=>false|_=>o.guard.isNone)
def aAm{id:Nat}{rest:List aPE}{r:R}(G:KX M)(Q5:M.body= .seq (.region id lR false) y)(awq:aig rest=true)
 (anO:∀J,M.out J=some r->Q .normal J/\Q .ret J) (h:run M [.lR lR rest,.cut [1],.at [1]] J=some r) (hP:∀x J',M.ua x J'=none:=by intros;rfl):adC M.P lR rest (fun J1=>∃J2,N4 J1 J2/\awp M.P y Q J2) J:=by
 have h':CF M [.lR lR rest,.cut [1],.at [1]] .normal J=some r:=h;rw[tF (by simp)]at h';simp only[DL]at h';cases hx:zx M lR rest J with
 |none=>simp only[hx]at h';cases h'
 |some q=>
  obtain⟨e,J1⟩:=q
  have aL2:e=.normal:=adt rest J e J1 (by
   grind [aig]) hx
  subst aL2;simp only[hx]at h';refine ano rest J _ J1 awq hx ?_;rw[tF (by simp)]at h';simp only[DL]at h';cases aI7:M.cut [1] J1 with
  |none=>grind
  |some J2=>
   simp only[aI7,eT]at h';refine⟨J2,G.cut _ _ _ aI7,?_⟩;have h1:sub [1] M.body=y:=by rw[Q5];rfl
   rw[tF (by simp)]at h';simp only[DL,h1]at h';cases WH:exec M y [1] J2 with
   |none=>simp only[WH]at h';cases h'
   |some q=>
    obtain⟨e2,J3⟩:=q;simp only[WH]at h';refine DK G _ [1] _ _ e2 J3 WH ?_;cases e2 with
    |normal=>exact(anO J3 h').1
    |ret=>exact(anO J3 h').2
    |panic x=>simp only[CF,hP]at h';cases h'
    |_=>simp only[CF]at h';cases h'
end run
end Go.Abs
end
